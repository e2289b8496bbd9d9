/-
  Orders of rows: contracts by walks.
-/
import Derived.Test.YtbmnnbglipkidaaGreatDoorFct
import Derived.Test.YtbmnnbglipkidaaGreatDoorWLCofA
namespace Go.Proofs.YtbmnnbglipkidaaGreatDoor
set_option maxRecDepth 100000
set_option maxHeartbeats 4000000
set_option linter.unusedVariables false
set_option linter.unusedSimpArgs false
open Go.RowKit
theorem reordered_w (f:Nat):∀ {W:World} {own:List Asn} {cr:Int} {vcd:Value} {cd:List Int} {er:Int} {ved:Value} {ed:List Int} {vrows:Value} {rows:List Int} (scd:IsS vcd) (ecd:Ent own fun w=>Ints w vcd cd) (sed:IsS ved) (eed:Ent own fun w=>Ints w ved ed) (srows:IsS vrows) (erows:Ent own fun w=>Ints w vrows rows) (hcr:1≤cr∧cr≤4) (hcd:(cd.length:Int)=cr*cr) (her:er=cr) (hed:(ed.length:Int)=cr*cr) (hro:∀ y∈rows,0≤y∧y<cr) (hle:(rows.length:Int)≤cr) (hf:cr<f+rows.length),Spec Tryz.prog 158 [.agg #[.int .i64 (cr),vcd],.agg #[.int .i64 (er),ved],vrows] W own (fun v ow=>v = .bool (reordF cr cd ed f rows)∧ow=own):=by
 induction f with
 | zero =>
   intro W own cr vcd cd er ved ed vrows rows scd ecd sed eed srows erows hcr hcd her hed hro hle hf
   omega
 | succ f ih =>
  intro W own cr vcd cd er ved ed vrows rows scd ecd sed eed srows erows hcr hcd her hed hro hle hf
  refine Spec.enter Tryz.f158 _ Tryz.func158 rfl (n:=116) rfl rfl ?_
  refine Zs (Zr (G.step (OG.box (cs:=[.int .i64 (cr),vcd]) rfl rfl rfl) rfl rfl rfl ?_))
  rintro _ _ ⟨g1,rfl,rfl⟩
  refine G.step (OG.box (cs:=[.int .i64 (er),ved]) rfl rfl rfl) rfl rfl rfl ?_
  rintro _ _ ⟨g2,rfl,rfl⟩
  refine Za rfl (Zn (Zt (Zs (Zr (Zm rfl (Zd (OD.len rfl rfl et22 rfl (Ent.drop 2 erows)) rfl ?_))))))
  refine Za rfl (Zn (Zt (Zs (Zs (Zr (Zm rfl (Zd (OD.fieldAddr rfl rfl fa27_0) rfl ?_)))))))
  refine Zd (OD.load rfl ti3 rfl (i:=1) rfl rfl) rfl ?_
  refine Zd (OD.eql rfl rfl rfl) rfl ?_
  refine Zn (Zt ?_)
  refine GC.cond rfl (fun hc3=>?_) (fun hc3=>?_)
  replace hc3:=eq_of_beq hc3
  refine Zs (Zr (Za rfl (Zn (Zt (GC.ret (GE.passR ?_))))))
  exact GE.body [] 2 (res1 rfl rfl) rfl (⟨congrArg (fun(a0:Bool)=>(.bool (a0):Value)) ((by unfold reordF;rw[if_pos (by omega)]:(true:Bool)=reordF cr cd ed (f+1) rows)),rfl⟩)
  replace hc3:=ne_of_beq_false hc3
  refine Zk (Zt (Zs (Zs (Zr (Zd (OD.fieldAddr rfl rfl fa27_0) rfl ?_)))))
  refine Zd (OD.load rfl ti3 rfl (i:=1) rfl rfl) rfl ?_
  refine Zm rfl (Zn (Zt (GC.block ?_)))
  refine GC.loop (ι:=Nat) (fun i=>[(2,vrows),(3,.pointer (some ⟨g1,0,none⟩)),(4,.pointer (some ⟨g2,0,none⟩)),(7,.int .i64 ((rows.length:Nat))),(19,.int .i64 (cr)),(20,.int .i64 ((i:Int)))]) (fun i=>box g2 27 [.int .i64 (er),ved]::box g1 27 [.int .i64 (cr),vcd]::own) (fun i=>((i:Int)≤cr)∧((List.range i).any (fun(i:Nat)=>(!(rows.contains (i:Int))&&atI cr cd i i==atI cr ed rows.length rows.length)&&(fitI cr cd cr ed rows i rows.length rows.length&&reordF cr cd ed f (rows++[(i:Int)])))=false)) (fun i=>cr.toNat - i) 0 (⟨by omega,rfl⟩) ⟨rfl,rfl,rfl,rfl,rfl,rfl,trivial⟩ [] 0 rfl ?_
  rintro i ⟨hi,hany⟩
  refine Zs (Zr (Zd (OD.lss rfl rfl rfl) rfl ?_))
  refine Zn (Zt (Zs ?_))
  refine GC.cond rfl (fun hc4=>?_) (fun hc4=>?_)
  replace hc4:=of_decide_eq_true hc4
  have hx:=idx_bd (n:=cr) (i:=i) (j:=i) ⟨by omega,by omega⟩ ⟨by omega,by omega⟩ (by omega)
  have hx2:=idx_bd (n:=cr) (i:=rows.length) (j:=rows.length) ⟨by omega,by omega⟩ ⟨by omega,by omega⟩ (by omega)
  have hit:i<cr.toNat:=by omega
  refine Zk (Zt (Zs (GC.block (Zs (Zr ?_)))))
  refine Zm rfl (Za rfl (Zn (Zt (Zs (Zs ?_)))))
  rcases Bool.eq_false_or_eq_true (rows.contains (i:Int)) with hg5 | hg5
  refine GC.at [] 0 (env':=[(2,vrows),(3,.pointer (some ⟨g1,0,none⟩)),(4,.pointer (some ⟨g2,0,none⟩)),(7,.int .i64 ((rows.length:Nat))),(19,.int .i64 (cr)),(20,.int .i64 ((i:Int))),(8,.int .i64 ((i:Int)))]) ⟨rfl,rfl,rfl,rfl,rfl,rfl,rfl,trivial⟩ rfl ?_
  refine GC.par (its:=[Z0 23 vrows,
      Z0 24 (.int .i64 ((i:Int))),
      Z1 25 [(0,23),(1,24)] (.bool true),
      Z1 26 [(2,25)] (.bool true),
      Z1 27 [(3,26)] undef,
      Z1 28 [(3,26),(4,27)] undef,
      Z1 29 [(3,26)] undef,
      Z1 30 [(3,26)] undef,
      Z1 31 [(3,26),(7,30)] undef,
      Z1 32 [(3,26),(6,29),(8,31)] undef,
      Z1 33 [(3,26)] undef,
      Z1 34 [(3,26),(9,32),(10,33)] undef,
      Z1 35 [(3,26),(5,28),(11,34)] undef,
      Z1 36 [(3,26),(12,35)] undef,
      Z1 37 [(3,26)] undef,
      Z1 38 [(3,26),(14,37)] undef,
      Z1 39 [(3,26)] undef,
      Z1 40 [(3,26)] undef,
      Z1 41 [(3,26),(17,40)] undef,
      Z1 42 [(3,26),(16,39),(18,41)] undef,
      Z1 43 [(3,26)] undef,
      Z1 44 [(3,26),(19,42),(20,43)] undef,
      Z1 45 [(3,26),(15,38),(21,44)] undef,
      Z1 46 [(3,26),(22,45)] undef,
      Z1 47 [(3,26),(13,36),(23,46)] undef,
      Z1 48 [(3,26),(24,47)] (.bool true)]) (by kernel_rfl) (by kernel_rfl) (Zc ?_ (Zc ?_ (Zc ?_ (Zc ?_ (Zc ?_ (Zc ?_ (Zc ?_ (Zc ?_ (Zc ?_ (Zc ?_ (Zc ?_ (Zc ?_ (Zc ?_ (Zc ?_ (Zc ?_ (Zc ?_ (Zc ?_ (Zc ?_ (Zc ?_ (Zc ?_ (Zc ?_ (Zc ?_ (Zc ?_ (Zc ?_ (Zc ?_ (Zc ?_ POps.nil)))))))))))))))))))))))))) ?_
  exact fun θ R hd=>Zq (OD.move rfl rfl) rfl
  exact fun θ R hd=>Zq (OD.move rfl rfl) rfl
  exact fun θ R ⟨h0d,h1d,_⟩=>Zq (OG.imp (K':=fun v ow=>v = .bool true∧ow=box g2 27 [.int .i64 (er),ved]::box g1 27 [.int .i64 (cr),vcd]::own++R) (OG.call [vrows,.int .i64 ((i:Int))] ent187 rfl rfl rfl rfl (by exact(containsI_w srows (Ent.drop 2 erows.app) (by omega)))) (by rintro _ _ ⟨rfl,rfl⟩;exact⟨congrArg Value.bool (hg5),rfl⟩)) rfl
  exact fun θ R ⟨h2d,_⟩=>Zq (OD.move rfl rfl) rfl
  exact fun θ R ⟨h3d,_⟩=>Opp.off ⟨[],rfl,trivial,rfl⟩ rfl rfl rfl rfl
  exact fun θ R ⟨h3d,h4d,_⟩=>Opp.off ⟨[],rfl,trivial,rfl⟩ rfl rfl rfl rfl
  exact fun θ R ⟨h3d,_⟩=>Opp.off ⟨[],rfl,trivial,rfl⟩ rfl rfl rfl rfl
  exact fun θ R ⟨h3d,_⟩=>Opp.off ⟨[],rfl,trivial,rfl⟩ rfl rfl rfl rfl
  exact fun θ R ⟨h3d,h7d,_⟩=>Opp.off ⟨[],rfl,trivial,rfl⟩ rfl rfl rfl rfl
  exact fun θ R ⟨h3d,h6d,h8d,_⟩=>Opp.off ⟨[],rfl,trivial,rfl⟩ rfl rfl rfl rfl
  exact fun θ R ⟨h3d,_⟩=>Opp.off ⟨[],rfl,trivial,rfl⟩ rfl rfl rfl rfl
  exact fun θ R ⟨h3d,h9d,h10d,_⟩=>Opp.off ⟨[],rfl,trivial,rfl⟩ rfl rfl rfl rfl
  exact fun θ R ⟨h3d,h5d,h11d,_⟩=>Opp.off ⟨[],rfl,trivial,rfl⟩ rfl rfl rfl rfl
  exact fun θ R ⟨h3d,h12d,_⟩=>Opp.off ⟨[],rfl,trivial,rfl⟩ rfl rfl rfl rfl
  exact fun θ R ⟨h3d,_⟩=>Opp.off ⟨[],rfl,trivial,rfl⟩ rfl rfl rfl rfl
  exact fun θ R ⟨h3d,h14d,_⟩=>Opp.off ⟨[],rfl,trivial,rfl⟩ rfl rfl rfl rfl
  exact fun θ R ⟨h3d,_⟩=>Opp.off ⟨[],rfl,trivial,rfl⟩ rfl rfl rfl rfl
  exact fun θ R ⟨h3d,_⟩=>Opp.off ⟨[],rfl,trivial,rfl⟩ rfl rfl rfl rfl
  exact fun θ R ⟨h3d,h17d,_⟩=>Opp.off ⟨[],rfl,trivial,rfl⟩ rfl rfl rfl rfl
  exact fun θ R ⟨h3d,h16d,h18d,_⟩=>Opp.off ⟨[],rfl,trivial,rfl⟩ rfl rfl rfl rfl
  exact fun θ R ⟨h3d,_⟩=>Opp.off ⟨[],rfl,trivial,rfl⟩ rfl rfl rfl rfl
  exact fun θ R ⟨h3d,h19d,h20d,_⟩=>Opp.off ⟨[],rfl,trivial,rfl⟩ rfl rfl rfl rfl
  exact fun θ R ⟨h3d,h15d,h21d,_⟩=>Opp.off ⟨[],rfl,trivial,rfl⟩ rfl rfl rfl rfl
  exact fun θ R ⟨h3d,h22d,_⟩=>Opp.off ⟨[],rfl,trivial,rfl⟩ rfl rfl rfl rfl
  exact fun θ R ⟨h3d,h13d,h23d,_⟩=>Opp.off ⟨[],rfl,trivial,rfl⟩ rfl rfl rfl rfl
  exact fun θ R ⟨h3d,h24d,_⟩=>Zq (OD.pickT rfl rfl rfl) rfl
  intro θ hall
  obtain⟨_,_,_,_,_,_,_,_,_,_,_,_,_,_,_,_,_,_,_,_,_,_,_,_,_,_,_⟩:=hall
  refine G.at [] 0 (env':=[(2,vrows),(3,.pointer (some ⟨g1,0,none⟩)),(4,.pointer (some ⟨g2,0,none⟩)),(7,.int .i64 ((rows.length:Nat))),(19,.int .i64 (cr)),(20,.int .i64 ((i:Int))),(8,.int .i64 ((i:Int))),(48,.bool true)]) ⟨rfl,rfl,rfl,rfl,rfl,rfl,rfl,rfl,trivial⟩ (own':=box g2 27 [.int .i64 (er),ved]::box g1 27 [.int .i64 (cr),vcd]::own) rfl ?_
  show G _ _ _ [] _ _ _ _
  refine Zn (Zt (GC.condT rfl (GC.exit (Zp (GE.hit (Zt (Zr ?_)))))))
  refine Zd (OD.addI rfl rfl rfl (by omega)) rfl ?_
  exact Zm rfl (Zn (GE.again (i+1) (⟨by omega,any_succ hany (by simp only[atI,hg5,Bool.not_true,Bool.not_false,Bool.and_true,Bool.true_and,Bool.and_false,Bool.false_and,Bool.and_self])⟩) (by first | omega | (dsimp only;omega)) ⟨rfl,rfl,rfl,rfl,rfl,rfl,trivial⟩ [] 0 rfl))
  refine GC.at [] 0 (env':=[(2,vrows),(3,.pointer (some ⟨g1,0,none⟩)),(4,.pointer (some ⟨g2,0,none⟩)),(7,.int .i64 ((rows.length:Nat))),(19,.int .i64 (cr)),(20,.int .i64 ((i:Int))),(8,.int .i64 ((i:Int)))]) ⟨rfl,rfl,rfl,rfl,rfl,rfl,rfl,trivial⟩ rfl ?_
  refine GC.par (its:=[Z0 23 vrows,
      Z0 24 (.int .i64 ((i:Int))),
      Z1 25 [(0,23),(1,24)] (.bool false),
      Z1 26 [(2,25)] (.bool false),
      Z1 27 [(3,26)] (.pointer (some ⟨g1,1,none⟩)),
      Z1 28 [(3,26),(4,27)] vcd,
      Z1 29 [(3,26)] (.int .i64 ((i:Int))),
      Z1 30 [(3,26)] (.pointer (some ⟨g1,0,none⟩)),
      Z1 31 [(3,26),(7,30)] (.int .i64 (cr)),
      Z1 32 [(3,26),(6,29),(8,31)] (.int .i64 ((i:Int)*cr)),
      Z1 33 [(3,26)] (.int .i64 ((i:Int))),
      Z1 34 [(3,26),(9,32),(10,33)] (.int .i64 (((i:Int)*cr)+(i:Int))),
      Z1 35 [(3,26),(5,28),(11,34)] (elemPtr vcd 1 ((((i:Int)*cr)+(i:Int):Int).toNat)),
      Z1 36 [(3,26),(12,35)] (.int .i64 (cd.getD ((((i:Int)*cr)+(i:Int):Int).toNat) 0)),
      Z1 37 [(3,26)] (.pointer (some ⟨g2,1,none⟩)),
      Z1 38 [(3,26),(14,37)] ved,
      Z1 39 [(3,26)] (.int .i64 ((rows.length:Nat))),
      Z1 40 [(3,26)] (.pointer (some ⟨g1,0,none⟩)),
      Z1 41 [(3,26),(17,40)] (.int .i64 (cr)),
      Z1 42 [(3,26),(16,39),(18,41)] (.int .i64 ((rows.length:Nat)*cr)),
      Z1 43 [(3,26)] (.int .i64 ((rows.length:Nat))),
      Z1 44 [(3,26),(19,42),(20,43)] (.int .i64 (((rows.length:Nat)*cr)+(rows.length:Nat))),
      Z1 45 [(3,26),(15,38),(21,44)] (elemPtr ved 1 ((((rows.length:Nat)*cr)+(rows.length:Nat):Int).toNat)),
      Z1 46 [(3,26),(22,45)] (.int .i64 (ed.getD ((((rows.length:Nat)*cr)+(rows.length:Nat):Int).toNat) 0)),
      Z1 47 [(3,26),(13,36),(23,46)] (.bool ((cd.getD ((((i:Int)*cr)+(i:Int):Int).toNat) 0) != (ed.getD ((((rows.length:Nat)*cr)+(rows.length:Nat):Int).toNat) 0))),
      Z1 48 [(3,26),(24,47)] (.bool ((cd.getD ((((i:Int)*cr)+(i:Int):Int).toNat) 0) != (ed.getD ((((rows.length:Nat)*cr)+(rows.length:Nat):Int).toNat) 0)))]) (by kernel_rfl) (by kernel_rfl) (Zc ?_ (Zc ?_ (Zc ?_ (Zc ?_ (Zc ?_ (Zc ?_ (Zc ?_ (Zc ?_ (Zc ?_ (Zc ?_ (Zc ?_ (Zc ?_ (Zc ?_ (Zc ?_ (Zc ?_ (Zc ?_ (Zc ?_ (Zc ?_ (Zc ?_ (Zc ?_ (Zc ?_ (Zc ?_ (Zc ?_ (Zc ?_ (Zc ?_ (Zc ?_ POps.nil)))))))))))))))))))))))))) ?_
  exact fun θ R hd=>Zq (OD.move rfl rfl) rfl
  exact fun θ R hd=>Zq (OD.move rfl rfl) rfl
  exact fun θ R ⟨h0d,h1d,_⟩=>Zq (OG.imp (K':=fun v ow=>v = .bool false∧ow=box g2 27 [.int .i64 (er),ved]::box g1 27 [.int .i64 (cr),vcd]::own++R) (OG.call [vrows,.int .i64 ((i:Int))] ent187 rfl rfl rfl rfl (by exact(containsI_w srows (Ent.drop 2 erows.app) (by omega)))) (by rintro _ _ ⟨rfl,rfl⟩;exact⟨congrArg Value.bool (hg5),rfl⟩)) rfl
  exact fun θ R ⟨h2d,_⟩=>Zq (OD.move rfl rfl) rfl
  exact fun θ R ⟨h3d,_⟩=>Zo (OD.fieldAddr rfl rfl fa27_1) rfl rfl rfl rfl trivial rfl
  exact fun θ R ⟨h3d,h4d,_⟩=>Zo (OD.load rfl ti22 rfl (i:=1) rfl rfl) rfl rfl rfl rfl trivial rfl
  exact fun θ R ⟨h3d,_⟩=>Zo (OD.move rfl rfl) rfl rfl rfl rfl trivial rfl
  exact fun θ R ⟨h3d,_⟩=>Zo (OD.fieldAddr rfl rfl fa27_0) rfl rfl rfl rfl trivial rfl
  exact fun θ R ⟨h3d,h7d,_⟩=>Zo (OD.load rfl ti3 rfl (i:=1) rfl rfl) rfl rfl rfl rfl trivial rfl
  exact fun θ R ⟨h3d,h6d,h8d,_⟩=>Zo (OD.mulI rfl rfl rfl (by omega)) rfl rfl rfl rfl trivial rfl
  exact fun θ R ⟨h3d,_⟩=>Zo (OD.move rfl rfl) rfl rfl rfl rfl trivial rfl
  exact fun θ R ⟨h3d,h9d,h10d,_⟩=>Zo (OD.addI rfl rfl rfl (by omega)) rfl rfl rfl rfl trivial rfl
  exact fun θ R ⟨h3d,h5d,h11d,_⟩=>Zo (OD.indexAddr rfl et22 rfl (Ent.drop 2 ecd.app) rfl (by omega)) rfl rfl rfl rfl trivial rfl
  exact fun θ R ⟨h3d,h12d,_⟩=>Zo (OD.loadInt rfl ti3 rfl (Ent.drop 2 ecd.app) (by omega)) rfl rfl rfl rfl trivial rfl
  exact fun θ R ⟨h3d,_⟩=>Zo (OD.fieldAddr rfl rfl fa27_1) rfl rfl rfl rfl trivial rfl
  exact fun θ R ⟨h3d,h14d,_⟩=>Zo (OD.load rfl ti22 rfl (i:=0) rfl rfl) rfl rfl rfl rfl trivial rfl
  exact fun θ R ⟨h3d,_⟩=>Zo (OD.move rfl rfl) rfl rfl rfl rfl trivial rfl
  exact fun θ R ⟨h3d,_⟩=>Zo (OD.fieldAddr rfl rfl fa27_0) rfl rfl rfl rfl trivial rfl
  exact fun θ R ⟨h3d,h17d,_⟩=>Zo (OD.load rfl ti3 rfl (i:=1) rfl rfl) rfl rfl rfl rfl trivial rfl
  exact fun θ R ⟨h3d,h16d,h18d,_⟩=>Zo (OD.mulI rfl rfl rfl (by omega)) rfl rfl rfl rfl trivial rfl
  exact fun θ R ⟨h3d,_⟩=>Zo (OD.move rfl rfl) rfl rfl rfl rfl trivial rfl
  exact fun θ R ⟨h3d,h19d,h20d,_⟩=>Zo (OD.addI rfl rfl rfl (by omega)) rfl rfl rfl rfl trivial rfl
  exact fun θ R ⟨h3d,h15d,h21d,_⟩=>Zo (OD.indexAddr rfl et22 rfl (Ent.drop 2 eed.app) rfl (by omega)) rfl rfl rfl rfl trivial rfl
  exact fun θ R ⟨h3d,h22d,_⟩=>Zo (OD.loadInt rfl ti3 rfl (Ent.drop 2 eed.app) (by omega)) rfl rfl rfl rfl trivial rfl
  exact fun θ R ⟨h3d,h13d,h23d,_⟩=>Zo (OD.neq rfl rfl rfl) rfl rfl rfl rfl trivial rfl
  exact fun θ R ⟨h3d,h24d,_⟩=>Zq (OD.pickF rfl rfl rfl) rfl
  intro θ hall
  obtain⟨_,_,_,_,_,_,_,_,_,_,_,_,_,_,_,_,_,_,_,_,_,_,_,_,_,_,_⟩:=hall
  refine G.at [] 0 (env':=[(2,vrows),(3,.pointer (some ⟨g1,0,none⟩)),(4,.pointer (some ⟨g2,0,none⟩)),(7,.int .i64 ((rows.length:Nat))),(19,.int .i64 (cr)),(20,.int .i64 ((i:Int))),(8,.int .i64 ((i:Int))),(48,.bool ((cd.getD ((((i:Int)*cr)+(i:Int):Int).toNat) 0) != (ed.getD ((((rows.length:Nat)*cr)+(rows.length:Nat):Int).toNat) 0)))]) ⟨rfl,rfl,rfl,rfl,rfl,rfl,rfl,rfl,trivial⟩ (own':=box g2 27 [.int .i64 (er),ved]::box g1 27 [.int .i64 (cr),vcd]::own) rfl ?_
  show G _ _ _ [] _ _ _ _
  refine Zn (Zt ?_)
  refine GC.cond rfl (fun hc6=>?_) (fun hc6=>?_)
  replace hc6:=ne_of_bne hc6
  have hc6b:=beqI_ne hc6
  refine GC.exit (Zp (GE.hit (Zt (Zr ?_))))
  refine Zd (OD.addI rfl rfl rfl (by omega)) rfl ?_
  exact Zm rfl (Zn (GE.again (i+1) (⟨by omega,any_succ hany (by simp only[atI,hg5,hc6b,Bool.not_true,Bool.not_false,Bool.and_true,Bool.true_and,Bool.and_false,Bool.false_and,Bool.and_self])⟩) (by first | omega | (dsimp only;omega)) ⟨rfl,rfl,rfl,rfl,rfl,rfl,trivial⟩ [] 0 rfl))
  replace hc6:=eq_of_bne_false hc6
  have hc6b:=beq_iff_eq.2 hc6
  refine Zk (Zt (Zs (Zr (Za rfl (Zn (Zt (Zs (Zs (Zr (Zm rfl (Zd (OD.len rfl rfl et22 rfl (Ent.drop 2 erows)) rfl ?_)))))))))))
  refine Zm rfl (Zn (Zt (GC.block ?_)))
  refine GC.loop (ι:=Nat × Bool) (fun⟨j,b⟩=>[(2,vrows),(3,.pointer (some ⟨g1,0,none⟩)),(4,.pointer (some ⟨g2,0,none⟩)),(7,.int .i64 ((rows.length:Nat))),(19,.int .i64 (cr)),(20,.int .i64 ((i:Int))),(8,.int .i64 ((i:Int))),(49,vrows),(50,.int .i64 ((rows.length:Nat))),(9,.bool (b)),(51,.int .i64 ((j:Int)))]) (fun⟨j,b⟩=>box g2 27 [.int .i64 (er),ved]::box g1 27 [.int .i64 (cr),vcd]::own) (fun⟨j,b⟩=>(j≤rows.length)∧(b=(List.range j).foldl (fun(b:Bool) (j:Nat)=>b&&(atI cr cd i (rows.getD j 0)==atI cr ed rows.length j&&atI cr cd (rows.getD j 0) i==atI cr ed j rows.length)) true)) (fun⟨j,b⟩=>rows.length - j) (0,true) (⟨by omega,rfl⟩) ⟨rfl,rfl,rfl,rfl,rfl,rfl,rfl,rfl,rfl,rfl,rfl,trivial⟩ [] 0 rfl ?_
  rintro⟨j,b⟩ ⟨hj,hb⟩
  refine Zs (Zr (Zd (OD.lss rfl rfl rfl) rfl ?_))
  refine Zn (Zt (Zs ?_))
  refine GC.cond rfl (fun hc7=>?_) (fun hc7=>?_)
  replace hc7:=of_decide_eq_true hc7
  have hrj:=getD_rng hro (k:=j) (by omega)
  have hx3:=idx_bd (n:=cr) (i:=i) (j:=rows.getD j 0) ⟨by omega,by omega⟩ ⟨by omega,by omega⟩ (by omega)
  have hx4:=idx_bd (n:=cr) (i:=rows.length) (j:=j) ⟨by omega,by omega⟩ ⟨by omega,by omega⟩ (by omega)
  have hx5:=idx_bd (n:=cr) (i:=rows.getD j 0) (j:=i) ⟨by omega,by omega⟩ ⟨by omega,by omega⟩ (by omega)
  have hx6:=idx_bd (n:=cr) (i:=j) (j:=rows.length) ⟨by omega,by omega⟩ ⟨by omega,by omega⟩ (by omega)
  refine Zk (Zt (Zs (GC.block (Zs (Zr ?_)))))
  refine Zm rfl (Zd (OD.indexAddr rfl et22 rfl (Ent.drop 2 erows) rfl (by omega)) rfl ?_)
  refine Zd (OD.loadInt rfl ti3 rfl (Ent.drop 2 erows) (by omega)) rfl ?_
  refine Za rfl (Za rfl (Zn (Zt ?_)))
  rcases Bool.eq_false_or_eq_true (b) with hg8 | hg8
  rcases Bool.eq_false_or_eq_true ((cd.getD ((((i:Int)*cr)+(rows.getD (j) 0):Int).toNat) 0)==(ed.getD ((((rows.length:Nat)*cr)+(j:Int):Int).toNat) 0)) with hg9 | hg9
  have hg9p:=hg9
  replace hg9p:=eq_of_beq hg9p
  refine GC.at [] 0 (env':=[(2,vrows),(3,.pointer (some ⟨g1,0,none⟩)),(4,.pointer (some ⟨g2,0,none⟩)),(7,.int .i64 ((rows.length:Nat))),(19,.int .i64 (cr)),(20,.int .i64 ((i:Int))),(8,.int .i64 ((i:Int))),(49,vrows),(50,.int .i64 ((rows.length:Nat))),(9,.bool (b)),(51,.int .i64 ((j:Int))),(10,.int .i64 ((j:Int))),(11,.int .i64 (rows.getD (j) 0))]) ⟨rfl,rfl,rfl,rfl,rfl,rfl,rfl,rfl,rfl,rfl,rfl,rfl,rfl,trivial⟩ rfl ?_
  refine GC.par (its:=[Z0 56 (.bool true),
      Z1 57 [(0,56)] (.bool true),
      Z1 58 [(1,57)] (.pointer (some ⟨g1,1,none⟩)),
      Z1 59 [(1,57),(2,58)] vcd,
      Z1 60 [(1,57)] (.int .i64 ((i:Int))),
      Z1 61 [(1,57)] (.pointer (some ⟨g1,0,none⟩)),
      Z1 62 [(1,57),(5,61)] (.int .i64 (cr)),
      Z1 63 [(1,57),(4,60),(6,62)] (.int .i64 ((i:Int)*cr)),
      Z1 64 [(1,57)] (.int .i64 (rows.getD (j) 0)),
      Z1 65 [(1,57),(7,63),(8,64)] (.int .i64 (((i:Int)*cr)+(rows.getD (j) 0))),
      Z1 66 [(1,57),(3,59),(9,65)] (elemPtr vcd 1 ((((i:Int)*cr)+(rows.getD (j) 0):Int).toNat)),
      Z1 67 [(1,57),(10,66)] (.int .i64 (cd.getD ((((i:Int)*cr)+(rows.getD (j) 0):Int).toNat) 0)),
      Z1 68 [(1,57)] (.pointer (some ⟨g2,1,none⟩)),
      Z1 69 [(1,57),(12,68)] ved,
      Z1 70 [(1,57)] (.int .i64 ((rows.length:Nat))),
      Z1 71 [(1,57)] (.pointer (some ⟨g1,0,none⟩)),
      Z1 72 [(1,57),(15,71)] (.int .i64 (cr)),
      Z1 73 [(1,57),(14,70),(16,72)] (.int .i64 ((rows.length:Nat)*cr)),
      Z1 74 [(1,57)] (.int .i64 ((j:Int))),
      Z1 75 [(1,57),(17,73),(18,74)] (.int .i64 (((rows.length:Nat)*cr)+(j:Int))),
      Z1 76 [(1,57),(13,69),(19,75)] (elemPtr ved 1 ((((rows.length:Nat)*cr)+(j:Int):Int).toNat)),
      Z1 77 [(1,57),(20,76)] (.int .i64 (ed.getD ((((rows.length:Nat)*cr)+(j:Int):Int).toNat) 0)),
      Z1 78 [(1,57),(11,67),(21,77)] (.bool true),
      Z1 79 [(1,57),(22,78)] (.bool true),
      Z1 80 [(23,79)] (.bool true),
      Z1 81 [(24,80)] (.pointer (some ⟨g1,1,none⟩)),
      Z1 82 [(24,80),(25,81)] vcd,
      Z1 83 [(24,80)] (.int .i64 (rows.getD (j) 0)),
      Z1 84 [(24,80)] (.pointer (some ⟨g1,0,none⟩)),
      Z1 85 [(24,80),(28,84)] (.int .i64 (cr)),
      Z1 86 [(24,80),(27,83),(29,85)] (.int .i64 ((rows.getD (j) 0)*cr)),
      Z1 87 [(24,80)] (.int .i64 ((i:Int))),
      Z1 88 [(24,80),(30,86),(31,87)] (.int .i64 (((rows.getD (j) 0)*cr)+(i:Int))),
      Z1 89 [(24,80),(26,82),(32,88)] (elemPtr vcd 1 ((((rows.getD (j) 0)*cr)+(i:Int):Int).toNat)),
      Z1 90 [(24,80),(33,89)] (.int .i64 (cd.getD ((((rows.getD (j) 0)*cr)+(i:Int):Int).toNat) 0)),
      Z1 91 [(24,80)] (.pointer (some ⟨g2,1,none⟩)),
      Z1 92 [(24,80),(35,91)] ved,
      Z1 93 [(24,80)] (.int .i64 ((j:Int))),
      Z1 94 [(24,80)] (.pointer (some ⟨g1,0,none⟩)),
      Z1 95 [(24,80),(38,94)] (.int .i64 (cr)),
      Z1 96 [(24,80),(37,93),(39,95)] (.int .i64 ((j:Int)*cr)),
      Z1 97 [(24,80)] (.int .i64 ((rows.length:Nat))),
      Z1 98 [(24,80),(40,96),(41,97)] (.int .i64 (((j:Int)*cr)+(rows.length:Nat))),
      Z1 99 [(24,80),(36,92),(42,98)] (elemPtr ved 1 ((((j:Int)*cr)+(rows.length:Nat):Int).toNat)),
      Z1 100 [(24,80),(43,99)] (.int .i64 (ed.getD ((((j:Int)*cr)+(rows.length:Nat):Int).toNat) 0)),
      Z1 101 [(24,80),(34,90),(44,100)] (.bool ((cd.getD ((((rows.getD (j) 0)*cr)+(i:Int):Int).toNat) 0)==(ed.getD ((((j:Int)*cr)+(rows.length:Nat):Int).toNat) 0))),
      Z1 102 [(24,80),(45,101)] (.bool ((cd.getD ((((rows.getD (j) 0)*cr)+(i:Int):Int).toNat) 0)==(ed.getD ((((j:Int)*cr)+(rows.length:Nat):Int).toNat) 0)))]) (by kernel_rfl) (by kernel_rfl) (Zc ?_ (Zc ?_ (Zc ?_ (Zc ?_ (Zc ?_ (Zc ?_ (Zc ?_ (Zc ?_ (Zc ?_ (Zc ?_ (Zc ?_ (Zc ?_ (Zc ?_ (Zc ?_ (Zc ?_ (Zc ?_ (Zc ?_ (Zc ?_ (Zc ?_ (Zc ?_ (Zc ?_ (Zc ?_ (Zc ?_ (Zc ?_ (Zc ?_ (Zc ?_ (Zc ?_ (Zc ?_ (Zc ?_ (Zc ?_ (Zc ?_ (Zc ?_ (Zc ?_ (Zc ?_ (Zc ?_ (Zc ?_ (Zc ?_ (Zc ?_ (Zc ?_ (Zc ?_ (Zc ?_ (Zc ?_ (Zc ?_ (Zc ?_ (Zc ?_ (Zc ?_ (Zc ?_ POps.nil))))))))))))))))))))))))))))))))))))))))))))))) ?_
  exact fun θ R hd=>Opp.plain (OG.imp (OD.move rfl rfl) (by rintro _ _ ⟨rfl,rfl⟩;exact⟨[],congrArg Value.bool hg8,trivial,rfl⟩)) rfl
  exact fun θ R ⟨h0d,_⟩=>Zq (OD.move rfl rfl) rfl
  exact fun θ R ⟨h1d,_⟩=>Zo (OD.fieldAddr rfl rfl fa27_1) rfl rfl rfl rfl trivial rfl
  exact fun θ R ⟨h1d,h2d,_⟩=>Zo (OD.load rfl ti22 rfl (i:=1) rfl rfl) rfl rfl rfl rfl trivial rfl
  exact fun θ R ⟨h1d,_⟩=>Zo (OD.move rfl rfl) rfl rfl rfl rfl trivial rfl
  exact fun θ R ⟨h1d,_⟩=>Zo (OD.fieldAddr rfl rfl fa27_0) rfl rfl rfl rfl trivial rfl
  exact fun θ R ⟨h1d,h5d,_⟩=>Zo (OD.load rfl ti3 rfl (i:=1) rfl rfl) rfl rfl rfl rfl trivial rfl
  exact fun θ R ⟨h1d,h4d,h6d,_⟩=>Zo (OD.mulI rfl rfl rfl (by omega)) rfl rfl rfl rfl trivial rfl
  exact fun θ R ⟨h1d,_⟩=>Zo (OD.move rfl rfl) rfl rfl rfl rfl trivial rfl
  exact fun θ R ⟨h1d,h7d,h8d,_⟩=>Zo (OD.addI rfl rfl rfl (by omega)) rfl rfl rfl rfl trivial rfl
  exact fun θ R ⟨h1d,h3d,h9d,_⟩=>Zo (OD.indexAddr rfl et22 rfl (Ent.drop 2 ecd.app) rfl (by omega)) rfl rfl rfl rfl trivial rfl
  exact fun θ R ⟨h1d,h10d,_⟩=>Zo (OD.loadInt rfl ti3 rfl (Ent.drop 2 ecd.app) (by omega)) rfl rfl rfl rfl trivial rfl
  exact fun θ R ⟨h1d,_⟩=>Zo (OD.fieldAddr rfl rfl fa27_1) rfl rfl rfl rfl trivial rfl
  exact fun θ R ⟨h1d,h12d,_⟩=>Zo (OD.load rfl ti22 rfl (i:=0) rfl rfl) rfl rfl rfl rfl trivial rfl
  exact fun θ R ⟨h1d,_⟩=>Zo (OD.move rfl rfl) rfl rfl rfl rfl trivial rfl
  exact fun θ R ⟨h1d,_⟩=>Zo (OD.fieldAddr rfl rfl fa27_0) rfl rfl rfl rfl trivial rfl
  exact fun θ R ⟨h1d,h15d,_⟩=>Zo (OD.load rfl ti3 rfl (i:=1) rfl rfl) rfl rfl rfl rfl trivial rfl
  exact fun θ R ⟨h1d,h14d,h16d,_⟩=>Zo (OD.mulI rfl rfl rfl (by omega)) rfl rfl rfl rfl trivial rfl
  exact fun θ R ⟨h1d,_⟩=>Zo (OD.move rfl rfl) rfl rfl rfl rfl trivial rfl
  exact fun θ R ⟨h1d,h17d,h18d,_⟩=>Zo (OD.addI rfl rfl rfl (by omega)) rfl rfl rfl rfl trivial rfl
  exact fun θ R ⟨h1d,h13d,h19d,_⟩=>Zo (OD.indexAddr rfl et22 rfl (Ent.drop 2 eed.app) rfl (by omega)) rfl rfl rfl rfl trivial rfl
  exact fun θ R ⟨h1d,h20d,_⟩=>Zo (OD.loadInt rfl ti3 rfl (Ent.drop 2 eed.app) (by omega)) rfl rfl rfl rfl trivial rfl
  exact fun θ R ⟨h1d,h11d,h21d,_⟩=>Opp.on (OG.imp (OD.eql rfl rfl rfl) (by rintro _ _ ⟨rfl,rfl⟩;exact⟨[],congrArg Value.bool hg9,trivial,rfl⟩)) rfl rfl rfl
  exact fun θ R ⟨h1d,h22d,_⟩=>Zq (OD.pickT rfl rfl rfl) rfl
  exact fun θ R ⟨h23d,_⟩=>Zq (OD.move rfl rfl) rfl
  exact fun θ R ⟨h24d,_⟩=>Zo (OD.fieldAddr rfl rfl fa27_1) rfl rfl rfl rfl trivial rfl
  exact fun θ R ⟨h24d,h25d,_⟩=>Zo (OD.load rfl ti22 rfl (i:=1) rfl rfl) rfl rfl rfl rfl trivial rfl
  exact fun θ R ⟨h24d,_⟩=>Zo (OD.move rfl rfl) rfl rfl rfl rfl trivial rfl
  exact fun θ R ⟨h24d,_⟩=>Zo (OD.fieldAddr rfl rfl fa27_0) rfl rfl rfl rfl trivial rfl
  exact fun θ R ⟨h24d,h28d,_⟩=>Zo (OD.load rfl ti3 rfl (i:=1) rfl rfl) rfl rfl rfl rfl trivial rfl
  exact fun θ R ⟨h24d,h27d,h29d,_⟩=>Zo (OD.mulI rfl rfl rfl (by omega)) rfl rfl rfl rfl trivial rfl
  exact fun θ R ⟨h24d,_⟩=>Zo (OD.move rfl rfl) rfl rfl rfl rfl trivial rfl
  exact fun θ R ⟨h24d,h30d,h31d,_⟩=>Zo (OD.addI rfl rfl rfl (by omega)) rfl rfl rfl rfl trivial rfl
  exact fun θ R ⟨h24d,h26d,h32d,_⟩=>Zo (OD.indexAddr rfl et22 rfl (Ent.drop 2 ecd.app) rfl (by omega)) rfl rfl rfl rfl trivial rfl
  exact fun θ R ⟨h24d,h33d,_⟩=>Zo (OD.loadInt rfl ti3 rfl (Ent.drop 2 ecd.app) (by omega)) rfl rfl rfl rfl trivial rfl
  exact fun θ R ⟨h24d,_⟩=>Zo (OD.fieldAddr rfl rfl fa27_1) rfl rfl rfl rfl trivial rfl
  exact fun θ R ⟨h24d,h35d,_⟩=>Zo (OD.load rfl ti22 rfl (i:=0) rfl rfl) rfl rfl rfl rfl trivial rfl
  exact fun θ R ⟨h24d,_⟩=>Zo (OD.move rfl rfl) rfl rfl rfl rfl trivial rfl
  exact fun θ R ⟨h24d,_⟩=>Zo (OD.fieldAddr rfl rfl fa27_0) rfl rfl rfl rfl trivial rfl
  exact fun θ R ⟨h24d,h38d,_⟩=>Zo (OD.load rfl ti3 rfl (i:=1) rfl rfl) rfl rfl rfl rfl trivial rfl
  exact fun θ R ⟨h24d,h37d,h39d,_⟩=>Zo (OD.mulI rfl rfl rfl (by omega)) rfl rfl rfl rfl trivial rfl
  exact fun θ R ⟨h24d,_⟩=>Zo (OD.move rfl rfl) rfl rfl rfl rfl trivial rfl
  exact fun θ R ⟨h24d,h40d,h41d,_⟩=>Zo (OD.addI rfl rfl rfl (by omega)) rfl rfl rfl rfl trivial rfl
  exact fun θ R ⟨h24d,h36d,h42d,_⟩=>Zo (OD.indexAddr rfl et22 rfl (Ent.drop 2 eed.app) rfl (by omega)) rfl rfl rfl rfl trivial rfl
  exact fun θ R ⟨h24d,h43d,_⟩=>Zo (OD.loadInt rfl ti3 rfl (Ent.drop 2 eed.app) (by omega)) rfl rfl rfl rfl trivial rfl
  exact fun θ R ⟨h24d,h34d,h44d,_⟩=>Zo (OD.eql rfl rfl rfl) rfl rfl rfl rfl trivial rfl
  exact fun θ R ⟨h24d,h45d,_⟩=>Zq (OD.pickT rfl rfl rfl) rfl
  intro θ hall
  obtain⟨_,_,_,_,_,_,_,_,_,_,_,_,_,_,_,_,_,_,_,_,_,_,_,_,_,_,_,_,_,_,_,_,_,_,_,_,_,_,_,_,_,_,_,_,_,_,_,_⟩:=hall
  refine G.at [] 0 (env':=[(2,vrows),(3,.pointer (some ⟨g1,0,none⟩)),(4,.pointer (some ⟨g2,0,none⟩)),(7,.int .i64 ((rows.length:Nat))),(19,.int .i64 (cr)),(20,.int .i64 ((i:Int))),(8,.int .i64 ((i:Int))),(49,vrows),(50,.int .i64 ((rows.length:Nat))),(9,.bool (b)),(51,.int .i64 ((j:Int))),(102,.bool ((cd.getD ((((rows.getD (j) 0)*cr)+(i:Int):Int).toNat) 0)==(ed.getD ((((j:Int)*cr)+(rows.length:Nat):Int).toNat) 0)))]) ⟨rfl,rfl,rfl,rfl,rfl,rfl,rfl,rfl,rfl,rfl,rfl,rfl,trivial⟩ (own':=box g2 27 [.int .i64 (er),ved]::box g1 27 [.int .i64 (cr),vcd]::own) rfl ?_
  show G _ _ _ [_] _ _ _ _
  refine Za rfl (Zn (GE.blockN (Zt (Zr ?_))))
  refine Zd (OD.addI rfl rfl rfl (by omega)) rfl ?_
  exact Zm rfl (Zn (GE.again (j+1,(cd.getD ((((rows.getD (j) 0)*cr)+(i:Int):Int).toNat) 0)==(ed.getD ((((j:Int)*cr)+(rows.length:Nat):Int).toNat) 0)) (⟨by omega,fold_next hb (by simp only[atI];simp_all)⟩) (by first | omega | (dsimp only;omega)) ⟨rfl,rfl,rfl,rfl,rfl,rfl,rfl,rfl,rfl,rfl,rfl,trivial⟩ [] 0 rfl))
  have hg9p:=hg9
  replace hg9p:=ne_of_beq_false hg9p
  refine GC.at [] 0 (env':=[(2,vrows),(3,.pointer (some ⟨g1,0,none⟩)),(4,.pointer (some ⟨g2,0,none⟩)),(7,.int .i64 ((rows.length:Nat))),(19,.int .i64 (cr)),(20,.int .i64 ((i:Int))),(8,.int .i64 ((i:Int))),(49,vrows),(50,.int .i64 ((rows.length:Nat))),(9,.bool (b)),(51,.int .i64 ((j:Int))),(10,.int .i64 ((j:Int))),(11,.int .i64 (rows.getD (j) 0))]) ⟨rfl,rfl,rfl,rfl,rfl,rfl,rfl,rfl,rfl,rfl,rfl,rfl,rfl,trivial⟩ rfl ?_
  refine GC.par (its:=[Z0 56 (.bool true),
      Z1 57 [(0,56)] (.bool true),
      Z1 58 [(1,57)] (.pointer (some ⟨g1,1,none⟩)),
      Z1 59 [(1,57),(2,58)] vcd,
      Z1 60 [(1,57)] (.int .i64 ((i:Int))),
      Z1 61 [(1,57)] (.pointer (some ⟨g1,0,none⟩)),
      Z1 62 [(1,57),(5,61)] (.int .i64 (cr)),
      Z1 63 [(1,57),(4,60),(6,62)] (.int .i64 ((i:Int)*cr)),
      Z1 64 [(1,57)] (.int .i64 (rows.getD (j) 0)),
      Z1 65 [(1,57),(7,63),(8,64)] (.int .i64 (((i:Int)*cr)+(rows.getD (j) 0))),
      Z1 66 [(1,57),(3,59),(9,65)] (elemPtr vcd 1 ((((i:Int)*cr)+(rows.getD (j) 0):Int).toNat)),
      Z1 67 [(1,57),(10,66)] (.int .i64 (cd.getD ((((i:Int)*cr)+(rows.getD (j) 0):Int).toNat) 0)),
      Z1 68 [(1,57)] (.pointer (some ⟨g2,1,none⟩)),
      Z1 69 [(1,57),(12,68)] ved,
      Z1 70 [(1,57)] (.int .i64 ((rows.length:Nat))),
      Z1 71 [(1,57)] (.pointer (some ⟨g1,0,none⟩)),
      Z1 72 [(1,57),(15,71)] (.int .i64 (cr)),
      Z1 73 [(1,57),(14,70),(16,72)] (.int .i64 ((rows.length:Nat)*cr)),
      Z1 74 [(1,57)] (.int .i64 ((j:Int))),
      Z1 75 [(1,57),(17,73),(18,74)] (.int .i64 (((rows.length:Nat)*cr)+(j:Int))),
      Z1 76 [(1,57),(13,69),(19,75)] (elemPtr ved 1 ((((rows.length:Nat)*cr)+(j:Int):Int).toNat)),
      Z1 77 [(1,57),(20,76)] (.int .i64 (ed.getD ((((rows.length:Nat)*cr)+(j:Int):Int).toNat) 0)),
      Z1 78 [(1,57),(11,67),(21,77)] (.bool false),
      Z1 79 [(1,57),(22,78)] (.bool false),
      Z1 80 [(23,79)] (.bool false),
      Z1 81 [(24,80)] undef,
      Z1 82 [(24,80),(25,81)] undef,
      Z1 83 [(24,80)] undef,
      Z1 84 [(24,80)] undef,
      Z1 85 [(24,80),(28,84)] undef,
      Z1 86 [(24,80),(27,83),(29,85)] undef,
      Z1 87 [(24,80)] undef,
      Z1 88 [(24,80),(30,86),(31,87)] undef,
      Z1 89 [(24,80),(26,82),(32,88)] undef,
      Z1 90 [(24,80),(33,89)] undef,
      Z1 91 [(24,80)] undef,
      Z1 92 [(24,80),(35,91)] undef,
      Z1 93 [(24,80)] undef,
      Z1 94 [(24,80)] undef,
      Z1 95 [(24,80),(38,94)] undef,
      Z1 96 [(24,80),(37,93),(39,95)] undef,
      Z1 97 [(24,80)] undef,
      Z1 98 [(24,80),(40,96),(41,97)] undef,
      Z1 99 [(24,80),(36,92),(42,98)] undef,
      Z1 100 [(24,80),(43,99)] undef,
      Z1 101 [(24,80),(34,90),(44,100)] undef,
      Z1 102 [(24,80),(45,101)] (.bool false)]) (by kernel_rfl) (by kernel_rfl) (Zc ?_ (Zc ?_ (Zc ?_ (Zc ?_ (Zc ?_ (Zc ?_ (Zc ?_ (Zc ?_ (Zc ?_ (Zc ?_ (Zc ?_ (Zc ?_ (Zc ?_ (Zc ?_ (Zc ?_ (Zc ?_ (Zc ?_ (Zc ?_ (Zc ?_ (Zc ?_ (Zc ?_ (Zc ?_ (Zc ?_ (Zc ?_ (Zc ?_ (Zc ?_ (Zc ?_ (Zc ?_ (Zc ?_ (Zc ?_ (Zc ?_ (Zc ?_ (Zc ?_ (Zc ?_ (Zc ?_ (Zc ?_ (Zc ?_ (Zc ?_ (Zc ?_ (Zc ?_ (Zc ?_ (Zc ?_ (Zc ?_ (Zc ?_ (Zc ?_ (Zc ?_ (Zc ?_ POps.nil))))))))))))))))))))))))))))))))))))))))))))))) ?_
  exact fun θ R hd=>Opp.plain (OG.imp (OD.move rfl rfl) (by rintro _ _ ⟨rfl,rfl⟩;exact⟨[],congrArg Value.bool hg8,trivial,rfl⟩)) rfl
  exact fun θ R ⟨h0d,_⟩=>Zq (OD.move rfl rfl) rfl
  exact fun θ R ⟨h1d,_⟩=>Zo (OD.fieldAddr rfl rfl fa27_1) rfl rfl rfl rfl trivial rfl
  exact fun θ R ⟨h1d,h2d,_⟩=>Zo (OD.load rfl ti22 rfl (i:=1) rfl rfl) rfl rfl rfl rfl trivial rfl
  exact fun θ R ⟨h1d,_⟩=>Zo (OD.move rfl rfl) rfl rfl rfl rfl trivial rfl
  exact fun θ R ⟨h1d,_⟩=>Zo (OD.fieldAddr rfl rfl fa27_0) rfl rfl rfl rfl trivial rfl
  exact fun θ R ⟨h1d,h5d,_⟩=>Zo (OD.load rfl ti3 rfl (i:=1) rfl rfl) rfl rfl rfl rfl trivial rfl
  exact fun θ R ⟨h1d,h4d,h6d,_⟩=>Zo (OD.mulI rfl rfl rfl (by omega)) rfl rfl rfl rfl trivial rfl
  exact fun θ R ⟨h1d,_⟩=>Zo (OD.move rfl rfl) rfl rfl rfl rfl trivial rfl
  exact fun θ R ⟨h1d,h7d,h8d,_⟩=>Zo (OD.addI rfl rfl rfl (by omega)) rfl rfl rfl rfl trivial rfl
  exact fun θ R ⟨h1d,h3d,h9d,_⟩=>Zo (OD.indexAddr rfl et22 rfl (Ent.drop 2 ecd.app) rfl (by omega)) rfl rfl rfl rfl trivial rfl
  exact fun θ R ⟨h1d,h10d,_⟩=>Zo (OD.loadInt rfl ti3 rfl (Ent.drop 2 ecd.app) (by omega)) rfl rfl rfl rfl trivial rfl
  exact fun θ R ⟨h1d,_⟩=>Zo (OD.fieldAddr rfl rfl fa27_1) rfl rfl rfl rfl trivial rfl
  exact fun θ R ⟨h1d,h12d,_⟩=>Zo (OD.load rfl ti22 rfl (i:=0) rfl rfl) rfl rfl rfl rfl trivial rfl
  exact fun θ R ⟨h1d,_⟩=>Zo (OD.move rfl rfl) rfl rfl rfl rfl trivial rfl
  exact fun θ R ⟨h1d,_⟩=>Zo (OD.fieldAddr rfl rfl fa27_0) rfl rfl rfl rfl trivial rfl
  exact fun θ R ⟨h1d,h15d,_⟩=>Zo (OD.load rfl ti3 rfl (i:=1) rfl rfl) rfl rfl rfl rfl trivial rfl
  exact fun θ R ⟨h1d,h14d,h16d,_⟩=>Zo (OD.mulI rfl rfl rfl (by omega)) rfl rfl rfl rfl trivial rfl
  exact fun θ R ⟨h1d,_⟩=>Zo (OD.move rfl rfl) rfl rfl rfl rfl trivial rfl
  exact fun θ R ⟨h1d,h17d,h18d,_⟩=>Zo (OD.addI rfl rfl rfl (by omega)) rfl rfl rfl rfl trivial rfl
  exact fun θ R ⟨h1d,h13d,h19d,_⟩=>Zo (OD.indexAddr rfl et22 rfl (Ent.drop 2 eed.app) rfl (by omega)) rfl rfl rfl rfl trivial rfl
  exact fun θ R ⟨h1d,h20d,_⟩=>Zo (OD.loadInt rfl ti3 rfl (Ent.drop 2 eed.app) (by omega)) rfl rfl rfl rfl trivial rfl
  exact fun θ R ⟨h1d,h11d,h21d,_⟩=>Opp.on (OG.imp (OD.eql rfl rfl rfl) (by rintro _ _ ⟨rfl,rfl⟩;exact⟨[],congrArg Value.bool hg9,trivial,rfl⟩)) rfl rfl rfl
  exact fun θ R ⟨h1d,h22d,_⟩=>Zq (OD.pickT rfl rfl rfl) rfl
  exact fun θ R ⟨h23d,_⟩=>Zq (OD.move rfl rfl) rfl
  exact fun θ R ⟨h24d,_⟩=>Opp.off ⟨[],rfl,trivial,rfl⟩ rfl rfl rfl rfl
  exact fun θ R ⟨h24d,h25d,_⟩=>Opp.off ⟨[],rfl,trivial,rfl⟩ rfl rfl rfl rfl
  exact fun θ R ⟨h24d,_⟩=>Opp.off ⟨[],rfl,trivial,rfl⟩ rfl rfl rfl rfl
  exact fun θ R ⟨h24d,_⟩=>Opp.off ⟨[],rfl,trivial,rfl⟩ rfl rfl rfl rfl
  exact fun θ R ⟨h24d,h28d,_⟩=>Opp.off ⟨[],rfl,trivial,rfl⟩ rfl rfl rfl rfl
  exact fun θ R ⟨h24d,h27d,h29d,_⟩=>Opp.off ⟨[],rfl,trivial,rfl⟩ rfl rfl rfl rfl
  exact fun θ R ⟨h24d,_⟩=>Opp.off ⟨[],rfl,trivial,rfl⟩ rfl rfl rfl rfl
  exact fun θ R ⟨h24d,h30d,h31d,_⟩=>Opp.off ⟨[],rfl,trivial,rfl⟩ rfl rfl rfl rfl
  exact fun θ R ⟨h24d,h26d,h32d,_⟩=>Opp.off ⟨[],rfl,trivial,rfl⟩ rfl rfl rfl rfl
  exact fun θ R ⟨h24d,h33d,_⟩=>Opp.off ⟨[],rfl,trivial,rfl⟩ rfl rfl rfl rfl
  exact fun θ R ⟨h24d,_⟩=>Opp.off ⟨[],rfl,trivial,rfl⟩ rfl rfl rfl rfl
  exact fun θ R ⟨h24d,h35d,_⟩=>Opp.off ⟨[],rfl,trivial,rfl⟩ rfl rfl rfl rfl
  exact fun θ R ⟨h24d,_⟩=>Opp.off ⟨[],rfl,trivial,rfl⟩ rfl rfl rfl rfl
  exact fun θ R ⟨h24d,_⟩=>Opp.off ⟨[],rfl,trivial,rfl⟩ rfl rfl rfl rfl
  exact fun θ R ⟨h24d,h38d,_⟩=>Opp.off ⟨[],rfl,trivial,rfl⟩ rfl rfl rfl rfl
  exact fun θ R ⟨h24d,h37d,h39d,_⟩=>Opp.off ⟨[],rfl,trivial,rfl⟩ rfl rfl rfl rfl
  exact fun θ R ⟨h24d,_⟩=>Opp.off ⟨[],rfl,trivial,rfl⟩ rfl rfl rfl rfl
  exact fun θ R ⟨h24d,h40d,h41d,_⟩=>Opp.off ⟨[],rfl,trivial,rfl⟩ rfl rfl rfl rfl
  exact fun θ R ⟨h24d,h36d,h42d,_⟩=>Opp.off ⟨[],rfl,trivial,rfl⟩ rfl rfl rfl rfl
  exact fun θ R ⟨h24d,h43d,_⟩=>Opp.off ⟨[],rfl,trivial,rfl⟩ rfl rfl rfl rfl
  exact fun θ R ⟨h24d,h34d,h44d,_⟩=>Opp.off ⟨[],rfl,trivial,rfl⟩ rfl rfl rfl rfl
  exact fun θ R ⟨h24d,h45d,_⟩=>Zq (OD.pickF rfl rfl rfl) rfl
  intro θ hall
  obtain⟨_,_,_,_,_,_,_,_,_,_,_,_,_,_,_,_,_,_,_,_,_,_,_,_,_,_,_,_,_,_,_,_,_,_,_,_,_,_,_,_,_,_,_,_,_,_,_,_⟩:=hall
  refine G.at [] 0 (env':=[(2,vrows),(3,.pointer (some ⟨g1,0,none⟩)),(4,.pointer (some ⟨g2,0,none⟩)),(7,.int .i64 ((rows.length:Nat))),(19,.int .i64 (cr)),(20,.int .i64 ((i:Int))),(8,.int .i64 ((i:Int))),(49,vrows),(50,.int .i64 ((rows.length:Nat))),(9,.bool (b)),(51,.int .i64 ((j:Int))),(102,.bool false)]) ⟨rfl,rfl,rfl,rfl,rfl,rfl,rfl,rfl,rfl,rfl,rfl,rfl,trivial⟩ (own':=box g2 27 [.int .i64 (er),ved]::box g1 27 [.int .i64 (cr),vcd]::own) rfl ?_
  show G _ _ _ [_] _ _ _ _
  refine Za rfl (Zn (GE.blockN (Zt (Zr ?_))))
  refine Zd (OD.addI rfl rfl rfl (by omega)) rfl ?_
  exact Zm rfl (Zn (GE.again (j+1,false) (⟨by omega,fold_next hb (by simp only[atI];simp_all)⟩) (by first | omega | (dsimp only;omega)) ⟨rfl,rfl,rfl,rfl,rfl,rfl,rfl,rfl,rfl,rfl,rfl,trivial⟩ [] 0 rfl))
  refine GC.at [] 0 (env':=[(2,vrows),(3,.pointer (some ⟨g1,0,none⟩)),(4,.pointer (some ⟨g2,0,none⟩)),(7,.int .i64 ((rows.length:Nat))),(19,.int .i64 (cr)),(20,.int .i64 ((i:Int))),(8,.int .i64 ((i:Int))),(49,vrows),(50,.int .i64 ((rows.length:Nat))),(9,.bool (b)),(51,.int .i64 ((j:Int))),(10,.int .i64 ((j:Int))),(11,.int .i64 (rows.getD (j) 0))]) ⟨rfl,rfl,rfl,rfl,rfl,rfl,rfl,rfl,rfl,rfl,rfl,rfl,rfl,trivial⟩ rfl ?_
  refine GC.par (its:=[Z0 56 (.bool false),
      Z1 57 [(0,56)] (.bool false),
      Z1 58 [(1,57)] undef,
      Z1 59 [(1,57),(2,58)] undef,
      Z1 60 [(1,57)] undef,
      Z1 61 [(1,57)] undef,
      Z1 62 [(1,57),(5,61)] undef,
      Z1 63 [(1,57),(4,60),(6,62)] undef,
      Z1 64 [(1,57)] undef,
      Z1 65 [(1,57),(7,63),(8,64)] undef,
      Z1 66 [(1,57),(3,59),(9,65)] undef,
      Z1 67 [(1,57),(10,66)] undef,
      Z1 68 [(1,57)] undef,
      Z1 69 [(1,57),(12,68)] undef,
      Z1 70 [(1,57)] undef,
      Z1 71 [(1,57)] undef,
      Z1 72 [(1,57),(15,71)] undef,
      Z1 73 [(1,57),(14,70),(16,72)] undef,
      Z1 74 [(1,57)] undef,
      Z1 75 [(1,57),(17,73),(18,74)] undef,
      Z1 76 [(1,57),(13,69),(19,75)] undef,
      Z1 77 [(1,57),(20,76)] undef,
      Z1 78 [(1,57),(11,67),(21,77)] undef,
      Z1 79 [(1,57),(22,78)] (.bool false),
      Z1 80 [(23,79)] (.bool false),
      Z1 81 [(24,80)] undef,
      Z1 82 [(24,80),(25,81)] undef,
      Z1 83 [(24,80)] undef,
      Z1 84 [(24,80)] undef,
      Z1 85 [(24,80),(28,84)] undef,
      Z1 86 [(24,80),(27,83),(29,85)] undef,
      Z1 87 [(24,80)] undef,
      Z1 88 [(24,80),(30,86),(31,87)] undef,
      Z1 89 [(24,80),(26,82),(32,88)] undef,
      Z1 90 [(24,80),(33,89)] undef,
      Z1 91 [(24,80)] undef,
      Z1 92 [(24,80),(35,91)] undef,
      Z1 93 [(24,80)] undef,
      Z1 94 [(24,80)] undef,
      Z1 95 [(24,80),(38,94)] undef,
      Z1 96 [(24,80),(37,93),(39,95)] undef,
      Z1 97 [(24,80)] undef,
      Z1 98 [(24,80),(40,96),(41,97)] undef,
      Z1 99 [(24,80),(36,92),(42,98)] undef,
      Z1 100 [(24,80),(43,99)] undef,
      Z1 101 [(24,80),(34,90),(44,100)] undef,
      Z1 102 [(24,80),(45,101)] (.bool false)]) (by kernel_rfl) (by kernel_rfl) (Zc ?_ (Zc ?_ (Zc ?_ (Zc ?_ (Zc ?_ (Zc ?_ (Zc ?_ (Zc ?_ (Zc ?_ (Zc ?_ (Zc ?_ (Zc ?_ (Zc ?_ (Zc ?_ (Zc ?_ (Zc ?_ (Zc ?_ (Zc ?_ (Zc ?_ (Zc ?_ (Zc ?_ (Zc ?_ (Zc ?_ (Zc ?_ (Zc ?_ (Zc ?_ (Zc ?_ (Zc ?_ (Zc ?_ (Zc ?_ (Zc ?_ (Zc ?_ (Zc ?_ (Zc ?_ (Zc ?_ (Zc ?_ (Zc ?_ (Zc ?_ (Zc ?_ (Zc ?_ (Zc ?_ (Zc ?_ (Zc ?_ (Zc ?_ (Zc ?_ (Zc ?_ (Zc ?_ POps.nil))))))))))))))))))))))))))))))))))))))))))))))) ?_
  exact fun θ R hd=>Opp.plain (OG.imp (OD.move rfl rfl) (by rintro _ _ ⟨rfl,rfl⟩;exact⟨[],congrArg Value.bool hg8,trivial,rfl⟩)) rfl
  exact fun θ R ⟨h0d,_⟩=>Zq (OD.move rfl rfl) rfl
  exact fun θ R ⟨h1d,_⟩=>Opp.off ⟨[],rfl,trivial,rfl⟩ rfl rfl rfl rfl
  exact fun θ R ⟨h1d,h2d,_⟩=>Opp.off ⟨[],rfl,trivial,rfl⟩ rfl rfl rfl rfl
  exact fun θ R ⟨h1d,_⟩=>Opp.off ⟨[],rfl,trivial,rfl⟩ rfl rfl rfl rfl
  exact fun θ R ⟨h1d,_⟩=>Opp.off ⟨[],rfl,trivial,rfl⟩ rfl rfl rfl rfl
  exact fun θ R ⟨h1d,h5d,_⟩=>Opp.off ⟨[],rfl,trivial,rfl⟩ rfl rfl rfl rfl
  exact fun θ R ⟨h1d,h4d,h6d,_⟩=>Opp.off ⟨[],rfl,trivial,rfl⟩ rfl rfl rfl rfl
  exact fun θ R ⟨h1d,_⟩=>Opp.off ⟨[],rfl,trivial,rfl⟩ rfl rfl rfl rfl
  exact fun θ R ⟨h1d,h7d,h8d,_⟩=>Opp.off ⟨[],rfl,trivial,rfl⟩ rfl rfl rfl rfl
  exact fun θ R ⟨h1d,h3d,h9d,_⟩=>Opp.off ⟨[],rfl,trivial,rfl⟩ rfl rfl rfl rfl
  exact fun θ R ⟨h1d,h10d,_⟩=>Opp.off ⟨[],rfl,trivial,rfl⟩ rfl rfl rfl rfl
  exact fun θ R ⟨h1d,_⟩=>Opp.off ⟨[],rfl,trivial,rfl⟩ rfl rfl rfl rfl
  exact fun θ R ⟨h1d,h12d,_⟩=>Opp.off ⟨[],rfl,trivial,rfl⟩ rfl rfl rfl rfl
  exact fun θ R ⟨h1d,_⟩=>Opp.off ⟨[],rfl,trivial,rfl⟩ rfl rfl rfl rfl
  exact fun θ R ⟨h1d,_⟩=>Opp.off ⟨[],rfl,trivial,rfl⟩ rfl rfl rfl rfl
  exact fun θ R ⟨h1d,h15d,_⟩=>Opp.off ⟨[],rfl,trivial,rfl⟩ rfl rfl rfl rfl
  exact fun θ R ⟨h1d,h14d,h16d,_⟩=>Opp.off ⟨[],rfl,trivial,rfl⟩ rfl rfl rfl rfl
  exact fun θ R ⟨h1d,_⟩=>Opp.off ⟨[],rfl,trivial,rfl⟩ rfl rfl rfl rfl
  exact fun θ R ⟨h1d,h17d,h18d,_⟩=>Opp.off ⟨[],rfl,trivial,rfl⟩ rfl rfl rfl rfl
  exact fun θ R ⟨h1d,h13d,h19d,_⟩=>Opp.off ⟨[],rfl,trivial,rfl⟩ rfl rfl rfl rfl
  exact fun θ R ⟨h1d,h20d,_⟩=>Opp.off ⟨[],rfl,trivial,rfl⟩ rfl rfl rfl rfl
  exact fun θ R ⟨h1d,h11d,h21d,_⟩=>Opp.off ⟨[],rfl,trivial,rfl⟩ rfl rfl rfl rfl
  exact fun θ R ⟨h1d,h22d,_⟩=>Zq (OD.pickF rfl rfl rfl) rfl
  exact fun θ R ⟨h23d,_⟩=>Zq (OD.move rfl rfl) rfl
  exact fun θ R ⟨h24d,_⟩=>Opp.off ⟨[],rfl,trivial,rfl⟩ rfl rfl rfl rfl
  exact fun θ R ⟨h24d,h25d,_⟩=>Opp.off ⟨[],rfl,trivial,rfl⟩ rfl rfl rfl rfl
  exact fun θ R ⟨h24d,_⟩=>Opp.off ⟨[],rfl,trivial,rfl⟩ rfl rfl rfl rfl
  exact fun θ R ⟨h24d,_⟩=>Opp.off ⟨[],rfl,trivial,rfl⟩ rfl rfl rfl rfl
  exact fun θ R ⟨h24d,h28d,_⟩=>Opp.off ⟨[],rfl,trivial,rfl⟩ rfl rfl rfl rfl
  exact fun θ R ⟨h24d,h27d,h29d,_⟩=>Opp.off ⟨[],rfl,trivial,rfl⟩ rfl rfl rfl rfl
  exact fun θ R ⟨h24d,_⟩=>Opp.off ⟨[],rfl,trivial,rfl⟩ rfl rfl rfl rfl
  exact fun θ R ⟨h24d,h30d,h31d,_⟩=>Opp.off ⟨[],rfl,trivial,rfl⟩ rfl rfl rfl rfl
  exact fun θ R ⟨h24d,h26d,h32d,_⟩=>Opp.off ⟨[],rfl,trivial,rfl⟩ rfl rfl rfl rfl
  exact fun θ R ⟨h24d,h33d,_⟩=>Opp.off ⟨[],rfl,trivial,rfl⟩ rfl rfl rfl rfl
  exact fun θ R ⟨h24d,_⟩=>Opp.off ⟨[],rfl,trivial,rfl⟩ rfl rfl rfl rfl
  exact fun θ R ⟨h24d,h35d,_⟩=>Opp.off ⟨[],rfl,trivial,rfl⟩ rfl rfl rfl rfl
  exact fun θ R ⟨h24d,_⟩=>Opp.off ⟨[],rfl,trivial,rfl⟩ rfl rfl rfl rfl
  exact fun θ R ⟨h24d,_⟩=>Opp.off ⟨[],rfl,trivial,rfl⟩ rfl rfl rfl rfl
  exact fun θ R ⟨h24d,h38d,_⟩=>Opp.off ⟨[],rfl,trivial,rfl⟩ rfl rfl rfl rfl
  exact fun θ R ⟨h24d,h37d,h39d,_⟩=>Opp.off ⟨[],rfl,trivial,rfl⟩ rfl rfl rfl rfl
  exact fun θ R ⟨h24d,_⟩=>Opp.off ⟨[],rfl,trivial,rfl⟩ rfl rfl rfl rfl
  exact fun θ R ⟨h24d,h40d,h41d,_⟩=>Opp.off ⟨[],rfl,trivial,rfl⟩ rfl rfl rfl rfl
  exact fun θ R ⟨h24d,h36d,h42d,_⟩=>Opp.off ⟨[],rfl,trivial,rfl⟩ rfl rfl rfl rfl
  exact fun θ R ⟨h24d,h43d,_⟩=>Opp.off ⟨[],rfl,trivial,rfl⟩ rfl rfl rfl rfl
  exact fun θ R ⟨h24d,h34d,h44d,_⟩=>Opp.off ⟨[],rfl,trivial,rfl⟩ rfl rfl rfl rfl
  exact fun θ R ⟨h24d,h45d,_⟩=>Zq (OD.pickF rfl rfl rfl) rfl
  intro θ hall
  obtain⟨_,_,_,_,_,_,_,_,_,_,_,_,_,_,_,_,_,_,_,_,_,_,_,_,_,_,_,_,_,_,_,_,_,_,_,_,_,_,_,_,_,_,_,_,_,_,_,_⟩:=hall
  refine G.at [] 0 (env':=[(2,vrows),(3,.pointer (some ⟨g1,0,none⟩)),(4,.pointer (some ⟨g2,0,none⟩)),(7,.int .i64 ((rows.length:Nat))),(19,.int .i64 (cr)),(20,.int .i64 ((i:Int))),(8,.int .i64 ((i:Int))),(49,vrows),(50,.int .i64 ((rows.length:Nat))),(9,.bool (b)),(51,.int .i64 ((j:Int))),(102,.bool false)]) ⟨rfl,rfl,rfl,rfl,rfl,rfl,rfl,rfl,rfl,rfl,rfl,rfl,trivial⟩ (own':=box g2 27 [.int .i64 (er),ved]::box g1 27 [.int .i64 (cr),vcd]::own) rfl ?_
  show G _ _ _ [_] _ _ _ _
  refine Za rfl (Zn (GE.blockN (Zt (Zr ?_))))
  refine Zd (OD.addI rfl rfl rfl (by omega)) rfl ?_
  exact Zm rfl (Zn (GE.again (j+1,false) (⟨by omega,fold_next hb (by simp only[atI];simp_all)⟩) (by first | omega | (dsimp only;omega)) ⟨rfl,rfl,rfl,rfl,rfl,rfl,rfl,rfl,rfl,rfl,rfl,trivial⟩ [] 0 rfl))
  replace hc7:=of_decide_eq_false hc7
  have hbf:b=fitI cr cd cr ed rows i rows.length rows.length:=by rw[hb,show j=rows.length by omega];rfl
  refine GC.exit (Zp (Zp (GE.hit (Zt (Zs ?_)))))
  rcases Bool.eq_false_or_eq_true (b) with hg10 | hg10
  refine GC.at [] 0 (env':=[(2,vrows),(3,.pointer (some ⟨g1,0,none⟩)),(4,.pointer (some ⟨g2,0,none⟩)),(7,.int .i64 ((rows.length:Nat))),(19,.int .i64 (cr)),(20,.int .i64 ((i:Int))),(8,.int .i64 ((i:Int))),(9,.bool (b))]) ⟨rfl,rfl,rfl,rfl,rfl,rfl,rfl,rfl,trivial⟩ rfl ?_
  refine GC.par (its:=[Z0 104 (.bool true),
      Z1 105 [(0,104)] (.bool true),
      Z1 106 [(1,105)] (.agg #[.int .i64 (cr),vcd]),
      Z1 107 [(1,105)] (.agg #[.int .i64 (er),ved]),
      Z1 108 [(1,105)] vrows,
      ⟨109,[(1,105),(4,108)],[],[],[5],fun ds=>((ds.getD 0 []).getD 0 undef),fun ds=>IsS ((ds.getD 0 []).getD 0 undef),fun ds=>[ints 3 ((ds.getD 0 []).getD 0 undef) rows]⟩,
      Z1 110 [(1,105)] (.int .i64 ((i:Int))),
      ⟨111,[(1,105),(6,110)],[],[],[7],fun ds=>((ds.getD 0 []).getD 0 undef),fun ds=>IsS ((ds.getD 0 []).getD 0 undef),fun ds=>[ints 3 ((ds.getD 0 []).getD 0 undef) [(i:Int)]]⟩,
      ⟨112,[(1,105),(5,109),(7,111)],[5,7],[5],[5,7,8],fun ds=>((ds.getD 2 []).getD 0 undef),fun ds=>IsS ((ds.getD 2 []).getD 0 undef),fun ds=>[ints 3 ((ds.getD 2 []).getD 0 undef) (rows++[(i:Int)])]⟩,
      ⟨113,[(1,105),(2,106),(3,107),(8,112)],[7,8],[],[5,7,8],fun _ => .bool (reordF cr cd ed f (rows++[(i:Int)])),fun _=>True,fun _=>[]⟩,
      ⟨114,[(1,105),(9,113)],[7,8],[],[5,7,8],fun _ => .bool (reordF cr cd ed f (rows++[(i:Int)])),fun _=>True,fun _=>[]⟩]) (by kernel_rfl) (by kernel_rfl) (Zc ?_ (Zc ?_ (Zc ?_ (Zc ?_ (Zc ?_ (Zc ?_ (Zc ?_ (Zc ?_ (Zc ?_ (Zc ?_ (Zc ?_ POps.nil))))))))))) ?_
  exact fun θ R hd=>Opp.plain (OG.imp (OD.move rfl rfl) (by rintro _ _ ⟨rfl,rfl⟩;exact⟨[],congrArg Value.bool hg10,trivial,rfl⟩)) rfl
  exact fun θ R ⟨h0d,_⟩=>Zq (OD.move rfl rfl) rfl
  exact fun θ R ⟨h1d,_⟩=>Zo (OD.loadAgg rfl ti27 rfl (i:=1) rfl (us:=[.int .i64 (cr),vcd]) rfl rfl) rfl rfl rfl rfl trivial rfl
  exact fun θ R ⟨h1d,_⟩=>Zo (OD.loadAgg rfl ti27 rfl (i:=0) rfl (us:=[.int .i64 (er),ved]) rfl rfl) rfl rfl rfl rfl trivial rfl
  exact fun θ R ⟨h1d,_⟩=>Zo (OD.move rfl rfl) rfl rfl rfl rfl trivial rfl
  exact fun θ R ⟨h1d,h4d,_⟩=>Opp.on (OG.imp (OG.call [vrows] ent130 rfl rfl rfl rfl (by exact(clone_w srows (Ent.drop 2 erows.app) (by omega)))) (by rintro v11 _ ⟨_,rfl,hs12,rfl⟩;exact⟨[v11],rfl,hs12,rfl⟩)) rfl rfl rfl
  exact fun θ R ⟨h1d,_⟩=>Zo (OD.move rfl rfl) rfl rfl rfl rfl trivial rfl
  exact fun θ R ⟨h1d,h6d,_⟩=>Opp.on (OG.imp (OG.buildInts (xs:=[.tmp 110]) (is:=[(i:Int)]) rfl et22 rfl rfl rfl rfl rfl) (by rintro v13 _ ⟨hs14,rfl⟩;exact⟨[v13],rfl,hs14,rfl⟩)) rfl rfl rfl
  exact fun θ R ⟨h1d,h5d,h7d,_⟩=>Opp.on (OG.imp (OG.appendInts 0 rfl rfl et22 rfl rfl rfl (Ent.ints (i:=1) rfl) (by first | omega | (simp;omega))) (by rintro v15 _ ⟨hs16,rfl⟩;exact⟨[v15],rfl,hs16,rfl⟩)) rfl rfl rfl
  exact fun θ R ⟨h1d,h2d,h3d,h8d,_⟩=>Zo (OG.call [.agg #[.int .i64 (cr),vcd],.agg #[.int .i64 (er),ved],((θ 8).getD 0 undef)] ent158 rfl rfl rfl rfl (by exact(ih scd (Ent.drop 4 ecd.app) sed (Ent.drop 4 eed.app) h8d (Ent.ints (i:=1) rfl) (hcr) (hcd) (her) (hed) (rng_snoc hro ⟨by omega,by omega⟩) (by simp;omega) (by simp;omega)))) rfl rfl rfl rfl trivial rfl
  exact fun θ R ⟨h1d,h9d,_⟩=>Zq (OD.pickT rfl rfl rfl) rfl
  intro θ hall
  obtain⟨_,_,_,_,_,h5a,_,h7a,h8a,_,_,_⟩:=hall
  refine G.at [] 0 (env':=[(2,vrows),(3,.pointer (some ⟨g1,0,none⟩)),(4,.pointer (some ⟨g2,0,none⟩)),(7,.int .i64 ((rows.length:Nat))),(19,.int .i64 (cr)),(20,.int .i64 ((i:Int))),(114,.bool (reordF cr cd ed f (rows++[(i:Int)])))]) ⟨rfl,rfl,rfl,rfl,rfl,rfl,rfl,trivial⟩ (own':=ints 3 ((θ 7).getD 0 undef) [(i:Int)]::ints 3 ((θ 8).getD 0 undef) (rows++[(i:Int)])::box g2 27 [.int .i64 (er),ved]::box g1 27 [.int .i64 (cr),vcd]::own) rfl ?_
  have hs17:IsS ((θ 5).getD 0 undef):=h5a
  clear h5a
  generalize ((θ 5).getD 0 undef)=v18 at *
  have hs19:IsS ((θ 7).getD 0 undef):=h7a
  clear h7a
  generalize ((θ 7).getD 0 undef)=v20 at *
  have hs21:IsS ((θ 8).getD 0 undef):=h8a
  clear h8a
  generalize ((θ 8).getD 0 undef)=v22 at *
  show G _ _ _ [] _ _ _ _
  refine Zn (Zt ?_)
  refine GC.cond rfl (fun hc23=>?_) (fun hc23=>?_)
  refine Zs (Zr (Za rfl (Zn (Zt (GC.ret (GE.blockR (GE.passR (GE.passR (GE.blockR (GE.passR ?_))))))))))
  exact GE.body [] 4 (res1 rfl rfl) rfl (⟨congrArg (fun(a0:Bool)=>(.bool (a0):Value)) ((by unfold reordF;rw[if_neg (by omega)];exact(any_hit (k:=i) (by omega) (by simp only[atI,hg5,hg10,hc23,hc6b,← hbf,Bool.not_true,Bool.not_false,Bool.and_true,Bool.true_and,Bool.and_false,Bool.false_and,Bool.and_self])).symm:(true:Bool)=reordF cr cd ed (f+1) rows)),rfl⟩)
  refine Zk (GE.blockN (Zt (Zr ?_)))
  refine Zd (OD.addI rfl rfl rfl (by omega)) rfl ?_
  exact Zm rfl (Zn (GE.again (i+1) (⟨by omega,any_succ hany (by simp only[atI,hg5,hg10,hc23,Bool.not_true,Bool.not_false,Bool.and_true,Bool.true_and,Bool.and_false,Bool.false_and,Bool.and_self])⟩) (by first | omega | (dsimp only;omega)) ⟨rfl,rfl,rfl,rfl,rfl,rfl,trivial⟩ [2,2] 2 rfl))
  refine GC.at [] 0 (env':=[(2,vrows),(3,.pointer (some ⟨g1,0,none⟩)),(4,.pointer (some ⟨g2,0,none⟩)),(7,.int .i64 ((rows.length:Nat))),(19,.int .i64 (cr)),(20,.int .i64 ((i:Int))),(8,.int .i64 ((i:Int))),(9,.bool (b))]) ⟨rfl,rfl,rfl,rfl,rfl,rfl,rfl,rfl,trivial⟩ rfl ?_
  refine GC.par (its:=[Z0 104 (.bool false),
      Z1 105 [(0,104)] (.bool false),
      Z1 106 [(1,105)] undef,
      Z1 107 [(1,105)] undef,
      Z1 108 [(1,105)] undef,
      Z1 109 [(1,105),(4,108)] undef,
      Z1 110 [(1,105)] undef,
      Z1 111 [(1,105),(6,110)] undef,
      Z1 112 [(1,105),(5,109),(7,111)] undef,
      Z1 113 [(1,105),(2,106),(3,107),(8,112)] undef,
      Z1 114 [(1,105),(9,113)] (.bool false)]) (by kernel_rfl) (by kernel_rfl) (Zc ?_ (Zc ?_ (Zc ?_ (Zc ?_ (Zc ?_ (Zc ?_ (Zc ?_ (Zc ?_ (Zc ?_ (Zc ?_ (Zc ?_ POps.nil))))))))))) ?_
  exact fun θ R hd=>Opp.plain (OG.imp (OD.move rfl rfl) (by rintro _ _ ⟨rfl,rfl⟩;exact⟨[],congrArg Value.bool hg10,trivial,rfl⟩)) rfl
  exact fun θ R ⟨h0d,_⟩=>Zq (OD.move rfl rfl) rfl
  exact fun θ R ⟨h1d,_⟩=>Opp.off ⟨[],rfl,trivial,rfl⟩ rfl rfl rfl rfl
  exact fun θ R ⟨h1d,_⟩=>Opp.off ⟨[],rfl,trivial,rfl⟩ rfl rfl rfl rfl
  exact fun θ R ⟨h1d,_⟩=>Opp.off ⟨[],rfl,trivial,rfl⟩ rfl rfl rfl rfl
  exact fun θ R ⟨h1d,h4d,_⟩=>Opp.off ⟨[],rfl,trivial,rfl⟩ rfl rfl rfl rfl
  exact fun θ R ⟨h1d,_⟩=>Opp.off ⟨[],rfl,trivial,rfl⟩ rfl rfl rfl rfl
  exact fun θ R ⟨h1d,h6d,_⟩=>Opp.off ⟨[],rfl,trivial,rfl⟩ rfl rfl rfl rfl
  exact fun θ R ⟨h1d,h5d,h7d,_⟩=>Opp.off ⟨[],rfl,trivial,rfl⟩ rfl rfl rfl rfl
  exact fun θ R ⟨h1d,h2d,h3d,h8d,_⟩=>Opp.off ⟨[],rfl,trivial,rfl⟩ rfl rfl rfl rfl
  exact fun θ R ⟨h1d,h9d,_⟩=>Zq (OD.pickF rfl rfl rfl) rfl
  intro θ hall
  obtain⟨_,_,_,_,_,_,_,_,_,_,_,_⟩:=hall
  refine G.at [] 0 (env':=[(2,vrows),(3,.pointer (some ⟨g1,0,none⟩)),(4,.pointer (some ⟨g2,0,none⟩)),(7,.int .i64 ((rows.length:Nat))),(19,.int .i64 (cr)),(20,.int .i64 ((i:Int))),(114,.bool false)]) ⟨rfl,rfl,rfl,rfl,rfl,rfl,rfl,trivial⟩ (own':=box g2 27 [.int .i64 (er),ved]::box g1 27 [.int .i64 (cr),vcd]::own) rfl ?_
  show G _ _ _ [] _ _ _ _
  refine Zn (Zt (GC.condF rfl (Zk (GE.blockN (Zt (Zr ?_))))))
  refine Zd (OD.addI rfl rfl rfl (by omega)) rfl ?_
  exact Zm rfl (Zn (GE.again (i+1) (⟨by omega,any_succ hany (by simp only[atI,hg5,hg10,← hbf,Bool.not_true,Bool.not_false,Bool.and_true,Bool.true_and,Bool.and_false,Bool.false_and,Bool.and_self])⟩) (by first | omega | (dsimp only;omega)) ⟨rfl,rfl,rfl,rfl,rfl,rfl,trivial⟩ [] 0 rfl))
  replace hc4:=of_decide_eq_false hc4
  have hall:(List.range cr.toNat).any (fun(i:Nat)=>(!(rows.contains (i:Int))&&atI cr cd i i==atI cr ed rows.length rows.length)&&(fitI cr cd cr ed rows i rows.length rows.length&&reordF cr cd ed f (rows++[(i:Int)])))=false:=by rw[show cr.toNat=i by omega];exact hany
  refine GC.exit (Zp (Zp (GE.hit (Zt (Zs (Zr ?_))))))
  refine Za rfl (Zn (Zt (GC.ret ?_)))
  exact GE.body [] 2 (res1 rfl rfl) rfl (⟨congrArg (fun(a0:Bool)=>(.bool (a0):Value)) ((by unfold reordF;rw[if_neg (by omega)];exact hall.symm:(false:Bool)=reordF cr cd ed (f+1) rows)),rfl⟩)
theorem l5Fits_w (f:Nat):∀ {W:World} {own:List Asn} {cr:Int} {vcd:Value} {cd:List Int} {vrows:Value} {rows:List Int} {vused:Value} {used:List Int} {er:Int} {ved:Value} {ed:List Int} (scd:IsS vcd) (ecd:Ent own fun w=>Ints w vcd cd) (srows:IsS vrows) (erows:Ent own fun w=>Ints w vrows rows) (sused:IsS vused) (eused:Ent own fun w=>Ints w vused used) (sed:IsS ved) (eed:Ent own fun w=>Ints w ved ed) (hcr:1≤cr∧cr≤4) (hcd:(cd.length:Int)=cr*cr) (hro:∀ y∈rows,0≤y∧y<cr) (huo:∀ y∈used,0≤y∧y<cr) (her:er=rows.length) (hed:(ed.length:Int)=er*er) (hr4:rows.length≤4) (hle:used.length≤rows.length) (hf:rows.length<f+used.length),Spec Tryz.prog 165 [.agg #[.int .i64 (cr),vcd],vrows,vused,.agg #[.int .i64 (er),ved]] W own (fun v ow=>v = .bool (fitsF cr cd rows er ed f used)∧ow=own):=by
 induction f with
 | zero =>
   intro W own cr vcd cd vrows rows vused used er ved ed scd ecd srows erows sused eused sed eed hcr hcd hro huo her hed hr4 hle hf
   omega
 | succ f ih =>
  intro W own cr vcd cd vrows rows vused used er ved ed scd ecd srows erows sused eused sed eed hcr hcd hro huo her hed hr4 hle hf
  refine Spec.enter Tryz.f165 _ Tryz.func165 rfl (n:=89) rfl rfl ?_
  refine Zs (Zr (G.step (OG.box (cs:=[.int .i64 (cr),vcd]) rfl rfl rfl) rfl rfl rfl ?_))
  rintro _ _ ⟨g1,rfl,rfl⟩
  refine G.step (OG.box (cs:=[.int .i64 (er),ved]) rfl rfl rfl) rfl rfl rfl ?_
  rintro _ _ ⟨g2,rfl,rfl⟩
  refine Za rfl (Zn (Zt (Zs (Zr (Zm rfl (Zd (OD.len rfl rfl et22 rfl (Ent.drop 2 eused)) rfl ?_))))))
  refine Za rfl (Zn (Zt (Zs (Zs (Zr (Zm rfl (Zm rfl (Zd (OD.len rfl rfl et22 rfl (Ent.drop 2 erows)) rfl ?_))))))))
  refine Zd (OD.eql rfl rfl rfl) rfl ?_
  refine Zn (Zt ?_)
  refine GC.cond rfl (fun hc3=>?_) (fun hc3=>?_)
  replace hc3:=eq_of_beq hc3
  refine Zs (Zr (Za rfl (Zn (Zt (GC.ret (GE.passR ?_))))))
  exact GE.body [] 2 (res1 rfl rfl) rfl (⟨congrArg (fun(a0:Bool)=>(.bool (a0):Value)) ((by unfold fitsF;rw[if_pos (by omega)]:(true:Bool)=fitsF cr cd rows er ed (f+1) used)),rfl⟩)
  replace hc3:=ne_of_beq_false hc3
  refine Zk (Zt (Zs (Zs (Zr (Za rfl (Zn (Zt (GC.block ?_))))))))
  refine GC.loop (ι:=Nat) (fun i=>[(1,vrows),(2,vused),(4,.pointer (some ⟨g1,0,none⟩)),(7,.pointer (some ⟨g2,0,none⟩)),(9,.int .i64 ((used.length:Nat))),(10,.int .i64 ((i:Int)))]) (fun i=>box g2 27 [.int .i64 (er),ved]::box g1 27 [.int .i64 (cr),vcd]::own) (fun i=>(i≤rows.length)∧((List.range i).any (fun(i:Nat) => !(used.contains (rows.getD i 0))&&(fitS cr cd er ed (used++[rows.getD i 0]) used.length (used.length+1)&&fitsF cr cd rows er ed f (used++[rows.getD i 0])))=false)) (fun i=>rows.length - i) 0 (⟨by omega,rfl⟩) ⟨rfl,rfl,rfl,rfl,rfl,rfl,trivial⟩ [] 0 rfl ?_
  rintro i ⟨hi,hany⟩
  refine Zs (Zs (Zr (Zm rfl (Zm rfl (Zd (OD.len rfl rfl et22 rfl (Ent.drop 2 erows)) rfl ?_)))))
  refine Zd (OD.lss rfl rfl rfl) rfl ?_
  refine Zn (Zt ?_)
  refine GC.cond rfl (fun hc4=>?_) (fun hc4=>?_)
  replace hc4:=of_decide_eq_true hc4
  have hri:=getD_rng hro (k:=i) (by omega)
  have hnl:(used++[rows.getD i 0]).length=used.length+1:=by simp
  have hng:=rng_snoc huo hri
  refine Zk (Zt (Zs (GC.block (Zs (Zs (Zr ?_))))))
  refine Zm rfl (Zm rfl (Zm rfl (Zd (OD.indexAddr rfl et22 rfl (Ent.drop 2 erows) rfl (by omega)) rfl ?_)))
  refine Zd (OD.loadInt rfl ti3 rfl (Ent.drop 2 erows) (by omega)) rfl ?_
  refine G.step (OG.call [vused,.int .i64 (rows.getD (i) 0)] ent163 rfl rfl rfl rfl (by exact(l1Find_w sused (Ent.drop 2 eused) (by omega)))) rfl rfl rfl ?_
  rintro _ _ ⟨rfl,rfl⟩
  refine Zd (OD.eqv (OD.geq rfl rfl rfl) (congrArg (Value.bool) ((posI_ge _ _):_=(used.contains (rows.getD (i) 0))))) rfl ?_
  refine Zn (Zt ?_)
  refine GC.cond rfl (fun hc5=>?_) (fun hc5=>?_)
  refine GC.exit (Zp (GE.hit (Zt (Zr ?_))))
  refine Zm rfl (Zd (OD.addI rfl rfl rfl (by omega)) rfl ?_)
  exact Za rfl (Zn (GE.again (i+1) (⟨by omega,any_succ hany (by simp only[hc5,Bool.not_true,Bool.not_false,Bool.and_true,Bool.true_and,Bool.and_false,Bool.false_and,Bool.and_self])⟩) (by first | omega | (dsimp only;omega)) ⟨rfl,rfl,rfl,rfl,rfl,rfl,trivial⟩ [] 0 rfl))
  have hc0:=hc5
  refine Zk (Zt (Zs (GC.at [] 0 (env':=[(1,vrows),(2,vused),(4,.pointer (some ⟨g1,0,none⟩)),(7,.pointer (some ⟨g2,0,none⟩)),(9,.int .i64 ((used.length:Nat))),(10,.int .i64 ((i:Int)))]) ⟨rfl,rfl,rfl,rfl,rfl,rfl,trivial⟩ rfl ?_)))
  refine GC.par (its:=[Z0 33 vused,
      ⟨34,[(0,33)],[],[],[1],fun ds=>((ds.getD 0 []).getD 0 undef),fun ds=>IsS ((ds.getD 0 []).getD 0 undef),fun ds=>[ints 3 ((ds.getD 0 []).getD 0 undef) used]⟩,
      Z0 35 vrows,
      Z0 36 (.int .i64 ((i:Int))),
      Z1 37 [(2,35),(3,36)] (elemPtr vrows 1 (i)),
      Z1 38 [(4,37)] (.int .i64 (rows.getD (i) 0)),
      ⟨39,[(5,38)],[],[],[6],fun ds=>((ds.getD 0 []).getD 0 undef),fun ds=>IsS ((ds.getD 0 []).getD 0 undef),fun ds=>[ints 3 ((ds.getD 0 []).getD 0 undef) [rows.getD (i) 0]]⟩,
      ⟨40,[(1,34),(6,39)],[1,6],[1],[1,6,7],fun ds=>((ds.getD 2 []).getD 0 undef),fun ds=>IsS ((ds.getD 2 []).getD 0 undef),fun ds=>[ints 3 ((ds.getD 2 []).getD 0 undef) (used++[rows.getD (i) 0])]⟩]) (by kernel_rfl) (by kernel_rfl) (Zc ?_ (Zc ?_ (Zc ?_ (Zc ?_ (Zc ?_ (Zc ?_ (Zc ?_ (Zc ?_ POps.nil)))))))) ?_
  exact fun θ R hd=>Zq (OD.move rfl rfl) rfl
  exact fun θ R ⟨h0d,_⟩=>Opp.plain (OG.imp (OG.call [vused] ent108 rfl rfl rfl rfl (by exact(l1Ints_w sused (Ent.drop 2 eused.app) (by omega)))) (by rintro v6 _ ⟨_,rfl,hs7,rfl⟩;exact⟨[v6],rfl,hs7,rfl⟩)) rfl
  exact fun θ R hd=>Zq (OD.move rfl rfl) rfl
  exact fun θ R hd=>Zq (OD.move rfl rfl) rfl
  exact fun θ R ⟨h2d,h3d,_⟩=>Zq (OD.indexAddr rfl et22 rfl (Ent.drop 2 erows.app) rfl (by omega)) rfl
  exact fun θ R ⟨h4d,_⟩=>Zq (OD.loadInt rfl ti3 rfl (Ent.drop 2 erows.app) (by omega)) rfl
  exact fun θ R ⟨h5d,_⟩=>Opp.plain (OG.imp (OG.buildInts (xs:=[.tmp 38]) (is:=[rows.getD (i) 0]) rfl et22 rfl rfl rfl rfl rfl) (by rintro v8 _ ⟨hs9,rfl⟩;exact⟨[v8],rfl,hs9,rfl⟩)) rfl
  exact fun θ R ⟨h1d,h6d,_⟩=>Opp.plain (OG.imp (OG.appendInts 0 rfl rfl et22 rfl rfl rfl (Ent.ints (i:=1) rfl) (by first | omega | (simp;omega))) (by rintro v10 _ ⟨hs11,rfl⟩;exact⟨[v10],rfl,hs11,rfl⟩)) rfl
  intro θ hall
  obtain⟨_,h1a,_,_,_,_,h6a,h7a,_⟩:=hall
  refine G.at [] 0 (env':=[(1,vrows),(2,vused),(4,.pointer (some ⟨g1,0,none⟩)),(7,.pointer (some ⟨g2,0,none⟩)),(9,.int .i64 ((used.length:Nat))),(10,.int .i64 ((i:Int))),(40,((θ 7).getD 0 undef))]) ⟨rfl,rfl,rfl,rfl,rfl,rfl,rfl,trivial⟩ (own':=ints 3 ((θ 6).getD 0 undef) [rows.getD (i) 0]::ints 3 ((θ 7).getD 0 undef) (used++[rows.getD (i) 0])::box g2 27 [.int .i64 (er),ved]::box g1 27 [.int .i64 (cr),vcd]::own) rfl ?_
  have hs12:IsS ((θ 1).getD 0 undef):=h1a
  clear h1a
  generalize ((θ 1).getD 0 undef)=v13 at *
  have hs14:IsS ((θ 6).getD 0 undef):=h6a
  clear h6a
  generalize ((θ 6).getD 0 undef)=v15 at *
  have hs16:IsS ((θ 7).getD 0 undef):=h7a
  clear h7a
  generalize ((θ 7).getD 0 undef)=v17 at *
  show G _ _ _ [_] _ _ _ _
  refine Za rfl (Zn (Zt (Zs (Zr (Za rfl (Zn (Zt (Zs (Zs (Zr (Za rfl (Zn (Zt (GC.block ?_))))))))))))))
  refine GC.loop (ι:=Nat × Bool) (fun⟨j,b⟩=>[(1,vrows),(2,vused),(4,.pointer (some ⟨g1,0,none⟩)),(7,.pointer (some ⟨g2,0,none⟩)),(9,.int .i64 ((used.length:Nat))),(10,.int .i64 ((i:Int))),(11,v17),(12,.bool (b)),(13,.int .i64 ((j:Int)))]) (fun⟨j,b⟩=>ints 3 v15 [rows.getD (i) 0]::ints 3 v17 (used++[rows.getD (i) 0])::box g2 27 [.int .i64 (er),ved]::box g1 27 [.int .i64 (cr),vcd]::own) (fun⟨j,b⟩=>(j≤used.length+1)∧(b=(List.range j).foldl (fun(b:Bool) (j:Nat)=>b&&(atI cr cd ((used++[rows.getD i 0]).getD used.length 0) ((used++[rows.getD i 0]).getD j 0)==atI er ed used.length j&&atI cr cd ((used++[rows.getD i 0]).getD j 0) ((used++[rows.getD i 0]).getD used.length 0)==atI er ed j used.length)) true)) (fun⟨j,b⟩=>used.length+1 - j) (0,true) (⟨by omega,rfl⟩) ⟨rfl,rfl,rfl,rfl,rfl,rfl,rfl,rfl,rfl,trivial⟩ [] 0 rfl ?_
  rintro⟨j,b⟩ ⟨hj,hb⟩
  refine Zs (Zs (Zr (Zm rfl (Zm rfl (Zd (OD.leq rfl rfl rfl) rfl ?_)))))
  refine Zn (Zt ?_)
  refine GC.cond rfl (fun hc18=>?_) (fun hc18=>?_)
  replace hc18:=of_decide_eq_true hc18
  have hrj:=getD_rng hng (k:=j) (by omega)
  have hrk:=getD_rng hng (k:=used.length) (by omega)
  have hx3:=idx_bd (n:=cr) (i:=(used++[rows.getD i 0]).getD used.length 0) (j:=(used++[rows.getD i 0]).getD j 0) ⟨by omega,by omega⟩ ⟨by omega,by omega⟩ (by omega)
  have hx4:=idx_bd (n:=er) (i:=used.length) (j:=j) ⟨by omega,by omega⟩ ⟨by omega,by omega⟩ (by omega)
  have hx5:=idx_bd (n:=cr) (i:=(used++[rows.getD i 0]).getD j 0) (j:=(used++[rows.getD i 0]).getD used.length 0) ⟨by omega,by omega⟩ ⟨by omega,by omega⟩ (by omega)
  have hx6:=idx_bd (n:=er) (i:=j) (j:=used.length) ⟨by omega,by omega⟩ ⟨by omega,by omega⟩ (by omega)
  refine Zk (Zt (Zs (GC.block ?_)))
  rcases Bool.eq_false_or_eq_true (b) with hg19 | hg19
  rcases Bool.eq_false_or_eq_true ((atI cr cd ((used++[rows.getD (i) 0]).getD (used.length) 0) ((used++[rows.getD (i) 0]).getD (j) 0))==(atI er ed (used.length:Nat) (j:Int))) with hg20 | hg20
  have hg20p:=hg20
  replace hg20p:=eq_of_beq hg20p
  refine GC.at [] 0 (env':=[(1,vrows),(2,vused),(4,.pointer (some ⟨g1,0,none⟩)),(7,.pointer (some ⟨g2,0,none⟩)),(9,.int .i64 ((used.length:Nat))),(10,.int .i64 ((i:Int))),(11,v17),(12,.bool (b)),(13,.int .i64 ((j:Int)))]) ⟨rfl,rfl,rfl,rfl,rfl,rfl,rfl,rfl,rfl,trivial⟩ rfl ?_
  refine GC.par (its:=[Z0 46 (.bool true),
      Z1 47 [(0,46)] (.bool true),
      Z1 48 [(1,47)] (.agg #[.int .i64 (cr),vcd]),
      Z1 49 [(1,47)] v17,
      Z1 50 [(1,47)] (.int .i64 ((used.length:Nat))),
      Z1 51 [(1,47),(3,49),(4,50)] (elemPtr v17 1 (used.length)),
      Z1 52 [(1,47),(5,51)] (.int .i64 ((used++[rows.getD (i) 0]).getD (used.length) 0)),
      Z1 53 [(1,47)] v17,
      Z1 54 [(1,47)] (.int .i64 ((j:Int))),
      Z1 55 [(1,47),(7,53),(8,54)] (elemPtr v17 1 (j)),
      Z1 56 [(1,47),(9,55)] (.int .i64 ((used++[rows.getD (i) 0]).getD (j) 0)),
      Z1 57 [(1,47),(2,48),(6,52),(10,56)] (.int .i64 (atI cr cd ((used++[rows.getD (i) 0]).getD (used.length) 0) ((used++[rows.getD (i) 0]).getD (j) 0))),
      Z1 58 [(1,47)] (.agg #[.int .i64 (er),ved]),
      Z1 59 [(1,47)] (.int .i64 ((used.length:Nat))),
      Z1 60 [(1,47)] (.int .i64 ((j:Int))),
      Z1 61 [(1,47),(12,58),(13,59),(14,60)] (.int .i64 (atI er ed (used.length:Nat) (j:Int))),
      Z1 62 [(1,47),(11,57),(15,61)] (.bool true),
      Z1 63 [(1,47),(16,62)] (.bool true),
      Z1 64 [(17,63)] (.bool true),
      Z1 65 [(18,64)] (.agg #[.int .i64 (cr),vcd]),
      Z1 66 [(18,64)] v17,
      Z1 67 [(18,64)] (.int .i64 ((j:Int))),
      Z1 68 [(18,64),(20,66),(21,67)] (elemPtr v17 1 (j)),
      Z1 69 [(18,64),(22,68)] (.int .i64 ((used++[rows.getD (i) 0]).getD (j) 0)),
      Z1 70 [(18,64)] v17,
      Z1 71 [(18,64)] (.int .i64 ((used.length:Nat))),
      Z1 72 [(18,64),(24,70),(25,71)] (elemPtr v17 1 (used.length)),
      Z1 73 [(18,64),(26,72)] (.int .i64 ((used++[rows.getD (i) 0]).getD (used.length) 0)),
      Z1 74 [(18,64),(19,65),(23,69),(27,73)] (.int .i64 (atI cr cd ((used++[rows.getD (i) 0]).getD (j) 0) ((used++[rows.getD (i) 0]).getD (used.length) 0))),
      Z1 75 [(18,64)] (.agg #[.int .i64 (er),ved]),
      Z1 76 [(18,64)] (.int .i64 ((j:Int))),
      Z1 77 [(18,64)] (.int .i64 ((used.length:Nat))),
      Z1 78 [(18,64),(29,75),(30,76),(31,77)] (.int .i64 (atI er ed (j:Int) (used.length:Nat))),
      Z1 79 [(18,64),(28,74),(32,78)] (.bool ((atI cr cd ((used++[rows.getD (i) 0]).getD (j) 0) ((used++[rows.getD (i) 0]).getD (used.length) 0))==(atI er ed (j:Int) (used.length:Nat)))),
      Z1 80 [(18,64),(33,79)] (.bool ((atI cr cd ((used++[rows.getD (i) 0]).getD (j) 0) ((used++[rows.getD (i) 0]).getD (used.length) 0))==(atI er ed (j:Int) (used.length:Nat))))]) (by kernel_rfl) (by kernel_rfl) (Zc ?_ (Zc ?_ (Zc ?_ (Zc ?_ (Zc ?_ (Zc ?_ (Zc ?_ (Zc ?_ (Zc ?_ (Zc ?_ (Zc ?_ (Zc ?_ (Zc ?_ (Zc ?_ (Zc ?_ (Zc ?_ (Zc ?_ (Zc ?_ (Zc ?_ (Zc ?_ (Zc ?_ (Zc ?_ (Zc ?_ (Zc ?_ (Zc ?_ (Zc ?_ (Zc ?_ (Zc ?_ (Zc ?_ (Zc ?_ (Zc ?_ (Zc ?_ (Zc ?_ (Zc ?_ (Zc ?_ POps.nil))))))))))))))))))))))))))))))))))) ?_
  exact fun θ R hd=>Opp.plain (OG.imp (OD.move rfl rfl) (by rintro _ _ ⟨rfl,rfl⟩;exact⟨[],congrArg Value.bool hg19,trivial,rfl⟩)) rfl
  exact fun θ R ⟨h0d,_⟩=>Zq (OD.move rfl rfl) rfl
  exact fun θ R ⟨h1d,_⟩=>Zo (OD.loadAgg rfl ti27 rfl (i:=3) rfl (us:=[.int .i64 (cr),vcd]) rfl rfl) rfl rfl rfl rfl trivial rfl
  exact fun θ R ⟨h1d,_⟩=>Zo (OD.move rfl rfl) rfl rfl rfl rfl trivial rfl
  exact fun θ R ⟨h1d,_⟩=>Zo (OD.move rfl rfl) rfl rfl rfl rfl trivial rfl
  exact fun θ R ⟨h1d,h3d,h4d,_⟩=>Zo (OD.indexAddr rfl et22 rfl (Ent.ints (i:=1) rfl) rfl (by omega)) rfl rfl rfl rfl trivial rfl
  exact fun θ R ⟨h1d,h5d,_⟩=>Zo (OD.loadInt rfl ti3 rfl (Ent.ints (i:=1) rfl) (by omega)) rfl rfl rfl rfl trivial rfl
  exact fun θ R ⟨h1d,_⟩=>Zo (OD.move rfl rfl) rfl rfl rfl rfl trivial rfl
  exact fun θ R ⟨h1d,_⟩=>Zo (OD.move rfl rfl) rfl rfl rfl rfl trivial rfl
  exact fun θ R ⟨h1d,h7d,h8d,_⟩=>Zo (OD.indexAddr rfl et22 rfl (Ent.ints (i:=1) rfl) rfl (by omega)) rfl rfl rfl rfl trivial rfl
  exact fun θ R ⟨h1d,h9d,_⟩=>Zo (OD.loadInt rfl ti3 rfl (Ent.ints (i:=1) rfl) (by omega)) rfl rfl rfl rfl trivial rfl
  exact fun θ R ⟨h1d,h2d,h6d,h10d,_⟩=>Zo (OG.call [.agg #[.int .i64 (cr),vcd],.int .i64 ((used++[rows.getD (i) 0]).getD (used.length) 0),.int .i64 ((used++[rows.getD (i) 0]).getD (j) 0)] ent109 rfl rfl rfl rfl (by exact(l5At_w scd (Ent.drop 4 ecd.app) (by omega)))) rfl rfl rfl rfl trivial rfl
  exact fun θ R ⟨h1d,_⟩=>Zo (OD.loadAgg rfl ti27 rfl (i:=2) rfl (us:=[.int .i64 (er),ved]) rfl rfl) rfl rfl rfl rfl trivial rfl
  exact fun θ R ⟨h1d,_⟩=>Zo (OD.move rfl rfl) rfl rfl rfl rfl trivial rfl
  exact fun θ R ⟨h1d,_⟩=>Zo (OD.move rfl rfl) rfl rfl rfl rfl trivial rfl
  exact fun θ R ⟨h1d,h12d,h13d,h14d,_⟩=>Zo (OG.call [.agg #[.int .i64 (er),ved],.int .i64 ((used.length:Nat)),.int .i64 ((j:Int))] ent109 rfl rfl rfl rfl (by exact(l5At_w sed (Ent.drop 4 eed.app) (by omega)))) rfl rfl rfl rfl trivial rfl
  exact fun θ R ⟨h1d,h11d,h15d,_⟩=>Opp.on (OG.imp (OD.eql rfl rfl rfl) (by rintro _ _ ⟨rfl,rfl⟩;exact⟨[],congrArg Value.bool hg20,trivial,rfl⟩)) rfl rfl rfl
  exact fun θ R ⟨h1d,h16d,_⟩=>Zq (OD.pickT rfl rfl rfl) rfl
  exact fun θ R ⟨h17d,_⟩=>Zq (OD.move rfl rfl) rfl
  exact fun θ R ⟨h18d,_⟩=>Zo (OD.loadAgg rfl ti27 rfl (i:=3) rfl (us:=[.int .i64 (cr),vcd]) rfl rfl) rfl rfl rfl rfl trivial rfl
  exact fun θ R ⟨h18d,_⟩=>Zo (OD.move rfl rfl) rfl rfl rfl rfl trivial rfl
  exact fun θ R ⟨h18d,_⟩=>Zo (OD.move rfl rfl) rfl rfl rfl rfl trivial rfl
  exact fun θ R ⟨h18d,h20d,h21d,_⟩=>Zo (OD.indexAddr rfl et22 rfl (Ent.ints (i:=1) rfl) rfl (by omega)) rfl rfl rfl rfl trivial rfl
  exact fun θ R ⟨h18d,h22d,_⟩=>Zo (OD.loadInt rfl ti3 rfl (Ent.ints (i:=1) rfl) (by omega)) rfl rfl rfl rfl trivial rfl
  exact fun θ R ⟨h18d,_⟩=>Zo (OD.move rfl rfl) rfl rfl rfl rfl trivial rfl
  exact fun θ R ⟨h18d,_⟩=>Zo (OD.move rfl rfl) rfl rfl rfl rfl trivial rfl
  exact fun θ R ⟨h18d,h24d,h25d,_⟩=>Zo (OD.indexAddr rfl et22 rfl (Ent.ints (i:=1) rfl) rfl (by omega)) rfl rfl rfl rfl trivial rfl
  exact fun θ R ⟨h18d,h26d,_⟩=>Zo (OD.loadInt rfl ti3 rfl (Ent.ints (i:=1) rfl) (by omega)) rfl rfl rfl rfl trivial rfl
  exact fun θ R ⟨h18d,h19d,h23d,h27d,_⟩=>Zo (OG.call [.agg #[.int .i64 (cr),vcd],.int .i64 ((used++[rows.getD (i) 0]).getD (j) 0),.int .i64 ((used++[rows.getD (i) 0]).getD (used.length) 0)] ent109 rfl rfl rfl rfl (by exact(l5At_w scd (Ent.drop 4 ecd.app) (by omega)))) rfl rfl rfl rfl trivial rfl
  exact fun θ R ⟨h18d,_⟩=>Zo (OD.loadAgg rfl ti27 rfl (i:=2) rfl (us:=[.int .i64 (er),ved]) rfl rfl) rfl rfl rfl rfl trivial rfl
  exact fun θ R ⟨h18d,_⟩=>Zo (OD.move rfl rfl) rfl rfl rfl rfl trivial rfl
  exact fun θ R ⟨h18d,_⟩=>Zo (OD.move rfl rfl) rfl rfl rfl rfl trivial rfl
  exact fun θ R ⟨h18d,h29d,h30d,h31d,_⟩=>Zo (OG.call [.agg #[.int .i64 (er),ved],.int .i64 ((j:Int)),.int .i64 ((used.length:Nat))] ent109 rfl rfl rfl rfl (by exact(l5At_w sed (Ent.drop 4 eed.app) (by omega)))) rfl rfl rfl rfl trivial rfl
  exact fun θ R ⟨h18d,h28d,h32d,_⟩=>Zo (OD.eql rfl rfl rfl) rfl rfl rfl rfl trivial rfl
  exact fun θ R ⟨h18d,h33d,_⟩=>Zq (OD.pickT rfl rfl rfl) rfl
  intro θ hall
  obtain⟨_,_,_,_,_,_,_,_,_,_,_,_,_,_,_,_,_,_,_,_,_,_,_,_,_,_,_,_,_,_,_,_,_,_,_,_⟩:=hall
  refine G.at [] 0 (env':=[(1,vrows),(2,vused),(4,.pointer (some ⟨g1,0,none⟩)),(7,.pointer (some ⟨g2,0,none⟩)),(9,.int .i64 ((used.length:Nat))),(10,.int .i64 ((i:Int))),(11,v17),(12,.bool (b)),(13,.int .i64 ((j:Int))),(80,.bool ((atI cr cd ((used++[rows.getD (i) 0]).getD (j) 0) ((used++[rows.getD (i) 0]).getD (used.length) 0))==(atI er ed (j:Int) (used.length:Nat))))]) ⟨rfl,rfl,rfl,rfl,rfl,rfl,rfl,rfl,rfl,rfl,trivial⟩ (own':=ints 3 v15 [rows.getD (i) 0]::ints 3 v17 (used++[rows.getD (i) 0])::box g2 27 [.int .i64 (er),ved]::box g1 27 [.int .i64 (cr),vcd]::own) rfl ?_
  show G _ _ _ [_] _ _ _ _
  refine Za rfl (Zn (GE.blockN (Zt (Zr ?_))))
  refine Zm rfl (Zd (OD.addI rfl rfl rfl (by omega)) rfl ?_)
  exact Za rfl (Zn (GE.again (j+1,(atI cr cd ((used++[rows.getD (i) 0]).getD (j) 0) ((used++[rows.getD (i) 0]).getD (used.length) 0))==(atI er ed (j:Int) (used.length:Nat))) (⟨by omega,fold_next hb (by simp_all)⟩) (by first | omega | (dsimp only;omega)) ⟨rfl,rfl,rfl,rfl,rfl,rfl,rfl,rfl,rfl,trivial⟩ [] 0 rfl))
  have hg20p:=hg20
  replace hg20p:=ne_of_beq_false hg20p
  refine GC.at [] 0 (env':=[(1,vrows),(2,vused),(4,.pointer (some ⟨g1,0,none⟩)),(7,.pointer (some ⟨g2,0,none⟩)),(9,.int .i64 ((used.length:Nat))),(10,.int .i64 ((i:Int))),(11,v17),(12,.bool (b)),(13,.int .i64 ((j:Int)))]) ⟨rfl,rfl,rfl,rfl,rfl,rfl,rfl,rfl,rfl,trivial⟩ rfl ?_
  refine GC.par (its:=[Z0 46 (.bool true),
      Z1 47 [(0,46)] (.bool true),
      Z1 48 [(1,47)] (.agg #[.int .i64 (cr),vcd]),
      Z1 49 [(1,47)] v17,
      Z1 50 [(1,47)] (.int .i64 ((used.length:Nat))),
      Z1 51 [(1,47),(3,49),(4,50)] (elemPtr v17 1 (used.length)),
      Z1 52 [(1,47),(5,51)] (.int .i64 ((used++[rows.getD (i) 0]).getD (used.length) 0)),
      Z1 53 [(1,47)] v17,
      Z1 54 [(1,47)] (.int .i64 ((j:Int))),
      Z1 55 [(1,47),(7,53),(8,54)] (elemPtr v17 1 (j)),
      Z1 56 [(1,47),(9,55)] (.int .i64 ((used++[rows.getD (i) 0]).getD (j) 0)),
      Z1 57 [(1,47),(2,48),(6,52),(10,56)] (.int .i64 (atI cr cd ((used++[rows.getD (i) 0]).getD (used.length) 0) ((used++[rows.getD (i) 0]).getD (j) 0))),
      Z1 58 [(1,47)] (.agg #[.int .i64 (er),ved]),
      Z1 59 [(1,47)] (.int .i64 ((used.length:Nat))),
      Z1 60 [(1,47)] (.int .i64 ((j:Int))),
      Z1 61 [(1,47),(12,58),(13,59),(14,60)] (.int .i64 (atI er ed (used.length:Nat) (j:Int))),
      Z1 62 [(1,47),(11,57),(15,61)] (.bool false),
      Z1 63 [(1,47),(16,62)] (.bool false),
      Z1 64 [(17,63)] (.bool false),
      Z1 65 [(18,64)] undef,
      Z1 66 [(18,64)] undef,
      Z1 67 [(18,64)] undef,
      Z1 68 [(18,64),(20,66),(21,67)] undef,
      Z1 69 [(18,64),(22,68)] undef,
      Z1 70 [(18,64)] undef,
      Z1 71 [(18,64)] undef,
      Z1 72 [(18,64),(24,70),(25,71)] undef,
      Z1 73 [(18,64),(26,72)] undef,
      Z1 74 [(18,64),(19,65),(23,69),(27,73)] undef,
      Z1 75 [(18,64)] undef,
      Z1 76 [(18,64)] undef,
      Z1 77 [(18,64)] undef,
      Z1 78 [(18,64),(29,75),(30,76),(31,77)] undef,
      Z1 79 [(18,64),(28,74),(32,78)] undef,
      Z1 80 [(18,64),(33,79)] (.bool false)]) (by kernel_rfl) (by kernel_rfl) (Zc ?_ (Zc ?_ (Zc ?_ (Zc ?_ (Zc ?_ (Zc ?_ (Zc ?_ (Zc ?_ (Zc ?_ (Zc ?_ (Zc ?_ (Zc ?_ (Zc ?_ (Zc ?_ (Zc ?_ (Zc ?_ (Zc ?_ (Zc ?_ (Zc ?_ (Zc ?_ (Zc ?_ (Zc ?_ (Zc ?_ (Zc ?_ (Zc ?_ (Zc ?_ (Zc ?_ (Zc ?_ (Zc ?_ (Zc ?_ (Zc ?_ (Zc ?_ (Zc ?_ (Zc ?_ (Zc ?_ POps.nil))))))))))))))))))))))))))))))))))) ?_
  exact fun θ R hd=>Opp.plain (OG.imp (OD.move rfl rfl) (by rintro _ _ ⟨rfl,rfl⟩;exact⟨[],congrArg Value.bool hg19,trivial,rfl⟩)) rfl
  exact fun θ R ⟨h0d,_⟩=>Zq (OD.move rfl rfl) rfl
  exact fun θ R ⟨h1d,_⟩=>Zo (OD.loadAgg rfl ti27 rfl (i:=3) rfl (us:=[.int .i64 (cr),vcd]) rfl rfl) rfl rfl rfl rfl trivial rfl
  exact fun θ R ⟨h1d,_⟩=>Zo (OD.move rfl rfl) rfl rfl rfl rfl trivial rfl
  exact fun θ R ⟨h1d,_⟩=>Zo (OD.move rfl rfl) rfl rfl rfl rfl trivial rfl
  exact fun θ R ⟨h1d,h3d,h4d,_⟩=>Zo (OD.indexAddr rfl et22 rfl (Ent.ints (i:=1) rfl) rfl (by omega)) rfl rfl rfl rfl trivial rfl
  exact fun θ R ⟨h1d,h5d,_⟩=>Zo (OD.loadInt rfl ti3 rfl (Ent.ints (i:=1) rfl) (by omega)) rfl rfl rfl rfl trivial rfl
  exact fun θ R ⟨h1d,_⟩=>Zo (OD.move rfl rfl) rfl rfl rfl rfl trivial rfl
  exact fun θ R ⟨h1d,_⟩=>Zo (OD.move rfl rfl) rfl rfl rfl rfl trivial rfl
  exact fun θ R ⟨h1d,h7d,h8d,_⟩=>Zo (OD.indexAddr rfl et22 rfl (Ent.ints (i:=1) rfl) rfl (by omega)) rfl rfl rfl rfl trivial rfl
  exact fun θ R ⟨h1d,h9d,_⟩=>Zo (OD.loadInt rfl ti3 rfl (Ent.ints (i:=1) rfl) (by omega)) rfl rfl rfl rfl trivial rfl
  exact fun θ R ⟨h1d,h2d,h6d,h10d,_⟩=>Zo (OG.call [.agg #[.int .i64 (cr),vcd],.int .i64 ((used++[rows.getD (i) 0]).getD (used.length) 0),.int .i64 ((used++[rows.getD (i) 0]).getD (j) 0)] ent109 rfl rfl rfl rfl (by exact(l5At_w scd (Ent.drop 4 ecd.app) (by omega)))) rfl rfl rfl rfl trivial rfl
  exact fun θ R ⟨h1d,_⟩=>Zo (OD.loadAgg rfl ti27 rfl (i:=2) rfl (us:=[.int .i64 (er),ved]) rfl rfl) rfl rfl rfl rfl trivial rfl
  exact fun θ R ⟨h1d,_⟩=>Zo (OD.move rfl rfl) rfl rfl rfl rfl trivial rfl
  exact fun θ R ⟨h1d,_⟩=>Zo (OD.move rfl rfl) rfl rfl rfl rfl trivial rfl
  exact fun θ R ⟨h1d,h12d,h13d,h14d,_⟩=>Zo (OG.call [.agg #[.int .i64 (er),ved],.int .i64 ((used.length:Nat)),.int .i64 ((j:Int))] ent109 rfl rfl rfl rfl (by exact(l5At_w sed (Ent.drop 4 eed.app) (by omega)))) rfl rfl rfl rfl trivial rfl
  exact fun θ R ⟨h1d,h11d,h15d,_⟩=>Opp.on (OG.imp (OD.eql rfl rfl rfl) (by rintro _ _ ⟨rfl,rfl⟩;exact⟨[],congrArg Value.bool hg20,trivial,rfl⟩)) rfl rfl rfl
  exact fun θ R ⟨h1d,h16d,_⟩=>Zq (OD.pickT rfl rfl rfl) rfl
  exact fun θ R ⟨h17d,_⟩=>Zq (OD.move rfl rfl) rfl
  exact fun θ R ⟨h18d,_⟩=>Opp.off ⟨[],rfl,trivial,rfl⟩ rfl rfl rfl rfl
  exact fun θ R ⟨h18d,_⟩=>Opp.off ⟨[],rfl,trivial,rfl⟩ rfl rfl rfl rfl
  exact fun θ R ⟨h18d,_⟩=>Opp.off ⟨[],rfl,trivial,rfl⟩ rfl rfl rfl rfl
  exact fun θ R ⟨h18d,h20d,h21d,_⟩=>Opp.off ⟨[],rfl,trivial,rfl⟩ rfl rfl rfl rfl
  exact fun θ R ⟨h18d,h22d,_⟩=>Opp.off ⟨[],rfl,trivial,rfl⟩ rfl rfl rfl rfl
  exact fun θ R ⟨h18d,_⟩=>Opp.off ⟨[],rfl,trivial,rfl⟩ rfl rfl rfl rfl
  exact fun θ R ⟨h18d,_⟩=>Opp.off ⟨[],rfl,trivial,rfl⟩ rfl rfl rfl rfl
  exact fun θ R ⟨h18d,h24d,h25d,_⟩=>Opp.off ⟨[],rfl,trivial,rfl⟩ rfl rfl rfl rfl
  exact fun θ R ⟨h18d,h26d,_⟩=>Opp.off ⟨[],rfl,trivial,rfl⟩ rfl rfl rfl rfl
  exact fun θ R ⟨h18d,h19d,h23d,h27d,_⟩=>Opp.off ⟨[],rfl,trivial,rfl⟩ rfl rfl rfl rfl
  exact fun θ R ⟨h18d,_⟩=>Opp.off ⟨[],rfl,trivial,rfl⟩ rfl rfl rfl rfl
  exact fun θ R ⟨h18d,_⟩=>Opp.off ⟨[],rfl,trivial,rfl⟩ rfl rfl rfl rfl
  exact fun θ R ⟨h18d,_⟩=>Opp.off ⟨[],rfl,trivial,rfl⟩ rfl rfl rfl rfl
  exact fun θ R ⟨h18d,h29d,h30d,h31d,_⟩=>Opp.off ⟨[],rfl,trivial,rfl⟩ rfl rfl rfl rfl
  exact fun θ R ⟨h18d,h28d,h32d,_⟩=>Opp.off ⟨[],rfl,trivial,rfl⟩ rfl rfl rfl rfl
  exact fun θ R ⟨h18d,h33d,_⟩=>Zq (OD.pickF rfl rfl rfl) rfl
  intro θ hall
  obtain⟨_,_,_,_,_,_,_,_,_,_,_,_,_,_,_,_,_,_,_,_,_,_,_,_,_,_,_,_,_,_,_,_,_,_,_,_⟩:=hall
  refine G.at [] 0 (env':=[(1,vrows),(2,vused),(4,.pointer (some ⟨g1,0,none⟩)),(7,.pointer (some ⟨g2,0,none⟩)),(9,.int .i64 ((used.length:Nat))),(10,.int .i64 ((i:Int))),(11,v17),(12,.bool (b)),(13,.int .i64 ((j:Int))),(80,.bool false)]) ⟨rfl,rfl,rfl,rfl,rfl,rfl,rfl,rfl,rfl,rfl,trivial⟩ (own':=ints 3 v15 [rows.getD (i) 0]::ints 3 v17 (used++[rows.getD (i) 0])::box g2 27 [.int .i64 (er),ved]::box g1 27 [.int .i64 (cr),vcd]::own) rfl ?_
  show G _ _ _ [_] _ _ _ _
  refine Za rfl (Zn (GE.blockN (Zt (Zr ?_))))
  refine Zm rfl (Zd (OD.addI rfl rfl rfl (by omega)) rfl ?_)
  exact Za rfl (Zn (GE.again (j+1,false) (⟨by omega,fold_next hb (by simp_all)⟩) (by first | omega | (dsimp only;omega)) ⟨rfl,rfl,rfl,rfl,rfl,rfl,rfl,rfl,rfl,trivial⟩ [] 0 rfl))
  refine GC.at [] 0 (env':=[(1,vrows),(2,vused),(4,.pointer (some ⟨g1,0,none⟩)),(7,.pointer (some ⟨g2,0,none⟩)),(9,.int .i64 ((used.length:Nat))),(10,.int .i64 ((i:Int))),(11,v17),(12,.bool (b)),(13,.int .i64 ((j:Int)))]) ⟨rfl,rfl,rfl,rfl,rfl,rfl,rfl,rfl,rfl,trivial⟩ rfl ?_
  refine GC.par (its:=[Z0 46 (.bool false),
      Z1 47 [(0,46)] (.bool false),
      Z1 48 [(1,47)] undef,
      Z1 49 [(1,47)] undef,
      Z1 50 [(1,47)] undef,
      Z1 51 [(1,47),(3,49),(4,50)] undef,
      Z1 52 [(1,47),(5,51)] undef,
      Z1 53 [(1,47)] undef,
      Z1 54 [(1,47)] undef,
      Z1 55 [(1,47),(7,53),(8,54)] undef,
      Z1 56 [(1,47),(9,55)] undef,
      Z1 57 [(1,47),(2,48),(6,52),(10,56)] undef,
      Z1 58 [(1,47)] undef,
      Z1 59 [(1,47)] undef,
      Z1 60 [(1,47)] undef,
      Z1 61 [(1,47),(12,58),(13,59),(14,60)] undef,
      Z1 62 [(1,47),(11,57),(15,61)] undef,
      Z1 63 [(1,47),(16,62)] (.bool false),
      Z1 64 [(17,63)] (.bool false),
      Z1 65 [(18,64)] undef,
      Z1 66 [(18,64)] undef,
      Z1 67 [(18,64)] undef,
      Z1 68 [(18,64),(20,66),(21,67)] undef,
      Z1 69 [(18,64),(22,68)] undef,
      Z1 70 [(18,64)] undef,
      Z1 71 [(18,64)] undef,
      Z1 72 [(18,64),(24,70),(25,71)] undef,
      Z1 73 [(18,64),(26,72)] undef,
      Z1 74 [(18,64),(19,65),(23,69),(27,73)] undef,
      Z1 75 [(18,64)] undef,
      Z1 76 [(18,64)] undef,
      Z1 77 [(18,64)] undef,
      Z1 78 [(18,64),(29,75),(30,76),(31,77)] undef,
      Z1 79 [(18,64),(28,74),(32,78)] undef,
      Z1 80 [(18,64),(33,79)] (.bool false)]) (by kernel_rfl) (by kernel_rfl) (Zc ?_ (Zc ?_ (Zc ?_ (Zc ?_ (Zc ?_ (Zc ?_ (Zc ?_ (Zc ?_ (Zc ?_ (Zc ?_ (Zc ?_ (Zc ?_ (Zc ?_ (Zc ?_ (Zc ?_ (Zc ?_ (Zc ?_ (Zc ?_ (Zc ?_ (Zc ?_ (Zc ?_ (Zc ?_ (Zc ?_ (Zc ?_ (Zc ?_ (Zc ?_ (Zc ?_ (Zc ?_ (Zc ?_ (Zc ?_ (Zc ?_ (Zc ?_ (Zc ?_ (Zc ?_ (Zc ?_ POps.nil))))))))))))))))))))))))))))))))))) ?_
  exact fun θ R hd=>Opp.plain (OG.imp (OD.move rfl rfl) (by rintro _ _ ⟨rfl,rfl⟩;exact⟨[],congrArg Value.bool hg19,trivial,rfl⟩)) rfl
  exact fun θ R ⟨h0d,_⟩=>Zq (OD.move rfl rfl) rfl
  exact fun θ R ⟨h1d,_⟩=>Opp.off ⟨[],rfl,trivial,rfl⟩ rfl rfl rfl rfl
  exact fun θ R ⟨h1d,_⟩=>Opp.off ⟨[],rfl,trivial,rfl⟩ rfl rfl rfl rfl
  exact fun θ R ⟨h1d,_⟩=>Opp.off ⟨[],rfl,trivial,rfl⟩ rfl rfl rfl rfl
  exact fun θ R ⟨h1d,h3d,h4d,_⟩=>Opp.off ⟨[],rfl,trivial,rfl⟩ rfl rfl rfl rfl
  exact fun θ R ⟨h1d,h5d,_⟩=>Opp.off ⟨[],rfl,trivial,rfl⟩ rfl rfl rfl rfl
  exact fun θ R ⟨h1d,_⟩=>Opp.off ⟨[],rfl,trivial,rfl⟩ rfl rfl rfl rfl
  exact fun θ R ⟨h1d,_⟩=>Opp.off ⟨[],rfl,trivial,rfl⟩ rfl rfl rfl rfl
  exact fun θ R ⟨h1d,h7d,h8d,_⟩=>Opp.off ⟨[],rfl,trivial,rfl⟩ rfl rfl rfl rfl
  exact fun θ R ⟨h1d,h9d,_⟩=>Opp.off ⟨[],rfl,trivial,rfl⟩ rfl rfl rfl rfl
  exact fun θ R ⟨h1d,h2d,h6d,h10d,_⟩=>Opp.off ⟨[],rfl,trivial,rfl⟩ rfl rfl rfl rfl
  exact fun θ R ⟨h1d,_⟩=>Opp.off ⟨[],rfl,trivial,rfl⟩ rfl rfl rfl rfl
  exact fun θ R ⟨h1d,_⟩=>Opp.off ⟨[],rfl,trivial,rfl⟩ rfl rfl rfl rfl
  exact fun θ R ⟨h1d,_⟩=>Opp.off ⟨[],rfl,trivial,rfl⟩ rfl rfl rfl rfl
  exact fun θ R ⟨h1d,h12d,h13d,h14d,_⟩=>Opp.off ⟨[],rfl,trivial,rfl⟩ rfl rfl rfl rfl
  exact fun θ R ⟨h1d,h11d,h15d,_⟩=>Opp.off ⟨[],rfl,trivial,rfl⟩ rfl rfl rfl rfl
  exact fun θ R ⟨h1d,h16d,_⟩=>Zq (OD.pickF rfl rfl rfl) rfl
  exact fun θ R ⟨h17d,_⟩=>Zq (OD.move rfl rfl) rfl
  exact fun θ R ⟨h18d,_⟩=>Opp.off ⟨[],rfl,trivial,rfl⟩ rfl rfl rfl rfl
  exact fun θ R ⟨h18d,_⟩=>Opp.off ⟨[],rfl,trivial,rfl⟩ rfl rfl rfl rfl
  exact fun θ R ⟨h18d,_⟩=>Opp.off ⟨[],rfl,trivial,rfl⟩ rfl rfl rfl rfl
  exact fun θ R ⟨h18d,h20d,h21d,_⟩=>Opp.off ⟨[],rfl,trivial,rfl⟩ rfl rfl rfl rfl
  exact fun θ R ⟨h18d,h22d,_⟩=>Opp.off ⟨[],rfl,trivial,rfl⟩ rfl rfl rfl rfl
  exact fun θ R ⟨h18d,_⟩=>Opp.off ⟨[],rfl,trivial,rfl⟩ rfl rfl rfl rfl
  exact fun θ R ⟨h18d,_⟩=>Opp.off ⟨[],rfl,trivial,rfl⟩ rfl rfl rfl rfl
  exact fun θ R ⟨h18d,h24d,h25d,_⟩=>Opp.off ⟨[],rfl,trivial,rfl⟩ rfl rfl rfl rfl
  exact fun θ R ⟨h18d,h26d,_⟩=>Opp.off ⟨[],rfl,trivial,rfl⟩ rfl rfl rfl rfl
  exact fun θ R ⟨h18d,h19d,h23d,h27d,_⟩=>Opp.off ⟨[],rfl,trivial,rfl⟩ rfl rfl rfl rfl
  exact fun θ R ⟨h18d,_⟩=>Opp.off ⟨[],rfl,trivial,rfl⟩ rfl rfl rfl rfl
  exact fun θ R ⟨h18d,_⟩=>Opp.off ⟨[],rfl,trivial,rfl⟩ rfl rfl rfl rfl
  exact fun θ R ⟨h18d,_⟩=>Opp.off ⟨[],rfl,trivial,rfl⟩ rfl rfl rfl rfl
  exact fun θ R ⟨h18d,h29d,h30d,h31d,_⟩=>Opp.off ⟨[],rfl,trivial,rfl⟩ rfl rfl rfl rfl
  exact fun θ R ⟨h18d,h28d,h32d,_⟩=>Opp.off ⟨[],rfl,trivial,rfl⟩ rfl rfl rfl rfl
  exact fun θ R ⟨h18d,h33d,_⟩=>Zq (OD.pickF rfl rfl rfl) rfl
  intro θ hall
  obtain⟨_,_,_,_,_,_,_,_,_,_,_,_,_,_,_,_,_,_,_,_,_,_,_,_,_,_,_,_,_,_,_,_,_,_,_,_⟩:=hall
  refine G.at [] 0 (env':=[(1,vrows),(2,vused),(4,.pointer (some ⟨g1,0,none⟩)),(7,.pointer (some ⟨g2,0,none⟩)),(9,.int .i64 ((used.length:Nat))),(10,.int .i64 ((i:Int))),(11,v17),(12,.bool (b)),(13,.int .i64 ((j:Int))),(80,.bool false)]) ⟨rfl,rfl,rfl,rfl,rfl,rfl,rfl,rfl,rfl,rfl,trivial⟩ (own':=ints 3 v15 [rows.getD (i) 0]::ints 3 v17 (used++[rows.getD (i) 0])::box g2 27 [.int .i64 (er),ved]::box g1 27 [.int .i64 (cr),vcd]::own) rfl ?_
  show G _ _ _ [_] _ _ _ _
  refine Za rfl (Zn (GE.blockN (Zt (Zr ?_))))
  refine Zm rfl (Zd (OD.addI rfl rfl rfl (by omega)) rfl ?_)
  exact Za rfl (Zn (GE.again (j+1,false) (⟨by omega,fold_next hb (by simp_all)⟩) (by first | omega | (dsimp only;omega)) ⟨rfl,rfl,rfl,rfl,rfl,rfl,rfl,rfl,rfl,trivial⟩ [] 0 rfl))
  replace hc18:=of_decide_eq_false hc18
  have hbf:b=fitS cr cd er ed (used++[rows.getD i 0]) used.length (used.length+1):=by rw[hb,show j=used.length+1 by omega];rfl
  refine GC.exit (Zp (Zp (GE.hit (Zt (Zs (Zr ?_))))))
  refine Zm rfl (Zm rfl ?_)
  rcases Bool.eq_false_or_eq_true (b) with hg21 | hg21
  have hg21e:=hg21
  refine G.at [] 0 (env':=[(1,vrows),(2,vused),(4,.pointer (some ⟨g1,0,none⟩)),(7,.pointer (some ⟨g2,0,none⟩)),(9,.int .i64 ((used.length:Nat))),(10,.int .i64 ((i:Int))),(11,v17),(12,.bool true),(13,.int .i64 ((j:Int))),(41,.int .i64 ((j:Int))),(42,.int .i64 ((used.length:Nat))),(43,.bool (decide ((j:Int)≤(used.length:Nat)))),(81,.bool true),(82,.bool true)]) (⟨rfl,rfl,rfl,rfl,rfl,rfl,rfl,(congrArg (fun b=>some (Value.bool b)) hg21e),rfl,rfl,rfl,rfl,(congrArg (fun b=>some (Value.bool b)) hg21e),(congrArg (fun b=>some (Value.bool b)) hg21e),trivial⟩) rfl ?_
  refine G.stepGD (OD.loadAgg rfl ti27 rfl (i:=3) rfl (us:=[.int .i64 (cr),vcd]) rfl rfl) rfl rfl rfl rfl rfl ?_
  refine G.stepGD (OD.move rfl rfl) rfl rfl rfl rfl rfl ?_
  refine G.stepGD (OD.move rfl rfl) rfl rfl rfl rfl rfl ?_
  refine G.stepGD (OD.loadAgg rfl ti27 rfl (i:=2) rfl (us:=[.int .i64 (er),ved]) rfl rfl) rfl rfl rfl rfl rfl ?_
  refine G.stepG (OG.call [.agg #[.int .i64 (cr),vcd],vrows,v17,.agg #[.int .i64 (er),ved]] ent165 rfl rfl rfl rfl (by exact(ih scd (Ent.drop 4 ecd) srows (Ent.drop 4 erows) hs16 (Ent.ints (i:=1) rfl) sed (Ent.drop 4 eed) (hcr) (hcd) (hro) (hng) (her) (hed) (hr4) (by simp;omega) (by simp;omega)))) rfl rfl rfl rfl rfl ?_
  rintro _ _ ⟨rfl,rfl⟩
  refine Zd (OD.pickT rfl rfl rfl) rfl ?_
  refine Zn (Zt ?_)
  refine GC.cond rfl (fun hc22=>?_) (fun hc22=>?_)
  refine Zs (Zr (Za rfl (Zn (Zt (GC.ret (GE.blockR (GE.passR (GE.passR (GE.blockR (GE.passR ?_))))))))))
  exact GE.body [] 4 (res1 rfl rfl) rfl (⟨congrArg (fun(a0:Bool)=>(.bool (a0):Value)) ((by unfold fitsF;rw[if_neg (by omega)];exact(any_hit (k:=i) (by omega) (by simp only[hg21e,hc22,hc0,← hbf,Bool.not_true,Bool.not_false,Bool.and_true,Bool.true_and,Bool.and_false,Bool.false_and,Bool.and_self])).symm:(true:Bool)=fitsF cr cd rows er ed (f+1) used)),rfl⟩)
  refine Zk (GE.blockN (Zt (Zr ?_)))
  refine Zm rfl (Zd (OD.addI rfl rfl rfl (by omega)) rfl ?_)
  exact Za rfl (Zn (GE.again (i+1) (⟨by omega,any_succ hany (by simp only[hg21e,hc22,Bool.not_true,Bool.not_false,Bool.and_true,Bool.true_and,Bool.and_false,Bool.false_and,Bool.and_self])⟩) (by first | omega | (dsimp only;omega)) ⟨rfl,rfl,rfl,rfl,rfl,rfl,trivial⟩ [2,2] 2 rfl))
  have hg21e:=hg21
  refine G.at [] 0 (env':=[(1,vrows),(2,vused),(4,.pointer (some ⟨g1,0,none⟩)),(7,.pointer (some ⟨g2,0,none⟩)),(9,.int .i64 ((used.length:Nat))),(10,.int .i64 ((i:Int))),(11,v17),(12,.bool false),(13,.int .i64 ((j:Int))),(41,.int .i64 ((j:Int))),(42,.int .i64 ((used.length:Nat))),(43,.bool (decide ((j:Int)≤(used.length:Nat)))),(81,.bool false),(82,.bool false)]) (⟨rfl,rfl,rfl,rfl,rfl,rfl,rfl,(congrArg (fun b=>some (Value.bool b)) hg21e),rfl,rfl,rfl,rfl,(congrArg (fun b=>some (Value.bool b)) hg21e),(congrArg (fun b=>some (Value.bool b)) hg21e),trivial⟩) rfl ?_
  refine G.skipG rfl rfl rfl rfl rfl rfl (G.skipG rfl rfl rfl rfl rfl rfl (G.skipG rfl rfl rfl rfl rfl rfl (G.skipG rfl rfl rfl rfl rfl rfl (G.skipG rfl rfl rfl rfl rfl rfl ?_))))
  refine Zd (OD.pickF rfl rfl rfl) rfl ?_
  refine Zn (Zt (GC.condF rfl (Zk (GE.blockN (Zt (Zr ?_))))))
  refine Zm rfl (Zd (OD.addI rfl rfl rfl (by omega)) rfl ?_)
  exact Za rfl (Zn (GE.again (i+1) (⟨by omega,any_succ hany (by simp only[hg21e,← hbf,hc0,Bool.not_true,Bool.not_false,Bool.and_true,Bool.true_and,Bool.and_false,Bool.false_and,Bool.and_self])⟩) (by first | omega | (dsimp only;omega)) ⟨rfl,rfl,rfl,rfl,rfl,rfl,trivial⟩ [2,2] 2 rfl))
  replace hc4:=of_decide_eq_false hc4
  have hall:(List.range rows.length).any (fun(i:Nat) => !(used.contains (rows.getD i 0))&&(fitS cr cd er ed (used++[rows.getD i 0]) used.length (used.length+1)&&fitsF cr cd rows er ed f (used++[rows.getD i 0])))=false:=by rw[show rows.length=i by omega];exact hany
  refine GC.exit (Zp (Zp (GE.hit (Zt (Zs (Zr ?_))))))
  refine Za rfl (Zn (Zt (GC.ret ?_)))
  exact GE.body [] 2 (res1 rfl rfl) rfl (⟨congrArg (fun(a0:Bool)=>(.bool (a0):Value)) ((by unfold fitsF;rw[if_neg (by omega)];exact hall.symm:(false:Bool)=fitsF cr cd rows er ed (f+1) used)),rfl⟩)
theorem l5Part_w {W:World}{own:List Asn}{cr:Int}{vcd:Value}{cd:List Int}{i:Int}(scd:IsS vcd)(ecd:Ent own fun w=>Ints w vcd cd)(hcr:1≤cr∧cr≤4)(hcd:(cd.length:Int)=cr*cr)(hi:0≤i∧i<cr):Spec Tryz.prog 164 [.agg #[.int .i64 (cr),vcd],.int .i64 (i)] W own (fun v ow=>∃ (r0:Value),v=r0∧IsS r0∧ow=ints 3 r0 (partF cr cd i)::own):=by
 refine Spec.enter Tryz.f164 _ Tryz.func164 rfl (n:=41) rfl rfl ?_
 refine Zs (Zr (G.step (OG.box (cs:=[.int .i64 (cr),vcd]) rfl rfl rfl) rfl rfl rfl ?_))
 rintro _ _ ⟨g1,rfl,rfl⟩
 refine Za rfl (Zn (Zt (Zs (Zr (Zm rfl (G.step (OG.buildInts (xs:=[.tmp 8]) (is:=[i]) rfl et22 rfl rfl rfl rfl rfl) rfl rfl rfl ?_))))))
 rintro v2 _ ⟨hs3,rfl⟩
 refine Za rfl (Zn (Zt (Zs (Zs (Zr (Za rfl (Zn (Zt (GC.block ?_)))))))))
 refine GC.loop (ι:=Nat × List Int × Value) (fun⟨k,o,v⟩=>[(2,.pointer (some ⟨g1,0,none⟩)),(5,v),(6,.int .i64 ((k:Int)))]) (fun⟨k,o,v⟩=>ints 3 v o::box g1 27 [.int .i64 (cr),vcd]::own) (fun⟨k,o,v⟩=>(IsS v)∧(k≤o.length)∧(o.Nodup)∧(∀ y∈o,0≤y∧y<cr)∧(partL cr cd (cr.toNat+1 - k) o k=partF cr cd i)) (fun⟨k,o,v⟩=>cr.toNat+1 - k) (0,[i],v2) (⟨hs3,by simp,by simp,by simp;omega,rfl⟩) ⟨rfl,rfl,rfl,trivial⟩ [] 0 rfl ?_
 rintro⟨k,o,v⟩ ⟨hv,hk,hn,ho,hp⟩
 refine Zs (Zs (Zr (Zm rfl (Zm rfl (Zd (OD.len rfl rfl et22 rfl (Ent.ints (i:=0) rfl)) rfl ?_)))))
 refine Zd (OD.lss rfl rfl rfl) rfl ?_
 refine Zn (Zt ?_)
 refine GC.cond rfl (fun hc4=>?_) (fun hc4=>?_)
 replace hc4:=of_decide_eq_true hc4
 have hol:=len_rng hn ho
 have hlc:o.length≤4:=by omega
 refine Zk (Zt (Zs (GC.block (Zs (Zr ?_)))))
 refine Za rfl (Zn (Zt (GC.block ?_)))
 refine GC.loop (ι:=Nat × List Int × Value) (fun⟨j,q,u⟩=>[(2,.pointer (some ⟨g1,0,none⟩)),(6,.int .i64 ((k:Int))),(5,u),(7,.int .i64 ((j:Int)))]) (fun⟨j,q,u⟩=>ints 3 u q::box g1 27 [.int .i64 (cr),vcd]::own) (fun⟨j,q,u⟩=>(IsS u)∧((j:Int)≤cr)∧(k<q.length)∧(q.Nodup)∧(∀ y∈q,0≤y∧y<cr)∧(q=(List.range j).foldl (fun(o:List Int) (j:Nat)=>if atI cr cd (o.getD k 0) j != 0 && !(o.contains (j:Int)) then o++[(j:Int)] else o) o)) (fun⟨j,q,u⟩=>cr.toNat - j) (0,o,v) (⟨hv,by omega,by omega,hn,ho,rfl⟩) ⟨rfl,rfl,rfl,rfl,trivial⟩ [] 0 rfl ?_
 rintro⟨j,q,u⟩ ⟨hu,hj,hkq,hqn,hqo,hq⟩
 refine Zs (Zs (Zr (Zm rfl (Zd (OD.fieldAddr rfl rfl fa27_0) rfl ?_))))
 refine Zd (OD.load rfl ti3 rfl (i:=1) rfl rfl) rfl ?_
 refine Zd (OD.lss rfl rfl rfl) rfl ?_
 refine Zn (Zt ?_)
 refine GC.cond rfl (fun hc5=>?_) (fun hc5=>?_)
 replace hc5:=of_decide_eq_true hc5
 have hql:=len_rng hqn hqo
 have hrk:=getD_rng hqo (k:=k) hkq
 have hx:=idx_bd (n:=cr) (i:=q.getD k 0) (j:=j) ⟨by omega,by omega⟩ ⟨by omega,by omega⟩ (by omega)
 refine Zk (Zt (Zs (GC.block (Zs ?_))))
 rcases Bool.eq_false_or_eq_true ((atI cr cd (q.getD (k) 0) (j:Int)) != 0) with hg6 | hg6
 have hg6p:=hg6
 replace hg6p:=ne_of_bne hg6p
 refine GC.at [] 0 (env':=[(2,.pointer (some ⟨g1,0,none⟩)),(6,.int .i64 ((k:Int))),(5,u),(7,.int .i64 ((j:Int)))]) ⟨rfl,rfl,rfl,rfl,trivial⟩ rfl ?_
 refine GC.par (its:=[Z0 22 (.agg #[.int .i64 (cr),vcd]),
     Z0 23 u,
     Z0 24 (.int .i64 ((k:Int))),
     Z1 25 [(1,23),(2,24)] (elemPtr u 1 (k)),
     Z1 26 [(3,25)] (.int .i64 (q.getD (k) 0)),
     Z0 27 (.int .i64 ((j:Int))),
     Z1 28 [(0,22),(4,26),(5,27)] (.int .i64 (atI cr cd (q.getD (k) 0) (j:Int))),
     Z1 29 [(6,28)] (.bool true),
     Z1 30 [(7,29)] (.bool true),
     Z1 31 [(8,30)] u,
     Z1 32 [(8,30)] (.int .i64 ((j:Int))),
     Z1 33 [(8,30),(9,31),(10,32)] (.int .i64 (posI q (j:Int))),
     Z1 34 [(8,30),(11,33)] (.bool (!(q.contains (j:Int)))),
     Z1 35 [(8,30),(12,34)] (.bool (!(q.contains (j:Int))))]) (by kernel_rfl) (by kernel_rfl) (Zc ?_ (Zc ?_ (Zc ?_ (Zc ?_ (Zc ?_ (Zc ?_ (Zc ?_ (Zc ?_ (Zc ?_ (Zc ?_ (Zc ?_ (Zc ?_ (Zc ?_ (Zc ?_ POps.nil)))))))))))))) ?_
 exact fun θ R hd=>Zq (OD.loadAgg rfl ti27 rfl (i:=1) rfl (us:=[.int .i64 (cr),vcd]) rfl rfl) rfl
 exact fun θ R hd=>Zq (OD.move rfl rfl) rfl
 exact fun θ R hd=>Zq (OD.move rfl rfl) rfl
 exact fun θ R ⟨h1d,h2d,_⟩=>Zq (OD.indexAddr rfl et22 rfl (Ent.ints (i:=0) rfl) rfl (by omega)) rfl
 exact fun θ R ⟨h3d,_⟩=>Zq (OD.loadInt rfl ti3 rfl (Ent.ints (i:=0) rfl) (by omega)) rfl
 exact fun θ R hd=>Zq (OD.move rfl rfl) rfl
 exact fun θ R ⟨h0d,h4d,h5d,_⟩=>Zq (OG.call [.agg #[.int .i64 (cr),vcd],.int .i64 (q.getD (k) 0),.int .i64 ((j:Int))] ent109 rfl rfl rfl rfl (by exact(l5At_w scd (Ent.drop 2 ecd.app) (by omega)))) rfl
 exact fun θ R ⟨h6d,_⟩=>Opp.plain (OG.imp (OD.neq rfl rfl rfl) (by rintro _ _ ⟨rfl,rfl⟩;exact⟨[],congrArg Value.bool hg6,trivial,rfl⟩)) rfl
 exact fun θ R ⟨h7d,_⟩=>Zq (OD.move rfl rfl) rfl
 exact fun θ R ⟨h8d,_⟩=>Zo (OD.move rfl rfl) rfl rfl rfl rfl trivial rfl
 exact fun θ R ⟨h8d,_⟩=>Zo (OD.move rfl rfl) rfl rfl rfl rfl trivial rfl
 exact fun θ R ⟨h8d,h9d,h10d,_⟩=>Zo (OG.call [u,.int .i64 ((j:Int))] ent163 rfl rfl rfl rfl (by exact(l1Find_w hu (Ent.ints (i:=0) rfl) (by omega)))) rfl rfl rfl rfl trivial rfl
 exact fun θ R ⟨h8d,h11d,_⟩=>Zo (OD.eqv (OD.lss rfl rfl rfl) (congrArg (Value.bool) ((posI_lt _ _):_=(!(q.contains (j:Int)))))) rfl rfl rfl rfl trivial rfl
 exact fun θ R ⟨h8d,h12d,_⟩=>Zq (OD.pickT rfl rfl rfl) rfl
 intro θ hall
 obtain⟨_,_,_,_,_,_,_,_,_,_,_,_,_,_,_⟩:=hall
 refine G.at [] 0 (env':=[(2,.pointer (some ⟨g1,0,none⟩)),(6,.int .i64 ((k:Int))),(5,u),(7,.int .i64 ((j:Int))),(35,.bool (!(q.contains (j:Int))))]) ⟨rfl,rfl,rfl,rfl,rfl,trivial⟩ (own':=ints 3 u q::box g1 27 [.int .i64 (cr),vcd]::own) rfl ?_
 show G _ _ _ [] _ _ _ _
 refine Zn (Zt ?_)
 refine GC.cond rfl (fun hc7=>?_) (fun hc7=>?_)
 replace hc7:=eq_false_of_not hc7
 have hnc:q.contains (j:Int)=false:=hc7
 have hne:(atI cr cd (q.getD k 0) j != 0)=true:=hg6
 refine Zr (Zm rfl (Zm rfl (G.step (OG.buildInts (xs:=[.tmp 37]) (is:=[(j:Int)]) rfl et22 rfl rfl rfl rfl rfl) rfl rfl rfl ?_)))
 rintro v8 _ ⟨hs9,rfl⟩
 refine G.step (OG.appendInts 1 rfl rfl et22 rfl rfl rfl (Ent.ints (i:=0) rfl) (by first | omega | (simp;omega))) rfl rfl rfl ?_
 rintro v10 _ ⟨hs11,rfl⟩
 refine Za rfl (Zn (GE.blockN (Zt (Zr ?_))))
 refine Zm rfl (Zd (OD.addI rfl rfl rfl (by omega)) rfl ?_)
 exact Za rfl (Zn (GE.again (j+1,q++[(j:Int)],v10) (⟨hs11,by omega,by simp;omega,nodup_snoc hqn (by simpa using hnc),rng_snoc hqo ⟨by omega,by omega⟩,fold_next hq (by rw[if_pos (by simp only[hne,hnc,Bool.not_false,Bool.and_self])])⟩) (by first | omega | (dsimp only;omega)) ⟨rfl,rfl,rfl,rfl,trivial⟩ [1,1] 1 rfl))
 replace hc7:=eq_true_of_not hc7
 refine Zk (GE.blockN (Zt (Zr ?_)))
 refine Zm rfl (Zd (OD.addI rfl rfl rfl (by omega)) rfl ?_)
 exact Za rfl (Zn (GE.again (j+1,q,u) (⟨hu,by omega,hkq,hqn,hqo,fold_next hq (by rw[if_neg (by simp only[hc7,hg6,Bool.not_true,Bool.not_false,Bool.and_true,Bool.true_and,Bool.and_false,Bool.false_and,Bool.and_self,Bool.false_eq_true,not_false_eq_true])])⟩) (by first | omega | (dsimp only;omega)) ⟨rfl,rfl,rfl,rfl,trivial⟩ [] 0 rfl))
 have hg6p:=hg6
 replace hg6p:=eq_of_bne_false hg6p
 refine GC.at [] 0 (env':=[(2,.pointer (some ⟨g1,0,none⟩)),(6,.int .i64 ((k:Int))),(5,u),(7,.int .i64 ((j:Int)))]) ⟨rfl,rfl,rfl,rfl,trivial⟩ rfl ?_
 refine GC.par (its:=[Z0 22 (.agg #[.int .i64 (cr),vcd]),
     Z0 23 u,
     Z0 24 (.int .i64 ((k:Int))),
     Z1 25 [(1,23),(2,24)] (elemPtr u 1 (k)),
     Z1 26 [(3,25)] (.int .i64 (q.getD (k) 0)),
     Z0 27 (.int .i64 ((j:Int))),
     Z1 28 [(0,22),(4,26),(5,27)] (.int .i64 (atI cr cd (q.getD (k) 0) (j:Int))),
     Z1 29 [(6,28)] (.bool false),
     Z1 30 [(7,29)] (.bool false),
     Z1 31 [(8,30)] undef,
     Z1 32 [(8,30)] undef,
     Z1 33 [(8,30),(9,31),(10,32)] undef,
     Z1 34 [(8,30),(11,33)] undef,
     Z1 35 [(8,30),(12,34)] (.bool false)]) (by kernel_rfl) (by kernel_rfl) (Zc ?_ (Zc ?_ (Zc ?_ (Zc ?_ (Zc ?_ (Zc ?_ (Zc ?_ (Zc ?_ (Zc ?_ (Zc ?_ (Zc ?_ (Zc ?_ (Zc ?_ (Zc ?_ POps.nil)))))))))))))) ?_
 exact fun θ R hd=>Zq (OD.loadAgg rfl ti27 rfl (i:=1) rfl (us:=[.int .i64 (cr),vcd]) rfl rfl) rfl
 exact fun θ R hd=>Zq (OD.move rfl rfl) rfl
 exact fun θ R hd=>Zq (OD.move rfl rfl) rfl
 exact fun θ R ⟨h1d,h2d,_⟩=>Zq (OD.indexAddr rfl et22 rfl (Ent.ints (i:=0) rfl) rfl (by omega)) rfl
 exact fun θ R ⟨h3d,_⟩=>Zq (OD.loadInt rfl ti3 rfl (Ent.ints (i:=0) rfl) (by omega)) rfl
 exact fun θ R hd=>Zq (OD.move rfl rfl) rfl
 exact fun θ R ⟨h0d,h4d,h5d,_⟩=>Zq (OG.call [.agg #[.int .i64 (cr),vcd],.int .i64 (q.getD (k) 0),.int .i64 ((j:Int))] ent109 rfl rfl rfl rfl (by exact(l5At_w scd (Ent.drop 2 ecd.app) (by omega)))) rfl
 exact fun θ R ⟨h6d,_⟩=>Opp.plain (OG.imp (OD.neq rfl rfl rfl) (by rintro _ _ ⟨rfl,rfl⟩;exact⟨[],congrArg Value.bool hg6,trivial,rfl⟩)) rfl
 exact fun θ R ⟨h7d,_⟩=>Zq (OD.move rfl rfl) rfl
 exact fun θ R ⟨h8d,_⟩=>Opp.off ⟨[],rfl,trivial,rfl⟩ rfl rfl rfl rfl
 exact fun θ R ⟨h8d,_⟩=>Opp.off ⟨[],rfl,trivial,rfl⟩ rfl rfl rfl rfl
 exact fun θ R ⟨h8d,h9d,h10d,_⟩=>Opp.off ⟨[],rfl,trivial,rfl⟩ rfl rfl rfl rfl
 exact fun θ R ⟨h8d,h11d,_⟩=>Opp.off ⟨[],rfl,trivial,rfl⟩ rfl rfl rfl rfl
 exact fun θ R ⟨h8d,h12d,_⟩=>Zq (OD.pickF rfl rfl rfl) rfl
 intro θ hall
 obtain⟨_,_,_,_,_,_,_,_,_,_,_,_,_,_,_⟩:=hall
 refine G.at [] 0 (env':=[(2,.pointer (some ⟨g1,0,none⟩)),(6,.int .i64 ((k:Int))),(5,u),(7,.int .i64 ((j:Int))),(35,.bool false)]) ⟨rfl,rfl,rfl,rfl,rfl,trivial⟩ (own':=ints 3 u q::box g1 27 [.int .i64 (cr),vcd]::own) rfl ?_
 show G _ _ _ [] _ _ _ _
 refine Zn (Zt (GC.condF rfl (Zk (GE.blockN (Zt (Zr ?_))))))
 refine Zm rfl (Zd (OD.addI rfl rfl rfl (by omega)) rfl ?_)
 exact Za rfl (Zn (GE.again (j+1,q,u) (⟨hu,by omega,hkq,hqn,hqo,fold_next hq (by rw[if_neg (by simp only[hg6,Bool.not_true,Bool.not_false,Bool.and_true,Bool.true_and,Bool.and_false,Bool.false_and,Bool.and_self,Bool.false_eq_true,not_false_eq_true])])⟩) (by first | omega | (dsimp only;omega)) ⟨rfl,rfl,rfl,rfl,trivial⟩ [] 0 rfl))
 replace hc5:=of_decide_eq_false hc5
 have hq2:partStep cr cd k o=q:=by rw[hq,show j=cr.toNat by omega];rfl
 have hql2:=len_rng hqn hqo
 refine GC.exit (Zp (Zp (GE.hit (GE.blockN (Zt (Zr ?_))))))
 refine Zm rfl (Zd (OD.addI rfl rfl rfl (by omega)) rfl ?_)
 exact Za rfl (Zn (GE.again (k+1,q,u) (⟨hu,by omega,hqn,hqo,by rw[← hp,show cr.toNat+1 - k=(cr.toNat - k)+1 by omega,partL,if_pos (by omega),hq2];congr 1;omega⟩) (by first | omega | (dsimp only;omega)) ⟨rfl,rfl,rfl,trivial⟩ [] 0 rfl))
 replace hc4:=of_decide_eq_false hc4
 have hfin:partF cr cd i=o:=by
   rw[← hp]
   cases hz:cr.toNat+1 - k with
   | zero=>rfl
   | succ z=>unfold partL;rw[if_neg (by omega)]
 refine GC.exit (Zp (Zp (GE.hit (Zt (Zs (Zr ?_))))))
 refine Zm rfl (Za rfl (Zn (Zt (GC.ret ?_))))
 exact GE.body [0] 1 (res1 rfl rfl) rfl (⟨v,rfl,hv,congrArg (fun(l0:List Int)=>ints 3 v l0::own) ((hfin.symm:o=partF cr cd i))⟩)
end Go.Proofs.YtbmnnbglipkidaaGreatDoor
