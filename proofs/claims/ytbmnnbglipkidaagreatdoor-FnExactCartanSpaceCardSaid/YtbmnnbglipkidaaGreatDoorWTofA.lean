/-
  The parts of a matrix, as the second text tells them: a contract by a walk.
-/
import Derived.Test.YtbmnnbglipkidaaGreatDoorFct
import Derived.Test.YtbmnnbglipkidaaGreatDoorWFitA
import Derived.Test.YtbmnnbglipkidaaGreatDoorZ28
namespace Go.Proofs.YtbmnnbglipkidaaGreatDoor
set_option maxRecDepth 100000
set_option maxHeartbeats 4000000
set_option linter.unusedVariables false
set_option linter.unusedSimpArgs false
open Go.RowKit
theorem l5Parts_w {W:World}{own:List Asn}{cr:Int}{vcd:Value}{cd:List Int}(scd:IsS vcd)(ecd:Ent own fun w=>Ints w vcd cd)(hl0:cd.length≤1073741824):Spec Tryz.prog 121 [.agg #[.int .i64 (cr),vcd]] W own (fun v ow=>∃ (r0:Value),v = .tuple #[r0,.bool ((tyS cr cd).isSome)]∧IsS r0∧ow=strs 9 r0 (psN (tyS cr cd))::own):=by
 refine Spec.enter Tryz.f121 _ Tryz.func121 rfl (n:=148) rfl rfl ?_
 refine Zs (Zr (G.step (OG.box (cs:=[.int .i64 (cr),vcd]) rfl rfl rfl) rfl rfl rfl ?_))
 rintro _ _ ⟨g1,rfl,rfl⟩
 refine Za rfl (Za rfl (Zn (Zt (Zs (Zs (Zr (Zd (OD.fieldAddr rfl rfl fa27_0) rfl ?_)))))))
 refine Zd (OD.load rfl ti3 rfl (i:=0) rfl rfl) rfl ?_
 refine G.step (OG.call [.int .i64 (cr),.int .i64 (1),.int .i64 (4)] ent77 rfl rfl rfl rfl (by exact l1In_w)) rfl rfl rfl ?_
 rintro _ _ ⟨rfl,rfl⟩
 refine Zd (OD.not rfl rfl) rfl ?_
 refine Zm rfl ?_
 rcases Bool.eq_false_or_eq_true (!(inB cr 1 4)) with hg2 | hg2
 have hg2e:=hg2
 refine G.at [] 0 (env':=[(0,.agg #[.int .i64 (cr),vcd]),(1,.pointer (some ⟨g1,0,none⟩)),(2,.slice none 0 0),(3,.bool false),(13,.pointer (some ⟨g1,0,none⟩)),(14,.int .i64 (cr)),(15,.bool (inB cr 1 4)),(16,.bool true),(17,.bool true)]) (⟨rfl,rfl,rfl,rfl,rfl,rfl,rfl,(congrArg (fun b=>some (Value.bool b)) hg2e),(congrArg (fun b=>some (Value.bool b)) hg2e),trivial⟩) rfl ?_
 replace hg2:=eq_false_of_not hg2
 refine G.skipG rfl rfl rfl rfl rfl rfl (G.skipG rfl rfl rfl rfl rfl rfl (G.skipG rfl rfl rfl rfl rfl rfl (G.skipG rfl rfl rfl rfl rfl rfl (G.skipG rfl rfl rfl rfl rfl rfl (G.skipG rfl rfl rfl rfl rfl rfl (G.skipG rfl rfl rfl rfl rfl rfl (G.skipG rfl rfl rfl rfl rfl rfl (G.skipG rfl rfl rfl rfl rfl rfl ?_))))))))
 refine Zd (OD.pickT rfl rfl rfl) rfl ?_
 refine Zn (Zt (GC.condT rfl ?_))
 obtain⟨hq1,hq2⟩:=psN_none (tyS_not (okI_no (.inl hg2)))
 refine Zs (Zr (Za rfl (Za rfl (Zn (Zt (GC.ret (GE.passR ?_)))))))
 refine GE.nilStrs 9 ?_
 exact GE.body [0] 1 (res2 rfl rfl rfl) rfl (⟨(.slice none 0 0),congrArg (fun(a1:Bool)=>(.tuple #[(.slice none 0 0),.bool (a1)]:Value)) ((hq2.symm:(false:Bool)=(tyS cr cd).isSome)),IsS.nil,congrArg (fun(l0:List ByteArray)=>strs 9 (.slice none 0 0) l0::own) ((hq1.symm : []=psN (tyS cr cd)))⟩)
 have hg2e:=hg2
 refine G.at [] 0 (env':=[(0,.agg #[.int .i64 (cr),vcd]),(1,.pointer (some ⟨g1,0,none⟩)),(2,.slice none 0 0),(3,.bool false),(13,.pointer (some ⟨g1,0,none⟩)),(14,.int .i64 (cr)),(15,.bool (inB cr 1 4)),(16,.bool false),(17,.bool false)]) (⟨rfl,rfl,rfl,rfl,rfl,rfl,rfl,(congrArg (fun b=>some (Value.bool b)) hg2e),(congrArg (fun b=>some (Value.bool b)) hg2e),trivial⟩) rfl ?_
 replace hg2:=eq_true_of_not hg2
 refine G.stepGD (OD.fieldAddr rfl rfl fa27_1) rfl rfl rfl rfl rfl ?_
 refine G.stepGD (OD.load rfl ti22 rfl (i:=0) rfl rfl) rfl rfl rfl rfl rfl ?_
 refine G.stepGD (OD.len rfl rfl et22 rfl (Ent.drop 1 ecd)) rfl rfl rfl rfl rfl ?_
 refine G.stepGD (OD.fieldAddr rfl rfl fa27_0) rfl rfl rfl rfl rfl ?_
 refine G.stepGD (OD.load rfl ti3 rfl (i:=0) rfl rfl) rfl rfl rfl rfl rfl ?_
 refine G.stepGD (OD.fieldAddr rfl rfl fa27_0) rfl rfl rfl rfl rfl ?_
 refine G.stepGD (OD.load rfl ti3 rfl (i:=0) rfl rfl) rfl rfl rfl rfl rfl ?_
 refine G.stepGD (OD.mulI rfl rfl rfl (sqr_bd (inB_true (by assumption)))) rfl rfl rfl rfl rfl ?_
 refine G.stepGD (OD.neq rfl rfl rfl) rfl rfl rfl rfl rfl ?_
 refine Zd (OD.pickF rfl rfl rfl) rfl ?_
 refine Zn (Zt ?_)
 refine GC.cond rfl (fun hc3=>?_) (fun hc3=>?_)
 replace hc3:=ne_of_bne hc3
 obtain⟨hq1,hq2⟩:=psN_none (tyS_not (okI_no (.inr hc3)))
 refine Zs (Zr (Za rfl (Za rfl (Zn (Zt (GC.ret (GE.passR ?_)))))))
 refine GE.nilStrs 9 ?_
 exact GE.body [0] 1 (res2 rfl rfl rfl) rfl (⟨(.slice none 0 0),congrArg (fun(a1:Bool)=>(.tuple #[(.slice none 0 0),.bool (a1)]:Value)) ((hq2.symm:(false:Bool)=(tyS cr cd).isSome)),IsS.nil,congrArg (fun(l0:List ByteArray)=>strs 9 (.slice none 0 0) l0::own) ((hq1.symm : []=psN (tyS cr cd)))⟩)
 replace hc3:=eq_of_bne_false hc3
 have hok1:=okI_of hg2 hc3
 have hcr2:=inB_true hg2
 have hn12:nameL.length=12:=rfl
 have hcc:cr*cr≤4*4:=Int.mul_le_mul (by omega) (by omega) (by omega) (by omega)
 refine Zk (Zt (Zs (Zs (Zr (Za rfl (Zn (Zt (GC.block ?_))))))))
 refine GC.loop (ι:=Nat) (fun i=>[(1,.pointer (some ⟨g1,0,none⟩)),(4,.int .i64 ((i:Int)))]) (fun i=>box g1 27 [.int .i64 (cr),vcd]::own) (fun i=>(i≤cd.length)∧((List.range i).any (badE cr cd)=false)) (fun i=>cd.length - i) 0 (⟨by omega,rfl⟩) ⟨rfl,rfl,trivial⟩ [] 0 rfl ?_
 rintro i ⟨hi,hany⟩
 refine Zs (Zs (Zr (Zm rfl (Zd (OD.fieldAddr rfl rfl fa27_1) rfl ?_))))
 refine Zd (OD.load rfl ti22 rfl (i:=0) rfl rfl) rfl ?_
 refine Zd (OD.len rfl rfl et22 rfl (Ent.drop 1 ecd)) rfl ?_
 refine Zd (OD.lss rfl rfl rfl) rfl ?_
 refine Zn (Zt ?_)
 refine GC.cond rfl (fun hc4=>?_) (fun hc4=>?_)
 replace hc4:=of_decide_eq_true hc4
 have htd:=tm_td (n:=cr) (i:=i) (by omega) (by omega)
 have hwt:=wrap_td (n:=cr) (i:=i) hcr2 (by omega)
 have hx:=idx_bd (n:=cr) (i:=(i:Int).tmod cr) (j:=(i:Int).tdiv cr) ⟨by omega,by omega⟩ ⟨by omega,by omega⟩ (by omega)
 refine Zk (Zt (Zs (GC.block (Zs ?_))))
 rcases Bool.eq_false_or_eq_true (!(inB (cd.getD (i) 0) (-3) 2)) with hg5 | hg5
 have hg5p:=hg5
 replace hg5p:=eq_false_of_not hg5p
 refine GC.at [] 0 (env':=[(1,.pointer (some ⟨g1,0,none⟩)),(4,.int .i64 ((i:Int)))]) ⟨rfl,rfl,trivial⟩ rfl ?_
 refine GC.par (its:=[Z0 35 (.pointer (some ⟨g1,1,none⟩)),
     Z1 36 [(0,35)] vcd,
     Z0 37 (.int .i64 ((i:Int))),
     Z1 38 [(1,36),(2,37)] (elemPtr vcd 1 (i)),
     Z1 39 [(3,38)] (.int .i64 (cd.getD (i) 0)),
     Z1 40 [(4,39)] (.bool (inB (cd.getD (i) 0) (-3) 2)),
     Z1 41 [(5,40)] (.bool true),
     Z1 42 [(6,41)] (.bool true),
     Z1 43 [(7,42)] undef,
     Z1 44 [(7,42),(8,43)] undef,
     Z1 45 [(7,42)] undef,
     Z1 46 [(7,42),(9,44),(10,45)] undef,
     Z1 47 [(7,42),(11,46)] undef,
     Z1 48 [(7,42),(12,47)] undef,
     Z1 49 [(7,42),(13,48)] undef,
     Z1 50 [(14,49)] undef,
     Z1 51 [(14,49),(15,50)] undef,
     Z1 52 [(14,49)] undef,
     Z1 53 [(14,49)] undef,
     Z1 54 [(14,49),(18,53)] undef,
     Z1 55 [(14,49),(17,52),(19,54)] undef,
     Z1 56 [(14,49)] undef,
     Z1 57 [(14,49),(21,56)] undef,
     Z1 58 [(14,49),(20,55),(22,57)] undef,
     Z1 59 [(14,49)] undef,
     Z1 60 [(14,49)] undef,
     Z1 61 [(14,49),(25,60)] undef,
     Z1 62 [(14,49),(24,59),(26,61)] undef,
     Z1 63 [(14,49),(23,58),(27,62)] undef,
     Z1 64 [(14,49),(16,51),(28,63)] undef,
     Z1 65 [(14,49),(29,64)] undef,
     Z1 66 [(14,49),(30,65)] undef,
     Z1 67 [(7,42),(14,49),(31,66)] undef,
     Z1 68 [(7,42),(32,67)] (.bool true)]) (by kernel_rfl) (by kernel_rfl) (Zc ?_ (Zc ?_ (Zc ?_ (Zc ?_ (Zc ?_ (Zc ?_ (Zc ?_ (Zc ?_ (Zc ?_ (Zc ?_ (Zc ?_ (Zc ?_ (Zc ?_ (Zc ?_ (Zc ?_ (Zc ?_ (Zc ?_ (Zc ?_ (Zc ?_ (Zc ?_ (Zc ?_ (Zc ?_ (Zc ?_ (Zc ?_ (Zc ?_ (Zc ?_ (Zc ?_ (Zc ?_ (Zc ?_ (Zc ?_ (Zc ?_ (Zc ?_ (Zc ?_ (Zc ?_ POps.nil)))))))))))))))))))))))))))))))))) ?_
 exact fun θ R hd=>Zq (OD.fieldAddr rfl rfl fa27_1) rfl
 exact fun θ R ⟨h0d,_⟩=>Zq (OD.load rfl ti22 rfl (i:=0) rfl rfl) rfl
 exact fun θ R hd=>Zq (OD.move rfl rfl) rfl
 exact fun θ R ⟨h1d,h2d,_⟩=>Zq (OD.indexAddr rfl et22 rfl (Ent.drop 1 ecd.app) rfl (by omega)) rfl
 exact fun θ R ⟨h3d,_⟩=>Zq (OD.loadInt rfl ti3 rfl (Ent.drop 1 ecd.app) (by omega)) rfl
 exact fun θ R ⟨h4d,_⟩=>Zq (OG.call [.int .i64 (cd.getD (i) 0),.int .i64 (-3),.int .i64 (2)] ent77 rfl rfl rfl rfl (by exact l1In_w)) rfl
 exact fun θ R ⟨h5d,_⟩=>Opp.plain (OG.imp (OD.not rfl rfl) (by rintro _ _ ⟨rfl,rfl⟩;exact⟨[],congrArg Value.bool hg5,trivial,rfl⟩)) rfl
 exact fun θ R ⟨h6d,_⟩=>Zq (OD.move rfl rfl) rfl
 exact fun θ R ⟨h7d,_⟩=>Opp.off ⟨[],rfl,trivial,rfl⟩ rfl rfl rfl rfl
 exact fun θ R ⟨h7d,h8d,_⟩=>Opp.off ⟨[],rfl,trivial,rfl⟩ rfl rfl rfl rfl
 exact fun θ R ⟨h7d,_⟩=>Opp.off ⟨[],rfl,trivial,rfl⟩ rfl rfl rfl rfl
 exact fun θ R ⟨h7d,h9d,h10d,_⟩=>Opp.off ⟨[],rfl,trivial,rfl⟩ rfl rfl rfl rfl
 exact fun θ R ⟨h7d,h11d,_⟩=>Opp.off ⟨[],rfl,trivial,rfl⟩ rfl rfl rfl rfl
 exact fun θ R ⟨h7d,h12d,_⟩=>Opp.off ⟨[],rfl,trivial,rfl⟩ rfl rfl rfl rfl
 exact fun θ R ⟨h7d,h13d,_⟩=>Opp.off ⟨[],rfl,trivial,rfl⟩ rfl rfl rfl rfl
 exact fun θ R ⟨h14d,_⟩=>Opp.offU ⟨[],rfl,trivial,rfl⟩ rfl rfl rfl
 exact fun θ R ⟨h14d,h15d,_⟩=>Opp.offU ⟨[],rfl,trivial,rfl⟩ rfl rfl rfl
 exact fun θ R ⟨h14d,_⟩=>Opp.offU ⟨[],rfl,trivial,rfl⟩ rfl rfl rfl
 exact fun θ R ⟨h14d,_⟩=>Opp.offU ⟨[],rfl,trivial,rfl⟩ rfl rfl rfl
 exact fun θ R ⟨h14d,h18d,_⟩=>Opp.offU ⟨[],rfl,trivial,rfl⟩ rfl rfl rfl
 exact fun θ R ⟨h14d,h17d,h19d,_⟩=>Opp.offU ⟨[],rfl,trivial,rfl⟩ rfl rfl rfl
 exact fun θ R ⟨h14d,_⟩=>Opp.offU ⟨[],rfl,trivial,rfl⟩ rfl rfl rfl
 exact fun θ R ⟨h14d,h21d,_⟩=>Opp.offU ⟨[],rfl,trivial,rfl⟩ rfl rfl rfl
 exact fun θ R ⟨h14d,h20d,h22d,_⟩=>Opp.offU ⟨[],rfl,trivial,rfl⟩ rfl rfl rfl
 exact fun θ R ⟨h14d,_⟩=>Opp.offU ⟨[],rfl,trivial,rfl⟩ rfl rfl rfl
 exact fun θ R ⟨h14d,_⟩=>Opp.offU ⟨[],rfl,trivial,rfl⟩ rfl rfl rfl
 exact fun θ R ⟨h14d,h25d,_⟩=>Opp.offU ⟨[],rfl,trivial,rfl⟩ rfl rfl rfl
 exact fun θ R ⟨h14d,h24d,h26d,_⟩=>Opp.offU ⟨[],rfl,trivial,rfl⟩ rfl rfl rfl
 exact fun θ R ⟨h14d,h23d,h27d,_⟩=>Opp.offU ⟨[],rfl,trivial,rfl⟩ rfl rfl rfl
 exact fun θ R ⟨h14d,h16d,h28d,_⟩=>Opp.offU ⟨[],rfl,trivial,rfl⟩ rfl rfl rfl
 exact fun θ R ⟨h14d,h29d,_⟩=>Opp.offU ⟨[],rfl,trivial,rfl⟩ rfl rfl rfl
 exact fun θ R ⟨h14d,h30d,_⟩=>Opp.offU ⟨[],rfl,trivial,rfl⟩ rfl rfl rfl
 exact fun θ R ⟨h7d,h14d,h31d,_⟩=>Opp.off ⟨[],rfl,trivial,rfl⟩ rfl rfl rfl rfl
 exact fun θ R ⟨h7d,h32d,_⟩=>Zq (OD.pickT rfl rfl rfl) rfl
 intro θ hall
 obtain⟨_,_,_,_,_,_,_,_,_,_,_,_,_,_,_,_,_,_,_,_,_,_,_,_,_,_,_,_,_,_,_,_,_,_,_⟩:=hall
 refine G.at [] 0 (env':=[(1,.pointer (some ⟨g1,0,none⟩)),(4,.int .i64 ((i:Int))),(68,.bool true)]) ⟨rfl,rfl,rfl,trivial⟩ (own':=box g1 27 [.int .i64 (cr),vcd]::own) rfl ?_
 show G _ _ _ [] _ _ _ _
 refine Zn (Zt (GC.condT rfl ?_))
 have hbad:badE cr cd i=true:=by simp only[badE,atI,hg2e,hg5,Bool.not_true,Bool.not_false,Bool.and_true,Bool.true_and,Bool.and_false,Bool.false_and,Bool.and_self,Bool.or_false,Bool.or_true,Bool.false_or,Bool.true_or]
 obtain⟨hq1,hq2⟩:=psN_none (tyS_bad hok1 (by omega) hbad)
 refine Zs (Zr (Za rfl (Za rfl (Zn (Zt (GC.ret (GE.blockR (GE.passR (GE.passR (GE.blockR (GE.passR ?_)))))))))))
 refine GE.nilStrs 9 ?_
 exact GE.body [0] 1 (res2 rfl rfl rfl) rfl (⟨(.slice none 0 0),congrArg (fun(a1:Bool)=>(.tuple #[(.slice none 0 0),.bool (a1)]:Value)) ((hq2.symm:(false:Bool)=(tyS cr cd).isSome)),IsS.nil,congrArg (fun(l0:List ByteArray)=>strs 9 (.slice none 0 0) l0::own) ((hq1.symm : []=psN (tyS cr cd)))⟩)
 have hg5p:=hg5
 replace hg5p:=eq_true_of_not hg5p
 rcases Bool.eq_false_or_eq_true ((cd.getD (i) 0) != 0) with hg6 | hg6
 have hg6p:=hg6
 replace hg6p:=ne_of_bne hg6p
 refine GC.at [] 0 (env':=[(1,.pointer (some ⟨g1,0,none⟩)),(4,.int .i64 ((i:Int)))]) ⟨rfl,rfl,trivial⟩ rfl ?_
 refine GC.par (its:=[Z0 35 (.pointer (some ⟨g1,1,none⟩)),
     Z1 36 [(0,35)] vcd,
     Z0 37 (.int .i64 ((i:Int))),
     Z1 38 [(1,36),(2,37)] (elemPtr vcd 1 (i)),
     Z1 39 [(3,38)] (.int .i64 (cd.getD (i) 0)),
     Z1 40 [(4,39)] (.bool (inB (cd.getD (i) 0) (-3) 2)),
     Z1 41 [(5,40)] (.bool false),
     Z1 42 [(6,41)] (.bool false),
     Z1 43 [(7,42)] (.pointer (some ⟨g1,1,none⟩)),
     Z1 44 [(7,42),(8,43)] vcd,
     Z1 45 [(7,42)] (.int .i64 ((i:Int))),
     Z1 46 [(7,42),(9,44),(10,45)] (elemPtr vcd 1 (i)),
     Z1 47 [(7,42),(11,46)] (.int .i64 (cd.getD (i) 0)),
     Z1 48 [(7,42),(12,47)] (.bool true),
     Z1 49 [(7,42),(13,48)] (.bool true),
     Z1 50 [(14,49)] (.pointer (some ⟨g1,1,none⟩)),
     Z1 51 [(14,49),(15,50)] vcd,
     Z1 52 [(14,49)] (.int .i64 ((i:Int))),
     Z1 53 [(14,49)] (.pointer (some ⟨g1,0,none⟩)),
     Z1 54 [(14,49),(18,53)] (.int .i64 (cr)),
     Z1 55 [(14,49),(17,52),(19,54)] (.int .i64 (((i:Int)).tmod cr)),
     Z1 56 [(14,49)] (.pointer (some ⟨g1,0,none⟩)),
     Z1 57 [(14,49),(21,56)] (.int .i64 (cr)),
     Z1 58 [(14,49),(20,55),(22,57)] (.int .i64 ((((i:Int)).tmod cr)*cr)),
     Z1 59 [(14,49)] (.int .i64 ((i:Int))),
     Z1 60 [(14,49)] (.pointer (some ⟨g1,0,none⟩)),
     Z1 61 [(14,49),(25,60)] (.int .i64 (cr)),
     Z1 62 [(14,49),(24,59),(26,61)] (.int .i64 ((i:Int).tdiv cr)),
     Z1 63 [(14,49),(23,58),(27,62)] (.int .i64 (((((i:Int)).tmod cr)*cr)+((i:Int).tdiv cr))),
     Z1 64 [(14,49),(16,51),(28,63)] (elemPtr vcd 1 ((((((i:Int)).tmod cr)*cr)+((i:Int).tdiv cr):Int).toNat)),
     Z1 65 [(14,49),(29,64)] (.int .i64 (cd.getD ((((((i:Int)).tmod cr)*cr)+((i:Int).tdiv cr):Int).toNat) 0)),
     Z1 66 [(14,49),(30,65)] (.bool ((cd.getD ((((((i:Int)).tmod cr)*cr)+((i:Int).tdiv cr):Int).toNat) 0)==0)),
     Z1 67 [(7,42),(14,49),(31,66)] (.bool ((cd.getD ((((((i:Int)).tmod cr)*cr)+((i:Int).tdiv cr):Int).toNat) 0)==0)),
     Z1 68 [(7,42),(32,67)] (.bool ((cd.getD ((((((i:Int)).tmod cr)*cr)+((i:Int).tdiv cr):Int).toNat) 0)==0))]) (by kernel_rfl) (by kernel_rfl) (Zc ?_ (Zc ?_ (Zc ?_ (Zc ?_ (Zc ?_ (Zc ?_ (Zc ?_ (Zc ?_ (Zc ?_ (Zc ?_ (Zc ?_ (Zc ?_ (Zc ?_ (Zc ?_ (Zc ?_ (Zc ?_ (Zc ?_ (Zc ?_ (Zc ?_ (Zc ?_ (Zc ?_ (Zc ?_ (Zc ?_ (Zc ?_ (Zc ?_ (Zc ?_ (Zc ?_ (Zc ?_ (Zc ?_ (Zc ?_ (Zc ?_ (Zc ?_ (Zc ?_ (Zc ?_ POps.nil)))))))))))))))))))))))))))))))))) ?_
 exact fun θ R hd=>Zq (OD.fieldAddr rfl rfl fa27_1) rfl
 exact fun θ R ⟨h0d,_⟩=>Zq (OD.load rfl ti22 rfl (i:=0) rfl rfl) rfl
 exact fun θ R hd=>Zq (OD.move rfl rfl) rfl
 exact fun θ R ⟨h1d,h2d,_⟩=>Zq (OD.indexAddr rfl et22 rfl (Ent.drop 1 ecd.app) rfl (by omega)) rfl
 exact fun θ R ⟨h3d,_⟩=>Zq (OD.loadInt rfl ti3 rfl (Ent.drop 1 ecd.app) (by omega)) rfl
 exact fun θ R ⟨h4d,_⟩=>Zq (OG.call [.int .i64 (cd.getD (i) 0),.int .i64 (-3),.int .i64 (2)] ent77 rfl rfl rfl rfl (by exact l1In_w)) rfl
 exact fun θ R ⟨h5d,_⟩=>Opp.plain (OG.imp (OD.not rfl rfl) (by rintro _ _ ⟨rfl,rfl⟩;exact⟨[],congrArg Value.bool hg5,trivial,rfl⟩)) rfl
 exact fun θ R ⟨h6d,_⟩=>Zq (OD.move rfl rfl) rfl
 exact fun θ R ⟨h7d,_⟩=>Zo (OD.fieldAddr rfl rfl fa27_1) rfl rfl rfl rfl trivial rfl
 exact fun θ R ⟨h7d,h8d,_⟩=>Zo (OD.load rfl ti22 rfl (i:=0) rfl rfl) rfl rfl rfl rfl trivial rfl
 exact fun θ R ⟨h7d,_⟩=>Zo (OD.move rfl rfl) rfl rfl rfl rfl trivial rfl
 exact fun θ R ⟨h7d,h9d,h10d,_⟩=>Zo (OD.indexAddr rfl et22 rfl (Ent.drop 1 ecd.app) rfl (by omega)) rfl rfl rfl rfl trivial rfl
 exact fun θ R ⟨h7d,h11d,_⟩=>Zo (OD.loadInt rfl ti3 rfl (Ent.drop 1 ecd.app) (by omega)) rfl rfl rfl rfl trivial rfl
 exact fun θ R ⟨h7d,h12d,_⟩=>Opp.on (OG.imp (OD.neq rfl rfl rfl) (by rintro _ _ ⟨rfl,rfl⟩;exact⟨[],congrArg Value.bool hg6,trivial,rfl⟩)) rfl rfl rfl
 exact fun θ R ⟨h7d,h13d,_⟩=>Zo (OD.move rfl rfl) rfl rfl rfl rfl trivial rfl
 exact fun θ R ⟨h14d,_⟩=>Zo (OD.fieldAddr rfl rfl fa27_1) rfl rfl rfl rfl trivial rfl
 exact fun θ R ⟨h14d,h15d,_⟩=>Zo (OD.load rfl ti22 rfl (i:=0) rfl rfl) rfl rfl rfl rfl trivial rfl
 exact fun θ R ⟨h14d,_⟩=>Zo (OD.move rfl rfl) rfl rfl rfl rfl trivial rfl
 exact fun θ R ⟨h14d,_⟩=>Zo (OD.fieldAddr rfl rfl fa27_0) rfl rfl rfl rfl trivial rfl
 exact fun θ R ⟨h14d,h18d,_⟩=>Zo (OD.load rfl ti3 rfl (i:=0) rfl rfl) rfl rfl rfl rfl trivial rfl
 exact fun θ R ⟨h14d,h17d,h19d,_⟩=>Zo (OD.rem rfl rfl rfl (by omega)) rfl rfl rfl rfl trivial rfl
 exact fun θ R ⟨h14d,_⟩=>Zo (OD.fieldAddr rfl rfl fa27_0) rfl rfl rfl rfl trivial rfl
 exact fun θ R ⟨h14d,h21d,_⟩=>Zo (OD.load rfl ti3 rfl (i:=0) rfl rfl) rfl rfl rfl rfl trivial rfl
 exact fun θ R ⟨h14d,h20d,h22d,_⟩=>Zo (OD.mulI rfl rfl rfl (by omega)) rfl rfl rfl rfl trivial rfl
 exact fun θ R ⟨h14d,_⟩=>Zo (OD.move rfl rfl) rfl rfl rfl rfl trivial rfl
 exact fun θ R ⟨h14d,_⟩=>Zo (OD.fieldAddr rfl rfl fa27_0) rfl rfl rfl rfl trivial rfl
 exact fun θ R ⟨h14d,h25d,_⟩=>Zo (OD.load rfl ti3 rfl (i:=0) rfl rfl) rfl rfl rfl rfl trivial rfl
 exact fun θ R ⟨h14d,h24d,h26d,_⟩=>Zo (OD.eqv (OD.quo rfl rfl rfl (by omega)) (congrArg (Value.int .i64) ((hwt):(IntKind.i64.wrap (((i:Int)).tdiv cr):Int)=((i:Int).tdiv cr)))) rfl rfl rfl rfl trivial rfl
 exact fun θ R ⟨h14d,h23d,h27d,_⟩=>Zo (OD.addI rfl rfl rfl (by omega)) rfl rfl rfl rfl trivial rfl
 exact fun θ R ⟨h14d,h16d,h28d,_⟩=>Zo (OD.indexAddr rfl et22 rfl (Ent.drop 1 ecd.app) rfl (by omega)) rfl rfl rfl rfl trivial rfl
 exact fun θ R ⟨h14d,h29d,_⟩=>Zo (OD.loadInt rfl ti3 rfl (Ent.drop 1 ecd.app) (by omega)) rfl rfl rfl rfl trivial rfl
 exact fun θ R ⟨h14d,h30d,_⟩=>Zo (OD.eql rfl rfl rfl) rfl rfl rfl rfl trivial rfl
 exact fun θ R ⟨h7d,h14d,h31d,_⟩=>Zo (OD.pickT rfl rfl rfl) rfl rfl rfl rfl trivial rfl
 exact fun θ R ⟨h7d,h32d,_⟩=>Zq (OD.pickF rfl rfl rfl) rfl
 intro θ hall
 obtain⟨_,_,_,_,_,_,_,_,_,_,_,_,_,_,_,_,_,_,_,_,_,_,_,_,_,_,_,_,_,_,_,_,_,_,_⟩:=hall
 refine G.at [] 0 (env':=[(1,.pointer (some ⟨g1,0,none⟩)),(4,.int .i64 ((i:Int))),(68,.bool ((cd.getD ((((((i:Int)).tmod cr)*cr)+((i:Int).tdiv cr):Int).toNat) 0)==0))]) ⟨rfl,rfl,rfl,trivial⟩ (own':=box g1 27 [.int .i64 (cr),vcd]::own) rfl ?_
 show G _ _ _ [] _ _ _ _
 refine Zn (Zt ?_)
 refine GC.cond rfl (fun hc7=>?_) (fun hc7=>?_)
 replace hc7:=eq_of_beq hc7
 have hc7b:(_==_)=true:=beq_iff_eq.2 hc7
 have hbad:badE cr cd i=true:=by simp only[badE,atI,hg2e,hg5,hg6,hc7b,Bool.not_true,Bool.not_false,Bool.and_true,Bool.true_and,Bool.and_false,Bool.false_and,Bool.and_self,Bool.or_false,Bool.or_true,Bool.false_or,Bool.true_or]
 obtain⟨hq1,hq2⟩:=psN_none (tyS_bad hok1 (by omega) hbad)
 refine Zs (Zr (Za rfl (Za rfl (Zn (Zt (GC.ret (GE.blockR (GE.passR (GE.passR (GE.blockR (GE.passR ?_)))))))))))
 refine GE.nilStrs 9 ?_
 exact GE.body [0] 1 (res2 rfl rfl rfl) rfl (⟨(.slice none 0 0),congrArg (fun(a1:Bool)=>(.tuple #[(.slice none 0 0),.bool (a1)]:Value)) ((hq2.symm:(false:Bool)=(tyS cr cd).isSome)),IsS.nil,congrArg (fun(l0:List ByteArray)=>strs 9 (.slice none 0 0) l0::own) ((hq1.symm : []=psN (tyS cr cd)))⟩)
 replace hc7:=ne_of_beq_false hc7
 have hc7b:=beqI_ne hc7
 refine Zk (GE.blockN (Zt (Zr ?_)))
 refine Zm rfl (Zd (OD.addI rfl rfl rfl (by omega)) rfl ?_)
 exact Za rfl (Zn (GE.again (i+1) (⟨by omega,any_succ hany (by simp only[badE,atI,hg2e,hg5,hg6,hc7b,Bool.not_true,Bool.not_false,Bool.and_true,Bool.true_and,Bool.and_false,Bool.false_and,Bool.and_self,Bool.or_false,Bool.or_true,Bool.false_or,Bool.true_or])⟩) (by first | omega | (dsimp only;omega)) ⟨rfl,rfl,trivial⟩ [] 0 rfl))
 have hg6p:=hg6
 replace hg6p:=eq_of_bne_false hg6p
 refine GC.at [] 0 (env':=[(1,.pointer (some ⟨g1,0,none⟩)),(4,.int .i64 ((i:Int)))]) ⟨rfl,rfl,trivial⟩ rfl ?_
 refine GC.par (its:=[Z0 35 (.pointer (some ⟨g1,1,none⟩)),
     Z1 36 [(0,35)] vcd,
     Z0 37 (.int .i64 ((i:Int))),
     Z1 38 [(1,36),(2,37)] (elemPtr vcd 1 (i)),
     Z1 39 [(3,38)] (.int .i64 (cd.getD (i) 0)),
     Z1 40 [(4,39)] (.bool (inB (cd.getD (i) 0) (-3) 2)),
     Z1 41 [(5,40)] (.bool false),
     Z1 42 [(6,41)] (.bool false),
     Z1 43 [(7,42)] (.pointer (some ⟨g1,1,none⟩)),
     Z1 44 [(7,42),(8,43)] vcd,
     Z1 45 [(7,42)] (.int .i64 ((i:Int))),
     Z1 46 [(7,42),(9,44),(10,45)] (elemPtr vcd 1 (i)),
     Z1 47 [(7,42),(11,46)] (.int .i64 (cd.getD (i) 0)),
     Z1 48 [(7,42),(12,47)] (.bool false),
     Z1 49 [(7,42),(13,48)] (.bool false),
     Z1 50 [(14,49)] undef,
     Z1 51 [(14,49),(15,50)] undef,
     Z1 52 [(14,49)] undef,
     Z1 53 [(14,49)] undef,
     Z1 54 [(14,49),(18,53)] undef,
     Z1 55 [(14,49),(17,52),(19,54)] undef,
     Z1 56 [(14,49)] undef,
     Z1 57 [(14,49),(21,56)] undef,
     Z1 58 [(14,49),(20,55),(22,57)] undef,
     Z1 59 [(14,49)] undef,
     Z1 60 [(14,49)] undef,
     Z1 61 [(14,49),(25,60)] undef,
     Z1 62 [(14,49),(24,59),(26,61)] undef,
     Z1 63 [(14,49),(23,58),(27,62)] undef,
     Z1 64 [(14,49),(16,51),(28,63)] undef,
     Z1 65 [(14,49),(29,64)] undef,
     Z1 66 [(14,49),(30,65)] undef,
     Z1 67 [(7,42),(14,49),(31,66)] (.bool false),
     Z1 68 [(7,42),(32,67)] (.bool false)]) (by kernel_rfl) (by kernel_rfl) (Zc ?_ (Zc ?_ (Zc ?_ (Zc ?_ (Zc ?_ (Zc ?_ (Zc ?_ (Zc ?_ (Zc ?_ (Zc ?_ (Zc ?_ (Zc ?_ (Zc ?_ (Zc ?_ (Zc ?_ (Zc ?_ (Zc ?_ (Zc ?_ (Zc ?_ (Zc ?_ (Zc ?_ (Zc ?_ (Zc ?_ (Zc ?_ (Zc ?_ (Zc ?_ (Zc ?_ (Zc ?_ (Zc ?_ (Zc ?_ (Zc ?_ (Zc ?_ (Zc ?_ (Zc ?_ POps.nil)))))))))))))))))))))))))))))))))) ?_
 exact fun θ R hd=>Zq (OD.fieldAddr rfl rfl fa27_1) rfl
 exact fun θ R ⟨h0d,_⟩=>Zq (OD.load rfl ti22 rfl (i:=0) rfl rfl) rfl
 exact fun θ R hd=>Zq (OD.move rfl rfl) rfl
 exact fun θ R ⟨h1d,h2d,_⟩=>Zq (OD.indexAddr rfl et22 rfl (Ent.drop 1 ecd.app) rfl (by omega)) rfl
 exact fun θ R ⟨h3d,_⟩=>Zq (OD.loadInt rfl ti3 rfl (Ent.drop 1 ecd.app) (by omega)) rfl
 exact fun θ R ⟨h4d,_⟩=>Zq (OG.call [.int .i64 (cd.getD (i) 0),.int .i64 (-3),.int .i64 (2)] ent77 rfl rfl rfl rfl (by exact l1In_w)) rfl
 exact fun θ R ⟨h5d,_⟩=>Opp.plain (OG.imp (OD.not rfl rfl) (by rintro _ _ ⟨rfl,rfl⟩;exact⟨[],congrArg Value.bool hg5,trivial,rfl⟩)) rfl
 exact fun θ R ⟨h6d,_⟩=>Zq (OD.move rfl rfl) rfl
 exact fun θ R ⟨h7d,_⟩=>Zo (OD.fieldAddr rfl rfl fa27_1) rfl rfl rfl rfl trivial rfl
 exact fun θ R ⟨h7d,h8d,_⟩=>Zo (OD.load rfl ti22 rfl (i:=0) rfl rfl) rfl rfl rfl rfl trivial rfl
 exact fun θ R ⟨h7d,_⟩=>Zo (OD.move rfl rfl) rfl rfl rfl rfl trivial rfl
 exact fun θ R ⟨h7d,h9d,h10d,_⟩=>Zo (OD.indexAddr rfl et22 rfl (Ent.drop 1 ecd.app) rfl (by omega)) rfl rfl rfl rfl trivial rfl
 exact fun θ R ⟨h7d,h11d,_⟩=>Zo (OD.loadInt rfl ti3 rfl (Ent.drop 1 ecd.app) (by omega)) rfl rfl rfl rfl trivial rfl
 exact fun θ R ⟨h7d,h12d,_⟩=>Opp.on (OG.imp (OD.neq rfl rfl rfl) (by rintro _ _ ⟨rfl,rfl⟩;exact⟨[],congrArg Value.bool hg6,trivial,rfl⟩)) rfl rfl rfl
 exact fun θ R ⟨h7d,h13d,_⟩=>Zo (OD.move rfl rfl) rfl rfl rfl rfl trivial rfl
 exact fun θ R ⟨h14d,_⟩=>Opp.off ⟨[],rfl,trivial,rfl⟩ rfl rfl rfl rfl
 exact fun θ R ⟨h14d,h15d,_⟩=>Opp.off ⟨[],rfl,trivial,rfl⟩ rfl rfl rfl rfl
 exact fun θ R ⟨h14d,_⟩=>Opp.off ⟨[],rfl,trivial,rfl⟩ rfl rfl rfl rfl
 exact fun θ R ⟨h14d,_⟩=>Opp.off ⟨[],rfl,trivial,rfl⟩ rfl rfl rfl rfl
 exact fun θ R ⟨h14d,h18d,_⟩=>Opp.off ⟨[],rfl,trivial,rfl⟩ rfl rfl rfl rfl
 exact fun θ R ⟨h14d,h17d,h19d,_⟩=>Opp.off ⟨[],rfl,trivial,rfl⟩ rfl rfl rfl rfl
 exact fun θ R ⟨h14d,_⟩=>Opp.off ⟨[],rfl,trivial,rfl⟩ rfl rfl rfl rfl
 exact fun θ R ⟨h14d,h21d,_⟩=>Opp.off ⟨[],rfl,trivial,rfl⟩ rfl rfl rfl rfl
 exact fun θ R ⟨h14d,h20d,h22d,_⟩=>Opp.off ⟨[],rfl,trivial,rfl⟩ rfl rfl rfl rfl
 exact fun θ R ⟨h14d,_⟩=>Opp.off ⟨[],rfl,trivial,rfl⟩ rfl rfl rfl rfl
 exact fun θ R ⟨h14d,_⟩=>Opp.off ⟨[],rfl,trivial,rfl⟩ rfl rfl rfl rfl
 exact fun θ R ⟨h14d,h25d,_⟩=>Opp.off ⟨[],rfl,trivial,rfl⟩ rfl rfl rfl rfl
 exact fun θ R ⟨h14d,h24d,h26d,_⟩=>Opp.off ⟨[],rfl,trivial,rfl⟩ rfl rfl rfl rfl
 exact fun θ R ⟨h14d,h23d,h27d,_⟩=>Opp.off ⟨[],rfl,trivial,rfl⟩ rfl rfl rfl rfl
 exact fun θ R ⟨h14d,h16d,h28d,_⟩=>Opp.off ⟨[],rfl,trivial,rfl⟩ rfl rfl rfl rfl
 exact fun θ R ⟨h14d,h29d,_⟩=>Opp.off ⟨[],rfl,trivial,rfl⟩ rfl rfl rfl rfl
 exact fun θ R ⟨h14d,h30d,_⟩=>Opp.off ⟨[],rfl,trivial,rfl⟩ rfl rfl rfl rfl
 exact fun θ R ⟨h7d,h14d,h31d,_⟩=>Zo (OD.pickF rfl rfl rfl) rfl rfl rfl rfl trivial rfl
 exact fun θ R ⟨h7d,h32d,_⟩=>Zq (OD.pickF rfl rfl rfl) rfl
 intro θ hall
 obtain⟨_,_,_,_,_,_,_,_,_,_,_,_,_,_,_,_,_,_,_,_,_,_,_,_,_,_,_,_,_,_,_,_,_,_,_⟩:=hall
 refine G.at [] 0 (env':=[(1,.pointer (some ⟨g1,0,none⟩)),(4,.int .i64 ((i:Int))),(68,.bool false)]) ⟨rfl,rfl,rfl,trivial⟩ (own':=box g1 27 [.int .i64 (cr),vcd]::own) rfl ?_
 show G _ _ _ [] _ _ _ _
 refine Zn (Zt (GC.condF rfl (Zk (GE.blockN (Zt (Zr ?_))))))
 refine Zm rfl (Zd (OD.addI rfl rfl rfl (by omega)) rfl ?_)
 exact Za rfl (Zn (GE.again (i+1) (⟨by omega,any_succ hany (by simp only[badE,atI,hg2e,hg5,hg6,Bool.not_true,Bool.not_false,Bool.and_true,Bool.true_and,Bool.and_false,Bool.false_and,Bool.and_self,Bool.or_false,Bool.or_true,Bool.false_or,Bool.true_or])⟩) (by first | omega | (dsimp only;omega)) ⟨rfl,rfl,trivial⟩ [] 0 rfl))
 replace hc4:=of_decide_eq_false hc4
 have hte:=tyS_eq hok1 (by rw[show cd.length=i by omega];exact hany)
 refine GC.exit (Zp (Zp (GE.hit (Zt (Zs (Zr ?_))))))
 refine G.step (OG.buildStrs (os:=[]) (xs:=[]) rfl et113 rfl rfl rfl rfl rfl) rfl rfl rfl ?_
 rintro v8 _ ⟨hs9,rfl⟩
 refine Za rfl (Zn (Zt (Zs (Zr (G.step (OG.buildInts (xs:=[]) (is:=[]) rfl et22 rfl rfl rfl rfl rfl) rfl rfl rfl ?_)))))
 rintro v10 _ ⟨hs11,rfl⟩
 refine Za rfl (Zn (Zt (Zs (Zs (Zr (Za rfl (Zn (Zt (GC.block ?_)))))))))
 refine GC.loop (ι:=Nat × List Nat × List Int × List ByteArray × Value × Value) (fun⟨i,ks,dn,xs,v,u⟩=>[(1,.pointer (some ⟨g1,0,none⟩)),(5,v),(6,u),(7,.int .i64 ((i:Int)))]) (fun⟨i,ks,dn,xs,v,u⟩=>ints 3 u dn::strs 9 v xs::box g1 27 [.int .i64 (cr),vcd]::own) (fun⟨i,ks,dn,xs,v,u⟩=>((i:Int)≤cr)∧(IsS v)∧(IsS u)∧(partsF cr cd i=some (ks,dn))∧(xs=ks.map nameB)∧(∀ k∈ks,k<12)∧(ks.length≤i)∧(dn.length≤4*i)) (fun⟨i,ks,dn,xs,v,u⟩=>cr.toNat - i) (0,[],[],[],v8,v10) (⟨by omega,hs9,hs11,rfl,rfl,by simp,by simp,by simp⟩) ⟨rfl,rfl,rfl,rfl,trivial⟩ [] 0 rfl ?_
 rintro⟨i,ks,dn,xs,v,u⟩ ⟨hi,hv,hu,hp,hxs,hk12,hkl,hdl⟩
 refine Zs (Zs (Zr (Zm rfl (Zd (OD.fieldAddr rfl rfl fa27_0) rfl ?_))))
 refine Zd (OD.load rfl ti3 rfl (i:=2) rfl rfl) rfl ?_
 refine Zd (OD.lss rfl rfl rfl) rfl ?_
 refine Zn (Zt ?_)
 refine GC.cond rfl (fun hc12=>?_) (fun hc12=>?_)
 replace hc12:=of_decide_eq_true hc12
 have hpl:=partF_len (n:=cr) (d:=cd) (i:=(i:Int)) ⟨by omega,by omega⟩
 have hpg:=(partF_good (n:=cr) (d:=cd) (i:=(i:Int)) ⟨by omega,by omega⟩).2
 refine Zk (Zt (Zs (GC.block (Zs (Zs (Zr ?_))))))
 refine Zm rfl (Zm rfl (G.step (OG.call [u,.int .i64 ((i:Int))] ent163 rfl rfl rfl rfl (by exact(l1Find_w hu (Ent.ints (i:=0) rfl) (by omega)))) rfl rfl rfl ?_))
 rintro _ _ ⟨rfl,rfl⟩
 refine Zd (OD.eqv (OD.geq rfl rfl rfl) (congrArg (Value.bool) ((posI_ge _ _):_=(dn.contains (i:Int))))) rfl ?_
 refine Zn (Zt ?_)
 refine GC.cond rfl (fun hc13=>?_) (fun hc13=>?_)
 have hdc:=hc13
 refine GC.exit (Zp (GE.hit (Zt (Zr ?_))))
 refine Zm rfl (Zd (OD.addI rfl rfl rfl (by omega)) rfl ?_)
 exact Za rfl (Zn (GE.again (i+1,ks,dn,xs,v,u) (⟨by omega,hv,hu,partsF_skip hp hdc,hxs,hk12,by omega,by omega⟩) (by first | omega | (dsimp only;omega)) ⟨rfl,rfl,rfl,rfl,trivial⟩ [] 0 rfl))
 have hdc:=hc13
 refine Zk (Zt (Zs (Zr (Zd (OD.loadAgg rfl ti27 rfl (i:=2) rfl (us:=[.int .i64 (cr),vcd]) rfl rfl) rfl ?_))))
 refine Zm rfl (G.step (OG.call [.agg #[.int .i64 (cr),vcd],.int .i64 ((i:Int))] ent164 rfl rfl rfl rfl (by exact(l5Part_w scd (Ent.drop 3 ecd) (hcr2) (by omega) (⟨by omega,by omega⟩)))) rfl rfl rfl ?_)
 rintro v14 _ ⟨_,rfl,hs15,rfl⟩
 refine Za rfl (Zn (Zt (Zs (Zr (Zm rfl (Zm rfl (G.step (OG.appendInts 1 rfl rfl et22 rfl rfl rfl (Ent.ints (i:=0) rfl) (by first | omega | (simp;omega))) rfl rfl rfl ?_)))))))
 rintro v16 _ ⟨hs17,rfl⟩
 refine Za rfl (Zn (Zt (Zs (Zr (Za rfl (Zn (Zt (Zs (Zr (G.step (OG.call [] ent103 rfl rfl rfl rfl (by exact l5Names_w)) rfl rfl rfl ?_))))))))))
 rintro v18 _ ⟨_,rfl,hs19,rfl⟩
 refine Za rfl (Zn (Zt (Zs (Zs (Zr (Za rfl (Zn (Zt (GC.block ?_)))))))))
 refine GC.loop (ι:=Nat × Option Nat) (fun⟨m,fo⟩=>[(1,.pointer (some ⟨g1,0,none⟩)),(5,v),(7,.int .i64 ((i:Int))),(8,v14),(6,v16),(10,v18),(9,.string (nameO fo)),(11,.int .i64 ((m:Int)))]) (fun⟨m,fo⟩=>strs 9 v18 nameL::ints 3 v14 (partF cr cd (i:Int))::ints 3 v16 (dn++(partF cr cd (i:Int)))::strs 9 v xs::box g1 27 [.int .i64 (cr),vcd]::own) (fun⟨m,fo⟩=>(m≤12)∧(fo=foundF cr cd (partF cr cd i) m)) (fun⟨m,fo⟩=>12 - m) (0,none) (⟨by omega,rfl⟩) ⟨rfl,rfl,rfl,rfl,rfl,rfl,rfl,rfl,trivial⟩ [] 0 rfl ?_
 rintro⟨m,fo⟩ ⟨hm,hfo⟩
 refine Zs (Zs (Zr (Zm rfl (Zm rfl (Zd (OD.len rfl rfl et113 rfl (Ent.strs (i:=0) rfl)) rfl ?_)))))
 refine Zd (OD.lss rfl rfl rfl) rfl ?_
 refine Zn (Zt ?_)
 refine GC.cond rfl (fun hc20=>?_) (fun hc20=>?_)
 replace hc20:=of_decide_eq_true hc20
 have hn1:=rk_bd m (by omega)
 have hol:=oneD_len m (by omega)
 have hol2:((oneD m).length:Int)=(rk m:Int)*(rk m:Int):=by rw[hol];exact Int.natCast_mul _ _
 have hsz2:(nameL.getD m ⟨#[]⟩).size=2:=nm_sz m (by omega)
 refine Zk (Zt (Zs (GC.block (Zs ?_))))
 rcases Bool.eq_false_or_eq_true ((rk m:Int)==((partF cr cd (i:Int)).length:Nat)) with hg21 | hg21
 have hg21p:=hg21
 replace hg21p:=eq_of_beq hg21p
 refine GC.at [] 0 (env':=[(1,.pointer (some ⟨g1,0,none⟩)),(5,v),(7,.int .i64 ((i:Int))),(8,v14),(6,v16),(10,v18),(9,.string (nameO fo)),(11,.int .i64 ((m:Int)))]) ⟨rfl,rfl,rfl,rfl,rfl,rfl,rfl,rfl,trivial⟩ rfl ?_
 refine GC.par (its:=[Z0 94 v18,
     Z0 95 (.int .i64 ((m:Int))),
     Z1 96 [(0,94),(1,95)] (elemPtr v18 1 (m)),
     Z1 97 [(2,96)] (.string (nameL.getD (m) ⟨#[]⟩)),
     Z1 98 [(3,97)] (.int .u8 (bAt (nameL.getD (m) ⟨#[]⟩) 1)),
     Z1 99 [(4,98)] (.int .u8 ((rk m:Int))),
     Z1 100 [(5,99)] (.int .i64 ((rk m:Int))),
     Z0 101 v14,
     Z1 102 [(7,101)] (.int .i64 (((partF cr cd (i:Int)).length:Nat))),
     Z1 103 [(6,100),(8,102)] (.bool true),
     Z1 104 [(9,103)] (.bool true),
     Z1 105 [(10,104)] (.agg #[.int .i64 (cr),vcd]),
     Z1 106 [(10,104)] v14,
     Z1 107 [(10,104)] v18,
     Z1 108 [(10,104)] (.int .i64 ((m:Int))),
     Z1 109 [(10,104),(13,107),(14,108)] (elemPtr v18 1 (m)),
     Z1 110 [(10,104),(15,109)] (.string (nameL.getD (m) ⟨#[]⟩)),
     ⟨111,[(10,104),(16,110)],[],[],[17],fun ds => .agg #[.int .i64 ((rk m:Int)),((ds.getD 0 []).getD 0 undef)],fun ds=>IsS ((ds.getD 0 []).getD 0 undef),fun ds=>[ints 3 ((ds.getD 0 []).getD 0 undef) (oneD m)]⟩,
     ⟨112,[(10,104),(11,105),(12,106),(17,111)],[17],[],[17],fun _ => .bool (fitsF cr cd (partF cr cd (i:Int)) (rk m:Int) (oneD m) 5 []),fun _=>True,fun _=>[]⟩,
     ⟨113,[(10,104),(18,112)],[17],[],[17],fun _ => .bool (fitsF cr cd (partF cr cd (i:Int)) (rk m:Int) (oneD m) 5 []),fun _=>True,fun _=>[]⟩]) (by kernel_rfl) (by kernel_rfl) (Zc ?_ (Zc ?_ (Zc ?_ (Zc ?_ (Zc ?_ (Zc ?_ (Zc ?_ (Zc ?_ (Zc ?_ (Zc ?_ (Zc ?_ (Zc ?_ (Zc ?_ (Zc ?_ (Zc ?_ (Zc ?_ (Zc ?_ (Zc ?_ (Zc ?_ (Zc ?_ POps.nil)))))))))))))))))))) ?_
 exact fun θ R hd=>Zq (OD.move rfl rfl) rfl
 exact fun θ R hd=>Zq (OD.move rfl rfl) rfl
 exact fun θ R ⟨h0d,h1d,_⟩=>Zq (OD.indexAddr rfl et113 rfl (Ent.strs (i:=0) rfl) rfl (by omega)) rfl
 exact fun θ R ⟨h2d,_⟩=>Zq (OD.loadStr rfl ti9 rfl (Ent.strs (i:=0) rfl) (by omega)) rfl
 exact fun θ R ⟨h3d,_⟩=>Zq (OD.indexStr rfl st9 rfl rfl (by omega)) rfl
 exact fun θ R ⟨h4d,_⟩=>Zq (OD.eqv (OD.sub rfl rfl rfl) (congrArg (Value.int .u8) ((nm_rk m (by omega)):(IntKind.u8.wrap ((bAt (nameL.getD (m) ⟨#[]⟩) 1) - 48):Int)=((rk m:Int))))) rfl
 exact fun θ R ⟨h5d,_⟩=>Zq (OD.convI rfl cv5_3 rfl (by omega)) rfl
 exact fun θ R hd=>Zq (OD.move rfl rfl) rfl
 exact fun θ R ⟨h7d,_⟩=>Zq (OD.len rfl rfl et22 rfl (Ent.ints (i:=1) rfl)) rfl
 exact fun θ R ⟨h6d,h8d,_⟩=>Opp.plain (OG.imp (OD.eql rfl rfl rfl) (by rintro _ _ ⟨rfl,rfl⟩;exact⟨[],congrArg Value.bool hg21,trivial,rfl⟩)) rfl
 exact fun θ R ⟨h9d,_⟩=>Zq (OD.move rfl rfl) rfl
 exact fun θ R ⟨h10d,_⟩=>Zo (OD.loadAgg rfl ti27 rfl (i:=4) rfl (us:=[.int .i64 (cr),vcd]) rfl rfl) rfl rfl rfl rfl trivial rfl
 exact fun θ R ⟨h10d,_⟩=>Zo (OD.move rfl rfl) rfl rfl rfl rfl trivial rfl
 exact fun θ R ⟨h10d,_⟩=>Zo (OD.move rfl rfl) rfl rfl rfl rfl trivial rfl
 exact fun θ R ⟨h10d,_⟩=>Zo (OD.move rfl rfl) rfl rfl rfl rfl trivial rfl
 exact fun θ R ⟨h10d,h13d,h14d,_⟩=>Zo (OD.indexAddr rfl et113 rfl (Ent.strs (i:=0) rfl) rfl (by omega)) rfl rfl rfl rfl trivial rfl
 exact fun θ R ⟨h10d,h15d,_⟩=>Zo (OD.loadStr rfl ti9 rfl (Ent.strs (i:=0) rfl) (by omega)) rfl rfl rfl rfl trivial rfl
 exact fun θ R ⟨h10d,h16d,_⟩=>Opp.on (OG.imp (OG.call [.string (nameL.getD (m) ⟨#[]⟩)] ent105 rfl rfl rfl rfl (by exact(l5One_w (k:=m) (by omega) (rfl)))) (by rintro _ _ ⟨v22,rfl,hs23,rfl⟩;exact⟨[v22],rfl,hs23,rfl⟩)) rfl rfl rfl
 exact fun θ R ⟨h10d,h11d,h12d,h17d,_⟩=>Zo (OG.call [.agg #[.int .i64 (cr),vcd],v14,.slice none 0 0,.agg #[.int .i64 ((rk m:Int)),((θ 17).getD 0 undef)]] ent165 rfl rfl rfl rfl (by exact(l5Fits_w 5 scd (Ent.drop 6 ecd.app) hs15 (Ent.ints (i:=2) rfl) IsS.nil Ent.nilInts h17d (Ent.ints (i:=0) rfl) (hcr2) (by omega) (hpg) (by simp) (int_of_beq (by assumption)) (hol2) (by omega) (by simp) (by simp;omega)))) rfl rfl rfl rfl trivial rfl
 exact fun θ R ⟨h10d,h18d,_⟩=>Zq (OD.pickT rfl rfl rfl) rfl
 intro θ hall
 obtain⟨_,_,_,_,_,_,_,_,_,_,_,_,_,_,_,_,_,h17a,_,_,_⟩:=hall
 refine G.at [] 0 (env':=[(1,.pointer (some ⟨g1,0,none⟩)),(5,v),(7,.int .i64 ((i:Int))),(8,v14),(6,v16),(10,v18),(9,.string (nameO fo)),(11,.int .i64 ((m:Int))),(113,.bool (fitsF cr cd (partF cr cd (i:Int)) (rk m:Int) (oneD m) 5 []))]) ⟨rfl,rfl,rfl,rfl,rfl,rfl,rfl,rfl,rfl,trivial⟩ (own':=ints 3 ((θ 17).getD 0 undef) (oneD m)::strs 9 v18 nameL::ints 3 v14 (partF cr cd (i:Int))::ints 3 v16 (dn++(partF cr cd (i:Int)))::strs 9 v xs::box g1 27 [.int .i64 (cr),vcd]::own) rfl ?_
 have hs24:IsS ((θ 17).getD 0 undef):=h17a
 clear h17a
 generalize ((θ 17).getD 0 undef)=v25 at *
 show G _ _ _ [] _ _ _ _
 refine Zn (Zt ?_)
 refine GC.cond rfl (fun hc26=>?_) (fun hc26=>?_)
 refine Zr (Zm rfl (Zm rfl (Zd (OD.indexAddr rfl et113 rfl (Ent.strs (i:=1) rfl) rfl (by omega)) rfl ?_)))
 refine Zd (OD.loadStr rfl ti9 rfl (Ent.strs (i:=1) rfl) (by omega)) rfl ?_
 refine Za rfl (Zn (GE.blockN (Zt (Zr ?_))))
 refine Zm rfl (Zd (OD.addI rfl rfl rfl (by omega)) rfl ?_)
 exact Za rfl (Zn (GE.again (m+1,some m) (⟨by omega,by rw[foundF_succ,if_pos (by rw[show (rk m==(partF cr cd i).length)=true from beq_iff_eq.2 (by omega),hc26];simp)]⟩) (by first | omega | (dsimp only;omega)) ⟨rfl,rfl,rfl,rfl,rfl,rfl,rfl,rfl,trivial⟩ [1,1,1,1,1] 1 rfl))
 refine Zk (GE.blockN (Zt (Zr ?_)))
 refine Zm rfl (Zd (OD.addI rfl rfl rfl (by omega)) rfl ?_)
 exact Za rfl (Zn (GE.again (m+1,fo) (⟨by omega,by rw[foundF_succ,if_neg (by rw[show (rk m==(partF cr cd i).length)=true from beq_iff_eq.2 (by omega),hc26];simp)];exact hfo⟩) (by first | omega | (dsimp only;omega)) ⟨rfl,rfl,rfl,rfl,rfl,rfl,rfl,rfl,trivial⟩ [1,1,1,1,1] 1 rfl))
 have hg21p:=hg21
 replace hg21p:=ne_of_beq_false hg21p
 refine GC.at [] 0 (env':=[(1,.pointer (some ⟨g1,0,none⟩)),(5,v),(7,.int .i64 ((i:Int))),(8,v14),(6,v16),(10,v18),(9,.string (nameO fo)),(11,.int .i64 ((m:Int)))]) ⟨rfl,rfl,rfl,rfl,rfl,rfl,rfl,rfl,trivial⟩ rfl ?_
 refine GC.par (its:=[Z0 94 v18,
     Z0 95 (.int .i64 ((m:Int))),
     Z1 96 [(0,94),(1,95)] (elemPtr v18 1 (m)),
     Z1 97 [(2,96)] (.string (nameL.getD (m) ⟨#[]⟩)),
     Z1 98 [(3,97)] (.int .u8 (bAt (nameL.getD (m) ⟨#[]⟩) 1)),
     Z1 99 [(4,98)] (.int .u8 ((rk m:Int))),
     Z1 100 [(5,99)] (.int .i64 ((rk m:Int))),
     Z0 101 v14,
     Z1 102 [(7,101)] (.int .i64 (((partF cr cd (i:Int)).length:Nat))),
     Z1 103 [(6,100),(8,102)] (.bool false),
     Z1 104 [(9,103)] (.bool false),
     Z1 105 [(10,104)] undef,
     Z1 106 [(10,104)] undef,
     Z1 107 [(10,104)] undef,
     Z1 108 [(10,104)] undef,
     Z1 109 [(10,104),(13,107),(14,108)] undef,
     Z1 110 [(10,104),(15,109)] undef,
     Z1 111 [(10,104),(16,110)] undef,
     Z1 112 [(10,104),(11,105),(12,106),(17,111)] undef,
     Z1 113 [(10,104),(18,112)] (.bool false)]) (by kernel_rfl) (by kernel_rfl) (Zc ?_ (Zc ?_ (Zc ?_ (Zc ?_ (Zc ?_ (Zc ?_ (Zc ?_ (Zc ?_ (Zc ?_ (Zc ?_ (Zc ?_ (Zc ?_ (Zc ?_ (Zc ?_ (Zc ?_ (Zc ?_ (Zc ?_ (Zc ?_ (Zc ?_ (Zc ?_ POps.nil)))))))))))))))))))) ?_
 exact fun θ R hd=>Zq (OD.move rfl rfl) rfl
 exact fun θ R hd=>Zq (OD.move rfl rfl) rfl
 exact fun θ R ⟨h0d,h1d,_⟩=>Zq (OD.indexAddr rfl et113 rfl (Ent.strs (i:=0) rfl) rfl (by omega)) rfl
 exact fun θ R ⟨h2d,_⟩=>Zq (OD.loadStr rfl ti9 rfl (Ent.strs (i:=0) rfl) (by omega)) rfl
 exact fun θ R ⟨h3d,_⟩=>Zq (OD.indexStr rfl st9 rfl rfl (by omega)) rfl
 exact fun θ R ⟨h4d,_⟩=>Zq (OD.eqv (OD.sub rfl rfl rfl) (congrArg (Value.int .u8) ((nm_rk m (by omega)):(IntKind.u8.wrap ((bAt (nameL.getD (m) ⟨#[]⟩) 1) - 48):Int)=((rk m:Int))))) rfl
 exact fun θ R ⟨h5d,_⟩=>Zq (OD.convI rfl cv5_3 rfl (by omega)) rfl
 exact fun θ R hd=>Zq (OD.move rfl rfl) rfl
 exact fun θ R ⟨h7d,_⟩=>Zq (OD.len rfl rfl et22 rfl (Ent.ints (i:=1) rfl)) rfl
 exact fun θ R ⟨h6d,h8d,_⟩=>Opp.plain (OG.imp (OD.eql rfl rfl rfl) (by rintro _ _ ⟨rfl,rfl⟩;exact⟨[],congrArg Value.bool hg21,trivial,rfl⟩)) rfl
 exact fun θ R ⟨h9d,_⟩=>Zq (OD.move rfl rfl) rfl
 exact fun θ R ⟨h10d,_⟩=>Opp.off ⟨[],rfl,trivial,rfl⟩ rfl rfl rfl rfl
 exact fun θ R ⟨h10d,_⟩=>Opp.off ⟨[],rfl,trivial,rfl⟩ rfl rfl rfl rfl
 exact fun θ R ⟨h10d,_⟩=>Opp.off ⟨[],rfl,trivial,rfl⟩ rfl rfl rfl rfl
 exact fun θ R ⟨h10d,_⟩=>Opp.off ⟨[],rfl,trivial,rfl⟩ rfl rfl rfl rfl
 exact fun θ R ⟨h10d,h13d,h14d,_⟩=>Opp.off ⟨[],rfl,trivial,rfl⟩ rfl rfl rfl rfl
 exact fun θ R ⟨h10d,h15d,_⟩=>Opp.off ⟨[],rfl,trivial,rfl⟩ rfl rfl rfl rfl
 exact fun θ R ⟨h10d,h16d,_⟩=>Opp.off ⟨[],rfl,trivial,rfl⟩ rfl rfl rfl rfl
 exact fun θ R ⟨h10d,h11d,h12d,h17d,_⟩=>Opp.off ⟨[],rfl,trivial,rfl⟩ rfl rfl rfl rfl
 exact fun θ R ⟨h10d,h18d,_⟩=>Zq (OD.pickF rfl rfl rfl) rfl
 intro θ hall
 obtain⟨_,_,_,_,_,_,_,_,_,_,_,_,_,_,_,_,_,_,_,_,_⟩:=hall
 refine G.at [] 0 (env':=[(1,.pointer (some ⟨g1,0,none⟩)),(5,v),(7,.int .i64 ((i:Int))),(8,v14),(6,v16),(10,v18),(9,.string (nameO fo)),(11,.int .i64 ((m:Int))),(113,.bool false)]) ⟨rfl,rfl,rfl,rfl,rfl,rfl,rfl,rfl,rfl,trivial⟩ (own':=strs 9 v18 nameL::ints 3 v14 (partF cr cd (i:Int))::ints 3 v16 (dn++(partF cr cd (i:Int)))::strs 9 v xs::box g1 27 [.int .i64 (cr),vcd]::own) rfl ?_
 show G _ _ _ [] _ _ _ _
 refine Zn (Zt (GC.condF rfl (Zk (GE.blockN (Zt (Zr ?_))))))
 refine Zm rfl (Zd (OD.addI rfl rfl rfl (by omega)) rfl ?_)
 exact Za rfl (Zn (GE.again (m+1,fo) (⟨by omega,by rw[foundF_succ,if_neg (by rw[show (rk m==(partF cr cd i).length)=false from beq_eq_false_iff_ne.2 (by have hh:=ne_of_beq_false hg21;omega)];simp)];exact hfo⟩) (by first | omega | (dsimp only;omega)) ⟨rfl,rfl,rfl,rfl,rfl,rfl,rfl,rfl,trivial⟩ [] 0 rfl))
 replace hc20:=of_decide_eq_false hc20
 have hf12:fo=foundF cr cd (partF cr cd i) 12:=by rw[hfo,show m=12 by omega]
 refine GC.exit (Zp (Zp (GE.hit (Zt (Zs (Zs (Zr ?_)))))))
 refine Zm rfl (Zd (OD.eqv (OD.strEql rfl rfl rfl) (congrArg (Value.bool) ((nameO_empty fun k hk=>foundF_lt (hf12.symm.trans hk)):_=(fo.isNone)))) rfl ?_)
 refine Zn (Zt ?_)
 refine GC.cond rfl (fun hc27=>?_) (fun hc27=>?_)
 have hnn:=partsF_none (partsF_bad hp hdc (hf12.symm.trans (by simpa using hc27)))
 obtain⟨hq1,hq2⟩:=psN_none (hte.trans (by have:=hnn (cr.toNat - (i+1));rw[show i+1+(cr.toNat - (i+1))=cr.toNat by omega] at this;rw[this];rfl))
 refine Zs (Zr (Za rfl (Za rfl (Zn (Zt (GC.ret (GE.passR (GE.blockR (GE.passR (GE.passR (GE.blockR (GE.passR ?_))))))))))))
 refine GE.nilStrs 9 ?_
 exact GE.body [0] 5 (res2 rfl rfl rfl) rfl (⟨(.slice none 0 0),congrArg (fun(a1:Bool)=>(.tuple #[(.slice none 0 0),.bool (a1)]:Value)) ((hq2.symm:(false:Bool)=(tyS cr cd).isSome)),IsS.nil,congrArg (fun(l0:List ByteArray)=>strs 9 (.slice none 0 0) l0::own) ((hq1.symm : []=psN (tyS cr cd)))⟩)
 obtain⟨k,hok⟩:=isNone_not hc27
 have hfk:=hf12.symm.trans hok
 have hkl12:=foundF_lt hfk
 have hxl:xs.length=ks.length:=by rw[hxs,List.length_map]
 refine Zk (Zt (Zs (Zr (Zm rfl (Zd (OD.len rfl rfl et113 rfl (Ent.strs (i:=3) rfl)) rfl ?_)))))
 refine Za rfl (Zn (Zt (Zs (GC.block ?_))))
 refine GC.loop (ι:=Nat) (fun a=>[(1,.pointer (some ⟨g1,0,none⟩)),(5,v),(7,.int .i64 ((i:Int))),(6,v16),(9,.string (nameO fo)),(12,.int .i64 ((a:Int)))]) (fun a=>strs 9 v18 nameL::ints 3 v14 (partF cr cd (i:Int))::ints 3 v16 (dn++(partF cr cd (i:Int)))::strs 9 v xs::box g1 27 [.int .i64 (cr),vcd]::own) (fun a=>(a≤ks.length)∧(insAt ks k a=insAt ks k ks.length)) (fun a=>a) ks.length (⟨Nat.le_refl _,rfl⟩) ⟨rfl,rfl,rfl,rfl,rfl,int_eq (by rw[hxs];simp),trivial⟩ [] 0 rfl ?_
 rintro a ⟨ha,hins⟩
 refine Zs (Zs (Zr (Zm rfl (Zd (OD.gtr rfl rfl rfl) rfl ?_))))
 refine Zm rfl ?_
 rcases Bool.eq_false_or_eq_true (decide (0<(a:Int))) with hg28 | hg28
 have hg28e:=hg28
 refine G.at [] 0 (env':=[(1,.pointer (some ⟨g1,0,none⟩)),(5,v),(7,.int .i64 ((i:Int))),(6,v16),(9,.string (nameO fo)),(12,.int .i64 ((a:Int))),(122,.int .i64 ((a:Int))),(123,.bool true),(124,.bool true)]) (⟨rfl,rfl,rfl,rfl,rfl,rfl,rfl,(congrArg (fun b=>some (Value.bool b)) hg28e),(congrArg (fun b=>some (Value.bool b)) hg28e),trivial⟩) rfl ?_
 replace hg28:=of_decide_eq_true hg28
 refine G.stepGD (OD.move rfl rfl) rfl rfl rfl rfl rfl ?_
 refine G.stepGD (OD.move rfl rfl) rfl rfl rfl rfl rfl ?_
 refine G.stepGD (OD.subI rfl rfl rfl (by omega)) rfl rfl rfl rfl rfl ?_
 refine G.stepGD (OD.indexAddr rfl et113 rfl (Ent.strs (i:=3) rfl) rfl (by omega)) rfl rfl rfl rfl rfl ?_
 refine G.stepGD (OD.loadStr rfl ti9 rfl (Ent.strs (i:=3) rfl) (by omega)) rfl rfl rfl rfl rfl ?_
 refine G.stepGD (OD.move rfl rfl) rfl rfl rfl rfl rfl ?_
 refine G.stepGD (OD.eqv (OD.strGtr rfl rfl rfl) (congrArg (Value.bool) ((by rw[hxs,getD_mapB (by omega),hok];exact nm_gt _ (getD_lt hk12 _) _ hkl12):_=(decide (k<ks.getD ((a:Int) - 1:Int).toNat 0))))) rfl rfl rfl rfl rfl ?_
 refine Zd (OD.pickT rfl rfl rfl) rfl ?_
 refine Zn (Zt ?_)
 refine GC.cond rfl (fun hc29=>?_) (fun hc29=>?_)
 replace hc29:=of_decide_eq_true hc29
 have haa:a=(a - 1)+1:=by omega
 have hlt:k<ks.getD (a - 1) 0:=by have e:((a:Int) - 1).toNat=a - 1:=(by omega);rw[e] at hc29;exact hc29
 refine Zk (Zt (GC.block (Zr ?_)))
 refine Zm rfl (Zd (OD.subI rfl rfl rfl (by omega)) rfl ?_)
 refine Za rfl (Zn (GE.blockN ?_))
 exact GE.again (a - 1) (⟨by omega,by rw[← hins,haa,insAt,if_pos hlt];rfl⟩) (by first | omega | (dsimp only;omega)) ⟨rfl,rfl,rfl,rfl,rfl,int_eq (by omega),trivial⟩ [] 0 rfl
 replace hc29:=of_decide_eq_false hc29
 have hend:insAt ks k a=a:=by have e:((a:Int) - 1).toNat=a - 1:=(by omega);rw[e] at hc29;rw[show a=(a - 1)+1 by omega,insAt,if_neg hc29]
 refine GC.exit (Zp (Zp (GE.hit (Zt ?_))))
 refine GC.at [] 0 (env':=[(1,.pointer (some ⟨g1,0,none⟩)),(5,v),(7,.int .i64 ((i:Int))),(6,v16),(9,.string (nameO fo)),(12,.int .i64 ((a:Int)))]) ⟨rfl,rfl,rfl,rfl,rfl,rfl,trivial⟩ rfl ?_
 refine GC.par (its:=[⟨135,[],[],[],[0],fun ds=>((ds.getD 0 []).getD 0 undef),fun ds=>IsS ((ds.getD 0 []).getD 0 undef),fun ds=>[strs 9 ((ds.getD 0 []).getD 0 undef) []]⟩,
     Z0 136 v,
     Z0 137 (.int .i64 ((a:Int))),
     Z1 138 [(1,136),(2,137)] ((subV 1 v 0 a)),
     ⟨139,[(0,135),(3,138)],[0],[0],[0,4],fun ds=>((ds.getD 1 []).getD 0 undef),fun ds=>IsS ((ds.getD 1 []).getD 0 undef),fun ds=>[strs 9 ((ds.getD 1 []).getD 0 undef) ([]++((xs.drop (0)).take (a - 0)))]⟩,
     Z0 140 (.string (nameO fo)),
     ⟨141,[(5,140)],[],[],[6],fun ds=>((ds.getD 0 []).getD 0 undef),fun ds=>IsS ((ds.getD 0 []).getD 0 undef),fun ds=>[strs 9 ((ds.getD 0 []).getD 0 undef) [nameO fo]]⟩,
     ⟨142,[(4,139),(6,141)],[4,6],[4],[0,4,6,7],fun ds=>((ds.getD 3 []).getD 0 undef),fun ds=>IsS ((ds.getD 3 []).getD 0 undef),fun ds=>[strs 9 ((ds.getD 3 []).getD 0 undef) (([]++((xs.drop (0)).take (a - 0)))++[nameO fo])]⟩,
     Z0 143 v,
     Z0 144 (.int .i64 ((a:Int))),
     Z1 145 [(8,143),(9,144)] ((subV 1 v a xs.length)),
     ⟨146,[(7,142),(10,145)],[7,6],[7],[0,4,6,7,11],fun ds=>((ds.getD 4 []).getD 0 undef),fun ds=>IsS ((ds.getD 4 []).getD 0 undef),fun ds=>[strs 9 ((ds.getD 4 []).getD 0 undef) ((([]++((xs.drop (0)).take (a - 0)))++[nameO fo])++((xs.drop (a)).take (xs.length - a)))]⟩]) (by kernel_rfl) (by kernel_rfl) (Zc ?_ (Zc ?_ (Zc ?_ (Zc ?_ (Zc ?_ (Zc ?_ (Zc ?_ (Zc ?_ (Zc ?_ (Zc ?_ (Zc ?_ (Zc ?_ POps.nil)))))))))))) ?_
 exact fun θ R hd=>Opp.plain (OG.imp (OG.buildStrs (os:=[]) (xs:=[]) rfl et113 rfl rfl rfl rfl rfl) (by rintro v30 _ ⟨hs31,rfl⟩;exact⟨[v30],rfl,hs31,rfl⟩)) rfl
 exact fun θ R hd=>Zq (OD.move rfl rfl) rfl
 exact fun θ R hd=>Zq (OD.move rfl rfl) rfl
 exact fun θ R ⟨h1d,h2d,_⟩=>Zq (OD.sliceTo rfl et113 rfl rfl (Ent.strs (i:=3) rfl) (by omega)) rfl
 exact fun θ R ⟨h0d,h3d,_⟩=>Opp.plain (OG.imp (OG.appendStrs 0 rfl rfl et113 rfl rfl rfl (Ent.subStrs (Ent.strs (i:=4) rfl) (by simp;omega)) (by simp[maxLen] <;> omega)) (by rintro v32 _ ⟨hs33,rfl⟩;exact⟨[v32],rfl,hs33,rfl⟩)) rfl
 exact fun θ R hd=>Zq (OD.move rfl rfl) rfl
 exact fun θ R ⟨h5d,_⟩=>Opp.plain (OG.imp (OG.buildStrs (os:=[.tmp 140]) (xs:=[nameO fo]) rfl et113 rfl rfl rfl rfl rfl) (by rintro v34 _ ⟨hs35,rfl⟩;exact⟨[v34],rfl,hs35,rfl⟩)) rfl
 exact fun θ R ⟨h4d,h6d,_⟩=>Opp.plain (OG.imp (OG.appendStrs 0 rfl rfl et113 rfl rfl rfl (Ent.strs (i:=1) rfl) (by simp[maxLen] <;> omega)) (by rintro v36 _ ⟨hs37,rfl⟩;exact⟨[v36],rfl,hs37,rfl⟩)) rfl
 exact fun θ R hd=>Zq (OD.move rfl rfl) rfl
 exact fun θ R hd=>Zq (OD.move rfl rfl) rfl
 exact fun θ R ⟨h8d,h9d,_⟩=>Zq (OD.sliceFrom rfl et113 rfl rfl (Ent.strs (i:=3) rfl) (by omega)) rfl
 exact fun θ R ⟨h7d,h10d,_⟩=>Opp.plain (OG.imp (OG.appendStrs 0 rfl rfl et113 rfl rfl rfl (Ent.subStrs (Ent.strs (i:=5) rfl) (by simp;omega)) (by simp[maxLen] <;> omega)) (by rintro v38 _ ⟨hs39,rfl⟩;exact⟨[v38],rfl,hs39,rfl⟩)) rfl
 intro θ hall
 obtain⟨h0a,_,_,_,h4a,_,h6a,h7a,_,_,_,h11a,_⟩:=hall
 refine G.at [] 0 (env':=[(1,.pointer (some ⟨g1,0,none⟩)),(5,v),(7,.int .i64 ((i:Int))),(6,v16),(146,((θ 11).getD 0 undef))]) ⟨rfl,rfl,rfl,rfl,rfl,trivial⟩ (own':=strs 9 ((θ 6).getD 0 undef) [nameO fo]::strs 9 ((θ 11).getD 0 undef) ((([]++((xs.drop (0)).take (a - 0)))++[nameO fo])++((xs.drop (a)).take (xs.length - a)))::strs 9 v18 nameL::ints 3 v14 (partF cr cd (i:Int))::ints 3 v16 (dn++(partF cr cd (i:Int)))::strs 9 v xs::box g1 27 [.int .i64 (cr),vcd]::own) rfl ?_
 have hs40:IsS ((θ 0).getD 0 undef):=h0a
 clear h0a
 generalize ((θ 0).getD 0 undef)=v41 at *
 have hs42:IsS ((θ 4).getD 0 undef):=h4a
 clear h4a
 generalize ((θ 4).getD 0 undef)=v43 at *
 have hs44:IsS ((θ 6).getD 0 undef):=h6a
 clear h6a
 generalize ((θ 6).getD 0 undef)=v45 at *
 have hs46:IsS ((θ 7).getD 0 undef):=h7a
 clear h7a
 generalize ((θ 7).getD 0 undef)=v47 at *
 have hs48:IsS ((θ 11).getD 0 undef):=h11a
 clear h11a
 generalize ((θ 11).getD 0 undef)=v49 at *
 show G _ _ _ [_] _ _ _ _
 refine Za rfl (Zn (GE.blockN (Zt (Zr ?_))))
 refine Zm rfl (Zd (OD.addI rfl rfl rfl (by omega)) rfl ?_)
 exact Za rfl (Zn (GE.again (i+1,insF ks k,dn++(partF cr cd (i:Int)),(([]++((xs.drop (0)).take (a - 0)))++[nameO fo])++((xs.drop (a)).take (xs.length - a)),v49,v16) (⟨by omega,hs48,hs17,partsF_add hp hdc hfk,by rw[hxs];exact ins_eq hok (by rw[← hins];exact hend),insF_lt hk12 hkl12,by rw[insF_len];omega,by simp only[List.length_append];omega⟩) (by first | omega | (dsimp only;omega)) ⟨rfl,rfl,rfl,rfl,trivial⟩ [4,1,4] 4 rfl))
 have hg28e:=hg28
 refine G.at [] 0 (env':=[(1,.pointer (some ⟨g1,0,none⟩)),(5,v),(7,.int .i64 ((i:Int))),(6,v16),(9,.string (nameO fo)),(12,.int .i64 ((a:Int))),(122,.int .i64 ((a:Int))),(123,.bool false),(124,.bool false)]) (⟨rfl,rfl,rfl,rfl,rfl,rfl,rfl,(congrArg (fun b=>some (Value.bool b)) hg28e),(congrArg (fun b=>some (Value.bool b)) hg28e),trivial⟩) rfl ?_
 replace hg28:=of_decide_eq_false hg28
 refine G.skipG rfl rfl rfl rfl rfl rfl (G.skipG rfl rfl rfl rfl rfl rfl (G.skipG rfl rfl rfl rfl rfl rfl (G.skipG rfl rfl rfl rfl rfl rfl (G.skipG rfl rfl rfl rfl rfl rfl (G.skipG rfl rfl rfl rfl rfl rfl (G.skipG rfl rfl rfl rfl rfl rfl ?_))))))
 refine Zd (OD.pickF rfl rfl rfl) rfl ?_
 refine Zn (Zt (GC.condF rfl ?_))
 have hend:insAt ks k a=a:=by
   have hz:a=0:=by
     have hh:=of_decide_eq_false hg28e
     omega
   rw[hz];rfl
 refine GC.exit (Zp (Zp (GE.hit (Zt ?_))))
 refine GC.at [] 0 (env':=[(1,.pointer (some ⟨g1,0,none⟩)),(5,v),(7,.int .i64 ((i:Int))),(6,v16),(9,.string (nameO fo)),(12,.int .i64 ((a:Int)))]) ⟨rfl,rfl,rfl,rfl,rfl,rfl,trivial⟩ rfl ?_
 refine GC.par (its:=[⟨135,[],[],[],[0],fun ds=>((ds.getD 0 []).getD 0 undef),fun ds=>IsS ((ds.getD 0 []).getD 0 undef),fun ds=>[strs 9 ((ds.getD 0 []).getD 0 undef) []]⟩,
     Z0 136 v,
     Z0 137 (.int .i64 ((a:Int))),
     Z1 138 [(1,136),(2,137)] ((subV 1 v 0 a)),
     ⟨139,[(0,135),(3,138)],[0],[0],[0,4],fun ds=>((ds.getD 1 []).getD 0 undef),fun ds=>IsS ((ds.getD 1 []).getD 0 undef),fun ds=>[strs 9 ((ds.getD 1 []).getD 0 undef) ([]++((xs.drop (0)).take (a - 0)))]⟩,
     Z0 140 (.string (nameO fo)),
     ⟨141,[(5,140)],[],[],[6],fun ds=>((ds.getD 0 []).getD 0 undef),fun ds=>IsS ((ds.getD 0 []).getD 0 undef),fun ds=>[strs 9 ((ds.getD 0 []).getD 0 undef) [nameO fo]]⟩,
     ⟨142,[(4,139),(6,141)],[4,6],[4],[0,4,6,7],fun ds=>((ds.getD 3 []).getD 0 undef),fun ds=>IsS ((ds.getD 3 []).getD 0 undef),fun ds=>[strs 9 ((ds.getD 3 []).getD 0 undef) (([]++((xs.drop (0)).take (a - 0)))++[nameO fo])]⟩,
     Z0 143 v,
     Z0 144 (.int .i64 ((a:Int))),
     Z1 145 [(8,143),(9,144)] ((subV 1 v a xs.length)),
     ⟨146,[(7,142),(10,145)],[7,6],[7],[0,4,6,7,11],fun ds=>((ds.getD 4 []).getD 0 undef),fun ds=>IsS ((ds.getD 4 []).getD 0 undef),fun ds=>[strs 9 ((ds.getD 4 []).getD 0 undef) ((([]++((xs.drop (0)).take (a - 0)))++[nameO fo])++((xs.drop (a)).take (xs.length - a)))]⟩]) (by kernel_rfl) (by kernel_rfl) (Zc ?_ (Zc ?_ (Zc ?_ (Zc ?_ (Zc ?_ (Zc ?_ (Zc ?_ (Zc ?_ (Zc ?_ (Zc ?_ (Zc ?_ (Zc ?_ POps.nil)))))))))))) ?_
 exact fun θ R hd=>Opp.plain (OG.imp (OG.buildStrs (os:=[]) (xs:=[]) rfl et113 rfl rfl rfl rfl rfl) (by rintro v50 _ ⟨hs51,rfl⟩;exact⟨[v50],rfl,hs51,rfl⟩)) rfl
 exact fun θ R hd=>Zq (OD.move rfl rfl) rfl
 exact fun θ R hd=>Zq (OD.move rfl rfl) rfl
 exact fun θ R ⟨h1d,h2d,_⟩=>Zq (OD.sliceTo rfl et113 rfl rfl (Ent.strs (i:=3) rfl) (by omega)) rfl
 exact fun θ R ⟨h0d,h3d,_⟩=>Opp.plain (OG.imp (OG.appendStrs 0 rfl rfl et113 rfl rfl rfl (Ent.subStrs (Ent.strs (i:=4) rfl) (by simp;omega)) (by simp[maxLen] <;> omega)) (by rintro v52 _ ⟨hs53,rfl⟩;exact⟨[v52],rfl,hs53,rfl⟩)) rfl
 exact fun θ R hd=>Zq (OD.move rfl rfl) rfl
 exact fun θ R ⟨h5d,_⟩=>Opp.plain (OG.imp (OG.buildStrs (os:=[.tmp 140]) (xs:=[nameO fo]) rfl et113 rfl rfl rfl rfl rfl) (by rintro v54 _ ⟨hs55,rfl⟩;exact⟨[v54],rfl,hs55,rfl⟩)) rfl
 exact fun θ R ⟨h4d,h6d,_⟩=>Opp.plain (OG.imp (OG.appendStrs 0 rfl rfl et113 rfl rfl rfl (Ent.strs (i:=1) rfl) (by simp[maxLen] <;> omega)) (by rintro v56 _ ⟨hs57,rfl⟩;exact⟨[v56],rfl,hs57,rfl⟩)) rfl
 exact fun θ R hd=>Zq (OD.move rfl rfl) rfl
 exact fun θ R hd=>Zq (OD.move rfl rfl) rfl
 exact fun θ R ⟨h8d,h9d,_⟩=>Zq (OD.sliceFrom rfl et113 rfl rfl (Ent.strs (i:=3) rfl) (by omega)) rfl
 exact fun θ R ⟨h7d,h10d,_⟩=>Opp.plain (OG.imp (OG.appendStrs 0 rfl rfl et113 rfl rfl rfl (Ent.subStrs (Ent.strs (i:=5) rfl) (by simp;omega)) (by simp[maxLen] <;> omega)) (by rintro v58 _ ⟨hs59,rfl⟩;exact⟨[v58],rfl,hs59,rfl⟩)) rfl
 intro θ hall
 obtain⟨h0a,_,_,_,h4a,_,h6a,h7a,_,_,_,h11a,_⟩:=hall
 refine G.at [] 0 (env':=[(1,.pointer (some ⟨g1,0,none⟩)),(5,v),(7,.int .i64 ((i:Int))),(6,v16),(146,((θ 11).getD 0 undef))]) ⟨rfl,rfl,rfl,rfl,rfl,trivial⟩ (own':=strs 9 ((θ 6).getD 0 undef) [nameO fo]::strs 9 ((θ 11).getD 0 undef) ((([]++((xs.drop (0)).take (a - 0)))++[nameO fo])++((xs.drop (a)).take (xs.length - a)))::strs 9 v18 nameL::ints 3 v14 (partF cr cd (i:Int))::ints 3 v16 (dn++(partF cr cd (i:Int)))::strs 9 v xs::box g1 27 [.int .i64 (cr),vcd]::own) rfl ?_
 have hs60:IsS ((θ 0).getD 0 undef):=h0a
 clear h0a
 generalize ((θ 0).getD 0 undef)=v61 at *
 have hs62:IsS ((θ 4).getD 0 undef):=h4a
 clear h4a
 generalize ((θ 4).getD 0 undef)=v63 at *
 have hs64:IsS ((θ 6).getD 0 undef):=h6a
 clear h6a
 generalize ((θ 6).getD 0 undef)=v65 at *
 have hs66:IsS ((θ 7).getD 0 undef):=h7a
 clear h7a
 generalize ((θ 7).getD 0 undef)=v67 at *
 have hs68:IsS ((θ 11).getD 0 undef):=h11a
 clear h11a
 generalize ((θ 11).getD 0 undef)=v69 at *
 show G _ _ _ [_] _ _ _ _
 refine Za rfl (Zn (GE.blockN (Zt (Zr ?_))))
 refine Zm rfl (Zd (OD.addI rfl rfl rfl (by omega)) rfl ?_)
 exact Za rfl (Zn (GE.again (i+1,insF ks k,dn++(partF cr cd (i:Int)),(([]++((xs.drop (0)).take (a - 0)))++[nameO fo])++((xs.drop (a)).take (xs.length - a)),v69,v16) (⟨by omega,hs68,hs17,partsF_add hp hdc hfk,by rw[hxs];exact ins_eq hok (by rw[← hins];exact hend),insF_lt hk12 hkl12,by rw[insF_len];omega,by simp only[List.length_append];omega⟩) (by first | omega | (dsimp only;omega)) ⟨rfl,rfl,rfl,rfl,trivial⟩ [4,1,4] 4 rfl))
 replace hc12:=of_decide_eq_false hc12
 obtain⟨hq1,hq2⟩:=psN_some (hte.trans (congrArg (Option.map (·.1)) ((congrArg (partsF cr cd) (show cr.toNat=i by omega)).trans hp)))
 refine GC.exit (Zp (Zp (GE.hit (Zt (Zs (Zr ?_))))))
 refine Zm rfl (Za rfl (Za rfl (Zn (Zt (GC.ret ?_)))))
 exact GE.body [1] 2 (res2 rfl rfl rfl) rfl (⟨v,congrArg (fun(a1:Bool)=>(.tuple #[v,.bool (a1)]:Value)) ((hq2.symm:(true:Bool)=(tyS cr cd).isSome)),hv,congrArg (fun(l0:List ByteArray)=>strs 9 v l0::own) ((hxs.trans hq1.symm:xs=psN (tyS cr cd)))⟩)
theorem specIsCartan_w {W:World}{own:List Asn}{cr:Int}{vcd:Value}{cd:List Int}(scd:IsS vcd)(ecd:Ent own fun w=>Ints w vcd cd)(hl0:cd.length≤1073741824):Spec Tryz.prog 58 [.agg #[.int .i64 (cr),vcd]] W own (fun v ow=>v = .bool ((tyS cr cd).isSome)∧ow=own):=by
 refine Spec.enter Tryz.f58 _ Tryz.func58 rfl (n:=11) rfl rfl ?_
 refine Zs (Zr (G.step (OG.box (cs:=[.int .i64 (cr),vcd]) rfl rfl rfl) rfl rfl rfl ?_))
 rintro _ _ ⟨g1,rfl,rfl⟩
 refine Za rfl (Zn (Zt (Zs (Zr (Zd (OD.loadAgg rfl ti27 rfl (i:=0) rfl (us:=[.int .i64 (cr),vcd]) rfl rfl) rfl ?_)))))
 refine G.step (OG.call [.agg #[.int .i64 (cr),vcd]] ent121 rfl rfl rfl rfl (by exact(l5Parts_w scd (Ent.drop 1 ecd) (by omega)))) rfl rfl rfl ?_
 rintro _ _ ⟨v2,rfl,hs3,rfl⟩
 refine Zm rfl (Zd (OD.extract rfl rfl rfl) rfl ?_)
 refine Zd (OD.extract rfl rfl rfl) rfl ?_
 refine Za rfl (Za rfl (Zn (Zt (Zs (Zr (Zm rfl (Za rfl (Zn (Zt (GC.ret ?_))))))))))
 exact GE.body [] 2 (res1 rfl rfl) rfl (⟨rfl,rfl⟩)
theorem typesOf_w (f:Nat):∀ {W:World} {own:List Asn} {r:Int} {a:Int} (hr:0≤r∧r≤4) (ha:0≤a∧a≤12) (hf:r.toNat<f) (hf5:f≤5),Spec Tryz.prog 156 [.int .i64 (r),.int .i64 (a)] W own (fun v ow=>∃ (r0:Value) (u0:List Value),v=r0∧IsS r0∧AllS u0∧u0.length=((typesF f (r:Int).toNat (a:Int).toNat).map (·.map nameB)).length∧ow=lst 113 r0 u0::many (strs 9) u0 ((typesF f (r:Int).toNat (a:Int).toNat).map (·.map nameB))::own):=by
 induction f with
 | zero =>
   intro W own r a hr ha hf hf5
   omega
 | succ f ih =>
  intro W own r a hr ha hf hf5
  have hn12:nameL.length=12:=rfl
  refine Spec.enter Tryz.f156 _ Tryz.func156 rfl (n:=52) rfl rfl ?_
  refine Zs (Zr (Za rfl (Zn (Zt (Zs (Zs (Zr (Zm rfl (Zd (OD.eql rfl rfl rfl) rfl ?_)))))))))
  refine Zn (Zt ?_)
  refine GC.cond rfl (fun hc1=>?_) (fun hc1=>?_)
  replace hc1:=eq_of_beq hc1
  refine Zs (Zr (G.step (OG.buildLst (xs:=[.const (.slice none 0 0)]) (us:=[.slice none 0 0]) rfl et154 rfl rfl rfl (allC rfl rfl) rfl) rfl rfl rfl ?_))
  rintro v2 _ ⟨hs3,rfl⟩
  refine Za rfl (Zn (Zt (GC.ret (GE.passR ?_))))
  refine GE.many0 (strs 9) ?_
  refine GE.nilStrs 9 ?_
  refine GE.manyPush (A:=strs 9) (vs:=[]) (xs:=[]) (u := .slice none 0 0) (x:=[]) rfl ?_
  exact GE.body [1,0] 0 (res1 rfl rfl) rfl (⟨v2,[.slice none 0 0],rfl,hs3,(AllS.snoc AllS.nil IsS.nil),(by first | (rw[husl,hT,hp12,List.length_map,typesF_pos (by omega)];done) | (rw[List.length_map,typesF_zero (by omega)];rfl)),congrArg (fun(l0:List (List ByteArray))=>lst 113 v2 [.slice none 0 0]::many (strs 9) [.slice none 0 0] l0::own) ((by rw[typesF_zero (by omega)];rfl : [[]]=(typesF (f+1) (r:Int).toNat (a:Int).toNat).map (·.map nameB)))⟩)
  replace hc1:=ne_of_beq_false hc1
  refine Zk (Zt (Zs (Zr (G.step (OG.buildLst (xs:=[]) (us:=[]) rfl et154 rfl rfl rfl rfl rfl) rfl rfl rfl ?_))))
  rintro v4 _ ⟨hs5,rfl⟩
  refine Za rfl (Zn (Zt (Zs (Zs (Zr (Zm rfl (Za rfl (Zn (Zt (GC.block ?_))))))))))
  refine GC.many0 (strs 9) ?_
  refine GC.loop (ι:=Nat × List (List Nat) × List Value × Value) (fun⟨p,T,us,bv⟩=>[(0,.int .i64 (r)),(5,bv),(6,.int .i64 (a+(p:Int)))]) (fun⟨p,T,us,bv⟩=>many (strs 9) us (T.map (·.map nameB))::lst 113 bv us::own) (fun⟨p,T,us,bv⟩=>(a+p≤12)∧(T=(List.range' a.toNat p).flatMap (tyG f r))∧(AllS us)∧(us.length=T.length)∧(IsS bv)∧(T.length≤20*p)) (fun⟨p,T,us,bv⟩=>12 - p) (0,[],[],v4) (⟨by omega,rfl,AllS.nil,rfl,hs5,by simp⟩) ⟨rfl,rfl,int_eq (by omega),trivial⟩ [] 0 rfl ?_
  rintro⟨p,T,us,bv⟩ ⟨hp,hT,hus,husl,hbv,hTl⟩
  refine Zs (Zs (Zr (Zm rfl (G.step (OG.call [] ent183 rfl rfl rfl rfl (by exact partNames_w)) rfl rfl rfl ?_))))
  rintro v6 _ ⟨_,rfl,hs7,rfl⟩
  refine Zd (OD.len rfl rfl et113 rfl (Ent.strs (i:=0) rfl)) rfl ?_
  refine Zd (OD.lss rfl rfl rfl) rfl ?_
  refine Zn (Zt ?_)
  refine GC.cond rfl (fun hc8=>?_) (fun hc8=>?_)
  replace hc8:=of_decide_eq_true hc8
  have hr1:=rk_bd (a+(p:Int)).toNat (by omega)
  have hsz2:(nameL.getD (a+(p:Int)).toNat ⟨#[]⟩).size=2:=nm_sz _ (by omega)
  refine Zk (Zt (Zs (GC.block (Zs (Zr ?_)))))
  refine G.step (OG.call [] ent183 rfl rfl rfl rfl (by exact partNames_w)) rfl rfl rfl ?_
  rintro v9 _ ⟨_,rfl,hs10,rfl⟩
  refine Zm rfl (Zd (OD.indexAddr rfl et113 rfl (Ent.strs (i:=0) rfl) rfl (by omega)) rfl ?_)
  refine Zd (OD.loadStr rfl ti9 rfl (Ent.strs (i:=0) rfl) (by omega)) rfl ?_
  refine Za rfl (Zn (Zt (Zs (Zr (Zm rfl (Zd (OD.indexStr rfl st9 rfl rfl (by omega)) rfl ?_))))))
  refine Zd (OD.eqv (OD.sub rfl rfl rfl) (congrArg (Value.int .u8) ((nm_rk' ⟨by omega,by omega⟩):(IntKind.u8.wrap ((bAt (nameL.getD ((a+(p:Int):Int).toNat) ⟨#[]⟩) 1) - 48):Int)=((rk (a+(p:Int)).toNat:Int))))) rfl ?_
  refine Zd (OD.convI rfl cv5_3 rfl (by omega)) rfl ?_
  refine Za rfl (Zn (Zt (Zs (Zs (Zr (Zm rfl (Zm rfl (Zd (OD.gtr rfl rfl rfl) rfl ?_))))))))
  refine Zn (Zt ?_)
  refine GC.cond rfl (fun hc11=>?_) (fun hc11=>?_)
  replace hc11:=of_decide_eq_true hc11
  refine GC.exit (Zp (GE.hit (Zt (Zr ?_))))
  refine Zm rfl (Zd (OD.addI rfl rfl rfl (by omega)) rfl ?_)
  exact Za rfl (Zn (GE.again (p+1,T,us,bv) (⟨by omega,ty_skip ha.1 hT (by omega) (by omega),hus,husl,hbv,by omega⟩) (by first | omega | (dsimp only;omega)) ⟨rfl,rfl,int_eq (by omega),trivial⟩ [2,2] 2 rfl))
  replace hc11:=of_decide_eq_false hc11
  refine Zk (Zt (Zs (Zr (Zm rfl (Zm rfl (Zd (OD.subI rfl rfl rfl (by omega)) rfl ?_))))))
  refine Zm rfl (G.step (OG.call [.int .i64 (r - (rk (a+(p:Int)).toNat:Int)),.int .i64 (a+(p:Int))] ent156 rfl rfl rfl rfl (by exact(ih (⟨by omega,by omega⟩) (⟨by omega,by omega⟩) (by omega) (by omega)))) rfl rfl rfl ?_)
  rintro v12 _ ⟨_,u13,rfl,hs14,hs15,hs16,rfl⟩
  refine Zd (OD.len rfl rfl et154 rfl (Ent.lst (i:=0) rfl)) rfl ?_
  refine Zm rfl (Zn (Zt (GC.block ?_)))
  have hsl:u13.length=(typesF f (r - (rk (a+(p:Int)).toNat:Int)).toNat (a+(p:Int)).toNat).length:=by have:=hs16;simpa using this
  have hDl:=typesF_len f (by omega) (r - (rk (a+(p:Int)).toNat:Int)).toNat (by omega) (a+(p:Int)).toNat (by omega)
  refine GC.loop (ι:=Nat × List (List Nat) × List Value × Value) (fun⟨j,T2,ut,bw⟩=>[(0,.int .i64 (r)),(6,.int .i64 (a+(p:Int))),(7,.string (nameL.getD ((a+(p:Int):Int).toNat) ⟨#[]⟩)),(37,v12),(38,.int .i64 ((u13.length:Nat))),(5,bw),(39,.int .i64 ((j:Int)))]) (fun⟨j,T2,ut,bw⟩=>lst 113 v12 u13::many (strs 9) u13 ((typesF f (r - (rk (a+(p:Int)).toNat:Int):Int).toNat (a+(p:Int):Int).toNat).map (·.map nameB))::many (strs 9) ut (T2.map (·.map nameB))::lst 113 bw ut::own) (fun⟨j,T2,ut,bw⟩=>(j≤(typesF f (r - (rk (a+(p:Int)).toNat:Int)).toNat (a+(p:Int)).toNat).length)∧(T2=T++((typesF f (r - (rk (a+(p:Int)).toNat:Int)).toNat (a+(p:Int)).toNat).take j).map ((a+(p:Int)).toNat :: ·))∧(AllS ut)∧(ut.length=T2.length)∧(IsS bw)∧(T2.length≤20*p+j)) (fun⟨j,T2,ut,bw⟩=>(typesF f (r - (rk (a+(p:Int)).toNat:Int)).toNat (a+(p:Int)).toNat).length - j) (0,T,us,bv) (⟨by omega,by simp,hus,husl,hbv,by omega⟩) ⟨rfl,rfl,rfl,rfl,rfl,rfl,rfl,trivial⟩ [0,0,2,2] 2 rfl ?_
  rintro⟨j,T2,ut,bw⟩ ⟨hj,hT2,hut,hutl,hbw,hT2l⟩
  refine Zs (Zr (Zd (OD.lss rfl rfl rfl) rfl ?_))
  refine Zn (Zt (Zs ?_))
  refine GC.cond rfl (fun hc17=>?_) (fun hc17=>?_)
  replace hc17:=of_decide_eq_true hc17
  have hel:=typesF_el f (by omega) (r - (rk (a+(p:Int)).toNat:Int)).toNat (by omega) (a+(p:Int)).toNat (by omega) j
  have hel2:=typesF_el f (by omega) (r - (rk (a+(p:Int)).toNat:Int)).toNat (by omega) (a+(p:Int)).toNat (by omega) (j:Int).toNat
  refine Zk (Zt (Zs (GC.block (Zs (Zr ?_)))))
  refine Zd (OD.indexAddr rfl et154 rfl (Ent.lst (i:=0) rfl) rfl (by omega)) rfl ?_
  refine Zd (OD.loadElem rfl ti113 rfl (Ent.lst (i:=0) rfl) (by omega) rfl) rfl ?_
  refine Za rfl (Zn (Zt (Zr (Zm rfl (Zm rfl (G.step (OG.buildStrs (os:=[.tmp 44]) (xs:=[nameL.getD ((a+(p:Int):Int).toNat) ⟨#[]⟩]) rfl et113 rfl rfl rfl rfl rfl) rfl rfl rfl ?_))))))
  rintro v18 _ ⟨hs19,rfl⟩
  refine Zm rfl (G.step (OG.appendStrs 0 rfl rfl et113 rfl rfl rfl (Ent.manyStrs (i:=2) rfl ⟨by first | omega | (simp;omega),by first | omega | (simp;omega)⟩) (by simp only[List.length_cons,List.length_nil,maxLen];omega)) rfl rfl rfl ?_)
  rintro v20 _ ⟨hs21,rfl⟩
  refine G.step (OG.buildLst (xs:=[.tmp 47]) (us:=[v20]) rfl et154 rfl rfl rfl (allC (IsS.one hs21) rfl) rfl) rfl rfl rfl ?_
  rintro v22 _ ⟨hs23,rfl⟩
  refine G.step (OG.appendLst 5 rfl rfl et154 rfl rfl rfl (Ent.lst (i:=0) rfl) (List.all_eq_true.2 fun u hu=>by simpa using(AllS.snoc AllS.nil hs21).one u hu) (by simp[maxLen] <;> omega)) rfl rfl rfl ?_
  rintro v24 _ ⟨hs25,rfl⟩
  refine Za rfl (Zn (GE.blockN (Zt (Zr ?_))))
  refine Zd (OD.addI rfl rfl rfl (by omega)) rfl ?_
  refine Zm rfl (Zn ?_)
  refine GE.at [1,3,3,1,1] 1 (env':=[(0,.int .i64 (r)),(6,.int .i64 (a+(p:Int))),(7,.string (nameL.getD ((a+(p:Int):Int).toNat) ⟨#[]⟩)),(37,v12),(38,.int .i64 ((u13.length:Nat))),(40,.bool (decide ((j:Int)<(u13.length:Nat)))),(41,elemPtr v12 1 (j)),(42,(u13.getD (j) undef)),(10,(u13.getD (j) undef)),(43,bw),(44,.string (nameL.getD ((a+(p:Int):Int).toNat) ⟨#[]⟩)),(45,v18),(46,(u13.getD (j) undef)),(47,v20),(48,v22),(49,v24),(5,v24),(50,.int .i64 ((j:Int)+1)),(39,.int .i64 ((j:Int)+1))]) ⟨rfl,rfl,rfl,rfl,rfl,rfl,rfl,rfl,rfl,rfl,rfl,rfl,rfl,rfl,rfl,rfl,rfl,rfl,rfl,trivial⟩ (own':=strs 9 v20 (([nameL.getD ((a+(p:Int):Int).toNat) ⟨#[]⟩])++(((typesF f (r - (rk (a+(p:Int)).toNat:Int):Int).toNat (a+(p:Int):Int).toNat).map (·.map nameB)).getD (j) []))::many (strs 9) ut (T2.map (·.map nameB))::lst 113 v24 (ut++[v20])::lst 113 v12 u13::many (strs 9) u13 ((typesF f (r - (rk (a+(p:Int)).toNat:Int):Int).toNat (a+(p:Int):Int).toNat).map (·.map nameB))::own) rfl ?_
  refine GE.manyPush (by simp[hutl]) ?_
  refine GE.ownEq (own':=many (strs 9) (ut++[v20]) ((T2++[(a+(p:Int)).toNat::(typesF f (r - (rk (a+(p:Int)).toNat:Int)).toNat (a+(p:Int)).toNat).getD j []]).map (·.map nameB))::lst 113 v24 (ut++[v20])::lst 113 v12 u13::many (strs 9) u13 ((typesF f (r - (rk (a+(p:Int)).toNat:Int):Int).toNat (a+(p:Int):Int).toNat).map (·.map nameB))::own) (by rw[ty_push (by omega)]) ?_
  exact GE.again (j+1,T2++[(a+(p:Int)).toNat::(typesF f (r - (rk (a+(p:Int)).toNat:Int)).toNat (a+(p:Int)).toNat).getD j []],ut++[v20],v24) (⟨by omega,ty_take hT2 (by omega),(hut.snoc hs21),by simp[hutl],hs25,by simp;omega⟩) (by first | omega | (dsimp only;omega)) ⟨rfl,rfl,rfl,rfl,rfl,rfl,rfl,trivial⟩ [2,2,0,0] 0 rfl
  replace hc17:=of_decide_eq_false hc17
  refine GC.exit (Zp (Zp (GE.hit (GE.blockN (Zt (Zr ?_))))))
  refine Zm rfl (Zd (OD.addI rfl rfl rfl (by omega)) rfl ?_)
  exact Za rfl (Zn (GE.again (p+1,T2,ut,bw) (⟨by omega,ty_add ha.1 hT (by omega) hT2 (by omega),hut,hutl,hbw,by omega⟩) (by first | omega | (dsimp only;omega)) ⟨rfl,rfl,int_eq (by omega),trivial⟩ [2,2] 2 rfl))
  replace hc8:=of_decide_eq_false hc8
  have hp12:p=12 - a.toNat:=by omega
  refine GC.exit (Zp (Zp (GE.hit (Zt (Zs (Zr ?_))))))
  refine Zm rfl (Za rfl (Zn (Zt (GC.ret ?_))))
  skip
  exact GE.body [2,1] 1 (res1 rfl rfl) rfl (⟨bv,us,rfl,hbv,hus,(by first | (rw[husl,hT,hp12,List.length_map,typesF_pos (by omega)];done) | (rw[List.length_map,typesF_zero (by omega)];rfl)),congrArg (fun(l0:List (List ByteArray))=>lst 113 bv us::many (strs 9) us l0::own) ((by rw[hT,hp12,typesF_pos (by omega)]:T.map (·.map nameB)=(typesF (f+1) (r:Int).toNat (a:Int).toNat).map (·.map nameB)))⟩)
theorem typeOf_w {W:World}{own:List Asn}{cr:Int}{vcd:Value}{cd:List Int}(scd:IsS vcd)(ecd:Ent own fun w=>Ints w vcd cd)(hl0:cd.length≤1073741824)(hg:Ent own fun w=>∃ m,w.cell? ⟨Tryz.l146_ren.g 1,0,none⟩=some (.int .i64 m)):Spec Tryz.prog 111 [.agg #[.int .i64 (cr),vcd]] W own (fun v ow=>v = .string (tyN (tyS cr cd))∧ow=own):=by
 refine Spec.enter Tryz.f111 _ Tryz.func111 rfl (n:=43) rfl rfl ?_
 refine Zs (Zr (G.step (OG.box (cs:=[.int .i64 (cr),vcd]) rfl rfl rfl) rfl rfl rfl ?_))
 rintro _ _ ⟨g1,rfl,rfl⟩
 refine Za rfl (Zn (Zt (Zs (Zs (Zr (Zd (OD.fieldAddr rfl rfl fa27_0) rfl ?_))))))
 refine Zd (OD.load rfl ti3 rfl (i:=0) rfl rfl) rfl ?_
 refine G.step (OG.call [.int .i64 (cr),.int .i64 (1),.int .i64 (4)] ent84 rfl rfl rfl rfl (by exact inside_w)) rfl rfl rfl ?_
 rintro _ _ ⟨rfl,rfl⟩
 refine Zd (OD.not rfl rfl) rfl ?_
 refine Zm rfl ?_
 rcases Bool.eq_false_or_eq_true (!(inB cr 1 4)) with hg2 | hg2
 have hg2e:=hg2
 refine G.at [] 0 (env':=[(0,.agg #[.int .i64 (cr),vcd]),(1,.pointer (some ⟨g1,0,none⟩)),(2,.string (⟨#[]⟩)),(8,.pointer (some ⟨g1,0,none⟩)),(9,.int .i64 (cr)),(10,.bool (inB cr 1 4)),(11,.bool true),(12,.bool true)]) (⟨rfl,rfl,rfl,rfl,rfl,rfl,(congrArg (fun b=>some (Value.bool b)) hg2e),(congrArg (fun b=>some (Value.bool b)) hg2e),trivial⟩) rfl ?_
 replace hg2:=eq_false_of_not hg2
 refine G.skipG rfl rfl rfl rfl rfl rfl (G.skipG rfl rfl rfl rfl rfl rfl (G.skipG rfl rfl rfl rfl rfl rfl (G.skipG rfl rfl rfl rfl rfl rfl (G.skipG rfl rfl rfl rfl rfl rfl (G.skipG rfl rfl rfl rfl rfl rfl (G.skipG rfl rfl rfl rfl rfl rfl (G.skipG rfl rfl rfl rfl rfl rfl (G.skipG rfl rfl rfl rfl rfl rfl ?_))))))))
 refine Zd (OD.pickT rfl rfl rfl) rfl ?_
 refine Zn (Zt (GC.condT rfl ?_))
 have hno:=tyN_no ((tyS_tyI cr cd).trans (tyI_no (okI_no (.inl hg2))))
 refine Zs (Zr (Za rfl (Zn (Zt (GC.ret (GE.passR ?_))))))
 exact GE.body [] 1 (res1 rfl rfl) rfl (⟨congrArg (fun(a0:ByteArray)=>(.string (a0):Value)) ((hno.symm:(⟨#[]⟩:ByteArray)=tyN (tyS cr cd))),rfl⟩)
 have hg2e:=hg2
 refine G.at [] 0 (env':=[(0,.agg #[.int .i64 (cr),vcd]),(1,.pointer (some ⟨g1,0,none⟩)),(2,.string (⟨#[]⟩)),(8,.pointer (some ⟨g1,0,none⟩)),(9,.int .i64 (cr)),(10,.bool (inB cr 1 4)),(11,.bool false),(12,.bool false)]) (⟨rfl,rfl,rfl,rfl,rfl,rfl,(congrArg (fun b=>some (Value.bool b)) hg2e),(congrArg (fun b=>some (Value.bool b)) hg2e),trivial⟩) rfl ?_
 replace hg2:=eq_true_of_not hg2
 refine G.stepGD (OD.fieldAddr rfl rfl fa27_1) rfl rfl rfl rfl rfl ?_
 refine G.stepGD (OD.load rfl ti22 rfl (i:=0) rfl rfl) rfl rfl rfl rfl rfl ?_
 refine G.stepGD (OD.len rfl rfl et22 rfl (Ent.drop 1 ecd)) rfl rfl rfl rfl rfl ?_
 refine G.stepGD (OD.fieldAddr rfl rfl fa27_0) rfl rfl rfl rfl rfl ?_
 refine G.stepGD (OD.load rfl ti3 rfl (i:=0) rfl rfl) rfl rfl rfl rfl rfl ?_
 refine G.stepGD (OD.fieldAddr rfl rfl fa27_0) rfl rfl rfl rfl rfl ?_
 refine G.stepGD (OD.load rfl ti3 rfl (i:=0) rfl rfl) rfl rfl rfl rfl rfl ?_
 refine G.stepGD (OD.mulI rfl rfl rfl (sqr_bd (inB_true (by assumption)))) rfl rfl rfl rfl rfl ?_
 refine G.stepGD (OD.neq rfl rfl rfl) rfl rfl rfl rfl rfl ?_
 refine Zd (OD.pickF rfl rfl rfl) rfl ?_
 refine Zn (Zt ?_)
 refine GC.cond rfl (fun hc3=>?_) (fun hc3=>?_)
 replace hc3:=ne_of_bne hc3
 have hno:=tyN_no ((tyS_tyI cr cd).trans (tyI_no (okI_no (.inr hc3))))
 refine Zs (Zr (Za rfl (Zn (Zt (GC.ret (GE.passR ?_))))))
 exact GE.body [] 1 (res1 rfl rfl) rfl (⟨congrArg (fun(a0:ByteArray)=>(.string (a0):Value)) ((hno.symm:(⟨#[]⟩:ByteArray)=tyN (tyS cr cd))),rfl⟩)
 replace hc3:=eq_of_bne_false hc3
 have hok1:=okI_of hg2 hc3
 have hcr2:=inB_true hg2
 have hcc:cr*cr≤4*4:=Int.mul_le_mul (by omega) (by omega) (by omega) (by omega)
 have hte:tyS cr cd=(typesF 5 cr.toNat (0:Int).toNat).find? (fun(ks:List Nat)=>reordF cr cd (matOf ks).2 5 []):=(tyS_tyI cr cd).trans (tyI_eq hok1)
 have hTl:(typesF 5 cr.toNat (0:Int).toNat).length≤20:=typesF_len 5 (by omega) cr.toNat (by omega) 0 (by omega)
 refine Zk (Zt (Zs (Zs (Zr (Zd (OD.fieldAddr rfl rfl fa27_0) rfl ?_)))))
 refine Zd (OD.load rfl ti3 rfl (i:=0) rfl rfl) rfl ?_
 refine G.step (OG.call [.int .i64 (cr),.int .i64 (0)] ent156 rfl rfl rfl rfl (by exact(typesOf_w 5 (⟨by omega,by omega⟩) (by omega) (by omega) (by omega)))) rfl rfl rfl ?_
 rintro v4 _ ⟨_,u5,rfl,hs6,hs7,hs8,rfl⟩
 refine Zd (OD.len rfl rfl et154 rfl (Ent.lst (i:=0) rfl)) rfl ?_
 refine Zm rfl (Zn (Zt (GC.block ?_)))
 have hsl:u5.length=(typesF 5 cr.toNat (0:Int).toNat).length:=by have:=hs8;simpa using this
 refine GC.loop (ι:=Nat) (fun i=>[(1,.pointer (some ⟨g1,0,none⟩)),(25,v4),(26,.int .i64 ((u5.length:Nat))),(27,.int .i64 ((i:Int)))]) (fun i=>lst 113 v4 u5::many (strs 9) u5 ((typesF 5 (cr:Int).toNat (0:Int).toNat).map (·.map nameB))::box g1 27 [.int .i64 (cr),vcd]::own) (fun i=>(i≤(typesF 5 cr.toNat (0:Int).toNat).length)∧(((typesF 5 cr.toNat (0:Int).toNat).take i).any (fun(ks:List Nat)=>reordF cr cd (matOf ks).2 5 [])=false)) (fun i=>(typesF 5 cr.toNat (0:Int).toNat).length - i) 0 (⟨by omega,by simp⟩) ⟨rfl,rfl,rfl,rfl,trivial⟩ [] 0 rfl ?_
 rintro i ⟨hi,hn⟩
 refine Zs (Zr (Zd (OD.lss rfl rfl rfl) rfl ?_))
 refine Zn (Zt (Zs ?_))
 refine GC.cond rfl (fun hc9=>?_) (fun hc9=>?_)
 replace hc9:=of_decide_eq_true hc9
 obtain⟨hc1,hc2,hc3,hc4⟩:=ty_at hcr2 (ty_mem (T:=(typesF 5 cr.toNat (0:Int).toNat)) (i:=i) (by omega))
 rw[← map_at (T:=(typesF 5 cr.toNat (0:Int).toNat)) (by omega)] at hc1 hc3
 obtain⟨hcR0,hcD,_⟩:=cF_some hc1
 have hcR:=hcR0.trans hc2
 have hml:=matOf_len ((typesF 5 cr.toNat (0:Int).toNat).getD i [])
 have hcl:((cD (joinP (((typesF 5 cr.toNat (0:Int).toNat).map (·.map nameB)).getD (i) []))).length:Int)=cr*cr:=by rw[hcD,hml,hc2]
 have hnl:(((typesF 5 cr.toNat (0:Int).toNat).map (·.map nameB)).getD (i) []).length≤4:=by rw[map_at (by omega),List.length_map];exact hc4
 refine Zk (Zt (Zs (GC.block (Zs (Zr ?_)))))
 refine Zd (OD.indexAddr rfl et154 rfl (Ent.lst (i:=0) rfl) rfl (by omega)) rfl ?_
 refine Zd (OD.loadElem rfl ti113 rfl (Ent.lst (i:=0) rfl) (by omega) rfl) rfl ?_
 refine Za rfl (Zn (Zt (Zs (Zr (Zm rfl (G.step (OG.call [(u5.getD (i) undef),.string (⟨#[43]⟩)] ent153 rfl rfl rfl rfl (by exact(join_w (hs7.get (by omega)) (Ent.manyStrs (i:=1) rfl ⟨by first | omega | (simp;omega),by first | omega | (simp;omega)⟩) (by omega) (by omega)))) rfl rfl rfl ?_))))))
 rintro _ _ ⟨rfl,rfl⟩
 refine Za rfl (Zn (Zt (Zs (Zr (Zm rfl (G.step (OG.call [.string (joinP (((typesF 5 (cr:Int).toNat (0:Int).toNat).map (·.map nameB)).getD (i) []))] ent157 rfl rfl rfl rfl (by exact(cartanOf_w ((Ent.drop 3 hg)) (by omega)))) rfl rfl rfl ?_))))))
 rintro _ _ ⟨v10,rfl,hs11,rfl⟩
 refine Zm rfl (Zd (OD.extract rfl rfl rfl) rfl ?_)
 refine Zd (OD.extract rfl rfl rfl) rfl ?_
 refine G.step (OG.alloc rfl ti27 (zs:=[.int .i64 (0),.slice none 0 0]) rfl) rfl rfl rfl ?_
 rintro _ _ ⟨g12,rfl,rfl⟩
 refine G.stepD0 (OD.store rfl ti27 rfl rfl (us:=[.int .i64 (cR (joinP (((typesF 5 (cr:Int).toNat (0:Int).toNat).map (·.map nameB)).getD (i) []))),v10]) rfl rfl (allC rfl (allC (IsS.one hs11) rfl)) (i:=0) rfl rfl) rfl rfl ?_
 refine Za rfl (Zn (Zt (Zs (Zr (Zd (OD.loadAgg rfl ti27 rfl (i:=4) rfl (us:=[.int .i64 (cr),vcd]) rfl rfl) rfl ?_)))))
 refine Zd (OD.loadAgg rfl ti27 rfl (i:=0) rfl (us:=[.int .i64 (cR (joinP (((typesF 5 (cr:Int).toNat (0:Int).toNat).map (·.map nameB)).getD (i) []))),v10]) rfl rfl) rfl ?_
 refine G.step (OG.call [.agg #[.int .i64 (cr),vcd],.agg #[.int .i64 (cR (joinP (((typesF 5 (cr:Int).toNat (0:Int).toNat).map (·.map nameB)).getD (i) []))),v10],.slice none 0 0] ent158 rfl rfl rfl rfl (by exact(reordered_w 5 scd (Ent.drop 5 ecd) hs11 (Ent.ints (i:=1) rfl) IsS.nil Ent.nilInts (hcr2) (by omega) (hcR) (hcl) (by simp) (by simp;omega) (by simp;omega)))) rfl rfl rfl ?_
 rintro _ _ ⟨rfl,rfl⟩
 refine Zn (Zt ?_)
 refine GC.cond rfl (fun hc13=>?_) (fun hc13=>?_)
 have hyes:=tyN_at (hte.trans (find_at (d:=[]) (by omega) hn (by rw[← hcD];exact hc13)))
 rw[← map_at (T:=(typesF 5 cr.toNat (0:Int).toNat)) (by omega)] at hyes
 refine Zs (Zr (Zm rfl (Za rfl (Zn (Zt (GC.ret (GE.blockR (GE.passR (GE.passR (GE.blockR (GE.passR ?_)))))))))))
 exact GE.body [] 5 (res1 rfl rfl) rfl (⟨congrArg (fun(a0:ByteArray)=>(.string (a0):Value)) ((hyes.symm:(joinP (((typesF 5 (cr:Int).toNat (0:Int).toNat).map (·.map nameB)).getD (i) []):ByteArray)=tyN (tyS cr cd))),rfl⟩)
 refine Zk (GE.blockN (Zt (Zr ?_)))
 refine Zd (OD.addI rfl rfl rfl (by omega)) rfl ?_
 exact Zm rfl (Zn (GE.again (i+1) (⟨by omega,any_take_succ (d:=[]) (by omega) hn (by rw[← hcD];exact hc13)⟩) (by first | omega | (dsimp only;omega)) ⟨rfl,rfl,rfl,rfl,trivial⟩ [2,2,2] 2 rfl))
 replace hc9:=of_decide_eq_false hc9
 have hno:=tyN_no (hte.trans (find_no (any_take_all (by omega) hn)))
 refine GC.exit (Zp (Zp (GE.hit (Zt (Zs (Zr ?_))))))
 refine Za rfl (Zn (Zt (GC.ret ?_)))
 exact GE.body [] 3 (res1 rfl rfl) rfl (⟨congrArg (fun(a0:ByteArray)=>(.string (a0):Value)) ((hno.symm:(⟨#[]⟩:ByteArray)=tyN (tyS cr cd))),rfl⟩)
theorem isCartan_w {W:World}{own:List Asn}{cr:Int}{vcd:Value}{cd:List Int}(scd:IsS vcd)(ecd:Ent own fun w=>Ints w vcd cd)(hl0:cd.length≤1073741824)(hg:Ent own fun w=>∃ m,w.cell? ⟨Tryz.l146_ren.g 1,0,none⟩=some (.int .i64 m)):Spec Tryz.prog 50 [.agg #[.int .i64 (cr),vcd]] W own (fun v ow=>v = .bool ((tyS cr cd).isSome)∧ow=own):=by
 refine Spec.enter Tryz.f50 _ Tryz.func50 rfl (n:=6) rfl rfl ?_
 refine Zs (Zr (G.step (OG.box (cs:=[.int .i64 (cr),vcd]) rfl rfl rfl) rfl rfl rfl ?_))
 rintro _ _ ⟨g1,rfl,rfl⟩
 refine Za rfl (Zn (Zt (Zs (Zr (Zd (OD.loadAgg rfl ti27 rfl (i:=0) rfl (us:=[.int .i64 (cr),vcd]) rfl rfl) rfl ?_)))))
 refine G.step (OG.call [.agg #[.int .i64 (cr),vcd]] ent111 rfl rfl rfl rfl (by exact(typeOf_w scd (Ent.drop 1 ecd) (hl0) ((Ent.drop 1 hg))))) rfl rfl rfl ?_
 rintro _ _ ⟨rfl,rfl⟩
 refine Zd (OD.eqv (OD.strNeq rfl rfl rfl) (congrArg (Value.bool) ((tyN_empty cr cd):_=((tyS cr cd).isSome)))) rfl ?_
 refine Za rfl (Zn (Zt (GC.ret ?_)))
 exact GE.body [] 1 (res1 rfl rfl) rfl (⟨rfl,rfl⟩)
end Go.Proofs.YtbmnnbglipkidaaGreatDoor
