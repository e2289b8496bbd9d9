/-
  Orders of rows: contracts by walks.
-/
import Derived.Test.YtbmnnbglipkidaaGreatDoorWLCofA
namespace Go.Proofs.YtbmnnbglipkidaaGreatDoor
set_option maxRecDepth 100000
set_option maxHeartbeats 4000000
set_option linter.unusedVariables false
set_option linter.unusedSimpArgs false
open Go.RowKit
theorem NH (f:Nat):∀ {W:World} {own:List Asn} {cr:Int} {vcd:Value} {cd:List Int} {er:Int} {ved:Value} {ed:List Int} {vrows:Value} {rows:List Int} (scd:Ab vcd) (ecd:Ent own fun w=>Ints w vcd cd) (sed:Ab ved) (eed:Ent own fun w=>Ints w ved ed) (srows:Ab vrows) (erows:Ent own fun w=>Ints w vrows rows) (hcr:1≤cr∧cr≤4) (hcd:(cd.length:Int)=cr*cr) (her:er=cr) (hed:(ed.length:Int)=cr*cr) (hro:∀ y∈rows,0≤y∧y<cr) (hle:(rows.length:Int)≤cr) (hf:cr<f+rows.length),Spec Tryz.prog 158 [.agg #[J (cr),vcd],.agg #[J (er),ved],vrows] W own (fun v ow=>v = .bool (BK cr cd ed f rows)∧ow=own):=by
 induction f with
 | zero =>
   intro W own cr vcd cd er ved ed vrows rows scd ecd sed eed srows erows hcr hcd her hed hro hle hf
   omega
 | succ f ih =>
  intro W own cr vcd cd er ved ed vrows rows scd ecd sed eed srows erows hcr hcd her hed hro hle hf
  refine Spec.enter Tryz.f158 _ Tryz.func158 rfl (n:=116) rfl rfl ?_
  refine Zs (Zr (Yt (OG.box (cs:=[J (cr),vcd]) rfl rfl rfl) ?_))
  rintro _ _ ⟨g1,rfl,rfl⟩
  refine Yt (OG.box (cs:=[J (er),ved]) rfl rfl rfl) ?_
  rintro _ _ ⟨g2,rfl,rfl⟩
  refine Za rfl (Zn (Zt (Zs (Zr (Zm rfl (Zd (Qn Ac (Ent.drop 2 erows)) rfl ?_))))))
  refine Za rfl (Zn (Zt (Zs (Zs (Zr (Zm rfl (Zd (Qf Aq) rfl ?_)))))))
  refine Zd (Ql Ak 1) rfl ?_
  refine Zd FJ rfl ?_
  refine Zn (Zt ?_)
  refine GC.cond rfl (fun hc3=>?_) (fun hc3=>?_)
  replace hc3:=eq_of_beq hc3
  refine Zs (Zr (Za rfl (Zn (Zt (GC.ret (GE.passR ?_))))))
  exact GE.body [] 2 (Ao rfl rfl) rfl (⟨congrArg (fun a0=>(.bool (a0):Value)) ((by unfold BK;rw[if_pos (by omega)]:(true:Bool)=BK cr cd ed (f+1) rows)),rfl⟩)
  replace hc3:=ne_of_beq_false hc3
  refine Zk (Zt (Zs (Zs (Zr (Zd (Qf Aq) rfl ?_)))))
  refine Zd (Ql Ak 1) rfl ?_
  refine Zm rfl (Zn (Zt (GC.block ?_)))
  refine Yl (ι:=Nat) (fun i=>[(2,vrows),(3,Pg g1 0),(4,Pg g2 0),(7,J ((rows.length:Nat))),(19,J (cr)),(20,J ((i:Int)))]) (fun i=>box g2 27 [J (er),ved]::box g1 27 [J (cr),vcd]::own) (fun i=>((i:Int)≤cr)∧((List.range i).any (fun(i:Nat)=>(!(rows.contains (i:Int))&&atI cr cd i i==atI cr ed rows.length rows.length)&&(UJ cr cd cr ed rows i rows.length rows.length&&BK cr cd ed f (rows++[(i:Int)])))=false)) (fun i=>cr.toNat - i) 0 (⟨by omega,rfl⟩) [] 0 ?_
  rintro i ⟨hi,hany⟩
  refine Zs (Zr (Zd Bb rfl ?_))
  refine Zn (Zt (Zs ?_))
  refine GC.cond rfl (fun hc4=>?_) (fun hc4=>?_)
  replace hc4:=of_decide_eq_true hc4
  have hx:=Be (n:=cr) (i:=i) (j:=i) ⟨by omega,by omega⟩ ⟨by omega,by omega⟩ (by omega)
  have hx2:=Be (n:=cr) (i:=rows.length) (j:=rows.length) ⟨by omega,by omega⟩ ⟨by omega,by omega⟩ (by omega)
  have hit:i<cr.toNat:=by omega
  refine Zk (Zt (Zs (GC.block (Zs (Zr ?_)))))
  refine Zm rfl (Za rfl (Zn (Zt (Zs (Zs ?_)))))
  rcases Bool.eq_false_or_eq_true (rows.contains (i:Int)) with hg5 | hg5
  refine Ya [(2,_),(3,_),(4,_),(7,_),(19,_),(20,_),(8,_)] ?_
  refine Wp [Z0 23 vrows,Z0 24 (J ((i:Int))),Z1 25 [(0,23),(1,24)] (.bool true),Z1 26 [(2,25)] (.bool true),Z1 27 [(3,26)] undef,Z1 28 [(3,26),(4,27)] undef,Z1 29 [(3,26)] undef,Z1 30 [(3,26)] undef,Z1 31 [(3,26),(7,30)] undef,Z1 32 [(3,26),(6,29),(8,31)] undef,Z1 33 [(3,26)] undef,Z1 34 [(3,26),(9,32),(10,33)] undef,Z1 35 [(3,26),(5,28),(11,34)] undef,Z1 36 [(3,26),(12,35)] undef,Z1 37 [(3,26)] undef,Z1 38 [(3,26),(14,37)] undef,Z1 39 [(3,26)] undef,Z1 40 [(3,26)] undef,Z1 41 [(3,26),(17,40)] undef,Z1 42 [(3,26),(16,39),(18,41)] undef,Z1 43 [(3,26)] undef,Z1 44 [(3,26),(19,42),(20,43)] undef,Z1 45 [(3,26),(15,38),(21,44)] undef,Z1 46 [(3,26),(22,45)] undef,Z1 47 [(3,26),(13,36),(23,46)] undef,Z1 48 [(3,26),(24,47)] (.bool true)] (Yv (Yv (Zc (fun _ R _=>Zq (OG.imp (K':=fun v ow=>v = .bool true∧ow=box g2 27 [J (er),ved]::box g1 27 [J (cr),vcd]::own++R) (Yc [vrows,J ((i:Int))] Vs (by exact(Hf srows (Ent.drop 2 erows.app) (by omega)))) (by rintro _ _ ⟨rfl,rfl⟩;exact⟨congrArg Value.bool (hg5),rfl⟩)) rfl) (Yv (Yo (Yo (Yo (Yo (Yo (Yo (Yo (Yo (Yo (Yo (Yo (Yo (Yo (Yo (Yo (Yo (Yo (Yo (Yo (Yo (Yo (Zc (fun _ _ _=>Zq (OD.pickT rfl rfl rfl) rfl) As.nil)))))))))))))))))))))))))) ?_
  intro θ _
  refine Yb [(2,_),(3,_),(4,_),(7,_),(19,_),(20,_),(8,_),(48,.bool true)] (_::_) ?_
  show G _ _ _ [] _ _ _ _
  refine Zn (Zt (GC.condT rfl (GC.exit (Zp (GE.hit (Zt (Zr ?_)))))))
  refine Zd Qp rfl ?_
  exact Zm rfl (Zn (Yg (i+1) (⟨by omega,any_succ hany (by simp only[atI,hg5,Bool.not_true,Bool.not_false,Bool.and_true,Bool.true_and,Bool.and_false,Bool.false_and,Bool.and_self])⟩) [] 0))
  refine Ya [(2,_),(3,_),(4,_),(7,_),(19,_),(20,_),(8,_)] ?_
  refine Wp [Z0 23 vrows,Z0 24 (J ((i:Int))),Z1 25 [(0,23),(1,24)] (.bool false),Z1 26 [(2,25)] (.bool false),Z1 27 [(3,26)] (Pg g1 1),Z1 28 [(3,26),(4,27)] vcd,Z1 29 [(3,26)] (J ((i:Int))),Z1 30 [(3,26)] (Pg g1 0),Z1 31 [(3,26),(7,30)] (J (cr)),Z1 32 [(3,26),(6,29),(8,31)] (J ((i:Int)*cr)),Z1 33 [(3,26)] (J ((i:Int))),Z1 34 [(3,26),(9,32),(10,33)] (J (((i:Int)*cr)+(i:Int))),Z1 35 [(3,26),(5,28),(11,34)] (Aa vcd 1 ((((i:Int)*cr)+(i:Int):Int).toNat)),Z1 36 [(3,26),(12,35)] (J (cd.getD ((((i:Int)*cr)+(i:Int):Int).toNat) 0)),Z1 37 [(3,26)] (Pg g2 1),Z1 38 [(3,26),(14,37)] ved,Z1 39 [(3,26)] (J ((rows.length:Nat))),Z1 40 [(3,26)] (Pg g1 0),Z1 41 [(3,26),(17,40)] (J (cr)),Z1 42 [(3,26),(16,39),(18,41)] (J ((rows.length:Nat)*cr)),Z1 43 [(3,26)] (J ((rows.length:Nat))),Z1 44 [(3,26),(19,42),(20,43)] (J (((rows.length:Nat)*cr)+(rows.length:Nat))),Z1 45 [(3,26),(15,38),(21,44)] (Aa ved 1 ((((rows.length:Nat)*cr)+(rows.length:Nat):Int).toNat)),Z1 46 [(3,26),(22,45)] (J (ed.getD ((((rows.length:Nat)*cr)+(rows.length:Nat):Int).toNat) 0)),Z1 47 [(3,26),(13,36),(23,46)] (.bool ((cd.getD ((((i:Int)*cr)+(i:Int):Int).toNat) 0) != (ed.getD ((((rows.length:Nat)*cr)+(rows.length:Nat):Int).toNat) 0))),Z1 48 [(3,26),(24,47)] (.bool ((cd.getD ((((i:Int)*cr)+(i:Int):Int).toNat) 0) != (ed.getD ((((rows.length:Nat)*cr)+(rows.length:Nat):Int).toNat) 0)))] (Yv (Yv (Zc (fun _ R _=>Zq (OG.imp (K':=fun v ow=>v = .bool false∧ow=box g2 27 [J (er),ved]::box g1 27 [J (cr),vcd]::own++R) (Yc [vrows,J ((i:Int))] Vs (by exact(Hf srows (Ent.drop 2 erows.app) (by omega)))) (by rintro _ _ ⟨rfl,rfl⟩;exact⟨congrArg Value.bool (hg5),rfl⟩)) rfl) (Yv (Zc (fun _ _ _=>Zo (Qf AV) rfl rfl rfl rfl trivial rfl) (Zc (fun _ _ _=>Zo (Ql AH 1) rfl rfl rfl rfl trivial rfl) (Yw (Zc (fun _ _ _=>Zo (Qf Aq) rfl rfl rfl rfl trivial rfl) (Zc (fun _ _ _=>Zo (Ql Ak 1) rfl rfl rfl rfl trivial rfl) (Zc (fun _ _ _=>Zo Qm rfl rfl rfl rfl trivial rfl) (Yw (Zc (fun _ _ _=>Zo Qp rfl rfl rfl rfl trivial rfl) (Zc (fun _ _ _=>Zo (Qi Ac (Ent.drop 2 ecd.app)) rfl rfl rfl rfl trivial rfl) (Zc (fun _ _ _=>Zo (Qv Ak (Ent.drop 2 ecd.app)) rfl rfl rfl rfl trivial rfl) (Zc (fun _ _ _=>Zo (Qf AV) rfl rfl rfl rfl trivial rfl) (Zc (fun _ _ _=>Zo (Ql AH 0) rfl rfl rfl rfl trivial rfl) (Yw (Zc (fun _ _ _=>Zo (Qf Aq) rfl rfl rfl rfl trivial rfl) (Zc (fun _ _ _=>Zo (Ql Ak 1) rfl rfl rfl rfl trivial rfl) (Zc (fun _ _ _=>Zo Qm rfl rfl rfl rfl trivial rfl) (Yw (Zc (fun _ _ _=>Zo Qp rfl rfl rfl rfl trivial rfl) (Zc (fun _ _ _=>Zo (Qi Ac (Ent.drop 2 eed.app)) rfl rfl rfl rfl trivial rfl) (Zc (fun _ _ _=>Zo (Qv Ak (Ent.drop 2 eed.app)) rfl rfl rfl rfl trivial rfl) (Zc (fun _ _ _=>Zo EK rfl rfl rfl rfl trivial rfl) (Zc (fun _ _ _=>Zq (OD.pickF rfl rfl rfl) rfl) As.nil)))))))))))))))))))))))))) ?_
  intro θ _
  refine Yb [(2,_),(3,_),(4,_),(7,_),(19,_),(20,_),(8,_),(48,.bool ((cd.getD ((((i:Int)*cr)+(i:Int):Int).toNat) 0) != (ed.getD ((((rows.length:Nat)*cr)+(rows.length:Nat):Int).toNat) 0)))] (_::_) ?_
  show G _ _ _ [] _ _ _ _
  refine Zn (Zt ?_)
  refine GC.cond rfl (fun hc6=>?_) (fun hc6=>?_)
  replace hc6:=AA hc6
  have hc6b:=HD hc6
  refine GC.exit (Zp (GE.hit (Zt (Zr ?_))))
  refine Zd Qp rfl ?_
  exact Zm rfl (Zn (Yg (i+1) (⟨by omega,any_succ hany (by simp only[atI,hg5,hc6b,Bool.not_true,Bool.not_false,Bool.and_true,Bool.true_and,Bool.and_false,Bool.false_and,Bool.and_self])⟩) [] 0))
  replace hc6:=Al hc6
  have hc6b:=beq_iff_eq.2 hc6
  refine Zk (Zt (Zs (Zr (Za rfl (Zn (Zt (Zs (Zs (Zr (Zm rfl (Zd (Qn Ac (Ent.drop 2 erows)) rfl ?_)))))))))))
  refine Zm rfl (Zn (Zt (GC.block ?_)))
  refine Yl (ι:=Nat × Bool) (fun⟨j,b⟩=>[(2,vrows),(3,Pg g1 0),(4,Pg g2 0),(7,J ((rows.length:Nat))),(19,J (cr)),(20,J ((i:Int))),(8,J ((i:Int))),(49,vrows),(50,J ((rows.length:Nat))),(9,.bool (b)),(51,J ((j:Int)))]) (fun⟨j,b⟩=>box g2 27 [J (er),ved]::box g1 27 [J (cr),vcd]::own) (fun⟨j,b⟩=>(j≤rows.length)∧(b=(List.range j).foldl (fun(b:Bool) (j:Nat)=>b&&(atI cr cd i (rows.getD j 0)==atI cr ed rows.length j&&atI cr cd (rows.getD j 0) i==atI cr ed j rows.length)) true)) (fun⟨j,b⟩=>rows.length - j) (0,true) (⟨by omega,rfl⟩) [] 0 ?_
  rintro⟨j,b⟩ ⟨hj,hb⟩
  refine Zs (Zr (Zd Bb rfl ?_))
  refine Zn (Zt (Zs ?_))
  refine GC.cond rfl (fun hc7=>?_) (fun hc7=>?_)
  replace hc7:=of_decide_eq_true hc7
  have hrj:=Bi hro (k:=j) (by omega)
  have hx3:=Be (n:=cr) (i:=i) (j:=rows.getD j 0) ⟨by omega,by omega⟩ ⟨by omega,by omega⟩ (by omega)
  have hx4:=Be (n:=cr) (i:=rows.length) (j:=j) ⟨by omega,by omega⟩ ⟨by omega,by omega⟩ (by omega)
  have hx5:=Be (n:=cr) (i:=rows.getD j 0) (j:=i) ⟨by omega,by omega⟩ ⟨by omega,by omega⟩ (by omega)
  have hx6:=Be (n:=cr) (i:=j) (j:=rows.length) ⟨by omega,by omega⟩ ⟨by omega,by omega⟩ (by omega)
  refine Zk (Zt (Zs (GC.block (Zs (Zr ?_)))))
  refine Zm rfl (Zd (Qi Ac (Ent.drop 2 erows)) rfl ?_)
  refine Zd (Qv Ak (Ent.drop 2 erows)) rfl ?_
  refine Za rfl (Za rfl (Zn (Zt ?_)))
  rcases Bool.eq_false_or_eq_true (b) with hg8 | hg8
  rcases Bool.eq_false_or_eq_true ((cd.getD ((((i:Int)*cr)+(rows.getD (j) 0):Int).toNat) 0)==(ed.getD ((((rows.length:Nat)*cr)+(j:Int):Int).toNat) 0)) with hg9 | hg9
  have hg9p:=hg9
  replace hg9p:=eq_of_beq hg9p
  refine Ya [(2,_),(3,_),(4,_),(7,_),(19,_),(20,_),(8,_),(49,_),(50,_),(9,_),(51,_),(10,_),(11,_)] ?_
  refine Wp [Z0 56 (.bool true),Z1 57 [(0,56)] (.bool true),Z1 58 [(1,57)] (Pg g1 1),Z1 59 [(1,57),(2,58)] vcd,Z1 60 [(1,57)] (J ((i:Int))),Z1 61 [(1,57)] (Pg g1 0),Z1 62 [(1,57),(5,61)] (J (cr)),Z1 63 [(1,57),(4,60),(6,62)] (J ((i:Int)*cr)),Z1 64 [(1,57)] (J (rows.getD (j) 0)),Z1 65 [(1,57),(7,63),(8,64)] (J (((i:Int)*cr)+(rows.getD (j) 0))),Z1 66 [(1,57),(3,59),(9,65)] (Aa vcd 1 ((((i:Int)*cr)+(rows.getD (j) 0):Int).toNat)),Z1 67 [(1,57),(10,66)] (J (cd.getD ((((i:Int)*cr)+(rows.getD (j) 0):Int).toNat) 0)),Z1 68 [(1,57)] (Pg g2 1),Z1 69 [(1,57),(12,68)] ved,Z1 70 [(1,57)] (J ((rows.length:Nat))),Z1 71 [(1,57)] (Pg g1 0),Z1 72 [(1,57),(15,71)] (J (cr)),Z1 73 [(1,57),(14,70),(16,72)] (J ((rows.length:Nat)*cr)),Z1 74 [(1,57)] (J ((j:Int))),Z1 75 [(1,57),(17,73),(18,74)] (J (((rows.length:Nat)*cr)+(j:Int))),Z1 76 [(1,57),(13,69),(19,75)] (Aa ved 1 ((((rows.length:Nat)*cr)+(j:Int):Int).toNat)),Z1 77 [(1,57),(20,76)] (J (ed.getD ((((rows.length:Nat)*cr)+(j:Int):Int).toNat) 0)),Z1 78 [(1,57),(11,67),(21,77)] (.bool true),Z1 79 [(1,57),(22,78)] (.bool true),Z1 80 [(23,79)] (.bool true),Z1 81 [(24,80)] (Pg g1 1),Z1 82 [(24,80),(25,81)] vcd,Z1 83 [(24,80)] (J (rows.getD (j) 0)),Z1 84 [(24,80)] (Pg g1 0),Z1 85 [(24,80),(28,84)] (J (cr)),Z1 86 [(24,80),(27,83),(29,85)] (J ((rows.getD (j) 0)*cr)),Z1 87 [(24,80)] (J ((i:Int))),Z1 88 [(24,80),(30,86),(31,87)] (J (((rows.getD (j) 0)*cr)+(i:Int))),Z1 89 [(24,80),(26,82),(32,88)] (Aa vcd 1 ((((rows.getD (j) 0)*cr)+(i:Int):Int).toNat)),Z1 90 [(24,80),(33,89)] (J (cd.getD ((((rows.getD (j) 0)*cr)+(i:Int):Int).toNat) 0)),Z1 91 [(24,80)] (Pg g2 1),Z1 92 [(24,80),(35,91)] ved,Z1 93 [(24,80)] (J ((j:Int))),Z1 94 [(24,80)] (Pg g1 0),Z1 95 [(24,80),(38,94)] (J (cr)),Z1 96 [(24,80),(37,93),(39,95)] (J ((j:Int)*cr)),Z1 97 [(24,80)] (J ((rows.length:Nat))),Z1 98 [(24,80),(40,96),(41,97)] (J (((j:Int)*cr)+(rows.length:Nat))),Z1 99 [(24,80),(36,92),(42,98)] (Aa ved 1 ((((j:Int)*cr)+(rows.length:Nat):Int).toNat)),Z1 100 [(24,80),(43,99)] (J (ed.getD ((((j:Int)*cr)+(rows.length:Nat):Int).toNat) 0)),Z1 101 [(24,80),(34,90),(44,100)] (.bool ((cd.getD ((((rows.getD (j) 0)*cr)+(i:Int):Int).toNat) 0)==(ed.getD ((((j:Int)*cr)+(rows.length:Nat):Int).toNat) 0))),Z1 102 [(24,80),(45,101)] (.bool ((cd.getD ((((rows.getD (j) 0)*cr)+(i:Int):Int).toNat) 0)==(ed.getD ((((j:Int)*cr)+(rows.length:Nat):Int).toNat) 0)))] (Zc (fun _ _ _=>AR.plain (OG.imp (OD.move rfl rfl) (by rintro _ _ ⟨rfl,rfl⟩;exact⟨[],congrArg Value.bool hg8,trivial,rfl⟩)) rfl) (Yv (Zc (fun _ _ _=>Zo (Qf AV) rfl rfl rfl rfl trivial rfl) (Zc (fun _ _ _=>Zo (Ql AH 1) rfl rfl rfl rfl trivial rfl) (Yw (Zc (fun _ _ _=>Zo (Qf Aq) rfl rfl rfl rfl trivial rfl) (Zc (fun _ _ _=>Zo (Ql Ak 1) rfl rfl rfl rfl trivial rfl) (Zc (fun _ _ _=>Zo Qm rfl rfl rfl rfl trivial rfl) (Yw (Zc (fun _ _ _=>Zo Qp rfl rfl rfl rfl trivial rfl) (Zc (fun _ _ _=>Zo (Qi Ac (Ent.drop 2 ecd.app)) rfl rfl rfl rfl trivial rfl) (Zc (fun _ _ _=>Zo (Qv Ak (Ent.drop 2 ecd.app)) rfl rfl rfl rfl trivial rfl) (Zc (fun _ _ _=>Zo (Qf AV) rfl rfl rfl rfl trivial rfl) (Zc (fun _ _ _=>Zo (Ql AH 0) rfl rfl rfl rfl trivial rfl) (Yw (Zc (fun _ _ _=>Zo (Qf Aq) rfl rfl rfl rfl trivial rfl) (Zc (fun _ _ _=>Zo (Ql Ak 1) rfl rfl rfl rfl trivial rfl) (Zc (fun _ _ _=>Zo Qm rfl rfl rfl rfl trivial rfl) (Yw (Zc (fun _ _ _=>Zo Qp rfl rfl rfl rfl trivial rfl) (Zc (fun _ _ _=>Zo (Qi Ac (Ent.drop 2 eed.app)) rfl rfl rfl rfl trivial rfl) (Zc (fun _ _ _=>Zo (Qv Ak (Ent.drop 2 eed.app)) rfl rfl rfl rfl trivial rfl) (Zc (fun _ _ _=>AR.on (OG.imp FJ (by rintro _ _ ⟨rfl,rfl⟩;exact⟨[],congrArg Value.bool hg9,trivial,rfl⟩)) rfl rfl rfl) (Zc (fun _ _ _=>Zq (OD.pickT rfl rfl rfl) rfl) (Yv (Zc (fun _ _ _=>Zo (Qf AV) rfl rfl rfl rfl trivial rfl) (Zc (fun _ _ _=>Zo (Ql AH 1) rfl rfl rfl rfl trivial rfl) (Yw (Zc (fun _ _ _=>Zo (Qf Aq) rfl rfl rfl rfl trivial rfl) (Zc (fun _ _ _=>Zo (Ql Ak 1) rfl rfl rfl rfl trivial rfl) (Zc (fun _ _ _=>Zo Qm rfl rfl rfl rfl trivial rfl) (Yw (Zc (fun _ _ _=>Zo Qp rfl rfl rfl rfl trivial rfl) (Zc (fun _ _ _=>Zo (Qi Ac (Ent.drop 2 ecd.app)) rfl rfl rfl rfl trivial rfl) (Zc (fun _ _ _=>Zo (Qv Ak (Ent.drop 2 ecd.app)) rfl rfl rfl rfl trivial rfl) (Zc (fun _ _ _=>Zo (Qf AV) rfl rfl rfl rfl trivial rfl) (Zc (fun _ _ _=>Zo (Ql AH 0) rfl rfl rfl rfl trivial rfl) (Yw (Zc (fun _ _ _=>Zo (Qf Aq) rfl rfl rfl rfl trivial rfl) (Zc (fun _ _ _=>Zo (Ql Ak 1) rfl rfl rfl rfl trivial rfl) (Zc (fun _ _ _=>Zo Qm rfl rfl rfl rfl trivial rfl) (Yw (Zc (fun _ _ _=>Zo Qp rfl rfl rfl rfl trivial rfl) (Zc (fun _ _ _=>Zo (Qi Ac (Ent.drop 2 eed.app)) rfl rfl rfl rfl trivial rfl) (Zc (fun _ _ _=>Zo (Qv Ak (Ent.drop 2 eed.app)) rfl rfl rfl rfl trivial rfl) (Zc (fun _ _ _=>Zo FJ rfl rfl rfl rfl trivial rfl) (Zc (fun _ _ _=>Zq (OD.pickT rfl rfl rfl) rfl) As.nil))))))))))))))))))))))))))))))))))))))))))))))) ?_
  intro θ _
  refine Yb [(2,_),(3,_),(4,_),(7,_),(19,_),(20,_),(8,_),(49,_),(50,_),(9,_),(51,_),(102,.bool ((cd.getD ((((rows.getD (j) 0)*cr)+(i:Int):Int).toNat) 0)==(ed.getD ((((j:Int)*cr)+(rows.length:Nat):Int).toNat) 0)))] (_::_) ?_
  show G _ _ _ [_] _ _ _ _
  refine Za rfl (Zn (GE.blockN (Zt (Zr ?_))))
  refine Zd Qp rfl ?_
  exact Zm rfl (Zn (Yg (j+1,(cd.getD ((((rows.getD (j) 0)*cr)+(i:Int):Int).toNat) 0)==(ed.getD ((((j:Int)*cr)+(rows.length:Nat):Int).toNat) 0)) (⟨by omega,Ar hb (by simp only[atI];simp_all)⟩) [] 0))
  have hg9p:=hg9
  replace hg9p:=ne_of_beq_false hg9p
  refine Ya [(2,_),(3,_),(4,_),(7,_),(19,_),(20,_),(8,_),(49,_),(50,_),(9,_),(51,_),(10,_),(11,_)] ?_
  refine Wp [Z0 56 (.bool true),Z1 57 [(0,56)] (.bool true),Z1 58 [(1,57)] (Pg g1 1),Z1 59 [(1,57),(2,58)] vcd,Z1 60 [(1,57)] (J ((i:Int))),Z1 61 [(1,57)] (Pg g1 0),Z1 62 [(1,57),(5,61)] (J (cr)),Z1 63 [(1,57),(4,60),(6,62)] (J ((i:Int)*cr)),Z1 64 [(1,57)] (J (rows.getD (j) 0)),Z1 65 [(1,57),(7,63),(8,64)] (J (((i:Int)*cr)+(rows.getD (j) 0))),Z1 66 [(1,57),(3,59),(9,65)] (Aa vcd 1 ((((i:Int)*cr)+(rows.getD (j) 0):Int).toNat)),Z1 67 [(1,57),(10,66)] (J (cd.getD ((((i:Int)*cr)+(rows.getD (j) 0):Int).toNat) 0)),Z1 68 [(1,57)] (Pg g2 1),Z1 69 [(1,57),(12,68)] ved,Z1 70 [(1,57)] (J ((rows.length:Nat))),Z1 71 [(1,57)] (Pg g1 0),Z1 72 [(1,57),(15,71)] (J (cr)),Z1 73 [(1,57),(14,70),(16,72)] (J ((rows.length:Nat)*cr)),Z1 74 [(1,57)] (J ((j:Int))),Z1 75 [(1,57),(17,73),(18,74)] (J (((rows.length:Nat)*cr)+(j:Int))),Z1 76 [(1,57),(13,69),(19,75)] (Aa ved 1 ((((rows.length:Nat)*cr)+(j:Int):Int).toNat)),Z1 77 [(1,57),(20,76)] (J (ed.getD ((((rows.length:Nat)*cr)+(j:Int):Int).toNat) 0)),Z1 78 [(1,57),(11,67),(21,77)] (.bool false),Z1 79 [(1,57),(22,78)] (.bool false),Z1 80 [(23,79)] (.bool false),Z1 81 [(24,80)] undef,Z1 82 [(24,80),(25,81)] undef,Z1 83 [(24,80)] undef,Z1 84 [(24,80)] undef,Z1 85 [(24,80),(28,84)] undef,Z1 86 [(24,80),(27,83),(29,85)] undef,Z1 87 [(24,80)] undef,Z1 88 [(24,80),(30,86),(31,87)] undef,Z1 89 [(24,80),(26,82),(32,88)] undef,Z1 90 [(24,80),(33,89)] undef,Z1 91 [(24,80)] undef,Z1 92 [(24,80),(35,91)] undef,Z1 93 [(24,80)] undef,Z1 94 [(24,80)] undef,Z1 95 [(24,80),(38,94)] undef,Z1 96 [(24,80),(37,93),(39,95)] undef,Z1 97 [(24,80)] undef,Z1 98 [(24,80),(40,96),(41,97)] undef,Z1 99 [(24,80),(36,92),(42,98)] undef,Z1 100 [(24,80),(43,99)] undef,Z1 101 [(24,80),(34,90),(44,100)] undef,Z1 102 [(24,80),(45,101)] (.bool false)] (Zc (fun _ _ _=>AR.plain (OG.imp (OD.move rfl rfl) (by rintro _ _ ⟨rfl,rfl⟩;exact⟨[],congrArg Value.bool hg8,trivial,rfl⟩)) rfl) (Yv (Zc (fun _ _ _=>Zo (Qf AV) rfl rfl rfl rfl trivial rfl) (Zc (fun _ _ _=>Zo (Ql AH 1) rfl rfl rfl rfl trivial rfl) (Yw (Zc (fun _ _ _=>Zo (Qf Aq) rfl rfl rfl rfl trivial rfl) (Zc (fun _ _ _=>Zo (Ql Ak 1) rfl rfl rfl rfl trivial rfl) (Zc (fun _ _ _=>Zo Qm rfl rfl rfl rfl trivial rfl) (Yw (Zc (fun _ _ _=>Zo Qp rfl rfl rfl rfl trivial rfl) (Zc (fun _ _ _=>Zo (Qi Ac (Ent.drop 2 ecd.app)) rfl rfl rfl rfl trivial rfl) (Zc (fun _ _ _=>Zo (Qv Ak (Ent.drop 2 ecd.app)) rfl rfl rfl rfl trivial rfl) (Zc (fun _ _ _=>Zo (Qf AV) rfl rfl rfl rfl trivial rfl) (Zc (fun _ _ _=>Zo (Ql AH 0) rfl rfl rfl rfl trivial rfl) (Yw (Zc (fun _ _ _=>Zo (Qf Aq) rfl rfl rfl rfl trivial rfl) (Zc (fun _ _ _=>Zo (Ql Ak 1) rfl rfl rfl rfl trivial rfl) (Zc (fun _ _ _=>Zo Qm rfl rfl rfl rfl trivial rfl) (Yw (Zc (fun _ _ _=>Zo Qp rfl rfl rfl rfl trivial rfl) (Zc (fun _ _ _=>Zo (Qi Ac (Ent.drop 2 eed.app)) rfl rfl rfl rfl trivial rfl) (Zc (fun _ _ _=>Zo (Qv Ak (Ent.drop 2 eed.app)) rfl rfl rfl rfl trivial rfl) (Zc (fun _ _ _=>AR.on (OG.imp FJ (by rintro _ _ ⟨rfl,rfl⟩;exact⟨[],congrArg Value.bool hg9,trivial,rfl⟩)) rfl rfl rfl) (Zc (fun _ _ _=>Zq (OD.pickT rfl rfl rfl) rfl) (Yv (Yo (Yo (Yo (Yo (Yo (Yo (Yo (Yo (Yo (Yo (Yo (Yo (Yo (Yo (Yo (Yo (Yo (Yo (Yo (Yo (Yo (Zc (fun _ _ _=>Zq (OD.pickF rfl rfl rfl) rfl) As.nil))))))))))))))))))))))))))))))))))))))))))))))) ?_
  intro θ _
  refine Yb [(2,_),(3,_),(4,_),(7,_),(19,_),(20,_),(8,_),(49,_),(50,_),(9,_),(51,_),(102,.bool false)] (_::_) ?_
  show G _ _ _ [_] _ _ _ _
  refine Za rfl (Zn (GE.blockN (Zt (Zr ?_))))
  refine Zd Qp rfl ?_
  exact Zm rfl (Zn (Yg (j+1,false) (⟨by omega,Ar hb (by simp only[atI];simp_all)⟩) [] 0))
  refine Ya [(2,_),(3,_),(4,_),(7,_),(19,_),(20,_),(8,_),(49,_),(50,_),(9,_),(51,_),(10,_),(11,_)] ?_
  refine Wp [Z0 56 (.bool false),Z1 57 [(0,56)] (.bool false),Z1 58 [(1,57)] undef,Z1 59 [(1,57),(2,58)] undef,Z1 60 [(1,57)] undef,Z1 61 [(1,57)] undef,Z1 62 [(1,57),(5,61)] undef,Z1 63 [(1,57),(4,60),(6,62)] undef,Z1 64 [(1,57)] undef,Z1 65 [(1,57),(7,63),(8,64)] undef,Z1 66 [(1,57),(3,59),(9,65)] undef,Z1 67 [(1,57),(10,66)] undef,Z1 68 [(1,57)] undef,Z1 69 [(1,57),(12,68)] undef,Z1 70 [(1,57)] undef,Z1 71 [(1,57)] undef,Z1 72 [(1,57),(15,71)] undef,Z1 73 [(1,57),(14,70),(16,72)] undef,Z1 74 [(1,57)] undef,Z1 75 [(1,57),(17,73),(18,74)] undef,Z1 76 [(1,57),(13,69),(19,75)] undef,Z1 77 [(1,57),(20,76)] undef,Z1 78 [(1,57),(11,67),(21,77)] undef,Z1 79 [(1,57),(22,78)] (.bool false),Z1 80 [(23,79)] (.bool false),Z1 81 [(24,80)] undef,Z1 82 [(24,80),(25,81)] undef,Z1 83 [(24,80)] undef,Z1 84 [(24,80)] undef,Z1 85 [(24,80),(28,84)] undef,Z1 86 [(24,80),(27,83),(29,85)] undef,Z1 87 [(24,80)] undef,Z1 88 [(24,80),(30,86),(31,87)] undef,Z1 89 [(24,80),(26,82),(32,88)] undef,Z1 90 [(24,80),(33,89)] undef,Z1 91 [(24,80)] undef,Z1 92 [(24,80),(35,91)] undef,Z1 93 [(24,80)] undef,Z1 94 [(24,80)] undef,Z1 95 [(24,80),(38,94)] undef,Z1 96 [(24,80),(37,93),(39,95)] undef,Z1 97 [(24,80)] undef,Z1 98 [(24,80),(40,96),(41,97)] undef,Z1 99 [(24,80),(36,92),(42,98)] undef,Z1 100 [(24,80),(43,99)] undef,Z1 101 [(24,80),(34,90),(44,100)] undef,Z1 102 [(24,80),(45,101)] (.bool false)] (Zc (fun _ _ _=>AR.plain (OG.imp (OD.move rfl rfl) (by rintro _ _ ⟨rfl,rfl⟩;exact⟨[],congrArg Value.bool hg8,trivial,rfl⟩)) rfl) (Yv (Yo (Yo (Yo (Yo (Yo (Yo (Yo (Yo (Yo (Yo (Yo (Yo (Yo (Yo (Yo (Yo (Yo (Yo (Yo (Yo (Yo (Zc (fun _ _ _=>Zq (OD.pickF rfl rfl rfl) rfl) (Yv (Yo (Yo (Yo (Yo (Yo (Yo (Yo (Yo (Yo (Yo (Yo (Yo (Yo (Yo (Yo (Yo (Yo (Yo (Yo (Yo (Yo (Zc (fun _ _ _=>Zq (OD.pickF rfl rfl rfl) rfl) As.nil))))))))))))))))))))))))))))))))))))))))))))))) ?_
  intro θ _
  refine Yb [(2,_),(3,_),(4,_),(7,_),(19,_),(20,_),(8,_),(49,_),(50,_),(9,_),(51,_),(102,.bool false)] (_::_) ?_
  show G _ _ _ [_] _ _ _ _
  refine Za rfl (Zn (GE.blockN (Zt (Zr ?_))))
  refine Zd Qp rfl ?_
  exact Zm rfl (Zn (Yg (j+1,false) (⟨by omega,Ar hb (by simp only[atI];simp_all)⟩) [] 0))
  replace hc7:=of_decide_eq_false hc7
  have hbf:b=UJ cr cd cr ed rows i rows.length rows.length:=by rw[hb,show j=rows.length by omega];rfl
  refine GC.exit (Zp (Zp (GE.hit (Zt (Zs ?_)))))
  rcases Bool.eq_false_or_eq_true (b) with hg10 | hg10
  refine Ya [(2,_),(3,_),(4,_),(7,_),(19,_),(20,_),(8,_),(9,_)] ?_
  refine Wp [Z0 104 (.bool true),Z1 105 [(0,104)] (.bool true),Z1 106 [(1,105)] (.agg #[J (cr),vcd]),Z1 107 [(1,105)] (.agg #[J (er),ved]),Z1 108 [(1,105)] vrows,⟨109,[(1,105),(4,108)],[],[],[5],fun ds=>((ds.getD 0 []).getD 0 undef),fun ds=>Ab ((ds.getD 0 []).getD 0 undef),fun ds=>[ints 3 ((ds.getD 0 []).getD 0 undef) rows]⟩,Z1 110 [(1,105)] (J ((i:Int))),⟨111,[(1,105),(6,110)],[],[],[7],fun ds=>((ds.getD 0 []).getD 0 undef),fun ds=>Ab ((ds.getD 0 []).getD 0 undef),fun ds=>[ints 3 ((ds.getD 0 []).getD 0 undef) [(i:Int)]]⟩,⟨112,[(1,105),(5,109),(7,111)],[5,7],[5],[5,7,8],fun ds=>((ds.getD 2 []).getD 0 undef),fun ds=>Ab ((ds.getD 2 []).getD 0 undef),fun ds=>[ints 3 ((ds.getD 2 []).getD 0 undef) (rows++[(i:Int)])]⟩,⟨113,[(1,105),(2,106),(3,107),(8,112)],[7,8],[],[5,7,8],fun _ => .bool (BK cr cd ed f (rows++[(i:Int)])),fun _=>True,fun _=>[]⟩,⟨114,[(1,105),(9,113)],[7,8],[],[5,7,8],fun _ => .bool (BK cr cd ed f (rows++[(i:Int)])),fun _=>True,fun _=>[]⟩] (Zc (fun _ _ _=>AR.plain (OG.imp (OD.move rfl rfl) (by rintro _ _ ⟨rfl,rfl⟩;exact⟨[],congrArg Value.bool hg10,trivial,rfl⟩)) rfl) (Yv (Zc (fun _ _ _=>Zo (Qa An 1 [_,_]) rfl rfl rfl rfl trivial rfl) (Zc (fun _ _ _=>Zo (Qa An 0 [_,_]) rfl rfl rfl rfl trivial rfl) (Yw (Zc (fun _ _ _=>AR.on (OG.imp (Yc [vrows] V8 (by exact(Rb srows (Ent.drop 2 erows.app) (by omega)))) (by rintro v11 _ ⟨_,rfl,hs12,rfl⟩;exact⟨[v11],rfl,hs12,rfl⟩)) rfl rfl rfl) (Yw (Zc (fun _ _ _=>AR.on (OG.imp (OG.buildInts (xs:=[.tmp 110]) (is:=[(i:Int)]) rfl Ac rfl rfl rfl rfl rfl) (by rintro v13 _ ⟨hs14,rfl⟩;exact⟨[v13],rfl,hs14,rfl⟩)) rfl rfl rfl) (Zc (fun _ _ _=>AR.on (OG.imp (OG.appendInts 0 rfl rfl Ac rfl rfl rfl (Ei 1) (by first | omega | (simp;omega))) (by rintro v15 _ ⟨hs16,rfl⟩;exact⟨[v15],rfl,hs16,rfl⟩)) rfl rfl rfl) (Zc (fun θ _ ⟨_,_,_,h8d,_⟩=>Zo (Yc [.agg #[J (cr),vcd],.agg #[J (er),ved],((θ 8).getD 0 undef)] Vn (by exact(ih scd (Ent.drop 4 ecd.app) sed (Ent.drop 4 eed.app) h8d (Ei 1) (hcr) (hcd) (her) (hed) (EY hro ⟨by omega,by omega⟩) (by simp;omega) (by simp;omega)))) rfl rfl rfl rfl trivial rfl) (Zc (fun _ _ _=>Zq (OD.pickT rfl rfl rfl) rfl) As.nil))))))))))) ?_
  intro θ hall
  obtain⟨_,_,_,_,_,h5a,_,h7a,h8a,_,_,_⟩:=hall
  refine Yb [(2,_),(3,_),(4,_),(7,_),(19,_),(20,_),(114,.bool (BK cr cd ed f (rows++[(i:Int)])))] (ints 3 ((θ 7).getD 0 undef) [(i:Int)]::ints 3 ((θ 8).getD 0 undef) (rows++[(i:Int)])::_::_) ?_
  have hs17:Ab ((θ 5).getD 0 undef):=h5a
  clear h5a
  generalize ((θ 5).getD 0 undef)=v18 at *
  have hs19:Ab ((θ 7).getD 0 undef):=h7a
  clear h7a
  generalize ((θ 7).getD 0 undef)=v20 at *
  have hs21:Ab ((θ 8).getD 0 undef):=h8a
  clear h8a
  generalize ((θ 8).getD 0 undef)=v22 at *
  show G _ _ _ [] _ _ _ _
  refine Zn (Zt ?_)
  refine GC.cond rfl (fun hc23=>?_) (fun hc23=>?_)
  refine Zs (Zr (Za rfl (Zn (Zt (GC.ret (GE.blockR (GE.passR (GE.passR (GE.blockR (GE.passR ?_))))))))))
  exact GE.body [] 4 (Ao rfl rfl) rfl (⟨congrArg (fun a0=>(.bool (a0):Value)) ((by unfold BK;rw[if_neg (by omega)];exact(M8 (k:=i) (by omega) (by simp only[atI,hg5,hg10,hc23,hc6b,← hbf,Bool.not_true,Bool.not_false,Bool.and_true,Bool.true_and,Bool.and_false,Bool.false_and,Bool.and_self])).symm:(true:Bool)=BK cr cd ed (f+1) rows)),rfl⟩)
  refine Zk (GE.blockN (Zt (Zr ?_)))
  refine Zd Qp rfl ?_
  exact Zm rfl (Zn (Yg (i+1) (⟨by omega,any_succ hany (by simp only[atI,hg5,hg10,hc23,Bool.not_true,Bool.not_false,Bool.and_true,Bool.true_and,Bool.and_false,Bool.false_and,Bool.and_self])⟩) [2,2] 2))
  refine Ya [(2,_),(3,_),(4,_),(7,_),(19,_),(20,_),(8,_),(9,_)] ?_
  refine Wp [Z0 104 (.bool false),Z1 105 [(0,104)] (.bool false),Z1 106 [(1,105)] undef,Z1 107 [(1,105)] undef,Z1 108 [(1,105)] undef,Z1 109 [(1,105),(4,108)] undef,Z1 110 [(1,105)] undef,Z1 111 [(1,105),(6,110)] undef,Z1 112 [(1,105),(5,109),(7,111)] undef,Z1 113 [(1,105),(2,106),(3,107),(8,112)] undef,Z1 114 [(1,105),(9,113)] (.bool false)] (Zc (fun _ _ _=>AR.plain (OG.imp (OD.move rfl rfl) (by rintro _ _ ⟨rfl,rfl⟩;exact⟨[],congrArg Value.bool hg10,trivial,rfl⟩)) rfl) (Yv (Yo (Yo (Yo (Yo (Yo (Yo (Yo (Yo (Zc (fun _ _ _=>Zq (OD.pickF rfl rfl rfl) rfl) As.nil))))))))))) ?_
  intro θ _
  refine Yb [(2,_),(3,_),(4,_),(7,_),(19,_),(20,_),(114,.bool false)] (_::_) ?_
  show G _ _ _ [] _ _ _ _
  refine Zn (Zt (GC.condF rfl (Zk (GE.blockN (Zt (Zr ?_))))))
  refine Zd Qp rfl ?_
  exact Zm rfl (Zn (Yg (i+1) (⟨by omega,any_succ hany (by simp only[atI,hg5,hg10,← hbf,Bool.not_true,Bool.not_false,Bool.and_true,Bool.true_and,Bool.and_false,Bool.false_and,Bool.and_self])⟩) [] 0))
  replace hc4:=of_decide_eq_false hc4
  have hall:(List.range cr.toNat).any (fun(i:Nat)=>(!(rows.contains (i:Int))&&atI cr cd i i==atI cr ed rows.length rows.length)&&(UJ cr cd cr ed rows i rows.length rows.length&&BK cr cd ed f (rows++[(i:Int)])))=false:=by rw[show cr.toNat=i by omega];exact hany
  refine GC.exit (Zp (Zp (GE.hit (Zt (Zs (Zr ?_))))))
  refine Za rfl (Zn (Zt (GC.ret ?_)))
  exact GE.body [] 2 (Ao rfl rfl) rfl (⟨congrArg (fun a0=>(.bool (a0):Value)) ((by unfold BK;rw[if_neg (by omega)];exact hall.symm:(false:Bool)=BK cr cd ed (f+1) rows)),rfl⟩)
theorem T6 (f:Nat):∀ {W:World} {own:List Asn} {cr:Int} {vcd:Value} {cd:List Int} {vrows:Value} {rows:List Int} {vused:Value} {used:List Int} {er:Int} {ved:Value} {ed:List Int} (scd:Ab vcd) (ecd:Ent own fun w=>Ints w vcd cd) (srows:Ab vrows) (erows:Ent own fun w=>Ints w vrows rows) (sused:Ab vused) (eused:Ent own fun w=>Ints w vused used) (sed:Ab ved) (eed:Ent own fun w=>Ints w ved ed) (hcr:1≤cr∧cr≤4) (hcd:(cd.length:Int)=cr*cr) (hro:∀ y∈rows,0≤y∧y<cr) (huo:∀ y∈used,0≤y∧y<cr) (her:er=rows.length) (hed:(ed.length:Int)=er*er) (hr4:rows.length≤4) (hle:used.length≤rows.length) (hf:rows.length<f+used.length),Spec Tryz.prog 165 [.agg #[J (cr),vcd],vrows,vused,.agg #[J (er),ved]] W own (fun v ow=>v = .bool (CH cr cd rows er ed f used)∧ow=own):=by
 induction f with
 | zero =>
   intro W own cr vcd cd vrows rows vused used er ved ed scd ecd srows erows sused eused sed eed hcr hcd hro huo her hed hr4 hle hf
   omega
 | succ f ih =>
  intro W own cr vcd cd vrows rows vused used er ved ed scd ecd srows erows sused eused sed eed hcr hcd hro huo her hed hr4 hle hf
  refine Spec.enter Tryz.f165 _ Tryz.func165 rfl (n:=89) rfl rfl ?_
  refine Zs (Zr (Yt (OG.box (cs:=[J (cr),vcd]) rfl rfl rfl) ?_))
  rintro _ _ ⟨g1,rfl,rfl⟩
  refine Yt (OG.box (cs:=[J (er),ved]) rfl rfl rfl) ?_
  rintro _ _ ⟨g2,rfl,rfl⟩
  refine Za rfl (Zn (Zt (Zs (Zr (Zm rfl (Zd (Qn Ac (Ent.drop 2 eused)) rfl ?_))))))
  refine Za rfl (Zn (Zt (Zs (Zs (Zr (Zm rfl (Zm rfl (Zd (Qn Ac (Ent.drop 2 erows)) rfl ?_))))))))
  refine Zd FJ rfl ?_
  refine Zn (Zt ?_)
  refine GC.cond rfl (fun hc3=>?_) (fun hc3=>?_)
  replace hc3:=eq_of_beq hc3
  refine Zs (Zr (Za rfl (Zn (Zt (GC.ret (GE.passR ?_))))))
  exact GE.body [] 2 (Ao rfl rfl) rfl (⟨congrArg (fun a0=>(.bool (a0):Value)) ((by unfold CH;rw[if_pos (by omega)]:(true:Bool)=CH cr cd rows er ed (f+1) used)),rfl⟩)
  replace hc3:=ne_of_beq_false hc3
  refine Zk (Zt (Zs (Zs (Zr (Za rfl (Zn (Zt (GC.block ?_))))))))
  refine Yl (ι:=Nat) (fun i=>[(1,vrows),(2,vused),(4,Pg g1 0),(7,Pg g2 0),(9,J ((used.length:Nat))),(10,J ((i:Int)))]) (fun i=>box g2 27 [J (er),ved]::box g1 27 [J (cr),vcd]::own) (fun i=>(i≤rows.length)∧((List.range i).any (fun(i:Nat) => !(used.contains (rows.getD i 0))&&(Up cr cd er ed (used++[rows.getD i 0]) used.length (used.length+1)&&CH cr cd rows er ed f (used++[rows.getD i 0])))=false)) (fun i=>rows.length - i) 0 (⟨by omega,rfl⟩) [] 0 ?_
  rintro i ⟨hi,hany⟩
  refine Zs (Zs (Zr (Zm rfl (Zm rfl (Zd (Qn Ac (Ent.drop 2 erows)) rfl ?_)))))
  refine Zd Bb rfl ?_
  refine Zn (Zt ?_)
  refine GC.cond rfl (fun hc4=>?_) (fun hc4=>?_)
  replace hc4:=of_decide_eq_true hc4
  have hri:=Bi hro (k:=i) (by omega)
  have hnl:(used++[rows.getD i 0]).length=used.length+1:=by simp
  have hng:=EY huo hri
  refine Zk (Zt (Zs (GC.block (Zs (Zs (Zr ?_))))))
  refine Zm rfl (Zm rfl (Zm rfl (Zd (Qi Ac (Ent.drop 2 erows)) rfl ?_)))
  refine Zd (Qv Ak (Ent.drop 2 erows)) rfl ?_
  refine Yt (Yc [vused,J (rows.getD (i) 0)] O9 (by exact(KE sused (Ent.drop 2 eused) (by omega)))) ?_
  rintro _ _ ⟨rfl,rfl⟩
  refine Zd (OD.eqv (OD.geq rfl rfl rfl) (congrArg (Value.bool) ((posI_ge _ _):_=(used.contains (rows.getD (i) 0))))) rfl ?_
  refine Zn (Zt ?_)
  refine GC.cond rfl (fun hc5=>?_) (fun hc5=>?_)
  refine GC.exit (Zp (GE.hit (Zt (Zr ?_))))
  refine Zm rfl (Zd Qp rfl ?_)
  exact Za rfl (Zn (Yg (i+1) (⟨by omega,any_succ hany (by simp only[hc5,Bool.not_true,Bool.not_false,Bool.and_true,Bool.true_and,Bool.and_false,Bool.false_and,Bool.and_self])⟩) [] 0))
  have hc0:=hc5
  refine Zk (Zt (Zs (Ya [(1,_),(2,_),(4,_),(7,_),(9,_),(10,_)] ?_)))
  refine Wp [Z0 33 vused,⟨34,[(0,33)],[],[],[1],fun ds=>((ds.getD 0 []).getD 0 undef),fun ds=>Ab ((ds.getD 0 []).getD 0 undef),fun ds=>[ints 3 ((ds.getD 0 []).getD 0 undef) used]⟩,Z0 35 vrows,Z0 36 (J ((i:Int))),Z1 37 [(2,35),(3,36)] (Aa vrows 1 (i)),Z1 38 [(4,37)] (J (rows.getD (i) 0)),⟨39,[(5,38)],[],[],[6],fun ds=>((ds.getD 0 []).getD 0 undef),fun ds=>Ab ((ds.getD 0 []).getD 0 undef),fun ds=>[ints 3 ((ds.getD 0 []).getD 0 undef) [rows.getD (i) 0]]⟩,⟨40,[(1,34),(6,39)],[1,6],[1],[1,6,7],fun ds=>((ds.getD 2 []).getD 0 undef),fun ds=>Ab ((ds.getD 2 []).getD 0 undef),fun ds=>[ints 3 ((ds.getD 2 []).getD 0 undef) (used++[rows.getD (i) 0])]⟩] (Yv (Zc (fun _ _ _=>AR.plain (OG.imp (Yc [vused] Pc (by exact(KR sused (Ent.drop 2 eused.app) (by omega)))) (by rintro v6 _ ⟨_,rfl,hs7,rfl⟩;exact⟨[v6],rfl,hs7,rfl⟩)) rfl) (Yv (Yv (Zc (fun _ _ _=>Zq (Qi Ac (Ent.drop 2 erows.app)) rfl) (Zc (fun _ _ _=>Zq (Qv Ak (Ent.drop 2 erows.app)) rfl) (Zc (fun _ _ _=>AR.plain (OG.imp (OG.buildInts (xs:=[.tmp 38]) (is:=[rows.getD (i) 0]) rfl Ac rfl rfl rfl rfl rfl) (by rintro v8 _ ⟨hs9,rfl⟩;exact⟨[v8],rfl,hs9,rfl⟩)) rfl) (Zc (fun _ _ _=>AR.plain (OG.imp (OG.appendInts 0 rfl rfl Ac rfl rfl rfl (Ei 1) (by first | omega | (simp;omega))) (by rintro v10 _ ⟨hs11,rfl⟩;exact⟨[v10],rfl,hs11,rfl⟩)) rfl) As.nil)))))))) ?_
  intro θ hall
  obtain⟨_,h1a,_,_,_,_,h6a,h7a,_⟩:=hall
  refine Yb [(1,_),(2,_),(4,_),(7,_),(9,_),(10,_),(40,((θ 7).getD 0 undef))] (ints 3 ((θ 6).getD 0 undef) [rows.getD (i) 0]::ints 3 ((θ 7).getD 0 undef) (used++[rows.getD (i) 0])::_::_) ?_
  have hs12:Ab ((θ 1).getD 0 undef):=h1a
  clear h1a
  generalize ((θ 1).getD 0 undef)=v13 at *
  have hs14:Ab ((θ 6).getD 0 undef):=h6a
  clear h6a
  generalize ((θ 6).getD 0 undef)=v15 at *
  have hs16:Ab ((θ 7).getD 0 undef):=h7a
  clear h7a
  generalize ((θ 7).getD 0 undef)=v17 at *
  show G _ _ _ [_] _ _ _ _
  refine Za rfl (Zn (Zt (Zs (Zr (Za rfl (Zn (Zt (Zs (Zs (Zr (Za rfl (Zn (Zt (GC.block ?_))))))))))))))
  refine Yl (ι:=Nat × Bool) (fun⟨j,b⟩=>[(1,vrows),(2,vused),(4,Pg g1 0),(7,Pg g2 0),(9,J ((used.length:Nat))),(10,J ((i:Int))),(11,v17),(12,.bool (b)),(13,J ((j:Int)))]) (fun⟨j,b⟩=>ints 3 v15 [rows.getD (i) 0]::ints 3 v17 (used++[rows.getD (i) 0])::box g2 27 [J (er),ved]::box g1 27 [J (cr),vcd]::own) (fun⟨j,b⟩=>(j≤used.length+1)∧(b=(List.range j).foldl (fun(b:Bool) (j:Nat)=>b&&(atI cr cd ((used++[rows.getD i 0]).getD used.length 0) ((used++[rows.getD i 0]).getD j 0)==atI er ed used.length j&&atI cr cd ((used++[rows.getD i 0]).getD j 0) ((used++[rows.getD i 0]).getD used.length 0)==atI er ed j used.length)) true)) (fun⟨j,b⟩=>used.length+1 - j) (0,true) (⟨by omega,rfl⟩) [] 0 ?_
  rintro⟨j,b⟩ ⟨hj,hb⟩
  refine Zs (Zs (Zr (Zm rfl (Zm rfl (Zd (OD.leq rfl rfl rfl) rfl ?_)))))
  refine Zn (Zt ?_)
  refine GC.cond rfl (fun hc18=>?_) (fun hc18=>?_)
  replace hc18:=of_decide_eq_true hc18
  have hrj:=Bi hng (k:=j) (by omega)
  have hrk:=Bi hng (k:=used.length) (by omega)
  have hx3:=Be (n:=cr) (i:=(used++[rows.getD i 0]).getD used.length 0) (j:=(used++[rows.getD i 0]).getD j 0) ⟨by omega,by omega⟩ ⟨by omega,by omega⟩ (by omega)
  have hx4:=Be (n:=er) (i:=used.length) (j:=j) ⟨by omega,by omega⟩ ⟨by omega,by omega⟩ (by omega)
  have hx5:=Be (n:=cr) (i:=(used++[rows.getD i 0]).getD j 0) (j:=(used++[rows.getD i 0]).getD used.length 0) ⟨by omega,by omega⟩ ⟨by omega,by omega⟩ (by omega)
  have hx6:=Be (n:=er) (i:=j) (j:=used.length) ⟨by omega,by omega⟩ ⟨by omega,by omega⟩ (by omega)
  refine Zk (Zt (Zs (GC.block ?_)))
  rcases Bool.eq_false_or_eq_true (b) with hg19 | hg19
  rcases Bool.eq_false_or_eq_true ((atI cr cd ((used++[rows.getD (i) 0]).getD (used.length) 0) ((used++[rows.getD (i) 0]).getD (j) 0))==(atI er ed (used.length:Nat) (j:Int))) with hg20 | hg20
  have hg20p:=hg20
  replace hg20p:=eq_of_beq hg20p
  refine Ya [(1,_),(2,_),(4,_),(7,_),(9,_),(10,_),(11,_),(12,_),(13,_)] ?_
  refine Wp [Z0 46 (.bool true),Z1 47 [(0,46)] (.bool true),Z1 48 [(1,47)] (.agg #[J (cr),vcd]),Z1 49 [(1,47)] v17,Z1 50 [(1,47)] (J ((used.length:Nat))),Z1 51 [(1,47),(3,49),(4,50)] (Aa v17 1 (used.length)),Z1 52 [(1,47),(5,51)] (J ((used++[rows.getD (i) 0]).getD (used.length) 0)),Z1 53 [(1,47)] v17,Z1 54 [(1,47)] (J ((j:Int))),Z1 55 [(1,47),(7,53),(8,54)] (Aa v17 1 (j)),Z1 56 [(1,47),(9,55)] (J ((used++[rows.getD (i) 0]).getD (j) 0)),Z1 57 [(1,47),(2,48),(6,52),(10,56)] (J (atI cr cd ((used++[rows.getD (i) 0]).getD (used.length) 0) ((used++[rows.getD (i) 0]).getD (j) 0))),Z1 58 [(1,47)] (.agg #[J (er),ved]),Z1 59 [(1,47)] (J ((used.length:Nat))),Z1 60 [(1,47)] (J ((j:Int))),Z1 61 [(1,47),(12,58),(13,59),(14,60)] (J (atI er ed (used.length:Nat) (j:Int))),Z1 62 [(1,47),(11,57),(15,61)] (.bool true),Z1 63 [(1,47),(16,62)] (.bool true),Z1 64 [(17,63)] (.bool true),Z1 65 [(18,64)] (.agg #[J (cr),vcd]),Z1 66 [(18,64)] v17,Z1 67 [(18,64)] (J ((j:Int))),Z1 68 [(18,64),(20,66),(21,67)] (Aa v17 1 (j)),Z1 69 [(18,64),(22,68)] (J ((used++[rows.getD (i) 0]).getD (j) 0)),Z1 70 [(18,64)] v17,Z1 71 [(18,64)] (J ((used.length:Nat))),Z1 72 [(18,64),(24,70),(25,71)] (Aa v17 1 (used.length)),Z1 73 [(18,64),(26,72)] (J ((used++[rows.getD (i) 0]).getD (used.length) 0)),Z1 74 [(18,64),(19,65),(23,69),(27,73)] (J (atI cr cd ((used++[rows.getD (i) 0]).getD (j) 0) ((used++[rows.getD (i) 0]).getD (used.length) 0))),Z1 75 [(18,64)] (.agg #[J (er),ved]),Z1 76 [(18,64)] (J ((j:Int))),Z1 77 [(18,64)] (J ((used.length:Nat))),Z1 78 [(18,64),(29,75),(30,76),(31,77)] (J (atI er ed (j:Int) (used.length:Nat))),Z1 79 [(18,64),(28,74),(32,78)] (.bool ((atI cr cd ((used++[rows.getD (i) 0]).getD (j) 0) ((used++[rows.getD (i) 0]).getD (used.length) 0))==(atI er ed (j:Int) (used.length:Nat)))),Z1 80 [(18,64),(33,79)] (.bool ((atI cr cd ((used++[rows.getD (i) 0]).getD (j) 0) ((used++[rows.getD (i) 0]).getD (used.length) 0))==(atI er ed (j:Int) (used.length:Nat))))] (Zc (fun _ _ _=>AR.plain (OG.imp (OD.move rfl rfl) (by rintro _ _ ⟨rfl,rfl⟩;exact⟨[],congrArg Value.bool hg19,trivial,rfl⟩)) rfl) (Yv (Zc (fun _ _ _=>Zo (Qa An 3 [_,_]) rfl rfl rfl rfl trivial rfl) (Yw (Yw (Zc (fun _ _ _=>Zo (Qi Ac (Ei 1)) rfl rfl rfl rfl trivial rfl) (Zc (fun _ _ _=>Zo (Qv Ak (Ei 1)) rfl rfl rfl rfl trivial rfl) (Yw (Yw (Zc (fun _ _ _=>Zo (Qi Ac (Ei 1)) rfl rfl rfl rfl trivial rfl) (Zc (fun _ _ _=>Zo (Qv Ak (Ei 1)) rfl rfl rfl rfl trivial rfl) (Zc (fun _ _ _=>Zo (Yc [.agg #[J (cr),vcd],J ((used++[rows.getD (i) 0]).getD (used.length) 0),J ((used++[rows.getD (i) 0]).getD (j) 0)] ent109 (by exact(Dc scd (Ent.drop 4 ecd.app) (by omega)))) rfl rfl rfl rfl trivial rfl) (Zc (fun _ _ _=>Zo (Qa An 2 [_,_]) rfl rfl rfl rfl trivial rfl) (Yw (Yw (Zc (fun _ _ _=>Zo (Yc [.agg #[J (er),ved],J ((used.length:Nat)),J ((j:Int))] ent109 (by exact(Dc sed (Ent.drop 4 eed.app) (by omega)))) rfl rfl rfl rfl trivial rfl) (Zc (fun _ _ _=>AR.on (OG.imp FJ (by rintro _ _ ⟨rfl,rfl⟩;exact⟨[],congrArg Value.bool hg20,trivial,rfl⟩)) rfl rfl rfl) (Zc (fun _ _ _=>Zq (OD.pickT rfl rfl rfl) rfl) (Yv (Zc (fun _ _ _=>Zo (Qa An 3 [_,_]) rfl rfl rfl rfl trivial rfl) (Yw (Yw (Zc (fun _ _ _=>Zo (Qi Ac (Ei 1)) rfl rfl rfl rfl trivial rfl) (Zc (fun _ _ _=>Zo (Qv Ak (Ei 1)) rfl rfl rfl rfl trivial rfl) (Yw (Yw (Zc (fun _ _ _=>Zo (Qi Ac (Ei 1)) rfl rfl rfl rfl trivial rfl) (Zc (fun _ _ _=>Zo (Qv Ak (Ei 1)) rfl rfl rfl rfl trivial rfl) (Zc (fun _ _ _=>Zo (Yc [.agg #[J (cr),vcd],J ((used++[rows.getD (i) 0]).getD (j) 0),J ((used++[rows.getD (i) 0]).getD (used.length) 0)] ent109 (by exact(Dc scd (Ent.drop 4 ecd.app) (by omega)))) rfl rfl rfl rfl trivial rfl) (Zc (fun _ _ _=>Zo (Qa An 2 [_,_]) rfl rfl rfl rfl trivial rfl) (Yw (Yw (Zc (fun _ _ _=>Zo (Yc [.agg #[J (er),ved],J ((j:Int)),J ((used.length:Nat))] ent109 (by exact(Dc sed (Ent.drop 4 eed.app) (by omega)))) rfl rfl rfl rfl trivial rfl) (Zc (fun _ _ _=>Zo FJ rfl rfl rfl rfl trivial rfl) (Zc (fun _ _ _=>Zq (OD.pickT rfl rfl rfl) rfl) As.nil))))))))))))))))))))))))))))))))))) ?_
  intro θ _
  refine Yb [(1,_),(2,_),(4,_),(7,_),(9,_),(10,_),(11,_),(12,_),(13,_),(80,.bool ((atI cr cd ((used++[rows.getD (i) 0]).getD (j) 0) ((used++[rows.getD (i) 0]).getD (used.length) 0))==(atI er ed (j:Int) (used.length:Nat))))] (_::_) ?_
  show G _ _ _ [_] _ _ _ _
  refine Za rfl (Zn (GE.blockN (Zt (Zr ?_))))
  refine Zm rfl (Zd Qp rfl ?_)
  exact Za rfl (Zn (Yg (j+1,(atI cr cd ((used++[rows.getD (i) 0]).getD (j) 0) ((used++[rows.getD (i) 0]).getD (used.length) 0))==(atI er ed (j:Int) (used.length:Nat))) (⟨by omega,Ar hb (by simp_all)⟩) [] 0))
  have hg20p:=hg20
  replace hg20p:=ne_of_beq_false hg20p
  refine Ya [(1,_),(2,_),(4,_),(7,_),(9,_),(10,_),(11,_),(12,_),(13,_)] ?_
  refine Wp [Z0 46 (.bool true),Z1 47 [(0,46)] (.bool true),Z1 48 [(1,47)] (.agg #[J (cr),vcd]),Z1 49 [(1,47)] v17,Z1 50 [(1,47)] (J ((used.length:Nat))),Z1 51 [(1,47),(3,49),(4,50)] (Aa v17 1 (used.length)),Z1 52 [(1,47),(5,51)] (J ((used++[rows.getD (i) 0]).getD (used.length) 0)),Z1 53 [(1,47)] v17,Z1 54 [(1,47)] (J ((j:Int))),Z1 55 [(1,47),(7,53),(8,54)] (Aa v17 1 (j)),Z1 56 [(1,47),(9,55)] (J ((used++[rows.getD (i) 0]).getD (j) 0)),Z1 57 [(1,47),(2,48),(6,52),(10,56)] (J (atI cr cd ((used++[rows.getD (i) 0]).getD (used.length) 0) ((used++[rows.getD (i) 0]).getD (j) 0))),Z1 58 [(1,47)] (.agg #[J (er),ved]),Z1 59 [(1,47)] (J ((used.length:Nat))),Z1 60 [(1,47)] (J ((j:Int))),Z1 61 [(1,47),(12,58),(13,59),(14,60)] (J (atI er ed (used.length:Nat) (j:Int))),Z1 62 [(1,47),(11,57),(15,61)] (.bool false),Z1 63 [(1,47),(16,62)] (.bool false),Z1 64 [(17,63)] (.bool false),Z1 65 [(18,64)] undef,Z1 66 [(18,64)] undef,Z1 67 [(18,64)] undef,Z1 68 [(18,64),(20,66),(21,67)] undef,Z1 69 [(18,64),(22,68)] undef,Z1 70 [(18,64)] undef,Z1 71 [(18,64)] undef,Z1 72 [(18,64),(24,70),(25,71)] undef,Z1 73 [(18,64),(26,72)] undef,Z1 74 [(18,64),(19,65),(23,69),(27,73)] undef,Z1 75 [(18,64)] undef,Z1 76 [(18,64)] undef,Z1 77 [(18,64)] undef,Z1 78 [(18,64),(29,75),(30,76),(31,77)] undef,Z1 79 [(18,64),(28,74),(32,78)] undef,Z1 80 [(18,64),(33,79)] (.bool false)] (Zc (fun _ _ _=>AR.plain (OG.imp (OD.move rfl rfl) (by rintro _ _ ⟨rfl,rfl⟩;exact⟨[],congrArg Value.bool hg19,trivial,rfl⟩)) rfl) (Yv (Zc (fun _ _ _=>Zo (Qa An 3 [_,_]) rfl rfl rfl rfl trivial rfl) (Yw (Yw (Zc (fun _ _ _=>Zo (Qi Ac (Ei 1)) rfl rfl rfl rfl trivial rfl) (Zc (fun _ _ _=>Zo (Qv Ak (Ei 1)) rfl rfl rfl rfl trivial rfl) (Yw (Yw (Zc (fun _ _ _=>Zo (Qi Ac (Ei 1)) rfl rfl rfl rfl trivial rfl) (Zc (fun _ _ _=>Zo (Qv Ak (Ei 1)) rfl rfl rfl rfl trivial rfl) (Zc (fun _ _ _=>Zo (Yc [.agg #[J (cr),vcd],J ((used++[rows.getD (i) 0]).getD (used.length) 0),J ((used++[rows.getD (i) 0]).getD (j) 0)] ent109 (by exact(Dc scd (Ent.drop 4 ecd.app) (by omega)))) rfl rfl rfl rfl trivial rfl) (Zc (fun _ _ _=>Zo (Qa An 2 [_,_]) rfl rfl rfl rfl trivial rfl) (Yw (Yw (Zc (fun _ _ _=>Zo (Yc [.agg #[J (er),ved],J ((used.length:Nat)),J ((j:Int))] ent109 (by exact(Dc sed (Ent.drop 4 eed.app) (by omega)))) rfl rfl rfl rfl trivial rfl) (Zc (fun _ _ _=>AR.on (OG.imp FJ (by rintro _ _ ⟨rfl,rfl⟩;exact⟨[],congrArg Value.bool hg20,trivial,rfl⟩)) rfl rfl rfl) (Zc (fun _ _ _=>Zq (OD.pickT rfl rfl rfl) rfl) (Yv (Yo (Yo (Yo (Yo (Yo (Yo (Yo (Yo (Yo (Yo (Yo (Yo (Yo (Yo (Yo (Zc (fun _ _ _=>Zq (OD.pickF rfl rfl rfl) rfl) As.nil))))))))))))))))))))))))))))))))))) ?_
  intro θ _
  refine Yb [(1,_),(2,_),(4,_),(7,_),(9,_),(10,_),(11,_),(12,_),(13,_),(80,.bool false)] (_::_) ?_
  show G _ _ _ [_] _ _ _ _
  refine Za rfl (Zn (GE.blockN (Zt (Zr ?_))))
  refine Zm rfl (Zd Qp rfl ?_)
  exact Za rfl (Zn (Yg (j+1,false) (⟨by omega,Ar hb (by simp_all)⟩) [] 0))
  refine Ya [(1,_),(2,_),(4,_),(7,_),(9,_),(10,_),(11,_),(12,_),(13,_)] ?_
  refine Wp [Z0 46 (.bool false),Z1 47 [(0,46)] (.bool false),Z1 48 [(1,47)] undef,Z1 49 [(1,47)] undef,Z1 50 [(1,47)] undef,Z1 51 [(1,47),(3,49),(4,50)] undef,Z1 52 [(1,47),(5,51)] undef,Z1 53 [(1,47)] undef,Z1 54 [(1,47)] undef,Z1 55 [(1,47),(7,53),(8,54)] undef,Z1 56 [(1,47),(9,55)] undef,Z1 57 [(1,47),(2,48),(6,52),(10,56)] undef,Z1 58 [(1,47)] undef,Z1 59 [(1,47)] undef,Z1 60 [(1,47)] undef,Z1 61 [(1,47),(12,58),(13,59),(14,60)] undef,Z1 62 [(1,47),(11,57),(15,61)] undef,Z1 63 [(1,47),(16,62)] (.bool false),Z1 64 [(17,63)] (.bool false),Z1 65 [(18,64)] undef,Z1 66 [(18,64)] undef,Z1 67 [(18,64)] undef,Z1 68 [(18,64),(20,66),(21,67)] undef,Z1 69 [(18,64),(22,68)] undef,Z1 70 [(18,64)] undef,Z1 71 [(18,64)] undef,Z1 72 [(18,64),(24,70),(25,71)] undef,Z1 73 [(18,64),(26,72)] undef,Z1 74 [(18,64),(19,65),(23,69),(27,73)] undef,Z1 75 [(18,64)] undef,Z1 76 [(18,64)] undef,Z1 77 [(18,64)] undef,Z1 78 [(18,64),(29,75),(30,76),(31,77)] undef,Z1 79 [(18,64),(28,74),(32,78)] undef,Z1 80 [(18,64),(33,79)] (.bool false)] (Zc (fun _ _ _=>AR.plain (OG.imp (OD.move rfl rfl) (by rintro _ _ ⟨rfl,rfl⟩;exact⟨[],congrArg Value.bool hg19,trivial,rfl⟩)) rfl) (Yv (Yo (Yo (Yo (Yo (Yo (Yo (Yo (Yo (Yo (Yo (Yo (Yo (Yo (Yo (Yo (Zc (fun _ _ _=>Zq (OD.pickF rfl rfl rfl) rfl) (Yv (Yo (Yo (Yo (Yo (Yo (Yo (Yo (Yo (Yo (Yo (Yo (Yo (Yo (Yo (Yo (Zc (fun _ _ _=>Zq (OD.pickF rfl rfl rfl) rfl) As.nil))))))))))))))))))))))))))))))))))) ?_
  intro θ _
  refine Yb [(1,_),(2,_),(4,_),(7,_),(9,_),(10,_),(11,_),(12,_),(13,_),(80,.bool false)] (_::_) ?_
  show G _ _ _ [_] _ _ _ _
  refine Za rfl (Zn (GE.blockN (Zt (Zr ?_))))
  refine Zm rfl (Zd Qp rfl ?_)
  exact Za rfl (Zn (Yg (j+1,false) (⟨by omega,Ar hb (by simp_all)⟩) [] 0))
  replace hc18:=of_decide_eq_false hc18
  have hbf:b=Up cr cd er ed (used++[rows.getD i 0]) used.length (used.length+1):=by rw[hb,show j=used.length+1 by omega];rfl
  refine GC.exit (Zp (Zp (GE.hit (Zt (Zs (Zr ?_))))))
  refine Zm rfl (Zm rfl ?_)
  rcases Bool.eq_false_or_eq_true (b) with hg21 | hg21
  have hg21e:=hg21
  rw[hg21e]
  refine Yd (Qa An 3 [_,_]) ?_
  refine Yd (OD.move rfl rfl) ?_
  refine Yd (OD.move rfl rfl) ?_
  refine Yd (Qa An 2 [_,_]) ?_
  refine Ye (Yc [.agg #[J (cr),vcd],vrows,v17,.agg #[J (er),ved]] Vy (by exact(ih scd (Ent.drop 4 ecd) srows (Ent.drop 4 erows) hs16 (Ei 1) sed (Ent.drop 4 eed) (hcr) (hcd) (hro) (hng) (her) (hed) (hr4) (by simp;omega) (by simp;omega)))) ?_
  rintro _ _ ⟨rfl,rfl⟩
  refine Zd (OD.pickT rfl rfl rfl) rfl ?_
  refine Zn (Zt ?_)
  refine GC.cond rfl (fun hc22=>?_) (fun hc22=>?_)
  refine Zs (Zr (Za rfl (Zn (Zt (GC.ret (GE.blockR (GE.passR (GE.passR (GE.blockR (GE.passR ?_))))))))))
  exact GE.body [] 4 (Ao rfl rfl) rfl (⟨congrArg (fun a0=>(.bool (a0):Value)) ((by unfold CH;rw[if_neg (by omega)];exact(M8 (k:=i) (by omega) (by simp only[hg21e,hc22,hc0,← hbf,Bool.not_true,Bool.not_false,Bool.and_true,Bool.true_and,Bool.and_false,Bool.false_and,Bool.and_self])).symm:(true:Bool)=CH cr cd rows er ed (f+1) used)),rfl⟩)
  refine Zk (GE.blockN (Zt (Zr ?_)))
  refine Zm rfl (Zd Qp rfl ?_)
  exact Za rfl (Zn (Yg (i+1) (⟨by omega,any_succ hany (by simp only[hg21e,hc22,Bool.not_true,Bool.not_false,Bool.and_true,Bool.true_and,Bool.and_false,Bool.false_and,Bool.and_self])⟩) [2,2] 2))
  have hg21e:=hg21
  rw[hg21e]
  iterate 5 refine Yk ?_
  refine Zd (OD.pickF rfl rfl rfl) rfl ?_
  refine Zn (Zt (GC.condF rfl (Zk (GE.blockN (Zt (Zr ?_))))))
  refine Zm rfl (Zd Qp rfl ?_)
  exact Za rfl (Zn (Yg (i+1) (⟨by omega,any_succ hany (by simp only[hg21e,← hbf,hc0,Bool.not_true,Bool.not_false,Bool.and_true,Bool.true_and,Bool.and_false,Bool.false_and,Bool.and_self])⟩) [2,2] 2))
  replace hc4:=of_decide_eq_false hc4
  have hall:(List.range rows.length).any (fun(i:Nat) => !(used.contains (rows.getD i 0))&&(Up cr cd er ed (used++[rows.getD i 0]) used.length (used.length+1)&&CH cr cd rows er ed f (used++[rows.getD i 0])))=false:=by rw[show rows.length=i by omega];exact hany
  refine GC.exit (Zp (Zp (GE.hit (Zt (Zs (Zr ?_))))))
  refine Za rfl (Zn (Zt (GC.ret ?_)))
  exact GE.body [] 2 (Ao rfl rfl) rfl (⟨congrArg (fun a0=>(.bool (a0):Value)) ((by unfold CH;rw[if_neg (by omega)];exact hall.symm:(false:Bool)=CH cr cd rows er ed (f+1) used)),rfl⟩)
theorem NX {W:World}{own:List Asn}{cr:Int}{vcd:Value}{cd:List Int}{i:Int}(scd:Ab vcd)(ecd:Ent own fun w=>Ints w vcd cd)(hcr:1≤cr∧cr≤4)(hcd:(cd.length:Int)=cr*cr)(hi:0≤i∧i<cr):Spec Tryz.prog 164 [.agg #[J (cr),vcd],J (i)] W own (fun v ow=>∃ (r0:Value),v=r0∧Ab r0∧ow=ints 3 r0 (partF cr cd i)::own):=by
 refine Spec.enter Tryz.f164 _ Tryz.func164 rfl (n:=41) rfl rfl ?_
 refine Zs (Zr (Yt (OG.box (cs:=[J (cr),vcd]) rfl rfl rfl) ?_))
 rintro _ _ ⟨g1,rfl,rfl⟩
 refine Za rfl (Zn (Zt (Zs (Zr (Zm rfl (Yt (OG.buildInts (xs:=[.tmp 8]) (is:=[i]) rfl Ac rfl rfl rfl rfl rfl) ?_))))))
 rintro v2 _ ⟨hs3,rfl⟩
 refine Za rfl (Zn (Zt (Zs (Zs (Zr (Za rfl (Zn (Zt (GC.block ?_)))))))))
 refine Yl (ι:=Nat × List Int × Value) (fun⟨k,o,v⟩=>[(2,Pg g1 0),(5,v),(6,J ((k:Int)))]) (fun⟨k,o,v⟩=>ints 3 v o::box g1 27 [J (cr),vcd]::own) (fun⟨k,o,v⟩=>(Ab v)∧(k≤o.length)∧(o.Nodup)∧(∀ y∈o,0≤y∧y<cr)∧(Fy cr cd (cr.toNat+1 - k) o k=partF cr cd i)) (fun⟨k,o,v⟩=>cr.toNat+1 - k) (0,[i],v2) (⟨hs3,by simp,by simp,by simp;omega,rfl⟩) [] 0 ?_
 rintro⟨k,o,v⟩ ⟨hv,hk,hn,ho,hp⟩
 refine Zs (Zs (Zr (Zm rfl (Zm rfl (Zd (Qn Ac (Ei 0)) rfl ?_)))))
 refine Zd Bb rfl ?_
 refine Zn (Zt ?_)
 refine GC.cond rfl (fun hc4=>?_) (fun hc4=>?_)
 replace hc4:=of_decide_eq_true hc4
 have hol:=HS hn ho
 have hlc:o.length≤4:=by omega
 refine Zk (Zt (Zs (GC.block (Zs (Zr ?_)))))
 refine Za rfl (Zn (Zt (GC.block ?_)))
 refine Yl (ι:=Nat × List Int × Value) (fun⟨j,q,u⟩=>[(2,Pg g1 0),(6,J ((k:Int))),(5,u),(7,J ((j:Int)))]) (fun⟨j,q,u⟩=>ints 3 u q::box g1 27 [J (cr),vcd]::own) (fun⟨j,q,u⟩=>(Ab u)∧((j:Int)≤cr)∧(k<q.length)∧(q.Nodup)∧(∀ y∈q,0≤y∧y<cr)∧(q=(List.range j).foldl (fun(o:List Int) (j:Nat)=>if atI cr cd (o.getD k 0) j != 0 && !(o.contains (j:Int)) then o++[(j:Int)] else o) o)) (fun⟨j,q,u⟩=>cr.toNat - j) (0,o,v) (⟨hv,by omega,by omega,hn,ho,rfl⟩) [] 0 ?_
 rintro⟨j,q,u⟩ ⟨hu,hj,hkq,hqn,hqo,hq⟩
 refine Zs (Zs (Zr (Zm rfl (Zd (Qf Aq) rfl ?_))))
 refine Zd (Ql Ak 1) rfl ?_
 refine Zd Bb rfl ?_
 refine Zn (Zt ?_)
 refine GC.cond rfl (fun hc5=>?_) (fun hc5=>?_)
 replace hc5:=of_decide_eq_true hc5
 have hql:=HS hqn hqo
 have hrk:=Bi hqo (k:=k) hkq
 have hx:=Be (n:=cr) (i:=q.getD k 0) (j:=j) ⟨by omega,by omega⟩ ⟨by omega,by omega⟩ (by omega)
 refine Zk (Zt (Zs (GC.block (Zs ?_))))
 rcases Bool.eq_false_or_eq_true ((atI cr cd (q.getD (k) 0) (j:Int)) != 0) with hg6 | hg6
 have hg6p:=hg6
 replace hg6p:=AA hg6p
 refine Ya [(2,_),(6,_),(5,_),(7,_)] ?_
 refine Wp [Z0 22 (.agg #[J (cr),vcd]),Z0 23 u,Z0 24 (J ((k:Int))),Z1 25 [(1,23),(2,24)] (Aa u 1 (k)),Z1 26 [(3,25)] (J (q.getD (k) 0)),Z0 27 (J ((j:Int))),Z1 28 [(0,22),(4,26),(5,27)] (J (atI cr cd (q.getD (k) 0) (j:Int))),Z1 29 [(6,28)] (.bool true),Z1 30 [(7,29)] (.bool true),Z1 31 [(8,30)] u,Z1 32 [(8,30)] (J ((j:Int))),Z1 33 [(8,30),(9,31),(10,32)] (J (Hr q (j:Int))),Z1 34 [(8,30),(11,33)] (.bool (!(q.contains (j:Int)))),Z1 35 [(8,30),(12,34)] (.bool (!(q.contains (j:Int))))] (Zc (fun _ _ _=>Zq (Qa An 1 [_,_]) rfl) (Yv (Yv (Zc (fun _ _ _=>Zq (Qi Ac (Ei 0)) rfl) (Zc (fun _ _ _=>Zq (Qv Ak (Ei 0)) rfl) (Yv (Zc (fun _ _ _=>Zq (Yc [.agg #[J (cr),vcd],J (q.getD (k) 0),J ((j:Int))] ent109 (by exact(Dc scd (Ent.drop 2 ecd.app) (by omega)))) rfl) (Zc (fun _ _ _=>AR.plain (OG.imp EK (by rintro _ _ ⟨rfl,rfl⟩;exact⟨[],congrArg Value.bool hg6,trivial,rfl⟩)) rfl) (Yv (Yw (Yw (Zc (fun _ _ _=>Zo (Yc [u,J ((j:Int))] O9 (by exact(KE hu (Ei 0) (by omega)))) rfl rfl rfl rfl trivial rfl) (Zc (fun _ _ _=>Zo (OD.eqv Bb (congrArg (Value.bool) ((Xo _ _):_=(!(q.contains (j:Int)))))) rfl rfl rfl rfl trivial rfl) (Zc (fun _ _ _=>Zq (OD.pickT rfl rfl rfl) rfl) As.nil)))))))))))))) ?_
 intro θ _
 refine Yb [(2,_),(6,_),(5,_),(7,_),(35,.bool (!(q.contains (j:Int))))] (_::_) ?_
 show G _ _ _ [] _ _ _ _
 refine Zn (Zt ?_)
 refine GC.cond rfl (fun hc7=>?_) (fun hc7=>?_)
 replace hc7:=Ai hc7
 have hnc:q.contains (j:Int)=false:=hc7
 have hne:(atI cr cd (q.getD k 0) j != 0)=true:=hg6
 refine Zr (Zm rfl (Zm rfl (Yt (OG.buildInts (xs:=[.tmp 37]) (is:=[(j:Int)]) rfl Ac rfl rfl rfl rfl rfl) ?_)))
 rintro v8 _ ⟨hs9,rfl⟩
 refine Yt (OG.appendInts 1 rfl rfl Ac rfl rfl rfl (Ei 0) (by first | omega | (simp;omega))) ?_
 rintro v10 _ ⟨hs11,rfl⟩
 refine Za rfl (Zn (GE.blockN (Zt (Zr ?_))))
 refine Zm rfl (Zd Qp rfl ?_)
 exact Za rfl (Zn (Yg (j+1,q++[(j:Int)],v10) (⟨hs11,by omega,by simp;omega,KU hqn (by simpa using hnc),EY hqo ⟨by omega,by omega⟩,Ar hq (by rw[if_pos (by simp only[hne,hnc,Bool.not_false,Bool.and_self])])⟩) [1,1] 1))
 replace hc7:=Am hc7
 refine Zk (GE.blockN (Zt (Zr ?_)))
 refine Zm rfl (Zd Qp rfl ?_)
 exact Za rfl (Zn (Yg (j+1,q,u) (⟨hu,by omega,hkq,hqn,hqo,Ar hq (by rw[if_neg (by simp only[hc7,hg6,Bool.not_true,Bool.not_false,Bool.and_true,Bool.true_and,Bool.and_false,Bool.false_and,Bool.and_self,Bool.false_eq_true,not_false_eq_true])])⟩) [] 0))
 have hg6p:=hg6
 replace hg6p:=Al hg6p
 refine Ya [(2,_),(6,_),(5,_),(7,_)] ?_
 refine Wp [Z0 22 (.agg #[J (cr),vcd]),Z0 23 u,Z0 24 (J ((k:Int))),Z1 25 [(1,23),(2,24)] (Aa u 1 (k)),Z1 26 [(3,25)] (J (q.getD (k) 0)),Z0 27 (J ((j:Int))),Z1 28 [(0,22),(4,26),(5,27)] (J (atI cr cd (q.getD (k) 0) (j:Int))),Z1 29 [(6,28)] (.bool false),Z1 30 [(7,29)] (.bool false),Z1 31 [(8,30)] undef,Z1 32 [(8,30)] undef,Z1 33 [(8,30),(9,31),(10,32)] undef,Z1 34 [(8,30),(11,33)] undef,Z1 35 [(8,30),(12,34)] (.bool false)] (Zc (fun _ _ _=>Zq (Qa An 1 [_,_]) rfl) (Yv (Yv (Zc (fun _ _ _=>Zq (Qi Ac (Ei 0)) rfl) (Zc (fun _ _ _=>Zq (Qv Ak (Ei 0)) rfl) (Yv (Zc (fun _ _ _=>Zq (Yc [.agg #[J (cr),vcd],J (q.getD (k) 0),J ((j:Int))] ent109 (by exact(Dc scd (Ent.drop 2 ecd.app) (by omega)))) rfl) (Zc (fun _ _ _=>AR.plain (OG.imp EK (by rintro _ _ ⟨rfl,rfl⟩;exact⟨[],congrArg Value.bool hg6,trivial,rfl⟩)) rfl) (Yv (Yo (Yo (Yo (Yo (Zc (fun _ _ _=>Zq (OD.pickF rfl rfl rfl) rfl) As.nil)))))))))))))) ?_
 intro θ _
 refine Yb [(2,_),(6,_),(5,_),(7,_),(35,.bool false)] (_::_) ?_
 show G _ _ _ [] _ _ _ _
 refine Zn (Zt (GC.condF rfl (Zk (GE.blockN (Zt (Zr ?_))))))
 refine Zm rfl (Zd Qp rfl ?_)
 exact Za rfl (Zn (Yg (j+1,q,u) (⟨hu,by omega,hkq,hqn,hqo,Ar hq (by rw[if_neg (by simp only[hg6,Bool.not_true,Bool.not_false,Bool.and_true,Bool.true_and,Bool.and_false,Bool.false_and,Bool.and_self,Bool.false_eq_true,not_false_eq_true])])⟩) [] 0))
 replace hc5:=of_decide_eq_false hc5
 have hq2:DA cr cd k o=q:=by rw[hq,show j=cr.toNat by omega];rfl
 have hql2:=HS hqn hqo
 refine GC.exit (Zp (Zp (GE.hit (GE.blockN (Zt (Zr ?_))))))
 refine Zm rfl (Zd Qp rfl ?_)
 exact Za rfl (Zn (Yg (k+1,q,u) (⟨hu,by omega,hqn,hqo,by rw[← hp,show cr.toNat+1 - k=(cr.toNat - k)+1 by omega,Fy,if_pos (by omega),hq2];congr 1;omega⟩) [] 0))
 replace hc4:=of_decide_eq_false hc4
 have hfin:partF cr cd i=o:=by
   rw[← hp]
   cases hz:cr.toNat+1 - k with
   | zero=>rfl
   | succ z=>unfold Fy;rw[if_neg (by omega)]
 refine GC.exit (Zp (Zp (GE.hit (Zt (Zs (Zr ?_))))))
 refine Zm rfl (Za rfl (Zn (Zt (GC.ret ?_))))
 exact GE.body [0] 1 (Ao rfl rfl) rfl (⟨v,rfl,hv,congrArg (fun l0=>ints 3 v l0::own) ((hfin.symm:o=partF cr cd i))⟩)
end Go.Proofs.YtbmnnbglipkidaaGreatDoor
