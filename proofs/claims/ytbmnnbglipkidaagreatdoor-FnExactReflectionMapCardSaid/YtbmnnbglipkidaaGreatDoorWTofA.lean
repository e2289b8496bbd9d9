/-
  The parts of a matrix, as the second text tells them: a contract by a walk.
-/
import Derived.Test.YtbmnnbglipkidaaGreatDoorWFitA
namespace Go.Proofs.YtbmnnbglipkidaaGreatDoor
set_option maxRecDepth 100000
set_option maxHeartbeats 4000000
set_option linter.unusedVariables false
set_option linter.unusedSimpArgs false
open Go.RowKit
theorem R5 {W:World}{own:List Asn}{cr:Int}{vcd:Value}{cd:List Int}(scd:Ab vcd)(ecd:Ent own fun w=>Ints w vcd cd)(hl0:cd.length≤1073741824):Spec Tryz.prog 121 [.agg #[J (cr),vcd]] W own (fun v ow=>∃ (r0:Value),v = .tuple #[r0,.bool ((Ax cr cd).isSome)]∧Ab r0∧ow=strs 9 r0 (Vd (Ax cr cd))::own):=by
 refine Spec.enter Tryz.f121 _ Tryz.func121 rfl (n:=148) rfl rfl ?_
 refine Zs (Zr (Yt (OG.box (cs:=[J (cr),vcd]) rfl rfl rfl) ?_))
 rintro _ _ ⟨g1,rfl,rfl⟩
 refine Za rfl (Za rfl (Zn (Zt (Zs (Zs (Zr (Zd (Qf Aq) rfl ?_)))))))
 refine Zd (Ql Ak 0) rfl ?_
 refine Yt (Yc [J (cr),J (1),J (4)] Md (by exact G6)) ?_
 rintro _ _ ⟨rfl,rfl⟩
 refine Zd (OD.not rfl rfl) rfl ?_
 refine Zm rfl ?_
 rcases Bool.eq_false_or_eq_true (!(BZ cr 1 4)) with hg2 | hg2
 have hg2e:=hg2
 rw[hg2e]
 replace hg2:=Ai hg2
 iterate 9 refine Yk ?_
 refine Zd (OD.pickT rfl rfl rfl) rfl ?_
 refine Zn (Zt (GC.condT rfl ?_))
 obtain⟨hq1,hq2⟩:=E0 (Rt (M5 (.inl hg2)))
 refine Zs (Zr (Za rfl (Za rfl (Zn (Zt (GC.ret (GE.passR ?_)))))))
 refine GE.nilStrs 9 ?_
 exact GE.body [0] 1 (Pa rfl rfl rfl) rfl (⟨(.slice none 0 0),congrArg (fun a1=>(.tuple #[(.slice none 0 0),.bool (a1)]:Value)) ((hq2.symm:(false:Bool)=(Ax cr cd).isSome)),Ab.nil,congrArg (fun l0=>strs 9 (.slice none 0 0) l0::own) ((hq1.symm : []=Vd (Ax cr cd)))⟩)
 have hg2e:=hg2
 rw[hg2e]
 replace hg2:=Am hg2
 refine Yd (Qf AV) ?_
 refine Yd (Ql AH 0) ?_
 refine Yd (Qn Ac (Ent.drop 1 ecd)) ?_
 refine Yd (Qf Aq) ?_
 refine Yd (Ql Ak 0) ?_
 refine Yd (Qf Aq) ?_
 refine Yd (Ql Ak 0) ?_
 refine Yd (OD.mulI rfl rfl rfl (Uu (AX (by assumption)))) ?_
 refine Yd EK ?_
 refine Zd (OD.pickF rfl rfl rfl) rfl ?_
 refine Zn (Zt ?_)
 refine GC.cond rfl (fun hc3=>?_) (fun hc3=>?_)
 replace hc3:=AA hc3
 obtain⟨hq1,hq2⟩:=E0 (Rt (M5 (.inr hc3)))
 refine Zs (Zr (Za rfl (Za rfl (Zn (Zt (GC.ret (GE.passR ?_)))))))
 refine GE.nilStrs 9 ?_
 exact GE.body [0] 1 (Pa rfl rfl rfl) rfl (⟨(.slice none 0 0),congrArg (fun a1=>(.tuple #[(.slice none 0 0),.bool (a1)]:Value)) ((hq2.symm:(false:Bool)=(Ax cr cd).isSome)),Ab.nil,congrArg (fun l0=>strs 9 (.slice none 0 0) l0::own) ((hq1.symm : []=Vd (Ax cr cd)))⟩)
 replace hc3:=Al hc3
 have hok1:=Vl hg2 hc3
 have hcr2:=AX hg2
 have hn12:Bp.length=12:=rfl
 have hcc:cr*cr≤4*4:=Int.mul_le_mul (by omega) (by omega) (by omega) (by omega)
 refine Zk (Zt (Zs (Zs (Zr (Za rfl (Zn (Zt (GC.block ?_))))))))
 refine Yl (ι:=Nat) (fun i=>[(1,Pg g1 0),(4,J ((i:Int)))]) (fun i=>box g1 27 [J (cr),vcd]::own) (fun i=>(i≤cd.length)∧((List.range i).any (G9 cr cd)=false)) (fun i=>cd.length - i) 0 (⟨by omega,rfl⟩) [] 0 ?_
 rintro i ⟨hi,hany⟩
 refine Zs (Zs (Zr (Zm rfl (Zd (Qf AV) rfl ?_))))
 refine Zd (Ql AH 0) rfl ?_
 refine Zd (Qn Ac (Ent.drop 1 ecd)) rfl ?_
 refine Zd Bb rfl ?_
 refine Zn (Zt ?_)
 refine GC.cond rfl (fun hc4=>?_) (fun hc4=>?_)
 replace hc4:=of_decide_eq_true hc4
 have htd:=aC (n:=cr) (i:=i) (by omega) (by omega)
 have hwt:=XN (n:=cr) (i:=i) hcr2 (by omega)
 have hx:=Be (n:=cr) (i:=(i:Int).tmod cr) (j:=(i:Int).tdiv cr) ⟨by omega,by omega⟩ ⟨by omega,by omega⟩ (by omega)
 refine Zk (Zt (Zs (GC.block (Zs ?_))))
 rcases Bool.eq_false_or_eq_true (!(BZ (cd.getD (i) 0) (-3) 2)) with hg5 | hg5
 have hg5p:=hg5
 replace hg5p:=Ai hg5p
 refine Ya [(1,_),(4,_)] ?_
 refine Wp [Z0 35 (Pg g1 1),Z1 36 [(0,35)] vcd,Z0 37 (J ((i:Int))),Z1 38 [(1,36),(2,37)] (Aa vcd 1 (i)),Z1 39 [(3,38)] (J (cd.getD (i) 0)),Z1 40 [(4,39)] (.bool (BZ (cd.getD (i) 0) (-3) 2)),Z1 41 [(5,40)] (.bool true),Z1 42 [(6,41)] (.bool true),Z1 43 [(7,42)] undef,Z1 44 [(7,42),(8,43)] undef,Z1 45 [(7,42)] undef,Z1 46 [(7,42),(9,44),(10,45)] undef,Z1 47 [(7,42),(11,46)] undef,Z1 48 [(7,42),(12,47)] undef,Z1 49 [(7,42),(13,48)] undef,Z1 50 [(14,49)] undef,Z1 51 [(14,49),(15,50)] undef,Z1 52 [(14,49)] undef,Z1 53 [(14,49)] undef,Z1 54 [(14,49),(18,53)] undef,Z1 55 [(14,49),(17,52),(19,54)] undef,Z1 56 [(14,49)] undef,Z1 57 [(14,49),(21,56)] undef,Z1 58 [(14,49),(20,55),(22,57)] undef,Z1 59 [(14,49)] undef,Z1 60 [(14,49)] undef,Z1 61 [(14,49),(25,60)] undef,Z1 62 [(14,49),(24,59),(26,61)] undef,Z1 63 [(14,49),(23,58),(27,62)] undef,Z1 64 [(14,49),(16,51),(28,63)] undef,Z1 65 [(14,49),(29,64)] undef,Z1 66 [(14,49),(30,65)] undef,Z1 67 [(7,42),(14,49),(31,66)] undef,Z1 68 [(7,42),(32,67)] (.bool true)] (Zc (fun _ _ _=>Zq (Qf AV) rfl) (Zc (fun _ _ _=>Zq (Ql AH 0) rfl) (Yv (Zc (fun _ _ _=>Zq (Qi Ac (Ent.drop 1 ecd.app)) rfl) (Zc (fun _ _ _=>Zq (Qv Ak (Ent.drop 1 ecd.app)) rfl) (Zc (fun _ _ _=>Zq (Yc [J (cd.getD (i) 0),J (-3),J (2)] Md (by exact G6)) rfl) (Zc (fun _ _ _=>AR.plain (OG.imp (OD.not rfl rfl) (by rintro _ _ ⟨rfl,rfl⟩;exact⟨[],congrArg Value.bool hg5,trivial,rfl⟩)) rfl) (Yv (Yo (Yo (Yo (Yo (Yo (Yo (Yo (Zc (fun _ _ _=>AR.offU ⟨[],rfl,trivial,rfl⟩ rfl rfl rfl) (Zc (fun _ _ _=>AR.offU ⟨[],rfl,trivial,rfl⟩ rfl rfl rfl) (Zc (fun _ _ _=>AR.offU ⟨[],rfl,trivial,rfl⟩ rfl rfl rfl) (Zc (fun _ _ _=>AR.offU ⟨[],rfl,trivial,rfl⟩ rfl rfl rfl) (Zc (fun _ _ _=>AR.offU ⟨[],rfl,trivial,rfl⟩ rfl rfl rfl) (Zc (fun _ _ _=>AR.offU ⟨[],rfl,trivial,rfl⟩ rfl rfl rfl) (Zc (fun _ _ _=>AR.offU ⟨[],rfl,trivial,rfl⟩ rfl rfl rfl) (Zc (fun _ _ _=>AR.offU ⟨[],rfl,trivial,rfl⟩ rfl rfl rfl) (Zc (fun _ _ _=>AR.offU ⟨[],rfl,trivial,rfl⟩ rfl rfl rfl) (Zc (fun _ _ _=>AR.offU ⟨[],rfl,trivial,rfl⟩ rfl rfl rfl) (Zc (fun _ _ _=>AR.offU ⟨[],rfl,trivial,rfl⟩ rfl rfl rfl) (Zc (fun _ _ _=>AR.offU ⟨[],rfl,trivial,rfl⟩ rfl rfl rfl) (Zc (fun _ _ _=>AR.offU ⟨[],rfl,trivial,rfl⟩ rfl rfl rfl) (Zc (fun _ _ _=>AR.offU ⟨[],rfl,trivial,rfl⟩ rfl rfl rfl) (Zc (fun _ _ _=>AR.offU ⟨[],rfl,trivial,rfl⟩ rfl rfl rfl) (Zc (fun _ _ _=>AR.offU ⟨[],rfl,trivial,rfl⟩ rfl rfl rfl) (Zc (fun _ _ _=>AR.offU ⟨[],rfl,trivial,rfl⟩ rfl rfl rfl) (Yo (Zc (fun _ _ _=>Zq (OD.pickT rfl rfl rfl) rfl) As.nil)))))))))))))))))))))))))))))))))) ?_
 intro θ _
 refine Yb [(1,_),(4,_),(68,.bool true)] (_::_) ?_
 show G _ _ _ [] _ _ _ _
 refine Zn (Zt (GC.condT rfl ?_))
 have hbad:G9 cr cd i=true:=by simp only[G9,atI,hg2e,hg5,Bool.not_true,Bool.not_false,Bool.and_true,Bool.true_and,Bool.and_false,Bool.false_and,Bool.and_self,Bool.or_false,Bool.or_true,Bool.false_or,Bool.true_or]
 obtain⟨hq1,hq2⟩:=E0 (Rf hok1 (by omega) hbad)
 refine Zs (Zr (Za rfl (Za rfl (Zn (Zt (GC.ret (GE.blockR (GE.passR (GE.passR (GE.blockR (GE.passR ?_)))))))))))
 refine GE.nilStrs 9 ?_
 exact GE.body [0] 1 (Pa rfl rfl rfl) rfl (⟨(.slice none 0 0),congrArg (fun a1=>(.tuple #[(.slice none 0 0),.bool (a1)]:Value)) ((hq2.symm:(false:Bool)=(Ax cr cd).isSome)),Ab.nil,congrArg (fun l0=>strs 9 (.slice none 0 0) l0::own) ((hq1.symm : []=Vd (Ax cr cd)))⟩)
 have hg5p:=hg5
 replace hg5p:=Am hg5p
 rcases Bool.eq_false_or_eq_true ((cd.getD (i) 0) != 0) with hg6 | hg6
 have hg6p:=hg6
 replace hg6p:=AA hg6p
 refine Ya [(1,_),(4,_)] ?_
 refine Wp [Z0 35 (Pg g1 1),Z1 36 [(0,35)] vcd,Z0 37 (J ((i:Int))),Z1 38 [(1,36),(2,37)] (Aa vcd 1 (i)),Z1 39 [(3,38)] (J (cd.getD (i) 0)),Z1 40 [(4,39)] (.bool (BZ (cd.getD (i) 0) (-3) 2)),Z1 41 [(5,40)] (.bool false),Z1 42 [(6,41)] (.bool false),Z1 43 [(7,42)] (Pg g1 1),Z1 44 [(7,42),(8,43)] vcd,Z1 45 [(7,42)] (J ((i:Int))),Z1 46 [(7,42),(9,44),(10,45)] (Aa vcd 1 (i)),Z1 47 [(7,42),(11,46)] (J (cd.getD (i) 0)),Z1 48 [(7,42),(12,47)] (.bool true),Z1 49 [(7,42),(13,48)] (.bool true),Z1 50 [(14,49)] (Pg g1 1),Z1 51 [(14,49),(15,50)] vcd,Z1 52 [(14,49)] (J ((i:Int))),Z1 53 [(14,49)] (Pg g1 0),Z1 54 [(14,49),(18,53)] (J (cr)),Z1 55 [(14,49),(17,52),(19,54)] (J (((i:Int)).tmod cr)),Z1 56 [(14,49)] (Pg g1 0),Z1 57 [(14,49),(21,56)] (J (cr)),Z1 58 [(14,49),(20,55),(22,57)] (J ((((i:Int)).tmod cr)*cr)),Z1 59 [(14,49)] (J ((i:Int))),Z1 60 [(14,49)] (Pg g1 0),Z1 61 [(14,49),(25,60)] (J (cr)),Z1 62 [(14,49),(24,59),(26,61)] (J ((i:Int).tdiv cr)),Z1 63 [(14,49),(23,58),(27,62)] (J (((((i:Int)).tmod cr)*cr)+((i:Int).tdiv cr))),Z1 64 [(14,49),(16,51),(28,63)] (Aa vcd 1 ((((((i:Int)).tmod cr)*cr)+((i:Int).tdiv cr):Int).toNat)),Z1 65 [(14,49),(29,64)] (J (cd.getD ((((((i:Int)).tmod cr)*cr)+((i:Int).tdiv cr):Int).toNat) 0)),Z1 66 [(14,49),(30,65)] (.bool ((cd.getD ((((((i:Int)).tmod cr)*cr)+((i:Int).tdiv cr):Int).toNat) 0)==0)),Z1 67 [(7,42),(14,49),(31,66)] (.bool ((cd.getD ((((((i:Int)).tmod cr)*cr)+((i:Int).tdiv cr):Int).toNat) 0)==0)),Z1 68 [(7,42),(32,67)] (.bool ((cd.getD ((((((i:Int)).tmod cr)*cr)+((i:Int).tdiv cr):Int).toNat) 0)==0))] (Zc (fun _ _ _=>Zq (Qf AV) rfl) (Zc (fun _ _ _=>Zq (Ql AH 0) rfl) (Yv (Zc (fun _ _ _=>Zq (Qi Ac (Ent.drop 1 ecd.app)) rfl) (Zc (fun _ _ _=>Zq (Qv Ak (Ent.drop 1 ecd.app)) rfl) (Zc (fun _ _ _=>Zq (Yc [J (cd.getD (i) 0),J (-3),J (2)] Md (by exact G6)) rfl) (Zc (fun _ _ _=>AR.plain (OG.imp (OD.not rfl rfl) (by rintro _ _ ⟨rfl,rfl⟩;exact⟨[],congrArg Value.bool hg5,trivial,rfl⟩)) rfl) (Yv (Zc (fun _ _ _=>Zo (Qf AV) rfl rfl rfl rfl trivial rfl) (Zc (fun _ _ _=>Zo (Ql AH 0) rfl rfl rfl rfl trivial rfl) (Yw (Zc (fun _ _ _=>Zo (Qi Ac (Ent.drop 1 ecd.app)) rfl rfl rfl rfl trivial rfl) (Zc (fun _ _ _=>Zo (Qv Ak (Ent.drop 1 ecd.app)) rfl rfl rfl rfl trivial rfl) (Zc (fun _ _ _=>AR.on (OG.imp EK (by rintro _ _ ⟨rfl,rfl⟩;exact⟨[],congrArg Value.bool hg6,trivial,rfl⟩)) rfl rfl rfl) (Yw (Zc (fun _ _ _=>Zo (Qf AV) rfl rfl rfl rfl trivial rfl) (Zc (fun _ _ _=>Zo (Ql AH 0) rfl rfl rfl rfl trivial rfl) (Yw (Zc (fun _ _ _=>Zo (Qf Aq) rfl rfl rfl rfl trivial rfl) (Zc (fun _ _ _=>Zo (Ql Ak 0) rfl rfl rfl rfl trivial rfl) (Zc (fun _ _ _=>Zo (OD.rem rfl rfl rfl (by omega)) rfl rfl rfl rfl trivial rfl) (Zc (fun _ _ _=>Zo (Qf Aq) rfl rfl rfl rfl trivial rfl) (Zc (fun _ _ _=>Zo (Ql Ak 0) rfl rfl rfl rfl trivial rfl) (Zc (fun _ _ _=>Zo Qm rfl rfl rfl rfl trivial rfl) (Yw (Zc (fun _ _ _=>Zo (Qf Aq) rfl rfl rfl rfl trivial rfl) (Zc (fun _ _ _=>Zo (Ql Ak 0) rfl rfl rfl rfl trivial rfl) (Zc (fun _ _ _=>Zo (OD.eqv (OD.quo rfl rfl rfl (by omega)) (congrArg (Value.int .i64) ((hwt):(IntKind.i64.wrap (((i:Int)).tdiv cr):Int)=((i:Int).tdiv cr)))) rfl rfl rfl rfl trivial rfl) (Zc (fun _ _ _=>Zo Qp rfl rfl rfl rfl trivial rfl) (Zc (fun _ _ _=>Zo (Qi Ac (Ent.drop 1 ecd.app)) rfl rfl rfl rfl trivial rfl) (Zc (fun _ _ _=>Zo (Qv Ak (Ent.drop 1 ecd.app)) rfl rfl rfl rfl trivial rfl) (Zc (fun _ _ _=>Zo FJ rfl rfl rfl rfl trivial rfl) (Zc (fun _ _ _=>Zo (OD.pickT rfl rfl rfl) rfl rfl rfl rfl trivial rfl) (Zc (fun _ _ _=>Zq (OD.pickF rfl rfl rfl) rfl) As.nil)))))))))))))))))))))))))))))))))) ?_
 intro θ _
 refine Yb [(1,_),(4,_),(68,.bool ((cd.getD ((((((i:Int)).tmod cr)*cr)+((i:Int).tdiv cr):Int).toNat) 0)==0))] (_::_) ?_
 show G _ _ _ [] _ _ _ _
 refine Zn (Zt ?_)
 refine GC.cond rfl (fun hc7=>?_) (fun hc7=>?_)
 replace hc7:=eq_of_beq hc7
 have hc7b:(_==_)=true:=beq_iff_eq.2 hc7
 have hbad:G9 cr cd i=true:=by simp only[G9,atI,hg2e,hg5,hg6,hc7b,Bool.not_true,Bool.not_false,Bool.and_true,Bool.true_and,Bool.and_false,Bool.false_and,Bool.and_self,Bool.or_false,Bool.or_true,Bool.false_or,Bool.true_or]
 obtain⟨hq1,hq2⟩:=E0 (Rf hok1 (by omega) hbad)
 refine Zs (Zr (Za rfl (Za rfl (Zn (Zt (GC.ret (GE.blockR (GE.passR (GE.passR (GE.blockR (GE.passR ?_)))))))))))
 refine GE.nilStrs 9 ?_
 exact GE.body [0] 1 (Pa rfl rfl rfl) rfl (⟨(.slice none 0 0),congrArg (fun a1=>(.tuple #[(.slice none 0 0),.bool (a1)]:Value)) ((hq2.symm:(false:Bool)=(Ax cr cd).isSome)),Ab.nil,congrArg (fun l0=>strs 9 (.slice none 0 0) l0::own) ((hq1.symm : []=Vd (Ax cr cd)))⟩)
 replace hc7:=ne_of_beq_false hc7
 have hc7b:=HD hc7
 refine Zk (GE.blockN (Zt (Zr ?_)))
 refine Zm rfl (Zd Qp rfl ?_)
 exact Za rfl (Zn (Yg (i+1) (⟨by omega,any_succ hany (by simp only[G9,atI,hg2e,hg5,hg6,hc7b,Bool.not_true,Bool.not_false,Bool.and_true,Bool.true_and,Bool.and_false,Bool.false_and,Bool.and_self,Bool.or_false,Bool.or_true,Bool.false_or,Bool.true_or])⟩) [] 0))
 have hg6p:=hg6
 replace hg6p:=Al hg6p
 refine Ya [(1,_),(4,_)] ?_
 refine Wp [Z0 35 (Pg g1 1),Z1 36 [(0,35)] vcd,Z0 37 (J ((i:Int))),Z1 38 [(1,36),(2,37)] (Aa vcd 1 (i)),Z1 39 [(3,38)] (J (cd.getD (i) 0)),Z1 40 [(4,39)] (.bool (BZ (cd.getD (i) 0) (-3) 2)),Z1 41 [(5,40)] (.bool false),Z1 42 [(6,41)] (.bool false),Z1 43 [(7,42)] (Pg g1 1),Z1 44 [(7,42),(8,43)] vcd,Z1 45 [(7,42)] (J ((i:Int))),Z1 46 [(7,42),(9,44),(10,45)] (Aa vcd 1 (i)),Z1 47 [(7,42),(11,46)] (J (cd.getD (i) 0)),Z1 48 [(7,42),(12,47)] (.bool false),Z1 49 [(7,42),(13,48)] (.bool false),Z1 50 [(14,49)] undef,Z1 51 [(14,49),(15,50)] undef,Z1 52 [(14,49)] undef,Z1 53 [(14,49)] undef,Z1 54 [(14,49),(18,53)] undef,Z1 55 [(14,49),(17,52),(19,54)] undef,Z1 56 [(14,49)] undef,Z1 57 [(14,49),(21,56)] undef,Z1 58 [(14,49),(20,55),(22,57)] undef,Z1 59 [(14,49)] undef,Z1 60 [(14,49)] undef,Z1 61 [(14,49),(25,60)] undef,Z1 62 [(14,49),(24,59),(26,61)] undef,Z1 63 [(14,49),(23,58),(27,62)] undef,Z1 64 [(14,49),(16,51),(28,63)] undef,Z1 65 [(14,49),(29,64)] undef,Z1 66 [(14,49),(30,65)] undef,Z1 67 [(7,42),(14,49),(31,66)] (.bool false),Z1 68 [(7,42),(32,67)] (.bool false)] (Zc (fun _ _ _=>Zq (Qf AV) rfl) (Zc (fun _ _ _=>Zq (Ql AH 0) rfl) (Yv (Zc (fun _ _ _=>Zq (Qi Ac (Ent.drop 1 ecd.app)) rfl) (Zc (fun _ _ _=>Zq (Qv Ak (Ent.drop 1 ecd.app)) rfl) (Zc (fun _ _ _=>Zq (Yc [J (cd.getD (i) 0),J (-3),J (2)] Md (by exact G6)) rfl) (Zc (fun _ _ _=>AR.plain (OG.imp (OD.not rfl rfl) (by rintro _ _ ⟨rfl,rfl⟩;exact⟨[],congrArg Value.bool hg5,trivial,rfl⟩)) rfl) (Yv (Zc (fun _ _ _=>Zo (Qf AV) rfl rfl rfl rfl trivial rfl) (Zc (fun _ _ _=>Zo (Ql AH 0) rfl rfl rfl rfl trivial rfl) (Yw (Zc (fun _ _ _=>Zo (Qi Ac (Ent.drop 1 ecd.app)) rfl rfl rfl rfl trivial rfl) (Zc (fun _ _ _=>Zo (Qv Ak (Ent.drop 1 ecd.app)) rfl rfl rfl rfl trivial rfl) (Zc (fun _ _ _=>AR.on (OG.imp EK (by rintro _ _ ⟨rfl,rfl⟩;exact⟨[],congrArg Value.bool hg6,trivial,rfl⟩)) rfl rfl rfl) (Yw (Yo (Yo (Yo (Yo (Yo (Yo (Yo (Yo (Yo (Yo (Yo (Yo (Yo (Yo (Yo (Yo (Yo (Zc (fun _ _ _=>Zo (OD.pickF rfl rfl rfl) rfl rfl rfl rfl trivial rfl) (Zc (fun _ _ _=>Zq (OD.pickF rfl rfl rfl) rfl) As.nil)))))))))))))))))))))))))))))))))) ?_
 intro θ _
 refine Yb [(1,_),(4,_),(68,.bool false)] (_::_) ?_
 show G _ _ _ [] _ _ _ _
 refine Zn (Zt (GC.condF rfl (Zk (GE.blockN (Zt (Zr ?_))))))
 refine Zm rfl (Zd Qp rfl ?_)
 exact Za rfl (Zn (Yg (i+1) (⟨by omega,any_succ hany (by simp only[G9,atI,hg2e,hg5,hg6,Bool.not_true,Bool.not_false,Bool.and_true,Bool.true_and,Bool.and_false,Bool.false_and,Bool.and_self,Bool.or_false,Bool.or_true,Bool.false_or,Bool.true_or])⟩) [] 0))
 replace hc4:=of_decide_eq_false hc4
 have hte:=b8 hok1 (by rw[show cd.length=i by omega];exact hany)
 refine GC.exit (Zp (Zp (GE.hit (Zt (Zs (Zr ?_))))))
 refine Yt (OG.buildStrs (os:=[]) (xs:=[]) rfl Bk rfl rfl rfl rfl rfl) ?_
 rintro v8 _ ⟨hs9,rfl⟩
 refine Za rfl (Zn (Zt (Zs (Zr (Yt (OG.buildInts (xs:=[]) (is:=[]) rfl Ac rfl rfl rfl rfl rfl) ?_)))))
 rintro v10 _ ⟨hs11,rfl⟩
 refine Za rfl (Zn (Zt (Zs (Zs (Zr (Za rfl (Zn (Zt (GC.block ?_)))))))))
 refine Yl (ι:=Nat × List Nat × List Int × List ByteArray × Value × Value) (fun⟨i,ks,dn,xs,v,u⟩=>[(1,Pg g1 0),(5,v),(6,u),(7,J ((i:Int)))]) (fun⟨i,ks,dn,xs,v,u⟩=>ints 3 u dn::strs 9 v xs::box g1 27 [J (cr),vcd]::own) (fun⟨i,ks,dn,xs,v,u⟩=>((i:Int)≤cr)∧(Ab v)∧(Ab u)∧(BW cr cd i=some (ks,dn))∧(xs=ks.map Ap)∧(∀ k∈ks,k<12)∧(ks.length≤i)∧(dn.length≤4*i)) (fun⟨i,ks,dn,xs,v,u⟩=>cr.toNat - i) (0,[],[],[],v8,v10) (⟨by omega,hs9,hs11,rfl,rfl,by simp,by simp,by simp⟩) [] 0 ?_
 rintro⟨i,ks,dn,xs,v,u⟩ ⟨hi,hv,hu,hp,hxs,hk12,hkl,hdl⟩
 refine Zs (Zs (Zr (Zm rfl (Zd (Qf Aq) rfl ?_))))
 refine Zd (Ql Ak 2) rfl ?_
 refine Zd Bb rfl ?_
 refine Zn (Zt ?_)
 refine GC.cond rfl (fun hc12=>?_) (fun hc12=>?_)
 replace hc12:=of_decide_eq_true hc12
 have hpl:=LA (n:=cr) (d:=cd) (i:=(i:Int)) ⟨by omega,by omega⟩
 have hpg:=(Es (n:=cr) (d:=cd) (i:=(i:Int)) ⟨by omega,by omega⟩).2
 refine Zk (Zt (Zs (GC.block (Zs (Zs (Zr ?_))))))
 refine Zm rfl (Zm rfl (Yt (Yc [u,J ((i:Int))] O9 (by exact(KE hu (Ei 0) (by omega)))) ?_))
 rintro _ _ ⟨rfl,rfl⟩
 refine Zd (OD.eqv (OD.geq rfl rfl rfl) (congrArg (Value.bool) ((posI_ge _ _):_=(dn.contains (i:Int))))) rfl ?_
 refine Zn (Zt ?_)
 refine GC.cond rfl (fun hc13=>?_) (fun hc13=>?_)
 have hdc:=hc13
 refine GC.exit (Zp (GE.hit (Zt (Zr ?_))))
 refine Zm rfl (Zd Qp rfl ?_)
 exact Za rfl (Zn (Yg (i+1,ks,dn,xs,v,u) (⟨by omega,hv,hu,Oi hp hdc,hxs,hk12,by omega,by omega⟩) [] 0))
 have hdc:=hc13
 refine Zk (Zt (Zs (Zr (Zd (Qa An 2 [_,_]) rfl ?_))))
 refine Zm rfl (Yt (Yc [.agg #[J (cr),vcd],J ((i:Int))] V3 (by exact(NX scd (Ent.drop 3 ecd) (hcr2) (by omega) (⟨by omega,by omega⟩)))) ?_)
 rintro v14 _ ⟨_,rfl,hs15,rfl⟩
 refine Za rfl (Zn (Zt (Zs (Zr (Zm rfl (Zm rfl (Yt (OG.appendInts 1 rfl rfl Ac rfl rfl rfl (Ei 0) (by first | omega | (simp;omega))) ?_)))))))
 rintro v16 _ ⟨hs17,rfl⟩
 refine Za rfl (Zn (Zt (Zs (Zr (Za rfl (Zn (Zt (Zs (Zr (Yt (Yc [] aO (by exact Sq)) ?_))))))))))
 rintro v18 _ ⟨_,rfl,hs19,rfl⟩
 refine Za rfl (Zn (Zt (Zs (Zs (Zr (Za rfl (Zn (Zt (GC.block ?_)))))))))
 refine Yl (ι:=Nat × Option Nat) (fun⟨m,fo⟩=>[(1,Pg g1 0),(5,v),(7,J ((i:Int))),(8,v14),(6,v16),(10,v18),(9,.string (Cl fo)),(11,J ((m:Int)))]) (fun⟨m,fo⟩=>strs 9 v18 Bp::ints 3 v14 (partF cr cd (i:Int))::ints 3 v16 (dn++(partF cr cd (i:Int)))::strs 9 v xs::box g1 27 [J (cr),vcd]::own) (fun⟨m,fo⟩=>(m≤12)∧(fo=C5 cr cd (partF cr cd i) m)) (fun⟨m,fo⟩=>12 - m) (0,none) (⟨by omega,rfl⟩) [] 0 ?_
 rintro⟨m,fo⟩ ⟨hm,hfo⟩
 refine Zs (Zs (Zr (Zm rfl (Zm rfl (Zd (Qn Bk (Ent.strs (i:=0) rfl)) rfl ?_)))))
 refine Zd Bb rfl ?_
 refine Zn (Zt ?_)
 refine GC.cond rfl (fun hc20=>?_) (fun hc20=>?_)
 replace hc20:=of_decide_eq_true hc20
 have hn1:=Ga m (by omega)
 have hol:=Nx m (by omega)
 have hol2:((oneD m).length:Int)=(rk m:Int)*(rk m:Int):=by rw[hol];exact Int.natCast_mul _ _
 have hsz2:(Bp.getD m ⟨#[]⟩).size=2:=Rk m (by omega)
 refine Zk (Zt (Zs (GC.block (Zs ?_))))
 rcases Bool.eq_false_or_eq_true ((rk m:Int)==((partF cr cd (i:Int)).length:Nat)) with hg21 | hg21
 have hg21p:=hg21
 replace hg21p:=eq_of_beq hg21p
 refine Ya [(1,_),(5,_),(7,_),(8,_),(6,_),(10,_),(9,_),(11,_)] ?_
 refine Wp [Z0 94 v18,Z0 95 (J ((m:Int))),Z1 96 [(0,94),(1,95)] (Aa v18 1 (m)),Z1 97 [(2,96)] (.string (Bp.getD (m) ⟨#[]⟩)),Z1 98 [(3,97)] (.int .u8 (CW (Bp.getD (m) ⟨#[]⟩) 1)),Z1 99 [(4,98)] (.int .u8 ((rk m:Int))),Z1 100 [(5,99)] (J ((rk m:Int))),Z0 101 v14,Z1 102 [(7,101)] (J (((partF cr cd (i:Int)).length:Nat))),Z1 103 [(6,100),(8,102)] (.bool true),Z1 104 [(9,103)] (.bool true),Z1 105 [(10,104)] (.agg #[J (cr),vcd]),Z1 106 [(10,104)] v14,Z1 107 [(10,104)] v18,Z1 108 [(10,104)] (J ((m:Int))),Z1 109 [(10,104),(13,107),(14,108)] (Aa v18 1 (m)),Z1 110 [(10,104),(15,109)] (.string (Bp.getD (m) ⟨#[]⟩)),⟨111,[(10,104),(16,110)],[],[],[17],fun ds => .agg #[J ((rk m:Int)),((ds.getD 0 []).getD 0 undef)],fun ds=>Ab ((ds.getD 0 []).getD 0 undef),fun ds=>[ints 3 ((ds.getD 0 []).getD 0 undef) (oneD m)]⟩,⟨112,[(10,104),(11,105),(12,106),(17,111)],[17],[],[17],fun _ => .bool (CH cr cd (partF cr cd (i:Int)) (rk m:Int) (oneD m) 5 []),fun _=>True,fun _=>[]⟩,⟨113,[(10,104),(18,112)],[17],[],[17],fun _ => .bool (CH cr cd (partF cr cd (i:Int)) (rk m:Int) (oneD m) 5 []),fun _=>True,fun _=>[]⟩] (Yv (Yv (Zc (fun _ _ _=>Zq (Qi Bk (Ent.strs (i:=0) rfl)) rfl) (Zc (fun _ _ _=>Zq (OD.loadStr rfl af rfl (Ent.strs (i:=0) rfl) (by omega)) rfl) (Zc (fun _ _ _=>Zq (OD.indexStr rfl Z9 rfl rfl (by omega)) rfl) (Zc (fun _ _ _=>Zq (OD.eqv (OD.sub rfl rfl rfl) (congrArg (Value.int .u8) ((NK m (by omega)):(IntKind.u8.wrap ((CW (Bp.getD (m) ⟨#[]⟩) 1) - 48):Int)=((rk m:Int))))) rfl) (Zc (fun _ _ _=>Zq (OD.convI rfl Nz rfl (by omega)) rfl) (Yv (Zc (fun _ _ _=>Zq (Qn Ac (Ei 1)) rfl) (Zc (fun _ _ _=>AR.plain (OG.imp FJ (by rintro _ _ ⟨rfl,rfl⟩;exact⟨[],congrArg Value.bool hg21,trivial,rfl⟩)) rfl) (Yv (Zc (fun _ _ _=>Zo (Qa An 4 [_,_]) rfl rfl rfl rfl trivial rfl) (Yw (Yw (Yw (Zc (fun _ _ _=>Zo (Qi Bk (Ent.strs (i:=0) rfl)) rfl rfl rfl rfl trivial rfl) (Zc (fun _ _ _=>Zo (OD.loadStr rfl af rfl (Ent.strs (i:=0) rfl) (by omega)) rfl rfl rfl rfl trivial rfl) (Zc (fun _ _ _=>AR.on (OG.imp (Yc [.string (Bp.getD (m) ⟨#[]⟩)] b7 (by exact(XK (k:=m) (by omega) (rfl)))) (by rintro _ _ ⟨v22,rfl,hs23,rfl⟩;exact⟨[v22],rfl,hs23,rfl⟩)) rfl rfl rfl) (Zc (fun θ _ ⟨_,_,_,h17d,_⟩=>Zo (Yc [.agg #[J (cr),vcd],v14,.slice none 0 0,.agg #[J ((rk m:Int)),((θ 17).getD 0 undef)]] Vy (by exact(T6 5 scd (Ent.drop 6 ecd.app) hs15 (Ei 2) Ab.nil Ent.nilInts h17d (Ei 0) (hcr2) (by omega) (hpg) (by simp) (PL (by assumption)) (hol2) (by omega) (by simp) (by simp;omega)))) rfl rfl rfl rfl trivial rfl) (Zc (fun _ _ _=>Zq (OD.pickT rfl rfl rfl) rfl) As.nil)))))))))))))))))))) ?_
 intro θ hall
 obtain⟨_,_,_,_,_,_,_,_,_,_,_,_,_,_,_,_,_,h17a,_,_,_⟩:=hall
 refine Yb [(1,_),(5,_),(7,_),(8,_),(6,_),(10,_),(9,_),(11,_),(113,.bool (CH cr cd (partF cr cd (i:Int)) (rk m:Int) (oneD m) 5 []))] (ints 3 ((θ 17).getD 0 undef) (oneD m)::_::_) ?_
 have hs24:Ab ((θ 17).getD 0 undef):=h17a
 clear h17a
 generalize ((θ 17).getD 0 undef)=v25 at *
 show G _ _ _ [] _ _ _ _
 refine Zn (Zt ?_)
 refine GC.cond rfl (fun hc26=>?_) (fun hc26=>?_)
 refine Zr (Zm rfl (Zm rfl (Zd (Qi Bk (Ent.strs (i:=1) rfl)) rfl ?_)))
 refine Zd (OD.loadStr rfl af rfl (Ent.strs (i:=1) rfl) (by omega)) rfl ?_
 refine Za rfl (Zn (GE.blockN (Zt (Zr ?_))))
 refine Zm rfl (Zd Qp rfl ?_)
 exact Za rfl (Zn (Yg (m+1,some m) (⟨by omega,by rw[DP,if_pos (by rw[show (rk m==(partF cr cd i).length)=true from beq_iff_eq.2 (by omega),hc26];simp)]⟩) [1,1,1,1,1] 1))
 refine Zk (GE.blockN (Zt (Zr ?_)))
 refine Zm rfl (Zd Qp rfl ?_)
 exact Za rfl (Zn (Yg (m+1,fo) (⟨by omega,by rw[DP,if_neg (by rw[show (rk m==(partF cr cd i).length)=true from beq_iff_eq.2 (by omega),hc26];simp)];exact hfo⟩) [1,1,1,1,1] 1))
 have hg21p:=hg21
 replace hg21p:=ne_of_beq_false hg21p
 refine Ya [(1,_),(5,_),(7,_),(8,_),(6,_),(10,_),(9,_),(11,_)] ?_
 refine Wp [Z0 94 v18,Z0 95 (J ((m:Int))),Z1 96 [(0,94),(1,95)] (Aa v18 1 (m)),Z1 97 [(2,96)] (.string (Bp.getD (m) ⟨#[]⟩)),Z1 98 [(3,97)] (.int .u8 (CW (Bp.getD (m) ⟨#[]⟩) 1)),Z1 99 [(4,98)] (.int .u8 ((rk m:Int))),Z1 100 [(5,99)] (J ((rk m:Int))),Z0 101 v14,Z1 102 [(7,101)] (J (((partF cr cd (i:Int)).length:Nat))),Z1 103 [(6,100),(8,102)] (.bool false),Z1 104 [(9,103)] (.bool false),Z1 105 [(10,104)] undef,Z1 106 [(10,104)] undef,Z1 107 [(10,104)] undef,Z1 108 [(10,104)] undef,Z1 109 [(10,104),(13,107),(14,108)] undef,Z1 110 [(10,104),(15,109)] undef,Z1 111 [(10,104),(16,110)] undef,Z1 112 [(10,104),(11,105),(12,106),(17,111)] undef,Z1 113 [(10,104),(18,112)] (.bool false)] (Yv (Yv (Zc (fun _ _ _=>Zq (Qi Bk (Ent.strs (i:=0) rfl)) rfl) (Zc (fun _ _ _=>Zq (OD.loadStr rfl af rfl (Ent.strs (i:=0) rfl) (by omega)) rfl) (Zc (fun _ _ _=>Zq (OD.indexStr rfl Z9 rfl rfl (by omega)) rfl) (Zc (fun _ _ _=>Zq (OD.eqv (OD.sub rfl rfl rfl) (congrArg (Value.int .u8) ((NK m (by omega)):(IntKind.u8.wrap ((CW (Bp.getD (m) ⟨#[]⟩) 1) - 48):Int)=((rk m:Int))))) rfl) (Zc (fun _ _ _=>Zq (OD.convI rfl Nz rfl (by omega)) rfl) (Yv (Zc (fun _ _ _=>Zq (Qn Ac (Ei 1)) rfl) (Zc (fun _ _ _=>AR.plain (OG.imp FJ (by rintro _ _ ⟨rfl,rfl⟩;exact⟨[],congrArg Value.bool hg21,trivial,rfl⟩)) rfl) (Yv (Yo (Yo (Yo (Yo (Yo (Yo (Yo (Yo (Zc (fun _ _ _=>Zq (OD.pickF rfl rfl rfl) rfl) As.nil)))))))))))))))))))) ?_
 intro θ _
 refine Yb [(1,_),(5,_),(7,_),(8,_),(6,_),(10,_),(9,_),(11,_),(113,.bool false)] (_::_) ?_
 show G _ _ _ [] _ _ _ _
 refine Zn (Zt (GC.condF rfl (Zk (GE.blockN (Zt (Zr ?_))))))
 refine Zm rfl (Zd Qp rfl ?_)
 exact Za rfl (Zn (Yg (m+1,fo) (⟨by omega,by rw[DP,if_neg (by rw[show (rk m==(partF cr cd i).length)=false from beq_eq_false_iff_ne.2 (by have hh:=ne_of_beq_false hg21;omega)];simp)];exact hfo⟩) [] 0))
 replace hc20:=of_decide_eq_false hc20
 have hf12:fo=C5 cr cd (partF cr cd i) 12:=by rw[hfo,show m=12 by omega]
 refine GC.exit (Zp (Zp (GE.hit (Zt (Zs (Zs (Zr ?_)))))))
 refine Zm rfl (Zd (OD.eqv (OD.strEql rfl rfl rfl) (congrArg (Value.bool) ((Om fun k hk=>GM (hf12.symm.trans hk)):_=(fo.isNone)))) rfl ?_)
 refine Zn (Zt ?_)
 refine GC.cond rfl (fun hc27=>?_) (fun hc27=>?_)
 have hnn:=Hg (PK hp hdc (hf12.symm.trans (by simpa using hc27)))
 obtain⟨hq1,hq2⟩:=E0 (hte.trans (by have:=hnn (cr.toNat - (i+1));rw[show i+1+(cr.toNat - (i+1))=cr.toNat by omega] at this;rw[this];rfl))
 refine Zs (Zr (Za rfl (Za rfl (Zn (Zt (GC.ret (GE.passR (GE.blockR (GE.passR (GE.passR (GE.blockR (GE.passR ?_))))))))))))
 refine GE.nilStrs 9 ?_
 exact GE.body [0] 5 (Pa rfl rfl rfl) rfl (⟨(.slice none 0 0),congrArg (fun a1=>(.tuple #[(.slice none 0 0),.bool (a1)]:Value)) ((hq2.symm:(false:Bool)=(Ax cr cd).isSome)),Ab.nil,congrArg (fun l0=>strs 9 (.slice none 0 0) l0::own) ((hq1.symm : []=Vd (Ax cr cd)))⟩)
 obtain⟨k,hok⟩:=PZ hc27
 have hfk:=hf12.symm.trans hok
 have hkl12:=GM hfk
 have hxl:xs.length=ks.length:=by rw[hxs,List.length_map]
 refine Zk (Zt (Zs (Zr (Zm rfl (Zd (Qn Bk (Ent.strs (i:=3) rfl)) rfl ?_)))))
 refine Za rfl (Zn (Zt (Zs (GC.block ?_))))
 refine GC.loop (ι:=Nat) (fun a=>[(1,Pg g1 0),(5,v),(7,J ((i:Int))),(6,v16),(9,.string (Cl fo)),(12,J ((a:Int)))]) (fun a=>strs 9 v18 Bp::ints 3 v14 (partF cr cd (i:Int))::ints 3 v16 (dn++(partF cr cd (i:Int)))::strs 9 v xs::box g1 27 [J (cr),vcd]::own) (fun a=>(a≤ks.length)∧(EA ks k a=EA ks k ks.length)) (fun a=>a) ks.length (⟨Nat.le_refl _,rfl⟩) ⟨rfl,rfl,rfl,rfl,rfl,int_eq (by rw[hxs];simp),trivial⟩ [] 0 rfl ?_
 rintro a ⟨ha,hins⟩
 refine Zs (Zs (Zr (Zm rfl (Zd (OD.gtr rfl rfl rfl) rfl ?_))))
 refine Zm rfl ?_
 rcases Bool.eq_false_or_eq_true (decide (0<(a:Int))) with hg28 | hg28
 have hg28e:=hg28
 rw[hg28e]
 replace hg28:=of_decide_eq_true hg28
 refine Yd (OD.move rfl rfl) ?_
 refine Yd (OD.move rfl rfl) ?_
 refine Yd Qs ?_
 refine Yd (Qi Bk (Ent.strs (i:=3) rfl)) ?_
 refine Yd (OD.loadStr rfl af rfl (Ent.strs (i:=3) rfl) (by omega)) ?_
 refine Yd (OD.move rfl rfl) ?_
 refine Yd (OD.eqv (OD.strGtr rfl rfl rfl) (congrArg (Value.bool) ((by rw[hxs,SL (by omega),hok];exact fA _ (Xx hk12 _) _ hkl12):_=(decide (k<ks.getD ((a:Int) - 1:Int).toNat 0))))) ?_
 refine Zd (OD.pickT rfl rfl rfl) rfl ?_
 refine Zn (Zt ?_)
 refine GC.cond rfl (fun hc29=>?_) (fun hc29=>?_)
 replace hc29:=of_decide_eq_true hc29
 have haa:a=(a - 1)+1:=by omega
 have hlt:k<ks.getD (a - 1) 0:=by have e:((a:Int) - 1).toNat=a - 1:=(by omega);rw[e] at hc29;exact hc29
 refine Zk (Zt (GC.block (Zr ?_)))
 refine Zm rfl (Zd Qs rfl ?_)
 refine Za rfl (Zn (GE.blockN ?_))
 exact GE.again (a - 1) (⟨by omega,by rw[← hins,haa,EA,if_pos hlt];rfl⟩) (by first | omega | (dsimp only;omega)) ⟨rfl,rfl,rfl,rfl,rfl,int_eq (by omega),trivial⟩ [] 0 rfl
 replace hc29:=of_decide_eq_false hc29
 have hend:EA ks k a=a:=by have e:((a:Int) - 1).toNat=a - 1:=(by omega);rw[e] at hc29;rw[show a=(a - 1)+1 by omega,EA,if_neg hc29]
 refine GC.exit (Zp (Zp (GE.hit (Zt ?_))))
 refine Ya [(1,_),(5,_),(7,_),(6,_),(9,_),(12,_)] ?_
 refine Wp [⟨135,[],[],[],[0],fun ds=>((ds.getD 0 []).getD 0 undef),fun ds=>Ab ((ds.getD 0 []).getD 0 undef),fun ds=>[strs 9 ((ds.getD 0 []).getD 0 undef) []]⟩,Z0 136 v,Z0 137 (J ((a:Int))),Z1 138 [(1,136),(2,137)] ((Cc 1 v 0 a)),⟨139,[(0,135),(3,138)],[0],[0],[0,4],fun ds=>((ds.getD 1 []).getD 0 undef),fun ds=>Ab ((ds.getD 1 []).getD 0 undef),fun ds=>[strs 9 ((ds.getD 1 []).getD 0 undef) ([]++((xs.drop (0)).take (a - 0)))]⟩,Z0 140 (.string (Cl fo)),⟨141,[(5,140)],[],[],[6],fun ds=>((ds.getD 0 []).getD 0 undef),fun ds=>Ab ((ds.getD 0 []).getD 0 undef),fun ds=>[strs 9 ((ds.getD 0 []).getD 0 undef) [Cl fo]]⟩,⟨142,[(4,139),(6,141)],[4,6],[4],[0,4,6,7],fun ds=>((ds.getD 3 []).getD 0 undef),fun ds=>Ab ((ds.getD 3 []).getD 0 undef),fun ds=>[strs 9 ((ds.getD 3 []).getD 0 undef) (([]++((xs.drop (0)).take (a - 0)))++[Cl fo])]⟩,Z0 143 v,Z0 144 (J ((a:Int))),Z1 145 [(8,143),(9,144)] ((Cc 1 v a xs.length)),⟨146,[(7,142),(10,145)],[7,6],[7],[0,4,6,7,11],fun ds=>((ds.getD 4 []).getD 0 undef),fun ds=>Ab ((ds.getD 4 []).getD 0 undef),fun ds=>[strs 9 ((ds.getD 4 []).getD 0 undef) ((([]++((xs.drop (0)).take (a - 0)))++[Cl fo])++((xs.drop (a)).take (xs.length - a)))]⟩] (Zc (fun _ _ _=>AR.plain (OG.imp (OG.buildStrs (os:=[]) (xs:=[]) rfl Bk rfl rfl rfl rfl rfl) (by rintro v30 _ ⟨hs31,rfl⟩;exact⟨[v30],rfl,hs31,rfl⟩)) rfl) (Yv (Yv (Zc (fun _ _ _=>Zq (OD.sliceTo rfl Bk rfl rfl (Ent.strs (i:=3) rfl) (by omega)) rfl) (Zc (fun _ _ _=>AR.plain (OG.imp (OG.appendStrs 0 rfl rfl Bk rfl rfl rfl (Ent.subStrs (Ent.strs (i:=4) rfl) (by simp;omega)) (by simp[maxLen] <;> omega)) (by rintro v32 _ ⟨hs33,rfl⟩;exact⟨[v32],rfl,hs33,rfl⟩)) rfl) (Yv (Zc (fun _ _ _=>AR.plain (OG.imp (OG.buildStrs (os:=[.tmp 140]) (xs:=[Cl fo]) rfl Bk rfl rfl rfl rfl rfl) (by rintro v34 _ ⟨hs35,rfl⟩;exact⟨[v34],rfl,hs35,rfl⟩)) rfl) (Zc (fun _ _ _=>AR.plain (OG.imp (OG.appendStrs 0 rfl rfl Bk rfl rfl rfl (Ent.strs (i:=1) rfl) (by simp[maxLen] <;> omega)) (by rintro v36 _ ⟨hs37,rfl⟩;exact⟨[v36],rfl,hs37,rfl⟩)) rfl) (Yv (Yv (Zc (fun _ _ _=>Zq (OD.sliceFrom rfl Bk rfl rfl (Ent.strs (i:=3) rfl) (by omega)) rfl) (Zc (fun _ _ _=>AR.plain (OG.imp (OG.appendStrs 0 rfl rfl Bk rfl rfl rfl (Ent.subStrs (Ent.strs (i:=5) rfl) (by simp;omega)) (by simp[maxLen] <;> omega)) (by rintro v38 _ ⟨hs39,rfl⟩;exact⟨[v38],rfl,hs39,rfl⟩)) rfl) As.nil)))))))))))) ?_
 intro θ hall
 obtain⟨h0a,_,_,_,h4a,_,h6a,h7a,_,_,_,h11a,_⟩:=hall
 refine Yb [(1,_),(5,_),(7,_),(6,_),(146,((θ 11).getD 0 undef))] (strs 9 ((θ 6).getD 0 undef) [Cl fo]::strs 9 ((θ 11).getD 0 undef) ((([]++((xs.drop (0)).take (a - 0)))++[Cl fo])++((xs.drop (a)).take (xs.length - a)))::_::_) ?_
 have hs40:Ab ((θ 0).getD 0 undef):=h0a
 clear h0a
 generalize ((θ 0).getD 0 undef)=v41 at *
 have hs42:Ab ((θ 4).getD 0 undef):=h4a
 clear h4a
 generalize ((θ 4).getD 0 undef)=v43 at *
 have hs44:Ab ((θ 6).getD 0 undef):=h6a
 clear h6a
 generalize ((θ 6).getD 0 undef)=v45 at *
 have hs46:Ab ((θ 7).getD 0 undef):=h7a
 clear h7a
 generalize ((θ 7).getD 0 undef)=v47 at *
 have hs48:Ab ((θ 11).getD 0 undef):=h11a
 clear h11a
 generalize ((θ 11).getD 0 undef)=v49 at *
 show G _ _ _ [_] _ _ _ _
 refine Za rfl (Zn (GE.blockN (Zt (Zr ?_))))
 refine Zm rfl (Zd Qp rfl ?_)
 exact Za rfl (Zn (Yg (i+1,Lo ks k,dn++(partF cr cd (i:Int)),(([]++((xs.drop (0)).take (a - 0)))++[Cl fo])++((xs.drop (a)).take (xs.length - a)),v49,v16) (⟨by omega,hs48,hs17,Kx hp hdc hfk,by rw[hxs];exact VX hok (by rw[← hins];exact hend),QY hk12 hkl12,by rw[Ob];omega,by simp only[List.length_append];omega⟩) [4,1,4] 4))
 have hg28e:=hg28
 rw[hg28e]
 replace hg28:=of_decide_eq_false hg28
 iterate 7 refine Yk ?_
 refine Zd (OD.pickF rfl rfl rfl) rfl ?_
 refine Zn (Zt (GC.condF rfl ?_))
 have hend:EA ks k a=a:=by
   have hz:a=0:=by
     have hh:=of_decide_eq_false hg28e
     omega
   rw[hz];rfl
 refine GC.exit (Zp (Zp (GE.hit (Zt ?_))))
 refine Ya [(1,_),(5,_),(7,_),(6,_),(9,_),(12,_)] ?_
 refine Wp [⟨135,[],[],[],[0],fun ds=>((ds.getD 0 []).getD 0 undef),fun ds=>Ab ((ds.getD 0 []).getD 0 undef),fun ds=>[strs 9 ((ds.getD 0 []).getD 0 undef) []]⟩,Z0 136 v,Z0 137 (J ((a:Int))),Z1 138 [(1,136),(2,137)] ((Cc 1 v 0 a)),⟨139,[(0,135),(3,138)],[0],[0],[0,4],fun ds=>((ds.getD 1 []).getD 0 undef),fun ds=>Ab ((ds.getD 1 []).getD 0 undef),fun ds=>[strs 9 ((ds.getD 1 []).getD 0 undef) ([]++((xs.drop (0)).take (a - 0)))]⟩,Z0 140 (.string (Cl fo)),⟨141,[(5,140)],[],[],[6],fun ds=>((ds.getD 0 []).getD 0 undef),fun ds=>Ab ((ds.getD 0 []).getD 0 undef),fun ds=>[strs 9 ((ds.getD 0 []).getD 0 undef) [Cl fo]]⟩,⟨142,[(4,139),(6,141)],[4,6],[4],[0,4,6,7],fun ds=>((ds.getD 3 []).getD 0 undef),fun ds=>Ab ((ds.getD 3 []).getD 0 undef),fun ds=>[strs 9 ((ds.getD 3 []).getD 0 undef) (([]++((xs.drop (0)).take (a - 0)))++[Cl fo])]⟩,Z0 143 v,Z0 144 (J ((a:Int))),Z1 145 [(8,143),(9,144)] ((Cc 1 v a xs.length)),⟨146,[(7,142),(10,145)],[7,6],[7],[0,4,6,7,11],fun ds=>((ds.getD 4 []).getD 0 undef),fun ds=>Ab ((ds.getD 4 []).getD 0 undef),fun ds=>[strs 9 ((ds.getD 4 []).getD 0 undef) ((([]++((xs.drop (0)).take (a - 0)))++[Cl fo])++((xs.drop (a)).take (xs.length - a)))]⟩] (Zc (fun _ _ _=>AR.plain (OG.imp (OG.buildStrs (os:=[]) (xs:=[]) rfl Bk rfl rfl rfl rfl rfl) (by rintro v50 _ ⟨hs51,rfl⟩;exact⟨[v50],rfl,hs51,rfl⟩)) rfl) (Yv (Yv (Zc (fun _ _ _=>Zq (OD.sliceTo rfl Bk rfl rfl (Ent.strs (i:=3) rfl) (by omega)) rfl) (Zc (fun _ _ _=>AR.plain (OG.imp (OG.appendStrs 0 rfl rfl Bk rfl rfl rfl (Ent.subStrs (Ent.strs (i:=4) rfl) (by simp;omega)) (by simp[maxLen] <;> omega)) (by rintro v52 _ ⟨hs53,rfl⟩;exact⟨[v52],rfl,hs53,rfl⟩)) rfl) (Yv (Zc (fun _ _ _=>AR.plain (OG.imp (OG.buildStrs (os:=[.tmp 140]) (xs:=[Cl fo]) rfl Bk rfl rfl rfl rfl rfl) (by rintro v54 _ ⟨hs55,rfl⟩;exact⟨[v54],rfl,hs55,rfl⟩)) rfl) (Zc (fun _ _ _=>AR.plain (OG.imp (OG.appendStrs 0 rfl rfl Bk rfl rfl rfl (Ent.strs (i:=1) rfl) (by simp[maxLen] <;> omega)) (by rintro v56 _ ⟨hs57,rfl⟩;exact⟨[v56],rfl,hs57,rfl⟩)) rfl) (Yv (Yv (Zc (fun _ _ _=>Zq (OD.sliceFrom rfl Bk rfl rfl (Ent.strs (i:=3) rfl) (by omega)) rfl) (Zc (fun _ _ _=>AR.plain (OG.imp (OG.appendStrs 0 rfl rfl Bk rfl rfl rfl (Ent.subStrs (Ent.strs (i:=5) rfl) (by simp;omega)) (by simp[maxLen] <;> omega)) (by rintro v58 _ ⟨hs59,rfl⟩;exact⟨[v58],rfl,hs59,rfl⟩)) rfl) As.nil)))))))))))) ?_
 intro θ hall
 obtain⟨h0a,_,_,_,h4a,_,h6a,h7a,_,_,_,h11a,_⟩:=hall
 refine Yb [(1,_),(5,_),(7,_),(6,_),(146,((θ 11).getD 0 undef))] (strs 9 ((θ 6).getD 0 undef) [Cl fo]::strs 9 ((θ 11).getD 0 undef) ((([]++((xs.drop (0)).take (a - 0)))++[Cl fo])++((xs.drop (a)).take (xs.length - a)))::_::_) ?_
 have hs60:Ab ((θ 0).getD 0 undef):=h0a
 clear h0a
 generalize ((θ 0).getD 0 undef)=v61 at *
 have hs62:Ab ((θ 4).getD 0 undef):=h4a
 clear h4a
 generalize ((θ 4).getD 0 undef)=v63 at *
 have hs64:Ab ((θ 6).getD 0 undef):=h6a
 clear h6a
 generalize ((θ 6).getD 0 undef)=v65 at *
 have hs66:Ab ((θ 7).getD 0 undef):=h7a
 clear h7a
 generalize ((θ 7).getD 0 undef)=v67 at *
 have hs68:Ab ((θ 11).getD 0 undef):=h11a
 clear h11a
 generalize ((θ 11).getD 0 undef)=v69 at *
 show G _ _ _ [_] _ _ _ _
 refine Za rfl (Zn (GE.blockN (Zt (Zr ?_))))
 refine Zm rfl (Zd Qp rfl ?_)
 exact Za rfl (Zn (Yg (i+1,Lo ks k,dn++(partF cr cd (i:Int)),(([]++((xs.drop (0)).take (a - 0)))++[Cl fo])++((xs.drop (a)).take (xs.length - a)),v69,v16) (⟨by omega,hs68,hs17,Kx hp hdc hfk,by rw[hxs];exact VX hok (by rw[← hins];exact hend),QY hk12 hkl12,by rw[Ob];omega,by simp only[List.length_append];omega⟩) [4,1,4] 4))
 replace hc12:=of_decide_eq_false hc12
 obtain⟨hq1,hq2⟩:=Tl (hte.trans (congrArg (Option.map (·.1)) ((congrArg (BW cr cd) (show cr.toNat=i by omega)).trans hp)))
 refine GC.exit (Zp (Zp (GE.hit (Zt (Zs (Zr ?_))))))
 refine Zm rfl (Za rfl (Za rfl (Zn (Zt (GC.ret ?_)))))
 exact GE.body [1] 2 (Pa rfl rfl rfl) rfl (⟨v,congrArg (fun a1=>(.tuple #[v,.bool (a1)]:Value)) ((hq2.symm:(true:Bool)=(Ax cr cd).isSome)),hv,congrArg (fun l0=>strs 9 v l0::own) ((hxs.trans hq1.symm:xs=Vd (Ax cr cd)))⟩)
theorem CB {W:World}{own:List Asn}{cr:Int}{vcd:Value}{cd:List Int}(scd:Ab vcd)(ecd:Ent own fun w=>Ints w vcd cd)(hl0:cd.length≤1073741824):Spec Tryz.prog 58 [.agg #[J (cr),vcd]] W own (fun v ow=>v = .bool ((Ax cr cd).isSome)∧ow=own):=by
 refine Spec.enter Tryz.f58 _ Tryz.func58 rfl (n:=11) rfl rfl ?_
 refine Zs (Zr (Yt (OG.box (cs:=[J (cr),vcd]) rfl rfl rfl) ?_))
 rintro _ _ ⟨g1,rfl,rfl⟩
 refine Za rfl (Zn (Zt (Zs (Zr (Zd (Qa An 0 [_,_]) rfl ?_)))))
 refine Yt (Yc [.agg #[J (cr),vcd]] cj (by exact(R5 scd (Ent.drop 1 ecd) (by omega)))) ?_
 rintro _ _ ⟨v2,rfl,hs3,rfl⟩
 refine Zm rfl (Zd (OD.extract rfl rfl rfl) rfl ?_)
 refine Zd (OD.extract rfl rfl rfl) rfl ?_
 refine Za rfl (Za rfl (Zn (Zt (Zs (Zr (Zm rfl (Za rfl (Zn (Zt (GC.ret ?_))))))))))
 exact GE.body [] 2 (Ao rfl rfl) rfl (⟨rfl,rfl⟩)
theorem R6 (f:Nat):∀ {W:World} {own:List Asn} {r:Int} {a:Int} (hr:0≤r∧r≤4) (ha:0≤a∧a≤12) (hf:r.toNat<f) (hf5:f≤5),Spec Tryz.prog 156 [J (r),J (a)] W own (fun v ow=>∃ (r0:Value) (u0:List Value),v=r0∧Ab r0∧AllS u0∧u0.length=((typesF f (r:Int).toNat (a:Int).toNat).map (·.map Ap)).length∧ow=lst 113 r0 u0::many (strs 9) u0 ((typesF f (r:Int).toNat (a:Int).toNat).map (·.map Ap))::own):=by
 induction f with
 | zero =>
   intro W own r a hr ha hf hf5
   omega
 | succ f ih =>
  intro W own r a hr ha hf hf5
  have hn12:Bp.length=12:=rfl
  refine Spec.enter Tryz.f156 _ Tryz.func156 rfl (n:=52) rfl rfl ?_
  refine Zs (Zr (Za rfl (Zn (Zt (Zs (Zs (Zr (Zm rfl (Zd FJ rfl ?_)))))))))
  refine Zn (Zt ?_)
  refine GC.cond rfl (fun hc1=>?_) (fun hc1=>?_)
  replace hc1:=eq_of_beq hc1
  refine Zs (Zr (Yt (OG.buildLst (xs:=[.const (.slice none 0 0)]) (us:=[.slice none 0 0]) rfl Hb rfl rfl rfl (Ad rfl rfl) rfl) ?_))
  rintro v2 _ ⟨hs3,rfl⟩
  refine Za rfl (Zn (Zt (GC.ret (GE.passR ?_))))
  refine GE.many0 (strs 9) ?_
  refine GE.nilStrs 9 ?_
  refine GE.manyPush (A:=strs 9) (vs:=[]) (xs:=[]) (u := .slice none 0 0) (x:=[]) rfl ?_
  exact GE.body [1,0] 0 (Ao rfl rfl) rfl (⟨v2,[.slice none 0 0],rfl,hs3,(AllS.snoc AllS.nil Ab.nil),(by first | (rw[husl,hT,hp12,List.length_map,FX (by omega)];done) | (rw[List.length_map,E1 (by omega)];rfl)),congrArg (fun l0=>lst 113 v2 [.slice none 0 0]::many (strs 9) [.slice none 0 0] l0::own) ((by rw[E1 (by omega)];rfl : [[]]=(typesF (f+1) (r:Int).toNat (a:Int).toNat).map (·.map Ap)))⟩)
  replace hc1:=ne_of_beq_false hc1
  refine Zk (Zt (Zs (Zr (Yt (OG.buildLst (xs:=[]) (us:=[]) rfl Hb rfl rfl rfl rfl rfl) ?_))))
  rintro v4 _ ⟨hs5,rfl⟩
  refine Za rfl (Zn (Zt (Zs (Zs (Zr (Zm rfl (Za rfl (Zn (Zt (GC.block ?_))))))))))
  refine GC.many0 (strs 9) ?_
  refine GC.loop (ι:=Nat × List (List Nat) × List Value × Value) (fun⟨p,T,us,bv⟩=>[(0,J (r)),(5,bv),(6,J (a+(p:Int)))]) (fun⟨p,T,us,bv⟩=>many (strs 9) us (T.map (·.map Ap))::lst 113 bv us::own) (fun⟨p,T,us,bv⟩=>(a+p≤12)∧(T=(List.range' a.toNat p).flatMap (Xe f r))∧(AllS us)∧(us.length=T.length)∧(Ab bv)∧(T.length≤20*p)) (fun⟨p,T,us,bv⟩=>12 - p) (0,[],[],v4) (⟨by omega,rfl,AllS.nil,rfl,hs5,by simp⟩) ⟨rfl,rfl,int_eq (by omega),trivial⟩ [] 0 rfl ?_
  rintro⟨p,T,us,bv⟩ ⟨hp,hT,hus,husl,hbv,hTl⟩
  refine Zs (Zs (Zr (Zm rfl (Yt (Yc [] OZ (by exact EN)) ?_))))
  rintro v6 _ ⟨_,rfl,hs7,rfl⟩
  refine Zd (Qn Bk (Ent.strs (i:=0) rfl)) rfl ?_
  refine Zd Bb rfl ?_
  refine Zn (Zt ?_)
  refine GC.cond rfl (fun hc8=>?_) (fun hc8=>?_)
  replace hc8:=of_decide_eq_true hc8
  have hr1:=Ga (a+(p:Int)).toNat (by omega)
  have hsz2:(Bp.getD (a+(p:Int)).toNat ⟨#[]⟩).size=2:=Rk _ (by omega)
  refine Zk (Zt (Zs (GC.block (Zs (Zr ?_)))))
  refine Yt (Yc [] OZ (by exact EN)) ?_
  rintro v9 _ ⟨_,rfl,hs10,rfl⟩
  refine Zm rfl (Zd (Qi Bk (Ent.strs (i:=0) rfl)) rfl ?_)
  refine Zd (OD.loadStr rfl af rfl (Ent.strs (i:=0) rfl) (by omega)) rfl ?_
  refine Za rfl (Zn (Zt (Zs (Zr (Zm rfl (Zd (OD.indexStr rfl Z9 rfl rfl (by omega)) rfl ?_))))))
  refine Zd (OD.eqv (OD.sub rfl rfl rfl) (congrArg (Value.int .u8) ((aU ⟨by omega,by omega⟩):(IntKind.u8.wrap ((CW (Bp.getD ((a+(p:Int):Int).toNat) ⟨#[]⟩) 1) - 48):Int)=((rk (a+(p:Int)).toNat:Int))))) rfl ?_
  refine Zd (OD.convI rfl Nz rfl (by omega)) rfl ?_
  refine Za rfl (Zn (Zt (Zs (Zs (Zr (Zm rfl (Zm rfl (Zd (OD.gtr rfl rfl rfl) rfl ?_))))))))
  refine Zn (Zt ?_)
  refine GC.cond rfl (fun hc11=>?_) (fun hc11=>?_)
  replace hc11:=of_decide_eq_true hc11
  refine GC.exit (Zp (GE.hit (Zt (Zr ?_))))
  refine Zm rfl (Zd Qp rfl ?_)
  exact Za rfl (Zn (GE.again (p+1,T,us,bv) (⟨by omega,Yi ha.1 hT (by omega) (by omega),hus,husl,hbv,by omega⟩) (by first | omega | (dsimp only;omega)) ⟨rfl,rfl,int_eq (by omega),trivial⟩ [2,2] 2 rfl))
  replace hc11:=of_decide_eq_false hc11
  refine Zk (Zt (Zs (Zr (Zm rfl (Zm rfl (Zd Qs rfl ?_))))))
  refine Zm rfl (Yt (Yc [J (r - (rk (a+(p:Int)).toNat:Int)),J (a+(p:Int))] V5 (by exact(ih (⟨by omega,by omega⟩) (⟨by omega,by omega⟩) (by omega) (by omega)))) ?_)
  rintro v12 _ ⟨_,u13,rfl,hs14,hs15,hs16,rfl⟩
  refine Zd (Qn Hb (Ent.lst (i:=0) rfl)) rfl ?_
  refine Zm rfl (Zn (Zt (GC.block ?_)))
  have hsl:u13.length=(typesF f (r - (rk (a+(p:Int)).toNat:Int)).toNat (a+(p:Int)).toNat).length:=by have:=hs16;simpa using this
  have hDl:=H8 f (by omega) (r - (rk (a+(p:Int)).toNat:Int)).toNat (by omega) (a+(p:Int)).toNat (by omega)
  refine Yl (ι:=Nat × List (List Nat) × List Value × Value) (fun⟨j,T2,ut,bw⟩=>[(0,J (r)),(6,J (a+(p:Int))),(7,.string (Bp.getD ((a+(p:Int):Int).toNat) ⟨#[]⟩)),(37,v12),(38,J ((u13.length:Nat))),(5,bw),(39,J ((j:Int)))]) (fun⟨j,T2,ut,bw⟩=>lst 113 v12 u13::many (strs 9) u13 ((typesF f (r - (rk (a+(p:Int)).toNat:Int):Int).toNat (a+(p:Int):Int).toNat).map (·.map Ap))::many (strs 9) ut (T2.map (·.map Ap))::lst 113 bw ut::own) (fun⟨j,T2,ut,bw⟩=>(j≤(typesF f (r - (rk (a+(p:Int)).toNat:Int)).toNat (a+(p:Int)).toNat).length)∧(T2=T++((typesF f (r - (rk (a+(p:Int)).toNat:Int)).toNat (a+(p:Int)).toNat).take j).map ((a+(p:Int)).toNat :: ·))∧(AllS ut)∧(ut.length=T2.length)∧(Ab bw)∧(T2.length≤20*p+j)) (fun⟨j,T2,ut,bw⟩=>(typesF f (r - (rk (a+(p:Int)).toNat:Int)).toNat (a+(p:Int)).toNat).length - j) (0,T,us,bv) (⟨by omega,by simp,hus,husl,hbv,by omega⟩) [0,0,2,2] 2 ?_
  rintro⟨j,T2,ut,bw⟩ ⟨hj,hT2,hut,hutl,hbw,hT2l⟩
  refine Zs (Zr (Zd Bb rfl ?_))
  refine Zn (Zt (Zs ?_))
  refine GC.cond rfl (fun hc17=>?_) (fun hc17=>?_)
  replace hc17:=of_decide_eq_true hc17
  have hel:=LS f (by omega) (r - (rk (a+(p:Int)).toNat:Int)).toNat (by omega) (a+(p:Int)).toNat (by omega) j
  have hel2:=LS f (by omega) (r - (rk (a+(p:Int)).toNat:Int)).toNat (by omega) (a+(p:Int)).toNat (by omega) (j:Int).toNat
  refine Zk (Zt (Zs (GC.block (Zs (Zr ?_)))))
  refine Zd (Qi Hb (Ent.lst (i:=0) rfl)) rfl ?_
  refine Zd (OD.loadElem rfl aB rfl (Ent.lst (i:=0) rfl) (by omega) rfl) rfl ?_
  refine Za rfl (Zn (Zt (Zr (Zm rfl (Zm rfl (Yt (OG.buildStrs (os:=[.tmp 44]) (xs:=[Bp.getD ((a+(p:Int):Int).toNat) ⟨#[]⟩]) rfl Bk rfl rfl rfl rfl rfl) ?_))))))
  rintro v18 _ ⟨hs19,rfl⟩
  refine Zm rfl (Yt (OG.appendStrs 0 rfl rfl Bk rfl rfl rfl (Ent.manyStrs (i:=2) rfl ⟨by first | omega | (simp;omega),by first | omega | (simp;omega)⟩) (by simp only[List.length_cons,List.length_nil,maxLen];omega)) ?_)
  rintro v20 _ ⟨hs21,rfl⟩
  refine Yt (OG.buildLst (xs:=[.tmp 47]) (us:=[v20]) rfl Hb rfl rfl rfl (Ad (Ab.one hs21) rfl) rfl) ?_
  rintro v22 _ ⟨hs23,rfl⟩
  refine Yt (OG.appendLst 5 rfl rfl Hb rfl rfl rfl (Ent.lst (i:=0) rfl) (List.all_eq_true.2 fun u hu=>by simpa using(AllS.snoc AllS.nil hs21).one u hu) (by simp[maxLen] <;> omega)) ?_
  rintro v24 _ ⟨hs25,rfl⟩
  refine Za rfl (Zn (GE.blockN (Zt (Zr ?_))))
  refine Zd Qp rfl ?_
  refine Zm rfl (Zn ?_)
  refine GE.at [1,3,3,1,1] 1 (env':=[(0,J (r)),(6,J (a+(p:Int))),(7,.string (Bp.getD ((a+(p:Int):Int).toNat) ⟨#[]⟩)),(37,v12),(38,J ((u13.length:Nat))),(40,.bool (decide ((j:Int)<(u13.length:Nat)))),(41,Aa v12 1 (j)),(42,(u13.getD (j) undef)),(10,(u13.getD (j) undef)),(43,bw),(44,.string (Bp.getD ((a+(p:Int):Int).toNat) ⟨#[]⟩)),(45,v18),(46,(u13.getD (j) undef)),(47,v20),(48,v22),(49,v24),(5,v24),(50,J ((j:Int)+1)),(39,J ((j:Int)+1))]) ⟨rfl,rfl,rfl,rfl,rfl,rfl,rfl,rfl,rfl,rfl,rfl,rfl,rfl,rfl,rfl,rfl,rfl,rfl,rfl,trivial⟩ (own':=strs 9 v20 (([Bp.getD ((a+(p:Int):Int).toNat) ⟨#[]⟩])++(((typesF f (r - (rk (a+(p:Int)).toNat:Int):Int).toNat (a+(p:Int):Int).toNat).map (·.map Ap)).getD (j) []))::many (strs 9) ut (T2.map (·.map Ap))::lst 113 v24 (ut++[v20])::lst 113 v12 u13::many (strs 9) u13 ((typesF f (r - (rk (a+(p:Int)).toNat:Int):Int).toNat (a+(p:Int):Int).toNat).map (·.map Ap))::own) rfl ?_
  refine GE.manyPush (by simp[hutl]) ?_
  refine GE.ownEq (own':=many (strs 9) (ut++[v20]) ((T2++[(a+(p:Int)).toNat::(typesF f (r - (rk (a+(p:Int)).toNat:Int)).toNat (a+(p:Int)).toNat).getD j []]).map (·.map Ap))::lst 113 v24 (ut++[v20])::lst 113 v12 u13::many (strs 9) u13 ((typesF f (r - (rk (a+(p:Int)).toNat:Int):Int).toNat (a+(p:Int):Int).toNat).map (·.map Ap))::own) (by rw[YI (by omega)] <;> rfl) ?_
  exact Yg (j+1,T2++[(a+(p:Int)).toNat::(typesF f (r - (rk (a+(p:Int)).toNat:Int)).toNat (a+(p:Int)).toNat).getD j []],ut++[v20],v24) (⟨by omega,Y3 hT2 (by omega),(hut.snoc hs21),by simp[hutl],hs25,by simp;omega⟩) [2,2,0,0] 0
  replace hc17:=of_decide_eq_false hc17
  refine GC.exit (Zp (Zp (GE.hit (GE.blockN (Zt (Zr ?_))))))
  refine Zm rfl (Zd Qp rfl ?_)
  exact Za rfl (Zn (GE.again (p+1,T2,ut,bw) (⟨by omega,bR ha.1 hT (by omega) hT2 (by omega),hut,hutl,hbw,by omega⟩) (by first | omega | (dsimp only;omega)) ⟨rfl,rfl,int_eq (by omega),trivial⟩ [2,2] 2 rfl))
  replace hc8:=of_decide_eq_false hc8
  have hp12:p=12 - a.toNat:=by omega
  refine GC.exit (Zp (Zp (GE.hit (Zt (Zs (Zr ?_))))))
  refine Zm rfl (Za rfl (Zn (Zt (GC.ret ?_))))
  skip
  exact GE.body [2,1] 1 (Ao rfl rfl) rfl (⟨bv,us,rfl,hbv,hus,(by first | (rw[husl,hT,hp12,List.length_map,FX (by omega)];done) | (rw[List.length_map,E1 (by omega)];rfl)),congrArg (fun l0=>lst 113 bv us::many (strs 9) us l0::own) ((by rw[hT,hp12,FX (by omega)]:T.map (·.map Ap)=(typesF (f+1) (r:Int).toNat (a:Int).toNat).map (·.map Ap)))⟩)
theorem TZ {W:World}{own:List Asn}{cr:Int}{vcd:Value}{cd:List Int}(scd:Ab vcd)(ecd:Ent own fun w=>Ints w vcd cd)(hl0:cd.length≤1073741824)(hg:Ent own fun w=>∃ m,w.cell? ⟨Tryz.l146_ren.g 1,0,none⟩=some (.int .i64 m)):Spec Tryz.prog 111 [.agg #[J (cr),vcd]] W own (fun v ow=>v = .string (XT (Ax cr cd))∧ow=own):=by
 refine Spec.enter Tryz.f111 _ Tryz.func111 rfl (n:=43) rfl rfl ?_
 refine Zs (Zr (Yt (OG.box (cs:=[J (cr),vcd]) rfl rfl rfl) ?_))
 rintro _ _ ⟨g1,rfl,rfl⟩
 refine Za rfl (Zn (Zt (Zs (Zs (Zr (Zd (Qf Aq) rfl ?_))))))
 refine Zd (Ql Ak 0) rfl ?_
 refine Yt (Yc [J (cr),J (1),J (4)] RI (by exact Gr)) ?_
 rintro _ _ ⟨rfl,rfl⟩
 refine Zd (OD.not rfl rfl) rfl ?_
 refine Zm rfl ?_
 rcases Bool.eq_false_or_eq_true (!(BZ cr 1 4)) with hg2 | hg2
 have hg2e:=hg2
 rw[hg2e]
 replace hg2:=Ai hg2
 iterate 9 refine Yk ?_
 refine Zd (OD.pickT rfl rfl rfl) rfl ?_
 refine Zn (Zt (GC.condT rfl ?_))
 have hno:=PQ ((H2 cr cd).trans (Vz (M5 (.inl hg2))))
 refine Zs (Zr (Za rfl (Zn (Zt (GC.ret (GE.passR ?_))))))
 exact GE.body [] 1 (Ao rfl rfl) rfl (⟨congrArg (fun a0=>(.string (a0):Value)) ((hno.symm:(⟨#[]⟩:ByteArray)=XT (Ax cr cd))),rfl⟩)
 have hg2e:=hg2
 rw[hg2e]
 replace hg2:=Am hg2
 refine Yd (Qf AV) ?_
 refine Yd (Ql AH 0) ?_
 refine Yd (Qn Ac (Ent.drop 1 ecd)) ?_
 refine Yd (Qf Aq) ?_
 refine Yd (Ql Ak 0) ?_
 refine Yd (Qf Aq) ?_
 refine Yd (Ql Ak 0) ?_
 refine Yd (OD.mulI rfl rfl rfl (Uu (AX (by assumption)))) ?_
 refine Yd EK ?_
 refine Zd (OD.pickF rfl rfl rfl) rfl ?_
 refine Zn (Zt ?_)
 refine GC.cond rfl (fun hc3=>?_) (fun hc3=>?_)
 replace hc3:=AA hc3
 have hno:=PQ ((H2 cr cd).trans (Vz (M5 (.inr hc3))))
 refine Zs (Zr (Za rfl (Zn (Zt (GC.ret (GE.passR ?_))))))
 exact GE.body [] 1 (Ao rfl rfl) rfl (⟨congrArg (fun a0=>(.string (a0):Value)) ((hno.symm:(⟨#[]⟩:ByteArray)=XT (Ax cr cd))),rfl⟩)
 replace hc3:=Al hc3
 have hok1:=Vl hg2 hc3
 have hcr2:=AX hg2
 have hcc:cr*cr≤4*4:=Int.mul_le_mul (by omega) (by omega) (by omega) (by omega)
 have hte:Ax cr cd=(typesF 5 cr.toNat (0:Int).toNat).find? (fun(ks:List Nat)=>BK cr cd (C3 ks).2 5 []):=(H2 cr cd).trans (dr hok1)
 have hTl:(typesF 5 cr.toNat (0:Int).toNat).length≤20:=H8 5 (by omega) cr.toNat (by omega) 0 (by omega)
 refine Zk (Zt (Zs (Zs (Zr (Zd (Qf Aq) rfl ?_)))))
 refine Zd (Ql Ak 0) rfl ?_
 refine Yt (Yc [J (cr),J (0)] V5 (by exact(R6 5 (⟨by omega,by omega⟩) (by omega) (by omega) (by omega)))) ?_
 rintro v4 _ ⟨_,u5,rfl,hs6,hs7,hs8,rfl⟩
 refine Zd (Qn Hb (Ent.lst (i:=0) rfl)) rfl ?_
 refine Zm rfl (Zn (Zt (GC.block ?_)))
 have hsl:u5.length=(typesF 5 cr.toNat (0:Int).toNat).length:=by have:=hs8;simpa using this
 refine Yl (ι:=Nat) (fun i=>[(1,Pg g1 0),(25,v4),(26,J ((u5.length:Nat))),(27,J ((i:Int)))]) (fun i=>lst 113 v4 u5::many (strs 9) u5 ((typesF 5 (cr:Int).toNat (0:Int).toNat).map (·.map Ap))::box g1 27 [J (cr),vcd]::own) (fun i=>(i≤(typesF 5 cr.toNat (0:Int).toNat).length)∧(((typesF 5 cr.toNat (0:Int).toNat).take i).any (fun(ks:List Nat)=>BK cr cd (C3 ks).2 5 [])=false)) (fun i=>(typesF 5 cr.toNat (0:Int).toNat).length - i) 0 (⟨by omega,by simp⟩) [] 0 ?_
 rintro i ⟨hi,hn⟩
 refine Zs (Zr (Zd Bb rfl ?_))
 refine Zn (Zt (Zs ?_))
 refine GC.cond rfl (fun hc9=>?_) (fun hc9=>?_)
 replace hc9:=of_decide_eq_true hc9
 obtain⟨hc1,hc2,hc3,hc4⟩:=dC hcr2 (bY (T:=(typesF 5 cr.toNat (0:Int).toNat)) (i:=i) (by omega))
 rw[← O0 (T:=(typesF 5 cr.toNat (0:Int).toNat)) (by omega)] at hc1 hc3
 obtain⟨hcR0,hcD,_⟩:=Rh hc1
 have hcR:=hcR0.trans hc2
 have hml:=SP ((typesF 5 cr.toNat (0:Int).toNat).getD i [])
 have hcl:((cD (DB (((typesF 5 cr.toNat (0:Int).toNat).map (·.map Ap)).getD (i) []))).length:Int)=cr*cr:=by rw[hcD,hml,hc2]
 have hnl:(((typesF 5 cr.toNat (0:Int).toNat).map (·.map Ap)).getD (i) []).length≤4:=by rw[O0 (by omega),List.length_map];exact hc4
 refine Zk (Zt (Zs (GC.block (Zs (Zr ?_)))))
 refine Zd (Qi Hb (Ent.lst (i:=0) rfl)) rfl ?_
 refine Zd (OD.loadElem rfl aB rfl (Ent.lst (i:=0) rfl) (by omega) rfl) rfl ?_
 refine Za rfl (Zn (Zt (Zs (Zr (Zm rfl (Yt (Yc [(u5.getD (i) undef),.string (⟨#[43]⟩)] UE (by exact(cP (hs7.get (by omega)) (Ent.manyStrs (i:=1) rfl ⟨by first | omega | (simp;omega),by first | omega | (simp;omega)⟩) (by omega) (by omega)))) ?_))))))
 rintro _ _ ⟨rfl,rfl⟩
 refine Za rfl (Zn (Zt (Zs (Zr (Zm rfl (Yt (Yc [.string (DB (((typesF 5 (cr:Int).toNat (0:Int).toNat).map (·.map Ap)).getD (i) []))] bN (by exact(Pz ((Ent.drop 3 hg)) (by omega)))) ?_))))))
 rintro _ _ ⟨v10,rfl,hs11,rfl⟩
 refine Zm rfl (Zd (OD.extract rfl rfl rfl) rfl ?_)
 refine Zd (OD.extract rfl rfl rfl) rfl ?_
 refine Yt (OG.alloc rfl An (zs:=[J (0),.slice none 0 0]) rfl) ?_
 rintro _ _ ⟨g12,rfl,rfl⟩
 refine Yu An [J (cR (DB (((typesF 5 (cr:Int).toNat (0:Int).toNat).map (·.map Ap)).getD (i) []))),v10] 0 (Ad rfl (Ad (Ab.one hs11) rfl)) ?_
 refine Za rfl (Zn (Zt (Zs (Zr (Zd (Qa An 4 [_,_]) rfl ?_)))))
 refine Zd (Qa An 0 [_,_]) rfl ?_
 refine Yt (Yc [.agg #[J (cr),vcd],.agg #[J (cR (DB (((typesF 5 (cr:Int).toNat (0:Int).toNat).map (·.map Ap)).getD (i) []))),v10],.slice none 0 0] Vn (by exact(NH 5 scd (Ent.drop 5 ecd) hs11 (Ei 1) Ab.nil Ent.nilInts (hcr2) (by omega) (hcR) (hcl) (by simp) (by simp;omega) (by simp;omega)))) ?_
 rintro _ _ ⟨rfl,rfl⟩
 refine Zn (Zt ?_)
 refine GC.cond rfl (fun hc13=>?_) (fun hc13=>?_)
 have hyes:=cq (hte.trans (YH (d:=[]) (by omega) hn (by rw[← hcD];exact hc13)))
 rw[← O0 (T:=(typesF 5 cr.toNat (0:Int).toNat)) (by omega)] at hyes
 refine Zs (Zr (Zm rfl (Za rfl (Zn (Zt (GC.ret (GE.blockR (GE.passR (GE.passR (GE.blockR (GE.passR ?_)))))))))))
 exact GE.body [] 5 (Ao rfl rfl) rfl (⟨congrArg (fun a0=>(.string (a0):Value)) ((hyes.symm:(DB (((typesF 5 (cr:Int).toNat (0:Int).toNat).map (·.map Ap)).getD (i) []):ByteArray)=XT (Ax cr cd))),rfl⟩)
 refine Zk (GE.blockN (Zt (Zr ?_)))
 refine Zd Qp rfl ?_
 exact Zm rfl (Zn (Yg (i+1) (⟨by omega,any_take_succ (d:=[]) (by omega) hn (by rw[← hcD];exact hc13)⟩) [2,2,2] 2))
 replace hc9:=of_decide_eq_false hc9
 have hno:=PQ (hte.trans (XP (Cj (by omega) hn)))
 refine GC.exit (Zp (Zp (GE.hit (Zt (Zs (Zr ?_))))))
 refine Za rfl (Zn (Zt (GC.ret ?_)))
 exact GE.body [] 3 (Ao rfl rfl) rfl (⟨congrArg (fun a0=>(.string (a0):Value)) ((hno.symm:(⟨#[]⟩:ByteArray)=XT (Ax cr cd))),rfl⟩)
theorem O1 {W:World}{own:List Asn}{cr:Int}{vcd:Value}{cd:List Int}(scd:Ab vcd)(ecd:Ent own fun w=>Ints w vcd cd)(hl0:cd.length≤1073741824)(hg:Ent own fun w=>∃ m,w.cell? ⟨Tryz.l146_ren.g 1,0,none⟩=some (.int .i64 m)):Spec Tryz.prog 50 [.agg #[J (cr),vcd]] W own (fun v ow=>v = .bool ((Ax cr cd).isSome)∧ow=own):=by
 refine Spec.enter Tryz.f50 _ Tryz.func50 rfl (n:=6) rfl rfl ?_
 refine Zs (Zr (Yt (OG.box (cs:=[J (cr),vcd]) rfl rfl rfl) ?_))
 rintro _ _ ⟨g1,rfl,rfl⟩
 refine Za rfl (Zn (Zt (Zs (Zr (Zd (Qa An 0 [_,_]) rfl ?_)))))
 refine Yt (Yc [.agg #[J (cr),vcd]] bT (by exact(TZ scd (Ent.drop 1 ecd) (hl0) ((Ent.drop 1 hg))))) ?_
 rintro _ _ ⟨rfl,rfl⟩
 refine Zd (OD.eqv (OD.strNeq rfl rfl rfl) (congrArg (Value.bool) ((Se cr cd):_=((Ax cr cd).isSome)))) rfl ?_
 refine Za rfl (Zn (Zt (GC.ret ?_)))
 exact GE.body [] 1 (Ao rfl rfl) rfl (⟨rfl,rfl⟩)
end Go.Proofs.YtbmnnbglipkidaaGreatDoor
