/-
  Lengths and inner products: contracts by walks.
-/
import Derived.Test.YtbmnnbglipkidaaGreatDoorWNewA
namespace Go.Proofs.YtbmnnbglipkidaaGreatDoor
set_option maxRecDepth 100000
set_option maxHeartbeats 4000000
set_option linter.unusedVariables false
set_option linter.unusedSimpArgs false
open Go.RowKit
theorem Tj:∀ us w,(callFunc 120 us).run Tryz.prog w = .ok (.enter 120 us) w:=fun us w=>by kernel_rfl
theorem VN:∀ us w,(callFunc 167 us).run Tryz.prog w = .ok (.enter 167 us) w:=fun us w=>by kernel_rfl
theorem Hm {W:World}{own:List Asn}{cr:Int}{vcd:Value}{cd:List Int}(scd:Ab vcd)(ecd:Ent own fun w=>Ints w vcd cd)(hty:(Ax cr cd).isSome=true):Spec Tryz.prog 167 [.agg #[J (cr),vcd]] W own (fun v ow=>∃ (r0:Value),v=r0∧Ab r0∧ow=ints 3 r0 (A3 cr cd)::own):=by
 have hcr:=(AB hty).1
 have hcd:=(AB hty).2
 have hlen:=G3 hty
 have hrl:(List.replicate (cr:Int).toNat (0:Int)).length=cr.toNat:=List.length_replicate
 refine Spec.enter Tryz.f167 _ Tryz.func167 rfl (n:=121) rfl rfl ?_
 refine Zs (Zr (Yt (OG.box (cs:=[J (cr),vcd]) rfl rfl rfl) ?_))
 rintro _ _ ⟨g1,rfl,rfl⟩
 refine Za rfl (Zn (Zt (Zs (Zr (Zd (Qf Aq) rfl ?_)))))
 refine Zd (Ql Ak 0) rfl ?_
 refine Yt (OG.makeInts rfl Ac rfl rfl (by omega)) ?_
 rintro v2 _ ⟨hs3,rfl⟩
 refine Za rfl (Zn (Zt (Zs (Zs (Zr (Za rfl (Zn (Zt (GC.block ?_)))))))))
 refine Yl (ι:=Nat × List Int) (fun⟨i,ys⟩=>[(1,Pg g1 0),(3,v2),(4,J ((i:Int)))]) (fun⟨i,ys⟩=>ints 3 v2 ys::box g1 27 [J (cr),vcd]::own) (fun⟨i,ys⟩=>(i≤cr.toNat)∧(ys.length=cr.toNat)∧(lsO cr cd (cr.toNat - i) i ys=some (A3 cr cd))) (fun⟨i,ys⟩=>cr.toNat - i) (0,(List.replicate (cr:Int).toNat 0)) (⟨by omega,hrl,hlen.1⟩) [] 0 ?_
 rintro⟨i,ys⟩ ⟨hi,hyl,hy⟩
 refine Zs (Zs (Zr (Zm rfl (Zd (Qf Aq) rfl ?_))))
 refine Zd (Ql Ak 1) rfl ?_
 refine Zd Bb rfl ?_
 refine Zn (Zt ?_)
 refine GC.cond rfl (fun hc4=>?_) (fun hc4=>?_)
 replace hc4:=of_decide_eq_true hc4
 refine Zk (Zt (Zs (GC.block (Zs (Zs (Zr ?_))))))
 refine Zm rfl (Zm rfl (Zd (Qi Ac (Ei 0)) rfl ?_))
 refine Zd (Qv Ak (Ei 0)) rfl ?_
 refine Zd EK rfl ?_
 refine Zn (Zt ?_)
 refine GC.cond rfl (fun hc5=>?_) (fun hc5=>?_)
 replace hc5:=AA hc5
 refine GC.exit (Zp (GE.hit (Zt (Zr ?_))))
 refine Zm rfl (Zd Qp rfl ?_)
 exact Za rfl (Zn (Yg (i+1,ys) (⟨by omega,hyl,cc hy (by omega) hc5⟩) [] 0))
 replace hc5:=Al hc5
 refine Zk (Zt (Zs (Zr (Zd (Qa An 1 [_,_]) rfl ?_))))
 refine Zm rfl (Yt (Yc [.agg #[J (cr),vcd],J ((i:Int))] V3 (by exact(NX scd (Ent.drop 2 ecd) (hcr) (hcd) (⟨by omega,by omega⟩)))) ?_)
 rintro v6 _ ⟨_,rfl,hs7,rfl⟩
 refine Za rfl (Zn (Zt (Zs (Zr (Zm rfl (Zm rfl (Zd (Qi Ac (Ei 1)) rfl ?_)))))))
 refine G.stepD0 (OD.storeInt rfl Ak rfl rfl (i:=1) rfl (by omega)) rfl rfl ?_
 refine Zn (Zt (Zs (Zr (Za rfl (Zn (Zt (Zs (Zs (Zr (Za rfl (Zn (Zt (GC.block ?_)))))))))))))
 obtain⟨y1,a1,z1,hk0,hdv,hrest⟩:=YN hy (by omega) hc5
 have hpg:=(Es (n:=cr) (d:=cd) (i:=(i:Int)) ⟨by omega,by omega⟩).2
 have hpl:=LA (n:=cr) (d:=cd) (i:=(i:Int)) ⟨by omega,by omega⟩
 refine Yl (ι:=Nat × List Int × Int) (fun⟨k,zs,a⟩=>[(1,Pg g1 0),(3,v2),(4,J ((i:Int))),(5,v6),(6,J (a)),(7,J ((k:Int)))]) (fun⟨k,zs,a⟩=>ints 3 v6 (partF cr cd (i:Int))::ints 3 v2 zs::box g1 27 [J (cr),vcd]::own) (fun⟨k,zs,a⟩=>(k≤(partF cr cd i).length)∧(zs.length=cr.toNat)∧(lsK cr cd (partF cr cd i) ((partF cr cd i).length - k) k zs a=some (y1,a1))) (fun⟨k,zs,a⟩=>(partF cr cd i).length - k) (0,(ys.set i 6),6) (⟨by omega,by rw[List.length_set];exact hyl,hk0⟩) [] 0 ?_
 rintro⟨k,zs,a⟩ ⟨hk,hzl,hz⟩
 refine Zs (Zs (Zr (Zm rfl (Zm rfl (Zd (Qn Ac (Ei 0)) rfl ?_)))))
 refine Zd Bb rfl ?_
 refine Zn (Zt ?_)
 refine GC.cond rfl (fun hc8=>?_) (fun hc8=>?_)
 replace hc8:=of_decide_eq_true hc8
 have hr:=Bi hpg (k:=k) (by omega)
 have hr0:=Bi hpg (k:=(k:Int).toNat) (by omega)
 refine Zk (Zt (Zs (GC.block (Zs (Zs (Zr ?_))))))
 refine Za rfl (Zn (Zt (GC.block ?_)))
 obtain⟨o2,hj0,hk1⟩:=V4 hz (by omega)
 refine Yl (ι:=Nat × List Int) (fun⟨j,us⟩=>[(1,Pg g1 0),(3,v2),(4,J ((i:Int))),(5,v6),(6,J (a)),(7,J ((k:Int))),(8,J ((j:Int)))]) (fun⟨j,us⟩=>ints 3 v6 (partF cr cd (i:Int))::ints 3 v2 us::box g1 27 [J (cr),vcd]::own) (fun⟨j,us⟩=>(j≤cr.toNat)∧(us.length=cr.toNat)∧(lsJ cr cd ((partF cr cd i).getD k 0) (cr.toNat - j) j us=some o2)) (fun⟨j,us⟩=>cr.toNat - j) (0,zs) (⟨by omega,hzl,hj0⟩) [] 0 ?_
 rintro⟨j,us⟩ ⟨hj,hul,hu⟩
 refine Zs (Zs (Zr (Zm rfl (Zd (Qf Aq) rfl ?_))))
 refine Zd (Ql Ak 2) rfl ?_
 refine Zd Bb rfl ?_
 refine Zn (Zt ?_)
 refine GC.cond rfl (fun hc9=>?_) (fun hc9=>?_)
 replace hc9:=of_decide_eq_true hc9
 have hx1:=Be (n:=cr) (i:=(partF cr cd i).getD k 0) (j:=j) ⟨by omega,by omega⟩ ⟨by omega,by omega⟩ (by omega)
 have hx2:=Be (n:=cr) (i:=j) (j:=(partF cr cd i).getD k 0) ⟨by omega,by omega⟩ ⟨by omega,by omega⟩ (by omega)
 refine Zk (Zt (Zs (GC.block (Zs ?_))))
 rcases Bool.eq_false_or_eq_true ((us.getD (j) 0)==0) with hg10 | hg10
 have hg10p:=hg10
 replace hg10p:=eq_of_beq hg10p
 refine Ya [(1,_),(3,_),(4,_),(5,_),(6,_),(7,_),(8,_)] ?_
 refine Wp [Z0 42 v2,Z0 43 (J ((j:Int))),Z1 44 [(0,42),(1,43)] (Aa v2 1 (j)),Z1 45 [(2,44)] (J (us.getD (j) 0)),Z1 46 [(3,45)] (.bool true),Z1 47 [(4,46)] (.bool true),Z1 48 [(5,47)] (.agg #[J (cr),vcd]),Z1 49 [(5,47)] v6,Z1 50 [(5,47)] (J ((k:Int))),Z1 51 [(5,47),(7,49),(8,50)] (Aa v6 1 (k)),Z1 52 [(5,47),(9,51)] (J ((partF cr cd (i:Int)).getD (k) 0)),Z1 53 [(5,47)] (J ((j:Int))),Z1 54 [(5,47),(6,48),(10,52),(11,53)] (J (atI cr cd ((partF cr cd (i:Int)).getD (k) 0) (j:Int))),Z1 55 [(5,47),(12,54)] (.bool ((atI cr cd ((partF cr cd (i:Int)).getD (k) 0) (j:Int)) != 0)),Z1 56 [(5,47),(13,55)] (.bool ((atI cr cd ((partF cr cd (i:Int)).getD (k) 0) (j:Int)) != 0))] (Yv (Yv (Zc (fun _ _ _=>Zq (Qi Ac (Ei 1)) rfl) (Zc (fun _ _ _=>Zq (Qv Ak (Ei 1)) rfl) (Zc (fun _ _ _=>AR.plain (OG.imp FJ (by rintro _ _ ⟨rfl,rfl⟩;exact⟨[],congrArg Value.bool hg10,trivial,rfl⟩)) rfl) (Yv (Zc (fun _ _ _=>Zo (Qa An 2 [_,_]) rfl rfl rfl rfl trivial rfl) (Yw (Yw (Zc (fun _ _ _=>Zo (Qi Ac (Ei 0)) rfl rfl rfl rfl trivial rfl) (Zc (fun _ _ _=>Zo (Qv Ak (Ei 0)) rfl rfl rfl rfl trivial rfl) (Yw (Zc (fun _ _ _=>Zo (Yc [.agg #[J (cr),vcd],J ((partF cr cd (i:Int)).getD (k) 0),J ((j:Int))] ent109 (by exact(Dc scd (Ent.drop 3 ecd.app) (by omega)))) rfl rfl rfl rfl trivial rfl) (Zc (fun _ _ _=>Zo EK rfl rfl rfl rfl trivial rfl) (Zc (fun _ _ _=>Zq (OD.pickT rfl rfl rfl) rfl) As.nil))))))))))))))) ?_
 intro θ _
 refine Yb [(1,_),(3,_),(4,_),(5,_),(6,_),(7,_),(8,_),(56,.bool ((atI cr cd ((partF cr cd (i:Int)).getD (k) 0) (j:Int)) != 0))] (_::_) ?_
 show G _ _ _ [] _ _ _ _
 refine Zn (Zt ?_)
 refine GC.cond rfl (fun hc11=>?_) (fun hc11=>?_)
 replace hc11:=AA hc11
 have hqq:=ZK hu (by omega) (eq_of_beq hg10) hc11
 refine Ya [(1,_),(3,_),(4,_),(5,_),(6,_),(7,_),(8,_)] ?_
 refine Wp [Z0 57 v2,Z0 58 (J ((j:Int))),Z0 59 v2,Z0 60 v6,Z0 61 (J ((k:Int))),Z1 62 [(3,60),(4,61)] (Aa v6 1 (k)),Z1 63 [(5,62)] (J ((partF cr cd (i:Int)).getD (k) 0)),Z1 64 [(2,59),(6,63)] (Aa v2 1 (((partF cr cd (i:Int)).getD (k) 0:Int).toNat)),Z1 65 [(7,64)] (J (us.getD (((partF cr cd (i:Int)).getD (k) 0:Int).toNat) 0)),Z0 66 (.agg #[J (cr),vcd]),Z0 67 v6,Z0 68 (J ((k:Int))),Z1 69 [(10,67),(11,68)] (Aa v6 1 (k)),Z1 70 [(12,69)] (J ((partF cr cd (i:Int)).getD (k) 0)),Z0 71 (J ((j:Int))),Z1 72 [(9,66),(13,70),(14,71)] (J (atI cr cd ((partF cr cd (i:Int)).getD (k) 0) (j:Int))),Z1 73 [(8,65),(15,72)] (J (IntKind.i64.wrap ((us.getD (((partF cr cd (i:Int)).getD (k) 0:Int).toNat) 0)*(atI cr cd ((partF cr cd (i:Int)).getD (k) 0) (j:Int))))),Z0 74 (.agg #[J (cr),vcd]),Z0 75 (J ((j:Int))),Z0 76 v6,Z0 77 (J ((k:Int))),Z1 78 [(19,76),(20,77)] (Aa v6 1 (k)),Z1 79 [(21,78)] (J ((partF cr cd (i:Int)).getD (k) 0)),Z1 80 [(17,74),(18,75),(22,79)] (J (atI cr cd (j:Int) ((partF cr cd (i:Int)).getD (k) 0))),Z1 81 [(16,73),(23,80)] (J (IntKind.i64.wrap ((IntKind.i64.wrap ((us.getD (((partF cr cd (i:Int)).getD (k) 0:Int).toNat) 0)*(atI cr cd ((partF cr cd (i:Int)).getD (k) 0) (j:Int)))).tdiv (atI cr cd (j:Int) ((partF cr cd (i:Int)).getD (k) 0))))),Z1 82 [(0,57),(1,58)] (Aa v2 1 (j))] (Yv (Yv (Yv (Yv (Yv (Zc (fun _ _ _=>Zq (Qi Ac (Ei 0)) rfl) (Zc (fun _ _ _=>Zq (Qv Ak (Ei 0)) rfl) (Zc (fun _ _ _=>Zq (Qi Ac (Ei 1)) rfl) (Zc (fun _ _ _=>Zq (Qv Ak (Ei 1)) rfl) (Zc (fun _ _ _=>Zq (Qa An 2 [_,_]) rfl) (Yv (Yv (Zc (fun _ _ _=>Zq (Qi Ac (Ei 0)) rfl) (Zc (fun _ _ _=>Zq (Qv Ak (Ei 0)) rfl) (Yv (Zc (fun _ _ _=>Zq (Yc [.agg #[J (cr),vcd],J ((partF cr cd (i:Int)).getD (k) 0),J ((j:Int))] ent109 (by exact(Dc scd (Ent.drop 3 ecd.app) (by omega)))) rfl) (Zc (fun _ _ _=>Zq CN rfl) (Zc (fun _ _ _=>Zq (Qa An 2 [_,_]) rfl) (Yv (Yv (Yv (Zc (fun _ _ _=>Zq (Qi Ac (Ei 0)) rfl) (Zc (fun _ _ _=>Zq (Qv Ak (Ei 0)) rfl) (Zc (fun _ _ _=>Zq (Yc [.agg #[J (cr),vcd],J ((j:Int)),J ((partF cr cd (i:Int)).getD (k) 0)] ent109 (by exact(Dc scd (Ent.drop 3 ecd.app) (by omega)))) rfl) (Zc (fun _ _ _=>Zq (OD.quo rfl rfl rfl (hqq.1)) rfl) (Zc (fun _ _ _=>Zq (Qi Ac (Ei 1)) rfl) As.nil)))))))))))))))))))))))))) ?_
 intro θ _
 refine Yb [(1,_),(3,_),(4,_),(5,_),(6,_),(7,_),(8,_),(81,J (IntKind.i64.wrap ((IntKind.i64.wrap ((us.getD (((partF cr cd (i:Int)).getD (k) 0:Int).toNat) 0)*(atI cr cd ((partF cr cd (i:Int)).getD (k) 0) (j:Int)))).tdiv (atI cr cd (j:Int) ((partF cr cd (i:Int)).getD (k) 0))))),(82,Aa v2 1 (j))] (_::_) ?_
 show G _ _ _ [_] _ _ _ _
 refine G.stepD0 (OD.storeInt rfl Ak rfl rfl (i:=1) rfl (by omega)) rfl rfl ?_
 refine Zn (GE.blockN (Zt (Zr ?_)))
 refine Zm rfl (Zd (OD.addI rfl rfl rfl (by first | omega | (simp only[List.length_set,List.length_replicate];omega))) rfl ?_)
 exact Za rfl (Zn (Yg (j+1,(us).set (j) (IntKind.i64.wrap ((IntKind.i64.wrap ((us.getD (((partF cr cd (i:Int)).getD (k) 0:Int).toNat) 0)*(atI cr cd ((partF cr cd (i:Int)).getD (k) 0) (j:Int)))).tdiv (atI cr cd (j:Int) ((partF cr cd (i:Int)).getD (k) 0))))) (⟨by omega,by rw[List.length_set];exact hul,hqq.2⟩) [] 0))
 replace hc11:=Al hc11
 refine Zk (GE.blockN (Zt (Zr ?_)))
 refine Zm rfl (Zd Qp rfl ?_)
 exact Za rfl (Zn (Yg (j+1,us) (⟨by omega,hul,V0 hu (by omega) (Ri hc11)⟩) [] 0))
 have hg10p:=hg10
 replace hg10p:=ne_of_beq_false hg10p
 refine Ya [(1,_),(3,_),(4,_),(5,_),(6,_),(7,_),(8,_)] ?_
 refine Wp [Z0 42 v2,Z0 43 (J ((j:Int))),Z1 44 [(0,42),(1,43)] (Aa v2 1 (j)),Z1 45 [(2,44)] (J (us.getD (j) 0)),Z1 46 [(3,45)] (.bool false),Z1 47 [(4,46)] (.bool false),Z1 48 [(5,47)] undef,Z1 49 [(5,47)] undef,Z1 50 [(5,47)] undef,Z1 51 [(5,47),(7,49),(8,50)] undef,Z1 52 [(5,47),(9,51)] undef,Z1 53 [(5,47)] undef,Z1 54 [(5,47),(6,48),(10,52),(11,53)] undef,Z1 55 [(5,47),(12,54)] undef,Z1 56 [(5,47),(13,55)] (.bool false)] (Yv (Yv (Zc (fun _ _ _=>Zq (Qi Ac (Ei 1)) rfl) (Zc (fun _ _ _=>Zq (Qv Ak (Ei 1)) rfl) (Zc (fun _ _ _=>AR.plain (OG.imp FJ (by rintro _ _ ⟨rfl,rfl⟩;exact⟨[],congrArg Value.bool hg10,trivial,rfl⟩)) rfl) (Yv (Yo (Yo (Yo (Yo (Yo (Yo (Yo (Yo (Zc (fun _ _ _=>Zq (OD.pickF rfl rfl rfl) rfl) As.nil))))))))))))))) ?_
 intro θ _
 refine Yb [(1,_),(3,_),(4,_),(5,_),(6,_),(7,_),(8,_),(56,.bool false)] (_::_) ?_
 show G _ _ _ [] _ _ _ _
 refine Zn (Zt (GC.condF rfl (Zk (GE.blockN (Zt (Zr ?_))))))
 refine Zm rfl (Zd Qp rfl ?_)
 exact Za rfl (Zn (Yg (j+1,us) (⟨by omega,hul,V0 hu (by omega) (QQ hg10)⟩) [] 0))
 replace hc9:=of_decide_eq_false hc9
 refine GC.exit (Zp (Zp (GE.hit (Zt (Zs (Zr ?_))))))
 refine Zm rfl (Zm rfl (Zm rfl (Zd (Qi Ac (Ei 0)) rfl ?_)))
 refine Zd (Qv Ak (Ei 0)) rfl ?_
 refine Zd (Qi Ac (Ei 1)) rfl ?_
 refine Zd (Qv Ak (Ei 1)) rfl ?_
 refine Zm rfl (Zd Bb rfl ?_)
 refine Zn (Zt ?_)
 refine GC.cond rfl (fun hc12=>?_) (fun hc12=>?_)
 replace hc12:=of_decide_eq_true hc12
 refine Zr (Zm rfl (Zm rfl (Zm rfl (Zd (Qi Ac (Ei 0)) rfl ?_))))
 refine Zd (Qv Ak (Ei 0)) rfl ?_
 refine Zd (Qi Ac (Ei 1)) rfl ?_
 refine Zd (Qv Ak (Ei 1)) rfl ?_
 refine Za rfl (Zn (GE.blockN (Zt (Zr ?_))))
 refine Zm rfl (Zd Qp rfl ?_)
 exact Za rfl (Zn (Yg (k+1,us,us.getD (((partF cr cd (i:Int)).getD (k) 0:Int).toNat) 0) (⟨by omega,hul,by have e:=Rl hu (by omega);rw[← e,Y8 (o:=us) (r:=(partF cr cd i).getD k 0) (a:=a) hc12] at hk1;exact hk1⟩) [] 0))
 replace hc12:=of_decide_eq_false hc12
 refine Zk (GE.blockN (Zt (Zr ?_)))
 refine Zm rfl (Zd Qp rfl ?_)
 exact Za rfl (Zn (Yg (k+1,us,a) (⟨by omega,hul,by have e:=Rl hu (by omega);rw[← e,cH (o:=us) (r:=(partF cr cd i).getD k 0) (a:=a) hc12] at hk1;exact hk1⟩) [] 0))
 replace hc8:=of_decide_eq_false hc8
 refine GC.exit (Zp (Zp (GE.hit (Zt (Zs (Zr ?_))))))
 refine Za rfl (Zn (Zt (GC.block ?_)))
 refine Yl (ι:=Nat × List Int) (fun⟨t,vs⟩=>[(1,Pg g1 0),(3,v2),(4,J ((i:Int))),(5,v6),(6,J (a)),(9,J ((t:Int)))]) (fun⟨t,vs⟩=>ints 3 v6 (partF cr cd (i:Int))::ints 3 v2 vs::box g1 27 [J (cr),vcd]::own) (fun⟨t,vs⟩=>(t≤(partF cr cd i).length)∧(vs.length=cr.toNat)∧(dvL (partF cr cd i) a ((partF cr cd i).length - t) t vs=some z1)) (fun⟨t,vs⟩=>(partF cr cd i).length - t) (0,zs) (⟨by omega,hzl,by have e:=Prod.mk.inj (XZ hz (by omega));rw[e.1,e.2];exact hdv⟩) [] 0 ?_
 rintro⟨t,vs⟩ ⟨ht,hvl,hv⟩
 refine Zs (Zs (Zr (Zm rfl (Zm rfl (Zd (Qn Ac (Ei 0)) rfl ?_)))))
 refine Zd Bb rfl ?_
 refine Zn (Zt ?_)
 refine GC.cond rfl (fun hc13=>?_) (fun hc13=>?_)
 replace hc13:=of_decide_eq_true hc13
 have hst:=OC hv (by omega)
 have hr3:=Bi hpg (k:=t) (by omega)
 have hr30:=Bi hpg (k:=(t:Int).toNat) (by omega)
 refine Zk (Zt (Zs (GC.block ?_)))
 refine Ya [(1,_),(3,_),(4,_),(5,_),(6,_),(9,_)] ?_
 refine Wp [Z0 105 v2,Z0 106 v6,Z0 107 (J ((t:Int))),Z1 108 [(1,106),(2,107)] (Aa v6 1 (t)),Z1 109 [(3,108)] (J ((partF cr cd (i:Int)).getD (t) 0)),Z0 110 v2,Z0 111 v6,Z0 112 (J ((t:Int))),Z1 113 [(6,111),(7,112)] (Aa v6 1 (t)),Z1 114 [(8,113)] (J ((partF cr cd (i:Int)).getD (t) 0)),Z1 115 [(5,110),(9,114)] (Aa v2 1 (((partF cr cd (i:Int)).getD (t) 0:Int).toNat)),Z1 116 [(10,115)] (J (vs.getD (((partF cr cd (i:Int)).getD (t) 0:Int).toNat) 0)),Z0 117 (J (a)),Z1 118 [(11,116),(12,117)] (J (IntKind.i64.wrap ((vs.getD (((partF cr cd (i:Int)).getD (t) 0:Int).toNat) 0).tdiv a))),Z1 119 [(0,105),(4,109)] (Aa v2 1 (((partF cr cd (i:Int)).getD (t) 0:Int).toNat))] (Yv (Yv (Yv (Zc (fun _ _ _=>Zq (Qi Ac (Ei 0)) rfl) (Zc (fun _ _ _=>Zq (Qv Ak (Ei 0)) rfl) (Yv (Yv (Yv (Zc (fun _ _ _=>Zq (Qi Ac (Ei 0)) rfl) (Zc (fun _ _ _=>Zq (Qv Ak (Ei 0)) rfl) (Zc (fun _ _ _=>Zq (Qi Ac (Ei 1)) rfl) (Zc (fun _ _ _=>Zq (Qv Ak (Ei 1)) rfl) (Yv (Zc (fun _ _ _=>Zq (OD.quo rfl rfl rfl (hst.1)) rfl) (Zc (fun _ _ _=>Zq (Qi Ac (Ei 1)) rfl) As.nil))))))))))))))) ?_
 intro θ _
 refine Yb [(1,_),(3,_),(4,_),(5,_),(6,_),(9,_),(118,J (IntKind.i64.wrap ((vs.getD (((partF cr cd (i:Int)).getD (t) 0:Int).toNat) 0).tdiv a))),(119,Aa v2 1 (((partF cr cd (i:Int)).getD (t) 0:Int).toNat))] (_::_) ?_
 show G _ _ _ [_] _ _ _ _
 refine G.stepD0 (OD.storeInt rfl Ak rfl rfl (i:=1) rfl (by omega)) rfl rfl ?_
 refine Zn (GE.blockN (Zt (Zr ?_)))
 refine Zm rfl (Zd (OD.addI rfl rfl rfl (by first | omega | (simp only[List.length_set,List.length_replicate];omega))) rfl ?_)
 exact Za rfl (Zn (Yg (t+1,(vs).set (((partF cr cd (i:Int)).getD (t) 0:Int).toNat) (IntKind.i64.wrap ((vs.getD (((partF cr cd (i:Int)).getD (t) 0:Int).toNat) 0).tdiv a))) (⟨by omega,by rw[List.length_set];exact hvl,hst.2⟩) [] 0))
 replace hc13:=of_decide_eq_false hc13
 refine GC.exit (Zp (Zp (GE.hit (GE.blockN (Zt (Zr ?_))))))
 refine Zm rfl (Zd Qp rfl ?_)
 exact Za rfl (Zn (Yg (i+1,vs) (⟨by omega,hvl,by rw[Rn hv (by omega)];exact hrest⟩) [1,1] 1))
 replace hc4:=of_decide_eq_false hc4
 refine GC.exit (Zp (Zp (GE.hit (Zt (Zs (Zr ?_))))))
 refine Zm rfl (Za rfl (Zn (Zt (GC.ret ?_))))
 exact GE.body [0] 1 (Ao rfl rfl) rfl (⟨v2,rfl,hs3,congrArg (fun l0=>ints 3 v2 l0::own) ((Y7 hy (by omega):ys=A3 cr cd))⟩)
theorem Lq {W:World}{own:List Asn}{cr:Int}{vcd:Value}{cd:List Int}(scd:Ab vcd)(ecd:Ent own fun w=>Ints w vcd cd)(hty:(Ax cr cd).isSome=true):Spec Tryz.prog 120 [.agg #[J (cr),vcd]] W own (fun v ow=>∃ (r0:Value),v=r0∧Ab r0∧ow=ints 3 r0 (A3 cr cd)::own):=by
 have hcr:=(AB hty).1
 have hcd:=(AB hty).2
 have hlen:=G3 hty
 have hrl:(List.replicate (cr:Int).toNat (0:Int)).length=cr.toNat:=List.length_replicate
 refine Spec.enter Tryz.f120 _ Tryz.func120 rfl (n:=121) rfl rfl ?_
 refine Zs (Zr (Yt (OG.box (cs:=[J (cr),vcd]) rfl rfl rfl) ?_))
 rintro _ _ ⟨g1,rfl,rfl⟩
 refine Za rfl (Zn (Zt (Zs (Zr (Zd (Qf Aq) rfl ?_)))))
 refine Zd (Ql Ak 0) rfl ?_
 refine Yt (OG.makeInts rfl Ac rfl rfl (by omega)) ?_
 rintro v2 _ ⟨hs3,rfl⟩
 refine Za rfl (Zn (Zt (Zs (Zs (Zr (Zm rfl (Zd (Qn Ac (Ei 0)) rfl ?_)))))))
 refine Zm rfl (Zn (Zt (GC.block ?_)))
 refine Yl (ι:=Nat × List Int) (fun⟨i,ys⟩=>[(1,Pg g1 0),(3,v2),(17,J (((List.replicate (cr:Int).toNat (0:Int)).length:Nat))),(18,J ((i:Int)))]) (fun⟨i,ys⟩=>ints 3 v2 ys::box g1 27 [J (cr),vcd]::own) (fun⟨i,ys⟩=>(i≤cr.toNat)∧(ys.length=cr.toNat)∧(liO cr cd (cr.toNat - i) i ys=some (A3 cr cd))) (fun⟨i,ys⟩=>cr.toNat - i) (0,(List.replicate (cr:Int).toNat 0)) (⟨by omega,hrl,hlen.2.1⟩) [] 0 ?_
 rintro⟨i,ys⟩ ⟨hi,hyl,hy⟩
 refine Zs (Zr (Zd Bb rfl ?_))
 refine Zn (Zt (Zs ?_))
 refine GC.cond rfl (fun hc4=>?_) (fun hc4=>?_)
 replace hc4:=of_decide_eq_true hc4
 refine Zk (Zt (Zs (GC.block (Zs (Zr ?_)))))
 refine Zm rfl (Za rfl (Zn (Zt (Zs (Zs (Zr (Zm rfl (Zm rfl (Zd (Qi Ac (Ei 0)) rfl ?_)))))))))
 refine Zd (Qv Ak (Ei 0)) rfl ?_
 refine Zd EK rfl ?_
 refine Zn (Zt ?_)
 refine GC.cond rfl (fun hc5=>?_) (fun hc5=>?_)
 replace hc5:=AA hc5
 refine GC.exit (Zp (GE.hit (Zt (Zr ?_))))
 refine Zd Qp rfl ?_
 exact Zm rfl (Zn (Yg (i+1,ys) (⟨by omega,hyl,cv hy (by omega) hc5⟩) [] 0))
 replace hc5:=Al hc5
 refine Zk (Zt (Zs (Zr (Zm rfl (Yt (OG.buildInts (xs:=[.tmp 26]) (is:=[(i:Int)]) rfl Ac rfl rfl rfl rfl rfl) ?_)))))
 rintro v6 _ ⟨hs7,rfl⟩
 refine Za rfl (Zn (Zt (Zs (Zr (Zm rfl (Zm rfl (Zd (Qi Ac (Ei 1)) rfl ?_)))))))
 refine G.stepD0 (OD.storeInt rfl Ak rfl rfl (i:=1) rfl (by omega)) rfl rfl ?_
 refine Zn (Zt (Zs (Zs (Zr (Za rfl (Zn (Zt (GC.block ?_))))))))
 obtain⟨y1,p1,z1,hk0,hdv,hrest⟩:=ZE hy (by omega) hc5
 refine Yl (ι:=Nat × Nat × List Int × List Int × Value) (fun⟨k,g,zs,ps,bv⟩=>[(1,Pg g1 0),(3,v2),(17,J (((List.replicate (cr:Int).toNat (0:Int)).length:Nat))),(18,J ((i:Int))),(4,J ((i:Int))),(5,bv),(6,J ((k:Int)))]) (fun⟨k,g,zs,ps,bv⟩=>ints 3 bv ps::ints 3 v2 zs::box g1 27 [J (cr),vcd]::own) (fun⟨k,g,zs,ps,bv⟩=>(zs.length=cr.toNat)∧(liK cr cd g k zs ps=some (y1,p1))∧(∀ y∈ps,0≤y∧y<cr)∧(ps.length+4*g≤25)∧(k≤ps.length)∧(Ab bv)) (fun⟨k,g,zs,ps,bv⟩=>g) (0,6,(ys.set i 36),[(i:Int)],v6) (⟨by rw[List.length_set];exact hyl,hk0,by intro x hx;simp only[List.mem_singleton] at hx;omega,by simp,by simp,hs7⟩) [] 0 ?_
 rintro⟨k,g,zs,ps,bv⟩ ⟨hzl,hz,hps,hpl,hkp,hbv⟩
 refine Zs (Zs (Zr (Zm rfl (Zm rfl (Zd (Qn Ac (Ei 0)) rfl ?_)))))
 refine Zd Bb rfl ?_
 refine Zn (Zt ?_)
 refine GC.cond rfl (fun hc8=>?_) (fun hc8=>?_)
 replace hc8:=of_decide_eq_true hc8
 have hr:=Bi hps (k:=k) (by omega)
 have hr0:=Bi hps (k:=(k:Int).toNat) (by omega)
 refine Zk (Zt (Zs (GC.block (Zs (Zr ?_)))))
 refine Zm rfl (Zd (Qn Ac (Ei 1)) rfl ?_)
 refine Zm rfl (Zn (Zt (GC.block ?_)))
 obtain⟨g2,o2,q2,hg2,hj0,hk1⟩:=VY hz (by omega)
 refine Yl (ι:=Nat × List Int × List Int × Value) (fun⟨j,us,qs,bw⟩=>[(1,Pg g1 0),(3,v2),(17,J (((List.replicate (cr:Int).toNat (0:Int)).length:Nat))),(18,J ((i:Int))),(4,J ((i:Int))),(6,J ((k:Int))),(38,J ((zs.length:Nat))),(5,bw),(39,J ((j:Int)))]) (fun⟨j,us,qs,bw⟩=>ints 3 bw qs::ints 3 v2 us::box g1 27 [J (cr),vcd]::own) (fun⟨j,us,qs,bw⟩=>(j≤cr.toNat)∧(us.length=cr.toNat)∧(liJ cr cd k (cr.toNat - j) j us qs=some (o2,q2))∧(∀ y∈qs,0≤y∧y<cr)∧(qs.length≤ps.length+j)∧(k<qs.length)∧(Ab bw)) (fun⟨j,us,qs,bw⟩=>cr.toNat - j) (0,zs,ps,bv) (⟨by omega,hzl,hj0,hps,by omega,by omega,hbv⟩) [] 0 ?_
 rintro⟨j,us,qs,bw⟩ ⟨hj,hul,hu,hqs,hql,hkq,hbw⟩
 refine Zs (Zr (Zd Bb rfl ?_))
 refine Zn (Zt (Zs ?_))
 refine GC.cond rfl (fun hc9=>?_) (fun hc9=>?_)
 replace hc9:=of_decide_eq_true hc9
 have hr:=Bi hqs (k:=k) (by omega)
 have hr0:=Bi hqs (k:=(k:Int).toNat) (by omega)
 have hx1:=Be (n:=cr) (i:=qs.getD k 0) (j:=j) ⟨by omega,by omega⟩ ⟨by omega,by omega⟩ (by omega)
 have hx2:=Be (n:=cr) (i:=j) (j:=qs.getD k 0) ⟨by omega,by omega⟩ ⟨by omega,by omega⟩ (by omega)
 refine Zk (Zt (Zs (GC.block (Zs (Zr ?_)))))
 refine Zm rfl (Za rfl (Zn (Zt (Zs ?_))))
 rcases Bool.eq_false_or_eq_true ((us.getD (j) 0)==0) with hg10 | hg10
 have hg10p:=hg10
 replace hg10p:=eq_of_beq hg10p
 refine Ya [(1,_),(3,_),(17,_),(18,_),(4,_),(6,_),(38,_),(5,_),(39,_),(7,_)] ?_
 refine Wp [Z0 42 v2,Z0 43 (J ((j:Int))),Z1 44 [(0,42),(1,43)] (Aa v2 1 (j)),Z1 45 [(2,44)] (J (us.getD (j) 0)),Z1 46 [(3,45)] (.bool true),Z1 47 [(4,46)] (.bool true),Z1 48 [(5,47)] (.agg #[J (cr),vcd]),Z1 49 [(5,47)] bw,Z1 50 [(5,47)] (J ((k:Int))),Z1 51 [(5,47),(7,49),(8,50)] (Aa bw 1 (k)),Z1 52 [(5,47),(9,51)] (J (qs.getD (k) 0)),Z1 53 [(5,47)] (J ((j:Int))),Z1 54 [(5,47),(6,48),(10,52),(11,53)] (J (atI cr cd (qs.getD (k) 0) (j:Int))),Z1 55 [(5,47),(12,54)] (.bool ((atI cr cd (qs.getD (k) 0) (j:Int)) != 0)),Z1 56 [(5,47),(13,55)] (.bool ((atI cr cd (qs.getD (k) 0) (j:Int)) != 0))] (Yv (Yv (Zc (fun _ _ _=>Zq (Qi Ac (Ei 1)) rfl) (Zc (fun _ _ _=>Zq (Qv Ak (Ei 1)) rfl) (Zc (fun _ _ _=>AR.plain (OG.imp FJ (by rintro _ _ ⟨rfl,rfl⟩;exact⟨[],congrArg Value.bool hg10,trivial,rfl⟩)) rfl) (Yv (Zc (fun _ _ _=>Zo (Qa An 2 [_,_]) rfl rfl rfl rfl trivial rfl) (Yw (Yw (Zc (fun _ _ _=>Zo (Qi Ac (Ei 0)) rfl rfl rfl rfl trivial rfl) (Zc (fun _ _ _=>Zo (Qv Ak (Ei 0)) rfl rfl rfl rfl trivial rfl) (Yw (Zc (fun _ _ _=>Zo (Yc [.agg #[J (cr),vcd],J (qs.getD (k) 0),J ((j:Int))] Nj (by exact(XY scd (Ent.drop 3 ecd.app) (by omega)))) rfl rfl rfl rfl trivial rfl) (Zc (fun _ _ _=>Zo EK rfl rfl rfl rfl trivial rfl) (Zc (fun _ _ _=>Zq (OD.pickT rfl rfl rfl) rfl) As.nil))))))))))))))) ?_
 intro θ _
 refine Yb [(1,_),(3,_),(17,_),(18,_),(4,_),(6,_),(38,_),(5,_),(39,_),(7,_),(56,.bool ((atI cr cd (qs.getD (k) 0) (j:Int)) != 0))] (_::_) ?_
 show G _ _ _ [] _ _ _ _
 refine Zn (Zt ?_)
 refine GC.cond rfl (fun hc11=>?_) (fun hc11=>?_)
 replace hc11:=AA hc11
 have hqq:=X2 hu (by omega) (eq_of_beq hg10) hc11
 refine Zs (Ya [(1,_),(3,_),(17,_),(18,_),(4,_),(6,_),(38,_),(5,_),(39,_),(7,_)] ?_)
 refine Wp [Z0 57 v2,Z0 58 (J ((j:Int))),Z0 59 v2,Z0 60 bw,Z0 61 (J ((k:Int))),Z1 62 [(3,60),(4,61)] (Aa bw 1 (k)),Z1 63 [(5,62)] (J (qs.getD (k) 0)),Z1 64 [(2,59),(6,63)] (Aa v2 1 ((qs.getD (k) 0:Int).toNat)),Z1 65 [(7,64)] (J (us.getD ((qs.getD (k) 0:Int).toNat) 0)),Z0 66 (.agg #[J (cr),vcd]),Z0 67 bw,Z0 68 (J ((k:Int))),Z1 69 [(10,67),(11,68)] (Aa bw 1 (k)),Z1 70 [(12,69)] (J (qs.getD (k) 0)),Z0 71 (J ((j:Int))),Z1 72 [(9,66),(13,70),(14,71)] (J (atI cr cd (qs.getD (k) 0) (j:Int))),Z1 73 [(8,65),(15,72)] (J (IntKind.i64.wrap ((us.getD ((qs.getD (k) 0:Int).toNat) 0)*(atI cr cd (qs.getD (k) 0) (j:Int))))),Z0 74 (.agg #[J (cr),vcd]),Z0 75 (J ((j:Int))),Z0 76 bw,Z0 77 (J ((k:Int))),Z1 78 [(19,76),(20,77)] (Aa bw 1 (k)),Z1 79 [(21,78)] (J (qs.getD (k) 0)),Z1 80 [(17,74),(18,75),(22,79)] (J (atI cr cd (j:Int) (qs.getD (k) 0))),Z1 81 [(16,73),(23,80)] (J (IntKind.i64.wrap ((IntKind.i64.wrap ((us.getD ((qs.getD (k) 0:Int).toNat) 0)*(atI cr cd (qs.getD (k) 0) (j:Int)))).tdiv (atI cr cd (j:Int) (qs.getD (k) 0))))),Z1 82 [(0,57),(1,58)] (Aa v2 1 (j))] (Yv (Yv (Yv (Yv (Yv (Zc (fun _ _ _=>Zq (Qi Ac (Ei 0)) rfl) (Zc (fun _ _ _=>Zq (Qv Ak (Ei 0)) rfl) (Zc (fun _ _ _=>Zq (Qi Ac (Ei 1)) rfl) (Zc (fun _ _ _=>Zq (Qv Ak (Ei 1)) rfl) (Zc (fun _ _ _=>Zq (Qa An 2 [_,_]) rfl) (Yv (Yv (Zc (fun _ _ _=>Zq (Qi Ac (Ei 0)) rfl) (Zc (fun _ _ _=>Zq (Qv Ak (Ei 0)) rfl) (Yv (Zc (fun _ _ _=>Zq (Yc [.agg #[J (cr),vcd],J (qs.getD (k) 0),J ((j:Int))] Nj (by exact(XY scd (Ent.drop 3 ecd.app) (by omega)))) rfl) (Zc (fun _ _ _=>Zq CN rfl) (Zc (fun _ _ _=>Zq (Qa An 2 [_,_]) rfl) (Yv (Yv (Yv (Zc (fun _ _ _=>Zq (Qi Ac (Ei 0)) rfl) (Zc (fun _ _ _=>Zq (Qv Ak (Ei 0)) rfl) (Zc (fun _ _ _=>Zq (Yc [.agg #[J (cr),vcd],J ((j:Int)),J (qs.getD (k) 0)] Nj (by exact(XY scd (Ent.drop 3 ecd.app) (by omega)))) rfl) (Zc (fun _ _ _=>Zq (OD.quo rfl rfl rfl (hqq.1)) rfl) (Zc (fun _ _ _=>Zq (Qi Ac (Ei 1)) rfl) As.nil)))))))))))))))))))))))))) ?_
 intro θ _
 refine Yb [(1,_),(3,_),(17,_),(18,_),(4,_),(6,_),(38,_),(5,_),(39,_),(7,_),(81,J (IntKind.i64.wrap ((IntKind.i64.wrap ((us.getD ((qs.getD (k) 0:Int).toNat) 0)*(atI cr cd (qs.getD (k) 0) (j:Int)))).tdiv (atI cr cd (j:Int) (qs.getD (k) 0))))),(82,Aa v2 1 (j))] (_::_) ?_
 show G _ _ _ [_] _ _ _ _
 refine G.stepD0 (OD.storeInt rfl Ak rfl rfl (i:=1) rfl (by omega)) rfl rfl ?_
 refine Zn (Zt (Zr (Zm rfl (Zm rfl (Yt (OG.buildInts (xs:=[.tmp 84]) (is:=[(j:Int)]) rfl Ac rfl rfl rfl rfl rfl) ?_)))))
 rintro v12 _ ⟨hs13,rfl⟩
 refine Yt (OG.appendInts 1 rfl rfl Ac rfl rfl rfl (Ei 0) (by first | omega | (simp;omega))) ?_
 rintro v14 _ ⟨hs15,rfl⟩
 refine Za rfl (Zn (GE.blockN (Zt (Zr ?_))))
 refine Zd (OD.addI rfl rfl rfl (by first | omega | (simp only[List.length_set,List.length_replicate];omega))) rfl ?_
 exact Zm rfl (Zn (Yg (j+1,(us).set (j) (IntKind.i64.wrap ((IntKind.i64.wrap ((us.getD ((qs.getD (k) 0:Int).toNat) 0)*(atI cr cd (qs.getD (k) 0) (j:Int)))).tdiv (atI cr cd (j:Int) (qs.getD (k) 0)))),qs++[(j:Int)],v14) (⟨by omega,by rw[List.length_set];exact hul,hqq.2,EY hqs ⟨by omega,by omega⟩,by rw[List.length_append,List.length_singleton];omega,by rw[List.length_append,List.length_singleton];omega,hs15⟩) [1,1,1] 1))
 replace hc11:=Al hc11
 refine Zk (GE.blockN (Zt (Zr ?_)))
 refine Zd Qp rfl ?_
 exact Zm rfl (Zn (Yg (j+1,us,qs,bw) (⟨by omega,hul,Xb hu (by omega) (Ri hc11),hqs,by omega,hkq,hbw⟩) [] 0))
 have hg10p:=hg10
 replace hg10p:=ne_of_beq_false hg10p
 refine Ya [(1,_),(3,_),(17,_),(18,_),(4,_),(6,_),(38,_),(5,_),(39,_),(7,_)] ?_
 refine Wp [Z0 42 v2,Z0 43 (J ((j:Int))),Z1 44 [(0,42),(1,43)] (Aa v2 1 (j)),Z1 45 [(2,44)] (J (us.getD (j) 0)),Z1 46 [(3,45)] (.bool false),Z1 47 [(4,46)] (.bool false),Z1 48 [(5,47)] undef,Z1 49 [(5,47)] undef,Z1 50 [(5,47)] undef,Z1 51 [(5,47),(7,49),(8,50)] undef,Z1 52 [(5,47),(9,51)] undef,Z1 53 [(5,47)] undef,Z1 54 [(5,47),(6,48),(10,52),(11,53)] undef,Z1 55 [(5,47),(12,54)] undef,Z1 56 [(5,47),(13,55)] (.bool false)] (Yv (Yv (Zc (fun _ _ _=>Zq (Qi Ac (Ei 1)) rfl) (Zc (fun _ _ _=>Zq (Qv Ak (Ei 1)) rfl) (Zc (fun _ _ _=>AR.plain (OG.imp FJ (by rintro _ _ ⟨rfl,rfl⟩;exact⟨[],congrArg Value.bool hg10,trivial,rfl⟩)) rfl) (Yv (Yo (Yo (Yo (Yo (Yo (Yo (Yo (Yo (Zc (fun _ _ _=>Zq (OD.pickF rfl rfl rfl) rfl) As.nil))))))))))))))) ?_
 intro θ _
 refine Yb [(1,_),(3,_),(17,_),(18,_),(4,_),(6,_),(38,_),(5,_),(39,_),(7,_),(56,.bool false)] (_::_) ?_
 show G _ _ _ [] _ _ _ _
 refine Zn (Zt (GC.condF rfl (Zk (GE.blockN (Zt (Zr ?_))))))
 refine Zd Qp rfl ?_
 exact Zm rfl (Zn (Yg (j+1,us,qs,bw) (⟨by omega,hul,Xb hu (by omega) (QQ hg10),hqs,by omega,hkq,hbw⟩) [] 0))
 replace hc9:=of_decide_eq_false hc9
 refine GC.exit (Zp (Zp (GE.hit (GE.blockN (Zt (Zr ?_))))))
 refine Zm rfl (Zd Qp rfl ?_)
 exact Za rfl (Zn (Yg (k+1,g2,us,qs,bw) (⟨hul,by have e:=Prod.mk.inj (YV hu (by omega));rw[e.1,e.2];exact hk1,hqs,by omega,by omega,hbw⟩) [] 0))
 replace hc8:=of_decide_eq_false hc8
 refine GC.exit (Zp (Zp (GE.hit (Zt (Zs (Zr ?_))))))
 refine Zm rfl (Zm rfl (Zd (Qi Ac (Ei 1)) rfl ?_))
 refine Zd (Qv Ak (Ei 1)) rfl ?_
 refine Za rfl (Zn (Zt (Zs (Zs (Zr (Zm rfl (Zd (Qn Ac (Ei 0)) rfl ?_)))))))
 refine Zm rfl (Zn (Zt (GC.block ?_)))
 refine Yl (ι:=Nat × Int) (fun⟨t,a⟩=>[(1,Pg g1 0),(3,v2),(17,J (((List.replicate (cr:Int).toNat (0:Int)).length:Nat))),(18,J ((i:Int))),(5,bv),(92,bv),(93,J ((ps.length:Nat))),(8,J (a)),(94,J ((t:Int)))]) (fun⟨t,a⟩=>ints 3 bv ps::ints 3 v2 zs::box g1 27 [J (cr),vcd]::own) (fun⟨t,a⟩=>(t≤ps.length)∧(a=fY zs ps (zs.getD i 0) t)) (fun⟨t,a⟩=>ps.length - t) (0,(zs.getD i 0)) (⟨by omega,rfl⟩) [] 0 ?_
 rintro⟨t,a⟩ ⟨ht,ha⟩
 refine Zs (Zr (Zd Bb rfl ?_))
 refine Zn (Zt (Zs ?_))
 refine GC.cond rfl (fun hc16=>?_) (fun hc16=>?_)
 replace hc16:=of_decide_eq_true hc16
 have hr4:=Bi hps (k:=t) (by omega)
 have hr40:=Bi hps (k:=(t:Int).toNat) (by omega)
 refine Zk (Zt (Zs (GC.block (Zs (Zr ?_)))))
 refine Zd (Qi Ac (Ei 0)) rfl ?_
 refine Zd (Qv Ak (Ei 0)) rfl ?_
 refine Za rfl (Zn (Zt (Zr (Zm rfl (Zm rfl (Zm rfl (Zd (Qi Ac (Ei 1)) rfl ?_)))))))
 refine Zd (Qv Ak (Ei 1)) rfl ?_
 refine Zd (OD.min rfl rfl rfl rfl) rfl ?_
 refine Za rfl (Zn (GE.blockN (Zt (Zr ?_))))
 refine Zd Qp rfl ?_
 exact Zm rfl (Zn (Yg (t+1,min (a) (zs.getD ((ps.getD (t) 0:Int).toNat) 0)) (⟨by omega,Ar ha rfl⟩) [] 0))
 replace hc16:=of_decide_eq_false hc16
 refine GC.exit (Zp (Zp (GE.hit (Zt (Zs (Zr ?_))))))
 refine Zm rfl (Zd (Qn Ac (Ei 0)) rfl ?_)
 refine Zm rfl (Zn (Zt (GC.block ?_)))
 refine Yl (ι:=Nat × List Int) (fun⟨s,vs⟩=>[(1,Pg g1 0),(3,v2),(17,J (((List.replicate (cr:Int).toNat (0:Int)).length:Nat))),(18,J ((i:Int))),(8,J (a)),(105,bv),(106,J ((ps.length:Nat))),(107,J ((s:Int)))]) (fun⟨s,vs⟩=>ints 3 bv ps::ints 3 v2 vs::box g1 27 [J (cr),vcd]::own) (fun⟨s,vs⟩=>(s≤ps.length)∧(vs.length=cr.toNat)∧(dvL ps a (ps.length - s) s vs=some z1)) (fun⟨s,vs⟩=>ps.length - s) (0,zs) (⟨by omega,hzl,by have e:=Prod.mk.inj (Zu hz (by omega));rw[ha,show t=ps.length by omega,e.1,e.2];exact hdv⟩) [] 0 ?_
 rintro⟨s,vs⟩ ⟨hs,hvl,hv⟩
 refine Zs (Zr (Zd Bb rfl ?_))
 refine Zn (Zt (Zs ?_))
 refine GC.cond rfl (fun hc17=>?_) (fun hc17=>?_)
 replace hc17:=of_decide_eq_true hc17
 have hst:=OC hv (by omega)
 have hr3:=Bi hps (k:=s) (by omega)
 have hr30:=Bi hps (k:=(s:Int).toNat) (by omega)
 refine Zk (Zt (Zs (GC.block (Zs (Zr ?_)))))
 refine Zd (Qi Ac (Ei 0)) rfl ?_
 refine Zd (Qv Ak (Ei 0)) rfl ?_
 refine Za rfl (Zn (Zt (Zr (Zm rfl (Zm rfl (Zd (Qi Ac (Ei 1)) rfl ?_))))))
 refine Zd (Qv Ak (Ei 1)) rfl ?_
 refine Zm rfl (Zd (OD.quo rfl rfl rfl (hst.1)) rfl ?_)
 refine Zd (Qi Ac (Ei 1)) rfl ?_
 refine G.stepD0 (OD.storeInt rfl Ak rfl rfl (i:=1) rfl (by omega)) rfl rfl ?_
 refine Zn (GE.blockN (Zt (Zr ?_)))
 refine Zd (OD.addI rfl rfl rfl (by first | omega | (simp only[List.length_set,List.length_replicate];omega))) rfl ?_
 exact Zm rfl (Zn (Yg (s+1,(vs).set ((ps.getD (s) 0:Int).toNat) (IntKind.i64.wrap ((vs.getD ((ps.getD (s) 0:Int).toNat) 0).tdiv a))) (⟨by omega,by rw[List.length_set];exact hvl,hst.2⟩) [] 0))
 replace hc17:=of_decide_eq_false hc17
 refine GC.exit (Zp (Zp (GE.hit (GE.blockN (Zt (Zr ?_))))))
 refine Zd Qp rfl ?_
 exact Zm rfl (Zn (Yg (i+1,vs) (⟨by omega,hvl,by rw[Rn hv (by omega)];exact hrest⟩) [1,1] 1))
 replace hc4:=of_decide_eq_false hc4
 refine GC.exit (Zp (Zp (GE.hit (Zt (Zs (Zr ?_))))))
 refine Zm rfl (Za rfl (Zn (Zt (GC.ret ?_))))
 exact GE.body [0] 1 (Ao rfl rfl) rfl (⟨v2,rfl,hs3,congrArg (fun l0=>ints 3 v2 l0::own) ((ZH hy (by omega):ys=A3 cr cd))⟩)
theorem L1 {W:World}{own:List Asn}{cr:Int}{vcd:Value}{cd:List Int}{vx:Value}{x:List Int}{vy:Value}{y:List Int}(scd:Ab vcd)(ecd:Ent own fun w=>Ints w vcd cd)(sx:Ab vx)(ex:Ent own fun w=>Ints w vx x)(sy:Ab vy)(ey:Ent own fun w=>Ints w vy y)(hty:(Ax cr cd).isSome=true)(hx:(x.length:Int)=cr)(hy:(y.length:Int)=cr):Spec Tryz.prog 168 [.agg #[J (cr),vcd],vx,vy] W own (fun v ow=>v=J (EH cr cd x y)∧ow=own):=by
 have hcr:=(AB hty).1
 have hcd:=(AB hty).2
 have hll:=(G3 hty).2.2
 have hwl:=Dj cr cd y
 refine Spec.enter Tryz.f168 _ Tryz.func168 rfl (n:=39) rfl rfl ?_
 refine Zs (Zr (Yt (OG.box (cs:=[J (cr),vcd]) rfl rfl rfl) ?_))
 rintro _ _ ⟨g1,rfl,rfl⟩
 refine Za rfl (Zn (Zt (Zs (Zr (Zd (Qa An 0 [_,_]) rfl ?_)))))
 refine Yt (Yc [.agg #[J (cr),vcd]] VN (by exact(Hm scd (Ent.drop 1 ecd) (hty)))) ?_
 rintro v2 _ ⟨_,rfl,hs3,rfl⟩
 refine Za rfl (Zn (Zt (Zs (Zr (Zd (Qa An 1 [_,_]) rfl ?_)))))
 refine Zm rfl (Yt (Yc [.agg #[J (cr),vcd],vy] Pd (by exact(FW scd (Ent.drop 2 ecd) sy (Ent.drop 2 ey) (hcr) (hcd) (hy)))) ?_)
 rintro v4 _ ⟨_,rfl,hs5,rfl⟩
 refine Za rfl (Zn (Zt (Zs (Zr (Za rfl (Zn (Zt (Zs (Zs (Zr (Za rfl (Zn (Zt (GC.block ?_))))))))))))))
 refine Yl (ι:=Nat × Int) (fun⟨i,s⟩=>[(1,vx),(3,Pg g1 0),(7,v2),(8,v4),(9,J (s)),(10,J ((i:Int)))]) (fun⟨i,s⟩=>ints 3 v4 (wtF cr cd y)::ints 3 v2 (A3 cr cd)::box g1 27 [J (cr),vcd]::own) (fun⟨i,s⟩=>(i≤x.length)∧(s=(List.range i).foldl (fun(s:Int) (i:Nat)=>IntKind.i64.wrap (s+IntKind.i64.wrap (IntKind.i64.wrap (x.getD i 0*(A3 cr cd).getD i 0)*(wtF cr cd y).getD i 0))) 0)) (fun⟨i,s⟩=>x.length - i) (0,0) (⟨by omega,rfl⟩) [] 0 ?_
 rintro⟨i,s⟩ ⟨hi,hs⟩
 refine Zs (Zs (Zr (Zm rfl (Zd (Qf Aq) rfl ?_))))
 refine Zd (Ql Ak 2) rfl ?_
 refine Zd Bb rfl ?_
 refine Zn (Zt ?_)
 refine GC.cond rfl (fun hc6=>?_) (fun hc6=>?_)
 replace hc6:=of_decide_eq_true hc6
 refine Zk (Zt (Zs (GC.block ?_)))
 refine Ya [(1,_),(3,_),(7,_),(8,_),(9,_),(10,_)] ?_
 refine Wp [Z0 22 (J (s)),Z0 23 vx,Z0 24 (J ((i:Int))),Z1 25 [(1,23),(2,24)] (Aa vx 1 (i)),Z1 26 [(3,25)] (J (x.getD (i) 0)),Z0 27 v2,Z0 28 (J ((i:Int))),Z1 29 [(5,27),(6,28)] (Aa v2 1 (i)),Z1 30 [(7,29)] (J ((A3 cr cd).getD (i) 0)),Z1 31 [(4,26),(8,30)] (J (IntKind.i64.wrap ((x.getD (i) 0)*((A3 cr cd).getD (i) 0)))),Z0 32 v4,Z0 33 (J ((i:Int))),Z1 34 [(10,32),(11,33)] (Aa v4 1 (i)),Z1 35 [(12,34)] (J ((wtF cr cd y).getD (i) 0)),Z1 36 [(9,31),(13,35)] (J (IntKind.i64.wrap ((IntKind.i64.wrap ((x.getD (i) 0)*((A3 cr cd).getD (i) 0)))*((wtF cr cd y).getD (i) 0)))),Z1 37 [(0,22),(14,36)] (J (IntKind.i64.wrap (s+(IntKind.i64.wrap ((IntKind.i64.wrap ((x.getD (i) 0)*((A3 cr cd).getD (i) 0)))*((wtF cr cd y).getD (i) 0))))))] (Yv (Yv (Yv (Zc (fun _ _ _=>Zq (Qi Ac (Ent.drop 3 ex.app)) rfl) (Zc (fun _ _ _=>Zq (Qv Ak (Ent.drop 3 ex.app)) rfl) (Yv (Yv (Zc (fun _ _ _=>Zq (Qi Ac (Ei 1)) rfl) (Zc (fun _ _ _=>Zq (Qv Ak (Ei 1)) rfl) (Zc (fun _ _ _=>Zq CN rfl) (Yv (Yv (Zc (fun _ _ _=>Zq (Qi Ac (Ei 0)) rfl) (Zc (fun _ _ _=>Zq (Qv Ak (Ei 0)) rfl) (Zc (fun _ _ _=>Zq CN rfl) (Zc (fun _ _ _=>Zq Ha rfl) As.nil)))))))))))))))) ?_
 intro θ _
 refine Yb [(1,_),(3,_),(7,_),(8,_),(9,_),(10,_),(37,J (IntKind.i64.wrap (s+(IntKind.i64.wrap ((IntKind.i64.wrap ((x.getD (i) 0)*((A3 cr cd).getD (i) 0)))*((wtF cr cd y).getD (i) 0))))))] (_::_) ?_
 show G _ _ _ [_] _ _ _ _
 refine Za rfl (Zn (GE.blockN (Zt (Zr ?_))))
 refine Zm rfl (Zd Qp rfl ?_)
 exact Za rfl (Zn (Yg (i+1,IntKind.i64.wrap (s+(IntKind.i64.wrap ((IntKind.i64.wrap ((x.getD (i) 0)*((A3 cr cd).getD (i) 0)))*((wtF cr cd y).getD (i) 0))))) (⟨by omega,Ar hs rfl⟩) [] 0))
 replace hc6:=of_decide_eq_false hc6
 refine GC.exit (Zp (Zp (GE.hit (Zt (Zs (Zr ?_))))))
 refine Zm rfl (Za rfl (Zn (Zt (GC.ret ?_))))
 exact GE.body [] 3 (Ao rfl rfl) rfl (⟨congrArg (fun a0=>(J (a0):Value)) ((by rw[hs,show i=x.length by omega];rfl:(s:Int)=EH cr cd x y)),rfl⟩)
theorem Q8 {W:World}{own:List Asn}{cr:Int}{vcd:Value}{cd:List Int}{vx:Value}{x:List Int}{vy:Value}{y:List Int}(scd:Ab vcd)(ecd:Ent own fun w=>Ints w vcd cd)(sx:Ab vx)(ex:Ent own fun w=>Ints w vx x)(sy:Ab vy)(ey:Ent own fun w=>Ints w vy y)(hty:(Ax cr cd).isSome=true)(hx:(x.length:Int)=cr)(hy:(y.length:Int)=cr):Spec Tryz.prog 57 [.agg #[J (cr),vcd],vx,vy] W own (fun v ow=>v=J (EH cr cd x y)∧ow=own):=by
 have hcr:=(AB hty).1
 have hcd:=(AB hty).2
 have hll:=(G3 hty).2.2
 have hwl:=Dj cr cd y
 refine Spec.enter Tryz.f57 _ Tryz.func57 rfl (n:=39) rfl rfl ?_
 refine Zs (Zr (Yt (OG.box (cs:=[J (cr),vcd]) rfl rfl rfl) ?_))
 rintro _ _ ⟨g1,rfl,rfl⟩
 refine Za rfl (Zn (Zt (Zs (Zr (Za rfl (Zn (Zt (Zs (Zr (Zd (Qa An 0 [_,_]) rfl ?_))))))))))
 refine Yt (Yc [.agg #[J (cr),vcd]] Tj (by exact(Lq scd (Ent.drop 1 ecd) (hty)))) ?_
 rintro v2 _ ⟨_,rfl,hs3,rfl⟩
 refine Za rfl (Zn (Zt (Zs (Zr (Zd (Qa An 1 [_,_]) rfl ?_)))))
 refine Zm rfl (Yt (Yc [.agg #[J (cr),vcd],vy] Re (by exact(Eo scd (Ent.drop 2 ecd) sy (Ent.drop 2 ey) (hcr) (hcd) (hy)))) ?_)
 rintro v4 _ ⟨_,rfl,hs5,rfl⟩
 refine Za rfl (Zn (Zt (Zs (Zs (Zr (Zm rfl (Zd (Qn Ac (Ent.drop 3 ex)) rfl ?_)))))))
 refine Zm rfl (Zn (Zt (GC.block ?_)))
 refine Yl (ι:=Nat × Int) (fun⟨i,s⟩=>[(1,vx),(8,v2),(9,v4),(17,J ((x.length:Nat))),(7,J (s)),(18,J ((i:Int)))]) (fun⟨i,s⟩=>ints 3 v4 (wtF cr cd y)::ints 3 v2 (A3 cr cd)::box g1 27 [J (cr),vcd]::own) (fun⟨i,s⟩=>(i≤x.length)∧(s=(List.range i).foldl (fun(s:Int) (i:Nat)=>IntKind.i64.wrap (s+IntKind.i64.wrap (IntKind.i64.wrap (x.getD i 0*(A3 cr cd).getD i 0)*(wtF cr cd y).getD i 0))) 0)) (fun⟨i,s⟩=>x.length - i) (0,0) (⟨by omega,rfl⟩) [] 0 ?_
 rintro⟨i,s⟩ ⟨hi,hs⟩
 refine Zs (Zr (Zd Bb rfl ?_))
 refine Zn (Zt (Zs ?_))
 refine GC.cond rfl (fun hc6=>?_) (fun hc6=>?_)
 replace hc6:=of_decide_eq_true hc6
 refine Zk (Zt (Zs (GC.block (Zs (Zr ?_)))))
 refine Zm rfl (Za rfl (Zn (Zt (Ya [(1,_),(8,_),(9,_),(17,_),(7,_),(18,_),(10,_)] ?_))))
 refine Wp [Z0 21 (J (s)),Z0 22 vx,Z0 23 (J ((i:Int))),Z1 24 [(1,22),(2,23)] (Aa vx 1 (i)),Z1 25 [(3,24)] (J (x.getD (i) 0)),Z0 26 v2,Z0 27 (J ((i:Int))),Z1 28 [(5,26),(6,27)] (Aa v2 1 (i)),Z1 29 [(7,28)] (J ((A3 cr cd).getD (i) 0)),Z1 30 [(4,25),(8,29)] (J (IntKind.i64.wrap ((x.getD (i) 0)*((A3 cr cd).getD (i) 0)))),Z0 31 v4,Z0 32 (J ((i:Int))),Z1 33 [(10,31),(11,32)] (Aa v4 1 (i)),Z1 34 [(12,33)] (J ((wtF cr cd y).getD (i) 0)),Z1 35 [(9,30),(13,34)] (J (IntKind.i64.wrap ((IntKind.i64.wrap ((x.getD (i) 0)*((A3 cr cd).getD (i) 0)))*((wtF cr cd y).getD (i) 0)))),Z1 36 [(0,21),(14,35)] (J (IntKind.i64.wrap (s+(IntKind.i64.wrap ((IntKind.i64.wrap ((x.getD (i) 0)*((A3 cr cd).getD (i) 0)))*((wtF cr cd y).getD (i) 0))))))] (Yv (Yv (Yv (Zc (fun _ _ _=>Zq (Qi Ac (Ent.drop 3 ex.app)) rfl) (Zc (fun _ _ _=>Zq (Qv Ak (Ent.drop 3 ex.app)) rfl) (Yv (Yv (Zc (fun _ _ _=>Zq (Qi Ac (Ei 1)) rfl) (Zc (fun _ _ _=>Zq (Qv Ak (Ei 1)) rfl) (Zc (fun _ _ _=>Zq CN rfl) (Yv (Yv (Zc (fun _ _ _=>Zq (Qi Ac (Ei 0)) rfl) (Zc (fun _ _ _=>Zq (Qv Ak (Ei 0)) rfl) (Zc (fun _ _ _=>Zq CN rfl) (Zc (fun _ _ _=>Zq Ha rfl) As.nil)))))))))))))))) ?_
 intro θ _
 refine Yb [(1,_),(8,_),(9,_),(17,_),(7,_),(18,_),(36,J (IntKind.i64.wrap (s+(IntKind.i64.wrap ((IntKind.i64.wrap ((x.getD (i) 0)*((A3 cr cd).getD (i) 0)))*((wtF cr cd y).getD (i) 0))))))] (_::_) ?_
 show G _ _ _ [_] _ _ _ _
 refine Za rfl (Zn (GE.blockN (Zt (Zr ?_))))
 refine Zd Qp rfl ?_
 exact Zm rfl (Zn (Yg (i+1,IntKind.i64.wrap (s+(IntKind.i64.wrap ((IntKind.i64.wrap ((x.getD (i) 0)*((A3 cr cd).getD (i) 0)))*((wtF cr cd y).getD (i) 0))))) (⟨by omega,Ar hs rfl⟩) [] 0))
 replace hc6:=of_decide_eq_false hc6
 refine GC.exit (Zp (Zp (GE.hit (Zt (Zs (Zr ?_))))))
 refine Zm rfl (Za rfl (Zn (Zt (GC.ret ?_))))
 exact GE.body [] 3 (Ao rfl rfl) rfl (⟨congrArg (fun a0=>(J (a0):Value)) ((by rw[hs,show i=x.length by omega];rfl:(s:Int)=EH cr cd x y)),rfl⟩)
end Go.Proofs.YtbmnnbglipkidaaGreatDoor
