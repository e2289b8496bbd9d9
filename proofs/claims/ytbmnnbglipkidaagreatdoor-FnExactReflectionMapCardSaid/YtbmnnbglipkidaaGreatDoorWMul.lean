/-
  Products of matrices: contracts by walks.
-/
import Derived.Test.YtbmnnbglipkidaaGreatDoorWMat
namespace Go.Proofs.YtbmnnbglipkidaaGreatDoor
set_option maxRecDepth 100000
set_option maxHeartbeats 4000000
set_option linter.unusedVariables false
set_option linter.unusedSimpArgs false
open Go.RowKit
theorem OY:∀ us w,(callFunc 134 us).run Tryz.prog w = .ok (.enter 134 us) w:=fun us w=>by kernel_rfl
theorem VZ:∀ us w,(callFunc 140 us).run Tryz.prog w = .ok (.enter 140 us) w:=fun us w=>by kernel_rfl
theorem PO:∀ us w,(callFunc 148 us).run Tryz.prog w = .ok (.enter 148 us) w:=fun us w=>by kernel_rfl
theorem Tx {W:World}{own:List Asn}{vx:Value}{x:List Int}{l h:Nat}{k:Int}{vy:Value}{y:List Int}{p:Int}(sx:Ab vx)(sy:Ab vy)(ey:Ent own fun w=>Ints w vy y)(hb:l≤h∧h≤x.length)(hle:y.length≤h - l)(hl2:x.length≤1073741824)(hp:1≤p):Spec Tryz.prog 148 [(Cc 1 vx l h),J (k),vy,J (p)] W (ints 3 vx x::own) (fun v ow=>v = .tuple #[]∧ow=ints 3 vx (MO x l k p y)::own):=by
 refine Spec.enter Tryz.f148 _ Tryz.func148 rfl (n:=31) rfl rfl ?_
 refine Zs (Zr (Zm rfl (Zd (Qn Ac (Ent.drop 1 ey)) rfl ?_)))
 refine Zm rfl (Zn (Zt (GC.block ?_)))
 refine Yl (ι:=Nat × List Int) (fun⟨i,ys⟩=>[(0,(Cc 1 vx l h)),(1,J (k)),(3,J (p)),(10,vy),(11,J ((y.length:Nat))),(12,J ((i:Int)))]) (fun⟨i,ys⟩=>ints 3 vx ys::own) (fun⟨i,ys⟩=>(i≤y.length)∧(ys.length=x.length)∧(ys=(List.range i).foldl (fun(o:List Int) (i:Nat)=>o.set (l+i) ((IntKind.i64.wrap (o.getD (l+i) 0+IntKind.i64.wrap (k*y.getD i 0))).tmod p)) x)) (fun⟨i,ys⟩=>y.length - i) (0,x) (⟨by omega,rfl,rfl⟩) [] 0 ?_
 rintro⟨i,ys⟩ ⟨hi,hyl,hy⟩
 refine Zs (Zr (Zd Bb rfl ?_))
 refine Zn (Zt (Zs ?_))
 refine GC.cond rfl (fun hc1=>?_) (fun hc1=>?_)
 replace hc1:=of_decide_eq_true hc1
 refine Zk (Zt (Zs (GC.block (Zs (Zr ?_)))))
 refine Zm rfl (Zd (Qi Ac (Ent.drop 1 ey)) rfl ?_)
 refine Zd (Qv Ak (Ent.drop 1 ey)) rfl ?_
 refine Za rfl (Za rfl (Zn (Zt (Zr (Zm rfl (Zm rfl (Zm rfl (Zm rfl (Zd (OD.indexSub rfl Ac rfl (Ei 0) (by omega) rfl (by omega)) rfl ?_)))))))))
 refine Zd (Qv Ak (Ei 0)) rfl ?_
 refine Zm rfl (Zm rfl (Zd CN rfl ?_))
 refine Zd Ha rfl ?_
 refine Zm rfl (Zd (OD.rem rfl rfl rfl (by omega)) rfl ?_)
 refine Zd (OD.indexSub rfl Ac rfl (Ei 0) (by omega) rfl (by omega)) rfl ?_
 refine G.stepD0 (OD.storeInt rfl Ak rfl rfl (i:=0) rfl (by omega)) rfl rfl ?_
 refine Zn (GE.blockN (Zt (Zr ?_)))
 refine Zd (OD.addI rfl rfl rfl (by first | omega | (simp only[List.length_set,List.length_replicate];omega))) rfl ?_
 exact Zm rfl (Zn (Yg (i+1,(ys).set (l+i) ((IntKind.i64.wrap ((ys.getD (l+i) 0)+(IntKind.i64.wrap (k*(y.getD (i) 0))))).tmod p)) (⟨by omega,by rw[List.length_set];exact hyl,CV hy rfl⟩) [] 0))
 replace hc1:=of_decide_eq_false hc1
 refine GC.exit (Zp (Zp (GE.hit ?_)))
 exact GE.bodyN [] 0 (UN rfl) rfl (⟨rfl,congrArg (fun l0=>ints 3 vx l0::own) ((by rw[hy,show i=y.length by omega];rfl:ys=MO x l k p y))⟩)
theorem MW {W:World}{own:List Asn}{ap:Int}{ar:Int}{ac:Int}{vad:Value}{ad:List Int}{bp:Int}{br:Int}{bc:Int}{vbd:Value}{bd:List Int}(sad:Ab vad)(ead:Ent own fun w=>Ints w vad ad)(sbd:Ab vbd)(ebd:Ent own fun w=>Ints w vbd bd)(hr:0≤ar∧ar≤40)(hc:0≤ac∧ac≤40)(hbc:0≤bc∧bc≤40)(hal:(ad.length:Int)=ar*ac)(hbl:(bd.length:Int)=ac*bc)(hp:1≤ap∧ap≤10007):Spec Tryz.prog 89 [.agg #[J (ap),J (ar),J (ac),vad],.agg #[J (bp),J (br),J (bc),vbd]] W own (fun v ow=>∃ (r3:Value),v = .agg #[J (ap),J (ar),J (bc),r3]∧Ab r3∧ow=ints 3 r3 (mulF ap ar ac bc ad bd)::own):=by
 have hm1:=BH (A:=40) (B:=40) hr hbc
 have hm2:=BH (A:=40) (B:=40) hr hc
 have hm3:=BH (A:=40) (B:=40) hc hbc
 refine Spec.enter Tryz.f89 _ Tryz.func89 rfl (n:=77) rfl rfl ?_
 refine Zs (Zr (Yt (OG.box (cs:=[J (ap),J (ar),J (ac),vad]) rfl rfl rfl) ?_))
 rintro _ _ ⟨g1,rfl,rfl⟩
 refine Yt (OG.box (cs:=[J (bp),J (br),J (bc),vbd]) rfl rfl rfl) ?_
 rintro _ _ ⟨g2,rfl,rfl⟩
 refine Yt (OG.alloc rfl Ah (zs:=[J (0),J (0),J (0),.slice none 0 0]) rfl) ?_
 rintro _ _ ⟨g3,rfl,rfl⟩
 refine Zn (Zt (Zs (Ya [(2,_),(3,_),(4,_)] ?_)))
 refine Wp [Z0 10 (Pg g1 0),Z1 11 [(0,10)] (J (ap)),Z0 12 (Pg g1 1),Z1 13 [(2,12)] (J (ar)),Z0 14 (Pg g2 2),Z1 15 [(4,14)] (J (bc)),Z0 16 (Pg g1 1),Z1 17 [(6,16)] (J (ar)),Z0 18 (Pg g2 2),Z1 19 [(8,18)] (J (bc)),Z1 20 [(7,17),(9,19)] (J (ar*bc)),⟨21,[(10,20)],[],[],[11],fun ds=>((ds.getD 0 []).getD 0 undef),fun ds=>Ab ((ds.getD 0 []).getD 0 undef),fun ds=>[ints 3 ((ds.getD 0 []).getD 0 undef) (List.replicate (ar*bc:Int).toNat (0:Int))]⟩,⟨22,[(1,11),(3,13),(5,15),(11,21)],[11],[],[11],fun ds => .agg #[J (ap),J (ar),J (bc),((ds.getD 0 []).getD 0 undef)],fun _=>True,fun _=>[]⟩,⟨5,[],[],[],[13],fun ds => .pointer (some ⟨(gOf ((ds.getD 0 []).getD 0 undef)),0,none⟩),fun _=>True,fun ds=>[box (gOf ((ds.getD 0 []).getD 0 undef)) 51 [J (0),J (0),J (0),.slice none 0 0]]⟩] (Zc (fun _ _ _=>Zq (Qf BG) rfl) (Zc (fun _ _ _=>Zq (Ql Ak 2) rfl) (Zc (fun _ _ _=>Zq (Qf BJ) rfl) (Zc (fun _ _ _=>Zq (Ql Ak 2) rfl) (Zc (fun _ _ _=>Zq (Qf BN) rfl) (Zc (fun _ _ _=>Zq (Ql Ak 1) rfl) (Zc (fun _ _ _=>Zq (Qf BJ) rfl) (Zc (fun _ _ _=>Zq (Ql Ak 2) rfl) (Zc (fun _ _ _=>Zq (Qf BN) rfl) (Zc (fun _ _ _=>Zq (Ql Ak 1) rfl) (Zc (fun _ _ _=>Zq Qm rfl) (Zc (fun _ _ _=>AR.plain (OG.imp (OG.makeInts rfl Ac rfl rfl (by omega)) (by rintro v4 _ ⟨hs5,rfl⟩;exact⟨[v4],rfl,hs5,rfl⟩)) rfl) (Zc (fun θ _ ⟨_,_,_,h11d,_⟩=>Zq (OD.build (idx:=[0,1,2,3]) (xs:=[.tmp 11,.tmp 13,.tmp 15,.tmp 21]) (vs:=[J (ap),J (ar),J (bc),((θ 11).getD 0 undef)]) (cs:=[[J (ap)],[J (ar)],[J (bc)],[((θ 11).getD 0 undef)]]) (zs:=[J (0),J (0),J (0),.slice none 0 0]) (r:=[J (ap),J (ar),J (bc),((θ 11).getD 0 undef)]) rfl Ah rfl rfl rfl ⟨rfl,⟨rfl,⟨rfl,⟨(AN (Ab.one h11d)),trivial⟩⟩⟩⟩ rfl) rfl) (Zc (fun _ _ _=>AR.plain (OG.imp (OG.alloc rfl Ah (zs:=[J (0),J (0),J (0),.slice none 0 0]) rfl) (by rintro _ _ ⟨g6,rfl,rfl⟩;exact⟨[Pg g6 0],rfl,trivial,rfl⟩)) rfl) As.nil)))))))))))))) ?_
 intro θ hall
 obtain⟨_,_,_,_,_,_,_,_,_,_,_,h11a,_,h13a,_⟩:=hall
 refine Yb [(2,_),(3,_),(4,_),(22,.agg #[J (ap),J (ar),J (bc),((θ 11).getD 0 undef)]),(5,.pointer (some ⟨(gOf ((θ 13).getD 0 undef)),0,none⟩))] (ints 3 ((θ 11).getD 0 undef) (List.replicate (ar*bc:Int).toNat (0:Int))::box (gOf ((θ 13).getD 0 undef)) 51 [J (0),J (0),J (0),.slice none 0 0]::_::_) ?_
 have hs7:Ab ((θ 11).getD 0 undef):=h11a
 clear h11a
 generalize ((θ 11).getD 0 undef)=v8 at *
 clear h13a
 generalize (gOf ((θ 13).getD 0 undef))=b9 at *
 show G _ _ _ [_] _ _ _ _
 refine Yu Ah [J (ap),J (ar),J (bc),v8] 1 (Ad rfl (Ad rfl (Ad rfl (Ad (Ab.one hs7) rfl)))) ?_
 refine Zn (Zt (Zs (Zs (Zr (Zd (Qf BJ) rfl ?_)))))
 refine Zd (Ql Ak 4) rfl ?_
 refine Zm rfl (Zn (Zt (GC.block ?_)))
 refine Yl (ι:=Nat × List Int) (fun⟨i,ys⟩=>[(2,Pg g1 0),(3,Pg g2 0),(4,Pg g3 0),(5,Pg b9 0),(24,J (ar)),(25,J ((i:Int)))]) (fun⟨i,ys⟩=>ints 3 v8 ys::box b9 51 [J (ap),J (ar),J (bc),v8]::box g3 51 [J (0),J (0),J (0),.slice none 0 0]::box g2 51 [J (bp),J (br),J (bc),vbd]::box g1 51 [J (ap),J (ar),J (ac),vad]::own) (fun⟨i,ys⟩=>((i:Int)≤ar)∧(ys.length=(ar*bc).toNat)∧(ys=(List.range i).foldl (fun(o:List Int) (i:Nat)=>FR ap ac bc ad bd i o) (List.replicate (ar*bc).toNat 0))) (fun⟨i,ys⟩=>ar.toNat - i) (0,List.replicate (ar*bc:Int).toNat (0:Int)) (⟨by omega,by simp,rfl⟩) [] 0 ?_
 rintro⟨i,ys⟩ ⟨hi,hyl,hy⟩
 refine Zs (Zr (Zd Bb rfl ?_))
 refine Zn (Zt (Zs ?_))
 refine GC.cond rfl (fun hc10=>?_) (fun hc10=>?_)
 replace hc10:=of_decide_eq_true hc10
 obtain⟨hp1,hp2,hp3⟩:=Cs (n:=ar) (c:=bc) (i:=i) (by omega) (by omega)
 obtain⟨hq1,hq2,hq3⟩:=Cs (n:=ar) (c:=ac) (i:=i) (by omega) (by omega)
 refine Zk (Zt (Zs (GC.block (Zs (Zr ?_)))))
 refine Zm rfl (Za rfl (Zn (Zt (Zs (Zr (Zd (Qf BV) rfl ?_))))))
 refine Zd (Ql AH 1) rfl ?_
 refine Zm rfl (Zd (Qf BN) rfl ?_)
 refine Zd (Ql Ak 3) rfl ?_
 refine Zd Qm rfl ?_
 refine Zm rfl (Zd Qp rfl ?_)
 refine Zd (Qf BN) rfl ?_
 refine Zd (Ql Ak 3) rfl ?_
 refine Zd Qm rfl ?_
 refine Zd (OD.sliceSl rfl Ac rfl rfl rfl (Ei 0) (by omega)) rfl ?_
 refine Za rfl (Zn (Zt (Zs (Zr (Zd (Qf BN) rfl ?_)))))
 refine Zd (Ql Ak 4) rfl ?_
 refine Zm rfl (Zn (Zt (GC.block ?_)))
 refine Yl (ι:=Nat × List Int) (fun⟨k,zs⟩=>[(2,Pg g1 0),(3,Pg g2 0),(4,Pg g3 0),(5,Pg b9 0),(24,J (ar)),(25,J ((i:Int))),(6,J ((i:Int))),(7,(Cc 1 v8 (((i:Int)*bc:Int).toNat) ((((i:Int)+1)*bc:Int).toNat))),(41,J (ac)),(42,J ((k:Int)))]) (fun⟨k,zs⟩=>ints 3 v8 zs::box b9 51 [J (ap),J (ar),J (bc),v8]::box g3 51 [J (0),J (0),J (0),.slice none 0 0]::box g2 51 [J (bp),J (br),J (bc),vbd]::box g1 51 [J (ap),J (ar),J (ac),vad]::own) (fun⟨k,zs⟩=>((k:Int)≤ac)∧(zs.length=(ar*bc).toNat)∧(zs=(List.range k).foldl (FT ap ac bc ad bd i) ys)) (fun⟨k,zs⟩=>ac.toNat - k) (0,ys) (⟨by omega,hyl,rfl⟩) [] 0 ?_
 rintro⟨k,zs⟩ ⟨hk,hzl,hz⟩
 refine Zs (Zr (Zd Bb rfl ?_))
 refine Zn (Zt (Zs ?_))
 refine GC.cond rfl (fun hc11=>?_) (fun hc11=>?_)
 replace hc11:=of_decide_eq_true hc11
 obtain⟨hr1,hr2,hr3⟩:=Cs (n:=ac) (c:=bc) (i:=k) (by omega) (by omega)
 refine Zk (Zt (Zs (GC.block (Zs (Zr ?_)))))
 refine Zm rfl (Za rfl (Zn (Zt (Zs (Zr (Zd (Qf BV) rfl ?_))))))
 refine Zd (Ql AH 4) rfl ?_
 refine Zm rfl (Zd (Qf BN) rfl ?_)
 refine Zd (Ql Ak 4) rfl ?_
 refine Zd Qm rfl ?_
 refine Zm rfl (Zd Qp rfl ?_)
 refine Zd (Qi Ac (Ent.drop 5 ead)) rfl ?_
 refine Zd (Qv Ak (Ent.drop 5 ead)) rfl ?_
 refine Za rfl (Zn (Zt (Zs (Zr (Zm rfl (Zd EK rfl ?_))))))
 refine Zn (Zt ?_)
 refine GC.cond rfl (fun hc12=>?_) (fun hc12=>?_)
 replace hc12:=AA hc12
 refine Ya [(2,_),(3,_),(4,_),(5,_),(24,_),(25,_),(6,_),(7,_),(41,_),(42,_),(8,_),(9,_)] ?_
 refine Wp [Z0 57 ((Cc 1 v8 (((i:Int)*bc:Int).toNat) ((((i:Int)+1)*bc:Int).toNat))),Z0 58 (J (ad.getD ((((i:Int)*ac)+(k:Int):Int).toNat) 0)),Z0 59 (Pg g2 3),Z1 60 [(2,59)] vbd,Z0 61 (J ((k:Int))),Z0 62 (Pg g2 2),Z1 63 [(5,62)] (J (bc)),Z1 64 [(4,61),(6,63)] (J ((k:Int)*bc)),Z0 65 (J ((k:Int))),Z1 66 [(8,65)] (J ((k:Int)+1)),Z0 67 (Pg g2 2),Z1 68 [(10,67)] (J (bc)),Z1 69 [(9,66),(11,68)] (J (((k:Int)+1)*bc)),Z1 70 [(3,60),(7,64),(12,69)] ((Cc 1 vbd (((k:Int)*bc:Int).toNat) ((((k:Int)+1)*bc:Int).toNat))),Z0 71 (Pg g1 0),Z1 72 [(14,71)] (J (ap))] (Yv (Yv (Zc (fun _ _ _=>Zq (Qf BV) rfl) (Zc (fun _ _ _=>Zq (Ql AH 3) rfl) (Yv (Zc (fun _ _ _=>Zq (Qf BN) rfl) (Zc (fun _ _ _=>Zq (Ql Ak 3) rfl) (Zc (fun _ _ _=>Zq Qm rfl) (Yv (Zc (fun _ _ _=>Zq Qp rfl) (Zc (fun _ _ _=>Zq (Qf BN) rfl) (Zc (fun _ _ _=>Zq (Ql Ak 3) rfl) (Zc (fun _ _ _=>Zq Qm rfl) (Zc (fun _ _ _=>Zq (OD.sliceSl rfl Ac rfl rfl rfl (Ent.drop 5 ebd.app) (by omega)) rfl) (Zc (fun _ _ _=>Zq (Qf BG) rfl) (Zc (fun _ _ _=>Zq (Ql Ak 4) rfl) As.nil)))))))))))))))) ?_
 intro θ _
 refine Yb [(2,_),(3,_),(4,_),(5,_),(24,_),(25,_),(6,_),(7,_),(41,_),(42,_),(57,(Cc 1 v8 (((i:Int)*bc:Int).toNat) ((((i:Int)+1)*bc:Int).toNat))),(58,J (ad.getD ((((i:Int)*ac)+(k:Int):Int).toNat) 0)),(70,(Cc 1 vbd (((k:Int)*bc:Int).toNat) ((((k:Int)+1)*bc:Int).toNat))),(72,J (ap))] (_::_) ?_
 show G _ _ _ [_] _ _ _ _
 refine Yt (Yc [(Cc 1 v8 (((i:Int)*bc:Int).toNat) ((((i:Int)+1)*bc:Int).toNat)),J (ad.getD ((((i:Int)*ac)+(k:Int):Int).toNat) 0),(Cc 1 vbd (((k:Int)*bc:Int).toNat) ((((k:Int)+1)*bc:Int).toNat)),J (ap)] PO (by exact(Tx hs7 (Ow sbd) (Ent.subInts (Ent.drop 4 ebd) (by omega)) (by omega) (Nat.le_trans (T0 (c:=bc) (bd:=bd) (k:=k) (by omega)) (by omega)) (by omega) (by omega)))) ?_
 rintro _ _ ⟨rfl,rfl⟩
 refine Zn (GE.blockN (Zt (Zr ?_)))
 refine Zd Qp rfl ?_
 exact Zm rfl (Zn (Yg (k+1,MO zs (((i:Int)*bc:Int).toNat) (ad.getD ((((i:Int)*ac)+(k:Int):Int).toNat) 0) ap ((bd.drop (((k:Int)*bc:Int).toNat)).take ((((k:Int)+1)*bc:Int).toNat - ((k:Int)*bc:Int).toNat))) (⟨by omega,by rw[Nw];exact hzl,CV hz (by rw[FT,if_neg (by assumption)];rfl)⟩) [] 0))
 replace hc12:=Al hc12
 refine Zk (GE.blockN (Zt (Zr ?_)))
 refine Zd Qp rfl ?_
 exact Zm rfl (Zn (Yg (k+1,zs) (⟨by omega,hzl,CV hz (by rw[FT,if_pos (by assumption)])⟩) [] 0))
 replace hc11:=of_decide_eq_false hc11
 refine GC.exit (Zp (Zp (GE.hit (GE.blockN (Zt (Zr ?_))))))
 refine Zd Qp rfl ?_
 exact Zm rfl (Zn (Yg (i+1,zs) (⟨by omega,hzl,CV hy (by rw[hz,show k=ac.toNat by omega];rfl)⟩) [] 0))
 replace hc10:=of_decide_eq_false hc10
 refine GC.exit (Zp (Zp (GE.hit (Zt (Zs (Zr ?_))))))
 refine Zd (Qa Ah 1 [_,_,_,_]) rfl ?_
 refine Yu Ah [J (ap),J (ar),J (bc),v8] 2 (Ad rfl (Ad rfl (Ad rfl (Ad (Ab.one hs7) rfl)))) ?_
 refine Zn (Zt (GC.ret ?_))
 exact GE.body [0] 4 (AZ rfl (RVs.cons (Ag Ah rfl (i:=2) rfl rfl) RVs.nil) rfl) rfl (⟨v8,rfl,hs7,congrArg (fun l0=>ints 3 v8 l0::own) ((by rw[hy,show i=ar.toNat by omega];rfl:ys=mulF ap ar ac bc ad bd))⟩)
theorem Kd {W:World}{own:List Asn}{p:Int}{r:Int}{c:Int}(hm:0≤r*c∧r*c≤1600):Spec Tryz.prog 134 [J (p),J (r),J (c)] W own (fun v ow=>∃ (r3:Value),v = .agg #[J (p),J (r),J (c),r3]∧Ab r3∧ow=ints 3 r3 (List.replicate ((r:Int)*c).toNat 0)::own):=by
 refine Spec.enter Tryz.f134 _ Tryz.func134 rfl (n:=15) rfl rfl ?_
 refine Zs (Zr (Yt (OG.alloc rfl Ah (zs:=[J (0),J (0),J (0),.slice none 0 0]) rfl) ?_))
 rintro _ _ ⟨g1,rfl,rfl⟩
 refine Zn (Zt (Zs (Zr (Zm rfl (Zm rfl (Zm rfl (Zm rfl (Zm rfl (Zd Qm rfl ?_)))))))))
 refine Yt (OG.makeInts rfl Ac rfl rfl (by omega)) ?_
 rintro v2 _ ⟨hs3,rfl⟩
 refine Zd (OD.build (idx:=[0,1,2,3]) (xs:=[.tmp 7,.tmp 8,.tmp 9,.tmp 13]) (vs:=[J (p),J (r),J (c),v2]) (cs:=[[J (p)],[J (r)],[J (c)],[v2]]) (zs:=[J (0),J (0),J (0),.slice none 0 0]) (r:=[J (p),J (r),J (c),v2]) rfl Ah rfl rfl rfl ⟨rfl,⟨rfl,⟨rfl,⟨(AN (Ab.one hs3)),trivial⟩⟩⟩⟩ rfl) rfl ?_
 refine Yu Ah [J (p),J (r),J (c),v2] 1 (Ad rfl (Ad rfl (Ad rfl (Ad (Ab.one hs3) rfl)))) ?_
 refine Zn (Zt (GC.ret ?_))
 exact GE.body [0] 1 (AZ rfl (RVs.cons (Ag Ah rfl (i:=1) rfl rfl) RVs.nil) rfl) rfl (⟨v2,rfl,hs3,rfl⟩)
theorem VO {W:World}{own:List Asn}{mp:Int}{mr:Int}{mc:Int}{vmd:Value}{md:List Int}{i:Int}{j:Int}(smd:Ab vmd)(emd:Ent own fun w=>Ints w vmd md)(hi:0≤i*mc∧i*mc≤1600)(hj:0≤j∧j≤40)(hlt:i*mc+j<md.length):Spec Tryz.prog 140 [.agg #[J (mp),J (mr),J (mc),vmd],J (i),J (j)] W own (fun v ow=>v=J (md.getD (i*mc+j:Int).toNat 0)∧ow=own):=by
 refine Spec.enter Tryz.f140 _ Tryz.func140 rfl (n:=17) rfl rfl ?_
 refine Zs (Zr (Yt (OG.box (cs:=[J (mp),J (mr),J (mc),vmd]) rfl rfl rfl) ?_))
 rintro _ _ ⟨g1,rfl,rfl⟩
 refine Za rfl (Zn (Zt (Zs (Zr (Zd (Qf BV) rfl ?_)))))
 refine Zd (Ql AH 0) rfl ?_
 refine Zm rfl (Zd (Qf BN) rfl ?_)
 refine Zd (Ql Ak 0) rfl ?_
 refine Zd Qm rfl ?_
 refine Zm rfl (Zd Qp rfl ?_)
 refine Zd (Qi Ac (Ent.drop 1 emd)) rfl ?_
 refine Zd (Qv Ak (Ent.drop 1 emd)) rfl ?_
 refine Za rfl (Zn (Zt (GC.ret ?_)))
 exact GE.body [] 1 (Ao rfl rfl) rfl (⟨rfl,rfl⟩)
theorem Mq {W:World}{own:List Asn}{ap:Int}{ar:Int}{ac:Int}{vad:Value}{ad:List Int}{bp:Int}{br:Int}{bc:Int}{vbd:Value}{bd:List Int}(sad:Ab vad)(ead:Ent own fun w=>Ints w vad ad)(sbd:Ab vbd)(ebd:Ent own fun w=>Ints w vbd bd)(hr:0≤ar∧ar≤40)(hc:0≤ac∧ac≤40)(hbc:0≤bc∧bc≤40)(hal:(ad.length:Int)=ar*ac)(hbl:(bd.length:Int)=ac*bc)(hp:1≤ap∧ap≤10007):Spec Tryz.prog 83 [.agg #[J (ap),J (ar),J (ac),vad],.agg #[J (bp),J (br),J (bc),vbd]] W own (fun v ow=>∃ (r3:Value),v = .agg #[J (ap),J (ar),J (bc),r3]∧Ab r3∧ow=ints 3 r3 (mulF ap ar ac bc ad bd)::own):=by
 have hm1:=BH (A:=40) (B:=40) hr hbc
 have hm2:=BH (A:=40) (B:=40) hr hc
 have hm3:=BH (A:=40) (B:=40) hc hbc
 refine Spec.enter Tryz.f83 _ Tryz.func83 rfl (n:=73) rfl rfl ?_
 refine Zs (Zr (Yt (OG.box (cs:=[J (ap),J (ar),J (ac),vad]) rfl rfl rfl) ?_))
 rintro _ _ ⟨g1,rfl,rfl⟩
 refine Yt (OG.box (cs:=[J (bp),J (br),J (bc),vbd]) rfl rfl rfl) ?_
 rintro _ _ ⟨g2,rfl,rfl⟩
 refine Yt (OG.alloc rfl Ah (zs:=[J (0),J (0),J (0),.slice none 0 0]) rfl) ?_
 rintro _ _ ⟨g3,rfl,rfl⟩
 refine Zn (Zt (Zs (Zr (Zd (Qf BG) rfl ?_))))
 refine Zd (Ql Ak 2) rfl ?_
 refine Zd (Qf BJ) rfl ?_
 refine Zd (Ql Ak 2) rfl ?_
 refine Zd (Qf BN) rfl ?_
 refine Zd (Ql Ak 1) rfl ?_
 refine Yt (Yc [J (ap),J (ar),J (bc)] OY (by exact(Kd (by omega)))) ?_
 rintro _ _ ⟨v4,rfl,hs5,rfl⟩
 refine Yt (OG.alloc rfl Ah (zs:=[J (0),J (0),J (0),.slice none 0 0]) rfl) ?_
 rintro _ _ ⟨g6,rfl,rfl⟩
 refine Yu Ah [J (ap),J (ar),J (bc),v4] 0 (Ad rfl (Ad rfl (Ad rfl (Ad (Ab.one hs5) rfl)))) ?_
 refine Zn (Zt (Zs (Zs (Zr (Za rfl (Zn (Zt (GC.block ?_))))))))
 refine Yl (ι:=Nat × List Int) (fun⟨i,ys⟩=>[(2,Pg g1 0),(3,Pg g2 0),(4,Pg g3 0),(5,Pg g6 0),(6,J ((i:Int)))]) (fun⟨i,ys⟩=>box g6 51 [J (ap),J (ar),J (bc),v4]::ints 3 v4 ys::box g3 51 [J (0),J (0),J (0),.slice none 0 0]::box g2 51 [J (bp),J (br),J (bc),vbd]::box g1 51 [J (ap),J (ar),J (ac),vad]::own) (fun⟨i,ys⟩=>((i:Int)≤ar)∧(ys.length=(ar*bc).toNat)∧(ys=(List.range i).foldl (fun(o:List Int) (i:Nat)=>FR ap ac bc ad bd i o) (List.replicate (ar*bc).toNat 0))) (fun⟨i,ys⟩=>ar.toNat - i) (0,List.replicate ((ar:Int)*bc).toNat 0) (⟨by omega,by simp,rfl⟩) [] 0 ?_
 rintro⟨i,ys⟩ ⟨hi,hyl,hy⟩
 refine Zs (Zs (Zr (Zm rfl (Zd (Qf BJ) rfl ?_))))
 refine Zd (Ql Ak 4) rfl ?_
 refine Zd Bb rfl ?_
 refine Zn (Zt ?_)
 refine GC.cond rfl (fun hc7=>?_) (fun hc7=>?_)
 replace hc7:=of_decide_eq_true hc7
 obtain⟨hp1,hp2,hp3⟩:=Cs (n:=ar) (c:=bc) (i:=i) (by omega) (by omega)
 obtain⟨hq1,hq2,hq3⟩:=Cs (n:=ar) (c:=ac) (i:=i) (by omega) (by omega)
 refine Zk (Zt (Zs (GC.block (Zs (Zr ?_)))))
 refine Za rfl (Zn (Zt (GC.block ?_)))
 refine Yl (ι:=Nat × List Int) (fun⟨k,zs⟩=>[(2,Pg g1 0),(3,Pg g2 0),(4,Pg g3 0),(5,Pg g6 0),(6,J ((i:Int))),(7,J ((k:Int)))]) (fun⟨k,zs⟩=>box g6 51 [J (ap),J (ar),J (bc),v4]::ints 3 v4 zs::box g3 51 [J (0),J (0),J (0),.slice none 0 0]::box g2 51 [J (bp),J (br),J (bc),vbd]::box g1 51 [J (ap),J (ar),J (ac),vad]::own) (fun⟨k,zs⟩=>((k:Int)≤ac)∧(zs.length=(ar*bc).toNat)∧(zs=(List.range k).foldl (FT ap ac bc ad bd i) ys)) (fun⟨k,zs⟩=>ac.toNat - k) (0,ys) (⟨by omega,hyl,rfl⟩) [] 0 ?_
 rintro⟨k,zs⟩ ⟨hk,hzl,hz⟩
 refine Zs (Zs (Zr (Zm rfl (Zd (Qf BN) rfl ?_))))
 refine Zd (Ql Ak 4) rfl ?_
 refine Zd Bb rfl ?_
 refine Zn (Zt ?_)
 refine GC.cond rfl (fun hc8=>?_) (fun hc8=>?_)
 replace hc8:=of_decide_eq_true hc8
 obtain⟨hr1,hr2,hr3⟩:=Cs (n:=ac) (c:=bc) (i:=k) (by omega) (by omega)
 refine Zk (Zt (Zs (GC.block (Zs (Zr ?_)))))
 refine Zd (Qa Ah 4 [_,_,_,_]) rfl ?_
 refine Zm rfl (Zm rfl (Yt (Yc [.agg #[J (ap),J (ar),J (ac),vad],J ((i:Int)),J ((k:Int))] VZ (by exact(VO sad (Ent.drop 5 ead) (by omega) (by omega) (by omega)))) ?_))
 rintro _ _ ⟨rfl,rfl⟩
 refine Za rfl (Zn (Zt (Zs (Zr (Za rfl (Zn (Zt (GC.block ?_))))))))
 refine Yl (ι:=Nat × List Int) (fun⟨j,us⟩=>[(2,Pg g1 0),(3,Pg g2 0),(4,Pg g3 0),(5,Pg g6 0),(6,J ((i:Int))),(7,J ((k:Int))),(8,J (ad.getD ((i:Int)*ac+(k:Int):Int).toNat 0)),(9,J ((j:Int)))]) (fun⟨j,us⟩=>box g6 51 [J (ap),J (ar),J (bc),v4]::ints 3 v4 us::box g3 51 [J (0),J (0),J (0),.slice none 0 0]::box g2 51 [J (bp),J (br),J (bc),vbd]::box g1 51 [J (ap),J (ar),J (ac),vad]::own) (fun⟨j,us⟩=>((j:Int)≤bc)∧(us.length=(ar*bc).toNat)∧(us=(List.range j).foldl (fun(o:List Int) (j:Nat)=>o.set (((i:Int)*bc).toNat+j) ((IntKind.i64.wrap (o.getD (((i:Int)*bc).toNat+j) 0+IntKind.i64.wrap (ad.getD ((i:Int)*ac+(k:Int)).toNat 0*(rowY bc bd k).getD j 0))).tmod ap)) zs)∧(ad.getD ((i:Int)*ac+(k:Int)).toNat 0=0→j=0)) (fun⟨j,us⟩=>bc.toNat - j) (0,zs) (⟨by omega,hzl,rfl,fun _=>rfl⟩) [] 0 ?_
 rintro⟨j,us⟩ ⟨hj,hul,hu,h0⟩
 refine Zs (Zs (Zr (Zm rfl (Zd (Qf BN) rfl ?_))))
 refine Zd (Ql Ak 3) rfl ?_
 refine Zd Bb rfl ?_
 refine Zm rfl ?_
 rcases Bool.eq_false_or_eq_true (decide ((j:Int)<bc)) with hg9 | hg9
 have hg9e:=hg9
 rw[hg9e]
 replace hg9:=of_decide_eq_true hg9
 refine Yd (OD.move rfl rfl) ?_
 refine Yd EK ?_
 refine Zd (OD.pickT rfl rfl rfl) rfl ?_
 refine Zn (Zt ?_)
 refine GC.cond rfl (fun hc10=>?_) (fun hc10=>?_)
 replace hc10:=AA hc10
 refine Zk (Zt (Zs (GC.block ?_)))
 refine Ya [(2,_),(3,_),(4,_),(5,_),(6,_),(7,_),(8,_),(9,_)] ?_
 refine Wp [Z0 43 (Pg g6 3),Z1 44 [(0,43)] v4,Z0 45 (J ((i:Int))),Z0 46 (Pg g2 2),Z1 47 [(3,46)] (J (bc)),Z1 48 [(2,45),(4,47)] (J ((i:Int)*bc)),Z0 49 (J ((j:Int))),Z1 50 [(5,48),(6,49)] (J (((i:Int)*bc)+(j:Int))),Z0 51 (Pg g6 3),Z1 52 [(8,51)] v4,Z0 53 (J ((i:Int))),Z0 54 (Pg g2 2),Z1 55 [(11,54)] (J (bc)),Z1 56 [(10,53),(12,55)] (J ((i:Int)*bc)),Z0 57 (J ((j:Int))),Z1 58 [(13,56),(14,57)] (J (((i:Int)*bc)+(j:Int))),Z1 59 [(9,52),(15,58)] (Aa v4 1 ((((i:Int)*bc)+(j:Int):Int).toNat)),Z1 60 [(16,59)] (J (us.getD ((((i:Int)*bc)+(j:Int):Int).toNat) 0)),Z0 61 (J (ad.getD ((i:Int)*ac+(k:Int):Int).toNat 0)),Z0 62 (.agg #[J (bp),J (br),J (bc),vbd]),Z0 63 (J ((k:Int))),Z0 64 (J ((j:Int))),Z1 65 [(19,62),(20,63),(21,64)] (J (bd.getD ((k:Int)*bc+(j:Int):Int).toNat 0)),Z1 66 [(18,61),(22,65)] (J (IntKind.i64.wrap ((ad.getD ((i:Int)*ac+(k:Int):Int).toNat 0)*(bd.getD ((k:Int)*bc+(j:Int):Int).toNat 0)))),Z1 67 [(17,60),(23,66)] (J (IntKind.i64.wrap ((us.getD ((((i:Int)*bc)+(j:Int):Int).toNat) 0)+(IntKind.i64.wrap ((ad.getD ((i:Int)*ac+(k:Int):Int).toNat 0)*(bd.getD ((k:Int)*bc+(j:Int):Int).toNat 0)))))),Z0 68 (Pg g1 0),Z1 69 [(25,68)] (J (ap)),Z1 70 [(24,67),(26,69)] (J ((IntKind.i64.wrap ((us.getD ((((i:Int)*bc)+(j:Int):Int).toNat) 0)+(IntKind.i64.wrap ((ad.getD ((i:Int)*ac+(k:Int):Int).toNat 0)*(bd.getD ((k:Int)*bc+(j:Int):Int).toNat 0))))).tmod ap)),Z1 71 [(1,44),(7,50)] (Aa v4 1 ((((i:Int)*bc)+(j:Int):Int).toNat))] (Zc (fun _ _ _=>Zq (Qf BV) rfl) (Zc (fun _ _ _=>Zq (Ql AH 0) rfl) (Yv (Zc (fun _ _ _=>Zq (Qf BN) rfl) (Zc (fun _ _ _=>Zq (Ql Ak 3) rfl) (Zc (fun _ _ _=>Zq Qm rfl) (Yv (Zc (fun _ _ _=>Zq Qp rfl) (Zc (fun _ _ _=>Zq (Qf BV) rfl) (Zc (fun _ _ _=>Zq (Ql AH 0) rfl) (Yv (Zc (fun _ _ _=>Zq (Qf BN) rfl) (Zc (fun _ _ _=>Zq (Ql Ak 3) rfl) (Zc (fun _ _ _=>Zq Qm rfl) (Yv (Zc (fun _ _ _=>Zq Qp rfl) (Zc (fun _ _ _=>Zq (Qi Ac (Ei 1)) rfl) (Zc (fun _ _ _=>Zq (Qv Ak (Ei 1)) rfl) (Yv (Zc (fun _ _ _=>Zq (Qa Ah 3 [_,_,_,_]) rfl) (Yv (Yv (Zc (fun _ _ _=>Zq (Yc [.agg #[J (bp),J (br),J (bc),vbd],J ((k:Int)),J ((j:Int))] VZ (by exact(VO sbd (Ent.drop 5 ebd.app) (by omega) (by omega) (by omega)))) rfl) (Zc (fun _ _ _=>Zq CN rfl) (Zc (fun _ _ _=>Zq Ha rfl) (Zc (fun _ _ _=>Zq (Qf BG) rfl) (Zc (fun _ _ _=>Zq (Ql Ak 4) rfl) (Zc (fun _ _ _=>Zq (OD.rem rfl rfl rfl (by omega)) rfl) (Zc (fun _ _ _=>Zq (Qi Ac (Ei 1)) rfl) As.nil))))))))))))))))))))))))))))) ?_
 intro θ _
 refine Yb [(2,_),(3,_),(4,_),(5,_),(6,_),(7,_),(8,_),(9,_),(70,J ((IntKind.i64.wrap ((us.getD ((((i:Int)*bc)+(j:Int):Int).toNat) 0)+(IntKind.i64.wrap ((ad.getD ((i:Int)*ac+(k:Int):Int).toNat 0)*(bd.getD ((k:Int)*bc+(j:Int):Int).toNat 0))))).tmod ap)),(71,Aa v4 1 ((((i:Int)*bc)+(j:Int):Int).toNat))] (_::_) ?_
 show G _ _ _ [_] _ _ _ _
 refine G.stepD0 (OD.storeInt rfl Ak rfl rfl (i:=1) rfl (by omega)) rfl rfl ?_
 refine Zn (GE.blockN (Zt (Zr ?_)))
 refine Zm rfl (Zd (OD.addI rfl rfl rfl (by first | omega | (simp only[List.length_set,List.length_replicate];omega))) rfl ?_)
 exact Za rfl (Zn (Yg (j+1,(us).set ((((i:Int)*bc)+(j:Int):Int).toNat) ((IntKind.i64.wrap ((us.getD ((((i:Int)*bc)+(j:Int):Int).toNat) 0)+(IntKind.i64.wrap ((ad.getD ((i:Int)*ac+(k:Int):Int).toNat 0)*(bd.getD ((k:Int)*bc+(j:Int):Int).toNat 0))))).tmod ap)) (⟨by omega,by rw[List.length_set];exact hul,CV hu (TF (by omega) (by omega)),fun h=>absurd h (by assumption)⟩) [] 0))
 replace hc10:=Al hc10
 refine GC.exit (Zp (Zp (GE.hit (GE.blockN (Zt (Zr ?_))))))
 refine Zm rfl (Zd Qp rfl ?_)
 exact Za rfl (Zn (Yg (k+1,us) (⟨by omega,hul,CV hz (NV (by omega) (by omega) hbl hj hu h0 (fun h=>by first | omega | exact absurd (by assumption) h))⟩) [] 0))
 have hg9e:=hg9
 rw[hg9e]
 replace hg9:=of_decide_eq_false hg9
 iterate 2 refine Yk ?_
 refine Zd (OD.pickF rfl rfl rfl) rfl ?_
 refine Zn (Zt (GC.condF rfl (GC.exit (Zp (Zp (GE.hit (GE.blockN (Zt (Zr ?_)))))))))
 refine Zm rfl (Zd Qp rfl ?_)
 exact Za rfl (Zn (Yg (k+1,us) (⟨by omega,hul,CV hz (NV (by omega) (by omega) hbl hj hu h0 (fun h=>by first | omega | exact absurd (by assumption) h))⟩) [] 0))
 replace hc8:=of_decide_eq_false hc8
 refine GC.exit (Zp (Zp (GE.hit (GE.blockN (Zt (Zr ?_))))))
 refine Zm rfl (Zd Qp rfl ?_)
 exact Za rfl (Zn (Yg (i+1,zs) (⟨by omega,hzl,CV hy (by rw[hz,show k=ac.toNat by omega];rfl)⟩) [] 0))
 replace hc7:=of_decide_eq_false hc7
 refine GC.exit (Zp (Zp (GE.hit (Zt (Zs (Zr ?_))))))
 refine Zd (Qa Ah 0 [_,_,_,_]) rfl ?_
 refine Yu Ah [J (ap),J (ar),J (bc),v4] 2 (Ad rfl (Ad rfl (Ad rfl (Ad (Ab.one hs5) rfl)))) ?_
 refine Zn (Zt (GC.ret ?_))
 exact GE.body [1] 4 (AZ rfl (RVs.cons (Ag Ah rfl (i:=2) rfl rfl) RVs.nil) rfl) rfl (⟨v4,rfl,hs5,congrArg (fun l0=>ints 3 v4 l0::own) ((by rw[hy,show i=ar.toNat by omega];rfl:ys=mulF ap ar ac bc ad bd))⟩)
end Go.Proofs.YtbmnnbglipkidaaGreatDoor
