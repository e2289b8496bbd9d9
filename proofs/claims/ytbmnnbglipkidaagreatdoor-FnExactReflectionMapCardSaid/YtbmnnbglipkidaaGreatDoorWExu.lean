/-
  Unit matrices, inverses, nilpotent matrices: contracts by walks.
-/
import Derived.Test.YtbmnnbglipkidaaGreatDoorWMul
import Derived.Test.YtbmnnbglipkidaaGreatDoorWSmp
import Derived.Test.YtbmnnbglipkidaaGreatDoorZ45
namespace Go.Proofs.YtbmnnbglipkidaaGreatDoor
set_option maxRecDepth 100000
set_option maxHeartbeats 4000000
set_option linter.unusedVariables false
set_option linter.unusedSimpArgs false
open Go.RowKit
theorem K6:∀ us w,(callFunc 59 us).run Tryz.prog w = .ok (.enter 59 us) w:=fun us w=>by kernel_rfl
theorem P6:∀ us w,(callFunc 83 us).run Tryz.prog w = .ok (.enter 83 us) w:=fun us w=>by kernel_rfl
theorem QF:∀ us w,(callFunc 89 us).run Tryz.prog w = .ok (.enter 89 us) w:=fun us w=>by kernel_rfl
theorem VH:∀ us w,(callFunc 135 us).run Tryz.prog w = .ok (.enter 135 us) w:=fun us w=>by kernel_rfl
theorem V2:∀ us w,(callFunc 143 us).run Tryz.prog w = .ok (.enter 143 us) w:=fun us w=>by kernel_rfl
theorem cw:∀ us w,(callFunc 170 us).run Tryz.prog w = .ok (.enter 170 us) w:=fun us w=>by kernel_rfl
theorem bO:∀ us w,(callFunc 171 us).run Tryz.prog w = .ok (.enter 171 us) w:=fun us w=>by kernel_rfl
theorem cm:∀ us w,(callFunc 173 us).run Tryz.prog w = .ok (.enter 173 us) w:=fun us w=>by kernel_rfl
theorem bq:∀ us w,(callFunc 199 us).run Tryz.prog w = .ok (.enter 199 us) w:=fun us w=>by kernel_rfl
theorem PA {W:World}{own:List Asn}{vx:Value}{x:List Int}(sx:Ab vx)(ex:Ent own fun w=>Ints w vx x)(hl:x.length≤1073741824):Spec Tryz.prog 171 [vx] W own (fun v ow=>v = .bool (Dd x)∧ow=own):=by
 refine Spec.enter Tryz.f171 _ Tryz.func171 rfl (n:=15) rfl rfl ?_
 refine Zs (Zr (Za rfl (Zn (Zt (Zs (Zs (Zr (Za rfl (Zn (Zt (GC.block ?_)))))))))))
 refine Yl (ι:=Nat) (fun k=>[(0,vx),(3,J ((k:Int)))]) (fun k=>own) (fun k=>(k≤x.length)∧(∀ i,i<k→x.getD i 0=0)) (fun k=>x.length - k) 0 (⟨by omega,fun i hi=>absurd hi (by omega)⟩) [] 0 ?_
 rintro k ⟨hk,hz⟩
 refine Zs (Zs (Zr (Zm rfl (Zm rfl (Zd (Qn Ac ex) rfl ?_)))))
 refine Zd Bb rfl ?_
 refine Zn (Zt ?_)
 refine GC.cond rfl (fun hc1=>?_) (fun hc1=>?_)
 replace hc1:=of_decide_eq_true hc1
 refine Zk (Zt (Zs (GC.block (Zs (Zr ?_)))))
 refine Zm rfl (Zm rfl (Zd (Qi Ac ex) rfl ?_))
 refine Zd (Qv Ak ex) rfl ?_
 refine Zd EK rfl ?_
 refine Zn (Zt ?_)
 refine GC.cond rfl (fun hc2=>?_) (fun hc2=>?_)
 replace hc2:=AA hc2
 refine Zs (Zr (Za rfl (Zn (Zt (GC.ret (GE.blockR (GE.passR (GE.passR (GE.blockR (GE.passR ?_))))))))))
 exact GE.body [] 0 (Ao rfl rfl) rfl (⟨congrArg (fun a0=>(.bool (a0):Value)) (((XL (by assumption)).symm:(false:Bool)=Dd x)),rfl⟩)
 replace hc2:=Al hc2
 refine Zk (GE.blockN (Zt (Zr ?_)))
 refine Zm rfl (Zd Qp rfl ?_)
 exact Za rfl (Zn (Yg (k+1) (⟨by omega,SJ hz (by assumption)⟩) [] 0))
 replace hc1:=of_decide_eq_false hc1
 refine GC.exit (Zp (Zp (GE.hit (Zt (Zs (Zr ?_))))))
 refine Za rfl (Zn (Zt (GC.ret ?_)))
 exact GE.body [] 0 (Ao rfl rfl) rfl (⟨congrArg (fun a0=>(.bool (a0):Value)) (((TG fun i hi=>hz i (by omega)).symm:(true:Bool)=Dd x)),rfl⟩)
theorem FC {W:World}{own:List Asn}{p:Int}{n:Int}(hp:AJ p=true)(hn:BZ n 0 40=true):Spec Tryz.prog 143 [J (p),J (n)] W own (fun v ow=>∃ (r3:Value),v = .agg #[J (p),J (n),J (n),r3]∧Ab r3∧ow=ints 3 r3 (Sk n)::own):=by
 have hn40:=AX hn
 have hm1:=BH (A:=40) (B:=40) hn40 hn40
 refine Spec.enter Tryz.f143 _ Tryz.func143 rfl (n:=26) rfl rfl ?_
 refine Zs (Zr (Yt (OG.alloc rfl Ah (zs:=[J (0),J (0),J (0),.slice none 0 0]) rfl) ?_))
 rintro _ _ ⟨g1,rfl,rfl⟩
 refine Zn (Zt (Zs (Zr (Zm rfl (Zm rfl (Zm rfl (Yt (Yc [J (p),J (n),J (n)] Pl (by exact(DX (hp) (hn) (hn)))) ?_)))))))
 rintro _ _ ⟨v2,rfl,hs3,rfl⟩
 refine Yt (OG.alloc rfl Ah (zs:=[J (0),J (0),J (0),.slice none 0 0]) rfl) ?_
 rintro _ _ ⟨g4,rfl,rfl⟩
 refine Yu Ah [J (p),J (n),J (n),v2] 0 (Ad rfl (Ad rfl (Ad rfl (Ad (Ab.one hs3) rfl)))) ?_
 refine Zn (Zt (Zs (Zs (Zr (Zd (Qf BJ) rfl ?_)))))
 refine Zd (Ql Ak 0) rfl ?_
 refine Zm rfl (Zn (Zt (GC.block ?_)))
 refine Yl (ι:=Nat × List Int) (fun⟨i,ys⟩=>[(1,J (n)),(4,Pg g1 0),(5,Pg g4 0),(12,J (n)),(13,J ((i:Int)))]) (fun⟨i,ys⟩=>box g4 51 [J (p),J (n),J (n),v2]::ints 3 v2 ys::box g1 51 [J (0),J (0),J (0),.slice none 0 0]::own) (fun⟨i,ys⟩=>((i:Int)≤n)∧(ys.length=(n*n).toNat)∧(ys=(List.range i).foldl (fc n) (List.replicate (n*n).toNat 0))) (fun⟨i,ys⟩=>n.toNat - i) (0,(List.replicate (n*n).toNat 0)) (⟨by omega,by simp,rfl⟩) [] 0 ?_
 rintro⟨i,ys⟩ ⟨hi,hyl,hy⟩
 refine Zs (Zr (Zd Bb rfl ?_))
 refine Zn (Zt (Zs ?_))
 refine GC.cond rfl (fun hc5=>?_) (fun hc5=>?_)
 replace hc5:=of_decide_eq_true hc5
 obtain⟨hq1,hq2,hq3⟩:=Cs (n:=n) (c:=n) (i:=i) (by omega) (by omega)
 refine Zk (Zt (Zs (GC.block (Zs (Zr ?_)))))
 refine Zm rfl (Za rfl (Zn (Zt (Zr (Zd (Qf BV) rfl ?_)))))
 refine Zd (Ql AH 0) rfl ?_
 refine Zm rfl (Zm rfl (Zd Qm rfl ?_))
 refine Zm rfl (Zd Qp rfl ?_)
 refine Zd (Qi Ac (Ei 1)) rfl ?_
 refine G.stepD0 (OD.storeInt rfl Ak rfl rfl (i:=1) rfl (by omega)) rfl rfl ?_
 refine Zn (GE.blockN (Zt (Zr ?_)))
 refine Zd (OD.addI rfl rfl rfl (by first | omega | (simp only[List.length_set,List.length_replicate];omega))) rfl ?_
 exact Zm rfl (Zn (Yg (i+1,(ys).set ((((i:Int)*n)+(i:Int):Int).toNat) (1)) (⟨by omega,by rw[List.length_set];exact hyl,CV hy rfl⟩) [] 0))
 replace hc5:=of_decide_eq_false hc5
 refine GC.exit (Zp (Zp (GE.hit (Zt (Zs (Zr ?_))))))
 refine Zd (Qa Ah 0 [_,_,_,_]) rfl ?_
 refine Yu Ah [J (p),J (n),J (n),v2] 2 (Ad rfl (Ad rfl (Ad rfl (Ad (Ab.one hs3) rfl)))) ?_
 refine Zn (Zt (GC.ret ?_))
 exact GE.body [1] 2 (AZ rfl (RVs.cons (Ag Ah rfl (i:=2) rfl rfl) RVs.nil) rfl) rfl (⟨v2,rfl,hs3,congrArg (fun l0=>ints 3 v2 l0::own) ((by rw[hy,show i=n.toNat by omega];rfl:ys=Sk n))⟩)
theorem Ls {W:World}{own:List Asn}{p:Int}{n:Int}(hp:AJ p=true)(hn:BZ n 0 40=true):Spec Tryz.prog 135 [J (p),J (n)] W own (fun v ow=>∃ (r3:Value),v = .agg #[J (p),J (n),J (n),r3]∧Ab r3∧ow=ints 3 r3 (Sk n)::own):=by
 have hn40:=AX hn
 have hm1:=BH (A:=40) (B:=40) hn40 hn40
 refine Spec.enter Tryz.f135 _ Tryz.func135 rfl (n:=25) rfl rfl ?_
 refine Zs (Zr (Yt (OG.alloc rfl Ah (zs:=[J (0),J (0),J (0),.slice none 0 0]) rfl) ?_))
 rintro _ _ ⟨g1,rfl,rfl⟩
 refine Zn (Zt (Zs (Zr (Zm rfl (Zm rfl (Zm rfl (Yt (Yc [J (p),J (n),J (n)] OY (by exact(Kd (by omega)))) ?_)))))))
 rintro _ _ ⟨v2,rfl,hs3,rfl⟩
 refine Yt (OG.alloc rfl Ah (zs:=[J (0),J (0),J (0),.slice none 0 0]) rfl) ?_
 rintro _ _ ⟨g4,rfl,rfl⟩
 refine Yu Ah [J (p),J (n),J (n),v2] 0 (Ad rfl (Ad rfl (Ad rfl (Ad (Ab.one hs3) rfl)))) ?_
 refine Zn (Zt (Zs (Zs (Zr (Za rfl (Zn (Zt (GC.block ?_))))))))
 refine Yl (ι:=Nat × List Int) (fun⟨i,ys⟩=>[(1,J (n)),(4,Pg g1 0),(5,Pg g4 0),(6,J ((i:Int)))]) (fun⟨i,ys⟩=>box g4 51 [J (p),J (n),J (n),v2]::ints 3 v2 ys::box g1 51 [J (0),J (0),J (0),.slice none 0 0]::own) (fun⟨i,ys⟩=>((i:Int)≤n)∧(ys.length=(n*n).toNat)∧(ys=(List.range i).foldl (fc n) (List.replicate (n*n).toNat 0))) (fun⟨i,ys⟩=>n.toNat - i) (0,(List.replicate (n*n).toNat 0)) (⟨by omega,by simp,rfl⟩) [] 0 ?_
 rintro⟨i,ys⟩ ⟨hi,hyl,hy⟩
 refine Zs (Zs (Zr (Zm rfl (Zm rfl (Zd Bb rfl ?_)))))
 refine Zn (Zt ?_)
 refine GC.cond rfl (fun hc5=>?_) (fun hc5=>?_)
 replace hc5:=of_decide_eq_true hc5
 obtain⟨hq1,hq2,hq3⟩:=Cs (n:=n) (c:=n) (i:=i) (by omega) (by omega)
 refine Zk (Zt (Zs (GC.block (Zr ?_))))
 refine Zd (Qf BV) rfl ?_
 refine Zd (Ql AH 0) rfl ?_
 refine Zm rfl (Zm rfl (Zd Qm rfl ?_))
 refine Zm rfl (Zd Qp rfl ?_)
 refine Zd (Qi Ac (Ei 1)) rfl ?_
 refine G.stepD0 (OD.storeInt rfl Ak rfl rfl (i:=1) rfl (by omega)) rfl rfl ?_
 refine Zn (GE.blockN (Zt (Zr ?_)))
 refine Zm rfl (Zd (OD.addI rfl rfl rfl (by first | omega | (simp only[List.length_set,List.length_replicate];omega))) rfl ?_)
 exact Za rfl (Zn (Yg (i+1,(ys).set ((((i:Int)*n)+(i:Int):Int).toNat) (1)) (⟨by omega,by rw[List.length_set];exact hyl,CV hy rfl⟩) [] 0))
 replace hc5:=of_decide_eq_false hc5
 refine GC.exit (Zp (Zp (GE.hit (Zt (Zs (Zr ?_))))))
 refine Zd (Qa Ah 0 [_,_,_,_]) rfl ?_
 refine Yu Ah [J (p),J (n),J (n),v2] 2 (Ad rfl (Ad rfl (Ad rfl (Ad (Ab.one hs3) rfl)))) ?_
 refine Zn (Zt (GC.ret ?_))
 exact GE.body [1] 2 (AZ rfl (RVs.cons (Ag Ah rfl (i:=2) rfl rfl) RVs.nil) rfl) rfl (⟨v2,rfl,hs3,congrArg (fun l0=>ints 3 v2 l0::own) ((by rw[hy,show i=n.toNat by omega];rfl:ys=Sk n))⟩)
theorem Ph {W:World}{own:List Asn}{x:Int}{n:Int}{p:Int}(hp:2≤p∧p≤10007)(hx:0≤x∧x<p)(hn:0≤n∧n≤10007):Spec Tryz.prog 199 [J (x),J (n),J (p)] W own (fun v ow=>v=J (Kw p 14 x n 1)∧ow=own):=by
 refine Spec.enter Tryz.f199 _ Tryz.func199 rfl (n:=26) rfl rfl ?_
 refine Zs (Zr (Za rfl (Zn (Zt (Zs (Zr (Za rfl (Zn (Zt (Zs (GC.block ?_)))))))))))
 refine Yl (ι:=Nat × Int × Int × Int) (fun⟨f,a,b,o⟩=>[(2,J (p)),(0,J (a)),(1,J (b)),(7,J (o))]) (fun⟨f,a,b,o⟩=>own) (fun⟨f,a,b,o⟩=>(0≤b∧b<2 ^ f)∧(b≤10007)∧(0≤a∧a<p)∧(0≤o∧o<p)∧(Kw p f a b o=Kw p 14 x n 1)) (fun⟨f,a,b,o⟩=>f) (14,x,n,1) (⟨by omega,by omega,hx,by omega,rfl⟩) [] 0 ?_
 rintro⟨f,a,b,o⟩ ⟨hf,hbn,ha,ho,hr⟩
 refine Zs (Zs (Zr (Zm rfl (Zd (OD.gtr rfl rfl rfl) rfl ?_))))
 refine Zn (Zt ?_)
 refine GC.cond rfl (fun hc1=>?_) (fun hc1=>?_)
 replace hc1:=of_decide_eq_true hc1
 have hb0:0<b:=by omega
 have hbt:=Sa hf.1
 obtain⟨g,rfl⟩:=Xs hf hb0
 have hmx:=BH (A:=p - 1) (B:=p - 1) (a:=a) (b:=a) (by omega) (by omega)
 have hmo:=BH (A:=p - 1) (B:=p - 1) (a:=o) (b:=a) (by omega) (by omega)
 have hpp:=BH (A:=10006) (B:=10006) (a:=p - 1) (b:=p - 1) (by omega) (by omega)
 refine Zk (Zt (GC.block (Zs (Zs (Zr ?_)))))
 refine Zm rfl (Zd (OD.rem rfl rfl rfl (by omega)) rfl ?_)
 refine Zd FJ rfl ?_
 refine Zn (Zt ?_)
 refine GC.cond rfl (fun hc2=>?_) (fun hc2=>?_)
 replace hc2:=eq_of_beq hc2
 have ho2:0≤(o*a).tmod p∧(o*a).tmod p<p:=⟨Int.tmod_nonneg _ hmo.1,Int.tmod_lt_of_pos _ (by omega)⟩
 have hr2:=(Zz (p:=p) (f:=g) (x:=a) (o:=o) hb0 (by assumption)).symm.trans hr
 refine Zr (Zm rfl (Zm rfl (Zd Qm rfl ?_)))
 refine Zm rfl (Zd (OD.rem rfl rfl rfl (by omega)) rfl ?_)
 refine Za rfl (Zn (Zt (Zs (Zr (Zm rfl (Zm rfl (Zd Qm rfl ?_)))))))
 refine Zm rfl (Zd (OD.rem rfl rfl rfl (by omega)) rfl ?_)
 refine Za rfl (Zn (Zt (Zr (Zm rfl (Zd (OD.eqv (OD.quo rfl rfl rfl (by omega)) (congrArg (Value.int .i64) ((Aj (by omega) (by omega)):(IntKind.i64.wrap ((b).tdiv 2):Int)=((b.tdiv 2))))) rfl ?_)))))
 refine Za rfl (Zn (GE.blockN ?_))
 exact Yg (g,(a*a).tmod p,(b.tdiv 2),(o*a).tmod p) (⟨Q3 hf hb0,by omega,ZU hmx,ho2,hr2⟩) [] 0
 replace hc2:=ne_of_beq_false hc2
 have ho2:=ho
 have hr2:=(Vv (p:=p) (f:=g) (x:=a) (o:=o) hb0 (by assumption)).symm.trans hr
 refine Zk (Zt (Zs (Zr (Zm rfl (Zm rfl (Zd Qm rfl ?_))))))
 refine Zm rfl (Zd (OD.rem rfl rfl rfl (by omega)) rfl ?_)
 refine Za rfl (Zn (Zt (Zr (Zm rfl (Zd (OD.eqv (OD.quo rfl rfl rfl (by omega)) (congrArg (Value.int .i64) ((Aj (by omega) (by omega)):(IntKind.i64.wrap ((b).tdiv 2):Int)=((b.tdiv 2))))) rfl ?_)))))
 refine Za rfl (Zn (GE.blockN ?_))
 exact Yg (g,(a*a).tmod p,(b.tdiv 2),o) (⟨Q3 hf hb0,by omega,ZU hmx,ho2,hr2⟩) [] 0
 replace hc1:=of_decide_eq_false hc1
 have hpe:=YY (p:=p) (f:=f) (x:=a) (o:=o) (n:=b) (by omega)
 refine GC.exit (Zp (Zp (GE.hit (Zt (Zs (Zr ?_))))))
 refine Zm rfl (Za rfl (Zn (Zt (GC.ret ?_))))
 exact GE.body [] 0 (Ao rfl rfl) rfl (⟨congrArg (fun a0=>(J (a0):Value)) ((by rw[← hr,hpe]:(o:Int)=Kw p 14 x n 1)),rfl⟩)
theorem MC {W:World}{own:List Asn}{x:Int}{p:Int}(hp:2≤p∧p≤10007)(hx:0≤x∧x<p):Spec Tryz.prog 173 [J (x),J (p)] W own (fun v ow=>v=J ((Kw p 14 x (p - 2) 1).tmod p)∧ow=own):=by
 refine Spec.enter Tryz.f173 _ Tryz.func173 rfl (n:=12) rfl rfl ?_
 refine Zs (Zr (Za rfl (Zn (Zt (Zs (Zr (Zm rfl (Zm rfl (Zd Qs rfl ?_)))))))))
 refine Zm rfl (Yt (Yc [J (x),J (p - 2),J (p)] bq (by exact(Ph (hp) (hx) (by omega)))) ?_)
 rintro _ _ ⟨rfl,hzz⟩;obtain rfl:=hzz.symm
 refine Zm rfl (Zd (OD.rem rfl rfl rfl (by omega)) rfl ?_)
 refine Za rfl (Zn (Zt (GC.ret ?_)))
 exact GE.body [] 0 (Ao rfl rfl) rfl (⟨rfl,rfl⟩)
theorem MQ {W:World}{own:List Asn}{n:Int}{p:Int}(hpp:AJ p=true)(hp:2≤p∧p≤10007):Spec Tryz.prog 138 [J (n),J (p)] W own (fun v ow=>v=J (LC n p)∧ow=own):=by
 have hm0:=Int.emod_nonneg n (show p≠0 by omega)
 have hm1:=Int.emod_lt_of_pos n (show 0<p by omega)
 refine Spec.enter Tryz.f138 _ Tryz.func138 rfl (n:=21) rfl rfl ?_
 refine Zs (Zr (Za rfl (Zn (Zt (Zs (Zs (Zr (Zm rfl (Yt (OG.imp (K':=fun v ow=>v = .bool true∧ow=own) (Yc [J (p)] K6 (by exact Cr)) (by rintro _ _ ⟨rfl,rfl⟩;exact⟨congrArg Value.bool (hpp),rfl⟩)) ?_)))))))))
 rintro _ _ ⟨rfl,hzz⟩;obtain rfl:=hzz.symm
 refine Zd (OD.not rfl rfl) rfl ?_
 refine Zm rfl (Yd (OD.move rfl rfl) ?_)
 refine Yd (OD.move rfl rfl) ?_
 refine Ye (Yc [J (n),J (p)] E6 (by exact(Fm (by omega)))) ?_
 rintro _ _ ⟨rfl,hzz⟩;obtain rfl:=hzz.symm
 refine Yd FJ ?_
 refine Zd (OD.pickF rfl rfl rfl) rfl ?_
 refine Zn (Zt ?_)
 refine GC.cond rfl (fun hc1=>?_) (fun hc1=>?_)
 replace hc1:=eq_of_beq hc1
 refine Zs (Zr (Za rfl (Zn (Zt (GC.ret (GE.passR ?_))))))
 exact GE.body [] 0 (Ao rfl rfl) rfl (⟨congrArg (fun a0=>(J (a0):Value)) (((eH hpp (by assumption)).symm:(0:Int)=LC n p)),rfl⟩)
 replace hc1:=ne_of_beq_false hc1
 refine Zk (Zt (Zs (Zs (Zr (Zm rfl (Zd FJ rfl ?_))))))
 refine Zn (Zt ?_)
 refine GC.cond rfl (fun hc2=>?_) (fun hc2=>?_)
 replace hc2:=eq_of_beq hc2
 refine Zs (Zr (Za rfl (Zn (Zt (GC.ret (GE.passR ?_))))))
 exact GE.body [] 0 (Ao rfl rfl) rfl (⟨congrArg (fun a0=>(J (a0):Value)) (((fy hpp (by assumption) (by assumption)).symm:(1:Int)=LC n p)),rfl⟩)
 replace hc2:=ne_of_beq_false hc2
 refine Zk (Zt (Zs (Zr (Zm rfl (Zm rfl (Yt (Yc [J (n),J (p)] E6 (by exact(Fm (by omega)))) ?_))))))
 rintro _ _ ⟨rfl,hzz⟩;obtain rfl:=hzz.symm
 refine Zm rfl (Yt (Yc [J (n%p),J (p)] cm (by exact(MC (hp) (⟨hm0,hm1⟩)))) ?_)
 rintro _ _ ⟨rfl,hzz⟩;obtain rfl:=hzz.symm
 refine Za rfl (Zn (Zt (GC.ret ?_)))
 exact GE.body [] 0 (Ao rfl rfl) rfl (⟨congrArg (fun a0=>(J (a0):Value)) (((dF hpp (by assumption) (by assumption)).symm:((Kw p 14 (n%p) (p - 2) 1).tmod p:Int)=LC n p)),rfl⟩)
theorem H7 {W:World}{own:List Asn}{ap:Int}{ar:Int}{ac:Int}{vad:Value}{ad:List Int}(sad:Ab vad)(ead:Ent own fun w=>Ints w vad ad):Spec Tryz.prog 141 [.agg #[J (ap),J (ar),J (ac),vad]] W own (fun v ow=>v=J (EI ⟨ap,ar,ac,ad⟩)∧ow=own):=by
 refine Spec.enter Tryz.f141 _ Tryz.func141 rfl (n:=33) rfl rfl ?_
 refine Zs (Zr (Yt (OG.box (cs:=[J (ap),J (ar),J (ac),vad]) rfl rfl rfl) ?_))
 rintro _ _ ⟨g1,rfl,rfl⟩
 refine Za rfl (Zn (Zt (Zs (Zs (Zr (Zd (Qa Ah 0 [_,_,_,_]) rfl ?_))))))
 refine Yt (Yc [.agg #[J (ap),J (ar),J (ac),vad]] VP (by exact(H6 sad (Ent.drop 1 ead)))) ?_
 rintro _ _ ⟨rfl,rfl⟩
 refine Zd (OD.not rfl rfl) rfl ?_
 refine Zm rfl ?_
 rcases Bool.eq_false_or_eq_true (!(AY ⟨ap,ar,ac,ad⟩)) with hg2 | hg2
 have hg2e:=hg2
 rw[hg2e]
 replace hg2:=Ai hg2
 iterate 5 refine Yk ?_
 refine Zd (OD.pickT rfl rfl rfl) rfl ?_
 refine Zn (Zt (GC.condT rfl (Zs (Zr ?_))))
 refine Za rfl (Zn (Zt (GC.ret (GE.passR ?_))))
 exact GE.body [] 1 (Ao rfl rfl) rfl (⟨congrArg (fun a0=>(J (a0):Value)) ((by first | (rw[← hn,show ar.toNat+1 - k=0 by omega];rfl) | (rw[EI,if_neg (by simp_all)]):(-1:Int)=EI ⟨ap,ar,ac,ad⟩)),rfl⟩)
 have hg2e:=hg2
 rw[hg2e]
 replace hg2:=Am hg2
 refine Yd (Qf BJ) ?_
 refine Yd (Ql Ak 0) ?_
 refine Yd (Qf BN) ?_
 refine Yd (Ql Ak 0) ?_
 refine Yd EK ?_
 refine Zd (OD.pickF rfl rfl rfl) rfl ?_
 refine Zn (Zt ?_)
 refine GC.cond rfl (fun hc3=>?_) (fun hc3=>?_)
 replace hc3:=AA hc3
 refine Zs (Zr (Za rfl (Zn (Zt (GC.ret (GE.passR ?_))))))
 exact GE.body [] 1 (Ao rfl rfl) rfl (⟨congrArg (fun a0=>(J (a0):Value)) ((by first | (rw[← hn,show ar.toNat+1 - k=0 by omega];rfl) | (rw[EI,if_neg (by simp_all)]):(-1:Int)=EI ⟨ap,ar,ac,ad⟩)),rfl⟩)
 replace hc3:=Al hc3
 have h1:AY ⟨ap,ar,ac,ad⟩=true:=hg2
 have h4:ar=ac:=by first | assumption | omega
 obtain⟨hr,hc,hal,hap⟩:=Dn h1
 have hg1:=Dy h1
 have h3:=BC h1
 have hp2:=AU h3.1
 simp only at hr hc hal hap hg1 h3 hp2
 have hm1:=BH (A:=40) (B:=40) hr hr
 have hal2:(ad.length:Int)=ar*ar:=by rw[hal,← h4]
 refine Zk (Zt (Zs (Zr (Zd (Qf BG) rfl ?_))))
 refine Zd (Ql Ak 0) rfl ?_
 refine Zd (Qf BJ) rfl ?_
 refine Zd (Ql Ak 0) rfl ?_
 refine Yt (Yc [J (ap),J (ar)] V2 (by exact(FC (h3.1) (h3.2.1)))) ?_
 rintro _ _ ⟨v4,rfl,hs5,rfl⟩
 refine Yt (OG.alloc rfl Ah (zs:=[J (0),J (0),J (0),.slice none 0 0]) rfl) ?_
 rintro _ _ ⟨g6,rfl,rfl⟩
 refine Yu Ah [J (ap),J (ar),J (ar),v4] 0 (Ad rfl (Ad rfl (Ad rfl (Ad (Ab.one hs5) rfl)))) ?_
 refine Zn (Zt (Zs (Zs (Zr (Za rfl (Zn (Zt (GC.block ?_))))))))
 refine Yl (ι:=Nat × Int × List Int × Value) (fun⟨k,c,ys,v⟩=>[(1,Pg g1 0),(3,Pg g6 0),(4,J ((k:Int)))]) (fun⟨k,c,ys,v⟩=>box g6 51 [J (ap),J (ar),J (c),v]::ints 3 v ys::box g1 51 [J (ap),J (ar),J (ac),vad]::own) (fun⟨k,c,ys,v⟩=>((k:Int)≤ar+1)∧(c=ar)∧(ys=N6 ap ar ad k)∧(RS ap ar ad (ar.toNat+1 - k) k=EI ⟨ap,ar,ac,ad⟩)∧(Ab v)) (fun⟨k,c,ys,v⟩=>ar.toNat+1 - k) (0,ar,(Sk ar),v4) (⟨by omega,rfl,rfl,by rw[EI,if_pos ⟨h1,h4⟩];rfl,hs5⟩) [] 0 ?_
 rintro⟨k,c,ys,v⟩ ⟨hk,hcc,hy,hn,hv⟩
 have hyl:ys.length=(ar*ar).toNat:=by rw[hy];exact HX k
 have hyg:Rg ap ys:=by rw[hy];exact GS ⟨by omega,by omega⟩ hg1 k
 refine Zs (Zs (Zr (Zm rfl (Zd (Qf BJ) rfl ?_))))
 refine Zd (Ql Ak 2) rfl ?_
 refine Zd (OD.leq rfl rfl rfl) rfl ?_
 refine Zn (Zt ?_)
 refine GC.cond rfl (fun hc7=>?_) (fun hc7=>?_)
 replace hc7:=of_decide_eq_true hc7
 refine Zk (Zt (Zs (GC.block (Zs (Zs (Zr ?_))))))
 refine Zd (Qf BV) rfl ?_
 refine Zd (Ql AH 0) rfl ?_
 refine Yt (Yc [v] ai (by exact(On hv (Ei 1)))) ?_
 rintro _ _ ⟨rfl,rfl⟩
 refine Zn (Zt ?_)
 refine GC.cond rfl (fun hc8=>?_) (fun hc8=>?_)
 refine Zs (Zr (Zm rfl (Za rfl (Zn (Zt (GC.ret (GE.passR (GE.blockR (GE.passR (GE.passR (GE.blockR (GE.passR ?_))))))))))))
 exact GE.body [] 3 (Ao rfl rfl) rfl (⟨congrArg (fun a0=>(J (a0):Value)) ((by rw[← hn];exact(P7 (by omega) (by rw[← hy];assumption)).symm:((k:Int):Int)=EI ⟨ap,ar,ac,ad⟩)),rfl⟩)
 refine Zk (Zt (Zr (Zd (Qa Ah 0 [_,_,_,_]) rfl ?_)))
 refine Zd (Qa Ah 2 [_,_,_,_]) rfl ?_
 refine Yt (Yc [.agg #[J (ap),J (ar),J (c),v],.agg #[J (ap),J (ar),J (ac),vad]] QF (by exact(MW hv (Ei 1) sad (Ent.drop 3 ead) (hr) (by omega) (hc) (by rw[hyl,hcc];exact Int.toNat_of_nonneg hm1.1) (by rw[hal,hcc]) (by omega)))) ?_
 rintro _ _ ⟨v9,rfl,hs10,rfl⟩
 refine Yu Ah [J (ap),J (ar),J (ac),v9] 1 (Ad rfl (Ad rfl (Ad rfl (Ad (Ab.one hs10) rfl)))) ?_
 refine Zn (GE.blockN (Zt (Zr ?_)))
 refine Zm rfl (Zd Qp rfl ?_)
 exact Za rfl (Zn (Yg (k+1,ac,mulF ap ar c ac ys ad,v9) (⟨by omega,h4.symm,by rw[hcc,← h4,hy];rfl,by rw[← hn];exact(NZ (f:=ar.toNat+1 - k) (by omega) (by rw[← hy];assumption)).symm,hs10⟩) [1,0,1] 1))
 replace hc7:=of_decide_eq_false hc7
 refine GC.exit (Zp (Zp (GE.hit (Zt (Zs (Zr ?_))))))
 refine Za rfl (Zn (Zt (GC.ret ?_)))
 exact GE.body [] 3 (Ao rfl rfl) rfl (⟨congrArg (fun a0=>(J (a0):Value)) ((by first | (rw[← hn,show ar.toNat+1 - k=0 by omega];rfl) | (rw[EI,if_neg (by simp_all)]):(-1:Int)=EI ⟨ap,ar,ac,ad⟩)),rfl⟩)
theorem FS {W:World}{own:List Asn}{ap:Int}{ar:Int}{ac:Int}{vad:Value}{ad:List Int}(sad:Ab vad)(ead:Ent own fun w=>Ints w vad ad):Spec Tryz.prog 133 [.agg #[J (ap),J (ar),J (ac),vad]] W own (fun v ow=>v=J (EI ⟨ap,ar,ac,ad⟩)∧ow=own):=by
 refine Spec.enter Tryz.f133 _ Tryz.func133 rfl (n:=33) rfl rfl ?_
 refine Zs (Zr (Yt (OG.box (cs:=[J (ap),J (ar),J (ac),vad]) rfl rfl rfl) ?_))
 rintro _ _ ⟨g1,rfl,rfl⟩
 refine Za rfl (Zn (Zt (Zs (Zs (Zr (Zd (Qa Ah 0 [_,_,_,_]) rfl ?_))))))
 refine Yt (Yc [.agg #[J (ap),J (ar),J (ac),vad]] cw (by exact(KT sad (Ent.drop 1 ead)))) ?_
 rintro _ _ ⟨rfl,rfl⟩
 refine Zd (OD.not rfl rfl) rfl ?_
 refine Zm rfl ?_
 rcases Bool.eq_false_or_eq_true (!(AY ⟨ap,ar,ac,ad⟩)) with hg2 | hg2
 have hg2e:=hg2
 rw[hg2e]
 replace hg2:=Ai hg2
 iterate 5 refine Yk ?_
 refine Zd (OD.pickT rfl rfl rfl) rfl ?_
 refine Zn (Zt (GC.condT rfl (Zs (Zr ?_))))
 refine Za rfl (Zn (Zt (GC.ret (GE.passR ?_))))
 exact GE.body [] 1 (Ao rfl rfl) rfl (⟨congrArg (fun a0=>(J (a0):Value)) ((by first | (rw[← hn,show ar.toNat+1 - k=0 by omega];rfl) | (rw[EI,if_neg (by simp_all)]):(-1:Int)=EI ⟨ap,ar,ac,ad⟩)),rfl⟩)
 have hg2e:=hg2
 rw[hg2e]
 replace hg2:=Am hg2
 refine Yd (Qf BJ) ?_
 refine Yd (Ql Ak 0) ?_
 refine Yd (Qf BN) ?_
 refine Yd (Ql Ak 0) ?_
 refine Yd EK ?_
 refine Zd (OD.pickF rfl rfl rfl) rfl ?_
 refine Zn (Zt ?_)
 refine GC.cond rfl (fun hc3=>?_) (fun hc3=>?_)
 replace hc3:=AA hc3
 refine Zs (Zr (Za rfl (Zn (Zt (GC.ret (GE.passR ?_))))))
 exact GE.body [] 1 (Ao rfl rfl) rfl (⟨congrArg (fun a0=>(J (a0):Value)) ((by first | (rw[← hn,show ar.toNat+1 - k=0 by omega];rfl) | (rw[EI,if_neg (by simp_all)]):(-1:Int)=EI ⟨ap,ar,ac,ad⟩)),rfl⟩)
 replace hc3:=Al hc3
 have h1:AY ⟨ap,ar,ac,ad⟩=true:=hg2
 have h4:ar=ac:=by first | assumption | omega
 obtain⟨hr,hc,hal,hap⟩:=Dn h1
 have hg1:=Dy h1
 have h3:=BC h1
 have hp2:=AU h3.1
 simp only at hr hc hal hap hg1 h3 hp2
 have hm1:=BH (A:=40) (B:=40) hr hr
 have hal2:(ad.length:Int)=ar*ar:=by rw[hal,← h4]
 refine Zk (Zt (Zs (Zr (Zd (Qf BG) rfl ?_))))
 refine Zd (Ql Ak 0) rfl ?_
 refine Zd (Qf BJ) rfl ?_
 refine Zd (Ql Ak 0) rfl ?_
 refine Yt (Yc [J (ap),J (ar)] VH (by exact(Ls (h3.1) (h3.2.1)))) ?_
 rintro _ _ ⟨v4,rfl,hs5,rfl⟩
 refine Yt (OG.alloc rfl Ah (zs:=[J (0),J (0),J (0),.slice none 0 0]) rfl) ?_
 rintro _ _ ⟨g6,rfl,rfl⟩
 refine Yu Ah [J (ap),J (ar),J (ar),v4] 0 (Ad rfl (Ad rfl (Ad rfl (Ad (Ab.one hs5) rfl)))) ?_
 refine Zn (Zt (Zs (Zs (Zr (Za rfl (Zn (Zt (GC.block ?_))))))))
 refine Yl (ι:=Nat × Int × List Int × Value) (fun⟨k,c,ys,v⟩=>[(1,Pg g1 0),(3,Pg g6 0),(4,J ((k:Int)))]) (fun⟨k,c,ys,v⟩=>box g6 51 [J (ap),J (ar),J (c),v]::ints 3 v ys::box g1 51 [J (ap),J (ar),J (ac),vad]::own) (fun⟨k,c,ys,v⟩=>((k:Int)≤ar+1)∧(c=ar)∧(ys=N6 ap ar ad k)∧(RS ap ar ad (ar.toNat+1 - k) k=EI ⟨ap,ar,ac,ad⟩)∧(Ab v)) (fun⟨k,c,ys,v⟩=>ar.toNat+1 - k) (0,ar,(Sk ar),v4) (⟨by omega,rfl,rfl,by rw[EI,if_pos ⟨h1,h4⟩];rfl,hs5⟩) [] 0 ?_
 rintro⟨k,c,ys,v⟩ ⟨hk,hcc,hy,hn,hv⟩
 have hyl:ys.length=(ar*ar).toNat:=by rw[hy];exact HX k
 have hyg:Rg ap ys:=by rw[hy];exact GS ⟨by omega,by omega⟩ hg1 k
 refine Zs (Zs (Zr (Zm rfl (Zd (Qf BJ) rfl ?_))))
 refine Zd (Ql Ak 2) rfl ?_
 refine Zd (OD.leq rfl rfl rfl) rfl ?_
 refine Zn (Zt ?_)
 refine GC.cond rfl (fun hc7=>?_) (fun hc7=>?_)
 replace hc7:=of_decide_eq_true hc7
 refine Zk (Zt (Zs (GC.block (Zs (Zs (Zr ?_))))))
 refine Zd (Qf BV) rfl ?_
 refine Zd (Ql AH 0) rfl ?_
 refine Yt (Yc [v] bO (by exact(PA hv (Ei 1) (by omega)))) ?_
 rintro _ _ ⟨rfl,rfl⟩
 refine Zn (Zt ?_)
 refine GC.cond rfl (fun hc8=>?_) (fun hc8=>?_)
 refine Zs (Zr (Zm rfl (Za rfl (Zn (Zt (GC.ret (GE.passR (GE.blockR (GE.passR (GE.passR (GE.blockR (GE.passR ?_))))))))))))
 exact GE.body [] 3 (Ao rfl rfl) rfl (⟨congrArg (fun a0=>(J (a0):Value)) ((by rw[← hn];exact(P7 (by omega) (by rw[← hy];assumption)).symm:((k:Int):Int)=EI ⟨ap,ar,ac,ad⟩)),rfl⟩)
 refine Zk (Zt (Zr (Zd (Qa Ah 0 [_,_,_,_]) rfl ?_)))
 refine Zd (Qa Ah 2 [_,_,_,_]) rfl ?_
 refine Yt (Yc [.agg #[J (ap),J (ar),J (c),v],.agg #[J (ap),J (ar),J (ac),vad]] P6 (by exact(Mq hv (Ei 1) sad (Ent.drop 3 ead) (hr) (by omega) (hc) (by rw[hyl,hcc];exact Int.toNat_of_nonneg hm1.1) (by rw[hal,hcc]) (by omega)))) ?_
 rintro _ _ ⟨v9,rfl,hs10,rfl⟩
 refine Yu Ah [J (ap),J (ar),J (ac),v9] 1 (Ad rfl (Ad rfl (Ad rfl (Ad (Ab.one hs10) rfl)))) ?_
 refine Zn (GE.blockN (Zt (Zr ?_)))
 refine Zm rfl (Zd Qp rfl ?_)
 exact Za rfl (Zn (Yg (k+1,ac,mulF ap ar c ac ys ad,v9) (⟨by omega,h4.symm,by rw[hcc,← h4,hy];rfl,by rw[← hn];exact(NZ (f:=ar.toNat+1 - k) (by omega) (by rw[← hy];assumption)).symm,hs10⟩) [1,0,1] 1))
 replace hc7:=of_decide_eq_false hc7
 refine GC.exit (Zp (Zp (GE.hit (Zt (Zs (Zr ?_))))))
 refine Za rfl (Zn (Zt (GC.ret ?_)))
 exact GE.body [] 3 (Ao rfl rfl) rfl (⟨congrArg (fun a0=>(J (a0):Value)) ((by first | (rw[← hn,show ar.toNat+1 - k=0 by omega];rfl) | (rw[EI,if_neg (by simp_all)]):(-1:Int)=EI ⟨ap,ar,ac,ad⟩)),rfl⟩)
end Go.Proofs.YtbmnnbglipkidaaGreatDoor
