/-
  Exponentials of matrices: contracts by walks.
-/
import Derived.Test.YtbmnnbglipkidaaGreatDoorWExu
namespace Go.Proofs.YtbmnnbglipkidaaGreatDoor
set_option maxRecDepth 100000
set_option maxHeartbeats 4000000
set_option linter.unusedVariables false
set_option linter.unusedSimpArgs false
open Go.RowKit
theorem cu:∀ us w,(callFunc 133 us).run Tryz.prog w = .ok (.enter 133 us) w:=fun us w=>by kernel_rfl
theorem aT:∀ us w,(callFunc 136 us).run Tryz.prog w = .ok (.enter 136 us) w:=fun us w=>by kernel_rfl
theorem bH:∀ us w,(callFunc 137 us).run Tryz.prog w = .ok (.enter 137 us) w:=fun us w=>by kernel_rfl
theorem cN:∀ us w,(callFunc 138 us).run Tryz.prog w = .ok (.enter 138 us) w:=fun us w=>by kernel_rfl
theorem aN:∀ us w,(callFunc 141 us).run Tryz.prog w = .ok (.enter 141 us) w:=fun us w=>by kernel_rfl
theorem cS:∀ us w,(callFunc 144 us).run Tryz.prog w = .ok (.enter 144 us) w:=fun us w=>by kernel_rfl
theorem Sj {W:World}{own:List Asn}{n:Int}{p:Int}(hp:1≤p∧p≤10007)(hn:0≤n)(h0:∃ r,Nm 30 n p 1 0=some r):Spec Tryz.prog 144 [J (n),J (p)] W own (fun v ow=>v=J (FZ n p)∧ow=own):=by obtain⟨r,h0⟩:=h0;rw[TH h0];exact Spec.below fun w hs=>Od n p r w hp.1 hp.2 hn h0
theorem NR {W:World}{own:List Asn}{ap:Int}{ar:Int}{ac:Int}{vad:Value}{ad:List Int}(sad:Ab vad)(ead:Ent own fun w=>Ints w vad ad):Spec Tryz.prog 86 [.agg #[J (ap),J (ar),J (ac),vad]] W own (fun v ow=>∃ (r3:Value),v = .tuple #[.agg #[J ((exF ⟨ap,ar,ac,ad⟩).p),J ((exF ⟨ap,ar,ac,ad⟩).r),J ((exF ⟨ap,ar,ac,ad⟩).c),r3],.bool (Bg ⟨ap,ar,ac,ad⟩)]∧Ab r3∧ow=ints 3 r3 ((exF ⟨ap,ar,ac,ad⟩).d)::own):=by
 refine Spec.enter Tryz.f86 _ Tryz.func86 rfl (n:=56) rfl rfl ?_
 refine Zs (Zr (Yt (OG.box (cs:=[J (ap),J (ar),J (ac),vad]) rfl rfl rfl) ?_))
 rintro _ _ ⟨g1,rfl,rfl⟩
 refine Yt (OG.alloc rfl Ah (zs:=[J (0),J (0),J (0),.slice none 0 0]) rfl) ?_
 rintro _ _ ⟨g2,rfl,rfl⟩
 refine Za rfl (Zn (Zt (Zs (Zr (Zd (Qa Ah 1 [_,_,_,_]) rfl ?_)))))
 refine Yt (Yc [.agg #[J (ap),J (ar),J (ac),vad]] aN (by exact(H7 sad (Ent.drop 2 ead)))) ?_
 rintro _ _ ⟨rfl,rfl⟩
 refine Za rfl (Zn (Zt (Zs (Zs (Zr (Zm rfl (Zd Bb rfl ?_)))))))
 refine Zm rfl ?_
 rcases Bool.eq_false_or_eq_true (decide (EI ⟨ap,ar,ac,ad⟩<0)) with hg3 | hg3
 have hg3e:=hg3
 rw[hg3e]
 replace hg3:=of_decide_eq_true hg3
 iterate 4 refine Yk ?_
 refine Zd (OD.pickT rfl rfl rfl) rfl ?_
 refine Zn (Zt (GC.condT rfl (Zs (Zr ?_))))
 refine Zd (OD.build (idx:=[]) (xs:=[]) (vs:=[]) (cs:=[]) (zs:=[J (0),J (0),J (0),.slice none 0 0]) (r:=[J (0),J (0),J (0),.slice none 0 0]) rfl Ah rfl rfl rfl trivial rfl) rfl ?_
 refine Yu Ah [J (0),J (0),J (0),.slice none 0 0] 0 rfl ?_
 refine Za rfl (Zn (Zt (GC.ret (GE.passR ?_))))
 refine GE.nilInts 3 ?_
 exact GE.body [0] 2 (AZ rfl (RVs.cons (Ag Ah rfl (i:=1) rfl rfl) (RVs.cons (AD rfl) RVs.nil)) rfl) rfl (⟨(.slice none 0 0),congr (congr (congr (congrArg (fun a0 a1 a2 a4=>(.tuple #[.agg #[J (a0),J (a1),J (a2),(.slice none 0 0)],.bool (a4)]:Value)) ((by rw[exF,if_neg (by simp only[Bg];simp;omega)]:(0:Int)=(exF ⟨ap,ar,ac,ad⟩).p))) ((by rw[exF,if_neg (by simp only[Bg];simp;omega)]:(0:Int)=(exF ⟨ap,ar,ac,ad⟩).r))) ((by rw[exF,if_neg (by simp only[Bg];simp;omega)]:(0:Int)=(exF ⟨ap,ar,ac,ad⟩).c))) ((by simp only[Bg];simp;omega:(false:Bool)=Bg ⟨ap,ar,ac,ad⟩)),Ab.nil,congrArg (fun l0=>ints 3 (.slice none 0 0) l0::own) ((by rw[exF,if_neg (by simp only[Bg];simp;omega)] : []=(exF ⟨ap,ar,ac,ad⟩).d))⟩)
 have hg3e:=hg3
 rw[hg3e]
 replace hg3:=of_decide_eq_false hg3
 refine Yd (OD.move rfl rfl) ?_
 refine Yd (Qf BG) ?_
 refine Yd (Ql Ak 1) ?_
 refine Yd (OD.gtr rfl rfl rfl) ?_
 refine Zd (OD.pickF rfl rfl rfl) rfl ?_
 refine Zn (Zt ?_)
 refine GC.cond rfl (fun hc4=>?_) (fun hc4=>?_)
 replace hc4:=of_decide_eq_true hc4
 refine Zs (Zr (Zd (OD.build (idx:=[]) (xs:=[]) (vs:=[]) (cs:=[]) (zs:=[J (0),J (0),J (0),.slice none 0 0]) (r:=[J (0),J (0),J (0),.slice none 0 0]) rfl Ah rfl rfl rfl trivial rfl) rfl ?_))
 refine Yu Ah [J (0),J (0),J (0),.slice none 0 0] 0 rfl ?_
 refine Za rfl (Zn (Zt (GC.ret (GE.passR ?_))))
 refine GE.nilInts 3 ?_
 exact GE.body [0] 2 (AZ rfl (RVs.cons (Ag Ah rfl (i:=1) rfl rfl) (RVs.cons (AD rfl) RVs.nil)) rfl) rfl (⟨(.slice none 0 0),congr (congr (congr (congrArg (fun a0 a1 a2 a4=>(.tuple #[.agg #[J (a0),J (a1),J (a2),(.slice none 0 0)],.bool (a4)]:Value)) ((by rw[exF,if_neg (by simp only[Bg];simp;omega)]:(0:Int)=(exF ⟨ap,ar,ac,ad⟩).p))) ((by rw[exF,if_neg (by simp only[Bg];simp;omega)]:(0:Int)=(exF ⟨ap,ar,ac,ad⟩).r))) ((by rw[exF,if_neg (by simp only[Bg];simp;omega)]:(0:Int)=(exF ⟨ap,ar,ac,ad⟩).c))) ((by simp only[Bg];simp;omega:(false:Bool)=Bg ⟨ap,ar,ac,ad⟩)),Ab.nil,congrArg (fun l0=>ints 3 (.slice none 0 0) l0::own) ((by rw[exF,if_neg (by simp only[Bg];simp;omega)] : []=(exF ⟨ap,ar,ac,ad⟩).d))⟩)
 replace hc4:=of_decide_eq_false hc4
 have hNb:=(C6 (M:=⟨ap,ar,ac,ad⟩) (by omega)).2.2
 have h1:AY ⟨ap,ar,ac,ad⟩=true:=(C6 (M:=⟨ap,ar,ac,ad⟩) (by omega)).1
 have h4:ar=ac:=(C6 (M:=⟨ap,ar,ac,ad⟩) (by omega)).2.1
 obtain⟨hr,hc,hal,hap⟩:=Dn h1
 have hg1:=Dy h1
 have h3:=BC h1
 have hp2:=AU h3.1
 simp only at hr hc hal hap hg1 h3 hp2
 have hm1:=BH (A:=40) (B:=40) hr hr
 have hal2:(ad.length:Int)=ar*ar:=by rw[hal,← h4]
 have hm2:ar*ac=ar*ar:=by rw[← h4]
 have hok:Bg ⟨ap,ar,ac,ad⟩=true:=by simp only[Bg,Bool.and_eq_true,decide_eq_true_eq];omega
 refine Zk (Zt (Zs (Zr (Zd (Qf BG) rfl ?_))))
 refine Zd (Ql Ak 1) rfl ?_
 refine Zd (Qf BJ) rfl ?_
 refine Zd (Ql Ak 1) rfl ?_
 refine Zd (Qf BN) rfl ?_
 refine Zd (Ql Ak 1) rfl ?_
 refine Yt (Yc [J (ap),J (ar),J (ac)] Pl (by exact(DX (h3.1) (h3.2.1) (h3.2.2)))) ?_
 rintro _ _ ⟨v5,rfl,hs6,rfl⟩
 refine Yt (OG.alloc rfl Ah (zs:=[J (0),J (0),J (0),.slice none 0 0]) rfl) ?_
 rintro _ _ ⟨g7,rfl,rfl⟩
 refine Yu Ah [J (ap),J (ar),J (ac),v5] 0 (Ad rfl (Ad rfl (Ad rfl (Ad (Ab.one hs6) rfl)))) ?_
 refine Zn (Zt (Zs (Zr (Zd (Qf BG) rfl ?_))))
 refine Zd (Ql Ak 3) rfl ?_
 refine Zd (Qf BJ) rfl ?_
 refine Zd (Ql Ak 3) rfl ?_
 refine Yt (Yc [J (ap),J (ar)] V2 (by exact(FC (h3.1) (h3.2.1)))) ?_
 rintro _ _ ⟨v8,rfl,hs9,rfl⟩
 refine Yt (OG.alloc rfl Ah (zs:=[J (0),J (0),J (0),.slice none 0 0]) rfl) ?_
 rintro _ _ ⟨g10,rfl,rfl⟩
 refine Yu Ah [J (ap),J (ar),J (ar),v8] 0 (Ad rfl (Ad rfl (Ad rfl (Ad (Ab.one hs9) rfl)))) ?_
 refine Zn (Zt (Zs (Zr (Za rfl (Zn (Zt (Zs (Zs (Zr (Zm rfl (Zm rfl (Zn (Zt (GC.block ?_))))))))))))))
 refine Yl (ι:=Nat × Int × Int × List Int × Value × List Int × Value) (fun⟨k,f,c,ys,v,zs,u⟩=>[(1,Pg g1 0),(2,Pg g2 0),(5,Pg g7 0),(6,Pg g10 0),(32,J (EI ⟨ap,ar,ac,ad⟩)),(7,J (f)),(33,J ((k:Int)))]) (fun⟨k,f,c,ys,v,zs,u⟩=>box g10 51 [J (ap),J (ar),J (c),u]::ints 3 u zs::box g7 51 [J (ap),J (ar),J (ac),v]::ints 3 v ys::box g2 51 [J (0),J (0),J (0),.slice none 0 0]::box g1 51 [J (ap),J (ar),J (ac),vad]::own) (fun⟨k,f,c,ys,v,zs,u⟩=>((k:Int)≤EI ⟨ap,ar,ac,ad⟩)∧(c=ar)∧(f=fcM ap (fun i=>FZ i ap) (k - 1))∧(ys=Rr ap ar ad k)∧(zs=N6 ap ar ad (k - 1))∧(Ab v)∧(Ab u)) (fun⟨k,f,c,ys,v,zs,u⟩=>(EI ⟨ap,ar,ac,ad⟩).toNat - k) (0,1,ar,List.replicate ((ar:Int)*ac).toNat 0,v5,(Sk ar),v8) (⟨by omega,rfl,rfl,by rw[Rr,h4],rfl,hs6,hs9⟩) [] 0 ?_
 rintro⟨k,f,c,ys,v,zs,u⟩ ⟨hk,hcc,hf,hy,hz,hv,hu⟩
 have hyl:ys.length=(ar*ar).toNat:=by rw[hy];exact Ng k
 have hyg:Rg ap ys:=by rw[hy];exact V1 (by omega) k
 have hzl:zs.length=(ar*ar).toNat:=by rw[hz];exact HX _
 have hzg:Rg ap zs:=by rw[hz];exact GS ⟨by omega,by omega⟩ hg1 _
 have hfb:=VQ (p:=ap) (iv:=fun i=>FZ i ap) (by omega) (k - 1)
 rw[← hf] at hfb
 refine Zs (Zr (Zd Bb rfl ?_))
 refine Zn (Zt (Zs ?_))
 refine GC.cond rfl (fun hc11=>?_) (fun hc11=>?_)
 replace hc11:=of_decide_eq_true hc11
 refine Zk (Zt (Zs (GC.block (Zs (Zr ?_)))))
 refine Zm rfl (Za rfl (Zn (Zt (Zs (Zs (Zr (Zm rfl (Zd (OD.gtr rfl rfl rfl) rfl ?_))))))))
 refine Zn (Zt ?_)
 refine GC.cond rfl (fun hc12=>?_) (fun hc12=>?_)
 replace hc12:=of_decide_eq_true hc12
 have hk0:0<k:=by omega
 have hf2:=fr (by omega) hf hk0
 have hz2:mulF ap ar c ac zs ad=N6 ap ar ad (k+1 - 1):=by rw[hcc,← h4];exact eP hz hk0
 have hzg2:Rg ap (mulF ap ar c ac zs ad):=by rw[hz2];exact GS ⟨by omega,by omega⟩ hg1 _
 have hzl2:(mulF ap ar c ac zs ad).length=(ar*ar).toNat:=by rw[hz2];exact HX _
 have hib:=U7 (n:=(k:Int)) (p:=ap) (by omega)
 have hfi:=BH (A:=10007) (B:=10007) (a:=f) (b:=FZ (k:Int) ap) (by omega) (by omega)
 have hfr:=aE (a:=f*FZ (k:Int) ap) (b:=ap) hfi.1 (by omega)
 refine Zs (Zr (Zd (Qa Ah 0 [_,_,_,_]) rfl ?_))
 refine Zd (Qa Ah 5 [_,_,_,_]) rfl ?_
 refine Yt (Yc [.agg #[J (ap),J (ar),J (c),u],.agg #[J (ap),J (ar),J (ac),vad]] QF (by exact(MW hu (Ei 1) sad (Ent.drop 6 ead) (hr) (by omega) (hc) (by rw[hzl,hcc];exact Int.toNat_of_nonneg hm1.1) (by rw[hal,hcc]) (by omega)))) ?_
 rintro _ _ ⟨v13,rfl,hs14,rfl⟩
 refine Yu Ah [J (ap),J (ar),J (ac),v13] 1 (Ad rfl (Ad rfl (Ad rfl (Ad (Ab.one hs14) rfl)))) ?_
 refine Zn (Zt (Ya [(1,_),(2,_),(5,_),(6,_),(32,_),(7,_),(33,_),(8,_)] ?_))
 refine Wp [Z0 41 (J (f)),Z0 42 (J ((k:Int))),Z0 43 (Pg g1 0),Z1 44 [(2,43)] (J (ap)),Z1 45 [(1,42),(3,44)] (J (FZ (k:Int) ap)),Z1 46 [(0,41),(4,45)] (J (f*(FZ (k:Int) ap))),Z0 47 (Pg g1 0),Z1 48 [(6,47)] (J (ap)),Z1 49 [(5,46),(7,48)] (J ((f*(FZ (k:Int) ap)).tmod ap))] (Yv (Yv (Zc (fun _ _ _=>Zq (Qf BG) rfl) (Zc (fun _ _ _=>Zq (Ql Ak 6) rfl) (Zc (fun _ _ _=>Zq (Yc [J ((k:Int)),J (ap)] cS (by exact(Sj (by omega) (by omega) (XF h3.1 hk0 (by omega) (by omega))))) rfl) (Zc (fun _ _ _=>Zq Qm rfl) (Zc (fun _ _ _=>Zq (Qf BG) rfl) (Zc (fun _ _ _=>Zq (Ql Ak 6) rfl) (Zc (fun _ _ _=>Zq (OD.rem rfl rfl rfl (by omega)) rfl) As.nil))))))))) ?_
 intro θ _
 refine Yb [(1,_),(2,_),(5,_),(6,_),(32,_),(7,_),(33,_),(49,J ((f*(FZ (k:Int) ap)).tmod ap))] (_::_) ?_
 show G _ _ _ [_] _ _ _ _
 refine Za rfl (Zn (Zt (Zr (Zd (Qa Ah 3 [_,_,_,_]) rfl ?_))))
 refine Zm rfl (Zd (Qa Ah 1 [_,_,_,_]) rfl ?_)
 refine Yt (Yc [.agg #[J (ap),J (ar),J (ac),v],J ((f*(FZ (k:Int) ap)).tmod ap),.agg #[J (ap),J (ar),J (ac),v13]] Pq (by exact(Pm hv (Ei 4) hs14 (Ei 0) (Ee ⟨by omega,by omega⟩ (by omega) hyg) (Ee ⟨by omega,by omega⟩ (by omega) (by assumption)) (by omega) (by omega)))) ?_
 rintro _ _ ⟨v15,rfl,hs16,rfl⟩
 refine Yu Ah [J (ap),J (ar),J (ac),v15] 4 (Ad rfl (Ad rfl (Ad rfl (Ad (Ab.one hs16) rfl)))) ?_
 refine Zn (GE.blockN (Zt (Zr ?_)))
 refine Zd Qp rfl ?_
 exact Zm rfl (Zn (Yg (k+1,((f*(FZ (k:Int) ap)).tmod ap),ac,addF ((f*(FZ (k:Int) ap)).tmod ap) ap ys (mulF ap ar c ac zs ad),v15,mulF ap ar c ac zs ad,v13) (⟨by omega,h4.symm,hf2,Z4 hy hz2 hf2,hz2,hs16,hs14⟩) [2,1,2,0,2,2] 2))
 replace hc12:=of_decide_eq_false hc12
 have hk0:k=0:=by omega
 have hf2:f=fcM ap (fun i=>FZ i ap) (k+1 - 1):=by rw[hf,hk0]
 have hz2:zs=N6 ap ar ad (k+1 - 1):=by rw[hz,hk0]
 refine Zk (Zt (Zr (Zd (Qa Ah 2 [_,_,_,_]) rfl ?_)))
 refine Zm rfl (Zd (Qa Ah 0 [_,_,_,_]) rfl ?_)
 refine Yt (Yc [.agg #[J (ap),J (ar),J (ac),v],J (f),.agg #[J (ap),J (ar),J (c),u]] Pq (by exact(Pm hv (Ei 3) hu (Ei 1) (Ee ⟨by omega,by omega⟩ (by omega) hyg) (Ee ⟨by omega,by omega⟩ (by omega) (by assumption)) (by omega) (by omega)))) ?_
 rintro _ _ ⟨v17,rfl,hs18,rfl⟩
 refine Yu Ah [J (ap),J (ar),J (ac),v17] 3 (Ad rfl (Ad rfl (Ad rfl (Ad (Ab.one hs18) rfl)))) ?_
 refine Zn (GE.blockN (Zt (Zr ?_)))
 refine Zd Qp rfl ?_
 exact Zm rfl (Zn (Yg (k+1,(f),c,addF f ap ys zs,v17,zs,u) (⟨by omega,hcc,hf2,Z4 hy hz2 hf2,hz2,hs18,hu⟩) [1,1,1,0,1,1] 1))
 replace hc11:=of_decide_eq_false hc11
 have hNb:=(C6 (M:=⟨ap,ar,ac,ad⟩) (by omega)).2.2
 have h1:AY ⟨ap,ar,ac,ad⟩=true:=(C6 (M:=⟨ap,ar,ac,ad⟩) (by omega)).1
 have h4:ar=ac:=(C6 (M:=⟨ap,ar,ac,ad⟩) (by omega)).2.1
 obtain⟨hr,hc,hal,hap⟩:=Dn h1
 have hg1:=Dy h1
 have h3:=BC h1
 have hp2:=AU h3.1
 simp only at hr hc hal hap hg1 h3 hp2
 have hm1:=BH (A:=40) (B:=40) hr hr
 have hal2:(ad.length:Int)=ar*ar:=by rw[hal,← h4]
 have hm2:ar*ac=ar*ar:=by rw[← h4]
 have hok:Bg ⟨ap,ar,ac,ad⟩=true:=by simp only[Bg,Bool.and_eq_true,decide_eq_true_eq];omega
 refine GC.exit (Zp (Zp (GE.hit (Zt (Zs (Zr ?_))))))
 refine Zd (Qa Ah 2 [_,_,_,_]) rfl ?_
 refine Yu Ah [J (ap),J (ar),J (ac),v] 4 (Ad rfl (Ad rfl (Ad rfl (Ad (Ab.one hv) rfl)))) ?_
 refine Za rfl (Zn (Zt (GC.ret ?_)))
 exact GE.body [3] 5 (AZ rfl (RVs.cons (Ag Ah rfl (i:=4) rfl rfl) (RVs.cons (AD rfl) RVs.nil)) rfl) rfl (⟨v,congr (congr (congr (congrArg (fun a0 a1 a2 a4=>(.tuple #[.agg #[J (a0),J (a1),J (a2),v],.bool (a4)]:Value)) ((by rw[exF,if_pos hok]:(ap:Int)=(exF ⟨ap,ar,ac,ad⟩).p))) ((by rw[exF,if_pos hok]:(ar:Int)=(exF ⟨ap,ar,ac,ad⟩).r))) ((by rw[exF,if_pos hok,h4]:(ac:Int)=(exF ⟨ap,ar,ac,ad⟩).c))) ((hok.symm:(true:Bool)=Bg ⟨ap,ar,ac,ad⟩)),hv,congrArg (fun l0=>ints 3 v l0::own) ((by rw[exF,if_pos hok,hy,show k=(EI ⟨ap,ar,ac,ad⟩).toNat by omega]:ys=(exF ⟨ap,ar,ac,ad⟩).d))⟩)
theorem Hw {W:World}{own:List Asn}{ap:Int}{ar:Int}{ac:Int}{vad:Value}{ad:List Int}(sad:Ab vad)(ead:Ent own fun w=>Ints w vad ad):Spec Tryz.prog 81 [.agg #[J (ap),J (ar),J (ac),vad]] W own (fun v ow=>∃ (r3:Value),v = .tuple #[.agg #[J ((exF ⟨ap,ar,ac,ad⟩).p),J ((exF ⟨ap,ar,ac,ad⟩).r),J ((exF ⟨ap,ar,ac,ad⟩).c),r3],.bool (Bg ⟨ap,ar,ac,ad⟩)]∧Ab r3∧ow=ints 3 r3 ((exF ⟨ap,ar,ac,ad⟩).d)::own):=by
 refine Spec.enter Tryz.f81 _ Tryz.func81 rfl (n:=48) rfl rfl ?_
 refine Zs (Zr (Yt (OG.box (cs:=[J (ap),J (ar),J (ac),vad]) rfl rfl rfl) ?_))
 rintro _ _ ⟨g1,rfl,rfl⟩
 refine Yt (OG.alloc rfl Ah (zs:=[J (0),J (0),J (0),.slice none 0 0]) rfl) ?_
 rintro _ _ ⟨g2,rfl,rfl⟩
 refine Za rfl (Zn (Zt (Zs (Zr (Zd (Qa Ah 1 [_,_,_,_]) rfl ?_)))))
 refine Yt (Yc [.agg #[J (ap),J (ar),J (ac),vad]] cu (by exact(FS sad (Ent.drop 2 ead)))) ?_
 rintro _ _ ⟨rfl,rfl⟩
 refine Za rfl (Zn (Zt (Zs (Zs (Zr (Zm rfl (Zd Bb rfl ?_)))))))
 refine Zm rfl ?_
 rcases Bool.eq_false_or_eq_true (decide (EI ⟨ap,ar,ac,ad⟩<0)) with hg3 | hg3
 have hg3e:=hg3
 rw[hg3e]
 replace hg3:=of_decide_eq_true hg3
 iterate 4 refine Yk ?_
 refine Zd (OD.pickT rfl rfl rfl) rfl ?_
 refine Zn (Zt (GC.condT rfl (Zs (Zr ?_))))
 refine Zd (OD.build (idx:=[]) (xs:=[]) (vs:=[]) (cs:=[]) (zs:=[J (0),J (0),J (0),.slice none 0 0]) (r:=[J (0),J (0),J (0),.slice none 0 0]) rfl Ah rfl rfl rfl trivial rfl) rfl ?_
 refine Yu Ah [J (0),J (0),J (0),.slice none 0 0] 0 rfl ?_
 refine Za rfl (Zn (Zt (GC.ret (GE.passR ?_))))
 refine GE.nilInts 3 ?_
 exact GE.body [0] 2 (AZ rfl (RVs.cons (Ag Ah rfl (i:=1) rfl rfl) (RVs.cons (AD rfl) RVs.nil)) rfl) rfl (⟨(.slice none 0 0),congr (congr (congr (congrArg (fun a0 a1 a2 a4=>(.tuple #[.agg #[J (a0),J (a1),J (a2),(.slice none 0 0)],.bool (a4)]:Value)) ((by rw[exF,if_neg (by simp only[Bg];simp;omega)]:(0:Int)=(exF ⟨ap,ar,ac,ad⟩).p))) ((by rw[exF,if_neg (by simp only[Bg];simp;omega)]:(0:Int)=(exF ⟨ap,ar,ac,ad⟩).r))) ((by rw[exF,if_neg (by simp only[Bg];simp;omega)]:(0:Int)=(exF ⟨ap,ar,ac,ad⟩).c))) ((by simp only[Bg];simp;omega:(false:Bool)=Bg ⟨ap,ar,ac,ad⟩)),Ab.nil,congrArg (fun l0=>ints 3 (.slice none 0 0) l0::own) ((by rw[exF,if_neg (by simp only[Bg];simp;omega)] : []=(exF ⟨ap,ar,ac,ad⟩).d))⟩)
 have hg3e:=hg3
 rw[hg3e]
 replace hg3:=of_decide_eq_false hg3
 refine Yd (OD.move rfl rfl) ?_
 refine Yd (Qf BG) ?_
 refine Yd (Ql Ak 1) ?_
 refine Yd (OD.gtr rfl rfl rfl) ?_
 refine Zd (OD.pickF rfl rfl rfl) rfl ?_
 refine Zn (Zt ?_)
 refine GC.cond rfl (fun hc4=>?_) (fun hc4=>?_)
 replace hc4:=of_decide_eq_true hc4
 refine Zs (Zr (Zd (OD.build (idx:=[]) (xs:=[]) (vs:=[]) (cs:=[]) (zs:=[J (0),J (0),J (0),.slice none 0 0]) (r:=[J (0),J (0),J (0),.slice none 0 0]) rfl Ah rfl rfl rfl trivial rfl) rfl ?_))
 refine Yu Ah [J (0),J (0),J (0),.slice none 0 0] 0 rfl ?_
 refine Za rfl (Zn (Zt (GC.ret (GE.passR ?_))))
 refine GE.nilInts 3 ?_
 exact GE.body [0] 2 (AZ rfl (RVs.cons (Ag Ah rfl (i:=1) rfl rfl) (RVs.cons (AD rfl) RVs.nil)) rfl) rfl (⟨(.slice none 0 0),congr (congr (congr (congrArg (fun a0 a1 a2 a4=>(.tuple #[.agg #[J (a0),J (a1),J (a2),(.slice none 0 0)],.bool (a4)]:Value)) ((by rw[exF,if_neg (by simp only[Bg];simp;omega)]:(0:Int)=(exF ⟨ap,ar,ac,ad⟩).p))) ((by rw[exF,if_neg (by simp only[Bg];simp;omega)]:(0:Int)=(exF ⟨ap,ar,ac,ad⟩).r))) ((by rw[exF,if_neg (by simp only[Bg];simp;omega)]:(0:Int)=(exF ⟨ap,ar,ac,ad⟩).c))) ((by simp only[Bg];simp;omega:(false:Bool)=Bg ⟨ap,ar,ac,ad⟩)),Ab.nil,congrArg (fun l0=>ints 3 (.slice none 0 0) l0::own) ((by rw[exF,if_neg (by simp only[Bg];simp;omega)] : []=(exF ⟨ap,ar,ac,ad⟩).d))⟩)
 replace hc4:=of_decide_eq_false hc4
 have hNb:=(C6 (M:=⟨ap,ar,ac,ad⟩) (by omega)).2.2
 have h1:AY ⟨ap,ar,ac,ad⟩=true:=(C6 (M:=⟨ap,ar,ac,ad⟩) (by omega)).1
 have h4:ar=ac:=(C6 (M:=⟨ap,ar,ac,ad⟩) (by omega)).2.1
 obtain⟨hr,hc,hal,hap⟩:=Dn h1
 have hg1:=Dy h1
 have h3:=BC h1
 have hp2:=AU h3.1
 simp only at hr hc hal hap hg1 h3 hp2
 have hm1:=BH (A:=40) (B:=40) hr hr
 have hal2:(ad.length:Int)=ar*ar:=by rw[hal,← h4]
 have hm2:ar*ac=ar*ar:=by rw[← h4]
 have hok:Bg ⟨ap,ar,ac,ad⟩=true:=by simp only[Bg,Bool.and_eq_true,decide_eq_true_eq];omega
 refine Zk (Zt (Zs (Zr (Zd (Qf BG) rfl ?_))))
 refine Zd (Ql Ak 1) rfl ?_
 refine Zd (Qf BJ) rfl ?_
 refine Zd (Ql Ak 1) rfl ?_
 refine Zd (Qf BJ) rfl ?_
 refine Zd (Ql Ak 1) rfl ?_
 refine Yt (Yc [J (ap),J (ar),J (ar)] OY (by exact(Kd (by omega)))) ?_
 rintro _ _ ⟨v5,rfl,hs6,rfl⟩
 refine Yt (OG.alloc rfl Ah (zs:=[J (0),J (0),J (0),.slice none 0 0]) rfl) ?_
 rintro _ _ ⟨g7,rfl,rfl⟩
 refine Yu Ah [J (ap),J (ar),J (ar),v5] 0 (Ad rfl (Ad rfl (Ad rfl (Ad (Ab.one hs6) rfl)))) ?_
 refine Zn (Zt (Zs (Zr (Zd (Qf BG) rfl ?_))))
 refine Zd (Ql Ak 3) rfl ?_
 refine Zd (Qf BJ) rfl ?_
 refine Zd (Ql Ak 3) rfl ?_
 refine Yt (Yc [J (ap),J (ar)] VH (by exact(Ls (h3.1) (h3.2.1)))) ?_
 rintro _ _ ⟨v8,rfl,hs9,rfl⟩
 refine Yt (OG.alloc rfl Ah (zs:=[J (0),J (0),J (0),.slice none 0 0]) rfl) ?_
 rintro _ _ ⟨g10,rfl,rfl⟩
 refine Yu Ah [J (ap),J (ar),J (ar),v8] 0 (Ad rfl (Ad rfl (Ad rfl (Ad (Ab.one hs9) rfl)))) ?_
 refine Zn (Zt (Zs (Zs (Zr (Za rfl (Zn (Zt (GC.block ?_))))))))
 refine GC.loop (ι:=Nat × Int × List Int × Value × List Int × Value) (fun⟨k,c,ys,v,zs,u⟩=>[(1,Pg g1 0),(2,Pg g2 0),(4,J (EI ⟨ap,ar,ac,ad⟩)),(5,Pg g7 0),(6,Pg g10 0),(7,J ((k:Int)+1))]) (fun⟨k,c,ys,v,zs,u⟩=>box g10 51 [J (ap),J (ar),J (c),u]::ints 3 u zs::box g7 51 [J (ap),J (ar),J (ar),v]::ints 3 v ys::box g2 51 [J (0),J (0),J (0),.slice none 0 0]::box g1 51 [J (ap),J (ar),J (ac),vad]::own) (fun⟨k,c,ys,v,zs,u⟩=>((k:Int)≤EI ⟨ap,ar,ac,ad⟩)∧(c=ar)∧(ys=Xk ap ar ad k)∧(zs=aF ap ar ad k)∧(Ab v)∧(Ab u)) (fun⟨k,c,ys,v,zs,u⟩=>(EI ⟨ap,ar,ac,ad⟩).toNat - k) (0,ar,List.replicate ((ar:Int)*ar).toNat 0,v5,(Sk ar),v8) (⟨by omega,rfl,rfl,rfl,hs6,hs9⟩) ⟨rfl,rfl,rfl,rfl,rfl,int_eq (by omega),trivial⟩ [] 0 rfl ?_
 rintro⟨k,c,ys,v,zs,u⟩ ⟨hk,hcc,hy,hz,hv,hu⟩
 have hyl:ys.length=(ar*ar).toNat:=by rw[hy];exact P4 k
 have hyg:Rg ap ys:=by rw[hy];exact VR (by omega) k
 have hzl:zs.length=(ar*ar).toNat:=by rw[hz];exact Zf _
 have hzg:Rg ap zs:=by rw[hz];exact UL ⟨by omega,by omega⟩ hg1 _
 have hul:=Eh ap ar c ac zs ad
 have hug:=Fq (ar:=ar) (ac:=c) (bc:=ac) ⟨by omega,by omega⟩ hzg hg1
 refine Zs (Zs (Zr (Zm rfl (Zm rfl (Zd (OD.leq rfl rfl rfl) rfl ?_)))))
 refine Zn (Zt ?_)
 refine GC.cond rfl (fun hc11=>?_) (fun hc11=>?_)
 replace hc11:=of_decide_eq_true hc11
 refine Zk (Zt (Zs (GC.block (Zs (Zr ?_)))))
 refine Zd (Qa Ah 2 [_,_,_,_]) rfl ?_
 refine Zd (Qa Ah 0 [_,_,_,_]) rfl ?_
 refine Yt (Yc [.agg #[J (ap),J (ar),J (ar),v],.agg #[J (ap),J (ar),J (c),u]] aT (by exact(ZG hv (Ei 3) hu (Ei 1) (Ee ⟨by omega,by omega⟩ (by omega) hyg) (Ee ⟨by omega,by omega⟩ (by omega) hzg) (by omega)))) ?_
 rintro _ _ ⟨v12,rfl,hs13,rfl⟩
 refine Yu Ah [J (ap),J (ar),J (ar),v12] 3 (Ad rfl (Ad rfl (Ad rfl (Ad (Ab.one hs13) rfl)))) ?_
 refine Zn (Zt (Ya [(1,_),(2,_),(4,_),(5,_),(6,_),(7,_)] ?_))
 refine Wp [Z0 39 (.agg #[J (ap),J (ar),J (c),u]),Z0 40 (.agg #[J (ap),J (ar),J (ac),vad]),⟨41,[(0,39),(1,40)],[],[],[2],fun ds => .agg #[J (ap),J (ar),J (ac),((ds.getD 0 []).getD 0 undef)],fun ds=>Ab ((ds.getD 0 []).getD 0 undef),fun ds=>[ints 3 ((ds.getD 0 []).getD 0 undef) (mulF ap ar c ac zs ad)]⟩,Z0 42 (J ((k:Int)+1)),Z0 43 (Pg g1 0),Z1 44 [(4,43)] (J (ap)),Z1 45 [(3,42),(5,44)] (J (LC ((k:Int)+1) ap)),⟨46,[(2,41),(6,45)],[2],[],[2,7],fun ds => .agg #[J (ap),J (ar),J (ac),((ds.getD 1 []).getD 0 undef)],fun ds=>Ab ((ds.getD 1 []).getD 0 undef),fun ds=>[ints 3 ((ds.getD 1 []).getD 0 undef) (((mulF ap ar c ac zs ad:List Int)).map (fun x=>(x*(LC ((k:Int)+1) ap%ap)).tmod ap))]⟩] (Zc (fun _ _ _=>Zq (Qa Ah 1 [_,_,_,_]) rfl) (Zc (fun _ _ _=>Zq (Qa Ah 6 [_,_,_,_]) rfl) (Zc (fun _ _ _=>AR.plain (OG.imp (Yc [.agg #[J (ap),J (ar),J (c),u],.agg #[J (ap),J (ar),J (ac),vad]] P6 (by exact(Mq hu (Ei 2) sad (Ent.drop 7 ead.app) (hr) (by omega) (hc) (by rw[hzl,hcc];exact Int.toNat_of_nonneg hm1.1) (by rw[hal,hcc]) (by omega)))) (by rintro _ _ ⟨v14,rfl,hs15,rfl⟩;exact⟨[v14],rfl,hs15,rfl⟩)) rfl) (Yv (Zc (fun _ _ _=>Zq (Qf BG) rfl) (Zc (fun _ _ _=>Zq (Ql Ak 6) rfl) (Zc (fun _ _ _=>Zq (Yc [J ((k:Int)+1),J (ap)] cN (by exact(MQ (h3.1) (by omega)))) rfl) (Zc (fun θ _ ⟨h2d,_,_⟩=>AR.plain (OG.imp (Yc [.agg #[J (ap),J (ar),J (ac),((θ 2).getD 0 undef)],J (LC ((k:Int)+1) ap)] bH (by exact(SD h2d (Ei 0) (by omega) (⟨by rw[hul];omega,fun i=>by have h9:=hug i;omega⟩)))) (by rintro _ _ ⟨v16,rfl,hs17,rfl⟩;exact⟨[v16],rfl,hs17,rfl⟩)) rfl) As.nil)))))))) ?_
 intro θ hall
 obtain⟨_,_,h2a,_,_,_,_,h7a,_⟩:=hall
 refine Yb [(1,_),(2,_),(4,_),(5,_),(6,_),(7,_),(46,.agg #[J (ap),J (ar),J (ac),((θ 7).getD 0 undef)])] (ints 3 ((θ 2).getD 0 undef) (mulF ap ar c ac zs ad)::ints 3 ((θ 7).getD 0 undef) (((mulF ap ar c ac zs ad:List Int)).map (fun x=>(x*(LC ((k:Int)+1) ap%ap)).tmod ap))::_::_) ?_
 have hs18:Ab ((θ 2).getD 0 undef):=h2a
 clear h2a
 generalize ((θ 2).getD 0 undef)=v19 at *
 have hs20:Ab ((θ 7).getD 0 undef):=h7a
 clear h7a
 generalize ((θ 7).getD 0 undef)=v21 at *
 show G _ _ _ [_] _ _ _ _
 refine Yu Ah [J (ap),J (ar),J (ac),v21] 3 (Ad rfl (Ad rfl (Ad rfl (Ad (Ab.one hs20) rfl)))) ?_
 refine Zn (GE.blockN (Zt (Zr ?_)))
 refine Zm rfl (Zd Qp rfl ?_)
 exact Za rfl (Zn (GE.again (k+1,ac,addF 1 ap ys zs,v12,((mulF ap ar c ac zs ad:List Int)).map (fun x=>(x*(LC ((k:Int)+1) ap%ap)).tmod ap),v21) (⟨by omega,h4.symm,by rw[hy,hz];rfl,by rw[hz,hcc,← h4];rfl,hs13,hs20⟩) (by first | omega | (dsimp only;omega)) ⟨rfl,rfl,rfl,rfl,rfl,int_eq (by omega),trivial⟩ [3,1,3,1,3,3] 3 rfl))
 replace hc11:=of_decide_eq_false hc11
 have hNb:=(C6 (M:=⟨ap,ar,ac,ad⟩) (by omega)).2.2
 have h1:AY ⟨ap,ar,ac,ad⟩=true:=(C6 (M:=⟨ap,ar,ac,ad⟩) (by omega)).1
 have h4:ar=ac:=(C6 (M:=⟨ap,ar,ac,ad⟩) (by omega)).2.1
 obtain⟨hr,hc,hal,hap⟩:=Dn h1
 have hg1:=Dy h1
 have h3:=BC h1
 have hp2:=AU h3.1
 simp only at hr hc hal hap hg1 h3 hp2
 have hm1:=BH (A:=40) (B:=40) hr hr
 have hal2:(ad.length:Int)=ar*ar:=by rw[hal,← h4]
 have hm2:ar*ac=ar*ar:=by rw[← h4]
 have hok:Bg ⟨ap,ar,ac,ad⟩=true:=by simp only[Bg,Bool.and_eq_true,decide_eq_true_eq];omega
 refine GC.exit (Zp (Zp (GE.hit (Zt (Zs (Zr ?_))))))
 refine Zd (Qa Ah 2 [_,_,_,_]) rfl ?_
 refine Yu Ah [J (ap),J (ar),J (ar),v] 4 (Ad rfl (Ad rfl (Ad rfl (Ad (Ab.one hv) rfl)))) ?_
 refine Za rfl (Zn (Zt (GC.ret ?_)))
 exact GE.body [3] 5 (AZ rfl (RVs.cons (Ag Ah rfl (i:=4) rfl rfl) (RVs.cons (AD rfl) RVs.nil)) rfl) rfl (⟨v,congr (congr (congr (congrArg (fun a0 a1 a2 a4=>(.tuple #[.agg #[J (a0),J (a1),J (a2),v],.bool (a4)]:Value)) ((by rw[exF,if_pos hok]:(ap:Int)=(exF ⟨ap,ar,ac,ad⟩).p))) ((by rw[exF,if_pos hok]:(ar:Int)=(exF ⟨ap,ar,ac,ad⟩).r))) ((by rw[exF,if_pos hok]:(ar:Int)=(exF ⟨ap,ar,ac,ad⟩).c))) ((hok.symm:(true:Bool)=Bg ⟨ap,ar,ac,ad⟩)),hv,congrArg (fun l0=>ints 3 v l0::own) ((by rw[exF,if_pos hok,hy,show k=(EI ⟨ap,ar,ac,ad⟩).toNat by omega];exact(Yf (show AY ⟨ap,ar,ar,ad⟩=true by rw[← h4] at h1;exact h1) (by omega) (by omega)).symm:ys=(exF ⟨ap,ar,ac,ad⟩).d))⟩)
end Go.Proofs.YtbmnnbglipkidaaGreatDoor
