/-
  Reflections by the second text: contracts by walks.
-/
import Derived.Test.YtbmnnbglipkidaaGreatDoorWSms
import Derived.Test.YtbmnnbglipkidaaGreatDoorWRfl
namespace Go.Proofs.YtbmnnbglipkidaaGreatDoor
set_option maxRecDepth 100000
set_option maxHeartbeats 4000000
set_option linter.unusedVariables false
set_option linter.unusedSimpArgs false
open Go.RowKit
theorem dV:∀ us w,(callFunc 23 us).run Tryz.prog w = .ok (.enter 23 us) w:=fun us w=>by kernel_rfl
theorem fz:∀ us w,(callFunc 79 us).run Tryz.prog w = .ok (.enter 79 us) w:=fun us w=>by kernel_rfl
theorem ZZ:∀ us w,(callFunc 81 us).run Tryz.prog w = .ok (.enter 81 us) w:=fun us w=>by kernel_rfl
theorem ak:∀ us w,(callFunc 82 us).run Tryz.prog w = .ok (.enter 82 us) w:=fun us w=>by kernel_rfl
theorem K8 {W:World}{own:List Asn}{ap:Int}{ar:Int}{ac:Int}{vad:Value}{ad:List Int}(sad:Ab vad)(ead:Ent own fun w=>Ints w vad ad){M:Mat}(hM:⟨ap,ar,ac,ad⟩=M):Spec Tryz.prog 81 [.agg #[J (ap),J (ar),J (ac),vad]] W own (fun v ow=>∃ (r3:Value),v = .tuple #[.agg #[J ((exF M).p),J ((exF M).r),J ((exF M).c),r3],.bool (Bg M)]∧Ab r3∧ow=ints 3 r3 ((exF M).d)::own):=by
  subst hM
  exact Hw sad ead
theorem Oy {W:World}{own:List Asn}{ap:Int}{ar:Int}{ac:Int}{vad:Value}{ad:List Int}{bp:Int}{br:Int}{bc:Int}{vbd:Value}{bd:List Int}(sad:Ab vad)(ead:Ent own fun w=>Ints w vad ad)(sbd:Ab vbd)(ebd:Ent own fun w=>Ints w vbd bd){P Z:Int}(h1:ap=P)(h2:ar=Z)(h3:ac=Z)(h4:bc=Z)(hz:0≤Z∧Z≤40)(hal:(ad.length:Int)=Z*Z)(hbl:(bd.length:Int)=Z*Z)(hp:1≤P∧P≤10007):Spec Tryz.prog 83 [.agg #[J (ap),J (ar),J (ac),vad],.agg #[J (bp),J (br),J (bc),vbd]] W own (fun v ow=>∃ (r3:Value),v = .agg #[J (P),J (Z),J (Z),r3]∧Ab r3∧ow=ints 3 r3 (mulF P Z Z Z ad bd)::own):=by
  subst h1 h2 h3 h4
  exact Mq sad ead sbd ebd hz hz hz hal hbl hp
theorem Fw {W:World}{own:List Asn}{cr:Int}{vcd:Value}{cd:List Int}{p:Int}{i:Int}(scd:Ab vcd)(ecd:Ent own fun w=>Ints w vcd cd)(hl0:cd.length≤1073741824):Spec Tryz.prog 34 [.agg #[J (cr),vcd],J (p),J (i)] W own (fun v ow=>∃ (r3:Value),v = .tuple #[.agg #[J (F0 cr cd p i),J (CO cr cd p i),J (CO cr cd p i),r3],.bool (BD cr cd p i)]∧Ab r3∧ow=ints 3 r3 (rfD cr cd p i)::own):=by
 have hcr0:Bq cr cd p=true→1≤cr∧cr≤4:=fun h=>(AB (K1 h).1).1
 refine Spec.enter Tryz.f34 _ Tryz.func34 rfl (n:=88) rfl rfl ?_
 refine Zs (Zr (Yt (OG.box (cs:=[J (cr),vcd]) rfl rfl rfl) ?_))
 rintro _ _ ⟨g1,rfl,rfl⟩
 refine Yt (OG.alloc rfl Ah (zs:=[J (0),J (0),J (0),.slice none 0 0]) rfl) ?_
 rintro _ _ ⟨g2,rfl,rfl⟩
 refine Za rfl (Zn (Zt (Zs (Zr (Zd (Qa An 1 [_,_]) rfl ?_)))))
 refine Zm rfl (Yt (Yc [.agg #[J (cr),vcd],J (p)] dV (by exact(Ge scd (Ent.drop 2 ecd) (hl0)))) ?_)
 rintro _ _ ⟨v3,rfl,hs4,rfl⟩
 refine Zm rfl (Zd (OD.extract rfl rfl rfl) rfl ?_)
 refine Zd (OD.extract rfl rfl rfl) rfl ?_
 refine Yt (OG.alloc rfl Bj (zs:=[J (0),J (0),.slice none 0 0]) rfl) ?_
 rintro _ _ ⟨g5,rfl,rfl⟩
 refine Yu Bj [J (Cn cr cd p),J (Bo cr cd p),v3] 0 (Ad rfl (Ad rfl (Ad (Ab.one hs4) rfl))) ?_
 refine Za rfl (Zn (Zt (Zs (Zs (Zr (Zm rfl (Zd (OD.not rfl rfl) rfl ?_)))))))
 refine Zm rfl ?_
 rcases Bool.eq_false_or_eq_true (!(Bq cr cd p)) with hg6 | hg6
 have hg6e:=hg6
 rw[hg6e]
 replace hg6:=Ai hg6
 iterate 2 refine Yk ?_
 refine Zd (OD.pickT rfl rfl rfl) rfl ?_
 refine Zm rfl ?_
 iterate 6 refine Yk ?_
 refine Zd (OD.pickT rfl rfl rfl) rfl ?_
 refine Zn (Zt (GC.condT rfl (Zs (Zr ?_))))
 refine Zd (OD.build (idx:=[]) (xs:=[]) (vs:=[]) (cs:=[]) (zs:=[J (0),J (0),J (0),.slice none 0 0]) (r:=[J (0),J (0),J (0),.slice none 0 0]) rfl Ah rfl rfl rfl trivial rfl) rfl ?_
 refine Yu Ah [J (0),J (0),J (0),.slice none 0 0] 2 rfl ?_
 refine Za rfl (Zn (Zt (GC.ret (GE.passR ?_))))
 have hno:BD cr cd p i=false:=by simp[BD,OP,hg6]
 refine GE.nilInts 3 ?_
 exact GE.body [0] 4 (AZ rfl (RVs.cons (Ag Ah rfl (i:=3) rfl rfl) (RVs.cons (AD rfl) RVs.nil)) rfl) rfl (⟨(.slice none 0 0),congr (congr (congr (congrArg (fun a0 a1 a2 a4=>(.tuple #[.agg #[J (a0),J (a1),J (a2),(.slice none 0 0)],.bool (a4)]:Value)) (((A8 hno).1.symm:(0:Int)=F0 cr cd p i))) (((A8 hno).2.1.symm:(0:Int)=CO cr cd p i))) (((A8 hno).2.1.symm:(0:Int)=CO cr cd p i))) ((hno.symm:(false:Bool)=BD cr cd p i)),Ab.nil,congrArg (fun l0=>ints 3 (.slice none 0 0) l0::own) (((A8 hno).2.2.symm : []=rfD cr cd p i))⟩)
 have hg6e:=hg6
 rw[hg6e]
 replace hg6:=Am hg6
 refine Yd (OD.move rfl rfl) ?_
 refine Yd Bb ?_
 refine Zd (OD.pickF rfl rfl rfl) rfl ?_
 refine Zm rfl ?_
 rcases Bool.eq_false_or_eq_true (decide (p<7)) with hg7 | hg7
 have hg7e:=hg7
 rw[hg7e]
 replace hg7:=of_decide_eq_true hg7
 iterate 6 refine Yk ?_
 refine Zd (OD.pickT rfl rfl rfl) rfl ?_
 refine Zn (Zt (GC.condT rfl (Zs (Zr ?_))))
 refine Zd (OD.build (idx:=[]) (xs:=[]) (vs:=[]) (cs:=[]) (zs:=[J (0),J (0),J (0),.slice none 0 0]) (r:=[J (0),J (0),J (0),.slice none 0 0]) rfl Ah rfl rfl rfl trivial rfl) rfl ?_
 refine Yu Ah [J (0),J (0),J (0),.slice none 0 0] 2 rfl ?_
 refine Za rfl (Zn (Zt (GC.ret (GE.passR ?_))))
 have hno:BD cr cd p i=false:=by simp[BD,OP,show ¬ 7≤p by omega]
 refine GE.nilInts 3 ?_
 exact GE.body [0] 4 (AZ rfl (RVs.cons (Ag Ah rfl (i:=3) rfl rfl) (RVs.cons (AD rfl) RVs.nil)) rfl) rfl (⟨(.slice none 0 0),congr (congr (congr (congrArg (fun a0 a1 a2 a4=>(.tuple #[.agg #[J (a0),J (a1),J (a2),(.slice none 0 0)],.bool (a4)]:Value)) (((A8 hno).1.symm:(0:Int)=F0 cr cd p i))) (((A8 hno).2.1.symm:(0:Int)=CO cr cd p i))) (((A8 hno).2.1.symm:(0:Int)=CO cr cd p i))) ((hno.symm:(false:Bool)=BD cr cd p i)),Ab.nil,congrArg (fun l0=>ints 3 (.slice none 0 0) l0::own) (((A8 hno).2.2.symm : []=rfD cr cd p i))⟩)
 have hg7e:=hg7
 rw[hg7e]
 replace hg7:=of_decide_eq_false hg7
 refine Yd (OD.move rfl rfl) ?_
 refine Yd (Qf Aq) ?_
 refine Yd (Ql Ak 3) ?_
 refine Yd (OD.subI rfl rfl rfl (by have:=hcr0 (by assumption);omega)) ?_
 refine Ye (Yc [J (i),J (0),J (cr - 1)] Md (by exact G6)) ?_
 rintro _ _ ⟨rfl,rfl⟩
 refine Yd (OD.not rfl rfl) ?_
 refine Zd (OD.pickF rfl rfl rfl) rfl ?_
 refine Zn (Zt ?_)
 refine GC.cond rfl (fun hc8=>?_) (fun hc8=>?_)
 replace hc8:=Ai hc8
 refine Zs (Zr (Zd (OD.build (idx:=[]) (xs:=[]) (vs:=[]) (cs:=[]) (zs:=[J (0),J (0),J (0),.slice none 0 0]) (r:=[J (0),J (0),J (0),.slice none 0 0]) rfl Ah rfl rfl rfl trivial rfl) rfl ?_))
 refine Yu Ah [J (0),J (0),J (0),.slice none 0 0] 2 rfl ?_
 refine Za rfl (Zn (Zt (GC.ret (GE.passR ?_))))
 have hno:BD cr cd p i=false:=by simp[BD,OP,hc8]
 refine GE.nilInts 3 ?_
 exact GE.body [0] 4 (AZ rfl (RVs.cons (Ag Ah rfl (i:=3) rfl rfl) (RVs.cons (AD rfl) RVs.nil)) rfl) rfl (⟨(.slice none 0 0),congr (congr (congr (congrArg (fun a0 a1 a2 a4=>(.tuple #[.agg #[J (a0),J (a1),J (a2),(.slice none 0 0)],.bool (a4)]:Value)) (((A8 hno).1.symm:(0:Int)=F0 cr cd p i))) (((A8 hno).2.1.symm:(0:Int)=CO cr cd p i))) (((A8 hno).2.1.symm:(0:Int)=CO cr cd p i))) ((hno.symm:(false:Bool)=BD cr cd p i)),Ab.nil,congrArg (fun l0=>ints 3 (.slice none 0 0) l0::own) (((A8 hno).2.2.symm : []=rfD cr cd p i))⟩)
 replace hc8:=Am hc8
 refine Zk (Zt (Zs ?_))
 have hB:OP cr cd p i=true:=by rw[OP,hg6,hc8,decide_eq_true (show 7≤p by omega)] <;> rfl
 obtain⟨hOk,h7,hi0,hi1⟩:=du hB
 obtain⟨hS,hPr,h28⟩:=K1 hOk
 have hcr:=(AB hS).1
 have hcd:=(AB hS).2
 have hRf:(rSt cr cd).length≤30:=by have h1:=(rtOk hS).slen;have h2:=(rtOk hS).few;omega
 have hAn:Bo cr cd p=(smN cr cd:Nat):=by rw[Bo,hOk] <;> rfl
 have hAp:Cn cr cd p=p:=by rw[Cn,hOk] <;> rfl
 have hAd:DJ cr cd p=EG cr cd p:=by rw[DJ,hOk] <;> rfl
 have hT:=VJ hOk
 have hpp:=hT.hp
 have hr1:rtB (rSt cr cd) (unitL cr.toNat i.toNat)=true:=(H5 hS ⟨hi0,hi1⟩).1
 have hr2:rtB (rSt cr cd) (Av (unitL cr.toNat i.toNat))=true:=(H5 hS ⟨hi0,hi1⟩).2
 have hx1:=Qy hS hr1
 have hx2:=Qy hS hr2
 have ha1:=hx1.1
 have ha2:=hx2.1
 have hl1:=Bf cr.toNat i.toNat
 refine Zr (Zd (Qa An 3 [_,_]) rfl ?_)
 refine Yt (Yc [.agg #[J (cr),vcd]] Q6 (by exact(Fo scd (Ent.drop 4 ecd) (hcr) (hcd) (hS)))) ?_
 rintro v9 _ ⟨_,u10,rfl,hs11,hs12,hs13,rfl⟩
 refine Za rfl (Zn (Zt (Zs (Zr (Zd (Qf Aq) rfl ?_)))))
 refine Zd (Ql Ak 5) rfl ?_
 refine Zm rfl (Yt (Yc [J (cr),J (i)] NG (by exact(Fp (by omega) (by omega)))) ?_)
 rintro v14 _ ⟨_,rfl,hs15,rfl⟩
 refine Za rfl (Zn (Zt (Zs ?_)))
 obtain⟨hxl,hx10,_⟩:=Aw hS hr1
 obtain⟨hyl,hy10,_⟩:=Aw hS hr2
 have hf1:l7I cr (rSt cr cd) (unitL cr.toNat i.toNat)=((rfA cr cd (unitL cr.toNat i.toNat)):Nat):=hx1.2.1
 have hf2:l7I cr (rSt cr cd) (Av (unitL cr.toNat i.toNat))=((rfA cr cd (Av (unitL cr.toNat i.toNat))):Nat):=hx2.2.1
 have hle:∀ k,k<(rSt cr cd).length→((rSt cr cd).getD k []).length≤1073741824:=fun k hk=>by have:=(Ay hS (Bh hk)).1;omega
 refine Ya [(1,_),(3,_),(6,_),(8,_),(10,_),(11,_)] ?_
 refine Wp [Z0 45 (Pg g5 1),Z1 46 [(0,45)] (J (Bo cr cd p)),Z0 47 (.agg #[J (cr),vcd]),Z0 48 v9,Z0 49 v14,Z1 50 [(2,47),(3,48),(4,49)] (J (l7I cr (rSt cr cd) (unitL cr.toNat i.toNat))),⟨51,[(1,46),(5,50)],[],[],[6],fun ds=>((ds.getD 0 []).getD 0 undef),fun ds=>Ab ((ds.getD 0 []).getD 0 undef),fun ds=>[ints 3 ((ds.getD 0 []).getD 0 undef) (unitL (Bo cr cd p).toNat (l7I cr (rSt cr cd) (unitL cr.toNat i.toNat)).toNat)]⟩] (Zc (fun _ _ _=>Zq (Qf Cv) rfl) (Zc (fun _ _ _=>Zq (Ql Ak 3) rfl) (Zc (fun _ _ _=>Zq (Qa An 6 [_,_]) rfl) (Yv (Yv (Zc (fun _ _ _=>Zq (Yc [.agg #[J (cr),vcd],v9,v14] Oa (by exact(D6 scd (Ent.drop 7 ecd.app) hs11 (Ent.len (Ent.lst (i:=1) rfl) hs13) (fun k hk=>Ent.manyInts (i:=2) (k:=k) rfl ⟨by rw[hs13];exact hk,hk⟩) hs13 hs12 hs15 (Ei 0) (hcr) (by omega) (hle) (fun j _=>by have:=hx10 j;omega) (by omega)))) rfl) (Zc (fun _ _ _=>AR.plain (OG.imp (Yc [J (Bo cr cd p),J (l7I cr (rSt cr cd) (unitL cr.toNat i.toNat))] NG (by exact(Fp (by omega) (by omega)))) (by rintro v16 _ ⟨_,rfl,hs17,rfl⟩;exact⟨[v16],rfl,hs17,rfl⟩)) rfl) As.nil))))))) ?_
 intro θ hall
 obtain⟨_,_,_,_,_,_,h6a,_⟩:=hall
 refine Yb [(1,_),(3,_),(6,_),(8,_),(10,_),(11,_),(51,((θ 6).getD 0 undef))] (ints 3 ((θ 6).getD 0 undef) (unitL (Bo cr cd p).toNat (l7I cr (rSt cr cd) (unitL cr.toNat i.toNat)).toNat)::_::_) ?_
 have hs18:Ab ((θ 6).getD 0 undef):=h6a
 clear h6a
 generalize ((θ 6).getD 0 undef)=v19 at *
 show G _ _ _ [_] _ _ _ _
 refine Za rfl (Zn (Zt (Zs (Ya [(1,_),(3,_),(6,_),(8,_),(10,_),(11,_),(12,_)] ?_))))
 refine Wp [Z0 52 (J (p)),Z0 53 (Pg g5 1),Z1 54 [(1,53)] (J (Bo cr cd p)),Z0 55 (.agg #[J (cr),vcd]),Z0 56 v9,Z0 57 v14,⟨58,[(5,57)],[],[],[6],fun ds=>((ds.getD 0 []).getD 0 undef),fun ds=>Ab ((ds.getD 0 []).getD 0 undef),fun ds=>[ints 3 ((ds.getD 0 []).getD 0 undef) (Av (unitL cr.toNat i.toNat))]⟩,⟨59,[(3,55),(4,56),(6,58)],[6],[],[6],fun _=>J (l7I cr (rSt cr cd) (Av (unitL cr.toNat i.toNat))),fun _=>True,fun _=>[]⟩,⟨60,[(2,54),(7,59)],[6],[],[6,8],fun ds=>((ds.getD 1 []).getD 0 undef),fun ds=>Ab ((ds.getD 1 []).getD 0 undef),fun ds=>[ints 3 ((ds.getD 1 []).getD 0 undef) (unitL (Bo cr cd p).toNat (l7I cr (rSt cr cd) (Av (unitL cr.toNat i.toNat))).toNat)]⟩,⟨61,[(0,52),(8,60)],[6,8],[],[6,8,9],fun ds=>((ds.getD 2 []).getD 0 undef),fun ds=>Ab ((ds.getD 2 []).getD 0 undef),fun ds=>[ints 3 ((ds.getD 2 []).getD 0 undef) (Lx p (-1) (unitL (Bo cr cd p).toNat (l7I cr (rSt cr cd) (Av (unitL cr.toNat i.toNat))).toNat))]⟩] (Yv (Zc (fun _ _ _=>Zq (Qf Cv) rfl) (Zc (fun _ _ _=>Zq (Ql Ak 4) rfl) (Zc (fun _ _ _=>Zq (Qa An 7 [_,_]) rfl) (Yv (Yv (Zc (fun _ _ _=>AR.plain (OG.imp (Yc [v14] EE (by exact(BA hs15 (Ei 1) (fun j _=>by have:=hx10 j;omega) (by omega)))) (by rintro v20 _ ⟨_,rfl,hs21,rfl⟩;exact⟨[v20],rfl,hs21,rfl⟩)) rfl) (Zc (fun θ _ ⟨_,_,h6d,_⟩=>Zq (Yc [.agg #[J (cr),vcd],v9,((θ 6).getD 0 undef)] Oa (by exact(D6 scd (Ent.drop 9 ecd.app) hs11 (Ent.len (Ent.lst (i:=3) rfl) hs13) (fun k hk=>Ent.manyInts (i:=4) (k:=k) rfl ⟨by rw[hs13];exact hk,hk⟩) hs13 hs12 h6d (Ei 0) (hcr) (by omega) (hle) (fun j _=>by have:=hy10 j;omega) (by omega)))) rfl) (Zc (fun _ _ _=>AR.plain (OG.imp (Yc [J (Bo cr cd p),J (l7I cr (rSt cr cd) (Av (unitL cr.toNat i.toNat)))] NG (by exact(Fp (by omega) (by omega)))) (by rintro v22 _ ⟨_,rfl,hs23,rfl⟩;exact⟨[v22],rfl,hs23,rfl⟩)) rfl) (Zc (fun θ _ ⟨_,h8d,_⟩=>AR.plain (OG.imp (Yc [J (p),J (-1),((θ 8).getD 0 undef)] fz (by exact(My h8d (Ei 1) (by omega) (by omega) (by rw[Bf];omega) (H0 (by omega))))) (by rintro v24 _ ⟨_,rfl,hs25,rfl⟩;exact⟨[v24],rfl,hs25,rfl⟩)) rfl) As.nil)))))))))) ?_
 intro θ hall
 obtain⟨_,_,_,_,_,_,h6a,_,h8a,h9a,_⟩:=hall
 refine Yb [(6,_),(8,_),(12,_),(61,((θ 9).getD 0 undef))] (ints 3 ((θ 6).getD 0 undef) (Av (unitL cr.toNat i.toNat))::ints 3 ((θ 8).getD 0 undef) (unitL (Bo cr cd p).toNat (l7I cr (rSt cr cd) (Av (unitL cr.toNat i.toNat))).toNat)::ints 3 ((θ 9).getD 0 undef) (Lx p (-1) (unitL (Bo cr cd p).toNat (l7I cr (rSt cr cd) (Av (unitL cr.toNat i.toNat))).toNat))::_::_) ?_
 have hs26:Ab ((θ 6).getD 0 undef):=h6a
 clear h6a
 generalize ((θ 6).getD 0 undef)=v27 at *
 have hs28:Ab ((θ 8).getD 0 undef):=h8a
 clear h8a
 generalize ((θ 8).getD 0 undef)=v29 at *
 have hs30:Ab ((θ 9).getD 0 undef):=h9a
 clear h9a
 generalize ((θ 9).getD 0 undef)=v31 at *
 show G _ _ _ [_] _ _ _ _
 refine Za rfl (Zn (Zt (Zs (Zr (Zd (Qa Bj 7 [_,_,_]) rfl ?_)))))
 refine Zm rfl (Yt (Yc [.agg #[J (Cn cr cd p),J (Bo cr cd p),v3],v19] ak (by exact(Hl hs4 (Ei 8) hs18 (Ei 3) (P:=p) (N:=(smN cr cd)) (T:=(EG cr cd p)) (U:=(unitL (smN cr cd) (rfA cr cd (unitL cr.toNat i.toNat)))) (hAp) (hAn) (hAd) (hT) (by rw[hAn,hf1] <;> rfl) (Bf _ _) (H0 ha1)))) ?_)
 rintro _ _ ⟨v32,rfl,hs33,rfl⟩
 refine Yt (Yc [.agg #[J (p),J (((smN cr cd):Int)),J (((smN cr cd):Int)),v32]] ZZ (by exact(K8 hs33 (Ei 0) (M:=(B0 cr cd p i)) (rfl)))) ?_
 rintro _ _ ⟨v34,rfl,hs35,rfl⟩
 refine Zm rfl (Zd (OD.extract rfl rfl rfl) rfl ?_)
 refine Zd (OD.extract rfl rfl rfl) rfl ?_
 refine Yt (OG.alloc rfl Ah (zs:=[J (0),J (0),J (0),.slice none 0 0]) rfl) ?_
 rintro _ _ ⟨g36,rfl,rfl⟩
 refine Yu Ah [J ((exF (B0 cr cd p i)).p),J ((exF (B0 cr cd p i)).r),J ((exF (B0 cr cd p i)).c),v34] 0 (Ad rfl (Ad rfl (Ad rfl (Ad (Ab.one hs35) rfl)))) ?_
 refine Za rfl (Zn (Zt (Zs (Zr (Zd (Qa Bj 10 [_,_,_]) rfl ?_)))))
 refine Zm rfl (Yt (Yc [.agg #[J (Cn cr cd p),J (Bo cr cd p),v3],v31] ak (by exact(Hl hs4 (Ei 11) hs30 (Ei 5) (P:=p) (N:=(smN cr cd)) (T:=(EG cr cd p)) (U:=(Lx p (-1) (unitL (smN cr cd) (rfA cr cd (Av (unitL cr.toNat i.toNat)))))) (hAp) (hAn) (hAd) (hT) (by rw[hAn,hf2] <;> rfl) (cp) (dG hpp)))) ?_)
 rintro _ _ ⟨v37,rfl,hs38,rfl⟩
 refine Yt (Yc [.agg #[J (p),J (((smN cr cd):Int)),J (((smN cr cd):Int)),v37]] ZZ (by exact(K8 hs38 (Ei 0) (M:=(CS cr cd p i)) (rfl)))) ?_
 rintro _ _ ⟨v39,rfl,hs40,rfl⟩
 refine Zm rfl (Zd (OD.extract rfl rfl rfl) rfl ?_)
 refine Zd (OD.extract rfl rfl rfl) rfl ?_
 refine Yt (OG.alloc rfl Ah (zs:=[J (0),J (0),J (0),.slice none 0 0]) rfl) ?_
 rintro _ _ ⟨g41,rfl,rfl⟩
 refine Yu Ah [J ((exF (CS cr cd p i)).p),J ((exF (CS cr cd p i)).r),J ((exF (CS cr cd p i)).c),v39] 0 (Ad rfl (Ad rfl (Ad rfl (Ad (Ab.one hs40) rfl)))) ?_
 refine Za rfl (Zn (Zt (Zs (Zs (Zr (Zm rfl (Zd (OD.not rfl rfl) rfl ?_)))))))
 refine Zm rfl ?_
 rcases Bool.eq_false_or_eq_true (!(Bg (B0 cr cd p i))) with hg42 | hg42
 have hg42e:=hg42
 rw[hg42e]
 replace hg42:=Ai hg42
 iterate 2 refine Yk ?_
 refine Zd (OD.pickT rfl rfl rfl) rfl ?_
 refine Zn (Zt (GC.condT rfl (Zs (Zr ?_))))
 refine Zd (OD.build (idx:=[]) (xs:=[]) (vs:=[]) (cs:=[]) (zs:=[J (0),J (0),J (0),.slice none 0 0]) (r:=[J (0),J (0),J (0),.slice none 0 0]) rfl Ah rfl rfl rfl trivial rfl) rfl ?_
 refine Yu Ah [J (0),J (0),J (0),.slice none 0 0] 15 rfl ?_
 refine Za rfl (Zn (Zt (GC.ret (GE.passR ?_))))
 have hno:BD cr cd p i=false:=by simp[BD,OP,hg42]
 refine GE.nilInts 3 ?_
 exact GE.body [0] 17 (AZ rfl (RVs.cons (Ag Ah rfl (i:=16) rfl rfl) (RVs.cons (AD rfl) RVs.nil)) rfl) rfl (⟨(.slice none 0 0),congr (congr (congr (congrArg (fun a0 a1 a2 a4=>(.tuple #[.agg #[J (a0),J (a1),J (a2),(.slice none 0 0)],.bool (a4)]:Value)) (((A8 hno).1.symm:(0:Int)=F0 cr cd p i))) (((A8 hno).2.1.symm:(0:Int)=CO cr cd p i))) (((A8 hno).2.1.symm:(0:Int)=CO cr cd p i))) ((hno.symm:(false:Bool)=BD cr cd p i)),Ab.nil,congrArg (fun l0=>ints 3 (.slice none 0 0) l0::own) (((A8 hno).2.2.symm : []=rfD cr cd p i))⟩)
 have hg42e:=hg42
 rw[hg42e]
 replace hg42:=Am hg42
 refine Yd (OD.move rfl rfl) ?_
 refine Yd (OD.not rfl rfl) ?_
 refine Zd (OD.pickF rfl rfl rfl) rfl ?_
 refine Zn (Zt ?_)
 refine GC.cond rfl (fun hc43=>?_) (fun hc43=>?_)
 replace hc43:=Ai hc43
 refine Zs (Zr (Zd (OD.build (idx:=[]) (xs:=[]) (vs:=[]) (cs:=[]) (zs:=[J (0),J (0),J (0),.slice none 0 0]) (r:=[J (0),J (0),J (0),.slice none 0 0]) rfl Ah rfl rfl rfl trivial rfl) rfl ?_))
 refine Yu Ah [J (0),J (0),J (0),.slice none 0 0] 15 rfl ?_
 refine Za rfl (Zn (Zt (GC.ret (GE.passR ?_))))
 have hno:BD cr cd p i=false:=by simp[BD,OP,hc43]
 refine GE.nilInts 3 ?_
 exact GE.body [0] 17 (AZ rfl (RVs.cons (Ag Ah rfl (i:=16) rfl rfl) (RVs.cons (AD rfl) RVs.nil)) rfl) rfl (⟨(.slice none 0 0),congr (congr (congr (congrArg (fun a0 a1 a2 a4=>(.tuple #[.agg #[J (a0),J (a1),J (a2),(.slice none 0 0)],.bool (a4)]:Value)) (((A8 hno).1.symm:(0:Int)=F0 cr cd p i))) (((A8 hno).2.1.symm:(0:Int)=CO cr cd p i))) (((A8 hno).2.1.symm:(0:Int)=CO cr cd p i))) ((hno.symm:(false:Bool)=BD cr cd p i)),Ab.nil,congrArg (fun l0=>ints 3 (.slice none 0 0) l0::own) (((A8 hno).2.2.symm : []=rfD cr cd p i))⟩)
 replace hc43:=Am hc43
 refine Zk (Zt (Zs ?_))
 obtain⟨m1,m2,m3,m4⟩:=eE hg42
 obtain⟨n1,n2,n3,n4⟩:=eN hc43
 refine Ya [(6,_),(14,_),(16,_)] ?_
 refine Wp [Z0 83 (.agg #[J ((exF (B0 cr cd p i)).p),J ((exF (B0 cr cd p i)).r),J ((exF (B0 cr cd p i)).c),v34]),Z0 84 (.agg #[J ((exF (CS cr cd p i)).p),J ((exF (CS cr cd p i)).r),J ((exF (CS cr cd p i)).c),v39]),⟨85,[(0,83),(1,84)],[],[],[2],fun ds => .agg #[J (p),J (((smN cr cd:Nat):Int)),J (((smN cr cd:Nat):Int)),((ds.getD 0 []).getD 0 undef)],fun ds=>Ab ((ds.getD 0 []).getD 0 undef),fun ds=>[ints 3 ((ds.getD 0 []).getD 0 undef) (mulF p ((smN cr cd:Nat):Int) ((smN cr cd:Nat):Int) ((smN cr cd:Nat):Int) ((exF (B0 cr cd p i)).d) ((exF (CS cr cd p i)).d))]⟩,Z0 86 (.agg #[J ((exF (B0 cr cd p i)).p),J ((exF (B0 cr cd p i)).r),J ((exF (B0 cr cd p i)).c),v34]),⟨87,[(2,85),(3,86)],[2],[],[2,4],fun ds => .agg #[J (p),J (((smN cr cd:Nat):Int)),J (((smN cr cd:Nat):Int)),((ds.getD 1 []).getD 0 undef)],fun ds=>Ab ((ds.getD 1 []).getD 0 undef),fun ds=>[ints 3 ((ds.getD 1 []).getD 0 undef) (mulF p ((smN cr cd:Nat):Int) ((smN cr cd:Nat):Int) ((smN cr cd:Nat):Int) (mulF p ((smN cr cd:Nat):Int) ((smN cr cd:Nat):Int) ((smN cr cd:Nat):Int) ((exF (B0 cr cd p i)).d) ((exF (CS cr cd p i)).d)) ((exF (B0 cr cd p i)).d))]⟩] (Zc (fun _ _ _=>Zq (Qa Ah 3 [_,_,_,_]) rfl) (Zc (fun _ _ _=>Zq (Qa Ah 0 [_,_,_,_]) rfl) (Zc (fun _ _ _=>AR.plain (OG.imp (Yc [.agg #[J ((exF (B0 cr cd p i)).p),J ((exF (B0 cr cd p i)).r),J ((exF (B0 cr cd p i)).c),v34],.agg #[J ((exF (CS cr cd p i)).p),J ((exF (CS cr cd p i)).r),J ((exF (CS cr cd p i)).c),v39]] P6 (by exact(Oy hs35 (Ei 4) hs40 (Ei 1) (P:=p) (Z:=((smN cr cd:Nat):Int)) (m1) (m2) (m3) (n3) (by omega) (m4) (n4) (by omega)))) (by rintro _ _ ⟨v44,rfl,hs45,rfl⟩;exact⟨[v44],rfl,hs45,rfl⟩)) rfl) (Zc (fun _ _ _=>Zq (Qa Ah 3 [_,_,_,_]) rfl) (Zc (fun θ _ ⟨h2d,_,_⟩=>AR.plain (OG.imp (Yc [.agg #[J (p),J (((smN cr cd:Nat):Int)),J (((smN cr cd:Nat):Int)),((θ 2).getD 0 undef)],.agg #[J ((exF (B0 cr cd p i)).p),J ((exF (B0 cr cd p i)).r),J ((exF (B0 cr cd p i)).c),v34]] P6 (by exact(Oy h2d (Ei 0) hs35 (Ei 5) (P:=p) (Z:=((smN cr cd:Nat):Int)) (rfl) (rfl) (rfl) (m3) (by omega) (UG) (m4) (by omega)))) (by rintro _ _ ⟨v46,rfl,hs47,rfl⟩;exact⟨[v46],rfl,hs47,rfl⟩)) rfl) As.nil))))) ?_
 intro θ hall
 obtain⟨_,_,h2a,_,h4a,_⟩:=hall
 refine Yb [(6,_),(87,.agg #[J (p),J (((smN cr cd:Nat):Int)),J (((smN cr cd:Nat):Int)),((θ 4).getD 0 undef)])] (ints 3 ((θ 2).getD 0 undef) (mulF p ((smN cr cd:Nat):Int) ((smN cr cd:Nat):Int) ((smN cr cd:Nat):Int) ((exF (B0 cr cd p i)).d) ((exF (CS cr cd p i)).d))::ints 3 ((θ 4).getD 0 undef) (mulF p ((smN cr cd:Nat):Int) ((smN cr cd:Nat):Int) ((smN cr cd:Nat):Int) (mulF p ((smN cr cd:Nat):Int) ((smN cr cd:Nat):Int) ((smN cr cd:Nat):Int) ((exF (B0 cr cd p i)).d) ((exF (CS cr cd p i)).d)) ((exF (B0 cr cd p i)).d))::_::_) ?_
 have hs48:Ab ((θ 2).getD 0 undef):=h2a
 clear h2a
 generalize ((θ 2).getD 0 undef)=v49 at *
 have hs50:Ab ((θ 4).getD 0 undef):=h4a
 clear h4a
 generalize ((θ 4).getD 0 undef)=v51 at *
 show G _ _ _ [_,_] _ _ _ _
 refine Yu Ah [J (p),J (((smN cr cd:Nat):Int)),J (((smN cr cd:Nat):Int)),v51] 17 (Ad rfl (Ad rfl (Ad rfl (Ad (Ab.one hs50) rfl)))) ?_
 refine Za rfl (Zn (Zt (GC.ret ?_)))
 have hY:BD cr cd p i=true:=by rw[BD,hB,hg42,hc43] <;> rfl
 exact GE.body [1] 18 (AZ rfl (RVs.cons (Ag Ah rfl (i:=17) rfl rfl) (RVs.cons (AD rfl) RVs.nil)) rfl) rfl (⟨v51,congr (congr (congr (congrArg (fun a0 a1 a2 a4=>(.tuple #[.agg #[J (a0),J (a1),J (a2),v51],.bool (a4)]:Value)) (((Fb hY).1.symm:(p:Int)=F0 cr cd p i))) (((Fb hY).2.1.symm:(((smN cr cd:Nat):Int):Int)=CO cr cd p i))) (((Fb hY).2.1.symm:(((smN cr cd:Nat):Int):Int)=CO cr cd p i))) ((hY.symm:(true:Bool)=BD cr cd p i)),hs50,congrArg (fun l0=>ints 3 v51 l0::own) (((Fb hY).2.2.symm:mulF p ((smN cr cd:Nat):Int) ((smN cr cd:Nat):Int) ((smN cr cd:Nat):Int) (mulF p ((smN cr cd:Nat):Int) ((smN cr cd:Nat):Int) ((smN cr cd:Nat):Int) ((exF (B0 cr cd p i)).d) ((exF (CS cr cd p i)).d)) ((exF (B0 cr cd p i)).d)=rfD cr cd p i))⟩)
theorem gG:∀ us w,(callFunc 8 us).run Tryz.prog w = .ok (.enter 8 us) w:=fun us w=>by kernel_rfl
theorem QG:∀ us w,(callFunc 10 us).run Tryz.prog w = .ok (.enter 10 us) w:=fun us w=>by kernel_rfl
theorem dZ:∀ us w,(callFunc 13 us).run Tryz.prog w = .ok (.enter 13 us) w:=fun us w=>by kernel_rfl
theorem eQ:∀ us w,(callFunc 26 us).run Tryz.prog w = .ok (.enter 26 us) w:=fun us w=>by kernel_rfl
theorem UP:∀ us w,(callFunc 31 us).run Tryz.prog w = .ok (.enter 31 us) w:=fun us w=>by kernel_rfl
theorem fi:∀ us w,(callFunc 32 us).run Tryz.prog w = .ok (.enter 32 us) w:=fun us w=>by kernel_rfl
theorem au:∀ us w,(callFunc 33 us).run Tryz.prog w = .ok (.enter 33 us) w:=fun us w=>by kernel_rfl
theorem eW:∀ us w,(callFunc 34 us).run Tryz.prog w = .ok (.enter 34 us) w:=fun us w=>by kernel_rfl
theorem aa:∀ us w,(callFunc 35 us).run Tryz.prog w = .ok (.enter 35 us) w:=fun us w=>by kernel_rfl
theorem gi:BT Tryz.prog 4:=⟨fun a b w=>by cases a <;> cases b <;> kernel_rfl,fun a b w=>by cases a <;> cases b <;> kernel_rfl⟩
theorem GX {W:World}{own:List Asn}{cr:Int}{vcd:Value}{cd:List Int}{p:Int}{i:Int}(scd:Ab vcd)(ecd:Ent own fun w=>Ints w vcd cd)(hcd:cd.length≤9223372036854775807)(hg:Ent own fun w=>∃ m,w.cell? ⟨Tryz.l146_ren.g 1,0,none⟩=some (.int .i64 m))(htab:Ent own Cm):Spec Tryz.prog 7 [.agg #[J (cr),vcd],J (p),J (i)] W own (fun v ow=>v = .bool (true)∧ow=own):=by
 have hrl:=Yj cr cd p i
 refine Spec.enter Tryz.f7 _ Tryz.func7 rfl (n:=106) rfl rfl ?_
 refine Zs (Zr (Yt (OG.box (cs:=[J (cr),vcd]) rfl rfl rfl) ?_))
 rintro _ _ ⟨g1,rfl,rfl⟩
 refine Za rfl (Zn (Zt (Zs (Zr (Za rfl (Zn (Zt (Zs (Zr (Zd (Qa Vg 0 [_,_]) rfl ?_))))))))))
 refine Zm rfl (Yt (Yc [.agg #[J (cr),vcd],J (1048576)] gG (by exact(Pv scd (Ent.drop 1 ecd) (by omega) (by omega)))) ?_)
 rintro _ _ ⟨rfl,rfl⟩
 refine Za rfl (Zn (Zt (Zs (Zs (Zr (Zm rfl (Zd Bb rfl ?_)))))))
 refine Zn (Zt ?_)
 refine GC.cond rfl (fun hc2=>?_) (fun hc2=>?_)
 replace hc2:=of_decide_eq_true hc2
 refine Zs (Zr (Za rfl (Zn (Zt (GC.ret (GE.passR ?_))))))
 exact GE.body [] 1 (Ao rfl rfl) rfl (⟨rfl,rfl⟩)
 replace hc2:=of_decide_eq_false hc2
 have hc2z:=aM hc2
 refine Zk (Zt (Zs (Zr (Zd (Qa Vg 0 [_,_]) rfl ?_))))
 refine Yt (Yc [.agg #[J (cr),vcd]] QG (by exact(En scd (Ent.drop 1 ecd) (by omega)))) ?_
 rintro _ _ ⟨v3,rfl,hs4,rfl⟩
 refine Zm rfl (Zm rfl (Yt (Yc [.agg #[J (cr),v3],J (p),J (i)] eW (by exact(Fw hs4 (Ei 0) (by omega)))) ?_))
 rintro _ _ ⟨v5,rfl,hs6,rfl⟩
 refine Zm rfl (Zd (OD.extract rfl rfl rfl) rfl ?_)
 refine Zd (OD.extract rfl rfl rfl) rfl ?_
 refine Yt (OG.alloc rfl Ah (zs:=[J (0),J (0),J (0),.slice none 0 0]) rfl) ?_
 rintro _ _ ⟨g7,rfl,rfl⟩
 refine Yu Ah [J (F0 cr cd p i),J (CO cr cd p i),J (CO cr cd p i),v5] 0 (Ad rfl (Ad rfl (Ad rfl (Ad (Ab.one hs6) rfl)))) ?_
 refine Za rfl (Zn (Zt (Zs (Zr (Zd (Qa Vg 3 [_,_]) rfl ?_)))))
 refine Yt (Yc [.agg #[J (cr),vcd]] QG (by exact(En scd (Ent.drop 4 ecd) (by omega)))) ?_
 rintro _ _ ⟨v8,rfl,hs9,rfl⟩
 refine Yt (OG.alloc rfl An (zs:=[J (0),.slice none 0 0]) rfl) ?_
 rintro _ _ ⟨g10,rfl,rfl⟩
 refine Yu An [J (cr),v8] 0 (Ad rfl (Ad (Ab.one hs9) rfl)) ?_
 refine Zn (Zt (Zs (Zr (Zd (Qa An 0 [_,_]) rfl ?_))))
 refine Zm rfl (Zm rfl (Yt (Yc [.agg #[J (cr),v8],J (p),J (i)] aa (by exact(EC hs9 (Ei 1) (by omega) ((Ent.drop 6 hg)) ((Ent.drop 6 htab))))) ?_))
 rintro _ _ ⟨v11,rfl,hs12,rfl⟩
 refine Zm rfl (Zd (OD.extract rfl rfl rfl) rfl ?_)
 refine Zd (OD.extract rfl rfl rfl) rfl ?_
 refine Yt (OG.alloc rfl Ah (zs:=[J (0),J (0),J (0),.slice none 0 0]) rfl) ?_
 rintro _ _ ⟨g13,rfl,rfl⟩
 refine Yu Ah [J (F0 cr cd p i),J (CO cr cd p i),J (CO cr cd p i),v11] 0 (Ad rfl (Ad rfl (Ad rfl (Ad (Ab.one hs12) rfl)))) ?_
 refine Za rfl (Zn (Zt (Zs (Zs (Zr (Zd (Qa Ah 0 [_,_,_,_]) rfl ?_))))))
 refine Zd (Qa Ah 4 [_,_,_,_]) rfl ?_
 refine Yt (Yc [.agg #[J (F0 cr cd p i),J (CO cr cd p i),J (CO cr cd p i),v11],.agg #[J (F0 cr cd p i),J (CO cr cd p i),J (CO cr cd p i),v5]] UP (by exact(D1 hs12 (Ei 1) hs6 (Ei 5) (by omega)))) ?_
 rintro _ _ ⟨rfl,rfl⟩
 refine Zd (OD.not rfl rfl) rfl ?_
 refine Zm rfl (Yd (OD.move rfl rfl) ?_)
 refine Yd (OD.move rfl rfl) ?_
 refine Yd (OD.eqv (OD.neqB gi rfl rfl rfl) (congrArg Value.bool (GQ _))) ?_
 refine Zd (OD.pickF rfl rfl rfl) rfl ?_
 refine Zn (Zt (GC.condF rfl (Zk (Zt (Zs (Zs ?_))))))
 refine Ya [(1,_),(2,_),(3,_),(8,_),(9,_),(10,_),(11,_),(12,_)] ?_
 refine Wp [Z0 49 (.agg #[J (cr),v8]),Z0 50 (.agg #[J (cr),vcd]),⟨51,[(1,50)],[],[],[2],fun ds => .agg #[J (cr),((ds.getD 0 []).getD 0 undef)],fun ds=>Ab ((ds.getD 0 []).getD 0 undef),fun ds=>[ints 3 ((ds.getD 0 []).getD 0 undef) cd]⟩,⟨52,[(0,49),(2,51)],[2],[],[2],fun _ => .bool true,fun _=>True,fun _=>[]⟩,⟨53,[(3,52)],[2],[],[2],fun _ => .bool false,fun _=>True,fun _=>[]⟩] (Zc (fun _ _ _=>Zq (Qa An 2 [_,_]) rfl) (Zc (fun _ _ _=>Zq (Qa Vg 7 [_,_]) rfl) (Zc (fun _ _ _=>AR.plain (OG.imp (Yc [.agg #[J (cr),vcd]] QG (by exact(En scd (Ent.drop 8 ecd.app) (by omega)))) (by rintro _ _ ⟨v14,rfl,hs15,rfl⟩;exact⟨[v14],rfl,hs15,rfl⟩)) rfl) (Zc (fun θ _ ⟨_,h2d,_⟩=>Zq (Yc [.agg #[J (cr),v8],.agg #[J (cr),((θ 2).getD 0 undef)]] dZ (by exact(Ll hs9 (Ei 4) h2d (Ei 0) (by omega)))) rfl) (Zc (fun _ _ _=>Zq (OD.not rfl rfl) rfl) As.nil))))) ?_
 intro θ hall
 obtain⟨_,_,h2a,_,_,_⟩:=hall
 refine Yb [(1,_),(2,_),(3,_),(8,_),(9,_),(10,_),(11,_),(12,_),(53,.bool false)] (ints 3 ((θ 2).getD 0 undef) cd::_::_) ?_
 have hs16:Ab ((θ 2).getD 0 undef):=h2a
 clear h2a
 generalize ((θ 2).getD 0 undef)=v17 at *
 show G _ _ _ [] _ _ _ _
 refine Zn (Zt (GC.condF rfl (Zk (Zt (Zs (Zr ?_))))))
 refine Za rfl (Zn (Zt (Zs (Zr (Zd (Qa An 3 [_,_]) rfl ?_)))))
 refine Zm rfl (Yp [4] (_::_::_::_::_::_::_::_::_::own) ?_)
 refine Yt (Yc [.agg #[J (cr),v8],J (1)] eQ (by exact(M9 hs9 (by omega) (by omega)))) ?_
 rintro _ _ ⟨rfl,rfl⟩
 refine Za rfl (Zn (Zt (Zs (Zs (Zr (Zm rfl (Zd (OD.eqv Bb (congrArg Value.bool ((decide_eq_false (by omega)):_=false))) rfl ?_)))))))
 refine Zm rfl (Yd (Qa Ah 2 [_,_,_,_]) ?_)
 refine Yd (Qa Ah 5 [_,_,_,_]) ?_
 refine Ye (Yc [.agg #[J (F0 cr cd p i),J (CO cr cd p i),J (CO cr cd p i),v11],.agg #[J (F0 cr cd p i),J (CO cr cd p i),J (CO cr cd p i),v5]] UP (by exact(D1 hs12 (Ei 3) hs6 (Ei 6) (by omega)))) ?_
 rintro _ _ ⟨rfl,rfl⟩
 refine Yd (OD.not rfl rfl) ?_
 refine Zd (OD.pickF rfl rfl rfl) rfl ?_
 refine Zm rfl (Yd (OD.move rfl rfl) ?_)
 refine Yd (OD.move rfl rfl) ?_
 refine Yd (OD.eqv (OD.neqB gi rfl rfl rfl) (congrArg Value.bool (GQ _))) ?_
 refine Zd (OD.pickF rfl rfl rfl) rfl ?_
 refine Zn (Zt (GC.condF rfl (Zk (Zt (Zs (Zr ?_))))))
 refine Za rfl (Zn (Zt (Zs (Zr (Zd (Qa Ah 2 [_,_,_,_]) rfl ?_)))))
 refine Zm rfl (Yp [3] (_::_::_::_::_::_::_::_::_::own) ?_)
 refine Yt (Yc [.agg #[J (F0 cr cd p i),J (CO cr cd p i),J (CO cr cd p i),v11],J (1)] fi (by exact(MG hs12 (by omega) (by omega)))) ?_
 rintro _ _ ⟨rfl,rfl⟩
 refine Za rfl (Zn (Zt (Zs (Zr (Za rfl (Zn (Zt (Zs (Zr (Zd (Qa Ah 3 [_,_,_,_]) rfl ?_))))))))))
 refine Zm rfl (Yt (Yc [.agg #[J (F0 cr cd p i),J (CO cr cd p i),J (CO cr cd p i),v11],J (1)] au (by exact(Gf hs12 (Ei 0) (by omega) (by omega)))) ?_)
 rintro _ _ ⟨rfl,rfl⟩
 refine Za rfl (Zn (Zt (Zs (Zs (Zr (Zm rfl (Zd (OD.eqv Bb (congrArg Value.bool ((decide_eq_false (by omega)):_=false))) rfl ?_)))))))
 refine Zn (Zt (GC.condF rfl (Zk (Zt (Zs (Zs (Zr ?_)))))))
 refine Zm rfl (Zm rfl (Zd (OD.eqv EK (congrArg Value.bool ((CE _):_=false))) rfl ?_))
 refine Zn (Zt (GC.condF rfl (Zk (Zt (Zs (Zr ?_))))))
 refine Zd (Qa Vg 8 [_,_]) rfl ?_
 refine Yt (Yc [.agg #[J (cr),vcd]] QG (by exact(En scd (Ent.drop 9 ecd) (by omega)))) ?_
 rintro _ _ ⟨v18,rfl,hs19,rfl⟩
 refine Zm rfl (Zm rfl (Yt (Yc [.agg #[J (cr),v18],J (p),J (i)] aa (by exact(EC hs19 (Ei 0) (by omega) ((Ent.drop 10 hg)) ((Ent.drop 10 htab))))) ?_))
 rintro _ _ ⟨v20,rfl,hs21,rfl⟩
 refine Zm rfl (Zd (OD.extract rfl rfl rfl) rfl ?_)
 refine Zd (OD.extract rfl rfl rfl) rfl ?_
 refine Yt (OG.alloc rfl Ah (zs:=[J (0),J (0),J (0),.slice none 0 0]) rfl) ?_
 rintro _ _ ⟨g22,rfl,rfl⟩
 refine Yu Ah [J (F0 cr cd p i),J (CO cr cd p i),J (CO cr cd p i),v20] 0 (Ad rfl (Ad rfl (Ad rfl (Ad (Ab.one hs21) rfl)))) ?_
 refine Za rfl (Zn (Zt (Zs (Zs (Zr (Zd (Qa Ah 0 [_,_,_,_]) rfl ?_))))))
 refine Zd (Qa Ah 8 [_,_,_,_]) rfl ?_
 refine Yt (Yc [.agg #[J (F0 cr cd p i),J (CO cr cd p i),J (CO cr cd p i),v20],.agg #[J (F0 cr cd p i),J (CO cr cd p i),J (CO cr cd p i),v5]] UP (by exact(D1 hs21 (Ei 1) hs6 (Ei 9) (by omega)))) ?_
 rintro _ _ ⟨rfl,rfl⟩
 refine Zd (OD.not rfl rfl) rfl ?_
 refine Zm rfl (Yd (OD.move rfl rfl) ?_)
 refine Yd (OD.move rfl rfl) ?_
 refine Yd (OD.eqv (OD.neqB gi rfl rfl rfl) (congrArg Value.bool (GQ _))) ?_
 refine Zd (OD.pickF rfl rfl rfl) rfl ?_
 refine Zn (Zt (GC.condF rfl (Zk (Zt (Zs (Zr ?_))))))
 refine Za rfl (Zn (Zt (Zs (Zr (Zd (Qa Ah 6 [_,_,_,_]) rfl ?_)))))
 refine Zm rfl (Yt (Yc [.agg #[J (F0 cr cd p i),J (CO cr cd p i),J (CO cr cd p i),v11],J (1)] au (by exact(Gf hs12 (Ei 3) (by omega) (by omega)))) ?_)
 rintro _ _ ⟨rfl,rfl⟩
 refine Za rfl (Zn (Zt (Zs (Zs (Zr (Zm rfl (Zd (OD.eqv Bb (congrArg Value.bool ((decide_eq_false (by omega)):_=false))) rfl ?_)))))))
 refine Zn (Zt (GC.condF rfl (Zk (Zt (Zs (Zs (Zr ?_)))))))
 refine Zm rfl (Zm rfl (Zd (OD.eqv EK (congrArg Value.bool ((CE _):_=false))) rfl ?_))
 refine Zn (Zt (GC.condF rfl (Zk (Zt (Zs (Zr ?_))))))
 refine Za rfl (Zn (Zt (GC.ret ?_)))
 exact GE.body [] 12 (Ao rfl rfl) rfl (⟨rfl,rfl⟩)
end Go.Proofs.YtbmnnbglipkidaaGreatDoor
