/-
  Reflections by the first text: contracts by walks.
-/
import Derived.Test.YtbmnnbglipkidaaGreatDoorZ54
import Derived.Test.YtbmnnbglipkidaaGreatDoorWExm
namespace Go.Proofs.YtbmnnbglipkidaaGreatDoor
set_option linter.unusedVariables false
set_option linter.unusedSimpArgs false
open Go.RowKit
theorem eF:∀ us w,(callFunc 85 us).run Tryz.prog w = .ok (.enter 85 us) w:=fun us w=>by kernel_rfl
theorem Z8:∀ us w,(callFunc 86 us).run Tryz.prog w = .ok (.enter 86 us) w:=fun us w=>by kernel_rfl
theorem ZY:∀ us w,(callFunc 87 us).run Tryz.prog w = .ok (.enter 87 us) w:=fun us w=>by kernel_rfl
theorem dK:∀ us w,(callFunc 88 us).run Tryz.prog w = .ok (.enter 88 us) w:=fun us w=>by kernel_rfl
theorem Vm {W:World}{own:List Asn}{ap:Int}{ar:Int}{ac:Int}{vad:Value}{ad:List Int}(sad:Ab vad)(ead:Ent own fun w=>Ints w vad ad){M:Mat}(hM:⟨ap,ar,ac,ad⟩=M):Spec Tryz.prog 86 [.agg #[J (ap),J (ar),J (ac),vad]] W own (fun v ow=>∃ (r3:Value),v = .tuple #[.agg #[J ((exF M).p),J ((exF M).r),J ((exF M).c),r3],.bool (Bg M)]∧Ab r3∧ow=ints 3 r3 ((exF M).d)::own):=by
  subst hM
  exact NR sad ead
theorem Nr {W:World}{own:List Asn}{ap:Int}{ar:Int}{ac:Int}{vad:Value}{ad:List Int}{bp:Int}{br:Int}{bc:Int}{vbd:Value}{bd:List Int}(sad:Ab vad)(ead:Ent own fun w=>Ints w vad ad)(sbd:Ab vbd)(ebd:Ent own fun w=>Ints w vbd bd){P Z:Int}(h1:ap=P)(h2:ar=Z)(h3:ac=Z)(h4:bc=Z)(hz:0≤Z∧Z≤40)(hal:(ad.length:Int)=Z*Z)(hbl:(bd.length:Int)=Z*Z)(hp:1≤P∧P≤10007):Spec Tryz.prog 89 [.agg #[J (ap),J (ar),J (ac),vad],.agg #[J (bp),J (br),J (bc),vbd]] W own (fun v ow=>∃ (r3:Value),v = .agg #[J (P),J (Z),J (Z),r3]∧Ab r3∧ow=ints 3 r3 (mulF P Z Z Z ad bd)::own):=by
  subst h1 h2 h3 h4
  exact MW sad ead sbd ebd hz hz hz hal hbl hp
set_option maxHeartbeats 4000000 in
set_option maxRecDepth 100000 in
theorem EC {W:World}{own:List Asn}{cr:Int}{vcd:Value}{cd:List Int}{p:Int}{i:Int}(scd:Ab vcd)(ecd:Ent own fun w=>Ints w vcd cd)(hl0:cd.length≤1073741824)(hg:Ent own fun w=>∃ m,w.cell? ⟨Tryz.l146_ren.g 1,0,none⟩=some (.int .i64 m))(htab:Ent own Cm):Spec Tryz.prog 35 [.agg #[J (cr),vcd],J (p),J (i)] W own (fun v ow=>∃ (r3:Value),v = .tuple #[.agg #[J (F0 cr cd p i),J (CO cr cd p i),J (CO cr cd p i),r3],.bool (BD cr cd p i)]∧Ab r3∧ow=ints 3 r3 (rfD cr cd p i)::own):=by
 have hcr0:Bq cr cd p=true→1≤cr∧cr≤4:=fun h=>(AB (K1 h).1).1
 refine Spec.enter Tryz.f35 _ Tryz.func35 rfl (n:=84) rfl rfl ?_
 refine Zs (Zr (Yt (OG.box (cs:=[J (cr),vcd]) rfl rfl rfl) ?_))
 rintro _ _ ⟨g1,rfl,rfl⟩
 refine Yt (OG.alloc rfl Ah (zs:=[J (0),J (0),J (0),.slice none 0 0]) rfl) ?_
 rintro _ _ ⟨g2,rfl,rfl⟩
 refine Za rfl (Zn (Zt (Zs (Zr (Zd (Qa An 1 [_,_]) rfl ?_)))))
 refine Zm rfl (Yt (Yc [.agg #[J (cr),vcd],J (p)] fE (by exact(Lh scd (Ent.drop 2 ecd) (hl0) ((Ent.drop 2 hg)) ((Ent.drop 2 htab))))) ?_)
 rintro _ _ ⟨v3,rfl,hs4,rfl⟩
 refine Zm rfl (Zd (OD.extract rfl rfl rfl) rfl ?_)
 refine Zd (OD.extract rfl rfl rfl) rfl ?_
 refine Yt (OG.alloc rfl Bj (zs:=[J (0),J (0),.slice none 0 0]) rfl) ?_
 rintro _ _ ⟨g5,rfl,rfl⟩
 refine Yu Bj [J (Cn cr cd p),J (Bo cr cd p),v3] 0 (Ad rfl (Ad rfl (Ad (Ab.one hs4) rfl))) ?_
 refine Za rfl (Zn (Zt (Zs (Zs (Zr (Zm rfl (Zd (OD.not rfl rfl) rfl ?_)))))))
 refine Zm rfl ?_
 rcases Bool.eq_false_or_eq_true (!(Bq cr cd p)) with hg6 | hg6
 have hg6e:=hg6
 rw[hg6e]
 replace hg6:=Ai hg6
 iterate 2 refine Yk ?_
 refine Zd (OD.pickT rfl rfl rfl) rfl ?_
 refine Zm rfl ?_
 iterate 6 refine Yk ?_
 refine Zd (OD.pickT rfl rfl rfl) rfl ?_
 refine Zn (Zt (GC.condT rfl (Zs (Zr ?_))))
 refine Zd (OD.build (idx:=[]) (xs:=[]) (vs:=[]) (cs:=[]) (zs:=[J (0),J (0),J (0),.slice none 0 0]) (r:=[J (0),J (0),J (0),.slice none 0 0]) rfl Ah rfl rfl rfl trivial rfl) rfl ?_
 refine Yu Ah [J (0),J (0),J (0),.slice none 0 0] 2 rfl ?_
 refine Za rfl (Zn (Zt (GC.ret (GE.passR ?_))))
 have hno:BD cr cd p i=false:=by simp[BD,OP,hg6]
 refine GE.nilInts 3 ?_
 exact GE.body [0] 4 (AZ rfl (RVs.cons (Ag Ah rfl (i:=3) rfl rfl) (RVs.cons (AD rfl) RVs.nil)) rfl) rfl (⟨(.slice none 0 0),congr (congr (congr (congrArg (fun a0 a1 a2 a4=>(.tuple #[.agg #[J (a0),J (a1),J (a2),(.slice none 0 0)],.bool (a4)]:Value)) (((A8 hno).1.symm:(0:Int)=F0 cr cd p i))) (((A8 hno).2.1.symm:(0:Int)=CO cr cd p i))) (((A8 hno).2.1.symm:(0:Int)=CO cr cd p i))) ((hno.symm:(false:Bool)=BD cr cd p i)),Ab.nil,congrArg (fun l0=>ints 3 (.slice none 0 0) l0::own) (((A8 hno).2.2.symm : []=rfD cr cd p i))⟩)
 have hg6e:=hg6
 rw[hg6e]
 replace hg6:=Am hg6
 refine Yd (OD.move rfl rfl) ?_
 refine Yd Bb ?_
 refine Zd (OD.pickF rfl rfl rfl) rfl ?_
 refine Zm rfl ?_
 rcases Bool.eq_false_or_eq_true (decide (p<7)) with hg7 | hg7
 have hg7e:=hg7
 rw[hg7e]
 replace hg7:=of_decide_eq_true hg7
 iterate 6 refine Yk ?_
 refine Zd (OD.pickT rfl rfl rfl) rfl ?_
 refine Zn (Zt (GC.condT rfl (Zs (Zr ?_))))
 refine Zd (OD.build (idx:=[]) (xs:=[]) (vs:=[]) (cs:=[]) (zs:=[J (0),J (0),J (0),.slice none 0 0]) (r:=[J (0),J (0),J (0),.slice none 0 0]) rfl Ah rfl rfl rfl trivial rfl) rfl ?_
 refine Yu Ah [J (0),J (0),J (0),.slice none 0 0] 2 rfl ?_
 refine Za rfl (Zn (Zt (GC.ret (GE.passR ?_))))
 have hno:BD cr cd p i=false:=by simp[BD,OP,show ¬ 7≤p by omega]
 refine GE.nilInts 3 ?_
 exact GE.body [0] 4 (AZ rfl (RVs.cons (Ag Ah rfl (i:=3) rfl rfl) (RVs.cons (AD rfl) RVs.nil)) rfl) rfl (⟨(.slice none 0 0),congr (congr (congr (congrArg (fun a0 a1 a2 a4=>(.tuple #[.agg #[J (a0),J (a1),J (a2),(.slice none 0 0)],.bool (a4)]:Value)) (((A8 hno).1.symm:(0:Int)=F0 cr cd p i))) (((A8 hno).2.1.symm:(0:Int)=CO cr cd p i))) (((A8 hno).2.1.symm:(0:Int)=CO cr cd p i))) ((hno.symm:(false:Bool)=BD cr cd p i)),Ab.nil,congrArg (fun l0=>ints 3 (.slice none 0 0) l0::own) (((A8 hno).2.2.symm : []=rfD cr cd p i))⟩)
 have hg7e:=hg7
 rw[hg7e]
 replace hg7:=of_decide_eq_false hg7
 refine Yd (OD.move rfl rfl) ?_
 refine Yd (Qf Aq) ?_
 refine Yd (Ql Ak 3) ?_
 refine Yd (OD.subI rfl rfl rfl (by have:=hcr0 (by assumption);omega)) ?_
 refine Ye (Yc [J (i),J (0),J (cr - 1)] RI (by exact Gr)) ?_
 rintro _ _ ⟨rfl,rfl⟩
 refine Yd (OD.not rfl rfl) ?_
 refine Zd (OD.pickF rfl rfl rfl) rfl ?_
 refine Zn (Zt ?_)
 refine GC.cond rfl (fun hc8=>?_) (fun hc8=>?_)
 replace hc8:=Ai hc8
 refine Zs (Zr (Zd (OD.build (idx:=[]) (xs:=[]) (vs:=[]) (cs:=[]) (zs:=[J (0),J (0),J (0),.slice none 0 0]) (r:=[J (0),J (0),J (0),.slice none 0 0]) rfl Ah rfl rfl rfl trivial rfl) rfl ?_))
 refine Yu Ah [J (0),J (0),J (0),.slice none 0 0] 2 rfl ?_
 refine Za rfl (Zn (Zt (GC.ret (GE.passR ?_))))
 have hno:BD cr cd p i=false:=by simp[BD,OP,hc8]
 refine GE.nilInts 3 ?_
 exact GE.body [0] 4 (AZ rfl (RVs.cons (Ag Ah rfl (i:=3) rfl rfl) (RVs.cons (AD rfl) RVs.nil)) rfl) rfl (⟨(.slice none 0 0),congr (congr (congr (congrArg (fun a0 a1 a2 a4=>(.tuple #[.agg #[J (a0),J (a1),J (a2),(.slice none 0 0)],.bool (a4)]:Value)) (((A8 hno).1.symm:(0:Int)=F0 cr cd p i))) (((A8 hno).2.1.symm:(0:Int)=CO cr cd p i))) (((A8 hno).2.1.symm:(0:Int)=CO cr cd p i))) ((hno.symm:(false:Bool)=BD cr cd p i)),Ab.nil,congrArg (fun l0=>ints 3 (.slice none 0 0) l0::own) (((A8 hno).2.2.symm : []=rfD cr cd p i))⟩)
 replace hc8:=Am hc8
 refine Zk (Zt (Zs ?_))
 have hB:OP cr cd p i=true:=by rw[OP,hg6,hc8,decide_eq_true (show 7≤p by omega)] <;> rfl
 obtain⟨hOk,h7,hi0,hi1⟩:=du hB
 obtain⟨hS,hPr,h28⟩:=K1 hOk
 have hcr:=(AB hS).1
 have hcd:=(AB hS).2
 have hRf:(rSt cr cd).length≤30:=by have h1:=(rtOk hS).slen;have h2:=(rtOk hS).few;omega
 have hAn:Bo cr cd p=(smN cr cd:Nat):=by rw[Bo,hOk] <;> rfl
 have hAp:Cn cr cd p=p:=by rw[Cn,hOk] <;> rfl
 have hAd:DJ cr cd p=EG cr cd p:=by rw[DJ,hOk] <;> rfl
 have hT:=VJ hOk
 have hpp:=hT.hp
 have hr1:rtB (rSt cr cd) (unitL cr.toNat i.toNat)=true:=(H5 hS ⟨hi0,hi1⟩).1
 have hr2:rtB (rSt cr cd) (Av (unitL cr.toNat i.toNat))=true:=(H5 hS ⟨hi0,hi1⟩).2
 have hx1:=Qy hS hr1
 have hx2:=Qy hS hr2
 have ha1:=hx1.1
 have ha2:=hx2.1
 have hl1:=Bf cr.toNat i.toNat
 refine Zr (Zd (Qa An 3 [_,_]) rfl ?_)
 refine Yt (Yc [.agg #[J (cr),vcd]] T9 (by exact(FV scd (Ent.drop 4 ecd) (hcr) (hcd) (hS) ((Ent.drop 4 htab))))) ?_
 rintro _ _ ⟨v9,u10,g14,rfl,hs11,hs12,hs13,rfl⟩
 refine Yt (OG.alloc rfl Df (zs:=[J (0),.slice none 0 0,.slice none 0 0,.map none]) rfl) ?_
 rintro _ _ ⟨g15,rfl,rfl⟩
 refine Yu Df [J (cr),vcd,v9,.map (some g14)] 0 (Ad rfl (Ad (Ab.one scd) (Ad (Ab.one hs11) (Ad rfl rfl)))) ?_
 refine Zn (Zt (Zs (Zr (Zd (Qf Aq) rfl ?_))))
 refine Zd (Ql Ak 7) rfl ?_
 refine Zm rfl (Yt (Yc [J (cr),J (i)] OB (by exact(K4 (by omega) (by omega)))) ?_)
 rintro v16 _ ⟨_,rfl,hs17,rfl⟩
 refine Za rfl (Zn (Zt (Zs (Zr (Zd (Qa Bj 5 [_,_,_]) rfl ?_)))))
 refine Yt (Yc [.agg #[J (Cn cr cd p),J (Bo cr cd p),v3]] eF (by exact(Vb hs4 (Ei 6)))) ?_
 rintro _ _ ⟨rfl,rfl⟩
 refine Yt (OG.alloc rfl Lk (zs:=[J (0),J (0),.slice none 0 0]) rfl) ?_
 rintro _ _ ⟨g18,rfl,rfl⟩
 refine Yu Lk [J (Cn cr cd p),J (Bo cr cd p),v3] 0 (Ad rfl (Ad rfl (Ad (Ab.one hs4) rfl))) ?_
 refine Zn (Zt (Zs ?_))
 have hrs:u10.length≤30:=by rw[hs13];exact hRf
 have hf1:fdI cr u10.length (A7 cr cd) (unitL cr.toNat i.toNat)=((rfA cr cd (unitL cr.toNat i.toNat)):Nat):=by rw[hs13];exact hx1.2.2
 have hlp:Af (List.replicate (unitL cr.toNat i.toNat).length 0) (-1) (unitL cr.toNat i.toNat)=Av (unitL cr.toNat i.toNat):=e9 (by omega)
 have hf2:fdI cr u10.length (A7 cr cd) (Af (List.replicate (unitL cr.toNat i.toNat).length 0) (-1) (unitL cr.toNat i.toNat))=((rfA cr cd (Av (unitL cr.toNat i.toNat))):Nat):=by rw[hs13,hlp];exact hx2.2.2
 refine Ya [(6,_),(8,_),(10,_),(11,_),(12,_)] ?_
 refine GC.late (σ:=[0,1,2,3,4,5,6,7,8,9,11,10,12,13,14]) (L:=[11]) (its:=[Z0 47 (.agg #[J (Cn cr cd p),J (Bo cr cd p),v3]),
     Z0 48 (Pg g5 1),
     Z1 49 [(1,48)] (J (Bo cr cd p)),
     Z0 50 (.agg #[J (cr),vcd,v9,.map (some g14)]),
     Z0 51 v16,
     Z1 52 [(3,50),(4,51)] (J (fdI cr u10.length (A7 cr cd) (unitL cr.toNat i.toNat))),
     ⟨53,[(2,49),(5,52)],[],[],[6],fun ds=>((ds.getD 0 []).getD 0 undef),fun ds=>Ab ((ds.getD 0 []).getD 0 undef),fun ds=>[ints 3 ((ds.getD 0 []).getD 0 undef) (unitL (Bo cr cd p).toNat (fdI cr u10.length (A7 cr cd) (unitL cr.toNat i.toNat)).toNat)]⟩,
     ⟨54,[(0,47),(6,53)],[6],[],[6,7],fun ds => .agg #[J (p),J (((smN cr cd):Int)),J (((smN cr cd):Int)),((ds.getD 1 []).getD 0 undef)],fun ds=>Ab ((ds.getD 1 []).getD 0 undef),fun ds=>[ints 3 ((ds.getD 1 []).getD 0 undef) (HV p (smN cr cd) (EG cr cd p) (unitL (smN cr cd) (rfA cr cd (unitL cr.toNat i.toNat))))]⟩,
     ⟨55,[(7,54)],[6,7],[],[6,7,8],fun ds => .tuple #[.agg #[J ((exF (B0 cr cd p i)).p),J ((exF (B0 cr cd p i)).r),J ((exF (B0 cr cd p i)).c),((ds.getD 2 []).getD 0 undef)],.bool (Bg (B0 cr cd p i))],fun ds=>Ab ((ds.getD 2 []).getD 0 undef),fun ds=>[ints 3 ((ds.getD 2 []).getD 0 undef) ((exF (B0 cr cd p i)).d)]⟩,
     ⟨46,[(8,55)],[6,7,8],[],[6,7,8],fun ds => .tuple #[.agg #[J ((exF (B0 cr cd p i)).p),J ((exF (B0 cr cd p i)).r),J ((exF (B0 cr cd p i)).c),((ds.getD 2 []).getD 0 undef)],.bool (Bg (B0 cr cd p i))],fun _=>True,fun _=>[]⟩,
     ⟨57,[(9,46)],[6,7,8],[],[6,7,8],fun _ => .bool (Bg (B0 cr cd p i)),fun _=>True,fun _=>[]⟩,
     ⟨56,[(9,46)],[6,7,8],[],[6,7,8],fun ds => .agg #[J ((exF (B0 cr cd p i)).p),J ((exF (B0 cr cd p i)).r),J ((exF (B0 cr cd p i)).c),((ds.getD 2 []).getD 0 undef)],fun _=>True,fun _=>[]⟩,
     ⟨13,[],[],[],[12],fun ds => .pointer (some ⟨(gOf ((ds.getD 0 []).getD 0 undef)),0,none⟩),fun _=>True,fun ds=>[box (gOf ((ds.getD 0 []).getD 0 undef)) 51 [J (0),J (0),J (0),.slice none 0 0]]⟩]) (by kernel_rfl) (by repeat (first | refine PanQ.then_ ?_ | refine PanQ.block ?_ | exact PanQ.body)) (by kernel_rfl) ⟨⟨_,rfl,.inl rfl⟩,trivial⟩ (by kernel_rfl) (Zc ?_ (Zc ?_ (Zc ?_ (Zc ?_ (Zc ?_ (Zc ?_ (Zc ?_ (Zc ?_ (Zc ?_ (Zc ?_ (Zc ?_ (Zc ?_ (Zc ?_ As.nil))))))))))))) ?_
 exact fun θ R hd=>Zq (Qa Lk 0 [_,_,_]) rfl
 exact fun θ R hd=>Zq (Qf Cv) rfl
 exact fun θ R ⟨h1d,_⟩=>Zq (Ql Ak 6) rfl
 exact fun θ R hd=>Zq (Qa Df 2 [_,_,_,_]) rfl
 exact fun θ R hd=>Zq (OD.move rfl rfl) rfl
 exact fun θ R ⟨h3d,h4d,_⟩=>Zq (Yc [.agg #[J (cr),vcd,v9,.map (some g14)],v16] Va (by exact(M2 scd hs11 (Ent.lst (i:=3) rfl) (Ent.map (kE:=Bc) (vE:=valI) (l:=A7 cr cd) (i:=5) rfl) hs17 (Ei 1) (by omega) (DF hS hr1) (by omega) ((Ent.drop 10 htab.app)) (by omega) (hrs) ((rtOk hS).fp _)))) rfl
 exact fun θ R ⟨h2d,h5d,_⟩=>AR.plain (OG.imp (Yc [J (Bo cr cd p),J (fdI cr u10.length (A7 cr cd) (unitL cr.toNat i.toNat))] OB (by exact(K4 (by omega) (by omega)))) (by rintro v19 _ ⟨_,rfl,hs20,rfl⟩;exact⟨[v19],rfl,hs20,rfl⟩)) rfl
 exact fun θ R ⟨h0d,h6d,_⟩=>AR.plain (OG.imp (Yc [.agg #[J (Cn cr cd p),J (Bo cr cd p),v3],((θ 6).getD 0 undef)] ZY (by exact(Lt hs4 (Ei 8) h6d (Ei 0) (P:=p) (N:=(smN cr cd)) (a:=(rfA cr cd (unitL cr.toNat i.toNat))) (T:=(EG cr cd p)) (U:=(unitL (smN cr cd) (rfA cr cd (unitL cr.toNat i.toNat)))) (hAp) (hAn) (hAd) (hT) (by rw[hAn,hf1] <;> rfl) (rfl) (ha1)))) (by rintro _ _ ⟨v21,rfl,hs22,rfl⟩;exact⟨[v21],rfl,hs22,rfl⟩)) rfl
 exact fun θ R ⟨h7d,_⟩=>AR.plain (OG.imp (Yc [.agg #[J (p),J (((smN cr cd):Int)),J (((smN cr cd):Int)),((θ 7).getD 0 undef)]] Z8 (by exact(Vm h7d (Ei 1) (M:=(B0 cr cd p i)) (rfl)))) (by rintro _ _ ⟨v23,rfl,hs24,rfl⟩;exact⟨[v23],rfl,hs24,rfl⟩)) rfl
 exact fun θ R ⟨h8d,_⟩=>Zq (OD.move rfl rfl) rfl
 exact fun θ R ⟨h9d,_⟩=>Zq (OD.extract rfl rfl rfl) rfl
 exact fun θ R ⟨h9d,_⟩=>Zq (OD.extract rfl rfl rfl) rfl
 exact fun θ R hd=>AR.plain (OG.imp (OG.alloc rfl Ah (zs:=[J (0),J (0),J (0),.slice none 0 0]) rfl) (by rintro _ _ ⟨g25,rfl,rfl⟩;exact⟨[Pg g25 0],rfl,trivial,rfl⟩)) rfl
 intro θ hall
 obtain⟨_,_,_,_,_,_,h6a,h7a,h8a,_,_,_,h12a,_⟩:=hall
 refine Yb [(6,_),(8,_),(10,_),(11,_),(12,_),(57,.bool (Bg (B0 cr cd p i))),(56,.agg #[J ((exF (B0 cr cd p i)).p),J ((exF (B0 cr cd p i)).r),J ((exF (B0 cr cd p i)).c),((θ 8).getD 0 undef)]),(13,.pointer (some ⟨(gOf ((θ 12).getD 0 undef)),0,none⟩))] (ints 3 ((θ 6).getD 0 undef) (unitL (Bo cr cd p).toNat (fdI cr u10.length (A7 cr cd) (unitL cr.toNat i.toNat)).toNat)::ints 3 ((θ 7).getD 0 undef) (HV p (smN cr cd) (EG cr cd p) (unitL (smN cr cd) (rfA cr cd (unitL cr.toNat i.toNat))))::ints 3 ((θ 8).getD 0 undef) ((exF (B0 cr cd p i)).d)::box (gOf ((θ 12).getD 0 undef)) 51 [J (0),J (0),J (0),.slice none 0 0]::_::_) ?_
 have hs26:Ab ((θ 6).getD 0 undef):=h6a
 clear h6a
 generalize ((θ 6).getD 0 undef)=v27 at *
 have hs28:Ab ((θ 7).getD 0 undef):=h7a
 clear h7a
 generalize ((θ 7).getD 0 undef)=v29 at *
 have hs30:Ab ((θ 8).getD 0 undef):=h8a
 clear h8a
 generalize ((θ 8).getD 0 undef)=v31 at *
 clear h12a
 generalize (gOf ((θ 12).getD 0 undef))=b32 at *
 show G _ _ _ [_,_] _ _ _ _
 refine Yu Ah [J ((exF (B0 cr cd p i)).p),J ((exF (B0 cr cd p i)).r),J ((exF (B0 cr cd p i)).c),v31] 3 (Ad rfl (Ad rfl (Ad rfl (Ad (Ab.one hs30) rfl)))) ?_
 refine Za rfl (Zn (Zt (Zs (Ya [(6,_),(8,_),(10,_),(11,_),(12,_),(13,_),(14,_)] ?_))))
 refine GC.late (σ:=[0,1,2,3,4,5,6,7,8,9,10,11,13,12,14,15,16]) (L:=[13]) (its:=[Z0 59 (.agg #[J (Cn cr cd p),J (Bo cr cd p),v3]),
     Z0 60 (Pg g5 1),
     Z1 61 [(1,60)] (J (Bo cr cd p)),
     Z0 62 (.agg #[J (cr),vcd,v9,.map (some g14)]),
     Z0 63 v16,
     ⟨64,[(4,63)],[],[],[5],fun ds=>((ds.getD 0 []).getD 0 undef),fun ds=>Ab ((ds.getD 0 []).getD 0 undef),fun ds=>[ints 3 ((ds.getD 0 []).getD 0 undef) (Af (List.replicate (unitL cr.toNat i.toNat).length 0) (-1) (unitL cr.toNat i.toNat))]⟩,
     ⟨65,[(3,62),(5,64)],[5],[],[5],fun _=>J (fdI cr u10.length (A7 cr cd) (Af (List.replicate (unitL cr.toNat i.toNat).length 0) (-1) (unitL cr.toNat i.toNat))),fun _=>True,fun _=>[]⟩,
     ⟨66,[(2,61),(6,65)],[5],[],[5,7],fun ds=>((ds.getD 1 []).getD 0 undef),fun ds=>Ab ((ds.getD 1 []).getD 0 undef),fun ds=>[ints 3 ((ds.getD 1 []).getD 0 undef) (unitL (Bo cr cd p).toNat (fdI cr u10.length (A7 cr cd) (Af (List.replicate (unitL cr.toNat i.toNat).length 0) (-1) (unitL cr.toNat i.toNat))).toNat)]⟩,
     ⟨67,[(0,59),(7,66)],[5,7],[],[5,7,8],fun ds => .agg #[J (p),J (((smN cr cd):Int)),J (((smN cr cd):Int)),((ds.getD 2 []).getD 0 undef)],fun ds=>Ab ((ds.getD 2 []).getD 0 undef),fun ds=>[ints 3 ((ds.getD 2 []).getD 0 undef) (HV p (smN cr cd) (EG cr cd p) (unitL (smN cr cd) (rfA cr cd (Av (unitL cr.toNat i.toNat)))))]⟩,
     ⟨68,[(8,67)],[5,7,8],[],[5,7,8,9],fun ds => .agg #[J ((AE ⟨p,((smN cr cd):Int),((smN cr cd):Int),HV p (smN cr cd) (EG cr cd p) (unitL (smN cr cd) (rfA cr cd (Av (unitL cr.toNat i.toNat))))⟩ (-1)).p),J ((AE ⟨p,((smN cr cd):Int),((smN cr cd):Int),HV p (smN cr cd) (EG cr cd p) (unitL (smN cr cd) (rfA cr cd (Av (unitL cr.toNat i.toNat))))⟩ (-1)).r),J ((AE ⟨p,((smN cr cd):Int),((smN cr cd):Int),HV p (smN cr cd) (EG cr cd p) (unitL (smN cr cd) (rfA cr cd (Av (unitL cr.toNat i.toNat))))⟩ (-1)).c),((ds.getD 3 []).getD 0 undef)],fun ds=>Ab ((ds.getD 3 []).getD 0 undef),fun ds=>[ints 3 ((ds.getD 3 []).getD 0 undef) ((AE ⟨p,((smN cr cd):Int),((smN cr cd):Int),HV p (smN cr cd) (EG cr cd p) (unitL (smN cr cd) (rfA cr cd (Av (unitL cr.toNat i.toNat))))⟩ (-1)).d)]⟩,
     ⟨69,[(9,68)],[5,7,8,9],[],[5,7,8,9,10],fun ds => .tuple #[.agg #[J ((exF (CS cr cd p i)).p),J ((exF (CS cr cd p i)).r),J ((exF (CS cr cd p i)).c),((ds.getD 4 []).getD 0 undef)],.bool (Bg (CS cr cd p i))],fun ds=>Ab ((ds.getD 4 []).getD 0 undef),fun ds=>[ints 3 ((ds.getD 4 []).getD 0 undef) ((exF (CS cr cd p i)).d)]⟩,
     ⟨58,[(10,69)],[5,7,8,9,10],[],[5,7,8,9,10],fun ds => .tuple #[.agg #[J ((exF (CS cr cd p i)).p),J ((exF (CS cr cd p i)).r),J ((exF (CS cr cd p i)).c),((ds.getD 4 []).getD 0 undef)],.bool (Bg (CS cr cd p i))],fun _=>True,fun _=>[]⟩,
     ⟨71,[(11,58)],[5,7,8,9,10],[],[5,7,8,9,10],fun _ => .bool (Bg (CS cr cd p i)),fun _=>True,fun _=>[]⟩,
     ⟨70,[(11,58)],[5,7,8,9,10],[],[5,7,8,9,10],fun ds => .agg #[J ((exF (CS cr cd p i)).p),J ((exF (CS cr cd p i)).r),J ((exF (CS cr cd p i)).c),((ds.getD 4 []).getD 0 undef)],fun _=>True,fun _=>[]⟩,
     ⟨15,[],[],[],[14],fun ds => .pointer (some ⟨(gOf ((ds.getD 0 []).getD 0 undef)),0,none⟩),fun _=>True,fun ds=>[box (gOf ((ds.getD 0 []).getD 0 undef)) 51 [J (0),J (0),J (0),.slice none 0 0]]⟩]) (by kernel_rfl) (by repeat (first | refine PanQ.then_ ?_ | refine PanQ.block ?_ | exact PanQ.body)) (by kernel_rfl) ⟨⟨_,rfl,.inl rfl⟩,trivial⟩ (by kernel_rfl) (Zc ?_ (Zc ?_ (Zc ?_ (Zc ?_ (Zc ?_ (Zc ?_ (Zc ?_ (Zc ?_ (Zc ?_ (Zc ?_ (Zc ?_ (Zc ?_ (Zc ?_ (Zc ?_ (Zc ?_ As.nil))))))))))))))) ?_
 exact fun θ R hd=>Zq (Qa Lk 4 [_,_,_]) rfl
 exact fun θ R hd=>Zq (Qf Cv) rfl
 exact fun θ R ⟨h1d,_⟩=>Zq (Ql Ak 10) rfl
 exact fun θ R hd=>Zq (Qa Df 6 [_,_,_,_]) rfl
 exact fun θ R hd=>Zq (OD.move rfl rfl) rfl
 exact fun θ R ⟨h4d,_⟩=>AR.plain (OG.imp (Yc [J (-1),v16] FF (by exact(Bs hs17 (Ei 5) (by omega)))) (by rintro v33 _ ⟨_,rfl,hs34,rfl⟩;exact⟨[v33],rfl,hs34,rfl⟩)) rfl
 exact fun θ R ⟨h3d,h5d,_⟩=>Zq (Yc [.agg #[J (cr),vcd,v9,.map (some g14)],((θ 5).getD 0 undef)] Va (by exact(M2 scd hs11 (Ent.lst (i:=8) rfl) (Ent.map (kE:=Bc) (vE:=valI) (l:=A7 cr cd) (i:=10) rfl) h5d (Ei 0) (by omega) (by rw[hlp];exact DF hS hr2) (by rw[hlp,AC];omega) ((Ent.drop 15 htab.app)) (by omega) (hrs) ((rtOk hS).fp _)))) rfl
 exact fun θ R ⟨h2d,h6d,_⟩=>AR.plain (OG.imp (Yc [J (Bo cr cd p),J (fdI cr u10.length (A7 cr cd) (Af (List.replicate (unitL cr.toNat i.toNat).length 0) (-1) (unitL cr.toNat i.toNat)))] OB (by exact(K4 (by omega) (by omega)))) (by rintro v35 _ ⟨_,rfl,hs36,rfl⟩;exact⟨[v35],rfl,hs36,rfl⟩)) rfl
 exact fun θ R ⟨h0d,h7d,_⟩=>AR.plain (OG.imp (Yc [.agg #[J (Cn cr cd p),J (Bo cr cd p),v3],((θ 7).getD 0 undef)] ZY (by exact(Lt hs4 (Ei 13) h7d (Ei 1) (P:=p) (N:=(smN cr cd)) (a:=(rfA cr cd (Av (unitL cr.toNat i.toNat)))) (T:=(EG cr cd p)) (U:=(unitL (smN cr cd) (rfA cr cd (Av (unitL cr.toNat i.toNat))))) (hAp) (hAn) (hAd) (hT) (by rw[hAn,hf2] <;> rfl) (rfl) (ha2)))) (by rintro _ _ ⟨v37,rfl,hs38,rfl⟩;exact⟨[v37],rfl,hs38,rfl⟩)) rfl
 exact fun θ R ⟨h8d,_⟩=>AR.plain (OG.imp (Yc [.agg #[J (p),J (((smN cr cd):Int)),J (((smN cr cd):Int)),((θ 8).getD 0 undef)],J (-1)] dK (by exact(Lj h8d (Ei 2)))) (by rintro _ _ ⟨v39,rfl,hs40,rfl⟩;exact⟨[v39],rfl,hs40,rfl⟩)) rfl
 exact fun θ R ⟨h9d,_⟩=>AR.plain (OG.imp (Yc [.agg #[J ((AE ⟨p,((smN cr cd):Int),((smN cr cd):Int),HV p (smN cr cd) (EG cr cd p) (unitL (smN cr cd) (rfA cr cd (Av (unitL cr.toNat i.toNat))))⟩ (-1)).p),J ((AE ⟨p,((smN cr cd):Int),((smN cr cd):Int),HV p (smN cr cd) (EG cr cd p) (unitL (smN cr cd) (rfA cr cd (Av (unitL cr.toNat i.toNat))))⟩ (-1)).r),J ((AE ⟨p,((smN cr cd):Int),((smN cr cd):Int),HV p (smN cr cd) (EG cr cd p) (unitL (smN cr cd) (rfA cr cd (Av (unitL cr.toNat i.toNat))))⟩ (-1)).c),((θ 9).getD 0 undef)]] Z8 (by exact(Vm h9d (Ei 3) (M:=(CS cr cd p i)) (Ud hT hPr ha2)))) (by rintro _ _ ⟨v41,rfl,hs42,rfl⟩;exact⟨[v41],rfl,hs42,rfl⟩)) rfl
 exact fun θ R ⟨h10d,_⟩=>Zq (OD.move rfl rfl) rfl
 exact fun θ R ⟨h11d,_⟩=>Zq (OD.extract rfl rfl rfl) rfl
 exact fun θ R ⟨h11d,_⟩=>Zq (OD.extract rfl rfl rfl) rfl
 exact fun θ R hd=>AR.plain (OG.imp (OG.alloc rfl Ah (zs:=[J (0),J (0),J (0),.slice none 0 0]) rfl) (by rintro _ _ ⟨g43,rfl,rfl⟩;exact⟨[Pg g43 0],rfl,trivial,rfl⟩)) rfl
 intro θ hall
 obtain⟨_,_,_,_,_,h5a,_,h7a,h8a,h9a,h10a,_,_,_,h14a,_⟩:=hall
 refine Yb [(6,_),(13,_),(14,_),(71,.bool (Bg (CS cr cd p i))),(70,.agg #[J ((exF (CS cr cd p i)).p),J ((exF (CS cr cd p i)).r),J ((exF (CS cr cd p i)).c),((θ 10).getD 0 undef)]),(15,.pointer (some ⟨(gOf ((θ 14).getD 0 undef)),0,none⟩))] (ints 3 ((θ 5).getD 0 undef) (Af (List.replicate (unitL cr.toNat i.toNat).length 0) (-1) (unitL cr.toNat i.toNat))::ints 3 ((θ 7).getD 0 undef) (unitL (Bo cr cd p).toNat (fdI cr u10.length (A7 cr cd) (Af (List.replicate (unitL cr.toNat i.toNat).length 0) (-1) (unitL cr.toNat i.toNat))).toNat)::ints 3 ((θ 8).getD 0 undef) (HV p (smN cr cd) (EG cr cd p) (unitL (smN cr cd) (rfA cr cd (Av (unitL cr.toNat i.toNat)))))::ints 3 ((θ 9).getD 0 undef) ((AE ⟨p,((smN cr cd):Int),((smN cr cd):Int),HV p (smN cr cd) (EG cr cd p) (unitL (smN cr cd) (rfA cr cd (Av (unitL cr.toNat i.toNat))))⟩ (-1)).d)::ints 3 ((θ 10).getD 0 undef) ((exF (CS cr cd p i)).d)::box (gOf ((θ 14).getD 0 undef)) 51 [J (0),J (0),J (0),.slice none 0 0]::_::_) ?_
 have hs44:Ab ((θ 5).getD 0 undef):=h5a
 clear h5a
 generalize ((θ 5).getD 0 undef)=v45 at *
 have hs46:Ab ((θ 7).getD 0 undef):=h7a
 clear h7a
 generalize ((θ 7).getD 0 undef)=v47 at *
 have hs48:Ab ((θ 8).getD 0 undef):=h8a
 clear h8a
 generalize ((θ 8).getD 0 undef)=v49 at *
 have hs50:Ab ((θ 9).getD 0 undef):=h9a
 clear h9a
 generalize ((θ 9).getD 0 undef)=v51 at *
 have hs52:Ab ((θ 10).getD 0 undef):=h10a
 clear h10a
 generalize ((θ 10).getD 0 undef)=v53 at *
 clear h14a
 generalize (gOf ((θ 14).getD 0 undef))=b54 at *
 show G _ _ _ [_,_] _ _ _ _
 refine Yu Ah [J ((exF (CS cr cd p i)).p),J ((exF (CS cr cd p i)).r),J ((exF (CS cr cd p i)).c),v53] 5 (Ad rfl (Ad rfl (Ad rfl (Ad (Ab.one hs52) rfl)))) ?_
 refine Za rfl (Zn (Zt (Zs (Zs (Zr (Zm rfl (Zd (OD.not rfl rfl) rfl ?_)))))))
 refine Zm rfl ?_
 rcases Bool.eq_false_or_eq_true (!(Bg (B0 cr cd p i))) with hg55 | hg55
 have hg55e:=hg55
 rw[hg55e]
 replace hg55:=Ai hg55
 iterate 2 refine Yk ?_
 refine Zd (OD.pickT rfl rfl rfl) rfl ?_
 refine Zn (Zt (GC.condT rfl (Zs (Zr ?_))))
 refine Zd (OD.build (idx:=[]) (xs:=[]) (vs:=[]) (cs:=[]) (zs:=[J (0),J (0),J (0),.slice none 0 0]) (r:=[J (0),J (0),J (0),.slice none 0 0]) rfl Ah rfl rfl rfl trivial rfl) rfl ?_
 refine Yu Ah [J (0),J (0),J (0),.slice none 0 0] 18 rfl ?_
 refine Za rfl (Zn (Zt (GC.ret (GE.passR ?_))))
 have hno:BD cr cd p i=false:=by simp[BD,OP,hg55]
 refine GE.nilInts 3 ?_
 exact GE.body [0] 20 (AZ rfl (RVs.cons (Ag Ah rfl (i:=19) rfl rfl) (RVs.cons (AD rfl) RVs.nil)) rfl) rfl (⟨(.slice none 0 0),congr (congr (congr (congrArg (fun a0 a1 a2 a4=>(.tuple #[.agg #[J (a0),J (a1),J (a2),(.slice none 0 0)],.bool (a4)]:Value)) (((A8 hno).1.symm:(0:Int)=F0 cr cd p i))) (((A8 hno).2.1.symm:(0:Int)=CO cr cd p i))) (((A8 hno).2.1.symm:(0:Int)=CO cr cd p i))) ((hno.symm:(false:Bool)=BD cr cd p i)),Ab.nil,congrArg (fun l0=>ints 3 (.slice none 0 0) l0::own) (((A8 hno).2.2.symm : []=rfD cr cd p i))⟩)
 have hg55e:=hg55
 rw[hg55e]
 replace hg55:=Am hg55
 refine Yd (OD.move rfl rfl) ?_
 refine Yd (OD.not rfl rfl) ?_
 refine Zd (OD.pickF rfl rfl rfl) rfl ?_
 refine Zn (Zt ?_)
 refine GC.cond rfl (fun hc56=>?_) (fun hc56=>?_)
 replace hc56:=Ai hc56
 refine Zs (Zr (Zd (OD.build (idx:=[]) (xs:=[]) (vs:=[]) (cs:=[]) (zs:=[J (0),J (0),J (0),.slice none 0 0]) (r:=[J (0),J (0),J (0),.slice none 0 0]) rfl Ah rfl rfl rfl trivial rfl) rfl ?_))
 refine Yu Ah [J (0),J (0),J (0),.slice none 0 0] 18 rfl ?_
 refine Za rfl (Zn (Zt (GC.ret (GE.passR ?_))))
 have hno:BD cr cd p i=false:=by simp[BD,OP,hc56]
 refine GE.nilInts 3 ?_
 exact GE.body [0] 20 (AZ rfl (RVs.cons (Ag Ah rfl (i:=19) rfl rfl) (RVs.cons (AD rfl) RVs.nil)) rfl) rfl (⟨(.slice none 0 0),congr (congr (congr (congrArg (fun a0 a1 a2 a4=>(.tuple #[.agg #[J (a0),J (a1),J (a2),(.slice none 0 0)],.bool (a4)]:Value)) (((A8 hno).1.symm:(0:Int)=F0 cr cd p i))) (((A8 hno).2.1.symm:(0:Int)=CO cr cd p i))) (((A8 hno).2.1.symm:(0:Int)=CO cr cd p i))) ((hno.symm:(false:Bool)=BD cr cd p i)),Ab.nil,congrArg (fun l0=>ints 3 (.slice none 0 0) l0::own) (((A8 hno).2.2.symm : []=rfD cr cd p i))⟩)
 replace hc56:=Am hc56
 refine Zk (Zt (Zs ?_))
 obtain⟨m1,m2,m3,m4⟩:=eE hg55
 obtain⟨n1,n2,n3,n4⟩:=eN hc56
 refine Ya [(6,_),(13,_),(15,_)] ?_
 refine Wp [Z0 79 (.agg #[J ((exF (B0 cr cd p i)).p),J ((exF (B0 cr cd p i)).r),J ((exF (B0 cr cd p i)).c),v31]),Z0 80 (.agg #[J ((exF (CS cr cd p i)).p),J ((exF (CS cr cd p i)).r),J ((exF (CS cr cd p i)).c),v53]),⟨81,[(0,79),(1,80)],[],[],[2],fun ds => .agg #[J (p),J (((smN cr cd:Nat):Int)),J (((smN cr cd:Nat):Int)),((ds.getD 0 []).getD 0 undef)],fun ds=>Ab ((ds.getD 0 []).getD 0 undef),fun ds=>[ints 3 ((ds.getD 0 []).getD 0 undef) (mulF p ((smN cr cd:Nat):Int) ((smN cr cd:Nat):Int) ((smN cr cd:Nat):Int) ((exF (B0 cr cd p i)).d) ((exF (CS cr cd p i)).d))]⟩,Z0 82 (.agg #[J ((exF (B0 cr cd p i)).p),J ((exF (B0 cr cd p i)).r),J ((exF (B0 cr cd p i)).c),v31]),⟨83,[(2,81),(3,82)],[2],[],[2,4],fun ds => .agg #[J (p),J (((smN cr cd:Nat):Int)),J (((smN cr cd:Nat):Int)),((ds.getD 1 []).getD 0 undef)],fun ds=>Ab ((ds.getD 1 []).getD 0 undef),fun ds=>[ints 3 ((ds.getD 1 []).getD 0 undef) (mulF p ((smN cr cd:Nat):Int) ((smN cr cd:Nat):Int) ((smN cr cd:Nat):Int) (mulF p ((smN cr cd:Nat):Int) ((smN cr cd:Nat):Int) ((smN cr cd:Nat):Int) ((exF (B0 cr cd p i)).d) ((exF (CS cr cd p i)).d)) ((exF (B0 cr cd p i)).d))]⟩] (Zc (fun _ _ _=>Zq (Qa Ah 9 [_,_,_,_]) rfl) (Zc (fun _ _ _=>Zq (Qa Ah 5 [_,_,_,_]) rfl) (Zc (fun _ _ _=>AR.plain (OG.imp (Yc [.agg #[J ((exF (B0 cr cd p i)).p),J ((exF (B0 cr cd p i)).r),J ((exF (B0 cr cd p i)).c),v31],.agg #[J ((exF (CS cr cd p i)).p),J ((exF (CS cr cd p i)).r),J ((exF (CS cr cd p i)).c),v53]] QF (by exact(Nr hs30 (Ei 8) hs52 (Ei 4) (P:=p) (Z:=((smN cr cd:Nat):Int)) (m1) (m2) (m3) (n3) (by omega) (m4) (n4) (by omega)))) (by rintro _ _ ⟨v57,rfl,hs58,rfl⟩;exact⟨[v57],rfl,hs58,rfl⟩)) rfl) (Zc (fun _ _ _=>Zq (Qa Ah 9 [_,_,_,_]) rfl) (Zc (fun θ _ ⟨h2d,_,_⟩=>AR.plain (OG.imp (Yc [.agg #[J (p),J (((smN cr cd:Nat):Int)),J (((smN cr cd:Nat):Int)),((θ 2).getD 0 undef)],.agg #[J ((exF (B0 cr cd p i)).p),J ((exF (B0 cr cd p i)).r),J ((exF (B0 cr cd p i)).c),v31]] QF (by exact(Nr h2d (Ei 0) hs30 (Ei 9) (P:=p) (Z:=((smN cr cd:Nat):Int)) (rfl) (rfl) (rfl) (m3) (by omega) (UG) (m4) (by omega)))) (by rintro _ _ ⟨v59,rfl,hs60,rfl⟩;exact⟨[v59],rfl,hs60,rfl⟩)) rfl) As.nil))))) ?_
 intro θ hall
 obtain⟨_,_,h2a,_,h4a,_⟩:=hall
 refine Yb [(6,_),(83,.agg #[J (p),J (((smN cr cd:Nat):Int)),J (((smN cr cd:Nat):Int)),((θ 4).getD 0 undef)])] (ints 3 ((θ 2).getD 0 undef) (mulF p ((smN cr cd:Nat):Int) ((smN cr cd:Nat):Int) ((smN cr cd:Nat):Int) ((exF (B0 cr cd p i)).d) ((exF (CS cr cd p i)).d))::ints 3 ((θ 4).getD 0 undef) (mulF p ((smN cr cd:Nat):Int) ((smN cr cd:Nat):Int) ((smN cr cd:Nat):Int) (mulF p ((smN cr cd:Nat):Int) ((smN cr cd:Nat):Int) ((smN cr cd:Nat):Int) ((exF (B0 cr cd p i)).d) ((exF (CS cr cd p i)).d)) ((exF (B0 cr cd p i)).d))::_::_) ?_
 have hs61:Ab ((θ 2).getD 0 undef):=h2a
 clear h2a
 generalize ((θ 2).getD 0 undef)=v62 at *
 have hs63:Ab ((θ 4).getD 0 undef):=h4a
 clear h4a
 generalize ((θ 4).getD 0 undef)=v64 at *
 show G _ _ _ [_,_] _ _ _ _
 refine Yu Ah [J (p),J (((smN cr cd:Nat):Int)),J (((smN cr cd:Nat):Int)),v64] 20 (Ad rfl (Ad rfl (Ad rfl (Ad (Ab.one hs63) rfl)))) ?_
 refine Za rfl (Zn (Zt (GC.ret ?_)))
 have hY:BD cr cd p i=true:=by rw[BD,hB,hg55,hc56] <;> rfl
 exact GE.body [1] 21 (AZ rfl (RVs.cons (Ag Ah rfl (i:=20) rfl rfl) (RVs.cons (AD rfl) RVs.nil)) rfl) rfl (⟨v64,congr (congr (congr (congrArg (fun a0 a1 a2 a4=>(.tuple #[.agg #[J (a0),J (a1),J (a2),v64],.bool (a4)]:Value)) (((Fb hY).1.symm:(p:Int)=F0 cr cd p i))) (((Fb hY).2.1.symm:(((smN cr cd:Nat):Int):Int)=CO cr cd p i))) (((Fb hY).2.1.symm:(((smN cr cd:Nat):Int):Int)=CO cr cd p i))) ((hY.symm:(true:Bool)=BD cr cd p i)),hs63,congrArg (fun l0=>ints 3 v64 l0::own) (((Fb hY).2.2.symm:mulF p ((smN cr cd:Nat):Int) ((smN cr cd:Nat):Int) ((smN cr cd:Nat):Int) (mulF p ((smN cr cd:Nat):Int) ((smN cr cd:Nat):Int) ((smN cr cd:Nat):Int) ((exF (B0 cr cd p i)).d) ((exF (CS cr cd p i)).d)) ((exF (B0 cr cd p i)).d)=rfD cr cd p i))⟩)
end Go.Proofs.YtbmnnbglipkidaaGreatDoor
