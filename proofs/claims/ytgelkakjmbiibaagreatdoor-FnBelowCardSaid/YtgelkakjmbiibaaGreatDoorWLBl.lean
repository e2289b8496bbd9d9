/-
  The law on parts of a word.
-/
import Derived.Test.YtgelkakjmbiibaaGreatDoorFct
import Derived.Test.YtgelkakjmbiibaaGreatDoorWWds
import Derived.Test.YtgelkakjmbiibaaGreatDoorWBeI
import Derived.Test.YtgelkakjmbiibaaGreatDoorWNrm
import Derived.Test.YtgelkakjmbiibaaGreatDoorZ18
import Derived.Test.YtgelkakjmbiibaaGreatDoorZ16
namespace Go.Proofs.YtgelkakjmbiibaaGreatDoor
set_option linter.unusedVariables false
set_option linter.unusedSimpArgs false
open Go.RowKit
theorem ent16 : ∀ us w, (callFunc 16 us).run Tryz.prog w = .ok (.enter 16 us) w := fun us w => by kernel_rfl
theorem ent19 : ∀ us w, (callFunc 19 us).run Tryz.prog w = .ok (.enter 19 us) w := fun us w => by kernel_rfl
theorem ent20 : ∀ us w, (callFunc 20 us).run Tryz.prog w = .ok (.enter 20 us) w := fun us w => by kernel_rfl
theorem ent21 : ∀ us w, (callFunc 21 us).run Tryz.prog w = .ok (.enter 21 us) w := fun us w => by kernel_rfl
theorem ent22 : ∀ us w, (callFunc 22 us).run Tryz.prog w = .ok (.enter 22 us) w := fun us w => by kernel_rfl
theorem ent23 : ∀ us w, (callFunc 23 us).run Tryz.prog w = .ok (.enter 23 us) w := fun us w => by kernel_rfl
theorem ent24 : ∀ us w, (callFunc 24 us).run Tryz.prog w = .ok (.enter 24 us) w := fun us w => by kernel_rfl
theorem bt4 : BT Tryz.prog 4 := ⟨fun a b w => by cases a <;> cases b <;> kernel_rfl, fun a b w => by cases a <;> cases b <;> kernel_rfl⟩
set_option maxRecDepth 100000 in
theorem at0_w {W : World} {own : List Asn} {vcode : Value} {code : List Int} {i : Int}  (scode : IsS vcode) (ecode : Ent own fun w => Byts w vcode code)   (hcl : code.length ≤ 1048576) (hi : 0 ≤ i ∧ i ≤ 1000) : Spec Tryz.prog 22 [vcode, .int .i64 (i)] W own (fun v ow => ∃ (x0 : Int), v = .int .i64 x0 ∧ ow = own) := by
 refine Spec.enter Tryz.f22 _ Tryz.func22 rfl (n := 20) rfl rfl ?_
 refine GC.seq (GC.region ?_)
 refine G.stepD (OD.assign rfl rfl) rfl rfl rfl ?_
 refine G.nil (GE.then_ (GC.seq (GC.seq (GC.region ?_))))
 refine G.stepD (OD.move rfl rfl) rfl rfl rfl ?_
 refine G.stepD (OD.move rfl rfl) rfl rfl rfl ?_
 refine G.stepD (OD.len rfl rfl et33 rfl ecode) rfl rfl rfl ?_
 refine G.stepD (OD.lss rfl rfl rfl) rfl rfl rfl ?_
 refine G.nil (GE.then_ ?_)
 refine GC.cond rfl (fun hc1 => ?_) (fun hc1 => ?_)
 replace hc1 := of_decide_eq_true hc1
 refine GC.seq (GC.region ?_)
 refine G.stepD (OD.move rfl rfl) rfl rfl rfl ?_
 refine G.stepD (OD.move rfl rfl) rfl rfl rfl ?_
 refine G.stepD (OD.indexAddr rfl et33 rfl ecode rfl (by omega)) rfl rfl rfl ?_
 refine G.stepD (OD.loadByte rfl ti5 rfl ecode (by omega)) rfl rfl rfl ?_
 refine G.stepD (OD.conv rfl cv5_3 rfl) rfl rfl rfl ?_
 refine G.stepD (OD.assign rfl rfl) rfl rfl rfl ?_
 refine G.nil (GE.then_ (GC.ret (GE.passR ?_)))
 exact GE.body [] 0 (res1 rfl rfl) rfl (⟨(IntKind.i64.wrap (code.getD ((i : Int).toNat) 0)), rfl, rfl⟩)
 replace hc1 := of_decide_eq_false hc1
 refine GC.skip (GE.then_ (GC.seq (GC.region ?_)))
 refine G.stepD (OD.move rfl rfl) rfl rfl rfl ?_
 refine G.stepD (OD.mulI rfl rfl rfl (by omega)) rfl rfl rfl ?_
 refine G.stepD (OD.move rfl rfl) rfl rfl rfl ?_
 refine G.stepD (OD.len rfl rfl et33 rfl ecode) rfl rfl rfl ?_
 refine G.stepD (OD.addI rfl rfl rfl (by omega)) rfl rfl rfl ?_
 refine G.stepD (OD.rem rfl rfl rfl (by omega)) rfl rfl rfl ?_
 refine G.stepD (OD.assign rfl rfl) rfl rfl rfl ?_
 refine G.nil (GE.then_ (GC.ret ?_))
 exact GE.body [] 0 (res1 rfl rfl) rfl (⟨(((i * 7) + (code.length : Nat) : Int).tmod 256), rfl, rfl⟩)
set_option maxHeartbeats 4000000 in
set_option maxRecDepth 100000 in
theorem lawBelow {W : World} {own : List Asn} {vcode : Value} {code : List Int}  (scode : IsS vcode) (ecode : Ent own fun w => Byts w vcode code)  (hl : code.length ≤ 9223372036854775807) (hg : Ent own fun w => ∃ m, w.cell? ⟨Tryz.l146_ren.g 1, 0, none⟩ = some (.int .i64 m)) (htab : Ent own Pow10) : Spec Tryz.prog 4 [vcode] W own (fun v ow => v = .bool (true) ∧ ow = own) := by
 refine Spec.enter Tryz.f4 _ Tryz.func4 rfl (n := 101) rfl rfl ?_
 refine GC.seq (GC.region ?_)
 refine G.stepD (OD.assign rfl rfl) rfl rfl rfl ?_
 refine G.nil (GE.then_ (GC.seq (GC.seq (GC.region ?_))))
 refine G.stepD (OD.move rfl rfl) rfl rfl rfl ?_
 refine G.step (OG.call [vcode] ent19 rfl rfl rfl rfl (by exact (big_w scode ecode (by omega)))) rfl rfl rfl ?_
 rintro _ _ ⟨rfl, hzz⟩; obtain rfl := hzz.symm
 refine G.nil (GE.then_ ?_)
 refine GC.cond rfl (fun hc1 => ?_) (fun hc1 => ?_)
 replace hc1 := of_decide_eq_true hc1
 refine GC.seq (GC.region ?_)
 refine G.stepD (OD.assign rfl rfl) rfl rfl rfl ?_
 refine G.nil (GE.then_ (GC.ret (GE.passR ?_)))
 exact GE.body [] 0 (res1 rfl rfl) rfl (⟨rfl, rfl⟩)
 replace hc1 := of_decide_eq_false hc1
 refine GC.skip (GE.then_ (GC.seq (GC.region ?_)))
 refine G.stepD (OD.move rfl rfl) rfl rfl rfl ?_
 refine G.step (OG.call [vcode] ent20 rfl rfl rfl rfl (by exact (drawWords_w scode ecode (by omega)))) rfl rfl rfl ?_
 rintro _ _ ⟨v2, v3, v4, v5, g6, u7, u8, u9, rfl, hs10, hs11, hs12, hs13, hs14, hs15, hs16, hs17, rfl⟩
 refine G.stepD (OD.move rfl rfl) rfl rfl rfl ?_
 refine G.stepD (OD.extract rfl rfl rfl) rfl rfl rfl ?_
 refine G.stepD (OD.extract rfl rfl rfl) rfl rfl rfl ?_
 refine G.stepD (OD.extract rfl rfl rfl) rfl rfl rfl ?_
 refine G.stepD (OD.extract rfl rfl rfl) rfl rfl rfl ?_
 refine G.step (OG.alloc rfl ti27 (zs := [.int .i64 (0), .slice none 0 0]) rfl) rfl rfl rfl ?_
 rintro _ _ ⟨g18, rfl, rfl⟩
 refine G.stepD0 (OD.store rfl ti27 rfl rfl (us := [.int .i64 (cR (smNm g6)), v2]) rfl rfl (allC rfl (allC (IsS.one hs10) rfl)) (i := 0) rfl rfl) rfl rfl ?_
 refine G.stepD (OD.assign rfl rfl) rfl rfl rfl ?_
 refine G.stepD (OD.assign rfl rfl) rfl rfl rfl ?_
 refine G.stepD (OD.assign rfl rfl) rfl rfl rfl ?_
 refine G.nil (GE.then_ (GC.seq ?_))
 obtain ⟨hS, hg0, hgt⟩ := grOk (k := g6) (by assumption)
 obtain ⟨hR, hD, hN1, hN3⟩ := sm_cR (k := g6) (by assumption)
 rw [← hR, ← hD] at hS hg0 hgt
 generalize hce : cR (smNm g6) = cr at *
 generalize hde : cD (smNm g6) = cd at *
 have hcr4 := (tyS_ok hS).1
 have hl0 : cd.length ≤ 1073741824 := Nat.le_trans (cd_small hS) (by decide)
 have hW := wlOk hS
 have hph := phOk hS
 obtain ⟨hvl, hrv⟩ := (show u8.length ≤ 11 ∧ ∀ q ∈ u8, 0 ≤ q ∧ q < cr from by assumption)
 obtain ⟨hul, hru⟩ := (show u7.length ≤ 12 ∧ ∀ q ∈ u7, 0 ≤ q ∧ q < cr from by assumption)
 have hL : BeLaw cr cd u7 u8 := hg0.beLaw hS hru (by omega) hrv (by omega)
 have hNl := hL.nl
 have hpn : isbOf cr cd [] u8 = true := hL.part [] (List.nil_sublist _)
 have hself : isbOf cr cd u8 u8 = true := hL.self
 refine GC.region ?_
 refine G.stepD (OD.loadAgg rfl ti27 rfl (i := 0) rfl (us := [.int .i64 (cr), v2]) rfl rfl) rfl rfl rfl ?_
 refine G.stepD (OD.move rfl rfl) rfl rfl rfl ?_
 refine G.step (OG.call [.agg #[.int .i64 (cr), v2], v4] ent21 rfl rfl rfl rfl (by exact (normalWord_w hs10 (Ent.ints (i := 1) rfl) hs12 (Ent.ints (i := 3) rfl) (hl0) (by omega) ((Ent.drop 5 hg))))) rfl rfl rfl ?_
 rintro v19 _ ⟨_, rfl, hs20, rfl⟩
 refine G.stepD (OD.assign rfl rfl) rfl rfl rfl ?_
 refine G.nil (GE.then_ (GC.seq (GC.region ?_)))
 refine G.step (OG.buildInts (xs := []) (is := []) rfl et22 rfl rfl rfl rfl rfl) rfl rfl rfl ?_
 rintro v21 _ ⟨hs22, rfl⟩
 refine G.stepD (OD.assign rfl rfl) rfl rfl rfl ?_
 refine G.nil (GE.then_ (GC.seq (GC.seq (GC.region ?_))))
 refine G.stepD (OD.assign rfl rfl) rfl rfl rfl ?_
 refine G.nil (GE.then_ (GC.block ?_))
 refine GC.loop (ι := Nat × List Int × Value) (fun ⟨i, ys, w⟩ => [(0, vcode), (3, .pointer (some ⟨g18, 0, none⟩)), (4, v3), (5, v4), (7, v19), (8, w), (9, .int .i64 ((i : Int)))]) (fun ⟨i, ys, w⟩ => ints 3 w ys :: ints 3 v19 (nwOf cr cd u8) :: box g18 27 [.int .i64 (cr), v2] :: ints 3 v2 cd :: ints 3 v3 u7 :: ints 3 v4 u8 :: ints 3 v5 u9 :: own) (fun ⟨i, ys, w⟩ => (i ≤ (nwOf cr cd u8).length) ∧ (ys.Sublist ((nwOf cr cd u8).take i)) ∧ (IsS w)) (fun ⟨i, ys, w⟩ => (nwOf cr cd u8).length - i) (0, [], v21) (⟨by omega, List.nil_sublist _, hs22⟩) ⟨rfl, rfl, rfl, rfl, rfl, rfl, rfl, trivial⟩ [] 0 rfl ?_
 rintro ⟨i, ys, w⟩ ⟨hi, hys, hw⟩
 have hyl := hys.length_le
 rw [List.length_take] at hyl
 refine GC.seq (GC.seq (GC.region ?_))
 refine G.stepD (OD.move rfl rfl) rfl rfl rfl ?_
 refine G.stepD (OD.move rfl rfl) rfl rfl rfl ?_
 refine G.stepD (OD.len rfl rfl et22 rfl (Ent.ints (i := 1) rfl)) rfl rfl rfl ?_
 refine G.stepD (OD.lss rfl rfl rfl) rfl rfl rfl ?_
 refine G.nil (GE.then_ ?_)
 refine GC.cond rfl (fun hc23 => ?_) (fun hc23 => ?_)
 replace hc23 := of_decide_eq_true hc23
 refine GC.skip (GE.then_ (GC.seq (GC.block (GC.seq (GC.region ?_)))))
 refine G.stepD (OD.move rfl rfl) rfl rfl rfl ?_
 refine G.stepD (OD.move rfl rfl) rfl rfl rfl ?_
 refine G.stepD (OD.addI rfl rfl rfl (by omega)) rfl rfl rfl ?_
 refine G.step (OG.call [vcode, .int .i64 ((i : Int) + 3)] ent22 rfl rfl rfl rfl (by exact (at0_w scode (Ent.drop 7 ecode) (by omega) (by omega)))) rfl rfl rfl ?_
 rintro _ _ ⟨u24, rfl, rfl⟩
 refine G.stepD (OD.rem rfl rfl rfl (by omega)) rfl rfl rfl ?_
 refine G.stepD (OD.neq rfl rfl rfl) rfl rfl rfl ?_
 refine G.nil (GE.then_ ?_)
 refine GC.cond rfl (fun hc25 => ?_) (fun hc25 => ?_)
 replace hc25 := ne_of_bne hc25
 refine GC.region ?_
 refine G.stepD (OD.move rfl rfl) rfl rfl rfl ?_
 refine G.stepD (OD.move rfl rfl) rfl rfl rfl ?_
 refine G.stepD (OD.move rfl rfl) rfl rfl rfl ?_
 refine G.stepD (OD.indexAddr rfl et22 rfl (Ent.ints (i := 1) rfl) rfl (by omega)) rfl rfl rfl ?_
 refine G.stepD (OD.loadInt rfl ti3 rfl (Ent.ints (i := 1) rfl) (by omega)) rfl rfl rfl ?_
 refine G.step (OG.buildInts (xs := [.tmp 41]) (is := [(nwOf cr cd u8).getD (i) 0]) rfl et22 rfl rfl rfl rfl rfl) rfl rfl rfl ?_
 rintro v26 _ ⟨hs27, rfl⟩
 refine G.step (OG.appendInts 1 rfl rfl et22 rfl rfl rfl (Ent.ints (i := 0) rfl) (by first | omega | (simp; omega))) rfl rfl rfl ?_
 rintro v28 _ ⟨hs29, rfl⟩
 refine G.stepD (OD.assign rfl rfl) rfl rfl rfl ?_
 refine G.nil (GE.blockN (GE.then_ (GC.region ?_)))
 refine G.stepD (OD.move rfl rfl) rfl rfl rfl ?_
 refine G.stepD (OD.addI rfl rfl rfl (by omega)) rfl rfl rfl ?_
 refine G.stepD (OD.assign rfl rfl) rfl rfl rfl ?_
 refine G.nil ?_
 exact GE.again (i + 1, ys ++ [(nwOf cr cd u8).getD (i) 0], v28) (⟨by omega, subw_yes hys (by omega), hs29⟩) (by first | omega | (dsimp only; omega)) ⟨rfl, rfl, rfl, rfl, rfl, rfl, rfl, trivial⟩ [1, 1, 1, 1, 1, 1, 1] 1 rfl
 replace hc25 := eq_of_bne_false hc25
 refine GC.skip (GE.blockN (GE.then_ (GC.region ?_)))
 refine G.stepD (OD.move rfl rfl) rfl rfl rfl ?_
 refine G.stepD (OD.addI rfl rfl rfl (by omega)) rfl rfl rfl ?_
 refine G.stepD (OD.assign rfl rfl) rfl rfl rfl ?_
 refine G.nil ?_
 exact GE.again (i + 1, ys, w) (⟨by omega, subw_no hys, hw⟩) (by first | omega | (dsimp only; omega)) ⟨rfl, rfl, rfl, rfl, rfl, rfl, rfl, trivial⟩ [] 0 rfl
 replace hc23 := of_decide_eq_false hc23
 have hpt : isbOf cr cd ys u8 = true := hL.part ys (by rw [List.take_of_length_le (by omega)] at hys; exact hys)
 have hyl2 : ys.length ≤ 24 := by omega
 refine GC.exit (GE.pass (GE.pass (GE.hit (GE.then_ (GC.seq (GC.seq (GC.region ?_)))))))
 refine G.stepD (OD.loadAgg rfl ti27 rfl (i := 2) rfl (us := [.int .i64 (cr), v2]) rfl rfl) rfl rfl rfl ?_
 refine G.stepD (OD.move rfl rfl) rfl rfl rfl ?_
 refine G.stepD (OD.move rfl rfl) rfl rfl rfl ?_
 refine G.step (OG.imp (K' := fun v ow => v = .bool true ∧ ow = ints 3 w ys :: ints 3 v19 (nwOf cr cd u8) :: box g18 27 [.int .i64 (cr), v2] :: ints 3 v2 cd :: ints 3 v3 u7 :: ints 3 v4 u8 :: ints 3 v5 u9 :: own) (OG.call [.agg #[.int .i64 (cr), v2], w, v4] ent16 rfl rfl rfl rfl (by exact (isBelow_w hs10 (Ent.ints (i := 3) rfl) hw (Ent.ints (i := 0) rfl) hs12 (Ent.ints (i := 5) rfl) (hl0) (by first | omega | exact Nat.zero_le _ | (have h8 := ivOf_len cr cd u7; omega)) (by first | omega | (have h8 := ivOf_len cr cd u8; omega)) ((Ent.drop 7 hg)) ((Ent.drop 7 htab))))) (by rintro _ _ ⟨rfl, rfl⟩; exact ⟨congrArg Value.bool (hpt), rfl⟩)) rfl rfl rfl ?_
 rintro _ _ ⟨rfl, rfl⟩
 refine G.stepD (OD.not rfl rfl) rfl rfl rfl ?_
 refine G.stepD (OD.move rfl rfl) rfl rfl rfl ?_
 refine G.stepGD (OD.loadAgg rfl ti27 rfl (i := 2) rfl (us := [.int .i64 (cr), v2]) rfl rfl) rfl rfl rfl rfl rfl ?_
 refine G.stepGD (OD.move rfl rfl) rfl rfl rfl rfl rfl ?_
 refine G.stepG (OG.imp (K' := fun v ow => v = .bool true ∧ ow = ints 3 w ys :: ints 3 v19 (nwOf cr cd u8) :: box g18 27 [.int .i64 (cr), v2] :: ints 3 v2 cd :: ints 3 v3 u7 :: ints 3 v4 u8 :: ints 3 v5 u9 :: own) (OG.call [.agg #[.int .i64 (cr), v2], .slice none 0 0, v4] ent16 rfl rfl rfl rfl (by exact (isBelow_w hs10 (Ent.ints (i := 3) rfl) IsS.nil Ent.nilInts hs12 (Ent.ints (i := 5) rfl) (hl0) (by first | omega | exact Nat.zero_le _ | (have h8 := ivOf_len cr cd u7; omega)) (by first | omega | (have h8 := ivOf_len cr cd u8; omega)) ((Ent.drop 7 hg)) ((Ent.drop 7 htab))))) (by rintro _ _ ⟨rfl, rfl⟩; exact ⟨congrArg Value.bool (hpn), rfl⟩)) rfl rfl rfl rfl rfl ?_
 rintro _ _ ⟨rfl, rfl⟩
 refine G.stepGD (OD.not rfl rfl) rfl rfl rfl rfl rfl ?_
 refine G.stepD (OD.pickF rfl rfl rfl) rfl rfl rfl ?_
 refine G.stepD (OD.move rfl rfl) rfl rfl rfl ?_
 refine G.stepGD (OD.loadAgg rfl ti27 rfl (i := 2) rfl (us := [.int .i64 (cr), v2]) rfl rfl) rfl rfl rfl rfl rfl ?_
 refine G.stepGD (OD.move rfl rfl) rfl rfl rfl rfl rfl ?_
 refine G.stepGD (OD.move rfl rfl) rfl rfl rfl rfl rfl ?_
 refine G.stepG (OG.imp (K' := fun v ow => v = .bool true ∧ ow = ints 3 w ys :: ints 3 v19 (nwOf cr cd u8) :: box g18 27 [.int .i64 (cr), v2] :: ints 3 v2 cd :: ints 3 v3 u7 :: ints 3 v4 u8 :: ints 3 v5 u9 :: own) (OG.call [.agg #[.int .i64 (cr), v2], v4, v4] ent16 rfl rfl rfl rfl (by exact (isBelow_w hs10 (Ent.ints (i := 3) rfl) hs12 (Ent.ints (i := 5) rfl) hs12 (Ent.ints (i := 5) rfl) (hl0) (by first | omega | exact Nat.zero_le _ | (have h8 := ivOf_len cr cd u7; omega)) (by first | omega | (have h8 := ivOf_len cr cd u8; omega)) ((Ent.drop 7 hg)) ((Ent.drop 7 htab))))) (by rintro _ _ ⟨rfl, rfl⟩; exact ⟨congrArg Value.bool (hself), rfl⟩)) rfl rfl rfl rfl rfl ?_
 rintro _ _ ⟨rfl, rfl⟩
 refine G.stepGD (OD.not rfl rfl) rfl rfl rfl rfl rfl ?_
 refine G.stepD (OD.pickF rfl rfl rfl) rfl rfl rfl ?_
 refine G.nil (GE.then_ (GC.condF rfl (GC.skip (GE.then_ (GC.seq (GC.region ?_))))))
 refine G.stepD (OD.loadAgg rfl ti27 rfl (i := 2) rfl (us := [.int .i64 (cr), v2]) rfl rfl) rfl rfl rfl ?_
 refine G.stepD (OD.move rfl rfl) rfl rfl rfl ?_
 refine G.stepD (OD.move rfl rfl) rfl rfl rfl ?_
 refine G.step (OG.call [.agg #[.int .i64 (cr), v2], v3, v4] ent16 rfl rfl rfl rfl (by exact (isBelow_w hs10 (Ent.ints (i := 3) rfl) hs11 (Ent.ints (i := 4) rfl) hs12 (Ent.ints (i := 5) rfl) (hl0) (by first | omega | exact Nat.zero_le _ | (have h8 := ivOf_len cr cd u7; omega)) (by first | omega | (have h8 := ivOf_len cr cd u8; omega)) ((Ent.drop 7 hg)) ((Ent.drop 7 htab))))) rfl rfl rfl ?_
 rintro _ _ ⟨rfl, rfl⟩
 refine G.stepD (OD.assign rfl rfl) rfl rfl rfl ?_
 refine G.nil (GE.then_ (GC.seq (GC.region ?_)))
 refine G.stepD (OD.loadAgg rfl ti27 rfl (i := 2) rfl (us := [.int .i64 (cr), v2]) rfl rfl) rfl rfl rfl ?_
 refine G.stepD (OD.move rfl rfl) rfl rfl rfl ?_
 refine G.stepD (OD.move rfl rfl) rfl rfl rfl ?_
 refine G.step (OG.call [.agg #[.int .i64 (cr), v2], v4, v3] ent16 rfl rfl rfl rfl (by exact (isBelow_w hs10 (Ent.ints (i := 3) rfl) hs12 (Ent.ints (i := 5) rfl) hs11 (Ent.ints (i := 4) rfl) (hl0) (by first | omega | exact Nat.zero_le _ | (have h8 := ivOf_len cr cd u7; omega)) (by first | omega | (have h8 := ivOf_len cr cd u8; omega)) ((Ent.drop 7 hg)) ((Ent.drop 7 htab))))) rfl rfl rfl ?_
 rintro _ _ ⟨rfl, rfl⟩
 refine G.stepD (OD.assign rfl rfl) rfl rfl rfl ?_
 refine G.nil (GE.then_ (GC.seq (GC.seq (GC.region ?_))))
 refine G.stepD (OD.move rfl rfl) rfl rfl rfl ?_
 refine G.stepD (OD.move rfl rfl) rfl rfl rfl ?_
 rcases Bool.eq_false_or_eq_true (isbOf cr cd u7 u8) with hg30 | hg30
 have hg30e := hg30
 refine G.at [] 0 (env' := [(0, vcode), (3, .pointer (some ⟨g18, 0, none⟩)), (4, v3), (5, v4), (7, v19), (8, w), (9, .int .i64 ((i : Int))), (25, .int .i64 ((i : Int))), (26, v19), (27, .int .i64 (((nwOf cr cd u8).length : Nat))), (28, .bool (decide ((i : Int) < ((nwOf cr cd u8).length : Nat)))), (44, .agg #[.int .i64 (cr), v2]), (45, w), (46, v4), (47, .bool true), (48, .bool false), (49, .bool false), (50, .agg #[.int .i64 (cr), v2]), (51, v4), (52, .bool true), (53, .bool false), (54, .bool false), (55, .bool false), (56, .agg #[.int .i64 (cr), v2]), (57, v4), (58, v4), (59, .bool true), (60, .bool false), (61, .bool false), (62, .agg #[.int .i64 (cr), v2]), (63, v3), (64, v4), (65, .bool true), (10, .bool true), (66, .agg #[.int .i64 (cr), v2]), (67, v4), (68, v3), (69, .bool (isbOf cr cd u8 u7)), (11, .bool (isbOf cr cd u8 u7)), (70, .bool true), (71, .bool true)]) (⟨rfl, rfl, rfl, rfl, rfl, rfl, rfl, rfl, rfl, rfl, rfl, rfl, rfl, rfl, rfl, rfl, rfl, rfl, rfl, rfl, rfl, rfl, rfl, rfl, rfl, rfl, rfl, rfl, rfl, rfl, rfl, rfl, (congrArg (fun b => some (Value.bool b)) hg30e), (congrArg (fun b => some (Value.bool b)) hg30e), rfl, rfl, rfl, rfl, rfl, (congrArg (fun b => some (Value.bool b)) hg30e), (congrArg (fun b => some (Value.bool b)) hg30e), trivial⟩) rfl ?_
 refine G.stepGD (OD.loadAgg rfl ti27 rfl (i := 2) rfl (us := [.int .i64 (cr), v2]) rfl rfl) rfl rfl rfl rfl rfl ?_
 refine G.stepGD (OD.move rfl rfl) rfl rfl rfl rfl rfl ?_
 refine G.stepG (OG.call [.agg #[.int .i64 (cr), v2], v3] ent21 rfl rfl rfl rfl (by exact (normalWord_w hs10 (Ent.ints (i := 3) rfl) hs11 (Ent.ints (i := 4) rfl) (hl0) (by omega) ((Ent.drop 7 hg))))) rfl rfl rfl rfl rfl ?_
 rintro v31 _ ⟨_, rfl, hs32, rfl⟩
 refine G.stepGD (OD.len rfl rfl et22 rfl (Ent.ints (i := 0) rfl)) rfl rfl rfl rfl rfl ?_
 refine G.stepGD (OD.move rfl rfl) rfl rfl rfl rfl rfl ?_
 refine G.stepGD (OD.len rfl rfl et22 rfl (Ent.ints (i := 2) rfl)) rfl rfl rfl rfl rfl ?_
 refine G.stepGD (OD.eqv (OD.gtr rfl rfl rfl) (congrArg Value.bool ((decide_eq_false (by have h9 := hL.len (by assumption); omega)) : _ = false))) rfl rfl rfl rfl rfl ?_
 refine G.stepD (OD.pickT rfl rfl rfl) rfl rfl rfl ?_
 refine G.stepD (OD.move rfl rfl) rfl rfl rfl ?_
 refine G.stepGD (OD.move rfl rfl) rfl rfl rfl rfl rfl ?_
 refine G.stepGD (OD.move rfl rfl) rfl rfl rfl rfl rfl ?_
 refine G.stepGD (OD.move rfl rfl) rfl rfl rfl rfl rfl ?_
 refine G.stepGD (OD.loadAgg rfl ti27 rfl (i := 3) rfl (us := [.int .i64 (cr), v2]) rfl rfl) rfl rfl rfl rfl rfl ?_
 refine G.stepGD (OD.move rfl rfl) rfl rfl rfl rfl rfl ?_
 refine G.stepGD (OD.move rfl rfl) rfl rfl rfl rfl rfl ?_
 refine G.stepG (OG.call [.agg #[.int .i64 (cr), v2], v3, v4] ent23 rfl rfl rfl rfl (by exact (sameElement_w hs10 (Ent.ints (i := 4) rfl) hs11 (Ent.ints (i := 5) rfl) hs12 (Ent.ints (i := 6) rfl) (hl0) (by omega) (by omega) ((Ent.drop 8 hg))))) rfl rfl rfl rfl rfl ?_
 rintro _ _ ⟨rfl, rfl⟩
 refine G.stepGD (OD.eqv (OD.neqB bt4 rfl rfl rfl) (congrArg Value.bool ((by rw [hL.anti (by assumption)]; exact bneB_same _) : _ = false))) rfl rfl rfl rfl rfl ?_
 refine G.stepGD (OD.pickT rfl rfl rfl) rfl rfl rfl rfl rfl ?_
 refine G.stepD (OD.pickF rfl rfl rfl) rfl rfl rfl ?_
 refine G.nil (GE.then_ (GC.condF rfl (GC.skip (GE.then_ (GC.seq ?_)))))
 refine GC.at [] 0 (env' := [(3, .pointer (some ⟨g18, 0, none⟩)), (4, v3), (5, v4), (10, .bool true)]) ⟨rfl, rfl, rfl, rfl, trivial⟩ rfl ?_
 refine GC.par (its := [⟨91, [], [], [], [], fun _ => .agg #[.int .i64 (cr), v2], fun _ => True, fun _ => []⟩,
     ⟨92, [], [], [], [], fun _ => .agg #[.int .i64 (cr), v2], fun _ => True, fun _ => []⟩,
     ⟨93, [], [], [], [], fun _ => v3, fun _ => True, fun _ => []⟩,
     ⟨94, [(1, 92), (2, 93)], [], [], [3], fun ds => ((ds.getD 0 []).getD 0 undef), fun ds => IsS ((ds.getD 0 []).getD 0 undef), fun ds => [ints 3 ((ds.getD 0 []).getD 0 undef) (ivOf cr cd u7)]⟩,
     ⟨95, [], [], [], [], fun _ => .agg #[.int .i64 (cr), v2], fun _ => True, fun _ => []⟩,
     ⟨96, [], [], [], [], fun _ => v4, fun _ => True, fun _ => []⟩,
     ⟨97, [(4, 95), (5, 96)], [], [], [6], fun ds => ((ds.getD 0 []).getD 0 undef), fun ds => IsS ((ds.getD 0 []).getD 0 undef), fun ds => [ints 3 ((ds.getD 0 []).getD 0 undef) (ivOf cr cd u8)]⟩,
     ⟨98, [(0, 91), (3, 94), (6, 97)], [3, 6], [], [3, 6], fun _ => .bool (isbOf cr cd (ivOf cr cd u7) (ivOf cr cd u8)), fun _ => True, fun _ => []⟩,
     ⟨99, [], [], [], [], fun _ => .bool true, fun _ => True, fun _ => []⟩,
     ⟨100, [(7, 98), (8, 99)], [3, 6], [], [3, 6], fun _ => .bool true, fun _ => True, fun _ => []⟩]) (by kernel_rfl) (by kernel_rfl) (POps.cons ?_ (POps.cons ?_ (POps.cons ?_ (POps.cons ?_ (POps.cons ?_ (POps.cons ?_ (POps.cons ?_ (POps.cons ?_ (POps.cons ?_ (POps.cons ?_ POps.nil)))))))))) ?_
 intro θ R hd
 exact Opp.plain (OG.imp (OD.loadAgg rfl ti27 rfl (i := 3) rfl (us := [.int .i64 (cr), v2]) rfl rfl) (by rintro _ _ ⟨rfl, rfl⟩; exact ⟨[], rfl, trivial, rfl⟩)) rfl
 intro θ R hd
 exact Opp.plain (OG.imp (OD.loadAgg rfl ti27 rfl (i := 3) rfl (us := [.int .i64 (cr), v2]) rfl rfl) (by rintro _ _ ⟨rfl, rfl⟩; exact ⟨[], rfl, trivial, rfl⟩)) rfl
 intro θ R hd
 exact Opp.plain (OG.imp (OD.move rfl rfl) (by rintro _ _ ⟨rfl, rfl⟩; exact ⟨[], rfl, trivial, rfl⟩)) rfl
 intro θ R hd
 obtain ⟨h1d, h2d, _⟩ := hd
 exact Opp.plain (OG.imp (OG.call [.agg #[.int .i64 (cr), v2], v3] ent24 rfl rfl rfl rfl (by exact (inverseWord_w hs10 (Ent.ints (i := 4) rfl) hs11 (Ent.ints (i := 5) rfl) (hl0) (by omega) ((Ent.drop 8 hg.app))))) (by rintro v33 _ ⟨_, rfl, hs34, rfl⟩; exact ⟨[v33], rfl, hs34, rfl⟩)) rfl
 intro θ R hd
 exact Opp.plain (OG.imp (OD.loadAgg rfl ti27 rfl (i := 3) rfl (us := [.int .i64 (cr), v2]) rfl rfl) (by rintro _ _ ⟨rfl, rfl⟩; exact ⟨[], rfl, trivial, rfl⟩)) rfl
 intro θ R hd
 exact Opp.plain (OG.imp (OD.move rfl rfl) (by rintro _ _ ⟨rfl, rfl⟩; exact ⟨[], rfl, trivial, rfl⟩)) rfl
 intro θ R hd
 obtain ⟨h4d, h5d, _⟩ := hd
 exact Opp.plain (OG.imp (OG.call [.agg #[.int .i64 (cr), v2], v4] ent24 rfl rfl rfl rfl (by exact (inverseWord_w hs10 (Ent.ints (i := 4) rfl) hs12 (Ent.ints (i := 6) rfl) (hl0) (by omega) ((Ent.drop 8 hg.app))))) (by rintro v35 _ ⟨_, rfl, hs36, rfl⟩; exact ⟨[v35], rfl, hs36, rfl⟩)) rfl
 intro θ R hd
 obtain ⟨h0d, h3d, h6d, _⟩ := hd
 exact Opp.plain (OG.imp (OG.call [.agg #[.int .i64 (cr), v2], ((θ 3).getD 0 undef), ((θ 6).getD 0 undef)] ent16 rfl rfl rfl rfl (by exact (isBelow_w hs10 (Ent.ints (i := 6) rfl) h3d (Ent.ints (i := 0) rfl) h6d (Ent.ints (i := 1) rfl) (hl0) (by first | omega | exact Nat.zero_le _ | (have h8 := ivOf_len cr cd u7; omega)) (by first | omega | (have h8 := ivOf_len cr cd u8; omega)) ((Ent.drop 10 hg.app)) ((Ent.drop 10 htab.app))))) (by rintro _ _ ⟨rfl, rfl⟩; exact ⟨[], rfl, trivial, (by first | exact left_all | rfl)⟩)) rfl
 intro θ R hd
 exact Opp.plain (OG.imp (OD.move rfl rfl) (by rintro _ _ ⟨rfl, rfl⟩; exact ⟨[], rfl, trivial, rfl⟩)) rfl
 intro θ R hd
 obtain ⟨h7d, h8d, _⟩ := hd
 exact Opp.plain (OG.imp (OD.eqv (OD.eqlB bt4 rfl rfl rfl) (congrArg Value.bool ((by rw [hL.inv]; first | (rw [show isbOf cr cd u7 u8 = true from by assumption]; rfl) | (rw [show isbOf cr cd u7 u8 = false from by assumption]; rfl)) : _ = true))) (by rintro _ _ ⟨rfl, rfl⟩; exact ⟨[], rfl, trivial, (by first | exact left_all | rfl)⟩)) rfl
 intro θ hall
 obtain ⟨_, _, _, h3a, _, _, h6a, _, _, _, _⟩ := hall
 refine G.at [] 0 (env' := [(100, .bool true)]) ⟨rfl, trivial⟩ (own' := ints 3 ((θ 3).getD 0 undef) (ivOf cr cd u7) :: ints 3 ((θ 6).getD 0 undef) (ivOf cr cd u8) :: ints 3 v31 (nwOf cr cd u7) :: ints 3 w ys :: ints 3 v19 (nwOf cr cd u8) :: box g18 27 [.int .i64 (cr), v2] :: ints 3 v2 cd :: ints 3 v3 u7 :: ints 3 v4 u8 :: ints 3 v5 u9 :: own) rfl ?_
 have hs37 : IsS ((θ 3).getD 0 undef) := h3a
 clear h3a
 generalize ((θ 3).getD 0 undef) = v38 at *
 have hs39 : IsS ((θ 6).getD 0 undef) := h6a
 clear h6a
 generalize ((θ 6).getD 0 undef) = v40 at *
 show G _ _ _ [_] _ _ _ _
 refine G.stepD (OD.assign rfl rfl) rfl rfl rfl ?_
 refine G.nil (GE.then_ (GC.ret ?_))
 exact GE.body [] 10 (res1 rfl rfl) rfl (⟨rfl, rfl⟩)
 have hg30e := hg30
 refine G.at [] 0 (env' := [(0, vcode), (3, .pointer (some ⟨g18, 0, none⟩)), (4, v3), (5, v4), (7, v19), (8, w), (9, .int .i64 ((i : Int))), (25, .int .i64 ((i : Int))), (26, v19), (27, .int .i64 (((nwOf cr cd u8).length : Nat))), (28, .bool (decide ((i : Int) < ((nwOf cr cd u8).length : Nat)))), (44, .agg #[.int .i64 (cr), v2]), (45, w), (46, v4), (47, .bool true), (48, .bool false), (49, .bool false), (50, .agg #[.int .i64 (cr), v2]), (51, v4), (52, .bool true), (53, .bool false), (54, .bool false), (55, .bool false), (56, .agg #[.int .i64 (cr), v2]), (57, v4), (58, v4), (59, .bool true), (60, .bool false), (61, .bool false), (62, .agg #[.int .i64 (cr), v2]), (63, v3), (64, v4), (65, .bool false), (10, .bool false), (66, .agg #[.int .i64 (cr), v2]), (67, v4), (68, v3), (69, .bool (isbOf cr cd u8 u7)), (11, .bool (isbOf cr cd u8 u7)), (70, .bool false), (71, .bool false)]) (⟨rfl, rfl, rfl, rfl, rfl, rfl, rfl, rfl, rfl, rfl, rfl, rfl, rfl, rfl, rfl, rfl, rfl, rfl, rfl, rfl, rfl, rfl, rfl, rfl, rfl, rfl, rfl, rfl, rfl, rfl, rfl, rfl, (congrArg (fun b => some (Value.bool b)) hg30e), (congrArg (fun b => some (Value.bool b)) hg30e), rfl, rfl, rfl, rfl, rfl, (congrArg (fun b => some (Value.bool b)) hg30e), (congrArg (fun b => some (Value.bool b)) hg30e), trivial⟩) rfl ?_
 refine G.skipG rfl rfl rfl rfl rfl rfl (G.skipG rfl rfl rfl rfl rfl rfl (G.skipG rfl rfl rfl rfl rfl rfl (G.skipG rfl rfl rfl rfl rfl rfl (G.skipG rfl rfl rfl rfl rfl rfl (G.skipG rfl rfl rfl rfl rfl rfl (G.skipG rfl rfl rfl rfl rfl rfl ?_))))))
 refine G.stepD (OD.pickF rfl rfl rfl) rfl rfl rfl ?_
 refine G.stepD (OD.move rfl rfl) rfl rfl rfl ?_
 refine G.stepGD (OD.move rfl rfl) rfl rfl rfl rfl rfl ?_
 refine G.stepGD (OD.move rfl rfl) rfl rfl rfl rfl rfl ?_
 refine G.skipG rfl rfl rfl rfl rfl rfl (G.skipG rfl rfl rfl rfl rfl rfl (G.skipG rfl rfl rfl rfl rfl rfl (G.skipG rfl rfl rfl rfl rfl rfl (G.skipG rfl rfl rfl rfl rfl rfl (G.skipG rfl rfl rfl rfl rfl rfl ?_)))))
 refine G.stepGD (OD.pickF rfl rfl rfl) rfl rfl rfl rfl rfl ?_
 refine G.stepD (OD.pickF rfl rfl rfl) rfl rfl rfl ?_
 refine G.nil (GE.then_ (GC.condF rfl (GC.skip (GE.then_ (GC.seq ?_)))))
 refine GC.at [] 0 (env' := [(3, .pointer (some ⟨g18, 0, none⟩)), (4, v3), (5, v4), (10, .bool false)]) ⟨rfl, rfl, rfl, rfl, trivial⟩ rfl ?_
 refine GC.par (its := [⟨91, [], [], [], [], fun _ => .agg #[.int .i64 (cr), v2], fun _ => True, fun _ => []⟩,
     ⟨92, [], [], [], [], fun _ => .agg #[.int .i64 (cr), v2], fun _ => True, fun _ => []⟩,
     ⟨93, [], [], [], [], fun _ => v3, fun _ => True, fun _ => []⟩,
     ⟨94, [(1, 92), (2, 93)], [], [], [3], fun ds => ((ds.getD 0 []).getD 0 undef), fun ds => IsS ((ds.getD 0 []).getD 0 undef), fun ds => [ints 3 ((ds.getD 0 []).getD 0 undef) (ivOf cr cd u7)]⟩,
     ⟨95, [], [], [], [], fun _ => .agg #[.int .i64 (cr), v2], fun _ => True, fun _ => []⟩,
     ⟨96, [], [], [], [], fun _ => v4, fun _ => True, fun _ => []⟩,
     ⟨97, [(4, 95), (5, 96)], [], [], [6], fun ds => ((ds.getD 0 []).getD 0 undef), fun ds => IsS ((ds.getD 0 []).getD 0 undef), fun ds => [ints 3 ((ds.getD 0 []).getD 0 undef) (ivOf cr cd u8)]⟩,
     ⟨98, [(0, 91), (3, 94), (6, 97)], [3, 6], [], [3, 6], fun _ => .bool (isbOf cr cd (ivOf cr cd u7) (ivOf cr cd u8)), fun _ => True, fun _ => []⟩,
     ⟨99, [], [], [], [], fun _ => .bool false, fun _ => True, fun _ => []⟩,
     ⟨100, [(7, 98), (8, 99)], [3, 6], [], [3, 6], fun _ => .bool true, fun _ => True, fun _ => []⟩]) (by kernel_rfl) (by kernel_rfl) (POps.cons ?_ (POps.cons ?_ (POps.cons ?_ (POps.cons ?_ (POps.cons ?_ (POps.cons ?_ (POps.cons ?_ (POps.cons ?_ (POps.cons ?_ (POps.cons ?_ POps.nil)))))))))) ?_
 intro θ R hd
 exact Opp.plain (OG.imp (OD.loadAgg rfl ti27 rfl (i := 2) rfl (us := [.int .i64 (cr), v2]) rfl rfl) (by rintro _ _ ⟨rfl, rfl⟩; exact ⟨[], rfl, trivial, rfl⟩)) rfl
 intro θ R hd
 exact Opp.plain (OG.imp (OD.loadAgg rfl ti27 rfl (i := 2) rfl (us := [.int .i64 (cr), v2]) rfl rfl) (by rintro _ _ ⟨rfl, rfl⟩; exact ⟨[], rfl, trivial, rfl⟩)) rfl
 intro θ R hd
 exact Opp.plain (OG.imp (OD.move rfl rfl) (by rintro _ _ ⟨rfl, rfl⟩; exact ⟨[], rfl, trivial, rfl⟩)) rfl
 intro θ R hd
 obtain ⟨h1d, h2d, _⟩ := hd
 exact Opp.plain (OG.imp (OG.call [.agg #[.int .i64 (cr), v2], v3] ent24 rfl rfl rfl rfl (by exact (inverseWord_w hs10 (Ent.ints (i := 3) rfl) hs11 (Ent.ints (i := 4) rfl) (hl0) (by omega) ((Ent.drop 7 hg.app))))) (by rintro v41 _ ⟨_, rfl, hs42, rfl⟩; exact ⟨[v41], rfl, hs42, rfl⟩)) rfl
 intro θ R hd
 exact Opp.plain (OG.imp (OD.loadAgg rfl ti27 rfl (i := 2) rfl (us := [.int .i64 (cr), v2]) rfl rfl) (by rintro _ _ ⟨rfl, rfl⟩; exact ⟨[], rfl, trivial, rfl⟩)) rfl
 intro θ R hd
 exact Opp.plain (OG.imp (OD.move rfl rfl) (by rintro _ _ ⟨rfl, rfl⟩; exact ⟨[], rfl, trivial, rfl⟩)) rfl
 intro θ R hd
 obtain ⟨h4d, h5d, _⟩ := hd
 exact Opp.plain (OG.imp (OG.call [.agg #[.int .i64 (cr), v2], v4] ent24 rfl rfl rfl rfl (by exact (inverseWord_w hs10 (Ent.ints (i := 3) rfl) hs12 (Ent.ints (i := 5) rfl) (hl0) (by omega) ((Ent.drop 7 hg.app))))) (by rintro v43 _ ⟨_, rfl, hs44, rfl⟩; exact ⟨[v43], rfl, hs44, rfl⟩)) rfl
 intro θ R hd
 obtain ⟨h0d, h3d, h6d, _⟩ := hd
 exact Opp.plain (OG.imp (OG.call [.agg #[.int .i64 (cr), v2], ((θ 3).getD 0 undef), ((θ 6).getD 0 undef)] ent16 rfl rfl rfl rfl (by exact (isBelow_w hs10 (Ent.ints (i := 5) rfl) h3d (Ent.ints (i := 0) rfl) h6d (Ent.ints (i := 1) rfl) (hl0) (by first | omega | exact Nat.zero_le _ | (have h8 := ivOf_len cr cd u7; omega)) (by first | omega | (have h8 := ivOf_len cr cd u8; omega)) ((Ent.drop 9 hg.app)) ((Ent.drop 9 htab.app))))) (by rintro _ _ ⟨rfl, rfl⟩; exact ⟨[], rfl, trivial, (by first | exact left_all | rfl)⟩)) rfl
 intro θ R hd
 exact Opp.plain (OG.imp (OD.move rfl rfl) (by rintro _ _ ⟨rfl, rfl⟩; exact ⟨[], rfl, trivial, rfl⟩)) rfl
 intro θ R hd
 obtain ⟨h7d, h8d, _⟩ := hd
 exact Opp.plain (OG.imp (OD.eqv (OD.eqlB bt4 rfl rfl rfl) (congrArg Value.bool ((by rw [hL.inv]; first | (rw [show isbOf cr cd u7 u8 = true from by assumption]; rfl) | (rw [show isbOf cr cd u7 u8 = false from by assumption]; rfl)) : _ = true))) (by rintro _ _ ⟨rfl, rfl⟩; exact ⟨[], rfl, trivial, (by first | exact left_all | rfl)⟩)) rfl
 intro θ hall
 obtain ⟨_, _, _, h3a, _, _, h6a, _, _, _, _⟩ := hall
 refine G.at [] 0 (env' := [(100, .bool true)]) ⟨rfl, trivial⟩ (own' := ints 3 ((θ 3).getD 0 undef) (ivOf cr cd u7) :: ints 3 ((θ 6).getD 0 undef) (ivOf cr cd u8) :: ints 3 w ys :: ints 3 v19 (nwOf cr cd u8) :: box g18 27 [.int .i64 (cr), v2] :: ints 3 v2 cd :: ints 3 v3 u7 :: ints 3 v4 u8 :: ints 3 v5 u9 :: own) rfl ?_
 have hs45 : IsS ((θ 3).getD 0 undef) := h3a
 clear h3a
 generalize ((θ 3).getD 0 undef) = v46 at *
 have hs47 : IsS ((θ 6).getD 0 undef) := h6a
 clear h6a
 generalize ((θ 6).getD 0 undef) = v48 at *
 show G _ _ _ [_] _ _ _ _
 refine G.stepD (OD.assign rfl rfl) rfl rfl rfl ?_
 refine G.nil (GE.then_ (GC.ret ?_))
 exact GE.body [] 9 (res1 rfl rfl) rfl (⟨rfl, rfl⟩)
end Go.Proofs.YtgelkakjmbiibaaGreatDoor
