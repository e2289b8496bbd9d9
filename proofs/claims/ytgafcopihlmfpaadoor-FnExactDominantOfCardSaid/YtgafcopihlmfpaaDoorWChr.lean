/-
  Characters: the helpers of the laws on slices of structs, CharacterOk, DimensionOf, and the laws on them.
-/
import Derived.Test.YtgafcopihlmfpaaDoorWWgt
import Derived.Test.YtgafcopihlmfpaaDoorChr
namespace Go.Proofs.YtgafcopihlmfpaaDoor
set_option linter.unusedVariables false
set_option linter.unusedSimpArgs false
open Go.RowKit

theorem ti54 : TI Tryd.prog 54 true 2 (.agg #[.slice none 0 0, .int .i64 (0)]) [(0, 1), (1, 1)] := ⟨fun w => by kernel_rfl, by kernel_rfl, fun _ => ⟨_, Tryd.underlying54, fun w => by kernel_rfl⟩⟩
theorem ti56 : TI Tryd.prog 56 true 2 (.agg #[.slice none 0 0, .int .i64 (0)]) [(0, 1), (1, 1)] := ⟨fun w => by kernel_rfl, by kernel_rfl, fun _ => ⟨_, Tryd.underlying56, fun w => by kernel_rfl⟩⟩
theorem et33 : ET Tryd.prog 33 54 2 32 (.agg #[.slice none 0 0, .int .i64 (0)]) := ⟨Tryd.underlying33, by kernel_rfl, rfl, by omega⟩
theorem et36 : ET Tryd.prog 36 56 2 32 (.agg #[.slice none 0 0, .int .i64 (0)]) := ⟨Tryd.underlying36, by kernel_rfl, rfl, by omega⟩
theorem fa54_0 : ∀ (b k : Nat) w, (Instr.fieldAt 54 (.pointer (some ⟨b, k, none⟩)) 0).run Tryd.prog w = .ok (.pointer (some ⟨b, k + 0, none⟩)) w := fun b k w => by kernel_rfl
theorem fa54_1 : ∀ (b k : Nat) w, (Instr.fieldAt 54 (.pointer (some ⟨b, k, none⟩)) 1).run Tryd.prog w = .ok (.pointer (some ⟨b, k + 1, none⟩)) w := fun b k w => by kernel_rfl
theorem fa56_0 : ∀ (b k : Nat) w, (Instr.fieldAt 56 (.pointer (some ⟨b, k, none⟩)) 0).run Tryd.prog w = .ok (.pointer (some ⟨b, k + 0, none⟩)) w := fun b k w => by kernel_rfl
theorem fa56_1 : ∀ (b k : Nat) w, (Instr.fieldAt 56 (.pointer (some ⟨b, k, none⟩)) 1).run Tryd.prog w = .ok (.pointer (some ⟨b, k + 1, none⟩)) w := fun b k w => by kernel_rfl
theorem ent12 : ∀ us w, (callFunc 12 us).run Tryd.prog w = .ok (.enter 12 us) w := fun us w => by kernel_rfl
theorem ent14 : ∀ us w, (callFunc 14 us).run Tryd.prog w = .ok (.enter 14 us) w := fun us w => by kernel_rfl
theorem ent17 : ∀ us w, (callFunc 17 us).run Tryd.prog w = .ok (.enter 17 us) w := fun us w => by kernel_rfl
theorem ent19 : ∀ us w, (callFunc 19 us).run Tryd.prog w = .ok (.enter 19 us) w := fun us w => by kernel_rfl
theorem ent20 : ∀ us w, (callFunc 20 us).run Tryd.prog w = .ok (.enter 20 us) w := fun us w => by kernel_rfl
theorem ent21 : ∀ us w, (callFunc 21 us).run Tryd.prog w = .ok (.enter 21 us) w := fun us w => by kernel_rfl
theorem ent22 : ∀ us w, (callFunc 22 us).run Tryd.prog w = .ok (.enter 22 us) w := fun us w => by kernel_rfl
theorem ent23 : ∀ us w, (callFunc 23 us).run Tryd.prog w = .ok (.enter 23 us) w := fun us w => by kernel_rfl
theorem ent29 : ∀ us w, (callFunc 29 us).run Tryd.prog w = .ok (.enter 29 us) w := fun us w => by kernel_rfl
theorem ent30 : ∀ us w, (callFunc 30 us).run Tryd.prog w = .ok (.enter 30 us) w := fun us w => by kernel_rfl
theorem ent50 : ∀ us w, (callFunc 50 us).run Tryd.prog w = .ok (.enter 50 us) w := fun us w => by kernel_rfl
theorem ent52 : ∀ us w, (callFunc 52 us).run Tryd.prog w = .ok (.enter 52 us) w := fun us w => by kernel_rfl
theorem ent53 : ∀ us w, (callFunc 53 us).run Tryd.prog w = .ok (.enter 53 us) w := fun us w => by kernel_rfl
theorem ent55 : ∀ us w, (callFunc 55 us).run Tryd.prog w = .ok (.enter 55 us) w := fun us w => by kernel_rfl
theorem ent57 : ∀ us w, (callFunc 57 us).run Tryd.prog w = .ok (.enter 57 us) w := fun us w => by kernel_rfl
theorem ent58 : ∀ us w, (callFunc 58 us).run Tryd.prog w = .ok (.enter 58 us) w := fun us w => by kernel_rfl
theorem ent61 : ∀ us w, (callFunc 61 us).run Tryd.prog w = .ok (.enter 61 us) w := fun us w => by kernel_rfl
theorem ent62 : ∀ us w, (callFunc 62 us).run Tryd.prog w = .ok (.enter 62 us) w := fun us w => by kernel_rfl
theorem ent72 : ∀ us w, (callFunc 72 us).run Tryd.prog w = .ok (.enter 72 us) w := fun us w => by kernel_rfl
theorem ent86 : ∀ us w, (callFunc 86 us).run Tryd.prog w = .ok (.enter 86 us) w := fun us w => by kernel_rfl
theorem ent90 : ∀ us w, (callFunc 90 us).run Tryd.prog w = .ok (.enter 90 us) w := fun us w => by kernel_rfl
theorem ent112 : ∀ us w, (callFunc 112 us).run Tryd.prog w = .ok (.enter 112 us) w := fun us w => by kernel_rfl
theorem bt4 : BT Tryd.prog 4 := ⟨fun a b w => by cases a <;> cases b <;> kernel_rfl, fun a b w => by cases a <;> cases b <;> kernel_rfl⟩

set_option maxRecDepth 100000 in
theorem szTerm_s {W : World} {own : List Asn} {vaw : Value} {aw : List Int} {ak : Int} {q : Int}  (saw : IsS vaw) (eaw : Ent own fun w => Ints w vaw aw)   (hq : 0 ≤ q ∧ q ≤ 1048576) (hl : aw.length ≤ 9223372036854775807) : Spec Tryd.prog 50 [.agg #[vaw, .int .i64 (ak)], .int .i64 (q)] W own (fun v ow => v = .int .i64 (szG aw.length q) ∧ ow = own) := by
 refine Spec.enter Tryd.f50 _ Tryd.func50 rfl (n := 12) rfl rfl ?_
 refine GC.seq (GC.region ?_)
 refine G.step (OG.box (cs := [vaw, .int .i64 (ak)]) rfl rfl rfl) rfl rfl rfl ?_
 rintro _ _ ⟨g1, rfl, rfl⟩
 refine G.stepD (OD.assign rfl rfl) rfl rfl rfl ?_
 refine G.nil (GE.then_ (GC.seq (GC.region ?_)))
 refine G.stepD (OD.fieldAddr rfl rfl fa54_0) rfl rfl rfl ?_
 refine G.stepD (OD.load rfl ti22 rfl (i := 0) rfl rfl) rfl rfl rfl ?_
 refine G.stepD (OD.move rfl rfl) rfl rfl rfl ?_
 refine G.step (OG.call [vaw, .int .i64 (q)] ent41 rfl rfl rfl rfl (by exact (szIntS_s saw (Ent.drop 1 eaw) (by omega) (by omega)))) rfl rfl rfl ?_
 rintro _ _ ⟨rfl, rfl⟩
 refine G.stepD (OD.assign rfl rfl) rfl rfl rfl ?_
 refine G.nil (GE.then_ (GC.seq (GC.seq (GC.region ?_))))
 refine G.stepD (OD.move rfl rfl) rfl rfl rfl ?_
 refine G.stepD (OD.lss rfl rfl rfl) rfl rfl rfl ?_
 refine G.nil (GE.then_ ?_)
 refine GC.cond rfl (fun hc2 => ?_) (fun hc2 => ?_)
 replace hc2 := of_decide_eq_true hc2
 refine GC.seq (GC.region ?_)
 refine G.stepD (OD.assign rfl rfl) rfl rfl rfl ?_
 refine G.nil (GE.then_ (GC.ret (GE.passR ?_)))
 exact GE.body [] 1 (res1 rfl rfl) rfl (⟨congrArg (fun (a0 : Int) => (.int .i64 (a0) : Value)) (((szG_no (by assumption)).symm : (-1 : Int) = szG aw.length q)), rfl⟩)
 replace hc2 := of_decide_eq_false hc2
 refine GC.skip (GE.then_ (GC.seq (GC.region ?_)))
 refine G.stepD (OD.move rfl rfl) rfl rfl rfl ?_
 refine G.stepD (OD.assign rfl rfl) rfl rfl rfl ?_
 refine G.nil (GE.then_ (GC.ret ?_))
 exact GE.body [] 1 (res1 rfl rfl) rfl (⟨rfl, rfl⟩)

set_option maxRecDepth 100000 in
theorem szTermS_s {W : World} {own : List Asn} {vx : Value} {ux : List Value} {x : List Rec} {q : Int}  (sx : IsS vx) (ex : Ent own fun w => Recs w vx ux x) (mx : ∀ k, k < x.length → Ent own fun w => Ints w (ux.getD k undef) (x.getD k ([], 0)).1) (lx : ux.length = x.length) (ax : AllS ux)   (hq : 0 ≤ q ∧ q ≤ 1048576) (hlx : x.length ≤ 9223372036854775807) (hle : ∀ r ∈ x, r.1.length ≤ 9223372036854775807) : Spec Tryd.prog 19 [vx, .int .i64 (q)] W own (fun v ow => v = .int .i64 (szR x q) ∧ ow = own) := by
 refine Spec.enter Tryd.f19 _ Tryd.func19 rfl (n := 27) rfl rfl ?_
 refine GC.seq (GC.region ?_)
 refine G.stepD (OD.assign rfl rfl) rfl rfl rfl ?_
 refine G.nil (GE.then_ (GC.seq (GC.region ?_)))
 refine G.stepD (OD.move rfl rfl) rfl rfl rfl ?_
 refine G.stepD (OD.move rfl rfl) rfl rfl rfl ?_
 refine G.stepD (OD.len rfl rfl et33 rfl ex) rfl rfl rfl ?_
 refine G.stepD (OD.subI rfl rfl rfl (by omega)) rfl rfl rfl ?_
 refine G.stepD (OD.assign rfl rfl) rfl rfl rfl ?_
 refine G.nil (GE.then_ (GC.seq (GC.seq (GC.region ?_))))
 refine G.stepD (OD.move rfl rfl) rfl rfl rfl ?_
 refine G.stepD (OD.lss rfl rfl rfl) rfl rfl rfl ?_
 refine G.nil (GE.then_ ?_)
 refine GC.cond rfl (fun hc1 => ?_) (fun hc1 => ?_)
 replace hc1 := of_decide_eq_true hc1
 refine GC.seq (GC.region ?_)
 refine G.stepD (OD.assign rfl rfl) rfl rfl rfl ?_
 refine G.nil (GE.then_ (GC.ret (GE.passR ?_)))
 exact GE.body [] 0 (res1 rfl rfl) rfl (⟨congrArg (fun (a0 : Int) => (.int .i64 (a0) : Value)) ((by rw [szR, if_pos hc1] : (-1 : Int) = szR x q)), rfl⟩)
 replace hc1 := of_decide_eq_false hc1
 refine GC.skip (GE.then_ (GC.seq (GC.seq (GC.region ?_))))
 refine G.stepD (OD.assign rfl rfl) rfl rfl rfl ?_
 refine G.nil (GE.then_ (GC.block ?_))
 refine GC.loop (ι := Nat × Int) (fun ⟨k, c⟩ => [(0, vx), (1, .int .i64 (c)), (5, .int .i64 ((k : Int)))]) (fun ⟨k, c⟩ => own) (fun ⟨k, c⟩ => (k ≤ x.length) ∧ (0 ≤ c ∧ c ≤ 1048576) ∧ (szL (x.drop k) c = szL x (q - x.length))) (fun ⟨k, c⟩ => x.length - k) (0, q - (x.length : Nat)) (⟨by omega, by omega, rfl⟩) ⟨rfl, rfl, rfl, trivial⟩ [] 0 rfl ?_
 rintro ⟨k, c⟩ ⟨hk, hc, hz⟩
 refine GC.seq (GC.seq (GC.region ?_))
 refine G.stepD (OD.move rfl rfl) rfl rfl rfl ?_
 refine G.stepD (OD.move rfl rfl) rfl rfl rfl ?_
 refine G.stepD (OD.len rfl rfl et33 rfl ex) rfl rfl rfl ?_
 refine G.stepD (OD.lss rfl rfl rfl) rfl rfl rfl ?_
 refine G.nil (GE.then_ ?_)
 refine GC.cond rfl (fun hc2 => ?_) (fun hc2 => ?_)
 replace hc2 := of_decide_eq_true hc2
 refine GC.skip (GE.then_ (GC.seq (GC.block (GC.seq (GC.region ?_)))))
 refine G.stepD (OD.move rfl rfl) rfl rfl rfl ?_
 refine G.stepD (OD.move rfl rfl) rfl rfl rfl ?_
 refine G.stepD (OD.indexAddr rfl et33 rfl ex rfl (by omega)) rfl rfl rfl ?_
 refine G.stepD (OD.loadRec rfl ti54 rfl ex (by omega)) rfl rfl rfl ?_
 refine G.stepD (OD.move rfl rfl) rfl rfl rfl ?_
 refine G.step (OG.call [.agg #[(ux.getD (k) undef), .int .i64 ((x.getD (k) ([], 0)).2)], .int .i64 (c)] ent50 rfl rfl rfl rfl (by exact (szTerm_s (ax.get (by omega)) ((mx (k) (by omega))) (hc) (hle _ (recD_mem (by omega)))))) rfl rfl rfl ?_
 rintro _ _ ⟨rfl, hzz⟩; obtain rfl := hzz.symm
 refine G.stepD (OD.assign rfl rfl) rfl rfl rfl ?_
 refine G.nil (GE.then_ (GC.seq (GC.region ?_)))
 refine G.stepD (OD.move rfl rfl) rfl rfl rfl ?_
 refine G.stepD (OD.lss rfl rfl rfl) rfl rfl rfl ?_
 refine G.nil (GE.then_ ?_)
 refine GC.cond rfl (fun hc3 => ?_) (fun hc3 => ?_)
 replace hc3 := of_decide_eq_true hc3
 refine GC.seq (GC.region ?_)
 refine G.stepD (OD.assign rfl rfl) rfl rfl rfl ?_
 refine G.nil (GE.then_ (GC.ret (GE.blockR (GE.passR (GE.passR (GE.blockR (GE.passR ?_)))))))
 exact GE.body [] 0 (res1 rfl rfl) rfl (⟨congrArg (fun (a0 : Int) => (.int .i64 (a0) : Value)) ((by rw [szR, if_neg (by omega)]; exact ((szL_step (by omega) hz).1 hc3).symm : (-1 : Int) = szR x q)), rfl⟩)
 replace hc3 := of_decide_eq_false hc3
 refine GC.skip (GE.blockN (GE.then_ (GC.region ?_)))
 refine G.stepD (OD.move rfl rfl) rfl rfl rfl ?_
 refine G.stepD (OD.addI rfl rfl rfl (by omega)) rfl rfl rfl ?_
 refine G.stepD (OD.assign rfl rfl) rfl rfl rfl ?_
 refine G.nil ?_
 exact GE.again (k + 1, szG ((x.getD (k) ([], 0)).1).length c) (⟨by omega, by have := szG_le (n := (x.getD k ([], 0)).1.length) hc.1; omega, (szL_step (by omega) hz).2 hc3⟩) (by first | omega | (dsimp only; omega)) ⟨rfl, rfl, rfl, trivial⟩ [] 0 rfl
 replace hc2 := of_decide_eq_false hc2
 refine GC.exit (GE.pass (GE.pass (GE.hit (GE.then_ (GC.seq (GC.region ?_))))))
 refine G.stepD (OD.move rfl rfl) rfl rfl rfl ?_
 refine G.stepD (OD.assign rfl rfl) rfl rfl rfl ?_
 refine G.nil (GE.then_ (GC.ret ?_))
 exact GE.body [] 0 (res1 rfl rfl) rfl (⟨congrArg (fun (a0 : Int) => (.int .i64 (a0) : Value)) ((by rw [szR, if_neg (by omega)]; exact szL_end (by omega) hz : (c : Int) = szR x q)), rfl⟩)

set_option maxRecDepth 100000 in
theorem toTerm_s {W : World} {own : List Asn} {vaw : Value} {aw : List Int} {ak : Int}  (saw : IsS vaw) (eaw : Ent own fun w => Ints w vaw aw)   (hl : aw.length ≤ 1073741824) : Spec Tryd.prog 53 [.agg #[vaw, .int .i64 (ak)]] W own (fun v ow => ∃ (r0 : Value), v = .agg #[r0, .int .i64 (ak)] ∧ IsS r0 ∧ ow = ints 3 r0 aw :: own) := by
 refine Spec.enter Tryd.f53 _ Tryd.func53 rfl (n := 12) rfl rfl ?_
 refine GC.seq (GC.region ?_)
 refine G.step (OG.box (cs := [vaw, .int .i64 (ak)]) rfl rfl rfl) rfl rfl rfl ?_
 rintro _ _ ⟨g1, rfl, rfl⟩
 refine G.step (OG.alloc rfl ti56 (zs := [.slice none 0 0, .int .i64 (0)]) rfl) rfl rfl rfl ?_
 rintro _ _ ⟨g2, rfl, rfl⟩
 refine G.nil (GE.then_ (GC.seq (GC.region ?_)))
 refine G.step (OG.alloc rfl ti56 (zs := [.slice none 0 0, .int .i64 (0)]) rfl) rfl rfl rfl ?_
 rintro _ _ ⟨g3, rfl, rfl⟩
 refine G.nil (GE.then_ (GC.seq (GC.region ?_)))
 refine G.stepD (OD.fieldAddr rfl rfl fa54_0) rfl rfl rfl ?_
 refine G.stepD (OD.load rfl ti22 rfl (i := 2) rfl rfl) rfl rfl rfl ?_
 refine G.step (OG.call [vaw] ent15 rfl rfl rfl rfl (by exact (toIntS_s saw (Ent.drop 3 eaw) (by omega)))) rfl rfl rfl ?_
 rintro v4 _ ⟨_, rfl, hs5, rfl⟩
 refine G.stepD (OD.fieldAddr rfl rfl fa56_0) rfl rfl rfl ?_
 refine G.stepD0 (OD.store rfl ti22 rfl rfl (us := [v4]) (one_cells (IsS.one hs5)) rfl (allC (IsS.one hs5) rfl) (i := 1) rfl rfl) rfl rfl ?_
 refine G.nil (GE.then_ (GC.seq (GC.region ?_)))
 refine G.stepD (OD.fieldAddr rfl rfl fa54_1) rfl rfl rfl ?_
 refine G.stepD (OD.load rfl ti3 rfl (i := 3) rfl rfl) rfl rfl rfl ?_
 refine G.stepD (OD.fieldAddr rfl rfl fa56_1) rfl rfl rfl ?_
 refine G.stepD0 (OD.store rfl ti3 rfl rfl (us := [.int .i64 (ak)]) rfl rfl rfl (i := 1) rfl rfl) rfl rfl ?_
 refine G.nil (GE.then_ (GC.seq (GC.region ?_)))
 refine G.stepD (OD.loadAgg rfl ti56 rfl (i := 1) rfl (us := [v4, .int .i64 (ak)]) rfl rfl) rfl rfl rfl ?_
 refine G.stepD0 (OD.store rfl ti56 rfl rfl (us := [v4, .int .i64 (ak)]) rfl rfl (allC (IsS.one hs5) (allC rfl rfl)) (i := 2) rfl rfl) rfl rfl ?_
 refine G.nil (GE.then_ (GC.ret ?_))
 exact GE.body [0] 3 (resN rfl (RVs.cons (rv_cells ti56 rfl (i := 2) rfl rfl) RVs.nil) rfl) rfl (⟨v4, rfl, hs5, rfl⟩)

set_option maxRecDepth 100000 in
theorem toTermS_s {W : World} {own : List Asn} {vx : Value} {ux : List Value} {x : List Rec}  (sx : IsS vx) (ex : Ent own fun w => Recs w vx ux x) (mx : ∀ k, k < x.length → Ent own fun w => Ints w (ux.getD k undef) (x.getD k ([], 0)).1) (lx : ux.length = x.length) (ax : AllS ux)  (hlx : x.length ≤ 1073741824) (hle : ∀ r ∈ x, r.1.length ≤ 1073741824) : Spec Tryd.prog 21 [vx] W own (fun v ow => ∃ (r0 : Value) (u0 : List Value), v = r0 ∧ IsS r0 ∧ AllS u0 ∧ u0.length = x.length ∧ ow = recs 56 r0 u0 x :: many (recI 3) u0 x :: own) := by
 have hxt : ∀ k, (x.take k).length ≤ x.length := fun k => by simp; omega
 refine Spec.enter Tryd.f21 _ Tryd.func21 rfl (n := 23) rfl rfl ?_
 refine GC.seq (GC.region ?_)
 refine G.stepD (OD.assign rfl rfl) rfl rfl rfl ?_
 refine G.nil (GE.then_ (GC.seq (GC.region ?_)))
 refine G.stepD (OD.move rfl rfl) rfl rfl rfl ?_
 refine G.stepD (OD.len rfl rfl et33 rfl ex) rfl rfl rfl ?_
 refine G.step (OG.makeRecs rfl et36 rfl rfl (by omega) (by omega) (by simp only [maxLen]; omega)) rfl rfl rfl ?_
 rintro v1 _ ⟨hs2, rfl⟩
 refine G.stepD (OD.assign rfl rfl) rfl rfl rfl ?_
 refine G.nil (GE.then_ (GC.seq (GC.seq (GC.region ?_))))
 refine G.stepD (OD.assign rfl rfl) rfl rfl rfl ?_
 refine G.nil (GE.then_ (GC.block ?_))
 refine GC.many0 (recI 3) ?_
 refine GC.loop (ι := Nat × List Value) (fun ⟨k, us⟩ => [(0, vx), (3, v1), (4, .int .i64 ((k : Int)))]) (fun ⟨k, us⟩ => many (recI 3) us (x.take k) :: recp 56 v1 us (x.take k) (((x.length : Nat) : Int).toNat) :: own) (fun ⟨k, us⟩ => (k ≤ x.length) ∧ (us.length = k) ∧ (AllS us)) (fun ⟨k, us⟩ => x.length - k) (0, []) (⟨by omega, rfl, AllS.nil⟩) ⟨rfl, rfl, rfl, trivial⟩ [] 0 rfl ?_
 rintro ⟨k, us⟩ ⟨hk, hul, hus⟩
 refine GC.seq (GC.seq (GC.region ?_))
 refine G.stepD (OD.move rfl rfl) rfl rfl rfl ?_
 refine G.stepD (OD.move rfl rfl) rfl rfl rfl ?_
 refine G.stepD (OD.len rfl rfl et33 rfl (Ent.drop 2 ex)) rfl rfl rfl ?_
 refine G.stepD (OD.lss rfl rfl rfl) rfl rfl rfl ?_
 refine G.nil (GE.then_ ?_)
 refine GC.cond rfl (fun hc3 => ?_) (fun hc3 => ?_)
 replace hc3 := of_decide_eq_true hc3
 refine GC.skip (GE.then_ (GC.seq (GC.block (GC.region ?_))))
 refine G.stepD (OD.move rfl rfl) rfl rfl rfl ?_
 refine G.stepD (OD.move rfl rfl) rfl rfl rfl ?_
 refine G.stepD (OD.move rfl rfl) rfl rfl rfl ?_
 refine G.stepD (OD.move rfl rfl) rfl rfl rfl ?_
 refine G.stepD (OD.indexAddr rfl et33 rfl (Ent.drop 2 ex) rfl (by omega)) rfl rfl rfl ?_
 refine G.stepD (OD.loadRec rfl ti54 rfl (Ent.drop 2 ex) (by omega)) rfl rfl rfl ?_
 refine G.step (OG.call [.agg #[(ux.getD (k) undef), .int .i64 ((x.getD (k) ([], 0)).2)]] ent53 rfl rfl rfl rfl (by exact (toTerm_s (ax.get (by omega)) (Ent.drop 2 (mx (k) (by omega))) (hle _ (recD_mem (by omega)))))) rfl rfl rfl ?_
 rintro _ _ ⟨v4, rfl, hs5, rfl⟩
 refine G.stepD (OD.indexAddr rfl et36 rfl (Ent.recp (i := 2) rfl) rfl (by omega)) rfl rfl rfl ?_
 refine G.stepD0 (OD.storeRec ((x.getD (k) ([], 0)).1) rfl ti56 rfl rfl hs5 (i := 2) rfl (by first | omega | (simp; omega)) (by first | omega | (simp; omega)) (by first | omega | (simp; omega))) rfl rfl ?_
 refine G.nil (GE.blockN (GE.then_ (GC.region ?_)))
 refine G.stepD (OD.move rfl rfl) rfl rfl rfl ?_
 refine G.stepD (OD.addI rfl rfl rfl (by omega)) rfl rfl rfl ?_
 refine G.stepD (OD.assign rfl rfl) rfl rfl rfl ?_
 refine G.nil ?_
 refine GE.at [0, 0, 0] 0 (env' := [(0, vx), (3, v1), (8, .int .i64 ((k : Int))), (9, vx), (10, .int .i64 ((x.length : Nat))), (11, .bool (decide ((k : Int) < (x.length : Nat)))), (14, v1), (15, .int .i64 ((k : Int))), (16, vx), (17, .int .i64 ((k : Int))), (18, elemPtr vx 2 (k)), (19, .agg #[(ux.getD (k) undef), .int .i64 ((x.getD (k) ([], 0)).2)]), (20, .agg #[v4, .int .i64 ((x.getD (k) ([], 0)).2)]), (21, elemPtr v1 2 (k)), (12, .int .i64 ((k : Int))), (13, .int .i64 ((k : Int) + 1)), (4, .int .i64 ((k : Int) + 1))]) ⟨rfl, rfl, rfl, rfl, rfl, rfl, rfl, rfl, rfl, rfl, rfl, rfl, rfl, rfl, rfl, rfl, rfl, trivial⟩ (own' := ints 3 v4 ((x.getD (k) ([], 0)).1) :: many (recI 3) us (x.take k) :: recp 56 v1 (us ++ [v4]) ((x.take k) ++ [((x.getD (k) ([], 0)).1, (x.getD (k) ([], 0)).2)]) (((x.length : Nat) : Int).toNat) :: own) rfl ?_
 refine GE.manyPush (A := recI 3) (x := ((x.getD (k) ([], 0)).1, (x.getD (k) ([], 0)).2)) (by simp; omega) ?_
 refine GE.ownEq (own' := many (recI 3) (us ++ [v4]) (x.take (k + 1)) :: recp 56 v1 (us ++ [v4]) (x.take (k + 1)) (((x.length : Nat) : Int).toNat) :: own) (by rw [rec_take (by omega)]) ?_
 exact GE.again (k + 1, us ++ [v4]) (⟨by omega, by rw [List.length_append, List.length_singleton]; omega, (hus.snoc hs5)⟩) (by first | omega | (dsimp only; omega)) ⟨rfl, rfl, rfl, trivial⟩ [] 0 rfl
 replace hc3 := of_decide_eq_false hc3
 refine GC.exit (GE.pass (GE.pass (GE.hit (GE.then_ (GC.seq (GC.region ?_))))))
 refine G.stepD (OD.move rfl rfl) rfl rfl rfl ?_
 refine G.stepD (OD.assign rfl rfl) rfl rfl rfl ?_
 refine G.nil (GE.then_ (GC.ret ?_))
 have hkx : k = x.length := by omega
 have htk : x.take k = x := List.take_of_length_le (by omega)
 have hulx : us.length = x.length := by omega
 refine GE.ownEq (own' := many (recI 3) us x :: recs 56 v1 us x :: own) (by dsimp only; rw [htk, recp_full (by simp)]) ?_
 skip
 exact GE.body [1, 0] 0 (res1 rfl rfl) rfl (⟨v1, us, rfl, hs2, hus, hulx, rfl⟩)

set_option maxRecDepth 100000 in
theorem eqTerm_same {W : World} {own : List Asn} {vaw : Value} {aw : List Int} {ak : Int} {vbw : Value}  (saw : IsS vaw) (eaw : Ent own fun w => Ints w vaw aw)   (sbw : IsS vbw) (ebw : Ent own fun w => Ints w vbw aw)   (hl : aw.length ≤ 9223372036854775807) : Spec Tryd.prog 58 [.agg #[vaw, .int .i64 (ak)], .agg #[vbw, .int .i64 (ak)]] W own (fun v ow => v = .bool (true) ∧ ow = own) := by
 refine Spec.enter Tryd.f58 _ Tryd.func58 rfl (n := 16) rfl rfl ?_
 refine GC.seq (GC.region ?_)
 refine G.step (OG.box (cs := [vaw, .int .i64 (ak)]) rfl rfl rfl) rfl rfl rfl ?_
 rintro _ _ ⟨g1, rfl, rfl⟩
 refine G.step (OG.box (cs := [vbw, .int .i64 (ak)]) rfl rfl rfl) rfl rfl rfl ?_
 rintro _ _ ⟨g2, rfl, rfl⟩
 refine G.stepD (OD.assign rfl rfl) rfl rfl rfl ?_
 refine G.nil (GE.then_ (GC.seq (GC.seq (GC.region ?_))))
 refine G.stepD (OD.fieldAddr rfl rfl fa56_0) rfl rfl rfl ?_
 refine G.stepD (OD.load rfl ti22 rfl (i := 1) rfl rfl) rfl rfl rfl ?_
 refine G.stepD (OD.fieldAddr rfl rfl fa56_0) rfl rfl rfl ?_
 refine G.stepD (OD.load rfl ti22 rfl (i := 0) rfl rfl) rfl rfl rfl ?_
 refine G.step (OG.call [vaw, vbw] ent18 rfl rfl rfl rfl (by exact (eqIntS_same saw (Ent.drop 2 eaw) sbw (Ent.drop 2 ebw) (by omega)))) rfl rfl rfl ?_
 rintro _ _ ⟨rfl, rfl⟩
 refine G.stepD (OD.not rfl rfl) rfl rfl rfl ?_
 refine G.nil (GE.then_ (GC.condF rfl (GC.skip (GE.then_ (GC.seq (GC.seq (GC.region ?_)))))))
 refine G.stepD (OD.fieldAddr rfl rfl fa56_1) rfl rfl rfl ?_
 refine G.stepD (OD.load rfl ti3 rfl (i := 1) rfl rfl) rfl rfl rfl ?_
 refine G.stepD (OD.fieldAddr rfl rfl fa56_1) rfl rfl rfl ?_
 refine G.stepD (OD.load rfl ti3 rfl (i := 0) rfl rfl) rfl rfl rfl ?_
 refine G.stepD (OD.eqv (OD.neq rfl rfl rfl) (congrArg Value.bool ((bne_same _) : _ = false))) rfl rfl rfl ?_
 refine G.nil (GE.then_ (GC.condF rfl (GC.skip (GE.then_ (GC.seq (GC.region ?_))))))
 refine G.stepD (OD.assign rfl rfl) rfl rfl rfl ?_
 refine G.nil (GE.then_ (GC.ret ?_))
 exact GE.body [] 2 (res1 rfl rfl) rfl (⟨rfl, rfl⟩)

set_option maxRecDepth 100000 in
theorem eqTermS_same {W : World} {own : List Asn} {vx : Value} {ux : List Value} {x : List Rec} {vy : Value} {uy : List Value}  (sx : IsS vx) (ex : Ent own fun w => Recs w vx ux x) (mx : ∀ k, k < x.length → Ent own fun w => Ints w (ux.getD k undef) (x.getD k ([], 0)).1) (lx : ux.length = x.length) (ax : AllS ux)   (sy : IsS vy) (ey : Ent own fun w => Recs w vy uy x) (my : ∀ k, k < x.length → Ent own fun w => Ints w (uy.getD k undef) (x.getD k ([], 0)).1) (ly : uy.length = x.length) (ay : AllS uy)  (hlx : x.length ≤ 9223372036854775807) (hle : ∀ r ∈ x, r.1.length ≤ 9223372036854775807) : Spec Tryd.prog 23 [vx, vy] W own (fun v ow => v = .bool (true) ∧ ow = own) := by
 refine Spec.enter Tryd.f23 _ Tryd.func23 rfl (n := 27) rfl rfl ?_
 refine GC.seq (GC.region ?_)
 refine G.stepD (OD.assign rfl rfl) rfl rfl rfl ?_
 refine G.nil (GE.then_ (GC.seq (GC.seq (GC.region ?_))))
 refine G.stepD (OD.move rfl rfl) rfl rfl rfl ?_
 refine G.stepD (OD.len rfl rfl et36 rfl ex) rfl rfl rfl ?_
 refine G.stepD (OD.move rfl rfl) rfl rfl rfl ?_
 refine G.stepD (OD.len rfl rfl et36 rfl ey) rfl rfl rfl ?_
 refine G.stepD (OD.eqv (OD.neq rfl rfl rfl) (congrArg Value.bool ((bne_same _) : _ = false))) rfl rfl rfl ?_
 refine G.nil (GE.then_ (GC.condF rfl (GC.skip (GE.then_ (GC.seq (GC.seq (GC.region ?_)))))))
 refine G.stepD (OD.assign rfl rfl) rfl rfl rfl ?_
 refine G.nil (GE.then_ (GC.block ?_))
 refine GC.loop (ι := Nat) (fun k => [(0, vx), (1, vy), (5, .int .i64 ((k : Int)))]) (fun k => own) (fun k => (k ≤ x.length)) (fun k => x.length - k) 0 (by omega) ⟨rfl, rfl, rfl, trivial⟩ [] 0 rfl ?_
 rintro k hk
 refine GC.seq (GC.seq (GC.region ?_))
 refine G.stepD (OD.move rfl rfl) rfl rfl rfl ?_
 refine G.stepD (OD.move rfl rfl) rfl rfl rfl ?_
 refine G.stepD (OD.len rfl rfl et36 rfl ex) rfl rfl rfl ?_
 refine G.stepD (OD.lss rfl rfl rfl) rfl rfl rfl ?_
 refine G.nil (GE.then_ ?_)
 refine GC.cond rfl (fun hc1 => ?_) (fun hc1 => ?_)
 replace hc1 := of_decide_eq_true hc1
 refine GC.skip (GE.then_ (GC.seq (GC.block (GC.seq ?_))))
 refine GC.at [] 0 (env' := [(0, vx), (1, vy), (5, .int .i64 ((k : Int)))]) ⟨rfl, rfl, rfl, trivial⟩ rfl ?_
 refine GC.par (its := [⟨17, [], [], [], [], fun _ => vx, fun _ => True, fun _ => []⟩,
     ⟨18, [], [], [], [], fun _ => .int .i64 ((k : Int)), fun _ => True, fun _ => []⟩,
     ⟨19, [(0, 17), (1, 18)], [], [], [], fun _ => elemPtr vx 2 (k), fun _ => True, fun _ => []⟩,
     ⟨20, [(2, 19)], [], [], [], fun _ => .agg #[(ux.getD (k) undef), .int .i64 ((x.getD (k) ([], 0)).2)], fun _ => True, fun _ => []⟩,
     ⟨21, [], [], [], [], fun _ => vy, fun _ => True, fun _ => []⟩,
     ⟨22, [], [], [], [], fun _ => .int .i64 ((k : Int)), fun _ => True, fun _ => []⟩,
     ⟨23, [(4, 21), (5, 22)], [], [], [], fun _ => elemPtr vy 2 (k), fun _ => True, fun _ => []⟩,
     ⟨24, [(6, 23)], [], [], [], fun _ => .agg #[(uy.getD (k) undef), .int .i64 ((x.getD (k) ([], 0)).2)], fun _ => True, fun _ => []⟩,
     ⟨25, [(3, 20), (7, 24)], [], [], [], fun _ => .bool true, fun _ => True, fun _ => []⟩,
     ⟨26, [(8, 25)], [], [], [], fun _ => .bool false, fun _ => True, fun _ => []⟩]) (by kernel_rfl) (by kernel_rfl) (POps.cons ?_ (POps.cons ?_ (POps.cons ?_ (POps.cons ?_ (POps.cons ?_ (POps.cons ?_ (POps.cons ?_ (POps.cons ?_ (POps.cons ?_ (POps.cons ?_ POps.nil)))))))))) ?_
 intro θ R hd
 exact Opp.plain (OG.imp (OD.move rfl rfl) (by rintro _ _ ⟨rfl, rfl⟩; exact ⟨[], rfl, trivial, rfl⟩)) rfl
 intro θ R hd
 exact Opp.plain (OG.imp (OD.move rfl rfl) (by rintro _ _ ⟨rfl, rfl⟩; exact ⟨[], rfl, trivial, rfl⟩)) rfl
 intro θ R hd
 obtain ⟨h0d, h1d, _⟩ := hd
 exact Opp.plain (OG.imp (OD.indexAddr rfl et36 rfl (ex.app) rfl (by omega)) (by rintro _ _ ⟨rfl, rfl⟩; exact ⟨[], rfl, trivial, rfl⟩)) rfl
 intro θ R hd
 obtain ⟨h2d, _⟩ := hd
 exact Opp.plain (OG.imp (OD.loadRec rfl ti56 rfl (ex.app) (by omega)) (by rintro _ _ ⟨rfl, rfl⟩; exact ⟨[], rfl, trivial, rfl⟩)) rfl
 intro θ R hd
 exact Opp.plain (OG.imp (OD.move rfl rfl) (by rintro _ _ ⟨rfl, rfl⟩; exact ⟨[], rfl, trivial, rfl⟩)) rfl
 intro θ R hd
 exact Opp.plain (OG.imp (OD.move rfl rfl) (by rintro _ _ ⟨rfl, rfl⟩; exact ⟨[], rfl, trivial, rfl⟩)) rfl
 intro θ R hd
 obtain ⟨h4d, h5d, _⟩ := hd
 exact Opp.plain (OG.imp (OD.indexAddr rfl et36 rfl (ey.app) rfl (by omega)) (by rintro _ _ ⟨rfl, rfl⟩; exact ⟨[], rfl, trivial, rfl⟩)) rfl
 intro θ R hd
 obtain ⟨h6d, _⟩ := hd
 exact Opp.plain (OG.imp (OD.loadRec rfl ti56 rfl (ey.app) (by omega)) (by rintro _ _ ⟨rfl, rfl⟩; exact ⟨[], rfl, trivial, rfl⟩)) rfl
 intro θ R hd
 obtain ⟨h3d, h7d, _⟩ := hd
 exact Opp.plain (OG.imp (OG.call [.agg #[(ux.getD (k) undef), .int .i64 ((x.getD (k) ([], 0)).2)], .agg #[(uy.getD (k) undef), .int .i64 ((x.getD (k) ([], 0)).2)]] ent58 rfl rfl rfl rfl (by exact (eqTerm_same (ax.get (by omega)) ((mx (k) (by omega)).app) (ay.get (by omega)) ((my (k) (by omega)).app) (hle _ (recD_mem (by omega)))))) (by rintro _ _ ⟨rfl, rfl⟩; exact ⟨[], rfl, trivial, rfl⟩)) rfl
 intro θ R hd
 obtain ⟨h8d, _⟩ := hd
 exact Opp.plain (OG.imp (OD.not rfl rfl) (by rintro _ _ ⟨rfl, rfl⟩; exact ⟨[], rfl, trivial, rfl⟩)) rfl
 intro θ hall
 obtain ⟨_, _, _, _, _, _, _, _, _, _, _⟩ := hall
 refine G.at [] 0 (env' := [(0, vx), (1, vy), (5, .int .i64 ((k : Int))), (26, .bool false)]) ⟨rfl, rfl, rfl, rfl, trivial⟩ (own' := own) rfl ?_
 show G _ _ _ [] _ _ _ _
 refine G.nil (GE.then_ (GC.condF rfl (GC.skip (GE.blockN (GE.then_ (GC.region ?_))))))
 refine G.stepD (OD.move rfl rfl) rfl rfl rfl ?_
 refine G.stepD (OD.addI rfl rfl rfl (by omega)) rfl rfl rfl ?_
 refine G.stepD (OD.assign rfl rfl) rfl rfl rfl ?_
 refine G.nil ?_
 exact GE.again (k + 1) (by omega) (by first | omega | (dsimp only; omega)) ⟨rfl, rfl, rfl, trivial⟩ [] 0 rfl
 replace hc1 := of_decide_eq_false hc1
 refine GC.exit (GE.pass (GE.pass (GE.hit (GE.then_ (GC.seq (GC.region ?_))))))
 refine G.stepD (OD.assign rfl rfl) rfl rfl rfl ?_
 refine G.nil (GE.then_ (GC.ret ?_))
 exact GE.body [] 0 (res1 rfl rfl) rfl (⟨rfl, rfl⟩)

set_option maxRecDepth 100000 in
theorem isNaN_w {W : World} {own : List Asn} {x : Int}    : Spec Tryd.prog 112 [.int .i64 (x)] W own (fun v ow => v = .bool (false) ∧ ow = own) := by
 refine Spec.enter Tryd.f112 _ Tryd.func112 rfl (n := 6) rfl rfl ?_
 refine GC.seq (GC.region ?_)
 refine G.stepD (OD.assign rfl rfl) rfl rfl rfl ?_
 refine G.nil (GE.then_ (GC.seq (GC.region ?_)))
 refine G.stepD (OD.move rfl rfl) rfl rfl rfl ?_
 refine G.stepD (OD.move rfl rfl) rfl rfl rfl ?_
 refine G.stepD (OD.eqv (OD.neq rfl rfl rfl) (congrArg Value.bool ((bne_same _) : _ = false))) rfl rfl rfl ?_
 refine G.stepD (OD.assign rfl rfl) rfl rfl rfl ?_
 refine G.nil (GE.then_ (GC.ret ?_))
 exact GE.body [] 0 (res1 rfl rfl) rfl (⟨rfl, rfl⟩)

set_option maxRecDepth 100000 in
theorem cmpI_w {W : World} {own : List Asn} {x : Int} {y : Int}    : Spec Tryd.prog 90 [.int .i64 (x), .int .i64 (y)] W own (fun v ow => v = .int .i64 (cmpI x y) ∧ ow = own) := by
 refine Spec.enter Tryd.f90 _ Tryd.func90 rfl (n := 20) rfl rfl ?_
 refine GC.seq (GC.region ?_)
 refine G.stepD (OD.assign rfl rfl) rfl rfl rfl ?_
 refine G.nil (GE.then_ (GC.seq (GC.region ?_)))
 refine G.stepD (OD.move rfl rfl) rfl rfl rfl ?_
 refine G.step (OG.call [.int .i64 (x)] ent112 rfl rfl rfl rfl (by exact isNaN_w)) rfl rfl rfl ?_
 rintro _ _ ⟨rfl, hzz⟩; obtain rfl := hzz.symm
 refine G.stepD (OD.assign rfl rfl) rfl rfl rfl ?_
 refine G.nil (GE.then_ (GC.seq (GC.region ?_)))
 refine G.stepD (OD.move rfl rfl) rfl rfl rfl ?_
 refine G.step (OG.call [.int .i64 (y)] ent112 rfl rfl rfl rfl (by exact isNaN_w)) rfl rfl rfl ?_
 rintro _ _ ⟨rfl, hzz⟩; obtain rfl := hzz.symm
 refine G.stepD (OD.assign rfl rfl) rfl rfl rfl ?_
 refine G.nil (GE.then_ (GC.seq (GC.seq (GC.region ?_))))
 refine G.stepD (OD.move rfl rfl) rfl rfl rfl ?_
 refine G.nil (GE.then_ (GC.condF rfl (GC.skip (GE.then_ (GC.seq (GC.seq (GC.region ?_)))))))
 refine G.stepD (OD.move rfl rfl) rfl rfl rfl ?_
 refine G.nil (GE.then_ (GC.condF rfl (GC.skip (GE.then_ (GC.seq (GC.seq (GC.region ?_)))))))
 refine G.stepD (OD.move rfl rfl) rfl rfl rfl ?_
 refine G.stepD (OD.move rfl rfl) rfl rfl rfl ?_
 refine G.stepD (OD.lss rfl rfl rfl) rfl rfl rfl ?_
 refine G.nil (GE.then_ ?_)
 refine GC.cond rfl (fun hc1 => ?_) (fun hc1 => ?_)
 replace hc1 := of_decide_eq_true hc1
 refine GC.seq (GC.region ?_)
 refine G.stepD (OD.assign rfl rfl) rfl rfl rfl ?_
 refine G.nil (GE.then_ (GC.ret (GE.passR ?_)))
 exact GE.body [] 0 (res1 rfl rfl) rfl (⟨congrArg (fun (a0 : Int) => (.int .i64 (a0) : Value)) ((by rw [cmpI, if_pos (by assumption)] : (-1 : Int) = cmpI x y)), rfl⟩)
 replace hc1 := of_decide_eq_false hc1
 refine GC.skip (GE.then_ (GC.seq (GC.seq (GC.region ?_))))
 refine G.stepD (OD.move rfl rfl) rfl rfl rfl ?_
 refine G.stepD (OD.move rfl rfl) rfl rfl rfl ?_
 refine G.stepD (OD.gtr rfl rfl rfl) rfl rfl rfl ?_
 refine G.nil (GE.then_ ?_)
 refine GC.cond rfl (fun hc2 => ?_) (fun hc2 => ?_)
 replace hc2 := of_decide_eq_true hc2
 refine GC.seq (GC.region ?_)
 refine G.stepD (OD.assign rfl rfl) rfl rfl rfl ?_
 refine G.nil (GE.then_ (GC.ret (GE.passR ?_)))
 exact GE.body [] 0 (res1 rfl rfl) rfl (⟨congrArg (fun (a0 : Int) => (.int .i64 (a0) : Value)) ((by rw [cmpI, if_neg (by omega), if_pos (by assumption)] : (1 : Int) = cmpI x y)), rfl⟩)
 replace hc2 := of_decide_eq_false hc2
 refine GC.skip (GE.then_ (GC.seq (GC.region ?_)))
 refine G.stepD (OD.assign rfl rfl) rfl rfl rfl ?_
 refine G.nil (GE.then_ (GC.ret ?_))
 exact GE.body [] 0 (res1 rfl rfl) rfl (⟨congrArg (fun (a0 : Int) => (.int .i64 (a0) : Value)) ((by rw [cmpI, if_neg (by omega), if_neg (by omega)] : (0 : Int) = cmpI x y)), rfl⟩)

set_option maxRecDepth 100000 in
theorem compare_w {W : World} {own : List Asn} {vx : Value} {x : List Int} {vy : Value} {y : List Int}  (sx : IsS vx) (ex : Ent own fun w => Ints w vx x)   (sy : IsS vy) (ey : Ent own fun w => Ints w vy y)  (hl : x.length ≤ 1073741824) (hly : y.length ≤ 1073741824) : Spec Tryd.prog 57 [vx, vy] W own (fun v ow => v = .int .i64 (cmpL x y) ∧ ow = own) := by
 refine Spec.enter Tryd.f57 _ Tryd.func57 rfl (n := 36) rfl rfl ?_
 refine GC.seq (GC.region ?_)
 refine G.stepD (OD.assign rfl rfl) rfl rfl rfl ?_
 refine G.nil (GE.then_ (GC.seq (GC.seq (GC.region ?_))))
 refine G.stepD (OD.move rfl rfl) rfl rfl rfl ?_
 refine G.stepD (OD.len rfl rfl et22 rfl ex) rfl rfl rfl ?_
 refine G.stepD (OD.move rfl rfl) rfl rfl rfl ?_
 refine G.nil (GE.then_ (GC.block ?_))
 refine GC.loop (ι := Nat) (fun k => [(0, vx), (1, vy), (9, vx), (10, .int .i64 ((x.length : Nat))), (11, .int .i64 ((k : Int)))]) (fun k => own) (fun k => (k ≤ x.length) ∧ (k ≤ y.length) ∧ (cmpL x y = cmpL (x.drop k) (y.drop k))) (fun k => x.length - k) 0 (⟨by omega, by omega, rfl⟩) ⟨rfl, rfl, rfl, rfl, rfl, trivial⟩ [] 0 rfl ?_
 rintro k ⟨hk, hky, hc⟩
 refine GC.seq (GC.region ?_)
 refine G.stepD (OD.lss rfl rfl rfl) rfl rfl rfl ?_
 refine G.nil (GE.then_ (GC.seq ?_))
 refine GC.cond rfl (fun hc1 => ?_) (fun hc1 => ?_)
 replace hc1 := of_decide_eq_true hc1
 refine GC.skip (GE.then_ (GC.seq (GC.block (GC.seq (GC.region ?_)))))
 refine G.stepD (OD.move rfl rfl) rfl rfl rfl ?_
 refine G.stepD (OD.indexAddr rfl et22 rfl ex rfl (by omega)) rfl rfl rfl ?_
 refine G.stepD (OD.loadInt rfl ti3 rfl ex (by omega)) rfl rfl rfl ?_
 refine G.stepD (OD.assign rfl rfl) rfl rfl rfl ?_
 refine G.stepD (OD.assign rfl rfl) rfl rfl rfl ?_
 refine G.nil (GE.then_ (GC.seq (GC.seq (GC.region ?_))))
 refine G.stepD (OD.move rfl rfl) rfl rfl rfl ?_
 refine G.stepD (OD.move rfl rfl) rfl rfl rfl ?_
 refine G.stepD (OD.len rfl rfl et22 rfl ey) rfl rfl rfl ?_
 refine G.stepD (OD.geq rfl rfl rfl) rfl rfl rfl ?_
 refine G.nil (GE.then_ ?_)
 refine GC.cond rfl (fun hc2 => ?_) (fun hc2 => ?_)
 replace hc2 := of_decide_eq_true hc2
 refine GC.seq (GC.region ?_)
 refine G.stepD (OD.assign rfl rfl) rfl rfl rfl ?_
 refine G.nil (GE.then_ (GC.ret (GE.passR (GE.blockR (GE.passR (GE.passR (GE.blockR (GE.passR ?_))))))))
 exact GE.body [] 0 (res1 rfl rfl) rfl (⟨congrArg (fun (a0 : Int) => (.int .i64 (a0) : Value)) ((by rw [hc]; exact (cmp_long (by omega) (by omega)).symm : (1 : Int) = cmpL x y)), rfl⟩)
 replace hc2 := of_decide_eq_false hc2
 refine GC.skip (GE.then_ (GC.seq (GC.region ?_)))
 refine G.stepD (OD.move rfl rfl) rfl rfl rfl ?_
 refine G.stepD (OD.move rfl rfl) rfl rfl rfl ?_
 refine G.stepD (OD.indexAddr rfl et22 rfl ey rfl (by omega)) rfl rfl rfl ?_
 refine G.stepD (OD.loadInt rfl ti3 rfl ey (by omega)) rfl rfl rfl ?_
 refine G.stepD (OD.assign rfl rfl) rfl rfl rfl ?_
 refine G.nil (GE.then_ (GC.seq (GC.region ?_)))
 refine G.stepD (OD.move rfl rfl) rfl rfl rfl ?_
 refine G.stepD (OD.move rfl rfl) rfl rfl rfl ?_
 refine G.step (OG.call [.int .i64 (x.getD (k) 0), .int .i64 (y.getD (k) 0)] ent90 rfl rfl rfl rfl (by exact cmpI_w)) rfl rfl rfl ?_
 rintro _ _ ⟨rfl, hzz⟩; obtain rfl := hzz.symm
 refine G.stepD (OD.assign rfl rfl) rfl rfl rfl ?_
 refine G.nil (GE.then_ (GC.seq (GC.region ?_)))
 refine G.stepD (OD.move rfl rfl) rfl rfl rfl ?_
 refine G.stepD (OD.neq rfl rfl rfl) rfl rfl rfl ?_
 refine G.nil (GE.then_ ?_)
 refine GC.cond rfl (fun hc3 => ?_) (fun hc3 => ?_)
 replace hc3 := ne_of_bne hc3
 refine GC.seq (GC.region ?_)
 refine G.stepD (OD.move rfl rfl) rfl rfl rfl ?_
 refine G.stepD (OD.assign rfl rfl) rfl rfl rfl ?_
 refine G.nil (GE.then_ (GC.ret (GE.blockR (GE.passR (GE.passR (GE.blockR (GE.passR ?_)))))))
 exact GE.body [] 0 (res1 rfl rfl) rfl (⟨congrArg (fun (a0 : Int) => (.int .i64 (a0) : Value)) ((by rw [hc]; exact (cmp_ne (by omega) (by omega) (by assumption)).symm : (cmpI (x.getD (k) 0) (y.getD (k) 0) : Int) = cmpL x y)), rfl⟩)
 replace hc3 := eq_of_bne_false hc3
 refine GC.skip (GE.blockN (GE.then_ (GC.region ?_)))
 refine G.stepD (OD.addI rfl rfl rfl (by omega)) rfl rfl rfl ?_
 refine G.stepD (OD.move rfl rfl) rfl rfl rfl ?_
 refine G.nil ?_
 exact GE.again (k + 1) (⟨by omega, by omega, by rw [hc]; exact cmp_eq (by omega) (by omega) (by assumption)⟩) (by first | omega | (dsimp only; omega)) ⟨rfl, rfl, rfl, rfl, rfl, trivial⟩ [] 0 rfl
 replace hc1 := of_decide_eq_false hc1
 refine GC.exit (GE.pass (GE.pass (GE.hit (GE.then_ (GC.seq (GC.seq (GC.region ?_)))))))
 refine G.stepD (OD.move rfl rfl) rfl rfl rfl ?_
 refine G.stepD (OD.len rfl rfl et22 rfl ex) rfl rfl rfl ?_
 refine G.stepD (OD.move rfl rfl) rfl rfl rfl ?_
 refine G.stepD (OD.len rfl rfl et22 rfl ey) rfl rfl rfl ?_
 refine G.stepD (OD.lss rfl rfl rfl) rfl rfl rfl ?_
 refine G.nil (GE.then_ ?_)
 refine GC.cond rfl (fun hc4 => ?_) (fun hc4 => ?_)
 replace hc4 := of_decide_eq_true hc4
 refine GC.seq (GC.region ?_)
 refine G.stepD (OD.assign rfl rfl) rfl rfl rfl ?_
 refine G.nil (GE.then_ (GC.ret (GE.passR ?_)))
 exact GE.body [] 0 (res1 rfl rfl) rfl (⟨congrArg (fun (a0 : Int) => (.int .i64 (a0) : Value)) ((by rw [hc, cmp_end (by omega) hk (Or.inr trivial), if_pos (by omega)] : (-1 : Int) = cmpL x y)), rfl⟩)
 replace hc4 := of_decide_eq_false hc4
 refine GC.skip (GE.then_ (GC.seq (GC.region ?_)))
 refine G.stepD (OD.assign rfl rfl) rfl rfl rfl ?_
 refine G.nil (GE.then_ (GC.ret ?_))
 exact GE.body [] 0 (res1 rfl rfl) rfl (⟨congrArg (fun (a0 : Int) => (.int .i64 (a0) : Value)) ((by rw [hc, cmp_end (by omega) hk (Or.inr trivial), if_neg (by omega)] : (0 : Int) = cmpL x y)), rfl⟩)

set_option maxRecDepth 100000 in
theorem l6Above_w {W : World} {own : List Asn} {vx : Value} {x : List Int} {vy : Value} {y : List Int}  (sx : IsS vx) (ex : Ent own fun w => Ints w vx x)   (sy : IsS vy) (ey : Ent own fun w => Ints w vy y)  (hl : x.length ≤ 1073741824) (hly : y.length ≤ 1073741824) : Spec Tryd.prog 86 [vx, vy] W own (fun v ow => v = .bool (abvL x y) ∧ ow = own) := by
 refine Spec.enter Tryd.f86 _ Tryd.func86 rfl (n := 41) rfl rfl ?_
 refine GC.seq (GC.region ?_)
 refine G.stepD (OD.assign rfl rfl) rfl rfl rfl ?_
 refine G.nil (GE.then_ (GC.seq (GC.seq (GC.region ?_))))
 refine G.stepD (OD.assign rfl rfl) rfl rfl rfl ?_
 refine G.nil (GE.then_ (GC.block ?_))
 refine GC.loop (ι := Nat) (fun k => [(0, vx), (1, vy), (5, .int .i64 ((k : Int)))]) (fun k => own) (fun k => (k ≤ x.length) ∧ (k ≤ y.length) ∧ (abvL x y = abvL (x.drop k) (y.drop k))) (fun k => x.length - k) 0 (⟨by omega, by omega, rfl⟩) ⟨rfl, rfl, rfl, trivial⟩ [] 0 rfl ?_
 rintro k ⟨hk, hky, hc⟩
 refine GC.seq (GC.seq (GC.region ?_))
 refine G.stepD (OD.move rfl rfl) rfl rfl rfl ?_
 refine G.stepD (OD.move rfl rfl) rfl rfl rfl ?_
 refine G.stepD (OD.len rfl rfl et22 rfl ex) rfl rfl rfl ?_
 refine G.stepD (OD.lss rfl rfl rfl) rfl rfl rfl ?_
 refine G.stepD (OD.move rfl rfl) rfl rfl rfl ?_
 rcases Bool.eq_false_or_eq_true (decide ((k : Int) < (x.length : Nat))) with hg1 | hg1
 have hg1e := hg1
 refine G.at [] 0 (env' := [(0, vx), (1, vy), (5, .int .i64 ((k : Int))), (6, .int .i64 ((k : Int))), (7, vx), (8, .int .i64 ((x.length : Nat))), (9, .bool true), (10, .bool true)]) (⟨rfl, rfl, rfl, rfl, rfl, rfl, (congrArg (fun b => some (Value.bool b)) hg1e), (congrArg (fun b => some (Value.bool b)) hg1e), trivial⟩) rfl ?_
 replace hg1 := of_decide_eq_true hg1
 refine G.stepGD (OD.move rfl rfl) rfl rfl rfl rfl rfl ?_
 refine G.stepGD (OD.move rfl rfl) rfl rfl rfl rfl rfl ?_
 refine G.stepGD (OD.len rfl rfl et22 rfl ey) rfl rfl rfl rfl rfl ?_
 refine G.stepGD (OD.lss rfl rfl rfl) rfl rfl rfl rfl rfl ?_
 refine G.stepD (OD.pickT rfl rfl rfl) rfl rfl rfl ?_
 refine G.nil (GE.then_ ?_)
 refine GC.cond rfl (fun hc2 => ?_) (fun hc2 => ?_)
 replace hc2 := of_decide_eq_true hc2
 refine GC.skip (GE.then_ (GC.seq (GC.block (GC.seq ?_))))
 refine GC.at [] 0 (env' := [(0, vx), (1, vy), (5, .int .i64 ((k : Int)))]) ⟨rfl, rfl, rfl, trivial⟩ rfl ?_
 refine GC.par (its := [⟨18, [], [], [], [], fun _ => vx, fun _ => True, fun _ => []⟩,
     ⟨19, [], [], [], [], fun _ => .int .i64 ((k : Int)), fun _ => True, fun _ => []⟩,
     ⟨20, [(0, 18), (1, 19)], [], [], [], fun _ => elemPtr vx 1 (k), fun _ => True, fun _ => []⟩,
     ⟨21, [(2, 20)], [], [], [], fun _ => .int .i64 (x.getD (k) 0), fun _ => True, fun _ => []⟩,
     ⟨22, [], [], [], [], fun _ => vy, fun _ => True, fun _ => []⟩,
     ⟨23, [], [], [], [], fun _ => .int .i64 ((k : Int)), fun _ => True, fun _ => []⟩,
     ⟨24, [(4, 22), (5, 23)], [], [], [], fun _ => elemPtr vy 1 (k), fun _ => True, fun _ => []⟩,
     ⟨25, [(6, 24)], [], [], [], fun _ => .int .i64 (y.getD (k) 0), fun _ => True, fun _ => []⟩,
     ⟨26, [(3, 21), (7, 25)], [], [], [], fun _ => .bool ((x.getD (k) 0) != (y.getD (k) 0)), fun _ => True, fun _ => []⟩]) (by kernel_rfl) (by kernel_rfl) (POps.cons ?_ (POps.cons ?_ (POps.cons ?_ (POps.cons ?_ (POps.cons ?_ (POps.cons ?_ (POps.cons ?_ (POps.cons ?_ (POps.cons ?_ POps.nil))))))))) ?_
 intro θ R hd
 exact Opp.plain (OG.imp (OD.move rfl rfl) (by rintro _ _ ⟨rfl, rfl⟩; exact ⟨[], rfl, trivial, rfl⟩)) rfl
 intro θ R hd
 exact Opp.plain (OG.imp (OD.move rfl rfl) (by rintro _ _ ⟨rfl, rfl⟩; exact ⟨[], rfl, trivial, rfl⟩)) rfl
 intro θ R hd
 obtain ⟨h0d, h1d, _⟩ := hd
 exact Opp.plain (OG.imp (OD.indexAddr rfl et22 rfl (ex.app) rfl (by omega)) (by rintro _ _ ⟨rfl, rfl⟩; exact ⟨[], rfl, trivial, rfl⟩)) rfl
 intro θ R hd
 obtain ⟨h2d, _⟩ := hd
 exact Opp.plain (OG.imp (OD.loadInt rfl ti3 rfl (ex.app) (by omega)) (by rintro _ _ ⟨rfl, rfl⟩; exact ⟨[], rfl, trivial, rfl⟩)) rfl
 intro θ R hd
 exact Opp.plain (OG.imp (OD.move rfl rfl) (by rintro _ _ ⟨rfl, rfl⟩; exact ⟨[], rfl, trivial, rfl⟩)) rfl
 intro θ R hd
 exact Opp.plain (OG.imp (OD.move rfl rfl) (by rintro _ _ ⟨rfl, rfl⟩; exact ⟨[], rfl, trivial, rfl⟩)) rfl
 intro θ R hd
 obtain ⟨h4d, h5d, _⟩ := hd
 exact Opp.plain (OG.imp (OD.indexAddr rfl et22 rfl (ey.app) rfl (by omega)) (by rintro _ _ ⟨rfl, rfl⟩; exact ⟨[], rfl, trivial, rfl⟩)) rfl
 intro θ R hd
 obtain ⟨h6d, _⟩ := hd
 exact Opp.plain (OG.imp (OD.loadInt rfl ti3 rfl (ey.app) (by omega)) (by rintro _ _ ⟨rfl, rfl⟩; exact ⟨[], rfl, trivial, rfl⟩)) rfl
 intro θ R hd
 obtain ⟨h3d, h7d, _⟩ := hd
 exact Opp.plain (OG.imp (OD.neq rfl rfl rfl) (by rintro _ _ ⟨rfl, rfl⟩; exact ⟨[], rfl, trivial, rfl⟩)) rfl
 intro θ hall
 obtain ⟨_, _, _, _, _, _, _, _, _, _⟩ := hall
 refine G.at [] 0 (env' := [(0, vx), (1, vy), (5, .int .i64 ((k : Int))), (26, .bool ((x.getD (k) 0) != (y.getD (k) 0)))]) ⟨rfl, rfl, rfl, rfl, trivial⟩ (own' := own) rfl ?_
 show G _ _ _ [] _ _ _ _
 refine G.nil (GE.then_ ?_)
 refine GC.cond rfl (fun hc3 => ?_) (fun hc3 => ?_)
 replace hc3 := ne_of_bne hc3
 refine GC.seq ?_
 refine GC.at [] 0 (env' := [(0, vx), (1, vy), (5, .int .i64 ((k : Int)))]) ⟨rfl, rfl, rfl, trivial⟩ rfl ?_
 refine GC.par (its := [⟨27, [], [], [], [], fun _ => vx, fun _ => True, fun _ => []⟩,
     ⟨28, [], [], [], [], fun _ => .int .i64 ((k : Int)), fun _ => True, fun _ => []⟩,
     ⟨29, [(0, 27), (1, 28)], [], [], [], fun _ => elemPtr vx 1 (k), fun _ => True, fun _ => []⟩,
     ⟨30, [(2, 29)], [], [], [], fun _ => .int .i64 (x.getD (k) 0), fun _ => True, fun _ => []⟩,
     ⟨31, [], [], [], [], fun _ => vy, fun _ => True, fun _ => []⟩,
     ⟨32, [], [], [], [], fun _ => .int .i64 ((k : Int)), fun _ => True, fun _ => []⟩,
     ⟨33, [(4, 31), (5, 32)], [], [], [], fun _ => elemPtr vy 1 (k), fun _ => True, fun _ => []⟩,
     ⟨34, [(6, 33)], [], [], [], fun _ => .int .i64 (y.getD (k) 0), fun _ => True, fun _ => []⟩,
     ⟨35, [(3, 30), (7, 34)], [], [], [], fun _ => .bool (decide (y.getD (k) 0 < x.getD (k) 0)), fun _ => True, fun _ => []⟩]) (by kernel_rfl) (by kernel_rfl) (POps.cons ?_ (POps.cons ?_ (POps.cons ?_ (POps.cons ?_ (POps.cons ?_ (POps.cons ?_ (POps.cons ?_ (POps.cons ?_ (POps.cons ?_ POps.nil))))))))) ?_
 intro θ R hd
 exact Opp.plain (OG.imp (OD.move rfl rfl) (by rintro _ _ ⟨rfl, rfl⟩; exact ⟨[], rfl, trivial, rfl⟩)) rfl
 intro θ R hd
 exact Opp.plain (OG.imp (OD.move rfl rfl) (by rintro _ _ ⟨rfl, rfl⟩; exact ⟨[], rfl, trivial, rfl⟩)) rfl
 intro θ R hd
 obtain ⟨h0d, h1d, _⟩ := hd
 exact Opp.plain (OG.imp (OD.indexAddr rfl et22 rfl (ex.app) rfl (by omega)) (by rintro _ _ ⟨rfl, rfl⟩; exact ⟨[], rfl, trivial, rfl⟩)) rfl
 intro θ R hd
 obtain ⟨h2d, _⟩ := hd
 exact Opp.plain (OG.imp (OD.loadInt rfl ti3 rfl (ex.app) (by omega)) (by rintro _ _ ⟨rfl, rfl⟩; exact ⟨[], rfl, trivial, rfl⟩)) rfl
 intro θ R hd
 exact Opp.plain (OG.imp (OD.move rfl rfl) (by rintro _ _ ⟨rfl, rfl⟩; exact ⟨[], rfl, trivial, rfl⟩)) rfl
 intro θ R hd
 exact Opp.plain (OG.imp (OD.move rfl rfl) (by rintro _ _ ⟨rfl, rfl⟩; exact ⟨[], rfl, trivial, rfl⟩)) rfl
 intro θ R hd
 obtain ⟨h4d, h5d, _⟩ := hd
 exact Opp.plain (OG.imp (OD.indexAddr rfl et22 rfl (ey.app) rfl (by omega)) (by rintro _ _ ⟨rfl, rfl⟩; exact ⟨[], rfl, trivial, rfl⟩)) rfl
 intro θ R hd
 obtain ⟨h6d, _⟩ := hd
 exact Opp.plain (OG.imp (OD.loadInt rfl ti3 rfl (ey.app) (by omega)) (by rintro _ _ ⟨rfl, rfl⟩; exact ⟨[], rfl, trivial, rfl⟩)) rfl
 intro θ R hd
 obtain ⟨h3d, h7d, _⟩ := hd
 exact Opp.plain (OG.imp (OD.gtr rfl rfl rfl) (by rintro _ _ ⟨rfl, rfl⟩; exact ⟨[], rfl, trivial, rfl⟩)) rfl
 intro θ hall
 obtain ⟨_, _, _, _, _, _, _, _, _, _⟩ := hall
 refine G.at [] 0 (env' := [(35, .bool (decide (y.getD (k) 0 < x.getD (k) 0)))]) ⟨rfl, trivial⟩ (own' := own) rfl ?_
 show G _ _ _ [_] _ _ _ _
 refine G.stepD (OD.assign rfl rfl) rfl rfl rfl ?_
 refine G.nil (GE.then_ (GC.ret (GE.blockR (GE.passR (GE.passR (GE.blockR (GE.passR ?_)))))))
 exact GE.body [] 0 (res1 rfl rfl) rfl (⟨congrArg (fun (a0 : Bool) => (.bool (a0) : Value)) ((by rw [hc]; exact (abv_ne (by omega) (by omega) (by assumption)).symm : (decide (y.getD (k) 0 < x.getD (k) 0) : Bool) = abvL x y)), rfl⟩)
 replace hc3 := eq_of_bne_false hc3
 refine GC.skip (GE.blockN (GE.then_ (GC.region ?_)))
 refine G.stepD (OD.move rfl rfl) rfl rfl rfl ?_
 refine G.stepD (OD.addI rfl rfl rfl (by omega)) rfl rfl rfl ?_
 refine G.stepD (OD.assign rfl rfl) rfl rfl rfl ?_
 refine G.nil ?_
 exact GE.again (k + 1) (⟨by omega, by omega, by rw [hc]; exact abv_eq (by omega) (by omega) (by assumption)⟩) (by first | omega | (dsimp only; omega)) ⟨rfl, rfl, rfl, trivial⟩ [] 0 rfl
 replace hc2 := of_decide_eq_false hc2
 refine GC.exit (GE.pass (GE.pass (GE.hit (GE.then_ (GC.seq (GC.region ?_))))))
 refine G.stepD (OD.move rfl rfl) rfl rfl rfl ?_
 refine G.stepD (OD.len rfl rfl et22 rfl ex) rfl rfl rfl ?_
 refine G.stepD (OD.move rfl rfl) rfl rfl rfl ?_
 refine G.stepD (OD.len rfl rfl et22 rfl ey) rfl rfl rfl ?_
 refine G.stepD (OD.gtr rfl rfl rfl) rfl rfl rfl ?_
 refine G.stepD (OD.assign rfl rfl) rfl rfl rfl ?_
 refine G.nil (GE.then_ (GC.ret ?_))
 exact GE.body [] 0 (res1 rfl rfl) rfl (⟨congrArg (fun (a0 : Bool) => (.bool (a0) : Value)) ((by rw [hc]; exact (abv_end (by omega) (by omega) (by omega)).symm : (decide (((y.length : Nat) : Int) < (x.length : Nat)) : Bool) = abvL x y)), rfl⟩)
 have hg1e := hg1
 refine G.at [] 0 (env' := [(0, vx), (1, vy), (5, .int .i64 ((k : Int))), (6, .int .i64 ((k : Int))), (7, vx), (8, .int .i64 ((x.length : Nat))), (9, .bool false), (10, .bool false)]) (⟨rfl, rfl, rfl, rfl, rfl, rfl, (congrArg (fun b => some (Value.bool b)) hg1e), (congrArg (fun b => some (Value.bool b)) hg1e), trivial⟩) rfl ?_
 replace hg1 := of_decide_eq_false hg1
 refine G.skipG rfl rfl rfl rfl rfl rfl (G.skipG rfl rfl rfl rfl rfl rfl (G.skipG rfl rfl rfl rfl rfl rfl (G.skipG rfl rfl rfl rfl rfl rfl ?_)))
 refine G.stepD (OD.pickF rfl rfl rfl) rfl rfl rfl ?_
 refine G.nil (GE.then_ (GC.condF rfl (GC.exit (GE.pass (GE.pass (GE.hit (GE.then_ (GC.seq (GC.region ?_)))))))))
 refine G.stepD (OD.move rfl rfl) rfl rfl rfl ?_
 refine G.stepD (OD.len rfl rfl et22 rfl ex) rfl rfl rfl ?_
 refine G.stepD (OD.move rfl rfl) rfl rfl rfl ?_
 refine G.stepD (OD.len rfl rfl et22 rfl ey) rfl rfl rfl ?_
 refine G.stepD (OD.gtr rfl rfl rfl) rfl rfl rfl ?_
 refine G.stepD (OD.assign rfl rfl) rfl rfl rfl ?_
 refine G.nil (GE.then_ (GC.ret ?_))
 exact GE.body [] 0 (res1 rfl rfl) rfl (⟨congrArg (fun (a0 : Bool) => (.bool (a0) : Value)) ((by rw [hc]; exact (abv_end (by omega) (by omega) (by omega)).symm : (decide (((y.length : Nat) : Int) < (x.length : Nat)) : Bool) = abvL x y)), rfl⟩)

set_option maxHeartbeats 4000000 in
set_option maxRecDepth 100000 in
theorem l8Ok_w {W : World} {own : List Asn} {cr : Int} {vcd : Value} {cd : List Int} {vx : Value} {ux : List Value} {x : List Rec}  (scd : IsS vcd) (ecd : Ent own fun w => Ints w vcd cd)   (sx : IsS vx) (ex : Ent own fun w => Recs w vx ux x) (mx : ∀ k, k < x.length → Ent own fun w => Ints w (ux.getD k undef) (x.getD k ([], 0)).1) (lx : ux.length = x.length) (ax : AllS ux)  (hlx : x.length ≤ 1073741824) (hle : ∀ r ∈ x, r.1.length ≤ 1073741824) : Spec Tryd.prog 52 [.agg #[.int .i64 (cr), vcd], vx] W own (fun v ow => v = .bool (chrOk9 cr x) ∧ ow = own) := by
 refine Spec.enter Tryd.f52 _ Tryd.func52 rfl (n := 51) rfl rfl ?_
 refine GC.seq (GC.region ?_)
 refine G.step (OG.box (cs := [.int .i64 (cr), vcd]) rfl rfl rfl) rfl rfl rfl ?_
 rintro _ _ ⟨g1, rfl, rfl⟩
 refine G.stepD (OD.assign rfl rfl) rfl rfl rfl ?_
 refine G.nil (GE.then_ (GC.seq (GC.seq (GC.region ?_))))
 refine G.stepD (OD.move rfl rfl) rfl rfl rfl ?_
 refine G.stepD (OD.len rfl rfl et36 rfl (Ent.drop 1 ex)) rfl rfl rfl ?_
 refine G.stepD (OD.gtr rfl rfl rfl) rfl rfl rfl ?_
 refine G.nil (GE.then_ ?_)
 refine GC.cond rfl (fun hc2 => ?_) (fun hc2 => ?_)
 replace hc2 := of_decide_eq_true hc2
 refine GC.seq (GC.region ?_)
 refine G.stepD (OD.assign rfl rfl) rfl rfl rfl ?_
 refine G.nil (GE.then_ (GC.ret (GE.passR ?_)))
 exact GE.body [] 1 (res1 rfl rfl) rfl (⟨congrArg (fun (a0 : Bool) => (.bool (a0) : Value)) ((by rw [chrOk9, decide_eq_false (show ¬ (x.length : Int) ≤ 400 by omega)]; simp : (false : Bool) = chrOk9 cr x)), rfl⟩)
 replace hc2 := of_decide_eq_false hc2
 refine GC.skip (GE.then_ (GC.seq (GC.seq (GC.region ?_))))
 refine G.stepD (OD.assign rfl rfl) rfl rfl rfl ?_
 refine G.nil (GE.then_ (GC.block ?_))
 refine GC.loop (ι := Nat) (fun i => [(1, vx), (2, .pointer (some ⟨g1, 0, none⟩)), (5, .int .i64 ((i : Int)))]) (fun i => box g1 27 [.int .i64 (cr), vcd] :: own) (fun i => (i ≤ x.length) ∧ ((List.range i).any (chrBad cr x) = false)) (fun i => x.length - i) 0 (⟨by omega, rfl⟩) ⟨rfl, rfl, rfl, trivial⟩ [] 0 rfl ?_
 rintro i ⟨hi, ht⟩
 refine GC.seq (GC.seq (GC.region ?_))
 refine G.stepD (OD.move rfl rfl) rfl rfl rfl ?_
 refine G.stepD (OD.move rfl rfl) rfl rfl rfl ?_
 refine G.stepD (OD.len rfl rfl et36 rfl (Ent.drop 1 ex)) rfl rfl rfl ?_
 refine G.stepD (OD.lss rfl rfl rfl) rfl rfl rfl ?_
 refine G.nil (GE.then_ ?_)
 refine GC.cond rfl (fun hc3 => ?_) (fun hc3 => ?_)
 replace hc3 := of_decide_eq_true hc3
 refine GC.skip (GE.then_ (GC.seq (GC.block (GC.seq ?_))))
 rcases Bool.eq_false_or_eq_true (!(wtOk cr ((x.getD (i) ([], 0)).1))) with hg4 | hg4
 have hg4p := hg4
 replace hg4p := eq_false_of_not hg4p
 refine GC.at [] 0 (env' := [(1, vx), (2, .pointer (some ⟨g1, 0, none⟩)), (5, .int .i64 ((i : Int)))]) ⟨rfl, rfl, rfl, trivial⟩ rfl ?_
 refine GC.par (its := [⟨15, [], [], [], [], fun _ => .agg #[.int .i64 (cr), vcd], fun _ => True, fun _ => []⟩,
     ⟨16, [], [], [], [], fun _ => vx, fun _ => True, fun _ => []⟩,
     ⟨17, [], [], [], [], fun _ => .int .i64 ((i : Int)), fun _ => True, fun _ => []⟩,
     ⟨18, [(1, 16), (2, 17)], [], [], [], fun _ => elemPtr vx 2 (i), fun _ => True, fun _ => []⟩,
     ⟨19, [(3, 18)], [], [], [], fun _ => elemPtrF vx 2 (i) 0, fun _ => True, fun _ => []⟩,
     ⟨20, [(4, 19)], [], [], [], fun _ => (ux.getD (i) undef), fun _ => True, fun _ => []⟩,
     ⟨21, [(0, 15), (5, 20)], [], [], [], fun _ => .bool (wtOk cr ((x.getD (i) ([], 0)).1)), fun _ => True, fun _ => []⟩,
     ⟨22, [(6, 21)], [], [], [], fun _ => .bool true, fun _ => True, fun _ => []⟩,
     ⟨23, [(7, 22)], [], [], [], fun _ => .bool true, fun _ => True, fun _ => []⟩,
     ⟨24, [(8, 23)], [], [], [], fun _ => undef, fun _ => True, fun _ => []⟩,
     ⟨25, [(8, 23)], [], [], [], fun _ => undef, fun _ => True, fun _ => []⟩,
     ⟨26, [(8, 23), (9, 24), (10, 25)], [], [], [], fun _ => undef, fun _ => True, fun _ => []⟩,
     ⟨27, [(8, 23), (11, 26)], [], [], [], fun _ => undef, fun _ => True, fun _ => []⟩,
     ⟨28, [(8, 23), (12, 27)], [], [], [], fun _ => undef, fun _ => True, fun _ => []⟩,
     ⟨29, [(8, 23), (13, 28)], [], [], [], fun _ => undef, fun _ => True, fun _ => []⟩,
     ⟨30, [(8, 23), (14, 29)], [], [], [], fun _ => undef, fun _ => True, fun _ => []⟩,
     ⟨31, [(8, 23), (15, 30)], [], [], [], fun _ => .bool true, fun _ => True, fun _ => []⟩,
     ⟨32, [(16, 31)], [], [], [], fun _ => .bool true, fun _ => True, fun _ => []⟩,
     ⟨33, [(17, 32)], [], [], [], fun _ => undef, fun _ => True, fun _ => []⟩,
     ⟨34, [(17, 32), (18, 33)], [], [], [], fun _ => undef, fun _ => True, fun _ => []⟩,
     ⟨35, [(17, 32), (19, 34)], [], [], [], fun _ => undef, fun _ => True, fun _ => []⟩,
     ⟨36, [(20, 35)], [], [], [], fun _ => undef, fun _ => True, fun _ => []⟩,
     ⟨37, [(20, 35)], [], [], [], fun _ => undef, fun _ => True, fun _ => []⟩,
     ⟨38, [(20, 35), (22, 37)], [], [], [], fun _ => undef, fun _ => True, fun _ => []⟩,
     ⟨39, [(20, 35), (21, 36), (23, 38)], [], [], [], fun _ => undef, fun _ => True, fun _ => []⟩,
     ⟨40, [(20, 35), (24, 39)], [], [], [], fun _ => undef, fun _ => True, fun _ => []⟩,
     ⟨41, [(20, 35), (25, 40)], [], [], [], fun _ => undef, fun _ => True, fun _ => []⟩,
     ⟨42, [(20, 35)], [], [], [], fun _ => undef, fun _ => True, fun _ => []⟩,
     ⟨43, [(20, 35)], [], [], [], fun _ => undef, fun _ => True, fun _ => []⟩,
     ⟨44, [(20, 35), (27, 42), (28, 43)], [], [], [], fun _ => undef, fun _ => True, fun _ => []⟩,
     ⟨45, [(20, 35), (29, 44)], [], [], [], fun _ => undef, fun _ => True, fun _ => []⟩,
     ⟨46, [(20, 35), (30, 45)], [], [], [], fun _ => undef, fun _ => True, fun _ => []⟩,
     ⟨47, [(20, 35), (26, 41), (31, 46)], [], [], [], fun _ => undef, fun _ => True, fun _ => []⟩,
     ⟨48, [(20, 35), (32, 47)], [], [], [], fun _ => undef, fun _ => True, fun _ => []⟩,
     ⟨49, [(17, 32), (20, 35), (33, 48)], [], [], [], fun _ => undef, fun _ => True, fun _ => []⟩,
     ⟨50, [(17, 32), (34, 49)], [], [], [], fun _ => .bool true, fun _ => True, fun _ => []⟩]) (by kernel_rfl) (by kernel_rfl) (POps.cons ?_ (POps.cons ?_ (POps.cons ?_ (POps.cons ?_ (POps.cons ?_ (POps.cons ?_ (POps.cons ?_ (POps.cons ?_ (POps.cons ?_ (POps.cons ?_ (POps.cons ?_ (POps.cons ?_ (POps.cons ?_ (POps.cons ?_ (POps.cons ?_ (POps.cons ?_ (POps.cons ?_ (POps.cons ?_ (POps.cons ?_ (POps.cons ?_ (POps.cons ?_ (POps.cons ?_ (POps.cons ?_ (POps.cons ?_ (POps.cons ?_ (POps.cons ?_ (POps.cons ?_ (POps.cons ?_ (POps.cons ?_ (POps.cons ?_ (POps.cons ?_ (POps.cons ?_ (POps.cons ?_ (POps.cons ?_ (POps.cons ?_ (POps.cons ?_ POps.nil)))))))))))))))))))))))))))))))))))) ?_
 intro θ R hd
 exact Opp.plain (OG.imp (OD.loadAgg rfl ti27 rfl (i := 0) rfl (us := [.int .i64 (cr), vcd]) rfl rfl) (by rintro _ _ ⟨rfl, rfl⟩; exact ⟨[], rfl, trivial, rfl⟩)) rfl
 intro θ R hd
 exact Opp.plain (OG.imp (OD.move rfl rfl) (by rintro _ _ ⟨rfl, rfl⟩; exact ⟨[], rfl, trivial, rfl⟩)) rfl
 intro θ R hd
 exact Opp.plain (OG.imp (OD.move rfl rfl) (by rintro _ _ ⟨rfl, rfl⟩; exact ⟨[], rfl, trivial, rfl⟩)) rfl
 intro θ R hd
 obtain ⟨h1d, h2d, _⟩ := hd
 exact Opp.plain (OG.imp (OD.indexAddr rfl et36 rfl (Ent.drop 1 ex.app) rfl (by omega)) (by rintro _ _ ⟨rfl, rfl⟩; exact ⟨[], rfl, trivial, rfl⟩)) rfl
 intro θ R hd
 obtain ⟨h3d, _⟩ := hd
 exact Opp.plain (OG.imp (OD.fieldAddrE rfl rfl (Ent.drop 1 ex.app) (by omega) fa56_0) (by rintro _ _ ⟨rfl, rfl⟩; exact ⟨[], rfl, trivial, rfl⟩)) rfl
 intro θ R hd
 obtain ⟨h4d, _⟩ := hd
 exact Opp.plain (OG.imp (OD.loadField rfl ti22 rfl (Ent.drop 1 ex.app) (by omega) (by decide) (recR_fst (by omega))) (by rintro _ _ ⟨rfl, rfl⟩; exact ⟨[], rfl, trivial, rfl⟩)) rfl
 intro θ R hd
 obtain ⟨h0d, h5d, _⟩ := hd
 exact Opp.plain (OG.imp (OG.call [.agg #[.int .i64 (cr), vcd], (ux.getD (i) undef)] ent72 rfl rfl rfl rfl (by exact (l5Lattice_w scd (Ent.drop 1 ecd.app) (ax.get (by omega)) (Ent.drop 1 ((mx (i) (by omega)).app)) (rec_le hle (by omega))))) (by rintro _ _ ⟨rfl, rfl⟩; exact ⟨[], rfl, trivial, rfl⟩)) rfl
 intro θ R hd
 obtain ⟨h6d, _⟩ := hd
 exact Opp.plain (OG.imp (OD.not rfl rfl) (by rintro _ _ ⟨rfl, rfl⟩; exact ⟨[], congrArg Value.bool hg4, trivial, rfl⟩)) rfl
 intro θ R hd
 obtain ⟨h7d, _⟩ := hd
 exact Opp.plain (OG.imp (OD.move rfl rfl) (by rintro _ _ ⟨rfl, rfl⟩; exact ⟨[], rfl, trivial, rfl⟩)) rfl
 intro θ R hd
 obtain ⟨h8d, _⟩ := hd
 exact Opp.off ⟨[], rfl, trivial, rfl⟩ rfl rfl rfl rfl
 intro θ R hd
 obtain ⟨h8d, _⟩ := hd
 exact Opp.off ⟨[], rfl, trivial, rfl⟩ rfl rfl rfl rfl
 intro θ R hd
 obtain ⟨h8d, h9d, h10d, _⟩ := hd
 exact Opp.off ⟨[], rfl, trivial, rfl⟩ rfl rfl rfl rfl
 intro θ R hd
 obtain ⟨h8d, h11d, _⟩ := hd
 exact Opp.off ⟨[], rfl, trivial, rfl⟩ rfl rfl rfl rfl
 intro θ R hd
 obtain ⟨h8d, h12d, _⟩ := hd
 exact Opp.off ⟨[], rfl, trivial, rfl⟩ rfl rfl rfl rfl
 intro θ R hd
 obtain ⟨h8d, h13d, _⟩ := hd
 exact Opp.off ⟨[], rfl, trivial, rfl⟩ rfl rfl rfl rfl
 intro θ R hd
 obtain ⟨h8d, h14d, _⟩ := hd
 exact Opp.off ⟨[], rfl, trivial, rfl⟩ rfl rfl rfl rfl
 intro θ R hd
 obtain ⟨h8d, h15d, _⟩ := hd
 exact Opp.plain (OG.imp (OD.pickT rfl rfl rfl) (by rintro _ _ ⟨rfl, rfl⟩; exact ⟨[], rfl, trivial, rfl⟩)) rfl
 intro θ R hd
 obtain ⟨h16d, _⟩ := hd
 exact Opp.plain (OG.imp (OD.move rfl rfl) (by rintro _ _ ⟨rfl, rfl⟩; exact ⟨[], rfl, trivial, rfl⟩)) rfl
 intro θ R hd
 obtain ⟨h17d, _⟩ := hd
 exact Opp.off ⟨[], rfl, trivial, rfl⟩ rfl rfl rfl rfl
 intro θ R hd
 obtain ⟨h17d, h18d, _⟩ := hd
 exact Opp.off ⟨[], rfl, trivial, rfl⟩ rfl rfl rfl rfl
 intro θ R hd
 obtain ⟨h17d, h19d, _⟩ := hd
 exact Opp.off ⟨[], rfl, trivial, rfl⟩ rfl rfl rfl rfl
 intro θ R hd
 obtain ⟨h20d, _⟩ := hd
 exact Opp.offU ⟨[], rfl, trivial, rfl⟩ rfl rfl rfl
 intro θ R hd
 obtain ⟨h20d, _⟩ := hd
 exact Opp.offU ⟨[], rfl, trivial, rfl⟩ rfl rfl rfl
 intro θ R hd
 obtain ⟨h20d, h22d, _⟩ := hd
 exact Opp.offU ⟨[], rfl, trivial, rfl⟩ rfl rfl rfl
 intro θ R hd
 obtain ⟨h20d, h21d, h23d, _⟩ := hd
 exact Opp.offU ⟨[], rfl, trivial, rfl⟩ rfl rfl rfl
 intro θ R hd
 obtain ⟨h20d, h24d, _⟩ := hd
 exact Opp.offU ⟨[], rfl, trivial, rfl⟩ rfl rfl rfl
 intro θ R hd
 obtain ⟨h20d, h25d, _⟩ := hd
 exact Opp.offU ⟨[], rfl, trivial, rfl⟩ rfl rfl rfl
 intro θ R hd
 obtain ⟨h20d, _⟩ := hd
 exact Opp.offU ⟨[], rfl, trivial, rfl⟩ rfl rfl rfl
 intro θ R hd
 obtain ⟨h20d, _⟩ := hd
 exact Opp.offU ⟨[], rfl, trivial, rfl⟩ rfl rfl rfl
 intro θ R hd
 obtain ⟨h20d, h27d, h28d, _⟩ := hd
 exact Opp.offU ⟨[], rfl, trivial, rfl⟩ rfl rfl rfl
 intro θ R hd
 obtain ⟨h20d, h29d, _⟩ := hd
 exact Opp.offU ⟨[], rfl, trivial, rfl⟩ rfl rfl rfl
 intro θ R hd
 obtain ⟨h20d, h30d, _⟩ := hd
 exact Opp.offU ⟨[], rfl, trivial, rfl⟩ rfl rfl rfl
 intro θ R hd
 obtain ⟨h20d, h26d, h31d, _⟩ := hd
 exact Opp.offU ⟨[], rfl, trivial, rfl⟩ rfl rfl rfl
 intro θ R hd
 obtain ⟨h20d, h32d, _⟩ := hd
 exact Opp.offU ⟨[], rfl, trivial, rfl⟩ rfl rfl rfl
 intro θ R hd
 obtain ⟨h17d, h20d, h33d, _⟩ := hd
 exact Opp.off ⟨[], rfl, trivial, rfl⟩ rfl rfl rfl rfl
 intro θ R hd
 obtain ⟨h17d, h34d, _⟩ := hd
 exact Opp.plain (OG.imp (OD.pickT rfl rfl rfl) (by rintro _ _ ⟨rfl, rfl⟩; exact ⟨[], rfl, trivial, rfl⟩)) rfl
 intro θ hall
 obtain ⟨_, _, _, _, _, _, _, _, _, _, _, _, _, _, _, _, _, _, _, _, _, _, _, _, _, _, _, _, _, _, _, _, _, _, _, _, _⟩ := hall
 refine G.at [] 0 (env' := [(1, vx), (2, .pointer (some ⟨g1, 0, none⟩)), (5, .int .i64 ((i : Int))), (50, .bool true)]) ⟨rfl, rfl, rfl, rfl, trivial⟩ (own' := box g1 27 [.int .i64 (cr), vcd] :: own) rfl ?_
 show G _ _ _ [] _ _ _ _
 refine G.nil (GE.then_ (GC.condT rfl (GC.seq (GC.region ?_))))
 refine G.stepD (OD.assign rfl rfl) rfl rfl rfl ?_
 refine G.nil (GE.then_ (GC.ret (GE.blockR (GE.passR (GE.passR (GE.blockR (GE.passR ?_)))))))
 exact GE.body [] 1 (res1 rfl rfl) rfl (⟨congrArg (fun (a0 : Bool) => (.bool (a0) : Value)) ((by rw [chrOk9, any_hit' (p := chrBad cr x) (k := i) (n := x.length) (by omega) (by unfold chrBad; rw [hg4]; rfl)]; simp : (false : Bool) = chrOk9 cr x)), rfl⟩)
 have hg4p := hg4
 replace hg4p := eq_true_of_not hg4p
 rcases Bool.eq_false_or_eq_true (!(inB ((x.getD (i) ([], 0)).2) 1 1000000)) with hg5 | hg5
 have hg5p := hg5
 replace hg5p := eq_false_of_not hg5p
 refine GC.at [] 0 (env' := [(1, vx), (2, .pointer (some ⟨g1, 0, none⟩)), (5, .int .i64 ((i : Int)))]) ⟨rfl, rfl, rfl, trivial⟩ rfl ?_
 refine GC.par (its := [⟨15, [], [], [], [], fun _ => .agg #[.int .i64 (cr), vcd], fun _ => True, fun _ => []⟩,
     ⟨16, [], [], [], [], fun _ => vx, fun _ => True, fun _ => []⟩,
     ⟨17, [], [], [], [], fun _ => .int .i64 ((i : Int)), fun _ => True, fun _ => []⟩,
     ⟨18, [(1, 16), (2, 17)], [], [], [], fun _ => elemPtr vx 2 (i), fun _ => True, fun _ => []⟩,
     ⟨19, [(3, 18)], [], [], [], fun _ => elemPtrF vx 2 (i) 0, fun _ => True, fun _ => []⟩,
     ⟨20, [(4, 19)], [], [], [], fun _ => (ux.getD (i) undef), fun _ => True, fun _ => []⟩,
     ⟨21, [(0, 15), (5, 20)], [], [], [], fun _ => .bool (wtOk cr ((x.getD (i) ([], 0)).1)), fun _ => True, fun _ => []⟩,
     ⟨22, [(6, 21)], [], [], [], fun _ => .bool false, fun _ => True, fun _ => []⟩,
     ⟨23, [(7, 22)], [], [], [], fun _ => .bool false, fun _ => True, fun _ => []⟩,
     ⟨24, [(8, 23)], [], [], [], fun _ => vx, fun _ => True, fun _ => []⟩,
     ⟨25, [(8, 23)], [], [], [], fun _ => .int .i64 ((i : Int)), fun _ => True, fun _ => []⟩,
     ⟨26, [(8, 23), (9, 24), (10, 25)], [], [], [], fun _ => elemPtr vx 2 (i), fun _ => True, fun _ => []⟩,
     ⟨27, [(8, 23), (11, 26)], [], [], [], fun _ => elemPtrF vx 2 (i) 1, fun _ => True, fun _ => []⟩,
     ⟨28, [(8, 23), (12, 27)], [], [], [], fun _ => .int .i64 ((x.getD (i) ([], 0)).2), fun _ => True, fun _ => []⟩,
     ⟨29, [(8, 23), (13, 28)], [], [], [], fun _ => .bool (inB ((x.getD (i) ([], 0)).2) 1 1000000), fun _ => True, fun _ => []⟩,
     ⟨30, [(8, 23), (14, 29)], [], [], [], fun _ => .bool true, fun _ => True, fun _ => []⟩,
     ⟨31, [(8, 23), (15, 30)], [], [], [], fun _ => .bool true, fun _ => True, fun _ => []⟩,
     ⟨32, [(16, 31)], [], [], [], fun _ => .bool true, fun _ => True, fun _ => []⟩,
     ⟨33, [(17, 32)], [], [], [], fun _ => undef, fun _ => True, fun _ => []⟩,
     ⟨34, [(17, 32), (18, 33)], [], [], [], fun _ => undef, fun _ => True, fun _ => []⟩,
     ⟨35, [(17, 32), (19, 34)], [], [], [], fun _ => undef, fun _ => True, fun _ => []⟩,
     ⟨36, [(20, 35)], [], [], [], fun _ => undef, fun _ => True, fun _ => []⟩,
     ⟨37, [(20, 35)], [], [], [], fun _ => undef, fun _ => True, fun _ => []⟩,
     ⟨38, [(20, 35), (22, 37)], [], [], [], fun _ => undef, fun _ => True, fun _ => []⟩,
     ⟨39, [(20, 35), (21, 36), (23, 38)], [], [], [], fun _ => undef, fun _ => True, fun _ => []⟩,
     ⟨40, [(20, 35), (24, 39)], [], [], [], fun _ => undef, fun _ => True, fun _ => []⟩,
     ⟨41, [(20, 35), (25, 40)], [], [], [], fun _ => undef, fun _ => True, fun _ => []⟩,
     ⟨42, [(20, 35)], [], [], [], fun _ => undef, fun _ => True, fun _ => []⟩,
     ⟨43, [(20, 35)], [], [], [], fun _ => undef, fun _ => True, fun _ => []⟩,
     ⟨44, [(20, 35), (27, 42), (28, 43)], [], [], [], fun _ => undef, fun _ => True, fun _ => []⟩,
     ⟨45, [(20, 35), (29, 44)], [], [], [], fun _ => undef, fun _ => True, fun _ => []⟩,
     ⟨46, [(20, 35), (30, 45)], [], [], [], fun _ => undef, fun _ => True, fun _ => []⟩,
     ⟨47, [(20, 35), (26, 41), (31, 46)], [], [], [], fun _ => undef, fun _ => True, fun _ => []⟩,
     ⟨48, [(20, 35), (32, 47)], [], [], [], fun _ => undef, fun _ => True, fun _ => []⟩,
     ⟨49, [(17, 32), (20, 35), (33, 48)], [], [], [], fun _ => undef, fun _ => True, fun _ => []⟩,
     ⟨50, [(17, 32), (34, 49)], [], [], [], fun _ => .bool true, fun _ => True, fun _ => []⟩]) (by kernel_rfl) (by kernel_rfl) (POps.cons ?_ (POps.cons ?_ (POps.cons ?_ (POps.cons ?_ (POps.cons ?_ (POps.cons ?_ (POps.cons ?_ (POps.cons ?_ (POps.cons ?_ (POps.cons ?_ (POps.cons ?_ (POps.cons ?_ (POps.cons ?_ (POps.cons ?_ (POps.cons ?_ (POps.cons ?_ (POps.cons ?_ (POps.cons ?_ (POps.cons ?_ (POps.cons ?_ (POps.cons ?_ (POps.cons ?_ (POps.cons ?_ (POps.cons ?_ (POps.cons ?_ (POps.cons ?_ (POps.cons ?_ (POps.cons ?_ (POps.cons ?_ (POps.cons ?_ (POps.cons ?_ (POps.cons ?_ (POps.cons ?_ (POps.cons ?_ (POps.cons ?_ (POps.cons ?_ POps.nil)))))))))))))))))))))))))))))))))))) ?_
 intro θ R hd
 exact Opp.plain (OG.imp (OD.loadAgg rfl ti27 rfl (i := 0) rfl (us := [.int .i64 (cr), vcd]) rfl rfl) (by rintro _ _ ⟨rfl, rfl⟩; exact ⟨[], rfl, trivial, rfl⟩)) rfl
 intro θ R hd
 exact Opp.plain (OG.imp (OD.move rfl rfl) (by rintro _ _ ⟨rfl, rfl⟩; exact ⟨[], rfl, trivial, rfl⟩)) rfl
 intro θ R hd
 exact Opp.plain (OG.imp (OD.move rfl rfl) (by rintro _ _ ⟨rfl, rfl⟩; exact ⟨[], rfl, trivial, rfl⟩)) rfl
 intro θ R hd
 obtain ⟨h1d, h2d, _⟩ := hd
 exact Opp.plain (OG.imp (OD.indexAddr rfl et36 rfl (Ent.drop 1 ex.app) rfl (by omega)) (by rintro _ _ ⟨rfl, rfl⟩; exact ⟨[], rfl, trivial, rfl⟩)) rfl
 intro θ R hd
 obtain ⟨h3d, _⟩ := hd
 exact Opp.plain (OG.imp (OD.fieldAddrE rfl rfl (Ent.drop 1 ex.app) (by omega) fa56_0) (by rintro _ _ ⟨rfl, rfl⟩; exact ⟨[], rfl, trivial, rfl⟩)) rfl
 intro θ R hd
 obtain ⟨h4d, _⟩ := hd
 exact Opp.plain (OG.imp (OD.loadField rfl ti22 rfl (Ent.drop 1 ex.app) (by omega) (by decide) (recR_fst (by omega))) (by rintro _ _ ⟨rfl, rfl⟩; exact ⟨[], rfl, trivial, rfl⟩)) rfl
 intro θ R hd
 obtain ⟨h0d, h5d, _⟩ := hd
 exact Opp.plain (OG.imp (OG.call [.agg #[.int .i64 (cr), vcd], (ux.getD (i) undef)] ent72 rfl rfl rfl rfl (by exact (l5Lattice_w scd (Ent.drop 1 ecd.app) (ax.get (by omega)) (Ent.drop 1 ((mx (i) (by omega)).app)) (rec_le hle (by omega))))) (by rintro _ _ ⟨rfl, rfl⟩; exact ⟨[], rfl, trivial, rfl⟩)) rfl
 intro θ R hd
 obtain ⟨h6d, _⟩ := hd
 exact Opp.plain (OG.imp (OD.not rfl rfl) (by rintro _ _ ⟨rfl, rfl⟩; exact ⟨[], congrArg Value.bool hg4, trivial, rfl⟩)) rfl
 intro θ R hd
 obtain ⟨h7d, _⟩ := hd
 exact Opp.plain (OG.imp (OD.move rfl rfl) (by rintro _ _ ⟨rfl, rfl⟩; exact ⟨[], rfl, trivial, rfl⟩)) rfl
 intro θ R hd
 obtain ⟨h8d, _⟩ := hd
 exact Opp.on (OG.imp (OD.move rfl rfl) (by rintro _ _ ⟨rfl, rfl⟩; exact ⟨[], rfl, trivial, rfl⟩)) rfl rfl rfl
 intro θ R hd
 obtain ⟨h8d, _⟩ := hd
 exact Opp.on (OG.imp (OD.move rfl rfl) (by rintro _ _ ⟨rfl, rfl⟩; exact ⟨[], rfl, trivial, rfl⟩)) rfl rfl rfl
 intro θ R hd
 obtain ⟨h8d, h9d, h10d, _⟩ := hd
 exact Opp.on (OG.imp (OD.indexAddr rfl et36 rfl (Ent.drop 1 ex.app) rfl (by omega)) (by rintro _ _ ⟨rfl, rfl⟩; exact ⟨[], rfl, trivial, rfl⟩)) rfl rfl rfl
 intro θ R hd
 obtain ⟨h8d, h11d, _⟩ := hd
 exact Opp.on (OG.imp (OD.fieldAddrE rfl rfl (Ent.drop 1 ex.app) (by omega) fa56_1) (by rintro _ _ ⟨rfl, rfl⟩; exact ⟨[], rfl, trivial, rfl⟩)) rfl rfl rfl
 intro θ R hd
 obtain ⟨h8d, h12d, _⟩ := hd
 exact Opp.on (OG.imp (OD.loadField rfl ti3 rfl (Ent.drop 1 ex.app) (by omega) (by decide) (recR_snd (by omega))) (by rintro _ _ ⟨rfl, rfl⟩; exact ⟨[], rfl, trivial, rfl⟩)) rfl rfl rfl
 intro θ R hd
 obtain ⟨h8d, h13d, _⟩ := hd
 exact Opp.on (OG.imp (OG.call [.int .i64 ((x.getD (i) ([], 0)).2), .int .i64 (1), .int .i64 (1000000)] ent85 rfl rfl rfl rfl (by exact l1In_w)) (by rintro _ _ ⟨rfl, rfl⟩; exact ⟨[], rfl, trivial, rfl⟩)) rfl rfl rfl
 intro θ R hd
 obtain ⟨h8d, h14d, _⟩ := hd
 exact Opp.on (OG.imp (OD.not rfl rfl) (by rintro _ _ ⟨rfl, rfl⟩; exact ⟨[], congrArg Value.bool hg5, trivial, rfl⟩)) rfl rfl rfl
 intro θ R hd
 obtain ⟨h8d, h15d, _⟩ := hd
 exact Opp.plain (OG.imp (OD.pickF rfl rfl rfl) (by rintro _ _ ⟨rfl, rfl⟩; exact ⟨[], rfl, trivial, rfl⟩)) rfl
 intro θ R hd
 obtain ⟨h16d, _⟩ := hd
 exact Opp.plain (OG.imp (OD.move rfl rfl) (by rintro _ _ ⟨rfl, rfl⟩; exact ⟨[], rfl, trivial, rfl⟩)) rfl
 intro θ R hd
 obtain ⟨h17d, _⟩ := hd
 exact Opp.off ⟨[], rfl, trivial, rfl⟩ rfl rfl rfl rfl
 intro θ R hd
 obtain ⟨h17d, h18d, _⟩ := hd
 exact Opp.off ⟨[], rfl, trivial, rfl⟩ rfl rfl rfl rfl
 intro θ R hd
 obtain ⟨h17d, h19d, _⟩ := hd
 exact Opp.off ⟨[], rfl, trivial, rfl⟩ rfl rfl rfl rfl
 intro θ R hd
 obtain ⟨h20d, _⟩ := hd
 exact Opp.offU ⟨[], rfl, trivial, rfl⟩ rfl rfl rfl
 intro θ R hd
 obtain ⟨h20d, _⟩ := hd
 exact Opp.offU ⟨[], rfl, trivial, rfl⟩ rfl rfl rfl
 intro θ R hd
 obtain ⟨h20d, h22d, _⟩ := hd
 exact Opp.offU ⟨[], rfl, trivial, rfl⟩ rfl rfl rfl
 intro θ R hd
 obtain ⟨h20d, h21d, h23d, _⟩ := hd
 exact Opp.offU ⟨[], rfl, trivial, rfl⟩ rfl rfl rfl
 intro θ R hd
 obtain ⟨h20d, h24d, _⟩ := hd
 exact Opp.offU ⟨[], rfl, trivial, rfl⟩ rfl rfl rfl
 intro θ R hd
 obtain ⟨h20d, h25d, _⟩ := hd
 exact Opp.offU ⟨[], rfl, trivial, rfl⟩ rfl rfl rfl
 intro θ R hd
 obtain ⟨h20d, _⟩ := hd
 exact Opp.offU ⟨[], rfl, trivial, rfl⟩ rfl rfl rfl
 intro θ R hd
 obtain ⟨h20d, _⟩ := hd
 exact Opp.offU ⟨[], rfl, trivial, rfl⟩ rfl rfl rfl
 intro θ R hd
 obtain ⟨h20d, h27d, h28d, _⟩ := hd
 exact Opp.offU ⟨[], rfl, trivial, rfl⟩ rfl rfl rfl
 intro θ R hd
 obtain ⟨h20d, h29d, _⟩ := hd
 exact Opp.offU ⟨[], rfl, trivial, rfl⟩ rfl rfl rfl
 intro θ R hd
 obtain ⟨h20d, h30d, _⟩ := hd
 exact Opp.offU ⟨[], rfl, trivial, rfl⟩ rfl rfl rfl
 intro θ R hd
 obtain ⟨h20d, h26d, h31d, _⟩ := hd
 exact Opp.offU ⟨[], rfl, trivial, rfl⟩ rfl rfl rfl
 intro θ R hd
 obtain ⟨h20d, h32d, _⟩ := hd
 exact Opp.offU ⟨[], rfl, trivial, rfl⟩ rfl rfl rfl
 intro θ R hd
 obtain ⟨h17d, h20d, h33d, _⟩ := hd
 exact Opp.off ⟨[], rfl, trivial, rfl⟩ rfl rfl rfl rfl
 intro θ R hd
 obtain ⟨h17d, h34d, _⟩ := hd
 exact Opp.plain (OG.imp (OD.pickT rfl rfl rfl) (by rintro _ _ ⟨rfl, rfl⟩; exact ⟨[], rfl, trivial, rfl⟩)) rfl
 intro θ hall
 obtain ⟨_, _, _, _, _, _, _, _, _, _, _, _, _, _, _, _, _, _, _, _, _, _, _, _, _, _, _, _, _, _, _, _, _, _, _, _, _⟩ := hall
 refine G.at [] 0 (env' := [(1, vx), (2, .pointer (some ⟨g1, 0, none⟩)), (5, .int .i64 ((i : Int))), (50, .bool true)]) ⟨rfl, rfl, rfl, rfl, trivial⟩ (own' := box g1 27 [.int .i64 (cr), vcd] :: own) rfl ?_
 show G _ _ _ [] _ _ _ _
 refine G.nil (GE.then_ (GC.condT rfl (GC.seq (GC.region ?_))))
 refine G.stepD (OD.assign rfl rfl) rfl rfl rfl ?_
 refine G.nil (GE.then_ (GC.ret (GE.blockR (GE.passR (GE.passR (GE.blockR (GE.passR ?_)))))))
 exact GE.body [] 1 (res1 rfl rfl) rfl (⟨congrArg (fun (a0 : Bool) => (.bool (a0) : Value)) ((by rw [chrOk9, any_hit' (p := chrBad cr x) (k := i) (n := x.length) (by omega) (by unfold chrBad; rw [hg4, hg5]; rfl)]; simp : (false : Bool) = chrOk9 cr x)), rfl⟩)
 have hg5p := hg5
 replace hg5p := eq_true_of_not hg5p
 rcases Bool.eq_false_or_eq_true (decide (0 < (i : Int))) with hg6 | hg6
 have hg6p := hg6
 replace hg6p := of_decide_eq_true hg6p
 refine GC.at [] 0 (env' := [(1, vx), (2, .pointer (some ⟨g1, 0, none⟩)), (5, .int .i64 ((i : Int)))]) ⟨rfl, rfl, rfl, trivial⟩ rfl ?_
 refine GC.par (its := [⟨15, [], [], [], [], fun _ => .agg #[.int .i64 (cr), vcd], fun _ => True, fun _ => []⟩,
     ⟨16, [], [], [], [], fun _ => vx, fun _ => True, fun _ => []⟩,
     ⟨17, [], [], [], [], fun _ => .int .i64 ((i : Int)), fun _ => True, fun _ => []⟩,
     ⟨18, [(1, 16), (2, 17)], [], [], [], fun _ => elemPtr vx 2 (i), fun _ => True, fun _ => []⟩,
     ⟨19, [(3, 18)], [], [], [], fun _ => elemPtrF vx 2 (i) 0, fun _ => True, fun _ => []⟩,
     ⟨20, [(4, 19)], [], [], [], fun _ => (ux.getD (i) undef), fun _ => True, fun _ => []⟩,
     ⟨21, [(0, 15), (5, 20)], [], [], [], fun _ => .bool (wtOk cr ((x.getD (i) ([], 0)).1)), fun _ => True, fun _ => []⟩,
     ⟨22, [(6, 21)], [], [], [], fun _ => .bool false, fun _ => True, fun _ => []⟩,
     ⟨23, [(7, 22)], [], [], [], fun _ => .bool false, fun _ => True, fun _ => []⟩,
     ⟨24, [(8, 23)], [], [], [], fun _ => vx, fun _ => True, fun _ => []⟩,
     ⟨25, [(8, 23)], [], [], [], fun _ => .int .i64 ((i : Int)), fun _ => True, fun _ => []⟩,
     ⟨26, [(8, 23), (9, 24), (10, 25)], [], [], [], fun _ => elemPtr vx 2 (i), fun _ => True, fun _ => []⟩,
     ⟨27, [(8, 23), (11, 26)], [], [], [], fun _ => elemPtrF vx 2 (i) 1, fun _ => True, fun _ => []⟩,
     ⟨28, [(8, 23), (12, 27)], [], [], [], fun _ => .int .i64 ((x.getD (i) ([], 0)).2), fun _ => True, fun _ => []⟩,
     ⟨29, [(8, 23), (13, 28)], [], [], [], fun _ => .bool (inB ((x.getD (i) ([], 0)).2) 1 1000000), fun _ => True, fun _ => []⟩,
     ⟨30, [(8, 23), (14, 29)], [], [], [], fun _ => .bool false, fun _ => True, fun _ => []⟩,
     ⟨31, [(8, 23), (15, 30)], [], [], [], fun _ => .bool false, fun _ => True, fun _ => []⟩,
     ⟨32, [(16, 31)], [], [], [], fun _ => .bool false, fun _ => True, fun _ => []⟩,
     ⟨33, [(17, 32)], [], [], [], fun _ => .int .i64 ((i : Int)), fun _ => True, fun _ => []⟩,
     ⟨34, [(17, 32), (18, 33)], [], [], [], fun _ => .bool true, fun _ => True, fun _ => []⟩,
     ⟨35, [(17, 32), (19, 34)], [], [], [], fun _ => .bool true, fun _ => True, fun _ => []⟩,
     ⟨36, [(20, 35)], [], [], [], fun _ => vx, fun _ => True, fun _ => []⟩,
     ⟨37, [(20, 35)], [], [], [], fun _ => .int .i64 ((i : Int)), fun _ => True, fun _ => []⟩,
     ⟨38, [(20, 35), (22, 37)], [], [], [], fun _ => .int .i64 ((i : Int) - 1), fun _ => True, fun _ => []⟩,
     ⟨39, [(20, 35), (21, 36), (23, 38)], [], [], [], fun _ => elemPtr vx 2 (((i : Int) - 1 : Int).toNat), fun _ => True, fun _ => []⟩,
     ⟨40, [(20, 35), (24, 39)], [], [], [], fun _ => elemPtrF vx 2 (((i : Int) - 1 : Int).toNat) 0, fun _ => True, fun _ => []⟩,
     ⟨41, [(20, 35), (25, 40)], [], [], [], fun _ => (ux.getD (((i : Int) - 1 : Int).toNat) undef), fun _ => True, fun _ => []⟩,
     ⟨42, [(20, 35)], [], [], [], fun _ => vx, fun _ => True, fun _ => []⟩,
     ⟨43, [(20, 35)], [], [], [], fun _ => .int .i64 ((i : Int)), fun _ => True, fun _ => []⟩,
     ⟨44, [(20, 35), (27, 42), (28, 43)], [], [], [], fun _ => elemPtr vx 2 (i), fun _ => True, fun _ => []⟩,
     ⟨45, [(20, 35), (29, 44)], [], [], [], fun _ => elemPtrF vx 2 (i) 0, fun _ => True, fun _ => []⟩,
     ⟨46, [(20, 35), (30, 45)], [], [], [], fun _ => (ux.getD (i) undef), fun _ => True, fun _ => []⟩,
     ⟨47, [(20, 35), (26, 41), (31, 46)], [], [], [], fun _ => .bool (abvL ((x.getD (((i : Int) - 1 : Int).toNat) ([], 0)).1) ((x.getD (i) ([], 0)).1)), fun _ => True, fun _ => []⟩,
     ⟨48, [(20, 35), (32, 47)], [], [], [], fun _ => .bool (!(abvL ((x.getD (((i : Int) - 1 : Int).toNat) ([], 0)).1) ((x.getD (i) ([], 0)).1))), fun _ => True, fun _ => []⟩,
     ⟨49, [(17, 32), (20, 35), (33, 48)], [], [], [], fun _ => .bool (!(abvL ((x.getD (((i : Int) - 1 : Int).toNat) ([], 0)).1) ((x.getD (i) ([], 0)).1))), fun _ => True, fun _ => []⟩,
     ⟨50, [(17, 32), (34, 49)], [], [], [], fun _ => .bool (!(abvL ((x.getD (((i : Int) - 1 : Int).toNat) ([], 0)).1) ((x.getD (i) ([], 0)).1))), fun _ => True, fun _ => []⟩]) (by kernel_rfl) (by kernel_rfl) (POps.cons ?_ (POps.cons ?_ (POps.cons ?_ (POps.cons ?_ (POps.cons ?_ (POps.cons ?_ (POps.cons ?_ (POps.cons ?_ (POps.cons ?_ (POps.cons ?_ (POps.cons ?_ (POps.cons ?_ (POps.cons ?_ (POps.cons ?_ (POps.cons ?_ (POps.cons ?_ (POps.cons ?_ (POps.cons ?_ (POps.cons ?_ (POps.cons ?_ (POps.cons ?_ (POps.cons ?_ (POps.cons ?_ (POps.cons ?_ (POps.cons ?_ (POps.cons ?_ (POps.cons ?_ (POps.cons ?_ (POps.cons ?_ (POps.cons ?_ (POps.cons ?_ (POps.cons ?_ (POps.cons ?_ (POps.cons ?_ (POps.cons ?_ (POps.cons ?_ POps.nil)))))))))))))))))))))))))))))))))))) ?_
 intro θ R hd
 exact Opp.plain (OG.imp (OD.loadAgg rfl ti27 rfl (i := 0) rfl (us := [.int .i64 (cr), vcd]) rfl rfl) (by rintro _ _ ⟨rfl, rfl⟩; exact ⟨[], rfl, trivial, rfl⟩)) rfl
 intro θ R hd
 exact Opp.plain (OG.imp (OD.move rfl rfl) (by rintro _ _ ⟨rfl, rfl⟩; exact ⟨[], rfl, trivial, rfl⟩)) rfl
 intro θ R hd
 exact Opp.plain (OG.imp (OD.move rfl rfl) (by rintro _ _ ⟨rfl, rfl⟩; exact ⟨[], rfl, trivial, rfl⟩)) rfl
 intro θ R hd
 obtain ⟨h1d, h2d, _⟩ := hd
 exact Opp.plain (OG.imp (OD.indexAddr rfl et36 rfl (Ent.drop 1 ex.app) rfl (by omega)) (by rintro _ _ ⟨rfl, rfl⟩; exact ⟨[], rfl, trivial, rfl⟩)) rfl
 intro θ R hd
 obtain ⟨h3d, _⟩ := hd
 exact Opp.plain (OG.imp (OD.fieldAddrE rfl rfl (Ent.drop 1 ex.app) (by omega) fa56_0) (by rintro _ _ ⟨rfl, rfl⟩; exact ⟨[], rfl, trivial, rfl⟩)) rfl
 intro θ R hd
 obtain ⟨h4d, _⟩ := hd
 exact Opp.plain (OG.imp (OD.loadField rfl ti22 rfl (Ent.drop 1 ex.app) (by omega) (by decide) (recR_fst (by omega))) (by rintro _ _ ⟨rfl, rfl⟩; exact ⟨[], rfl, trivial, rfl⟩)) rfl
 intro θ R hd
 obtain ⟨h0d, h5d, _⟩ := hd
 exact Opp.plain (OG.imp (OG.call [.agg #[.int .i64 (cr), vcd], (ux.getD (i) undef)] ent72 rfl rfl rfl rfl (by exact (l5Lattice_w scd (Ent.drop 1 ecd.app) (ax.get (by omega)) (Ent.drop 1 ((mx (i) (by omega)).app)) (rec_le hle (by omega))))) (by rintro _ _ ⟨rfl, rfl⟩; exact ⟨[], rfl, trivial, rfl⟩)) rfl
 intro θ R hd
 obtain ⟨h6d, _⟩ := hd
 exact Opp.plain (OG.imp (OD.not rfl rfl) (by rintro _ _ ⟨rfl, rfl⟩; exact ⟨[], congrArg Value.bool hg4, trivial, rfl⟩)) rfl
 intro θ R hd
 obtain ⟨h7d, _⟩ := hd
 exact Opp.plain (OG.imp (OD.move rfl rfl) (by rintro _ _ ⟨rfl, rfl⟩; exact ⟨[], rfl, trivial, rfl⟩)) rfl
 intro θ R hd
 obtain ⟨h8d, _⟩ := hd
 exact Opp.on (OG.imp (OD.move rfl rfl) (by rintro _ _ ⟨rfl, rfl⟩; exact ⟨[], rfl, trivial, rfl⟩)) rfl rfl rfl
 intro θ R hd
 obtain ⟨h8d, _⟩ := hd
 exact Opp.on (OG.imp (OD.move rfl rfl) (by rintro _ _ ⟨rfl, rfl⟩; exact ⟨[], rfl, trivial, rfl⟩)) rfl rfl rfl
 intro θ R hd
 obtain ⟨h8d, h9d, h10d, _⟩ := hd
 exact Opp.on (OG.imp (OD.indexAddr rfl et36 rfl (Ent.drop 1 ex.app) rfl (by omega)) (by rintro _ _ ⟨rfl, rfl⟩; exact ⟨[], rfl, trivial, rfl⟩)) rfl rfl rfl
 intro θ R hd
 obtain ⟨h8d, h11d, _⟩ := hd
 exact Opp.on (OG.imp (OD.fieldAddrE rfl rfl (Ent.drop 1 ex.app) (by omega) fa56_1) (by rintro _ _ ⟨rfl, rfl⟩; exact ⟨[], rfl, trivial, rfl⟩)) rfl rfl rfl
 intro θ R hd
 obtain ⟨h8d, h12d, _⟩ := hd
 exact Opp.on (OG.imp (OD.loadField rfl ti3 rfl (Ent.drop 1 ex.app) (by omega) (by decide) (recR_snd (by omega))) (by rintro _ _ ⟨rfl, rfl⟩; exact ⟨[], rfl, trivial, rfl⟩)) rfl rfl rfl
 intro θ R hd
 obtain ⟨h8d, h13d, _⟩ := hd
 exact Opp.on (OG.imp (OG.call [.int .i64 ((x.getD (i) ([], 0)).2), .int .i64 (1), .int .i64 (1000000)] ent85 rfl rfl rfl rfl (by exact l1In_w)) (by rintro _ _ ⟨rfl, rfl⟩; exact ⟨[], rfl, trivial, rfl⟩)) rfl rfl rfl
 intro θ R hd
 obtain ⟨h8d, h14d, _⟩ := hd
 exact Opp.on (OG.imp (OD.not rfl rfl) (by rintro _ _ ⟨rfl, rfl⟩; exact ⟨[], congrArg Value.bool hg5, trivial, rfl⟩)) rfl rfl rfl
 intro θ R hd
 obtain ⟨h8d, h15d, _⟩ := hd
 exact Opp.plain (OG.imp (OD.pickF rfl rfl rfl) (by rintro _ _ ⟨rfl, rfl⟩; exact ⟨[], rfl, trivial, rfl⟩)) rfl
 intro θ R hd
 obtain ⟨h16d, _⟩ := hd
 exact Opp.plain (OG.imp (OD.move rfl rfl) (by rintro _ _ ⟨rfl, rfl⟩; exact ⟨[], rfl, trivial, rfl⟩)) rfl
 intro θ R hd
 obtain ⟨h17d, _⟩ := hd
 exact Opp.on (OG.imp (OD.move rfl rfl) (by rintro _ _ ⟨rfl, rfl⟩; exact ⟨[], rfl, trivial, rfl⟩)) rfl rfl rfl
 intro θ R hd
 obtain ⟨h17d, h18d, _⟩ := hd
 exact Opp.on (OG.imp (OD.gtr rfl rfl rfl) (by rintro _ _ ⟨rfl, rfl⟩; exact ⟨[], congrArg Value.bool hg6, trivial, rfl⟩)) rfl rfl rfl
 intro θ R hd
 obtain ⟨h17d, h19d, _⟩ := hd
 exact Opp.on (OG.imp (OD.move rfl rfl) (by rintro _ _ ⟨rfl, rfl⟩; exact ⟨[], rfl, trivial, rfl⟩)) rfl rfl rfl
 intro θ R hd
 obtain ⟨h20d, _⟩ := hd
 exact Opp.on (OG.imp (OD.move rfl rfl) (by rintro _ _ ⟨rfl, rfl⟩; exact ⟨[], rfl, trivial, rfl⟩)) rfl rfl rfl
 intro θ R hd
 obtain ⟨h20d, _⟩ := hd
 exact Opp.on (OG.imp (OD.move rfl rfl) (by rintro _ _ ⟨rfl, rfl⟩; exact ⟨[], rfl, trivial, rfl⟩)) rfl rfl rfl
 intro θ R hd
 obtain ⟨h20d, h22d, _⟩ := hd
 exact Opp.on (OG.imp (OD.subI rfl rfl rfl (by omega)) (by rintro _ _ ⟨rfl, rfl⟩; exact ⟨[], rfl, trivial, rfl⟩)) rfl rfl rfl
 intro θ R hd
 obtain ⟨h20d, h21d, h23d, _⟩ := hd
 exact Opp.on (OG.imp (OD.indexAddr rfl et36 rfl (Ent.drop 1 ex.app) rfl (by omega)) (by rintro _ _ ⟨rfl, rfl⟩; exact ⟨[], rfl, trivial, rfl⟩)) rfl rfl rfl
 intro θ R hd
 obtain ⟨h20d, h24d, _⟩ := hd
 exact Opp.on (OG.imp (OD.fieldAddrE rfl rfl (Ent.drop 1 ex.app) (by omega) fa56_0) (by rintro _ _ ⟨rfl, rfl⟩; exact ⟨[], rfl, trivial, rfl⟩)) rfl rfl rfl
 intro θ R hd
 obtain ⟨h20d, h25d, _⟩ := hd
 exact Opp.on (OG.imp (OD.loadField rfl ti22 rfl (Ent.drop 1 ex.app) (by omega) (by decide) (recR_fst (by omega))) (by rintro _ _ ⟨rfl, rfl⟩; exact ⟨[], rfl, trivial, rfl⟩)) rfl rfl rfl
 intro θ R hd
 obtain ⟨h20d, _⟩ := hd
 exact Opp.on (OG.imp (OD.move rfl rfl) (by rintro _ _ ⟨rfl, rfl⟩; exact ⟨[], rfl, trivial, rfl⟩)) rfl rfl rfl
 intro θ R hd
 obtain ⟨h20d, _⟩ := hd
 exact Opp.on (OG.imp (OD.move rfl rfl) (by rintro _ _ ⟨rfl, rfl⟩; exact ⟨[], rfl, trivial, rfl⟩)) rfl rfl rfl
 intro θ R hd
 obtain ⟨h20d, h27d, h28d, _⟩ := hd
 exact Opp.on (OG.imp (OD.indexAddr rfl et36 rfl (Ent.drop 1 ex.app) rfl (by omega)) (by rintro _ _ ⟨rfl, rfl⟩; exact ⟨[], rfl, trivial, rfl⟩)) rfl rfl rfl
 intro θ R hd
 obtain ⟨h20d, h29d, _⟩ := hd
 exact Opp.on (OG.imp (OD.fieldAddrE rfl rfl (Ent.drop 1 ex.app) (by omega) fa56_0) (by rintro _ _ ⟨rfl, rfl⟩; exact ⟨[], rfl, trivial, rfl⟩)) rfl rfl rfl
 intro θ R hd
 obtain ⟨h20d, h30d, _⟩ := hd
 exact Opp.on (OG.imp (OD.loadField rfl ti22 rfl (Ent.drop 1 ex.app) (by omega) (by decide) (recR_fst (by omega))) (by rintro _ _ ⟨rfl, rfl⟩; exact ⟨[], rfl, trivial, rfl⟩)) rfl rfl rfl
 intro θ R hd
 obtain ⟨h20d, h26d, h31d, _⟩ := hd
 exact Opp.on (OG.imp (OG.call [(ux.getD (((i : Int) - 1 : Int).toNat) undef), (ux.getD (i) undef)] ent86 rfl rfl rfl rfl (by exact (l6Above_w (ax.get (by omega)) (Ent.drop 1 ((mx (((i : Int) - 1 : Int).toNat) (by omega)).app)) (ax.get (by omega)) (Ent.drop 1 ((mx (i) (by omega)).app)) (hle _ (recD_mem (by omega))) (hle _ (recD_mem (by omega)))))) (by rintro _ _ ⟨rfl, rfl⟩; exact ⟨[], rfl, trivial, rfl⟩)) rfl rfl rfl
 intro θ R hd
 obtain ⟨h20d, h32d, _⟩ := hd
 exact Opp.on (OG.imp (OD.not rfl rfl) (by rintro _ _ ⟨rfl, rfl⟩; exact ⟨[], rfl, trivial, rfl⟩)) rfl rfl rfl
 intro θ R hd
 obtain ⟨h17d, h20d, h33d, _⟩ := hd
 exact Opp.on (OG.imp (OD.pickT rfl rfl rfl) (by rintro _ _ ⟨rfl, rfl⟩; exact ⟨[], rfl, trivial, rfl⟩)) rfl rfl rfl
 intro θ R hd
 obtain ⟨h17d, h34d, _⟩ := hd
 exact Opp.plain (OG.imp (OD.pickF rfl rfl rfl) (by rintro _ _ ⟨rfl, rfl⟩; exact ⟨[], rfl, trivial, rfl⟩)) rfl
 intro θ hall
 obtain ⟨_, _, _, _, _, _, _, _, _, _, _, _, _, _, _, _, _, _, _, _, _, _, _, _, _, _, _, _, _, _, _, _, _, _, _, _, _⟩ := hall
 refine G.at [] 0 (env' := [(1, vx), (2, .pointer (some ⟨g1, 0, none⟩)), (5, .int .i64 ((i : Int))), (50, .bool (!(abvL ((x.getD (((i : Int) - 1 : Int).toNat) ([], 0)).1) ((x.getD (i) ([], 0)).1))))]) ⟨rfl, rfl, rfl, rfl, trivial⟩ (own' := box g1 27 [.int .i64 (cr), vcd] :: own) rfl ?_
 show G _ _ _ [] _ _ _ _
 refine G.nil (GE.then_ ?_)
 refine GC.cond rfl (fun hc7 => ?_) (fun hc7 => ?_)
 replace hc7 := eq_false_of_not hc7
 refine GC.seq (GC.region ?_)
 refine G.stepD (OD.assign rfl rfl) rfl rfl rfl ?_
 refine G.nil (GE.then_ (GC.ret (GE.blockR (GE.passR (GE.passR (GE.blockR (GE.passR ?_)))))))
 exact GE.body [] 1 (res1 rfl rfl) rfl (⟨congrArg (fun (a0 : Bool) => (.bool (a0) : Value)) ((by rw [chrOk9, any_hit' (p := chrBad cr x) (k := i) (n := x.length) (by omega) (by unfold chrBad; rw [hg4, hg5, hg6, show (!(abvL (x.getD ((i : Int) - 1).toNat ([], 0)).1 (x.getD i ([], 0)).1)) = true from (by rw [show abvL (x.getD ((i : Int) - 1).toNat ([], 0)).1 (x.getD i ([], 0)).1 = false from hc7]; rfl)]; rfl)]; simp : (false : Bool) = chrOk9 cr x)), rfl⟩)
 replace hc7 := eq_true_of_not hc7
 refine GC.skip (GE.blockN (GE.then_ (GC.region ?_)))
 refine G.stepD (OD.move rfl rfl) rfl rfl rfl ?_
 refine G.stepD (OD.addI rfl rfl rfl (by omega)) rfl rfl rfl ?_
 refine G.stepD (OD.assign rfl rfl) rfl rfl rfl ?_
 refine G.nil ?_
 exact GE.again (i + 1) (⟨by omega, any_succ ht (by unfold chrBad; rw [hg4, hg5, hg6, show (!(abvL (x.getD ((i : Int) - 1).toNat ([], 0)).1 (x.getD i ([], 0)).1)) = false from (by rw [show abvL (x.getD ((i : Int) - 1).toNat ([], 0)).1 (x.getD i ([], 0)).1 = true from hc7]; rfl)]; rfl)⟩) (by first | omega | (dsimp only; omega)) ⟨rfl, rfl, rfl, trivial⟩ [] 0 rfl
 have hg6p := hg6
 replace hg6p := of_decide_eq_false hg6p
 refine GC.at [] 0 (env' := [(1, vx), (2, .pointer (some ⟨g1, 0, none⟩)), (5, .int .i64 ((i : Int)))]) ⟨rfl, rfl, rfl, trivial⟩ rfl ?_
 refine GC.par (its := [⟨15, [], [], [], [], fun _ => .agg #[.int .i64 (cr), vcd], fun _ => True, fun _ => []⟩,
     ⟨16, [], [], [], [], fun _ => vx, fun _ => True, fun _ => []⟩,
     ⟨17, [], [], [], [], fun _ => .int .i64 ((i : Int)), fun _ => True, fun _ => []⟩,
     ⟨18, [(1, 16), (2, 17)], [], [], [], fun _ => elemPtr vx 2 (i), fun _ => True, fun _ => []⟩,
     ⟨19, [(3, 18)], [], [], [], fun _ => elemPtrF vx 2 (i) 0, fun _ => True, fun _ => []⟩,
     ⟨20, [(4, 19)], [], [], [], fun _ => (ux.getD (i) undef), fun _ => True, fun _ => []⟩,
     ⟨21, [(0, 15), (5, 20)], [], [], [], fun _ => .bool (wtOk cr ((x.getD (i) ([], 0)).1)), fun _ => True, fun _ => []⟩,
     ⟨22, [(6, 21)], [], [], [], fun _ => .bool false, fun _ => True, fun _ => []⟩,
     ⟨23, [(7, 22)], [], [], [], fun _ => .bool false, fun _ => True, fun _ => []⟩,
     ⟨24, [(8, 23)], [], [], [], fun _ => vx, fun _ => True, fun _ => []⟩,
     ⟨25, [(8, 23)], [], [], [], fun _ => .int .i64 ((i : Int)), fun _ => True, fun _ => []⟩,
     ⟨26, [(8, 23), (9, 24), (10, 25)], [], [], [], fun _ => elemPtr vx 2 (i), fun _ => True, fun _ => []⟩,
     ⟨27, [(8, 23), (11, 26)], [], [], [], fun _ => elemPtrF vx 2 (i) 1, fun _ => True, fun _ => []⟩,
     ⟨28, [(8, 23), (12, 27)], [], [], [], fun _ => .int .i64 ((x.getD (i) ([], 0)).2), fun _ => True, fun _ => []⟩,
     ⟨29, [(8, 23), (13, 28)], [], [], [], fun _ => .bool (inB ((x.getD (i) ([], 0)).2) 1 1000000), fun _ => True, fun _ => []⟩,
     ⟨30, [(8, 23), (14, 29)], [], [], [], fun _ => .bool false, fun _ => True, fun _ => []⟩,
     ⟨31, [(8, 23), (15, 30)], [], [], [], fun _ => .bool false, fun _ => True, fun _ => []⟩,
     ⟨32, [(16, 31)], [], [], [], fun _ => .bool false, fun _ => True, fun _ => []⟩,
     ⟨33, [(17, 32)], [], [], [], fun _ => .int .i64 ((i : Int)), fun _ => True, fun _ => []⟩,
     ⟨34, [(17, 32), (18, 33)], [], [], [], fun _ => .bool false, fun _ => True, fun _ => []⟩,
     ⟨35, [(17, 32), (19, 34)], [], [], [], fun _ => .bool false, fun _ => True, fun _ => []⟩,
     ⟨36, [(20, 35)], [], [], [], fun _ => undef, fun _ => True, fun _ => []⟩,
     ⟨37, [(20, 35)], [], [], [], fun _ => undef, fun _ => True, fun _ => []⟩,
     ⟨38, [(20, 35), (22, 37)], [], [], [], fun _ => undef, fun _ => True, fun _ => []⟩,
     ⟨39, [(20, 35), (21, 36), (23, 38)], [], [], [], fun _ => undef, fun _ => True, fun _ => []⟩,
     ⟨40, [(20, 35), (24, 39)], [], [], [], fun _ => undef, fun _ => True, fun _ => []⟩,
     ⟨41, [(20, 35), (25, 40)], [], [], [], fun _ => undef, fun _ => True, fun _ => []⟩,
     ⟨42, [(20, 35)], [], [], [], fun _ => undef, fun _ => True, fun _ => []⟩,
     ⟨43, [(20, 35)], [], [], [], fun _ => undef, fun _ => True, fun _ => []⟩,
     ⟨44, [(20, 35), (27, 42), (28, 43)], [], [], [], fun _ => undef, fun _ => True, fun _ => []⟩,
     ⟨45, [(20, 35), (29, 44)], [], [], [], fun _ => undef, fun _ => True, fun _ => []⟩,
     ⟨46, [(20, 35), (30, 45)], [], [], [], fun _ => undef, fun _ => True, fun _ => []⟩,
     ⟨47, [(20, 35), (26, 41), (31, 46)], [], [], [], fun _ => undef, fun _ => True, fun _ => []⟩,
     ⟨48, [(20, 35), (32, 47)], [], [], [], fun _ => undef, fun _ => True, fun _ => []⟩,
     ⟨49, [(17, 32), (20, 35), (33, 48)], [], [], [], fun _ => .bool false, fun _ => True, fun _ => []⟩,
     ⟨50, [(17, 32), (34, 49)], [], [], [], fun _ => .bool false, fun _ => True, fun _ => []⟩]) (by kernel_rfl) (by kernel_rfl) (POps.cons ?_ (POps.cons ?_ (POps.cons ?_ (POps.cons ?_ (POps.cons ?_ (POps.cons ?_ (POps.cons ?_ (POps.cons ?_ (POps.cons ?_ (POps.cons ?_ (POps.cons ?_ (POps.cons ?_ (POps.cons ?_ (POps.cons ?_ (POps.cons ?_ (POps.cons ?_ (POps.cons ?_ (POps.cons ?_ (POps.cons ?_ (POps.cons ?_ (POps.cons ?_ (POps.cons ?_ (POps.cons ?_ (POps.cons ?_ (POps.cons ?_ (POps.cons ?_ (POps.cons ?_ (POps.cons ?_ (POps.cons ?_ (POps.cons ?_ (POps.cons ?_ (POps.cons ?_ (POps.cons ?_ (POps.cons ?_ (POps.cons ?_ (POps.cons ?_ POps.nil)))))))))))))))))))))))))))))))))))) ?_
 intro θ R hd
 exact Opp.plain (OG.imp (OD.loadAgg rfl ti27 rfl (i := 0) rfl (us := [.int .i64 (cr), vcd]) rfl rfl) (by rintro _ _ ⟨rfl, rfl⟩; exact ⟨[], rfl, trivial, rfl⟩)) rfl
 intro θ R hd
 exact Opp.plain (OG.imp (OD.move rfl rfl) (by rintro _ _ ⟨rfl, rfl⟩; exact ⟨[], rfl, trivial, rfl⟩)) rfl
 intro θ R hd
 exact Opp.plain (OG.imp (OD.move rfl rfl) (by rintro _ _ ⟨rfl, rfl⟩; exact ⟨[], rfl, trivial, rfl⟩)) rfl
 intro θ R hd
 obtain ⟨h1d, h2d, _⟩ := hd
 exact Opp.plain (OG.imp (OD.indexAddr rfl et36 rfl (Ent.drop 1 ex.app) rfl (by omega)) (by rintro _ _ ⟨rfl, rfl⟩; exact ⟨[], rfl, trivial, rfl⟩)) rfl
 intro θ R hd
 obtain ⟨h3d, _⟩ := hd
 exact Opp.plain (OG.imp (OD.fieldAddrE rfl rfl (Ent.drop 1 ex.app) (by omega) fa56_0) (by rintro _ _ ⟨rfl, rfl⟩; exact ⟨[], rfl, trivial, rfl⟩)) rfl
 intro θ R hd
 obtain ⟨h4d, _⟩ := hd
 exact Opp.plain (OG.imp (OD.loadField rfl ti22 rfl (Ent.drop 1 ex.app) (by omega) (by decide) (recR_fst (by omega))) (by rintro _ _ ⟨rfl, rfl⟩; exact ⟨[], rfl, trivial, rfl⟩)) rfl
 intro θ R hd
 obtain ⟨h0d, h5d, _⟩ := hd
 exact Opp.plain (OG.imp (OG.call [.agg #[.int .i64 (cr), vcd], (ux.getD (i) undef)] ent72 rfl rfl rfl rfl (by exact (l5Lattice_w scd (Ent.drop 1 ecd.app) (ax.get (by omega)) (Ent.drop 1 ((mx (i) (by omega)).app)) (rec_le hle (by omega))))) (by rintro _ _ ⟨rfl, rfl⟩; exact ⟨[], rfl, trivial, rfl⟩)) rfl
 intro θ R hd
 obtain ⟨h6d, _⟩ := hd
 exact Opp.plain (OG.imp (OD.not rfl rfl) (by rintro _ _ ⟨rfl, rfl⟩; exact ⟨[], congrArg Value.bool hg4, trivial, rfl⟩)) rfl
 intro θ R hd
 obtain ⟨h7d, _⟩ := hd
 exact Opp.plain (OG.imp (OD.move rfl rfl) (by rintro _ _ ⟨rfl, rfl⟩; exact ⟨[], rfl, trivial, rfl⟩)) rfl
 intro θ R hd
 obtain ⟨h8d, _⟩ := hd
 exact Opp.on (OG.imp (OD.move rfl rfl) (by rintro _ _ ⟨rfl, rfl⟩; exact ⟨[], rfl, trivial, rfl⟩)) rfl rfl rfl
 intro θ R hd
 obtain ⟨h8d, _⟩ := hd
 exact Opp.on (OG.imp (OD.move rfl rfl) (by rintro _ _ ⟨rfl, rfl⟩; exact ⟨[], rfl, trivial, rfl⟩)) rfl rfl rfl
 intro θ R hd
 obtain ⟨h8d, h9d, h10d, _⟩ := hd
 exact Opp.on (OG.imp (OD.indexAddr rfl et36 rfl (Ent.drop 1 ex.app) rfl (by omega)) (by rintro _ _ ⟨rfl, rfl⟩; exact ⟨[], rfl, trivial, rfl⟩)) rfl rfl rfl
 intro θ R hd
 obtain ⟨h8d, h11d, _⟩ := hd
 exact Opp.on (OG.imp (OD.fieldAddrE rfl rfl (Ent.drop 1 ex.app) (by omega) fa56_1) (by rintro _ _ ⟨rfl, rfl⟩; exact ⟨[], rfl, trivial, rfl⟩)) rfl rfl rfl
 intro θ R hd
 obtain ⟨h8d, h12d, _⟩ := hd
 exact Opp.on (OG.imp (OD.loadField rfl ti3 rfl (Ent.drop 1 ex.app) (by omega) (by decide) (recR_snd (by omega))) (by rintro _ _ ⟨rfl, rfl⟩; exact ⟨[], rfl, trivial, rfl⟩)) rfl rfl rfl
 intro θ R hd
 obtain ⟨h8d, h13d, _⟩ := hd
 exact Opp.on (OG.imp (OG.call [.int .i64 ((x.getD (i) ([], 0)).2), .int .i64 (1), .int .i64 (1000000)] ent85 rfl rfl rfl rfl (by exact l1In_w)) (by rintro _ _ ⟨rfl, rfl⟩; exact ⟨[], rfl, trivial, rfl⟩)) rfl rfl rfl
 intro θ R hd
 obtain ⟨h8d, h14d, _⟩ := hd
 exact Opp.on (OG.imp (OD.not rfl rfl) (by rintro _ _ ⟨rfl, rfl⟩; exact ⟨[], congrArg Value.bool hg5, trivial, rfl⟩)) rfl rfl rfl
 intro θ R hd
 obtain ⟨h8d, h15d, _⟩ := hd
 exact Opp.plain (OG.imp (OD.pickF rfl rfl rfl) (by rintro _ _ ⟨rfl, rfl⟩; exact ⟨[], rfl, trivial, rfl⟩)) rfl
 intro θ R hd
 obtain ⟨h16d, _⟩ := hd
 exact Opp.plain (OG.imp (OD.move rfl rfl) (by rintro _ _ ⟨rfl, rfl⟩; exact ⟨[], rfl, trivial, rfl⟩)) rfl
 intro θ R hd
 obtain ⟨h17d, _⟩ := hd
 exact Opp.on (OG.imp (OD.move rfl rfl) (by rintro _ _ ⟨rfl, rfl⟩; exact ⟨[], rfl, trivial, rfl⟩)) rfl rfl rfl
 intro θ R hd
 obtain ⟨h17d, h18d, _⟩ := hd
 exact Opp.on (OG.imp (OD.gtr rfl rfl rfl) (by rintro _ _ ⟨rfl, rfl⟩; exact ⟨[], congrArg Value.bool hg6, trivial, rfl⟩)) rfl rfl rfl
 intro θ R hd
 obtain ⟨h17d, h19d, _⟩ := hd
 exact Opp.on (OG.imp (OD.move rfl rfl) (by rintro _ _ ⟨rfl, rfl⟩; exact ⟨[], rfl, trivial, rfl⟩)) rfl rfl rfl
 intro θ R hd
 obtain ⟨h20d, _⟩ := hd
 exact Opp.off ⟨[], rfl, trivial, rfl⟩ rfl rfl rfl rfl
 intro θ R hd
 obtain ⟨h20d, _⟩ := hd
 exact Opp.off ⟨[], rfl, trivial, rfl⟩ rfl rfl rfl rfl
 intro θ R hd
 obtain ⟨h20d, h22d, _⟩ := hd
 exact Opp.off ⟨[], rfl, trivial, rfl⟩ rfl rfl rfl rfl
 intro θ R hd
 obtain ⟨h20d, h21d, h23d, _⟩ := hd
 exact Opp.off ⟨[], rfl, trivial, rfl⟩ rfl rfl rfl rfl
 intro θ R hd
 obtain ⟨h20d, h24d, _⟩ := hd
 exact Opp.off ⟨[], rfl, trivial, rfl⟩ rfl rfl rfl rfl
 intro θ R hd
 obtain ⟨h20d, h25d, _⟩ := hd
 exact Opp.off ⟨[], rfl, trivial, rfl⟩ rfl rfl rfl rfl
 intro θ R hd
 obtain ⟨h20d, _⟩ := hd
 exact Opp.off ⟨[], rfl, trivial, rfl⟩ rfl rfl rfl rfl
 intro θ R hd
 obtain ⟨h20d, _⟩ := hd
 exact Opp.off ⟨[], rfl, trivial, rfl⟩ rfl rfl rfl rfl
 intro θ R hd
 obtain ⟨h20d, h27d, h28d, _⟩ := hd
 exact Opp.off ⟨[], rfl, trivial, rfl⟩ rfl rfl rfl rfl
 intro θ R hd
 obtain ⟨h20d, h29d, _⟩ := hd
 exact Opp.off ⟨[], rfl, trivial, rfl⟩ rfl rfl rfl rfl
 intro θ R hd
 obtain ⟨h20d, h30d, _⟩ := hd
 exact Opp.off ⟨[], rfl, trivial, rfl⟩ rfl rfl rfl rfl
 intro θ R hd
 obtain ⟨h20d, h26d, h31d, _⟩ := hd
 exact Opp.off ⟨[], rfl, trivial, rfl⟩ rfl rfl rfl rfl
 intro θ R hd
 obtain ⟨h20d, h32d, _⟩ := hd
 exact Opp.off ⟨[], rfl, trivial, rfl⟩ rfl rfl rfl rfl
 intro θ R hd
 obtain ⟨h17d, h20d, h33d, _⟩ := hd
 exact Opp.on (OG.imp (OD.pickF rfl rfl rfl) (by rintro _ _ ⟨rfl, rfl⟩; exact ⟨[], rfl, trivial, rfl⟩)) rfl rfl rfl
 intro θ R hd
 obtain ⟨h17d, h34d, _⟩ := hd
 exact Opp.plain (OG.imp (OD.pickF rfl rfl rfl) (by rintro _ _ ⟨rfl, rfl⟩; exact ⟨[], rfl, trivial, rfl⟩)) rfl
 intro θ hall
 obtain ⟨_, _, _, _, _, _, _, _, _, _, _, _, _, _, _, _, _, _, _, _, _, _, _, _, _, _, _, _, _, _, _, _, _, _, _, _, _⟩ := hall
 refine G.at [] 0 (env' := [(1, vx), (2, .pointer (some ⟨g1, 0, none⟩)), (5, .int .i64 ((i : Int))), (50, .bool false)]) ⟨rfl, rfl, rfl, rfl, trivial⟩ (own' := box g1 27 [.int .i64 (cr), vcd] :: own) rfl ?_
 show G _ _ _ [] _ _ _ _
 refine G.nil (GE.then_ (GC.condF rfl (GC.skip (GE.blockN (GE.then_ (GC.region ?_))))))
 refine G.stepD (OD.move rfl rfl) rfl rfl rfl ?_
 refine G.stepD (OD.addI rfl rfl rfl (by omega)) rfl rfl rfl ?_
 refine G.stepD (OD.assign rfl rfl) rfl rfl rfl ?_
 refine G.nil ?_
 exact GE.again (i + 1) (⟨by omega, any_succ ht (by unfold chrBad; rw [hg4, hg5, hg6]; rfl)⟩) (by first | omega | (dsimp only; omega)) ⟨rfl, rfl, rfl, trivial⟩ [] 0 rfl
 replace hc3 := of_decide_eq_false hc3
 have hall : (List.range x.length).any (chrBad cr x) = false := by rw [show x.length = i by omega]; exact ht
 refine GC.exit (GE.pass (GE.pass (GE.hit (GE.then_ (GC.seq (GC.region ?_))))))
 refine G.stepD (OD.assign rfl rfl) rfl rfl rfl ?_
 refine G.nil (GE.then_ (GC.ret ?_))
 exact GE.body [] 1 (res1 rfl rfl) rfl (⟨congrArg (fun (a0 : Bool) => (.bool (a0) : Value)) ((by rw [chrOk9, decide_eq_true (show (x.length : Int) ≤ 400 by omega), hall]; rfl : (true : Bool) = chrOk9 cr x)), rfl⟩)

set_option maxRecDepth 100000 in
theorem specCharacterOk_w {W : World} {own : List Asn} {cr : Int} {vcd : Value} {cd : List Int} {vx : Value} {ux : List Value} {x : List Rec}  (scd : IsS vcd) (ecd : Ent own fun w => Ints w vcd cd)   (sx : IsS vx) (ex : Ent own fun w => Recs w vx ux x) (mx : ∀ k, k < x.length → Ent own fun w => Ints w (ux.getD k undef) (x.getD k ([], 0)).1) (lx : ux.length = x.length) (ax : AllS ux)  (hl0 : cd.length ≤ 1073741824) (hlx : x.length ≤ 1073741824) (hle : ∀ r ∈ x, r.1.length ≤ 1073741824) : Spec Tryd.prog 20 [.agg #[.int .i64 (cr), vcd], vx] W own (fun v ow => v = .bool (chrOk cr cd x) ∧ ow = own) := by
 refine Spec.enter Tryd.f20 _ Tryd.func20 rfl (n := 12) rfl rfl ?_
 refine GC.seq (GC.region ?_)
 refine G.step (OG.box (cs := [.int .i64 (cr), vcd]) rfl rfl rfl) rfl rfl rfl ?_
 rintro _ _ ⟨g1, rfl, rfl⟩
 refine G.stepD (OD.assign rfl rfl) rfl rfl rfl ?_
 refine G.nil (GE.then_ (GC.seq (GC.region ?_)))
 refine G.stepD (OD.loadAgg rfl ti27 rfl (i := 0) rfl (us := [.int .i64 (cr), vcd]) rfl rfl) rfl rfl rfl ?_
 refine G.step (OG.call [.agg #[.int .i64 (cr), vcd]] ent51 rfl rfl rfl rfl (by exact (specIsCartan_w scd (Ent.drop 1 ecd) (hl0)))) rfl rfl rfl ?_
 rintro _ _ ⟨rfl, rfl⟩
 refine G.stepD (OD.move rfl rfl) rfl rfl rfl ?_
 rcases Bool.eq_false_or_eq_true ((tyS cr cd).isSome) with hg2 | hg2
 have hg2e := hg2
 refine G.at [] 0 (env' := [(0, .agg #[.int .i64 (cr), vcd]), (1, vx), (2, .pointer (some ⟨g1, 0, none⟩)), (4, .bool false), (5, .agg #[.int .i64 (cr), vcd]), (6, .bool true), (7, .bool true)]) (⟨rfl, rfl, rfl, rfl, rfl, (congrArg (fun b => some (Value.bool b)) hg2e), (congrArg (fun b => some (Value.bool b)) hg2e), trivial⟩) rfl ?_
 refine G.stepGD (OD.loadAgg rfl ti27 rfl (i := 0) rfl (us := [.int .i64 (cr), vcd]) rfl rfl) rfl rfl rfl rfl rfl ?_
 refine G.stepGD (OD.move rfl rfl) rfl rfl rfl rfl rfl ?_
 refine G.stepG (OG.call [.agg #[.int .i64 (cr), vcd], vx] ent52 rfl rfl rfl rfl (by exact (l8Ok_w scd (Ent.drop 1 ecd) sx (Ent.drop 1 ex) (fun k hk => (Ent.drop 1 (mx k hk))) lx ax (by omega) (hle)))) rfl rfl rfl rfl rfl ?_
 rintro _ _ ⟨rfl, rfl⟩
 refine G.stepD (OD.pickT rfl rfl rfl) rfl rfl rfl ?_
 refine G.stepD (OD.assign rfl rfl) rfl rfl rfl ?_
 refine G.nil (GE.then_ (GC.ret ?_))
 exact GE.body [] 1 (res1 rfl rfl) rfl (⟨congrArg (fun (a0 : Bool) => (.bool (a0) : Value)) ((by rw [chrOk_9, hg2e]; rfl : (chrOk9 cr x : Bool) = chrOk cr cd x)), rfl⟩)
 have hg2e := hg2
 refine G.at [] 0 (env' := [(0, .agg #[.int .i64 (cr), vcd]), (1, vx), (2, .pointer (some ⟨g1, 0, none⟩)), (4, .bool false), (5, .agg #[.int .i64 (cr), vcd]), (6, .bool false), (7, .bool false)]) (⟨rfl, rfl, rfl, rfl, rfl, (congrArg (fun b => some (Value.bool b)) hg2e), (congrArg (fun b => some (Value.bool b)) hg2e), trivial⟩) rfl ?_
 refine G.skipG rfl rfl rfl rfl rfl rfl (G.skipG rfl rfl rfl rfl rfl rfl (G.skipG rfl rfl rfl rfl rfl rfl ?_))
 refine G.stepD (OD.pickF rfl rfl rfl) rfl rfl rfl ?_
 refine G.stepD (OD.assign rfl rfl) rfl rfl rfl ?_
 refine G.nil (GE.then_ (GC.ret ?_))
 exact GE.body [] 1 (res1 rfl rfl) rfl (⟨congrArg (fun (a0 : Bool) => (.bool (a0) : Value)) ((by rw [chrOk_9, hg2e]; rfl : (false : Bool) = chrOk cr cd x)), rfl⟩)

set_option maxHeartbeats 4000000 in
set_option maxRecDepth 100000 in
theorem characterOk_w {W : World} {own : List Asn} {cr : Int} {vcd : Value} {cd : List Int} {vx : Value} {ux : List Value} {x : List Rec}  (scd : IsS vcd) (ecd : Ent own fun w => Ints w vcd cd)   (sx : IsS vx) (ex : Ent own fun w => Recs w vx ux x) (mx : ∀ k, k < x.length → Ent own fun w => Ints w (ux.getD k undef) (x.getD k ([], 0)).1) (lx : ux.length = x.length) (ax : AllS ux)  (hl0 : cd.length ≤ 1073741824) (hlx : x.length ≤ 1073741824) (hle : ∀ r ∈ x, r.1.length ≤ 1073741824) (hg : Ent own fun w => ∃ m, w.cell? ⟨Tryd.l146_ren.g 1, 0, none⟩ = some (.int .i64 m)) : Spec Tryd.prog 22 [.agg #[.int .i64 (cr), vcd], vx] W own (fun v ow => v = .bool (chrOk cr cd x) ∧ ow = own) := by
 refine Spec.enter Tryd.f22 _ Tryd.func22 rfl (n := 50) rfl rfl ?_
 refine GC.seq (GC.region ?_)
 refine G.step (OG.box (cs := [.int .i64 (cr), vcd]) rfl rfl rfl) rfl rfl rfl ?_
 rintro _ _ ⟨g1, rfl, rfl⟩
 refine G.stepD (OD.assign rfl rfl) rfl rfl rfl ?_
 refine G.nil (GE.then_ (GC.seq (GC.seq (GC.region ?_))))
 refine G.stepD (OD.loadAgg rfl ti27 rfl (i := 0) rfl (us := [.int .i64 (cr), vcd]) rfl rfl) rfl rfl rfl ?_
 refine G.step (OG.call [.agg #[.int .i64 (cr), vcd]] ent54 rfl rfl rfl rfl (by exact (isCartan_w scd (Ent.drop 1 ecd) (hl0) ((Ent.drop 1 hg))))) rfl rfl rfl ?_
 rintro _ _ ⟨rfl, rfl⟩
 refine G.stepD (OD.not rfl rfl) rfl rfl rfl ?_
 refine G.stepD (OD.move rfl rfl) rfl rfl rfl ?_
 rcases Bool.eq_false_or_eq_true (!((tyS cr cd).isSome)) with hg2 | hg2
 have hg2e := hg2
 refine G.at [] 0 (env' := [(0, .agg #[.int .i64 (cr), vcd]), (1, vx), (2, .pointer (some ⟨g1, 0, none⟩)), (4, .bool false), (7, .agg #[.int .i64 (cr), vcd]), (8, .bool ((tyS cr cd).isSome)), (9, .bool true), (10, .bool true)]) (⟨rfl, rfl, rfl, rfl, rfl, rfl, (congrArg (fun b => some (Value.bool b)) hg2e), (congrArg (fun b => some (Value.bool b)) hg2e), trivial⟩) rfl ?_
 replace hg2 := eq_false_of_not hg2
 refine G.skipG rfl rfl rfl rfl rfl rfl (G.skipG rfl rfl rfl rfl rfl rfl (G.skipG rfl rfl rfl rfl rfl rfl ?_))
 refine G.stepD (OD.pickT rfl rfl rfl) rfl rfl rfl ?_
 refine G.nil (GE.then_ (GC.condT rfl (GC.seq (GC.region ?_))))
 refine G.stepD (OD.assign rfl rfl) rfl rfl rfl ?_
 refine G.nil (GE.then_ (GC.ret (GE.passR ?_)))
 exact GE.body [] 1 (res1 rfl rfl) rfl (⟨congrArg (fun (a0 : Bool) => (.bool (a0) : Value)) ((by rw [chrOk, hg2]; rfl : (false : Bool) = chrOk cr cd x)), rfl⟩)
 have hg2e := hg2
 refine G.at [] 0 (env' := [(0, .agg #[.int .i64 (cr), vcd]), (1, vx), (2, .pointer (some ⟨g1, 0, none⟩)), (4, .bool false), (7, .agg #[.int .i64 (cr), vcd]), (8, .bool ((tyS cr cd).isSome)), (9, .bool false), (10, .bool false)]) (⟨rfl, rfl, rfl, rfl, rfl, rfl, (congrArg (fun b => some (Value.bool b)) hg2e), (congrArg (fun b => some (Value.bool b)) hg2e), trivial⟩) rfl ?_
 replace hg2 := eq_true_of_not hg2
 refine G.stepGD (OD.move rfl rfl) rfl rfl rfl rfl rfl ?_
 refine G.stepGD (OD.len rfl rfl et36 rfl (Ent.drop 1 ex)) rfl rfl rfl rfl rfl ?_
 refine G.stepGD (OD.gtr rfl rfl rfl) rfl rfl rfl rfl rfl ?_
 refine G.stepD (OD.pickF rfl rfl rfl) rfl rfl rfl ?_
 refine G.nil (GE.then_ ?_)
 refine GC.cond rfl (fun hc3 => ?_) (fun hc3 => ?_)
 replace hc3 := of_decide_eq_true hc3
 refine GC.seq (GC.region ?_)
 refine G.stepD (OD.assign rfl rfl) rfl rfl rfl ?_
 refine G.nil (GE.then_ (GC.ret (GE.passR ?_)))
 exact GE.body [] 1 (res1 rfl rfl) rfl (⟨congrArg (fun (a0 : Bool) => (.bool (a0) : Value)) ((by rw [chrOk, decide_eq_false (show ¬ (x.length : Int) ≤ 400 by omega)]; simp : (false : Bool) = chrOk cr cd x)), rfl⟩)
 replace hc3 := of_decide_eq_false hc3
 refine GC.skip (GE.then_ (GC.seq (GC.seq (GC.region ?_))))
 refine G.stepD (OD.move rfl rfl) rfl rfl rfl ?_
 refine G.stepD (OD.len rfl rfl et36 rfl (Ent.drop 1 ex)) rfl rfl rfl ?_
 refine G.stepD (OD.move rfl rfl) rfl rfl rfl ?_
 refine G.nil (GE.then_ (GC.block ?_))
 refine GC.loop (ι := Nat) (fun i => [(1, vx), (2, .pointer (some ⟨g1, 0, none⟩)), (15, vx), (16, .int .i64 ((x.length : Nat))), (17, .int .i64 ((i : Int)))]) (fun i => box g1 27 [.int .i64 (cr), vcd] :: own) (fun i => (i ≤ x.length) ∧ ((List.range i).any (chrBad cr x) = false)) (fun i => x.length - i) 0 (⟨by omega, rfl⟩) ⟨rfl, rfl, rfl, rfl, rfl, trivial⟩ [] 0 rfl ?_
 rintro i ⟨hi, ht⟩
 refine GC.seq (GC.region ?_)
 refine G.stepD (OD.lss rfl rfl rfl) rfl rfl rfl ?_
 refine G.nil (GE.then_ (GC.seq ?_))
 refine GC.cond rfl (fun hc4 => ?_) (fun hc4 => ?_)
 replace hc4 := of_decide_eq_true hc4
 refine GC.skip (GE.then_ (GC.seq (GC.block (GC.seq (GC.region ?_)))))
 refine G.stepD (OD.move rfl rfl) rfl rfl rfl ?_
 refine G.stepD (OD.indexAddr rfl et36 rfl (Ent.drop 1 ex) rfl (by omega)) rfl rfl rfl ?_
 refine G.stepD (OD.loadRec rfl ti56 rfl (Ent.drop 1 ex) (by omega)) rfl rfl rfl ?_
 refine G.step (OG.alloc rfl ti56 (zs := [.slice none 0 0, .int .i64 (0)]) rfl) rfl rfl rfl ?_
 rintro _ _ ⟨g5, rfl, rfl⟩
 refine G.stepD (OD.assign rfl rfl) rfl rfl rfl ?_
 refine G.stepD0 (OD.store rfl ti56 rfl rfl (us := [(ux.getD (i) undef), .int .i64 ((x.getD (i) ([], 0)).2)]) rfl rfl (allC (IsS.one (ax.get (by omega))) (allC rfl rfl)) (i := 0) rfl rfl) rfl rfl ?_
 refine G.nil (GE.then_ (GC.seq ?_))
 rcases Bool.eq_false_or_eq_true (!(wtOk cr ((x.getD (i) ([], 0)).1))) with hg6 | hg6
 have hg6p := hg6
 replace hg6p := eq_false_of_not hg6p
 refine GC.at [] 0 (env' := [(1, vx), (2, .pointer (some ⟨g1, 0, none⟩)), (15, vx), (16, .int .i64 ((x.length : Nat))), (17, .int .i64 ((i : Int))), (6, .pointer (some ⟨g5, 0, none⟩)), (5, .int .i64 ((i : Int)))]) ⟨rfl, rfl, rfl, rfl, rfl, rfl, rfl, trivial⟩ rfl ?_
 refine GC.par (its := [⟨22, [], [], [], [], fun _ => .agg #[.int .i64 (cr), vcd], fun _ => True, fun _ => []⟩,
     ⟨23, [], [], [], [], fun _ => .pointer (some ⟨g5, 0, none⟩), fun _ => True, fun _ => []⟩,
     ⟨24, [(1, 23)], [], [], [], fun _ => (ux.getD (i) undef), fun _ => True, fun _ => []⟩,
     ⟨25, [(0, 22), (2, 24)], [], [], [], fun _ => .bool (wtOk cr ((x.getD (i) ([], 0)).1)), fun _ => True, fun _ => []⟩,
     ⟨26, [(3, 25)], [], [], [], fun _ => .bool true, fun _ => True, fun _ => []⟩,
     ⟨27, [(4, 26)], [], [], [], fun _ => .bool true, fun _ => True, fun _ => []⟩,
     ⟨28, [(5, 27)], [], [], [], fun _ => undef, fun _ => True, fun _ => []⟩,
     ⟨29, [(5, 27), (6, 28)], [], [], [], fun _ => undef, fun _ => True, fun _ => []⟩,
     ⟨30, [(5, 27), (7, 29)], [], [], [], fun _ => undef, fun _ => True, fun _ => []⟩,
     ⟨31, [(5, 27), (8, 30)], [], [], [], fun _ => undef, fun _ => True, fun _ => []⟩,
     ⟨32, [(5, 27), (9, 31)], [], [], [], fun _ => .bool true, fun _ => True, fun _ => []⟩,
     ⟨33, [(10, 32)], [], [], [], fun _ => .bool true, fun _ => True, fun _ => []⟩,
     ⟨34, [(11, 33)], [], [], [], fun _ => undef, fun _ => True, fun _ => []⟩,
     ⟨35, [(11, 33), (12, 34)], [], [], [], fun _ => undef, fun _ => True, fun _ => []⟩,
     ⟨36, [(11, 33), (13, 35)], [], [], [], fun _ => undef, fun _ => True, fun _ => []⟩,
     ⟨37, [(14, 36)], [], [], [], fun _ => undef, fun _ => True, fun _ => []⟩,
     ⟨38, [(14, 36)], [], [], [], fun _ => undef, fun _ => True, fun _ => []⟩,
     ⟨39, [(14, 36), (16, 38)], [], [], [], fun _ => undef, fun _ => True, fun _ => []⟩,
     ⟨40, [(14, 36), (15, 37), (17, 39)], [], [], [], fun _ => undef, fun _ => True, fun _ => []⟩,
     ⟨41, [(14, 36), (18, 40)], [], [], [], fun _ => undef, fun _ => True, fun _ => []⟩,
     ⟨42, [(14, 36), (19, 41)], [], [], [], fun _ => undef, fun _ => True, fun _ => []⟩,
     ⟨43, [(14, 36)], [], [], [], fun _ => undef, fun _ => True, fun _ => []⟩,
     ⟨44, [(14, 36), (21, 43)], [], [], [], fun _ => undef, fun _ => True, fun _ => []⟩,
     ⟨45, [(14, 36), (20, 42), (22, 44)], [], [], [], fun _ => undef, fun _ => True, fun _ => []⟩,
     ⟨46, [(14, 36), (23, 45)], [], [], [], fun _ => undef, fun _ => True, fun _ => []⟩,
     ⟨47, [(11, 33), (14, 36), (24, 46)], [], [], [], fun _ => undef, fun _ => True, fun _ => []⟩,
     ⟨48, [(11, 33), (25, 47)], [], [], [], fun _ => .bool true, fun _ => True, fun _ => []⟩]) (by kernel_rfl) (by kernel_rfl) (POps.cons ?_ (POps.cons ?_ (POps.cons ?_ (POps.cons ?_ (POps.cons ?_ (POps.cons ?_ (POps.cons ?_ (POps.cons ?_ (POps.cons ?_ (POps.cons ?_ (POps.cons ?_ (POps.cons ?_ (POps.cons ?_ (POps.cons ?_ (POps.cons ?_ (POps.cons ?_ (POps.cons ?_ (POps.cons ?_ (POps.cons ?_ (POps.cons ?_ (POps.cons ?_ (POps.cons ?_ (POps.cons ?_ (POps.cons ?_ (POps.cons ?_ (POps.cons ?_ (POps.cons ?_ POps.nil))))))))))))))))))))))))))) ?_
 intro θ R hd
 exact Opp.plain (OG.imp (OD.loadAgg rfl ti27 rfl (i := 1) rfl (us := [.int .i64 (cr), vcd]) rfl rfl) (by rintro _ _ ⟨rfl, rfl⟩; exact ⟨[], rfl, trivial, rfl⟩)) rfl
 intro θ R hd
 exact Opp.plain (OG.imp (OD.fieldAddr rfl rfl fa56_0) (by rintro _ _ ⟨rfl, rfl⟩; exact ⟨[], rfl, trivial, rfl⟩)) rfl
 intro θ R hd
 obtain ⟨h1d, _⟩ := hd
 exact Opp.plain (OG.imp (OD.load rfl ti22 rfl (i := 0) rfl rfl) (by rintro _ _ ⟨rfl, rfl⟩; exact ⟨[], rfl, trivial, rfl⟩)) rfl
 intro θ R hd
 obtain ⟨h0d, h2d, _⟩ := hd
 exact Opp.plain (OG.imp (OG.call [.agg #[.int .i64 (cr), vcd], (ux.getD (i) undef)] ent55 rfl rfl rfl rfl (by exact (isWeight_w scd (Ent.drop 2 ecd.app) (ax.get (by omega)) (Ent.drop 2 ((mx (i) (by omega)).app)) (rec_le hle (by omega))))) (by rintro _ _ ⟨rfl, rfl⟩; exact ⟨[], rfl, trivial, rfl⟩)) rfl
 intro θ R hd
 obtain ⟨h3d, _⟩ := hd
 exact Opp.plain (OG.imp (OD.not rfl rfl) (by rintro _ _ ⟨rfl, rfl⟩; exact ⟨[], congrArg Value.bool hg6, trivial, rfl⟩)) rfl
 intro θ R hd
 obtain ⟨h4d, _⟩ := hd
 exact Opp.plain (OG.imp (OD.move rfl rfl) (by rintro _ _ ⟨rfl, rfl⟩; exact ⟨[], rfl, trivial, rfl⟩)) rfl
 intro θ R hd
 obtain ⟨h5d, _⟩ := hd
 exact Opp.off ⟨[], rfl, trivial, rfl⟩ rfl rfl rfl rfl
 intro θ R hd
 obtain ⟨h5d, h6d, _⟩ := hd
 exact Opp.off ⟨[], rfl, trivial, rfl⟩ rfl rfl rfl rfl
 intro θ R hd
 obtain ⟨h5d, h7d, _⟩ := hd
 exact Opp.off ⟨[], rfl, trivial, rfl⟩ rfl rfl rfl rfl
 intro θ R hd
 obtain ⟨h5d, h8d, _⟩ := hd
 exact Opp.off ⟨[], rfl, trivial, rfl⟩ rfl rfl rfl rfl
 intro θ R hd
 obtain ⟨h5d, h9d, _⟩ := hd
 exact Opp.plain (OG.imp (OD.pickT rfl rfl rfl) (by rintro _ _ ⟨rfl, rfl⟩; exact ⟨[], rfl, trivial, rfl⟩)) rfl
 intro θ R hd
 obtain ⟨h10d, _⟩ := hd
 exact Opp.plain (OG.imp (OD.move rfl rfl) (by rintro _ _ ⟨rfl, rfl⟩; exact ⟨[], rfl, trivial, rfl⟩)) rfl
 intro θ R hd
 obtain ⟨h11d, _⟩ := hd
 exact Opp.off ⟨[], rfl, trivial, rfl⟩ rfl rfl rfl rfl
 intro θ R hd
 obtain ⟨h11d, h12d, _⟩ := hd
 exact Opp.off ⟨[], rfl, trivial, rfl⟩ rfl rfl rfl rfl
 intro θ R hd
 obtain ⟨h11d, h13d, _⟩ := hd
 exact Opp.off ⟨[], rfl, trivial, rfl⟩ rfl rfl rfl rfl
 intro θ R hd
 obtain ⟨h14d, _⟩ := hd
 exact Opp.offU ⟨[], rfl, trivial, rfl⟩ rfl rfl rfl
 intro θ R hd
 obtain ⟨h14d, _⟩ := hd
 exact Opp.offU ⟨[], rfl, trivial, rfl⟩ rfl rfl rfl
 intro θ R hd
 obtain ⟨h14d, h16d, _⟩ := hd
 exact Opp.offU ⟨[], rfl, trivial, rfl⟩ rfl rfl rfl
 intro θ R hd
 obtain ⟨h14d, h15d, h17d, _⟩ := hd
 exact Opp.offU ⟨[], rfl, trivial, rfl⟩ rfl rfl rfl
 intro θ R hd
 obtain ⟨h14d, h18d, _⟩ := hd
 exact Opp.offU ⟨[], rfl, trivial, rfl⟩ rfl rfl rfl
 intro θ R hd
 obtain ⟨h14d, h19d, _⟩ := hd
 exact Opp.offU ⟨[], rfl, trivial, rfl⟩ rfl rfl rfl
 intro θ R hd
 obtain ⟨h14d, _⟩ := hd
 exact Opp.offU ⟨[], rfl, trivial, rfl⟩ rfl rfl rfl
 intro θ R hd
 obtain ⟨h14d, h21d, _⟩ := hd
 exact Opp.offU ⟨[], rfl, trivial, rfl⟩ rfl rfl rfl
 intro θ R hd
 obtain ⟨h14d, h20d, h22d, _⟩ := hd
 exact Opp.offU ⟨[], rfl, trivial, rfl⟩ rfl rfl rfl
 intro θ R hd
 obtain ⟨h14d, h23d, _⟩ := hd
 exact Opp.offU ⟨[], rfl, trivial, rfl⟩ rfl rfl rfl
 intro θ R hd
 obtain ⟨h11d, h14d, h24d, _⟩ := hd
 exact Opp.off ⟨[], rfl, trivial, rfl⟩ rfl rfl rfl rfl
 intro θ R hd
 obtain ⟨h11d, h25d, _⟩ := hd
 exact Opp.plain (OG.imp (OD.pickT rfl rfl rfl) (by rintro _ _ ⟨rfl, rfl⟩; exact ⟨[], rfl, trivial, rfl⟩)) rfl
 intro θ hall
 obtain ⟨_, _, _, _, _, _, _, _, _, _, _, _, _, _, _, _, _, _, _, _, _, _, _, _, _, _, _, _⟩ := hall
 refine G.at [] 0 (env' := [(1, vx), (2, .pointer (some ⟨g1, 0, none⟩)), (15, vx), (16, .int .i64 ((x.length : Nat))), (17, .int .i64 ((i : Int))), (48, .bool true)]) ⟨rfl, rfl, rfl, rfl, rfl, rfl, trivial⟩ (own' := box g5 56 [(ux.getD (i) undef), .int .i64 ((x.getD (i) ([], 0)).2)] :: box g1 27 [.int .i64 (cr), vcd] :: own) rfl ?_
 show G _ _ _ [] _ _ _ _
 refine G.nil (GE.then_ (GC.condT rfl (GC.seq (GC.region ?_))))
 refine G.stepD (OD.assign rfl rfl) rfl rfl rfl ?_
 refine G.nil (GE.then_ (GC.ret (GE.blockR (GE.passR (GE.passR (GE.blockR (GE.passR ?_)))))))
 exact GE.body [] 2 (res1 rfl rfl) rfl (⟨congrArg (fun (a0 : Bool) => (.bool (a0) : Value)) ((by rw [chrOk, any_hit' (p := chrBad cr x) (k := i) (n := x.length) (by omega) (by unfold chrBad; rw [hg6]; rfl)]; simp : (false : Bool) = chrOk cr cd x)), rfl⟩)
 have hg6p := hg6
 replace hg6p := eq_true_of_not hg6p
 rcases Bool.eq_false_or_eq_true (!(inB ((x.getD (i) ([], 0)).2) 1 1000000)) with hg7 | hg7
 have hg7p := hg7
 replace hg7p := eq_false_of_not hg7p
 refine GC.at [] 0 (env' := [(1, vx), (2, .pointer (some ⟨g1, 0, none⟩)), (15, vx), (16, .int .i64 ((x.length : Nat))), (17, .int .i64 ((i : Int))), (6, .pointer (some ⟨g5, 0, none⟩)), (5, .int .i64 ((i : Int)))]) ⟨rfl, rfl, rfl, rfl, rfl, rfl, rfl, trivial⟩ rfl ?_
 refine GC.par (its := [⟨22, [], [], [], [], fun _ => .agg #[.int .i64 (cr), vcd], fun _ => True, fun _ => []⟩,
     ⟨23, [], [], [], [], fun _ => .pointer (some ⟨g5, 0, none⟩), fun _ => True, fun _ => []⟩,
     ⟨24, [(1, 23)], [], [], [], fun _ => (ux.getD (i) undef), fun _ => True, fun _ => []⟩,
     ⟨25, [(0, 22), (2, 24)], [], [], [], fun _ => .bool (wtOk cr ((x.getD (i) ([], 0)).1)), fun _ => True, fun _ => []⟩,
     ⟨26, [(3, 25)], [], [], [], fun _ => .bool false, fun _ => True, fun _ => []⟩,
     ⟨27, [(4, 26)], [], [], [], fun _ => .bool false, fun _ => True, fun _ => []⟩,
     ⟨28, [(5, 27)], [], [], [], fun _ => .pointer (some ⟨g5, 1, none⟩), fun _ => True, fun _ => []⟩,
     ⟨29, [(5, 27), (6, 28)], [], [], [], fun _ => .int .i64 ((x.getD (i) ([], 0)).2), fun _ => True, fun _ => []⟩,
     ⟨30, [(5, 27), (7, 29)], [], [], [], fun _ => .bool (inB ((x.getD (i) ([], 0)).2) 1 1000000), fun _ => True, fun _ => []⟩,
     ⟨31, [(5, 27), (8, 30)], [], [], [], fun _ => .bool true, fun _ => True, fun _ => []⟩,
     ⟨32, [(5, 27), (9, 31)], [], [], [], fun _ => .bool true, fun _ => True, fun _ => []⟩,
     ⟨33, [(10, 32)], [], [], [], fun _ => .bool true, fun _ => True, fun _ => []⟩,
     ⟨34, [(11, 33)], [], [], [], fun _ => undef, fun _ => True, fun _ => []⟩,
     ⟨35, [(11, 33), (12, 34)], [], [], [], fun _ => undef, fun _ => True, fun _ => []⟩,
     ⟨36, [(11, 33), (13, 35)], [], [], [], fun _ => undef, fun _ => True, fun _ => []⟩,
     ⟨37, [(14, 36)], [], [], [], fun _ => undef, fun _ => True, fun _ => []⟩,
     ⟨38, [(14, 36)], [], [], [], fun _ => undef, fun _ => True, fun _ => []⟩,
     ⟨39, [(14, 36), (16, 38)], [], [], [], fun _ => undef, fun _ => True, fun _ => []⟩,
     ⟨40, [(14, 36), (15, 37), (17, 39)], [], [], [], fun _ => undef, fun _ => True, fun _ => []⟩,
     ⟨41, [(14, 36), (18, 40)], [], [], [], fun _ => undef, fun _ => True, fun _ => []⟩,
     ⟨42, [(14, 36), (19, 41)], [], [], [], fun _ => undef, fun _ => True, fun _ => []⟩,
     ⟨43, [(14, 36)], [], [], [], fun _ => undef, fun _ => True, fun _ => []⟩,
     ⟨44, [(14, 36), (21, 43)], [], [], [], fun _ => undef, fun _ => True, fun _ => []⟩,
     ⟨45, [(14, 36), (20, 42), (22, 44)], [], [], [], fun _ => undef, fun _ => True, fun _ => []⟩,
     ⟨46, [(14, 36), (23, 45)], [], [], [], fun _ => undef, fun _ => True, fun _ => []⟩,
     ⟨47, [(11, 33), (14, 36), (24, 46)], [], [], [], fun _ => undef, fun _ => True, fun _ => []⟩,
     ⟨48, [(11, 33), (25, 47)], [], [], [], fun _ => .bool true, fun _ => True, fun _ => []⟩]) (by kernel_rfl) (by kernel_rfl) (POps.cons ?_ (POps.cons ?_ (POps.cons ?_ (POps.cons ?_ (POps.cons ?_ (POps.cons ?_ (POps.cons ?_ (POps.cons ?_ (POps.cons ?_ (POps.cons ?_ (POps.cons ?_ (POps.cons ?_ (POps.cons ?_ (POps.cons ?_ (POps.cons ?_ (POps.cons ?_ (POps.cons ?_ (POps.cons ?_ (POps.cons ?_ (POps.cons ?_ (POps.cons ?_ (POps.cons ?_ (POps.cons ?_ (POps.cons ?_ (POps.cons ?_ (POps.cons ?_ (POps.cons ?_ POps.nil))))))))))))))))))))))))))) ?_
 intro θ R hd
 exact Opp.plain (OG.imp (OD.loadAgg rfl ti27 rfl (i := 1) rfl (us := [.int .i64 (cr), vcd]) rfl rfl) (by rintro _ _ ⟨rfl, rfl⟩; exact ⟨[], rfl, trivial, rfl⟩)) rfl
 intro θ R hd
 exact Opp.plain (OG.imp (OD.fieldAddr rfl rfl fa56_0) (by rintro _ _ ⟨rfl, rfl⟩; exact ⟨[], rfl, trivial, rfl⟩)) rfl
 intro θ R hd
 obtain ⟨h1d, _⟩ := hd
 exact Opp.plain (OG.imp (OD.load rfl ti22 rfl (i := 0) rfl rfl) (by rintro _ _ ⟨rfl, rfl⟩; exact ⟨[], rfl, trivial, rfl⟩)) rfl
 intro θ R hd
 obtain ⟨h0d, h2d, _⟩ := hd
 exact Opp.plain (OG.imp (OG.call [.agg #[.int .i64 (cr), vcd], (ux.getD (i) undef)] ent55 rfl rfl rfl rfl (by exact (isWeight_w scd (Ent.drop 2 ecd.app) (ax.get (by omega)) (Ent.drop 2 ((mx (i) (by omega)).app)) (rec_le hle (by omega))))) (by rintro _ _ ⟨rfl, rfl⟩; exact ⟨[], rfl, trivial, rfl⟩)) rfl
 intro θ R hd
 obtain ⟨h3d, _⟩ := hd
 exact Opp.plain (OG.imp (OD.not rfl rfl) (by rintro _ _ ⟨rfl, rfl⟩; exact ⟨[], congrArg Value.bool hg6, trivial, rfl⟩)) rfl
 intro θ R hd
 obtain ⟨h4d, _⟩ := hd
 exact Opp.plain (OG.imp (OD.move rfl rfl) (by rintro _ _ ⟨rfl, rfl⟩; exact ⟨[], rfl, trivial, rfl⟩)) rfl
 intro θ R hd
 obtain ⟨h5d, _⟩ := hd
 exact Opp.on (OG.imp (OD.fieldAddr rfl rfl fa56_1) (by rintro _ _ ⟨rfl, rfl⟩; exact ⟨[], rfl, trivial, rfl⟩)) rfl rfl rfl
 intro θ R hd
 obtain ⟨h5d, h6d, _⟩ := hd
 exact Opp.on (OG.imp (OD.load rfl ti3 rfl (i := 0) rfl rfl) (by rintro _ _ ⟨rfl, rfl⟩; exact ⟨[], rfl, trivial, rfl⟩)) rfl rfl rfl
 intro θ R hd
 obtain ⟨h5d, h7d, _⟩ := hd
 exact Opp.on (OG.imp (OG.call [.int .i64 ((x.getD (i) ([], 0)).2), .int .i64 (1), .int .i64 (1000000)] ent56 rfl rfl rfl rfl (by exact inside_w)) (by rintro _ _ ⟨rfl, rfl⟩; exact ⟨[], rfl, trivial, rfl⟩)) rfl rfl rfl
 intro θ R hd
 obtain ⟨h5d, h8d, _⟩ := hd
 exact Opp.on (OG.imp (OD.not rfl rfl) (by rintro _ _ ⟨rfl, rfl⟩; exact ⟨[], congrArg Value.bool hg7, trivial, rfl⟩)) rfl rfl rfl
 intro θ R hd
 obtain ⟨h5d, h9d, _⟩ := hd
 exact Opp.plain (OG.imp (OD.pickF rfl rfl rfl) (by rintro _ _ ⟨rfl, rfl⟩; exact ⟨[], rfl, trivial, rfl⟩)) rfl
 intro θ R hd
 obtain ⟨h10d, _⟩ := hd
 exact Opp.plain (OG.imp (OD.move rfl rfl) (by rintro _ _ ⟨rfl, rfl⟩; exact ⟨[], rfl, trivial, rfl⟩)) rfl
 intro θ R hd
 obtain ⟨h11d, _⟩ := hd
 exact Opp.off ⟨[], rfl, trivial, rfl⟩ rfl rfl rfl rfl
 intro θ R hd
 obtain ⟨h11d, h12d, _⟩ := hd
 exact Opp.off ⟨[], rfl, trivial, rfl⟩ rfl rfl rfl rfl
 intro θ R hd
 obtain ⟨h11d, h13d, _⟩ := hd
 exact Opp.off ⟨[], rfl, trivial, rfl⟩ rfl rfl rfl rfl
 intro θ R hd
 obtain ⟨h14d, _⟩ := hd
 exact Opp.offU ⟨[], rfl, trivial, rfl⟩ rfl rfl rfl
 intro θ R hd
 obtain ⟨h14d, _⟩ := hd
 exact Opp.offU ⟨[], rfl, trivial, rfl⟩ rfl rfl rfl
 intro θ R hd
 obtain ⟨h14d, h16d, _⟩ := hd
 exact Opp.offU ⟨[], rfl, trivial, rfl⟩ rfl rfl rfl
 intro θ R hd
 obtain ⟨h14d, h15d, h17d, _⟩ := hd
 exact Opp.offU ⟨[], rfl, trivial, rfl⟩ rfl rfl rfl
 intro θ R hd
 obtain ⟨h14d, h18d, _⟩ := hd
 exact Opp.offU ⟨[], rfl, trivial, rfl⟩ rfl rfl rfl
 intro θ R hd
 obtain ⟨h14d, h19d, _⟩ := hd
 exact Opp.offU ⟨[], rfl, trivial, rfl⟩ rfl rfl rfl
 intro θ R hd
 obtain ⟨h14d, _⟩ := hd
 exact Opp.offU ⟨[], rfl, trivial, rfl⟩ rfl rfl rfl
 intro θ R hd
 obtain ⟨h14d, h21d, _⟩ := hd
 exact Opp.offU ⟨[], rfl, trivial, rfl⟩ rfl rfl rfl
 intro θ R hd
 obtain ⟨h14d, h20d, h22d, _⟩ := hd
 exact Opp.offU ⟨[], rfl, trivial, rfl⟩ rfl rfl rfl
 intro θ R hd
 obtain ⟨h14d, h23d, _⟩ := hd
 exact Opp.offU ⟨[], rfl, trivial, rfl⟩ rfl rfl rfl
 intro θ R hd
 obtain ⟨h11d, h14d, h24d, _⟩ := hd
 exact Opp.off ⟨[], rfl, trivial, rfl⟩ rfl rfl rfl rfl
 intro θ R hd
 obtain ⟨h11d, h25d, _⟩ := hd
 exact Opp.plain (OG.imp (OD.pickT rfl rfl rfl) (by rintro _ _ ⟨rfl, rfl⟩; exact ⟨[], rfl, trivial, rfl⟩)) rfl
 intro θ hall
 obtain ⟨_, _, _, _, _, _, _, _, _, _, _, _, _, _, _, _, _, _, _, _, _, _, _, _, _, _, _, _⟩ := hall
 refine G.at [] 0 (env' := [(1, vx), (2, .pointer (some ⟨g1, 0, none⟩)), (15, vx), (16, .int .i64 ((x.length : Nat))), (17, .int .i64 ((i : Int))), (48, .bool true)]) ⟨rfl, rfl, rfl, rfl, rfl, rfl, trivial⟩ (own' := box g5 56 [(ux.getD (i) undef), .int .i64 ((x.getD (i) ([], 0)).2)] :: box g1 27 [.int .i64 (cr), vcd] :: own) rfl ?_
 show G _ _ _ [] _ _ _ _
 refine G.nil (GE.then_ (GC.condT rfl (GC.seq (GC.region ?_))))
 refine G.stepD (OD.assign rfl rfl) rfl rfl rfl ?_
 refine G.nil (GE.then_ (GC.ret (GE.blockR (GE.passR (GE.passR (GE.blockR (GE.passR ?_)))))))
 exact GE.body [] 2 (res1 rfl rfl) rfl (⟨congrArg (fun (a0 : Bool) => (.bool (a0) : Value)) ((by rw [chrOk, any_hit' (p := chrBad cr x) (k := i) (n := x.length) (by omega) (by unfold chrBad; rw [hg6, hg7]; rfl)]; simp : (false : Bool) = chrOk cr cd x)), rfl⟩)
 have hg7p := hg7
 replace hg7p := eq_true_of_not hg7p
 rcases Bool.eq_false_or_eq_true (decide (0 < (i : Int))) with hg8 | hg8
 have hg8p := hg8
 replace hg8p := of_decide_eq_true hg8p
 refine GC.at [] 0 (env' := [(1, vx), (2, .pointer (some ⟨g1, 0, none⟩)), (15, vx), (16, .int .i64 ((x.length : Nat))), (17, .int .i64 ((i : Int))), (6, .pointer (some ⟨g5, 0, none⟩)), (5, .int .i64 ((i : Int)))]) ⟨rfl, rfl, rfl, rfl, rfl, rfl, rfl, trivial⟩ rfl ?_
 refine GC.par (its := [⟨22, [], [], [], [], fun _ => .agg #[.int .i64 (cr), vcd], fun _ => True, fun _ => []⟩,
     ⟨23, [], [], [], [], fun _ => .pointer (some ⟨g5, 0, none⟩), fun _ => True, fun _ => []⟩,
     ⟨24, [(1, 23)], [], [], [], fun _ => (ux.getD (i) undef), fun _ => True, fun _ => []⟩,
     ⟨25, [(0, 22), (2, 24)], [], [], [], fun _ => .bool (wtOk cr ((x.getD (i) ([], 0)).1)), fun _ => True, fun _ => []⟩,
     ⟨26, [(3, 25)], [], [], [], fun _ => .bool false, fun _ => True, fun _ => []⟩,
     ⟨27, [(4, 26)], [], [], [], fun _ => .bool false, fun _ => True, fun _ => []⟩,
     ⟨28, [(5, 27)], [], [], [], fun _ => .pointer (some ⟨g5, 1, none⟩), fun _ => True, fun _ => []⟩,
     ⟨29, [(5, 27), (6, 28)], [], [], [], fun _ => .int .i64 ((x.getD (i) ([], 0)).2), fun _ => True, fun _ => []⟩,
     ⟨30, [(5, 27), (7, 29)], [], [], [], fun _ => .bool (inB ((x.getD (i) ([], 0)).2) 1 1000000), fun _ => True, fun _ => []⟩,
     ⟨31, [(5, 27), (8, 30)], [], [], [], fun _ => .bool false, fun _ => True, fun _ => []⟩,
     ⟨32, [(5, 27), (9, 31)], [], [], [], fun _ => .bool false, fun _ => True, fun _ => []⟩,
     ⟨33, [(10, 32)], [], [], [], fun _ => .bool false, fun _ => True, fun _ => []⟩,
     ⟨34, [(11, 33)], [], [], [], fun _ => .int .i64 ((i : Int)), fun _ => True, fun _ => []⟩,
     ⟨35, [(11, 33), (12, 34)], [], [], [], fun _ => .bool true, fun _ => True, fun _ => []⟩,
     ⟨36, [(11, 33), (13, 35)], [], [], [], fun _ => .bool true, fun _ => True, fun _ => []⟩,
     ⟨37, [(14, 36)], [], [], [], fun _ => vx, fun _ => True, fun _ => []⟩,
     ⟨38, [(14, 36)], [], [], [], fun _ => .int .i64 ((i : Int)), fun _ => True, fun _ => []⟩,
     ⟨39, [(14, 36), (16, 38)], [], [], [], fun _ => .int .i64 ((i : Int) - 1), fun _ => True, fun _ => []⟩,
     ⟨40, [(14, 36), (15, 37), (17, 39)], [], [], [], fun _ => elemPtr vx 2 (((i : Int) - 1 : Int).toNat), fun _ => True, fun _ => []⟩,
     ⟨41, [(14, 36), (18, 40)], [], [], [], fun _ => elemPtrF vx 2 (((i : Int) - 1 : Int).toNat) 0, fun _ => True, fun _ => []⟩,
     ⟨42, [(14, 36), (19, 41)], [], [], [], fun _ => (ux.getD (((i : Int) - 1 : Int).toNat) undef), fun _ => True, fun _ => []⟩,
     ⟨43, [(14, 36)], [], [], [], fun _ => .pointer (some ⟨g5, 0, none⟩), fun _ => True, fun _ => []⟩,
     ⟨44, [(14, 36), (21, 43)], [], [], [], fun _ => (ux.getD (i) undef), fun _ => True, fun _ => []⟩,
     ⟨45, [(14, 36), (20, 42), (22, 44)], [], [], [], fun _ => .int .i64 (cmpL ((x.getD (((i : Int) - 1 : Int).toNat) ([], 0)).1) ((x.getD (i) ([], 0)).1)), fun _ => True, fun _ => []⟩,
     ⟨46, [(14, 36), (23, 45)], [], [], [], fun _ => .bool (decide (cmpL ((x.getD (((i : Int) - 1 : Int).toNat) ([], 0)).1) ((x.getD (i) ([], 0)).1) ≤ 0)), fun _ => True, fun _ => []⟩,
     ⟨47, [(11, 33), (14, 36), (24, 46)], [], [], [], fun _ => .bool (decide (cmpL ((x.getD (((i : Int) - 1 : Int).toNat) ([], 0)).1) ((x.getD (i) ([], 0)).1) ≤ 0)), fun _ => True, fun _ => []⟩,
     ⟨48, [(11, 33), (25, 47)], [], [], [], fun _ => .bool (decide (cmpL ((x.getD (((i : Int) - 1 : Int).toNat) ([], 0)).1) ((x.getD (i) ([], 0)).1) ≤ 0)), fun _ => True, fun _ => []⟩]) (by kernel_rfl) (by kernel_rfl) (POps.cons ?_ (POps.cons ?_ (POps.cons ?_ (POps.cons ?_ (POps.cons ?_ (POps.cons ?_ (POps.cons ?_ (POps.cons ?_ (POps.cons ?_ (POps.cons ?_ (POps.cons ?_ (POps.cons ?_ (POps.cons ?_ (POps.cons ?_ (POps.cons ?_ (POps.cons ?_ (POps.cons ?_ (POps.cons ?_ (POps.cons ?_ (POps.cons ?_ (POps.cons ?_ (POps.cons ?_ (POps.cons ?_ (POps.cons ?_ (POps.cons ?_ (POps.cons ?_ (POps.cons ?_ POps.nil))))))))))))))))))))))))))) ?_
 intro θ R hd
 exact Opp.plain (OG.imp (OD.loadAgg rfl ti27 rfl (i := 1) rfl (us := [.int .i64 (cr), vcd]) rfl rfl) (by rintro _ _ ⟨rfl, rfl⟩; exact ⟨[], rfl, trivial, rfl⟩)) rfl
 intro θ R hd
 exact Opp.plain (OG.imp (OD.fieldAddr rfl rfl fa56_0) (by rintro _ _ ⟨rfl, rfl⟩; exact ⟨[], rfl, trivial, rfl⟩)) rfl
 intro θ R hd
 obtain ⟨h1d, _⟩ := hd
 exact Opp.plain (OG.imp (OD.load rfl ti22 rfl (i := 0) rfl rfl) (by rintro _ _ ⟨rfl, rfl⟩; exact ⟨[], rfl, trivial, rfl⟩)) rfl
 intro θ R hd
 obtain ⟨h0d, h2d, _⟩ := hd
 exact Opp.plain (OG.imp (OG.call [.agg #[.int .i64 (cr), vcd], (ux.getD (i) undef)] ent55 rfl rfl rfl rfl (by exact (isWeight_w scd (Ent.drop 2 ecd.app) (ax.get (by omega)) (Ent.drop 2 ((mx (i) (by omega)).app)) (rec_le hle (by omega))))) (by rintro _ _ ⟨rfl, rfl⟩; exact ⟨[], rfl, trivial, rfl⟩)) rfl
 intro θ R hd
 obtain ⟨h3d, _⟩ := hd
 exact Opp.plain (OG.imp (OD.not rfl rfl) (by rintro _ _ ⟨rfl, rfl⟩; exact ⟨[], congrArg Value.bool hg6, trivial, rfl⟩)) rfl
 intro θ R hd
 obtain ⟨h4d, _⟩ := hd
 exact Opp.plain (OG.imp (OD.move rfl rfl) (by rintro _ _ ⟨rfl, rfl⟩; exact ⟨[], rfl, trivial, rfl⟩)) rfl
 intro θ R hd
 obtain ⟨h5d, _⟩ := hd
 exact Opp.on (OG.imp (OD.fieldAddr rfl rfl fa56_1) (by rintro _ _ ⟨rfl, rfl⟩; exact ⟨[], rfl, trivial, rfl⟩)) rfl rfl rfl
 intro θ R hd
 obtain ⟨h5d, h6d, _⟩ := hd
 exact Opp.on (OG.imp (OD.load rfl ti3 rfl (i := 0) rfl rfl) (by rintro _ _ ⟨rfl, rfl⟩; exact ⟨[], rfl, trivial, rfl⟩)) rfl rfl rfl
 intro θ R hd
 obtain ⟨h5d, h7d, _⟩ := hd
 exact Opp.on (OG.imp (OG.call [.int .i64 ((x.getD (i) ([], 0)).2), .int .i64 (1), .int .i64 (1000000)] ent56 rfl rfl rfl rfl (by exact inside_w)) (by rintro _ _ ⟨rfl, rfl⟩; exact ⟨[], rfl, trivial, rfl⟩)) rfl rfl rfl
 intro θ R hd
 obtain ⟨h5d, h8d, _⟩ := hd
 exact Opp.on (OG.imp (OD.not rfl rfl) (by rintro _ _ ⟨rfl, rfl⟩; exact ⟨[], congrArg Value.bool hg7, trivial, rfl⟩)) rfl rfl rfl
 intro θ R hd
 obtain ⟨h5d, h9d, _⟩ := hd
 exact Opp.plain (OG.imp (OD.pickF rfl rfl rfl) (by rintro _ _ ⟨rfl, rfl⟩; exact ⟨[], rfl, trivial, rfl⟩)) rfl
 intro θ R hd
 obtain ⟨h10d, _⟩ := hd
 exact Opp.plain (OG.imp (OD.move rfl rfl) (by rintro _ _ ⟨rfl, rfl⟩; exact ⟨[], rfl, trivial, rfl⟩)) rfl
 intro θ R hd
 obtain ⟨h11d, _⟩ := hd
 exact Opp.on (OG.imp (OD.move rfl rfl) (by rintro _ _ ⟨rfl, rfl⟩; exact ⟨[], rfl, trivial, rfl⟩)) rfl rfl rfl
 intro θ R hd
 obtain ⟨h11d, h12d, _⟩ := hd
 exact Opp.on (OG.imp (OD.gtr rfl rfl rfl) (by rintro _ _ ⟨rfl, rfl⟩; exact ⟨[], congrArg Value.bool hg8, trivial, rfl⟩)) rfl rfl rfl
 intro θ R hd
 obtain ⟨h11d, h13d, _⟩ := hd
 exact Opp.on (OG.imp (OD.move rfl rfl) (by rintro _ _ ⟨rfl, rfl⟩; exact ⟨[], rfl, trivial, rfl⟩)) rfl rfl rfl
 intro θ R hd
 obtain ⟨h14d, _⟩ := hd
 exact Opp.on (OG.imp (OD.move rfl rfl) (by rintro _ _ ⟨rfl, rfl⟩; exact ⟨[], rfl, trivial, rfl⟩)) rfl rfl rfl
 intro θ R hd
 obtain ⟨h14d, _⟩ := hd
 exact Opp.on (OG.imp (OD.move rfl rfl) (by rintro _ _ ⟨rfl, rfl⟩; exact ⟨[], rfl, trivial, rfl⟩)) rfl rfl rfl
 intro θ R hd
 obtain ⟨h14d, h16d, _⟩ := hd
 exact Opp.on (OG.imp (OD.subI rfl rfl rfl (by omega)) (by rintro _ _ ⟨rfl, rfl⟩; exact ⟨[], rfl, trivial, rfl⟩)) rfl rfl rfl
 intro θ R hd
 obtain ⟨h14d, h15d, h17d, _⟩ := hd
 exact Opp.on (OG.imp (OD.indexAddr rfl et36 rfl (Ent.drop 2 ex.app) rfl (by omega)) (by rintro _ _ ⟨rfl, rfl⟩; exact ⟨[], rfl, trivial, rfl⟩)) rfl rfl rfl
 intro θ R hd
 obtain ⟨h14d, h18d, _⟩ := hd
 exact Opp.on (OG.imp (OD.fieldAddrE rfl rfl (Ent.drop 2 ex.app) (by omega) fa56_0) (by rintro _ _ ⟨rfl, rfl⟩; exact ⟨[], rfl, trivial, rfl⟩)) rfl rfl rfl
 intro θ R hd
 obtain ⟨h14d, h19d, _⟩ := hd
 exact Opp.on (OG.imp (OD.loadField rfl ti22 rfl (Ent.drop 2 ex.app) (by omega) (by decide) (recR_fst (by omega))) (by rintro _ _ ⟨rfl, rfl⟩; exact ⟨[], rfl, trivial, rfl⟩)) rfl rfl rfl
 intro θ R hd
 obtain ⟨h14d, _⟩ := hd
 exact Opp.on (OG.imp (OD.fieldAddr rfl rfl fa56_0) (by rintro _ _ ⟨rfl, rfl⟩; exact ⟨[], rfl, trivial, rfl⟩)) rfl rfl rfl
 intro θ R hd
 obtain ⟨h14d, h21d, _⟩ := hd
 exact Opp.on (OG.imp (OD.load rfl ti22 rfl (i := 0) rfl rfl) (by rintro _ _ ⟨rfl, rfl⟩; exact ⟨[], rfl, trivial, rfl⟩)) rfl rfl rfl
 intro θ R hd
 obtain ⟨h14d, h20d, h22d, _⟩ := hd
 exact Opp.on (OG.imp (OG.call [(ux.getD (((i : Int) - 1 : Int).toNat) undef), (ux.getD (i) undef)] ent57 rfl rfl rfl rfl (by exact (compare_w (ax.get (by omega)) (Ent.drop 2 ((mx (((i : Int) - 1 : Int).toNat) (by omega)).app)) (ax.get (by omega)) (Ent.drop 2 ((mx (i) (by omega)).app)) (hle _ (recD_mem (by omega))) (hle _ (recD_mem (by omega)))))) (by rintro _ _ ⟨rfl, rfl⟩; exact ⟨[], rfl, trivial, rfl⟩)) rfl rfl rfl
 intro θ R hd
 obtain ⟨h14d, h23d, _⟩ := hd
 exact Opp.on (OG.imp (OD.leq rfl rfl rfl) (by rintro _ _ ⟨rfl, rfl⟩; exact ⟨[], rfl, trivial, rfl⟩)) rfl rfl rfl
 intro θ R hd
 obtain ⟨h11d, h14d, h24d, _⟩ := hd
 exact Opp.on (OG.imp (OD.pickT rfl rfl rfl) (by rintro _ _ ⟨rfl, rfl⟩; exact ⟨[], rfl, trivial, rfl⟩)) rfl rfl rfl
 intro θ R hd
 obtain ⟨h11d, h25d, _⟩ := hd
 exact Opp.plain (OG.imp (OD.pickF rfl rfl rfl) (by rintro _ _ ⟨rfl, rfl⟩; exact ⟨[], rfl, trivial, rfl⟩)) rfl
 intro θ hall
 obtain ⟨_, _, _, _, _, _, _, _, _, _, _, _, _, _, _, _, _, _, _, _, _, _, _, _, _, _, _, _⟩ := hall
 refine G.at [] 0 (env' := [(1, vx), (2, .pointer (some ⟨g1, 0, none⟩)), (15, vx), (16, .int .i64 ((x.length : Nat))), (17, .int .i64 ((i : Int))), (48, .bool (decide (cmpL ((x.getD (((i : Int) - 1 : Int).toNat) ([], 0)).1) ((x.getD (i) ([], 0)).1) ≤ 0)))]) ⟨rfl, rfl, rfl, rfl, rfl, rfl, trivial⟩ (own' := box g5 56 [(ux.getD (i) undef), .int .i64 ((x.getD (i) ([], 0)).2)] :: box g1 27 [.int .i64 (cr), vcd] :: own) rfl ?_
 show G _ _ _ [] _ _ _ _
 refine G.nil (GE.then_ ?_)
 refine GC.cond rfl (fun hc9 => ?_) (fun hc9 => ?_)
 replace hc9 := of_decide_eq_true hc9
 refine GC.seq (GC.region ?_)
 refine G.stepD (OD.assign rfl rfl) rfl rfl rfl ?_
 refine G.nil (GE.then_ (GC.ret (GE.blockR (GE.passR (GE.passR (GE.blockR (GE.passR ?_)))))))
 exact GE.body [] 2 (res1 rfl rfl) rfl (⟨congrArg (fun (a0 : Bool) => (.bool (a0) : Value)) ((by rw [chrOk, any_hit' (p := chrBad cr x) (k := i) (n := x.length) (by omega) (by unfold chrBad; rw [hg6, hg7, hg8, show (!(abvL (x.getD ((i : Int) - 1).toNat ([], 0)).1 (x.getD i ([], 0)).1)) = true from (cmp_abv _ _).symm.trans (decide_eq_true hc9)]; rfl)]; simp : (false : Bool) = chrOk cr cd x)), rfl⟩)
 replace hc9 := of_decide_eq_false hc9
 refine GC.skip (GE.blockN (GE.then_ (GC.region ?_)))
 refine G.stepD (OD.addI rfl rfl rfl (by omega)) rfl rfl rfl ?_
 refine G.stepD (OD.move rfl rfl) rfl rfl rfl ?_
 refine G.nil ?_
 exact GE.again (i + 1) (⟨by omega, any_succ ht (by unfold chrBad; rw [hg6, hg7, hg8, show (!(abvL (x.getD ((i : Int) - 1).toNat ([], 0)).1 (x.getD i ([], 0)).1)) = false from (cmp_abv _ _).symm.trans (decide_eq_false hc9)]; rfl)⟩) (by first | omega | (dsimp only; omega)) ⟨rfl, rfl, rfl, rfl, rfl, trivial⟩ [1] 1 rfl
 have hg8p := hg8
 replace hg8p := of_decide_eq_false hg8p
 refine GC.at [] 0 (env' := [(1, vx), (2, .pointer (some ⟨g1, 0, none⟩)), (15, vx), (16, .int .i64 ((x.length : Nat))), (17, .int .i64 ((i : Int))), (6, .pointer (some ⟨g5, 0, none⟩)), (5, .int .i64 ((i : Int)))]) ⟨rfl, rfl, rfl, rfl, rfl, rfl, rfl, trivial⟩ rfl ?_
 refine GC.par (its := [⟨22, [], [], [], [], fun _ => .agg #[.int .i64 (cr), vcd], fun _ => True, fun _ => []⟩,
     ⟨23, [], [], [], [], fun _ => .pointer (some ⟨g5, 0, none⟩), fun _ => True, fun _ => []⟩,
     ⟨24, [(1, 23)], [], [], [], fun _ => (ux.getD (i) undef), fun _ => True, fun _ => []⟩,
     ⟨25, [(0, 22), (2, 24)], [], [], [], fun _ => .bool (wtOk cr ((x.getD (i) ([], 0)).1)), fun _ => True, fun _ => []⟩,
     ⟨26, [(3, 25)], [], [], [], fun _ => .bool false, fun _ => True, fun _ => []⟩,
     ⟨27, [(4, 26)], [], [], [], fun _ => .bool false, fun _ => True, fun _ => []⟩,
     ⟨28, [(5, 27)], [], [], [], fun _ => .pointer (some ⟨g5, 1, none⟩), fun _ => True, fun _ => []⟩,
     ⟨29, [(5, 27), (6, 28)], [], [], [], fun _ => .int .i64 ((x.getD (i) ([], 0)).2), fun _ => True, fun _ => []⟩,
     ⟨30, [(5, 27), (7, 29)], [], [], [], fun _ => .bool (inB ((x.getD (i) ([], 0)).2) 1 1000000), fun _ => True, fun _ => []⟩,
     ⟨31, [(5, 27), (8, 30)], [], [], [], fun _ => .bool false, fun _ => True, fun _ => []⟩,
     ⟨32, [(5, 27), (9, 31)], [], [], [], fun _ => .bool false, fun _ => True, fun _ => []⟩,
     ⟨33, [(10, 32)], [], [], [], fun _ => .bool false, fun _ => True, fun _ => []⟩,
     ⟨34, [(11, 33)], [], [], [], fun _ => .int .i64 ((i : Int)), fun _ => True, fun _ => []⟩,
     ⟨35, [(11, 33), (12, 34)], [], [], [], fun _ => .bool false, fun _ => True, fun _ => []⟩,
     ⟨36, [(11, 33), (13, 35)], [], [], [], fun _ => .bool false, fun _ => True, fun _ => []⟩,
     ⟨37, [(14, 36)], [], [], [], fun _ => undef, fun _ => True, fun _ => []⟩,
     ⟨38, [(14, 36)], [], [], [], fun _ => undef, fun _ => True, fun _ => []⟩,
     ⟨39, [(14, 36), (16, 38)], [], [], [], fun _ => undef, fun _ => True, fun _ => []⟩,
     ⟨40, [(14, 36), (15, 37), (17, 39)], [], [], [], fun _ => undef, fun _ => True, fun _ => []⟩,
     ⟨41, [(14, 36), (18, 40)], [], [], [], fun _ => undef, fun _ => True, fun _ => []⟩,
     ⟨42, [(14, 36), (19, 41)], [], [], [], fun _ => undef, fun _ => True, fun _ => []⟩,
     ⟨43, [(14, 36)], [], [], [], fun _ => undef, fun _ => True, fun _ => []⟩,
     ⟨44, [(14, 36), (21, 43)], [], [], [], fun _ => undef, fun _ => True, fun _ => []⟩,
     ⟨45, [(14, 36), (20, 42), (22, 44)], [], [], [], fun _ => undef, fun _ => True, fun _ => []⟩,
     ⟨46, [(14, 36), (23, 45)], [], [], [], fun _ => undef, fun _ => True, fun _ => []⟩,
     ⟨47, [(11, 33), (14, 36), (24, 46)], [], [], [], fun _ => .bool false, fun _ => True, fun _ => []⟩,
     ⟨48, [(11, 33), (25, 47)], [], [], [], fun _ => .bool false, fun _ => True, fun _ => []⟩]) (by kernel_rfl) (by kernel_rfl) (POps.cons ?_ (POps.cons ?_ (POps.cons ?_ (POps.cons ?_ (POps.cons ?_ (POps.cons ?_ (POps.cons ?_ (POps.cons ?_ (POps.cons ?_ (POps.cons ?_ (POps.cons ?_ (POps.cons ?_ (POps.cons ?_ (POps.cons ?_ (POps.cons ?_ (POps.cons ?_ (POps.cons ?_ (POps.cons ?_ (POps.cons ?_ (POps.cons ?_ (POps.cons ?_ (POps.cons ?_ (POps.cons ?_ (POps.cons ?_ (POps.cons ?_ (POps.cons ?_ (POps.cons ?_ POps.nil))))))))))))))))))))))))))) ?_
 intro θ R hd
 exact Opp.plain (OG.imp (OD.loadAgg rfl ti27 rfl (i := 1) rfl (us := [.int .i64 (cr), vcd]) rfl rfl) (by rintro _ _ ⟨rfl, rfl⟩; exact ⟨[], rfl, trivial, rfl⟩)) rfl
 intro θ R hd
 exact Opp.plain (OG.imp (OD.fieldAddr rfl rfl fa56_0) (by rintro _ _ ⟨rfl, rfl⟩; exact ⟨[], rfl, trivial, rfl⟩)) rfl
 intro θ R hd
 obtain ⟨h1d, _⟩ := hd
 exact Opp.plain (OG.imp (OD.load rfl ti22 rfl (i := 0) rfl rfl) (by rintro _ _ ⟨rfl, rfl⟩; exact ⟨[], rfl, trivial, rfl⟩)) rfl
 intro θ R hd
 obtain ⟨h0d, h2d, _⟩ := hd
 exact Opp.plain (OG.imp (OG.call [.agg #[.int .i64 (cr), vcd], (ux.getD (i) undef)] ent55 rfl rfl rfl rfl (by exact (isWeight_w scd (Ent.drop 2 ecd.app) (ax.get (by omega)) (Ent.drop 2 ((mx (i) (by omega)).app)) (rec_le hle (by omega))))) (by rintro _ _ ⟨rfl, rfl⟩; exact ⟨[], rfl, trivial, rfl⟩)) rfl
 intro θ R hd
 obtain ⟨h3d, _⟩ := hd
 exact Opp.plain (OG.imp (OD.not rfl rfl) (by rintro _ _ ⟨rfl, rfl⟩; exact ⟨[], congrArg Value.bool hg6, trivial, rfl⟩)) rfl
 intro θ R hd
 obtain ⟨h4d, _⟩ := hd
 exact Opp.plain (OG.imp (OD.move rfl rfl) (by rintro _ _ ⟨rfl, rfl⟩; exact ⟨[], rfl, trivial, rfl⟩)) rfl
 intro θ R hd
 obtain ⟨h5d, _⟩ := hd
 exact Opp.on (OG.imp (OD.fieldAddr rfl rfl fa56_1) (by rintro _ _ ⟨rfl, rfl⟩; exact ⟨[], rfl, trivial, rfl⟩)) rfl rfl rfl
 intro θ R hd
 obtain ⟨h5d, h6d, _⟩ := hd
 exact Opp.on (OG.imp (OD.load rfl ti3 rfl (i := 0) rfl rfl) (by rintro _ _ ⟨rfl, rfl⟩; exact ⟨[], rfl, trivial, rfl⟩)) rfl rfl rfl
 intro θ R hd
 obtain ⟨h5d, h7d, _⟩ := hd
 exact Opp.on (OG.imp (OG.call [.int .i64 ((x.getD (i) ([], 0)).2), .int .i64 (1), .int .i64 (1000000)] ent56 rfl rfl rfl rfl (by exact inside_w)) (by rintro _ _ ⟨rfl, rfl⟩; exact ⟨[], rfl, trivial, rfl⟩)) rfl rfl rfl
 intro θ R hd
 obtain ⟨h5d, h8d, _⟩ := hd
 exact Opp.on (OG.imp (OD.not rfl rfl) (by rintro _ _ ⟨rfl, rfl⟩; exact ⟨[], congrArg Value.bool hg7, trivial, rfl⟩)) rfl rfl rfl
 intro θ R hd
 obtain ⟨h5d, h9d, _⟩ := hd
 exact Opp.plain (OG.imp (OD.pickF rfl rfl rfl) (by rintro _ _ ⟨rfl, rfl⟩; exact ⟨[], rfl, trivial, rfl⟩)) rfl
 intro θ R hd
 obtain ⟨h10d, _⟩ := hd
 exact Opp.plain (OG.imp (OD.move rfl rfl) (by rintro _ _ ⟨rfl, rfl⟩; exact ⟨[], rfl, trivial, rfl⟩)) rfl
 intro θ R hd
 obtain ⟨h11d, _⟩ := hd
 exact Opp.on (OG.imp (OD.move rfl rfl) (by rintro _ _ ⟨rfl, rfl⟩; exact ⟨[], rfl, trivial, rfl⟩)) rfl rfl rfl
 intro θ R hd
 obtain ⟨h11d, h12d, _⟩ := hd
 exact Opp.on (OG.imp (OD.gtr rfl rfl rfl) (by rintro _ _ ⟨rfl, rfl⟩; exact ⟨[], congrArg Value.bool hg8, trivial, rfl⟩)) rfl rfl rfl
 intro θ R hd
 obtain ⟨h11d, h13d, _⟩ := hd
 exact Opp.on (OG.imp (OD.move rfl rfl) (by rintro _ _ ⟨rfl, rfl⟩; exact ⟨[], rfl, trivial, rfl⟩)) rfl rfl rfl
 intro θ R hd
 obtain ⟨h14d, _⟩ := hd
 exact Opp.off ⟨[], rfl, trivial, rfl⟩ rfl rfl rfl rfl
 intro θ R hd
 obtain ⟨h14d, _⟩ := hd
 exact Opp.off ⟨[], rfl, trivial, rfl⟩ rfl rfl rfl rfl
 intro θ R hd
 obtain ⟨h14d, h16d, _⟩ := hd
 exact Opp.off ⟨[], rfl, trivial, rfl⟩ rfl rfl rfl rfl
 intro θ R hd
 obtain ⟨h14d, h15d, h17d, _⟩ := hd
 exact Opp.off ⟨[], rfl, trivial, rfl⟩ rfl rfl rfl rfl
 intro θ R hd
 obtain ⟨h14d, h18d, _⟩ := hd
 exact Opp.off ⟨[], rfl, trivial, rfl⟩ rfl rfl rfl rfl
 intro θ R hd
 obtain ⟨h14d, h19d, _⟩ := hd
 exact Opp.off ⟨[], rfl, trivial, rfl⟩ rfl rfl rfl rfl
 intro θ R hd
 obtain ⟨h14d, _⟩ := hd
 exact Opp.off ⟨[], rfl, trivial, rfl⟩ rfl rfl rfl rfl
 intro θ R hd
 obtain ⟨h14d, h21d, _⟩ := hd
 exact Opp.off ⟨[], rfl, trivial, rfl⟩ rfl rfl rfl rfl
 intro θ R hd
 obtain ⟨h14d, h20d, h22d, _⟩ := hd
 exact Opp.off ⟨[], rfl, trivial, rfl⟩ rfl rfl rfl rfl
 intro θ R hd
 obtain ⟨h14d, h23d, _⟩ := hd
 exact Opp.off ⟨[], rfl, trivial, rfl⟩ rfl rfl rfl rfl
 intro θ R hd
 obtain ⟨h11d, h14d, h24d, _⟩ := hd
 exact Opp.on (OG.imp (OD.pickF rfl rfl rfl) (by rintro _ _ ⟨rfl, rfl⟩; exact ⟨[], rfl, trivial, rfl⟩)) rfl rfl rfl
 intro θ R hd
 obtain ⟨h11d, h25d, _⟩ := hd
 exact Opp.plain (OG.imp (OD.pickF rfl rfl rfl) (by rintro _ _ ⟨rfl, rfl⟩; exact ⟨[], rfl, trivial, rfl⟩)) rfl
 intro θ hall
 obtain ⟨_, _, _, _, _, _, _, _, _, _, _, _, _, _, _, _, _, _, _, _, _, _, _, _, _, _, _, _⟩ := hall
 refine G.at [] 0 (env' := [(1, vx), (2, .pointer (some ⟨g1, 0, none⟩)), (15, vx), (16, .int .i64 ((x.length : Nat))), (17, .int .i64 ((i : Int))), (48, .bool false)]) ⟨rfl, rfl, rfl, rfl, rfl, rfl, trivial⟩ (own' := box g5 56 [(ux.getD (i) undef), .int .i64 ((x.getD (i) ([], 0)).2)] :: box g1 27 [.int .i64 (cr), vcd] :: own) rfl ?_
 show G _ _ _ [] _ _ _ _
 refine G.nil (GE.then_ (GC.condF rfl (GC.skip (GE.blockN (GE.then_ (GC.region ?_))))))
 refine G.stepD (OD.addI rfl rfl rfl (by omega)) rfl rfl rfl ?_
 refine G.stepD (OD.move rfl rfl) rfl rfl rfl ?_
 refine G.nil ?_
 exact GE.again (i + 1) (⟨by omega, any_succ ht (by unfold chrBad; rw [hg6, hg7, hg8]; rfl)⟩) (by first | omega | (dsimp only; omega)) ⟨rfl, rfl, rfl, rfl, rfl, trivial⟩ [1] 1 rfl
 replace hc4 := of_decide_eq_false hc4
 have hall : (List.range x.length).any (chrBad cr x) = false := by rw [show x.length = i by omega]; exact ht
 refine GC.exit (GE.pass (GE.pass (GE.hit (GE.then_ (GC.seq (GC.region ?_))))))
 refine G.stepD (OD.assign rfl rfl) rfl rfl rfl ?_
 refine G.nil (GE.then_ (GC.ret ?_))
 exact GE.body [] 1 (res1 rfl rfl) rfl (⟨congrArg (fun (a0 : Bool) => (.bool (a0) : Value)) ((by rw [chrOk, hg2, decide_eq_true (show (x.length : Int) ≤ 400 by omega), hall]; rfl : (true : Bool) = chrOk cr cd x)), rfl⟩)

set_option maxRecDepth 100000 in
theorem total_w {W : World} {own : List Asn} {vx : Value} {ux : List Value} {x : List Rec}  (sx : IsS vx) (ex : Ent own fun w => Recs w vx ux x) (mx : ∀ k, k < x.length → Ent own fun w => Ints w (ux.getD k undef) (x.getD k ([], 0)).1) (lx : ux.length = x.length) (ax : AllS ux)  (hlx : x.length ≤ 9223372036854775807) : Spec Tryd.prog 62 [vx] W own (fun v ow => v = .int .i64 (totF x x.length) ∧ ow = own) := by
 refine Spec.enter Tryd.f62 _ Tryd.func62 rfl (n := 18) rfl rfl ?_
 refine GC.seq (GC.region ?_)
 refine G.stepD (OD.assign rfl rfl) rfl rfl rfl ?_
 refine G.nil (GE.then_ (GC.seq (GC.region ?_)))
 refine G.stepD (OD.assign rfl rfl) rfl rfl rfl ?_
 refine G.nil (GE.then_ (GC.seq (GC.seq (GC.region ?_))))
 refine G.stepD (OD.move rfl rfl) rfl rfl rfl ?_
 refine G.stepD (OD.len rfl rfl et36 rfl ex) rfl rfl rfl ?_
 refine G.stepD (OD.move rfl rfl) rfl rfl rfl ?_
 refine G.nil (GE.then_ (GC.block ?_))
 refine GC.loop (ι := Nat × Int) (fun ⟨i, s⟩ => [(6, vx), (7, .int .i64 ((x.length : Nat))), (3, .int .i64 (s)), (8, .int .i64 ((i : Int)))]) (fun ⟨i, s⟩ => own) (fun ⟨i, s⟩ => (i ≤ x.length) ∧ (s = totF x i)) (fun ⟨i, s⟩ => x.length - i) (0, 0) (⟨by omega, rfl⟩) ⟨rfl, rfl, rfl, rfl, trivial⟩ [] 0 rfl ?_
 rintro ⟨i, s⟩ ⟨hi, hs⟩
 refine GC.seq (GC.region ?_)
 refine G.stepD (OD.lss rfl rfl rfl) rfl rfl rfl ?_
 refine G.nil (GE.then_ (GC.seq ?_))
 refine GC.cond rfl (fun hc1 => ?_) (fun hc1 => ?_)
 replace hc1 := of_decide_eq_true hc1
 refine GC.skip (GE.then_ (GC.seq (GC.block (GC.seq (GC.region ?_)))))
 refine G.stepD (OD.indexAddr rfl et36 rfl ex rfl (by omega)) rfl rfl rfl ?_
 refine G.stepD (OD.loadRec rfl ti56 rfl ex (by omega)) rfl rfl rfl ?_
 refine G.step (OG.alloc rfl ti56 (zs := [.slice none 0 0, .int .i64 (0)]) rfl) rfl rfl rfl ?_
 rintro _ _ ⟨g2, rfl, rfl⟩
 refine G.stepD0 (OD.store rfl ti56 rfl rfl (us := [(ux.getD (i) undef), .int .i64 ((x.getD (i) ([], 0)).2)]) rfl rfl (allC (IsS.one (ax.get (by omega))) (allC rfl rfl)) (i := 0) rfl rfl) rfl rfl ?_
 refine G.nil (GE.then_ (GC.region ?_))
 refine G.stepD (OD.move rfl rfl) rfl rfl rfl ?_
 refine G.stepD (OD.fieldAddr rfl rfl fa56_1) rfl rfl rfl ?_
 refine G.stepD (OD.load rfl ti3 rfl (i := 0) rfl rfl) rfl rfl rfl ?_
 refine G.stepD (OD.add rfl rfl rfl) rfl rfl rfl ?_
 refine G.stepD (OD.assign rfl rfl) rfl rfl rfl ?_
 refine G.nil (GE.blockN (GE.then_ (GC.region ?_)))
 refine G.stepD (OD.addI rfl rfl rfl (by omega)) rfl rfl rfl ?_
 refine G.stepD (OD.move rfl rfl) rfl rfl rfl ?_
 refine G.nil ?_
 exact GE.again (i + 1, IntKind.i64.wrap (s + ((x.getD (i) ([], 0)).2))) (⟨by omega, fold_next hs rfl⟩) (by first | omega | (dsimp only; omega)) ⟨rfl, rfl, rfl, rfl, trivial⟩ [] 1 rfl
 replace hc1 := of_decide_eq_false hc1
 refine GC.exit (GE.pass (GE.pass (GE.hit (GE.then_ (GC.seq (GC.region ?_))))))
 refine G.stepD (OD.move rfl rfl) rfl rfl rfl ?_
 refine G.stepD (OD.assign rfl rfl) rfl rfl rfl ?_
 refine G.nil (GE.then_ (GC.ret ?_))
 exact GE.body [] 0 (res1 rfl rfl) rfl (⟨congrArg (fun (a0 : Int) => (.int .i64 (a0) : Value)) ((by rw [hs, show i = x.length by omega] : (s : Int) = totF x x.length)), rfl⟩)

set_option maxRecDepth 100000 in
theorem l8Dimension_w {W : World} {own : List Asn} {vx : Value} {ux : List Value} {x : List Rec}  (sx : IsS vx) (ex : Ent own fun w => Recs w vx ux x) (mx : ∀ k, k < x.length → Ent own fun w => Ints w (ux.getD k undef) (x.getD k ([], 0)).1) (lx : ux.length = x.length) (ax : AllS ux)  (hlx : x.length ≤ 9223372036854775807) : Spec Tryd.prog 61 [vx] W own (fun v ow => v = .int .i64 (totF x x.length) ∧ ow = own) := by
 refine Spec.enter Tryd.f61 _ Tryd.func61 rfl (n := 19) rfl rfl ?_
 refine GC.seq (GC.region ?_)
 refine G.stepD (OD.assign rfl rfl) rfl rfl rfl ?_
 refine G.nil (GE.then_ (GC.seq (GC.region ?_)))
 refine G.stepD (OD.assign rfl rfl) rfl rfl rfl ?_
 refine G.nil (GE.then_ (GC.seq (GC.seq (GC.region ?_))))
 refine G.stepD (OD.assign rfl rfl) rfl rfl rfl ?_
 refine G.nil (GE.then_ (GC.block ?_))
 refine GC.loop (ι := Nat × Int) (fun ⟨i, s⟩ => [(0, vx), (3, .int .i64 (s)), (4, .int .i64 ((i : Int)))]) (fun ⟨i, s⟩ => own) (fun ⟨i, s⟩ => (i ≤ x.length) ∧ (s = totF x i)) (fun ⟨i, s⟩ => x.length - i) (0, 0) (⟨by omega, rfl⟩) ⟨rfl, rfl, rfl, trivial⟩ [] 0 rfl ?_
 rintro ⟨i, s⟩ ⟨hi, hs⟩
 refine GC.seq (GC.seq (GC.region ?_))
 refine G.stepD (OD.move rfl rfl) rfl rfl rfl ?_
 refine G.stepD (OD.move rfl rfl) rfl rfl rfl ?_
 refine G.stepD (OD.len rfl rfl et36 rfl ex) rfl rfl rfl ?_
 refine G.stepD (OD.lss rfl rfl rfl) rfl rfl rfl ?_
 refine G.nil (GE.then_ ?_)
 refine GC.cond rfl (fun hc1 => ?_) (fun hc1 => ?_)
 replace hc1 := of_decide_eq_true hc1
 refine GC.skip (GE.then_ (GC.seq (GC.block (GC.region ?_))))
 refine G.stepD (OD.move rfl rfl) rfl rfl rfl ?_
 refine G.stepD (OD.move rfl rfl) rfl rfl rfl ?_
 refine G.stepD (OD.move rfl rfl) rfl rfl rfl ?_
 refine G.stepD (OD.indexAddr rfl et36 rfl ex rfl (by omega)) rfl rfl rfl ?_
 refine G.stepD (OD.fieldAddrE rfl rfl ex (by omega) fa56_1) rfl rfl rfl ?_
 refine G.stepD (OD.loadField rfl ti3 rfl ex (by omega) (by decide) (recR_snd (by omega))) rfl rfl rfl ?_
 refine G.stepD (OD.add rfl rfl rfl) rfl rfl rfl ?_
 refine G.stepD (OD.assign rfl rfl) rfl rfl rfl ?_
 refine G.nil (GE.blockN (GE.then_ (GC.region ?_)))
 refine G.stepD (OD.move rfl rfl) rfl rfl rfl ?_
 refine G.stepD (OD.addI rfl rfl rfl (by omega)) rfl rfl rfl ?_
 refine G.stepD (OD.assign rfl rfl) rfl rfl rfl ?_
 refine G.nil ?_
 exact GE.again (i + 1, IntKind.i64.wrap (s + ((x.getD (i) ([], 0)).2))) (⟨by omega, fold_next hs rfl⟩) (by first | omega | (dsimp only; omega)) ⟨rfl, rfl, rfl, trivial⟩ [] 0 rfl
 replace hc1 := of_decide_eq_false hc1
 refine GC.exit (GE.pass (GE.pass (GE.hit (GE.then_ (GC.seq (GC.region ?_))))))
 refine G.stepD (OD.move rfl rfl) rfl rfl rfl ?_
 refine G.stepD (OD.assign rfl rfl) rfl rfl rfl ?_
 refine G.nil (GE.then_ (GC.ret ?_))
 exact GE.body [] 0 (res1 rfl rfl) rfl (⟨congrArg (fun (a0 : Int) => (.int .i64 (a0) : Value)) ((by rw [hs, show i = x.length by omega] : (s : Int) = totF x x.length)), rfl⟩)

set_option maxRecDepth 100000 in
theorem dimensionOf_w {W : World} {own : List Asn} {cr : Int} {vcd : Value} {cd : List Int} {vx : Value} {ux : List Value} {x : List Rec}  (scd : IsS vcd) (ecd : Ent own fun w => Ints w vcd cd)   (sx : IsS vx) (ex : Ent own fun w => Recs w vx ux x) (mx : ∀ k, k < x.length → Ent own fun w => Ints w (ux.getD k undef) (x.getD k ([], 0)).1) (lx : ux.length = x.length) (ax : AllS ux)  (hl0 : cd.length ≤ 1073741824) (hlx : x.length ≤ 1073741824) (hle : ∀ r ∈ x, r.1.length ≤ 1073741824) (hg : Ent own fun w => ∃ m, w.cell? ⟨Tryd.l146_ren.g 1, 0, none⟩ = some (.int .i64 m)) : Spec Tryd.prog 30 [.agg #[.int .i64 (cr), vcd], vx] W own (fun v ow => v = .int .i64 (dimOf cr cd x) ∧ ow = own) := by
 refine Spec.enter Tryd.f30 _ Tryd.func30 rfl (n := 11) rfl rfl ?_
 refine GC.seq (GC.region ?_)
 refine G.step (OG.box (cs := [.int .i64 (cr), vcd]) rfl rfl rfl) rfl rfl rfl ?_
 rintro _ _ ⟨g1, rfl, rfl⟩
 refine G.stepD (OD.assign rfl rfl) rfl rfl rfl ?_
 refine G.nil (GE.then_ (GC.seq (GC.seq (GC.region ?_))))
 refine G.stepD (OD.loadAgg rfl ti27 rfl (i := 0) rfl (us := [.int .i64 (cr), vcd]) rfl rfl) rfl rfl rfl ?_
 refine G.stepD (OD.move rfl rfl) rfl rfl rfl ?_
 refine G.step (OG.call [.agg #[.int .i64 (cr), vcd], vx] ent22 rfl rfl rfl rfl (by exact (characterOk_w scd (Ent.drop 1 ecd) sx (Ent.drop 1 ex) (fun k hk => (Ent.drop 1 (mx k hk))) lx ax (hl0) (by omega) (hle) ((Ent.drop 1 hg))))) rfl rfl rfl ?_
 rintro _ _ ⟨rfl, rfl⟩
 refine G.stepD (OD.not rfl rfl) rfl rfl rfl ?_
 refine G.nil (GE.then_ ?_)
 refine GC.cond rfl (fun hc2 => ?_) (fun hc2 => ?_)
 replace hc2 := eq_false_of_not hc2
 refine GC.seq (GC.region ?_)
 refine G.stepD (OD.assign rfl rfl) rfl rfl rfl ?_
 refine G.nil (GE.then_ (GC.ret (GE.passR ?_)))
 exact GE.body [] 1 (res1 rfl rfl) rfl (⟨congrArg (fun (a0 : Int) => (.int .i64 (a0) : Value)) ((by rw [dimOf, hc2]; rfl : (0 : Int) = dimOf cr cd x)), rfl⟩)
 replace hc2 := eq_true_of_not hc2
 refine GC.skip (GE.then_ (GC.seq (GC.region ?_)))
 refine G.stepD (OD.move rfl rfl) rfl rfl rfl ?_
 refine G.step (OG.call [vx] ent62 rfl rfl rfl rfl (by exact (total_w sx (Ent.drop 1 ex) (fun k hk => (Ent.drop 1 (mx k hk))) lx ax (by omega)))) rfl rfl rfl ?_
 rintro _ _ ⟨rfl, rfl⟩
 refine G.stepD (OD.assign rfl rfl) rfl rfl rfl ?_
 refine G.nil (GE.then_ (GC.ret ?_))
 exact GE.body [] 1 (res1 rfl rfl) rfl (⟨congrArg (fun (a0 : Int) => (.int .i64 (a0) : Value)) ((by rw [dimOf, hc2]; rfl : (totF x x.length : Int) = dimOf cr cd x)), rfl⟩)

set_option maxRecDepth 100000 in
theorem specDimensionOf_w {W : World} {own : List Asn} {cr : Int} {vcd : Value} {cd : List Int} {vx : Value} {ux : List Value} {x : List Rec}  (scd : IsS vcd) (ecd : Ent own fun w => Ints w vcd cd)   (sx : IsS vx) (ex : Ent own fun w => Recs w vx ux x) (mx : ∀ k, k < x.length → Ent own fun w => Ints w (ux.getD k undef) (x.getD k ([], 0)).1) (lx : ux.length = x.length) (ax : AllS ux)  (hl0 : cd.length ≤ 1073741824) (hlx : x.length ≤ 1073741824) (hle : ∀ r ∈ x, r.1.length ≤ 1073741824) : Spec Tryd.prog 29 [.agg #[.int .i64 (cr), vcd], vx] W own (fun v ow => v = .int .i64 (dimOf cr cd x) ∧ ow = own) := by
 refine Spec.enter Tryd.f29 _ Tryd.func29 rfl (n := 11) rfl rfl ?_
 refine GC.seq (GC.region ?_)
 refine G.step (OG.box (cs := [.int .i64 (cr), vcd]) rfl rfl rfl) rfl rfl rfl ?_
 rintro _ _ ⟨g1, rfl, rfl⟩
 refine G.stepD (OD.assign rfl rfl) rfl rfl rfl ?_
 refine G.nil (GE.then_ (GC.seq (GC.seq (GC.region ?_))))
 refine G.stepD (OD.loadAgg rfl ti27 rfl (i := 0) rfl (us := [.int .i64 (cr), vcd]) rfl rfl) rfl rfl rfl ?_
 refine G.stepD (OD.move rfl rfl) rfl rfl rfl ?_
 refine G.step (OG.call [.agg #[.int .i64 (cr), vcd], vx] ent20 rfl rfl rfl rfl (by exact (specCharacterOk_w scd (Ent.drop 1 ecd) sx (Ent.drop 1 ex) (fun k hk => (Ent.drop 1 (mx k hk))) lx ax (hl0) (by omega) (hle)))) rfl rfl rfl ?_
 rintro _ _ ⟨rfl, rfl⟩
 refine G.stepD (OD.not rfl rfl) rfl rfl rfl ?_
 refine G.nil (GE.then_ ?_)
 refine GC.cond rfl (fun hc2 => ?_) (fun hc2 => ?_)
 replace hc2 := eq_false_of_not hc2
 refine GC.seq (GC.region ?_)
 refine G.stepD (OD.assign rfl rfl) rfl rfl rfl ?_
 refine G.nil (GE.then_ (GC.ret (GE.passR ?_)))
 exact GE.body [] 1 (res1 rfl rfl) rfl (⟨congrArg (fun (a0 : Int) => (.int .i64 (a0) : Value)) ((by rw [dimOf, hc2]; rfl : (0 : Int) = dimOf cr cd x)), rfl⟩)
 replace hc2 := eq_true_of_not hc2
 refine GC.skip (GE.then_ (GC.seq (GC.region ?_)))
 refine G.stepD (OD.move rfl rfl) rfl rfl rfl ?_
 refine G.step (OG.call [vx] ent61 rfl rfl rfl rfl (by exact (l8Dimension_w sx (Ent.drop 1 ex) (fun k hk => (Ent.drop 1 (mx k hk))) lx ax (by omega)))) rfl rfl rfl ?_
 rintro _ _ ⟨rfl, rfl⟩
 refine G.stepD (OD.assign rfl rfl) rfl rfl rfl ?_
 refine G.nil (GE.then_ (GC.ret ?_))
 exact GE.body [] 1 (res1 rfl rfl) rfl (⟨congrArg (fun (a0 : Int) => (.int .i64 (a0) : Value)) ((by rw [dimOf, hc2]; rfl : (totF x x.length : Int) = dimOf cr cd x)), rfl⟩)

set_option maxHeartbeats 4000000 in
set_option maxRecDepth 100000 in
theorem lawCharacterOk {W : World} {own : List Asn} {cr : Int} {vcd : Value} {cd : List Int} {vx : Value} {ux : List Value} {x : List Rec}  (scd : IsS vcd) (ecd : Ent own fun w => Ints w vcd cd)   (sx : IsS vx) (ex : Ent own fun w => Recs w vx ux x) (mx : ∀ k, k < x.length → Ent own fun w => Ints w (ux.getD k undef) (x.getD k ([], 0)).1) (lx : ux.length = x.length) (ax : AllS ux)  (hcd : cd.length ≤ 9223372036854775807) (hx : x.length ≤ 9223372036854775807) (hle : ∀ r ∈ x, r.1.length ≤ 9223372036854775807) (hg : Ent own fun w => ∃ m, w.cell? ⟨Tryd.l146_ren.g 1, 0, none⟩ = some (.int .i64 m)) : Spec Tryd.prog 4 [.agg #[.int .i64 (cr), vcd], vx] W own (fun v ow => v = .bool (true) ∧ ow = own) := by
 refine Spec.enter Tryd.f4 _ Tryd.func4 rfl (n := 45) rfl rfl ?_
 refine GC.seq (GC.region ?_)
 refine G.step (OG.box (cs := [.int .i64 (cr), vcd]) rfl rfl rfl) rfl rfl rfl ?_
 rintro _ _ ⟨g1, rfl, rfl⟩
 refine G.stepD (OD.assign rfl rfl) rfl rfl rfl ?_
 refine G.nil (GE.then_ (GC.seq (GC.region ?_)))
 refine G.stepD (OD.assign rfl rfl) rfl rfl rfl ?_
 refine G.nil (GE.then_ (GC.seq (GC.region ?_)))
 refine G.stepD (OD.loadAgg rfl ti24 rfl (i := 0) rfl (us := [.int .i64 (cr), vcd]) rfl rfl) rfl rfl rfl ?_
 refine G.stepD (OD.move rfl rfl) rfl rfl rfl ?_
 refine G.step (OG.call [.agg #[.int .i64 (cr), vcd], .int .i64 (1048576)] ent12 rfl rfl rfl rfl (by exact (szCartan_s scd (Ent.drop 1 ecd) (by omega) (by omega)))) rfl rfl rfl ?_
 rintro _ _ ⟨rfl, rfl⟩
 refine G.stepD (OD.assign rfl rfl) rfl rfl rfl ?_
 refine G.nil (GE.then_ (GC.seq (GC.seq (GC.region ?_))))
 refine G.stepD (OD.move rfl rfl) rfl rfl rfl ?_
 refine G.stepD (OD.lss rfl rfl rfl) rfl rfl rfl ?_
 refine G.nil (GE.then_ ?_)
 refine GC.cond rfl (fun hc2 => ?_) (fun hc2 => ?_)
 replace hc2 := of_decide_eq_true hc2
 refine GC.seq (GC.region ?_)
 refine G.stepD (OD.assign rfl rfl) rfl rfl rfl ?_
 refine G.nil (GE.then_ (GC.ret (GE.passR ?_)))
 exact GE.body [] 1 (res1 rfl rfl) rfl (⟨rfl, rfl⟩)
 replace hc2 := of_decide_eq_false hc2
 have hc2z := szG_ok hc2
 refine GC.skip (GE.then_ (GC.seq (GC.region ?_)))
 refine G.stepD (OD.move rfl rfl) rfl rfl rfl ?_
 refine G.stepD (OD.move rfl rfl) rfl rfl rfl ?_
 refine G.step (OG.call [vx, .int .i64 (szG cd.length 1048576)] ent19 rfl rfl rfl rfl (by exact (szTermS_s sx (Ent.drop 1 ex) (fun k hk => (Ent.drop 1 (mx k hk))) lx ax (by omega) (by omega) (hle)))) rfl rfl rfl ?_
 rintro _ _ ⟨rfl, rfl⟩
 refine G.stepD (OD.assign rfl rfl) rfl rfl rfl ?_
 refine G.nil (GE.then_ (GC.seq (GC.seq (GC.region ?_))))
 refine G.stepD (OD.move rfl rfl) rfl rfl rfl ?_
 refine G.stepD (OD.lss rfl rfl rfl) rfl rfl rfl ?_
 refine G.nil (GE.then_ ?_)
 refine GC.cond rfl (fun hc3 => ?_) (fun hc3 => ?_)
 replace hc3 := of_decide_eq_true hc3
 refine GC.seq (GC.region ?_)
 refine G.stepD (OD.assign rfl rfl) rfl rfl rfl ?_
 refine G.nil (GE.then_ (GC.ret (GE.passR ?_)))
 exact GE.body [] 1 (res1 rfl rfl) rfl (⟨rfl, rfl⟩)
 replace hc3 := of_decide_eq_false hc3
 have hc3r := szR_ok hc3
 have hle1 : ∀ r ∈ x, r.1.length ≤ 1048576 := fun r hr => by have := hc3r.2 r hr; omega
 have hle2 : ∀ r ∈ x, r.1.length ≤ 1073741824 := fun r hr => Nat.le_trans (hle1 r hr) (by decide)
 refine GC.skip (GE.then_ (GC.seq (GC.region ?_)))
 refine G.stepD (OD.loadAgg rfl ti24 rfl (i := 0) rfl (us := [.int .i64 (cr), vcd]) rfl rfl) rfl rfl rfl ?_
 refine G.step (OG.call [.agg #[.int .i64 (cr), vcd]] ent14 rfl rfl rfl rfl (by exact (toCartan_s scd (Ent.drop 1 ecd) (by omega)))) rfl rfl rfl ?_
 rintro _ _ ⟨v4, rfl, hs5, rfl⟩
 refine G.stepD (OD.move rfl rfl) rfl rfl rfl ?_
 refine G.step (OG.call [vx] ent21 rfl rfl rfl rfl (by exact (toTermS_s sx (Ent.drop 2 ex) (fun k hk => (Ent.drop 2 (mx k hk))) lx ax (by omega) (hle2)))) rfl rfl rfl ?_
 rintro v6 _ ⟨_, u7, rfl, hs8, hs9, hs10, rfl⟩
 refine G.step (OG.call [.agg #[.int .i64 (cr), v4], v6] ent20 rfl rfl rfl rfl (by exact (specCharacterOk_w hs5 (Ent.ints (i := 2) rfl) hs8 (Ent.recs (i := 0) rfl) (fun k hk => by exact Ent.manyRec (i := 1) (k := k) rfl ⟨by omega, hk⟩) hs10 hs9 (by omega) (by omega) (hle2)))) rfl rfl rfl ?_
 rintro _ _ ⟨rfl, rfl⟩
 refine G.stepD (OD.assign rfl rfl) rfl rfl rfl ?_
 refine G.nil (GE.then_ (GC.seq (GC.region ?_)))
 refine G.stepD (OD.loadAgg rfl ti24 rfl (i := 3) rfl (us := [.int .i64 (cr), vcd]) rfl rfl) rfl rfl rfl ?_
 refine G.step (OG.call [.agg #[.int .i64 (cr), vcd]] ent14 rfl rfl rfl rfl (by exact (toCartan_s scd (Ent.drop 4 ecd) (by omega)))) rfl rfl rfl ?_
 rintro _ _ ⟨v11, rfl, hs12, rfl⟩
 refine G.step (OG.alloc rfl ti27 (zs := [.int .i64 (0), .slice none 0 0]) rfl) rfl rfl rfl ?_
 rintro _ _ ⟨g13, rfl, rfl⟩
 refine G.stepD0 (OD.store rfl ti27 rfl rfl (us := [.int .i64 (cr), v11]) rfl rfl (allC rfl (allC (IsS.one hs12) rfl)) (i := 0) rfl rfl) rfl rfl ?_
 refine G.nil (GE.then_ (GC.seq (GC.region ?_)))
 refine G.stepD (OD.move rfl rfl) rfl rfl rfl ?_
 refine G.step (OG.call [vx] ent21 rfl rfl rfl rfl (by exact (toTermS_s sx (Ent.drop 6 ex) (fun k hk => (Ent.drop 6 (mx k hk))) lx ax (by omega) (hle2)))) rfl rfl rfl ?_
 rintro v14 _ ⟨_, u15, rfl, hs16, hs17, hs18, rfl⟩
 refine G.stepD (OD.assign rfl rfl) rfl rfl rfl ?_
 refine G.nil (GE.then_ (GC.seq (GC.region ?_)))
 refine G.stepD (OD.loadAgg rfl ti27 rfl (i := 2) rfl (us := [.int .i64 (cr), v11]) rfl rfl) rfl rfl rfl ?_
 refine G.stepD (OD.move rfl rfl) rfl rfl rfl ?_
 refine G.step (OG.call [.agg #[.int .i64 (cr), v11], v14] ent22 rfl rfl rfl rfl (by exact (characterOk_w hs12 (Ent.ints (i := 3) rfl) hs16 (Ent.recs (i := 0) rfl) (fun k hk => by exact Ent.manyRec (i := 1) (k := k) rfl ⟨by omega, hk⟩) hs18 hs17 (by omega) (by omega) (hle2) ((Ent.drop 8 hg))))) rfl rfl rfl ?_
 rintro _ _ ⟨rfl, rfl⟩
 refine G.stepD (OD.assign rfl rfl) rfl rfl rfl ?_
 refine G.nil (GE.then_ (GC.seq (GC.seq (GC.region ?_))))
 refine G.stepD (OD.move rfl rfl) rfl rfl rfl ?_
 refine G.stepD (OD.move rfl rfl) rfl rfl rfl ?_
 refine G.stepD (OD.eqv (OD.neqB bt4 rfl rfl rfl) (congrArg Value.bool (bneB_same _))) rfl rfl rfl ?_
 refine G.nil (GE.then_ (GC.condF rfl (GC.skip (GE.then_ (GC.seq (GC.seq ?_))))))
 refine GC.at [] 0 (env' := [(1, vx), (2, .pointer (some ⟨g1, 0, none⟩)), (7, .pointer (some ⟨g13, 0, none⟩)), (8, v14)]) ⟨rfl, rfl, rfl, rfl, trivial⟩ rfl ?_
 refine GC.par (its := [⟨35, [], [], [], [], fun _ => .agg #[.int .i64 (cr), v11], fun _ => True, fun _ => []⟩,
     ⟨36, [], [], [], [], fun _ => .agg #[.int .i64 (cr), vcd], fun _ => True, fun _ => []⟩,
     ⟨37, [(1, 36)], [], [], [2], fun ds => .agg #[.int .i64 (cr), ((ds.getD 0 []).getD 0 undef)], fun ds => IsS ((ds.getD 0 []).getD 0 undef), fun ds => [ints 3 ((ds.getD 0 []).getD 0 undef) cd]⟩,
     ⟨38, [(0, 35), (2, 37)], [2], [], [2], fun _ => .bool true, fun _ => True, fun _ => []⟩,
     ⟨39, [(3, 38)], [2], [], [2], fun _ => .bool false, fun _ => True, fun _ => []⟩]) (by kernel_rfl) (by kernel_rfl) (POps.cons ?_ (POps.cons ?_ (POps.cons ?_ (POps.cons ?_ (POps.cons ?_ POps.nil))))) ?_
 intro θ R hd
 exact Opp.plain (OG.imp (OD.loadAgg rfl ti27 rfl (i := 2) rfl (us := [.int .i64 (cr), v11]) rfl rfl) (by rintro _ _ ⟨rfl, rfl⟩; exact ⟨[], rfl, trivial, rfl⟩)) rfl
 intro θ R hd
 exact Opp.plain (OG.imp (OD.loadAgg rfl ti24 rfl (i := 7) rfl (us := [.int .i64 (cr), vcd]) rfl rfl) (by rintro _ _ ⟨rfl, rfl⟩; exact ⟨[], rfl, trivial, rfl⟩)) rfl
 intro θ R hd
 obtain ⟨h1d, _⟩ := hd
 exact Opp.plain (OG.imp (OG.call [.agg #[.int .i64 (cr), vcd]] ent14 rfl rfl rfl rfl (by exact (toCartan_s scd (Ent.drop 8 ecd.app) (by omega)))) (by rintro _ _ ⟨v19, rfl, hs20, rfl⟩; exact ⟨[v19], rfl, hs20, rfl⟩)) rfl
 intro θ R hd
 obtain ⟨h0d, h2d, _⟩ := hd
 exact Opp.plain (OG.imp (OG.call [.agg #[.int .i64 (cr), v11], .agg #[.int .i64 (cr), ((θ 2).getD 0 undef)]] ent17 rfl rfl rfl rfl (by exact (eqCartan_same hs12 (Ent.ints (i := 4) rfl) h2d (Ent.ints (i := 0) rfl) (by omega)))) (by rintro _ _ ⟨rfl, rfl⟩; exact ⟨[], rfl, trivial, rfl⟩)) rfl
 intro θ R hd
 obtain ⟨h3d, _⟩ := hd
 exact Opp.plain (OG.imp (OD.not rfl rfl) (by rintro _ _ ⟨rfl, rfl⟩; exact ⟨[], rfl, trivial, rfl⟩)) rfl
 intro θ hall
 obtain ⟨_, _, h2a, _, _, _⟩ := hall
 refine G.at [] 0 (env' := [(1, vx), (8, v14), (39, .bool false)]) ⟨rfl, rfl, rfl, trivial⟩ (own' := ints 3 ((θ 2).getD 0 undef) cd :: recs 56 v14 u15 x :: many (recI 3) u15 x :: box g13 27 [.int .i64 (cr), v11] :: ints 3 v11 cd :: recs 56 v6 u7 x :: many (recI 3) u7 x :: ints 3 v4 cd :: box g1 24 [.int .i64 (cr), vcd] :: own) rfl ?_
 have hs21 : IsS ((θ 2).getD 0 undef) := h2a
 clear h2a
 generalize ((θ 2).getD 0 undef) = v22 at *
 show G _ _ _ [] _ _ _ _
 refine G.nil (GE.then_ (GC.condF rfl (GC.skip (GE.then_ (GC.seq (GC.seq (GC.region ?_)))))))
 refine G.stepD (OD.move rfl rfl) rfl rfl rfl ?_
 refine G.stepD (OD.move rfl rfl) rfl rfl rfl ?_
 refine G.step (OG.call [vx] ent21 rfl rfl rfl rfl (by exact (toTermS_s sx (Ent.drop 9 ex) (fun k hk => (Ent.drop 9 (mx k hk))) lx ax (by omega) (hle2)))) rfl rfl rfl ?_
 rintro v23 _ ⟨_, u24, rfl, hs25, hs26, hs27, rfl⟩
 refine G.step (OG.call [v14, v23] ent23 rfl rfl rfl rfl (by exact (eqTermS_same hs16 (Ent.recs (i := 3) rfl) (fun k hk => by exact Ent.manyRec (i := 4) (k := k) rfl ⟨by omega, hk⟩) hs18 hs17 hs25 (Ent.recs (i := 0) rfl) (fun k hk => by exact Ent.manyRec (i := 1) (k := k) rfl ⟨by omega, hk⟩) hs27 hs26 (by omega) (hle)))) rfl rfl rfl ?_
 rintro _ _ ⟨rfl, rfl⟩
 refine G.stepD (OD.not rfl rfl) rfl rfl rfl ?_
 refine G.nil (GE.then_ (GC.condF rfl (GC.skip (GE.then_ (GC.seq (GC.region ?_))))))
 refine G.stepD (OD.assign rfl rfl) rfl rfl rfl ?_
 refine G.nil (GE.then_ (GC.ret ?_))
 exact GE.body [] 11 (res1 rfl rfl) rfl (⟨rfl, rfl⟩)

set_option maxHeartbeats 4000000 in
set_option maxRecDepth 100000 in
theorem lawDimensionOf {W : World} {own : List Asn} {cr : Int} {vcd : Value} {cd : List Int} {vx : Value} {ux : List Value} {x : List Rec}  (scd : IsS vcd) (ecd : Ent own fun w => Ints w vcd cd)   (sx : IsS vx) (ex : Ent own fun w => Recs w vx ux x) (mx : ∀ k, k < x.length → Ent own fun w => Ints w (ux.getD k undef) (x.getD k ([], 0)).1) (lx : ux.length = x.length) (ax : AllS ux)  (hcd : cd.length ≤ 9223372036854775807) (hx : x.length ≤ 9223372036854775807) (hle : ∀ r ∈ x, r.1.length ≤ 9223372036854775807) (hg : Ent own fun w => ∃ m, w.cell? ⟨Tryd.l146_ren.g 1, 0, none⟩ = some (.int .i64 m)) : Spec Tryd.prog 6 [.agg #[.int .i64 (cr), vcd], vx] W own (fun v ow => v = .bool (true) ∧ ow = own) := by
 refine Spec.enter Tryd.f6 _ Tryd.func6 rfl (n := 45) rfl rfl ?_
 refine GC.seq (GC.region ?_)
 refine G.step (OG.box (cs := [.int .i64 (cr), vcd]) rfl rfl rfl) rfl rfl rfl ?_
 rintro _ _ ⟨g1, rfl, rfl⟩
 refine G.stepD (OD.assign rfl rfl) rfl rfl rfl ?_
 refine G.nil (GE.then_ (GC.seq (GC.region ?_)))
 refine G.stepD (OD.assign rfl rfl) rfl rfl rfl ?_
 refine G.nil (GE.then_ (GC.seq (GC.region ?_)))
 refine G.stepD (OD.loadAgg rfl ti24 rfl (i := 0) rfl (us := [.int .i64 (cr), vcd]) rfl rfl) rfl rfl rfl ?_
 refine G.stepD (OD.move rfl rfl) rfl rfl rfl ?_
 refine G.step (OG.call [.agg #[.int .i64 (cr), vcd], .int .i64 (1048576)] ent12 rfl rfl rfl rfl (by exact (szCartan_s scd (Ent.drop 1 ecd) (by omega) (by omega)))) rfl rfl rfl ?_
 rintro _ _ ⟨rfl, rfl⟩
 refine G.stepD (OD.assign rfl rfl) rfl rfl rfl ?_
 refine G.nil (GE.then_ (GC.seq (GC.seq (GC.region ?_))))
 refine G.stepD (OD.move rfl rfl) rfl rfl rfl ?_
 refine G.stepD (OD.lss rfl rfl rfl) rfl rfl rfl ?_
 refine G.nil (GE.then_ ?_)
 refine GC.cond rfl (fun hc2 => ?_) (fun hc2 => ?_)
 replace hc2 := of_decide_eq_true hc2
 refine GC.seq (GC.region ?_)
 refine G.stepD (OD.assign rfl rfl) rfl rfl rfl ?_
 refine G.nil (GE.then_ (GC.ret (GE.passR ?_)))
 exact GE.body [] 1 (res1 rfl rfl) rfl (⟨rfl, rfl⟩)
 replace hc2 := of_decide_eq_false hc2
 have hc2z := szG_ok hc2
 refine GC.skip (GE.then_ (GC.seq (GC.region ?_)))
 refine G.stepD (OD.move rfl rfl) rfl rfl rfl ?_
 refine G.stepD (OD.move rfl rfl) rfl rfl rfl ?_
 refine G.step (OG.call [vx, .int .i64 (szG cd.length 1048576)] ent19 rfl rfl rfl rfl (by exact (szTermS_s sx (Ent.drop 1 ex) (fun k hk => (Ent.drop 1 (mx k hk))) lx ax (by omega) (by omega) (hle)))) rfl rfl rfl ?_
 rintro _ _ ⟨rfl, rfl⟩
 refine G.stepD (OD.assign rfl rfl) rfl rfl rfl ?_
 refine G.nil (GE.then_ (GC.seq (GC.seq (GC.region ?_))))
 refine G.stepD (OD.move rfl rfl) rfl rfl rfl ?_
 refine G.stepD (OD.lss rfl rfl rfl) rfl rfl rfl ?_
 refine G.nil (GE.then_ ?_)
 refine GC.cond rfl (fun hc3 => ?_) (fun hc3 => ?_)
 replace hc3 := of_decide_eq_true hc3
 refine GC.seq (GC.region ?_)
 refine G.stepD (OD.assign rfl rfl) rfl rfl rfl ?_
 refine G.nil (GE.then_ (GC.ret (GE.passR ?_)))
 exact GE.body [] 1 (res1 rfl rfl) rfl (⟨rfl, rfl⟩)
 replace hc3 := of_decide_eq_false hc3
 have hc3r := szR_ok hc3
 have hle1 : ∀ r ∈ x, r.1.length ≤ 1048576 := fun r hr => by have := hc3r.2 r hr; omega
 have hle2 : ∀ r ∈ x, r.1.length ≤ 1073741824 := fun r hr => Nat.le_trans (hle1 r hr) (by decide)
 refine GC.skip (GE.then_ (GC.seq (GC.region ?_)))
 refine G.stepD (OD.loadAgg rfl ti24 rfl (i := 0) rfl (us := [.int .i64 (cr), vcd]) rfl rfl) rfl rfl rfl ?_
 refine G.step (OG.call [.agg #[.int .i64 (cr), vcd]] ent14 rfl rfl rfl rfl (by exact (toCartan_s scd (Ent.drop 1 ecd) (by omega)))) rfl rfl rfl ?_
 rintro _ _ ⟨v4, rfl, hs5, rfl⟩
 refine G.stepD (OD.move rfl rfl) rfl rfl rfl ?_
 refine G.step (OG.call [vx] ent21 rfl rfl rfl rfl (by exact (toTermS_s sx (Ent.drop 2 ex) (fun k hk => (Ent.drop 2 (mx k hk))) lx ax (by omega) (hle2)))) rfl rfl rfl ?_
 rintro v6 _ ⟨_, u7, rfl, hs8, hs9, hs10, rfl⟩
 refine G.step (OG.call [.agg #[.int .i64 (cr), v4], v6] ent29 rfl rfl rfl rfl (by exact (specDimensionOf_w hs5 (Ent.ints (i := 2) rfl) hs8 (Ent.recs (i := 0) rfl) (fun k hk => by exact Ent.manyRec (i := 1) (k := k) rfl ⟨by omega, hk⟩) hs10 hs9 (by omega) (by omega) (hle2)))) rfl rfl rfl ?_
 rintro _ _ ⟨rfl, rfl⟩
 refine G.stepD (OD.assign rfl rfl) rfl rfl rfl ?_
 refine G.nil (GE.then_ (GC.seq (GC.region ?_)))
 refine G.stepD (OD.loadAgg rfl ti24 rfl (i := 3) rfl (us := [.int .i64 (cr), vcd]) rfl rfl) rfl rfl rfl ?_
 refine G.step (OG.call [.agg #[.int .i64 (cr), vcd]] ent14 rfl rfl rfl rfl (by exact (toCartan_s scd (Ent.drop 4 ecd) (by omega)))) rfl rfl rfl ?_
 rintro _ _ ⟨v11, rfl, hs12, rfl⟩
 refine G.step (OG.alloc rfl ti27 (zs := [.int .i64 (0), .slice none 0 0]) rfl) rfl rfl rfl ?_
 rintro _ _ ⟨g13, rfl, rfl⟩
 refine G.stepD0 (OD.store rfl ti27 rfl rfl (us := [.int .i64 (cr), v11]) rfl rfl (allC rfl (allC (IsS.one hs12) rfl)) (i := 0) rfl rfl) rfl rfl ?_
 refine G.nil (GE.then_ (GC.seq (GC.region ?_)))
 refine G.stepD (OD.move rfl rfl) rfl rfl rfl ?_
 refine G.step (OG.call [vx] ent21 rfl rfl rfl rfl (by exact (toTermS_s sx (Ent.drop 6 ex) (fun k hk => (Ent.drop 6 (mx k hk))) lx ax (by omega) (hle2)))) rfl rfl rfl ?_
 rintro v14 _ ⟨_, u15, rfl, hs16, hs17, hs18, rfl⟩
 refine G.stepD (OD.assign rfl rfl) rfl rfl rfl ?_
 refine G.nil (GE.then_ (GC.seq (GC.region ?_)))
 refine G.stepD (OD.loadAgg rfl ti27 rfl (i := 2) rfl (us := [.int .i64 (cr), v11]) rfl rfl) rfl rfl rfl ?_
 refine G.stepD (OD.move rfl rfl) rfl rfl rfl ?_
 refine G.step (OG.call [.agg #[.int .i64 (cr), v11], v14] ent30 rfl rfl rfl rfl (by exact (dimensionOf_w hs12 (Ent.ints (i := 3) rfl) hs16 (Ent.recs (i := 0) rfl) (fun k hk => by exact Ent.manyRec (i := 1) (k := k) rfl ⟨by omega, hk⟩) hs18 hs17 (by omega) (by omega) (hle2) ((Ent.drop 8 hg))))) rfl rfl rfl ?_
 rintro _ _ ⟨rfl, rfl⟩
 refine G.stepD (OD.assign rfl rfl) rfl rfl rfl ?_
 refine G.nil (GE.then_ (GC.seq (GC.seq (GC.region ?_))))
 refine G.stepD (OD.move rfl rfl) rfl rfl rfl ?_
 refine G.stepD (OD.move rfl rfl) rfl rfl rfl ?_
 refine G.stepD (OD.eqv (OD.neq rfl rfl rfl) (congrArg Value.bool ((bne_same _) : _ = false))) rfl rfl rfl ?_
 refine G.nil (GE.then_ (GC.condF rfl (GC.skip (GE.then_ (GC.seq (GC.seq ?_))))))
 refine GC.at [] 0 (env' := [(1, vx), (2, .pointer (some ⟨g1, 0, none⟩)), (7, .pointer (some ⟨g13, 0, none⟩)), (8, v14)]) ⟨rfl, rfl, rfl, rfl, trivial⟩ rfl ?_
 refine GC.par (its := [⟨35, [], [], [], [], fun _ => .agg #[.int .i64 (cr), v11], fun _ => True, fun _ => []⟩,
     ⟨36, [], [], [], [], fun _ => .agg #[.int .i64 (cr), vcd], fun _ => True, fun _ => []⟩,
     ⟨37, [(1, 36)], [], [], [2], fun ds => .agg #[.int .i64 (cr), ((ds.getD 0 []).getD 0 undef)], fun ds => IsS ((ds.getD 0 []).getD 0 undef), fun ds => [ints 3 ((ds.getD 0 []).getD 0 undef) cd]⟩,
     ⟨38, [(0, 35), (2, 37)], [2], [], [2], fun _ => .bool true, fun _ => True, fun _ => []⟩,
     ⟨39, [(3, 38)], [2], [], [2], fun _ => .bool false, fun _ => True, fun _ => []⟩]) (by kernel_rfl) (by kernel_rfl) (POps.cons ?_ (POps.cons ?_ (POps.cons ?_ (POps.cons ?_ (POps.cons ?_ POps.nil))))) ?_
 intro θ R hd
 exact Opp.plain (OG.imp (OD.loadAgg rfl ti27 rfl (i := 2) rfl (us := [.int .i64 (cr), v11]) rfl rfl) (by rintro _ _ ⟨rfl, rfl⟩; exact ⟨[], rfl, trivial, rfl⟩)) rfl
 intro θ R hd
 exact Opp.plain (OG.imp (OD.loadAgg rfl ti24 rfl (i := 7) rfl (us := [.int .i64 (cr), vcd]) rfl rfl) (by rintro _ _ ⟨rfl, rfl⟩; exact ⟨[], rfl, trivial, rfl⟩)) rfl
 intro θ R hd
 obtain ⟨h1d, _⟩ := hd
 exact Opp.plain (OG.imp (OG.call [.agg #[.int .i64 (cr), vcd]] ent14 rfl rfl rfl rfl (by exact (toCartan_s scd (Ent.drop 8 ecd.app) (by omega)))) (by rintro _ _ ⟨v19, rfl, hs20, rfl⟩; exact ⟨[v19], rfl, hs20, rfl⟩)) rfl
 intro θ R hd
 obtain ⟨h0d, h2d, _⟩ := hd
 exact Opp.plain (OG.imp (OG.call [.agg #[.int .i64 (cr), v11], .agg #[.int .i64 (cr), ((θ 2).getD 0 undef)]] ent17 rfl rfl rfl rfl (by exact (eqCartan_same hs12 (Ent.ints (i := 4) rfl) h2d (Ent.ints (i := 0) rfl) (by omega)))) (by rintro _ _ ⟨rfl, rfl⟩; exact ⟨[], rfl, trivial, rfl⟩)) rfl
 intro θ R hd
 obtain ⟨h3d, _⟩ := hd
 exact Opp.plain (OG.imp (OD.not rfl rfl) (by rintro _ _ ⟨rfl, rfl⟩; exact ⟨[], rfl, trivial, rfl⟩)) rfl
 intro θ hall
 obtain ⟨_, _, h2a, _, _, _⟩ := hall
 refine G.at [] 0 (env' := [(1, vx), (8, v14), (39, .bool false)]) ⟨rfl, rfl, rfl, trivial⟩ (own' := ints 3 ((θ 2).getD 0 undef) cd :: recs 56 v14 u15 x :: many (recI 3) u15 x :: box g13 27 [.int .i64 (cr), v11] :: ints 3 v11 cd :: recs 56 v6 u7 x :: many (recI 3) u7 x :: ints 3 v4 cd :: box g1 24 [.int .i64 (cr), vcd] :: own) rfl ?_
 have hs21 : IsS ((θ 2).getD 0 undef) := h2a
 clear h2a
 generalize ((θ 2).getD 0 undef) = v22 at *
 show G _ _ _ [] _ _ _ _
 refine G.nil (GE.then_ (GC.condF rfl (GC.skip (GE.then_ (GC.seq (GC.seq (GC.region ?_)))))))
 refine G.stepD (OD.move rfl rfl) rfl rfl rfl ?_
 refine G.stepD (OD.move rfl rfl) rfl rfl rfl ?_
 refine G.step (OG.call [vx] ent21 rfl rfl rfl rfl (by exact (toTermS_s sx (Ent.drop 9 ex) (fun k hk => (Ent.drop 9 (mx k hk))) lx ax (by omega) (hle2)))) rfl rfl rfl ?_
 rintro v23 _ ⟨_, u24, rfl, hs25, hs26, hs27, rfl⟩
 refine G.step (OG.call [v14, v23] ent23 rfl rfl rfl rfl (by exact (eqTermS_same hs16 (Ent.recs (i := 3) rfl) (fun k hk => by exact Ent.manyRec (i := 4) (k := k) rfl ⟨by omega, hk⟩) hs18 hs17 hs25 (Ent.recs (i := 0) rfl) (fun k hk => by exact Ent.manyRec (i := 1) (k := k) rfl ⟨by omega, hk⟩) hs27 hs26 (by omega) (hle)))) rfl rfl rfl ?_
 rintro _ _ ⟨rfl, rfl⟩
 refine G.stepD (OD.not rfl rfl) rfl rfl rfl ?_
 refine G.nil (GE.then_ (GC.condF rfl (GC.skip (GE.then_ (GC.seq (GC.region ?_))))))
 refine G.stepD (OD.assign rfl rfl) rfl rfl rfl ?_
 refine G.nil (GE.then_ (GC.ret ?_))
 exact GE.body [] 11 (res1 rfl rfl) rfl (⟨rfl, rfl⟩)

end Go.Proofs.YtgafcopihlmfpaaDoor
