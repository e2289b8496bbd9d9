/-
  AddMatrices (the program's), by its contract.
-/
import Derived.Test.YtiapoopcicjldaaPlus
namespace Go.Proofs.Ytiapoopcicjldaa
set_option linter.unusedVariables false
set_option linter.unusedSimpArgs false
open Go.RowKit

def mat0 : Mat := ⟨0, 0, 0, []⟩
def sameShape (a b : Mat) : Bool := a.p == b.p && (a.r == b.r && a.c == b.c)
def addMF (a b : Mat) : Mat × Bool := if matOkB a && (matOkB b && sameShape a b) then (plusF a 1 b, true) else (mat0, false)

theorem MatOk.small {m : Mat} (h : MatOk m) : Small m := ⟨by have := h.p0; omega, by have := h.p1; omega, by have := h.le; omega, fun x hx => by have := h.res x hx; have := h.p1; omega⟩

/-- The world in which a function of two matrices (with a struct result) begins: the two boxes, the result's variable. -/
def W2 (w : World) (a : Mat) (da : Value) (b : Mat) (db : Value) (R : Obj) : World :=
  ((w.alloc (.cells #[.int .i64 a.p, .int .i64 a.r, .int .i64 a.c, da] 35)).alloc (.cells #[.int .i64 b.p, .int .i64 b.r, .int .i64 b.c, db] 35)).alloc R

structure W2F (w W : World) (a : Mat) (da : Value) (b : Mat) (db : Value) : Prop where
  size : W.heap.size = w.heap.size + 3
  below : Below w.heap.size w W
  a : Bx W w.heap.size 35 [.int .i64 a.p, .int .i64 a.r, .int .i64 a.c, da]
  b : Bx W (w.heap.size + 1) 35 [.int .i64 b.p, .int .i64 b.r, .int .i64 b.c, db]
  r : Bx W (w.heap.size + 1 + 1) 35 [.int .i64 0, .int .i64 0, .int .i64 0, .slice none 0 0]
theorem W2F.mk' (w : World) (a : Mat) (da : Value) (b : Mat) (db : Value) :
    ∃ W, W = ((w.alloc (.cells #[.int .i64 a.p, .int .i64 a.r, .int .i64 a.c, da] 35)).alloc (.cells #[.int .i64 b.p, .int .i64 b.r, .int .i64 b.c, db] 35)).alloc (.cells #[.int .i64 0, .int .i64 0, .int .i64 0, .slice none 0 0] 35) ∧ W2F w W a da b db := by
  refine ⟨_, rfl, by simp, (((Below.refl w.heap.size w).alloc (Nat.le_refl _) _).alloc (by simp) _).alloc (by simp; omega) _, ((Bx.push w _ _).alloc _).alloc _, (Bx.push' _ _ _ _ (by simp)).alloc _, Bx.push' _ _ _ _ (by simp)⟩

set_option maxHeartbeats 1000000 in
theorem addMatrices_any (va vb : Value) (a b : Mat) (w : World) (ha : IsMat w va a) (hb : IsMat w vb b) :
    Calls Try.prog 21 #[va, vb] w fun e w' => ∃ r, e = .returned (.tuple #[r, .bool (addMF a b).2]) ∧ OwnMat w' w.heap.size r (addMF a b).1 ∧ Below w.heap.size w w' := by
  obtain ⟨da, rfl, hda⟩ := ha
  obtain ⟨db, rfl, hdb⟩ := hb
  obtain ⟨aoa, capa, rfl⟩ := Sl.form hda
  obtain ⟨aob, capb, rfl⟩ := Sl.form hdb
  obtain ⟨W, hW, F⟩ := W2F.mk' w a (.slice aoa a.d.length capa) b (.slice aob b.d.length capb)
  have HW := hid hW; clear hW
  have hA : ∀ w', Below W.heap.size W w' → IsMat w' (.agg #[.int .i64 a.p, .int .i64 a.r, .int .i64 a.c, .slice aoa a.d.length capa]) a := fun w' h => ⟨_, rfl, Sl.below hda (F.below.trans (h.mono F.below.size))⟩
  have hB : ∀ w', Below W.heap.size W w' → IsMat w' (.agg #[.int .i64 b.p, .int .i64 b.r, .int .i64 b.c, .slice aob b.d.length capb]) b := fun w' h => ⟨_, rfl, Sl.below hdb (F.below.trans (h.mono F.below.size))⟩
  have a0 : ∀ w', Below W.heap.size W w' → w'.cell? ⟨w.heap.size, 0, none⟩ = some (.int .i64 a.p) := fun w' h => (F.a.below h F.a.lt).cells4.1
  have a1 : ∀ w', Below W.heap.size W w' → w'.cell? ⟨w.heap.size, 1, none⟩ = some (.int .i64 a.r) := fun w' h => (F.a.below h F.a.lt).cells4.2.1
  have a2 : ∀ w', Below W.heap.size W w' → w'.cell? ⟨w.heap.size, 2, none⟩ = some (.int .i64 a.c) := fun w' h => (F.a.below h F.a.lt).cells4.2.2.1
  have a3 : ∀ w', Below W.heap.size W w' → w'.cell? ⟨w.heap.size, 3, none⟩ = some (.slice aoa a.d.length capa) := fun w' h => (F.a.below h F.a.lt).cells4.2.2.2
  have b0 : ∀ w', Below W.heap.size W w' → w'.cell? ⟨w.heap.size + 1, 0, none⟩ = some (.int .i64 b.p) := fun w' h => (F.b.below h F.b.lt).cells4.1
  have b1 : ∀ w', Below W.heap.size W w' → w'.cell? ⟨w.heap.size + 1, 1, none⟩ = some (.int .i64 b.r) := fun w' h => (F.b.below h F.b.lt).cells4.2.1
  have b2 : ∀ w', Below W.heap.size W w' → w'.cell? ⟨w.heap.size + 1, 2, none⟩ = some (.int .i64 b.c) := fun w' h => (F.b.below h F.b.lt).cells4.2.2.1
  have b3 : ∀ w', Below W.heap.size W w' → w'.cell? ⟨w.heap.size + 1, 3, none⟩ = some (.slice aob b.d.length capb) := fun w' h => (F.b.below h F.b.lt).cells4.2.2.2
  have r0 : ∀ w', Below W.heap.size W w' → w'.cell? ⟨w.heap.size + 1 + 1, 0, none⟩ = some (.int .i64 0) := fun w' h => (F.r.below h F.r.lt).cells4.1
  have r1 : ∀ w', Below W.heap.size W w' → w'.cell? ⟨w.heap.size + 1 + 1, 1, none⟩ = some (.int .i64 0) := fun w' h => (F.r.below h F.r.lt).cells4.2.1
  have r2 : ∀ w', Below W.heap.size W w' → w'.cell? ⟨w.heap.size + 1 + 1, 2, none⟩ = some (.int .i64 0) := fun w' h => (F.r.below h F.r.lt).cells4.2.2.1
  have r3 : ∀ w', Below W.heap.size W w' → w'.cell? ⟨w.heap.size + 1 + 1, 3, none⟩ = some (.slice none 0 0) := fun w' h => (F.r.below h F.r.lt).cells4.2.2.2
  have rf : ∀ w' o, Below W.heap.size W w' → w'.frozen? ⟨w.heap.size + 1 + 1, o, none⟩ = false := fun w' o h => (F.r.below h F.r.lt).free o
  have HA := hid hA; have HB := hid hB
  clear hA hB
  have hbc : Below W.heap.size W W := Below.refl _ _
  by_cases h1 : matOkB a = true
  · by_cases h2 : matOkB b = true
    · have oka := (matOk_of h1).small
      have okb := (matOk_of h2).small
      by_cases h3 : sameShape a b = true
      · have HF := hid (show addMF a b = (plusF a 1 b, true) by simp [addMF, h1, h2, h3])
        have hlen : b.d.length = a.d.length := by
          have la := (matOk_of h1).len
          have lb := (matOk_of h2).len
          simp only [sameShape, Bool.and_eq_true, beq_iff_eq] at h3
          rw [h3.2.1, h3.2.2] at la
          omega
        simp only [sameShape, Bool.and_eq_true] at h3
        obtain ⟨e1, e2, e3⟩ := h3
        have n1 : (a.p != b.p) = false := by simpa using e1
        have n2 : (a.r != b.r) = false := by simpa using e2
        have n3 : (a.c != b.c) = false := by simpa using e3
        have HL := hid hlen
        clear e1 e2 e3 hlen
        go_enter Try.func21, Try.ntmps21
        go_upto_region 1 with fail
        rw [← HW.out]
        go_wp2_with fail
        refine (matrixOk_any _ a _ (HA.out _ hbc)).mono ?_; rintro e w1 ⟨rfl, hb1⟩
        go_wp2_with fail
        refine (matrixOk_any _ b _ (HB.out _ hb1)).mono ?_; rintro e w2 ⟨rfl, hz2⟩
        have hb2 : Below W.heap.size W w2 := hb1.trans (hz2.mono hb1.size)
        go_wp2_with fail
        refine (plus_any _ _ a b 1 _ (HA.out _ hb2) (HB.out _ hb2) oka okb (by omega) (by omega) (by rw [HL.out]; exact Nat.le_refl _)).mono ?_; rintro e w3 ⟨r, rfl, hr, hz3⟩
        obtain ⟨dv, rfl, hO⟩ := hr
        obtain ⟨aor, capr, rfl⟩ := hO.form
        have hb3 : Below W.heap.size W w3 := hb2.trans (hz3.mono hb2.size)
        have HO := hid hO
        clear hO
        go_wp2_with fail
        refine bodyPost_ret (v := .tuple #[.agg #[.int .i64 (plusF a 1 b).p, .int .i64 (plusF a 1 b).r, .int .i64 (plusF a 1 b).c, .slice aor (plusF a 1 b).d.length capr], .bool true]) (by simp [results, Try.results21, go_sem, r0 _ hb3, r1 _ hb3, r2 _ hb3, r3 _ hb3]) rfl ?_
        rw [HF.out]
        have hs2 := hb2.size
        have hsz := F.size
        refine ⟨_, rfl, ⟨_, rfl, ?_⟩, Below.setCell (Below.setCell (Below.setCell (Below.setCell (F.below.trans (hb3.mono (by omega))) (by simp; omega) _) (by simp; omega) _) (by simp; omega) _) (by simp; omega) _⟩
        exact ((((HO.out.setB (by simp; omega)).setB (by simp; omega)).setB (by simp; omega)).setB (by simp; omega)).mono (by omega)
      · have h3' : sameShape a b = false := by simpa using h3
        have HF := hid (show addMF a b = (mat0, false) by simp [addMF, h3'])
        clear h3 oka okb
        by_cases q1 : (a.p != b.p) = true
        · clear h3'
          go_enter Try.func21, Try.ntmps21
          go_upto_region 1 with fail
          rw [← HW.out]
          go_wp2_with fail
          refine (matrixOk_any _ a _ (HA.out _ hbc)).mono ?_; rintro e w1 ⟨rfl, hb1⟩
          go_wp2_with fail
          refine (matrixOk_any _ b _ (HB.out _ hb1)).mono ?_; rintro e w2 ⟨rfl, hz2⟩
          have hb2 : Below W.heap.size W w2 := hb1.trans (hz2.mono hb1.size)
          go_wp2_with fail
          refine bodyPost_ret (v := .tuple #[.agg #[.int .i64 0, .int .i64 0, .int .i64 0, .slice none 0 0], .bool false]) (by simp [results, Try.results21, go_sem, r0 _ hb2, r1 _ hb2, r2 _ hb2, r3 _ hb2]) rfl ?_
          rw [HF.out]
          exact ⟨_, rfl, ⟨_, rfl, Own.nil _ _ _ _⟩, Below.setCell (Below.setCell (Below.setCell (Below.setCell (F.below.trans (hb2.mono (by have := F.size; omega))) (by simp; omega) _) (by simp; omega) _) (by simp; omega) _) (by simp; omega) _⟩
        · have q1' : (a.p != b.p) = false := by simpa using q1
          by_cases q2 : (a.r != b.r) = true
          · clear h3' q1
            go_enter Try.func21, Try.ntmps21
            go_upto_region 1 with fail
            rw [← HW.out]
            go_wp2_with fail
            refine (matrixOk_any _ a _ (HA.out _ hbc)).mono ?_; rintro e w1 ⟨rfl, hb1⟩
            go_wp2_with fail
            refine (matrixOk_any _ b _ (HB.out _ hb1)).mono ?_; rintro e w2 ⟨rfl, hz2⟩
            have hb2 : Below W.heap.size W w2 := hb1.trans (hz2.mono hb1.size)
            go_wp2_with fail
            refine bodyPost_ret (v := .tuple #[.agg #[.int .i64 0, .int .i64 0, .int .i64 0, .slice none 0 0], .bool false]) (by simp [results, Try.results21, go_sem, r0 _ hb2, r1 _ hb2, r2 _ hb2, r3 _ hb2]) rfl ?_
            rw [HF.out]
            exact ⟨_, rfl, ⟨_, rfl, Own.nil _ _ _ _⟩, Below.setCell (Below.setCell (Below.setCell (Below.setCell (F.below.trans (hb2.mono (by have := F.size; omega))) (by simp; omega) _) (by simp; omega) _) (by simp; omega) _) (by simp; omega) _⟩
          · have q2' : (a.r != b.r) = false := by simpa using q2
            have q3 : (a.c != b.c) = true := by
              simp only [bne_iff_ne, ne_eq, bne_eq_false_iff_eq] at q1' q2' ⊢
              intro e
              simp [sameShape, q1', q2', e] at h3'
            clear h3' q1 q2
            go_enter Try.func21, Try.ntmps21
            go_upto_region 1 with fail
            rw [← HW.out]
            go_wp2_with fail
            refine (matrixOk_any _ a _ (HA.out _ hbc)).mono ?_; rintro e w1 ⟨rfl, hb1⟩
            go_wp2_with fail
            refine (matrixOk_any _ b _ (HB.out _ hb1)).mono ?_; rintro e w2 ⟨rfl, hz2⟩
            have hb2 : Below W.heap.size W w2 := hb1.trans (hz2.mono hb1.size)
            go_wp2_with fail
            refine bodyPost_ret (v := .tuple #[.agg #[.int .i64 0, .int .i64 0, .int .i64 0, .slice none 0 0], .bool false]) (by simp [results, Try.results21, go_sem, r0 _ hb2, r1 _ hb2, r2 _ hb2, r3 _ hb2]) rfl ?_
            rw [HF.out]
            exact ⟨_, rfl, ⟨_, rfl, Own.nil _ _ _ _⟩, Below.setCell (Below.setCell (Below.setCell (Below.setCell (F.below.trans (hb2.mono (by have := F.size; omega))) (by simp; omega) _) (by simp; omega) _) (by simp; omega) _) (by simp; omega) _⟩
    · have h2' : matOkB b = false := by simpa using h2
      clear h2
      go_enter Try.func21, Try.ntmps21
      go_upto_region 1 with fail
      rw [← HW.out]
      go_wp2_with fail
      refine (matrixOk_any _ a _ (HA.out _ hbc)).mono ?_; rintro e w1 ⟨rfl, hb1⟩
      go_wp2_with fail
      refine (matrixOk_any _ b _ (HB.out _ hb1)).mono ?_; rintro e w2 ⟨rfl, hz2⟩
      have hb2 : Below W.heap.size W w2 := hb1.trans (hz2.mono hb1.size)
      go_wp2_with fail
      refine bodyPost_ret (v := .tuple #[.agg #[.int .i64 0, .int .i64 0, .int .i64 0, .slice none 0 0], .bool false]) (by simp [results, Try.results21, go_sem, r0 _ hb2, r1 _ hb2, r2 _ hb2, r3 _ hb2]) rfl ?_
      rw [show addMF a b = (mat0, false) by simp [addMF, h2']]
      exact ⟨_, rfl, ⟨_, rfl, Own.nil _ _ _ _⟩, Below.setCell (Below.setCell (Below.setCell (Below.setCell (F.below.trans (hb2.mono (by have := F.size; omega))) (by simp; omega) _) (by simp; omega) _) (by simp; omega) _) (by simp; omega) _⟩
  · have h1' : matOkB a = false := by simpa using h1
    clear h1
    go_enter Try.func21, Try.ntmps21
    go_upto_region 1 with fail
    rw [← HW.out]
    go_wp2_with fail
    refine (matrixOk_any _ a _ (HA.out _ hbc)).mono ?_; rintro e w1 ⟨rfl, hb1⟩
    go_wp2_with fail
    refine bodyPost_ret (v := .tuple #[.agg #[.int .i64 0, .int .i64 0, .int .i64 0, .slice none 0 0], .bool false]) (by simp [results, Try.results21, go_sem, r0 _ hb1, r1 _ hb1, r2 _ hb1, r3 _ hb1]) rfl ?_
    rw [show addMF a b = (mat0, false) by simp [addMF, h1']]
    exact ⟨_, rfl, ⟨_, rfl, Own.nil _ _ _ _⟩, Below.setCell (Below.setCell (Below.setCell (Below.setCell (F.below.trans (hb1.mono (by have := F.size; omega))) (by simp; omega) _) (by simp; omega) _) (by simp; omega) _) (by simp; omega) _⟩

end Go.Proofs.Ytiapoopcicjldaa
