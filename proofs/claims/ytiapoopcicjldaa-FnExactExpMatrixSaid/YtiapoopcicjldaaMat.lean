/-
  The helpers of the laws on matrices (szMatrix, toMatrix, eqMatrix, markMatrix, heldMatrix), each by its contract.
-/
import Derived.Test.YtiapoopcicjldaaIntS
namespace Go.Proofs.Ytiapoopcicjldaa
set_option linter.unusedVariables false
set_option linter.unusedSimpArgs false
open Go.RowKit

structure Mat where
  p : Int
  r : Int
  c : Int
  d : List Int
  deriving DecidableEq

/-- v is a matrix by value that reads as m. -/
def IsMat (w : World) (v : Value) (m : Mat) : Prop := ∃ dv, v = .agg #[.int .i64 m.p, .int .i64 m.r, .int .i64 m.c, dv] ∧ Ints w dv m.d
def OwnMat (w : World) (B : Nat) (v : Value) (m : Mat) : Prop := ∃ dv, v = .agg #[.int .i64 m.p, .int .i64 m.r, .int .i64 m.c, dv] ∧ OwnI w B 3 dv m.d
theorem OwnMat.isMat {w : World} {B : Nat} {v : Value} {m : Mat} (h : OwnMat w B v m) : IsMat w v m := by
  obtain ⟨dv, h1, h2⟩ := h
  exact ⟨dv, h1, h2.ints⟩
theorem IsMat.below {w w' : World} {v : Value} {m : Mat} (h : IsMat w v m) (hb : Below w.heap.size w w') : IsMat w' v m := by
  obtain ⟨dv, h1, h2⟩ := h
  exact ⟨dv, h1, Sl.below h2 hb⟩
theorem OwnMat.below {w w' : World} {B : Nat} {v : Value} {m : Mat} (h : OwnMat w B v m) (hb : Below w.heap.size w w') : OwnMat w' B v m := by
  obtain ⟨dv, h1, h2⟩ := h
  exact ⟨dv, h1, Own.below h2 hb⟩

theorem Below.allocs {w : World} (o : Obj) : Below w.heap.size w (w.alloc o) := (Below.refl _ _).alloc (Nat.le_refl _) o

theorem bcell {W w1 : World} (hb : Below W.heap.size W w1) : (∀ b o, b < W.heap.size → w1.cell? ⟨b, o, none⟩ = W.cell? ⟨b, o, none⟩) ∧ (∀ b o, b < W.heap.size → w1.frozen? ⟨b, o, none⟩ = W.frozen? ⟨b, o, none⟩) :=
  ⟨fun b o h => hb.cell (p := ⟨b, o, none⟩) h, fun b o h => hb.frozen (p := ⟨b, o, none⟩) h⟩

set_option maxHeartbeats 400000 in
theorem szMatrix_any (v : Value) (m : Mat) (left : Int) (w : World) (h : IsMat w v m) (hl : 0 ≤ left) (hm : left ≤ 1048576) :
    Calls Try.prog 24 #[v, .int .i64 left] w fun e w' => e = .returned (.int .i64 (szF m.d.length left)) ∧ Below w.heap.size w w' := by
  obtain ⟨dv, rfl, hd⟩ := h
  have hd1 := Sl.below hd (Below.allocs (.cells #[.int .i64 m.p, .int .i64 m.r, .int .i64 m.c, dv] 44))
  have hz : szF m.d.length left < 0 → szF m.d.length left = -1 := by unfold szF; split <;> omega
  have HZ := hid hz; clear hz
  go_enter Try.func24, Try.ntmps24
  go_wp2_with (go_at_call 59; go_must (refine (szIntS_any _ _ _ _ hd1 hl hm).mono ?_); rintro e w1 ⟨rfl, rfl⟩)
  all_goals
    go_ret
  · exact ⟨ret_int (HZ.out (by assumption)).symm, Below.allocs _⟩
  · exact ⟨rfl, Below.allocs _⟩

set_option maxHeartbeats 400000 in
theorem toMatrix_any (v : Value) (m : Mat) (w : World) (h : IsMat w v m) (hs : m.d.length ≤ 1073741824) :
    Calls Try.prog 26 #[v] w fun e w' => ∃ r, e = .returned r ∧ OwnMat w' w.heap.size r m ∧ Below w.heap.size w w' := by
  obtain ⟨dv, rfl, hd⟩ := h
  go_enter Try.func26, Try.ntmps26
  go_wp2_with fail
  have hb0 := (((Below.refl w.heap.size w).alloc (Nat.le_refl _) (.cells #[.int .i64 m.p, .int .i64 m.r, .int .i64 m.c, dv] 44)).alloc (by simp) (.cells #[.int .i64 0, .int .i64 0, .int .i64 0, .slice none 0 0] 35)).alloc (by simp; omega) (.cells #[.int .i64 m.p, .int .i64 m.r, .int .i64 m.c, .slice none 0 0] 35)
  refine (toIntS_any _ _ _ (Sl.below hd hb0) hs).mono ?_
  rintro e w1 ⟨r, rfl, hown, hb⟩
  obtain ⟨ao, cap, rfl⟩ := hown.form
  obtain ⟨hc, hf⟩ := bcell hb
  have hz : w.heap.size + 2 < w1.heap.size := by have := hb.size; simp at this; omega
  go_wp2
  refine bodyPost_ret (v := .agg #[.int .i64 m.p, .int .i64 m.r, .int .i64 m.c, .slice ao m.d.length cap]) (by simp [results, Try.results26, go_sem, hc]) rfl ?_
  refine ⟨_, rfl, ⟨_, rfl, OwnI.mono (B := w.heap.size + 3) ?_ (by omega)⟩, ?_⟩
  · iterate 5 refine OwnI.setB ?_ (by simp)
    exact hown.mono (by simp)
  · iterate 5 refine Below.setCell ?_ (by first | (simp; done) | (simp; omega)) _
    exact hb0.trans (hb.mono (by simp; omega))

/-- The block of a matrix's data. -/
def dataOf : Value → Value
  | .agg cs => cs.getD 3 undef
  | v => v

def BoxM (m : Mat) (dv : Value) : Obj := .cells #[.int .i64 m.p, .int .i64 m.r, .int .i64 m.c, dv] 35
def eqMF (a b : Mat) : Bool := decide (a = b)

set_option maxHeartbeats 400000 in
theorem eqMatrix_any (v1 v2 : Value) (a b : Mat) (w : World) (h1 : IsMat w v1 a) (h2 : IsMat w v2 b) :
    Calls Try.prog 27 #[v1, v2] w fun e w' => e = .returned (.bool (eqMF a b)) ∧ Below w.heap.size w w' := by
  obtain ⟨d1, rfl, hd1⟩ := h1
  obtain ⟨d2, rfl, hd2⟩ := h2
  have hb0 := ((Below.refl w.heap.size w).alloc (Nat.le_refl _) (.cells #[.int .i64 a.p, .int .i64 a.r, .int .i64 a.c, d1] 35)).alloc (by simp) (.cells #[.int .i64 b.p, .int .i64 b.r, .int .i64 b.c, d2] 35)
  have hd1' := Sl.below hd1 hb0
  have hd2' := Sl.below hd2 hb0
  obtain ⟨ap, ar, ac, ad⟩ := a
  obtain ⟨bp, br, bc, bd⟩ := b
  have hF : eqMF ⟨ap, ar, ac, ad⟩ ⟨bp, br, bc, bd⟩ = (ap == bp && (ar == br && (ac == bc && sameB ad bd))) := by
    simp only [eqMF, Mat.mk.injEq, Bool.decide_and, sameB]; rfl
  have HF := hid hF; clear hF
  dsimp only at hd1' hd2' hb0
  have HB := hid hb0; clear hb0
  go_enter Try.func27, Try.ntmps27
  go_wp2_with (go_at_call 16; go_must (refine (eqIntS_any _ _ _ _ _ hd1' hd2').mono ?_); rintro e w1 ⟨rfl, n, rfl⟩)
  all_goals
    go_ret
    refine ⟨ret_bool (by rw [HF.out]; simp_all), ?_⟩
    first | exact HB.out | exact below_drewN HB.out _


set_option maxHeartbeats 400000 in
theorem markMatrix_any (B : Nat) (dv : Value) (p r c : Int) (xs : List Int) (q : Int) (w : World) (h : OwnI w B 3 dv xs) (hs : xs.length ≤ 1073741824) (hq0 : 0 ≤ q) (hq : q ≤ 1099511627776) :
    Calls Try.prog 28 #[.agg #[.int .i64 p, .int .i64 r, .int .i64 c, dv], .int .i64 q] w fun e w' => e = .returned (.int .i64 (q + xs.length)) ∧ OwnI w' B 3 dv (marked q xs.length) ∧ w.grownBy w' dv.ownBlock := by
  have hg0 := World.grownBy_alloc w (.cells #[.int .i64 p, .int .i64 r, .int .i64 c, dv] 35) none
  have h1 : OwnI _ B 3 dv xs := Own.below h (Below.allocs (.cells #[.int .i64 p, .int .i64 r, .int .i64 c, dv] 35))
  go_enter Try.func28, Try.ntmps28
  go_wp2_with (go_at_call 62; go_must (refine (markIntS_any B _ _ _ _ h1 hs hq0 hq).mono ?_); rintro e w1 ⟨rfl, hO, hG⟩)
  go_ret
  refine ⟨rfl, hO, ?_⟩
  exact World.grownBy.trans ⟨hg0.os, hg0.tape, hg0.output, hg0.size, fun k hk _ => hg0.block k hk (by simp)⟩ hG

set_option maxHeartbeats 400000 in
theorem heldMatrix_any (v : Value) (m : Mat) (q : Int) (w : World) (h : IsMat w v m) (hs : m.d.length ≤ 1073741824) (hq0 : 0 ≤ q) (hq : q ≤ 1099511627776) :
    Calls Try.prog 29 #[v, .int .i64 q] w fun e w' => e = .returned (.int .i64 (heldF m.d q)) ∧ Below w.heap.size w w' := by
  obtain ⟨dv, rfl, hd⟩ := h
  have hd1 := Sl.below hd (Below.allocs (.cells #[.int .i64 m.p, .int .i64 m.r, .int .i64 m.c, dv] 35))
  have hz : heldF m.d q < 0 → heldF m.d q = -1 := by unfold heldF; split <;> omega
  have HZ := hid hz; clear hz
  go_enter Try.func29, Try.ntmps29
  go_wp2_with (go_at_call 63; go_must (refine (heldIntS_any _ _ _ _ hd1 hs hq0 hq).mono ?_); rintro e w1 ⟨rfl, rfl⟩)
  all_goals
    go_ret
  · exact ⟨ret_int (HZ.out (by assumption)).symm, Below.allocs _⟩
  · exact ⟨rfl, Below.allocs _⟩

end Go.Proofs.Ytiapoopcicjldaa
