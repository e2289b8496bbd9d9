/-
  The law FnExactCountIn: for every input it returns true (given terms and a list that are read; nothing of old memory is turned).
-/
import Derived.Test.YtiapoopcicjldaaCountIn
namespace Go.Proofs.Ytiapoopcicjldaa
open Go.RowKit

set_option maxHeartbeats 1000000 in
set_option maxRecDepth 100000 in
theorem lawCountIn_any (v vx : Value) (ts : List Tm) (x : List Int) (w : World) (h : Tms w v ts) (hx : Ints w vx x) :
    Calls Try.prog 3 #[v, vx] w fun e w' => e = .returned (.bool true) ∧ Below w.heap.size w w' := by
  have hsz := Sl.size_le hx
  unfold maxLen at hsz
  have hl := fun ty W => Sl.len_run etI hx ty W
  by_cases hgt : 1048576 < x.length
  · go_enter Try.func3, Try.ntmps3
    go_wp2_with fail
    go_ret
    exact ⟨rfl, Below.refl _ _⟩
  · by_cases hneg : szTo ts 1048576 ts.length < 0
    · go_enter Try.func3, Try.ntmps3
      go_wp2_with (go_at_call 10; go_must (refine (szTermS_any _ _ 1048576 _ h (by omega) (by omega)).mono ?_); rintro e w1 ⟨rfl, hb1⟩)
      go_ret
      exact ⟨rfl, hb1⟩
    · obtain ⟨hn1, hn2⟩ := szTo_each ts 1048576 (by omega) (by omega) (by omega)
      have HN2 := hid hn2; clear hn2
      go_enter Try.func3, Try.ntmps3
      go_wp2_with fail
      refine (szTermS_any _ _ 1048576 _ h (by omega) (by omega)).mono ?_; rintro e w1 ⟨rfl, b1⟩
      go_wp2_with fail
      have ht1 := h.below b1
      have hx1 : Ints _ _ _ := Sl.below hx b1
      refine (toTermS_any _ _ _ ht1 hn1 HN2.out).mono ?_; rintro e w2 ⟨r2, rfl, t2, b2'⟩
      have b2 := b1.trans (b2'.mono b1.size)
      go_wp2_with fail
      refine (toIntS_any _ _ _ (Sl.below hx b2) (by omega)).mono ?_; rintro e w3 ⟨r3, rfl, o3, b3'⟩
      have b3 := b2.trans (b3'.mono b2.size)
      have t3 := t2.below b3'
      go_wp2_with fail
      refine (specCountIn_any _ _ _ _ _ t3 o3.ints).mono ?_; rintro e w4 ⟨rfl, b4'⟩
      have b4 := b3.trans (b4'.mono b3.size)
      clear t2 t3 o3 b2' b3' b4'
      go_wp2_with fail
      refine (toTermS_any _ _ _ (h.below b4) hn1 HN2.out).mono ?_; rintro e w5 ⟨r5, rfl, t5, b5'⟩
      have b5 := b4.trans (b5'.mono b4.size)
      go_wp2_with fail
      refine (toIntS_any _ _ _ (Sl.below hx b5) (by omega)).mono ?_; rintro e w6 ⟨r6, rfl, o6, b6'⟩
      have b6 := b5.trans (b6'.mono b5.size)
      have t6 := t5.below b6'
      have o6' := o6.ints
      go_wp2_with fail
      refine (implCountIn_any _ _ _ _ _ t6 o6').mono ?_; rintro e w7 ⟨rfl, b7'⟩
      have b7 := b6.trans (b7'.mono b6.size)
      have t7 := t6.below b7'
      have o7 : Ints w7 _ _ := Sl.below o6' b7'
      go_wp2_with fail
      refine (toTermS_any _ _ _ (h.below b7) hn1 HN2.out).mono ?_; rintro e w8 ⟨r8, rfl, t8, b8'⟩
      have b8 := b7.trans (b8'.mono b7.size)
      go_wp2_with fail
      refine (eqTermS_any _ _ _ _ _ (t7.below b8') t8).mono ?_; rintro e w9 ⟨rfl, b9'⟩
      have b9 := b8.trans (b9'.mono b8.size)
      have o9 : Ints w9 _ _ := Sl.below (Sl.below o7 b8') b9'
      have hs : sameT ts ts = true := by simp [sameT]
      go_wp2_with fail
      refine (toIntS_any _ _ _ (Sl.below hx b9) (by omega)).mono ?_; rintro e w10 ⟨r10, rfl, o10, b10'⟩
      have b10 := b9.trans (b10'.mono b9.size)
      go_wp2_with fail
      refine (eqIntS_any _ _ _ _ _ (Sl.below o9 b10') o10.ints).mono ?_; rintro e w11 ⟨rfl, q, rfl⟩
      have hs : sameB x x = true := by simp [sameB]
      go_wp2_with fail
      go_ret
      exact ⟨rfl, below_drewN b10 _⟩

end Go.Proofs.Ytiapoopcicjldaa
