/-
  CountIn: the program's and the reference's, each by the contract that it finds the count of the first term with the given weight.
-/
import Derived.Test.YtiapoopcicjldaaTerm
namespace Go.Proofs.Ytiapoopcicjldaa
open Go.RowKit

def countF (ts : List Tm) (x : List Int) : Int := ((ts.find? fun t => decide (t.w = x)).map (·.k)).getD 0
theorem countF_hit {ts : List Tm} {x : List Int} {k : Nat} (hk : k < ts.length) (hno : ∀ j, j < k → (ts.getD j ⟨[], 0⟩).w ≠ x) (h : (ts.getD k ⟨[], 0⟩).w = x) : countF ts x = (ts.getD k ⟨[], 0⟩).k := by
  have hf : ts.find? (fun t => decide (t.w = x)) = some (ts.getD k ⟨[], 0⟩) := by
    rw [List.find?_eq_some_iff_getElem]
    refine ⟨by simpa using h, k, hk, by simp [List.getD, hk], fun j hj => ?_⟩
    have := hno j hj
    simpa [List.getD, List.getElem?_eq_getElem (show j < ts.length by omega)] using this
  rw [countF, hf]
  rfl
theorem countF_miss {ts : List Tm} {x : List Int} (hno : ∀ j, j < ts.length → (ts.getD j ⟨[], 0⟩).w ≠ x) : countF ts x = 0 := by
  have hf : ts.find? (fun t => decide (t.w = x)) = none := by
    rw [List.find?_eq_none]
    intro t ht
    obtain ⟨j, hj, rfl⟩ := List.getElem_of_mem ht
    have := hno j hj
    simpa [List.getD, hj] using this
  rw [countF, hf]
  rfl

set_option maxHeartbeats 1000000 in
theorem specCountIn_any (v vx : Value) (ts : List Tm) (x : List Int) (w : World) (h : Tms w v ts) (hx : Ints w vx x) :
    Calls Try.prog 11 #[v, vx] w fun e w' => e = .returned (.int .i64 (countF ts x)) ∧ Below w.heap.size w w' := by
  have hsz : ts.length ≤ maxLen := by obtain ⟨cs, hs, _⟩ := h; exact Sl.size_le hs
  unfold maxLen at hsz
  obtain ⟨b, f, hl, hi, hb, hc⟩ := h.facts etIT
  obtain ⟨n, hn⟩ : ∃ n, n = ts.length := ⟨_, rfl⟩
  rw [← hn] at hl hi hc hb hsz
  have H1 := hid hn; clear hn
  go_enter Try.func11, Try.ntmps11
  go_wp2
  go_loopw [5] (fun i wr => ∃ k m : Nat, k ≤ n ∧ i = .int .i64 k ∧ (∀ j, j < k → (ts.getD j ⟨[], 0⟩).w ≠ x) ∧ wr = w.drewN m) (fun i _ => n - (intOf i).toNat)
  case atStart => exact ⟨0, 0, by omega, rfl, (fun j h => by omega), rfl⟩
  case round =>
    obtain ⟨k, m, hk, rfl, hno, rfl⟩ := hrel
    have HN := hid hno; clear hno
    by_cases hlt : k < n
    · obtain ⟨ao, cap, c0, c1, hI⟩ := hc k hlt
      have hhit := hid (fun h => countF_hit (x := x) (by have := H1.out; omega) HN.out h)
      have hnext := hid (fun (h : (ts.getD k ⟨[], 0⟩).w ≠ x) j (hj : j < k + 1) => (if e : j = k then (by rw [e]; exact h) else HN.out j (by omega) : (ts.getD j ⟨[], 0⟩).w ≠ x))
      generalize ts.getD k ⟨[], 0⟩ = T at c0 c1 hI hhit hnext
      have hI' : Ints (w.drewN m) _ _ := hI
      have hx' : Ints (w.drewN m) _ _ := hx
      clear hc hI
      go_wp2_with (go_at_call 46; go_must (refine (l1Same_any _ _ _ _ _ hI' hx').mono ?_); rintro e w1 ⟨rfl, q, rfl⟩)
      · have h' : sameB T.w x = true := by assumption
        go_ret
        exact ⟨ret_int (hhit.out (sameB_true h')).symm, below_drewN (Below.refl _ _) _⟩
      · have h : sameB T.w x = false := by assumption
        go_roundw
        case rel => exact ⟨k + 1, _, by omega, by go_num, hnext.out (sameB_false h), rfl⟩
        case measure => simp [intOf]; omega
    · have hkn := hid (show k = n by omega)
      go_wp2
      go_ret
      exact ⟨ret_int (countF_miss (fun j hj => HN.out j (by have := hkn.out; have := H1.out; omega))).symm, below_drewN (Below.refl _ _) _⟩

set_option maxHeartbeats 1000000 in
theorem implCountIn_any (v vx : Value) (ts : List Tm) (x : List Int) (w : World) (h : Tms w v ts) (hx : Ints w vx x) :
    Calls Try.prog 14 #[v, vx] w fun e w' => e = .returned (.int .i64 (countF ts x)) ∧ Below w.heap.size w w' := by
  have hsz : ts.length ≤ maxLen := by obtain ⟨cs, hs, _⟩ := h; exact Sl.size_le hs
  unfold maxLen at hsz
  obtain ⟨b, f, hl, hi, hb, hc⟩ := h.facts etIT
  obtain ⟨n, hn⟩ : ∃ n, n = ts.length := ⟨_, rfl⟩
  rw [← hn] at hl hi hc hb hsz
  have H1 := hid hn; clear hn
  go_enter Try.func14, Try.ntmps14
  go_wp2
  go_loopw [9] (fun i wr => ∃ k : Nat, k ≤ n ∧ i = .int .i64 k ∧ (∀ j, j < k → (ts.getD j ⟨[], 0⟩).w ≠ x) ∧ Below w.heap.size w wr) (fun i _ => n - (intOf i).toNat)
  case atStart => exact ⟨0, by omega, rfl, (fun j h => by omega), Below.refl _ _⟩
  case round =>
    obtain ⟨k, hk, rfl, hno, hB⟩ := hrel
    have HN := hid hno; clear hno
    by_cases hlt : k < n
    · obtain ⟨ao, cap, c0, c1, hI⟩ := hc k hlt
      have hhit := hid (fun h => countF_hit (x := x) (by have := H1.out; omega) HN.out h)
      have hnext := hid (fun (h : (ts.getD k ⟨[], 0⟩).w ≠ x) j (hj : j < k + 1) => (if e : j = k then (by rw [e]; exact h) else HN.out j (by omega) : (ts.getD j ⟨[], 0⟩).w ≠ x))
      generalize ts.getD k ⟨[], 0⟩ = T at c0 c1 hI hhit hnext
      have g0 := (hB.cell (p := ⟨b, f k, none⟩) (hb (by omega))).trans c0
      have g1 := (hB.cell (p := ⟨b, f k + 1, none⟩) (hb (by omega))).trans c1
      have hb' := hB.alloc hB.size (.cells #[.slice ao T.w.length cap, .int .i64 T.k] 69)
      have hI' := Sl.below hI hb'
      have hx' := Sl.below hx hb'
      have HB := hid hb'
      clear hc hI hB hb' c0 c1
      go_wp2_with (go_at_call 48; go_must (refine (slicesEqual_any _ _ _ _ _ hI' hx').mono ?_); rintro e w1 ⟨rfl, q, rfl⟩)
      · have h' : sameB T.w x = true := by assumption
        go_ret
        exact ⟨ret_int (hhit.out (sameB_true h')).symm, below_drewN HB.out _⟩
      · have h : sameB T.w x = false := by assumption
        go_roundw
        case rel => exact ⟨k + 1, by omega, by go_num, hnext.out (sameB_false h), below_drewN HB.out _⟩
        case measure => simp [intOf]; omega
    · have hkn := hid (show k = n by omega)
      go_wp2
      go_ret
      exact ⟨ret_int (countF_miss (fun j hj => HN.out j (by have := hkn.out; have := H1.out; omega))).symm, hB⟩

end Go.Proofs.Ytiapoopcicjldaa
