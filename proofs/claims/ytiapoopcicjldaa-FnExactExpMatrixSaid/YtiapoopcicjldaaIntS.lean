/-
  The helpers of the laws on slices of whole numbers (szIntS, toIntS, eqIntS, markIntS, heldIntS), each by its contract.
-/
import Derived.Test.YtiapoopcicjldaaBase
namespace Go.Proofs.Ytiapoopcicjldaa
set_option linter.unusedVariables false
set_option linter.unusedSimpArgs false
open Go.RowKit

theorem etI : ET Try.prog 23 3 1 8 (.int .i64 0) := ⟨Try.underlying23, by kernel_rfl, rfl, by omega⟩

theorem take_succ_getD (xs : List Int) (k : Nat) (h : k < xs.length) : xs.take (k + 1) = xs.take k ++ [xs[k]?.getD 0] := by
  rw [List.take_add_one, List.getElem?_eq_getElem h]; rfl
theorem take_eq_step {xs ys : List Int} {k : Nat} (hE : xs.take k = ys.take k) (h1 : k < xs.length) (h2 : k < ys.length) (he : xs[k]?.getD 0 = ys[k]?.getD 0) : xs.take (k + 1) = ys.take (k + 1) := by
  rw [take_succ_getD xs k h1, take_succ_getD ys k h2, hE, he]
theorem ne_of_getD {xs ys : List Int} {k : Nat} (he : xs[k]?.getD 0 ≠ ys[k]?.getD 0) : xs ≠ ys := fun h => he (by rw [h])
theorem eq_of_take' {α : Type} {xs ys : List α} {n : Nat} (hE : xs.take n = ys.take n) (h1 : xs.length = n) (h2 : ys.length = n) : xs = ys := by
  rwa [List.take_of_length_le (by omega), List.take_of_length_le (by omega)] at hE
theorem eq_of_take {xs ys : List Int} {n : Nat} (hE : xs.take n = ys.take n) (h1 : xs.length = n) (h2 : ys.length = n) : xs = ys := by
  rwa [List.take_of_length_le (by omega), List.take_of_length_le (by omega)] at hE
/-- Are two lists the same? (A name of its own: the walk does not look into it.) -/
def sameB (xs ys : List Int) : Bool := decide (xs = ys)
theorem sameB_true {xs ys : List Int} (h : sameB xs ys = true) : xs = ys := by simpa [sameB] using h
theorem sameB_false {xs ys : List Int} (h : sameB xs ys = false) : xs ≠ ys := by simpa [sameB] using h
theorem sameB_of {xs ys : List Int} (h : xs = ys) : sameB xs ys = true := by simpa [sameB] using h
theorem sameB_not {xs ys : List Int} (h : xs ≠ ys) : sameB xs ys = false := by simpa [sameB] using h
theorem ret_bool {a b : Bool} (h : a = b) : Ending.returned (.bool a) = .returned (.bool b) := by rw [h]
theorem ret_int {a b : Int} (h : a = b) : Ending.returned (.int .i64 a) = .returned (.int .i64 b) := by rw [h]

def szF (n : Nat) (left : Int) : Int := if left < n then -1 else left - n
theorem szIntS_any (v : Value) (xs : List Int) (left : Int) (w : World) (h : Ints w v xs) (hl : 0 ≤ left) (hm : left ≤ 1048576) :
    Calls Try.prog 59 #[v, .int .i64 left] w fun e w' => e = .returned (.int .i64 (szF xs.length left)) ∧ w = w' := by
  obtain ⟨ad, hlen, _, _, _⟩ := h.facts etI
  have hs := Sl.size_le h
  unfold maxLen at hs
  by_cases hlt : left < xs.length
  · go_enter Try.func59, Try.ntmps59
    go_wp2
    go_ret
    exact ⟨ret_int (by unfold szF; rw [if_pos hlt]), rfl⟩
  · go_enter Try.func59, Try.ntmps59
    go_wp2
    go_ret
    exact ⟨ret_int (by unfold szF; rw [if_neg (by omega)]), rfl⟩

set_option maxHeartbeats 400000 in
theorem eqIntS_any (v1 v2 : Value) (xs ys : List Int) (w : World) (h1 : Ints w v1 xs) (h2 : Ints w v2 ys) :
    Calls Try.prog 16 #[v1, v2] w fun e w' => e = .returned (.bool (sameB xs ys)) ∧ ∃ n, w' = w.drewN n := by
  obtain ⟨ad1, hl1, hi1, hc1, _⟩ := h1.facts etI
  obtain ⟨ad2, hl2, hi2, hc2, _⟩ := h2.facts etI
  have hs := Sl.size_le h1
  unfold maxLen at hs
  by_cases hl : xs.length = ys.length
  · obtain ⟨n, hn⟩ : ∃ n, n = xs.length := ⟨_, rfl⟩
    rw [← hn] at hl hl1 hi1 hc1 hs
    rw [← hl] at hl2 hi2 hc2
    have H1 := hid hn; have H2 := hid hl; clear hn hl
    go_enter Try.func16, Try.ntmps16
    go_wp2
    go_loopw [5] (fun i wr => ∃ k m : Nat, k ≤ n ∧ i = .int .i64 k ∧ xs.take k = ys.take k ∧ wr = w.drewN m) (fun i _ => n - (intOf i).toNat)
    case atStart => exact ⟨0, 0, by omega, rfl, rfl, rfl⟩
    case round =>
      obtain ⟨k, m, hk, rfl, hE, rfl⟩ := hrel
      have HE := hid hE; clear hE
      by_cases hlt : k < n
      · go_wp2
        go_quiet (fail)
        go_wp2
        · go_ret
          have hne : (xs[k]?.getD 0 != ys[k]?.getD 0) = true := by assumption
          exact ⟨ret_bool (sameB_not (ne_of_getD (by simpa using hne))).symm, _, drewN2 _ _ _⟩
        · have hne : (xs[k]?.getD 0 != ys[k]?.getD 0) = false := by assumption
          go_roundw
          case rel => exact ⟨k + 1, _, by omega, by go_num, take_eq_step HE.out (by have := H1.out; omega) (by have := H2.out; omega) (by simpa using hne), rfl⟩
          case measure => simp [intOf]; omega
      · have hkn : k = n := by omega
        have H3 := hid hkn; clear hkn
        go_wp2
        go_ret
        exact ⟨ret_bool (sameB_of (eq_of_take HE.out (by have := H1.out; have := H3.out; omega) (by have := H2.out; have := H3.out; omega))).symm, _, rfl⟩
  · go_enter Try.func16, Try.ntmps16
    go_wp2
    · go_ret
      exact ⟨ret_bool (sameB_not (fun h => hl (by rw [h]))).symm, 0, rfl⟩
set_option maxHeartbeats 400000 in
theorem ints_any (v1 v2 : Value) (xs ys : List Int) (w : World) (h1 : Ints w v1 xs) (h2 : Ints w v2 ys) :
    Calls Try.prog 56 #[v1, v2] w fun e w' => e = .returned (.bool (sameB xs ys)) ∧ ∃ n, w' = w.drewN n := by
  obtain ⟨ad1, hl1, hi1, hc1, _⟩ := h1.facts etI
  obtain ⟨ad2, hl2, hi2, hc2, _⟩ := h2.facts etI
  have hs := Sl.size_le h1
  unfold maxLen at hs
  by_cases hl : xs.length = ys.length
  · obtain ⟨n, hn⟩ : ∃ n, n = xs.length := ⟨_, rfl⟩
    rw [← hn] at hl hl1 hi1 hc1 hs
    rw [← hl] at hl2 hi2 hc2
    have H1 := hid hn; have H2 := hid hl; clear hn hl
    go_enter Try.func56, Try.ntmps56
    go_wp2
    go_loopw [5] (fun i wr => ∃ k m : Nat, k ≤ n ∧ i = .int .i64 k ∧ xs.take k = ys.take k ∧ wr = w.drewN m) (fun i _ => n - (intOf i).toNat)
    case atStart => exact ⟨0, 0, by omega, rfl, rfl, rfl⟩
    case round =>
      obtain ⟨k, m, hk, rfl, hE, rfl⟩ := hrel
      have HE := hid hE; clear hE
      by_cases hlt : k < n
      · go_wp2
        go_quiet (fail)
        go_wp2
        · go_ret
          have hne : (xs[k]?.getD 0 != ys[k]?.getD 0) = true := by assumption
          exact ⟨ret_bool (sameB_not (ne_of_getD (by simpa using hne))).symm, _, drewN2 _ _ _⟩
        · have hne : (xs[k]?.getD 0 != ys[k]?.getD 0) = false := by assumption
          go_roundw
          case rel => exact ⟨k + 1, _, by omega, by go_num, take_eq_step HE.out (by have := H1.out; omega) (by have := H2.out; omega) (by simpa using hne), rfl⟩
          case measure => simp [intOf]; omega
      · have hkn : k = n := by omega
        have H3 := hid hkn; clear hkn
        go_wp2
        go_ret
        exact ⟨ret_bool (sameB_of (eq_of_take HE.out (by have := H1.out; have := H3.out; omega) (by have := H2.out; have := H3.out; omega))).symm, _, rfl⟩
  · go_enter Try.func56, Try.ntmps56
    go_wp2
    · go_ret
      exact ⟨ret_bool (sameB_not (fun h => hl (by rw [h]))).symm, 0, rfl⟩
set_option maxHeartbeats 400000 in
theorem l1Same_any (v1 v2 : Value) (xs ys : List Int) (w : World) (h1 : Ints w v1 xs) (h2 : Ints w v2 ys) :
    Calls Try.prog 46 #[v1, v2] w fun e w' => e = .returned (.bool (sameB xs ys)) ∧ ∃ n, w' = w.drewN n := by
  obtain ⟨ad1, hl1, hi1, hc1, _⟩ := h1.facts etI
  obtain ⟨ad2, hl2, hi2, hc2, _⟩ := h2.facts etI
  have hs := Sl.size_le h1
  unfold maxLen at hs
  by_cases hl : xs.length = ys.length
  · obtain ⟨n, hn⟩ : ∃ n, n = xs.length := ⟨_, rfl⟩
    rw [← hn] at hl hl1 hi1 hc1 hs
    rw [← hl] at hl2 hi2 hc2
    have H1 := hid hn; have H2 := hid hl; clear hn hl
    go_enter Try.func46, Try.ntmps46
    go_wp2
    go_loopw [5] (fun i wr => ∃ k m : Nat, k ≤ n ∧ i = .int .i64 k ∧ xs.take k = ys.take k ∧ wr = w.drewN m) (fun i _ => n - (intOf i).toNat)
    case atStart => exact ⟨0, 0, by omega, rfl, rfl, rfl⟩
    case round =>
      obtain ⟨k, m, hk, rfl, hE, rfl⟩ := hrel
      have HE := hid hE; clear hE
      by_cases hlt : k < n
      · go_wp2
        go_quiet (fail)
        go_wp2
        · go_ret
          have hne : (xs[k]?.getD 0 != ys[k]?.getD 0) = true := by assumption
          exact ⟨ret_bool (sameB_not (ne_of_getD (by simpa using hne))).symm, _, drewN2 _ _ _⟩
        · have hne : (xs[k]?.getD 0 != ys[k]?.getD 0) = false := by assumption
          go_roundw
          case rel => exact ⟨k + 1, _, by omega, by go_num, take_eq_step HE.out (by have := H1.out; omega) (by have := H2.out; omega) (by simpa using hne), rfl⟩
          case measure => simp [intOf]; omega
      · have hkn : k = n := by omega
        have H3 := hid hkn; clear hkn
        go_wp2
        go_ret
        exact ⟨ret_bool (sameB_of (eq_of_take HE.out (by have := H1.out; have := H3.out; omega) (by have := H2.out; have := H3.out; omega))).symm, _, rfl⟩
  · go_enter Try.func46, Try.ntmps46
    go_wp2
    · go_ret
      exact ⟨ret_bool (sameB_not (fun h => hl (by rw [h]))).symm, 0, rfl⟩
set_option maxHeartbeats 400000 in
theorem slicesEqual_any (v1 v2 : Value) (xs ys : List Int) (w : World) (h1 : Ints w v1 xs) (h2 : Ints w v2 ys) :
    Calls Try.prog 48 #[v1, v2] w fun e w' => e = .returned (.bool (sameB xs ys)) ∧ ∃ n, w' = w.drewN n := by
  obtain ⟨ad1, hl1, hi1, hc1, _⟩ := h1.facts etI
  obtain ⟨ad2, hl2, hi2, hc2, _⟩ := h2.facts etI
  have hs := Sl.size_le h1
  unfold maxLen at hs
  by_cases hl : xs.length = ys.length
  · obtain ⟨n, hn⟩ : ∃ n, n = xs.length := ⟨_, rfl⟩
    rw [← hn] at hl hl1 hi1 hc1 hs
    rw [← hl] at hl2 hi2 hc2
    have H1 := hid hn; have H2 := hid hl; clear hn hl
    go_enter Try.func48, Try.ntmps48
    go_wp2
    go_loopw [13] (fun i wr => ∃ k m : Nat, k ≤ n ∧ i = .int .i64 k ∧ xs.take k = ys.take k ∧ wr = w.drewN m) (fun i _ => n - (intOf i).toNat)
    case atStart => exact ⟨0, 0, by omega, rfl, rfl, rfl⟩
    case round =>
      obtain ⟨k, m, hk, rfl, hE, rfl⟩ := hrel
      have HE := hid hE; clear hE
      by_cases hlt : k < n
      · go_wp2
        go_quiet (fail)
        go_wp2
        · go_ret
          have hne : (xs[k]?.getD 0 != ys[k]?.getD 0) = true := by assumption
          exact ⟨ret_bool (sameB_not (ne_of_getD (by simpa using hne))).symm, _, drewN2 _ _ _⟩
        · have hne : (xs[k]?.getD 0 != ys[k]?.getD 0) = false := by assumption
          go_roundw
          case rel => exact ⟨k + 1, _, by omega, by go_num, take_eq_step HE.out (by have := H1.out; omega) (by have := H2.out; omega) (by simpa using hne), rfl⟩
          case measure => simp [intOf]; omega
      · have hkn : k = n := by omega
        have H3 := hid hkn; clear hkn
        go_wp2
        go_ret
        exact ⟨ret_bool (sameB_of (eq_of_take HE.out (by have := H1.out; have := H3.out; omega) (by have := H2.out; have := H3.out; omega))).symm, _, rfl⟩
  · go_enter Try.func48, Try.ntmps48
    go_wp2
    · go_ret
      exact ⟨ret_bool (sameB_not (fun h => hl (by rw [h]))).symm, 0, rfl⟩

/-- What markIntS leaves: k, k + 1, .. -/
def marked (k : Int) (n : Nat) : List Int := (List.range n).map fun (i : Nat) => k + (i : Int)
theorem marked_len (k : Int) (n : Nat) : (marked k n).length = n := by simp [marked]

theorem set_take_drop {xs : List Int} {k n : Nat} (hn : n = xs.length) (hk : k < n) :
    ((xs.take k ++ List.replicate (n - k) 0).map (Value.int .i64)).set k (.int .i64 (xs[k]?.getD 0)) = (xs.take (k + 1) ++ List.replicate (n - (k + 1)) 0).map (Value.int .i64) := by
  have hl : (xs.take k).length = k := by simp; omega
  have hr : n - k = (n - (k + 1)) + 1 := by omega
  rw [take_succ_getD xs k (by omega), hr, List.replicate_succ, List.map_append, List.map_cons, List.set_append_right _ _ (by simp; omega)]
  have h0 : k - min k xs.length = 0 := by omega
  simp [h0]

set_option maxHeartbeats 400000 in
theorem toIntS_any (v : Value) (xs : List Int) (w : World) (h : Ints w v xs) (hs : xs.length ≤ 1073741824) :
    Calls Try.prog 13 #[v] w fun e w' => ∃ r, e = .returned r ∧ OwnI w' w.heap.size 3 r xs ∧ Below w.heap.size w w' := by
  obtain ⟨ad, hl, hi, hc, hb⟩ := h.facts etI
  obtain ⟨n, hn⟩ : ∃ n, n = xs.length := ⟨_, rfl⟩
  rw [← hn] at hl hi hc hs hb
  have H1 := hid hn; clear hn
  have hmax : n ≤ maxLen := by simp [maxLen]; omega
  have hby : 8 * n ≤ 281474976710656 := by omega
  go_enter Try.func13, Try.ntmps13
  go_wp2_with (first | (at_make; go_loud (refine wpList_make1 etI rfl n hby hmax rfl _ _ rfl rfl rfl ?_)))
  clear hmax hby
  intro v' w1 hown hv hgrow _
  clear hv
  go_wp2
  go_loopw [4] (fun i wr => ∃ k : Nat, k ≤ n ∧ i = .int .i64 k ∧ Own wr w.heap.size 3 1 v' n ((xs.take k ++ List.replicate (n - k) 0).map (Value.int .i64)) ∧ Below w.heap.size w wr) (fun i _ => n - (intOf i).toNat)
  case atStart => exact ⟨0, by omega, rfl, by simpa using hown, (Below.refl _ _).grown hgrow (Nat.le_refl _) (fun _ h => by cases h)⟩
  case round =>
    obtain ⟨k, hk, rfl, hO, hB⟩ := hrel
    clear hown hgrow
    have hl' := fun ty W => Sl.len_run etI hO.toSl ty W
    by_cases hlt : k < n
    · obtain ⟨ad', hi', hc', hf', hb', hst⟩ := hO.store etI (by omega)
      have hst' := hid (hst k (.int .i64 (xs[k]?.getD 0)) hlt); clear hst
      have hcx : wr.cell? (ad k) = some (.int .i64 (xs.getD k 0)) := (hB.cell (hb k hlt)).trans (hc k hlt)
      have HB := hid (And.intro hB (And.intro hb hb')); clear hB hb hb'
      clear hc hl'
      have H2 := hid hO; clear hO
      go_wp2
      go_roundw
      case rel => exact ⟨k + 1, by omega, by go_num, by have := hst'.out.1; rwa [set_take_drop H1.out hlt] at this, HB.out.1.setCell (HB.out.2.2 k) _⟩
      case measure => simp [intOf]; omega
    · have hkn := hid (show k = n by omega)
      have H2 := hid (And.intro hO hB); clear hO hB
      go_wp2
      go_ret
      exact ⟨_, rfl, by have := H2.out.1; rw [hkn.out] at this; simpa [OwnI, ← H1.out, List.take_of_length_le] using this, H2.out.2⟩

theorem set_marked {xs : List Int} {q : Int} {k n : Nat} (hn : n = xs.length) (hk : k < n) :
    ((marked q k ++ xs.drop k).map (Value.int .i64)).set k (.int .i64 (q + k)) = (marked q (k + 1) ++ xs.drop (k + 1)).map (Value.int .i64) := by
  have hd : xs.drop k = xs[k]'(by omega) :: xs.drop (k + 1) := List.drop_eq_getElem_cons (by omega)
  rw [hd, List.map_append, List.map_cons, List.set_append_right _ _ (by simp [marked_len])]
  simp [marked, List.range_succ]

set_option maxHeartbeats 400000 in
theorem markIntS_any (B : Nat) (v : Value) (xs : List Int) (q : Int) (w : World) (h : OwnI w B 3 v xs) (hs : xs.length ≤ 1073741824) (hq0 : 0 ≤ q) (hq : q ≤ 1099511627776) :
    Calls Try.prog 62 #[v, .int .i64 q] w fun e w' => e = .returned (.int .i64 (q + xs.length)) ∧ OwnI w' B 3 v (marked q xs.length) ∧ w.grownBy w' v.ownBlock := by
  obtain ⟨n, hn⟩ : ∃ n, n = xs.length := ⟨_, rfl⟩
  rw [← hn] at hs ⊢
  have H1 := hid hn
  have hO0 : Own w B 3 1 v n (xs.map (Value.int .i64)) := by rw [hn]; exact h
  have hl := fun ty W => Sl.len_run etI hO0.toSl ty W
  clear hn h
  have H0 := hid hO0; clear hO0
  go_enter Try.func62, Try.ntmps62
  go_wp2
  go_loopw [1, 5] (fun q' i wr => ∃ k : Nat, k ≤ n ∧ i = .int .i64 k ∧ q' = .int .i64 (q + k) ∧ Own wr B 3 1 v n ((marked q k ++ xs.drop k).map (Value.int .i64)) ∧ w.grownBy wr v.ownBlock) (fun _ i _ => n - (intOf i).toNat)
  case atStart => exact ⟨0, by omega, rfl, by simp, by simpa [marked] using H0.out, World.grownBy.refl _ _⟩
  case round =>
    obtain ⟨k, hk, rfl, rfl, hO, hB⟩ := hrel
    by_cases hlt : k < n
    · obtain ⟨ad', hi', hc', hf', hb', hst⟩ := hO.store etI (by omega)
      have hst' := hid (hst k (.int .i64 (q + k)) hlt); clear hst
      have HB := hid (And.intro hB hO); clear hB hb' hO
      go_wp2
      go_roundw
      case rel => exact ⟨k + 1, by omega, by go_num, by go_num, by have := hst'.out.1; rwa [set_marked H1.out hlt] at this, HB.out.1.trans hst'.out.2⟩
      case measure => simp [intOf]; omega
    · have hkn := hid (show k = n by omega)
      have H2 := hid (And.intro hO hB); clear hO hB
      go_wp2
      go_ret
      exact ⟨ret_int (by rw [hkn.out]), by have := H2.out.1; rw [hkn.out] at this; simpa [OwnI, marked_len, H1.out] using this, H2.out.2⟩

/-- What heldIntS answers. -/
def heldF (xs : List Int) (q : Int) : Int := if xs = marked q xs.length then q + xs.length else -1

theorem marked_take (q : Int) (k n : Nat) (h : k ≤ n) : (marked q n).take k = marked q k := by
  simp [marked, ← List.map_take, List.take_range, Nat.min_eq_left h]
theorem marked_get (q : Int) (k n : Nat) (h : k < n) : (marked q n)[k]?.getD 0 = q + k := by
  simp [marked, h]

set_option maxHeartbeats 400000 in
theorem heldIntS_any (v : Value) (xs : List Int) (q : Int) (w : World) (h : Ints w v xs) (hs : xs.length ≤ 1073741824) (hq0 : 0 ≤ q) (hq : q ≤ 1099511627776) :
    Calls Try.prog 63 #[v, .int .i64 q] w fun e w' => e = .returned (.int .i64 (heldF xs q)) ∧ w = w' := by
  obtain ⟨ad, hl, hi, hc, hb⟩ := h.facts etI
  obtain ⟨n, hn⟩ : ∃ n, n = xs.length := ⟨_, rfl⟩
  rw [← hn] at hl hi hc hs
  have H1 := hid hn; clear hn hb
  go_enter Try.func63, Try.ntmps63
  go_wp2
  go_loop [1, 5] (fun q' i => ∃ k : Nat, k ≤ n ∧ i = .int .i64 k ∧ q' = .int .i64 (q + k) ∧ xs.take k = marked q k) (fun _ i => n - (intOf i).toNat)
  case atStart => exact ⟨0, by omega, rfl, by simp, by simp [marked]⟩
  case round =>
    obtain ⟨k, hk, rfl, rfl, hE⟩ := hrel
    have HE := hid hE; clear hE
    by_cases hlt : k < n
    · go_wp2
      · have hne : ((xs[k]?.getD 0) != q + k) = true := by assumption
        go_ret
        refine ⟨ret_int ?_, rfl⟩
        unfold heldF
        rw [if_neg]
        intro h
        have h2 := congrArg (fun l => l[k]?.getD 0) h
        simp only [marked_get q k xs.length (by have := H1.out; omega)] at h2
        simp [h2] at hne
      · have hne : ((xs[k]?.getD 0) != q + k) = false := by assumption
        go_round
        case rel => exact ⟨k + 1, by omega, by go_num, by go_num, by
          rw [take_succ_getD xs k (by have := H1.out; omega), HE.out]
          simp only [bne_eq_false_iff_eq] at hne
          simp [marked, List.range_succ, hne]⟩
        case measure => simp [intOf]; omega
    · have hkn := hid (show k = n by omega)
      go_wp2
      go_ret
      refine ⟨ret_int ?_, rfl⟩
      have h := HE.out
      rw [hkn.out, H1.out, List.take_of_length_le (Nat.le_refl _)] at h
      unfold heldF
      rw [if_pos h, hkn.out, H1.out]

end Go.Proofs.Ytiapoopcicjldaa
