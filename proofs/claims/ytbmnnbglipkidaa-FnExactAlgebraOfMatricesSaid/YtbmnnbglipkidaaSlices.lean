/-
  slices.Clone, the reference's l1Ints, and addTo, each by its contract.
-/
import Derived.Test.YtbmnnbglipkidaaMatOk
namespace Go.Proofs.Ytbmnnbglipkidaa
set_option linter.unusedVariables false
set_option linter.unusedSimpArgs false
open Go.RowKit
set_option maxHeartbeats 400000 in
theorem clone_any (v : Value) (xs : List Int) (w : World) (h : Ints w v xs) (hs : xs.length ≤ 1073741824) :
    Calls Try.prog 47 #[v] w fun e w' => ∃ r, e = .returned r ∧ OwnI w' w.heap.size 3 r xs ∧ Below w.heap.size w w' := by
  obtain ⟨ao, cap, rfl⟩ := Sl.form h
  have hnl := fun W => Lib.run_eql_slice_nil (P := Try.prog) W 24 3 ao xs.length cap 0 0 etI.ht
  cases ao with
  | none =>
    have hx : xs.length = 0 := by
      obtain ⟨_, ao', cap', hv, h1, h2, h3, h4⟩ := h
      simp only [Value.slice.injEq] at hv
      have := h3 hv.1.symm
      omega
    have hx' : xs = [] := List.eq_nil_of_length_eq_zero hx
    subst hx'
    simp only [List.length_nil] at hnl ⊢
    clear hx hs h
    go_enter Try.func47, Try.ntmps47
    go_wp2
    go_ret
    exact ⟨_, rfl, Own.nil _ _ _ _, Below.refl _ _⟩
  | some a =>
    have hb := Below.allocs (w := w) (.cells #[] 3)
    have h' := Sl.below h hb
    have hm : 0 + xs.length ≤ maxLen := by simp [maxLen]; omega
    have hby : (0 + xs.length) * 8 ≤ 140737488355328 := by omega
    go_enter Try.func47, Try.ntmps47
    go_wp2_with (first | (at_builtin; go_must (refine wpList_app etI (Own.made0 w 3 1 w.heap.size (Nat.le_refl _)) (by simp) h' (oneCell_ints xs) hm hby rfl _ _ rfl rfl rfl ?_)))
    intro v' w1 hown hgrow
    have HO := hid hown; clear hown
    go_wp2
    go_ret
    exact ⟨_, rfl, by simpa [OwnI] using HO.out, hb.grown hgrow (by simp) (fun k h => by simp [Value.ownBlock] at h; omega)⟩
set_option maxHeartbeats 400000 in
theorem l1Ints_any (v : Value) (xs : List Int) (w : World) (h : Ints w v xs) (hs : xs.length ≤ 1073741824) :
    Calls Try.prog 55 #[v] w fun e w' => ∃ r, e = .returned r ∧ OwnI w' w.heap.size 3 r xs ∧ Below w.heap.size w w' := by
  obtain ⟨ao, cap, rfl⟩ := Sl.form h
  have hb := Below.allocs (w := w) (.cells #[] 3)
  have h' := Sl.below h hb
  have hm : 0 + xs.length ≤ maxLen := by simp [maxLen]; omega
  have hby : (0 + xs.length) * 8 ≤ 140737488355328 := by omega
  go_enter Try.func55, Try.ntmps55
  go_wp2_with (first | (at_builtin; go_must (refine wpList_app etI (Own.made0 w 3 1 w.heap.size (Nat.le_refl _)) (by simp) h' (oneCell_ints xs) hm hby rfl _ _ rfl rfl rfl ?_)))
  intro v' w1 hown hgrow
  have HO := hid hown; clear hown
  go_wp2
  go_ret
  exact ⟨_, rfl, by simpa [OwnI] using HO.out, hb.grown hgrow (by simp) (fun k h => by simp [Value.ownBlock] at h; omega)⟩
def addF (k p : Int) : List Int → List Int → List Int
  | z :: zs, y :: ys => ((z + k * y) % p) :: addF k p zs ys
  | zs, [] => zs
  | [], _ => []
theorem addF_nil (k p : Int) (zs : List Int) : addF k p zs [] = zs := by cases zs <;> rfl
theorem addF_len (k p : Int) : ∀ zs ys : List Int, (addF k p zs ys).length = zs.length
  | z :: zs, y :: ys => by simp [addF, addF_len k p zs ys]
  | zs, [] => by rw [addF_nil]
  | [], _ :: _ => rfl
theorem addF_step (k p : Int) : ∀ (zs ys : List Int) (i : Nat), i < ys.length → i < zs.length →
    (addF k p zs (ys.take i)).getD i 0 = zs.getD i 0 ∧ (addF k p zs (ys.take i)).set i ((zs.getD i 0 + k * ys.getD i 0) % p) = addF k p zs (ys.take (i + 1))
  | [], _, i, _, h => by simp at h
  | _ :: _, [], i, h, _ => by simp at h
  | z :: zs, y :: ys, 0, _, _ => by
    cases zs <;> simp [addF]
  | z :: zs, y :: ys, i + 1, h1, h2 => by
    have ih := addF_step k p zs ys i (by simpa using h1) (by simpa using h2)
    simp only [List.take_succ_cons, addF, List.getD_cons_succ, List.set_cons_succ]
    exact ⟨ih.1, by rw [ih.2]⟩
def addAt (L : List Int) (o : Nat) (k p : Int) (ys : List Int) : List Int := L.take o ++ addF k p (L.drop o) ys
theorem addAt_nil (L : List Int) (o : Nat) (k p : Int) : addAt L o k p [] = L := by simp [addAt, addF_nil]
theorem addAt_len (L : List Int) (o : Nat) (k p : Int) (ys : List Int) (h : o ≤ L.length) : (addAt L o k p ys).length = L.length := by simp [addAt, addF_len]; omega
theorem addAt_step {L ys : List Int} {o i : Nat} {k p : Int} (h1 : i < ys.length) (h2 : o + i < L.length) :
    (addAt L o k p (ys.take i)).getD (o + i) 0 = L.getD (o + i) 0 ∧ (addAt L o k p (ys.take i)).set (o + i) ((L.getD (o + i) 0 + k * ys.getD i 0) % p) = addAt L o k p (ys.take (i + 1)) := by
  have hl : (L.take o).length = o := by simp; omega
  have hs := addF_step k p (L.drop o) ys i h1 (by simp; omega)
  have hd : (L.drop o).getD i 0 = L.getD (o + i) 0 := by simp [List.getD]
  rw [hd] at hs
  constructor
  · have : (addAt L o k p (ys.take i)).getD (o + i) 0 = (addF k p (L.drop o) (ys.take i)).getD i 0 := by
      simp only [addAt, List.getD]
      rw [List.getElem?_append_right (by omega)]
      simp [hl]
    rw [this, hs.1]
  · rw [addAt, List.set_append_right _ _ (by omega), hl, Nat.add_sub_cancel_left, hs.2]
    rfl
theorem getD_map_int (L : List Int) (j : Nat) (h : j < L.length) : (L.map (Value.int .i64)).getD j undef = .int .i64 (L.getD j 0) := by simp [List.getD, h]
set_option maxHeartbeats 1000000 in
theorem addTo_any (B g N CAP : Nat) (L : List Int) (ro : Option Addr) (o n rcap : Nat) (k p : Int) (vo : Value) (ys : List Int) (w : World)
    (h : Own w B 3 1 (.slice (some ⟨g, 0, none⟩) N CAP) N (L.map (Value.int .i64))) (hN : L.length = N) (hro : 0 < ys.length → ro = some ⟨g, o, none⟩) (hon : o + ys.length ≤ N) (hyn : ys.length ≤ n)
    (hy : Ints w vo ys) (hne : ∀ b, 0 < ys.length → vo.ownBlock = some b → b ≠ g) (hp0 : 1 ≤ p) (hp1 : p ≤ 20000) (hk0 : 0 ≤ k) (hk1 : k ≤ 20000)
    (hL : ∀ i, i < ys.length → 0 ≤ L.getD (o + i) 0 ∧ L.getD (o + i) 0 ≤ 1000000000) (hY : ∀ i, i < ys.length → 0 ≤ ys.getD i 0 ∧ ys.getD i 0 ≤ 1000000000) (hn : n ≤ 1073741824) :
    Calls Try.prog 53 #[.slice ro n rcap, .int .i64 k, vo, .int .i64 p] w fun e w' => e = .returned (.tuple #[]) ∧ Own w' B 3 1 (.slice (some ⟨g, 0, none⟩) N CAP) N ((addAt L o k p ys).map (Value.int .i64)) ∧ w.grownBy w' (some g) := by
  obtain ⟨ad, hl, hi, hc, _⟩ := hy.facts etI
  obtain ⟨m, hm⟩ : ∃ m, m = ys.length := ⟨_, rfl⟩
  rw [← hm] at hl hi hc hro hon hyn hL hY hne
  have hb : ∀ i, i < m → (ad i).block ≠ g := by
    intro i hi'
    obtain ⟨_, ao, cap, rfl, _, _, _, h4⟩ := hy
    obtain ⟨b, o', rfl, _, _⟩ := h4 (by omega)
    have h5 := hi w i hi'
    rw [← hm] at h5
    rw [run_index_slice etI b o' m cap i hi' w] at h5
    simp only [Result.ok.injEq, Value.pointer.injEq, Option.some.injEq, and_true] at h5
    rw [← h5]
    exact hne b (by omega) rfl
  have H1 := hid hm; have HN := hid hN; have HO := hid h
  clear hm hN h
  go_enter Try.func53, Try.ntmps53
  go_wp2
  go_loopw [12] (fun i wr => ∃ i' : Nat, i' ≤ m ∧ i = .int .i64 i' ∧ Own wr B 3 1 (.slice (some ⟨g, 0, none⟩) N CAP) N ((addAt L o k p (ys.take i')).map (Value.int .i64)) ∧ w.grownBy wr (some g)) (fun i _ => m - (intOf i).toNat)
  case atStart => exact ⟨0, by omega, rfl, by simpa [addAt_nil] using HO.out, World.grownBy.refl _ _⟩
  case round =>
    obtain ⟨i, hi', rfl, hO, hG⟩ := hrel
    by_cases hlt : i < m
    · obtain rfl := hro (by omega)
      obtain ⟨q0, q1, q2, q3⟩ := hO.at (j := o + i) (by omega)
      have hstep := addAt_step (L := L) (ys := ys) (o := o) (i := i) (k := k) (p := p) (by have := H1.out; omega) (by have := HN.out; omega)
      rw [getD_map_int _ _ (by rw [addAt_len _ _ _ _ _ (by have := HN.out; omega)]; have := HN.out; omega), hstep.1] at q0
      have q3' := q3 (.int .i64 ((L.getD (o + i) 0 + k * ys.getD i 0) % p))
      rw [← List.map_set, hstep.2] at q3'
      have HQ := hid q3'
      have g0 := hc i hlt
      have g1 := hG.cell g0 (by simpa using hb i hlt)
      obtain ⟨l0, l1⟩ := hL i hlt
      obtain ⟨y0, y1⟩ := hY i hlt
      clear hstep q3 q3' hc hL hY g0 q2
      generalize L.getD (o + i) 0 = X at q0 HQ l0 l1
      generalize ys.getD i 0 = Y at g1 HQ y0 y1
      have k0 : 0 ≤ k * Y := Int.mul_nonneg hk0 y0
      have k1 : k * Y ≤ 20000 * 1000000000 := Int.mul_le_mul hk1 y1 y0 (by omega)
      have HG := hid hG
      clear hG hO
      go_wp2
      go_roundw
      case rel =>
        refine ⟨i + 1, by omega, by go_num, HQ.out, HG.out.trans ⟨rfl, rfl, rfl, by simp, fun b _ hb' => ?_⟩⟩
        exact Below.heap_setCell _ _ _ _ (by simpa using hb')
      case measure => simp [intOf]; omega
    · have hkn := hid (show i = m by omega)
      have HO2 := hid hO; clear hO
      go_wp2
      go_end0
      exact ⟨rfl, by have := HO2.out; rwa [hkn.out, H1.out, List.take_of_length_le (Nat.le_refl _)] at this, hG⟩
end Go.Proofs.Ytbmnnbglipkidaa
