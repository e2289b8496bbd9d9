/-
  The levels of a Weyl group, and the orbit of the weight of ones: as many. No program is spoken of.
-/
import Derived.Test.YtgelkakjmbiibaaGreatDoorTre
namespace Go.Proofs.YtgelkakjmbiibaaGreatDoor
set_option linter.unusedVariables false
set_option linter.unusedSimpArgs false
def lvOne (n : Int) (d w : List Int) (L : List (List Int)) (i : Nat) : List (List Int) := if 0 < w.getD i 0 then (if L.contains (rfF n d (i : Int) w) then L else insD L (rfF n d (i : Int) w)) else L
def lvRow (n : Int) (d : List Int) (L : List (List Int)) (w : List Int) : List (List Int) := (List.range n.toNat).foldl (lvOne n d w) L
def lvNext (n : Int) (d : List Int) (lev : List (List Int)) : List (List Int) := lev.foldl (lvRow n d) []
def lvAt (n : Int) (d : List Int) : Nat → List (List Int)
  | 0 => [ones n 1]
  | j + 1 => lvNext n d (lvAt n d j)
theorem lvOne_desc {n : Int} {d w : List Int} {L : List (List Int)} {i : Nat} (h : Desc L) : Desc (lvOne n d w L i) := by
  unfold lvOne
  split
  · split
    · exact h
    · rename_i hc
      exact insD_desc h (Bool.eq_false_iff.2 hc)
  · exact h
theorem lvOne_mem {n : Int} {d w v : List Int} {L : List (List Int)} {i : Nat} : v ∈ lvOne n d w L i ↔ v ∈ L ∨ (0 < w.getD i 0 ∧ v = rfF n d (i : Int) w) := by
  unfold lvOne
  split
  · rename_i hp
    split
    · rename_i hc
      constructor
      · exact .inl
      · rintro (h | ⟨_, rfl⟩)
        · exact h
        · exact List.contains_iff_mem.1 hc
    · rw [(insD_perm _ _).mem_iff, List.mem_cons]
      constructor
      · rintro (h | h)
        · exact .inr ⟨hp, h⟩
        · exact .inl h
      · rintro (h | ⟨_, h⟩)
        · exact .inr h
        · exact .inl h
  · rename_i hp
    exact ⟨.inl, fun h => h.elim id fun h => absurd h.1 hp⟩
theorem lvRow_ok {n : Int} {d w : List Int} {L : List (List Int)} (h : Desc L) : ∀ m : Nat, Desc ((List.range m).foldl (lvOne n d w) L) ∧ ∀ v, v ∈ (List.range m).foldl (lvOne n d w) L ↔ v ∈ L ∨ ∃ i, i < m ∧ 0 < w.getD i 0 ∧ v = rfF n d (i : Int) w
  | 0 => ⟨h, fun v => ⟨.inl, fun hh => hh.elim id fun ⟨i, hi, _⟩ => absurd hi (Nat.not_lt_zero i)⟩⟩
  | m + 1 => by
    obtain ⟨h1, h2⟩ := lvRow_ok h m
    rw [foldl_succ]
    refine ⟨lvOne_desc h1, fun v => ?_⟩
    rw [lvOne_mem, h2]
    constructor
    · rintro ((hh | ⟨i, hi, hp⟩) | hp)
      · exact .inl hh
      · exact .inr ⟨i, by omega, hp⟩
      · exact .inr ⟨m, by omega, hp⟩
    · rintro (hh | ⟨i, hi, hp⟩)
      · exact .inl (.inl hh)
      · by_cases e : i = m
        · subst e
          exact .inr hp
        · exact .inl (.inr ⟨i, by omega, hp⟩)
theorem lvNext_ok {n : Int} {d : List Int} : ∀ {lev L : List (List Int)}, Desc L → Desc (lev.foldl (lvRow n d) L) ∧ ∀ v, v ∈ lev.foldl (lvRow n d) L ↔ v ∈ L ∨ ∃ w ∈ lev, ∃ i, i < n.toNat ∧ 0 < w.getD i 0 ∧ v = rfF n d (i : Int) w
  | [], L, h => ⟨h, fun v => by simp⟩
  | w :: t, L, h => by
    obtain ⟨h1, h2⟩ := lvRow_ok (n := n) (d := d) (w := w) h n.toNat
    obtain ⟨h3, h4⟩ := lvNext_ok (n := n) (d := d) (lev := t) h1
    rw [List.foldl_cons]
    refine ⟨h3, fun v => ?_⟩
    refine (h4 v).trans ?_
    rw [h2]
    constructor
    · rintro ((hh | hp) | ⟨u, hu, hp⟩)
      · exact .inl hh
      · exact .inr ⟨w, List.mem_cons_self, hp⟩
      · exact .inr ⟨u, List.mem_cons_of_mem _ hu, hp⟩
    · rintro (hh | ⟨u, hu, hp⟩)
      · exact .inl (.inl hh)
      · rcases List.mem_cons.1 hu with rfl | hu
        · exact .inl (.inr hp)
        · exact .inr ⟨u, hu, hp⟩
theorem Desc.nod {L : List (List Int)} (h : Desc L) : L.Nodup := by
  refine List.Pairwise.imp (fun {a b} hab e => ?_) h
  subst e
  have h1 := abv_iff.1 hab
  have h2 := cmpL_self a
  omega
section
variable {n : Int} {d : List Int} {R : List (List Int)}
theorem WlOk.rf (h : WlOk n d R) {w : List Int} (hr : Reach n d w) {i : Nat} (hi : i < n.toNat) : rfF n d (i : Int) w = rp n d i w := by
  have hl := (hr.inv h.co).1
  have hw := h.ent hr
  refine ext_getD (by rw [rfF_len, rp_len, hl]) fun k hk => ?_
  rw [rfF_len] at hk
  have hb := rp_in h.mt hi hl hw k
  rw [rp_get (by omega)] at hb
  have h1 := hw k
  rw [rfF_get hk, rp_get (by omega), Int.toNat_natCast, wrap_in (x := w.getD i 0 * atI n d k i) (by omega) (by omega), wrap_in (by omega) (by omega)]
theorem WlOk.lev (h : WlOk n d R) : ∀ j : Nat, Desc (lvAt n d j) ∧ ∀ v, v ∈ lvAt n d j ↔ Reach n d v ∧ lnW n R v = j
  | 0 => by
    refine ⟨List.pairwise_singleton _ _, fun v => ?_⟩
    rw [lvAt, List.mem_singleton]
    constructor
    · rintro rfl
      refine ⟨Reach.one, ?_⟩
      rw [lnW, List.countP_eq_zero]
      intro b hb
      have : 0 ≤ prW n (ones n 1) b := dotN_pos fun k hk => ⟨by rw [ones_get hk]; omega, h.co.ge b hb k⟩
      rw [decide_eq_true_eq]
      omega
    · rintro ⟨hr, h0⟩
      exact hr.zero h.co h0
  | j + 1 => by
    obtain ⟨h1, h2⟩ := h.lev j
    obtain ⟨h3, h4⟩ := lvNext_ok (n := n) (d := d) (lev := lvAt n d j) (L := []) List.Pairwise.nil
    refine ⟨h3, fun v => ?_⟩
    rw [lvAt, lvNext, h4]
    constructor
    · rintro (hh | ⟨w, hw, i, hi, hp, rfl⟩)
      · simp at hh
      · obtain ⟨hr, hln⟩ := (h2 w).1 hw
        rw [h.rf hr hi]
        exact ⟨hr.step hi, by rw [(h.co.ln hi w (by omega)).1 hp, hln]⟩
    · rintro ⟨hr, hln⟩
      obtain ⟨i, p, hi, hrp, e, hp, _, hl2⟩ := hr.up h.co (by omega)
      exact .inr ⟨p, (h2 p).2 ⟨hrp, by omega⟩, i, hi, hp, by rw [h.rf hrp hi, e]⟩
theorem WlOk.orIn (h : WlOk n d R) {w : List Int} (hw : Reach n d w) {L : List (List Int)} (hL : ∀ v ∈ L, Reach n d v) : ∀ m : Nat, m ≤ n.toNat → ∀ v ∈ (List.range m).foldl (oOne n d w) L, Reach n d v
  | 0, _ => hL
  | m + 1, hm => by
    have ih := h.orIn hw hL m (by omega)
    rw [foldl_succ]
    intro v hv
    unfold oOne at hv
    split at hv
    · exact ih v hv
    · rcases List.mem_append.1 hv with hv | hv
      · exact ih v hv
      · rw [List.mem_singleton.1 hv, h.rf hw (by omega)]
        exact hw.step (by omega)
theorem WlOk.orC (h : WlOk n d R) : ∀ {f : Nat} {L : List (List Int)} {k : Nat}, (∀ v ∈ L, Reach n d v) → ∀ v ∈ oC n d f L k, Reach n d v
  | 0, _, _, hL => hL
  | f + 1, L, k, hL => by
    rw [oC]
    split
    · rename_i hk
      exact h.orC (h.orIn (hL _ (by rw [List.getD, List.getElem?_eq_getElem hk.1]; exact List.getElem_mem hk.1)) hL n.toNat (Nat.le_refl _))
    · exact hL
theorem WlOk.orR (h : WlOk n d R) : ∀ v ∈ oAll n d (ones n 1), Reach n d v := h.orC fun v hv => by
  rw [List.mem_singleton.1 hv]
  exact Reach.one
theorem WlOk.orLen (h : WlOk n d R) : (oAll n d (ones n 1)).length ≤ 1200 := h.few (oAll_nod _ _ _) h.orR
theorem oOne_has {w : List Int} {L : List (List Int)} {i : Nat} : rfF n d (i : Int) w ∈ oOne n d w L i := by
  unfold oOne
  split
  · rename_i hc
    exact List.contains_iff_mem.1 hc
  · simp
theorem oIn_has {w : List Int} {L : List (List Int)} {i m : Nat} (hi : i < m) : rfF n d (i : Int) w ∈ (List.range m).foldl (oOne n d w) L := by
  refine (oIn_pre (i := i + 1) (by omega)).mem ?_
  rw [foldl_succ]
  exact oOne_has
theorem oC_closed : ∀ {f : Nat} {L : List (List Int)} {k : Nat}, (oC n d f L k).length ≤ 1200 → 1201 ≤ f + k → k ≤ L.length → (∀ j, j < k → ∀ i : Nat, i < n.toNat → rfF n d (i : Int) (L.getD j []) ∈ L) → ∀ x ∈ oC n d f L k, ∀ i : Nat, i < n.toNat → rfF n d (i : Int) x ∈ oC n d f L k
  | 0, L, k, h1, h2, h3, _ => by
    rw [oC] at h1
    omega
  | f + 1, L, k, h1, h2, h3, h4 => by
    rw [oC] at h1 ⊢
    split at h1
    · rename_i hk
      rw [if_pos hk]
      have hp : Pre L (oAdd n d (L.getD k []) L) := oIn_pre (i := 0) (Nat.zero_le _)
      refine oC_closed h1 (by omega) (by have := hp.len; omega) fun j hj i hi => ?_
      rw [hp.get (by omega)]
      by_cases e : j = k
      · subst e
        exact oIn_has hi
      · exact hp.mem (h4 j (by omega) i hi)
    · rename_i hk
      rw [if_neg hk]
      intro x hx i hi
      obtain ⟨j, hj, e⟩ := List.getElem_of_mem hx
      have := h4 j (by omega) i hi
      rwa [show L.getD j [] = x by rw [List.getD, List.getElem?_eq_getElem hj]; exact e] at this
theorem WlOk.orAll (h : WlOk n d R) {v : List Int} (hr : Reach n d v) : v ∈ oAll n d (ones n 1) := by
  induction hr with
  | one => exact (oC_pre (L := [ones n 1])).mem (List.mem_singleton.2 rfl)
  | step hw hi ih =>
    rw [← h.rf hw hi]
    exact oC_closed (L := [ones n 1]) h.orLen (by omega) (by simp) (fun j hj => absurd hj (Nat.not_lt_zero j)) _ ih _ hi
def lvSum (n : Int) (d : List Int) : Nat → Nat
  | 0 => 0
  | m + 1 => lvSum n d m + (lvAt n d m).length
theorem len_split {α : Type} (f : α → Nat) : ∀ (m : Nat) {L : List α}, (L.filter fun x => decide (f x < m + 1)).length = (L.filter fun x => decide (f x < m)).length + (L.filter fun x => decide (f x = m)).length
  | m, [] => rfl
  | m, x :: t => by
    have ih := len_split f m (L := t)
    simp only [List.filter_cons]
    by_cases h1 : f x < m
    · rw [if_pos (by rw [decide_eq_true_eq]; omega), if_pos (by rw [decide_eq_true_eq]; omega), if_neg (by rw [decide_eq_true_eq]; omega)]
      simp only [List.length_cons]
      omega
    · by_cases h2 : f x = m
      · rw [if_pos (by rw [decide_eq_true_eq]; omega), if_neg (by rw [decide_eq_true_eq]; omega), if_pos (by rw [decide_eq_true_eq]; omega)]
        simp only [List.length_cons]
        omega
      · rw [if_neg (by rw [decide_eq_true_eq]; omega), if_neg (by rw [decide_eq_true_eq]; omega), if_neg (by rw [decide_eq_true_eq]; omega)]
        exact ih
theorem WlOk.part (h : WlOk n d R) (j : Nat) : ((oAll n d (ones n 1)).filter fun v => decide (lnW n R v = j)).length = (lvAt n d j).length := by
  obtain ⟨h1, h2⟩ := h.lev j
  refine Nat.le_antisymm (nodup_sub ((oAll_nod _ _ _).sublist List.filter_sublist) fun v hv => ?_) (nodup_sub h1.nod fun v hv => ?_)
  · obtain ⟨a, b⟩ := List.mem_filter.1 hv
    exact (h2 v).2 ⟨h.orR v a, of_decide_eq_true b⟩
  · obtain ⟨a, b⟩ := (h2 v).1 hv
    exact List.mem_filter.2 ⟨h.orAll a, decide_eq_true b⟩
theorem WlOk.below (h : WlOk n d R) : ∀ m : Nat, ((oAll n d (ones n 1)).filter fun v => decide (lnW n R v < m)).length = lvSum n d m
  | 0 => by
    rw [show (fun v => decide (lnW n R v < 0)) = fun _ => false from by funext v; exact decide_eq_false (Nat.not_lt_zero _)]
    simp [lvSum]
  | m + 1 => by
    rw [len_split, h.below m, h.part m, lvSum]
theorem WlOk.order (h : WlOk n d R) {m : Nat} (hm : 25 ≤ m) : (oAll n d (ones n 1)).length = lvSum n d m := by
  rw [← h.below m, List.filter_eq_self.2 fun v _ => decide_eq_true (Nat.lt_of_lt_of_le (Nat.lt_succ_of_le (lnW_le h.co v)) hm)]
theorem lvAt_nil {j : Nat} (h : lvAt n d j = []) : ∀ k : Nat, lvAt n d (j + k) = []
  | 0 => h
  | k + 1 => by
    show lvNext n d (lvAt n d (j + k)) = []
    rw [lvAt_nil h k]
    rfl
theorem lvSum_stop {j : Nat} (h : lvAt n d j = []) : ∀ k : Nat, lvSum n d (j + k) = lvSum n d j
  | 0 => rfl
  | k + 1 => by
    show lvSum n d (j + k) + (lvAt n d (j + k)).length = _
    rw [lvSum_stop h k, lvAt_nil h k]
    rfl
theorem WlOk.total (h : WlOk n d R) {j : Nat} (hj : lvAt n d j = []) : (oAll n d (ones n 1)).length = lvSum n d j := by
  rw [h.order (m := j + 25) (by omega), lvSum_stop hj]
end
end Go.Proofs.YtgelkakjmbiibaaGreatDoor
