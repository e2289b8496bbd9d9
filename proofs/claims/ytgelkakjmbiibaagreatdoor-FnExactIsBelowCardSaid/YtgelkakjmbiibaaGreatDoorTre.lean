/-
  The orbit of the weight of ones is small: a tree by first negative numbers, counted by the kernel. No program is spoken of.
-/
import Derived.Test.YtgelkakjmbiibaaGreatDoorZ21
namespace Go.Proofs.YtgelkakjmbiibaaGreatDoor
set_option linter.unusedVariables false
set_option linter.unusedSimpArgs false
def frc {α : Type} (n : Nat) (k : Nat → α) : α := match n with
  | 0 => k 0
  | m + 1 => k (m + 1)
theorem frc_eq {α : Type} (n : Nat) (k : Nat → α) : frc n k = k n := by cases n <;> rfl
def dig (k E : Nat) : Nat := match k with
  | 0 => E % 1024
  | 1 => E / 1024 % 1024
  | 2 => E / 1048576 % 1024
  | _ => E / 1073741824 % 1024
def ofE (a b c e : Nat) : Nat := a + 1024 * b + 1048576 * c + 1073741824 * e
def enW (w : List Int) : Nat := ofE (w.getD 0 0 + 512).toNat (w.getD 1 0 + 512).toNat (w.getD 2 0 + 512).toNat (w.getD 3 0 + 512).toNat
def okD (D : Nat) : Bool := (Nat.ble 412 D).and (Nat.ble D 612)
def okE (E : Nat) : Bool := (okD (dig 0 E)).and ((okD (dig 1 E)).and ((okD (dig 2 E)).and (okD (dig 3 E))))
def geE (i E : Nat) : Bool := match i with
  | 0 => true
  | 1 => Nat.ble 512 (dig 0 E)
  | 2 => (Nat.ble 512 (dig 0 E)).and (Nat.ble 512 (dig 1 E))
  | _ => (Nat.ble 512 (dig 0 E)).and ((Nat.ble 512 (dig 1 E)).and (Nat.ble 512 (dig 2 E)))
def down : Nat → List Nat
  | 0 => []
  | i + 1 => i :: down i
theorem mem_down {i : Nat} : ∀ {m : Nat}, i ∈ down m ↔ i < m
  | 0 => by simp [down]
  | m + 1 => by
    rw [down, List.mem_cons, mem_down (m := m)]
    omega
def colA (n : Int) (d : List Int) (i k : Nat) : Nat := if k < n.toNat ∧ k ≠ i then (-(atI n d k i)).toNat else 0
def colN (n : Int) (d : List Int) (i : Nat) : Nat := ofE (colA n d i 0) (colA n d i 1) (colA n d i 2) (colA n d i 3)
def colP (i : Nat) : Nat := match i with
  | 0 => 2
  | 1 => 2048
  | 2 => 2097152
  | _ => 2147483648
def csL (n : Int) (d : List Int) : Nat → List (Nat × Nat × Nat)
  | 0 => []
  | i + 1 => (i, colN n d i, colP i) :: csL n d i
def frcCs (n : Int) (d : List Int) : Nat → (List (Nat × Nat × Nat) → Nat) → Nat
  | 0, k => k []
  | i + 1, k => frc (colN n d i) fun N => frc (colP i) fun P => frcCs n d i fun t => k ((i, N, P) :: t)
theorem frcCs_eq (n : Int) (d : List Int) : ∀ (m : Nat) (k : List (Nat × Nat × Nat) → Nat), frcCs n d m k = k (csL n d m)
  | 0, k => rfl
  | m + 1, k => by rw [frcCs, frc_eq, frc_eq, frcCs_eq n d m, csL]
def movE (E D N P : Nat) : Nat := Nat.sub (Nat.add E (Nat.mul (Nat.sub D 512) N)) (Nat.mul (Nat.sub D 512) P)
def cntE (cs : List (Nat × Nat × Nat)) : Nat → Nat → Nat
  | 0, _ => 5000
  | f + 1, E => bif okE E then cs.foldl (fun acc c => Nat.add acc (bif Nat.blt 512 (dig c.1 E) then frc (movE E (dig c.1 E) c.2.1 c.2.2) fun E2 => bif geE c.1 E2 then cntE cs f E2 else 0 else 0)) 1 else 5000
def kidB (n : Int) (d w : List Int) (i : Nat) : Bool := decide (0 < w.getD i 0) && (List.range i).all fun j => decide (0 ≤ (rp n d i w).getD j 0)
def treeL (n : Int) (d : List Int) : Nat → List Int → List (List Int)
  | 0, _ => []
  | f + 1, w => w :: (down n.toNat).flatMap fun i => if kidB n d w i then treeL n d f (rp n d i w) else []
def inW (b : Int) (w : List Int) : Prop := ∀ k : Nat, -b ≤ w.getD k 0 ∧ w.getD k 0 ≤ b
theorem dig_en {w : List Int} (h : inW 500 w) {k : Nat} (hk : k < 4) : dig k (enW w) = (w.getD k 0 + 512).toNat := by
  have h0 := h 0
  have h1 := h 1
  have h2 := h 2
  have h3 := h 3
  unfold enW ofE
  rcases (by omega : k = 0 ∨ k = 1 ∨ k = 2 ∨ k = 3) with rfl | rfl | rfl | rfl <;> simp only [dig] <;> omega
theorem okE_en {w : List Int} (h : inW 500 w) (hl : w.length ≤ 4) : okE (enW w) = true ↔ inW 100 w := by
  have h0 := h 0
  have h1 := h 1
  have h2 := h 2
  have h3 := h 3
  unfold okE okD
  rw [dig_en h (by omega), dig_en h (by omega), dig_en h (by omega), dig_en h (by omega)]
  simp only [Bool.and_eq_true, Nat.ble_eq]
  constructor
  · intro hh k
    by_cases hk : k < 4
    · rcases (by omega : k = 0 ∨ k = 1 ∨ k = 2 ∨ k = 3) with rfl | rfl | rfl | rfl <;> omega
    · rw [show w.getD k 0 = 0 from by rw [List.getD, List.getElem?_eq_none (by omega)]; rfl]
      omega
  · intro hh
    have g0 := hh 0
    have g1 := hh 1
    have g2 := hh 2
    have g3 := hh 3
    omega
theorem geE_en {w : List Int} (h : inW 500 w) {i : Nat} (hi : i < 4) : geE i (enW w) = (List.range i).all fun j => decide (0 ≤ w.getD j 0) := by
  have h0 := h 0
  have h1 := h 1
  have h2 := h 2
  have e : ∀ k, k < 4 → Nat.ble 512 (dig k (enW w)) = decide (0 ≤ w.getD k 0) := fun k hk => by
    have := h k
    rw [dig_en h hk, Bool.eq_iff_iff, Nat.ble_eq, decide_eq_true_eq]
    omega
  rcases (by omega : i = 0 ∨ i = 1 ∨ i = 2 ∨ i = 3) with rfl | rfl | rfl | rfl <;> simp only [geE, e 0 (by omega), e 1 (by omega), e 2 (by omega)] <;> simp [List.range_succ]
structure MatT (n : Int) (d : List Int) : Prop where
  n4 : n.toNat ≤ 4
  two : ∀ i : Nat, i < n.toNat → atI n d i i = 2
  off : ∀ i k : Nat, i < n.toNat → k < n.toNat → k ≠ i → -3 ≤ atI n d k i ∧ atI n d k i ≤ 0
theorem rp_getT {n : Int} {d w : List Int} {i : Nat} (hl : w.length = n.toNat) (k : Nat) : (rp n d i w).getD k 0 = if k < n.toNat then w.getD k 0 - w.getD i 0 * atI n d k i else 0 := by
  split
  · rename_i hk
    exact rp_get hk
  · rename_i hk
    rw [List.getD, List.getElem?_eq_none (by rw [rp_len]; omega)]
    rfl
theorem rp_in {n : Int} {d w : List Int} {i : Nat} (h : MatT n d) (hi : i < n.toNat) (hl : w.length = n.toNat) (hw : inW 100 w) : inW 500 (rp n d i w) := fun k => by
  rw [rp_getT hl]
  have h1 := hw k
  have h2 := hw i
  split
  · rename_i hk
    by_cases e : k = i
    · subst e
      rw [h.two k hk]
      omega
    · have h3 := h.off i k hi hk e
      rcases (by omega : atI n d k i = -3 ∨ atI n d k i = -2 ∨ atI n d k i = -1 ∨ atI n d k i = 0) with e | e | e | e <;> rw [e] <;> omega
  · omega
theorem enW_rp {n : Int} {d w : List Int} {i : Nat} (h : MatT n d) (hi : i < n.toNat) (hl : w.length = n.toNat) (hw : inW 100 w) (hp : 0 < w.getD i 0) : enW (rp n d i w) = movE (enW w) (w.getD i 0 + 512).toNat (colN n d i) (colP i) := by
  have hin := rp_in h hi hl hw
  have key : ∀ k, ((rp n d i w).getD k 0 + 512).toNat = ((w.getD k 0 + 512).toNat + (w.getD i 0).toNat * colA n d i k) - (if k = i then (w.getD i 0).toNat * 2 else 0) := fun k => by
    have h1 := hin k
    have h2 := hw k
    rw [rp_getT hl] at h1 ⊢
    unfold colA
    by_cases hk : k < n.toNat
    · rw [if_pos hk] at h1 ⊢
      by_cases e : k = i
      · subst e
        rw [h.two k hk, if_neg (fun hh => hh.2 rfl), if_pos rfl]
        omega
      · rw [if_pos ⟨hk, e⟩, if_neg e]
        have h3 := h.off i k hi hk e
        rcases (by omega : atI n d k i = -3 ∨ atI n d k i = -2 ∨ atI n d k i = -1 ∨ atI n d k i = 0) with e | e | e | e <;> rw [e] <;> first | (rw [show (-(-3 : Int)).toNat = 3 from rfl]; omega) | (rw [show (-(-2 : Int)).toNat = 2 from rfl]; omega) | (rw [show (-(-1 : Int)).toNat = 1 from rfl]; omega) | (rw [show (-(0 : Int)).toNat = 0 from rfl]; omega)
    · rw [if_neg hk, if_neg (fun hh => hk hh.1), if_neg (by omega), List.getD, List.getElem?_eq_none (by omega)]
      simp
  have hc := hw i
  unfold enW movE colN
  rw [key 0, key 1, key 2, key 3, show Nat.sub (w.getD i 0 + 512).toNat 512 = (w.getD i 0).toNat by show (w.getD i 0 + 512).toNat - 512 = _; omega]
  show _ = _ + (w.getD i 0).toNat * ofE _ _ _ _ - (w.getD i 0).toNat * colP i
  unfold ofE
  simp only [Nat.mul_add, Nat.mul_left_comm (w.getD i 0).toNat]
  have h4 := h.n4
  have g0 := hw 0
  have g1 := hw 1
  have g2 := hw 2
  have g3 := hw 3
  rcases (by omega : i = 0 ∨ i = 1 ∨ i = 2 ∨ i = 3) with rfl | rfl | rfl | rfl <;> simp only [colP, Nat.reduceEqDiff, reduceIte, eq_self, Nat.sub_zero] <;> omega
theorem foldl_addT {α : Type} (g : α → Nat) : ∀ (l : List α) (a : Nat), l.foldl (fun acc c => Nat.add acc (g c)) a = a + (l.map g).sum
  | [], a => by simp
  | c :: t, a => by
    rw [List.foldl_cons, foldl_addT g t, List.map_cons, List.sum_cons]
    show a + g c + _ = _
    omega
theorem csL_map (n : Int) (d : List Int) : ∀ m : Nat, csL n d m = (down m).map fun i => (i, colN n d i, colP i)
  | 0 => rfl
  | m + 1 => by rw [csL, down, List.map_cons, csL_map n d m]
theorem mem_le_sum {α : Type} {g : α → Nat} {x : α} : ∀ {l : List α}, x ∈ l → g x ≤ (l.map g).sum
  | [], h => by simp at h
  | y :: t, h => by
    rw [List.map_cons, List.sum_cons]
    rcases List.mem_cons.1 h with rfl | h
    · omega
    · have := mem_le_sum (g := g) h
      omega
theorem sum_leq {α : Type} {g t : α → Nat} : ∀ {l : List α}, (∀ x ∈ l, g x ≤ t x) → (l.map g).sum ≤ (l.map t).sum
  | [], _ => by simp
  | y :: l, h => by
    rw [List.map_cons, List.sum_cons, List.map_cons, List.sum_cons]
    have h1 := h y List.mem_cons_self
    have h2 := sum_leq (l := l) fun x hx => h x (List.mem_cons_of_mem _ hx)
    omega
def kidE (n : Int) (d : List Int) (f : Nat) (E i : Nat) : Nat := bif Nat.blt 512 (dig i E) then frc (movE E (dig i E) (colN n d i) (colP i)) fun E2 => bif geE i E2 then cntE (csL n d n.toNat) f E2 else 0 else 0
theorem cntE_succ (n : Int) (d : List Int) (f E : Nat) (h : okE E = true) : cntE (csL n d n.toNat) (f + 1) E = 1 + ((down n.toNat).map (kidE n d f E)).sum := by
  rw [cntE, h, cond_true, foldl_addT (fun c : Nat × Nat × Nat => bif Nat.blt 512 (dig c.1 E) then frc (movE E (dig c.1 E) c.2.1 c.2.2) fun E2 => bif geE c.1 E2 then cntE (csL n d n.toNat) f E2 else 0 else 0)]
  congr 2
  conv => lhs; arg 2; rw [csL_map]
  rw [List.map_map]
  rfl
theorem cnt_tree {n : Int} {d : List Int} (h : MatT n d) : ∀ (f : Nat) (w : List Int), w.length = n.toNat → inW 500 w → cntE (csL n d n.toNat) f (enW w) ≤ 1200 → inW 100 w ∧ (treeL n d f w).length ≤ cntE (csL n d n.toNat) f (enW w) ∧ ∀ v ∈ treeL n d f w, inW 100 v
  | 0, w, _, _, hc => by rw [cntE] at hc; omega
  | f + 1, w, hl, hw, hc => by
    have h4 := h.n4
    cases hok : okE (enW w) with
    | false => rw [cntE, hok, cond_false] at hc; omega
    | true =>
      have hin := (okE_en hw (by omega)).1 hok
      rw [cntE_succ n d f _ hok] at hc ⊢
      have key : ∀ i ∈ down n.toNat, (if kidB n d w i then treeL n d f (rp n d i w) else []).length ≤ kidE n d f (enW w) i ∧ ∀ v ∈ (if kidB n d w i then treeL n d f (rp n d i w) else []), inW 100 v := fun i him => by
        have hi := mem_down.1 him
        have hs := mem_le_sum (g := kidE n d f (enW w)) him
        by_cases hk : kidB n d w i = true
        · rw [if_pos hk]
          have hk2 := hk
          rw [kidB, Bool.and_eq_true, decide_eq_true_eq] at hk2
          have hr := rp_in h hi hl hin
          have e1 : kidE n d f (enW w) i = cntE (csL n d n.toNat) f (enW (rp n d i w)) := by
            rw [kidE, frc_eq, dig_en hw (by omega), show Nat.blt 512 (w.getD i 0 + 512).toNat = true from by rw [Nat.blt_eq]; have := hin i; omega, cond_true, ← enW_rp h hi hl hin hk2.1, geE_en hr (by omega), hk2.2, cond_true]
          have := cnt_tree h f (rp n d i w) (rp_len _ _ _ _) hr (by rw [← e1]; omega)
          rw [e1]
          exact this.2
        · rw [if_neg hk]
          exact ⟨Nat.zero_le _, fun v hv => by simp at hv⟩
      refine ⟨hin, ?_, fun v hv => ?_⟩
      · rw [treeL, List.length_cons, List.length_flatMap]
        have := sum_leq (g := fun i => (if kidB n d w i then treeL n d f (rp n d i w) else []).length) (t := kidE n d f (enW w)) (l := down n.toNat) fun i hi => (key i hi).1
        omega
      · rw [treeL] at hv
        rcases List.mem_cons.1 hv with rfl | hv
        · exact hin
        · obtain ⟨i, hi, hv2⟩ := List.mem_flatMap.1 hv
          exact (key i hi).2 v hv2
theorem treeL_kid {n : Int} {d : List Int} {u v : List Int} {i : Nat} (hi : i < n.toNat) (hk : kidB n d v i = true) (hu : rp n d i v = u) : ∀ {f : Nat} {w : List Int}, v ∈ treeL n d f w → u ∈ treeL n d (f + 1) w
  | 0, w, h => by simp [treeL] at h
  | f + 1, w, h => by
    rw [treeL] at h ⊢
    rcases List.mem_cons.1 h with rfl | h
    · refine List.mem_cons_of_mem _ (List.mem_flatMap.2 ⟨i, mem_down.2 hi, ?_⟩)
      rw [if_pos hk, hu, treeL]
      exact List.mem_cons_self
    · obtain ⟨j, hj, h2⟩ := List.mem_flatMap.1 h
      refine List.mem_cons_of_mem _ (List.mem_flatMap.2 ⟨j, hj, ?_⟩)
      split at h2
      · rename_i hkj
        rw [if_pos hkj]
        exact treeL_kid hi hk hu h2
      · simp at h2
theorem treeL_mono {n : Int} {d : List Int} {v : List Int} : ∀ {f : Nat} {w : List Int}, v ∈ treeL n d f w → v ∈ treeL n d (f + 1) w
  | 0, w, h => by simp [treeL] at h
  | f + 1, w, h => by
    rw [treeL] at h ⊢
    rcases List.mem_cons.1 h with rfl | h
    · exact List.mem_cons_self
    · obtain ⟨j, hj, h2⟩ := List.mem_flatMap.1 h
      refine List.mem_cons_of_mem _ (List.mem_flatMap.2 ⟨j, hj, ?_⟩)
      split at h2
      · rename_i hkj
        rw [if_pos hkj]
        exact treeL_mono h2
      · simp at h2
theorem treeL_le {n : Int} {d : List Int} {v w : List Int} {f : Nat} : ∀ {g : Nat}, f ≤ g → v ∈ treeL n d f w → v ∈ treeL n d g w
  | 0, h, hv => by
    have : f = 0 := by omega
    subst this
    exact hv
  | g + 1, h, hv => by
    by_cases e : f = g + 1
    · subst e
      exact hv
    · exact treeL_mono (treeL_le (by omega) hv)
theorem least {P : Nat → Prop} : ∀ {k : Nat}, P k → ∃ m, m ≤ k ∧ P m ∧ ∀ j, j < m → ¬ P j
  | 0, h => ⟨0, Nat.le_refl _, h, fun j hj => absurd hj (Nat.not_lt_zero j)⟩
  | k + 1, h => by
    by_cases e : ∃ j, j ≤ k ∧ P j
    · obtain ⟨j, hj, hp⟩ := e
      obtain ⟨m, h1, h2, h3⟩ := least hp
      exact ⟨m, by omega, h2, h3⟩
    · exact ⟨k + 1, Nat.le_refl _, h, fun j hj hp => e ⟨j, by omega, hp⟩⟩
theorem Reach.up {n : Int} {d : List Int} {R : List (List Int)} (h : CoOk n d R) {v : List Int} (hr : Reach n d v) (h0 : 0 < lnW n R v) : ∃ (i : Nat) (p : List Int), i < n.toNat ∧ Reach n d p ∧ rp n d i p = v ∧ 0 < p.getD i 0 ∧ kidB n d p i = true ∧ lnW n R v = lnW n R p + 1 := by
  obtain ⟨k, hk, hneg⟩ := hr.neg h h0
  obtain ⟨m, h1, h2, h3⟩ := least (P := fun k => v.getD k 0 < 0) hneg
  have hm : m < n.toNat := by omega
  have hl := (hr.inv h).1
  have e := rp_rp h hm hl
  have hp : (rp n d m v).getD m 0 = -(v.getD m 0) := by
    rw [rp_get hm, h.two m hm]
    omega
  refine ⟨m, rp n d m v, hm, hr.step hm, e, by omega, ?_, (h.ln hm v (by omega)).2 h2⟩
  rw [kidB, e, Bool.and_eq_true]
  refine ⟨decide_eq_true (by omega), ?_⟩
  rw [List.all_eq_true]
  intro j hj
  have := h3 j (List.mem_range.1 hj)
  exact decide_eq_true (by omega)
theorem Reach.tree {n : Int} {d : List Int} {R : List (List Int)} (h : CoOk n d R) : ∀ (j : Nat) {v : List Int}, Reach n d v → lnW n R v = j → v ∈ treeL n d (j + 1) (ones n 1)
  | 0, v, hr, h0 => by
    rw [hr.zero h h0, treeL]
    exact List.mem_cons_self
  | j + 1, v, hr, hj => by
    obtain ⟨i, p, hi, hp, e, _, hk, hln⟩ := hr.up h (by omega)
    exact treeL_kid hi hk e (Reach.tree h j hp (by omega))
theorem lnW_le {n : Int} {d : List Int} {R : List (List Int)} (h : CoOk n d R) (v : List Int) : lnW n R v ≤ 24 := Nat.le_trans List.countP_le_length h.few
theorem nodup_sub {α : Type} [DecidableEq α] : ∀ {L M : List α}, L.Nodup → (∀ x ∈ L, x ∈ M) → L.length ≤ M.length
  | [], _, _, _ => Nat.zero_le _
  | x :: t, M, hn, hs => by
    have hx := hs x List.mem_cons_self
    rw [(List.perm_cons_erase hx).length_eq, List.length_cons, List.length_cons]
    refine Nat.succ_le_succ (nodup_sub (List.nodup_cons.1 hn).2 fun y hy => ?_)
    exact (List.mem_erase_of_ne fun e : y = x => (List.nodup_cons.1 hn).1 (by rw [← e]; exact hy)).2 (hs y (List.mem_cons_of_mem _ hy))
structure WlOk (n : Int) (d : List Int) (R : List (List Int)) : Prop where
  co : CoOk n d R
  mt : MatT n d
  ct : cntE (csL n d n.toNat) 25 (enW (ones n 1)) ≤ 1200
section
variable {n : Int} {d : List Int} {R : List (List Int)}
theorem WlOk.tree (h : WlOk n d R) : (treeL n d 25 (ones n 1)).length ≤ 1200 ∧ ∀ v ∈ treeL n d 25 (ones n 1), inW 100 v := by
  have := cnt_tree h.mt 25 (ones n 1) (ones_len n 1) (fun k => by
    by_cases hk : k < n.toNat
    · rw [ones_get hk]; omega
    · rw [List.getD, List.getElem?_eq_none (by rw [ones_len]; omega)]
      show -500 ≤ (0 : Int) ∧ (0 : Int) ≤ 500
      omega) h.ct
  exact ⟨Nat.le_trans this.2.1 h.ct, this.2.2⟩
theorem WlOk.mem (h : WlOk n d R) {v : List Int} (hr : Reach n d v) : v ∈ treeL n d 25 (ones n 1) := treeL_le (Nat.succ_le_succ (lnW_le h.co v)) (hr.tree h.co _ rfl)
theorem WlOk.ent (h : WlOk n d R) {v : List Int} (hr : Reach n d v) : inW 100 v := h.tree.2 v (h.mem hr)
theorem WlOk.few (h : WlOk n d R) {L : List (List Int)} (hn : L.Nodup) (hL : ∀ v ∈ L, Reach n d v) : L.length ≤ 1200 := Nat.le_trans (nodup_sub hn fun v hv => h.mem (hL v hv)) h.tree.1
end
end Go.Proofs.YtgelkakjmbiibaaGreatDoor
