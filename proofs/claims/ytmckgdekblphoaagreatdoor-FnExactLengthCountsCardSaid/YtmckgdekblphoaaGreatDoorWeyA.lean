/-
  Weyl groups by the orbit of the weight of ones: lengths of elements, the one dominant weight. No program is spoken of.
-/
import Derived.Test.YtmckgdekblphoaaGreatDoorOrbA
import Derived.Test.YtmckgdekblphoaaGreatDoorNest
namespace Go.Proofs.YtmckgdekblphoaaGreatDoor
set_option linter.unusedVariables false
set_option linter.unusedSimpArgs false
theorem dotN_comm (c w : Nat → Int) : ∀ m : Nat, dotN c w m = dotN w c m
  | 0 => rfl
  | m + 1 => by rw [dotN, dotN, dotN_comm c w m, Int.mul_comm]
def rp (n : Int) (d : List Int) (i : Nat) (w : List Int) : List Int := (List.range n.toNat).map fun (k : Nat) => w.getD k 0 - w.getD i 0 * atI n d k i
def coS (n : Int) (d b : List Int) (i : Nat) : List Int := b.set i (b.getD i 0 - dotN (fun k => atI n d k i) (b.getD · 0) n.toNat)
def prW (n : Int) (w b : List Int) : Int := dotN (w.getD · 0) (b.getD · 0) n.toNat
theorem rp_len (n : Int) (d : List Int) (i : Nat) (w : List Int) : (rp n d i w).length = n.toNat := by simp [rp]
theorem rp_get {n : Int} {d w : List Int} {i k : Nat} (hk : k < n.toNat) : (rp n d i w).getD k 0 = w.getD k 0 - w.getD i 0 * atI n d k i := by simp [rp, List.getD, hk]
theorem prW_rp {n : Int} {d w b : List Int} {i : Nat} (hi : i < n.toNat) (hb : b.length = n.toNat) : prW n (rp n d i w) b = prW n w (coS n d b i) := by
  have h1 : prW n (rp n d i w) b = dotN (b.getD · 0) (fun k => w.getD k 0 - w.getD i 0 * atI n d k i) n.toNat := by
    rw [prW, dotN_comm]
    exact dotN_congr fun k hk => ⟨rfl, rp_get hk⟩
  have h2 : prW n w (coS n d b i) = dotN (fun k => if k = i then b.getD k 0 - dotN (fun k => atI n d k i) (b.getD · 0) n.toNat else b.getD k 0) (w.getD · 0) n.toNat := by
    rw [prW, dotN_comm]
    refine dotN_congr fun k hk => ⟨?_, rfl⟩
    by_cases e : k = i
    · subst e
      rw [if_pos rfl, coS, set_getD_eq (by omega)]
    · rw [if_neg e, coS, set_getD_ne fun h => e h.symm]
  rw [h1, h2, dotN_sub, dotN_upd, if_pos hi, dotN_comm (fun k => atI n d k i) (b.getD · 0)]
  have e := Int.mul_comm (w.getD i 0) (dotN (b.getD · 0) (fun k => atI n d k i) n.toNat)
  omega
theorem prW_unit {n : Int} {w : List Int} {i : Nat} (hi : i < n.toNat) : prW n w (unitL n.toNat i) = w.getD i 0 := by
  have h : prW n w (unitL n.toNat i) = dotN (fun k => if k = i then 1 else 0) (w.getD · 0) n.toNat := by
    rw [prW, dotN_comm]
    exact dotN_congr fun k hk => ⟨unitL_get hk, rfl⟩
  rw [h, dotN_unit, if_pos hi]
structure CoOk (n : Int) (d : List Int) (R : List (List Int)) : Prop where
  len : ∀ b ∈ R, b.length = n.toNat
  ge : ∀ b ∈ R, ∀ k, 0 ≤ b.getD k 0
  nz : ∀ b ∈ R, ∃ k, k < n.toNat ∧ 1 ≤ b.getD k 0
  few : R.length ≤ 24
  unit : ∀ i, i < n.toNat → unitL n.toNat i ∈ R
  perm : ∀ i, i < n.toNat → ((R.erase (unitL n.toNat i)).map fun b => coS n d b i).Perm (R.erase (unitL n.toNat i))
  two : ∀ i : Nat, i < n.toNat → atI n d i i = 2
def lnW (n : Int) (R : List (List Int)) (w : List Int) : Nat := R.countP fun b => decide (prW n w b < 0)
def regW (n : Int) (R : List (List Int)) (w : List Int) : Prop := ∀ b ∈ R, prW n w b ≠ 0
def smW (n : Int) (R : List (List Int)) (w : List Int) : Nat := (R.map fun b => (prW n w b).natAbs).sum
section
variable {n : Int} {d : List Int} {R : List (List Int)}
theorem CoOk.rest (h : CoOk n d R) {i : Nat} (hi : i < n.toNat) : R.Perm (unitL n.toNat i :: R.erase (unitL n.toNat i)) := List.perm_cons_erase (h.unit i hi)
theorem CoOk.self (h : CoOk n d R) {i : Nat} (hi : i < n.toNat) (w : List Int) : prW n (rp n d i w) (unitL n.toNat i) = -(w.getD i 0) := by
  rw [prW_unit hi, rp_get hi, h.two i hi]
  omega
theorem CoOk.other (h : CoOk n d R) {i : Nat} (hi : i < n.toNat) (w : List Int) {α : Type} (f : Int → α) : ((R.erase (unitL n.toNat i)).map fun b => f (prW n (rp n d i w) b)).Perm ((R.erase (unitL n.toNat i)).map fun b => f (prW n w b)) := by
  have h1 := (h.perm i hi).map fun b => f (prW n w b)
  rw [List.map_map] at h1
  refine List.Perm.trans (List.Perm.of_eq ?_) h1
  refine List.map_congr_left fun b hb => ?_
  show f _ = f _
  rw [prW_rp hi (h.len b (List.mem_of_mem_erase hb))]
theorem countP_map' {α : Type} (p : α → Bool) (l : List α) : l.countP p = ((l.map p).countP id) := by rw [List.countP_map]; rfl
theorem CoOk.ln (h : CoOk n d R) {i : Nat} (hi : i < n.toNat) (w : List Int) (h0 : w.getD i 0 ≠ 0) : (0 < w.getD i 0 → lnW n R (rp n d i w) = lnW n R w + 1) ∧ (w.getD i 0 < 0 → lnW n R w = lnW n R (rp n d i w) + 1) := by
  have e1 : ∀ v, lnW n R v = (R.erase (unitL n.toNat i)).countP (fun b => decide (prW n v b < 0)) + if prW n v (unitL n.toNat i) < 0 then 1 else 0 := fun v => by
    rw [lnW, (h.rest hi).countP_eq, List.countP_cons]
    simp
  have e2 : (R.erase (unitL n.toNat i)).countP (fun b => decide (prW n (rp n d i w) b < 0)) = (R.erase (unitL n.toNat i)).countP (fun b => decide (prW n w b < 0)) := by
    rw [countP_map' (fun b => decide (prW n (rp n d i w) b < 0)), countP_map' (fun b => decide (prW n w b < 0))]
    exact (h.other hi w fun z => decide (z < 0)).countP_eq id
  rw [e1 w, e1 (rp n d i w), e2, h.self hi, prW_unit hi]
  constructor
  · intro hp
    rw [if_pos (by omega), if_neg (by omega)]
  · intro hp
    rw [if_pos hp, if_neg (by omega)]
theorem CoOk.reg (h : CoOk n d R) {i : Nat} (hi : i < n.toNat) {w : List Int} (hw : regW n R w) : regW n R (rp n d i w) := fun b hb => by
  rcases List.mem_cons.1 ((h.rest hi).mem_iff.1 hb) with rfl | hb2
  · rw [h.self hi]
    have := hw _ hb
    rw [prW_unit hi] at this
    omega
  · have h1 := (h.other hi w fun z => z).mem_iff.1 (List.mem_map_of_mem hb2)
    obtain ⟨c, hc, e⟩ := List.mem_map.1 h1
    rw [← e]
    exact hw c (List.mem_of_mem_erase hc)
theorem CoOk.sm (h : CoOk n d R) {i : Nat} (hi : i < n.toNat) (w : List Int) : smW n R (rp n d i w) = smW n R w := by
  have e1 : ∀ v, smW n R v = (prW n v (unitL n.toNat i)).natAbs + ((R.erase (unitL n.toNat i)).map fun b => (prW n v b).natAbs).sum := fun v => by
    rw [smW, ((h.rest hi).map _).sum_nat, List.map_cons, List.sum_cons]
  rw [e1, e1, h.self hi, prW_unit hi, (h.other hi w fun z => z.natAbs).sum_nat, Int.natAbs_neg]
end
inductive Reach (n : Int) (d : List Int) : List Int → Prop
  | one : Reach n d (ones n 1)
  | step {w : List Int} {i : Nat} : Reach n d w → i < n.toNat → Reach n d (rp n d i w)
theorem ones_get {n : Int} {k : Nat} (hk : k < n.toNat) : (ones n 1).getD k 0 = 1 := by simp [ones, List.getD, hk]
theorem dotN_pos {c w : Nat → Int} : ∀ {m : Nat}, (∀ k, k < m → 0 ≤ c k ∧ 0 ≤ w k) → 0 ≤ dotN c w m
  | 0, _ => by simp [dotN]
  | m + 1, h => by
    have h1 := dotN_pos (m := m) fun k hk => h k (by omega)
    have h2 := Int.mul_nonneg (h m (by omega)).1 (h m (by omega)).2
    rw [dotN]
    omega
theorem dotN_gt {c w : Nat → Int} {j : Nat} : ∀ {m : Nat}, (∀ k, k < m → 0 ≤ c k ∧ 0 ≤ w k) → j < m → 1 ≤ c j → 1 ≤ w j → 1 ≤ dotN c w m
  | 0, _, hj, _, _ => by omega
  | m + 1, h, hj, hc, hw => by
    have h1 := dotN_pos (m := m) fun k hk => h k (by omega)
    have h2 := Int.mul_nonneg (h m (by omega)).1 (h m (by omega)).2
    rw [dotN]
    by_cases e : j = m
    · subst e
      have h3 := Int.mul_nonneg (show 0 ≤ c j - 1 by omega) (show 0 ≤ w j - 1 by omega)
      simp only [Int.sub_mul, Int.mul_sub] at h3
      omega
    · have := dotN_gt (m := m) (fun k hk => h k (by omega)) (by omega) hc hw
      omega
theorem dotN_mono {c v w : Nat → Int} : ∀ {m : Nat}, (∀ k, k < m → 0 ≤ c k ∧ v k ≤ w k) → dotN v c m ≤ dotN w c m
  | 0, _ => by simp [dotN]
  | m + 1, h => by
    have h1 := dotN_mono (m := m) fun k hk => h k (by omega)
    have h2 := Int.mul_nonneg (show 0 ≤ w m - v m by have := h m (by omega); omega) (h m (by omega)).1
    rw [Int.sub_mul] at h2
    rw [dotN, dotN]
    omega
section
variable {n : Int} {d : List Int} {R : List (List Int)}
theorem Reach.inv (h : CoOk n d R) {w : List Int} (hr : Reach n d w) : w.length = n.toNat ∧ regW n R w ∧ smW n R w = smW n R (ones n 1) := by
  induction hr with
  | one =>
    refine ⟨ones_len n 1, fun b hb => ?_, rfl⟩
    obtain ⟨k, hk, h1⟩ := h.nz b hb
    have := dotN_gt (c := ((ones n 1).getD · 0)) (w := (b.getD · 0)) (j := k) (m := n.toNat) (fun q hq => ⟨by rw [ones_get hq]; omega, h.ge b hb q⟩) hk (by rw [ones_get hk]; omega) h1
    unfold prW
    omega
  | step _ hi ih => exact ⟨rp_len _ _ _ _, h.reg hi ih.2.1, (h.sm hi _).trans ih.2.2⟩
theorem sum_eq {α : Type} {f g : α → Nat} : ∀ {L : List α}, (∀ x ∈ L, f x ≤ g x) → (L.map g).sum = (L.map f).sum → ∀ x ∈ L, f x = g x
  | [], _, _, x, hx => by simp at hx
  | y :: t, h, e, x, hx => by
    simp only [List.map_cons, List.sum_cons] at e
    have h1 := h y List.mem_cons_self
    have hle : ∀ {M : List α}, (∀ x ∈ M, f x ≤ g x) → (M.map f).sum ≤ (M.map g).sum := by
      intro M
      induction M with
      | nil => intro _; simp
      | cons z M ih =>
        intro hM
        have a := hM z List.mem_cons_self
        have b := ih fun q hq => hM q (List.mem_cons_of_mem _ hq)
        simp only [List.map_cons, List.sum_cons]
        omega
    have h2 := hle (M := t) fun q hq => h q (List.mem_cons_of_mem _ hq)
    rcases List.mem_cons.1 hx with rfl | hx
    · omega
    · exact sum_eq (fun q hq => h q (List.mem_cons_of_mem _ hq)) (by omega) x hx
theorem Reach.dom (h : CoOk n d R) {w : List Int} (hr : Reach n d w) (hw : ∀ k, k < n.toNat → 0 ≤ w.getD k 0) : w = ones n 1 := by
  obtain ⟨hl, hg, hs⟩ := hr.inv h
  have h1 : ∀ k, k < n.toNat → 1 ≤ w.getD k 0 := fun k hk => by
    have := hg _ (h.unit k hk)
    rw [prW_unit hk] at this
    have := hw k hk
    omega
  have h0 : ∀ b ∈ R, 0 ≤ prW n (ones n 1) b ∧ prW n (ones n 1) b ≤ prW n w b := fun b hb => ⟨dotN_pos fun k hk => ⟨by rw [ones_get hk]; omega, h.ge b hb k⟩, dotN_mono fun k hk => ⟨h.ge b hb k, by rw [ones_get hk]; exact h1 k hk⟩⟩
  have hall := sum_eq (f := fun b => (prW n (ones n 1) b).natAbs) (g := fun b => (prW n w b).natAbs) (L := R) (fun b hb => by have := h0 b hb; omega) hs
  refine ext_getD (by rw [hl, ones_len]) fun k hk => ?_
  rw [hl] at hk
  have h2 := hall _ (h.unit k hk)
  have h3 := h0 _ (h.unit k hk)
  rw [prW_unit hk, prW_unit hk] at h2 h3
  omega
theorem Reach.zero (h : CoOk n d R) {w : List Int} (hr : Reach n d w) (h0 : lnW n R w = 0) : w = ones n 1 := hr.dom h fun k hk => by
  have := List.countP_eq_zero.1 h0 _ (h.unit k hk)
  rw [prW_unit hk] at this
  simpa using this
theorem Reach.neg (h : CoOk n d R) {w : List Int} (hr : Reach n d w) (h0 : 0 < lnW n R w) : ∃ k, k < n.toNat ∧ w.getD k 0 < 0 := by
  by_cases hn : ∀ k, k < n.toNat → 0 ≤ w.getD k 0
  · exfalso
    obtain ⟨b, hb, hb2⟩ := List.countP_pos_iff.1 h0
    have h1 : 0 ≤ prW n w b := dotN_pos fun k hk => ⟨hn k hk, h.ge b hb k⟩
    have := of_decide_eq_true hb2
    omega
  · obtain ⟨k, hk⟩ := Classical.not_forall.1 hn
    have hk3 := Classical.not_imp.1 hk
    exact ⟨k, hk3.1, by omega⟩
theorem Reach.nz (h : CoOk n d R) {w : List Int} (hr : Reach n d w) {k : Nat} (hk : k < n.toNat) : w.getD k 0 ≠ 0 := by
  have := (hr.inv h).2.1 _ (h.unit k hk)
  rwa [prW_unit hk] at this
theorem rp_rp (h : CoOk n d R) {w : List Int} {i : Nat} (hi : i < n.toNat) (hl : w.length = n.toNat) : rp n d i (rp n d i w) = w := by
  refine ext_getD (by rw [rp_len, hl]) fun k hk => ?_
  rw [rp_len] at hk
  rw [rp_get hk, rp_get hk, rp_get hi, h.two i hi, Int.sub_mul]
  have := Int.mul_assoc (w.getD i 0) 2 (atI n d k i)
  have e : w.getD i 0 * 2 * atI n d k i = w.getD i 0 * atI n d k i + w.getD i 0 * atI n d k i := by rw [Int.mul_assoc, show 2 * atI n d k i = atI n d k i + atI n d k i by omega, Int.mul_add]
  rw [e]
  omega
end
end Go.Proofs.YtmckgdekblphoaaGreatDoor
namespace Go.Proofs.YtmckgdekblphoaaGreatDoor
set_option linter.unusedVariables false
set_option linter.unusedSimpArgs false
def frc {α : Type} (n : Nat) (k : Nat → α) : α := match n with
  | 0 => k 0
  | m + 1 => k (m + 1)
theorem frc_eq {α : Type} (n : Nat) (k : Nat → α) : frc n k = k n := by cases n <;> rfl
def dig (k E : Nat) : Nat := match k with
  | 0 => E % 1024
  | 1 => E / 1024 % 1024
  | 2 => E / 1048576 % 1024
  | _ => E / 1073741824 % 1024
def ofE (a b c e : Nat) : Nat := a + 1024 * b + 1048576 * c + 1073741824 * e
def enW (w : List Int) : Nat := ofE (w.getD 0 0 + 512).toNat (w.getD 1 0 + 512).toNat (w.getD 2 0 + 512).toNat (w.getD 3 0 + 512).toNat
def okD (D : Nat) : Bool := (Nat.ble 412 D).and (Nat.ble D 612)
def okE (E : Nat) : Bool := (okD (dig 0 E)).and ((okD (dig 1 E)).and ((okD (dig 2 E)).and (okD (dig 3 E))))
def geE (i E : Nat) : Bool := match i with
  | 0 => true
  | 1 => Nat.ble 512 (dig 0 E)
  | 2 => (Nat.ble 512 (dig 0 E)).and (Nat.ble 512 (dig 1 E))
  | _ => (Nat.ble 512 (dig 0 E)).and ((Nat.ble 512 (dig 1 E)).and (Nat.ble 512 (dig 2 E)))
def down : Nat → List Nat
  | 0 => []
  | i + 1 => i :: down i
theorem mem_down {i : Nat} : ∀ {m : Nat}, i ∈ down m ↔ i < m
  | 0 => by simp [down]
  | m + 1 => by
    rw [down, List.mem_cons, mem_down (m := m)]
    omega
def colA (n : Int) (d : List Int) (i k : Nat) : Nat := if k < n.toNat ∧ k ≠ i then (-(atI n d k i)).toNat else 0
def colN (n : Int) (d : List Int) (i : Nat) : Nat := ofE (colA n d i 0) (colA n d i 1) (colA n d i 2) (colA n d i 3)
def colP (i : Nat) : Nat := match i with
  | 0 => 2
  | 1 => 2048
  | 2 => 2097152
  | _ => 2147483648
def csL (n : Int) (d : List Int) : Nat → List (Nat × Nat × Nat)
  | 0 => []
  | i + 1 => (i, colN n d i, colP i) :: csL n d i
def frcCs (n : Int) (d : List Int) : Nat → (List (Nat × Nat × Nat) → Nat) → Nat
  | 0, k => k []
  | i + 1, k => frc (colN n d i) fun N => frc (colP i) fun P => frcCs n d i fun t => k ((i, N, P) :: t)
theorem frcCs_eq (n : Int) (d : List Int) : ∀ (m : Nat) (k : List (Nat × Nat × Nat) → Nat), frcCs n d m k = k (csL n d m)
  | 0, k => rfl
  | m + 1, k => by rw [frcCs, frc_eq, frc_eq, frcCs_eq n d m, csL]
def movE (E D N P : Nat) : Nat := Nat.sub (Nat.add E (Nat.mul (Nat.sub D 512) N)) (Nat.mul (Nat.sub D 512) P)
def cntE (cs : List (Nat × Nat × Nat)) : Nat → Nat → Nat
  | 0, _ => 5000
  | f + 1, E => bif okE E then cs.foldl (fun acc c => Nat.add acc (bif Nat.blt 512 (dig c.1 E) then frc (movE E (dig c.1 E) c.2.1 c.2.2) fun E2 => bif geE c.1 E2 then cntE cs f E2 else 0 else 0)) 1 else 5000
def kidB (n : Int) (d w : List Int) (i : Nat) : Bool := decide (0 < w.getD i 0) && (List.range i).all fun j => decide (0 ≤ (rp n d i w).getD j 0)
def treeL (n : Int) (d : List Int) : Nat → List Int → List (List Int)
  | 0, _ => []
  | f + 1, w => w :: (down n.toNat).flatMap fun i => if kidB n d w i then treeL n d f (rp n d i w) else []
def inW (b : Int) (w : List Int) : Prop := ∀ k : Nat, -b ≤ w.getD k 0 ∧ w.getD k 0 ≤ b
theorem dig_en {w : List Int} (h : inW 500 w) {k : Nat} (hk : k < 4) : dig k (enW w) = (w.getD k 0 + 512).toNat := by
  have h0 := h 0
  have h1 := h 1
  have h2 := h 2
  have h3 := h 3
  unfold enW ofE
  rcases (by omega : k = 0 ∨ k = 1 ∨ k = 2 ∨ k = 3) with rfl | rfl | rfl | rfl <;> simp only [dig] <;> omega
theorem okE_en {w : List Int} (h : inW 500 w) (hl : w.length ≤ 4) : okE (enW w) = true ↔ inW 100 w := by
  have h0 := h 0
  have h1 := h 1
  have h2 := h 2
  have h3 := h 3
  unfold okE okD
  rw [dig_en h (by omega), dig_en h (by omega), dig_en h (by omega), dig_en h (by omega)]
  simp only [Bool.and_eq_true, Nat.ble_eq]
  constructor
  · intro hh k
    by_cases hk : k < 4
    · rcases (by omega : k = 0 ∨ k = 1 ∨ k = 2 ∨ k = 3) with rfl | rfl | rfl | rfl <;> omega
    · rw [show w.getD k 0 = 0 from by rw [List.getD, List.getElem?_eq_none (by omega)]; rfl]
      omega
  · intro hh
    have g0 := hh 0
    have g1 := hh 1
    have g2 := hh 2
    have g3 := hh 3
    omega
theorem geE_en {w : List Int} (h : inW 500 w) {i : Nat} (hi : i < 4) : geE i (enW w) = (List.range i).all fun j => decide (0 ≤ w.getD j 0) := by
  have h0 := h 0
  have h1 := h 1
  have h2 := h 2
  have e : ∀ k, k < 4 → Nat.ble 512 (dig k (enW w)) = decide (0 ≤ w.getD k 0) := fun k hk => by
    have := h k
    rw [dig_en h hk, Bool.eq_iff_iff, Nat.ble_eq, decide_eq_true_eq]
    omega
  rcases (by omega : i = 0 ∨ i = 1 ∨ i = 2 ∨ i = 3) with rfl | rfl | rfl | rfl <;> simp only [geE, e 0 (by omega), e 1 (by omega), e 2 (by omega)] <;> simp [List.range_succ]
structure MatT (n : Int) (d : List Int) : Prop where
  n4 : n.toNat ≤ 4
  two : ∀ i : Nat, i < n.toNat → atI n d i i = 2
  off : ∀ i k : Nat, i < n.toNat → k < n.toNat → k ≠ i → -3 ≤ atI n d k i ∧ atI n d k i ≤ 0
theorem rp_getT {n : Int} {d w : List Int} {i : Nat} (hl : w.length = n.toNat) (k : Nat) : (rp n d i w).getD k 0 = if k < n.toNat then w.getD k 0 - w.getD i 0 * atI n d k i else 0 := by
  split
  · rename_i hk
    exact rp_get hk
  · rename_i hk
    rw [List.getD, List.getElem?_eq_none (by rw [rp_len]; omega)]
    rfl
theorem rp_in {n : Int} {d w : List Int} {i : Nat} (h : MatT n d) (hi : i < n.toNat) (hl : w.length = n.toNat) (hw : inW 100 w) : inW 500 (rp n d i w) := fun k => by
  rw [rp_getT hl]
  have h1 := hw k
  have h2 := hw i
  split
  · rename_i hk
    by_cases e : k = i
    · subst e
      rw [h.two k hk]
      omega
    · have h3 := h.off i k hi hk e
      rcases (by omega : atI n d k i = -3 ∨ atI n d k i = -2 ∨ atI n d k i = -1 ∨ atI n d k i = 0) with e | e | e | e <;> rw [e] <;> omega
  · omega
theorem enW_rp {n : Int} {d w : List Int} {i : Nat} (h : MatT n d) (hi : i < n.toNat) (hl : w.length = n.toNat) (hw : inW 100 w) (hp : 0 < w.getD i 0) : enW (rp n d i w) = movE (enW w) (w.getD i 0 + 512).toNat (colN n d i) (colP i) := by
  have hin := rp_in h hi hl hw
  have key : ∀ k, ((rp n d i w).getD k 0 + 512).toNat = ((w.getD k 0 + 512).toNat + (w.getD i 0).toNat * colA n d i k) - (if k = i then (w.getD i 0).toNat * 2 else 0) := fun k => by
    have h1 := hin k
    have h2 := hw k
    rw [rp_getT hl] at h1 ⊢
    unfold colA
    by_cases hk : k < n.toNat
    · rw [if_pos hk] at h1 ⊢
      by_cases e : k = i
      · subst e
        rw [h.two k hk, if_neg (fun hh => hh.2 rfl), if_pos rfl]
        omega
      · rw [if_pos ⟨hk, e⟩, if_neg e]
        have h3 := h.off i k hi hk e
        rcases (by omega : atI n d k i = -3 ∨ atI n d k i = -2 ∨ atI n d k i = -1 ∨ atI n d k i = 0) with e | e | e | e <;> rw [e] <;> first | (rw [show (-(-3 : Int)).toNat = 3 from rfl]; omega) | (rw [show (-(-2 : Int)).toNat = 2 from rfl]; omega) | (rw [show (-(-1 : Int)).toNat = 1 from rfl]; omega) | (rw [show (-(0 : Int)).toNat = 0 from rfl]; omega)
    · rw [if_neg hk, if_neg (fun hh => hk hh.1), if_neg (by omega), List.getD, List.getElem?_eq_none (by omega)]
      simp
  have hc := hw i
  unfold enW movE colN
  rw [key 0, key 1, key 2, key 3, show Nat.sub (w.getD i 0 + 512).toNat 512 = (w.getD i 0).toNat by show (w.getD i 0 + 512).toNat - 512 = _; omega]
  show _ = _ + (w.getD i 0).toNat * ofE _ _ _ _ - (w.getD i 0).toNat * colP i
  unfold ofE
  simp only [Nat.mul_add, Nat.mul_left_comm (w.getD i 0).toNat]
  have h4 := h.n4
  have g0 := hw 0
  have g1 := hw 1
  have g2 := hw 2
  have g3 := hw 3
  rcases (by omega : i = 0 ∨ i = 1 ∨ i = 2 ∨ i = 3) with rfl | rfl | rfl | rfl <;> simp only [colP, Nat.reduceEqDiff, reduceIte, eq_self, Nat.sub_zero] <;> omega
theorem foldl_addT {α : Type} (g : α → Nat) : ∀ (l : List α) (a : Nat), l.foldl (fun acc c => Nat.add acc (g c)) a = a + (l.map g).sum
  | [], a => by simp
  | c :: t, a => by
    rw [List.foldl_cons, foldl_addT g t, List.map_cons, List.sum_cons]
    show a + g c + _ = _
    omega
theorem csL_map (n : Int) (d : List Int) : ∀ m : Nat, csL n d m = (down m).map fun i => (i, colN n d i, colP i)
  | 0 => rfl
  | m + 1 => by rw [csL, down, List.map_cons, csL_map n d m]
theorem mem_le_sum {α : Type} {g : α → Nat} {x : α} : ∀ {l : List α}, x ∈ l → g x ≤ (l.map g).sum
  | [], h => by simp at h
  | y :: t, h => by
    rw [List.map_cons, List.sum_cons]
    rcases List.mem_cons.1 h with rfl | h
    · omega
    · have := mem_le_sum (g := g) h
      omega
theorem sum_leq {α : Type} {g t : α → Nat} : ∀ {l : List α}, (∀ x ∈ l, g x ≤ t x) → (l.map g).sum ≤ (l.map t).sum
  | [], _ => by simp
  | y :: l, h => by
    rw [List.map_cons, List.sum_cons, List.map_cons, List.sum_cons]
    have h1 := h y List.mem_cons_self
    have h2 := sum_leq (l := l) fun x hx => h x (List.mem_cons_of_mem _ hx)
    omega
def kidE (n : Int) (d : List Int) (f : Nat) (E i : Nat) : Nat := bif Nat.blt 512 (dig i E) then frc (movE E (dig i E) (colN n d i) (colP i)) fun E2 => bif geE i E2 then cntE (csL n d n.toNat) f E2 else 0 else 0
theorem cntE_succ (n : Int) (d : List Int) (f E : Nat) (h : okE E = true) : cntE (csL n d n.toNat) (f + 1) E = 1 + ((down n.toNat).map (kidE n d f E)).sum := by
  rw [cntE, h, cond_true, foldl_addT (fun c : Nat × Nat × Nat => bif Nat.blt 512 (dig c.1 E) then frc (movE E (dig c.1 E) c.2.1 c.2.2) fun E2 => bif geE c.1 E2 then cntE (csL n d n.toNat) f E2 else 0 else 0)]
  congr 2
  conv => lhs; arg 2; rw [csL_map]
  rw [List.map_map]
  rfl
theorem cnt_tree {n : Int} {d : List Int} (h : MatT n d) : ∀ (f : Nat) (w : List Int), w.length = n.toNat → inW 500 w → cntE (csL n d n.toNat) f (enW w) ≤ 1200 → inW 100 w ∧ (treeL n d f w).length ≤ cntE (csL n d n.toNat) f (enW w) ∧ ∀ v ∈ treeL n d f w, inW 100 v
  | 0, w, _, _, hc => by rw [cntE] at hc; omega
  | f + 1, w, hl, hw, hc => by
    have h4 := h.n4
    cases hok : okE (enW w) with
    | false => rw [cntE, hok, cond_false] at hc; omega
    | true =>
      have hin := (okE_en hw (by omega)).1 hok
      rw [cntE_succ n d f _ hok] at hc ⊢
      have key : ∀ i ∈ down n.toNat, (if kidB n d w i then treeL n d f (rp n d i w) else []).length ≤ kidE n d f (enW w) i ∧ ∀ v ∈ (if kidB n d w i then treeL n d f (rp n d i w) else []), inW 100 v := fun i him => by
        have hi := mem_down.1 him
        have hs := mem_le_sum (g := kidE n d f (enW w)) him
        by_cases hk : kidB n d w i = true
        · rw [if_pos hk]
          have hk2 := hk
          rw [kidB, Bool.and_eq_true, decide_eq_true_eq] at hk2
          have hr := rp_in h hi hl hin
          have e1 : kidE n d f (enW w) i = cntE (csL n d n.toNat) f (enW (rp n d i w)) := by
            rw [kidE, frc_eq, dig_en hw (by omega), show Nat.blt 512 (w.getD i 0 + 512).toNat = true from by rw [Nat.blt_eq]; have := hin i; omega, cond_true, ← enW_rp h hi hl hin hk2.1, geE_en hr (by omega), hk2.2, cond_true]
          have := cnt_tree h f (rp n d i w) (rp_len _ _ _ _) hr (by rw [← e1]; omega)
          rw [e1]
          exact this.2
        · rw [if_neg hk]
          exact ⟨Nat.zero_le _, fun v hv => by simp at hv⟩
      refine ⟨hin, ?_, fun v hv => ?_⟩
      · rw [treeL, List.length_cons, List.length_flatMap]
        have := sum_leq (g := fun i => (if kidB n d w i then treeL n d f (rp n d i w) else []).length) (t := kidE n d f (enW w)) (l := down n.toNat) fun i hi => (key i hi).1
        omega
      · rw [treeL] at hv
        rcases List.mem_cons.1 hv with rfl | hv
        · exact hin
        · obtain ⟨i, hi, hv2⟩ := List.mem_flatMap.1 hv
          exact (key i hi).2 v hv2
theorem treeL_kid {n : Int} {d : List Int} {u v : List Int} {i : Nat} (hi : i < n.toNat) (hk : kidB n d v i = true) (hu : rp n d i v = u) : ∀ {f : Nat} {w : List Int}, v ∈ treeL n d f w → u ∈ treeL n d (f + 1) w
  | 0, w, h => by simp [treeL] at h
  | f + 1, w, h => by
    rw [treeL] at h ⊢
    rcases List.mem_cons.1 h with rfl | h
    · refine List.mem_cons_of_mem _ (List.mem_flatMap.2 ⟨i, mem_down.2 hi, ?_⟩)
      rw [if_pos hk, hu, treeL]
      exact List.mem_cons_self
    · obtain ⟨j, hj, h2⟩ := List.mem_flatMap.1 h
      refine List.mem_cons_of_mem _ (List.mem_flatMap.2 ⟨j, hj, ?_⟩)
      split at h2
      · rename_i hkj
        rw [if_pos hkj]
        exact treeL_kid hi hk hu h2
      · simp at h2
theorem treeL_mono {n : Int} {d : List Int} {v : List Int} : ∀ {f : Nat} {w : List Int}, v ∈ treeL n d f w → v ∈ treeL n d (f + 1) w
  | 0, w, h => by simp [treeL] at h
  | f + 1, w, h => by
    rw [treeL] at h ⊢
    rcases List.mem_cons.1 h with rfl | h
    · exact List.mem_cons_self
    · obtain ⟨j, hj, h2⟩ := List.mem_flatMap.1 h
      refine List.mem_cons_of_mem _ (List.mem_flatMap.2 ⟨j, hj, ?_⟩)
      split at h2
      · rename_i hkj
        rw [if_pos hkj]
        exact treeL_mono h2
      · simp at h2
theorem treeL_le {n : Int} {d : List Int} {v w : List Int} {f : Nat} : ∀ {g : Nat}, f ≤ g → v ∈ treeL n d f w → v ∈ treeL n d g w
  | 0, h, hv => by
    have : f = 0 := by omega
    subst this
    exact hv
  | g + 1, h, hv => by
    by_cases e : f = g + 1
    · subst e
      exact hv
    · exact treeL_mono (treeL_le (by omega) hv)
theorem least {P : Nat → Prop} : ∀ {k : Nat}, P k → ∃ m, m ≤ k ∧ P m ∧ ∀ j, j < m → ¬ P j
  | 0, h => ⟨0, Nat.le_refl _, h, fun j hj => absurd hj (Nat.not_lt_zero j)⟩
  | k + 1, h => by
    by_cases e : ∃ j, j ≤ k ∧ P j
    · obtain ⟨j, hj, hp⟩ := e
      obtain ⟨m, h1, h2, h3⟩ := least hp
      exact ⟨m, by omega, h2, h3⟩
    · exact ⟨k + 1, Nat.le_refl _, h, fun j hj hp => e ⟨j, by omega, hp⟩⟩
theorem Reach.up {n : Int} {d : List Int} {R : List (List Int)} (h : CoOk n d R) {v : List Int} (hr : Reach n d v) (h0 : 0 < lnW n R v) : ∃ (i : Nat) (p : List Int), i < n.toNat ∧ Reach n d p ∧ rp n d i p = v ∧ 0 < p.getD i 0 ∧ kidB n d p i = true ∧ lnW n R v = lnW n R p + 1 := by
  obtain ⟨k, hk, hneg⟩ := hr.neg h h0
  obtain ⟨m, h1, h2, h3⟩ := least (P := fun k => v.getD k 0 < 0) hneg
  have hm : m < n.toNat := by omega
  have hl := (hr.inv h).1
  have e := rp_rp h hm hl
  have hp : (rp n d m v).getD m 0 = -(v.getD m 0) := by
    rw [rp_get hm, h.two m hm]
    omega
  refine ⟨m, rp n d m v, hm, hr.step hm, e, by omega, ?_, (h.ln hm v (by omega)).2 h2⟩
  rw [kidB, e, Bool.and_eq_true]
  refine ⟨decide_eq_true (by omega), ?_⟩
  rw [List.all_eq_true]
  intro j hj
  have := h3 j (List.mem_range.1 hj)
  exact decide_eq_true (by omega)
theorem Reach.tree {n : Int} {d : List Int} {R : List (List Int)} (h : CoOk n d R) : ∀ (j : Nat) {v : List Int}, Reach n d v → lnW n R v = j → v ∈ treeL n d (j + 1) (ones n 1)
  | 0, v, hr, h0 => by
    rw [hr.zero h h0, treeL]
    exact List.mem_cons_self
  | j + 1, v, hr, hj => by
    obtain ⟨i, p, hi, hp, e, _, hk, hln⟩ := hr.up h (by omega)
    exact treeL_kid hi hk e (Reach.tree h j hp (by omega))
theorem lnW_le {n : Int} {d : List Int} {R : List (List Int)} (h : CoOk n d R) (v : List Int) : lnW n R v ≤ 24 := Nat.le_trans List.countP_le_length h.few
theorem nodup_sub {α : Type} [DecidableEq α] : ∀ {L M : List α}, L.Nodup → (∀ x ∈ L, x ∈ M) → L.length ≤ M.length
  | [], _, _, _ => Nat.zero_le _
  | x :: t, M, hn, hs => by
    have hx := hs x List.mem_cons_self
    rw [(List.perm_cons_erase hx).length_eq, List.length_cons, List.length_cons]
    refine Nat.succ_le_succ (nodup_sub (List.nodup_cons.1 hn).2 fun y hy => ?_)
    exact (List.mem_erase_of_ne fun e : y = x => (List.nodup_cons.1 hn).1 (by rw [← e]; exact hy)).2 (hs y (List.mem_cons_of_mem _ hy))
structure WlOk (n : Int) (d : List Int) (R : List (List Int)) : Prop where
  co : CoOk n d R
  mt : MatT n d
  ct : cntE (csL n d n.toNat) 25 (enW (ones n 1)) ≤ 1200
section
variable {n : Int} {d : List Int} {R : List (List Int)}
theorem WlOk.tree (h : WlOk n d R) : (treeL n d 25 (ones n 1)).length ≤ 1200 ∧ ∀ v ∈ treeL n d 25 (ones n 1), inW 100 v := by
  have := cnt_tree h.mt 25 (ones n 1) (ones_len n 1) (fun k => by
    by_cases hk : k < n.toNat
    · rw [ones_get hk]; omega
    · rw [List.getD, List.getElem?_eq_none (by rw [ones_len]; omega)]
      show -500 ≤ (0 : Int) ∧ (0 : Int) ≤ 500
      omega) h.ct
  exact ⟨Nat.le_trans this.2.1 h.ct, this.2.2⟩
theorem WlOk.mem (h : WlOk n d R) {v : List Int} (hr : Reach n d v) : v ∈ treeL n d 25 (ones n 1) := treeL_le (Nat.succ_le_succ (lnW_le h.co v)) (hr.tree h.co _ rfl)
theorem WlOk.ent (h : WlOk n d R) {v : List Int} (hr : Reach n d v) : inW 100 v := h.tree.2 v (h.mem hr)
theorem WlOk.few (h : WlOk n d R) {L : List (List Int)} (hn : L.Nodup) (hL : ∀ v ∈ L, Reach n d v) : L.length ≤ 1200 := Nat.le_trans (nodup_sub hn fun v hv => h.mem (hL v hv)) h.tree.1
end
end Go.Proofs.YtmckgdekblphoaaGreatDoor
namespace Go.Proofs.YtmckgdekblphoaaGreatDoor
set_option linter.unusedVariables false
set_option linter.unusedSimpArgs false
def coOne (n : Int) (d b : List Int) (L : List (List Int)) (i : Nat) : List (List Int) := bif (coS n d b i).all (fun x => decide (0 ≤ x)) && !L.contains (coS n d b i) then L ++ [coS n d b i] else L
def coC (n : Int) (d : List Int) : Nat → List (List Int) → Nat → List (List Int)
  | 0, L, _ => L
  | f + 1, L, k => if k < L.length then coC n d f ((List.range n.toNat).foldl (coOne n d (L.getD k [])) L) (k + 1) else L
def coR (n : Int) (d : List Int) : List (List Int) := coC n d 30 ((List.range n.toNat).map (unitL n.toNat)) 0
def chkCo (n : Int) (d : List Int) (R : List (List Int)) : Bool :=
  (R.all fun b => (b.length == n.toNat) && (b.all fun x => decide (0 ≤ x)) && (b.any fun x => decide (1 ≤ x))) && decide (R.length ≤ 24) &&
  ((List.range n.toNat).all fun i => R.contains (unitL n.toNat i) && ((R.erase (unitL n.toNat i)).map fun b => coS n d b i).isPerm (R.erase (unitL n.toNat i)) && (atI n d i i == 2) && (List.range n.toNat).all fun k => k == i || (decide (-3 ≤ atI n d k i) && decide (atI n d k i ≤ 0)))
def chkW (n : Int) (d : List Int) : Bool := chkCo n d (coR n d)
def chkY (n : Int) (d : List Int) : Bool := (frcCs n d n.toNat fun cs => frc (enW (ones n 1)) fun E => cntE cs 25 E).ble 1200
def chkWs (n a b : Nat) : Bool := (((candL n).drop a).take b).all fun d => chkW n d && chkY n d
set_option maxRecDepth 100000 in
theorem chkWs_1 : chkWs 1 0 1000 = true := by decide +kernel
set_option maxRecDepth 100000 in
theorem chkWs_2 : chkWs 2 0 1000 = true := by decide +kernel
set_option maxRecDepth 100000 in
theorem chkWs_3 : chkWs 3 0 1000 = true := by decide +kernel
set_option maxRecDepth 100000 in
theorem chkWs_4a : chkWs 4 0 32 = true := by decide +kernel
set_option maxRecDepth 100000 in
theorem chkWs_4b : chkWs 4 32 32 = true := by decide +kernel
set_option maxRecDepth 100000 in
theorem chkWs_4c : chkWs 4 64 32 = true := by decide +kernel
set_option maxRecDepth 100000 in
theorem chkWs_4d : chkWs 4 96 32 = true := by decide +kernel
set_option maxRecDepth 100000 in
theorem chkWs_4e : chkWs 4 128 32 = true := by decide +kernel
set_option maxRecDepth 100000 in
theorem chkWs_4f : chkWs 4 160 32 = true := by decide +kernel
set_option maxRecDepth 100000 in
theorem chkWs_4g : chkWs 4 192 32 = true := by decide +kernel
set_option maxRecDepth 100000 in
theorem chkWs_4h : chkWs 4 224 1000 = true := by decide +kernel
theorem chkWs_all {m : Nat} {d : List Int} (h1 : 1 ≤ m) (h4 : m ≤ 4) (hd : d ∈ candL m) : chkW m d = true ∧ chkY m d = true := by
  have one : ∀ n, chkWs n 0 1000 = true → (candL n).length ≤ 1000 → d ∈ candL n → chkW n d = true ∧ chkY n d = true := fun n h hl hd => by
    simp only [chkWs, List.all_eq_true, Bool.and_eq_true] at h
    exact h d (by rw [List.drop_zero, List.take_of_length_le hl]; exact hd)
  have len : ∀ n, 1 ≤ n → n ≤ 4 → (candL n).length ≤ 1000 := fun n a b => four (P := fun n => (candL n).length ≤ 1000) (by decide +kernel) (by decide +kernel) (by decide +kernel) (by decide +kernel) a b
  rcases (by omega : m = 1 ∨ m = 2 ∨ m = 3 ∨ m = 4) with rfl | rfl | rfl | rfl
  · exact one 1 chkWs_1 (len 1 (by omega) (by omega)) hd
  · exact one 2 chkWs_2 (len 2 (by omega) (by omega)) hd
  · exact one 3 chkWs_3 (len 3 (by omega) (by omega)) hd
  · have step : ∀ a b, chkWs 4 a b = true → d ∈ (candL 4).drop a → (chkW 4 d = true ∧ chkY 4 d = true) ∨ d ∈ (candL 4).drop (a + b) := fun a b h hm => by
      simp only [chkWs, List.all_eq_true, Bool.and_eq_true] at h
      rcases mem_parts b hm with h2 | h2
      · exact .inl (h d h2)
      · rw [List.drop_drop] at h2
        exact .inr h2
    have h0 : d ∈ (candL 4).drop 0 := by rwa [List.drop_zero]
    rcases step 0 32 chkWs_4a h0 with h | h1
    · exact h
    rcases step 32 32 chkWs_4b h1 with h | h2
    · exact h
    rcases step 64 32 chkWs_4c h2 with h | h3
    · exact h
    rcases step 96 32 chkWs_4d h3 with h | h4
    · exact h
    rcases step 128 32 chkWs_4e h4 with h | h5
    · exact h
    rcases step 160 32 chkWs_4f h5 with h | h6
    · exact h
    rcases step 192 32 chkWs_4g h6 with h | h7
    · exact h
    rcases step 224 1000 chkWs_4h h7 with h | h8
    · exact h
    rw [List.drop_of_length_le (by have hl := len 4 (by omega) (by omega); omega)] at h8
    simp at h8
theorem getD_of_all {b : List Int} (h : b.all (fun x => decide (0 ≤ x)) = true) (k : Nat) : 0 ≤ b.getD k 0 := by
  by_cases hk : k < b.length
  · rw [List.getD, List.getElem?_eq_getElem hk]
    exact of_decide_eq_true (List.all_eq_true.1 h _ (List.getElem_mem hk))
  · rw [List.getD, List.getElem?_eq_none (by omega)]
    exact Int.le_refl 0
theorem wlOk {n : Int} {d : List Int} (h : (tyS n d).isSome = true) : WlOk n d (coR n d) := by
  obtain ⟨ks, hk⟩ := Option.isSome_iff_exists.1 h
  obtain ⟨m, rfl, h1, h4, hd⟩ := tyS_cand hk
  obtain ⟨hw, hy⟩ := chkWs_all h1 h4 hd
  simp only [chkW, chkCo, List.all_eq_true, Bool.and_eq_true, Bool.or_eq_true, decide_eq_true_eq, beq_iff_eq, List.mem_range, List.any_eq_true] at hw
  obtain ⟨⟨hA, hB⟩, hC⟩ := hw
  have hY := Nat.le_of_ble_eq_true hy
  rw [frcCs_eq, frc_eq] at hY
  have hn : ((m : Int).toNat) = m := rfl
  refine ⟨⟨fun b hb => (hA b hb).1.1, fun b hb => getD_of_all (List.all_eq_true.2 fun x hx => decide_eq_true ((hA b hb).1.2 x hx)), fun b hb => ?_, hB, fun i hi => List.contains_iff_mem.1 (hC i hi).1.1.1, fun i hi => List.isPerm_iff.1 (hC i hi).1.1.2, fun i hi => (hC i hi).1.2⟩, ⟨by omega, fun i hi => (hC i hi).1.2, fun i k hi hk hne => ?_⟩, hY⟩
  · obtain ⟨x, hx, h1x⟩ := (hA b hb).2
    obtain ⟨k, hk, e⟩ := List.getElem_of_mem hx
    refine ⟨k, ?_, ?_⟩
    · rw [← (hA b hb).1.1]
      exact hk
    · rw [List.getD, List.getElem?_eq_getElem hk, e]
      exact h1x
  · rcases (hC i hi).2 k hk with e | e
    · exact absurd e hne
    · exact e
end Go.Proofs.YtmckgdekblphoaaGreatDoor
namespace Go.Proofs.YtmckgdekblphoaaGreatDoor
set_option linter.unusedVariables false
set_option linter.unusedSimpArgs false
def lvOne (n : Int) (d w : List Int) (L : List (List Int)) (i : Nat) : List (List Int) := if 0 < w.getD i 0 then (if L.contains (rfF n d (i : Int) w) then L else insD L (rfF n d (i : Int) w)) else L
def lvRow (n : Int) (d : List Int) (L : List (List Int)) (w : List Int) : List (List Int) := (List.range n.toNat).foldl (lvOne n d w) L
def lvNext (n : Int) (d : List Int) (lev : List (List Int)) : List (List Int) := lev.foldl (lvRow n d) []
def lvAt (n : Int) (d : List Int) : Nat → List (List Int)
  | 0 => [ones n 1]
  | j + 1 => lvNext n d (lvAt n d j)
theorem lvOne_desc {n : Int} {d w : List Int} {L : List (List Int)} {i : Nat} (h : Desc L) : Desc (lvOne n d w L i) := by
  unfold lvOne
  split
  · split
    · exact h
    · rename_i hc
      exact insD_desc h (Bool.eq_false_iff.2 hc)
  · exact h
theorem lvOne_mem {n : Int} {d w v : List Int} {L : List (List Int)} {i : Nat} : v ∈ lvOne n d w L i ↔ v ∈ L ∨ (0 < w.getD i 0 ∧ v = rfF n d (i : Int) w) := by
  unfold lvOne
  split
  · rename_i hp
    split
    · rename_i hc
      constructor
      · exact .inl
      · rintro (h | ⟨_, rfl⟩)
        · exact h
        · exact List.contains_iff_mem.1 hc
    · rw [(insD_perm _ _).mem_iff, List.mem_cons]
      constructor
      · rintro (h | h)
        · exact .inr ⟨hp, h⟩
        · exact .inl h
      · rintro (h | ⟨_, h⟩)
        · exact .inr h
        · exact .inl h
  · rename_i hp
    exact ⟨.inl, fun h => h.elim id fun h => absurd h.1 hp⟩
theorem lvRow_ok {n : Int} {d w : List Int} {L : List (List Int)} (h : Desc L) : ∀ m : Nat, Desc ((List.range m).foldl (lvOne n d w) L) ∧ ∀ v, v ∈ (List.range m).foldl (lvOne n d w) L ↔ v ∈ L ∨ ∃ i, i < m ∧ 0 < w.getD i 0 ∧ v = rfF n d (i : Int) w
  | 0 => ⟨h, fun v => ⟨.inl, fun hh => hh.elim id fun ⟨i, hi, _⟩ => absurd hi (Nat.not_lt_zero i)⟩⟩
  | m + 1 => by
    obtain ⟨h1, h2⟩ := lvRow_ok h m
    rw [foldl_succ]
    refine ⟨lvOne_desc h1, fun v => ?_⟩
    rw [lvOne_mem, h2]
    constructor
    · rintro ((hh | ⟨i, hi, hp⟩) | hp)
      · exact .inl hh
      · exact .inr ⟨i, by omega, hp⟩
      · exact .inr ⟨m, by omega, hp⟩
    · rintro (hh | ⟨i, hi, hp⟩)
      · exact .inl (.inl hh)
      · by_cases e : i = m
        · subst e
          exact .inr hp
        · exact .inl (.inr ⟨i, by omega, hp⟩)
theorem lvNext_ok {n : Int} {d : List Int} : ∀ {lev L : List (List Int)}, Desc L → Desc (lev.foldl (lvRow n d) L) ∧ ∀ v, v ∈ lev.foldl (lvRow n d) L ↔ v ∈ L ∨ ∃ w ∈ lev, ∃ i, i < n.toNat ∧ 0 < w.getD i 0 ∧ v = rfF n d (i : Int) w
  | [], L, h => ⟨h, fun v => by simp⟩
  | w :: t, L, h => by
    obtain ⟨h1, h2⟩ := lvRow_ok (n := n) (d := d) (w := w) h n.toNat
    obtain ⟨h3, h4⟩ := lvNext_ok (n := n) (d := d) (lev := t) h1
    rw [List.foldl_cons]
    refine ⟨h3, fun v => ?_⟩
    refine (h4 v).trans ?_
    rw [h2]
    constructor
    · rintro ((hh | hp) | ⟨u, hu, hp⟩)
      · exact .inl hh
      · exact .inr ⟨w, List.mem_cons_self, hp⟩
      · exact .inr ⟨u, List.mem_cons_of_mem _ hu, hp⟩
    · rintro (hh | ⟨u, hu, hp⟩)
      · exact .inl (.inl hh)
      · rcases List.mem_cons.1 hu with rfl | hu
        · exact .inl (.inr hp)
        · exact .inr ⟨u, hu, hp⟩
theorem Desc.nod {L : List (List Int)} (h : Desc L) : L.Nodup := by
  refine List.Pairwise.imp (fun {a b} hab e => ?_) h
  subst e
  have h1 := abv_iff.1 hab
  have h2 := cmpL_self a
  omega
section
variable {n : Int} {d : List Int} {R : List (List Int)}
theorem WlOk.rf (h : WlOk n d R) {w : List Int} (hr : Reach n d w) {i : Nat} (hi : i < n.toNat) : rfF n d (i : Int) w = rp n d i w := by
  have hl := (hr.inv h.co).1
  have hw := h.ent hr
  refine ext_getD (by rw [rfF_len, rp_len, hl]) fun k hk => ?_
  rw [rfF_len] at hk
  have hb := rp_in h.mt hi hl hw k
  rw [rp_get (by omega)] at hb
  have h1 := hw k
  rw [rfF_get hk, rp_get (by omega), Int.toNat_natCast, wrap_in (x := w.getD i 0 * atI n d k i) (by omega) (by omega), wrap_in (by omega) (by omega)]
theorem WlOk.lev (h : WlOk n d R) : ∀ j : Nat, Desc (lvAt n d j) ∧ ∀ v, v ∈ lvAt n d j ↔ Reach n d v ∧ lnW n R v = j
  | 0 => by
    refine ⟨List.pairwise_singleton _ _, fun v => ?_⟩
    rw [lvAt, List.mem_singleton]
    constructor
    · rintro rfl
      refine ⟨Reach.one, ?_⟩
      rw [lnW, List.countP_eq_zero]
      intro b hb
      have : 0 ≤ prW n (ones n 1) b := dotN_pos fun k hk => ⟨by rw [ones_get hk]; omega, h.co.ge b hb k⟩
      rw [decide_eq_true_eq]
      omega
    · rintro ⟨hr, h0⟩
      exact hr.zero h.co h0
  | j + 1 => by
    obtain ⟨h1, h2⟩ := h.lev j
    obtain ⟨h3, h4⟩ := lvNext_ok (n := n) (d := d) (lev := lvAt n d j) (L := []) List.Pairwise.nil
    refine ⟨h3, fun v => ?_⟩
    rw [lvAt, lvNext, h4]
    constructor
    · rintro (hh | ⟨w, hw, i, hi, hp, rfl⟩)
      · simp at hh
      · obtain ⟨hr, hln⟩ := (h2 w).1 hw
        rw [h.rf hr hi]
        exact ⟨hr.step hi, by rw [(h.co.ln hi w (by omega)).1 hp, hln]⟩
    · rintro ⟨hr, hln⟩
      obtain ⟨i, p, hi, hrp, e, hp, _, hl2⟩ := hr.up h.co (by omega)
      exact .inr ⟨p, (h2 p).2 ⟨hrp, by omega⟩, i, hi, hp, by rw [h.rf hrp hi, e]⟩
theorem WlOk.orIn (h : WlOk n d R) {w : List Int} (hw : Reach n d w) {L : List (List Int)} (hL : ∀ v ∈ L, Reach n d v) : ∀ m : Nat, m ≤ n.toNat → ∀ v ∈ (List.range m).foldl (oOne n d w) L, Reach n d v
  | 0, _ => hL
  | m + 1, hm => by
    have ih := h.orIn hw hL m (by omega)
    rw [foldl_succ]
    intro v hv
    unfold oOne at hv
    split at hv
    · exact ih v hv
    · rcases List.mem_append.1 hv with hv | hv
      · exact ih v hv
      · rw [List.mem_singleton.1 hv, h.rf hw (by omega)]
        exact hw.step (by omega)
theorem WlOk.orC (h : WlOk n d R) : ∀ {f : Nat} {L : List (List Int)} {k : Nat}, (∀ v ∈ L, Reach n d v) → ∀ v ∈ oC n d f L k, Reach n d v
  | 0, _, _, hL => hL
  | f + 1, L, k, hL => by
    rw [oC]
    split
    · rename_i hk
      exact h.orC (h.orIn (hL _ (by rw [List.getD, List.getElem?_eq_getElem hk.1]; exact List.getElem_mem hk.1)) hL n.toNat (Nat.le_refl _))
    · exact hL
theorem WlOk.orR (h : WlOk n d R) : ∀ v ∈ oAll n d (ones n 1), Reach n d v := h.orC fun v hv => by
  rw [List.mem_singleton.1 hv]
  exact Reach.one
theorem WlOk.orLen (h : WlOk n d R) : (oAll n d (ones n 1)).length ≤ 1200 := h.few (oAll_nod _ _ _) h.orR
theorem oOne_has {w : List Int} {L : List (List Int)} {i : Nat} : rfF n d (i : Int) w ∈ oOne n d w L i := by
  unfold oOne
  split
  · rename_i hc
    exact List.contains_iff_mem.1 hc
  · simp
theorem oIn_has {w : List Int} {L : List (List Int)} {i m : Nat} (hi : i < m) : rfF n d (i : Int) w ∈ (List.range m).foldl (oOne n d w) L := by
  refine (oIn_pre (i := i + 1) (by omega)).mem ?_
  rw [foldl_succ]
  exact oOne_has
theorem oC_closed : ∀ {f : Nat} {L : List (List Int)} {k : Nat}, (oC n d f L k).length ≤ 1200 → 1201 ≤ f + k → k ≤ L.length → (∀ j, j < k → ∀ i : Nat, i < n.toNat → rfF n d (i : Int) (L.getD j []) ∈ L) → ∀ x ∈ oC n d f L k, ∀ i : Nat, i < n.toNat → rfF n d (i : Int) x ∈ oC n d f L k
  | 0, L, k, h1, h2, h3, _ => by
    rw [oC] at h1
    omega
  | f + 1, L, k, h1, h2, h3, h4 => by
    rw [oC] at h1 ⊢
    split at h1
    · rename_i hk
      rw [if_pos hk]
      have hp : Pre L (oAdd n d (L.getD k []) L) := oIn_pre (i := 0) (Nat.zero_le _)
      refine oC_closed h1 (by omega) (by have := hp.len; omega) fun j hj i hi => ?_
      rw [hp.get (by omega)]
      by_cases e : j = k
      · subst e
        exact oIn_has hi
      · exact hp.mem (h4 j (by omega) i hi)
    · rename_i hk
      rw [if_neg hk]
      intro x hx i hi
      obtain ⟨j, hj, e⟩ := List.getElem_of_mem hx
      have := h4 j (by omega) i hi
      rwa [show L.getD j [] = x by rw [List.getD, List.getElem?_eq_getElem hj]; exact e] at this
theorem WlOk.orAll (h : WlOk n d R) {v : List Int} (hr : Reach n d v) : v ∈ oAll n d (ones n 1) := by
  induction hr with
  | one => exact (oC_pre (L := [ones n 1])).mem (List.mem_singleton.2 rfl)
  | step hw hi ih =>
    rw [← h.rf hw hi]
    exact oC_closed (L := [ones n 1]) h.orLen (by omega) (by simp) (fun j hj => absurd hj (Nat.not_lt_zero j)) _ ih _ hi
def lvSum (n : Int) (d : List Int) : Nat → Nat
  | 0 => 0
  | m + 1 => lvSum n d m + (lvAt n d m).length
theorem len_split {α : Type} (f : α → Nat) : ∀ (m : Nat) {L : List α}, (L.filter fun x => decide (f x < m + 1)).length = (L.filter fun x => decide (f x < m)).length + (L.filter fun x => decide (f x = m)).length
  | m, [] => rfl
  | m, x :: t => by
    have ih := len_split f m (L := t)
    simp only [List.filter_cons]
    by_cases h1 : f x < m
    · rw [if_pos (by rw [decide_eq_true_eq]; omega), if_pos (by rw [decide_eq_true_eq]; omega), if_neg (by rw [decide_eq_true_eq]; omega)]
      simp only [List.length_cons]
      omega
    · by_cases h2 : f x = m
      · rw [if_pos (by rw [decide_eq_true_eq]; omega), if_neg (by rw [decide_eq_true_eq]; omega), if_pos (by rw [decide_eq_true_eq]; omega)]
        simp only [List.length_cons]
        omega
      · rw [if_neg (by rw [decide_eq_true_eq]; omega), if_neg (by rw [decide_eq_true_eq]; omega), if_neg (by rw [decide_eq_true_eq]; omega)]
        exact ih
theorem WlOk.part (h : WlOk n d R) (j : Nat) : ((oAll n d (ones n 1)).filter fun v => decide (lnW n R v = j)).length = (lvAt n d j).length := by
  obtain ⟨h1, h2⟩ := h.lev j
  refine Nat.le_antisymm (nodup_sub ((oAll_nod _ _ _).sublist List.filter_sublist) fun v hv => ?_) (nodup_sub h1.nod fun v hv => ?_)
  · obtain ⟨a, b⟩ := List.mem_filter.1 hv
    exact (h2 v).2 ⟨h.orR v a, of_decide_eq_true b⟩
  · obtain ⟨a, b⟩ := (h2 v).1 hv
    exact List.mem_filter.2 ⟨h.orAll a, decide_eq_true b⟩
theorem WlOk.below (h : WlOk n d R) : ∀ m : Nat, ((oAll n d (ones n 1)).filter fun v => decide (lnW n R v < m)).length = lvSum n d m
  | 0 => by
    rw [show (fun v => decide (lnW n R v < 0)) = fun _ => false from by funext v; exact decide_eq_false (Nat.not_lt_zero _)]
    simp [lvSum]
  | m + 1 => by
    rw [len_split, h.below m, h.part m, lvSum]
theorem lvAt_nil {j : Nat} (h : lvAt n d j = []) : ∀ k : Nat, lvAt n d (j + k) = []
  | 0 => h
  | k + 1 => by
    show lvNext n d (lvAt n d (j + k)) = []
    rw [lvAt_nil h k]
    rfl
theorem WlOk.short (h : WlOk n d R) {j : Nat} (hj : lvAt n d j ≠ []) : j ≤ 24 := by
  obtain ⟨v, hv⟩ := List.exists_mem_of_ne_nil _ hj
  have := ((h.lev j).2 v).1 hv
  have h2 := lnW_le h.co v
  omega
end
end Go.Proofs.YtmckgdekblphoaaGreatDoor
namespace Go.Proofs.YtmckgdekblphoaaGreatDoor
set_option linter.unusedVariables false
set_option linter.unusedSimpArgs false
open Go.RowKit
theorem lvOne_skip {n : Int} {d w : List Int} {L : List (List Int)} {i : Nat} (h : ¬ 0 < w.getD i 0) : L = lvOne n d w L i := by rw [lvOne, if_neg h]
theorem lvOne_no {n : Int} {d w : List Int} {L : List (List Int)} {i : Nat} (h : 0 < w.getD i 0) (hc : L.contains (rfF n d (i : Int) w) = true) : L = lvOne n d w L i := by rw [lvOne, if_pos h, if_pos hc]
theorem lvOne_yes {n : Int} {d w : List Int} {L : List (List Int)} {i : Nat} (h : 0 < w.getD i 0) (hc : L.contains (rfF n d (i : Int) w) = false) : insD L (rfF n d (i : Int) w) = lvOne n d w L i := by rw [lvOne, if_pos h, if_neg (by rw [hc]; decide)]
theorem lv_next {n : Int} {d : List Int} {x : List (List Int)} {k : Nat} (hk : k < x.length) : (x.take (k + 1)).foldl (lvRow n d) [] = (List.range n.toNat).foldl (lvOne n d (x.getD k [])) ((x.take k).foldl (lvRow n d) []) := by
  rw [List.take_add_one, List.getElem?_eq_getElem hk, Option.toList, List.foldl_append, List.getD, List.getElem?_eq_getElem hk]
  rfl
theorem insD_ent {L : List (List Int)} {y : List Int} {n : Int} (h : ∀ z ∈ L, (z.length : Int) = n) (hy : (y.length : Int) = n) : ∀ z ∈ insD L y, (z.length : Int) = n := fun z hz => by
  rcases List.mem_cons.1 ((insD_perm y L).mem_iff.1 hz) with rfl | hz
  · exact hy
  · exact h z hz
theorem zip_ins {α β : Type} {vs : List α} {xs : List β} {u : α} {x : β} {k : Nat} (hl : vs.length = xs.length) : ((vs ++ [u]).zip (xs ++ [x])).Perm ((vs.take k ++ [u] ++ vs.drop k).zip (xs.take k ++ [x] ++ xs.drop k)) := by
  have e2 : (vs.take k ++ [u] ++ vs.drop k).zip (xs.take k ++ [x] ++ xs.drop k) = (vs.zip xs).take k ++ [(u, x)] ++ (vs.zip xs).drop k := by
    rw [List.zip_append (by simp; omega), List.zip_append (by simp; omega)]
    simp only [List.zip, List.take_zipWith, List.drop_zipWith]
    rfl
  have e3 : (vs ++ [u]).zip (xs ++ [x]) = vs.zip xs ++ [(u, x)] := by
    rw [List.zip_append hl]
    rfl
  rw [e2, e3]
  have h := List.take_append_drop k (vs.zip xs)
  conv => lhs; rw [← h]
  rw [List.append_assoc, List.append_assoc]
  exact List.Perm.append_left _ List.perm_append_comm
section
variable {P : Program} {n : Nat} {env : List (Nat × Value)} {W : World} {own : List Asn}
theorem GE.manyIns {α : Type} {A : Value → α → Asn} {vs : List Value} {xs : List α} {u : Value} {x : α} (k : Nat) (hl : vs.length = xs.length) {e : Exit} {Q : Exit → Act → World → Prop} (h : GE e Q n env W (many A (vs.take k ++ [u] ++ vs.drop k) (xs.take k ++ [x] ++ xs.drop k) :: own)) : GE e Q n env W (A u x :: many A vs xs :: own) := GE.manyPush hl (GE.manyPerm (zip_ins hl) h)
def slenV : Value → Nat
  | .slice _ n _ => n
  | _ => 0
theorem Sl.slen {w : World} {v : Value} {m sz : Nat} {cs : List Value} (h : Sl w v m sz cs) : slenV v = m := by
  obtain ⟨_, ao, cap, rfl, _⟩ := h
  rfl
theorem OD.lenV {o : Oper} {x : Operand} {t e sz bytes : Nat} {z v : Value} {c : Call} (hop : o.op = .call c) (hc : c = { callee := .builtin .len, args := #[x], argTypes := #[t] }) (et : ET P t e sz bytes z) (hx : ev env x = some v) (hv : IsS v) : OD P o n env W own (.int .i64 (slenV v)) own :=
  .of fun a w hf hs => by
    obtain ⟨ao, m, cap, rfl⟩ := hv
    subst hc
    simp [execOp, hop, resolve, invoke, builtin, hf.ev hx, Builtin.len_, run_underlying et.ht, goInt, slenV]
theorem slen_own {i e m : Nat} {v : Value} {us : List Value} (h : own[i]? = some (row e 1 v us.length us)) (hm : us.length = m) : Ent own fun _ => slenV v = m := fun W w hs => by
  have := Sl.slen (Ent.row (own := own) (i := i) (e := e) (sz := 1) (n := us.length) (v := v) (cs := us) h W w hs)
  rw [this, hm]
end
section
variable {n : Int} {d : List Int} {R : List (List Int)}
theorem WlOk.levLen (h : WlOk n d R) (j : Nat) : (lvAt n d j).length ≤ 1200 := h.few (h.lev j).1.nod fun v hv => (((h.lev j).2 v).1 hv).1
theorem WlOk.levEnt (h : WlOk n d R) {j : Nat} {y : List Int} (hy : y ∈ lvAt n d j) : y.length = n.toNat := ((((h.lev j).2 y).1 hy).1.inv h.co).1
def lvU (n : Int) (d : List Int) (us : List Value) : Prop := lvAt n d us.length = [] ∧ us.length ≤ 25 ∧ (∀ k, k < us.length → slenV (us.getD k undef) = (lvAt n d k).length) ∧ ∀ k, k < us.length → lvAt n d k ≠ []
end
theorem lv_ne_next {n : Int} {d : List Int} {j : Nat} (h : ∀ q, q ≤ j → lvAt n d q ≠ []) (hl : (lvNext n d (lvAt n d j)).length ≠ 0) : ∀ q, q ≤ j + 1 → lvAt n d q ≠ [] := fun q hq => by
  by_cases e : q = j + 1
  · subst e
    intro hn
    exact hl (by rw [show lvNext n d (lvAt n d j) = lvAt n d (j + 1) from rfl, hn]; rfl)
  · exact h q (by omega)
theorem lv_sl_next {n : Int} {d : List Int} {j : Nat} {uo : List Value} {r : Value} (hl : uo.length = j + 1) (h : ∀ q, q < j + 1 → slenV (uo.getD q undef) = (lvAt n d q).length) (hr : slenV r = (lvNext n d (lvAt n d j)).length) : ∀ q, q < j + 1 + 1 → slenV ((uo ++ [r]).getD q undef) = (lvAt n d q).length := fun q hq => by
  by_cases e : q = j + 1
  · subst e
    rw [List.getD, List.getElem?_append_right (by omega), hl, Nat.sub_self]
    exact hr
  · rw [List.getD, List.getElem?_append_left (by omega)]
    exact h q (by omega)
theorem lvU_of {n : Int} {d : List Int} {j : Nat} {uo : List Value} (hl : uo.length = j + 1) (hj : j ≤ 24) (h : ∀ q, q < j + 1 → slenV (uo.getD q undef) = (lvAt n d q).length) (hne : ∀ q, q ≤ j → lvAt n d q ≠ []) (h0 : (lvNext n d (lvAt n d j)).length = 0) : lvU n d uo := by
  refine ⟨?_, by omega, fun k hk => h k (by omega), fun k hk => hne k (by omega)⟩
  rw [hl]
  exact List.eq_nil_of_length_eq_zero h0
theorem getD_snoc {uo : List Value} {r : Value} {j : Nat} (h : uo.length = j) : (uo ++ [r]).getD j undef = r := by
  rw [List.getD, List.getElem?_append_right (by omega), h, Nat.sub_self]
  rfl
theorem ones_64 {n : Int} : All64 (ones n 1) := fun y hy => by
  rw [(List.mem_replicate.1 hy).2]
  unfold I64
  omega
end Go.Proofs.YtmckgdekblphoaaGreatDoor
namespace Go.Proofs.YtmckgdekblphoaaGreatDoor
set_option linter.unusedVariables false
set_option linter.unusedSimpArgs false
end Go.Proofs.YtmckgdekblphoaaGreatDoor
