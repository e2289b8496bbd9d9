/-
  Words at work on all weights, without limits: what a word does hangs on what it does to the weight of ones, where a table of the group says so. No program is spoken of.
-/
import Derived.Test.YtgelkakjmbiibaaGreatDoorZ22
namespace Go.Proofs.YtgelkakjmbiibaaGreatDoor
set_option linter.unusedVariables false
set_option linter.unusedSimpArgs false
def acN (n : Int) (d word w : List Int) : List Int := word.foldr (fun i o => rp n d i.toNat o) w
def rngW (n : Int) (word : List Int) : Prop := ∀ y ∈ word, 0 ≤ y ∧ y < n
theorem acN_len {n : Int} {d w : List Int} (hl : w.length = n.toNat) : ∀ word : List Int, (acN n d word w).length = n.toNat
  | [] => hl
  | i :: t => rp_len _ _ _ _
theorem acN_app (n : Int) (d u v w : List Int) : acN n d (u ++ v) w = acN n d u (acN n d v w) := by rw [acN, List.foldr_append]; rfl
def linI (n : Int) (f : List Int → List Int) : Prop := ∀ w : List Int, w.length = n.toNat → ∀ k, k < n.toNat → (f w).getD k 0 = dotN (w.getD · 0) (fun j => (f (unitL n.toNat j)).getD k 0) n.toNat
theorem dotN_units (w : Nat → Int) (k : Nat) : ∀ m : Nat, dotN w (fun j => if k = j then 1 else 0) m = if k < m then w k else 0
  | 0 => by simp [dotN]
  | m + 1 => by
    rw [dotN, dotN_units w k m]
    by_cases h : k = m
    · subst h
      simp
    · rw [if_neg h]
      by_cases h2 : k < m
      · rw [if_pos h2, if_pos (by omega)]
        omega
      · rw [if_neg h2, if_neg (by omega)]
        omega
theorem acN_lin {n : Int} {d : List Int} : ∀ {word : List Int}, rngW n word → linI n (acN n d word)
  | [], _ => fun w hw k hk => by
    show w.getD k 0 = _
    have e : dotN (w.getD · 0) (fun j => (unitL n.toNat j).getD k 0) n.toNat = dotN (w.getD · 0) (fun j => if k = j then 1 else 0) n.toNat := dotN_congr fun j hj => ⟨rfl, unitL_get hk⟩
    refine Eq.trans ?_ e.symm
    rw [dotN_units, if_pos hk]
  | i :: t, h => fun w hw k hk => by
    have ih := acN_lin (d := d) (word := t) fun y hy => h y (List.mem_cons_of_mem _ hy)
    have hi := h i List.mem_cons_self
    have e1 : ∀ v, (acN n d (i :: t) v).getD k 0 = (acN n d t v).getD k 0 - (acN n d t v).getD i.toNat 0 * atI n d k i.toNat := fun v => rp_get hk
    rw [e1, ih w hw k hk, ih w hw i.toNat (by omega)]
    have e2 : dotN (w.getD · 0) (fun j => (acN n d (i :: t) (unitL n.toNat j)).getD k 0) n.toNat = dotN (w.getD · 0) (fun j => (acN n d t (unitL n.toNat j)).getD k 0 - atI n d k i.toNat * (acN n d t (unitL n.toNat j)).getD i.toNat 0) n.toNat := dotN_congr fun j hj => ⟨rfl, by rw [e1, Int.mul_comm (atI n d k i.toNat)]⟩
    refine Eq.trans ?_ e2.symm
    rw [dotN_sub, Int.mul_comm]
theorem lin_eq {n : Int} {f g : List Int → List Int} (hf : linI n f) (hg : linI n g) (h : ∀ j, j < n.toNat → f (unitL n.toNat j) = g (unitL n.toNat j)) {w : List Int} (hw : w.length = n.toNat) (lf : (f w).length = n.toNat) (lg : (g w).length = n.toNat) : f w = g w := by
  refine ext_getD (by rw [lf, lg]) fun k hk => ?_
  rw [lf] at hk
  rw [hf w hw k hk, hg w hw k hk]
  exact dotN_congr fun j hj => ⟨rfl, by rw [h j hj]⟩
theorem dotN_abs {w c : Nat → Int} {A B : Int} (hA : 0 ≤ A) (hB : 0 ≤ B) : ∀ {m : Nat}, (∀ j, j < m → (-A ≤ w j ∧ w j ≤ A) ∧ -B ≤ c j ∧ c j ≤ B) → -(A * B * m) ≤ dotN w c m ∧ dotN w c m ≤ A * B * m
  | 0, _ => by simp [dotN]
  | m + 1, h => by
    have ih := dotN_abs hA hB (m := m) fun j hj => h j (by omega)
    obtain ⟨⟨h1, h2⟩, h3, h4⟩ := h m (by omega)
    have a1 := Int.mul_nonneg (show 0 ≤ A - w m by omega) (show 0 ≤ B - c m by omega)
    have a2 := Int.mul_nonneg (show 0 ≤ A + w m by omega) (show 0 ≤ B + c m by omega)
    have a3 := Int.mul_nonneg (show 0 ≤ A - w m by omega) (show 0 ≤ B + c m by omega)
    have a4 := Int.mul_nonneg (show 0 ≤ A + w m by omega) (show 0 ≤ B - c m by omega)
    simp only [Int.sub_mul, Int.mul_sub, Int.add_mul, Int.mul_add] at a1 a2 a3 a4
    have e : A * B * ((m + 1 : Nat) : Int) = A * B * m + A * B := by rw [Int.natCast_add, Int.mul_add]; simp
    rw [e, dotN]
    omega
structure GrOk (n : Int) (d : List Int) : Prop where
  n4 : n.toNat ≤ 4
  pos : 0 < n
  ents : ∀ i k : Nat, -3 ≤ atI n d i k ∧ atI n d i k ≤ 3
  same : ∀ w, Reach n d w → ∀ i : Nat, i < n.toNat → ∀ j, j < n.toNat → acN n d ((i : Int) :: nwF n d w) (unitL n.toNat j) = acN n d (nwF n d (rp n d i w)) (unitL n.toNat j)
  ent : ∀ w, Reach n d w → ∀ j, j < n.toNat → ∀ k, -10 ≤ (acN n d (nwF n d w) (unitL n.toNat j)).getD k 0 ∧ (acN n d (nwF n d w) (unitL n.toNat j)).getD k 0 ≤ 10
  down : ∀ w, Reach n d w → ∀ i : Nat, i < n.toNat → w.getD i 0 < 0 → ∀ j, j < n.toNat → (acN n d (nwF n d w) (unitL n.toNat j)).getD i 0 ≤ 0
section
variable {n : Int} {d : List Int} {R : List (List Int)}
theorem acN_reach {word : List Int} (h : rngW n word) : Reach n d (acN n d word (ones n 1)) := by
  induction word with
  | nil => exact Reach.one
  | cons i t ih =>
    have hi := h i List.mem_cons_self
    exact (ih fun y hy => h y (List.mem_cons_of_mem _ hy)).step (by omega)
theorem nw_rng (h : WlOk n d R) (hp : PhOk n d) {w : List Int} (hw : Reach n d w) : rngW n (nwF n d w) := (h.nw hp hw).2.2
theorem nw_one (h : WlOk n d R) (hp : PhOk n d) : nwF n d (ones n 1) = [] := by
  have h1 := (h.nw hp Reach.one).1
  rw [(((h.lev 0).2 _).1 (List.mem_singleton.2 rfl)).2] at h1
  exact List.eq_nil_of_length_eq_zero h1
theorem GrOk.norm (g : GrOk n d) (h : WlOk n d R) (hp : PhOk n d) : ∀ {word : List Int}, rngW n word → ∀ {x : List Int}, x.length = n.toNat → acN n d word x = acN n d (nwF n d (acN n d word (ones n 1))) x
  | [], _, x, _ => by
    show x = acN n d (nwF n d (ones n 1)) x
    rw [nw_one h hp]
    rfl
  | i :: t, hr, x, hx => by
    have hi := hr i List.mem_cons_self
    have ht : rngW n t := fun y hy => hr y (List.mem_cons_of_mem _ hy)
    have ih := g.norm h hp ht hx
    have hw := acN_reach (d := d) ht
    have e0 : acN n d (i :: t) x = rp n d i.toNat (acN n d t x) := rfl
    have ei : ((i.toNat : Nat) : Int) = i := by omega
    have hn := nw_rng h hp hw
    have hn2 := nw_rng h hp (hw.step (i := i.toNat) (by omega))
    have hc : rngW n (((i.toNat : Nat) : Int) :: nwF n d (acN n d t (ones n 1))) := fun y hy => by
      rcases List.mem_cons.1 hy with rfl | hy
      · omega
      · exact hn y hy
    rw [e0, ih]
    exact lin_eq (f := fun v => acN n d (((i.toNat : Nat) : Int) :: nwF n d (acN n d t (ones n 1))) v) (g := fun v => acN n d (nwF n d (rp n d i.toNat (acN n d t (ones n 1)))) v) (acN_lin hc) (acN_lin hn2) (fun j hj => g.same _ hw _ (by omega) j hj) hx (acN_len hx _) (acN_len hx _)
theorem GrOk.bound (g : GrOk n d) (h : WlOk n d R) (hp : PhOk n d) {word : List Int} (hr : rngW n word) {x : List Int} {B : Int} (hB : 0 ≤ B) (hx : x.length = n.toNat) (hb : ∀ k, k < n.toNat → -B ≤ x.getD k 0 ∧ x.getD k 0 ≤ B) {k : Nat} (hk : k < n.toNat) : -(40 * B) ≤ (acN n d word x).getD k 0 ∧ (acN n d word x).getD k 0 ≤ 40 * B := by
  have hw := acN_reach (d := d) hr
  rw [g.norm h hp hr hx, acN_lin (nw_rng h hp hw) x hx k hk]
  have h1 := dotN_abs (w := (x.getD · 0)) (c := fun j => (acN n d (nwF n d (acN n d word (ones n 1))) (unitL n.toNat j)).getD k 0) (A := B) (B := 10) hB (by omega) (m := n.toNat) fun j hj => ⟨hb j hj, g.ent _ hw j hj k⟩
  have h4 := g.n4
  have e : B * 10 * (n.toNat : Int) ≤ B * 10 * 4 := Int.mul_le_mul_of_nonneg_left (by omega) (by omega)
  omega
theorem rf_rp {i : Int} {x : List Int} {B : Int} (he : ∀ i k : Nat, -3 ≤ atI n d i k ∧ atI n d i k ≤ 3) (hB : 0 ≤ B ∧ B ≤ 1000000) (hl : x.length = n.toNat) (hb : ∀ k, k < n.toNat → -B ≤ x.getD k 0 ∧ x.getD k 0 ≤ B) (hi : 0 ≤ i ∧ i < n) : rfF n d i x = rp n d i.toNat x := by
  refine ext_getD (by rw [rfF_len, rp_len, hl]) fun k hk => ?_
  rw [rfF_len, hl] at hk
  rw [rfF_get (by omega), rp_get hk, show (k : Int) = ((k : Nat) : Int) from rfl]
  have h1 := hb k hk
  have h2 := hb i.toNat (by omega)
  have h3 := he k i.toNat
  have ei : ((i.toNat : Nat) : Int) = i := by omega
  rw [ei] at h3 ⊢
  have a1 := Int.mul_nonneg (show 0 ≤ B - x.getD i.toNat 0 by omega) (show 0 ≤ 3 - atI n d k i by omega)
  have a2 := Int.mul_nonneg (show 0 ≤ B + x.getD i.toNat 0 by omega) (show 0 ≤ 3 + atI n d k i by omega)
  have a3 := Int.mul_nonneg (show 0 ≤ B - x.getD i.toNat 0 by omega) (show 0 ≤ 3 + atI n d k i by omega)
  have a4 := Int.mul_nonneg (show 0 ≤ B + x.getD i.toNat 0 by omega) (show 0 ≤ 3 - atI n d k i by omega)
  simp only [Int.sub_mul, Int.mul_sub, Int.add_mul, Int.mul_add] at a1 a2 a3 a4
  rw [wrap_in (x := x.getD i.toNat 0 * atI n d k i) (by omega) (by omega), wrap_in (by omega) (by omega)]
theorem GrOk.act (g : GrOk n d) (h : WlOk n d R) (hp : PhOk n d) {x : List Int} {B : Int} (hB : 0 ≤ B ∧ B ≤ 20000) (hx : x.length = n.toNat) (hb : ∀ k, k < n.toNat → -B ≤ x.getD k 0 ∧ x.getD k 0 ≤ B) : ∀ {word : List Int}, rngW n word → actF n d word x = acN n d word x
  | [], _ => rfl
  | i :: t, hr => by
    have hi := hr i List.mem_cons_self
    have ht : rngW n t := fun y hy => hr y (List.mem_cons_of_mem _ hy)
    have ih := g.act h hp hB hx hb ht
    show rfF n d i (actF n d t x) = rp n d i.toNat (acN n d t x)
    rw [ih]
    exact rf_rp (B := 40 * B) g.ents (by omega) (acN_len hx _) (fun k hk => g.bound h hp ht hB.1 hx hb hk) hi
end
end Go.Proofs.YtgelkakjmbiibaaGreatDoor
