/-
  Words at work on lattice elements, without limits; weights of lattice elements. No program is spoken of.
-/
import Derived.Test.YtgelkakjmbiibaaGreatDoorZ23
import Derived.Test.YtgelkakjmbiibaaGreatDoorRts
namespace Go.Proofs.YtgelkakjmbiibaaGreatDoor
set_option linter.unusedVariables false
set_option linter.unusedSimpArgs false
def arN (n : Int) (d word x : List Int) : List Int := word.foldr (fun i o => rStep n d o i.toNat) x
theorem arN_len {n : Int} {d x : List Int} : ∀ word : List Int, (arN n d word x).length = x.length
  | [] => rfl
  | i :: t => (rStep_len _ _ _ _).trans (arN_len t)
theorem rStep_get {n : Int} {d x : List Int} {i k : Nat} (hl : x.length = n.toNat) (hi : i < n.toNat) : (rStep n d x i).getD k 0 = if k = i then x.getD k 0 - dotN (fun j => atI n d i j) (x.getD · 0) n.toNat else x.getD k 0 := by
  unfold rStep
  by_cases h : k = i
  · subst h
    rw [if_pos rfl, set_getD_eq (by omega)]
  · rw [if_neg h, set_getD_ne fun e => h e.symm]
theorem dotN_swap (c : Nat → Int) (f : Nat → Nat → Int) (w : Nat → Int) : ∀ m q : Nat, dotN c (fun j => dotN w (fun l => f l j) q) m = dotN w (fun l => dotN c (fun j => f l j) m) q
  | 0, q => by
    have : ∀ q : Nat, dotN w (fun _ => (0 : Int)) q = 0 := fun q => by
      induction q with
      | zero => rfl
      | succ q ih => rw [dotN, ih]; simp
    simp only [dotN]
    exact (this q).symm
  | m + 1, q => by
    rw [dotN, dotN_swap c f w m q]
    have : ∀ q : Nat, dotN w (fun l => dotN c (fun j => f l j) (m + 1)) q = dotN w (fun l => dotN c (fun j => f l j) m) q + c m * dotN w (fun l => f l m) q := fun q => by
      induction q with
      | zero => simp [dotN]
      | succ q ih =>
        rw [dotN, ih, dotN, dotN, dotN, Int.mul_add, Int.mul_add]
        have := Int.mul_left_comm (w q) (c m) (f q m)
        omega
    exact (this q).symm
theorem arN_lin {n : Int} {d : List Int} : ∀ {word : List Int}, rngW n word → linI n (arN n d word)
  | [], h => acN_lin (d := d) (word := []) h
  | i :: t, h => fun w hw k hk => by
    have ih := arN_lin (d := d) (word := t) fun y hy => h y (List.mem_cons_of_mem _ hy)
    have hi := h i List.mem_cons_self
    have e1 : ∀ v : List Int, v.length = n.toNat → (arN n d (i :: t) v).getD k 0 = (arN n d t v).getD k 0 - (if k = i.toNat then 1 else 0) * dotN (fun j => atI n d i.toNat j) ((arN n d t v).getD · 0) n.toNat := fun v hv => by
      refine (rStep_get ((arN_len t).trans hv) (by omega)).trans ?_
      by_cases e : k = i.toNat
      · rw [if_pos e, if_pos e]; omega
      · rw [if_neg e, if_neg e]; omega
    have ul : ∀ j, (unitL n.toNat j).length = n.toNat := fun j => by simp [unitL]
    rw [e1 w hw, ih w hw k hk]
    have e2 : dotN (fun j => atI n d i.toNat j) ((arN n d t w).getD · 0) n.toNat = dotN (w.getD · 0) (fun l => dotN (fun j => atI n d i.toNat j) (fun j => (arN n d t (unitL n.toNat l)).getD j 0) n.toNat) n.toNat := by
      rw [← dotN_swap]
      exact dotN_congr fun j hj => ⟨rfl, ih w hw j hj⟩
    rw [e2]
    have e3 : dotN (w.getD · 0) (fun j => (arN n d (i :: t) (unitL n.toNat j)).getD k 0) n.toNat = dotN (w.getD · 0) (fun j => (arN n d t (unitL n.toNat j)).getD k 0 - (if k = i.toNat then 1 else 0) * dotN (fun q => atI n d i.toNat q) ((arN n d t (unitL n.toNat j)).getD · 0) n.toNat) n.toNat := dotN_congr fun j hj => ⟨rfl, e1 _ (ul j)⟩
    refine Eq.trans ?_ e3.symm
    rw [dotN_sub]
structure GtOk (n : Int) (d : List Int) : Prop where
  d3 : ∀ y ∈ d, -3 ≤ y ∧ y ≤ 3
  same : ∀ w, Reach n d w → ∀ i : Nat, i < n.toNat → ∀ j, j < n.toNat → arN n d ((i : Int) :: nwF n d w) (unitL n.toNat j) = arN n d (nwF n d (rp n d i w)) (unitL n.toNat j)
  ent : ∀ w, Reach n d w → ∀ j, j < n.toNat → ∀ k, -10 ≤ (arN n d (nwF n d w) (unitL n.toNat j)).getD k 0 ∧ (arN n d (nwF n d w) (unitL n.toNat j)).getD k 0 ≤ 10
section
variable {n : Int} {d : List Int} {R : List (List Int)}
theorem GtOk.norm (g : GtOk n d) (h : WlOk n d R) (hp : PhOk n d) : ∀ {word : List Int}, rngW n word → ∀ {x : List Int}, x.length = n.toNat → arN n d word x = arN n d (nwF n d (acN n d word (ones n 1))) x
  | [], _, x, _ => by
    show x = arN n d (nwF n d (ones n 1)) x
    rw [nw_one h hp]
    rfl
  | i :: t, hr, x, hx => by
    have hi := hr i List.mem_cons_self
    have ht : rngW n t := fun y hy => hr y (List.mem_cons_of_mem _ hy)
    have ih := g.norm h hp ht hx
    have hw := acN_reach (d := d) ht
    have e0 : arN n d (i :: t) x = rStep n d (arN n d t x) i.toNat := rfl
    have ei : ((i.toNat : Nat) : Int) = i := by omega
    have hn := nw_rng h hp hw
    have hn2 := nw_rng h hp (hw.step (i := i.toNat) (by omega))
    have hc : rngW n (((i.toNat : Nat) : Int) :: nwF n d (acN n d t (ones n 1))) := fun y hy => by
      rcases List.mem_cons.1 hy with rfl | hy
      · omega
      · exact hn y hy
    rw [e0, ih]
    exact lin_eq (f := fun v => arN n d (((i.toNat : Nat) : Int) :: nwF n d (acN n d t (ones n 1))) v) (g := fun v => arN n d (nwF n d (rp n d i.toNat (acN n d t (ones n 1)))) v) (arN_lin hc) (arN_lin hn2) (fun j hj => g.same _ hw _ (by omega) j hj) hx ((arN_len _).trans hx) ((arN_len _).trans hx)
theorem GtOk.bound (g : GtOk n d) (h4 : n.toNat ≤ 4) (h : WlOk n d R) (hp : PhOk n d) {word : List Int} (hr : rngW n word) {x : List Int} {B : Int} (hB : 0 ≤ B) (hx : x.length = n.toNat) (hb : ∀ k, k < n.toNat → -B ≤ x.getD k 0 ∧ x.getD k 0 ≤ B) {k : Nat} (hk : k < n.toNat) : -(40 * B) ≤ (arN n d word x).getD k 0 ∧ (arN n d word x).getD k 0 ≤ 40 * B := by
  have hw := acN_reach (d := d) hr
  rw [g.norm h hp hr hx, arN_lin (nw_rng h hp hw) x hx k hk]
  have h1 := dotN_abs (w := (x.getD · 0)) (c := fun j => (arN n d (nwF n d (acN n d word (ones n 1))) (unitL n.toNat j)).getD k 0) (A := B) (B := 10) hB (by omega) (m := n.toNat) fun j hj => ⟨hb j hj, g.ent _ hw j hj k⟩
  have e : B * 10 * (n.toNat : Int) ≤ B * 10 * 4 := Int.mul_le_mul_of_nonneg_left (by omega) (by omega)
  omega
theorem GtOk.act (g : GtOk n d) (h4 : n.toNat ≤ 4) (h : WlOk n d R) (hp : PhOk n d) {x : List Int} {B : Int} (hB : 0 ≤ B ∧ B ≤ 25) (hx : x.length = n.toNat) (hb : ∀ k, k < n.toNat → -B ≤ x.getD k 0 ∧ x.getD k 0 ≤ B) : ∀ {word : List Int}, rngW n word → arF n d word x = arN n d word x
  | [], _ => rfl
  | i :: t, hr => by
    have hi := hr i List.mem_cons_self
    have ht : rngW n t := fun y hy => hr y (List.mem_cons_of_mem _ hy)
    have ih := g.act h4 h hp hB hx hb ht
    show arI n d i (arF n d t x) = rStep n d (arN n d t x) i.toNat
    rw [ih]
    have hl : (arN n d t x).length = n.toNat := (arN_len t).trans hx
    exact arI_step g.d3 (fun k hk => by have := g.bound h4 h hp ht hB.1 hx hb (show k < n.toNat by omega); omega) hl h4 (by omega)
end
end Go.Proofs.YtgelkakjmbiibaaGreatDoor
