/-
  Roots and reflections: the law, out of the check. No program is spoken of.
-/
import Derived.Test.YtbmnnbglipkidaaGreatDoorRck
import Derived.Test.YtbmnnbglipkidaaGreatDoorInv
namespace Go.Proofs.YtbmnnbglipkidaaGreatDoor
set_option linter.unusedVariables false
set_option linter.unusedSimpArgs false
theorem rch_out {f : Nat → Bool} : ∀ (k m : Nat), rch f k m ≤ m + k ∧ (∀ j, m ≤ j → j < rch f k m → f (j + 1) = true) ∧ (rch f k m < m + k → f (rch f k m + 1) = false)
  | 0, m => ⟨by simp [rch], fun j h1 h2 => by simp [rch] at h2; omega, fun h => by simp [rch] at h⟩
  | k + 1, m => by
    rw [rch]
    split
    · rename_i h
      obtain ⟨a, b, c⟩ := rch_out (f := f) k (m + 1)
      refine ⟨by omega, fun j h1 h2 => ?_, fun h3 => c (by omega)⟩
      by_cases e : j = m
      · rw [e]; exact h
      · exact b j (by omega) h2
    · rename_i h
      exact ⟨by omega, fun j h1 h2 => by omega, fun _ => by simpa using h⟩
theorem rch_is {f : Nat → Bool} : ∀ (k m p : Nat), m ≤ p → p < m + k → (∀ j, m ≤ j → j < p → f (j + 1) = true) → f (p + 1) = false → rch f k m = p
  | 0, m, p, h1, h2, _, _ => by omega
  | k + 1, m, p, h1, h2, h3, h4 => by
    rw [rch]
    by_cases e : m = p
    · subst e
      rw [h4]
      rfl
    · rw [h3 m (Nat.le_refl _) (by omega), if_pos rfl]
      exact rch_is k (m + 1) p (by omega) (by omega) (fun j a b => h3 j (by omega) b) h4
structure RcQ (n : Int) (d r : List Int) : Prop where
  pos : 0 < ipg n d (lenF n d) r r
  two : (2 : Int) ∣ ipg n d (lenF n d) r r
  sim : ∀ i, i < n.toNat → ipg n d (lenF n d) r r ∣ 2 * ((lenF n d).getD i 0 * dotN (fun k => atI n d i k) (r.getD · 0) n.toNat)
  bd : ∀ i, i < n.toNat → -(3 * ipg n d (lenF n d) r r) ≤ 2 * ((lenF n d).getD i 0 * dotN (fun k => atI n d i k) (r.getD · 0) n.toNat) ∧ 2 * ((lenF n d).getD i 0 * dotN (fun k => atI n d i k) (r.getD · 0) n.toNat) ≤ 3 * ipg n d (lenF n d) r r
  co : ∀ i, i < n.toNat → (ipg n d (lenF n d) r r) / 2 ∣ r.getD i 0 * (lenF n d).getD i 0
def IsAt (n : Int) (v x : List Int) (k : Int) (r : List Int) : Prop := (v.length : Int) = n ∧ ∀ j, j < n.toNat → v.getD j 0 = x.getD j 0 + k * r.getD j 0
def rtAt (n : Int) (d x : List Int) (k : Int) (r : List Int) : Prop := ∃ v, IsAt n v x k r ∧ rtB (rSt n d) v = true
structure RcS (n : Int) (d r x : List Int) (p s : Nat) : Prop where
  le : p + s ≤ 3
  eq : ((p : Int) - s) * ipg n d (lenF n d) r r = 2 * ipg n d (lenF n d) x r
  dn : ∀ j, j < p → rtAt n d x (-((j : Int) + 1)) r
  dn0 : ¬ rtAt n d x (-((p : Int) + 1)) r
  up : ∀ j, j < s → rtAt n d x ((j : Int) + 1) r
  up0 : ¬ rtAt n d x ((s : Int) + 1) r
theorem rcD_ipg {n : Int} {d l x r : List Int} : rcD n.toNat x (rcW n d l r) = ipg n d l x r := by
  unfold rcD ipg
  refine ipg_sym.dotN_congr' fun k hk => ?_
  have e : (rcW n d l r).getD k 0 = l.getD k 0 * dotN (fun j => atI n d k j) (r.getD · 0) n.toNat := by simp [rcW, List.getD, hk]
  rw [e, Int.mul_assoc]
theorem RtOk.tens {n : Int} {d x : List Int} (h : RtOk n d) (hx : rtB (rSt n d) x = true) : (x.length : Int) = n ∧ ten x := h.ent2 hx
theorem rtB_mn {L : List (List Int)} (x : List Int) : rtB L (mnF x) = rtB L x := by rw [rtB, rtB, mnF_mnF, Bool.or_comm]
theorem rcAll_iff {R : List (List Int)} {c : Nat} : c ∈ rcAll R ↔ ∃ y, rtB R y = true ∧ rcC y = c := by
  simp only [rcAll, List.mem_append, List.mem_map]
  constructor
  · rintro (⟨y, hy, e⟩ | ⟨y, hy, e⟩)
    · exact ⟨y, by rw [rtB, List.contains_iff_mem.2 hy]; rfl, e⟩
    · exact ⟨mnF y, by rw [rtB_mn, rtB, List.contains_iff_mem.2 hy]; rfl, e⟩
  · rintro ⟨y, hy, e⟩
    rw [rtB, Bool.or_eq_true] at hy
    rcases hy with hy | hy
    · exact .inl ⟨y, List.contains_iff_mem.1 hy, e⟩
    · exact .inr ⟨mnF y, List.contains_iff_mem.1 hy, by rw [mnF_mnF]; exact e⟩
theorem mem_at {n : Int} {d x r : List Int} (hS : (tyS n d).isSome = true) (hx : rtB (rSt n d) x = true) (hr : rtB (rSt n d) r = true) {m : Nat} (hm : m ≤ 4) :
    (memN (rcAll (rSt n d)) (m * rcC r) (rcC x + m * rcC []) = true ↔ rtAt n d x (-(m : Int)) r) ∧ (memN (rcAll (rSt n d)) (m * rcC []) (rcC x + m * rcC r) = true ↔ rtAt n d x (m : Int) r) := by
  have h := rtOk hS
  have hrk := h.rk
  obtain ⟨x1, x2⟩ := h.tens hx
  obtain ⟨r1, r2⟩ := h.tens hr
  have out : ∀ {v : List Int} {j : Nat}, (v.length : Int) = n → ¬ j < n.toNat → v.getD j 0 = 0 := fun {v j} hv hj => by simp [List.getD, List.getElem?_eq_none (show v.length ≤ j by omega)]
  have key : ∀ {y : List Int} {k : Int}, (y.length : Int) = n → ((∀ j, j < 4 → y.getD j 0 = x.getD j 0 + k * r.getD j 0) ↔ IsAt n y x k r) := fun {y k} hy => by
    constructor
    · intro e
      exact ⟨hy, fun j hj => e j (by omega)⟩
    · intro e j hj
      by_cases hn : j < n.toNat
      · exact e.2 j hn
      · rw [out hy hn, out x1 hn, out r1 hn]; simp
  constructor
  · rw [memN_iff]
    constructor
    · rintro ⟨c, hc, e⟩
      obtain ⟨y, hy, rfl⟩ := rcAll_iff.1 hc
      obtain ⟨y1, y2⟩ := h.tens hy
      have := (rc_mem x2 y2 r2 hm).1.1 e
      exact ⟨y, (key y1).1 fun j hj => by rw [this j hj, Int.neg_mul]; rfl, hy⟩
    · rintro ⟨y, hy, hb⟩
      obtain ⟨y1, y2⟩ := h.tens hb
      exact ⟨_, rcAll_iff.2 ⟨y, hb, rfl⟩, (rc_mem x2 y2 r2 hm).1.2 fun j hj => by rw [(key y1).2 hy j hj, Int.neg_mul]; rfl⟩
  · rw [memN_iff]
    constructor
    · rintro ⟨c, hc, e⟩
      obtain ⟨y, hy, rfl⟩ := rcAll_iff.1 hc
      obtain ⟨y1, y2⟩ := h.tens hy
      exact ⟨y, (key y1).1 ((rc_mem x2 y2 r2 hm).2.1 e), hy⟩
    · rintro ⟨y, hy, hb⟩
      obtain ⟨y1, y2⟩ := h.tens hb
      exact ⟨_, rcAll_iff.2 ⟨y, hb, rfl⟩, (rc_mem x2 y2 r2 hm).2.2 ((key y1).2 hy)⟩
theorem rcOk0 {n : Int} {d : List Int} (hS : (tyS n d).isSome = true) : (∀ i : Nat, i < n.toNat → atI n d i i = 2) ∧ (∀ r ∈ rSt n d, RcQ n d r) ∧ ∀ i, i < n.toNat → unitL n.toNat i ∈ rSt n d ∧ ∀ x ∈ rSt n d, x ≠ unitL n.toNat i → ∃ p s, RcS n d (unitL n.toNat i) x p s := by
  have hc := cnd_all chkRc_1 chkRc_2 chkRc_3 chkRc_4 chkRc_5 chkRc_6 chkRc_7 hS
  simp only [chkRc, rcLL_eq, rcL_eq, rcNs_eq, rcN_eq, rcZ_eq, List.all_eq_true, Bool.and_eq_true, List.mem_range, decide_eq_true_eq] at hc
  obtain ⟨⟨c1, c2⟩, c3⟩ := hc
  have hR : ∀ {x}, x ∈ rSt n d → rtB (rSt n d) x = true := fun hx => by rw [rtB, List.contains_iff_mem.2 hx]; rfl
  refine ⟨c1, fun r hr => ?_, fun i hi => ⟨List.contains_iff_mem.1 (c3 i hi).1, fun x hx hne => ?_⟩⟩
  · have h1 := c2 r hr
    simp only [rcQ1, rcZ_eq, Bool.and_eq_true, decide_eq_true_eq, List.all_eq_true, List.mem_range] at h1
    obtain ⟨⟨a1, a2⟩, a3⟩ := h1
    rw [rcD_ipg] at a1 a2 a3
    have ew : ∀ i, i < n.toNat → (rcW n d (lenF n d) r).getD i 0 = (lenF n d).getD i 0 * dotN (fun j => atI n d i j) (r.getD · 0) n.toNat := fun i hi => by simp [rcW, List.getD, hi]
    refine ⟨a1, Int.dvd_of_emod_eq_zero a2, fun i hi => ?_, fun i hi => ?_, fun i hi => Int.dvd_of_emod_eq_zero (a3 i hi).2⟩
    · rw [← ew i hi]
      exact Int.dvd_of_emod_eq_zero (a3 i hi).1.1.1
    · rw [← ew i hi]
      exact ⟨(a3 i hi).1.1.2, (a3 i hi).1.2⟩
  · have hr := List.contains_iff_mem.1 (c3 i hi).1
    have h2 := (c3 i hi).2 x hx
    generalize unitL n.toNat i = r at *
    simp only [rcOne, rcN_eq, Bool.or_eq_true, beq_iff_eq, Bool.and_eq_true, decide_eq_true_eq] at h2
    rcases h2 with h2 | ⟨h2, h3⟩
    · exact absurd h2 hne
    · have hle := Nat.le_of_ble_eq_true h2
      rw [rcD_ipg, rcD_ipg] at h3
      have hxr := hR hx
      have hrr := hR hr
      obtain ⟨_, p2, p3⟩ := rch_out (f := fun m => memN (rcAll (rSt n d)) (Nat.mul m (rcC r)) (Nat.add (rcC x) (Nat.mul m (rcC [])))) 4 0
      obtain ⟨_, s2, s3⟩ := rch_out (f := fun m => memN (rcAll (rSt n d)) (Nat.mul m (rcC [])) (Nat.add (rcC x) (Nat.mul m (rcC r)))) 4 0
      generalize rch (fun m => memN (rcAll (rSt n d)) (Nat.mul m (rcC r)) (Nat.add (rcC x) (Nat.mul m (rcC [])))) 4 0 = p at *
      generalize rch (fun m => memN (rcAll (rSt n d)) (Nat.mul m (rcC [])) (Nat.add (rcC x) (Nat.mul m (rcC r)))) 4 0 = s at *
      have hle2 : p + s ≤ 3 := hle
      refine ⟨p, s, hle2, h3, fun j hj => ?_, fun hn => ?_, fun j hj => ?_, fun hn => ?_⟩
      · have := (mem_at hS hxr hrr (m := j + 1) (by omega)).1.1 (p2 j (Nat.zero_le _) hj)
        rwa [show -(((j + 1 : Nat)) : Int) = -((j : Int) + 1) by omega] at this
      · have e := p3 (by omega)
        have := (mem_at hS hxr hrr (m := p + 1) (by omega)).1.2 (by rwa [show -(((p + 1 : Nat)) : Int) = -((p : Int) + 1) by omega])
        exact Bool.noConfusion (e.symm.trans this)
      · have := (mem_at hS hxr hrr (m := j + 1) (by omega)).2.1 (s2 j (Nat.zero_le _) hj)
        rwa [show (((j + 1 : Nat)) : Int) = (j : Int) + 1 by omega] at this
      · have e := s3 (by omega)
        have := (mem_at hS hxr hrr (m := s + 1) (by omega)).2.2 (by rwa [show (((s + 1 : Nat)) : Int) = (s : Int) + 1 by omega])
        exact Bool.noConfusion (e.symm.trans this)
theorem ipg_mnL {n : Int} {d l x y : List Int} : ipg n d l (mnF x) y = -(ipg n d l x y) := by
  have h := ipg_linL (n := n) (d := d) (l := l) (x := []) (y := x) (u := mnF x) (k := -1) (fun i _ => by rw [mnF_get]; simp) y
  have h0 : ipg n d l [] y = 0 := by
    have := ipg_linL (n := n) (d := d) (l := l) (x := []) (y := []) (u := []) (k := 1) (fun i _ => by simp) y
    omega
  rw [h, h0]
  omega
theorem ipg_mnR {n : Int} {d l x y : List Int} : ipg n d l x (mnF y) = -(ipg n d l x y) := by
  have h := ipg_linR (n := n) (d := d) (l := l) (x := []) (y := y) (u := mnF y) (k := -1) (fun i _ => by rw [mnF_get]; simp) x
  have h0 : ipg n d l x [] = 0 := by
    have := ipg_linR (n := n) (d := d) (l := l) (x := []) (y := []) (u := []) (k := 1) (fun i _ => by simp) x
    omega
  rw [h, h0]
  omega
theorem dot_mn {a : Nat → Int} {r : List Int} {m : Nat} : dotN a ((mnF r).getD · 0) m = -(dotN a (r.getD · 0) m) := by
  have : (fun k => (mnF r).getD k 0) = fun k => -(r.getD k 0) := funext fun k => mnF_get r k
  show dotN a (fun k => (mnF r).getD k 0) m = _
  rw [this]
  exact dotN_neg _ _ _
theorem RcQ.mn {n : Int} {d r : List Int} (h : RcQ n d r) : RcQ n d (mnF r) := by
  have e : ipg n d (lenF n d) (mnF r) (mnF r) = ipg n d (lenF n d) r r := by rw [ipg_mnL, ipg_mnR]; omega
  refine ⟨by rw [e]; exact h.pos, by rw [e]; exact h.two, fun i hi => ?_, fun i hi => ?_, fun i hi => ?_⟩
  · rw [e, dot_mn, Int.mul_neg, Int.mul_neg]
    exact Int.dvd_neg.2 (h.sim i hi)
  · rw [e, dot_mn, Int.mul_neg, Int.mul_neg]
    have := h.bd i hi
    omega
  · rw [e, mnF_get, Int.neg_mul]
    exact Int.dvd_neg.2 (h.co i hi)
theorem rc_sign {L : List (List Int)} {x : List Int} (h : rtB L x = true) : x ∈ L ∨ ∃ y ∈ L, x = mnF y := by
  rw [rtB, Bool.or_eq_true] at h
  rcases h with h | h
  · exact .inl (List.contains_iff_mem.1 h)
  · exact .inr ⟨mnF x, List.contains_iff_mem.1 h, (mnF_mnF x).symm⟩
theorem rcQ {n : Int} {d r : List Int} (hS : (tyS n d).isSome = true) (hr : rtB (rSt n d) r = true) : RcQ n d r := by
  rcases rc_sign hr with h | ⟨y, hy, rfl⟩
  · exact (rcOk0 hS).2.1 r h
  · exact ((rcOk0 hS).2.1 y hy).mn
def ciN (n : Int) (d : List Int) (i : Nat) (x : List Int) : Int := dotN (fun k => atI n d i k) (x.getD · 0) n.toNat
theorem rStep_at {n : Int} {d x : List Int} {i : Nat} (hx : (x.length : Int) = n) (hi : i < n.toNat) : IsAt n (rStep n d x i) x (-(ciN n d i x)) (unitL n.toNat i) := by
  refine ⟨by rw [rStep_len]; exact hx, fun j hj => ?_⟩
  rw [unitL_get hj, rStep]
  by_cases e : j = i
  · subst e
    rw [set_getD_eq (by omega), if_pos rfl, ciN]
    omega
  · rw [set_getD_ne (fun h => e h.symm), if_neg e]
    omega
theorem ciN_at {n : Int} {d v x r : List Int} {k : Int} {i : Nat} (h : IsAt n v x k r) : ciN n d i v = ciN n d i x + k * ciN n d i r := by
  unfold ciN
  rw [← dotN_linR]
  exact dotN_congr fun j hj => ⟨rfl, h.2 j hj⟩
theorem ciN_unit {n : Int} {d : List Int} {i j : Nat} (hj : j < n.toNat) : ciN n d i (unitL n.toNat j) = atI n d i j := by
  unfold ciN
  have e : dotN (fun k => atI n d i k) ((unitL n.toNat j).getD · 0) n.toNat = dotN (fun k => if k = j then 1 else 0) (fun k => atI n d i k) n.toNat := ipg_sym.dotN_congr' fun k hk => by
    show atI n d i k * (unitL n.toNat j).getD k 0 = _
    rw [unitL_get hk, Int.mul_comm]
  rw [e, dotN_unit, if_pos hj]
theorem ipg_unit {n : Int} {d l y : List Int} {i : Nat} (hi : i < n.toNat) : ipg n d l (unitL n.toNat i) y = l.getD i 0 * ciN n d i y := by
  unfold ipg
  have e : dotN (fun k => (unitL n.toNat i).getD k 0 * l.getD k 0) (fun k => dotN (fun j => atI n d k j) (y.getD · 0) n.toNat) n.toNat = dotN (fun k => if k = i then 1 else 0) (fun k => l.getD k 0 * dotN (fun j => atI n d k j) (y.getD · 0) n.toNat) n.toNat := ipg_sym.dotN_congr' fun k hk => by
    show (unitL n.toNat i).getD k 0 * l.getD k 0 * _ = _
    rw [unitL_get hk, Int.mul_assoc]
  rw [e, dotN_unit, if_pos hi]
  rfl
section
variable {n : Int} {d x y r : List Int} {i : Nat}
theorem rc_symm (hS : (tyS n d).isSome = true) (x y : List Int) : ipg n d (lenF n d) x y = ipg n d (lenF n d) y x := ipg_sym (fun i hi j hj => ((cnOk hS).2.2.2.1 i hi).2 j hj) x y
theorem ipg_step (hS : (tyS n d).isSome = true) (hx : (x.length : Int) = n) (hy : (y.length : Int) = n) (hi : i < n.toNat) : ipg n d (lenF n d) (rStep n d x i) (rStep n d y i) = ipg n d (lenF n d) x y := by
  have ax := rStep_at (d := d) hx hi
  have ay := rStep_at (d := d) hy hi
  have h2 := (rcOk0 hS).1 i hi
  have e1 : ipg n d (lenF n d) x (unitL n.toNat i) = (lenF n d).getD i 0 * ciN n d i x := by rw [rc_symm hS, ipg_unit hi]
  rw [ipg_linL (n := n) (d := d) (l := lenF n d) ax.2, ipg_linR (n := n) (d := d) (l := lenF n d) ay.2, ipg_linR (n := n) (d := d) (l := lenF n d) ay.2, e1, ipg_unit hi, ipg_unit hi, ciN_unit hi, h2]
  generalize ipg n d (lenF n d) x y = a
  generalize (lenF n d).getD i 0 = l
  generalize ciN n d i x = u
  generalize ciN n d i y = v
  have f1 : -v * (l * u) = -(u * (l * v)) := by rw [Int.neg_mul, Int.mul_left_comm v, Int.mul_left_comm u, Int.mul_comm v]
  have f2 : -u * (l * v + -v * (l * 2)) = -(u * (l * v)) + 2 * (u * (l * v)) := by
    have : -v * (l * 2) = -(2 * (l * v)) := by rw [Int.neg_mul, Int.mul_comm l, Int.mul_left_comm v, Int.mul_comm v]
    rw [this, Int.neg_mul, Int.mul_add, Int.mul_neg, Int.mul_left_comm u 2]
    omega
  omega
theorem rStep_two (hS : (tyS n d).isSome = true) (hx : (x.length : Int) = n) (hi : i < n.toNat) : rStep n d (rStep n d x i) i = x := by
  have ax := rStep_at (d := d) hx hi
  have ay := rStep_at (d := d) ax.1 hi
  have h2 := (rcOk0 hS).1 i hi
  have e := ciN_at (d := d) (i := i) ax
  rw [ciN_unit hi, h2] at e
  refine ext_getD (by have := ay.1; omega) fun j hj => ?_
  have hj2 : j < n.toNat := by have := ay.1; omega
  rw [ay.2 j hj2, ax.2 j hj2, e, unitL_get hj2]
  split <;> omega
theorem IsAt.step {v : List Int} {k : Int} (hx : (x.length : Int) = n) (hr : (r.length : Int) = n) (hi : i < n.toNat) (h : IsAt n v x k r) : IsAt n (rStep n d v i) (rStep n d x i) k (rStep n d r i) := by
  have av := rStep_at (d := d) h.1 hi
  have ax := rStep_at (d := d) hx hi
  have ar := rStep_at (d := d) hr hi
  refine ⟨av.1, fun j hj => ?_⟩
  rw [av.2 j hj, ax.2 j hj, ar.2 j hj, h.2 j hj, ciN_at (d := d) (i := i) h]
  generalize (unitL n.toNat i).getD j 0 = u
  generalize ciN n d i x = a
  generalize ciN n d i r = b
  have e1 : -(a + k * b) * u = -(a * u) - k * (b * u) := by rw [Int.neg_mul, Int.add_mul, Int.mul_assoc]; omega
  have e2 : k * (r.getD j 0 + -b * u) = k * r.getD j 0 - k * (b * u) := by rw [Int.mul_add, Int.neg_mul, Int.mul_neg]; omega
  have e3 : -a * u = -(a * u) := Int.neg_mul _ _
  rw [e1, e2, e3]
  omega
theorem rtAt_step (hS : (tyS n d).isSome = true) (hx : (x.length : Int) = n) (hr : (r.length : Int) = n) (hi : i < n.toNat) {k : Int} (h : rtAt n d x k r) : rtAt n d (rStep n d x i) k (rStep n d r i) := by
  obtain ⟨v, hv, hb⟩ := h
  exact ⟨_, hv.step hx hr hi, rt_step hS hi hb⟩
theorem rtAt_iff (hS : (tyS n d).isSome = true) (hx : (x.length : Int) = n) (hr : (r.length : Int) = n) (hi : i < n.toNat) {k : Int} : rtAt n d (rStep n d x i) k (rStep n d r i) ↔ rtAt n d x k r := by
  constructor
  · intro h
    have := rtAt_step hS (by rw [rStep_len]; exact hx) (by rw [rStep_len]; exact hr) hi h
    rwa [rStep_two hS hx hi, rStep_two hS hr hi] at this
  · exact rtAt_step hS hx hr hi
theorem RcS.step (hS : (tyS n d).isSome = true) (hx : (x.length : Int) = n) (hr : (r.length : Int) = n) (hi : i < n.toNat) {p s : Nat} (h : RcS n d (rStep n d r i) (rStep n d x i) p s) : RcS n d r x p s := by
  have he := h.eq
  rw [ipg_step hS hr hr hi, ipg_step hS hx hr hi] at he
  exact ⟨h.le, he, fun j hj => (rtAt_iff hS hx hr hi).1 (h.dn j hj), fun hn => h.dn0 ((rtAt_iff hS hx hr hi).2 hn), fun j hj => (rtAt_iff hS hx hr hi).1 (h.up j hj), fun hn => h.up0 ((rtAt_iff hS hx hr hi).2 hn)⟩
end
end Go.Proofs.YtbmnnbglipkidaaGreatDoor
