/-
  Roots and reflections: what the law on them asks, as both texts reckon it. No program is spoken of.
-/
import Derived.Test.YtgelkakjmbiibaaGreatDoorRcm
namespace Go.Proofs.YtgelkakjmbiibaaGreatDoor
set_option linter.unusedVariables false
set_option linter.unusedSimpArgs false
theorem getD_memR {L : List (List Int)} {k : Nat} (hk : k < L.length) : L.getD k [] ∈ L := by
  rw [List.getD_eq_getElem?_getD, List.getElem?_eq_getElem hk]
  exact List.getElem_mem _
theorem IsAt.eq {n : Int} {v w x r : List Int} {k : Int} (h : IsAt n v x k r) (g : IsAt n w x k r) : v = w := ext_getD (by have := h.1; have := g.1; omega) fun j hj => by
  have := h.1
  rw [h.2 j (by omega), g.2 j (by omega)]
theorem lpF_at {n : Int} {x r : List Int} {k : Int} (hx : (x.length : Int) = n) (hr : (r.length : Int) = n) (hxe : ∀ j, j < x.length → -1000 ≤ x.getD j 0 ∧ x.getD j 0 ≤ 1000) (hre : ten r) (hk : -4000000000 ≤ k ∧ k ≤ 4000000000) : IsAt n (lpF x k r) x k r := by
  refine ⟨by rw [lpF_len]; exact hx, fun j hj => ?_⟩
  have h1 := hxe j (by omega)
  have h2 := mul_abs (A := 4000000000) (B := 10) hk (hre j)
  rw [lpF_get (by omega) (by omega), wrap_in (x := k * r.getD j 0) (by omega) (by omega), wrap_in (by omega) (by omega)]
theorem ten_wt {n : Int} {x : List Int} (hx : (x.length : Int) = n) (h : ten x) : wtOk n x = true := wtOk_of hx fun k _ => by have := h k; omega
theorem ten_64 {x : List Int} (h : ten x) : All64 x := fun y hy => by
  obtain ⟨k, hk, rfl⟩ := List.getElem_of_mem hy
  have := h k
  rw [List.getD_eq_getElem?_getD, List.getElem?_eq_getElem hk, Option.getD_some] at this
  unfold I64
  omega
theorem wt_64 {n : Int} {x : List Int} (h : wtOk n x = true) : All64 x := fun y hy => by
  obtain ⟨k, hk, rfl⟩ := List.getElem_of_mem hy
  have := wtOk_ent h k hk
  rw [List.getD_eq_getElem?_getD, List.getElem?_eq_getElem hk, Option.getD_some] at this
  unfold I64
  omega
theorem dotN_dvd {q : Int} {x w : Nat → Int} : ∀ {m : Nat}, (∀ i, i < m → q ∣ 2 * w i) → q ∣ 2 * dotN x w m
  | 0, _ => by simp [dotN]
  | m + 1, h => by
    rw [dotN, Int.mul_add]
    refine Int.dvd_add (dotN_dvd fun i hi => h i (by omega)) ?_
    rw [Int.mul_left_comm]
    exact Int.dvd_mul_of_dvd_right (h m (by omega))
where
  Int.dvd_mul_of_dvd_right {a b c : Int} (h : a ∣ c) : a ∣ b * c := by
    obtain ⟨k, rfl⟩ := h
    exact ⟨b * k, by rw [Int.mul_left_comm]⟩
theorem ipg_rows {n : Int} {d l x r : List Int} : ipg n d l x r = dotN (x.getD · 0) (fun i => l.getD i 0 * dotN (fun k => atI n d i k) (r.getD · 0) n.toNat) n.toNat := by
  unfold ipg
  exact ipg_sym.dotN_congr' fun k hk => by rw [Int.mul_assoc]
theorem pr_ex {n : Int} {d x r : List Int} (hS : (tyS n d).isSome = true) (hr : rtB (rSt n d) r = true) (hx : wtOk n x = true) :
    prF n d x r * ipg n d (lenF n d) r r = 2 * ipg n d (lenF n d) x r ∧ -4000000000 ≤ prF n d x r ∧ prF n d x r ≤ 4000000000 := by
  have h := rtOk hS
  obtain ⟨r1, r2⟩ := h.tens hr
  have hwr := ten_wt r1 r2
  have hi := inF_bd hS hx hwr
  have h2 := rt_two hS hwr hr
  have hb := tdiv_abs (a := 2 * inF n d x r) (b := inF n d r r) (by omega) (A := 3456000000) (by omega)
  have e : prF n d x r = (2 * inF n d x r).tdiv (inF n d r r) := by rw [prF, wrap_in (x := 2 * inF n d x r) (by omega) (by omega), wrap_in (by omega) (by omega)]
  rw [e]
  refine ⟨?_, by omega⟩
  have hd : ipg n d (lenF n d) r r ∣ 2 * ipg n d (lenF n d) x r := by
    rw [ipg_rows (x := x)]
    exact dotN_dvd fun i hi => (rcQ hS hr).sim i hi
  rw [inF_ipg hS hx hwr, inF_ipg hS hwr hwr]
  exact Int.tdiv_mul_cancel hd
theorem dotN_bound {B C : Int} (hB : 0 ≤ B) (hC : 0 ≤ C) {x w : Nat → Int} : ∀ {m : Nat}, (∀ i, i < m → (-B ≤ x i ∧ x i ≤ B) ∧ -C ≤ w i ∧ w i ≤ C) → -(B * C * m) ≤ dotN x w m ∧ dotN x w m ≤ B * C * m
  | 0, _ => by simp [dotN]
  | m + 1, h => by
    obtain ⟨a, b⟩ := dotN_bound hB hC (m := m) fun i hi => h i (by omega)
    have h1 := h m (by omega)
    have h2 := mul_abs h1.1 h1.2
    rw [dotN, show ((m + 1 : Nat) : Int) = (m : Int) + 1 by omega, Int.mul_add, Int.mul_one]
    omega
theorem pr_small {n : Int} {d x r : List Int} (hS : (tyS n d).isSome = true) (hr : rtB (rSt n d) r = true) (hx : (x.length : Int) = n) (hb : ∀ j, -6 ≤ x.getD j 0 ∧ x.getD j 0 ≤ 6) : -72 ≤ prF n d x r ∧ prF n d x r ≤ 72 := by
  have h := rtOk hS
  have hrk := h.rk
  have hq := rcQ hS hr
  have hw : wtOk n x = true := wtOk_of hx fun k _ => by have := hb k; omega
  obtain ⟨e, _⟩ := pr_ex hS hr hw
  have hp := hq.pos
  have b1 := dotN_bound (B := 6) (C := 3 * ipg n d (lenF n d) r r) (by omega) (by omega) (x := (x.getD · 0)) (w := fun i => 2 * ((lenF n d).getD i 0 * dotN (fun k => atI n d i k) (r.getD · 0) n.toNat)) (m := n.toNat) fun i hi => ⟨hb i, by have := hq.bd i hi; omega⟩
  have e2 : dotN (x.getD · 0) (fun i => 2 * ((lenF n d).getD i 0 * dotN (fun k => atI n d i k) (r.getD · 0) n.toNat)) n.toNat = 2 * ipg n d (lenF n d) x r := by
    rw [ipg_rows (x := x), ← dotN_scale]
    exact ipg_sym.dotN_congr' fun k _ => by rw [Int.mul_left_comm, Int.mul_assoc]
  rw [e2, ← e] at b1
  generalize ipg n d (lenF n d) r r = q at *
  have b2 : 6 * (3 * q) * (n.toNat : Int) ≤ 72 * q := by
    have : 6 * (3 * q) * (n.toNat : Int) = (18 * (n.toNat : Int)) * q := by rw [show 6 * (3 * q) = 18 * q by omega, Int.mul_assoc, Int.mul_comm q, ← Int.mul_assoc]
    rw [this]
    exact Int.mul_le_mul_of_nonneg_right (by omega) (by omega)
  constructor
  · apply Classical.byContradiction
    intro hn
    have : prF n d x r * q ≤ -73 * q := Int.mul_le_mul_of_nonneg_right (by omega) (by omega)
    omega
  · apply Classical.byContradiction
    intro hn
    have : 73 * q ≤ prF n d x r * q := Int.mul_le_mul_of_nonneg_right (by omega) (by omega)
    omega
theorem rb_at {n : Int} {d x r : List Int} (hS : (tyS n d).isSome = true) (hr : rtB (rSt n d) r = true) (hx : wtOk n x = true) : rbOf n d r x = lpF x (-(prF n d x r)) r ∧ IsAt n (rbOf n d r x) x (-(prF n d x r)) r := by
  have h := rtOk hS
  obtain ⟨r1, r2⟩ := h.tens hr
  have hwr := ten_wt r1 r2
  have hi := inF_bd hS hx hwr
  have h2 := rt_two hS hwr hr
  obtain ⟨_, k1, k2⟩ := pr_ex hS hr hx
  have e : rbK n d x r = -(prF n d x r) := by
    rw [← refl_k hi h2, wrap_in (by omega) (by omega)]
    omega
  have e2 : rbOf n d r x = lpF x (-(prF n d x r)) r := by
    rw [rbOf, ← isRt_of (ten_64 r2), hS, hwr, hr, hx, e]
    rfl
  exact ⟨e2, by rw [e2]; exact lpF_at (wtOk_len hx) r1 (wtOk_ent hx) r2 (by omega)⟩
theorem pr_mn {n : Int} {d x r : List Int} (hS : (tyS n d).isSome = true) (hr : rtB (rSt n d) r = true) (hx : wtOk n x = true) (hmx : wtOk n (mnF x) = true) : prF n d (mnF x) r = -(prF n d x r) := by
  have hp := (rcQ hS hr).pos
  obtain ⟨e1, _⟩ := pr_ex hS hr hx
  obtain ⟨e2, _⟩ := pr_ex hS hr hmx
  rw [ipg_mnL] at e2
  have : (prF n d (mnF x) r + prF n d x r) * ipg n d (lenF n d) r r = 0 := by rw [Int.add_mul, e1, e2]; omega
  rcases Int.mul_eq_zero.1 this with h | h
  · omega
  · omega
theorem rc_two {n : Int} {d r : List Int} (hS : (tyS n d).isSome = true) (hr : rtB (rSt n d) r = true) : prF n d r r = 2 := by
  have h := rtOk hS
  obtain ⟨r1, r2⟩ := h.tens hr
  have hp := (rcQ hS hr).pos
  obtain ⟨e1, _⟩ := pr_ex hS hr (ten_wt r1 r2)
  exact Int.eq_of_mul_eq_mul_right (by omega) e1
theorem rb_root {n : Int} {d x r : List Int} (hS : (tyS n d).isSome = true) (hr : rtB (rSt n d) r = true) (hx : rtB (rSt n d) x = true) : rtB (rSt n d) (rbOf n d r x) = true := by
  have h := rtOk hS
  obtain ⟨r1, r2⟩ := h.tens hr
  obtain ⟨x1, x2⟩ := h.tens hx
  have hwx := ten_wt x1 x2
  have hat := (rb_at hS hr hwx).2
  have hp := (rcQ hS hr).pos
  by_cases h1 : x = r
  · subst h1
    rw [rc_two hS hr] at hat
    have : rbOf n d x x = mnF x := ext_getD (by rw [mnF_len']; have := hat.1; omega) fun j hj => by have := hat.1; rw [hat.2 j (by omega), mnF_get]; omega
    rw [this, rtB_mn]
    exact hx
  · by_cases h2 : x = mnF r
    · subst h2
      have e : prF n d (mnF r) r = -2 := by rw [pr_mn hS hr (ten_wt r1 r2) hwx, rc_two hS hr]
      rw [e] at hat
      have : rbOf n d r (mnF r) = r := ext_getD (by have := hat.1; omega) fun j hj => by have := hat.1; rw [hat.2 j (by omega), mnF_get]; omega
      rw [this]
      exact hr
    · obtain ⟨p, s, hps⟩ := rcS hS hr hx h1 h2
      obtain ⟨e, _⟩ := pr_ex hS hr hwx
      have hk : prF n d x r = (p : Int) - s := Int.eq_of_mul_eq_mul_right (by omega) (e.trans hps.eq.symm)
      rw [hk] at hat
      have hle := hps.le
      have got : ∀ {v : List Int} {k : Int}, IsAt n v x k r → k = -((p : Int) - s) → rtB (rSt n d) v = true → rtB (rSt n d) (rbOf n d r x) = true := fun hv hk2 hb => by
        subst hk2
        rw [hat.eq hv]
        exact hb
      rcases (by omega : (p : Int) - s = 0 ∨ (p : Int) - s < 0 ∨ 0 < (p : Int) - s) with h0 | h0 | h0
      · refine got (v := x) (k := 0) ⟨x1, fun j _ => by omega⟩ (by omega) hx
      · obtain ⟨v, hv, hb⟩ := hps.up (s - p - 1) (by omega)
        exact got hv (by omega) hb
      · obtain ⟨v, hv, hb⟩ := hps.dn (p - s - 1) (by omega)
        exact got hv (by omega) hb
theorem rb_wt {n : Int} {d y r : List Int} (hS : (tyS n d).isSome = true) (hr : rtB (rSt n d) r = true) (hy : (y.length : Int) = n) (hb : ∀ j, -6 ≤ y.getD j 0 ∧ y.getD j 0 ≤ 6) : wtOk n (rbOf n d r y) = true := by
  have h := rtOk hS
  obtain ⟨r1, r2⟩ := h.tens hr
  have hw : wtOk n y = true := wtOk_of hy fun k _ => by have := hb k; omega
  have hat := (rb_at hS hr hw).2
  have hk := pr_small hS hr hy hb
  refine wtOk_of hat.1 fun j hj => ?_
  have h1 := hb j
  have h2 := mul_abs (A := 72) (B := 10) (a := -(prF n d y r)) (by omega) (r2 j)
  rw [hat.2 j (by have := hat.1; omega)]
  omega
structure RcLaw (n : Int) (d r x y : List Int) : Prop where
  rt : isRt n d r = true
  rx : isRt n d x = true
  len : r.length = n.toNat ∧ x.length = n.toNat ∧ y.length = n.toNat
  all : All64 r ∧ All64 x ∧ All64 y ∧ All64 (rbOf n d r x) ∧ All64 (rbOf n d r y)
  wt : wtOk n y = true ∧ wtOk n x = true
  z1 : isRt n d (rbOf n d r x) = true
  z2 : rbOf n d r (rbOf n d r x) = x
  k1 : 2 * inOf n d x r = prOf n d x r * inOf n d r r
  k2 : -1728000000 ≤ inOf n d x r ∧ inOf n d x r ≤ 1728000000
  s1 : inOf n d x y = inOf n d y x
  s2 : inOf n d (rbOf n d r x) (rbOf n d r y) = inOf n d x y
  co : dotN ((crOf n d r).getD · 0) ((wtOf n d y).getD · 0) n.toNat = prOf n d y r
  cl : (crOf n d r).length = n.toNat ∧ (wtOf n d y).length = n.toNat
  cb : ∀ i, i < n.toNat → (-360 ≤ (crOf n d r).getD i 0 ∧ (crOf n d r).getD i 0 ≤ 360) ∧ -12000 ≤ (wtOf n d y).getD i 0 ∧ (wtOf n d y).getD i 0 ≤ 12000
  same : (x = r ∨ x = mnF r) → rsA n d r x (-1) = -1 ∧ rsA n d r x 1 = -1
  str : x ≠ r → x ≠ mnF r → rsA n d r x (-1) - rsA n d r x 1 = prOf n d x r ∧ rsA n d r x (-1) + rsA n d r x 1 ≤ 3 ∧ 0 ≤ rsA n d r x (-1) ∧ 0 ≤ rsA n d r x 1
  sum : (∀ j, j < n.toNat → x.getD j 0 + r.getD j 0 = 0) ↔ x = mnF r
  ent : (∀ j, -10 ≤ r.getD j 0 ∧ r.getD j 0 ≤ 10) ∧ ∀ j, -10 ≤ x.getD j 0 ∧ x.getD j 0 ≤ 10
theorem rs_run {n : Int} {d x r : List Int} (hS : (tyS n d).isSome = true) (hr : rtB (rSt n d) r = true) (hx : rtB (rSt n d) x = true) {k : Int} (hk : k = 1 ∨ k = -1) {p : Nat} (hp : p ≤ 3) (h1 : ∀ j, j < p → rtAt n d x (k * ((j : Int) + 1)) r) (h2 : ¬ rtAt n d x (k * ((p : Int) + 1)) r) : rsN n d x r k = p := by
  have h := rtOk hS
  obtain ⟨r1, r2⟩ := h.tens hr
  obtain ⟨x1, x2⟩ := h.tens hx
  have hat : ∀ m : Nat, m ≤ 5 → IsAt n (lpF x (k * (m : Int)) r) x (k * (m : Int)) r := fun m hm => lpF_at x1 r1 (fun j _ => by have := x2 j; omega) r2 (by rcases hk with rfl | rfl <;> omega)
  have key : ∀ m : Nat, m ≤ 5 → (fdB n (rKvs n d) (lpF x (k * (m : Int)) r) = true ↔ rtAt n d x (k * (m : Int)) r) := fun m hm => by
    rw [← h.any (lpF_all64 (ten_64 x2))]
    exact ⟨fun e => ⟨_, hat m hm, e⟩, fun ⟨v, hv, hb⟩ => by rw [(hat m hm).eq hv]; exact hb⟩
  rw [rsN]
  congr 1
  refine rch_is 40 0 p (Nat.zero_le _) (by omega) (fun j _ hj => ?_) ?_
  · have := (key (j + 1) (by omega)).2 (by rw [show ((j + 1 : Nat) : Int) = (j : Int) + 1 by omega]; exact h1 j hj)
    exact this
  · cases e : fdB n (rKvs n d) (lpF x (k * ((p + 1 : Nat) : Int)) r) with
    | false => rfl
    | true =>
      have := (key (p + 1) (by omega)).1 e
      rw [show ((p + 1 : Nat) : Int) = (p : Int) + 1 by omega] at this
      exact absurd this h2
theorem rcLaw {n : Int} {d r x y : List Int} (hS : (tyS n d).isSome = true) (hr : rtB (rSt n d) r = true) (hx : rtB (rSt n d) x = true) (hy : (y.length : Int) = n) (hb : ∀ j, -6 ≤ y.getD j 0 ∧ y.getD j 0 ≤ 6) : RcLaw n d r x y := by
  have h := rtOk hS
  have hlo := h.lo
  have hrk := h.rk
  obtain ⟨r1, r2⟩ := h.tens hr
  obtain ⟨x1, x2⟩ := h.tens hx
  have hwr := ten_wt r1 r2
  have hwx := ten_wt x1 x2
  have hwy : wtOk n y = true := wtOk_of hy fun k _ => by have := hb k; omega
  have hq := rcQ hS hr
  have hp := hq.pos
  have hz := rb_root hS hr hx
  obtain ⟨z1, z2⟩ := h.tens hz
  have hwz := ten_wt z1 z2
  have hwzy := rb_wt hS hr hy hb
  have irt : ∀ {v : List Int}, wtOk n v = true → rtB (rSt n d) v = true → isRt n d v = true := fun hw hv => by rw [← isRt_of (wt_64 hw), hS, hw, hv]; rfl
  have ir := irt hwr hr
  have ix := irt hwx hx
  have io : ∀ {u v : List Int}, wtOk n u = true → wtOk n v = true → inOf n d u v = ipg n d (lenF n d) u v := fun hu hv => by rw [inOf, hS, hu, hv, ← inF_ipg hS hu hv]; rfl
  have po : ∀ {u : List Int}, wtOk n u = true → prOf n d u r = prF n d u r := fun hu => by rw [prOf, ir, hu]; rfl
  have sy := ipg_sym (n := n) (d := d) (l := lenF n d) fun i hi j hj => ((cnOk hS).2.2.2.1 i hi).2 j hj
  have ax := (rb_at hS hr hwx).2
  have ay := (rb_at hS hr hwy).2
  have az := (rb_at hS hr hwz).2
  obtain ⟨ex, kx1, kx2⟩ := pr_ex hS hr hwx
  obtain ⟨ey, ky1, ky2⟩ := pr_ex hS hr hwy
  obtain ⟨ez, _⟩ := pr_ex hS hr hwz
  have hkz : prF n d (rbOf n d r x) r = -(prF n d x r) := by
    have e1 := ipg_linL (n := n) (d := d) (l := lenF n d) ax.2 r
    rw [e1, Int.mul_add, ← ex, Int.neg_mul] at ez
    refine Int.eq_of_mul_eq_mul_right (a := ipg n d (lenF n d) r r) (by omega) ?_
    rw [ez, Int.neg_mul]
    omega
  have hin := inF_bd hS hwx hwr
  have hq2 := hq.two
  have hin2 := inF_bd hS hwr hwr
  have ht2 := rt_two hS hwr hr
  have hl := rnOk hS
  have hcr : crOf n d r = crF n d r := by rw [crOf, ir]; rfl
  have hwt : wtOf n d y = wtF n d y := by rw [wtOf, hS, hwy]; rfl
  have hhalf : hfF n d r = ipg n d (lenF n d) r r / 2 := by
    have hb2 := tdiv_abs (a := inF n d r r) (b := 2) (by omega) (A := 2000000000) (by omega)
    rw [hfF, wrap_in (by omega) (by omega), inF_ipg hS hwr hwr, Int.tdiv_eq_ediv_of_nonneg (by omega)]
  have hh1 : 1 ≤ ipg n d (lenF n d) r r / 2 := by
    have := inF_ipg hS hwr hwr
    omega
  have ci : ∀ i, i < n.toNat → (crF n d r).getD i 0 * (ipg n d (lenF n d) r r / 2) = r.getD i 0 * (lenF n d).getD i 0 ∧ -360 ≤ (crF n d r).getD i 0 ∧ (crF n d r).getD i 0 ≤ 360 := fun i hi => by
    have hm := mul_abs (A := 10) (B := 36) (r2 i) (by have := hl.len i; omega : -36 ≤ (lenF n d).getD i 0 ∧ (lenF n d).getD i 0 ≤ 36)
    have hb2 := tdiv_abs (a := r.getD i 0 * (lenF n d).getD i 0) (b := ipg n d (lenF n d) r r / 2) hh1 (A := 360) (by omega)
    have e : (crF n d r).getD i 0 = (r.getD i 0 * (lenF n d).getD i 0).tdiv (ipg n d (lenF n d) r r / 2) := by
      have hir : i < r.length := by omega
      have : (crF n d r).getD i 0 = crI n d r i := by simp [crF, List.getD, hir]
      rw [this, crI, hhalf, wrap_in (x := r.getD i 0 * (lenF n d).getD i 0) (by omega) (by omega), wrap_in (by omega) (by omega)]
    rw [e]
    exact ⟨Int.tdiv_mul_cancel (hq.co i hi), by omega⟩
  have wi : ∀ i, i < n.toNat → (wtF n d y).getD i 0 = dotN (fun j => atI n d i j) (y.getD · 0) n.toNat ∧ -12000 ≤ (wtF n d y).getD i 0 ∧ (wtF n d y).getD i 0 ≤ 12000 := fun i hi => wtF_at h.mat (wtOk_ent hwy) (by omega) hrk hi
  refine ⟨ir, ix, ⟨by omega, by omega, by omega⟩, ⟨ten_64 r2, ten_64 x2, wt_64 hwy, ten_64 z2, wt_64 hwzy⟩, ⟨hwy, hwx⟩, irt hwz hz, ?_, ?_, ?_, ?_, ?_, ?_, ?_, ?_, ?_, ?_, ?_, r2, x2⟩
  · rw [hkz, Int.neg_neg] at az
    refine ext_getD (by have := az.1; omega) fun j hj => ?_
    have hj2 : j < n.toNat := by have := az.1; omega
    rw [az.2 j hj2, ax.2 j hj2, Int.neg_mul]
    omega
  · rw [io hwx hwr, io hwr hwr, po hwx, ex]
  · rw [inOf, hS, hwx, hwr]
    exact hin
  · rw [io hwx hwy, io hwy hwx]
    exact sy _ _
  · rw [io hwz hwzy, io hwx hwy, ipg_linL (n := n) (d := d) (l := lenF n d) ax.2, ipg_linR (n := n) (d := d) (l := lenF n d) ay.2, ipg_linR (n := n) (d := d) (l := lenF n d) ay.2]
    have e3 : 2 * ipg n d (lenF n d) r y = prF n d y r * ipg n d (lenF n d) r r := by rw [sy r y]; exact ey.symm
    generalize ipg n d (lenF n d) r r = q at *
    generalize ipg n d (lenF n d) x r = a at *
    generalize ipg n d (lenF n d) r y = b at *
    generalize prF n d x r = k at *
    generalize prF n d y r = m at *
    have f1 : 2 * (-m * a) = -(m * (k * q)) := by rw [Int.mul_left_comm, ← ex, Int.neg_mul]
    have f2 : 2 * (-k * (b + -m * q)) = -(k * (m * q)) + 2 * (k * (m * q)) := by
      rw [Int.mul_left_comm, Int.mul_add, e3, Int.neg_mul, Int.neg_mul, Int.mul_add, Int.mul_neg, Int.mul_neg, Int.mul_left_comm k 2]
      omega
    have f3 : m * (k * q) = k * (m * q) := Int.mul_left_comm _ _ _
    omega
  · rw [hcr, hwt, po hwy]
    have e1 : (dotN ((crF n d r).getD · 0) ((wtF n d y).getD · 0) n.toNat) * (ipg n d (lenF n d) r r / 2) = ipg n d (lenF n d) r y := by
      rw [Int.mul_comm, ← dotN_scale]
      show dotN _ _ _ = dotN (fun i => r.getD i 0 * (lenF n d).getD i 0) (fun i => dotN (fun k => atI n d i k) (y.getD · 0) n.toNat) n.toNat
      refine dotN_congr fun i hi => ⟨?_, (wi i hi).1⟩
      rw [Int.mul_comm, (ci i hi).1]
    have e2 : ipg n d (lenF n d) r r = 2 * (ipg n d (lenF n d) r r / 2) := by obtain ⟨t, ht⟩ := hq2; omega
    refine Int.eq_of_mul_eq_mul_right (a := ipg n d (lenF n d) r r) (by omega) ?_
    rw [ey, sy y r, ← e1, e2, Int.mul_left_comm]
    congr 2
    omega
  · rw [hcr, hwt]
    exact ⟨by simp [crF]; omega, wtF_len _ _ _⟩
  · rw [hcr, hwt]
    exact fun i hi => ⟨(ci i hi).2, (wi i hi).2⟩
  · intro hsm
    have : rsOk n d r x = false := by
      rw [rsOk, ir, ix]
      rcases hsm with rfl | rfl
      · rw [samB_of rfl]; rfl
      · rw [wt_minus hwr, samB_of (rfl : mnF r = mnF r)]; simp
    rw [rsA, rsA, this]
    exact ⟨rfl, rfl⟩
  · intro h1 h2
    have : rsOk n d r x = true := by
      rw [rsOk, ir, ix, wt_minus hwr, samB_not h1, samB_not h2]
      rfl
    obtain ⟨p, s, hps⟩ := rcS hS hr hx h1 h2
    have hle := hps.le
    have hk : prF n d x r = (p : Int) - s := Int.eq_of_mul_eq_mul_right (a := ipg n d (lenF n d) r r) (by omega) (ex.trans hps.eq.symm)
    have a1 : rsN n d x r (-1) = p := rs_run hS hr hx (.inr rfl) (by omega) (fun j hj => by rw [Int.neg_mul, Int.one_mul]; exact hps.dn j hj) (by rw [Int.neg_mul, Int.one_mul]; exact hps.dn0)
    have a2 : rsN n d x r 1 = s := rs_run hS hr hx (.inl rfl) (by omega) (fun j hj => by rw [Int.one_mul]; exact hps.up j hj) (by rw [Int.one_mul]; exact hps.up0)
    rw [rsA, rsA, this, if_pos rfl, if_pos rfl, a1, a2, po hwx, hk]
    omega
  · constructor
    · intro e
      refine ext_getD (by rw [mnF_len']; omega) fun j hj => ?_
      have := e j (by omega)
      rw [mnF_get]
      omega
    · intro e j hj
      rw [e, mnF_get]
      omega
theorem lp_sub6 {x y : List Int} {n : Int} (hx : x.length = n.toNat) (bx : ∀ q ∈ x, 0 ≤ q ∧ q < 7) (hy : y.length = n.toNat) (b : ∀ q ∈ y, 0 ≤ q ∧ q < 7) : (lpF x (-1) y).length = n.toNat ∧ ∀ q ∈ lpF x (-1) y, -6 ≤ q ∧ q ≤ 6 := by
  refine ⟨by rw [lpF_len, hx], fun q hq => ?_⟩
  obtain ⟨k, hk, e⟩ := List.getElem_of_mem hq
  have hk2 : k < x.length := by rwa [lpF_len] at hk
  have hg := fset_get (g := fun i (z : Int) => IntKind.i64.wrap (z + IntKind.i64.wrap (-1 * y.getD i 0))) (o := x) (m := y.length) (k := k) (by omega) hk2
  rw [if_pos (by omega)] at hg
  have e2 : (lpF x (-1) y).getD k 0 = q := by rw [List.getD, List.getElem?_eq_getElem hk, e]; rfl
  have h1 := bx (x.getD k 0) (by rw [List.getD, List.getElem?_eq_getElem hk2]; exact List.getElem_mem _)
  have h2 := b (y.getD k 0) (by rw [List.getD, List.getElem?_eq_getElem (by omega)]; exact List.getElem_mem _)
  rw [← e2]
  unfold lpF
  rw [hg, wrap_in (x := -1 * y.getD k 0) (by omega) (by omega), wrap_in (by omega) (by omega)]
  omega
theorem all_get {n : Int} {z : List Int} (h : z.length = n.toNat ∧ ∀ q ∈ z, -6 ≤ q ∧ q ≤ 6) : ∀ j, -6 ≤ z.getD j 0 ∧ z.getD j 0 ≤ 6 := fun j => by
  by_cases hj : j < z.length
  · rw [List.getD_eq_getElem?_getD, List.getElem?_eq_getElem hj, Option.getD_some]
    exact h.2 _ (List.getElem_mem hj)
  · simp [List.getD, List.getElem?_eq_none (Nat.le_of_not_lt hj)]
theorem dotN_part {B C : Int} (hB : 0 ≤ B) (hC : 0 ≤ C) {x w : Nat → Int} {n : Nat} (h : ∀ i, i < n → (-B ≤ x i ∧ x i ≤ B) ∧ -C ≤ w i ∧ w i ≤ C) {k : Nat} (hk : k ≤ n) (hn : n ≤ 4) : -(B * C * 4) ≤ dotN x w k ∧ dotN x w k ≤ B * C * 4 := by
  have h1 := dotN_bound hB hC (m := k) fun i hi => h i (by omega)
  have h2 : B * C * (k : Int) ≤ B * C * 4 := Int.mul_le_mul_of_nonneg_left (by omega) (Int.mul_nonneg hB hC)
  omega
end Go.Proofs.YtgelkakjmbiibaaGreatDoor
