/-
  A check over all Cartan matrices of rank at most 4, laid together from its parts. No program is spoken of.
-/
import Derived.Test.YtbmnnbglipkidaaGreatDoorCarV
import Derived.Test.YtbmnnbglipkidaaGreatDoorRts
import Derived.Test.YtbmnnbglipkidaaGreatDoorZ12
import Derived.Test.YtbmnnbglipkidaaGreatDoorNewA
namespace Go.Proofs.YtbmnnbglipkidaaGreatDoor
set_option linter.unusedVariables false
set_option linter.unusedSimpArgs false
def cndP (chk : Int → List Int → Bool) (n a b : Nat) : Bool := (((candL n).drop a).take b).all fun d => chk n d
theorem cnd_len {n : Nat} (a : 1 ≤ n) (b : n ≤ 4) : (candL n).length ≤ 256 := four (P := fun n => (candL n).length ≤ 256) (by decide +kernel) (by decide +kernel) (by decide +kernel) (by decide +kernel) a b
theorem cnd_one {chk : Int → List Int → Bool} {n a b : Nat} (h : cndP chk n a b = true) {d : List Int} (hd : d ∈ (candL n).drop a) : chk n d = true ∨ d ∈ (candL n).drop (a + b) := by
  simp only [cndP, List.all_eq_true] at h
  rcases mem_parts b hd with h2 | h2
  · exact .inl (h d (by simpa using h2))
  · rw [List.drop_drop] at h2
    exact .inr h2
theorem cnd_all {chk : Int → List Int → Bool} (h1 : cndP chk 1 0 256 = true) (h2 : cndP chk 2 0 256 = true) (h3 : cndP chk 3 0 256 = true)
    (p0 : cndP chk 4 0 64 = true) (p1 : cndP chk 4 64 64 = true) (p2 : cndP chk 4 128 64 = true) (p3 : cndP chk 4 192 64 = true) {n : Int} {d : List Int} (h : (tyS n d).isSome = true) : chk n d = true := by
  obtain ⟨ks, hk⟩ := Option.isSome_iff_exists.1 h
  obtain ⟨m, rfl, a, b, hd⟩ := tyS_cand hk
  have hl := cnd_len a b
  have e : (candL m).drop 256 = [] := List.drop_of_length_le hl
  have h0 : d ∈ (candL m).drop 0 := by rwa [List.drop_zero]
  rcases (by omega : m = 1 ∨ m = 2 ∨ m = 3 ∨ m = 4) with rfl | rfl | rfl | rfl
  · rcases cnd_one h1 h0 with h | h
    · exact h
    · rw [Nat.zero_add, e] at h; simp at h
  · rcases cnd_one h2 h0 with h | h
    · exact h
    · rw [Nat.zero_add, e] at h; simp at h
  · rcases cnd_one h3 h0 with h | h
    · exact h
    · rw [Nat.zero_add, e] at h; simp at h
  · rcases cnd_one p0 h0 with h | h
    · exact h
    rcases cnd_one p1 h with h | h
    · exact h
    rcases cnd_one p2 h with h | h
    · exact h
    rcases cnd_one p3 h with h | h
    · exact h
    rw [e] at h
    simp at h
end Go.Proofs.YtbmnnbglipkidaaGreatDoor

namespace Go.Proofs.YtbmnnbglipkidaaGreatDoor
set_option linter.unusedVariables false
set_option linter.unusedSimpArgs false
def chkCn (n : Int) (d : List Int) : Bool := match tyS n d with
  | none => true
  | some ks => cF (tyN (some ks)) == some ks && ((rkS ks : Nat) : Int) == n && (lenF n d).length == n.toNat && ((List.range n.toNat).all fun i => inB ((lenF n d).getD i 0) 1 36 && (List.range n.toNat).all fun j => (lenF n d).getD i 0 * atI n d i j == (lenF n d).getD j 0 * atI n d j i) && (rSt n d).length == (rSt n (matOf ks).2).length
set_option maxRecDepth 100000 in
theorem chkCn_1 : cndP chkCn 1 0 256 = true := by decide +kernel
set_option maxRecDepth 100000 in
theorem chkCn_2 : cndP chkCn 2 0 256 = true := by decide +kernel
set_option maxRecDepth 100000 in
theorem chkCn_3 : cndP chkCn 3 0 256 = true := by decide +kernel
set_option maxRecDepth 100000 in
theorem chkCn_4 : cndP chkCn 4 0 64 = true := by decide +kernel
set_option maxRecDepth 100000 in
theorem chkCn_5 : cndP chkCn 4 64 64 = true := by decide +kernel
set_option maxRecDepth 100000 in
theorem chkCn_6 : cndP chkCn 4 128 64 = true := by decide +kernel
set_option maxRecDepth 100000 in
theorem chkCn_7 : cndP chkCn 4 192 64 = true := by decide +kernel
theorem cnOk {n : Int} {d : List Int} (h : (tyS n d).isSome = true) : cR (tyN (tyS n d)) = n ∧ cF (tyN (tyS n d)) = tyS n d ∧ (lenF n d).length = n.toNat ∧ (∀ i, i < n.toNat → (1 ≤ (lenF n d).getD i 0 ∧ (lenF n d).getD i 0 ≤ 36) ∧ ∀ j, j < n.toNat → (lenF n d).getD i 0 * atI n d i j = (lenF n d).getD j 0 * atI n d j i) ∧ (rSt n d).length = (rSt n (cD (tyN (tyS n d)))).length := by
  have hc := cnd_all chkCn_1 chkCn_2 chkCn_3 chkCn_4 chkCn_5 chkCn_6 chkCn_7 h
  obtain ⟨ks, hk⟩ := Option.isSome_iff_exists.1 h
  rw [chkCn, hk] at hc
  simp only [Bool.and_eq_true, beq_iff_eq, List.all_eq_true, List.mem_range] at hc
  obtain ⟨⟨⟨⟨a, b⟩, c⟩, e⟩, f⟩ := hc
  rw [hk]
  refine ⟨by rw [cR, a]; exact b, a, c, fun i hi => ⟨inB_true (e i hi).1, (e i hi).2⟩, by rw [cD, a]; exact f⟩
end Go.Proofs.YtbmnnbglipkidaaGreatDoor

namespace Go.Proofs.YtbmnnbglipkidaaGreatDoor
set_option linter.unusedVariables false
set_option linter.unusedSimpArgs false
def rch (p : Nat → Bool) : Nat → Nat → Nat
  | 0, m => m
  | f + 1, m => if p (m + 1) then rch p f (m + 1) else m
theorem rch_step {p : Nat → Bool} {m : Nat} (hm : m < 40) (h : p (m + 1) = true) : rch p (40 - (m + 1)) (m + 1) = rch p (40 - m) m := by
  rw [show 40 - m = (40 - (m + 1)) + 1 by omega, rch, if_pos h]
theorem rch_end {p : Nat → Bool} {m : Nat} (hm : m < 40) (h : p (m + 1) = false) : rch p (40 - m) m = m := by
  rw [show 40 - m = (40 - (m + 1)) + 1 by omega, rch, h]
  rfl
theorem rch_le {p : Nat → Bool} {m : Nat} (hm : m ≤ 20) (h : p (m + 1) = true) (hb : p 21 = false) : m + 1 ≤ 20 := by
  by_cases e : m = 20
  · subst e
    rw [hb] at h
    cases h
  · omega
theorem lpF_get {x y : List Int} {k : Int} {j : Nat} (hj : j < x.length) (hl : y.length = x.length) : (lpF x k y).getD j 0 = IntKind.i64.wrap (x.getD j 0 + IntKind.i64.wrap (k * y.getD j 0)) := by
  have hg := fset_get (g := fun i (z : Int) => IntKind.i64.wrap (z + IntKind.i64.wrap (k * y.getD i 0))) (o := x) (m := y.length) (k := j) (by omega) hj
  rw [if_pos (by omega)] at hg
  exact hg
theorem RtOk.ent2 {n : Int} {d : List Int} (h : RtOk n d) {x : List Int} (hx : rtB (rSt n d) x = true) : (x.length : Int) = n ∧ ∀ j, -10 ≤ x.getD j 0 ∧ x.getD j 0 ≤ 10 := by
  have hlo := h.lo
  rw [rtB, Bool.or_eq_true] at hx
  rcases hx with hx | hx
  · obtain ⟨h1, h2⟩ := h.smem (List.contains_iff_mem.1 hx)
    exact ⟨by omega, fun j => by have := h2 j; omega⟩
  · obtain ⟨h1, h2⟩ := h.smem (List.contains_iff_mem.1 hx)
    rw [mnF_len] at h1
    exact ⟨by omega, fun j => by have := h2 j; rw [mnF_get] at this; omega⟩
theorem RtOk.any {n : Int} {d : List Int} (h : RtOk n d) {x : List Int} (h64 : All64 x) : rtB (rSt n d) x = fdB n (rKvs n d) x := by
  rw [h.rt h64]
  cases e : rtB (rSt n d) x with
  | false => rw [Bool.and_false]
  | true =>
    obtain ⟨h1, h2⟩ := h.ent2 e
    rw [wtOk_of h1 fun k _ => by have := h2 k; omega]
    rfl
theorem RtOk.nz {n : Int} {d : List Int} (h : RtOk n d) (hn : RnOk n d) {x : List Int} (hx : rtB (rSt n d) x = true) : ∃ j, j < x.length ∧ x.getD j 0 ≠ 0 := by
  rw [rtB, Bool.or_eq_true] at hx
  rcases hx with hx | hx
  · obtain ⟨k, hk, h1⟩ := hn.nz _ (List.contains_iff_mem.1 hx)
    exact ⟨k, hk, by omega⟩
  · obtain ⟨k, hk, h1⟩ := hn.nz _ (List.contains_iff_mem.1 hx)
    rw [mnF_len] at hk
    rw [mnF_get] at h1
    exact ⟨k, hk, by omega⟩
theorem rs_stop {n : Int} {d x y : List Int} (hS : (tyS n d).isSome = true) (hx : rtB (rSt n d) x = true) (hy : rtB (rSt n d) y = true) (hx64 : All64 x) {k : Int} (hk : k = 1 ∨ k = -1) : fdB n (rKvs n d) (lpF x (k * ((21 : Nat) : Int)) y) = false := by
  have h := rtOk hS
  obtain ⟨x1, x2⟩ := h.ent2 hx
  obtain ⟨y1, y2⟩ := h.ent2 hy
  obtain ⟨j, hj, hjn⟩ := h.nz (rnOk hS) hy
  cases e : fdB n (rKvs n d) (lpF x (k * ((21 : Nat) : Int)) y) with
  | false => rfl
  | true =>
    exfalso
    rw [← h.any (lpF_all64 hx64)] at e
    have h3 := (h.ent2 e).2 j
    rw [lpF_get (by omega) (by omega)] at h3
    have h4 := x2 j
    have h5 := y2 j
    rcases hk with rfl | rfl
    · rw [wrap_in (x := 1 * ((21 : Nat) : Int) * y.getD j 0) (by omega) (by omega), wrap_in (by omega) (by omega)] at h3
      omega
    · rw [wrap_in (x := -1 * ((21 : Nat) : Int) * y.getD j 0) (by omega) (by omega), wrap_in (by omega) (by omega)] at h3
      omega
def rsN (n : Int) (d x y : List Int) (k : Int) : Int := (rch (fun (m : Nat) => fdB n (rKvs n d) (lpF x (k * (m : Int)) y)) 40 0 : Nat)
def rsOk (n : Int) (d y x : List Int) : Bool := isRt n d y && isRt n d x && !samB x y && !samB x (ngF y)
def rsA (n : Int) (d y x : List Int) (k : Int) : Int := if rsOk n d y x then rsN n d x y k else -1
theorem mn_ten {y : List Int} (h : ∀ j, -10 ≤ y.getD j 0 ∧ y.getD j 0 ≤ 10) : ∀ j, -10 ≤ (mnF y).getD j 0 ∧ (mnF y).getD j 0 ≤ 10 := fun j => by
  have := h j
  rw [mnF_get]
  omega
end Go.Proofs.YtbmnnbglipkidaaGreatDoor

namespace Go.Proofs.YtbmnnbglipkidaaGreatDoor
set_option linter.unusedVariables false
set_option linter.unusedSimpArgs false
def rcN {α : Type} (n : Nat) (k : Nat → α) : α := match n with
  | 0 => k 0
  | m + 1 => k (m + 1)
theorem rcN_eq {α : Type} (n : Nat) (k : Nat → α) : rcN n k = k n := by cases n <;> rfl
def rcZ {α : Type} (x : Int) (k : Int → α) : α := match x with
  | .ofNat n => rcN n fun m => k (.ofNat m)
  | .negSucc n => rcN n fun m => k (.negSucc m)
theorem rcZ_eq {α : Type} (x : Int) (k : Int → α) : rcZ x k = k x := by
  cases x with
  | ofNat n => exact rcN_eq n fun m => k (.ofNat m)
  | negSucc n => exact rcN_eq n fun m => k (.negSucc m)
def rcL {α : Type} : List Int → (List Int → α) → α
  | [], k => k []
  | x :: t, k => rcZ x fun y => rcL t fun s => k (y :: s)
theorem rcL_eq {α : Type} : ∀ (l : List Int) (k : List Int → α), rcL l k = k l
  | [], _ => rfl
  | x :: t, k => by rw [rcL, rcZ_eq, rcL_eq t]
def rcLL {α : Type} : List (List Int) → (List (List Int) → α) → α
  | [], k => k []
  | x :: t, k => rcL x fun y => rcLL t fun s => k (y :: s)
theorem rcLL_eq {α : Type} : ∀ (l : List (List Int)) (k : List (List Int) → α), rcLL l k = k l
  | [], _ => rfl
  | x :: t, k => by rw [rcLL, rcL_eq, rcLL_eq t]
def rcNs {α : Type} : List Nat → (List Nat → α) → α
  | [], k => k []
  | x :: t, k => rcN x fun y => rcNs t fun s => k (y :: s)
theorem rcNs_eq {α : Type} : ∀ (l : List Nat) (k : List Nat → α), rcNs l k = k l
  | [], _ => rfl
  | x :: t, k => by rw [rcNs, rcN_eq, rcNs_eq t]
def rcC (x : List Int) : Nat := ((x.getD 0 0 + 512) + 1024 * (x.getD 1 0 + 512) + 1048576 * (x.getD 2 0 + 512) + 1073741824 * (x.getD 3 0 + 512)).toNat
def memN (C : List Nat) (a b : Nat) : Bool := C.any fun c => Nat.beq (Nat.add c a) b
def ten (x : List Int) : Prop := ∀ j, -10 ≤ x.getD j 0 ∧ x.getD j 0 ≤ 10
theorem rcC_cast {x : List Int} (h : ten x) : ((rcC x : Nat) : Int) = (x.getD 0 0 + 512) + 1024 * (x.getD 1 0 + 512) + 1048576 * (x.getD 2 0 + 512) + 1073741824 * (x.getD 3 0 + 512) := by
  have h0 := h 0
  have h1 := h 1
  have h2 := h 2
  have h3 := h 3
  rw [rcC]
  omega
theorem ten_nil : ten [] := fun j => by simp
theorem rc_digs {a b c e : Int} (ha : -100 ≤ a ∧ a ≤ 100) (hb : -100 ≤ b ∧ b ≤ 100) (hc : -100 ≤ c ∧ c ≤ 100) (he : -100 ≤ e ∧ e ≤ 100) (h : a + 1024 * b + 1048576 * c + 1073741824 * e = 0) : a = 0 ∧ b = 0 ∧ c = 0 ∧ e = 0 := by
  have h0 : a = 0 := by omega
  subst h0
  have h1 : b = 0 := by omega
  subst h1
  have h2 : c = 0 := by omega
  subst h2
  exact ⟨rfl, rfl, rfl, by omega⟩
theorem rc_mem {x y r : List Int} (hx : ten x) (hy : ten y) (hr : ten r) {m : Nat} (hm : m ≤ 4) :
    (rcC y + m * rcC r = rcC x + m * rcC [] ↔ ∀ k, k < 4 → y.getD k 0 = x.getD k 0 - m * r.getD k 0) ∧ (rcC y + m * rcC [] = rcC x + m * rcC r ↔ ∀ k, k < 4 → y.getD k 0 = x.getD k 0 + m * r.getD k 0) := by
  have cx := rcC_cast hx
  have cy := rcC_cast hy
  have cr := rcC_cast hr
  have c0 := rcC_cast ten_nil
  simp only [List.getD_nil] at c0
  have x0 := hx 0
  have x1 := hx 1
  have x2 := hx 2
  have x3 := hx 3
  have y0 := hy 0
  have y1 := hy 1
  have y2 := hy 2
  have y3 := hy 3
  have r0 := hr 0
  have r1 := hr 1
  have r2 := hr 2
  have r3 := hr 3
  have all : ∀ {p : Nat → Prop}, (∀ k, k < 4 → p k) ↔ p 0 ∧ p 1 ∧ p 2 ∧ p 3 := fun {p} => ⟨fun h => ⟨h 0 (by omega), h 1 (by omega), h 2 (by omega), h 3 (by omega)⟩, fun h k hk => by
    rcases (by omega : k = 0 ∨ k = 1 ∨ k = 2 ∨ k = 3) with rfl | rfl | rfl | rfl
    · exact h.1
    · exact h.2.1
    · exact h.2.2.1
    · exact h.2.2.2⟩
  rw [all, all]
  have dn : ∀ {m : Nat}, m ≤ 4 → rcC y + m * rcC r = rcC x + m * rcC [] → _ := fun {m} hm h => rc_digs (a := y.getD 0 0 - x.getD 0 0 + m * r.getD 0 0) (b := y.getD 1 0 - x.getD 1 0 + m * r.getD 1 0) (c := y.getD 2 0 - x.getD 2 0 + m * r.getD 2 0) (e := y.getD 3 0 - x.getD 3 0 + m * r.getD 3 0)
    (by rcases (by omega : m = 0 ∨ m = 1 ∨ m = 2 ∨ m = 3 ∨ m = 4) with rfl | rfl | rfl | rfl | rfl <;> omega) (by rcases (by omega : m = 0 ∨ m = 1 ∨ m = 2 ∨ m = 3 ∨ m = 4) with rfl | rfl | rfl | rfl | rfl <;> omega)
    (by rcases (by omega : m = 0 ∨ m = 1 ∨ m = 2 ∨ m = 3 ∨ m = 4) with rfl | rfl | rfl | rfl | rfl <;> omega) (by rcases (by omega : m = 0 ∨ m = 1 ∨ m = 2 ∨ m = 3 ∨ m = 4) with rfl | rfl | rfl | rfl | rfl <;> omega)
    (by rcases (by omega : m = 0 ∨ m = 1 ∨ m = 2 ∨ m = 3 ∨ m = 4) with rfl | rfl | rfl | rfl | rfl <;> omega)
  have up : ∀ {m : Nat}, m ≤ 4 → rcC y + m * rcC [] = rcC x + m * rcC r → _ := fun {m} hm h => rc_digs (a := y.getD 0 0 - x.getD 0 0 - m * r.getD 0 0) (b := y.getD 1 0 - x.getD 1 0 - m * r.getD 1 0) (c := y.getD 2 0 - x.getD 2 0 - m * r.getD 2 0) (e := y.getD 3 0 - x.getD 3 0 - m * r.getD 3 0)
    (by rcases (by omega : m = 0 ∨ m = 1 ∨ m = 2 ∨ m = 3 ∨ m = 4) with rfl | rfl | rfl | rfl | rfl <;> omega) (by rcases (by omega : m = 0 ∨ m = 1 ∨ m = 2 ∨ m = 3 ∨ m = 4) with rfl | rfl | rfl | rfl | rfl <;> omega)
    (by rcases (by omega : m = 0 ∨ m = 1 ∨ m = 2 ∨ m = 3 ∨ m = 4) with rfl | rfl | rfl | rfl | rfl <;> omega) (by rcases (by omega : m = 0 ∨ m = 1 ∨ m = 2 ∨ m = 3 ∨ m = 4) with rfl | rfl | rfl | rfl | rfl <;> omega)
    (by rcases (by omega : m = 0 ∨ m = 1 ∨ m = 2 ∨ m = 3 ∨ m = 4) with rfl | rfl | rfl | rfl | rfl <;> omega)
  refine ⟨⟨fun h => ?_, fun h => ?_⟩, ⟨fun h => ?_, fun h => ?_⟩⟩
  · obtain ⟨a1, a2, a3, a4⟩ := dn hm h
    omega
  · rcases (by omega : m = 0 ∨ m = 1 ∨ m = 2 ∨ m = 3 ∨ m = 4) with rfl | rfl | rfl | rfl | rfl <;> omega
  · obtain ⟨a1, a2, a3, a4⟩ := up hm h
    omega
  · rcases (by omega : m = 0 ∨ m = 1 ∨ m = 2 ∨ m = 3 ∨ m = 4) with rfl | rfl | rfl | rfl | rfl <;> omega
def rcAll (R : List (List Int)) : List Nat := R.map rcC ++ R.map fun x => rcC (mnF x)
theorem memN_iff {C : List Nat} {a b : Nat} : memN C a b = true ↔ ∃ c ∈ C, c + a = b := by
  simp only [memN, List.any_eq_true]
  exact ⟨fun ⟨c, h1, h2⟩ => ⟨c, h1, Nat.eq_of_beq_eq_true h2⟩, fun ⟨c, h1, h2⟩ => ⟨c, h1, by rw [← h2]; exact Nat.beq_refl _⟩⟩
def ipg (n : Int) (d l x y : List Int) : Int := dotN (fun i => x.getD i 0 * l.getD i 0) (fun i => dotN (fun k => atI n d i k) (y.getD · 0) n.toNat) n.toNat
theorem dotN_lin (k : Int) (a b w : Nat → Int) : ∀ m : Nat, dotN (fun i => a i + k * b i) w m = dotN a w m + k * dotN b w m
  | 0 => by simp [dotN]
  | m + 1 => by
    simp only [dotN]
    rw [dotN_lin k a b w m, Int.add_mul, Int.mul_add, Int.mul_assoc]
    omega
theorem dotN_linR (k : Int) (a b w : Nat → Int) : ∀ m : Nat, dotN w (fun i => a i + k * b i) m = dotN w a m + k * dotN w b m
  | 0 => by simp [dotN]
  | m + 1 => by
    simp only [dotN]
    rw [dotN_linR k a b w m, Int.mul_add, Int.mul_add, Int.mul_left_comm]
    omega
theorem dotN_scale (k : Int) (a w : Nat → Int) : ∀ m : Nat, dotN (fun i => k * a i) w m = k * dotN a w m
  | 0 => by simp [dotN]
  | m + 1 => by
    simp only [dotN]
    rw [dotN_scale k a w m, Int.mul_add, Int.mul_assoc]
theorem dotN_turn (c : Nat → Int) (f : Nat → Nat → Int) (w : Nat → Int) (m : Nat) : ∀ p : Nat, dotN c (fun i => dotN (f i) w m) p = dotN (fun k => dotN c (fun i => f i k) p) w m
  | 0 => by
    simp only [dotN]
    induction m with
    | zero => rfl
    | succ m ih => rw [dotN, ← ih]; simp
  | p + 1 => by
    simp only [dotN]
    rw [dotN_turn c f w m p, ← dotN_lin]
theorem ipg_sym {n : Int} {d l : List Int} (hl : ∀ i, i < n.toNat → ∀ j, j < n.toNat → l.getD i 0 * atI n d i j = l.getD j 0 * atI n d j i) (x y : List Int) : ipg n d l x y = ipg n d l y x := by
  unfold ipg
  rw [dotN_turn]
  refine dotN_congr' fun k hk => ?_
  have e : dotN (fun i => x.getD i 0 * l.getD i 0) (fun i => atI n d i k) n.toNat = l.getD k 0 * dotN (fun i => atI n d k i) (x.getD · 0) n.toNat := by
    rw [← dotN_scale]
    refine dotN_congr' fun i hi => ?_
    rw [Int.mul_assoc, hl i hi k hk, Int.mul_comm]
  rw [e, Int.mul_comm, ← Int.mul_assoc]
where
  dotN_congr' {a b a' b' : Nat → Int} : ∀ {m : Nat}, (∀ k, k < m → a k * b k = a' k * b' k) → dotN a b m = dotN a' b' m
    | 0, _ => rfl
    | m + 1, h => by rw [dotN, dotN, dotN_congr' fun k hk => h k (by omega), h m (by omega)]
theorem ipg_linL {n : Int} {d l x y u : List Int} {k : Int} (h : ∀ i, i < n.toNat → u.getD i 0 = x.getD i 0 + k * y.getD i 0) (z : List Int) : ipg n d l u z = ipg n d l x z + k * ipg n d l y z := by
  unfold ipg
  rw [← dotN_lin]
  refine dotN_congr fun i hi => ⟨?_, rfl⟩
  show u.getD i 0 * l.getD i 0 = x.getD i 0 * l.getD i 0 + k * (y.getD i 0 * l.getD i 0)
  rw [h i hi, Int.add_mul, Int.mul_assoc]
theorem ipg_linR {n : Int} {d l x y u : List Int} {k : Int} (h : ∀ i, i < n.toNat → u.getD i 0 = x.getD i 0 + k * y.getD i 0) (z : List Int) : ipg n d l z u = ipg n d l z x + k * ipg n d l z y := by
  unfold ipg
  rw [← dotN_linR]
  refine dotN_congr fun i hi => ⟨rfl, ?_⟩
  show dotN (fun j => atI n d i j) (u.getD · 0) n.toNat = dotN (fun j => atI n d i j) (x.getD · 0) n.toNat + k * dotN (fun j => atI n d i j) (y.getD · 0) n.toNat
  rw [← dotN_linR]
  exact dotN_congr fun j hj => ⟨rfl, h j hj⟩
theorem inF_ipg {n : Int} {d x y : List Int} (h : (tyS n d).isSome = true) (hx : wtOk n x = true) (hy : wtOk n y = true) : inF n d x y = ipg n d (lenF n d) x y := by
  have hr := rtOk h
  have hlo := hr.lo
  have hrk := hr.rk
  have hxl := wtOk_len hx
  have hyl := wtOk_len hy
  rw [(inF_is h hx hy).1, ipg, show x.length = n.toNat by omega]
  exact dotN_congr fun k hk => ⟨rfl, (wtF_at hr.mat (wtOk_ent hy) (by omega) hrk hk).1⟩
def rcW (n : Int) (d l r : List Int) : List Int := (List.range n.toNat).map fun i => l.getD i 0 * dotN (fun k => atI n d i k) (r.getD · 0) n.toNat
def rcD (n : Nat) (x w : List Int) : Int := dotN (x.getD · 0) (w.getD · 0) n
def rcOne (n : Nat) (C : List Nat) (z : Nat) (w : List Int) (q : Int) (cr : Nat) (r x : List Int) : Bool :=
  x == r || rcN (rcC x) fun cx => rcN (rch (fun m => memN C (Nat.mul m cr) (Nat.add cx (Nat.mul m z))) 4 0) fun p => rcN (rch (fun m => memN C (Nat.mul m z) (Nat.add cx (Nat.mul m cr))) 4 0) fun s =>
    Nat.ble (Nat.add p s) 3 && decide (((p : Int) - s) * q = 2 * rcD n x w)
def rcQ1 (n : Nat) (l w r : List Int) : Bool := rcZ (rcD n r w) fun q => decide (0 < q) && decide (q % 2 = 0) && (List.range n).all fun i => decide ((2 * w.getD i 0) % q = 0) && decide (-(3 * q) ≤ 2 * w.getD i 0) && decide (2 * w.getD i 0 ≤ 3 * q) && decide ((r.getD i 0 * l.getD i 0) % (q / 2) = 0)
def chkRc (n : Int) (d : List Int) : Bool := rcLL (rSt n d) fun R => rcL (lenF n d) fun l => rcN n.toNat fun m => ((List.range m).all fun i => decide (atI n d i i = 2)) && (R.all fun r => rcL (rcW n d l r) fun w => rcQ1 m l w r) &&
  rcNs (rcAll R) fun C => rcN (rcC []) fun z => (List.range m).all fun i => rcL (unitL m i) fun r => R.contains r && rcL (rcW n d l r) fun w => rcZ (rcD m r w) fun q => rcN (rcC r) fun cr => R.all fun x => rcOne m C z w q cr r x
end Go.Proofs.YtbmnnbglipkidaaGreatDoor
