/-
  Plain functions on weights, words and roots of a Cartan matrix, as both texts compute them (in the numbers of 64 bits, with their wrap); no program is spoken of.
-/
import Derived.Test.YtmckgdekblphoaaDoorCarS
namespace Go.Proofs.YtmckgdekblphoaaDoor
set_option linter.unusedVariables false
set_option linter.unusedSimpArgs false

def wtOk (n : Int) (x : List Int) : Bool := ((x.length : Int) == n) && !(x.any fun y => !(inB y (-1000) 1000))
def wdOk (n : Int) (x : List Int) : Bool := decide ((x.length : Int) ≤ 60) && !(x.any fun y => !(inB y 0 (n - 1)))
theorem wtOk_len {n : Int} {x : List Int} (h : wtOk n x = true) : (x.length : Int) = n := by
  simp only [wtOk, Bool.and_eq_true, beq_iff_eq] at h
  exact h.1
theorem wdOk_rng {n : Int} {x : List Int} (h : wdOk n x = true) : x.length ≤ 60 ∧ ∀ y ∈ x, 0 ≤ y ∧ y < n := by
  simp only [wdOk, Bool.and_eq_true, decide_eq_true_eq, Bool.not_eq_true'] at h
  refine ⟨by omega, fun y hy => ?_⟩
  have h1 := List.any_eq_false.1 h.2 y hy
  have h2 : inB y 0 (n - 1) = true := by simpa using h1
  have := inB_true h2
  omega
theorem tyS_ok {n : Int} {d : List Int} (h : (tyS n d).isSome = true) : (1 ≤ n ∧ n ≤ 4) ∧ (d.length : Int) = n * n := by
  obtain ⟨ks, hk⟩ := Option.isSome_iff_exists.1 h
  unfold tyS at hk
  split at hk
  · rename_i hok
    simp only [okI, Bool.and_eq_true, decide_eq_true_eq] at hok
    exact ⟨inB_true hok.1, hok.2⟩
  · simp at hk
def wordB (n : Int) (d x : List Int) : Bool := (tyS n d).isSome && wdOk n x
theorem wordB_ok {n : Int} {d x : List Int} (h : wordB n d x = true) : ((1 ≤ n ∧ n ≤ 4) ∧ (d.length : Int) = n * n) ∧ x.length ≤ 60 ∧ ∀ y ∈ x, 0 ≤ y ∧ y < n := by
  simp only [wordB, Bool.and_eq_true] at h
  exact ⟨tyS_ok h.1, wdOk_rng h.2⟩

/-! Weights of lattice elements -/
def wtI (n : Int) (d x : List Int) (o : List Int) (i : Nat) : List Int := (List.range x.length).foldl (fun (o : List Int) (j : Nat) => o.set i (IntKind.i64.wrap (o.getD i 0 + IntKind.i64.wrap (atI n d i j * x.getD j 0)))) o
def wtF (n : Int) (d x : List Int) : List Int := (List.range n.toNat).foldl (wtI n d x) (List.replicate n.toNat 0)
theorem len_fold {f : List Int → Nat → List Int} (hf : ∀ o i, (f o i).length = o.length) : ∀ (l : List Nat) (o : List Int), (l.foldl f o).length = o.length
  | [], _ => rfl
  | x :: l, o => by rw [List.foldl_cons, len_fold hf l, hf]
theorem wtF_len (n : Int) (d x : List Int) : (wtF n d x).length = n.toNat := by
  unfold wtF
  rw [len_fold (f := wtI n d x) (fun o i => len_fold (fun o j => by simp) _ _), List.length_replicate]
/-! Reflections -/
def rfI (n : Int) (d : List Int) (i : Int) (w o : List Int) (k : Nat) : List Int := o.set k (IntKind.i64.wrap (o.getD k 0 - IntKind.i64.wrap (w.getD i.toNat 0 * atI n d k i)))
def rfF (n : Int) (d : List Int) (i : Int) (w : List Int) : List Int := (List.range w.length).foldl (rfI n d i w) w
theorem rfF_len (n : Int) (d : List Int) (i : Int) (w : List Int) : (rfF n d i w).length = w.length := len_fold (fun o k => by simp [rfI]) _ _
def actF (n : Int) (d word w : List Int) : List Int := word.foldr (fun i o => rfF n d i o) w
theorem actF_len (n : Int) (d w : List Int) : ∀ word : List Int, (actF n d word w).length = w.length
  | [] => rfl
  | i :: t => by
    unfold actF
    rw [List.foldr_cons, rfF_len]
    exact actF_len n d w t
theorem drop_getD {xs : List Int} {q : Nat} (h : q < xs.length) : xs.drop q = xs.getD q 0 :: xs.drop (q + 1) := by
  rw [List.drop_eq_getElem_cons h]
  simp [List.getD, h]
theorem actF_step {n : Int} {d word w : List Int} {q : Nat} (h : q < word.length) : actF n d (word.drop q) w = rfF n d (word.getD q 0) (actF n d (word.drop (q + 1)) w) := by
  rw [drop_getD h]
  rfl
def arI (n : Int) (d : List Int) (i : Int) (o : List Int) : List Int := o.set i.toNat (IntKind.i64.wrap (o.getD i.toNat 0 - (wtF n d o).getD i.toNat 0))
def arF (n : Int) (d word x : List Int) : List Int := word.foldr (fun i o => arI n d i o) x
theorem arF_len (n : Int) (d x : List Int) : ∀ word : List Int, (arF n d word x).length = x.length
  | [] => rfl
  | i :: t => by
    unfold arF
    rw [List.foldr_cons]
    simp only [arI, List.length_set]
    exact arF_len n d x t
theorem arF_step {n : Int} {d word x : List Int} {q : Nat} (h : q < word.length) : arF n d (word.drop q) x = arI n d (word.getD q 0) (arF n d (word.drop (q + 1)) x) := by
  rw [drop_getD h]
  rfl
theorem set_getD_ne {o : List Int} {k t : Nat} {v : Int} (h : k ≠ t) : (o.set k v).getD t 0 = o.getD t 0 := by simp [List.getD, h]
def wtOf (n : Int) (d x : List Int) : List Int := if (tyS n d).isSome && wtOk n x then wtF n d x else []
def actOf (n : Int) (d word w : List Int) : List Int := if wordB n d word && wtOk n w then actF n d word w else []
def arOf (n : Int) (d word x : List Int) : List Int := if wordB n d word && wtOk n x then arF n d word x else []
theorem if_t {a b : Bool} {α : Type} {x y : α} (ha : a = true) (hb : b = true) : (if a && b then x else y) = x := by rw [ha, hb]; rfl
theorem if_f1 {a b : Bool} {α : Type} {x y : α} (ha : a = false) : (if a && b then x else y) = y := by rw [ha]; rfl
theorem if_f2 {a b : Bool} {α : Type} {x y : α} (hb : b = false) : (if a && b then x else y) = y := by rw [hb, Bool.and_false]; rfl
theorem len_of_tl {n : Int} {x : List Int} (h : (x.length : Int) = n) : x.length = n.toNat := by omega

theorem wtOf_len (n : Int) (d x : List Int) : (wtOf n d x).length ≤ 4 := by
  unfold wtOf
  split
  · rename_i h
    simp only [Bool.and_eq_true] at h
    have := (tyS_ok h.1).1
    rw [wtF_len]
    omega
  · simp
theorem actOf_len (n : Int) (d word w : List Int) : (actOf n d word w).length ≤ 4 := by
  unfold actOf
  split
  · rename_i h
    simp only [Bool.and_eq_true] at h
    have h1 := (wordB_ok h.1).1.1
    have h2 := wtOk_len h.2
    rw [actF_len]
    omega
  · simp
theorem arOf_len (n : Int) (d word x : List Int) : (arOf n d word x).length ≤ 4 := by
  unfold arOf
  split
  · rename_i h
    simp only [Bool.and_eq_true] at h
    have h1 := (wordB_ok h.1).1.1
    have h2 := wtOk_len h.2
    rw [arF_len]
    omega
  · simp

end Go.Proofs.YtmckgdekblphoaaDoor
