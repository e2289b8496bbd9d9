/-
  Plain functions on weights, words and roots of a Cartan matrix, as both texts compute them (in the numbers of 64 bits, with their wrap); no program is spoken of.
-/
import Derived.Test.YtmckgdekblphoaaGreatDoorCarS
namespace Go.Proofs.YtmckgdekblphoaaGreatDoor
set_option linter.unusedVariables false
set_option linter.unusedSimpArgs false
def wdOk (n : Int) (x : List Int) : Bool := decide ((x.length : Int) ≤ 60) && !(x.any fun y => !(inB y 0 (n - 1)))
theorem wdOk_rng {n : Int} {x : List Int} (h : wdOk n x = true) : x.length ≤ 60 ∧ ∀ y ∈ x, 0 ≤ y ∧ y < n := by
  simp only [wdOk, Bool.and_eq_true, decide_eq_true_eq, Bool.not_eq_true'] at h
  refine ⟨by omega, fun y hy => ?_⟩
  have h1 := List.any_eq_false.1 h.2 y hy
  have h2 : inB y 0 (n - 1) = true := by simpa using h1
  have := inB_true h2
  omega
theorem tyS_ok {n : Int} {d : List Int} (h : (tyS n d).isSome = true) : (1 ≤ n ∧ n ≤ 4) ∧ (d.length : Int) = n * n := by
  obtain ⟨ks, hk⟩ := Option.isSome_iff_exists.1 h
  unfold tyS at hk
  split at hk
  · rename_i hok
    simp only [okI, Bool.and_eq_true, decide_eq_true_eq] at hok
    exact ⟨inB_true hok.1, hok.2⟩
  · simp at hk
def wordB (n : Int) (d x : List Int) : Bool := (tyS n d).isSome && wdOk n x
theorem wordB_ok {n : Int} {d x : List Int} (h : wordB n d x = true) : ((1 ≤ n ∧ n ≤ 4) ∧ (d.length : Int) = n * n) ∧ x.length ≤ 60 ∧ ∀ y ∈ x, 0 ≤ y ∧ y < n := by
  simp only [wordB, Bool.and_eq_true] at h
  exact ⟨tyS_ok h.1, wdOk_rng h.2⟩
def wtI (n : Int) (d x : List Int) (o : List Int) (i : Nat) : List Int := (List.range x.length).foldl (fun (o : List Int) (j : Nat) => o.set i (IntKind.i64.wrap (o.getD i 0 + IntKind.i64.wrap (atI n d i j * x.getD j 0)))) o
def wtF (n : Int) (d x : List Int) : List Int := (List.range n.toNat).foldl (wtI n d x) (List.replicate n.toNat 0)
theorem len_fold {f : List Int → Nat → List Int} (hf : ∀ o i, (f o i).length = o.length) : ∀ (l : List Nat) (o : List Int), (l.foldl f o).length = o.length
  | [], _ => rfl
  | x :: l, o => by rw [List.foldl_cons, len_fold hf l, hf]
theorem wtF_len (n : Int) (d x : List Int) : (wtF n d x).length = n.toNat := by
  unfold wtF
  rw [len_fold (f := wtI n d x) (fun o i => len_fold (fun o j => by simp) _ _), List.length_replicate]
def rfI (n : Int) (d : List Int) (i : Int) (w o : List Int) (k : Nat) : List Int := o.set k (IntKind.i64.wrap (o.getD k 0 - IntKind.i64.wrap (w.getD i.toNat 0 * atI n d k i)))
def rfF (n : Int) (d : List Int) (i : Int) (w : List Int) : List Int := (List.range w.length).foldl (rfI n d i w) w
theorem rfF_len (n : Int) (d : List Int) (i : Int) (w : List Int) : (rfF n d i w).length = w.length := len_fold (fun o k => by simp [rfI]) _ _
def actF (n : Int) (d word w : List Int) : List Int := word.foldr (fun i o => rfF n d i o) w
theorem drop_getD {xs : List Int} {q : Nat} (h : q < xs.length) : xs.drop q = xs.getD q 0 :: xs.drop (q + 1) := by
  rw [List.drop_eq_getElem_cons h]
  simp [List.getD, h]
theorem set_getD_ne {o : List Int} {k t : Nat} {v : Int} (h : k ≠ t) : (o.set k v).getD t 0 = o.getD t 0 := by simp [List.getD, h]
end Go.Proofs.YtmckgdekblphoaaGreatDoor
