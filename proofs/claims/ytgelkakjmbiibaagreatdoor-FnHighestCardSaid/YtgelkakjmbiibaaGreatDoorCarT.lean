/-
  Plain functions on weights, words and roots of a Cartan matrix, as both texts compute them (in the numbers of 64 bits, with their wrap); no program is spoken of.
-/
import Derived.Test.YtgelkakjmbiibaaGreatDoorCarS
namespace Go.Proofs.YtgelkakjmbiibaaGreatDoor
set_option linter.unusedVariables false
set_option linter.unusedSimpArgs false
def wtOk (n : Int) (x : List Int) : Bool := ((x.length : Int) == n) && !(x.any fun y => !(inB y (-1000) 1000))
theorem wtOk_len {n : Int} {x : List Int} (h : wtOk n x = true) : (x.length : Int) = n := by
  simp only [wtOk, Bool.and_eq_true, beq_iff_eq] at h
  exact h.1
theorem tyS_ok {n : Int} {d : List Int} (h : (tyS n d).isSome = true) : (1 ≤ n ∧ n ≤ 4) ∧ (d.length : Int) = n * n := by
  obtain ⟨ks, hk⟩ := Option.isSome_iff_exists.1 h
  unfold tyS at hk
  split at hk
  · rename_i hok
    simp only [okI, Bool.and_eq_true, decide_eq_true_eq] at hok
    exact ⟨inB_true hok.1, hok.2⟩
  · simp at hk
def wtI (n : Int) (d x : List Int) (o : List Int) (i : Nat) : List Int := (List.range x.length).foldl (fun (o : List Int) (j : Nat) => o.set i (IntKind.i64.wrap (o.getD i 0 + IntKind.i64.wrap (atI n d i j * x.getD j 0)))) o
def wtF (n : Int) (d x : List Int) : List Int := (List.range n.toNat).foldl (wtI n d x) (List.replicate n.toNat 0)
theorem len_fold {f : List Int → Nat → List Int} (hf : ∀ o i, (f o i).length = o.length) : ∀ (l : List Nat) (o : List Int), (l.foldl f o).length = o.length
  | [], _ => rfl
  | x :: l, o => by rw [List.foldl_cons, len_fold hf l, hf]
theorem wtF_len (n : Int) (d x : List Int) : (wtF n d x).length = n.toNat := by
  unfold wtF
  rw [len_fold (f := wtI n d x) (fun o i => len_fold (fun o j => by simp) _ _), List.length_replicate]
def rfI (n : Int) (d : List Int) (i : Int) (w o : List Int) (k : Nat) : List Int := o.set k (IntKind.i64.wrap (o.getD k 0 - IntKind.i64.wrap (w.getD i.toNat 0 * atI n d k i)))
def rfF (n : Int) (d : List Int) (i : Int) (w : List Int) : List Int := (List.range w.length).foldl (rfI n d i w) w
theorem rfF_len (n : Int) (d : List Int) (i : Int) (w : List Int) : (rfF n d i w).length = w.length := len_fold (fun o k => by simp [rfI]) _ _
theorem drop_getD {xs : List Int} {q : Nat} (h : q < xs.length) : xs.drop q = xs.getD q 0 :: xs.drop (q + 1) := by
  rw [List.drop_eq_getElem_cons h]
  simp [List.getD, h]
def arI (n : Int) (d : List Int) (i : Int) (o : List Int) : List Int := o.set i.toNat (IntKind.i64.wrap (o.getD i.toNat 0 - (wtF n d o).getD i.toNat 0))
theorem set_getD_ne {o : List Int} {k t : Nat} {v : Int} (h : k ≠ t) : (o.set k v).getD t 0 = o.getD t 0 := by simp [List.getD, h]
def wtOf (n : Int) (d x : List Int) : List Int := if (tyS n d).isSome && wtOk n x then wtF n d x else []
theorem if_t {a b : Bool} {α : Type} {x y : α} (ha : a = true) (hb : b = true) : (if a && b then x else y) = x := by rw [ha, hb]; rfl
theorem if_f1 {a b : Bool} {α : Type} {x y : α} (ha : a = false) : (if a && b then x else y) = y := by rw [ha]; rfl
theorem if_f2 {a b : Bool} {α : Type} {x y : α} (hb : b = false) : (if a && b then x else y) = y := by rw [hb, Bool.and_false]; rfl
end Go.Proofs.YtgelkakjmbiibaaGreatDoor
