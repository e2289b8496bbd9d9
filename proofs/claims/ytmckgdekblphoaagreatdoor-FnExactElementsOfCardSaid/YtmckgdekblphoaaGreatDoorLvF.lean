/-
  Levels with all that they hold: what the walks ask.
-/
import Derived.Test.YtmckgdekblphoaaGreatDoorWeyA
import Derived.Test.YtmckgdekblphoaaGreatDoorBelA
namespace Go.Proofs.YtmckgdekblphoaaGreatDoor
set_option linter.unusedVariables false
set_option linter.unusedSimpArgs false
open Go.RowKit
def levA (e ei : Nat) (v : Value) (p : List Value × List (List Int)) : Asn := pack [lst e v p.1, many (ints ei) p.1 p.2]
def levD (ps : List (List Value × List (List Int))) (q : Nat) : List Value × List (List Int) := ps.getD q ([], [])
def LevsOk (n : Int) (d : List Int) (ps : List (List Value × List (List Int))) : Prop := ∀ q, q < ps.length → AllS (levD ps q).1 ∧ (levD ps q).1.length = (levD ps q).2.length ∧ (levD ps q).2 = lvAt n d q
theorem LevsOk.nil (n : Int) (d : List Int) : LevsOk n d [] := fun q hq => absurd hq (Nat.not_lt_zero q)
theorem LevsOk.snoc {n : Int} {d : List Int} {ps : List (List Value × List (List Int))} {us : List Value} {xs : List (List Int)} {j : Nat} (h : LevsOk n d ps) (hj : ps.length = j) (ha : AllS us) (hl : us.length = xs.length) (hx : xs = lvAt n d j) : LevsOk n d (ps ++ [(us, xs)]) := fun q hq => by
  by_cases e : q = j
  · subst e
    have e2 : levD (ps ++ [(us, xs)]) q = (us, xs) := by rw [levD, List.getD, List.getElem?_append_right (by omega), hj, Nat.sub_self]; rfl
    rw [e2]
    exact ⟨ha, hl, hx⟩
  · have hq2 : q < ps.length := by simp at hq; omega
    have e2 : levD (ps ++ [(us, xs)]) q = levD ps q := by rw [levD, levD, List.getD, List.getD, List.getElem?_append_left hq2]
    rw [e2]
    exact h q hq2
section
variable {P : Program} {n : Nat} {env : List (Nat × Value)} {W : World} {own : List Asn}
theorem GE.levPush {a b : Nat} {vs : List Value} {ps : List (List Value × List (List Int))} {u : Value} {us : List Value} {xs : List (List Int)} (hl : vs.length = ps.length) {e : Exit} {Q : Exit → Act → World → Prop} (h : GE e Q n env W (many (levA a b) (vs ++ [u]) (ps ++ [(us, xs)]) :: own)) : GE e Q n env W (lst a u us :: many (ints b) us xs :: many (levA a b) vs ps :: own) :=
  fun q w hf hs => h q w hf (St.manyPush (A := levA a b) (x := (us, xs)) hl (St.pack (L := [lst a u us, many (ints b) us xs]) hs))
theorem St.manyAt {w : World} {α : Type} {A : Value → α → Asn} {us : List Value} {xs : List α} {k : Nat} {d : α} (hk : k < us.length ∧ k < xs.length) (h : St W w (many A us xs :: own)) : St W w (A (us.getD k undef) (xs.getD k d) :: own) := by
  have h1 := St.unpack h
  refine h1.sub ?_
  have hm : A (us.getD k undef) (xs.getD k d) ∈ List.zipWith A us xs := List.mem_iff_getElem.2 ⟨k, by simp; omega, by simp [List.getD, hk.1, hk.2]⟩
  exact (List.singleton_sublist.2 hm).append (List.Sublist.refl _)
theorem G.levTake {a b : Nat} {vs : List Value} {ps : List (List Value × List (List Int))} (k : Nat) (hk : k < vs.length ∧ k < ps.length) {ops : Array Oper} {Q : Exit → Act → World → Prop} {rest : List Oper} (h : G P ops Q rest n env W (lst a (vs.getD k undef) (levD ps k).1 :: many (ints b) (levD ps k).1 (levD ps k).2 :: own)) : G P ops Q rest n env W (many (levA a b) vs ps :: own) := fun q w hf hs => h q w hf (St.unpack (L := [_, _]) (hs.manyAt (d := ([], [])) hk))
theorem GC.levTake {a b : Nat} {vs : List Value} {ps : List (List Value × List (List Int))} (k : Nat) (hk : k < vs.length ∧ k < ps.length) {c : Code} {Q : Exit → Act → World → Prop} (h : GC P c Q n env W (lst a (vs.getD k undef) (levD ps k).1 :: many (ints b) (levD ps k).1 (levD ps k).2 :: own)) : GC P c Q n env W (many (levA a b) vs ps :: own) := fun q w hf hs => h q w hf (St.unpack (L := [_, _]) (hs.manyAt (d := ([], [])) hk))
end
theorem take_push {uo : List Value} {r : Value} {j : Nat} (h : uo.length = j + 1) : uo.take j ++ [uo.getD j undef] = (uo ++ [r]).take (j + 1) := by
  rw [List.take_append_of_le_length (by omega), List.take_add_one, List.getD, List.getElem?_eq_getElem (by omega)]
  rfl
theorem take_end {uo : List Value} {j : Nat} (h : uo.length = j + 1) : uo.take j ++ [uo.getD j undef] = uo := by
  have e : uo.take (j + 1) = uo := List.take_of_length_le (by omega)
  conv => rhs; rw [← e]
  rw [List.take_add_one, List.getD, List.getElem?_eq_getElem (by omega)]
  rfl
end Go.Proofs.YtmckgdekblphoaaGreatDoor
