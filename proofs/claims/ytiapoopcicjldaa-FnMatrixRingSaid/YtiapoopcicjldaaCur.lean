/-
  The cursor of a draw, its numbers kept to itself; lists of numbers among what a region brings that leaves its order open.
-/
import Derived.Test.YtiapoopcicjldaaDrw
import Derived.Test.YtiapoopcicjldaaLate
namespace Go.Proofs.Ytiapoopcicjldaa
set_option linter.unusedVariables false
set_option linter.unusedSimpArgs false
open Go.RowKit

def curA (g T : Nat) (vb : Value) : Asn where
  p F w := (∀ k, F k ↔ k = g) ∧ ∃ i h : Int, 0 ≤ i ∧ w.heap[g]? = some (.cells [vb, .int .i64 i, .int .i64 h].toArray T (0, 0))
  loc h hw := ⟨h.1, let ⟨i, hh, h1, h2⟩ := h.2; ⟨i, hh, h1, (hw _ ((h.1 _).2 rfl)).trans h2⟩⟩
section
variable {W w : World} {own : List Asn} {g T : Nat} {vb : Value} {i h : Int}
theorem St.curClose (hs : St W w (Proofs.Ytiapoopcicjldaa.box g T [vb, .int .i64 i, .int .i64 h] :: own)) (hi : 0 ≤ i) : St W w (Proofs.Ytiapoopcicjldaa.curA g T vb :: own) := by
  obtain ⟨h1, h2, h3, F, h4, F1, F2, a1, a2, a3, a4⟩ := hs
  exact ⟨h1, h2, h3, F, h4, F1, F2, a1, a2, ⟨a3.1, i, h, hi, a3.2⟩, a4⟩
theorem St.curOpen (hs : St W w (Proofs.Ytiapoopcicjldaa.curA g T vb :: own)) : ∃ i h : Int, 0 ≤ i ∧ St W w (Proofs.Ytiapoopcicjldaa.box g T [vb, .int .i64 i, .int .i64 h] :: own) := by
  obtain ⟨h1, h2, h3, F, h4, F1, F2, a1, a2, ⟨b1, i, h, hi, b2⟩, a4⟩ := hs
  exact ⟨i, h, hi, h1, h2, h3, F, h4, F1, F2, a1, a2, ⟨b1, b2⟩, a4⟩
theorem St.curAt {k : Nat} (hs : St W w own) (hk : own[k]? = some (Proofs.Ytiapoopcicjldaa.curA g T vb)) : ∃ i h : Int, 0 ≤ i ∧ St W w (Proofs.Ytiapoopcicjldaa.box g T [vb, .int .i64 i, .int .i64 h] :: own.eraseIdx k) := (hs.perm (perm_front hk)).curOpen
theorem St.curBack {k : Nat} (L : List Asn) (hk : own[k]? = some (Proofs.Ytiapoopcicjldaa.curA g T vb)) (hi : 0 ≤ i) (hs : St W w (L ++ Proofs.Ytiapoopcicjldaa.box g T [vb, .int .i64 i, .int .i64 h] :: own.eraseIdx k)) : St W w (L ++ own) := by
  have h1 : St W w (Proofs.Ytiapoopcicjldaa.box g T [vb, .int .i64 i, .int .i64 h] :: (L ++ own.eraseIdx k)) := hs.perm List.perm_middle
  exact (h1.curClose hi).perm (List.perm_middle.symm.trans ((perm_front hk).symm.append_left L))
theorem GC.curA {P : Program} {c : Code} {Q : Exit → Act → World → Prop} {n : Nat} {env : List (Nat × Value)} (hi : 0 ≤ i) (hc : GC P c Q n env W (Proofs.Ytiapoopcicjldaa.curA g T vb :: own)) : GC P c Q n env W (Proofs.Ytiapoopcicjldaa.box g T [vb, .int .i64 i, .int .i64 h] :: own) := fun a w hf hs => hc a w hf (hs.curClose hi)
end
def toI1 : Value → Int
  | .int _ i => i
  | _ => 0
def toIs : Value → List Int
  | .agg a => a.toList.map toI1
  | _ => []
theorem toIs_mk (xs : List Int) : toIs (.agg (xs.map (Value.int .i64)).toArray) = xs := by
  simp only [toIs, List.map_map]
  exact (List.map_congr_left fun _ _ => rfl).trans (List.map_id xs)
theorem toIs_ex (xs : List Int) : ∃ z, xs = toIs z := ⟨_, (toIs_mk xs).symm⟩
end Go.Proofs.Ytiapoopcicjldaa
