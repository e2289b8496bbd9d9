/-
  Levels: what the walks ask.
-/
import Derived.Test.YtmckgdekblphoaaDoorLvl
import Derived.Test.YtmckgdekblphoaaDoorCoR
import Derived.Test.YtmckgdekblphoaaDoorNest
namespace Go.Proofs.YtmckgdekblphoaaDoor
set_option linter.unusedVariables false
set_option linter.unusedSimpArgs false
open Go.RowKit

theorem lvOne_skip {n : Int} {d w : List Int} {L : List (List Int)} {i : Nat} (h : ¬ 0 < w.getD i 0) : L = lvOne n d w L i := by rw [lvOne, if_neg h]
theorem lvOne_no {n : Int} {d w : List Int} {L : List (List Int)} {i : Nat} (h : 0 < w.getD i 0) (hc : L.contains (rfF n d (i : Int) w) = true) : L = lvOne n d w L i := by rw [lvOne, if_pos h, if_pos hc]
theorem lvOne_yes {n : Int} {d w : List Int} {L : List (List Int)} {i : Nat} (h : 0 < w.getD i 0) (hc : L.contains (rfF n d (i : Int) w) = false) : insD L (rfF n d (i : Int) w) = lvOne n d w L i := by rw [lvOne, if_pos h, if_neg (by rw [hc]; decide)]
theorem lv_next {n : Int} {d : List Int} {x : List (List Int)} {k : Nat} (hk : k < x.length) : (x.take (k + 1)).foldl (lvRow n d) [] = (List.range n.toNat).foldl (lvOne n d (x.getD k [])) ((x.take k).foldl (lvRow n d) []) := by
  rw [List.take_add_one, List.getElem?_eq_getElem hk, Option.toList, List.foldl_append, List.getD, List.getElem?_eq_getElem hk]
  rfl
theorem insD_ent {L : List (List Int)} {y : List Int} {n : Int} (h : ∀ z ∈ L, (z.length : Int) = n) (hy : (y.length : Int) = n) : ∀ z ∈ insD L y, (z.length : Int) = n := fun z hz => by
  rcases List.mem_cons.1 ((insD_perm y L).mem_iff.1 hz) with rfl | hz
  · exact hy
  · exact h z hz
theorem zip_ins {α β : Type} {vs : List α} {xs : List β} {u : α} {x : β} {k : Nat} (hl : vs.length = xs.length) : ((vs ++ [u]).zip (xs ++ [x])).Perm ((vs.take k ++ [u] ++ vs.drop k).zip (xs.take k ++ [x] ++ xs.drop k)) := by
  have e2 : (vs.take k ++ [u] ++ vs.drop k).zip (xs.take k ++ [x] ++ xs.drop k) = (vs.zip xs).take k ++ [(u, x)] ++ (vs.zip xs).drop k := by
    rw [List.zip_append (by simp; omega), List.zip_append (by simp; omega)]
    simp only [List.zip, List.take_zipWith, List.drop_zipWith]
    rfl
  have e3 : (vs ++ [u]).zip (xs ++ [x]) = vs.zip xs ++ [(u, x)] := by
    rw [List.zip_append hl]
    rfl
  rw [e2, e3]
  have h := List.take_append_drop k (vs.zip xs)
  conv => lhs; rw [← h]
  rw [List.append_assoc, List.append_assoc]
  exact List.Perm.append_left _ List.perm_append_comm
section
variable {P : Program} {n : Nat} {env : List (Nat × Value)} {W : World} {own : List Asn}
theorem GE.manyIns {α : Type} {A : Value → α → Asn} {vs : List Value} {xs : List α} {u : Value} {x : α} (k : Nat) (hl : vs.length = xs.length) {e : Exit} {Q : Exit → Act → World → Prop} (h : GE e Q n env W (many A (vs.take k ++ [u] ++ vs.drop k) (xs.take k ++ [x] ++ xs.drop k) :: own)) : GE e Q n env W (A u x :: many A vs xs :: own) := GE.manyPush hl (GE.manyPerm (zip_ins hl) h)
/-- The length that a slice's value tells. -/
def slenV : Value → Nat
  | .slice _ n _ => n
  | _ => 0
theorem Sl.slen {w : World} {v : Value} {m sz : Nat} {cs : List Value} (h : Sl w v m sz cs) : slenV v = m := by
  obtain ⟨_, ao, cap, rfl, _⟩ := h
  rfl
theorem OD.lenV {o : Oper} {x : Operand} {t e sz bytes : Nat} {z v : Value} {c : Call} (hop : o.op = .call c) (hc : c = { callee := .builtin .len, args := #[x], argTypes := #[t] }) (et : ET P t e sz bytes z) (hx : ev env x = some v) (hv : IsS v) : OD P o n env W own (.int .i64 (slenV v)) own :=
  .of fun a w hf hs => by
    obtain ⟨ao, m, cap, rfl⟩ := hv
    subst hc
    simp [execOp, hop, resolve, invoke, builtin, hf.ev hx, Builtin.len_, run_underlying et.ht, goInt, slenV]
theorem slen_own {i e m : Nat} {v : Value} {us : List Value} (h : own[i]? = some (row e 1 v us.length us)) (hm : us.length = m) : Ent own fun _ => slenV v = m := fun W w hs => by
  have := Sl.slen (Ent.row (own := own) (i := i) (e := e) (sz := 1) (n := us.length) (v := v) (cs := us) h W w hs)
  rw [this, hm]
end
/-! Levels that the weights of a type have -/
section
variable {n : Int} {d : List Int} {R : List (List Int)}
theorem WlOk.levLen (h : WlOk n d R) (j : Nat) : (lvAt n d j).length ≤ 1200 := h.few (h.lev j).1.nod fun v hv => (((h.lev j).2 v).1 hv).1
theorem WlOk.levEnt (h : WlOk n d R) {j : Nat} {y : List Int} (hy : y ∈ lvAt n d j) : y.length = n.toNat := ((((h.lev j).2 y).1 hy).1.inv h.co).1
theorem lvSum_le (h : WlOk n d R) (m : Nat) : lvSum n d m ≤ 1200 := by
  rw [← h.below m]
  exact Nat.le_trans (List.length_filter_le _ _) h.orLen
def lvU (n : Int) (d : List Int) (us : List Value) : Prop := lvAt n d us.length = [] ∧ us.length ≤ 25 ∧ (∀ k, k < us.length → slenV (us.getD k undef) = (lvAt n d k).length) ∧ ∀ k, k < us.length → lvAt n d k ≠ []
end
theorem lv_ne_next {n : Int} {d : List Int} {j : Nat} (h : ∀ q, q ≤ j → lvAt n d q ≠ []) (hl : (lvNext n d (lvAt n d j)).length ≠ 0) : ∀ q, q ≤ j + 1 → lvAt n d q ≠ [] := fun q hq => by
  by_cases e : q = j + 1
  · subst e
    intro hn
    exact hl (by rw [show lvNext n d (lvAt n d j) = lvAt n d (j + 1) from rfl, hn]; rfl)
  · exact h q (by omega)
theorem lv_sl_next {n : Int} {d : List Int} {j : Nat} {uo : List Value} {r : Value} (hl : uo.length = j + 1) (h : ∀ q, q < j + 1 → slenV (uo.getD q undef) = (lvAt n d q).length) (hr : slenV r = (lvNext n d (lvAt n d j)).length) : ∀ q, q < j + 1 + 1 → slenV ((uo ++ [r]).getD q undef) = (lvAt n d q).length := fun q hq => by
  by_cases e : q = j + 1
  · subst e
    rw [List.getD, List.getElem?_append_right (by omega), hl, Nat.sub_self]
    exact hr
  · rw [List.getD, List.getElem?_append_left (by omega)]
    exact h q (by omega)
theorem lvU_of {n : Int} {d : List Int} {j : Nat} {uo : List Value} (hl : uo.length = j + 1) (hj : j ≤ 24) (h : ∀ q, q < j + 1 → slenV (uo.getD q undef) = (lvAt n d q).length) (hne : ∀ q, q ≤ j → lvAt n d q ≠ []) (h0 : (lvNext n d (lvAt n d j)).length = 0) : lvU n d uo := by
  refine ⟨?_, by omega, fun k hk => h k (by omega), fun k hk => hne k (by omega)⟩
  rw [hl]
  exact List.eq_nil_of_length_eq_zero h0
theorem getD_snoc {uo : List Value} {r : Value} {j : Nat} (h : uo.length = j) : (uo ++ [r]).getD j undef = r := by
  rw [List.getD, List.getElem?_append_right (by omega), h, Nat.sub_self]
  rfl
theorem ones_64 {n : Int} : All64 (ones n 1) := fun y hy => by
  rw [(List.mem_replicate.1 hy).2]
  unfold I64
  omega
def woF (n : Int) (d : List Int) : Int := if (tyS n d).isSome then ((oAll n d (ones n 1)).length : Int) else 0
end Go.Proofs.YtmckgdekblphoaaDoor
