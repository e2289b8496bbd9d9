/-
  strconv.Itoa, and strings.Join at " ", each by its contract in the words of XSep.
-/
import Derived.Test.YtgelkakjmbiibaaGreatDoorMap
import Derived.Shelf.Strconv.Itoa3
namespace Go.Proofs.YtgelkakjmbiibaaGreatDoor
set_option linter.unusedVariables false
set_option linter.unusedSimpArgs false
open Go.RowKit Go.Sort
theorem below_grow (w : World) (k : Nat) (os : Array Obj) : Below w.heap.size w (grow (w.drewN k) os) := by
  refine ⟨rfl, rfl, rfl, by simp [grow], fun i hi => ?_⟩
  simp only [grow]
  rw [Array.getElem?_append_left (by simpa using hi)]
  rfl
def Pow10 (w : World) : Prop := Lib.TabIs Tryz.prog w "internal/strconv.uint64pow10" .u64 Lib.pow10Tab
def I64 (n : Int) : Prop := -9223372036854775808 ≤ n ∧ n ≤ 9223372036854775807
def All64 (xs : List Int) : Prop := ∀ x ∈ xs, I64 x
theorem All64.get {xs : List Int} (h : All64 xs) {k : Nat} (hk : k < xs.length) : I64 (xs.getD k 0) := by
  have e : xs.getD k 0 = xs[k] := by simp [List.getD, hk]
  rw [e]
  exact h _ (List.getElem_mem hk)
theorem itoa_step {x : List Int} {k : Nat} (h : k < x.length) : (x.take k).map itoaB ++ [itoaB (x.getD k 0)] = (x.take (k + 1)).map itoaB := by
  rw [List.take_succ_eq_append_getElem h, List.map_append]
  simp [List.getD, h]
theorem itoa_w {W : World} {own : List Asn} {n : Int} (hn : I64 n) (ht : Ent own Pow10) : Spec Tryz.prog 167 [.int .i64 n] W own fun v ow => v = .string (itoaB n) ∧ ow = own :=
  Spec.below fun w hst => (Any.strconv_Itoa { Tryz.l171 with } n hn.1 hn.2 w (ht W w hst)).mono fun e w' ⟨he, k, os, hw⟩ => ⟨he, hw ▸ below_grow w k os⟩
theorem joinS_w {W : World} {own : List Asn} {v : Value} {xs : List Int} (_ : IsS v) (hv : Ent own fun w => Strs w v (xs.map itoaB)) (hr : All64 xs) (hN : xs.length ≤ 1000000) :
    Spec Tryz.prog 105 [v, .string ⟨#[32]⟩] W own fun u ow => u = .string (fmtB xs) ∧ ow = own := Spec.below fun w hst => by
  obtain ⟨_, ao, cap, rfl, h1, _, _, h4⟩ := hv W w hst
  cases xs with
  | nil => exact (Any.strings_Join_none Tryz.l156 Tryz.x156 ao cap ⟨#[32]⟩ w).mono fun e w' ⟨he, hw⟩ => ⟨he, hw ▸ Below.refl _ _⟩
  | cons x r =>
    obtain ⟨b, o, rfl, hb, hc⟩ := h4 (by simp)
    have hsz := fmtB_size hr
    have hj := fmtB_join (x :: r)
    have h := Any.strings_Join Tryz.l156 Tryz.x156 b o cap ((x :: r).map itoaB) ⟨#[32]⟩ w (fun j y hy => ?_) hb (by rw [List.length_map]; omega) h1 (by
      have e := congrArg (fun b : ByteArray => b.data.size) hj
      simp only [List.size_toArray] at e
      have e2 : (fmtB (x :: r)).size = (fmtB (x :: r)).data.size := rfl
      show (Lib.join _ [32]).length ≤ _
      rw [e, ← e2]
      omega)
    · refine h.mono fun e w' ⟨he, hw⟩ => ⟨?_, hw⟩
      rw [he]
      exact congrArg (fun b => Ending.returned (.string b)) hj
    · have hj : j < ((x :: r).map itoaB).length := (List.getElem?_eq_some_iff.1 hy).1
      rw [hc j (by rw [List.length_map] at hj ⊢; omega)]
      simp only [List.getD, List.getElem?_map] at hy ⊢
      cases e : (x :: r)[j]? with
      | none => rw [e] at hy; cases hy
      | some z =>
        rw [e] at hy
        simp at hy
        simp [hy]
end Go.Proofs.YtgelkakjmbiibaaGreatDoor
