/-
  strings.Split at "+" and strings.Join, each by its contract in the words of XSep.
-/
import Derived.Test.YtgelkakjmbiibaaGreatDoorLay
namespace Go.Proofs.YtgelkakjmbiibaaGreatDoor
set_option linter.unusedVariables false
set_option linter.unusedSimpArgs false
open Go.RowKit
def plusSplit (s : ByteArray) : List ByteArray := Lib.splitB ⟨#[43]⟩ 0 (Lib.countB s ⟨#[43]⟩) s
theorem plusSplit_len (s : ByteArray) : (plusSplit s).length = Lib.countB s ⟨#[43]⟩ + 1 := Lib.splitB_all ⟨#[43]⟩ (by decide) 0 _ s rfl
def joinP (xs : List ByteArray) : ByteArray := ⟨(Lib.join (xs.map (·.data.toList)) [43]).toArray⟩
theorem split_w {W : World} {own : List Asn} (s : ByteArray) (hg : Ent own fun w => ∃ m, w.cell? ⟨Tryz.l146_ren.g 1, 0, none⟩ = some (.int .i64 m)) (hs : s.size < 4294967281) :
    Spec Tryz.prog 100 [.string s, .string ⟨#[43]⟩] W own fun v ow => ∃ r0 : Value, v = r0 ∧ IsS r0 ∧ ow = strs 9 r0 (plusSplit s) :: own := fun w hst => by
  obtain ⟨m, hm⟩ := hg W w hst
  have h := Any.strings_Split { Tryz.l146 with } Tryz.l146.i9 s ⟨#[43]⟩ m w hs hm (by decide)
  refine h.mono fun e w' ⟨he, hw⟩ => ?_
  have hl := plusSplit_len s
  have hcs : ((plusSplit s).map Value.string).length = (Lib.countB s ⟨#[43]⟩ + 1) * 1 := by rw [List.length_map, hl, Nat.mul_one]
  have hcb := Lib.countB_le ⟨#[43]⟩ (by decide) s.size s (Nat.le_refl _)
  subst hw
  refine ⟨_, _, he, ⟨_, rfl, ⟨_, _, _, rfl⟩, rfl⟩, ?_⟩
  refine row_push hst (.inr ⟨by simp, w.heap.size, Lib.countB s ⟨#[43]⟩ + 1, ((plusSplit s).map Value.string).toArray, by rw [hl], Nat.le_refl _, heap_alloc_new w _, by omega, by simp only [maxLen]; omega, by simpa using hl, ?_⟩) ((Below.refl _ _).alloc (Nat.le_refl _) _)
  rw [List.take_of_length_le (by simp [hl])]
theorem join_w {W : World} {own : List Asn} {v : Value} {xs : List ByteArray} (_ : IsS v) (hv : Ent own fun w => Strs w v xs) (hl : (joinP xs).size ≤ 140737488355328) (hN : xs.length ≤ 140737488355328) :
    Spec Tryz.prog 105 [v, .string ⟨#[43]⟩] W own fun u ow => u = .string (joinP xs) ∧ ow = own := Spec.below fun w hst => by
  obtain ⟨_, ao, cap, rfl, h1, _, _, h4⟩ := hv W w hst
  cases xs with
  | nil => exact (Any.strings_Join_none Tryz.l156 Tryz.x156 ao cap ⟨#[43]⟩ w).mono fun e w' ⟨he, hw⟩ => ⟨he, hw ▸ Below.refl _ _⟩
  | cons x r =>
    obtain ⟨b, o, rfl, hb, hc⟩ := h4 (by simp)
    refine Any.strings_Join Tryz.l156 Tryz.x156 b o cap (x :: r) ⟨#[43]⟩ w (fun j y hy => ?_) hb hN h1 (by simpa [joinP, ByteArray.size] using hl)
    have hj : j < (x :: r).length := (List.getElem?_eq_some_iff.1 hy).1
    rw [hc j (by omega)]
    simp only [List.getD, List.getElem?_map, hy]
    rfl
end Go.Proofs.YtgelkakjmbiibaaGreatDoor
