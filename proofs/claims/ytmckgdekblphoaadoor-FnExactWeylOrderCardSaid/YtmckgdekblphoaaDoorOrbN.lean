/-
  Orbits: what the walks ask: one more element of a map; numbers that can be written.
-/
import Derived.Test.YtmckgdekblphoaaDoorOrb
namespace Go.Proofs.YtmckgdekblphoaaDoor
set_option linter.unusedVariables false
set_option linter.unusedSimpArgs false
open Go.RowKit

theorem rfF_all64 {n i : Int} {d w : List Int} (h : All64 w) : All64 (rfF n d i w) := fold_all64 (g := fun k (o : List Int) => IntKind.i64.wrap (o.getD k 0 - IntKind.i64.wrap (w.getD i.toNat 0 * atI n d k i))) (fun k o => wrap_I64 _) _ _ h
theorem oOne_64 {n : Int} {d w : List Int} {L : List (List Int)} {i : Nat} (hw : All64 w) (h : ∀ x ∈ L, All64 x) : ∀ x ∈ oOne n d w L i, All64 x := by
  unfold oOne
  split
  · exact h
  · intro x hx
    rcases List.mem_append.1 hx with hx | hx
    · exact h x hx
    · rw [List.mem_singleton] at hx
      rw [hx]
      exact rfF_all64 hw
theorem getD_mem {L : List (List Int)} {k : Nat} (hk : k < L.length) : L.getD k [] ∈ L := by
  have e : L.getD k [] = L[k] := by simp [List.getD, hk]
  rw [e]
  exact List.getElem_mem hk
theorem contains_srt (L : List (List Int)) (y : List Int) : (srtD L).contains y = L.contains y := by
  rw [Bool.eq_iff_iff, List.contains_iff_mem, List.contains_iff_mem]
  exact (srt_perm L).mem_iff
theorem srt_len (L : List (List Int)) : (srtD L).length = L.length := (srt_perm L).length_eq
theorem oC_in {n : Int} {d w : List Int} {gs hs : List (List Int)} {k i : Nat} (hoc : oC n d (1300 - k) gs k = oAll n d w) (hk : k < gs.length) (hl : gs.length ≤ 1200) (hi : i ≤ n.toNat) (hhs : hs = (List.range i).foldl (oOne n d (gs.getD k [])) gs) : Pre hs (oAll n d w) ∧ Pre gs hs := by
  rw [oC_go hk hl] at hoc
  rw [← hoc, hhs]
  exact ⟨(oIn_pre hi).trans oC_pre, oIn_pre (i := 0) (Nat.zero_le _)⟩
theorem oC_in1 {n : Int} {d w : List Int} {gs hs : List (List Int)} {k i : Nat} (hoc : oC n d (1300 - k) gs k = oAll n d w) (hk : k < gs.length) (hl : gs.length ≤ 1200) (hi : i < n.toNat) (hhs : hs = (List.range i).foldl (oOne n d (gs.getD k [])) gs) : Pre (oOne n d (gs.getD k []) hs i) (oAll n d w) := by
  have h := (oC_in hoc hk hl (i := i + 1) (by omega) rfl).1
  rw [foldl_succ, ← hhs] at h
  exact h
theorem not_in {n : Int} {y : List Int} {L : List (List Int)} (h : ∀ x ∈ L, wtOk n x = true) (hy : wtOk n y = false) : L.contains y = false := by
  cases e : L.contains y with
  | false => rfl
  | true => rw [h y (List.contains_iff_mem.1 e)] at hy; cases hy
section
variable {P : Program} {n : Nat} {env : List (Nat × Value)} {W : World} {own : List Asn}
theorem OD.insertM {o : Oper} {α β : Type} [DecidableEq α] {kE : α → Value} {vE : β → Value} {t kt e g i : Nat} {x y : Operand} {l : List (α × β)} {k : α} {u : Operand} {b : β} (hop : o.op = .insert t x y u) (ht : P.underlying t = some (.map kt e)) (K : KeyE P kt kE) (hx : ev env x = some (.map (some g))) (hy : ev env y = some (kE k)) (hu : ev env u = some (vE b)) (hi : own[i]? = some (mapA kE vE g l)) : OD P o n env W own undef (own.set i (mapA kE vE g (aup k b l))) := fun a w next Q hf hs hk => by
  have hr : (execOp a.eval o).run P w = .ok .skip { w with heap := w.heap.setIfInBounds g (.map (mEnt kE vE 0 (aup k b l)).toArray (aup k b l).length) } := by
    simp [execOp, hop, hf.ev hx, hf.ev hy, hf.ev hu, run_upd ht K (hs.map hi) b]
  unfold Oper.wp
  rw [hr]
  exact hk _ _ _ ⟨rfl, rfl⟩ (map_turn hs hi _ rfl)
end
end Go.Proofs.YtmckgdekblphoaaDoor
