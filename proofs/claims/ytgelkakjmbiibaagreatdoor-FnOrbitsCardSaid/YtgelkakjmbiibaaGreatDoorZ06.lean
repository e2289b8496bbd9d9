/-
  Orbits: what the walks ask: one more element of a map; numbers that can be written.
-/
import Derived.Test.YtgelkakjmbiibaaGreatDoorZ26
import Derived.Test.YtgelkakjmbiibaaGreatDoorSrtA
import Derived.Test.YtgelkakjmbiibaaGreatDoorWCmp
namespace Go.Proofs.YtgelkakjmbiibaaGreatDoor
set_option linter.unusedVariables false
set_option linter.unusedSimpArgs false
open Go.RowKit
theorem rfF_all64 {n i : Int} {d w : List Int} (h : All64 w) : All64 (rfF n d i w) := fold_all64 (g := fun k (o : List Int) => IntKind.i64.wrap (o.getD k 0 - IntKind.i64.wrap (w.getD i.toNat 0 * atI n d k i))) (fun k o => wrap_I64 _) _ _ h
theorem getD_mem {L : List (List Int)} {k : Nat} (hk : k < L.length) : L.getD k [] ∈ L := by
  have e : L.getD k [] = L[k] := by simp [List.getD, hk]
  rw [e]
  exact List.getElem_mem hk
theorem oC_in {n : Int} {d w : List Int} {gs hs : List (List Int)} {k i : Nat} (hoc : oC n d (1300 - k) gs k = oAll n d w) (hk : k < gs.length) (hl : gs.length ≤ 1200) (hi : i ≤ n.toNat) (hhs : hs = (List.range i).foldl (oOne n d (gs.getD k [])) gs) : Pre hs (oAll n d w) ∧ Pre gs hs := by
  rw [oC_go hk hl] at hoc
  rw [← hoc, hhs]
  exact ⟨(oIn_pre hi).trans oC_pre, oIn_pre (i := 0) (Nat.zero_le _)⟩
section
variable {P : Program} {n : Nat} {env : List (Nat × Value)} {W : World} {own : List Asn}
theorem OD.insertM {o : Oper} {α β : Type} [DecidableEq α] {kE : α → Value} {vE : β → Value} {t kt e g i : Nat} {x y : Operand} {l : List (α × β)} {k : α} {u : Operand} {b : β} (hop : o.op = .insert t x y u) (ht : P.underlying t = some (.map kt e)) (K : KeyE P kt kE) (hx : ev env x = some (.map (some g))) (hy : ev env y = some (kE k)) (hu : ev env u = some (vE b)) (hi : own[i]? = some (mapA kE vE g l)) : OD P o n env W own undef (own.set i (mapA kE vE g (aup k b l))) := fun a w next Q hf hs hk => by
  have hr : (execOp a.eval o).run P w = .ok .skip { w with heap := w.heap.setIfInBounds g (.map (mEnt kE vE 0 (aup k b l)).toArray (aup k b l).length) } := by
    simp [execOp, hop, hf.ev hx, hf.ev hy, hf.ev hu, run_upd ht K (hs.map hi) b]
  unfold Oper.wp
  rw [hr]
  exact hk _ _ _ ⟨rfl, rfl⟩ (map_turn hs hi _ rfl)
end
end Go.Proofs.YtgelkakjmbiibaaGreatDoor

namespace Go.Proofs.YtgelkakjmbiibaaGreatDoor
set_option linter.unusedVariables false
set_option linter.unusedSimpArgs false
open Go.RowKit
def rcD (x y : List Int) : Int := cmpL y x
theorem strict_rcD : StrictL rcD := ⟨fun x h => by unfold rcD at h; have := cmpL_self x; omega, fun {x y z} h k => by unfold rcD at *; exact cmpL_trans k h, fun {x y z} h k h2 => by
  unfold rcD at *
  have n1 := cmpL_neg x y
  have n2 := cmpL_neg y z
  have n3 := cmpL_neg x z
  by_cases e1 : cmpL y x = 0
  · rw [cmpL_zero e1] at k
    exact k h2
  · by_cases e2 : cmpL z y = 0
    · rw [cmpL_zero e2] at h2
      exact h h2
    · have := cmpL_trans (x := x) (y := y) (z := z) (by omega) (by omega)
      omega⟩
section
variable {P : Program} {n : Nat} {env : List (Nat × Value)} {W : World} {own : List Asn}
end
end Go.Proofs.YtgelkakjmbiibaaGreatDoor

namespace Go.Proofs.YtgelkakjmbiibaaGreatDoor.D
set_option linter.unusedVariables false
set_option linter.unusedSimpArgs false
open Go.RowKit
set_option maxRecDepth 100000 in
theorem orbitLess_w {W : World} {own : List Asn} {vx : Value} {x : List Int} {vy : Value} {y : List Int}  (sx : IsS vx) (ex : Ent own fun w => Ints w vx x)   (sy : IsS vy) (ey : Ent own fun w => Ints w vy y)  (hl : x.length ≤ 1073741824) (hly : y.length ≤ 1073741824) : Spec Tryz.prog 87 [vx, vy] W own (fun v ow => v = .int .i64 (rcD x y) ∧ ow = own) := by
 refine Spec.enter Tryz.f87 _ Tryz.func87 rfl (n := 8) rfl rfl ?_
 refine GC.seq (GC.region ?_)
 refine G.stepD (OD.assign rfl rfl) rfl rfl rfl ?_
 refine G.nil (GE.then_ (GC.seq (GC.region ?_)))
 refine G.stepD (OD.move rfl rfl) rfl rfl rfl ?_
 refine G.stepD (OD.move rfl rfl) rfl rfl rfl ?_
 refine G.step (OG.call [vy, vx] ent88 rfl rfl rfl rfl (by exact (compare_w sy ey sx ex (hly) (hl)))) rfl rfl rfl ?_
 rintro _ _ ⟨rfl, hzz⟩; obtain rfl := hzz.symm
 refine G.stepD (OD.assign rfl rfl) rfl rfl rfl ?_
 refine G.nil (GE.then_ (GC.ret ?_))
 exact GE.body [] 0 (res1 rfl rfl) rfl (⟨rfl, rfl⟩)
end Go.Proofs.YtgelkakjmbiibaaGreatDoor.D

namespace Go.Proofs.YtgelkakjmbiibaaGreatDoor
set_option linter.unusedVariables false
set_option linter.unusedSimpArgs false
open Go.RowKit
theorem tells_rcD : Tells rcD 87 := fun {_ _ _ _ _ _} sx ex sy ey h1 h2 => D.orbitLess_w sx ex sy ey h1 h2
theorem orB_any {n : Int} {d w : List Int} (h : ((oAll n d w).any fun y => !(wtOk n y)) = true) : orB n d w = false := by
  have h2 : (oAll n d w).all (wtOk n) = false := by
    rw [List.any_eq_true] at h
    obtain ⟨x, hx, hb⟩ := h
    rw [List.all_eq_false]
    exact ⟨x, hx, by simpa using hb⟩
  rw [orB, h2, Bool.and_false]
theorem orB_all {n : Int} {d w : List Int} (hl : (oAll n d w).length ≤ 1200) (h : ((oAll n d w).any fun y => !(wtOk n y)) = false) : orB n d w = true := by
  have h2 : (oAll n d w).all (wtOk n) = true := by
    rw [List.any_eq_false] at h
    rw [List.all_eq_true]
    intro x hx
    have := h x hx
    simpa using this
  rw [orB, h2, decide_eq_true hl]
  rfl
theorem getD_entO {L : List (List Int)} {b : Nat} (h : ∀ x ∈ L, x.length ≤ b) : ∀ k, k < L.length → (L.getD k []).length ≤ b := fun k hk => h _ (getD_mem hk)
end Go.Proofs.YtgelkakjmbiibaaGreatDoor
