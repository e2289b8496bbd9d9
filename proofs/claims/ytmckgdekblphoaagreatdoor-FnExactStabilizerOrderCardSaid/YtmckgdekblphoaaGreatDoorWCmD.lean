/-
  The descending order, with draws that are counted: contracts by walks.
-/
import Derived.Test.YtmckgdekblphoaaGreatDoorWCmp
import Derived.Test.YtmckgdekblphoaaGreatDoorOrbA
namespace Go.Proofs.YtmckgdekblphoaaGreatDoor.D
set_option linter.unusedVariables false
set_option linter.unusedSimpArgs false
open Go.RowKit
set_option maxRecDepth 100000 in
theorem orbitLess_w {W : World} {own : List Asn} {vx : Value} {x : List Int} {vy : Value} {y : List Int}  (sx : IsS vx) (ex : Ent own fun w => Ints w vx x)   (sy : IsS vy) (ey : Ent own fun w => Ints w vy y)  (hl : x.length ≤ 1073741824) (hly : y.length ≤ 1073741824) : Spec Tryz.prog 58 [vx, vy] W own (fun v ow => v = .int .i64 (rcD x y) ∧ ow = own) := by
 refine Spec.enter Tryz.f58 _ Tryz.func58 rfl (n := 8) rfl rfl ?_
 refine GC.seq (GC.region ?_)
 refine G.stepD (OD.assign rfl rfl) rfl rfl rfl ?_
 refine G.nil (GE.then_ (GC.seq (GC.region ?_)))
 refine G.stepD (OD.move rfl rfl) rfl rfl rfl ?_
 refine G.stepD (OD.move rfl rfl) rfl rfl rfl ?_
 refine G.step (OG.call [vy, vx] ent59 rfl rfl rfl rfl (by exact (compare_w sy ey sx ex (hly) (hl)))) rfl rfl rfl ?_
 rintro _ _ ⟨rfl, hzz⟩; obtain rfl := hzz.symm
 refine G.stepD (OD.assign rfl rfl) rfl rfl rfl ?_
 refine G.nil (GE.then_ (GC.ret ?_))
 exact GE.body [] 0 (res1 rfl rfl) rfl (⟨rfl, rfl⟩)
end Go.Proofs.YtmckgdekblphoaaGreatDoor.D
