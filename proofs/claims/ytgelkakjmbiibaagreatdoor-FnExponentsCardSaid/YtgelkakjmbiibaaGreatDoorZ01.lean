/-
  Words at work on roots: roots they stay; those that fall below zero. A check by the kernel for all Cartan matrices. No program is spoken of.
-/
import Derived.Test.YtgelkakjmbiibaaGreatDoorNewA
import Derived.Test.YtgelkakjmbiibaaGreatDoorFct
import Derived.Test.YtgelkakjmbiibaaGreatDoorWNewA
namespace Go.Proofs.YtgelkakjmbiibaaGreatDoor
set_option linter.unusedVariables false
set_option linter.unusedSimpArgs false
open Go.RowKit
structure ClOk (n : Int) (d : List Int) : Prop where
  ht : ∀ x ∈ rSt n d, 1 ≤ sumW x
  cl : ∀ x ∈ rSt n d, ∀ i, i < n.toNat → (rSt n d).contains (rStep n d x i) = true ∨ (x = unitL n.toNat i ∧ rStep n d x i = mnF x)
def prOfL (n : Int) (d : List Int) : List (List Int) := if (tyS n d).isSome then rSt n d else []
section
variable {P : Program} {n : Nat} {env : List (Nat × Value)} {W : World} {own : List Asn}
end
end Go.Proofs.YtgelkakjmbiibaaGreatDoor

namespace Go.Proofs.YtgelkakjmbiibaaGreatDoor
set_option linter.unusedVariables false
set_option linter.unusedSimpArgs false
open Go.RowKit
theorem fd80_1 : FD Tryz.prog 80 1 2 := by have h := fd_of (f := 1) Tryz.underlying80 rfl (fun w => by kernel_rfl); exact h
theorem ent93 : ∀ us w, (callFunc 93 us).run Tryz.prog w = .ok (.enter 93 us) w := fun us w => by kernel_rfl
set_option maxRecDepth 100000 in
theorem positiveRoots_w {W : World} {own : List Asn} {cr : Int} {vcd : Value} {cd : List Int}  (scd : IsS vcd) (ecd : Ent own fun w => Ints w vcd cd)  (hl0 : cd.length ≤ 1073741824) (hg : Ent own fun w => ∃ m, w.cell? ⟨Tryz.l146_ren.g 1, 0, none⟩ = some (.int .i64 m)) (htab : Ent own Pow10) : Spec Tryz.prog 35 [.agg #[.int .i64 (cr), vcd]] W own (fun v ow => ∃ (r0 : Value) (u0 : List Value), v = r0 ∧ IsS r0 ∧ AllS u0 ∧ u0.length = (prOfL cr cd).length ∧ ow = lst 22 r0 u0 :: many (ints 3) u0 (prOfL cr cd) :: own) := by
 refine Spec.enter Tryz.f35 _ Tryz.func35 rfl (n := 10) rfl rfl ?_
 refine GC.seq (GC.region ?_)
 refine G.step (OG.box (cs := [.int .i64 (cr), vcd]) rfl rfl rfl) rfl rfl rfl ?_
 rintro _ _ ⟨g1, rfl, rfl⟩
 refine G.stepD (OD.assign rfl rfl) rfl rfl rfl ?_
 refine G.nil (GE.then_ (GC.seq (GC.seq (GC.region ?_))))
 refine G.stepD (OD.loadAgg rfl ti27 rfl (i := 0) rfl (us := [.int .i64 (cr), vcd]) rfl rfl) rfl rfl rfl ?_
 refine G.step (OG.call [.agg #[.int .i64 (cr), vcd]] ent43 rfl rfl rfl rfl (by exact (isCartan_w scd (Ent.drop 1 ecd) (hl0) ((Ent.drop 1 hg))))) rfl rfl rfl ?_
 rintro _ _ ⟨rfl, rfl⟩
 refine G.stepD (OD.not rfl rfl) rfl rfl rfl ?_
 refine G.nil (GE.then_ ?_)
 refine GC.cond rfl (fun hc2 => ?_) (fun hc2 => ?_)
 replace hc2 := eq_false_of_not hc2
 have hS := hc2
 refine GC.seq (GC.region ?_)
 refine G.stepD (OD.assign rfl rfl) rfl rfl rfl ?_
 refine G.nil (GE.then_ (GC.ret (GE.passR ?_)))
 refine GE.many0 (ints 3) ?_
 refine GE.nilLst 22 ?_
 exact GE.body [0, 0] 1 (res1 rfl rfl) rfl (⟨(.slice none 0 0), [], rfl, IsS.nil, AllS.nil, (by rw [prOfL, hS] <;> rfl), congrArg (fun (l0 : List (List Int)) => lst 22 (.slice none 0 0) [] :: many (ints 3) [] l0 :: own) ((by rw [prOfL, hS] <;> rfl : [] = prOfL cr cd))⟩)
 replace hc2 := eq_true_of_not hc2
 have hS := hc2
 refine GC.skip (GE.then_ (GC.seq (GC.region ?_)))
 refine G.stepD (OD.loadAgg rfl ti27 rfl (i := 0) rfl (us := [.int .i64 (cr), vcd]) rfl rfl) rfl rfl rfl ?_
 refine G.step (OG.call [.agg #[.int .i64 (cr), vcd]] ent78 rfl rfl rfl rfl (by exact (newRoots_w scd (Ent.drop 1 ecd) ((tyS_ok hS).1) ((tyS_ok hS).2) (hS) ((Ent.drop 1 htab))))) rfl rfl rfl ?_
 rintro _ _ ⟨v3, u4, g8, rfl, hs5, hs6, hs7, rfl⟩
 refine G.stepD (OD.field (us := [.int .i64 (cr), vcd, v3, .map (some g8)]) rfl fd80_1 rfl rfl) rfl rfl rfl ?_
 refine G.step (OG.call [v3] ent93 rfl rfl rfl rfl (by exact (copyLists_w hs5 (Ent.len (Ent.lst (i := 0) rfl) (by omega)) (fun k hk => Ent.manyInts (i := 1) (k := k) rfl ⟨by omega, hk⟩) (by omega) hs6 (by have h1 := (rtOk hS).slen; have h2 := (rtOk hS).few; omega) (fun k hk => by have h1 := ((rtOk hS).sget hk).1; have h2 := (rtOk hS).rk; omega)))) rfl rfl rfl ?_
 rintro v9 _ ⟨_, u10, rfl, hs11, hs12, hs13, rfl⟩
 refine G.stepD (OD.assign rfl rfl) rfl rfl rfl ?_
 refine G.nil (GE.then_ (GC.ret ?_))
 exact GE.body [0, 0] 4 (res1 rfl rfl) rfl (⟨v9, u10, rfl, hs11, hs12, (by rw [prOfL, if_pos hS]; omega), congrArg (fun (l0 : List (List Int)) => lst 22 v9 u10 :: many (ints 3) u10 l0 :: own) ((by rw [prOfL, if_pos hS] : rSt cr cd = prOfL cr cd))⟩)
end Go.Proofs.YtgelkakjmbiibaaGreatDoor
