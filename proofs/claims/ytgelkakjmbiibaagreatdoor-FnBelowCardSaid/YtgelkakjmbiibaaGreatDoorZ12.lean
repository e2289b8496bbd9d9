/-
  The library's sort at this seat's program: that it bears what its contract asks (printed by a program out of the library's own command).
-/
import Derived.Test.YtgelkakjmbiibaaGreatDoorLay
import Derived.Shelf.SlSortCmp.Whole1
import Derived.Test.YtgelkakjmbiibaaGreatDoorZ16
import Derived.Lib.FrozenHead
import Derived.Test.YtgelkakjmbiibaaGreatDoorRts
import Derived.Test.YtgelkakjmbiibaaGreatDoorMap
import Derived.Test.YtgelkakjmbiibaaGreatDoorDOps
import Derived.Test.YtgelkakjmbiibaaGreatDoorZ17
namespace Go.Proofs
set_option linter.unusedVariables false
set_option linter.unusedSimpArgs false
open Go.Shelf
def Tryz.l6_ren : Go.Shelf.Ren := ⟨fun | 6 => 86 | 15 => 140 | 14 => 139 | 28 => 177 | 29 => 178 | 20 => 169 | 21 => 170 | 22 => 171 | 23 => 172 | 24 => 173 | 25 => 174 | 26 => 175 | 27 => 176 | 46 => 192 | 47 => 193 | 48 => 194 | 49 => 195 | 50 => 196 | 57 => 207 | n => n, fun | 22 => 39 | 24 => 22 | 25 => 86 | 3 => 3 | 39 => 128 | 0 => 0 | 53 => 160 | 55 => 162 | 4 => 4 | 46 => 154 | 45 => 153 | 50 => 121 | 5 => 5 | 9 => 9 | 66 => 170 | 70 => 174 | 76 => 185 | 77 => 59 | n => n, fun | n => n⟩
theorem Tryz.l6 : Go.Proofs.SlLaysF.n6 Tryz.prog Tryz.l6_ren := {
  mixed := by kernel_rfl,
  f6 := ⟨"slices.SortFunc[[][]int,[]int]", by decide, Tryz.func86.trans (congrArg some (by kernel_rfl))⟩,
  f14 := ⟨"slices.pdqsortCmpFunc[[]int]", by decide, Tryz.func139.trans (congrArg some (by kernel_rfl))⟩,
  f15 := Tryz.func140.trans (congrArg some (by kernel_rfl)),
  f20 := ⟨"slices.insertionSortCmpFunc[[]int]", by decide, Tryz.func169.trans (congrArg some (by kernel_rfl))⟩,
  f21 := ⟨"slices.heapSortCmpFunc[[]int]", by decide, Tryz.func170.trans (congrArg some (by kernel_rfl))⟩,
  f22 := ⟨"slices.breakPatternsCmpFunc[[]int]", by decide, Tryz.func171.trans (congrArg some (by kernel_rfl))⟩,
  f23 := ⟨"slices.choosePivotCmpFunc[[]int]", by decide, Tryz.func172.trans (congrArg some (by kernel_rfl))⟩,
  f24 := ⟨"slices.reverseRangeCmpFunc[[]int]", by decide, Tryz.func173.trans (congrArg some (by kernel_rfl))⟩,
  f25 := ⟨"slices.partialInsertionSortCmpFunc[[]int]", by decide, Tryz.func174.trans (congrArg some (by kernel_rfl))⟩,
  f26 := ⟨"slices.partitionEqualCmpFunc[[]int]", by decide, Tryz.func175.trans (congrArg some (by kernel_rfl))⟩,
  f27 := ⟨"slices.partitionCmpFunc[[]int]", by decide, Tryz.func176.trans (congrArg some (by kernel_rfl))⟩,
  f28 := Tryz.func177.trans (congrArg some (by kernel_rfl)),
  f29 := Tryz.func178.trans (congrArg some (by kernel_rfl)),
  f46 := ⟨"slices.siftDownCmpFunc[[]int]", by decide, Tryz.func192.trans (congrArg some (by kernel_rfl))⟩,
  f47 := Tryz.func193.trans (congrArg some (by kernel_rfl)),
  f48 := Tryz.func194.trans (congrArg some (by kernel_rfl)),
  f49 := ⟨"slices.medianAdjacentCmpFunc[[]int]", by decide, Tryz.func195.trans (congrArg some (by kernel_rfl))⟩,
  f50 := ⟨"slices.medianCmpFunc[[]int]", by decide, Tryz.func196.trans (congrArg some (by kernel_rfl))⟩,
  f57 := ⟨"slices.order2CmpFunc[[]int]", by decide, Tryz.func207.trans (congrArg some (by kernel_rfl))⟩,
  t0 := Tryz.underlying0,
  a0 := Tryz.isAgg0,
  z0 := Tryz.sizeOf0,
  v0 := Tryz.zeroValue0,
  t3 := Tryz.underlying3,
  a3 := Tryz.isAgg3,
  z3 := Tryz.sizeOf3,
  v3 := Tryz.zeroValue3,
  t4 := Tryz.underlying4,
  a4 := Tryz.isAgg4,
  z4 := Tryz.sizeOf4,
  v4 := Tryz.zeroValue4,
  t5 := Tryz.underlying5,
  a5 := Tryz.isAgg5,
  z5 := Tryz.sizeOf5,
  v5 := Tryz.zeroValue5,
  t9 := Tryz.underlying9,
  a9 := Tryz.isAgg9,
  z9 := Tryz.sizeOf9,
  v9 := Tryz.zeroValue9,
  t22 := Tryz.underlying39,
  a22 := Tryz.isAgg39,
  z22 := Tryz.sizeOf39,
  v22 := Tryz.zeroValue39,
  a24 := Tryz.isAgg22,
  z24 := Tryz.sizeOf22,
  t25 := Tryz.underlying86,
  a25 := Tryz.isAgg86,
  z25 := Tryz.sizeOf86,
  v25 := Tryz.zeroValue86,
  t39 := Tryz.underlying128,
  a39 := Tryz.isAgg128,
  z39 := Tryz.sizeOf128,
  v39 := Tryz.zeroValue128,
  t45 := Tryz.underlying153,
  a45 := Tryz.isAgg153,
  z45 := Tryz.sizeOf153,
  v45 := Tryz.zeroValue153,
  t46 := Tryz.underlying154,
  a46 := Tryz.isAgg154,
  z46 := Tryz.sizeOf154,
  v46 := Tryz.zeroValue154,
  t50 := Tryz.underlying121,
  a50 := Tryz.isAgg121,
  z50 := Tryz.sizeOf121,
  v50 := Tryz.zeroValue121,
  t53 := Tryz.underlying160,
  a53 := Tryz.isAgg160,
  z53 := Tryz.sizeOf160,
  v53 := Tryz.zeroValue160,
  t55 := Tryz.underlying162,
  a55 := Tryz.isAgg162,
  z55 := Tryz.sizeOf162,
  v55 := Tryz.zeroValue162,
  t66 := Tryz.underlying170,
  a66 := Tryz.isAgg170,
  z66 := Tryz.sizeOf170,
  v66 := Tryz.zeroValue170,
  t70 := Tryz.underlying174,
  a70 := Tryz.isAgg174,
  z70 := Tryz.sizeOf174,
  v70 := Tryz.zeroValue174,
  t76 := Tryz.underlying185,
  a76 := Tryz.isAgg185,
  z76 := Tryz.sizeOf185,
  v76 := Tryz.zeroValue185,
  t77 := Tryz.underlying59,
  a77 := Tryz.isAgg59,
  z77 := Tryz.sizeOf59,
  v77 := Tryz.zeroValue59 }
end Go.Proofs

namespace Go.Proofs.YtgelkakjmbiibaaGreatDoor
set_option linter.unusedVariables false
set_option linter.unusedSimpArgs false
open Go.RowKit
section
variable {P : Program} {n : Nat} {env : List (Nat × Value)} {W : World} {own : List Asn} {o : Oper}
theorem OD.min {c : Call} {x y : Operand} {k : IntKind} {i j : Int} {ts : Array TypeId} (hop : o.op = .call c) (hc : c = { callee := .builtin .min, args := #[x, y], argTypes := ts }) (hx : ev env x = some (.int k i)) (hy : ev env y = some (.int k j)) : OD P o n env W own (.int k (Min.min i j)) own :=
  .of fun a w hf _ => by
    subst hc
    have e : (if j < i then j else i) = Min.min i j := by
      by_cases h : j < i
      · rw [if_pos h, Int.min_eq_right (by omega)]
      · rw [if_neg h, Int.min_eq_left (by omega)]
    have h := run_min_int2 (P := P) (w := w) ts o.type k k i j
    rw [e] at h
    simp only [execOp, hop, resolve, invoke, builtin, hf.ev hx, hf.ev hy]
    simpa [hf.ev hx, hf.ev hy] using run_val h
section
variable {e sz m : Nat} {x : Operand} {v u zero : Value} {cs us : List Value} {pl : List (Nat × Nat)} {j d i : Nat}
end
end
end Go.Proofs.YtgelkakjmbiibaaGreatDoor

namespace Go.Proofs.YtgelkakjmbiibaaGreatDoor
set_option linter.unusedVariables false
set_option linter.unusedSimpArgs false
open Go.RowKit
section
variable {P : Program} {n : Nat} {env : List (Nat × Value)} {W : World} {own : List Asn}
theorem Ent.len {v : Value} {m k sz : Nat} {cs : List Value} (h : Ent own fun w => Sl w v m sz cs) (e : m = k) : Ent own fun w => Sl w v k sz cs := e ▸ h
theorem AllS.part {us : List Value} (h : AllS us) (l m : Nat) : AllS ((us.drop l).take m) := fun u hu => h u (List.mem_of_mem_drop (List.mem_of_mem_take hu))
theorem AllS.app {us vs : List Value} (h : AllS us) (k : AllS vs) : AllS (us ++ vs) := fun u hu => by
  rcases List.mem_append.1 hu with hu | hu
  · exact h u hu
  · exact k u hu
end
theorem takeD_snoc {α : Type} {L : List α} {p : Nat} {d : α} (hp : p < L.length) : L.take (p + 1) = L.take p ++ [L.getD p d] := by
  rw [List.take_succ_eq_append_getElem hp]
  simp [List.getD, hp]
theorem RtOk.first {n : Int} {d : List Int} (h : RtOk n d) {i : Nat} (hi : n.toNat ≤ i) (hi2 : i ≤ n.toNat) : rC n d 40 ((List.range i).map (unitL n.toNat)) 0 = some (rFd n d) := by
  have e : i = n.toNat := by omega
  subst e
  exact h.run
theorem RtOk.arI {n : Int} {d : List Int} (h : RtOk n d) {x y : List Int} {i : Nat} (e : x = y) (hl : x.length = n.toNat) (hb : ∀ j, 0 ≤ x.getD j 0 ∧ x.getD j 0 ≤ 10) (hi : i < n.toNat) : arI n d (i : Int) x = rStep n d y i := by
  subst e
  exact arI_step h.mat (fun k _ => by have := hb k; omega) hl h.rk (by simpa using hi)
end Go.Proofs.YtgelkakjmbiibaaGreatDoor

namespace Go.Proofs.YtgelkakjmbiibaaGreatDoor.D
set_option linter.unusedVariables false
set_option linter.unusedSimpArgs false
open Go.RowKit
theorem ti3 : TI Tryz.prog 3 false 1 (.int .i64 (0)) [] := ⟨fun w => by kernel_rfl, by kernel_rfl, fun h => by cases h⟩
theorem et22 : ET Tryz.prog 22 3 1 8 (.int .i64 (0)) := ⟨Tryz.underlying22, by kernel_rfl, rfl, by omega⟩
end Go.Proofs.YtgelkakjmbiibaaGreatDoor.D

namespace Go.Proofs.YtgelkakjmbiibaaGreatDoor
set_option linter.unusedVariables false
set_option linter.unusedSimpArgs false
open Go.RowKit
structure StrictL (rc : List Int → List Int → Int) : Prop where
  irr : ∀ x, ¬ rc x x < 0
  trans : ∀ {x y z}, rc x y < 0 → rc y z < 0 → rc x z < 0
  ntrans : ∀ {x y z}, ¬ rc x y < 0 → ¬ rc y z < 0 → ¬ rc x z < 0
def El (w : World) (g : Nat) : Type := { p : Value × List Int // (Ints w p.1 p.2 ∧ p.2.length ≤ 1073741824) ∧ IsS p.1 ∧ p.1.ownBlock ≠ some g }
instance (w : World) (g : Nat) : Inhabited (El w g) := ⟨⟨(.slice none 0 0, []), ⟨Sl.nil w 1, by simp⟩, IsS.nil, by simp [Value.ownBlock]⟩⟩
def El.enc {w : World} {g : Nat} (x : El w g) : Value := x.1.1
theorem El.one {w : World} {g : Nat} : OneCell (El.enc (w := w) (g := g)) := fun x => x.2.2.1.one
section
open Go.Sort
end
end Go.Proofs.YtgelkakjmbiibaaGreatDoor
namespace Go.Proofs.YtgelkakjmbiibaaGreatDoor
set_option linter.unusedVariables false
set_option linter.unusedSimpArgs false
open Go.RowKit
end Go.Proofs.YtgelkakjmbiibaaGreatDoor
