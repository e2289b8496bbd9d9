/-
  What the program says of types, functions and maps, one by one.
-/
import Derived.Test.YtgelkakjmbiibaaGreatDoorCarQ
import Derived.Test.YtgelkakjmbiibaaGreatDoorZ11
import Derived.Test.YtgelkakjmbiibaaGreatDoorZ14
namespace Go.Proofs.YtgelkakjmbiibaaGreatDoor
set_option linter.unusedVariables false
set_option linter.unusedSimpArgs false
open Go.RowKit
theorem ti3 : TI Tryz.prog 3 false 1 (.int .i64 (0)) [] := ⟨fun w => by kernel_rfl, by kernel_rfl, fun h => by cases h⟩
theorem ti9 : TI Tryz.prog 9 false 1 (.string (⟨#[]⟩)) [] := ⟨fun w => by kernel_rfl, by kernel_rfl, fun h => by cases h⟩
theorem ti22 : TI Tryz.prog 22 false 1 (.slice none 0 0) [] := ⟨fun w => by kernel_rfl, by kernel_rfl, fun h => by cases h⟩
theorem ti24 : TI Tryz.prog 24 true 2 (.agg #[.int .i64 (0), .slice none 0 0]) [(0, 1), (1, 1)] := ⟨fun w => by kernel_rfl, by kernel_rfl, fun _ => ⟨_, Tryz.underlying24, fun w => by kernel_rfl⟩⟩
theorem ti27 : TI Tryz.prog 27 true 2 (.agg #[.int .i64 (0), .slice none 0 0]) [(0, 1), (1, 1)] := ⟨fun w => by kernel_rfl, by kernel_rfl, fun _ => ⟨_, Tryz.underlying27, fun w => by kernel_rfl⟩⟩
theorem ti39 : TI Tryz.prog 39 false 1 (.slice none 0 0) [] := ⟨fun w => by kernel_rfl, by kernel_rfl, fun h => by cases h⟩
theorem ti78 : TI Tryz.prog 78 false 1 (.map none) [] := ⟨fun w => by kernel_rfl, by kernel_rfl, fun h => by cases h⟩
theorem ti80 : TI Tryz.prog 80 true 4 (.agg #[.int .i64 (0), .slice none 0 0, .slice none 0 0, .map none]) [(0, 2), (2, 1), (3, 1)] := ⟨fun w => by kernel_rfl, by kernel_rfl, fun _ => ⟨_, Tryz.underlying80, fun w => by kernel_rfl⟩⟩
theorem ti93 : TI Tryz.prog 93 false 1 (.slice none 0 0) [] := ⟨fun w => by kernel_rfl, by kernel_rfl, fun h => by cases h⟩
theorem ti138 : TI Tryz.prog 138 false 1 (.nilFunc) [] := ⟨fun w => by kernel_rfl, by kernel_rfl, fun h => by cases h⟩
theorem et22 : ET Tryz.prog 22 3 1 8 (.int .i64 (0)) := ⟨Tryz.underlying22, by kernel_rfl, rfl, by omega⟩
theorem et39 : ET Tryz.prog 39 22 1 24 (.slice none 0 0) := ⟨Tryz.underlying39, by kernel_rfl, rfl, by omega⟩
theorem et93 : ET Tryz.prog 93 9 1 16 (.string (⟨#[]⟩)) := ⟨Tryz.underlying93, by kernel_rfl, rfl, by omega⟩
theorem et97 : ET Tryz.prog 97 27 2 32 (.agg #[.int .i64 (0), .slice none 0 0]) := ⟨Tryz.underlying97, by kernel_rfl, rfl, by omega⟩
theorem et100 : ET Tryz.prog 100 93 1 24 (.slice none 0 0) := ⟨Tryz.underlying100, by kernel_rfl, rfl, by omega⟩
theorem fa24_0 : ∀ (b k : Nat) w, (Instr.fieldAt 24 (.pointer (some ⟨b, k, none⟩)) 0).run Tryz.prog w = .ok (.pointer (some ⟨b, k + 0, none⟩)) w := fun b k w => by kernel_rfl
theorem fa24_1 : ∀ (b k : Nat) w, (Instr.fieldAt 24 (.pointer (some ⟨b, k, none⟩)) 1).run Tryz.prog w = .ok (.pointer (some ⟨b, k + 1, none⟩)) w := fun b k w => by kernel_rfl
theorem fa27_0 : ∀ (b k : Nat) w, (Instr.fieldAt 27 (.pointer (some ⟨b, k, none⟩)) 0).run Tryz.prog w = .ok (.pointer (some ⟨b, k + 0, none⟩)) w := fun b k w => by kernel_rfl
theorem fa27_1 : ∀ (b k : Nat) w, (Instr.fieldAt 27 (.pointer (some ⟨b, k, none⟩)) 1).run Tryz.prog w = .ok (.pointer (some ⟨b, k + 1, none⟩)) w := fun b k w => by kernel_rfl
theorem fa80_1 : ∀ (b k : Nat) w, (Instr.fieldAt 80 (.pointer (some ⟨b, k, none⟩)) 1).run Tryz.prog w = .ok (.pointer (some ⟨b, k + 2, none⟩)) w := fun b k w => by kernel_rfl
theorem fa80_2 : ∀ (b k : Nat) w, (Instr.fieldAt 80 (.pointer (some ⟨b, k, none⟩)) 2).run Tryz.prog w = .ok (.pointer (some ⟨b, k + 3, none⟩)) w := fun b k w => by kernel_rfl
theorem ent15 : ∀ us w, (callFunc 15 us).run Tryz.prog w = .ok (.enter 15 us) w := fun us w => by kernel_rfl
theorem ent18 : ∀ us w, (callFunc 18 us).run Tryz.prog w = .ok (.enter 18 us) w := fun us w => by kernel_rfl
theorem ent42 : ∀ us w, (callFunc 42 us).run Tryz.prog w = .ok (.enter 42 us) w := fun us w => by kernel_rfl
theorem ent43 : ∀ us w, (callFunc 43 us).run Tryz.prog w = .ok (.enter 43 us) w := fun us w => by kernel_rfl
theorem ent44 : ∀ us w, (callFunc 44 us).run Tryz.prog w = .ok (.enter 44 us) w := fun us w => by kernel_rfl
theorem ent55 : ∀ us w, (callFunc 55 us).run Tryz.prog w = .ok (.enter 55 us) w := fun us w => by kernel_rfl
theorem ent64 : ∀ us w, (callFunc 64 us).run Tryz.prog w = .ok (.enter 64 us) w := fun us w => by kernel_rfl
theorem ent67 : ∀ us w, (callFunc 67 us).run Tryz.prog w = .ok (.enter 67 us) w := fun us w => by kernel_rfl
theorem ent76 : ∀ us w, (callFunc 76 us).run Tryz.prog w = .ok (.enter 76 us) w := fun us w => by kernel_rfl
theorem ent78 : ∀ us w, (callFunc 78 us).run Tryz.prog w = .ok (.enter 78 us) w := fun us w => by kernel_rfl
theorem ent82 : ∀ us w, (callFunc 82 us).run Tryz.prog w = .ok (.enter 82 us) w := fun us w => by kernel_rfl
theorem ent86 : ∀ us w, (callFunc 86 us).run Tryz.prog w = .ok (.enter 86 us) w := fun us w => by kernel_rfl
theorem ent89 : ∀ us w, (callFunc 89 us).run Tryz.prog w = .ok (.enter 89 us) w := fun us w => by kernel_rfl
theorem ent97 : ∀ us w, (callFunc 97 us).run Tryz.prog w = .ok (.enter 97 us) w := fun us w => by kernel_rfl
theorem ent100 : ∀ us w, (callFunc 100 us).run Tryz.prog w = .ok (.enter 100 us) w := fun us w => by kernel_rfl
theorem ent101 : ∀ us w, (callFunc 101 us).run Tryz.prog w = .ok (.enter 101 us) w := fun us w => by kernel_rfl
theorem ent102 : ∀ us w, (callFunc 102 us).run Tryz.prog w = .ok (.enter 102 us) w := fun us w => by kernel_rfl
theorem ent103 : ∀ us w, (callFunc 103 us).run Tryz.prog w = .ok (.enter 103 us) w := fun us w => by kernel_rfl
theorem ent104 : ∀ us w, (callFunc 104 us).run Tryz.prog w = .ok (.enter 104 us) w := fun us w => by kernel_rfl
theorem ent105 : ∀ us w, (callFunc 105 us).run Tryz.prog w = .ok (.enter 105 us) w := fun us w => by kernel_rfl
theorem ent106 : ∀ us w, (callFunc 106 us).run Tryz.prog w = .ok (.enter 106 us) w := fun us w => by kernel_rfl
theorem ent109 : ∀ us w, (callFunc 109 us).run Tryz.prog w = .ok (.enter 109 us) w := fun us w => by kernel_rfl
theorem ent116 : ∀ us w, (callFunc 116 us).run Tryz.prog w = .ok (.enter 116 us) w := fun us w => by kernel_rfl
theorem ent118 : ∀ us w, (callFunc 118 us).run Tryz.prog w = .ok (.enter 118 us) w := fun us w => by kernel_rfl
theorem ent120 : ∀ us w, (callFunc 120 us).run Tryz.prog w = .ok (.enter 120 us) w := fun us w => by kernel_rfl
theorem ent121 : ∀ us w, (callFunc 121 us).run Tryz.prog w = .ok (.enter 121 us) w := fun us w => by kernel_rfl
theorem ent122 : ∀ us w, (callFunc 122 us).run Tryz.prog w = .ok (.enter 122 us) w := fun us w => by kernel_rfl
theorem ent125 : ∀ us w, (callFunc 125 us).run Tryz.prog w = .ok (.enter 125 us) w := fun us w => by kernel_rfl
theorem ent126 : ∀ us w, (callFunc 126 us).run Tryz.prog w = .ok (.enter 126 us) w := fun us w => by kernel_rfl
theorem ent127 : ∀ us w, (callFunc 127 us).run Tryz.prog w = .ok (.enter 127 us) w := fun us w => by kernel_rfl
theorem ent128 : ∀ us w, (callFunc 128 us).run Tryz.prog w = .ok (.enter 128 us) w := fun us w => by kernel_rfl
theorem ent129 : ∀ us w, (callFunc 129 us).run Tryz.prog w = .ok (.enter 129 us) w := fun us w => by kernel_rfl
theorem ent132 : ∀ us w, (callFunc 132 us).run Tryz.prog w = .ok (.enter 132 us) w := fun us w => by kernel_rfl
theorem ent133 : ∀ us w, (callFunc 133 us).run Tryz.prog w = .ok (.enter 133 us) w := fun us w => by kernel_rfl
theorem ent136 : ∀ us w, (callFunc 136 us).run Tryz.prog w = .ok (.enter 136 us) w := fun us w => by kernel_rfl
theorem ent143 : ∀ us w, (callFunc 143 us).run Tryz.prog w = .ok (.enter 143 us) w := fun us w => by kernel_rfl
theorem ent145 : ∀ us w, (callFunc 145 us).run Tryz.prog w = .ok (.enter 145 us) w := fun us w => by kernel_rfl
theorem ent146 : ∀ us w, (callFunc 146 us).run Tryz.prog w = .ok (.enter 146 us) w := fun us w => by kernel_rfl
theorem ent147 : ∀ us w, (callFunc 147 us).run Tryz.prog w = .ok (.enter 147 us) w := fun us w => by kernel_rfl
theorem ent148 : ∀ us w, (callFunc 148 us).run Tryz.prog w = .ok (.enter 148 us) w := fun us w => by kernel_rfl
theorem ent156 : ∀ us w, (callFunc 156 us).run Tryz.prog w = .ok (.enter 156 us) w := fun us w => by kernel_rfl
theorem ent157 : ∀ us w, (callFunc 157 us).run Tryz.prog w = .ok (.enter 157 us) w := fun us w => by kernel_rfl
theorem ent158 : ∀ us w, (callFunc 158 us).run Tryz.prog w = .ok (.enter 158 us) w := fun us w => by kernel_rfl
theorem ent159 : ∀ us w, (callFunc 159 us).run Tryz.prog w = .ok (.enter 159 us) w := fun us w => by kernel_rfl
theorem ent163 : ∀ us w, (callFunc 163 us).run Tryz.prog w = .ok (.enter 163 us) w := fun us w => by kernel_rfl
theorem ent166 : ∀ us w, (callFunc 166 us).run Tryz.prog w = .ok (.enter 166 us) w := fun us w => by kernel_rfl
theorem ent167 : ∀ us w, (callFunc 167 us).run Tryz.prog w = .ok (.enter 167 us) w := fun us w => by kernel_rfl
theorem ent185 : ∀ us w, (callFunc 185 us).run Tryz.prog w = .ok (.enter 185 us) w := fun us w => by kernel_rfl
theorem ent188 : ∀ us w, (callFunc 188 us).run Tryz.prog w = .ok (.enter 188 us) w := fun us w => by kernel_rfl
theorem mt78 : MT Tryz.prog 78 9 3 (.int .i64 0) := ⟨Tryz.underlying78, fun w => by kernel_rfl⟩
theorem ke9keyL : KeyE Tryz.prog 9 keyL := keyL_E Tryz.underlying9
theorem cv3_128 : ∀ i w, (convert 3 128 (.int .i64 i)).run Tryz.prog w = .ok (.int .u64 (IntKind.u64.wrap i)) w := fun i w => by kernel_rfl
theorem cv5_3 : ∀ i w, (convert 5 3 (.int .u8 i)).run Tryz.prog w = .ok (.int .i64 (IntKind.i64.wrap i)) w := fun i w => by kernel_rfl
theorem cv128_3 : ∀ i w, (convert 128 3 (.int .u64 i)).run Tryz.prog w = .ok (.int .i64 (IntKind.i64.wrap i)) w := fun i w => by kernel_rfl
theorem st9 : Tryz.prog.underlying 9 = some .string := Tryz.underlying9
end Go.Proofs.YtgelkakjmbiibaaGreatDoor
