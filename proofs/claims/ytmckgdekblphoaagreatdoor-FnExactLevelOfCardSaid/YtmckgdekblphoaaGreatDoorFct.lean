/-
  What the program says of types, functions and maps, one by one.
-/
import Derived.Test.YtmckgdekblphoaaGreatDoorCarQ
import Derived.Test.YtmckgdekblphoaaGreatDoorOps3
import Derived.Test.YtmckgdekblphoaaGreatDoorMap
namespace Go.Proofs.YtmckgdekblphoaaGreatDoor
set_option linter.unusedVariables false
set_option linter.unusedSimpArgs false
open Go.RowKit
theorem ti3 : TI Tryz.prog 3 false 1 (.int .i64 (0)) [] := ⟨fun w => by kernel_rfl, by kernel_rfl, fun h => by cases h⟩
theorem ti9 : TI Tryz.prog 9 false 1 (.string (⟨#[]⟩)) [] := ⟨fun w => by kernel_rfl, by kernel_rfl, fun h => by cases h⟩
theorem ti22 : TI Tryz.prog 22 false 1 (.slice none 0 0) [] := ⟨fun w => by kernel_rfl, by kernel_rfl, fun h => by cases h⟩
theorem ti24 : TI Tryz.prog 24 true 2 (.agg #[.int .i64 (0), .slice none 0 0]) [(0, 1), (1, 1)] := ⟨fun w => by kernel_rfl, by kernel_rfl, fun _ => ⟨_, Tryz.underlying24, fun w => by kernel_rfl⟩⟩
theorem ti26 : TI Tryz.prog 26 false 1 (.slice none 0 0) [] := ⟨fun w => by kernel_rfl, by kernel_rfl, fun h => by cases h⟩
theorem ti28 : TI Tryz.prog 28 true 2 (.agg #[.int .i64 (0), .slice none 0 0]) [(0, 1), (1, 1)] := ⟨fun w => by kernel_rfl, by kernel_rfl, fun _ => ⟨_, Tryz.underlying28, fun w => by kernel_rfl⟩⟩
theorem ti46 : TI Tryz.prog 46 false 1 (.map none) [] := ⟨fun w => by kernel_rfl, by kernel_rfl, fun h => by cases h⟩
theorem ti48 : TI Tryz.prog 48 true 4 (.agg #[.int .i64 (0), .slice none 0 0, .slice none 0 0, .map none]) [(0, 2), (2, 1), (3, 1)] := ⟨fun w => by kernel_rfl, by kernel_rfl, fun _ => ⟨_, Tryz.underlying48, fun w => by kernel_rfl⟩⟩
theorem ti66 : TI Tryz.prog 66 false 1 (.slice none 0 0) [] := ⟨fun w => by kernel_rfl, by kernel_rfl, fun h => by cases h⟩
theorem ti142 : TI Tryz.prog 142 false 1 (.nilFunc) [] := ⟨fun w => by kernel_rfl, by kernel_rfl, fun h => by cases h⟩
theorem et22 : ET Tryz.prog 22 3 1 8 (.int .i64 (0)) := ⟨Tryz.underlying22, by kernel_rfl, rfl, by omega⟩
theorem et26 : ET Tryz.prog 26 22 1 24 (.slice none 0 0) := ⟨Tryz.underlying26, by kernel_rfl, rfl, by omega⟩
theorem et66 : ET Tryz.prog 66 9 1 16 (.string (⟨#[]⟩)) := ⟨Tryz.underlying66, by kernel_rfl, rfl, by omega⟩
theorem et93 : ET Tryz.prog 93 66 1 24 (.slice none 0 0) := ⟨Tryz.underlying93, by kernel_rfl, rfl, by omega⟩
theorem et126 : ET Tryz.prog 126 28 2 32 (.agg #[.int .i64 (0), .slice none 0 0]) := ⟨Tryz.underlying126, by kernel_rfl, rfl, by omega⟩
theorem fa24_0 : ∀ (b k : Nat) w, (Instr.fieldAt 24 (.pointer (some ⟨b, k, none⟩)) 0).run Tryz.prog w = .ok (.pointer (some ⟨b, k + 0, none⟩)) w := fun b k w => by kernel_rfl
theorem fa24_1 : ∀ (b k : Nat) w, (Instr.fieldAt 24 (.pointer (some ⟨b, k, none⟩)) 1).run Tryz.prog w = .ok (.pointer (some ⟨b, k + 1, none⟩)) w := fun b k w => by kernel_rfl
theorem fa28_0 : ∀ (b k : Nat) w, (Instr.fieldAt 28 (.pointer (some ⟨b, k, none⟩)) 0).run Tryz.prog w = .ok (.pointer (some ⟨b, k + 0, none⟩)) w := fun b k w => by kernel_rfl
theorem fa28_1 : ∀ (b k : Nat) w, (Instr.fieldAt 28 (.pointer (some ⟨b, k, none⟩)) 1).run Tryz.prog w = .ok (.pointer (some ⟨b, k + 1, none⟩)) w := fun b k w => by kernel_rfl
theorem fa48_1 : ∀ (b k : Nat) w, (Instr.fieldAt 48 (.pointer (some ⟨b, k, none⟩)) 1).run Tryz.prog w = .ok (.pointer (some ⟨b, k + 2, none⟩)) w := fun b k w => by kernel_rfl
theorem fa48_2 : ∀ (b k : Nat) w, (Instr.fieldAt 48 (.pointer (some ⟨b, k, none⟩)) 2).run Tryz.prog w = .ok (.pointer (some ⟨b, k + 3, none⟩)) w := fun b k w => by kernel_rfl
theorem ent10 : ∀ us w, (callFunc 10 us).run Tryz.prog w = .ok (.enter 10 us) w := fun us w => by kernel_rfl
theorem ent12 : ∀ us w, (callFunc 12 us).run Tryz.prog w = .ok (.enter 12 us) w := fun us w => by kernel_rfl
theorem ent15 : ∀ us w, (callFunc 15 us).run Tryz.prog w = .ok (.enter 15 us) w := fun us w => by kernel_rfl
theorem ent20 : ∀ us w, (callFunc 20 us).run Tryz.prog w = .ok (.enter 20 us) w := fun us w => by kernel_rfl
theorem ent22 : ∀ us w, (callFunc 22 us).run Tryz.prog w = .ok (.enter 22 us) w := fun us w => by kernel_rfl
theorem ent24 : ∀ us w, (callFunc 24 us).run Tryz.prog w = .ok (.enter 24 us) w := fun us w => by kernel_rfl
theorem ent25 : ∀ us w, (callFunc 25 us).run Tryz.prog w = .ok (.enter 25 us) w := fun us w => by kernel_rfl
theorem ent35 : ∀ us w, (callFunc 35 us).run Tryz.prog w = .ok (.enter 35 us) w := fun us w => by kernel_rfl
theorem ent36 : ∀ us w, (callFunc 36 us).run Tryz.prog w = .ok (.enter 36 us) w := fun us w => by kernel_rfl
theorem ent37 : ∀ us w, (callFunc 37 us).run Tryz.prog w = .ok (.enter 37 us) w := fun us w => by kernel_rfl
theorem ent38 : ∀ us w, (callFunc 38 us).run Tryz.prog w = .ok (.enter 38 us) w := fun us w => by kernel_rfl
theorem ent40 : ∀ us w, (callFunc 40 us).run Tryz.prog w = .ok (.enter 40 us) w := fun us w => by kernel_rfl
theorem ent42 : ∀ us w, (callFunc 42 us).run Tryz.prog w = .ok (.enter 42 us) w := fun us w => by kernel_rfl
theorem ent45 : ∀ us w, (callFunc 45 us).run Tryz.prog w = .ok (.enter 45 us) w := fun us w => by kernel_rfl
theorem ent47 : ∀ us w, (callFunc 47 us).run Tryz.prog w = .ok (.enter 47 us) w := fun us w => by kernel_rfl
theorem ent48 : ∀ us w, (callFunc 48 us).run Tryz.prog w = .ok (.enter 48 us) w := fun us w => by kernel_rfl
theorem ent49 : ∀ us w, (callFunc 49 us).run Tryz.prog w = .ok (.enter 49 us) w := fun us w => by kernel_rfl
theorem ent50 : ∀ us w, (callFunc 50 us).run Tryz.prog w = .ok (.enter 50 us) w := fun us w => by kernel_rfl
theorem ent51 : ∀ us w, (callFunc 51 us).run Tryz.prog w = .ok (.enter 51 us) w := fun us w => by kernel_rfl
theorem ent52 : ∀ us w, (callFunc 52 us).run Tryz.prog w = .ok (.enter 52 us) w := fun us w => by kernel_rfl
theorem ent57 : ∀ us w, (callFunc 57 us).run Tryz.prog w = .ok (.enter 57 us) w := fun us w => by kernel_rfl
theorem ent67 : ∀ us w, (callFunc 67 us).run Tryz.prog w = .ok (.enter 67 us) w := fun us w => by kernel_rfl
theorem ent68 : ∀ us w, (callFunc 68 us).run Tryz.prog w = .ok (.enter 68 us) w := fun us w => by kernel_rfl
theorem ent69 : ∀ us w, (callFunc 69 us).run Tryz.prog w = .ok (.enter 69 us) w := fun us w => by kernel_rfl
theorem ent70 : ∀ us w, (callFunc 70 us).run Tryz.prog w = .ok (.enter 70 us) w := fun us w => by kernel_rfl
theorem ent71 : ∀ us w, (callFunc 71 us).run Tryz.prog w = .ok (.enter 71 us) w := fun us w => by kernel_rfl
theorem ent72 : ∀ us w, (callFunc 72 us).run Tryz.prog w = .ok (.enter 72 us) w := fun us w => by kernel_rfl
theorem ent73 : ∀ us w, (callFunc 73 us).run Tryz.prog w = .ok (.enter 73 us) w := fun us w => by kernel_rfl
theorem ent74 : ∀ us w, (callFunc 74 us).run Tryz.prog w = .ok (.enter 74 us) w := fun us w => by kernel_rfl
theorem ent75 : ∀ us w, (callFunc 75 us).run Tryz.prog w = .ok (.enter 75 us) w := fun us w => by kernel_rfl
theorem ent76 : ∀ us w, (callFunc 76 us).run Tryz.prog w = .ok (.enter 76 us) w := fun us w => by kernel_rfl
theorem ent77 : ∀ us w, (callFunc 77 us).run Tryz.prog w = .ok (.enter 77 us) w := fun us w => by kernel_rfl
theorem ent81 : ∀ us w, (callFunc 81 us).run Tryz.prog w = .ok (.enter 81 us) w := fun us w => by kernel_rfl
theorem ent83 : ∀ us w, (callFunc 83 us).run Tryz.prog w = .ok (.enter 83 us) w := fun us w => by kernel_rfl
theorem ent84 : ∀ us w, (callFunc 84 us).run Tryz.prog w = .ok (.enter 84 us) w := fun us w => by kernel_rfl
theorem ent85 : ∀ us w, (callFunc 85 us).run Tryz.prog w = .ok (.enter 85 us) w := fun us w => by kernel_rfl
theorem ent86 : ∀ us w, (callFunc 86 us).run Tryz.prog w = .ok (.enter 86 us) w := fun us w => by kernel_rfl
theorem ent87 : ∀ us w, (callFunc 87 us).run Tryz.prog w = .ok (.enter 87 us) w := fun us w => by kernel_rfl
theorem ent88 : ∀ us w, (callFunc 88 us).run Tryz.prog w = .ok (.enter 88 us) w := fun us w => by kernel_rfl
theorem ent89 : ∀ us w, (callFunc 89 us).run Tryz.prog w = .ok (.enter 89 us) w := fun us w => by kernel_rfl
theorem ent98 : ∀ us w, (callFunc 98 us).run Tryz.prog w = .ok (.enter 98 us) w := fun us w => by kernel_rfl
theorem ent101 : ∀ us w, (callFunc 101 us).run Tryz.prog w = .ok (.enter 101 us) w := fun us w => by kernel_rfl
theorem ent102 : ∀ us w, (callFunc 102 us).run Tryz.prog w = .ok (.enter 102 us) w := fun us w => by kernel_rfl
theorem ent103 : ∀ us w, (callFunc 103 us).run Tryz.prog w = .ok (.enter 103 us) w := fun us w => by kernel_rfl
theorem ent104 : ∀ us w, (callFunc 104 us).run Tryz.prog w = .ok (.enter 104 us) w := fun us w => by kernel_rfl
theorem ent105 : ∀ us w, (callFunc 105 us).run Tryz.prog w = .ok (.enter 105 us) w := fun us w => by kernel_rfl
theorem ent106 : ∀ us w, (callFunc 106 us).run Tryz.prog w = .ok (.enter 106 us) w := fun us w => by kernel_rfl
theorem ent107 : ∀ us w, (callFunc 107 us).run Tryz.prog w = .ok (.enter 107 us) w := fun us w => by kernel_rfl
theorem ent108 : ∀ us w, (callFunc 108 us).run Tryz.prog w = .ok (.enter 108 us) w := fun us w => by kernel_rfl
theorem ent109 : ∀ us w, (callFunc 109 us).run Tryz.prog w = .ok (.enter 109 us) w := fun us w => by kernel_rfl
theorem ent110 : ∀ us w, (callFunc 110 us).run Tryz.prog w = .ok (.enter 110 us) w := fun us w => by kernel_rfl
theorem ent111 : ∀ us w, (callFunc 111 us).run Tryz.prog w = .ok (.enter 111 us) w := fun us w => by kernel_rfl
theorem ent112 : ∀ us w, (callFunc 112 us).run Tryz.prog w = .ok (.enter 112 us) w := fun us w => by kernel_rfl
theorem ent113 : ∀ us w, (callFunc 113 us).run Tryz.prog w = .ok (.enter 113 us) w := fun us w => by kernel_rfl
theorem ent114 : ∀ us w, (callFunc 114 us).run Tryz.prog w = .ok (.enter 114 us) w := fun us w => by kernel_rfl
theorem ent117 : ∀ us w, (callFunc 117 us).run Tryz.prog w = .ok (.enter 117 us) w := fun us w => by kernel_rfl
theorem ent118 : ∀ us w, (callFunc 118 us).run Tryz.prog w = .ok (.enter 118 us) w := fun us w => by kernel_rfl
theorem ent119 : ∀ us w, (callFunc 119 us).run Tryz.prog w = .ok (.enter 119 us) w := fun us w => by kernel_rfl
theorem ent120 : ∀ us w, (callFunc 120 us).run Tryz.prog w = .ok (.enter 120 us) w := fun us w => by kernel_rfl
theorem ent121 : ∀ us w, (callFunc 121 us).run Tryz.prog w = .ok (.enter 121 us) w := fun us w => by kernel_rfl
theorem ent133 : ∀ us w, (callFunc 133 us).run Tryz.prog w = .ok (.enter 133 us) w := fun us w => by kernel_rfl
theorem ent137 : ∀ us w, (callFunc 137 us).run Tryz.prog w = .ok (.enter 137 us) w := fun us w => by kernel_rfl
theorem ent138 : ∀ us w, (callFunc 138 us).run Tryz.prog w = .ok (.enter 138 us) w := fun us w => by kernel_rfl
theorem ent139 : ∀ us w, (callFunc 139 us).run Tryz.prog w = .ok (.enter 139 us) w := fun us w => by kernel_rfl
theorem ent140 : ∀ us w, (callFunc 140 us).run Tryz.prog w = .ok (.enter 140 us) w := fun us w => by kernel_rfl
theorem ent141 : ∀ us w, (callFunc 141 us).run Tryz.prog w = .ok (.enter 141 us) w := fun us w => by kernel_rfl
theorem ent142 : ∀ us w, (callFunc 142 us).run Tryz.prog w = .ok (.enter 142 us) w := fun us w => by kernel_rfl
theorem ent143 : ∀ us w, (callFunc 143 us).run Tryz.prog w = .ok (.enter 143 us) w := fun us w => by kernel_rfl
theorem ent154 : ∀ us w, (callFunc 154 us).run Tryz.prog w = .ok (.enter 154 us) w := fun us w => by kernel_rfl
theorem ent155 : ∀ us w, (callFunc 155 us).run Tryz.prog w = .ok (.enter 155 us) w := fun us w => by kernel_rfl
theorem ent156 : ∀ us w, (callFunc 156 us).run Tryz.prog w = .ok (.enter 156 us) w := fun us w => by kernel_rfl
theorem ent157 : ∀ us w, (callFunc 157 us).run Tryz.prog w = .ok (.enter 157 us) w := fun us w => by kernel_rfl
theorem ent165 : ∀ us w, (callFunc 165 us).run Tryz.prog w = .ok (.enter 165 us) w := fun us w => by kernel_rfl
theorem mt46 : MT Tryz.prog 46 9 3 (.int .i64 0) := ⟨Tryz.underlying46, fun w => by kernel_rfl⟩
theorem ke9keyL : KeyE Tryz.prog 9 keyL := keyL_E Tryz.underlying9
theorem cv5_3 : ∀ i w, (convert 5 3 (.int .u8 i)).run Tryz.prog w = .ok (.int .i64 (IntKind.i64.wrap i)) w := fun i w => by kernel_rfl
theorem st9 : Tryz.prog.underlying 9 = some .string := Tryz.underlying9
end Go.Proofs.YtmckgdekblphoaaGreatDoor
