/-
  What the program says of types, functions and maps, one by one.
-/
import Derived.Test.YtmckgdekblphoaaGreatDoorCarQ
import Derived.Test.YtmckgdekblphoaaGreatDoorOps3
import Derived.Test.YtmckgdekblphoaaGreatDoorMap
namespace Go.Proofs.YtmckgdekblphoaaGreatDoor
set_option linter.unusedVariables false
set_option linter.unusedSimpArgs false
open Go.RowKit
theorem ti3 : TI Tryz.prog 3 false 1 (.int .i64 (0)) [] := ⟨fun w => by kernel_rfl, by kernel_rfl, fun h => by cases h⟩
theorem ti9 : TI Tryz.prog 9 false 1 (.string (⟨#[]⟩)) [] := ⟨fun w => by kernel_rfl, by kernel_rfl, fun h => by cases h⟩
theorem ti22 : TI Tryz.prog 22 false 1 (.slice none 0 0) [] := ⟨fun w => by kernel_rfl, by kernel_rfl, fun h => by cases h⟩
theorem ti24 : TI Tryz.prog 24 true 2 (.agg #[.int .i64 (0), .slice none 0 0]) [(0, 1), (1, 1)] := ⟨fun w => by kernel_rfl, by kernel_rfl, fun _ => ⟨_, Tryz.underlying24, fun w => by kernel_rfl⟩⟩
theorem ti26 : TI Tryz.prog 26 false 1 (.slice none 0 0) [] := ⟨fun w => by kernel_rfl, by kernel_rfl, fun h => by cases h⟩
theorem ti28 : TI Tryz.prog 28 true 2 (.agg #[.int .i64 (0), .slice none 0 0]) [(0, 1), (1, 1)] := ⟨fun w => by kernel_rfl, by kernel_rfl, fun _ => ⟨_, Tryz.underlying28, fun w => by kernel_rfl⟩⟩
theorem ti46 : TI Tryz.prog 46 false 1 (.map none) [] := ⟨fun w => by kernel_rfl, by kernel_rfl, fun h => by cases h⟩
theorem ti48 : TI Tryz.prog 48 true 4 (.agg #[.int .i64 (0), .slice none 0 0, .slice none 0 0, .map none]) [(0, 2), (2, 1), (3, 1)] := ⟨fun w => by kernel_rfl, by kernel_rfl, fun _ => ⟨_, Tryz.underlying48, fun w => by kernel_rfl⟩⟩
theorem ti66 : TI Tryz.prog 66 false 1 (.slice none 0 0) [] := ⟨fun w => by kernel_rfl, by kernel_rfl, fun h => by cases h⟩
theorem ti142 : TI Tryz.prog 142 false 1 (.nilFunc) [] := ⟨fun w => by kernel_rfl, by kernel_rfl, fun h => by cases h⟩
theorem et22 : ET Tryz.prog 22 3 1 8 (.int .i64 (0)) := ⟨Tryz.underlying22, by kernel_rfl, rfl, by omega⟩
theorem et26 : ET Tryz.prog 26 22 1 24 (.slice none 0 0) := ⟨Tryz.underlying26, by kernel_rfl, rfl, by omega⟩
theorem et59 : ET Tryz.prog 59 26 1 24 (.slice none 0 0) := ⟨Tryz.underlying59, by kernel_rfl, rfl, by omega⟩
theorem et66 : ET Tryz.prog 66 9 1 16 (.string (⟨#[]⟩)) := ⟨Tryz.underlying66, by kernel_rfl, rfl, by omega⟩
theorem et93 : ET Tryz.prog 93 66 1 24 (.slice none 0 0) := ⟨Tryz.underlying93, by kernel_rfl, rfl, by omega⟩
theorem et126 : ET Tryz.prog 126 28 2 32 (.agg #[.int .i64 (0), .slice none 0 0]) := ⟨Tryz.underlying126, by kernel_rfl, rfl, by omega⟩
theorem fa24_0 : ∀ (b k : Nat) w, (Instr.fieldAt 24 (.pointer (some ⟨b, k, none⟩)) 0).run Tryz.prog w = .ok (.pointer (some ⟨b, k + 0, none⟩)) w := fun b k w => by kernel_rfl
theorem fa24_1 : ∀ (b k : Nat) w, (Instr.fieldAt 24 (.pointer (some ⟨b, k, none⟩)) 1).run Tryz.prog w = .ok (.pointer (some ⟨b, k + 1, none⟩)) w := fun b k w => by kernel_rfl
theorem fa28_0 : ∀ (b k : Nat) w, (Instr.fieldAt 28 (.pointer (some ⟨b, k, none⟩)) 0).run Tryz.prog w = .ok (.pointer (some ⟨b, k + 0, none⟩)) w := fun b k w => by kernel_rfl
theorem fa28_1 : ∀ (b k : Nat) w, (Instr.fieldAt 28 (.pointer (some ⟨b, k, none⟩)) 1).run Tryz.prog w = .ok (.pointer (some ⟨b, k + 1, none⟩)) w := fun b k w => by kernel_rfl
theorem fa48_1 : ∀ (b k : Nat) w, (Instr.fieldAt 48 (.pointer (some ⟨b, k, none⟩)) 1).run Tryz.prog w = .ok (.pointer (some ⟨b, k + 2, none⟩)) w := fun b k w => by kernel_rfl
theorem fa48_2 : ∀ (b k : Nat) w, (Instr.fieldAt 48 (.pointer (some ⟨b, k, none⟩)) 2).run Tryz.prog w = .ok (.pointer (some ⟨b, k + 3, none⟩)) w := fun b k w => by kernel_rfl
theorem ent10 : ∀ us w, (callFunc 10 us).run Tryz.prog w = .ok (.enter 10 us) w := fun us w => by kernel_rfl
theorem ent12 : ∀ us w, (callFunc 12 us).run Tryz.prog w = .ok (.enter 12 us) w := fun us w => by kernel_rfl
theorem ent14 : ∀ us w, (callFunc 14 us).run Tryz.prog w = .ok (.enter 14 us) w := fun us w => by kernel_rfl
theorem ent15 : ∀ us w, (callFunc 15 us).run Tryz.prog w = .ok (.enter 15 us) w := fun us w => by kernel_rfl
theorem ent16 : ∀ us w, (callFunc 16 us).run Tryz.prog w = .ok (.enter 16 us) w := fun us w => by kernel_rfl
theorem ent17 : ∀ us w, (callFunc 17 us).run Tryz.prog w = .ok (.enter 17 us) w := fun us w => by kernel_rfl
theorem ent18 : ∀ us w, (callFunc 18 us).run Tryz.prog w = .ok (.enter 18 us) w := fun us w => by kernel_rfl
theorem ent20 : ∀ us w, (callFunc 20 us).run Tryz.prog w = .ok (.enter 20 us) w := fun us w => by kernel_rfl
theorem ent22 : ∀ us w, (callFunc 22 us).run Tryz.prog w = .ok (.enter 22 us) w := fun us w => by kernel_rfl
theorem ent23 : ∀ us w, (callFunc 23 us).run Tryz.prog w = .ok (.enter 23 us) w := fun us w => by kernel_rfl
theorem ent28 : ∀ us w, (callFunc 28 us).run Tryz.prog w = .ok (.enter 28 us) w := fun us w => by kernel_rfl
theorem ent29 : ∀ us w, (callFunc 29 us).run Tryz.prog w = .ok (.enter 29 us) w := fun us w => by kernel_rfl
theorem ent30 : ∀ us w, (callFunc 30 us).run Tryz.prog w = .ok (.enter 30 us) w := fun us w => by kernel_rfl
theorem ent33 : ∀ us w, (callFunc 33 us).run Tryz.prog w = .ok (.enter 33 us) w := fun us w => by kernel_rfl
theorem ent34 : ∀ us w, (callFunc 34 us).run Tryz.prog w = .ok (.enter 34 us) w := fun us w => by kernel_rfl
theorem ent35 : ∀ us w, (callFunc 35 us).run Tryz.prog w = .ok (.enter 35 us) w := fun us w => by kernel_rfl
theorem ent36 : ∀ us w, (callFunc 36 us).run Tryz.prog w = .ok (.enter 36 us) w := fun us w => by kernel_rfl
theorem ent38 : ∀ us w, (callFunc 38 us).run Tryz.prog w = .ok (.enter 38 us) w := fun us w => by kernel_rfl
theorem ent40 : ∀ us w, (callFunc 40 us).run Tryz.prog w = .ok (.enter 40 us) w := fun us w => by kernel_rfl
theorem ent45 : ∀ us w, (callFunc 45 us).run Tryz.prog w = .ok (.enter 45 us) w := fun us w => by kernel_rfl
theorem ent47 : ∀ us w, (callFunc 47 us).run Tryz.prog w = .ok (.enter 47 us) w := fun us w => by kernel_rfl
theorem ent54 : ∀ us w, (callFunc 54 us).run Tryz.prog w = .ok (.enter 54 us) w := fun us w => by kernel_rfl
theorem ent57 : ∀ us w, (callFunc 57 us).run Tryz.prog w = .ok (.enter 57 us) w := fun us w => by kernel_rfl
theorem ent59 : ∀ us w, (callFunc 59 us).run Tryz.prog w = .ok (.enter 59 us) w := fun us w => by kernel_rfl
theorem ent60 : ∀ us w, (callFunc 60 us).run Tryz.prog w = .ok (.enter 60 us) w := fun us w => by kernel_rfl
theorem ent61 : ∀ us w, (callFunc 61 us).run Tryz.prog w = .ok (.enter 61 us) w := fun us w => by kernel_rfl
theorem ent62 : ∀ us w, (callFunc 62 us).run Tryz.prog w = .ok (.enter 62 us) w := fun us w => by kernel_rfl
theorem ent65 : ∀ us w, (callFunc 65 us).run Tryz.prog w = .ok (.enter 65 us) w := fun us w => by kernel_rfl
theorem ent66 : ∀ us w, (callFunc 66 us).run Tryz.prog w = .ok (.enter 66 us) w := fun us w => by kernel_rfl
theorem ent67 : ∀ us w, (callFunc 67 us).run Tryz.prog w = .ok (.enter 67 us) w := fun us w => by kernel_rfl
theorem ent72 : ∀ us w, (callFunc 72 us).run Tryz.prog w = .ok (.enter 72 us) w := fun us w => by kernel_rfl
theorem ent73 : ∀ us w, (callFunc 73 us).run Tryz.prog w = .ok (.enter 73 us) w := fun us w => by kernel_rfl
theorem ent74 : ∀ us w, (callFunc 74 us).run Tryz.prog w = .ok (.enter 74 us) w := fun us w => by kernel_rfl
theorem ent75 : ∀ us w, (callFunc 75 us).run Tryz.prog w = .ok (.enter 75 us) w := fun us w => by kernel_rfl
theorem ent76 : ∀ us w, (callFunc 76 us).run Tryz.prog w = .ok (.enter 76 us) w := fun us w => by kernel_rfl
theorem ent77 : ∀ us w, (callFunc 77 us).run Tryz.prog w = .ok (.enter 77 us) w := fun us w => by kernel_rfl
theorem ent81 : ∀ us w, (callFunc 81 us).run Tryz.prog w = .ok (.enter 81 us) w := fun us w => by kernel_rfl
theorem ent83 : ∀ us w, (callFunc 83 us).run Tryz.prog w = .ok (.enter 83 us) w := fun us w => by kernel_rfl
theorem ent88 : ∀ us w, (callFunc 88 us).run Tryz.prog w = .ok (.enter 88 us) w := fun us w => by kernel_rfl
theorem ent90 : ∀ us w, (callFunc 90 us).run Tryz.prog w = .ok (.enter 90 us) w := fun us w => by kernel_rfl
theorem ent91 : ∀ us w, (callFunc 91 us).run Tryz.prog w = .ok (.enter 91 us) w := fun us w => by kernel_rfl
theorem ent95 : ∀ us w, (callFunc 95 us).run Tryz.prog w = .ok (.enter 95 us) w := fun us w => by kernel_rfl
theorem ent96 : ∀ us w, (callFunc 96 us).run Tryz.prog w = .ok (.enter 96 us) w := fun us w => by kernel_rfl
theorem ent97 : ∀ us w, (callFunc 97 us).run Tryz.prog w = .ok (.enter 97 us) w := fun us w => by kernel_rfl
theorem ent98 : ∀ us w, (callFunc 98 us).run Tryz.prog w = .ok (.enter 98 us) w := fun us w => by kernel_rfl
theorem ent99 : ∀ us w, (callFunc 99 us).run Tryz.prog w = .ok (.enter 99 us) w := fun us w => by kernel_rfl
theorem ent100 : ∀ us w, (callFunc 100 us).run Tryz.prog w = .ok (.enter 100 us) w := fun us w => by kernel_rfl
theorem ent101 : ∀ us w, (callFunc 101 us).run Tryz.prog w = .ok (.enter 101 us) w := fun us w => by kernel_rfl
theorem ent102 : ∀ us w, (callFunc 102 us).run Tryz.prog w = .ok (.enter 102 us) w := fun us w => by kernel_rfl
theorem ent103 : ∀ us w, (callFunc 103 us).run Tryz.prog w = .ok (.enter 103 us) w := fun us w => by kernel_rfl
theorem ent104 : ∀ us w, (callFunc 104 us).run Tryz.prog w = .ok (.enter 104 us) w := fun us w => by kernel_rfl
theorem ent105 : ∀ us w, (callFunc 105 us).run Tryz.prog w = .ok (.enter 105 us) w := fun us w => by kernel_rfl
theorem ent106 : ∀ us w, (callFunc 106 us).run Tryz.prog w = .ok (.enter 106 us) w := fun us w => by kernel_rfl
theorem ent109 : ∀ us w, (callFunc 109 us).run Tryz.prog w = .ok (.enter 109 us) w := fun us w => by kernel_rfl
theorem ent110 : ∀ us w, (callFunc 110 us).run Tryz.prog w = .ok (.enter 110 us) w := fun us w => by kernel_rfl
theorem ent111 : ∀ us w, (callFunc 111 us).run Tryz.prog w = .ok (.enter 111 us) w := fun us w => by kernel_rfl
theorem ent112 : ∀ us w, (callFunc 112 us).run Tryz.prog w = .ok (.enter 112 us) w := fun us w => by kernel_rfl
theorem ent113 : ∀ us w, (callFunc 113 us).run Tryz.prog w = .ok (.enter 113 us) w := fun us w => by kernel_rfl
theorem ent114 : ∀ us w, (callFunc 114 us).run Tryz.prog w = .ok (.enter 114 us) w := fun us w => by kernel_rfl
theorem ent121 : ∀ us w, (callFunc 121 us).run Tryz.prog w = .ok (.enter 121 us) w := fun us w => by kernel_rfl
theorem ent132 : ∀ us w, (callFunc 132 us).run Tryz.prog w = .ok (.enter 132 us) w := fun us w => by kernel_rfl
theorem ent133 : ∀ us w, (callFunc 133 us).run Tryz.prog w = .ok (.enter 133 us) w := fun us w => by kernel_rfl
theorem ent137 : ∀ us w, (callFunc 137 us).run Tryz.prog w = .ok (.enter 137 us) w := fun us w => by kernel_rfl
theorem ent138 : ∀ us w, (callFunc 138 us).run Tryz.prog w = .ok (.enter 138 us) w := fun us w => by kernel_rfl
theorem ent139 : ∀ us w, (callFunc 139 us).run Tryz.prog w = .ok (.enter 139 us) w := fun us w => by kernel_rfl
theorem ent140 : ∀ us w, (callFunc 140 us).run Tryz.prog w = .ok (.enter 140 us) w := fun us w => by kernel_rfl
theorem ent141 : ∀ us w, (callFunc 141 us).run Tryz.prog w = .ok (.enter 141 us) w := fun us w => by kernel_rfl
theorem ent154 : ∀ us w, (callFunc 154 us).run Tryz.prog w = .ok (.enter 154 us) w := fun us w => by kernel_rfl
theorem ent155 : ∀ us w, (callFunc 155 us).run Tryz.prog w = .ok (.enter 155 us) w := fun us w => by kernel_rfl
theorem ent156 : ∀ us w, (callFunc 156 us).run Tryz.prog w = .ok (.enter 156 us) w := fun us w => by kernel_rfl
theorem ent157 : ∀ us w, (callFunc 157 us).run Tryz.prog w = .ok (.enter 157 us) w := fun us w => by kernel_rfl
theorem ent165 : ∀ us w, (callFunc 165 us).run Tryz.prog w = .ok (.enter 165 us) w := fun us w => by kernel_rfl
theorem mt46 : MT Tryz.prog 46 9 3 (.int .i64 0) := ⟨Tryz.underlying46, fun w => by kernel_rfl⟩
theorem mt81 : MT Tryz.prog 81 9 4 (.bool false) := ⟨Tryz.underlying81, fun w => by kernel_rfl⟩
theorem ke9keyL : KeyE Tryz.prog 9 keyL := keyL_E Tryz.underlying9
theorem cv3_85 : ∀ i w, (convert 3 85 (.int .i64 i)).run Tryz.prog w = .ok (.int .u64 (IntKind.u64.wrap i)) w := fun i w => by kernel_rfl
theorem cv5_3 : ∀ i w, (convert 5 3 (.int .u8 i)).run Tryz.prog w = .ok (.int .i64 (IntKind.i64.wrap i)) w := fun i w => by kernel_rfl
theorem cv85_3 : ∀ i w, (convert 85 3 (.int .u64 i)).run Tryz.prog w = .ok (.int .i64 (IntKind.i64.wrap i)) w := fun i w => by kernel_rfl
theorem st9 : Tryz.prog.underlying 9 = some .string := Tryz.underlying9
end Go.Proofs.YtmckgdekblphoaaGreatDoor
