/-
  What the program says of types, functions and maps, one by one.
-/
import Derived.Test.YtmckgdekblphoaaDoorCarQ
import Derived.Test.YtmckgdekblphoaaDoorOps3
import Derived.Test.YtmckgdekblphoaaDoorMap
namespace Go.Proofs.YtmckgdekblphoaaDoor
set_option linter.unusedVariables false
set_option linter.unusedSimpArgs false
open Go.RowKit

theorem ti3 : TI Tryd.prog 3 false 1 (.int .i64 (0)) [] := ⟨fun w => by kernel_rfl, by kernel_rfl, fun h => by cases h⟩
theorem ti9 : TI Tryd.prog 9 false 1 (.string (⟨#[]⟩)) [] := ⟨fun w => by kernel_rfl, by kernel_rfl, fun h => by cases h⟩
theorem ti22 : TI Tryd.prog 22 false 1 (.slice none 0 0) [] := ⟨fun w => by kernel_rfl, by kernel_rfl, fun h => by cases h⟩
theorem ti24 : TI Tryd.prog 24 true 2 (.agg #[.int .i64 (0), .slice none 0 0]) [(0, 1), (1, 1)] := ⟨fun w => by kernel_rfl, by kernel_rfl, fun _ => ⟨_, Tryd.underlying24, fun w => by kernel_rfl⟩⟩
theorem ti27 : TI Tryd.prog 27 true 2 (.agg #[.int .i64 (0), .slice none 0 0]) [(0, 1), (1, 1)] := ⟨fun w => by kernel_rfl, by kernel_rfl, fun _ => ⟨_, Tryd.underlying27, fun w => by kernel_rfl⟩⟩
theorem ti34 : TI Tryd.prog 34 false 1 (.slice none 0 0) [] := ⟨fun w => by kernel_rfl, by kernel_rfl, fun h => by cases h⟩
theorem ti38 : TI Tryd.prog 38 false 1 (.slice none 0 0) [] := ⟨fun w => by kernel_rfl, by kernel_rfl, fun h => by cases h⟩
theorem ti91 : TI Tryd.prog 91 false 1 (.nilFunc) [] := ⟨fun w => by kernel_rfl, by kernel_rfl, fun h => by cases h⟩
theorem et22 : ET Tryd.prog 22 3 1 8 (.int .i64 (0)) := ⟨Tryd.underlying22, by kernel_rfl, rfl, by omega⟩
theorem et34 : ET Tryd.prog 34 22 1 24 (.slice none 0 0) := ⟨Tryd.underlying34, by kernel_rfl, rfl, by omega⟩
theorem et38 : ET Tryd.prog 38 9 1 16 (.string (⟨#[]⟩)) := ⟨Tryd.underlying38, by kernel_rfl, rfl, by omega⟩
theorem et41 : ET Tryd.prog 41 34 1 24 (.slice none 0 0) := ⟨Tryd.underlying41, by kernel_rfl, rfl, by omega⟩
theorem et54 : ET Tryd.prog 54 38 1 24 (.slice none 0 0) := ⟨Tryd.underlying54, by kernel_rfl, rfl, by omega⟩
theorem et79 : ET Tryd.prog 79 27 2 32 (.agg #[.int .i64 (0), .slice none 0 0]) := ⟨Tryd.underlying79, by kernel_rfl, rfl, by omega⟩
theorem fa24_0 : ∀ (b k : Nat) w, (Instr.fieldAt 24 (.pointer (some ⟨b, k, none⟩)) 0).run Tryd.prog w = .ok (.pointer (some ⟨b, k + 0, none⟩)) w := fun b k w => by kernel_rfl
theorem fa24_1 : ∀ (b k : Nat) w, (Instr.fieldAt 24 (.pointer (some ⟨b, k, none⟩)) 1).run Tryd.prog w = .ok (.pointer (some ⟨b, k + 1, none⟩)) w := fun b k w => by kernel_rfl
theorem fa27_0 : ∀ (b k : Nat) w, (Instr.fieldAt 27 (.pointer (some ⟨b, k, none⟩)) 0).run Tryd.prog w = .ok (.pointer (some ⟨b, k + 0, none⟩)) w := fun b k w => by kernel_rfl
theorem fa27_1 : ∀ (b k : Nat) w, (Instr.fieldAt 27 (.pointer (some ⟨b, k, none⟩)) 1).run Tryd.prog w = .ok (.pointer (some ⟨b, k + 1, none⟩)) w := fun b k w => by kernel_rfl
theorem ent4 : ∀ us w, (callFunc 4 us).run Tryd.prog w = .ok (.enter 4 us) w := fun us w => by kernel_rfl
theorem ent5 : ∀ us w, (callFunc 5 us).run Tryd.prog w = .ok (.enter 5 us) w := fun us w => by kernel_rfl
theorem ent6 : ∀ us w, (callFunc 6 us).run Tryd.prog w = .ok (.enter 6 us) w := fun us w => by kernel_rfl
theorem ent7 : ∀ us w, (callFunc 7 us).run Tryd.prog w = .ok (.enter 7 us) w := fun us w => by kernel_rfl
theorem ent8 : ∀ us w, (callFunc 8 us).run Tryd.prog w = .ok (.enter 8 us) w := fun us w => by kernel_rfl
theorem ent9 : ∀ us w, (callFunc 9 us).run Tryd.prog w = .ok (.enter 9 us) w := fun us w => by kernel_rfl
theorem ent10 : ∀ us w, (callFunc 10 us).run Tryd.prog w = .ok (.enter 10 us) w := fun us w => by kernel_rfl
theorem ent11 : ∀ us w, (callFunc 11 us).run Tryd.prog w = .ok (.enter 11 us) w := fun us w => by kernel_rfl
theorem ent12 : ∀ us w, (callFunc 12 us).run Tryd.prog w = .ok (.enter 12 us) w := fun us w => by kernel_rfl
theorem ent13 : ∀ us w, (callFunc 13 us).run Tryd.prog w = .ok (.enter 13 us) w := fun us w => by kernel_rfl
theorem ent14 : ∀ us w, (callFunc 14 us).run Tryd.prog w = .ok (.enter 14 us) w := fun us w => by kernel_rfl
theorem ent15 : ∀ us w, (callFunc 15 us).run Tryd.prog w = .ok (.enter 15 us) w := fun us w => by kernel_rfl
theorem ent16 : ∀ us w, (callFunc 16 us).run Tryd.prog w = .ok (.enter 16 us) w := fun us w => by kernel_rfl
theorem ent17 : ∀ us w, (callFunc 17 us).run Tryd.prog w = .ok (.enter 17 us) w := fun us w => by kernel_rfl
theorem ent18 : ∀ us w, (callFunc 18 us).run Tryd.prog w = .ok (.enter 18 us) w := fun us w => by kernel_rfl
theorem ent19 : ∀ us w, (callFunc 19 us).run Tryd.prog w = .ok (.enter 19 us) w := fun us w => by kernel_rfl
theorem ent20 : ∀ us w, (callFunc 20 us).run Tryd.prog w = .ok (.enter 20 us) w := fun us w => by kernel_rfl
theorem ent21 : ∀ us w, (callFunc 21 us).run Tryd.prog w = .ok (.enter 21 us) w := fun us w => by kernel_rfl
theorem ent22 : ∀ us w, (callFunc 22 us).run Tryd.prog w = .ok (.enter 22 us) w := fun us w => by kernel_rfl
theorem ent23 : ∀ us w, (callFunc 23 us).run Tryd.prog w = .ok (.enter 23 us) w := fun us w => by kernel_rfl
theorem ent24 : ∀ us w, (callFunc 24 us).run Tryd.prog w = .ok (.enter 24 us) w := fun us w => by kernel_rfl
theorem ent25 : ∀ us w, (callFunc 25 us).run Tryd.prog w = .ok (.enter 25 us) w := fun us w => by kernel_rfl
theorem ent26 : ∀ us w, (callFunc 26 us).run Tryd.prog w = .ok (.enter 26 us) w := fun us w => by kernel_rfl
theorem ent27 : ∀ us w, (callFunc 27 us).run Tryd.prog w = .ok (.enter 27 us) w := fun us w => by kernel_rfl
theorem ent28 : ∀ us w, (callFunc 28 us).run Tryd.prog w = .ok (.enter 28 us) w := fun us w => by kernel_rfl
theorem ent29 : ∀ us w, (callFunc 29 us).run Tryd.prog w = .ok (.enter 29 us) w := fun us w => by kernel_rfl
theorem ent30 : ∀ us w, (callFunc 30 us).run Tryd.prog w = .ok (.enter 30 us) w := fun us w => by kernel_rfl
theorem ent31 : ∀ us w, (callFunc 31 us).run Tryd.prog w = .ok (.enter 31 us) w := fun us w => by kernel_rfl
theorem ent32 : ∀ us w, (callFunc 32 us).run Tryd.prog w = .ok (.enter 32 us) w := fun us w => by kernel_rfl
theorem ent33 : ∀ us w, (callFunc 33 us).run Tryd.prog w = .ok (.enter 33 us) w := fun us w => by kernel_rfl
theorem ent34 : ∀ us w, (callFunc 34 us).run Tryd.prog w = .ok (.enter 34 us) w := fun us w => by kernel_rfl
theorem ent35 : ∀ us w, (callFunc 35 us).run Tryd.prog w = .ok (.enter 35 us) w := fun us w => by kernel_rfl
theorem ent36 : ∀ us w, (callFunc 36 us).run Tryd.prog w = .ok (.enter 36 us) w := fun us w => by kernel_rfl
theorem ent37 : ∀ us w, (callFunc 37 us).run Tryd.prog w = .ok (.enter 37 us) w := fun us w => by kernel_rfl
theorem ent38 : ∀ us w, (callFunc 38 us).run Tryd.prog w = .ok (.enter 38 us) w := fun us w => by kernel_rfl
theorem ent39 : ∀ us w, (callFunc 39 us).run Tryd.prog w = .ok (.enter 39 us) w := fun us w => by kernel_rfl
theorem ent40 : ∀ us w, (callFunc 40 us).run Tryd.prog w = .ok (.enter 40 us) w := fun us w => by kernel_rfl
theorem ent41 : ∀ us w, (callFunc 41 us).run Tryd.prog w = .ok (.enter 41 us) w := fun us w => by kernel_rfl
theorem ent42 : ∀ us w, (callFunc 42 us).run Tryd.prog w = .ok (.enter 42 us) w := fun us w => by kernel_rfl
theorem ent43 : ∀ us w, (callFunc 43 us).run Tryd.prog w = .ok (.enter 43 us) w := fun us w => by kernel_rfl
theorem ent44 : ∀ us w, (callFunc 44 us).run Tryd.prog w = .ok (.enter 44 us) w := fun us w => by kernel_rfl
theorem ent48 : ∀ us w, (callFunc 48 us).run Tryd.prog w = .ok (.enter 48 us) w := fun us w => by kernel_rfl
theorem ent49 : ∀ us w, (callFunc 49 us).run Tryd.prog w = .ok (.enter 49 us) w := fun us w => by kernel_rfl
theorem ent50 : ∀ us w, (callFunc 50 us).run Tryd.prog w = .ok (.enter 50 us) w := fun us w => by kernel_rfl
theorem ent51 : ∀ us w, (callFunc 51 us).run Tryd.prog w = .ok (.enter 51 us) w := fun us w => by kernel_rfl
theorem ent52 : ∀ us w, (callFunc 52 us).run Tryd.prog w = .ok (.enter 52 us) w := fun us w => by kernel_rfl
theorem ent55 : ∀ us w, (callFunc 55 us).run Tryd.prog w = .ok (.enter 55 us) w := fun us w => by kernel_rfl
theorem ent56 : ∀ us w, (callFunc 56 us).run Tryd.prog w = .ok (.enter 56 us) w := fun us w => by kernel_rfl
theorem ent60 : ∀ us w, (callFunc 60 us).run Tryd.prog w = .ok (.enter 60 us) w := fun us w => by kernel_rfl
theorem ent61 : ∀ us w, (callFunc 61 us).run Tryd.prog w = .ok (.enter 61 us) w := fun us w => by kernel_rfl
theorem ent62 : ∀ us w, (callFunc 62 us).run Tryd.prog w = .ok (.enter 62 us) w := fun us w => by kernel_rfl
theorem ent63 : ∀ us w, (callFunc 63 us).run Tryd.prog w = .ok (.enter 63 us) w := fun us w => by kernel_rfl
theorem ent70 : ∀ us w, (callFunc 70 us).run Tryd.prog w = .ok (.enter 70 us) w := fun us w => by kernel_rfl
theorem mt45 : MT Tryd.prog 45 9 4 (.bool false) := ⟨Tryd.underlying45, fun w => by kernel_rfl⟩
theorem ke9keyL : KeyE Tryd.prog 9 keyL := keyL_E Tryd.underlying9
theorem cv3_62 : ∀ i w, (convert 3 62 (.int .i64 i)).run Tryd.prog w = .ok (.int .u64 (IntKind.u64.wrap i)) w := fun i w => by kernel_rfl
theorem cv5_3 : ∀ i w, (convert 5 3 (.int .u8 i)).run Tryd.prog w = .ok (.int .i64 (IntKind.i64.wrap i)) w := fun i w => by kernel_rfl
theorem cv62_3 : ∀ i w, (convert 62 3 (.int .u64 i)).run Tryd.prog w = .ok (.int .i64 (IntKind.i64.wrap i)) w := fun i w => by kernel_rfl
theorem st9 : Tryd.prog.underlying 9 = some .string := Tryd.underlying9

end Go.Proofs.YtmckgdekblphoaaDoor
