/-
  What the program says of types, functions and maps, one by one.
-/
import Derived.Test.YtbmnnbglipkidaaGreatDoorCarQ
import Derived.Test.YtbmnnbglipkidaaGreatDoorZ17
import Derived.Test.YtbmnnbglipkidaaGreatDoorMap
namespace Go.Proofs.YtbmnnbglipkidaaGreatDoor
set_option linter.unusedVariables false
set_option linter.unusedSimpArgs false
open Go.RowKit
theorem ti3:TI Tryz.prog 3 false 1 (.int .i64 (0)) []:=⟨fun w=>by kernel_rfl,by kernel_rfl,fun h=>by cases h⟩
theorem ti9:TI Tryz.prog 9 false 1 (.string (⟨#[]⟩)) []:=⟨fun w=>by kernel_rfl,by kernel_rfl,fun h=>by cases h⟩
theorem ti22:TI Tryz.prog 22 false 1 (.slice none 0 0) []:=⟨fun w=>by kernel_rfl,by kernel_rfl,fun h=>by cases h⟩
theorem ti24:TI Tryz.prog 24 true 2 (.agg #[.int .i64 (0),.slice none 0 0]) [(0,1),(1,1)]:=⟨fun w=>by kernel_rfl,by kernel_rfl,fun _=>⟨_,Tryz.underlying24,fun w=>by kernel_rfl⟩⟩
theorem ti27:TI Tryz.prog 27 true 2 (.agg #[.int .i64 (0),.slice none 0 0]) [(0,1),(1,1)]:=⟨fun w=>by kernel_rfl,by kernel_rfl,fun _=>⟨_,Tryz.underlying27,fun w=>by kernel_rfl⟩⟩
theorem ti43:TI Tryz.prog 43 true 3 (.agg #[.int .i64 (0),.int .i64 (0),.slice none 0 0]) [(0,1),(1,1),(2,1)]:=⟨fun w=>by kernel_rfl,by kernel_rfl,fun _=>⟨_,Tryz.underlying43,fun w=>by kernel_rfl⟩⟩
theorem ti51:TI Tryz.prog 51 true 4 (.agg #[.int .i64 (0),.int .i64 (0),.int .i64 (0),.slice none 0 0]) [(0,1),(1,1),(2,1),(3,1)]:=⟨fun w=>by kernel_rfl,by kernel_rfl,fun _=>⟨_,Tryz.underlying51,fun w=>by kernel_rfl⟩⟩
theorem ti60:TI Tryz.prog 60 false 1 (.slice none 0 0) []:=⟨fun w=>by kernel_rfl,by kernel_rfl,fun h=>by cases h⟩
theorem ti62:TI Tryz.prog 62 false 1 (.map none) []:=⟨fun w=>by kernel_rfl,by kernel_rfl,fun h=>by cases h⟩
theorem ti64:TI Tryz.prog 64 true 4 (.agg #[.int .i64 (0),.slice none 0 0,.slice none 0 0,.map none]) [(0,2),(2,1),(3,1)]:=⟨fun w=>by kernel_rfl,by kernel_rfl,fun _=>⟨_,Tryz.underlying64,fun w=>by kernel_rfl⟩⟩
theorem ti113:TI Tryz.prog 113 false 1 (.slice none 0 0) []:=⟨fun w=>by kernel_rfl,by kernel_rfl,fun h=>by cases h⟩
theorem ti195:TI Tryz.prog 195 false 1 (.nilFunc) []:=⟨fun w=>by kernel_rfl,by kernel_rfl,fun h=>by cases h⟩
theorem et22:ET Tryz.prog 22 3 1 8 (.int .i64 (0)):=⟨Tryz.underlying22,by kernel_rfl,rfl,by omega⟩
theorem et60:ET Tryz.prog 60 22 1 24 (.slice none 0 0):=⟨Tryz.underlying60,by kernel_rfl,rfl,by omega⟩
theorem et113:ET Tryz.prog 113 9 1 16 (.string (⟨#[]⟩)):=⟨Tryz.underlying113,by kernel_rfl,rfl,by omega⟩
theorem et154:ET Tryz.prog 154 113 1 24 (.slice none 0 0):=⟨Tryz.underlying154,by kernel_rfl,rfl,by omega⟩
theorem et179:ET Tryz.prog 179 27 2 32 (.agg #[.int .i64 (0),.slice none 0 0]):=⟨Tryz.underlying179,by kernel_rfl,rfl,by omega⟩
theorem fa24_0:∀ (b k:Nat) w,(Instr.fieldAt 24 (.pointer (some ⟨b,k,none⟩)) 0).run Tryz.prog w = .ok (.pointer (some ⟨b,k+0,none⟩)) w:=fun b k w=>by kernel_rfl
theorem fa24_1:∀ (b k:Nat) w,(Instr.fieldAt 24 (.pointer (some ⟨b,k,none⟩)) 1).run Tryz.prog w = .ok (.pointer (some ⟨b,k+1,none⟩)) w:=fun b k w=>by kernel_rfl
theorem fa27_0:∀ (b k:Nat) w,(Instr.fieldAt 27 (.pointer (some ⟨b,k,none⟩)) 0).run Tryz.prog w = .ok (.pointer (some ⟨b,k+0,none⟩)) w:=fun b k w=>by kernel_rfl
theorem fa27_1:∀ (b k:Nat) w,(Instr.fieldAt 27 (.pointer (some ⟨b,k,none⟩)) 1).run Tryz.prog w = .ok (.pointer (some ⟨b,k+1,none⟩)) w:=fun b k w=>by kernel_rfl
theorem fa43_1:∀ (b k:Nat) w,(Instr.fieldAt 43 (.pointer (some ⟨b,k,none⟩)) 1).run Tryz.prog w = .ok (.pointer (some ⟨b,k+1,none⟩)) w:=fun b k w=>by kernel_rfl
theorem fa43_2:∀ (b k:Nat) w,(Instr.fieldAt 43 (.pointer (some ⟨b,k,none⟩)) 2).run Tryz.prog w = .ok (.pointer (some ⟨b,k+2,none⟩)) w:=fun b k w=>by kernel_rfl
theorem fa51_0:∀ (b k:Nat) w,(Instr.fieldAt 51 (.pointer (some ⟨b,k,none⟩)) 0).run Tryz.prog w = .ok (.pointer (some ⟨b,k+0,none⟩)) w:=fun b k w=>by kernel_rfl
theorem fa51_1:∀ (b k:Nat) w,(Instr.fieldAt 51 (.pointer (some ⟨b,k,none⟩)) 1).run Tryz.prog w = .ok (.pointer (some ⟨b,k+1,none⟩)) w:=fun b k w=>by kernel_rfl
theorem fa51_2:∀ (b k:Nat) w,(Instr.fieldAt 51 (.pointer (some ⟨b,k,none⟩)) 2).run Tryz.prog w = .ok (.pointer (some ⟨b,k+2,none⟩)) w:=fun b k w=>by kernel_rfl
theorem fa51_3:∀ (b k:Nat) w,(Instr.fieldAt 51 (.pointer (some ⟨b,k,none⟩)) 3).run Tryz.prog w = .ok (.pointer (some ⟨b,k+3,none⟩)) w:=fun b k w=>by kernel_rfl
theorem fa64_0:∀ (b k:Nat) w,(Instr.fieldAt 64 (.pointer (some ⟨b,k,none⟩)) 0).run Tryz.prog w = .ok (.pointer (some ⟨b,k+0,none⟩)) w:=fun b k w=>by kernel_rfl
theorem fa64_1:∀ (b k:Nat) w,(Instr.fieldAt 64 (.pointer (some ⟨b,k,none⟩)) 1).run Tryz.prog w = .ok (.pointer (some ⟨b,k+2,none⟩)) w:=fun b k w=>by kernel_rfl
theorem fa64_2:∀ (b k:Nat) w,(Instr.fieldAt 64 (.pointer (some ⟨b,k,none⟩)) 2).run Tryz.prog w = .ok (.pointer (some ⟨b,k+3,none⟩)) w:=fun b k w=>by kernel_rfl
theorem ent11:∀ us w,(callFunc 11 us).run Tryz.prog w = .ok (.enter 11 us) w:=fun us w=>by kernel_rfl
theorem ent14:∀ us w,(callFunc 14 us).run Tryz.prog w = .ok (.enter 14 us) w:=fun us w=>by kernel_rfl
theorem ent36:∀ us w,(callFunc 36 us).run Tryz.prog w = .ok (.enter 36 us) w:=fun us w=>by kernel_rfl
theorem ent39:∀ us w,(callFunc 39 us).run Tryz.prog w = .ok (.enter 39 us) w:=fun us w=>by kernel_rfl
theorem ent50:∀ us w,(callFunc 50 us).run Tryz.prog w = .ok (.enter 50 us) w:=fun us w=>by kernel_rfl
theorem ent51:∀ us w,(callFunc 51 us).run Tryz.prog w = .ok (.enter 51 us) w:=fun us w=>by kernel_rfl
theorem ent52:∀ us w,(callFunc 52 us).run Tryz.prog w = .ok (.enter 52 us) w:=fun us w=>by kernel_rfl
theorem ent54:∀ us w,(callFunc 54 us).run Tryz.prog w = .ok (.enter 54 us) w:=fun us w=>by kernel_rfl
theorem ent58:∀ us w,(callFunc 58 us).run Tryz.prog w = .ok (.enter 58 us) w:=fun us w=>by kernel_rfl
theorem ent66:∀ us w,(callFunc 66 us).run Tryz.prog w = .ok (.enter 66 us) w:=fun us w=>by kernel_rfl
theorem ent68:∀ us w,(callFunc 68 us).run Tryz.prog w = .ok (.enter 68 us) w:=fun us w=>by kernel_rfl
theorem ent71:∀ us w,(callFunc 71 us).run Tryz.prog w = .ok (.enter 71 us) w:=fun us w=>by kernel_rfl
theorem ent72:∀ us w,(callFunc 72 us).run Tryz.prog w = .ok (.enter 72 us) w:=fun us w=>by kernel_rfl
theorem ent73:∀ us w,(callFunc 73 us).run Tryz.prog w = .ok (.enter 73 us) w:=fun us w=>by kernel_rfl
theorem ent75:∀ us w,(callFunc 75 us).run Tryz.prog w = .ok (.enter 75 us) w:=fun us w=>by kernel_rfl
theorem ent77:∀ us w,(callFunc 77 us).run Tryz.prog w = .ok (.enter 77 us) w:=fun us w=>by kernel_rfl
theorem ent84:∀ us w,(callFunc 84 us).run Tryz.prog w = .ok (.enter 84 us) w:=fun us w=>by kernel_rfl
theorem ent94:∀ us w,(callFunc 94 us).run Tryz.prog w = .ok (.enter 94 us) w:=fun us w=>by kernel_rfl
theorem ent95:∀ us w,(callFunc 95 us).run Tryz.prog w = .ok (.enter 95 us) w:=fun us w=>by kernel_rfl
theorem ent96:∀ us w,(callFunc 96 us).run Tryz.prog w = .ok (.enter 96 us) w:=fun us w=>by kernel_rfl
theorem ent97:∀ us w,(callFunc 97 us).run Tryz.prog w = .ok (.enter 97 us) w:=fun us w=>by kernel_rfl
theorem ent98:∀ us w,(callFunc 98 us).run Tryz.prog w = .ok (.enter 98 us) w:=fun us w=>by kernel_rfl
theorem ent103:∀ us w,(callFunc 103 us).run Tryz.prog w = .ok (.enter 103 us) w:=fun us w=>by kernel_rfl
theorem ent105:∀ us w,(callFunc 105 us).run Tryz.prog w = .ok (.enter 105 us) w:=fun us w=>by kernel_rfl
theorem ent108:∀ us w,(callFunc 108 us).run Tryz.prog w = .ok (.enter 108 us) w:=fun us w=>by kernel_rfl
theorem ent109:∀ us w,(callFunc 109 us).run Tryz.prog w = .ok (.enter 109 us) w:=fun us w=>by kernel_rfl
theorem ent111:∀ us w,(callFunc 111 us).run Tryz.prog w = .ok (.enter 111 us) w:=fun us w=>by kernel_rfl
theorem ent112:∀ us w,(callFunc 112 us).run Tryz.prog w = .ok (.enter 112 us) w:=fun us w=>by kernel_rfl
theorem ent113:∀ us w,(callFunc 113 us).run Tryz.prog w = .ok (.enter 113 us) w:=fun us w=>by kernel_rfl
theorem ent117:∀ us w,(callFunc 117 us).run Tryz.prog w = .ok (.enter 117 us) w:=fun us w=>by kernel_rfl
theorem ent121:∀ us w,(callFunc 121 us).run Tryz.prog w = .ok (.enter 121 us) w:=fun us w=>by kernel_rfl
theorem ent124:∀ us w,(callFunc 124 us).run Tryz.prog w = .ok (.enter 124 us) w:=fun us w=>by kernel_rfl
theorem ent126:∀ us w,(callFunc 126 us).run Tryz.prog w = .ok (.enter 126 us) w:=fun us w=>by kernel_rfl
theorem ent128:∀ us w,(callFunc 128 us).run Tryz.prog w = .ok (.enter 128 us) w:=fun us w=>by kernel_rfl
theorem ent130:∀ us w,(callFunc 130 us).run Tryz.prog w = .ok (.enter 130 us) w:=fun us w=>by kernel_rfl
theorem ent151:∀ us w,(callFunc 151 us).run Tryz.prog w = .ok (.enter 151 us) w:=fun us w=>by kernel_rfl
theorem ent152:∀ us w,(callFunc 152 us).run Tryz.prog w = .ok (.enter 152 us) w:=fun us w=>by kernel_rfl
theorem ent153:∀ us w,(callFunc 153 us).run Tryz.prog w = .ok (.enter 153 us) w:=fun us w=>by kernel_rfl
theorem ent156:∀ us w,(callFunc 156 us).run Tryz.prog w = .ok (.enter 156 us) w:=fun us w=>by kernel_rfl
theorem ent157:∀ us w,(callFunc 157 us).run Tryz.prog w = .ok (.enter 157 us) w:=fun us w=>by kernel_rfl
theorem ent158:∀ us w,(callFunc 158 us).run Tryz.prog w = .ok (.enter 158 us) w:=fun us w=>by kernel_rfl
theorem ent163:∀ us w,(callFunc 163 us).run Tryz.prog w = .ok (.enter 163 us) w:=fun us w=>by kernel_rfl
theorem ent164:∀ us w,(callFunc 164 us).run Tryz.prog w = .ok (.enter 164 us) w:=fun us w=>by kernel_rfl
theorem ent165:∀ us w,(callFunc 165 us).run Tryz.prog w = .ok (.enter 165 us) w:=fun us w=>by kernel_rfl
theorem ent179:∀ us w,(callFunc 179 us).run Tryz.prog w = .ok (.enter 179 us) w:=fun us w=>by kernel_rfl
theorem ent183:∀ us w,(callFunc 183 us).run Tryz.prog w = .ok (.enter 183 us) w:=fun us w=>by kernel_rfl
theorem ent184:∀ us w,(callFunc 184 us).run Tryz.prog w = .ok (.enter 184 us) w:=fun us w=>by kernel_rfl
theorem ent185:∀ us w,(callFunc 185 us).run Tryz.prog w = .ok (.enter 185 us) w:=fun us w=>by kernel_rfl
theorem ent186:∀ us w,(callFunc 186 us).run Tryz.prog w = .ok (.enter 186 us) w:=fun us w=>by kernel_rfl
theorem ent187:∀ us w,(callFunc 187 us).run Tryz.prog w = .ok (.enter 187 us) w:=fun us w=>by kernel_rfl
theorem ent205:∀ us w,(callFunc 205 us).run Tryz.prog w = .ok (.enter 205 us) w:=fun us w=>by kernel_rfl
theorem ent206:∀ us w,(callFunc 206 us).run Tryz.prog w = .ok (.enter 206 us) w:=fun us w=>by kernel_rfl
theorem ent207:∀ us w,(callFunc 207 us).run Tryz.prog w = .ok (.enter 207 us) w:=fun us w=>by kernel_rfl
theorem ent208:∀ us w,(callFunc 208 us).run Tryz.prog w = .ok (.enter 208 us) w:=fun us w=>by kernel_rfl
theorem ent220:∀ us w,(callFunc 220 us).run Tryz.prog w = .ok (.enter 220 us) w:=fun us w=>by kernel_rfl
theorem mt62:MT Tryz.prog 62 9 3 (.int .i64 0):=⟨Tryz.underlying62,fun w=>by kernel_rfl⟩
theorem ke9keyL:KeyE Tryz.prog 9 keyL:=keyL_E Tryz.underlying9
theorem cv5_3:∀ i w,(convert 5 3 (.int .u8 i)).run Tryz.prog w = .ok (.int .i64 (IntKind.i64.wrap i)) w:=fun i w=>by kernel_rfl
theorem st9:Tryz.prog.underlying 9=some .string:=Tryz.underlying9
end Go.Proofs.YtbmnnbglipkidaaGreatDoor
