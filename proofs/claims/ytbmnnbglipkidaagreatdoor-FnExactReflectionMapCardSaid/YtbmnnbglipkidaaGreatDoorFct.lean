/-
  What the program says of types, functions and maps, one by one.
-/
import Derived.Test.YtbmnnbglipkidaaGreatDoorZ48
namespace Go.Proofs.YtbmnnbglipkidaaGreatDoor
set_option linter.unusedVariables false
set_option linter.unusedSimpArgs false
open Go.RowKit
theorem Ak:TI Tryz.prog 3 false 1 (.int .i64 (0)) []:=⟨fun w=>by kernel_rfl,by kernel_rfl,fun h=>by cases h⟩
theorem af:TI Tryz.prog 9 false 1 (.string (⟨#[]⟩)) []:=⟨fun w=>by kernel_rfl,by kernel_rfl,fun h=>by cases h⟩
theorem AH:TI Tryz.prog 22 false 1 (.slice none 0 0) []:=⟨fun w=>by kernel_rfl,by kernel_rfl,fun h=>by cases h⟩
theorem Vg:TI Tryz.prog 24 true 2 (.agg #[.int .i64 (0),.slice none 0 0]) [(0,1),(1,1)]:=⟨fun w=>by kernel_rfl,by kernel_rfl,fun _=>⟨_,Tryz.underlying24,fun w=>by kernel_rfl⟩⟩
theorem An:TI Tryz.prog 27 true 2 (.agg #[.int .i64 (0),.slice none 0 0]) [(0,1),(1,1)]:=⟨fun w=>by kernel_rfl,by kernel_rfl,fun _=>⟨_,Tryz.underlying27,fun w=>by kernel_rfl⟩⟩
theorem Bj:TI Tryz.prog 43 true 3 (.agg #[.int .i64 (0),.int .i64 (0),.slice none 0 0]) [(0,1),(1,1),(2,1)]:=⟨fun w=>by kernel_rfl,by kernel_rfl,fun _=>⟨_,Tryz.underlying43,fun w=>by kernel_rfl⟩⟩
theorem Ah:TI Tryz.prog 51 true 4 (.agg #[.int .i64 (0),.int .i64 (0),.int .i64 (0),.slice none 0 0]) [(0,1),(1,1),(2,1),(3,1)]:=⟨fun w=>by kernel_rfl,by kernel_rfl,fun _=>⟨_,Tryz.underlying51,fun w=>by kernel_rfl⟩⟩
theorem DZ:TI Tryz.prog 60 false 1 (.slice none 0 0) []:=⟨fun w=>by kernel_rfl,by kernel_rfl,fun h=>by cases h⟩
theorem GZ:TI Tryz.prog 62 false 1 (.map none) []:=⟨fun w=>by kernel_rfl,by kernel_rfl,fun h=>by cases h⟩
theorem Df:TI Tryz.prog 64 true 4 (.agg #[.int .i64 (0),.slice none 0 0,.slice none 0 0,.map none]) [(0,2),(2,1),(3,1)]:=⟨fun w=>by kernel_rfl,by kernel_rfl,fun _=>⟨_,Tryz.underlying64,fun w=>by kernel_rfl⟩⟩
theorem aB:TI Tryz.prog 113 false 1 (.slice none 0 0) []:=⟨fun w=>by kernel_rfl,by kernel_rfl,fun h=>by cases h⟩
theorem F7:TI Tryz.prog 195 false 1 (.nilFunc) []:=⟨fun w=>by kernel_rfl,by kernel_rfl,fun h=>by cases h⟩
theorem Ac:ET Tryz.prog 22 3 1 8 (.int .i64 (0)):=⟨Tryz.underlying22,by kernel_rfl,rfl,by omega⟩
theorem AM:ET Tryz.prog 60 22 1 24 (.slice none 0 0):=⟨Tryz.underlying60,by kernel_rfl,rfl,by omega⟩
theorem Bk:ET Tryz.prog 113 9 1 16 (.string (⟨#[]⟩)):=⟨Tryz.underlying113,by kernel_rfl,rfl,by omega⟩
theorem Hb:ET Tryz.prog 154 113 1 24 (.slice none 0 0):=⟨Tryz.underlying154,by kernel_rfl,rfl,by omega⟩
theorem Kf:ET Tryz.prog 179 27 2 32 (.agg #[.int .i64 (0),.slice none 0 0]):=⟨Tryz.underlying179,by kernel_rfl,rfl,by omega⟩
theorem cz:∀ (b k:Nat) w,(Instr.fieldAt 24 (.pointer (some ⟨b,k,none⟩)) 0).run Tryz.prog w = .ok (.pointer (some ⟨b,k+0,none⟩)) w:=fun b k w=>by kernel_rfl
theorem Xa:∀ (b k:Nat) w,(Instr.fieldAt 24 (.pointer (some ⟨b,k,none⟩)) 1).run Tryz.prog w = .ok (.pointer (some ⟨b,k+1,none⟩)) w:=fun b k w=>by kernel_rfl
theorem Aq:∀ (b k:Nat) w,(Instr.fieldAt 27 (.pointer (some ⟨b,k,none⟩)) 0).run Tryz.prog w = .ok (.pointer (some ⟨b,k+0,none⟩)) w:=fun b k w=>by kernel_rfl
theorem AV:∀ (b k:Nat) w,(Instr.fieldAt 27 (.pointer (some ⟨b,k,none⟩)) 1).run Tryz.prog w = .ok (.pointer (some ⟨b,k+1,none⟩)) w:=fun b k w=>by kernel_rfl
theorem G8:∀ (b k:Nat) w,(Instr.fieldAt 43 (.pointer (some ⟨b,k,none⟩)) 0).run Tryz.prog w = .ok (.pointer (some ⟨b,k+0,none⟩)) w:=fun b k w=>by kernel_rfl
theorem Cv:∀ (b k:Nat) w,(Instr.fieldAt 43 (.pointer (some ⟨b,k,none⟩)) 1).run Tryz.prog w = .ok (.pointer (some ⟨b,k+1,none⟩)) w:=fun b k w=>by kernel_rfl
theorem GH:∀ (b k:Nat) w,(Instr.fieldAt 43 (.pointer (some ⟨b,k,none⟩)) 2).run Tryz.prog w = .ok (.pointer (some ⟨b,k+2,none⟩)) w:=fun b k w=>by kernel_rfl
theorem BG:∀ (b k:Nat) w,(Instr.fieldAt 51 (.pointer (some ⟨b,k,none⟩)) 0).run Tryz.prog w = .ok (.pointer (some ⟨b,k+0,none⟩)) w:=fun b k w=>by kernel_rfl
theorem BJ:∀ (b k:Nat) w,(Instr.fieldAt 51 (.pointer (some ⟨b,k,none⟩)) 1).run Tryz.prog w = .ok (.pointer (some ⟨b,k+1,none⟩)) w:=fun b k w=>by kernel_rfl
theorem BN:∀ (b k:Nat) w,(Instr.fieldAt 51 (.pointer (some ⟨b,k,none⟩)) 2).run Tryz.prog w = .ok (.pointer (some ⟨b,k+2,none⟩)) w:=fun b k w=>by kernel_rfl
theorem BV:∀ (b k:Nat) w,(Instr.fieldAt 51 (.pointer (some ⟨b,k,none⟩)) 3).run Tryz.prog w = .ok (.pointer (some ⟨b,k+3,none⟩)) w:=fun b k w=>by kernel_rfl
theorem MP:∀ (b k:Nat) w,(Instr.fieldAt 64 (.pointer (some ⟨b,k,none⟩)) 0).run Tryz.prog w = .ok (.pointer (some ⟨b,k+0,none⟩)) w:=fun b k w=>by kernel_rfl
theorem BR:∀ (b k:Nat) w,(Instr.fieldAt 64 (.pointer (some ⟨b,k,none⟩)) 1).run Tryz.prog w = .ok (.pointer (some ⟨b,k+2,none⟩)) w:=fun b k w=>by kernel_rfl
theorem GK:∀ (b k:Nat) w,(Instr.fieldAt 64 (.pointer (some ⟨b,k,none⟩)) 2).run Tryz.prog w = .ok (.pointer (some ⟨b,k+3,none⟩)) w:=fun b k w=>by kernel_rfl
theorem ff:∀ us w,(callFunc 11 us).run Tryz.prog w = .ok (.enter 11 us) w:=fun us w=>by kernel_rfl
theorem aG:∀ us w,(callFunc 14 us).run Tryz.prog w = .ok (.enter 14 us) w:=fun us w=>by kernel_rfl
theorem eK:∀ us w,(callFunc 36 us).run Tryz.prog w = .ok (.enter 36 us) w:=fun us w=>by kernel_rfl
theorem Q6:∀ us w,(callFunc 39 us).run Tryz.prog w = .ok (.enter 39 us) w:=fun us w=>by kernel_rfl
theorem eC:∀ us w,(callFunc 50 us).run Tryz.prog w = .ok (.enter 50 us) w:=fun us w=>by kernel_rfl
theorem T9:∀ us w,(callFunc 51 us).run Tryz.prog w = .ok (.enter 51 us) w:=fun us w=>by kernel_rfl
theorem QR:∀ us w,(callFunc 52 us).run Tryz.prog w = .ok (.enter 52 us) w:=fun us w=>by kernel_rfl
theorem FF:∀ us w,(callFunc 54 us).run Tryz.prog w = .ok (.enter 54 us) w:=fun us w=>by kernel_rfl
theorem QK:∀ us w,(callFunc 58 us).run Tryz.prog w = .ok (.enter 58 us) w:=fun us w=>by kernel_rfl
theorem Re:∀ us w,(callFunc 66 us).run Tryz.prog w = .ok (.enter 66 us) w:=fun us w=>by kernel_rfl
theorem Gx:∀ us w,(callFunc 68 us).run Tryz.prog w = .ok (.enter 68 us) w:=fun us w=>by kernel_rfl
theorem ah:∀ us w,(callFunc 71 us).run Tryz.prog w = .ok (.enter 71 us) w:=fun us w=>by kernel_rfl
theorem fl:∀ us w,(callFunc 72 us).run Tryz.prog w = .ok (.enter 72 us) w:=fun us w=>by kernel_rfl
theorem NG:∀ us w,(callFunc 73 us).run Tryz.prog w = .ok (.enter 73 us) w:=fun us w=>by kernel_rfl
theorem OB:∀ us w,(callFunc 75 us).run Tryz.prog w = .ok (.enter 75 us) w:=fun us w=>by kernel_rfl
theorem Md:∀ us w,(callFunc 77 us).run Tryz.prog w = .ok (.enter 77 us) w:=fun us w=>by kernel_rfl
theorem EE:∀ us w,(callFunc 80 us).run Tryz.prog w = .ok (.enter 80 us) w:=fun us w=>by kernel_rfl
theorem RI:∀ us w,(callFunc 84 us).run Tryz.prog w = .ok (.enter 84 us) w:=fun us w=>by kernel_rfl
theorem N1:∀ us w,(callFunc 91 us).run Tryz.prog w = .ok (.enter 91 us) w:=fun us w=>by kernel_rfl
theorem eO:∀ us w,(callFunc 94 us).run Tryz.prog w = .ok (.enter 94 us) w:=fun us w=>by kernel_rfl
theorem Q0:∀ us w,(callFunc 95 us).run Tryz.prog w = .ok (.enter 95 us) w:=fun us w=>by kernel_rfl
theorem Hd:∀ us w,(callFunc 96 us).run Tryz.prog w = .ok (.enter 96 us) w:=fun us w=>by kernel_rfl
theorem dE:∀ us w,(callFunc 97 us).run Tryz.prog w = .ok (.enter 97 us) w:=fun us w=>by kernel_rfl
theorem E8:∀ us w,(callFunc 98 us).run Tryz.prog w = .ok (.enter 98 us) w:=fun us w=>by kernel_rfl
theorem aO:∀ us w,(callFunc 103 us).run Tryz.prog w = .ok (.enter 103 us) w:=fun us w=>by kernel_rfl
theorem b7:∀ us w,(callFunc 105 us).run Tryz.prog w = .ok (.enter 105 us) w:=fun us w=>by kernel_rfl
theorem Pc:∀ us w,(callFunc 108 us).run Tryz.prog w = .ok (.enter 108 us) w:=fun us w=>by kernel_rfl
theorem ent109:∀ us w,(callFunc 109 us).run Tryz.prog w = .ok (.enter 109 us) w:=fun us w=>by kernel_rfl
theorem bT:∀ us w,(callFunc 111 us).run Tryz.prog w = .ok (.enter 111 us) w:=fun us w=>by kernel_rfl
theorem b4:∀ us w,(callFunc 112 us).run Tryz.prog w = .ok (.enter 112 us) w:=fun us w=>by kernel_rfl
theorem cW:∀ us w,(callFunc 113 us).run Tryz.prog w = .ok (.enter 113 us) w:=fun us w=>by kernel_rfl
theorem PY:∀ us w,(callFunc 117 us).run Tryz.prog w = .ok (.enter 117 us) w:=fun us w=>by kernel_rfl
theorem cj:∀ us w,(callFunc 121 us).run Tryz.prog w = .ok (.enter 121 us) w:=fun us w=>by kernel_rfl
theorem Pd:∀ us w,(callFunc 124 us).run Tryz.prog w = .ok (.enter 124 us) w:=fun us w=>by kernel_rfl
theorem MR:∀ us w,(callFunc 126 us).run Tryz.prog w = .ok (.enter 126 us) w:=fun us w=>by kernel_rfl
theorem Nj:∀ us w,(callFunc 128 us).run Tryz.prog w = .ok (.enter 128 us) w:=fun us w=>by kernel_rfl
theorem V8:∀ us w,(callFunc 130 us).run Tryz.prog w = .ok (.enter 130 us) w:=fun us w=>by kernel_rfl
theorem MA:∀ us w,(callFunc 151 us).run Tryz.prog w = .ok (.enter 151 us) w:=fun us w=>by kernel_rfl
theorem bx:∀ us w,(callFunc 152 us).run Tryz.prog w = .ok (.enter 152 us) w:=fun us w=>by kernel_rfl
theorem UE:∀ us w,(callFunc 153 us).run Tryz.prog w = .ok (.enter 153 us) w:=fun us w=>by kernel_rfl
theorem V5:∀ us w,(callFunc 156 us).run Tryz.prog w = .ok (.enter 156 us) w:=fun us w=>by kernel_rfl
theorem bN:∀ us w,(callFunc 157 us).run Tryz.prog w = .ok (.enter 157 us) w:=fun us w=>by kernel_rfl
theorem Vn:∀ us w,(callFunc 158 us).run Tryz.prog w = .ok (.enter 158 us) w:=fun us w=>by kernel_rfl
theorem O9:∀ us w,(callFunc 163 us).run Tryz.prog w = .ok (.enter 163 us) w:=fun us w=>by kernel_rfl
theorem V3:∀ us w,(callFunc 164 us).run Tryz.prog w = .ok (.enter 164 us) w:=fun us w=>by kernel_rfl
theorem Vy:∀ us w,(callFunc 165 us).run Tryz.prog w = .ok (.enter 165 us) w:=fun us w=>by kernel_rfl
theorem bK:∀ us w,(callFunc 179 us).run Tryz.prog w = .ok (.enter 179 us) w:=fun us w=>by kernel_rfl
theorem OZ:∀ us w,(callFunc 183 us).run Tryz.prog w = .ok (.enter 183 us) w:=fun us w=>by kernel_rfl
theorem bU:∀ us w,(callFunc 184 us).run Tryz.prog w = .ok (.enter 184 us) w:=fun us w=>by kernel_rfl
theorem bb:∀ us w,(callFunc 185 us).run Tryz.prog w = .ok (.enter 185 us) w:=fun us w=>by kernel_rfl
theorem cL:∀ us w,(callFunc 186 us).run Tryz.prog w = .ok (.enter 186 us) w:=fun us w=>by kernel_rfl
theorem Vs:∀ us w,(callFunc 187 us).run Tryz.prog w = .ok (.enter 187 us) w:=fun us w=>by kernel_rfl
theorem de:∀ us w,(callFunc 205 us).run Tryz.prog w = .ok (.enter 205 us) w:=fun us w=>by kernel_rfl
theorem FP:∀ us w,(callFunc 206 us).run Tryz.prog w = .ok (.enter 206 us) w:=fun us w=>by kernel_rfl
theorem MV:∀ us w,(callFunc 207 us).run Tryz.prog w = .ok (.enter 207 us) w:=fun us w=>by kernel_rfl
theorem b6:∀ us w,(callFunc 208 us).run Tryz.prog w = .ok (.enter 208 us) w:=fun us w=>by kernel_rfl
theorem bA:∀ us w,(callFunc 220 us).run Tryz.prog w = .ok (.enter 220 us) w:=fun us w=>by kernel_rfl
theorem GY:MT Tryz.prog 62 9 3 (.int .i64 0):=⟨Tryz.underlying62,fun w=>by kernel_rfl⟩
theorem De:KeyE Tryz.prog 9 Bc:=aK Tryz.underlying9
theorem Nz:∀ i w,(convert 5 3 (.int .u8 i)).run Tryz.prog w = .ok (.int .i64 (IntKind.i64.wrap i)) w:=fun i w=>by kernel_rfl
theorem Z9:Tryz.prog.underlying 9=some .string:=Tryz.underlying9
end Go.Proofs.YtbmnnbglipkidaaGreatDoor
