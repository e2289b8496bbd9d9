/-
  The library's functions strings.Join and strings.Split at this seat's program: that it bears what their contracts ask (printed by a program out of the library's own command).
-/
import Derived.Test.YtgelkakjmbiibaaGreatDoorOps2
import Derived.Shelf.Strings.OnBuilder
import Derived.Shelf.Strings.SplitShaped
import Derived.Shelf.Bits.Mul64
import Derived.Shelf.Strconv.Itoa3
import Derived.Lib.ItoaLen
namespace Go.Proofs
set_option linter.unusedVariables false
set_option linter.unusedSimpArgs false
open Go.Shelf
def Tryz.l156_ren : Go.Shelf.Ren := ⟨fun | 156 => 105 | 165 => 160 | 166 => 161 | 169 => 162 | 240 => 186 | 241 => 187 | 276 => 204 | 277 => 205 | n => n, fun | 31 => 93 | 9 => 9 | 3 => 3 | 4 => 4 | 0 => 0 | 20 => 20 | 72 => 142 | 76 => 146 | 70 => 140 | 37 => 33 | 75 => 145 | 127 => 165 | 164 => 181 | 5 => 5 | 80 => 148 | n => n, fun | n => n⟩
theorem Tryz.l156 : Go.Proofs.Lays.n156 Tryz.prog Tryz.l156_ren := {
  mixed := by kernel_rfl,
  f156 := Tryz.func105.trans (congrArg some (by kernel_rfl)),
  f165 := Tryz.func160.trans (congrArg some (by kernel_rfl)),
  f166 := Tryz.func161.trans (congrArg some (by kernel_rfl)),
  f169 := Tryz.func162.trans (congrArg some (by kernel_rfl)),
  f240 := Tryz.func186.trans (congrArg some (by kernel_rfl)),
  f241 := Tryz.func187.trans (congrArg some (by kernel_rfl)),
  f276 := Tryz.func204.trans (congrArg some (by kernel_rfl)),
  f277 := Tryz.func205.trans (congrArg some (by kernel_rfl)),
  t0 := Tryz.underlying0,
  a0 := Tryz.isAgg0,
  z0 := Tryz.sizeOf0,
  v0 := Tryz.zeroValue0,
  t3 := Tryz.underlying3,
  a3 := Tryz.isAgg3,
  z3 := Tryz.sizeOf3,
  v3 := Tryz.zeroValue3,
  t4 := Tryz.underlying4,
  a4 := Tryz.isAgg4,
  z4 := Tryz.sizeOf4,
  v4 := Tryz.zeroValue4,
  t9 := Tryz.underlying9,
  a9 := Tryz.isAgg9,
  z9 := Tryz.sizeOf9,
  v9 := Tryz.zeroValue9,
  t20 := Tryz.underlying20,
  a20 := Tryz.isAgg20,
  z20 := Tryz.sizeOf20,
  v20 := Tryz.zeroValue20,
  t31 := Tryz.underlying93,
  a31 := Tryz.isAgg93,
  z31 := Tryz.sizeOf93,
  v31 := Tryz.zeroValue93,
  t37 := Tryz.underlying33,
  a37 := Tryz.isAgg33,
  z37 := Tryz.sizeOf33,
  v37 := Tryz.zeroValue33,
  t70 := Tryz.underlying140,
  a70 := Tryz.isAgg140,
  z70 := Tryz.sizeOf140,
  v70 := Tryz.zeroValue140,
  t72 := Tryz.underlying142,
  a72 := Tryz.isAgg142,
  z72 := Tryz.sizeOf142,
  v72 := Tryz.zeroValue142,
  t75 := Tryz.underlying145,
  a75 := Tryz.isAgg145,
  z75 := Tryz.sizeOf145,
  v75 := Tryz.zeroValue145,
  t76 := Tryz.underlying146,
  a76 := Tryz.isAgg146,
  z76 := Tryz.sizeOf146,
  v76 := Tryz.zeroValue146,
  t127 := Tryz.underlying165,
  a127 := Tryz.isAgg165,
  z127 := Tryz.sizeOf165,
  v127 := Tryz.zeroValue165,
  t164 := Tryz.underlying181,
  a164 := Tryz.isAgg181,
  z164 := Tryz.sizeOf181,
  v164 := Tryz.zeroValue181 }
def Tryz.l146_ren : Go.Shelf.Ren := ⟨fun | 146 => 100 | 221 => 155 | 268 => 183 | 138 => 184 | 143 => 144 | 195 => 201 | 197 => 202 | 218 => 203 | 219 => 180 | 260 => 210 | 217 => 197 | 225 => 198 | 224 => 199 | 267 => 200 | 266 => 208 | 314 => 209 | n => n, fun | 9 => 9 | 31 => 93 | 3 => 3 | 4 => 4 | 0 => 0 | 105 => 179 | 21 => 21 | 5 => 5 | 46 => 128 | 119 => 192 | 139 => 195 | 138 => 194 | 146 => 166 | 51 => 160 | n => n, fun | 1 => 0 | 3 => 1 | 4 => 2 | n => n⟩
theorem Tryz.l146 : Go.Proofs.LaysM.n146 Tryz.prog Tryz.l146_ren := {
  mixed := by kernel_rfl,
  f138 := Tryz.func184.trans (congrArg some (by kernel_rfl)),
  f143 := Tryz.func144.trans (congrArg some (by kernel_rfl)),
  f146 := Tryz.func100.trans (congrArg some (by kernel_rfl)),
  f195 := Tryz.func201.trans (congrArg some (by kernel_rfl)),
  f197 := Tryz.func202.trans (congrArg some (by kernel_rfl)),
  f217 := Tryz.func197.trans (congrArg some (by kernel_rfl)),
  f218 := Tryz.func203.trans (congrArg some (by kernel_rfl)),
  f219 := Tryz.func180.trans (congrArg some (by kernel_rfl)),
  f221 := Tryz.func155.trans (congrArg some (by kernel_rfl)),
  f224 := Tryz.func199.trans (congrArg some (by kernel_rfl)),
  f225 := Tryz.func198.trans (congrArg some (by kernel_rfl)),
  f260 := Tryz.func210.trans (congrArg some (by kernel_rfl)),
  f266 := Tryz.func208.trans (congrArg some (by kernel_rfl)),
  f267 := Tryz.func200.trans (congrArg some (by kernel_rfl)),
  f268 := Tryz.func183.trans (congrArg some (by kernel_rfl)),
  f314 := Tryz.func209.trans (congrArg some (by kernel_rfl)),
  t0 := Tryz.underlying0,
  a0 := Tryz.isAgg0,
  z0 := Tryz.sizeOf0,
  v0 := Tryz.zeroValue0,
  t3 := Tryz.underlying3,
  a3 := Tryz.isAgg3,
  z3 := Tryz.sizeOf3,
  v3 := Tryz.zeroValue3,
  t4 := Tryz.underlying4,
  a4 := Tryz.isAgg4,
  z4 := Tryz.sizeOf4,
  v4 := Tryz.zeroValue4,
  t5 := Tryz.underlying5,
  a5 := Tryz.isAgg5,
  z5 := Tryz.sizeOf5,
  v5 := Tryz.zeroValue5,
  t9 := Tryz.underlying9,
  a9 := Tryz.isAgg9,
  z9 := Tryz.sizeOf9,
  v9 := Tryz.zeroValue9,
  t21 := Tryz.underlying21,
  a21 := Tryz.isAgg21,
  z21 := Tryz.sizeOf21,
  v21 := Tryz.zeroValue21,
  t31 := Tryz.underlying93,
  a31 := Tryz.isAgg93,
  z31 := Tryz.sizeOf93,
  v31 := Tryz.zeroValue93,
  t46 := Tryz.underlying128,
  a46 := Tryz.isAgg128,
  z46 := Tryz.sizeOf128,
  v46 := Tryz.zeroValue128,
  t51 := Tryz.underlying160,
  a51 := Tryz.isAgg160,
  z51 := Tryz.sizeOf160,
  v51 := Tryz.zeroValue160,
  t105 := Tryz.underlying179,
  a105 := Tryz.isAgg179,
  z105 := Tryz.sizeOf179,
  v105 := Tryz.zeroValue179,
  t119 := Tryz.underlying192,
  a119 := Tryz.isAgg192,
  z119 := Tryz.sizeOf192,
  t138 := Tryz.underlying194,
  a138 := Tryz.isAgg194,
  z138 := Tryz.sizeOf194,
  v138 := Tryz.zeroValue194,
  t139 := Tryz.underlying195,
  a139 := Tryz.isAgg195,
  z139 := Tryz.sizeOf195,
  v139 := Tryz.zeroValue195,
  t146 := Tryz.underlying166,
  a146 := Tryz.isAgg166,
  z146 := Tryz.sizeOf166,
  v146 := Tryz.zeroValue166,
  g1 := by kernel_rfl,
  g3 := by kernel_rfl,
  g4 := by kernel_rfl,
  i0 := by kernel_rfl,
  i3 := by kernel_rfl,
  i4 := by kernel_rfl,
  i5 := by kernel_rfl,
  i9 := by kernel_rfl,
  i21 := by kernel_rfl,
  i31 := by kernel_rfl,
  i46 := by kernel_rfl,
  i51 := by kernel_rfl,
  i105 := by kernel_rfl,
  i138 := by kernel_rfl,
  i139 := by kernel_rfl,
  i146 := by kernel_rfl,
  m1 := by kernel_rfl,
  s1_3 := fun w h => Go.Proofs.cell_of_shapedOpen_int (zero := #[.int .i64 0]) (t := 3) h (of_decide_eq_true (by kernel_rfl)) (by kernel_rfl) rfl (by kernel_rfl) (by kernel_rfl) Tryz.underlying3,
  m3 := by kernel_rfl,
  m4 := by kernel_rfl }
def Tryz.l212_ren : Go.Shelf.Ren := ⟨fun | 212 => 166 | 263 => 189 | 264 => 190 | n => n, fun | 46 => 128 | 51 => 160 | 146 => 166 | 53 => 162 | 148 => 168 | n => n, fun | n => n⟩
theorem Tryz.l212 : Go.Proofs.Lays.n212 Tryz.prog Tryz.l212_ren := {
  mixed := by kernel_rfl,
  f212 := Tryz.func166.trans (congrArg some (by kernel_rfl)),
  f263 := Tryz.func189.trans (congrArg some (by kernel_rfl)),
  f264 := Tryz.func190.trans (congrArg some (by kernel_rfl)),
  t46 := Tryz.underlying128,
  a46 := Tryz.isAgg128,
  z46 := Tryz.sizeOf128,
  v46 := Tryz.zeroValue128,
  t51 := Tryz.underlying160,
  a51 := Tryz.isAgg160,
  z51 := Tryz.sizeOf160,
  v51 := Tryz.zeroValue160,
  t53 := Tryz.underlying162,
  a53 := Tryz.isAgg162,
  z53 := Tryz.sizeOf162,
  v53 := Tryz.zeroValue162,
  t146 := Tryz.underlying166,
  a146 := Tryz.isAgg166,
  z146 := Tryz.sizeOf166,
  v146 := Tryz.zeroValue166,
  t148 := Tryz.underlying168,
  a148 := Tryz.isAgg168,
  z148 := Tryz.sizeOf168,
  v148 := Tryz.zeroValue168 }
def Tryz.l171_ren : Go.Shelf.Ren := ⟨fun | 171 => 167 | 243 => 191 | 246 => 206 | 283 => 211 | 284 => 212 | 285 => 213 | 286 => 214 | 129 => 178 | 317 => 215 | 318 => 216 | 319 => 217 | 320 => 218 | 337 => 219 | 338 => 220 | n => n, fun | 3 => 3 | 9 => 9 | 2 => 2 | 4 => 4 | 171 => 188 | 0 => 0 | 53 => 162 | 37 => 33 | 5 => 5 | 173 => 190 | 212 => 197 | 51 => 160 | 20 => 20 | 213 => 198 | 46 => 128 | 232 => 199 | 233 => 200 | n => n, fun | 17 => 3 | 18 => 4 | 19 => 5 | n => n⟩
theorem Tryz.l171 : Go.Proofs.LaysM.n171 Tryz.prog Tryz.l171_ren := {
  mixed := by kernel_rfl,
  f129 := Tryz.func178.trans (congrArg some (by kernel_rfl)),
  f171 := Tryz.func167.trans (congrArg some (by kernel_rfl)),
  f243 := Tryz.func191.trans (congrArg some (by kernel_rfl)),
  f246 := Tryz.func206.trans (congrArg some (by kernel_rfl)),
  f283 := Tryz.func211.trans (congrArg some (by kernel_rfl)),
  f284 := Tryz.func212.trans (congrArg some (by kernel_rfl)),
  f285 := Tryz.func213.trans (congrArg some (by kernel_rfl)),
  f286 := Tryz.func214.trans (congrArg some (by kernel_rfl)),
  f317 := Tryz.func215.trans (congrArg some (by kernel_rfl)),
  f318 := Tryz.func216.trans (congrArg some (by kernel_rfl)),
  f319 := Tryz.func217.trans (congrArg some (by kernel_rfl)),
  f320 := Tryz.func218.trans (congrArg some (by kernel_rfl)),
  f337 := Tryz.func219.trans (congrArg some (by kernel_rfl)),
  f338 := Tryz.func220.trans (congrArg some (by kernel_rfl)),
  t0 := Tryz.underlying0,
  a0 := Tryz.isAgg0,
  z0 := Tryz.sizeOf0,
  v0 := Tryz.zeroValue0,
  t2 := Tryz.underlying2,
  a2 := Tryz.isAgg2,
  z2 := Tryz.sizeOf2,
  v2 := Tryz.zeroValue2,
  t3 := Tryz.underlying3,
  a3 := Tryz.isAgg3,
  z3 := Tryz.sizeOf3,
  v3 := Tryz.zeroValue3,
  t4 := Tryz.underlying4,
  a4 := Tryz.isAgg4,
  z4 := Tryz.sizeOf4,
  v4 := Tryz.zeroValue4,
  t5 := Tryz.underlying5,
  a5 := Tryz.isAgg5,
  z5 := Tryz.sizeOf5,
  v5 := Tryz.zeroValue5,
  t9 := Tryz.underlying9,
  a9 := Tryz.isAgg9,
  z9 := Tryz.sizeOf9,
  v9 := Tryz.zeroValue9,
  t20 := Tryz.underlying20,
  a20 := Tryz.isAgg20,
  z20 := Tryz.sizeOf20,
  v20 := Tryz.zeroValue20,
  t37 := Tryz.underlying33,
  a37 := Tryz.isAgg33,
  z37 := Tryz.sizeOf33,
  v37 := Tryz.zeroValue33,
  t46 := Tryz.underlying128,
  a46 := Tryz.isAgg128,
  z46 := Tryz.sizeOf128,
  v46 := Tryz.zeroValue128,
  t51 := Tryz.underlying160,
  a51 := Tryz.isAgg160,
  z51 := Tryz.sizeOf160,
  v51 := Tryz.zeroValue160,
  t53 := Tryz.underlying162,
  a53 := Tryz.isAgg162,
  z53 := Tryz.sizeOf162,
  v53 := Tryz.zeroValue162,
  t171 := Tryz.underlying188,
  a171 := Tryz.isAgg188,
  z171 := Tryz.sizeOf188,
  v171 := Tryz.zeroValue188,
  t173 := Tryz.underlying190,
  a173 := Tryz.isAgg190,
  z173 := Tryz.sizeOf190,
  v173 := Tryz.zeroValue190,
  t212 := Tryz.underlying197,
  a212 := Tryz.isAgg197,
  z212 := Tryz.sizeOf197,
  v212 := Tryz.zeroValue197,
  t213 := Tryz.underlying198,
  a213 := Tryz.isAgg198,
  z213 := Tryz.sizeOf198,
  t232 := Tryz.underlying199,
  a232 := Tryz.isAgg199,
  z232 := Tryz.sizeOf199,
  v232 := Tryz.zeroValue199,
  t233 := Tryz.underlying200,
  a233 := Tryz.isAgg200,
  z233 := Tryz.sizeOf200,
  v233 := Tryz.zeroValue200,
  g17 := by kernel_rfl,
  g18 := by kernel_rfl,
  g19 := by kernel_rfl,
  i0 := by kernel_rfl,
  i2 := by kernel_rfl,
  i3 := by kernel_rfl,
  i4 := by kernel_rfl,
  i5 := by kernel_rfl,
  i9 := by kernel_rfl,
  i20 := by kernel_rfl,
  i37 := by kernel_rfl,
  i46 := by kernel_rfl,
  i51 := by kernel_rfl,
  i53 := by kernel_rfl,
  i171 := by kernel_rfl,
  i173 := by kernel_rfl,
  i212 := by kernel_rfl,
  i232 := by kernel_rfl,
  i233 := by kernel_rfl,
  m17 := by kernel_rfl,
  m18 := by kernel_rfl,
  m19 := by kernel_rfl }
theorem Tryz.x156 : Builder.Extra Tryz.prog Tryz.l156_ren := {
  sizeBuilder := by kernel_rfl,
  liesBuilder := by kernel_rfl,
  t5 := Tryz.underlying5,
  a5 := Tryz.isAgg5,
  z5 := Tryz.sizeOf5,
  v5 := Tryz.zeroValue5,
  infoByte := by kernel_rfl,
  cellsByte := by kernel_rfl,
  sizeByte := by kernel_rfl,
  neB5 := by decide }
end Go.Proofs

namespace Go.Proofs.YtgelkakjmbiibaaGreatDoor
set_option linter.unusedVariables false
set_option linter.unusedSimpArgs false
open Go.RowKit
def plusSplit (s : ByteArray) : List ByteArray := Lib.splitB ⟨#[43]⟩ 0 (Lib.countB s ⟨#[43]⟩) s
theorem plusSplit_len (s : ByteArray) : (plusSplit s).length = Lib.countB s ⟨#[43]⟩ + 1 := Lib.splitB_all ⟨#[43]⟩ (by decide) 0 _ s rfl
def joinP (xs : List ByteArray) : ByteArray := ⟨(Lib.join (xs.map (·.data.toList)) [43]).toArray⟩
theorem split_w {W : World} {own : List Asn} (s : ByteArray) (hg : Ent own fun w => ∃ m, w.cell? ⟨Tryz.l146_ren.g 1, 0, none⟩ = some (.int .i64 m)) (hs : s.size < 4294967281) :
    Spec Tryz.prog 100 [.string s, .string ⟨#[43]⟩] W own fun v ow => ∃ r0 : Value, v = r0 ∧ IsS r0 ∧ ow = strs 9 r0 (plusSplit s) :: own := fun w hst => by
  obtain ⟨m, hm⟩ := hg W w hst
  have h := Any.strings_Split { Tryz.l146 with } Tryz.l146.i9 s ⟨#[43]⟩ m w hs hm (by decide)
  refine h.mono fun e w' ⟨he, hw⟩ => ?_
  have hl := plusSplit_len s
  have hcs : ((plusSplit s).map Value.string).length = (Lib.countB s ⟨#[43]⟩ + 1) * 1 := by rw [List.length_map, hl, Nat.mul_one]
  have hcb := Lib.countB_le ⟨#[43]⟩ (by decide) s.size s (Nat.le_refl _)
  subst hw
  refine ⟨_, _, he, ⟨_, rfl, ⟨_, _, _, rfl⟩, rfl⟩, ?_⟩
  refine row_push hst (.inr ⟨by simp, w.heap.size, Lib.countB s ⟨#[43]⟩ + 1, ((plusSplit s).map Value.string).toArray, by rw [hl], Nat.le_refl _, heap_alloc_new w _, by omega, by simp only [maxLen]; omega, by simpa using hl, ?_⟩) ((Below.refl _ _).alloc (Nat.le_refl _) _)
  rw [List.take_of_length_le (by simp [hl])]
theorem join_w {W : World} {own : List Asn} {v : Value} {xs : List ByteArray} (_ : IsS v) (hv : Ent own fun w => Strs w v xs) (hl : (joinP xs).size ≤ 140737488355328) (hN : xs.length ≤ 140737488355328) :
    Spec Tryz.prog 105 [v, .string ⟨#[43]⟩] W own fun u ow => u = .string (joinP xs) ∧ ow = own := Spec.below fun w hst => by
  obtain ⟨_, ao, cap, rfl, h1, _, _, h4⟩ := hv W w hst
  cases xs with
  | nil => exact (Any.strings_Join_none Tryz.l156 Tryz.x156 ao cap ⟨#[43]⟩ w).mono fun e w' ⟨he, hw⟩ => ⟨he, hw ▸ Below.refl _ _⟩
  | cons x r =>
    obtain ⟨b, o, rfl, hb, hc⟩ := h4 (by simp)
    refine Any.strings_Join Tryz.l156 Tryz.x156 b o cap (x :: r) ⟨#[43]⟩ w (fun j y hy => ?_) hb hN h1 (by simpa [joinP, ByteArray.size] using hl)
    have hj : j < (x :: r).length := (List.getElem?_eq_some_iff.1 hy).1
    rw [hc j (by omega)]
    simp only [List.getD, List.getElem?_map, hy]
    rfl
end Go.Proofs.YtgelkakjmbiibaaGreatDoor

namespace Go.Proofs.YtgelkakjmbiibaaGreatDoor
set_option linter.unusedVariables false
set_option linter.unusedSimpArgs false
def dval (l : List UInt8) : Nat := l.foldl (fun a b => a * 10 + (b.toNat - 48)) 0
theorem dval_snoc (l : List UInt8) (b : UInt8) : dval (l ++ [b]) = dval l * 10 + (b.toNat - 48) := by simp [dval]
theorem dig_byte {k : Nat} (h : k < 10) : (UInt8.ofNat (48 + k)).toNat = 48 + k := by
  rw [UInt8.toNat_ofNat']
  omega
theorem decDigits_val (u : Nat) : dval (Lib.decDigits u) = u ∧ (∀ b ∈ Lib.decDigits u, 48 ≤ b.toNat ∧ b.toNat ≤ 57) := by
  induction u using Nat.strongRecOn with
  | _ u ih =>
    by_cases h : u < 10
    · rw [Lib.decDigits, dif_pos h]
      refine ⟨?_, fun b hb => ?_⟩
      · show 0 * 10 + ((UInt8.ofNat (48 + u)).toNat - 48) = u
        rw [dig_byte h]
        omega
      · simp only [List.mem_singleton] at hb
        subst hb
        rw [dig_byte h]
        omega
    · rw [Lib.decDigits, dif_neg h]
      obtain ⟨h1, h2⟩ := ih (u / 10) (by omega)
      refine ⟨?_, fun b hb => ?_⟩
      · rw [dval_snoc, h1, dig_byte (Nat.mod_lt _ (by omega))]
        omega
      · rcases List.mem_append.1 hb with hb | hb
        · exact h2 b hb
        · simp only [List.mem_singleton] at hb
          subst hb
          rw [dig_byte (Nat.mod_lt _ (by omega))]
          omega
theorem decDigits_ne (u : Nat) : Lib.decDigits u ≠ [] := by
  rw [Lib.decDigits]
  split <;> simp
theorem itoa_rng (n : Int) : ∀ b ∈ Lib.itoa n, b.toNat ≠ 32 ∧ b.toNat ≠ 44 := by
  intro b hb
  unfold Lib.itoa at hb
  split at hb
  · rcases List.mem_cons.1 hb with rfl | hb
    · decide
    · have := (decDigits_val _).2 b hb
      omega
  · have := (decDigits_val _).2 b hb
    omega
theorem itoa_inj {m n : Int} (h : Lib.itoa m = Lib.itoa n) : m = n := by
  have hd : ∀ {u v : Nat}, Lib.decDigits u = Lib.decDigits v → u = v := fun {u v} e => by rw [← (decDigits_val u).1, e, (decDigits_val v).1]
  have hn : ∀ {u v : Nat}, (45 : UInt8) :: Lib.decDigits u ≠ Lib.decDigits v := fun {u v} e => by
    have := (decDigits_val v).2 45 (by rw [← e]; simp)
    simp at this
  unfold Lib.itoa at h
  split at h <;> split at h
  · have := hd (List.cons.inj h).2
    omega
  · exact absurd h hn
  · exact absurd h.symm hn
  · have := hd h
    omega
theorem cut_eq {c : UInt8} : ∀ {a b s t : List UInt8}, (∀ x ∈ a, x ≠ c) → (∀ x ∈ b, x ≠ c) → (s = [] ∨ ∃ r, s = c :: r) → (t = [] ∨ ∃ r, t = c :: r) → a ++ s = b ++ t → a = b ∧ s = t
  | [], [], s, t, _, _, _, _, h => ⟨rfl, h⟩
  | [], y :: b, s, t, _, hb, hs, _, h => by
    rcases hs with rfl | ⟨r, rfl⟩
    · simp at h
    · simp only [List.nil_append, List.cons_append, List.cons.injEq] at h
      exact absurd h.1.symm (hb y (by simp))
  | x :: a, [], s, t, ha, _, _, ht, h => by
    rcases ht with rfl | ⟨r, rfl⟩
    · simp at h
    · simp only [List.nil_append, List.cons_append, List.cons.injEq] at h
      exact absurd h.1 (ha x (by simp))
  | x :: a, y :: b, s, t, ha, hb, hs, ht, h => by
    simp only [List.cons_append, List.cons.injEq] at h
    obtain ⟨e1, e2⟩ := cut_eq (fun z hz => ha z (by simp [hz])) (fun z hz => hb z (by simp [hz])) hs ht h.2
    exact ⟨by rw [h.1, e1], e2⟩
def fmtL (xs : List Int) : List UInt8 := Lib.join (xs.map Lib.itoa) [32]
def fmtB (xs : List Int) : ByteArray := ⟨(fmtL xs).toArray⟩
def itoaB (n : Int) : ByteArray := ⟨(Lib.itoa n).toArray⟩
theorem tail_form (r : List (List UInt8)) : Lib.joinTail [32] r = [] ∨ ∃ q, Lib.joinTail [32] r = 32 :: q := by
  cases r with
  | nil => exact .inl rfl
  | cons x r => exact .inr ⟨x ++ Lib.joinTail [32] r, by simp [Lib.joinTail]⟩
theorem tail_inj : ∀ {xs ys : List Int}, Lib.joinTail [32] (xs.map Lib.itoa) = Lib.joinTail [32] (ys.map Lib.itoa) → xs = ys
  | [], [], _ => rfl
  | [], y :: ys, h => by simp [Lib.joinTail] at h
  | x :: xs, [], h => by simp [Lib.joinTail] at h
  | x :: xs, y :: ys, h => by
    have h' : Lib.itoa x ++ Lib.joinTail [32] (xs.map Lib.itoa) = Lib.itoa y ++ Lib.joinTail [32] (ys.map Lib.itoa) := by simpa [Lib.joinTail] using h
    obtain ⟨e1, e2⟩ := cut_eq (c := 32) (fun z hz e => (itoa_rng x z hz).1 (by rw [e]; rfl)) (fun z hz e => (itoa_rng y z hz).1 (by rw [e]; rfl)) (tail_form _) (tail_form _) h'
    rw [itoa_inj e1, tail_inj e2]
theorem itoa_ne (n : Int) : Lib.itoa n ≠ [] := by
  unfold Lib.itoa
  split
  · simp
  · exact decDigits_ne _
theorem fmtL_inj {xs ys : List Int} (h : fmtL xs = fmtL ys) : xs = ys := by
  unfold fmtL at h
  cases xs with
  | nil =>
    cases ys with
    | nil => rfl
    | cons y ys =>
      rw [List.map_cons, Lib.join_cons] at h
      have : Lib.itoa y ++ Lib.joinTail [32] (ys.map Lib.itoa) = [] := h.symm
      exact absurd (List.append_eq_nil_iff.1 this).1 (itoa_ne y)
  | cons x xs =>
    cases ys with
    | nil =>
      rw [List.map_cons, Lib.join_cons] at h
      have : Lib.itoa x ++ Lib.joinTail [32] (xs.map Lib.itoa) = [] := h
      exact absurd (List.append_eq_nil_iff.1 this).1 (itoa_ne x)
    | cons y ys =>
      rw [List.map_cons, Lib.join_cons, List.map_cons, Lib.join_cons] at h
      have h' : Lib.itoa x ++ Lib.joinTail [32] (xs.map Lib.itoa) = Lib.itoa y ++ Lib.joinTail [32] (ys.map Lib.itoa) := h
      obtain ⟨e1, e2⟩ := cut_eq (c := 32) (fun z hz e => (itoa_rng x z hz).1 (by rw [e]; rfl)) (fun z hz e => (itoa_rng y z hz).1 (by rw [e]; rfl)) (tail_form _) (tail_form _) h'
      rw [itoa_inj e1, tail_inj e2]
theorem fmtB_inj {xs ys : List Int} (h : fmtB xs = fmtB ys) : xs = ys := by
  refine fmtL_inj ?_
  have := congrArg (fun b : ByteArray => b.data.toList) h
  simpa [fmtB] using this
theorem fmtB_eq (xs ys : List Int) : fmtB xs = fmtB ys ↔ xs = ys := ⟨fmtB_inj, fun h => by rw [h]⟩
theorem fmtB_join (xs : List Int) : (⟨(Lib.join ((xs.map itoaB).map (·.data.toList)) [32]).toArray⟩ : ByteArray) = fmtB xs := by
  unfold fmtB fmtL
  rw [List.map_map]
  rfl
theorem tail_len : ∀ (xs : List Int), (∀ x ∈ xs, -9223372036854775808 ≤ x ∧ x ≤ 9223372036854775807) → (Lib.joinTail [32] (xs.map Lib.itoa)).length ≤ 22 * xs.length
  | [], _ => by simp [Lib.joinTail]
  | x :: xs, h => by
    have e : Lib.joinTail [32] ((x :: xs).map Lib.itoa) = [32] ++ (Lib.itoa x ++ Lib.joinTail [32] (xs.map Lib.itoa)) := by simp [Lib.joinTail]
    have h1 := Lib.itoa_length_le x (h x (by simp)).1 (h x (by simp)).2
    have h2 := tail_len xs fun y hy => h y (by simp [hy])
    rw [e, List.length_append, List.length_append, List.length_cons, List.length_nil, List.length_cons]
    omega
theorem fmtB_size {xs : List Int} (h : ∀ x ∈ xs, -9223372036854775808 ≤ x ∧ x ≤ 9223372036854775807) : (fmtB xs).size ≤ 22 * xs.length := by
  show (fmtL xs).toArray.size ≤ _
  rw [List.size_toArray]
  cases xs with
  | nil => simp [fmtL, Lib.join]
  | cons x xs =>
    have h1 := Lib.itoa_length_le x (h x (by simp)).1 (h x (by simp)).2
    have h2 := tail_len xs fun y hy => h y (by simp [hy])
    have e : fmtL (x :: xs) = Lib.itoa x ++ Lib.joinTail [32] (xs.map Lib.itoa) := by rw [fmtL, List.map_cons, Lib.join_cons]
    rw [e, List.length_append, List.length_cons]
    omega
end Go.Proofs.YtgelkakjmbiibaaGreatDoor
