/-
  Drawn inputs: bytes that can be read, shifts and bits of numbers.
-/
import Derived.Test.YtbmnnbglipkidaaGreatDoorOps2
import Derived.Test.YtbmnnbglipkidaaGreatDoorLate
import Derived.Test.YtbmnnbglipkidaaGreatDoorMap
import Derived.Shelf.Strconv.Itoa3
import Derived.Test.YtbmnnbglipkidaaGreatDoorBase
import Derived.ProofKit
import Derived.SizedLaws
import Derived.Deep.Slices
import Derived.Deep.Fields
import Derived.ChangeSame
import Derived.Lib.SmallJoins
import Derived.Test.YtbmnnbglipkidaaGreatDoorZ15
import Derived.Test.YtbmnnbglipkidaaGreatDoorZ07
import Derived.Test.YtbmnnbglipkidaaGreatDoorTie
import Derived.Test.YtbmnnbglipkidaaGreatDoorCards
import Derived.ChangeMaps5
import Derived.LaidMore
import Derived.Lay
import Derived.SevenTiedAt
import Derived.Stop.Joined
import Derived.Lib.LaidTab
namespace Go.Proofs.YtbmnnbglipkidaaGreatDoor
set_option linter.unusedVariables false
set_option linter.unusedSimpArgs false
open Go.RowKit
abbrev Byts (w : World) (v : Value) (bs : List Int) : Prop := Sl w v bs.length 1 (bs.map (Value.int .u8))
def shrI (x y : Int) : Int := x.fdiv (2 ^ (min y.toNat 64))
def andI (x y : Int) : Int := IntKind.i64.wrap ((BitVec.ofInt 64 x &&& BitVec.ofInt 64 y).toNat : Int)
def xorI (x y : Int) : Int := IntKind.i64.wrap ((BitVec.ofInt 64 x ^^^ BitVec.ofInt 64 y).toNat : Int)
section
variable {P : Program} {o : Oper} {n : Nat} {env : List (Nat × Value)} {W : World} {own : List Asn} {t yt : TypeId} {x y : Operand} {k : IntKind} {i j : Int}
theorem OD.shr (hop : o.op = .binOp .shr t x y yt) (hx : ev env x = some (.int .i64 i)) (hy : ev env y = some (.int k j)) (h : 0 ≤ j) : OD P o n env W own (.int .i64 (shrI i j)) own :=
  .bin hop hx hy fun w => by
    have h2 : ¬ j < 0 := by omega
    simp [eqGuard, binOp, Op.shift, h2, shrI, IntKind.bits]
theorem OD.andB (hop : o.op = .binOp .and t x y yt) (hx : ev env x = some (.int .i64 i)) (hy : ev env y = some (.int .i64 j)) : OD P o n env W own (.int .i64 (andI i j)) own :=
  .bin hop hx hy fun w => by (first | rfl | (simp [eqGuard, binOp, Op.intBits]; rfl) | (simp only [eqGuard, binOp, Op.intBits]; rfl))
theorem OD.xorB (hop : o.op = .binOp .xor t x y yt) (hx : ev env x = some (.int .i64 i)) (hy : ev env y = some (.int .i64 j)) : OD P o n env W own (.int .i64 (xorI i j)) own :=
  .bin hop hx hy fun w => by (first | rfl | (simp [eqGuard, binOp, Op.intBits]; rfl) | (simp only [eqGuard, binOp, Op.intBits]; rfl))
theorem OD.nilCheck {a : Addr} (hop : o.op = .nilCheck x) (hx : ev env x = some (.pointer (some a))) : OD P o n env W own (.pointer (some a)) own :=
  .of fun a w hf _ => by simp [execOp, hop, hf.ev hx]
theorem OD.loadByte {pl : List (Nat × Nat)} {e : Nat} {v : Value} {bs : List Int} {zero : Value} {j : Nat} (hop : o.op = .load e x) (ti : TI P e false 1 zero pl) (hx : ev env x = some (elemPtr v 1 j)) (hv : Ent own fun w => Byts w v bs) (hj : j < bs.length) : OD P o n env W own (.int .u8 (bs.getD j 0)) own :=
  OD.loadElem hop ti hx hv hj (by simp [List.getD, hj])
end
theorem andI_255 (x : Int) : 0 ≤ andI x 255 ∧ andI x 255 ≤ 255 := by
  have h : (BitVec.ofInt 64 x &&& BitVec.ofInt 64 255).toNat ≤ 255 := by
    rw [BitVec.toNat_and]
    exact Nat.le_trans Nat.and_le_right (by decide)
  unfold andI
  rw [wrap_in (by omega) (by omega)]
  omega
theorem tmod_rng {x n : Int} (h : 0 ≤ x) (hn : 1 ≤ n) : 0 ≤ x.tmod n ∧ x.tmod n < n := ⟨Int.tmod_nonneg _ h, Int.tmod_lt_of_pos _ (by omega)⟩
end Go.Proofs.YtbmnnbglipkidaaGreatDoor

namespace Go.Proofs.YtbmnnbglipkidaaGreatDoor
set_option linter.unusedVariables false
set_option linter.unusedSimpArgs false
open Go.RowKit
def curA (g T : Nat) (vb : Value) : Asn where
  p F w := (∀ k, F k ↔ k = g) ∧ ∃ i h : Int, 0 ≤ i ∧ w.heap[g]? = some (.cells [vb, .int .i64 i, .int .i64 h].toArray T (0, 0))
  loc h hw := ⟨h.1, let ⟨i, hh, h1, h2⟩ := h.2; ⟨i, hh, h1, (hw _ ((h.1 _).2 rfl)).trans h2⟩⟩
section
variable {W w : World} {own : List Asn} {g T : Nat} {vb : Value} {i h : Int}
theorem St.curClose (hs : St W w (Proofs.YtbmnnbglipkidaaGreatDoor.box g T [vb, .int .i64 i, .int .i64 h] :: own)) (hi : 0 ≤ i) : St W w (Proofs.YtbmnnbglipkidaaGreatDoor.curA g T vb :: own) := by
  obtain ⟨h1, h2, h3, F, h4, F1, F2, a1, a2, a3, a4⟩ := hs
  exact ⟨h1, h2, h3, F, h4, F1, F2, a1, a2, ⟨a3.1, i, h, hi, a3.2⟩, a4⟩
theorem St.curOpen (hs : St W w (Proofs.YtbmnnbglipkidaaGreatDoor.curA g T vb :: own)) : ∃ i h : Int, 0 ≤ i ∧ St W w (Proofs.YtbmnnbglipkidaaGreatDoor.box g T [vb, .int .i64 i, .int .i64 h] :: own) := by
  obtain ⟨h1, h2, h3, F, h4, F1, F2, a1, a2, ⟨b1, i, h, hi, b2⟩, a4⟩ := hs
  exact ⟨i, h, hi, h1, h2, h3, F, h4, F1, F2, a1, a2, ⟨b1, b2⟩, a4⟩
theorem St.curAt {k : Nat} (hs : St W w own) (hk : own[k]? = some (Proofs.YtbmnnbglipkidaaGreatDoor.curA g T vb)) : ∃ i h : Int, 0 ≤ i ∧ St W w (Proofs.YtbmnnbglipkidaaGreatDoor.box g T [vb, .int .i64 i, .int .i64 h] :: own.eraseIdx k) := (hs.perm (perm_front hk)).curOpen
theorem St.curBack {k : Nat} (L : List Asn) (hk : own[k]? = some (Proofs.YtbmnnbglipkidaaGreatDoor.curA g T vb)) (hi : 0 ≤ i) (hs : St W w (L ++ Proofs.YtbmnnbglipkidaaGreatDoor.box g T [vb, .int .i64 i, .int .i64 h] :: own.eraseIdx k)) : St W w (L ++ own) := by
  have h1 : St W w (Proofs.YtbmnnbglipkidaaGreatDoor.box g T [vb, .int .i64 i, .int .i64 h] :: (L ++ own.eraseIdx k)) := hs.perm List.perm_middle
  exact (h1.curClose hi).perm (List.perm_middle.symm.trans ((perm_front hk).symm.append_left L))
theorem GC.curA {P : Program} {c : Code} {Q : Exit → Act → World → Prop} {n : Nat} {env : List (Nat × Value)} (hi : 0 ≤ i) (hc : GC P c Q n env W (Proofs.YtbmnnbglipkidaaGreatDoor.curA g T vb :: own)) : GC P c Q n env W (Proofs.YtbmnnbglipkidaaGreatDoor.box g T [vb, .int .i64 i, .int .i64 h] :: own) := fun a w hf hs => hc a w hf (hs.curClose hi)
end
def toI1 : Value → Int
  | .int _ i => i
  | _ => 0
def toIs : Value → List Int
  | .agg a => a.toList.map toI1
  | _ => []
theorem toIs_mk (xs : List Int) : toIs (.agg (xs.map (Value.int .i64)).toArray) = xs := by
  simp only [toIs, List.map_map]
  exact (List.map_congr_left fun _ _ => rfl).trans (List.map_id xs)
theorem toIs_ex (xs : List Int) : ∃ z, xs = toIs z := ⟨_, (toIs_mk xs).symm⟩
end Go.Proofs.YtbmnnbglipkidaaGreatDoor

namespace Go.Proofs.YtbmnnbglipkidaaGreatDoor
set_option linter.unusedVariables false
set_option linter.unusedSimpArgs false
open Go.RowKit Go.Sort
theorem below_grow (w : World) (k : Nat) (os : Array Obj) : Below w.heap.size w (grow (w.drewN k) os) := by
  refine ⟨rfl, rfl, rfl, by simp [grow], fun i hi => ?_⟩
  simp only [grow]
  rw [Array.getElem?_append_left (by simpa using hi)]
  rfl
def Pow10 (w : World) : Prop := Lib.TabIs Tryz.prog w "internal/strconv.uint64pow10" .u64 Lib.pow10Tab
def I64 (n : Int) : Prop := -9223372036854775808 ≤ n ∧ n ≤ 9223372036854775807
def All64 (xs : List Int) : Prop := ∀ x ∈ xs, I64 x
theorem All64.get {xs : List Int} (h : All64 xs) {k : Nat} (hk : k < xs.length) : I64 (xs.getD k 0) := by
  have e : xs.getD k 0 = xs[k] := by simp [List.getD, hk]
  rw [e]
  exact h _ (List.getElem_mem hk)
theorem itoa_step {x : List Int} {k : Nat} (h : k < x.length) : (x.take k).map itoaB ++ [itoaB (x.getD k 0)] = (x.take (k + 1)).map itoaB := by
  rw [List.take_succ_eq_append_getElem h, List.map_append]
  simp [List.getD, h]
theorem itoa_w {W : World} {own : List Asn} {n : Int} (hn : I64 n) (ht : Ent own Pow10) : Spec Tryz.prog 179 [.int .i64 n] W own fun v ow => v = .string (itoaB n) ∧ ow = own :=
  Spec.below fun w hst => (Any.strconv_Itoa { Tryz.l171 with } n hn.1 hn.2 w (ht W w hst)).mono fun e w' ⟨he, k, os, hw⟩ => ⟨he, hw ▸ below_grow w k os⟩
theorem joinS_w {W : World} {own : List Asn} {v : Value} {xs : List Int} (_ : IsS v) (hv : Ent own fun w => Strs w v (xs.map itoaB)) (hr : All64 xs) (hN : xs.length ≤ 1000000) :
    Spec Tryz.prog 153 [v, .string ⟨#[32]⟩] W own fun u ow => u = .string (fmtB xs) ∧ ow = own := Spec.below fun w hst => by
  obtain ⟨_, ao, cap, rfl, h1, _, _, h4⟩ := hv W w hst
  cases xs with
  | nil => exact (Any.strings_Join_none Tryz.l156 Tryz.x156 ao cap ⟨#[32]⟩ w).mono fun e w' ⟨he, hw⟩ => ⟨he, hw ▸ Below.refl _ _⟩
  | cons x r =>
    obtain ⟨b, o, rfl, hb, hc⟩ := h4 (by simp)
    have hsz := fmtB_size hr
    have hj := fmtB_join (x :: r)
    have h := Any.strings_Join Tryz.l156 Tryz.x156 b o cap ((x :: r).map itoaB) ⟨#[32]⟩ w (fun j y hy => ?_) hb (by rw [List.length_map]; omega) h1 (by
      have e := congrArg (fun b : ByteArray => b.data.size) hj
      simp only [List.size_toArray] at e
      have e2 : (fmtB (x :: r)).size = (fmtB (x :: r)).data.size := rfl
      show (Lib.join _ [32]).length ≤ _
      rw [e, ← e2]
      omega)
    · refine h.mono fun e w' ⟨he, hw⟩ => ⟨?_, hw⟩
      rw [he]
      exact congrArg (fun b => Ending.returned (.string b)) hj
    · have hj : j < ((x :: r).map itoaB).length := (List.getElem?_eq_some_iff.1 hy).1
      rw [hc j (by rw [List.length_map] at hj ⊢; omega)]
      simp only [List.getD, List.getElem?_map] at hy ⊢
      cases e : (x :: r)[j]? with
      | none => rw [e] at hy; cases hy
      | some z =>
        rw [e] at hy
        simp at hy
        simp [hy]
end Go.Proofs.YtbmnnbglipkidaaGreatDoor

namespace Go.Proofs.YtbmnnbglipkidaaGreatDoor
set_option linter.unusedVariables false
set_option linter.unusedSimpArgs false
open Go.ChangeShapes Go.WideShapes Go.ChangeAt Go.RowKit Go.Deep Go.Joins
theorem Tryz.own : ownKnob Tryz.prog.godebug = none := by kernel_rfl
theorem Tryz.laidOut : laidOutB Tryz.prog = true := by kernel_rfl
section
variable {H : Type} {enc : TypeId × Value → H} {P : Program} {w : World}
end
end Go.Proofs.YtbmnnbglipkidaaGreatDoor
namespace Go.Proofs.YtbmnnbglipkidaaGreatDoor
set_option linter.unusedVariables false
set_option linter.unusedSimpArgs false
open Go.ChangeShapes Go.WideShapes Go.ChangeAt Go.RowKit Go.Deep Go.Joins
section
variable {H : Type} {enc : TypeId × Value → H} {P : Program} {w : World}
end
end Go.Proofs.YtbmnnbglipkidaaGreatDoor
namespace Go.Proofs.YtbmnnbglipkidaaGreatDoor
set_option linter.unusedVariables false
set_option linter.unusedSimpArgs false
open Go.ChangeShapes Go.WideShapes Go.ChangeAt Go.RowKit Go.Deep Go.Joins
theorem ent_cell {W0 : World} {a : Addr} {v : Value} (h : W0.cell? a = some v) : Ent [frozen W0] fun w => w.cell? a = some v := fun W w hs => by
  have hf := (frozen_blocks hs).2
  rw [← h]
  have hlt : a.block < W0.heap.size := by
    rcases Nat.lt_or_ge a.block W0.heap.size with h1 | h1
    · exact h1
    · have hn : W0.heap[a.block]? = none := by simp [h1]
      simp [World.cell?, hn] at h
  simp only [World.cell?, hf a.block hlt]
theorem ent_maxLen {W0 : World} (h : W0.ShapedOpen Tryz.prog) : Ent [frozen W0] fun w => ∃ m, w.cell? ⟨Tryz.l146_ren.g 1, 0, none⟩ = some (.int .i64 m) := fun W w hs => by
  obtain ⟨m, hm⟩ := Tryz.l146.s1_3 W0 h
  exact ⟨m, ent_cell hm W w hs⟩
end Go.Proofs.YtbmnnbglipkidaaGreatDoor
namespace Go.Proofs.YtbmnnbglipkidaaGreatDoor
set_option linter.unusedVariables false
set_option linter.unusedSimpArgs false
open Go.ChangeShapes Go.WideShapes Go.ChangeAt Go.RowKit Go.Deep Go.Joins
theorem handed_laid {C : Checked} {os : Os} {f : FuncId} {fn : Func} {s : ChangeSpec} {apart : Bool} {X : World → Prop} (hXw : ∀ w w' : World, w.heap = w'.heap → X w → X w') {H : Type} {enc : TypeId × Value → H}
    (own : ownKnob C.prog.godebug = none) (started : os.Started) (noInit : C.prog.inits.idxOf? f = none) (hfn : C.prog.funcs[f]? = some fn)
    (witness : ∃ (w : World) (tape : Tape) (i : Input), w.os = os ∧ (w.forCall tape i).Shaped C.prog ∧ i.vars = [] ∧ Input.okWide C.prog (w.forCall tape i) .any w.heap.size f i ∧
      ((s.pre enc C.prog fn [] apart (w.forCall tape i).memory i.args ∧ X (w.forCall tape i).memory) ∧ sizedMet enc C.prog fn (OpenSpec.ofChange s) apart (w.forCall tape i).memory i.args) ∧ ({} : Assume).holds C.prog (lone (Frame.enter C.prog f i.args .normal) [] (w.forCall tape i)))
    (contract : ∀ (W : World) (base : Nat) (args : Array Value) (ds gs : List (DataW H)) (before : List MemPlace), (∀ (j : Nat) t v, fn.params[j]? = some t → args[j]? = some v → Value.okWide C.prog W .any base t v) →
      DataW.Whole enc C.prog fn.params.toList s.vars apart W args.toList ds gs before → W.ShapedOpen C.prog → X W → Calls C.prog f args W fun e W' => ∃ v, e = .returned v ∧ s.post enc C.prog fn apart true false false W args v W') :
    ReturnsInHanded {} C os f .any (fun w args => (s.pre enc C.prog fn [] apart w args ∧ X w) ∧ sizedMet enc C.prog fn (OpenSpec.ofChange s) apart w args) (s.post enc C.prog fn apart true false false) :=
  returnsInHanded_of_calls own started noInit witness fun w tape i _ hsh _ hok hpre _ => by
    obtain ⟨_, _, _, fn', hfn', _, _, _, _, hval⟩ := hok
    cases Option.some.inj (hfn'.symm.trans hfn)
    obtain ⟨⟨⟨ds, gs, before, hw, _⟩, hx⟩, _⟩ := hpre
    refine (contract _ _ i.args ds gs before hval (DataW.Whole.of_heap (w' := w.forCall tape i) (by rfl) hw) hsh (hXw _ _ (by rfl) hx)).mono ?_
    rintro _ W' ⟨v, rfl, hp⟩
    exact ChangeSpec.post_blind hp
theorem tab_of_laid {P : Program} {W : World} {name : String} {k : IntKind} {zs : List Int} {a b : String × DataW Unit} {rest : List (String × DataW Unit)} {g : Nat} {t e : TypeId} {n : Nat}
    (hg : P.globalNamed name = some g) (hty : (P.globals[g]?).map (·.type) = some t) (ht : P.underlying t = some (.array n e)) (he : P.underlying e = some (.int k)) (hce : P.cellsOf e = 1) (hct : P.cellsOf t = n)
    (h : laidMet P (a :: b :: (name, Lib.tabData k zs) :: rest) W) : Lib.TabIs P W name k zs := by
  obtain ⟨ps, h1, _⟩ := h
  obtain ⟨_, _, _, _, _, _, _, _, _, _, h2, _⟩ := h1
  obtain ⟨_, _, _, _, _, _, _, _, _, _, h3, _⟩ := h2
  obtain ⟨g', t', cs, fuel, p, q, hg', ht', hvar, hd, _, _⟩ := h3
  obtain rfl := Option.some.inj (hg.symm.trans hg')
  obtain rfl := Option.some.inj (hty.symm.trans ht')
  unfold Lib.TabIs
  rw [hvar, ← Lib.cells_of_tab ht he hce hct hd]
theorem ent_tab {P : Program} {W0 : World} {n : String} {g : Nat} {k : IntKind} {zs : List Int} (hg : P.globalNamed n = some g) (h : Lib.TabIs P W0 n k zs) : Ent [frozen W0] fun w => Lib.TabIs P w n k zs := fun W w hs => by
  have hf := (frozen_blocks hs).2
  unfold Lib.TabIs World.var? at h ⊢
  rw [hg] at h ⊢
  simp only [Option.bind_some] at h ⊢
  have hlt : g < W0.heap.size := by
    rcases Nat.lt_or_ge g W0.heap.size with h' | h'
    · exact h'
    · rw [Array.getElem?_eq_none h'] at h; cases h
  rw [hf g hlt]
  exact h
theorem gPow : Tryz.prog.globalNamed "internal/strconv.uint64pow10" = some 1 := by kernel_rfl
theorem gPowT : (Tryz.prog.globals[1]?).map (·.type) = some 222 := by kernel_rfl
theorem ent_pow {W0 : World} {rest : List (String × DataW Unit)} {a b : String × DataW Unit} (h : laidMet Tryz.prog (a :: b :: ("internal/strconv.uint64pow10", Lib.tabData .u64 Lib.pow10Tab) :: rest) W0) : Ent [frozen W0] Pow10 :=
  ent_tab gPow (tab_of_laid gPow gPowT Tryz.underlying222 Tryz.underlying191 (by kernel_rfl) (by kernel_rfl) h)
end Go.Proofs.YtbmnnbglipkidaaGreatDoor
namespace Go.Proofs.YtbmnnbglipkidaaGreatDoor
set_option linter.unusedVariables false
set_option linter.unusedSimpArgs false
open Go.ChangeShapes Go.WideShapes Go.ChangeAt Go.RowKit Go.Deep Go.Joins
section
variable {H : Type} {enc : TypeId × Value → H} {P : Program} {w : World}
theorem bytes_of_trod {t e : TypeId} (ht : P.underlying t = some (.slice e)) (he : P.underlying e = some (.int .u8)) (hc : P.cellsOf e = 1) {fuel : Nat} {v : Value} {x : DataW H × List MemPlace}
    (h : DataW.trod enc P w 0 (fun _ => true) true fuel t [v] = some x) : ∃ xs, Byts w v xs := by
  rcases open_ints ht he hc h with ⟨hcs, _⟩ | ⟨a, len, cap, zs, hcs, _, hl, hm, hz, _, hcell, hwz⟩
  · simp at hcs
    subst hcs
    exact ⟨[], Sl.nil w 1⟩
  · simp at hcs
    subst hcs
    simp only [if_true] at hz
    have hlen : (zs.take len).length = len := by simp; omega
    refine ⟨zs.take len, ⟨by simp, some a, cap, by rw [hlen], by omega, hm, (fun h => by cases h), fun hpos => ?_⟩⟩
    rw [hlen] at hpos
    obtain ⟨b, off, spot⟩ := a
    have hspot : spot = none := by simpa [Addr.add] using World.cell?_spot (hcell 0 (by omega))
    subst hspot
    refine ⟨b, off, rfl, by have := World.block_lt_of_cell? w _ (hcell 0 (by omega)); simpa [Addr.add] using this, fun k hk => ?_⟩
    rw [hlen, Nat.mul_one] at hk
    rw [← add_plain, hcell k (by omega)]
    simp [List.getD, hk, show k < zs.length by omega]
theorem bytesTop {t e base : Nat} (ht : P.underlying t = some (.slice e)) (he : P.underlying e = some (.int .u8)) (hc : P.cellsOf e = 1) {v : Value} {d : DataW H} {p : List MemPlace}
    (hv : Value.okWide P w .any base t v) (h : DataW.Trod enc P w 0 (fun _ => true) true t v d p) : ∃ xs, Byts w v xs := by
  obtain ⟨a0, l0, c0, rfl⟩ := okWide_slice ht hv
  obtain ⟨fuel, hf⟩ := h
  exact bytes_of_trod ht he hc hf
end
theorem isS_byts {w : World} {v : Value} {xs : List Int} (h : Byts w v xs) : IsS v := by
  obtain ⟨_, ao, cap, rfl, _⟩ := h
  exact ⟨_, _, _, rfl⟩
theorem len_byts {w : World} {v : Value} {xs : List Int} (h : Byts w v xs) : xs.length ≤ 9223372036854775807 := by
  have := Sl.size_le h
  simpa [maxLen] using this
theorem Tryz.cellsU8 : Tryz.prog.cellsOf 5 = 1 := by kernel_rfl
end Go.Proofs.YtbmnnbglipkidaaGreatDoor
