/-
  Climbing to a dominant weight: that it ends, and what it gives; the first number below zero; lists turned, lists with other signs. No program is spoken of.
-/
import Derived.Test.YtbmnnbglipkidaaGreatDoorCarV
import Derived.Test.YtbmnnbglipkidaaGreatDoorFct
import Derived.Test.YtbmnnbglipkidaaGreatDoorWWgtA
import Derived.Test.YtbmnnbglipkidaaGreatDoorZ18
import Derived.Test.YtbmnnbglipkidaaGreatDoorCarQ
import Derived.Test.YtbmnnbglipkidaaGreatDoorZ12
import Derived.Test.YtbmnnbglipkidaaGreatDoorZ13
import Derived.Shelf.Bits.Mul64
import Derived.Laws.CopyRow
import Derived.Test.YtbmnnbglipkidaaGreatDoorLate
namespace Go.Proofs.YtbmnnbglipkidaaGreatDoor
set_option linter.unusedVariables false
set_option linter.unusedSimpArgs false
def Bd (n : Int) (d w : List Int) : Prop := w.length = n.toNat ∧ ∀ c ∈ phi n d, -20 ≤ dotL n.toNat c w ∧ dotL n.toNat c w ≤ 20
theorem dot_unit {m i : Nat} {w : List Int} (hi : i < m) : dotL m (unitL m i) w = w.getD i 0 := by
  have h := dotN_unit (w.getD · 0) i m
  rw [if_pos hi] at h
  rw [← h]
  exact dotN_congr fun k hk => ⟨by simp [unitL, List.getD, hk], rfl⟩
theorem Bd.ent {n : Int} {d w : List Int} (hp : PhOk n d) (h : Bd n d w) {k : Nat} (hk : k < w.length) : -20 ≤ w.getD k 0 ∧ w.getD k 0 ≤ 20 := by
  have hk' : k < n.toNat := by rw [← h.1]; exact hk
  have := h.2 _ (hp.unit k hk')
  rwa [dot_unit hk'] at this
theorem dot_refl {n : Int} {d c w w' : List Int} {i : Int} (hc : c.length = n.toNat) (hi : i.toNat < n.toNat) (hi0 : 0 ≤ i) (hg : ∀ k, k < n.toNat → w'.getD k 0 = w.getD k 0 - w.getD i.toNat 0 * atI n d k i) : dotL n.toNat c w' = dotL n.toNat (phStep n d c i.toNat) w := by
  have e1 : dotL n.toNat c w' = dotN (c.getD · 0) (fun k => w.getD k 0 - w.getD i.toNat 0 * atI n d k i) n.toNat := dotN_congr fun k hk => ⟨rfl, hg k hk⟩
  have e2 : dotL n.toNat (phStep n d c i.toNat) w = dotN (fun k => if k = i.toNat then c.getD k 0 - dotN (c.getD · 0) (fun k => atI n d k i) n.toNat else c.getD k 0) (w.getD · 0) n.toNat := dotN_congr fun k hk => ⟨by
    have ei : ((i.toNat : Nat) : Int) = i := by omega
    unfold phStep
    rw [ei]
    by_cases h : k = i.toNat
    · subst h
      rw [if_pos rfl]
      simp [List.getD, hc, hk]
    · rw [if_neg h, set_getD_ne (by omega)], rfl⟩
  rw [e1, e2, dotN_sub, dotN_upd, if_pos hi, Int.mul_comm]
theorem Bd.refl {n : Int} {d w : List Int} (hp : PhOk n d) (h : Bd n d w) {i : Int} (hi : 0 ≤ i ∧ i.toNat < w.length) : Bd n d (rfF n d i w) := by
  refine ⟨by rw [rfF_len]; exact h.1, fun c hc => ?_⟩
  have hi' : i.toNat < n.toNat := by rw [← h.1]; exact hi.2
  have hex : ∀ k, k < n.toNat → (rfF n d i w).getD k 0 = w.getD k 0 - w.getD i.toNat 0 * atI n d k i := fun k hk => rfF_exact hp.ent hi.2 (fun k hk => by have := h.ent hp hk; omega) (by rw [h.1]; exact hk)
  rcases hp.closed c hc _ hi' with hu | hu
  · subst hu
    have hdg := hp.diag i.toNat hi'
    rw [show ((i.toNat : Nat) : Int) = i by omega] at hdg
    have he := h.ent hp hi.2
    have hx := hex _ hi'
    rw [show ((i.toNat : Nat) : Int) = i by omega, hdg] at hx
    rw [dot_unit hi', hx]
    omega
  · rw [dot_refl (w := w) (hp.len c hc) hi' hi.1 hex]
    exact h.2 _ hu
theorem Bd.up {n : Int} {d : List Int} (hp : PhOk n d) : Bd n d (ones n 1) := ⟨by simp [ones], hp.up⟩
theorem dotN_neg (c w : Nat → Int) : ∀ m : Nat, dotN c (fun k => -(w k)) m = -(dotN c w m)
  | 0 => rfl
  | m + 1 => by
    rw [dotN, dotN, dotN_neg c w m, Int.mul_neg]
    omega
theorem Bd.dn {n : Int} {d : List Int} (hp : PhOk n d) : Bd n d (ones n (-1)) := ⟨by simp [ones], fun c hc => by
  have e : dotL n.toNat c (ones n (-1)) = -(dotL n.toNat c (ones n 1)) := by
    have h := dotN_neg (c.getD · 0) ((ones n 1).getD · 0) n.toNat
    exact (dotN_congr fun k hk => ⟨rfl, by simp [ones, List.getD, hk]⟩).trans h
  have := hp.up c hc
  rw [e]
  omega⟩
theorem wtOk_ent {n : Int} {w : List Int} (h : wtOk n w = true) : ∀ k, k < w.length → -1000 ≤ w.getD k 0 ∧ w.getD k 0 ≤ 1000 := by
  intro k hk
  simp only [wtOk, Bool.and_eq_true, Bool.not_eq_true'] at h
  have h1 := List.any_eq_false.1 h.2 (w.getD k 0) (by
    have e : w.getD k 0 = w[k] := by simp [List.getD, hk]
    rw [e]
    exact List.getElem_mem hk)
  have h2 : inB (w.getD k 0) (-1000) 1000 = true := by simpa using h1
  exact inB_true h2
def lpF (x : List Int) (k : Int) (y : List Int) : List Int := (List.range y.length).foldl (fun (o : List Int) (i : Nat) => o.set i (IntKind.i64.wrap (o.getD i 0 + IntKind.i64.wrap (k * y.getD i 0)))) x
def mnF (y : List Int) : List Int := y.map fun x => 0 - x
theorem lp_minus {y : List Int} (h : ∀ k, k < y.length → -1000 ≤ y.getD k 0 ∧ y.getD k 0 ≤ 1000) : lpF (List.replicate y.length 0) (-1) y = mnF y := by
  have hl : (lpF (List.replicate y.length 0) (-1) y).length = y.length := by
    unfold lpF
    rw [len_fold (fun o i => by simp), List.length_replicate]
  refine ext_getD (by rw [hl, mnF, List.length_map]) fun k hk => ?_
  rw [hl] at hk
  have hg := fset_get (g := fun i (x : Int) => IntKind.i64.wrap (x + IntKind.i64.wrap (-1 * y.getD i 0))) (o := List.replicate y.length 0) (m := y.length) (k := k) (by simp) (by simpa using hk)
  rw [if_pos hk] at hg
  have h0 : (List.replicate y.length (0 : Int)).getD k 0 = 0 := by simp [List.getD, hk]
  have hb := h k hk
  rw [h0, wrap_in (x := -1 * y.getD k 0) (by omega) (by omega), wrap_in (by omega) (by omega)] at hg
  refine hg.trans ?_
  simp [mnF, List.getD, hk]
theorem mn_fold {x : List Int} : (List.range x.length).foldl (fun (o : List Int) (i : Nat) => o.set i (0 - x.getD i 0)) (List.replicate x.length 0) = mnF x := by
  have hl : ((List.range x.length).foldl (fun (o : List Int) (i : Nat) => o.set i (0 - x.getD i 0)) (List.replicate x.length 0)).length = x.length := by rw [len_fold (fun o i => by simp), List.length_replicate]
  refine ext_getD (by rw [hl, mnF, List.length_map]) fun k hk => ?_
  rw [hl] at hk
  have hg := fset_get (g := fun i (_ : Int) => 0 - x.getD i 0) (o := List.replicate x.length 0) (m := x.length) (k := k) (by simp) (by simpa using hk)
  rw [if_pos hk] at hg
  refine hg.trans ?_
  simp [mnF, List.getD, hk]
theorem mnF_len (x : List Int) : (mnF x).length = x.length := by simp [mnF]
theorem lpF_len (x : List Int) (k : Int) (y : List Int) : (lpF x k y).length = x.length := len_fold (fun o i => by simp) _ _
def cmpI (a b : Int) : Int := if a < b then -1 else if b < a then 1 else 0
def cmpL : List Int → List Int → Int
  | [], ys => if 0 < ys.length then -1 else 0
  | _ :: _, [] => 1
  | x :: xs, y :: ys => if cmpI x y ≠ 0 then cmpI x y else cmpL xs ys
def abvL : List Int → List Int → Bool
  | [], _ => false
  | _ :: _, [] => true
  | x :: xs, y :: ys => if x ≠ y then decide (y < x) else abvL xs ys
theorem abv_ne {x y : List Int} {k : Nat} (h1 : k < x.length) (h2 : k < y.length) (h : x.getD k 0 ≠ y.getD k 0) : abvL (x.drop k) (y.drop k) = decide (y.getD k 0 < x.getD k 0) := by
  rw [drop_getD h1, drop_getD h2, abvL, if_pos h]
theorem abv_eq {x y : List Int} {k : Nat} (h1 : k < x.length) (h2 : k < y.length) (h : x.getD k 0 = y.getD k 0) : abvL (x.drop k) (y.drop k) = abvL (x.drop (k + 1)) (y.drop (k + 1)) := by
  rw [drop_getD h1, drop_getD h2, abvL, if_neg (by simpa using h)]
theorem abv_end {x y : List Int} {k : Nat} (h : x.length ≤ k ∨ y.length ≤ k) (h1 : k ≤ x.length) (h2 : k ≤ y.length) : abvL (x.drop k) (y.drop k) = decide ((y.length : Int) < x.length) := by
  by_cases hx : x.length ≤ k
  · rw [List.drop_eq_nil_of_le hx, abvL, decide_eq_false (by omega)]
  · rw [drop_getD (by omega : k < x.length), List.drop_eq_nil_of_le (by omega : y.length ≤ k), abvL, decide_eq_true (by omega)]
theorem cmp_ne {x y : List Int} {k : Nat} (h1 : k < x.length) (h2 : k < y.length) (h : cmpI (x.getD k 0) (y.getD k 0) ≠ 0) : cmpL (x.drop k) (y.drop k) = cmpI (x.getD k 0) (y.getD k 0) := by
  rw [drop_getD h1, drop_getD h2, cmpL, if_pos h]
theorem cmp_eq {x y : List Int} {k : Nat} (h1 : k < x.length) (h2 : k < y.length) (h : cmpI (x.getD k 0) (y.getD k 0) = 0) : cmpL (x.drop k) (y.drop k) = cmpL (x.drop (k + 1)) (y.drop (k + 1)) := by
  rw [drop_getD h1, drop_getD h2, cmpL, if_neg (by simpa using h)]
theorem cmp_long {x y : List Int} {k : Nat} (h1 : k < x.length) (h2 : y.length ≤ k) : cmpL (x.drop k) (y.drop k) = 1 := by
  rw [drop_getD h1, List.drop_eq_nil_of_le h2, cmpL]
theorem cmp_end {x y : List Int} {k : Nat} (h1 : x.length ≤ k) (h2 : k ≤ x.length) (h3 : k ≤ y.length ∨ True) : cmpL (x.drop k) (y.drop k) = if (x.length : Int) < y.length then -1 else 0 := by
  rw [List.drop_eq_nil_of_le h1, cmpL, List.length_drop]
  by_cases h : (x.length : Int) < y.length
  · rw [if_pos (by omega), if_pos h]
  · rw [if_neg (by omega), if_neg h]
end Go.Proofs.YtbmnnbglipkidaaGreatDoor

namespace Go.Proofs.YtbmnnbglipkidaaGreatDoor
set_option linter.unusedVariables false
set_option linter.unusedSimpArgs false
open Go.RowKit
set_option maxRecDepth 100000 in
theorem formatInt_w {W : World} {own : List Asn} {n : Int}   (hn : I64 n) (htab : Ent own Pow10) : Spec Tryz.prog 152 [.int .i64 (n)] W own (fun v ow => v = .string (itoaB n) ∧ ow = own) := by
 refine Spec.enter Tryz.f152 _ Tryz.func152 rfl (n := 5) rfl rfl ?_
 refine Zs (Zr ?_)
 refine Za rfl rfl rfl rfl rfl ?_
 refine Zn (Zt (Zs (Zr ?_)))
 refine Zm rfl rfl rfl rfl rfl ?_
 refine G.step (OG.call [.int .i64 (n)] ent179 rfl rfl rfl rfl (by exact (itoa_w (hn) (htab)))) rfl rfl rfl ?_
 rintro _ _ ⟨rfl, hzz⟩; obtain rfl := hzz.symm
 refine Za rfl rfl rfl rfl rfl ?_
 refine Zn (Zt (GC.ret ?_))
 exact GE.body [] 0 (res1 rfl rfl) rfl (⟨rfl, rfl⟩)
set_option maxRecDepth 100000 in
theorem formatInts_w {W : World} {own : List Asn} {vx : Value} {x : List Int}  (sx : IsS vx) (ex : Ent own fun w => Ints w vx x)  (hr : All64 x) (hl : x.length ≤ 1000) (htab : Ent own Pow10) : Spec Tryz.prog 98 [vx] W own (fun v ow => v = .string (fmtB x) ∧ ow = own) := by
 refine Spec.enter Tryz.f98 _ Tryz.func98 rfl (n := 21) rfl rfl ?_
 refine Zs (Zr ?_)
 refine Za rfl rfl rfl rfl rfl ?_
 refine Zn (Zt (Zs (Zr ?_)))
 refine G.step (OG.buildStrs (os := []) (xs := []) rfl et113 rfl rfl rfl rfl rfl) rfl rfl rfl ?_
 rintro v1 _ ⟨hs2, rfl⟩
 refine Za rfl rfl rfl rfl rfl ?_
 refine Zn (Zt (Zs (Zs (Zr ?_))))
 refine Zm rfl rfl rfl rfl rfl ?_
 refine G.stepD (OD.len rfl rfl et22 rfl (Ent.drop 1 ex)) rfl rfl rfl ?_
 refine Zm rfl rfl rfl rfl rfl ?_
 refine Zn (Zt (GC.block ?_))
 refine GC.loop (ι := Nat × List ByteArray × Value) (fun ⟨k, ws, v⟩ => [(7, vx), (8, .int .i64 ((x.length : Nat))), (3, v), (9, .int .i64 ((k : Int)))]) (fun ⟨k, ws, v⟩ => strs 9 v ws :: own) (fun ⟨k, ws, v⟩ => (k ≤ x.length) ∧ (IsS v) ∧ (ws = (x.take k).map itoaB)) (fun ⟨k, ws, v⟩ => x.length - k) (0, [], v1) (⟨by omega, hs2, rfl⟩) ⟨rfl,rfl,rfl,rfl,trivial⟩ [] 0 rfl ?_
 rintro ⟨k, ws, v⟩ ⟨hk, hv, hw⟩
 have hwl : ws.length = k := by rw [hw]; simp; omega
 refine Zs (Zr ?_)
 refine G.stepD (OD.lss rfl rfl rfl) rfl rfl rfl ?_
 refine Zn (Zt (Zs ?_))
 refine GC.cond rfl (fun hc3 => ?_) (fun hc3 => ?_)
 replace hc3 := of_decide_eq_true hc3
 refine Zk (Zt (Zs (GC.block (Zs (Zr ?_)))))
 refine G.stepD (OD.indexAddr rfl et22 rfl (Ent.drop 1 ex) rfl (by omega)) rfl rfl rfl ?_
 refine G.stepD (OD.loadInt rfl ti3 rfl (Ent.drop 1 ex) (by omega)) rfl rfl rfl ?_
 refine Za rfl rfl rfl rfl rfl ?_
 refine Zn (Zt (Zr ?_))
 refine Zm rfl rfl rfl rfl rfl ?_
 refine Zm rfl rfl rfl rfl rfl ?_
 refine G.step (OG.call [.int .i64 (x.getD (k) 0)] ent152 rfl rfl rfl rfl (by exact (formatInt_w (hr.get (by omega)) ((Ent.drop 1 htab))))) rfl rfl rfl ?_
 rintro _ _ ⟨rfl, rfl⟩
 refine G.step (OG.buildStrs (os := [.tmp 15]) (xs := [itoaB (x.getD (k) 0)]) rfl et113 rfl rfl rfl rfl rfl) rfl rfl rfl ?_
 rintro v4 _ ⟨hs5, rfl⟩
 refine G.step (OG.appendStrs 1 rfl rfl et113 rfl rfl rfl (Ent.strs (i := 0) rfl) (by simp [maxLen] <;> omega)) rfl rfl rfl ?_
 rintro v6 _ ⟨hs7, rfl⟩
 refine Za rfl rfl rfl rfl rfl ?_
 refine Zn (GE.blockN (Zt (Zr ?_)))
 refine G.stepD (OD.addI rfl rfl rfl (by omega)) rfl rfl rfl ?_
 refine Zm rfl rfl rfl rfl rfl ?_
 refine Zn ?_
 exact GE.again (k + 1, ws ++ [itoaB (x.getD (k) 0)], v6) (⟨by omega, hs7, by rw [hw]; exact itoa_step (by omega)⟩) (by first | omega | (dsimp only; omega)) ⟨rfl,rfl,rfl,rfl,trivial⟩ [1] 1 rfl
 replace hc3 := of_decide_eq_false hc3
 have hwx : ws = x.map itoaB := by rw [hw, List.take_of_length_le (by omega)]
 refine GC.exit (Zp (Zp (GE.hit (Zt (Zs (Zr ?_))))))
 refine Zm rfl rfl rfl rfl rfl ?_
 refine G.ownEq (own' := strs 9 v (x.map itoaB) :: own) (by rw [hwx]) ?_
 skip
 refine G.step (OG.call [v, .string (⟨#[32]⟩)] ent153 rfl rfl rfl rfl (by exact (joinS_w hv (Ent.strs (i := 0) rfl) (hr) (by omega)))) rfl rfl rfl ?_
 rintro _ _ ⟨rfl, rfl⟩
 refine Za rfl rfl rfl rfl rfl ?_
 refine Zn (Zt (GC.ret ?_))
 exact GE.body [] 1 (res1 rfl rfl) rfl (⟨rfl, rfl⟩)
end Go.Proofs.YtbmnnbglipkidaaGreatDoor
namespace Go.Proofs.YtbmnnbglipkidaaGreatDoor
set_option linter.unusedVariables false
set_option linter.unusedSimpArgs false
open Go.RowKit
set_option maxRecDepth 100000 in
theorem l5Minus_w {W : World} {own : List Asn} {vx : Value} {x : List Int}  (sx : IsS vx) (ex : Ent own fun w => Ints w vx x)  (hb : ∀ k, k < x.length → -1000 ≤ x.getD k 0 ∧ x.getD k 0 ≤ 1000) (hl : x.length ≤ 1073741824) : Spec Tryz.prog 80 [vx] W own (fun v ow => ∃ (r0 : Value), v = r0 ∧ IsS r0 ∧ ow = ints 3 r0 (mnF x) :: own) := by
 refine Spec.enter Tryz.f80 _ Tryz.func80 rfl (n := 23) rfl rfl ?_
 refine Zs (Zr ?_)
 refine Za rfl rfl rfl rfl rfl ?_
 refine Zn (Zt (Zs (Zr ?_)))
 refine Zm rfl rfl rfl rfl rfl ?_
 refine G.stepD (OD.len rfl rfl et22 rfl ex) rfl rfl rfl ?_
 refine G.step (OG.makeInts rfl et22 rfl rfl (by omega)) rfl rfl rfl ?_
 rintro v1 _ ⟨hs2, rfl⟩
 refine Za rfl rfl rfl rfl rfl ?_
 refine Zn (Zt (Zs (Zs (Zr ?_))))
 refine Za rfl rfl rfl rfl rfl ?_
 refine Zn (Zt (GC.block ?_))
 refine GC.loop (ι := Nat × List Int) (fun ⟨k, ys⟩ => [(0, vx), (3, v1), (4, .int .i64 ((k : Int)))]) (fun ⟨k, ys⟩ => ints 3 v1 ys :: own) (fun ⟨k, ys⟩ => (k ≤ x.length) ∧ (ys.length = x.length) ∧ (ys = (List.range k).foldl (fun (o : List Int) (i : Nat) => o.set i (0 - x.getD i 0)) (List.replicate x.length 0))) (fun ⟨k, ys⟩ => x.length - k) (0, (List.replicate x.length 0)) (⟨by omega, by simp, rfl⟩) ⟨rfl,rfl,rfl,trivial⟩ [] 0 rfl ?_
 rintro ⟨k, ys⟩ ⟨hk, hyl, hy⟩
 refine Zs (Zs (Zr ?_))
 refine Zm rfl rfl rfl rfl rfl ?_
 refine Zm rfl rfl rfl rfl rfl ?_
 refine G.stepD (OD.len rfl rfl et22 rfl (Ent.drop 1 ex)) rfl rfl rfl ?_
 refine G.stepD (OD.lss rfl rfl rfl) rfl rfl rfl ?_
 refine Zn (Zt ?_)
 refine GC.cond rfl (fun hc3 => ?_) (fun hc3 => ?_)
 replace hc3 := of_decide_eq_true hc3
 have hbk := hb k (by omega)
 have hbk0 := hb (k : Int).toNat (by omega)
 refine Zk (Zt (Zs (GC.block (Zr ?_))))
 refine Zm rfl rfl rfl rfl rfl ?_
 refine Zm rfl rfl rfl rfl rfl ?_
 refine Zm rfl rfl rfl rfl rfl ?_
 refine Zm rfl rfl rfl rfl rfl ?_
 refine G.stepD (OD.indexAddr rfl et22 rfl (Ent.drop 1 ex) rfl (by omega)) rfl rfl rfl ?_
 refine G.stepD (OD.loadInt rfl ti3 rfl (Ent.drop 1 ex) (by omega)) rfl rfl rfl ?_
 refine G.stepD (OD.subI rfl rfl rfl (by omega)) rfl rfl rfl ?_
 refine G.stepD (OD.indexAddr rfl et22 rfl (Ent.ints (i := 0) rfl) rfl (by omega)) rfl rfl rfl ?_
 refine G.stepD0 (OD.storeInt rfl ti3 rfl rfl (i := 0) rfl (by omega)) rfl rfl ?_
 refine Zn (GE.blockN (Zt (Zr ?_)))
 refine Zm rfl rfl rfl rfl rfl ?_
 refine G.stepD (OD.addI rfl rfl rfl (by first | omega | (simp only [List.length_set, List.length_replicate]; omega))) rfl rfl rfl ?_
 refine Za rfl rfl rfl rfl rfl ?_
 refine Zn ?_
 exact GE.again (k + 1, (ys).set (k) (0 - (x.getD (k) 0))) (⟨by omega, by rw [List.length_set]; exact hyl, fold_next hy rfl⟩) (by first | omega | (dsimp only; omega)) ⟨rfl,rfl,rfl,trivial⟩ [] 0 rfl
 replace hc3 := of_decide_eq_false hc3
 refine GC.exit (Zp (Zp (GE.hit (Zt (Zs (Zr ?_))))))
 refine Zm rfl rfl rfl rfl rfl ?_
 refine Za rfl rfl rfl rfl rfl ?_
 refine Zn (Zt (GC.ret ?_))
 exact GE.body [] 0 (res1 rfl rfl) rfl (⟨v1, rfl, hs2, congrArg (fun (l0 : List Int) => ints 3 v1 l0 :: own) ((by rw [hy, show k = x.length by omega]; exact mn_fold : ys = mnF x))⟩)
set_option maxRecDepth 100000 in
theorem listPlus_w {W : World} {own : List Asn} {vx : Value} {x : List Int} {k : Int} {vy : Value} {y : List Int}  (sx : IsS vx) (ex : Ent own fun w => Ints w vx x)   (sy : IsS vy) (ey : Ent own fun w => Ints w vy y)  (hl : x.length ≤ 1073741824) (hle : y.length ≤ x.length) : Spec Tryz.prog 68 [vx, .int .i64 (k), vy] W own (fun v ow => ∃ (r0 : Value), v = r0 ∧ IsS r0 ∧ ow = ints 3 r0 (lpF x k y) :: own) := by
 refine Spec.enter Tryz.f68 _ Tryz.func68 rfl (n := 30) rfl rfl ?_
 refine Zs (Zr ?_)
 refine Za rfl rfl rfl rfl rfl ?_
 refine Zn (Zt (Zs (Zr ?_)))
 refine Zm rfl rfl rfl rfl rfl ?_
 refine G.step (OG.call [vx] ent130 rfl rfl rfl rfl (by exact (clone_w sx ex (hl)))) rfl rfl rfl ?_
 rintro v1 _ ⟨_, rfl, hs2, rfl⟩
 refine Za rfl rfl rfl rfl rfl ?_
 refine Zn (Zt (Zs (Zs (Zr ?_))))
 refine Zm rfl rfl rfl rfl rfl ?_
 refine G.stepD (OD.len rfl rfl et22 rfl (Ent.drop 1 ey)) rfl rfl rfl ?_
 refine Zm rfl rfl rfl rfl rfl ?_
 refine Zn (Zt (GC.block ?_))
 refine GC.loop (ι := Nat × List Int) (fun ⟨i, ys⟩ => [(1, .int .i64 (k)), (7, v1), (12, vy), (13, .int .i64 ((y.length : Nat))), (14, .int .i64 ((i : Int)))]) (fun ⟨i, ys⟩ => ints 3 v1 ys :: own) (fun ⟨i, ys⟩ => (i ≤ y.length) ∧ (ys.length = x.length) ∧ (ys = (List.range i).foldl (fun (o : List Int) (i : Nat) => o.set i (IntKind.i64.wrap (o.getD i 0 + IntKind.i64.wrap (k * y.getD i 0)))) x)) (fun ⟨i, ys⟩ => y.length - i) (0, x) (⟨by omega, rfl, rfl⟩) ⟨rfl,rfl,rfl,rfl,rfl,trivial⟩ [] 0 rfl ?_
 rintro ⟨i, ys⟩ ⟨hi, hyl, hy⟩
 refine Zs (Zr ?_)
 refine G.stepD (OD.lss rfl rfl rfl) rfl rfl rfl ?_
 refine Zn (Zt (Zs ?_))
 refine GC.cond rfl (fun hc3 => ?_) (fun hc3 => ?_)
 replace hc3 := of_decide_eq_true hc3
 refine Zk (Zt (Zs (GC.block (Zs (Zr ?_)))))
 refine Zm rfl rfl rfl rfl rfl ?_
 refine G.stepD (OD.indexAddr rfl et22 rfl (Ent.drop 1 ey) rfl (by omega)) rfl rfl rfl ?_
 refine G.stepD (OD.loadInt rfl ti3 rfl (Ent.drop 1 ey) (by omega)) rfl rfl rfl ?_
 refine Za rfl rfl rfl rfl rfl ?_
 refine Za rfl rfl rfl rfl rfl ?_
 refine Zn (Zt (Zr ?_))
 refine Zm rfl rfl rfl rfl rfl ?_
 refine Zm rfl rfl rfl rfl rfl ?_
 refine G.stepD (OD.indexAddr rfl et22 rfl (Ent.ints (i := 0) rfl) rfl (by omega)) rfl rfl rfl ?_
 refine G.stepD (OD.loadInt rfl ti3 rfl (Ent.ints (i := 0) rfl) (by omega)) rfl rfl rfl ?_
 refine Zm rfl rfl rfl rfl rfl ?_
 refine Zm rfl rfl rfl rfl rfl ?_
 refine G.stepD (OD.mul rfl rfl rfl) rfl rfl rfl ?_
 refine G.stepD (OD.add rfl rfl rfl) rfl rfl rfl ?_
 refine G.stepD (OD.indexAddr rfl et22 rfl (Ent.ints (i := 0) rfl) rfl (by omega)) rfl rfl rfl ?_
 refine G.stepD0 (OD.storeInt rfl ti3 rfl rfl (i := 0) rfl (by omega)) rfl rfl ?_
 refine Zn (GE.blockN (Zt (Zr ?_)))
 refine G.stepD (OD.addI rfl rfl rfl (by first | omega | (simp only [List.length_set, List.length_replicate]; omega))) rfl rfl rfl ?_
 refine Zm rfl rfl rfl rfl rfl ?_
 refine Zn ?_
 exact GE.again (i + 1, (ys).set (i) (IntKind.i64.wrap ((ys.getD (i) 0) + (IntKind.i64.wrap (k * (y.getD (i) 0)))))) (⟨by omega, by rw [List.length_set]; exact hyl, fold_next hy rfl⟩) (by first | omega | (dsimp only; omega)) ⟨rfl,rfl,rfl,rfl,rfl,trivial⟩ [] 0 rfl
 replace hc3 := of_decide_eq_false hc3
 refine GC.exit (Zp (Zp (GE.hit (Zt (Zs (Zr ?_))))))
 refine Zm rfl rfl rfl rfl rfl ?_
 refine Za rfl rfl rfl rfl rfl ?_
 refine Zn (Zt (GC.ret ?_))
 exact GE.body [] 0 (res1 rfl rfl) rfl (⟨v1, rfl, hs2, congrArg (fun (l0 : List Int) => ints 3 v1 l0 :: own) ((by rw [hy, show i = y.length by omega]; rfl : ys = lpF x k y))⟩)
set_option maxRecDepth 100000 in
theorem listTimes_w {W : World} {own : List Asn} {k : Int} {vy : Value} {y : List Int}  (sy : IsS vy) (ey : Ent own fun w => Ints w vy y)  (hl : y.length ≤ 1073741824) : Spec Tryz.prog 54 [.int .i64 (k), vy] W own (fun v ow => ∃ (r0 : Value), v = r0 ∧ IsS r0 ∧ ow = ints 3 r0 (lpF (List.replicate y.length 0) k y) :: own) := by
 refine Spec.enter Tryz.f54 _ Tryz.func54 rfl (n := 11) rfl rfl ?_
 refine Zs (Zr ?_)
 refine Za rfl rfl rfl rfl rfl ?_
 refine Zn (Zt (Zs (Zr ?_)))
 refine Zm rfl rfl rfl rfl rfl ?_
 refine G.stepD (OD.len rfl rfl et22 rfl ey) rfl rfl rfl ?_
 refine G.step (OG.makeInts rfl et22 rfl rfl (by omega)) rfl rfl rfl ?_
 rintro v1 _ ⟨hs2, rfl⟩
 refine Zm rfl rfl rfl rfl rfl ?_
 refine Zm rfl rfl rfl rfl rfl ?_
 refine G.step (OG.call [v1, .int .i64 (k), vy] ent68 rfl rfl rfl rfl (by exact (listPlus_w hs2 (Ent.ints (i := 0) rfl) sy (Ent.drop 1 ey) (by rw [List.length_replicate]; omega) (by rw [List.length_replicate]; omega)))) rfl rfl rfl ?_
 rintro v3 _ ⟨_, rfl, hs4, rfl⟩
 refine Za rfl rfl rfl rfl rfl ?_
 refine Zn (Zt (GC.ret ?_))
 exact GE.body [0] 1 (res1 rfl rfl) rfl (⟨v3, rfl, hs4, rfl⟩)
end Go.Proofs.YtbmnnbglipkidaaGreatDoor
