/-
  Words at work on roots: roots they stay; those that fall below zero. A check by the kernel for all Cartan matrices. No program is spoken of.
-/
import Derived.Test.YtgelkakjmbiibaaGreatDoorNewA
import Derived.Test.YtgelkakjmbiibaaGreatDoorFct
import Derived.Test.YtgelkakjmbiibaaGreatDoorWNewA
import Derived.Test.YtgelkakjmbiibaaGreatDoorWAct
namespace Go.Proofs.YtgelkakjmbiibaaGreatDoor
set_option linter.unusedVariables false
set_option linter.unusedSimpArgs false
open Go.RowKit
def chkT (n : Int) (d : List Int) : Bool :=
  (rSt n d).all fun x => decide (1 ≤ sumW x) && (List.range n.toNat).all fun i => (rSt n d).contains (rStep n d x i) || (x == unitL n.toNat i && rStep n d x i == mnF x)
def chkTs (n a b : Nat) : Bool := (((candL n).drop a).take b).all fun d => chkT n d
set_option maxRecDepth 100000 in
theorem chkTs_1 : chkTs 1 0 1000 = true := by decide +kernel
set_option maxRecDepth 100000 in
theorem chkTs_2 : chkTs 2 0 1000 = true := by decide +kernel
set_option maxRecDepth 100000 in
theorem chkTs_3 : chkTs 3 0 1000 = true := by decide +kernel
set_option maxRecDepth 100000 in
theorem chkTs_4a : chkTs 4 0 80 = true := by decide +kernel
set_option maxRecDepth 100000 in
theorem chkTs_4b : chkTs 4 80 80 = true := by decide +kernel
set_option maxRecDepth 100000 in
theorem chkTs_4c : chkTs 4 160 1000 = true := by decide +kernel
theorem chkTs_all {m : Nat} {d : List Int} (h1 : 1 ≤ m) (h4 : m ≤ 4) (hd : d ∈ candL m) : chkT m d = true := by
  have one : ∀ n, chkTs n 0 1000 = true → (candL n).length ≤ 1000 → d ∈ candL n → chkT n d = true := fun n h hl hd => by
    simp only [chkTs, List.all_eq_true] at h
    exact h d (by rw [List.drop_zero, List.take_of_length_le hl]; exact hd)
  have len : ∀ n, 1 ≤ n → n ≤ 4 → (candL n).length ≤ 1000 := fun n a b => four (P := fun n => (candL n).length ≤ 1000) (by decide +kernel) (by decide +kernel) (by decide +kernel) (by decide +kernel) a b
  rcases (by omega : m = 1 ∨ m = 2 ∨ m = 3 ∨ m = 4) with rfl | rfl | rfl | rfl
  · exact one 1 chkTs_1 (len 1 (by omega) (by omega)) hd
  · exact one 2 chkTs_2 (len 2 (by omega) (by omega)) hd
  · exact one 3 chkTs_3 (len 3 (by omega) (by omega)) hd
  · have ha := chkTs_4a
    have hb := chkTs_4b
    have hc := chkTs_4c
    simp only [chkTs, List.all_eq_true] at ha hb hc
    rcases mem_parts 80 hd with h | h
    · exact ha d h
    · rcases mem_parts 80 h with h2 | h2
      · exact hb d (by simpa using h2)
      · rw [List.drop_drop] at h2
        exact hc d (by
          have hl := len 4 (by omega) (by omega)
          rw [List.take_of_length_le (by rw [List.length_drop]; omega)]
          simpa using h2)
structure ClOk (n : Int) (d : List Int) : Prop where
  ht : ∀ x ∈ rSt n d, 1 ≤ sumW x
  cl : ∀ x ∈ rSt n d, ∀ i, i < n.toNat → (rSt n d).contains (rStep n d x i) = true ∨ (x = unitL n.toNat i ∧ rStep n d x i = mnF x)
theorem clOk {n : Int} {d : List Int} (h : (tyS n d).isSome = true) : ClOk n d := by
  obtain ⟨ks, hk⟩ := Option.isSome_iff_exists.1 h
  obtain ⟨m, rfl, h1, h4, hd⟩ := tyS_cand hk
  have h0 := chkTs_all h1 h4 hd
  simp only [chkT, List.all_eq_true, Bool.and_eq_true, Bool.or_eq_true, decide_eq_true_eq, beq_iff_eq, List.mem_range] at h0
  exact ⟨fun x hx => (h0 x hx).1, fun x hx i hi => (h0 x hx).2 i hi⟩
theorem RtOk.entX {n : Int} {d : List Int} (h : RtOk n d) {x : List Int} (hx : rtB (rSt n d) x = true) : (x.length : Int) = n ∧ ∀ j, -10 ≤ x.getD j 0 ∧ x.getD j 0 ≤ 10 := by
  have hlo := h.lo
  rw [rtB, Bool.or_eq_true] at hx
  rcases hx with hx | hx
  · obtain ⟨h1, h2⟩ := h.smem (List.contains_iff_mem.1 hx)
    exact ⟨by omega, fun j => by have := h2 j; omega⟩
  · obtain ⟨h1, h2⟩ := h.smem (List.contains_iff_mem.1 hx)
    rw [mnF_len] at h1
    exact ⟨by omega, fun j => by have := h2 j; rw [mnF_get] at this; omega⟩
theorem rStep_minus {n : Int} {d x : List Int} {i : Nat} (hi : i < x.length) : rStep n d (mnF x) i = mnF (rStep n d x i) := by
  refine ext_getD (by rw [rStep_len, mnF_len, mnF_len, rStep_len]) fun k hk => ?_
  rw [rStep_len, mnF_len] at hk
  rw [mnF_get]
  by_cases e : k = i
  · subst e
    rw [rStep, rStep, set_getD_eq (by rw [mnF_len]; exact hk), set_getD_eq hk, mnF_get]
    have h1 : dotN (fun j => atI n d k j) (fun j => (mnF x).getD j 0) n.toNat = -(dotN (fun j => atI n d k j) (x.getD · 0) n.toNat) := by
      simp only [mnF_get]
      exact dotN_neg _ _ _
    have h2 : dotN (fun j => atI n d k j) ((mnF x).getD · 0) n.toNat = dotN (fun j => atI n d k j) (fun j => (mnF x).getD j 0) n.toNat := rfl
    rw [h2, h1]
    omega
  · rw [rStep, rStep, set_getD_ne (fun h => e h.symm), set_getD_ne (fun h => e h.symm), mnF_get]
theorem rt_step {n : Int} {d x : List Int} (h : (tyS n d).isSome = true) {i : Nat} (hi : i < n.toNat) (hx : rtB (rSt n d) x = true) : rtB (rSt n d) (rStep n d x i) = true := by
  have hr := rtOk h
  have hc := clOk h
  have hlo := hr.lo
  have hl := (hr.entX hx).1
  rw [rtB, Bool.or_eq_true] at hx
  rcases hx with hx | hx
  · have hm := List.contains_iff_mem.1 hx
    rcases hc.cl _ hm i hi with h1 | ⟨_, h1⟩
    · rw [rtB, h1]; rfl
    · rw [rtB, h1, mnF_mnF, hx, Bool.or_true]
  · have hm := List.contains_iff_mem.1 hx
    have e := rStep_minus (n := n) (d := d) (x := mnF x) (i := i) (by rw [mnF_len]; omega)
    rw [mnF_mnF] at e
    rcases hc.cl _ hm i hi with h1 | ⟨_, h1⟩
    · rw [rtB, e, mnF_mnF, h1, Bool.or_true]
    · rw [rtB, e, h1, mnF_mnF, hx]
      rfl
theorem rt_arF {n : Int} {d x : List Int} (h : (tyS n d).isSome = true) (hx : rtB (rSt n d) x = true) : ∀ word : List Int, (∀ y ∈ word, 0 ≤ y ∧ y < n) → rtB (rSt n d) (arF n d word x) = true
  | [], _ => hx
  | i :: t, hw => by
    have hr := rtOk h
    have hlo := hr.lo
    have hrk := hr.rk
    have ih := rt_arF h hx t fun y hy => hw y (List.mem_cons_of_mem _ hy)
    obtain ⟨h1, h2⟩ := hr.entX ih
    have hi := hw i List.mem_cons_self
    have e : arF n d (i :: t) x = rStep n d (arF n d t x) i.toNat := arI_step (x := arF n d t x) (i := i) hr.mat (fun k _ => by have := h2 k; omega) (by omega) hrk (by omega)
    rw [e]
    exact rt_step h (by omega) ih
def ivB (n : Int) (d word r : List Int) : Bool := decide (sumW (arF n d word r) < 0)
def ivL (n : Int) (d word : List Int) : List (List Int) := if wordB n d word then (rSt n d).filter (ivB n d word) else []
theorem filter_yes {α : Type} {L : List α} {p : Nat} {d : α} {f : α → Bool} (hp : p < L.length) (h : f (L.getD p d) = true) : (L.take p).filter f ++ [L.getD p d] = (L.take (p + 1)).filter f := by
  rw [takeD_snoc (d := d) hp, List.filter_append, List.filter_cons_of_pos h, List.filter_nil]
theorem filter_no {α : Type} {L : List α} {p : Nat} {d : α} {f : α → Bool} (hp : p < L.length) (h : f (L.getD p d) = false) : (L.take p).filter f = (L.take (p + 1)).filter f := by
  rw [takeD_snoc (d := d) hp, List.filter_append, List.filter_cons_of_neg (by rw [h]; exact Bool.false_ne_true), List.filter_nil, List.append_nil]
def prOfL (n : Int) (d : List Int) : List (List Int) := if (tyS n d).isSome then rSt n d else []
theorem root_in {n : Int} {d : List Int} (h : (tyS n d).isSome = true) {k : Nat} (hk : k < (rSt n d).length) : wtOk n ((rSt n d).getD k []) = true ∧ rtB (rSt n d) ((rSt n d).getD k []) = true ∧ 2 ≤ inF n d ((rSt n d).getD k []) ((rSt n d).getD k []) ∧ inF n d ((rSt n d).getD k []) ((rSt n d).getD k []) ≤ 2000000000 := by
  have e : (rSt n d).getD k [] = (rSt n d)[k] := by simp [List.getD, hk]
  have hc : (rSt n d).contains ((rSt n d).getD k []) = true := by rw [List.contains_iff_mem, e]; exact List.getElem_mem hk
  have hb : rtB (rSt n d) ((rSt n d).getD k []) = true := by rw [rtB, hc]; rfl
  have hw := (rtOk h).in1 hc
  have h2 := inF_bd h hw hw
  exact ⟨hw, hb, rt_two h hw hb, by omega⟩
section
variable {P : Program} {n : Nat} {env : List (Nat × Value)} {W : World} {own : List Asn}
end
end Go.Proofs.YtgelkakjmbiibaaGreatDoor

namespace Go.Proofs.YtgelkakjmbiibaaGreatDoor
set_option linter.unusedVariables false
set_option linter.unusedSimpArgs false
open Go.RowKit
theorem fd80_1 : FD Tryz.prog 80 1 2 := by have h := fd_of (f := 1) Tryz.underlying80 rfl (fun w => by kernel_rfl); exact h
theorem ent93 : ∀ us w, (callFunc 93 us).run Tryz.prog w = .ok (.enter 93 us) w := fun us w => by kernel_rfl
set_option maxRecDepth 100000 in
theorem positiveRoots_w {W : World} {own : List Asn} {cr : Int} {vcd : Value} {cd : List Int}  (scd : IsS vcd) (ecd : Ent own fun w => Ints w vcd cd)  (hl0 : cd.length ≤ 1073741824) (hg : Ent own fun w => ∃ m, w.cell? ⟨Tryz.l146_ren.g 1, 0, none⟩ = some (.int .i64 m)) (htab : Ent own Pow10) : Spec Tryz.prog 35 [.agg #[.int .i64 (cr), vcd]] W own (fun v ow => ∃ (r0 : Value) (u0 : List Value), v = r0 ∧ IsS r0 ∧ AllS u0 ∧ u0.length = (prOfL cr cd).length ∧ ow = lst 22 r0 u0 :: many (ints 3) u0 (prOfL cr cd) :: own) := by
 refine Spec.enter Tryz.f35 _ Tryz.func35 rfl (n := 10) rfl rfl ?_
 refine GC.seq (GC.region ?_)
 refine G.step (OG.box (cs := [.int .i64 (cr), vcd]) rfl rfl rfl) rfl rfl rfl ?_
 rintro _ _ ⟨g1, rfl, rfl⟩
 refine G.stepD (OD.assign rfl rfl) rfl rfl rfl ?_
 refine G.nil (GE.then_ (GC.seq (GC.seq (GC.region ?_))))
 refine G.stepD (OD.loadAgg rfl ti27 rfl (i := 0) rfl (us := [.int .i64 (cr), vcd]) rfl rfl) rfl rfl rfl ?_
 refine G.step (OG.call [.agg #[.int .i64 (cr), vcd]] ent43 rfl rfl rfl rfl (by exact (isCartan_w scd (Ent.drop 1 ecd) (hl0) ((Ent.drop 1 hg))))) rfl rfl rfl ?_
 rintro _ _ ⟨rfl, rfl⟩
 refine G.stepD (OD.not rfl rfl) rfl rfl rfl ?_
 refine G.nil (GE.then_ ?_)
 refine GC.cond rfl (fun hc2 => ?_) (fun hc2 => ?_)
 replace hc2 := eq_false_of_not hc2
 have hS := hc2
 refine GC.seq (GC.region ?_)
 refine G.stepD (OD.assign rfl rfl) rfl rfl rfl ?_
 refine G.nil (GE.then_ (GC.ret (GE.passR ?_)))
 refine GE.many0 (ints 3) ?_
 refine GE.nilLst 22 ?_
 exact GE.body [0, 0] 1 (res1 rfl rfl) rfl (⟨(.slice none 0 0), [], rfl, IsS.nil, AllS.nil, (by rw [prOfL, hS] <;> rfl), congrArg (fun (l0 : List (List Int)) => lst 22 (.slice none 0 0) [] :: many (ints 3) [] l0 :: own) ((by rw [prOfL, hS] <;> rfl : [] = prOfL cr cd))⟩)
 replace hc2 := eq_true_of_not hc2
 have hS := hc2
 refine GC.skip (GE.then_ (GC.seq (GC.region ?_)))
 refine G.stepD (OD.loadAgg rfl ti27 rfl (i := 0) rfl (us := [.int .i64 (cr), vcd]) rfl rfl) rfl rfl rfl ?_
 refine G.step (OG.call [.agg #[.int .i64 (cr), vcd]] ent78 rfl rfl rfl rfl (by exact (newRoots_w scd (Ent.drop 1 ecd) ((tyS_ok hS).1) ((tyS_ok hS).2) (hS) ((Ent.drop 1 htab))))) rfl rfl rfl ?_
 rintro _ _ ⟨v3, u4, g8, rfl, hs5, hs6, hs7, rfl⟩
 refine G.stepD (OD.field (us := [.int .i64 (cr), vcd, v3, .map (some g8)]) rfl fd80_1 rfl rfl) rfl rfl rfl ?_
 refine G.step (OG.call [v3] ent93 rfl rfl rfl rfl (by exact (copyLists_w hs5 (Ent.len (Ent.lst (i := 0) rfl) (by omega)) (fun k hk => Ent.manyInts (i := 1) (k := k) rfl ⟨by omega, hk⟩) (by omega) hs6 (by have h1 := (rtOk hS).slen; have h2 := (rtOk hS).few; omega) (fun k hk => by have h1 := ((rtOk hS).sget hk).1; have h2 := (rtOk hS).rk; omega)))) rfl rfl rfl ?_
 rintro v9 _ ⟨_, u10, rfl, hs11, hs12, hs13, rfl⟩
 refine G.stepD (OD.assign rfl rfl) rfl rfl rfl ?_
 refine G.nil (GE.then_ (GC.ret ?_))
 exact GE.body [0, 0] 4 (res1 rfl rfl) rfl (⟨v9, u10, rfl, hs11, hs12, (by rw [prOfL, if_pos hS]; omega), congrArg (fun (l0 : List (List Int)) => lst 22 v9 u10 :: many (ints 3) u10 l0 :: own) ((by rw [prOfL, if_pos hS] : rSt cr cd = prOfL cr cd))⟩)
end Go.Proofs.YtgelkakjmbiibaaGreatDoor

namespace Go.Proofs.YtgelkakjmbiibaaGreatDoor
set_option linter.unusedVariables false
set_option linter.unusedSimpArgs false
open Go.RowKit
theorem ent60 : ∀ us w, (callFunc 60 us).run Tryz.prog w = .ok (.enter 60 us) w := fun us w => by kernel_rfl
theorem ent79 : ∀ us w, (callFunc 79 us).run Tryz.prog w = .ok (.enter 79 us) w := fun us w => by kernel_rfl
theorem ent80 : ∀ us w, (callFunc 80 us).run Tryz.prog w = .ok (.enter 80 us) w := fun us w => by kernel_rfl
set_option maxHeartbeats 4000000 in
set_option maxRecDepth 100000 in
theorem inversionsOf_w {W : World} {own : List Asn} {cr : Int} {vcd : Value} {cd : List Int} {vword : Value} {word : List Int}  (scd : IsS vcd) (ecd : Ent own fun w => Ints w vcd cd)   (sword : IsS vword) (eword : Ent own fun w => Ints w vword word)  (hl0 : cd.length ≤ 1073741824) (hlw : word.length ≤ 1073741824) (hg : Ent own fun w => ∃ m, w.cell? ⟨Tryz.l146_ren.g 1, 0, none⟩ = some (.int .i64 m)) (htab : Ent own Pow10) : Spec Tryz.prog 26 [.agg #[.int .i64 (cr), vcd], vword] W own (fun v ow => ∃ (r0 : Value) (u0 : List Value), v = r0 ∧ IsS r0 ∧ AllS u0 ∧ u0.length = (ivL cr cd word).length ∧ ow = lst 22 r0 u0 :: many (ints 3) u0 (ivL cr cd word) :: own) := by
 refine Spec.enter Tryz.f26 _ Tryz.func26 rfl (n := 34) rfl rfl ?_
 refine GC.seq (GC.region ?_)
 refine G.step (OG.box (cs := [.int .i64 (cr), vcd]) rfl rfl rfl) rfl rfl rfl ?_
 rintro _ _ ⟨g1, rfl, rfl⟩
 refine G.stepD (OD.assign rfl rfl) rfl rfl rfl ?_
 refine G.nil (GE.then_ (GC.seq (GC.seq (GC.region ?_))))
 refine G.stepD (OD.loadAgg rfl ti27 rfl (i := 0) rfl (us := [.int .i64 (cr), vcd]) rfl rfl) rfl rfl rfl ?_
 refine G.stepD (OD.move rfl rfl) rfl rfl rfl ?_
 refine G.step (OG.call [.agg #[.int .i64 (cr), vcd], vword] ent60 rfl rfl rfl rfl (by exact (wordOk_w scd (Ent.drop 1 ecd) sword (Ent.drop 1 eword) (hl0) (by omega) ((Ent.drop 1 hg))))) rfl rfl rfl ?_
 rintro _ _ ⟨rfl, rfl⟩
 refine G.stepD (OD.not rfl rfl) rfl rfl rfl ?_
 refine G.nil (GE.then_ ?_)
 refine GC.cond rfl (fun hc2 => ?_) (fun hc2 => ?_)
 replace hc2 := eq_false_of_not hc2
 have hwb := hc2
 refine GC.seq (GC.region ?_)
 refine G.stepD (OD.assign rfl rfl) rfl rfl rfl ?_
 refine G.nil (GE.then_ (GC.ret (GE.passR ?_)))
 refine GE.many0 (ints 3) ?_
 refine GE.nilLst 22 ?_
 exact GE.body [0, 0] 1 (res1 rfl rfl) rfl (⟨(.slice none 0 0), [], rfl, IsS.nil, AllS.nil, (by rw [ivL, hwb] <;> rfl), congrArg (fun (l0 : List (List Int)) => lst 22 (.slice none 0 0) [] :: many (ints 3) [] l0 :: own) ((by rw [ivL, hwb] <;> rfl : [] = ivL cr cd word))⟩)
 replace hc2 := eq_true_of_not hc2
 have hwb := hc2
 obtain ⟨_, hw60, hwr⟩ := wordB_ok hwb
 have hS : (tyS cr cd).isSome = true := by have h := hwb; rw [wordB, Bool.and_eq_true] at h; exact h.1
 have hrs := (rtOk hS).slen
 have hrf := (rtOk hS).few
 have hrk := (rtOk hS).rk
 have hrl := (rtOk hS).lo
 have hfl : ∀ p, (((rSt cr cd).take p).filter (ivB cr cd word)).length ≤ 30 := fun p => by have h1 := List.length_filter_le (ivB cr cd word) ((rSt cr cd).take p); rw [List.length_take] at h1; omega
 refine GC.skip (GE.then_ (GC.seq (GC.region ?_)))
 refine G.step (OG.buildLst (xs := []) (us := []) rfl et39 rfl rfl rfl rfl rfl) rfl rfl rfl ?_
 rintro v3 _ ⟨hs4, rfl⟩
 refine G.stepD (OD.assign rfl rfl) rfl rfl rfl ?_
 refine G.nil (GE.then_ (GC.seq (GC.seq (GC.region ?_))))
 refine G.stepD (OD.loadAgg rfl ti27 rfl (i := 1) rfl (us := [.int .i64 (cr), vcd]) rfl rfl) rfl rfl rfl ?_
 refine G.step (OG.call [.agg #[.int .i64 (cr), vcd]] ent78 rfl rfl rfl rfl (by exact (newRoots_w scd (Ent.drop 2 ecd) ((tyS_ok hS).1) ((tyS_ok hS).2) (hS) ((Ent.drop 2 htab))))) rfl rfl rfl ?_
 rintro _ _ ⟨v5, u6, g10, rfl, hs7, hs8, hs9, rfl⟩
 refine G.stepD (OD.field (us := [.int .i64 (cr), vcd, v5, .map (some g10)]) rfl fd80_1 rfl rfl) rfl rfl rfl ?_
 refine G.stepD (OD.len rfl rfl et39 rfl (Ent.lst (i := 0) rfl)) rfl rfl rfl ?_
 refine G.stepD (OD.move rfl rfl) rfl rfl rfl ?_
 refine G.nil (GE.then_ (GC.block ?_))
 refine GC.many0 (ints 3) ?_
 refine GC.loop (ι := Nat × List Value × Value) (fun ⟨p, us, v⟩ => [(1, vword), (2, .pointer (some ⟨g1, 0, none⟩)), (15, v5), (16, .int .i64 ((u6.length : Nat))), (5, v), (17, .int .i64 ((p : Int)))]) (fun ⟨p, us, v⟩ => many (ints 3) us (((rSt cr cd).take p).filter (ivB cr cd word)) :: lst 22 v5 u6 :: many (ints 3) u6 (rSt cr cd) :: mapA keyL valI g10 (rKvs cr cd) :: lst 22 v us :: box g1 27 [.int .i64 (cr), vcd] :: own) (fun ⟨p, us, v⟩ => (p ≤ (rSt cr cd).length) ∧ (AllS us) ∧ (us.length = (((rSt cr cd).take p).filter (ivB cr cd word)).length) ∧ (IsS v)) (fun ⟨p, us, v⟩ => (rSt cr cd).length - p) (0, [], v3) (⟨by omega, AllS.nil, rfl, hs4⟩) ⟨rfl, rfl, rfl, rfl, rfl, rfl, trivial⟩ [] 0 rfl ?_
 rintro ⟨p, us, v⟩ ⟨hp, ha, hul, hv⟩
 refine GC.seq (GC.region ?_)
 refine G.stepD (OD.lss rfl rfl rfl) rfl rfl rfl ?_
 refine G.nil (GE.then_ (GC.seq ?_))
 refine GC.cond rfl (fun hc11 => ?_) (fun hc11 => ?_)
 replace hc11 := of_decide_eq_true hc11
 have hflp := hfl p
 have hxl := ((rtOk hS).sget (show p < (rSt cr cd).length by omega)).1
 have hrt := rt_arF hS (root_in hS (show p < (rSt cr cd).length by omega)).2.1 word hwr
 refine GC.skip (GE.then_ (GC.seq (GC.block (GC.seq (GC.region ?_)))))
 refine G.stepD (OD.indexAddr rfl et39 rfl (Ent.lst (i := 1) rfl) rfl (by omega)) rfl rfl rfl ?_
 refine G.stepD (OD.loadElem rfl ti22 rfl (Ent.lst (i := 1) rfl) (by omega) rfl) rfl rfl rfl ?_
 refine G.stepD (OD.assign rfl rfl) rfl rfl rfl ?_
 refine G.nil (GE.then_ (GC.seq (GC.region ?_)))
 refine G.stepD (OD.loadAgg rfl ti27 rfl (i := 5) rfl (us := [.int .i64 (cr), vcd]) rfl rfl) rfl rfl rfl ?_
 refine G.stepD (OD.move rfl rfl) rfl rfl rfl ?_
 refine G.stepD (OD.move rfl rfl) rfl rfl rfl ?_
 refine G.step (OG.call [.agg #[.int .i64 (cr), vcd], vword, (u6.getD (p) undef)] ent80 rfl rfl rfl rfl (by exact (actRoot_w scd (Ent.drop 6 ecd) sword (Ent.drop 6 eword) (hs8.get (by omega)) (Ent.manyInts (i := 2) rfl ⟨by first | omega | (simp; omega), by first | omega | (simp; omega)⟩) ((tyS_ok hS).1) ((tyS_ok hS).2) (⟨by omega, hwr⟩) (by omega)))) rfl rfl rfl ?_
 rintro v12 _ ⟨_, rfl, hs13, rfl⟩
 refine G.step (OG.call [v12] ent79 rfl rfl rfl rfl (by exact (sumOf_w hs13 (Ent.ints (i := 0) rfl) (by first | omega | (rw [arF_len]; omega))))) rfl rfl rfl ?_
 rintro _ _ ⟨rfl, rfl⟩
 refine G.stepD (OD.lss rfl rfl rfl) rfl rfl rfl ?_
 refine G.nil (GE.then_ ?_)
 refine GC.cond rfl (fun hc14 => ?_) (fun hc14 => ?_)
 replace hc14 := of_decide_eq_true hc14
 have hiv : ivB cr cd word ((rSt cr cd).getD p []) = true := decide_eq_true hc14
 refine GC.region ?_
 refine G.stepD (OD.move rfl rfl) rfl rfl rfl ?_
 refine G.stepD (OD.move rfl rfl) rfl rfl rfl ?_
 refine G.step (OG.call [(u6.getD (p) undef)] ent76 rfl rfl rfl rfl (by exact (clone_w (hs8.get (by omega)) (Ent.manyInts (i := 3) rfl ⟨by first | omega | (simp; omega), by first | omega | (simp; omega)⟩) (by first | omega | (rw [arF_len]; omega))))) rfl rfl rfl ?_
 rintro v15 _ ⟨_, rfl, hs16, rfl⟩
 refine G.step (OG.buildLst (xs := [.tmp 29]) (us := [v15]) rfl et39 rfl rfl rfl (allC (IsS.one hs16) rfl) rfl) rfl rfl rfl ?_
 rintro v17 _ ⟨hs18, rfl⟩
 refine G.step (OG.appendLst 7 rfl rfl et39 rfl rfl rfl (Ent.lst (i := 0) rfl) (List.all_eq_true.2 fun u hu => by simpa using (AllS.snoc AllS.nil hs16).one u hu) (by simp [maxLen] <;> omega)) rfl rfl rfl ?_
 rintro v19 _ ⟨hs20, rfl⟩
 refine G.stepD (OD.assign rfl rfl) rfl rfl rfl ?_
 refine G.nil (GE.blockN (GE.then_ (GC.region ?_)))
 refine G.stepD (OD.addI rfl rfl rfl (by omega)) rfl rfl rfl ?_
 refine G.stepD (OD.move rfl rfl) rfl rfl rfl ?_
 refine G.nil ?_
 refine GE.at [1, 2, 0, 0, 0, 0, 0, 0, 0] 0 (env' := [(1, vword), (2, .pointer (some ⟨g1, 0, none⟩)), (15, v5), (16, .int .i64 ((u6.length : Nat))), (18, .bool (decide ((p : Int) < (u6.length : Nat)))), (19, elemPtr v5 1 (p)), (20, (u6.getD (p) undef)), (7, (u6.getD (p) undef)), (21, .agg #[.int .i64 (cr), vcd]), (22, vword), (23, (u6.getD (p) undef)), (24, v12), (25, .int .i64 (sumW (arF cr cd word ((rSt cr cd).getD (p) [])))), (26, .bool (decide (sumW (arF cr cd word ((rSt cr cd).getD (p) [])) < 0))), (27, v), (28, (u6.getD (p) undef)), (29, v15), (30, v17), (31, v19), (5, v19), (32, .int .i64 ((p : Int) + 1)), (17, .int .i64 ((p : Int) + 1))]) ⟨rfl, rfl, rfl, rfl, rfl, rfl, rfl, rfl, rfl, rfl, rfl, rfl, rfl, rfl, rfl, rfl, rfl, rfl, rfl, rfl, rfl, rfl, trivial⟩ (own' := ints 3 v15 ((rSt cr cd).getD (p) []) :: many (ints 3) us (((rSt cr cd).take p).filter (ivB cr cd word)) :: lst 22 v17 [v15] :: ints 3 v12 (arF cr cd word ((rSt cr cd).getD (p) [])) :: lst 22 v5 u6 :: many (ints 3) u6 (rSt cr cd) :: mapA keyL valI g10 (rKvs cr cd) :: lst 22 v19 (us ++ [v15]) :: box g1 27 [.int .i64 (cr), vcd] :: own) rfl ?_
 refine GE.manyPush (by omega) ?_
 refine GE.ownEq (own' := many (ints 3) (us ++ [v15]) (((rSt cr cd).take (p + 1)).filter (ivB cr cd word)) :: lst 22 v17 [v15] :: ints 3 v12 (arF cr cd word ((rSt cr cd).getD (p) [])) :: lst 22 v5 u6 :: many (ints 3) u6 (rSt cr cd) :: mapA keyL valI g10 (rKvs cr cd) :: lst 22 v19 (us ++ [v15]) :: box g1 27 [.int .i64 (cr), vcd] :: own) (by (try dsimp only); rw [filter_yes (d := []) (by omega) hiv]) ?_
 exact GE.again (p + 1, us ++ [v15], v19) (⟨by omega, (ha.snoc hs16), by rw [← filter_yes (d := []) (by omega) hiv, List.length_append, List.length_append]; simp; omega, hs20⟩) (by first | omega | (dsimp only; omega)) ⟨rfl, rfl, rfl, rfl, rfl, rfl, trivial⟩ [0, 2, 2, 2, 2, 2] 2 rfl
 replace hc14 := of_decide_eq_false hc14
 have hiv : ivB cr cd word ((rSt cr cd).getD p []) = false := decide_eq_false hc14
 refine GC.skip (GE.blockN (GE.then_ (GC.region ?_)))
 refine G.stepD (OD.addI rfl rfl rfl (by omega)) rfl rfl rfl ?_
 refine G.stepD (OD.move rfl rfl) rfl rfl rfl ?_
 refine G.nil ?_
 refine GE.ownEq (own' := ints 3 v12 (arF cr cd word ((rSt cr cd).getD (p) [])) :: many (ints 3) us (((rSt cr cd).take (p + 1)).filter (ivB cr cd word)) :: lst 22 v5 u6 :: many (ints 3) u6 (rSt cr cd) :: mapA keyL valI g10 (rKvs cr cd) :: lst 22 v us :: box g1 27 [.int .i64 (cr), vcd] :: own) (by (try dsimp only); rw [filter_no (d := []) (by omega) hiv]) ?_
 exact GE.again (p + 1, us, v) (⟨by omega, ha, by rw [← filter_no (d := []) (by omega) hiv]; omega, hv⟩) (by first | omega | (dsimp only; omega)) ⟨rfl, rfl, rfl, rfl, rfl, rfl, trivial⟩ [1, 1, 1, 1, 1, 1] 1 rfl
 replace hc11 := of_decide_eq_false hc11
 refine GC.exit (GE.pass (GE.pass (GE.hit (GE.then_ (GC.seq (GC.region ?_))))))
 refine G.stepD (OD.move rfl rfl) rfl rfl rfl ?_
 refine G.stepD (OD.assign rfl rfl) rfl rfl rfl ?_
 refine G.nil (GE.then_ (GC.ret ?_))
 exact GE.body [4, 0] 4 (res1 rfl rfl) rfl (⟨v, us, rfl, hv, ha, (by rw [ivL, if_pos hwb, ← List.take_of_length_le (show (rSt cr cd).length ≤ p by omega)]; exact hul), congrArg (fun (l0 : List (List Int)) => lst 22 v us :: many (ints 3) us l0 :: own) ((by rw [ivL, if_pos hwb, List.take_of_length_le (by omega)] : ((rSt cr cd).take p).filter (ivB cr cd word) = ivL cr cd word))⟩)
end Go.Proofs.YtgelkakjmbiibaaGreatDoor
