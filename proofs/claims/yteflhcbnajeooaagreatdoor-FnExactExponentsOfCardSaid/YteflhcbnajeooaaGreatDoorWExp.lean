/-
  Exponents: contracts by walks.
-/
import Derived.Test.YteflhcbnajeooaaGreatDoorWNewA
import Derived.Test.YteflhcbnajeooaaGreatDoorExp
namespace Go.Proofs.YteflhcbnajeooaaGreatDoor
set_option linter.unusedVariables false
set_option linter.unusedSimpArgs false
open Go.RowKit

theorem fd56_1 : FD Tryz.prog 56 1 2 := by have h := fd_of (f := 1) Tryz.underlying56 rfl (fun w => by kernel_rfl); exact h
theorem ent11 : ∀ us w, (callFunc 11 us).run Tryz.prog w = .ok (.enter 11 us) w := fun us w => by kernel_rfl
theorem ent13 : ∀ us w, (callFunc 13 us).run Tryz.prog w = .ok (.enter 13 us) w := fun us w => by kernel_rfl
theorem ent16 : ∀ us w, (callFunc 16 us).run Tryz.prog w = .ok (.enter 16 us) w := fun us w => by kernel_rfl
theorem ent17 : ∀ us w, (callFunc 17 us).run Tryz.prog w = .ok (.enter 17 us) w := fun us w => by kernel_rfl
theorem ent19 : ∀ us w, (callFunc 19 us).run Tryz.prog w = .ok (.enter 19 us) w := fun us w => by kernel_rfl
theorem ent23 : ∀ us w, (callFunc 23 us).run Tryz.prog w = .ok (.enter 23 us) w := fun us w => by kernel_rfl
theorem ent24 : ∀ us w, (callFunc 24 us).run Tryz.prog w = .ok (.enter 24 us) w := fun us w => by kernel_rfl
theorem ent47 : ∀ us w, (callFunc 47 us).run Tryz.prog w = .ok (.enter 47 us) w := fun us w => by kernel_rfl
theorem mt61 : MT Tryz.prog 61 3 3 (.int .i64 0) := ⟨Tryz.underlying61, fun w => by kernel_rfl⟩
theorem ke3keyI : KeyE Tryz.prog 3 keyI := keyI_E Tryz.underlying3

set_option maxHeartbeats 4000000 in
set_option maxRecDepth 100000 in
theorem specExponentsOf_w {W : World} {own : List Asn} {cr : Int} {vcd : Value} {cd : List Int}  (scd : IsS vcd) (ecd : Ent own fun w => Ints w vcd cd)  (hl0 : cd.length ≤ 1073741824) : Spec Tryz.prog 23 [.agg #[.int .i64 (cr), vcd]] W own (fun v ow => ∃ (r0 : Value), v = r0 ∧ IsS r0 ∧ ow = ints 3 r0 (exOf cr cd) :: own) := by
 refine Spec.enter Tryz.f23 _ Tryz.func23 rfl (n := 74) rfl rfl ?_
 refine GC.seq (GC.region ?_)
 refine G.step (OG.box (cs := [.int .i64 (cr), vcd]) rfl rfl rfl) rfl rfl rfl ?_
 rintro _ _ ⟨g1, rfl, rfl⟩
 refine G.stepD (OD.assign rfl rfl) rfl rfl rfl ?_
 refine G.nil (GE.then_ (GC.seq (GC.seq (GC.region ?_))))
 refine G.stepD (OD.loadAgg rfl ti28 rfl (i := 0) rfl (us := [.int .i64 (cr), vcd]) rfl rfl) rfl rfl rfl ?_
 refine G.step (OG.call [.agg #[.int .i64 (cr), vcd]] ent42 rfl rfl rfl rfl (by exact (specIsCartan_w scd (Ent.drop 1 ecd) (hl0)))) rfl rfl rfl ?_
 rintro _ _ ⟨rfl, rfl⟩
 refine G.stepD (OD.not rfl rfl) rfl rfl rfl ?_
 refine G.nil (GE.then_ ?_)
 refine GC.cond rfl (fun hc2 => ?_) (fun hc2 => ?_)
 replace hc2 := eq_false_of_not hc2
 refine GC.seq (GC.region ?_)
 refine G.stepD (OD.assign rfl rfl) rfl rfl rfl ?_
 refine G.nil (GE.then_ (GC.ret (GE.passR ?_)))
 refine GE.nilInts 3 ?_
 exact GE.body [0] 1 (res1 rfl rfl) rfl (⟨(.slice none 0 0), rfl, IsS.nil, congrArg (fun (l0 : List Int) => ints 3 (.slice none 0 0) l0 :: own) ((by rw [exOf, hc2] <;> rfl : [] = exOf cr cd))⟩)
 replace hc2 := eq_true_of_not hc2
 have hS := hc2
 have hE := exOk hS
 have hrs := (rtOk hS).slen
 have hrf := (rtOk hS).few
 have hrk := (rtOk hS).rk
 refine GC.skip (GE.then_ (GC.seq (GC.region ?_)))
 refine G.stepD (OD.loadAgg rfl ti28 rfl (i := 0) rfl (us := [.int .i64 (cr), vcd]) rfl rfl) rfl rfl rfl ?_
 refine G.step (OG.call [.agg #[.int .i64 (cr), vcd]] ent37 rfl rfl rfl rfl (by exact (l5Roots_w scd (Ent.drop 1 ecd) ((tyS_ok hS).1) ((tyS_ok hS).2) (hS)))) rfl rfl rfl ?_
 rintro v3 _ ⟨_, u4, rfl, hs5, hs6, hs7, rfl⟩
 refine G.stepD (OD.assign rfl rfl) rfl rfl rfl ?_
 refine G.nil (GE.then_ (GC.seq (GC.region ?_)))
 refine G.step (OG.buildInts (xs := [.const (.int .i64 (0))]) (is := [0]) rfl et22 rfl rfl rfl rfl rfl) rfl rfl rfl ?_
 rintro v8 _ ⟨hs9, rfl⟩
 refine G.stepD (OD.assign rfl rfl) rfl rfl rfl ?_
 refine G.nil (GE.then_ (GC.seq (GC.seq (GC.region ?_))))
 refine G.stepD (OD.assign rfl rfl) rfl rfl rfl ?_
 refine G.nil (GE.then_ (GC.block ?_))
 refine GC.loop (ι := Nat × List Int × Value) (fun ⟨p, cs, v⟩ => [(3, v3), (4, v), (5, .int .i64 ((p : Int)))]) (fun ⟨p, cs, v⟩ => ints 3 v cs :: lst 22 v3 u4 :: many (ints 3) u4 (rSt cr cd) :: box g1 28 [.int .i64 (cr), vcd] :: own) (fun ⟨p, cs, v⟩ => (p ≤ (rSt cr cd).length) ∧ (cs = (List.range p).foldl (csI (rSt cr cd)) [0]) ∧ (1 ≤ cs.length ∧ cs.length ≤ 41) ∧ (IsS v)) (fun ⟨p, cs, v⟩ => (rSt cr cd).length - p) (0, [0], v8) (⟨by omega, rfl, by simp, hs9⟩) ⟨rfl, rfl, rfl, trivial⟩ [] 0 rfl ?_
 rintro ⟨p, cs, v⟩ ⟨hp, hcs, hcl, hv⟩
 refine GC.seq (GC.seq (GC.region ?_))
 refine G.stepD (OD.move rfl rfl) rfl rfl rfl ?_
 refine G.stepD (OD.move rfl rfl) rfl rfl rfl ?_
 refine G.stepD (OD.len rfl rfl et49 rfl (Ent.lst (i := 1) rfl)) rfl rfl rfl ?_
 refine G.stepD (OD.lss rfl rfl rfl) rfl rfl rfl ?_
 refine G.nil (GE.then_ ?_)
 refine GC.cond rfl (fun hc10 => ?_) (fun hc10 => ?_)
 replace hc10 := of_decide_eq_true hc10
 have hht := hE.hts p (by omega)
 have hxl := ((rtOk hS).sget (show p < (rSt cr cd).length by omega)).1
 refine GC.skip (GE.then_ (GC.seq (GC.block (GC.seq (GC.block ?_)))))
 refine GC.loop (ι := Nat × List Int × Value) (fun ⟨q, ys, w⟩ => [(3, v3), (5, .int .i64 ((p : Int))), (4, w)]) (fun ⟨q, ys, w⟩ => ints 3 w ys :: lst 22 v3 u4 :: many (ints 3) u4 (rSt cr cd) :: box g1 28 [.int .i64 (cr), vcd] :: own) (fun ⟨q, ys, w⟩ => (q ≤ (sumW ((rSt cr cd).getD (p) [])).toNat + 1 - cs.length) ∧ (ys = cs ++ List.replicate q 0) ∧ (IsS w)) (fun ⟨q, ys, w⟩ => (sumW ((rSt cr cd).getD (p) [])).toNat + 1 - cs.length - q) (0, cs, v) (⟨by omega, by simp, hv⟩) ⟨rfl, rfl, rfl, trivial⟩ [] 0 rfl ?_
 rintro ⟨q, ys, w⟩ ⟨hq, hy, hw⟩
 have hyl : ys.length = cs.length + q := by rw [hy]; simp
 refine GC.seq (GC.seq (GC.region ?_))
 refine G.stepD (OD.move rfl rfl) rfl rfl rfl ?_
 refine G.stepD (OD.len rfl rfl et22 rfl (Ent.ints (i := 0) rfl)) rfl rfl rfl ?_
 refine G.stepD (OD.move rfl rfl) rfl rfl rfl ?_
 refine G.stepD (OD.move rfl rfl) rfl rfl rfl ?_
 refine G.stepD (OD.indexAddr rfl et49 rfl (Ent.lst (i := 1) rfl) rfl (by omega)) rfl rfl rfl ?_
 refine G.stepD (OD.loadElem rfl ti22 rfl (Ent.lst (i := 1) rfl) (by omega) rfl) rfl rfl rfl ?_
 refine G.step (OG.call [(u4.getD (p) undef)] ent46 rfl rfl rfl rfl (by exact (l5Height_w (hs6.get (by omega)) (Ent.manyInts (i := 2) rfl ⟨by first | omega | (simp; omega), by first | omega | (simp; omega)⟩) (by omega)))) rfl rfl rfl ?_
 rintro _ _ ⟨rfl, rfl⟩
 refine G.stepD (OD.leq rfl rfl rfl) rfl rfl rfl ?_
 refine G.nil (GE.then_ ?_)
 refine GC.cond rfl (fun hc11 => ?_) (fun hc11 => ?_)
 replace hc11 := of_decide_eq_true hc11
 refine GC.skip (GE.then_ (GC.block (GC.region ?_)))
 refine G.stepD (OD.move rfl rfl) rfl rfl rfl ?_
 refine G.step (OG.buildInts (xs := [.const (.int .i64 (0))]) (is := [0]) rfl et22 rfl rfl rfl rfl rfl) rfl rfl rfl ?_
 rintro v12 _ ⟨hs13, rfl⟩
 refine G.step (OG.appendInts 1 rfl rfl et22 rfl rfl rfl (Ent.ints (i := 0) rfl) (by first | omega | (simp; omega))) rfl rfl rfl ?_
 rintro v14 _ ⟨hs15, rfl⟩
 refine G.stepD (OD.assign rfl rfl) rfl rfl rfl ?_
 refine G.nil (GE.blockN ?_)
 exact GE.again (q + 1, ys ++ [0], v14) (⟨by omega, by rw [hy]; exact repS, hs15⟩) (by first | omega | (dsimp only; omega)) ⟨rfl, rfl, rfl, trivial⟩ [1, 1, 1, 1] 1 rfl
 replace hc11 := of_decide_eq_false hc11
 refine GC.exit (GE.pass (GE.pass (GE.hit (GE.then_ (GC.region ?_)))))
 refine G.stepD (OD.move rfl rfl) rfl rfl rfl ?_
 refine G.stepD (OD.move rfl rfl) rfl rfl rfl ?_
 refine G.stepD (OD.move rfl rfl) rfl rfl rfl ?_
 refine G.stepD (OD.indexAddr rfl et49 rfl (Ent.lst (i := 1) rfl) rfl (by omega)) rfl rfl rfl ?_
 refine G.stepD (OD.loadElem rfl ti22 rfl (Ent.lst (i := 1) rfl) (by omega) rfl) rfl rfl rfl ?_
 refine G.step (OG.call [(u4.getD (p) undef)] ent46 rfl rfl rfl rfl (by exact (l5Height_w (hs6.get (by omega)) (Ent.manyInts (i := 2) rfl ⟨by first | omega | (simp; omega), by first | omega | (simp; omega)⟩) (by omega)))) rfl rfl rfl ?_
 rintro _ _ ⟨rfl, rfl⟩
 refine G.stepD (OD.indexAddr rfl et22 rfl (Ent.ints (i := 0) rfl) rfl (by omega)) rfl rfl rfl ?_
 refine G.stepD (OD.loadInt rfl ti3 rfl (Ent.ints (i := 0) rfl) (by omega)) rfl rfl rfl ?_
 refine G.stepD (OD.add rfl rfl rfl) rfl rfl rfl ?_
 refine G.stepD (OD.indexAddr rfl et22 rfl (Ent.ints (i := 0) rfl) rfl (by omega)) rfl rfl rfl ?_
 refine G.stepD0 (OD.storeInt rfl ti3 rfl rfl (i := 0) rfl (by omega)) rfl rfl ?_
 refine G.nil (GE.blockN (GE.then_ (GC.region ?_)))
 refine G.stepD (OD.move rfl rfl) rfl rfl rfl ?_
 refine G.stepD (OD.addI rfl rfl rfl (by first | omega | (simp only [List.length_set, List.length_replicate]; omega))) rfl rfl rfl ?_
 refine G.stepD (OD.assign rfl rfl) rfl rfl rfl ?_
 refine G.nil ?_
 exact GE.again (p + 1, (ys).set ((sumW ((rSt cr cd).getD (p) []) : Int).toNat) (IntKind.i64.wrap ((ys.getD ((sumW ((rSt cr cd).getD (p) []) : Int).toNat) 0) + 1)), w) (⟨by omega, fold_next hcs (cs_step hy (show q = (sumW ((rSt cr cd).getD p [])).toNat + 1 - cs.length by omega)), by rw [List.length_set]; omega, hw⟩) (by first | omega | (dsimp only; omega)) ⟨rfl, rfl, rfl, trivial⟩ [] 0 rfl
 replace hc10 := of_decide_eq_false hc10
 have hcf : cs = csF (rSt cr cd) (rSt cr cd).length := by rw [hcs, show p = (rSt cr cd).length by omega]; rfl
 have hcb : ∀ j, 0 ≤ cs.getD j 0 ∧ cs.getD j 0 ≤ 30 := by rw [hcf]; exact hE.cs
 refine GC.exit (GE.pass (GE.pass (GE.hit (GE.then_ (GC.seq (GC.region ?_))))))
 refine G.step (OG.buildInts (xs := []) (is := []) rfl et22 rfl rfl rfl rfl rfl) rfl rfl rfl ?_
 rintro v16 _ ⟨hs17, rfl⟩
 refine G.stepD (OD.assign rfl rfl) rfl rfl rfl ?_
 refine G.nil (GE.then_ (GC.seq (GC.seq (GC.region ?_))))
 refine G.stepD (OD.assign rfl rfl) rfl rfl rfl ?_
 refine G.nil (GE.then_ (GC.block ?_))
 refine GC.loop (ι := Nat × List Int × Value) (fun ⟨m, os, u⟩ => [(4, v), (6, u), (7, .int .i64 ((m : Int) + 1))]) (fun ⟨m, os, u⟩ => ints 3 u os :: ints 3 v cs :: lst 22 v3 u4 :: many (ints 3) u4 (rSt cr cd) :: box g1 28 [.int .i64 (cr), vcd] :: own) (fun ⟨m, os, u⟩ => (m + 1 ≤ cs.length) ∧ (os = (List.range m).foldl (exS cs) []) ∧ (os.length ≤ 30 * m) ∧ (IsS u)) (fun ⟨m, os, u⟩ => cs.length - m) (0, [], v16) (⟨by omega, rfl, by simp, hs17⟩) ⟨rfl, rfl, rfl, trivial⟩ [] 0 rfl ?_
 rintro ⟨m, os, u⟩ ⟨hm, hos, hol, hu⟩
 refine GC.seq (GC.seq (GC.region ?_))
 refine G.stepD (OD.move rfl rfl) rfl rfl rfl ?_
 refine G.stepD (OD.move rfl rfl) rfl rfl rfl ?_
 refine G.stepD (OD.len rfl rfl et22 rfl (Ent.ints (i := 1) rfl)) rfl rfl rfl ?_
 refine G.stepD (OD.lss rfl rfl rfl) rfl rfl rfl ?_
 refine G.nil (GE.then_ ?_)
 refine GC.cond rfl (fun hc18 => ?_) (fun hc18 => ?_)
 replace hc18 := of_decide_eq_true hc18
 refine GC.skip (GE.then_ (GC.seq (GC.block (GC.seq (GC.region ?_)))))
 refine G.stepD (OD.assign rfl rfl) rfl rfl rfl ?_
 refine G.nil (GE.then_ (GC.seq (GC.seq (GC.region ?_))))
 refine G.stepD (OD.move rfl rfl) rfl rfl rfl ?_
 refine G.stepD (OD.addI rfl rfl rfl (by omega)) rfl rfl rfl ?_
 refine G.stepD (OD.move rfl rfl) rfl rfl rfl ?_
 refine G.stepD (OD.len rfl rfl et22 rfl (Ent.ints (i := 1) rfl)) rfl rfl rfl ?_
 refine G.stepD (OD.lss rfl rfl rfl) rfl rfl rfl ?_
 refine G.nil (GE.then_ ?_)
 refine GC.cond rfl (fun hc19 => ?_) (fun hc19 => ?_)
 replace hc19 := of_decide_eq_true hc19
 refine GC.region ?_
 refine G.stepD (OD.move rfl rfl) rfl rfl rfl ?_
 refine G.stepD (OD.move rfl rfl) rfl rfl rfl ?_
 refine G.stepD (OD.addI rfl rfl rfl (by omega)) rfl rfl rfl ?_
 refine G.stepD (OD.indexAddr rfl et22 rfl (Ent.ints (i := 1) rfl) rfl (by omega)) rfl rfl rfl ?_
 refine G.stepD (OD.loadInt rfl ti3 rfl (Ent.ints (i := 1) rfl) (by omega)) rfl rfl rfl ?_
 refine G.stepD (OD.assign rfl rfl) rfl rfl rfl ?_
 refine G.nil (GE.then_ (GC.seq (GC.region ?_)))
 refine G.stepD (OD.move rfl rfl) rfl rfl rfl ?_
 refine G.stepD (OD.assign rfl rfl) rfl rfl rfl ?_
 refine G.nil (GE.then_ (GC.block ?_))
 refine GC.loop (ι := Nat × List Int × Value) (fun ⟨q, ys, w⟩ => [(4, v), (7, .int .i64 ((m : Int) + 1)), (6, w), (9, .int .i64 (cs.getD (((m : Int) + 1 + 1 : Int).toNat) 0 + (q : Int)))]) (fun ⟨q, ys, w⟩ => ints 3 w ys :: ints 3 v cs :: lst 22 v3 u4 :: many (ints 3) u4 (rSt cr cd) :: box g1 28 [.int .i64 (cr), vcd] :: own) (fun ⟨q, ys, w⟩ => (q ≤ (cs.getD (((m : Int) + 1 : Int).toNat) 0 - cs.getD (((m : Int) + 1 + 1 : Int).toNat) 0).toNat) ∧ (ys = os ++ List.replicate q ((m : Int) + 1)) ∧ (IsS w)) (fun ⟨q, ys, w⟩ => (cs.getD (((m : Int) + 1 : Int).toNat) 0 - cs.getD (((m : Int) + 1 + 1 : Int).toNat) 0).toNat - q) (0, os, u) (⟨by omega, by simp, hu⟩) ⟨rfl, rfl, rfl, int_eq (by omega), trivial⟩ [] 0 rfl ?_
 rintro ⟨q, ys, w⟩ ⟨hq, hy, hw⟩
 have hyl : ys.length = os.length + q := by rw [hy]; simp
 have hb1 := hcb (((m : Int) + 1 : Int).toNat)
 have hb2 := hcb (((m : Int) + 1 + 1 : Int).toNat)
 refine GC.seq (GC.seq (GC.region ?_))
 refine G.stepD (OD.move rfl rfl) rfl rfl rfl ?_
 refine G.stepD (OD.move rfl rfl) rfl rfl rfl ?_
 refine G.stepD (OD.move rfl rfl) rfl rfl rfl ?_
 refine G.stepD (OD.indexAddr rfl et22 rfl (Ent.ints (i := 1) rfl) rfl (by omega)) rfl rfl rfl ?_
 refine G.stepD (OD.loadInt rfl ti3 rfl (Ent.ints (i := 1) rfl) (by omega)) rfl rfl rfl ?_
 refine G.stepD (OD.lss rfl rfl rfl) rfl rfl rfl ?_
 refine G.nil (GE.then_ ?_)
 refine GC.cond rfl (fun hc20 => ?_) (fun hc20 => ?_)
 replace hc20 := of_decide_eq_true hc20
 refine GC.skip (GE.then_ (GC.seq (GC.block (GC.region ?_))))
 refine G.stepD (OD.move rfl rfl) rfl rfl rfl ?_
 refine G.stepD (OD.move rfl rfl) rfl rfl rfl ?_
 refine G.step (OG.buildInts (xs := [.tmp 70]) (is := [(m : Int) + 1]) rfl et22 rfl rfl rfl rfl rfl) rfl rfl rfl ?_
 rintro v21 _ ⟨hs22, rfl⟩
 refine G.step (OG.appendInts 1 rfl rfl et22 rfl rfl rfl (Ent.ints (i := 0) rfl) (by first | omega | (simp; omega))) rfl rfl rfl ?_
 rintro v23 _ ⟨hs24, rfl⟩
 refine G.stepD (OD.assign rfl rfl) rfl rfl rfl ?_
 refine G.nil (GE.blockN (GE.then_ (GC.region ?_)))
 refine G.stepD (OD.move rfl rfl) rfl rfl rfl ?_
 refine G.stepD (OD.addI rfl rfl rfl (by omega)) rfl rfl rfl ?_
 refine G.stepD (OD.assign rfl rfl) rfl rfl rfl ?_
 refine G.nil ?_
 exact GE.again (q + 1, ys ++ [(m : Int) + 1], v23) (⟨by omega, by rw [hy]; exact repS, hs24⟩) (by first | omega | (dsimp only; omega)) ⟨rfl, rfl, rfl, int_eq (by omega), trivial⟩ [1, 1, 1, 1, 1] 1 rfl
 replace hc20 := of_decide_eq_false hc20
 refine GC.exit (GE.pass (GE.pass (GE.hit (GE.blockN (GE.then_ (GC.region ?_))))))
 refine G.stepD (OD.move rfl rfl) rfl rfl rfl ?_
 refine G.stepD (OD.addI rfl rfl rfl (by omega)) rfl rfl rfl ?_
 refine G.stepD (OD.assign rfl rfl) rfl rfl rfl ?_
 refine G.nil ?_
 exact GE.again (m + 1, ys, w) (⟨by omega, fold_next hos (exS_step hy (by rw [nxS, if_pos (by omega)]; omega)), by omega, hw⟩) (by first | omega | (dsimp only; omega)) ⟨rfl, rfl, rfl, trivial⟩ [] 0 rfl
 replace hc19 := of_decide_eq_false hc19
 refine GC.skip (GE.then_ (GC.seq (GC.region ?_)))
 refine G.stepD (OD.move rfl rfl) rfl rfl rfl ?_
 refine G.stepD (OD.assign rfl rfl) rfl rfl rfl ?_
 refine G.nil (GE.then_ (GC.block ?_))
 refine GC.loop (ι := Nat × List Int × Value) (fun ⟨q, ys, w⟩ => [(4, v), (7, .int .i64 ((m : Int) + 1)), (6, w), (9, .int .i64 (0 + (q : Int)))]) (fun ⟨q, ys, w⟩ => ints 3 w ys :: ints 3 v cs :: lst 22 v3 u4 :: many (ints 3) u4 (rSt cr cd) :: box g1 28 [.int .i64 (cr), vcd] :: own) (fun ⟨q, ys, w⟩ => (q ≤ (cs.getD (((m : Int) + 1 : Int).toNat) 0 - 0).toNat) ∧ (ys = os ++ List.replicate q ((m : Int) + 1)) ∧ (IsS w)) (fun ⟨q, ys, w⟩ => (cs.getD (((m : Int) + 1 : Int).toNat) 0 - 0).toNat - q) (0, os, u) (⟨by omega, by simp, hu⟩) ⟨rfl, rfl, rfl, int_eq (by omega), trivial⟩ [] 0 rfl ?_
 rintro ⟨q, ys, w⟩ ⟨hq, hy, hw⟩
 have hyl : ys.length = os.length + q := by rw [hy]; simp
 have hb1 := hcb (((m : Int) + 1 : Int).toNat)
 have hb2 := hcb (((m : Int) + 1 + 1 : Int).toNat)
 refine GC.seq (GC.seq (GC.region ?_))
 refine G.stepD (OD.move rfl rfl) rfl rfl rfl ?_
 refine G.stepD (OD.move rfl rfl) rfl rfl rfl ?_
 refine G.stepD (OD.move rfl rfl) rfl rfl rfl ?_
 refine G.stepD (OD.indexAddr rfl et22 rfl (Ent.ints (i := 1) rfl) rfl (by omega)) rfl rfl rfl ?_
 refine G.stepD (OD.loadInt rfl ti3 rfl (Ent.ints (i := 1) rfl) (by omega)) rfl rfl rfl ?_
 refine G.stepD (OD.lss rfl rfl rfl) rfl rfl rfl ?_
 refine G.nil (GE.then_ ?_)
 refine GC.cond rfl (fun hc25 => ?_) (fun hc25 => ?_)
 replace hc25 := of_decide_eq_true hc25
 refine GC.skip (GE.then_ (GC.seq (GC.block (GC.region ?_))))
 refine G.stepD (OD.move rfl rfl) rfl rfl rfl ?_
 refine G.stepD (OD.move rfl rfl) rfl rfl rfl ?_
 refine G.step (OG.buildInts (xs := [.tmp 70]) (is := [(m : Int) + 1]) rfl et22 rfl rfl rfl rfl rfl) rfl rfl rfl ?_
 rintro v26 _ ⟨hs27, rfl⟩
 refine G.step (OG.appendInts 1 rfl rfl et22 rfl rfl rfl (Ent.ints (i := 0) rfl) (by first | omega | (simp; omega))) rfl rfl rfl ?_
 rintro v28 _ ⟨hs29, rfl⟩
 refine G.stepD (OD.assign rfl rfl) rfl rfl rfl ?_
 refine G.nil (GE.blockN (GE.then_ (GC.region ?_)))
 refine G.stepD (OD.move rfl rfl) rfl rfl rfl ?_
 refine G.stepD (OD.addI rfl rfl rfl (by omega)) rfl rfl rfl ?_
 refine G.stepD (OD.assign rfl rfl) rfl rfl rfl ?_
 refine G.nil ?_
 exact GE.again (q + 1, ys ++ [(m : Int) + 1], v28) (⟨by omega, by rw [hy]; exact repS, hs29⟩) (by first | omega | (dsimp only; omega)) ⟨rfl, rfl, rfl, int_eq (by omega), trivial⟩ [1, 1, 1, 1, 1] 1 rfl
 replace hc25 := of_decide_eq_false hc25
 refine GC.exit (GE.pass (GE.pass (GE.hit (GE.blockN (GE.then_ (GC.region ?_))))))
 refine G.stepD (OD.move rfl rfl) rfl rfl rfl ?_
 refine G.stepD (OD.addI rfl rfl rfl (by omega)) rfl rfl rfl ?_
 refine G.stepD (OD.assign rfl rfl) rfl rfl rfl ?_
 refine G.nil ?_
 exact GE.again (m + 1, ys, w) (⟨by omega, fold_next hos (exS_step hy (by rw [nxS, if_neg (by omega)]; omega)), by omega, hw⟩) (by first | omega | (dsimp only; omega)) ⟨rfl, rfl, rfl, trivial⟩ [] 0 rfl
 replace hc18 := of_decide_eq_false hc18
 refine GC.exit (GE.pass (GE.pass (GE.hit (GE.then_ (GC.seq (GC.region ?_))))))
 refine G.stepD (OD.move rfl rfl) rfl rfl rfl ?_
 refine G.stepD (OD.assign rfl rfl) rfl rfl rfl ?_
 refine G.nil (GE.then_ (GC.ret ?_))
 exact GE.body [0] 4 (res1 rfl rfl) rfl (⟨u, rfl, hu, congrArg (fun (l0 : List Int) => ints 3 u l0 :: own) ((by rw [exOf, if_pos hS, ← hE.eq, ← hcf, eS, show cs.length - 1 = m by omega]; exact hos : os = exOf cr cd))⟩)

theorem OD.max {P : Program} {o : Oper} {n : Nat} {env : List (Nat × Value)} {W : World} {own : List Asn} {c : Call} {x y : Operand} {k : IntKind} {i j : Int} {ts : Array TypeId} (hop : o.op = .call c) (hc : c = { callee := .builtin .max, args := #[x, y], argTypes := ts }) (hx : ev env x = some (.int k i)) (hy : ev env y = some (.int k j)) : OD P o n env W own (.int k (Max.max i j)) own :=
  .of fun a w hf _ => by
    subst hc
    have e : (if j > i then j else i) = Max.max i j := by
      by_cases h : j > i
      · rw [if_pos h, Int.max_eq_right (by omega)]
      · rw [if_neg h, Int.max_eq_left (by omega)]
    have h := run_max_int2 (P := P) (w := w) ts o.type k k i j
    rw [e] at h
    simp only [execOp, hop, resolve, invoke, builtin, hf.ev hx, hf.ev hy]
    simpa [hf.ev hx, hf.ev hy] using run_val h

set_option maxHeartbeats 4000000 in
set_option maxRecDepth 100000 in
theorem exponentsOf_w {W : World} {own : List Asn} {cr : Int} {vcd : Value} {cd : List Int}  (scd : IsS vcd) (ecd : Ent own fun w => Ints w vcd cd)  (hl0 : cd.length ≤ 1073741824) (hg : Ent own fun w => ∃ m, w.cell? ⟨Tryz.l146_ren.g 1, 0, none⟩ = some (.int .i64 m)) (htab : Ent own Pow10) : Spec Tryz.prog 24 [.agg #[.int .i64 (cr), vcd]] W own (fun v ow => ∃ (r0 : Value), v = r0 ∧ IsS r0 ∧ ow = ints 3 r0 (exOf cr cd) :: own) := by
 refine Spec.enter Tryz.f24 _ Tryz.func24 rfl (n := 53) rfl rfl ?_
 refine GC.seq (GC.region ?_)
 refine G.step (OG.box (cs := [.int .i64 (cr), vcd]) rfl rfl rfl) rfl rfl rfl ?_
 rintro _ _ ⟨g1, rfl, rfl⟩
 refine G.stepD (OD.assign rfl rfl) rfl rfl rfl ?_
 refine G.nil (GE.then_ (GC.seq (GC.seq (GC.region ?_))))
 refine G.stepD (OD.loadAgg rfl ti28 rfl (i := 0) rfl (us := [.int .i64 (cr), vcd]) rfl rfl) rfl rfl rfl ?_
 refine G.step (OG.call [.agg #[.int .i64 (cr), vcd]] ent38 rfl rfl rfl rfl (by exact (isCartan_w scd (Ent.drop 1 ecd) (hl0) ((Ent.drop 1 hg))))) rfl rfl rfl ?_
 rintro _ _ ⟨rfl, rfl⟩
 refine G.stepD (OD.not rfl rfl) rfl rfl rfl ?_
 refine G.nil (GE.then_ ?_)
 refine GC.cond rfl (fun hc2 => ?_) (fun hc2 => ?_)
 replace hc2 := eq_false_of_not hc2
 refine GC.seq (GC.region ?_)
 refine G.stepD (OD.assign rfl rfl) rfl rfl rfl ?_
 refine G.nil (GE.then_ (GC.ret (GE.passR ?_)))
 refine GE.nilInts 3 ?_
 exact GE.body [0] 1 (res1 rfl rfl) rfl (⟨(.slice none 0 0), rfl, IsS.nil, congrArg (fun (l0 : List Int) => ints 3 (.slice none 0 0) l0 :: own) ((by rw [exOf, hc2] <;> rfl : [] = exOf cr cd))⟩)
 replace hc2 := eq_true_of_not hc2
 have hS := hc2
 have hE := exOk hS
 have hrs := (rtOk hS).slen
 have hrf := (rtOk hS).few
 have hrk := (rtOk hS).rk
 refine GC.skip (GE.then_ (GC.seq (GC.region ?_)))
 refine G.step (OG.makeMap keyI valI rfl rfl) rfl rfl rfl ?_
 rintro _ _ ⟨g3, rfl, rfl⟩
 refine G.stepD (OD.assign rfl rfl) rfl rfl rfl ?_
 refine G.nil (GE.then_ (GC.seq (GC.region ?_)))
 refine G.stepD (OD.assign rfl rfl) rfl rfl rfl ?_
 refine G.nil (GE.then_ (GC.seq (GC.seq (GC.region ?_))))
 refine G.stepD (OD.loadAgg rfl ti28 rfl (i := 1) rfl (us := [.int .i64 (cr), vcd]) rfl rfl) rfl rfl rfl ?_
 refine G.step (OG.call [.agg #[.int .i64 (cr), vcd]] ent41 rfl rfl rfl rfl (by exact (newRoots_w scd (Ent.drop 2 ecd) ((tyS_ok hS).1) ((tyS_ok hS).2) (hS) ((Ent.drop 2 htab))))) rfl rfl rfl ?_
 rintro _ _ ⟨v4, u5, g9, rfl, hs6, hs7, hs8, rfl⟩
 refine G.stepD (OD.field (us := [.int .i64 (cr), vcd, v4, .map (some g9)]) rfl fd56_1 rfl rfl) rfl rfl rfl ?_
 refine G.stepD (OD.len rfl rfl et49 rfl (Ent.lst (i := 0) rfl)) rfl rfl rfl ?_
 refine G.stepD (OD.move rfl rfl) rfl rfl rfl ?_
 refine G.nil (GE.then_ (GC.block ?_))
 refine GC.loop (ι := Nat × Int × List (Int × Int)) (fun ⟨p, t, kv⟩ => [(3, .map (some g3)), (15, v4), (16, .int .i64 ((u5.length : Nat))), (4, .int .i64 (t)), (17, .int .i64 ((p : Int)))]) (fun ⟨p, t, kv⟩ => lst 22 v4 u5 :: many (ints 3) u5 (rSt cr cd) :: mapA keyL valI g9 (rKvs cr cd) :: mapA keyI valI g3 kv :: box g1 28 [.int .i64 (cr), vcd] :: own) (fun ⟨p, t, kv⟩ => (p ≤ (rSt cr cd).length) ∧ (t = (List.range p).foldl (tpI (rSt cr cd)) 0) ∧ (kv = (List.range p).foldl (kvI (rSt cr cd)) [])) (fun ⟨p, t, kv⟩ => (rSt cr cd).length - p) (0, 0, []) (⟨by omega, rfl, rfl⟩) ⟨rfl, rfl, rfl, rfl, rfl, trivial⟩ [] 0 rfl ?_
 rintro ⟨p, t, kv⟩ ⟨hp, ht, hkv⟩
 refine GC.seq (GC.region ?_)
 refine G.stepD (OD.lss rfl rfl rfl) rfl rfl rfl ?_
 refine G.nil (GE.then_ (GC.seq ?_))
 refine GC.cond rfl (fun hc10 => ?_) (fun hc10 => ?_)
 replace hc10 := of_decide_eq_true hc10
 have hht := hE.hts p (by omega)
 have hxl := ((rtOk hS).sget (show p < (rSt cr cd).length by omega)).1
 refine GC.skip (GE.then_ (GC.seq (GC.block (GC.seq (GC.region ?_)))))
 refine G.stepD (OD.indexAddr rfl et49 rfl (Ent.lst (i := 0) rfl) rfl (by omega)) rfl rfl rfl ?_
 refine G.stepD (OD.loadElem rfl ti22 rfl (Ent.lst (i := 0) rfl) (by omega) rfl) rfl rfl rfl ?_
 refine G.stepD (OD.assign rfl rfl) rfl rfl rfl ?_
 refine G.nil (GE.then_ (GC.seq (GC.region ?_)))
 refine G.stepD (OD.move rfl rfl) rfl rfl rfl ?_
 refine G.stepD (OD.move rfl rfl) rfl rfl rfl ?_
 refine G.step (OG.call [(u5.getD (p) undef)] ent47 rfl rfl rfl rfl (by exact (sumOf_w (hs7.get (by omega)) (Ent.manyInts (i := 1) rfl ⟨by first | omega | (simp; omega), by first | omega | (simp; omega)⟩) (by omega)))) rfl rfl rfl ?_
 rintro _ _ ⟨rfl, rfl⟩
 refine G.stepD (OD.lookup (k := sumW ((rSt cr cd).getD (p) [])) rfl mt61 ke3keyI rfl rfl (Ent.map (kE := keyI) (vE := valI) (l := kv) (i := 3) rfl)) rfl rfl rfl ?_
 refine G.stepD (OD.add rfl rfl rfl) rfl rfl rfl ?_
 refine G.stepD0 (OD.mapUpdate (kE := keyI) (vE := valI) (l := kv) (k := sumW ((rSt cr cd).getD (p) [])) (b := (IntKind.i64.wrap (((alu (sumW ((rSt cr cd).getD (p) [])) kv).getD 0) + 1) : Int)) rfl mt61.ht ke3keyI rfl rfl rfl (i := 3) rfl) rfl rfl ?_
 refine G.nil (GE.then_ (GC.region ?_))
 refine G.stepD (OD.move rfl rfl) rfl rfl rfl ?_
 refine G.stepD (OD.move rfl rfl) rfl rfl rfl ?_
 refine G.step (OG.call [(u5.getD (p) undef)] ent47 rfl rfl rfl rfl (by exact (sumOf_w (hs7.get (by omega)) (Ent.manyInts (i := 1) rfl ⟨by first | omega | (simp; omega), by first | omega | (simp; omega)⟩) (by omega)))) rfl rfl rfl ?_
 rintro _ _ ⟨rfl, rfl⟩
 refine G.stepD (OD.max rfl rfl rfl rfl) rfl rfl rfl ?_
 refine G.stepD (OD.assign rfl rfl) rfl rfl rfl ?_
 refine G.nil (GE.blockN (GE.then_ (GC.region ?_)))
 refine G.stepD (OD.addI rfl rfl rfl (by omega)) rfl rfl rfl ?_
 refine G.stepD (OD.move rfl rfl) rfl rfl rfl ?_
 refine G.nil ?_
 exact GE.again (p + 1, max (t) (sumW ((rSt cr cd).getD (p) [])), aup (sumW ((rSt cr cd).getD (p) [])) (IntKind.i64.wrap (((alu (sumW ((rSt cr cd).getD (p) [])) kv).getD 0) + 1) : Int) kv) (⟨by omega, fold_next ht rfl, fold_next hkv rfl⟩) (by first | omega | (dsimp only; omega)) ⟨rfl, rfl, rfl, rfl, rfl, trivial⟩ [] 0 rfl
 replace hc10 := of_decide_eq_false hc10
 have hpe : p = (rSt cr cd).length := by omega
 have hkf : kv = kvE (rSt cr cd) (rSt cr cd).length := by rw [hkv, hpe]; rfl
 have htf : t = tpE (rSt cr cd) (rSt cr cd).length := by rw [ht, hpe]; rfl
 have htb : 0 ≤ t ∧ t ≤ 40 := by rw [htf]; exact hE.top
 refine GC.exit (GE.pass (GE.pass (GE.hit (GE.then_ (GC.seq (GC.region ?_))))))
 refine G.step (OG.buildInts (xs := []) (is := []) rfl et22 rfl rfl rfl rfl rfl) rfl rfl rfl ?_
 rintro v11 _ ⟨hs12, rfl⟩
 refine G.stepD (OD.assign rfl rfl) rfl rfl rfl ?_
 refine G.nil (GE.then_ (GC.seq (GC.seq (GC.region ?_))))
 refine G.stepD (OD.assign rfl rfl) rfl rfl rfl ?_
 refine G.nil (GE.then_ (GC.block ?_))
 refine GC.loop (ι := Nat × List Int × Value) (fun ⟨m, os, u⟩ => [(3, .map (some g3)), (4, .int .i64 (t)), (7, u), (8, .int .i64 ((m : Int) + 1))]) (fun ⟨m, os, u⟩ => ints 3 u os :: lst 22 v4 u5 :: many (ints 3) u5 (rSt cr cd) :: mapA keyL valI g9 (rKvs cr cd) :: mapA keyI valI g3 kv :: box g1 28 [.int .i64 (cr), vcd] :: own) (fun ⟨m, os, u⟩ => ((m : Int) ≤ t) ∧ (os = (List.range m).foldl (exI kv) []) ∧ (os.length ≤ 30 * m) ∧ (IsS u)) (fun ⟨m, os, u⟩ => t.toNat - m) (0, [], v11) (⟨by omega, rfl, by simp, hs12⟩) ⟨rfl, rfl, rfl, rfl, trivial⟩ [] 0 rfl ?_
 rintro ⟨m, os, u⟩ ⟨hm, hos, hol, hu⟩
 refine GC.seq (GC.seq (GC.region ?_))
 refine G.stepD (OD.move rfl rfl) rfl rfl rfl ?_
 refine G.stepD (OD.move rfl rfl) rfl rfl rfl ?_
 refine G.stepD (OD.leq rfl rfl rfl) rfl rfl rfl ?_
 refine G.nil (GE.then_ ?_)
 refine GC.cond rfl (fun hc13 => ?_) (fun hc13 => ?_)
 replace hc13 := of_decide_eq_true hc13
 have hdf : dfI kv m ≤ 30 := by rw [hkf]; exact hE.df m (by omega)
 refine GC.skip (GE.then_ (GC.seq (GC.block (GC.seq (GC.region ?_)))))
 refine G.stepD (OD.move rfl rfl) rfl rfl rfl ?_
 refine G.stepD (OD.move rfl rfl) rfl rfl rfl ?_
 refine G.stepD (OD.lookup (k := (m : Int) + 1) rfl mt61 ke3keyI rfl rfl (Ent.map (kE := keyI) (vE := valI) (l := kv) (i := 4) rfl)) rfl rfl rfl ?_
 refine G.stepD (OD.move rfl rfl) rfl rfl rfl ?_
 refine G.stepD (OD.move rfl rfl) rfl rfl rfl ?_
 refine G.stepD (OD.addI rfl rfl rfl (by omega)) rfl rfl rfl ?_
 refine G.stepD (OD.lookup (k := ((m : Int) + 1) + 1) rfl mt61 ke3keyI rfl rfl (Ent.map (kE := keyI) (vE := valI) (l := kv) (i := 4) rfl)) rfl rfl rfl ?_
 refine G.stepD (OD.eqv (OD.sub rfl rfl rfl) (congrArg (Value.int .i64) ((rfl) : (IntKind.i64.wrap (((alu ((m : Int) + 1) kv).getD 0) - ((alu (((m : Int) + 1) + 1) kv).getD 0)) : Int) = (dfI kv m)))) rfl rfl rfl ?_
 refine G.stepD (OD.move rfl rfl) rfl rfl rfl ?_
 refine G.nil (GE.then_ (GC.block ?_))
 refine GC.loop (ι := Nat × List Int × Value) (fun ⟨q, ys, w⟩ => [(3, .map (some g3)), (4, .int .i64 (t)), (8, .int .i64 ((m : Int) + 1)), (44, .int .i64 (dfI kv m)), (7, w), (45, .int .i64 ((q : Int)))]) (fun ⟨q, ys, w⟩ => ints 3 w ys :: lst 22 v4 u5 :: many (ints 3) u5 (rSt cr cd) :: mapA keyL valI g9 (rKvs cr cd) :: mapA keyI valI g3 kv :: box g1 28 [.int .i64 (cr), vcd] :: own) (fun ⟨q, ys, w⟩ => (q ≤ (dfI kv m).toNat) ∧ (ys = os ++ List.replicate q ((m : Int) + 1)) ∧ (IsS w)) (fun ⟨q, ys, w⟩ => (dfI kv m).toNat - q) (0, os, u) (⟨by omega, by simp, hu⟩) ⟨rfl, rfl, rfl, rfl, rfl, rfl, trivial⟩ [] 0 rfl ?_
 rintro ⟨q, ys, w⟩ ⟨hq, hy, hw⟩
 have hyl : ys.length = os.length + q := by rw [hy]; simp
 refine GC.seq (GC.region ?_)
 refine G.stepD (OD.lss rfl rfl rfl) rfl rfl rfl ?_
 refine G.nil (GE.then_ (GC.seq ?_))
 refine GC.cond rfl (fun hc14 => ?_) (fun hc14 => ?_)
 replace hc14 := of_decide_eq_true hc14
 refine GC.skip (GE.then_ (GC.seq (GC.block (GC.region ?_))))
 refine G.stepD (OD.move rfl rfl) rfl rfl rfl ?_
 refine G.stepD (OD.move rfl rfl) rfl rfl rfl ?_
 refine G.step (OG.buildInts (xs := [.tmp 48]) (is := [(m : Int) + 1]) rfl et22 rfl rfl rfl rfl rfl) rfl rfl rfl ?_
 rintro v15 _ ⟨hs16, rfl⟩
 refine G.step (OG.appendInts 1 rfl rfl et22 rfl rfl rfl (Ent.ints (i := 0) rfl) (by first | omega | (simp; omega))) rfl rfl rfl ?_
 rintro v17 _ ⟨hs18, rfl⟩
 refine G.stepD (OD.assign rfl rfl) rfl rfl rfl ?_
 refine G.nil (GE.blockN (GE.then_ (GC.region ?_)))
 refine G.stepD (OD.addI rfl rfl rfl (by omega)) rfl rfl rfl ?_
 refine G.stepD (OD.move rfl rfl) rfl rfl rfl ?_
 refine G.nil ?_
 exact GE.again (q + 1, ys ++ [(m : Int) + 1], v17) (⟨by omega, by rw [hy]; exact repS, hs18⟩) (by first | omega | (dsimp only; omega)) ⟨rfl, rfl, rfl, rfl, rfl, rfl, trivial⟩ [1, 1, 1, 1, 1, 1] 1 rfl
 replace hc14 := of_decide_eq_false hc14
 refine GC.exit (GE.pass (GE.pass (GE.hit (GE.blockN (GE.then_ (GC.region ?_))))))
 refine G.stepD (OD.move rfl rfl) rfl rfl rfl ?_
 refine G.stepD (OD.addI rfl rfl rfl (by omega)) rfl rfl rfl ?_
 refine G.stepD (OD.assign rfl rfl) rfl rfl rfl ?_
 refine G.nil ?_
 exact GE.again (m + 1, ys, w) (⟨by omega, fold_next hos (exI_step hy (by omega)), by omega, hw⟩) (by first | omega | (dsimp only; omega)) ⟨rfl, rfl, rfl, rfl, trivial⟩ [] 0 rfl
 replace hc13 := of_decide_eq_false hc13
 refine GC.exit (GE.pass (GE.pass (GE.hit (GE.then_ (GC.seq (GC.region ?_))))))
 refine G.stepD (OD.move rfl rfl) rfl rfl rfl ?_
 refine G.stepD (OD.assign rfl rfl) rfl rfl rfl ?_
 refine G.nil (GE.then_ (GC.ret ?_))
 exact GE.body [0] 5 (res1 rfl rfl) rfl (⟨u, rfl, hu, congrArg (fun (l0 : List Int) => ints 3 u l0 :: own) ((by rw [exOf, if_pos hS, eI, ← hkf, ← htf, show t.toNat = m by omega]; exact hos : os = exOf cr cd))⟩)

set_option maxHeartbeats 4000000 in
set_option maxRecDepth 100000 in
theorem lawExponentsOf {W : World} {own : List Asn} {cr : Int} {vcd : Value} {cd : List Int}  (scd : IsS vcd) (ecd : Ent own fun w => Ints w vcd cd)  (hcd : cd.length ≤ 9223372036854775807) (hg : Ent own fun w => ∃ m, w.cell? ⟨Tryz.l146_ren.g 1, 0, none⟩ = some (.int .i64 m)) (htab : Ent own Pow10) : Spec Tryz.prog 5 [.agg #[.int .i64 (cr), vcd]] W own (fun v ow => v = .bool (true) ∧ ow = own) := by
 have hrl := exOf_len cr cd
 refine Spec.enter Tryz.f5 _ Tryz.func5 rfl (n := 69) rfl rfl ?_
 refine GC.seq (GC.region ?_)
 refine G.step (OG.box (cs := [.int .i64 (cr), vcd]) rfl rfl rfl) rfl rfl rfl ?_
 rintro _ _ ⟨g1, rfl, rfl⟩
 refine G.stepD (OD.assign rfl rfl) rfl rfl rfl ?_
 refine G.nil (GE.then_ (GC.seq (GC.region ?_)))
 refine G.stepD (OD.assign rfl rfl) rfl rfl rfl ?_
 refine G.nil (GE.then_ (GC.seq (GC.region ?_)))
 refine G.stepD (OD.loadAgg rfl ti24 rfl (i := 0) rfl (us := [.int .i64 (cr), vcd]) rfl rfl) rfl rfl rfl ?_
 refine G.stepD (OD.move rfl rfl) rfl rfl rfl ?_
 refine G.step (OG.call [.agg #[.int .i64 (cr), vcd], .int .i64 (1048576)] ent11 rfl rfl rfl rfl (by exact (szCartan_s scd (Ent.drop 1 ecd) (by omega) (by omega)))) rfl rfl rfl ?_
 rintro _ _ ⟨rfl, rfl⟩
 refine G.stepD (OD.assign rfl rfl) rfl rfl rfl ?_
 refine G.nil (GE.then_ (GC.seq (GC.seq (GC.region ?_))))
 refine G.stepD (OD.move rfl rfl) rfl rfl rfl ?_
 refine G.stepD (OD.lss rfl rfl rfl) rfl rfl rfl ?_
 refine G.nil (GE.then_ ?_)
 refine GC.cond rfl (fun hc2 => ?_) (fun hc2 => ?_)
 replace hc2 := of_decide_eq_true hc2
 refine GC.seq (GC.region ?_)
 refine G.stepD (OD.assign rfl rfl) rfl rfl rfl ?_
 refine G.nil (GE.then_ (GC.ret (GE.passR ?_)))
 exact GE.body [] 1 (res1 rfl rfl) rfl (⟨rfl, rfl⟩)
 replace hc2 := of_decide_eq_false hc2
 have hc2z := szG_ok hc2
 refine GC.skip (GE.then_ (GC.seq (GC.region ?_)))
 refine G.stepD (OD.loadAgg rfl ti24 rfl (i := 0) rfl (us := [.int .i64 (cr), vcd]) rfl rfl) rfl rfl rfl ?_
 refine G.step (OG.call [.agg #[.int .i64 (cr), vcd]] ent13 rfl rfl rfl rfl (by exact (toCartan_s scd (Ent.drop 1 ecd) (by omega)))) rfl rfl rfl ?_
 rintro _ _ ⟨v3, rfl, hs4, rfl⟩
 refine G.step (OG.call [.agg #[.int .i64 (cr), v3]] ent23 rfl rfl rfl rfl (by exact (specExponentsOf_w hs4 (Ent.ints (i := 0) rfl) (by omega)))) rfl rfl rfl ?_
 rintro v5 _ ⟨_, rfl, hs6, rfl⟩
 refine G.stepD (OD.assign rfl rfl) rfl rfl rfl ?_
 refine G.nil (GE.then_ (GC.seq (GC.region ?_)))
 refine G.stepD (OD.loadAgg rfl ti24 rfl (i := 2) rfl (us := [.int .i64 (cr), vcd]) rfl rfl) rfl rfl rfl ?_
 refine G.step (OG.call [.agg #[.int .i64 (cr), vcd]] ent13 rfl rfl rfl rfl (by exact (toCartan_s scd (Ent.drop 3 ecd) (by omega)))) rfl rfl rfl ?_
 rintro _ _ ⟨v7, rfl, hs8, rfl⟩
 refine G.step (OG.alloc rfl ti28 (zs := [.int .i64 (0), .slice none 0 0]) rfl) rfl rfl rfl ?_
 rintro _ _ ⟨g9, rfl, rfl⟩
 refine G.stepD0 (OD.store rfl ti28 rfl rfl (us := [.int .i64 (cr), v7]) rfl rfl (allC rfl (allC (IsS.one hs8) rfl)) (i := 0) rfl rfl) rfl rfl ?_
 refine G.nil (GE.then_ (GC.seq (GC.region ?_)))
 refine G.stepD (OD.loadAgg rfl ti28 rfl (i := 0) rfl (us := [.int .i64 (cr), v7]) rfl rfl) rfl rfl rfl ?_
 refine G.step (OG.call [.agg #[.int .i64 (cr), v7]] ent24 rfl rfl rfl rfl (by exact (exponentsOf_w hs8 (Ent.ints (i := 1) rfl) (by omega) ((Ent.drop 5 hg)) ((Ent.drop 5 htab))))) rfl rfl rfl ?_
 rintro v10 _ ⟨_, rfl, hs11, rfl⟩
 refine G.stepD (OD.assign rfl rfl) rfl rfl rfl ?_
 refine G.nil (GE.then_ (GC.seq (GC.seq (GC.region ?_))))
 refine G.stepD (OD.move rfl rfl) rfl rfl rfl ?_
 refine G.stepD (OD.move rfl rfl) rfl rfl rfl ?_
 refine G.step (OG.call [v10, v5] ent15 rfl rfl rfl rfl (by exact (eqIntS_same hs11 (Ent.ints (i := 0) rfl) hs6 (Ent.ints (i := 3) rfl) (by omega)))) rfl rfl rfl ?_
 rintro _ _ ⟨rfl, rfl⟩
 refine G.stepD (OD.not rfl rfl) rfl rfl rfl ?_
 refine G.nil (GE.then_ (GC.condF rfl (GC.skip (GE.then_ (GC.seq (GC.seq ?_))))))
 refine GC.at [] 0 (env' := [(1, .pointer (some ⟨g1, 0, none⟩)), (4, v5), (5, .pointer (some ⟨g9, 0, none⟩)), (6, v10)]) ⟨rfl, rfl, rfl, rfl, trivial⟩ rfl ?_
 refine GC.par (its := [⟨27, [], [], [], [], fun _ => .agg #[.int .i64 (cr), v7], fun _ => True, fun _ => []⟩,
     ⟨28, [], [], [], [], fun _ => .agg #[.int .i64 (cr), vcd], fun _ => True, fun _ => []⟩,
     ⟨29, [(1, 28)], [], [], [2], fun ds => .agg #[.int .i64 (cr), ((ds.getD 0 []).getD 0 undef)], fun ds => IsS ((ds.getD 0 []).getD 0 undef), fun ds => [ints 3 ((ds.getD 0 []).getD 0 undef) cd]⟩,
     ⟨30, [(0, 27), (2, 29)], [2], [], [2], fun _ => .bool true, fun _ => True, fun _ => []⟩,
     ⟨31, [(3, 30)], [2], [], [2], fun _ => .bool false, fun _ => True, fun _ => []⟩]) (by kernel_rfl) (by kernel_rfl) (POps.cons ?_ (POps.cons ?_ (POps.cons ?_ (POps.cons ?_ (POps.cons ?_ POps.nil))))) ?_
 intro θ R hd
 exact Opp.plain (OG.imp (OD.loadAgg rfl ti28 rfl (i := 1) rfl (us := [.int .i64 (cr), v7]) rfl rfl) (by rintro _ _ ⟨rfl, rfl⟩; exact ⟨[], rfl, trivial, rfl⟩)) rfl
 intro θ R hd
 exact Opp.plain (OG.imp (OD.loadAgg rfl ti24 rfl (i := 5) rfl (us := [.int .i64 (cr), vcd]) rfl rfl) (by rintro _ _ ⟨rfl, rfl⟩; exact ⟨[], rfl, trivial, rfl⟩)) rfl
 intro θ R hd
 obtain ⟨h1d, _⟩ := hd
 exact Opp.plain (OG.imp (OG.call [.agg #[.int .i64 (cr), vcd]] ent13 rfl rfl rfl rfl (by exact (toCartan_s scd (Ent.drop 6 ecd.app) (by omega)))) (by rintro _ _ ⟨v12, rfl, hs13, rfl⟩; exact ⟨[v12], rfl, hs13, rfl⟩)) rfl
 intro θ R hd
 obtain ⟨h0d, h2d, _⟩ := hd
 exact Opp.plain (OG.imp (OG.call [.agg #[.int .i64 (cr), v7], .agg #[.int .i64 (cr), ((θ 2).getD 0 undef)]] ent16 rfl rfl rfl rfl (by exact (eqCartan_same hs8 (Ent.ints (i := 3) rfl) h2d (Ent.ints (i := 0) rfl) (by omega)))) (by rintro _ _ ⟨rfl, rfl⟩; exact ⟨[], rfl, trivial, rfl⟩)) rfl
 intro θ R hd
 obtain ⟨h3d, _⟩ := hd
 exact Opp.plain (OG.imp (OD.not rfl rfl) (by rintro _ _ ⟨rfl, rfl⟩; exact ⟨[], rfl, trivial, rfl⟩)) rfl
 intro θ hall
 obtain ⟨_, _, h2a, _, _, _⟩ := hall
 refine G.at [] 0 (env' := [(1, .pointer (some ⟨g1, 0, none⟩)), (4, v5), (5, .pointer (some ⟨g9, 0, none⟩)), (6, v10), (31, .bool false)]) ⟨rfl, rfl, rfl, rfl, rfl, trivial⟩ (own' := ints 3 ((θ 2).getD 0 undef) cd :: ints 3 v10 (exOf cr cd) :: box g9 28 [.int .i64 (cr), v7] :: ints 3 v7 cd :: ints 3 v5 (exOf cr cd) :: ints 3 v3 cd :: box g1 24 [.int .i64 (cr), vcd] :: own) rfl ?_
 have hs14 : IsS ((θ 2).getD 0 undef) := h2a
 clear h2a
 generalize ((θ 2).getD 0 undef) = v15 at *
 show G _ _ _ [] _ _ _ _
 refine G.nil (GE.then_ (GC.condF rfl (GC.skip (GE.then_ (GC.seq (GC.region ?_))))))
 refine G.stepD (OD.assign rfl rfl) rfl rfl rfl ?_
 refine G.nil (GE.then_ (GC.seq (GC.region ?_)))
 refine G.stepD (OD.loadAgg rfl ti28 rfl (i := 2) rfl (us := [.int .i64 (cr), v7]) rfl rfl) rfl rfl rfl ?_
 refine G.stepD (OD.move rfl rfl) rfl rfl rfl ?_
 refine G.at [3] 0 (env' := [(1, .pointer (some ⟨g1, 0, none⟩)), (4, v5), (5, .pointer (some ⟨g9, 0, none⟩)), (6, v10), (31, .bool false), (7, .int .i64 (1)), (32, .agg #[.int .i64 (cr), v7]), (33, .int .i64 (1))]) ⟨rfl, rfl, rfl, rfl, rfl, rfl, rfl, rfl, trivial⟩ (own' := ints 3 v7 cd :: ints 3 v15 cd :: ints 3 v10 (exOf cr cd) :: box g9 28 [.int .i64 (cr), v7] :: ints 3 v5 (exOf cr cd) :: ints 3 v3 cd :: box g1 24 [.int .i64 (cr), vcd] :: own) rfl ?_
 refine G.step (OG.call [.agg #[.int .i64 (cr), v7], .int .i64 (1)] ent17 rfl rfl rfl rfl (by exact (markCartan_s hs8 (by omega) (by omega)))) rfl rfl rfl ?_
 rintro _ _ ⟨rfl, rfl⟩
 refine G.stepD (OD.assign rfl rfl) rfl rfl rfl ?_
 refine G.nil (GE.then_ (GC.seq (GC.seq (GC.region ?_))))
 refine G.stepD (OD.move rfl rfl) rfl rfl rfl ?_
 refine G.stepD (OD.eqv (OD.lss rfl rfl rfl) (congrArg Value.bool ((decide_eq_false (by omega)) : _ = false))) rfl rfl rfl ?_
 refine G.stepD (OD.move rfl rfl) rfl rfl rfl ?_
 refine G.stepGD (OD.move rfl rfl) rfl rfl rfl rfl rfl ?_
 refine G.stepGD (OD.move rfl rfl) rfl rfl rfl rfl rfl ?_
 refine G.stepG (OG.call [v10, v5] ent15 rfl rfl rfl rfl (by exact (eqIntS_same hs11 (Ent.ints (i := 2) rfl) hs6 (Ent.ints (i := 4) rfl) (by omega)))) rfl rfl rfl rfl rfl ?_
 rintro _ _ ⟨rfl, rfl⟩
 refine G.stepGD (OD.not rfl rfl) rfl rfl rfl rfl rfl ?_
 refine G.stepD (OD.pickF rfl rfl rfl) rfl rfl rfl ?_
 refine G.nil (GE.then_ (GC.condF rfl (GC.skip (GE.then_ (GC.seq (GC.region ?_))))))
 refine G.stepD (OD.assign rfl rfl) rfl rfl rfl ?_
 refine G.nil (GE.then_ (GC.seq (GC.region ?_)))
 refine G.stepD (OD.move rfl rfl) rfl rfl rfl ?_
 refine G.stepD (OD.move rfl rfl) rfl rfl rfl ?_
 refine G.at [2] 0 (env' := [(1, .pointer (some ⟨g1, 0, none⟩)), (4, v5), (5, .pointer (some ⟨g9, 0, none⟩)), (6, v10), (31, .bool false), (32, .agg #[.int .i64 (cr), v7]), (33, .int .i64 (1)), (34, .int .i64 (1 + (cd.length : Nat))), (7, .int .i64 (1 + (cd.length : Nat))), (35, .int .i64 (1 + (cd.length : Nat))), (36, .bool false), (37, .bool false), (38, v10), (39, v5), (40, .bool true), (41, .bool false), (42, .bool false), (8, .int .i64 (1)), (43, v10), (44, .int .i64 (1))]) ⟨rfl, rfl, rfl, rfl, rfl, rfl, rfl, rfl, rfl, rfl, rfl, rfl, rfl, rfl, rfl, rfl, rfl, rfl, rfl, rfl, trivial⟩ (own' := ints 3 v10 (exOf cr cd) :: ints 3 v7 (mkd 1 cd.length) :: ints 3 v15 cd :: box g9 28 [.int .i64 (cr), v7] :: ints 3 v5 (exOf cr cd) :: ints 3 v3 cd :: box g1 24 [.int .i64 (cr), vcd] :: own) rfl ?_
 refine G.step (OG.call [v10, .int .i64 (1)] ent18 rfl rfl rfl rfl (by exact (markIntS_s hs11 (by omega) (by omega)))) rfl rfl rfl ?_
 rintro _ _ ⟨rfl, rfl⟩
 refine G.stepD (OD.assign rfl rfl) rfl rfl rfl ?_
 refine G.nil (GE.then_ (GC.seq (GC.region ?_)))
 refine G.stepD (OD.assign rfl rfl) rfl rfl rfl ?_
 refine G.nil (GE.then_ (GC.seq (GC.region ?_)))
 refine G.stepD (OD.move rfl rfl) rfl rfl rfl ?_
 refine G.stepD (OD.move rfl rfl) rfl rfl rfl ?_
 refine G.step (OG.call [v10, .int .i64 (1)] ent19 rfl rfl rfl rfl (by exact (heldIntS_m hs11 (Ent.ints (i := 0) rfl) (by omega) (by omega)))) rfl rfl rfl ?_
 rintro _ _ ⟨rfl, rfl⟩
 refine G.stepD (OD.assign rfl rfl) rfl rfl rfl ?_
 refine G.nil (GE.then_ (GC.seq (GC.seq (GC.region ?_))))
 refine G.stepD (OD.move rfl rfl) rfl rfl rfl ?_
 refine G.stepD (OD.eqv (OD.lss rfl rfl rfl) (congrArg Value.bool ((decide_eq_false (by omega)) : _ = false))) rfl rfl rfl ?_
 refine G.nil (GE.then_ (GC.condF rfl (GC.skip (GE.then_ (GC.seq (GC.seq (GC.region ?_)))))))
 refine G.stepD (OD.move rfl rfl) rfl rfl rfl ?_
 refine G.stepD (OD.move rfl rfl) rfl rfl rfl ?_
 refine G.stepD (OD.eqv (OD.neq rfl rfl rfl) (congrArg Value.bool ((bne_same _) : _ = false))) rfl rfl rfl ?_
 refine G.nil (GE.then_ (GC.condF rfl (GC.skip (GE.then_ (GC.seq (GC.region ?_))))))
 refine G.stepD (OD.loadAgg rfl ti24 rfl (i := 6) rfl (us := [.int .i64 (cr), vcd]) rfl rfl) rfl rfl rfl ?_
 refine G.step (OG.call [.agg #[.int .i64 (cr), vcd]] ent13 rfl rfl rfl rfl (by exact (toCartan_s scd (Ent.drop 7 ecd) (by omega)))) rfl rfl rfl ?_
 rintro _ _ ⟨v16, rfl, hs17, rfl⟩
 refine G.step (OG.call [.agg #[.int .i64 (cr), v16]] ent24 rfl rfl rfl rfl (by exact (exponentsOf_w hs17 (Ent.ints (i := 0) rfl) (by omega) ((Ent.drop 8 hg)) ((Ent.drop 8 htab))))) rfl rfl rfl ?_
 rintro v18 _ ⟨_, rfl, hs19, rfl⟩
 refine G.stepD (OD.assign rfl rfl) rfl rfl rfl ?_
 refine G.nil (GE.then_ (GC.seq (GC.seq (GC.region ?_))))
 refine G.stepD (OD.move rfl rfl) rfl rfl rfl ?_
 refine G.stepD (OD.move rfl rfl) rfl rfl rfl ?_
 refine G.step (OG.call [v18, v5] ent15 rfl rfl rfl rfl (by exact (eqIntS_same hs19 (Ent.ints (i := 0) rfl) hs6 (Ent.ints (i := 6) rfl) (by omega)))) rfl rfl rfl ?_
 rintro _ _ ⟨rfl, rfl⟩
 refine G.stepD (OD.not rfl rfl) rfl rfl rfl ?_
 refine G.nil (GE.then_ (GC.condF rfl (GC.skip (GE.then_ (GC.seq (GC.region ?_))))))
 refine G.stepD (OD.assign rfl rfl) rfl rfl rfl ?_
 refine G.nil (GE.then_ (GC.seq (GC.region ?_)))
 refine G.stepD (OD.move rfl rfl) rfl rfl rfl ?_
 refine G.stepD (OD.move rfl rfl) rfl rfl rfl ?_
 refine G.step (OG.call [v10, .int .i64 (1)] ent19 rfl rfl rfl rfl (by exact (heldIntS_m hs11 (Ent.ints (i := 2) rfl) (by omega) (by omega)))) rfl rfl rfl ?_
 rintro _ _ ⟨rfl, rfl⟩
 refine G.stepD (OD.assign rfl rfl) rfl rfl rfl ?_
 refine G.nil (GE.then_ (GC.seq (GC.seq (GC.region ?_))))
 refine G.stepD (OD.move rfl rfl) rfl rfl rfl ?_
 refine G.stepD (OD.eqv (OD.lss rfl rfl rfl) (congrArg Value.bool ((decide_eq_false (by omega)) : _ = false))) rfl rfl rfl ?_
 refine G.nil (GE.then_ (GC.condF rfl (GC.skip (GE.then_ (GC.seq (GC.seq (GC.region ?_)))))))
 refine G.stepD (OD.move rfl rfl) rfl rfl rfl ?_
 refine G.stepD (OD.move rfl rfl) rfl rfl rfl ?_
 refine G.stepD (OD.eqv (OD.neq rfl rfl rfl) (congrArg Value.bool ((bne_same _) : _ = false))) rfl rfl rfl ?_
 refine G.nil (GE.then_ (GC.condF rfl (GC.skip (GE.then_ (GC.seq (GC.region ?_))))))
 refine G.stepD (OD.assign rfl rfl) rfl rfl rfl ?_
 refine G.nil (GE.then_ (GC.ret ?_))
 exact GE.body [] 9 (res1 rfl rfl) rfl (⟨rfl, rfl⟩)

end Go.Proofs.YteflhcbnajeooaaGreatDoor
