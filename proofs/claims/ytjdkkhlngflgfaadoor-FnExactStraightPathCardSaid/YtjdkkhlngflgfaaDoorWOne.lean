/-
  The matrix of one part as the second text writes it; blocks joined.
-/
import Derived.Test.YtjdkkhlngflgfaaDoorFct
import Derived.Test.YtjdkkhlngflgfaaDoorWPart
namespace Go.Proofs.YtjdkkhlngflgfaaDoor
set_option linter.unusedVariables false
set_option linter.unusedSimpArgs false
open Go.RowKit



set_option maxRecDepth 100000 in
theorem l5One_w {W : World} {own : List Asn} {s : ByteArray}  {k : Nat} (hk12 : k < 12) (hse : s = nameB k) : Spec Tryd.prog 35 [.string (s)] W own (fun v ow => ∃ (r1 : Value), v = .agg #[.int .i64 ((rk k : Int)), r1] ∧ IsS r1 ∧ ow = ints 3 r1 (oneD k) :: own) := by
 have hrk := rk_bd k hk12
 have hsz : s.size = 2 := by rw [hse]; exact nm_sz k hk12
 have hN0 : 0 ≤ (rk k : Int) * (rk k : Int) := Int.mul_nonneg (by omega) (by omega)
 have hN1 : (rk k : Int) * (rk k : Int) ≤ 4 * 4 := Int.mul_le_mul (by omega) (by omega) (by omega) (by omega)
 refine Spec.enter Tryd.f35 _ Tryd.func35 rfl (n := 118) rfl rfl ?_
 refine GC.seq (GC.region ?_)
 refine G.step (OG.alloc rfl ti28 (zs := [.int .i64 (0), .slice none 0 0]) rfl) rfl rfl rfl ?_
 rintro _ _ ⟨g1, rfl, rfl⟩
 refine G.nil (GE.then_ (GC.seq (GC.region ?_)))
 refine G.stepD (OD.move rfl rfl) rfl rfl rfl ?_
 refine G.stepD (OD.indexStr rfl st9 rfl rfl (by omega)) rfl rfl rfl ?_
 refine G.stepD (OD.eqv (OD.sub rfl rfl rfl) (congrArg (Value.int .u8) ((by rw [hse]; exact nm_rk k hk12) : (IntKind.u8.wrap ((bAt s 1) - 48) : Int) = ((rk k : Int))))) rfl rfl rfl ?_
 refine G.stepD (OD.convI rfl cv5_3 rfl (by omega)) rfl rfl rfl ?_
 refine G.stepD (OD.assign rfl rfl) rfl rfl rfl ?_
 refine G.nil (GE.then_ (GC.seq (GC.region ?_)))
 refine G.stepD (OD.move rfl rfl) rfl rfl rfl ?_
 refine G.stepD (OD.move rfl rfl) rfl rfl rfl ?_
 refine G.stepD (OD.move rfl rfl) rfl rfl rfl ?_
 refine G.stepD (OD.mulI rfl rfl rfl (by omega)) rfl rfl rfl ?_
 refine G.step (OG.makeInts rfl et22 rfl rfl (by omega)) rfl rfl rfl ?_
 rintro v2 _ ⟨hs3, rfl⟩
 refine G.stepD (OD.build (idx := [0, 1]) (xs := [.tmp 11, .tmp 15]) (vs := [.int .i64 ((rk k : Int)), v2]) (cs := [[.int .i64 ((rk k : Int))], [v2]]) (zs := [.int .i64 (0), .slice none 0 0]) (r := [.int .i64 ((rk k : Int)), v2]) rfl ti28 rfl rfl rfl ⟨rfl, ⟨(one_cells (IsS.one hs3)), trivial⟩⟩ rfl) rfl rfl rfl ?_
 refine G.step (OG.alloc rfl ti28 (zs := [.int .i64 (0), .slice none 0 0]) rfl) rfl rfl rfl ?_
 rintro _ _ ⟨g4, rfl, rfl⟩
 refine G.stepD0 (OD.store rfl ti28 rfl rfl (us := [.int .i64 ((rk k : Int)), v2]) rfl rfl (allC rfl (allC (IsS.one hs3) rfl)) (i := 0) rfl rfl) rfl rfl ?_
 refine G.nil (GE.then_ (GC.seq (GC.seq (GC.region ?_))))
 refine G.stepD (OD.assign rfl rfl) rfl rfl rfl ?_
 refine G.nil (GE.then_ (GC.block ?_))
 refine GC.loop (ι := Nat × List Int) (fun ⟨q, ys⟩ => [(0, .string (s)), (2, .pointer (some ⟨g1, 0, none⟩)), (3, .int .i64 ((rk k : Int))), (4, .pointer (some ⟨g4, 0, none⟩)), (5, .int .i64 ((q : Int)))]) (fun ⟨q, ys⟩ => box g4 28 [.int .i64 ((rk k : Int)), v2] :: ints 3 v2 ys :: box g1 28 [.int .i64 (0), .slice none 0 0] :: own) (fun ⟨q, ys⟩ => (q ≤ rk k) ∧ ((ys.length : Int) = (rk k : Int) * (rk k : Int)) ∧ (ys = (List.range q).foldl (itS k) (List.replicate ((rk k : Int) * (rk k : Int)).toNat 0))) (fun ⟨q, ys⟩ => rk k - q) (0, List.replicate ((rk k : Int) * (rk k : Int)).toNat 0) (⟨by omega, by rw [List.length_replicate]; omega, rfl⟩) ⟨rfl, rfl, rfl, rfl, rfl, trivial⟩ [] 0 rfl ?_
 rintro ⟨q, ys⟩ ⟨hq, hyl, hy⟩
 refine GC.seq (GC.seq (GC.region ?_))
 refine G.stepD (OD.move rfl rfl) rfl rfl rfl ?_
 refine G.stepD (OD.move rfl rfl) rfl rfl rfl ?_
 refine G.stepD (OD.lss rfl rfl rfl) rfl rfl rfl ?_
 refine G.nil (GE.then_ ?_)
 refine GC.cond rfl (fun hc5 => ?_) (fun hc5 => ?_)
 replace hc5 := of_decide_eq_true hc5
 have hx := idx_bd (n := (rk k : Int)) (i := q) (j := q) ⟨by omega, by omega⟩ ⟨by omega, by omega⟩ (by omega)
 refine GC.skip (GE.then_ (GC.seq (GC.block (GC.seq (GC.region ?_)))))
 refine G.stepD (OD.fieldAddr rfl rfl fa28_1) rfl rfl rfl ?_
 refine G.stepD (OD.load rfl ti22 rfl (i := 0) rfl rfl) rfl rfl rfl ?_
 refine G.stepD (OD.move rfl rfl) rfl rfl rfl ?_
 refine G.stepD (OD.move rfl rfl) rfl rfl rfl ?_
 refine G.stepD (OD.mulI rfl rfl rfl (by omega)) rfl rfl rfl ?_
 refine G.stepD (OD.move rfl rfl) rfl rfl rfl ?_
 refine G.stepD (OD.addI rfl rfl rfl (by omega)) rfl rfl rfl ?_
 refine G.stepD (OD.indexAddr rfl et22 rfl (Ent.ints (i := 1) rfl) rfl (by omega)) rfl rfl rfl ?_
 refine G.stepD0 (OD.storeInt rfl ti3 rfl rfl (i := 1) rfl (by omega)) rfl rfl ?_
 refine G.nil (GE.then_ (GC.seq (GC.region ?_)))
 refine G.stepD (OD.move rfl rfl) rfl rfl rfl ?_
 refine G.stepD (OD.addI rfl rfl rfl (by first | omega | (simp only [List.length_set, List.length_replicate]; omega))) rfl rfl rfl ?_
 refine G.stepD (OD.move rfl rfl) rfl rfl rfl ?_
 refine G.stepD (OD.lss rfl rfl rfl) rfl rfl rfl ?_
 refine G.stepD (OD.move rfl rfl) rfl rfl rfl ?_
 rcases Bool.eq_false_or_eq_true (decide ((q : Int) + 1 < (rk k : Int))) with hg6 | hg6
 have hg6e := hg6
 refine G.at [] 0 (env' := [(0, .string (s)), (2, .pointer (some ⟨g1, 0, none⟩)), (3, .int .i64 ((rk k : Int))), (4, .pointer (some ⟨g4, 0, none⟩)), (5, .int .i64 ((q : Int))), (17, .int .i64 ((q : Int))), (18, .int .i64 ((rk k : Int))), (19, .bool (decide ((q : Int) < (rk k : Int)))), (22, .pointer (some ⟨g4, 1, none⟩)), (23, v2), (24, .int .i64 ((q : Int))), (25, .int .i64 ((rk k : Int))), (26, .int .i64 ((q : Int) * (rk k : Int))), (27, .int .i64 ((q : Int))), (28, .int .i64 (((q : Int) * (rk k : Int)) + (q : Int))), (29, elemPtr v2 1 ((((q : Int) * (rk k : Int)) + (q : Int) : Int).toNat)), (30, .int .i64 ((q : Int))), (31, .int .i64 ((q : Int) + 1)), (32, .int .i64 ((rk k : Int))), (33, .bool true), (34, .bool true)]) (⟨rfl, rfl, rfl, rfl, rfl, rfl, rfl, rfl, rfl, rfl, rfl, rfl, rfl, rfl, rfl, rfl, rfl, rfl, rfl, (congrArg (fun b => some (Value.bool b)) hg6e), (congrArg (fun b => some (Value.bool b)) hg6e), trivial⟩) rfl ?_
 replace hg6 := of_decide_eq_true hg6
 refine G.stepGD (OD.move rfl rfl) rfl rfl rfl rfl rfl ?_
 refine G.stepGD (OD.indexStr rfl st9 rfl rfl (by first | omega | (simp only [List.length_set, List.length_replicate]; omega))) rfl rfl rfl rfl rfl ?_
 refine G.stepGD (OD.eqv (OD.neq rfl rfl rfl) (congrArg (Value.bool) ((by rw [hse]; exact nm_D k hk12) : _ = (k != 9)))) rfl rfl rfl rfl rfl ?_
 refine G.stepD (OD.pickT rfl rfl rfl) rfl rfl rfl ?_
 refine G.nil (GE.then_ ?_)
 refine GC.cond rfl (fun hc7 => ?_) (fun hc7 => ?_)
 have hx2 := idx_bd (n := (rk k : Int)) (i := q) (j := (q : Int) + 1) ⟨by omega, by omega⟩ ⟨by omega, by omega⟩ (by omega)
 have hx3 := idx_bd (n := (rk k : Int)) (i := (q : Int) + 1) (j := q) ⟨by omega, by omega⟩ ⟨by omega, by omega⟩ (by omega)
 refine GC.seq (GC.region ?_)
 refine G.stepD (OD.fieldAddr rfl rfl fa28_1) rfl rfl rfl ?_
 refine G.stepD (OD.load rfl ti22 rfl (i := 0) rfl rfl) rfl rfl rfl ?_
 refine G.stepD (OD.move rfl rfl) rfl rfl rfl ?_
 refine G.stepD (OD.move rfl rfl) rfl rfl rfl ?_
 refine G.stepD (OD.mulI rfl rfl rfl (by first | omega | (simp only [List.length_set, List.length_replicate]; omega))) rfl rfl rfl ?_
 refine G.stepD (OD.move rfl rfl) rfl rfl rfl ?_
 refine G.stepD (OD.addI rfl rfl rfl (by first | omega | (simp only [List.length_set, List.length_replicate]; omega))) rfl rfl rfl ?_
 refine G.stepD (OD.addI rfl rfl rfl (by first | omega | (simp only [List.length_set, List.length_replicate]; omega))) rfl rfl rfl ?_
 refine G.stepD (OD.indexAddr rfl et22 rfl (Ent.ints (i := 1) rfl) rfl (by first | omega | (simp only [List.length_set, List.length_replicate]; omega))) rfl rfl rfl ?_
 refine G.stepD0 (OD.storeInt rfl ti3 rfl rfl (i := 1) rfl (by first | omega | (simp only [List.length_set, List.length_replicate]; omega))) rfl rfl ?_
 refine G.nil (GE.then_ (GC.region ?_))
 refine G.stepD (OD.fieldAddr rfl rfl fa28_1) rfl rfl rfl ?_
 refine G.stepD (OD.load rfl ti22 rfl (i := 0) rfl rfl) rfl rfl rfl ?_
 refine G.stepD (OD.move rfl rfl) rfl rfl rfl ?_
 refine G.stepD (OD.addI rfl rfl rfl (by first | omega | (simp only [List.length_set, List.length_replicate]; omega))) rfl rfl rfl ?_
 refine G.stepD (OD.move rfl rfl) rfl rfl rfl ?_
 refine G.stepD (OD.mulI rfl rfl rfl (by first | omega | (simp only [List.length_set, List.length_replicate]; omega))) rfl rfl rfl ?_
 refine G.stepD (OD.move rfl rfl) rfl rfl rfl ?_
 refine G.stepD (OD.addI rfl rfl rfl (by first | omega | (simp only [List.length_set, List.length_replicate]; omega))) rfl rfl rfl ?_
 refine G.stepD (OD.indexAddr rfl et22 rfl (Ent.ints (i := 1) rfl) rfl (by first | omega | (simp only [List.length_set, List.length_replicate]; omega))) rfl rfl rfl ?_
 refine G.stepD0 (OD.storeInt rfl ti3 rfl rfl (i := 1) rfl (by first | omega | (simp only [List.length_set, List.length_replicate]; omega))) rfl rfl ?_
 refine G.nil (GE.blockN (GE.then_ (GC.region ?_)))
 refine G.stepD (OD.move rfl rfl) rfl rfl rfl ?_
 refine G.stepD (OD.addI rfl rfl rfl (by first | omega | (simp only [List.length_set, List.length_replicate]; omega))) rfl rfl rfl ?_
 refine G.stepD (OD.assign rfl rfl) rfl rfl rfl ?_
 refine G.nil ?_
 exact GE.again (q + 1, (((ys).set ((((q : Int) * (rk k : Int)) + (q : Int) : Int).toNat) (2)).set (((((q : Int) * (rk k : Int)) + (q : Int)) + 1 : Int).toNat) (-1)).set (((((q : Int) + 1) * (rk k : Int)) + (q : Int) : Int).toNat) (-1)) (⟨by omega, by simp only [List.length_set]; exact hyl, fold_next hy (by unfold itS; by_cases h9 : k = 9 <;> by_cases hlt : (q : Int) + 1 < rk k <;> first | (rw [if_pos ⟨hlt, h9⟩]; done) | (rw [if_neg (fun hh => hh.2 h9)]; done) | (rw [if_neg (fun hh => hlt hh.1)]; done) | (exfalso; omega) | (exfalso; simp_all; done))⟩) (by first | omega | (dsimp only; omega)) ⟨rfl, rfl, rfl, rfl, rfl, trivial⟩ [] 0 rfl
 refine GC.skip (GE.blockN (GE.then_ (GC.region ?_)))
 refine G.stepD (OD.move rfl rfl) rfl rfl rfl ?_
 refine G.stepD (OD.addI rfl rfl rfl (by first | omega | (simp only [List.length_set, List.length_replicate]; omega))) rfl rfl rfl ?_
 refine G.stepD (OD.assign rfl rfl) rfl rfl rfl ?_
 refine G.nil ?_
 exact GE.again (q + 1, (ys).set ((((q : Int) * (rk k : Int)) + (q : Int) : Int).toNat) (2)) (⟨by omega, by simp only [List.length_set]; exact hyl, fold_next hy (by unfold itS; by_cases h9 : k = 9 <;> by_cases hlt : (q : Int) + 1 < rk k <;> first | (rw [if_pos ⟨hlt, h9⟩]; done) | (rw [if_neg (fun hh => hh.2 h9)]; done) | (rw [if_neg (fun hh => hlt hh.1)]; done) | (exfalso; omega) | (exfalso; simp_all; done))⟩) (by first | omega | (dsimp only; omega)) ⟨rfl, rfl, rfl, rfl, rfl, trivial⟩ [] 0 rfl
 have hg6e := hg6
 refine G.at [] 0 (env' := [(0, .string (s)), (2, .pointer (some ⟨g1, 0, none⟩)), (3, .int .i64 ((rk k : Int))), (4, .pointer (some ⟨g4, 0, none⟩)), (5, .int .i64 ((q : Int))), (17, .int .i64 ((q : Int))), (18, .int .i64 ((rk k : Int))), (19, .bool (decide ((q : Int) < (rk k : Int)))), (22, .pointer (some ⟨g4, 1, none⟩)), (23, v2), (24, .int .i64 ((q : Int))), (25, .int .i64 ((rk k : Int))), (26, .int .i64 ((q : Int) * (rk k : Int))), (27, .int .i64 ((q : Int))), (28, .int .i64 (((q : Int) * (rk k : Int)) + (q : Int))), (29, elemPtr v2 1 ((((q : Int) * (rk k : Int)) + (q : Int) : Int).toNat)), (30, .int .i64 ((q : Int))), (31, .int .i64 ((q : Int) + 1)), (32, .int .i64 ((rk k : Int))), (33, .bool false), (34, .bool false)]) (⟨rfl, rfl, rfl, rfl, rfl, rfl, rfl, rfl, rfl, rfl, rfl, rfl, rfl, rfl, rfl, rfl, rfl, rfl, rfl, (congrArg (fun b => some (Value.bool b)) hg6e), (congrArg (fun b => some (Value.bool b)) hg6e), trivial⟩) rfl ?_
 replace hg6 := of_decide_eq_false hg6
 refine G.skipG rfl rfl rfl rfl rfl rfl (G.skipG rfl rfl rfl rfl rfl rfl (G.skipG rfl rfl rfl rfl rfl rfl ?_))
 refine G.stepD (OD.pickF rfl rfl rfl) rfl rfl rfl ?_
 refine G.nil (GE.then_ (GC.condF rfl (GC.skip (GE.blockN (GE.then_ (GC.region ?_))))))
 refine G.stepD (OD.move rfl rfl) rfl rfl rfl ?_
 refine G.stepD (OD.addI rfl rfl rfl (by first | omega | (simp only [List.length_set, List.length_replicate]; omega))) rfl rfl rfl ?_
 refine G.stepD (OD.assign rfl rfl) rfl rfl rfl ?_
 refine G.nil ?_
 exact GE.again (q + 1, (ys).set ((((q : Int) * (rk k : Int)) + (q : Int) : Int).toNat) (2)) (⟨by omega, by simp only [List.length_set]; exact hyl, fold_next hy (by unfold itS; by_cases h9 : k = 9 <;> by_cases hlt : (q : Int) + 1 < rk k <;> first | (rw [if_pos ⟨hlt, h9⟩]; done) | (rw [if_neg (fun hh => hh.2 h9)]; done) | (rw [if_neg (fun hh => hlt hh.1)]; done) | (exfalso; omega) | (exfalso; simp_all; done))⟩) (by first | omega | (dsimp only; omega)) ⟨rfl, rfl, rfl, rfl, rfl, trivial⟩ [] 0 rfl
 replace hc5 := of_decide_eq_false hc5
 refine GC.exit (GE.pass (GE.pass (GE.hit (GE.then_ (GC.seq (GC.seq (GC.region ?_)))))))
 refine G.stepD (OD.move rfl rfl) rfl rfl rfl ?_
 refine G.stepD (OD.indexStr rfl st9 rfl rfl (by omega)) rfl rfl rfl ?_
 refine G.nil (GE.then_ (GC.block (GC.seq (GC.region ?_))))
 refine G.stepD (OD.eql rfl rfl rfl) rfl rfl rfl ?_
 refine G.stepD (OD.assign rfl rfl) rfl rfl rfl ?_
 refine G.nil (GE.then_ ?_)
 refine GC.cond rfl (fun hc8 => ?_) (fun hc8 => ?_)
 replace hc8 := eq_of_beq hc8
 have hbb : bAt (nameB k) 0 = 66 := by rw [← hse]; exact hc8
 have hr2 := rk_B k hk12 hbb
 have hx2 := idx_bd (n := (rk k : Int)) (i := (rk k : Int) - 1) (j := (rk k : Int) - 2) ⟨by omega, by omega⟩ ⟨by omega, by omega⟩ (by omega)
 refine GC.region ?_
 refine G.stepD (OD.fieldAddr rfl rfl fa28_1) rfl rfl rfl ?_
 refine G.stepD (OD.load rfl ti22 rfl (i := 0) rfl rfl) rfl rfl rfl ?_
 refine G.stepD (OD.move rfl rfl) rfl rfl rfl ?_
 refine G.stepD (OD.subI rfl rfl rfl (by omega)) rfl rfl rfl ?_
 refine G.stepD (OD.move rfl rfl) rfl rfl rfl ?_
 refine G.stepD (OD.mulI rfl rfl rfl (by omega)) rfl rfl rfl ?_
 refine G.stepD (OD.move rfl rfl) rfl rfl rfl ?_
 refine G.stepD (OD.addI rfl rfl rfl (by omega)) rfl rfl rfl ?_
 refine G.stepD (OD.subI rfl rfl rfl (by omega)) rfl rfl rfl ?_
 refine G.stepD (OD.indexAddr rfl et22 rfl (Ent.ints (i := 1) rfl) rfl (by omega)) rfl rfl rfl ?_
 refine G.stepD0 (OD.storeInt rfl ti3 rfl rfl (i := 1) rfl (by omega)) rfl rfl ?_
 refine G.nil (GE.blockN (GE.then_ (GC.seq (GC.region ?_))))
 refine G.stepD (OD.loadAgg rfl ti28 rfl (i := 0) rfl (us := [.int .i64 ((rk k : Int)), v2]) rfl rfl) rfl rfl rfl ?_
 refine G.stepD0 (OD.store rfl ti28 rfl rfl (us := [.int .i64 ((rk k : Int)), v2]) rfl rfl (allC rfl (allC (IsS.one hs3) rfl)) (i := 2) rfl rfl) rfl rfl ?_
 refine G.nil (GE.then_ (GC.ret ?_))
 exact GE.body [1] 2 (resN rfl (RVs.cons (rv_cells ti28 rfl (i := 2) rfl rfl) RVs.nil) rfl) rfl (⟨v2, rfl, hs3, congrArg (fun (l0 : List Int) => ints 3 v2 l0 :: own) ((by rw [hy, show q = rk k by omega]; exact sndB k hk12 hbb : (ys).set ((((((rk k : Int) - 1) * (rk k : Int)) + (rk k : Int)) - 2 : Int).toNat) (-2) = oneD k))⟩)
 replace hc8 := ne_of_beq_false hc8
 have hc8n : bAt (nameB k) 0 ≠ 66 := by rw [← hse]; exact hc8
 refine GC.seq (GC.region ?_)
 refine G.stepD (OD.eql rfl rfl rfl) rfl rfl rfl ?_
 refine G.stepD (OD.assign rfl rfl) rfl rfl rfl ?_
 refine G.nil (GE.then_ ?_)
 refine GC.cond rfl (fun hc9 => ?_) (fun hc9 => ?_)
 replace hc9 := eq_of_beq hc9
 have hbb : bAt (nameB k) 0 = 67 := by rw [← hse]; exact hc9
 have hr2 := rk_C k hk12 hbb
 have hx2 := idx_bd (n := (rk k : Int)) (i := (rk k : Int) - 2) (j := (rk k : Int) - 1) ⟨by omega, by omega⟩ ⟨by omega, by omega⟩ (by omega)
 refine GC.region ?_
 refine G.stepD (OD.fieldAddr rfl rfl fa28_1) rfl rfl rfl ?_
 refine G.stepD (OD.load rfl ti22 rfl (i := 0) rfl rfl) rfl rfl rfl ?_
 refine G.stepD (OD.move rfl rfl) rfl rfl rfl ?_
 refine G.stepD (OD.subI rfl rfl rfl (by omega)) rfl rfl rfl ?_
 refine G.stepD (OD.move rfl rfl) rfl rfl rfl ?_
 refine G.stepD (OD.mulI rfl rfl rfl (by omega)) rfl rfl rfl ?_
 refine G.stepD (OD.move rfl rfl) rfl rfl rfl ?_
 refine G.stepD (OD.addI rfl rfl rfl (by omega)) rfl rfl rfl ?_
 refine G.stepD (OD.subI rfl rfl rfl (by omega)) rfl rfl rfl ?_
 refine G.stepD (OD.indexAddr rfl et22 rfl (Ent.ints (i := 1) rfl) rfl (by omega)) rfl rfl rfl ?_
 refine G.stepD0 (OD.storeInt rfl ti3 rfl rfl (i := 1) rfl (by omega)) rfl rfl ?_
 refine G.nil (GE.blockN (GE.then_ (GC.seq (GC.region ?_))))
 refine G.stepD (OD.loadAgg rfl ti28 rfl (i := 0) rfl (us := [.int .i64 ((rk k : Int)), v2]) rfl rfl) rfl rfl rfl ?_
 refine G.stepD0 (OD.store rfl ti28 rfl rfl (us := [.int .i64 ((rk k : Int)), v2]) rfl rfl (allC rfl (allC (IsS.one hs3) rfl)) (i := 2) rfl rfl) rfl rfl ?_
 refine G.nil (GE.then_ (GC.ret ?_))
 exact GE.body [1] 2 (resN rfl (RVs.cons (rv_cells ti28 rfl (i := 2) rfl rfl) RVs.nil) rfl) rfl (⟨v2, rfl, hs3, congrArg (fun (l0 : List Int) => ints 3 v2 l0 :: own) ((by rw [hy, show q = rk k by omega]; exact sndC k hk12 hbb : (ys).set ((((((rk k : Int) - 2) * (rk k : Int)) + (rk k : Int)) - 1 : Int).toNat) (-2) = oneD k))⟩)
 replace hc9 := ne_of_beq_false hc9
 have hc9n : bAt (nameB k) 0 ≠ 67 := by rw [← hse]; exact hc9
 refine GC.seq (GC.region ?_)
 refine G.stepD (OD.eql rfl rfl rfl) rfl rfl rfl ?_
 refine G.stepD (OD.assign rfl rfl) rfl rfl rfl ?_
 refine G.nil (GE.then_ ?_)
 refine GC.cond rfl (fun hc10 => ?_) (fun hc10 => ?_)
 replace hc10 := eq_of_beq hc10
 have hbb : bAt (nameB k) 0 = 68 := by rw [← hse]; exact hc10
 have hr2 := (sndD k hk12 hbb).2
 have hrr : (rk k : Int) * (rk k : Int) = 16 := by rw [hr2]; rfl
 refine GC.seq (GC.region ?_)
 refine G.stepD (OD.assign rfl rfl) rfl rfl rfl ?_
 refine G.nil (GE.then_ (GC.block ?_))
 refine GC.loop (ι := Nat × List Int) (fun ⟨p, zs⟩ => [(2, .pointer (some ⟨g1, 0, none⟩)), (3, .int .i64 ((rk k : Int))), (4, .pointer (some ⟨g4, 0, none⟩)), (6, .int .i64 ((p : Int)))]) (fun ⟨p, zs⟩ => box g4 28 [.int .i64 ((rk k : Int)), v2] :: ints 3 v2 zs :: box g1 28 [.int .i64 (0), .slice none 0 0] :: own) (fun ⟨p, zs⟩ => (p ≤ 4) ∧ ((zs.length : Int) = 16) ∧ (zs = (List.range p).foldl (itD k) ys)) (fun ⟨p, zs⟩ => 4 - p) (0, ys) (⟨by omega, by omega, rfl⟩) ⟨rfl, rfl, rfl, rfl, trivial⟩ [] 0 rfl ?_
 rintro ⟨p, zs⟩ ⟨hp, hzl, hz⟩
 refine GC.seq (GC.seq (GC.region ?_))
 refine G.stepD (OD.move rfl rfl) rfl rfl rfl ?_
 refine G.stepD (OD.lss rfl rfl rfl) rfl rfl rfl ?_
 refine G.nil (GE.then_ ?_)
 refine GC.cond rfl (fun hc11 => ?_) (fun hc11 => ?_)
 replace hc11 := of_decide_eq_true hc11
 have hx := idx_bd (n := (rk k : Int)) (i := p) (j := 1) ⟨by omega, by omega⟩ ⟨by omega, by omega⟩ (by omega)
 refine GC.skip (GE.then_ (GC.seq (GC.block (GC.seq (GC.region ?_)))))
 refine G.stepD (OD.move rfl rfl) rfl rfl rfl ?_
 refine G.stepD (OD.neq rfl rfl rfl) rfl rfl rfl ?_
 refine G.nil (GE.then_ ?_)
 refine GC.cond rfl (fun hc12 => ?_) (fun hc12 => ?_)
 replace hc12 := ne_of_bne hc12
 refine GC.seq (GC.region ?_)
 refine G.stepD (OD.fieldAddr rfl rfl fa28_1) rfl rfl rfl ?_
 refine G.stepD (OD.load rfl ti22 rfl (i := 0) rfl rfl) rfl rfl rfl ?_
 refine G.stepD (OD.move rfl rfl) rfl rfl rfl ?_
 refine G.stepD (OD.move rfl rfl) rfl rfl rfl ?_
 refine G.stepD (OD.addI rfl rfl rfl (by omega)) rfl rfl rfl ?_
 refine G.stepD (OD.indexAddr rfl et22 rfl (Ent.ints (i := 1) rfl) rfl (by omega)) rfl rfl rfl ?_
 refine G.stepD0 (OD.storeInt rfl ti3 rfl rfl (i := 1) rfl (by omega)) rfl rfl ?_
 refine G.nil (GE.then_ (GC.region ?_))
 refine G.stepD (OD.fieldAddr rfl rfl fa28_1) rfl rfl rfl ?_
 refine G.stepD (OD.load rfl ti22 rfl (i := 0) rfl rfl) rfl rfl rfl ?_
 refine G.stepD (OD.move rfl rfl) rfl rfl rfl ?_
 refine G.stepD (OD.move rfl rfl) rfl rfl rfl ?_
 refine G.stepD (OD.mulI rfl rfl rfl (by first | omega | (simp only [List.length_set, List.length_replicate]; omega))) rfl rfl rfl ?_
 refine G.stepD (OD.addI rfl rfl rfl (by first | omega | (simp only [List.length_set, List.length_replicate]; omega))) rfl rfl rfl ?_
 refine G.stepD (OD.indexAddr rfl et22 rfl (Ent.ints (i := 1) rfl) rfl (by first | omega | (simp only [List.length_set, List.length_replicate]; omega))) rfl rfl rfl ?_
 refine G.stepD0 (OD.storeInt rfl ti3 rfl rfl (i := 1) rfl (by first | omega | (simp only [List.length_set, List.length_replicate]; omega))) rfl rfl ?_
 refine G.nil (GE.blockN (GE.then_ (GC.region ?_)))
 refine G.stepD (OD.move rfl rfl) rfl rfl rfl ?_
 refine G.stepD (OD.addI rfl rfl rfl (by first | omega | (simp only [List.length_set, List.length_replicate]; omega))) rfl rfl rfl ?_
 refine G.stepD (OD.assign rfl rfl) rfl rfl rfl ?_
 refine G.nil ?_
 exact GE.again (p + 1, ((zs).set (((rk k : Int) + (p : Int) : Int).toNat) (-1)).set ((((p : Int) * (rk k : Int)) + 1 : Int).toNat) (-1)) (⟨by omega, by first | exact hzl | (simp only [List.length_set]; exact hzl), fold_next hz (by unfold itD; by_cases h1 : (p : Int) = 1 <;> first | (rw [if_pos h1]; done) | (rw [if_neg (fun h => h h1)]; done) | (exfalso; omega))⟩) (by first | omega | (dsimp only; omega)) ⟨rfl, rfl, rfl, rfl, trivial⟩ [] 0 rfl
 replace hc12 := eq_of_bne_false hc12
 refine GC.skip (GE.blockN (GE.then_ (GC.region ?_)))
 refine G.stepD (OD.move rfl rfl) rfl rfl rfl ?_
 refine G.stepD (OD.addI rfl rfl rfl (by omega)) rfl rfl rfl ?_
 refine G.stepD (OD.assign rfl rfl) rfl rfl rfl ?_
 refine G.nil ?_
 exact GE.again (p + 1, zs) (⟨by omega, by first | exact hzl | (simp only [List.length_set]; exact hzl), fold_next hz (by unfold itD; by_cases h1 : (p : Int) = 1 <;> first | (rw [if_pos h1]; done) | (rw [if_neg (fun h => h h1)]; done) | (exfalso; omega))⟩) (by first | omega | (dsimp only; omega)) ⟨rfl, rfl, rfl, rfl, trivial⟩ [] 0 rfl
 replace hc11 := of_decide_eq_false hc11
 refine GC.exit (GE.pass (GE.pass (GE.hit (GE.blockN (GE.then_ (GC.seq (GC.region ?_)))))))
 refine G.stepD (OD.loadAgg rfl ti28 rfl (i := 0) rfl (us := [.int .i64 ((rk k : Int)), v2]) rfl rfl) rfl rfl rfl ?_
 refine G.stepD0 (OD.store rfl ti28 rfl rfl (us := [.int .i64 ((rk k : Int)), v2]) rfl rfl (allC rfl (allC (IsS.one hs3) rfl)) (i := 2) rfl rfl) rfl rfl ?_
 refine G.nil (GE.then_ (GC.ret ?_))
 exact GE.body [1] 2 (resN rfl (RVs.cons (rv_cells ti28 rfl (i := 2) rfl rfl) RVs.nil) rfl) rfl (⟨v2, rfl, hs3, congrArg (fun (l0 : List Int) => ints 3 v2 l0 :: own) ((by rw [hz, show p = 4 by omega, hy, show q = rk k by omega]; exact (sndD k hk12 hbb).1 : zs = oneD k))⟩)
 replace hc10 := ne_of_beq_false hc10
 have hc10n : bAt (nameB k) 0 ≠ 68 := by rw [← hse]; exact hc10
 refine GC.seq (GC.region ?_)
 refine G.stepD (OD.eql rfl rfl rfl) rfl rfl rfl ?_
 refine G.stepD (OD.assign rfl rfl) rfl rfl rfl ?_
 refine G.nil (GE.then_ ?_)
 refine GC.cond rfl (fun hc13 => ?_) (fun hc13 => ?_)
 replace hc13 := eq_of_beq hc13
 have hbb : bAt (nameB k) 0 = 70 := by rw [← hse]; exact hc13
 have hr2 := (sndF k hk12 hbb).2
 have hrr : (rk k : Int) * (rk k : Int) = 16 := by rw [hr2]; rfl
 refine GC.region ?_
 refine G.stepD (OD.fieldAddr rfl rfl fa28_1) rfl rfl rfl ?_
 refine G.stepD (OD.load rfl ti22 rfl (i := 0) rfl rfl) rfl rfl rfl ?_
 refine G.stepD (OD.move rfl rfl) rfl rfl rfl ?_
 refine G.stepD (OD.mulI rfl rfl rfl (by omega)) rfl rfl rfl ?_
 refine G.stepD (OD.addI rfl rfl rfl (by omega)) rfl rfl rfl ?_
 refine G.stepD (OD.indexAddr rfl et22 rfl (Ent.ints (i := 1) rfl) rfl (by omega)) rfl rfl rfl ?_
 refine G.stepD0 (OD.storeInt rfl ti3 rfl rfl (i := 1) rfl (by omega)) rfl rfl ?_
 refine G.nil (GE.blockN (GE.then_ (GC.seq (GC.region ?_))))
 refine G.stepD (OD.loadAgg rfl ti28 rfl (i := 0) rfl (us := [.int .i64 ((rk k : Int)), v2]) rfl rfl) rfl rfl rfl ?_
 refine G.stepD0 (OD.store rfl ti28 rfl rfl (us := [.int .i64 ((rk k : Int)), v2]) rfl rfl (allC rfl (allC (IsS.one hs3) rfl)) (i := 2) rfl rfl) rfl rfl ?_
 refine G.nil (GE.then_ (GC.ret ?_))
 exact GE.body [1] 2 (resN rfl (RVs.cons (rv_cells ti28 rfl (i := 2) rfl rfl) RVs.nil) rfl) rfl (⟨v2, rfl, hs3, congrArg (fun (l0 : List Int) => ints 3 v2 l0 :: own) ((by rw [hy, show q = rk k by omega]; exact (sndF k hk12 hbb).1 : (ys).set (((2 * (rk k : Int)) + 1 : Int).toNat) (-2) = oneD k))⟩)
 replace hc13 := ne_of_beq_false hc13
 have hc13n : bAt (nameB k) 0 ≠ 70 := by rw [← hse]; exact hc13
 refine GC.seq (GC.region ?_)
 refine G.stepD (OD.eql rfl rfl rfl) rfl rfl rfl ?_
 refine G.stepD (OD.assign rfl rfl) rfl rfl rfl ?_
 refine G.nil (GE.then_ ?_)
 refine GC.cond rfl (fun hc14 => ?_) (fun hc14 => ?_)
 replace hc14 := eq_of_beq hc14
 have hbb : bAt (nameB k) 0 = 71 := by rw [← hse]; exact hc14
 have hr2 := (sndG k hk12 hbb).2
 have hrr : (rk k : Int) * (rk k : Int) = 4 := by rw [hr2]; rfl
 refine GC.region ?_
 refine G.stepD (OD.fieldAddr rfl rfl fa28_1) rfl rfl rfl ?_
 refine G.stepD (OD.load rfl ti22 rfl (i := 0) rfl rfl) rfl rfl rfl ?_
 refine G.stepD (OD.indexAddr rfl et22 rfl (Ent.ints (i := 1) rfl) rfl (by omega)) rfl rfl rfl ?_
 refine G.stepD0 (OD.storeInt rfl ti3 rfl rfl (i := 1) rfl (by omega)) rfl rfl ?_
 refine G.nil (GE.blockN (GE.then_ (GC.seq (GC.region ?_))))
 refine G.stepD (OD.loadAgg rfl ti28 rfl (i := 0) rfl (us := [.int .i64 ((rk k : Int)), v2]) rfl rfl) rfl rfl rfl ?_
 refine G.stepD0 (OD.store rfl ti28 rfl rfl (us := [.int .i64 ((rk k : Int)), v2]) rfl rfl (allC rfl (allC (IsS.one hs3) rfl)) (i := 2) rfl rfl) rfl rfl ?_
 refine G.nil (GE.then_ (GC.ret ?_))
 exact GE.body [1] 2 (resN rfl (RVs.cons (rv_cells ti28 rfl (i := 2) rfl rfl) RVs.nil) rfl) rfl (⟨v2, rfl, hs3, congrArg (fun (l0 : List Int) => ints 3 v2 l0 :: own) ((by rw [hy, show q = rk k by omega]; exact (sndG k hk12 hbb).1 : (ys).set (1) (-3) = oneD k))⟩)
 replace hc14 := ne_of_beq_false hc14
 have hc14n : bAt (nameB k) 0 ≠ 71 := by rw [← hse]; exact hc14
 refine GC.skip (GE.blockN (GE.then_ (GC.seq (GC.region ?_))))
 refine G.stepD (OD.loadAgg rfl ti28 rfl (i := 0) rfl (us := [.int .i64 ((rk k : Int)), v2]) rfl rfl) rfl rfl rfl ?_
 refine G.stepD0 (OD.store rfl ti28 rfl rfl (us := [.int .i64 ((rk k : Int)), v2]) rfl rfl (allC rfl (allC (IsS.one hs3) rfl)) (i := 2) rfl rfl) rfl rfl ?_
 refine G.nil (GE.then_ (GC.ret ?_))
 exact GE.body [1] 2 (resN rfl (RVs.cons (rv_cells ti28 rfl (i := 2) rfl rfl) RVs.nil) rfl) rfl (⟨v2, rfl, hs3, congrArg (fun (l0 : List Int) => ints 3 v2 l0 :: own) ((by rw [hy, show q = rk k by omega]; exact sndA k hk12 ⟨by assumption, by assumption, by assumption, by assumption, by assumption⟩ : ys = oneD k))⟩)

set_option maxRecDepth 100000 in
theorem joined_w {W : World} {own : List Asn} {vb : Value} {vs : List Value} {ks : List Nat}  (sb : IsS vb) (eb : Ent own fun w => Sl w vb (rowC ks vs).length 2 (rowC ks vs).flatten) (em : ∀ k, k < ks.length → Ent own fun w => Ints w (vs.getD k undef) (oneD (ks.getD k 0))) (hlen : vs.length = ks.length) (hall : AllS vs)  (h12 : ∀ k ∈ ks, k < 12) (hr4 : rkS ks ≤ 4) (hk4 : ks.length ≤ 1000000) : Spec Tryd.prog 48 [vb] W own (fun v ow => ∃ (r1 : Value), v = .agg #[.int .i64 ((rkS ks : Nat)), r1] ∧ IsS r1 ∧ ow = ints 3 r1 (joinD ks) :: own) := by
 have hrl := rowC_len hlen
 refine Spec.enter Tryd.f48 _ Tryd.func48 rfl (n := 79) rfl rfl ?_
 refine GC.seq (GC.region ?_)
 refine G.step (OG.alloc rfl ti28 (zs := [.int .i64 (0), .slice none 0 0]) rfl) rfl rfl rfl ?_
 rintro _ _ ⟨g1, rfl, rfl⟩
 refine G.nil (GE.then_ (GC.seq (GC.region ?_)))
 refine G.stepD (OD.build (idx := []) (xs := []) (vs := []) (cs := []) (zs := [.int .i64 (0), .slice none 0 0]) (r := [.int .i64 (0), .slice none 0 0]) rfl ti28 rfl rfl rfl trivial rfl) rfl rfl rfl ?_
 refine G.step (OG.alloc rfl ti28 (zs := [.int .i64 (0), .slice none 0 0]) rfl) rfl rfl rfl ?_
 rintro _ _ ⟨g2, rfl, rfl⟩
 refine G.stepD0 (OD.store rfl ti28 rfl rfl (us := [.int .i64 (0), .slice none 0 0]) rfl rfl rfl (i := 0) rfl rfl) rfl rfl ?_
 refine G.nil (GE.then_ (GC.seq (GC.seq (GC.region ?_))))
 refine G.stepD (OD.move rfl rfl) rfl rfl rfl ?_
 refine G.stepD (OD.len rfl rfl et73 rfl (Ent.drop 2 eb)) rfl rfl rfl ?_
 refine G.stepD (OD.move rfl rfl) rfl rfl rfl ?_
 refine G.nil (GE.then_ (GC.block ?_))
 refine GC.loop (ι := Nat × Int) (fun ⟨i, r⟩ => [(0, vb), (2, .pointer (some ⟨g1, 0, none⟩)), (3, .pointer (some ⟨g2, 0, none⟩)), (12, vb), (13, .int .i64 (((rowC ks vs).length : Nat))), (14, .int .i64 ((i : Int)))]) (fun ⟨i, r⟩ => box g2 28 [.int .i64 (r), .slice none 0 0] :: box g1 28 [.int .i64 (0), .slice none 0 0] :: own) (fun ⟨i, r⟩ => (i ≤ ks.length) ∧ (r = (rkS (ks.take i) : Nat))) (fun ⟨i, r⟩ => ks.length - i) (0, 0) (⟨by omega, by simp [rkS]⟩) ⟨rfl, rfl, rfl, rfl, rfl, rfl, trivial⟩ [] 0 rfl ?_
 rintro ⟨i, r⟩ ⟨hi, hr⟩
 refine GC.seq (GC.region ?_)
 refine G.stepD (OD.lss rfl rfl rfl) rfl rfl rfl ?_
 refine G.nil (GE.then_ (GC.seq ?_))
 refine GC.cond rfl (fun hc3 => ?_) (fun hc3 => ?_)
 replace hc3 := of_decide_eq_true hc3
 have hrb := rkS_take_le ks i
 have hkb := rk_bd (ks.getD i 0) (h12 _ (by simp [List.getD, show i < ks.length by omega]))
 refine GC.skip (GE.then_ (GC.seq (GC.block (GC.seq (GC.region ?_)))))
 refine G.stepD (OD.indexAddr rfl et73 rfl (Ent.drop 2 eb) rfl (by omega)) rfl rfl rfl ?_
 refine G.stepD (OD.loadRws rfl ti28 rfl (Ent.drop 2 eb) (by omega) (rowC_wf _ _) (rowC_get hlen (by omega))) rfl rfl rfl ?_
 refine G.step (OG.alloc rfl ti28 (zs := [.int .i64 (0), .slice none 0 0]) rfl) rfl rfl rfl ?_
 rintro _ _ ⟨g4, rfl, rfl⟩
 refine G.stepD0 (OD.store rfl ti28 rfl rfl (us := [.int .i64 ((rk (ks.getD (i) 0) : Int)), (vs.getD (i) undef)]) rfl rfl (allC rfl (allC (IsS.one (hall.get (by omega))) rfl)) (i := 0) rfl rfl) rfl rfl ?_
 refine G.nil (GE.then_ (GC.region ?_))
 refine G.stepD (OD.fieldAddr rfl rfl fa28_0) rfl rfl rfl ?_
 refine G.stepD (OD.load rfl ti3 rfl (i := 1) rfl rfl) rfl rfl rfl ?_
 refine G.stepD (OD.fieldAddr rfl rfl fa28_0) rfl rfl rfl ?_
 refine G.stepD (OD.load rfl ti3 rfl (i := 0) rfl rfl) rfl rfl rfl ?_
 refine G.stepD (OD.addI rfl rfl rfl (by omega)) rfl rfl rfl ?_
 refine G.stepD (OD.fieldAddr rfl rfl fa28_0) rfl rfl rfl ?_
 refine G.stepD0 (OD.store rfl ti3 rfl rfl (us := [.int .i64 (r + (rk (ks.getD (i) 0) : Int))]) rfl rfl rfl (i := 1) rfl rfl) rfl rfl ?_
 refine G.nil (GE.blockN (GE.then_ (GC.region ?_)))
 refine G.stepD (OD.addI rfl rfl rfl (by omega)) rfl rfl rfl ?_
 refine G.stepD (OD.move rfl rfl) rfl rfl rfl ?_
 refine G.nil ?_
 exact GE.again (i + 1, r + (rk (ks.getD (i) 0) : Int)) (⟨by omega, by rw [rkS_take_succ (by omega), hr]; simp⟩) (by first | omega | (dsimp only; omega)) ⟨rfl, rfl, rfl, rfl, rfl, rfl, trivial⟩ [1, 1] 1 rfl
 replace hc3 := of_decide_eq_false hc3
 have hrN : r = (rkS ks : Nat) := by rw [hr, List.take_of_length_le (by omega)]
 have hN0 : 0 ≤ r * r := Int.mul_nonneg (by omega) (by omega)
 have hN1 : r * r ≤ 4 * 4 := Int.mul_le_mul (by omega) (by omega) (by omega) (by omega)
 refine GC.exit (GE.pass (GE.pass (GE.hit (GE.then_ (GC.seq (GC.region ?_))))))
 refine G.stepD (OD.fieldAddr rfl rfl fa28_0) rfl rfl rfl ?_
 refine G.stepD (OD.load rfl ti3 rfl (i := 0) rfl rfl) rfl rfl rfl ?_
 refine G.stepD (OD.fieldAddr rfl rfl fa28_0) rfl rfl rfl ?_
 refine G.stepD (OD.load rfl ti3 rfl (i := 0) rfl rfl) rfl rfl rfl ?_
 refine G.stepD (OD.mulI rfl rfl rfl (by omega)) rfl rfl rfl ?_
 refine G.step (OG.makeInts rfl et22 rfl rfl (by omega)) rfl rfl rfl ?_
 rintro v5 _ ⟨hs6, rfl⟩
 refine G.stepD (OD.fieldAddr rfl rfl fa28_1) rfl rfl rfl ?_
 refine G.stepD0 (OD.store rfl ti22 rfl rfl (us := [v5]) (one_cells (IsS.one hs6)) rfl (allC (IsS.one hs6) rfl) (i := 1) rfl rfl) rfl rfl ?_
 refine G.nil (GE.then_ (GC.seq (GC.region ?_)))
 refine G.stepD (OD.assign rfl rfl) rfl rfl rfl ?_
 refine G.nil (GE.then_ (GC.seq (GC.seq (GC.region ?_))))
 refine G.stepD (OD.move rfl rfl) rfl rfl rfl ?_
 refine G.stepD (OD.len rfl rfl et73 rfl (Ent.drop 3 eb)) rfl rfl rfl ?_
 refine G.stepD (OD.move rfl rfl) rfl rfl rfl ?_
 refine G.nil (GE.then_ (GC.block ?_))
 refine GC.loop (ι := Nat × Int × List Int) (fun ⟨b, a, ys⟩ => [(2, .pointer (some ⟨g1, 0, none⟩)), (3, .pointer (some ⟨g2, 0, none⟩)), (32, vb), (33, .int .i64 (((rowC ks vs).length : Nat))), (6, .int .i64 (a)), (34, .int .i64 ((b : Int)))]) (fun ⟨b, a, ys⟩ => ints 3 v5 ys :: box g2 28 [.int .i64 (r), v5] :: box g1 28 [.int .i64 (0), .slice none 0 0] :: own) (fun ⟨b, a, ys⟩ => (b ≤ ks.length) ∧ (a = (rkS (ks.take b) : Nat)) ∧ ((ys.length : Int) = r * r) ∧ (ys = (List.range b).foldl (jB ks r) (List.replicate (r * r : Int).toNat 0))) (fun ⟨b, a, ys⟩ => ks.length - b) (0, 0, List.replicate (r * r : Int).toNat 0) (⟨by omega, by simp [rkS], by rw [List.length_replicate]; omega, rfl⟩) ⟨rfl, rfl, rfl, rfl, rfl, rfl, trivial⟩ [] 0 rfl ?_
 rintro ⟨b, a, ys⟩ ⟨hb, ha, hyl, hy⟩
 refine GC.seq (GC.region ?_)
 refine G.stepD (OD.lss rfl rfl rfl) rfl rfl rfl ?_
 refine G.nil (GE.then_ (GC.seq ?_))
 refine GC.cond rfl (fun hc7 => ?_) (fun hc7 => ?_)
 replace hc7 := of_decide_eq_true hc7
 have hkb := rk_bd (ks.getD b 0) (h12 _ (by simp [List.getD, show b < ks.length by omega]))
 have hol := oneD_len (ks.getD b 0) (h12 _ (by simp [List.getD, show b < ks.length by omega]))
 have hab0 := rkS_take_le ks (b + 1)
 rw [rkS_take_succ (by omega)] at hab0
 have hab : a + (rk (ks.getD b 0) : Int) ≤ r := by omega
 refine GC.skip (GE.then_ (GC.seq (GC.block (GC.seq (GC.region ?_)))))
 refine G.stepD (OD.indexAddr rfl et73 rfl (Ent.drop 3 eb) rfl (by omega)) rfl rfl rfl ?_
 refine G.stepD (OD.loadRws rfl ti28 rfl (Ent.drop 3 eb) (by omega) (rowC_wf _ _) (rowC_get hlen (by omega))) rfl rfl rfl ?_
 refine G.step (OG.alloc rfl ti28 (zs := [.int .i64 (0), .slice none 0 0]) rfl) rfl rfl rfl ?_
 rintro _ _ ⟨g8, rfl, rfl⟩
 refine G.stepD0 (OD.store rfl ti28 rfl rfl (us := [.int .i64 ((rk (ks.getD (b) 0) : Int)), (vs.getD (b) undef)]) rfl rfl (allC rfl (allC (IsS.one (hall.get (by omega))) rfl)) (i := 0) rfl rfl) rfl rfl ?_
 refine G.nil (GE.then_ (GC.seq (GC.seq (GC.region ?_))))
 refine G.stepD (OD.fieldAddr rfl rfl fa28_0) rfl rfl rfl ?_
 refine G.stepD (OD.load rfl ti3 rfl (i := 0) rfl rfl) rfl rfl rfl ?_
 refine G.stepD (OD.move rfl rfl) rfl rfl rfl ?_
 refine G.nil (GE.then_ (GC.block ?_))
 refine GC.loop (ι := Nat × List Int) (fun ⟨i, zs⟩ => [(2, .pointer (some ⟨g1, 0, none⟩)), (3, .pointer (some ⟨g2, 0, none⟩)), (32, vb), (33, .int .i64 (((rowC ks vs).length : Nat))), (6, .int .i64 (a)), (34, .int .i64 ((b : Int))), (8, .pointer (some ⟨g8, 0, none⟩)), (39, .int .i64 ((rk (ks.getD (b) 0) : Int))), (40, .int .i64 ((i : Int)))]) (fun ⟨i, zs⟩ => box g8 28 [.int .i64 ((rk (ks.getD (b) 0) : Int)), (vs.getD (b) undef)] :: ints 3 v5 zs :: box g2 28 [.int .i64 (r), v5] :: box g1 28 [.int .i64 (0), .slice none 0 0] :: own) (fun ⟨i, zs⟩ => (i ≤ rk (ks.getD (b) 0)) ∧ ((zs.length : Int) = r * r) ∧ (zs = (List.range i).foldl (jI r a (ks.getD (b) 0)) ys)) (fun ⟨i, zs⟩ => rk (ks.getD (b) 0) - i) (0, ys) (⟨by omega, hyl, rfl⟩) ⟨rfl, rfl, rfl, rfl, rfl, rfl, rfl, rfl, rfl, trivial⟩ [] 0 rfl ?_
 rintro ⟨i, zs⟩ ⟨hi, hzl, hz⟩
 refine GC.seq (GC.region ?_)
 refine G.stepD (OD.lss rfl rfl rfl) rfl rfl rfl ?_
 refine G.nil (GE.then_ (GC.seq ?_))
 refine GC.cond rfl (fun hc9 => ?_) (fun hc9 => ?_)
 replace hc9 := of_decide_eq_true hc9
 refine GC.skip (GE.then_ (GC.seq (GC.block (GC.seq (GC.region ?_)))))
 refine G.stepD (OD.move rfl rfl) rfl rfl rfl ?_
 refine G.stepD (OD.assign rfl rfl) rfl rfl rfl ?_
 refine G.nil (GE.then_ (GC.seq (GC.region ?_)))
 refine G.stepD (OD.fieldAddr rfl rfl fa28_0) rfl rfl rfl ?_
 refine G.stepD (OD.load rfl ti3 rfl (i := 0) rfl rfl) rfl rfl rfl ?_
 refine G.stepD (OD.move rfl rfl) rfl rfl rfl ?_
 refine G.nil (GE.then_ (GC.block ?_))
 refine GC.loop (ι := Nat × List Int) (fun ⟨j, ws⟩ => [(2, .pointer (some ⟨g1, 0, none⟩)), (3, .pointer (some ⟨g2, 0, none⟩)), (32, vb), (33, .int .i64 (((rowC ks vs).length : Nat))), (6, .int .i64 (a)), (34, .int .i64 ((b : Int))), (8, .pointer (some ⟨g8, 0, none⟩)), (39, .int .i64 ((rk (ks.getD (b) 0) : Int))), (40, .int .i64 ((i : Int))), (9, .int .i64 ((i : Int))), (44, .int .i64 ((rk (ks.getD (b) 0) : Int))), (45, .int .i64 ((j : Int)))]) (fun ⟨j, ws⟩ => box g8 28 [.int .i64 ((rk (ks.getD (b) 0) : Int)), (vs.getD (b) undef)] :: ints 3 v5 ws :: box g2 28 [.int .i64 (r), v5] :: box g1 28 [.int .i64 (0), .slice none 0 0] :: own) (fun ⟨j, ws⟩ => (j ≤ rk (ks.getD (b) 0)) ∧ ((ws.length : Int) = r * r) ∧ (ws = (List.range j).foldl (fun (o : List Int) (j : Nat) => o.set ((a + (i : Int)) * r + a + (j : Int)).toNat ((oneD (ks.getD (b) 0)).getD ((i : Int) * (rk (ks.getD (b) 0) : Int) + (j : Int)).toNat 0)) zs)) (fun ⟨j, ws⟩ => rk (ks.getD (b) 0) - j) (0, zs) (⟨by omega, hzl, rfl⟩) ⟨rfl, rfl, rfl, rfl, rfl, rfl, rfl, rfl, rfl, rfl, rfl, rfl, trivial⟩ [] 0 rfl ?_
 rintro ⟨j, ws⟩ ⟨hj, hwl, hw⟩
 refine GC.seq (GC.region ?_)
 refine G.stepD (OD.lss rfl rfl rfl) rfl rfl rfl ?_
 refine G.nil (GE.then_ (GC.seq ?_))
 refine GC.cond rfl (fun hc10 => ?_) (fun hc10 => ?_)
 replace hc10 := of_decide_eq_true hc10
 have hx := idx_bd (n := r) (i := a + (i : Int)) (j := a + (j : Int)) ⟨by omega, by omega⟩ ⟨by omega, by omega⟩ (by omega)
 have hx2 := idx_bd (n := (rk (ks.getD b 0) : Int)) (i := (i : Int)) (j := (j : Int)) ⟨by omega, by omega⟩ ⟨by omega, by omega⟩ (by omega)
 have hol2 : ((oneD (ks.getD b 0)).length : Int) = (rk (ks.getD b 0) : Int) * (rk (ks.getD b 0) : Int) := by rw [hol]; exact Int.natCast_mul _ _
 refine GC.skip (GE.then_ (GC.seq (GC.block (GC.seq (GC.region ?_)))))
 refine G.stepD (OD.move rfl rfl) rfl rfl rfl ?_
 refine G.stepD (OD.assign rfl rfl) rfl rfl rfl ?_
 refine G.nil (GE.then_ ?_)
 refine GC.at [] 0 (env' := [(2, .pointer (some ⟨g1, 0, none⟩)), (3, .pointer (some ⟨g2, 0, none⟩)), (32, vb), (33, .int .i64 (((rowC ks vs).length : Nat))), (6, .int .i64 (a)), (34, .int .i64 ((b : Int))), (8, .pointer (some ⟨g8, 0, none⟩)), (39, .int .i64 ((rk (ks.getD (b) 0) : Int))), (40, .int .i64 ((i : Int))), (9, .int .i64 ((i : Int))), (44, .int .i64 ((rk (ks.getD (b) 0) : Int))), (45, .int .i64 ((j : Int))), (10, .int .i64 ((j : Int)))]) ⟨rfl, rfl, rfl, rfl, rfl, rfl, rfl, rfl, rfl, rfl, rfl, rfl, rfl, trivial⟩ rfl ?_
 refine GC.par (its := [⟨48, [], [], [], [], fun _ => .pointer (some ⟨g2, 1, none⟩), fun _ => True, fun _ => []⟩,
     ⟨49, [(0, 48)], [], [], [], fun _ => v5, fun _ => True, fun _ => []⟩,
     ⟨50, [], [], [], [], fun _ => .int .i64 (a), fun _ => True, fun _ => []⟩,
     ⟨51, [], [], [], [], fun _ => .int .i64 ((i : Int)), fun _ => True, fun _ => []⟩,
     ⟨52, [(2, 50), (3, 51)], [], [], [], fun _ => .int .i64 (a + (i : Int)), fun _ => True, fun _ => []⟩,
     ⟨53, [], [], [], [], fun _ => .pointer (some ⟨g2, 0, none⟩), fun _ => True, fun _ => []⟩,
     ⟨54, [(5, 53)], [], [], [], fun _ => .int .i64 (r), fun _ => True, fun _ => []⟩,
     ⟨55, [(4, 52), (6, 54)], [], [], [], fun _ => .int .i64 ((a + (i : Int)) * r), fun _ => True, fun _ => []⟩,
     ⟨56, [], [], [], [], fun _ => .int .i64 (a), fun _ => True, fun _ => []⟩,
     ⟨57, [(7, 55), (8, 56)], [], [], [], fun _ => .int .i64 (((a + (i : Int)) * r) + a), fun _ => True, fun _ => []⟩,
     ⟨58, [], [], [], [], fun _ => .int .i64 ((j : Int)), fun _ => True, fun _ => []⟩,
     ⟨59, [(9, 57), (10, 58)], [], [], [], fun _ => .int .i64 ((((a + (i : Int)) * r) + a) + (j : Int)), fun _ => True, fun _ => []⟩,
     ⟨60, [], [], [], [], fun _ => .pointer (some ⟨g8, 1, none⟩), fun _ => True, fun _ => []⟩,
     ⟨61, [(12, 60)], [], [], [], fun _ => (vs.getD (b) undef), fun _ => True, fun _ => []⟩,
     ⟨62, [], [], [], [], fun _ => .int .i64 ((i : Int)), fun _ => True, fun _ => []⟩,
     ⟨63, [], [], [], [], fun _ => .pointer (some ⟨g8, 0, none⟩), fun _ => True, fun _ => []⟩,
     ⟨64, [(15, 63)], [], [], [], fun _ => .int .i64 ((rk (ks.getD (b) 0) : Int)), fun _ => True, fun _ => []⟩,
     ⟨65, [(14, 62), (16, 64)], [], [], [], fun _ => .int .i64 ((i : Int) * (rk (ks.getD (b) 0) : Int)), fun _ => True, fun _ => []⟩,
     ⟨66, [], [], [], [], fun _ => .int .i64 ((j : Int)), fun _ => True, fun _ => []⟩,
     ⟨67, [(17, 65), (18, 66)], [], [], [], fun _ => .int .i64 (((i : Int) * (rk (ks.getD (b) 0) : Int)) + (j : Int)), fun _ => True, fun _ => []⟩,
     ⟨68, [(13, 61), (19, 67)], [], [], [], fun _ => elemPtr ((vs.getD (b) undef)) 1 ((((i : Int) * (rk (ks.getD (b) 0) : Int)) + (j : Int) : Int).toNat), fun _ => True, fun _ => []⟩,
     ⟨69, [(20, 68)], [], [], [], fun _ => .int .i64 ((oneD (ks.getD (b) 0)).getD ((((i : Int) * (rk (ks.getD (b) 0) : Int)) + (j : Int) : Int).toNat) 0), fun _ => True, fun _ => []⟩,
     ⟨70, [(1, 49), (11, 59)], [], [], [], fun _ => elemPtr v5 1 (((((a + (i : Int)) * r) + a) + (j : Int) : Int).toNat), fun _ => True, fun _ => []⟩]) (by kernel_rfl) (by kernel_rfl) (POps.cons ?_ (POps.cons ?_ (POps.cons ?_ (POps.cons ?_ (POps.cons ?_ (POps.cons ?_ (POps.cons ?_ (POps.cons ?_ (POps.cons ?_ (POps.cons ?_ (POps.cons ?_ (POps.cons ?_ (POps.cons ?_ (POps.cons ?_ (POps.cons ?_ (POps.cons ?_ (POps.cons ?_ (POps.cons ?_ (POps.cons ?_ (POps.cons ?_ (POps.cons ?_ (POps.cons ?_ (POps.cons ?_ POps.nil))))))))))))))))))))))) ?_
 intro θ R hd
 exact Opp.plain (OG.imp (OD.fieldAddr rfl rfl fa28_1) (by rintro _ _ ⟨rfl, rfl⟩; exact ⟨[], rfl, trivial, rfl⟩)) rfl
 intro θ R hd
 obtain ⟨h0d, _⟩ := hd
 exact Opp.plain (OG.imp (OD.load rfl ti22 rfl (i := 2) rfl rfl) (by rintro _ _ ⟨rfl, rfl⟩; exact ⟨[], rfl, trivial, rfl⟩)) rfl
 intro θ R hd
 exact Opp.plain (OG.imp (OD.move rfl rfl) (by rintro _ _ ⟨rfl, rfl⟩; exact ⟨[], rfl, trivial, rfl⟩)) rfl
 intro θ R hd
 exact Opp.plain (OG.imp (OD.move rfl rfl) (by rintro _ _ ⟨rfl, rfl⟩; exact ⟨[], rfl, trivial, rfl⟩)) rfl
 intro θ R hd
 obtain ⟨h2d, h3d, _⟩ := hd
 exact Opp.plain (OG.imp (OD.addI rfl rfl rfl (by omega)) (by rintro _ _ ⟨rfl, rfl⟩; exact ⟨[], rfl, trivial, rfl⟩)) rfl
 intro θ R hd
 exact Opp.plain (OG.imp (OD.fieldAddr rfl rfl fa28_0) (by rintro _ _ ⟨rfl, rfl⟩; exact ⟨[], rfl, trivial, rfl⟩)) rfl
 intro θ R hd
 obtain ⟨h5d, _⟩ := hd
 exact Opp.plain (OG.imp (OD.load rfl ti3 rfl (i := 2) rfl rfl) (by rintro _ _ ⟨rfl, rfl⟩; exact ⟨[], rfl, trivial, rfl⟩)) rfl
 intro θ R hd
 obtain ⟨h4d, h6d, _⟩ := hd
 exact Opp.plain (OG.imp (OD.mulI rfl rfl rfl (by omega)) (by rintro _ _ ⟨rfl, rfl⟩; exact ⟨[], rfl, trivial, rfl⟩)) rfl
 intro θ R hd
 exact Opp.plain (OG.imp (OD.move rfl rfl) (by rintro _ _ ⟨rfl, rfl⟩; exact ⟨[], rfl, trivial, rfl⟩)) rfl
 intro θ R hd
 obtain ⟨h7d, h8d, _⟩ := hd
 exact Opp.plain (OG.imp (OD.addI rfl rfl rfl (by omega)) (by rintro _ _ ⟨rfl, rfl⟩; exact ⟨[], rfl, trivial, rfl⟩)) rfl
 intro θ R hd
 exact Opp.plain (OG.imp (OD.move rfl rfl) (by rintro _ _ ⟨rfl, rfl⟩; exact ⟨[], rfl, trivial, rfl⟩)) rfl
 intro θ R hd
 obtain ⟨h9d, h10d, _⟩ := hd
 exact Opp.plain (OG.imp (OD.addI rfl rfl rfl (by omega)) (by rintro _ _ ⟨rfl, rfl⟩; exact ⟨[], rfl, trivial, rfl⟩)) rfl
 intro θ R hd
 exact Opp.plain (OG.imp (OD.fieldAddr rfl rfl fa28_1) (by rintro _ _ ⟨rfl, rfl⟩; exact ⟨[], rfl, trivial, rfl⟩)) rfl
 intro θ R hd
 obtain ⟨h12d, _⟩ := hd
 exact Opp.plain (OG.imp (OD.load rfl ti22 rfl (i := 0) rfl rfl) (by rintro _ _ ⟨rfl, rfl⟩; exact ⟨[], rfl, trivial, rfl⟩)) rfl
 intro θ R hd
 exact Opp.plain (OG.imp (OD.move rfl rfl) (by rintro _ _ ⟨rfl, rfl⟩; exact ⟨[], rfl, trivial, rfl⟩)) rfl
 intro θ R hd
 exact Opp.plain (OG.imp (OD.fieldAddr rfl rfl fa28_0) (by rintro _ _ ⟨rfl, rfl⟩; exact ⟨[], rfl, trivial, rfl⟩)) rfl
 intro θ R hd
 obtain ⟨h15d, _⟩ := hd
 exact Opp.plain (OG.imp (OD.load rfl ti3 rfl (i := 0) rfl rfl) (by rintro _ _ ⟨rfl, rfl⟩; exact ⟨[], rfl, trivial, rfl⟩)) rfl
 intro θ R hd
 obtain ⟨h14d, h16d, _⟩ := hd
 exact Opp.plain (OG.imp (OD.mulI rfl rfl rfl (by omega)) (by rintro _ _ ⟨rfl, rfl⟩; exact ⟨[], rfl, trivial, rfl⟩)) rfl
 intro θ R hd
 exact Opp.plain (OG.imp (OD.move rfl rfl) (by rintro _ _ ⟨rfl, rfl⟩; exact ⟨[], rfl, trivial, rfl⟩)) rfl
 intro θ R hd
 obtain ⟨h17d, h18d, _⟩ := hd
 exact Opp.plain (OG.imp (OD.addI rfl rfl rfl (by omega)) (by rintro _ _ ⟨rfl, rfl⟩; exact ⟨[], rfl, trivial, rfl⟩)) rfl
 intro θ R hd
 obtain ⟨h13d, h19d, _⟩ := hd
 exact Opp.plain (OG.imp (OD.indexAddr rfl et22 rfl (Ent.drop 4 ((em (b) (by omega)).app)) rfl (by omega)) (by rintro _ _ ⟨rfl, rfl⟩; exact ⟨[], rfl, trivial, rfl⟩)) rfl
 intro θ R hd
 obtain ⟨h20d, _⟩ := hd
 exact Opp.plain (OG.imp (OD.loadInt rfl ti3 rfl (Ent.drop 4 ((em (b) (by omega)).app)) (by omega)) (by rintro _ _ ⟨rfl, rfl⟩; exact ⟨[], rfl, trivial, rfl⟩)) rfl
 intro θ R hd
 obtain ⟨h1d, h11d, _⟩ := hd
 exact Opp.plain (OG.imp (OD.indexAddr rfl et22 rfl (Ent.ints (i := 1) rfl) rfl (by omega)) (by rintro _ _ ⟨rfl, rfl⟩; exact ⟨[], rfl, trivial, rfl⟩)) rfl
 intro θ hall
 obtain ⟨_, _, _, _, _, _, _, _, _, _, _, _, _, _, _, _, _, _, _, _, _, _, _, _⟩ := hall
 refine G.at [] 0 (env' := [(2, .pointer (some ⟨g1, 0, none⟩)), (3, .pointer (some ⟨g2, 0, none⟩)), (32, vb), (33, .int .i64 (((rowC ks vs).length : Nat))), (6, .int .i64 (a)), (34, .int .i64 ((b : Int))), (8, .pointer (some ⟨g8, 0, none⟩)), (39, .int .i64 ((rk (ks.getD (b) 0) : Int))), (40, .int .i64 ((i : Int))), (9, .int .i64 ((i : Int))), (44, .int .i64 ((rk (ks.getD (b) 0) : Int))), (45, .int .i64 ((j : Int))), (69, .int .i64 ((oneD (ks.getD (b) 0)).getD ((((i : Int) * (rk (ks.getD (b) 0) : Int)) + (j : Int) : Int).toNat) 0)), (70, elemPtr v5 1 (((((a + (i : Int)) * r) + a) + (j : Int) : Int).toNat))]) ⟨rfl, rfl, rfl, rfl, rfl, rfl, rfl, rfl, rfl, rfl, rfl, rfl, rfl, rfl, trivial⟩ (own' := box g8 28 [.int .i64 ((rk (ks.getD (b) 0) : Int)), (vs.getD (b) undef)] :: ints 3 v5 ws :: box g2 28 [.int .i64 (r), v5] :: box g1 28 [.int .i64 (0), .slice none 0 0] :: own) rfl ?_
 show G _ _ _ [_] _ _ _ _
 refine G.stepD0 (OD.storeInt rfl ti3 rfl rfl (i := 1) rfl (by omega)) rfl rfl ?_
 refine G.nil (GE.blockN (GE.then_ (GC.region ?_)))
 refine G.stepD (OD.addI rfl rfl rfl (by first | omega | (simp only [List.length_set, List.length_replicate]; omega))) rfl rfl rfl ?_
 refine G.stepD (OD.move rfl rfl) rfl rfl rfl ?_
 refine G.nil ?_
 exact GE.again (j + 1, (ws).set (((((a + (i : Int)) * r) + a) + (j : Int) : Int).toNat) ((oneD (ks.getD (b) 0)).getD ((((i : Int) * (rk (ks.getD (b) 0) : Int)) + (j : Int) : Int).toNat) 0)) (⟨by omega, by rw [List.length_set]; exact hwl, fold_next hw rfl⟩) (by first | omega | (dsimp only; omega)) ⟨rfl, rfl, rfl, rfl, rfl, rfl, rfl, rfl, rfl, rfl, rfl, rfl, trivial⟩ [] 0 rfl
 replace hc10 := of_decide_eq_false hc10
 refine GC.exit (GE.pass (GE.pass (GE.hit (GE.blockN (GE.then_ (GC.region ?_))))))
 refine G.stepD (OD.addI rfl rfl rfl (by omega)) rfl rfl rfl ?_
 refine G.stepD (OD.move rfl rfl) rfl rfl rfl ?_
 refine G.nil ?_
 exact GE.again (i + 1, ws) (⟨by omega, hwl, fold_next hz (by rw [hw, show j = rk (ks.getD b 0) by omega]; rfl)⟩) (by first | omega | (dsimp only; omega)) ⟨rfl, rfl, rfl, rfl, rfl, rfl, rfl, rfl, rfl, trivial⟩ [] 0 rfl
 replace hc9 := of_decide_eq_false hc9
 refine GC.exit (GE.pass (GE.pass (GE.hit (GE.then_ (GC.region ?_)))))
 refine G.stepD (OD.move rfl rfl) rfl rfl rfl ?_
 refine G.stepD (OD.fieldAddr rfl rfl fa28_0) rfl rfl rfl ?_
 refine G.stepD (OD.load rfl ti3 rfl (i := 0) rfl rfl) rfl rfl rfl ?_
 refine G.stepD (OD.addI rfl rfl rfl (by omega)) rfl rfl rfl ?_
 refine G.stepD (OD.assign rfl rfl) rfl rfl rfl ?_
 refine G.nil (GE.blockN (GE.then_ (GC.region ?_)))
 refine G.stepD (OD.addI rfl rfl rfl (by omega)) rfl rfl rfl ?_
 refine G.stepD (OD.move rfl rfl) rfl rfl rfl ?_
 refine G.nil ?_
 exact GE.again (b + 1, a + (rk (ks.getD (b) 0) : Int), zs) (⟨by omega, by rw [rkS_take_succ (by omega), ha]; simp, hzl, fold_next hy (by rw [hz, show i = rk (ks.getD b 0) by omega, ha]; rfl)⟩) (by first | omega | (dsimp only; omega)) ⟨rfl, rfl, rfl, rfl, rfl, rfl, trivial⟩ [1, 1, 1] 1 rfl
 replace hc7 := of_decide_eq_false hc7
 refine GC.exit (GE.pass (GE.pass (GE.hit (GE.then_ (GC.seq (GC.region ?_))))))
 refine G.stepD (OD.loadAgg rfl ti28 rfl (i := 1) rfl (us := [.int .i64 (r), v5]) rfl rfl) rfl rfl rfl ?_
 refine G.stepD0 (OD.store rfl ti28 rfl rfl (us := [.int .i64 (r), v5]) rfl rfl (allC rfl (allC (IsS.one hs6) rfl)) (i := 2) rfl rfl) rfl rfl ?_
 refine G.nil (GE.then_ (GC.ret ?_))
 exact GE.body [0] 2 (resN rfl (RVs.cons (rv_cells ti28 rfl (i := 2) rfl rfl) RVs.nil) rfl) rfl (⟨v5, congrArg (fun (a0 : Int) => (.agg #[.int .i64 (a0), v5] : Value)) ((hrN : (r : Int) = (rkS ks : Nat))), hs6, congrArg (fun (l0 : List Int) => ints 3 v5 l0 :: own) ((by rw [hy, show b = ks.length by omega, hrN]; rfl : ys = joinD ks))⟩)

end Go.Proofs.YtjdkkhlngflgfaaDoor
