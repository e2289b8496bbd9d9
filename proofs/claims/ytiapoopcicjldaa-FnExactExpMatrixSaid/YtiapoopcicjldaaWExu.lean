/-
  Unit matrices, and whether a list is zero: contracts by walks.
-/
import Derived.Test.YtiapoopcicjldaaWMul
import Derived.Test.YtiapoopcicjldaaExv
namespace Go.Proofs.Ytiapoopcicjldaa
set_option linter.unusedVariables false
set_option linter.unusedSimpArgs false
open Go.RowKit



theorem isZero_s {W : World} {own : List Asn} {vx : Value} {x : List Int}  (sx : IsS vx) (ex : Ent own fun w => Ints w vx x)   : Spec Try.prog 98 [vx] W own (fun v ow => v = .bool (zeroB x) ∧ ow = own) := Spec.drewN fun w hs => isZero_any _ _ w (ex W w hs)

set_option maxRecDepth 100000 in
theorem l1IsZero_s {W : World} {own : List Asn} {vx : Value} {x : List Int}  (sx : IsS vx) (ex : Ent own fun w => Ints w vx x)  (hl : x.length ≤ 1073741824) : Spec Try.prog 95 [vx] W own (fun v ow => v = .bool (zeroB x) ∧ ow = own) := by
 refine Spec.enter Try.f95 _ Try.func95 rfl (n := 15) rfl rfl ?_
 refine GC.seq (GC.region ?_)
 refine G.stepD (OD.assign rfl rfl) rfl rfl rfl ?_
 refine G.nil (GE.then_ (GC.seq (GC.seq (GC.region ?_))))
 refine G.stepD (OD.assign rfl rfl) rfl rfl rfl ?_
 refine G.nil (GE.then_ (GC.block ?_))
 refine GC.loop (ι := Nat) (fun k => [(0, vx), (3, .int .i64 ((k : Int)))]) (fun k => own) (fun k => (k ≤ x.length) ∧ (∀ i, i < k → x.getD i 0 = 0)) (fun k => x.length - k) 0 (⟨by omega, fun i hi => absurd hi (by omega)⟩) ⟨rfl, rfl, trivial⟩ [] 0 rfl ?_
 rintro k ⟨hk, hz⟩
 refine GC.seq (GC.seq (GC.region ?_))
 refine G.stepD (OD.move rfl rfl) rfl rfl rfl ?_
 refine G.stepD (OD.move rfl rfl) rfl rfl rfl ?_
 refine G.stepD (OD.len rfl rfl et23 rfl ex) rfl rfl rfl ?_
 refine G.stepD (OD.lss rfl rfl rfl) rfl rfl rfl ?_
 refine G.nil (GE.then_ ?_)
 refine GC.cond rfl (fun hc1 => ?_) (fun hc1 => ?_)
 replace hc1 := of_decide_eq_true hc1
 refine GC.skip (GE.then_ (GC.seq (GC.block (GC.seq (GC.region ?_)))))
 refine G.stepD (OD.move rfl rfl) rfl rfl rfl ?_
 refine G.stepD (OD.move rfl rfl) rfl rfl rfl ?_
 refine G.stepD (OD.indexAddr rfl et23 rfl ex rfl (by omega)) rfl rfl rfl ?_
 refine G.stepD (OD.loadInt rfl ti3 rfl ex (by omega)) rfl rfl rfl ?_
 refine G.stepD (OD.neq rfl rfl rfl) rfl rfl rfl ?_
 refine G.nil (GE.then_ ?_)
 refine GC.cond rfl (fun hc2 => ?_) (fun hc2 => ?_)
 replace hc2 := ne_of_bne hc2
 refine GC.seq (GC.region ?_)
 refine G.stepD (OD.assign rfl rfl) rfl rfl rfl ?_
 refine G.nil (GE.then_ (GC.ret (GE.blockR (GE.passR (GE.passR (GE.blockR (GE.passR ?_)))))))
 exact GE.body [] 0 (res1 rfl rfl) rfl (⟨congrArg (fun (a0 : Bool) => (.bool (a0) : Value)) (((zero_no (by assumption)).symm : (false : Bool) = zeroB x)), rfl⟩)
 replace hc2 := eq_of_bne_false hc2
 refine GC.skip (GE.blockN (GE.then_ (GC.region ?_)))
 refine G.stepD (OD.move rfl rfl) rfl rfl rfl ?_
 refine G.stepD (OD.addI rfl rfl rfl (by omega)) rfl rfl rfl ?_
 refine G.stepD (OD.assign rfl rfl) rfl rfl rfl ?_
 refine G.nil ?_
 exact GE.again (k + 1) (⟨by omega, upto_next hz (by assumption)⟩) (by first | omega | (dsimp only; omega)) ⟨rfl, rfl, trivial⟩ [] 0 rfl
 replace hc1 := of_decide_eq_false hc1
 refine GC.exit (GE.pass (GE.pass (GE.hit (GE.then_ (GC.seq (GC.region ?_))))))
 refine G.stepD (OD.assign rfl rfl) rfl rfl rfl ?_
 refine G.nil (GE.then_ (GC.ret ?_))
 exact GE.body [] 0 (res1 rfl rfl) rfl (⟨congrArg (fun (a0 : Bool) => (.bool (a0) : Value)) (((zero_all fun i hi => hz i (by omega)).symm : (true : Bool) = zeroB x)), rfl⟩)

set_option maxRecDepth 100000 in
theorem unitMatrix_ok {W : World} {own : List Asn} {p : Int} {n : Int}   (hp : primeB p = true) (hn : inB n 0 40 = true) : Spec Try.prog 73 [.int .i64 (p), .int .i64 (n)] W own (fun v ow => ∃ (r3 : Value), v = .agg #[.int .i64 (p), .int .i64 (n), .int .i64 (n), r3] ∧ IsS r3 ∧ ow = ints 3 r3 (unI n) :: own) := by
 have hn40 := inB_true hn
 have hm1 := mulBd (A := 40) (B := 40) hn40 hn40
 refine Spec.enter Try.f73 _ Try.func73 rfl (n := 26) rfl rfl ?_
 refine GC.seq (GC.region ?_)
 refine G.step (OG.alloc rfl ti35 (zs := [.int .i64 (0), .int .i64 (0), .int .i64 (0), .slice none 0 0]) rfl) rfl rfl rfl ?_
 rintro _ _ ⟨g1, rfl, rfl⟩
 refine G.nil (GE.then_ (GC.seq (GC.region ?_)))
 refine G.stepD (OD.move rfl rfl) rfl rfl rfl ?_
 refine G.stepD (OD.move rfl rfl) rfl rfl rfl ?_
 refine G.stepD (OD.move rfl rfl) rfl rfl rfl ?_
 refine G.step (OG.call [.int .i64 (p), .int .i64 (n), .int .i64 (n)] ent58 rfl rfl rfl rfl (by exact (zeroMatrix_ok (hp) (hn) (hn)))) rfl rfl rfl ?_
 rintro _ _ ⟨v2, rfl, hs3, rfl⟩
 refine G.step (OG.alloc rfl ti35 (zs := [.int .i64 (0), .int .i64 (0), .int .i64 (0), .slice none 0 0]) rfl) rfl rfl rfl ?_
 rintro _ _ ⟨g4, rfl, rfl⟩
 refine G.stepD0 (OD.store rfl ti35 rfl rfl (us := [.int .i64 (p), .int .i64 (n), .int .i64 (n), v2]) rfl rfl (allC rfl (allC rfl (allC rfl (allC (IsS.one hs3) rfl)))) (i := 0) rfl rfl) rfl rfl ?_
 refine G.nil (GE.then_ (GC.seq (GC.seq (GC.region ?_))))
 refine G.stepD (OD.fieldAddr rfl rfl fa35_1) rfl rfl rfl ?_
 refine G.stepD (OD.load rfl ti3 rfl (i := 0) rfl rfl) rfl rfl rfl ?_
 refine G.stepD (OD.move rfl rfl) rfl rfl rfl ?_
 refine G.nil (GE.then_ (GC.block ?_))
 refine GC.loop (ι := Nat × List Int) (fun ⟨i, ys⟩ => [(1, .int .i64 (n)), (4, .pointer (some ⟨g1, 0, none⟩)), (5, .pointer (some ⟨g4, 0, none⟩)), (12, .int .i64 (n)), (13, .int .i64 ((i : Int)))]) (fun ⟨i, ys⟩ => box g4 35 [.int .i64 (p), .int .i64 (n), .int .i64 (n), v2] :: ints 3 v2 ys :: box g1 35 [.int .i64 (0), .int .i64 (0), .int .i64 (0), .slice none 0 0] :: own) (fun ⟨i, ys⟩ => ((i : Int) ≤ n) ∧ (ys.length = (n * n).toNat) ∧ (ys = (List.range i).foldl (unS n) (List.replicate (n * n).toNat 0))) (fun ⟨i, ys⟩ => n.toNat - i) (0, (List.replicate (n * n).toNat 0)) (⟨by omega, by simp, rfl⟩) ⟨rfl, rfl, rfl, rfl, rfl, trivial⟩ [] 0 rfl ?_
 rintro ⟨i, ys⟩ ⟨hi, hyl, hy⟩
 refine GC.seq (GC.region ?_)
 refine G.stepD (OD.lss rfl rfl rfl) rfl rfl rfl ?_
 refine G.nil (GE.then_ (GC.seq ?_))
 refine GC.cond rfl (fun hc5 => ?_) (fun hc5 => ?_)
 replace hc5 := of_decide_eq_true hc5
 obtain ⟨hq1, hq2, hq3⟩ := part_bd (n := n) (c := n) (i := i) (by omega) (by omega)
 refine GC.skip (GE.then_ (GC.seq (GC.block (GC.seq (GC.region ?_)))))
 refine G.stepD (OD.move rfl rfl) rfl rfl rfl ?_
 refine G.stepD (OD.assign rfl rfl) rfl rfl rfl ?_
 refine G.nil (GE.then_ (GC.region ?_))
 refine G.stepD (OD.fieldAddr rfl rfl fa35_3) rfl rfl rfl ?_
 refine G.stepD (OD.load rfl ti23 rfl (i := 0) rfl rfl) rfl rfl rfl ?_
 refine G.stepD (OD.move rfl rfl) rfl rfl rfl ?_
 refine G.stepD (OD.move rfl rfl) rfl rfl rfl ?_
 refine G.stepD (OD.mulI rfl rfl rfl (by omega)) rfl rfl rfl ?_
 refine G.stepD (OD.move rfl rfl) rfl rfl rfl ?_
 refine G.stepD (OD.addI rfl rfl rfl (by omega)) rfl rfl rfl ?_
 refine G.stepD (OD.indexAddr rfl et23 rfl (Ent.ints (i := 1) rfl) rfl (by omega)) rfl rfl rfl ?_
 refine G.stepD0 (OD.storeInt rfl ti3 rfl rfl (i := 1) rfl (by omega)) rfl rfl ?_
 refine G.nil (GE.blockN (GE.then_ (GC.region ?_)))
 refine G.stepD (OD.addI rfl rfl rfl (by first | omega | (simp only [List.length_set, List.length_replicate]; omega))) rfl rfl rfl ?_
 refine G.stepD (OD.move rfl rfl) rfl rfl rfl ?_
 refine G.nil ?_
 exact GE.again (i + 1, (ys).set ((((i : Int) * n) + (i : Int) : Int).toNat) (1)) (⟨by omega, by rw [List.length_set]; exact hyl, fold_nx hy rfl⟩) (by first | omega | (dsimp only; omega)) ⟨rfl, rfl, rfl, rfl, rfl, trivial⟩ [] 0 rfl
 replace hc5 := of_decide_eq_false hc5
 refine GC.exit (GE.pass (GE.pass (GE.hit (GE.then_ (GC.seq (GC.region ?_))))))
 refine G.stepD (OD.loadAgg rfl ti35 rfl (i := 0) rfl (us := [.int .i64 (p), .int .i64 (n), .int .i64 (n), v2]) rfl rfl) rfl rfl rfl ?_
 refine G.stepD0 (OD.store rfl ti35 rfl rfl (us := [.int .i64 (p), .int .i64 (n), .int .i64 (n), v2]) rfl rfl (allC rfl (allC rfl (allC rfl (allC (IsS.one hs3) rfl)))) (i := 2) rfl rfl) rfl rfl ?_
 refine G.nil (GE.then_ (GC.ret ?_))
 exact GE.body [1] 2 (resN rfl (RVs.cons (rv_cells ti35 rfl (i := 2) rfl rfl) RVs.nil) rfl) rfl (⟨v2, rfl, hs3, congrArg (fun (l0 : List Int) => ints 3 v2 l0 :: own) ((by rw [hy, show i = n.toNat by omega]; rfl : ys = unI n))⟩)

set_option maxRecDepth 100000 in
theorem l1Unit_ok {W : World} {own : List Asn} {p : Int} {n : Int}   (hp : primeB p = true) (hn : inB n 0 40 = true) : Spec Try.prog 69 [.int .i64 (p), .int .i64 (n)] W own (fun v ow => ∃ (r3 : Value), v = .agg #[.int .i64 (p), .int .i64 (n), .int .i64 (n), r3] ∧ IsS r3 ∧ ow = ints 3 r3 (unI n) :: own) := by
 have hn40 := inB_true hn
 have hm1 := mulBd (A := 40) (B := 40) hn40 hn40
 refine Spec.enter Try.f69 _ Try.func69 rfl (n := 25) rfl rfl ?_
 refine GC.seq (GC.region ?_)
 refine G.step (OG.alloc rfl ti35 (zs := [.int .i64 (0), .int .i64 (0), .int .i64 (0), .slice none 0 0]) rfl) rfl rfl rfl ?_
 rintro _ _ ⟨g1, rfl, rfl⟩
 refine G.nil (GE.then_ (GC.seq (GC.region ?_)))
 refine G.stepD (OD.move rfl rfl) rfl rfl rfl ?_
 refine G.stepD (OD.move rfl rfl) rfl rfl rfl ?_
 refine G.stepD (OD.move rfl rfl) rfl rfl rfl ?_
 refine G.step (OG.call [.int .i64 (p), .int .i64 (n), .int .i64 (n)] ent68 rfl rfl rfl rfl (by exact (l1Zero_w (by omega)))) rfl rfl rfl ?_
 rintro _ _ ⟨v2, rfl, hs3, rfl⟩
 refine G.step (OG.alloc rfl ti35 (zs := [.int .i64 (0), .int .i64 (0), .int .i64 (0), .slice none 0 0]) rfl) rfl rfl rfl ?_
 rintro _ _ ⟨g4, rfl, rfl⟩
 refine G.stepD0 (OD.store rfl ti35 rfl rfl (us := [.int .i64 (p), .int .i64 (n), .int .i64 (n), v2]) rfl rfl (allC rfl (allC rfl (allC rfl (allC (IsS.one hs3) rfl)))) (i := 0) rfl rfl) rfl rfl ?_
 refine G.nil (GE.then_ (GC.seq (GC.seq (GC.region ?_))))
 refine G.stepD (OD.assign rfl rfl) rfl rfl rfl ?_
 refine G.nil (GE.then_ (GC.block ?_))
 refine GC.loop (ι := Nat × List Int) (fun ⟨i, ys⟩ => [(1, .int .i64 (n)), (4, .pointer (some ⟨g1, 0, none⟩)), (5, .pointer (some ⟨g4, 0, none⟩)), (6, .int .i64 ((i : Int)))]) (fun ⟨i, ys⟩ => box g4 35 [.int .i64 (p), .int .i64 (n), .int .i64 (n), v2] :: ints 3 v2 ys :: box g1 35 [.int .i64 (0), .int .i64 (0), .int .i64 (0), .slice none 0 0] :: own) (fun ⟨i, ys⟩ => ((i : Int) ≤ n) ∧ (ys.length = (n * n).toNat) ∧ (ys = (List.range i).foldl (unS n) (List.replicate (n * n).toNat 0))) (fun ⟨i, ys⟩ => n.toNat - i) (0, (List.replicate (n * n).toNat 0)) (⟨by omega, by simp, rfl⟩) ⟨rfl, rfl, rfl, rfl, trivial⟩ [] 0 rfl ?_
 rintro ⟨i, ys⟩ ⟨hi, hyl, hy⟩
 refine GC.seq (GC.seq (GC.region ?_))
 refine G.stepD (OD.move rfl rfl) rfl rfl rfl ?_
 refine G.stepD (OD.move rfl rfl) rfl rfl rfl ?_
 refine G.stepD (OD.lss rfl rfl rfl) rfl rfl rfl ?_
 refine G.nil (GE.then_ ?_)
 refine GC.cond rfl (fun hc5 => ?_) (fun hc5 => ?_)
 replace hc5 := of_decide_eq_true hc5
 obtain ⟨hq1, hq2, hq3⟩ := part_bd (n := n) (c := n) (i := i) (by omega) (by omega)
 refine GC.skip (GE.then_ (GC.seq (GC.block (GC.region ?_))))
 refine G.stepD (OD.fieldAddr rfl rfl fa35_3) rfl rfl rfl ?_
 refine G.stepD (OD.load rfl ti23 rfl (i := 0) rfl rfl) rfl rfl rfl ?_
 refine G.stepD (OD.move rfl rfl) rfl rfl rfl ?_
 refine G.stepD (OD.move rfl rfl) rfl rfl rfl ?_
 refine G.stepD (OD.mulI rfl rfl rfl (by omega)) rfl rfl rfl ?_
 refine G.stepD (OD.move rfl rfl) rfl rfl rfl ?_
 refine G.stepD (OD.addI rfl rfl rfl (by omega)) rfl rfl rfl ?_
 refine G.stepD (OD.indexAddr rfl et23 rfl (Ent.ints (i := 1) rfl) rfl (by omega)) rfl rfl rfl ?_
 refine G.stepD0 (OD.storeInt rfl ti3 rfl rfl (i := 1) rfl (by omega)) rfl rfl ?_
 refine G.nil (GE.blockN (GE.then_ (GC.region ?_)))
 refine G.stepD (OD.move rfl rfl) rfl rfl rfl ?_
 refine G.stepD (OD.addI rfl rfl rfl (by first | omega | (simp only [List.length_set, List.length_replicate]; omega))) rfl rfl rfl ?_
 refine G.stepD (OD.assign rfl rfl) rfl rfl rfl ?_
 refine G.nil ?_
 exact GE.again (i + 1, (ys).set ((((i : Int) * n) + (i : Int) : Int).toNat) (1)) (⟨by omega, by rw [List.length_set]; exact hyl, fold_nx hy rfl⟩) (by first | omega | (dsimp only; omega)) ⟨rfl, rfl, rfl, rfl, trivial⟩ [] 0 rfl
 replace hc5 := of_decide_eq_false hc5
 refine GC.exit (GE.pass (GE.pass (GE.hit (GE.then_ (GC.seq (GC.region ?_))))))
 refine G.stepD (OD.loadAgg rfl ti35 rfl (i := 0) rfl (us := [.int .i64 (p), .int .i64 (n), .int .i64 (n), v2]) rfl rfl) rfl rfl rfl ?_
 refine G.stepD0 (OD.store rfl ti35 rfl rfl (us := [.int .i64 (p), .int .i64 (n), .int .i64 (n), v2]) rfl rfl (allC rfl (allC rfl (allC rfl (allC (IsS.one hs3) rfl)))) (i := 2) rfl rfl) rfl rfl ?_
 refine G.nil (GE.then_ (GC.ret ?_))
 exact GE.body [1] 2 (resN rfl (RVs.cons (rv_cells ti35 rfl (i := 2) rfl rfl) RVs.nil) rfl) rfl (⟨v2, rfl, hs3, congrArg (fun (l0 : List Int) => ints 3 v2 l0 :: own) ((by rw [hy, show i = n.toNat by omega]; rfl : ys = unI n))⟩)

end Go.Proofs.Ytiapoopcicjldaa
