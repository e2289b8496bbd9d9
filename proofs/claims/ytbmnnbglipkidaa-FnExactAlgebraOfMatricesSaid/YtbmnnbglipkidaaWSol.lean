/-
  Transposed matrices, systems and tables by the second text: contracts by walks.
-/
import Derived.Test.YtbmnnbglipkidaaWRds
import Derived.Test.YtbmnnbglipkidaaSol
namespace Go.Proofs.Ytbmnnbglipkidaa
set_option linter.unusedVariables false
set_option linter.unusedSimpArgs false
open Go.RowKit
theorem et39 : ET Try.prog 39 24 1 24 (.slice none 0 0) := ⟨Try.underlying39, by kernel_rfl, rfl, by omega⟩
theorem ent16 : ∀ us w, (callFunc 16 us).run Try.prog w = .ok (.enter 16 us) w := fun us w => by kernel_rfl
theorem ent42 : ∀ us w, (callFunc 42 us).run Try.prog w = .ok (.enter 42 us) w := fun us w => by kernel_rfl
theorem ent43 : ∀ us w, (callFunc 43 us).run Try.prog w = .ok (.enter 43 us) w := fun us w => by kernel_rfl
theorem ent58 : ∀ us w, (callFunc 58 us).run Try.prog w = .ok (.enter 58 us) w := fun us w => by kernel_rfl
set_option maxRecDepth 100000 in
theorem l1ZeroF_w {W : World} {own : List Asn} {p : Int} {r : Int} {c : Int}  {n C : Nat} (hr : r = (n : Int)) (hc : c = (C : Int)) (hnC : ((n * C : Nat) : Int) ≤ 4000000) : Spec Try.prog 57 [.int .i64 (p), .int .i64 (r), .int .i64 (c)] W own (fun v ow => ∃ (r3 : Value), v = .agg #[.int .i64 (p), .int .i64 (r), .int .i64 (c), r3] ∧ IsS r3 ∧ ow = ints 3 r3 (List.replicate (n * C) 0) :: own) := by
 have hrc : r * c = ((n * C : Nat) : Int) := by rw [hr, hc]; exact (Int.natCast_mul ..).symm
 have hrc0 : 0 ≤ r * c ∧ r * c ≤ 4000000 := by rw [hrc]; exact ⟨Int.natCast_nonneg _, hnC⟩
 refine Spec.enter Try.f57 _ Try.func57 rfl (n := 15) rfl rfl ?_
 refine GC.seq (GC.region ?_)
 refine G.step (OG.alloc rfl ti41 (zs := [.int .i64 (0), .int .i64 (0), .int .i64 (0), .slice none 0 0]) rfl) rfl rfl rfl ?_
 rintro _ _ ⟨g1, rfl, rfl⟩
 refine G.nil (GE.then_ (GC.seq (GC.region ?_)))
 refine G.stepD (OD.move rfl rfl) rfl rfl rfl ?_
 refine G.stepD (OD.move rfl rfl) rfl rfl rfl ?_
 refine G.stepD (OD.move rfl rfl) rfl rfl rfl ?_
 refine G.stepD (OD.move rfl rfl) rfl rfl rfl ?_
 refine G.stepD (OD.move rfl rfl) rfl rfl rfl ?_
 refine G.stepD (OD.mulI rfl rfl rfl (by omega)) rfl rfl rfl ?_
 refine G.step (OG.makeInts rfl et24 rfl rfl (by omega)) rfl rfl rfl ?_
 rintro v2 _ ⟨hs3, rfl⟩
 refine G.stepD (OD.build (idx := [0, 1, 2, 3]) (xs := [.tmp 7, .tmp 8, .tmp 9, .tmp 13]) (vs := [.int .i64 (p), .int .i64 (r), .int .i64 (c), v2]) (cs := [[.int .i64 (p)], [.int .i64 (r)], [.int .i64 (c)], [v2]]) (zs := [.int .i64 (0), .int .i64 (0), .int .i64 (0), .slice none 0 0]) (r := [.int .i64 (p), .int .i64 (r), .int .i64 (c), v2]) rfl ti41 rfl rfl rfl ⟨rfl, ⟨rfl, ⟨rfl, ⟨(one_cells (IsS.one hs3)), trivial⟩⟩⟩⟩ rfl) rfl rfl rfl ?_
 refine G.stepD0 (OD.store rfl ti41 rfl rfl (us := [.int .i64 (p), .int .i64 (r), .int .i64 (c), v2]) rfl rfl (allC rfl (allC rfl (allC rfl (allC (IsS.one hs3) rfl)))) (i := 1) rfl rfl) rfl rfl ?_
 refine G.nil (GE.then_ (GC.ret ?_))
 exact GE.body [0] 1 (resN rfl (RVs.cons (rv_cells ti41 rfl (i := 1) rfl rfl) RVs.nil) rfl) rfl (⟨v2, rfl, hs3, congrArg (fun (l0 : List Int) => ints 3 v2 l0 :: own) ((by rw [hrc]; rfl : List.replicate (r * c : Int).toNat (0 : Int) = List.replicate (n * C) 0))⟩)
set_option maxHeartbeats 4000000 in
set_option maxRecDepth 100000 in
theorem l1Transpose_w {W : World} {own : List Asn} {ap : Int} {ar : Int} {ac : Int} {vad : Value} {ad : List Int}  (sad : IsS vad) (ead : Ent own fun w => Ints w vad ad) {n m : Nat} {M : List (List Int)} (har : ar = (n : Int)) (hac : ac = (m : Int)) (hF : FI ad n m (at2 M)) (hnC : ((m * n : Nat) : Int) ≤ 4000000) (hnn : n ≤ 2000 ∧ m ≤ 2000) : Spec Try.prog 42 [.agg #[.int .i64 (ap), .int .i64 (ar), .int .i64 (ac), vad]] W own (fun v ow => ∃ (r3 : Value), v = .agg #[.int .i64 (ap), .int .i64 (ac), .int .i64 (ar), r3] ∧ IsS r3 ∧ ow = ints 3 r3 (trD n m M) :: own) := by
 have hnC2 : ((n * m : Nat) : Int) ≤ 4000000 := by rw [Nat.mul_comm]; exact hnC
 refine Spec.enter Try.f42 _ Try.func42 rfl (n := 39) rfl rfl ?_
 refine GC.seq (GC.region ?_)
 refine G.step (OG.box (cs := [.int .i64 (ap), .int .i64 (ar), .int .i64 (ac), vad]) rfl rfl rfl) rfl rfl rfl ?_
 rintro _ _ ⟨g1, rfl, rfl⟩
 refine G.step (OG.alloc rfl ti41 (zs := [.int .i64 (0), .int .i64 (0), .int .i64 (0), .slice none 0 0]) rfl) rfl rfl rfl ?_
 rintro _ _ ⟨g2, rfl, rfl⟩
 refine G.nil (GE.then_ (GC.seq (GC.region ?_)))
 refine G.stepD (OD.fieldAddr rfl rfl fa41_0) rfl rfl rfl ?_
 refine G.stepD (OD.load rfl ti3 rfl (i := 1) rfl rfl) rfl rfl rfl ?_
 refine G.stepD (OD.fieldAddr rfl rfl fa41_2) rfl rfl rfl ?_
 refine G.stepD (OD.load rfl ti3 rfl (i := 1) rfl rfl) rfl rfl rfl ?_
 refine G.stepD (OD.fieldAddr rfl rfl fa41_1) rfl rfl rfl ?_
 refine G.stepD (OD.load rfl ti3 rfl (i := 1) rfl rfl) rfl rfl rfl ?_
 refine G.step (OG.call [.int .i64 (ap), .int .i64 (ac), .int .i64 (ar)] ent57 rfl rfl rfl rfl (by exact (l1ZeroF_w (n := m) (C := n) (hac) (har) (hnC)))) rfl rfl rfl ?_
 rintro _ _ ⟨v3, rfl, hs4, rfl⟩
 refine G.step (OG.alloc rfl ti41 (zs := [.int .i64 (0), .int .i64 (0), .int .i64 (0), .slice none 0 0]) rfl) rfl rfl rfl ?_
 rintro _ _ ⟨g5, rfl, rfl⟩
 refine G.stepD0 (OD.store rfl ti41 rfl rfl (us := [.int .i64 (ap), .int .i64 (ac), .int .i64 (ar), v3]) rfl rfl (allC rfl (allC rfl (allC rfl (allC (IsS.one hs4) rfl)))) (i := 0) rfl rfl) rfl rfl ?_
 refine G.nil (GE.then_ (GC.seq (GC.seq (GC.region ?_))))
 refine G.stepD (OD.assign rfl rfl) rfl rfl rfl ?_
 refine G.nil (GE.then_ (GC.block ?_))
 refine GC.loop (ι := Nat × List Int) (fun ⟨i, d⟩ => [(1, .pointer (some ⟨g1, 0, none⟩)), (2, .pointer (some ⟨g2, 0, none⟩)), (3, .pointer (some ⟨g5, 0, none⟩)), (4, .int .i64 ((i : Int)))]) (fun ⟨i, d⟩ => box g5 41 [.int .i64 (ap), .int .i64 (ac), .int .i64 (ar), v3] :: ints 3 v3 d :: box g2 41 [.int .i64 (0), .int .i64 (0), .int .i64 (0), .slice none 0 0] :: box g1 41 [.int .i64 (ap), .int .i64 (ar), .int .i64 (ac), vad] :: own) (fun ⟨i, d⟩ => (i ≤ n) ∧ (FI d m n (trG M i 0))) (fun ⟨i, d⟩ => n - i) (0, List.replicate (m * n) 0) (⟨by omega, FI.tr0⟩) ⟨rfl, rfl, rfl, rfl, trivial⟩ [] 0 rfl ?_
 rintro ⟨i, d⟩ ⟨hi, hG⟩
 refine GC.seq (GC.seq (GC.region ?_))
 refine G.stepD (OD.move rfl rfl) rfl rfl rfl ?_
 refine G.stepD (OD.fieldAddr rfl rfl fa41_1) rfl rfl rfl ?_
 refine G.stepD (OD.load rfl ti3 rfl (i := 3) rfl rfl) rfl rfl rfl ?_
 refine G.stepD (OD.lss rfl rfl rfl) rfl rfl rfl ?_
 refine G.nil (GE.then_ ?_)
 refine GC.cond rfl (fun hc6 => ?_) (fun hc6 => ?_)
 replace hc6 := of_decide_eq_true hc6
 refine GC.skip (GE.then_ (GC.seq (GC.block (GC.seq (GC.region ?_)))))
 refine G.stepD (OD.assign rfl rfl) rfl rfl rfl ?_
 refine G.nil (GE.then_ (GC.block ?_))
 refine GC.loop (ι := Nat × List Int) (fun ⟨j, d1⟩ => [(1, .pointer (some ⟨g1, 0, none⟩)), (2, .pointer (some ⟨g2, 0, none⟩)), (3, .pointer (some ⟨g5, 0, none⟩)), (4, .int .i64 ((i : Int))), (5, .int .i64 ((j : Int)))]) (fun ⟨j, d1⟩ => box g5 41 [.int .i64 (ap), .int .i64 (ac), .int .i64 (ar), v3] :: ints 3 v3 d1 :: box g2 41 [.int .i64 (0), .int .i64 (0), .int .i64 (0), .slice none 0 0] :: box g1 41 [.int .i64 (ap), .int .i64 (ar), .int .i64 (ac), vad] :: own) (fun ⟨j, d1⟩ => (j ≤ m) ∧ (FI d1 m n (trG M i j))) (fun ⟨j, d1⟩ => m - j) (0, d) (⟨by omega, hG⟩) ⟨rfl, rfl, rfl, rfl, rfl, trivial⟩ [] 0 rfl ?_
 rintro ⟨j, d1⟩ ⟨hj, hG1⟩
 have hdl := hG1.1
 refine GC.seq (GC.seq (GC.region ?_))
 refine G.stepD (OD.move rfl rfl) rfl rfl rfl ?_
 refine G.stepD (OD.fieldAddr rfl rfl fa41_2) rfl rfl rfl ?_
 refine G.stepD (OD.load rfl ti3 rfl (i := 3) rfl rfl) rfl rfl rfl ?_
 refine G.stepD (OD.lss rfl rfl rfl) rfl rfl rfl ?_
 refine G.nil (GE.then_ ?_)
 refine GC.cond rfl (fun hc7 => ?_) (fun hc7 => ?_)
 replace hc7 := of_decide_eq_true hc7
 refine GC.skip (GE.then_ (GC.seq (GC.block ?_)))
 obtain ⟨q, hq, hqx, hqy, hqz, hql⟩ := ixF har (show j < m by omega) (show i < n by omega) hnC
 refine GC.at [] 0 (env' := [(1, .pointer (some ⟨g1, 0, none⟩)), (2, .pointer (some ⟨g2, 0, none⟩)), (3, .pointer (some ⟨g5, 0, none⟩)), (4, .int .i64 ((i : Int))), (5, .int .i64 ((j : Int)))]) ⟨rfl, rfl, rfl, rfl, rfl, trivial⟩ rfl ?_
 refine GC.par (its := [⟨25, [], [], [], [], fun _ => .pointer (some ⟨g5, 3, none⟩), fun _ => True, fun _ => []⟩,
     ⟨26, [(0, 25)], [], [], [], fun _ => v3, fun _ => True, fun _ => []⟩,
     ⟨27, [], [], [], [], fun _ => .int .i64 ((j : Int)), fun _ => True, fun _ => []⟩,
     ⟨28, [], [], [], [], fun _ => .pointer (some ⟨g1, 1, none⟩), fun _ => True, fun _ => []⟩,
     ⟨29, [(3, 28)], [], [], [], fun _ => .int .i64 (ar), fun _ => True, fun _ => []⟩,
     ⟨30, [(2, 27), (4, 29)], [], [], [], fun _ => .int .i64 ((j : Int) * ar), fun _ => True, fun _ => []⟩,
     ⟨31, [], [], [], [], fun _ => .int .i64 ((i : Int)), fun _ => True, fun _ => []⟩,
     ⟨32, [(5, 30), (6, 31)], [], [], [], fun _ => .int .i64 ((q : Int)), fun _ => True, fun _ => []⟩,
     ⟨33, [], [], [], [], fun _ => .agg #[.int .i64 (ap), .int .i64 (ar), .int .i64 (ac), vad], fun _ => True, fun _ => []⟩,
     ⟨34, [], [], [], [], fun _ => .int .i64 ((i : Int)), fun _ => True, fun _ => []⟩,
     ⟨35, [], [], [], [], fun _ => .int .i64 ((j : Int)), fun _ => True, fun _ => []⟩,
     ⟨36, [(8, 33), (9, 34), (10, 35)], [], [], [], fun _ => .int .i64 (at2 M i j), fun _ => True, fun _ => []⟩,
     ⟨37, [(1, 26), (7, 32)], [], [], [], fun _ => elemPtr v3 1 (q), fun _ => True, fun _ => []⟩]) (by kernel_rfl) (by kernel_rfl) (POps.cons ?_ (POps.cons ?_ (POps.cons ?_ (POps.cons ?_ (POps.cons ?_ (POps.cons ?_ (POps.cons ?_ (POps.cons ?_ (POps.cons ?_ (POps.cons ?_ (POps.cons ?_ (POps.cons ?_ (POps.cons ?_ POps.nil))))))))))))) ?_
 intro θ R hd
 exact Opp.plain (OG.imp (OD.fieldAddr rfl rfl fa41_3) (by rintro _ _ ⟨rfl, rfl⟩; exact ⟨[], rfl, trivial, rfl⟩)) rfl
 intro θ R hd
 obtain ⟨h0d, _⟩ := hd
 exact Opp.plain (OG.imp (OD.load rfl ti24 rfl (i := 0) rfl rfl) (by rintro _ _ ⟨rfl, rfl⟩; exact ⟨[], rfl, trivial, rfl⟩)) rfl
 intro θ R hd
 exact Opp.plain (OG.imp (OD.move rfl rfl) (by rintro _ _ ⟨rfl, rfl⟩; exact ⟨[], rfl, trivial, rfl⟩)) rfl
 intro θ R hd
 exact Opp.plain (OG.imp (OD.fieldAddr rfl rfl fa41_1) (by rintro _ _ ⟨rfl, rfl⟩; exact ⟨[], rfl, trivial, rfl⟩)) rfl
 intro θ R hd
 obtain ⟨h3d, _⟩ := hd
 exact Opp.plain (OG.imp (OD.load rfl ti3 rfl (i := 3) rfl rfl) (by rintro _ _ ⟨rfl, rfl⟩; exact ⟨[], rfl, trivial, rfl⟩)) rfl
 intro θ R hd
 obtain ⟨h2d, h4d, _⟩ := hd
 exact Opp.plain (OG.imp (OD.mulI rfl rfl rfl (by omega)) (by rintro _ _ ⟨rfl, rfl⟩; exact ⟨[], rfl, trivial, rfl⟩)) rfl
 intro θ R hd
 exact Opp.plain (OG.imp (OD.move rfl rfl) (by rintro _ _ ⟨rfl, rfl⟩; exact ⟨[], rfl, trivial, rfl⟩)) rfl
 intro θ R hd
 obtain ⟨h5d, h6d, _⟩ := hd
 exact Opp.plain (OG.imp (OD.eqv (OD.addI rfl rfl rfl (by omega)) (congrArg (Value.int .i64) ((hqx) : (((j : Int) * ar) + (i : Int) : Int) = ((q : Int))))) (by rintro _ _ ⟨rfl, rfl⟩; exact ⟨[], rfl, trivial, rfl⟩)) rfl
 intro θ R hd
 exact Opp.plain (OG.imp (OD.loadAgg rfl ti41 rfl (i := 3) rfl (us := [.int .i64 (ap), .int .i64 (ar), .int .i64 (ac), vad]) rfl rfl) (by rintro _ _ ⟨rfl, rfl⟩; exact ⟨[], rfl, trivial, rfl⟩)) rfl
 intro θ R hd
 exact Opp.plain (OG.imp (OD.move rfl rfl) (by rintro _ _ ⟨rfl, rfl⟩; exact ⟨[], rfl, trivial, rfl⟩)) rfl
 intro θ R hd
 exact Opp.plain (OG.imp (OD.move rfl rfl) (by rintro _ _ ⟨rfl, rfl⟩; exact ⟨[], rfl, trivial, rfl⟩)) rfl
 intro θ R hd
 obtain ⟨h8d, h9d, h10d, _⟩ := hd
 exact Opp.plain (OG.imp (OG.call [.agg #[.int .i64 (ap), .int .i64 (ar), .int .i64 (ac), vad], .int .i64 ((i : Int)), .int .i64 ((j : Int))] ent36 rfl rfl rfl rfl (by exact (l1AtF_w sad (Ent.drop 4 ead.app) (f := at2 M) (hF) (hac) (by omega) (by omega) (hnC2)))) (by rintro _ _ ⟨rfl, rfl⟩; exact ⟨[], rfl, trivial, rfl⟩)) rfl
 intro θ R hd
 obtain ⟨h1d, h7d, _⟩ := hd
 exact Opp.plain (OG.imp (OD.indexAddr rfl et24 rfl (Ent.ints (i := 1) rfl) rfl (by omega)) (by rintro _ _ ⟨rfl, rfl⟩; exact ⟨[], rfl, trivial, rfl⟩)) rfl
 intro θ hall
 obtain ⟨_, _, _, _, _, _, _, _, _, _, _, _, _, _⟩ := hall
 refine G.at [] 0 (env' := [(1, .pointer (some ⟨g1, 0, none⟩)), (2, .pointer (some ⟨g2, 0, none⟩)), (3, .pointer (some ⟨g5, 0, none⟩)), (4, .int .i64 ((i : Int))), (5, .int .i64 ((j : Int))), (36, .int .i64 (at2 M i j)), (37, elemPtr v3 1 (q))]) ⟨rfl, rfl, rfl, rfl, rfl, rfl, rfl, trivial⟩ (own' := box g5 41 [.int .i64 (ap), .int .i64 (ac), .int .i64 (ar), v3] :: ints 3 v3 d1 :: box g2 41 [.int .i64 (0), .int .i64 (0), .int .i64 (0), .slice none 0 0] :: box g1 41 [.int .i64 (ap), .int .i64 (ar), .int .i64 (ac), vad] :: own) rfl ?_
 show G _ _ _ [_] _ _ _ _
 refine G.stepD0 (OD.storeInt rfl ti3 rfl rfl (i := 1) rfl (by omega)) rfl rfl ?_
 refine G.nil (GE.blockN (GE.then_ (GC.region ?_)))
 refine G.stepD (OD.move rfl rfl) rfl rfl rfl ?_
 refine G.stepD (OD.addI rfl rfl rfl (by first | omega | (simp only [List.length_set, List.length_replicate]; omega))) rfl rfl rfl ?_
 refine G.stepD (OD.assign rfl rfl) rfl rfl rfl ?_
 refine G.nil ?_
 exact GE.again (j + 1, (d1).set (q) (at2 M i j)) (⟨by omega, by rw [hq]; exact hG1.trS (by omega) (by omega)⟩) (by first | omega | (dsimp only; omega)) ⟨rfl, rfl, rfl, rfl, rfl, trivial⟩ [] 0 rfl
 replace hc7 := of_decide_eq_false hc7
 refine GC.exit (GE.pass (GE.pass (GE.hit (GE.blockN (GE.then_ (GC.region ?_))))))
 refine G.stepD (OD.move rfl rfl) rfl rfl rfl ?_
 refine G.stepD (OD.addI rfl rfl rfl (by omega)) rfl rfl rfl ?_
 refine G.stepD (OD.assign rfl rfl) rfl rfl rfl ?_
 refine G.nil ?_
 exact GE.again (i + 1, d1) (⟨by omega, hG1.trR (by omega)⟩) (by first | omega | (dsimp only; omega)) ⟨rfl, rfl, rfl, rfl, trivial⟩ [] 0 rfl
 replace hc6 := of_decide_eq_false hc6
 refine GC.exit (GE.pass (GE.pass (GE.hit (GE.then_ (GC.seq (GC.region ?_))))))
 refine G.stepD (OD.loadAgg rfl ti41 rfl (i := 0) rfl (us := [.int .i64 (ap), .int .i64 (ac), .int .i64 (ar), v3]) rfl rfl) rfl rfl rfl ?_
 refine G.stepD0 (OD.store rfl ti41 rfl rfl (us := [.int .i64 (ap), .int .i64 (ac), .int .i64 (ar), v3]) rfl rfl (allC rfl (allC rfl (allC rfl (allC (IsS.one hs4) rfl)))) (i := 2) rfl rfl) rfl rfl ?_
 refine G.nil (GE.then_ (GC.ret ?_))
 exact GE.body [1] 3 (resN rfl (RVs.cons (rv_cells ti41 rfl (i := 2) rfl rfl) RVs.nil) rfl) rfl (⟨v3, rfl, hs4, congrArg (fun (l0 : List Int) => ints 3 v3 l0 :: own) ((hG.trE (by omega) : d = trD n m M))⟩)
set_option maxHeartbeats 4000000 in
set_option maxRecDepth 100000 in
theorem l1Solve_w {W : World} {own : List Asn} {ap : Int} {ar : Int} {ac : Int} {vad : Value} {ad : List Int} {vx : Value} {x : List Int}  (sad : IsS vad) (ead : Ent own fun w => Ints w vad ad)   (sx : IsS vx) (ex : Ent own fun w => Ints w vx x) {n m : Nat} {M : List (List Int)} (hpp : primeB ap = true) (har : ar = (m : Int)) (hac : ac = (n : Int)) (hM : RwI ap n m M) (hF : FI ad m n fun i k => at2 M k i) (hxl : x.length = m) (hxr : ∀ j, 0 ≤ x.getD j 0 ∧ x.getD j 0 < ap) (hnm : n ≤ 28 ∧ m ≤ 1600) : Spec Try.prog 43 [.agg #[.int .i64 (ap), .int .i64 (ar), .int .i64 (ac), vad], vx] W own (fun v ow => ∃ (r0 : Value), v = .tuple #[r0, .bool (slB ap m M x)] ∧ IsS r0 ∧ ow = ints 3 r0 (slR ap m M x) :: own) := by
 have hp2 := primeB_range hpp
 have hnC : ((m * n : Nat) : Int) ≤ 4000000 := by have := Nat.mul_le_mul hnm.2 hnm.1; omega
 have hnC1 : ((m * (n + 1) : Nat) : Int) ≤ 4000000 := by have := Nat.mul_le_mul hnm.2 (show n + 1 ≤ 29 by omega); omega
 have hac1 : ac + 1 = ((n + 1 : Nat) : Int) := by omega
 have hA := aug_I hpp hM hxr
 have hur := red1_I hpp hM hxr
 refine Spec.enter Try.f43 _ Try.func43 rfl (n := 93) rfl rfl ?_
 refine GC.seq (GC.region ?_)
 refine G.step (OG.box (cs := [.int .i64 (ap), .int .i64 (ar), .int .i64 (ac), vad]) rfl rfl rfl) rfl rfl rfl ?_
 rintro _ _ ⟨g1, rfl, rfl⟩
 refine G.stepD (OD.assign rfl rfl) rfl rfl rfl ?_
 refine G.stepD (OD.assign rfl rfl) rfl rfl rfl ?_
 refine G.nil (GE.then_ (GC.seq (GC.region ?_)))
 refine G.stepD (OD.fieldAddr rfl rfl fa41_0) rfl rfl rfl ?_
 refine G.stepD (OD.load rfl ti3 rfl (i := 0) rfl rfl) rfl rfl rfl ?_
 refine G.stepD (OD.fieldAddr rfl rfl fa41_1) rfl rfl rfl ?_
 refine G.stepD (OD.load rfl ti3 rfl (i := 0) rfl rfl) rfl rfl rfl ?_
 refine G.stepD (OD.fieldAddr rfl rfl fa41_2) rfl rfl rfl ?_
 refine G.stepD (OD.load rfl ti3 rfl (i := 0) rfl rfl) rfl rfl rfl ?_
 refine G.stepD (OD.addI rfl rfl rfl (by omega)) rfl rfl rfl ?_
 refine G.step (OG.call [.int .i64 (ap), .int .i64 (ar), .int .i64 (ac + 1)] ent57 rfl rfl rfl rfl (by exact (l1ZeroF_w (n := m) (C := (n + 1)) (har) (hac1) (hnC1)))) rfl rfl rfl ?_
 rintro _ _ ⟨v2, rfl, hs3, rfl⟩
 refine G.step (OG.alloc rfl ti41 (zs := [.int .i64 (0), .int .i64 (0), .int .i64 (0), .slice none 0 0]) rfl) rfl rfl rfl ?_
 rintro _ _ ⟨g4, rfl, rfl⟩
 refine G.stepD0 (OD.store rfl ti41 rfl rfl (us := [.int .i64 (ap), .int .i64 (ar), .int .i64 (ac + 1), v2]) rfl rfl (allC rfl (allC rfl (allC rfl (allC (IsS.one hs3) rfl)))) (i := 0) rfl rfl) rfl rfl ?_
 refine G.nil (GE.then_ (GC.seq (GC.seq (GC.region ?_))))
 refine G.stepD (OD.assign rfl rfl) rfl rfl rfl ?_
 refine G.nil (GE.then_ (GC.block ?_))
 refine GC.loop (ι := Nat × List Int) (fun ⟨i, d⟩ => [(1, vx), (2, .pointer (some ⟨g1, 0, none⟩)), (6, .pointer (some ⟨g4, 0, none⟩)), (7, .int .i64 ((i : Int)))]) (fun ⟨i, d⟩ => box g4 41 [.int .i64 (ap), .int .i64 (ar), .int .i64 (ac + 1), v2] :: ints 3 v2 d :: box g1 41 [.int .i64 (ap), .int .i64 (ar), .int .i64 (ac), vad] :: own) (fun ⟨i, d⟩ => (i ≤ m) ∧ (FI d m (n + 1) (agG n M x i 0))) (fun ⟨i, d⟩ => m - i) (0, List.replicate (m * (n + 1)) 0) (⟨by omega, FI.ag0⟩) ⟨rfl, rfl, rfl, rfl, trivial⟩ [] 0 rfl ?_
 rintro ⟨i, d⟩ ⟨hi, hG⟩
 refine GC.seq (GC.seq (GC.region ?_))
 refine G.stepD (OD.move rfl rfl) rfl rfl rfl ?_
 refine G.stepD (OD.fieldAddr rfl rfl fa41_1) rfl rfl rfl ?_
 refine G.stepD (OD.load rfl ti3 rfl (i := 2) rfl rfl) rfl rfl rfl ?_
 refine G.stepD (OD.lss rfl rfl rfl) rfl rfl rfl ?_
 refine G.nil (GE.then_ ?_)
 refine GC.cond rfl (fun hc5 => ?_) (fun hc5 => ?_)
 replace hc5 := of_decide_eq_true hc5
 refine GC.skip (GE.then_ (GC.seq (GC.block (GC.seq (GC.seq (GC.region ?_))))))
 refine G.stepD (OD.assign rfl rfl) rfl rfl rfl ?_
 refine G.nil (GE.then_ (GC.block ?_))
 refine GC.loop (ι := Nat × List Int) (fun ⟨j, d1⟩ => [(1, vx), (2, .pointer (some ⟨g1, 0, none⟩)), (6, .pointer (some ⟨g4, 0, none⟩)), (7, .int .i64 ((i : Int))), (8, .int .i64 ((j : Int)))]) (fun ⟨j, d1⟩ => box g4 41 [.int .i64 (ap), .int .i64 (ar), .int .i64 (ac + 1), v2] :: ints 3 v2 d1 :: box g1 41 [.int .i64 (ap), .int .i64 (ar), .int .i64 (ac), vad] :: own) (fun ⟨j, d1⟩ => (j ≤ n) ∧ (FI d1 m (n + 1) (agG n M x i j))) (fun ⟨j, d1⟩ => n - j) (0, d) (⟨by omega, hG⟩) ⟨rfl, rfl, rfl, rfl, rfl, trivial⟩ [] 0 rfl ?_
 rintro ⟨j, d1⟩ ⟨hj, hG1⟩
 have hdl := hG1.1
 refine GC.seq (GC.seq (GC.region ?_))
 refine G.stepD (OD.move rfl rfl) rfl rfl rfl ?_
 refine G.stepD (OD.fieldAddr rfl rfl fa41_2) rfl rfl rfl ?_
 refine G.stepD (OD.load rfl ti3 rfl (i := 2) rfl rfl) rfl rfl rfl ?_
 refine G.stepD (OD.lss rfl rfl rfl) rfl rfl rfl ?_
 refine G.nil (GE.then_ ?_)
 refine GC.cond rfl (fun hc6 => ?_) (fun hc6 => ?_)
 replace hc6 := of_decide_eq_true hc6
 refine GC.skip (GE.then_ (GC.seq (GC.block ?_)))
 obtain ⟨q, hq, hqx, hqy, hqz, hql⟩ := ixF hac1 (show i < m by omega) (show j < n + 1 by omega) hnC1
 refine GC.at [] 0 (env' := [(1, vx), (2, .pointer (some ⟨g1, 0, none⟩)), (6, .pointer (some ⟨g4, 0, none⟩)), (7, .int .i64 ((i : Int))), (8, .int .i64 ((j : Int)))]) ⟨rfl, rfl, rfl, rfl, rfl, trivial⟩ rfl ?_
 refine GC.par (its := [⟨34, [], [], [], [], fun _ => .pointer (some ⟨g4, 3, none⟩), fun _ => True, fun _ => []⟩,
     ⟨35, [(0, 34)], [], [], [], fun _ => v2, fun _ => True, fun _ => []⟩,
     ⟨36, [], [], [], [], fun _ => .int .i64 ((i : Int)), fun _ => True, fun _ => []⟩,
     ⟨37, [], [], [], [], fun _ => .pointer (some ⟨g4, 2, none⟩), fun _ => True, fun _ => []⟩,
     ⟨38, [(3, 37)], [], [], [], fun _ => .int .i64 (ac + 1), fun _ => True, fun _ => []⟩,
     ⟨39, [(2, 36), (4, 38)], [], [], [], fun _ => .int .i64 ((i : Int) * (ac + 1)), fun _ => True, fun _ => []⟩,
     ⟨40, [], [], [], [], fun _ => .int .i64 ((j : Int)), fun _ => True, fun _ => []⟩,
     ⟨41, [(5, 39), (6, 40)], [], [], [], fun _ => .int .i64 ((q : Int)), fun _ => True, fun _ => []⟩,
     ⟨42, [], [], [], [], fun _ => .agg #[.int .i64 (ap), .int .i64 (ar), .int .i64 (ac), vad], fun _ => True, fun _ => []⟩,
     ⟨43, [], [], [], [], fun _ => .int .i64 ((i : Int)), fun _ => True, fun _ => []⟩,
     ⟨44, [], [], [], [], fun _ => .int .i64 ((j : Int)), fun _ => True, fun _ => []⟩,
     ⟨45, [(8, 42), (9, 43), (10, 44)], [], [], [], fun _ => .int .i64 ((fun i k => at2 M k i) i j), fun _ => True, fun _ => []⟩,
     ⟨46, [(1, 35), (7, 41)], [], [], [], fun _ => elemPtr v2 1 (q), fun _ => True, fun _ => []⟩]) (by kernel_rfl) (by kernel_rfl) (POps.cons ?_ (POps.cons ?_ (POps.cons ?_ (POps.cons ?_ (POps.cons ?_ (POps.cons ?_ (POps.cons ?_ (POps.cons ?_ (POps.cons ?_ (POps.cons ?_ (POps.cons ?_ (POps.cons ?_ (POps.cons ?_ POps.nil))))))))))))) ?_
 intro θ R hd
 exact Opp.plain (OG.imp (OD.fieldAddr rfl rfl fa41_3) (by rintro _ _ ⟨rfl, rfl⟩; exact ⟨[], rfl, trivial, rfl⟩)) rfl
 intro θ R hd
 obtain ⟨h0d, _⟩ := hd
 exact Opp.plain (OG.imp (OD.load rfl ti24 rfl (i := 0) rfl rfl) (by rintro _ _ ⟨rfl, rfl⟩; exact ⟨[], rfl, trivial, rfl⟩)) rfl
 intro θ R hd
 exact Opp.plain (OG.imp (OD.move rfl rfl) (by rintro _ _ ⟨rfl, rfl⟩; exact ⟨[], rfl, trivial, rfl⟩)) rfl
 intro θ R hd
 exact Opp.plain (OG.imp (OD.fieldAddr rfl rfl fa41_2) (by rintro _ _ ⟨rfl, rfl⟩; exact ⟨[], rfl, trivial, rfl⟩)) rfl
 intro θ R hd
 obtain ⟨h3d, _⟩ := hd
 exact Opp.plain (OG.imp (OD.load rfl ti3 rfl (i := 0) rfl rfl) (by rintro _ _ ⟨rfl, rfl⟩; exact ⟨[], rfl, trivial, rfl⟩)) rfl
 intro θ R hd
 obtain ⟨h2d, h4d, _⟩ := hd
 exact Opp.plain (OG.imp (OD.mulI rfl rfl rfl (by omega)) (by rintro _ _ ⟨rfl, rfl⟩; exact ⟨[], rfl, trivial, rfl⟩)) rfl
 intro θ R hd
 exact Opp.plain (OG.imp (OD.move rfl rfl) (by rintro _ _ ⟨rfl, rfl⟩; exact ⟨[], rfl, trivial, rfl⟩)) rfl
 intro θ R hd
 obtain ⟨h5d, h6d, _⟩ := hd
 exact Opp.plain (OG.imp (OD.eqv (OD.addI rfl rfl rfl (by omega)) (congrArg (Value.int .i64) ((hqx) : (((i : Int) * (ac + 1)) + (j : Int) : Int) = ((q : Int))))) (by rintro _ _ ⟨rfl, rfl⟩; exact ⟨[], rfl, trivial, rfl⟩)) rfl
 intro θ R hd
 exact Opp.plain (OG.imp (OD.loadAgg rfl ti41 rfl (i := 2) rfl (us := [.int .i64 (ap), .int .i64 (ar), .int .i64 (ac), vad]) rfl rfl) (by rintro _ _ ⟨rfl, rfl⟩; exact ⟨[], rfl, trivial, rfl⟩)) rfl
 intro θ R hd
 exact Opp.plain (OG.imp (OD.move rfl rfl) (by rintro _ _ ⟨rfl, rfl⟩; exact ⟨[], rfl, trivial, rfl⟩)) rfl
 intro θ R hd
 exact Opp.plain (OG.imp (OD.move rfl rfl) (by rintro _ _ ⟨rfl, rfl⟩; exact ⟨[], rfl, trivial, rfl⟩)) rfl
 intro θ R hd
 obtain ⟨h8d, h9d, h10d, _⟩ := hd
 exact Opp.plain (OG.imp (OG.call [.agg #[.int .i64 (ap), .int .i64 (ar), .int .i64 (ac), vad], .int .i64 ((i : Int)), .int .i64 ((j : Int))] ent36 rfl rfl rfl rfl (by exact (l1AtF_w sad (Ent.drop 3 ead.app) (f := (fun i k => at2 M k i)) (hF) (hac) (by omega) (by omega) (hnC)))) (by rintro _ _ ⟨rfl, rfl⟩; exact ⟨[], rfl, trivial, rfl⟩)) rfl
 intro θ R hd
 obtain ⟨h1d, h7d, _⟩ := hd
 exact Opp.plain (OG.imp (OD.indexAddr rfl et24 rfl (Ent.ints (i := 1) rfl) rfl (by omega)) (by rintro _ _ ⟨rfl, rfl⟩; exact ⟨[], rfl, trivial, rfl⟩)) rfl
 intro θ hall
 obtain ⟨_, _, _, _, _, _, _, _, _, _, _, _, _, _⟩ := hall
 refine G.at [] 0 (env' := [(1, vx), (2, .pointer (some ⟨g1, 0, none⟩)), (6, .pointer (some ⟨g4, 0, none⟩)), (7, .int .i64 ((i : Int))), (8, .int .i64 ((j : Int))), (45, .int .i64 ((fun i k => at2 M k i) i j)), (46, elemPtr v2 1 (q))]) ⟨rfl, rfl, rfl, rfl, rfl, rfl, rfl, trivial⟩ (own' := box g4 41 [.int .i64 (ap), .int .i64 (ar), .int .i64 (ac + 1), v2] :: ints 3 v2 d1 :: box g1 41 [.int .i64 (ap), .int .i64 (ar), .int .i64 (ac), vad] :: own) rfl ?_
 show G _ _ _ [_] _ _ _ _
 refine G.stepD0 (OD.storeInt rfl ti3 rfl rfl (i := 1) rfl (by omega)) rfl rfl ?_
 refine G.nil (GE.blockN (GE.then_ (GC.region ?_)))
 refine G.stepD (OD.move rfl rfl) rfl rfl rfl ?_
 refine G.stepD (OD.addI rfl rfl rfl (by first | omega | (simp only [List.length_set, List.length_replicate]; omega))) rfl rfl rfl ?_
 refine G.stepD (OD.assign rfl rfl) rfl rfl rfl ?_
 refine G.nil ?_
 exact GE.again (j + 1, (d1).set (q) ((fun i k => at2 M k i) i j)) (⟨by omega, by rw [hq]; exact hG1.agS (by omega) (by omega)⟩) (by first | omega | (dsimp only; omega)) ⟨rfl, rfl, rfl, rfl, rfl, trivial⟩ [] 0 rfl
 replace hc6 := of_decide_eq_false hc6
 refine GC.exit (GE.pass (GE.pass (GE.hit (GE.then_ ?_))))
 obtain ⟨q2, hq2, hq2x, hq2y, hq2z, hq2l⟩ := ixF hac1 (show i < m by omega) (show n < n + 1 by omega) hnC1
 have hdl := hG1.1
 refine GC.at [] 0 (env' := [(1, vx), (2, .pointer (some ⟨g1, 0, none⟩)), (6, .pointer (some ⟨g4, 0, none⟩)), (7, .int .i64 ((i : Int)))]) ⟨rfl, rfl, rfl, rfl, trivial⟩ rfl ?_
 refine GC.par (its := [⟨47, [], [], [], [], fun _ => .pointer (some ⟨g4, 3, none⟩), fun _ => True, fun _ => []⟩,
     ⟨48, [(0, 47)], [], [], [], fun _ => v2, fun _ => True, fun _ => []⟩,
     ⟨49, [], [], [], [], fun _ => .int .i64 ((i : Int)), fun _ => True, fun _ => []⟩,
     ⟨50, [], [], [], [], fun _ => .pointer (some ⟨g4, 2, none⟩), fun _ => True, fun _ => []⟩,
     ⟨51, [(3, 50)], [], [], [], fun _ => .int .i64 (ac + 1), fun _ => True, fun _ => []⟩,
     ⟨52, [(2, 49), (4, 51)], [], [], [], fun _ => .int .i64 ((i : Int) * (ac + 1)), fun _ => True, fun _ => []⟩,
     ⟨53, [], [], [], [], fun _ => .pointer (some ⟨g1, 2, none⟩), fun _ => True, fun _ => []⟩,
     ⟨54, [(6, 53)], [], [], [], fun _ => .int .i64 (ac), fun _ => True, fun _ => []⟩,
     ⟨55, [(5, 52), (7, 54)], [], [], [], fun _ => .int .i64 ((q2 : Int)), fun _ => True, fun _ => []⟩,
     ⟨56, [], [], [], [], fun _ => vx, fun _ => True, fun _ => []⟩,
     ⟨57, [], [], [], [], fun _ => .int .i64 ((i : Int)), fun _ => True, fun _ => []⟩,
     ⟨58, [(9, 56), (10, 57)], [], [], [], fun _ => elemPtr vx 1 (i), fun _ => True, fun _ => []⟩,
     ⟨59, [(11, 58)], [], [], [], fun _ => .int .i64 (x.getD (i) 0), fun _ => True, fun _ => []⟩,
     ⟨60, [(1, 48), (8, 55)], [], [], [], fun _ => elemPtr v2 1 (q2), fun _ => True, fun _ => []⟩]) (by kernel_rfl) (by kernel_rfl) (POps.cons ?_ (POps.cons ?_ (POps.cons ?_ (POps.cons ?_ (POps.cons ?_ (POps.cons ?_ (POps.cons ?_ (POps.cons ?_ (POps.cons ?_ (POps.cons ?_ (POps.cons ?_ (POps.cons ?_ (POps.cons ?_ (POps.cons ?_ POps.nil)))))))))))))) ?_
 intro θ R hd
 exact Opp.plain (OG.imp (OD.fieldAddr rfl rfl fa41_3) (by rintro _ _ ⟨rfl, rfl⟩; exact ⟨[], rfl, trivial, rfl⟩)) rfl
 intro θ R hd
 obtain ⟨h0d, _⟩ := hd
 exact Opp.plain (OG.imp (OD.load rfl ti24 rfl (i := 0) rfl rfl) (by rintro _ _ ⟨rfl, rfl⟩; exact ⟨[], rfl, trivial, rfl⟩)) rfl
 intro θ R hd
 exact Opp.plain (OG.imp (OD.move rfl rfl) (by rintro _ _ ⟨rfl, rfl⟩; exact ⟨[], rfl, trivial, rfl⟩)) rfl
 intro θ R hd
 exact Opp.plain (OG.imp (OD.fieldAddr rfl rfl fa41_2) (by rintro _ _ ⟨rfl, rfl⟩; exact ⟨[], rfl, trivial, rfl⟩)) rfl
 intro θ R hd
 obtain ⟨h3d, _⟩ := hd
 exact Opp.plain (OG.imp (OD.load rfl ti3 rfl (i := 0) rfl rfl) (by rintro _ _ ⟨rfl, rfl⟩; exact ⟨[], rfl, trivial, rfl⟩)) rfl
 intro θ R hd
 obtain ⟨h2d, h4d, _⟩ := hd
 exact Opp.plain (OG.imp (OD.mulI rfl rfl rfl (by omega)) (by rintro _ _ ⟨rfl, rfl⟩; exact ⟨[], rfl, trivial, rfl⟩)) rfl
 intro θ R hd
 exact Opp.plain (OG.imp (OD.fieldAddr rfl rfl fa41_2) (by rintro _ _ ⟨rfl, rfl⟩; exact ⟨[], rfl, trivial, rfl⟩)) rfl
 intro θ R hd
 obtain ⟨h6d, _⟩ := hd
 exact Opp.plain (OG.imp (OD.load rfl ti3 rfl (i := 2) rfl rfl) (by rintro _ _ ⟨rfl, rfl⟩; exact ⟨[], rfl, trivial, rfl⟩)) rfl
 intro θ R hd
 obtain ⟨h5d, h7d, _⟩ := hd
 exact Opp.plain (OG.imp (OD.eqv (OD.addI rfl rfl rfl (by omega)) (congrArg (Value.int .i64) (((congrArg (fun z => (i : Int) * (ac + 1) + z) hac).trans hq2x) : (((i : Int) * (ac + 1)) + ac : Int) = ((q2 : Int))))) (by rintro _ _ ⟨rfl, rfl⟩; exact ⟨[], rfl, trivial, rfl⟩)) rfl
 intro θ R hd
 exact Opp.plain (OG.imp (OD.move rfl rfl) (by rintro _ _ ⟨rfl, rfl⟩; exact ⟨[], rfl, trivial, rfl⟩)) rfl
 intro θ R hd
 exact Opp.plain (OG.imp (OD.move rfl rfl) (by rintro _ _ ⟨rfl, rfl⟩; exact ⟨[], rfl, trivial, rfl⟩)) rfl
 intro θ R hd
 obtain ⟨h9d, h10d, _⟩ := hd
 exact Opp.plain (OG.imp (OD.indexAddr rfl et24 rfl (Ent.drop 3 ex.app) rfl (by omega)) (by rintro _ _ ⟨rfl, rfl⟩; exact ⟨[], rfl, trivial, rfl⟩)) rfl
 intro θ R hd
 obtain ⟨h11d, _⟩ := hd
 exact Opp.plain (OG.imp (OD.loadInt rfl ti3 rfl (Ent.drop 3 ex.app) (by omega)) (by rintro _ _ ⟨rfl, rfl⟩; exact ⟨[], rfl, trivial, rfl⟩)) rfl
 intro θ R hd
 obtain ⟨h1d, h8d, _⟩ := hd
 exact Opp.plain (OG.imp (OD.indexAddr rfl et24 rfl (Ent.ints (i := 1) rfl) rfl (by omega)) (by rintro _ _ ⟨rfl, rfl⟩; exact ⟨[], rfl, trivial, rfl⟩)) rfl
 intro θ hall
 obtain ⟨_, _, _, _, _, _, _, _, _, _, _, _, _, _, _⟩ := hall
 refine G.at [] 0 (env' := [(1, vx), (2, .pointer (some ⟨g1, 0, none⟩)), (6, .pointer (some ⟨g4, 0, none⟩)), (7, .int .i64 ((i : Int))), (59, .int .i64 (x.getD (i) 0)), (60, elemPtr v2 1 (q2))]) ⟨rfl, rfl, rfl, rfl, rfl, rfl, trivial⟩ (own' := box g4 41 [.int .i64 (ap), .int .i64 (ar), .int .i64 (ac + 1), v2] :: ints 3 v2 d1 :: box g1 41 [.int .i64 (ap), .int .i64 (ar), .int .i64 (ac), vad] :: own) rfl ?_
 show G _ _ _ [_] _ _ _ _
 refine G.stepD0 (OD.storeInt rfl ti3 rfl rfl (i := 1) rfl (by omega)) rfl rfl ?_
 refine G.nil (GE.blockN (GE.then_ (GC.region ?_)))
 refine G.stepD (OD.move rfl rfl) rfl rfl rfl ?_
 refine G.stepD (OD.addI rfl rfl rfl (by first | omega | (simp only [List.length_set, List.length_replicate]; omega))) rfl rfl rfl ?_
 refine G.stepD (OD.assign rfl rfl) rfl rfl rfl ?_
 refine G.nil ?_
 exact GE.again (i + 1, (d1).set (q2) (x.getD (i) 0)) (⟨by omega, by rw [hq2]; exact hG1.agR (by omega) (by omega)⟩) (by first | omega | (dsimp only; omega)) ⟨rfl, rfl, rfl, rfl, trivial⟩ [] 0 rfl
 replace hc5 := of_decide_eq_false hc5
 refine GC.exit (GE.pass (GE.pass (GE.hit (GE.then_ (GC.seq ?_)))))
 have hdE := hG.agE (by omega) hM.len
 refine GC.region ?_
 refine G.stepD (OD.loadAgg rfl ti41 rfl (i := 0) rfl (us := [.int .i64 (ap), .int .i64 (ar), .int .i64 (ac + 1), v2]) rfl rfl) rfl rfl rfl ?_
 refine G.step (OG.call [.agg #[.int .i64 (ap), .int .i64 (ar), .int .i64 (ac + 1), v2]] ent16 rfl rfl rfl rfl (by exact (l1Reduce_w hs3 (Ent.ints (i := 1) rfl) (C := (n + 1)) (E := (augF M m x)) (hpp) (har) (hac1) (hA) (hdE) (hnC1) (by omega)))) rfl rfl rfl ?_
 rintro _ _ ⟨v7, v9, u11, rfl, hs8, hs10, rfl⟩
 refine G.stepD (OD.move rfl rfl) rfl rfl rfl ?_
 refine G.stepD (OD.extract rfl rfl rfl) rfl rfl rfl ?_
 refine G.stepD (OD.extract rfl rfl rfl) rfl rfl rfl ?_
 refine G.stepD (OD.extract rfl rfl rfl) rfl rfl rfl ?_
 refine G.step (OG.alloc rfl ti41 (zs := [.int .i64 (0), .int .i64 (0), .int .i64 (0), .slice none 0 0]) rfl) rfl rfl rfl ?_
 rintro _ _ ⟨g12, rfl, rfl⟩
 refine G.stepD0 (OD.store rfl ti41 rfl rfl (us := [.int .i64 (ap), .int .i64 (ar), .int .i64 (ac + 1), v7]) rfl rfl (allC rfl (allC rfl (allC rfl (allC (IsS.one hs8) rfl)))) (i := 0) rfl rfl) rfl rfl ?_
 refine G.stepD (OD.assign rfl rfl) rfl rfl rfl ?_
 refine G.stepD (OD.assign rfl rfl) rfl rfl rfl ?_
 refine G.nil (GE.then_ (GC.seq (GC.seq ?_)))
 have hfl : (rdA ap (ivp ap) (n + 1) (augF M m x)).2.length ≤ m := by have h1 := hur.few; rw [augF_len, red1, hM.len] at h1; exact h1
 refine GC.region ?_
 refine G.stepD (OD.move rfl rfl) rfl rfl rfl ?_
 refine G.stepD (OD.fieldAddr rfl rfl fa41_2) rfl rfl rfl ?_
 refine G.stepD (OD.load rfl ti3 rfl (i := 5) rfl rfl) rfl rfl rfl ?_
 refine G.step (OG.call [v9, .int .i64 (ac)] ent58 rfl rfl rfl rfl (by exact (l1Find_w hs10 (Ent.ints (i := 2) rfl) (by omega)))) rfl rfl rfl ?_
 rintro _ _ ⟨rfl, rfl⟩
 refine G.stepD (OD.geq rfl rfl rfl) rfl rfl rfl ?_
 refine G.nil (GE.then_ ?_)
 refine GC.cond rfl (fun hc13 => ?_) (fun hc13 => ?_)
 replace hc13 := of_decide_eq_true hc13
 have hsb : slB ap m M x = false := by rw [sl_find hpp hM hxr, ← hac]; exact decide_eq_false (by omega)
 refine GC.seq (GC.region ?_)
 refine G.stepD (OD.assign rfl rfl) rfl rfl rfl ?_
 refine G.stepD (OD.assign rfl rfl) rfl rfl rfl ?_
 refine G.nil (GE.then_ (GC.ret (GE.passR ?_)))
 refine GE.nilInts 3 ?_
 exact GE.body [0] 6 (res2 rfl rfl rfl) rfl (⟨(.slice none 0 0), congrArg (fun (a1 : Bool) => (.tuple #[(.slice none 0 0), .bool (a1)] : Value)) ((hsb.symm : (false : Bool) = slB ap m M x)), IsS.nil, congrArg (fun (l0 : List Int) => ints 3 (.slice none 0 0) l0 :: own) ((by rw [slR, hsb] <;> rfl : [] = slR ap m M x))⟩)
 replace hc13 := of_decide_eq_false hc13
 have hsb : slB ap m M x = true := by rw [sl_find hpp hM hxr, ← hac]; exact decide_eq_true (by omega)
 obtain ⟨hUf, hUp⟩ := sl_pv hpp hM hxr hsb
 have hUr := sl_rw hpp hM hxr (x := x)
 refine GC.skip (GE.then_ (GC.seq (GC.region ?_)))
 refine G.stepD (OD.fieldAddr rfl rfl fa41_2) rfl rfl rfl ?_
 refine G.stepD (OD.load rfl ti3 rfl (i := 5) rfl rfl) rfl rfl rfl ?_
 refine G.step (OG.makeInts rfl et24 rfl rfl (by omega)) rfl rfl rfl ?_
 rintro v14 _ ⟨hs15, rfl⟩
 refine G.stepD (OD.assign rfl rfl) rfl rfl rfl ?_
 refine G.nil (GE.then_ (GC.seq (GC.seq (GC.region ?_))))
 refine G.stepD (OD.assign rfl rfl) rfl rfl rfl ?_
 refine G.nil (GE.then_ (GC.block ?_))
 refine GC.ownEq (own' := ints 3 v14 (List.replicate n 0) :: box g12 41 [.int .i64 (ap), .int .i64 (ar), .int .i64 (ac + 1), v7] :: ints 3 v7 ((rdA ap (ivp ap) (n + 1) (augF M m x)).1.flatten) :: ints 3 v9 ((rdA ap (ivp ap) (n + 1) (augF M m x)).2) :: box g4 41 [.int .i64 (ap), .int .i64 (ar), .int .i64 (ac + 1), v2] :: ints 3 v2 d :: box g1 41 [.int .i64 (ap), .int .i64 (ar), .int .i64 (ac), vad] :: own) (by rw [hac] <;> rfl) ?_
 refine GC.loop (ι := Nat × List Int) (fun ⟨k, ys⟩ => [(2, .pointer (some ⟨g1, 0, none⟩)), (9, .pointer (some ⟨g12, 0, none⟩)), (10, v9), (12, v14), (13, .int .i64 ((k : Int)))]) (fun ⟨k, ys⟩ => ints 3 v14 ys :: box g12 41 [.int .i64 (ap), .int .i64 (ar), .int .i64 (ac + 1), v7] :: ints 3 v7 ((rdA ap (ivp ap) (n + 1) (augF M m x)).1.flatten) :: ints 3 v9 ((rdA ap (ivp ap) (n + 1) (augF M m x)).2) :: box g4 41 [.int .i64 (ap), .int .i64 (ar), .int .i64 (ac + 1), v2] :: ints 3 v2 d :: box g1 41 [.int .i64 (ap), .int .i64 (ar), .int .i64 (ac), vad] :: own) (fun ⟨k, ys⟩ => (k ≤ (rdA ap (ivp ap) (n + 1) (augF M m x)).2.length) ∧ (ys = slX n (rdA ap (ivp ap) (n + 1) (augF M m x)).1 (rdA ap (ivp ap) (n + 1) (augF M m x)).2 k)) (fun ⟨k, ys⟩ => (rdA ap (ivp ap) (n + 1) (augF M m x)).2.length - k) (0, List.replicate n 0) (⟨by omega, rfl⟩) ⟨rfl, rfl, rfl, rfl, rfl, trivial⟩ [] 0 rfl ?_
 rintro ⟨k, ys⟩ ⟨hk, hys⟩
 have hyl : ys.length = n := by rw [hys]; exact slX_len _ _
 refine GC.seq (GC.seq (GC.region ?_))
 refine G.stepD (OD.move rfl rfl) rfl rfl rfl ?_
 refine G.stepD (OD.move rfl rfl) rfl rfl rfl ?_
 refine G.stepD (OD.len rfl rfl et24 rfl (Ent.ints (i := 3) rfl)) rfl rfl rfl ?_
 refine G.stepD (OD.lss rfl rfl rfl) rfl rfl rfl ?_
 refine G.nil (GE.then_ ?_)
 refine GC.cond rfl (fun hc16 => ?_) (fun hc16 => ?_)
 replace hc16 := of_decide_eq_true hc16
 have hpk := hUp k (by omega)
 have hpk2 : 0 ≤ (rdA ap (ivp ap) (n + 1) (augF M m x)).2.getD ((k : Int)).toNat 0 ∧ (rdA ap (ivp ap) (n + 1) (augF M m x)).2.getD ((k : Int)).toNat 0 < (n : Int) := hpk
 refine GC.skip (GE.then_ (GC.seq (GC.block ?_)))
 refine GC.at [] 0 (env' := [(2, .pointer (some ⟨g1, 0, none⟩)), (9, .pointer (some ⟨g12, 0, none⟩)), (10, v9), (12, v14), (13, .int .i64 ((k : Int)))]) ⟨rfl, rfl, rfl, rfl, rfl, trivial⟩ rfl ?_
 refine GC.par (its := [⟨81, [], [], [], [], fun _ => v14, fun _ => True, fun _ => []⟩,
     ⟨82, [], [], [], [], fun _ => v9, fun _ => True, fun _ => []⟩,
     ⟨83, [], [], [], [], fun _ => .int .i64 ((k : Int)), fun _ => True, fun _ => []⟩,
     ⟨84, [(1, 82), (2, 83)], [], [], [], fun _ => elemPtr v9 1 (k), fun _ => True, fun _ => []⟩,
     ⟨85, [(3, 84)], [], [], [], fun _ => .int .i64 (((rdA ap (ivp ap) (n + 1) (augF M m x)).2).getD (k) 0), fun _ => True, fun _ => []⟩,
     ⟨86, [], [], [], [], fun _ => .agg #[.int .i64 (ap), .int .i64 (ar), .int .i64 (ac + 1), v7], fun _ => True, fun _ => []⟩,
     ⟨87, [], [], [], [], fun _ => .int .i64 ((k : Int)), fun _ => True, fun _ => []⟩,
     ⟨88, [], [], [], [], fun _ => .pointer (some ⟨g1, 2, none⟩), fun _ => True, fun _ => []⟩,
     ⟨89, [(7, 88)], [], [], [], fun _ => .int .i64 ((n : Int)), fun _ => True, fun _ => []⟩,
     ⟨90, [(5, 86), (6, 87), (8, 89)], [], [], [], fun _ => .int .i64 (at2 (rdA ap (ivp ap) (n + 1) (augF M m x)).1 k n), fun _ => True, fun _ => []⟩,
     ⟨91, [(0, 81), (4, 85)], [], [], [], fun _ => elemPtr v14 1 ((((rdA ap (ivp ap) (n + 1) (augF M m x)).2).getD (k) 0 : Int).toNat), fun _ => True, fun _ => []⟩]) (by kernel_rfl) (by kernel_rfl) (POps.cons ?_ (POps.cons ?_ (POps.cons ?_ (POps.cons ?_ (POps.cons ?_ (POps.cons ?_ (POps.cons ?_ (POps.cons ?_ (POps.cons ?_ (POps.cons ?_ (POps.cons ?_ POps.nil))))))))))) ?_
 intro θ R hd
 exact Opp.plain (OG.imp (OD.move rfl rfl) (by rintro _ _ ⟨rfl, rfl⟩; exact ⟨[], rfl, trivial, rfl⟩)) rfl
 intro θ R hd
 exact Opp.plain (OG.imp (OD.move rfl rfl) (by rintro _ _ ⟨rfl, rfl⟩; exact ⟨[], rfl, trivial, rfl⟩)) rfl
 intro θ R hd
 exact Opp.plain (OG.imp (OD.move rfl rfl) (by rintro _ _ ⟨rfl, rfl⟩; exact ⟨[], rfl, trivial, rfl⟩)) rfl
 intro θ R hd
 obtain ⟨h1d, h2d, _⟩ := hd
 exact Opp.plain (OG.imp (OD.indexAddr rfl et24 rfl (Ent.ints (i := 3) rfl) rfl (by omega)) (by rintro _ _ ⟨rfl, rfl⟩; exact ⟨[], rfl, trivial, rfl⟩)) rfl
 intro θ R hd
 obtain ⟨h3d, _⟩ := hd
 exact Opp.plain (OG.imp (OD.loadInt rfl ti3 rfl (Ent.ints (i := 3) rfl) (by omega)) (by rintro _ _ ⟨rfl, rfl⟩; exact ⟨[], rfl, trivial, rfl⟩)) rfl
 intro θ R hd
 exact Opp.plain (OG.imp (OD.loadAgg rfl ti41 rfl (i := 1) rfl (us := [.int .i64 (ap), .int .i64 (ar), .int .i64 (ac + 1), v7]) rfl rfl) (by rintro _ _ ⟨rfl, rfl⟩; exact ⟨[], rfl, trivial, rfl⟩)) rfl
 intro θ R hd
 exact Opp.plain (OG.imp (OD.move rfl rfl) (by rintro _ _ ⟨rfl, rfl⟩; exact ⟨[], rfl, trivial, rfl⟩)) rfl
 intro θ R hd
 exact Opp.plain (OG.imp (OD.fieldAddr rfl rfl fa41_2) (by rintro _ _ ⟨rfl, rfl⟩; exact ⟨[], rfl, trivial, rfl⟩)) rfl
 intro θ R hd
 obtain ⟨h7d, _⟩ := hd
 exact Opp.plain (OG.imp (OD.eqv (OD.load rfl ti3 rfl (i := 6) rfl rfl) (congrArg (Value.int .i64) ((hac) : (ac : Int) = ((n : Int))))) (by rintro _ _ ⟨rfl, rfl⟩; exact ⟨[], rfl, trivial, rfl⟩)) rfl
 intro θ R hd
 obtain ⟨h5d, h6d, h8d, _⟩ := hd
 exact Opp.plain (OG.imp (OG.call [.agg #[.int .i64 (ap), .int .i64 (ar), .int .i64 (ac + 1), v7], .int .i64 ((k : Int)), .int .i64 ((n : Int))] ent36 rfl rfl rfl rfl (by exact (l1AtF_w hs8 (Ent.ints (i := 2) rfl) (f := at2 (rdA ap (ivp ap) (n + 1) (augF M m x)).1) (hUr.fi) (hac1) (by omega) (by omega) (hnC1)))) (by rintro _ _ ⟨rfl, rfl⟩; exact ⟨[], rfl, trivial, rfl⟩)) rfl
 intro θ R hd
 obtain ⟨h0d, h4d, _⟩ := hd
 exact Opp.plain (OG.imp (OD.indexAddr rfl et24 rfl (Ent.ints (i := 0) rfl) rfl (by omega)) (by rintro _ _ ⟨rfl, rfl⟩; exact ⟨[], rfl, trivial, rfl⟩)) rfl
 intro θ hall
 obtain ⟨_, _, _, _, _, _, _, _, _, _, _, _⟩ := hall
 refine G.at [] 0 (env' := [(2, .pointer (some ⟨g1, 0, none⟩)), (9, .pointer (some ⟨g12, 0, none⟩)), (10, v9), (12, v14), (13, .int .i64 ((k : Int))), (90, .int .i64 (at2 (rdA ap (ivp ap) (n + 1) (augF M m x)).1 k n)), (91, elemPtr v14 1 ((((rdA ap (ivp ap) (n + 1) (augF M m x)).2).getD (k) 0 : Int).toNat))]) ⟨rfl, rfl, rfl, rfl, rfl, rfl, rfl, trivial⟩ (own' := ints 3 v14 ys :: box g12 41 [.int .i64 (ap), .int .i64 (ar), .int .i64 (ac + 1), v7] :: ints 3 v7 ((rdA ap (ivp ap) (n + 1) (augF M m x)).1.flatten) :: ints 3 v9 ((rdA ap (ivp ap) (n + 1) (augF M m x)).2) :: box g4 41 [.int .i64 (ap), .int .i64 (ar), .int .i64 (ac + 1), v2] :: ints 3 v2 d :: box g1 41 [.int .i64 (ap), .int .i64 (ar), .int .i64 (ac), vad] :: own) rfl ?_
 show G _ _ _ [_] _ _ _ _
 refine G.stepD0 (OD.storeInt rfl ti3 rfl rfl (i := 0) rfl (by omega)) rfl rfl ?_
 refine G.nil (GE.blockN (GE.then_ (GC.region ?_)))
 refine G.stepD (OD.move rfl rfl) rfl rfl rfl ?_
 refine G.stepD (OD.addI rfl rfl rfl (by first | omega | (simp only [List.length_set, List.length_replicate]; omega))) rfl rfl rfl ?_
 refine G.stepD (OD.assign rfl rfl) rfl rfl rfl ?_
 refine G.nil ?_
 exact GE.again (k + 1, (ys).set ((((rdA ap (ivp ap) (n + 1) (augF M m x)).2).getD (k) 0 : Int).toNat) (at2 (rdA ap (ivp ap) (n + 1) (augF M m x)).1 k n)) (⟨by omega, by rw [hys, slX_next]⟩) (by first | omega | (dsimp only; omega)) ⟨rfl, rfl, rfl, rfl, rfl, trivial⟩ [] 0 rfl
 replace hc16 := of_decide_eq_false hc16
 refine GC.exit (GE.pass (GE.pass (GE.hit (GE.then_ (GC.seq (GC.region ?_))))))
 refine G.stepD (OD.move rfl rfl) rfl rfl rfl ?_
 refine G.stepD (OD.assign rfl rfl) rfl rfl rfl ?_
 refine G.stepD (OD.assign rfl rfl) rfl rfl rfl ?_
 refine G.nil (GE.then_ (GC.ret ?_))
 exact GE.body [0] 6 (res2 rfl rfl rfl) rfl (⟨v14, congrArg (fun (a1 : Bool) => (.tuple #[v14, .bool (a1)] : Value)) ((hsb.symm : (true : Bool) = slB ap m M x)), hs15, congrArg (fun (l0 : List Int) => ints 3 v14 l0 :: own) ((by rw [slR, if_pos hsb, sl_V hM, hys, show k = (rdA ap (ivp ap) (n + 1) (augF M m x)).2.length by omega] : ys = slR ap m M x))⟩)
set_option maxRecDepth 100000 in
theorem l1Rows_w {W : World} {own : List Asn} {p : Int} {cols : Int} {vx : Value} {ux : List Value} {x : List (List Int)}  (sx : IsS vx) (ex : Ent own fun w => Sl w vx x.length 1 ux) (mx : ∀ k, k < x.length → Ent own fun w => Ints w (ux.getD k undef) (x.getD k [])) (lx : ux.length = x.length) (ax : AllS ux)  (hxl : x.length ≤ 64) (hle : ∀ k, k < x.length → (x.getD k []).length ≤ 1600) : Spec Try.prog 15 [.int .i64 (p), .int .i64 (cols), vx] W own (fun v ow => ∃ (r3 : Value), v = .agg #[.int .i64 (p), .int .i64 ((x.length : Nat)), .int .i64 (cols), r3] ∧ IsS r3 ∧ ow = ints 3 r3 x.flatten :: own) := by
 refine Spec.enter Try.f15 _ Try.func15 rfl (n := 30) rfl rfl ?_
 refine GC.seq (GC.region ?_)
 refine G.step (OG.alloc rfl ti41 (zs := [.int .i64 (0), .int .i64 (0), .int .i64 (0), .slice none 0 0]) rfl) rfl rfl rfl ?_
 rintro _ _ ⟨g1, rfl, rfl⟩
 refine G.nil (GE.then_ (GC.seq (GC.region ?_)))
 refine G.stepD (OD.move rfl rfl) rfl rfl rfl ?_
 refine G.stepD (OD.move rfl rfl) rfl rfl rfl ?_
 refine G.stepD (OD.len rfl rfl et39 rfl (Ent.drop 1 ex)) rfl rfl rfl ?_
 refine G.stepD (OD.move rfl rfl) rfl rfl rfl ?_
 refine G.step (OG.buildInts (xs := []) (is := []) rfl et24 rfl rfl rfl rfl rfl) rfl rfl rfl ?_
 rintro v2 _ ⟨hs3, rfl⟩
 refine G.stepD (OD.build (idx := [0, 1, 2, 3]) (xs := [.tmp 9, .tmp 11, .tmp 12, .tmp 13]) (vs := [.int .i64 (p), .int .i64 ((x.length : Nat)), .int .i64 (cols), v2]) (cs := [[.int .i64 (p)], [.int .i64 ((x.length : Nat))], [.int .i64 (cols)], [v2]]) (zs := [.int .i64 (0), .int .i64 (0), .int .i64 (0), .slice none 0 0]) (r := [.int .i64 (p), .int .i64 ((x.length : Nat)), .int .i64 (cols), v2]) rfl ti41 rfl rfl rfl ⟨rfl, ⟨rfl, ⟨rfl, ⟨(one_cells (IsS.one hs3)), trivial⟩⟩⟩⟩ rfl) rfl rfl rfl ?_
 refine G.step (OG.alloc rfl ti41 (zs := [.int .i64 (0), .int .i64 (0), .int .i64 (0), .slice none 0 0]) rfl) rfl rfl rfl ?_
 rintro _ _ ⟨g4, rfl, rfl⟩
 refine G.stepD0 (OD.store rfl ti41 rfl rfl (us := [.int .i64 (p), .int .i64 ((x.length : Nat)), .int .i64 (cols), v2]) rfl rfl (allC rfl (allC rfl (allC rfl (allC (IsS.one hs3) rfl)))) (i := 0) rfl rfl) rfl rfl ?_
 refine G.nil (GE.then_ (GC.seq (GC.seq (GC.region ?_))))
 refine G.stepD (OD.assign rfl rfl) rfl rfl rfl ?_
 refine G.nil (GE.then_ (GC.block ?_))
 refine GC.ownEq (own' := box g4 41 [.int .i64 (p), .int .i64 ((x.length : Nat)), .int .i64 (cols), v2] :: ints 3 v2 ((x.take 0).flatten) :: box g1 41 [.int .i64 (0), .int .i64 (0), .int .i64 (0), .slice none 0 0] :: own) (rfl) ?_
 refine GC.loop (ι := Nat × Value) (fun ⟨k, v⟩ => [(2, vx), (6, .pointer (some ⟨g1, 0, none⟩)), (7, .pointer (some ⟨g4, 0, none⟩)), (8, .int .i64 ((k : Int)))]) (fun ⟨k, v⟩ => box g4 41 [.int .i64 (p), .int .i64 ((x.length : Nat)), .int .i64 (cols), v] :: ints 3 v ((x.take k).flatten) :: box g1 41 [.int .i64 (0), .int .i64 (0), .int .i64 (0), .slice none 0 0] :: own) (fun ⟨k, v⟩ => (k ≤ x.length) ∧ (IsS v)) (fun ⟨k, v⟩ => x.length - k) (0, v2) (⟨by omega, hs3⟩) ⟨rfl, rfl, rfl, rfl, trivial⟩ [] 0 rfl ?_
 rintro ⟨k, v⟩ ⟨hk, hv⟩
 have hfl := flt_le hle k hk
 have hfl2 : (x.take k).flatten.length ≤ 102400 := by have := Nat.mul_le_mul_right 1600 (show k ≤ 64 by omega); omega
 refine GC.seq (GC.seq (GC.region ?_))
 refine G.stepD (OD.move rfl rfl) rfl rfl rfl ?_
 refine G.stepD (OD.move rfl rfl) rfl rfl rfl ?_
 refine G.stepD (OD.len rfl rfl et39 rfl (Ent.drop 3 ex)) rfl rfl rfl ?_
 refine G.stepD (OD.lss rfl rfl rfl) rfl rfl rfl ?_
 refine G.nil (GE.then_ ?_)
 refine GC.cond rfl (fun hc5 => ?_) (fun hc5 => ?_)
 replace hc5 := of_decide_eq_true hc5
 refine GC.skip (GE.then_ (GC.seq (GC.block ?_)))
 have hlk := hle k (by omega)
 refine GC.at [] 0 (env' := [(2, vx), (6, .pointer (some ⟨g1, 0, none⟩)), (7, .pointer (some ⟨g4, 0, none⟩)), (8, .int .i64 ((k : Int)))]) ⟨rfl, rfl, rfl, rfl, trivial⟩ rfl ?_
 refine GC.par (its := [⟨21, [], [], [], [], fun _ => .pointer (some ⟨g4, 3, none⟩), fun _ => True, fun _ => []⟩,
     ⟨22, [(0, 21)], [], [], [], fun _ => v, fun _ => True, fun _ => []⟩,
     ⟨23, [], [], [], [], fun _ => vx, fun _ => True, fun _ => []⟩,
     ⟨24, [], [], [], [], fun _ => .int .i64 ((k : Int)), fun _ => True, fun _ => []⟩,
     ⟨25, [(2, 23), (3, 24)], [], [], [], fun _ => elemPtr vx 1 (k), fun _ => True, fun _ => []⟩,
     ⟨26, [(4, 25)], [], [], [], fun _ => (ux.getD (k) undef), fun _ => True, fun _ => []⟩]) (by kernel_rfl) (by kernel_rfl) (POps.cons ?_ (POps.cons ?_ (POps.cons ?_ (POps.cons ?_ (POps.cons ?_ (POps.cons ?_ POps.nil)))))) ?_
 intro θ R hd
 exact Opp.plain (OG.imp (OD.fieldAddr rfl rfl fa41_3) (by rintro _ _ ⟨rfl, rfl⟩; exact ⟨[], rfl, trivial, rfl⟩)) rfl
 intro θ R hd
 obtain ⟨h0d, _⟩ := hd
 exact Opp.plain (OG.imp (OD.load rfl ti24 rfl (i := 0) rfl rfl) (by rintro _ _ ⟨rfl, rfl⟩; exact ⟨[], rfl, trivial, rfl⟩)) rfl
 intro θ R hd
 exact Opp.plain (OG.imp (OD.move rfl rfl) (by rintro _ _ ⟨rfl, rfl⟩; exact ⟨[], rfl, trivial, rfl⟩)) rfl
 intro θ R hd
 exact Opp.plain (OG.imp (OD.move rfl rfl) (by rintro _ _ ⟨rfl, rfl⟩; exact ⟨[], rfl, trivial, rfl⟩)) rfl
 intro θ R hd
 obtain ⟨h2d, h3d, _⟩ := hd
 exact Opp.plain (OG.imp (OD.indexAddr rfl et39 rfl (Ent.drop 3 ex.app) rfl (by omega)) (by rintro _ _ ⟨rfl, rfl⟩; exact ⟨[], rfl, trivial, rfl⟩)) rfl
 intro θ R hd
 obtain ⟨h4d, _⟩ := hd
 exact Opp.plain (OG.imp (OD.loadElem rfl ti24 rfl (Ent.drop 3 ex.app) (by omega) rfl) (by rintro _ _ ⟨rfl, rfl⟩; exact ⟨[], rfl, trivial, rfl⟩)) rfl
 intro θ hall
 obtain ⟨_, _, _, _, _, _, _⟩ := hall
 refine G.at [] 0 (env' := [(2, vx), (6, .pointer (some ⟨g1, 0, none⟩)), (7, .pointer (some ⟨g4, 0, none⟩)), (8, .int .i64 ((k : Int))), (22, v), (26, (ux.getD (k) undef))]) ⟨rfl, rfl, rfl, rfl, rfl, rfl, trivial⟩ (own' := box g4 41 [.int .i64 (p), .int .i64 ((x.length : Nat)), .int .i64 (cols), v] :: ints 3 v ((x.take k).flatten) :: box g1 41 [.int .i64 (0), .int .i64 (0), .int .i64 (0), .slice none 0 0] :: own) rfl ?_
 show G _ _ _ [_, _, _] _ _ _ _
 refine G.step (OG.appendInts 1 rfl rfl et24 rfl rfl rfl (Ent.drop 3 (mx (k) (by omega))) (by first | omega | (simp; omega))) rfl rfl rfl ?_
 rintro v6 _ ⟨hs7, rfl⟩
 refine G.stepD (OD.fieldAddr rfl rfl fa41_3) rfl rfl rfl ?_
 refine G.stepD0 (OD.store rfl ti24 rfl rfl (us := [v6]) (one_cells (IsS.one hs7)) rfl (allC (IsS.one hs7) rfl) (i := 0) rfl rfl) rfl rfl ?_
 refine G.nil (GE.blockN (GE.then_ (GC.region ?_)))
 refine G.stepD (OD.move rfl rfl) rfl rfl rfl ?_
 refine G.stepD (OD.addI rfl rfl rfl (by omega)) rfl rfl rfl ?_
 refine G.stepD (OD.assign rfl rfl) rfl rfl rfl ?_
 refine G.nil ?_
 refine GE.ownEq (own' := box g4 41 [.int .i64 (p), .int .i64 ((x.length : Nat)), .int .i64 (cols), v6] :: ints 3 v6 ((x.take (k + 1)).flatten) :: box g1 41 [.int .i64 (0), .int .i64 (0), .int .i64 (0), .slice none 0 0] :: own) (by rw [← flt_next (by omega)] <;> rfl) ?_
 exact GE.again (k + 1, v6) (⟨by omega, hs7⟩) (by first | omega | (dsimp only; omega)) ⟨rfl, rfl, rfl, rfl, trivial⟩ [] 0 rfl
 replace hc5 := of_decide_eq_false hc5
 refine GC.exit (GE.pass (GE.pass (GE.hit (GE.then_ (GC.seq (GC.region ?_))))))
 refine G.stepD (OD.loadAgg rfl ti41 rfl (i := 0) rfl (us := [.int .i64 (p), .int .i64 ((x.length : Nat)), .int .i64 (cols), v]) rfl rfl) rfl rfl rfl ?_
 refine G.stepD0 (OD.store rfl ti41 rfl rfl (us := [.int .i64 (p), .int .i64 ((x.length : Nat)), .int .i64 (cols), v]) rfl rfl (allC rfl (allC rfl (allC rfl (allC (IsS.one hv) rfl)))) (i := 2) rfl rfl) rfl rfl ?_
 refine G.nil (GE.then_ (GC.ret ?_))
 exact GE.body [1] 2 (resN rfl (RVs.cons (rv_cells ti41 rfl (i := 2) rfl rfl) RVs.nil) rfl) rfl (⟨v, rfl, hv, congrArg (fun (l0 : List Int) => ints 3 v l0 :: own) ((flt_all (by omega) : (x.take k).flatten = x.flatten))⟩)
set_option maxHeartbeats 4000000 in
set_option maxRecDepth 100000 in
theorem l2Table_w {W : World} {own : List Asn} {ap : Int} {ar : Int} {ac : Int} {vad : Value} {ad : List Int} {vx : Value} {ux : List Value} {x : List (List Int)}  (sad : IsS vad) (ead : Ent own fun w => Ints w vad ad)   (sx : IsS vx) (ex : Ent own fun w => Sl w vx x.length 1 ux) (mx : ∀ k, k < x.length → Ent own fun w => Ints w (ux.getD k undef) (x.getD k [])) (lx : ux.length = x.length) (ax : AllS ux) {n m : Nat} {M : List (List Int)} (hpp : primeB ap = true) (har : ar = (n : Int)) (hac : ac = (m : Int)) (hM : RwI ap n m M) (hd : ad = M.flatten) (hxl : x.length = n * n) (hxr : ∀ q, q < x.length → (x.getD q []).length = m ∧ ∀ j, 0 ≤ (x.getD q []).getD j 0 ∧ (x.getD q []).getD j 0 < ap) (hnm : n ≤ 28 ∧ m ≤ 1600) : Spec Try.prog 18 [.agg #[.int .i64 (ap), .int .i64 (ar), .int .i64 (ac), vad], vx] W own (fun v ow => ∃ (r2 : Value), v = .tuple #[.agg #[.int .i64 ((if tbB ap m M x = true then ap else 0)), .int .i64 ((if tbB ap m M x = true then ar else 0)), r2], .bool (tbB ap m M x)] ∧ IsS r2 ∧ ow = ints 3 r2 (if tbB ap m M x = true then tbD ap m M x else []) :: own) := by
 have hF : FI ad n m (at2 M) := by rw [hd]; exact hM.fi
 have hnC : ((m * n : Nat) : Int) ≤ 4000000 := by have := Nat.mul_le_mul hnm.2 hnm.1; omega
 have hn2 : n * n ≤ 784 := Nat.mul_le_mul hnm.1 hnm.1
 refine Spec.enter Try.f18 _ Try.func18 rfl (n := 54) rfl rfl ?_
 refine GC.seq (GC.region ?_)
 refine G.step (OG.box (cs := [.int .i64 (ap), .int .i64 (ar), .int .i64 (ac), vad]) rfl rfl rfl) rfl rfl rfl ?_
 rintro _ _ ⟨g1, rfl, rfl⟩
 refine G.step (OG.alloc rfl ti26 (zs := [.int .i64 (0), .int .i64 (0), .slice none 0 0]) rfl) rfl rfl rfl ?_
 rintro _ _ ⟨g2, rfl, rfl⟩
 refine G.stepD (OD.assign rfl rfl) rfl rfl rfl ?_
 refine G.nil (GE.then_ (GC.seq (GC.region ?_)))
 refine G.stepD (OD.fieldAddr rfl rfl fa41_1) rfl rfl rfl ?_
 refine G.stepD (OD.load rfl ti3 rfl (i := 1) rfl rfl) rfl rfl rfl ?_
 refine G.stepD (OD.assign rfl rfl) rfl rfl rfl ?_
 refine G.nil (GE.then_ (GC.seq (GC.region ?_)))
 refine G.stepD (OD.fieldAddr rfl rfl fa41_0) rfl rfl rfl ?_
 refine G.stepD (OD.load rfl ti3 rfl (i := 1) rfl rfl) rfl rfl rfl ?_
 refine G.stepD (OD.move rfl rfl) rfl rfl rfl ?_
 refine G.step (OG.buildInts (xs := []) (is := []) rfl et24 rfl rfl rfl rfl rfl) rfl rfl rfl ?_
 rintro v3 _ ⟨hs4, rfl⟩
 refine G.stepD (OD.build (idx := [0, 1, 2]) (xs := [.tmp 16, .tmp 17, .tmp 18]) (vs := [.int .i64 (ap), .int .i64 (ar), v3]) (cs := [[.int .i64 (ap)], [.int .i64 (ar)], [v3]]) (zs := [.int .i64 (0), .int .i64 (0), .slice none 0 0]) (r := [.int .i64 (ap), .int .i64 (ar), v3]) rfl ti26 rfl rfl rfl ⟨rfl, ⟨rfl, ⟨(one_cells (IsS.one hs4)), trivial⟩⟩⟩ rfl) rfl rfl rfl ?_
 refine G.step (OG.alloc rfl ti26 (zs := [.int .i64 (0), .int .i64 (0), .slice none 0 0]) rfl) rfl rfl rfl ?_
 rintro _ _ ⟨g5, rfl, rfl⟩
 refine G.stepD0 (OD.store rfl ti26 rfl rfl (us := [.int .i64 (ap), .int .i64 (ar), v3]) rfl rfl (allC rfl (allC rfl (allC (IsS.one hs4) rfl))) (i := 0) rfl rfl) rfl rfl ?_
 refine G.nil (GE.then_ (GC.seq (GC.region ?_)))
 refine G.stepD (OD.loadAgg rfl ti41 rfl (i := 3) rfl (us := [.int .i64 (ap), .int .i64 (ar), .int .i64 (ac), vad]) rfl rfl) rfl rfl rfl ?_
 refine G.step (OG.call [.agg #[.int .i64 (ap), .int .i64 (ar), .int .i64 (ac), vad]] ent42 rfl rfl rfl rfl (by exact (l1Transpose_w sad (by exact (Ent.drop 4 ead)) (n := n) (m := m) (M := M) (har) (hac) (hF) (hnC) (by omega)))) rfl rfl rfl ?_
 rintro _ _ ⟨v6, rfl, hs7, rfl⟩
 refine G.step (OG.alloc rfl ti41 (zs := [.int .i64 (0), .int .i64 (0), .int .i64 (0), .slice none 0 0]) rfl) rfl rfl rfl ?_
 rintro _ _ ⟨g8, rfl, rfl⟩
 refine G.stepD0 (OD.store rfl ti41 rfl rfl (us := [.int .i64 (ap), .int .i64 (ac), .int .i64 (ar), v6]) rfl rfl (allC rfl (allC rfl (allC rfl (allC (IsS.one hs7) rfl)))) (i := 0) rfl rfl) rfl rfl ?_
 refine G.nil (GE.then_ (GC.seq (GC.seq (GC.region ?_))))
 refine G.stepD (OD.assign rfl rfl) rfl rfl rfl ?_
 refine G.nil (GE.then_ (GC.block ?_))
 refine GC.loop (ι := Nat × List Int × Value) (fun ⟨i, ys, v⟩ => [(1, vx), (4, .pointer (some ⟨g2, 0, none⟩)), (6, .int .i64 (ar)), (7, .pointer (some ⟨g5, 0, none⟩)), (8, .pointer (some ⟨g8, 0, none⟩)), (9, .int .i64 ((i : Int)))]) (fun ⟨i, ys, v⟩ => box g8 41 [.int .i64 (ap), .int .i64 (ac), .int .i64 (ar), v6] :: ints 3 v6 (trD n m M) :: box g5 26 [.int .i64 (ap), .int .i64 (ar), v] :: ints 3 v ys :: box g2 26 [.int .i64 (0), .int .i64 (0), .slice none 0 0] :: box g1 41 [.int .i64 (ap), .int .i64 (ar), .int .i64 (ac), vad] :: own) (fun ⟨i, ys, v⟩ => (i ≤ n) ∧ (ys = tbD ap m M (x.take (i * n))) ∧ (tbB ap m M (x.take (i * n)) = true) ∧ (IsS v)) (fun ⟨i, ys, v⟩ => n - i) (0, [], v3) (⟨by omega, by simp [tbD], by simp [tbB], hs4⟩) ⟨rfl, rfl, rfl, rfl, rfl, rfl, trivial⟩ [] 0 rfl ?_
 rintro ⟨i, ys, v⟩ ⟨hi, hy, hb, hv⟩
 refine GC.seq (GC.seq (GC.region ?_))
 refine G.stepD (OD.move rfl rfl) rfl rfl rfl ?_
 refine G.stepD (OD.move rfl rfl) rfl rfl rfl ?_
 refine G.stepD (OD.lss rfl rfl rfl) rfl rfl rfl ?_
 refine G.nil (GE.then_ ?_)
 refine GC.cond rfl (fun hc9 => ?_) (fun hc9 => ?_)
 replace hc9 := of_decide_eq_true hc9
 refine GC.skip (GE.then_ (GC.seq (GC.block (GC.seq (GC.region ?_)))))
 refine G.stepD (OD.assign rfl rfl) rfl rfl rfl ?_
 refine G.nil (GE.then_ (GC.block ?_))
 refine GC.loop (ι := Nat × List Int × Value) (fun ⟨j, zs, u⟩ => [(1, vx), (4, .pointer (some ⟨g2, 0, none⟩)), (6, .int .i64 (ar)), (7, .pointer (some ⟨g5, 0, none⟩)), (8, .pointer (some ⟨g8, 0, none⟩)), (9, .int .i64 ((i : Int))), (10, .int .i64 ((j : Int)))]) (fun ⟨j, zs, u⟩ => box g8 41 [.int .i64 (ap), .int .i64 (ac), .int .i64 (ar), v6] :: ints 3 v6 (trD n m M) :: box g5 26 [.int .i64 (ap), .int .i64 (ar), u] :: ints 3 u zs :: box g2 26 [.int .i64 (0), .int .i64 (0), .slice none 0 0] :: box g1 41 [.int .i64 (ap), .int .i64 (ar), .int .i64 (ac), vad] :: own) (fun ⟨j, zs, u⟩ => (j ≤ n) ∧ (zs = tbD ap m M (x.take (i * n + j))) ∧ (tbB ap m M (x.take (i * n + j)) = true) ∧ (IsS u)) (fun ⟨j, zs, u⟩ => n - j) (0, ys, v) (⟨by omega, hy, hb, hv⟩) ⟨rfl, rfl, rfl, rfl, rfl, rfl, rfl, trivial⟩ [] 0 rfl ?_
 rintro ⟨j, zs, u⟩ ⟨hj, hz, hb1, hu⟩
 have hzl := tb_len hM hz
 refine GC.seq (GC.seq (GC.region ?_))
 refine G.stepD (OD.move rfl rfl) rfl rfl rfl ?_
 refine G.stepD (OD.move rfl rfl) rfl rfl rfl ?_
 refine G.stepD (OD.lss rfl rfl rfl) rfl rfl rfl ?_
 refine G.nil (GE.then_ ?_)
 refine GC.cond rfl (fun hc10 => ?_) (fun hc10 => ?_)
 replace hc10 := of_decide_eq_true hc10
 refine GC.skip (GE.then_ (GC.seq (GC.block (GC.seq ?_))))
 obtain ⟨q, hq, hqx, hqy, hqz, hql⟩ := ixF (mc := ar) har (show i < n by omega) (show j < n by omega) (show ((n * n : Nat) : Int) ≤ 784 by have := Nat.mul_le_mul hnm.1 hnm.1; omega)
 have hxq := hxr q (by omega)
 refine GC.at [] 0 (env' := [(1, vx), (4, .pointer (some ⟨g2, 0, none⟩)), (6, .int .i64 (ar)), (7, .pointer (some ⟨g5, 0, none⟩)), (8, .pointer (some ⟨g8, 0, none⟩)), (9, .int .i64 ((i : Int))), (10, .int .i64 ((j : Int)))]) ⟨rfl, rfl, rfl, rfl, rfl, rfl, rfl, trivial⟩ rfl ?_
 refine GC.late (σ := [0, 1, 2, 3, 4, 5, 6, 7, 8, 9, 10, 12, 11, 13, 14]) (L := [12]) (its := [⟨33, [], [], [], [], fun _ => .agg #[.int .i64 (ap), .int .i64 (ac), .int .i64 (ar), v6], fun _ => True, fun _ => []⟩,
     ⟨34, [], [], [], [], fun _ => vx, fun _ => True, fun _ => []⟩,
     ⟨35, [], [], [], [], fun _ => .int .i64 ((i : Int)), fun _ => True, fun _ => []⟩,
     ⟨36, [], [], [], [], fun _ => .int .i64 (ar), fun _ => True, fun _ => []⟩,
     ⟨37, [(2, 35), (3, 36)], [], [], [], fun _ => .int .i64 ((i : Int) * ar), fun _ => True, fun _ => []⟩,
     ⟨38, [], [], [], [], fun _ => .int .i64 ((j : Int)), fun _ => True, fun _ => []⟩,
     ⟨39, [(4, 37), (5, 38)], [], [], [], fun _ => .int .i64 ((q : Int)), fun _ => True, fun _ => []⟩,
     ⟨40, [(1, 34), (6, 39)], [], [], [], fun _ => elemPtr vx 1 (q), fun _ => True, fun _ => []⟩,
     ⟨41, [(7, 40)], [], [], [], fun _ => (ux.getD (q) undef), fun _ => True, fun _ => []⟩,
     ⟨42, [(0, 33), (8, 41)], [], [], [9], fun ds => .tuple #[((ds.getD 0 []).getD 0 undef), .bool (slB ap m M (x.getD (q) []))], fun ds => IsS ((ds.getD 0 []).getD 0 undef), fun ds => [ints 3 ((ds.getD 0 []).getD 0 undef) (slR ap m M (x.getD (q) []))]⟩,
     ⟨32, [(9, 42)], [9], [], [9], fun ds => .tuple #[((ds.getD 0 []).getD 0 undef), .bool (slB ap m M (x.getD (q) []))], fun _ => True, fun _ => []⟩,
     ⟨44, [(10, 32)], [9], [], [9], fun _ => .bool (slB ap m M (x.getD (q) [])), fun _ => True, fun _ => []⟩,
     ⟨43, [(10, 32)], [9], [], [9], fun ds => ((ds.getD 0 []).getD 0 undef), fun _ => True, fun _ => []⟩]) (by kernel_rfl) (by repeat (first | refine PanQ.then_ ?_ | refine PanQ.block ?_ | exact PanQ.body)) (by kernel_rfl) ⟨⟨_, rfl, .inl rfl⟩, trivial⟩ (by kernel_rfl) (POps.cons ?_ (POps.cons ?_ (POps.cons ?_ (POps.cons ?_ (POps.cons ?_ (POps.cons ?_ (POps.cons ?_ (POps.cons ?_ (POps.cons ?_ (POps.cons ?_ (POps.cons ?_ (POps.cons ?_ (POps.cons ?_ POps.nil))))))))))))) ?_
 intro θ R hd
 exact Opp.plain (OG.imp (OD.loadAgg rfl ti41 rfl (i := 0) rfl (us := [.int .i64 (ap), .int .i64 (ac), .int .i64 (ar), v6]) rfl rfl) (by rintro _ _ ⟨rfl, rfl⟩; exact ⟨[], rfl, trivial, rfl⟩)) rfl
 intro θ R hd
 exact Opp.plain (OG.imp (OD.move rfl rfl) (by rintro _ _ ⟨rfl, rfl⟩; exact ⟨[], rfl, trivial, rfl⟩)) rfl
 intro θ R hd
 exact Opp.plain (OG.imp (OD.move rfl rfl) (by rintro _ _ ⟨rfl, rfl⟩; exact ⟨[], rfl, trivial, rfl⟩)) rfl
 intro θ R hd
 exact Opp.plain (OG.imp (OD.move rfl rfl) (by rintro _ _ ⟨rfl, rfl⟩; exact ⟨[], rfl, trivial, rfl⟩)) rfl
 intro θ R hd
 obtain ⟨h2d, h3d, _⟩ := hd
 exact Opp.plain (OG.imp (OD.mulI rfl rfl rfl (by omega)) (by rintro _ _ ⟨rfl, rfl⟩; exact ⟨[], rfl, trivial, rfl⟩)) rfl
 intro θ R hd
 exact Opp.plain (OG.imp (OD.move rfl rfl) (by rintro _ _ ⟨rfl, rfl⟩; exact ⟨[], rfl, trivial, rfl⟩)) rfl
 intro θ R hd
 obtain ⟨h4d, h5d, _⟩ := hd
 exact Opp.plain (OG.imp (OD.eqv (OD.addI rfl rfl rfl (by omega)) (congrArg (Value.int .i64) ((hqx) : (((i : Int) * ar) + (j : Int) : Int) = ((q : Int))))) (by rintro _ _ ⟨rfl, rfl⟩; exact ⟨[], rfl, trivial, rfl⟩)) rfl
 intro θ R hd
 obtain ⟨h1d, h6d, _⟩ := hd
 exact Opp.plain (OG.imp (OD.indexAddr rfl et39 rfl (Ent.drop 6 ex.app) rfl (by omega)) (by rintro _ _ ⟨rfl, rfl⟩; exact ⟨[], rfl, trivial, rfl⟩)) rfl
 intro θ R hd
 obtain ⟨h7d, _⟩ := hd
 exact Opp.plain (OG.imp (OD.loadElem rfl ti24 rfl (Ent.drop 6 ex.app) (by omega) rfl) (by rintro _ _ ⟨rfl, rfl⟩; exact ⟨[], rfl, trivial, rfl⟩)) rfl
 intro θ R hd
 obtain ⟨h0d, h8d, _⟩ := hd
 exact Opp.plain (OG.imp (OG.call [.agg #[.int .i64 (ap), .int .i64 (ac), .int .i64 (ar), v6], (ux.getD (q) undef)] ent43 rfl rfl rfl rfl (by exact (l1Solve_w hs7 (Ent.ints (i := 1) rfl) (ax.get (by omega)) (Ent.drop 6 ((mx (q) (by omega)).app)) (n := n) (m := m) (M := M) (hpp) (hac) (har) (hM) (trD_fi) (hxq.1) (hxq.2) (hnm)))) (by rintro _ _ ⟨v11, rfl, hs12, rfl⟩; exact ⟨[v11], rfl, hs12, rfl⟩)) rfl
 intro θ R hd
 obtain ⟨h9d, _⟩ := hd
 exact Opp.plain (OG.imp (OD.move rfl rfl) (by rintro _ _ ⟨rfl, rfl⟩; exact ⟨[], rfl, trivial, rfl⟩)) rfl
 intro θ R hd
 obtain ⟨h10d, _⟩ := hd
 exact Opp.plain (OG.imp (OD.extract rfl rfl rfl) (by rintro _ _ ⟨rfl, rfl⟩; exact ⟨[], rfl, trivial, rfl⟩)) rfl
 intro θ R hd
 obtain ⟨h10d, _⟩ := hd
 exact Opp.plain (OG.imp (OD.extract rfl rfl rfl) (by rintro _ _ ⟨rfl, rfl⟩; exact ⟨[], rfl, trivial, rfl⟩)) rfl
 intro θ hall
 obtain ⟨_, _, _, _, _, _, _, _, _, h9a, _, _, _, _⟩ := hall
 refine G.at [] 0 (env' := [(1, vx), (4, .pointer (some ⟨g2, 0, none⟩)), (6, .int .i64 (ar)), (7, .pointer (some ⟨g5, 0, none⟩)), (8, .pointer (some ⟨g8, 0, none⟩)), (9, .int .i64 ((i : Int))), (10, .int .i64 ((j : Int))), (44, .bool (slB ap m M (x.getD (q) []))), (43, ((θ 9).getD 0 undef))]) ⟨rfl, rfl, rfl, rfl, rfl, rfl, rfl, rfl, rfl, trivial⟩ (own' := ints 3 ((θ 9).getD 0 undef) (slR ap m M (x.getD (q) [])) :: box g8 41 [.int .i64 (ap), .int .i64 (ac), .int .i64 (ar), v6] :: ints 3 v6 (trD n m M) :: box g5 26 [.int .i64 (ap), .int .i64 (ar), u] :: ints 3 u zs :: box g2 26 [.int .i64 (0), .int .i64 (0), .slice none 0 0] :: box g1 41 [.int .i64 (ap), .int .i64 (ar), .int .i64 (ac), vad] :: own) rfl ?_
 have hs13 : IsS ((θ 9).getD 0 undef) := h9a
 clear h9a
 generalize ((θ 9).getD 0 undef) = v14 at *
 show G _ _ _ [_, _] _ _ _ _
 refine G.stepD (OD.assign rfl rfl) rfl rfl rfl ?_
 refine G.stepD (OD.assign rfl rfl) rfl rfl rfl ?_
 refine G.nil (GE.then_ (GC.seq (GC.seq (GC.region ?_))))
 refine G.stepD (OD.move rfl rfl) rfl rfl rfl ?_
 refine G.stepD (OD.not rfl rfl) rfl rfl rfl ?_
 refine G.nil (GE.then_ ?_)
 refine GC.cond rfl (fun hc15 => ?_) (fun hc15 => ?_)
 replace hc15 := eq_false_of_not hc15
 have hsq : slB ap m M (x.getD q []) = false := hc15
 have hsl := slR_len (x := x.getD q []) hM
 refine GC.seq (GC.region ?_)
 refine G.stepD (OD.build (idx := []) (xs := []) (vs := []) (cs := []) (zs := [.int .i64 (0), .int .i64 (0), .slice none 0 0]) (r := [.int .i64 (0), .int .i64 (0), .slice none 0 0]) rfl ti26 rfl rfl rfl trivial rfl) rfl rfl rfl ?_
 refine G.stepD0 (OD.store rfl ti26 rfl rfl (us := [.int .i64 (0), .int .i64 (0), .slice none 0 0]) rfl rfl rfl (i := 5) rfl rfl) rfl rfl ?_
 refine G.stepD (OD.assign rfl rfl) rfl rfl rfl ?_
 refine G.nil (GE.then_ (GC.ret (GE.passR (GE.blockR (GE.passR (GE.passR (GE.blockR (GE.blockR (GE.passR (GE.passR (GE.blockR (GE.passR ?_))))))))))))
 refine GE.nilInts 3 ?_
 exact GE.body [0] 7 (resN rfl (RVs.cons (rv_cells ti26 rfl (i := 6) rfl rfl) (RVs.cons (rv_tmp rfl) RVs.nil)) rfl) rfl (⟨(.slice none 0 0), congr (congr (congrArg (fun (a0 : Int) (a1 : Int) (a3 : Bool) => (.tuple #[.agg #[.int .i64 (a0), .int .i64 (a1), (.slice none 0 0)], .bool (a3)] : Value)) ((by rw [if_neg (by rw [tb_no (q := q) (by omega) hsq]; simp)] : (0 : Int) = (if tbB ap m M x = true then ap else 0)))) ((by rw [if_neg (by rw [tb_no (q := q) (by omega) hsq]; simp)] : (0 : Int) = (if tbB ap m M x = true then ar else 0)))) (((tb_no (q := q) (by omega) hsq).symm : (false : Bool) = tbB ap m M x)), IsS.nil, congrArg (fun (l0 : List Int) => ints 3 (.slice none 0 0) l0 :: own) ((by rw [if_neg (by rw [tb_no (q := q) (by omega) hsq]; simp)] : [] = (if tbB ap m M x = true then tbD ap m M x else [])))⟩)
 replace hc15 := eq_true_of_not hc15
 have hsq : slB ap m M (x.getD q []) = true := hc15
 have hsl := slR_len (x := x.getD q []) hM
 refine GC.skip (GE.then_ ?_)
 have hzl2 : zs.length ≤ 21952 := by have := Nat.mul_le_mul (show i * n + j ≤ 784 by omega) hnm.1; omega
 refine GC.region ?_
 refine G.stepD (OD.fieldAddr rfl rfl fa26_2) rfl rfl rfl ?_
 refine G.stepD (OD.load rfl ti24 rfl (i := 3) rfl rfl) rfl rfl rfl ?_
 refine G.stepD (OD.move rfl rfl) rfl rfl rfl ?_
 refine G.step (OG.appendInts 4 rfl rfl et24 rfl rfl rfl (Ent.ints (i := 0) rfl) (by first | omega | (simp; omega))) rfl rfl rfl ?_
 rintro v16 _ ⟨hs17, rfl⟩
 refine G.stepD (OD.fieldAddr rfl rfl fa26_2) rfl rfl rfl ?_
 refine G.stepD0 (OD.store rfl ti24 rfl rfl (us := [v16]) (one_cells (IsS.one hs17)) rfl (allC (IsS.one hs17) rfl) (i := 3) rfl rfl) rfl rfl ?_
 refine G.nil (GE.blockN (GE.then_ (GC.region ?_)))
 refine G.stepD (OD.move rfl rfl) rfl rfl rfl ?_
 refine G.stepD (OD.addI rfl rfl rfl (by omega)) rfl rfl rfl ?_
 refine G.stepD (OD.assign rfl rfl) rfl rfl rfl ?_
 refine G.nil ?_
 exact GE.again (j + 1, zs ++ (slR ap m M (x.getD (q) [])), v16) (⟨by omega, by rw [← Nat.add_assoc, ← hq]; exact tb_next (show q < x.length by omega) (by rw [hq]; exact hz) hsq, by rw [← Nat.add_assoc, ← hq]; exact tb_ok (show q < x.length by omega) (by rw [hq]; exact hb1) hsq, hs17⟩) (by first | omega | (dsimp only; omega)) ⟨rfl, rfl, rfl, rfl, rfl, rfl, rfl, trivial⟩ [1, 1, 1, 1, 1, 1] 1 rfl
 replace hc10 := of_decide_eq_false hc10
 refine GC.exit (GE.pass (GE.pass (GE.hit (GE.blockN (GE.then_ (GC.region ?_))))))
 refine G.stepD (OD.move rfl rfl) rfl rfl rfl ?_
 refine G.stepD (OD.addI rfl rfl rfl (by omega)) rfl rfl rfl ?_
 refine G.stepD (OD.assign rfl rfl) rfl rfl rfl ?_
 refine G.nil ?_
 exact GE.again (i + 1, zs, u) (⟨by omega, by rw [show (i + 1) * n = i * n + j by rw [Nat.add_mul, Nat.one_mul, show j = n by omega]]; exact hz, by rw [show (i + 1) * n = i * n + j by rw [Nat.add_mul, Nat.one_mul, show j = n by omega]]; exact hb1, hu⟩) (by first | omega | (dsimp only; omega)) ⟨rfl, rfl, rfl, rfl, rfl, rfl, trivial⟩ [] 0 rfl
 replace hc9 := of_decide_eq_false hc9
 refine GC.exit (GE.pass (GE.pass (GE.hit (GE.then_ (GC.seq ?_)))))
 have hee : x.take (i * n) = x := all_take (by rw [hxl, show i = n by omega]; exact Nat.le_refl _)
 have hbb : tbB ap m M x = true := by rw [hee] at hb; exact hb
 refine GC.region ?_
 refine G.stepD (OD.loadAgg rfl ti26 rfl (i := 2) rfl (us := [.int .i64 (ap), .int .i64 (ar), v]) rfl rfl) rfl rfl rfl ?_
 refine G.stepD0 (OD.store rfl ti26 rfl rfl (us := [.int .i64 (ap), .int .i64 (ar), v]) rfl rfl (allC rfl (allC rfl (allC (IsS.one hv) rfl))) (i := 4) rfl rfl) rfl rfl ?_
 refine G.stepD (OD.assign rfl rfl) rfl rfl rfl ?_
 refine G.nil (GE.then_ (GC.ret ?_))
 exact GE.body [3] 5 (resN rfl (RVs.cons (rv_cells ti26 rfl (i := 4) rfl rfl) (RVs.cons (rv_tmp rfl) RVs.nil)) rfl) rfl (⟨v, congr (congr (congrArg (fun (a0 : Int) (a1 : Int) (a3 : Bool) => (.tuple #[.agg #[.int .i64 (a0), .int .i64 (a1), v], .bool (a3)] : Value)) ((by rw [if_pos hbb] : (ap : Int) = (if tbB ap m M x = true then ap else 0)))) ((by rw [if_pos hbb] : (ar : Int) = (if tbB ap m M x = true then ar else 0)))) ((hbb.symm : (true : Bool) = tbB ap m M x)), hv, congrArg (fun (l0 : List Int) => ints 3 v l0 :: own) ((by rw [if_pos hbb, hy, hee] : ys = (if tbB ap m M x = true then tbD ap m M x else [])))⟩)
end Go.Proofs.Ytbmnnbglipkidaa
