/-
  A basis, and coordinates, by the first text: contracts by walks.
-/
import Derived.Test.YtbmnnbglipkidaaWRdf
import Derived.Test.YtbmnnbglipkidaaAlw
namespace Go.Proofs.Ytbmnnbglipkidaa
set_option linter.unusedVariables false
set_option linter.unusedSimpArgs false
open Go.RowKit
theorem ti4 : TI Try.prog 4 false 1 (.bool false) [] := ⟨fun w => by kernel_rfl, by kernel_rfl, fun h => by cases h⟩
theorem ti39 : TI Try.prog 39 false 1 (.slice none 0 0) [] := ⟨fun w => by kernel_rfl, by kernel_rfl, fun h => by cases h⟩
theorem ti50 : TI Try.prog 50 true 6 (.agg #[.bool false, .int .i64 (0), .int .i64 (0), .int .i64 (0), .slice none 0 0, .slice none 0 0]) [(0, 1), (1, 1), (2, 1), (3, 1), (4, 1), (5, 1)] := ⟨fun w => by kernel_rfl, by kernel_rfl, fun _ => ⟨_, Try.underlying50, fun w => by kernel_rfl⟩⟩
theorem fa50_0 : ∀ (b k : Nat) w, (Instr.fieldAt 50 (.pointer (some ⟨b, k, none⟩)) 0).run Try.prog w = .ok (.pointer (some ⟨b, k + 0, none⟩)) w := fun b k w => by kernel_rfl
theorem fa50_1 : ∀ (b k : Nat) w, (Instr.fieldAt 50 (.pointer (some ⟨b, k, none⟩)) 1).run Try.prog w = .ok (.pointer (some ⟨b, k + 1, none⟩)) w := fun b k w => by kernel_rfl
theorem fa50_2 : ∀ (b k : Nat) w, (Instr.fieldAt 50 (.pointer (some ⟨b, k, none⟩)) 2).run Try.prog w = .ok (.pointer (some ⟨b, k + 2, none⟩)) w := fun b k w => by kernel_rfl
theorem fa50_3 : ∀ (b k : Nat) w, (Instr.fieldAt 50 (.pointer (some ⟨b, k, none⟩)) 3).run Try.prog w = .ok (.pointer (some ⟨b, k + 3, none⟩)) w := fun b k w => by kernel_rfl
theorem fa50_4 : ∀ (b k : Nat) w, (Instr.fieldAt 50 (.pointer (some ⟨b, k, none⟩)) 4).run Try.prog w = .ok (.pointer (some ⟨b, k + 4, none⟩)) w := fun b k w => by kernel_rfl
theorem fa50_5 : ∀ (b k : Nat) w, (Instr.fieldAt 50 (.pointer (some ⟨b, k, none⟩)) 5).run Try.prog w = .ok (.pointer (some ⟨b, k + 5, none⟩)) w := fun b k w => by kernel_rfl
theorem ent47 : ∀ us w, (callFunc 47 us).run Try.prog w = .ok (.enter 47 us) w := fun us w => by kernel_rfl
theorem ent48 : ∀ us w, (callFunc 48 us).run Try.prog w = .ok (.enter 48 us) w := fun us w => by kernel_rfl
theorem ent49 : ∀ us w, (callFunc 49 us).run Try.prog w = .ok (.enter 49 us) w := fun us w => by kernel_rfl
theorem ent54 : ∀ us w, (callFunc 54 us).run Try.prog w = .ok (.enter 54 us) w := fun us w => by kernel_rfl
set_option maxRecDepth 100000 in
theorem unitN_w {W : World} {own : List Asn} {n : Nat} {i : Nat}   (hi : i < n) (hn : n ≤ 1000000) : Spec Try.prog 48 [.int .i64 ((n : Int)), .int .i64 ((i : Int))] W own (fun v ow => ∃ (r0 : Value), v = r0 ∧ IsS r0 ∧ ow = ints 3 r0 (eL n i) :: own) := by
 refine Spec.enter Try.f48 _ Try.func48 rfl (n := 12) rfl rfl ?_
 refine GC.seq (GC.region ?_)
 refine G.stepD (OD.assign rfl rfl) rfl rfl rfl ?_
 refine G.nil (GE.then_ (GC.seq (GC.region ?_)))
 refine G.stepD (OD.move rfl rfl) rfl rfl rfl ?_
 refine G.step (OG.makeInts rfl et24 rfl rfl (by omega)) rfl rfl rfl ?_
 rintro v1 _ ⟨hs2, rfl⟩
 refine G.stepD (OD.assign rfl rfl) rfl rfl rfl ?_
 refine G.nil (GE.then_ (GC.seq (GC.region ?_)))
 refine G.stepD (OD.move rfl rfl) rfl rfl rfl ?_
 refine G.stepD (OD.move rfl rfl) rfl rfl rfl ?_
 refine G.stepD (OD.indexAddr rfl et24 rfl (Ent.ints (i := 0) rfl) rfl (by first | omega | (simp only [List.length_set, List.length_replicate]; omega))) rfl rfl rfl ?_
 refine G.stepD0 (OD.storeInt rfl ti3 rfl rfl (i := 0) rfl (by first | omega | (simp only [List.length_set, List.length_replicate]; omega))) rfl rfl ?_
 refine G.nil (GE.then_ (GC.seq (GC.region ?_)))
 refine G.stepD (OD.move rfl rfl) rfl rfl rfl ?_
 refine G.stepD (OD.assign rfl rfl) rfl rfl rfl ?_
 refine G.nil (GE.then_ (GC.ret ?_))
 exact GE.body [] 0 (res1 rfl rfl) rfl (⟨v1, rfl, hs2, rfl⟩)
set_option maxHeartbeats 4000000 in
set_option maxRecDepth 100000 in
theorem newBasis_w {W : World} {own : List Asn} {vx : Value} {ux : List Value} {x : List (List Int)} {cols : Int} {p : Int}  (sx : IsS vx) (ex : Ent own fun w => Sl w vx x.length 1 ux) (mx : ∀ k, k < x.length → Ent own fun w => Ints w (ux.getD k undef) (x.getD k [])) (lx : ux.length = x.length) (ax : AllS ux)  {n m : Nat} (hpp : primeB p = true) (hE : RwI p n m x) (hcols : cols = (m : Int)) (hnm : n ≤ 28 ∧ m ≤ 1600) : Spec Try.prog 22 [vx, .int .i64 (cols), .int .i64 (p)] W own (fun v ow => ∃ (r4 : Value) (u4 : List Value) (r5 : Value), v = .agg #[.bool (frB p m x), .int .i64 (p), .int .i64 (cols), .int .i64 ((x.length : Nat)), r4, r5] ∧ IsS r4 ∧ AllS u4 ∧ u4.length = ((redE p m x).1).length ∧ IsS r5 ∧ ow = lst 24 r4 u4 :: many (ints 3) u4 ((redE p m x).1) :: ints 3 r5 ((red0 p m x).2) :: own) := by
 have hp2 := primeB_range hpp
 have hEl := hE.len
 refine Spec.enter Try.f22 _ Try.func22 rfl (n := 68) rfl rfl ?_
 refine GC.seq (GC.region ?_)
 refine G.step (OG.alloc rfl ti50 (zs := [.bool false, .int .i64 (0), .int .i64 (0), .int .i64 (0), .slice none 0 0, .slice none 0 0]) rfl) rfl rfl rfl ?_
 rintro _ _ ⟨g1, rfl, rfl⟩
 refine G.nil (GE.then_ (GC.seq (GC.region ?_)))
 refine G.stepD (OD.move rfl rfl) rfl rfl rfl ?_
 refine G.stepD (OD.move rfl rfl) rfl rfl rfl ?_
 refine G.stepD (OD.move rfl rfl) rfl rfl rfl ?_
 refine G.stepD (OD.len rfl rfl et39 rfl (Ent.drop 1 ex)) rfl rfl rfl ?_
 refine G.stepD (OD.build (idx := [1, 2, 3]) (xs := [.tmp 12, .tmp 13, .tmp 15]) (vs := [.int .i64 (p), .int .i64 (cols), .int .i64 ((x.length : Nat))]) (cs := [[.int .i64 (p)], [.int .i64 (cols)], [.int .i64 ((x.length : Nat))]]) (zs := [.bool false, .int .i64 (0), .int .i64 (0), .int .i64 (0), .slice none 0 0, .slice none 0 0]) (r := [.bool false, .int .i64 (p), .int .i64 (cols), .int .i64 ((x.length : Nat)), .slice none 0 0, .slice none 0 0]) rfl ti50 rfl rfl rfl ⟨rfl, ⟨rfl, ⟨rfl, trivial⟩⟩⟩ rfl) rfl rfl rfl ?_
 refine G.step (OG.alloc rfl ti50 (zs := [.bool false, .int .i64 (0), .int .i64 (0), .int .i64 (0), .slice none 0 0, .slice none 0 0]) rfl) rfl rfl rfl ?_
 rintro _ _ ⟨g2, rfl, rfl⟩
 refine G.stepD0 (OD.store rfl ti50 rfl rfl (us := [.bool false, .int .i64 (p), .int .i64 (cols), .int .i64 ((x.length : Nat)), .slice none 0 0, .slice none 0 0]) rfl rfl rfl (i := 0) rfl rfl) rfl rfl ?_
 refine G.nil (GE.then_ (GC.seq (GC.seq (GC.region ?_))))
 refine G.stepD (OD.move rfl rfl) rfl rfl rfl ?_
 refine G.stepD (OD.len rfl rfl et39 rfl (Ent.drop 2 ex)) rfl rfl rfl ?_
 refine G.stepD (OD.move rfl rfl) rfl rfl rfl ?_
 refine G.nil (GE.then_ (GC.block ?_))
 refine GC.nilLst 24 ?_
 refine GC.many0 (ints 3) ?_
 refine GC.loop (ι := Nat × List Value × Value) (fun ⟨k, us, v⟩ => [(0, vx), (1, .int .i64 (cols)), (2, .int .i64 (p)), (6, .pointer (some ⟨g1, 0, none⟩)), (7, .pointer (some ⟨g2, 0, none⟩)), (17, vx), (18, .int .i64 ((x.length : Nat))), (19, .int .i64 ((k : Int)))]) (fun ⟨k, us, v⟩ => many (ints 3) us (exK x k) :: lst 24 v us :: box g2 50 [.bool false, .int .i64 (p), .int .i64 (cols), .int .i64 ((x.length : Nat)), v, .slice none 0 0] :: box g1 50 [.bool false, .int .i64 (0), .int .i64 (0), .int .i64 (0), .slice none 0 0, .slice none 0 0] :: own) (fun ⟨k, us, v⟩ => (k ≤ x.length) ∧ (AllS us) ∧ (us.length = k) ∧ (IsS v)) (fun ⟨k, us, v⟩ => x.length - k) (0, [], (.slice none 0 0)) (⟨by omega, AllS.nil, rfl, IsS.nil⟩) ⟨rfl, rfl, rfl, rfl, rfl, rfl, rfl, rfl, trivial⟩ [] 0 rfl ?_
 rintro ⟨k, us, v⟩ ⟨hk, hus, hul, hv⟩
 have hxl := exK_len (x := x) (k := k)
 refine GC.seq (GC.region ?_)
 refine G.stepD (OD.lss rfl rfl rfl) rfl rfl rfl ?_
 refine G.nil (GE.then_ (GC.seq ?_))
 refine GC.cond rfl (fun hc3 => ?_) (fun hc3 => ?_)
 replace hc3 := of_decide_eq_true hc3
 refine GC.skip (GE.then_ (GC.seq (GC.block (GC.seq ?_))))
 have hrk : (x.getD k []).length = m := hE.rows k (by omega)
 have heL := eL_len x.length k
 refine GC.region ?_
 refine G.stepD (OD.move rfl rfl) rfl rfl rfl ?_
 refine G.stepD (OD.indexAddr rfl et39 rfl (Ent.drop 4 ex) rfl (by omega)) rfl rfl rfl ?_
 refine G.stepD (OD.loadElem rfl ti24 rfl (Ent.drop 4 ex) (by omega) rfl) rfl rfl rfl ?_
 refine G.stepD (OD.assign rfl rfl) rfl rfl rfl ?_
 refine G.stepD (OD.assign rfl rfl) rfl rfl rfl ?_
 refine G.nil (GE.then_ ?_)
 refine GC.at [] 0 (env' := [(0, vx), (1, .int .i64 (cols)), (2, .int .i64 (p)), (6, .pointer (some ⟨g1, 0, none⟩)), (7, .pointer (some ⟨g2, 0, none⟩)), (17, vx), (18, .int .i64 ((x.length : Nat))), (19, .int .i64 ((k : Int))), (8, .int .i64 ((k : Int))), (9, (ux.getD (k) undef))]) ⟨rfl, rfl, rfl, rfl, rfl, rfl, rfl, rfl, rfl, rfl, trivial⟩ rfl ?_
 refine GC.par (its := [⟨24, [], [], [], [], fun _ => .pointer (some ⟨g2, 4, none⟩), fun _ => True, fun _ => []⟩,
     ⟨25, [(0, 24)], [], [], [], fun _ => v, fun _ => True, fun _ => []⟩,
     ⟨26, [], [], [], [], fun _ => (ux.getD (k) undef), fun _ => True, fun _ => []⟩,
     ⟨27, [(2, 26)], [], [], [3], fun ds => ((ds.getD 0 []).getD 0 undef), fun ds => IsS ((ds.getD 0 []).getD 0 undef), fun ds => [ints 3 ((ds.getD 0 []).getD 0 undef) (x.getD (k) [])]⟩,
     ⟨28, [], [], [], [], fun _ => vx, fun _ => True, fun _ => []⟩,
     ⟨29, [(4, 28)], [], [], [], fun _ => .int .i64 ((x.length : Nat)), fun _ => True, fun _ => []⟩,
     ⟨30, [], [], [], [], fun _ => .int .i64 ((k : Int)), fun _ => True, fun _ => []⟩,
     ⟨31, [(5, 29), (6, 30)], [], [], [7], fun ds => ((ds.getD 0 []).getD 0 undef), fun ds => IsS ((ds.getD 0 []).getD 0 undef), fun ds => [ints 3 ((ds.getD 0 []).getD 0 undef) (eL x.length k)]⟩,
     ⟨32, [(3, 27), (7, 31)], [3, 7], [3], [3, 7, 8], fun ds => ((ds.getD 2 []).getD 0 undef), fun ds => IsS ((ds.getD 2 []).getD 0 undef), fun ds => [ints 3 ((ds.getD 2 []).getD 0 undef) ((x.getD (k) []) ++ (eL x.length k))]⟩,
     ⟨33, [(8, 32)], [7, 8], [], [3, 7, 8, 9], fun ds => ((ds.getD 3 []).getD 0 undef), fun ds => IsS ((ds.getD 3 []).getD 0 undef), fun ds => [lst 24 ((ds.getD 3 []).getD 0 undef) [((ds.getD 2 []).getD 0 undef)]]⟩]) (by kernel_rfl) (by kernel_rfl) (POps.cons ?_ (POps.cons ?_ (POps.cons ?_ (POps.cons ?_ (POps.cons ?_ (POps.cons ?_ (POps.cons ?_ (POps.cons ?_ (POps.cons ?_ (POps.cons ?_ POps.nil)))))))))) ?_
 intro θ R hd
 exact Opp.plain (OG.imp (OD.fieldAddr rfl rfl fa50_4) (by rintro _ _ ⟨rfl, rfl⟩; exact ⟨[], rfl, trivial, rfl⟩)) rfl
 intro θ R hd
 obtain ⟨h0d, _⟩ := hd
 exact Opp.plain (OG.imp (OD.load rfl ti39 rfl (i := 2) rfl rfl) (by rintro _ _ ⟨rfl, rfl⟩; exact ⟨[], rfl, trivial, rfl⟩)) rfl
 intro θ R hd
 exact Opp.plain (OG.imp (OD.move rfl rfl) (by rintro _ _ ⟨rfl, rfl⟩; exact ⟨[], rfl, trivial, rfl⟩)) rfl
 intro θ R hd
 obtain ⟨h2d, _⟩ := hd
 exact Opp.plain (OG.imp (OG.call [(ux.getD (k) undef)] ent47 rfl rfl rfl rfl (by exact (clone_s (ax.get (by omega)) (Ent.drop 4 ((mx (k) (by omega)).app)) (by omega)))) (by rintro v12 _ ⟨_, rfl, hs13, rfl⟩; exact ⟨[v12], rfl, hs13, rfl⟩)) rfl
 intro θ R hd
 exact Opp.plain (OG.imp (OD.move rfl rfl) (by rintro _ _ ⟨rfl, rfl⟩; exact ⟨[], rfl, trivial, rfl⟩)) rfl
 intro θ R hd
 obtain ⟨h4d, _⟩ := hd
 exact Opp.plain (OG.imp (OD.len rfl rfl et39 rfl (Ent.drop 4 ex.app)) (by rintro _ _ ⟨rfl, rfl⟩; exact ⟨[], rfl, trivial, rfl⟩)) rfl
 intro θ R hd
 exact Opp.plain (OG.imp (OD.move rfl rfl) (by rintro _ _ ⟨rfl, rfl⟩; exact ⟨[], rfl, trivial, rfl⟩)) rfl
 intro θ R hd
 obtain ⟨h5d, h6d, _⟩ := hd
 exact Opp.plain (OG.imp (OG.call [.int .i64 ((x.length : Nat)), .int .i64 ((k : Int))] ent48 rfl rfl rfl rfl (by exact (unitN_w (by omega) (by omega)))) (by rintro v14 _ ⟨_, rfl, hs15, rfl⟩; exact ⟨[v14], rfl, hs15, rfl⟩)) rfl
 intro θ R hd
 obtain ⟨h3d, h7d, _⟩ := hd
 exact Opp.plain (OG.imp (OG.appendInts 0 rfl rfl et24 rfl rfl rfl (Ent.ints (i := 1) rfl) (by first | omega | (simp; omega))) (by rintro v16 _ ⟨hs17, rfl⟩; exact ⟨[v16], rfl, hs17, rfl⟩)) rfl
 intro θ R hd
 obtain ⟨h8d, _⟩ := hd
 exact Opp.plain (OG.imp (OG.buildLst (xs := [.tmp 32]) (us := [((θ 8).getD 0 undef)]) rfl et39 rfl rfl rfl (allC (IsS.one h8d) rfl) rfl) (by rintro v18 _ ⟨hs19, rfl⟩; exact ⟨[v18], rfl, hs19, rfl⟩)) rfl
 intro θ hall
 obtain ⟨_, _, _, h3a, _, _, _, h7a, h8a, h9a, _⟩ := hall
 refine G.at [] 0 (env' := [(0, vx), (1, .int .i64 (cols)), (2, .int .i64 (p)), (6, .pointer (some ⟨g1, 0, none⟩)), (7, .pointer (some ⟨g2, 0, none⟩)), (17, vx), (18, .int .i64 ((x.length : Nat))), (19, .int .i64 ((k : Int))), (25, v), (33, ((θ 9).getD 0 undef))]) ⟨rfl, rfl, rfl, rfl, rfl, rfl, rfl, rfl, rfl, rfl, trivial⟩ (own' := ints 3 ((θ 7).getD 0 undef) (eL x.length k) :: ints 3 ((θ 8).getD 0 undef) ((x.getD (k) []) ++ (eL x.length k)) :: lst 24 ((θ 9).getD 0 undef) [((θ 8).getD 0 undef)] :: many (ints 3) us (exK x k) :: lst 24 v us :: box g2 50 [.bool false, .int .i64 (p), .int .i64 (cols), .int .i64 ((x.length : Nat)), v, .slice none 0 0] :: box g1 50 [.bool false, .int .i64 (0), .int .i64 (0), .int .i64 (0), .slice none 0 0, .slice none 0 0] :: own) rfl ?_
 have hs20 : IsS ((θ 3).getD 0 undef) := h3a
 clear h3a
 generalize ((θ 3).getD 0 undef) = v21 at *
 have hs22 : IsS ((θ 7).getD 0 undef) := h7a
 clear h7a
 generalize ((θ 7).getD 0 undef) = v23 at *
 have hs24 : IsS ((θ 8).getD 0 undef) := h8a
 clear h8a
 generalize ((θ 8).getD 0 undef) = v25 at *
 have hs26 : IsS ((θ 9).getD 0 undef) := h9a
 clear h9a
 generalize ((θ 9).getD 0 undef) = v27 at *
 show G _ _ _ [_, _, _] _ _ _ _
 refine G.step (OG.appendLst 4 rfl rfl et39 rfl rfl rfl (Ent.lst (i := 2) rfl) (List.all_eq_true.2 fun u hu => by simpa using (AllS.snoc AllS.nil hs24).one u hu) (by simp [maxLen] <;> omega)) rfl rfl rfl ?_
 rintro v28 _ ⟨hs29, rfl⟩
 refine G.stepD (OD.fieldAddr rfl rfl fa50_4) rfl rfl rfl ?_
 refine G.stepD0 (OD.store rfl ti39 rfl rfl (us := [v28]) (one_cells (IsS.one hs29)) rfl (allC (IsS.one hs29) rfl) (i := 5) rfl rfl) rfl rfl ?_
 refine G.nil (GE.blockN (GE.then_ (GC.region ?_)))
 refine G.stepD (OD.addI rfl rfl rfl (by omega)) rfl rfl rfl ?_
 refine G.stepD (OD.move rfl rfl) rfl rfl rfl ?_
 refine G.nil ?_
 refine GE.at [1, 2, 0, 0, 0, 0, 0] 0 (env' := [(0, vx), (1, .int .i64 (cols)), (2, .int .i64 (p)), (6, .pointer (some ⟨g1, 0, none⟩)), (7, .pointer (some ⟨g2, 0, none⟩)), (17, vx), (18, .int .i64 ((x.length : Nat))), (25, v), (33, v27), (34, v28), (35, .pointer (some ⟨g2, 4, none⟩)), (36, .int .i64 ((k : Int) + 1)), (19, .int .i64 ((k : Int) + 1))]) ⟨rfl, rfl, rfl, rfl, rfl, rfl, rfl, rfl, rfl, rfl, rfl, rfl, rfl, trivial⟩ (own' := ints 3 v25 ((x.getD (k) []) ++ (eL x.length k)) :: many (ints 3) us (exK x k) :: ints 3 v23 (eL x.length k) :: lst 24 v27 [v25] :: lst 24 v28 (us ++ [v25]) :: box g2 50 [.bool false, .int .i64 (p), .int .i64 (cols), .int .i64 ((x.length : Nat)), v28, .slice none 0 0] :: box g1 50 [.bool false, .int .i64 (0), .int .i64 (0), .int .i64 (0), .slice none 0 0, .slice none 0 0] :: own) rfl ?_
 refine GE.manyPush (by omega) ?_
 refine GE.ownEq (own' := many (ints 3) (us ++ [v25]) (exK x (k + 1)) :: ints 3 v23 (eL x.length k) :: lst 24 v27 [v25] :: lst 24 v28 (us ++ [v25]) :: box g2 50 [.bool false, .int .i64 (p), .int .i64 (cols), .int .i64 ((x.length : Nat)), v28, .slice none 0 0] :: box g1 50 [.bool false, .int .i64 (0), .int .i64 (0), .int .i64 (0), .slice none 0 0, .slice none 0 0] :: own) (by rw [exK_next] <;> rfl) ?_
 exact GE.again (k + 1, us ++ [v25], v28) (⟨by omega, (hus.snoc hs24), by rw [List.length_append, List.length_singleton]; omega, hs29⟩) (by first | omega | (dsimp only; omega)) ⟨rfl, rfl, rfl, rfl, rfl, rfl, rfl, rfl, trivial⟩ [0, 2, 2, 2] 2 rfl
 replace hc3 := of_decide_eq_false hc3
 refine GC.exit (GE.pass (GE.pass (GE.hit (GE.then_ (GC.seq (GC.seq ?_))))))
 have hX : RwI p n (m + x.length) (extE x) := by rw [hE.len]; exact extE_I hpp hE
 have hxe := exK_end (show k = x.length by omega)
 have hel : (extE x).length = x.length := extE_len
 have hrl : (redE p m x).1.length = (extE x).length := (redE_I hpp hE).len
 have hfw : (redE p m x).2.length ≤ (extE x).length := (redE_I hpp hE).few
 refine GC.ownEq (own' := many (ints 3) us (extE x) :: lst 24 v us :: box g2 50 [.bool false, .int .i64 (p), .int .i64 (cols), .int .i64 ((x.length : Nat)), v, .slice none 0 0] :: box g1 50 [.bool false, .int .i64 (0), .int .i64 (0), .int .i64 (0), .slice none 0 0, .slice none 0 0] :: own) (by dsimp only; rw [hxe]) ?_
 refine GC.region ?_
 refine G.stepD (OD.fieldAddr rfl rfl fa50_4) rfl rfl rfl ?_
 refine G.stepD (OD.load rfl ti39 rfl (i := 2) rfl rfl) rfl rfl rfl ?_
 refine G.stepD (OD.move rfl rfl) rfl rfl rfl ?_
 refine G.stepD (OD.move rfl rfl) rfl rfl rfl ?_
 refine G.stepD (OD.len rfl rfl et39 rfl (Ent.drop 4 ex)) rfl rfl rfl ?_
 refine G.stepD (OD.addI rfl rfl rfl (by omega)) rfl rfl rfl ?_
 refine G.stepD (OD.move rfl rfl) rfl rfl rfl ?_
 refine G.at [1, 0, 0, 0] 0 (env' := [(0, vx), (1, .int .i64 (cols)), (2, .int .i64 (p)), (6, .pointer (some ⟨g1, 0, none⟩)), (7, .pointer (some ⟨g2, 0, none⟩)), (17, vx), (18, .int .i64 ((x.length : Nat))), (19, .int .i64 ((k : Int))), (20, .bool (decide ((k : Int) < (x.length : Nat)))), (37, .pointer (some ⟨g2, 4, none⟩)), (38, v), (39, .int .i64 (cols)), (40, vx), (41, .int .i64 ((x.length : Nat))), (42, .int .i64 (cols + (x.length : Nat))), (43, .int .i64 (p))]) ⟨rfl, rfl, rfl, rfl, rfl, rfl, rfl, rfl, rfl, rfl, rfl, rfl, rfl, rfl, rfl, rfl, trivial⟩ (own' := lst 24 v us :: many (ints 3) us (extE x) :: box g2 50 [.bool false, .int .i64 (p), .int .i64 (cols), .int .i64 ((x.length : Nat)), v, .slice none 0 0] :: box g1 50 [.bool false, .int .i64 (0), .int .i64 (0), .int .i64 (0), .slice none 0 0, .slice none 0 0] :: own) rfl ?_
 refine G.step (OG.call [v, .int .i64 (cols + (x.length : Nat)), .int .i64 (p)] ent49 rfl rfl rfl rfl (by exact (reduce_w hv hus (by omega) (hpp) (hX) (by omega) (by omega)))) rfl rfl rfl ?_
 rintro v30 _ ⟨_, u31, rfl, hs32, hs33, hs34, rfl⟩
 refine G.stepD (OD.len rfl rfl et24 rfl (Ent.ints (i := 0) rfl)) rfl rfl rfl ?_
 refine G.stepD (OD.move rfl rfl) rfl rfl rfl ?_
 refine G.nil (GE.then_ (GC.block ?_))
 have hPl : (rdA p (ivp p) (m + x.length) (extE x)).2.length = (redE p m x).2.length := rfl
 refine GC.ownEq (own' := ints 3 v30 ((redE p m x).2) :: lst 24 v u31 :: many (ints 3) u31 ((redE p m x).1) :: box g2 50 [.bool false, .int .i64 (p), .int .i64 (cols), .int .i64 ((x.length : Nat)), v, .slice none 0 0] :: box g1 50 [.bool false, .int .i64 (0), .int .i64 (0), .int .i64 (0), .slice none 0 0, .slice none 0 0] :: own) (rfl) ?_
 refine GC.nilInts 3 ?_
 refine GC.ownEq (own' := ints 3 (.slice none 0 0) (kpF m (redE p m x).2 0) :: ints 3 v30 ((redE p m x).2) :: lst 24 v u31 :: many (ints 3) u31 ((redE p m x).1) :: box g2 50 [.bool false, .int .i64 (p), .int .i64 (cols), .int .i64 ((x.length : Nat)), v, .slice none 0 0] :: box g1 50 [.bool false, .int .i64 (0), .int .i64 (0), .int .i64 (0), .slice none 0 0, .slice none 0 0] :: own) (rfl) ?_
 refine GC.loop (ι := Nat × Value) (fun ⟨q, vq⟩ => [(0, vx), (1, .int .i64 (cols)), (6, .pointer (some ⟨g1, 0, none⟩)), (7, .pointer (some ⟨g2, 0, none⟩)), (44, v30), (45, .int .i64 ((((rdA p (ivp p) (m + x.length) (extE x)).2).length : Nat))), (46, .int .i64 ((q : Int)))]) (fun ⟨q, vq⟩ => ints 3 vq (kpF m (redE p m x).2 q) :: ints 3 v30 ((redE p m x).2) :: lst 24 v u31 :: many (ints 3) u31 ((redE p m x).1) :: box g2 50 [.bool false, .int .i64 (p), .int .i64 (cols), .int .i64 ((x.length : Nat)), v, vq] :: box g1 50 [.bool false, .int .i64 (0), .int .i64 (0), .int .i64 (0), .slice none 0 0, .slice none 0 0] :: own) (fun ⟨q, vq⟩ => (q ≤ (redE p m x).2.length) ∧ (IsS vq)) (fun ⟨q, vq⟩ => (redE p m x).2.length - q) (0, (.slice none 0 0)) (⟨by omega, IsS.nil⟩) ⟨rfl, rfl, rfl, rfl, rfl, rfl, rfl, trivial⟩ [] 0 rfl ?_
 rintro ⟨q, vq⟩ ⟨hq, hvq⟩
 have hkl := kpF_le (m := m) (P := (redE p m x).2) (q := q)
 refine GC.seq (GC.region ?_)
 refine G.stepD (OD.lss rfl rfl rfl) rfl rfl rfl ?_
 refine G.nil (GE.then_ (GC.seq ?_))
 refine GC.cond rfl (fun hc35 => ?_) (fun hc35 => ?_)
 replace hc35 := of_decide_eq_true hc35
 refine GC.skip (GE.then_ (GC.seq (GC.block (GC.seq (GC.region ?_)))))
 refine G.stepD (OD.indexAddr rfl et24 rfl (Ent.ints (i := 1) rfl) rfl (by omega)) rfl rfl rfl ?_
 refine G.stepD (OD.loadInt rfl ti3 rfl (Ent.ints (i := 1) rfl) (by omega)) rfl rfl rfl ?_
 refine G.stepD (OD.assign rfl rfl) rfl rfl rfl ?_
 refine G.nil (GE.then_ (GC.seq (GC.region ?_)))
 refine G.stepD (OD.move rfl rfl) rfl rfl rfl ?_
 refine G.stepD (OD.move rfl rfl) rfl rfl rfl ?_
 refine G.stepD (OD.lss rfl rfl rfl) rfl rfl rfl ?_
 refine G.nil (GE.then_ ?_)
 refine GC.cond rfl (fun hc36 => ?_) (fun hc36 => ?_)
 replace hc36 := of_decide_eq_true hc36
 have hpm : (redE p m x).2.getD q 0 < cols := hc36
 refine GC.region ?_
 refine G.stepD (OD.fieldAddr rfl rfl fa50_5) rfl rfl rfl ?_
 refine G.stepD (OD.load rfl ti24 rfl (i := 4) rfl rfl) rfl rfl rfl ?_
 refine G.stepD (OD.move rfl rfl) rfl rfl rfl ?_
 refine G.step (OG.buildInts (xs := [.tmp 55]) (is := [((redE p m x).2).getD (q) 0]) rfl et24 rfl rfl rfl rfl rfl) rfl rfl rfl ?_
 rintro v37 _ ⟨hs38, rfl⟩
 refine G.step (OG.appendInts 1 rfl rfl et24 rfl rfl rfl (Ent.ints (i := 0) rfl) (by first | omega | (simp; omega))) rfl rfl rfl ?_
 rintro v39 _ ⟨hs40, rfl⟩
 refine G.stepD (OD.fieldAddr rfl rfl fa50_5) rfl rfl rfl ?_
 refine G.stepD0 (OD.store rfl ti24 rfl rfl (us := [v39]) (one_cells (IsS.one hs40)) rfl (allC (IsS.one hs40) rfl) (i := 5) rfl rfl) rfl rfl ?_
 refine G.nil (GE.blockN (GE.then_ (GC.region ?_)))
 refine G.stepD (OD.addI rfl rfl rfl (by omega)) rfl rfl rfl ?_
 refine G.stepD (OD.move rfl rfl) rfl rfl rfl ?_
 refine G.nil ?_
 refine GE.ownEq (own' := ints 3 v37 [((redE p m x).2).getD (q) 0] :: ints 3 v39 (kpF m (redE p m x).2 (q + 1)) :: ints 3 v30 ((redE p m x).2) :: lst 24 v u31 :: many (ints 3) u31 ((redE p m x).1) :: box g2 50 [.bool false, .int .i64 (p), .int .i64 (cols), .int .i64 ((x.length : Nat)), v, v39] :: box g1 50 [.bool false, .int .i64 (0), .int .i64 (0), .int .i64 (0), .slice none 0 0, .slice none 0 0] :: own) (by (try dsimp only); rw [kpF_yes (by omega) (show (redE p m x).2.getD q 0 < (m : Int) by omega)] <;> rfl) ?_
 exact GE.again (q + 1, v39) (⟨by omega, hs40⟩) (by first | omega | (dsimp only; omega)) ⟨rfl, rfl, rfl, rfl, rfl, rfl, rfl, trivial⟩ [1, 1, 1, 1, 1, 1] 1 rfl
 replace hc36 := of_decide_eq_false hc36
 have hpm : ¬ (redE p m x).2.getD q 0 < cols := hc36
 refine GC.skip (GE.blockN (GE.then_ (GC.region ?_)))
 refine G.stepD (OD.addI rfl rfl rfl (by omega)) rfl rfl rfl ?_
 refine G.stepD (OD.move rfl rfl) rfl rfl rfl ?_
 refine G.nil ?_
 refine GE.ownEq (own' := ints 3 vq (kpF m (redE p m x).2 (q + 1)) :: ints 3 v30 ((redE p m x).2) :: lst 24 v u31 :: many (ints 3) u31 ((redE p m x).1) :: box g2 50 [.bool false, .int .i64 (p), .int .i64 (cols), .int .i64 ((x.length : Nat)), v, vq] :: box g1 50 [.bool false, .int .i64 (0), .int .i64 (0), .int .i64 (0), .slice none 0 0, .slice none 0 0] :: own) (by (try dsimp only); rw [kpF_no (by omega) (show ¬ (redE p m x).2.getD q 0 < (m : Int) by omega)] <;> rfl) ?_
 exact GE.again (q + 1, vq) (⟨by omega, hvq⟩) (by first | omega | (dsimp only; omega)) ⟨rfl, rfl, rfl, rfl, rfl, rfl, rfl, trivial⟩ [] 0 rfl
 replace hc35 := of_decide_eq_false hc35
 refine GC.exit (GE.pass (GE.pass (GE.hit (GE.then_ (GC.seq ?_)))))
 have hke : kpF m (redE p m x).2 q = (red0 p m x).2 := kpF_end hpp hE (by omega)
 refine GC.ownEq (own' := ints 3 vq ((red0 p m x).2) :: ints 3 v30 ((redE p m x).2) :: lst 24 v u31 :: many (ints 3) u31 ((redE p m x).1) :: box g2 50 [.bool false, .int .i64 (p), .int .i64 (cols), .int .i64 ((x.length : Nat)), v, vq] :: box g1 50 [.bool false, .int .i64 (0), .int .i64 (0), .int .i64 (0), .slice none 0 0, .slice none 0 0] :: own) (by dsimp only; rw [hke]) ?_
 refine GC.region ?_
 refine G.stepD (OD.fieldAddr rfl rfl fa50_5) rfl rfl rfl ?_
 refine G.stepD (OD.load rfl ti24 rfl (i := 4) rfl rfl) rfl rfl rfl ?_
 refine G.stepD (OD.len rfl rfl et24 rfl (Ent.ints (i := 0) rfl)) rfl rfl rfl ?_
 refine G.stepD (OD.move rfl rfl) rfl rfl rfl ?_
 refine G.stepD (OD.len rfl rfl et39 rfl (Ent.drop 6 ex)) rfl rfl rfl ?_
 refine G.stepD (OD.eqv (OD.eql rfl rfl rfl) (congrArg (Value.bool) ((fr_beq hpp hE) : _ = (frB p m x)))) rfl rfl rfl ?_
 refine G.stepD (OD.fieldAddr rfl rfl fa50_0) rfl rfl rfl ?_
 refine G.stepD0 (OD.store rfl ti4 rfl rfl (us := [.bool (frB p m x)]) rfl rfl rfl (i := 4) rfl rfl) rfl rfl ?_
 refine G.nil (GE.then_ (GC.seq (GC.region ?_)))
 refine G.stepD (OD.loadAgg rfl ti50 rfl (i := 4) rfl (us := [.bool (frB p m x), .int .i64 (p), .int .i64 (cols), .int .i64 ((x.length : Nat)), v, vq]) rfl rfl) rfl rfl rfl ?_
 refine G.stepD0 (OD.store rfl ti50 rfl rfl (us := [.bool (frB p m x), .int .i64 (p), .int .i64 (cols), .int .i64 ((x.length : Nat)), v, vq]) rfl rfl (allC rfl (allC rfl (allC rfl (allC rfl (allC (IsS.one hv) (allC (IsS.one hvq) rfl)))))) (i := 5) rfl rfl) rfl rfl ?_
 refine G.nil (GE.then_ (GC.ret ?_))
 exact GE.body [2, 2, 0] 3 (resN rfl (RVs.cons (rv_cells ti50 rfl (i := 5) rfl rfl) RVs.nil) rfl) rfl (⟨v, u31, vq, rfl, hv, hs33, (by first | omega | (simp; omega)), hvq, rfl⟩)
set_option maxHeartbeats 4000000 in
set_option maxRecDepth 100000 in
theorem coords_w {W : World} {own : List Asn} {fr : Bool} {p : Int} {cols : Int} {size : Int} {vL : Value} {uL : List Value} {L : List (List Int)} {vps : Value} {ps : List Int} {vx : Value} {x : List Int}  (sL : IsS vL) (eL : Ent own fun w => Sl w vL L.length 1 uL) (mL : ∀ k, k < L.length → Ent own fun w => Ints w (uL.getD k undef) (L.getD k [])) (lL : uL.length = L.length) (aL : AllS uL)   (sps : IsS vps) (eps : Ent own fun w => Ints w vps ps)   (sx : IsS vx) (ex : Ent own fun w => Ints w vx x) {n m : Nat} (hp : 2 ≤ p ∧ p ≤ 10007) (hcols : cols = (m : Int)) (hsz : size = (n : Int)) (hL : ∀ i, i < ps.length → (L.getD i []).length = m + n) (hLr : ∀ i j, 0 ≤ at2 L i j ∧ at2 L i j < p) (hps : ps.length ≤ L.length ∧ ps.length ≤ 28) (hpr : ∀ i, i < ps.length → 0 ≤ ps.getD i 0 ∧ ps.getD i 0 < (m : Int)) (hvl : x.length = m) (hvr : ∀ j, 0 ≤ x.getD j 0 ∧ x.getD j 0 < p) (hnm : n ≤ 28 ∧ m ≤ 1600) : Spec Try.prog 26 [.agg #[.bool (fr), .int .i64 (p), .int .i64 (cols), .int .i64 (size), vL, vps], vx] W own (fun v ow => ∃ (r0 : Value), v = .tuple #[r0, .bool (zeroB (cdA p m n L ps x ps.length).1)] ∧ IsS r0 ∧ ow = ints 3 r0 ((cdA p m n L ps x ps.length).2) :: own) := by
 refine Spec.enter Try.f26 _ Try.func26 rfl (n := 63) rfl rfl ?_
 refine GC.seq (GC.region ?_)
 refine G.step (OG.box (cs := [.bool (fr), .int .i64 (p), .int .i64 (cols), .int .i64 (size), vL, vps]) rfl rfl rfl) rfl rfl rfl ?_
 rintro _ _ ⟨g1, rfl, rfl⟩
 refine G.stepD (OD.assign rfl rfl) rfl rfl rfl ?_
 refine G.stepD (OD.assign rfl rfl) rfl rfl rfl ?_
 refine G.nil (GE.then_ (GC.seq (GC.region ?_)))
 refine G.stepD (OD.move rfl rfl) rfl rfl rfl ?_
 refine G.step (OG.call [vx] ent47 rfl rfl rfl rfl (by exact (clone_s sx (Ent.drop 1 ex) (by omega)))) rfl rfl rfl ?_
 rintro v2 _ ⟨_, rfl, hs3, rfl⟩
 refine G.stepD (OD.assign rfl rfl) rfl rfl rfl ?_
 refine G.nil (GE.then_ (GC.seq (GC.region ?_)))
 refine G.stepD (OD.fieldAddr rfl rfl fa50_3) rfl rfl rfl ?_
 refine G.stepD (OD.load rfl ti3 rfl (i := 1) rfl rfl) rfl rfl rfl ?_
 refine G.step (OG.makeInts rfl et24 rfl rfl (by omega)) rfl rfl rfl ?_
 rintro v4 _ ⟨hs5, rfl⟩
 refine G.stepD (OD.assign rfl rfl) rfl rfl rfl ?_
 refine G.nil (GE.then_ (GC.seq (GC.seq (GC.region ?_))))
 refine G.stepD (OD.fieldAddr rfl rfl fa50_5) rfl rfl rfl ?_
 refine G.stepD (OD.load rfl ti24 rfl (i := 2) rfl rfl) rfl rfl rfl ?_
 refine G.stepD (OD.len rfl rfl et24 rfl (Ent.drop 3 eps)) rfl rfl rfl ?_
 refine G.stepD (OD.move rfl rfl) rfl rfl rfl ?_
 refine G.nil (GE.then_ (GC.block ?_))
 refine GC.ownEq (own' := ints 3 v4 (List.replicate n 0) :: ints 3 v2 x :: box g1 50 [.bool (fr), .int .i64 (p), .int .i64 (cols), .int .i64 (size), vL, vps] :: own) (by rw [hsz] <;> rfl) ?_
 refine GC.loop (ι := Nat × List Int × List Int) (fun ⟨k, a, b⟩ => [(2, .pointer (some ⟨g1, 0, none⟩)), (6, v2), (7, v4), (17, vps), (18, .int .i64 ((ps.length : Nat))), (19, .int .i64 ((k : Int)))]) (fun ⟨k, a, b⟩ => ints 3 v4 b :: ints 3 v2 a :: box g1 50 [.bool (fr), .int .i64 (p), .int .i64 (cols), .int .i64 (size), vL, vps] :: own) (fun ⟨k, a, b⟩ => (k ≤ ps.length) ∧ ((a, b) = cdA p m n L ps x k)) (fun ⟨k, a, b⟩ => ps.length - k) (0, x, List.replicate n 0) (⟨by omega, rfl⟩) ⟨rfl, rfl, rfl, rfl, rfl, rfl, trivial⟩ [] 0 rfl ?_
 rintro ⟨k, a, b⟩ ⟨hk, hab⟩
 have hR := CoR.all (n := n) (L := L) (ps := ps) hp.1 hvl hvr k (fun i hi => hL i (by omega))
 rw [← hab] at hR
 have hr1 : ∀ j, 0 ≤ a.getD j 0 ∧ a.getD j 0 < p := hR.r1
 have hr2 : ∀ j, 0 ≤ b.getD j 0 ∧ b.getD j 0 < p := hR.r2
 have hal : a.length = m := hR.l1
 have hbl : b.length = n := hR.l2
 have hpk := hpr k
 have hpk2 : k < ps.length → 0 ≤ ps.getD ((k : Int)).toNat 0 ∧ ps.getD ((k : Int)).toNat 0 < (m : Int) := hpr k
 have hLk := hL k
 have hLk2 : k < ps.length → (L.getD ((k : Int)).toNat []).length = m + n := hL k
 have hK : 0 ≤ a.getD (ps.getD (k) 0).toNat 0 ∧ a.getD (ps.getD (k) 0).toNat 0 < p := hR.r1 _
 refine GC.seq (GC.region ?_)
 refine G.stepD (OD.lss rfl rfl rfl) rfl rfl rfl ?_
 refine G.nil (GE.then_ (GC.seq ?_))
 refine GC.cond rfl (fun hc6 => ?_) (fun hc6 => ?_)
 replace hc6 := of_decide_eq_true hc6
 refine GC.skip (GE.then_ (GC.seq (GC.block (GC.seq (GC.region ?_)))))
 refine G.stepD (OD.move rfl rfl) rfl rfl rfl ?_
 refine G.stepD (OD.indexAddr rfl et24 rfl (Ent.drop 3 eps) rfl (by omega)) rfl rfl rfl ?_
 refine G.stepD (OD.loadInt rfl ti3 rfl (Ent.drop 3 eps) (by omega)) rfl rfl rfl ?_
 refine G.stepD (OD.assign rfl rfl) rfl rfl rfl ?_
 refine G.stepD (OD.assign rfl rfl) rfl rfl rfl ?_
 refine G.nil (GE.then_ (GC.seq (GC.region ?_)))
 refine G.stepD (OD.move rfl rfl) rfl rfl rfl ?_
 refine G.stepD (OD.move rfl rfl) rfl rfl rfl ?_
 refine G.stepD (OD.indexAddr rfl et24 rfl (Ent.ints (i := 1) rfl) rfl (by omega)) rfl rfl rfl ?_
 refine G.stepD (OD.loadInt rfl ti3 rfl (Ent.ints (i := 1) rfl) (by omega)) rfl rfl rfl ?_
 refine G.stepD (OD.assign rfl rfl) rfl rfl rfl ?_
 refine G.nil (GE.then_ (GC.seq (GC.seq (GC.region ?_))))
 refine G.stepD (OD.move rfl rfl) rfl rfl rfl ?_
 refine G.stepD (OD.eql rfl rfl rfl) rfl rfl rfl ?_
 refine G.nil (GE.then_ ?_)
 refine GC.cond rfl (fun hc7 => ?_) (fun hc7 => ?_)
 replace hc7 := eq_of_beq hc7
 refine GC.exit (GE.pass (GE.hit (GE.then_ (GC.region ?_))))
 refine G.stepD (OD.addI rfl rfl rfl (by omega)) rfl rfl rfl ?_
 refine G.stepD (OD.move rfl rfl) rfl rfl rfl ?_
 refine G.nil ?_
 exact GE.again (k + 1, a, b) (⟨by omega, cd_stay hab (show a.getD (ps.getD (k) 0).toNat 0 = 0 by assumption)⟩) (by first | omega | (dsimp only; omega)) ⟨rfl, rfl, rfl, rfl, rfl, rfl, trivial⟩ [] 0 rfl
 replace hc7 := ne_of_beq_false hc7
 refine GC.skip (GE.then_ (GC.seq ?_))
 have hy1 := part_len1 (hLk (by omega))
 have hy2 := part_len2 (hLk (by omega))
 have hpp1 : 0 < p ∧ p ≤ 10007 := by omega
 have hg1 := part_rg (hLr k) hpp1
 have hKb : 0 ≤ a.getD (ps.getD (k) 0).toNat 0 ∧ a.getD (ps.getD (k) 0).toNat 0 < p := hK
 refine GC.at [] 0 (env' := [(2, .pointer (some ⟨g1, 0, none⟩)), (6, v2), (7, v4), (17, vps), (18, .int .i64 ((ps.length : Nat))), (19, .int .i64 ((k : Int))), (8, .int .i64 ((k : Int))), (10, .int .i64 (a.getD ((ps.getD (k) 0 : Int).toNat) 0))]) ⟨rfl, rfl, rfl, rfl, rfl, rfl, rfl, rfl, trivial⟩ rfl ?_
 refine GC.par (its := [⟨30, [], [], [], [], fun _ => v2, fun _ => True, fun _ => []⟩,
     ⟨31, [], [], [], [], fun _ => .pointer (some ⟨g1, 1, none⟩), fun _ => True, fun _ => []⟩,
     ⟨32, [(1, 31)], [], [], [], fun _ => .int .i64 (p), fun _ => True, fun _ => []⟩,
     ⟨33, [], [], [], [], fun _ => .int .i64 (a.getD ((ps.getD (k) 0 : Int).toNat) 0), fun _ => True, fun _ => []⟩,
     ⟨34, [(2, 32), (3, 33)], [], [], [], fun _ => .int .i64 (p - (a.getD ((ps.getD (k) 0 : Int).toNat) 0)), fun _ => True, fun _ => []⟩,
     ⟨35, [], [], [], [], fun _ => .pointer (some ⟨g1, 4, none⟩), fun _ => True, fun _ => []⟩,
     ⟨36, [(5, 35)], [], [], [], fun _ => vL, fun _ => True, fun _ => []⟩,
     ⟨37, [], [], [], [], fun _ => .int .i64 ((k : Int)), fun _ => True, fun _ => []⟩,
     ⟨38, [(6, 36), (7, 37)], [], [], [], fun _ => elemPtr vL 1 (k), fun _ => True, fun _ => []⟩,
     ⟨39, [(8, 38)], [], [], [], fun _ => (uL.getD (k) undef), fun _ => True, fun _ => []⟩,
     ⟨40, [], [], [], [], fun _ => .pointer (some ⟨g1, 2, none⟩), fun _ => True, fun _ => []⟩,
     ⟨41, [(10, 40)], [], [], [], fun _ => .int .i64 ((m : Int)), fun _ => True, fun _ => []⟩,
     ⟨42, [(9, 39), (11, 41)], [], [], [], fun _ => (subV 1 (uL.getD (k) undef) 0 m), fun _ => True, fun _ => []⟩,
     ⟨43, [], [], [], [], fun _ => .pointer (some ⟨g1, 1, none⟩), fun _ => True, fun _ => []⟩,
     ⟨44, [(13, 43)], [], [], [], fun _ => .int .i64 (p), fun _ => True, fun _ => []⟩]) (by kernel_rfl) (by kernel_rfl) (POps.cons ?_ (POps.cons ?_ (POps.cons ?_ (POps.cons ?_ (POps.cons ?_ (POps.cons ?_ (POps.cons ?_ (POps.cons ?_ (POps.cons ?_ (POps.cons ?_ (POps.cons ?_ (POps.cons ?_ (POps.cons ?_ (POps.cons ?_ (POps.cons ?_ POps.nil))))))))))))))) ?_
 intro θ R hd
 exact Opp.plain (OG.imp (OD.move rfl rfl) (by rintro _ _ ⟨rfl, rfl⟩; exact ⟨[], rfl, trivial, rfl⟩)) rfl
 intro θ R hd
 exact Opp.plain (OG.imp (OD.fieldAddr rfl rfl fa50_1) (by rintro _ _ ⟨rfl, rfl⟩; exact ⟨[], rfl, trivial, rfl⟩)) rfl
 intro θ R hd
 obtain ⟨h1d, _⟩ := hd
 exact Opp.plain (OG.imp (OD.load rfl ti3 rfl (i := 2) rfl rfl) (by rintro _ _ ⟨rfl, rfl⟩; exact ⟨[], rfl, trivial, rfl⟩)) rfl
 intro θ R hd
 exact Opp.plain (OG.imp (OD.move rfl rfl) (by rintro _ _ ⟨rfl, rfl⟩; exact ⟨[], rfl, trivial, rfl⟩)) rfl
 intro θ R hd
 obtain ⟨h2d, h3d, _⟩ := hd
 exact Opp.plain (OG.imp (OD.subI rfl rfl rfl (by omega)) (by rintro _ _ ⟨rfl, rfl⟩; exact ⟨[], rfl, trivial, rfl⟩)) rfl
 intro θ R hd
 exact Opp.plain (OG.imp (OD.fieldAddr rfl rfl fa50_4) (by rintro _ _ ⟨rfl, rfl⟩; exact ⟨[], rfl, trivial, rfl⟩)) rfl
 intro θ R hd
 obtain ⟨h5d, _⟩ := hd
 exact Opp.plain (OG.imp (OD.load rfl ti39 rfl (i := 2) rfl rfl) (by rintro _ _ ⟨rfl, rfl⟩; exact ⟨[], rfl, trivial, rfl⟩)) rfl
 intro θ R hd
 exact Opp.plain (OG.imp (OD.move rfl rfl) (by rintro _ _ ⟨rfl, rfl⟩; exact ⟨[], rfl, trivial, rfl⟩)) rfl
 intro θ R hd
 obtain ⟨h6d, h7d, _⟩ := hd
 exact Opp.plain (OG.imp (OD.indexAddr rfl et39 rfl (Ent.drop 3 eL.app) rfl (by omega)) (by rintro _ _ ⟨rfl, rfl⟩; exact ⟨[], rfl, trivial, rfl⟩)) rfl
 intro θ R hd
 obtain ⟨h8d, _⟩ := hd
 exact Opp.plain (OG.imp (OD.loadElem rfl ti24 rfl (Ent.drop 3 eL.app) (by omega) rfl) (by rintro _ _ ⟨rfl, rfl⟩; exact ⟨[], rfl, trivial, rfl⟩)) rfl
 intro θ R hd
 exact Opp.plain (OG.imp (OD.fieldAddr rfl rfl fa50_2) (by rintro _ _ ⟨rfl, rfl⟩; exact ⟨[], rfl, trivial, rfl⟩)) rfl
 intro θ R hd
 obtain ⟨h10d, _⟩ := hd
 exact Opp.plain (OG.imp (OD.eqv (OD.load rfl ti3 rfl (i := 2) rfl rfl) (congrArg (Value.int .i64) ((hcols) : (cols : Int) = ((m : Int))))) (by rintro _ _ ⟨rfl, rfl⟩; exact ⟨[], rfl, trivial, rfl⟩)) rfl
 intro θ R hd
 obtain ⟨h9d, h11d, _⟩ := hd
 exact Opp.plain (OG.imp (OD.sliceTo rfl et24 rfl rfl (Ent.drop 3 ((mL (k) (by omega)).app)) (by omega)) (by rintro _ _ ⟨rfl, rfl⟩; exact ⟨[], rfl, trivial, rfl⟩)) rfl
 intro θ R hd
 exact Opp.plain (OG.imp (OD.fieldAddr rfl rfl fa50_1) (by rintro _ _ ⟨rfl, rfl⟩; exact ⟨[], rfl, trivial, rfl⟩)) rfl
 intro θ R hd
 obtain ⟨h13d, _⟩ := hd
 exact Opp.plain (OG.imp (OD.load rfl ti3 rfl (i := 2) rfl rfl) (by rintro _ _ ⟨rfl, rfl⟩; exact ⟨[], rfl, trivial, rfl⟩)) rfl
 intro θ hall
 obtain ⟨_, _, _, _, _, _, _, _, _, _, _, _, _, _, _, _⟩ := hall
 refine G.at [] 0 (env' := [(2, .pointer (some ⟨g1, 0, none⟩)), (6, v2), (7, v4), (17, vps), (18, .int .i64 ((ps.length : Nat))), (19, .int .i64 ((k : Int))), (8, .int .i64 ((k : Int))), (10, .int .i64 (a.getD ((ps.getD (k) 0 : Int).toNat) 0)), (30, v2), (34, .int .i64 (p - (a.getD ((ps.getD (k) 0 : Int).toNat) 0))), (42, (subV 1 (uL.getD (k) undef) 0 m)), (44, .int .i64 (p))]) ⟨rfl, rfl, rfl, rfl, rfl, rfl, rfl, rfl, rfl, rfl, rfl, rfl, trivial⟩ (own' := ints 3 v4 b :: ints 3 v2 a :: box g1 50 [.bool (fr), .int .i64 (p), .int .i64 (cols), .int .i64 (size), vL, vps] :: own) rfl ?_
 show G _ _ _ [_] _ _ _ _
 refine G.at [1] 0 (env' := [(2, .pointer (some ⟨g1, 0, none⟩)), (6, v2), (7, v4), (17, vps), (18, .int .i64 ((ps.length : Nat))), (19, .int .i64 ((k : Int))), (8, .int .i64 ((k : Int))), (10, .int .i64 (a.getD ((ps.getD (k) 0 : Int).toNat) 0)), (30, v2), (34, .int .i64 (p - (a.getD ((ps.getD (k) 0 : Int).toNat) 0))), (42, (subV 1 (uL.getD (k) undef) 0 m)), (44, .int .i64 (p))]) ⟨rfl, rfl, rfl, rfl, rfl, rfl, rfl, rfl, rfl, rfl, rfl, rfl, trivial⟩ (own' := ints 3 v2 a :: ints 3 v4 b :: box g1 50 [.bool (fr), .int .i64 (p), .int .i64 (cols), .int .i64 (size), vL, vps] :: own) rfl ?_
 refine G.step (OG.call [v2, .int .i64 (p - (a.getD ((ps.getD (k) 0 : Int).toNat) 0)), (subV 1 (uL.getD (k) undef) 0 m), .int .i64 (p)] ent53 rfl rfl rfl rfl (by exact (addTo_w hs3 (subV_isS (aL.get (by omega))) (Ent.subInts (Ent.drop 2 (mL (k) (by omega))) (by omega)) (by omega) (hy1.trans hal.symm) (by omega) (by omega) (fun j => by have := hr1 j; omega) (hg1 _ _)))) rfl rfl rfl ?_
 rintro _ _ ⟨rfl, rfl⟩
 refine G.nil (GE.then_ ?_)
 have hy1 := part_len1 (hLk (by omega))
 have hy2 := part_len2 (hLk (by omega))
 have hpp1 : 0 < p ∧ p ≤ 10007 := by omega
 have hg1 := part_rg (hLr k) hpp1
 have hKb : 0 ≤ a.getD (ps.getD (k) 0).toNat 0 ∧ a.getD (ps.getD (k) 0).toNat 0 < p := hK
 refine GC.at [] 0 (env' := [(2, .pointer (some ⟨g1, 0, none⟩)), (6, v2), (7, v4), (17, vps), (18, .int .i64 ((ps.length : Nat))), (19, .int .i64 ((k : Int))), (8, .int .i64 ((k : Int))), (10, .int .i64 (a.getD ((ps.getD (k) 0 : Int).toNat) 0))]) ⟨rfl, rfl, rfl, rfl, rfl, rfl, rfl, rfl, trivial⟩ rfl ?_
 refine GC.par (its := [⟨46, [], [], [], [], fun _ => v4, fun _ => True, fun _ => []⟩,
     ⟨47, [], [], [], [], fun _ => .int .i64 (a.getD ((ps.getD (k) 0 : Int).toNat) 0), fun _ => True, fun _ => []⟩,
     ⟨48, [], [], [], [], fun _ => .pointer (some ⟨g1, 4, none⟩), fun _ => True, fun _ => []⟩,
     ⟨49, [(2, 48)], [], [], [], fun _ => vL, fun _ => True, fun _ => []⟩,
     ⟨50, [], [], [], [], fun _ => .int .i64 ((k : Int)), fun _ => True, fun _ => []⟩,
     ⟨51, [(3, 49), (4, 50)], [], [], [], fun _ => elemPtr vL 1 (k), fun _ => True, fun _ => []⟩,
     ⟨52, [(5, 51)], [], [], [], fun _ => (uL.getD (k) undef), fun _ => True, fun _ => []⟩,
     ⟨53, [], [], [], [], fun _ => .pointer (some ⟨g1, 2, none⟩), fun _ => True, fun _ => []⟩,
     ⟨54, [(7, 53)], [], [], [], fun _ => .int .i64 ((m : Int)), fun _ => True, fun _ => []⟩,
     ⟨55, [(6, 52), (8, 54)], [], [], [], fun _ => (subV 1 (uL.getD (k) undef) m ((L.getD (k) []).length)), fun _ => True, fun _ => []⟩,
     ⟨56, [], [], [], [], fun _ => .pointer (some ⟨g1, 1, none⟩), fun _ => True, fun _ => []⟩,
     ⟨57, [(10, 56)], [], [], [], fun _ => .int .i64 (p), fun _ => True, fun _ => []⟩]) (by kernel_rfl) (by kernel_rfl) (POps.cons ?_ (POps.cons ?_ (POps.cons ?_ (POps.cons ?_ (POps.cons ?_ (POps.cons ?_ (POps.cons ?_ (POps.cons ?_ (POps.cons ?_ (POps.cons ?_ (POps.cons ?_ (POps.cons ?_ POps.nil)))))))))))) ?_
 intro θ R hd
 exact Opp.plain (OG.imp (OD.move rfl rfl) (by rintro _ _ ⟨rfl, rfl⟩; exact ⟨[], rfl, trivial, rfl⟩)) rfl
 intro θ R hd
 exact Opp.plain (OG.imp (OD.move rfl rfl) (by rintro _ _ ⟨rfl, rfl⟩; exact ⟨[], rfl, trivial, rfl⟩)) rfl
 intro θ R hd
 exact Opp.plain (OG.imp (OD.fieldAddr rfl rfl fa50_4) (by rintro _ _ ⟨rfl, rfl⟩; exact ⟨[], rfl, trivial, rfl⟩)) rfl
 intro θ R hd
 obtain ⟨h2d, _⟩ := hd
 exact Opp.plain (OG.imp (OD.load rfl ti39 rfl (i := 2) rfl rfl) (by rintro _ _ ⟨rfl, rfl⟩; exact ⟨[], rfl, trivial, rfl⟩)) rfl
 intro θ R hd
 exact Opp.plain (OG.imp (OD.move rfl rfl) (by rintro _ _ ⟨rfl, rfl⟩; exact ⟨[], rfl, trivial, rfl⟩)) rfl
 intro θ R hd
 obtain ⟨h3d, h4d, _⟩ := hd
 exact Opp.plain (OG.imp (OD.indexAddr rfl et39 rfl (Ent.drop 3 eL.app) rfl (by omega)) (by rintro _ _ ⟨rfl, rfl⟩; exact ⟨[], rfl, trivial, rfl⟩)) rfl
 intro θ R hd
 obtain ⟨h5d, _⟩ := hd
 exact Opp.plain (OG.imp (OD.loadElem rfl ti24 rfl (Ent.drop 3 eL.app) (by omega) rfl) (by rintro _ _ ⟨rfl, rfl⟩; exact ⟨[], rfl, trivial, rfl⟩)) rfl
 intro θ R hd
 exact Opp.plain (OG.imp (OD.fieldAddr rfl rfl fa50_2) (by rintro _ _ ⟨rfl, rfl⟩; exact ⟨[], rfl, trivial, rfl⟩)) rfl
 intro θ R hd
 obtain ⟨h7d, _⟩ := hd
 exact Opp.plain (OG.imp (OD.eqv (OD.load rfl ti3 rfl (i := 2) rfl rfl) (congrArg (Value.int .i64) ((hcols) : (cols : Int) = ((m : Int))))) (by rintro _ _ ⟨rfl, rfl⟩; exact ⟨[], rfl, trivial, rfl⟩)) rfl
 intro θ R hd
 obtain ⟨h6d, h8d, _⟩ := hd
 exact Opp.plain (OG.imp (OD.sliceFrom rfl et24 rfl rfl (Ent.drop 3 ((mL (k) (by omega)).app)) (by omega)) (by rintro _ _ ⟨rfl, rfl⟩; exact ⟨[], rfl, trivial, rfl⟩)) rfl
 intro θ R hd
 exact Opp.plain (OG.imp (OD.fieldAddr rfl rfl fa50_1) (by rintro _ _ ⟨rfl, rfl⟩; exact ⟨[], rfl, trivial, rfl⟩)) rfl
 intro θ R hd
 obtain ⟨h10d, _⟩ := hd
 exact Opp.plain (OG.imp (OD.load rfl ti3 rfl (i := 2) rfl rfl) (by rintro _ _ ⟨rfl, rfl⟩; exact ⟨[], rfl, trivial, rfl⟩)) rfl
 intro θ hall
 obtain ⟨_, _, _, _, _, _, _, _, _, _, _, _, _⟩ := hall
 refine G.at [] 0 (env' := [(2, .pointer (some ⟨g1, 0, none⟩)), (6, v2), (7, v4), (17, vps), (18, .int .i64 ((ps.length : Nat))), (19, .int .i64 ((k : Int))), (46, v4), (47, .int .i64 (a.getD ((ps.getD (k) 0 : Int).toNat) 0)), (55, (subV 1 (uL.getD (k) undef) m ((L.getD (k) []).length))), (57, .int .i64 (p))]) ⟨rfl, rfl, rfl, rfl, rfl, rfl, rfl, rfl, rfl, rfl, trivial⟩ (own' := ints 3 v2 (adR p (p - (a.getD ((ps.getD (k) 0 : Int).toNat) 0)) a (((L.getD (k) []).drop (0)).take (m - 0))) :: ints 3 v4 b :: box g1 50 [.bool (fr), .int .i64 (p), .int .i64 (cols), .int .i64 (size), vL, vps] :: own) rfl ?_
 show G _ _ _ [_] _ _ _ _
 refine G.at [1] 0 (env' := [(2, .pointer (some ⟨g1, 0, none⟩)), (6, v2), (7, v4), (17, vps), (18, .int .i64 ((ps.length : Nat))), (19, .int .i64 ((k : Int))), (46, v4), (47, .int .i64 (a.getD ((ps.getD (k) 0 : Int).toNat) 0)), (55, (subV 1 (uL.getD (k) undef) m ((L.getD (k) []).length))), (57, .int .i64 (p))]) ⟨rfl, rfl, rfl, rfl, rfl, rfl, rfl, rfl, rfl, rfl, trivial⟩ (own' := ints 3 v4 b :: ints 3 v2 (adR p (p - (a.getD ((ps.getD (k) 0 : Int).toNat) 0)) a (((L.getD (k) []).drop (0)).take (m - 0))) :: box g1 50 [.bool (fr), .int .i64 (p), .int .i64 (cols), .int .i64 (size), vL, vps] :: own) rfl ?_
 refine G.step (OG.call [v4, .int .i64 (a.getD ((ps.getD (k) 0 : Int).toNat) 0), (subV 1 (uL.getD (k) undef) m ((L.getD (k) []).length)), .int .i64 (p)] ent53 rfl rfl rfl rfl (by exact (addTo_w hs5 (subV_isS (aL.get (by omega))) (Ent.subInts (Ent.drop 2 (mL (k) (by omega))) (by omega)) (by omega) (hy2.trans hbl.symm) (by omega) (by omega) (fun j => by have := hr2 j; omega) (hg1 _ _)))) rfl rfl rfl ?_
 rintro _ _ ⟨rfl, rfl⟩
 refine G.nil (GE.blockN (GE.then_ (GC.region ?_)))
 refine G.stepD (OD.addI rfl rfl rfl (by omega)) rfl rfl rfl ?_
 refine G.stepD (OD.move rfl rfl) rfl rfl rfl ?_
 refine G.nil ?_
 exact GE.again (k + 1, adR p (p - (a.getD ((ps.getD (k) 0 : Int).toNat) 0)) a (((L.getD (k) []).drop (0)).take (m - 0)), adR p (a.getD ((ps.getD (k) 0 : Int).toNat) 0) b (((L.getD (k) []).drop (m)).take ((L.getD (k) []).length - m))) (⟨by omega, cd_go hab (show a.getD (ps.getD (k) 0).toNat 0 ≠ 0 by assumption)⟩) (by first | omega | (dsimp only; omega)) ⟨rfl, rfl, rfl, rfl, rfl, rfl, trivial⟩ [] 0 rfl
 replace hc6 := of_decide_eq_false hc6
 refine GC.exit (GE.pass (GE.pass (GE.hit (GE.then_ (GC.seq (GC.region ?_))))))
 refine G.stepD (OD.move rfl rfl) rfl rfl rfl ?_
 refine G.stepD (OD.move rfl rfl) rfl rfl rfl ?_
 refine G.step (OG.call [v2] ent54 rfl rfl rfl rfl (by exact (isZero_s hs3 (Ent.ints (i := 1) rfl)))) rfl rfl rfl ?_
 rintro _ _ ⟨rfl, rfl⟩
 refine G.stepD (OD.assign rfl rfl) rfl rfl rfl ?_
 refine G.stepD (OD.assign rfl rfl) rfl rfl rfl ?_
 refine G.nil (GE.then_ (GC.ret ?_))
 exact GE.body [0] 2 (res2 rfl rfl rfl) rfl (⟨v4, congrArg (fun (a1 : Bool) => (.tuple #[v4, .bool (a1)] : Value)) ((by have := congrArg Prod.fst hab; rw [show ps.length = k by omega]; exact congrArg zeroB this : (zeroB a : Bool) = zeroB (cdA p m n L ps x ps.length).1)), hs5, congrArg (fun (l0 : List Int) => ints 3 v4 l0 :: own) ((by have := congrArg Prod.snd hab; rw [show ps.length = k by omega]; exact this : b = (cdA p m n L ps x ps.length).2))⟩)
end Go.Proofs.Ytbmnnbglipkidaa
