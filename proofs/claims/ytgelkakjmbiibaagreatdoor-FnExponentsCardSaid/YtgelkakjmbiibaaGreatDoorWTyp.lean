/-
  A type that is drawn: contracts by walks.
-/
import Derived.Test.YtgelkakjmbiibaaGreatDoorFct
import Derived.Test.YtgelkakjmbiibaaGreatDoorWDrw
namespace Go.Proofs.YtgelkakjmbiibaaGreatDoor
set_option linter.unusedVariables false
set_option linter.unusedSimpArgs false
open Go.RowKit
theorem ent68 : ∀ us w, (callFunc 68 us).run Tryz.prog w = .ok (.enter 68 us) w := fun us w => by kernel_rfl
theorem ent69 : ∀ us w, (callFunc 69 us).run Tryz.prog w = .ok (.enter 69 us) w := fun us w => by kernel_rfl
theorem ent94 : ∀ us w, (callFunc 94 us).run Tryz.prog w = .ok (.enter 94 us) w := fun us w => by kernel_rfl
theorem ent95 : ∀ us w, (callFunc 95 us).run Tryz.prog w = .ok (.enter 95 us) w := fun us w => by kernel_rfl
set_option maxHeartbeats 4000000 in
set_option maxRecDepth 100000 in
theorem l12Ordered_w {W : World} {own : List Asn} {gc : Nat} {vb : Value} {bs : List Int} {ci ch : Int} {cr : Int} {vcd : Value} {cd : List Int}  (sb : IsS vb) (eb : Ent own fun w => Byts w vb bs)   (scd : IsS vcd) (ecd : Ent own fun w => Ints w vcd cd)  (hci : 0 ≤ ci) (hbl : bs.length ≤ 1048576) (hcr : 1 ≤ cr ∧ cr ≤ 4) (hcd : (cd.length : Int) = cr * cr) : Spec Tryz.prog 95 [.pointer (some ⟨gc, 0, none⟩), .agg #[.int .i64 (cr), vcd]] W (box gc 113 [vb, .int .i64 (ci), .int .i64 (ch)] :: own) (fun v ow => ∃ (v0 : Value) (o0 : List Int) (i0 : Int) (h0 : Int), v = .agg #[.int .i64 (cr), v0] ∧ IsS v0 ∧ (o0 ∈ ordP (cr : Int).toNat) ∧ (0 ≤ i0) ∧ ow = ints 3 v0 (subD cr cd o0) :: box gc 113 [vb, .int .i64 (i0), .int .i64 (h0)] :: own) := by
 refine Spec.enter Tryz.f95 _ Tryz.func95 rfl (n := 65) rfl rfl ?_
 refine GC.seq (GC.region ?_)
 refine G.step (OG.box (cs := [.int .i64 (cr), vcd]) rfl rfl rfl) rfl rfl rfl ?_
 rintro _ _ ⟨g1, rfl, rfl⟩
 refine G.step (OG.alloc rfl ti27 (zs := [.int .i64 (0), .slice none 0 0]) rfl) rfl rfl rfl ?_
 rintro _ _ ⟨g2, rfl, rfl⟩
 refine G.nil (GE.then_ (GC.seq (GC.region ?_)))
 refine G.step (OG.buildInts (xs := []) (is := []) rfl et22 rfl rfl rfl rfl rfl) rfl rfl rfl ?_
 rintro v3 _ ⟨hs4, rfl⟩
 refine G.stepD (OD.assign rfl rfl) rfl rfl rfl ?_
 refine G.nil (GE.then_ (GC.seq (GC.seq (GC.region ?_))))
 refine G.stepD (OD.assign rfl rfl) rfl rfl rfl ?_
 refine G.nil (GE.then_ (GC.block ?_))
 refine GC.loop (ι := Nat × List Int × Value × Int × Int) (fun ⟨a, os, v, q, r⟩ => [(0, .pointer (some ⟨gc, 0, none⟩)), (3, .pointer (some ⟨g1, 0, none⟩)), (4, .pointer (some ⟨g2, 0, none⟩)), (5, v), (6, .int .i64 ((a : Int)))]) (fun ⟨a, os, v, q, r⟩ => ints 3 v os :: box g2 27 [.int .i64 (0), .slice none 0 0] :: box g1 27 [.int .i64 (cr), vcd] :: box gc 113 [vb, .int .i64 (q), .int .i64 (r)] :: own) (fun ⟨a, os, v, q, r⟩ => ((a : Int) ≤ cr) ∧ (os ∈ ordP a) ∧ (IsS v) ∧ (0 ≤ q)) (fun ⟨a, os, v, q, r⟩ => cr.toNat - a) (0, [], v3, ci, ch) (⟨by omega, by simp [ordP], hs4, by omega⟩) ⟨rfl, rfl, rfl, rfl, rfl, trivial⟩ [] 0 rfl ?_
 rintro ⟨a, os, v, q, r⟩ ⟨ha, hos, hv, hq⟩
 obtain ⟨hol, hor⟩ := ordP_len hos
 refine GC.seq (GC.seq (GC.region ?_))
 refine G.stepD (OD.move rfl rfl) rfl rfl rfl ?_
 refine G.stepD (OD.fieldAddr rfl rfl fa27_0) rfl rfl rfl ?_
 refine G.stepD (OD.load rfl ti3 rfl (i := 2) rfl rfl) rfl rfl rfl ?_
 refine G.stepD (OD.lss rfl rfl rfl) rfl rfl rfl ?_
 refine G.nil (GE.then_ ?_)
 refine GC.cond rfl (fun hc5 => ?_) (fun hc5 => ?_)
 replace hc5 := of_decide_eq_true hc5
 refine GC.skip (GE.then_ (GC.seq (GC.block (GC.seq (GC.region ?_)))))
 refine G.stepD (OD.move rfl rfl) rfl rfl rfl ?_
 refine G.stepD (OD.move rfl rfl) rfl rfl rfl ?_
 refine G.stepD (OD.addI rfl rfl rfl (by omega)) rfl rfl rfl ?_
 refine G.at [3] 0 (env' := [(0, .pointer (some ⟨gc, 0, none⟩)), (3, .pointer (some ⟨g1, 0, none⟩)), (4, .pointer (some ⟨g2, 0, none⟩)), (5, v), (6, .int .i64 ((a : Int))), (12, .int .i64 ((a : Int))), (13, .pointer (some ⟨g1, 0, none⟩)), (14, .int .i64 (cr)), (15, .bool (decide ((a : Int) < cr))), (18, .pointer (some ⟨gc, 0, none⟩)), (19, .int .i64 ((a : Int))), (20, .int .i64 ((a : Int) + 1))]) ⟨rfl, rfl, rfl, rfl, rfl, rfl, rfl, rfl, rfl, rfl, rfl, rfl, trivial⟩ (own' := box gc 113 [vb, .int .i64 (q), .int .i64 (r)] :: ints 3 v os :: box g2 27 [.int .i64 (0), .slice none 0 0] :: box g1 27 [.int .i64 (cr), vcd] :: own) rfl ?_
 refine G.step (OG.call [.pointer (some ⟨gc, 0, none⟩), .int .i64 ((a : Int) + 1)] ent71 rfl rfl rfl rfl (by exact (l1Below_w sb (Ent.drop 3 eb) (by omega) (by omega) (by omega)))) rfl rfl rfl ?_
 rintro _ _ ⟨u6, u7, u8, rfl, hs9, hs10, rfl⟩
 skip
 refine G.stepD (OD.assign rfl rfl) rfl rfl rfl ?_
 refine G.nil (GE.then_ ?_)
 refine GC.at [] 0 (env' := [(0, .pointer (some ⟨gc, 0, none⟩)), (3, .pointer (some ⟨g1, 0, none⟩)), (4, .pointer (some ⟨g2, 0, none⟩)), (5, v), (6, .int .i64 ((a : Int))), (7, .int .i64 (u6))]) ⟨rfl, rfl, rfl, rfl, rfl, rfl, trivial⟩ rfl ?_
 refine GC.par (its := [⟨22, [], [], [], [], fun _ => v, fun _ => True, fun _ => []⟩,
     ⟨23, [], [], [], [], fun _ => .int .i64 (u6), fun _ => True, fun _ => []⟩,
     ⟨24, [(0, 22), (1, 23)], [], [], [], fun _ => (subV 1 v 0 ((u6 : Int).toNat)), fun _ => True, fun _ => []⟩,
     ⟨25, [(2, 24)], [], [], [3], fun ds => ((ds.getD 0 []).getD 0 undef), fun ds => IsS ((ds.getD 0 []).getD 0 undef), fun ds => [ints 3 ((ds.getD 0 []).getD 0 undef) ((os.drop (0)).take ((u6 : Int).toNat - 0))]⟩,
     ⟨26, [], [], [], [], fun _ => .int .i64 ((a : Int)), fun _ => True, fun _ => []⟩,
     ⟨27, [(4, 26)], [], [], [5], fun ds => ((ds.getD 0 []).getD 0 undef), fun ds => IsS ((ds.getD 0 []).getD 0 undef), fun ds => [ints 3 ((ds.getD 0 []).getD 0 undef) [(a : Int)]]⟩,
     ⟨28, [(3, 25), (5, 27)], [3, 5], [3], [3, 5, 6], fun ds => ((ds.getD 2 []).getD 0 undef), fun ds => IsS ((ds.getD 2 []).getD 0 undef), fun ds => [ints 3 ((ds.getD 2 []).getD 0 undef) (((os.drop (0)).take ((u6 : Int).toNat - 0)) ++ [(a : Int)])]⟩,
     ⟨29, [], [], [], [], fun _ => v, fun _ => True, fun _ => []⟩,
     ⟨30, [], [], [], [], fun _ => .int .i64 (u6), fun _ => True, fun _ => []⟩,
     ⟨31, [(7, 29), (8, 30)], [], [], [], fun _ => (subV 1 v ((u6 : Int).toNat) os.length), fun _ => True, fun _ => []⟩,
     ⟨32, [(6, 28), (9, 31)], [6, 5], [6], [3, 5, 6, 10], fun ds => ((ds.getD 3 []).getD 0 undef), fun ds => IsS ((ds.getD 3 []).getD 0 undef), fun ds => [ints 3 ((ds.getD 3 []).getD 0 undef) ((((os.drop (0)).take ((u6 : Int).toNat - 0)) ++ [(a : Int)]) ++ ((os.drop ((u6 : Int).toNat)).take (os.length - (u6 : Int).toNat)))]⟩]) (by kernel_rfl) (by kernel_rfl) (POps.cons ?_ (POps.cons ?_ (POps.cons ?_ (POps.cons ?_ (POps.cons ?_ (POps.cons ?_ (POps.cons ?_ (POps.cons ?_ (POps.cons ?_ (POps.cons ?_ (POps.cons ?_ POps.nil))))))))))) ?_
 intro θ R hd
 exact Opp.plain (OG.imp (OD.move rfl rfl) (by exact fun _ _ h=>pk h rfl trivial rfl)) rfl
 intro θ R hd
 exact Opp.plain (OG.imp (OD.move rfl rfl) (by exact fun _ _ h=>pk h rfl trivial rfl)) rfl
 rintro θ R ⟨h0d, h1d, _⟩
 exact Opp.plain (OG.imp (OD.sliceTo rfl et22 rfl rfl (Ent.ints (i := 1) rfl) (by omega)) (by exact fun _ _ h=>pk h rfl trivial rfl)) rfl
 rintro θ R ⟨h2d, _⟩
 exact Opp.plain (OG.imp (OG.call [(subV 1 v 0 ((u6 : Int).toNat))] ent118 rfl rfl rfl rfl (by exact (l1Ints_w (subV_isS hv) (Ent.subInts (Ent.ints (i := 1) rfl) (by simp; omega)) (by first | omega | (simp; omega))))) (by rintro v11 _ ⟨_, rfl, hs12, rfl⟩; exact ⟨[v11], rfl, hs12, rfl⟩)) rfl
 intro θ R hd
 exact Opp.plain (OG.imp (OD.move rfl rfl) (by exact fun _ _ h=>pk h rfl trivial rfl)) rfl
 rintro θ R ⟨h4d, _⟩
 exact Opp.plain (OG.imp (OG.buildInts (xs := [.tmp 26]) (is := [(a : Int)]) rfl et22 rfl rfl rfl rfl rfl) (by rintro v13 _ ⟨hs14, rfl⟩; exact ⟨[v13], rfl, hs14, rfl⟩)) rfl
 rintro θ R ⟨h3d, h5d, _⟩
 exact Opp.plain (OG.imp (OG.appendInts 0 rfl rfl et22 rfl rfl rfl (Ent.ints (i := 1) rfl) (by first | omega | (simp; omega))) (by rintro v15 _ ⟨hs16, rfl⟩; exact ⟨[v15], rfl, hs16, rfl⟩)) rfl
 intro θ R hd
 exact Opp.plain (OG.imp (OD.move rfl rfl) (by exact fun _ _ h=>pk h rfl trivial rfl)) rfl
 intro θ R hd
 exact Opp.plain (OG.imp (OD.move rfl rfl) (by exact fun _ _ h=>pk h rfl trivial rfl)) rfl
 rintro θ R ⟨h7d, h8d, _⟩
 exact Opp.plain (OG.imp (OD.sliceFrom rfl et22 rfl rfl (Ent.ints (i := 1) rfl) (by omega)) (by exact fun _ _ h=>pk h rfl trivial rfl)) rfl
 rintro θ R ⟨h6d, h9d, _⟩
 exact Opp.plain (OG.imp (OG.appendInts 0 rfl rfl et22 rfl rfl rfl (Ent.subInts (Ent.ints (i := 3) rfl) (by simp; omega)) (by first | omega | (simp; omega))) (by rintro v17 _ ⟨hs18, rfl⟩; exact ⟨[v17], rfl, hs18, rfl⟩)) rfl
 intro θ hall
 obtain ⟨_, _, _, h3a, _, h5a, h6a, _, _, _, h10a, _⟩ := hall
 refine G.at [] 0 (env' := [(0, .pointer (some ⟨gc, 0, none⟩)), (3, .pointer (some ⟨g1, 0, none⟩)), (4, .pointer (some ⟨g2, 0, none⟩)), (5, v), (6, .int .i64 ((a : Int))), (32, ((θ 10).getD 0 undef))]) ⟨rfl, rfl, rfl, rfl, rfl, rfl, trivial⟩ (own' := ints 3 ((θ 5).getD 0 undef) [(a : Int)] :: ints 3 ((θ 10).getD 0 undef) ((((os.drop (0)).take ((u6 : Int).toNat - 0)) ++ [(a : Int)]) ++ ((os.drop ((u6 : Int).toNat)).take (os.length - (u6 : Int).toNat))) :: box gc 113 [vb, .int .i64 (u7), .int .i64 (u8)] :: ints 3 v os :: box g2 27 [.int .i64 (0), .slice none 0 0] :: box g1 27 [.int .i64 (cr), vcd] :: own) rfl ?_
 have hs19 : IsS ((θ 3).getD 0 undef) := h3a
 clear h3a
 generalize ((θ 3).getD 0 undef) = v20 at *
 have hs21 : IsS ((θ 5).getD 0 undef) := h5a
 clear h5a
 generalize ((θ 5).getD 0 undef) = v22 at *
 have hs23 : IsS ((θ 6).getD 0 undef) := h6a
 clear h6a
 generalize ((θ 6).getD 0 undef) = v24 at *
 have hs25 : IsS ((θ 10).getD 0 undef) := h10a
 clear h10a
 generalize ((θ 10).getD 0 undef) = v26 at *
 show G _ _ _ [_] _ _ _ _
 refine G.stepD (OD.assign rfl rfl) rfl rfl rfl ?_
 refine G.nil (GE.blockN (GE.then_ (GC.region ?_)))
 refine G.stepD (OD.move rfl rfl) rfl rfl rfl ?_
 refine G.stepD (OD.addI rfl rfl rfl (by omega)) rfl rfl rfl ?_
 refine G.stepD (OD.assign rfl rfl) rfl rfl rfl ?_
 refine G.nil ?_
 exact GE.again (a + 1, (((os.drop (0)).take ((u6 : Int).toNat - 0)) ++ [(a : Int)]) ++ ((os.drop ((u6 : Int).toNat)).take (os.length - (u6 : Int).toNat)), v26, u7, u8) (⟨by omega, ordP_next hos hol (k := (u6 : Int).toNat) (by omega), hs25, by omega⟩) (by first | omega | (dsimp only; omega)) ⟨rfl, rfl, rfl, rfl, rfl, trivial⟩ [1, 3, 3, 1] 2 rfl
 replace hc5 := of_decide_eq_false hc5
 refine GC.exit (GE.pass (GE.pass (GE.hit (GE.then_ (GC.seq (GC.region ?_))))))
 refine G.stepD (OD.fieldAddr rfl rfl fa27_0) rfl rfl rfl ?_
 refine G.stepD (OD.load rfl ti3 rfl (i := 2) rfl rfl) rfl rfl rfl ?_
 refine G.step (OG.buildInts (xs := []) (is := []) rfl et22 rfl rfl rfl rfl rfl) rfl rfl rfl ?_
 rintro v27 _ ⟨hs28, rfl⟩
 refine G.stepD (OD.build (idx := [0, 1]) (xs := [.tmp 34, .tmp 35]) (vs := [.int .i64 (cr), v27]) (cs := [[.int .i64 (cr)], [v27]]) (zs := [.int .i64 (0), .slice none 0 0]) (r := [.int .i64 (cr), v27]) rfl ti27 rfl rfl rfl ⟨rfl, ⟨(one_cells (IsS.one hs28)), trivial⟩⟩ rfl) rfl rfl rfl ?_
 refine G.step (OG.alloc rfl ti27 (zs := [.int .i64 (0), .slice none 0 0]) rfl) rfl rfl rfl ?_
 rintro _ _ ⟨g29, rfl, rfl⟩
 refine G.stepD0 (OD.store rfl ti27 rfl rfl (us := [.int .i64 (cr), v27]) rfl rfl (allC rfl (allC (IsS.one hs28) rfl)) (i := 0) rfl rfl) rfl rfl ?_
 refine G.nil (GE.then_ (GC.seq (GC.seq (GC.region ?_))))
 refine G.stepD (OD.assign rfl rfl) rfl rfl rfl ?_
 refine G.nil (GE.then_ (GC.block ?_))
 have hoc : (os.length : Int) = cr := by omega
 have hor2 : ∀ k, k < os.length → 0 ≤ os.getD k 0 ∧ os.getD k 0 < cr := fun k hk => by have h1 := hor (os.getD k 0) (by rw [List.getD, List.getElem?_eq_getElem hk]; exact List.getElem_mem _); omega
 refine GC.loop (ι := Nat × List Int × Value) (fun ⟨b, ys, z⟩ => [(3, .pointer (some ⟨g1, 0, none⟩)), (4, .pointer (some ⟨g2, 0, none⟩)), (5, v), (8, .pointer (some ⟨g29, 0, none⟩)), (9, .int .i64 ((b : Int)))]) (fun ⟨b, ys, z⟩ => box g29 27 [.int .i64 (cr), z] :: ints 3 z ys :: ints 3 v os :: box g2 27 [.int .i64 (0), .slice none 0 0] :: box g1 27 [.int .i64 (cr), vcd] :: box gc 113 [vb, .int .i64 (q), .int .i64 (r)] :: own) (fun ⟨b, ys, z⟩ => (b ≤ os.length) ∧ (IsS z) ∧ (ys.length = b * os.length) ∧ (ys = (List.range b).foldl (fun (o : List Int) (i : Nat) => (List.range os.length).foldl (subR cr cd os i) o) [])) (fun ⟨b, ys, z⟩ => os.length - b) (0, [], v27) (⟨by omega, hs28, by simp, rfl⟩) ⟨rfl, rfl, rfl, rfl, rfl, trivial⟩ [] 0 rfl ?_
 rintro ⟨b, ys, z⟩ ⟨hb, hz, hyl, hy⟩
 refine GC.seq (GC.seq (GC.region ?_))
 refine G.stepD (OD.move rfl rfl) rfl rfl rfl ?_
 refine G.stepD (OD.fieldAddr rfl rfl fa27_0) rfl rfl rfl ?_
 refine G.stepD (OD.load rfl ti3 rfl (i := 4) rfl rfl) rfl rfl rfl ?_
 refine G.stepD (OD.lss rfl rfl rfl) rfl rfl rfl ?_
 refine G.nil (GE.then_ ?_)
 refine GC.cond rfl (fun hc30 => ?_) (fun hc30 => ?_)
 replace hc30 := of_decide_eq_true hc30
 have hra := hor2 b (by omega)
 have hmm : b * os.length ≤ 4 * 4 := Nat.mul_le_mul (by omega) (by omega)
 refine GC.skip (GE.then_ (GC.seq (GC.block (GC.seq (GC.region ?_)))))
 refine G.stepD (OD.assign rfl rfl) rfl rfl rfl ?_
 refine G.nil (GE.then_ (GC.block ?_))
 refine GC.loop (ι := Nat × List Int × Value) (fun ⟨c, ts, u⟩ => [(3, .pointer (some ⟨g1, 0, none⟩)), (4, .pointer (some ⟨g2, 0, none⟩)), (5, v), (8, .pointer (some ⟨g29, 0, none⟩)), (9, .int .i64 ((b : Int))), (10, .int .i64 ((c : Int)))]) (fun ⟨c, ts, u⟩ => box g29 27 [.int .i64 (cr), u] :: ints 3 u ts :: ints 3 v os :: box g2 27 [.int .i64 (0), .slice none 0 0] :: box g1 27 [.int .i64 (cr), vcd] :: box gc 113 [vb, .int .i64 (q), .int .i64 (r)] :: own) (fun ⟨c, ts, u⟩ => (c ≤ os.length) ∧ (IsS u) ∧ (ts.length = b * os.length + c) ∧ (ts = (List.range c).foldl (subR cr cd os b) ys)) (fun ⟨c, ts, u⟩ => os.length - c) (0, ys, z) (⟨by omega, hz, by omega, rfl⟩) ⟨rfl, rfl, rfl, rfl, rfl, rfl, trivial⟩ [] 0 rfl ?_
 rintro ⟨c, ts, u⟩ ⟨hc, hu, htl, ht⟩
 refine GC.seq (GC.seq (GC.region ?_))
 refine G.stepD (OD.move rfl rfl) rfl rfl rfl ?_
 refine G.stepD (OD.fieldAddr rfl rfl fa27_0) rfl rfl rfl ?_
 refine G.stepD (OD.load rfl ti3 rfl (i := 4) rfl rfl) rfl rfl rfl ?_
 refine G.stepD (OD.lss rfl rfl rfl) rfl rfl rfl ?_
 refine G.nil (GE.then_ ?_)
 refine GC.cond rfl (fun hc31 => ?_) (fun hc31 => ?_)
 replace hc31 := of_decide_eq_true hc31
 have hrb := hor2 c (by omega)
 have hxx := idx_bd (n := cr) (i := os.getD b 0) (j := os.getD c 0) ⟨by omega, by omega⟩ ⟨by omega, by omega⟩ (by omega)
 refine GC.skip (GE.then_ (GC.seq (GC.block ?_)))
 refine GC.at [] 0 (env' := [(3, .pointer (some ⟨g1, 0, none⟩)), (4, .pointer (some ⟨g2, 0, none⟩)), (5, v), (8, .pointer (some ⟨g29, 0, none⟩)), (9, .int .i64 ((b : Int))), (10, .int .i64 ((c : Int)))]) ⟨rfl, rfl, rfl, rfl, rfl, rfl, trivial⟩ rfl ?_
 refine GC.par (its := [⟨49, [], [], [], [], fun _ => .pointer (some ⟨g29, 1, none⟩), fun _ => True, fun _ => []⟩,
     ⟨50, [(0, 49)], [], [], [], fun _ => u, fun _ => True, fun _ => []⟩,
     ⟨51, [], [], [], [], fun _ => .agg #[.int .i64 (cr), vcd], fun _ => True, fun _ => []⟩,
     ⟨52, [], [], [], [], fun _ => v, fun _ => True, fun _ => []⟩,
     ⟨53, [], [], [], [], fun _ => .int .i64 ((b : Int)), fun _ => True, fun _ => []⟩,
     ⟨54, [(3, 52), (4, 53)], [], [], [], fun _ => elemPtr v 1 (b), fun _ => True, fun _ => []⟩,
     ⟨55, [(5, 54)], [], [], [], fun _ => .int .i64 (os.getD (b) 0), fun _ => True, fun _ => []⟩,
     ⟨56, [], [], [], [], fun _ => v, fun _ => True, fun _ => []⟩,
     ⟨57, [], [], [], [], fun _ => .int .i64 ((c : Int)), fun _ => True, fun _ => []⟩,
     ⟨58, [(7, 56), (8, 57)], [], [], [], fun _ => elemPtr v 1 (c), fun _ => True, fun _ => []⟩,
     ⟨59, [(9, 58)], [], [], [], fun _ => .int .i64 (os.getD (c) 0), fun _ => True, fun _ => []⟩,
     ⟨60, [(2, 51), (6, 55), (10, 59)], [], [], [], fun _ => .int .i64 (atI cr cd (os.getD (b) 0) (os.getD (c) 0)), fun _ => True, fun _ => []⟩,
     ⟨61, [(11, 60)], [], [], [12], fun ds => ((ds.getD 0 []).getD 0 undef), fun ds => IsS ((ds.getD 0 []).getD 0 undef), fun ds => [ints 3 ((ds.getD 0 []).getD 0 undef) [atI cr cd (os.getD (b) 0) (os.getD (c) 0)]]⟩]) (by kernel_rfl) (by kernel_rfl) (POps.cons ?_ (POps.cons ?_ (POps.cons ?_ (POps.cons ?_ (POps.cons ?_ (POps.cons ?_ (POps.cons ?_ (POps.cons ?_ (POps.cons ?_ (POps.cons ?_ (POps.cons ?_ (POps.cons ?_ (POps.cons ?_ POps.nil))))))))))))) ?_
 intro θ R hd
 exact Opp.plain (OG.imp (OD.fieldAddr rfl rfl fa27_1) (by exact fun _ _ h=>pk h rfl trivial rfl)) rfl
 rintro θ R ⟨h0d, _⟩
 exact Opp.plain (OG.imp (OD.load rfl ti22 rfl (i := 0) rfl rfl) (by exact fun _ _ h=>pk h rfl trivial rfl)) rfl
 intro θ R hd
 exact Opp.plain (OG.imp (OD.loadAgg rfl ti27 rfl (i := 4) rfl (us := [.int .i64 (cr), vcd]) rfl rfl) (by exact fun _ _ h=>pk h rfl trivial rfl)) rfl
 intro θ R hd
 exact Opp.plain (OG.imp (OD.move rfl rfl) (by exact fun _ _ h=>pk h rfl trivial rfl)) rfl
 intro θ R hd
 exact Opp.plain (OG.imp (OD.move rfl rfl) (by exact fun _ _ h=>pk h rfl trivial rfl)) rfl
 rintro θ R ⟨h3d, h4d, _⟩
 exact Opp.plain (OG.imp (OD.indexAddr rfl et22 rfl (Ent.ints (i := 2) rfl) rfl (by omega)) (by exact fun _ _ h=>pk h rfl trivial rfl)) rfl
 rintro θ R ⟨h5d, _⟩
 exact Opp.plain (OG.imp (OD.loadInt rfl ti3 rfl (Ent.ints (i := 2) rfl) (by omega)) (by exact fun _ _ h=>pk h rfl trivial rfl)) rfl
 intro θ R hd
 exact Opp.plain (OG.imp (OD.move rfl rfl) (by exact fun _ _ h=>pk h rfl trivial rfl)) rfl
 intro θ R hd
 exact Opp.plain (OG.imp (OD.move rfl rfl) (by exact fun _ _ h=>pk h rfl trivial rfl)) rfl
 rintro θ R ⟨h7d, h8d, _⟩
 exact Opp.plain (OG.imp (OD.indexAddr rfl et22 rfl (Ent.ints (i := 2) rfl) rfl (by omega)) (by exact fun _ _ h=>pk h rfl trivial rfl)) rfl
 rintro θ R ⟨h9d, _⟩
 exact Opp.plain (OG.imp (OD.loadInt rfl ti3 rfl (Ent.ints (i := 2) rfl) (by omega)) (by exact fun _ _ h=>pk h rfl trivial rfl)) rfl
 rintro θ R ⟨h2d, h6d, h10d, _⟩
 exact Opp.plain (OG.imp (OG.call [.agg #[.int .i64 (cr), vcd], .int .i64 (os.getD (b) 0), .int .i64 (os.getD (c) 0)] ent143 rfl rfl rfl rfl (by exact (l5At_w scd (Ent.drop 6 ecd.app) (by omega)))) (by exact fun _ _ h=>pk h rfl trivial rfl)) rfl
 rintro θ R ⟨h11d, _⟩
 exact Opp.plain (OG.imp (OG.buildInts (xs := [.tmp 60]) (is := [atI cr cd (os.getD (b) 0) (os.getD (c) 0)]) rfl et22 rfl rfl rfl rfl rfl) (by rintro v34 _ ⟨hs35, rfl⟩; exact ⟨[v34], rfl, hs35, rfl⟩)) rfl
 intro θ hall
 obtain ⟨_, _, _, _, _, _, _, _, _, _, _, _, h12a, _⟩ := hall
 refine G.at [] 0 (env' := [(3, .pointer (some ⟨g1, 0, none⟩)), (4, .pointer (some ⟨g2, 0, none⟩)), (5, v), (8, .pointer (some ⟨g29, 0, none⟩)), (9, .int .i64 ((b : Int))), (10, .int .i64 ((c : Int))), (50, u), (61, ((θ 12).getD 0 undef))]) ⟨rfl, rfl, rfl, rfl, rfl, rfl, rfl, rfl, trivial⟩ (own' := ints 3 ((θ 12).getD 0 undef) [atI cr cd (os.getD (b) 0) (os.getD (c) 0)] :: box g29 27 [.int .i64 (cr), u] :: ints 3 u ts :: ints 3 v os :: box g2 27 [.int .i64 (0), .slice none 0 0] :: box g1 27 [.int .i64 (cr), vcd] :: box gc 113 [vb, .int .i64 (q), .int .i64 (r)] :: own) rfl ?_
 have hs36 : IsS ((θ 12).getD 0 undef) := h12a
 clear h12a
 generalize ((θ 12).getD 0 undef) = v37 at *
 show G _ _ _ [_, _, _] _ _ _ _
 refine G.step (OG.appendInts 2 rfl rfl et22 rfl rfl rfl (Ent.ints (i := 0) rfl) (by first | omega | (simp; omega))) rfl rfl rfl ?_
 rintro v38 _ ⟨hs39, rfl⟩
 refine G.stepD (OD.fieldAddr rfl rfl fa27_1) rfl rfl rfl ?_
 refine G.stepD0 (OD.store rfl ti22 rfl rfl (us := [v38]) (one_cells (IsS.one hs39)) rfl (allC (IsS.one hs39) rfl) (i := 1) rfl rfl) rfl rfl ?_
 refine G.nil (GE.blockN (GE.then_ (GC.region ?_)))
 refine G.stepD (OD.move rfl rfl) rfl rfl rfl ?_
 refine G.stepD (OD.addI rfl rfl rfl (by omega)) rfl rfl rfl ?_
 refine G.stepD (OD.assign rfl rfl) rfl rfl rfl ?_
 refine G.nil ?_
 exact GE.again (c + 1, ts ++ [atI cr cd (os.getD (b) 0) (os.getD (c) 0)], v38) (⟨by omega, hs39, by rw [List.length_append, List.length_singleton]; omega, fold_next ht rfl⟩) (by first | omega | (dsimp only; omega)) ⟨rfl, rfl, rfl, rfl, rfl, rfl, trivial⟩ [1, 1, 1, 1, 1, 1] 1 rfl
 replace hc31 := of_decide_eq_false hc31
 refine GC.exit (GE.pass (GE.pass (GE.hit (GE.blockN (GE.then_ (GC.region ?_))))))
 refine G.stepD (OD.move rfl rfl) rfl rfl rfl ?_
 refine G.stepD (OD.addI rfl rfl rfl (by omega)) rfl rfl rfl ?_
 refine G.stepD (OD.assign rfl rfl) rfl rfl rfl ?_
 refine G.nil ?_
 exact GE.again (b + 1, ts, u) (⟨by omega, hu, by rw [htl, Nat.succ_mul]; omega, fold_next hy (by rw [ht, show c = os.length by omega])⟩) (by first | omega | (dsimp only; omega)) ⟨rfl, rfl, rfl, rfl, rfl, trivial⟩ [] 0 rfl
 replace hc30 := of_decide_eq_false hc30
 refine GC.exit (GE.pass (GE.pass (GE.hit (GE.then_ (GC.seq (GC.region ?_))))))
 refine G.stepD (OD.loadAgg rfl ti27 rfl (i := 0) rfl (us := [.int .i64 (cr), z]) rfl rfl) rfl rfl rfl ?_
 refine G.stepD0 (OD.store rfl ti27 rfl rfl (us := [.int .i64 (cr), z]) rfl rfl (allC rfl (allC (IsS.one hz) rfl)) (i := 3) rfl rfl) rfl rfl ?_
 refine G.nil (GE.then_ (GC.ret ?_))
 refine GE.ownEq (own' := box g29 27 [.int .i64 (cr), z] :: ints 3 z (subD cr cd os) :: ints 3 v os :: box g2 27 [.int .i64 (cr), z] :: box g1 27 [.int .i64 (cr), vcd] :: box gc 113 [vb, .int .i64 (q), .int .i64 (r)] :: own) (by rw [hy, show b = os.length by omega]; rfl) ?_
 skip
 exact GE.body [1, 4] 4 (resN rfl (RVs.cons (rv_cells ti27 rfl (i := 3) rfl rfl) RVs.nil) rfl) rfl (⟨z, os, q, r, rfl, (hz), (by rw [show cr.toNat = a by omega]; exact hos), (by omega), rfl⟩)
set_option maxRecDepth 100000 in
theorem drawType_w {W : World} {own : List Asn} {vcode : Value} {code : List Int}  (scode : IsS vcode) (ecode : Ent own fun w => Byts w vcode code)  (hcl : code.length ≤ 1048576) : Spec Tryz.prog 38 [vcode] W own (fun v ow => ∃ (v0 : Value) (k0 : Nat) (o0 : List Int), v = .tuple #[.string (tpNm k0), .agg #[.int .i64 (cR (tpNm k0)), v0]] ∧ IsS v0 ∧ (k0 < 19) ∧ (o0 ∈ ordP (cR (tpNm k0) : Int).toNat) ∧ ow = ints 3 v0 (subD (cR (tpNm k0)) (cD (tpNm k0)) o0) :: own) := by
 refine Spec.enter Tryz.f38 _ Tryz.func38 rfl (n := 21) rfl rfl ?_
 refine GC.seq (GC.region ?_)
 refine G.stepD (OD.assign rfl rfl) rfl rfl rfl ?_
 refine G.step (OG.alloc rfl ti27 (zs := [.int .i64 (0), .slice none 0 0]) rfl) rfl rfl rfl ?_
 rintro _ _ ⟨g1, rfl, rfl⟩
 refine G.nil (GE.then_ (GC.seq (GC.region ?_)))
 refine G.stepD (OD.move rfl rfl) rfl rfl rfl ?_
 refine G.step (OG.call [vcode] ent68 rfl rfl rfl rfl (by exact (l1New_w scode (Ent.drop 1 ecode) (by omega)))) rfl rfl rfl ?_
 rintro _ _ ⟨g2, u3, rfl, rfl⟩
 refine G.stepD (OD.assign rfl rfl) rfl rfl rfl ?_
 refine G.nil (GE.then_ (GC.seq (GC.region ?_)))
 refine G.stepD (OD.move rfl rfl) rfl rfl rfl ?_
 refine G.step (OG.call [.pointer (some ⟨g2, 0, none⟩)] ent94 rfl rfl rfl rfl (by exact (l12Type_w scode (Ent.drop 1 ecode) (by omega) (by omega)))) rfl rfl rfl ?_
 rintro _ _ ⟨g4, u5, u6, rfl, hs7, hs8, rfl⟩
 refine G.stepD (OD.assign rfl rfl) rfl rfl rfl ?_
 refine G.nil (GE.then_ (GC.seq (GC.region ?_)))
 refine G.stepD (OD.move rfl rfl) rfl rfl rfl ?_
 obtain ⟨hR, hD, hF, hN, hS, hO⟩ := tpOk (k := g4) (by assumption)
 have hsz := tpNm_sz (k := g4) (by assumption)
 skip
 refine G.step (OG.call [.string (tpNm g4)] ent69 rfl rfl rfl rfl (by exact (specCartanOf_w (by omega)))) rfl rfl rfl ?_
 rintro _ _ ⟨v9, rfl, hs10, rfl⟩
 refine G.stepD (OD.move rfl rfl) rfl rfl rfl ?_
 refine G.stepD (OD.extract rfl rfl rfl) rfl rfl rfl ?_
 refine G.stepD (OD.extract rfl rfl rfl) rfl rfl rfl ?_
 refine G.step (OG.alloc rfl ti27 (zs := [.int .i64 (0), .slice none 0 0]) rfl) rfl rfl rfl ?_
 rintro _ _ ⟨g11, rfl, rfl⟩
 refine G.stepD0 (OD.store rfl ti27 rfl rfl (us := [.int .i64 (cR (tpNm g4)), v9]) rfl rfl (allC rfl (allC (IsS.one hs10) rfl)) (i := 0) rfl rfl) rfl rfl ?_
 refine G.stepD (OD.assign rfl rfl) rfl rfl rfl ?_
 refine G.nil (GE.then_ (GC.seq (GC.region ?_)))
 refine G.stepD (OD.move rfl rfl) rfl rfl rfl ?_
 refine G.stepD (OD.move rfl rfl) rfl rfl rfl ?_
 refine G.stepD (OD.loadAgg rfl ti27 rfl (i := 0) rfl (us := [.int .i64 (cR (tpNm g4)), v9]) rfl rfl) rfl rfl rfl ?_
 refine G.at [2] 0 (env' := [(0, vcode), (2, .string (⟨#[]⟩)), (3, .pointer (some ⟨g1, 0, none⟩)), (8, vcode), (9, .pointer (some ⟨g2, 0, none⟩)), (4, .pointer (some ⟨g2, 0, none⟩)), (10, .pointer (some ⟨g2, 0, none⟩)), (11, .string (tpNm g4)), (5, .string (tpNm g4)), (13, .string (tpNm g4)), (14, .tuple #[.agg #[.int .i64 (cR (tpNm g4)), v9], .bool ((cF (tpNm g4)).isSome)]), (12, .tuple #[.agg #[.int .i64 (cR (tpNm g4)), v9], .bool ((cF (tpNm g4)).isSome)]), (15, .agg #[.int .i64 (cR (tpNm g4)), v9]), (16, .bool ((cF (tpNm g4)).isSome)), (6, .pointer (some ⟨g11, 0, none⟩)), (7, .bool ((cF (tpNm g4)).isSome)), (17, .string (tpNm g4)), (18, .pointer (some ⟨g2, 0, none⟩)), (19, .agg #[.int .i64 (cR (tpNm g4)), v9])]) ⟨rfl, rfl, rfl, rfl, rfl, rfl, rfl, rfl, rfl, rfl, rfl, rfl, rfl, rfl, rfl, rfl, rfl, rfl, rfl, trivial⟩ (own' := box g2 113 [vcode, .int .i64 (u5), .int .i64 (u6)] :: box g11 27 [.int .i64 (cR (tpNm g4)), v9] :: ints 3 v9 (cD (tpNm g4)) :: box g1 27 [.int .i64 (0), .slice none 0 0] :: own) rfl ?_
 refine G.step (OG.call [.pointer (some ⟨g2, 0, none⟩), .agg #[.int .i64 (cR (tpNm g4)), v9]] ent95 rfl rfl rfl rfl (by exact (l12Ordered_w scode (Ent.drop 3 ecode) hs10 (Ent.ints (i := 1) rfl) (by omega) (by omega) (by rw [hR]; exact hN) (by rw [hR, hD]; exact (tyS_ok hS).2)))) rfl rfl rfl ?_
 rintro _ _ ⟨v12, u13, u14, u15, rfl, hs16, hs17, hs18, rfl⟩
 refine G.stepD (OD.assign rfl rfl) rfl rfl rfl ?_
 refine G.stepD0 (OD.store rfl ti27 rfl rfl (us := [.int .i64 (cR (tpNm g4)), v12]) rfl rfl (allC rfl (allC (IsS.one hs16) rfl)) (i := 4) rfl rfl) rfl rfl ?_
 refine G.nil (GE.then_ (GC.ret ?_))
 exact GE.body [0] 4 (resN rfl (RVs.cons (rv_tmp rfl) (RVs.cons (rv_cells ti27 rfl (i := 4) rfl rfl) RVs.nil)) rfl) rfl (⟨v12, g4, u13, rfl, (hs16), (by assumption), (by assumption), rfl⟩)
end Go.Proofs.YtgelkakjmbiibaaGreatDoor
