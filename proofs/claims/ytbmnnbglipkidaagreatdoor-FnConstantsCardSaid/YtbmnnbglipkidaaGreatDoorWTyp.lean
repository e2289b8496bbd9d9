/-
  A type that is drawn: contracts by walks.
-/
import Derived.Test.YtbmnnbglipkidaaGreatDoorFct
import Derived.Test.YtbmnnbglipkidaaGreatDoorWDrw
namespace Go.Proofs.YtbmnnbglipkidaaGreatDoor
set_option linter.unusedVariables false
set_option linter.unusedSimpArgs false
open Go.RowKit
set_option maxHeartbeats 4000000 in
set_option maxRecDepth 100000 in
theorem l12Ordered_w {W : World} {own : List Asn} {gc : Nat} {vb : Value} {bs : List Int} {ci ch : Int} {cr : Int} {vcd : Value} {cd : List Int}  (sb : IsS vb) (eb : Ent own fun w => Byts w vb bs)   (scd : IsS vcd) (ecd : Ent own fun w => Ints w vcd cd)  (hci : 0 ≤ ci) (hbl : bs.length ≤ 1048576) (hcr : 1 ≤ cr ∧ cr ≤ 4) (hcd : (cd.length : Int) = cr * cr) : Spec Tryz.prog 45 [.pointer (some ⟨gc, 0, none⟩), .agg #[.int .i64 (cr), vcd]] W (box gc 111 [vb, .int .i64 (ci), .int .i64 (ch)] :: own) (fun v ow => ∃ (v0 : Value) (o0 : List Int) (i0 : Int) (h0 : Int), v = .agg #[.int .i64 (cr), v0] ∧ IsS v0 ∧ (o0 ∈ ordP (cr : Int).toNat) ∧ (0 ≤ i0) ∧ ow = ints 3 v0 (subD cr cd o0) :: box gc 111 [vb, .int .i64 (i0), .int .i64 (h0)] :: own) := by
 refine Spec.enter Tryz.f45 _ Tryz.func45 rfl (n := 65) rfl rfl ?_
 refine Zs (Zr ?_)
 refine G.step (OG.box (cs := [.int .i64 (cr), vcd]) rfl rfl rfl) rfl rfl rfl ?_
 rintro _ _ ⟨g1, rfl, rfl⟩
 refine G.step (OG.alloc rfl ti27 (zs := [.int .i64 (0), .slice none 0 0]) rfl) rfl rfl rfl ?_
 rintro _ _ ⟨g2, rfl, rfl⟩
 refine Zn (Zt (Zs (Zr ?_)))
 refine G.step (OG.buildInts (xs := []) (is := []) rfl et22 rfl rfl rfl rfl rfl) rfl rfl rfl ?_
 rintro v3 _ ⟨hs4, rfl⟩
 refine Za rfl rfl rfl rfl rfl ?_
 refine Zn (Zt (Zs (Zs (Zr ?_))))
 refine Za rfl rfl rfl rfl rfl ?_
 refine Zn (Zt (GC.block ?_))
 refine GC.loop (ι := Nat × List Int × Value × Int × Int) (fun ⟨a, os, v, q, r⟩ => [(0, .pointer (some ⟨gc, 0, none⟩)), (3, .pointer (some ⟨g1, 0, none⟩)), (4, .pointer (some ⟨g2, 0, none⟩)), (5, v), (6, .int .i64 ((a : Int)))]) (fun ⟨a, os, v, q, r⟩ => ints 3 v os :: box g2 27 [.int .i64 (0), .slice none 0 0] :: box g1 27 [.int .i64 (cr), vcd] :: box gc 111 [vb, .int .i64 (q), .int .i64 (r)] :: own) (fun ⟨a, os, v, q, r⟩ => ((a : Int) ≤ cr) ∧ (os ∈ ordP a) ∧ (IsS v) ∧ (0 ≤ q)) (fun ⟨a, os, v, q, r⟩ => cr.toNat - a) (0, [], v3, ci, ch) (⟨by omega, by simp [ordP], hs4, by omega⟩) ⟨rfl,rfl,rfl,rfl,rfl,trivial⟩ [] 0 rfl ?_
 rintro ⟨a, os, v, q, r⟩ ⟨ha, hos, hv, hq⟩
 obtain ⟨hol, hor⟩ := ordP_len hos
 refine Zs (Zs (Zr ?_))
 refine Zm rfl rfl rfl rfl rfl ?_
 refine G.stepD (OD.fieldAddr rfl rfl fa27_0) rfl rfl rfl ?_
 refine G.stepD (OD.load rfl ti3 rfl (i := 2) rfl rfl) rfl rfl rfl ?_
 refine G.stepD (OD.lss rfl rfl rfl) rfl rfl rfl ?_
 refine Zn (Zt ?_)
 refine GC.cond rfl (fun hc5 => ?_) (fun hc5 => ?_)
 replace hc5 := of_decide_eq_true hc5
 refine Zk (Zt (Zs (GC.block (Zs (Zr ?_)))))
 refine Zm rfl rfl rfl rfl rfl ?_
 refine Zm rfl rfl rfl rfl rfl ?_
 refine G.stepD (OD.addI rfl rfl rfl (by omega)) rfl rfl rfl ?_
 refine G.at [3] 0 (env' := [(0, .pointer (some ⟨gc, 0, none⟩)), (3, .pointer (some ⟨g1, 0, none⟩)), (4, .pointer (some ⟨g2, 0, none⟩)), (5, v), (6, .int .i64 ((a : Int))), (12, .int .i64 ((a : Int))), (13, .pointer (some ⟨g1, 0, none⟩)), (14, .int .i64 (cr)), (15, .bool (decide ((a : Int) < cr))), (18, .pointer (some ⟨gc, 0, none⟩)), (19, .int .i64 ((a : Int))), (20, .int .i64 ((a : Int) + 1))]) ⟨rfl,rfl,rfl,rfl,rfl,rfl,rfl,rfl,rfl,rfl,rfl,rfl,trivial⟩ (own' := box gc 111 [vb, .int .i64 (q), .int .i64 (r)] :: ints 3 v os :: box g2 27 [.int .i64 (0), .slice none 0 0] :: box g1 27 [.int .i64 (cr), vcd] :: own) rfl ?_
 refine G.step (OG.call [.pointer (some ⟨gc, 0, none⟩), .int .i64 ((a : Int) + 1)] ent107 rfl rfl rfl rfl (by exact (l1Below_w sb (Ent.drop 3 eb) (by omega) (by omega) (by omega)))) rfl rfl rfl ?_
 rintro _ _ ⟨u6, u7, u8, rfl, hs9, hs10, rfl⟩
 skip
 refine Za rfl rfl rfl rfl rfl ?_
 refine Zn (Zt ?_)
 refine GC.at [] 0 (env' := [(0, .pointer (some ⟨gc, 0, none⟩)), (3, .pointer (some ⟨g1, 0, none⟩)), (4, .pointer (some ⟨g2, 0, none⟩)), (5, v), (6, .int .i64 ((a : Int))), (7, .int .i64 (u6))]) ⟨rfl,rfl,rfl,rfl,rfl,rfl,trivial⟩ rfl ?_
 refine GC.par (its := [Z0 22 v,
     Z0 23 (.int .i64 (u6)),
     Z1 24 [(0, 22), (1, 23)] ((subV 1 v 0 ((u6 : Int).toNat))),
     ⟨25, [(2, 24)], [], [], [3], fun ds => ((ds.getD 0 []).getD 0 undef), fun ds => IsS ((ds.getD 0 []).getD 0 undef), fun ds => [ints 3 ((ds.getD 0 []).getD 0 undef) ((os.drop (0)).take ((u6 : Int).toNat - 0))]⟩,
     Z0 26 (.int .i64 ((a : Int))),
     ⟨27, [(4, 26)], [], [], [5], fun ds => ((ds.getD 0 []).getD 0 undef), fun ds => IsS ((ds.getD 0 []).getD 0 undef), fun ds => [ints 3 ((ds.getD 0 []).getD 0 undef) [(a : Int)]]⟩,
     ⟨28, [(3, 25), (5, 27)], [3, 5], [3], [3, 5, 6], fun ds => ((ds.getD 2 []).getD 0 undef), fun ds => IsS ((ds.getD 2 []).getD 0 undef), fun ds => [ints 3 ((ds.getD 2 []).getD 0 undef) (((os.drop (0)).take ((u6 : Int).toNat - 0)) ++ [(a : Int)])]⟩,
     Z0 29 v,
     Z0 30 (.int .i64 (u6)),
     Z1 31 [(7, 29), (8, 30)] ((subV 1 v ((u6 : Int).toNat) os.length)),
     ⟨32, [(6, 28), (9, 31)], [6, 5], [6], [3, 5, 6, 10], fun ds => ((ds.getD 3 []).getD 0 undef), fun ds => IsS ((ds.getD 3 []).getD 0 undef), fun ds => [ints 3 ((ds.getD 3 []).getD 0 undef) ((((os.drop (0)).take ((u6 : Int).toNat - 0)) ++ [(a : Int)]) ++ ((os.drop ((u6 : Int).toNat)).take (os.length - (u6 : Int).toNat)))]⟩]) (by kernel_rfl) (by kernel_rfl) (POps.cons ?_ (POps.cons ?_ (POps.cons ?_ (POps.cons ?_ (POps.cons ?_ (POps.cons ?_ (POps.cons ?_ (POps.cons ?_ (POps.cons ?_ (POps.cons ?_ (POps.cons ?_ POps.nil))))))))))) ?_
 exact fun θ R hd => Zq (OD.move rfl rfl) rfl rfl trivial rfl
 exact fun θ R hd => Zq (OD.move rfl rfl) rfl rfl trivial rfl
 exact fun θ R ⟨h0d, h1d, _⟩ => Zq (OD.sliceTo rfl et22 rfl rfl (Ent.ints (i := 1) rfl) (by omega)) rfl rfl trivial rfl
 exact fun θ R ⟨h2d, _⟩ => Opp.plain (OG.imp (OG.call [(subV 1 v 0 ((u6 : Int).toNat))] ent108 rfl rfl rfl rfl (by exact (l1Ints_w (subV_isS hv) (Ent.subInts (Ent.ints (i := 1) rfl) (by simp; omega)) (by first | omega | (simp; omega))))) (by rintro v11 _ ⟨_, rfl, hs12, rfl⟩; exact ⟨[v11], rfl, hs12, rfl⟩)) rfl
 exact fun θ R hd => Zq (OD.move rfl rfl) rfl rfl trivial rfl
 exact fun θ R ⟨h4d, _⟩ => Opp.plain (OG.imp (OG.buildInts (xs := [.tmp 26]) (is := [(a : Int)]) rfl et22 rfl rfl rfl rfl rfl) (by rintro v13 _ ⟨hs14, rfl⟩; exact ⟨[v13], rfl, hs14, rfl⟩)) rfl
 exact fun θ R ⟨h3d, h5d, _⟩ => Opp.plain (OG.imp (OG.appendInts 0 rfl rfl et22 rfl rfl rfl (Ent.ints (i := 1) rfl) (by first | omega | (simp; omega))) (by rintro v15 _ ⟨hs16, rfl⟩; exact ⟨[v15], rfl, hs16, rfl⟩)) rfl
 exact fun θ R hd => Zq (OD.move rfl rfl) rfl rfl trivial rfl
 exact fun θ R hd => Zq (OD.move rfl rfl) rfl rfl trivial rfl
 exact fun θ R ⟨h7d, h8d, _⟩ => Zq (OD.sliceFrom rfl et22 rfl rfl (Ent.ints (i := 1) rfl) (by omega)) rfl rfl trivial rfl
 exact fun θ R ⟨h6d, h9d, _⟩ => Opp.plain (OG.imp (OG.appendInts 0 rfl rfl et22 rfl rfl rfl (Ent.subInts (Ent.ints (i := 3) rfl) (by simp; omega)) (by first | omega | (simp; omega))) (by rintro v17 _ ⟨hs18, rfl⟩; exact ⟨[v17], rfl, hs18, rfl⟩)) rfl
 intro θ hall
 obtain ⟨_, _, _, h3a, _, h5a, h6a, _, _, _, h10a, _⟩ := hall
 refine G.at [] 0 (env' := [(0, .pointer (some ⟨gc, 0, none⟩)), (3, .pointer (some ⟨g1, 0, none⟩)), (4, .pointer (some ⟨g2, 0, none⟩)), (5, v), (6, .int .i64 ((a : Int))), (32, ((θ 10).getD 0 undef))]) ⟨rfl,rfl,rfl,rfl,rfl,rfl,trivial⟩ (own' := ints 3 ((θ 5).getD 0 undef) [(a : Int)] :: ints 3 ((θ 10).getD 0 undef) ((((os.drop (0)).take ((u6 : Int).toNat - 0)) ++ [(a : Int)]) ++ ((os.drop ((u6 : Int).toNat)).take (os.length - (u6 : Int).toNat))) :: box gc 111 [vb, .int .i64 (u7), .int .i64 (u8)] :: ints 3 v os :: box g2 27 [.int .i64 (0), .slice none 0 0] :: box g1 27 [.int .i64 (cr), vcd] :: own) rfl ?_
 have hs19 : IsS ((θ 3).getD 0 undef) := h3a
 clear h3a
 generalize ((θ 3).getD 0 undef) = v20 at *
 have hs21 : IsS ((θ 5).getD 0 undef) := h5a
 clear h5a
 generalize ((θ 5).getD 0 undef) = v22 at *
 have hs23 : IsS ((θ 6).getD 0 undef) := h6a
 clear h6a
 generalize ((θ 6).getD 0 undef) = v24 at *
 have hs25 : IsS ((θ 10).getD 0 undef) := h10a
 clear h10a
 generalize ((θ 10).getD 0 undef) = v26 at *
 show G _ _ _ [_] _ _ _ _
 refine Za rfl rfl rfl rfl rfl ?_
 refine Zn (GE.blockN (Zt (Zr ?_)))
 refine Zm rfl rfl rfl rfl rfl ?_
 refine G.stepD (OD.addI rfl rfl rfl (by omega)) rfl rfl rfl ?_
 refine Za rfl rfl rfl rfl rfl ?_
 refine Zn ?_
 exact GE.again (a + 1, (((os.drop (0)).take ((u6 : Int).toNat - 0)) ++ [(a : Int)]) ++ ((os.drop ((u6 : Int).toNat)).take (os.length - (u6 : Int).toNat)), v26, u7, u8) (⟨by omega, ordP_next hos hol (k := (u6 : Int).toNat) (by omega), hs25, by omega⟩) (by first | omega | (dsimp only; omega)) ⟨rfl,rfl,rfl,rfl,rfl,trivial⟩ [1, 3, 3, 1] 2 rfl
 replace hc5 := of_decide_eq_false hc5
 refine GC.exit (Zp (Zp (GE.hit (Zt (Zs (Zr ?_))))))
 refine G.stepD (OD.fieldAddr rfl rfl fa27_0) rfl rfl rfl ?_
 refine G.stepD (OD.load rfl ti3 rfl (i := 2) rfl rfl) rfl rfl rfl ?_
 refine G.step (OG.buildInts (xs := []) (is := []) rfl et22 rfl rfl rfl rfl rfl) rfl rfl rfl ?_
 rintro v27 _ ⟨hs28, rfl⟩
 refine G.stepD (OD.build (idx := [0, 1]) (xs := [.tmp 34, .tmp 35]) (vs := [.int .i64 (cr), v27]) (cs := [[.int .i64 (cr)], [v27]]) (zs := [.int .i64 (0), .slice none 0 0]) (r := [.int .i64 (cr), v27]) rfl ti27 rfl rfl rfl ⟨rfl, ⟨(one_cells (IsS.one hs28)), trivial⟩⟩ rfl) rfl rfl rfl ?_
 refine G.step (OG.alloc rfl ti27 (zs := [.int .i64 (0), .slice none 0 0]) rfl) rfl rfl rfl ?_
 rintro _ _ ⟨g29, rfl, rfl⟩
 refine G.stepD0 (OD.store rfl ti27 rfl rfl (us := [.int .i64 (cr), v27]) rfl rfl (allC rfl (allC (IsS.one hs28) rfl)) (i := 0) rfl rfl) rfl rfl ?_
 refine Zn (Zt (Zs (Zs (Zr ?_))))
 refine Za rfl rfl rfl rfl rfl ?_
 refine Zn (Zt (GC.block ?_))
 have hoc : (os.length : Int) = cr := by omega
 have hor2 : ∀ k, k < os.length → 0 ≤ os.getD k 0 ∧ os.getD k 0 < cr := fun k hk => by have h1 := hor (os.getD k 0) (by rw [List.getD, List.getElem?_eq_getElem hk]; exact List.getElem_mem _); omega
 refine GC.loop (ι := Nat × List Int × Value) (fun ⟨b, ys, z⟩ => [(3, .pointer (some ⟨g1, 0, none⟩)), (4, .pointer (some ⟨g2, 0, none⟩)), (5, v), (8, .pointer (some ⟨g29, 0, none⟩)), (9, .int .i64 ((b : Int)))]) (fun ⟨b, ys, z⟩ => box g29 27 [.int .i64 (cr), z] :: ints 3 z ys :: ints 3 v os :: box g2 27 [.int .i64 (0), .slice none 0 0] :: box g1 27 [.int .i64 (cr), vcd] :: box gc 111 [vb, .int .i64 (q), .int .i64 (r)] :: own) (fun ⟨b, ys, z⟩ => (b ≤ os.length) ∧ (IsS z) ∧ (ys.length = b * os.length) ∧ (ys = (List.range b).foldl (fun (o : List Int) (i : Nat) => (List.range os.length).foldl (subR cr cd os i) o) [])) (fun ⟨b, ys, z⟩ => os.length - b) (0, [], v27) (⟨by omega, hs28, by simp, rfl⟩) ⟨rfl,rfl,rfl,rfl,rfl,trivial⟩ [] 0 rfl ?_
 rintro ⟨b, ys, z⟩ ⟨hb, hz, hyl, hy⟩
 refine Zs (Zs (Zr ?_))
 refine Zm rfl rfl rfl rfl rfl ?_
 refine G.stepD (OD.fieldAddr rfl rfl fa27_0) rfl rfl rfl ?_
 refine G.stepD (OD.load rfl ti3 rfl (i := 4) rfl rfl) rfl rfl rfl ?_
 refine G.stepD (OD.lss rfl rfl rfl) rfl rfl rfl ?_
 refine Zn (Zt ?_)
 refine GC.cond rfl (fun hc30 => ?_) (fun hc30 => ?_)
 replace hc30 := of_decide_eq_true hc30
 have hra := hor2 b (by omega)
 have hmm : b * os.length ≤ 4 * 4 := Nat.mul_le_mul (by omega) (by omega)
 refine Zk (Zt (Zs (GC.block (Zs (Zr ?_)))))
 refine Za rfl rfl rfl rfl rfl ?_
 refine Zn (Zt (GC.block ?_))
 refine GC.loop (ι := Nat × List Int × Value) (fun ⟨c, ts, u⟩ => [(3, .pointer (some ⟨g1, 0, none⟩)), (4, .pointer (some ⟨g2, 0, none⟩)), (5, v), (8, .pointer (some ⟨g29, 0, none⟩)), (9, .int .i64 ((b : Int))), (10, .int .i64 ((c : Int)))]) (fun ⟨c, ts, u⟩ => box g29 27 [.int .i64 (cr), u] :: ints 3 u ts :: ints 3 v os :: box g2 27 [.int .i64 (0), .slice none 0 0] :: box g1 27 [.int .i64 (cr), vcd] :: box gc 111 [vb, .int .i64 (q), .int .i64 (r)] :: own) (fun ⟨c, ts, u⟩ => (c ≤ os.length) ∧ (IsS u) ∧ (ts.length = b * os.length + c) ∧ (ts = (List.range c).foldl (subR cr cd os b) ys)) (fun ⟨c, ts, u⟩ => os.length - c) (0, ys, z) (⟨by omega, hz, by omega, rfl⟩) ⟨rfl,rfl,rfl,rfl,rfl,rfl,trivial⟩ [] 0 rfl ?_
 rintro ⟨c, ts, u⟩ ⟨hc, hu, htl, ht⟩
 refine Zs (Zs (Zr ?_))
 refine Zm rfl rfl rfl rfl rfl ?_
 refine G.stepD (OD.fieldAddr rfl rfl fa27_0) rfl rfl rfl ?_
 refine G.stepD (OD.load rfl ti3 rfl (i := 4) rfl rfl) rfl rfl rfl ?_
 refine G.stepD (OD.lss rfl rfl rfl) rfl rfl rfl ?_
 refine Zn (Zt ?_)
 refine GC.cond rfl (fun hc31 => ?_) (fun hc31 => ?_)
 replace hc31 := of_decide_eq_true hc31
 have hrb := hor2 c (by omega)
 have hxx := idx_bd (n := cr) (i := os.getD b 0) (j := os.getD c 0) ⟨by omega, by omega⟩ ⟨by omega, by omega⟩ (by omega)
 refine Zk (Zt (Zs (GC.block ?_)))
 refine GC.at [] 0 (env' := [(3, .pointer (some ⟨g1, 0, none⟩)), (4, .pointer (some ⟨g2, 0, none⟩)), (5, v), (8, .pointer (some ⟨g29, 0, none⟩)), (9, .int .i64 ((b : Int))), (10, .int .i64 ((c : Int)))]) ⟨rfl,rfl,rfl,rfl,rfl,rfl,trivial⟩ rfl ?_
 refine GC.par (its := [Z0 49 (.pointer (some ⟨g29, 1, none⟩)),
     Z1 50 [(0, 49)] u,
     Z0 51 (.agg #[.int .i64 (cr), vcd]),
     Z0 52 v,
     Z0 53 (.int .i64 ((b : Int))),
     Z1 54 [(3, 52), (4, 53)] (elemPtr v 1 (b)),
     Z1 55 [(5, 54)] (.int .i64 (os.getD (b) 0)),
     Z0 56 v,
     Z0 57 (.int .i64 ((c : Int))),
     Z1 58 [(7, 56), (8, 57)] (elemPtr v 1 (c)),
     Z1 59 [(9, 58)] (.int .i64 (os.getD (c) 0)),
     Z1 60 [(2, 51), (6, 55), (10, 59)] (.int .i64 (atI cr cd (os.getD (b) 0) (os.getD (c) 0))),
     ⟨61, [(11, 60)], [], [], [12], fun ds => ((ds.getD 0 []).getD 0 undef), fun ds => IsS ((ds.getD 0 []).getD 0 undef), fun ds => [ints 3 ((ds.getD 0 []).getD 0 undef) [atI cr cd (os.getD (b) 0) (os.getD (c) 0)]]⟩]) (by kernel_rfl) (by kernel_rfl) (POps.cons ?_ (POps.cons ?_ (POps.cons ?_ (POps.cons ?_ (POps.cons ?_ (POps.cons ?_ (POps.cons ?_ (POps.cons ?_ (POps.cons ?_ (POps.cons ?_ (POps.cons ?_ (POps.cons ?_ (POps.cons ?_ POps.nil))))))))))))) ?_
 exact fun θ R hd => Zq (OD.fieldAddr rfl rfl fa27_1) rfl rfl trivial rfl
 exact fun θ R ⟨h0d, _⟩ => Zq (OD.load rfl ti22 rfl (i := 0) rfl rfl) rfl rfl trivial rfl
 exact fun θ R hd => Zq (OD.loadAgg rfl ti27 rfl (i := 4) rfl (us := [.int .i64 (cr), vcd]) rfl rfl) rfl rfl trivial rfl
 exact fun θ R hd => Zq (OD.move rfl rfl) rfl rfl trivial rfl
 exact fun θ R hd => Zq (OD.move rfl rfl) rfl rfl trivial rfl
 exact fun θ R ⟨h3d, h4d, _⟩ => Zq (OD.indexAddr rfl et22 rfl (Ent.ints (i := 2) rfl) rfl (by omega)) rfl rfl trivial rfl
 exact fun θ R ⟨h5d, _⟩ => Zq (OD.loadInt rfl ti3 rfl (Ent.ints (i := 2) rfl) (by omega)) rfl rfl trivial rfl
 exact fun θ R hd => Zq (OD.move rfl rfl) rfl rfl trivial rfl
 exact fun θ R hd => Zq (OD.move rfl rfl) rfl rfl trivial rfl
 exact fun θ R ⟨h7d, h8d, _⟩ => Zq (OD.indexAddr rfl et22 rfl (Ent.ints (i := 2) rfl) rfl (by omega)) rfl rfl trivial rfl
 exact fun θ R ⟨h9d, _⟩ => Zq (OD.loadInt rfl ti3 rfl (Ent.ints (i := 2) rfl) (by omega)) rfl rfl trivial rfl
 exact fun θ R ⟨h2d, h6d, h10d, _⟩ => Zq (OG.call [.agg #[.int .i64 (cr), vcd], .int .i64 (os.getD (b) 0), .int .i64 (os.getD (c) 0)] ent109 rfl rfl rfl rfl (by exact (l5At_w scd (Ent.drop 6 ecd.app) (by omega)))) rfl rfl trivial rfl
 exact fun θ R ⟨h11d, _⟩ => Opp.plain (OG.imp (OG.buildInts (xs := [.tmp 60]) (is := [atI cr cd (os.getD (b) 0) (os.getD (c) 0)]) rfl et22 rfl rfl rfl rfl rfl) (by rintro v34 _ ⟨hs35, rfl⟩; exact ⟨[v34], rfl, hs35, rfl⟩)) rfl
 intro θ hall
 obtain ⟨_, _, _, _, _, _, _, _, _, _, _, _, h12a, _⟩ := hall
 refine G.at [] 0 (env' := [(3, .pointer (some ⟨g1, 0, none⟩)), (4, .pointer (some ⟨g2, 0, none⟩)), (5, v), (8, .pointer (some ⟨g29, 0, none⟩)), (9, .int .i64 ((b : Int))), (10, .int .i64 ((c : Int))), (50, u), (61, ((θ 12).getD 0 undef))]) ⟨rfl,rfl,rfl,rfl,rfl,rfl,rfl,rfl,trivial⟩ (own' := ints 3 ((θ 12).getD 0 undef) [atI cr cd (os.getD (b) 0) (os.getD (c) 0)] :: box g29 27 [.int .i64 (cr), u] :: ints 3 u ts :: ints 3 v os :: box g2 27 [.int .i64 (0), .slice none 0 0] :: box g1 27 [.int .i64 (cr), vcd] :: box gc 111 [vb, .int .i64 (q), .int .i64 (r)] :: own) rfl ?_
 have hs36 : IsS ((θ 12).getD 0 undef) := h12a
 clear h12a
 generalize ((θ 12).getD 0 undef) = v37 at *
 show G _ _ _ [_, _, _] _ _ _ _
 refine G.step (OG.appendInts 2 rfl rfl et22 rfl rfl rfl (Ent.ints (i := 0) rfl) (by first | omega | (simp; omega))) rfl rfl rfl ?_
 rintro v38 _ ⟨hs39, rfl⟩
 refine G.stepD (OD.fieldAddr rfl rfl fa27_1) rfl rfl rfl ?_
 refine G.stepD0 (OD.store rfl ti22 rfl rfl (us := [v38]) (one_cells (IsS.one hs39)) rfl (allC (IsS.one hs39) rfl) (i := 1) rfl rfl) rfl rfl ?_
 refine Zn (GE.blockN (Zt (Zr ?_)))
 refine Zm rfl rfl rfl rfl rfl ?_
 refine G.stepD (OD.addI rfl rfl rfl (by omega)) rfl rfl rfl ?_
 refine Za rfl rfl rfl rfl rfl ?_
 refine Zn ?_
 exact GE.again (c + 1, ts ++ [atI cr cd (os.getD (b) 0) (os.getD (c) 0)], v38) (⟨by omega, hs39, by rw [List.length_append, List.length_singleton]; omega, fold_next ht rfl⟩) (by first | omega | (dsimp only; omega)) ⟨rfl,rfl,rfl,rfl,rfl,rfl,trivial⟩ [1, 1, 1, 1, 1, 1] 1 rfl
 replace hc31 := of_decide_eq_false hc31
 refine GC.exit (Zp (Zp (GE.hit (GE.blockN (Zt (Zr ?_))))))
 refine Zm rfl rfl rfl rfl rfl ?_
 refine G.stepD (OD.addI rfl rfl rfl (by omega)) rfl rfl rfl ?_
 refine Za rfl rfl rfl rfl rfl ?_
 refine Zn ?_
 exact GE.again (b + 1, ts, u) (⟨by omega, hu, by rw [htl, Nat.succ_mul]; omega, fold_next hy (by rw [ht, show c = os.length by omega])⟩) (by first | omega | (dsimp only; omega)) ⟨rfl,rfl,rfl,rfl,rfl,trivial⟩ [] 0 rfl
 replace hc30 := of_decide_eq_false hc30
 refine GC.exit (Zp (Zp (GE.hit (Zt (Zs (Zr ?_))))))
 refine G.stepD (OD.loadAgg rfl ti27 rfl (i := 0) rfl (us := [.int .i64 (cr), z]) rfl rfl) rfl rfl rfl ?_
 refine G.stepD0 (OD.store rfl ti27 rfl rfl (us := [.int .i64 (cr), z]) rfl rfl (allC rfl (allC (IsS.one hz) rfl)) (i := 3) rfl rfl) rfl rfl ?_
 refine Zn (Zt (GC.ret ?_))
 refine GE.ownEq (own' := box g29 27 [.int .i64 (cr), z] :: ints 3 z (subD cr cd os) :: ints 3 v os :: box g2 27 [.int .i64 (cr), z] :: box g1 27 [.int .i64 (cr), vcd] :: box gc 111 [vb, .int .i64 (q), .int .i64 (r)] :: own) (by rw [hy, show b = os.length by omega]; rfl) ?_
 skip
 exact GE.body [1, 4] 4 (resN rfl (RVs.cons (rv_cells ti27 rfl (i := 3) rfl rfl) RVs.nil) rfl) rfl (⟨z, os, q, r, rfl, (hz), (by rw [show cr.toNat = a by omega]; exact hos), (by omega), rfl⟩)
end Go.Proofs.YtbmnnbglipkidaaGreatDoor
