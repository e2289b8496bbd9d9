/-
  The levels of a Weyl group: contracts by walks.
-/
import Derived.Test.YtmckgdekblphoaaGreatDoorFct
import Derived.Test.YtmckgdekblphoaaGreatDoorWOrA
import Derived.Test.YtmckgdekblphoaaGreatDoorWeyA
namespace Go.Proofs.YtmckgdekblphoaaGreatDoor
set_option linter.unusedVariables false
set_option linter.unusedSimpArgs false
open Go.RowKit
set_option maxHeartbeats 4000000 in
set_option maxRecDepth 100000 in
theorem l6Level_w {W : World} {own : List Asn} {cr : Int} {vcd : Value} {cd : List Int} {vx : Value} {ux : List Value} {x : List (List Int)}  (scd : IsS vcd) (ecd : Ent own fun w => Ints w vcd cd)   (sx : IsS vx) (ex : Ent own fun w => Sl w vx x.length 1 ux) (mx : ∀ k, k < x.length → Ent own fun w => Ints w (ux.getD k undef) (x.getD k [])) (lx : ux.length = x.length) (ax : AllS ux)  (hcr : 1 ≤ cr ∧ cr ≤ 4) (hcd : (cd.length : Int) = cr * cr) (hlx : x.length ≤ 100000) (hxe : ∀ y ∈ x, (y.length : Int) = cr) : Spec Tryz.prog 96 [.agg #[.int .i64 (cr), vcd], vx] W own (fun v ow => ∃ (r0 : Value) (u0 : List Value), v = r0 ∧ IsS r0 ∧ AllS u0 ∧ u0.length = (lvNext cr cd x).length ∧ ow = lst 22 r0 u0 :: many (ints 3) u0 (lvNext cr cd x) :: own) := by
 refine Spec.enter Tryz.f96 _ Tryz.func96 rfl (n := 42) rfl rfl ?_
 refine GC.seq (GC.region ?_)
 refine G.step (OG.box (cs := [.int .i64 (cr), vcd]) rfl rfl rfl) rfl rfl rfl ?_
 rintro _ _ ⟨g1, rfl, rfl⟩
 refine G.stepD (OD.assign rfl rfl) rfl rfl rfl ?_
 refine G.nil (GE.then_ (GC.seq (GC.region ?_)))
 refine G.step (OG.buildLst (xs := []) (us := []) rfl et26 rfl rfl rfl rfl rfl) rfl rfl rfl ?_
 rintro v2 _ ⟨hs3, rfl⟩
 refine G.stepD (OD.assign rfl rfl) rfl rfl rfl ?_
 refine G.nil (GE.then_ (GC.seq (GC.seq (GC.region ?_))))
 refine G.stepD (OD.assign rfl rfl) rfl rfl rfl ?_
 refine G.nil (GE.then_ (GC.block ?_))
 refine GC.many0 (ints 3) ?_
 refine GC.loop (ι := Nat × List (List Int) × List Value × Value) (fun ⟨k, L, us, v⟩ => [(1, vx), (2, .pointer (some ⟨g1, 0, none⟩)), (5, v), (6, .int .i64 ((k : Int)))]) (fun ⟨k, L, us, v⟩ => many (ints 3) us L :: lst 22 v us :: box g1 28 [.int .i64 (cr), vcd] :: own) (fun ⟨k, L, us, v⟩ => (k ≤ x.length) ∧ (L = (x.take k).foldl (lvRow cr cd) []) ∧ (Desc L) ∧ (L.length ≤ 4 * k) ∧ (∀ y ∈ L, (y.length : Int) = cr) ∧ (us.length = L.length) ∧ (AllS us) ∧ (IsS v)) (fun ⟨k, L, us, v⟩ => x.length - k) (0, [], [], v2) (⟨by omega, rfl, List.Pairwise.nil, by simp, fun y hy => by simp at hy, rfl, AllS.nil, hs3⟩) ⟨rfl, rfl, rfl, rfl, trivial⟩ [] 0 rfl ?_
 rintro ⟨k, L, us, v⟩ ⟨hk, hL, hde, hll, hle, hul, ha, hv⟩
 refine GC.seq (GC.seq (GC.region ?_))
 refine G.stepD (OD.move rfl rfl) rfl rfl rfl ?_
 refine G.stepD (OD.move rfl rfl) rfl rfl rfl ?_
 refine G.stepD (OD.len rfl rfl et26 rfl (Ent.drop 3 ex)) rfl rfl rfl ?_
 refine G.stepD (OD.lss rfl rfl rfl) rfl rfl rfl ?_
 refine G.nil (GE.then_ ?_)
 refine GC.cond rfl (fun hc4 => ?_) (fun hc4 => ?_)
 replace hc4 := of_decide_eq_true hc4
 have hkx : k < x.length := by omega
 have hxk := hxe _ (getD_mem hkx)
 refine GC.skip (GE.then_ (GC.seq (GC.block (GC.seq (GC.region ?_)))))
 refine G.stepD (OD.assign rfl rfl) rfl rfl rfl ?_
 refine G.nil (GE.then_ (GC.block ?_))
 refine GC.loop (ι := Nat × List (List Int) × List Value × Value) (fun ⟨i, qs, uu, w⟩ => [(1, vx), (2, .pointer (some ⟨g1, 0, none⟩)), (6, .int .i64 ((k : Int))), (5, w), (7, .int .i64 ((i : Int)))]) (fun ⟨i, qs, uu, w⟩ => many (ints 3) uu qs :: lst 22 w uu :: box g1 28 [.int .i64 (cr), vcd] :: own) (fun ⟨i, qs, uu, w⟩ => (i ≤ cr.toNat) ∧ (qs = (List.range i).foldl (lvOne cr cd (x.getD k [])) L) ∧ (Desc qs) ∧ (qs.length ≤ 4 * k + i) ∧ (∀ y ∈ qs, (y.length : Int) = cr) ∧ (uu.length = qs.length) ∧ (AllS uu) ∧ (IsS w)) (fun ⟨i, qs, uu, w⟩ => cr.toNat - i) (0, L, us, v) (⟨by omega, rfl, hde, by omega, hle, hul, ha, hv⟩) ⟨rfl, rfl, rfl, rfl, rfl, trivial⟩ [] 0 rfl ?_
 rintro ⟨i, qs, uu, w⟩ ⟨hi, hqs, hqd, hql, hqe, hqlen, hqa, hw⟩
 have hqel : ∀ j, j < qs.length → (qs.getD j []).length ≤ 1073741824 := fun j hj => by have h1 := hqe _ (getD_mem hj); omega
 refine GC.seq (GC.seq (GC.region ?_))
 refine G.stepD (OD.move rfl rfl) rfl rfl rfl ?_
 refine G.stepD (OD.fieldAddr rfl rfl fa28_0) rfl rfl rfl ?_
 refine G.stepD (OD.load rfl ti3 rfl (i := 2) rfl rfl) rfl rfl rfl ?_
 refine G.stepD (OD.lss rfl rfl rfl) rfl rfl rfl ?_
 refine G.nil (GE.then_ ?_)
 refine GC.cond rfl (fun hc5 => ?_) (fun hc5 => ?_)
 replace hc5 := of_decide_eq_true hc5
 have hYl : ((rfF cr cd (i : Int) (x.getD (k) [])).length : Int) = cr := by rw [rfF_len]; exact hxk
 refine GC.skip (GE.then_ (GC.seq (GC.block (GC.seq (GC.region ?_)))))
 refine G.stepD (OD.move rfl rfl) rfl rfl rfl ?_
 refine G.stepD (OD.move rfl rfl) rfl rfl rfl ?_
 refine G.stepD (OD.indexAddr rfl et26 rfl (Ent.drop 3 ex) rfl (by omega)) rfl rfl rfl ?_
 refine G.stepD (OD.loadElem rfl ti22 rfl (Ent.drop 3 ex) (by omega) rfl) rfl rfl rfl ?_
 refine G.stepD (OD.move rfl rfl) rfl rfl rfl ?_
 refine G.stepD (OD.indexAddr rfl et22 rfl (Ent.drop 3 (mx (k) (by omega))) rfl (by omega)) rfl rfl rfl ?_
 refine G.stepD (OD.loadInt rfl ti3 rfl (Ent.drop 3 (mx (k) (by omega))) (by omega)) rfl rfl rfl ?_
 refine G.stepD (OD.gtr rfl rfl rfl) rfl rfl rfl ?_
 refine G.nil (GE.then_ ?_)
 refine GC.cond rfl (fun hc6 => ?_) (fun hc6 => ?_)
 replace hc6 := of_decide_eq_true hc6
 rw [show ((i : Int)).toNat = i from rfl] at hc6
 rcases Bool.eq_false_or_eq_true (qs.contains (rfF cr cd (i : Int) (x.getD (k) []))) with hx7 | hx7
 refine GC.at [] 0 (env' := [(1, vx), (2, .pointer (some ⟨g1, 0, none⟩)), (6, .int .i64 ((k : Int))), (5, w), (7, .int .i64 ((i : Int)))]) ⟨rfl, rfl, rfl, rfl, rfl, trivial⟩ rfl ?_
 refine GC.late (σ := [0, 1, 2, 3, 4, 5, 6, 7, 8, 9, 11, 10, 12]) (L := [11]) (its := [⟨30, [], [], [], [], fun _ => w, fun _ => True, fun _ => []⟩,
     ⟨31, [], [], [], [], fun _ => .agg #[.int .i64 (cr), vcd], fun _ => True, fun _ => []⟩,
     ⟨32, [], [], [], [], fun _ => .int .i64 ((i : Int)), fun _ => True, fun _ => []⟩,
     ⟨33, [], [], [], [], fun _ => vx, fun _ => True, fun _ => []⟩,
     ⟨34, [], [], [], [], fun _ => .int .i64 ((k : Int)), fun _ => True, fun _ => []⟩,
     ⟨35, [(3, 33), (4, 34)], [], [], [], fun _ => elemPtr vx 1 (k), fun _ => True, fun _ => []⟩,
     ⟨36, [(5, 35)], [], [], [], fun _ => (ux.getD (k) undef), fun _ => True, fun _ => []⟩,
     ⟨37, [(1, 31), (2, 32), (6, 36)], [], [], [7], fun ds => ((ds.getD 0 []).getD 0 undef), fun ds => IsS ((ds.getD 0 []).getD 0 undef), fun ds => [ints 3 ((ds.getD 0 []).getD 0 undef) (rfF cr cd (i : Int) (x.getD (k) []))]⟩,
     ⟨38, [(0, 30), (7, 37)], [7], [], [7], fun _ => .tuple #[w, .bool false], fun _ => True, fun _ => []⟩,
     ⟨29, [(8, 38)], [7], [], [7], fun _ => .tuple #[w, .bool false], fun _ => True, fun _ => []⟩,
     ⟨40, [(9, 29)], [7], [], [7], fun _ => .bool false, fun _ => True, fun _ => []⟩,
     ⟨39, [(9, 29)], [7], [], [7], fun _ => w, fun _ => True, fun _ => []⟩]) (by kernel_rfl) (by repeat (first | refine PanQ.then_ ?_ | refine PanQ.block ?_ | exact PanQ.body)) (by kernel_rfl) ⟨⟨_, rfl, .inl rfl⟩, trivial⟩ (by kernel_rfl) (POps.cons ?_ (POps.cons ?_ (POps.cons ?_ (POps.cons ?_ (POps.cons ?_ (POps.cons ?_ (POps.cons ?_ (POps.cons ?_ (POps.cons ?_ (POps.cons ?_ (POps.cons ?_ (POps.cons ?_ POps.nil)))))))))))) ?_
 intro θ R hd
 exact Opp.plain (OG.imp (OD.move rfl rfl) (by rintro _ _ ⟨rfl, rfl⟩; exact ⟨[], rfl, trivial, rfl⟩)) rfl
 intro θ R hd
 exact Opp.plain (OG.imp (OD.loadAgg rfl ti28 rfl (i := 2) rfl (us := [.int .i64 (cr), vcd]) rfl rfl) (by rintro _ _ ⟨rfl, rfl⟩; exact ⟨[], rfl, trivial, rfl⟩)) rfl
 intro θ R hd
 exact Opp.plain (OG.imp (OD.move rfl rfl) (by rintro _ _ ⟨rfl, rfl⟩; exact ⟨[], rfl, trivial, rfl⟩)) rfl
 intro θ R hd
 exact Opp.plain (OG.imp (OD.move rfl rfl) (by rintro _ _ ⟨rfl, rfl⟩; exact ⟨[], rfl, trivial, rfl⟩)) rfl
 intro θ R hd
 exact Opp.plain (OG.imp (OD.move rfl rfl) (by rintro _ _ ⟨rfl, rfl⟩; exact ⟨[], rfl, trivial, rfl⟩)) rfl
 intro θ R hd
 obtain ⟨h3d, h4d, _⟩ := hd
 exact Opp.plain (OG.imp (OD.indexAddr rfl et26 rfl (Ent.drop 3 ex.app) rfl (by omega)) (by rintro _ _ ⟨rfl, rfl⟩; exact ⟨[], rfl, trivial, rfl⟩)) rfl
 intro θ R hd
 obtain ⟨h5d, _⟩ := hd
 exact Opp.plain (OG.imp (OD.loadElem rfl ti22 rfl (Ent.drop 3 ex.app) (by omega) rfl) (by rintro _ _ ⟨rfl, rfl⟩; exact ⟨[], rfl, trivial, rfl⟩)) rfl
 intro θ R hd
 obtain ⟨h1d, h2d, h6d, _⟩ := hd
 exact Opp.plain (OG.imp (OG.call [.agg #[.int .i64 (cr), vcd], .int .i64 ((i : Int)), (ux.getD (k) undef)] ent90 rfl rfl rfl rfl (by exact (l6Reflect_w scd (Ent.drop 3 ecd.app) (ax.get (by omega)) (Ent.drop 3 ((mx (k) (by omega)).app)) (hcr) (hcd) (by omega) (hxk)))) (by rintro v8 _ ⟨_, rfl, hs9, rfl⟩; exact ⟨[v8], rfl, hs9, rfl⟩)) rfl
 intro θ R hd
 obtain ⟨h0d, h7d, _⟩ := hd
 exact Opp.plain (OG.imp (OG.call [w, ((θ 7).getD 0 undef)] ent66 rfl rfl rfl rfl (by exact (l6Insert_old hw (Ent.len (Ent.lst (i := 2) rfl) (by omega)) (fun k hk => Ent.manyInts (i := 1) (k := k) rfl ⟨by omega, hk⟩) (by omega) hqa h7d (Ent.ints (i := 0) rfl) (by omega) (hqel) (by omega) (hqd) (hx7)))) (by rintro _ _ ⟨rfl, rfl⟩; exact ⟨[], rfl, trivial, rfl⟩)) rfl
 intro θ R hd
 obtain ⟨h8d, _⟩ := hd
 exact Opp.plain (OG.imp (OD.move rfl rfl) (by rintro _ _ ⟨rfl, rfl⟩; exact ⟨[], rfl, trivial, rfl⟩)) rfl
 intro θ R hd
 obtain ⟨h9d, _⟩ := hd
 exact Opp.plain (OG.imp (OD.extract rfl rfl rfl) (by rintro _ _ ⟨rfl, rfl⟩; exact ⟨[], rfl, trivial, rfl⟩)) rfl
 intro θ R hd
 obtain ⟨h9d, _⟩ := hd
 exact Opp.plain (OG.imp (OD.extract rfl rfl rfl) (by rintro _ _ ⟨rfl, rfl⟩; exact ⟨[], rfl, trivial, rfl⟩)) rfl
 intro θ hall
 obtain ⟨_, _, _, _, _, _, _, h7a, _, _, _, _, _⟩ := hall
 refine G.at [] 0 (env' := [(1, vx), (2, .pointer (some ⟨g1, 0, none⟩)), (6, .int .i64 ((k : Int))), (5, w), (7, .int .i64 ((i : Int))), (39, w)]) ⟨rfl, rfl, rfl, rfl, rfl, rfl, trivial⟩ (own' := ints 3 ((θ 7).getD 0 undef) (rfF cr cd (i : Int) (x.getD (k) [])) :: many (ints 3) uu qs :: lst 22 w uu :: box g1 28 [.int .i64 (cr), vcd] :: own) rfl ?_
 have hs10 : IsS ((θ 7).getD 0 undef) := h7a
 clear h7a
 generalize ((θ 7).getD 0 undef) = v11 at *
 show G _ _ _ [_] _ _ _ _
 refine G.stepD (OD.assign rfl rfl) rfl rfl rfl ?_
 refine G.nil (GE.blockN (GE.then_ (GC.region ?_)))
 refine G.stepD (OD.move rfl rfl) rfl rfl rfl ?_
 refine G.stepD (OD.addI rfl rfl rfl (by omega)) rfl rfl rfl ?_
 refine G.stepD (OD.assign rfl rfl) rfl rfl rfl ?_
 refine G.nil ?_
 exact GE.again (i + 1, qs, uu, w) (⟨by omega, fold_next hqs (lvOne_no (by omega) hx7), hqd, by omega, hqe, hqlen, hqa, hw⟩) (by first | omega | (dsimp only; omega)) ⟨rfl, rfl, rfl, rfl, rfl, trivial⟩ [1, 1, 1] 1 rfl
 refine GC.at [] 0 (env' := [(1, vx), (2, .pointer (some ⟨g1, 0, none⟩)), (6, .int .i64 ((k : Int))), (5, w), (7, .int .i64 ((i : Int)))]) ⟨rfl, rfl, rfl, rfl, rfl, trivial⟩ rfl ?_
 refine GC.late (σ := [0, 1, 2, 3, 4, 5, 6, 7, 8, 9, 11, 10, 12]) (L := [11]) (its := [⟨30, [], [], [], [], fun _ => w, fun _ => True, fun _ => []⟩,
     ⟨31, [], [], [], [], fun _ => .agg #[.int .i64 (cr), vcd], fun _ => True, fun _ => []⟩,
     ⟨32, [], [], [], [], fun _ => .int .i64 ((i : Int)), fun _ => True, fun _ => []⟩,
     ⟨33, [], [], [], [], fun _ => vx, fun _ => True, fun _ => []⟩,
     ⟨34, [], [], [], [], fun _ => .int .i64 ((k : Int)), fun _ => True, fun _ => []⟩,
     ⟨35, [(3, 33), (4, 34)], [], [], [], fun _ => elemPtr vx 1 (k), fun _ => True, fun _ => []⟩,
     ⟨36, [(5, 35)], [], [], [], fun _ => (ux.getD (k) undef), fun _ => True, fun _ => []⟩,
     ⟨37, [(1, 31), (2, 32), (6, 36)], [], [], [7], fun ds => ((ds.getD 0 []).getD 0 undef), fun ds => IsS ((ds.getD 0 []).getD 0 undef), fun ds => [ints 3 ((ds.getD 0 []).getD 0 undef) (rfF cr cd (i : Int) (x.getD (k) []))]⟩,
     ⟨38, [(0, 30), (7, 37)], [7], [], [7, 8], fun ds => .tuple #[((ds.getD 1 []).getD 0 undef), .bool true], fun ds => IsS ((ds.getD 1 []).getD 0 undef) ∧ AllS (uu.take (insA (rfF cr cd (i : Int) (x.getD (k) [])) qs) ++ [((ds.getD 0 []).getD 0 undef)] ++ uu.drop (insA (rfF cr cd (i : Int) (x.getD (k) [])) qs)), fun ds => [lst 22 ((ds.getD 1 []).getD 0 undef) (uu.take (insA (rfF cr cd (i : Int) (x.getD (k) [])) qs) ++ [((ds.getD 0 []).getD 0 undef)] ++ uu.drop (insA (rfF cr cd (i : Int) (x.getD (k) [])) qs))]⟩,
     ⟨29, [(8, 38)], [7, 8], [], [7, 8], fun ds => .tuple #[((ds.getD 1 []).getD 0 undef), .bool true], fun _ => True, fun _ => []⟩,
     ⟨40, [(9, 29)], [7, 8], [], [7, 8], fun _ => .bool true, fun _ => True, fun _ => []⟩,
     ⟨39, [(9, 29)], [7, 8], [], [7, 8], fun ds => ((ds.getD 1 []).getD 0 undef), fun _ => True, fun _ => []⟩]) (by kernel_rfl) (by repeat (first | refine PanQ.then_ ?_ | refine PanQ.block ?_ | exact PanQ.body)) (by kernel_rfl) ⟨⟨_, rfl, .inl rfl⟩, trivial⟩ (by kernel_rfl) (POps.cons ?_ (POps.cons ?_ (POps.cons ?_ (POps.cons ?_ (POps.cons ?_ (POps.cons ?_ (POps.cons ?_ (POps.cons ?_ (POps.cons ?_ (POps.cons ?_ (POps.cons ?_ (POps.cons ?_ POps.nil)))))))))))) ?_
 intro θ R hd
 exact Opp.plain (OG.imp (OD.move rfl rfl) (by rintro _ _ ⟨rfl, rfl⟩; exact ⟨[], rfl, trivial, rfl⟩)) rfl
 intro θ R hd
 exact Opp.plain (OG.imp (OD.loadAgg rfl ti28 rfl (i := 2) rfl (us := [.int .i64 (cr), vcd]) rfl rfl) (by rintro _ _ ⟨rfl, rfl⟩; exact ⟨[], rfl, trivial, rfl⟩)) rfl
 intro θ R hd
 exact Opp.plain (OG.imp (OD.move rfl rfl) (by rintro _ _ ⟨rfl, rfl⟩; exact ⟨[], rfl, trivial, rfl⟩)) rfl
 intro θ R hd
 exact Opp.plain (OG.imp (OD.move rfl rfl) (by rintro _ _ ⟨rfl, rfl⟩; exact ⟨[], rfl, trivial, rfl⟩)) rfl
 intro θ R hd
 exact Opp.plain (OG.imp (OD.move rfl rfl) (by rintro _ _ ⟨rfl, rfl⟩; exact ⟨[], rfl, trivial, rfl⟩)) rfl
 intro θ R hd
 obtain ⟨h3d, h4d, _⟩ := hd
 exact Opp.plain (OG.imp (OD.indexAddr rfl et26 rfl (Ent.drop 3 ex.app) rfl (by omega)) (by rintro _ _ ⟨rfl, rfl⟩; exact ⟨[], rfl, trivial, rfl⟩)) rfl
 intro θ R hd
 obtain ⟨h5d, _⟩ := hd
 exact Opp.plain (OG.imp (OD.loadElem rfl ti22 rfl (Ent.drop 3 ex.app) (by omega) rfl) (by rintro _ _ ⟨rfl, rfl⟩; exact ⟨[], rfl, trivial, rfl⟩)) rfl
 intro θ R hd
 obtain ⟨h1d, h2d, h6d, _⟩ := hd
 exact Opp.plain (OG.imp (OG.call [.agg #[.int .i64 (cr), vcd], .int .i64 ((i : Int)), (ux.getD (k) undef)] ent90 rfl rfl rfl rfl (by exact (l6Reflect_w scd (Ent.drop 3 ecd.app) (ax.get (by omega)) (Ent.drop 3 ((mx (k) (by omega)).app)) (hcr) (hcd) (by omega) (hxk)))) (by rintro v12 _ ⟨_, rfl, hs13, rfl⟩; exact ⟨[v12], rfl, hs13, rfl⟩)) rfl
 intro θ R hd
 obtain ⟨h0d, h7d, _⟩ := hd
 exact Opp.plain (OG.imp (OG.call [w, ((θ 7).getD 0 undef)] ent66 rfl rfl rfl rfl (by exact (l6Insert_new hw (Ent.len (Ent.lst (i := 2) rfl) (by omega)) (fun k hk => Ent.manyInts (i := 1) (k := k) rfl ⟨by omega, hk⟩) (by omega) hqa h7d (Ent.ints (i := 0) rfl) (by omega) (hqel) (by omega) (hqd) (hx7)))) (by rintro _ _ ⟨v14, rfl, hs15, hs16, rfl⟩; exact ⟨[v14], rfl, ⟨hs15, hs16⟩, rfl⟩)) rfl
 intro θ R hd
 obtain ⟨h8d, _⟩ := hd
 exact Opp.plain (OG.imp (OD.move rfl rfl) (by rintro _ _ ⟨rfl, rfl⟩; exact ⟨[], rfl, trivial, rfl⟩)) rfl
 intro θ R hd
 obtain ⟨h9d, _⟩ := hd
 exact Opp.plain (OG.imp (OD.extract rfl rfl rfl) (by rintro _ _ ⟨rfl, rfl⟩; exact ⟨[], rfl, trivial, rfl⟩)) rfl
 intro θ R hd
 obtain ⟨h9d, _⟩ := hd
 exact Opp.plain (OG.imp (OD.extract rfl rfl rfl) (by rintro _ _ ⟨rfl, rfl⟩; exact ⟨[], rfl, trivial, rfl⟩)) rfl
 intro θ hall
 obtain ⟨_, _, _, _, _, _, _, h7a, h8a, _, _, _, _⟩ := hall
 refine G.at [] 0 (env' := [(1, vx), (2, .pointer (some ⟨g1, 0, none⟩)), (6, .int .i64 ((k : Int))), (5, w), (7, .int .i64 ((i : Int))), (39, ((θ 8).getD 0 undef))]) ⟨rfl, rfl, rfl, rfl, rfl, rfl, trivial⟩ (own' := ints 3 ((θ 7).getD 0 undef) (rfF cr cd (i : Int) (x.getD (k) [])) :: lst 22 ((θ 8).getD 0 undef) (uu.take (insA (rfF cr cd (i : Int) (x.getD (k) [])) qs) ++ [((θ 7).getD 0 undef)] ++ uu.drop (insA (rfF cr cd (i : Int) (x.getD (k) [])) qs)) :: many (ints 3) uu qs :: lst 22 w uu :: box g1 28 [.int .i64 (cr), vcd] :: own) rfl ?_
 have hs17 : IsS ((θ 7).getD 0 undef) := h7a
 clear h7a
 have hs19 : IsS ((θ 8).getD 0 undef) := h8a.1
 have hs20 : AllS (uu.take (insA (rfF cr cd (i : Int) (x.getD (k) [])) qs) ++ [((θ 7).getD 0 undef)] ++ uu.drop (insA (rfF cr cd (i : Int) (x.getD (k) [])) qs)) := h8a.2
 clear h8a
 generalize ((θ 7).getD 0 undef) = v18 at *
 generalize ((θ 8).getD 0 undef) = v21 at *
 show G _ _ _ [_] _ _ _ _
 refine G.stepD (OD.assign rfl rfl) rfl rfl rfl ?_
 refine G.nil (GE.blockN (GE.then_ (GC.region ?_)))
 refine G.stepD (OD.move rfl rfl) rfl rfl rfl ?_
 refine G.stepD (OD.addI rfl rfl rfl (by omega)) rfl rfl rfl ?_
 refine G.stepD (OD.assign rfl rfl) rfl rfl rfl ?_
 refine G.nil ?_
 refine GE.at [0, 1, 0, 0, 0] 0 (env' := [(1, vx), (2, .pointer (some ⟨g1, 0, none⟩)), (6, .int .i64 ((k : Int))), (39, v21), (5, v21), (19, .int .i64 ((i : Int))), (20, .int .i64 ((i : Int) + 1)), (7, .int .i64 ((i : Int) + 1))]) ⟨rfl, rfl, rfl, rfl, rfl, rfl, rfl, rfl, trivial⟩ (own' := ints 3 v18 (rfF cr cd (i : Int) (x.getD (k) [])) :: many (ints 3) uu qs :: lst 22 v21 (uu.take (insA (rfF cr cd (i : Int) (x.getD (k) [])) qs) ++ [v18] ++ uu.drop (insA (rfF cr cd (i : Int) (x.getD (k) [])) qs)) :: lst 22 w uu :: box g1 28 [.int .i64 (cr), vcd] :: own) rfl ?_
 refine GE.manyIns (insA (rfF cr cd (i : Int) (x.getD (k) [])) qs) hqlen ?_
 exact GE.again (i + 1, insD qs (rfF cr cd (i : Int) (x.getD (k) [])), uu.take (insA (rfF cr cd (i : Int) (x.getD (k) [])) qs) ++ [v18] ++ uu.drop (insA (rfF cr cd (i : Int) (x.getD (k) [])) qs), v21) (⟨by omega, fold_next hqs (lvOne_yes (by omega) hx7), insD_desc hqd hx7, by rw [insD_len]; omega, insD_ent hqe hYl, by rw [insD_len]; have h1 := insA_le (rfF cr cd (i : Int) (x.getD (k) [])) qs; simp only [List.length_append, List.length_take, List.length_drop, List.length_singleton]; omega, hs20, hs19⟩) (by first | omega | (dsimp only; omega)) ⟨rfl, rfl, rfl, rfl, rfl, trivial⟩ [0, 0, 1] 1 rfl
 replace hc6 := of_decide_eq_false hc6
 rw [show ((i : Int)).toNat = i from rfl] at hc6
 refine GC.skip (GE.blockN (GE.then_ (GC.region ?_)))
 refine G.stepD (OD.move rfl rfl) rfl rfl rfl ?_
 refine G.stepD (OD.addI rfl rfl rfl (by omega)) rfl rfl rfl ?_
 refine G.stepD (OD.assign rfl rfl) rfl rfl rfl ?_
 refine G.nil ?_
 exact GE.again (i + 1, qs, uu, w) (⟨by omega, fold_next hqs (lvOne_skip (by omega)), hqd, by omega, hqe, hqlen, hqa, hw⟩) (by first | omega | (dsimp only; omega)) ⟨rfl, rfl, rfl, rfl, rfl, trivial⟩ [] 0 rfl
 replace hc5 := of_decide_eq_false hc5
 refine GC.exit (GE.pass (GE.pass (GE.hit (GE.blockN (GE.then_ (GC.region ?_))))))
 refine G.stepD (OD.move rfl rfl) rfl rfl rfl ?_
 refine G.stepD (OD.addI rfl rfl rfl (by omega)) rfl rfl rfl ?_
 refine G.stepD (OD.assign rfl rfl) rfl rfl rfl ?_
 refine G.nil ?_
 exact GE.again (k + 1, qs, uu, w) (⟨by omega, by rw [lv_next hkx, ← hL, hqs, show i = cr.toNat by omega], hqd, by omega, hqe, hqlen, hqa, hw⟩) (by first | omega | (dsimp only; omega)) ⟨rfl, rfl, rfl, rfl, trivial⟩ [] 0 rfl
 replace hc4 := of_decide_eq_false hc4
 refine GC.exit (GE.pass (GE.pass (GE.hit (GE.then_ (GC.seq (GC.region ?_))))))
 refine G.stepD (OD.move rfl rfl) rfl rfl rfl ?_
 refine G.stepD (OD.assign rfl rfl) rfl rfl rfl ?_
 refine G.nil (GE.then_ (GC.ret ?_))
 exact GE.body [1, 0] 1 (res1 rfl rfl) rfl (⟨v, us, rfl, hv, ha, (by rw [show lvNext cr cd x = L from by rw [hL, List.take_of_length_le (by omega)]; rfl]; exact hul), congrArg (fun (l0 : List (List Int)) => lst 22 v us :: many (ints 3) us l0 :: own) ((by rw [hL, List.take_of_length_le (by omega)]; rfl : L = lvNext cr cd x))⟩)
set_option maxHeartbeats 4000000 in
set_option maxRecDepth 100000 in
theorem l6Levels_w {W : World} {own : List Asn} {cr : Int} {vcd : Value} {cd : List Int}  (scd : IsS vcd) (ecd : Ent own fun w => Ints w vcd cd)  (hcr : 1 ≤ cr ∧ cr ≤ 4) (hcd : (cd.length : Int) = cr * cr) (hty : (tyS cr cd).isSome = true) : Spec Tryz.prog 60 [.agg #[.int .i64 (cr), vcd]] W own (fun v ow => ∃ (r0 : Value) (u0 : List Value), v = r0 ∧ IsS r0 ∧ AllS u0 ∧ lvU cr cd u0 ∧ ow = lst 26 r0 u0 :: own) := by
 have hW := wlOk hty
 refine Spec.enter Tryz.f60 _ Tryz.func60 rfl (n := 25) rfl rfl ?_
 refine GC.seq (GC.region ?_)
 refine G.step (OG.box (cs := [.int .i64 (cr), vcd]) rfl rfl rfl) rfl rfl rfl ?_
 rintro _ _ ⟨g1, rfl, rfl⟩
 refine G.stepD (OD.assign rfl rfl) rfl rfl rfl ?_
 refine G.nil (GE.then_ (GC.seq (GC.region ?_)))
 refine G.stepD (OD.loadAgg rfl ti28 rfl (i := 0) rfl (us := [.int .i64 (cr), vcd]) rfl rfl) rfl rfl rfl ?_
 refine G.step (OG.call [.agg #[.int .i64 (cr), vcd]] ent95 rfl rfl rfl rfl (by exact (l6Rho_w scd (Ent.drop 1 ecd) (hcr)))) rfl rfl rfl ?_
 rintro v2 _ ⟨_, rfl, hs3, rfl⟩
 refine G.step (OG.buildLst (xs := [.tmp 6]) (us := [v2]) rfl et26 rfl rfl rfl (allC (IsS.one hs3) rfl) rfl) rfl rfl rfl ?_
 rintro v4 _ ⟨hs5, rfl⟩
 refine G.step (OG.buildLst (xs := [.tmp 7]) (us := [v4]) rfl et59 rfl rfl rfl (allC (IsS.one hs5) rfl) rfl) rfl rfl rfl ?_
 rintro v6 _ ⟨hs7, rfl⟩
 refine G.stepD (OD.assign rfl rfl) rfl rfl rfl ?_
 refine G.nil (GE.then_ (GC.block ?_))
 refine GC.many0 (ints 3) ?_
 refine GC.at [3, 0, 0, 0, 0] 0 (env' := [(0, .agg #[.int .i64 (cr), vcd]), (1, .pointer (some ⟨g1, 0, none⟩)), (2, .slice none 0 0), (5, .agg #[.int .i64 (cr), vcd]), (6, v2), (7, v4), (8, v6), (3, v6)]) ⟨rfl, rfl, rfl, rfl, rfl, rfl, rfl, rfl, trivial⟩ (own' := ints 3 v2 (ones cr 1) :: many (ints 3) [] [] :: lst 26 v6 [v4] :: lst 22 v4 [v2] :: box g1 28 [.int .i64 (cr), vcd] :: own) rfl ?_
 refine GC.manyPush (A := ints 3) (vs := []) (xs := []) rfl ?_
 refine GC.fact (slen_own (i := 2) rfl rfl) fun hsz => ?_
 refine GC.loop (ι := Nat × Value × List Value × List Value) (fun ⟨j, vo, uo, us⟩ => [(1, .pointer (some ⟨g1, 0, none⟩)), (3, vo)]) (fun ⟨j, vo, uo, us⟩ => many (ints 3) us (lvAt cr cd j) :: lst 26 vo uo :: lst 22 (uo.getD (j) undef) us :: box g1 28 [.int .i64 (cr), vcd] :: own) (fun ⟨j, vo, uo, us⟩ => (∀ q, q ≤ j → lvAt cr cd q ≠ []) ∧ (uo.length = j + 1) ∧ (AllS uo) ∧ (IsS vo) ∧ (AllS us) ∧ (us.length = (lvAt cr cd j).length) ∧ (∀ q, q < j + 1 → slenV (uo.getD q undef) = (lvAt cr cd q).length)) (fun ⟨j, vo, uo, us⟩ => 25 - j) (0, v6, [v4], [v2]) (⟨fun q hq => by rw [show q = 0 by omega, lvAt]; simp, rfl, (AllS.snoc AllS.nil hs5), hs7, (AllS.snoc AllS.nil hs3), rfl, fun q hq => by rw [show q = 0 by omega]; exact hsz⟩) ⟨rfl, rfl, trivial⟩ [] 0 rfl ?_
 rintro ⟨j, vo, uo, us⟩ ⟨hne, hul, hao, hvo, has, husl, hsl⟩
 have hj24 := hW.short (hne j (Nat.le_refl j))
 have hll := hW.levLen j
 refine GC.block (GC.seq ?_)
 refine GC.at [] 0 (env' := [(1, .pointer (some ⟨g1, 0, none⟩)), (3, vo)]) ⟨rfl, rfl, trivial⟩ rfl ?_
 refine GC.par (its := [⟨9, [], [], [], [], fun _ => .agg #[.int .i64 (cr), vcd], fun _ => True, fun _ => []⟩,
     ⟨10, [], [], [], [], fun _ => vo, fun _ => True, fun _ => []⟩,
     ⟨11, [], [], [], [], fun _ => vo, fun _ => True, fun _ => []⟩,
     ⟨12, [(2, 11)], [], [], [], fun _ => .int .i64 ((uo.length : Nat)), fun _ => True, fun _ => []⟩,
     ⟨13, [(3, 12)], [], [], [], fun _ => .int .i64 ((j : Int)), fun _ => True, fun _ => []⟩,
     ⟨14, [(1, 10), (4, 13)], [], [], [], fun _ => elemPtr vo 1 (j), fun _ => True, fun _ => []⟩,
     ⟨15, [(5, 14)], [], [], [], fun _ => (uo.getD (j) undef), fun _ => True, fun _ => []⟩,
     ⟨16, [(0, 9), (6, 15)], [], [], [7], fun ds => ((ds.getD 0 []).getD 0 undef), fun ds => IsS ((ds.getD 0 []).getD 0 undef) ∧ AllS (usOf ((ds.getD 0 []).getD 1 undef)) ∧ (usOf ((ds.getD 0 []).getD 1 undef)).length = (lvNext cr cd (lvAt cr cd j)).length, fun ds => [lst 22 ((ds.getD 0 []).getD 0 undef) (usOf ((ds.getD 0 []).getD 1 undef)), many (ints 3) (usOf ((ds.getD 0 []).getD 1 undef)) (lvNext cr cd (lvAt cr cd j))]⟩]) (by kernel_rfl) (by kernel_rfl) (POps.cons ?_ (POps.cons ?_ (POps.cons ?_ (POps.cons ?_ (POps.cons ?_ (POps.cons ?_ (POps.cons ?_ (POps.cons ?_ POps.nil)))))))) ?_
 intro θ R hd
 exact Opp.plain (OG.imp (OD.loadAgg rfl ti28 rfl (i := 3) rfl (us := [.int .i64 (cr), vcd]) rfl rfl) (by rintro _ _ ⟨rfl, rfl⟩; exact ⟨[], rfl, trivial, rfl⟩)) rfl
 intro θ R hd
 exact Opp.plain (OG.imp (OD.move rfl rfl) (by rintro _ _ ⟨rfl, rfl⟩; exact ⟨[], rfl, trivial, rfl⟩)) rfl
 intro θ R hd
 exact Opp.plain (OG.imp (OD.move rfl rfl) (by rintro _ _ ⟨rfl, rfl⟩; exact ⟨[], rfl, trivial, rfl⟩)) rfl
 intro θ R hd
 obtain ⟨h2d, _⟩ := hd
 exact Opp.plain (OG.imp (OD.len rfl rfl et59 rfl (Ent.lst (i := 1) rfl)) (by rintro _ _ ⟨rfl, rfl⟩; exact ⟨[], rfl, trivial, rfl⟩)) rfl
 intro θ R hd
 obtain ⟨h3d, _⟩ := hd
 exact Opp.plain (OG.imp (OD.eqv (OD.subI rfl rfl rfl (by omega)) (congrArg (Value.int .i64) ((by omega) : ((uo.length : Nat) - 1 : Int) = ((j : Int))))) (by rintro _ _ ⟨rfl, rfl⟩; exact ⟨[], rfl, trivial, rfl⟩)) rfl
 intro θ R hd
 obtain ⟨h1d, h4d, _⟩ := hd
 exact Opp.plain (OG.imp (OD.indexAddr rfl et59 rfl (Ent.lst (i := 1) rfl) rfl (by omega)) (by rintro _ _ ⟨rfl, rfl⟩; exact ⟨[], rfl, trivial, rfl⟩)) rfl
 intro θ R hd
 obtain ⟨h5d, _⟩ := hd
 exact Opp.plain (OG.imp (OD.loadElem rfl ti26 rfl (Ent.lst (i := 1) rfl) (by omega) rfl) (by rintro _ _ ⟨rfl, rfl⟩; exact ⟨[], rfl, trivial, rfl⟩)) rfl
 intro θ R hd
 obtain ⟨h0d, h6d, _⟩ := hd
 exact Opp.plain (OG.imp (OG.call [.agg #[.int .i64 (cr), vcd], (uo.getD (j) undef)] ent96 rfl rfl rfl rfl (by exact (l6Level_w scd (Ent.drop 4 ecd.app) (hao.get (by omega)) (Ent.len (Ent.lst (i := 2) rfl) (by omega)) (fun k hk => Ent.manyInts (i := 0) (k := k) rfl ⟨by omega, hk⟩) (by omega) has (hcr) (hcd) (by omega) (fun y hy => by have h1 := hW.levEnt hy; omega)))) (by rintro v8 _ ⟨_, u9, rfl, hs10, hs11, hs12, rfl⟩; exact ⟨[v8, .agg u9.toArray], rfl, ⟨hs10, hs11, hs12⟩, rfl⟩)) rfl
 intro θ hall
 obtain ⟨_, _, _, _, _, _, _, h7a, _⟩ := hall
 refine G.at [] 0 (env' := [(1, .pointer (some ⟨g1, 0, none⟩)), (3, vo), (16, ((θ 7).getD 0 undef))]) ⟨rfl, rfl, rfl, trivial⟩ (own' := lst 22 ((θ 7).getD 0 undef) (usOf ((θ 7).getD 1 undef)) :: many (ints 3) (usOf ((θ 7).getD 1 undef)) (lvNext cr cd (lvAt cr cd j)) :: many (ints 3) us (lvAt cr cd j) :: lst 26 vo uo :: lst 22 (uo.getD (j) undef) us :: box g1 28 [.int .i64 (cr), vcd] :: own) rfl ?_
 have hs13 : IsS ((θ 7).getD 0 undef) := h7a.1
 have hs14 : AllS (usOf ((θ 7).getD 1 undef)) := h7a.2.1
 have hs15 : (usOf ((θ 7).getD 1 undef)).length = (lvNext cr cd (lvAt cr cd j)).length := h7a.2.2
 clear h7a
 generalize ((θ 7).getD 0 undef) = v16 at *
 generalize (usOf ((θ 7).getD 1 undef)) = u17 at *
 show G _ _ _ [_] _ _ _ _
 refine G.stepD (OD.assign rfl rfl) rfl rfl rfl ?_
 refine G.nil (GE.then_ (GC.seq (GC.seq (GC.region ?_))))
 refine G.stepD (OD.move rfl rfl) rfl rfl rfl ?_
 refine G.stepD (OD.len rfl rfl et26 rfl (Ent.lst (i := 0) rfl)) rfl rfl rfl ?_
 refine G.stepD (OD.eql rfl rfl rfl) rfl rfl rfl ?_
 refine G.nil (GE.then_ ?_)
 refine GC.cond rfl (fun hc18 => ?_) (fun hc18 => ?_)
 replace hc18 := eq_of_beq hc18
 refine GC.seq (GC.region ?_)
 refine G.stepD (OD.move rfl rfl) rfl rfl rfl ?_
 refine G.stepD (OD.assign rfl rfl) rfl rfl rfl ?_
 refine G.nil (GE.then_ (GC.ret (GE.passR (GE.blockR (GE.passR (GE.blockR ?_))))))
 exact GE.body [3] 5 (res1 rfl rfl) rfl (⟨vo, uo, rfl, hvo, hao, (lvU_of hul hj24 hsl hne (by omega)), rfl⟩)
 replace hc18 := ne_of_beq_false hc18
 refine GC.skip (GE.then_ (GC.region ?_))
 refine G.stepD (OD.move rfl rfl) rfl rfl rfl ?_
 refine G.stepD (OD.move rfl rfl) rfl rfl rfl ?_
 refine G.step (OG.buildLst (xs := [.tmp 22]) (us := [v16]) rfl et59 rfl rfl rfl (allC (IsS.one hs13) rfl) rfl) rfl rfl rfl ?_
 rintro v19 _ ⟨hs20, rfl⟩
 refine G.step (OG.appendLst 4 rfl rfl et59 rfl rfl rfl (Ent.lst (i := 0) rfl) (List.all_eq_true.2 fun u hu => by simpa using (AllS.snoc AllS.nil hs13).one u hu) (by simp [maxLen] <;> omega)) rfl rfl rfl ?_
 rintro v21 _ ⟨hs22, rfl⟩
 refine G.stepD (OD.assign rfl rfl) rfl rfl rfl ?_
 refine G.nil (GE.blockN ?_)
 refine GE.fact (slen_own (i := 1) rfl rfl) fun hsz => ?_
 refine GE.ownEq (own' := lst 26 v19 [v16] :: lst 22 ((uo ++ [v16]).getD (j + 1) undef) u17 :: many (ints 3) u17 (lvAt cr cd (j + 1)) :: many (ints 3) us (lvAt cr cd j) :: lst 26 v21 (uo ++ [v16]) :: lst 22 (uo.getD (j) undef) us :: box g1 28 [.int .i64 (cr), vcd] :: own) (by rw [getD_snoc hul]; rfl) ?_
 exact GE.again (j + 1, v21, uo ++ [v16], u17) (⟨lv_ne_next hne (by omega), by rw [List.length_append, hul]; rfl, (hao.snoc hs13), hs22, hs14, by show _ = (lvNext cr cd (lvAt cr cd j)).length; omega, lv_sl_next hul hsl (by omega)⟩) (by first | omega | (dsimp only; omega)) ⟨rfl, rfl, trivial⟩ [2, 3, 1, 3] 3 rfl
end Go.Proofs.YtmckgdekblphoaaGreatDoor
namespace Go.Proofs.YtmckgdekblphoaaGreatDoor
set_option linter.unusedVariables false
set_option linter.unusedSimpArgs false
open Go.RowKit
end Go.Proofs.YtmckgdekblphoaaGreatDoor
namespace Go.Proofs.YtmckgdekblphoaaGreatDoor
set_option linter.unusedVariables false
set_option linter.unusedSimpArgs false
open Go.RowKit
end Go.Proofs.YtmckgdekblphoaaGreatDoor
