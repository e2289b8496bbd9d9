/-
  Normal words: contracts by walks.
-/
import Derived.Test.YtgelkakjmbiibaaGreatDoorFct
import Derived.Test.YtgelkakjmbiibaaGreatDoorWClb
import Derived.Test.YtgelkakjmbiibaaGreatDoorWAct
namespace Go.Proofs.YtgelkakjmbiibaaGreatDoor
set_option linter.unusedVariables false
set_option linter.unusedSimpArgs false
open Go.RowKit
theorem ent60 : ∀ us w, (callFunc 60 us).run Tryz.prog w = .ok (.enter 60 us) w := fun us w => by kernel_rfl
theorem ent61 : ∀ us w, (callFunc 61 us).run Tryz.prog w = .ok (.enter 61 us) w := fun us w => by kernel_rfl
theorem ent62 : ∀ us w, (callFunc 62 us).run Tryz.prog w = .ok (.enter 62 us) w := fun us w => by kernel_rfl
theorem ent63 : ∀ us w, (callFunc 63 us).run Tryz.prog w = .ok (.enter 63 us) w := fun us w => by kernel_rfl
theorem ent75 : ∀ us w, (callFunc 75 us).run Tryz.prog w = .ok (.enter 75 us) w := fun us w => by kernel_rfl
theorem ent77 : ∀ us w, (callFunc 77 us).run Tryz.prog w = .ok (.enter 77 us) w := fun us w => by kernel_rfl
set_option maxHeartbeats 4000000 in
set_option maxRecDepth 100000 in
theorem sameElement_w {W : World} {own : List Asn} {cr : Int} {vcd : Value} {cd : List Int} {vx : Value} {x : List Int} {vy : Value} {y : List Int}  (scd : IsS vcd) (ecd : Ent own fun w => Ints w vcd cd)   (sx : IsS vx) (ex : Ent own fun w => Ints w vx x)   (sy : IsS vy) (ey : Ent own fun w => Ints w vy y)  (hl0 : cd.length ≤ 1073741824) (hl : x.length ≤ 1073741824) (hly : y.length ≤ 1073741824) (hg : Ent own fun w => ∃ m, w.cell? ⟨Tryz.l146_ren.g 1, 0, none⟩ = some (.int .i64 m)) : Spec Tryz.prog 23 [.agg #[.int .i64 (cr), vcd], vx, vy] W own (fun v ow => v = .bool (seB cr cd x y) ∧ ow = own) := by
 refine Spec.enter Tryz.f23 _ Tryz.func23 rfl (n := 28) rfl rfl ?_
 refine GC.seq (GC.region ?_)
 refine G.step (OG.box (cs := [.int .i64 (cr), vcd]) rfl rfl rfl) rfl rfl rfl ?_
 rintro _ _ ⟨g1, rfl, rfl⟩
 refine G.stepD (OD.assign rfl rfl) rfl rfl rfl ?_
 refine G.nil (GE.then_ (GC.seq ?_))
 rcases Bool.eq_false_or_eq_true (wordB cr cd x) with hg2 | hg2
 rcases Bool.eq_false_or_eq_true (wordB cr cd y) with hg3 | hg3
 refine GC.at [] 0 (env' := [(1, vx), (2, vy), (3, .pointer (some ⟨g1, 0, none⟩)), (6, .bool false)]) ⟨rfl, rfl, rfl, rfl, trivial⟩ rfl ?_
 refine GC.par (its := [⟨7, [], [], [], [], fun _ => .agg #[.int .i64 (cr), vcd], fun _ => True, fun _ => []⟩,
     ⟨8, [], [], [], [], fun _ => vx, fun _ => True, fun _ => []⟩,
     ⟨9, [(0, 7), (1, 8)], [], [], [], fun _ => .bool true, fun _ => True, fun _ => []⟩,
     ⟨10, [(2, 9)], [], [], [], fun _ => .bool true, fun _ => True, fun _ => []⟩,
     ⟨11, [(3, 10)], [], [], [], fun _ => .agg #[.int .i64 (cr), vcd], fun _ => True, fun _ => []⟩,
     ⟨12, [(3, 10)], [], [], [], fun _ => vy, fun _ => True, fun _ => []⟩,
     ⟨13, [(3, 10), (4, 11), (5, 12)], [], [], [], fun _ => .bool true, fun _ => True, fun _ => []⟩,
     ⟨14, [(3, 10), (6, 13)], [], [], [], fun _ => .bool true, fun _ => True, fun _ => []⟩,
     ⟨15, [(7, 14)], [], [], [], fun _ => .bool true, fun _ => True, fun _ => []⟩,
     ⟨16, [(8, 15)], [], [], [], fun _ => .agg #[.int .i64 (cr), vcd], fun _ => True, fun _ => []⟩,
     ⟨17, [(8, 15)], [], [], [], fun _ => vx, fun _ => True, fun _ => []⟩,
     ⟨18, [(8, 15)], [], [], [], fun _ => .agg #[.int .i64 (cr), vcd], fun _ => True, fun _ => []⟩,
     ⟨19, [(8, 15), (11, 18)], [], [], [12], fun ds => ((ds.getD 0 []).getD 0 undef), fun ds => IsS ((ds.getD 0 []).getD 0 undef), fun ds => [ints 3 ((ds.getD 0 []).getD 0 undef) (ones cr 1)]⟩,
     ⟨20, [(8, 15), (9, 16), (10, 17), (12, 19)], [12], [], [12, 13], fun ds => ((ds.getD 1 []).getD 0 undef), fun ds => IsS ((ds.getD 1 []).getD 0 undef), fun ds => [ints 3 ((ds.getD 1 []).getD 0 undef) (actF cr cd x (ones cr 1))]⟩,
     ⟨21, [(8, 15)], [], [], [], fun _ => .agg #[.int .i64 (cr), vcd], fun _ => True, fun _ => []⟩,
     ⟨22, [(8, 15)], [], [], [], fun _ => vy, fun _ => True, fun _ => []⟩,
     ⟨23, [(8, 15)], [], [], [], fun _ => .agg #[.int .i64 (cr), vcd], fun _ => True, fun _ => []⟩,
     ⟨24, [(8, 15), (16, 23)], [], [], [17], fun ds => ((ds.getD 0 []).getD 0 undef), fun ds => IsS ((ds.getD 0 []).getD 0 undef), fun ds => [ints 3 ((ds.getD 0 []).getD 0 undef) (ones cr 1)]⟩,
     ⟨25, [(8, 15), (14, 21), (15, 22), (17, 24)], [17], [], [17, 18], fun ds => ((ds.getD 1 []).getD 0 undef), fun ds => IsS ((ds.getD 1 []).getD 0 undef), fun ds => [ints 3 ((ds.getD 1 []).getD 0 undef) (actF cr cd y (ones cr 1))]⟩,
     ⟨26, [(8, 15), (13, 20), (18, 25)], [12, 13, 17, 18], [], [12, 13, 17, 18], fun _ => .bool (samB (actF cr cd x (ones cr 1)) (actF cr cd y (ones cr 1))), fun _ => True, fun _ => []⟩,
     ⟨27, [(8, 15), (19, 26)], [12, 13, 17, 18], [], [12, 13, 17, 18], fun _ => .bool (samB (actF cr cd x (ones cr 1)) (actF cr cd y (ones cr 1))), fun _ => True, fun _ => []⟩]) (by kernel_rfl) (by kernel_rfl) (POps.cons ?_ (POps.cons ?_ (POps.cons ?_ (POps.cons ?_ (POps.cons ?_ (POps.cons ?_ (POps.cons ?_ (POps.cons ?_ (POps.cons ?_ (POps.cons ?_ (POps.cons ?_ (POps.cons ?_ (POps.cons ?_ (POps.cons ?_ (POps.cons ?_ (POps.cons ?_ (POps.cons ?_ (POps.cons ?_ (POps.cons ?_ (POps.cons ?_ (POps.cons ?_ POps.nil))))))))))))))))))))) ?_
 intro θ R hd
 exact Opp.plain (OG.imp (OD.loadAgg rfl ti27 rfl (i := 0) rfl (us := [.int .i64 (cr), vcd]) rfl rfl) (by rintro _ _ ⟨rfl, rfl⟩; exact ⟨[], rfl, trivial, rfl⟩)) rfl
 intro θ R hd
 exact Opp.plain (OG.imp (OD.move rfl rfl) (by rintro _ _ ⟨rfl, rfl⟩; exact ⟨[], rfl, trivial, rfl⟩)) rfl
 intro θ R hd
 obtain ⟨h0d, h1d, _⟩ := hd
 exact Opp.plain (OG.imp (OG.imp (K' := fun v ow => v = .bool true ∧ ow = box g1 27 [.int .i64 (cr), vcd] :: own ++ R) (OG.call [.agg #[.int .i64 (cr), vcd], vx] ent60 rfl rfl rfl rfl (by exact (wordOk_w scd (Ent.drop 1 ecd.app) sx (Ent.drop 1 ex.app) (hl0) (by omega) ((Ent.drop 1 hg.app))))) (by rintro _ _ ⟨rfl, rfl⟩; exact ⟨congrArg Value.bool (hg2), rfl⟩)) (by rintro _ _ ⟨rfl, rfl⟩; exact ⟨[], rfl, trivial, rfl⟩)) rfl
 intro θ R hd
 obtain ⟨h2d, _⟩ := hd
 exact Opp.plain (OG.imp (OD.move rfl rfl) (by rintro _ _ ⟨rfl, rfl⟩; exact ⟨[], rfl, trivial, rfl⟩)) rfl
 intro θ R hd
 obtain ⟨h3d, _⟩ := hd
 exact Opp.on (OG.imp (OD.loadAgg rfl ti27 rfl (i := 0) rfl (us := [.int .i64 (cr), vcd]) rfl rfl) (by rintro _ _ ⟨rfl, rfl⟩; exact ⟨[], rfl, trivial, rfl⟩)) rfl rfl rfl
 intro θ R hd
 obtain ⟨h3d, _⟩ := hd
 exact Opp.on (OG.imp (OD.move rfl rfl) (by rintro _ _ ⟨rfl, rfl⟩; exact ⟨[], rfl, trivial, rfl⟩)) rfl rfl rfl
 intro θ R hd
 obtain ⟨h3d, h4d, h5d, _⟩ := hd
 exact Opp.on (OG.imp (OG.imp (K' := fun v ow => v = .bool true ∧ ow = box g1 27 [.int .i64 (cr), vcd] :: own ++ R) (OG.call [.agg #[.int .i64 (cr), vcd], vy] ent60 rfl rfl rfl rfl (by exact (wordOk_w scd (Ent.drop 1 ecd.app) sy (Ent.drop 1 ey.app) (hl0) (by omega) ((Ent.drop 1 hg.app))))) (by rintro _ _ ⟨rfl, rfl⟩; exact ⟨congrArg Value.bool (hg3), rfl⟩)) (by rintro _ _ ⟨rfl, rfl⟩; exact ⟨[], rfl, trivial, rfl⟩)) rfl rfl rfl
 intro θ R hd
 obtain ⟨h3d, h6d, _⟩ := hd
 exact Opp.plain (OG.imp (OD.pickT rfl rfl rfl) (by rintro _ _ ⟨rfl, rfl⟩; exact ⟨[], rfl, trivial, rfl⟩)) rfl
 intro θ R hd
 obtain ⟨h7d, _⟩ := hd
 exact Opp.plain (OG.imp (OD.move rfl rfl) (by rintro _ _ ⟨rfl, rfl⟩; exact ⟨[], rfl, trivial, rfl⟩)) rfl
 intro θ R hd
 obtain ⟨h8d, _⟩ := hd
 exact Opp.on (OG.imp (OD.loadAgg rfl ti27 rfl (i := 0) rfl (us := [.int .i64 (cr), vcd]) rfl rfl) (by rintro _ _ ⟨rfl, rfl⟩; exact ⟨[], rfl, trivial, rfl⟩)) rfl rfl rfl
 intro θ R hd
 obtain ⟨h8d, _⟩ := hd
 exact Opp.on (OG.imp (OD.move rfl rfl) (by rintro _ _ ⟨rfl, rfl⟩; exact ⟨[], rfl, trivial, rfl⟩)) rfl rfl rfl
 intro θ R hd
 obtain ⟨h8d, _⟩ := hd
 exact Opp.on (OG.imp (OD.loadAgg rfl ti27 rfl (i := 0) rfl (us := [.int .i64 (cr), vcd]) rfl rfl) (by rintro _ _ ⟨rfl, rfl⟩; exact ⟨[], rfl, trivial, rfl⟩)) rfl rfl rfl
 intro θ R hd
 obtain ⟨h8d, h11d, _⟩ := hd
 exact Opp.on (OG.imp (OG.call [.agg #[.int .i64 (cr), vcd]] ent63 rfl rfl rfl rfl (by exact (rho_w scd (Ent.drop 1 ecd.app) ((wordB_ok hg2).1.1)))) (by rintro v4 _ ⟨_, rfl, hs5, rfl⟩; exact ⟨[v4], rfl, hs5, rfl⟩)) rfl rfl rfl
 intro θ R hd
 obtain ⟨h8d, h9d, h10d, h12d, _⟩ := hd
 exact Opp.on (OG.imp (OG.call [.agg #[.int .i64 (cr), vcd], vx, ((θ 12).getD 0 undef)] ent62 rfl rfl rfl rfl (by exact (actWeight_w scd (Ent.drop 2 ecd.app) sx (Ent.drop 2 ex.app) h12d (Ent.ints (i := 0) rfl) ((wordB_ok hg2).1.1) ((wordB_ok hg2).1.2) (⟨Nat.le_trans (wordB_ok hg2).2.1 (by decide), (wordB_ok hg2).2.2⟩) (by have := (wordB_ok hg2).1.1; rw [ones_len]; omega)))) (by rintro v6 _ ⟨_, rfl, hs7, rfl⟩; exact ⟨[v6], rfl, hs7, rfl⟩)) rfl rfl rfl
 intro θ R hd
 obtain ⟨h8d, _⟩ := hd
 exact Opp.on (OG.imp (OD.loadAgg rfl ti27 rfl (i := 0) rfl (us := [.int .i64 (cr), vcd]) rfl rfl) (by rintro _ _ ⟨rfl, rfl⟩; exact ⟨[], rfl, trivial, rfl⟩)) rfl rfl rfl
 intro θ R hd
 obtain ⟨h8d, _⟩ := hd
 exact Opp.on (OG.imp (OD.move rfl rfl) (by rintro _ _ ⟨rfl, rfl⟩; exact ⟨[], rfl, trivial, rfl⟩)) rfl rfl rfl
 intro θ R hd
 obtain ⟨h8d, _⟩ := hd
 exact Opp.on (OG.imp (OD.loadAgg rfl ti27 rfl (i := 0) rfl (us := [.int .i64 (cr), vcd]) rfl rfl) (by rintro _ _ ⟨rfl, rfl⟩; exact ⟨[], rfl, trivial, rfl⟩)) rfl rfl rfl
 intro θ R hd
 obtain ⟨h8d, h16d, _⟩ := hd
 exact Opp.on (OG.imp (OG.call [.agg #[.int .i64 (cr), vcd]] ent63 rfl rfl rfl rfl (by exact (rho_w scd (Ent.drop 1 ecd.app) ((wordB_ok hg2).1.1)))) (by rintro v8 _ ⟨_, rfl, hs9, rfl⟩; exact ⟨[v8], rfl, hs9, rfl⟩)) rfl rfl rfl
 intro θ R hd
 obtain ⟨h8d, h14d, h15d, h17d, _⟩ := hd
 exact Opp.on (OG.imp (OG.call [.agg #[.int .i64 (cr), vcd], vy, ((θ 17).getD 0 undef)] ent62 rfl rfl rfl rfl (by exact (actWeight_w scd (Ent.drop 2 ecd.app) sy (Ent.drop 2 ey.app) h17d (Ent.ints (i := 0) rfl) ((wordB_ok hg2).1.1) ((wordB_ok hg2).1.2) (⟨Nat.le_trans (wordB_ok hg3).2.1 (by decide), (wordB_ok hg3).2.2⟩) (by have := (wordB_ok hg2).1.1; rw [ones_len]; omega)))) (by rintro v10 _ ⟨_, rfl, hs11, rfl⟩; exact ⟨[v10], rfl, hs11, rfl⟩)) rfl rfl rfl
 intro θ R hd
 obtain ⟨h8d, h13d, h18d, _⟩ := hd
 exact Opp.on (OG.imp (OG.call [((θ 13).getD 0 undef), ((θ 18).getD 0 undef)] ent75 rfl rfl rfl rfl (by exact (slicesEqual_s h13d (Ent.ints (i := 1) rfl) h18d (Ent.ints (i := 3) rfl) (by have := (wordB_ok hg2).1.1; rw [actF_len, ones_len]; omega)))) (by rintro _ _ ⟨rfl, rfl⟩; exact ⟨[], rfl, trivial, rfl⟩)) rfl rfl rfl
 intro θ R hd
 obtain ⟨h8d, h19d, _⟩ := hd
 exact Opp.plain (OG.imp (OD.pickT rfl rfl rfl) (by rintro _ _ ⟨rfl, rfl⟩; exact ⟨[], rfl, trivial, rfl⟩)) rfl
 intro θ hall
 obtain ⟨_, _, _, _, _, _, _, _, _, _, _, _, h12a, h13a, _, _, _, h17a, h18a, _, _, _⟩ := hall
 refine G.at [] 0 (env' := [(6, .bool false), (27, .bool (samB (actF cr cd x (ones cr 1)) (actF cr cd y (ones cr 1))))]) ⟨rfl, rfl, trivial⟩ (own' := ints 3 ((θ 12).getD 0 undef) (ones cr 1) :: ints 3 ((θ 13).getD 0 undef) (actF cr cd x (ones cr 1)) :: ints 3 ((θ 17).getD 0 undef) (ones cr 1) :: ints 3 ((θ 18).getD 0 undef) (actF cr cd y (ones cr 1)) :: box g1 27 [.int .i64 (cr), vcd] :: own) rfl ?_
 have hs12 : IsS ((θ 12).getD 0 undef) := h12a
 clear h12a
 generalize ((θ 12).getD 0 undef) = v13 at *
 have hs14 : IsS ((θ 13).getD 0 undef) := h13a
 clear h13a
 generalize ((θ 13).getD 0 undef) = v15 at *
 have hs16 : IsS ((θ 17).getD 0 undef) := h17a
 clear h17a
 generalize ((θ 17).getD 0 undef) = v17 at *
 have hs18 : IsS ((θ 18).getD 0 undef) := h18a
 clear h18a
 generalize ((θ 18).getD 0 undef) = v19 at *
 show G _ _ _ [_] _ _ _ _
 refine G.stepD (OD.assign rfl rfl) rfl rfl rfl ?_
 refine G.nil (GE.then_ (GC.ret ?_))
 exact GE.body [] 5 (res1 rfl rfl) rfl (⟨congrArg (fun (a0 : Bool) => (.bool (a0) : Value)) ((by rw [seB, hg2, hg3]; first | rfl | simp : (samB (actF cr cd x (ones cr 1)) (actF cr cd y (ones cr 1)) : Bool) = seB cr cd x y)), rfl⟩)
 refine GC.at [] 0 (env' := [(1, vx), (2, vy), (3, .pointer (some ⟨g1, 0, none⟩)), (6, .bool false)]) ⟨rfl, rfl, rfl, rfl, trivial⟩ rfl ?_
 refine GC.par (its := [⟨7, [], [], [], [], fun _ => .agg #[.int .i64 (cr), vcd], fun _ => True, fun _ => []⟩,
     ⟨8, [], [], [], [], fun _ => vx, fun _ => True, fun _ => []⟩,
     ⟨9, [(0, 7), (1, 8)], [], [], [], fun _ => .bool true, fun _ => True, fun _ => []⟩,
     ⟨10, [(2, 9)], [], [], [], fun _ => .bool true, fun _ => True, fun _ => []⟩,
     ⟨11, [(3, 10)], [], [], [], fun _ => .agg #[.int .i64 (cr), vcd], fun _ => True, fun _ => []⟩,
     ⟨12, [(3, 10)], [], [], [], fun _ => vy, fun _ => True, fun _ => []⟩,
     ⟨13, [(3, 10), (4, 11), (5, 12)], [], [], [], fun _ => .bool false, fun _ => True, fun _ => []⟩,
     ⟨14, [(3, 10), (6, 13)], [], [], [], fun _ => .bool false, fun _ => True, fun _ => []⟩,
     ⟨15, [(7, 14)], [], [], [], fun _ => .bool false, fun _ => True, fun _ => []⟩,
     ⟨16, [(8, 15)], [], [], [], fun _ => undef, fun _ => True, fun _ => []⟩,
     ⟨17, [(8, 15)], [], [], [], fun _ => undef, fun _ => True, fun _ => []⟩,
     ⟨18, [(8, 15)], [], [], [], fun _ => undef, fun _ => True, fun _ => []⟩,
     ⟨19, [(8, 15), (11, 18)], [], [], [], fun _ => undef, fun _ => True, fun _ => []⟩,
     ⟨20, [(8, 15), (9, 16), (10, 17), (12, 19)], [], [], [], fun _ => undef, fun _ => True, fun _ => []⟩,
     ⟨21, [(8, 15)], [], [], [], fun _ => undef, fun _ => True, fun _ => []⟩,
     ⟨22, [(8, 15)], [], [], [], fun _ => undef, fun _ => True, fun _ => []⟩,
     ⟨23, [(8, 15)], [], [], [], fun _ => undef, fun _ => True, fun _ => []⟩,
     ⟨24, [(8, 15), (16, 23)], [], [], [], fun _ => undef, fun _ => True, fun _ => []⟩,
     ⟨25, [(8, 15), (14, 21), (15, 22), (17, 24)], [], [], [], fun _ => undef, fun _ => True, fun _ => []⟩,
     ⟨26, [(8, 15), (13, 20), (18, 25)], [], [], [], fun _ => undef, fun _ => True, fun _ => []⟩,
     ⟨27, [(8, 15), (19, 26)], [], [], [], fun _ => .bool false, fun _ => True, fun _ => []⟩]) (by kernel_rfl) (by kernel_rfl) (POps.cons ?_ (POps.cons ?_ (POps.cons ?_ (POps.cons ?_ (POps.cons ?_ (POps.cons ?_ (POps.cons ?_ (POps.cons ?_ (POps.cons ?_ (POps.cons ?_ (POps.cons ?_ (POps.cons ?_ (POps.cons ?_ (POps.cons ?_ (POps.cons ?_ (POps.cons ?_ (POps.cons ?_ (POps.cons ?_ (POps.cons ?_ (POps.cons ?_ (POps.cons ?_ POps.nil))))))))))))))))))))) ?_
 intro θ R hd
 exact Opp.plain (OG.imp (OD.loadAgg rfl ti27 rfl (i := 0) rfl (us := [.int .i64 (cr), vcd]) rfl rfl) (by rintro _ _ ⟨rfl, rfl⟩; exact ⟨[], rfl, trivial, rfl⟩)) rfl
 intro θ R hd
 exact Opp.plain (OG.imp (OD.move rfl rfl) (by rintro _ _ ⟨rfl, rfl⟩; exact ⟨[], rfl, trivial, rfl⟩)) rfl
 intro θ R hd
 obtain ⟨h0d, h1d, _⟩ := hd
 exact Opp.plain (OG.imp (OG.imp (K' := fun v ow => v = .bool true ∧ ow = box g1 27 [.int .i64 (cr), vcd] :: own ++ R) (OG.call [.agg #[.int .i64 (cr), vcd], vx] ent60 rfl rfl rfl rfl (by exact (wordOk_w scd (Ent.drop 1 ecd.app) sx (Ent.drop 1 ex.app) (hl0) (by omega) ((Ent.drop 1 hg.app))))) (by rintro _ _ ⟨rfl, rfl⟩; exact ⟨congrArg Value.bool (hg2), rfl⟩)) (by rintro _ _ ⟨rfl, rfl⟩; exact ⟨[], rfl, trivial, rfl⟩)) rfl
 intro θ R hd
 obtain ⟨h2d, _⟩ := hd
 exact Opp.plain (OG.imp (OD.move rfl rfl) (by rintro _ _ ⟨rfl, rfl⟩; exact ⟨[], rfl, trivial, rfl⟩)) rfl
 intro θ R hd
 obtain ⟨h3d, _⟩ := hd
 exact Opp.on (OG.imp (OD.loadAgg rfl ti27 rfl (i := 0) rfl (us := [.int .i64 (cr), vcd]) rfl rfl) (by rintro _ _ ⟨rfl, rfl⟩; exact ⟨[], rfl, trivial, rfl⟩)) rfl rfl rfl
 intro θ R hd
 obtain ⟨h3d, _⟩ := hd
 exact Opp.on (OG.imp (OD.move rfl rfl) (by rintro _ _ ⟨rfl, rfl⟩; exact ⟨[], rfl, trivial, rfl⟩)) rfl rfl rfl
 intro θ R hd
 obtain ⟨h3d, h4d, h5d, _⟩ := hd
 exact Opp.on (OG.imp (OG.imp (K' := fun v ow => v = .bool false ∧ ow = box g1 27 [.int .i64 (cr), vcd] :: own ++ R) (OG.call [.agg #[.int .i64 (cr), vcd], vy] ent60 rfl rfl rfl rfl (by exact (wordOk_w scd (Ent.drop 1 ecd.app) sy (Ent.drop 1 ey.app) (hl0) (by omega) ((Ent.drop 1 hg.app))))) (by rintro _ _ ⟨rfl, rfl⟩; exact ⟨congrArg Value.bool (hg3), rfl⟩)) (by rintro _ _ ⟨rfl, rfl⟩; exact ⟨[], rfl, trivial, rfl⟩)) rfl rfl rfl
 intro θ R hd
 obtain ⟨h3d, h6d, _⟩ := hd
 exact Opp.plain (OG.imp (OD.pickT rfl rfl rfl) (by rintro _ _ ⟨rfl, rfl⟩; exact ⟨[], rfl, trivial, rfl⟩)) rfl
 intro θ R hd
 obtain ⟨h7d, _⟩ := hd
 exact Opp.plain (OG.imp (OD.move rfl rfl) (by rintro _ _ ⟨rfl, rfl⟩; exact ⟨[], rfl, trivial, rfl⟩)) rfl
 intro θ R hd
 obtain ⟨h8d, _⟩ := hd
 exact Opp.off ⟨[], rfl, trivial, rfl⟩ rfl rfl rfl rfl
 intro θ R hd
 obtain ⟨h8d, _⟩ := hd
 exact Opp.off ⟨[], rfl, trivial, rfl⟩ rfl rfl rfl rfl
 intro θ R hd
 obtain ⟨h8d, _⟩ := hd
 exact Opp.off ⟨[], rfl, trivial, rfl⟩ rfl rfl rfl rfl
 intro θ R hd
 obtain ⟨h8d, h11d, _⟩ := hd
 exact Opp.off ⟨[], rfl, trivial, rfl⟩ rfl rfl rfl rfl
 intro θ R hd
 obtain ⟨h8d, h9d, h10d, h12d, _⟩ := hd
 exact Opp.off ⟨[], rfl, trivial, rfl⟩ rfl rfl rfl rfl
 intro θ R hd
 obtain ⟨h8d, _⟩ := hd
 exact Opp.off ⟨[], rfl, trivial, rfl⟩ rfl rfl rfl rfl
 intro θ R hd
 obtain ⟨h8d, _⟩ := hd
 exact Opp.off ⟨[], rfl, trivial, rfl⟩ rfl rfl rfl rfl
 intro θ R hd
 obtain ⟨h8d, _⟩ := hd
 exact Opp.off ⟨[], rfl, trivial, rfl⟩ rfl rfl rfl rfl
 intro θ R hd
 obtain ⟨h8d, h16d, _⟩ := hd
 exact Opp.off ⟨[], rfl, trivial, rfl⟩ rfl rfl rfl rfl
 intro θ R hd
 obtain ⟨h8d, h14d, h15d, h17d, _⟩ := hd
 exact Opp.off ⟨[], rfl, trivial, rfl⟩ rfl rfl rfl rfl
 intro θ R hd
 obtain ⟨h8d, h13d, h18d, _⟩ := hd
 exact Opp.off ⟨[], rfl, trivial, rfl⟩ rfl rfl rfl rfl
 intro θ R hd
 obtain ⟨h8d, h19d, _⟩ := hd
 exact Opp.plain (OG.imp (OD.pickF rfl rfl rfl) (by rintro _ _ ⟨rfl, rfl⟩; exact ⟨[], rfl, trivial, rfl⟩)) rfl
 intro θ hall
 obtain ⟨_, _, _, _, _, _, _, _, _, _, _, _, _, _, _, _, _, _, _, _, _, _⟩ := hall
 refine G.at [] 0 (env' := [(6, .bool false), (27, .bool false)]) ⟨rfl, rfl, trivial⟩ (own' := box g1 27 [.int .i64 (cr), vcd] :: own) rfl ?_
 show G _ _ _ [_] _ _ _ _
 refine G.stepD (OD.assign rfl rfl) rfl rfl rfl ?_
 refine G.nil (GE.then_ (GC.ret ?_))
 exact GE.body [] 1 (res1 rfl rfl) rfl (⟨congrArg (fun (a0 : Bool) => (.bool (a0) : Value)) ((by rw [seB, hg2, hg3]; first | rfl | simp : (false : Bool) = seB cr cd x y)), rfl⟩)
 refine GC.at [] 0 (env' := [(1, vx), (2, vy), (3, .pointer (some ⟨g1, 0, none⟩)), (6, .bool false)]) ⟨rfl, rfl, rfl, rfl, trivial⟩ rfl ?_
 refine GC.par (its := [⟨7, [], [], [], [], fun _ => .agg #[.int .i64 (cr), vcd], fun _ => True, fun _ => []⟩,
     ⟨8, [], [], [], [], fun _ => vx, fun _ => True, fun _ => []⟩,
     ⟨9, [(0, 7), (1, 8)], [], [], [], fun _ => .bool false, fun _ => True, fun _ => []⟩,
     ⟨10, [(2, 9)], [], [], [], fun _ => .bool false, fun _ => True, fun _ => []⟩,
     ⟨11, [(3, 10)], [], [], [], fun _ => undef, fun _ => True, fun _ => []⟩,
     ⟨12, [(3, 10)], [], [], [], fun _ => undef, fun _ => True, fun _ => []⟩,
     ⟨13, [(3, 10), (4, 11), (5, 12)], [], [], [], fun _ => undef, fun _ => True, fun _ => []⟩,
     ⟨14, [(3, 10), (6, 13)], [], [], [], fun _ => .bool false, fun _ => True, fun _ => []⟩,
     ⟨15, [(7, 14)], [], [], [], fun _ => .bool false, fun _ => True, fun _ => []⟩,
     ⟨16, [(8, 15)], [], [], [], fun _ => undef, fun _ => True, fun _ => []⟩,
     ⟨17, [(8, 15)], [], [], [], fun _ => undef, fun _ => True, fun _ => []⟩,
     ⟨18, [(8, 15)], [], [], [], fun _ => undef, fun _ => True, fun _ => []⟩,
     ⟨19, [(8, 15), (11, 18)], [], [], [], fun _ => undef, fun _ => True, fun _ => []⟩,
     ⟨20, [(8, 15), (9, 16), (10, 17), (12, 19)], [], [], [], fun _ => undef, fun _ => True, fun _ => []⟩,
     ⟨21, [(8, 15)], [], [], [], fun _ => undef, fun _ => True, fun _ => []⟩,
     ⟨22, [(8, 15)], [], [], [], fun _ => undef, fun _ => True, fun _ => []⟩,
     ⟨23, [(8, 15)], [], [], [], fun _ => undef, fun _ => True, fun _ => []⟩,
     ⟨24, [(8, 15), (16, 23)], [], [], [], fun _ => undef, fun _ => True, fun _ => []⟩,
     ⟨25, [(8, 15), (14, 21), (15, 22), (17, 24)], [], [], [], fun _ => undef, fun _ => True, fun _ => []⟩,
     ⟨26, [(8, 15), (13, 20), (18, 25)], [], [], [], fun _ => undef, fun _ => True, fun _ => []⟩,
     ⟨27, [(8, 15), (19, 26)], [], [], [], fun _ => .bool false, fun _ => True, fun _ => []⟩]) (by kernel_rfl) (by kernel_rfl) (POps.cons ?_ (POps.cons ?_ (POps.cons ?_ (POps.cons ?_ (POps.cons ?_ (POps.cons ?_ (POps.cons ?_ (POps.cons ?_ (POps.cons ?_ (POps.cons ?_ (POps.cons ?_ (POps.cons ?_ (POps.cons ?_ (POps.cons ?_ (POps.cons ?_ (POps.cons ?_ (POps.cons ?_ (POps.cons ?_ (POps.cons ?_ (POps.cons ?_ (POps.cons ?_ POps.nil))))))))))))))))))))) ?_
 intro θ R hd
 exact Opp.plain (OG.imp (OD.loadAgg rfl ti27 rfl (i := 0) rfl (us := [.int .i64 (cr), vcd]) rfl rfl) (by rintro _ _ ⟨rfl, rfl⟩; exact ⟨[], rfl, trivial, rfl⟩)) rfl
 intro θ R hd
 exact Opp.plain (OG.imp (OD.move rfl rfl) (by rintro _ _ ⟨rfl, rfl⟩; exact ⟨[], rfl, trivial, rfl⟩)) rfl
 intro θ R hd
 obtain ⟨h0d, h1d, _⟩ := hd
 exact Opp.plain (OG.imp (OG.imp (K' := fun v ow => v = .bool false ∧ ow = box g1 27 [.int .i64 (cr), vcd] :: own ++ R) (OG.call [.agg #[.int .i64 (cr), vcd], vx] ent60 rfl rfl rfl rfl (by exact (wordOk_w scd (Ent.drop 1 ecd.app) sx (Ent.drop 1 ex.app) (hl0) (by omega) ((Ent.drop 1 hg.app))))) (by rintro _ _ ⟨rfl, rfl⟩; exact ⟨congrArg Value.bool (hg2), rfl⟩)) (by rintro _ _ ⟨rfl, rfl⟩; exact ⟨[], rfl, trivial, rfl⟩)) rfl
 intro θ R hd
 obtain ⟨h2d, _⟩ := hd
 exact Opp.plain (OG.imp (OD.move rfl rfl) (by rintro _ _ ⟨rfl, rfl⟩; exact ⟨[], rfl, trivial, rfl⟩)) rfl
 intro θ R hd
 obtain ⟨h3d, _⟩ := hd
 exact Opp.off ⟨[], rfl, trivial, rfl⟩ rfl rfl rfl rfl
 intro θ R hd
 obtain ⟨h3d, _⟩ := hd
 exact Opp.off ⟨[], rfl, trivial, rfl⟩ rfl rfl rfl rfl
 intro θ R hd
 obtain ⟨h3d, h4d, h5d, _⟩ := hd
 exact Opp.off ⟨[], rfl, trivial, rfl⟩ rfl rfl rfl rfl
 intro θ R hd
 obtain ⟨h3d, h6d, _⟩ := hd
 exact Opp.plain (OG.imp (OD.pickF rfl rfl rfl) (by rintro _ _ ⟨rfl, rfl⟩; exact ⟨[], rfl, trivial, rfl⟩)) rfl
 intro θ R hd
 obtain ⟨h7d, _⟩ := hd
 exact Opp.plain (OG.imp (OD.move rfl rfl) (by rintro _ _ ⟨rfl, rfl⟩; exact ⟨[], rfl, trivial, rfl⟩)) rfl
 intro θ R hd
 obtain ⟨h8d, _⟩ := hd
 exact Opp.off ⟨[], rfl, trivial, rfl⟩ rfl rfl rfl rfl
 intro θ R hd
 obtain ⟨h8d, _⟩ := hd
 exact Opp.off ⟨[], rfl, trivial, rfl⟩ rfl rfl rfl rfl
 intro θ R hd
 obtain ⟨h8d, _⟩ := hd
 exact Opp.off ⟨[], rfl, trivial, rfl⟩ rfl rfl rfl rfl
 intro θ R hd
 obtain ⟨h8d, h11d, _⟩ := hd
 exact Opp.off ⟨[], rfl, trivial, rfl⟩ rfl rfl rfl rfl
 intro θ R hd
 obtain ⟨h8d, h9d, h10d, h12d, _⟩ := hd
 exact Opp.off ⟨[], rfl, trivial, rfl⟩ rfl rfl rfl rfl
 intro θ R hd
 obtain ⟨h8d, _⟩ := hd
 exact Opp.off ⟨[], rfl, trivial, rfl⟩ rfl rfl rfl rfl
 intro θ R hd
 obtain ⟨h8d, _⟩ := hd
 exact Opp.off ⟨[], rfl, trivial, rfl⟩ rfl rfl rfl rfl
 intro θ R hd
 obtain ⟨h8d, _⟩ := hd
 exact Opp.off ⟨[], rfl, trivial, rfl⟩ rfl rfl rfl rfl
 intro θ R hd
 obtain ⟨h8d, h16d, _⟩ := hd
 exact Opp.off ⟨[], rfl, trivial, rfl⟩ rfl rfl rfl rfl
 intro θ R hd
 obtain ⟨h8d, h14d, h15d, h17d, _⟩ := hd
 exact Opp.off ⟨[], rfl, trivial, rfl⟩ rfl rfl rfl rfl
 intro θ R hd
 obtain ⟨h8d, h13d, h18d, _⟩ := hd
 exact Opp.off ⟨[], rfl, trivial, rfl⟩ rfl rfl rfl rfl
 intro θ R hd
 obtain ⟨h8d, h19d, _⟩ := hd
 exact Opp.plain (OG.imp (OD.pickF rfl rfl rfl) (by rintro _ _ ⟨rfl, rfl⟩; exact ⟨[], rfl, trivial, rfl⟩)) rfl
 intro θ hall
 obtain ⟨_, _, _, _, _, _, _, _, _, _, _, _, _, _, _, _, _, _, _, _, _, _⟩ := hall
 refine G.at [] 0 (env' := [(6, .bool false), (27, .bool false)]) ⟨rfl, rfl, trivial⟩ (own' := box g1 27 [.int .i64 (cr), vcd] :: own) rfl ?_
 show G _ _ _ [_] _ _ _ _
 refine G.stepD (OD.assign rfl rfl) rfl rfl rfl ?_
 refine G.nil (GE.then_ (GC.ret ?_))
 exact GE.body [] 1 (res1 rfl rfl) rfl (⟨congrArg (fun (a0 : Bool) => (.bool (a0) : Value)) ((by rw [seB, hg2]; first | rfl | simp : (false : Bool) = seB cr cd x y)), rfl⟩)
set_option maxRecDepth 100000 in
theorem normalWord_w {W : World} {own : List Asn} {cr : Int} {vcd : Value} {cd : List Int} {vx : Value} {x : List Int}  (scd : IsS vcd) (ecd : Ent own fun w => Ints w vcd cd)   (sx : IsS vx) (ex : Ent own fun w => Ints w vx x)  (hl0 : cd.length ≤ 1073741824) (hl : x.length ≤ 1073741824) (hg : Ent own fun w => ∃ m, w.cell? ⟨Tryz.l146_ren.g 1, 0, none⟩ = some (.int .i64 m)) : Spec Tryz.prog 21 [.agg #[.int .i64 (cr), vcd], vx] W own (fun v ow => ∃ (r0 : Value), v = r0 ∧ IsS r0 ∧ ow = ints 3 r0 (nwOf cr cd x) :: own) := by
 refine Spec.enter Tryz.f21 _ Tryz.func21 rfl (n := 16) rfl rfl ?_
 refine GC.seq (GC.region ?_)
 refine G.step (OG.box (cs := [.int .i64 (cr), vcd]) rfl rfl rfl) rfl rfl rfl ?_
 rintro _ _ ⟨g1, rfl, rfl⟩
 refine G.stepD (OD.assign rfl rfl) rfl rfl rfl ?_
 refine G.nil (GE.then_ (GC.seq (GC.seq (GC.region ?_))))
 refine G.stepD (OD.loadAgg rfl ti27 rfl (i := 0) rfl (us := [.int .i64 (cr), vcd]) rfl rfl) rfl rfl rfl ?_
 refine G.stepD (OD.move rfl rfl) rfl rfl rfl ?_
 refine G.step (OG.call [.agg #[.int .i64 (cr), vcd], vx] ent60 rfl rfl rfl rfl (by exact (wordOk_w scd (Ent.drop 1 ecd) sx (Ent.drop 1 ex) (hl0) (by omega) ((Ent.drop 1 hg))))) rfl rfl rfl ?_
 rintro _ _ ⟨rfl, rfl⟩
 refine G.stepD (OD.not rfl rfl) rfl rfl rfl ?_
 refine G.nil (GE.then_ ?_)
 refine GC.cond rfl (fun hc2 => ?_) (fun hc2 => ?_)
 replace hc2 := eq_false_of_not hc2
 refine GC.seq (GC.region ?_)
 refine G.stepD (OD.assign rfl rfl) rfl rfl rfl ?_
 refine G.nil (GE.then_ (GC.ret (GE.passR ?_)))
 refine GE.nilInts 3 ?_
 exact GE.body [0] 1 (res1 rfl rfl) rfl (⟨(.slice none 0 0), rfl, IsS.nil, congrArg (fun (l0 : List Int) => ints 3 (.slice none 0 0) l0 :: own) ((by rw [nwOf, hc2]; rfl : [] = nwOf cr cd x))⟩)
 replace hc2 := eq_true_of_not hc2
 refine GC.skip (GE.then_ (GC.seq ?_))
 refine GC.at [] 0 (env' := [(1, vx), (2, .pointer (some ⟨g1, 0, none⟩)), (4, .slice none 0 0)]) ⟨rfl, rfl, rfl, trivial⟩ rfl ?_
 refine GC.par (its := [⟨9, [], [], [], [], fun _ => .agg #[.int .i64 (cr), vcd], fun _ => True, fun _ => []⟩,
     ⟨10, [], [], [], [], fun _ => .agg #[.int .i64 (cr), vcd], fun _ => True, fun _ => []⟩,
     ⟨11, [], [], [], [], fun _ => vx, fun _ => True, fun _ => []⟩,
     ⟨12, [], [], [], [], fun _ => .agg #[.int .i64 (cr), vcd], fun _ => True, fun _ => []⟩,
     ⟨13, [(3, 12)], [], [], [4], fun ds => ((ds.getD 0 []).getD 0 undef), fun ds => IsS ((ds.getD 0 []).getD 0 undef), fun ds => [ints 3 ((ds.getD 0 []).getD 0 undef) (ones cr 1)]⟩,
     ⟨14, [(1, 10), (2, 11), (4, 13)], [4], [], [4, 5], fun ds => ((ds.getD 1 []).getD 0 undef), fun ds => IsS ((ds.getD 1 []).getD 0 undef), fun ds => [ints 3 ((ds.getD 1 []).getD 0 undef) (actF cr cd x (ones cr 1))]⟩,
     ⟨15, [(0, 9), (5, 14)], [4, 5], [], [4, 5, 6], fun ds => ((ds.getD 2 []).getD 0 undef), fun ds => IsS ((ds.getD 2 []).getD 0 undef), fun ds => [ints 3 ((ds.getD 2 []).getD 0 undef) (nwF cr cd (actF cr cd x (ones cr 1)))]⟩]) (by kernel_rfl) (by kernel_rfl) (POps.cons ?_ (POps.cons ?_ (POps.cons ?_ (POps.cons ?_ (POps.cons ?_ (POps.cons ?_ (POps.cons ?_ POps.nil))))))) ?_
 intro θ R hd
 exact Opp.plain (OG.imp (OD.loadAgg rfl ti27 rfl (i := 0) rfl (us := [.int .i64 (cr), vcd]) rfl rfl) (by rintro _ _ ⟨rfl, rfl⟩; exact ⟨[], rfl, trivial, rfl⟩)) rfl
 intro θ R hd
 exact Opp.plain (OG.imp (OD.loadAgg rfl ti27 rfl (i := 0) rfl (us := [.int .i64 (cr), vcd]) rfl rfl) (by rintro _ _ ⟨rfl, rfl⟩; exact ⟨[], rfl, trivial, rfl⟩)) rfl
 intro θ R hd
 exact Opp.plain (OG.imp (OD.move rfl rfl) (by rintro _ _ ⟨rfl, rfl⟩; exact ⟨[], rfl, trivial, rfl⟩)) rfl
 intro θ R hd
 exact Opp.plain (OG.imp (OD.loadAgg rfl ti27 rfl (i := 0) rfl (us := [.int .i64 (cr), vcd]) rfl rfl) (by rintro _ _ ⟨rfl, rfl⟩; exact ⟨[], rfl, trivial, rfl⟩)) rfl
 intro θ R hd
 obtain ⟨h3d, _⟩ := hd
 exact Opp.plain (OG.imp (OG.call [.agg #[.int .i64 (cr), vcd]] ent63 rfl rfl rfl rfl (by exact (rho_w scd (Ent.drop 1 ecd.app) ((wordB_ok hc2).1.1)))) (by rintro v3 _ ⟨_, rfl, hs4, rfl⟩; exact ⟨[v3], rfl, hs4, rfl⟩)) rfl
 intro θ R hd
 obtain ⟨h1d, h2d, h4d, _⟩ := hd
 exact Opp.plain (OG.imp (OG.call [.agg #[.int .i64 (cr), vcd], vx, ((θ 4).getD 0 undef)] ent62 rfl rfl rfl rfl (by exact (actWeight_w scd (Ent.drop 2 ecd.app) sx (Ent.drop 2 ex.app) h4d (Ent.ints (i := 0) rfl) ((wordB_ok hc2).1.1) ((wordB_ok hc2).1.2) (⟨Nat.le_trans (wordB_ok hc2).2.1 (by decide), (wordB_ok hc2).2.2⟩) (by have := (wordB_ok hc2).1.1; rw [ones_len]; omega)))) (by rintro v5 _ ⟨_, rfl, hs6, rfl⟩; exact ⟨[v5], rfl, hs6, rfl⟩)) rfl
 intro θ R hd
 obtain ⟨h0d, h5d, _⟩ := hd
 exact Opp.plain (OG.imp (OG.call [.agg #[.int .i64 (cr), vcd], ((θ 5).getD 0 undef)] ent61 rfl rfl rfl rfl (by exact (normalOf_w scd (Ent.drop 3 ecd.app) h5d (Ent.ints (i := 1) rfl) ((wordB_ok hc2).1.1) ((wordB_ok hc2).1.2) (phOk (wordB_ty hc2)) (Bd.word hc2)))) (by rintro v7 _ ⟨_, rfl, hs8, rfl⟩; exact ⟨[v7], rfl, hs8, rfl⟩)) rfl
 intro θ hall
 obtain ⟨_, _, _, _, h4a, h5a, h6a, _⟩ := hall
 refine G.at [] 0 (env' := [(4, .slice none 0 0), (15, ((θ 6).getD 0 undef))]) ⟨rfl, rfl, trivial⟩ (own' := ints 3 ((θ 4).getD 0 undef) (ones cr 1) :: ints 3 ((θ 5).getD 0 undef) (actF cr cd x (ones cr 1)) :: ints 3 ((θ 6).getD 0 undef) (nwF cr cd (actF cr cd x (ones cr 1))) :: box g1 27 [.int .i64 (cr), vcd] :: own) rfl ?_
 have hs9 : IsS ((θ 4).getD 0 undef) := h4a
 clear h4a
 generalize ((θ 4).getD 0 undef) = v10 at *
 have hs11 : IsS ((θ 5).getD 0 undef) := h5a
 clear h5a
 generalize ((θ 5).getD 0 undef) = v12 at *
 have hs13 : IsS ((θ 6).getD 0 undef) := h6a
 clear h6a
 generalize ((θ 6).getD 0 undef) = v14 at *
 show G _ _ _ [_] _ _ _ _
 refine G.stepD (OD.assign rfl rfl) rfl rfl rfl ?_
 refine G.nil (GE.then_ (GC.ret ?_))
 exact GE.body [2] 3 (res1 rfl rfl) rfl (⟨v14, rfl, hs13, congrArg (fun (l0 : List Int) => ints 3 v14 l0 :: own) ((by rw [nwOf, hc2]; rfl : nwF cr cd (actF cr cd x (ones cr 1)) = nwOf cr cd x))⟩)
set_option maxRecDepth 100000 in
theorem inverseWord_w {W : World} {own : List Asn} {cr : Int} {vcd : Value} {cd : List Int} {vx : Value} {x : List Int}  (scd : IsS vcd) (ecd : Ent own fun w => Ints w vcd cd)   (sx : IsS vx) (ex : Ent own fun w => Ints w vx x)  (hl0 : cd.length ≤ 1073741824) (hl : x.length ≤ 1073741824) (hg : Ent own fun w => ∃ m, w.cell? ⟨Tryz.l146_ren.g 1, 0, none⟩ = some (.int .i64 m)) : Spec Tryz.prog 24 [.agg #[.int .i64 (cr), vcd], vx] W own (fun v ow => ∃ (r0 : Value), v = r0 ∧ IsS r0 ∧ ow = ints 3 r0 (ivOf cr cd x) :: own) := by
 refine Spec.enter Tryz.f24 _ Tryz.func24 rfl (n := 21) rfl rfl ?_
 refine GC.seq (GC.region ?_)
 refine G.step (OG.box (cs := [.int .i64 (cr), vcd]) rfl rfl rfl) rfl rfl rfl ?_
 rintro _ _ ⟨g1, rfl, rfl⟩
 refine G.stepD (OD.assign rfl rfl) rfl rfl rfl ?_
 refine G.nil (GE.then_ (GC.seq (GC.seq (GC.region ?_))))
 refine G.stepD (OD.loadAgg rfl ti27 rfl (i := 0) rfl (us := [.int .i64 (cr), vcd]) rfl rfl) rfl rfl rfl ?_
 refine G.stepD (OD.move rfl rfl) rfl rfl rfl ?_
 refine G.step (OG.call [.agg #[.int .i64 (cr), vcd], vx] ent60 rfl rfl rfl rfl (by exact (wordOk_w scd (Ent.drop 1 ecd) sx (Ent.drop 1 ex) (hl0) (by omega) ((Ent.drop 1 hg))))) rfl rfl rfl ?_
 rintro _ _ ⟨rfl, rfl⟩
 refine G.stepD (OD.not rfl rfl) rfl rfl rfl ?_
 refine G.nil (GE.then_ ?_)
 refine GC.cond rfl (fun hc2 => ?_) (fun hc2 => ?_)
 replace hc2 := eq_false_of_not hc2
 refine GC.seq (GC.region ?_)
 refine G.stepD (OD.assign rfl rfl) rfl rfl rfl ?_
 refine G.nil (GE.then_ (GC.ret (GE.passR ?_)))
 refine GE.nilInts 3 ?_
 exact GE.body [0] 1 (res1 rfl rfl) rfl (⟨(.slice none 0 0), rfl, IsS.nil, congrArg (fun (l0 : List Int) => ints 3 (.slice none 0 0) l0 :: own) ((by rw [ivOf, hc2]; rfl : [] = ivOf cr cd x))⟩)
 replace hc2 := eq_true_of_not hc2
 refine GC.skip (GE.then_ (GC.seq (GC.region ?_)))
 refine G.stepD (OD.move rfl rfl) rfl rfl rfl ?_
 refine G.step (OG.call [vx] ent76 rfl rfl rfl rfl (by exact (clone_w sx (Ent.drop 1 ex) (by omega)))) rfl rfl rfl ?_
 rintro v3 _ ⟨_, rfl, hs4, rfl⟩
 refine G.stepD (OD.assign rfl rfl) rfl rfl rfl ?_
 refine G.nil (GE.then_ (GC.seq (GC.region ?_)))
 refine G.stepD (OD.move rfl rfl) rfl rfl rfl ?_
 refine G.step (OG.call [v3] ent77 rfl rfl rfl rfl (by exact (reverse_w hs4 (by omega)))) rfl rfl rfl ?_
 rintro _ _ ⟨rfl, rfl⟩
 refine G.nil (GE.then_ (GC.seq ?_))
 refine GC.at [] 0 (env' := [(2, .pointer (some ⟨g1, 0, none⟩)), (4, .slice none 0 0), (5, v3)]) ⟨rfl, rfl, rfl, trivial⟩ rfl ?_
 refine GC.par (its := [⟨14, [], [], [], [], fun _ => .agg #[.int .i64 (cr), vcd], fun _ => True, fun _ => []⟩,
     ⟨15, [], [], [], [], fun _ => .agg #[.int .i64 (cr), vcd], fun _ => True, fun _ => []⟩,
     ⟨16, [], [], [], [], fun _ => v3, fun _ => True, fun _ => []⟩,
     ⟨17, [], [], [], [], fun _ => .agg #[.int .i64 (cr), vcd], fun _ => True, fun _ => []⟩,
     ⟨18, [(3, 17)], [], [], [4], fun ds => ((ds.getD 0 []).getD 0 undef), fun ds => IsS ((ds.getD 0 []).getD 0 undef), fun ds => [ints 3 ((ds.getD 0 []).getD 0 undef) (ones cr 1)]⟩,
     ⟨19, [(1, 15), (2, 16), (4, 18)], [4], [], [4, 5], fun ds => ((ds.getD 1 []).getD 0 undef), fun ds => IsS ((ds.getD 1 []).getD 0 undef), fun ds => [ints 3 ((ds.getD 1 []).getD 0 undef) (actF cr cd x.reverse (ones cr 1))]⟩,
     ⟨20, [(0, 14), (5, 19)], [4, 5], [], [4, 5, 6], fun ds => ((ds.getD 2 []).getD 0 undef), fun ds => IsS ((ds.getD 2 []).getD 0 undef), fun ds => [ints 3 ((ds.getD 2 []).getD 0 undef) (nwF cr cd (actF cr cd x.reverse (ones cr 1)))]⟩]) (by kernel_rfl) (by kernel_rfl) (POps.cons ?_ (POps.cons ?_ (POps.cons ?_ (POps.cons ?_ (POps.cons ?_ (POps.cons ?_ (POps.cons ?_ POps.nil))))))) ?_
 intro θ R hd
 exact Opp.plain (OG.imp (OD.loadAgg rfl ti27 rfl (i := 1) rfl (us := [.int .i64 (cr), vcd]) rfl rfl) (by rintro _ _ ⟨rfl, rfl⟩; exact ⟨[], rfl, trivial, rfl⟩)) rfl
 intro θ R hd
 exact Opp.plain (OG.imp (OD.loadAgg rfl ti27 rfl (i := 1) rfl (us := [.int .i64 (cr), vcd]) rfl rfl) (by rintro _ _ ⟨rfl, rfl⟩; exact ⟨[], rfl, trivial, rfl⟩)) rfl
 intro θ R hd
 exact Opp.plain (OG.imp (OD.move rfl rfl) (by rintro _ _ ⟨rfl, rfl⟩; exact ⟨[], rfl, trivial, rfl⟩)) rfl
 intro θ R hd
 exact Opp.plain (OG.imp (OD.loadAgg rfl ti27 rfl (i := 1) rfl (us := [.int .i64 (cr), vcd]) rfl rfl) (by rintro _ _ ⟨rfl, rfl⟩; exact ⟨[], rfl, trivial, rfl⟩)) rfl
 intro θ R hd
 obtain ⟨h3d, _⟩ := hd
 exact Opp.plain (OG.imp (OG.call [.agg #[.int .i64 (cr), vcd]] ent63 rfl rfl rfl rfl (by exact (rho_w scd (Ent.drop 2 ecd.app) ((wordB_ok hc2).1.1)))) (by rintro v5 _ ⟨_, rfl, hs6, rfl⟩; exact ⟨[v5], rfl, hs6, rfl⟩)) rfl
 intro θ R hd
 obtain ⟨h1d, h2d, h4d, _⟩ := hd
 exact Opp.plain (OG.imp (OG.call [.agg #[.int .i64 (cr), vcd], v3, ((θ 4).getD 0 undef)] ent62 rfl rfl rfl rfl (by exact (actWeight_w scd (Ent.drop 3 ecd.app) hs4 (Ent.ints (i := 1) rfl) h4d (Ent.ints (i := 0) rfl) ((wordB_ok hc2).1.1) ((wordB_ok hc2).1.2) (⟨by rw [List.length_reverse]; exact Nat.le_trans (wordB_ok hc2).2.1 (by decide), fun y hy => (wordB_ok hc2).2.2 y (by simpa using hy)⟩) (by have := (wordB_ok hc2).1.1; rw [ones_len]; omega)))) (by rintro v7 _ ⟨_, rfl, hs8, rfl⟩; exact ⟨[v7], rfl, hs8, rfl⟩)) rfl
 intro θ R hd
 obtain ⟨h0d, h5d, _⟩ := hd
 exact Opp.plain (OG.imp (OG.call [.agg #[.int .i64 (cr), vcd], ((θ 5).getD 0 undef)] ent61 rfl rfl rfl rfl (by exact (normalOf_w scd (Ent.drop 4 ecd.app) h5d (Ent.ints (i := 1) rfl) ((wordB_ok hc2).1.1) ((wordB_ok hc2).1.2) (phOk (wordB_ty hc2)) (Bd.rev hc2)))) (by rintro v9 _ ⟨_, rfl, hs10, rfl⟩; exact ⟨[v9], rfl, hs10, rfl⟩)) rfl
 intro θ hall
 obtain ⟨_, _, _, _, h4a, h5a, h6a, _⟩ := hall
 refine G.at [] 0 (env' := [(4, .slice none 0 0), (20, ((θ 6).getD 0 undef))]) ⟨rfl, rfl, trivial⟩ (own' := ints 3 ((θ 4).getD 0 undef) (ones cr 1) :: ints 3 ((θ 5).getD 0 undef) (actF cr cd x.reverse (ones cr 1)) :: ints 3 ((θ 6).getD 0 undef) (nwF cr cd (actF cr cd x.reverse (ones cr 1))) :: ints 3 v3 x.reverse :: box g1 27 [.int .i64 (cr), vcd] :: own) rfl ?_
 have hs11 : IsS ((θ 4).getD 0 undef) := h4a
 clear h4a
 generalize ((θ 4).getD 0 undef) = v12 at *
 have hs13 : IsS ((θ 5).getD 0 undef) := h5a
 clear h5a
 generalize ((θ 5).getD 0 undef) = v14 at *
 have hs15 : IsS ((θ 6).getD 0 undef) := h6a
 clear h6a
 generalize ((θ 6).getD 0 undef) = v16 at *
 show G _ _ _ [_] _ _ _ _
 refine G.stepD (OD.assign rfl rfl) rfl rfl rfl ?_
 refine G.nil (GE.then_ (GC.ret ?_))
 exact GE.body [2] 4 (res1 rfl rfl) rfl (⟨v16, rfl, hs15, congrArg (fun (l0 : List Int) => ints 3 v16 l0 :: own) ((by rw [ivOf, hc2]; rfl : nwF cr cd (actF cr cd x.reverse (ones cr 1)) = ivOf cr cd x))⟩)
end Go.Proofs.YtgelkakjmbiibaaGreatDoor
