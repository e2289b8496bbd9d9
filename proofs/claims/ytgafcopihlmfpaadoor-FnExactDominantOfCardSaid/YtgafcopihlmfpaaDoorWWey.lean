/-
  SameElement, NormalWord, LongestWord, InverseWord, DualWeight: contracts and the laws on them.
-/
import Derived.Test.YtgafcopihlmfpaaDoorWClb
namespace Go.Proofs.YtgafcopihlmfpaaDoor
set_option linter.unusedVariables false
set_option linter.unusedSimpArgs false
open Go.RowKit

theorem ent13 : ∀ us w, (callFunc 13 us).run Tryd.prog w = .ok (.enter 13 us) w := fun us w => by kernel_rfl
theorem ent16 : ∀ us w, (callFunc 16 us).run Tryd.prog w = .ok (.enter 16 us) w := fun us w => by kernel_rfl
theorem ent24 : ∀ us w, (callFunc 24 us).run Tryd.prog w = .ok (.enter 24 us) w := fun us w => by kernel_rfl
theorem ent25 : ∀ us w, (callFunc 25 us).run Tryd.prog w = .ok (.enter 25 us) w := fun us w => by kernel_rfl
theorem ent26 : ∀ us w, (callFunc 26 us).run Tryd.prog w = .ok (.enter 26 us) w := fun us w => by kernel_rfl
theorem ent28 : ∀ us w, (callFunc 28 us).run Tryd.prog w = .ok (.enter 28 us) w := fun us w => by kernel_rfl
theorem ent31 : ∀ us w, (callFunc 31 us).run Tryd.prog w = .ok (.enter 31 us) w := fun us w => by kernel_rfl
theorem ent32 : ∀ us w, (callFunc 32 us).run Tryd.prog w = .ok (.enter 32 us) w := fun us w => by kernel_rfl
theorem ent33 : ∀ us w, (callFunc 33 us).run Tryd.prog w = .ok (.enter 33 us) w := fun us w => by kernel_rfl
theorem ent34 : ∀ us w, (callFunc 34 us).run Tryd.prog w = .ok (.enter 34 us) w := fun us w => by kernel_rfl
theorem ent35 : ∀ us w, (callFunc 35 us).run Tryd.prog w = .ok (.enter 35 us) w := fun us w => by kernel_rfl
theorem ent36 : ∀ us w, (callFunc 36 us).run Tryd.prog w = .ok (.enter 36 us) w := fun us w => by kernel_rfl
theorem ent42 : ∀ us w, (callFunc 42 us).run Tryd.prog w = .ok (.enter 42 us) w := fun us w => by kernel_rfl
theorem ent43 : ∀ us w, (callFunc 43 us).run Tryd.prog w = .ok (.enter 43 us) w := fun us w => by kernel_rfl
theorem ent44 : ∀ us w, (callFunc 44 us).run Tryd.prog w = .ok (.enter 44 us) w := fun us w => by kernel_rfl
theorem ent45 : ∀ us w, (callFunc 45 us).run Tryd.prog w = .ok (.enter 45 us) w := fun us w => by kernel_rfl
theorem ent46 : ∀ us w, (callFunc 46 us).run Tryd.prog w = .ok (.enter 46 us) w := fun us w => by kernel_rfl
theorem ent47 : ∀ us w, (callFunc 47 us).run Tryd.prog w = .ok (.enter 47 us) w := fun us w => by kernel_rfl
theorem ent48 : ∀ us w, (callFunc 48 us).run Tryd.prog w = .ok (.enter 48 us) w := fun us w => by kernel_rfl
theorem ent49 : ∀ us w, (callFunc 49 us).run Tryd.prog w = .ok (.enter 49 us) w := fun us w => by kernel_rfl
theorem ent59 : ∀ us w, (callFunc 59 us).run Tryd.prog w = .ok (.enter 59 us) w := fun us w => by kernel_rfl
theorem ent60 : ∀ us w, (callFunc 60 us).run Tryd.prog w = .ok (.enter 60 us) w := fun us w => by kernel_rfl
theorem ent63 : ∀ us w, (callFunc 63 us).run Tryd.prog w = .ok (.enter 63 us) w := fun us w => by kernel_rfl
theorem ent64 : ∀ us w, (callFunc 64 us).run Tryd.prog w = .ok (.enter 64 us) w := fun us w => by kernel_rfl
theorem ent65 : ∀ us w, (callFunc 65 us).run Tryd.prog w = .ok (.enter 65 us) w := fun us w => by kernel_rfl
theorem ent66 : ∀ us w, (callFunc 66 us).run Tryd.prog w = .ok (.enter 66 us) w := fun us w => by kernel_rfl
theorem ent67 : ∀ us w, (callFunc 67 us).run Tryd.prog w = .ok (.enter 67 us) w := fun us w => by kernel_rfl
theorem ent68 : ∀ us w, (callFunc 68 us).run Tryd.prog w = .ok (.enter 68 us) w := fun us w => by kernel_rfl
theorem ent69 : ∀ us w, (callFunc 69 us).run Tryd.prog w = .ok (.enter 69 us) w := fun us w => by kernel_rfl
theorem ent71 : ∀ us w, (callFunc 71 us).run Tryd.prog w = .ok (.enter 71 us) w := fun us w => by kernel_rfl
theorem ent91 : ∀ us w, (callFunc 91 us).run Tryd.prog w = .ok (.enter 91 us) w := fun us w => by kernel_rfl

set_option maxHeartbeats 4000000 in
set_option maxRecDepth 100000 in
theorem sameElement_w {W : World} {own : List Asn} {cr : Int} {vcd : Value} {cd : List Int} {vx : Value} {x : List Int} {vy : Value} {y : List Int}  (scd : IsS vcd) (ecd : Ent own fun w => Ints w vcd cd)   (sx : IsS vx) (ex : Ent own fun w => Ints w vx x)   (sy : IsS vy) (ey : Ent own fun w => Ints w vy y)  (hl0 : cd.length ≤ 1073741824) (hl : x.length ≤ 1073741824) (hly : y.length ≤ 1073741824) (hg : Ent own fun w => ∃ m, w.cell? ⟨Tryd.l146_ren.g 1, 0, none⟩ = some (.int .i64 m)) : Spec Tryd.prog 16 [.agg #[.int .i64 (cr), vcd], vx, vy] W own (fun v ow => v = .bool (seB cr cd x y) ∧ ow = own) := by
 refine Spec.enter Tryd.f16 _ Tryd.func16 rfl (n := 28) rfl rfl ?_
 refine GC.seq (GC.region ?_)
 refine G.step (OG.box (cs := [.int .i64 (cr), vcd]) rfl rfl rfl) rfl rfl rfl ?_
 rintro _ _ ⟨g1, rfl, rfl⟩
 refine G.stepD (OD.assign rfl rfl) rfl rfl rfl ?_
 refine G.nil (GE.then_ (GC.seq ?_))
 rcases Bool.eq_false_or_eq_true (wordB cr cd x) with hg2 | hg2
 rcases Bool.eq_false_or_eq_true (wordB cr cd y) with hg3 | hg3
 refine GC.at [] 0 (env' := [(1, vx), (2, vy), (3, .pointer (some ⟨g1, 0, none⟩)), (6, .bool false)]) ⟨rfl, rfl, rfl, rfl, trivial⟩ rfl ?_
 refine GC.par (its := [⟨7, [], [], [], [], fun _ => .agg #[.int .i64 (cr), vcd], fun _ => True, fun _ => []⟩,
     ⟨8, [], [], [], [], fun _ => vx, fun _ => True, fun _ => []⟩,
     ⟨9, [(0, 7), (1, 8)], [], [], [], fun _ => .bool true, fun _ => True, fun _ => []⟩,
     ⟨10, [(2, 9)], [], [], [], fun _ => .bool true, fun _ => True, fun _ => []⟩,
     ⟨11, [(3, 10)], [], [], [], fun _ => .agg #[.int .i64 (cr), vcd], fun _ => True, fun _ => []⟩,
     ⟨12, [(3, 10)], [], [], [], fun _ => vy, fun _ => True, fun _ => []⟩,
     ⟨13, [(3, 10), (4, 11), (5, 12)], [], [], [], fun _ => .bool true, fun _ => True, fun _ => []⟩,
     ⟨14, [(3, 10), (6, 13)], [], [], [], fun _ => .bool true, fun _ => True, fun _ => []⟩,
     ⟨15, [(7, 14)], [], [], [], fun _ => .bool true, fun _ => True, fun _ => []⟩,
     ⟨16, [(8, 15)], [], [], [], fun _ => .agg #[.int .i64 (cr), vcd], fun _ => True, fun _ => []⟩,
     ⟨17, [(8, 15)], [], [], [], fun _ => vx, fun _ => True, fun _ => []⟩,
     ⟨18, [(8, 15)], [], [], [], fun _ => .agg #[.int .i64 (cr), vcd], fun _ => True, fun _ => []⟩,
     ⟨19, [(8, 15), (11, 18)], [], [], [12], fun ds => ((ds.getD 0 []).getD 0 undef), fun ds => IsS ((ds.getD 0 []).getD 0 undef), fun ds => [ints 3 ((ds.getD 0 []).getD 0 undef) (ones cr 1)]⟩,
     ⟨20, [(8, 15), (9, 16), (10, 17), (12, 19)], [12], [], [12, 13], fun ds => ((ds.getD 1 []).getD 0 undef), fun ds => IsS ((ds.getD 1 []).getD 0 undef), fun ds => [ints 3 ((ds.getD 1 []).getD 0 undef) (actF cr cd x (ones cr 1))]⟩,
     ⟨21, [(8, 15)], [], [], [], fun _ => .agg #[.int .i64 (cr), vcd], fun _ => True, fun _ => []⟩,
     ⟨22, [(8, 15)], [], [], [], fun _ => vy, fun _ => True, fun _ => []⟩,
     ⟨23, [(8, 15)], [], [], [], fun _ => .agg #[.int .i64 (cr), vcd], fun _ => True, fun _ => []⟩,
     ⟨24, [(8, 15), (16, 23)], [], [], [17], fun ds => ((ds.getD 0 []).getD 0 undef), fun ds => IsS ((ds.getD 0 []).getD 0 undef), fun ds => [ints 3 ((ds.getD 0 []).getD 0 undef) (ones cr 1)]⟩,
     ⟨25, [(8, 15), (14, 21), (15, 22), (17, 24)], [17], [], [17, 18], fun ds => ((ds.getD 1 []).getD 0 undef), fun ds => IsS ((ds.getD 1 []).getD 0 undef), fun ds => [ints 3 ((ds.getD 1 []).getD 0 undef) (actF cr cd y (ones cr 1))]⟩,
     ⟨26, [(8, 15), (13, 20), (18, 25)], [12, 13, 17, 18], [], [12, 13, 17, 18], fun _ => .bool (samB (actF cr cd x (ones cr 1)) (actF cr cd y (ones cr 1))), fun _ => True, fun _ => []⟩,
     ⟨27, [(8, 15), (19, 26)], [12, 13, 17, 18], [], [12, 13, 17, 18], fun _ => .bool (samB (actF cr cd x (ones cr 1)) (actF cr cd y (ones cr 1))), fun _ => True, fun _ => []⟩]) (by kernel_rfl) (by kernel_rfl) (POps.cons ?_ (POps.cons ?_ (POps.cons ?_ (POps.cons ?_ (POps.cons ?_ (POps.cons ?_ (POps.cons ?_ (POps.cons ?_ (POps.cons ?_ (POps.cons ?_ (POps.cons ?_ (POps.cons ?_ (POps.cons ?_ (POps.cons ?_ (POps.cons ?_ (POps.cons ?_ (POps.cons ?_ (POps.cons ?_ (POps.cons ?_ (POps.cons ?_ (POps.cons ?_ POps.nil))))))))))))))))))))) ?_
 intro θ R hd
 exact Opp.plain (OG.imp (OD.loadAgg rfl ti27 rfl (i := 0) rfl (us := [.int .i64 (cr), vcd]) rfl rfl) (by rintro _ _ ⟨rfl, rfl⟩; exact ⟨[], rfl, trivial, rfl⟩)) rfl
 intro θ R hd
 exact Opp.plain (OG.imp (OD.move rfl rfl) (by rintro _ _ ⟨rfl, rfl⟩; exact ⟨[], rfl, trivial, rfl⟩)) rfl
 intro θ R hd
 obtain ⟨h0d, h1d, _⟩ := hd
 exact Opp.plain (OG.imp (OG.imp (K' := fun v ow => v = .bool true ∧ ow = box g1 27 [.int .i64 (cr), vcd] :: own ++ R) (OG.call [.agg #[.int .i64 (cr), vcd], vx] ent46 rfl rfl rfl rfl (by exact (wordOk_w scd (Ent.drop 1 ecd.app) sx (Ent.drop 1 ex.app) (hl0) (by omega) ((Ent.drop 1 hg.app))))) (by rintro _ _ ⟨rfl, rfl⟩; exact ⟨congrArg Value.bool (hg2), rfl⟩)) (by rintro _ _ ⟨rfl, rfl⟩; exact ⟨[], rfl, trivial, rfl⟩)) rfl
 intro θ R hd
 obtain ⟨h2d, _⟩ := hd
 exact Opp.plain (OG.imp (OD.move rfl rfl) (by rintro _ _ ⟨rfl, rfl⟩; exact ⟨[], rfl, trivial, rfl⟩)) rfl
 intro θ R hd
 obtain ⟨h3d, _⟩ := hd
 exact Opp.on (OG.imp (OD.loadAgg rfl ti27 rfl (i := 0) rfl (us := [.int .i64 (cr), vcd]) rfl rfl) (by rintro _ _ ⟨rfl, rfl⟩; exact ⟨[], rfl, trivial, rfl⟩)) rfl rfl rfl
 intro θ R hd
 obtain ⟨h3d, _⟩ := hd
 exact Opp.on (OG.imp (OD.move rfl rfl) (by rintro _ _ ⟨rfl, rfl⟩; exact ⟨[], rfl, trivial, rfl⟩)) rfl rfl rfl
 intro θ R hd
 obtain ⟨h3d, h4d, h5d, _⟩ := hd
 exact Opp.on (OG.imp (OG.imp (K' := fun v ow => v = .bool true ∧ ow = box g1 27 [.int .i64 (cr), vcd] :: own ++ R) (OG.call [.agg #[.int .i64 (cr), vcd], vy] ent46 rfl rfl rfl rfl (by exact (wordOk_w scd (Ent.drop 1 ecd.app) sy (Ent.drop 1 ey.app) (hl0) (by omega) ((Ent.drop 1 hg.app))))) (by rintro _ _ ⟨rfl, rfl⟩; exact ⟨congrArg Value.bool (hg3), rfl⟩)) (by rintro _ _ ⟨rfl, rfl⟩; exact ⟨[], rfl, trivial, rfl⟩)) rfl rfl rfl
 intro θ R hd
 obtain ⟨h3d, h6d, _⟩ := hd
 exact Opp.plain (OG.imp (OD.pickT rfl rfl rfl) (by rintro _ _ ⟨rfl, rfl⟩; exact ⟨[], rfl, trivial, rfl⟩)) rfl
 intro θ R hd
 obtain ⟨h7d, _⟩ := hd
 exact Opp.plain (OG.imp (OD.move rfl rfl) (by rintro _ _ ⟨rfl, rfl⟩; exact ⟨[], rfl, trivial, rfl⟩)) rfl
 intro θ R hd
 obtain ⟨h8d, _⟩ := hd
 exact Opp.on (OG.imp (OD.loadAgg rfl ti27 rfl (i := 0) rfl (us := [.int .i64 (cr), vcd]) rfl rfl) (by rintro _ _ ⟨rfl, rfl⟩; exact ⟨[], rfl, trivial, rfl⟩)) rfl rfl rfl
 intro θ R hd
 obtain ⟨h8d, _⟩ := hd
 exact Opp.on (OG.imp (OD.move rfl rfl) (by rintro _ _ ⟨rfl, rfl⟩; exact ⟨[], rfl, trivial, rfl⟩)) rfl rfl rfl
 intro θ R hd
 obtain ⟨h8d, _⟩ := hd
 exact Opp.on (OG.imp (OD.loadAgg rfl ti27 rfl (i := 0) rfl (us := [.int .i64 (cr), vcd]) rfl rfl) (by rintro _ _ ⟨rfl, rfl⟩; exact ⟨[], rfl, trivial, rfl⟩)) rfl rfl rfl
 intro θ R hd
 obtain ⟨h8d, h11d, _⟩ := hd
 exact Opp.on (OG.imp (OG.call [.agg #[.int .i64 (cr), vcd]] ent49 rfl rfl rfl rfl (by exact (rho_w scd (Ent.drop 1 ecd.app) ((wordB_ok hg2).1.1)))) (by rintro v4 _ ⟨_, rfl, hs5, rfl⟩; exact ⟨[v4], rfl, hs5, rfl⟩)) rfl rfl rfl
 intro θ R hd
 obtain ⟨h8d, h9d, h10d, h12d, _⟩ := hd
 exact Opp.on (OG.imp (OG.call [.agg #[.int .i64 (cr), vcd], vx, ((θ 12).getD 0 undef)] ent48 rfl rfl rfl rfl (by exact (actWeight_w scd (Ent.drop 2 ecd.app) sx (Ent.drop 2 ex.app) h12d (Ent.ints (i := 0) rfl) ((wordB_ok hg2).1.1) ((wordB_ok hg2).1.2) (⟨Nat.le_trans (wordB_ok hg2).2.1 (by decide), (wordB_ok hg2).2.2⟩) (by have := (wordB_ok hg2).1.1; rw [ones_len]; omega)))) (by rintro v6 _ ⟨_, rfl, hs7, rfl⟩; exact ⟨[v6], rfl, hs7, rfl⟩)) rfl rfl rfl
 intro θ R hd
 obtain ⟨h8d, _⟩ := hd
 exact Opp.on (OG.imp (OD.loadAgg rfl ti27 rfl (i := 0) rfl (us := [.int .i64 (cr), vcd]) rfl rfl) (by rintro _ _ ⟨rfl, rfl⟩; exact ⟨[], rfl, trivial, rfl⟩)) rfl rfl rfl
 intro θ R hd
 obtain ⟨h8d, _⟩ := hd
 exact Opp.on (OG.imp (OD.move rfl rfl) (by rintro _ _ ⟨rfl, rfl⟩; exact ⟨[], rfl, trivial, rfl⟩)) rfl rfl rfl
 intro θ R hd
 obtain ⟨h8d, _⟩ := hd
 exact Opp.on (OG.imp (OD.loadAgg rfl ti27 rfl (i := 0) rfl (us := [.int .i64 (cr), vcd]) rfl rfl) (by rintro _ _ ⟨rfl, rfl⟩; exact ⟨[], rfl, trivial, rfl⟩)) rfl rfl rfl
 intro θ R hd
 obtain ⟨h8d, h16d, _⟩ := hd
 exact Opp.on (OG.imp (OG.call [.agg #[.int .i64 (cr), vcd]] ent49 rfl rfl rfl rfl (by exact (rho_w scd (Ent.drop 1 ecd.app) ((wordB_ok hg2).1.1)))) (by rintro v8 _ ⟨_, rfl, hs9, rfl⟩; exact ⟨[v8], rfl, hs9, rfl⟩)) rfl rfl rfl
 intro θ R hd
 obtain ⟨h8d, h14d, h15d, h17d, _⟩ := hd
 exact Opp.on (OG.imp (OG.call [.agg #[.int .i64 (cr), vcd], vy, ((θ 17).getD 0 undef)] ent48 rfl rfl rfl rfl (by exact (actWeight_w scd (Ent.drop 2 ecd.app) sy (Ent.drop 2 ey.app) h17d (Ent.ints (i := 0) rfl) ((wordB_ok hg2).1.1) ((wordB_ok hg2).1.2) (⟨Nat.le_trans (wordB_ok hg3).2.1 (by decide), (wordB_ok hg3).2.2⟩) (by have := (wordB_ok hg2).1.1; rw [ones_len]; omega)))) (by rintro v10 _ ⟨_, rfl, hs11, rfl⟩; exact ⟨[v10], rfl, hs11, rfl⟩)) rfl rfl rfl
 intro θ R hd
 obtain ⟨h8d, h13d, h18d, _⟩ := hd
 exact Opp.on (OG.imp (OG.call [((θ 13).getD 0 undef), ((θ 18).getD 0 undef)] ent47 rfl rfl rfl rfl (by exact (slicesEqual_s h13d (Ent.ints (i := 1) rfl) h18d (Ent.ints (i := 3) rfl) (by have := (wordB_ok hg2).1.1; rw [actF_len, ones_len]; omega)))) (by rintro _ _ ⟨rfl, rfl⟩; exact ⟨[], rfl, trivial, rfl⟩)) rfl rfl rfl
 intro θ R hd
 obtain ⟨h8d, h19d, _⟩ := hd
 exact Opp.plain (OG.imp (OD.pickT rfl rfl rfl) (by rintro _ _ ⟨rfl, rfl⟩; exact ⟨[], rfl, trivial, rfl⟩)) rfl
 intro θ hall
 obtain ⟨_, _, _, _, _, _, _, _, _, _, _, _, h12a, h13a, _, _, _, h17a, h18a, _, _, _⟩ := hall
 refine G.at [] 0 (env' := [(6, .bool false), (27, .bool (samB (actF cr cd x (ones cr 1)) (actF cr cd y (ones cr 1))))]) ⟨rfl, rfl, trivial⟩ (own' := ints 3 ((θ 12).getD 0 undef) (ones cr 1) :: ints 3 ((θ 13).getD 0 undef) (actF cr cd x (ones cr 1)) :: ints 3 ((θ 17).getD 0 undef) (ones cr 1) :: ints 3 ((θ 18).getD 0 undef) (actF cr cd y (ones cr 1)) :: box g1 27 [.int .i64 (cr), vcd] :: own) rfl ?_
 have hs12 : IsS ((θ 12).getD 0 undef) := h12a
 clear h12a
 generalize ((θ 12).getD 0 undef) = v13 at *
 have hs14 : IsS ((θ 13).getD 0 undef) := h13a
 clear h13a
 generalize ((θ 13).getD 0 undef) = v15 at *
 have hs16 : IsS ((θ 17).getD 0 undef) := h17a
 clear h17a
 generalize ((θ 17).getD 0 undef) = v17 at *
 have hs18 : IsS ((θ 18).getD 0 undef) := h18a
 clear h18a
 generalize ((θ 18).getD 0 undef) = v19 at *
 show G _ _ _ [_] _ _ _ _
 refine G.stepD (OD.assign rfl rfl) rfl rfl rfl ?_
 refine G.nil (GE.then_ (GC.ret ?_))
 exact GE.body [] 5 (res1 rfl rfl) rfl (⟨congrArg (fun (a0 : Bool) => (.bool (a0) : Value)) ((by rw [seB, hg2, hg3]; first | rfl | simp : (samB (actF cr cd x (ones cr 1)) (actF cr cd y (ones cr 1)) : Bool) = seB cr cd x y)), rfl⟩)
 refine GC.at [] 0 (env' := [(1, vx), (2, vy), (3, .pointer (some ⟨g1, 0, none⟩)), (6, .bool false)]) ⟨rfl, rfl, rfl, rfl, trivial⟩ rfl ?_
 refine GC.par (its := [⟨7, [], [], [], [], fun _ => .agg #[.int .i64 (cr), vcd], fun _ => True, fun _ => []⟩,
     ⟨8, [], [], [], [], fun _ => vx, fun _ => True, fun _ => []⟩,
     ⟨9, [(0, 7), (1, 8)], [], [], [], fun _ => .bool true, fun _ => True, fun _ => []⟩,
     ⟨10, [(2, 9)], [], [], [], fun _ => .bool true, fun _ => True, fun _ => []⟩,
     ⟨11, [(3, 10)], [], [], [], fun _ => .agg #[.int .i64 (cr), vcd], fun _ => True, fun _ => []⟩,
     ⟨12, [(3, 10)], [], [], [], fun _ => vy, fun _ => True, fun _ => []⟩,
     ⟨13, [(3, 10), (4, 11), (5, 12)], [], [], [], fun _ => .bool false, fun _ => True, fun _ => []⟩,
     ⟨14, [(3, 10), (6, 13)], [], [], [], fun _ => .bool false, fun _ => True, fun _ => []⟩,
     ⟨15, [(7, 14)], [], [], [], fun _ => .bool false, fun _ => True, fun _ => []⟩,
     ⟨16, [(8, 15)], [], [], [], fun _ => undef, fun _ => True, fun _ => []⟩,
     ⟨17, [(8, 15)], [], [], [], fun _ => undef, fun _ => True, fun _ => []⟩,
     ⟨18, [(8, 15)], [], [], [], fun _ => undef, fun _ => True, fun _ => []⟩,
     ⟨19, [(8, 15), (11, 18)], [], [], [], fun _ => undef, fun _ => True, fun _ => []⟩,
     ⟨20, [(8, 15), (9, 16), (10, 17), (12, 19)], [], [], [], fun _ => undef, fun _ => True, fun _ => []⟩,
     ⟨21, [(8, 15)], [], [], [], fun _ => undef, fun _ => True, fun _ => []⟩,
     ⟨22, [(8, 15)], [], [], [], fun _ => undef, fun _ => True, fun _ => []⟩,
     ⟨23, [(8, 15)], [], [], [], fun _ => undef, fun _ => True, fun _ => []⟩,
     ⟨24, [(8, 15), (16, 23)], [], [], [], fun _ => undef, fun _ => True, fun _ => []⟩,
     ⟨25, [(8, 15), (14, 21), (15, 22), (17, 24)], [], [], [], fun _ => undef, fun _ => True, fun _ => []⟩,
     ⟨26, [(8, 15), (13, 20), (18, 25)], [], [], [], fun _ => undef, fun _ => True, fun _ => []⟩,
     ⟨27, [(8, 15), (19, 26)], [], [], [], fun _ => .bool false, fun _ => True, fun _ => []⟩]) (by kernel_rfl) (by kernel_rfl) (POps.cons ?_ (POps.cons ?_ (POps.cons ?_ (POps.cons ?_ (POps.cons ?_ (POps.cons ?_ (POps.cons ?_ (POps.cons ?_ (POps.cons ?_ (POps.cons ?_ (POps.cons ?_ (POps.cons ?_ (POps.cons ?_ (POps.cons ?_ (POps.cons ?_ (POps.cons ?_ (POps.cons ?_ (POps.cons ?_ (POps.cons ?_ (POps.cons ?_ (POps.cons ?_ POps.nil))))))))))))))))))))) ?_
 intro θ R hd
 exact Opp.plain (OG.imp (OD.loadAgg rfl ti27 rfl (i := 0) rfl (us := [.int .i64 (cr), vcd]) rfl rfl) (by rintro _ _ ⟨rfl, rfl⟩; exact ⟨[], rfl, trivial, rfl⟩)) rfl
 intro θ R hd
 exact Opp.plain (OG.imp (OD.move rfl rfl) (by rintro _ _ ⟨rfl, rfl⟩; exact ⟨[], rfl, trivial, rfl⟩)) rfl
 intro θ R hd
 obtain ⟨h0d, h1d, _⟩ := hd
 exact Opp.plain (OG.imp (OG.imp (K' := fun v ow => v = .bool true ∧ ow = box g1 27 [.int .i64 (cr), vcd] :: own ++ R) (OG.call [.agg #[.int .i64 (cr), vcd], vx] ent46 rfl rfl rfl rfl (by exact (wordOk_w scd (Ent.drop 1 ecd.app) sx (Ent.drop 1 ex.app) (hl0) (by omega) ((Ent.drop 1 hg.app))))) (by rintro _ _ ⟨rfl, rfl⟩; exact ⟨congrArg Value.bool (hg2), rfl⟩)) (by rintro _ _ ⟨rfl, rfl⟩; exact ⟨[], rfl, trivial, rfl⟩)) rfl
 intro θ R hd
 obtain ⟨h2d, _⟩ := hd
 exact Opp.plain (OG.imp (OD.move rfl rfl) (by rintro _ _ ⟨rfl, rfl⟩; exact ⟨[], rfl, trivial, rfl⟩)) rfl
 intro θ R hd
 obtain ⟨h3d, _⟩ := hd
 exact Opp.on (OG.imp (OD.loadAgg rfl ti27 rfl (i := 0) rfl (us := [.int .i64 (cr), vcd]) rfl rfl) (by rintro _ _ ⟨rfl, rfl⟩; exact ⟨[], rfl, trivial, rfl⟩)) rfl rfl rfl
 intro θ R hd
 obtain ⟨h3d, _⟩ := hd
 exact Opp.on (OG.imp (OD.move rfl rfl) (by rintro _ _ ⟨rfl, rfl⟩; exact ⟨[], rfl, trivial, rfl⟩)) rfl rfl rfl
 intro θ R hd
 obtain ⟨h3d, h4d, h5d, _⟩ := hd
 exact Opp.on (OG.imp (OG.imp (K' := fun v ow => v = .bool false ∧ ow = box g1 27 [.int .i64 (cr), vcd] :: own ++ R) (OG.call [.agg #[.int .i64 (cr), vcd], vy] ent46 rfl rfl rfl rfl (by exact (wordOk_w scd (Ent.drop 1 ecd.app) sy (Ent.drop 1 ey.app) (hl0) (by omega) ((Ent.drop 1 hg.app))))) (by rintro _ _ ⟨rfl, rfl⟩; exact ⟨congrArg Value.bool (hg3), rfl⟩)) (by rintro _ _ ⟨rfl, rfl⟩; exact ⟨[], rfl, trivial, rfl⟩)) rfl rfl rfl
 intro θ R hd
 obtain ⟨h3d, h6d, _⟩ := hd
 exact Opp.plain (OG.imp (OD.pickT rfl rfl rfl) (by rintro _ _ ⟨rfl, rfl⟩; exact ⟨[], rfl, trivial, rfl⟩)) rfl
 intro θ R hd
 obtain ⟨h7d, _⟩ := hd
 exact Opp.plain (OG.imp (OD.move rfl rfl) (by rintro _ _ ⟨rfl, rfl⟩; exact ⟨[], rfl, trivial, rfl⟩)) rfl
 intro θ R hd
 obtain ⟨h8d, _⟩ := hd
 exact Opp.off ⟨[], rfl, trivial, rfl⟩ rfl rfl rfl rfl
 intro θ R hd
 obtain ⟨h8d, _⟩ := hd
 exact Opp.off ⟨[], rfl, trivial, rfl⟩ rfl rfl rfl rfl
 intro θ R hd
 obtain ⟨h8d, _⟩ := hd
 exact Opp.off ⟨[], rfl, trivial, rfl⟩ rfl rfl rfl rfl
 intro θ R hd
 obtain ⟨h8d, h11d, _⟩ := hd
 exact Opp.off ⟨[], rfl, trivial, rfl⟩ rfl rfl rfl rfl
 intro θ R hd
 obtain ⟨h8d, h9d, h10d, h12d, _⟩ := hd
 exact Opp.off ⟨[], rfl, trivial, rfl⟩ rfl rfl rfl rfl
 intro θ R hd
 obtain ⟨h8d, _⟩ := hd
 exact Opp.off ⟨[], rfl, trivial, rfl⟩ rfl rfl rfl rfl
 intro θ R hd
 obtain ⟨h8d, _⟩ := hd
 exact Opp.off ⟨[], rfl, trivial, rfl⟩ rfl rfl rfl rfl
 intro θ R hd
 obtain ⟨h8d, _⟩ := hd
 exact Opp.off ⟨[], rfl, trivial, rfl⟩ rfl rfl rfl rfl
 intro θ R hd
 obtain ⟨h8d, h16d, _⟩ := hd
 exact Opp.off ⟨[], rfl, trivial, rfl⟩ rfl rfl rfl rfl
 intro θ R hd
 obtain ⟨h8d, h14d, h15d, h17d, _⟩ := hd
 exact Opp.off ⟨[], rfl, trivial, rfl⟩ rfl rfl rfl rfl
 intro θ R hd
 obtain ⟨h8d, h13d, h18d, _⟩ := hd
 exact Opp.off ⟨[], rfl, trivial, rfl⟩ rfl rfl rfl rfl
 intro θ R hd
 obtain ⟨h8d, h19d, _⟩ := hd
 exact Opp.plain (OG.imp (OD.pickF rfl rfl rfl) (by rintro _ _ ⟨rfl, rfl⟩; exact ⟨[], rfl, trivial, rfl⟩)) rfl
 intro θ hall
 obtain ⟨_, _, _, _, _, _, _, _, _, _, _, _, _, _, _, _, _, _, _, _, _, _⟩ := hall
 refine G.at [] 0 (env' := [(6, .bool false), (27, .bool false)]) ⟨rfl, rfl, trivial⟩ (own' := box g1 27 [.int .i64 (cr), vcd] :: own) rfl ?_
 show G _ _ _ [_] _ _ _ _
 refine G.stepD (OD.assign rfl rfl) rfl rfl rfl ?_
 refine G.nil (GE.then_ (GC.ret ?_))
 exact GE.body [] 1 (res1 rfl rfl) rfl (⟨congrArg (fun (a0 : Bool) => (.bool (a0) : Value)) ((by rw [seB, hg2, hg3]; first | rfl | simp : (false : Bool) = seB cr cd x y)), rfl⟩)
 refine GC.at [] 0 (env' := [(1, vx), (2, vy), (3, .pointer (some ⟨g1, 0, none⟩)), (6, .bool false)]) ⟨rfl, rfl, rfl, rfl, trivial⟩ rfl ?_
 refine GC.par (its := [⟨7, [], [], [], [], fun _ => .agg #[.int .i64 (cr), vcd], fun _ => True, fun _ => []⟩,
     ⟨8, [], [], [], [], fun _ => vx, fun _ => True, fun _ => []⟩,
     ⟨9, [(0, 7), (1, 8)], [], [], [], fun _ => .bool false, fun _ => True, fun _ => []⟩,
     ⟨10, [(2, 9)], [], [], [], fun _ => .bool false, fun _ => True, fun _ => []⟩,
     ⟨11, [(3, 10)], [], [], [], fun _ => undef, fun _ => True, fun _ => []⟩,
     ⟨12, [(3, 10)], [], [], [], fun _ => undef, fun _ => True, fun _ => []⟩,
     ⟨13, [(3, 10), (4, 11), (5, 12)], [], [], [], fun _ => undef, fun _ => True, fun _ => []⟩,
     ⟨14, [(3, 10), (6, 13)], [], [], [], fun _ => .bool false, fun _ => True, fun _ => []⟩,
     ⟨15, [(7, 14)], [], [], [], fun _ => .bool false, fun _ => True, fun _ => []⟩,
     ⟨16, [(8, 15)], [], [], [], fun _ => undef, fun _ => True, fun _ => []⟩,
     ⟨17, [(8, 15)], [], [], [], fun _ => undef, fun _ => True, fun _ => []⟩,
     ⟨18, [(8, 15)], [], [], [], fun _ => undef, fun _ => True, fun _ => []⟩,
     ⟨19, [(8, 15), (11, 18)], [], [], [], fun _ => undef, fun _ => True, fun _ => []⟩,
     ⟨20, [(8, 15), (9, 16), (10, 17), (12, 19)], [], [], [], fun _ => undef, fun _ => True, fun _ => []⟩,
     ⟨21, [(8, 15)], [], [], [], fun _ => undef, fun _ => True, fun _ => []⟩,
     ⟨22, [(8, 15)], [], [], [], fun _ => undef, fun _ => True, fun _ => []⟩,
     ⟨23, [(8, 15)], [], [], [], fun _ => undef, fun _ => True, fun _ => []⟩,
     ⟨24, [(8, 15), (16, 23)], [], [], [], fun _ => undef, fun _ => True, fun _ => []⟩,
     ⟨25, [(8, 15), (14, 21), (15, 22), (17, 24)], [], [], [], fun _ => undef, fun _ => True, fun _ => []⟩,
     ⟨26, [(8, 15), (13, 20), (18, 25)], [], [], [], fun _ => undef, fun _ => True, fun _ => []⟩,
     ⟨27, [(8, 15), (19, 26)], [], [], [], fun _ => .bool false, fun _ => True, fun _ => []⟩]) (by kernel_rfl) (by kernel_rfl) (POps.cons ?_ (POps.cons ?_ (POps.cons ?_ (POps.cons ?_ (POps.cons ?_ (POps.cons ?_ (POps.cons ?_ (POps.cons ?_ (POps.cons ?_ (POps.cons ?_ (POps.cons ?_ (POps.cons ?_ (POps.cons ?_ (POps.cons ?_ (POps.cons ?_ (POps.cons ?_ (POps.cons ?_ (POps.cons ?_ (POps.cons ?_ (POps.cons ?_ (POps.cons ?_ POps.nil))))))))))))))))))))) ?_
 intro θ R hd
 exact Opp.plain (OG.imp (OD.loadAgg rfl ti27 rfl (i := 0) rfl (us := [.int .i64 (cr), vcd]) rfl rfl) (by rintro _ _ ⟨rfl, rfl⟩; exact ⟨[], rfl, trivial, rfl⟩)) rfl
 intro θ R hd
 exact Opp.plain (OG.imp (OD.move rfl rfl) (by rintro _ _ ⟨rfl, rfl⟩; exact ⟨[], rfl, trivial, rfl⟩)) rfl
 intro θ R hd
 obtain ⟨h0d, h1d, _⟩ := hd
 exact Opp.plain (OG.imp (OG.imp (K' := fun v ow => v = .bool false ∧ ow = box g1 27 [.int .i64 (cr), vcd] :: own ++ R) (OG.call [.agg #[.int .i64 (cr), vcd], vx] ent46 rfl rfl rfl rfl (by exact (wordOk_w scd (Ent.drop 1 ecd.app) sx (Ent.drop 1 ex.app) (hl0) (by omega) ((Ent.drop 1 hg.app))))) (by rintro _ _ ⟨rfl, rfl⟩; exact ⟨congrArg Value.bool (hg2), rfl⟩)) (by rintro _ _ ⟨rfl, rfl⟩; exact ⟨[], rfl, trivial, rfl⟩)) rfl
 intro θ R hd
 obtain ⟨h2d, _⟩ := hd
 exact Opp.plain (OG.imp (OD.move rfl rfl) (by rintro _ _ ⟨rfl, rfl⟩; exact ⟨[], rfl, trivial, rfl⟩)) rfl
 intro θ R hd
 obtain ⟨h3d, _⟩ := hd
 exact Opp.off ⟨[], rfl, trivial, rfl⟩ rfl rfl rfl rfl
 intro θ R hd
 obtain ⟨h3d, _⟩ := hd
 exact Opp.off ⟨[], rfl, trivial, rfl⟩ rfl rfl rfl rfl
 intro θ R hd
 obtain ⟨h3d, h4d, h5d, _⟩ := hd
 exact Opp.off ⟨[], rfl, trivial, rfl⟩ rfl rfl rfl rfl
 intro θ R hd
 obtain ⟨h3d, h6d, _⟩ := hd
 exact Opp.plain (OG.imp (OD.pickF rfl rfl rfl) (by rintro _ _ ⟨rfl, rfl⟩; exact ⟨[], rfl, trivial, rfl⟩)) rfl
 intro θ R hd
 obtain ⟨h7d, _⟩ := hd
 exact Opp.plain (OG.imp (OD.move rfl rfl) (by rintro _ _ ⟨rfl, rfl⟩; exact ⟨[], rfl, trivial, rfl⟩)) rfl
 intro θ R hd
 obtain ⟨h8d, _⟩ := hd
 exact Opp.off ⟨[], rfl, trivial, rfl⟩ rfl rfl rfl rfl
 intro θ R hd
 obtain ⟨h8d, _⟩ := hd
 exact Opp.off ⟨[], rfl, trivial, rfl⟩ rfl rfl rfl rfl
 intro θ R hd
 obtain ⟨h8d, _⟩ := hd
 exact Opp.off ⟨[], rfl, trivial, rfl⟩ rfl rfl rfl rfl
 intro θ R hd
 obtain ⟨h8d, h11d, _⟩ := hd
 exact Opp.off ⟨[], rfl, trivial, rfl⟩ rfl rfl rfl rfl
 intro θ R hd
 obtain ⟨h8d, h9d, h10d, h12d, _⟩ := hd
 exact Opp.off ⟨[], rfl, trivial, rfl⟩ rfl rfl rfl rfl
 intro θ R hd
 obtain ⟨h8d, _⟩ := hd
 exact Opp.off ⟨[], rfl, trivial, rfl⟩ rfl rfl rfl rfl
 intro θ R hd
 obtain ⟨h8d, _⟩ := hd
 exact Opp.off ⟨[], rfl, trivial, rfl⟩ rfl rfl rfl rfl
 intro θ R hd
 obtain ⟨h8d, _⟩ := hd
 exact Opp.off ⟨[], rfl, trivial, rfl⟩ rfl rfl rfl rfl
 intro θ R hd
 obtain ⟨h8d, h16d, _⟩ := hd
 exact Opp.off ⟨[], rfl, trivial, rfl⟩ rfl rfl rfl rfl
 intro θ R hd
 obtain ⟨h8d, h14d, h15d, h17d, _⟩ := hd
 exact Opp.off ⟨[], rfl, trivial, rfl⟩ rfl rfl rfl rfl
 intro θ R hd
 obtain ⟨h8d, h13d, h18d, _⟩ := hd
 exact Opp.off ⟨[], rfl, trivial, rfl⟩ rfl rfl rfl rfl
 intro θ R hd
 obtain ⟨h8d, h19d, _⟩ := hd
 exact Opp.plain (OG.imp (OD.pickF rfl rfl rfl) (by rintro _ _ ⟨rfl, rfl⟩; exact ⟨[], rfl, trivial, rfl⟩)) rfl
 intro θ hall
 obtain ⟨_, _, _, _, _, _, _, _, _, _, _, _, _, _, _, _, _, _, _, _, _, _⟩ := hall
 refine G.at [] 0 (env' := [(6, .bool false), (27, .bool false)]) ⟨rfl, rfl, trivial⟩ (own' := box g1 27 [.int .i64 (cr), vcd] :: own) rfl ?_
 show G _ _ _ [_] _ _ _ _
 refine G.stepD (OD.assign rfl rfl) rfl rfl rfl ?_
 refine G.nil (GE.then_ (GC.ret ?_))
 exact GE.body [] 1 (res1 rfl rfl) rfl (⟨congrArg (fun (a0 : Bool) => (.bool (a0) : Value)) ((by rw [seB, hg2]; first | rfl | simp : (false : Bool) = seB cr cd x y)), rfl⟩)

set_option maxHeartbeats 4000000 in
set_option maxRecDepth 100000 in
theorem specSameElement_w {W : World} {own : List Asn} {cr : Int} {vcd : Value} {cd : List Int} {vx : Value} {x : List Int} {vy : Value} {y : List Int}  (scd : IsS vcd) (ecd : Ent own fun w => Ints w vcd cd)   (sx : IsS vx) (ex : Ent own fun w => Ints w vx x)   (sy : IsS vy) (ey : Ent own fun w => Ints w vy y)  (hl0 : cd.length ≤ 1073741824) (hl : x.length ≤ 1073741824) (hly : y.length ≤ 1073741824) : Spec Tryd.prog 13 [.agg #[.int .i64 (cr), vcd], vx, vy] W own (fun v ow => v = .bool (seB cr cd x y) ∧ ow = own) := by
 refine Spec.enter Tryd.f13 _ Tryd.func13 rfl (n := 28) rfl rfl ?_
 refine GC.seq (GC.region ?_)
 refine G.step (OG.box (cs := [.int .i64 (cr), vcd]) rfl rfl rfl) rfl rfl rfl ?_
 rintro _ _ ⟨g1, rfl, rfl⟩
 refine G.stepD (OD.assign rfl rfl) rfl rfl rfl ?_
 refine G.nil (GE.then_ (GC.seq ?_))
 rcases Bool.eq_false_or_eq_true (wordB cr cd x) with hg2 | hg2
 rcases Bool.eq_false_or_eq_true (wordB cr cd y) with hg3 | hg3
 refine GC.at [] 0 (env' := [(1, vx), (2, vy), (3, .pointer (some ⟨g1, 0, none⟩)), (6, .bool false)]) ⟨rfl, rfl, rfl, rfl, trivial⟩ rfl ?_
 refine GC.par (its := [⟨7, [], [], [], [], fun _ => .agg #[.int .i64 (cr), vcd], fun _ => True, fun _ => []⟩,
     ⟨8, [], [], [], [], fun _ => vx, fun _ => True, fun _ => []⟩,
     ⟨9, [(0, 7), (1, 8)], [], [], [], fun _ => .bool true, fun _ => True, fun _ => []⟩,
     ⟨10, [(2, 9)], [], [], [], fun _ => .bool true, fun _ => True, fun _ => []⟩,
     ⟨11, [(3, 10)], [], [], [], fun _ => .agg #[.int .i64 (cr), vcd], fun _ => True, fun _ => []⟩,
     ⟨12, [(3, 10)], [], [], [], fun _ => vy, fun _ => True, fun _ => []⟩,
     ⟨13, [(3, 10), (4, 11), (5, 12)], [], [], [], fun _ => .bool true, fun _ => True, fun _ => []⟩,
     ⟨14, [(3, 10), (6, 13)], [], [], [], fun _ => .bool true, fun _ => True, fun _ => []⟩,
     ⟨15, [(7, 14)], [], [], [], fun _ => .bool true, fun _ => True, fun _ => []⟩,
     ⟨16, [(8, 15)], [], [], [], fun _ => .agg #[.int .i64 (cr), vcd], fun _ => True, fun _ => []⟩,
     ⟨17, [(8, 15)], [], [], [], fun _ => vx, fun _ => True, fun _ => []⟩,
     ⟨18, [(8, 15)], [], [], [], fun _ => .agg #[.int .i64 (cr), vcd], fun _ => True, fun _ => []⟩,
     ⟨19, [(8, 15), (11, 18)], [], [], [12], fun ds => ((ds.getD 0 []).getD 0 undef), fun ds => IsS ((ds.getD 0 []).getD 0 undef), fun ds => [ints 3 ((ds.getD 0 []).getD 0 undef) (ones cr 1)]⟩,
     ⟨20, [(8, 15), (9, 16), (10, 17), (12, 19)], [12], [], [12, 13], fun ds => ((ds.getD 1 []).getD 0 undef), fun ds => IsS ((ds.getD 1 []).getD 0 undef), fun ds => [ints 3 ((ds.getD 1 []).getD 0 undef) (actF cr cd x (ones cr 1))]⟩,
     ⟨21, [(8, 15)], [], [], [], fun _ => .agg #[.int .i64 (cr), vcd], fun _ => True, fun _ => []⟩,
     ⟨22, [(8, 15)], [], [], [], fun _ => vy, fun _ => True, fun _ => []⟩,
     ⟨23, [(8, 15)], [], [], [], fun _ => .agg #[.int .i64 (cr), vcd], fun _ => True, fun _ => []⟩,
     ⟨24, [(8, 15), (16, 23)], [], [], [17], fun ds => ((ds.getD 0 []).getD 0 undef), fun ds => IsS ((ds.getD 0 []).getD 0 undef), fun ds => [ints 3 ((ds.getD 0 []).getD 0 undef) (ones cr 1)]⟩,
     ⟨25, [(8, 15), (14, 21), (15, 22), (17, 24)], [17], [], [17, 18], fun ds => ((ds.getD 1 []).getD 0 undef), fun ds => IsS ((ds.getD 1 []).getD 0 undef), fun ds => [ints 3 ((ds.getD 1 []).getD 0 undef) (actF cr cd y (ones cr 1))]⟩,
     ⟨26, [(8, 15), (13, 20), (18, 25)], [12, 13, 17, 18], [], [12, 13, 17, 18], fun _ => .bool (samB (actF cr cd x (ones cr 1)) (actF cr cd y (ones cr 1))), fun _ => True, fun _ => []⟩,
     ⟨27, [(8, 15), (19, 26)], [12, 13, 17, 18], [], [12, 13, 17, 18], fun _ => .bool (samB (actF cr cd x (ones cr 1)) (actF cr cd y (ones cr 1))), fun _ => True, fun _ => []⟩]) (by kernel_rfl) (by kernel_rfl) (POps.cons ?_ (POps.cons ?_ (POps.cons ?_ (POps.cons ?_ (POps.cons ?_ (POps.cons ?_ (POps.cons ?_ (POps.cons ?_ (POps.cons ?_ (POps.cons ?_ (POps.cons ?_ (POps.cons ?_ (POps.cons ?_ (POps.cons ?_ (POps.cons ?_ (POps.cons ?_ (POps.cons ?_ (POps.cons ?_ (POps.cons ?_ (POps.cons ?_ (POps.cons ?_ POps.nil))))))))))))))))))))) ?_
 intro θ R hd
 exact Opp.plain (OG.imp (OD.loadAgg rfl ti27 rfl (i := 0) rfl (us := [.int .i64 (cr), vcd]) rfl rfl) (by rintro _ _ ⟨rfl, rfl⟩; exact ⟨[], rfl, trivial, rfl⟩)) rfl
 intro θ R hd
 exact Opp.plain (OG.imp (OD.move rfl rfl) (by rintro _ _ ⟨rfl, rfl⟩; exact ⟨[], rfl, trivial, rfl⟩)) rfl
 intro θ R hd
 obtain ⟨h0d, h1d, _⟩ := hd
 exact Opp.plain (OG.imp (OG.imp (K' := fun v ow => v = .bool true ∧ ow = box g1 27 [.int .i64 (cr), vcd] :: own ++ R) (OG.call [.agg #[.int .i64 (cr), vcd], vx] ent42 rfl rfl rfl rfl (by exact (specWordOk_w scd (Ent.drop 1 ecd.app) sx (Ent.drop 1 ex.app) (hl0) (by omega)))) (by rintro _ _ ⟨rfl, rfl⟩; exact ⟨congrArg Value.bool (hg2), rfl⟩)) (by rintro _ _ ⟨rfl, rfl⟩; exact ⟨[], rfl, trivial, rfl⟩)) rfl
 intro θ R hd
 obtain ⟨h2d, _⟩ := hd
 exact Opp.plain (OG.imp (OD.move rfl rfl) (by rintro _ _ ⟨rfl, rfl⟩; exact ⟨[], rfl, trivial, rfl⟩)) rfl
 intro θ R hd
 obtain ⟨h3d, _⟩ := hd
 exact Opp.on (OG.imp (OD.loadAgg rfl ti27 rfl (i := 0) rfl (us := [.int .i64 (cr), vcd]) rfl rfl) (by rintro _ _ ⟨rfl, rfl⟩; exact ⟨[], rfl, trivial, rfl⟩)) rfl rfl rfl
 intro θ R hd
 obtain ⟨h3d, _⟩ := hd
 exact Opp.on (OG.imp (OD.move rfl rfl) (by rintro _ _ ⟨rfl, rfl⟩; exact ⟨[], rfl, trivial, rfl⟩)) rfl rfl rfl
 intro θ R hd
 obtain ⟨h3d, h4d, h5d, _⟩ := hd
 exact Opp.on (OG.imp (OG.imp (K' := fun v ow => v = .bool true ∧ ow = box g1 27 [.int .i64 (cr), vcd] :: own ++ R) (OG.call [.agg #[.int .i64 (cr), vcd], vy] ent42 rfl rfl rfl rfl (by exact (specWordOk_w scd (Ent.drop 1 ecd.app) sy (Ent.drop 1 ey.app) (hl0) (by omega)))) (by rintro _ _ ⟨rfl, rfl⟩; exact ⟨congrArg Value.bool (hg3), rfl⟩)) (by rintro _ _ ⟨rfl, rfl⟩; exact ⟨[], rfl, trivial, rfl⟩)) rfl rfl rfl
 intro θ R hd
 obtain ⟨h3d, h6d, _⟩ := hd
 exact Opp.plain (OG.imp (OD.pickT rfl rfl rfl) (by rintro _ _ ⟨rfl, rfl⟩; exact ⟨[], rfl, trivial, rfl⟩)) rfl
 intro θ R hd
 obtain ⟨h7d, _⟩ := hd
 exact Opp.plain (OG.imp (OD.move rfl rfl) (by rintro _ _ ⟨rfl, rfl⟩; exact ⟨[], rfl, trivial, rfl⟩)) rfl
 intro θ R hd
 obtain ⟨h8d, _⟩ := hd
 exact Opp.on (OG.imp (OD.loadAgg rfl ti27 rfl (i := 0) rfl (us := [.int .i64 (cr), vcd]) rfl rfl) (by rintro _ _ ⟨rfl, rfl⟩; exact ⟨[], rfl, trivial, rfl⟩)) rfl rfl rfl
 intro θ R hd
 obtain ⟨h8d, _⟩ := hd
 exact Opp.on (OG.imp (OD.move rfl rfl) (by rintro _ _ ⟨rfl, rfl⟩; exact ⟨[], rfl, trivial, rfl⟩)) rfl rfl rfl
 intro θ R hd
 obtain ⟨h8d, _⟩ := hd
 exact Opp.on (OG.imp (OD.loadAgg rfl ti27 rfl (i := 0) rfl (us := [.int .i64 (cr), vcd]) rfl rfl) (by rintro _ _ ⟨rfl, rfl⟩; exact ⟨[], rfl, trivial, rfl⟩)) rfl rfl rfl
 intro θ R hd
 obtain ⟨h8d, h11d, _⟩ := hd
 exact Opp.on (OG.imp (OG.call [.agg #[.int .i64 (cr), vcd]] ent45 rfl rfl rfl rfl (by exact (l6Rho_w scd (Ent.drop 1 ecd.app) ((wordB_ok hg2).1.1)))) (by rintro v4 _ ⟨_, rfl, hs5, rfl⟩; exact ⟨[v4], rfl, hs5, rfl⟩)) rfl rfl rfl
 intro θ R hd
 obtain ⟨h8d, h9d, h10d, h12d, _⟩ := hd
 exact Opp.on (OG.imp (OG.call [.agg #[.int .i64 (cr), vcd], vx, ((θ 12).getD 0 undef)] ent44 rfl rfl rfl rfl (by exact (l6Act_w scd (Ent.drop 2 ecd.app) sx (Ent.drop 2 ex.app) h12d (Ent.ints (i := 0) rfl) ((wordB_ok hg2).1.1) ((wordB_ok hg2).1.2) (⟨Nat.le_trans (wordB_ok hg2).2.1 (by decide), (wordB_ok hg2).2.2⟩) (by have := (wordB_ok hg2).1.1; rw [ones_len]; omega)))) (by rintro v6 _ ⟨_, rfl, hs7, rfl⟩; exact ⟨[v6], rfl, hs7, rfl⟩)) rfl rfl rfl
 intro θ R hd
 obtain ⟨h8d, _⟩ := hd
 exact Opp.on (OG.imp (OD.loadAgg rfl ti27 rfl (i := 0) rfl (us := [.int .i64 (cr), vcd]) rfl rfl) (by rintro _ _ ⟨rfl, rfl⟩; exact ⟨[], rfl, trivial, rfl⟩)) rfl rfl rfl
 intro θ R hd
 obtain ⟨h8d, _⟩ := hd
 exact Opp.on (OG.imp (OD.move rfl rfl) (by rintro _ _ ⟨rfl, rfl⟩; exact ⟨[], rfl, trivial, rfl⟩)) rfl rfl rfl
 intro θ R hd
 obtain ⟨h8d, _⟩ := hd
 exact Opp.on (OG.imp (OD.loadAgg rfl ti27 rfl (i := 0) rfl (us := [.int .i64 (cr), vcd]) rfl rfl) (by rintro _ _ ⟨rfl, rfl⟩; exact ⟨[], rfl, trivial, rfl⟩)) rfl rfl rfl
 intro θ R hd
 obtain ⟨h8d, h16d, _⟩ := hd
 exact Opp.on (OG.imp (OG.call [.agg #[.int .i64 (cr), vcd]] ent45 rfl rfl rfl rfl (by exact (l6Rho_w scd (Ent.drop 1 ecd.app) ((wordB_ok hg2).1.1)))) (by rintro v8 _ ⟨_, rfl, hs9, rfl⟩; exact ⟨[v8], rfl, hs9, rfl⟩)) rfl rfl rfl
 intro θ R hd
 obtain ⟨h8d, h14d, h15d, h17d, _⟩ := hd
 exact Opp.on (OG.imp (OG.call [.agg #[.int .i64 (cr), vcd], vy, ((θ 17).getD 0 undef)] ent44 rfl rfl rfl rfl (by exact (l6Act_w scd (Ent.drop 2 ecd.app) sy (Ent.drop 2 ey.app) h17d (Ent.ints (i := 0) rfl) ((wordB_ok hg2).1.1) ((wordB_ok hg2).1.2) (⟨Nat.le_trans (wordB_ok hg3).2.1 (by decide), (wordB_ok hg3).2.2⟩) (by have := (wordB_ok hg2).1.1; rw [ones_len]; omega)))) (by rintro v10 _ ⟨_, rfl, hs11, rfl⟩; exact ⟨[v10], rfl, hs11, rfl⟩)) rfl rfl rfl
 intro θ R hd
 obtain ⟨h8d, h13d, h18d, _⟩ := hd
 exact Opp.on (OG.imp (OG.call [((θ 13).getD 0 undef), ((θ 18).getD 0 undef)] ent43 rfl rfl rfl rfl (by exact (l1Same_s h13d (Ent.ints (i := 1) rfl) h18d (Ent.ints (i := 3) rfl) (by have := (wordB_ok hg2).1.1; rw [actF_len, ones_len]; omega)))) (by rintro _ _ ⟨rfl, rfl⟩; exact ⟨[], rfl, trivial, rfl⟩)) rfl rfl rfl
 intro θ R hd
 obtain ⟨h8d, h19d, _⟩ := hd
 exact Opp.plain (OG.imp (OD.pickT rfl rfl rfl) (by rintro _ _ ⟨rfl, rfl⟩; exact ⟨[], rfl, trivial, rfl⟩)) rfl
 intro θ hall
 obtain ⟨_, _, _, _, _, _, _, _, _, _, _, _, h12a, h13a, _, _, _, h17a, h18a, _, _, _⟩ := hall
 refine G.at [] 0 (env' := [(6, .bool false), (27, .bool (samB (actF cr cd x (ones cr 1)) (actF cr cd y (ones cr 1))))]) ⟨rfl, rfl, trivial⟩ (own' := ints 3 ((θ 12).getD 0 undef) (ones cr 1) :: ints 3 ((θ 13).getD 0 undef) (actF cr cd x (ones cr 1)) :: ints 3 ((θ 17).getD 0 undef) (ones cr 1) :: ints 3 ((θ 18).getD 0 undef) (actF cr cd y (ones cr 1)) :: box g1 27 [.int .i64 (cr), vcd] :: own) rfl ?_
 have hs12 : IsS ((θ 12).getD 0 undef) := h12a
 clear h12a
 generalize ((θ 12).getD 0 undef) = v13 at *
 have hs14 : IsS ((θ 13).getD 0 undef) := h13a
 clear h13a
 generalize ((θ 13).getD 0 undef) = v15 at *
 have hs16 : IsS ((θ 17).getD 0 undef) := h17a
 clear h17a
 generalize ((θ 17).getD 0 undef) = v17 at *
 have hs18 : IsS ((θ 18).getD 0 undef) := h18a
 clear h18a
 generalize ((θ 18).getD 0 undef) = v19 at *
 show G _ _ _ [_] _ _ _ _
 refine G.stepD (OD.assign rfl rfl) rfl rfl rfl ?_
 refine G.nil (GE.then_ (GC.ret ?_))
 exact GE.body [] 5 (res1 rfl rfl) rfl (⟨congrArg (fun (a0 : Bool) => (.bool (a0) : Value)) ((by rw [seB, hg2, hg3]; first | rfl | simp : (samB (actF cr cd x (ones cr 1)) (actF cr cd y (ones cr 1)) : Bool) = seB cr cd x y)), rfl⟩)
 refine GC.at [] 0 (env' := [(1, vx), (2, vy), (3, .pointer (some ⟨g1, 0, none⟩)), (6, .bool false)]) ⟨rfl, rfl, rfl, rfl, trivial⟩ rfl ?_
 refine GC.par (its := [⟨7, [], [], [], [], fun _ => .agg #[.int .i64 (cr), vcd], fun _ => True, fun _ => []⟩,
     ⟨8, [], [], [], [], fun _ => vx, fun _ => True, fun _ => []⟩,
     ⟨9, [(0, 7), (1, 8)], [], [], [], fun _ => .bool true, fun _ => True, fun _ => []⟩,
     ⟨10, [(2, 9)], [], [], [], fun _ => .bool true, fun _ => True, fun _ => []⟩,
     ⟨11, [(3, 10)], [], [], [], fun _ => .agg #[.int .i64 (cr), vcd], fun _ => True, fun _ => []⟩,
     ⟨12, [(3, 10)], [], [], [], fun _ => vy, fun _ => True, fun _ => []⟩,
     ⟨13, [(3, 10), (4, 11), (5, 12)], [], [], [], fun _ => .bool false, fun _ => True, fun _ => []⟩,
     ⟨14, [(3, 10), (6, 13)], [], [], [], fun _ => .bool false, fun _ => True, fun _ => []⟩,
     ⟨15, [(7, 14)], [], [], [], fun _ => .bool false, fun _ => True, fun _ => []⟩,
     ⟨16, [(8, 15)], [], [], [], fun _ => undef, fun _ => True, fun _ => []⟩,
     ⟨17, [(8, 15)], [], [], [], fun _ => undef, fun _ => True, fun _ => []⟩,
     ⟨18, [(8, 15)], [], [], [], fun _ => undef, fun _ => True, fun _ => []⟩,
     ⟨19, [(8, 15), (11, 18)], [], [], [], fun _ => undef, fun _ => True, fun _ => []⟩,
     ⟨20, [(8, 15), (9, 16), (10, 17), (12, 19)], [], [], [], fun _ => undef, fun _ => True, fun _ => []⟩,
     ⟨21, [(8, 15)], [], [], [], fun _ => undef, fun _ => True, fun _ => []⟩,
     ⟨22, [(8, 15)], [], [], [], fun _ => undef, fun _ => True, fun _ => []⟩,
     ⟨23, [(8, 15)], [], [], [], fun _ => undef, fun _ => True, fun _ => []⟩,
     ⟨24, [(8, 15), (16, 23)], [], [], [], fun _ => undef, fun _ => True, fun _ => []⟩,
     ⟨25, [(8, 15), (14, 21), (15, 22), (17, 24)], [], [], [], fun _ => undef, fun _ => True, fun _ => []⟩,
     ⟨26, [(8, 15), (13, 20), (18, 25)], [], [], [], fun _ => undef, fun _ => True, fun _ => []⟩,
     ⟨27, [(8, 15), (19, 26)], [], [], [], fun _ => .bool false, fun _ => True, fun _ => []⟩]) (by kernel_rfl) (by kernel_rfl) (POps.cons ?_ (POps.cons ?_ (POps.cons ?_ (POps.cons ?_ (POps.cons ?_ (POps.cons ?_ (POps.cons ?_ (POps.cons ?_ (POps.cons ?_ (POps.cons ?_ (POps.cons ?_ (POps.cons ?_ (POps.cons ?_ (POps.cons ?_ (POps.cons ?_ (POps.cons ?_ (POps.cons ?_ (POps.cons ?_ (POps.cons ?_ (POps.cons ?_ (POps.cons ?_ POps.nil))))))))))))))))))))) ?_
 intro θ R hd
 exact Opp.plain (OG.imp (OD.loadAgg rfl ti27 rfl (i := 0) rfl (us := [.int .i64 (cr), vcd]) rfl rfl) (by rintro _ _ ⟨rfl, rfl⟩; exact ⟨[], rfl, trivial, rfl⟩)) rfl
 intro θ R hd
 exact Opp.plain (OG.imp (OD.move rfl rfl) (by rintro _ _ ⟨rfl, rfl⟩; exact ⟨[], rfl, trivial, rfl⟩)) rfl
 intro θ R hd
 obtain ⟨h0d, h1d, _⟩ := hd
 exact Opp.plain (OG.imp (OG.imp (K' := fun v ow => v = .bool true ∧ ow = box g1 27 [.int .i64 (cr), vcd] :: own ++ R) (OG.call [.agg #[.int .i64 (cr), vcd], vx] ent42 rfl rfl rfl rfl (by exact (specWordOk_w scd (Ent.drop 1 ecd.app) sx (Ent.drop 1 ex.app) (hl0) (by omega)))) (by rintro _ _ ⟨rfl, rfl⟩; exact ⟨congrArg Value.bool (hg2), rfl⟩)) (by rintro _ _ ⟨rfl, rfl⟩; exact ⟨[], rfl, trivial, rfl⟩)) rfl
 intro θ R hd
 obtain ⟨h2d, _⟩ := hd
 exact Opp.plain (OG.imp (OD.move rfl rfl) (by rintro _ _ ⟨rfl, rfl⟩; exact ⟨[], rfl, trivial, rfl⟩)) rfl
 intro θ R hd
 obtain ⟨h3d, _⟩ := hd
 exact Opp.on (OG.imp (OD.loadAgg rfl ti27 rfl (i := 0) rfl (us := [.int .i64 (cr), vcd]) rfl rfl) (by rintro _ _ ⟨rfl, rfl⟩; exact ⟨[], rfl, trivial, rfl⟩)) rfl rfl rfl
 intro θ R hd
 obtain ⟨h3d, _⟩ := hd
 exact Opp.on (OG.imp (OD.move rfl rfl) (by rintro _ _ ⟨rfl, rfl⟩; exact ⟨[], rfl, trivial, rfl⟩)) rfl rfl rfl
 intro θ R hd
 obtain ⟨h3d, h4d, h5d, _⟩ := hd
 exact Opp.on (OG.imp (OG.imp (K' := fun v ow => v = .bool false ∧ ow = box g1 27 [.int .i64 (cr), vcd] :: own ++ R) (OG.call [.agg #[.int .i64 (cr), vcd], vy] ent42 rfl rfl rfl rfl (by exact (specWordOk_w scd (Ent.drop 1 ecd.app) sy (Ent.drop 1 ey.app) (hl0) (by omega)))) (by rintro _ _ ⟨rfl, rfl⟩; exact ⟨congrArg Value.bool (hg3), rfl⟩)) (by rintro _ _ ⟨rfl, rfl⟩; exact ⟨[], rfl, trivial, rfl⟩)) rfl rfl rfl
 intro θ R hd
 obtain ⟨h3d, h6d, _⟩ := hd
 exact Opp.plain (OG.imp (OD.pickT rfl rfl rfl) (by rintro _ _ ⟨rfl, rfl⟩; exact ⟨[], rfl, trivial, rfl⟩)) rfl
 intro θ R hd
 obtain ⟨h7d, _⟩ := hd
 exact Opp.plain (OG.imp (OD.move rfl rfl) (by rintro _ _ ⟨rfl, rfl⟩; exact ⟨[], rfl, trivial, rfl⟩)) rfl
 intro θ R hd
 obtain ⟨h8d, _⟩ := hd
 exact Opp.off ⟨[], rfl, trivial, rfl⟩ rfl rfl rfl rfl
 intro θ R hd
 obtain ⟨h8d, _⟩ := hd
 exact Opp.off ⟨[], rfl, trivial, rfl⟩ rfl rfl rfl rfl
 intro θ R hd
 obtain ⟨h8d, _⟩ := hd
 exact Opp.off ⟨[], rfl, trivial, rfl⟩ rfl rfl rfl rfl
 intro θ R hd
 obtain ⟨h8d, h11d, _⟩ := hd
 exact Opp.off ⟨[], rfl, trivial, rfl⟩ rfl rfl rfl rfl
 intro θ R hd
 obtain ⟨h8d, h9d, h10d, h12d, _⟩ := hd
 exact Opp.off ⟨[], rfl, trivial, rfl⟩ rfl rfl rfl rfl
 intro θ R hd
 obtain ⟨h8d, _⟩ := hd
 exact Opp.off ⟨[], rfl, trivial, rfl⟩ rfl rfl rfl rfl
 intro θ R hd
 obtain ⟨h8d, _⟩ := hd
 exact Opp.off ⟨[], rfl, trivial, rfl⟩ rfl rfl rfl rfl
 intro θ R hd
 obtain ⟨h8d, _⟩ := hd
 exact Opp.off ⟨[], rfl, trivial, rfl⟩ rfl rfl rfl rfl
 intro θ R hd
 obtain ⟨h8d, h16d, _⟩ := hd
 exact Opp.off ⟨[], rfl, trivial, rfl⟩ rfl rfl rfl rfl
 intro θ R hd
 obtain ⟨h8d, h14d, h15d, h17d, _⟩ := hd
 exact Opp.off ⟨[], rfl, trivial, rfl⟩ rfl rfl rfl rfl
 intro θ R hd
 obtain ⟨h8d, h13d, h18d, _⟩ := hd
 exact Opp.off ⟨[], rfl, trivial, rfl⟩ rfl rfl rfl rfl
 intro θ R hd
 obtain ⟨h8d, h19d, _⟩ := hd
 exact Opp.plain (OG.imp (OD.pickF rfl rfl rfl) (by rintro _ _ ⟨rfl, rfl⟩; exact ⟨[], rfl, trivial, rfl⟩)) rfl
 intro θ hall
 obtain ⟨_, _, _, _, _, _, _, _, _, _, _, _, _, _, _, _, _, _, _, _, _, _⟩ := hall
 refine G.at [] 0 (env' := [(6, .bool false), (27, .bool false)]) ⟨rfl, rfl, trivial⟩ (own' := box g1 27 [.int .i64 (cr), vcd] :: own) rfl ?_
 show G _ _ _ [_] _ _ _ _
 refine G.stepD (OD.assign rfl rfl) rfl rfl rfl ?_
 refine G.nil (GE.then_ (GC.ret ?_))
 exact GE.body [] 1 (res1 rfl rfl) rfl (⟨congrArg (fun (a0 : Bool) => (.bool (a0) : Value)) ((by rw [seB, hg2, hg3]; first | rfl | simp : (false : Bool) = seB cr cd x y)), rfl⟩)
 refine GC.at [] 0 (env' := [(1, vx), (2, vy), (3, .pointer (some ⟨g1, 0, none⟩)), (6, .bool false)]) ⟨rfl, rfl, rfl, rfl, trivial⟩ rfl ?_
 refine GC.par (its := [⟨7, [], [], [], [], fun _ => .agg #[.int .i64 (cr), vcd], fun _ => True, fun _ => []⟩,
     ⟨8, [], [], [], [], fun _ => vx, fun _ => True, fun _ => []⟩,
     ⟨9, [(0, 7), (1, 8)], [], [], [], fun _ => .bool false, fun _ => True, fun _ => []⟩,
     ⟨10, [(2, 9)], [], [], [], fun _ => .bool false, fun _ => True, fun _ => []⟩,
     ⟨11, [(3, 10)], [], [], [], fun _ => undef, fun _ => True, fun _ => []⟩,
     ⟨12, [(3, 10)], [], [], [], fun _ => undef, fun _ => True, fun _ => []⟩,
     ⟨13, [(3, 10), (4, 11), (5, 12)], [], [], [], fun _ => undef, fun _ => True, fun _ => []⟩,
     ⟨14, [(3, 10), (6, 13)], [], [], [], fun _ => .bool false, fun _ => True, fun _ => []⟩,
     ⟨15, [(7, 14)], [], [], [], fun _ => .bool false, fun _ => True, fun _ => []⟩,
     ⟨16, [(8, 15)], [], [], [], fun _ => undef, fun _ => True, fun _ => []⟩,
     ⟨17, [(8, 15)], [], [], [], fun _ => undef, fun _ => True, fun _ => []⟩,
     ⟨18, [(8, 15)], [], [], [], fun _ => undef, fun _ => True, fun _ => []⟩,
     ⟨19, [(8, 15), (11, 18)], [], [], [], fun _ => undef, fun _ => True, fun _ => []⟩,
     ⟨20, [(8, 15), (9, 16), (10, 17), (12, 19)], [], [], [], fun _ => undef, fun _ => True, fun _ => []⟩,
     ⟨21, [(8, 15)], [], [], [], fun _ => undef, fun _ => True, fun _ => []⟩,
     ⟨22, [(8, 15)], [], [], [], fun _ => undef, fun _ => True, fun _ => []⟩,
     ⟨23, [(8, 15)], [], [], [], fun _ => undef, fun _ => True, fun _ => []⟩,
     ⟨24, [(8, 15), (16, 23)], [], [], [], fun _ => undef, fun _ => True, fun _ => []⟩,
     ⟨25, [(8, 15), (14, 21), (15, 22), (17, 24)], [], [], [], fun _ => undef, fun _ => True, fun _ => []⟩,
     ⟨26, [(8, 15), (13, 20), (18, 25)], [], [], [], fun _ => undef, fun _ => True, fun _ => []⟩,
     ⟨27, [(8, 15), (19, 26)], [], [], [], fun _ => .bool false, fun _ => True, fun _ => []⟩]) (by kernel_rfl) (by kernel_rfl) (POps.cons ?_ (POps.cons ?_ (POps.cons ?_ (POps.cons ?_ (POps.cons ?_ (POps.cons ?_ (POps.cons ?_ (POps.cons ?_ (POps.cons ?_ (POps.cons ?_ (POps.cons ?_ (POps.cons ?_ (POps.cons ?_ (POps.cons ?_ (POps.cons ?_ (POps.cons ?_ (POps.cons ?_ (POps.cons ?_ (POps.cons ?_ (POps.cons ?_ (POps.cons ?_ POps.nil))))))))))))))))))))) ?_
 intro θ R hd
 exact Opp.plain (OG.imp (OD.loadAgg rfl ti27 rfl (i := 0) rfl (us := [.int .i64 (cr), vcd]) rfl rfl) (by rintro _ _ ⟨rfl, rfl⟩; exact ⟨[], rfl, trivial, rfl⟩)) rfl
 intro θ R hd
 exact Opp.plain (OG.imp (OD.move rfl rfl) (by rintro _ _ ⟨rfl, rfl⟩; exact ⟨[], rfl, trivial, rfl⟩)) rfl
 intro θ R hd
 obtain ⟨h0d, h1d, _⟩ := hd
 exact Opp.plain (OG.imp (OG.imp (K' := fun v ow => v = .bool false ∧ ow = box g1 27 [.int .i64 (cr), vcd] :: own ++ R) (OG.call [.agg #[.int .i64 (cr), vcd], vx] ent42 rfl rfl rfl rfl (by exact (specWordOk_w scd (Ent.drop 1 ecd.app) sx (Ent.drop 1 ex.app) (hl0) (by omega)))) (by rintro _ _ ⟨rfl, rfl⟩; exact ⟨congrArg Value.bool (hg2), rfl⟩)) (by rintro _ _ ⟨rfl, rfl⟩; exact ⟨[], rfl, trivial, rfl⟩)) rfl
 intro θ R hd
 obtain ⟨h2d, _⟩ := hd
 exact Opp.plain (OG.imp (OD.move rfl rfl) (by rintro _ _ ⟨rfl, rfl⟩; exact ⟨[], rfl, trivial, rfl⟩)) rfl
 intro θ R hd
 obtain ⟨h3d, _⟩ := hd
 exact Opp.off ⟨[], rfl, trivial, rfl⟩ rfl rfl rfl rfl
 intro θ R hd
 obtain ⟨h3d, _⟩ := hd
 exact Opp.off ⟨[], rfl, trivial, rfl⟩ rfl rfl rfl rfl
 intro θ R hd
 obtain ⟨h3d, h4d, h5d, _⟩ := hd
 exact Opp.off ⟨[], rfl, trivial, rfl⟩ rfl rfl rfl rfl
 intro θ R hd
 obtain ⟨h3d, h6d, _⟩ := hd
 exact Opp.plain (OG.imp (OD.pickF rfl rfl rfl) (by rintro _ _ ⟨rfl, rfl⟩; exact ⟨[], rfl, trivial, rfl⟩)) rfl
 intro θ R hd
 obtain ⟨h7d, _⟩ := hd
 exact Opp.plain (OG.imp (OD.move rfl rfl) (by rintro _ _ ⟨rfl, rfl⟩; exact ⟨[], rfl, trivial, rfl⟩)) rfl
 intro θ R hd
 obtain ⟨h8d, _⟩ := hd
 exact Opp.off ⟨[], rfl, trivial, rfl⟩ rfl rfl rfl rfl
 intro θ R hd
 obtain ⟨h8d, _⟩ := hd
 exact Opp.off ⟨[], rfl, trivial, rfl⟩ rfl rfl rfl rfl
 intro θ R hd
 obtain ⟨h8d, _⟩ := hd
 exact Opp.off ⟨[], rfl, trivial, rfl⟩ rfl rfl rfl rfl
 intro θ R hd
 obtain ⟨h8d, h11d, _⟩ := hd
 exact Opp.off ⟨[], rfl, trivial, rfl⟩ rfl rfl rfl rfl
 intro θ R hd
 obtain ⟨h8d, h9d, h10d, h12d, _⟩ := hd
 exact Opp.off ⟨[], rfl, trivial, rfl⟩ rfl rfl rfl rfl
 intro θ R hd
 obtain ⟨h8d, _⟩ := hd
 exact Opp.off ⟨[], rfl, trivial, rfl⟩ rfl rfl rfl rfl
 intro θ R hd
 obtain ⟨h8d, _⟩ := hd
 exact Opp.off ⟨[], rfl, trivial, rfl⟩ rfl rfl rfl rfl
 intro θ R hd
 obtain ⟨h8d, _⟩ := hd
 exact Opp.off ⟨[], rfl, trivial, rfl⟩ rfl rfl rfl rfl
 intro θ R hd
 obtain ⟨h8d, h16d, _⟩ := hd
 exact Opp.off ⟨[], rfl, trivial, rfl⟩ rfl rfl rfl rfl
 intro θ R hd
 obtain ⟨h8d, h14d, h15d, h17d, _⟩ := hd
 exact Opp.off ⟨[], rfl, trivial, rfl⟩ rfl rfl rfl rfl
 intro θ R hd
 obtain ⟨h8d, h13d, h18d, _⟩ := hd
 exact Opp.off ⟨[], rfl, trivial, rfl⟩ rfl rfl rfl rfl
 intro θ R hd
 obtain ⟨h8d, h19d, _⟩ := hd
 exact Opp.plain (OG.imp (OD.pickF rfl rfl rfl) (by rintro _ _ ⟨rfl, rfl⟩; exact ⟨[], rfl, trivial, rfl⟩)) rfl
 intro θ hall
 obtain ⟨_, _, _, _, _, _, _, _, _, _, _, _, _, _, _, _, _, _, _, _, _, _⟩ := hall
 refine G.at [] 0 (env' := [(6, .bool false), (27, .bool false)]) ⟨rfl, rfl, trivial⟩ (own' := box g1 27 [.int .i64 (cr), vcd] :: own) rfl ?_
 show G _ _ _ [_] _ _ _ _
 refine G.stepD (OD.assign rfl rfl) rfl rfl rfl ?_
 refine G.nil (GE.then_ (GC.ret ?_))
 exact GE.body [] 1 (res1 rfl rfl) rfl (⟨congrArg (fun (a0 : Bool) => (.bool (a0) : Value)) ((by rw [seB, hg2]; first | rfl | simp : (false : Bool) = seB cr cd x y)), rfl⟩)

set_option maxRecDepth 100000 in
theorem l6Normal_w {W : World} {own : List Asn} {cr : Int} {vcd : Value} {cd : List Int} {vx : Value} {x : List Int}  (scd : IsS vcd) (ecd : Ent own fun w => Ints w vcd cd)   (sx : IsS vx) (ex : Ent own fun w => Ints w vx x)  (hcr : 1 ≤ cr ∧ cr ≤ 4) (hcd : (cd.length : Int) = cr * cr) (hp : PhOk cr cd) (hwd : x.length ≤ 100000 ∧ ∀ y ∈ x, 0 ≤ y ∧ y < cr) : Spec Tryd.prog 63 [.agg #[.int .i64 (cr), vcd], vx] W own (fun v ow => ∃ (r0 : Value), v = r0 ∧ IsS r0 ∧ ow = ints 3 r0 (nwF cr cd (actF cr cd x (ones cr 1))) :: own) := by
 refine Spec.enter Tryd.f63 _ Tryd.func63 rfl (n := 18) rfl rfl ?_
 refine GC.seq (GC.region ?_)
 refine G.step (OG.box (cs := [.int .i64 (cr), vcd]) rfl rfl rfl) rfl rfl rfl ?_
 rintro _ _ ⟨g1, rfl, rfl⟩
 refine G.stepD (OD.assign rfl rfl) rfl rfl rfl ?_
 refine G.nil (GE.then_ (GC.seq ?_))
 refine GC.at [] 0 (env' := [(1, vx), (2, .pointer (some ⟨g1, 0, none⟩))]) ⟨rfl, rfl, trivial⟩ rfl ?_
 refine GC.late (σ := [0, 1, 2, 3, 4, 5, 6, 7, 9, 8, 10, 11]) (L := [9]) (its := [⟨8, [], [], [], [], fun _ => .agg #[.int .i64 (cr), vcd], fun _ => True, fun _ => []⟩,
     ⟨9, [], [], [], [], fun _ => .agg #[.int .i64 (cr), vcd], fun _ => True, fun _ => []⟩,
     ⟨10, [], [], [], [], fun _ => vx, fun _ => True, fun _ => []⟩,
     ⟨11, [], [], [], [], fun _ => .agg #[.int .i64 (cr), vcd], fun _ => True, fun _ => []⟩,
     ⟨12, [(3, 11)], [], [], [4], fun ds => ((ds.getD 0 []).getD 0 undef), fun ds => IsS ((ds.getD 0 []).getD 0 undef), fun ds => [ints 3 ((ds.getD 0 []).getD 0 undef) (ones cr 1)]⟩,
     ⟨13, [(1, 9), (2, 10), (4, 12)], [4], [], [4, 5], fun ds => ((ds.getD 1 []).getD 0 undef), fun ds => IsS ((ds.getD 1 []).getD 0 undef), fun ds => [ints 3 ((ds.getD 1 []).getD 0 undef) (actF cr cd x (ones cr 1))]⟩,
     ⟨14, [(0, 8), (5, 13)], [4, 5], [], [4, 5, 6], fun ds => .tuple #[((ds.getD 2 []).getD 0 undef), ((ds.getD 2 []).getD 1 undef)], fun ds => IsS ((ds.getD 2 []).getD 0 undef) ∧ IsS ((ds.getD 2 []).getD 1 undef), fun ds => [ints 3 ((ds.getD 2 []).getD 1 undef) (nwF cr cd (actF cr cd x (ones cr 1)))]⟩,
     ⟨7, [(6, 14)], [4, 5, 6], [], [4, 5, 6], fun ds => .tuple #[((ds.getD 2 []).getD 0 undef), ((ds.getD 2 []).getD 1 undef)], fun _ => True, fun _ => []⟩,
     ⟨16, [(7, 7)], [4, 5, 6], [], [4, 5, 6], fun ds => ((ds.getD 2 []).getD 1 undef), fun _ => True, fun _ => []⟩,
     ⟨15, [(7, 7)], [4, 5, 6], [], [4, 5, 6], fun ds => ((ds.getD 2 []).getD 0 undef), fun _ => True, fun _ => []⟩]) (by kernel_rfl) (by repeat (first | refine PanQ.then_ ?_ | refine PanQ.block ?_ | exact PanQ.body)) (by kernel_rfl) (by kernel_rfl) (POps.cons ?_ (POps.cons ?_ (POps.cons ?_ (POps.cons ?_ (POps.cons ?_ (POps.cons ?_ (POps.cons ?_ (POps.cons ?_ (POps.cons ?_ (POps.cons ?_ POps.nil)))))))))) ?_
 intro θ R hd
 exact Opp.plain (OG.imp (OD.loadAgg rfl ti27 rfl (i := 0) rfl (us := [.int .i64 (cr), vcd]) rfl rfl) (by rintro _ _ ⟨rfl, rfl⟩; exact ⟨[], rfl, trivial, rfl⟩)) rfl
 intro θ R hd
 exact Opp.plain (OG.imp (OD.loadAgg rfl ti27 rfl (i := 0) rfl (us := [.int .i64 (cr), vcd]) rfl rfl) (by rintro _ _ ⟨rfl, rfl⟩; exact ⟨[], rfl, trivial, rfl⟩)) rfl
 intro θ R hd
 exact Opp.plain (OG.imp (OD.move rfl rfl) (by rintro _ _ ⟨rfl, rfl⟩; exact ⟨[], rfl, trivial, rfl⟩)) rfl
 intro θ R hd
 exact Opp.plain (OG.imp (OD.loadAgg rfl ti27 rfl (i := 0) rfl (us := [.int .i64 (cr), vcd]) rfl rfl) (by rintro _ _ ⟨rfl, rfl⟩; exact ⟨[], rfl, trivial, rfl⟩)) rfl
 intro θ R hd
 obtain ⟨h3d, _⟩ := hd
 exact Opp.plain (OG.imp (OG.call [.agg #[.int .i64 (cr), vcd]] ent45 rfl rfl rfl rfl (by exact (l6Rho_w scd (Ent.drop 1 ecd.app) (hcr)))) (by rintro v2 _ ⟨_, rfl, hs3, rfl⟩; exact ⟨[v2], rfl, hs3, rfl⟩)) rfl
 intro θ R hd
 obtain ⟨h1d, h2d, h4d, _⟩ := hd
 exact Opp.plain (OG.imp (OG.call [.agg #[.int .i64 (cr), vcd], vx, ((θ 4).getD 0 undef)] ent44 rfl rfl rfl rfl (by exact (l6Act_w scd (Ent.drop 2 ecd.app) sx (Ent.drop 2 ex.app) h4d (Ent.ints (i := 0) rfl) (hcr) (hcd) (hwd) (by rw [ones_len]; omega)))) (by rintro v4 _ ⟨_, rfl, hs5, rfl⟩; exact ⟨[v4], rfl, hs5, rfl⟩)) rfl
 intro θ R hd
 obtain ⟨h0d, h5d, _⟩ := hd
 exact Opp.plain (OG.imp (OG.call [.agg #[.int .i64 (cr), vcd], ((θ 5).getD 0 undef)] ent91 rfl rfl rfl rfl (by exact (l6Climb_w scd (Ent.drop 3 ecd.app) h5d (Ent.ints (i := 1) rfl) (hcr) (hcd) (hp) ((Bd.up hp).act hp hwd.2)))) (by rintro _ _ ⟨v6, v8, rfl, hs7, hs9, rfl⟩; exact ⟨[v6, v8], rfl, ⟨hs7, hs9⟩, rfl⟩)) rfl
 intro θ R hd
 obtain ⟨h6d, _⟩ := hd
 exact Opp.plain (OG.imp (OD.move rfl rfl) (by rintro _ _ ⟨rfl, rfl⟩; exact ⟨[], rfl, trivial, rfl⟩)) rfl
 intro θ R hd
 obtain ⟨h7d, _⟩ := hd
 exact Opp.plain (OG.imp (OD.extract rfl rfl rfl) (by rintro _ _ ⟨rfl, rfl⟩; exact ⟨[], rfl, trivial, rfl⟩)) rfl
 intro θ R hd
 obtain ⟨h7d, _⟩ := hd
 exact Opp.plain (OG.imp (OD.extract rfl rfl rfl) (by rintro _ _ ⟨rfl, rfl⟩; exact ⟨[], rfl, trivial, rfl⟩)) rfl
 intro θ hall
 obtain ⟨_, _, _, _, h4a, h5a, h6a, _, _, _, _⟩ := hall
 refine G.at [] 0 (env' := [(16, ((θ 6).getD 1 undef)), (15, ((θ 6).getD 0 undef))]) ⟨rfl, rfl, trivial⟩ (own' := ints 3 ((θ 4).getD 0 undef) (ones cr 1) :: ints 3 ((θ 5).getD 0 undef) (actF cr cd x (ones cr 1)) :: ints 3 ((θ 6).getD 1 undef) (nwF cr cd (actF cr cd x (ones cr 1))) :: box g1 27 [.int .i64 (cr), vcd] :: own) rfl ?_
 have hs10 : IsS ((θ 4).getD 0 undef) := h4a
 clear h4a
 generalize ((θ 4).getD 0 undef) = v11 at *
 have hs12 : IsS ((θ 5).getD 0 undef) := h5a
 clear h5a
 generalize ((θ 5).getD 0 undef) = v13 at *
 have hs14 : IsS ((θ 6).getD 0 undef) := h6a.1
 have hs15 : IsS ((θ 6).getD 1 undef) := h6a.2
 clear h6a
 generalize ((θ 6).getD 0 undef) = v16 at *
 generalize ((θ 6).getD 1 undef) = v17 at *
 show G _ _ _ [_, _] _ _ _ _
 refine G.stepD (OD.assign rfl rfl) rfl rfl rfl ?_
 refine G.stepD (OD.assign rfl rfl) rfl rfl rfl ?_
 refine G.nil (GE.then_ (GC.seq (GC.region ?_)))
 refine G.stepD (OD.move rfl rfl) rfl rfl rfl ?_
 refine G.stepD (OD.assign rfl rfl) rfl rfl rfl ?_
 refine G.nil (GE.then_ (GC.ret ?_))
 exact GE.body [2] 3 (res1 rfl rfl) rfl (⟨v17, rfl, hs15, rfl⟩)

set_option maxRecDepth 100000 in
theorem normalWord_w {W : World} {own : List Asn} {cr : Int} {vcd : Value} {cd : List Int} {vx : Value} {x : List Int}  (scd : IsS vcd) (ecd : Ent own fun w => Ints w vcd cd)   (sx : IsS vx) (ex : Ent own fun w => Ints w vx x)  (hl0 : cd.length ≤ 1073741824) (hl : x.length ≤ 1073741824) (hg : Ent own fun w => ∃ m, w.cell? ⟨Tryd.l146_ren.g 1, 0, none⟩ = some (.int .i64 m)) : Spec Tryd.prog 32 [.agg #[.int .i64 (cr), vcd], vx] W own (fun v ow => ∃ (r0 : Value), v = r0 ∧ IsS r0 ∧ ow = ints 3 r0 (nwOf cr cd x) :: own) := by
 refine Spec.enter Tryd.f32 _ Tryd.func32 rfl (n := 16) rfl rfl ?_
 refine GC.seq (GC.region ?_)
 refine G.step (OG.box (cs := [.int .i64 (cr), vcd]) rfl rfl rfl) rfl rfl rfl ?_
 rintro _ _ ⟨g1, rfl, rfl⟩
 refine G.stepD (OD.assign rfl rfl) rfl rfl rfl ?_
 refine G.nil (GE.then_ (GC.seq (GC.seq (GC.region ?_))))
 refine G.stepD (OD.loadAgg rfl ti27 rfl (i := 0) rfl (us := [.int .i64 (cr), vcd]) rfl rfl) rfl rfl rfl ?_
 refine G.stepD (OD.move rfl rfl) rfl rfl rfl ?_
 refine G.step (OG.call [.agg #[.int .i64 (cr), vcd], vx] ent46 rfl rfl rfl rfl (by exact (wordOk_w scd (Ent.drop 1 ecd) sx (Ent.drop 1 ex) (hl0) (by omega) ((Ent.drop 1 hg))))) rfl rfl rfl ?_
 rintro _ _ ⟨rfl, rfl⟩
 refine G.stepD (OD.not rfl rfl) rfl rfl rfl ?_
 refine G.nil (GE.then_ ?_)
 refine GC.cond rfl (fun hc2 => ?_) (fun hc2 => ?_)
 replace hc2 := eq_false_of_not hc2
 refine GC.seq (GC.region ?_)
 refine G.stepD (OD.assign rfl rfl) rfl rfl rfl ?_
 refine G.nil (GE.then_ (GC.ret (GE.passR ?_)))
 refine GE.nilInts 3 ?_
 exact GE.body [0] 1 (res1 rfl rfl) rfl (⟨(.slice none 0 0), rfl, IsS.nil, congrArg (fun (l0 : List Int) => ints 3 (.slice none 0 0) l0 :: own) ((by rw [nwOf, hc2]; rfl : [] = nwOf cr cd x))⟩)
 replace hc2 := eq_true_of_not hc2
 refine GC.skip (GE.then_ (GC.seq ?_))
 refine GC.at [] 0 (env' := [(1, vx), (2, .pointer (some ⟨g1, 0, none⟩)), (4, .slice none 0 0)]) ⟨rfl, rfl, rfl, trivial⟩ rfl ?_
 refine GC.par (its := [⟨9, [], [], [], [], fun _ => .agg #[.int .i64 (cr), vcd], fun _ => True, fun _ => []⟩,
     ⟨10, [], [], [], [], fun _ => .agg #[.int .i64 (cr), vcd], fun _ => True, fun _ => []⟩,
     ⟨11, [], [], [], [], fun _ => vx, fun _ => True, fun _ => []⟩,
     ⟨12, [], [], [], [], fun _ => .agg #[.int .i64 (cr), vcd], fun _ => True, fun _ => []⟩,
     ⟨13, [(3, 12)], [], [], [4], fun ds => ((ds.getD 0 []).getD 0 undef), fun ds => IsS ((ds.getD 0 []).getD 0 undef), fun ds => [ints 3 ((ds.getD 0 []).getD 0 undef) (ones cr 1)]⟩,
     ⟨14, [(1, 10), (2, 11), (4, 13)], [4], [], [4, 5], fun ds => ((ds.getD 1 []).getD 0 undef), fun ds => IsS ((ds.getD 1 []).getD 0 undef), fun ds => [ints 3 ((ds.getD 1 []).getD 0 undef) (actF cr cd x (ones cr 1))]⟩,
     ⟨15, [(0, 9), (5, 14)], [4, 5], [], [4, 5, 6], fun ds => ((ds.getD 2 []).getD 0 undef), fun ds => IsS ((ds.getD 2 []).getD 0 undef), fun ds => [ints 3 ((ds.getD 2 []).getD 0 undef) (nwF cr cd (actF cr cd x (ones cr 1)))]⟩]) (by kernel_rfl) (by kernel_rfl) (POps.cons ?_ (POps.cons ?_ (POps.cons ?_ (POps.cons ?_ (POps.cons ?_ (POps.cons ?_ (POps.cons ?_ POps.nil))))))) ?_
 intro θ R hd
 exact Opp.plain (OG.imp (OD.loadAgg rfl ti27 rfl (i := 0) rfl (us := [.int .i64 (cr), vcd]) rfl rfl) (by rintro _ _ ⟨rfl, rfl⟩; exact ⟨[], rfl, trivial, rfl⟩)) rfl
 intro θ R hd
 exact Opp.plain (OG.imp (OD.loadAgg rfl ti27 rfl (i := 0) rfl (us := [.int .i64 (cr), vcd]) rfl rfl) (by rintro _ _ ⟨rfl, rfl⟩; exact ⟨[], rfl, trivial, rfl⟩)) rfl
 intro θ R hd
 exact Opp.plain (OG.imp (OD.move rfl rfl) (by rintro _ _ ⟨rfl, rfl⟩; exact ⟨[], rfl, trivial, rfl⟩)) rfl
 intro θ R hd
 exact Opp.plain (OG.imp (OD.loadAgg rfl ti27 rfl (i := 0) rfl (us := [.int .i64 (cr), vcd]) rfl rfl) (by rintro _ _ ⟨rfl, rfl⟩; exact ⟨[], rfl, trivial, rfl⟩)) rfl
 intro θ R hd
 obtain ⟨h3d, _⟩ := hd
 exact Opp.plain (OG.imp (OG.call [.agg #[.int .i64 (cr), vcd]] ent49 rfl rfl rfl rfl (by exact (rho_w scd (Ent.drop 1 ecd.app) ((wordB_ok hc2).1.1)))) (by rintro v3 _ ⟨_, rfl, hs4, rfl⟩; exact ⟨[v3], rfl, hs4, rfl⟩)) rfl
 intro θ R hd
 obtain ⟨h1d, h2d, h4d, _⟩ := hd
 exact Opp.plain (OG.imp (OG.call [.agg #[.int .i64 (cr), vcd], vx, ((θ 4).getD 0 undef)] ent48 rfl rfl rfl rfl (by exact (actWeight_w scd (Ent.drop 2 ecd.app) sx (Ent.drop 2 ex.app) h4d (Ent.ints (i := 0) rfl) ((wordB_ok hc2).1.1) ((wordB_ok hc2).1.2) (⟨Nat.le_trans (wordB_ok hc2).2.1 (by decide), (wordB_ok hc2).2.2⟩) (by have := (wordB_ok hc2).1.1; rw [ones_len]; omega)))) (by rintro v5 _ ⟨_, rfl, hs6, rfl⟩; exact ⟨[v5], rfl, hs6, rfl⟩)) rfl
 intro θ R hd
 obtain ⟨h0d, h5d, _⟩ := hd
 exact Opp.plain (OG.imp (OG.call [.agg #[.int .i64 (cr), vcd], ((θ 5).getD 0 undef)] ent64 rfl rfl rfl rfl (by exact (normalOf_w scd (Ent.drop 3 ecd.app) h5d (Ent.ints (i := 1) rfl) ((wordB_ok hc2).1.1) ((wordB_ok hc2).1.2) (phOk (wordB_ty hc2)) (Bd.word hc2)))) (by rintro v7 _ ⟨_, rfl, hs8, rfl⟩; exact ⟨[v7], rfl, hs8, rfl⟩)) rfl
 intro θ hall
 obtain ⟨_, _, _, _, h4a, h5a, h6a, _⟩ := hall
 refine G.at [] 0 (env' := [(4, .slice none 0 0), (15, ((θ 6).getD 0 undef))]) ⟨rfl, rfl, trivial⟩ (own' := ints 3 ((θ 4).getD 0 undef) (ones cr 1) :: ints 3 ((θ 5).getD 0 undef) (actF cr cd x (ones cr 1)) :: ints 3 ((θ 6).getD 0 undef) (nwF cr cd (actF cr cd x (ones cr 1))) :: box g1 27 [.int .i64 (cr), vcd] :: own) rfl ?_
 have hs9 : IsS ((θ 4).getD 0 undef) := h4a
 clear h4a
 generalize ((θ 4).getD 0 undef) = v10 at *
 have hs11 : IsS ((θ 5).getD 0 undef) := h5a
 clear h5a
 generalize ((θ 5).getD 0 undef) = v12 at *
 have hs13 : IsS ((θ 6).getD 0 undef) := h6a
 clear h6a
 generalize ((θ 6).getD 0 undef) = v14 at *
 show G _ _ _ [_] _ _ _ _
 refine G.stepD (OD.assign rfl rfl) rfl rfl rfl ?_
 refine G.nil (GE.then_ (GC.ret ?_))
 exact GE.body [2] 3 (res1 rfl rfl) rfl (⟨v14, rfl, hs13, congrArg (fun (l0 : List Int) => ints 3 v14 l0 :: own) ((by rw [nwOf, hc2]; rfl : nwF cr cd (actF cr cd x (ones cr 1)) = nwOf cr cd x))⟩)

set_option maxRecDepth 100000 in
theorem specNormalWord_w {W : World} {own : List Asn} {cr : Int} {vcd : Value} {cd : List Int} {vx : Value} {x : List Int}  (scd : IsS vcd) (ecd : Ent own fun w => Ints w vcd cd)   (sx : IsS vx) (ex : Ent own fun w => Ints w vx x)  (hl0 : cd.length ≤ 1073741824) (hl : x.length ≤ 1073741824) : Spec Tryd.prog 31 [.agg #[.int .i64 (cr), vcd], vx] W own (fun v ow => ∃ (r0 : Value), v = r0 ∧ IsS r0 ∧ ow = ints 3 r0 (nwOf cr cd x) :: own) := by
 refine Spec.enter Tryd.f31 _ Tryd.func31 rfl (n := 12) rfl rfl ?_
 refine GC.seq (GC.region ?_)
 refine G.step (OG.box (cs := [.int .i64 (cr), vcd]) rfl rfl rfl) rfl rfl rfl ?_
 rintro _ _ ⟨g1, rfl, rfl⟩
 refine G.stepD (OD.assign rfl rfl) rfl rfl rfl ?_
 refine G.nil (GE.then_ (GC.seq (GC.seq (GC.region ?_))))
 refine G.stepD (OD.loadAgg rfl ti27 rfl (i := 0) rfl (us := [.int .i64 (cr), vcd]) rfl rfl) rfl rfl rfl ?_
 refine G.stepD (OD.move rfl rfl) rfl rfl rfl ?_
 refine G.step (OG.call [.agg #[.int .i64 (cr), vcd], vx] ent42 rfl rfl rfl rfl (by exact (specWordOk_w scd (Ent.drop 1 ecd) sx (Ent.drop 1 ex) (hl0) (by omega)))) rfl rfl rfl ?_
 rintro _ _ ⟨rfl, rfl⟩
 refine G.stepD (OD.not rfl rfl) rfl rfl rfl ?_
 refine G.nil (GE.then_ ?_)
 refine GC.cond rfl (fun hc2 => ?_) (fun hc2 => ?_)
 replace hc2 := eq_false_of_not hc2
 refine GC.seq (GC.region ?_)
 refine G.stepD (OD.assign rfl rfl) rfl rfl rfl ?_
 refine G.nil (GE.then_ (GC.ret (GE.passR ?_)))
 refine GE.nilInts 3 ?_
 exact GE.body [0] 1 (res1 rfl rfl) rfl (⟨(.slice none 0 0), rfl, IsS.nil, congrArg (fun (l0 : List Int) => ints 3 (.slice none 0 0) l0 :: own) ((by rw [nwOf, hc2]; rfl : [] = nwOf cr cd x))⟩)
 replace hc2 := eq_true_of_not hc2
 refine GC.skip (GE.then_ (GC.seq (GC.region ?_)))
 refine G.stepD (OD.loadAgg rfl ti27 rfl (i := 0) rfl (us := [.int .i64 (cr), vcd]) rfl rfl) rfl rfl rfl ?_
 refine G.stepD (OD.move rfl rfl) rfl rfl rfl ?_
 refine G.step (OG.call [.agg #[.int .i64 (cr), vcd], vx] ent63 rfl rfl rfl rfl (by exact (l6Normal_w scd (Ent.drop 1 ecd) sx (Ent.drop 1 ex) ((wordB_ok hc2).1.1) ((wordB_ok hc2).1.2) (phOk (wordB_ty hc2)) (⟨Nat.le_trans (wordB_ok hc2).2.1 (by decide), (wordB_ok hc2).2.2⟩)))) rfl rfl rfl ?_
 rintro v3 _ ⟨_, rfl, hs4, rfl⟩
 refine G.stepD (OD.assign rfl rfl) rfl rfl rfl ?_
 refine G.nil (GE.then_ (GC.ret ?_))
 exact GE.body [0] 1 (res1 rfl rfl) rfl (⟨v3, rfl, hs4, congrArg (fun (l0 : List Int) => ints 3 v3 l0 :: own) ((by rw [nwOf, hc2]; rfl : nwF cr cd (actF cr cd x (ones cr 1)) = nwOf cr cd x))⟩)

set_option maxRecDepth 100000 in
theorem inverseWord_w {W : World} {own : List Asn} {cr : Int} {vcd : Value} {cd : List Int} {vx : Value} {x : List Int}  (scd : IsS vcd) (ecd : Ent own fun w => Ints w vcd cd)   (sx : IsS vx) (ex : Ent own fun w => Ints w vx x)  (hl0 : cd.length ≤ 1073741824) (hl : x.length ≤ 1073741824) (hg : Ent own fun w => ∃ m, w.cell? ⟨Tryd.l146_ren.g 1, 0, none⟩ = some (.int .i64 m)) : Spec Tryd.prog 36 [.agg #[.int .i64 (cr), vcd], vx] W own (fun v ow => ∃ (r0 : Value), v = r0 ∧ IsS r0 ∧ ow = ints 3 r0 (ivOf cr cd x) :: own) := by
 refine Spec.enter Tryd.f36 _ Tryd.func36 rfl (n := 21) rfl rfl ?_
 refine GC.seq (GC.region ?_)
 refine G.step (OG.box (cs := [.int .i64 (cr), vcd]) rfl rfl rfl) rfl rfl rfl ?_
 rintro _ _ ⟨g1, rfl, rfl⟩
 refine G.stepD (OD.assign rfl rfl) rfl rfl rfl ?_
 refine G.nil (GE.then_ (GC.seq (GC.seq (GC.region ?_))))
 refine G.stepD (OD.loadAgg rfl ti27 rfl (i := 0) rfl (us := [.int .i64 (cr), vcd]) rfl rfl) rfl rfl rfl ?_
 refine G.stepD (OD.move rfl rfl) rfl rfl rfl ?_
 refine G.step (OG.call [.agg #[.int .i64 (cr), vcd], vx] ent46 rfl rfl rfl rfl (by exact (wordOk_w scd (Ent.drop 1 ecd) sx (Ent.drop 1 ex) (hl0) (by omega) ((Ent.drop 1 hg))))) rfl rfl rfl ?_
 rintro _ _ ⟨rfl, rfl⟩
 refine G.stepD (OD.not rfl rfl) rfl rfl rfl ?_
 refine G.nil (GE.then_ ?_)
 refine GC.cond rfl (fun hc2 => ?_) (fun hc2 => ?_)
 replace hc2 := eq_false_of_not hc2
 refine GC.seq (GC.region ?_)
 refine G.stepD (OD.assign rfl rfl) rfl rfl rfl ?_
 refine G.nil (GE.then_ (GC.ret (GE.passR ?_)))
 refine GE.nilInts 3 ?_
 exact GE.body [0] 1 (res1 rfl rfl) rfl (⟨(.slice none 0 0), rfl, IsS.nil, congrArg (fun (l0 : List Int) => ints 3 (.slice none 0 0) l0 :: own) ((by rw [ivOf, hc2]; rfl : [] = ivOf cr cd x))⟩)
 replace hc2 := eq_true_of_not hc2
 refine GC.skip (GE.then_ (GC.seq (GC.region ?_)))
 refine G.stepD (OD.move rfl rfl) rfl rfl rfl ?_
 refine G.step (OG.call [vx] ent70 rfl rfl rfl rfl (by exact (clone_w sx (Ent.drop 1 ex) (by omega)))) rfl rfl rfl ?_
 rintro v3 _ ⟨_, rfl, hs4, rfl⟩
 refine G.stepD (OD.assign rfl rfl) rfl rfl rfl ?_
 refine G.nil (GE.then_ (GC.seq (GC.region ?_)))
 refine G.stepD (OD.move rfl rfl) rfl rfl rfl ?_
 refine G.step (OG.call [v3] ent71 rfl rfl rfl rfl (by exact (reverse_w hs4 (by omega)))) rfl rfl rfl ?_
 rintro _ _ ⟨rfl, rfl⟩
 refine G.nil (GE.then_ (GC.seq ?_))
 refine GC.at [] 0 (env' := [(2, .pointer (some ⟨g1, 0, none⟩)), (4, .slice none 0 0), (5, v3)]) ⟨rfl, rfl, rfl, trivial⟩ rfl ?_
 refine GC.par (its := [⟨14, [], [], [], [], fun _ => .agg #[.int .i64 (cr), vcd], fun _ => True, fun _ => []⟩,
     ⟨15, [], [], [], [], fun _ => .agg #[.int .i64 (cr), vcd], fun _ => True, fun _ => []⟩,
     ⟨16, [], [], [], [], fun _ => v3, fun _ => True, fun _ => []⟩,
     ⟨17, [], [], [], [], fun _ => .agg #[.int .i64 (cr), vcd], fun _ => True, fun _ => []⟩,
     ⟨18, [(3, 17)], [], [], [4], fun ds => ((ds.getD 0 []).getD 0 undef), fun ds => IsS ((ds.getD 0 []).getD 0 undef), fun ds => [ints 3 ((ds.getD 0 []).getD 0 undef) (ones cr 1)]⟩,
     ⟨19, [(1, 15), (2, 16), (4, 18)], [4], [], [4, 5], fun ds => ((ds.getD 1 []).getD 0 undef), fun ds => IsS ((ds.getD 1 []).getD 0 undef), fun ds => [ints 3 ((ds.getD 1 []).getD 0 undef) (actF cr cd x.reverse (ones cr 1))]⟩,
     ⟨20, [(0, 14), (5, 19)], [4, 5], [], [4, 5, 6], fun ds => ((ds.getD 2 []).getD 0 undef), fun ds => IsS ((ds.getD 2 []).getD 0 undef), fun ds => [ints 3 ((ds.getD 2 []).getD 0 undef) (nwF cr cd (actF cr cd x.reverse (ones cr 1)))]⟩]) (by kernel_rfl) (by kernel_rfl) (POps.cons ?_ (POps.cons ?_ (POps.cons ?_ (POps.cons ?_ (POps.cons ?_ (POps.cons ?_ (POps.cons ?_ POps.nil))))))) ?_
 intro θ R hd
 exact Opp.plain (OG.imp (OD.loadAgg rfl ti27 rfl (i := 1) rfl (us := [.int .i64 (cr), vcd]) rfl rfl) (by rintro _ _ ⟨rfl, rfl⟩; exact ⟨[], rfl, trivial, rfl⟩)) rfl
 intro θ R hd
 exact Opp.plain (OG.imp (OD.loadAgg rfl ti27 rfl (i := 1) rfl (us := [.int .i64 (cr), vcd]) rfl rfl) (by rintro _ _ ⟨rfl, rfl⟩; exact ⟨[], rfl, trivial, rfl⟩)) rfl
 intro θ R hd
 exact Opp.plain (OG.imp (OD.move rfl rfl) (by rintro _ _ ⟨rfl, rfl⟩; exact ⟨[], rfl, trivial, rfl⟩)) rfl
 intro θ R hd
 exact Opp.plain (OG.imp (OD.loadAgg rfl ti27 rfl (i := 1) rfl (us := [.int .i64 (cr), vcd]) rfl rfl) (by rintro _ _ ⟨rfl, rfl⟩; exact ⟨[], rfl, trivial, rfl⟩)) rfl
 intro θ R hd
 obtain ⟨h3d, _⟩ := hd
 exact Opp.plain (OG.imp (OG.call [.agg #[.int .i64 (cr), vcd]] ent49 rfl rfl rfl rfl (by exact (rho_w scd (Ent.drop 2 ecd.app) ((wordB_ok hc2).1.1)))) (by rintro v5 _ ⟨_, rfl, hs6, rfl⟩; exact ⟨[v5], rfl, hs6, rfl⟩)) rfl
 intro θ R hd
 obtain ⟨h1d, h2d, h4d, _⟩ := hd
 exact Opp.plain (OG.imp (OG.call [.agg #[.int .i64 (cr), vcd], v3, ((θ 4).getD 0 undef)] ent48 rfl rfl rfl rfl (by exact (actWeight_w scd (Ent.drop 3 ecd.app) hs4 (Ent.ints (i := 1) rfl) h4d (Ent.ints (i := 0) rfl) ((wordB_ok hc2).1.1) ((wordB_ok hc2).1.2) (⟨by rw [List.length_reverse]; exact Nat.le_trans (wordB_ok hc2).2.1 (by decide), fun y hy => (wordB_ok hc2).2.2 y (by simpa using hy)⟩) (by have := (wordB_ok hc2).1.1; rw [ones_len]; omega)))) (by rintro v7 _ ⟨_, rfl, hs8, rfl⟩; exact ⟨[v7], rfl, hs8, rfl⟩)) rfl
 intro θ R hd
 obtain ⟨h0d, h5d, _⟩ := hd
 exact Opp.plain (OG.imp (OG.call [.agg #[.int .i64 (cr), vcd], ((θ 5).getD 0 undef)] ent64 rfl rfl rfl rfl (by exact (normalOf_w scd (Ent.drop 4 ecd.app) h5d (Ent.ints (i := 1) rfl) ((wordB_ok hc2).1.1) ((wordB_ok hc2).1.2) (phOk (wordB_ty hc2)) (Bd.rev hc2)))) (by rintro v9 _ ⟨_, rfl, hs10, rfl⟩; exact ⟨[v9], rfl, hs10, rfl⟩)) rfl
 intro θ hall
 obtain ⟨_, _, _, _, h4a, h5a, h6a, _⟩ := hall
 refine G.at [] 0 (env' := [(4, .slice none 0 0), (20, ((θ 6).getD 0 undef))]) ⟨rfl, rfl, trivial⟩ (own' := ints 3 ((θ 4).getD 0 undef) (ones cr 1) :: ints 3 ((θ 5).getD 0 undef) (actF cr cd x.reverse (ones cr 1)) :: ints 3 ((θ 6).getD 0 undef) (nwF cr cd (actF cr cd x.reverse (ones cr 1))) :: ints 3 v3 x.reverse :: box g1 27 [.int .i64 (cr), vcd] :: own) rfl ?_
 have hs11 : IsS ((θ 4).getD 0 undef) := h4a
 clear h4a
 generalize ((θ 4).getD 0 undef) = v12 at *
 have hs13 : IsS ((θ 5).getD 0 undef) := h5a
 clear h5a
 generalize ((θ 5).getD 0 undef) = v14 at *
 have hs15 : IsS ((θ 6).getD 0 undef) := h6a
 clear h6a
 generalize ((θ 6).getD 0 undef) = v16 at *
 show G _ _ _ [_] _ _ _ _
 refine G.stepD (OD.assign rfl rfl) rfl rfl rfl ?_
 refine G.nil (GE.then_ (GC.ret ?_))
 exact GE.body [2] 4 (res1 rfl rfl) rfl (⟨v16, rfl, hs15, congrArg (fun (l0 : List Int) => ints 3 v16 l0 :: own) ((by rw [ivOf, hc2]; rfl : nwF cr cd (actF cr cd x.reverse (ones cr 1)) = ivOf cr cd x))⟩)

set_option maxRecDepth 100000 in
theorem specInverseWord_w {W : World} {own : List Asn} {cr : Int} {vcd : Value} {cd : List Int} {vx : Value} {x : List Int}  (scd : IsS vcd) (ecd : Ent own fun w => Ints w vcd cd)   (sx : IsS vx) (ex : Ent own fun w => Ints w vx x)  (hl0 : cd.length ≤ 1073741824) (hl : x.length ≤ 1073741824) : Spec Tryd.prog 35 [.agg #[.int .i64 (cr), vcd], vx] W own (fun v ow => ∃ (r0 : Value), v = r0 ∧ IsS r0 ∧ ow = ints 3 r0 (ivOf cr cd x) :: own) := by
 refine Spec.enter Tryd.f35 _ Tryd.func35 rfl (n := 13) rfl rfl ?_
 refine GC.seq (GC.region ?_)
 refine G.step (OG.box (cs := [.int .i64 (cr), vcd]) rfl rfl rfl) rfl rfl rfl ?_
 rintro _ _ ⟨g1, rfl, rfl⟩
 refine G.stepD (OD.assign rfl rfl) rfl rfl rfl ?_
 refine G.nil (GE.then_ (GC.seq (GC.seq (GC.region ?_))))
 refine G.stepD (OD.loadAgg rfl ti27 rfl (i := 0) rfl (us := [.int .i64 (cr), vcd]) rfl rfl) rfl rfl rfl ?_
 refine G.stepD (OD.move rfl rfl) rfl rfl rfl ?_
 refine G.step (OG.call [.agg #[.int .i64 (cr), vcd], vx] ent42 rfl rfl rfl rfl (by exact (specWordOk_w scd (Ent.drop 1 ecd) sx (Ent.drop 1 ex) (hl0) (by omega)))) rfl rfl rfl ?_
 rintro _ _ ⟨rfl, rfl⟩
 refine G.stepD (OD.not rfl rfl) rfl rfl rfl ?_
 refine G.nil (GE.then_ ?_)
 refine GC.cond rfl (fun hc2 => ?_) (fun hc2 => ?_)
 replace hc2 := eq_false_of_not hc2
 refine GC.seq (GC.region ?_)
 refine G.stepD (OD.assign rfl rfl) rfl rfl rfl ?_
 refine G.nil (GE.then_ (GC.ret (GE.passR ?_)))
 refine GE.nilInts 3 ?_
 exact GE.body [0] 1 (res1 rfl rfl) rfl (⟨(.slice none 0 0), rfl, IsS.nil, congrArg (fun (l0 : List Int) => ints 3 (.slice none 0 0) l0 :: own) ((by rw [ivOf, hc2]; rfl : [] = ivOf cr cd x))⟩)
 replace hc2 := eq_true_of_not hc2
 refine GC.skip (GE.then_ (GC.seq ?_))
 refine GC.at [] 0 (env' := [(1, vx), (2, .pointer (some ⟨g1, 0, none⟩)), (4, .slice none 0 0)]) ⟨rfl, rfl, rfl, trivial⟩ rfl ?_
 refine GC.par (its := [⟨9, [], [], [], [], fun _ => .agg #[.int .i64 (cr), vcd], fun _ => True, fun _ => []⟩,
     ⟨10, [], [], [], [], fun _ => vx, fun _ => True, fun _ => []⟩,
     ⟨11, [(1, 10)], [], [], [2], fun ds => ((ds.getD 0 []).getD 0 undef), fun ds => IsS ((ds.getD 0 []).getD 0 undef), fun ds => [ints 3 ((ds.getD 0 []).getD 0 undef) x.reverse]⟩,
     ⟨12, [(0, 9), (2, 11)], [2], [], [2, 3], fun ds => ((ds.getD 1 []).getD 0 undef), fun ds => IsS ((ds.getD 1 []).getD 0 undef), fun ds => [ints 3 ((ds.getD 1 []).getD 0 undef) (nwF cr cd (actF cr cd x.reverse (ones cr 1)))]⟩]) (by kernel_rfl) (by kernel_rfl) (POps.cons ?_ (POps.cons ?_ (POps.cons ?_ (POps.cons ?_ POps.nil)))) ?_
 intro θ R hd
 exact Opp.plain (OG.imp (OD.loadAgg rfl ti27 rfl (i := 0) rfl (us := [.int .i64 (cr), vcd]) rfl rfl) (by rintro _ _ ⟨rfl, rfl⟩; exact ⟨[], rfl, trivial, rfl⟩)) rfl
 intro θ R hd
 exact Opp.plain (OG.imp (OD.move rfl rfl) (by rintro _ _ ⟨rfl, rfl⟩; exact ⟨[], rfl, trivial, rfl⟩)) rfl
 intro θ R hd
 obtain ⟨h1d, _⟩ := hd
 exact Opp.plain (OG.imp (OG.call [vx] ent69 rfl rfl rfl rfl (by exact (l6Turn_w sx (Ent.drop 1 ex.app) (by omega)))) (by rintro v3 _ ⟨_, rfl, hs4, rfl⟩; exact ⟨[v3], rfl, hs4, rfl⟩)) rfl
 intro θ R hd
 obtain ⟨h0d, h2d, _⟩ := hd
 exact Opp.plain (OG.imp (OG.call [.agg #[.int .i64 (cr), vcd], ((θ 2).getD 0 undef)] ent63 rfl rfl rfl rfl (by exact (l6Normal_w scd (Ent.drop 2 ecd.app) h2d (Ent.ints (i := 0) rfl) ((wordB_ok hc2).1.1) ((wordB_ok hc2).1.2) (phOk (wordB_ty hc2)) (⟨by rw [List.length_reverse]; exact Nat.le_trans (wordB_ok hc2).2.1 (by decide), fun y hy => (wordB_ok hc2).2.2 y (by simpa using hy)⟩)))) (by rintro v5 _ ⟨_, rfl, hs6, rfl⟩; exact ⟨[v5], rfl, hs6, rfl⟩)) rfl
 intro θ hall
 obtain ⟨_, _, h2a, h3a, _⟩ := hall
 refine G.at [] 0 (env' := [(4, .slice none 0 0), (12, ((θ 3).getD 0 undef))]) ⟨rfl, rfl, trivial⟩ (own' := ints 3 ((θ 2).getD 0 undef) x.reverse :: ints 3 ((θ 3).getD 0 undef) (nwF cr cd (actF cr cd x.reverse (ones cr 1))) :: box g1 27 [.int .i64 (cr), vcd] :: own) rfl ?_
 have hs7 : IsS ((θ 2).getD 0 undef) := h2a
 clear h2a
 generalize ((θ 2).getD 0 undef) = v8 at *
 have hs9 : IsS ((θ 3).getD 0 undef) := h3a
 clear h3a
 generalize ((θ 3).getD 0 undef) = v10 at *
 show G _ _ _ [_] _ _ _ _
 refine G.stepD (OD.assign rfl rfl) rfl rfl rfl ?_
 refine G.nil (GE.then_ (GC.ret ?_))
 exact GE.body [1] 2 (res1 rfl rfl) rfl (⟨v10, rfl, hs9, congrArg (fun (l0 : List Int) => ints 3 v10 l0 :: own) ((by rw [ivOf, hc2]; rfl : nwF cr cd (actF cr cd x.reverse (ones cr 1)) = ivOf cr cd x))⟩)

set_option maxRecDepth 100000 in
theorem longest_w {W : World} {own : List Asn} {cr : Int} {vcd : Value} {cd : List Int}  (scd : IsS vcd) (ecd : Ent own fun w => Ints w vcd cd)  (hcr : 1 ≤ cr ∧ cr ≤ 4) (hcd : (cd.length : Int) = cr * cr) (hp : PhOk cr cd) : Spec Tryd.prog 60 [.agg #[.int .i64 (cr), vcd]] W own (fun v ow => ∃ (r0 : Value), v = r0 ∧ IsS r0 ∧ ow = ints 3 r0 (lwF cr cd) :: own) := by
 refine Spec.enter Tryd.f60 _ Tryd.func60 rfl (n := 8) rfl rfl ?_
 refine GC.seq (GC.region ?_)
 refine G.step (OG.box (cs := [.int .i64 (cr), vcd]) rfl rfl rfl) rfl rfl rfl ?_
 rintro _ _ ⟨g1, rfl, rfl⟩
 refine G.stepD (OD.assign rfl rfl) rfl rfl rfl ?_
 refine G.nil (GE.then_ (GC.seq ?_))
 refine GC.at [] 0 (env' := [(1, .pointer (some ⟨g1, 0, none⟩)), (2, .slice none 0 0)]) ⟨rfl, rfl, trivial⟩ rfl ?_
 refine GC.par (its := [⟨3, [], [], [], [], fun _ => .agg #[.int .i64 (cr), vcd], fun _ => True, fun _ => []⟩,
     ⟨4, [], [], [], [], fun _ => .agg #[.int .i64 (cr), vcd], fun _ => True, fun _ => []⟩,
     ⟨5, [(1, 4)], [], [], [2], fun ds => ((ds.getD 0 []).getD 0 undef), fun ds => IsS ((ds.getD 0 []).getD 0 undef), fun ds => [ints 3 ((ds.getD 0 []).getD 0 undef) (ones cr 1)]⟩,
     ⟨6, [(2, 5)], [2], [], [2, 3], fun ds => ((ds.getD 1 []).getD 0 undef), fun ds => IsS ((ds.getD 1 []).getD 0 undef), fun ds => [ints 3 ((ds.getD 1 []).getD 0 undef) (lpF (List.replicate (ones cr 1).length 0) (-1) (ones cr 1))]⟩,
     ⟨7, [(0, 3), (3, 6)], [2, 3], [], [2, 3, 4], fun ds => ((ds.getD 2 []).getD 0 undef), fun ds => IsS ((ds.getD 2 []).getD 0 undef), fun ds => [ints 3 ((ds.getD 2 []).getD 0 undef) (nwF cr cd (lpF (List.replicate (ones cr 1).length 0) (-1) (ones cr 1)))]⟩]) (by kernel_rfl) (by kernel_rfl) (POps.cons ?_ (POps.cons ?_ (POps.cons ?_ (POps.cons ?_ (POps.cons ?_ POps.nil))))) ?_
 intro θ R hd
 exact Opp.plain (OG.imp (OD.loadAgg rfl ti27 rfl (i := 0) rfl (us := [.int .i64 (cr), vcd]) rfl rfl) (by rintro _ _ ⟨rfl, rfl⟩; exact ⟨[], rfl, trivial, rfl⟩)) rfl
 intro θ R hd
 exact Opp.plain (OG.imp (OD.loadAgg rfl ti27 rfl (i := 0) rfl (us := [.int .i64 (cr), vcd]) rfl rfl) (by rintro _ _ ⟨rfl, rfl⟩; exact ⟨[], rfl, trivial, rfl⟩)) rfl
 intro θ R hd
 obtain ⟨h1d, _⟩ := hd
 exact Opp.plain (OG.imp (OG.call [.agg #[.int .i64 (cr), vcd]] ent49 rfl rfl rfl rfl (by exact (rho_w scd (Ent.drop 1 ecd.app) (hcr)))) (by rintro v2 _ ⟨_, rfl, hs3, rfl⟩; exact ⟨[v2], rfl, hs3, rfl⟩)) rfl
 intro θ R hd
 obtain ⟨h2d, _⟩ := hd
 exact Opp.plain (OG.imp (OG.call [.int .i64 (-1), ((θ 2).getD 0 undef)] ent68 rfl rfl rfl rfl (by exact (listTimes_w h2d (Ent.ints (i := 0) rfl) (by rw [ones_len]; omega)))) (by rintro v4 _ ⟨_, rfl, hs5, rfl⟩; exact ⟨[v4], rfl, hs5, rfl⟩)) rfl
 intro θ R hd
 obtain ⟨h0d, h3d, _⟩ := hd
 exact Opp.plain (OG.imp (OG.call [.agg #[.int .i64 (cr), vcd], ((θ 3).getD 0 undef)] ent64 rfl rfl rfl rfl (by exact (normalOf_w scd (Ent.drop 3 ecd.app) h3d (Ent.ints (i := 1) rfl) (hcr) (hcd) (hp) (by rw [lp_ones]; exact Bd.dn hp)))) (by rintro v6 _ ⟨_, rfl, hs7, rfl⟩; exact ⟨[v6], rfl, hs7, rfl⟩)) rfl
 intro θ hall
 obtain ⟨_, _, h2a, h3a, h4a, _⟩ := hall
 refine G.at [] 0 (env' := [(2, .slice none 0 0), (7, ((θ 4).getD 0 undef))]) ⟨rfl, rfl, trivial⟩ (own' := ints 3 ((θ 2).getD 0 undef) (ones cr 1) :: ints 3 ((θ 3).getD 0 undef) (lpF (List.replicate (ones cr 1).length 0) (-1) (ones cr 1)) :: ints 3 ((θ 4).getD 0 undef) (nwF cr cd (lpF (List.replicate (ones cr 1).length 0) (-1) (ones cr 1))) :: box g1 27 [.int .i64 (cr), vcd] :: own) rfl ?_
 have hs8 : IsS ((θ 2).getD 0 undef) := h2a
 clear h2a
 generalize ((θ 2).getD 0 undef) = v9 at *
 have hs10 : IsS ((θ 3).getD 0 undef) := h3a
 clear h3a
 generalize ((θ 3).getD 0 undef) = v11 at *
 have hs12 : IsS ((θ 4).getD 0 undef) := h4a
 clear h4a
 generalize ((θ 4).getD 0 undef) = v13 at *
 show G _ _ _ [_] _ _ _ _
 refine G.stepD (OD.assign rfl rfl) rfl rfl rfl ?_
 refine G.nil (GE.then_ (GC.ret ?_))
 exact GE.body [2] 3 (res1 rfl rfl) rfl (⟨v13, rfl, hs12, congrArg (fun (l0 : List Int) => ints 3 v13 l0 :: own) ((by rw [lp_ones]; rfl : nwF cr cd (lpF (List.replicate (ones cr 1).length 0) (-1) (ones cr 1)) = lwF cr cd))⟩)

set_option maxRecDepth 100000 in
theorem l6Longest_w {W : World} {own : List Asn} {cr : Int} {vcd : Value} {cd : List Int}  (scd : IsS vcd) (ecd : Ent own fun w => Ints w vcd cd)  (hcr : 1 ≤ cr ∧ cr ≤ 4) (hcd : (cd.length : Int) = cr * cr) (hp : PhOk cr cd) : Spec Tryd.prog 59 [.agg #[.int .i64 (cr), vcd]] W own (fun v ow => ∃ (r0 : Value), v = r0 ∧ IsS r0 ∧ ow = ints 3 r0 (lwF cr cd) :: own) := by
 refine Spec.enter Tryd.f59 _ Tryd.func59 rfl (n := 14) rfl rfl ?_
 refine GC.seq (GC.region ?_)
 refine G.step (OG.box (cs := [.int .i64 (cr), vcd]) rfl rfl rfl) rfl rfl rfl ?_
 rintro _ _ ⟨g1, rfl, rfl⟩
 refine G.stepD (OD.assign rfl rfl) rfl rfl rfl ?_
 refine G.nil (GE.then_ (GC.seq ?_))
 refine GC.at [] 0 (env' := [(1, .pointer (some ⟨g1, 0, none⟩))]) ⟨rfl, trivial⟩ rfl ?_
 refine GC.late (σ := [0, 1, 2, 3, 4, 5, 7, 6, 8, 9]) (L := [7]) (its := [⟨6, [], [], [], [], fun _ => .agg #[.int .i64 (cr), vcd], fun _ => True, fun _ => []⟩,
     ⟨7, [], [], [], [], fun _ => .agg #[.int .i64 (cr), vcd], fun _ => True, fun _ => []⟩,
     ⟨8, [(1, 7)], [], [], [2], fun ds => ((ds.getD 0 []).getD 0 undef), fun ds => IsS ((ds.getD 0 []).getD 0 undef), fun ds => [ints 3 ((ds.getD 0 []).getD 0 undef) (ones cr 1)]⟩,
     ⟨9, [(2, 8)], [2], [], [2, 3], fun ds => ((ds.getD 1 []).getD 0 undef), fun ds => IsS ((ds.getD 1 []).getD 0 undef), fun ds => [ints 3 ((ds.getD 1 []).getD 0 undef) (mnF (ones cr 1))]⟩,
     ⟨10, [(0, 6), (3, 9)], [2, 3], [], [2, 3, 4], fun ds => .tuple #[((ds.getD 2 []).getD 0 undef), ((ds.getD 2 []).getD 1 undef)], fun ds => IsS ((ds.getD 2 []).getD 0 undef) ∧ IsS ((ds.getD 2 []).getD 1 undef), fun ds => [ints 3 ((ds.getD 2 []).getD 1 undef) (nwF cr cd (mnF (ones cr 1)))]⟩,
     ⟨5, [(4, 10)], [2, 3, 4], [], [2, 3, 4], fun ds => .tuple #[((ds.getD 2 []).getD 0 undef), ((ds.getD 2 []).getD 1 undef)], fun _ => True, fun _ => []⟩,
     ⟨12, [(5, 5)], [2, 3, 4], [], [2, 3, 4], fun ds => ((ds.getD 2 []).getD 1 undef), fun _ => True, fun _ => []⟩,
     ⟨11, [(5, 5)], [2, 3, 4], [], [2, 3, 4], fun ds => ((ds.getD 2 []).getD 0 undef), fun _ => True, fun _ => []⟩]) (by kernel_rfl) (by repeat (first | refine PanQ.then_ ?_ | refine PanQ.block ?_ | exact PanQ.body)) (by kernel_rfl) (by kernel_rfl) (POps.cons ?_ (POps.cons ?_ (POps.cons ?_ (POps.cons ?_ (POps.cons ?_ (POps.cons ?_ (POps.cons ?_ (POps.cons ?_ POps.nil)))))))) ?_
 intro θ R hd
 exact Opp.plain (OG.imp (OD.loadAgg rfl ti27 rfl (i := 0) rfl (us := [.int .i64 (cr), vcd]) rfl rfl) (by rintro _ _ ⟨rfl, rfl⟩; exact ⟨[], rfl, trivial, rfl⟩)) rfl
 intro θ R hd
 exact Opp.plain (OG.imp (OD.loadAgg rfl ti27 rfl (i := 0) rfl (us := [.int .i64 (cr), vcd]) rfl rfl) (by rintro _ _ ⟨rfl, rfl⟩; exact ⟨[], rfl, trivial, rfl⟩)) rfl
 intro θ R hd
 obtain ⟨h1d, _⟩ := hd
 exact Opp.plain (OG.imp (OG.call [.agg #[.int .i64 (cr), vcd]] ent45 rfl rfl rfl rfl (by exact (l6Rho_w scd (Ent.drop 1 ecd.app) (hcr)))) (by rintro v2 _ ⟨_, rfl, hs3, rfl⟩; exact ⟨[v2], rfl, hs3, rfl⟩)) rfl
 intro θ R hd
 obtain ⟨h2d, _⟩ := hd
 exact Opp.plain (OG.imp (OG.call [((θ 2).getD 0 undef)] ent66 rfl rfl rfl rfl (by exact (l5Minus_w h2d (Ent.ints (i := 0) rfl) (ones_ent) (by rw [ones_len]; omega)))) (by rintro v4 _ ⟨_, rfl, hs5, rfl⟩; exact ⟨[v4], rfl, hs5, rfl⟩)) rfl
 intro θ R hd
 obtain ⟨h0d, h3d, _⟩ := hd
 exact Opp.plain (OG.imp (OG.call [.agg #[.int .i64 (cr), vcd], ((θ 3).getD 0 undef)] ent91 rfl rfl rfl rfl (by exact (l6Climb_w scd (Ent.drop 3 ecd.app) h3d (Ent.ints (i := 1) rfl) (hcr) (hcd) (hp) (by rw [mnF_ones]; exact Bd.dn hp)))) (by rintro _ _ ⟨v6, v8, rfl, hs7, hs9, rfl⟩; exact ⟨[v6, v8], rfl, ⟨hs7, hs9⟩, rfl⟩)) rfl
 intro θ R hd
 obtain ⟨h4d, _⟩ := hd
 exact Opp.plain (OG.imp (OD.move rfl rfl) (by rintro _ _ ⟨rfl, rfl⟩; exact ⟨[], rfl, trivial, rfl⟩)) rfl
 intro θ R hd
 obtain ⟨h5d, _⟩ := hd
 exact Opp.plain (OG.imp (OD.extract rfl rfl rfl) (by rintro _ _ ⟨rfl, rfl⟩; exact ⟨[], rfl, trivial, rfl⟩)) rfl
 intro θ R hd
 obtain ⟨h5d, _⟩ := hd
 exact Opp.plain (OG.imp (OD.extract rfl rfl rfl) (by rintro _ _ ⟨rfl, rfl⟩; exact ⟨[], rfl, trivial, rfl⟩)) rfl
 intro θ hall
 obtain ⟨_, _, h2a, h3a, h4a, _, _, _, _⟩ := hall
 refine G.at [] 0 (env' := [(12, ((θ 4).getD 1 undef)), (11, ((θ 4).getD 0 undef))]) ⟨rfl, rfl, trivial⟩ (own' := ints 3 ((θ 2).getD 0 undef) (ones cr 1) :: ints 3 ((θ 3).getD 0 undef) (mnF (ones cr 1)) :: ints 3 ((θ 4).getD 1 undef) (nwF cr cd (mnF (ones cr 1))) :: box g1 27 [.int .i64 (cr), vcd] :: own) rfl ?_
 have hs10 : IsS ((θ 2).getD 0 undef) := h2a
 clear h2a
 generalize ((θ 2).getD 0 undef) = v11 at *
 have hs12 : IsS ((θ 3).getD 0 undef) := h3a
 clear h3a
 generalize ((θ 3).getD 0 undef) = v13 at *
 have hs14 : IsS ((θ 4).getD 0 undef) := h4a.1
 have hs15 : IsS ((θ 4).getD 1 undef) := h4a.2
 clear h4a
 generalize ((θ 4).getD 0 undef) = v16 at *
 generalize ((θ 4).getD 1 undef) = v17 at *
 show G _ _ _ [_, _] _ _ _ _
 refine G.stepD (OD.assign rfl rfl) rfl rfl rfl ?_
 refine G.stepD (OD.assign rfl rfl) rfl rfl rfl ?_
 refine G.nil (GE.then_ (GC.seq (GC.region ?_)))
 refine G.stepD (OD.move rfl rfl) rfl rfl rfl ?_
 refine G.stepD (OD.assign rfl rfl) rfl rfl rfl ?_
 refine G.nil (GE.then_ (GC.ret ?_))
 exact GE.body [2] 3 (res1 rfl rfl) rfl (⟨v17, rfl, hs15, congrArg (fun (l0 : List Int) => ints 3 v17 l0 :: own) ((by rw [mnF_ones]; rfl : nwF cr cd (mnF (ones cr 1)) = lwF cr cd))⟩)

set_option maxRecDepth 100000 in
theorem longestWord_w {W : World} {own : List Asn} {cr : Int} {vcd : Value} {cd : List Int}  (scd : IsS vcd) (ecd : Ent own fun w => Ints w vcd cd)  (hl0 : cd.length ≤ 1073741824) (hg : Ent own fun w => ∃ m, w.cell? ⟨Tryd.l146_ren.g 1, 0, none⟩ = some (.int .i64 m)) : Spec Tryd.prog 25 [.agg #[.int .i64 (cr), vcd]] W own (fun v ow => ∃ (r0 : Value), v = r0 ∧ IsS r0 ∧ ow = ints 3 r0 (lwOf cr cd) :: own) := by
 refine Spec.enter Tryd.f25 _ Tryd.func25 rfl (n := 8) rfl rfl ?_
 refine GC.seq (GC.region ?_)
 refine G.step (OG.box (cs := [.int .i64 (cr), vcd]) rfl rfl rfl) rfl rfl rfl ?_
 rintro _ _ ⟨g1, rfl, rfl⟩
 refine G.stepD (OD.assign rfl rfl) rfl rfl rfl ?_
 refine G.nil (GE.then_ (GC.seq (GC.seq (GC.region ?_))))
 refine G.stepD (OD.loadAgg rfl ti27 rfl (i := 0) rfl (us := [.int .i64 (cr), vcd]) rfl rfl) rfl rfl rfl ?_
 refine G.step (OG.call [.agg #[.int .i64 (cr), vcd]] ent54 rfl rfl rfl rfl (by exact (isCartan_w scd (Ent.drop 1 ecd) (hl0) ((Ent.drop 1 hg))))) rfl rfl rfl ?_
 rintro _ _ ⟨rfl, rfl⟩
 refine G.stepD (OD.not rfl rfl) rfl rfl rfl ?_
 refine G.nil (GE.then_ ?_)
 refine GC.cond rfl (fun hc2 => ?_) (fun hc2 => ?_)
 replace hc2 := eq_false_of_not hc2
 refine GC.seq (GC.region ?_)
 refine G.stepD (OD.assign rfl rfl) rfl rfl rfl ?_
 refine G.nil (GE.then_ (GC.ret (GE.passR ?_)))
 refine GE.nilInts 3 ?_
 exact GE.body [0] 1 (res1 rfl rfl) rfl (⟨(.slice none 0 0), rfl, IsS.nil, congrArg (fun (l0 : List Int) => ints 3 (.slice none 0 0) l0 :: own) ((by rw [lwOf, hc2]; rfl : [] = lwOf cr cd))⟩)
 replace hc2 := eq_true_of_not hc2
 refine GC.skip (GE.then_ (GC.seq (GC.region ?_)))
 refine G.stepD (OD.loadAgg rfl ti27 rfl (i := 0) rfl (us := [.int .i64 (cr), vcd]) rfl rfl) rfl rfl rfl ?_
 refine G.step (OG.call [.agg #[.int .i64 (cr), vcd]] ent60 rfl rfl rfl rfl (by exact (longest_w scd (Ent.drop 1 ecd) ((tyS_ok hc2).1) ((tyS_ok hc2).2) (phOk hc2)))) rfl rfl rfl ?_
 rintro v3 _ ⟨_, rfl, hs4, rfl⟩
 refine G.stepD (OD.assign rfl rfl) rfl rfl rfl ?_
 refine G.nil (GE.then_ (GC.ret ?_))
 exact GE.body [0] 1 (res1 rfl rfl) rfl (⟨v3, rfl, hs4, congrArg (fun (l0 : List Int) => ints 3 v3 l0 :: own) ((by rw [lwOf, hc2]; rfl : lwF cr cd = lwOf cr cd))⟩)

set_option maxRecDepth 100000 in
theorem specLongestWord_w {W : World} {own : List Asn} {cr : Int} {vcd : Value} {cd : List Int}  (scd : IsS vcd) (ecd : Ent own fun w => Ints w vcd cd)  (hl0 : cd.length ≤ 1073741824) : Spec Tryd.prog 24 [.agg #[.int .i64 (cr), vcd]] W own (fun v ow => ∃ (r0 : Value), v = r0 ∧ IsS r0 ∧ ow = ints 3 r0 (lwOf cr cd) :: own) := by
 refine Spec.enter Tryd.f24 _ Tryd.func24 rfl (n := 8) rfl rfl ?_
 refine GC.seq (GC.region ?_)
 refine G.step (OG.box (cs := [.int .i64 (cr), vcd]) rfl rfl rfl) rfl rfl rfl ?_
 rintro _ _ ⟨g1, rfl, rfl⟩
 refine G.stepD (OD.assign rfl rfl) rfl rfl rfl ?_
 refine G.nil (GE.then_ (GC.seq (GC.seq (GC.region ?_))))
 refine G.stepD (OD.loadAgg rfl ti27 rfl (i := 0) rfl (us := [.int .i64 (cr), vcd]) rfl rfl) rfl rfl rfl ?_
 refine G.step (OG.call [.agg #[.int .i64 (cr), vcd]] ent51 rfl rfl rfl rfl (by exact (specIsCartan_w scd (Ent.drop 1 ecd) (hl0)))) rfl rfl rfl ?_
 rintro _ _ ⟨rfl, rfl⟩
 refine G.stepD (OD.not rfl rfl) rfl rfl rfl ?_
 refine G.nil (GE.then_ ?_)
 refine GC.cond rfl (fun hc2 => ?_) (fun hc2 => ?_)
 replace hc2 := eq_false_of_not hc2
 refine GC.seq (GC.region ?_)
 refine G.stepD (OD.assign rfl rfl) rfl rfl rfl ?_
 refine G.nil (GE.then_ (GC.ret (GE.passR ?_)))
 refine GE.nilInts 3 ?_
 exact GE.body [0] 1 (res1 rfl rfl) rfl (⟨(.slice none 0 0), rfl, IsS.nil, congrArg (fun (l0 : List Int) => ints 3 (.slice none 0 0) l0 :: own) ((by rw [lwOf, hc2]; rfl : [] = lwOf cr cd))⟩)
 replace hc2 := eq_true_of_not hc2
 refine GC.skip (GE.then_ (GC.seq (GC.region ?_)))
 refine G.stepD (OD.loadAgg rfl ti27 rfl (i := 0) rfl (us := [.int .i64 (cr), vcd]) rfl rfl) rfl rfl rfl ?_
 refine G.step (OG.call [.agg #[.int .i64 (cr), vcd]] ent59 rfl rfl rfl rfl (by exact (l6Longest_w scd (Ent.drop 1 ecd) ((tyS_ok hc2).1) ((tyS_ok hc2).2) (phOk hc2)))) rfl rfl rfl ?_
 rintro v3 _ ⟨_, rfl, hs4, rfl⟩
 refine G.stepD (OD.assign rfl rfl) rfl rfl rfl ?_
 refine G.nil (GE.then_ (GC.ret ?_))
 exact GE.body [0] 1 (res1 rfl rfl) rfl (⟨v3, rfl, hs4, congrArg (fun (l0 : List Int) => ints 3 v3 l0 :: own) ((by rw [lwOf, hc2]; rfl : lwF cr cd = lwOf cr cd))⟩)

set_option maxRecDepth 100000 in
theorem dualWeight_w {W : World} {own : List Asn} {cr : Int} {vcd : Value} {cd : List Int} {vx : Value} {x : List Int}  (scd : IsS vcd) (ecd : Ent own fun w => Ints w vcd cd)   (sx : IsS vx) (ex : Ent own fun w => Ints w vx x)  (hl0 : cd.length ≤ 1073741824) (hl : x.length ≤ 1073741824) (hg : Ent own fun w => ∃ m, w.cell? ⟨Tryd.l146_ren.g 1, 0, none⟩ = some (.int .i64 m)) : Spec Tryd.prog 34 [.agg #[.int .i64 (cr), vcd], vx] W own (fun v ow => ∃ (r0 : Value), v = r0 ∧ IsS r0 ∧ ow = ints 3 r0 (dwOf cr cd x) :: own) := by
 refine Spec.enter Tryd.f34 _ Tryd.func34 rfl (n := 20) rfl rfl ?_
 refine GC.seq (GC.region ?_)
 refine G.step (OG.box (cs := [.int .i64 (cr), vcd]) rfl rfl rfl) rfl rfl rfl ?_
 rintro _ _ ⟨g1, rfl, rfl⟩
 refine G.stepD (OD.assign rfl rfl) rfl rfl rfl ?_
 refine G.nil (GE.then_ (GC.seq (GC.seq (GC.region ?_))))
 refine G.stepD (OD.loadAgg rfl ti27 rfl (i := 0) rfl (us := [.int .i64 (cr), vcd]) rfl rfl) rfl rfl rfl ?_
 refine G.step (OG.call [.agg #[.int .i64 (cr), vcd]] ent54 rfl rfl rfl rfl (by exact (isCartan_w scd (Ent.drop 1 ecd) (hl0) ((Ent.drop 1 hg))))) rfl rfl rfl ?_
 rintro _ _ ⟨rfl, rfl⟩
 refine G.stepD (OD.not rfl rfl) rfl rfl rfl ?_
 refine G.stepD (OD.move rfl rfl) rfl rfl rfl ?_
 rcases Bool.eq_false_or_eq_true (!((tyS cr cd).isSome)) with hg2 | hg2
 have hg2e := hg2
 refine G.at [] 0 (env' := [(0, .agg #[.int .i64 (cr), vcd]), (1, vx), (2, .pointer (some ⟨g1, 0, none⟩)), (4, .slice none 0 0), (5, .agg #[.int .i64 (cr), vcd]), (6, .bool ((tyS cr cd).isSome)), (7, .bool true), (8, .bool true)]) (⟨rfl, rfl, rfl, rfl, rfl, rfl, (congrArg (fun b => some (Value.bool b)) hg2e), (congrArg (fun b => some (Value.bool b)) hg2e), trivial⟩) rfl ?_
 replace hg2 := eq_false_of_not hg2
 refine G.skipG rfl rfl rfl rfl rfl rfl (G.skipG rfl rfl rfl rfl rfl rfl (G.skipG rfl rfl rfl rfl rfl rfl (G.skipG rfl rfl rfl rfl rfl rfl ?_)))
 refine G.stepD (OD.pickT rfl rfl rfl) rfl rfl rfl ?_
 refine G.nil (GE.then_ (GC.condT rfl (GC.seq (GC.region ?_))))
 refine G.stepD (OD.assign rfl rfl) rfl rfl rfl ?_
 refine G.nil (GE.then_ (GC.ret (GE.passR ?_)))
 refine GE.nilInts 3 ?_
 exact GE.body [0] 1 (res1 rfl rfl) rfl (⟨(.slice none 0 0), rfl, IsS.nil, congrArg (fun (l0 : List Int) => ints 3 (.slice none 0 0) l0 :: own) ((by rw [dwOf]; exact (if_f1 hg2).symm : [] = dwOf cr cd x))⟩)
 have hg2e := hg2
 refine G.at [] 0 (env' := [(0, .agg #[.int .i64 (cr), vcd]), (1, vx), (2, .pointer (some ⟨g1, 0, none⟩)), (4, .slice none 0 0), (5, .agg #[.int .i64 (cr), vcd]), (6, .bool ((tyS cr cd).isSome)), (7, .bool false), (8, .bool false)]) (⟨rfl, rfl, rfl, rfl, rfl, rfl, (congrArg (fun b => some (Value.bool b)) hg2e), (congrArg (fun b => some (Value.bool b)) hg2e), trivial⟩) rfl ?_
 replace hg2 := eq_true_of_not hg2
 refine G.stepGD (OD.loadAgg rfl ti27 rfl (i := 0) rfl (us := [.int .i64 (cr), vcd]) rfl rfl) rfl rfl rfl rfl rfl ?_
 refine G.stepGD (OD.move rfl rfl) rfl rfl rfl rfl rfl ?_
 refine G.stepG (OG.call [.agg #[.int .i64 (cr), vcd], vx] ent67 rfl rfl rfl rfl (by exact (isHighest_w scd (Ent.drop 1 ecd) sx (Ent.drop 1 ex) (by omega)))) rfl rfl rfl rfl rfl ?_
 rintro _ _ ⟨rfl, rfl⟩
 refine G.stepGD (OD.not rfl rfl) rfl rfl rfl rfl rfl ?_
 refine G.stepD (OD.pickF rfl rfl rfl) rfl rfl rfl ?_
 refine G.nil (GE.then_ ?_)
 refine GC.cond rfl (fun hc3 => ?_) (fun hc3 => ?_)
 replace hc3 := eq_false_of_not hc3
 refine GC.seq (GC.region ?_)
 refine G.stepD (OD.assign rfl rfl) rfl rfl rfl ?_
 refine G.nil (GE.then_ (GC.ret (GE.passR ?_)))
 refine GE.nilInts 3 ?_
 exact GE.body [0] 1 (res1 rfl rfl) rfl (⟨(.slice none 0 0), rfl, IsS.nil, congrArg (fun (l0 : List Int) => ints 3 (.slice none 0 0) l0 :: own) ((by rw [dwOf]; exact (if_f2 hc3).symm : [] = dwOf cr cd x))⟩)
 replace hc3 := eq_true_of_not hc3
 refine GC.skip (GE.then_ (GC.seq ?_))
 refine GC.at [] 0 (env' := [(1, vx), (2, .pointer (some ⟨g1, 0, none⟩)), (4, .slice none 0 0)]) ⟨rfl, rfl, rfl, trivial⟩ rfl ?_
 refine GC.par (its := [⟨14, [], [], [], [], fun _ => .agg #[.int .i64 (cr), vcd], fun _ => True, fun _ => []⟩,
     ⟨15, [], [], [], [], fun _ => .agg #[.int .i64 (cr), vcd], fun _ => True, fun _ => []⟩,
     ⟨16, [(1, 15)], [], [], [2], fun ds => ((ds.getD 0 []).getD 0 undef), fun ds => IsS ((ds.getD 0 []).getD 0 undef), fun ds => [ints 3 ((ds.getD 0 []).getD 0 undef) (lwF cr cd)]⟩,
     ⟨17, [], [], [], [], fun _ => vx, fun _ => True, fun _ => []⟩,
     ⟨18, [(3, 17)], [], [], [4], fun ds => ((ds.getD 0 []).getD 0 undef), fun ds => IsS ((ds.getD 0 []).getD 0 undef), fun ds => [ints 3 ((ds.getD 0 []).getD 0 undef) (lpF (List.replicate x.length 0) (-1) x)]⟩,
     ⟨19, [(0, 14), (2, 16), (4, 18)], [2, 4], [], [2, 4, 5], fun ds => ((ds.getD 2 []).getD 0 undef), fun ds => IsS ((ds.getD 2 []).getD 0 undef), fun ds => [ints 3 ((ds.getD 2 []).getD 0 undef) (actF cr cd (lwF cr cd) (lpF (List.replicate x.length 0) (-1) x))]⟩]) (by kernel_rfl) (by kernel_rfl) (POps.cons ?_ (POps.cons ?_ (POps.cons ?_ (POps.cons ?_ (POps.cons ?_ (POps.cons ?_ POps.nil)))))) ?_
 intro θ R hd
 exact Opp.plain (OG.imp (OD.loadAgg rfl ti27 rfl (i := 0) rfl (us := [.int .i64 (cr), vcd]) rfl rfl) (by rintro _ _ ⟨rfl, rfl⟩; exact ⟨[], rfl, trivial, rfl⟩)) rfl
 intro θ R hd
 exact Opp.plain (OG.imp (OD.loadAgg rfl ti27 rfl (i := 0) rfl (us := [.int .i64 (cr), vcd]) rfl rfl) (by rintro _ _ ⟨rfl, rfl⟩; exact ⟨[], rfl, trivial, rfl⟩)) rfl
 intro θ R hd
 obtain ⟨h1d, _⟩ := hd
 exact Opp.plain (OG.imp (OG.call [.agg #[.int .i64 (cr), vcd]] ent60 rfl rfl rfl rfl (by exact (longest_w scd (Ent.drop 1 ecd.app) ((tyS_ok hg2).1) ((tyS_ok hg2).2) (phOk hg2)))) (by rintro v4 _ ⟨_, rfl, hs5, rfl⟩; exact ⟨[v4], rfl, hs5, rfl⟩)) rfl
 intro θ R hd
 exact Opp.plain (OG.imp (OD.move rfl rfl) (by rintro _ _ ⟨rfl, rfl⟩; exact ⟨[], rfl, trivial, rfl⟩)) rfl
 intro θ R hd
 obtain ⟨h3d, _⟩ := hd
 exact Opp.plain (OG.imp (OG.call [.int .i64 (-1), vx] ent68 rfl rfl rfl rfl (by exact (listTimes_w sx (Ent.drop 1 ex.app) (by omega)))) (by rintro v6 _ ⟨_, rfl, hs7, rfl⟩; exact ⟨[v6], rfl, hs7, rfl⟩)) rfl
 intro θ R hd
 obtain ⟨h0d, h2d, h4d, _⟩ := hd
 exact Opp.plain (OG.imp (OG.call [.agg #[.int .i64 (cr), vcd], ((θ 2).getD 0 undef), ((θ 4).getD 0 undef)] ent48 rfl rfl rfl rfl (by exact (actWeight_w scd (Ent.drop 3 ecd.app) h2d (Ent.ints (i := 0) rfl) h4d (Ent.ints (i := 1) rfl) ((tyS_ok hg2).1) ((tyS_ok hg2).2) (⟨Nat.le_trans (nwF_len _ _ _) (by decide), nwF_rng (by rw [ones_len])⟩) (by have := (hiOk_len hc3).1; rw [lpF_len, List.length_replicate]; omega)))) (by rintro v8 _ ⟨_, rfl, hs9, rfl⟩; exact ⟨[v8], rfl, hs9, rfl⟩)) rfl
 intro θ hall
 obtain ⟨_, _, h2a, _, h4a, h5a, _⟩ := hall
 refine G.at [] 0 (env' := [(4, .slice none 0 0), (19, ((θ 5).getD 0 undef))]) ⟨rfl, rfl, trivial⟩ (own' := ints 3 ((θ 2).getD 0 undef) (lwF cr cd) :: ints 3 ((θ 4).getD 0 undef) (lpF (List.replicate x.length 0) (-1) x) :: ints 3 ((θ 5).getD 0 undef) (actF cr cd (lwF cr cd) (lpF (List.replicate x.length 0) (-1) x)) :: box g1 27 [.int .i64 (cr), vcd] :: own) rfl ?_
 have hs10 : IsS ((θ 2).getD 0 undef) := h2a
 clear h2a
 generalize ((θ 2).getD 0 undef) = v11 at *
 have hs12 : IsS ((θ 4).getD 0 undef) := h4a
 clear h4a
 generalize ((θ 4).getD 0 undef) = v13 at *
 have hs14 : IsS ((θ 5).getD 0 undef) := h5a
 clear h5a
 generalize ((θ 5).getD 0 undef) = v15 at *
 show G _ _ _ [_] _ _ _ _
 refine G.stepD (OD.assign rfl rfl) rfl rfl rfl ?_
 refine G.nil (GE.then_ (GC.ret ?_))
 exact GE.body [2] 3 (res1 rfl rfl) rfl (⟨v15, rfl, hs14, congrArg (fun (l0 : List Int) => ints 3 v15 l0 :: own) ((by rw [lp_minus (hiOk_len hc3).2, dwOf]; exact (if_t hg2 hc3).symm : actF cr cd (lwF cr cd) (lpF (List.replicate x.length 0) (-1) x) = dwOf cr cd x))⟩)

set_option maxRecDepth 100000 in
theorem specDualWeight_w {W : World} {own : List Asn} {cr : Int} {vcd : Value} {cd : List Int} {vx : Value} {x : List Int}  (scd : IsS vcd) (ecd : Ent own fun w => Ints w vcd cd)   (sx : IsS vx) (ex : Ent own fun w => Ints w vx x)  (hl0 : cd.length ≤ 1073741824) (hl : x.length ≤ 1073741824) : Spec Tryd.prog 33 [.agg #[.int .i64 (cr), vcd], vx] W own (fun v ow => ∃ (r0 : Value), v = r0 ∧ IsS r0 ∧ ow = ints 3 r0 (dwOf cr cd x) :: own) := by
 refine Spec.enter Tryd.f33 _ Tryd.func33 rfl (n := 20) rfl rfl ?_
 refine GC.seq (GC.region ?_)
 refine G.step (OG.box (cs := [.int .i64 (cr), vcd]) rfl rfl rfl) rfl rfl rfl ?_
 rintro _ _ ⟨g1, rfl, rfl⟩
 refine G.stepD (OD.assign rfl rfl) rfl rfl rfl ?_
 refine G.nil (GE.then_ (GC.seq (GC.seq (GC.region ?_))))
 refine G.stepD (OD.loadAgg rfl ti27 rfl (i := 0) rfl (us := [.int .i64 (cr), vcd]) rfl rfl) rfl rfl rfl ?_
 refine G.step (OG.call [.agg #[.int .i64 (cr), vcd]] ent51 rfl rfl rfl rfl (by exact (specIsCartan_w scd (Ent.drop 1 ecd) (hl0)))) rfl rfl rfl ?_
 rintro _ _ ⟨rfl, rfl⟩
 refine G.stepD (OD.not rfl rfl) rfl rfl rfl ?_
 refine G.stepD (OD.move rfl rfl) rfl rfl rfl ?_
 rcases Bool.eq_false_or_eq_true (!((tyS cr cd).isSome)) with hg2 | hg2
 have hg2e := hg2
 refine G.at [] 0 (env' := [(0, .agg #[.int .i64 (cr), vcd]), (1, vx), (2, .pointer (some ⟨g1, 0, none⟩)), (4, .slice none 0 0), (5, .agg #[.int .i64 (cr), vcd]), (6, .bool ((tyS cr cd).isSome)), (7, .bool true), (8, .bool true)]) (⟨rfl, rfl, rfl, rfl, rfl, rfl, (congrArg (fun b => some (Value.bool b)) hg2e), (congrArg (fun b => some (Value.bool b)) hg2e), trivial⟩) rfl ?_
 replace hg2 := eq_false_of_not hg2
 refine G.skipG rfl rfl rfl rfl rfl rfl (G.skipG rfl rfl rfl rfl rfl rfl (G.skipG rfl rfl rfl rfl rfl rfl (G.skipG rfl rfl rfl rfl rfl rfl ?_)))
 refine G.stepD (OD.pickT rfl rfl rfl) rfl rfl rfl ?_
 refine G.nil (GE.then_ (GC.condT rfl (GC.seq (GC.region ?_))))
 refine G.stepD (OD.assign rfl rfl) rfl rfl rfl ?_
 refine G.nil (GE.then_ (GC.ret (GE.passR ?_)))
 refine GE.nilInts 3 ?_
 exact GE.body [0] 1 (res1 rfl rfl) rfl (⟨(.slice none 0 0), rfl, IsS.nil, congrArg (fun (l0 : List Int) => ints 3 (.slice none 0 0) l0 :: own) ((by rw [dwOf]; exact (if_f1 hg2).symm : [] = dwOf cr cd x))⟩)
 have hg2e := hg2
 refine G.at [] 0 (env' := [(0, .agg #[.int .i64 (cr), vcd]), (1, vx), (2, .pointer (some ⟨g1, 0, none⟩)), (4, .slice none 0 0), (5, .agg #[.int .i64 (cr), vcd]), (6, .bool ((tyS cr cd).isSome)), (7, .bool false), (8, .bool false)]) (⟨rfl, rfl, rfl, rfl, rfl, rfl, (congrArg (fun b => some (Value.bool b)) hg2e), (congrArg (fun b => some (Value.bool b)) hg2e), trivial⟩) rfl ?_
 replace hg2 := eq_true_of_not hg2
 refine G.stepGD (OD.loadAgg rfl ti27 rfl (i := 0) rfl (us := [.int .i64 (cr), vcd]) rfl rfl) rfl rfl rfl rfl rfl ?_
 refine G.stepGD (OD.move rfl rfl) rfl rfl rfl rfl rfl ?_
 refine G.stepG (OG.call [.agg #[.int .i64 (cr), vcd], vx] ent65 rfl rfl rfl rfl (by exact (l8Highest_w scd (Ent.drop 1 ecd) sx (Ent.drop 1 ex) (by omega)))) rfl rfl rfl rfl rfl ?_
 rintro _ _ ⟨rfl, rfl⟩
 refine G.stepGD (OD.not rfl rfl) rfl rfl rfl rfl rfl ?_
 refine G.stepD (OD.pickF rfl rfl rfl) rfl rfl rfl ?_
 refine G.nil (GE.then_ ?_)
 refine GC.cond rfl (fun hc3 => ?_) (fun hc3 => ?_)
 replace hc3 := eq_false_of_not hc3
 refine GC.seq (GC.region ?_)
 refine G.stepD (OD.assign rfl rfl) rfl rfl rfl ?_
 refine G.nil (GE.then_ (GC.ret (GE.passR ?_)))
 refine GE.nilInts 3 ?_
 exact GE.body [0] 1 (res1 rfl rfl) rfl (⟨(.slice none 0 0), rfl, IsS.nil, congrArg (fun (l0 : List Int) => ints 3 (.slice none 0 0) l0 :: own) ((by rw [dwOf]; exact (if_f2 hc3).symm : [] = dwOf cr cd x))⟩)
 replace hc3 := eq_true_of_not hc3
 refine GC.skip (GE.then_ (GC.seq ?_))
 refine GC.at [] 0 (env' := [(1, vx), (2, .pointer (some ⟨g1, 0, none⟩)), (4, .slice none 0 0)]) ⟨rfl, rfl, rfl, trivial⟩ rfl ?_
 refine GC.par (its := [⟨14, [], [], [], [], fun _ => .agg #[.int .i64 (cr), vcd], fun _ => True, fun _ => []⟩,
     ⟨15, [], [], [], [], fun _ => .agg #[.int .i64 (cr), vcd], fun _ => True, fun _ => []⟩,
     ⟨16, [(1, 15)], [], [], [2], fun ds => ((ds.getD 0 []).getD 0 undef), fun ds => IsS ((ds.getD 0 []).getD 0 undef), fun ds => [ints 3 ((ds.getD 0 []).getD 0 undef) (lwF cr cd)]⟩,
     ⟨17, [], [], [], [], fun _ => vx, fun _ => True, fun _ => []⟩,
     ⟨18, [(3, 17)], [], [], [4], fun ds => ((ds.getD 0 []).getD 0 undef), fun ds => IsS ((ds.getD 0 []).getD 0 undef), fun ds => [ints 3 ((ds.getD 0 []).getD 0 undef) (mnF x)]⟩,
     ⟨19, [(0, 14), (2, 16), (4, 18)], [2, 4], [], [2, 4, 5], fun ds => ((ds.getD 2 []).getD 0 undef), fun ds => IsS ((ds.getD 2 []).getD 0 undef), fun ds => [ints 3 ((ds.getD 2 []).getD 0 undef) (actF cr cd (lwF cr cd) (mnF x))]⟩]) (by kernel_rfl) (by kernel_rfl) (POps.cons ?_ (POps.cons ?_ (POps.cons ?_ (POps.cons ?_ (POps.cons ?_ (POps.cons ?_ POps.nil)))))) ?_
 intro θ R hd
 exact Opp.plain (OG.imp (OD.loadAgg rfl ti27 rfl (i := 0) rfl (us := [.int .i64 (cr), vcd]) rfl rfl) (by rintro _ _ ⟨rfl, rfl⟩; exact ⟨[], rfl, trivial, rfl⟩)) rfl
 intro θ R hd
 exact Opp.plain (OG.imp (OD.loadAgg rfl ti27 rfl (i := 0) rfl (us := [.int .i64 (cr), vcd]) rfl rfl) (by rintro _ _ ⟨rfl, rfl⟩; exact ⟨[], rfl, trivial, rfl⟩)) rfl
 intro θ R hd
 obtain ⟨h1d, _⟩ := hd
 exact Opp.plain (OG.imp (OG.call [.agg #[.int .i64 (cr), vcd]] ent59 rfl rfl rfl rfl (by exact (l6Longest_w scd (Ent.drop 1 ecd.app) ((tyS_ok hg2).1) ((tyS_ok hg2).2) (phOk hg2)))) (by rintro v4 _ ⟨_, rfl, hs5, rfl⟩; exact ⟨[v4], rfl, hs5, rfl⟩)) rfl
 intro θ R hd
 exact Opp.plain (OG.imp (OD.move rfl rfl) (by rintro _ _ ⟨rfl, rfl⟩; exact ⟨[], rfl, trivial, rfl⟩)) rfl
 intro θ R hd
 obtain ⟨h3d, _⟩ := hd
 exact Opp.plain (OG.imp (OG.call [vx] ent66 rfl rfl rfl rfl (by exact (l5Minus_w sx (Ent.drop 1 ex.app) ((hiOk_len hc3).2) (by omega)))) (by rintro v6 _ ⟨_, rfl, hs7, rfl⟩; exact ⟨[v6], rfl, hs7, rfl⟩)) rfl
 intro θ R hd
 obtain ⟨h0d, h2d, h4d, _⟩ := hd
 exact Opp.plain (OG.imp (OG.call [.agg #[.int .i64 (cr), vcd], ((θ 2).getD 0 undef), ((θ 4).getD 0 undef)] ent44 rfl rfl rfl rfl (by exact (l6Act_w scd (Ent.drop 3 ecd.app) h2d (Ent.ints (i := 0) rfl) h4d (Ent.ints (i := 1) rfl) ((tyS_ok hg2).1) ((tyS_ok hg2).2) (⟨Nat.le_trans (nwF_len _ _ _) (by decide), nwF_rng (by rw [ones_len])⟩) (by have := (hiOk_len hc3).1; rw [mnF_len]; omega)))) (by rintro v8 _ ⟨_, rfl, hs9, rfl⟩; exact ⟨[v8], rfl, hs9, rfl⟩)) rfl
 intro θ hall
 obtain ⟨_, _, h2a, _, h4a, h5a, _⟩ := hall
 refine G.at [] 0 (env' := [(4, .slice none 0 0), (19, ((θ 5).getD 0 undef))]) ⟨rfl, rfl, trivial⟩ (own' := ints 3 ((θ 2).getD 0 undef) (lwF cr cd) :: ints 3 ((θ 4).getD 0 undef) (mnF x) :: ints 3 ((θ 5).getD 0 undef) (actF cr cd (lwF cr cd) (mnF x)) :: box g1 27 [.int .i64 (cr), vcd] :: own) rfl ?_
 have hs10 : IsS ((θ 2).getD 0 undef) := h2a
 clear h2a
 generalize ((θ 2).getD 0 undef) = v11 at *
 have hs12 : IsS ((θ 4).getD 0 undef) := h4a
 clear h4a
 generalize ((θ 4).getD 0 undef) = v13 at *
 have hs14 : IsS ((θ 5).getD 0 undef) := h5a
 clear h5a
 generalize ((θ 5).getD 0 undef) = v15 at *
 show G _ _ _ [_] _ _ _ _
 refine G.stepD (OD.assign rfl rfl) rfl rfl rfl ?_
 refine G.nil (GE.then_ (GC.ret ?_))
 exact GE.body [2] 3 (res1 rfl rfl) rfl (⟨v15, rfl, hs14, congrArg (fun (l0 : List Int) => ints 3 v15 l0 :: own) ((by rw [dwOf]; exact (if_t hg2 hc3).symm : actF cr cd (lwF cr cd) (mnF x) = dwOf cr cd x))⟩)

set_option maxHeartbeats 4000000 in
set_option maxRecDepth 100000 in
theorem lawSameElement {W : World} {own : List Asn} {cr : Int} {vcd : Value} {cd : List Int} {vx : Value} {x : List Int} {vy : Value} {y : List Int}  (scd : IsS vcd) (ecd : Ent own fun w => Ints w vcd cd)   (sx : IsS vx) (ex : Ent own fun w => Ints w vx x)   (sy : IsS vy) (ey : Ent own fun w => Ints w vy y)  (hcd : cd.length ≤ 9223372036854775807) (hx : x.length ≤ 9223372036854775807) (hy : y.length ≤ 9223372036854775807) (hg : Ent own fun w => ∃ m, w.cell? ⟨Tryd.l146_ren.g 1, 0, none⟩ = some (.int .i64 m)) : Spec Tryd.prog 3 [.agg #[.int .i64 (cr), vcd], vx, vy] W own (fun v ow => v = .bool (true) ∧ ow = own) := by
 refine Spec.enter Tryd.f3 _ Tryd.func3 rfl (n := 59) rfl rfl ?_
 refine GC.seq (GC.region ?_)
 refine G.step (OG.box (cs := [.int .i64 (cr), vcd]) rfl rfl rfl) rfl rfl rfl ?_
 rintro _ _ ⟨g1, rfl, rfl⟩
 refine G.stepD (OD.assign rfl rfl) rfl rfl rfl ?_
 refine G.nil (GE.then_ (GC.seq (GC.seq (GC.region ?_))))
 refine G.stepD (OD.move rfl rfl) rfl rfl rfl ?_
 refine G.stepD (OD.len rfl rfl et22 rfl (Ent.drop 1 ex)) rfl rfl rfl ?_
 refine G.stepD (OD.gtr rfl rfl rfl) rfl rfl rfl ?_
 refine G.nil (GE.then_ ?_)
 refine GC.cond rfl (fun hc2 => ?_) (fun hc2 => ?_)
 replace hc2 := of_decide_eq_true hc2
 refine GC.seq (GC.region ?_)
 refine G.stepD (OD.assign rfl rfl) rfl rfl rfl ?_
 refine G.nil (GE.then_ (GC.ret (GE.passR ?_)))
 exact GE.body [] 1 (res1 rfl rfl) rfl (⟨rfl, rfl⟩)
 replace hc2 := of_decide_eq_false hc2
 refine GC.skip (GE.then_ (GC.seq (GC.seq (GC.region ?_))))
 refine G.stepD (OD.move rfl rfl) rfl rfl rfl ?_
 refine G.stepD (OD.len rfl rfl et22 rfl (Ent.drop 1 ey)) rfl rfl rfl ?_
 refine G.stepD (OD.gtr rfl rfl rfl) rfl rfl rfl ?_
 refine G.nil (GE.then_ ?_)
 refine GC.cond rfl (fun hc3 => ?_) (fun hc3 => ?_)
 replace hc3 := of_decide_eq_true hc3
 refine GC.seq (GC.region ?_)
 refine G.stepD (OD.assign rfl rfl) rfl rfl rfl ?_
 refine G.nil (GE.then_ (GC.ret (GE.passR ?_)))
 exact GE.body [] 1 (res1 rfl rfl) rfl (⟨rfl, rfl⟩)
 replace hc3 := of_decide_eq_false hc3
 refine GC.skip (GE.then_ (GC.seq (GC.region ?_)))
 refine G.stepD (OD.assign rfl rfl) rfl rfl rfl ?_
 refine G.nil (GE.then_ (GC.seq (GC.region ?_)))
 refine G.stepD (OD.loadAgg rfl ti24 rfl (i := 0) rfl (us := [.int .i64 (cr), vcd]) rfl rfl) rfl rfl rfl ?_
 refine G.stepD (OD.move rfl rfl) rfl rfl rfl ?_
 refine G.step (OG.call [.agg #[.int .i64 (cr), vcd], .int .i64 (1048576)] ent12 rfl rfl rfl rfl (by exact (szCartan_s scd (Ent.drop 1 ecd) (by omega) (by omega)))) rfl rfl rfl ?_
 rintro _ _ ⟨rfl, rfl⟩
 refine G.stepD (OD.assign rfl rfl) rfl rfl rfl ?_
 refine G.nil (GE.then_ (GC.seq (GC.seq (GC.region ?_))))
 refine G.stepD (OD.move rfl rfl) rfl rfl rfl ?_
 refine G.stepD (OD.lss rfl rfl rfl) rfl rfl rfl ?_
 refine G.nil (GE.then_ ?_)
 refine GC.cond rfl (fun hc4 => ?_) (fun hc4 => ?_)
 replace hc4 := of_decide_eq_true hc4
 refine GC.seq (GC.region ?_)
 refine G.stepD (OD.assign rfl rfl) rfl rfl rfl ?_
 refine G.nil (GE.then_ (GC.ret (GE.passR ?_)))
 exact GE.body [] 1 (res1 rfl rfl) rfl (⟨rfl, rfl⟩)
 replace hc4 := of_decide_eq_false hc4
 have hc4z := szG_ok hc4
 refine GC.skip (GE.then_ (GC.seq (GC.region ?_)))
 refine G.stepD (OD.loadAgg rfl ti24 rfl (i := 0) rfl (us := [.int .i64 (cr), vcd]) rfl rfl) rfl rfl rfl ?_
 refine G.step (OG.call [.agg #[.int .i64 (cr), vcd]] ent14 rfl rfl rfl rfl (by exact (toCartan_s scd (Ent.drop 1 ecd) (by omega)))) rfl rfl rfl ?_
 rintro _ _ ⟨v5, rfl, hs6, rfl⟩
 refine G.stepD (OD.move rfl rfl) rfl rfl rfl ?_
 refine G.step (OG.call [vx] ent15 rfl rfl rfl rfl (by exact (toIntS_s sx (Ent.drop 2 ex) (by omega)))) rfl rfl rfl ?_
 rintro v7 _ ⟨_, rfl, hs8, rfl⟩
 refine G.stepD (OD.move rfl rfl) rfl rfl rfl ?_
 refine G.step (OG.call [vy] ent15 rfl rfl rfl rfl (by exact (toIntS_s sy (Ent.drop 3 ey) (by omega)))) rfl rfl rfl ?_
 rintro v9 _ ⟨_, rfl, hs10, rfl⟩
 refine G.step (OG.call [.agg #[.int .i64 (cr), v5], v7, v9] ent13 rfl rfl rfl rfl (by exact (specSameElement_w hs6 (Ent.ints (i := 2) rfl) hs8 (Ent.ints (i := 1) rfl) hs10 (Ent.ints (i := 0) rfl) (by omega) (by omega) (by omega)))) rfl rfl rfl ?_
 rintro _ _ ⟨rfl, rfl⟩
 refine G.stepD (OD.assign rfl rfl) rfl rfl rfl ?_
 refine G.nil (GE.then_ (GC.seq (GC.region ?_)))
 refine G.stepD (OD.loadAgg rfl ti24 rfl (i := 3) rfl (us := [.int .i64 (cr), vcd]) rfl rfl) rfl rfl rfl ?_
 refine G.step (OG.call [.agg #[.int .i64 (cr), vcd]] ent14 rfl rfl rfl rfl (by exact (toCartan_s scd (Ent.drop 4 ecd) (by omega)))) rfl rfl rfl ?_
 rintro _ _ ⟨v11, rfl, hs12, rfl⟩
 refine G.step (OG.alloc rfl ti27 (zs := [.int .i64 (0), .slice none 0 0]) rfl) rfl rfl rfl ?_
 rintro _ _ ⟨g13, rfl, rfl⟩
 refine G.stepD0 (OD.store rfl ti27 rfl rfl (us := [.int .i64 (cr), v11]) rfl rfl (allC rfl (allC (IsS.one hs12) rfl)) (i := 0) rfl rfl) rfl rfl ?_
 refine G.nil (GE.then_ (GC.seq (GC.region ?_)))
 refine G.stepD (OD.move rfl rfl) rfl rfl rfl ?_
 refine G.step (OG.call [vx] ent15 rfl rfl rfl rfl (by exact (toIntS_s sx (Ent.drop 6 ex) (by omega)))) rfl rfl rfl ?_
 rintro v14 _ ⟨_, rfl, hs15, rfl⟩
 refine G.stepD (OD.assign rfl rfl) rfl rfl rfl ?_
 refine G.nil (GE.then_ (GC.seq (GC.region ?_)))
 refine G.stepD (OD.move rfl rfl) rfl rfl rfl ?_
 refine G.step (OG.call [vy] ent15 rfl rfl rfl rfl (by exact (toIntS_s sy (Ent.drop 7 ey) (by omega)))) rfl rfl rfl ?_
 rintro v16 _ ⟨_, rfl, hs17, rfl⟩
 refine G.stepD (OD.assign rfl rfl) rfl rfl rfl ?_
 refine G.nil (GE.then_ (GC.seq (GC.region ?_)))
 refine G.stepD (OD.loadAgg rfl ti27 rfl (i := 2) rfl (us := [.int .i64 (cr), v11]) rfl rfl) rfl rfl rfl ?_
 refine G.stepD (OD.move rfl rfl) rfl rfl rfl ?_
 refine G.stepD (OD.move rfl rfl) rfl rfl rfl ?_
 refine G.step (OG.call [.agg #[.int .i64 (cr), v11], v14, v16] ent16 rfl rfl rfl rfl (by exact (sameElement_w hs12 (Ent.ints (i := 3) rfl) hs15 (Ent.ints (i := 1) rfl) hs17 (Ent.ints (i := 0) rfl) (by omega) (by omega) (by omega) ((Ent.drop 8 hg))))) rfl rfl rfl ?_
 rintro _ _ ⟨rfl, rfl⟩
 refine G.stepD (OD.assign rfl rfl) rfl rfl rfl ?_
 refine G.nil (GE.then_ (GC.seq (GC.seq (GC.region ?_))))
 refine G.stepD (OD.move rfl rfl) rfl rfl rfl ?_
 refine G.stepD (OD.move rfl rfl) rfl rfl rfl ?_
 refine G.stepD (OD.eqv (OD.neqB bt4 rfl rfl rfl) (congrArg Value.bool (bneB_same _))) rfl rfl rfl ?_
 refine G.nil (GE.then_ (GC.condF rfl (GC.skip (GE.then_ (GC.seq (GC.seq ?_))))))
 refine GC.at [] 0 (env' := [(1, vx), (2, vy), (3, .pointer (some ⟨g1, 0, none⟩)), (9, .pointer (some ⟨g13, 0, none⟩)), (10, v14), (11, v16)]) ⟨rfl, rfl, rfl, rfl, rfl, rfl, trivial⟩ rfl ?_
 refine GC.par (its := [⟨44, [], [], [], [], fun _ => .agg #[.int .i64 (cr), v11], fun _ => True, fun _ => []⟩,
     ⟨45, [], [], [], [], fun _ => .agg #[.int .i64 (cr), vcd], fun _ => True, fun _ => []⟩,
     ⟨46, [(1, 45)], [], [], [2], fun ds => .agg #[.int .i64 (cr), ((ds.getD 0 []).getD 0 undef)], fun ds => IsS ((ds.getD 0 []).getD 0 undef), fun ds => [ints 3 ((ds.getD 0 []).getD 0 undef) cd]⟩,
     ⟨47, [(0, 44), (2, 46)], [2], [], [2], fun _ => .bool true, fun _ => True, fun _ => []⟩,
     ⟨48, [(3, 47)], [2], [], [2], fun _ => .bool false, fun _ => True, fun _ => []⟩]) (by kernel_rfl) (by kernel_rfl) (POps.cons ?_ (POps.cons ?_ (POps.cons ?_ (POps.cons ?_ (POps.cons ?_ POps.nil))))) ?_
 intro θ R hd
 exact Opp.plain (OG.imp (OD.loadAgg rfl ti27 rfl (i := 2) rfl (us := [.int .i64 (cr), v11]) rfl rfl) (by rintro _ _ ⟨rfl, rfl⟩; exact ⟨[], rfl, trivial, rfl⟩)) rfl
 intro θ R hd
 exact Opp.plain (OG.imp (OD.loadAgg rfl ti24 rfl (i := 7) rfl (us := [.int .i64 (cr), vcd]) rfl rfl) (by rintro _ _ ⟨rfl, rfl⟩; exact ⟨[], rfl, trivial, rfl⟩)) rfl
 intro θ R hd
 obtain ⟨h1d, _⟩ := hd
 exact Opp.plain (OG.imp (OG.call [.agg #[.int .i64 (cr), vcd]] ent14 rfl rfl rfl rfl (by exact (toCartan_s scd (Ent.drop 8 ecd.app) (by omega)))) (by rintro _ _ ⟨v18, rfl, hs19, rfl⟩; exact ⟨[v18], rfl, hs19, rfl⟩)) rfl
 intro θ R hd
 obtain ⟨h0d, h2d, _⟩ := hd
 exact Opp.plain (OG.imp (OG.call [.agg #[.int .i64 (cr), v11], .agg #[.int .i64 (cr), ((θ 2).getD 0 undef)]] ent17 rfl rfl rfl rfl (by exact (eqCartan_same hs12 (Ent.ints (i := 4) rfl) h2d (Ent.ints (i := 0) rfl) (by omega)))) (by rintro _ _ ⟨rfl, rfl⟩; exact ⟨[], rfl, trivial, rfl⟩)) rfl
 intro θ R hd
 obtain ⟨h3d, _⟩ := hd
 exact Opp.plain (OG.imp (OD.not rfl rfl) (by rintro _ _ ⟨rfl, rfl⟩; exact ⟨[], rfl, trivial, rfl⟩)) rfl
 intro θ hall
 obtain ⟨_, _, h2a, _, _, _⟩ := hall
 refine G.at [] 0 (env' := [(1, vx), (2, vy), (10, v14), (11, v16), (48, .bool false)]) ⟨rfl, rfl, rfl, rfl, rfl, trivial⟩ (own' := ints 3 ((θ 2).getD 0 undef) cd :: ints 3 v16 y :: ints 3 v14 x :: box g13 27 [.int .i64 (cr), v11] :: ints 3 v11 cd :: ints 3 v9 y :: ints 3 v7 x :: ints 3 v5 cd :: box g1 24 [.int .i64 (cr), vcd] :: own) rfl ?_
 have hs20 : IsS ((θ 2).getD 0 undef) := h2a
 clear h2a
 generalize ((θ 2).getD 0 undef) = v21 at *
 show G _ _ _ [] _ _ _ _
 refine G.nil (GE.then_ (GC.condF rfl (GC.skip (GE.then_ (GC.seq (GC.seq (GC.region ?_)))))))
 refine G.stepD (OD.move rfl rfl) rfl rfl rfl ?_
 refine G.stepD (OD.move rfl rfl) rfl rfl rfl ?_
 refine G.step (OG.call [vx] ent15 rfl rfl rfl rfl (by exact (toIntS_s sx (Ent.drop 9 ex) (by omega)))) rfl rfl rfl ?_
 rintro v22 _ ⟨_, rfl, hs23, rfl⟩
 refine G.step (OG.call [v14, v22] ent18 rfl rfl rfl rfl (by exact (eqIntS_same hs15 (Ent.ints (i := 3) rfl) hs23 (Ent.ints (i := 0) rfl) (by omega)))) rfl rfl rfl ?_
 rintro _ _ ⟨rfl, rfl⟩
 refine G.stepD (OD.not rfl rfl) rfl rfl rfl ?_
 refine G.nil (GE.then_ (GC.condF rfl (GC.skip (GE.then_ (GC.seq (GC.seq (GC.region ?_)))))))
 refine G.stepD (OD.move rfl rfl) rfl rfl rfl ?_
 refine G.stepD (OD.move rfl rfl) rfl rfl rfl ?_
 refine G.step (OG.call [vy] ent15 rfl rfl rfl rfl (by exact (toIntS_s sy (Ent.drop 10 ey) (by omega)))) rfl rfl rfl ?_
 rintro v24 _ ⟨_, rfl, hs25, rfl⟩
 refine G.step (OG.call [v16, v24] ent18 rfl rfl rfl rfl (by exact (eqIntS_same hs17 (Ent.ints (i := 3) rfl) hs25 (Ent.ints (i := 0) rfl) (by omega)))) rfl rfl rfl ?_
 rintro _ _ ⟨rfl, rfl⟩
 refine G.stepD (OD.not rfl rfl) rfl rfl rfl ?_
 refine G.nil (GE.then_ (GC.condF rfl (GC.skip (GE.then_ (GC.seq (GC.region ?_))))))
 refine G.stepD (OD.assign rfl rfl) rfl rfl rfl ?_
 refine G.nil (GE.then_ (GC.ret ?_))
 exact GE.body [] 11 (res1 rfl rfl) rfl (⟨rfl, rfl⟩)

set_option maxHeartbeats 4000000 in
set_option maxRecDepth 100000 in
theorem lawNormalWord {W : World} {own : List Asn} {cr : Int} {vcd : Value} {cd : List Int} {vx : Value} {x : List Int}  (scd : IsS vcd) (ecd : Ent own fun w => Ints w vcd cd)   (sx : IsS vx) (ex : Ent own fun w => Ints w vx x)  (hcd : cd.length ≤ 9223372036854775807) (hx : x.length ≤ 9223372036854775807) (hg : Ent own fun w => ∃ m, w.cell? ⟨Tryd.l146_ren.g 1, 0, none⟩ = some (.int .i64 m)) : Spec Tryd.prog 7 [.agg #[.int .i64 (cr), vcd], vx] W own (fun v ow => v = .bool (true) ∧ ow = own) := by
 have hrl := nwOf_len cr cd x
 refine Spec.enter Tryd.f7 _ Tryd.func7 rfl (n := 90) rfl rfl ?_
 refine GC.seq (GC.region ?_)
 refine G.step (OG.box (cs := [.int .i64 (cr), vcd]) rfl rfl rfl) rfl rfl rfl ?_
 rintro _ _ ⟨g1, rfl, rfl⟩
 refine G.stepD (OD.assign rfl rfl) rfl rfl rfl ?_
 refine G.nil (GE.then_ (GC.seq (GC.seq (GC.region ?_))))
 refine G.stepD (OD.move rfl rfl) rfl rfl rfl ?_
 refine G.stepD (OD.len rfl rfl et22 rfl (Ent.drop 1 ex)) rfl rfl rfl ?_
 refine G.stepD (OD.gtr rfl rfl rfl) rfl rfl rfl ?_
 refine G.nil (GE.then_ ?_)
 refine GC.cond rfl (fun hc2 => ?_) (fun hc2 => ?_)
 replace hc2 := of_decide_eq_true hc2
 refine GC.seq (GC.region ?_)
 refine G.stepD (OD.assign rfl rfl) rfl rfl rfl ?_
 refine G.nil (GE.then_ (GC.ret (GE.passR ?_)))
 exact GE.body [] 1 (res1 rfl rfl) rfl (⟨rfl, rfl⟩)
 replace hc2 := of_decide_eq_false hc2
 refine GC.skip (GE.then_ (GC.seq (GC.region ?_)))
 refine G.stepD (OD.assign rfl rfl) rfl rfl rfl ?_
 refine G.nil (GE.then_ (GC.seq (GC.region ?_)))
 refine G.stepD (OD.loadAgg rfl ti24 rfl (i := 0) rfl (us := [.int .i64 (cr), vcd]) rfl rfl) rfl rfl rfl ?_
 refine G.stepD (OD.move rfl rfl) rfl rfl rfl ?_
 refine G.step (OG.call [.agg #[.int .i64 (cr), vcd], .int .i64 (1048576)] ent12 rfl rfl rfl rfl (by exact (szCartan_s scd (Ent.drop 1 ecd) (by omega) (by omega)))) rfl rfl rfl ?_
 rintro _ _ ⟨rfl, rfl⟩
 refine G.stepD (OD.assign rfl rfl) rfl rfl rfl ?_
 refine G.nil (GE.then_ (GC.seq (GC.seq (GC.region ?_))))
 refine G.stepD (OD.move rfl rfl) rfl rfl rfl ?_
 refine G.stepD (OD.lss rfl rfl rfl) rfl rfl rfl ?_
 refine G.nil (GE.then_ ?_)
 refine GC.cond rfl (fun hc3 => ?_) (fun hc3 => ?_)
 replace hc3 := of_decide_eq_true hc3
 refine GC.seq (GC.region ?_)
 refine G.stepD (OD.assign rfl rfl) rfl rfl rfl ?_
 refine G.nil (GE.then_ (GC.ret (GE.passR ?_)))
 exact GE.body [] 1 (res1 rfl rfl) rfl (⟨rfl, rfl⟩)
 replace hc3 := of_decide_eq_false hc3
 have hc3z := szG_ok hc3
 refine GC.skip (GE.then_ (GC.seq (GC.region ?_)))
 refine G.stepD (OD.loadAgg rfl ti24 rfl (i := 0) rfl (us := [.int .i64 (cr), vcd]) rfl rfl) rfl rfl rfl ?_
 refine G.step (OG.call [.agg #[.int .i64 (cr), vcd]] ent14 rfl rfl rfl rfl (by exact (toCartan_s scd (Ent.drop 1 ecd) (by omega)))) rfl rfl rfl ?_
 rintro _ _ ⟨v4, rfl, hs5, rfl⟩
 refine G.stepD (OD.move rfl rfl) rfl rfl rfl ?_
 refine G.step (OG.call [vx] ent15 rfl rfl rfl rfl (by exact (toIntS_s sx (Ent.drop 2 ex) (by omega)))) rfl rfl rfl ?_
 rintro v6 _ ⟨_, rfl, hs7, rfl⟩
 refine G.step (OG.call [.agg #[.int .i64 (cr), v4], v6] ent31 rfl rfl rfl rfl (by exact (specNormalWord_w hs5 (Ent.ints (i := 1) rfl) hs7 (Ent.ints (i := 0) rfl) (by omega) (by omega)))) rfl rfl rfl ?_
 rintro v8 _ ⟨_, rfl, hs9, rfl⟩
 refine G.stepD (OD.assign rfl rfl) rfl rfl rfl ?_
 refine G.nil (GE.then_ (GC.seq (GC.region ?_)))
 refine G.stepD (OD.loadAgg rfl ti24 rfl (i := 3) rfl (us := [.int .i64 (cr), vcd]) rfl rfl) rfl rfl rfl ?_
 refine G.step (OG.call [.agg #[.int .i64 (cr), vcd]] ent14 rfl rfl rfl rfl (by exact (toCartan_s scd (Ent.drop 4 ecd) (by omega)))) rfl rfl rfl ?_
 rintro _ _ ⟨v10, rfl, hs11, rfl⟩
 refine G.step (OG.alloc rfl ti27 (zs := [.int .i64 (0), .slice none 0 0]) rfl) rfl rfl rfl ?_
 rintro _ _ ⟨g12, rfl, rfl⟩
 refine G.stepD0 (OD.store rfl ti27 rfl rfl (us := [.int .i64 (cr), v10]) rfl rfl (allC rfl (allC (IsS.one hs11) rfl)) (i := 0) rfl rfl) rfl rfl ?_
 refine G.nil (GE.then_ (GC.seq (GC.region ?_)))
 refine G.stepD (OD.move rfl rfl) rfl rfl rfl ?_
 refine G.step (OG.call [vx] ent15 rfl rfl rfl rfl (by exact (toIntS_s sx (Ent.drop 6 ex) (by omega)))) rfl rfl rfl ?_
 rintro v13 _ ⟨_, rfl, hs14, rfl⟩
 refine G.stepD (OD.assign rfl rfl) rfl rfl rfl ?_
 refine G.nil (GE.then_ (GC.seq (GC.region ?_)))
 refine G.stepD (OD.loadAgg rfl ti27 rfl (i := 1) rfl (us := [.int .i64 (cr), v10]) rfl rfl) rfl rfl rfl ?_
 refine G.stepD (OD.move rfl rfl) rfl rfl rfl ?_
 refine G.step (OG.call [.agg #[.int .i64 (cr), v10], v13] ent32 rfl rfl rfl rfl (by exact (normalWord_w hs11 (Ent.ints (i := 2) rfl) hs14 (Ent.ints (i := 0) rfl) (by omega) (by omega) ((Ent.drop 7 hg))))) rfl rfl rfl ?_
 rintro v15 _ ⟨_, rfl, hs16, rfl⟩
 refine G.stepD (OD.assign rfl rfl) rfl rfl rfl ?_
 refine G.nil (GE.then_ (GC.seq (GC.seq (GC.region ?_))))
 refine G.stepD (OD.move rfl rfl) rfl rfl rfl ?_
 refine G.stepD (OD.move rfl rfl) rfl rfl rfl ?_
 refine G.step (OG.call [v15, v8] ent18 rfl rfl rfl rfl (by exact (eqIntS_same hs16 (Ent.ints (i := 0) rfl) hs9 (Ent.ints (i := 4) rfl) (by omega)))) rfl rfl rfl ?_
 rintro _ _ ⟨rfl, rfl⟩
 refine G.stepD (OD.not rfl rfl) rfl rfl rfl ?_
 refine G.nil (GE.then_ (GC.condF rfl (GC.skip (GE.then_ (GC.seq (GC.seq ?_))))))
 refine GC.at [] 0 (env' := [(1, vx), (2, .pointer (some ⟨g1, 0, none⟩)), (6, v8), (7, .pointer (some ⟨g12, 0, none⟩)), (8, v13), (9, v15)]) ⟨rfl, rfl, rfl, rfl, rfl, rfl, trivial⟩ rfl ?_
 refine GC.par (its := [⟨38, [], [], [], [], fun _ => .agg #[.int .i64 (cr), v10], fun _ => True, fun _ => []⟩,
     ⟨39, [], [], [], [], fun _ => .agg #[.int .i64 (cr), vcd], fun _ => True, fun _ => []⟩,
     ⟨40, [(1, 39)], [], [], [2], fun ds => .agg #[.int .i64 (cr), ((ds.getD 0 []).getD 0 undef)], fun ds => IsS ((ds.getD 0 []).getD 0 undef), fun ds => [ints 3 ((ds.getD 0 []).getD 0 undef) cd]⟩,
     ⟨41, [(0, 38), (2, 40)], [2], [], [2], fun _ => .bool true, fun _ => True, fun _ => []⟩,
     ⟨42, [(3, 41)], [2], [], [2], fun _ => .bool false, fun _ => True, fun _ => []⟩]) (by kernel_rfl) (by kernel_rfl) (POps.cons ?_ (POps.cons ?_ (POps.cons ?_ (POps.cons ?_ (POps.cons ?_ POps.nil))))) ?_
 intro θ R hd
 exact Opp.plain (OG.imp (OD.loadAgg rfl ti27 rfl (i := 2) rfl (us := [.int .i64 (cr), v10]) rfl rfl) (by rintro _ _ ⟨rfl, rfl⟩; exact ⟨[], rfl, trivial, rfl⟩)) rfl
 intro θ R hd
 exact Opp.plain (OG.imp (OD.loadAgg rfl ti24 rfl (i := 7) rfl (us := [.int .i64 (cr), vcd]) rfl rfl) (by rintro _ _ ⟨rfl, rfl⟩; exact ⟨[], rfl, trivial, rfl⟩)) rfl
 intro θ R hd
 obtain ⟨h1d, _⟩ := hd
 exact Opp.plain (OG.imp (OG.call [.agg #[.int .i64 (cr), vcd]] ent14 rfl rfl rfl rfl (by exact (toCartan_s scd (Ent.drop 8 ecd.app) (by omega)))) (by rintro _ _ ⟨v17, rfl, hs18, rfl⟩; exact ⟨[v17], rfl, hs18, rfl⟩)) rfl
 intro θ R hd
 obtain ⟨h0d, h2d, _⟩ := hd
 exact Opp.plain (OG.imp (OG.call [.agg #[.int .i64 (cr), v10], .agg #[.int .i64 (cr), ((θ 2).getD 0 undef)]] ent17 rfl rfl rfl rfl (by exact (eqCartan_same hs11 (Ent.ints (i := 4) rfl) h2d (Ent.ints (i := 0) rfl) (by omega)))) (by rintro _ _ ⟨rfl, rfl⟩; exact ⟨[], rfl, trivial, rfl⟩)) rfl
 intro θ R hd
 obtain ⟨h3d, _⟩ := hd
 exact Opp.plain (OG.imp (OD.not rfl rfl) (by rintro _ _ ⟨rfl, rfl⟩; exact ⟨[], rfl, trivial, rfl⟩)) rfl
 intro θ hall
 obtain ⟨_, _, h2a, _, _, _⟩ := hall
 refine G.at [] 0 (env' := [(1, vx), (2, .pointer (some ⟨g1, 0, none⟩)), (6, v8), (7, .pointer (some ⟨g12, 0, none⟩)), (8, v13), (9, v15), (42, .bool false)]) ⟨rfl, rfl, rfl, rfl, rfl, rfl, rfl, trivial⟩ (own' := ints 3 ((θ 2).getD 0 undef) cd :: ints 3 v15 (nwOf cr cd x) :: ints 3 v13 x :: box g12 27 [.int .i64 (cr), v10] :: ints 3 v10 cd :: ints 3 v8 (nwOf cr cd x) :: ints 3 v6 x :: ints 3 v4 cd :: box g1 24 [.int .i64 (cr), vcd] :: own) rfl ?_
 have hs19 : IsS ((θ 2).getD 0 undef) := h2a
 clear h2a
 generalize ((θ 2).getD 0 undef) = v20 at *
 show G _ _ _ [] _ _ _ _
 refine G.nil (GE.then_ (GC.condF rfl (GC.skip (GE.then_ (GC.seq (GC.seq (GC.region ?_)))))))
 refine G.stepD (OD.move rfl rfl) rfl rfl rfl ?_
 refine G.stepD (OD.move rfl rfl) rfl rfl rfl ?_
 refine G.step (OG.call [vx] ent15 rfl rfl rfl rfl (by exact (toIntS_s sx (Ent.drop 9 ex) (by omega)))) rfl rfl rfl ?_
 rintro v21 _ ⟨_, rfl, hs22, rfl⟩
 refine G.step (OG.call [v13, v21] ent18 rfl rfl rfl rfl (by exact (eqIntS_same hs14 (Ent.ints (i := 3) rfl) hs22 (Ent.ints (i := 0) rfl) (by omega)))) rfl rfl rfl ?_
 rintro _ _ ⟨rfl, rfl⟩
 refine G.stepD (OD.not rfl rfl) rfl rfl rfl ?_
 refine G.nil (GE.then_ (GC.condF rfl (GC.skip (GE.then_ (GC.seq (GC.region ?_))))))
 refine G.stepD (OD.assign rfl rfl) rfl rfl rfl ?_
 refine G.nil (GE.then_ (GC.seq (GC.region ?_)))
 refine G.stepD (OD.loadAgg rfl ti27 rfl (i := 4) rfl (us := [.int .i64 (cr), v10]) rfl rfl) rfl rfl rfl ?_
 refine G.stepD (OD.move rfl rfl) rfl rfl rfl ?_
 refine G.at [5] 0 (env' := [(1, vx), (2, .pointer (some ⟨g1, 0, none⟩)), (6, v8), (7, .pointer (some ⟨g12, 0, none⟩)), (8, v13), (9, v15), (42, .bool false), (43, v13), (44, vx), (45, v21), (46, .bool true), (47, .bool false), (10, .int .i64 (1)), (48, .agg #[.int .i64 (cr), v10]), (49, .int .i64 (1))]) ⟨rfl, rfl, rfl, rfl, rfl, rfl, rfl, rfl, rfl, rfl, rfl, rfl, rfl, rfl, rfl, trivial⟩ (own' := ints 3 v10 cd :: ints 3 v21 x :: ints 3 v20 cd :: ints 3 v15 (nwOf cr cd x) :: ints 3 v13 x :: box g12 27 [.int .i64 (cr), v10] :: ints 3 v8 (nwOf cr cd x) :: ints 3 v6 x :: ints 3 v4 cd :: box g1 24 [.int .i64 (cr), vcd] :: own) rfl ?_
 refine G.step (OG.call [.agg #[.int .i64 (cr), v10], .int .i64 (1)] ent26 rfl rfl rfl rfl (by exact (markCartan_s hs11 (by omega) (by omega)))) rfl rfl rfl ?_
 rintro _ _ ⟨rfl, rfl⟩
 refine G.stepD (OD.assign rfl rfl) rfl rfl rfl ?_
 refine G.nil (GE.then_ (GC.seq (GC.region ?_)))
 refine G.stepD (OD.move rfl rfl) rfl rfl rfl ?_
 refine G.stepD (OD.move rfl rfl) rfl rfl rfl ?_
 refine G.at [4] 0 (env' := [(1, vx), (2, .pointer (some ⟨g1, 0, none⟩)), (6, v8), (7, .pointer (some ⟨g12, 0, none⟩)), (8, v13), (9, v15), (42, .bool false), (43, v13), (44, vx), (45, v21), (46, .bool true), (47, .bool false), (48, .agg #[.int .i64 (cr), v10]), (49, .int .i64 (1)), (50, .int .i64 (1 + (cd.length : Nat))), (10, .int .i64 (1 + (cd.length : Nat))), (51, v13), (52, .int .i64 (1 + (cd.length : Nat)))]) ⟨rfl, rfl, rfl, rfl, rfl, rfl, rfl, rfl, rfl, rfl, rfl, rfl, rfl, rfl, rfl, rfl, rfl, rfl, trivial⟩ (own' := ints 3 v13 x :: ints 3 v10 (mkd 1 cd.length) :: ints 3 v21 x :: ints 3 v20 cd :: ints 3 v15 (nwOf cr cd x) :: box g12 27 [.int .i64 (cr), v10] :: ints 3 v8 (nwOf cr cd x) :: ints 3 v6 x :: ints 3 v4 cd :: box g1 24 [.int .i64 (cr), vcd] :: own) rfl ?_
 refine G.step (OG.call [v13, .int .i64 (1 + (cd.length : Nat))] ent27 rfl rfl rfl rfl (by exact (markIntS_s hs14 (by omega) (by omega)))) rfl rfl rfl ?_
 rintro _ _ ⟨rfl, rfl⟩
 refine G.stepD (OD.assign rfl rfl) rfl rfl rfl ?_
 refine G.nil (GE.then_ (GC.seq (GC.seq (GC.region ?_))))
 refine G.stepD (OD.move rfl rfl) rfl rfl rfl ?_
 refine G.stepD (OD.eqv (OD.lss rfl rfl rfl) (congrArg Value.bool ((decide_eq_false (by omega)) : _ = false))) rfl rfl rfl ?_
 refine G.stepD (OD.move rfl rfl) rfl rfl rfl ?_
 refine G.stepGD (OD.move rfl rfl) rfl rfl rfl rfl rfl ?_
 refine G.stepGD (OD.move rfl rfl) rfl rfl rfl rfl rfl ?_
 refine G.stepG (OG.call [v15, v8] ent18 rfl rfl rfl rfl (by exact (eqIntS_same hs16 (Ent.ints (i := 4) rfl) hs9 (Ent.ints (i := 6) rfl) (by omega)))) rfl rfl rfl rfl rfl ?_
 rintro _ _ ⟨rfl, rfl⟩
 refine G.stepGD (OD.not rfl rfl) rfl rfl rfl rfl rfl ?_
 refine G.stepD (OD.pickF rfl rfl rfl) rfl rfl rfl ?_
 refine G.nil (GE.then_ (GC.condF rfl (GC.skip (GE.then_ (GC.seq (GC.region ?_))))))
 refine G.stepD (OD.assign rfl rfl) rfl rfl rfl ?_
 refine G.nil (GE.then_ (GC.seq (GC.region ?_)))
 refine G.stepD (OD.move rfl rfl) rfl rfl rfl ?_
 refine G.stepD (OD.move rfl rfl) rfl rfl rfl ?_
 refine G.at [4] 0 (env' := [(1, vx), (2, .pointer (some ⟨g1, 0, none⟩)), (6, v8), (7, .pointer (some ⟨g12, 0, none⟩)), (8, v13), (9, v15), (42, .bool false), (43, v13), (44, vx), (45, v21), (46, .bool true), (47, .bool false), (48, .agg #[.int .i64 (cr), v10]), (49, .int .i64 (1)), (50, .int .i64 (1 + (cd.length : Nat))), (51, v13), (52, .int .i64 (1 + (cd.length : Nat))), (53, .int .i64 ((1 + (cd.length : Nat)) + (x.length : Nat))), (10, .int .i64 ((1 + (cd.length : Nat)) + (x.length : Nat))), (54, .int .i64 ((1 + (cd.length : Nat)) + (x.length : Nat))), (55, .bool false), (56, .bool false), (57, v15), (58, v8), (59, .bool true), (60, .bool false), (61, .bool false), (11, .int .i64 (1)), (62, v15), (63, .int .i64 (1))]) ⟨rfl, rfl, rfl, rfl, rfl, rfl, rfl, rfl, rfl, rfl, rfl, rfl, rfl, rfl, rfl, rfl, rfl, rfl, rfl, rfl, rfl, rfl, rfl, rfl, rfl, rfl, rfl, rfl, rfl, rfl, trivial⟩ (own' := ints 3 v15 (nwOf cr cd x) :: ints 3 v13 (mkd (1 + (cd.length : Nat)) x.length) :: ints 3 v10 (mkd 1 cd.length) :: ints 3 v21 x :: ints 3 v20 cd :: box g12 27 [.int .i64 (cr), v10] :: ints 3 v8 (nwOf cr cd x) :: ints 3 v6 x :: ints 3 v4 cd :: box g1 24 [.int .i64 (cr), vcd] :: own) rfl ?_
 refine G.step (OG.call [v15, .int .i64 (1)] ent27 rfl rfl rfl rfl (by exact (markIntS_s hs16 (by omega) (by omega)))) rfl rfl rfl ?_
 rintro _ _ ⟨rfl, rfl⟩
 refine G.stepD (OD.assign rfl rfl) rfl rfl rfl ?_
 refine G.nil (GE.then_ (GC.seq (GC.region ?_)))
 refine G.stepD (OD.assign rfl rfl) rfl rfl rfl ?_
 refine G.nil (GE.then_ (GC.seq (GC.region ?_)))
 refine G.stepD (OD.move rfl rfl) rfl rfl rfl ?_
 refine G.stepD (OD.move rfl rfl) rfl rfl rfl ?_
 refine G.step (OG.call [v15, .int .i64 (1)] ent28 rfl rfl rfl rfl (by exact (heldIntS_m hs16 (Ent.ints (i := 0) rfl) (by omega) (by omega)))) rfl rfl rfl ?_
 rintro _ _ ⟨rfl, rfl⟩
 refine G.stepD (OD.assign rfl rfl) rfl rfl rfl ?_
 refine G.nil (GE.then_ (GC.seq (GC.seq (GC.region ?_))))
 refine G.stepD (OD.move rfl rfl) rfl rfl rfl ?_
 refine G.stepD (OD.eqv (OD.lss rfl rfl rfl) (congrArg Value.bool ((decide_eq_false (by omega)) : _ = false))) rfl rfl rfl ?_
 refine G.nil (GE.then_ (GC.condF rfl (GC.skip (GE.then_ (GC.seq (GC.seq (GC.region ?_)))))))
 refine G.stepD (OD.move rfl rfl) rfl rfl rfl ?_
 refine G.stepD (OD.move rfl rfl) rfl rfl rfl ?_
 refine G.stepD (OD.eqv (OD.neq rfl rfl rfl) (congrArg Value.bool ((bne_same _) : _ = false))) rfl rfl rfl ?_
 refine G.nil (GE.then_ (GC.condF rfl (GC.skip (GE.then_ (GC.seq (GC.region ?_))))))
 refine G.stepD (OD.loadAgg rfl ti24 rfl (i := 9) rfl (us := [.int .i64 (cr), vcd]) rfl rfl) rfl rfl rfl ?_
 refine G.step (OG.call [.agg #[.int .i64 (cr), vcd]] ent14 rfl rfl rfl rfl (by exact (toCartan_s scd (Ent.drop 10 ecd) (by omega)))) rfl rfl rfl ?_
 rintro _ _ ⟨v23, rfl, hs24, rfl⟩
 refine G.stepD (OD.move rfl rfl) rfl rfl rfl ?_
 refine G.step (OG.call [vx] ent15 rfl rfl rfl rfl (by exact (toIntS_s sx (Ent.drop 11 ex) (by omega)))) rfl rfl rfl ?_
 rintro v25 _ ⟨_, rfl, hs26, rfl⟩
 refine G.step (OG.call [.agg #[.int .i64 (cr), v23], v25] ent32 rfl rfl rfl rfl (by exact (normalWord_w hs24 (Ent.ints (i := 1) rfl) hs26 (Ent.ints (i := 0) rfl) (by omega) (by omega) ((Ent.drop 12 hg))))) rfl rfl rfl ?_
 rintro v27 _ ⟨_, rfl, hs28, rfl⟩
 refine G.stepD (OD.assign rfl rfl) rfl rfl rfl ?_
 refine G.nil (GE.then_ (GC.seq (GC.seq (GC.region ?_))))
 refine G.stepD (OD.move rfl rfl) rfl rfl rfl ?_
 refine G.stepD (OD.move rfl rfl) rfl rfl rfl ?_
 refine G.step (OG.call [v27, v8] ent18 rfl rfl rfl rfl (by exact (eqIntS_same hs28 (Ent.ints (i := 0) rfl) hs9 (Ent.ints (i := 9) rfl) (by omega)))) rfl rfl rfl ?_
 rintro _ _ ⟨rfl, rfl⟩
 refine G.stepD (OD.not rfl rfl) rfl rfl rfl ?_
 refine G.nil (GE.then_ (GC.condF rfl (GC.skip (GE.then_ (GC.seq (GC.region ?_))))))
 refine G.stepD (OD.assign rfl rfl) rfl rfl rfl ?_
 refine G.nil (GE.then_ (GC.seq (GC.region ?_)))
 refine G.stepD (OD.move rfl rfl) rfl rfl rfl ?_
 refine G.stepD (OD.move rfl rfl) rfl rfl rfl ?_
 refine G.step (OG.call [v15, .int .i64 (1)] ent28 rfl rfl rfl rfl (by exact (heldIntS_m hs16 (Ent.ints (i := 3) rfl) (by omega) (by omega)))) rfl rfl rfl ?_
 rintro _ _ ⟨rfl, rfl⟩
 refine G.stepD (OD.assign rfl rfl) rfl rfl rfl ?_
 refine G.nil (GE.then_ (GC.seq (GC.seq (GC.region ?_))))
 refine G.stepD (OD.move rfl rfl) rfl rfl rfl ?_
 refine G.stepD (OD.eqv (OD.lss rfl rfl rfl) (congrArg Value.bool ((decide_eq_false (by omega)) : _ = false))) rfl rfl rfl ?_
 refine G.nil (GE.then_ (GC.condF rfl (GC.skip (GE.then_ (GC.seq (GC.seq (GC.region ?_)))))))
 refine G.stepD (OD.move rfl rfl) rfl rfl rfl ?_
 refine G.stepD (OD.move rfl rfl) rfl rfl rfl ?_
 refine G.stepD (OD.eqv (OD.neq rfl rfl rfl) (congrArg Value.bool ((bne_same _) : _ = false))) rfl rfl rfl ?_
 refine G.nil (GE.then_ (GC.condF rfl (GC.skip (GE.then_ (GC.seq (GC.region ?_))))))
 refine G.stepD (OD.assign rfl rfl) rfl rfl rfl ?_
 refine G.nil (GE.then_ (GC.ret ?_))
 exact GE.body [] 13 (res1 rfl rfl) rfl (⟨rfl, rfl⟩)

set_option maxHeartbeats 4000000 in
set_option maxRecDepth 100000 in
theorem lawInverseWord {W : World} {own : List Asn} {cr : Int} {vcd : Value} {cd : List Int} {vx : Value} {x : List Int}  (scd : IsS vcd) (ecd : Ent own fun w => Ints w vcd cd)   (sx : IsS vx) (ex : Ent own fun w => Ints w vx x)  (hcd : cd.length ≤ 9223372036854775807) (hx : x.length ≤ 9223372036854775807) (hg : Ent own fun w => ∃ m, w.cell? ⟨Tryd.l146_ren.g 1, 0, none⟩ = some (.int .i64 m)) : Spec Tryd.prog 9 [.agg #[.int .i64 (cr), vcd], vx] W own (fun v ow => v = .bool (true) ∧ ow = own) := by
 have hrl := ivOf_len cr cd x
 refine Spec.enter Tryd.f9 _ Tryd.func9 rfl (n := 90) rfl rfl ?_
 refine GC.seq (GC.region ?_)
 refine G.step (OG.box (cs := [.int .i64 (cr), vcd]) rfl rfl rfl) rfl rfl rfl ?_
 rintro _ _ ⟨g1, rfl, rfl⟩
 refine G.stepD (OD.assign rfl rfl) rfl rfl rfl ?_
 refine G.nil (GE.then_ (GC.seq (GC.seq (GC.region ?_))))
 refine G.stepD (OD.move rfl rfl) rfl rfl rfl ?_
 refine G.stepD (OD.len rfl rfl et22 rfl (Ent.drop 1 ex)) rfl rfl rfl ?_
 refine G.stepD (OD.gtr rfl rfl rfl) rfl rfl rfl ?_
 refine G.nil (GE.then_ ?_)
 refine GC.cond rfl (fun hc2 => ?_) (fun hc2 => ?_)
 replace hc2 := of_decide_eq_true hc2
 refine GC.seq (GC.region ?_)
 refine G.stepD (OD.assign rfl rfl) rfl rfl rfl ?_
 refine G.nil (GE.then_ (GC.ret (GE.passR ?_)))
 exact GE.body [] 1 (res1 rfl rfl) rfl (⟨rfl, rfl⟩)
 replace hc2 := of_decide_eq_false hc2
 refine GC.skip (GE.then_ (GC.seq (GC.region ?_)))
 refine G.stepD (OD.assign rfl rfl) rfl rfl rfl ?_
 refine G.nil (GE.then_ (GC.seq (GC.region ?_)))
 refine G.stepD (OD.loadAgg rfl ti24 rfl (i := 0) rfl (us := [.int .i64 (cr), vcd]) rfl rfl) rfl rfl rfl ?_
 refine G.stepD (OD.move rfl rfl) rfl rfl rfl ?_
 refine G.step (OG.call [.agg #[.int .i64 (cr), vcd], .int .i64 (1048576)] ent12 rfl rfl rfl rfl (by exact (szCartan_s scd (Ent.drop 1 ecd) (by omega) (by omega)))) rfl rfl rfl ?_
 rintro _ _ ⟨rfl, rfl⟩
 refine G.stepD (OD.assign rfl rfl) rfl rfl rfl ?_
 refine G.nil (GE.then_ (GC.seq (GC.seq (GC.region ?_))))
 refine G.stepD (OD.move rfl rfl) rfl rfl rfl ?_
 refine G.stepD (OD.lss rfl rfl rfl) rfl rfl rfl ?_
 refine G.nil (GE.then_ ?_)
 refine GC.cond rfl (fun hc3 => ?_) (fun hc3 => ?_)
 replace hc3 := of_decide_eq_true hc3
 refine GC.seq (GC.region ?_)
 refine G.stepD (OD.assign rfl rfl) rfl rfl rfl ?_
 refine G.nil (GE.then_ (GC.ret (GE.passR ?_)))
 exact GE.body [] 1 (res1 rfl rfl) rfl (⟨rfl, rfl⟩)
 replace hc3 := of_decide_eq_false hc3
 have hc3z := szG_ok hc3
 refine GC.skip (GE.then_ (GC.seq (GC.region ?_)))
 refine G.stepD (OD.loadAgg rfl ti24 rfl (i := 0) rfl (us := [.int .i64 (cr), vcd]) rfl rfl) rfl rfl rfl ?_
 refine G.step (OG.call [.agg #[.int .i64 (cr), vcd]] ent14 rfl rfl rfl rfl (by exact (toCartan_s scd (Ent.drop 1 ecd) (by omega)))) rfl rfl rfl ?_
 rintro _ _ ⟨v4, rfl, hs5, rfl⟩
 refine G.stepD (OD.move rfl rfl) rfl rfl rfl ?_
 refine G.step (OG.call [vx] ent15 rfl rfl rfl rfl (by exact (toIntS_s sx (Ent.drop 2 ex) (by omega)))) rfl rfl rfl ?_
 rintro v6 _ ⟨_, rfl, hs7, rfl⟩
 refine G.step (OG.call [.agg #[.int .i64 (cr), v4], v6] ent35 rfl rfl rfl rfl (by exact (specInverseWord_w hs5 (Ent.ints (i := 1) rfl) hs7 (Ent.ints (i := 0) rfl) (by omega) (by omega)))) rfl rfl rfl ?_
 rintro v8 _ ⟨_, rfl, hs9, rfl⟩
 refine G.stepD (OD.assign rfl rfl) rfl rfl rfl ?_
 refine G.nil (GE.then_ (GC.seq (GC.region ?_)))
 refine G.stepD (OD.loadAgg rfl ti24 rfl (i := 3) rfl (us := [.int .i64 (cr), vcd]) rfl rfl) rfl rfl rfl ?_
 refine G.step (OG.call [.agg #[.int .i64 (cr), vcd]] ent14 rfl rfl rfl rfl (by exact (toCartan_s scd (Ent.drop 4 ecd) (by omega)))) rfl rfl rfl ?_
 rintro _ _ ⟨v10, rfl, hs11, rfl⟩
 refine G.step (OG.alloc rfl ti27 (zs := [.int .i64 (0), .slice none 0 0]) rfl) rfl rfl rfl ?_
 rintro _ _ ⟨g12, rfl, rfl⟩
 refine G.stepD0 (OD.store rfl ti27 rfl rfl (us := [.int .i64 (cr), v10]) rfl rfl (allC rfl (allC (IsS.one hs11) rfl)) (i := 0) rfl rfl) rfl rfl ?_
 refine G.nil (GE.then_ (GC.seq (GC.region ?_)))
 refine G.stepD (OD.move rfl rfl) rfl rfl rfl ?_
 refine G.step (OG.call [vx] ent15 rfl rfl rfl rfl (by exact (toIntS_s sx (Ent.drop 6 ex) (by omega)))) rfl rfl rfl ?_
 rintro v13 _ ⟨_, rfl, hs14, rfl⟩
 refine G.stepD (OD.assign rfl rfl) rfl rfl rfl ?_
 refine G.nil (GE.then_ (GC.seq (GC.region ?_)))
 refine G.stepD (OD.loadAgg rfl ti27 rfl (i := 1) rfl (us := [.int .i64 (cr), v10]) rfl rfl) rfl rfl rfl ?_
 refine G.stepD (OD.move rfl rfl) rfl rfl rfl ?_
 refine G.step (OG.call [.agg #[.int .i64 (cr), v10], v13] ent36 rfl rfl rfl rfl (by exact (inverseWord_w hs11 (Ent.ints (i := 2) rfl) hs14 (Ent.ints (i := 0) rfl) (by omega) (by omega) ((Ent.drop 7 hg))))) rfl rfl rfl ?_
 rintro v15 _ ⟨_, rfl, hs16, rfl⟩
 refine G.stepD (OD.assign rfl rfl) rfl rfl rfl ?_
 refine G.nil (GE.then_ (GC.seq (GC.seq (GC.region ?_))))
 refine G.stepD (OD.move rfl rfl) rfl rfl rfl ?_
 refine G.stepD (OD.move rfl rfl) rfl rfl rfl ?_
 refine G.step (OG.call [v15, v8] ent18 rfl rfl rfl rfl (by exact (eqIntS_same hs16 (Ent.ints (i := 0) rfl) hs9 (Ent.ints (i := 4) rfl) (by omega)))) rfl rfl rfl ?_
 rintro _ _ ⟨rfl, rfl⟩
 refine G.stepD (OD.not rfl rfl) rfl rfl rfl ?_
 refine G.nil (GE.then_ (GC.condF rfl (GC.skip (GE.then_ (GC.seq (GC.seq ?_))))))
 refine GC.at [] 0 (env' := [(1, vx), (2, .pointer (some ⟨g1, 0, none⟩)), (6, v8), (7, .pointer (some ⟨g12, 0, none⟩)), (8, v13), (9, v15)]) ⟨rfl, rfl, rfl, rfl, rfl, rfl, trivial⟩ rfl ?_
 refine GC.par (its := [⟨38, [], [], [], [], fun _ => .agg #[.int .i64 (cr), v10], fun _ => True, fun _ => []⟩,
     ⟨39, [], [], [], [], fun _ => .agg #[.int .i64 (cr), vcd], fun _ => True, fun _ => []⟩,
     ⟨40, [(1, 39)], [], [], [2], fun ds => .agg #[.int .i64 (cr), ((ds.getD 0 []).getD 0 undef)], fun ds => IsS ((ds.getD 0 []).getD 0 undef), fun ds => [ints 3 ((ds.getD 0 []).getD 0 undef) cd]⟩,
     ⟨41, [(0, 38), (2, 40)], [2], [], [2], fun _ => .bool true, fun _ => True, fun _ => []⟩,
     ⟨42, [(3, 41)], [2], [], [2], fun _ => .bool false, fun _ => True, fun _ => []⟩]) (by kernel_rfl) (by kernel_rfl) (POps.cons ?_ (POps.cons ?_ (POps.cons ?_ (POps.cons ?_ (POps.cons ?_ POps.nil))))) ?_
 intro θ R hd
 exact Opp.plain (OG.imp (OD.loadAgg rfl ti27 rfl (i := 2) rfl (us := [.int .i64 (cr), v10]) rfl rfl) (by rintro _ _ ⟨rfl, rfl⟩; exact ⟨[], rfl, trivial, rfl⟩)) rfl
 intro θ R hd
 exact Opp.plain (OG.imp (OD.loadAgg rfl ti24 rfl (i := 7) rfl (us := [.int .i64 (cr), vcd]) rfl rfl) (by rintro _ _ ⟨rfl, rfl⟩; exact ⟨[], rfl, trivial, rfl⟩)) rfl
 intro θ R hd
 obtain ⟨h1d, _⟩ := hd
 exact Opp.plain (OG.imp (OG.call [.agg #[.int .i64 (cr), vcd]] ent14 rfl rfl rfl rfl (by exact (toCartan_s scd (Ent.drop 8 ecd.app) (by omega)))) (by rintro _ _ ⟨v17, rfl, hs18, rfl⟩; exact ⟨[v17], rfl, hs18, rfl⟩)) rfl
 intro θ R hd
 obtain ⟨h0d, h2d, _⟩ := hd
 exact Opp.plain (OG.imp (OG.call [.agg #[.int .i64 (cr), v10], .agg #[.int .i64 (cr), ((θ 2).getD 0 undef)]] ent17 rfl rfl rfl rfl (by exact (eqCartan_same hs11 (Ent.ints (i := 4) rfl) h2d (Ent.ints (i := 0) rfl) (by omega)))) (by rintro _ _ ⟨rfl, rfl⟩; exact ⟨[], rfl, trivial, rfl⟩)) rfl
 intro θ R hd
 obtain ⟨h3d, _⟩ := hd
 exact Opp.plain (OG.imp (OD.not rfl rfl) (by rintro _ _ ⟨rfl, rfl⟩; exact ⟨[], rfl, trivial, rfl⟩)) rfl
 intro θ hall
 obtain ⟨_, _, h2a, _, _, _⟩ := hall
 refine G.at [] 0 (env' := [(1, vx), (2, .pointer (some ⟨g1, 0, none⟩)), (6, v8), (7, .pointer (some ⟨g12, 0, none⟩)), (8, v13), (9, v15), (42, .bool false)]) ⟨rfl, rfl, rfl, rfl, rfl, rfl, rfl, trivial⟩ (own' := ints 3 ((θ 2).getD 0 undef) cd :: ints 3 v15 (ivOf cr cd x) :: ints 3 v13 x :: box g12 27 [.int .i64 (cr), v10] :: ints 3 v10 cd :: ints 3 v8 (ivOf cr cd x) :: ints 3 v6 x :: ints 3 v4 cd :: box g1 24 [.int .i64 (cr), vcd] :: own) rfl ?_
 have hs19 : IsS ((θ 2).getD 0 undef) := h2a
 clear h2a
 generalize ((θ 2).getD 0 undef) = v20 at *
 show G _ _ _ [] _ _ _ _
 refine G.nil (GE.then_ (GC.condF rfl (GC.skip (GE.then_ (GC.seq (GC.seq (GC.region ?_)))))))
 refine G.stepD (OD.move rfl rfl) rfl rfl rfl ?_
 refine G.stepD (OD.move rfl rfl) rfl rfl rfl ?_
 refine G.step (OG.call [vx] ent15 rfl rfl rfl rfl (by exact (toIntS_s sx (Ent.drop 9 ex) (by omega)))) rfl rfl rfl ?_
 rintro v21 _ ⟨_, rfl, hs22, rfl⟩
 refine G.step (OG.call [v13, v21] ent18 rfl rfl rfl rfl (by exact (eqIntS_same hs14 (Ent.ints (i := 3) rfl) hs22 (Ent.ints (i := 0) rfl) (by omega)))) rfl rfl rfl ?_
 rintro _ _ ⟨rfl, rfl⟩
 refine G.stepD (OD.not rfl rfl) rfl rfl rfl ?_
 refine G.nil (GE.then_ (GC.condF rfl (GC.skip (GE.then_ (GC.seq (GC.region ?_))))))
 refine G.stepD (OD.assign rfl rfl) rfl rfl rfl ?_
 refine G.nil (GE.then_ (GC.seq (GC.region ?_)))
 refine G.stepD (OD.loadAgg rfl ti27 rfl (i := 4) rfl (us := [.int .i64 (cr), v10]) rfl rfl) rfl rfl rfl ?_
 refine G.stepD (OD.move rfl rfl) rfl rfl rfl ?_
 refine G.at [5] 0 (env' := [(1, vx), (2, .pointer (some ⟨g1, 0, none⟩)), (6, v8), (7, .pointer (some ⟨g12, 0, none⟩)), (8, v13), (9, v15), (42, .bool false), (43, v13), (44, vx), (45, v21), (46, .bool true), (47, .bool false), (10, .int .i64 (1)), (48, .agg #[.int .i64 (cr), v10]), (49, .int .i64 (1))]) ⟨rfl, rfl, rfl, rfl, rfl, rfl, rfl, rfl, rfl, rfl, rfl, rfl, rfl, rfl, rfl, trivial⟩ (own' := ints 3 v10 cd :: ints 3 v21 x :: ints 3 v20 cd :: ints 3 v15 (ivOf cr cd x) :: ints 3 v13 x :: box g12 27 [.int .i64 (cr), v10] :: ints 3 v8 (ivOf cr cd x) :: ints 3 v6 x :: ints 3 v4 cd :: box g1 24 [.int .i64 (cr), vcd] :: own) rfl ?_
 refine G.step (OG.call [.agg #[.int .i64 (cr), v10], .int .i64 (1)] ent26 rfl rfl rfl rfl (by exact (markCartan_s hs11 (by omega) (by omega)))) rfl rfl rfl ?_
 rintro _ _ ⟨rfl, rfl⟩
 refine G.stepD (OD.assign rfl rfl) rfl rfl rfl ?_
 refine G.nil (GE.then_ (GC.seq (GC.region ?_)))
 refine G.stepD (OD.move rfl rfl) rfl rfl rfl ?_
 refine G.stepD (OD.move rfl rfl) rfl rfl rfl ?_
 refine G.at [4] 0 (env' := [(1, vx), (2, .pointer (some ⟨g1, 0, none⟩)), (6, v8), (7, .pointer (some ⟨g12, 0, none⟩)), (8, v13), (9, v15), (42, .bool false), (43, v13), (44, vx), (45, v21), (46, .bool true), (47, .bool false), (48, .agg #[.int .i64 (cr), v10]), (49, .int .i64 (1)), (50, .int .i64 (1 + (cd.length : Nat))), (10, .int .i64 (1 + (cd.length : Nat))), (51, v13), (52, .int .i64 (1 + (cd.length : Nat)))]) ⟨rfl, rfl, rfl, rfl, rfl, rfl, rfl, rfl, rfl, rfl, rfl, rfl, rfl, rfl, rfl, rfl, rfl, rfl, trivial⟩ (own' := ints 3 v13 x :: ints 3 v10 (mkd 1 cd.length) :: ints 3 v21 x :: ints 3 v20 cd :: ints 3 v15 (ivOf cr cd x) :: box g12 27 [.int .i64 (cr), v10] :: ints 3 v8 (ivOf cr cd x) :: ints 3 v6 x :: ints 3 v4 cd :: box g1 24 [.int .i64 (cr), vcd] :: own) rfl ?_
 refine G.step (OG.call [v13, .int .i64 (1 + (cd.length : Nat))] ent27 rfl rfl rfl rfl (by exact (markIntS_s hs14 (by omega) (by omega)))) rfl rfl rfl ?_
 rintro _ _ ⟨rfl, rfl⟩
 refine G.stepD (OD.assign rfl rfl) rfl rfl rfl ?_
 refine G.nil (GE.then_ (GC.seq (GC.seq (GC.region ?_))))
 refine G.stepD (OD.move rfl rfl) rfl rfl rfl ?_
 refine G.stepD (OD.eqv (OD.lss rfl rfl rfl) (congrArg Value.bool ((decide_eq_false (by omega)) : _ = false))) rfl rfl rfl ?_
 refine G.stepD (OD.move rfl rfl) rfl rfl rfl ?_
 refine G.stepGD (OD.move rfl rfl) rfl rfl rfl rfl rfl ?_
 refine G.stepGD (OD.move rfl rfl) rfl rfl rfl rfl rfl ?_
 refine G.stepG (OG.call [v15, v8] ent18 rfl rfl rfl rfl (by exact (eqIntS_same hs16 (Ent.ints (i := 4) rfl) hs9 (Ent.ints (i := 6) rfl) (by omega)))) rfl rfl rfl rfl rfl ?_
 rintro _ _ ⟨rfl, rfl⟩
 refine G.stepGD (OD.not rfl rfl) rfl rfl rfl rfl rfl ?_
 refine G.stepD (OD.pickF rfl rfl rfl) rfl rfl rfl ?_
 refine G.nil (GE.then_ (GC.condF rfl (GC.skip (GE.then_ (GC.seq (GC.region ?_))))))
 refine G.stepD (OD.assign rfl rfl) rfl rfl rfl ?_
 refine G.nil (GE.then_ (GC.seq (GC.region ?_)))
 refine G.stepD (OD.move rfl rfl) rfl rfl rfl ?_
 refine G.stepD (OD.move rfl rfl) rfl rfl rfl ?_
 refine G.at [4] 0 (env' := [(1, vx), (2, .pointer (some ⟨g1, 0, none⟩)), (6, v8), (7, .pointer (some ⟨g12, 0, none⟩)), (8, v13), (9, v15), (42, .bool false), (43, v13), (44, vx), (45, v21), (46, .bool true), (47, .bool false), (48, .agg #[.int .i64 (cr), v10]), (49, .int .i64 (1)), (50, .int .i64 (1 + (cd.length : Nat))), (51, v13), (52, .int .i64 (1 + (cd.length : Nat))), (53, .int .i64 ((1 + (cd.length : Nat)) + (x.length : Nat))), (10, .int .i64 ((1 + (cd.length : Nat)) + (x.length : Nat))), (54, .int .i64 ((1 + (cd.length : Nat)) + (x.length : Nat))), (55, .bool false), (56, .bool false), (57, v15), (58, v8), (59, .bool true), (60, .bool false), (61, .bool false), (11, .int .i64 (1)), (62, v15), (63, .int .i64 (1))]) ⟨rfl, rfl, rfl, rfl, rfl, rfl, rfl, rfl, rfl, rfl, rfl, rfl, rfl, rfl, rfl, rfl, rfl, rfl, rfl, rfl, rfl, rfl, rfl, rfl, rfl, rfl, rfl, rfl, rfl, rfl, trivial⟩ (own' := ints 3 v15 (ivOf cr cd x) :: ints 3 v13 (mkd (1 + (cd.length : Nat)) x.length) :: ints 3 v10 (mkd 1 cd.length) :: ints 3 v21 x :: ints 3 v20 cd :: box g12 27 [.int .i64 (cr), v10] :: ints 3 v8 (ivOf cr cd x) :: ints 3 v6 x :: ints 3 v4 cd :: box g1 24 [.int .i64 (cr), vcd] :: own) rfl ?_
 refine G.step (OG.call [v15, .int .i64 (1)] ent27 rfl rfl rfl rfl (by exact (markIntS_s hs16 (by omega) (by omega)))) rfl rfl rfl ?_
 rintro _ _ ⟨rfl, rfl⟩
 refine G.stepD (OD.assign rfl rfl) rfl rfl rfl ?_
 refine G.nil (GE.then_ (GC.seq (GC.region ?_)))
 refine G.stepD (OD.assign rfl rfl) rfl rfl rfl ?_
 refine G.nil (GE.then_ (GC.seq (GC.region ?_)))
 refine G.stepD (OD.move rfl rfl) rfl rfl rfl ?_
 refine G.stepD (OD.move rfl rfl) rfl rfl rfl ?_
 refine G.step (OG.call [v15, .int .i64 (1)] ent28 rfl rfl rfl rfl (by exact (heldIntS_m hs16 (Ent.ints (i := 0) rfl) (by omega) (by omega)))) rfl rfl rfl ?_
 rintro _ _ ⟨rfl, rfl⟩
 refine G.stepD (OD.assign rfl rfl) rfl rfl rfl ?_
 refine G.nil (GE.then_ (GC.seq (GC.seq (GC.region ?_))))
 refine G.stepD (OD.move rfl rfl) rfl rfl rfl ?_
 refine G.stepD (OD.eqv (OD.lss rfl rfl rfl) (congrArg Value.bool ((decide_eq_false (by omega)) : _ = false))) rfl rfl rfl ?_
 refine G.nil (GE.then_ (GC.condF rfl (GC.skip (GE.then_ (GC.seq (GC.seq (GC.region ?_)))))))
 refine G.stepD (OD.move rfl rfl) rfl rfl rfl ?_
 refine G.stepD (OD.move rfl rfl) rfl rfl rfl ?_
 refine G.stepD (OD.eqv (OD.neq rfl rfl rfl) (congrArg Value.bool ((bne_same _) : _ = false))) rfl rfl rfl ?_
 refine G.nil (GE.then_ (GC.condF rfl (GC.skip (GE.then_ (GC.seq (GC.region ?_))))))
 refine G.stepD (OD.loadAgg rfl ti24 rfl (i := 9) rfl (us := [.int .i64 (cr), vcd]) rfl rfl) rfl rfl rfl ?_
 refine G.step (OG.call [.agg #[.int .i64 (cr), vcd]] ent14 rfl rfl rfl rfl (by exact (toCartan_s scd (Ent.drop 10 ecd) (by omega)))) rfl rfl rfl ?_
 rintro _ _ ⟨v23, rfl, hs24, rfl⟩
 refine G.stepD (OD.move rfl rfl) rfl rfl rfl ?_
 refine G.step (OG.call [vx] ent15 rfl rfl rfl rfl (by exact (toIntS_s sx (Ent.drop 11 ex) (by omega)))) rfl rfl rfl ?_
 rintro v25 _ ⟨_, rfl, hs26, rfl⟩
 refine G.step (OG.call [.agg #[.int .i64 (cr), v23], v25] ent36 rfl rfl rfl rfl (by exact (inverseWord_w hs24 (Ent.ints (i := 1) rfl) hs26 (Ent.ints (i := 0) rfl) (by omega) (by omega) ((Ent.drop 12 hg))))) rfl rfl rfl ?_
 rintro v27 _ ⟨_, rfl, hs28, rfl⟩
 refine G.stepD (OD.assign rfl rfl) rfl rfl rfl ?_
 refine G.nil (GE.then_ (GC.seq (GC.seq (GC.region ?_))))
 refine G.stepD (OD.move rfl rfl) rfl rfl rfl ?_
 refine G.stepD (OD.move rfl rfl) rfl rfl rfl ?_
 refine G.step (OG.call [v27, v8] ent18 rfl rfl rfl rfl (by exact (eqIntS_same hs28 (Ent.ints (i := 0) rfl) hs9 (Ent.ints (i := 9) rfl) (by omega)))) rfl rfl rfl ?_
 rintro _ _ ⟨rfl, rfl⟩
 refine G.stepD (OD.not rfl rfl) rfl rfl rfl ?_
 refine G.nil (GE.then_ (GC.condF rfl (GC.skip (GE.then_ (GC.seq (GC.region ?_))))))
 refine G.stepD (OD.assign rfl rfl) rfl rfl rfl ?_
 refine G.nil (GE.then_ (GC.seq (GC.region ?_)))
 refine G.stepD (OD.move rfl rfl) rfl rfl rfl ?_
 refine G.stepD (OD.move rfl rfl) rfl rfl rfl ?_
 refine G.step (OG.call [v15, .int .i64 (1)] ent28 rfl rfl rfl rfl (by exact (heldIntS_m hs16 (Ent.ints (i := 3) rfl) (by omega) (by omega)))) rfl rfl rfl ?_
 rintro _ _ ⟨rfl, rfl⟩
 refine G.stepD (OD.assign rfl rfl) rfl rfl rfl ?_
 refine G.nil (GE.then_ (GC.seq (GC.seq (GC.region ?_))))
 refine G.stepD (OD.move rfl rfl) rfl rfl rfl ?_
 refine G.stepD (OD.eqv (OD.lss rfl rfl rfl) (congrArg Value.bool ((decide_eq_false (by omega)) : _ = false))) rfl rfl rfl ?_
 refine G.nil (GE.then_ (GC.condF rfl (GC.skip (GE.then_ (GC.seq (GC.seq (GC.region ?_)))))))
 refine G.stepD (OD.move rfl rfl) rfl rfl rfl ?_
 refine G.stepD (OD.move rfl rfl) rfl rfl rfl ?_
 refine G.stepD (OD.eqv (OD.neq rfl rfl rfl) (congrArg Value.bool ((bne_same _) : _ = false))) rfl rfl rfl ?_
 refine G.nil (GE.then_ (GC.condF rfl (GC.skip (GE.then_ (GC.seq (GC.region ?_))))))
 refine G.stepD (OD.assign rfl rfl) rfl rfl rfl ?_
 refine G.nil (GE.then_ (GC.ret ?_))
 exact GE.body [] 13 (res1 rfl rfl) rfl (⟨rfl, rfl⟩)

set_option maxHeartbeats 4000000 in
set_option maxRecDepth 100000 in
theorem lawLongestWord {W : World} {own : List Asn} {cr : Int} {vcd : Value} {cd : List Int}  (scd : IsS vcd) (ecd : Ent own fun w => Ints w vcd cd)  (hcd : cd.length ≤ 9223372036854775807) (hg : Ent own fun w => ∃ m, w.cell? ⟨Tryd.l146_ren.g 1, 0, none⟩ = some (.int .i64 m)) : Spec Tryd.prog 5 [.agg #[.int .i64 (cr), vcd]] W own (fun v ow => v = .bool (true) ∧ ow = own) := by
 have hrl := lwOf_len cr cd
 refine Spec.enter Tryd.f5 _ Tryd.func5 rfl (n := 69) rfl rfl ?_
 refine GC.seq (GC.region ?_)
 refine G.step (OG.box (cs := [.int .i64 (cr), vcd]) rfl rfl rfl) rfl rfl rfl ?_
 rintro _ _ ⟨g1, rfl, rfl⟩
 refine G.stepD (OD.assign rfl rfl) rfl rfl rfl ?_
 refine G.nil (GE.then_ (GC.seq (GC.region ?_)))
 refine G.stepD (OD.assign rfl rfl) rfl rfl rfl ?_
 refine G.nil (GE.then_ (GC.seq (GC.region ?_)))
 refine G.stepD (OD.loadAgg rfl ti24 rfl (i := 0) rfl (us := [.int .i64 (cr), vcd]) rfl rfl) rfl rfl rfl ?_
 refine G.stepD (OD.move rfl rfl) rfl rfl rfl ?_
 refine G.step (OG.call [.agg #[.int .i64 (cr), vcd], .int .i64 (1048576)] ent12 rfl rfl rfl rfl (by exact (szCartan_s scd (Ent.drop 1 ecd) (by omega) (by omega)))) rfl rfl rfl ?_
 rintro _ _ ⟨rfl, rfl⟩
 refine G.stepD (OD.assign rfl rfl) rfl rfl rfl ?_
 refine G.nil (GE.then_ (GC.seq (GC.seq (GC.region ?_))))
 refine G.stepD (OD.move rfl rfl) rfl rfl rfl ?_
 refine G.stepD (OD.lss rfl rfl rfl) rfl rfl rfl ?_
 refine G.nil (GE.then_ ?_)
 refine GC.cond rfl (fun hc2 => ?_) (fun hc2 => ?_)
 replace hc2 := of_decide_eq_true hc2
 refine GC.seq (GC.region ?_)
 refine G.stepD (OD.assign rfl rfl) rfl rfl rfl ?_
 refine G.nil (GE.then_ (GC.ret (GE.passR ?_)))
 exact GE.body [] 1 (res1 rfl rfl) rfl (⟨rfl, rfl⟩)
 replace hc2 := of_decide_eq_false hc2
 have hc2z := szG_ok hc2
 refine GC.skip (GE.then_ (GC.seq (GC.region ?_)))
 refine G.stepD (OD.loadAgg rfl ti24 rfl (i := 0) rfl (us := [.int .i64 (cr), vcd]) rfl rfl) rfl rfl rfl ?_
 refine G.step (OG.call [.agg #[.int .i64 (cr), vcd]] ent14 rfl rfl rfl rfl (by exact (toCartan_s scd (Ent.drop 1 ecd) (by omega)))) rfl rfl rfl ?_
 rintro _ _ ⟨v3, rfl, hs4, rfl⟩
 refine G.step (OG.call [.agg #[.int .i64 (cr), v3]] ent24 rfl rfl rfl rfl (by exact (specLongestWord_w hs4 (Ent.ints (i := 0) rfl) (by omega)))) rfl rfl rfl ?_
 rintro v5 _ ⟨_, rfl, hs6, rfl⟩
 refine G.stepD (OD.assign rfl rfl) rfl rfl rfl ?_
 refine G.nil (GE.then_ (GC.seq (GC.region ?_)))
 refine G.stepD (OD.loadAgg rfl ti24 rfl (i := 2) rfl (us := [.int .i64 (cr), vcd]) rfl rfl) rfl rfl rfl ?_
 refine G.step (OG.call [.agg #[.int .i64 (cr), vcd]] ent14 rfl rfl rfl rfl (by exact (toCartan_s scd (Ent.drop 3 ecd) (by omega)))) rfl rfl rfl ?_
 rintro _ _ ⟨v7, rfl, hs8, rfl⟩
 refine G.step (OG.alloc rfl ti27 (zs := [.int .i64 (0), .slice none 0 0]) rfl) rfl rfl rfl ?_
 rintro _ _ ⟨g9, rfl, rfl⟩
 refine G.stepD0 (OD.store rfl ti27 rfl rfl (us := [.int .i64 (cr), v7]) rfl rfl (allC rfl (allC (IsS.one hs8) rfl)) (i := 0) rfl rfl) rfl rfl ?_
 refine G.nil (GE.then_ (GC.seq (GC.region ?_)))
 refine G.stepD (OD.loadAgg rfl ti27 rfl (i := 0) rfl (us := [.int .i64 (cr), v7]) rfl rfl) rfl rfl rfl ?_
 refine G.step (OG.call [.agg #[.int .i64 (cr), v7]] ent25 rfl rfl rfl rfl (by exact (longestWord_w hs8 (Ent.ints (i := 1) rfl) (by omega) ((Ent.drop 5 hg))))) rfl rfl rfl ?_
 rintro v10 _ ⟨_, rfl, hs11, rfl⟩
 refine G.stepD (OD.assign rfl rfl) rfl rfl rfl ?_
 refine G.nil (GE.then_ (GC.seq (GC.seq (GC.region ?_))))
 refine G.stepD (OD.move rfl rfl) rfl rfl rfl ?_
 refine G.stepD (OD.move rfl rfl) rfl rfl rfl ?_
 refine G.step (OG.call [v10, v5] ent18 rfl rfl rfl rfl (by exact (eqIntS_same hs11 (Ent.ints (i := 0) rfl) hs6 (Ent.ints (i := 3) rfl) (by omega)))) rfl rfl rfl ?_
 rintro _ _ ⟨rfl, rfl⟩
 refine G.stepD (OD.not rfl rfl) rfl rfl rfl ?_
 refine G.nil (GE.then_ (GC.condF rfl (GC.skip (GE.then_ (GC.seq (GC.seq ?_))))))
 refine GC.at [] 0 (env' := [(1, .pointer (some ⟨g1, 0, none⟩)), (4, v5), (5, .pointer (some ⟨g9, 0, none⟩)), (6, v10)]) ⟨rfl, rfl, rfl, rfl, trivial⟩ rfl ?_
 refine GC.par (its := [⟨27, [], [], [], [], fun _ => .agg #[.int .i64 (cr), v7], fun _ => True, fun _ => []⟩,
     ⟨28, [], [], [], [], fun _ => .agg #[.int .i64 (cr), vcd], fun _ => True, fun _ => []⟩,
     ⟨29, [(1, 28)], [], [], [2], fun ds => .agg #[.int .i64 (cr), ((ds.getD 0 []).getD 0 undef)], fun ds => IsS ((ds.getD 0 []).getD 0 undef), fun ds => [ints 3 ((ds.getD 0 []).getD 0 undef) cd]⟩,
     ⟨30, [(0, 27), (2, 29)], [2], [], [2], fun _ => .bool true, fun _ => True, fun _ => []⟩,
     ⟨31, [(3, 30)], [2], [], [2], fun _ => .bool false, fun _ => True, fun _ => []⟩]) (by kernel_rfl) (by kernel_rfl) (POps.cons ?_ (POps.cons ?_ (POps.cons ?_ (POps.cons ?_ (POps.cons ?_ POps.nil))))) ?_
 intro θ R hd
 exact Opp.plain (OG.imp (OD.loadAgg rfl ti27 rfl (i := 1) rfl (us := [.int .i64 (cr), v7]) rfl rfl) (by rintro _ _ ⟨rfl, rfl⟩; exact ⟨[], rfl, trivial, rfl⟩)) rfl
 intro θ R hd
 exact Opp.plain (OG.imp (OD.loadAgg rfl ti24 rfl (i := 5) rfl (us := [.int .i64 (cr), vcd]) rfl rfl) (by rintro _ _ ⟨rfl, rfl⟩; exact ⟨[], rfl, trivial, rfl⟩)) rfl
 intro θ R hd
 obtain ⟨h1d, _⟩ := hd
 exact Opp.plain (OG.imp (OG.call [.agg #[.int .i64 (cr), vcd]] ent14 rfl rfl rfl rfl (by exact (toCartan_s scd (Ent.drop 6 ecd.app) (by omega)))) (by rintro _ _ ⟨v12, rfl, hs13, rfl⟩; exact ⟨[v12], rfl, hs13, rfl⟩)) rfl
 intro θ R hd
 obtain ⟨h0d, h2d, _⟩ := hd
 exact Opp.plain (OG.imp (OG.call [.agg #[.int .i64 (cr), v7], .agg #[.int .i64 (cr), ((θ 2).getD 0 undef)]] ent17 rfl rfl rfl rfl (by exact (eqCartan_same hs8 (Ent.ints (i := 3) rfl) h2d (Ent.ints (i := 0) rfl) (by omega)))) (by rintro _ _ ⟨rfl, rfl⟩; exact ⟨[], rfl, trivial, rfl⟩)) rfl
 intro θ R hd
 obtain ⟨h3d, _⟩ := hd
 exact Opp.plain (OG.imp (OD.not rfl rfl) (by rintro _ _ ⟨rfl, rfl⟩; exact ⟨[], rfl, trivial, rfl⟩)) rfl
 intro θ hall
 obtain ⟨_, _, h2a, _, _, _⟩ := hall
 refine G.at [] 0 (env' := [(1, .pointer (some ⟨g1, 0, none⟩)), (4, v5), (5, .pointer (some ⟨g9, 0, none⟩)), (6, v10), (31, .bool false)]) ⟨rfl, rfl, rfl, rfl, rfl, trivial⟩ (own' := ints 3 ((θ 2).getD 0 undef) cd :: ints 3 v10 (lwOf cr cd) :: box g9 27 [.int .i64 (cr), v7] :: ints 3 v7 cd :: ints 3 v5 (lwOf cr cd) :: ints 3 v3 cd :: box g1 24 [.int .i64 (cr), vcd] :: own) rfl ?_
 have hs14 : IsS ((θ 2).getD 0 undef) := h2a
 clear h2a
 generalize ((θ 2).getD 0 undef) = v15 at *
 show G _ _ _ [] _ _ _ _
 refine G.nil (GE.then_ (GC.condF rfl (GC.skip (GE.then_ (GC.seq (GC.region ?_))))))
 refine G.stepD (OD.assign rfl rfl) rfl rfl rfl ?_
 refine G.nil (GE.then_ (GC.seq (GC.region ?_)))
 refine G.stepD (OD.loadAgg rfl ti27 rfl (i := 2) rfl (us := [.int .i64 (cr), v7]) rfl rfl) rfl rfl rfl ?_
 refine G.stepD (OD.move rfl rfl) rfl rfl rfl ?_
 refine G.at [3] 0 (env' := [(1, .pointer (some ⟨g1, 0, none⟩)), (4, v5), (5, .pointer (some ⟨g9, 0, none⟩)), (6, v10), (31, .bool false), (7, .int .i64 (1)), (32, .agg #[.int .i64 (cr), v7]), (33, .int .i64 (1))]) ⟨rfl, rfl, rfl, rfl, rfl, rfl, rfl, rfl, trivial⟩ (own' := ints 3 v7 cd :: ints 3 v15 cd :: ints 3 v10 (lwOf cr cd) :: box g9 27 [.int .i64 (cr), v7] :: ints 3 v5 (lwOf cr cd) :: ints 3 v3 cd :: box g1 24 [.int .i64 (cr), vcd] :: own) rfl ?_
 refine G.step (OG.call [.agg #[.int .i64 (cr), v7], .int .i64 (1)] ent26 rfl rfl rfl rfl (by exact (markCartan_s hs8 (by omega) (by omega)))) rfl rfl rfl ?_
 rintro _ _ ⟨rfl, rfl⟩
 refine G.stepD (OD.assign rfl rfl) rfl rfl rfl ?_
 refine G.nil (GE.then_ (GC.seq (GC.seq (GC.region ?_))))
 refine G.stepD (OD.move rfl rfl) rfl rfl rfl ?_
 refine G.stepD (OD.eqv (OD.lss rfl rfl rfl) (congrArg Value.bool ((decide_eq_false (by omega)) : _ = false))) rfl rfl rfl ?_
 refine G.stepD (OD.move rfl rfl) rfl rfl rfl ?_
 refine G.stepGD (OD.move rfl rfl) rfl rfl rfl rfl rfl ?_
 refine G.stepGD (OD.move rfl rfl) rfl rfl rfl rfl rfl ?_
 refine G.stepG (OG.call [v10, v5] ent18 rfl rfl rfl rfl (by exact (eqIntS_same hs11 (Ent.ints (i := 2) rfl) hs6 (Ent.ints (i := 4) rfl) (by omega)))) rfl rfl rfl rfl rfl ?_
 rintro _ _ ⟨rfl, rfl⟩
 refine G.stepGD (OD.not rfl rfl) rfl rfl rfl rfl rfl ?_
 refine G.stepD (OD.pickF rfl rfl rfl) rfl rfl rfl ?_
 refine G.nil (GE.then_ (GC.condF rfl (GC.skip (GE.then_ (GC.seq (GC.region ?_))))))
 refine G.stepD (OD.assign rfl rfl) rfl rfl rfl ?_
 refine G.nil (GE.then_ (GC.seq (GC.region ?_)))
 refine G.stepD (OD.move rfl rfl) rfl rfl rfl ?_
 refine G.stepD (OD.move rfl rfl) rfl rfl rfl ?_
 refine G.at [2] 0 (env' := [(1, .pointer (some ⟨g1, 0, none⟩)), (4, v5), (5, .pointer (some ⟨g9, 0, none⟩)), (6, v10), (31, .bool false), (32, .agg #[.int .i64 (cr), v7]), (33, .int .i64 (1)), (34, .int .i64 (1 + (cd.length : Nat))), (7, .int .i64 (1 + (cd.length : Nat))), (35, .int .i64 (1 + (cd.length : Nat))), (36, .bool false), (37, .bool false), (38, v10), (39, v5), (40, .bool true), (41, .bool false), (42, .bool false), (8, .int .i64 (1)), (43, v10), (44, .int .i64 (1))]) ⟨rfl, rfl, rfl, rfl, rfl, rfl, rfl, rfl, rfl, rfl, rfl, rfl, rfl, rfl, rfl, rfl, rfl, rfl, rfl, rfl, trivial⟩ (own' := ints 3 v10 (lwOf cr cd) :: ints 3 v7 (mkd 1 cd.length) :: ints 3 v15 cd :: box g9 27 [.int .i64 (cr), v7] :: ints 3 v5 (lwOf cr cd) :: ints 3 v3 cd :: box g1 24 [.int .i64 (cr), vcd] :: own) rfl ?_
 refine G.step (OG.call [v10, .int .i64 (1)] ent27 rfl rfl rfl rfl (by exact (markIntS_s hs11 (by omega) (by omega)))) rfl rfl rfl ?_
 rintro _ _ ⟨rfl, rfl⟩
 refine G.stepD (OD.assign rfl rfl) rfl rfl rfl ?_
 refine G.nil (GE.then_ (GC.seq (GC.region ?_)))
 refine G.stepD (OD.assign rfl rfl) rfl rfl rfl ?_
 refine G.nil (GE.then_ (GC.seq (GC.region ?_)))
 refine G.stepD (OD.move rfl rfl) rfl rfl rfl ?_
 refine G.stepD (OD.move rfl rfl) rfl rfl rfl ?_
 refine G.step (OG.call [v10, .int .i64 (1)] ent28 rfl rfl rfl rfl (by exact (heldIntS_m hs11 (Ent.ints (i := 0) rfl) (by omega) (by omega)))) rfl rfl rfl ?_
 rintro _ _ ⟨rfl, rfl⟩
 refine G.stepD (OD.assign rfl rfl) rfl rfl rfl ?_
 refine G.nil (GE.then_ (GC.seq (GC.seq (GC.region ?_))))
 refine G.stepD (OD.move rfl rfl) rfl rfl rfl ?_
 refine G.stepD (OD.eqv (OD.lss rfl rfl rfl) (congrArg Value.bool ((decide_eq_false (by omega)) : _ = false))) rfl rfl rfl ?_
 refine G.nil (GE.then_ (GC.condF rfl (GC.skip (GE.then_ (GC.seq (GC.seq (GC.region ?_)))))))
 refine G.stepD (OD.move rfl rfl) rfl rfl rfl ?_
 refine G.stepD (OD.move rfl rfl) rfl rfl rfl ?_
 refine G.stepD (OD.eqv (OD.neq rfl rfl rfl) (congrArg Value.bool ((bne_same _) : _ = false))) rfl rfl rfl ?_
 refine G.nil (GE.then_ (GC.condF rfl (GC.skip (GE.then_ (GC.seq (GC.region ?_))))))
 refine G.stepD (OD.loadAgg rfl ti24 rfl (i := 6) rfl (us := [.int .i64 (cr), vcd]) rfl rfl) rfl rfl rfl ?_
 refine G.step (OG.call [.agg #[.int .i64 (cr), vcd]] ent14 rfl rfl rfl rfl (by exact (toCartan_s scd (Ent.drop 7 ecd) (by omega)))) rfl rfl rfl ?_
 rintro _ _ ⟨v16, rfl, hs17, rfl⟩
 refine G.step (OG.call [.agg #[.int .i64 (cr), v16]] ent25 rfl rfl rfl rfl (by exact (longestWord_w hs17 (Ent.ints (i := 0) rfl) (by omega) ((Ent.drop 8 hg))))) rfl rfl rfl ?_
 rintro v18 _ ⟨_, rfl, hs19, rfl⟩
 refine G.stepD (OD.assign rfl rfl) rfl rfl rfl ?_
 refine G.nil (GE.then_ (GC.seq (GC.seq (GC.region ?_))))
 refine G.stepD (OD.move rfl rfl) rfl rfl rfl ?_
 refine G.stepD (OD.move rfl rfl) rfl rfl rfl ?_
 refine G.step (OG.call [v18, v5] ent18 rfl rfl rfl rfl (by exact (eqIntS_same hs19 (Ent.ints (i := 0) rfl) hs6 (Ent.ints (i := 6) rfl) (by omega)))) rfl rfl rfl ?_
 rintro _ _ ⟨rfl, rfl⟩
 refine G.stepD (OD.not rfl rfl) rfl rfl rfl ?_
 refine G.nil (GE.then_ (GC.condF rfl (GC.skip (GE.then_ (GC.seq (GC.region ?_))))))
 refine G.stepD (OD.assign rfl rfl) rfl rfl rfl ?_
 refine G.nil (GE.then_ (GC.seq (GC.region ?_)))
 refine G.stepD (OD.move rfl rfl) rfl rfl rfl ?_
 refine G.stepD (OD.move rfl rfl) rfl rfl rfl ?_
 refine G.step (OG.call [v10, .int .i64 (1)] ent28 rfl rfl rfl rfl (by exact (heldIntS_m hs11 (Ent.ints (i := 2) rfl) (by omega) (by omega)))) rfl rfl rfl ?_
 rintro _ _ ⟨rfl, rfl⟩
 refine G.stepD (OD.assign rfl rfl) rfl rfl rfl ?_
 refine G.nil (GE.then_ (GC.seq (GC.seq (GC.region ?_))))
 refine G.stepD (OD.move rfl rfl) rfl rfl rfl ?_
 refine G.stepD (OD.eqv (OD.lss rfl rfl rfl) (congrArg Value.bool ((decide_eq_false (by omega)) : _ = false))) rfl rfl rfl ?_
 refine G.nil (GE.then_ (GC.condF rfl (GC.skip (GE.then_ (GC.seq (GC.seq (GC.region ?_)))))))
 refine G.stepD (OD.move rfl rfl) rfl rfl rfl ?_
 refine G.stepD (OD.move rfl rfl) rfl rfl rfl ?_
 refine G.stepD (OD.eqv (OD.neq rfl rfl rfl) (congrArg Value.bool ((bne_same _) : _ = false))) rfl rfl rfl ?_
 refine G.nil (GE.then_ (GC.condF rfl (GC.skip (GE.then_ (GC.seq (GC.region ?_))))))
 refine G.stepD (OD.assign rfl rfl) rfl rfl rfl ?_
 refine G.nil (GE.then_ (GC.ret ?_))
 exact GE.body [] 9 (res1 rfl rfl) rfl (⟨rfl, rfl⟩)

set_option maxHeartbeats 4000000 in
set_option maxRecDepth 100000 in
theorem lawDualWeight {W : World} {own : List Asn} {cr : Int} {vcd : Value} {cd : List Int} {vx : Value} {x : List Int}  (scd : IsS vcd) (ecd : Ent own fun w => Ints w vcd cd)   (sx : IsS vx) (ex : Ent own fun w => Ints w vx x)  (hcd : cd.length ≤ 9223372036854775807) (hx : x.length ≤ 9223372036854775807) (hg : Ent own fun w => ∃ m, w.cell? ⟨Tryd.l146_ren.g 1, 0, none⟩ = some (.int .i64 m)) : Spec Tryd.prog 8 [.agg #[.int .i64 (cr), vcd], vx] W own (fun v ow => v = .bool (true) ∧ ow = own) := by
 have hrl := dwOf_len cr cd x
 refine Spec.enter Tryd.f8 _ Tryd.func8 rfl (n := 90) rfl rfl ?_
 refine GC.seq (GC.region ?_)
 refine G.step (OG.box (cs := [.int .i64 (cr), vcd]) rfl rfl rfl) rfl rfl rfl ?_
 rintro _ _ ⟨g1, rfl, rfl⟩
 refine G.stepD (OD.assign rfl rfl) rfl rfl rfl ?_
 refine G.nil (GE.then_ (GC.seq (GC.seq (GC.region ?_))))
 refine G.stepD (OD.move rfl rfl) rfl rfl rfl ?_
 refine G.stepD (OD.len rfl rfl et22 rfl (Ent.drop 1 ex)) rfl rfl rfl ?_
 refine G.stepD (OD.gtr rfl rfl rfl) rfl rfl rfl ?_
 refine G.nil (GE.then_ ?_)
 refine GC.cond rfl (fun hc2 => ?_) (fun hc2 => ?_)
 replace hc2 := of_decide_eq_true hc2
 refine GC.seq (GC.region ?_)
 refine G.stepD (OD.assign rfl rfl) rfl rfl rfl ?_
 refine G.nil (GE.then_ (GC.ret (GE.passR ?_)))
 exact GE.body [] 1 (res1 rfl rfl) rfl (⟨rfl, rfl⟩)
 replace hc2 := of_decide_eq_false hc2
 refine GC.skip (GE.then_ (GC.seq (GC.region ?_)))
 refine G.stepD (OD.assign rfl rfl) rfl rfl rfl ?_
 refine G.nil (GE.then_ (GC.seq (GC.region ?_)))
 refine G.stepD (OD.loadAgg rfl ti24 rfl (i := 0) rfl (us := [.int .i64 (cr), vcd]) rfl rfl) rfl rfl rfl ?_
 refine G.stepD (OD.move rfl rfl) rfl rfl rfl ?_
 refine G.step (OG.call [.agg #[.int .i64 (cr), vcd], .int .i64 (1048576)] ent12 rfl rfl rfl rfl (by exact (szCartan_s scd (Ent.drop 1 ecd) (by omega) (by omega)))) rfl rfl rfl ?_
 rintro _ _ ⟨rfl, rfl⟩
 refine G.stepD (OD.assign rfl rfl) rfl rfl rfl ?_
 refine G.nil (GE.then_ (GC.seq (GC.seq (GC.region ?_))))
 refine G.stepD (OD.move rfl rfl) rfl rfl rfl ?_
 refine G.stepD (OD.lss rfl rfl rfl) rfl rfl rfl ?_
 refine G.nil (GE.then_ ?_)
 refine GC.cond rfl (fun hc3 => ?_) (fun hc3 => ?_)
 replace hc3 := of_decide_eq_true hc3
 refine GC.seq (GC.region ?_)
 refine G.stepD (OD.assign rfl rfl) rfl rfl rfl ?_
 refine G.nil (GE.then_ (GC.ret (GE.passR ?_)))
 exact GE.body [] 1 (res1 rfl rfl) rfl (⟨rfl, rfl⟩)
 replace hc3 := of_decide_eq_false hc3
 have hc3z := szG_ok hc3
 refine GC.skip (GE.then_ (GC.seq (GC.region ?_)))
 refine G.stepD (OD.loadAgg rfl ti24 rfl (i := 0) rfl (us := [.int .i64 (cr), vcd]) rfl rfl) rfl rfl rfl ?_
 refine G.step (OG.call [.agg #[.int .i64 (cr), vcd]] ent14 rfl rfl rfl rfl (by exact (toCartan_s scd (Ent.drop 1 ecd) (by omega)))) rfl rfl rfl ?_
 rintro _ _ ⟨v4, rfl, hs5, rfl⟩
 refine G.stepD (OD.move rfl rfl) rfl rfl rfl ?_
 refine G.step (OG.call [vx] ent15 rfl rfl rfl rfl (by exact (toIntS_s sx (Ent.drop 2 ex) (by omega)))) rfl rfl rfl ?_
 rintro v6 _ ⟨_, rfl, hs7, rfl⟩
 refine G.step (OG.call [.agg #[.int .i64 (cr), v4], v6] ent33 rfl rfl rfl rfl (by exact (specDualWeight_w hs5 (Ent.ints (i := 1) rfl) hs7 (Ent.ints (i := 0) rfl) (by omega) (by omega)))) rfl rfl rfl ?_
 rintro v8 _ ⟨_, rfl, hs9, rfl⟩
 refine G.stepD (OD.assign rfl rfl) rfl rfl rfl ?_
 refine G.nil (GE.then_ (GC.seq (GC.region ?_)))
 refine G.stepD (OD.loadAgg rfl ti24 rfl (i := 3) rfl (us := [.int .i64 (cr), vcd]) rfl rfl) rfl rfl rfl ?_
 refine G.step (OG.call [.agg #[.int .i64 (cr), vcd]] ent14 rfl rfl rfl rfl (by exact (toCartan_s scd (Ent.drop 4 ecd) (by omega)))) rfl rfl rfl ?_
 rintro _ _ ⟨v10, rfl, hs11, rfl⟩
 refine G.step (OG.alloc rfl ti27 (zs := [.int .i64 (0), .slice none 0 0]) rfl) rfl rfl rfl ?_
 rintro _ _ ⟨g12, rfl, rfl⟩
 refine G.stepD0 (OD.store rfl ti27 rfl rfl (us := [.int .i64 (cr), v10]) rfl rfl (allC rfl (allC (IsS.one hs11) rfl)) (i := 0) rfl rfl) rfl rfl ?_
 refine G.nil (GE.then_ (GC.seq (GC.region ?_)))
 refine G.stepD (OD.move rfl rfl) rfl rfl rfl ?_
 refine G.step (OG.call [vx] ent15 rfl rfl rfl rfl (by exact (toIntS_s sx (Ent.drop 6 ex) (by omega)))) rfl rfl rfl ?_
 rintro v13 _ ⟨_, rfl, hs14, rfl⟩
 refine G.stepD (OD.assign rfl rfl) rfl rfl rfl ?_
 refine G.nil (GE.then_ (GC.seq (GC.region ?_)))
 refine G.stepD (OD.loadAgg rfl ti27 rfl (i := 1) rfl (us := [.int .i64 (cr), v10]) rfl rfl) rfl rfl rfl ?_
 refine G.stepD (OD.move rfl rfl) rfl rfl rfl ?_
 refine G.step (OG.call [.agg #[.int .i64 (cr), v10], v13] ent34 rfl rfl rfl rfl (by exact (dualWeight_w hs11 (Ent.ints (i := 2) rfl) hs14 (Ent.ints (i := 0) rfl) (by omega) (by omega) ((Ent.drop 7 hg))))) rfl rfl rfl ?_
 rintro v15 _ ⟨_, rfl, hs16, rfl⟩
 refine G.stepD (OD.assign rfl rfl) rfl rfl rfl ?_
 refine G.nil (GE.then_ (GC.seq (GC.seq (GC.region ?_))))
 refine G.stepD (OD.move rfl rfl) rfl rfl rfl ?_
 refine G.stepD (OD.move rfl rfl) rfl rfl rfl ?_
 refine G.step (OG.call [v15, v8] ent18 rfl rfl rfl rfl (by exact (eqIntS_same hs16 (Ent.ints (i := 0) rfl) hs9 (Ent.ints (i := 4) rfl) (by omega)))) rfl rfl rfl ?_
 rintro _ _ ⟨rfl, rfl⟩
 refine G.stepD (OD.not rfl rfl) rfl rfl rfl ?_
 refine G.nil (GE.then_ (GC.condF rfl (GC.skip (GE.then_ (GC.seq (GC.seq ?_))))))
 refine GC.at [] 0 (env' := [(1, vx), (2, .pointer (some ⟨g1, 0, none⟩)), (6, v8), (7, .pointer (some ⟨g12, 0, none⟩)), (8, v13), (9, v15)]) ⟨rfl, rfl, rfl, rfl, rfl, rfl, trivial⟩ rfl ?_
 refine GC.par (its := [⟨38, [], [], [], [], fun _ => .agg #[.int .i64 (cr), v10], fun _ => True, fun _ => []⟩,
     ⟨39, [], [], [], [], fun _ => .agg #[.int .i64 (cr), vcd], fun _ => True, fun _ => []⟩,
     ⟨40, [(1, 39)], [], [], [2], fun ds => .agg #[.int .i64 (cr), ((ds.getD 0 []).getD 0 undef)], fun ds => IsS ((ds.getD 0 []).getD 0 undef), fun ds => [ints 3 ((ds.getD 0 []).getD 0 undef) cd]⟩,
     ⟨41, [(0, 38), (2, 40)], [2], [], [2], fun _ => .bool true, fun _ => True, fun _ => []⟩,
     ⟨42, [(3, 41)], [2], [], [2], fun _ => .bool false, fun _ => True, fun _ => []⟩]) (by kernel_rfl) (by kernel_rfl) (POps.cons ?_ (POps.cons ?_ (POps.cons ?_ (POps.cons ?_ (POps.cons ?_ POps.nil))))) ?_
 intro θ R hd
 exact Opp.plain (OG.imp (OD.loadAgg rfl ti27 rfl (i := 2) rfl (us := [.int .i64 (cr), v10]) rfl rfl) (by rintro _ _ ⟨rfl, rfl⟩; exact ⟨[], rfl, trivial, rfl⟩)) rfl
 intro θ R hd
 exact Opp.plain (OG.imp (OD.loadAgg rfl ti24 rfl (i := 7) rfl (us := [.int .i64 (cr), vcd]) rfl rfl) (by rintro _ _ ⟨rfl, rfl⟩; exact ⟨[], rfl, trivial, rfl⟩)) rfl
 intro θ R hd
 obtain ⟨h1d, _⟩ := hd
 exact Opp.plain (OG.imp (OG.call [.agg #[.int .i64 (cr), vcd]] ent14 rfl rfl rfl rfl (by exact (toCartan_s scd (Ent.drop 8 ecd.app) (by omega)))) (by rintro _ _ ⟨v17, rfl, hs18, rfl⟩; exact ⟨[v17], rfl, hs18, rfl⟩)) rfl
 intro θ R hd
 obtain ⟨h0d, h2d, _⟩ := hd
 exact Opp.plain (OG.imp (OG.call [.agg #[.int .i64 (cr), v10], .agg #[.int .i64 (cr), ((θ 2).getD 0 undef)]] ent17 rfl rfl rfl rfl (by exact (eqCartan_same hs11 (Ent.ints (i := 4) rfl) h2d (Ent.ints (i := 0) rfl) (by omega)))) (by rintro _ _ ⟨rfl, rfl⟩; exact ⟨[], rfl, trivial, rfl⟩)) rfl
 intro θ R hd
 obtain ⟨h3d, _⟩ := hd
 exact Opp.plain (OG.imp (OD.not rfl rfl) (by rintro _ _ ⟨rfl, rfl⟩; exact ⟨[], rfl, trivial, rfl⟩)) rfl
 intro θ hall
 obtain ⟨_, _, h2a, _, _, _⟩ := hall
 refine G.at [] 0 (env' := [(1, vx), (2, .pointer (some ⟨g1, 0, none⟩)), (6, v8), (7, .pointer (some ⟨g12, 0, none⟩)), (8, v13), (9, v15), (42, .bool false)]) ⟨rfl, rfl, rfl, rfl, rfl, rfl, rfl, trivial⟩ (own' := ints 3 ((θ 2).getD 0 undef) cd :: ints 3 v15 (dwOf cr cd x) :: ints 3 v13 x :: box g12 27 [.int .i64 (cr), v10] :: ints 3 v10 cd :: ints 3 v8 (dwOf cr cd x) :: ints 3 v6 x :: ints 3 v4 cd :: box g1 24 [.int .i64 (cr), vcd] :: own) rfl ?_
 have hs19 : IsS ((θ 2).getD 0 undef) := h2a
 clear h2a
 generalize ((θ 2).getD 0 undef) = v20 at *
 show G _ _ _ [] _ _ _ _
 refine G.nil (GE.then_ (GC.condF rfl (GC.skip (GE.then_ (GC.seq (GC.seq (GC.region ?_)))))))
 refine G.stepD (OD.move rfl rfl) rfl rfl rfl ?_
 refine G.stepD (OD.move rfl rfl) rfl rfl rfl ?_
 refine G.step (OG.call [vx] ent15 rfl rfl rfl rfl (by exact (toIntS_s sx (Ent.drop 9 ex) (by omega)))) rfl rfl rfl ?_
 rintro v21 _ ⟨_, rfl, hs22, rfl⟩
 refine G.step (OG.call [v13, v21] ent18 rfl rfl rfl rfl (by exact (eqIntS_same hs14 (Ent.ints (i := 3) rfl) hs22 (Ent.ints (i := 0) rfl) (by omega)))) rfl rfl rfl ?_
 rintro _ _ ⟨rfl, rfl⟩
 refine G.stepD (OD.not rfl rfl) rfl rfl rfl ?_
 refine G.nil (GE.then_ (GC.condF rfl (GC.skip (GE.then_ (GC.seq (GC.region ?_))))))
 refine G.stepD (OD.assign rfl rfl) rfl rfl rfl ?_
 refine G.nil (GE.then_ (GC.seq (GC.region ?_)))
 refine G.stepD (OD.loadAgg rfl ti27 rfl (i := 4) rfl (us := [.int .i64 (cr), v10]) rfl rfl) rfl rfl rfl ?_
 refine G.stepD (OD.move rfl rfl) rfl rfl rfl ?_
 refine G.at [5] 0 (env' := [(1, vx), (2, .pointer (some ⟨g1, 0, none⟩)), (6, v8), (7, .pointer (some ⟨g12, 0, none⟩)), (8, v13), (9, v15), (42, .bool false), (43, v13), (44, vx), (45, v21), (46, .bool true), (47, .bool false), (10, .int .i64 (1)), (48, .agg #[.int .i64 (cr), v10]), (49, .int .i64 (1))]) ⟨rfl, rfl, rfl, rfl, rfl, rfl, rfl, rfl, rfl, rfl, rfl, rfl, rfl, rfl, rfl, trivial⟩ (own' := ints 3 v10 cd :: ints 3 v21 x :: ints 3 v20 cd :: ints 3 v15 (dwOf cr cd x) :: ints 3 v13 x :: box g12 27 [.int .i64 (cr), v10] :: ints 3 v8 (dwOf cr cd x) :: ints 3 v6 x :: ints 3 v4 cd :: box g1 24 [.int .i64 (cr), vcd] :: own) rfl ?_
 refine G.step (OG.call [.agg #[.int .i64 (cr), v10], .int .i64 (1)] ent26 rfl rfl rfl rfl (by exact (markCartan_s hs11 (by omega) (by omega)))) rfl rfl rfl ?_
 rintro _ _ ⟨rfl, rfl⟩
 refine G.stepD (OD.assign rfl rfl) rfl rfl rfl ?_
 refine G.nil (GE.then_ (GC.seq (GC.region ?_)))
 refine G.stepD (OD.move rfl rfl) rfl rfl rfl ?_
 refine G.stepD (OD.move rfl rfl) rfl rfl rfl ?_
 refine G.at [4] 0 (env' := [(1, vx), (2, .pointer (some ⟨g1, 0, none⟩)), (6, v8), (7, .pointer (some ⟨g12, 0, none⟩)), (8, v13), (9, v15), (42, .bool false), (43, v13), (44, vx), (45, v21), (46, .bool true), (47, .bool false), (48, .agg #[.int .i64 (cr), v10]), (49, .int .i64 (1)), (50, .int .i64 (1 + (cd.length : Nat))), (10, .int .i64 (1 + (cd.length : Nat))), (51, v13), (52, .int .i64 (1 + (cd.length : Nat)))]) ⟨rfl, rfl, rfl, rfl, rfl, rfl, rfl, rfl, rfl, rfl, rfl, rfl, rfl, rfl, rfl, rfl, rfl, rfl, trivial⟩ (own' := ints 3 v13 x :: ints 3 v10 (mkd 1 cd.length) :: ints 3 v21 x :: ints 3 v20 cd :: ints 3 v15 (dwOf cr cd x) :: box g12 27 [.int .i64 (cr), v10] :: ints 3 v8 (dwOf cr cd x) :: ints 3 v6 x :: ints 3 v4 cd :: box g1 24 [.int .i64 (cr), vcd] :: own) rfl ?_
 refine G.step (OG.call [v13, .int .i64 (1 + (cd.length : Nat))] ent27 rfl rfl rfl rfl (by exact (markIntS_s hs14 (by omega) (by omega)))) rfl rfl rfl ?_
 rintro _ _ ⟨rfl, rfl⟩
 refine G.stepD (OD.assign rfl rfl) rfl rfl rfl ?_
 refine G.nil (GE.then_ (GC.seq (GC.seq (GC.region ?_))))
 refine G.stepD (OD.move rfl rfl) rfl rfl rfl ?_
 refine G.stepD (OD.eqv (OD.lss rfl rfl rfl) (congrArg Value.bool ((decide_eq_false (by omega)) : _ = false))) rfl rfl rfl ?_
 refine G.stepD (OD.move rfl rfl) rfl rfl rfl ?_
 refine G.stepGD (OD.move rfl rfl) rfl rfl rfl rfl rfl ?_
 refine G.stepGD (OD.move rfl rfl) rfl rfl rfl rfl rfl ?_
 refine G.stepG (OG.call [v15, v8] ent18 rfl rfl rfl rfl (by exact (eqIntS_same hs16 (Ent.ints (i := 4) rfl) hs9 (Ent.ints (i := 6) rfl) (by omega)))) rfl rfl rfl rfl rfl ?_
 rintro _ _ ⟨rfl, rfl⟩
 refine G.stepGD (OD.not rfl rfl) rfl rfl rfl rfl rfl ?_
 refine G.stepD (OD.pickF rfl rfl rfl) rfl rfl rfl ?_
 refine G.nil (GE.then_ (GC.condF rfl (GC.skip (GE.then_ (GC.seq (GC.region ?_))))))
 refine G.stepD (OD.assign rfl rfl) rfl rfl rfl ?_
 refine G.nil (GE.then_ (GC.seq (GC.region ?_)))
 refine G.stepD (OD.move rfl rfl) rfl rfl rfl ?_
 refine G.stepD (OD.move rfl rfl) rfl rfl rfl ?_
 refine G.at [4] 0 (env' := [(1, vx), (2, .pointer (some ⟨g1, 0, none⟩)), (6, v8), (7, .pointer (some ⟨g12, 0, none⟩)), (8, v13), (9, v15), (42, .bool false), (43, v13), (44, vx), (45, v21), (46, .bool true), (47, .bool false), (48, .agg #[.int .i64 (cr), v10]), (49, .int .i64 (1)), (50, .int .i64 (1 + (cd.length : Nat))), (51, v13), (52, .int .i64 (1 + (cd.length : Nat))), (53, .int .i64 ((1 + (cd.length : Nat)) + (x.length : Nat))), (10, .int .i64 ((1 + (cd.length : Nat)) + (x.length : Nat))), (54, .int .i64 ((1 + (cd.length : Nat)) + (x.length : Nat))), (55, .bool false), (56, .bool false), (57, v15), (58, v8), (59, .bool true), (60, .bool false), (61, .bool false), (11, .int .i64 (1)), (62, v15), (63, .int .i64 (1))]) ⟨rfl, rfl, rfl, rfl, rfl, rfl, rfl, rfl, rfl, rfl, rfl, rfl, rfl, rfl, rfl, rfl, rfl, rfl, rfl, rfl, rfl, rfl, rfl, rfl, rfl, rfl, rfl, rfl, rfl, rfl, trivial⟩ (own' := ints 3 v15 (dwOf cr cd x) :: ints 3 v13 (mkd (1 + (cd.length : Nat)) x.length) :: ints 3 v10 (mkd 1 cd.length) :: ints 3 v21 x :: ints 3 v20 cd :: box g12 27 [.int .i64 (cr), v10] :: ints 3 v8 (dwOf cr cd x) :: ints 3 v6 x :: ints 3 v4 cd :: box g1 24 [.int .i64 (cr), vcd] :: own) rfl ?_
 refine G.step (OG.call [v15, .int .i64 (1)] ent27 rfl rfl rfl rfl (by exact (markIntS_s hs16 (by omega) (by omega)))) rfl rfl rfl ?_
 rintro _ _ ⟨rfl, rfl⟩
 refine G.stepD (OD.assign rfl rfl) rfl rfl rfl ?_
 refine G.nil (GE.then_ (GC.seq (GC.region ?_)))
 refine G.stepD (OD.assign rfl rfl) rfl rfl rfl ?_
 refine G.nil (GE.then_ (GC.seq (GC.region ?_)))
 refine G.stepD (OD.move rfl rfl) rfl rfl rfl ?_
 refine G.stepD (OD.move rfl rfl) rfl rfl rfl ?_
 refine G.step (OG.call [v15, .int .i64 (1)] ent28 rfl rfl rfl rfl (by exact (heldIntS_m hs16 (Ent.ints (i := 0) rfl) (by omega) (by omega)))) rfl rfl rfl ?_
 rintro _ _ ⟨rfl, rfl⟩
 refine G.stepD (OD.assign rfl rfl) rfl rfl rfl ?_
 refine G.nil (GE.then_ (GC.seq (GC.seq (GC.region ?_))))
 refine G.stepD (OD.move rfl rfl) rfl rfl rfl ?_
 refine G.stepD (OD.eqv (OD.lss rfl rfl rfl) (congrArg Value.bool ((decide_eq_false (by omega)) : _ = false))) rfl rfl rfl ?_
 refine G.nil (GE.then_ (GC.condF rfl (GC.skip (GE.then_ (GC.seq (GC.seq (GC.region ?_)))))))
 refine G.stepD (OD.move rfl rfl) rfl rfl rfl ?_
 refine G.stepD (OD.move rfl rfl) rfl rfl rfl ?_
 refine G.stepD (OD.eqv (OD.neq rfl rfl rfl) (congrArg Value.bool ((bne_same _) : _ = false))) rfl rfl rfl ?_
 refine G.nil (GE.then_ (GC.condF rfl (GC.skip (GE.then_ (GC.seq (GC.region ?_))))))
 refine G.stepD (OD.loadAgg rfl ti24 rfl (i := 9) rfl (us := [.int .i64 (cr), vcd]) rfl rfl) rfl rfl rfl ?_
 refine G.step (OG.call [.agg #[.int .i64 (cr), vcd]] ent14 rfl rfl rfl rfl (by exact (toCartan_s scd (Ent.drop 10 ecd) (by omega)))) rfl rfl rfl ?_
 rintro _ _ ⟨v23, rfl, hs24, rfl⟩
 refine G.stepD (OD.move rfl rfl) rfl rfl rfl ?_
 refine G.step (OG.call [vx] ent15 rfl rfl rfl rfl (by exact (toIntS_s sx (Ent.drop 11 ex) (by omega)))) rfl rfl rfl ?_
 rintro v25 _ ⟨_, rfl, hs26, rfl⟩
 refine G.step (OG.call [.agg #[.int .i64 (cr), v23], v25] ent34 rfl rfl rfl rfl (by exact (dualWeight_w hs24 (Ent.ints (i := 1) rfl) hs26 (Ent.ints (i := 0) rfl) (by omega) (by omega) ((Ent.drop 12 hg))))) rfl rfl rfl ?_
 rintro v27 _ ⟨_, rfl, hs28, rfl⟩
 refine G.stepD (OD.assign rfl rfl) rfl rfl rfl ?_
 refine G.nil (GE.then_ (GC.seq (GC.seq (GC.region ?_))))
 refine G.stepD (OD.move rfl rfl) rfl rfl rfl ?_
 refine G.stepD (OD.move rfl rfl) rfl rfl rfl ?_
 refine G.step (OG.call [v27, v8] ent18 rfl rfl rfl rfl (by exact (eqIntS_same hs28 (Ent.ints (i := 0) rfl) hs9 (Ent.ints (i := 9) rfl) (by omega)))) rfl rfl rfl ?_
 rintro _ _ ⟨rfl, rfl⟩
 refine G.stepD (OD.not rfl rfl) rfl rfl rfl ?_
 refine G.nil (GE.then_ (GC.condF rfl (GC.skip (GE.then_ (GC.seq (GC.region ?_))))))
 refine G.stepD (OD.assign rfl rfl) rfl rfl rfl ?_
 refine G.nil (GE.then_ (GC.seq (GC.region ?_)))
 refine G.stepD (OD.move rfl rfl) rfl rfl rfl ?_
 refine G.stepD (OD.move rfl rfl) rfl rfl rfl ?_
 refine G.step (OG.call [v15, .int .i64 (1)] ent28 rfl rfl rfl rfl (by exact (heldIntS_m hs16 (Ent.ints (i := 3) rfl) (by omega) (by omega)))) rfl rfl rfl ?_
 rintro _ _ ⟨rfl, rfl⟩
 refine G.stepD (OD.assign rfl rfl) rfl rfl rfl ?_
 refine G.nil (GE.then_ (GC.seq (GC.seq (GC.region ?_))))
 refine G.stepD (OD.move rfl rfl) rfl rfl rfl ?_
 refine G.stepD (OD.eqv (OD.lss rfl rfl rfl) (congrArg Value.bool ((decide_eq_false (by omega)) : _ = false))) rfl rfl rfl ?_
 refine G.nil (GE.then_ (GC.condF rfl (GC.skip (GE.then_ (GC.seq (GC.seq (GC.region ?_)))))))
 refine G.stepD (OD.move rfl rfl) rfl rfl rfl ?_
 refine G.stepD (OD.move rfl rfl) rfl rfl rfl ?_
 refine G.stepD (OD.eqv (OD.neq rfl rfl rfl) (congrArg Value.bool ((bne_same _) : _ = false))) rfl rfl rfl ?_
 refine G.nil (GE.then_ (GC.condF rfl (GC.skip (GE.then_ (GC.seq (GC.region ?_))))))
 refine G.stepD (OD.assign rfl rfl) rfl rfl rfl ?_
 refine G.nil (GE.then_ (GC.ret ?_))
 exact GE.body [] 13 (res1 rfl rfl) rfl (⟨rfl, rfl⟩)

end Go.Proofs.YtgafcopihlmfpaaDoor
