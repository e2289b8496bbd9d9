/-
  CartanOf, by both texts.
-/
import Derived.Test.YtnebapjkmgebmaaDoorWOne
namespace Go.Proofs.YtnebapjkmgebmaaDoor
set_option linter.unusedVariables false
set_option linter.unusedSimpArgs false
open Go.RowKit

theorem ent53 : ∀ us w, (callFunc 53 us).run Tryd.prog w = .ok (.enter 53 us) w := fun us w => by kernel_rfl
theorem ent54 : ∀ us w, (callFunc 54 us).run Tryd.prog w = .ok (.enter 54 us) w := fun us w => by kernel_rfl
theorem ent55 : ∀ us w, (callFunc 55 us).run Tryd.prog w = .ok (.enter 55 us) w := fun us w => by kernel_rfl
theorem ent56 : ∀ us w, (callFunc 56 us).run Tryd.prog w = .ok (.enter 56 us) w := fun us w => by kernel_rfl
theorem ent57 : ∀ us w, (callFunc 57 us).run Tryd.prog w = .ok (.enter 57 us) w := fun us w => by kernel_rfl
theorem ent58 : ∀ us w, (callFunc 58 us).run Tryd.prog w = .ok (.enter 58 us) w := fun us w => by kernel_rfl
theorem ent59 : ∀ us w, (callFunc 59 us).run Tryd.prog w = .ok (.enter 59 us) w := fun us w => by kernel_rfl

set_option maxRecDepth 100000 in
theorem specCartanOf_w {W : World} {own : List Asn} {s : ByteArray}   (hs : s.size ≤ 1048576) : Spec Tryd.prog 15 [.string (s)] W own (fun v ow => ∃ (r1 : Value), v = .tuple #[.agg #[.int .i64 (cR s), r1], .bool ((cF s).isSome)] ∧ IsS r1 ∧ ow = ints 3 r1 (cD s) :: own) := by
 refine Spec.enter Tryd.f15 _ Tryd.func15 rfl (n := 68) rfl rfl ?_
 refine GC.seq (GC.region ?_)
 refine G.step (OG.alloc rfl ti24 (zs := [.int .i64 (0), .slice none 0 0]) rfl) rfl rfl rfl ?_
 rintro _ _ ⟨g1, rfl, rfl⟩
 refine G.stepD (OD.assign rfl rfl) rfl rfl rfl ?_
 refine G.nil (GE.then_ (GC.seq (GC.region ?_)))
 refine G.step (OG.buildInts (xs := []) (is := []) rfl et22 rfl rfl rfl rfl rfl) rfl rfl rfl ?_
 rintro v2 _ ⟨hs3, rfl⟩
 refine G.stepD (OD.build (idx := [1]) (xs := [.tmp 6]) (vs := [v2]) (cs := [[v2]]) (zs := [.int .i64 (0), .slice none 0 0]) (r := [.int .i64 (0), v2]) rfl ti24 rfl rfl rfl ⟨(one_cells (IsS.one hs3)), trivial⟩ rfl) rfl rfl rfl ?_
 refine G.step (OG.alloc rfl ti24 (zs := [.int .i64 (0), .slice none 0 0]) rfl) rfl rfl rfl ?_
 rintro _ _ ⟨g4, rfl, rfl⟩
 refine G.stepD0 (OD.store rfl ti24 rfl rfl (us := [.int .i64 (0), v2]) rfl rfl (allC rfl (allC (IsS.one hs3) rfl)) (i := 0) rfl rfl) rfl rfl ?_
 refine G.nil (GE.then_ (GC.seq (GC.seq (GC.region ?_))))
 refine G.stepD (OD.assign rfl rfl) rfl rfl rfl ?_
 refine G.nil (GE.then_ (GC.block ?_))
 refine GC.loop (ι := List Nat × Int × List Int × Value) (fun ⟨ks, r, d, v⟩ => [(0, .string (s)), (2, .pointer (some ⟨g1, 0, none⟩)), (4, .pointer (some ⟨g4, 0, none⟩)), (5, .int .i64 (3 * (ks.length : Int)))]) (fun ⟨ks, r, d, v⟩ => box g4 24 [.int .i64 (r), v] :: ints 3 v d :: box g1 24 [.int .i64 (0), .slice none 0 0] :: own) (fun ⟨ks, r, d, v⟩ => (Scan s ks) ∧ (r = (rkS ks : Nat)) ∧ (d = (matOf ks).2) ∧ (IsS v)) (fun ⟨ks, r, d, v⟩ => s.size - 3 * ks.length) ([], 0, [], v2) (⟨Scan.start s, rfl, rfl, hs3⟩) ⟨rfl, rfl, rfl, int_eq (by simp), trivial⟩ [] 0 rfl ?_
 rintro ⟨ks, r, d, v⟩ ⟨hsc, hr, hd, hv⟩
 refine GC.seq (GC.seq (GC.region ?_))
 refine G.stepD (OD.move rfl rfl) rfl rfl rfl ?_
 refine G.stepD (OD.move rfl rfl) rfl rfl rfl ?_
 refine G.stepD (OD.lenStr rfl rfl st9 rfl) rfl rfl rfl ?_
 refine G.stepD (OD.lss rfl rfl rfl) rfl rfl rfl ?_
 refine G.nil (GE.then_ ?_)
 refine GC.cond rfl (fun hc5 => ?_) (fun hc5 => ?_)
 replace hc5 := of_decide_eq_true hc5
 have hr4 := hsc.2.1
 have hl4 := rkS_ge hsc.1
 refine GC.skip (GE.then_ (GC.seq (GC.block (GC.seq (GC.seq ?_)))))
 rcases Bool.eq_false_or_eq_true (decide ((s.size : Nat) < (3 * (ks.length : Int)) + 2)) with hg6 | hg6
 have hg6p := hg6
 replace hg6p := of_decide_eq_true hg6p
 refine GC.at [] 0 (env' := [(0, .string (s)), (2, .pointer (some ⟨g1, 0, none⟩)), (4, .pointer (some ⟨g4, 0, none⟩)), (5, .int .i64 (3 * (ks.length : Int)))]) ⟨rfl, rfl, rfl, rfl, trivial⟩ rfl ?_
 refine GC.par (its := [⟨14, [], [], [], [], fun _ => .int .i64 (3 * (ks.length : Int)), fun _ => True, fun _ => []⟩,
     ⟨15, [(0, 14)], [], [], [], fun _ => .int .i64 ((3 * (ks.length : Int)) + 2), fun _ => True, fun _ => []⟩,
     ⟨16, [], [], [], [], fun _ => .string (s), fun _ => True, fun _ => []⟩,
     ⟨17, [(2, 16)], [], [], [], fun _ => .int .i64 ((s.size : Nat)), fun _ => True, fun _ => []⟩,
     ⟨18, [(1, 15), (3, 17)], [], [], [], fun _ => .bool true, fun _ => True, fun _ => []⟩,
     ⟨19, [(4, 18)], [], [], [], fun _ => .bool true, fun _ => True, fun _ => []⟩,
     ⟨20, [(5, 19)], [], [], [], fun _ => undef, fun _ => True, fun _ => []⟩,
     ⟨21, [(5, 19), (6, 20)], [], [], [], fun _ => undef, fun _ => True, fun _ => []⟩,
     ⟨22, [(5, 19)], [], [], [], fun _ => undef, fun _ => True, fun _ => []⟩,
     ⟨23, [(5, 19), (8, 22)], [], [], [], fun _ => undef, fun _ => True, fun _ => []⟩,
     ⟨24, [(5, 19), (7, 21), (9, 23)], [], [], [], fun _ => undef, fun _ => True, fun _ => []⟩,
     ⟨25, [(5, 19), (10, 24)], [], [], [], fun _ => undef, fun _ => True, fun _ => []⟩,
     ⟨26, [(11, 25)], [], [], [], fun _ => undef, fun _ => True, fun _ => []⟩,
     ⟨27, [(11, 25)], [], [], [], fun _ => undef, fun _ => True, fun _ => []⟩,
     ⟨28, [(11, 25), (13, 27)], [], [], [], fun _ => undef, fun _ => True, fun _ => []⟩,
     ⟨29, [(11, 25), (12, 26), (14, 28)], [], [], [], fun _ => undef, fun _ => True, fun _ => []⟩,
     ⟨30, [(11, 25), (15, 29)], [], [], [], fun _ => undef, fun _ => True, fun _ => []⟩,
     ⟨31, [(11, 25), (16, 30)], [], [], [], fun _ => undef, fun _ => True, fun _ => []⟩,
     ⟨32, [(17, 31)], [], [], [], fun _ => undef, fun _ => True, fun _ => []⟩,
     ⟨33, [(17, 31), (18, 32)], [], [], [], fun _ => undef, fun _ => True, fun _ => []⟩,
     ⟨34, [(17, 31)], [], [], [], fun _ => undef, fun _ => True, fun _ => []⟩,
     ⟨35, [(17, 31), (20, 34)], [], [], [], fun _ => undef, fun _ => True, fun _ => []⟩,
     ⟨36, [(17, 31), (19, 33), (21, 35)], [], [], [], fun _ => undef, fun _ => True, fun _ => []⟩,
     ⟨37, [(11, 25), (17, 31), (22, 36)], [], [], [], fun _ => undef, fun _ => True, fun _ => []⟩,
     ⟨38, [(5, 19), (11, 25), (23, 37)], [], [], [], fun _ => undef, fun _ => True, fun _ => []⟩,
     ⟨39, [(5, 19), (24, 38)], [], [], [], fun _ => .bool true, fun _ => True, fun _ => []⟩,
     ⟨40, [(25, 39)], [], [], [], fun _ => .bool true, fun _ => True, fun _ => []⟩,
     ⟨41, [(26, 40)], [], [], [], fun _ => undef, fun _ => True, fun _ => []⟩,
     ⟨42, [(26, 40)], [], [], [], fun _ => undef, fun _ => True, fun _ => []⟩,
     ⟨43, [(26, 40)], [], [], [], fun _ => undef, fun _ => True, fun _ => []⟩,
     ⟨44, [(26, 40)], [], [], [], fun _ => undef, fun _ => True, fun _ => []⟩,
     ⟨45, [(26, 40), (30, 44)], [], [], [], fun _ => undef, fun _ => True, fun _ => []⟩,
     ⟨46, [(26, 40), (28, 42), (29, 43), (31, 45)], [], [], [], fun _ => undef, fun _ => True, fun _ => []⟩,
     ⟨47, [(26, 40), (27, 41), (32, 46)], [], [], [], fun _ => undef, fun _ => True, fun _ => []⟩,
     ⟨48, [(26, 40), (33, 47)], [], [], [], fun _ => undef, fun _ => True, fun _ => []⟩,
     ⟨49, [(26, 40), (34, 48)], [], [], [], fun _ => .bool true, fun _ => True, fun _ => []⟩]) (by kernel_rfl) (by kernel_rfl) (POps.cons ?_ (POps.cons ?_ (POps.cons ?_ (POps.cons ?_ (POps.cons ?_ (POps.cons ?_ (POps.cons ?_ (POps.cons ?_ (POps.cons ?_ (POps.cons ?_ (POps.cons ?_ (POps.cons ?_ (POps.cons ?_ (POps.cons ?_ (POps.cons ?_ (POps.cons ?_ (POps.cons ?_ (POps.cons ?_ (POps.cons ?_ (POps.cons ?_ (POps.cons ?_ (POps.cons ?_ (POps.cons ?_ (POps.cons ?_ (POps.cons ?_ (POps.cons ?_ (POps.cons ?_ (POps.cons ?_ (POps.cons ?_ (POps.cons ?_ (POps.cons ?_ (POps.cons ?_ (POps.cons ?_ (POps.cons ?_ (POps.cons ?_ (POps.cons ?_ POps.nil)))))))))))))))))))))))))))))))))))) ?_
 intro θ R hd
 exact Opp.plain (OG.imp (OD.move rfl rfl) (by rintro _ _ ⟨rfl, rfl⟩; exact ⟨[], rfl, trivial, rfl⟩)) rfl
 intro θ R hd
 obtain ⟨h0d, _⟩ := hd
 exact Opp.plain (OG.imp (OD.addI rfl rfl rfl (by omega)) (by rintro _ _ ⟨rfl, rfl⟩; exact ⟨[], rfl, trivial, rfl⟩)) rfl
 intro θ R hd
 exact Opp.plain (OG.imp (OD.move rfl rfl) (by rintro _ _ ⟨rfl, rfl⟩; exact ⟨[], rfl, trivial, rfl⟩)) rfl
 intro θ R hd
 obtain ⟨h2d, _⟩ := hd
 exact Opp.plain (OG.imp (OD.lenStr rfl rfl st9 rfl) (by rintro _ _ ⟨rfl, rfl⟩; exact ⟨[], rfl, trivial, rfl⟩)) rfl
 intro θ R hd
 obtain ⟨h1d, h3d, _⟩ := hd
 exact Opp.plain (OG.imp (OD.gtr rfl rfl rfl) (by rintro _ _ ⟨rfl, rfl⟩; exact ⟨[], congrArg Value.bool hg6, trivial, rfl⟩)) rfl
 intro θ R hd
 obtain ⟨h4d, _⟩ := hd
 exact Opp.plain (OG.imp (OD.move rfl rfl) (by rintro _ _ ⟨rfl, rfl⟩; exact ⟨[], rfl, trivial, rfl⟩)) rfl
 intro θ R hd
 obtain ⟨h5d, _⟩ := hd
 exact Opp.off ⟨[], rfl, trivial, rfl⟩ rfl rfl rfl rfl
 intro θ R hd
 obtain ⟨h5d, h6d, _⟩ := hd
 exact Opp.off ⟨[], rfl, trivial, rfl⟩ rfl rfl rfl rfl
 intro θ R hd
 obtain ⟨h5d, _⟩ := hd
 exact Opp.off ⟨[], rfl, trivial, rfl⟩ rfl rfl rfl rfl
 intro θ R hd
 obtain ⟨h5d, h8d, _⟩ := hd
 exact Opp.off ⟨[], rfl, trivial, rfl⟩ rfl rfl rfl rfl
 intro θ R hd
 obtain ⟨h5d, h7d, h9d, _⟩ := hd
 exact Opp.off ⟨[], rfl, trivial, rfl⟩ rfl rfl rfl rfl
 intro θ R hd
 obtain ⟨h5d, h10d, _⟩ := hd
 exact Opp.off ⟨[], rfl, trivial, rfl⟩ rfl rfl rfl rfl
 intro θ R hd
 obtain ⟨h11d, _⟩ := hd
 exact Opp.offU ⟨[], rfl, trivial, rfl⟩ rfl rfl rfl
 intro θ R hd
 obtain ⟨h11d, _⟩ := hd
 exact Opp.offU ⟨[], rfl, trivial, rfl⟩ rfl rfl rfl
 intro θ R hd
 obtain ⟨h11d, h13d, _⟩ := hd
 exact Opp.offU ⟨[], rfl, trivial, rfl⟩ rfl rfl rfl
 intro θ R hd
 obtain ⟨h11d, h12d, h14d, _⟩ := hd
 exact Opp.offU ⟨[], rfl, trivial, rfl⟩ rfl rfl rfl
 intro θ R hd
 obtain ⟨h11d, h15d, _⟩ := hd
 exact Opp.offU ⟨[], rfl, trivial, rfl⟩ rfl rfl rfl
 intro θ R hd
 obtain ⟨h11d, h16d, _⟩ := hd
 exact Opp.offU ⟨[], rfl, trivial, rfl⟩ rfl rfl rfl
 intro θ R hd
 obtain ⟨h17d, _⟩ := hd
 exact Opp.offU ⟨[], rfl, trivial, rfl⟩ rfl rfl rfl
 intro θ R hd
 obtain ⟨h17d, h18d, _⟩ := hd
 exact Opp.offU ⟨[], rfl, trivial, rfl⟩ rfl rfl rfl
 intro θ R hd
 obtain ⟨h17d, _⟩ := hd
 exact Opp.offU ⟨[], rfl, trivial, rfl⟩ rfl rfl rfl
 intro θ R hd
 obtain ⟨h17d, h20d, _⟩ := hd
 exact Opp.offU ⟨[], rfl, trivial, rfl⟩ rfl rfl rfl
 intro θ R hd
 obtain ⟨h17d, h19d, h21d, _⟩ := hd
 exact Opp.offU ⟨[], rfl, trivial, rfl⟩ rfl rfl rfl
 intro θ R hd
 obtain ⟨h11d, h17d, h22d, _⟩ := hd
 exact Opp.offU ⟨[], rfl, trivial, rfl⟩ rfl rfl rfl
 intro θ R hd
 obtain ⟨h5d, h11d, h23d, _⟩ := hd
 exact Opp.off ⟨[], rfl, trivial, rfl⟩ rfl rfl rfl rfl
 intro θ R hd
 obtain ⟨h5d, h24d, _⟩ := hd
 exact Opp.plain (OG.imp (OD.pickT rfl rfl rfl) (by rintro _ _ ⟨rfl, rfl⟩; exact ⟨[], rfl, trivial, rfl⟩)) rfl
 intro θ R hd
 obtain ⟨h25d, _⟩ := hd
 exact Opp.plain (OG.imp (OD.move rfl rfl) (by rintro _ _ ⟨rfl, rfl⟩; exact ⟨[], rfl, trivial, rfl⟩)) rfl
 intro θ R hd
 obtain ⟨h26d, _⟩ := hd
 exact Opp.off ⟨[], rfl, trivial, rfl⟩ rfl rfl rfl rfl
 intro θ R hd
 obtain ⟨h26d, _⟩ := hd
 exact Opp.off ⟨[], rfl, trivial, rfl⟩ rfl rfl rfl rfl
 intro θ R hd
 obtain ⟨h26d, _⟩ := hd
 exact Opp.off ⟨[], rfl, trivial, rfl⟩ rfl rfl rfl rfl
 intro θ R hd
 obtain ⟨h26d, _⟩ := hd
 exact Opp.off ⟨[], rfl, trivial, rfl⟩ rfl rfl rfl rfl
 intro θ R hd
 obtain ⟨h26d, h30d, _⟩ := hd
 exact Opp.off ⟨[], rfl, trivial, rfl⟩ rfl rfl rfl rfl
 intro θ R hd
 obtain ⟨h26d, h28d, h29d, h31d, _⟩ := hd
 exact Opp.off ⟨[], rfl, trivial, rfl⟩ rfl rfl rfl rfl
 intro θ R hd
 obtain ⟨h26d, h27d, h32d, _⟩ := hd
 exact Opp.off ⟨[], rfl, trivial, rfl⟩ rfl rfl rfl rfl
 intro θ R hd
 obtain ⟨h26d, h33d, _⟩ := hd
 exact Opp.off ⟨[], rfl, trivial, rfl⟩ rfl rfl rfl rfl
 intro θ R hd
 obtain ⟨h26d, h34d, _⟩ := hd
 exact Opp.plain (OG.imp (OD.pickT rfl rfl rfl) (by rintro _ _ ⟨rfl, rfl⟩; exact ⟨[], rfl, trivial, rfl⟩)) rfl
 intro θ hall
 obtain ⟨_, _, _, _, _, _, _, _, _, _, _, _, _, _, _, _, _, _, _, _, _, _, _, _, _, _, _, _, _, _, _, _, _, _, _, _, _⟩ := hall
 refine G.at [] 0 (env' := [(0, .string (s)), (2, .pointer (some ⟨g1, 0, none⟩)), (4, .pointer (some ⟨g4, 0, none⟩)), (5, .int .i64 (3 * (ks.length : Int))), (49, .bool true)]) ⟨rfl, rfl, rfl, rfl, rfl, trivial⟩ (own' := box g4 24 [.int .i64 (r), v] :: ints 3 v d :: box g1 24 [.int .i64 (0), .slice none 0 0] :: own) rfl ?_
 show G _ _ _ [] _ _ _ _
 refine G.nil (GE.then_ (GC.condT rfl ?_))
 obtain ⟨hp1, hp2, hp3⟩ := cF_none (hsc.bad (by omega) (by first | exact .inl (by omega) | exact .inr (.inl ⟨by omega, .inl (by assumption)⟩) | exact .inr (.inl ⟨by omega, .inr (by omega)⟩) | exact .inr (.inr (by assumption))))
 refine GC.seq (GC.region ?_)
 refine G.stepD (OD.build (idx := []) (xs := []) (vs := []) (cs := []) (zs := [.int .i64 (0), .slice none 0 0]) (r := [.int .i64 (0), .slice none 0 0]) rfl ti24 rfl rfl rfl trivial rfl) rfl rfl rfl ?_
 refine G.stepD0 (OD.store rfl ti24 rfl rfl (us := [.int .i64 (0), .slice none 0 0]) rfl rfl rfl (i := 2) rfl rfl) rfl rfl ?_
 refine G.stepD (OD.assign rfl rfl) rfl rfl rfl ?_
 refine G.nil (GE.then_ (GC.ret (GE.passR (GE.blockR (GE.passR (GE.passR (GE.blockR (GE.passR ?_))))))))
 refine GE.nilInts 3 ?_
 exact GE.body [0] 3 (resN rfl (RVs.cons (rv_cells ti24 rfl (i := 3) rfl rfl) (RVs.cons (rv_tmp rfl) RVs.nil)) rfl) rfl (⟨(.slice none 0 0), congr (congrArg (fun (a0 : Int) (a2 : Bool) => (.tuple #[.agg #[.int .i64 (a0), (.slice none 0 0)], .bool (a2)] : Value)) ((hp1.symm : (0 : Int) = cR s))) ((hp3.symm : (false : Bool) = (cF s).isSome)), IsS.nil, congrArg (fun (l0 : List Int) => ints 3 (.slice none 0 0) l0 :: own) ((hp2.symm : [] = cD s))⟩)
 have hg6p := hg6
 replace hg6p := of_decide_eq_false hg6p
 rcases Bool.eq_false_or_eq_true (decide ((3 * (ks.length : Int)) + 2 < (s.size : Nat))) with hg7 | hg7
 have hg7p := hg7
 replace hg7p := of_decide_eq_true hg7p
 rcases Bool.eq_false_or_eq_true ((bAt s (((3 * (ks.length : Int)) + 2 : Int).toNat)) != 43) with hg8 | hg8
 have hg8p := hg8
 replace hg8p := ne_of_bne hg8p
 refine GC.at [] 0 (env' := [(0, .string (s)), (2, .pointer (some ⟨g1, 0, none⟩)), (4, .pointer (some ⟨g4, 0, none⟩)), (5, .int .i64 (3 * (ks.length : Int)))]) ⟨rfl, rfl, rfl, rfl, trivial⟩ rfl ?_
 refine GC.par (its := [⟨14, [], [], [], [], fun _ => .int .i64 (3 * (ks.length : Int)), fun _ => True, fun _ => []⟩,
     ⟨15, [(0, 14)], [], [], [], fun _ => .int .i64 ((3 * (ks.length : Int)) + 2), fun _ => True, fun _ => []⟩,
     ⟨16, [], [], [], [], fun _ => .string (s), fun _ => True, fun _ => []⟩,
     ⟨17, [(2, 16)], [], [], [], fun _ => .int .i64 ((s.size : Nat)), fun _ => True, fun _ => []⟩,
     ⟨18, [(1, 15), (3, 17)], [], [], [], fun _ => .bool false, fun _ => True, fun _ => []⟩,
     ⟨19, [(4, 18)], [], [], [], fun _ => .bool false, fun _ => True, fun _ => []⟩,
     ⟨20, [(5, 19)], [], [], [], fun _ => .int .i64 (3 * (ks.length : Int)), fun _ => True, fun _ => []⟩,
     ⟨21, [(5, 19), (6, 20)], [], [], [], fun _ => .int .i64 ((3 * (ks.length : Int)) + 2), fun _ => True, fun _ => []⟩,
     ⟨22, [(5, 19)], [], [], [], fun _ => .string (s), fun _ => True, fun _ => []⟩,
     ⟨23, [(5, 19), (8, 22)], [], [], [], fun _ => .int .i64 ((s.size : Nat)), fun _ => True, fun _ => []⟩,
     ⟨24, [(5, 19), (7, 21), (9, 23)], [], [], [], fun _ => .bool true, fun _ => True, fun _ => []⟩,
     ⟨25, [(5, 19), (10, 24)], [], [], [], fun _ => .bool true, fun _ => True, fun _ => []⟩,
     ⟨26, [(11, 25)], [], [], [], fun _ => .string (s), fun _ => True, fun _ => []⟩,
     ⟨27, [(11, 25)], [], [], [], fun _ => .int .i64 (3 * (ks.length : Int)), fun _ => True, fun _ => []⟩,
     ⟨28, [(11, 25), (13, 27)], [], [], [], fun _ => .int .i64 ((3 * (ks.length : Int)) + 2), fun _ => True, fun _ => []⟩,
     ⟨29, [(11, 25), (12, 26), (14, 28)], [], [], [], fun _ => .int .u8 (bAt s (((3 * (ks.length : Int)) + 2 : Int).toNat)), fun _ => True, fun _ => []⟩,
     ⟨30, [(11, 25), (15, 29)], [], [], [], fun _ => .bool true, fun _ => True, fun _ => []⟩,
     ⟨31, [(11, 25), (16, 30)], [], [], [], fun _ => .bool true, fun _ => True, fun _ => []⟩,
     ⟨32, [(17, 31)], [], [], [], fun _ => undef, fun _ => True, fun _ => []⟩,
     ⟨33, [(17, 31), (18, 32)], [], [], [], fun _ => undef, fun _ => True, fun _ => []⟩,
     ⟨34, [(17, 31)], [], [], [], fun _ => undef, fun _ => True, fun _ => []⟩,
     ⟨35, [(17, 31), (20, 34)], [], [], [], fun _ => undef, fun _ => True, fun _ => []⟩,
     ⟨36, [(17, 31), (19, 33), (21, 35)], [], [], [], fun _ => undef, fun _ => True, fun _ => []⟩,
     ⟨37, [(11, 25), (17, 31), (22, 36)], [], [], [], fun _ => .bool true, fun _ => True, fun _ => []⟩,
     ⟨38, [(5, 19), (11, 25), (23, 37)], [], [], [], fun _ => .bool true, fun _ => True, fun _ => []⟩,
     ⟨39, [(5, 19), (24, 38)], [], [], [], fun _ => .bool true, fun _ => True, fun _ => []⟩,
     ⟨40, [(25, 39)], [], [], [], fun _ => .bool true, fun _ => True, fun _ => []⟩,
     ⟨41, [(26, 40)], [], [], [], fun _ => undef, fun _ => True, fun _ => []⟩,
     ⟨42, [(26, 40)], [], [], [], fun _ => undef, fun _ => True, fun _ => []⟩,
     ⟨43, [(26, 40)], [], [], [], fun _ => undef, fun _ => True, fun _ => []⟩,
     ⟨44, [(26, 40)], [], [], [], fun _ => undef, fun _ => True, fun _ => []⟩,
     ⟨45, [(26, 40), (30, 44)], [], [], [], fun _ => undef, fun _ => True, fun _ => []⟩,
     ⟨46, [(26, 40), (28, 42), (29, 43), (31, 45)], [], [], [], fun _ => undef, fun _ => True, fun _ => []⟩,
     ⟨47, [(26, 40), (27, 41), (32, 46)], [], [], [], fun _ => undef, fun _ => True, fun _ => []⟩,
     ⟨48, [(26, 40), (33, 47)], [], [], [], fun _ => undef, fun _ => True, fun _ => []⟩,
     ⟨49, [(26, 40), (34, 48)], [], [], [], fun _ => .bool true, fun _ => True, fun _ => []⟩]) (by kernel_rfl) (by kernel_rfl) (POps.cons ?_ (POps.cons ?_ (POps.cons ?_ (POps.cons ?_ (POps.cons ?_ (POps.cons ?_ (POps.cons ?_ (POps.cons ?_ (POps.cons ?_ (POps.cons ?_ (POps.cons ?_ (POps.cons ?_ (POps.cons ?_ (POps.cons ?_ (POps.cons ?_ (POps.cons ?_ (POps.cons ?_ (POps.cons ?_ (POps.cons ?_ (POps.cons ?_ (POps.cons ?_ (POps.cons ?_ (POps.cons ?_ (POps.cons ?_ (POps.cons ?_ (POps.cons ?_ (POps.cons ?_ (POps.cons ?_ (POps.cons ?_ (POps.cons ?_ (POps.cons ?_ (POps.cons ?_ (POps.cons ?_ (POps.cons ?_ (POps.cons ?_ (POps.cons ?_ POps.nil)))))))))))))))))))))))))))))))))))) ?_
 intro θ R hd
 exact Opp.plain (OG.imp (OD.move rfl rfl) (by rintro _ _ ⟨rfl, rfl⟩; exact ⟨[], rfl, trivial, rfl⟩)) rfl
 intro θ R hd
 obtain ⟨h0d, _⟩ := hd
 exact Opp.plain (OG.imp (OD.addI rfl rfl rfl (by omega)) (by rintro _ _ ⟨rfl, rfl⟩; exact ⟨[], rfl, trivial, rfl⟩)) rfl
 intro θ R hd
 exact Opp.plain (OG.imp (OD.move rfl rfl) (by rintro _ _ ⟨rfl, rfl⟩; exact ⟨[], rfl, trivial, rfl⟩)) rfl
 intro θ R hd
 obtain ⟨h2d, _⟩ := hd
 exact Opp.plain (OG.imp (OD.lenStr rfl rfl st9 rfl) (by rintro _ _ ⟨rfl, rfl⟩; exact ⟨[], rfl, trivial, rfl⟩)) rfl
 intro θ R hd
 obtain ⟨h1d, h3d, _⟩ := hd
 exact Opp.plain (OG.imp (OD.gtr rfl rfl rfl) (by rintro _ _ ⟨rfl, rfl⟩; exact ⟨[], congrArg Value.bool hg6, trivial, rfl⟩)) rfl
 intro θ R hd
 obtain ⟨h4d, _⟩ := hd
 exact Opp.plain (OG.imp (OD.move rfl rfl) (by rintro _ _ ⟨rfl, rfl⟩; exact ⟨[], rfl, trivial, rfl⟩)) rfl
 intro θ R hd
 obtain ⟨h5d, _⟩ := hd
 exact Opp.on (OG.imp (OD.move rfl rfl) (by rintro _ _ ⟨rfl, rfl⟩; exact ⟨[], rfl, trivial, rfl⟩)) rfl rfl rfl
 intro θ R hd
 obtain ⟨h5d, h6d, _⟩ := hd
 exact Opp.on (OG.imp (OD.addI rfl rfl rfl (by omega)) (by rintro _ _ ⟨rfl, rfl⟩; exact ⟨[], rfl, trivial, rfl⟩)) rfl rfl rfl
 intro θ R hd
 obtain ⟨h5d, _⟩ := hd
 exact Opp.on (OG.imp (OD.move rfl rfl) (by rintro _ _ ⟨rfl, rfl⟩; exact ⟨[], rfl, trivial, rfl⟩)) rfl rfl rfl
 intro θ R hd
 obtain ⟨h5d, h8d, _⟩ := hd
 exact Opp.on (OG.imp (OD.lenStr rfl rfl st9 rfl) (by rintro _ _ ⟨rfl, rfl⟩; exact ⟨[], rfl, trivial, rfl⟩)) rfl rfl rfl
 intro θ R hd
 obtain ⟨h5d, h7d, h9d, _⟩ := hd
 exact Opp.on (OG.imp (OD.lss rfl rfl rfl) (by rintro _ _ ⟨rfl, rfl⟩; exact ⟨[], congrArg Value.bool hg7, trivial, rfl⟩)) rfl rfl rfl
 intro θ R hd
 obtain ⟨h5d, h10d, _⟩ := hd
 exact Opp.on (OG.imp (OD.move rfl rfl) (by rintro _ _ ⟨rfl, rfl⟩; exact ⟨[], rfl, trivial, rfl⟩)) rfl rfl rfl
 intro θ R hd
 obtain ⟨h11d, _⟩ := hd
 exact Opp.on (OG.imp (OD.move rfl rfl) (by rintro _ _ ⟨rfl, rfl⟩; exact ⟨[], rfl, trivial, rfl⟩)) rfl rfl rfl
 intro θ R hd
 obtain ⟨h11d, _⟩ := hd
 exact Opp.on (OG.imp (OD.move rfl rfl) (by rintro _ _ ⟨rfl, rfl⟩; exact ⟨[], rfl, trivial, rfl⟩)) rfl rfl rfl
 intro θ R hd
 obtain ⟨h11d, h13d, _⟩ := hd
 exact Opp.on (OG.imp (OD.addI rfl rfl rfl (by omega)) (by rintro _ _ ⟨rfl, rfl⟩; exact ⟨[], rfl, trivial, rfl⟩)) rfl rfl rfl
 intro θ R hd
 obtain ⟨h11d, h12d, h14d, _⟩ := hd
 exact Opp.on (OG.imp (OD.indexStr rfl st9 rfl rfl (by omega)) (by rintro _ _ ⟨rfl, rfl⟩; exact ⟨[], rfl, trivial, rfl⟩)) rfl rfl rfl
 intro θ R hd
 obtain ⟨h11d, h15d, _⟩ := hd
 exact Opp.on (OG.imp (OD.neq rfl rfl rfl) (by rintro _ _ ⟨rfl, rfl⟩; exact ⟨[], congrArg Value.bool hg8, trivial, rfl⟩)) rfl rfl rfl
 intro θ R hd
 obtain ⟨h11d, h16d, _⟩ := hd
 exact Opp.on (OG.imp (OD.move rfl rfl) (by rintro _ _ ⟨rfl, rfl⟩; exact ⟨[], rfl, trivial, rfl⟩)) rfl rfl rfl
 intro θ R hd
 obtain ⟨h17d, _⟩ := hd
 exact Opp.off ⟨[], rfl, trivial, rfl⟩ rfl rfl rfl rfl
 intro θ R hd
 obtain ⟨h17d, h18d, _⟩ := hd
 exact Opp.off ⟨[], rfl, trivial, rfl⟩ rfl rfl rfl rfl
 intro θ R hd
 obtain ⟨h17d, _⟩ := hd
 exact Opp.off ⟨[], rfl, trivial, rfl⟩ rfl rfl rfl rfl
 intro θ R hd
 obtain ⟨h17d, h20d, _⟩ := hd
 exact Opp.off ⟨[], rfl, trivial, rfl⟩ rfl rfl rfl rfl
 intro θ R hd
 obtain ⟨h17d, h19d, h21d, _⟩ := hd
 exact Opp.off ⟨[], rfl, trivial, rfl⟩ rfl rfl rfl rfl
 intro θ R hd
 obtain ⟨h11d, h17d, h22d, _⟩ := hd
 exact Opp.on (OG.imp (OD.pickT rfl rfl rfl) (by rintro _ _ ⟨rfl, rfl⟩; exact ⟨[], rfl, trivial, rfl⟩)) rfl rfl rfl
 intro θ R hd
 obtain ⟨h5d, h11d, h23d, _⟩ := hd
 exact Opp.on (OG.imp (OD.pickT rfl rfl rfl) (by rintro _ _ ⟨rfl, rfl⟩; exact ⟨[], rfl, trivial, rfl⟩)) rfl rfl rfl
 intro θ R hd
 obtain ⟨h5d, h24d, _⟩ := hd
 exact Opp.plain (OG.imp (OD.pickF rfl rfl rfl) (by rintro _ _ ⟨rfl, rfl⟩; exact ⟨[], rfl, trivial, rfl⟩)) rfl
 intro θ R hd
 obtain ⟨h25d, _⟩ := hd
 exact Opp.plain (OG.imp (OD.move rfl rfl) (by rintro _ _ ⟨rfl, rfl⟩; exact ⟨[], rfl, trivial, rfl⟩)) rfl
 intro θ R hd
 obtain ⟨h26d, _⟩ := hd
 exact Opp.off ⟨[], rfl, trivial, rfl⟩ rfl rfl rfl rfl
 intro θ R hd
 obtain ⟨h26d, _⟩ := hd
 exact Opp.off ⟨[], rfl, trivial, rfl⟩ rfl rfl rfl rfl
 intro θ R hd
 obtain ⟨h26d, _⟩ := hd
 exact Opp.off ⟨[], rfl, trivial, rfl⟩ rfl rfl rfl rfl
 intro θ R hd
 obtain ⟨h26d, _⟩ := hd
 exact Opp.off ⟨[], rfl, trivial, rfl⟩ rfl rfl rfl rfl
 intro θ R hd
 obtain ⟨h26d, h30d, _⟩ := hd
 exact Opp.off ⟨[], rfl, trivial, rfl⟩ rfl rfl rfl rfl
 intro θ R hd
 obtain ⟨h26d, h28d, h29d, h31d, _⟩ := hd
 exact Opp.off ⟨[], rfl, trivial, rfl⟩ rfl rfl rfl rfl
 intro θ R hd
 obtain ⟨h26d, h27d, h32d, _⟩ := hd
 exact Opp.off ⟨[], rfl, trivial, rfl⟩ rfl rfl rfl rfl
 intro θ R hd
 obtain ⟨h26d, h33d, _⟩ := hd
 exact Opp.off ⟨[], rfl, trivial, rfl⟩ rfl rfl rfl rfl
 intro θ R hd
 obtain ⟨h26d, h34d, _⟩ := hd
 exact Opp.plain (OG.imp (OD.pickT rfl rfl rfl) (by rintro _ _ ⟨rfl, rfl⟩; exact ⟨[], rfl, trivial, rfl⟩)) rfl
 intro θ hall
 obtain ⟨_, _, _, _, _, _, _, _, _, _, _, _, _, _, _, _, _, _, _, _, _, _, _, _, _, _, _, _, _, _, _, _, _, _, _, _, _⟩ := hall
 refine G.at [] 0 (env' := [(0, .string (s)), (2, .pointer (some ⟨g1, 0, none⟩)), (4, .pointer (some ⟨g4, 0, none⟩)), (5, .int .i64 (3 * (ks.length : Int))), (49, .bool true)]) ⟨rfl, rfl, rfl, rfl, rfl, trivial⟩ (own' := box g4 24 [.int .i64 (r), v] :: ints 3 v d :: box g1 24 [.int .i64 (0), .slice none 0 0] :: own) rfl ?_
 show G _ _ _ [] _ _ _ _
 refine G.nil (GE.then_ (GC.condT rfl ?_))
 obtain ⟨hp1, hp2, hp3⟩ := cF_none (hsc.bad (by omega) (by first | exact .inl (by omega) | exact .inr (.inl ⟨by omega, .inl (by assumption)⟩) | exact .inr (.inl ⟨by omega, .inr (by omega)⟩) | exact .inr (.inr (by assumption))))
 refine GC.seq (GC.region ?_)
 refine G.stepD (OD.build (idx := []) (xs := []) (vs := []) (cs := []) (zs := [.int .i64 (0), .slice none 0 0]) (r := [.int .i64 (0), .slice none 0 0]) rfl ti24 rfl rfl rfl trivial rfl) rfl rfl rfl ?_
 refine G.stepD0 (OD.store rfl ti24 rfl rfl (us := [.int .i64 (0), .slice none 0 0]) rfl rfl rfl (i := 2) rfl rfl) rfl rfl ?_
 refine G.stepD (OD.assign rfl rfl) rfl rfl rfl ?_
 refine G.nil (GE.then_ (GC.ret (GE.passR (GE.blockR (GE.passR (GE.passR (GE.blockR (GE.passR ?_))))))))
 refine GE.nilInts 3 ?_
 exact GE.body [0] 3 (resN rfl (RVs.cons (rv_cells ti24 rfl (i := 3) rfl rfl) (RVs.cons (rv_tmp rfl) RVs.nil)) rfl) rfl (⟨(.slice none 0 0), congr (congrArg (fun (a0 : Int) (a2 : Bool) => (.tuple #[.agg #[.int .i64 (a0), (.slice none 0 0)], .bool (a2)] : Value)) ((hp1.symm : (0 : Int) = cR s))) ((hp3.symm : (false : Bool) = (cF s).isSome)), IsS.nil, congrArg (fun (l0 : List Int) => ints 3 (.slice none 0 0) l0 :: own) ((hp2.symm : [] = cD s))⟩)
 have hg8p := hg8
 replace hg8p := eq_of_bne_false hg8p
 rcases Bool.eq_false_or_eq_true (((3 * (ks.length : Int)) + 3) == (s.size : Nat)) with hg9 | hg9
 have hg9p := hg9
 replace hg9p := eq_of_beq hg9p
 refine GC.at [] 0 (env' := [(0, .string (s)), (2, .pointer (some ⟨g1, 0, none⟩)), (4, .pointer (some ⟨g4, 0, none⟩)), (5, .int .i64 (3 * (ks.length : Int)))]) ⟨rfl, rfl, rfl, rfl, trivial⟩ rfl ?_
 refine GC.par (its := [⟨14, [], [], [], [], fun _ => .int .i64 (3 * (ks.length : Int)), fun _ => True, fun _ => []⟩,
     ⟨15, [(0, 14)], [], [], [], fun _ => .int .i64 ((3 * (ks.length : Int)) + 2), fun _ => True, fun _ => []⟩,
     ⟨16, [], [], [], [], fun _ => .string (s), fun _ => True, fun _ => []⟩,
     ⟨17, [(2, 16)], [], [], [], fun _ => .int .i64 ((s.size : Nat)), fun _ => True, fun _ => []⟩,
     ⟨18, [(1, 15), (3, 17)], [], [], [], fun _ => .bool false, fun _ => True, fun _ => []⟩,
     ⟨19, [(4, 18)], [], [], [], fun _ => .bool false, fun _ => True, fun _ => []⟩,
     ⟨20, [(5, 19)], [], [], [], fun _ => .int .i64 (3 * (ks.length : Int)), fun _ => True, fun _ => []⟩,
     ⟨21, [(5, 19), (6, 20)], [], [], [], fun _ => .int .i64 ((3 * (ks.length : Int)) + 2), fun _ => True, fun _ => []⟩,
     ⟨22, [(5, 19)], [], [], [], fun _ => .string (s), fun _ => True, fun _ => []⟩,
     ⟨23, [(5, 19), (8, 22)], [], [], [], fun _ => .int .i64 ((s.size : Nat)), fun _ => True, fun _ => []⟩,
     ⟨24, [(5, 19), (7, 21), (9, 23)], [], [], [], fun _ => .bool true, fun _ => True, fun _ => []⟩,
     ⟨25, [(5, 19), (10, 24)], [], [], [], fun _ => .bool true, fun _ => True, fun _ => []⟩,
     ⟨26, [(11, 25)], [], [], [], fun _ => .string (s), fun _ => True, fun _ => []⟩,
     ⟨27, [(11, 25)], [], [], [], fun _ => .int .i64 (3 * (ks.length : Int)), fun _ => True, fun _ => []⟩,
     ⟨28, [(11, 25), (13, 27)], [], [], [], fun _ => .int .i64 ((3 * (ks.length : Int)) + 2), fun _ => True, fun _ => []⟩,
     ⟨29, [(11, 25), (12, 26), (14, 28)], [], [], [], fun _ => .int .u8 (bAt s (((3 * (ks.length : Int)) + 2 : Int).toNat)), fun _ => True, fun _ => []⟩,
     ⟨30, [(11, 25), (15, 29)], [], [], [], fun _ => .bool false, fun _ => True, fun _ => []⟩,
     ⟨31, [(11, 25), (16, 30)], [], [], [], fun _ => .bool false, fun _ => True, fun _ => []⟩,
     ⟨32, [(17, 31)], [], [], [], fun _ => .int .i64 (3 * (ks.length : Int)), fun _ => True, fun _ => []⟩,
     ⟨33, [(17, 31), (18, 32)], [], [], [], fun _ => .int .i64 ((3 * (ks.length : Int)) + 3), fun _ => True, fun _ => []⟩,
     ⟨34, [(17, 31)], [], [], [], fun _ => .string (s), fun _ => True, fun _ => []⟩,
     ⟨35, [(17, 31), (20, 34)], [], [], [], fun _ => .int .i64 ((s.size : Nat)), fun _ => True, fun _ => []⟩,
     ⟨36, [(17, 31), (19, 33), (21, 35)], [], [], [], fun _ => .bool true, fun _ => True, fun _ => []⟩,
     ⟨37, [(11, 25), (17, 31), (22, 36)], [], [], [], fun _ => .bool true, fun _ => True, fun _ => []⟩,
     ⟨38, [(5, 19), (11, 25), (23, 37)], [], [], [], fun _ => .bool true, fun _ => True, fun _ => []⟩,
     ⟨39, [(5, 19), (24, 38)], [], [], [], fun _ => .bool true, fun _ => True, fun _ => []⟩,
     ⟨40, [(25, 39)], [], [], [], fun _ => .bool true, fun _ => True, fun _ => []⟩,
     ⟨41, [(26, 40)], [], [], [], fun _ => undef, fun _ => True, fun _ => []⟩,
     ⟨42, [(26, 40)], [], [], [], fun _ => undef, fun _ => True, fun _ => []⟩,
     ⟨43, [(26, 40)], [], [], [], fun _ => undef, fun _ => True, fun _ => []⟩,
     ⟨44, [(26, 40)], [], [], [], fun _ => undef, fun _ => True, fun _ => []⟩,
     ⟨45, [(26, 40), (30, 44)], [], [], [], fun _ => undef, fun _ => True, fun _ => []⟩,
     ⟨46, [(26, 40), (28, 42), (29, 43), (31, 45)], [], [], [], fun _ => undef, fun _ => True, fun _ => []⟩,
     ⟨47, [(26, 40), (27, 41), (32, 46)], [], [], [], fun _ => undef, fun _ => True, fun _ => []⟩,
     ⟨48, [(26, 40), (33, 47)], [], [], [], fun _ => undef, fun _ => True, fun _ => []⟩,
     ⟨49, [(26, 40), (34, 48)], [], [], [], fun _ => .bool true, fun _ => True, fun _ => []⟩]) (by kernel_rfl) (by kernel_rfl) (POps.cons ?_ (POps.cons ?_ (POps.cons ?_ (POps.cons ?_ (POps.cons ?_ (POps.cons ?_ (POps.cons ?_ (POps.cons ?_ (POps.cons ?_ (POps.cons ?_ (POps.cons ?_ (POps.cons ?_ (POps.cons ?_ (POps.cons ?_ (POps.cons ?_ (POps.cons ?_ (POps.cons ?_ (POps.cons ?_ (POps.cons ?_ (POps.cons ?_ (POps.cons ?_ (POps.cons ?_ (POps.cons ?_ (POps.cons ?_ (POps.cons ?_ (POps.cons ?_ (POps.cons ?_ (POps.cons ?_ (POps.cons ?_ (POps.cons ?_ (POps.cons ?_ (POps.cons ?_ (POps.cons ?_ (POps.cons ?_ (POps.cons ?_ (POps.cons ?_ POps.nil)))))))))))))))))))))))))))))))))))) ?_
 intro θ R hd
 exact Opp.plain (OG.imp (OD.move rfl rfl) (by rintro _ _ ⟨rfl, rfl⟩; exact ⟨[], rfl, trivial, rfl⟩)) rfl
 intro θ R hd
 obtain ⟨h0d, _⟩ := hd
 exact Opp.plain (OG.imp (OD.addI rfl rfl rfl (by omega)) (by rintro _ _ ⟨rfl, rfl⟩; exact ⟨[], rfl, trivial, rfl⟩)) rfl
 intro θ R hd
 exact Opp.plain (OG.imp (OD.move rfl rfl) (by rintro _ _ ⟨rfl, rfl⟩; exact ⟨[], rfl, trivial, rfl⟩)) rfl
 intro θ R hd
 obtain ⟨h2d, _⟩ := hd
 exact Opp.plain (OG.imp (OD.lenStr rfl rfl st9 rfl) (by rintro _ _ ⟨rfl, rfl⟩; exact ⟨[], rfl, trivial, rfl⟩)) rfl
 intro θ R hd
 obtain ⟨h1d, h3d, _⟩ := hd
 exact Opp.plain (OG.imp (OD.gtr rfl rfl rfl) (by rintro _ _ ⟨rfl, rfl⟩; exact ⟨[], congrArg Value.bool hg6, trivial, rfl⟩)) rfl
 intro θ R hd
 obtain ⟨h4d, _⟩ := hd
 exact Opp.plain (OG.imp (OD.move rfl rfl) (by rintro _ _ ⟨rfl, rfl⟩; exact ⟨[], rfl, trivial, rfl⟩)) rfl
 intro θ R hd
 obtain ⟨h5d, _⟩ := hd
 exact Opp.on (OG.imp (OD.move rfl rfl) (by rintro _ _ ⟨rfl, rfl⟩; exact ⟨[], rfl, trivial, rfl⟩)) rfl rfl rfl
 intro θ R hd
 obtain ⟨h5d, h6d, _⟩ := hd
 exact Opp.on (OG.imp (OD.addI rfl rfl rfl (by omega)) (by rintro _ _ ⟨rfl, rfl⟩; exact ⟨[], rfl, trivial, rfl⟩)) rfl rfl rfl
 intro θ R hd
 obtain ⟨h5d, _⟩ := hd
 exact Opp.on (OG.imp (OD.move rfl rfl) (by rintro _ _ ⟨rfl, rfl⟩; exact ⟨[], rfl, trivial, rfl⟩)) rfl rfl rfl
 intro θ R hd
 obtain ⟨h5d, h8d, _⟩ := hd
 exact Opp.on (OG.imp (OD.lenStr rfl rfl st9 rfl) (by rintro _ _ ⟨rfl, rfl⟩; exact ⟨[], rfl, trivial, rfl⟩)) rfl rfl rfl
 intro θ R hd
 obtain ⟨h5d, h7d, h9d, _⟩ := hd
 exact Opp.on (OG.imp (OD.lss rfl rfl rfl) (by rintro _ _ ⟨rfl, rfl⟩; exact ⟨[], congrArg Value.bool hg7, trivial, rfl⟩)) rfl rfl rfl
 intro θ R hd
 obtain ⟨h5d, h10d, _⟩ := hd
 exact Opp.on (OG.imp (OD.move rfl rfl) (by rintro _ _ ⟨rfl, rfl⟩; exact ⟨[], rfl, trivial, rfl⟩)) rfl rfl rfl
 intro θ R hd
 obtain ⟨h11d, _⟩ := hd
 exact Opp.on (OG.imp (OD.move rfl rfl) (by rintro _ _ ⟨rfl, rfl⟩; exact ⟨[], rfl, trivial, rfl⟩)) rfl rfl rfl
 intro θ R hd
 obtain ⟨h11d, _⟩ := hd
 exact Opp.on (OG.imp (OD.move rfl rfl) (by rintro _ _ ⟨rfl, rfl⟩; exact ⟨[], rfl, trivial, rfl⟩)) rfl rfl rfl
 intro θ R hd
 obtain ⟨h11d, h13d, _⟩ := hd
 exact Opp.on (OG.imp (OD.addI rfl rfl rfl (by omega)) (by rintro _ _ ⟨rfl, rfl⟩; exact ⟨[], rfl, trivial, rfl⟩)) rfl rfl rfl
 intro θ R hd
 obtain ⟨h11d, h12d, h14d, _⟩ := hd
 exact Opp.on (OG.imp (OD.indexStr rfl st9 rfl rfl (by omega)) (by rintro _ _ ⟨rfl, rfl⟩; exact ⟨[], rfl, trivial, rfl⟩)) rfl rfl rfl
 intro θ R hd
 obtain ⟨h11d, h15d, _⟩ := hd
 exact Opp.on (OG.imp (OD.neq rfl rfl rfl) (by rintro _ _ ⟨rfl, rfl⟩; exact ⟨[], congrArg Value.bool hg8, trivial, rfl⟩)) rfl rfl rfl
 intro θ R hd
 obtain ⟨h11d, h16d, _⟩ := hd
 exact Opp.on (OG.imp (OD.move rfl rfl) (by rintro _ _ ⟨rfl, rfl⟩; exact ⟨[], rfl, trivial, rfl⟩)) rfl rfl rfl
 intro θ R hd
 obtain ⟨h17d, _⟩ := hd
 exact Opp.on (OG.imp (OD.move rfl rfl) (by rintro _ _ ⟨rfl, rfl⟩; exact ⟨[], rfl, trivial, rfl⟩)) rfl rfl rfl
 intro θ R hd
 obtain ⟨h17d, h18d, _⟩ := hd
 exact Opp.on (OG.imp (OD.addI rfl rfl rfl (by omega)) (by rintro _ _ ⟨rfl, rfl⟩; exact ⟨[], rfl, trivial, rfl⟩)) rfl rfl rfl
 intro θ R hd
 obtain ⟨h17d, _⟩ := hd
 exact Opp.on (OG.imp (OD.move rfl rfl) (by rintro _ _ ⟨rfl, rfl⟩; exact ⟨[], rfl, trivial, rfl⟩)) rfl rfl rfl
 intro θ R hd
 obtain ⟨h17d, h20d, _⟩ := hd
 exact Opp.on (OG.imp (OD.lenStr rfl rfl st9 rfl) (by rintro _ _ ⟨rfl, rfl⟩; exact ⟨[], rfl, trivial, rfl⟩)) rfl rfl rfl
 intro θ R hd
 obtain ⟨h17d, h19d, h21d, _⟩ := hd
 exact Opp.on (OG.imp (OD.eql rfl rfl rfl) (by rintro _ _ ⟨rfl, rfl⟩; exact ⟨[], congrArg Value.bool hg9, trivial, rfl⟩)) rfl rfl rfl
 intro θ R hd
 obtain ⟨h11d, h17d, h22d, _⟩ := hd
 exact Opp.on (OG.imp (OD.pickF rfl rfl rfl) (by rintro _ _ ⟨rfl, rfl⟩; exact ⟨[], rfl, trivial, rfl⟩)) rfl rfl rfl
 intro θ R hd
 obtain ⟨h5d, h11d, h23d, _⟩ := hd
 exact Opp.on (OG.imp (OD.pickT rfl rfl rfl) (by rintro _ _ ⟨rfl, rfl⟩; exact ⟨[], rfl, trivial, rfl⟩)) rfl rfl rfl
 intro θ R hd
 obtain ⟨h5d, h24d, _⟩ := hd
 exact Opp.plain (OG.imp (OD.pickF rfl rfl rfl) (by rintro _ _ ⟨rfl, rfl⟩; exact ⟨[], rfl, trivial, rfl⟩)) rfl
 intro θ R hd
 obtain ⟨h25d, _⟩ := hd
 exact Opp.plain (OG.imp (OD.move rfl rfl) (by rintro _ _ ⟨rfl, rfl⟩; exact ⟨[], rfl, trivial, rfl⟩)) rfl
 intro θ R hd
 obtain ⟨h26d, _⟩ := hd
 exact Opp.off ⟨[], rfl, trivial, rfl⟩ rfl rfl rfl rfl
 intro θ R hd
 obtain ⟨h26d, _⟩ := hd
 exact Opp.off ⟨[], rfl, trivial, rfl⟩ rfl rfl rfl rfl
 intro θ R hd
 obtain ⟨h26d, _⟩ := hd
 exact Opp.off ⟨[], rfl, trivial, rfl⟩ rfl rfl rfl rfl
 intro θ R hd
 obtain ⟨h26d, _⟩ := hd
 exact Opp.off ⟨[], rfl, trivial, rfl⟩ rfl rfl rfl rfl
 intro θ R hd
 obtain ⟨h26d, h30d, _⟩ := hd
 exact Opp.off ⟨[], rfl, trivial, rfl⟩ rfl rfl rfl rfl
 intro θ R hd
 obtain ⟨h26d, h28d, h29d, h31d, _⟩ := hd
 exact Opp.off ⟨[], rfl, trivial, rfl⟩ rfl rfl rfl rfl
 intro θ R hd
 obtain ⟨h26d, h27d, h32d, _⟩ := hd
 exact Opp.off ⟨[], rfl, trivial, rfl⟩ rfl rfl rfl rfl
 intro θ R hd
 obtain ⟨h26d, h33d, _⟩ := hd
 exact Opp.off ⟨[], rfl, trivial, rfl⟩ rfl rfl rfl rfl
 intro θ R hd
 obtain ⟨h26d, h34d, _⟩ := hd
 exact Opp.plain (OG.imp (OD.pickT rfl rfl rfl) (by rintro _ _ ⟨rfl, rfl⟩; exact ⟨[], rfl, trivial, rfl⟩)) rfl
 intro θ hall
 obtain ⟨_, _, _, _, _, _, _, _, _, _, _, _, _, _, _, _, _, _, _, _, _, _, _, _, _, _, _, _, _, _, _, _, _, _, _, _, _⟩ := hall
 refine G.at [] 0 (env' := [(0, .string (s)), (2, .pointer (some ⟨g1, 0, none⟩)), (4, .pointer (some ⟨g4, 0, none⟩)), (5, .int .i64 (3 * (ks.length : Int))), (49, .bool true)]) ⟨rfl, rfl, rfl, rfl, rfl, trivial⟩ (own' := box g4 24 [.int .i64 (r), v] :: ints 3 v d :: box g1 24 [.int .i64 (0), .slice none 0 0] :: own) rfl ?_
 show G _ _ _ [] _ _ _ _
 refine G.nil (GE.then_ (GC.condT rfl ?_))
 obtain ⟨hp1, hp2, hp3⟩ := cF_none (hsc.bad (by omega) (by first | exact .inl (by omega) | exact .inr (.inl ⟨by omega, .inl (by assumption)⟩) | exact .inr (.inl ⟨by omega, .inr (by omega)⟩) | exact .inr (.inr (by assumption))))
 refine GC.seq (GC.region ?_)
 refine G.stepD (OD.build (idx := []) (xs := []) (vs := []) (cs := []) (zs := [.int .i64 (0), .slice none 0 0]) (r := [.int .i64 (0), .slice none 0 0]) rfl ti24 rfl rfl rfl trivial rfl) rfl rfl rfl ?_
 refine G.stepD0 (OD.store rfl ti24 rfl rfl (us := [.int .i64 (0), .slice none 0 0]) rfl rfl rfl (i := 2) rfl rfl) rfl rfl ?_
 refine G.stepD (OD.assign rfl rfl) rfl rfl rfl ?_
 refine G.nil (GE.then_ (GC.ret (GE.passR (GE.blockR (GE.passR (GE.passR (GE.blockR (GE.passR ?_))))))))
 refine GE.nilInts 3 ?_
 exact GE.body [0] 3 (resN rfl (RVs.cons (rv_cells ti24 rfl (i := 3) rfl rfl) (RVs.cons (rv_tmp rfl) RVs.nil)) rfl) rfl (⟨(.slice none 0 0), congr (congrArg (fun (a0 : Int) (a2 : Bool) => (.tuple #[.agg #[.int .i64 (a0), (.slice none 0 0)], .bool (a2)] : Value)) ((hp1.symm : (0 : Int) = cR s))) ((hp3.symm : (false : Bool) = (cF s).isSome)), IsS.nil, congrArg (fun (l0 : List Int) => ints 3 (.slice none 0 0) l0 :: own) ((hp2.symm : [] = cD s))⟩)
 have hg9p := hg9
 replace hg9p := ne_of_beq_false hg9p
 refine GC.at [] 0 (env' := [(0, .string (s)), (2, .pointer (some ⟨g1, 0, none⟩)), (4, .pointer (some ⟨g4, 0, none⟩)), (5, .int .i64 (3 * (ks.length : Int)))]) ⟨rfl, rfl, rfl, rfl, trivial⟩ rfl ?_
 refine GC.par (its := [⟨14, [], [], [], [], fun _ => .int .i64 (3 * (ks.length : Int)), fun _ => True, fun _ => []⟩,
     ⟨15, [(0, 14)], [], [], [], fun _ => .int .i64 ((3 * (ks.length : Int)) + 2), fun _ => True, fun _ => []⟩,
     ⟨16, [], [], [], [], fun _ => .string (s), fun _ => True, fun _ => []⟩,
     ⟨17, [(2, 16)], [], [], [], fun _ => .int .i64 ((s.size : Nat)), fun _ => True, fun _ => []⟩,
     ⟨18, [(1, 15), (3, 17)], [], [], [], fun _ => .bool false, fun _ => True, fun _ => []⟩,
     ⟨19, [(4, 18)], [], [], [], fun _ => .bool false, fun _ => True, fun _ => []⟩,
     ⟨20, [(5, 19)], [], [], [], fun _ => .int .i64 (3 * (ks.length : Int)), fun _ => True, fun _ => []⟩,
     ⟨21, [(5, 19), (6, 20)], [], [], [], fun _ => .int .i64 ((3 * (ks.length : Int)) + 2), fun _ => True, fun _ => []⟩,
     ⟨22, [(5, 19)], [], [], [], fun _ => .string (s), fun _ => True, fun _ => []⟩,
     ⟨23, [(5, 19), (8, 22)], [], [], [], fun _ => .int .i64 ((s.size : Nat)), fun _ => True, fun _ => []⟩,
     ⟨24, [(5, 19), (7, 21), (9, 23)], [], [], [], fun _ => .bool true, fun _ => True, fun _ => []⟩,
     ⟨25, [(5, 19), (10, 24)], [], [], [], fun _ => .bool true, fun _ => True, fun _ => []⟩,
     ⟨26, [(11, 25)], [], [], [], fun _ => .string (s), fun _ => True, fun _ => []⟩,
     ⟨27, [(11, 25)], [], [], [], fun _ => .int .i64 (3 * (ks.length : Int)), fun _ => True, fun _ => []⟩,
     ⟨28, [(11, 25), (13, 27)], [], [], [], fun _ => .int .i64 ((3 * (ks.length : Int)) + 2), fun _ => True, fun _ => []⟩,
     ⟨29, [(11, 25), (12, 26), (14, 28)], [], [], [], fun _ => .int .u8 (bAt s (((3 * (ks.length : Int)) + 2 : Int).toNat)), fun _ => True, fun _ => []⟩,
     ⟨30, [(11, 25), (15, 29)], [], [], [], fun _ => .bool false, fun _ => True, fun _ => []⟩,
     ⟨31, [(11, 25), (16, 30)], [], [], [], fun _ => .bool false, fun _ => True, fun _ => []⟩,
     ⟨32, [(17, 31)], [], [], [], fun _ => .int .i64 (3 * (ks.length : Int)), fun _ => True, fun _ => []⟩,
     ⟨33, [(17, 31), (18, 32)], [], [], [], fun _ => .int .i64 ((3 * (ks.length : Int)) + 3), fun _ => True, fun _ => []⟩,
     ⟨34, [(17, 31)], [], [], [], fun _ => .string (s), fun _ => True, fun _ => []⟩,
     ⟨35, [(17, 31), (20, 34)], [], [], [], fun _ => .int .i64 ((s.size : Nat)), fun _ => True, fun _ => []⟩,
     ⟨36, [(17, 31), (19, 33), (21, 35)], [], [], [], fun _ => .bool false, fun _ => True, fun _ => []⟩,
     ⟨37, [(11, 25), (17, 31), (22, 36)], [], [], [], fun _ => .bool false, fun _ => True, fun _ => []⟩,
     ⟨38, [(5, 19), (11, 25), (23, 37)], [], [], [], fun _ => .bool false, fun _ => True, fun _ => []⟩,
     ⟨39, [(5, 19), (24, 38)], [], [], [], fun _ => .bool false, fun _ => True, fun _ => []⟩,
     ⟨40, [(25, 39)], [], [], [], fun _ => .bool false, fun _ => True, fun _ => []⟩,
     ⟨41, [(26, 40)], [], [], [27], fun ds => ((ds.getD 0 []).getD 0 undef), fun ds => IsS ((ds.getD 0 []).getD 0 undef), fun ds => [strs 9 ((ds.getD 0 []).getD 0 undef) nameL]⟩,
     ⟨42, [(26, 40)], [], [], [], fun _ => .string (s), fun _ => True, fun _ => []⟩,
     ⟨43, [(26, 40)], [], [], [], fun _ => .int .i64 (3 * (ks.length : Int)), fun _ => True, fun _ => []⟩,
     ⟨44, [(26, 40)], [], [], [], fun _ => .int .i64 (3 * (ks.length : Int)), fun _ => True, fun _ => []⟩,
     ⟨45, [(26, 40), (30, 44)], [], [], [], fun _ => .int .i64 ((3 * (ks.length : Int)) + 2), fun _ => True, fun _ => []⟩,
     ⟨46, [(26, 40), (28, 42), (29, 43), (31, 45)], [], [], [], fun _ => .string (s.extract ((3 * (ks.length : Int) : Int).toNat) (((3 * (ks.length : Int)) + 2 : Int).toNat)), fun _ => True, fun _ => []⟩,
     ⟨47, [(26, 40), (27, 41), (32, 46)], [27], [], [27], fun _ => .bool (hasS nameL (s.extract ((3 * (ks.length : Int) : Int).toNat) (((3 * (ks.length : Int)) + 2 : Int).toNat))), fun _ => True, fun _ => []⟩,
     ⟨48, [(26, 40), (33, 47)], [27], [], [27], fun _ => .bool (!(hasS nameL (s.extract ((3 * (ks.length : Int) : Int).toNat) (((3 * (ks.length : Int)) + 2 : Int).toNat)))), fun _ => True, fun _ => []⟩,
     ⟨49, [(26, 40), (34, 48)], [27], [], [27], fun _ => .bool (!(hasS nameL (s.extract ((3 * (ks.length : Int) : Int).toNat) (((3 * (ks.length : Int)) + 2 : Int).toNat)))), fun _ => True, fun _ => []⟩]) (by kernel_rfl) (by kernel_rfl) (POps.cons ?_ (POps.cons ?_ (POps.cons ?_ (POps.cons ?_ (POps.cons ?_ (POps.cons ?_ (POps.cons ?_ (POps.cons ?_ (POps.cons ?_ (POps.cons ?_ (POps.cons ?_ (POps.cons ?_ (POps.cons ?_ (POps.cons ?_ (POps.cons ?_ (POps.cons ?_ (POps.cons ?_ (POps.cons ?_ (POps.cons ?_ (POps.cons ?_ (POps.cons ?_ (POps.cons ?_ (POps.cons ?_ (POps.cons ?_ (POps.cons ?_ (POps.cons ?_ (POps.cons ?_ (POps.cons ?_ (POps.cons ?_ (POps.cons ?_ (POps.cons ?_ (POps.cons ?_ (POps.cons ?_ (POps.cons ?_ (POps.cons ?_ (POps.cons ?_ POps.nil)))))))))))))))))))))))))))))))))))) ?_
 intro θ R hd
 exact Opp.plain (OG.imp (OD.move rfl rfl) (by rintro _ _ ⟨rfl, rfl⟩; exact ⟨[], rfl, trivial, rfl⟩)) rfl
 intro θ R hd
 obtain ⟨h0d, _⟩ := hd
 exact Opp.plain (OG.imp (OD.addI rfl rfl rfl (by omega)) (by rintro _ _ ⟨rfl, rfl⟩; exact ⟨[], rfl, trivial, rfl⟩)) rfl
 intro θ R hd
 exact Opp.plain (OG.imp (OD.move rfl rfl) (by rintro _ _ ⟨rfl, rfl⟩; exact ⟨[], rfl, trivial, rfl⟩)) rfl
 intro θ R hd
 obtain ⟨h2d, _⟩ := hd
 exact Opp.plain (OG.imp (OD.lenStr rfl rfl st9 rfl) (by rintro _ _ ⟨rfl, rfl⟩; exact ⟨[], rfl, trivial, rfl⟩)) rfl
 intro θ R hd
 obtain ⟨h1d, h3d, _⟩ := hd
 exact Opp.plain (OG.imp (OD.gtr rfl rfl rfl) (by rintro _ _ ⟨rfl, rfl⟩; exact ⟨[], congrArg Value.bool hg6, trivial, rfl⟩)) rfl
 intro θ R hd
 obtain ⟨h4d, _⟩ := hd
 exact Opp.plain (OG.imp (OD.move rfl rfl) (by rintro _ _ ⟨rfl, rfl⟩; exact ⟨[], rfl, trivial, rfl⟩)) rfl
 intro θ R hd
 obtain ⟨h5d, _⟩ := hd
 exact Opp.on (OG.imp (OD.move rfl rfl) (by rintro _ _ ⟨rfl, rfl⟩; exact ⟨[], rfl, trivial, rfl⟩)) rfl rfl rfl
 intro θ R hd
 obtain ⟨h5d, h6d, _⟩ := hd
 exact Opp.on (OG.imp (OD.addI rfl rfl rfl (by omega)) (by rintro _ _ ⟨rfl, rfl⟩; exact ⟨[], rfl, trivial, rfl⟩)) rfl rfl rfl
 intro θ R hd
 obtain ⟨h5d, _⟩ := hd
 exact Opp.on (OG.imp (OD.move rfl rfl) (by rintro _ _ ⟨rfl, rfl⟩; exact ⟨[], rfl, trivial, rfl⟩)) rfl rfl rfl
 intro θ R hd
 obtain ⟨h5d, h8d, _⟩ := hd
 exact Opp.on (OG.imp (OD.lenStr rfl rfl st9 rfl) (by rintro _ _ ⟨rfl, rfl⟩; exact ⟨[], rfl, trivial, rfl⟩)) rfl rfl rfl
 intro θ R hd
 obtain ⟨h5d, h7d, h9d, _⟩ := hd
 exact Opp.on (OG.imp (OD.lss rfl rfl rfl) (by rintro _ _ ⟨rfl, rfl⟩; exact ⟨[], congrArg Value.bool hg7, trivial, rfl⟩)) rfl rfl rfl
 intro θ R hd
 obtain ⟨h5d, h10d, _⟩ := hd
 exact Opp.on (OG.imp (OD.move rfl rfl) (by rintro _ _ ⟨rfl, rfl⟩; exact ⟨[], rfl, trivial, rfl⟩)) rfl rfl rfl
 intro θ R hd
 obtain ⟨h11d, _⟩ := hd
 exact Opp.on (OG.imp (OD.move rfl rfl) (by rintro _ _ ⟨rfl, rfl⟩; exact ⟨[], rfl, trivial, rfl⟩)) rfl rfl rfl
 intro θ R hd
 obtain ⟨h11d, _⟩ := hd
 exact Opp.on (OG.imp (OD.move rfl rfl) (by rintro _ _ ⟨rfl, rfl⟩; exact ⟨[], rfl, trivial, rfl⟩)) rfl rfl rfl
 intro θ R hd
 obtain ⟨h11d, h13d, _⟩ := hd
 exact Opp.on (OG.imp (OD.addI rfl rfl rfl (by omega)) (by rintro _ _ ⟨rfl, rfl⟩; exact ⟨[], rfl, trivial, rfl⟩)) rfl rfl rfl
 intro θ R hd
 obtain ⟨h11d, h12d, h14d, _⟩ := hd
 exact Opp.on (OG.imp (OD.indexStr rfl st9 rfl rfl (by omega)) (by rintro _ _ ⟨rfl, rfl⟩; exact ⟨[], rfl, trivial, rfl⟩)) rfl rfl rfl
 intro θ R hd
 obtain ⟨h11d, h15d, _⟩ := hd
 exact Opp.on (OG.imp (OD.neq rfl rfl rfl) (by rintro _ _ ⟨rfl, rfl⟩; exact ⟨[], congrArg Value.bool hg8, trivial, rfl⟩)) rfl rfl rfl
 intro θ R hd
 obtain ⟨h11d, h16d, _⟩ := hd
 exact Opp.on (OG.imp (OD.move rfl rfl) (by rintro _ _ ⟨rfl, rfl⟩; exact ⟨[], rfl, trivial, rfl⟩)) rfl rfl rfl
 intro θ R hd
 obtain ⟨h17d, _⟩ := hd
 exact Opp.on (OG.imp (OD.move rfl rfl) (by rintro _ _ ⟨rfl, rfl⟩; exact ⟨[], rfl, trivial, rfl⟩)) rfl rfl rfl
 intro θ R hd
 obtain ⟨h17d, h18d, _⟩ := hd
 exact Opp.on (OG.imp (OD.addI rfl rfl rfl (by omega)) (by rintro _ _ ⟨rfl, rfl⟩; exact ⟨[], rfl, trivial, rfl⟩)) rfl rfl rfl
 intro θ R hd
 obtain ⟨h17d, _⟩ := hd
 exact Opp.on (OG.imp (OD.move rfl rfl) (by rintro _ _ ⟨rfl, rfl⟩; exact ⟨[], rfl, trivial, rfl⟩)) rfl rfl rfl
 intro θ R hd
 obtain ⟨h17d, h20d, _⟩ := hd
 exact Opp.on (OG.imp (OD.lenStr rfl rfl st9 rfl) (by rintro _ _ ⟨rfl, rfl⟩; exact ⟨[], rfl, trivial, rfl⟩)) rfl rfl rfl
 intro θ R hd
 obtain ⟨h17d, h19d, h21d, _⟩ := hd
 exact Opp.on (OG.imp (OD.eql rfl rfl rfl) (by rintro _ _ ⟨rfl, rfl⟩; exact ⟨[], congrArg Value.bool hg9, trivial, rfl⟩)) rfl rfl rfl
 intro θ R hd
 obtain ⟨h11d, h17d, h22d, _⟩ := hd
 exact Opp.on (OG.imp (OD.pickF rfl rfl rfl) (by rintro _ _ ⟨rfl, rfl⟩; exact ⟨[], rfl, trivial, rfl⟩)) rfl rfl rfl
 intro θ R hd
 obtain ⟨h5d, h11d, h23d, _⟩ := hd
 exact Opp.on (OG.imp (OD.pickT rfl rfl rfl) (by rintro _ _ ⟨rfl, rfl⟩; exact ⟨[], rfl, trivial, rfl⟩)) rfl rfl rfl
 intro θ R hd
 obtain ⟨h5d, h24d, _⟩ := hd
 exact Opp.plain (OG.imp (OD.pickF rfl rfl rfl) (by rintro _ _ ⟨rfl, rfl⟩; exact ⟨[], rfl, trivial, rfl⟩)) rfl
 intro θ R hd
 obtain ⟨h25d, _⟩ := hd
 exact Opp.plain (OG.imp (OD.move rfl rfl) (by rintro _ _ ⟨rfl, rfl⟩; exact ⟨[], rfl, trivial, rfl⟩)) rfl
 intro θ R hd
 obtain ⟨h26d, _⟩ := hd
 exact Opp.on (OG.imp (OG.call [] ent54 rfl rfl rfl rfl (by exact l5Names_w)) (by rintro v10 _ ⟨_, rfl, hs11, rfl⟩; exact ⟨[v10], rfl, hs11, rfl⟩)) rfl rfl rfl
 intro θ R hd
 obtain ⟨h26d, _⟩ := hd
 exact Opp.on (OG.imp (OD.move rfl rfl) (by rintro _ _ ⟨rfl, rfl⟩; exact ⟨[], rfl, trivial, rfl⟩)) rfl rfl rfl
 intro θ R hd
 obtain ⟨h26d, _⟩ := hd
 exact Opp.on (OG.imp (OD.move rfl rfl) (by rintro _ _ ⟨rfl, rfl⟩; exact ⟨[], rfl, trivial, rfl⟩)) rfl rfl rfl
 intro θ R hd
 obtain ⟨h26d, _⟩ := hd
 exact Opp.on (OG.imp (OD.move rfl rfl) (by rintro _ _ ⟨rfl, rfl⟩; exact ⟨[], rfl, trivial, rfl⟩)) rfl rfl rfl
 intro θ R hd
 obtain ⟨h26d, h30d, _⟩ := hd
 exact Opp.on (OG.imp (OD.addI rfl rfl rfl (by omega)) (by rintro _ _ ⟨rfl, rfl⟩; exact ⟨[], rfl, trivial, rfl⟩)) rfl rfl rfl
 intro θ R hd
 obtain ⟨h26d, h28d, h29d, h31d, _⟩ := hd
 exact Opp.on (OG.imp (OD.sliceStr rfl st9 rfl rfl rfl (by omega)) (by rintro _ _ ⟨rfl, rfl⟩; exact ⟨[], rfl, trivial, rfl⟩)) rfl rfl rfl
 intro θ R hd
 obtain ⟨h26d, h27d, h32d, _⟩ := hd
 exact Opp.on (OG.imp (OG.call [((θ 27).getD 0 undef), .string (s.extract ((3 * (ks.length : Int) : Int).toNat) (((3 * (ks.length : Int)) + 2 : Int).toNat))] ent53 rfl rfl rfl rfl (by exact (l5Has_w h27d (Ent.strs (i := 0) rfl) (by decide)))) (by rintro _ _ ⟨rfl, rfl⟩; exact ⟨[], rfl, trivial, rfl⟩)) rfl rfl rfl
 intro θ R hd
 obtain ⟨h26d, h33d, _⟩ := hd
 exact Opp.on (OG.imp (OD.not rfl rfl) (by rintro _ _ ⟨rfl, rfl⟩; exact ⟨[], rfl, trivial, rfl⟩)) rfl rfl rfl
 intro θ R hd
 obtain ⟨h26d, h34d, _⟩ := hd
 exact Opp.plain (OG.imp (OD.pickF rfl rfl rfl) (by rintro _ _ ⟨rfl, rfl⟩; exact ⟨[], rfl, trivial, rfl⟩)) rfl
 intro θ hall
 obtain ⟨_, _, _, _, _, _, _, _, _, _, _, _, _, _, _, _, _, _, _, _, _, _, _, _, _, _, _, h27a, _, _, _, _, _, _, _, _, _⟩ := hall
 refine G.at [] 0 (env' := [(0, .string (s)), (2, .pointer (some ⟨g1, 0, none⟩)), (4, .pointer (some ⟨g4, 0, none⟩)), (5, .int .i64 (3 * (ks.length : Int))), (49, .bool (!(hasS nameL (s.extract ((3 * (ks.length : Int) : Int).toNat) (((3 * (ks.length : Int)) + 2 : Int).toNat)))))]) ⟨rfl, rfl, rfl, rfl, rfl, trivial⟩ (own' := strs 9 ((θ 27).getD 0 undef) nameL :: box g4 24 [.int .i64 (r), v] :: ints 3 v d :: box g1 24 [.int .i64 (0), .slice none 0 0] :: own) rfl ?_
 have hs12 : IsS ((θ 27).getD 0 undef) := h27a
 clear h27a
 generalize ((θ 27).getD 0 undef) = v13 at *
 show G _ _ _ [] _ _ _ _
 refine G.nil (GE.then_ ?_)
 refine GC.cond rfl (fun hc14 => ?_) (fun hc14 => ?_)
 replace hc14 := eq_false_of_not hc14
 obtain ⟨hp1, hp2, hp3⟩ := cF_none (hsc.bad (by omega) (by first | exact .inl (by omega) | exact .inr (.inl ⟨by omega, .inl (by assumption)⟩) | exact .inr (.inl ⟨by omega, .inr (by omega)⟩) | exact .inr (.inr (by assumption))))
 refine GC.seq (GC.region ?_)
 refine G.stepD (OD.build (idx := []) (xs := []) (vs := []) (cs := []) (zs := [.int .i64 (0), .slice none 0 0]) (r := [.int .i64 (0), .slice none 0 0]) rfl ti24 rfl rfl rfl trivial rfl) rfl rfl rfl ?_
 refine G.stepD0 (OD.store rfl ti24 rfl rfl (us := [.int .i64 (0), .slice none 0 0]) rfl rfl rfl (i := 3) rfl rfl) rfl rfl ?_
 refine G.stepD (OD.assign rfl rfl) rfl rfl rfl ?_
 refine G.nil (GE.then_ (GC.ret (GE.passR (GE.blockR (GE.passR (GE.passR (GE.blockR (GE.passR ?_))))))))
 refine GE.nilInts 3 ?_
 exact GE.body [0] 4 (resN rfl (RVs.cons (rv_cells ti24 rfl (i := 4) rfl rfl) (RVs.cons (rv_tmp rfl) RVs.nil)) rfl) rfl (⟨(.slice none 0 0), congr (congrArg (fun (a0 : Int) (a2 : Bool) => (.tuple #[.agg #[.int .i64 (a0), (.slice none 0 0)], .bool (a2)] : Value)) ((hp1.symm : (0 : Int) = cR s))) ((hp3.symm : (false : Bool) = (cF s).isSome)), IsS.nil, congrArg (fun (l0 : List Int) => ints 3 (.slice none 0 0) l0 :: own) ((hp2.symm : [] = cD s))⟩)
 replace hc14 := eq_true_of_not hc14
 obtain ⟨k, hk⟩ := hasS_some hc14
 obtain ⟨hk12, hse⟩ := nameNo_some hk
 have hrk := rk_bd k hk12
 have hol := oneD_len k hk12
 have hgood : ¬ badP s (3 * (ks.length : Int)) := by rintro (h1 | ⟨h1, h2 | h2⟩ | h1) <;> first | omega | contradiction | (rw [hc14] at h1; cases h1)
 have hr4 := hsc.2.1
 have hml := matOf_len ks
 have hol2 : ((oneD k).length : Int) = (rk k : Int) * (rk k : Int) := by rw [hol]; exact Int.natCast_mul _ _
 refine GC.skip (GE.then_ (GC.seq ?_))
 refine GC.at [] 0 (env' := [(0, .string (s)), (2, .pointer (some ⟨g1, 0, none⟩)), (4, .pointer (some ⟨g4, 0, none⟩)), (5, .int .i64 (3 * (ks.length : Int)))]) ⟨rfl, rfl, rfl, rfl, trivial⟩ rfl ?_
 refine GC.par (its := [⟨51, [], [], [], [], fun _ => .agg #[.int .i64 (r), v], fun _ => True, fun _ => []⟩,
     ⟨52, [], [], [], [], fun _ => .string (s), fun _ => True, fun _ => []⟩,
     ⟨53, [], [], [], [], fun _ => .int .i64 (3 * (ks.length : Int)), fun _ => True, fun _ => []⟩,
     ⟨54, [], [], [], [], fun _ => .int .i64 (3 * (ks.length : Int)), fun _ => True, fun _ => []⟩,
     ⟨55, [(3, 54)], [], [], [], fun _ => .int .i64 ((3 * (ks.length : Int)) + 2), fun _ => True, fun _ => []⟩,
     ⟨56, [(1, 52), (2, 53), (4, 55)], [], [], [], fun _ => .string (s.extract ((3 * (ks.length : Int) : Int).toNat) (((3 * (ks.length : Int)) + 2 : Int).toNat)), fun _ => True, fun _ => []⟩,
     ⟨57, [(5, 56)], [], [], [6], fun ds => .agg #[.int .i64 ((rk k : Int)), ((ds.getD 0 []).getD 0 undef)], fun ds => IsS ((ds.getD 0 []).getD 0 undef), fun ds => [ints 3 ((ds.getD 0 []).getD 0 undef) (oneD k)]⟩,
     ⟨58, [(0, 51), (6, 57)], [6], [], [6, 7], fun ds => .agg #[.int .i64 (r + (rk k : Int)), ((ds.getD 1 []).getD 0 undef)], fun ds => IsS ((ds.getD 1 []).getD 0 undef), fun ds => [ints 3 ((ds.getD 1 []).getD 0 undef) (sumD r d (rk k : Int) (oneD k))]⟩]) (by kernel_rfl) (by kernel_rfl) (POps.cons ?_ (POps.cons ?_ (POps.cons ?_ (POps.cons ?_ (POps.cons ?_ (POps.cons ?_ (POps.cons ?_ (POps.cons ?_ POps.nil)))))))) ?_
 intro θ R hd
 exact Opp.plain (OG.imp (OD.loadAgg rfl ti24 rfl (i := 1) rfl (us := [.int .i64 (r), v]) rfl rfl) (by rintro _ _ ⟨rfl, rfl⟩; exact ⟨[], rfl, trivial, rfl⟩)) rfl
 intro θ R hd
 exact Opp.plain (OG.imp (OD.move rfl rfl) (by rintro _ _ ⟨rfl, rfl⟩; exact ⟨[], rfl, trivial, rfl⟩)) rfl
 intro θ R hd
 exact Opp.plain (OG.imp (OD.move rfl rfl) (by rintro _ _ ⟨rfl, rfl⟩; exact ⟨[], rfl, trivial, rfl⟩)) rfl
 intro θ R hd
 exact Opp.plain (OG.imp (OD.move rfl rfl) (by rintro _ _ ⟨rfl, rfl⟩; exact ⟨[], rfl, trivial, rfl⟩)) rfl
 intro θ R hd
 obtain ⟨h3d, _⟩ := hd
 exact Opp.plain (OG.imp (OD.addI rfl rfl rfl (by omega)) (by rintro _ _ ⟨rfl, rfl⟩; exact ⟨[], rfl, trivial, rfl⟩)) rfl
 intro θ R hd
 obtain ⟨h1d, h2d, h4d, _⟩ := hd
 exact Opp.plain (OG.imp (OD.sliceStr rfl st9 rfl rfl rfl (by omega)) (by rintro _ _ ⟨rfl, rfl⟩; exact ⟨[], rfl, trivial, rfl⟩)) rfl
 intro θ R hd
 obtain ⟨h5d, _⟩ := hd
 exact Opp.plain (OG.imp (OG.call [.string (s.extract ((3 * (ks.length : Int) : Int).toNat) (((3 * (ks.length : Int)) + 2 : Int).toNat))] ent56 rfl rfl rfl rfl (by exact (l5One_w (k := k) (hk12) (hse)))) (by rintro _ _ ⟨v15, rfl, hs16, rfl⟩; exact ⟨[v15], rfl, hs16, rfl⟩)) rfl
 intro θ R hd
 obtain ⟨h0d, h6d, _⟩ := hd
 exact Opp.plain (OG.imp (OG.call [.agg #[.int .i64 (r), v], .agg #[.int .i64 ((rk k : Int)), ((θ 6).getD 0 undef)]] ent55 rfl rfl rfl rfl (by exact (l5Sum_w hv (Ent.ints (i := 3) rfl) h6d (Ent.ints (i := 0) rfl) (⟨by omega, by omega, by rw [hd, hr]; exact hml⟩) (⟨by omega, by omega, hol2⟩)))) (by rintro _ _ ⟨v17, rfl, hs18, rfl⟩; exact ⟨[v17], rfl, hs18, rfl⟩)) rfl
 intro θ hall
 obtain ⟨_, _, _, _, _, _, h6a, h7a, _⟩ := hall
 refine G.at [] 0 (env' := [(0, .string (s)), (2, .pointer (some ⟨g1, 0, none⟩)), (4, .pointer (some ⟨g4, 0, none⟩)), (5, .int .i64 (3 * (ks.length : Int))), (58, .agg #[.int .i64 (r + (rk k : Int)), ((θ 7).getD 0 undef)])]) ⟨rfl, rfl, rfl, rfl, rfl, trivial⟩ (own' := ints 3 ((θ 6).getD 0 undef) (oneD k) :: ints 3 ((θ 7).getD 0 undef) (sumD r d (rk k : Int) (oneD k)) :: strs 9 v13 nameL :: box g4 24 [.int .i64 (r), v] :: ints 3 v d :: box g1 24 [.int .i64 (0), .slice none 0 0] :: own) rfl ?_
 have hs19 : IsS ((θ 6).getD 0 undef) := h6a
 clear h6a
 generalize ((θ 6).getD 0 undef) = v20 at *
 have hs21 : IsS ((θ 7).getD 0 undef) := h7a
 clear h7a
 generalize ((θ 7).getD 0 undef) = v22 at *
 show G _ _ _ [_] _ _ _ _
 refine G.stepD0 (OD.store rfl ti24 rfl rfl (us := [.int .i64 (r + (rk k : Int)), v22]) rfl rfl (allC rfl (allC (IsS.one hs21) rfl)) (i := 3) rfl rfl) rfl rfl ?_
 refine G.nil (GE.then_ (GC.seq (GC.region ?_)))
 refine G.stepD (OD.fieldAddr rfl rfl fa24_0) rfl rfl rfl ?_
 refine G.stepD (OD.load rfl ti3 rfl (i := 3) rfl rfl) rfl rfl rfl ?_
 refine G.stepD (OD.gtr rfl rfl rfl) rfl rfl rfl ?_
 refine G.nil (GE.then_ ?_)
 refine GC.cond rfl (fun hc23 => ?_) (fun hc23 => ?_)
 replace hc23 := of_decide_eq_true hc23
 obtain ⟨hp1, hp2, hp3⟩ := cF_none (hsc.big (by omega) hgood hk (by rw [rkS_snoc]; omega))
 refine GC.seq (GC.region ?_)
 refine G.stepD (OD.build (idx := []) (xs := []) (vs := []) (cs := []) (zs := [.int .i64 (0), .slice none 0 0]) (r := [.int .i64 (0), .slice none 0 0]) rfl ti24 rfl rfl rfl trivial rfl) rfl rfl rfl ?_
 refine G.stepD0 (OD.store rfl ti24 rfl rfl (us := [.int .i64 (0), .slice none 0 0]) rfl rfl rfl (i := 5) rfl rfl) rfl rfl ?_
 refine G.stepD (OD.assign rfl rfl) rfl rfl rfl ?_
 refine G.nil (GE.then_ (GC.ret (GE.blockR (GE.passR (GE.passR (GE.blockR (GE.passR ?_)))))))
 refine GE.nilInts 3 ?_
 exact GE.body [0] 6 (resN rfl (RVs.cons (rv_cells ti24 rfl (i := 6) rfl rfl) (RVs.cons (rv_tmp rfl) RVs.nil)) rfl) rfl (⟨(.slice none 0 0), congr (congrArg (fun (a0 : Int) (a2 : Bool) => (.tuple #[.agg #[.int .i64 (a0), (.slice none 0 0)], .bool (a2)] : Value)) ((hp1.symm : (0 : Int) = cR s))) ((hp3.symm : (false : Bool) = (cF s).isSome)), IsS.nil, congrArg (fun (l0 : List Int) => ints 3 (.slice none 0 0) l0 :: own) ((hp2.symm : [] = cD s))⟩)
 replace hc23 := of_decide_eq_false hc23
 refine GC.skip (GE.blockN (GE.then_ (GC.region ?_)))
 refine G.stepD (OD.move rfl rfl) rfl rfl rfl ?_
 refine G.stepD (OD.addI rfl rfl rfl (by omega)) rfl rfl rfl ?_
 refine G.stepD (OD.assign rfl rfl) rfl rfl rfl ?_
 refine G.nil ?_
 exact GE.again (ks ++ [k], r + (rk k : Int), sumD r d (rk k : Int) (oneD k), v22) (⟨hsc.next (by omega) hgood hk (by rw [rkS_snoc]; omega), by rw [hr, rkS_snoc]; simp, by rw [matOf_snoc, hd, hr]; simp only [matStep, matOf_fst], hs21⟩) (by simp; omega) ⟨rfl, rfl, rfl, int_eq (by simp; omega), trivial⟩ [3, 1, 3] 3 rfl
 have hg7p := hg7
 replace hg7p := of_decide_eq_false hg7p
 refine GC.at [] 0 (env' := [(0, .string (s)), (2, .pointer (some ⟨g1, 0, none⟩)), (4, .pointer (some ⟨g4, 0, none⟩)), (5, .int .i64 (3 * (ks.length : Int)))]) ⟨rfl, rfl, rfl, rfl, trivial⟩ rfl ?_
 refine GC.par (its := [⟨14, [], [], [], [], fun _ => .int .i64 (3 * (ks.length : Int)), fun _ => True, fun _ => []⟩,
     ⟨15, [(0, 14)], [], [], [], fun _ => .int .i64 ((3 * (ks.length : Int)) + 2), fun _ => True, fun _ => []⟩,
     ⟨16, [], [], [], [], fun _ => .string (s), fun _ => True, fun _ => []⟩,
     ⟨17, [(2, 16)], [], [], [], fun _ => .int .i64 ((s.size : Nat)), fun _ => True, fun _ => []⟩,
     ⟨18, [(1, 15), (3, 17)], [], [], [], fun _ => .bool false, fun _ => True, fun _ => []⟩,
     ⟨19, [(4, 18)], [], [], [], fun _ => .bool false, fun _ => True, fun _ => []⟩,
     ⟨20, [(5, 19)], [], [], [], fun _ => .int .i64 (3 * (ks.length : Int)), fun _ => True, fun _ => []⟩,
     ⟨21, [(5, 19), (6, 20)], [], [], [], fun _ => .int .i64 ((3 * (ks.length : Int)) + 2), fun _ => True, fun _ => []⟩,
     ⟨22, [(5, 19)], [], [], [], fun _ => .string (s), fun _ => True, fun _ => []⟩,
     ⟨23, [(5, 19), (8, 22)], [], [], [], fun _ => .int .i64 ((s.size : Nat)), fun _ => True, fun _ => []⟩,
     ⟨24, [(5, 19), (7, 21), (9, 23)], [], [], [], fun _ => .bool false, fun _ => True, fun _ => []⟩,
     ⟨25, [(5, 19), (10, 24)], [], [], [], fun _ => .bool false, fun _ => True, fun _ => []⟩,
     ⟨26, [(11, 25)], [], [], [], fun _ => undef, fun _ => True, fun _ => []⟩,
     ⟨27, [(11, 25)], [], [], [], fun _ => undef, fun _ => True, fun _ => []⟩,
     ⟨28, [(11, 25), (13, 27)], [], [], [], fun _ => undef, fun _ => True, fun _ => []⟩,
     ⟨29, [(11, 25), (12, 26), (14, 28)], [], [], [], fun _ => undef, fun _ => True, fun _ => []⟩,
     ⟨30, [(11, 25), (15, 29)], [], [], [], fun _ => undef, fun _ => True, fun _ => []⟩,
     ⟨31, [(11, 25), (16, 30)], [], [], [], fun _ => undef, fun _ => True, fun _ => []⟩,
     ⟨32, [(17, 31)], [], [], [], fun _ => undef, fun _ => True, fun _ => []⟩,
     ⟨33, [(17, 31), (18, 32)], [], [], [], fun _ => undef, fun _ => True, fun _ => []⟩,
     ⟨34, [(17, 31)], [], [], [], fun _ => undef, fun _ => True, fun _ => []⟩,
     ⟨35, [(17, 31), (20, 34)], [], [], [], fun _ => undef, fun _ => True, fun _ => []⟩,
     ⟨36, [(17, 31), (19, 33), (21, 35)], [], [], [], fun _ => undef, fun _ => True, fun _ => []⟩,
     ⟨37, [(11, 25), (17, 31), (22, 36)], [], [], [], fun _ => undef, fun _ => True, fun _ => []⟩,
     ⟨38, [(5, 19), (11, 25), (23, 37)], [], [], [], fun _ => .bool false, fun _ => True, fun _ => []⟩,
     ⟨39, [(5, 19), (24, 38)], [], [], [], fun _ => .bool false, fun _ => True, fun _ => []⟩,
     ⟨40, [(25, 39)], [], [], [], fun _ => .bool false, fun _ => True, fun _ => []⟩,
     ⟨41, [(26, 40)], [], [], [27], fun ds => ((ds.getD 0 []).getD 0 undef), fun ds => IsS ((ds.getD 0 []).getD 0 undef), fun ds => [strs 9 ((ds.getD 0 []).getD 0 undef) nameL]⟩,
     ⟨42, [(26, 40)], [], [], [], fun _ => .string (s), fun _ => True, fun _ => []⟩,
     ⟨43, [(26, 40)], [], [], [], fun _ => .int .i64 (3 * (ks.length : Int)), fun _ => True, fun _ => []⟩,
     ⟨44, [(26, 40)], [], [], [], fun _ => .int .i64 (3 * (ks.length : Int)), fun _ => True, fun _ => []⟩,
     ⟨45, [(26, 40), (30, 44)], [], [], [], fun _ => .int .i64 ((3 * (ks.length : Int)) + 2), fun _ => True, fun _ => []⟩,
     ⟨46, [(26, 40), (28, 42), (29, 43), (31, 45)], [], [], [], fun _ => .string (s.extract ((3 * (ks.length : Int) : Int).toNat) (((3 * (ks.length : Int)) + 2 : Int).toNat)), fun _ => True, fun _ => []⟩,
     ⟨47, [(26, 40), (27, 41), (32, 46)], [27], [], [27], fun _ => .bool (hasS nameL (s.extract ((3 * (ks.length : Int) : Int).toNat) (((3 * (ks.length : Int)) + 2 : Int).toNat))), fun _ => True, fun _ => []⟩,
     ⟨48, [(26, 40), (33, 47)], [27], [], [27], fun _ => .bool (!(hasS nameL (s.extract ((3 * (ks.length : Int) : Int).toNat) (((3 * (ks.length : Int)) + 2 : Int).toNat)))), fun _ => True, fun _ => []⟩,
     ⟨49, [(26, 40), (34, 48)], [27], [], [27], fun _ => .bool (!(hasS nameL (s.extract ((3 * (ks.length : Int) : Int).toNat) (((3 * (ks.length : Int)) + 2 : Int).toNat)))), fun _ => True, fun _ => []⟩]) (by kernel_rfl) (by kernel_rfl) (POps.cons ?_ (POps.cons ?_ (POps.cons ?_ (POps.cons ?_ (POps.cons ?_ (POps.cons ?_ (POps.cons ?_ (POps.cons ?_ (POps.cons ?_ (POps.cons ?_ (POps.cons ?_ (POps.cons ?_ (POps.cons ?_ (POps.cons ?_ (POps.cons ?_ (POps.cons ?_ (POps.cons ?_ (POps.cons ?_ (POps.cons ?_ (POps.cons ?_ (POps.cons ?_ (POps.cons ?_ (POps.cons ?_ (POps.cons ?_ (POps.cons ?_ (POps.cons ?_ (POps.cons ?_ (POps.cons ?_ (POps.cons ?_ (POps.cons ?_ (POps.cons ?_ (POps.cons ?_ (POps.cons ?_ (POps.cons ?_ (POps.cons ?_ (POps.cons ?_ POps.nil)))))))))))))))))))))))))))))))))))) ?_
 intro θ R hd
 exact Opp.plain (OG.imp (OD.move rfl rfl) (by rintro _ _ ⟨rfl, rfl⟩; exact ⟨[], rfl, trivial, rfl⟩)) rfl
 intro θ R hd
 obtain ⟨h0d, _⟩ := hd
 exact Opp.plain (OG.imp (OD.addI rfl rfl rfl (by omega)) (by rintro _ _ ⟨rfl, rfl⟩; exact ⟨[], rfl, trivial, rfl⟩)) rfl
 intro θ R hd
 exact Opp.plain (OG.imp (OD.move rfl rfl) (by rintro _ _ ⟨rfl, rfl⟩; exact ⟨[], rfl, trivial, rfl⟩)) rfl
 intro θ R hd
 obtain ⟨h2d, _⟩ := hd
 exact Opp.plain (OG.imp (OD.lenStr rfl rfl st9 rfl) (by rintro _ _ ⟨rfl, rfl⟩; exact ⟨[], rfl, trivial, rfl⟩)) rfl
 intro θ R hd
 obtain ⟨h1d, h3d, _⟩ := hd
 exact Opp.plain (OG.imp (OD.gtr rfl rfl rfl) (by rintro _ _ ⟨rfl, rfl⟩; exact ⟨[], congrArg Value.bool hg6, trivial, rfl⟩)) rfl
 intro θ R hd
 obtain ⟨h4d, _⟩ := hd
 exact Opp.plain (OG.imp (OD.move rfl rfl) (by rintro _ _ ⟨rfl, rfl⟩; exact ⟨[], rfl, trivial, rfl⟩)) rfl
 intro θ R hd
 obtain ⟨h5d, _⟩ := hd
 exact Opp.on (OG.imp (OD.move rfl rfl) (by rintro _ _ ⟨rfl, rfl⟩; exact ⟨[], rfl, trivial, rfl⟩)) rfl rfl rfl
 intro θ R hd
 obtain ⟨h5d, h6d, _⟩ := hd
 exact Opp.on (OG.imp (OD.addI rfl rfl rfl (by omega)) (by rintro _ _ ⟨rfl, rfl⟩; exact ⟨[], rfl, trivial, rfl⟩)) rfl rfl rfl
 intro θ R hd
 obtain ⟨h5d, _⟩ := hd
 exact Opp.on (OG.imp (OD.move rfl rfl) (by rintro _ _ ⟨rfl, rfl⟩; exact ⟨[], rfl, trivial, rfl⟩)) rfl rfl rfl
 intro θ R hd
 obtain ⟨h5d, h8d, _⟩ := hd
 exact Opp.on (OG.imp (OD.lenStr rfl rfl st9 rfl) (by rintro _ _ ⟨rfl, rfl⟩; exact ⟨[], rfl, trivial, rfl⟩)) rfl rfl rfl
 intro θ R hd
 obtain ⟨h5d, h7d, h9d, _⟩ := hd
 exact Opp.on (OG.imp (OD.lss rfl rfl rfl) (by rintro _ _ ⟨rfl, rfl⟩; exact ⟨[], congrArg Value.bool hg7, trivial, rfl⟩)) rfl rfl rfl
 intro θ R hd
 obtain ⟨h5d, h10d, _⟩ := hd
 exact Opp.on (OG.imp (OD.move rfl rfl) (by rintro _ _ ⟨rfl, rfl⟩; exact ⟨[], rfl, trivial, rfl⟩)) rfl rfl rfl
 intro θ R hd
 obtain ⟨h11d, _⟩ := hd
 exact Opp.off ⟨[], rfl, trivial, rfl⟩ rfl rfl rfl rfl
 intro θ R hd
 obtain ⟨h11d, _⟩ := hd
 exact Opp.off ⟨[], rfl, trivial, rfl⟩ rfl rfl rfl rfl
 intro θ R hd
 obtain ⟨h11d, h13d, _⟩ := hd
 exact Opp.off ⟨[], rfl, trivial, rfl⟩ rfl rfl rfl rfl
 intro θ R hd
 obtain ⟨h11d, h12d, h14d, _⟩ := hd
 exact Opp.off ⟨[], rfl, trivial, rfl⟩ rfl rfl rfl rfl
 intro θ R hd
 obtain ⟨h11d, h15d, _⟩ := hd
 exact Opp.off ⟨[], rfl, trivial, rfl⟩ rfl rfl rfl rfl
 intro θ R hd
 obtain ⟨h11d, h16d, _⟩ := hd
 exact Opp.off ⟨[], rfl, trivial, rfl⟩ rfl rfl rfl rfl
 intro θ R hd
 obtain ⟨h17d, _⟩ := hd
 exact Opp.offU ⟨[], rfl, trivial, rfl⟩ rfl rfl rfl
 intro θ R hd
 obtain ⟨h17d, h18d, _⟩ := hd
 exact Opp.offU ⟨[], rfl, trivial, rfl⟩ rfl rfl rfl
 intro θ R hd
 obtain ⟨h17d, _⟩ := hd
 exact Opp.offU ⟨[], rfl, trivial, rfl⟩ rfl rfl rfl
 intro θ R hd
 obtain ⟨h17d, h20d, _⟩ := hd
 exact Opp.offU ⟨[], rfl, trivial, rfl⟩ rfl rfl rfl
 intro θ R hd
 obtain ⟨h17d, h19d, h21d, _⟩ := hd
 exact Opp.offU ⟨[], rfl, trivial, rfl⟩ rfl rfl rfl
 intro θ R hd
 obtain ⟨h11d, h17d, h22d, _⟩ := hd
 exact Opp.off ⟨[], rfl, trivial, rfl⟩ rfl rfl rfl rfl
 intro θ R hd
 obtain ⟨h5d, h11d, h23d, _⟩ := hd
 exact Opp.on (OG.imp (OD.pickF rfl rfl rfl) (by rintro _ _ ⟨rfl, rfl⟩; exact ⟨[], rfl, trivial, rfl⟩)) rfl rfl rfl
 intro θ R hd
 obtain ⟨h5d, h24d, _⟩ := hd
 exact Opp.plain (OG.imp (OD.pickF rfl rfl rfl) (by rintro _ _ ⟨rfl, rfl⟩; exact ⟨[], rfl, trivial, rfl⟩)) rfl
 intro θ R hd
 obtain ⟨h25d, _⟩ := hd
 exact Opp.plain (OG.imp (OD.move rfl rfl) (by rintro _ _ ⟨rfl, rfl⟩; exact ⟨[], rfl, trivial, rfl⟩)) rfl
 intro θ R hd
 obtain ⟨h26d, _⟩ := hd
 exact Opp.on (OG.imp (OG.call [] ent54 rfl rfl rfl rfl (by exact l5Names_w)) (by rintro v24 _ ⟨_, rfl, hs25, rfl⟩; exact ⟨[v24], rfl, hs25, rfl⟩)) rfl rfl rfl
 intro θ R hd
 obtain ⟨h26d, _⟩ := hd
 exact Opp.on (OG.imp (OD.move rfl rfl) (by rintro _ _ ⟨rfl, rfl⟩; exact ⟨[], rfl, trivial, rfl⟩)) rfl rfl rfl
 intro θ R hd
 obtain ⟨h26d, _⟩ := hd
 exact Opp.on (OG.imp (OD.move rfl rfl) (by rintro _ _ ⟨rfl, rfl⟩; exact ⟨[], rfl, trivial, rfl⟩)) rfl rfl rfl
 intro θ R hd
 obtain ⟨h26d, _⟩ := hd
 exact Opp.on (OG.imp (OD.move rfl rfl) (by rintro _ _ ⟨rfl, rfl⟩; exact ⟨[], rfl, trivial, rfl⟩)) rfl rfl rfl
 intro θ R hd
 obtain ⟨h26d, h30d, _⟩ := hd
 exact Opp.on (OG.imp (OD.addI rfl rfl rfl (by omega)) (by rintro _ _ ⟨rfl, rfl⟩; exact ⟨[], rfl, trivial, rfl⟩)) rfl rfl rfl
 intro θ R hd
 obtain ⟨h26d, h28d, h29d, h31d, _⟩ := hd
 exact Opp.on (OG.imp (OD.sliceStr rfl st9 rfl rfl rfl (by omega)) (by rintro _ _ ⟨rfl, rfl⟩; exact ⟨[], rfl, trivial, rfl⟩)) rfl rfl rfl
 intro θ R hd
 obtain ⟨h26d, h27d, h32d, _⟩ := hd
 exact Opp.on (OG.imp (OG.call [((θ 27).getD 0 undef), .string (s.extract ((3 * (ks.length : Int) : Int).toNat) (((3 * (ks.length : Int)) + 2 : Int).toNat))] ent53 rfl rfl rfl rfl (by exact (l5Has_w h27d (Ent.strs (i := 0) rfl) (by decide)))) (by rintro _ _ ⟨rfl, rfl⟩; exact ⟨[], rfl, trivial, rfl⟩)) rfl rfl rfl
 intro θ R hd
 obtain ⟨h26d, h33d, _⟩ := hd
 exact Opp.on (OG.imp (OD.not rfl rfl) (by rintro _ _ ⟨rfl, rfl⟩; exact ⟨[], rfl, trivial, rfl⟩)) rfl rfl rfl
 intro θ R hd
 obtain ⟨h26d, h34d, _⟩ := hd
 exact Opp.plain (OG.imp (OD.pickF rfl rfl rfl) (by rintro _ _ ⟨rfl, rfl⟩; exact ⟨[], rfl, trivial, rfl⟩)) rfl
 intro θ hall
 obtain ⟨_, _, _, _, _, _, _, _, _, _, _, _, _, _, _, _, _, _, _, _, _, _, _, _, _, _, _, h27a, _, _, _, _, _, _, _, _, _⟩ := hall
 refine G.at [] 0 (env' := [(0, .string (s)), (2, .pointer (some ⟨g1, 0, none⟩)), (4, .pointer (some ⟨g4, 0, none⟩)), (5, .int .i64 (3 * (ks.length : Int))), (49, .bool (!(hasS nameL (s.extract ((3 * (ks.length : Int) : Int).toNat) (((3 * (ks.length : Int)) + 2 : Int).toNat)))))]) ⟨rfl, rfl, rfl, rfl, rfl, trivial⟩ (own' := strs 9 ((θ 27).getD 0 undef) nameL :: box g4 24 [.int .i64 (r), v] :: ints 3 v d :: box g1 24 [.int .i64 (0), .slice none 0 0] :: own) rfl ?_
 have hs26 : IsS ((θ 27).getD 0 undef) := h27a
 clear h27a
 generalize ((θ 27).getD 0 undef) = v27 at *
 show G _ _ _ [] _ _ _ _
 refine G.nil (GE.then_ ?_)
 refine GC.cond rfl (fun hc28 => ?_) (fun hc28 => ?_)
 replace hc28 := eq_false_of_not hc28
 obtain ⟨hp1, hp2, hp3⟩ := cF_none (hsc.bad (by omega) (by first | exact .inl (by omega) | exact .inr (.inl ⟨by omega, .inl (by assumption)⟩) | exact .inr (.inl ⟨by omega, .inr (by omega)⟩) | exact .inr (.inr (by assumption))))
 refine GC.seq (GC.region ?_)
 refine G.stepD (OD.build (idx := []) (xs := []) (vs := []) (cs := []) (zs := [.int .i64 (0), .slice none 0 0]) (r := [.int .i64 (0), .slice none 0 0]) rfl ti24 rfl rfl rfl trivial rfl) rfl rfl rfl ?_
 refine G.stepD0 (OD.store rfl ti24 rfl rfl (us := [.int .i64 (0), .slice none 0 0]) rfl rfl rfl (i := 3) rfl rfl) rfl rfl ?_
 refine G.stepD (OD.assign rfl rfl) rfl rfl rfl ?_
 refine G.nil (GE.then_ (GC.ret (GE.passR (GE.blockR (GE.passR (GE.passR (GE.blockR (GE.passR ?_))))))))
 refine GE.nilInts 3 ?_
 exact GE.body [0] 4 (resN rfl (RVs.cons (rv_cells ti24 rfl (i := 4) rfl rfl) (RVs.cons (rv_tmp rfl) RVs.nil)) rfl) rfl (⟨(.slice none 0 0), congr (congrArg (fun (a0 : Int) (a2 : Bool) => (.tuple #[.agg #[.int .i64 (a0), (.slice none 0 0)], .bool (a2)] : Value)) ((hp1.symm : (0 : Int) = cR s))) ((hp3.symm : (false : Bool) = (cF s).isSome)), IsS.nil, congrArg (fun (l0 : List Int) => ints 3 (.slice none 0 0) l0 :: own) ((hp2.symm : [] = cD s))⟩)
 replace hc28 := eq_true_of_not hc28
 obtain ⟨k, hk⟩ := hasS_some hc28
 obtain ⟨hk12, hse⟩ := nameNo_some hk
 have hrk := rk_bd k hk12
 have hol := oneD_len k hk12
 have hgood : ¬ badP s (3 * (ks.length : Int)) := by rintro (h1 | ⟨h1, h2 | h2⟩ | h1) <;> first | omega | contradiction | (rw [hc28] at h1; cases h1)
 have hr4 := hsc.2.1
 have hml := matOf_len ks
 have hol2 : ((oneD k).length : Int) = (rk k : Int) * (rk k : Int) := by rw [hol]; exact Int.natCast_mul _ _
 refine GC.skip (GE.then_ (GC.seq ?_))
 refine GC.at [] 0 (env' := [(0, .string (s)), (2, .pointer (some ⟨g1, 0, none⟩)), (4, .pointer (some ⟨g4, 0, none⟩)), (5, .int .i64 (3 * (ks.length : Int)))]) ⟨rfl, rfl, rfl, rfl, trivial⟩ rfl ?_
 refine GC.par (its := [⟨51, [], [], [], [], fun _ => .agg #[.int .i64 (r), v], fun _ => True, fun _ => []⟩,
     ⟨52, [], [], [], [], fun _ => .string (s), fun _ => True, fun _ => []⟩,
     ⟨53, [], [], [], [], fun _ => .int .i64 (3 * (ks.length : Int)), fun _ => True, fun _ => []⟩,
     ⟨54, [], [], [], [], fun _ => .int .i64 (3 * (ks.length : Int)), fun _ => True, fun _ => []⟩,
     ⟨55, [(3, 54)], [], [], [], fun _ => .int .i64 ((3 * (ks.length : Int)) + 2), fun _ => True, fun _ => []⟩,
     ⟨56, [(1, 52), (2, 53), (4, 55)], [], [], [], fun _ => .string (s.extract ((3 * (ks.length : Int) : Int).toNat) (((3 * (ks.length : Int)) + 2 : Int).toNat)), fun _ => True, fun _ => []⟩,
     ⟨57, [(5, 56)], [], [], [6], fun ds => .agg #[.int .i64 ((rk k : Int)), ((ds.getD 0 []).getD 0 undef)], fun ds => IsS ((ds.getD 0 []).getD 0 undef), fun ds => [ints 3 ((ds.getD 0 []).getD 0 undef) (oneD k)]⟩,
     ⟨58, [(0, 51), (6, 57)], [6], [], [6, 7], fun ds => .agg #[.int .i64 (r + (rk k : Int)), ((ds.getD 1 []).getD 0 undef)], fun ds => IsS ((ds.getD 1 []).getD 0 undef), fun ds => [ints 3 ((ds.getD 1 []).getD 0 undef) (sumD r d (rk k : Int) (oneD k))]⟩]) (by kernel_rfl) (by kernel_rfl) (POps.cons ?_ (POps.cons ?_ (POps.cons ?_ (POps.cons ?_ (POps.cons ?_ (POps.cons ?_ (POps.cons ?_ (POps.cons ?_ POps.nil)))))))) ?_
 intro θ R hd
 exact Opp.plain (OG.imp (OD.loadAgg rfl ti24 rfl (i := 1) rfl (us := [.int .i64 (r), v]) rfl rfl) (by rintro _ _ ⟨rfl, rfl⟩; exact ⟨[], rfl, trivial, rfl⟩)) rfl
 intro θ R hd
 exact Opp.plain (OG.imp (OD.move rfl rfl) (by rintro _ _ ⟨rfl, rfl⟩; exact ⟨[], rfl, trivial, rfl⟩)) rfl
 intro θ R hd
 exact Opp.plain (OG.imp (OD.move rfl rfl) (by rintro _ _ ⟨rfl, rfl⟩; exact ⟨[], rfl, trivial, rfl⟩)) rfl
 intro θ R hd
 exact Opp.plain (OG.imp (OD.move rfl rfl) (by rintro _ _ ⟨rfl, rfl⟩; exact ⟨[], rfl, trivial, rfl⟩)) rfl
 intro θ R hd
 obtain ⟨h3d, _⟩ := hd
 exact Opp.plain (OG.imp (OD.addI rfl rfl rfl (by omega)) (by rintro _ _ ⟨rfl, rfl⟩; exact ⟨[], rfl, trivial, rfl⟩)) rfl
 intro θ R hd
 obtain ⟨h1d, h2d, h4d, _⟩ := hd
 exact Opp.plain (OG.imp (OD.sliceStr rfl st9 rfl rfl rfl (by omega)) (by rintro _ _ ⟨rfl, rfl⟩; exact ⟨[], rfl, trivial, rfl⟩)) rfl
 intro θ R hd
 obtain ⟨h5d, _⟩ := hd
 exact Opp.plain (OG.imp (OG.call [.string (s.extract ((3 * (ks.length : Int) : Int).toNat) (((3 * (ks.length : Int)) + 2 : Int).toNat))] ent56 rfl rfl rfl rfl (by exact (l5One_w (k := k) (hk12) (hse)))) (by rintro _ _ ⟨v29, rfl, hs30, rfl⟩; exact ⟨[v29], rfl, hs30, rfl⟩)) rfl
 intro θ R hd
 obtain ⟨h0d, h6d, _⟩ := hd
 exact Opp.plain (OG.imp (OG.call [.agg #[.int .i64 (r), v], .agg #[.int .i64 ((rk k : Int)), ((θ 6).getD 0 undef)]] ent55 rfl rfl rfl rfl (by exact (l5Sum_w hv (Ent.ints (i := 3) rfl) h6d (Ent.ints (i := 0) rfl) (⟨by omega, by omega, by rw [hd, hr]; exact hml⟩) (⟨by omega, by omega, hol2⟩)))) (by rintro _ _ ⟨v31, rfl, hs32, rfl⟩; exact ⟨[v31], rfl, hs32, rfl⟩)) rfl
 intro θ hall
 obtain ⟨_, _, _, _, _, _, h6a, h7a, _⟩ := hall
 refine G.at [] 0 (env' := [(0, .string (s)), (2, .pointer (some ⟨g1, 0, none⟩)), (4, .pointer (some ⟨g4, 0, none⟩)), (5, .int .i64 (3 * (ks.length : Int))), (58, .agg #[.int .i64 (r + (rk k : Int)), ((θ 7).getD 0 undef)])]) ⟨rfl, rfl, rfl, rfl, rfl, trivial⟩ (own' := ints 3 ((θ 6).getD 0 undef) (oneD k) :: ints 3 ((θ 7).getD 0 undef) (sumD r d (rk k : Int) (oneD k)) :: strs 9 v27 nameL :: box g4 24 [.int .i64 (r), v] :: ints 3 v d :: box g1 24 [.int .i64 (0), .slice none 0 0] :: own) rfl ?_
 have hs33 : IsS ((θ 6).getD 0 undef) := h6a
 clear h6a
 generalize ((θ 6).getD 0 undef) = v34 at *
 have hs35 : IsS ((θ 7).getD 0 undef) := h7a
 clear h7a
 generalize ((θ 7).getD 0 undef) = v36 at *
 show G _ _ _ [_] _ _ _ _
 refine G.stepD0 (OD.store rfl ti24 rfl rfl (us := [.int .i64 (r + (rk k : Int)), v36]) rfl rfl (allC rfl (allC (IsS.one hs35) rfl)) (i := 3) rfl rfl) rfl rfl ?_
 refine G.nil (GE.then_ (GC.seq (GC.region ?_)))
 refine G.stepD (OD.fieldAddr rfl rfl fa24_0) rfl rfl rfl ?_
 refine G.stepD (OD.load rfl ti3 rfl (i := 3) rfl rfl) rfl rfl rfl ?_
 refine G.stepD (OD.gtr rfl rfl rfl) rfl rfl rfl ?_
 refine G.nil (GE.then_ ?_)
 refine GC.cond rfl (fun hc37 => ?_) (fun hc37 => ?_)
 replace hc37 := of_decide_eq_true hc37
 obtain ⟨hp1, hp2, hp3⟩ := cF_none (hsc.big (by omega) hgood hk (by rw [rkS_snoc]; omega))
 refine GC.seq (GC.region ?_)
 refine G.stepD (OD.build (idx := []) (xs := []) (vs := []) (cs := []) (zs := [.int .i64 (0), .slice none 0 0]) (r := [.int .i64 (0), .slice none 0 0]) rfl ti24 rfl rfl rfl trivial rfl) rfl rfl rfl ?_
 refine G.stepD0 (OD.store rfl ti24 rfl rfl (us := [.int .i64 (0), .slice none 0 0]) rfl rfl rfl (i := 5) rfl rfl) rfl rfl ?_
 refine G.stepD (OD.assign rfl rfl) rfl rfl rfl ?_
 refine G.nil (GE.then_ (GC.ret (GE.blockR (GE.passR (GE.passR (GE.blockR (GE.passR ?_)))))))
 refine GE.nilInts 3 ?_
 exact GE.body [0] 6 (resN rfl (RVs.cons (rv_cells ti24 rfl (i := 6) rfl rfl) (RVs.cons (rv_tmp rfl) RVs.nil)) rfl) rfl (⟨(.slice none 0 0), congr (congrArg (fun (a0 : Int) (a2 : Bool) => (.tuple #[.agg #[.int .i64 (a0), (.slice none 0 0)], .bool (a2)] : Value)) ((hp1.symm : (0 : Int) = cR s))) ((hp3.symm : (false : Bool) = (cF s).isSome)), IsS.nil, congrArg (fun (l0 : List Int) => ints 3 (.slice none 0 0) l0 :: own) ((hp2.symm : [] = cD s))⟩)
 replace hc37 := of_decide_eq_false hc37
 refine GC.skip (GE.blockN (GE.then_ (GC.region ?_)))
 refine G.stepD (OD.move rfl rfl) rfl rfl rfl ?_
 refine G.stepD (OD.addI rfl rfl rfl (by omega)) rfl rfl rfl ?_
 refine G.stepD (OD.assign rfl rfl) rfl rfl rfl ?_
 refine G.nil ?_
 exact GE.again (ks ++ [k], r + (rk k : Int), sumD r d (rk k : Int) (oneD k), v36) (⟨hsc.next (by omega) hgood hk (by rw [rkS_snoc]; omega), by rw [hr, rkS_snoc]; simp, by rw [matOf_snoc, hd, hr]; simp only [matStep, matOf_fst], hs35⟩) (by simp; omega) ⟨rfl, rfl, rfl, int_eq (by simp; omega), trivial⟩ [3, 1, 3] 3 rfl
 replace hc5 := of_decide_eq_false hc5
 have hst := hsc.stop (by omega)
 refine GC.exit (GE.pass (GE.pass (GE.hit (GE.then_ (GC.seq (GC.seq (GC.region ?_)))))))
 refine G.stepD (OD.fieldAddr rfl rfl fa24_0) rfl rfl rfl ?_
 refine G.stepD (OD.load rfl ti3 rfl (i := 0) rfl rfl) rfl rfl rfl ?_
 refine G.stepD (OD.eql rfl rfl rfl) rfl rfl rfl ?_
 refine G.nil (GE.then_ ?_)
 refine GC.cond rfl (fun hc38 => ?_) (fun hc38 => ?_)
 replace hc38 := eq_of_beq hc38
 obtain ⟨hp1, hp2, hp3⟩ := cF_none (hst.trans (if_pos (by omega)))
 refine GC.seq (GC.region ?_)
 refine G.stepD (OD.build (idx := []) (xs := []) (vs := []) (cs := []) (zs := [.int .i64 (0), .slice none 0 0]) (r := [.int .i64 (0), .slice none 0 0]) rfl ti24 rfl rfl rfl trivial rfl) rfl rfl rfl ?_
 refine G.stepD0 (OD.store rfl ti24 rfl rfl (us := [.int .i64 (0), .slice none 0 0]) rfl rfl rfl (i := 2) rfl rfl) rfl rfl ?_
 refine G.stepD (OD.assign rfl rfl) rfl rfl rfl ?_
 refine G.nil (GE.then_ (GC.ret (GE.passR ?_)))
 refine GE.nilInts 3 ?_
 exact GE.body [0] 3 (resN rfl (RVs.cons (rv_cells ti24 rfl (i := 3) rfl rfl) (RVs.cons (rv_tmp rfl) RVs.nil)) rfl) rfl (⟨(.slice none 0 0), congr (congrArg (fun (a0 : Int) (a2 : Bool) => (.tuple #[.agg #[.int .i64 (a0), (.slice none 0 0)], .bool (a2)] : Value)) ((hp1.symm : (0 : Int) = cR s))) ((hp3.symm : (false : Bool) = (cF s).isSome)), IsS.nil, congrArg (fun (l0 : List Int) => ints 3 (.slice none 0 0) l0 :: own) ((hp2.symm : [] = cD s))⟩)
 replace hc38 := ne_of_beq_false hc38
 obtain ⟨hp1, hp2, hp3⟩ := cF_some (hst.trans (if_neg (by omega)))
 refine GC.skip (GE.then_ (GC.seq (GC.region ?_)))
 refine G.stepD (OD.loadAgg rfl ti24 rfl (i := 0) rfl (us := [.int .i64 (r), v]) rfl rfl) rfl rfl rfl ?_
 refine G.stepD0 (OD.store rfl ti24 rfl rfl (us := [.int .i64 (r), v]) rfl rfl (allC rfl (allC (IsS.one hv) rfl)) (i := 2) rfl rfl) rfl rfl ?_
 refine G.stepD (OD.assign rfl rfl) rfl rfl rfl ?_
 refine G.nil (GE.then_ (GC.ret ?_))
 exact GE.body [1] 2 (resN rfl (RVs.cons (rv_cells ti24 rfl (i := 2) rfl rfl) (RVs.cons (rv_tmp rfl) RVs.nil)) rfl) rfl (⟨v, congr (congrArg (fun (a0 : Int) (a2 : Bool) => (.tuple #[.agg #[.int .i64 (a0), v], .bool (a2)] : Value)) ((hr.trans hp1.symm : (r : Int) = cR s))) ((hp3.symm : (true : Bool) = (cF s).isSome)), hv, congrArg (fun (l0 : List Int) => ints 3 v l0 :: own) ((hd.trans hp2.symm : d = cD s))⟩)

set_option maxRecDepth 100000 in
theorem cartanOf_w {W : World} {own : List Asn} {s : ByteArray}   (hg : Ent own fun w => ∃ m, w.cell? ⟨Tryd.l146_ren.g 1, 0, none⟩ = some (.int .i64 m)) (hs : s.size ≤ 1048576) : Spec Tryd.prog 16 [.string (s)] W own (fun v ow => ∃ (r1 : Value), v = .tuple #[.agg #[.int .i64 (cR s), r1], .bool ((cF s).isSome)] ∧ IsS r1 ∧ ow = ints 3 r1 (cD s) :: own) := by
 have hps := plusSplit_le s
 refine Spec.enter Tryd.f16 _ Tryd.func16 rfl (n := 42) rfl rfl ?_
 refine GC.seq (GC.region ?_)
 refine G.step (OG.alloc rfl ti24 (zs := [.int .i64 (0), .slice none 0 0]) rfl) rfl rfl rfl ?_
 rintro _ _ ⟨g1, rfl, rfl⟩
 refine G.stepD (OD.assign rfl rfl) rfl rfl rfl ?_
 refine G.nil (GE.then_ (GC.seq (GC.region ?_)))
 refine G.stepD (OD.move rfl rfl) rfl rfl rfl ?_
 refine G.step (OG.call [.string (s), .string (⟨#[43]⟩)] ent57 rfl rfl rfl rfl (by exact (split_w _ ((Ent.drop 1 hg)) (by omega)))) rfl rfl rfl ?_
 rintro v2 _ ⟨_, rfl, hs3, rfl⟩
 refine G.stepD (OD.assign rfl rfl) rfl rfl rfl ?_
 refine G.nil (GE.then_ (GC.seq (GC.region ?_)))
 refine G.step (OG.buildRws0 rfl et62) rfl rfl rfl ?_
 rintro v4 _ ⟨hs5, rfl⟩
 refine G.stepD (OD.assign rfl rfl) rfl rfl rfl ?_
 refine G.nil (GE.then_ (GC.seq (GC.region ?_)))
 refine G.stepD (OD.assign rfl rfl) rfl rfl rfl ?_
 refine G.nil (GE.then_ (GC.seq (GC.seq (GC.region ?_))))
 refine G.stepD (OD.move rfl rfl) rfl rfl rfl ?_
 refine G.stepD (OD.len rfl rfl et57 rfl (Ent.strs (i := 1) rfl)) rfl rfl rfl ?_
 refine G.stepD (OD.move rfl rfl) rfl rfl rfl ?_
 refine G.nil (GE.then_ (GC.block ?_))
 refine GC.many0 (ints 3) ?_
 refine GC.loop (ι := Nat × List Nat × List Value × Value × Int) (fun ⟨i, ks, vs, bv, r⟩ => [(2, .pointer (some ⟨g1, 0, none⟩)), (14, v2), (15, .int .i64 (((plusSplit s).length : Nat))), (5, bv), (6, .int .i64 (r)), (16, .int .i64 ((i : Int)))]) (fun ⟨i, ks, vs, bv, r⟩ => many (ints 3) vs (ks.map oneD) :: rws 24 2 bv (rowC ks vs) :: strs 9 v2 (plusSplit s) :: box g1 24 [.int .i64 (0), .slice none 0 0] :: own) (fun ⟨i, ks, vs, bv, r⟩ => (i ≤ (plusSplit s).length) ∧ (Cut s i ks) ∧ (ks.length = i) ∧ (vs.length = ks.length) ∧ (AllS vs) ∧ (IsS bv) ∧ (r = (rkS ks : Nat))) (fun ⟨i, ks, vs, bv, r⟩ => (plusSplit s).length - i) (0, [], [], v4, 0) (⟨by omega, rfl, rfl, rfl, AllS.nil, hs5, rfl⟩) ⟨rfl, rfl, rfl, rfl, rfl, rfl, trivial⟩ [] 0 rfl ?_
 rintro ⟨i, ks, vs, bv, r⟩ ⟨hi, hc, hki, hlen, hall, hbv, hr⟩
 refine GC.seq (GC.region ?_)
 refine G.stepD (OD.lss rfl rfl rfl) rfl rfl rfl ?_
 refine G.nil (GE.then_ (GC.seq ?_))
 refine GC.cond rfl (fun hc6 => ?_) (fun hc6 => ?_)
 replace hc6 := of_decide_eq_true hc6
 have hle4 := rkS_le hc.lt
 refine GC.skip (GE.then_ (GC.seq (GC.block (GC.seq (GC.region ?_)))))
 refine G.stepD (OD.indexAddr rfl et57 rfl (Ent.strs (i := 2) rfl) rfl (by omega)) rfl rfl rfl ?_
 refine G.stepD (OD.loadStr rfl ti9 rfl (Ent.strs (i := 2) rfl) (by omega)) rfl rfl rfl ?_
 refine G.stepD (OD.assign rfl rfl) rfl rfl rfl ?_
 refine G.nil (GE.then_ (GC.seq (GC.region ?_)))
 refine G.stepD (OD.move rfl rfl) rfl rfl rfl ?_
 refine G.step (OG.call [.string ((plusSplit s).getD (i) ⟨#[]⟩)] ent58 rfl rfl rfl rfl (by exact partCartan_w)) rfl rfl rfl ?_
 rintro _ _ ⟨v7, rfl, hs8, rfl⟩
 refine G.stepD (OD.move rfl rfl) rfl rfl rfl ?_
 refine G.stepD (OD.extract rfl rfl rfl) rfl rfl rfl ?_
 refine G.stepD (OD.extract rfl rfl rfl) rfl rfl rfl ?_
 refine G.step (OG.alloc rfl ti24 (zs := [.int .i64 (0), .slice none 0 0]) rfl) rfl rfl rfl ?_
 rintro _ _ ⟨g9, rfl, rfl⟩
 refine G.stepD0 (OD.store rfl ti24 rfl rfl (us := [.int .i64 (partR ((plusSplit s).getD (i) ⟨#[]⟩)), v7]) rfl rfl (allC rfl (allC (IsS.one hs8) rfl)) (i := 0) rfl rfl) rfl rfl ?_
 refine G.stepD (OD.assign rfl rfl) rfl rfl rfl ?_
 refine G.nil (GE.then_ (GC.seq (GC.seq (GC.region ?_))))
 refine G.stepD (OD.move rfl rfl) rfl rfl rfl ?_
 refine G.stepD (OD.not rfl rfl) rfl rfl rfl ?_
 refine G.nil (GE.then_ ?_)
 refine GC.cond rfl (fun hc10 => ?_) (fun hc10 => ?_)
 replace hc10 := eq_false_of_not hc10
 obtain ⟨hp1, hp2, hp3⟩ := cF_none (hc.bad (by omega) (none_of hc10))
 refine GC.seq (GC.region ?_)
 refine G.stepD (OD.build (idx := []) (xs := []) (vs := []) (cs := []) (zs := [.int .i64 (0), .slice none 0 0]) (r := [.int .i64 (0), .slice none 0 0]) rfl ti24 rfl rfl rfl trivial rfl) rfl rfl rfl ?_
 refine G.stepD0 (OD.store rfl ti24 rfl rfl (us := [.int .i64 (0), .slice none 0 0]) rfl rfl rfl (i := 5) rfl rfl) rfl rfl ?_
 refine G.stepD (OD.assign rfl rfl) rfl rfl rfl ?_
 refine G.nil (GE.then_ (GC.ret (GE.passR (GE.blockR (GE.passR (GE.passR (GE.blockR (GE.passR ?_))))))))
 refine GE.nilInts 3 ?_
 exact GE.body [0] 6 (resN rfl (RVs.cons (rv_cells ti24 rfl (i := 6) rfl rfl) (RVs.cons (rv_tmp rfl) RVs.nil)) rfl) rfl (⟨(.slice none 0 0), congr (congrArg (fun (a0 : Int) (a2 : Bool) => (.tuple #[.agg #[.int .i64 (a0), (.slice none 0 0)], .bool (a2)] : Value)) ((hp1.symm : (0 : Int) = cR s))) ((hp3.symm : (false : Bool) = (cF s).isSome)), IsS.nil, congrArg (fun (l0 : List Int) => ints 3 (.slice none 0 0) l0 :: own) ((hp2.symm : [] = cD s))⟩)
 replace hc10 := eq_true_of_not hc10
 obtain ⟨k, hk⟩ := some_of hc10
 obtain ⟨hk12, hse⟩ := nameNo_some hk
 have hrk := rk_bd k hk12
 have hpR : partR ((plusSplit s).getD (i) ⟨#[]⟩) = (rk k : Nat) := by simp only [partR, hk]
 have hpD : partD ((plusSplit s).getD (i) ⟨#[]⟩) = oneD k := by simp only [partD, hk]
 have hrl := rowC_len hlen
 refine GC.skip (GE.then_ (GC.seq (GC.region ?_)))
 refine G.stepD (OD.move rfl rfl) rfl rfl rfl ?_
 refine G.stepD (OD.fieldAddr rfl rfl fa24_0) rfl rfl rfl ?_
 refine G.stepD (OD.load rfl ti3 rfl (i := 0) rfl rfl) rfl rfl rfl ?_
 refine G.stepD (OD.addI rfl rfl rfl (by omega)) rfl rfl rfl ?_
 refine G.stepD (OD.assign rfl rfl) rfl rfl rfl ?_
 refine G.nil (GE.then_ (GC.region ?_))
 refine G.stepD (OD.move rfl rfl) rfl rfl rfl ?_
 refine G.stepD (OD.loadAgg rfl ti24 rfl (i := 0) rfl (us := [.int .i64 (partR ((plusSplit s).getD (i) ⟨#[]⟩)), v7]) rfl rfl) rfl rfl rfl ?_
 refine G.step (OG.buildRws rfl et62 (us := [.int .i64 (partR ((plusSplit s).getD (i) ⟨#[]⟩)), v7]) rfl rfl rfl rfl) rfl rfl rfl ?_
 rintro v11 _ ⟨hs12, rfl⟩
 refine G.step (OG.appendRws 4 rfl rfl et62 rfl rfl rfl (Ent.rws (i := 0) rfl) (allC rfl (allC (IsS.one hs8) rfl)) (by simp [maxLen] <;> omega)) rfl rfl rfl ?_
 rintro v13 _ ⟨hs14, rfl⟩
 refine G.stepD (OD.assign rfl rfl) rfl rfl rfl ?_
 refine G.nil (GE.blockN (GE.then_ (GC.region ?_)))
 refine G.stepD (OD.addI rfl rfl rfl (by omega)) rfl rfl rfl ?_
 refine G.stepD (OD.move rfl rfl) rfl rfl rfl ?_
 refine G.nil ?_
 refine GE.at [2, 2, 2, 1, 1, 1] 1 (env' := [(2, .pointer (some ⟨g1, 0, none⟩)), (14, v2), (15, .int .i64 (((plusSplit s).length : Nat))), (17, .bool (decide ((i : Int) < ((plusSplit s).length : Nat)))), (18, elemPtr v2 1 (i)), (19, .string ((plusSplit s).getD (i) ⟨#[]⟩)), (8, .string ((plusSplit s).getD (i) ⟨#[]⟩)), (21, .string ((plusSplit s).getD (i) ⟨#[]⟩)), (22, .tuple #[.agg #[.int .i64 (partR ((plusSplit s).getD (i) ⟨#[]⟩)), v7], .bool ((nameNo ((plusSplit s).getD (i) ⟨#[]⟩)).isSome)]), (20, .tuple #[.agg #[.int .i64 (partR ((plusSplit s).getD (i) ⟨#[]⟩)), v7], .bool ((nameNo ((plusSplit s).getD (i) ⟨#[]⟩)).isSome)]), (23, .agg #[.int .i64 (partR ((plusSplit s).getD (i) ⟨#[]⟩)), v7]), (24, .bool ((nameNo ((plusSplit s).getD (i) ⟨#[]⟩)).isSome)), (9, .pointer (some ⟨g9, 0, none⟩)), (10, .bool ((nameNo ((plusSplit s).getD (i) ⟨#[]⟩)).isSome)), (25, .bool ((nameNo ((plusSplit s).getD (i) ⟨#[]⟩)).isSome)), (26, .bool (!((nameNo ((plusSplit s).getD (i) ⟨#[]⟩)).isSome))), (28, .int .i64 (r)), (29, .pointer (some ⟨g9, 0, none⟩)), (30, .int .i64 (partR ((plusSplit s).getD (i) ⟨#[]⟩))), (31, .int .i64 (r + (partR ((plusSplit s).getD (i) ⟨#[]⟩)))), (6, .int .i64 (r + (partR ((plusSplit s).getD (i) ⟨#[]⟩)))), (32, bv), (33, .agg #[.int .i64 (partR ((plusSplit s).getD (i) ⟨#[]⟩)), v7]), (34, v11), (35, v13), (5, v13), (36, .int .i64 ((i : Int) + 1)), (16, .int .i64 ((i : Int) + 1))]) ⟨rfl, rfl, rfl, rfl, rfl, rfl, rfl, rfl, rfl, rfl, rfl, rfl, rfl, rfl, rfl, rfl, rfl, rfl, rfl, rfl, rfl, rfl, rfl, rfl, rfl, rfl, rfl, rfl, trivial⟩ (own' := ints 3 v7 (partD ((plusSplit s).getD (i) ⟨#[]⟩)) :: many (ints 3) vs (ks.map oneD) :: rws 24 2 v13 ((rowC ks vs) ++ [[.int .i64 (partR ((plusSplit s).getD (i) ⟨#[]⟩)), v7]]) :: box g9 24 [.int .i64 (partR ((plusSplit s).getD (i) ⟨#[]⟩)), v7] :: strs 9 v2 (plusSplit s) :: box g1 24 [.int .i64 (0), .slice none 0 0] :: own) rfl ?_
 refine GE.manyPush (by simp [hlen]) ?_
 refine GE.ownEq (own' := many (ints 3) (vs ++ [v7]) ((ks ++ [k]).map oneD) :: rws 24 2 v13 (rowC (ks ++ [k]) (vs ++ [v7])) :: box g9 24 [.int .i64 (partR ((plusSplit s).getD (i) ⟨#[]⟩)), v7] :: strs 9 v2 (plusSplit s) :: box g1 24 [.int .i64 (0), .slice none 0 0] :: own) (by rw [rowC_snoc hlen hpR, hpD, List.map_append]; rfl) ?_
 exact GE.again (i + 1, ks ++ [k], vs ++ [v7], v13, r + (partR ((plusSplit s).getD (i) ⟨#[]⟩))) (⟨by omega, hc.next (by omega) hk, by simp [hki], by simp [hlen], hall.snoc hs8, hs14, by rw [rkS_snoc, hr, hpR]; simp⟩) (by first | omega | (dsimp only; omega)) ⟨rfl, rfl, rfl, rfl, rfl, rfl, trivial⟩ [0, 0, 1, 1] 1 rfl
 replace hc6 := of_decide_eq_false hc6
 have hst := hc.stop (by omega)
 refine GC.exit (GE.pass (GE.pass (GE.hit (GE.then_ (GC.seq (GC.seq (GC.region ?_)))))))
 refine G.stepD (OD.move rfl rfl) rfl rfl rfl ?_
 refine G.stepD (OD.gtr rfl rfl rfl) rfl rfl rfl ?_
 refine G.nil (GE.then_ ?_)
 refine GC.cond rfl (fun hc15 => ?_) (fun hc15 => ?_)
 replace hc15 := of_decide_eq_true hc15
 obtain ⟨hp1, hp2, hp3⟩ := cF_none (hst.trans (if_pos (by omega)))
 refine GC.seq (GC.region ?_)
 refine G.stepD (OD.build (idx := []) (xs := []) (vs := []) (cs := []) (zs := [.int .i64 (0), .slice none 0 0]) (r := [.int .i64 (0), .slice none 0 0]) rfl ti24 rfl rfl rfl trivial rfl) rfl rfl rfl ?_
 refine G.stepD0 (OD.store rfl ti24 rfl rfl (us := [.int .i64 (0), .slice none 0 0]) rfl rfl rfl (i := 3) rfl rfl) rfl rfl ?_
 refine G.stepD (OD.assign rfl rfl) rfl rfl rfl ?_
 refine G.nil (GE.then_ (GC.ret (GE.passR ?_)))
 refine GE.nilInts 3 ?_
 exact GE.body [0] 4 (resN rfl (RVs.cons (rv_cells ti24 rfl (i := 4) rfl rfl) (RVs.cons (rv_tmp rfl) RVs.nil)) rfl) rfl (⟨(.slice none 0 0), congr (congrArg (fun (a0 : Int) (a2 : Bool) => (.tuple #[.agg #[.int .i64 (a0), (.slice none 0 0)], .bool (a2)] : Value)) ((hp1.symm : (0 : Int) = cR s))) ((hp3.symm : (false : Bool) = (cF s).isSome)), IsS.nil, congrArg (fun (l0 : List Int) => ints 3 (.slice none 0 0) l0 :: own) ((hp2.symm : [] = cD s))⟩)
 replace hc15 := of_decide_eq_false hc15
 obtain ⟨hp1, hp2, hp3⟩ := cF_some (hst.trans (if_neg (by omega)))
 have h12 := hc.lt
 have hr4 : rkS ks ≤ 4 := by omega
 have hjm := joinD_mat h12 hr4
 have hge := rkS_ge h12
 refine GC.skip (GE.then_ (GC.seq (GC.region ?_)))
 refine G.stepD (OD.move rfl rfl) rfl rfl rfl ?_
 refine G.step (OG.call [bv] ent59 rfl rfl rfl rfl (by exact (joined_w hbv (Ent.rws (i := 1) rfl) (fun k hk => by have h := Ent.manyInts (own := many (ints 3) vs (ks.map oneD) :: rws 24 2 bv (rowC ks vs) :: strs 9 v2 (plusSplit s) :: box g1 24 [.int .i64 (0), .slice none 0 0] :: own) (i := 0) (k := k) rfl ⟨by omega, by simpa using hk⟩; simpa [List.getD, hk] using h) hlen hall (h12) (hr4) (by omega)))) rfl rfl rfl ?_
 rintro _ _ ⟨v16, rfl, hs17, rfl⟩
 refine G.stepD0 (OD.store rfl ti24 rfl rfl (us := [.int .i64 ((rkS ks : Nat)), v16]) rfl rfl (allC rfl (allC (IsS.one hs17) rfl)) (i := 4) rfl rfl) rfl rfl ?_
 refine G.stepD (OD.assign rfl rfl) rfl rfl rfl ?_
 refine G.nil (GE.then_ (GC.ret ?_))
 exact GE.body [0] 4 (resN rfl (RVs.cons (rv_cells ti24 rfl (i := 4) rfl rfl) (RVs.cons (rv_tmp rfl) RVs.nil)) rfl) rfl (⟨v16, congr (congrArg (fun (a0 : Int) (a2 : Bool) => (.tuple #[.agg #[.int .i64 (a0), v16], .bool (a2)] : Value)) ((hp1.symm : ((rkS ks : Nat) : Int) = cR s))) ((hp3.symm : (true : Bool) = (cF s).isSome)), hs17, congrArg (fun (l0 : List Int) => ints 3 v16 l0 :: own) ((hjm.trans hp2.symm : joinD ks = cD s))⟩)

end Go.Proofs.YtnebapjkmgebmaaDoor
