/-
  An algebra of matrices by the second text: contracts by walks.
-/
import Derived.Test.YtbmnnbglipkidaaWHds
import Derived.Test.YtbmnnbglipkidaaWSol
namespace Go.Proofs.Ytbmnnbglipkidaa
set_option linter.unusedVariables false
set_option linter.unusedSimpArgs false
open Go.RowKit
theorem fd41_3 : FD Try.prog 41 3 3 := by have h := fd_of (f := 3) Try.underlying41 rfl (fun w => by kernel_rfl); exact h
theorem ent14 : ∀ us w, (callFunc 14 us).run Try.prog w = .ok (.enter 14 us) w := fun us w => by kernel_rfl
theorem ent15 : ∀ us w, (callFunc 15 us).run Try.prog w = .ok (.enter 15 us) w := fun us w => by kernel_rfl
theorem ent17 : ∀ us w, (callFunc 17 us).run Try.prog w = .ok (.enter 17 us) w := fun us w => by kernel_rfl
theorem ent18 : ∀ us w, (callFunc 18 us).run Try.prog w = .ok (.enter 18 us) w := fun us w => by kernel_rfl
set_option maxHeartbeats 4000000 in
set_option maxRecDepth 100000 in
theorem specAlgebraOf_w {W : World} {own : List Asn} {vx : Value} {ux : List Value} {hx : List Hd} {dx : List (List Int)}  (sx : IsS vx) (ex : Ent own fun w => Hds w vx ux hx) (mx : ∀ k, k < hx.length → Ent own fun w => Ints w (ux.getD k undef) (dx.getD k [])) (lx : ux.length = hx.length) (kx : dx.length = hx.length) (ax : AllS ux)  (hlx : hx.length ≤ 1073741824) (hle : ∀ k, k < hx.length → (dx.getD k []).length ≤ 1073741824) : Spec Try.prog 5 [vx] W own (fun v ow => ∃ (r2 : Value), v = .tuple #[.agg #[.int .i64 (alP hx dx), .int .i64 (alN hx dx), r2], .bool (alOk hx dx)] ∧ IsS r2 ∧ ow = ints 3 r2 (alD hx dx) :: own) := by
 refine Spec.enter Try.f5 _ Try.func5 rfl (n := 135) rfl rfl ?_
 refine GC.seq (GC.region ?_)
 refine G.step (OG.alloc rfl ti26 (zs := [.int .i64 (0), .int .i64 (0), .slice none 0 0]) rfl) rfl rfl rfl ?_
 rintro _ _ ⟨g1, rfl, rfl⟩
 refine G.stepD (OD.assign rfl rfl) rfl rfl rfl ?_
 refine G.nil (GE.then_ (GC.seq (GC.seq (GC.region ?_))))
 refine G.stepD (OD.move rfl rfl) rfl rfl rfl ?_
 refine G.stepD (OD.len rfl rfl et29 rfl (Ent.drop 1 ex)) rfl rfl rfl ?_
 refine G.stepD (OD.lss rfl rfl rfl) rfl rfl rfl ?_
 refine G.stepD (OD.move rfl rfl) rfl rfl rfl ?_
 rcases Bool.eq_false_or_eq_true (decide (((hx.length : Nat) : Int) < 1)) with hg2 | hg2
 have hg2e := hg2
 refine G.at [] 0 (env' := [(0, vx), (2, .pointer (some ⟨g1, 0, none⟩)), (3, .bool false), (13, vx), (14, .int .i64 ((hx.length : Nat))), (15, .bool true), (16, .bool true)]) (⟨rfl, rfl, rfl, rfl, rfl, (congrArg (fun b => some (Value.bool b)) hg2e), (congrArg (fun b => some (Value.bool b)) hg2e), trivial⟩) rfl ?_
 replace hg2 := of_decide_eq_true hg2
 refine G.skipG rfl rfl rfl rfl rfl rfl (G.skipG rfl rfl rfl rfl rfl rfl (G.skipG rfl rfl rfl rfl rfl rfl ?_))
 refine G.stepD (OD.pickT rfl rfl rfl) rfl rfl rfl ?_
 refine G.nil (GE.then_ (GC.condT rfl (GC.seq (GC.region ?_))))
 refine G.stepD (OD.build (idx := []) (xs := []) (vs := []) (cs := []) (zs := [.int .i64 (0), .int .i64 (0), .slice none 0 0]) (r := [.int .i64 (0), .int .i64 (0), .slice none 0 0]) rfl ti26 rfl rfl rfl trivial rfl) rfl rfl rfl ?_
 refine G.stepD0 (OD.store rfl ti26 rfl rfl (us := [.int .i64 (0), .int .i64 (0), .slice none 0 0]) rfl rfl rfl (i := 0) rfl rfl) rfl rfl ?_
 refine G.stepD (OD.assign rfl rfl) rfl rfl rfl ?_
 refine G.nil (GE.then_ (GC.ret (GE.passR ?_)))
 refine GE.nilInts 3 ?_
 exact GE.body [0] 1 (resN rfl (RVs.cons (rv_cells ti26 rfl (i := 1) rfl rfl) (RVs.cons (rv_tmp rfl) RVs.nil)) rfl) rfl (⟨(.slice none 0 0), congr (congr (congrArg (fun (a0 : Int) (a1 : Int) (a3 : Bool) => (.tuple #[.agg #[.int .i64 (a0), .int .i64 (a1), (.slice none 0 0)], .bool (a3)] : Value)) ((by rw [alP, (show alOk hx dx = false from by first | exact alOk_no2 (by assumption) | exact alOk_no1 (aoB_few (by omega)) | exact alOk_no1 (aoB_no (by first | exact aoK_no1 (show matOkB ⟨(hx.getD k hd0).1, (hx.getD k hd0).2.1, (hx.getD k hd0).2.2, dx.getD k []⟩ = false by assumption) | exact aoK_no2 (show ¬ (hx.getD k hd0).2.1 = (hx.getD k hd0).2.2 by omega) | exact aoK_no3 (show ¬ (hx.getD k hd0).2.1 = (hx.getD 0 hd0).2.1 by omega) | exact aoK_no4 (show ¬ (hx.getD k hd0).1 = (hx.getD 0 hd0).1 by omega)) (by omega)))] <;> rfl : (0 : Int) = alP hx dx))) ((by rw [alN, (show alOk hx dx = false from by first | exact alOk_no2 (by assumption) | exact alOk_no1 (aoB_few (by omega)) | exact alOk_no1 (aoB_no (by first | exact aoK_no1 (show matOkB ⟨(hx.getD k hd0).1, (hx.getD k hd0).2.1, (hx.getD k hd0).2.2, dx.getD k []⟩ = false by assumption) | exact aoK_no2 (show ¬ (hx.getD k hd0).2.1 = (hx.getD k hd0).2.2 by omega) | exact aoK_no3 (show ¬ (hx.getD k hd0).2.1 = (hx.getD 0 hd0).2.1 by omega) | exact aoK_no4 (show ¬ (hx.getD k hd0).1 = (hx.getD 0 hd0).1 by omega)) (by omega)))] <;> rfl : (0 : Int) = alN hx dx))) (((show alOk hx dx = false from by first | exact alOk_no2 (by assumption) | exact alOk_no1 (aoB_few (by omega)) | exact alOk_no1 (aoB_no (by first | exact aoK_no1 (show matOkB ⟨(hx.getD k hd0).1, (hx.getD k hd0).2.1, (hx.getD k hd0).2.2, dx.getD k []⟩ = false by assumption) | exact aoK_no2 (show ¬ (hx.getD k hd0).2.1 = (hx.getD k hd0).2.2 by omega) | exact aoK_no3 (show ¬ (hx.getD k hd0).2.1 = (hx.getD 0 hd0).2.1 by omega) | exact aoK_no4 (show ¬ (hx.getD k hd0).1 = (hx.getD 0 hd0).1 by omega)) (by omega))).symm : (false : Bool) = alOk hx dx)), IsS.nil, congrArg (fun (l0 : List Int) => ints 3 (.slice none 0 0) l0 :: own) ((by rw [alD, (show alOk hx dx = false from by first | exact alOk_no2 (by assumption) | exact alOk_no1 (aoB_few (by omega)) | exact alOk_no1 (aoB_no (by first | exact aoK_no1 (show matOkB ⟨(hx.getD k hd0).1, (hx.getD k hd0).2.1, (hx.getD k hd0).2.2, dx.getD k []⟩ = false by assumption) | exact aoK_no2 (show ¬ (hx.getD k hd0).2.1 = (hx.getD k hd0).2.2 by omega) | exact aoK_no3 (show ¬ (hx.getD k hd0).2.1 = (hx.getD 0 hd0).2.1 by omega) | exact aoK_no4 (show ¬ (hx.getD k hd0).1 = (hx.getD 0 hd0).1 by omega)) (by omega)))] <;> rfl : [] = alD hx dx))⟩)
 have hg2e := hg2
 refine G.at [] 0 (env' := [(0, vx), (2, .pointer (some ⟨g1, 0, none⟩)), (3, .bool false), (13, vx), (14, .int .i64 ((hx.length : Nat))), (15, .bool false), (16, .bool false)]) (⟨rfl, rfl, rfl, rfl, rfl, (congrArg (fun b => some (Value.bool b)) hg2e), (congrArg (fun b => some (Value.bool b)) hg2e), trivial⟩) rfl ?_
 replace hg2 := of_decide_eq_false hg2
 refine G.stepGD (OD.move rfl rfl) rfl rfl rfl rfl rfl ?_
 refine G.stepGD (OD.len rfl rfl et29 rfl (Ent.drop 1 ex)) rfl rfl rfl rfl rfl ?_
 refine G.stepGD (OD.gtr rfl rfl rfl) rfl rfl rfl rfl rfl ?_
 refine G.stepD (OD.pickF rfl rfl rfl) rfl rfl rfl ?_
 refine G.nil (GE.then_ ?_)
 refine GC.cond rfl (fun hc3 => ?_) (fun hc3 => ?_)
 replace hc3 := of_decide_eq_true hc3
 refine GC.seq (GC.region ?_)
 refine G.stepD (OD.build (idx := []) (xs := []) (vs := []) (cs := []) (zs := [.int .i64 (0), .int .i64 (0), .slice none 0 0]) (r := [.int .i64 (0), .int .i64 (0), .slice none 0 0]) rfl ti26 rfl rfl rfl trivial rfl) rfl rfl rfl ?_
 refine G.stepD0 (OD.store rfl ti26 rfl rfl (us := [.int .i64 (0), .int .i64 (0), .slice none 0 0]) rfl rfl rfl (i := 0) rfl rfl) rfl rfl ?_
 refine G.stepD (OD.assign rfl rfl) rfl rfl rfl ?_
 refine G.nil (GE.then_ (GC.ret (GE.passR ?_)))
 refine GE.nilInts 3 ?_
 exact GE.body [0] 1 (resN rfl (RVs.cons (rv_cells ti26 rfl (i := 1) rfl rfl) (RVs.cons (rv_tmp rfl) RVs.nil)) rfl) rfl (⟨(.slice none 0 0), congr (congr (congrArg (fun (a0 : Int) (a1 : Int) (a3 : Bool) => (.tuple #[.agg #[.int .i64 (a0), .int .i64 (a1), (.slice none 0 0)], .bool (a3)] : Value)) ((by rw [alP, (show alOk hx dx = false from by first | exact alOk_no2 (by assumption) | exact alOk_no1 (aoB_few (by omega)) | exact alOk_no1 (aoB_no (by first | exact aoK_no1 (show matOkB ⟨(hx.getD k hd0).1, (hx.getD k hd0).2.1, (hx.getD k hd0).2.2, dx.getD k []⟩ = false by assumption) | exact aoK_no2 (show ¬ (hx.getD k hd0).2.1 = (hx.getD k hd0).2.2 by omega) | exact aoK_no3 (show ¬ (hx.getD k hd0).2.1 = (hx.getD 0 hd0).2.1 by omega) | exact aoK_no4 (show ¬ (hx.getD k hd0).1 = (hx.getD 0 hd0).1 by omega)) (by omega)))] <;> rfl : (0 : Int) = alP hx dx))) ((by rw [alN, (show alOk hx dx = false from by first | exact alOk_no2 (by assumption) | exact alOk_no1 (aoB_few (by omega)) | exact alOk_no1 (aoB_no (by first | exact aoK_no1 (show matOkB ⟨(hx.getD k hd0).1, (hx.getD k hd0).2.1, (hx.getD k hd0).2.2, dx.getD k []⟩ = false by assumption) | exact aoK_no2 (show ¬ (hx.getD k hd0).2.1 = (hx.getD k hd0).2.2 by omega) | exact aoK_no3 (show ¬ (hx.getD k hd0).2.1 = (hx.getD 0 hd0).2.1 by omega) | exact aoK_no4 (show ¬ (hx.getD k hd0).1 = (hx.getD 0 hd0).1 by omega)) (by omega)))] <;> rfl : (0 : Int) = alN hx dx))) (((show alOk hx dx = false from by first | exact alOk_no2 (by assumption) | exact alOk_no1 (aoB_few (by omega)) | exact alOk_no1 (aoB_no (by first | exact aoK_no1 (show matOkB ⟨(hx.getD k hd0).1, (hx.getD k hd0).2.1, (hx.getD k hd0).2.2, dx.getD k []⟩ = false by assumption) | exact aoK_no2 (show ¬ (hx.getD k hd0).2.1 = (hx.getD k hd0).2.2 by omega) | exact aoK_no3 (show ¬ (hx.getD k hd0).2.1 = (hx.getD 0 hd0).2.1 by omega) | exact aoK_no4 (show ¬ (hx.getD k hd0).1 = (hx.getD 0 hd0).1 by omega)) (by omega))).symm : (false : Bool) = alOk hx dx)), IsS.nil, congrArg (fun (l0 : List Int) => ints 3 (.slice none 0 0) l0 :: own) ((by rw [alD, (show alOk hx dx = false from by first | exact alOk_no2 (by assumption) | exact alOk_no1 (aoB_few (by omega)) | exact alOk_no1 (aoB_no (by first | exact aoK_no1 (show matOkB ⟨(hx.getD k hd0).1, (hx.getD k hd0).2.1, (hx.getD k hd0).2.2, dx.getD k []⟩ = false by assumption) | exact aoK_no2 (show ¬ (hx.getD k hd0).2.1 = (hx.getD k hd0).2.2 by omega) | exact aoK_no3 (show ¬ (hx.getD k hd0).2.1 = (hx.getD 0 hd0).2.1 by omega) | exact aoK_no4 (show ¬ (hx.getD k hd0).1 = (hx.getD 0 hd0).1 by omega)) (by omega)))] <;> rfl : [] = alD hx dx))⟩)
 replace hc3 := of_decide_eq_false hc3
 refine GC.skip (GE.then_ (GC.seq (GC.region ?_)))
 refine G.step (OG.buildLst (xs := []) (us := []) rfl et39 rfl rfl rfl rfl rfl) rfl rfl rfl ?_
 rintro v4 _ ⟨hs5, rfl⟩
 refine G.stepD (OD.assign rfl rfl) rfl rfl rfl ?_
 refine G.nil (GE.then_ (GC.seq (GC.seq (GC.region ?_))))
 refine G.stepD (OD.assign rfl rfl) rfl rfl rfl ?_
 refine G.nil (GE.then_ (GC.block ?_))
 refine GC.ownEq (own' := lst 24 v4 (ux.take 0) :: box g1 26 [.int .i64 (0), .int .i64 (0), .slice none 0 0] :: own) (rfl) ?_
 refine GC.loop (ι := Nat × Value) (fun ⟨k, v⟩ => [(0, vx), (2, .pointer (some ⟨g1, 0, none⟩)), (4, v), (5, .int .i64 ((k : Int)))]) (fun ⟨k, v⟩ => lst 24 v (ux.take k) :: box g1 26 [.int .i64 (0), .int .i64 (0), .slice none 0 0] :: own) (fun ⟨k, v⟩ => (k ≤ hx.length) ∧ (IsS v) ∧ (∀ q, q < k → aoK hx dx q = true)) (fun ⟨k, v⟩ => hx.length - k) (0, v4) (⟨by omega, hs5, fun q hq => absurd hq (by omega)⟩) ⟨rfl, rfl, rfl, rfl, trivial⟩ [] 0 rfl ?_
 rintro ⟨k, v⟩ ⟨hk, hv, hall⟩
 have htl : (ux.take k).length = k := by rw [List.length_take]; omega
 refine GC.seq (GC.seq (GC.region ?_))
 refine G.stepD (OD.move rfl rfl) rfl rfl rfl ?_
 refine G.stepD (OD.move rfl rfl) rfl rfl rfl ?_
 refine G.stepD (OD.len rfl rfl et29 rfl (Ent.drop 2 ex)) rfl rfl rfl ?_
 refine G.stepD (OD.lss rfl rfl rfl) rfl rfl rfl ?_
 refine G.nil (GE.then_ ?_)
 refine GC.cond rfl (fun hc6 => ?_) (fun hc6 => ?_)
 replace hc6 := of_decide_eq_true hc6
 refine GC.skip (GE.then_ (GC.seq (GC.block (GC.seq (GC.seq ?_)))))
 rcases Bool.eq_false_or_eq_true (!(matOkB ⟨(hx.getD (k) hd0).1, (hx.getD (k) hd0).2.1, (hx.getD (k) hd0).2.2, dx.getD (k) []⟩)) with hg7 | hg7
 have hg7p := hg7
 replace hg7p := eq_false_of_not hg7p
 refine GC.at [] 0 (env' := [(0, vx), (2, .pointer (some ⟨g1, 0, none⟩)), (4, v), (5, .int .i64 ((k : Int)))]) ⟨rfl, rfl, rfl, rfl, trivial⟩ rfl ?_
 refine GC.par (its := [⟨29, [], [], [], [], fun _ => vx, fun _ => True, fun _ => []⟩,
     ⟨30, [], [], [], [], fun _ => .int .i64 ((k : Int)), fun _ => True, fun _ => []⟩,
     ⟨31, [(0, 29), (1, 30)], [], [], [], fun _ => elemPtr vx 4 (k), fun _ => True, fun _ => []⟩,
     ⟨32, [(2, 31)], [], [], [], fun _ => .agg #[.int .i64 ((hx.getD (k) hd0).1), .int .i64 ((hx.getD (k) hd0).2.1), .int .i64 ((hx.getD (k) hd0).2.2), (ux.getD (k) undef)], fun _ => True, fun _ => []⟩,
     ⟨33, [(3, 32)], [], [], [], fun _ => .bool (matOkB ⟨(hx.getD (k) hd0).1, (hx.getD (k) hd0).2.1, (hx.getD (k) hd0).2.2, dx.getD (k) []⟩), fun _ => True, fun _ => []⟩,
     ⟨34, [(4, 33)], [], [], [], fun _ => .bool true, fun _ => True, fun _ => []⟩,
     ⟨35, [(5, 34)], [], [], [], fun _ => .bool true, fun _ => True, fun _ => []⟩,
     ⟨36, [(6, 35)], [], [], [], fun _ => undef, fun _ => True, fun _ => []⟩,
     ⟨37, [(6, 35)], [], [], [], fun _ => undef, fun _ => True, fun _ => []⟩,
     ⟨38, [(6, 35), (7, 36), (8, 37)], [], [], [], fun _ => undef, fun _ => True, fun _ => []⟩,
     ⟨39, [(6, 35), (9, 38)], [], [], [], fun _ => undef, fun _ => True, fun _ => []⟩,
     ⟨40, [(6, 35), (10, 39)], [], [], [], fun _ => undef, fun _ => True, fun _ => []⟩,
     ⟨41, [(6, 35)], [], [], [], fun _ => undef, fun _ => True, fun _ => []⟩,
     ⟨42, [(6, 35), (12, 41)], [], [], [], fun _ => undef, fun _ => True, fun _ => []⟩,
     ⟨43, [(6, 35), (13, 42)], [], [], [], fun _ => undef, fun _ => True, fun _ => []⟩,
     ⟨44, [(6, 35), (14, 43)], [], [], [], fun _ => undef, fun _ => True, fun _ => []⟩,
     ⟨45, [(6, 35), (11, 40), (15, 44)], [], [], [], fun _ => undef, fun _ => True, fun _ => []⟩,
     ⟨46, [(6, 35), (16, 45)], [], [], [], fun _ => .bool true, fun _ => True, fun _ => []⟩,
     ⟨47, [(17, 46)], [], [], [], fun _ => .bool true, fun _ => True, fun _ => []⟩,
     ⟨48, [(18, 47)], [], [], [], fun _ => undef, fun _ => True, fun _ => []⟩,
     ⟨49, [(18, 47)], [], [], [], fun _ => undef, fun _ => True, fun _ => []⟩,
     ⟨50, [(18, 47), (19, 48), (20, 49)], [], [], [], fun _ => undef, fun _ => True, fun _ => []⟩,
     ⟨51, [(18, 47), (21, 50)], [], [], [], fun _ => undef, fun _ => True, fun _ => []⟩,
     ⟨52, [(18, 47), (22, 51)], [], [], [], fun _ => undef, fun _ => True, fun _ => []⟩,
     ⟨53, [(18, 47)], [], [], [], fun _ => undef, fun _ => True, fun _ => []⟩,
     ⟨54, [(18, 47)], [], [], [], fun _ => undef, fun _ => True, fun _ => []⟩,
     ⟨55, [(18, 47), (24, 53), (25, 54)], [], [], [], fun _ => undef, fun _ => True, fun _ => []⟩,
     ⟨56, [(18, 47), (26, 55)], [], [], [], fun _ => undef, fun _ => True, fun _ => []⟩,
     ⟨57, [(18, 47), (27, 56)], [], [], [], fun _ => undef, fun _ => True, fun _ => []⟩,
     ⟨58, [(18, 47), (23, 52), (28, 57)], [], [], [], fun _ => undef, fun _ => True, fun _ => []⟩,
     ⟨59, [(18, 47), (29, 58)], [], [], [], fun _ => .bool true, fun _ => True, fun _ => []⟩,
     ⟨60, [(30, 59)], [], [], [], fun _ => .bool true, fun _ => True, fun _ => []⟩,
     ⟨61, [(31, 60)], [], [], [], fun _ => undef, fun _ => True, fun _ => []⟩,
     ⟨62, [(31, 60)], [], [], [], fun _ => undef, fun _ => True, fun _ => []⟩,
     ⟨63, [(31, 60), (32, 61), (33, 62)], [], [], [], fun _ => undef, fun _ => True, fun _ => []⟩,
     ⟨64, [(31, 60), (34, 63)], [], [], [], fun _ => undef, fun _ => True, fun _ => []⟩,
     ⟨65, [(31, 60), (35, 64)], [], [], [], fun _ => undef, fun _ => True, fun _ => []⟩,
     ⟨66, [(31, 60)], [], [], [], fun _ => undef, fun _ => True, fun _ => []⟩,
     ⟨67, [(31, 60), (37, 66)], [], [], [], fun _ => undef, fun _ => True, fun _ => []⟩,
     ⟨68, [(31, 60), (38, 67)], [], [], [], fun _ => undef, fun _ => True, fun _ => []⟩,
     ⟨69, [(31, 60), (39, 68)], [], [], [], fun _ => undef, fun _ => True, fun _ => []⟩,
     ⟨70, [(31, 60), (36, 65), (40, 69)], [], [], [], fun _ => undef, fun _ => True, fun _ => []⟩,
     ⟨71, [(31, 60), (41, 70)], [], [], [], fun _ => .bool true, fun _ => True, fun _ => []⟩]) (by kernel_rfl) (by kernel_rfl) (POps.cons ?_ (POps.cons ?_ (POps.cons ?_ (POps.cons ?_ (POps.cons ?_ (POps.cons ?_ (POps.cons ?_ (POps.cons ?_ (POps.cons ?_ (POps.cons ?_ (POps.cons ?_ (POps.cons ?_ (POps.cons ?_ (POps.cons ?_ (POps.cons ?_ (POps.cons ?_ (POps.cons ?_ (POps.cons ?_ (POps.cons ?_ (POps.cons ?_ (POps.cons ?_ (POps.cons ?_ (POps.cons ?_ (POps.cons ?_ (POps.cons ?_ (POps.cons ?_ (POps.cons ?_ (POps.cons ?_ (POps.cons ?_ (POps.cons ?_ (POps.cons ?_ (POps.cons ?_ (POps.cons ?_ (POps.cons ?_ (POps.cons ?_ (POps.cons ?_ (POps.cons ?_ (POps.cons ?_ (POps.cons ?_ (POps.cons ?_ (POps.cons ?_ (POps.cons ?_ (POps.cons ?_ POps.nil))))))))))))))))))))))))))))))))))))))))))) ?_
 intro θ R hd
 exact Opp.plain (OG.imp (OD.move rfl rfl) (by rintro _ _ ⟨rfl, rfl⟩; exact ⟨[], rfl, trivial, rfl⟩)) rfl
 intro θ R hd
 exact Opp.plain (OG.imp (OD.move rfl rfl) (by rintro _ _ ⟨rfl, rfl⟩; exact ⟨[], rfl, trivial, rfl⟩)) rfl
 intro θ R hd
 obtain ⟨h0d, h1d, _⟩ := hd
 exact Opp.plain (OG.imp (OD.indexAddr rfl et29 rfl (Ent.drop 2 ex.app) rfl (by omega)) (by rintro _ _ ⟨rfl, rfl⟩; exact ⟨[], rfl, trivial, rfl⟩)) rfl
 intro θ R hd
 obtain ⟨h2d, _⟩ := hd
 exact Opp.plain (OG.imp (OD.loadHd rfl ti41 rfl (Ent.drop 2 ex.app) (by omega)) (by rintro _ _ ⟨rfl, rfl⟩; exact ⟨[], rfl, trivial, rfl⟩)) rfl
 intro θ R hd
 obtain ⟨h3d, _⟩ := hd
 exact Opp.plain (OG.imp (OG.call [.agg #[.int .i64 ((hx.getD (k) hd0).1), .int .i64 ((hx.getD (k) hd0).2.1), .int .i64 ((hx.getD (k) hd0).2.2), (ux.getD (k) undef)]] ent14 rfl rfl rfl rfl (by exact (specMatrixOk_s (ax.get (by omega)) (Ent.drop 2 ((mx (k) (by omega)).app))))) (by rintro _ _ ⟨rfl, rfl⟩; exact ⟨[], rfl, trivial, rfl⟩)) rfl
 intro θ R hd
 obtain ⟨h4d, _⟩ := hd
 exact Opp.plain (OG.imp (OD.not rfl rfl) (by rintro _ _ ⟨rfl, rfl⟩; exact ⟨[], congrArg Value.bool hg7, trivial, rfl⟩)) rfl
 intro θ R hd
 obtain ⟨h5d, _⟩ := hd
 exact Opp.plain (OG.imp (OD.move rfl rfl) (by rintro _ _ ⟨rfl, rfl⟩; exact ⟨[], rfl, trivial, rfl⟩)) rfl
 intro θ R hd
 obtain ⟨h6d, _⟩ := hd
 exact Opp.off ⟨[], rfl, trivial, rfl⟩ rfl rfl rfl rfl
 intro θ R hd
 obtain ⟨h6d, _⟩ := hd
 exact Opp.off ⟨[], rfl, trivial, rfl⟩ rfl rfl rfl rfl
 intro θ R hd
 obtain ⟨h6d, h7d, h8d, _⟩ := hd
 exact Opp.off ⟨[], rfl, trivial, rfl⟩ rfl rfl rfl rfl
 intro θ R hd
 obtain ⟨h6d, h9d, _⟩ := hd
 exact Opp.off ⟨[], rfl, trivial, rfl⟩ rfl rfl rfl rfl
 intro θ R hd
 obtain ⟨h6d, h10d, _⟩ := hd
 exact Opp.off ⟨[], rfl, trivial, rfl⟩ rfl rfl rfl rfl
 intro θ R hd
 obtain ⟨h6d, _⟩ := hd
 exact Opp.off ⟨[], rfl, trivial, rfl⟩ rfl rfl rfl rfl
 intro θ R hd
 obtain ⟨h6d, h12d, _⟩ := hd
 exact Opp.off ⟨[], rfl, trivial, rfl⟩ rfl rfl rfl rfl
 intro θ R hd
 obtain ⟨h6d, h13d, _⟩ := hd
 exact Opp.off ⟨[], rfl, trivial, rfl⟩ rfl rfl rfl rfl
 intro θ R hd
 obtain ⟨h6d, h14d, _⟩ := hd
 exact Opp.off ⟨[], rfl, trivial, rfl⟩ rfl rfl rfl rfl
 intro θ R hd
 obtain ⟨h6d, h11d, h15d, _⟩ := hd
 exact Opp.off ⟨[], rfl, trivial, rfl⟩ rfl rfl rfl rfl
 intro θ R hd
 obtain ⟨h6d, h16d, _⟩ := hd
 exact Opp.plain (OG.imp (OD.pickT rfl rfl rfl) (by rintro _ _ ⟨rfl, rfl⟩; exact ⟨[], rfl, trivial, rfl⟩)) rfl
 intro θ R hd
 obtain ⟨h17d, _⟩ := hd
 exact Opp.plain (OG.imp (OD.move rfl rfl) (by rintro _ _ ⟨rfl, rfl⟩; exact ⟨[], rfl, trivial, rfl⟩)) rfl
 intro θ R hd
 obtain ⟨h18d, _⟩ := hd
 exact Opp.off ⟨[], rfl, trivial, rfl⟩ rfl rfl rfl rfl
 intro θ R hd
 obtain ⟨h18d, _⟩ := hd
 exact Opp.off ⟨[], rfl, trivial, rfl⟩ rfl rfl rfl rfl
 intro θ R hd
 obtain ⟨h18d, h19d, h20d, _⟩ := hd
 exact Opp.off ⟨[], rfl, trivial, rfl⟩ rfl rfl rfl rfl
 intro θ R hd
 obtain ⟨h18d, h21d, _⟩ := hd
 exact Opp.off ⟨[], rfl, trivial, rfl⟩ rfl rfl rfl rfl
 intro θ R hd
 obtain ⟨h18d, h22d, _⟩ := hd
 exact Opp.off ⟨[], rfl, trivial, rfl⟩ rfl rfl rfl rfl
 intro θ R hd
 obtain ⟨h18d, _⟩ := hd
 exact Opp.off ⟨[], rfl, trivial, rfl⟩ rfl rfl rfl rfl
 intro θ R hd
 obtain ⟨h18d, _⟩ := hd
 exact Opp.off ⟨[], rfl, trivial, rfl⟩ rfl rfl rfl rfl
 intro θ R hd
 obtain ⟨h18d, h24d, h25d, _⟩ := hd
 exact Opp.off ⟨[], rfl, trivial, rfl⟩ rfl rfl rfl rfl
 intro θ R hd
 obtain ⟨h18d, h26d, _⟩ := hd
 exact Opp.off ⟨[], rfl, trivial, rfl⟩ rfl rfl rfl rfl
 intro θ R hd
 obtain ⟨h18d, h27d, _⟩ := hd
 exact Opp.off ⟨[], rfl, trivial, rfl⟩ rfl rfl rfl rfl
 intro θ R hd
 obtain ⟨h18d, h23d, h28d, _⟩ := hd
 exact Opp.off ⟨[], rfl, trivial, rfl⟩ rfl rfl rfl rfl
 intro θ R hd
 obtain ⟨h18d, h29d, _⟩ := hd
 exact Opp.plain (OG.imp (OD.pickT rfl rfl rfl) (by rintro _ _ ⟨rfl, rfl⟩; exact ⟨[], rfl, trivial, rfl⟩)) rfl
 intro θ R hd
 obtain ⟨h30d, _⟩ := hd
 exact Opp.plain (OG.imp (OD.move rfl rfl) (by rintro _ _ ⟨rfl, rfl⟩; exact ⟨[], rfl, trivial, rfl⟩)) rfl
 intro θ R hd
 obtain ⟨h31d, _⟩ := hd
 exact Opp.off ⟨[], rfl, trivial, rfl⟩ rfl rfl rfl rfl
 intro θ R hd
 obtain ⟨h31d, _⟩ := hd
 exact Opp.off ⟨[], rfl, trivial, rfl⟩ rfl rfl rfl rfl
 intro θ R hd
 obtain ⟨h31d, h32d, h33d, _⟩ := hd
 exact Opp.off ⟨[], rfl, trivial, rfl⟩ rfl rfl rfl rfl
 intro θ R hd
 obtain ⟨h31d, h34d, _⟩ := hd
 exact Opp.off ⟨[], rfl, trivial, rfl⟩ rfl rfl rfl rfl
 intro θ R hd
 obtain ⟨h31d, h35d, _⟩ := hd
 exact Opp.off ⟨[], rfl, trivial, rfl⟩ rfl rfl rfl rfl
 intro θ R hd
 obtain ⟨h31d, _⟩ := hd
 exact Opp.off ⟨[], rfl, trivial, rfl⟩ rfl rfl rfl rfl
 intro θ R hd
 obtain ⟨h31d, h37d, _⟩ := hd
 exact Opp.off ⟨[], rfl, trivial, rfl⟩ rfl rfl rfl rfl
 intro θ R hd
 obtain ⟨h31d, h38d, _⟩ := hd
 exact Opp.off ⟨[], rfl, trivial, rfl⟩ rfl rfl rfl rfl
 intro θ R hd
 obtain ⟨h31d, h39d, _⟩ := hd
 exact Opp.off ⟨[], rfl, trivial, rfl⟩ rfl rfl rfl rfl
 intro θ R hd
 obtain ⟨h31d, h36d, h40d, _⟩ := hd
 exact Opp.off ⟨[], rfl, trivial, rfl⟩ rfl rfl rfl rfl
 intro θ R hd
 obtain ⟨h31d, h41d, _⟩ := hd
 exact Opp.plain (OG.imp (OD.pickT rfl rfl rfl) (by rintro _ _ ⟨rfl, rfl⟩; exact ⟨[], rfl, trivial, rfl⟩)) rfl
 intro θ hall
 obtain ⟨_, _, _, _, _, _, _, _, _, _, _, _, _, _, _, _, _, _, _, _, _, _, _, _, _, _, _, _, _, _, _, _, _, _, _, _, _, _, _, _, _, _, _, _⟩ := hall
 refine G.at [] 0 (env' := [(0, vx), (2, .pointer (some ⟨g1, 0, none⟩)), (4, v), (5, .int .i64 ((k : Int))), (71, .bool true)]) ⟨rfl, rfl, rfl, rfl, rfl, trivial⟩ (own' := lst 24 v (ux.take k) :: box g1 26 [.int .i64 (0), .int .i64 (0), .slice none 0 0] :: own) rfl ?_
 show G _ _ _ [] _ _ _ _
 refine G.nil (GE.then_ (GC.condT rfl (GC.seq (GC.region ?_))))
 refine G.stepD (OD.build (idx := []) (xs := []) (vs := []) (cs := []) (zs := [.int .i64 (0), .int .i64 (0), .slice none 0 0]) (r := [.int .i64 (0), .int .i64 (0), .slice none 0 0]) rfl ti26 rfl rfl rfl trivial rfl) rfl rfl rfl ?_
 refine G.stepD0 (OD.store rfl ti26 rfl rfl (us := [.int .i64 (0), .int .i64 (0), .slice none 0 0]) rfl rfl rfl (i := 1) rfl rfl) rfl rfl ?_
 refine G.stepD (OD.assign rfl rfl) rfl rfl rfl ?_
 refine G.nil (GE.then_ (GC.ret (GE.passR (GE.blockR (GE.passR (GE.passR (GE.blockR (GE.passR ?_))))))))
 refine GE.nilInts 3 ?_
 exact GE.body [0] 2 (resN rfl (RVs.cons (rv_cells ti26 rfl (i := 2) rfl rfl) (RVs.cons (rv_tmp rfl) RVs.nil)) rfl) rfl (⟨(.slice none 0 0), congr (congr (congrArg (fun (a0 : Int) (a1 : Int) (a3 : Bool) => (.tuple #[.agg #[.int .i64 (a0), .int .i64 (a1), (.slice none 0 0)], .bool (a3)] : Value)) ((by rw [alP, (show alOk hx dx = false from by first | exact alOk_no2 (by assumption) | exact alOk_no1 (aoB_few (by omega)) | exact alOk_no1 (aoB_no (by first | exact aoK_no1 (show matOkB ⟨(hx.getD k hd0).1, (hx.getD k hd0).2.1, (hx.getD k hd0).2.2, dx.getD k []⟩ = false by assumption) | exact aoK_no2 (show ¬ (hx.getD k hd0).2.1 = (hx.getD k hd0).2.2 by omega) | exact aoK_no3 (show ¬ (hx.getD k hd0).2.1 = (hx.getD 0 hd0).2.1 by omega) | exact aoK_no4 (show ¬ (hx.getD k hd0).1 = (hx.getD 0 hd0).1 by omega)) (by omega)))] <;> rfl : (0 : Int) = alP hx dx))) ((by rw [alN, (show alOk hx dx = false from by first | exact alOk_no2 (by assumption) | exact alOk_no1 (aoB_few (by omega)) | exact alOk_no1 (aoB_no (by first | exact aoK_no1 (show matOkB ⟨(hx.getD k hd0).1, (hx.getD k hd0).2.1, (hx.getD k hd0).2.2, dx.getD k []⟩ = false by assumption) | exact aoK_no2 (show ¬ (hx.getD k hd0).2.1 = (hx.getD k hd0).2.2 by omega) | exact aoK_no3 (show ¬ (hx.getD k hd0).2.1 = (hx.getD 0 hd0).2.1 by omega) | exact aoK_no4 (show ¬ (hx.getD k hd0).1 = (hx.getD 0 hd0).1 by omega)) (by omega)))] <;> rfl : (0 : Int) = alN hx dx))) (((show alOk hx dx = false from by first | exact alOk_no2 (by assumption) | exact alOk_no1 (aoB_few (by omega)) | exact alOk_no1 (aoB_no (by first | exact aoK_no1 (show matOkB ⟨(hx.getD k hd0).1, (hx.getD k hd0).2.1, (hx.getD k hd0).2.2, dx.getD k []⟩ = false by assumption) | exact aoK_no2 (show ¬ (hx.getD k hd0).2.1 = (hx.getD k hd0).2.2 by omega) | exact aoK_no3 (show ¬ (hx.getD k hd0).2.1 = (hx.getD 0 hd0).2.1 by omega) | exact aoK_no4 (show ¬ (hx.getD k hd0).1 = (hx.getD 0 hd0).1 by omega)) (by omega))).symm : (false : Bool) = alOk hx dx)), IsS.nil, congrArg (fun (l0 : List Int) => ints 3 (.slice none 0 0) l0 :: own) ((by rw [alD, (show alOk hx dx = false from by first | exact alOk_no2 (by assumption) | exact alOk_no1 (aoB_few (by omega)) | exact alOk_no1 (aoB_no (by first | exact aoK_no1 (show matOkB ⟨(hx.getD k hd0).1, (hx.getD k hd0).2.1, (hx.getD k hd0).2.2, dx.getD k []⟩ = false by assumption) | exact aoK_no2 (show ¬ (hx.getD k hd0).2.1 = (hx.getD k hd0).2.2 by omega) | exact aoK_no3 (show ¬ (hx.getD k hd0).2.1 = (hx.getD 0 hd0).2.1 by omega) | exact aoK_no4 (show ¬ (hx.getD k hd0).1 = (hx.getD 0 hd0).1 by omega)) (by omega)))] <;> rfl : [] = alD hx dx))⟩)
 have hg7p := hg7
 replace hg7p := eq_true_of_not hg7p
 rcases Bool.eq_false_or_eq_true (((hx.getD (k) hd0).1) != ((hx.getD (0) hd0).1)) with hg8 | hg8
 have hg8p := hg8
 replace hg8p := ne_of_bne hg8p
 refine GC.at [] 0 (env' := [(0, vx), (2, .pointer (some ⟨g1, 0, none⟩)), (4, v), (5, .int .i64 ((k : Int)))]) ⟨rfl, rfl, rfl, rfl, trivial⟩ rfl ?_
 refine GC.par (its := [⟨29, [], [], [], [], fun _ => vx, fun _ => True, fun _ => []⟩,
     ⟨30, [], [], [], [], fun _ => .int .i64 ((k : Int)), fun _ => True, fun _ => []⟩,
     ⟨31, [(0, 29), (1, 30)], [], [], [], fun _ => elemPtr vx 4 (k), fun _ => True, fun _ => []⟩,
     ⟨32, [(2, 31)], [], [], [], fun _ => .agg #[.int .i64 ((hx.getD (k) hd0).1), .int .i64 ((hx.getD (k) hd0).2.1), .int .i64 ((hx.getD (k) hd0).2.2), (ux.getD (k) undef)], fun _ => True, fun _ => []⟩,
     ⟨33, [(3, 32)], [], [], [], fun _ => .bool (matOkB ⟨(hx.getD (k) hd0).1, (hx.getD (k) hd0).2.1, (hx.getD (k) hd0).2.2, dx.getD (k) []⟩), fun _ => True, fun _ => []⟩,
     ⟨34, [(4, 33)], [], [], [], fun _ => .bool false, fun _ => True, fun _ => []⟩,
     ⟨35, [(5, 34)], [], [], [], fun _ => .bool false, fun _ => True, fun _ => []⟩,
     ⟨36, [(6, 35)], [], [], [], fun _ => vx, fun _ => True, fun _ => []⟩,
     ⟨37, [(6, 35)], [], [], [], fun _ => .int .i64 ((k : Int)), fun _ => True, fun _ => []⟩,
     ⟨38, [(6, 35), (7, 36), (8, 37)], [], [], [], fun _ => elemPtr vx 4 (k), fun _ => True, fun _ => []⟩,
     ⟨39, [(6, 35), (9, 38)], [], [], [], fun _ => elemPtrF vx 4 (k) 0, fun _ => True, fun _ => []⟩,
     ⟨40, [(6, 35), (10, 39)], [], [], [], fun _ => .int .i64 ((hx.getD (k) hd0).1), fun _ => True, fun _ => []⟩,
     ⟨41, [(6, 35)], [], [], [], fun _ => vx, fun _ => True, fun _ => []⟩,
     ⟨42, [(6, 35), (12, 41)], [], [], [], fun _ => elemPtr vx 4 (0), fun _ => True, fun _ => []⟩,
     ⟨43, [(6, 35), (13, 42)], [], [], [], fun _ => elemPtrF vx 4 (0) 0, fun _ => True, fun _ => []⟩,
     ⟨44, [(6, 35), (14, 43)], [], [], [], fun _ => .int .i64 ((hx.getD (0) hd0).1), fun _ => True, fun _ => []⟩,
     ⟨45, [(6, 35), (11, 40), (15, 44)], [], [], [], fun _ => .bool true, fun _ => True, fun _ => []⟩,
     ⟨46, [(6, 35), (16, 45)], [], [], [], fun _ => .bool true, fun _ => True, fun _ => []⟩,
     ⟨47, [(17, 46)], [], [], [], fun _ => .bool true, fun _ => True, fun _ => []⟩,
     ⟨48, [(18, 47)], [], [], [], fun _ => undef, fun _ => True, fun _ => []⟩,
     ⟨49, [(18, 47)], [], [], [], fun _ => undef, fun _ => True, fun _ => []⟩,
     ⟨50, [(18, 47), (19, 48), (20, 49)], [], [], [], fun _ => undef, fun _ => True, fun _ => []⟩,
     ⟨51, [(18, 47), (21, 50)], [], [], [], fun _ => undef, fun _ => True, fun _ => []⟩,
     ⟨52, [(18, 47), (22, 51)], [], [], [], fun _ => undef, fun _ => True, fun _ => []⟩,
     ⟨53, [(18, 47)], [], [], [], fun _ => undef, fun _ => True, fun _ => []⟩,
     ⟨54, [(18, 47)], [], [], [], fun _ => undef, fun _ => True, fun _ => []⟩,
     ⟨55, [(18, 47), (24, 53), (25, 54)], [], [], [], fun _ => undef, fun _ => True, fun _ => []⟩,
     ⟨56, [(18, 47), (26, 55)], [], [], [], fun _ => undef, fun _ => True, fun _ => []⟩,
     ⟨57, [(18, 47), (27, 56)], [], [], [], fun _ => undef, fun _ => True, fun _ => []⟩,
     ⟨58, [(18, 47), (23, 52), (28, 57)], [], [], [], fun _ => undef, fun _ => True, fun _ => []⟩,
     ⟨59, [(18, 47), (29, 58)], [], [], [], fun _ => .bool true, fun _ => True, fun _ => []⟩,
     ⟨60, [(30, 59)], [], [], [], fun _ => .bool true, fun _ => True, fun _ => []⟩,
     ⟨61, [(31, 60)], [], [], [], fun _ => undef, fun _ => True, fun _ => []⟩,
     ⟨62, [(31, 60)], [], [], [], fun _ => undef, fun _ => True, fun _ => []⟩,
     ⟨63, [(31, 60), (32, 61), (33, 62)], [], [], [], fun _ => undef, fun _ => True, fun _ => []⟩,
     ⟨64, [(31, 60), (34, 63)], [], [], [], fun _ => undef, fun _ => True, fun _ => []⟩,
     ⟨65, [(31, 60), (35, 64)], [], [], [], fun _ => undef, fun _ => True, fun _ => []⟩,
     ⟨66, [(31, 60)], [], [], [], fun _ => undef, fun _ => True, fun _ => []⟩,
     ⟨67, [(31, 60), (37, 66)], [], [], [], fun _ => undef, fun _ => True, fun _ => []⟩,
     ⟨68, [(31, 60), (38, 67)], [], [], [], fun _ => undef, fun _ => True, fun _ => []⟩,
     ⟨69, [(31, 60), (39, 68)], [], [], [], fun _ => undef, fun _ => True, fun _ => []⟩,
     ⟨70, [(31, 60), (36, 65), (40, 69)], [], [], [], fun _ => undef, fun _ => True, fun _ => []⟩,
     ⟨71, [(31, 60), (41, 70)], [], [], [], fun _ => .bool true, fun _ => True, fun _ => []⟩]) (by kernel_rfl) (by kernel_rfl) (POps.cons ?_ (POps.cons ?_ (POps.cons ?_ (POps.cons ?_ (POps.cons ?_ (POps.cons ?_ (POps.cons ?_ (POps.cons ?_ (POps.cons ?_ (POps.cons ?_ (POps.cons ?_ (POps.cons ?_ (POps.cons ?_ (POps.cons ?_ (POps.cons ?_ (POps.cons ?_ (POps.cons ?_ (POps.cons ?_ (POps.cons ?_ (POps.cons ?_ (POps.cons ?_ (POps.cons ?_ (POps.cons ?_ (POps.cons ?_ (POps.cons ?_ (POps.cons ?_ (POps.cons ?_ (POps.cons ?_ (POps.cons ?_ (POps.cons ?_ (POps.cons ?_ (POps.cons ?_ (POps.cons ?_ (POps.cons ?_ (POps.cons ?_ (POps.cons ?_ (POps.cons ?_ (POps.cons ?_ (POps.cons ?_ (POps.cons ?_ (POps.cons ?_ (POps.cons ?_ (POps.cons ?_ POps.nil))))))))))))))))))))))))))))))))))))))))))) ?_
 intro θ R hd
 exact Opp.plain (OG.imp (OD.move rfl rfl) (by rintro _ _ ⟨rfl, rfl⟩; exact ⟨[], rfl, trivial, rfl⟩)) rfl
 intro θ R hd
 exact Opp.plain (OG.imp (OD.move rfl rfl) (by rintro _ _ ⟨rfl, rfl⟩; exact ⟨[], rfl, trivial, rfl⟩)) rfl
 intro θ R hd
 obtain ⟨h0d, h1d, _⟩ := hd
 exact Opp.plain (OG.imp (OD.indexAddr rfl et29 rfl (Ent.drop 2 ex.app) rfl (by omega)) (by rintro _ _ ⟨rfl, rfl⟩; exact ⟨[], rfl, trivial, rfl⟩)) rfl
 intro θ R hd
 obtain ⟨h2d, _⟩ := hd
 exact Opp.plain (OG.imp (OD.loadHd rfl ti41 rfl (Ent.drop 2 ex.app) (by omega)) (by rintro _ _ ⟨rfl, rfl⟩; exact ⟨[], rfl, trivial, rfl⟩)) rfl
 intro θ R hd
 obtain ⟨h3d, _⟩ := hd
 exact Opp.plain (OG.imp (OG.call [.agg #[.int .i64 ((hx.getD (k) hd0).1), .int .i64 ((hx.getD (k) hd0).2.1), .int .i64 ((hx.getD (k) hd0).2.2), (ux.getD (k) undef)]] ent14 rfl rfl rfl rfl (by exact (specMatrixOk_s (ax.get (by omega)) (Ent.drop 2 ((mx (k) (by omega)).app))))) (by rintro _ _ ⟨rfl, rfl⟩; exact ⟨[], rfl, trivial, rfl⟩)) rfl
 intro θ R hd
 obtain ⟨h4d, _⟩ := hd
 exact Opp.plain (OG.imp (OD.not rfl rfl) (by rintro _ _ ⟨rfl, rfl⟩; exact ⟨[], congrArg Value.bool hg7, trivial, rfl⟩)) rfl
 intro θ R hd
 obtain ⟨h5d, _⟩ := hd
 exact Opp.plain (OG.imp (OD.move rfl rfl) (by rintro _ _ ⟨rfl, rfl⟩; exact ⟨[], rfl, trivial, rfl⟩)) rfl
 intro θ R hd
 obtain ⟨h6d, _⟩ := hd
 exact Opp.on (OG.imp (OD.move rfl rfl) (by rintro _ _ ⟨rfl, rfl⟩; exact ⟨[], rfl, trivial, rfl⟩)) rfl rfl rfl
 intro θ R hd
 obtain ⟨h6d, _⟩ := hd
 exact Opp.on (OG.imp (OD.move rfl rfl) (by rintro _ _ ⟨rfl, rfl⟩; exact ⟨[], rfl, trivial, rfl⟩)) rfl rfl rfl
 intro θ R hd
 obtain ⟨h6d, h7d, h8d, _⟩ := hd
 exact Opp.on (OG.imp (OD.indexAddr rfl et29 rfl (Ent.drop 2 ex.app) rfl (by omega)) (by rintro _ _ ⟨rfl, rfl⟩; exact ⟨[], rfl, trivial, rfl⟩)) rfl rfl rfl
 intro θ R hd
 obtain ⟨h6d, h9d, _⟩ := hd
 exact Opp.on (OG.imp (OD.fieldAddrE rfl rfl (Ent.drop 2 ex.app) (by omega) fa41_0) (by rintro _ _ ⟨rfl, rfl⟩; exact ⟨[], rfl, trivial, rfl⟩)) rfl rfl rfl
 intro θ R hd
 obtain ⟨h6d, h10d, _⟩ := hd
 exact Opp.on (OG.imp (OD.loadField rfl ti3 rfl (Ent.drop 2 ex.app) (by omega) (by decide) (hdR_f0 (by omega))) (by rintro _ _ ⟨rfl, rfl⟩; exact ⟨[], rfl, trivial, rfl⟩)) rfl rfl rfl
 intro θ R hd
 obtain ⟨h6d, _⟩ := hd
 exact Opp.on (OG.imp (OD.move rfl rfl) (by rintro _ _ ⟨rfl, rfl⟩; exact ⟨[], rfl, trivial, rfl⟩)) rfl rfl rfl
 intro θ R hd
 obtain ⟨h6d, h12d, _⟩ := hd
 exact Opp.on (OG.imp (OD.indexAddr rfl et29 rfl (Ent.drop 2 ex.app) rfl (by omega)) (by rintro _ _ ⟨rfl, rfl⟩; exact ⟨[], rfl, trivial, rfl⟩)) rfl rfl rfl
 intro θ R hd
 obtain ⟨h6d, h13d, _⟩ := hd
 exact Opp.on (OG.imp (OD.fieldAddrE rfl rfl (Ent.drop 2 ex.app) (by omega) fa41_0) (by rintro _ _ ⟨rfl, rfl⟩; exact ⟨[], rfl, trivial, rfl⟩)) rfl rfl rfl
 intro θ R hd
 obtain ⟨h6d, h14d, _⟩ := hd
 exact Opp.on (OG.imp (OD.loadField rfl ti3 rfl (Ent.drop 2 ex.app) (by omega) (by decide) (hdR_f0 (by omega))) (by rintro _ _ ⟨rfl, rfl⟩; exact ⟨[], rfl, trivial, rfl⟩)) rfl rfl rfl
 intro θ R hd
 obtain ⟨h6d, h11d, h15d, _⟩ := hd
 exact Opp.on (OG.imp (OD.neq rfl rfl rfl) (by rintro _ _ ⟨rfl, rfl⟩; exact ⟨[], congrArg Value.bool hg8, trivial, rfl⟩)) rfl rfl rfl
 intro θ R hd
 obtain ⟨h6d, h16d, _⟩ := hd
 exact Opp.plain (OG.imp (OD.pickF rfl rfl rfl) (by rintro _ _ ⟨rfl, rfl⟩; exact ⟨[], rfl, trivial, rfl⟩)) rfl
 intro θ R hd
 obtain ⟨h17d, _⟩ := hd
 exact Opp.plain (OG.imp (OD.move rfl rfl) (by rintro _ _ ⟨rfl, rfl⟩; exact ⟨[], rfl, trivial, rfl⟩)) rfl
 intro θ R hd
 obtain ⟨h18d, _⟩ := hd
 exact Opp.off ⟨[], rfl, trivial, rfl⟩ rfl rfl rfl rfl
 intro θ R hd
 obtain ⟨h18d, _⟩ := hd
 exact Opp.off ⟨[], rfl, trivial, rfl⟩ rfl rfl rfl rfl
 intro θ R hd
 obtain ⟨h18d, h19d, h20d, _⟩ := hd
 exact Opp.off ⟨[], rfl, trivial, rfl⟩ rfl rfl rfl rfl
 intro θ R hd
 obtain ⟨h18d, h21d, _⟩ := hd
 exact Opp.off ⟨[], rfl, trivial, rfl⟩ rfl rfl rfl rfl
 intro θ R hd
 obtain ⟨h18d, h22d, _⟩ := hd
 exact Opp.off ⟨[], rfl, trivial, rfl⟩ rfl rfl rfl rfl
 intro θ R hd
 obtain ⟨h18d, _⟩ := hd
 exact Opp.off ⟨[], rfl, trivial, rfl⟩ rfl rfl rfl rfl
 intro θ R hd
 obtain ⟨h18d, _⟩ := hd
 exact Opp.off ⟨[], rfl, trivial, rfl⟩ rfl rfl rfl rfl
 intro θ R hd
 obtain ⟨h18d, h24d, h25d, _⟩ := hd
 exact Opp.off ⟨[], rfl, trivial, rfl⟩ rfl rfl rfl rfl
 intro θ R hd
 obtain ⟨h18d, h26d, _⟩ := hd
 exact Opp.off ⟨[], rfl, trivial, rfl⟩ rfl rfl rfl rfl
 intro θ R hd
 obtain ⟨h18d, h27d, _⟩ := hd
 exact Opp.off ⟨[], rfl, trivial, rfl⟩ rfl rfl rfl rfl
 intro θ R hd
 obtain ⟨h18d, h23d, h28d, _⟩ := hd
 exact Opp.off ⟨[], rfl, trivial, rfl⟩ rfl rfl rfl rfl
 intro θ R hd
 obtain ⟨h18d, h29d, _⟩ := hd
 exact Opp.plain (OG.imp (OD.pickT rfl rfl rfl) (by rintro _ _ ⟨rfl, rfl⟩; exact ⟨[], rfl, trivial, rfl⟩)) rfl
 intro θ R hd
 obtain ⟨h30d, _⟩ := hd
 exact Opp.plain (OG.imp (OD.move rfl rfl) (by rintro _ _ ⟨rfl, rfl⟩; exact ⟨[], rfl, trivial, rfl⟩)) rfl
 intro θ R hd
 obtain ⟨h31d, _⟩ := hd
 exact Opp.off ⟨[], rfl, trivial, rfl⟩ rfl rfl rfl rfl
 intro θ R hd
 obtain ⟨h31d, _⟩ := hd
 exact Opp.off ⟨[], rfl, trivial, rfl⟩ rfl rfl rfl rfl
 intro θ R hd
 obtain ⟨h31d, h32d, h33d, _⟩ := hd
 exact Opp.off ⟨[], rfl, trivial, rfl⟩ rfl rfl rfl rfl
 intro θ R hd
 obtain ⟨h31d, h34d, _⟩ := hd
 exact Opp.off ⟨[], rfl, trivial, rfl⟩ rfl rfl rfl rfl
 intro θ R hd
 obtain ⟨h31d, h35d, _⟩ := hd
 exact Opp.off ⟨[], rfl, trivial, rfl⟩ rfl rfl rfl rfl
 intro θ R hd
 obtain ⟨h31d, _⟩ := hd
 exact Opp.off ⟨[], rfl, trivial, rfl⟩ rfl rfl rfl rfl
 intro θ R hd
 obtain ⟨h31d, h37d, _⟩ := hd
 exact Opp.off ⟨[], rfl, trivial, rfl⟩ rfl rfl rfl rfl
 intro θ R hd
 obtain ⟨h31d, h38d, _⟩ := hd
 exact Opp.off ⟨[], rfl, trivial, rfl⟩ rfl rfl rfl rfl
 intro θ R hd
 obtain ⟨h31d, h39d, _⟩ := hd
 exact Opp.off ⟨[], rfl, trivial, rfl⟩ rfl rfl rfl rfl
 intro θ R hd
 obtain ⟨h31d, h36d, h40d, _⟩ := hd
 exact Opp.off ⟨[], rfl, trivial, rfl⟩ rfl rfl rfl rfl
 intro θ R hd
 obtain ⟨h31d, h41d, _⟩ := hd
 exact Opp.plain (OG.imp (OD.pickT rfl rfl rfl) (by rintro _ _ ⟨rfl, rfl⟩; exact ⟨[], rfl, trivial, rfl⟩)) rfl
 intro θ hall
 obtain ⟨_, _, _, _, _, _, _, _, _, _, _, _, _, _, _, _, _, _, _, _, _, _, _, _, _, _, _, _, _, _, _, _, _, _, _, _, _, _, _, _, _, _, _, _⟩ := hall
 refine G.at [] 0 (env' := [(0, vx), (2, .pointer (some ⟨g1, 0, none⟩)), (4, v), (5, .int .i64 ((k : Int))), (71, .bool true)]) ⟨rfl, rfl, rfl, rfl, rfl, trivial⟩ (own' := lst 24 v (ux.take k) :: box g1 26 [.int .i64 (0), .int .i64 (0), .slice none 0 0] :: own) rfl ?_
 show G _ _ _ [] _ _ _ _
 refine G.nil (GE.then_ (GC.condT rfl (GC.seq (GC.region ?_))))
 refine G.stepD (OD.build (idx := []) (xs := []) (vs := []) (cs := []) (zs := [.int .i64 (0), .int .i64 (0), .slice none 0 0]) (r := [.int .i64 (0), .int .i64 (0), .slice none 0 0]) rfl ti26 rfl rfl rfl trivial rfl) rfl rfl rfl ?_
 refine G.stepD0 (OD.store rfl ti26 rfl rfl (us := [.int .i64 (0), .int .i64 (0), .slice none 0 0]) rfl rfl rfl (i := 1) rfl rfl) rfl rfl ?_
 refine G.stepD (OD.assign rfl rfl) rfl rfl rfl ?_
 refine G.nil (GE.then_ (GC.ret (GE.passR (GE.blockR (GE.passR (GE.passR (GE.blockR (GE.passR ?_))))))))
 refine GE.nilInts 3 ?_
 exact GE.body [0] 2 (resN rfl (RVs.cons (rv_cells ti26 rfl (i := 2) rfl rfl) (RVs.cons (rv_tmp rfl) RVs.nil)) rfl) rfl (⟨(.slice none 0 0), congr (congr (congrArg (fun (a0 : Int) (a1 : Int) (a3 : Bool) => (.tuple #[.agg #[.int .i64 (a0), .int .i64 (a1), (.slice none 0 0)], .bool (a3)] : Value)) ((by rw [alP, (show alOk hx dx = false from by first | exact alOk_no2 (by assumption) | exact alOk_no1 (aoB_few (by omega)) | exact alOk_no1 (aoB_no (by first | exact aoK_no1 (show matOkB ⟨(hx.getD k hd0).1, (hx.getD k hd0).2.1, (hx.getD k hd0).2.2, dx.getD k []⟩ = false by assumption) | exact aoK_no2 (show ¬ (hx.getD k hd0).2.1 = (hx.getD k hd0).2.2 by omega) | exact aoK_no3 (show ¬ (hx.getD k hd0).2.1 = (hx.getD 0 hd0).2.1 by omega) | exact aoK_no4 (show ¬ (hx.getD k hd0).1 = (hx.getD 0 hd0).1 by omega)) (by omega)))] <;> rfl : (0 : Int) = alP hx dx))) ((by rw [alN, (show alOk hx dx = false from by first | exact alOk_no2 (by assumption) | exact alOk_no1 (aoB_few (by omega)) | exact alOk_no1 (aoB_no (by first | exact aoK_no1 (show matOkB ⟨(hx.getD k hd0).1, (hx.getD k hd0).2.1, (hx.getD k hd0).2.2, dx.getD k []⟩ = false by assumption) | exact aoK_no2 (show ¬ (hx.getD k hd0).2.1 = (hx.getD k hd0).2.2 by omega) | exact aoK_no3 (show ¬ (hx.getD k hd0).2.1 = (hx.getD 0 hd0).2.1 by omega) | exact aoK_no4 (show ¬ (hx.getD k hd0).1 = (hx.getD 0 hd0).1 by omega)) (by omega)))] <;> rfl : (0 : Int) = alN hx dx))) (((show alOk hx dx = false from by first | exact alOk_no2 (by assumption) | exact alOk_no1 (aoB_few (by omega)) | exact alOk_no1 (aoB_no (by first | exact aoK_no1 (show matOkB ⟨(hx.getD k hd0).1, (hx.getD k hd0).2.1, (hx.getD k hd0).2.2, dx.getD k []⟩ = false by assumption) | exact aoK_no2 (show ¬ (hx.getD k hd0).2.1 = (hx.getD k hd0).2.2 by omega) | exact aoK_no3 (show ¬ (hx.getD k hd0).2.1 = (hx.getD 0 hd0).2.1 by omega) | exact aoK_no4 (show ¬ (hx.getD k hd0).1 = (hx.getD 0 hd0).1 by omega)) (by omega))).symm : (false : Bool) = alOk hx dx)), IsS.nil, congrArg (fun (l0 : List Int) => ints 3 (.slice none 0 0) l0 :: own) ((by rw [alD, (show alOk hx dx = false from by first | exact alOk_no2 (by assumption) | exact alOk_no1 (aoB_few (by omega)) | exact alOk_no1 (aoB_no (by first | exact aoK_no1 (show matOkB ⟨(hx.getD k hd0).1, (hx.getD k hd0).2.1, (hx.getD k hd0).2.2, dx.getD k []⟩ = false by assumption) | exact aoK_no2 (show ¬ (hx.getD k hd0).2.1 = (hx.getD k hd0).2.2 by omega) | exact aoK_no3 (show ¬ (hx.getD k hd0).2.1 = (hx.getD 0 hd0).2.1 by omega) | exact aoK_no4 (show ¬ (hx.getD k hd0).1 = (hx.getD 0 hd0).1 by omega)) (by omega)))] <;> rfl : [] = alD hx dx))⟩)
 have hg8p := hg8
 replace hg8p := eq_of_bne_false hg8p
 rcases Bool.eq_false_or_eq_true (((hx.getD (k) hd0).2.1) != ((hx.getD (k) hd0).2.2)) with hg9 | hg9
 have hg9p := hg9
 replace hg9p := ne_of_bne hg9p
 refine GC.at [] 0 (env' := [(0, vx), (2, .pointer (some ⟨g1, 0, none⟩)), (4, v), (5, .int .i64 ((k : Int)))]) ⟨rfl, rfl, rfl, rfl, trivial⟩ rfl ?_
 refine GC.par (its := [⟨29, [], [], [], [], fun _ => vx, fun _ => True, fun _ => []⟩,
     ⟨30, [], [], [], [], fun _ => .int .i64 ((k : Int)), fun _ => True, fun _ => []⟩,
     ⟨31, [(0, 29), (1, 30)], [], [], [], fun _ => elemPtr vx 4 (k), fun _ => True, fun _ => []⟩,
     ⟨32, [(2, 31)], [], [], [], fun _ => .agg #[.int .i64 ((hx.getD (k) hd0).1), .int .i64 ((hx.getD (k) hd0).2.1), .int .i64 ((hx.getD (k) hd0).2.2), (ux.getD (k) undef)], fun _ => True, fun _ => []⟩,
     ⟨33, [(3, 32)], [], [], [], fun _ => .bool (matOkB ⟨(hx.getD (k) hd0).1, (hx.getD (k) hd0).2.1, (hx.getD (k) hd0).2.2, dx.getD (k) []⟩), fun _ => True, fun _ => []⟩,
     ⟨34, [(4, 33)], [], [], [], fun _ => .bool false, fun _ => True, fun _ => []⟩,
     ⟨35, [(5, 34)], [], [], [], fun _ => .bool false, fun _ => True, fun _ => []⟩,
     ⟨36, [(6, 35)], [], [], [], fun _ => vx, fun _ => True, fun _ => []⟩,
     ⟨37, [(6, 35)], [], [], [], fun _ => .int .i64 ((k : Int)), fun _ => True, fun _ => []⟩,
     ⟨38, [(6, 35), (7, 36), (8, 37)], [], [], [], fun _ => elemPtr vx 4 (k), fun _ => True, fun _ => []⟩,
     ⟨39, [(6, 35), (9, 38)], [], [], [], fun _ => elemPtrF vx 4 (k) 0, fun _ => True, fun _ => []⟩,
     ⟨40, [(6, 35), (10, 39)], [], [], [], fun _ => .int .i64 ((hx.getD (k) hd0).1), fun _ => True, fun _ => []⟩,
     ⟨41, [(6, 35)], [], [], [], fun _ => vx, fun _ => True, fun _ => []⟩,
     ⟨42, [(6, 35), (12, 41)], [], [], [], fun _ => elemPtr vx 4 (0), fun _ => True, fun _ => []⟩,
     ⟨43, [(6, 35), (13, 42)], [], [], [], fun _ => elemPtrF vx 4 (0) 0, fun _ => True, fun _ => []⟩,
     ⟨44, [(6, 35), (14, 43)], [], [], [], fun _ => .int .i64 ((hx.getD (0) hd0).1), fun _ => True, fun _ => []⟩,
     ⟨45, [(6, 35), (11, 40), (15, 44)], [], [], [], fun _ => .bool false, fun _ => True, fun _ => []⟩,
     ⟨46, [(6, 35), (16, 45)], [], [], [], fun _ => .bool false, fun _ => True, fun _ => []⟩,
     ⟨47, [(17, 46)], [], [], [], fun _ => .bool false, fun _ => True, fun _ => []⟩,
     ⟨48, [(18, 47)], [], [], [], fun _ => vx, fun _ => True, fun _ => []⟩,
     ⟨49, [(18, 47)], [], [], [], fun _ => .int .i64 ((k : Int)), fun _ => True, fun _ => []⟩,
     ⟨50, [(18, 47), (19, 48), (20, 49)], [], [], [], fun _ => elemPtr vx 4 (k), fun _ => True, fun _ => []⟩,
     ⟨51, [(18, 47), (21, 50)], [], [], [], fun _ => elemPtrF vx 4 (k) 1, fun _ => True, fun _ => []⟩,
     ⟨52, [(18, 47), (22, 51)], [], [], [], fun _ => .int .i64 ((hx.getD (k) hd0).2.1), fun _ => True, fun _ => []⟩,
     ⟨53, [(18, 47)], [], [], [], fun _ => vx, fun _ => True, fun _ => []⟩,
     ⟨54, [(18, 47)], [], [], [], fun _ => .int .i64 ((k : Int)), fun _ => True, fun _ => []⟩,
     ⟨55, [(18, 47), (24, 53), (25, 54)], [], [], [], fun _ => elemPtr vx 4 (k), fun _ => True, fun _ => []⟩,
     ⟨56, [(18, 47), (26, 55)], [], [], [], fun _ => elemPtrF vx 4 (k) 2, fun _ => True, fun _ => []⟩,
     ⟨57, [(18, 47), (27, 56)], [], [], [], fun _ => .int .i64 ((hx.getD (k) hd0).2.2), fun _ => True, fun _ => []⟩,
     ⟨58, [(18, 47), (23, 52), (28, 57)], [], [], [], fun _ => .bool true, fun _ => True, fun _ => []⟩,
     ⟨59, [(18, 47), (29, 58)], [], [], [], fun _ => .bool true, fun _ => True, fun _ => []⟩,
     ⟨60, [(30, 59)], [], [], [], fun _ => .bool true, fun _ => True, fun _ => []⟩,
     ⟨61, [(31, 60)], [], [], [], fun _ => undef, fun _ => True, fun _ => []⟩,
     ⟨62, [(31, 60)], [], [], [], fun _ => undef, fun _ => True, fun _ => []⟩,
     ⟨63, [(31, 60), (32, 61), (33, 62)], [], [], [], fun _ => undef, fun _ => True, fun _ => []⟩,
     ⟨64, [(31, 60), (34, 63)], [], [], [], fun _ => undef, fun _ => True, fun _ => []⟩,
     ⟨65, [(31, 60), (35, 64)], [], [], [], fun _ => undef, fun _ => True, fun _ => []⟩,
     ⟨66, [(31, 60)], [], [], [], fun _ => undef, fun _ => True, fun _ => []⟩,
     ⟨67, [(31, 60), (37, 66)], [], [], [], fun _ => undef, fun _ => True, fun _ => []⟩,
     ⟨68, [(31, 60), (38, 67)], [], [], [], fun _ => undef, fun _ => True, fun _ => []⟩,
     ⟨69, [(31, 60), (39, 68)], [], [], [], fun _ => undef, fun _ => True, fun _ => []⟩,
     ⟨70, [(31, 60), (36, 65), (40, 69)], [], [], [], fun _ => undef, fun _ => True, fun _ => []⟩,
     ⟨71, [(31, 60), (41, 70)], [], [], [], fun _ => .bool true, fun _ => True, fun _ => []⟩]) (by kernel_rfl) (by kernel_rfl) (POps.cons ?_ (POps.cons ?_ (POps.cons ?_ (POps.cons ?_ (POps.cons ?_ (POps.cons ?_ (POps.cons ?_ (POps.cons ?_ (POps.cons ?_ (POps.cons ?_ (POps.cons ?_ (POps.cons ?_ (POps.cons ?_ (POps.cons ?_ (POps.cons ?_ (POps.cons ?_ (POps.cons ?_ (POps.cons ?_ (POps.cons ?_ (POps.cons ?_ (POps.cons ?_ (POps.cons ?_ (POps.cons ?_ (POps.cons ?_ (POps.cons ?_ (POps.cons ?_ (POps.cons ?_ (POps.cons ?_ (POps.cons ?_ (POps.cons ?_ (POps.cons ?_ (POps.cons ?_ (POps.cons ?_ (POps.cons ?_ (POps.cons ?_ (POps.cons ?_ (POps.cons ?_ (POps.cons ?_ (POps.cons ?_ (POps.cons ?_ (POps.cons ?_ (POps.cons ?_ (POps.cons ?_ POps.nil))))))))))))))))))))))))))))))))))))))))))) ?_
 intro θ R hd
 exact Opp.plain (OG.imp (OD.move rfl rfl) (by rintro _ _ ⟨rfl, rfl⟩; exact ⟨[], rfl, trivial, rfl⟩)) rfl
 intro θ R hd
 exact Opp.plain (OG.imp (OD.move rfl rfl) (by rintro _ _ ⟨rfl, rfl⟩; exact ⟨[], rfl, trivial, rfl⟩)) rfl
 intro θ R hd
 obtain ⟨h0d, h1d, _⟩ := hd
 exact Opp.plain (OG.imp (OD.indexAddr rfl et29 rfl (Ent.drop 2 ex.app) rfl (by omega)) (by rintro _ _ ⟨rfl, rfl⟩; exact ⟨[], rfl, trivial, rfl⟩)) rfl
 intro θ R hd
 obtain ⟨h2d, _⟩ := hd
 exact Opp.plain (OG.imp (OD.loadHd rfl ti41 rfl (Ent.drop 2 ex.app) (by omega)) (by rintro _ _ ⟨rfl, rfl⟩; exact ⟨[], rfl, trivial, rfl⟩)) rfl
 intro θ R hd
 obtain ⟨h3d, _⟩ := hd
 exact Opp.plain (OG.imp (OG.call [.agg #[.int .i64 ((hx.getD (k) hd0).1), .int .i64 ((hx.getD (k) hd0).2.1), .int .i64 ((hx.getD (k) hd0).2.2), (ux.getD (k) undef)]] ent14 rfl rfl rfl rfl (by exact (specMatrixOk_s (ax.get (by omega)) (Ent.drop 2 ((mx (k) (by omega)).app))))) (by rintro _ _ ⟨rfl, rfl⟩; exact ⟨[], rfl, trivial, rfl⟩)) rfl
 intro θ R hd
 obtain ⟨h4d, _⟩ := hd
 exact Opp.plain (OG.imp (OD.not rfl rfl) (by rintro _ _ ⟨rfl, rfl⟩; exact ⟨[], congrArg Value.bool hg7, trivial, rfl⟩)) rfl
 intro θ R hd
 obtain ⟨h5d, _⟩ := hd
 exact Opp.plain (OG.imp (OD.move rfl rfl) (by rintro _ _ ⟨rfl, rfl⟩; exact ⟨[], rfl, trivial, rfl⟩)) rfl
 intro θ R hd
 obtain ⟨h6d, _⟩ := hd
 exact Opp.on (OG.imp (OD.move rfl rfl) (by rintro _ _ ⟨rfl, rfl⟩; exact ⟨[], rfl, trivial, rfl⟩)) rfl rfl rfl
 intro θ R hd
 obtain ⟨h6d, _⟩ := hd
 exact Opp.on (OG.imp (OD.move rfl rfl) (by rintro _ _ ⟨rfl, rfl⟩; exact ⟨[], rfl, trivial, rfl⟩)) rfl rfl rfl
 intro θ R hd
 obtain ⟨h6d, h7d, h8d, _⟩ := hd
 exact Opp.on (OG.imp (OD.indexAddr rfl et29 rfl (Ent.drop 2 ex.app) rfl (by omega)) (by rintro _ _ ⟨rfl, rfl⟩; exact ⟨[], rfl, trivial, rfl⟩)) rfl rfl rfl
 intro θ R hd
 obtain ⟨h6d, h9d, _⟩ := hd
 exact Opp.on (OG.imp (OD.fieldAddrE rfl rfl (Ent.drop 2 ex.app) (by omega) fa41_0) (by rintro _ _ ⟨rfl, rfl⟩; exact ⟨[], rfl, trivial, rfl⟩)) rfl rfl rfl
 intro θ R hd
 obtain ⟨h6d, h10d, _⟩ := hd
 exact Opp.on (OG.imp (OD.loadField rfl ti3 rfl (Ent.drop 2 ex.app) (by omega) (by decide) (hdR_f0 (by omega))) (by rintro _ _ ⟨rfl, rfl⟩; exact ⟨[], rfl, trivial, rfl⟩)) rfl rfl rfl
 intro θ R hd
 obtain ⟨h6d, _⟩ := hd
 exact Opp.on (OG.imp (OD.move rfl rfl) (by rintro _ _ ⟨rfl, rfl⟩; exact ⟨[], rfl, trivial, rfl⟩)) rfl rfl rfl
 intro θ R hd
 obtain ⟨h6d, h12d, _⟩ := hd
 exact Opp.on (OG.imp (OD.indexAddr rfl et29 rfl (Ent.drop 2 ex.app) rfl (by omega)) (by rintro _ _ ⟨rfl, rfl⟩; exact ⟨[], rfl, trivial, rfl⟩)) rfl rfl rfl
 intro θ R hd
 obtain ⟨h6d, h13d, _⟩ := hd
 exact Opp.on (OG.imp (OD.fieldAddrE rfl rfl (Ent.drop 2 ex.app) (by omega) fa41_0) (by rintro _ _ ⟨rfl, rfl⟩; exact ⟨[], rfl, trivial, rfl⟩)) rfl rfl rfl
 intro θ R hd
 obtain ⟨h6d, h14d, _⟩ := hd
 exact Opp.on (OG.imp (OD.loadField rfl ti3 rfl (Ent.drop 2 ex.app) (by omega) (by decide) (hdR_f0 (by omega))) (by rintro _ _ ⟨rfl, rfl⟩; exact ⟨[], rfl, trivial, rfl⟩)) rfl rfl rfl
 intro θ R hd
 obtain ⟨h6d, h11d, h15d, _⟩ := hd
 exact Opp.on (OG.imp (OD.neq rfl rfl rfl) (by rintro _ _ ⟨rfl, rfl⟩; exact ⟨[], congrArg Value.bool hg8, trivial, rfl⟩)) rfl rfl rfl
 intro θ R hd
 obtain ⟨h6d, h16d, _⟩ := hd
 exact Opp.plain (OG.imp (OD.pickF rfl rfl rfl) (by rintro _ _ ⟨rfl, rfl⟩; exact ⟨[], rfl, trivial, rfl⟩)) rfl
 intro θ R hd
 obtain ⟨h17d, _⟩ := hd
 exact Opp.plain (OG.imp (OD.move rfl rfl) (by rintro _ _ ⟨rfl, rfl⟩; exact ⟨[], rfl, trivial, rfl⟩)) rfl
 intro θ R hd
 obtain ⟨h18d, _⟩ := hd
 exact Opp.on (OG.imp (OD.move rfl rfl) (by rintro _ _ ⟨rfl, rfl⟩; exact ⟨[], rfl, trivial, rfl⟩)) rfl rfl rfl
 intro θ R hd
 obtain ⟨h18d, _⟩ := hd
 exact Opp.on (OG.imp (OD.move rfl rfl) (by rintro _ _ ⟨rfl, rfl⟩; exact ⟨[], rfl, trivial, rfl⟩)) rfl rfl rfl
 intro θ R hd
 obtain ⟨h18d, h19d, h20d, _⟩ := hd
 exact Opp.on (OG.imp (OD.indexAddr rfl et29 rfl (Ent.drop 2 ex.app) rfl (by omega)) (by rintro _ _ ⟨rfl, rfl⟩; exact ⟨[], rfl, trivial, rfl⟩)) rfl rfl rfl
 intro θ R hd
 obtain ⟨h18d, h21d, _⟩ := hd
 exact Opp.on (OG.imp (OD.fieldAddrE rfl rfl (Ent.drop 2 ex.app) (by omega) fa41_1) (by rintro _ _ ⟨rfl, rfl⟩; exact ⟨[], rfl, trivial, rfl⟩)) rfl rfl rfl
 intro θ R hd
 obtain ⟨h18d, h22d, _⟩ := hd
 exact Opp.on (OG.imp (OD.loadField rfl ti3 rfl (Ent.drop 2 ex.app) (by omega) (by decide) (hdR_f1 (by omega))) (by rintro _ _ ⟨rfl, rfl⟩; exact ⟨[], rfl, trivial, rfl⟩)) rfl rfl rfl
 intro θ R hd
 obtain ⟨h18d, _⟩ := hd
 exact Opp.on (OG.imp (OD.move rfl rfl) (by rintro _ _ ⟨rfl, rfl⟩; exact ⟨[], rfl, trivial, rfl⟩)) rfl rfl rfl
 intro θ R hd
 obtain ⟨h18d, _⟩ := hd
 exact Opp.on (OG.imp (OD.move rfl rfl) (by rintro _ _ ⟨rfl, rfl⟩; exact ⟨[], rfl, trivial, rfl⟩)) rfl rfl rfl
 intro θ R hd
 obtain ⟨h18d, h24d, h25d, _⟩ := hd
 exact Opp.on (OG.imp (OD.indexAddr rfl et29 rfl (Ent.drop 2 ex.app) rfl (by omega)) (by rintro _ _ ⟨rfl, rfl⟩; exact ⟨[], rfl, trivial, rfl⟩)) rfl rfl rfl
 intro θ R hd
 obtain ⟨h18d, h26d, _⟩ := hd
 exact Opp.on (OG.imp (OD.fieldAddrE rfl rfl (Ent.drop 2 ex.app) (by omega) fa41_2) (by rintro _ _ ⟨rfl, rfl⟩; exact ⟨[], rfl, trivial, rfl⟩)) rfl rfl rfl
 intro θ R hd
 obtain ⟨h18d, h27d, _⟩ := hd
 exact Opp.on (OG.imp (OD.loadField rfl ti3 rfl (Ent.drop 2 ex.app) (by omega) (by decide) (hdR_f2 (by omega))) (by rintro _ _ ⟨rfl, rfl⟩; exact ⟨[], rfl, trivial, rfl⟩)) rfl rfl rfl
 intro θ R hd
 obtain ⟨h18d, h23d, h28d, _⟩ := hd
 exact Opp.on (OG.imp (OD.neq rfl rfl rfl) (by rintro _ _ ⟨rfl, rfl⟩; exact ⟨[], congrArg Value.bool hg9, trivial, rfl⟩)) rfl rfl rfl
 intro θ R hd
 obtain ⟨h18d, h29d, _⟩ := hd
 exact Opp.plain (OG.imp (OD.pickF rfl rfl rfl) (by rintro _ _ ⟨rfl, rfl⟩; exact ⟨[], rfl, trivial, rfl⟩)) rfl
 intro θ R hd
 obtain ⟨h30d, _⟩ := hd
 exact Opp.plain (OG.imp (OD.move rfl rfl) (by rintro _ _ ⟨rfl, rfl⟩; exact ⟨[], rfl, trivial, rfl⟩)) rfl
 intro θ R hd
 obtain ⟨h31d, _⟩ := hd
 exact Opp.off ⟨[], rfl, trivial, rfl⟩ rfl rfl rfl rfl
 intro θ R hd
 obtain ⟨h31d, _⟩ := hd
 exact Opp.off ⟨[], rfl, trivial, rfl⟩ rfl rfl rfl rfl
 intro θ R hd
 obtain ⟨h31d, h32d, h33d, _⟩ := hd
 exact Opp.off ⟨[], rfl, trivial, rfl⟩ rfl rfl rfl rfl
 intro θ R hd
 obtain ⟨h31d, h34d, _⟩ := hd
 exact Opp.off ⟨[], rfl, trivial, rfl⟩ rfl rfl rfl rfl
 intro θ R hd
 obtain ⟨h31d, h35d, _⟩ := hd
 exact Opp.off ⟨[], rfl, trivial, rfl⟩ rfl rfl rfl rfl
 intro θ R hd
 obtain ⟨h31d, _⟩ := hd
 exact Opp.off ⟨[], rfl, trivial, rfl⟩ rfl rfl rfl rfl
 intro θ R hd
 obtain ⟨h31d, h37d, _⟩ := hd
 exact Opp.off ⟨[], rfl, trivial, rfl⟩ rfl rfl rfl rfl
 intro θ R hd
 obtain ⟨h31d, h38d, _⟩ := hd
 exact Opp.off ⟨[], rfl, trivial, rfl⟩ rfl rfl rfl rfl
 intro θ R hd
 obtain ⟨h31d, h39d, _⟩ := hd
 exact Opp.off ⟨[], rfl, trivial, rfl⟩ rfl rfl rfl rfl
 intro θ R hd
 obtain ⟨h31d, h36d, h40d, _⟩ := hd
 exact Opp.off ⟨[], rfl, trivial, rfl⟩ rfl rfl rfl rfl
 intro θ R hd
 obtain ⟨h31d, h41d, _⟩ := hd
 exact Opp.plain (OG.imp (OD.pickT rfl rfl rfl) (by rintro _ _ ⟨rfl, rfl⟩; exact ⟨[], rfl, trivial, rfl⟩)) rfl
 intro θ hall
 obtain ⟨_, _, _, _, _, _, _, _, _, _, _, _, _, _, _, _, _, _, _, _, _, _, _, _, _, _, _, _, _, _, _, _, _, _, _, _, _, _, _, _, _, _, _, _⟩ := hall
 refine G.at [] 0 (env' := [(0, vx), (2, .pointer (some ⟨g1, 0, none⟩)), (4, v), (5, .int .i64 ((k : Int))), (71, .bool true)]) ⟨rfl, rfl, rfl, rfl, rfl, trivial⟩ (own' := lst 24 v (ux.take k) :: box g1 26 [.int .i64 (0), .int .i64 (0), .slice none 0 0] :: own) rfl ?_
 show G _ _ _ [] _ _ _ _
 refine G.nil (GE.then_ (GC.condT rfl (GC.seq (GC.region ?_))))
 refine G.stepD (OD.build (idx := []) (xs := []) (vs := []) (cs := []) (zs := [.int .i64 (0), .int .i64 (0), .slice none 0 0]) (r := [.int .i64 (0), .int .i64 (0), .slice none 0 0]) rfl ti26 rfl rfl rfl trivial rfl) rfl rfl rfl ?_
 refine G.stepD0 (OD.store rfl ti26 rfl rfl (us := [.int .i64 (0), .int .i64 (0), .slice none 0 0]) rfl rfl rfl (i := 1) rfl rfl) rfl rfl ?_
 refine G.stepD (OD.assign rfl rfl) rfl rfl rfl ?_
 refine G.nil (GE.then_ (GC.ret (GE.passR (GE.blockR (GE.passR (GE.passR (GE.blockR (GE.passR ?_))))))))
 refine GE.nilInts 3 ?_
 exact GE.body [0] 2 (resN rfl (RVs.cons (rv_cells ti26 rfl (i := 2) rfl rfl) (RVs.cons (rv_tmp rfl) RVs.nil)) rfl) rfl (⟨(.slice none 0 0), congr (congr (congrArg (fun (a0 : Int) (a1 : Int) (a3 : Bool) => (.tuple #[.agg #[.int .i64 (a0), .int .i64 (a1), (.slice none 0 0)], .bool (a3)] : Value)) ((by rw [alP, (show alOk hx dx = false from by first | exact alOk_no2 (by assumption) | exact alOk_no1 (aoB_few (by omega)) | exact alOk_no1 (aoB_no (by first | exact aoK_no1 (show matOkB ⟨(hx.getD k hd0).1, (hx.getD k hd0).2.1, (hx.getD k hd0).2.2, dx.getD k []⟩ = false by assumption) | exact aoK_no2 (show ¬ (hx.getD k hd0).2.1 = (hx.getD k hd0).2.2 by omega) | exact aoK_no3 (show ¬ (hx.getD k hd0).2.1 = (hx.getD 0 hd0).2.1 by omega) | exact aoK_no4 (show ¬ (hx.getD k hd0).1 = (hx.getD 0 hd0).1 by omega)) (by omega)))] <;> rfl : (0 : Int) = alP hx dx))) ((by rw [alN, (show alOk hx dx = false from by first | exact alOk_no2 (by assumption) | exact alOk_no1 (aoB_few (by omega)) | exact alOk_no1 (aoB_no (by first | exact aoK_no1 (show matOkB ⟨(hx.getD k hd0).1, (hx.getD k hd0).2.1, (hx.getD k hd0).2.2, dx.getD k []⟩ = false by assumption) | exact aoK_no2 (show ¬ (hx.getD k hd0).2.1 = (hx.getD k hd0).2.2 by omega) | exact aoK_no3 (show ¬ (hx.getD k hd0).2.1 = (hx.getD 0 hd0).2.1 by omega) | exact aoK_no4 (show ¬ (hx.getD k hd0).1 = (hx.getD 0 hd0).1 by omega)) (by omega)))] <;> rfl : (0 : Int) = alN hx dx))) (((show alOk hx dx = false from by first | exact alOk_no2 (by assumption) | exact alOk_no1 (aoB_few (by omega)) | exact alOk_no1 (aoB_no (by first | exact aoK_no1 (show matOkB ⟨(hx.getD k hd0).1, (hx.getD k hd0).2.1, (hx.getD k hd0).2.2, dx.getD k []⟩ = false by assumption) | exact aoK_no2 (show ¬ (hx.getD k hd0).2.1 = (hx.getD k hd0).2.2 by omega) | exact aoK_no3 (show ¬ (hx.getD k hd0).2.1 = (hx.getD 0 hd0).2.1 by omega) | exact aoK_no4 (show ¬ (hx.getD k hd0).1 = (hx.getD 0 hd0).1 by omega)) (by omega))).symm : (false : Bool) = alOk hx dx)), IsS.nil, congrArg (fun (l0 : List Int) => ints 3 (.slice none 0 0) l0 :: own) ((by rw [alD, (show alOk hx dx = false from by first | exact alOk_no2 (by assumption) | exact alOk_no1 (aoB_few (by omega)) | exact alOk_no1 (aoB_no (by first | exact aoK_no1 (show matOkB ⟨(hx.getD k hd0).1, (hx.getD k hd0).2.1, (hx.getD k hd0).2.2, dx.getD k []⟩ = false by assumption) | exact aoK_no2 (show ¬ (hx.getD k hd0).2.1 = (hx.getD k hd0).2.2 by omega) | exact aoK_no3 (show ¬ (hx.getD k hd0).2.1 = (hx.getD 0 hd0).2.1 by omega) | exact aoK_no4 (show ¬ (hx.getD k hd0).1 = (hx.getD 0 hd0).1 by omega)) (by omega)))] <;> rfl : [] = alD hx dx))⟩)
 have hg9p := hg9
 replace hg9p := eq_of_bne_false hg9p
 refine GC.at [] 0 (env' := [(0, vx), (2, .pointer (some ⟨g1, 0, none⟩)), (4, v), (5, .int .i64 ((k : Int)))]) ⟨rfl, rfl, rfl, rfl, trivial⟩ rfl ?_
 refine GC.par (its := [⟨29, [], [], [], [], fun _ => vx, fun _ => True, fun _ => []⟩,
     ⟨30, [], [], [], [], fun _ => .int .i64 ((k : Int)), fun _ => True, fun _ => []⟩,
     ⟨31, [(0, 29), (1, 30)], [], [], [], fun _ => elemPtr vx 4 (k), fun _ => True, fun _ => []⟩,
     ⟨32, [(2, 31)], [], [], [], fun _ => .agg #[.int .i64 ((hx.getD (k) hd0).1), .int .i64 ((hx.getD (k) hd0).2.1), .int .i64 ((hx.getD (k) hd0).2.2), (ux.getD (k) undef)], fun _ => True, fun _ => []⟩,
     ⟨33, [(3, 32)], [], [], [], fun _ => .bool (matOkB ⟨(hx.getD (k) hd0).1, (hx.getD (k) hd0).2.1, (hx.getD (k) hd0).2.2, dx.getD (k) []⟩), fun _ => True, fun _ => []⟩,
     ⟨34, [(4, 33)], [], [], [], fun _ => .bool false, fun _ => True, fun _ => []⟩,
     ⟨35, [(5, 34)], [], [], [], fun _ => .bool false, fun _ => True, fun _ => []⟩,
     ⟨36, [(6, 35)], [], [], [], fun _ => vx, fun _ => True, fun _ => []⟩,
     ⟨37, [(6, 35)], [], [], [], fun _ => .int .i64 ((k : Int)), fun _ => True, fun _ => []⟩,
     ⟨38, [(6, 35), (7, 36), (8, 37)], [], [], [], fun _ => elemPtr vx 4 (k), fun _ => True, fun _ => []⟩,
     ⟨39, [(6, 35), (9, 38)], [], [], [], fun _ => elemPtrF vx 4 (k) 0, fun _ => True, fun _ => []⟩,
     ⟨40, [(6, 35), (10, 39)], [], [], [], fun _ => .int .i64 ((hx.getD (k) hd0).1), fun _ => True, fun _ => []⟩,
     ⟨41, [(6, 35)], [], [], [], fun _ => vx, fun _ => True, fun _ => []⟩,
     ⟨42, [(6, 35), (12, 41)], [], [], [], fun _ => elemPtr vx 4 (0), fun _ => True, fun _ => []⟩,
     ⟨43, [(6, 35), (13, 42)], [], [], [], fun _ => elemPtrF vx 4 (0) 0, fun _ => True, fun _ => []⟩,
     ⟨44, [(6, 35), (14, 43)], [], [], [], fun _ => .int .i64 ((hx.getD (0) hd0).1), fun _ => True, fun _ => []⟩,
     ⟨45, [(6, 35), (11, 40), (15, 44)], [], [], [], fun _ => .bool false, fun _ => True, fun _ => []⟩,
     ⟨46, [(6, 35), (16, 45)], [], [], [], fun _ => .bool false, fun _ => True, fun _ => []⟩,
     ⟨47, [(17, 46)], [], [], [], fun _ => .bool false, fun _ => True, fun _ => []⟩,
     ⟨48, [(18, 47)], [], [], [], fun _ => vx, fun _ => True, fun _ => []⟩,
     ⟨49, [(18, 47)], [], [], [], fun _ => .int .i64 ((k : Int)), fun _ => True, fun _ => []⟩,
     ⟨50, [(18, 47), (19, 48), (20, 49)], [], [], [], fun _ => elemPtr vx 4 (k), fun _ => True, fun _ => []⟩,
     ⟨51, [(18, 47), (21, 50)], [], [], [], fun _ => elemPtrF vx 4 (k) 1, fun _ => True, fun _ => []⟩,
     ⟨52, [(18, 47), (22, 51)], [], [], [], fun _ => .int .i64 ((hx.getD (k) hd0).2.1), fun _ => True, fun _ => []⟩,
     ⟨53, [(18, 47)], [], [], [], fun _ => vx, fun _ => True, fun _ => []⟩,
     ⟨54, [(18, 47)], [], [], [], fun _ => .int .i64 ((k : Int)), fun _ => True, fun _ => []⟩,
     ⟨55, [(18, 47), (24, 53), (25, 54)], [], [], [], fun _ => elemPtr vx 4 (k), fun _ => True, fun _ => []⟩,
     ⟨56, [(18, 47), (26, 55)], [], [], [], fun _ => elemPtrF vx 4 (k) 2, fun _ => True, fun _ => []⟩,
     ⟨57, [(18, 47), (27, 56)], [], [], [], fun _ => .int .i64 ((hx.getD (k) hd0).2.2), fun _ => True, fun _ => []⟩,
     ⟨58, [(18, 47), (23, 52), (28, 57)], [], [], [], fun _ => .bool false, fun _ => True, fun _ => []⟩,
     ⟨59, [(18, 47), (29, 58)], [], [], [], fun _ => .bool false, fun _ => True, fun _ => []⟩,
     ⟨60, [(30, 59)], [], [], [], fun _ => .bool false, fun _ => True, fun _ => []⟩,
     ⟨61, [(31, 60)], [], [], [], fun _ => vx, fun _ => True, fun _ => []⟩,
     ⟨62, [(31, 60)], [], [], [], fun _ => .int .i64 ((k : Int)), fun _ => True, fun _ => []⟩,
     ⟨63, [(31, 60), (32, 61), (33, 62)], [], [], [], fun _ => elemPtr vx 4 (k), fun _ => True, fun _ => []⟩,
     ⟨64, [(31, 60), (34, 63)], [], [], [], fun _ => elemPtrF vx 4 (k) 1, fun _ => True, fun _ => []⟩,
     ⟨65, [(31, 60), (35, 64)], [], [], [], fun _ => .int .i64 ((hx.getD (k) hd0).2.1), fun _ => True, fun _ => []⟩,
     ⟨66, [(31, 60)], [], [], [], fun _ => vx, fun _ => True, fun _ => []⟩,
     ⟨67, [(31, 60), (37, 66)], [], [], [], fun _ => elemPtr vx 4 (0), fun _ => True, fun _ => []⟩,
     ⟨68, [(31, 60), (38, 67)], [], [], [], fun _ => elemPtrF vx 4 (0) 1, fun _ => True, fun _ => []⟩,
     ⟨69, [(31, 60), (39, 68)], [], [], [], fun _ => .int .i64 ((hx.getD (0) hd0).2.1), fun _ => True, fun _ => []⟩,
     ⟨70, [(31, 60), (36, 65), (40, 69)], [], [], [], fun _ => .bool (((hx.getD (k) hd0).2.1) != ((hx.getD (0) hd0).2.1)), fun _ => True, fun _ => []⟩,
     ⟨71, [(31, 60), (41, 70)], [], [], [], fun _ => .bool (((hx.getD (k) hd0).2.1) != ((hx.getD (0) hd0).2.1)), fun _ => True, fun _ => []⟩]) (by kernel_rfl) (by kernel_rfl) (POps.cons ?_ (POps.cons ?_ (POps.cons ?_ (POps.cons ?_ (POps.cons ?_ (POps.cons ?_ (POps.cons ?_ (POps.cons ?_ (POps.cons ?_ (POps.cons ?_ (POps.cons ?_ (POps.cons ?_ (POps.cons ?_ (POps.cons ?_ (POps.cons ?_ (POps.cons ?_ (POps.cons ?_ (POps.cons ?_ (POps.cons ?_ (POps.cons ?_ (POps.cons ?_ (POps.cons ?_ (POps.cons ?_ (POps.cons ?_ (POps.cons ?_ (POps.cons ?_ (POps.cons ?_ (POps.cons ?_ (POps.cons ?_ (POps.cons ?_ (POps.cons ?_ (POps.cons ?_ (POps.cons ?_ (POps.cons ?_ (POps.cons ?_ (POps.cons ?_ (POps.cons ?_ (POps.cons ?_ (POps.cons ?_ (POps.cons ?_ (POps.cons ?_ (POps.cons ?_ (POps.cons ?_ POps.nil))))))))))))))))))))))))))))))))))))))))))) ?_
 intro θ R hd
 exact Opp.plain (OG.imp (OD.move rfl rfl) (by rintro _ _ ⟨rfl, rfl⟩; exact ⟨[], rfl, trivial, rfl⟩)) rfl
 intro θ R hd
 exact Opp.plain (OG.imp (OD.move rfl rfl) (by rintro _ _ ⟨rfl, rfl⟩; exact ⟨[], rfl, trivial, rfl⟩)) rfl
 intro θ R hd
 obtain ⟨h0d, h1d, _⟩ := hd
 exact Opp.plain (OG.imp (OD.indexAddr rfl et29 rfl (Ent.drop 2 ex.app) rfl (by omega)) (by rintro _ _ ⟨rfl, rfl⟩; exact ⟨[], rfl, trivial, rfl⟩)) rfl
 intro θ R hd
 obtain ⟨h2d, _⟩ := hd
 exact Opp.plain (OG.imp (OD.loadHd rfl ti41 rfl (Ent.drop 2 ex.app) (by omega)) (by rintro _ _ ⟨rfl, rfl⟩; exact ⟨[], rfl, trivial, rfl⟩)) rfl
 intro θ R hd
 obtain ⟨h3d, _⟩ := hd
 exact Opp.plain (OG.imp (OG.call [.agg #[.int .i64 ((hx.getD (k) hd0).1), .int .i64 ((hx.getD (k) hd0).2.1), .int .i64 ((hx.getD (k) hd0).2.2), (ux.getD (k) undef)]] ent14 rfl rfl rfl rfl (by exact (specMatrixOk_s (ax.get (by omega)) (Ent.drop 2 ((mx (k) (by omega)).app))))) (by rintro _ _ ⟨rfl, rfl⟩; exact ⟨[], rfl, trivial, rfl⟩)) rfl
 intro θ R hd
 obtain ⟨h4d, _⟩ := hd
 exact Opp.plain (OG.imp (OD.not rfl rfl) (by rintro _ _ ⟨rfl, rfl⟩; exact ⟨[], congrArg Value.bool hg7, trivial, rfl⟩)) rfl
 intro θ R hd
 obtain ⟨h5d, _⟩ := hd
 exact Opp.plain (OG.imp (OD.move rfl rfl) (by rintro _ _ ⟨rfl, rfl⟩; exact ⟨[], rfl, trivial, rfl⟩)) rfl
 intro θ R hd
 obtain ⟨h6d, _⟩ := hd
 exact Opp.on (OG.imp (OD.move rfl rfl) (by rintro _ _ ⟨rfl, rfl⟩; exact ⟨[], rfl, trivial, rfl⟩)) rfl rfl rfl
 intro θ R hd
 obtain ⟨h6d, _⟩ := hd
 exact Opp.on (OG.imp (OD.move rfl rfl) (by rintro _ _ ⟨rfl, rfl⟩; exact ⟨[], rfl, trivial, rfl⟩)) rfl rfl rfl
 intro θ R hd
 obtain ⟨h6d, h7d, h8d, _⟩ := hd
 exact Opp.on (OG.imp (OD.indexAddr rfl et29 rfl (Ent.drop 2 ex.app) rfl (by omega)) (by rintro _ _ ⟨rfl, rfl⟩; exact ⟨[], rfl, trivial, rfl⟩)) rfl rfl rfl
 intro θ R hd
 obtain ⟨h6d, h9d, _⟩ := hd
 exact Opp.on (OG.imp (OD.fieldAddrE rfl rfl (Ent.drop 2 ex.app) (by omega) fa41_0) (by rintro _ _ ⟨rfl, rfl⟩; exact ⟨[], rfl, trivial, rfl⟩)) rfl rfl rfl
 intro θ R hd
 obtain ⟨h6d, h10d, _⟩ := hd
 exact Opp.on (OG.imp (OD.loadField rfl ti3 rfl (Ent.drop 2 ex.app) (by omega) (by decide) (hdR_f0 (by omega))) (by rintro _ _ ⟨rfl, rfl⟩; exact ⟨[], rfl, trivial, rfl⟩)) rfl rfl rfl
 intro θ R hd
 obtain ⟨h6d, _⟩ := hd
 exact Opp.on (OG.imp (OD.move rfl rfl) (by rintro _ _ ⟨rfl, rfl⟩; exact ⟨[], rfl, trivial, rfl⟩)) rfl rfl rfl
 intro θ R hd
 obtain ⟨h6d, h12d, _⟩ := hd
 exact Opp.on (OG.imp (OD.indexAddr rfl et29 rfl (Ent.drop 2 ex.app) rfl (by omega)) (by rintro _ _ ⟨rfl, rfl⟩; exact ⟨[], rfl, trivial, rfl⟩)) rfl rfl rfl
 intro θ R hd
 obtain ⟨h6d, h13d, _⟩ := hd
 exact Opp.on (OG.imp (OD.fieldAddrE rfl rfl (Ent.drop 2 ex.app) (by omega) fa41_0) (by rintro _ _ ⟨rfl, rfl⟩; exact ⟨[], rfl, trivial, rfl⟩)) rfl rfl rfl
 intro θ R hd
 obtain ⟨h6d, h14d, _⟩ := hd
 exact Opp.on (OG.imp (OD.loadField rfl ti3 rfl (Ent.drop 2 ex.app) (by omega) (by decide) (hdR_f0 (by omega))) (by rintro _ _ ⟨rfl, rfl⟩; exact ⟨[], rfl, trivial, rfl⟩)) rfl rfl rfl
 intro θ R hd
 obtain ⟨h6d, h11d, h15d, _⟩ := hd
 exact Opp.on (OG.imp (OD.neq rfl rfl rfl) (by rintro _ _ ⟨rfl, rfl⟩; exact ⟨[], congrArg Value.bool hg8, trivial, rfl⟩)) rfl rfl rfl
 intro θ R hd
 obtain ⟨h6d, h16d, _⟩ := hd
 exact Opp.plain (OG.imp (OD.pickF rfl rfl rfl) (by rintro _ _ ⟨rfl, rfl⟩; exact ⟨[], rfl, trivial, rfl⟩)) rfl
 intro θ R hd
 obtain ⟨h17d, _⟩ := hd
 exact Opp.plain (OG.imp (OD.move rfl rfl) (by rintro _ _ ⟨rfl, rfl⟩; exact ⟨[], rfl, trivial, rfl⟩)) rfl
 intro θ R hd
 obtain ⟨h18d, _⟩ := hd
 exact Opp.on (OG.imp (OD.move rfl rfl) (by rintro _ _ ⟨rfl, rfl⟩; exact ⟨[], rfl, trivial, rfl⟩)) rfl rfl rfl
 intro θ R hd
 obtain ⟨h18d, _⟩ := hd
 exact Opp.on (OG.imp (OD.move rfl rfl) (by rintro _ _ ⟨rfl, rfl⟩; exact ⟨[], rfl, trivial, rfl⟩)) rfl rfl rfl
 intro θ R hd
 obtain ⟨h18d, h19d, h20d, _⟩ := hd
 exact Opp.on (OG.imp (OD.indexAddr rfl et29 rfl (Ent.drop 2 ex.app) rfl (by omega)) (by rintro _ _ ⟨rfl, rfl⟩; exact ⟨[], rfl, trivial, rfl⟩)) rfl rfl rfl
 intro θ R hd
 obtain ⟨h18d, h21d, _⟩ := hd
 exact Opp.on (OG.imp (OD.fieldAddrE rfl rfl (Ent.drop 2 ex.app) (by omega) fa41_1) (by rintro _ _ ⟨rfl, rfl⟩; exact ⟨[], rfl, trivial, rfl⟩)) rfl rfl rfl
 intro θ R hd
 obtain ⟨h18d, h22d, _⟩ := hd
 exact Opp.on (OG.imp (OD.loadField rfl ti3 rfl (Ent.drop 2 ex.app) (by omega) (by decide) (hdR_f1 (by omega))) (by rintro _ _ ⟨rfl, rfl⟩; exact ⟨[], rfl, trivial, rfl⟩)) rfl rfl rfl
 intro θ R hd
 obtain ⟨h18d, _⟩ := hd
 exact Opp.on (OG.imp (OD.move rfl rfl) (by rintro _ _ ⟨rfl, rfl⟩; exact ⟨[], rfl, trivial, rfl⟩)) rfl rfl rfl
 intro θ R hd
 obtain ⟨h18d, _⟩ := hd
 exact Opp.on (OG.imp (OD.move rfl rfl) (by rintro _ _ ⟨rfl, rfl⟩; exact ⟨[], rfl, trivial, rfl⟩)) rfl rfl rfl
 intro θ R hd
 obtain ⟨h18d, h24d, h25d, _⟩ := hd
 exact Opp.on (OG.imp (OD.indexAddr rfl et29 rfl (Ent.drop 2 ex.app) rfl (by omega)) (by rintro _ _ ⟨rfl, rfl⟩; exact ⟨[], rfl, trivial, rfl⟩)) rfl rfl rfl
 intro θ R hd
 obtain ⟨h18d, h26d, _⟩ := hd
 exact Opp.on (OG.imp (OD.fieldAddrE rfl rfl (Ent.drop 2 ex.app) (by omega) fa41_2) (by rintro _ _ ⟨rfl, rfl⟩; exact ⟨[], rfl, trivial, rfl⟩)) rfl rfl rfl
 intro θ R hd
 obtain ⟨h18d, h27d, _⟩ := hd
 exact Opp.on (OG.imp (OD.loadField rfl ti3 rfl (Ent.drop 2 ex.app) (by omega) (by decide) (hdR_f2 (by omega))) (by rintro _ _ ⟨rfl, rfl⟩; exact ⟨[], rfl, trivial, rfl⟩)) rfl rfl rfl
 intro θ R hd
 obtain ⟨h18d, h23d, h28d, _⟩ := hd
 exact Opp.on (OG.imp (OD.neq rfl rfl rfl) (by rintro _ _ ⟨rfl, rfl⟩; exact ⟨[], congrArg Value.bool hg9, trivial, rfl⟩)) rfl rfl rfl
 intro θ R hd
 obtain ⟨h18d, h29d, _⟩ := hd
 exact Opp.plain (OG.imp (OD.pickF rfl rfl rfl) (by rintro _ _ ⟨rfl, rfl⟩; exact ⟨[], rfl, trivial, rfl⟩)) rfl
 intro θ R hd
 obtain ⟨h30d, _⟩ := hd
 exact Opp.plain (OG.imp (OD.move rfl rfl) (by rintro _ _ ⟨rfl, rfl⟩; exact ⟨[], rfl, trivial, rfl⟩)) rfl
 intro θ R hd
 obtain ⟨h31d, _⟩ := hd
 exact Opp.on (OG.imp (OD.move rfl rfl) (by rintro _ _ ⟨rfl, rfl⟩; exact ⟨[], rfl, trivial, rfl⟩)) rfl rfl rfl
 intro θ R hd
 obtain ⟨h31d, _⟩ := hd
 exact Opp.on (OG.imp (OD.move rfl rfl) (by rintro _ _ ⟨rfl, rfl⟩; exact ⟨[], rfl, trivial, rfl⟩)) rfl rfl rfl
 intro θ R hd
 obtain ⟨h31d, h32d, h33d, _⟩ := hd
 exact Opp.on (OG.imp (OD.indexAddr rfl et29 rfl (Ent.drop 2 ex.app) rfl (by omega)) (by rintro _ _ ⟨rfl, rfl⟩; exact ⟨[], rfl, trivial, rfl⟩)) rfl rfl rfl
 intro θ R hd
 obtain ⟨h31d, h34d, _⟩ := hd
 exact Opp.on (OG.imp (OD.fieldAddrE rfl rfl (Ent.drop 2 ex.app) (by omega) fa41_1) (by rintro _ _ ⟨rfl, rfl⟩; exact ⟨[], rfl, trivial, rfl⟩)) rfl rfl rfl
 intro θ R hd
 obtain ⟨h31d, h35d, _⟩ := hd
 exact Opp.on (OG.imp (OD.loadField rfl ti3 rfl (Ent.drop 2 ex.app) (by omega) (by decide) (hdR_f1 (by omega))) (by rintro _ _ ⟨rfl, rfl⟩; exact ⟨[], rfl, trivial, rfl⟩)) rfl rfl rfl
 intro θ R hd
 obtain ⟨h31d, _⟩ := hd
 exact Opp.on (OG.imp (OD.move rfl rfl) (by rintro _ _ ⟨rfl, rfl⟩; exact ⟨[], rfl, trivial, rfl⟩)) rfl rfl rfl
 intro θ R hd
 obtain ⟨h31d, h37d, _⟩ := hd
 exact Opp.on (OG.imp (OD.indexAddr rfl et29 rfl (Ent.drop 2 ex.app) rfl (by omega)) (by rintro _ _ ⟨rfl, rfl⟩; exact ⟨[], rfl, trivial, rfl⟩)) rfl rfl rfl
 intro θ R hd
 obtain ⟨h31d, h38d, _⟩ := hd
 exact Opp.on (OG.imp (OD.fieldAddrE rfl rfl (Ent.drop 2 ex.app) (by omega) fa41_1) (by rintro _ _ ⟨rfl, rfl⟩; exact ⟨[], rfl, trivial, rfl⟩)) rfl rfl rfl
 intro θ R hd
 obtain ⟨h31d, h39d, _⟩ := hd
 exact Opp.on (OG.imp (OD.loadField rfl ti3 rfl (Ent.drop 2 ex.app) (by omega) (by decide) (hdR_f1 (by omega))) (by rintro _ _ ⟨rfl, rfl⟩; exact ⟨[], rfl, trivial, rfl⟩)) rfl rfl rfl
 intro θ R hd
 obtain ⟨h31d, h36d, h40d, _⟩ := hd
 exact Opp.on (OG.imp (OD.neq rfl rfl rfl) (by rintro _ _ ⟨rfl, rfl⟩; exact ⟨[], rfl, trivial, rfl⟩)) rfl rfl rfl
 intro θ R hd
 obtain ⟨h31d, h41d, _⟩ := hd
 exact Opp.plain (OG.imp (OD.pickF rfl rfl rfl) (by rintro _ _ ⟨rfl, rfl⟩; exact ⟨[], rfl, trivial, rfl⟩)) rfl
 intro θ hall
 obtain ⟨_, _, _, _, _, _, _, _, _, _, _, _, _, _, _, _, _, _, _, _, _, _, _, _, _, _, _, _, _, _, _, _, _, _, _, _, _, _, _, _, _, _, _, _⟩ := hall
 refine G.at [] 0 (env' := [(0, vx), (2, .pointer (some ⟨g1, 0, none⟩)), (4, v), (5, .int .i64 ((k : Int))), (71, .bool (((hx.getD (k) hd0).2.1) != ((hx.getD (0) hd0).2.1)))]) ⟨rfl, rfl, rfl, rfl, rfl, trivial⟩ (own' := lst 24 v (ux.take k) :: box g1 26 [.int .i64 (0), .int .i64 (0), .slice none 0 0] :: own) rfl ?_
 show G _ _ _ [] _ _ _ _
 refine G.nil (GE.then_ ?_)
 refine GC.cond rfl (fun hc10 => ?_) (fun hc10 => ?_)
 replace hc10 := ne_of_bne hc10
 refine GC.seq (GC.region ?_)
 refine G.stepD (OD.build (idx := []) (xs := []) (vs := []) (cs := []) (zs := [.int .i64 (0), .int .i64 (0), .slice none 0 0]) (r := [.int .i64 (0), .int .i64 (0), .slice none 0 0]) rfl ti26 rfl rfl rfl trivial rfl) rfl rfl rfl ?_
 refine G.stepD0 (OD.store rfl ti26 rfl rfl (us := [.int .i64 (0), .int .i64 (0), .slice none 0 0]) rfl rfl rfl (i := 1) rfl rfl) rfl rfl ?_
 refine G.stepD (OD.assign rfl rfl) rfl rfl rfl ?_
 refine G.nil (GE.then_ (GC.ret (GE.passR (GE.blockR (GE.passR (GE.passR (GE.blockR (GE.passR ?_))))))))
 refine GE.nilInts 3 ?_
 exact GE.body [0] 2 (resN rfl (RVs.cons (rv_cells ti26 rfl (i := 2) rfl rfl) (RVs.cons (rv_tmp rfl) RVs.nil)) rfl) rfl (⟨(.slice none 0 0), congr (congr (congrArg (fun (a0 : Int) (a1 : Int) (a3 : Bool) => (.tuple #[.agg #[.int .i64 (a0), .int .i64 (a1), (.slice none 0 0)], .bool (a3)] : Value)) ((by rw [alP, (show alOk hx dx = false from by first | exact alOk_no2 (by assumption) | exact alOk_no1 (aoB_few (by omega)) | exact alOk_no1 (aoB_no (by first | exact aoK_no1 (show matOkB ⟨(hx.getD k hd0).1, (hx.getD k hd0).2.1, (hx.getD k hd0).2.2, dx.getD k []⟩ = false by assumption) | exact aoK_no2 (show ¬ (hx.getD k hd0).2.1 = (hx.getD k hd0).2.2 by omega) | exact aoK_no3 (show ¬ (hx.getD k hd0).2.1 = (hx.getD 0 hd0).2.1 by omega) | exact aoK_no4 (show ¬ (hx.getD k hd0).1 = (hx.getD 0 hd0).1 by omega)) (by omega)))] <;> rfl : (0 : Int) = alP hx dx))) ((by rw [alN, (show alOk hx dx = false from by first | exact alOk_no2 (by assumption) | exact alOk_no1 (aoB_few (by omega)) | exact alOk_no1 (aoB_no (by first | exact aoK_no1 (show matOkB ⟨(hx.getD k hd0).1, (hx.getD k hd0).2.1, (hx.getD k hd0).2.2, dx.getD k []⟩ = false by assumption) | exact aoK_no2 (show ¬ (hx.getD k hd0).2.1 = (hx.getD k hd0).2.2 by omega) | exact aoK_no3 (show ¬ (hx.getD k hd0).2.1 = (hx.getD 0 hd0).2.1 by omega) | exact aoK_no4 (show ¬ (hx.getD k hd0).1 = (hx.getD 0 hd0).1 by omega)) (by omega)))] <;> rfl : (0 : Int) = alN hx dx))) (((show alOk hx dx = false from by first | exact alOk_no2 (by assumption) | exact alOk_no1 (aoB_few (by omega)) | exact alOk_no1 (aoB_no (by first | exact aoK_no1 (show matOkB ⟨(hx.getD k hd0).1, (hx.getD k hd0).2.1, (hx.getD k hd0).2.2, dx.getD k []⟩ = false by assumption) | exact aoK_no2 (show ¬ (hx.getD k hd0).2.1 = (hx.getD k hd0).2.2 by omega) | exact aoK_no3 (show ¬ (hx.getD k hd0).2.1 = (hx.getD 0 hd0).2.1 by omega) | exact aoK_no4 (show ¬ (hx.getD k hd0).1 = (hx.getD 0 hd0).1 by omega)) (by omega))).symm : (false : Bool) = alOk hx dx)), IsS.nil, congrArg (fun (l0 : List Int) => ints 3 (.slice none 0 0) l0 :: own) ((by rw [alD, (show alOk hx dx = false from by first | exact alOk_no2 (by assumption) | exact alOk_no1 (aoB_few (by omega)) | exact alOk_no1 (aoB_no (by first | exact aoK_no1 (show matOkB ⟨(hx.getD k hd0).1, (hx.getD k hd0).2.1, (hx.getD k hd0).2.2, dx.getD k []⟩ = false by assumption) | exact aoK_no2 (show ¬ (hx.getD k hd0).2.1 = (hx.getD k hd0).2.2 by omega) | exact aoK_no3 (show ¬ (hx.getD k hd0).2.1 = (hx.getD 0 hd0).2.1 by omega) | exact aoK_no4 (show ¬ (hx.getD k hd0).1 = (hx.getD 0 hd0).1 by omega)) (by omega)))] <;> rfl : [] = alD hx dx))⟩)
 replace hc10 := eq_of_bne_false hc10
 refine GC.skip (GE.then_ (GC.region ?_))
 refine G.stepD (OD.move rfl rfl) rfl rfl rfl ?_
 refine G.stepD (OD.move rfl rfl) rfl rfl rfl ?_
 refine G.stepD (OD.move rfl rfl) rfl rfl rfl ?_
 refine G.stepD (OD.indexAddr rfl et29 rfl (Ent.drop 2 ex) rfl (by omega)) rfl rfl rfl ?_
 refine G.stepD (OD.fieldAddrE rfl rfl (Ent.drop 2 ex) (by omega) fa41_3) rfl rfl rfl ?_
 refine G.stepD (OD.loadField rfl ti24 rfl (Ent.drop 2 ex) (by omega) (by decide) (hdR_f3 (by omega))) rfl rfl rfl ?_
 refine G.step (OG.buildLst (xs := [.tmp 78]) (us := [(ux.getD (k) undef)]) rfl et39 rfl rfl rfl (allC (IsS.one (ax.get (by omega))) rfl) rfl) rfl rfl rfl ?_
 rintro v11 _ ⟨hs12, rfl⟩
 refine G.step (OG.appendLst 1 rfl rfl et39 rfl rfl rfl (Ent.lst (i := 0) rfl) (List.all_eq_true.2 fun u hu => by simpa using (AllS.snoc AllS.nil (ax.get (by omega))).one u hu) (by simp [maxLen] <;> omega)) rfl rfl rfl ?_
 rintro v13 _ ⟨hs14, rfl⟩
 refine G.stepD (OD.assign rfl rfl) rfl rfl rfl ?_
 refine G.nil (GE.blockN (GE.then_ (GC.region ?_)))
 refine G.stepD (OD.move rfl rfl) rfl rfl rfl ?_
 refine G.stepD (OD.addI rfl rfl rfl (by omega)) rfl rfl rfl ?_
 refine G.stepD (OD.assign rfl rfl) rfl rfl rfl ?_
 refine G.nil ?_
 refine GE.ownEq (own' := lst 24 v11 [(ux.getD (k) undef)] :: lst 24 v13 (ux.take (k + 1)) :: box g1 26 [.int .i64 (0), .int .i64 (0), .slice none 0 0] :: own) (by (try dsimp only); rw [us_take (by omega)] <;> rfl) ?_
 exact GE.again (k + 1, v13) (⟨by omega, hs14, ao_next hall (aoK_yes (show matOkB ⟨(hx.getD k hd0).1, (hx.getD k hd0).2.1, (hx.getD k hd0).2.2, dx.getD k []⟩ = true by assumption) (show (hx.getD k hd0).2.1 = (hx.getD k hd0).2.2 by omega) (show (hx.getD k hd0).2.1 = (hx.getD 0 hd0).2.1 by omega) (show (hx.getD k hd0).1 = (hx.getD 0 hd0).1 by omega))⟩) (by first | omega | (dsimp only; omega)) ⟨rfl, rfl, rfl, rfl, trivial⟩ [1, 1] 1 rfl
 replace hc6 := of_decide_eq_false hc6
 refine GC.exit (GE.pass (GE.pass (GE.hit (GE.then_ (GC.seq ?_)))))
 have hao : aoB hx dx = true := aoB_yes (by omega) (fun q hq => hall q (by omega))
 have hI := aoB_I hao
 have hn1 := hI.n1
 have hm16 := hI.m16
 have hRw : RwI (hx.getD 0 hd0).1 dx.length (dx.getD 0 []).length dx := by rw [kx]; exact hI.rows kx
 have hnC : ((dx.length * (dx.getD 0 []).length : Nat) : Int) ≤ 4000000 := by have := Nat.mul_le_mul (show dx.length ≤ 28 by omega) hm16; omega
 have hp2 := primeB_range hI.hp
 refine GC.ownEq (own' := lst 24 v ux :: box g1 26 [.int .i64 (0), .int .i64 (0), .slice none 0 0] :: own) (by dsimp only; rw [List.take_of_length_le (show ux.length ≤ k by omega)]) ?_
 refine GC.at [] 0 (env' := [(0, vx), (2, .pointer (some ⟨g1, 0, none⟩)), (4, v)]) ⟨rfl, rfl, rfl, trivial⟩ rfl ?_
 refine GC.par (its := [⟨81, [], [], [], [], fun _ => vx, fun _ => True, fun _ => []⟩,
     ⟨82, [(0, 81)], [], [], [], fun _ => elemPtr vx 4 (0), fun _ => True, fun _ => []⟩,
     ⟨83, [(1, 82)], [], [], [], fun _ => elemPtrF vx 4 (0) 0, fun _ => True, fun _ => []⟩,
     ⟨84, [(2, 83)], [], [], [], fun _ => .int .i64 ((hx.getD (0) hd0).1), fun _ => True, fun _ => []⟩,
     ⟨85, [], [], [], [], fun _ => vx, fun _ => True, fun _ => []⟩,
     ⟨86, [(4, 85)], [], [], [], fun _ => elemPtr vx 4 (0), fun _ => True, fun _ => []⟩,
     ⟨87, [(5, 86)], [], [], [], fun _ => elemPtrF vx 4 (0) 3, fun _ => True, fun _ => []⟩,
     ⟨88, [(6, 87)], [], [], [], fun _ => (ux.getD (0) undef), fun _ => True, fun _ => []⟩,
     ⟨89, [(7, 88)], [], [], [], fun _ => .int .i64 (((dx.getD (0) []).length : Nat)), fun _ => True, fun _ => []⟩,
     ⟨90, [], [], [], [], fun _ => v, fun _ => True, fun _ => []⟩,
     ⟨91, [(3, 84), (8, 89), (9, 90)], [], [], [10], fun ds => .agg #[.int .i64 ((hx.getD (0) hd0).1), .int .i64 ((dx.length : Nat)), .int .i64 (((dx.getD (0) []).length : Nat)), ((ds.getD 0 []).getD 0 undef)], fun ds => IsS ((ds.getD 0 []).getD 0 undef), fun ds => [ints 3 ((ds.getD 0 []).getD 0 undef) dx.flatten]⟩,
     ⟨6, [], [], [], [11], fun ds => .pointer (some ⟨(gOf ((ds.getD 0 []).getD 0 undef)), 0, none⟩), fun _ => True, fun ds => [box (gOf ((ds.getD 0 []).getD 0 undef)) 41 [.int .i64 (0), .int .i64 (0), .int .i64 (0), .slice none 0 0]]⟩]) (by kernel_rfl) (by kernel_rfl) (POps.cons ?_ (POps.cons ?_ (POps.cons ?_ (POps.cons ?_ (POps.cons ?_ (POps.cons ?_ (POps.cons ?_ (POps.cons ?_ (POps.cons ?_ (POps.cons ?_ (POps.cons ?_ (POps.cons ?_ POps.nil)))))))))))) ?_
 intro θ R hd
 exact Opp.plain (OG.imp (OD.move rfl rfl) (by rintro _ _ ⟨rfl, rfl⟩; exact ⟨[], rfl, trivial, rfl⟩)) rfl
 intro θ R hd
 obtain ⟨h0d, _⟩ := hd
 exact Opp.plain (OG.imp (OD.indexAddr rfl et29 rfl (Ent.drop 2 ex.app) rfl (by omega)) (by rintro _ _ ⟨rfl, rfl⟩; exact ⟨[], rfl, trivial, rfl⟩)) rfl
 intro θ R hd
 obtain ⟨h1d, _⟩ := hd
 exact Opp.plain (OG.imp (OD.fieldAddrE rfl rfl (Ent.drop 2 ex.app) (by omega) fa41_0) (by rintro _ _ ⟨rfl, rfl⟩; exact ⟨[], rfl, trivial, rfl⟩)) rfl
 intro θ R hd
 obtain ⟨h2d, _⟩ := hd
 exact Opp.plain (OG.imp (OD.loadField rfl ti3 rfl (Ent.drop 2 ex.app) (by omega) (by decide) (hdR_f0 (by omega))) (by rintro _ _ ⟨rfl, rfl⟩; exact ⟨[], rfl, trivial, rfl⟩)) rfl
 intro θ R hd
 exact Opp.plain (OG.imp (OD.move rfl rfl) (by rintro _ _ ⟨rfl, rfl⟩; exact ⟨[], rfl, trivial, rfl⟩)) rfl
 intro θ R hd
 obtain ⟨h4d, _⟩ := hd
 exact Opp.plain (OG.imp (OD.indexAddr rfl et29 rfl (Ent.drop 2 ex.app) rfl (by omega)) (by rintro _ _ ⟨rfl, rfl⟩; exact ⟨[], rfl, trivial, rfl⟩)) rfl
 intro θ R hd
 obtain ⟨h5d, _⟩ := hd
 exact Opp.plain (OG.imp (OD.fieldAddrE rfl rfl (Ent.drop 2 ex.app) (by omega) fa41_3) (by rintro _ _ ⟨rfl, rfl⟩; exact ⟨[], rfl, trivial, rfl⟩)) rfl
 intro θ R hd
 obtain ⟨h6d, _⟩ := hd
 exact Opp.plain (OG.imp (OD.loadField rfl ti24 rfl (Ent.drop 2 ex.app) (by omega) (by decide) (hdR_f3 (by omega))) (by rintro _ _ ⟨rfl, rfl⟩; exact ⟨[], rfl, trivial, rfl⟩)) rfl
 intro θ R hd
 obtain ⟨h7d, _⟩ := hd
 exact Opp.plain (OG.imp (OD.len rfl rfl et24 rfl (Ent.drop 2 ((mx (0) (by omega)).app))) (by rintro _ _ ⟨rfl, rfl⟩; exact ⟨[], rfl, trivial, rfl⟩)) rfl
 intro θ R hd
 exact Opp.plain (OG.imp (OD.move rfl rfl) (by rintro _ _ ⟨rfl, rfl⟩; exact ⟨[], rfl, trivial, rfl⟩)) rfl
 intro θ R hd
 obtain ⟨h3d, h8d, h9d, _⟩ := hd
 exact Opp.plain (OG.imp (OG.call [.int .i64 ((hx.getD (0) hd0).1), .int .i64 (((dx.getD (0) []).length : Nat)), v] ent15 rfl rfl rfl rfl (by exact (l1Rows_w hv (Ent.len (Ent.lst (i := 0) rfl) (by omega)) (fun k hk => (Ent.drop 2 ((mx k (by omega)).app))) (by omega) ax (by omega) (fun k hk => by rw [hI.el k (by omega)]; exact hm16)))) (by rintro _ _ ⟨v15, rfl, hs16, rfl⟩; exact ⟨[v15], rfl, hs16, rfl⟩)) rfl
 intro θ R hd
 exact Opp.plain (OG.imp (OG.alloc rfl ti41 (zs := [.int .i64 (0), .int .i64 (0), .int .i64 (0), .slice none 0 0]) rfl) (by rintro _ _ ⟨g17, rfl, rfl⟩; exact ⟨[.pointer (some ⟨g17, 0, none⟩)], rfl, trivial, rfl⟩)) rfl
 intro θ hall
 obtain ⟨_, _, _, _, _, _, _, _, _, _, h10a, h11a, _⟩ := hall
 refine G.at [] 0 (env' := [(0, vx), (2, .pointer (some ⟨g1, 0, none⟩)), (91, .agg #[.int .i64 ((hx.getD (0) hd0).1), .int .i64 ((dx.length : Nat)), .int .i64 (((dx.getD (0) []).length : Nat)), ((θ 10).getD 0 undef)]), (6, .pointer (some ⟨(gOf ((θ 11).getD 0 undef)), 0, none⟩))]) ⟨rfl, rfl, rfl, rfl, trivial⟩ (own' := ints 3 ((θ 10).getD 0 undef) dx.flatten :: box (gOf ((θ 11).getD 0 undef)) 41 [.int .i64 (0), .int .i64 (0), .int .i64 (0), .slice none 0 0] :: lst 24 v ux :: box g1 26 [.int .i64 (0), .int .i64 (0), .slice none 0 0] :: own) rfl ?_
 have hs18 : IsS ((θ 10).getD 0 undef) := h10a
 clear h10a
 generalize ((θ 10).getD 0 undef) = v19 at *
 clear h11a
 generalize (gOf ((θ 11).getD 0 undef)) = b20 at *
 show G _ _ _ [_] _ _ _ _
 refine G.stepD0 (OD.store rfl ti41 rfl rfl (us := [.int .i64 ((hx.getD (0) hd0).1), .int .i64 ((dx.length : Nat)), .int .i64 (((dx.getD (0) []).length : Nat)), v19]) rfl rfl (allC rfl (allC rfl (allC rfl (allC (IsS.one hs18) rfl)))) (i := 1) rfl rfl) rfl rfl ?_
 refine G.nil (GE.then_ (GC.seq (GC.region ?_)))
 refine G.stepD (OD.loadAgg rfl ti41 rfl (i := 1) rfl (us := [.int .i64 ((hx.getD (0) hd0).1), .int .i64 ((dx.length : Nat)), .int .i64 (((dx.getD (0) []).length : Nat)), v19]) rfl rfl) rfl rfl rfl ?_
 refine G.step (OG.call [.agg #[.int .i64 ((hx.getD (0) hd0).1), .int .i64 ((dx.length : Nat)), .int .i64 (((dx.getD (0) []).length : Nat)), v19]] ent16 rfl rfl rfl rfl (by exact (l1Reduce_w hs18 (Ent.ints (i := 0) rfl) (C := (dx.getD 0 []).length) (E := dx) (hI.hp) (rfl) (rfl) (hRw) (rfl) (hnC) (by omega)))) rfl rfl rfl ?_
 rintro _ _ ⟨v21, v23, u25, rfl, hs22, hs24, rfl⟩
 refine G.stepD (OD.move rfl rfl) rfl rfl rfl ?_
 refine G.stepD (OD.extract rfl rfl rfl) rfl rfl rfl ?_
 refine G.stepD (OD.extract rfl rfl rfl) rfl rfl rfl ?_
 refine G.stepD (OD.extract rfl rfl rfl) rfl rfl rfl ?_
 refine G.step (OG.alloc rfl ti41 (zs := [.int .i64 (0), .int .i64 (0), .int .i64 (0), .slice none 0 0]) rfl) rfl rfl rfl ?_
 rintro _ _ ⟨g26, rfl, rfl⟩
 refine G.stepD0 (OD.store rfl ti41 rfl rfl (us := [.int .i64 ((hx.getD (0) hd0).1), .int .i64 ((dx.length : Nat)), .int .i64 (((dx.getD (0) []).length : Nat)), v21]) rfl rfl (allC rfl (allC rfl (allC rfl (allC (IsS.one hs22) rfl)))) (i := 0) rfl rfl) rfl rfl ?_
 refine G.stepD (OD.assign rfl rfl) rfl rfl rfl ?_
 refine G.stepD (OD.assign rfl rfl) rfl rfl rfl ?_
 refine G.nil (GE.then_ (GC.seq (GC.seq (GC.region ?_))))
 refine G.stepD (OD.move rfl rfl) rfl rfl rfl ?_
 refine G.stepD (OD.len rfl rfl et24 rfl (Ent.ints (i := 2) rfl)) rfl rfl rfl ?_
 refine G.stepD (OD.fieldAddr rfl rfl fa41_1) rfl rfl rfl ?_
 refine G.stepD (OD.load rfl ti3 rfl (i := 4) rfl rfl) rfl rfl rfl ?_
 refine G.stepD (OD.lss rfl rfl rfl) rfl rfl rfl ?_
 refine G.nil (GE.then_ ?_)
 refine GC.cond rfl (fun hc27 => ?_) (fun hc27 => ?_)
 replace hc27 := of_decide_eq_true hc27
 have hfr : frB (hx.getD 0 hd0).1 (dx.getD 0 []).length dx = false := decide_eq_false (show ¬ dx.length ≤ (rdA (hx.getD 0 hd0).1 (ivp (hx.getD 0 hd0).1) (dx.getD 0 []).length dx).2.length by omega)
 refine GC.seq (GC.region ?_)
 refine G.stepD (OD.build (idx := []) (xs := []) (vs := []) (cs := []) (zs := [.int .i64 (0), .int .i64 (0), .slice none 0 0]) (r := [.int .i64 (0), .int .i64 (0), .slice none 0 0]) rfl ti26 rfl rfl rfl trivial rfl) rfl rfl rfl ?_
 refine G.stepD0 (OD.store rfl ti26 rfl rfl (us := [.int .i64 (0), .int .i64 (0), .slice none 0 0]) rfl rfl rfl (i := 6) rfl rfl) rfl rfl ?_
 refine G.stepD (OD.assign rfl rfl) rfl rfl rfl ?_
 refine G.nil (GE.then_ (GC.ret (GE.passR ?_)))
 refine GE.nilInts 3 ?_
 exact GE.body [0] 7 (resN rfl (RVs.cons (rv_cells ti26 rfl (i := 7) rfl rfl) (RVs.cons (rv_tmp rfl) RVs.nil)) rfl) rfl (⟨(.slice none 0 0), congr (congr (congrArg (fun (a0 : Int) (a1 : Int) (a3 : Bool) => (.tuple #[.agg #[.int .i64 (a0), .int .i64 (a1), (.slice none 0 0)], .bool (a3)] : Value)) ((by rw [alP, (show alOk hx dx = false from by first | exact alOk_no2 (by assumption) | exact alOk_no1 (aoB_few (by omega)) | exact alOk_no1 (aoB_no (by first | exact aoK_no1 (show matOkB ⟨(hx.getD k hd0).1, (hx.getD k hd0).2.1, (hx.getD k hd0).2.2, dx.getD k []⟩ = false by assumption) | exact aoK_no2 (show ¬ (hx.getD k hd0).2.1 = (hx.getD k hd0).2.2 by omega) | exact aoK_no3 (show ¬ (hx.getD k hd0).2.1 = (hx.getD 0 hd0).2.1 by omega) | exact aoK_no4 (show ¬ (hx.getD k hd0).1 = (hx.getD 0 hd0).1 by omega)) (by omega)))] <;> rfl : (0 : Int) = alP hx dx))) ((by rw [alN, (show alOk hx dx = false from by first | exact alOk_no2 (by assumption) | exact alOk_no1 (aoB_few (by omega)) | exact alOk_no1 (aoB_no (by first | exact aoK_no1 (show matOkB ⟨(hx.getD k hd0).1, (hx.getD k hd0).2.1, (hx.getD k hd0).2.2, dx.getD k []⟩ = false by assumption) | exact aoK_no2 (show ¬ (hx.getD k hd0).2.1 = (hx.getD k hd0).2.2 by omega) | exact aoK_no3 (show ¬ (hx.getD k hd0).2.1 = (hx.getD 0 hd0).2.1 by omega) | exact aoK_no4 (show ¬ (hx.getD k hd0).1 = (hx.getD 0 hd0).1 by omega)) (by omega)))] <;> rfl : (0 : Int) = alN hx dx))) (((show alOk hx dx = false from by first | exact alOk_no2 (by assumption) | exact alOk_no1 (aoB_few (by omega)) | exact alOk_no1 (aoB_no (by first | exact aoK_no1 (show matOkB ⟨(hx.getD k hd0).1, (hx.getD k hd0).2.1, (hx.getD k hd0).2.2, dx.getD k []⟩ = false by assumption) | exact aoK_no2 (show ¬ (hx.getD k hd0).2.1 = (hx.getD k hd0).2.2 by omega) | exact aoK_no3 (show ¬ (hx.getD k hd0).2.1 = (hx.getD 0 hd0).2.1 by omega) | exact aoK_no4 (show ¬ (hx.getD k hd0).1 = (hx.getD 0 hd0).1 by omega)) (by omega))).symm : (false : Bool) = alOk hx dx)), IsS.nil, congrArg (fun (l0 : List Int) => ints 3 (.slice none 0 0) l0 :: own) ((by rw [alD, (show alOk hx dx = false from by first | exact alOk_no2 (by assumption) | exact alOk_no1 (aoB_few (by omega)) | exact alOk_no1 (aoB_no (by first | exact aoK_no1 (show matOkB ⟨(hx.getD k hd0).1, (hx.getD k hd0).2.1, (hx.getD k hd0).2.2, dx.getD k []⟩ = false by assumption) | exact aoK_no2 (show ¬ (hx.getD k hd0).2.1 = (hx.getD k hd0).2.2 by omega) | exact aoK_no3 (show ¬ (hx.getD k hd0).2.1 = (hx.getD 0 hd0).2.1 by omega) | exact aoK_no4 (show ¬ (hx.getD k hd0).1 = (hx.getD 0 hd0).1 by omega)) (by omega)))] <;> rfl : [] = alD hx dx))⟩)
 replace hc27 := of_decide_eq_false hc27
 have hfr : frB (hx.getD 0 hd0).1 (dx.getD 0 []).length dx = true := decide_eq_true (show dx.length ≤ (rdA (hx.getD 0 hd0).1 (ivp (hx.getD 0 hd0).1) (dx.getD 0 []).length dx).2.length by omega)
 refine GC.skip (GE.then_ (GC.seq (GC.region ?_)))
 refine G.step (OG.buildLst (xs := []) (us := []) rfl et39 rfl rfl rfl rfl rfl) rfl rfl rfl ?_
 rintro v28 _ ⟨hs29, rfl⟩
 refine G.stepD (OD.assign rfl rfl) rfl rfl rfl ?_
 refine G.nil (GE.then_ (GC.seq (GC.seq (GC.region ?_))))
 refine G.stepD (OD.assign rfl rfl) rfl rfl rfl ?_
 refine G.nil (GE.then_ (GC.block ?_))
 refine GC.many0 (ints 3) ?_
 refine GC.loop (ι := Nat × List Value × Value) (fun ⟨i, ub, vb⟩ => [(0, vx), (2, .pointer (some ⟨g1, 0, none⟩)), (6, .pointer (some ⟨b20, 0, none⟩)), (10, vb), (11, .int .i64 ((i : Int)))]) (fun ⟨i, ub, vb⟩ => many (ints 3) ub (brL hx dx i 0) :: lst 24 vb ub :: box g26 41 [.int .i64 ((hx.getD (0) hd0).1), .int .i64 ((dx.length : Nat)), .int .i64 (((dx.getD (0) []).length : Nat)), v21] :: ints 3 v21 ((rdA ((hx.getD (0) hd0).1) (ivp ((hx.getD (0) hd0).1)) (dx.getD 0 []).length dx).1.flatten) :: ints 3 v23 ((rdA ((hx.getD (0) hd0).1) (ivp ((hx.getD (0) hd0).1)) (dx.getD 0 []).length dx).2) :: ints 3 v19 dx.flatten :: box b20 41 [.int .i64 ((hx.getD (0) hd0).1), .int .i64 ((dx.length : Nat)), .int .i64 (((dx.getD (0) []).length : Nat)), v19] :: lst 24 v ux :: box g1 26 [.int .i64 (0), .int .i64 (0), .slice none 0 0] :: own) (fun ⟨i, ub, vb⟩ => (i ≤ hx.length) ∧ (AllS ub) ∧ (ub.length = (brL hx dx i 0).length) ∧ (IsS vb)) (fun ⟨i, ub, vb⟩ => hx.length - i) (0, [], v28) (⟨by omega, AllS.nil, rfl, hs29⟩) ⟨rfl, rfl, rfl, rfl, rfl, trivial⟩ [] 0 rfl ?_
 rintro ⟨i, ub, vb⟩ ⟨hi, hub, hubl, hvb⟩
 refine GC.seq (GC.seq (GC.region ?_))
 refine G.stepD (OD.move rfl rfl) rfl rfl rfl ?_
 refine G.stepD (OD.move rfl rfl) rfl rfl rfl ?_
 refine G.stepD (OD.len rfl rfl et29 rfl (Ent.drop 9 ex)) rfl rfl rfl ?_
 refine G.stepD (OD.lss rfl rfl rfl) rfl rfl rfl ?_
 refine G.nil (GE.then_ ?_)
 refine GC.cond rfl (fun hc30 => ?_) (fun hc30 => ?_)
 replace hc30 := of_decide_eq_true hc30
 refine GC.skip (GE.then_ (GC.seq (GC.block (GC.seq (GC.region ?_)))))
 refine G.stepD (OD.assign rfl rfl) rfl rfl rfl ?_
 refine G.nil (GE.then_ (GC.block ?_))
 refine GC.loop (ι := Nat × List Value × Value) (fun ⟨j, uc, vc⟩ => [(0, vx), (2, .pointer (some ⟨g1, 0, none⟩)), (6, .pointer (some ⟨b20, 0, none⟩)), (11, .int .i64 ((i : Int))), (10, vc), (12, .int .i64 ((j : Int)))]) (fun ⟨j, uc, vc⟩ => many (ints 3) uc (brL hx dx i j) :: lst 24 vc uc :: box g26 41 [.int .i64 ((hx.getD (0) hd0).1), .int .i64 ((dx.length : Nat)), .int .i64 (((dx.getD (0) []).length : Nat)), v21] :: ints 3 v21 ((rdA ((hx.getD (0) hd0).1) (ivp ((hx.getD (0) hd0).1)) (dx.getD 0 []).length dx).1.flatten) :: ints 3 v23 ((rdA ((hx.getD (0) hd0).1) (ivp ((hx.getD (0) hd0).1)) (dx.getD 0 []).length dx).2) :: ints 3 v19 dx.flatten :: box b20 41 [.int .i64 ((hx.getD (0) hd0).1), .int .i64 ((dx.length : Nat)), .int .i64 (((dx.getD (0) []).length : Nat)), v19] :: lst 24 v ux :: box g1 26 [.int .i64 (0), .int .i64 (0), .slice none 0 0] :: own) (fun ⟨j, uc, vc⟩ => (j ≤ hx.length) ∧ (AllS uc) ∧ (uc.length = (brL hx dx i j).length) ∧ (IsS vc)) (fun ⟨j, uc, vc⟩ => hx.length - j) (0, ub, vb) (⟨by omega, hub, hubl, hvb⟩) ⟨rfl, rfl, rfl, rfl, rfl, rfl, trivial⟩ [] 0 rfl ?_
 rintro ⟨j, uc, vc⟩ ⟨hj, huc, hucl, hvc⟩
 have hbl := brL_len (hs := hx) (ds := dx) (i := i) (j := j) hi hj
 have hb2 : (i + 1) * hx.length ≤ 29 * 28 := Nat.mul_le_mul (by omega) (by omega)
 rw [Nat.add_mul, Nat.one_mul] at hb2
 refine GC.seq (GC.seq (GC.region ?_))
 refine G.stepD (OD.move rfl rfl) rfl rfl rfl ?_
 refine G.stepD (OD.move rfl rfl) rfl rfl rfl ?_
 refine G.stepD (OD.len rfl rfl et29 rfl (Ent.drop 9 ex)) rfl rfl rfl ?_
 refine G.stepD (OD.lss rfl rfl rfl) rfl rfl rfl ?_
 refine G.nil (GE.then_ ?_)
 refine GC.cond rfl (fun hc31 => ?_) (fun hc31 => ?_)
 replace hc31 := of_decide_eq_true hc31
 refine GC.skip (GE.then_ (GC.seq (GC.block ?_)))
 refine GC.at [] 0 (env' := [(0, vx), (2, .pointer (some ⟨g1, 0, none⟩)), (6, .pointer (some ⟨b20, 0, none⟩)), (11, .int .i64 ((i : Int))), (10, vc), (12, .int .i64 ((j : Int)))]) ⟨rfl, rfl, rfl, rfl, rfl, rfl, trivial⟩ rfl ?_
 refine GC.par (its := [⟨117, [], [], [], [], fun _ => vc, fun _ => True, fun _ => []⟩,
     ⟨118, [], [], [], [], fun _ => vx, fun _ => True, fun _ => []⟩,
     ⟨119, [], [], [], [], fun _ => .int .i64 ((i : Int)), fun _ => True, fun _ => []⟩,
     ⟨120, [(1, 118), (2, 119)], [], [], [], fun _ => elemPtr vx 4 (i), fun _ => True, fun _ => []⟩,
     ⟨121, [(3, 120)], [], [], [], fun _ => .agg #[.int .i64 ((hx.getD (i) hd0).1), .int .i64 ((hx.getD (i) hd0).2.1), .int .i64 ((hx.getD (i) hd0).2.2), (ux.getD (i) undef)], fun _ => True, fun _ => []⟩,
     ⟨122, [], [], [], [], fun _ => vx, fun _ => True, fun _ => []⟩,
     ⟨123, [], [], [], [], fun _ => .int .i64 ((j : Int)), fun _ => True, fun _ => []⟩,
     ⟨124, [(5, 122), (6, 123)], [], [], [], fun _ => elemPtr vx 4 (j), fun _ => True, fun _ => []⟩,
     ⟨125, [(7, 124)], [], [], [], fun _ => .agg #[.int .i64 ((hx.getD (j) hd0).1), .int .i64 ((hx.getD (j) hd0).2.1), .int .i64 ((hx.getD (j) hd0).2.2), (ux.getD (j) undef)], fun _ => True, fun _ => []⟩,
     ⟨126, [(4, 121), (8, 125)], [], [], [9], fun ds => .agg #[.int .i64 ((hx.getD (i) hd0).1), .int .i64 ((hx.getD (i) hd0).2.1), .int .i64 ((hx.getD (j) hd0).2.2), ((ds.getD 0 []).getD 0 undef)], fun ds => IsS ((ds.getD 0 []).getD 0 undef), fun ds => [ints 3 ((ds.getD 0 []).getD 0 undef) ((commF ⟨(hx.getD (i) hd0).1, (hx.getD (i) hd0).2.1, (hx.getD (i) hd0).2.2, dx.getD (i) []⟩ ⟨(hx.getD (j) hd0).1, (hx.getD (j) hd0).2.1, (hx.getD (j) hd0).2.2, dx.getD (j) []⟩).d)]⟩,
     ⟨127, [(9, 126)], [9], [], [9], fun ds => ((ds.getD 0 []).getD 0 undef), fun ds => IsS ((ds.getD 0 []).getD 0 undef), fun _ => []⟩,
     ⟨128, [(10, 127)], [9], [], [9, 11], fun ds => ((ds.getD 1 []).getD 0 undef), fun ds => IsS ((ds.getD 1 []).getD 0 undef), fun ds => [lst 24 ((ds.getD 1 []).getD 0 undef) [((ds.getD 0 []).getD 0 undef)]]⟩]) (by kernel_rfl) (by kernel_rfl) (POps.cons ?_ (POps.cons ?_ (POps.cons ?_ (POps.cons ?_ (POps.cons ?_ (POps.cons ?_ (POps.cons ?_ (POps.cons ?_ (POps.cons ?_ (POps.cons ?_ (POps.cons ?_ (POps.cons ?_ POps.nil)))))))))))) ?_
 intro θ R hd
 exact Opp.plain (OG.imp (OD.move rfl rfl) (by rintro _ _ ⟨rfl, rfl⟩; exact ⟨[], rfl, trivial, rfl⟩)) rfl
 intro θ R hd
 exact Opp.plain (OG.imp (OD.move rfl rfl) (by rintro _ _ ⟨rfl, rfl⟩; exact ⟨[], rfl, trivial, rfl⟩)) rfl
 intro θ R hd
 exact Opp.plain (OG.imp (OD.move rfl rfl) (by rintro _ _ ⟨rfl, rfl⟩; exact ⟨[], rfl, trivial, rfl⟩)) rfl
 intro θ R hd
 obtain ⟨h1d, h2d, _⟩ := hd
 exact Opp.plain (OG.imp (OD.indexAddr rfl et29 rfl (Ent.drop 9 ex.app) rfl (by omega)) (by rintro _ _ ⟨rfl, rfl⟩; exact ⟨[], rfl, trivial, rfl⟩)) rfl
 intro θ R hd
 obtain ⟨h3d, _⟩ := hd
 exact Opp.plain (OG.imp (OD.loadHd rfl ti41 rfl (Ent.drop 9 ex.app) (by omega)) (by rintro _ _ ⟨rfl, rfl⟩; exact ⟨[], rfl, trivial, rfl⟩)) rfl
 intro θ R hd
 exact Opp.plain (OG.imp (OD.move rfl rfl) (by rintro _ _ ⟨rfl, rfl⟩; exact ⟨[], rfl, trivial, rfl⟩)) rfl
 intro θ R hd
 exact Opp.plain (OG.imp (OD.move rfl rfl) (by rintro _ _ ⟨rfl, rfl⟩; exact ⟨[], rfl, trivial, rfl⟩)) rfl
 intro θ R hd
 obtain ⟨h5d, h6d, _⟩ := hd
 exact Opp.plain (OG.imp (OD.indexAddr rfl et29 rfl (Ent.drop 9 ex.app) rfl (by omega)) (by rintro _ _ ⟨rfl, rfl⟩; exact ⟨[], rfl, trivial, rfl⟩)) rfl
 intro θ R hd
 obtain ⟨h7d, _⟩ := hd
 exact Opp.plain (OG.imp (OD.loadHd rfl ti41 rfl (Ent.drop 9 ex.app) (by omega)) (by rintro _ _ ⟨rfl, rfl⟩; exact ⟨[], rfl, trivial, rfl⟩)) rfl
 intro θ R hd
 obtain ⟨h4d, h8d, _⟩ := hd
 exact Opp.plain (OG.imp (OG.call [.agg #[.int .i64 ((hx.getD (i) hd0).1), .int .i64 ((hx.getD (i) hd0).2.1), .int .i64 ((hx.getD (i) hd0).2.2), (ux.getD (i) undef)], .agg #[.int .i64 ((hx.getD (j) hd0).1), .int .i64 ((hx.getD (j) hd0).2.1), .int .i64 ((hx.getD (j) hd0).2.2), (ux.getD (j) undef)]] ent17 rfl rfl rfl rfl (by exact (l1Commutator_w (ax.get (by omega)) (Ent.drop 9 ((mx (i) (by omega)).app)) (ax.get (by omega)) (Ent.drop 9 ((mx (j) (by omega)).app)) (hI.ok i (by omega)) (hI.ok j (by omega)) ((hI.ep i (by omega)).trans (hI.ep j (by omega)).symm) ((hI.er i (by omega)).trans (hI.ec i (by omega)).symm) ((hI.er j (by omega)).trans (hI.er i (by omega)).symm) ((hI.ec j (by omega)).trans (hI.ec i (by omega)).symm)))) (by rintro _ _ ⟨v36, rfl, hs37, rfl⟩; exact ⟨[v36], rfl, hs37, rfl⟩)) rfl
 intro θ R hd
 obtain ⟨h9d, _⟩ := hd
 exact Opp.plain (OG.imp (OD.field (us := [.int .i64 ((hx.getD (i) hd0).1), .int .i64 ((hx.getD (i) hd0).2.1), .int .i64 ((hx.getD (j) hd0).2.2), ((θ 9).getD 0 undef)]) rfl fd41_3 rfl rfl) (by rintro _ _ ⟨rfl, rfl⟩; exact ⟨[], rfl, h9d, rfl⟩)) rfl
 intro θ R hd
 obtain ⟨h10d, _⟩ := hd
 exact Opp.plain (OG.imp (OG.buildLst (xs := [.tmp 127]) (us := [((θ 9).getD 0 undef)]) rfl et39 rfl rfl rfl (allC (IsS.one h10d) rfl) rfl) (by rintro v38 _ ⟨hs39, rfl⟩; exact ⟨[v38], rfl, hs39, rfl⟩)) rfl
 intro θ hall
 obtain ⟨_, _, _, _, _, _, _, _, _, h9a, _, h11a, _⟩ := hall
 refine G.at [] 0 (env' := [(0, vx), (2, .pointer (some ⟨g1, 0, none⟩)), (6, .pointer (some ⟨b20, 0, none⟩)), (11, .int .i64 ((i : Int))), (10, vc), (12, .int .i64 ((j : Int))), (117, vc), (128, ((θ 11).getD 0 undef))]) ⟨rfl, rfl, rfl, rfl, rfl, rfl, rfl, rfl, trivial⟩ (own' := ints 3 ((θ 9).getD 0 undef) ((commF ⟨(hx.getD (i) hd0).1, (hx.getD (i) hd0).2.1, (hx.getD (i) hd0).2.2, dx.getD (i) []⟩ ⟨(hx.getD (j) hd0).1, (hx.getD (j) hd0).2.1, (hx.getD (j) hd0).2.2, dx.getD (j) []⟩).d) :: lst 24 ((θ 11).getD 0 undef) [((θ 9).getD 0 undef)] :: many (ints 3) uc (brL hx dx i j) :: lst 24 vc uc :: box g26 41 [.int .i64 ((hx.getD (0) hd0).1), .int .i64 ((dx.length : Nat)), .int .i64 (((dx.getD (0) []).length : Nat)), v21] :: ints 3 v21 ((rdA ((hx.getD (0) hd0).1) (ivp ((hx.getD (0) hd0).1)) (dx.getD 0 []).length dx).1.flatten) :: ints 3 v23 ((rdA ((hx.getD (0) hd0).1) (ivp ((hx.getD (0) hd0).1)) (dx.getD 0 []).length dx).2) :: ints 3 v19 dx.flatten :: box b20 41 [.int .i64 ((hx.getD (0) hd0).1), .int .i64 ((dx.length : Nat)), .int .i64 (((dx.getD (0) []).length : Nat)), v19] :: lst 24 v ux :: box g1 26 [.int .i64 (0), .int .i64 (0), .slice none 0 0] :: own) rfl ?_
 have hs40 : IsS ((θ 9).getD 0 undef) := h9a
 clear h9a
 generalize ((θ 9).getD 0 undef) = v41 at *
 have hs42 : IsS ((θ 11).getD 0 undef) := h11a
 clear h11a
 generalize ((θ 11).getD 0 undef) = v43 at *
 show G _ _ _ [_, _] _ _ _ _
 refine G.step (OG.appendLst 3 rfl rfl et39 rfl rfl rfl (Ent.lst (i := 1) rfl) (List.all_eq_true.2 fun u hu => by simpa using (AllS.snoc AllS.nil hs40).one u hu) (by simp [maxLen] <;> omega)) rfl rfl rfl ?_
 rintro v44 _ ⟨hs45, rfl⟩
 refine G.stepD (OD.assign rfl rfl) rfl rfl rfl ?_
 refine G.nil (GE.blockN (GE.then_ (GC.region ?_)))
 refine G.stepD (OD.move rfl rfl) rfl rfl rfl ?_
 refine G.stepD (OD.addI rfl rfl rfl (by omega)) rfl rfl rfl ?_
 refine G.stepD (OD.assign rfl rfl) rfl rfl rfl ?_
 refine G.nil ?_
 refine GE.at [0, 1, 0, 0, 0, 0, 0, 0, 0, 0, 0] 0 (env' := [(0, vx), (2, .pointer (some ⟨g1, 0, none⟩)), (6, .pointer (some ⟨b20, 0, none⟩)), (11, .int .i64 ((i : Int))), (117, vc), (128, v43), (129, v44), (10, v44), (115, .int .i64 ((j : Int))), (116, .int .i64 ((j : Int) + 1)), (12, .int .i64 ((j : Int) + 1))]) ⟨rfl, rfl, rfl, rfl, rfl, rfl, rfl, rfl, rfl, rfl, rfl, trivial⟩ (own' := ints 3 v41 ((commF ⟨(hx.getD (i) hd0).1, (hx.getD (i) hd0).2.1, (hx.getD (i) hd0).2.2, dx.getD (i) []⟩ ⟨(hx.getD (j) hd0).1, (hx.getD (j) hd0).2.1, (hx.getD (j) hd0).2.2, dx.getD (j) []⟩).d) :: many (ints 3) uc (brL hx dx i j) :: lst 24 v43 [v41] :: lst 24 v44 (uc ++ [v41]) :: box g26 41 [.int .i64 ((hx.getD (0) hd0).1), .int .i64 ((dx.length : Nat)), .int .i64 (((dx.getD (0) []).length : Nat)), v21] :: ints 3 v21 ((rdA ((hx.getD (0) hd0).1) (ivp ((hx.getD (0) hd0).1)) (dx.getD 0 []).length dx).1.flatten) :: ints 3 v23 ((rdA ((hx.getD (0) hd0).1) (ivp ((hx.getD (0) hd0).1)) (dx.getD 0 []).length dx).2) :: ints 3 v19 dx.flatten :: box b20 41 [.int .i64 ((hx.getD (0) hd0).1), .int .i64 ((dx.length : Nat)), .int .i64 (((dx.getD (0) []).length : Nat)), v19] :: lst 24 v ux :: box g1 26 [.int .i64 (0), .int .i64 (0), .slice none 0 0] :: own) rfl ?_
 refine GE.manyPush (by omega) ?_
 refine GE.ownEq (own' := many (ints 3) (uc ++ [v41]) (brL hx dx i (j + 1)) :: lst 24 v43 [v41] :: lst 24 v44 (uc ++ [v41]) :: box g26 41 [.int .i64 ((hx.getD (0) hd0).1), .int .i64 ((dx.length : Nat)), .int .i64 (((dx.getD (0) []).length : Nat)), v21] :: ints 3 v21 ((rdA ((hx.getD (0) hd0).1) (ivp ((hx.getD (0) hd0).1)) (dx.getD 0 []).length dx).1.flatten) :: ints 3 v23 ((rdA ((hx.getD (0) hd0).1) (ivp ((hx.getD (0) hd0).1)) (dx.getD 0 []).length dx).2) :: ints 3 v19 dx.flatten :: box b20 41 [.int .i64 ((hx.getD (0) hd0).1), .int .i64 ((dx.length : Nat)), .int .i64 (((dx.getD (0) []).length : Nat)), v19] :: lst 24 v ux :: box g1 26 [.int .i64 (0), .int .i64 (0), .slice none 0 0] :: own) (by rw [brL_next] <;> rfl) ?_
 exact GE.again (j + 1, uc ++ [v41], v44) (⟨by omega, (huc.snoc hs40), by rw [List.length_append, List.length_singleton, brL_next, List.length_append, List.length_singleton]; omega, hs45⟩) (by first | omega | (dsimp only; omega)) ⟨rfl, rfl, rfl, rfl, rfl, rfl, trivial⟩ [0, 1, 1, 1, 1, 1, 1, 1, 1] 1 rfl
 replace hc31 := of_decide_eq_false hc31
 refine GC.exit (GE.pass (GE.pass (GE.hit (GE.blockN (GE.then_ (GC.region ?_))))))
 refine G.stepD (OD.move rfl rfl) rfl rfl rfl ?_
 refine G.stepD (OD.addI rfl rfl rfl (by omega)) rfl rfl rfl ?_
 refine G.stepD (OD.assign rfl rfl) rfl rfl rfl ?_
 refine G.nil ?_
 refine GE.ownEq (own' := many (ints 3) uc (brL hx dx (i + 1) 0) :: lst 24 vc uc :: box g26 41 [.int .i64 ((hx.getD (0) hd0).1), .int .i64 ((dx.length : Nat)), .int .i64 (((dx.getD (0) []).length : Nat)), v21] :: ints 3 v21 ((rdA ((hx.getD (0) hd0).1) (ivp ((hx.getD (0) hd0).1)) (dx.getD 0 []).length dx).1.flatten) :: ints 3 v23 ((rdA ((hx.getD (0) hd0).1) (ivp ((hx.getD (0) hd0).1)) (dx.getD 0 []).length dx).2) :: ints 3 v19 dx.flatten :: box b20 41 [.int .i64 ((hx.getD (0) hd0).1), .int .i64 ((dx.length : Nat)), .int .i64 (((dx.getD (0) []).length : Nat)), v19] :: lst 24 v ux :: box g1 26 [.int .i64 (0), .int .i64 (0), .slice none 0 0] :: own) (by dsimp only; rw [← brL_row (show j = hx.length by omega)]) ?_
 exact GE.again (i + 1, uc, vc) (⟨by omega, huc, by rw [hucl, brL_row (show j = hx.length by omega)], hvc⟩) (by first | omega | (dsimp only; omega)) ⟨rfl, rfl, rfl, rfl, rfl, trivial⟩ [] 0 rfl
 replace hc30 := of_decide_eq_false hc30
 refine GC.exit (GE.pass (GE.pass (GE.hit (GE.then_ (GC.seq ?_)))))
 have hbe : brL hx dx i 0 = brA hx dx := brL_end (by omega)
 refine GC.ownEq (own' := many (ints 3) ub (brA hx dx) :: lst 24 vb ub :: box g26 41 [.int .i64 ((hx.getD (0) hd0).1), .int .i64 ((dx.length : Nat)), .int .i64 (((dx.getD (0) []).length : Nat)), v21] :: ints 3 v21 ((rdA ((hx.getD (0) hd0).1) (ivp ((hx.getD (0) hd0).1)) (dx.getD 0 []).length dx).1.flatten) :: ints 3 v23 ((rdA ((hx.getD (0) hd0).1) (ivp ((hx.getD (0) hd0).1)) (dx.getD 0 []).length dx).2) :: ints 3 v19 dx.flatten :: box b20 41 [.int .i64 ((hx.getD (0) hd0).1), .int .i64 ((dx.length : Nat)), .int .i64 (((dx.getD (0) []).length : Nat)), v19] :: lst 24 v ux :: box g1 26 [.int .i64 (0), .int .i64 (0), .slice none 0 0] :: own) (by dsimp only; rw [hbe]) ?_
 rw [hbe] at hubl
 refine GC.region ?_
 refine G.stepD (OD.loadAgg rfl ti41 rfl (i := 6) rfl (us := [.int .i64 ((hx.getD (0) hd0).1), .int .i64 ((dx.length : Nat)), .int .i64 (((dx.getD (0) []).length : Nat)), v19]) rfl rfl) rfl rfl rfl ?_
 refine G.stepD (OD.move rfl rfl) rfl rfl rfl ?_
 refine G.step (OG.call [.agg #[.int .i64 ((hx.getD (0) hd0).1), .int .i64 ((dx.length : Nat)), .int .i64 (((dx.getD (0) []).length : Nat)), v19], vb] ent18 rfl rfl rfl rfl (by exact (l2Table_w hs18 (Ent.ints (i := 5) rfl) hvb (Ent.len (Ent.lst (i := 1) rfl) (by omega)) (fun k hk => Ent.manyInts (i := 0) (k := k) rfl ⟨by omega, hk⟩) (by omega) hub (n := dx.length) (m := (dx.getD 0 []).length) (M := dx) (hI.hp) (rfl) (rfl) (hRw) (rfl) (by rw [brA_len, kx]) (hI.br.all) (by omega)))) rfl rfl rfl ?_
 rintro _ _ ⟨v46, rfl, hs47, rfl⟩
 refine G.stepD (OD.extract rfl rfl rfl) rfl rfl rfl ?_
 refine G.stepD (OD.extract rfl rfl rfl) rfl rfl rfl ?_
 refine G.stepD0 (OD.store rfl ti26 rfl rfl (us := [.int .i64 ((if tbB ((hx.getD (0) hd0).1) ((dx.getD 0 []).length) dx (brA hx dx) = true then (hx.getD (0) hd0).1 else 0)), .int .i64 ((if tbB ((hx.getD (0) hd0).1) ((dx.getD 0 []).length) dx (brA hx dx) = true then (dx.length : Nat) else 0)), v46]) rfl rfl (allC rfl (allC rfl (allC (IsS.one hs47) rfl))) (i := 9) rfl rfl) rfl rfl ?_
 refine G.stepD (OD.assign rfl rfl) rfl rfl rfl ?_
 refine G.nil (GE.then_ (GC.ret ?_))
 exact GE.body [0] 9 (resN rfl (RVs.cons (rv_cells ti26 rfl (i := 9) rfl rfl) (RVs.cons (rv_tmp rfl) RVs.nil)) rfl) rfl (⟨v46, congr (congr (congrArg (fun (a0 : Int) (a1 : Int) (a3 : Bool) => (.tuple #[.agg #[.int .i64 (a0), .int .i64 (a1), v46], .bool (a3)] : Value)) ((by rw [alP, alOk_is hao hfr] : ((if tbB ((hx.getD (0) hd0).1) ((dx.getD 0 []).length) dx (brA hx dx) = true then (hx.getD (0) hd0).1 else 0) : Int) = alP hx dx))) ((by rw [alN, alOk_is hao hfr, kx] : ((if tbB ((hx.getD (0) hd0).1) ((dx.getD 0 []).length) dx (brA hx dx) = true then (dx.length : Nat) else 0) : Int) = alN hx dx))) (((alOk_is hao hfr).symm : (tbB ((hx.getD (0) hd0).1) ((dx.getD 0 []).length) dx (brA hx dx) : Bool) = alOk hx dx)), hs47, congrArg (fun (l0 : List Int) => ints 3 v46 l0 :: own) ((by rw [alD, alOk_is hao hfr] : (if tbB ((hx.getD (0) hd0).1) ((dx.getD 0 []).length) dx (brA hx dx) = true then tbD ((hx.getD (0) hd0).1) ((dx.getD 0 []).length) dx (brA hx dx) else []) = alD hx dx))⟩)
end Go.Proofs.Ytbmnnbglipkidaa
