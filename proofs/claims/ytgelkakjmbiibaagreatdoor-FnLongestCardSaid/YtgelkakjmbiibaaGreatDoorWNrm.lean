/-
  Normal words: contracts by walks.
-/
import Derived.Test.YtgelkakjmbiibaaGreatDoorFct
import Derived.Test.YtgelkakjmbiibaaGreatDoorZ25
import Derived.Test.YtgelkakjmbiibaaGreatDoorWAct
namespace Go.Proofs.YtgelkakjmbiibaaGreatDoor
set_option linter.unusedVariables false
set_option linter.unusedSimpArgs false
open Go.RowKit
theorem ent60 : ∀ us w, (callFunc 60 us).run Tryz.prog w = .ok (.enter 60 us) w := fun us w => by kernel_rfl
theorem ent62 : ∀ us w, (callFunc 62 us).run Tryz.prog w = .ok (.enter 62 us) w := fun us w => by kernel_rfl
theorem ent77 : ∀ us w, (callFunc 77 us).run Tryz.prog w = .ok (.enter 77 us) w := fun us w => by kernel_rfl
theorem ent92 : ∀ us w, (callFunc 92 us).run Tryz.prog w = .ok (.enter 92 us) w := fun us w => by kernel_rfl
set_option maxRecDepth 100000 in
theorem normalWord_w {W : World} {own : List Asn} {cr : Int} {vcd : Value} {cd : List Int} {vx : Value} {x : List Int}  (scd : IsS vcd) (ecd : Ent own fun w => Ints w vcd cd)   (sx : IsS vx) (ex : Ent own fun w => Ints w vx x)  (hl0 : cd.length ≤ 1073741824) (hl : x.length ≤ 1073741824) (hg : Ent own fun w => ∃ m, w.cell? ⟨Tryz.l146_ren.g 1, 0, none⟩ = some (.int .i64 m)) : Spec Tryz.prog 21 [.agg #[.int .i64 (cr), vcd], vx] W own (fun v ow => ∃ (r0 : Value), v = r0 ∧ IsS r0 ∧ ow = ints 3 r0 (nwOf cr cd x) :: own) := by
 refine Spec.enter Tryz.f21 _ Tryz.func21 rfl (n := 16) rfl rfl ?_
 refine GC.seq (GC.region ?_)
 refine G.step (OG.box (cs := [.int .i64 (cr), vcd]) rfl rfl rfl) rfl rfl rfl ?_
 rintro _ _ ⟨g1, rfl, rfl⟩
 refine G.stepD (OD.assign rfl rfl) rfl rfl rfl ?_
 refine G.nil (GE.then_ (GC.seq (GC.seq (GC.region ?_))))
 refine G.stepD (OD.loadAgg rfl ti27 rfl (i := 0) rfl (us := [.int .i64 (cr), vcd]) rfl rfl) rfl rfl rfl ?_
 refine G.stepD (OD.move rfl rfl) rfl rfl rfl ?_
 refine G.step (OG.call [.agg #[.int .i64 (cr), vcd], vx] ent60 rfl rfl rfl rfl (by exact (wordOk_w scd (Ent.drop 1 ecd) sx (Ent.drop 1 ex) (hl0) (by omega) ((Ent.drop 1 hg))))) rfl rfl rfl ?_
 rintro _ _ ⟨rfl, rfl⟩
 refine G.stepD (OD.not rfl rfl) rfl rfl rfl ?_
 refine G.nil (GE.then_ ?_)
 refine GC.cond rfl (fun hc2 => ?_) (fun hc2 => ?_)
 replace hc2 := eq_false_of_not hc2
 refine GC.seq (GC.region ?_)
 refine G.stepD (OD.assign rfl rfl) rfl rfl rfl ?_
 refine G.nil (GE.then_ (GC.ret (GE.passR ?_)))
 refine GE.nilInts 3 ?_
 exact GE.body [0] 1 (res1 rfl rfl) rfl (⟨(.slice none 0 0), rfl, IsS.nil, congrArg (fun (l0 : List Int) => ints 3 (.slice none 0 0) l0 :: own) ((by rw [nwOf, hc2]; rfl : [] = nwOf cr cd x))⟩)
 replace hc2 := eq_true_of_not hc2
 refine GC.skip (GE.then_ (GC.seq ?_))
 refine GC.at [] 0 (env' := [(1, vx), (2, .pointer (some ⟨g1, 0, none⟩)), (4, .slice none 0 0)]) ⟨rfl, rfl, rfl, trivial⟩ rfl ?_
 refine GC.par (its := [⟨9, [], [], [], [], fun _ => .agg #[.int .i64 (cr), vcd], fun _ => True, fun _ => []⟩,
     ⟨10, [], [], [], [], fun _ => .agg #[.int .i64 (cr), vcd], fun _ => True, fun _ => []⟩,
     ⟨11, [], [], [], [], fun _ => vx, fun _ => True, fun _ => []⟩,
     ⟨12, [], [], [], [], fun _ => .agg #[.int .i64 (cr), vcd], fun _ => True, fun _ => []⟩,
     ⟨13, [(3, 12)], [], [], [4], fun ds => ((ds.getD 0 []).getD 0 undef), fun ds => IsS ((ds.getD 0 []).getD 0 undef), fun ds => [ints 3 ((ds.getD 0 []).getD 0 undef) (ones cr 1)]⟩,
     ⟨14, [(1, 10), (2, 11), (4, 13)], [4], [], [4, 5], fun ds => ((ds.getD 1 []).getD 0 undef), fun ds => IsS ((ds.getD 1 []).getD 0 undef), fun ds => [ints 3 ((ds.getD 1 []).getD 0 undef) (actF cr cd x (ones cr 1))]⟩,
     ⟨15, [(0, 9), (5, 14)], [4, 5], [], [4, 5, 6], fun ds => ((ds.getD 2 []).getD 0 undef), fun ds => IsS ((ds.getD 2 []).getD 0 undef), fun ds => [ints 3 ((ds.getD 2 []).getD 0 undef) (nwF cr cd (actF cr cd x (ones cr 1)))]⟩]) (by kernel_rfl) (by kernel_rfl) (POps.cons ?_ (POps.cons ?_ (POps.cons ?_ (POps.cons ?_ (POps.cons ?_ (POps.cons ?_ (POps.cons ?_ POps.nil))))))) ?_
 intro θ R hd
 exact Opp.plain (OG.imp (OD.loadAgg rfl ti27 rfl (i := 0) rfl (us := [.int .i64 (cr), vcd]) rfl rfl) (by exact fun _ _ h=>pk h rfl trivial rfl)) rfl
 intro θ R hd
 exact Opp.plain (OG.imp (OD.loadAgg rfl ti27 rfl (i := 0) rfl (us := [.int .i64 (cr), vcd]) rfl rfl) (by exact fun _ _ h=>pk h rfl trivial rfl)) rfl
 intro θ R hd
 exact Opp.plain (OG.imp (OD.move rfl rfl) (by exact fun _ _ h=>pk h rfl trivial rfl)) rfl
 intro θ R hd
 exact Opp.plain (OG.imp (OD.loadAgg rfl ti27 rfl (i := 0) rfl (us := [.int .i64 (cr), vcd]) rfl rfl) (by exact fun _ _ h=>pk h rfl trivial rfl)) rfl
 rintro θ R ⟨h3d, _⟩
 exact Opp.plain (OG.imp (OG.call [.agg #[.int .i64 (cr), vcd]] ent63 rfl rfl rfl rfl (by exact (rho_w scd (Ent.drop 1 ecd.app) ((wordB_ok hc2).1.1)))) (by rintro v3 _ ⟨_, rfl, hs4, rfl⟩; exact ⟨[v3], rfl, hs4, rfl⟩)) rfl
 rintro θ R ⟨h1d, h2d, h4d, _⟩
 exact Opp.plain (OG.imp (OG.call [.agg #[.int .i64 (cr), vcd], vx, ((θ 4).getD 0 undef)] ent62 rfl rfl rfl rfl (by exact (actWeight_w scd (Ent.drop 2 ecd.app) sx (Ent.drop 2 ex.app) h4d (Ent.ints (i := 0) rfl) ((wordB_ok hc2).1.1) ((wordB_ok hc2).1.2) (⟨Nat.le_trans (wordB_ok hc2).2.1 (by decide), (wordB_ok hc2).2.2⟩) (by have := (wordB_ok hc2).1.1; rw [ones_len]; omega)))) (by rintro v5 _ ⟨_, rfl, hs6, rfl⟩; exact ⟨[v5], rfl, hs6, rfl⟩)) rfl
 rintro θ R ⟨h0d, h5d, _⟩
 exact Opp.plain (OG.imp (OG.call [.agg #[.int .i64 (cr), vcd], ((θ 5).getD 0 undef)] ent61 rfl rfl rfl rfl (by exact (normalOf_w scd (Ent.drop 3 ecd.app) h5d (Ent.ints (i := 1) rfl) ((wordB_ok hc2).1.1) ((wordB_ok hc2).1.2) (phOk (wordB_ty hc2)) (Bd.word hc2)))) (by rintro v7 _ ⟨_, rfl, hs8, rfl⟩; exact ⟨[v7], rfl, hs8, rfl⟩)) rfl
 intro θ hall
 obtain ⟨_, _, _, _, h4a, h5a, h6a, _⟩ := hall
 refine G.at [] 0 (env' := [(4, .slice none 0 0), (15, ((θ 6).getD 0 undef))]) ⟨rfl, rfl, trivial⟩ (own' := ints 3 ((θ 4).getD 0 undef) (ones cr 1) :: ints 3 ((θ 5).getD 0 undef) (actF cr cd x (ones cr 1)) :: ints 3 ((θ 6).getD 0 undef) (nwF cr cd (actF cr cd x (ones cr 1))) :: box g1 27 [.int .i64 (cr), vcd] :: own) rfl ?_
 have hs9 : IsS ((θ 4).getD 0 undef) := h4a
 clear h4a
 generalize ((θ 4).getD 0 undef) = v10 at *
 have hs11 : IsS ((θ 5).getD 0 undef) := h5a
 clear h5a
 generalize ((θ 5).getD 0 undef) = v12 at *
 have hs13 : IsS ((θ 6).getD 0 undef) := h6a
 clear h6a
 generalize ((θ 6).getD 0 undef) = v14 at *
 show G _ _ _ [_] _ _ _ _
 refine G.stepD (OD.assign rfl rfl) rfl rfl rfl ?_
 refine G.nil (GE.then_ (GC.ret ?_))
 exact GE.body [2] 3 (res1 rfl rfl) rfl (⟨v14, rfl, hs13, congrArg (fun (l0 : List Int) => ints 3 v14 l0 :: own) ((by rw [nwOf, hc2]; rfl : nwF cr cd (actF cr cd x (ones cr 1)) = nwOf cr cd x))⟩)
set_option maxRecDepth 100000 in
theorem inverseWord_w {W : World} {own : List Asn} {cr : Int} {vcd : Value} {cd : List Int} {vx : Value} {x : List Int}  (scd : IsS vcd) (ecd : Ent own fun w => Ints w vcd cd)   (sx : IsS vx) (ex : Ent own fun w => Ints w vx x)  (hl0 : cd.length ≤ 1073741824) (hl : x.length ≤ 1073741824) (hg : Ent own fun w => ∃ m, w.cell? ⟨Tryz.l146_ren.g 1, 0, none⟩ = some (.int .i64 m)) : Spec Tryz.prog 24 [.agg #[.int .i64 (cr), vcd], vx] W own (fun v ow => ∃ (r0 : Value), v = r0 ∧ IsS r0 ∧ ow = ints 3 r0 (ivOf cr cd x) :: own) := by
 refine Spec.enter Tryz.f24 _ Tryz.func24 rfl (n := 21) rfl rfl ?_
 refine GC.seq (GC.region ?_)
 refine G.step (OG.box (cs := [.int .i64 (cr), vcd]) rfl rfl rfl) rfl rfl rfl ?_
 rintro _ _ ⟨g1, rfl, rfl⟩
 refine G.stepD (OD.assign rfl rfl) rfl rfl rfl ?_
 refine G.nil (GE.then_ (GC.seq (GC.seq (GC.region ?_))))
 refine G.stepD (OD.loadAgg rfl ti27 rfl (i := 0) rfl (us := [.int .i64 (cr), vcd]) rfl rfl) rfl rfl rfl ?_
 refine G.stepD (OD.move rfl rfl) rfl rfl rfl ?_
 refine G.step (OG.call [.agg #[.int .i64 (cr), vcd], vx] ent60 rfl rfl rfl rfl (by exact (wordOk_w scd (Ent.drop 1 ecd) sx (Ent.drop 1 ex) (hl0) (by omega) ((Ent.drop 1 hg))))) rfl rfl rfl ?_
 rintro _ _ ⟨rfl, rfl⟩
 refine G.stepD (OD.not rfl rfl) rfl rfl rfl ?_
 refine G.nil (GE.then_ ?_)
 refine GC.cond rfl (fun hc2 => ?_) (fun hc2 => ?_)
 replace hc2 := eq_false_of_not hc2
 refine GC.seq (GC.region ?_)
 refine G.stepD (OD.assign rfl rfl) rfl rfl rfl ?_
 refine G.nil (GE.then_ (GC.ret (GE.passR ?_)))
 refine GE.nilInts 3 ?_
 exact GE.body [0] 1 (res1 rfl rfl) rfl (⟨(.slice none 0 0), rfl, IsS.nil, congrArg (fun (l0 : List Int) => ints 3 (.slice none 0 0) l0 :: own) ((by rw [ivOf, hc2]; rfl : [] = ivOf cr cd x))⟩)
 replace hc2 := eq_true_of_not hc2
 refine GC.skip (GE.then_ (GC.seq (GC.region ?_)))
 refine G.stepD (OD.move rfl rfl) rfl rfl rfl ?_
 refine G.step (OG.call [vx] ent76 rfl rfl rfl rfl (by exact (clone_w sx (Ent.drop 1 ex) (by omega)))) rfl rfl rfl ?_
 rintro v3 _ ⟨_, rfl, hs4, rfl⟩
 refine G.stepD (OD.assign rfl rfl) rfl rfl rfl ?_
 refine G.nil (GE.then_ (GC.seq (GC.region ?_)))
 refine G.stepD (OD.move rfl rfl) rfl rfl rfl ?_
 refine G.step (OG.call [v3] ent77 rfl rfl rfl rfl (by exact (reverse_w hs4 (by omega)))) rfl rfl rfl ?_
 rintro _ _ ⟨rfl, rfl⟩
 refine G.nil (GE.then_ (GC.seq ?_))
 refine GC.at [] 0 (env' := [(2, .pointer (some ⟨g1, 0, none⟩)), (4, .slice none 0 0), (5, v3)]) ⟨rfl, rfl, rfl, trivial⟩ rfl ?_
 refine GC.par (its := [⟨14, [], [], [], [], fun _ => .agg #[.int .i64 (cr), vcd], fun _ => True, fun _ => []⟩,
     ⟨15, [], [], [], [], fun _ => .agg #[.int .i64 (cr), vcd], fun _ => True, fun _ => []⟩,
     ⟨16, [], [], [], [], fun _ => v3, fun _ => True, fun _ => []⟩,
     ⟨17, [], [], [], [], fun _ => .agg #[.int .i64 (cr), vcd], fun _ => True, fun _ => []⟩,
     ⟨18, [(3, 17)], [], [], [4], fun ds => ((ds.getD 0 []).getD 0 undef), fun ds => IsS ((ds.getD 0 []).getD 0 undef), fun ds => [ints 3 ((ds.getD 0 []).getD 0 undef) (ones cr 1)]⟩,
     ⟨19, [(1, 15), (2, 16), (4, 18)], [4], [], [4, 5], fun ds => ((ds.getD 1 []).getD 0 undef), fun ds => IsS ((ds.getD 1 []).getD 0 undef), fun ds => [ints 3 ((ds.getD 1 []).getD 0 undef) (actF cr cd x.reverse (ones cr 1))]⟩,
     ⟨20, [(0, 14), (5, 19)], [4, 5], [], [4, 5, 6], fun ds => ((ds.getD 2 []).getD 0 undef), fun ds => IsS ((ds.getD 2 []).getD 0 undef), fun ds => [ints 3 ((ds.getD 2 []).getD 0 undef) (nwF cr cd (actF cr cd x.reverse (ones cr 1)))]⟩]) (by kernel_rfl) (by kernel_rfl) (POps.cons ?_ (POps.cons ?_ (POps.cons ?_ (POps.cons ?_ (POps.cons ?_ (POps.cons ?_ (POps.cons ?_ POps.nil))))))) ?_
 intro θ R hd
 exact Opp.plain (OG.imp (OD.loadAgg rfl ti27 rfl (i := 1) rfl (us := [.int .i64 (cr), vcd]) rfl rfl) (by exact fun _ _ h=>pk h rfl trivial rfl)) rfl
 intro θ R hd
 exact Opp.plain (OG.imp (OD.loadAgg rfl ti27 rfl (i := 1) rfl (us := [.int .i64 (cr), vcd]) rfl rfl) (by exact fun _ _ h=>pk h rfl trivial rfl)) rfl
 intro θ R hd
 exact Opp.plain (OG.imp (OD.move rfl rfl) (by exact fun _ _ h=>pk h rfl trivial rfl)) rfl
 intro θ R hd
 exact Opp.plain (OG.imp (OD.loadAgg rfl ti27 rfl (i := 1) rfl (us := [.int .i64 (cr), vcd]) rfl rfl) (by exact fun _ _ h=>pk h rfl trivial rfl)) rfl
 rintro θ R ⟨h3d, _⟩
 exact Opp.plain (OG.imp (OG.call [.agg #[.int .i64 (cr), vcd]] ent63 rfl rfl rfl rfl (by exact (rho_w scd (Ent.drop 2 ecd.app) ((wordB_ok hc2).1.1)))) (by rintro v5 _ ⟨_, rfl, hs6, rfl⟩; exact ⟨[v5], rfl, hs6, rfl⟩)) rfl
 rintro θ R ⟨h1d, h2d, h4d, _⟩
 exact Opp.plain (OG.imp (OG.call [.agg #[.int .i64 (cr), vcd], v3, ((θ 4).getD 0 undef)] ent62 rfl rfl rfl rfl (by exact (actWeight_w scd (Ent.drop 3 ecd.app) hs4 (Ent.ints (i := 1) rfl) h4d (Ent.ints (i := 0) rfl) ((wordB_ok hc2).1.1) ((wordB_ok hc2).1.2) (⟨by rw [List.length_reverse]; exact Nat.le_trans (wordB_ok hc2).2.1 (by decide), fun y hy => (wordB_ok hc2).2.2 y (by simpa using hy)⟩) (by have := (wordB_ok hc2).1.1; rw [ones_len]; omega)))) (by rintro v7 _ ⟨_, rfl, hs8, rfl⟩; exact ⟨[v7], rfl, hs8, rfl⟩)) rfl
 rintro θ R ⟨h0d, h5d, _⟩
 exact Opp.plain (OG.imp (OG.call [.agg #[.int .i64 (cr), vcd], ((θ 5).getD 0 undef)] ent61 rfl rfl rfl rfl (by exact (normalOf_w scd (Ent.drop 4 ecd.app) h5d (Ent.ints (i := 1) rfl) ((wordB_ok hc2).1.1) ((wordB_ok hc2).1.2) (phOk (wordB_ty hc2)) (Bd.rev hc2)))) (by rintro v9 _ ⟨_, rfl, hs10, rfl⟩; exact ⟨[v9], rfl, hs10, rfl⟩)) rfl
 intro θ hall
 obtain ⟨_, _, _, _, h4a, h5a, h6a, _⟩ := hall
 refine G.at [] 0 (env' := [(4, .slice none 0 0), (20, ((θ 6).getD 0 undef))]) ⟨rfl, rfl, trivial⟩ (own' := ints 3 ((θ 4).getD 0 undef) (ones cr 1) :: ints 3 ((θ 5).getD 0 undef) (actF cr cd x.reverse (ones cr 1)) :: ints 3 ((θ 6).getD 0 undef) (nwF cr cd (actF cr cd x.reverse (ones cr 1))) :: ints 3 v3 x.reverse :: box g1 27 [.int .i64 (cr), vcd] :: own) rfl ?_
 have hs11 : IsS ((θ 4).getD 0 undef) := h4a
 clear h4a
 generalize ((θ 4).getD 0 undef) = v12 at *
 have hs13 : IsS ((θ 5).getD 0 undef) := h5a
 clear h5a
 generalize ((θ 5).getD 0 undef) = v14 at *
 have hs15 : IsS ((θ 6).getD 0 undef) := h6a
 clear h6a
 generalize ((θ 6).getD 0 undef) = v16 at *
 show G _ _ _ [_] _ _ _ _
 refine G.stepD (OD.assign rfl rfl) rfl rfl rfl ?_
 refine G.nil (GE.then_ (GC.ret ?_))
 exact GE.body [2] 4 (res1 rfl rfl) rfl (⟨v16, rfl, hs15, congrArg (fun (l0 : List Int) => ints 3 v16 l0 :: own) ((by rw [ivOf, hc2]; rfl : nwF cr cd (actF cr cd x.reverse (ones cr 1)) = ivOf cr cd x))⟩)
set_option maxRecDepth 100000 in
theorem longest_w {W : World} {own : List Asn} {cr : Int} {vcd : Value} {cd : List Int}  (scd : IsS vcd) (ecd : Ent own fun w => Ints w vcd cd)  (hcr : 1 ≤ cr ∧ cr ≤ 4) (hcd : (cd.length : Int) = cr * cr) (hp : PhOk cr cd) : Spec Tryz.prog 92 [.agg #[.int .i64 (cr), vcd]] W own (fun v ow => ∃ (r0 : Value), v = r0 ∧ IsS r0 ∧ ow = ints 3 r0 (lwF cr cd) :: own) := by
 refine Spec.enter Tryz.f92 _ Tryz.func92 rfl (n := 8) rfl rfl ?_
 refine GC.seq (GC.region ?_)
 refine G.step (OG.box (cs := [.int .i64 (cr), vcd]) rfl rfl rfl) rfl rfl rfl ?_
 rintro _ _ ⟨g1, rfl, rfl⟩
 refine G.stepD (OD.assign rfl rfl) rfl rfl rfl ?_
 refine G.nil (GE.then_ (GC.seq ?_))
 refine GC.at [] 0 (env' := [(1, .pointer (some ⟨g1, 0, none⟩)), (2, .slice none 0 0)]) ⟨rfl, rfl, trivial⟩ rfl ?_
 refine GC.par (its := [⟨3, [], [], [], [], fun _ => .agg #[.int .i64 (cr), vcd], fun _ => True, fun _ => []⟩,
     ⟨4, [], [], [], [], fun _ => .agg #[.int .i64 (cr), vcd], fun _ => True, fun _ => []⟩,
     ⟨5, [(1, 4)], [], [], [2], fun ds => ((ds.getD 0 []).getD 0 undef), fun ds => IsS ((ds.getD 0 []).getD 0 undef), fun ds => [ints 3 ((ds.getD 0 []).getD 0 undef) (ones cr 1)]⟩,
     ⟨6, [(2, 5)], [2], [], [2, 3], fun ds => ((ds.getD 1 []).getD 0 undef), fun ds => IsS ((ds.getD 1 []).getD 0 undef), fun ds => [ints 3 ((ds.getD 1 []).getD 0 undef) (lpF (List.replicate (ones cr 1).length 0) (-1) (ones cr 1))]⟩,
     ⟨7, [(0, 3), (3, 6)], [2, 3], [], [2, 3, 4], fun ds => ((ds.getD 2 []).getD 0 undef), fun ds => IsS ((ds.getD 2 []).getD 0 undef), fun ds => [ints 3 ((ds.getD 2 []).getD 0 undef) (nwF cr cd (lpF (List.replicate (ones cr 1).length 0) (-1) (ones cr 1)))]⟩]) (by kernel_rfl) (by kernel_rfl) (POps.cons ?_ (POps.cons ?_ (POps.cons ?_ (POps.cons ?_ (POps.cons ?_ POps.nil))))) ?_
 intro θ R hd
 exact Opp.plain (OG.imp (OD.loadAgg rfl ti27 rfl (i := 0) rfl (us := [.int .i64 (cr), vcd]) rfl rfl) (by exact fun _ _ h=>pk h rfl trivial rfl)) rfl
 intro θ R hd
 exact Opp.plain (OG.imp (OD.loadAgg rfl ti27 rfl (i := 0) rfl (us := [.int .i64 (cr), vcd]) rfl rfl) (by exact fun _ _ h=>pk h rfl trivial rfl)) rfl
 rintro θ R ⟨h1d, _⟩
 exact Opp.plain (OG.imp (OG.call [.agg #[.int .i64 (cr), vcd]] ent63 rfl rfl rfl rfl (by exact (rho_w scd (Ent.drop 1 ecd.app) (hcr)))) (by rintro v2 _ ⟨_, rfl, hs3, rfl⟩; exact ⟨[v2], rfl, hs3, rfl⟩)) rfl
 rintro θ R ⟨h2d, _⟩
 exact Opp.plain (OG.imp (OG.call [.int .i64 (-1), ((θ 2).getD 0 undef)] ent112 rfl rfl rfl rfl (by exact (listTimes_w h2d (Ent.ints (i := 0) rfl) (by rw [ones_len]; omega)))) (by rintro v4 _ ⟨_, rfl, hs5, rfl⟩; exact ⟨[v4], rfl, hs5, rfl⟩)) rfl
 rintro θ R ⟨h0d, h3d, _⟩
 exact Opp.plain (OG.imp (OG.call [.agg #[.int .i64 (cr), vcd], ((θ 3).getD 0 undef)] ent61 rfl rfl rfl rfl (by exact (normalOf_w scd (Ent.drop 3 ecd.app) h3d (Ent.ints (i := 1) rfl) (hcr) (hcd) (hp) (by rw [lp_ones]; exact Bd.dn hp)))) (by rintro v6 _ ⟨_, rfl, hs7, rfl⟩; exact ⟨[v6], rfl, hs7, rfl⟩)) rfl
 intro θ hall
 obtain ⟨_, _, h2a, h3a, h4a, _⟩ := hall
 refine G.at [] 0 (env' := [(2, .slice none 0 0), (7, ((θ 4).getD 0 undef))]) ⟨rfl, rfl, trivial⟩ (own' := ints 3 ((θ 2).getD 0 undef) (ones cr 1) :: ints 3 ((θ 3).getD 0 undef) (lpF (List.replicate (ones cr 1).length 0) (-1) (ones cr 1)) :: ints 3 ((θ 4).getD 0 undef) (nwF cr cd (lpF (List.replicate (ones cr 1).length 0) (-1) (ones cr 1))) :: box g1 27 [.int .i64 (cr), vcd] :: own) rfl ?_
 have hs8 : IsS ((θ 2).getD 0 undef) := h2a
 clear h2a
 generalize ((θ 2).getD 0 undef) = v9 at *
 have hs10 : IsS ((θ 3).getD 0 undef) := h3a
 clear h3a
 generalize ((θ 3).getD 0 undef) = v11 at *
 have hs12 : IsS ((θ 4).getD 0 undef) := h4a
 clear h4a
 generalize ((θ 4).getD 0 undef) = v13 at *
 show G _ _ _ [_] _ _ _ _
 refine G.stepD (OD.assign rfl rfl) rfl rfl rfl ?_
 refine G.nil (GE.then_ (GC.ret ?_))
 exact GE.body [2] 3 (res1 rfl rfl) rfl (⟨v13, rfl, hs12, congrArg (fun (l0 : List Int) => ints 3 v13 l0 :: own) ((by rw [lp_ones]; rfl : nwF cr cd (lpF (List.replicate (ones cr 1).length 0) (-1) (ones cr 1)) = lwF cr cd))⟩)
set_option maxRecDepth 100000 in
theorem longestWord_w {W : World} {own : List Asn} {cr : Int} {vcd : Value} {cd : List Int}  (scd : IsS vcd) (ecd : Ent own fun w => Ints w vcd cd)  (hl0 : cd.length ≤ 1073741824) (hg : Ent own fun w => ∃ m, w.cell? ⟨Tryz.l146_ren.g 1, 0, none⟩ = some (.int .i64 m)) : Spec Tryz.prog 34 [.agg #[.int .i64 (cr), vcd]] W own (fun v ow => ∃ (r0 : Value), v = r0 ∧ IsS r0 ∧ ow = ints 3 r0 (lwOf cr cd) :: own) := by
 refine Spec.enter Tryz.f34 _ Tryz.func34 rfl (n := 8) rfl rfl ?_
 refine GC.seq (GC.region ?_)
 refine G.step (OG.box (cs := [.int .i64 (cr), vcd]) rfl rfl rfl) rfl rfl rfl ?_
 rintro _ _ ⟨g1, rfl, rfl⟩
 refine G.stepD (OD.assign rfl rfl) rfl rfl rfl ?_
 refine G.nil (GE.then_ (GC.seq (GC.seq (GC.region ?_))))
 refine G.stepD (OD.loadAgg rfl ti27 rfl (i := 0) rfl (us := [.int .i64 (cr), vcd]) rfl rfl) rfl rfl rfl ?_
 refine G.step (OG.call [.agg #[.int .i64 (cr), vcd]] ent43 rfl rfl rfl rfl (by exact (isCartan_w scd (Ent.drop 1 ecd) (hl0) ((Ent.drop 1 hg))))) rfl rfl rfl ?_
 rintro _ _ ⟨rfl, rfl⟩
 refine G.stepD (OD.not rfl rfl) rfl rfl rfl ?_
 refine G.nil (GE.then_ ?_)
 refine GC.cond rfl (fun hc2 => ?_) (fun hc2 => ?_)
 replace hc2 := eq_false_of_not hc2
 refine GC.seq (GC.region ?_)
 refine G.stepD (OD.assign rfl rfl) rfl rfl rfl ?_
 refine G.nil (GE.then_ (GC.ret (GE.passR ?_)))
 refine GE.nilInts 3 ?_
 exact GE.body [0] 1 (res1 rfl rfl) rfl (⟨(.slice none 0 0), rfl, IsS.nil, congrArg (fun (l0 : List Int) => ints 3 (.slice none 0 0) l0 :: own) ((by rw [lwOf, hc2]; rfl : [] = lwOf cr cd))⟩)
 replace hc2 := eq_true_of_not hc2
 refine GC.skip (GE.then_ (GC.seq (GC.region ?_)))
 refine G.stepD (OD.loadAgg rfl ti27 rfl (i := 0) rfl (us := [.int .i64 (cr), vcd]) rfl rfl) rfl rfl rfl ?_
 refine G.step (OG.call [.agg #[.int .i64 (cr), vcd]] ent92 rfl rfl rfl rfl (by exact (longest_w scd (Ent.drop 1 ecd) ((tyS_ok hc2).1) ((tyS_ok hc2).2) (phOk hc2)))) rfl rfl rfl ?_
 rintro v3 _ ⟨_, rfl, hs4, rfl⟩
 refine G.stepD (OD.assign rfl rfl) rfl rfl rfl ?_
 refine G.nil (GE.then_ (GC.ret ?_))
 exact GE.body [0] 1 (res1 rfl rfl) rfl (⟨v3, rfl, hs4, congrArg (fun (l0 : List Int) => ints 3 v3 l0 :: own) ((by rw [lwOf, hc2]; rfl : lwF cr cd = lwOf cr cd))⟩)
end Go.Proofs.YtgelkakjmbiibaaGreatDoor
