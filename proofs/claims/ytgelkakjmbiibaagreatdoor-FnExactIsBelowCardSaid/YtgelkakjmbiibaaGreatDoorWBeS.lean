/-
  What is below an element, by the second text: contracts by walks.
-/
import Derived.Test.YtgelkakjmbiibaaGreatDoorFct
import Derived.Test.YtgelkakjmbiibaaGreatDoorWNrm
import Derived.Test.YtgelkakjmbiibaaGreatDoorIsb
namespace Go.Proofs.YtgelkakjmbiibaaGreatDoor
set_option linter.unusedVariables false
set_option linter.unusedSimpArgs false
open Go.RowKit
theorem ent56 : ∀ us w, (callFunc 56 us).run Tryz.prog w = .ok (.enter 56 us) w := fun us w => by kernel_rfl
theorem ent57 : ∀ us w, (callFunc 57 us).run Tryz.prog w = .ok (.enter 57 us) w := fun us w => by kernel_rfl
theorem ent58 : ∀ us w, (callFunc 58 us).run Tryz.prog w = .ok (.enter 58 us) w := fun us w => by kernel_rfl
theorem ent59 : ∀ us w, (callFunc 59 us).run Tryz.prog w = .ok (.enter 59 us) w := fun us w => by kernel_rfl
set_option maxHeartbeats 4000000 in
set_option maxRecDepth 100000 in
theorem l6Below_w (f : Nat) : ∀ {W : World} {own : List Asn} {cr : Int} {vcd : Value} {cd : List Int} {vx : Value} {x : List Int} {vy : Value} {y : List Int}  (scd : IsS vcd) (ecd : Ent own fun w => Ints w vcd cd)   (sx : IsS vx) (ex : Ent own fun w => Ints w vx x)   (sy : IsS vy) (ey : Ent own fun w => Ints w vy y)  (hcr : 1 ≤ cr ∧ cr ≤ 4) (hcd : (cd.length : Int) = cr * cr) (hS : (tyS cr cd).isSome = true) (hru : Reach cr cd x) (hrv : Reach cr cd y) (hf : lnW cr (coR cr cd) y < f), Spec Tryz.prog 57 [.agg #[.int .i64 (cr), vcd], vx, vy] W own (fun v ow => v = .bool (blS cr cd f x y) ∧ ow = own) := by
 induction f with
 | zero =>
   intro W own cr vcd cd vx x vy y scd ecd sx ex sy ey hcr hcd hS hru hrv hf
   exact absurd hf (Nat.not_lt_zero _)
 | succ f ih =>
  intro W own cr vcd cd vx x vy y scd ecd sx ex sy ey hcr hcd hS hru hrv hf
  have hxl := (reach_ent hS hru).1
  have hyl := (reach_ent hS hrv).1
  refine Spec.enter Tryz.f57 _ Tryz.func57 rfl (n := 42) rfl rfl ?_
  refine GC.seq (GC.region ?_)
  refine G.step (OG.box (cs := [.int .i64 (cr), vcd]) rfl rfl rfl) rfl rfl rfl ?_
  rintro _ _ ⟨g1, rfl, rfl⟩
  refine G.stepD (OD.assign rfl rfl) rfl rfl rfl ?_
  refine G.nil (GE.then_ (GC.seq (GC.region ?_)))
  refine G.stepD (OD.assign rfl rfl) rfl rfl rfl ?_
  refine G.nil (GE.then_ (GC.seq (GC.seq (GC.region ?_))))
  refine G.stepD (OD.assign rfl rfl) rfl rfl rfl ?_
  refine G.nil (GE.then_ (GC.block ?_))
  refine GC.loop (ι := Nat × Int) (fun ⟨i, a⟩ => [(1, vx), (2, vy), (3, .pointer (some ⟨g1, 0, none⟩)), (7, .int .i64 (a)), (8, .int .i64 ((i : Int)))]) (fun ⟨i, a⟩ => box g1 27 [.int .i64 (cr), vcd] :: own) (fun ⟨i, a⟩ => ((i : Int) ≤ cr) ∧ (a = lsn y i)) (fun ⟨i, a⟩ => cr.toNat - i) (0, -1) (⟨by omega, rfl⟩) ⟨rfl, rfl, rfl, rfl, rfl, trivial⟩ [] 0 rfl ?_
  rintro ⟨i, a⟩ ⟨hi, ha⟩
  refine GC.seq (GC.seq (GC.region ?_))
  refine G.stepD (OD.move rfl rfl) rfl rfl rfl ?_
  refine G.stepD (OD.fieldAddr rfl rfl fa27_0) rfl rfl rfl ?_
  refine G.stepD (OD.load rfl ti3 rfl (i := 0) rfl rfl) rfl rfl rfl ?_
  refine G.stepD (OD.lss rfl rfl rfl) rfl rfl rfl ?_
  refine G.nil (GE.then_ ?_)
  refine GC.cond rfl (fun hc2 => ?_) (fun hc2 => ?_)
  replace hc2 := of_decide_eq_true hc2
  refine GC.skip (GE.then_ (GC.seq (GC.block (GC.seq (GC.region ?_)))))
  refine G.stepD (OD.move rfl rfl) rfl rfl rfl ?_
  refine G.stepD (OD.move rfl rfl) rfl rfl rfl ?_
  refine G.stepD (OD.indexAddr rfl et22 rfl (Ent.drop 1 ey) rfl (by omega)) rfl rfl rfl ?_
  refine G.stepD (OD.loadInt rfl ti3 rfl (Ent.drop 1 ey) (by omega)) rfl rfl rfl ?_
  refine G.stepD (OD.lss rfl rfl rfl) rfl rfl rfl ?_
  refine G.nil (GE.then_ ?_)
  refine GC.cond rfl (fun hc3 => ?_) (fun hc3 => ?_)
  replace hc3 := of_decide_eq_true hc3
  refine GC.region ?_
  refine G.stepD (OD.move rfl rfl) rfl rfl rfl ?_
  refine G.stepD (OD.assign rfl rfl) rfl rfl rfl ?_
  refine G.nil (GE.blockN (GE.then_ (GC.region ?_)))
  refine G.stepD (OD.move rfl rfl) rfl rfl rfl ?_
  refine G.stepD (OD.addI rfl rfl rfl (by omega)) rfl rfl rfl ?_
  refine G.stepD (OD.assign rfl rfl) rfl rfl rfl ?_
  refine G.nil ?_
  exact GE.again (i + 1, (i : Int)) (⟨by omega, by rw [lsn_succ, if_pos (show y.getD i 0 < 0 from hc3)]⟩) (by first | omega | (dsimp only; omega)) ⟨rfl, rfl, rfl, rfl, rfl, trivial⟩ [] 0 rfl
  replace hc3 := of_decide_eq_false hc3
  refine GC.skip (GE.blockN (GE.then_ (GC.region ?_)))
  refine G.stepD (OD.move rfl rfl) rfl rfl rfl ?_
  refine G.stepD (OD.addI rfl rfl rfl (by omega)) rfl rfl rfl ?_
  refine G.stepD (OD.assign rfl rfl) rfl rfl rfl ?_
  refine G.nil ?_
  exact GE.again (i + 1, a) (⟨by omega, by rw [lsn_succ, if_neg (show ¬ y.getD i 0 < 0 from hc3)]; exact ha⟩) (by first | omega | (dsimp only; omega)) ⟨rfl, rfl, rfl, rfl, rfl, trivial⟩ [] 0 rfl
  replace hc2 := of_decide_eq_false hc2
  refine GC.exit (GE.pass (GE.pass (GE.hit (GE.then_ (GC.seq (GC.seq (GC.region ?_)))))))
  refine G.stepD (OD.move rfl rfl) rfl rfl rfl ?_
  refine G.stepD (OD.lss rfl rfl rfl) rfl rfl rfl ?_
  refine G.nil (GE.then_ ?_)
  refine GC.cond rfl (fun hc4 => ?_) (fun hc4 => ?_)
  replace hc4 := of_decide_eq_true hc4
  have han : a = lsn y cr.toNat := by rw [ha, show i = cr.toNat by omega]
  refine GC.seq (GC.region ?_)
  refine G.stepD (OD.move rfl rfl) rfl rfl rfl ?_
  refine G.stepD (OD.move rfl rfl) rfl rfl rfl ?_
  refine G.step (OG.call [vx, vy] ent116 rfl rfl rfl rfl (by exact (l1Same_s sx (Ent.drop 1 ex) sy (Ent.drop 1 ey) (by omega)))) rfl rfl rfl ?_
  rintro _ _ ⟨rfl, rfl⟩
  refine G.stepD (OD.assign rfl rfl) rfl rfl rfl ?_
  refine G.nil (GE.then_ (GC.ret (GE.passR ?_)))
  exact GE.body [] 1 (res1 rfl rfl) rfl (⟨congrArg (fun (a0 : Bool) => (.bool (a0) : Value)) ((by rw [blS, if_pos (by omega)] : (samB x y : Bool) = blS cr cd (f + 1) x y)), rfl⟩)
  replace hc4 := of_decide_eq_false hc4
  have han : a = lsn y cr.toNat := by rw [ha, show i = cr.toNat by omega]
  obtain ⟨q, hq, hq2, hq3⟩ : ∃ q : Nat, q < cr.toNat ∧ a = (q : Int) ∧ y.getD q 0 < 0 := (lsn_at y cr.toNat).elim (fun e => absurd e.1 (by omega)) (fun ⟨q, e1, e2, e3⟩ => ⟨q, e1, by rw [han]; exact e2, e3⟩)
  have hW := wlOk hS
  have hvr := hrv.step hq
  have hxr := hru.step hq
  have hve := hW.rf hrv hq
  have hxe := hW.rf hru hq
  have hvl := (hW.co.ln hq y (by omega)).2 hq3
  have hqa : a.toNat = q := by omega
  rw [← hq2] at hve hxe
  refine GC.skip (GE.then_ (GC.seq (GC.seq (GC.region ?_))))
  refine G.stepD (OD.move rfl rfl) rfl rfl rfl ?_
  refine G.stepD (OD.move rfl rfl) rfl rfl rfl ?_
  refine G.stepD (OD.indexAddr rfl et22 rfl (Ent.drop 1 ex) rfl (by omega)) rfl rfl rfl ?_
  refine G.stepD (OD.loadInt rfl ti3 rfl (Ent.drop 1 ex) (by omega)) rfl rfl rfl ?_
  refine G.stepD (OD.lss rfl rfl rfl) rfl rfl rfl ?_
  refine G.nil (GE.then_ ?_)
  refine GC.cond rfl (fun hc5 => ?_) (fun hc5 => ?_)
  replace hc5 := of_decide_eq_true hc5
  refine GC.region ?_
  refine G.stepD (OD.loadAgg rfl ti27 rfl (i := 0) rfl (us := [.int .i64 (cr), vcd]) rfl rfl) rfl rfl rfl ?_
  refine G.stepD (OD.move rfl rfl) rfl rfl rfl ?_
  refine G.stepD (OD.move rfl rfl) rfl rfl rfl ?_
  refine G.step (OG.call [.agg #[.int .i64 (cr), vcd], .int .i64 (a), vx] ent117 rfl rfl rfl rfl (by exact (l6Reflect_w scd (Ent.drop 1 ecd) sx (Ent.drop 1 ex) (hcr) (hcd) (by omega) (hxl)))) rfl rfl rfl ?_
  rintro v6 _ ⟨_, rfl, hs7, rfl⟩
  refine G.stepD (OD.assign rfl rfl) rfl rfl rfl ?_
  refine G.nil (GE.then_ (GC.seq ?_))
  refine GC.at [] 0 (env' := [(2, vy), (3, .pointer (some ⟨g1, 0, none⟩)), (7, .int .i64 (a)), (1, v6)]) ⟨rfl, rfl, rfl, rfl, trivial⟩ rfl ?_
  refine GC.par (its := [⟨35, [], [], [], [], fun _ => .agg #[.int .i64 (cr), vcd], fun _ => True, fun _ => []⟩,
      ⟨36, [], [], [], [], fun _ => v6, fun _ => True, fun _ => []⟩,
      ⟨37, [], [], [], [], fun _ => .agg #[.int .i64 (cr), vcd], fun _ => True, fun _ => []⟩,
      ⟨38, [], [], [], [], fun _ => .int .i64 (a), fun _ => True, fun _ => []⟩,
      ⟨39, [], [], [], [], fun _ => vy, fun _ => True, fun _ => []⟩,
      ⟨40, [(2, 37), (3, 38), (4, 39)], [], [], [5], fun ds => ((ds.getD 0 []).getD 0 undef), fun ds => IsS ((ds.getD 0 []).getD 0 undef), fun ds => [ints 3 ((ds.getD 0 []).getD 0 undef) (rfF cr cd a y)]⟩,
      ⟨41, [(0, 35), (1, 36), (5, 40)], [5], [], [5], fun _ => .bool (blS cr cd f (rfF cr cd a x) (rfF cr cd a y)), fun _ => True, fun _ => []⟩]) (by kernel_rfl) (by kernel_rfl) (POps.cons ?_ (POps.cons ?_ (POps.cons ?_ (POps.cons ?_ (POps.cons ?_ (POps.cons ?_ (POps.cons ?_ POps.nil))))))) ?_
  intro θ R hd
  exact Opp.plain (OG.imp (OD.loadAgg rfl ti27 rfl (i := 1) rfl (us := [.int .i64 (cr), vcd]) rfl rfl) (by exact fun _ _ h=>pk h rfl trivial rfl)) rfl
  intro θ R hd
  exact Opp.plain (OG.imp (OD.move rfl rfl) (by exact fun _ _ h=>pk h rfl trivial rfl)) rfl
  intro θ R hd
  exact Opp.plain (OG.imp (OD.loadAgg rfl ti27 rfl (i := 1) rfl (us := [.int .i64 (cr), vcd]) rfl rfl) (by exact fun _ _ h=>pk h rfl trivial rfl)) rfl
  intro θ R hd
  exact Opp.plain (OG.imp (OD.move rfl rfl) (by exact fun _ _ h=>pk h rfl trivial rfl)) rfl
  intro θ R hd
  exact Opp.plain (OG.imp (OD.move rfl rfl) (by exact fun _ _ h=>pk h rfl trivial rfl)) rfl
  rintro θ R ⟨h2d, h3d, h4d, _⟩
  exact Opp.plain (OG.imp (OG.call [.agg #[.int .i64 (cr), vcd], .int .i64 (a), vy] ent117 rfl rfl rfl rfl (by exact (l6Reflect_w scd (Ent.drop 2 ecd.app) sy (Ent.drop 2 ey.app) (hcr) (hcd) (by omega) (hyl)))) (by rintro v8 _ ⟨_, rfl, hs9, rfl⟩; exact ⟨[v8], rfl, hs9, rfl⟩)) rfl
  rintro θ R ⟨h0d, h1d, h5d, _⟩
  exact Opp.plain (OG.imp (OG.call [.agg #[.int .i64 (cr), vcd], v6, ((θ 5).getD 0 undef)] ent57 rfl rfl rfl rfl (by exact (ih scd (Ent.drop 3 ecd.app) hs7 (Ent.ints (i := 1) rfl) h5d (Ent.ints (i := 0) rfl) (hcr) (hcd) (hS) (by rw [hxe]; exact hxr) (by rw [hve]; exact hvr) (by rw [hve]; omega)))) (by exact fun _ _ h=>pk h rfl trivial rfl)) rfl
  intro θ hall
  obtain ⟨_, _, _, _, _, h5a, _, _⟩ := hall
  refine G.at [] 0 (env' := [(41, .bool (blS cr cd f (rfF cr cd a x) (rfF cr cd a y)))]) ⟨rfl, trivial⟩ (own' := ints 3 ((θ 5).getD 0 undef) (rfF cr cd a y) :: ints 3 v6 (rfF cr cd a x) :: box g1 27 [.int .i64 (cr), vcd] :: own) rfl ?_
  have hs10 : IsS ((θ 5).getD 0 undef) := h5a
  clear h5a
  generalize ((θ 5).getD 0 undef) = v11 at *
  show G _ _ _ [_] _ _ _ _
  refine G.stepD (OD.assign rfl rfl) rfl rfl rfl ?_
  refine G.nil (GE.then_ (GC.ret ?_))
  exact GE.body [] 3 (res1 rfl rfl) rfl (⟨congrArg (fun (a0 : Bool) => (.bool (a0) : Value)) ((by rw [blS, if_neg (by omega), blM, ← han, if_pos hc5] : (blS cr cd f (rfF cr cd a x) (rfF cr cd a y) : Bool) = blS cr cd (f + 1) x y)), rfl⟩)
  replace hc5 := of_decide_eq_false hc5
  refine GC.skip (GE.then_ (GC.seq ?_))
  refine GC.at [] 0 (env' := [(1, vx), (2, vy), (3, .pointer (some ⟨g1, 0, none⟩)), (7, .int .i64 (a))]) ⟨rfl, rfl, rfl, rfl, trivial⟩ rfl ?_
  refine GC.par (its := [⟨35, [], [], [], [], fun _ => .agg #[.int .i64 (cr), vcd], fun _ => True, fun _ => []⟩,
      ⟨36, [], [], [], [], fun _ => vx, fun _ => True, fun _ => []⟩,
      ⟨37, [], [], [], [], fun _ => .agg #[.int .i64 (cr), vcd], fun _ => True, fun _ => []⟩,
      ⟨38, [], [], [], [], fun _ => .int .i64 (a), fun _ => True, fun _ => []⟩,
      ⟨39, [], [], [], [], fun _ => vy, fun _ => True, fun _ => []⟩,
      ⟨40, [(2, 37), (3, 38), (4, 39)], [], [], [5], fun ds => ((ds.getD 0 []).getD 0 undef), fun ds => IsS ((ds.getD 0 []).getD 0 undef), fun ds => [ints 3 ((ds.getD 0 []).getD 0 undef) (rfF cr cd a y)]⟩,
      ⟨41, [(0, 35), (1, 36), (5, 40)], [5], [], [5], fun _ => .bool (blS cr cd f x (rfF cr cd a y)), fun _ => True, fun _ => []⟩]) (by kernel_rfl) (by kernel_rfl) (POps.cons ?_ (POps.cons ?_ (POps.cons ?_ (POps.cons ?_ (POps.cons ?_ (POps.cons ?_ (POps.cons ?_ POps.nil))))))) ?_
  intro θ R hd
  exact Opp.plain (OG.imp (OD.loadAgg rfl ti27 rfl (i := 0) rfl (us := [.int .i64 (cr), vcd]) rfl rfl) (by exact fun _ _ h=>pk h rfl trivial rfl)) rfl
  intro θ R hd
  exact Opp.plain (OG.imp (OD.move rfl rfl) (by exact fun _ _ h=>pk h rfl trivial rfl)) rfl
  intro θ R hd
  exact Opp.plain (OG.imp (OD.loadAgg rfl ti27 rfl (i := 0) rfl (us := [.int .i64 (cr), vcd]) rfl rfl) (by exact fun _ _ h=>pk h rfl trivial rfl)) rfl
  intro θ R hd
  exact Opp.plain (OG.imp (OD.move rfl rfl) (by exact fun _ _ h=>pk h rfl trivial rfl)) rfl
  intro θ R hd
  exact Opp.plain (OG.imp (OD.move rfl rfl) (by exact fun _ _ h=>pk h rfl trivial rfl)) rfl
  rintro θ R ⟨h2d, h3d, h4d, _⟩
  exact Opp.plain (OG.imp (OG.call [.agg #[.int .i64 (cr), vcd], .int .i64 (a), vy] ent117 rfl rfl rfl rfl (by exact (l6Reflect_w scd (Ent.drop 1 ecd.app) sy (Ent.drop 1 ey.app) (hcr) (hcd) (by omega) (hyl)))) (by rintro v12 _ ⟨_, rfl, hs13, rfl⟩; exact ⟨[v12], rfl, hs13, rfl⟩)) rfl
  rintro θ R ⟨h0d, h1d, h5d, _⟩
  exact Opp.plain (OG.imp (OG.call [.agg #[.int .i64 (cr), vcd], vx, ((θ 5).getD 0 undef)] ent57 rfl rfl rfl rfl (by exact (ih scd (Ent.drop 2 ecd.app) sx (Ent.drop 2 ex.app) h5d (Ent.ints (i := 0) rfl) (hcr) (hcd) (hS) (hru) (by rw [hve]; exact hvr) (by rw [hve]; omega)))) (by exact fun _ _ h=>pk h rfl trivial rfl)) rfl
  intro θ hall
  obtain ⟨_, _, _, _, _, h5a, _, _⟩ := hall
  refine G.at [] 0 (env' := [(41, .bool (blS cr cd f x (rfF cr cd a y)))]) ⟨rfl, trivial⟩ (own' := ints 3 ((θ 5).getD 0 undef) (rfF cr cd a y) :: box g1 27 [.int .i64 (cr), vcd] :: own) rfl ?_
  have hs14 : IsS ((θ 5).getD 0 undef) := h5a
  clear h5a
  generalize ((θ 5).getD 0 undef) = v15 at *
  show G _ _ _ [_] _ _ _ _
  refine G.stepD (OD.assign rfl rfl) rfl rfl rfl ?_
  refine G.nil (GE.then_ (GC.ret ?_))
  exact GE.body [] 2 (res1 rfl rfl) rfl (⟨congrArg (fun (a0 : Bool) => (.bool (a0) : Value)) ((by rw [blS, if_neg (by omega), blM, ← han, if_neg hc5] : (blS cr cd f x (rfF cr cd a y) : Bool) = blS cr cd (f + 1) x y)), rfl⟩)
set_option maxHeartbeats 4000000 in
set_option maxRecDepth 100000 in
theorem specIsBelow_w {W : World} {own : List Asn} {cr : Int} {vcd : Value} {cd : List Int} {vx : Value} {x : List Int} {vy : Value} {y : List Int}  (scd : IsS vcd) (ecd : Ent own fun w => Ints w vcd cd)   (sx : IsS vx) (ex : Ent own fun w => Ints w vx x)   (sy : IsS vy) (ey : Ent own fun w => Ints w vy y)  (hl0 : cd.length ≤ 1073741824) (hl : x.length ≤ 1073741824) (hly : y.length ≤ 1073741824) : Spec Tryz.prog 13 [.agg #[.int .i64 (cr), vcd], vx, vy] W own (fun v ow => v = .bool (isbOf cr cd x y) ∧ ow = own) := by
 refine Spec.enter Tryz.f13 _ Tryz.func13 rfl (n := 29) rfl rfl ?_
 refine GC.seq (GC.region ?_)
 refine G.step (OG.box (cs := [.int .i64 (cr), vcd]) rfl rfl rfl) rfl rfl rfl ?_
 rintro _ _ ⟨g1, rfl, rfl⟩
 refine G.stepD (OD.assign rfl rfl) rfl rfl rfl ?_
 refine G.nil (GE.then_ (GC.seq ?_))
 rcases Bool.eq_false_or_eq_true (wordB cr cd x) with hg2 | hg2
 rcases Bool.eq_false_or_eq_true (wordB cr cd y) with hg3 | hg3
 refine GC.at [] 0 (env' := [(1, vx), (2, vy), (3, .pointer (some ⟨g1, 0, none⟩)), (6, .bool false)]) ⟨rfl, rfl, rfl, rfl, trivial⟩ rfl ?_
 refine GC.par (its := [⟨7, [], [], [], [], fun _ => .agg #[.int .i64 (cr), vcd], fun _ => True, fun _ => []⟩,
     ⟨8, [], [], [], [], fun _ => vx, fun _ => True, fun _ => []⟩,
     ⟨9, [(0, 7), (1, 8)], [], [], [], fun _ => .bool true, fun _ => True, fun _ => []⟩,
     ⟨10, [(2, 9)], [], [], [], fun _ => .bool true, fun _ => True, fun _ => []⟩,
     ⟨11, [(3, 10)], [], [], [], fun _ => .agg #[.int .i64 (cr), vcd], fun _ => True, fun _ => []⟩,
     ⟨12, [(3, 10)], [], [], [], fun _ => vy, fun _ => True, fun _ => []⟩,
     ⟨13, [(3, 10), (4, 11), (5, 12)], [], [], [], fun _ => .bool true, fun _ => True, fun _ => []⟩,
     ⟨14, [(3, 10), (6, 13)], [], [], [], fun _ => .bool true, fun _ => True, fun _ => []⟩,
     ⟨15, [(7, 14)], [], [], [], fun _ => .bool true, fun _ => True, fun _ => []⟩,
     ⟨16, [(8, 15)], [], [], [], fun _ => .agg #[.int .i64 (cr), vcd], fun _ => True, fun _ => []⟩,
     ⟨17, [(8, 15)], [], [], [], fun _ => .agg #[.int .i64 (cr), vcd], fun _ => True, fun _ => []⟩,
     ⟨18, [(8, 15)], [], [], [], fun _ => vx, fun _ => True, fun _ => []⟩,
     ⟨19, [(8, 15)], [], [], [], fun _ => .agg #[.int .i64 (cr), vcd], fun _ => True, fun _ => []⟩,
     ⟨20, [(8, 15), (12, 19)], [], [], [13], fun ds => ((ds.getD 0 []).getD 0 undef), fun ds => IsS ((ds.getD 0 []).getD 0 undef), fun ds => [ints 3 ((ds.getD 0 []).getD 0 undef) (ones cr 1)]⟩,
     ⟨21, [(8, 15), (10, 17), (11, 18), (13, 20)], [13], [], [13, 14], fun ds => ((ds.getD 1 []).getD 0 undef), fun ds => IsS ((ds.getD 1 []).getD 0 undef), fun ds => [ints 3 ((ds.getD 1 []).getD 0 undef) (actF cr cd x (ones cr 1))]⟩,
     ⟨22, [(8, 15)], [], [], [], fun _ => .agg #[.int .i64 (cr), vcd], fun _ => True, fun _ => []⟩,
     ⟨23, [(8, 15)], [], [], [], fun _ => vy, fun _ => True, fun _ => []⟩,
     ⟨24, [(8, 15)], [], [], [], fun _ => .agg #[.int .i64 (cr), vcd], fun _ => True, fun _ => []⟩,
     ⟨25, [(8, 15), (17, 24)], [], [], [18], fun ds => ((ds.getD 0 []).getD 0 undef), fun ds => IsS ((ds.getD 0 []).getD 0 undef), fun ds => [ints 3 ((ds.getD 0 []).getD 0 undef) (ones cr 1)]⟩,
     ⟨26, [(8, 15), (15, 22), (16, 23), (18, 25)], [18], [], [18, 19], fun ds => ((ds.getD 1 []).getD 0 undef), fun ds => IsS ((ds.getD 1 []).getD 0 undef), fun ds => [ints 3 ((ds.getD 1 []).getD 0 undef) (actF cr cd y (ones cr 1))]⟩,
     ⟨27, [(8, 15), (9, 16), (14, 21), (19, 26)], [13, 14, 18, 19], [], [13, 14, 18, 19], fun _ => .bool (blS cr cd 60 (actF cr cd x (ones cr 1)) (actF cr cd y (ones cr 1))), fun _ => True, fun _ => []⟩,
     ⟨28, [(8, 15), (20, 27)], [13, 14, 18, 19], [], [13, 14, 18, 19], fun _ => .bool (blS cr cd 60 (actF cr cd x (ones cr 1)) (actF cr cd y (ones cr 1))), fun _ => True, fun _ => []⟩]) (by kernel_rfl) (by kernel_rfl) (POps.cons ?_ (POps.cons ?_ (POps.cons ?_ (POps.cons ?_ (POps.cons ?_ (POps.cons ?_ (POps.cons ?_ (POps.cons ?_ (POps.cons ?_ (POps.cons ?_ (POps.cons ?_ (POps.cons ?_ (POps.cons ?_ (POps.cons ?_ (POps.cons ?_ (POps.cons ?_ (POps.cons ?_ (POps.cons ?_ (POps.cons ?_ (POps.cons ?_ (POps.cons ?_ (POps.cons ?_ POps.nil)))))))))))))))))))))) ?_
 intro θ R hd
 exact Opp.plain (OG.imp (OD.loadAgg rfl ti27 rfl (i := 0) rfl (us := [.int .i64 (cr), vcd]) rfl rfl) (by exact fun _ _ h=>pk h rfl trivial rfl)) rfl
 intro θ R hd
 exact Opp.plain (OG.imp (OD.move rfl rfl) (by exact fun _ _ h=>pk h rfl trivial rfl)) rfl
 rintro θ R ⟨h0d, h1d, _⟩
 exact Opp.plain (OG.imp (OG.imp (K' := fun v ow => v = .bool true ∧ ow = box g1 27 [.int .i64 (cr), vcd] :: own ++ R) (OG.call [.agg #[.int .i64 (cr), vcd], vx] ent56 rfl rfl rfl rfl (by exact (specWordOk_w scd (Ent.drop 1 ecd.app) sx (Ent.drop 1 ex.app) (hl0) (by omega)))) (by rintro _ _ ⟨rfl, rfl⟩; exact ⟨congrArg Value.bool (hg2), rfl⟩)) (by exact fun _ _ h=>pk h rfl trivial rfl)) rfl
 rintro θ R ⟨h2d, _⟩
 exact Opp.plain (OG.imp (OD.move rfl rfl) (by exact fun _ _ h=>pk h rfl trivial rfl)) rfl
 rintro θ R ⟨h3d, _⟩
 exact Opp.on (OG.imp (OD.loadAgg rfl ti27 rfl (i := 0) rfl (us := [.int .i64 (cr), vcd]) rfl rfl) (by exact fun _ _ h=>pk h rfl trivial rfl)) rfl rfl rfl
 rintro θ R ⟨h3d, _⟩
 exact Opp.on (OG.imp (OD.move rfl rfl) (by exact fun _ _ h=>pk h rfl trivial rfl)) rfl rfl rfl
 rintro θ R ⟨h3d, h4d, h5d, _⟩
 exact Opp.on (OG.imp (OG.imp (K' := fun v ow => v = .bool true ∧ ow = box g1 27 [.int .i64 (cr), vcd] :: own ++ R) (OG.call [.agg #[.int .i64 (cr), vcd], vy] ent56 rfl rfl rfl rfl (by exact (specWordOk_w scd (Ent.drop 1 ecd.app) sy (Ent.drop 1 ey.app) (hl0) (by omega)))) (by rintro _ _ ⟨rfl, rfl⟩; exact ⟨congrArg Value.bool (hg3), rfl⟩)) (by exact fun _ _ h=>pk h rfl trivial rfl)) rfl rfl rfl
 rintro θ R ⟨h3d, h6d, _⟩
 exact Opp.plain (OG.imp (OD.pickT rfl rfl rfl) (by exact fun _ _ h=>pk h rfl trivial rfl)) rfl
 rintro θ R ⟨h7d, _⟩
 exact Opp.plain (OG.imp (OD.move rfl rfl) (by exact fun _ _ h=>pk h rfl trivial rfl)) rfl
 rintro θ R ⟨h8d, _⟩
 exact Opp.on (OG.imp (OD.loadAgg rfl ti27 rfl (i := 0) rfl (us := [.int .i64 (cr), vcd]) rfl rfl) (by exact fun _ _ h=>pk h rfl trivial rfl)) rfl rfl rfl
 rintro θ R ⟨h8d, _⟩
 exact Opp.on (OG.imp (OD.loadAgg rfl ti27 rfl (i := 0) rfl (us := [.int .i64 (cr), vcd]) rfl rfl) (by exact fun _ _ h=>pk h rfl trivial rfl)) rfl rfl rfl
 rintro θ R ⟨h8d, _⟩
 exact Opp.on (OG.imp (OD.move rfl rfl) (by exact fun _ _ h=>pk h rfl trivial rfl)) rfl rfl rfl
 rintro θ R ⟨h8d, _⟩
 exact Opp.on (OG.imp (OD.loadAgg rfl ti27 rfl (i := 0) rfl (us := [.int .i64 (cr), vcd]) rfl rfl) (by exact fun _ _ h=>pk h rfl trivial rfl)) rfl rfl rfl
 rintro θ R ⟨h8d, h12d, _⟩
 exact Opp.on (OG.imp (OG.call [.agg #[.int .i64 (cr), vcd]] ent59 rfl rfl rfl rfl (by exact (l6Rho_w scd (Ent.drop 1 ecd.app) ((wordB_ok hg2).1.1)))) (by rintro v4 _ ⟨_, rfl, hs5, rfl⟩; exact ⟨[v4], rfl, hs5, rfl⟩)) rfl rfl rfl
 rintro θ R ⟨h8d, h10d, h11d, h13d, _⟩
 exact Opp.on (OG.imp (OG.call [.agg #[.int .i64 (cr), vcd], vx, ((θ 13).getD 0 undef)] ent58 rfl rfl rfl rfl (by exact (l6Act_w scd (Ent.drop 2 ecd.app) sx (Ent.drop 2 ex.app) h13d (Ent.ints (i := 0) rfl) ((wordB_ok hg2).1.1) ((wordB_ok hg2).1.2) (⟨Nat.le_trans (wordB_ok hg2).2.1 (by decide), (wordB_ok hg2).2.2⟩) (by have := (wordB_ok hg2).1.1; rw [ones_len]; omega)))) (by rintro v6 _ ⟨_, rfl, hs7, rfl⟩; exact ⟨[v6], rfl, hs7, rfl⟩)) rfl rfl rfl
 rintro θ R ⟨h8d, _⟩
 exact Opp.on (OG.imp (OD.loadAgg rfl ti27 rfl (i := 0) rfl (us := [.int .i64 (cr), vcd]) rfl rfl) (by exact fun _ _ h=>pk h rfl trivial rfl)) rfl rfl rfl
 rintro θ R ⟨h8d, _⟩
 exact Opp.on (OG.imp (OD.move rfl rfl) (by exact fun _ _ h=>pk h rfl trivial rfl)) rfl rfl rfl
 rintro θ R ⟨h8d, _⟩
 exact Opp.on (OG.imp (OD.loadAgg rfl ti27 rfl (i := 0) rfl (us := [.int .i64 (cr), vcd]) rfl rfl) (by exact fun _ _ h=>pk h rfl trivial rfl)) rfl rfl rfl
 rintro θ R ⟨h8d, h17d, _⟩
 exact Opp.on (OG.imp (OG.call [.agg #[.int .i64 (cr), vcd]] ent59 rfl rfl rfl rfl (by exact (l6Rho_w scd (Ent.drop 1 ecd.app) ((wordB_ok hg2).1.1)))) (by rintro v8 _ ⟨_, rfl, hs9, rfl⟩; exact ⟨[v8], rfl, hs9, rfl⟩)) rfl rfl rfl
 rintro θ R ⟨h8d, h15d, h16d, h18d, _⟩
 exact Opp.on (OG.imp (OG.call [.agg #[.int .i64 (cr), vcd], vy, ((θ 18).getD 0 undef)] ent58 rfl rfl rfl rfl (by exact (l6Act_w scd (Ent.drop 2 ecd.app) sy (Ent.drop 2 ey.app) h18d (Ent.ints (i := 0) rfl) ((wordB_ok hg2).1.1) ((wordB_ok hg2).1.2) (⟨Nat.le_trans (wordB_ok hg3).2.1 (by decide), (wordB_ok hg3).2.2⟩) (by have := (wordB_ok hg2).1.1; rw [ones_len]; omega)))) (by rintro v10 _ ⟨_, rfl, hs11, rfl⟩; exact ⟨[v10], rfl, hs11, rfl⟩)) rfl rfl rfl
 rintro θ R ⟨h8d, h9d, h14d, h19d, _⟩
 exact Opp.on (OG.imp (OG.call [.agg #[.int .i64 (cr), vcd], ((θ 14).getD 0 undef), ((θ 19).getD 0 undef)] ent57 rfl rfl rfl rfl (by exact (l6Below_w 60 scd (Ent.drop 5 ecd.app) h14d (Ent.ints (i := 1) rfl) h19d (Ent.ints (i := 3) rfl) ((wordB_ok hg2).1.1) ((wordB_ok hg2).1.2) (wordB_ty hg2) (act_reach (wordB_ty hg2) (wordB_ok hg2).2.2) (act_reach (wordB_ty hg2) (wordB_ok hg3).2.2) (Nat.lt_of_le_of_lt (lnW_le (wlOk (wordB_ty hg2)).co _) (by decide))))) (by exact fun _ _ h=>pk h rfl trivial rfl)) rfl rfl rfl
 rintro θ R ⟨h8d, h20d, _⟩
 exact Opp.plain (OG.imp (OD.pickT rfl rfl rfl) (by exact fun _ _ h=>pk h rfl trivial rfl)) rfl
 intro θ hall
 obtain ⟨_, _, _, _, _, _, _, _, _, _, _, _, _, h13a, h14a, _, _, _, h18a, h19a, _, _, _⟩ := hall
 refine G.at [] 0 (env' := [(6, .bool false), (28, .bool (blS cr cd 60 (actF cr cd x (ones cr 1)) (actF cr cd y (ones cr 1))))]) ⟨rfl, rfl, trivial⟩ (own' := ints 3 ((θ 13).getD 0 undef) (ones cr 1) :: ints 3 ((θ 14).getD 0 undef) (actF cr cd x (ones cr 1)) :: ints 3 ((θ 18).getD 0 undef) (ones cr 1) :: ints 3 ((θ 19).getD 0 undef) (actF cr cd y (ones cr 1)) :: box g1 27 [.int .i64 (cr), vcd] :: own) rfl ?_
 have hs12 : IsS ((θ 13).getD 0 undef) := h13a
 clear h13a
 generalize ((θ 13).getD 0 undef) = v13 at *
 have hs14 : IsS ((θ 14).getD 0 undef) := h14a
 clear h14a
 generalize ((θ 14).getD 0 undef) = v15 at *
 have hs16 : IsS ((θ 18).getD 0 undef) := h18a
 clear h18a
 generalize ((θ 18).getD 0 undef) = v17 at *
 have hs18 : IsS ((θ 19).getD 0 undef) := h19a
 clear h19a
 generalize ((θ 19).getD 0 undef) = v19 at *
 show G _ _ _ [_] _ _ _ _
 refine G.stepD (OD.assign rfl rfl) rfl rfl rfl ?_
 refine G.nil (GE.then_ (GC.ret ?_))
 exact GE.body [] 5 (res1 rfl rfl) rfl (⟨congrArg (fun (a0 : Bool) => (.bool (a0) : Value)) ((by rw [isbOf, hg2, hg3]; first | rfl | simp [isbF] : (blS cr cd 60 (actF cr cd x (ones cr 1)) (actF cr cd y (ones cr 1)) : Bool) = isbOf cr cd x y)), rfl⟩)
 refine GC.at [] 0 (env' := [(1, vx), (2, vy), (3, .pointer (some ⟨g1, 0, none⟩)), (6, .bool false)]) ⟨rfl, rfl, rfl, rfl, trivial⟩ rfl ?_
 refine GC.par (its := [⟨7, [], [], [], [], fun _ => .agg #[.int .i64 (cr), vcd], fun _ => True, fun _ => []⟩,
     ⟨8, [], [], [], [], fun _ => vx, fun _ => True, fun _ => []⟩,
     ⟨9, [(0, 7), (1, 8)], [], [], [], fun _ => .bool true, fun _ => True, fun _ => []⟩,
     ⟨10, [(2, 9)], [], [], [], fun _ => .bool true, fun _ => True, fun _ => []⟩,
     ⟨11, [(3, 10)], [], [], [], fun _ => .agg #[.int .i64 (cr), vcd], fun _ => True, fun _ => []⟩,
     ⟨12, [(3, 10)], [], [], [], fun _ => vy, fun _ => True, fun _ => []⟩,
     ⟨13, [(3, 10), (4, 11), (5, 12)], [], [], [], fun _ => .bool false, fun _ => True, fun _ => []⟩,
     ⟨14, [(3, 10), (6, 13)], [], [], [], fun _ => .bool false, fun _ => True, fun _ => []⟩,
     ⟨15, [(7, 14)], [], [], [], fun _ => .bool false, fun _ => True, fun _ => []⟩,
     ⟨16, [(8, 15)], [], [], [], fun _ => undef, fun _ => True, fun _ => []⟩,
     ⟨17, [(8, 15)], [], [], [], fun _ => undef, fun _ => True, fun _ => []⟩,
     ⟨18, [(8, 15)], [], [], [], fun _ => undef, fun _ => True, fun _ => []⟩,
     ⟨19, [(8, 15)], [], [], [], fun _ => undef, fun _ => True, fun _ => []⟩,
     ⟨20, [(8, 15), (12, 19)], [], [], [], fun _ => undef, fun _ => True, fun _ => []⟩,
     ⟨21, [(8, 15), (10, 17), (11, 18), (13, 20)], [], [], [], fun _ => undef, fun _ => True, fun _ => []⟩,
     ⟨22, [(8, 15)], [], [], [], fun _ => undef, fun _ => True, fun _ => []⟩,
     ⟨23, [(8, 15)], [], [], [], fun _ => undef, fun _ => True, fun _ => []⟩,
     ⟨24, [(8, 15)], [], [], [], fun _ => undef, fun _ => True, fun _ => []⟩,
     ⟨25, [(8, 15), (17, 24)], [], [], [], fun _ => undef, fun _ => True, fun _ => []⟩,
     ⟨26, [(8, 15), (15, 22), (16, 23), (18, 25)], [], [], [], fun _ => undef, fun _ => True, fun _ => []⟩,
     ⟨27, [(8, 15), (9, 16), (14, 21), (19, 26)], [], [], [], fun _ => undef, fun _ => True, fun _ => []⟩,
     ⟨28, [(8, 15), (20, 27)], [], [], [], fun _ => .bool false, fun _ => True, fun _ => []⟩]) (by kernel_rfl) (by kernel_rfl) (POps.cons ?_ (POps.cons ?_ (POps.cons ?_ (POps.cons ?_ (POps.cons ?_ (POps.cons ?_ (POps.cons ?_ (POps.cons ?_ (POps.cons ?_ (POps.cons ?_ (POps.cons ?_ (POps.cons ?_ (POps.cons ?_ (POps.cons ?_ (POps.cons ?_ (POps.cons ?_ (POps.cons ?_ (POps.cons ?_ (POps.cons ?_ (POps.cons ?_ (POps.cons ?_ (POps.cons ?_ POps.nil)))))))))))))))))))))) ?_
 intro θ R hd
 exact Opp.plain (OG.imp (OD.loadAgg rfl ti27 rfl (i := 0) rfl (us := [.int .i64 (cr), vcd]) rfl rfl) (by exact fun _ _ h=>pk h rfl trivial rfl)) rfl
 intro θ R hd
 exact Opp.plain (OG.imp (OD.move rfl rfl) (by exact fun _ _ h=>pk h rfl trivial rfl)) rfl
 rintro θ R ⟨h0d, h1d, _⟩
 exact Opp.plain (OG.imp (OG.imp (K' := fun v ow => v = .bool true ∧ ow = box g1 27 [.int .i64 (cr), vcd] :: own ++ R) (OG.call [.agg #[.int .i64 (cr), vcd], vx] ent56 rfl rfl rfl rfl (by exact (specWordOk_w scd (Ent.drop 1 ecd.app) sx (Ent.drop 1 ex.app) (hl0) (by omega)))) (by rintro _ _ ⟨rfl, rfl⟩; exact ⟨congrArg Value.bool (hg2), rfl⟩)) (by exact fun _ _ h=>pk h rfl trivial rfl)) rfl
 rintro θ R ⟨h2d, _⟩
 exact Opp.plain (OG.imp (OD.move rfl rfl) (by exact fun _ _ h=>pk h rfl trivial rfl)) rfl
 rintro θ R ⟨h3d, _⟩
 exact Opp.on (OG.imp (OD.loadAgg rfl ti27 rfl (i := 0) rfl (us := [.int .i64 (cr), vcd]) rfl rfl) (by exact fun _ _ h=>pk h rfl trivial rfl)) rfl rfl rfl
 rintro θ R ⟨h3d, _⟩
 exact Opp.on (OG.imp (OD.move rfl rfl) (by exact fun _ _ h=>pk h rfl trivial rfl)) rfl rfl rfl
 rintro θ R ⟨h3d, h4d, h5d, _⟩
 exact Opp.on (OG.imp (OG.imp (K' := fun v ow => v = .bool false ∧ ow = box g1 27 [.int .i64 (cr), vcd] :: own ++ R) (OG.call [.agg #[.int .i64 (cr), vcd], vy] ent56 rfl rfl rfl rfl (by exact (specWordOk_w scd (Ent.drop 1 ecd.app) sy (Ent.drop 1 ey.app) (hl0) (by omega)))) (by rintro _ _ ⟨rfl, rfl⟩; exact ⟨congrArg Value.bool (hg3), rfl⟩)) (by exact fun _ _ h=>pk h rfl trivial rfl)) rfl rfl rfl
 rintro θ R ⟨h3d, h6d, _⟩
 exact Opp.plain (OG.imp (OD.pickT rfl rfl rfl) (by exact fun _ _ h=>pk h rfl trivial rfl)) rfl
 rintro θ R ⟨h7d, _⟩
 exact Opp.plain (OG.imp (OD.move rfl rfl) (by exact fun _ _ h=>pk h rfl trivial rfl)) rfl
 rintro θ R ⟨h8d, _⟩
 exact Opp.off ⟨[], rfl, trivial, rfl⟩ rfl rfl rfl rfl
 rintro θ R ⟨h8d, _⟩
 exact Opp.off ⟨[], rfl, trivial, rfl⟩ rfl rfl rfl rfl
 rintro θ R ⟨h8d, _⟩
 exact Opp.off ⟨[], rfl, trivial, rfl⟩ rfl rfl rfl rfl
 rintro θ R ⟨h8d, _⟩
 exact Opp.off ⟨[], rfl, trivial, rfl⟩ rfl rfl rfl rfl
 rintro θ R ⟨h8d, h12d, _⟩
 exact Opp.off ⟨[], rfl, trivial, rfl⟩ rfl rfl rfl rfl
 rintro θ R ⟨h8d, h10d, h11d, h13d, _⟩
 exact Opp.off ⟨[], rfl, trivial, rfl⟩ rfl rfl rfl rfl
 rintro θ R ⟨h8d, _⟩
 exact Opp.off ⟨[], rfl, trivial, rfl⟩ rfl rfl rfl rfl
 rintro θ R ⟨h8d, _⟩
 exact Opp.off ⟨[], rfl, trivial, rfl⟩ rfl rfl rfl rfl
 rintro θ R ⟨h8d, _⟩
 exact Opp.off ⟨[], rfl, trivial, rfl⟩ rfl rfl rfl rfl
 rintro θ R ⟨h8d, h17d, _⟩
 exact Opp.off ⟨[], rfl, trivial, rfl⟩ rfl rfl rfl rfl
 rintro θ R ⟨h8d, h15d, h16d, h18d, _⟩
 exact Opp.off ⟨[], rfl, trivial, rfl⟩ rfl rfl rfl rfl
 rintro θ R ⟨h8d, h9d, h14d, h19d, _⟩
 exact Opp.off ⟨[], rfl, trivial, rfl⟩ rfl rfl rfl rfl
 rintro θ R ⟨h8d, h20d, _⟩
 exact Opp.plain (OG.imp (OD.pickF rfl rfl rfl) (by exact fun _ _ h=>pk h rfl trivial rfl)) rfl
 intro θ hall
 obtain ⟨_, _, _, _, _, _, _, _, _, _, _, _, _, _, _, _, _, _, _, _, _, _, _⟩ := hall
 refine G.at [] 0 (env' := [(6, .bool false), (28, .bool false)]) ⟨rfl, rfl, trivial⟩ (own' := box g1 27 [.int .i64 (cr), vcd] :: own) rfl ?_
 show G _ _ _ [_] _ _ _ _
 refine G.stepD (OD.assign rfl rfl) rfl rfl rfl ?_
 refine G.nil (GE.then_ (GC.ret ?_))
 exact GE.body [] 1 (res1 rfl rfl) rfl (⟨congrArg (fun (a0 : Bool) => (.bool (a0) : Value)) ((by rw [isbOf, hg2, hg3]; first | rfl | simp [isbF] : (false : Bool) = isbOf cr cd x y)), rfl⟩)
 refine GC.at [] 0 (env' := [(1, vx), (2, vy), (3, .pointer (some ⟨g1, 0, none⟩)), (6, .bool false)]) ⟨rfl, rfl, rfl, rfl, trivial⟩ rfl ?_
 refine GC.par (its := [⟨7, [], [], [], [], fun _ => .agg #[.int .i64 (cr), vcd], fun _ => True, fun _ => []⟩,
     ⟨8, [], [], [], [], fun _ => vx, fun _ => True, fun _ => []⟩,
     ⟨9, [(0, 7), (1, 8)], [], [], [], fun _ => .bool false, fun _ => True, fun _ => []⟩,
     ⟨10, [(2, 9)], [], [], [], fun _ => .bool false, fun _ => True, fun _ => []⟩,
     ⟨11, [(3, 10)], [], [], [], fun _ => undef, fun _ => True, fun _ => []⟩,
     ⟨12, [(3, 10)], [], [], [], fun _ => undef, fun _ => True, fun _ => []⟩,
     ⟨13, [(3, 10), (4, 11), (5, 12)], [], [], [], fun _ => undef, fun _ => True, fun _ => []⟩,
     ⟨14, [(3, 10), (6, 13)], [], [], [], fun _ => .bool false, fun _ => True, fun _ => []⟩,
     ⟨15, [(7, 14)], [], [], [], fun _ => .bool false, fun _ => True, fun _ => []⟩,
     ⟨16, [(8, 15)], [], [], [], fun _ => undef, fun _ => True, fun _ => []⟩,
     ⟨17, [(8, 15)], [], [], [], fun _ => undef, fun _ => True, fun _ => []⟩,
     ⟨18, [(8, 15)], [], [], [], fun _ => undef, fun _ => True, fun _ => []⟩,
     ⟨19, [(8, 15)], [], [], [], fun _ => undef, fun _ => True, fun _ => []⟩,
     ⟨20, [(8, 15), (12, 19)], [], [], [], fun _ => undef, fun _ => True, fun _ => []⟩,
     ⟨21, [(8, 15), (10, 17), (11, 18), (13, 20)], [], [], [], fun _ => undef, fun _ => True, fun _ => []⟩,
     ⟨22, [(8, 15)], [], [], [], fun _ => undef, fun _ => True, fun _ => []⟩,
     ⟨23, [(8, 15)], [], [], [], fun _ => undef, fun _ => True, fun _ => []⟩,
     ⟨24, [(8, 15)], [], [], [], fun _ => undef, fun _ => True, fun _ => []⟩,
     ⟨25, [(8, 15), (17, 24)], [], [], [], fun _ => undef, fun _ => True, fun _ => []⟩,
     ⟨26, [(8, 15), (15, 22), (16, 23), (18, 25)], [], [], [], fun _ => undef, fun _ => True, fun _ => []⟩,
     ⟨27, [(8, 15), (9, 16), (14, 21), (19, 26)], [], [], [], fun _ => undef, fun _ => True, fun _ => []⟩,
     ⟨28, [(8, 15), (20, 27)], [], [], [], fun _ => .bool false, fun _ => True, fun _ => []⟩]) (by kernel_rfl) (by kernel_rfl) (POps.cons ?_ (POps.cons ?_ (POps.cons ?_ (POps.cons ?_ (POps.cons ?_ (POps.cons ?_ (POps.cons ?_ (POps.cons ?_ (POps.cons ?_ (POps.cons ?_ (POps.cons ?_ (POps.cons ?_ (POps.cons ?_ (POps.cons ?_ (POps.cons ?_ (POps.cons ?_ (POps.cons ?_ (POps.cons ?_ (POps.cons ?_ (POps.cons ?_ (POps.cons ?_ (POps.cons ?_ POps.nil)))))))))))))))))))))) ?_
 intro θ R hd
 exact Opp.plain (OG.imp (OD.loadAgg rfl ti27 rfl (i := 0) rfl (us := [.int .i64 (cr), vcd]) rfl rfl) (by exact fun _ _ h=>pk h rfl trivial rfl)) rfl
 intro θ R hd
 exact Opp.plain (OG.imp (OD.move rfl rfl) (by exact fun _ _ h=>pk h rfl trivial rfl)) rfl
 rintro θ R ⟨h0d, h1d, _⟩
 exact Opp.plain (OG.imp (OG.imp (K' := fun v ow => v = .bool false ∧ ow = box g1 27 [.int .i64 (cr), vcd] :: own ++ R) (OG.call [.agg #[.int .i64 (cr), vcd], vx] ent56 rfl rfl rfl rfl (by exact (specWordOk_w scd (Ent.drop 1 ecd.app) sx (Ent.drop 1 ex.app) (hl0) (by omega)))) (by rintro _ _ ⟨rfl, rfl⟩; exact ⟨congrArg Value.bool (hg2), rfl⟩)) (by exact fun _ _ h=>pk h rfl trivial rfl)) rfl
 rintro θ R ⟨h2d, _⟩
 exact Opp.plain (OG.imp (OD.move rfl rfl) (by exact fun _ _ h=>pk h rfl trivial rfl)) rfl
 rintro θ R ⟨h3d, _⟩
 exact Opp.off ⟨[], rfl, trivial, rfl⟩ rfl rfl rfl rfl
 rintro θ R ⟨h3d, _⟩
 exact Opp.off ⟨[], rfl, trivial, rfl⟩ rfl rfl rfl rfl
 rintro θ R ⟨h3d, h4d, h5d, _⟩
 exact Opp.off ⟨[], rfl, trivial, rfl⟩ rfl rfl rfl rfl
 rintro θ R ⟨h3d, h6d, _⟩
 exact Opp.plain (OG.imp (OD.pickF rfl rfl rfl) (by exact fun _ _ h=>pk h rfl trivial rfl)) rfl
 rintro θ R ⟨h7d, _⟩
 exact Opp.plain (OG.imp (OD.move rfl rfl) (by exact fun _ _ h=>pk h rfl trivial rfl)) rfl
 rintro θ R ⟨h8d, _⟩
 exact Opp.off ⟨[], rfl, trivial, rfl⟩ rfl rfl rfl rfl
 rintro θ R ⟨h8d, _⟩
 exact Opp.off ⟨[], rfl, trivial, rfl⟩ rfl rfl rfl rfl
 rintro θ R ⟨h8d, _⟩
 exact Opp.off ⟨[], rfl, trivial, rfl⟩ rfl rfl rfl rfl
 rintro θ R ⟨h8d, _⟩
 exact Opp.off ⟨[], rfl, trivial, rfl⟩ rfl rfl rfl rfl
 rintro θ R ⟨h8d, h12d, _⟩
 exact Opp.off ⟨[], rfl, trivial, rfl⟩ rfl rfl rfl rfl
 rintro θ R ⟨h8d, h10d, h11d, h13d, _⟩
 exact Opp.off ⟨[], rfl, trivial, rfl⟩ rfl rfl rfl rfl
 rintro θ R ⟨h8d, _⟩
 exact Opp.off ⟨[], rfl, trivial, rfl⟩ rfl rfl rfl rfl
 rintro θ R ⟨h8d, _⟩
 exact Opp.off ⟨[], rfl, trivial, rfl⟩ rfl rfl rfl rfl
 rintro θ R ⟨h8d, _⟩
 exact Opp.off ⟨[], rfl, trivial, rfl⟩ rfl rfl rfl rfl
 rintro θ R ⟨h8d, h17d, _⟩
 exact Opp.off ⟨[], rfl, trivial, rfl⟩ rfl rfl rfl rfl
 rintro θ R ⟨h8d, h15d, h16d, h18d, _⟩
 exact Opp.off ⟨[], rfl, trivial, rfl⟩ rfl rfl rfl rfl
 rintro θ R ⟨h8d, h9d, h14d, h19d, _⟩
 exact Opp.off ⟨[], rfl, trivial, rfl⟩ rfl rfl rfl rfl
 rintro θ R ⟨h8d, h20d, _⟩
 exact Opp.plain (OG.imp (OD.pickF rfl rfl rfl) (by exact fun _ _ h=>pk h rfl trivial rfl)) rfl
 intro θ hall
 obtain ⟨_, _, _, _, _, _, _, _, _, _, _, _, _, _, _, _, _, _, _, _, _, _, _⟩ := hall
 refine G.at [] 0 (env' := [(6, .bool false), (28, .bool false)]) ⟨rfl, rfl, trivial⟩ (own' := box g1 27 [.int .i64 (cr), vcd] :: own) rfl ?_
 show G _ _ _ [_] _ _ _ _
 refine G.stepD (OD.assign rfl rfl) rfl rfl rfl ?_
 refine G.nil (GE.then_ (GC.ret ?_))
 exact GE.body [] 1 (res1 rfl rfl) rfl (⟨congrArg (fun (a0 : Bool) => (.bool (a0) : Value)) ((by rw [isbOf, hg2]; first | rfl | simp [isbF] : (false : Bool) = isbOf cr cd x y)), rfl⟩)
end Go.Proofs.YtgelkakjmbiibaaGreatDoor
