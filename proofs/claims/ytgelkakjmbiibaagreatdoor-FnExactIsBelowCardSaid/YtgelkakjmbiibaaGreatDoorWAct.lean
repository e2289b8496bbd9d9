/-
  Words at work: contracts by walks.
-/
import Derived.Test.YtgelkakjmbiibaaGreatDoorFct
import Derived.Test.YtgelkakjmbiibaaGreatDoorWWok
namespace Go.Proofs.YtgelkakjmbiibaaGreatDoor
set_option linter.unusedVariables false
set_option linter.unusedSimpArgs false
open Go.RowKit
theorem ent117 : ∀ us w, (callFunc 117 us).run Tryz.prog w = .ok (.enter 117 us) w := fun us w => by kernel_rfl
set_option maxRecDepth 100000 in
theorem l6Act_w {W : World} {own : List Asn} {cr : Int} {vcd : Value} {cd : List Int} {vword : Value} {word : List Int} {vx : Value} {x : List Int}  (scd : IsS vcd) (ecd : Ent own fun w => Ints w vcd cd)   (sword : IsS vword) (eword : Ent own fun w => Ints w vword word)   (sx : IsS vx) (ex : Ent own fun w => Ints w vx x)  (hcr : 1 ≤ cr ∧ cr ≤ 4) (hcd : (cd.length : Int) = cr * cr) (hwd : word.length ≤ 60 ∧ ∀ y ∈ word, 0 ≤ y ∧ y < cr) (hw : (x.length : Int) = cr) : Spec Tryz.prog 58 [.agg #[.int .i64 (cr), vcd], vword, vx] W own (fun v ow => ∃ (r0 : Value), v = r0 ∧ IsS r0 ∧ ow = ints 3 r0 (actF cr cd word x) :: own) := by
 refine Spec.enter Tryz.f58 _ Tryz.func58 rfl (n := 26) rfl rfl ?_
 refine GC.seq (GC.region ?_)
 refine G.step (OG.box (cs := [.int .i64 (cr), vcd]) rfl rfl rfl) rfl rfl rfl ?_
 rintro _ _ ⟨g1, rfl, rfl⟩
 refine G.stepD (OD.assign rfl rfl) rfl rfl rfl ?_
 refine G.nil (GE.then_ (GC.seq (GC.region ?_)))
 refine G.stepD (OD.move rfl rfl) rfl rfl rfl ?_
 refine G.step (OG.call [vx] ent118 rfl rfl rfl rfl (by exact (l1Ints_w sx (Ent.drop 1 ex) (by omega)))) rfl rfl rfl ?_
 rintro v2 _ ⟨_, rfl, hs3, rfl⟩
 refine G.stepD (OD.assign rfl rfl) rfl rfl rfl ?_
 refine G.nil (GE.then_ (GC.seq (GC.seq (GC.region ?_))))
 refine G.stepD (OD.move rfl rfl) rfl rfl rfl ?_
 refine G.stepD (OD.len rfl rfl et22 rfl (Ent.drop 2 eword)) rfl rfl rfl ?_
 refine G.stepD (OD.subI rfl rfl rfl (by omega)) rfl rfl rfl ?_
 refine G.stepD (OD.assign rfl rfl) rfl rfl rfl ?_
 refine G.nil (GE.then_ (GC.block ?_))
 refine GC.loop (ι := Nat × List Int × Value) (fun ⟨q, ys, v⟩ => [(1, vword), (3, .pointer (some ⟨g1, 0, none⟩)), (7, v), (8, .int .i64 ((q : Int) - 1))]) (fun ⟨q, ys, v⟩ => ints 3 v ys :: box g1 27 [.int .i64 (cr), vcd] :: own) (fun ⟨q, ys, v⟩ => (q ≤ word.length) ∧ (IsS v) ∧ (ys.length = x.length) ∧ (ys = actF cr cd (word.drop q) x)) (fun ⟨q, ys, v⟩ => q) (word.length, x, v2) (⟨Nat.le_refl _, hs3, rfl, by rw [List.drop_eq_nil_of_le (Nat.le_refl _)]; rfl⟩) ⟨rfl, rfl, rfl, int_eq (by omega), trivial⟩ [] 0 rfl ?_
 rintro ⟨q, ys, v⟩ ⟨hq, hv, hyl, hy⟩
 refine GC.seq (GC.seq (GC.region ?_))
 refine G.stepD (OD.move rfl rfl) rfl rfl rfl ?_
 refine G.stepD (OD.geq rfl rfl rfl) rfl rfl rfl ?_
 refine G.nil (GE.then_ ?_)
 refine GC.cond rfl (fun hc4 => ?_) (fun hc4 => ?_)
 replace hc4 := of_decide_eq_true hc4
 have hqe : ((q : Int) - 1).toNat = q - 1 := by omega
 have hwi := getD_rng hwd.2 (k := ((q : Int) - 1).toNat) (by omega)
 have hwi2 := getD_rng hwd.2 (k := q - 1) (by omega)
 have hwle := wtF_len cr cd ys
 refine GC.skip (GE.then_ (GC.seq (GC.block ?_)))
 refine GC.at [] 0 (env' := [(1, vword), (3, .pointer (some ⟨g1, 0, none⟩)), (7, v), (8, .int .i64 ((q : Int) - 1))]) ⟨rfl, rfl, rfl, rfl, trivial⟩ rfl ?_
 refine GC.par (its := [⟨18, [], [], [], [], fun _ => .agg #[.int .i64 (cr), vcd], fun _ => True, fun _ => []⟩,
     ⟨19, [], [], [], [], fun _ => vword, fun _ => True, fun _ => []⟩,
     ⟨20, [], [], [], [], fun _ => .int .i64 ((q : Int) - 1), fun _ => True, fun _ => []⟩,
     ⟨21, [(1, 19), (2, 20)], [], [], [], fun _ => elemPtr vword 1 (((q : Int) - 1 : Int).toNat), fun _ => True, fun _ => []⟩,
     ⟨22, [(3, 21)], [], [], [], fun _ => .int .i64 (word.getD (((q : Int) - 1 : Int).toNat) 0), fun _ => True, fun _ => []⟩,
     ⟨23, [], [], [], [], fun _ => v, fun _ => True, fun _ => []⟩,
     ⟨24, [(0, 18), (4, 22), (5, 23)], [], [], [6], fun ds => ((ds.getD 0 []).getD 0 undef), fun ds => IsS ((ds.getD 0 []).getD 0 undef), fun ds => [ints 3 ((ds.getD 0 []).getD 0 undef) (rfF cr cd (word.getD (((q : Int) - 1 : Int).toNat) 0) ys)]⟩]) (by kernel_rfl) (by kernel_rfl) (POps.cons ?_ (POps.cons ?_ (POps.cons ?_ (POps.cons ?_ (POps.cons ?_ (POps.cons ?_ (POps.cons ?_ POps.nil))))))) ?_
 intro θ R hd
 exact Opp.plain (OG.imp (OD.loadAgg rfl ti27 rfl (i := 1) rfl (us := [.int .i64 (cr), vcd]) rfl rfl) (by exact fun _ _ h=>pk h rfl trivial rfl)) rfl
 intro θ R hd
 exact Opp.plain (OG.imp (OD.move rfl rfl) (by exact fun _ _ h=>pk h rfl trivial rfl)) rfl
 intro θ R hd
 exact Opp.plain (OG.imp (OD.move rfl rfl) (by exact fun _ _ h=>pk h rfl trivial rfl)) rfl
 rintro θ R ⟨h1d, h2d, _⟩
 exact Opp.plain (OG.imp (OD.indexAddr rfl et22 rfl (Ent.drop 2 eword.app) rfl (by omega)) (by exact fun _ _ h=>pk h rfl trivial rfl)) rfl
 rintro θ R ⟨h3d, _⟩
 exact Opp.plain (OG.imp (OD.loadInt rfl ti3 rfl (Ent.drop 2 eword.app) (by omega)) (by exact fun _ _ h=>pk h rfl trivial rfl)) rfl
 intro θ R hd
 exact Opp.plain (OG.imp (OD.move rfl rfl) (by exact fun _ _ h=>pk h rfl trivial rfl)) rfl
 rintro θ R ⟨h0d, h4d, h5d, _⟩
 exact Opp.plain (OG.imp (OG.call [.agg #[.int .i64 (cr), vcd], .int .i64 (word.getD (((q : Int) - 1 : Int).toNat) 0), v] ent117 rfl rfl rfl rfl (by exact (l6Reflect_w scd (Ent.drop 2 ecd.app) hv (Ent.ints (i := 0) rfl) (hcr) (hcd) (hwi) (by omega)))) (by rintro v5 _ ⟨_, rfl, hs6, rfl⟩; exact ⟨[v5], rfl, hs6, rfl⟩)) rfl
 intro θ hall
 obtain ⟨_, _, _, _, _, _, h6a, _⟩ := hall
 refine G.at [] 0 (env' := [(1, vword), (3, .pointer (some ⟨g1, 0, none⟩)), (7, v), (8, .int .i64 ((q : Int) - 1)), (24, ((θ 6).getD 0 undef))]) ⟨rfl, rfl, rfl, rfl, rfl, trivial⟩ (own' := ints 3 ((θ 6).getD 0 undef) (rfF cr cd (word.getD (((q : Int) - 1 : Int).toNat) 0) ys) :: ints 3 v ys :: box g1 27 [.int .i64 (cr), vcd] :: own) rfl ?_
 have hs7 : IsS ((θ 6).getD 0 undef) := h6a
 clear h6a
 generalize ((θ 6).getD 0 undef) = v8 at *
 show G _ _ _ [_] _ _ _ _
 refine G.stepD (OD.assign rfl rfl) rfl rfl rfl ?_
 refine G.nil (GE.blockN (GE.then_ (GC.region ?_)))
 refine G.stepD (OD.move rfl rfl) rfl rfl rfl ?_
 refine G.stepD (OD.subI rfl rfl rfl (by omega)) rfl rfl rfl ?_
 refine G.stepD (OD.assign rfl rfl) rfl rfl rfl ?_
 refine G.nil ?_
 exact GE.again (q - 1, rfF cr cd (word.getD (((q : Int) - 1 : Int).toNat) 0) ys, v8) (⟨by omega, hs7, by first | (simp only [rfF_len]; exact hyl) | (simp only [arI, List.length_set]; exact hyl) | (rw [List.length_set]; exact hyl), by rw [actF_step (by omega), show q - 1 + 1 = q by omega, ← hy]; first | rfl | (rw [hqe]; done) | (simp only [arI]; rw [hqe])⟩) (by first | omega | (dsimp only; omega)) ⟨rfl, rfl, rfl, int_eq (by omega), trivial⟩ [0, 1] 1 rfl
 replace hc4 := of_decide_eq_false hc4
 refine GC.exit (GE.pass (GE.pass (GE.hit (GE.then_ (GC.seq (GC.region ?_))))))
 refine G.stepD (OD.move rfl rfl) rfl rfl rfl ?_
 refine G.stepD (OD.assign rfl rfl) rfl rfl rfl ?_
 refine G.nil (GE.then_ (GC.ret ?_))
 exact GE.body [0] 1 (res1 rfl rfl) rfl (⟨v, rfl, hv, congrArg (fun (l0 : List Int) => ints 3 v l0 :: own) ((by rw [hy, show q = 0 by omega]; rfl : ys = actF cr cd word x))⟩)
set_option maxRecDepth 100000 in
theorem actWeight_w {W : World} {own : List Asn} {cr : Int} {vcd : Value} {cd : List Int} {vword : Value} {word : List Int} {vx : Value} {x : List Int}  (scd : IsS vcd) (ecd : Ent own fun w => Ints w vcd cd)   (sword : IsS vword) (eword : Ent own fun w => Ints w vword word)   (sx : IsS vx) (ex : Ent own fun w => Ints w vx x)  (hcr : 1 ≤ cr ∧ cr ≤ 4) (hcd : (cd.length : Int) = cr * cr) (hwd : word.length ≤ 60 ∧ ∀ y ∈ word, 0 ≤ y ∧ y < cr) (hw : (x.length : Int) = cr) : Spec Tryz.prog 62 [.agg #[.int .i64 (cr), vcd], vword, vx] W own (fun v ow => ∃ (r0 : Value), v = r0 ∧ IsS r0 ∧ ow = ints 3 r0 (actF cr cd word x) :: own) := by
 refine Spec.enter Tryz.f62 _ Tryz.func62 rfl (n := 26) rfl rfl ?_
 refine GC.seq (GC.region ?_)
 refine G.step (OG.box (cs := [.int .i64 (cr), vcd]) rfl rfl rfl) rfl rfl rfl ?_
 rintro _ _ ⟨g1, rfl, rfl⟩
 refine G.stepD (OD.assign rfl rfl) rfl rfl rfl ?_
 refine G.nil (GE.then_ (GC.seq (GC.region ?_)))
 refine G.stepD (OD.move rfl rfl) rfl rfl rfl ?_
 refine G.step (OG.call [vx] ent76 rfl rfl rfl rfl (by exact (clone_w sx (Ent.drop 1 ex) (by omega)))) rfl rfl rfl ?_
 rintro v2 _ ⟨_, rfl, hs3, rfl⟩
 refine G.stepD (OD.assign rfl rfl) rfl rfl rfl ?_
 refine G.nil (GE.then_ (GC.seq (GC.seq (GC.region ?_))))
 refine G.stepD (OD.move rfl rfl) rfl rfl rfl ?_
 refine G.stepD (OD.len rfl rfl et22 rfl (Ent.drop 2 eword)) rfl rfl rfl ?_
 refine G.stepD (OD.subI rfl rfl rfl (by omega)) rfl rfl rfl ?_
 refine G.stepD (OD.assign rfl rfl) rfl rfl rfl ?_
 refine G.nil (GE.then_ (GC.block ?_))
 refine GC.loop (ι := Nat × List Int × Value) (fun ⟨q, ys, v⟩ => [(1, vword), (3, .pointer (some ⟨g1, 0, none⟩)), (7, v), (8, .int .i64 ((q : Int) - 1))]) (fun ⟨q, ys, v⟩ => ints 3 v ys :: box g1 27 [.int .i64 (cr), vcd] :: own) (fun ⟨q, ys, v⟩ => (q ≤ word.length) ∧ (IsS v) ∧ (ys.length = x.length) ∧ (ys = actF cr cd (word.drop q) x)) (fun ⟨q, ys, v⟩ => q) (word.length, x, v2) (⟨Nat.le_refl _, hs3, rfl, by rw [List.drop_eq_nil_of_le (Nat.le_refl _)]; rfl⟩) ⟨rfl, rfl, rfl, int_eq (by omega), trivial⟩ [] 0 rfl ?_
 rintro ⟨q, ys, v⟩ ⟨hq, hv, hyl, hy⟩
 refine GC.seq (GC.seq (GC.region ?_))
 refine G.stepD (OD.move rfl rfl) rfl rfl rfl ?_
 refine G.stepD (OD.geq rfl rfl rfl) rfl rfl rfl ?_
 refine G.nil (GE.then_ ?_)
 refine GC.cond rfl (fun hc4 => ?_) (fun hc4 => ?_)
 replace hc4 := of_decide_eq_true hc4
 have hqe : ((q : Int) - 1).toNat = q - 1 := by omega
 have hwi := getD_rng hwd.2 (k := ((q : Int) - 1).toNat) (by omega)
 have hwi2 := getD_rng hwd.2 (k := q - 1) (by omega)
 have hwle := wtF_len cr cd ys
 refine GC.skip (GE.then_ (GC.seq (GC.block ?_)))
 refine GC.at [] 0 (env' := [(1, vword), (3, .pointer (some ⟨g1, 0, none⟩)), (7, v), (8, .int .i64 ((q : Int) - 1))]) ⟨rfl, rfl, rfl, rfl, trivial⟩ rfl ?_
 refine GC.par (its := [⟨18, [], [], [], [], fun _ => .agg #[.int .i64 (cr), vcd], fun _ => True, fun _ => []⟩,
     ⟨19, [], [], [], [], fun _ => vword, fun _ => True, fun _ => []⟩,
     ⟨20, [], [], [], [], fun _ => .int .i64 ((q : Int) - 1), fun _ => True, fun _ => []⟩,
     ⟨21, [(1, 19), (2, 20)], [], [], [], fun _ => elemPtr vword 1 (((q : Int) - 1 : Int).toNat), fun _ => True, fun _ => []⟩,
     ⟨22, [(3, 21)], [], [], [], fun _ => .int .i64 (word.getD (((q : Int) - 1 : Int).toNat) 0), fun _ => True, fun _ => []⟩,
     ⟨23, [], [], [], [], fun _ => v, fun _ => True, fun _ => []⟩,
     ⟨24, [(0, 18), (4, 22), (5, 23)], [], [], [6], fun ds => ((ds.getD 0 []).getD 0 undef), fun ds => IsS ((ds.getD 0 []).getD 0 undef), fun ds => [ints 3 ((ds.getD 0 []).getD 0 undef) (rfF cr cd (word.getD (((q : Int) - 1 : Int).toNat) 0) ys)]⟩]) (by kernel_rfl) (by kernel_rfl) (POps.cons ?_ (POps.cons ?_ (POps.cons ?_ (POps.cons ?_ (POps.cons ?_ (POps.cons ?_ (POps.cons ?_ POps.nil))))))) ?_
 intro θ R hd
 exact Opp.plain (OG.imp (OD.loadAgg rfl ti27 rfl (i := 1) rfl (us := [.int .i64 (cr), vcd]) rfl rfl) (by exact fun _ _ h=>pk h rfl trivial rfl)) rfl
 intro θ R hd
 exact Opp.plain (OG.imp (OD.move rfl rfl) (by exact fun _ _ h=>pk h rfl trivial rfl)) rfl
 intro θ R hd
 exact Opp.plain (OG.imp (OD.move rfl rfl) (by exact fun _ _ h=>pk h rfl trivial rfl)) rfl
 rintro θ R ⟨h1d, h2d, _⟩
 exact Opp.plain (OG.imp (OD.indexAddr rfl et22 rfl (Ent.drop 2 eword.app) rfl (by omega)) (by exact fun _ _ h=>pk h rfl trivial rfl)) rfl
 rintro θ R ⟨h3d, _⟩
 exact Opp.plain (OG.imp (OD.loadInt rfl ti3 rfl (Ent.drop 2 eword.app) (by omega)) (by exact fun _ _ h=>pk h rfl trivial rfl)) rfl
 intro θ R hd
 exact Opp.plain (OG.imp (OD.move rfl rfl) (by exact fun _ _ h=>pk h rfl trivial rfl)) rfl
 rintro θ R ⟨h0d, h4d, h5d, _⟩
 exact Opp.plain (OG.imp (OG.call [.agg #[.int .i64 (cr), vcd], .int .i64 (word.getD (((q : Int) - 1 : Int).toNat) 0), v] ent67 rfl rfl rfl rfl (by exact (reflectWeight_w scd (Ent.drop 2 ecd.app) hv (Ent.ints (i := 0) rfl) (hcr) (hcd) (hwi) (by omega)))) (by rintro v5 _ ⟨_, rfl, hs6, rfl⟩; exact ⟨[v5], rfl, hs6, rfl⟩)) rfl
 intro θ hall
 obtain ⟨_, _, _, _, _, _, h6a, _⟩ := hall
 refine G.at [] 0 (env' := [(1, vword), (3, .pointer (some ⟨g1, 0, none⟩)), (7, v), (8, .int .i64 ((q : Int) - 1)), (24, ((θ 6).getD 0 undef))]) ⟨rfl, rfl, rfl, rfl, rfl, trivial⟩ (own' := ints 3 ((θ 6).getD 0 undef) (rfF cr cd (word.getD (((q : Int) - 1 : Int).toNat) 0) ys) :: ints 3 v ys :: box g1 27 [.int .i64 (cr), vcd] :: own) rfl ?_
 have hs7 : IsS ((θ 6).getD 0 undef) := h6a
 clear h6a
 generalize ((θ 6).getD 0 undef) = v8 at *
 show G _ _ _ [_] _ _ _ _
 refine G.stepD (OD.assign rfl rfl) rfl rfl rfl ?_
 refine G.nil (GE.blockN (GE.then_ (GC.region ?_)))
 refine G.stepD (OD.move rfl rfl) rfl rfl rfl ?_
 refine G.stepD (OD.subI rfl rfl rfl (by omega)) rfl rfl rfl ?_
 refine G.stepD (OD.assign rfl rfl) rfl rfl rfl ?_
 refine G.nil ?_
 exact GE.again (q - 1, rfF cr cd (word.getD (((q : Int) - 1 : Int).toNat) 0) ys, v8) (⟨by omega, hs7, by first | (simp only [rfF_len]; exact hyl) | (simp only [arI, List.length_set]; exact hyl) | (rw [List.length_set]; exact hyl), by rw [actF_step (by omega), show q - 1 + 1 = q by omega, ← hy]; first | rfl | (rw [hqe]; done) | (simp only [arI]; rw [hqe])⟩) (by first | omega | (dsimp only; omega)) ⟨rfl, rfl, rfl, int_eq (by omega), trivial⟩ [0, 1] 1 rfl
 replace hc4 := of_decide_eq_false hc4
 refine GC.exit (GE.pass (GE.pass (GE.hit (GE.then_ (GC.seq (GC.region ?_))))))
 refine G.stepD (OD.move rfl rfl) rfl rfl rfl ?_
 refine G.stepD (OD.assign rfl rfl) rfl rfl rfl ?_
 refine G.nil (GE.then_ (GC.ret ?_))
 exact GE.body [0] 1 (res1 rfl rfl) rfl (⟨v, rfl, hv, congrArg (fun (l0 : List Int) => ints 3 v l0 :: own) ((by rw [hy, show q = 0 by omega]; rfl : ys = actF cr cd word x))⟩)
end Go.Proofs.YtgelkakjmbiibaaGreatDoor
