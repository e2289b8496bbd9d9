/-
  The roots of a Cartan matrix by the first text: contracts by walks.
-/
import Derived.Test.YtgelkakjmbiibaaGreatDoorFct
import Derived.Test.YtgelkakjmbiibaaGreatDoorZ33
import Derived.Test.YtgelkakjmbiibaaGreatDoorSrtA
import Derived.Test.YtgelkakjmbiibaaGreatDoorNewA
namespace Go.Proofs.YtgelkakjmbiibaaGreatDoor
set_option linter.unusedVariables false
set_option linter.unusedSimpArgs false
open Go.RowKit
set_option maxHeartbeats 4000000 in
set_option maxRecDepth 100000 in
theorem newRoots_w {W : World} {own : List Asn} {cr : Int} {vcd : Value} {cd : List Int}  (scd : IsS vcd) (ecd : Ent own fun w => Ints w vcd cd)  (hcr : 1 ≤ cr ∧ cr ≤ 4) (hcd : (cd.length : Int) = cr * cr) (hty : (tyS cr cd).isSome = true) (htab : Ent own Pow10) : Spec Tryz.prog 78 [.agg #[.int .i64 (cr), vcd]] W own (fun v ow => ∃ (r2 : Value) (u2 : List Value) (g3 : Nat), v = .agg #[.int .i64 (cr), vcd, r2, .map (some g3)] ∧ IsS r2 ∧ AllS u2 ∧ u2.length = (rSt cr cd).length ∧ ow = lst 22 r2 u2 :: many (ints 3) u2 (rSt cr cd) :: mapA keyL valI g3 (rKvs cr cd) :: own) := by
 refine Spec.enter Tryz.f78 _ Tryz.func78 rfl (n := 123) rfl rfl ?_
 refine GC.seq (GC.region ?_)
 refine G.step (OG.box (cs := [.int .i64 (cr), vcd]) rfl rfl rfl) rfl rfl rfl ?_
 rintro _ _ ⟨g1, rfl, rfl⟩
 refine G.step (OG.alloc rfl ti80 (zs := [.int .i64 (0), .slice none 0 0, .slice none 0 0, .map none]) rfl) rfl rfl rfl ?_
 rintro _ _ ⟨g2, rfl, rfl⟩
 refine G.nil (GE.then_ (GC.seq (GC.region ?_)))
 refine G.stepD (OD.loadAgg rfl ti27 rfl (i := 1) rfl (us := [.int .i64 (cr), vcd]) rfl rfl) rfl rfl rfl ?_
 refine G.step (OG.makeMap keyL valI rfl rfl) rfl rfl rfl ?_
 rintro _ _ ⟨g3, rfl, rfl⟩
 refine G.stepD (OD.build (idx := [0, 2]) (xs := [.tmp 13, .tmp 14]) (vs := [.agg #[.int .i64 (cr), vcd], .map (some g3)]) (cs := [[.int .i64 (cr), vcd], [.map (some g3)]]) (zs := [.int .i64 (0), .slice none 0 0, .slice none 0 0, .map none]) (r := [.int .i64 (cr), vcd, .slice none 0 0, .map (some g3)]) rfl ti80 rfl rfl rfl ⟨rfl, ⟨rfl, trivial⟩⟩ rfl) rfl rfl rfl ?_
 refine G.step (OG.alloc rfl ti80 (zs := [.int .i64 (0), .slice none 0 0, .slice none 0 0, .map none]) rfl) rfl rfl rfl ?_
 rintro _ _ ⟨g4, rfl, rfl⟩
 refine G.stepD0 (OD.store rfl ti80 rfl rfl (us := [.int .i64 (cr), vcd, .slice none 0 0, .map (some g3)]) rfl rfl (allC rfl (allC (IsS.one scd) (allC rfl (allC rfl rfl)))) (i := 0) rfl rfl) rfl rfl ?_
 refine G.nil (GE.then_ (GC.seq (GC.seq (GC.region ?_))))
 refine G.stepD (OD.fieldAddr rfl rfl fa27_0) rfl rfl rfl ?_
 refine G.stepD (OD.load rfl ti3 rfl (i := 3) rfl rfl) rfl rfl rfl ?_
 refine G.stepD (OD.move rfl rfl) rfl rfl rfl ?_
 refine G.nil (GE.then_ (GC.block ?_))
 refine GC.nilLst 22 ?_
 refine GC.many0 (ints 3) ?_
 refine GC.loop (ι := Nat × List Value × Value) (fun ⟨i, us, v⟩ => [(1, .pointer (some ⟨g1, 0, none⟩)), (2, .pointer (some ⟨g2, 0, none⟩)), (3, .pointer (some ⟨g4, 0, none⟩)), (17, .int .i64 (cr)), (18, .int .i64 ((i : Int)))]) (fun ⟨i, us, v⟩ => many (ints 3) us ((List.range i).map (unitL cr.toNat)) :: lst 22 v us :: box g4 80 [.int .i64 (cr), vcd, v, .map (some g3)] :: mapA keyL valI g3 (kzL 0 ((List.range i).map (unitL cr.toNat))) :: box g2 80 [.int .i64 (0), .slice none 0 0, .slice none 0 0, .map none] :: box g1 27 [.int .i64 (cr), vcd] :: own) (fun ⟨i, us, v⟩ => (i ≤ cr.toNat) ∧ (AllS us) ∧ (us.length = i) ∧ (IsS v)) (fun ⟨i, us, v⟩ => cr.toNat - i) (0, [], (.slice none 0 0)) (⟨by omega, AllS.nil, rfl, IsS.nil⟩) ⟨rfl, rfl, rfl, rfl, rfl, trivial⟩ [] 0 rfl ?_
 rintro ⟨i, us, v⟩ ⟨hi, ha, hul, hv⟩
 have hxl : ((List.range i).map (unitL cr.toNat)).length = i := by simp
 refine GC.seq (GC.region ?_)
 refine G.stepD (OD.lss rfl rfl rfl) rfl rfl rfl ?_
 refine G.nil (GE.then_ (GC.seq ?_))
 refine GC.cond rfl (fun hc5 => ?_) (fun hc5 => ?_)
 replace hc5 := of_decide_eq_true hc5
 refine GC.skip (GE.then_ (GC.seq (GC.block (GC.seq (GC.region ?_)))))
 refine G.stepD (OD.move rfl rfl) rfl rfl rfl ?_
 refine G.stepD (OD.assign rfl rfl) rfl rfl rfl ?_
 refine G.nil (GE.then_ (GC.seq ?_))
 refine GC.at [] 0 (env' := [(1, .pointer (some ⟨g1, 0, none⟩)), (2, .pointer (some ⟨g2, 0, none⟩)), (3, .pointer (some ⟨g4, 0, none⟩)), (17, .int .i64 (cr)), (18, .int .i64 ((i : Int))), (4, .int .i64 ((i : Int)))]) ⟨rfl, rfl, rfl, rfl, rfl, rfl, trivial⟩ rfl ?_
 refine GC.par (its := [⟨21, [], [], [], [], fun _ => .pointer (some ⟨g4, 2, none⟩), fun _ => True, fun _ => []⟩,
     ⟨22, [(0, 21)], [], [], [], fun _ => v, fun _ => True, fun _ => []⟩,
     ⟨23, [], [], [], [], fun _ => .pointer (some ⟨g1, 0, none⟩), fun _ => True, fun _ => []⟩,
     ⟨24, [(2, 23)], [], [], [], fun _ => .int .i64 (cr), fun _ => True, fun _ => []⟩,
     ⟨25, [], [], [], [], fun _ => .int .i64 ((i : Int)), fun _ => True, fun _ => []⟩,
     ⟨26, [(3, 24), (4, 25)], [], [], [5], fun ds => ((ds.getD 0 []).getD 0 undef), fun ds => IsS ((ds.getD 0 []).getD 0 undef), fun ds => [ints 3 ((ds.getD 0 []).getD 0 undef) (unitL cr.toNat i)]⟩,
     ⟨27, [(5, 26)], [5], [], [5, 6], fun ds => ((ds.getD 1 []).getD 0 undef), fun ds => IsS ((ds.getD 1 []).getD 0 undef), fun ds => [lst 22 ((ds.getD 1 []).getD 0 undef) [((ds.getD 0 []).getD 0 undef)]]⟩]) (by kernel_rfl) (by kernel_rfl) (POps.cons ?_ (POps.cons ?_ (POps.cons ?_ (POps.cons ?_ (POps.cons ?_ (POps.cons ?_ (POps.cons ?_ POps.nil))))))) ?_
 intro θ R hd
 exact Opp.plain (OG.imp (OD.fieldAddr rfl rfl fa80_1) (by exact fun _ _ h=>pk h rfl trivial rfl)) rfl
 rintro θ R ⟨h0d, _⟩
 exact Opp.plain (OG.imp (OD.load rfl ti39 rfl (i := 2) rfl rfl) (by exact fun _ _ h=>pk h rfl trivial rfl)) rfl
 intro θ R hd
 exact Opp.plain (OG.imp (OD.fieldAddr rfl rfl fa27_0) (by exact fun _ _ h=>pk h rfl trivial rfl)) rfl
 rintro θ R ⟨h2d, _⟩
 exact Opp.plain (OG.imp (OD.load rfl ti3 rfl (i := 5) rfl rfl) (by exact fun _ _ h=>pk h rfl trivial rfl)) rfl
 intro θ R hd
 exact Opp.plain (OG.imp (OD.move rfl rfl) (by exact fun _ _ h=>pk h rfl trivial rfl)) rfl
 rintro θ R ⟨h3d, h4d, _⟩
 exact Opp.plain (OG.imp (OG.call [.int .i64 (cr), .int .i64 ((i : Int))] ent132 rfl rfl rfl rfl (by exact (unit_w (by omega) (by omega)))) (by rintro v10 _ ⟨_, rfl, hs11, rfl⟩; exact ⟨[v10], rfl, hs11, rfl⟩)) rfl
 rintro θ R ⟨h5d, _⟩
 exact Opp.plain (OG.imp (OG.buildLst (xs := [.tmp 26]) (us := [((θ 5).getD 0 undef)]) rfl et39 rfl rfl rfl (allC (IsS.one h5d) rfl) rfl) (by rintro v12 _ ⟨hs13, rfl⟩; exact ⟨[v12], rfl, hs13, rfl⟩)) rfl
 intro θ hall
 obtain ⟨_, _, _, _, _, h5a, h6a, _⟩ := hall
 refine G.at [] 0 (env' := [(1, .pointer (some ⟨g1, 0, none⟩)), (2, .pointer (some ⟨g2, 0, none⟩)), (3, .pointer (some ⟨g4, 0, none⟩)), (17, .int .i64 (cr)), (18, .int .i64 ((i : Int))), (4, .int .i64 ((i : Int))), (22, v), (27, ((θ 6).getD 0 undef))]) ⟨rfl, rfl, rfl, rfl, rfl, rfl, rfl, rfl, trivial⟩ (own' := ints 3 ((θ 5).getD 0 undef) (unitL cr.toNat i) :: lst 22 ((θ 6).getD 0 undef) [((θ 5).getD 0 undef)] :: many (ints 3) us ((List.range i).map (unitL cr.toNat)) :: lst 22 v us :: box g4 80 [.int .i64 (cr), vcd, v, .map (some g3)] :: mapA keyL valI g3 (kzL 0 ((List.range i).map (unitL cr.toNat))) :: box g2 80 [.int .i64 (0), .slice none 0 0, .slice none 0 0, .map none] :: box g1 27 [.int .i64 (cr), vcd] :: own) rfl ?_
 have hs14 : IsS ((θ 5).getD 0 undef) := h5a
 clear h5a
 generalize ((θ 5).getD 0 undef) = v15 at *
 have hs16 : IsS ((θ 6).getD 0 undef) := h6a
 clear h6a
 generalize ((θ 6).getD 0 undef) = v17 at *
 show G _ _ _ [_, _, _] _ _ _ _
 refine G.step (OG.appendLst 3 rfl rfl et39 rfl rfl rfl (Ent.lst (i := 1) rfl) (List.all_eq_true.2 fun u hu => by simpa using (AllS.snoc AllS.nil hs14).one u hu) (by simp [maxLen] <;> omega)) rfl rfl rfl ?_
 rintro v18 _ ⟨hs19, rfl⟩
 refine G.stepD (OD.fieldAddr rfl rfl fa80_1) rfl rfl rfl ?_
 refine G.stepD0 (OD.store rfl ti39 rfl rfl (us := [v18]) (one_cells (IsS.one hs19)) rfl (allC (IsS.one hs19) rfl) (i := 4) rfl rfl) rfl rfl ?_
 refine G.nil (GE.then_ ?_)
 refine GC.at [0, 1, 0, 0, 0, 0, 0, 0] 0 (env' := [(1, .pointer (some ⟨g1, 0, none⟩)), (2, .pointer (some ⟨g2, 0, none⟩)), (3, .pointer (some ⟨g4, 0, none⟩)), (17, .int .i64 (cr)), (18, .int .i64 ((i : Int))), (4, .int .i64 ((i : Int))), (22, v), (27, v17), (28, v18), (29, .pointer (some ⟨g4, 2, none⟩))]) ⟨rfl, rfl, rfl, rfl, rfl, rfl, rfl, rfl, rfl, rfl, trivial⟩ (own' := ints 3 v15 (unitL cr.toNat i) :: many (ints 3) us ((List.range i).map (unitL cr.toNat)) :: lst 22 v17 [v15] :: lst 22 v18 (us ++ [v15]) :: box g4 80 [.int .i64 (cr), vcd, v18, .map (some g3)] :: mapA keyL valI g3 (kzL 0 ((List.range i).map (unitL cr.toNat))) :: box g2 80 [.int .i64 (0), .slice none 0 0, .slice none 0 0, .map none] :: box g1 27 [.int .i64 (cr), vcd] :: own) rfl ?_
 refine GC.manyPush (by omega) ?_
 refine GC.ownEq (own' := many (ints 3) (us ++ [v15]) ((List.range (i + 1)).map (unitL cr.toNat)) :: lst 22 v17 [v15] :: lst 22 v18 (us ++ [v15]) :: box g4 80 [.int .i64 (cr), vcd, v18, .map (some g3)] :: mapA keyL valI g3 (kzL 0 ((List.range i).map (unitL cr.toNat))) :: box g2 80 [.int .i64 (0), .slice none 0 0, .slice none 0 0, .map none] :: box g1 27 [.int .i64 (cr), vcd] :: own) (by rw [units_next]) ?_
 have hpl : (us ++ [v15]).length = i + 1 := by rw [List.length_append, List.length_singleton, hul]
 have hpx : ((List.range (i + 1)).map (unitL cr.toNat)).length = i + 1 := by simp
 refine GC.at [] 0 (env' := [(1, .pointer (some ⟨g1, 0, none⟩)), (2, .pointer (some ⟨g2, 0, none⟩)), (3, .pointer (some ⟨g4, 0, none⟩)), (17, .int .i64 (cr)), (18, .int .i64 ((i : Int))), (4, .int .i64 ((i : Int)))]) ⟨rfl, rfl, rfl, rfl, rfl, rfl, trivial⟩ rfl ?_
 refine GC.par (its := [⟨30, [], [], [], [], fun _ => .pointer (some ⟨g4, 3, none⟩), fun _ => True, fun _ => []⟩,
     ⟨31, [(0, 30)], [], [], [], fun _ => .map (some g3), fun _ => True, fun _ => []⟩,
     ⟨32, [], [], [], [], fun _ => .pointer (some ⟨g4, 2, none⟩), fun _ => True, fun _ => []⟩,
     ⟨33, [(2, 32)], [], [], [], fun _ => v18, fun _ => True, fun _ => []⟩,
     ⟨34, [], [], [], [], fun _ => .int .i64 ((i : Int)), fun _ => True, fun _ => []⟩,
     ⟨35, [(3, 33), (4, 34)], [], [], [], fun _ => elemPtr v18 1 (i), fun _ => True, fun _ => []⟩,
     ⟨36, [(5, 35)], [], [], [], fun _ => ((us ++ [v15]).getD (i) undef), fun _ => True, fun _ => []⟩,
     ⟨37, [(6, 36)], [], [], [], fun _ => .string (fmtB (((List.range (i + 1)).map (unitL cr.toNat)).getD (i) [])), fun _ => True, fun _ => []⟩,
     ⟨38, [], [], [], [], fun _ => .int .i64 ((i : Int)), fun _ => True, fun _ => []⟩]) (by kernel_rfl) (by kernel_rfl) (POps.cons ?_ (POps.cons ?_ (POps.cons ?_ (POps.cons ?_ (POps.cons ?_ (POps.cons ?_ (POps.cons ?_ (POps.cons ?_ (POps.cons ?_ POps.nil))))))))) ?_
 intro θ R hd
 exact Opp.plain (OG.imp (OD.fieldAddr rfl rfl fa80_2) (by exact fun _ _ h=>pk h rfl trivial rfl)) rfl
 rintro θ R ⟨h0d, _⟩
 exact Opp.plain (OG.imp (OD.load rfl ti78 rfl (i := 3) rfl rfl) (by exact fun _ _ h=>pk h rfl trivial rfl)) rfl
 intro θ R hd
 exact Opp.plain (OG.imp (OD.fieldAddr rfl rfl fa80_1) (by exact fun _ _ h=>pk h rfl trivial rfl)) rfl
 rintro θ R ⟨h2d, _⟩
 exact Opp.plain (OG.imp (OD.load rfl ti39 rfl (i := 3) rfl rfl) (by exact fun _ _ h=>pk h rfl trivial rfl)) rfl
 intro θ R hd
 exact Opp.plain (OG.imp (OD.move rfl rfl) (by exact fun _ _ h=>pk h rfl trivial rfl)) rfl
 rintro θ R ⟨h3d, h4d, _⟩
 exact Opp.plain (OG.imp (OD.indexAddr rfl et39 rfl (Ent.lst (i := 2) rfl) rfl (by omega)) (by exact fun _ _ h=>pk h rfl trivial rfl)) rfl
 rintro θ R ⟨h5d, _⟩
 exact Opp.plain (OG.imp (OD.loadElem rfl ti22 rfl (Ent.lst (i := 2) rfl) (by omega) rfl) (by exact fun _ _ h=>pk h rfl trivial rfl)) rfl
 rintro θ R ⟨h6d, _⟩
 exact Opp.plain (OG.imp (OG.call [((us ++ [v15]).getD (i) undef)] ent64 rfl rfl rfl rfl (by exact (formatInts_w ((ha.snoc hs14).get (by omega)) (Ent.manyInts (i := 0) rfl ⟨by first | omega | (simp; omega), by first | omega | (simp; omega)⟩) (by rw [units_get]; exact all64_unit _ _) (by first | omega | (rw [units_get, unitL_len]; omega)) ((Ent.drop 7 htab.app))))) (by exact fun _ _ h=>pk h rfl trivial rfl)) rfl
 intro θ R hd
 exact Opp.plain (OG.imp (OD.move rfl rfl) (by exact fun _ _ h=>pk h rfl trivial rfl)) rfl
 intro θ hall
 obtain ⟨_, _, _, _, _, _, _, _, _, _⟩ := hall
 refine G.at [] 0 (env' := [(1, .pointer (some ⟨g1, 0, none⟩)), (2, .pointer (some ⟨g2, 0, none⟩)), (3, .pointer (some ⟨g4, 0, none⟩)), (17, .int .i64 (cr)), (18, .int .i64 ((i : Int))), (31, .map (some g3)), (37, .string (fmtB (((List.range (i + 1)).map (unitL cr.toNat)).getD (i) []))), (38, .int .i64 ((i : Int)))]) ⟨rfl, rfl, rfl, rfl, rfl, rfl, rfl, rfl, trivial⟩ (own' := many (ints 3) (us ++ [v15]) ((List.range (i + 1)).map (unitL cr.toNat)) :: lst 22 v17 [v15] :: lst 22 v18 (us ++ [v15]) :: box g4 80 [.int .i64 (cr), vcd, v18, .map (some g3)] :: mapA keyL valI g3 (kzL 0 ((List.range i).map (unitL cr.toNat))) :: box g2 80 [.int .i64 (0), .slice none 0 0, .slice none 0 0, .map none] :: box g1 27 [.int .i64 (cr), vcd] :: own) rfl ?_
 show G _ _ _ [_] _ _ _ _
 refine G.stepD0 (OD.mapUpdate (kE := keyL) (vE := valI) (l := kzL 0 ((List.range i).map (unitL cr.toNat))) (k := (((List.range (i + 1)).map (unitL cr.toNat)).getD (i) [])) (b := ((i : Int) : Int)) rfl mt78.ht ke9keyL rfl rfl rfl (i := 4) rfl) rfl rfl ?_
 refine G.nil (GE.blockN (GE.then_ (GC.region ?_)))
 refine G.stepD (OD.addI rfl rfl rfl (by omega)) rfl rfl rfl ?_
 refine G.stepD (OD.move rfl rfl) rfl rfl rfl ?_
 refine G.nil ?_
 refine GE.ownEq (own' := many (ints 3) (us ++ [v15]) ((List.range (i + 1)).map (unitL cr.toNat)) :: lst 22 v17 [v15] :: lst 22 v18 (us ++ [v15]) :: box g4 80 [.int .i64 (cr), vcd, v18, .map (some g3)] :: mapA keyL valI g3 (kzL 0 ((List.range (i + 1)).map (unitL cr.toNat))) :: box g2 80 [.int .i64 (0), .slice none 0 0, .slice none 0 0, .map none] :: box g1 27 [.int .i64 (cr), vcd] :: own) (by rw [units_get, aup_unit (by omega)] <;> rfl) ?_
 exact GE.again (i + 1, us ++ [v15], v18) (⟨by omega, (ha.snoc hs14), by rw [List.length_append, List.length_singleton]; omega, hs19⟩) (by first | omega | (dsimp only; omega)) ⟨rfl, rfl, rfl, rfl, rfl, trivial⟩ [0, 1, 1, 1, 1, 1] 1 rfl
 replace hc5 := of_decide_eq_false hc5
 refine GC.exit (GE.pass (GE.pass (GE.hit (GE.then_ (GC.seq (GC.seq (GC.region ?_)))))))
 refine G.stepD (OD.assign rfl rfl) rfl rfl rfl ?_
 refine G.nil (GE.then_ (GC.block ?_))
 refine GC.loop (ι := Nat × Nat × List (List Int) × List Value × Value) (fun ⟨f, k, fs, us, v⟩ => [(1, .pointer (some ⟨g1, 0, none⟩)), (2, .pointer (some ⟨g2, 0, none⟩)), (3, .pointer (some ⟨g4, 0, none⟩)), (5, .int .i64 ((k : Int)))]) (fun ⟨f, k, fs, us, v⟩ => many (ints 3) us fs :: lst 22 v us :: box g4 80 [.int .i64 (cr), vcd, v, .map (some g3)] :: mapA keyL valI g3 (kzL 0 fs) :: box g2 80 [.int .i64 (0), .slice none 0 0, .slice none 0 0, .map none] :: box g1 27 [.int .i64 (cr), vcd] :: own) (fun ⟨f, k, fs, us, v⟩ => (rC cr cd f fs k = some (rFd cr cd)) ∧ (AllS us) ∧ (us.length = fs.length) ∧ (IsS v)) (fun ⟨f, k, fs, us, v⟩ => f) (40, 0, ((List.range i).map (unitL cr.toNat)), us, v) (⟨(rtOk hty).first (by omega) hi, ha, by rw [hul]; simp, hv⟩) ⟨rfl, rfl, rfl, rfl, trivial⟩ [] 0 rfl ?_
 rintro ⟨f, k, fs, us, v⟩ ⟨hf, ha, hul, hv⟩
 have hfl : fs.length ≤ 30 := Nat.le_trans (rC_pre hf).len (rtOk hty).few
 refine GC.seq (GC.seq (GC.region ?_))
 refine G.stepD (OD.move rfl rfl) rfl rfl rfl ?_
 refine G.stepD (OD.fieldAddr rfl rfl fa80_1) rfl rfl rfl ?_
 refine G.stepD (OD.load rfl ti39 rfl (i := 2) rfl rfl) rfl rfl rfl ?_
 refine G.stepD (OD.len rfl rfl et39 rfl (Ent.lst (i := 1) rfl)) rfl rfl rfl ?_
 refine G.stepD (OD.lss rfl rfl rfl) rfl rfl rfl ?_
 refine G.nil (GE.then_ ?_)
 refine GC.cond rfl (fun hc20 => ?_) (fun hc20 => ?_)
 replace hc20 := of_decide_eq_true hc20
 obtain ⟨g, hgg, hst, hpre⟩ := rC_step hf (by omega)
 obtain ⟨hxl0, hxb0⟩ := (rtOk hty).fget (rC_pre hf) (show k < fs.length by omega)
 have hwl := wtF_len cr cd (fs.getD k [])
 refine GC.skip (GE.then_ (GC.seq (GC.block (GC.seq ?_))))
 refine GC.at [] 0 (env' := [(1, .pointer (some ⟨g1, 0, none⟩)), (2, .pointer (some ⟨g2, 0, none⟩)), (3, .pointer (some ⟨g4, 0, none⟩)), (5, .int .i64 ((k : Int)))]) ⟨rfl, rfl, rfl, rfl, trivial⟩ rfl ?_
 refine GC.par (its := [⟨47, [], [], [], [], fun _ => .agg #[.int .i64 (cr), vcd], fun _ => True, fun _ => []⟩,
     ⟨48, [], [], [], [], fun _ => .pointer (some ⟨g4, 2, none⟩), fun _ => True, fun _ => []⟩,
     ⟨49, [(1, 48)], [], [], [], fun _ => v, fun _ => True, fun _ => []⟩,
     ⟨50, [], [], [], [], fun _ => .int .i64 ((k : Int)), fun _ => True, fun _ => []⟩,
     ⟨51, [(2, 49), (3, 50)], [], [], [], fun _ => elemPtr v 1 (k), fun _ => True, fun _ => []⟩,
     ⟨52, [(4, 51)], [], [], [], fun _ => (us.getD (k) undef), fun _ => True, fun _ => []⟩,
     ⟨53, [(0, 47), (5, 52)], [], [], [6], fun ds => ((ds.getD 0 []).getD 0 undef), fun ds => IsS ((ds.getD 0 []).getD 0 undef), fun ds => [ints 3 ((ds.getD 0 []).getD 0 undef) (wtF cr cd (fs.getD (k) []))]⟩]) (by kernel_rfl) (by kernel_rfl) (POps.cons ?_ (POps.cons ?_ (POps.cons ?_ (POps.cons ?_ (POps.cons ?_ (POps.cons ?_ (POps.cons ?_ POps.nil))))))) ?_
 intro θ R hd
 exact Opp.plain (OG.imp (OD.loadAgg rfl ti27 rfl (i := 5) rfl (us := [.int .i64 (cr), vcd]) rfl rfl) (by exact fun _ _ h=>pk h rfl trivial rfl)) rfl
 intro θ R hd
 exact Opp.plain (OG.imp (OD.fieldAddr rfl rfl fa80_1) (by exact fun _ _ h=>pk h rfl trivial rfl)) rfl
 rintro θ R ⟨h1d, _⟩
 exact Opp.plain (OG.imp (OD.load rfl ti39 rfl (i := 2) rfl rfl) (by exact fun _ _ h=>pk h rfl trivial rfl)) rfl
 intro θ R hd
 exact Opp.plain (OG.imp (OD.move rfl rfl) (by exact fun _ _ h=>pk h rfl trivial rfl)) rfl
 rintro θ R ⟨h2d, h3d, _⟩
 exact Opp.plain (OG.imp (OD.indexAddr rfl et39 rfl (Ent.lst (i := 1) rfl) rfl (by omega)) (by exact fun _ _ h=>pk h rfl trivial rfl)) rfl
 rintro θ R ⟨h4d, _⟩
 exact Opp.plain (OG.imp (OD.loadElem rfl ti22 rfl (Ent.lst (i := 1) rfl) (by omega) rfl) (by exact fun _ _ h=>pk h rfl trivial rfl)) rfl
 rintro θ R ⟨h0d, h5d, _⟩
 exact Opp.plain (OG.imp (OG.call [.agg #[.int .i64 (cr), vcd], (us.getD (k) undef)] ent82 rfl rfl rfl rfl (by exact (weightOf_w scd (Ent.drop 6 ecd.app) (ha.get (by omega)) (Ent.manyInts (i := 0) rfl ⟨by first | omega | (simp; omega), by first | omega | (simp; omega)⟩) (hcr) (hcd) (by omega)))) (by rintro v21 _ ⟨_, rfl, hs22, rfl⟩; exact ⟨[v21], rfl, hs22, rfl⟩)) rfl
 intro θ hall
 obtain ⟨_, _, _, _, _, _, h6a, _⟩ := hall
 refine G.at [] 0 (env' := [(1, .pointer (some ⟨g1, 0, none⟩)), (2, .pointer (some ⟨g2, 0, none⟩)), (3, .pointer (some ⟨g4, 0, none⟩)), (5, .int .i64 ((k : Int))), (53, ((θ 6).getD 0 undef))]) ⟨rfl, rfl, rfl, rfl, rfl, trivial⟩ (own' := ints 3 ((θ 6).getD 0 undef) (wtF cr cd (fs.getD (k) [])) :: many (ints 3) us fs :: lst 22 v us :: box g4 80 [.int .i64 (cr), vcd, v, .map (some g3)] :: mapA keyL valI g3 (kzL 0 fs) :: box g2 80 [.int .i64 (0), .slice none 0 0, .slice none 0 0, .map none] :: box g1 27 [.int .i64 (cr), vcd] :: own) rfl ?_
 have hs23 : IsS ((θ 6).getD 0 undef) := h6a
 clear h6a
 generalize ((θ 6).getD 0 undef) = v24 at *
 show G _ _ _ [_] _ _ _ _
 refine G.stepD (OD.assign rfl rfl) rfl rfl rfl ?_
 refine G.nil (GE.then_ (GC.seq (GC.region ?_)))
 refine G.stepD (OD.fieldAddr rfl rfl fa27_0) rfl rfl rfl ?_
 refine G.stepD (OD.load rfl ti3 rfl (i := 6) rfl rfl) rfl rfl rfl ?_
 refine G.stepD (OD.move rfl rfl) rfl rfl rfl ?_
 refine G.nil (GE.then_ (GC.block ?_))
 refine GC.loop (ι := Nat × List (List Int) × List Value × Value) (fun ⟨i, gs, ut, w⟩ => [(1, .pointer (some ⟨g1, 0, none⟩)), (2, .pointer (some ⟨g2, 0, none⟩)), (3, .pointer (some ⟨g4, 0, none⟩)), (5, .int .i64 ((k : Int))), (6, v24), (55, .int .i64 (cr)), (56, .int .i64 ((i : Int)))]) (fun ⟨i, gs, ut, w⟩ => ints 3 v24 (wtF cr cd (fs.getD (k) [])) :: many (ints 3) ut gs :: lst 22 w ut :: box g4 80 [.int .i64 (cr), vcd, w, .map (some g3)] :: mapA keyL valI g3 (kzL 0 gs) :: box g2 80 [.int .i64 (0), .slice none 0 0, .slice none 0 0, .map none] :: box g1 27 [.int .i64 (cr), vcd] :: own) (fun ⟨i, gs, ut, w⟩ => (i ≤ cr.toNat) ∧ (gs = (List.range i).foldl (rOne cr cd (fs.getD k [])) fs) ∧ (AllS ut) ∧ (ut.length = gs.length) ∧ (IsS w)) (fun ⟨i, gs, ut, w⟩ => cr.toNat - i) (0, fs, us, v) (⟨by omega, rfl, ha, hul, hv⟩) ⟨rfl, rfl, rfl, rfl, rfl, rfl, rfl, trivial⟩ [] 0 rfl ?_
 rintro ⟨i, gs, ut, w⟩ ⟨hi, hg, hb, hut, hw⟩
 obtain ⟨hkg, hgk, hgl, hxl, hxb, hal⟩ := (rtOk hty).inner hpre (by omega) hi hg
 refine GC.seq (GC.region ?_)
 refine G.stepD (OD.lss rfl rfl rfl) rfl rfl rfl ?_
 refine G.nil (GE.then_ (GC.seq ?_))
 refine GC.cond rfl (fun hc25 => ?_) (fun hc25 => ?_)
 replace hc25 := of_decide_eq_true hc25
 obtain ⟨hw12, hlp, hyl, hy64⟩ := (rtOk hty).nxt hxl0 hxb0 (show i < cr.toNat by omega)
 refine GC.skip (GE.then_ (GC.seq (GC.block (GC.seq (GC.region ?_)))))
 refine G.stepD (OD.move rfl rfl) rfl rfl rfl ?_
 refine G.stepD (OD.assign rfl rfl) rfl rfl rfl ?_
 refine G.nil (GE.then_ (GC.seq ?_))
 refine GC.at [] 0 (env' := [(1, .pointer (some ⟨g1, 0, none⟩)), (2, .pointer (some ⟨g2, 0, none⟩)), (3, .pointer (some ⟨g4, 0, none⟩)), (5, .int .i64 ((k : Int))), (6, v24), (55, .int .i64 (cr)), (56, .int .i64 ((i : Int))), (7, .int .i64 ((i : Int)))]) ⟨rfl, rfl, rfl, rfl, rfl, rfl, rfl, rfl, trivial⟩ rfl ?_
 refine GC.par (its := [⟨59, [], [], [], [], fun _ => .pointer (some ⟨g4, 2, none⟩), fun _ => True, fun _ => []⟩,
     ⟨60, [(0, 59)], [], [], [], fun _ => w, fun _ => True, fun _ => []⟩,
     ⟨61, [], [], [], [], fun _ => .int .i64 ((k : Int)), fun _ => True, fun _ => []⟩,
     ⟨62, [(1, 60), (2, 61)], [], [], [], fun _ => elemPtr w 1 (k), fun _ => True, fun _ => []⟩,
     ⟨63, [(3, 62)], [], [], [], fun _ => (ut.getD (k) undef), fun _ => True, fun _ => []⟩,
     ⟨64, [], [], [], [], fun _ => v24, fun _ => True, fun _ => []⟩,
     ⟨65, [], [], [], [], fun _ => .int .i64 ((i : Int)), fun _ => True, fun _ => []⟩,
     ⟨66, [(5, 64), (6, 65)], [], [], [], fun _ => elemPtr v24 1 (i), fun _ => True, fun _ => []⟩,
     ⟨67, [(7, 66)], [], [], [], fun _ => .int .i64 ((wtF cr cd (fs.getD (k) [])).getD (i) 0), fun _ => True, fun _ => []⟩,
     ⟨68, [(8, 67)], [], [], [], fun _ => .int .i64 (0 - (wtF cr cd (fs.getD (k) [])).getD (i) 0), fun _ => True, fun _ => []⟩,
     ⟨69, [], [], [], [], fun _ => .pointer (some ⟨g1, 0, none⟩), fun _ => True, fun _ => []⟩,
     ⟨70, [(10, 69)], [], [], [], fun _ => .int .i64 (cr), fun _ => True, fun _ => []⟩,
     ⟨71, [], [], [], [], fun _ => .int .i64 ((i : Int)), fun _ => True, fun _ => []⟩,
     ⟨72, [(11, 70), (12, 71)], [], [], [13], fun ds => ((ds.getD 0 []).getD 0 undef), fun ds => IsS ((ds.getD 0 []).getD 0 undef), fun ds => [ints 3 ((ds.getD 0 []).getD 0 undef) (unitL cr.toNat i)]⟩,
     ⟨73, [(4, 63), (9, 68), (13, 72)], [13], [], [13, 14], fun ds => ((ds.getD 1 []).getD 0 undef), fun ds => IsS ((ds.getD 1 []).getD 0 undef), fun ds => [ints 3 ((ds.getD 1 []).getD 0 undef) (lpF (gs.getD (k) []) (0 - (wtF cr cd (fs.getD (k) [])).getD (i) 0) (unitL cr.toNat i))]⟩]) (by kernel_rfl) (by kernel_rfl) (POps.cons ?_ (POps.cons ?_ (POps.cons ?_ (POps.cons ?_ (POps.cons ?_ (POps.cons ?_ (POps.cons ?_ (POps.cons ?_ (POps.cons ?_ (POps.cons ?_ (POps.cons ?_ (POps.cons ?_ (POps.cons ?_ (POps.cons ?_ (POps.cons ?_ POps.nil))))))))))))))) ?_
 intro θ R hd
 exact Opp.plain (OG.imp (OD.fieldAddr rfl rfl fa80_1) (by exact fun _ _ h=>pk h rfl trivial rfl)) rfl
 rintro θ R ⟨h0d, _⟩
 exact Opp.plain (OG.imp (OD.load rfl ti39 rfl (i := 3) rfl rfl) (by exact fun _ _ h=>pk h rfl trivial rfl)) rfl
 intro θ R hd
 exact Opp.plain (OG.imp (OD.move rfl rfl) (by exact fun _ _ h=>pk h rfl trivial rfl)) rfl
 rintro θ R ⟨h1d, h2d, _⟩
 exact Opp.plain (OG.imp (OD.indexAddr rfl et39 rfl (Ent.lst (i := 2) rfl) rfl (by omega)) (by exact fun _ _ h=>pk h rfl trivial rfl)) rfl
 rintro θ R ⟨h3d, _⟩
 exact Opp.plain (OG.imp (OD.loadElem rfl ti22 rfl (Ent.lst (i := 2) rfl) (by omega) rfl) (by exact fun _ _ h=>pk h rfl trivial rfl)) rfl
 intro θ R hd
 exact Opp.plain (OG.imp (OD.move rfl rfl) (by exact fun _ _ h=>pk h rfl trivial rfl)) rfl
 intro θ R hd
 exact Opp.plain (OG.imp (OD.move rfl rfl) (by exact fun _ _ h=>pk h rfl trivial rfl)) rfl
 rintro θ R ⟨h5d, h6d, _⟩
 exact Opp.plain (OG.imp (OD.indexAddr rfl et22 rfl (Ent.ints (i := 0) rfl) rfl (by omega)) (by exact fun _ _ h=>pk h rfl trivial rfl)) rfl
 rintro θ R ⟨h7d, _⟩
 exact Opp.plain (OG.imp (OD.loadInt rfl ti3 rfl (Ent.ints (i := 0) rfl) (by omega)) (by exact fun _ _ h=>pk h rfl trivial rfl)) rfl
 rintro θ R ⟨h8d, _⟩
 exact Opp.plain (OG.imp (OD.negI rfl rfl (by omega)) (by exact fun _ _ h=>pk h rfl trivial rfl)) rfl
 intro θ R hd
 exact Opp.plain (OG.imp (OD.fieldAddr rfl rfl fa27_0) (by exact fun _ _ h=>pk h rfl trivial rfl)) rfl
 rintro θ R ⟨h10d, _⟩
 exact Opp.plain (OG.imp (OD.load rfl ti3 rfl (i := 6) rfl rfl) (by exact fun _ _ h=>pk h rfl trivial rfl)) rfl
 intro θ R hd
 exact Opp.plain (OG.imp (OD.move rfl rfl) (by exact fun _ _ h=>pk h rfl trivial rfl)) rfl
 rintro θ R ⟨h11d, h12d, _⟩
 exact Opp.plain (OG.imp (OG.call [.int .i64 (cr), .int .i64 ((i : Int))] ent132 rfl rfl rfl rfl (by exact (unit_w (by omega) (by omega)))) (by rintro v26 _ ⟨_, rfl, hs27, rfl⟩; exact ⟨[v26], rfl, hs27, rfl⟩)) rfl
 rintro θ R ⟨h4d, h9d, h13d, _⟩
 exact Opp.plain (OG.imp (OG.call [(ut.getD (k) undef), .int .i64 (0 - (wtF cr cd (fs.getD (k) [])).getD (i) 0), ((θ 13).getD 0 undef)] ent109 rfl rfl rfl rfl (by exact (listPlus_w (hb.get (by omega)) (Ent.manyInts (i := 2) rfl ⟨by first | omega | (simp; omega), by first | omega | (simp; omega)⟩) h13d (Ent.ints (i := 0) rfl) (by omega) (by rw [unitL_len]; omega)))) (by rintro v28 _ ⟨_, rfl, hs29, rfl⟩; exact ⟨[v28], rfl, hs29, rfl⟩)) rfl
 intro θ hall
 obtain ⟨_, _, _, _, _, _, _, _, _, _, _, _, _, h13a, h14a, _⟩ := hall
 refine G.at [] 0 (env' := [(1, .pointer (some ⟨g1, 0, none⟩)), (2, .pointer (some ⟨g2, 0, none⟩)), (3, .pointer (some ⟨g4, 0, none⟩)), (5, .int .i64 ((k : Int))), (6, v24), (55, .int .i64 (cr)), (56, .int .i64 ((i : Int))), (7, .int .i64 ((i : Int))), (73, ((θ 14).getD 0 undef))]) ⟨rfl, rfl, rfl, rfl, rfl, rfl, rfl, rfl, rfl, trivial⟩ (own' := ints 3 ((θ 13).getD 0 undef) (unitL cr.toNat i) :: ints 3 ((θ 14).getD 0 undef) (lpF (gs.getD (k) []) (0 - (wtF cr cd (fs.getD (k) [])).getD (i) 0) (unitL cr.toNat i)) :: ints 3 v24 (wtF cr cd (fs.getD (k) [])) :: many (ints 3) ut gs :: lst 22 w ut :: box g4 80 [.int .i64 (cr), vcd, w, .map (some g3)] :: mapA keyL valI g3 (kzL 0 gs) :: box g2 80 [.int .i64 (0), .slice none 0 0, .slice none 0 0, .map none] :: box g1 27 [.int .i64 (cr), vcd] :: own) rfl ?_
 have hs30 : IsS ((θ 13).getD 0 undef) := h13a
 clear h13a
 generalize ((θ 13).getD 0 undef) = v31 at *
 have hs32 : IsS ((θ 14).getD 0 undef) := h14a
 clear h14a
 generalize ((θ 14).getD 0 undef) = v33 at *
 show G _ _ _ [_] _ _ _ _
 refine G.stepD (OD.assign rfl rfl) rfl rfl rfl ?_
 refine G.nil (GE.then_ (GC.seq ?_))
 refine GC.ownEq (own' := ints 3 v31 (unitL cr.toNat i) :: ints 3 v33 (rStep cr cd (fs.getD k []) i) :: ints 3 v24 (wtF cr cd (fs.getD (k) [])) :: many (ints 3) ut gs :: lst 22 w ut :: box g4 80 [.int .i64 (cr), vcd, w, .map (some g3)] :: mapA keyL valI g3 (kzL 0 gs) :: box g2 80 [.int .i64 (0), .slice none 0 0, .slice none 0 0, .map none] :: box g1 27 [.int .i64 (cr), vcd] :: own) (by rw [hgk, hlp]) ?_
 refine GC.at [] 0 (env' := [(1, .pointer (some ⟨g1, 0, none⟩)), (2, .pointer (some ⟨g2, 0, none⟩)), (3, .pointer (some ⟨g4, 0, none⟩)), (5, .int .i64 ((k : Int))), (6, v24), (55, .int .i64 (cr)), (56, .int .i64 ((i : Int))), (7, .int .i64 ((i : Int))), (8, v33)]) ⟨rfl, rfl, rfl, rfl, rfl, rfl, rfl, rfl, rfl, trivial⟩ rfl ?_
 refine GC.late (σ := [0, 1, 2, 3, 4, 5, 7, 6, 8, 9]) (L := [7]) (its := [⟨75, [], [], [], [], fun _ => .pointer (some ⟨g4, 3, none⟩), fun _ => True, fun _ => []⟩,
     ⟨76, [(0, 75)], [], [], [], fun _ => .map (some g3), fun _ => True, fun _ => []⟩,
     ⟨77, [], [], [], [], fun _ => v33, fun _ => True, fun _ => []⟩,
     ⟨78, [(2, 77)], [], [], [], fun _ => .string (fmtB (rStep cr cd (fs.getD k []) i)), fun _ => True, fun _ => []⟩,
     ⟨79, [(1, 76), (3, 78)], [], [], [], fun _ => .tuple #[.int .i64 ((alu (rStep cr cd (fs.getD k []) i) (kzL 0 gs)).getD 0), .bool ((alu (rStep cr cd (fs.getD k []) i) (kzL 0 gs)).isSome)], fun _ => True, fun _ => []⟩,
     ⟨74, [(4, 79)], [], [], [], fun _ => .tuple #[.int .i64 ((alu (rStep cr cd (fs.getD k []) i) (kzL 0 gs)).getD 0), .bool ((alu (rStep cr cd (fs.getD k []) i) (kzL 0 gs)).isSome)], fun _ => True, fun _ => []⟩,
     ⟨81, [(5, 74)], [], [], [], fun _ => .bool ((alu (rStep cr cd (fs.getD k []) i) (kzL 0 gs)).isSome), fun _ => True, fun _ => []⟩,
     ⟨80, [(5, 74)], [], [], [], fun _ => .int .i64 ((alu (rStep cr cd (fs.getD k []) i) (kzL 0 gs)).getD 0), fun _ => True, fun _ => []⟩]) (by kernel_rfl) (by repeat (first | refine PanQ.then_ ?_ | refine PanQ.block ?_ | exact PanQ.body)) (by kernel_rfl) ⟨⟨_, rfl, .inl rfl⟩, trivial⟩ (by kernel_rfl) (POps.cons ?_ (POps.cons ?_ (POps.cons ?_ (POps.cons ?_ (POps.cons ?_ (POps.cons ?_ (POps.cons ?_ (POps.cons ?_ POps.nil)))))))) ?_
 intro θ R hd
 exact Opp.plain (OG.imp (OD.fieldAddr rfl rfl fa80_2) (by exact fun _ _ h=>pk h rfl trivial rfl)) rfl
 rintro θ R ⟨h0d, _⟩
 exact Opp.plain (OG.imp (OD.load rfl ti78 rfl (i := 5) rfl rfl) (by exact fun _ _ h=>pk h rfl trivial rfl)) rfl
 intro θ R hd
 exact Opp.plain (OG.imp (OD.move rfl rfl) (by exact fun _ _ h=>pk h rfl trivial rfl)) rfl
 rintro θ R ⟨h2d, _⟩
 exact Opp.plain (OG.imp (OG.call [v33] ent64 rfl rfl rfl rfl (by exact (formatInts_w hs32 (Ent.ints (i := 1) rfl) (hy64) (by first | omega | (rw [units_get, unitL_len]; omega)) ((Ent.drop 9 htab.app))))) (by exact fun _ _ h=>pk h rfl trivial rfl)) rfl
 rintro θ R ⟨h1d, h3d, _⟩
 exact Opp.plain (OG.imp (OD.lookupOk (k := (rStep cr cd (fs.getD k []) i)) rfl mt78 ke9keyL rfl rfl (Ent.map (kE := keyL) (vE := valI) (l := kzL 0 gs) (i := 6) rfl)) (by exact fun _ _ h=>pk h rfl trivial rfl)) rfl
 rintro θ R ⟨h4d, _⟩
 exact Opp.plain (OG.imp (OD.move rfl rfl) (by exact fun _ _ h=>pk h rfl trivial rfl)) rfl
 rintro θ R ⟨h5d, _⟩
 exact Opp.plain (OG.imp (OD.extract rfl rfl rfl) (by exact fun _ _ h=>pk h rfl trivial rfl)) rfl
 rintro θ R ⟨h5d, _⟩
 exact Opp.plain (OG.imp (OD.extract rfl rfl rfl) (by exact fun _ _ h=>pk h rfl trivial rfl)) rfl
 intro θ hall
 obtain ⟨_, _, _, _, _, _, _, _, _⟩ := hall
 refine G.at [] 0 (env' := [(1, .pointer (some ⟨g1, 0, none⟩)), (2, .pointer (some ⟨g2, 0, none⟩)), (3, .pointer (some ⟨g4, 0, none⟩)), (5, .int .i64 ((k : Int))), (6, v24), (55, .int .i64 (cr)), (56, .int .i64 ((i : Int))), (7, .int .i64 ((i : Int))), (8, v33), (81, .bool ((alu (rStep cr cd (fs.getD k []) i) (kzL 0 gs)).isSome)), (80, .int .i64 ((alu (rStep cr cd (fs.getD k []) i) (kzL 0 gs)).getD 0))]) ⟨rfl, rfl, rfl, rfl, rfl, rfl, rfl, rfl, rfl, rfl, rfl, trivial⟩ (own' := ints 3 v31 (unitL cr.toNat i) :: ints 3 v33 (rStep cr cd (fs.getD k []) i) :: ints 3 v24 (wtF cr cd (fs.getD (k) [])) :: many (ints 3) ut gs :: lst 22 w ut :: box g4 80 [.int .i64 (cr), vcd, w, .map (some g3)] :: mapA keyL valI g3 (kzL 0 gs) :: box g2 80 [.int .i64 (0), .slice none 0 0, .slice none 0 0, .map none] :: box g1 27 [.int .i64 (cr), vcd] :: own) rfl ?_
 show G _ _ _ [_, _] _ _ _ _
 refine G.stepD (OD.assign rfl rfl) rfl rfl rfl ?_
 refine G.stepD (OD.assign rfl rfl) rfl rfl rfl ?_
 refine G.nil (GE.then_ (GC.seq (GC.region ?_)))
 refine G.stepD (OD.move rfl rfl) rfl rfl rfl ?_
 refine G.stepD (OD.not rfl rfl) rfl rfl rfl ?_
 refine G.stepD (OD.move rfl rfl) rfl rfl rfl ?_
 rcases Bool.eq_false_or_eq_true (!((alu (rStep cr cd (fs.getD k []) i) (kzL 0 gs)).isSome)) with hg34 | hg34
 have hg34e := hg34
 refine G.at [] 0 (env' := [(1, .pointer (some ⟨g1, 0, none⟩)), (2, .pointer (some ⟨g2, 0, none⟩)), (3, .pointer (some ⟨g4, 0, none⟩)), (5, .int .i64 ((k : Int))), (6, v24), (55, .int .i64 (cr)), (56, .int .i64 ((i : Int))), (7, .int .i64 ((i : Int))), (8, v33), (81, .bool ((alu (rStep cr cd (fs.getD k []) i) (kzL 0 gs)).isSome)), (80, .int .i64 ((alu (rStep cr cd (fs.getD k []) i) (kzL 0 gs)).getD 0)), (9, .int .i64 ((alu (rStep cr cd (fs.getD k []) i) (kzL 0 gs)).getD 0)), (10, .bool ((alu (rStep cr cd (fs.getD k []) i) (kzL 0 gs)).isSome)), (82, .bool ((alu (rStep cr cd (fs.getD k []) i) (kzL 0 gs)).isSome)), (83, .bool true), (84, .bool true)]) (⟨rfl, rfl, rfl, rfl, rfl, rfl, rfl, rfl, rfl, rfl, rfl, rfl, rfl, rfl, (congrArg (fun b => some (Value.bool b)) hg34e), (congrArg (fun b => some (Value.bool b)) hg34e), trivial⟩) rfl ?_
 replace hg34 := eq_false_of_not hg34
 refine G.stepGD (OD.move rfl rfl) rfl rfl rfl rfl rfl ?_
 refine G.stepGD (OD.move rfl rfl) rfl rfl rfl rfl rfl ?_
 refine G.stepGD (OD.indexAddr rfl et22 rfl (Ent.ints (i := 1) rfl) rfl (by omega)) rfl rfl rfl rfl rfl ?_
 refine G.stepGD (OD.loadInt rfl ti3 rfl (Ent.ints (i := 1) rfl) (by omega)) rfl rfl rfl rfl rfl ?_
 refine G.stepGD (OD.geq rfl rfl rfl) rfl rfl rfl rfl rfl ?_
 refine G.stepD (OD.pickT rfl rfl rfl) rfl rfl rfl ?_
 refine G.nil (GE.then_ ?_)
 refine GC.cond rfl (fun hc35 => ?_) (fun hc35 => ?_)
 replace hc35 := of_decide_eq_true hc35
 refine GC.seq ?_
 refine GC.at [] 0 (env' := [(1, .pointer (some ⟨g1, 0, none⟩)), (2, .pointer (some ⟨g2, 0, none⟩)), (3, .pointer (some ⟨g4, 0, none⟩)), (5, .int .i64 ((k : Int))), (6, v24), (55, .int .i64 (cr)), (56, .int .i64 ((i : Int))), (8, v33)]) ⟨rfl, rfl, rfl, rfl, rfl, rfl, rfl, rfl, trivial⟩ rfl ?_
 refine GC.par (its := [⟨91, [], [], [], [], fun _ => .pointer (some ⟨g4, 3, none⟩), fun _ => True, fun _ => []⟩,
     ⟨92, [(0, 91)], [], [], [], fun _ => .map (some g3), fun _ => True, fun _ => []⟩,
     ⟨93, [], [], [], [], fun _ => v33, fun _ => True, fun _ => []⟩,
     ⟨94, [(2, 93)], [], [], [], fun _ => .string (fmtB (rStep cr cd (fs.getD k []) i)), fun _ => True, fun _ => []⟩,
     ⟨95, [], [], [], [], fun _ => .pointer (some ⟨g4, 2, none⟩), fun _ => True, fun _ => []⟩,
     ⟨96, [(4, 95)], [], [], [], fun _ => w, fun _ => True, fun _ => []⟩,
     ⟨97, [(5, 96)], [], [], [], fun _ => .int .i64 ((ut.length : Nat)), fun _ => True, fun _ => []⟩]) (by kernel_rfl) (by kernel_rfl) (POps.cons ?_ (POps.cons ?_ (POps.cons ?_ (POps.cons ?_ (POps.cons ?_ (POps.cons ?_ (POps.cons ?_ POps.nil))))))) ?_
 intro θ R hd
 exact Opp.plain (OG.imp (OD.fieldAddr rfl rfl fa80_2) (by exact fun _ _ h=>pk h rfl trivial rfl)) rfl
 rintro θ R ⟨h0d, _⟩
 exact Opp.plain (OG.imp (OD.load rfl ti78 rfl (i := 5) rfl rfl) (by exact fun _ _ h=>pk h rfl trivial rfl)) rfl
 intro θ R hd
 exact Opp.plain (OG.imp (OD.move rfl rfl) (by exact fun _ _ h=>pk h rfl trivial rfl)) rfl
 rintro θ R ⟨h2d, _⟩
 exact Opp.plain (OG.imp (OG.call [v33] ent64 rfl rfl rfl rfl (by exact (formatInts_w hs32 (Ent.ints (i := 1) rfl) (hy64) (by first | omega | (rw [units_get, unitL_len]; omega)) ((Ent.drop 9 htab.app))))) (by exact fun _ _ h=>pk h rfl trivial rfl)) rfl
 intro θ R hd
 exact Opp.plain (OG.imp (OD.fieldAddr rfl rfl fa80_1) (by exact fun _ _ h=>pk h rfl trivial rfl)) rfl
 rintro θ R ⟨h4d, _⟩
 exact Opp.plain (OG.imp (OD.load rfl ti39 rfl (i := 5) rfl rfl) (by exact fun _ _ h=>pk h rfl trivial rfl)) rfl
 rintro θ R ⟨h5d, _⟩
 exact Opp.plain (OG.imp (OD.len rfl rfl et39 rfl (Ent.lst (i := 4) rfl)) (by exact fun _ _ h=>pk h rfl trivial rfl)) rfl
 intro θ hall
 obtain ⟨_, _, _, _, _, _, _, _⟩ := hall
 refine G.at [] 0 (env' := [(1, .pointer (some ⟨g1, 0, none⟩)), (2, .pointer (some ⟨g2, 0, none⟩)), (3, .pointer (some ⟨g4, 0, none⟩)), (5, .int .i64 ((k : Int))), (6, v24), (55, .int .i64 (cr)), (56, .int .i64 ((i : Int))), (8, v33), (92, .map (some g3)), (94, .string (fmtB (rStep cr cd (fs.getD k []) i))), (97, .int .i64 ((ut.length : Nat)))]) ⟨rfl, rfl, rfl, rfl, rfl, rfl, rfl, rfl, rfl, rfl, rfl, trivial⟩ (own' := ints 3 v31 (unitL cr.toNat i) :: ints 3 v33 (rStep cr cd (fs.getD k []) i) :: ints 3 v24 (wtF cr cd (fs.getD (k) [])) :: many (ints 3) ut gs :: lst 22 w ut :: box g4 80 [.int .i64 (cr), vcd, w, .map (some g3)] :: mapA keyL valI g3 (kzL 0 gs) :: box g2 80 [.int .i64 (0), .slice none 0 0, .slice none 0 0, .map none] :: box g1 27 [.int .i64 (cr), vcd] :: own) rfl ?_
 show G _ _ _ [_] _ _ _ _
 refine G.stepD0 (OD.mapUpdate (kE := keyL) (vE := valI) (l := kzL 0 gs) (k := (rStep cr cd (fs.getD k []) i)) (b := ((ut.length : Nat) : Int)) rfl mt78.ht ke9keyL rfl rfl rfl (i := 6) rfl) rfl rfl ?_
 refine G.nil (GE.then_ (GC.region ?_))
 refine G.stepD (OD.fieldAddr rfl rfl fa80_1) rfl rfl rfl ?_
 refine G.stepD (OD.load rfl ti39 rfl (i := 5) rfl rfl) rfl rfl rfl ?_
 refine G.stepD (OD.move rfl rfl) rfl rfl rfl ?_
 refine G.step (OG.buildLst (xs := [.tmp 100]) (us := [v33]) rfl et39 rfl rfl rfl (allC (IsS.one hs32) rfl) rfl) rfl rfl rfl ?_
 rintro v36 _ ⟨hs37, rfl⟩
 refine G.step (OG.appendLst 5 rfl rfl et39 rfl rfl rfl (Ent.lst (i := 0) rfl) (List.all_eq_true.2 fun u hu => by simpa using (AllS.snoc AllS.nil hs32).one u hu) (by simp [maxLen] <;> omega)) rfl rfl rfl ?_
 rintro v38 _ ⟨hs39, rfl⟩
 refine G.stepD (OD.fieldAddr rfl rfl fa80_1) rfl rfl rfl ?_
 refine G.stepD0 (OD.store rfl ti39 rfl rfl (us := [v38]) (one_cells (IsS.one hs39)) rfl (allC (IsS.one hs39) rfl) (i := 6) rfl rfl) rfl rfl ?_
 refine G.nil (GE.blockN (GE.then_ (GC.region ?_)))
 refine G.stepD (OD.addI rfl rfl rfl (by omega)) rfl rfl rfl ?_
 refine G.stepD (OD.move rfl rfl) rfl rfl rfl ?_
 refine G.nil ?_
 refine GE.at [2, 3, 0, 0, 0, 0, 0, 0, 0, 0] 0 (env' := [(1, .pointer (some ⟨g1, 0, none⟩)), (2, .pointer (some ⟨g2, 0, none⟩)), (3, .pointer (some ⟨g4, 0, none⟩)), (5, .int .i64 ((k : Int))), (6, v24), (55, .int .i64 (cr)), (8, v33), (92, .map (some g3)), (94, .string (fmtB (rStep cr cd (fs.getD k []) i))), (97, .int .i64 ((ut.length : Nat))), (98, .pointer (some ⟨g4, 2, none⟩)), (99, w), (100, v33), (101, v36), (102, v38), (103, .pointer (some ⟨g4, 2, none⟩)), (104, .int .i64 ((i : Int) + 1)), (56, .int .i64 ((i : Int) + 1))]) ⟨rfl, rfl, rfl, rfl, rfl, rfl, rfl, rfl, rfl, rfl, rfl, rfl, rfl, rfl, rfl, rfl, rfl, rfl, trivial⟩ (own' := ints 3 v33 (rStep cr cd (fs.getD k []) i) :: many (ints 3) ut gs :: lst 22 v36 [v33] :: ints 3 v31 (unitL cr.toNat i) :: ints 3 v24 (wtF cr cd (fs.getD (k) [])) :: lst 22 v38 (ut ++ [v33]) :: box g4 80 [.int .i64 (cr), vcd, v38, .map (some g3)] :: mapA keyL valI g3 (aup (rStep cr cd (fs.getD k []) i) ((ut.length : Nat) : Int) (kzL 0 gs)) :: box g2 80 [.int .i64 (0), .slice none 0 0, .slice none 0 0, .map none] :: box g1 27 [.int .i64 (cr), vcd] :: own) rfl ?_
 refine GE.manyPush (by omega) ?_
 refine GE.ownEq (own' := many (ints 3) (ut ++ [v33]) (gs ++ [rStep cr cd (fs.getD k []) i]) :: lst 22 v36 [v33] :: ints 3 v31 (unitL cr.toNat i) :: ints 3 v24 (wtF cr cd (fs.getD (k) [])) :: lst 22 v38 (ut ++ [v33]) :: box g4 80 [.int .i64 (cr), vcd, v38, .map (some g3)] :: mapA keyL valI g3 (kzL 0 (gs ++ [rStep cr cd (fs.getD k []) i])) :: box g2 80 [.int .i64 (0), .slice none 0 0, .slice none 0 0, .map none] :: box g1 27 [.int .i64 (cr), vcd] :: own) (by rw [aup_new hg34 hut] <;> rfl) ?_
 exact GE.again (i + 1, gs ++ [rStep cr cd (fs.getD k []) i], ut ++ [v33], v38) (⟨by omega, fold_next hg (rOne_k3 (fun j => (hxb0 j).1) (by omega) hg34 hc35), (hb.snoc hs32), by rw [List.length_append, List.length_append]; simp; omega, hs39⟩) (by first | omega | (dsimp only; omega)) ⟨rfl, rfl, rfl, rfl, rfl, rfl, rfl, trivial⟩ [3, 0, 2, 2, 2, 2, 2] 2 rfl
 replace hc35 := of_decide_eq_false hc35
 refine GC.skip (GE.blockN (GE.then_ (GC.region ?_)))
 refine G.stepD (OD.addI rfl rfl rfl (by omega)) rfl rfl rfl ?_
 refine G.stepD (OD.move rfl rfl) rfl rfl rfl ?_
 refine G.nil ?_
 exact GE.again (i + 1, gs, ut, w) (⟨by omega, fold_next hg (rOne_k2 (fun j => (hxb0 j).1) (by omega) hc35), hb, hut, hw⟩) (by first | omega | (dsimp only; omega)) ⟨rfl, rfl, rfl, rfl, rfl, rfl, rfl, trivial⟩ [2, 2, 2, 2, 2, 2, 2] 2 rfl
 have hg34e := hg34
 refine G.at [] 0 (env' := [(1, .pointer (some ⟨g1, 0, none⟩)), (2, .pointer (some ⟨g2, 0, none⟩)), (3, .pointer (some ⟨g4, 0, none⟩)), (5, .int .i64 ((k : Int))), (6, v24), (55, .int .i64 (cr)), (56, .int .i64 ((i : Int))), (7, .int .i64 ((i : Int))), (8, v33), (81, .bool ((alu (rStep cr cd (fs.getD k []) i) (kzL 0 gs)).isSome)), (80, .int .i64 ((alu (rStep cr cd (fs.getD k []) i) (kzL 0 gs)).getD 0)), (9, .int .i64 ((alu (rStep cr cd (fs.getD k []) i) (kzL 0 gs)).getD 0)), (10, .bool ((alu (rStep cr cd (fs.getD k []) i) (kzL 0 gs)).isSome)), (82, .bool ((alu (rStep cr cd (fs.getD k []) i) (kzL 0 gs)).isSome)), (83, .bool false), (84, .bool false)]) (⟨rfl, rfl, rfl, rfl, rfl, rfl, rfl, rfl, rfl, rfl, rfl, rfl, rfl, rfl, (congrArg (fun b => some (Value.bool b)) hg34e), (congrArg (fun b => some (Value.bool b)) hg34e), trivial⟩) rfl ?_
 replace hg34 := eq_true_of_not hg34
 refine G.skipG rfl rfl rfl rfl rfl rfl (G.skipG rfl rfl rfl rfl rfl rfl (G.skipG rfl rfl rfl rfl rfl rfl (G.skipG rfl rfl rfl rfl rfl rfl (G.skipG rfl rfl rfl rfl rfl rfl ?_))))
 refine G.stepD (OD.pickF rfl rfl rfl) rfl rfl rfl ?_
 refine G.nil (GE.then_ (GC.condF rfl (GC.skip (GE.blockN (GE.then_ (GC.region ?_))))))
 refine G.stepD (OD.addI rfl rfl rfl (by omega)) rfl rfl rfl ?_
 refine G.stepD (OD.move rfl rfl) rfl rfl rfl ?_
 refine G.nil ?_
 exact GE.again (i + 1, gs, ut, w) (⟨by omega, fold_next hg (rOne_k1 hg34), hb, hut, hw⟩) (by first | omega | (dsimp only; omega)) ⟨rfl, rfl, rfl, rfl, rfl, rfl, rfl, trivial⟩ [2, 2, 2, 2, 2, 2, 2] 2 rfl
 replace hc25 := of_decide_eq_false hc25
 refine GC.exit (GE.pass (GE.pass (GE.hit (GE.blockN (GE.then_ (GC.region ?_))))))
 refine G.stepD (OD.move rfl rfl) rfl rfl rfl ?_
 refine G.stepD (OD.addI rfl rfl rfl (by omega)) rfl rfl rfl ?_
 refine G.stepD (OD.assign rfl rfl) rfl rfl rfl ?_
 refine G.nil ?_
 exact GE.again (g, k + 1, gs, ut, w) (⟨by rw [hg, show i = cr.toNat by omega]; exact hst, hb, hut, hw⟩) (by first | omega | (dsimp only; omega)) ⟨rfl, rfl, rfl, rfl, trivial⟩ [1, 1, 1, 1, 1, 1] 1 rfl
 replace hc20 := of_decide_eq_false hc20
 have hfe := rC_end hf (by omega)
 subst hfe
 have hps := (rtOk hty).pos
 have hlo := (rtOk hty).lo
 have hfw := (rtOk hty).few
 refine GC.exit (GE.pass (GE.pass (GE.hit (GE.then_ (GC.seq (GC.region ?_))))))
 refine G.stepD (OD.fieldAddr rfl rfl fa80_1) rfl rfl rfl ?_
 refine G.stepD (OD.load rfl ti39 rfl (i := 2) rfl rfl) rfl rfl rfl ?_
 refine G.at [1, 0, 0, 0, 0, 0] 0 (env' := [(1, .pointer (some ⟨g1, 0, none⟩)), (2, .pointer (some ⟨g2, 0, none⟩)), (3, .pointer (some ⟨g4, 0, none⟩)), (5, .int .i64 ((k : Int))), (40, .int .i64 ((k : Int))), (41, .pointer (some ⟨g4, 2, none⟩)), (42, v), (43, .int .i64 ((us.length : Nat))), (44, .bool (decide ((k : Int) < (us.length : Nat)))), (105, .pointer (some ⟨g4, 2, none⟩)), (106, v)]) ⟨rfl, rfl, rfl, rfl, rfl, rfl, rfl, rfl, rfl, rfl, rfl, trivial⟩ (own' := lst 22 v us :: many (ints 3) us (rFd cr cd) :: box g4 80 [.int .i64 (cr), vcd, v, .map (some g3)] :: mapA keyL valI g3 (kzL 0 (rFd cr cd)) :: box g2 80 [.int .i64 (0), .slice none 0 0, .slice none 0 0, .map none] :: box g1 27 [.int .i64 (cr), vcd] :: own) rfl ?_
 refine G.step (OG.call [v, .func (.func 133) #[] #[]] ent86 rfl rfl rfl rfl (by exact (sort_w strict_rcmp tells_rcmp ent133 hv ha hul (by omega) (by omega) (fun x hx => by have := (rtOk hty).len x hx; omega)))) rfl rfl rfl ?_
 rintro _ _ ⟨ws, xs, rfl, haw, hlw, hpw, hsw, rfl⟩
 obtain rfl := (rtOk hty).sorted hpw (hsw.imp fun h => decide_eq_false h)
 have hsn := (rtOk hty).slen
 skip
 refine G.nil (GE.then_ (GC.seq (GC.seq (GC.region ?_))))
 refine G.stepD (OD.fieldAddr rfl rfl fa80_1) rfl rfl rfl ?_
 refine G.stepD (OD.load rfl ti39 rfl (i := 2) rfl rfl) rfl rfl rfl ?_
 refine G.stepD (OD.len rfl rfl et39 rfl (Ent.lst (i := 0) rfl)) rfl rfl rfl ?_
 refine G.stepD (OD.move rfl rfl) rfl rfl rfl ?_
 refine G.nil (GE.then_ (GC.block ?_))
 refine GC.loop (ι := Nat) (fun p => [(2, .pointer (some ⟨g2, 0, none⟩)), (3, .pointer (some ⟨g4, 0, none⟩)), (109, v), (110, .int .i64 ((ws.length : Nat))), (111, .int .i64 ((p : Int)))]) (fun p => lst 22 v ws :: many (ints 3) ws (rSt cr cd) :: box g4 80 [.int .i64 (cr), vcd, v, .map (some g3)] :: mapA keyL valI g3 (rPl (rSt cr cd) p (kzL 0 (rFd cr cd))) :: box g2 80 [.int .i64 (0), .slice none 0 0, .slice none 0 0, .map none] :: box g1 27 [.int .i64 (cr), vcd] :: own) (fun p => (p ≤ (rSt cr cd).length)) (fun p => (rSt cr cd).length - p) 0 (by omega) ⟨rfl, rfl, rfl, rfl, rfl, trivial⟩ [] 0 rfl ?_
 rintro p hp
 refine GC.seq (GC.region ?_)
 refine G.stepD (OD.lss rfl rfl rfl) rfl rfl rfl ?_
 refine G.nil (GE.then_ (GC.seq ?_))
 refine GC.cond rfl (fun hc40 => ?_) (fun hc40 => ?_)
 replace hc40 := of_decide_eq_true hc40
 obtain ⟨hsl, hsb⟩ := (rtOk hty).sget (show p < (rSt cr cd).length by omega)
 have hs64 : All64 ((rSt cr cd).getD p []) := all64_of fun j _ => by have := hsb j; omega
 refine GC.skip (GE.then_ (GC.seq (GC.block (GC.seq (GC.region ?_)))))
 refine G.stepD (OD.move rfl rfl) rfl rfl rfl ?_
 refine G.stepD (OD.indexAddr rfl et39 rfl (Ent.lst (i := 0) rfl) rfl (by omega)) rfl rfl rfl ?_
 refine G.stepD (OD.loadElem rfl ti22 rfl (Ent.lst (i := 0) rfl) (by omega) rfl) rfl rfl rfl ?_
 refine G.stepD (OD.assign rfl rfl) rfl rfl rfl ?_
 refine G.stepD (OD.assign rfl rfl) rfl rfl rfl ?_
 refine G.nil (GE.then_ ?_)
 refine GC.at [] 0 (env' := [(2, .pointer (some ⟨g2, 0, none⟩)), (3, .pointer (some ⟨g4, 0, none⟩)), (109, v), (110, .int .i64 ((ws.length : Nat))), (111, .int .i64 ((p : Int))), (11, .int .i64 ((p : Int))), (12, (ws.getD (p) undef))]) ⟨rfl, rfl, rfl, rfl, rfl, rfl, rfl, trivial⟩ rfl ?_
 refine GC.par (its := [⟨116, [], [], [], [], fun _ => .pointer (some ⟨g4, 3, none⟩), fun _ => True, fun _ => []⟩,
     ⟨117, [(0, 116)], [], [], [], fun _ => .map (some g3), fun _ => True, fun _ => []⟩,
     ⟨118, [], [], [], [], fun _ => (ws.getD (p) undef), fun _ => True, fun _ => []⟩,
     ⟨119, [(2, 118)], [], [], [], fun _ => .string (fmtB ((rSt cr cd).getD (p) [])), fun _ => True, fun _ => []⟩,
     ⟨120, [], [], [], [], fun _ => .int .i64 ((p : Int)), fun _ => True, fun _ => []⟩]) (by kernel_rfl) (by kernel_rfl) (POps.cons ?_ (POps.cons ?_ (POps.cons ?_ (POps.cons ?_ (POps.cons ?_ POps.nil))))) ?_
 intro θ R hd
 exact Opp.plain (OG.imp (OD.fieldAddr rfl rfl fa80_2) (by exact fun _ _ h=>pk h rfl trivial rfl)) rfl
 rintro θ R ⟨h0d, _⟩
 exact Opp.plain (OG.imp (OD.load rfl ti78 rfl (i := 2) rfl rfl) (by exact fun _ _ h=>pk h rfl trivial rfl)) rfl
 intro θ R hd
 exact Opp.plain (OG.imp (OD.move rfl rfl) (by exact fun _ _ h=>pk h rfl trivial rfl)) rfl
 rintro θ R ⟨h2d, _⟩
 exact Opp.plain (OG.imp (OG.call [(ws.getD (p) undef)] ent64 rfl rfl rfl rfl (by exact (formatInts_w (haw.get (by omega)) (Ent.manyInts (i := 1) rfl ⟨by first | omega | (simp; omega), by first | omega | (simp; omega)⟩) (hs64) (by first | omega | (rw [units_get, unitL_len]; omega)) ((Ent.drop 6 htab.app))))) (by exact fun _ _ h=>pk h rfl trivial rfl)) rfl
 intro θ R hd
 exact Opp.plain (OG.imp (OD.move rfl rfl) (by exact fun _ _ h=>pk h rfl trivial rfl)) rfl
 intro θ hall
 obtain ⟨_, _, _, _, _, _⟩ := hall
 refine G.at [] 0 (env' := [(2, .pointer (some ⟨g2, 0, none⟩)), (3, .pointer (some ⟨g4, 0, none⟩)), (109, v), (110, .int .i64 ((ws.length : Nat))), (111, .int .i64 ((p : Int))), (117, .map (some g3)), (119, .string (fmtB ((rSt cr cd).getD (p) []))), (120, .int .i64 ((p : Int)))]) ⟨rfl, rfl, rfl, rfl, rfl, rfl, rfl, rfl, trivial⟩ (own' := lst 22 v ws :: many (ints 3) ws (rSt cr cd) :: box g4 80 [.int .i64 (cr), vcd, v, .map (some g3)] :: mapA keyL valI g3 (rPl (rSt cr cd) p (kzL 0 (rFd cr cd))) :: box g2 80 [.int .i64 (0), .slice none 0 0, .slice none 0 0, .map none] :: box g1 27 [.int .i64 (cr), vcd] :: own) rfl ?_
 show G _ _ _ [_] _ _ _ _
 refine G.stepD0 (OD.mapUpdate (kE := keyL) (vE := valI) (l := rPl (rSt cr cd) p (kzL 0 (rFd cr cd))) (k := ((rSt cr cd).getD (p) [])) (b := ((p : Int) : Int)) rfl mt78.ht ke9keyL rfl rfl rfl (i := 3) rfl) rfl rfl ?_
 refine G.nil (GE.blockN (GE.then_ (GC.region ?_)))
 refine G.stepD (OD.addI rfl rfl rfl (by omega)) rfl rfl rfl ?_
 refine G.stepD (OD.move rfl rfl) rfl rfl rfl ?_
 refine G.nil ?_
 refine GE.ownEq (own' := lst 22 v ws :: many (ints 3) ws (rSt cr cd) :: box g4 80 [.int .i64 (cr), vcd, v, .map (some g3)] :: mapA keyL valI g3 (rPl (rSt cr cd) (p + 1) (kzL 0 (rFd cr cd))) :: box g2 80 [.int .i64 (0), .slice none 0 0, .slice none 0 0, .map none] :: box g1 27 [.int .i64 (cr), vcd] :: own) (by rw [rPl_succ] <;> rfl) ?_
 exact GE.again (p + 1) (by omega) (by first | omega | (dsimp only; omega)) ⟨rfl, rfl, rfl, rfl, rfl, trivial⟩ [] 0 rfl
 replace hc40 := of_decide_eq_false hc40
 refine GC.exit (GE.pass (GE.pass (GE.hit (GE.then_ (GC.seq (GC.region ?_))))))
 refine G.stepD (OD.loadAgg rfl ti80 rfl (i := 2) rfl (us := [.int .i64 (cr), vcd, v, .map (some g3)]) rfl rfl) rfl rfl rfl ?_
 refine G.stepD0 (OD.store rfl ti80 rfl rfl (us := [.int .i64 (cr), vcd, v, .map (some g3)]) rfl rfl (allC rfl (allC (IsS.one scd) (allC (IsS.one hv) (allC rfl rfl)))) (i := 4) rfl rfl) rfl rfl ?_
 refine G.nil (GE.then_ (GC.ret ?_))
 exact GE.body [0, 0, 1] 3 (resN rfl (RVs.cons (rv_cells ti80 rfl (i := 4) rfl rfl) RVs.nil) rfl) rfl (⟨v, ws, g3, rfl, hv, haw, (hlw), cong2 (fun (l0 : List (List Int)) (l1 : List (List Int × Int)) => lst 22 v ws :: many (ints 3) ws l0 :: mapA keyL valI g3 l1 :: own) (rfl) ((by rw [show p = (rSt cr cd).length by omega]; rfl : rPl (rSt cr cd) p (kzL 0 (rFd cr cd)) = rKvs cr cd))⟩)
end Go.Proofs.YtgelkakjmbiibaaGreatDoor
namespace Go.Proofs.YtgelkakjmbiibaaGreatDoor
set_option linter.unusedVariables false
set_option linter.unusedSimpArgs false
open Go.RowKit
set_option maxRecDepth 100000 in
theorem l5Plus_w {W : World} {own : List Asn} {vx : Value} {x : List Int} {k : Int} {vy : Value} {y : List Int}  (sx : IsS vx) (ex : Ent own fun w => Ints w vx x)   (sy : IsS vy) (ey : Ent own fun w => Ints w vy y)  (hl : x.length ≤ 1073741824) (hle : y.length = x.length) : Spec Tryz.prog 73 [vx, .int .i64 (k), vy] W own (fun v ow => ∃ (r0 : Value), v = r0 ∧ IsS r0 ∧ ow = ints 3 r0 (lpF x k y) :: own) := by
 refine Spec.enter Tryz.f73 _ Tryz.func73 rfl (n := 32) rfl rfl ?_
 refine GC.seq (GC.region ?_)
 refine G.stepD (OD.assign rfl rfl) rfl rfl rfl ?_
 refine G.nil (GE.then_ (GC.seq (GC.region ?_)))
 refine G.stepD (OD.move rfl rfl) rfl rfl rfl ?_
 refine G.step (OG.call [vx] ent118 rfl rfl rfl rfl (by exact (l1Ints_w sx ex (hl)))) rfl rfl rfl ?_
 rintro v1 _ ⟨_, rfl, hs2, rfl⟩
 refine G.stepD (OD.assign rfl rfl) rfl rfl rfl ?_
 refine G.nil (GE.then_ (GC.seq (GC.seq (GC.region ?_))))
 refine G.stepD (OD.assign rfl rfl) rfl rfl rfl ?_
 refine G.nil (GE.then_ (GC.block ?_))
 refine GC.loop (ι := Nat × List Int) (fun ⟨i, ys⟩ => [(0, vx), (1, .int .i64 (k)), (2, vy), (7, v1), (8, .int .i64 ((i : Int)))]) (fun ⟨i, ys⟩ => ints 3 v1 ys :: own) (fun ⟨i, ys⟩ => (i ≤ y.length) ∧ (ys.length = x.length) ∧ (ys = (List.range i).foldl (fun (o : List Int) (i : Nat) => o.set i (IntKind.i64.wrap (o.getD i 0 + IntKind.i64.wrap (k * y.getD i 0)))) x)) (fun ⟨i, ys⟩ => y.length - i) (0, x) (⟨by omega, rfl, rfl⟩) ⟨rfl, rfl, rfl, rfl, rfl, trivial⟩ [] 0 rfl ?_
 rintro ⟨i, ys⟩ ⟨hi, hyl, hy⟩
 refine GC.seq (GC.seq (GC.region ?_))
 refine G.stepD (OD.move rfl rfl) rfl rfl rfl ?_
 refine G.stepD (OD.move rfl rfl) rfl rfl rfl ?_
 refine G.stepD (OD.len rfl rfl et22 rfl (Ent.drop 1 ex)) rfl rfl rfl ?_
 refine G.stepD (OD.lss rfl rfl rfl) rfl rfl rfl ?_
 refine G.nil (GE.then_ ?_)
 refine GC.cond rfl (fun hc3 => ?_) (fun hc3 => ?_)
 replace hc3 := of_decide_eq_true hc3
 refine GC.skip (GE.then_ (GC.seq (GC.block ?_)))
 refine GC.at [] 0 (env' := [(0, vx), (1, .int .i64 (k)), (2, vy), (7, v1), (8, .int .i64 ((i : Int)))]) ⟨rfl, rfl, rfl, rfl, rfl, trivial⟩ rfl ?_
 refine GC.par (its := [⟨17, [], [], [], [], fun _ => v1, fun _ => True, fun _ => []⟩,
     ⟨18, [], [], [], [], fun _ => .int .i64 ((i : Int)), fun _ => True, fun _ => []⟩,
     ⟨19, [], [], [], [], fun _ => v1, fun _ => True, fun _ => []⟩,
     ⟨20, [], [], [], [], fun _ => .int .i64 ((i : Int)), fun _ => True, fun _ => []⟩,
     ⟨21, [(2, 19), (3, 20)], [], [], [], fun _ => elemPtr v1 1 (i), fun _ => True, fun _ => []⟩,
     ⟨22, [(4, 21)], [], [], [], fun _ => .int .i64 (ys.getD (i) 0), fun _ => True, fun _ => []⟩,
     ⟨23, [], [], [], [], fun _ => .int .i64 (k), fun _ => True, fun _ => []⟩,
     ⟨24, [], [], [], [], fun _ => vy, fun _ => True, fun _ => []⟩,
     ⟨25, [], [], [], [], fun _ => .int .i64 ((i : Int)), fun _ => True, fun _ => []⟩,
     ⟨26, [(7, 24), (8, 25)], [], [], [], fun _ => elemPtr vy 1 (i), fun _ => True, fun _ => []⟩,
     ⟨27, [(9, 26)], [], [], [], fun _ => .int .i64 (y.getD (i) 0), fun _ => True, fun _ => []⟩,
     ⟨28, [(6, 23), (10, 27)], [], [], [], fun _ => .int .i64 (IntKind.i64.wrap (k * (y.getD (i) 0))), fun _ => True, fun _ => []⟩,
     ⟨29, [(5, 22), (11, 28)], [], [], [], fun _ => .int .i64 (IntKind.i64.wrap ((ys.getD (i) 0) + (IntKind.i64.wrap (k * (y.getD (i) 0))))), fun _ => True, fun _ => []⟩,
     ⟨30, [(0, 17), (1, 18)], [], [], [], fun _ => elemPtr v1 1 (i), fun _ => True, fun _ => []⟩]) (by kernel_rfl) (by kernel_rfl) (POps.cons ?_ (POps.cons ?_ (POps.cons ?_ (POps.cons ?_ (POps.cons ?_ (POps.cons ?_ (POps.cons ?_ (POps.cons ?_ (POps.cons ?_ (POps.cons ?_ (POps.cons ?_ (POps.cons ?_ (POps.cons ?_ (POps.cons ?_ POps.nil)))))))))))))) ?_
 intro θ R hd
 exact Opp.plain (OG.imp (OD.move rfl rfl) (by exact fun _ _ h=>pk h rfl trivial rfl)) rfl
 intro θ R hd
 exact Opp.plain (OG.imp (OD.move rfl rfl) (by exact fun _ _ h=>pk h rfl trivial rfl)) rfl
 intro θ R hd
 exact Opp.plain (OG.imp (OD.move rfl rfl) (by exact fun _ _ h=>pk h rfl trivial rfl)) rfl
 intro θ R hd
 exact Opp.plain (OG.imp (OD.move rfl rfl) (by exact fun _ _ h=>pk h rfl trivial rfl)) rfl
 rintro θ R ⟨h2d, h3d, _⟩
 exact Opp.plain (OG.imp (OD.indexAddr rfl et22 rfl (Ent.ints (i := 0) rfl) rfl (by omega)) (by exact fun _ _ h=>pk h rfl trivial rfl)) rfl
 rintro θ R ⟨h4d, _⟩
 exact Opp.plain (OG.imp (OD.loadInt rfl ti3 rfl (Ent.ints (i := 0) rfl) (by omega)) (by exact fun _ _ h=>pk h rfl trivial rfl)) rfl
 intro θ R hd
 exact Opp.plain (OG.imp (OD.move rfl rfl) (by exact fun _ _ h=>pk h rfl trivial rfl)) rfl
 intro θ R hd
 exact Opp.plain (OG.imp (OD.move rfl rfl) (by exact fun _ _ h=>pk h rfl trivial rfl)) rfl
 intro θ R hd
 exact Opp.plain (OG.imp (OD.move rfl rfl) (by exact fun _ _ h=>pk h rfl trivial rfl)) rfl
 rintro θ R ⟨h7d, h8d, _⟩
 exact Opp.plain (OG.imp (OD.indexAddr rfl et22 rfl (Ent.drop 1 ey.app) rfl (by omega)) (by exact fun _ _ h=>pk h rfl trivial rfl)) rfl
 rintro θ R ⟨h9d, _⟩
 exact Opp.plain (OG.imp (OD.loadInt rfl ti3 rfl (Ent.drop 1 ey.app) (by omega)) (by exact fun _ _ h=>pk h rfl trivial rfl)) rfl
 rintro θ R ⟨h6d, h10d, _⟩
 exact Opp.plain (OG.imp (OD.mul rfl rfl rfl) (by exact fun _ _ h=>pk h rfl trivial rfl)) rfl
 rintro θ R ⟨h5d, h11d, _⟩
 exact Opp.plain (OG.imp (OD.add rfl rfl rfl) (by exact fun _ _ h=>pk h rfl trivial rfl)) rfl
 rintro θ R ⟨h0d, h1d, _⟩
 exact Opp.plain (OG.imp (OD.indexAddr rfl et22 rfl (Ent.ints (i := 0) rfl) rfl (by omega)) (by exact fun _ _ h=>pk h rfl trivial rfl)) rfl
 intro θ hall
 obtain ⟨_, _, _, _, _, _, _, _, _, _, _, _, _, _, _⟩ := hall
 refine G.at [] 0 (env' := [(0, vx), (1, .int .i64 (k)), (2, vy), (7, v1), (8, .int .i64 ((i : Int))), (29, .int .i64 (IntKind.i64.wrap ((ys.getD (i) 0) + (IntKind.i64.wrap (k * (y.getD (i) 0)))))), (30, elemPtr v1 1 (i))]) ⟨rfl, rfl, rfl, rfl, rfl, rfl, rfl, trivial⟩ (own' := ints 3 v1 ys :: own) rfl ?_
 show G _ _ _ [_] _ _ _ _
 refine G.stepD0 (OD.storeInt rfl ti3 rfl rfl (i := 0) rfl (by omega)) rfl rfl ?_
 refine G.nil (GE.blockN (GE.then_ (GC.region ?_)))
 refine G.stepD (OD.move rfl rfl) rfl rfl rfl ?_
 refine G.stepD (OD.addI rfl rfl rfl (by first | omega | (simp only [List.length_set, List.length_replicate]; omega))) rfl rfl rfl ?_
 refine G.stepD (OD.assign rfl rfl) rfl rfl rfl ?_
 refine G.nil ?_
 exact GE.again (i + 1, (ys).set (i) (IntKind.i64.wrap ((ys.getD (i) 0) + (IntKind.i64.wrap (k * (y.getD (i) 0)))))) (⟨by omega, by rw [List.length_set]; exact hyl, fold_next hy rfl⟩) (by first | omega | (dsimp only; omega)) ⟨rfl, rfl, rfl, rfl, rfl, trivial⟩ [] 0 rfl
 replace hc3 := of_decide_eq_false hc3
 refine GC.exit (GE.pass (GE.pass (GE.hit (GE.then_ (GC.seq (GC.region ?_))))))
 refine G.stepD (OD.move rfl rfl) rfl rfl rfl ?_
 refine G.stepD (OD.assign rfl rfl) rfl rfl rfl ?_
 refine G.nil (GE.then_ (GC.ret ?_))
 exact GE.body [] 0 (res1 rfl rfl) rfl (⟨v1, rfl, hs2, congrArg (fun (l0 : List Int) => ints 3 v1 l0 :: own) ((by rw [hy, show i = y.length by omega]; rfl : ys = lpF x k y))⟩)
end Go.Proofs.YtgelkakjmbiibaaGreatDoor
