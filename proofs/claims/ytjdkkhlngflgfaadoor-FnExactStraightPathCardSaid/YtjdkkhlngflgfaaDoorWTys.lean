/-
  The types of a rank; what the second text tells of a matrix: contracts by walks.
-/
import Derived.Test.YtjdkkhlngflgfaaDoorFct
import Derived.Test.YtjdkkhlngflgfaaDoorWPts
import Derived.Test.YtjdkkhlngflgfaaDoorCarS
namespace Go.Proofs.YtjdkkhlngflgfaaDoor
set_option linter.unusedVariables false
set_option linter.unusedSimpArgs false
open Go.RowKit



set_option maxRecDepth 100000 in
theorem specIsCartan_w {W : World} {own : List Asn} {cr : Int} {vcd : Value} {cd : List Int}  (scd : IsS vcd) (ecd : Ent own fun w => Ints w vcd cd)  (hl0 : cd.length ≤ 1073741824) : Spec Tryd.prog 17 [.agg #[.int .i64 (cr), vcd]] W own (fun v ow => v = .bool ((tyS cr cd).isSome) ∧ ow = own) := by
 refine Spec.enter Tryd.f17 _ Tryd.func17 rfl (n := 11) rfl rfl ?_
 refine GC.seq (GC.region ?_)
 refine G.step (OG.box (cs := [.int .i64 (cr), vcd]) rfl rfl rfl) rfl rfl rfl ?_
 rintro _ _ ⟨g1, rfl, rfl⟩
 refine G.stepD (OD.assign rfl rfl) rfl rfl rfl ?_
 refine G.nil (GE.then_ (GC.seq (GC.region ?_)))
 refine G.stepD (OD.loadAgg rfl ti28 rfl (i := 0) rfl (us := [.int .i64 (cr), vcd]) rfl rfl) rfl rfl rfl ?_
 refine G.step (OG.call [.agg #[.int .i64 (cr), vcd]] ent25 rfl rfl rfl rfl (by exact (l5Parts_w scd (Ent.drop 1 ecd) (by omega)))) rfl rfl rfl ?_
 rintro _ _ ⟨v2, rfl, hs3, rfl⟩
 refine G.stepD (OD.move rfl rfl) rfl rfl rfl ?_
 refine G.stepD (OD.extract rfl rfl rfl) rfl rfl rfl ?_
 refine G.stepD (OD.extract rfl rfl rfl) rfl rfl rfl ?_
 refine G.stepD (OD.assign rfl rfl) rfl rfl rfl ?_
 refine G.stepD (OD.assign rfl rfl) rfl rfl rfl ?_
 refine G.nil (GE.then_ (GC.seq (GC.region ?_)))
 refine G.stepD (OD.move rfl rfl) rfl rfl rfl ?_
 refine G.stepD (OD.assign rfl rfl) rfl rfl rfl ?_
 refine G.nil (GE.then_ (GC.ret ?_))
 exact GE.body [] 2 (res1 rfl rfl) rfl (⟨rfl, rfl⟩)

set_option maxHeartbeats 4000000 in
set_option maxRecDepth 100000 in
theorem typesOf_w (f : Nat) : ∀ {W : World} {own : List Asn} {r : Int} {a : Int}   (hr : 0 ≤ r ∧ r ≤ 4) (ha : 0 ≤ a ∧ a ≤ 12) (hf : r.toNat < f) (hf5 : f ≤ 5), Spec Tryd.prog 36 [.int .i64 (r), .int .i64 (a)] W own (fun v ow => ∃ (r0 : Value) (u0 : List Value), v = r0 ∧ IsS r0 ∧ AllS u0 ∧ u0.length = ((typesF f (r : Int).toNat (a : Int).toNat).map (·.map nameB)).length ∧ ow = lst 43 r0 u0 :: many (strs 9) u0 ((typesF f (r : Int).toNat (a : Int).toNat).map (·.map nameB)) :: own) := by
 induction f with
 | zero =>
   intro W own r a hr ha hf hf5
   omega
 | succ f ih =>
  intro W own r a hr ha hf hf5
  have hn12 : nameL.length = 12 := rfl
  refine Spec.enter Tryd.f36 _ Tryd.func36 rfl (n := 52) rfl rfl ?_
  refine GC.seq (GC.region ?_)
  refine G.stepD (OD.assign rfl rfl) rfl rfl rfl ?_
  refine G.nil (GE.then_ (GC.seq (GC.seq (GC.region ?_))))
  refine G.stepD (OD.move rfl rfl) rfl rfl rfl ?_
  refine G.stepD (OD.eql rfl rfl rfl) rfl rfl rfl ?_
  refine G.nil (GE.then_ ?_)
  refine GC.cond rfl (fun hc1 => ?_) (fun hc1 => ?_)
  replace hc1 := eq_of_beq hc1
  refine GC.seq (GC.region ?_)
  refine G.step (OG.buildLst (xs := [.const (.slice none 0 0)]) (us := [.slice none 0 0]) rfl et54 rfl rfl rfl (allC rfl rfl) rfl) rfl rfl rfl ?_
  rintro v2 _ ⟨hs3, rfl⟩
  refine G.stepD (OD.assign rfl rfl) rfl rfl rfl ?_
  refine G.nil (GE.then_ (GC.ret (GE.passR ?_)))
  refine GE.many0 (strs 9) ?_
  refine GE.nilStrs 9 ?_
  refine GE.manyPush (A := strs 9) (vs := []) (xs := []) (u := .slice none 0 0) (x := []) rfl ?_
  exact GE.body [1, 0] 0 (res1 rfl rfl) rfl (⟨v2, [.slice none 0 0], rfl, hs3, (AllS.snoc AllS.nil IsS.nil), (by first | (rw [husl, hT, hp12, List.length_map, typesF_pos (by omega)]; done) | (rw [List.length_map, typesF_zero (by omega)]; rfl)), congrArg (fun (l0 : List (List ByteArray)) => lst 43 v2 [.slice none 0 0] :: many (strs 9) [.slice none 0 0] l0 :: own) ((by rw [typesF_zero (by omega)]; rfl : [[]] = (typesF (f + 1) (r : Int).toNat (a : Int).toNat).map (·.map nameB)))⟩)
  replace hc1 := ne_of_beq_false hc1
  refine GC.skip (GE.then_ (GC.seq (GC.region ?_)))
  refine G.step (OG.buildLst (xs := []) (us := []) rfl et54 rfl rfl rfl rfl rfl) rfl rfl rfl ?_
  rintro v4 _ ⟨hs5, rfl⟩
  refine G.stepD (OD.assign rfl rfl) rfl rfl rfl ?_
  refine G.nil (GE.then_ (GC.seq (GC.seq (GC.region ?_))))
  refine G.stepD (OD.move rfl rfl) rfl rfl rfl ?_
  refine G.stepD (OD.assign rfl rfl) rfl rfl rfl ?_
  refine G.nil (GE.then_ (GC.block ?_))
  refine GC.many0 (strs 9) ?_
  refine GC.loop (ι := Nat × List (List Nat) × List Value × Value) (fun ⟨p, T, us, bv⟩ => [(0, .int .i64 (r)), (5, bv), (6, .int .i64 (a + (p : Int)))]) (fun ⟨p, T, us, bv⟩ => many (strs 9) us (T.map (·.map nameB)) :: lst 43 bv us :: own) (fun ⟨p, T, us, bv⟩ => (a + p ≤ 12) ∧ (T = (List.range' a.toNat p).flatMap (tyG f r)) ∧ (AllS us) ∧ (us.length = T.length) ∧ (IsS bv) ∧ (T.length ≤ 20 * p)) (fun ⟨p, T, us, bv⟩ => 12 - p) (0, [], [], v4) (⟨by omega, rfl, AllS.nil, rfl, hs5, by simp⟩) ⟨rfl, rfl, int_eq (by omega), trivial⟩ [] 0 rfl ?_
  rintro ⟨p, T, us, bv⟩ ⟨hp, hT, hus, husl, hbv, hTl⟩
  refine GC.seq (GC.seq (GC.region ?_))
  refine G.stepD (OD.move rfl rfl) rfl rfl rfl ?_
  refine G.step (OG.call [] ent42 rfl rfl rfl rfl (by exact partNames_w)) rfl rfl rfl ?_
  rintro v6 _ ⟨_, rfl, hs7, rfl⟩
  refine G.stepD (OD.len rfl rfl et43 rfl (Ent.strs (i := 0) rfl)) rfl rfl rfl ?_
  refine G.stepD (OD.lss rfl rfl rfl) rfl rfl rfl ?_
  refine G.nil (GE.then_ ?_)
  refine GC.cond rfl (fun hc8 => ?_) (fun hc8 => ?_)
  replace hc8 := of_decide_eq_true hc8
  have hr1 := rk_bd (a + (p : Int)).toNat (by omega)
  have hsz2 : (nameL.getD (a + (p : Int)).toNat ⟨#[]⟩).size = 2 := nm_sz _ (by omega)
  refine GC.skip (GE.then_ (GC.seq (GC.block (GC.seq (GC.region ?_)))))
  refine G.step (OG.call [] ent42 rfl rfl rfl rfl (by exact partNames_w)) rfl rfl rfl ?_
  rintro v9 _ ⟨_, rfl, hs10, rfl⟩
  refine G.stepD (OD.move rfl rfl) rfl rfl rfl ?_
  refine G.stepD (OD.indexAddr rfl et43 rfl (Ent.strs (i := 0) rfl) rfl (by omega)) rfl rfl rfl ?_
  refine G.stepD (OD.loadStr rfl ti9 rfl (Ent.strs (i := 0) rfl) (by omega)) rfl rfl rfl ?_
  refine G.stepD (OD.assign rfl rfl) rfl rfl rfl ?_
  refine G.nil (GE.then_ (GC.seq (GC.region ?_)))
  refine G.stepD (OD.move rfl rfl) rfl rfl rfl ?_
  refine G.stepD (OD.indexStr rfl st9 rfl rfl (by omega)) rfl rfl rfl ?_
  refine G.stepD (OD.eqv (OD.sub rfl rfl rfl) (congrArg (Value.int .u8) ((nm_rk' ⟨by omega, by omega⟩) : (IntKind.u8.wrap ((bAt (nameL.getD ((a + (p : Int) : Int).toNat) ⟨#[]⟩) 1) - 48) : Int) = ((rk (a + (p : Int)).toNat : Int))))) rfl rfl rfl ?_
  refine G.stepD (OD.convI rfl cv5_3 rfl (by omega)) rfl rfl rfl ?_
  refine G.stepD (OD.assign rfl rfl) rfl rfl rfl ?_
  refine G.nil (GE.then_ (GC.seq (GC.seq (GC.region ?_))))
  refine G.stepD (OD.move rfl rfl) rfl rfl rfl ?_
  refine G.stepD (OD.move rfl rfl) rfl rfl rfl ?_
  refine G.stepD (OD.gtr rfl rfl rfl) rfl rfl rfl ?_
  refine G.nil (GE.then_ ?_)
  refine GC.cond rfl (fun hc11 => ?_) (fun hc11 => ?_)
  replace hc11 := of_decide_eq_true hc11
  refine GC.exit (GE.pass (GE.hit (GE.then_ (GC.region ?_))))
  refine G.stepD (OD.move rfl rfl) rfl rfl rfl ?_
  refine G.stepD (OD.addI rfl rfl rfl (by omega)) rfl rfl rfl ?_
  refine G.stepD (OD.assign rfl rfl) rfl rfl rfl ?_
  refine G.nil ?_
  exact GE.again (p + 1, T, us, bv) (⟨by omega, ty_skip ha.1 hT (by omega) (by omega), hus, husl, hbv, by omega⟩) (by first | omega | (dsimp only; omega)) ⟨rfl, rfl, int_eq (by omega), trivial⟩ [2, 2] 2 rfl
  replace hc11 := of_decide_eq_false hc11
  refine GC.skip (GE.then_ (GC.seq (GC.region ?_)))
  refine G.stepD (OD.move rfl rfl) rfl rfl rfl ?_
  refine G.stepD (OD.move rfl rfl) rfl rfl rfl ?_
  refine G.stepD (OD.subI rfl rfl rfl (by omega)) rfl rfl rfl ?_
  refine G.stepD (OD.move rfl rfl) rfl rfl rfl ?_
  refine G.step (OG.call [.int .i64 (r - (rk (a + (p : Int)).toNat : Int)), .int .i64 (a + (p : Int))] ent36 rfl rfl rfl rfl (by exact (ih (⟨by omega, by omega⟩) (⟨by omega, by omega⟩) (by omega) (by omega)))) rfl rfl rfl ?_
  rintro v12 _ ⟨_, u13, rfl, hs14, hs15, hs16, rfl⟩
  refine G.stepD (OD.len rfl rfl et54 rfl (Ent.lst (i := 0) rfl)) rfl rfl rfl ?_
  refine G.stepD (OD.move rfl rfl) rfl rfl rfl ?_
  refine G.nil (GE.then_ (GC.block ?_))
  have hsl : u13.length = (typesF f (r - (rk (a + (p : Int)).toNat : Int)).toNat (a + (p : Int)).toNat).length := by have := hs16; simpa using this
  have hDl := typesF_len f (by omega) (r - (rk (a + (p : Int)).toNat : Int)).toNat (by omega) (a + (p : Int)).toNat (by omega)
  refine GC.loop (ι := Nat × List (List Nat) × List Value × Value) (fun ⟨j, T2, ut, bw⟩ => [(0, .int .i64 (r)), (6, .int .i64 (a + (p : Int))), (7, .string (nameL.getD ((a + (p : Int) : Int).toNat) ⟨#[]⟩)), (37, v12), (38, .int .i64 ((u13.length : Nat))), (5, bw), (39, .int .i64 ((j : Int)))]) (fun ⟨j, T2, ut, bw⟩ => lst 43 v12 u13 :: many (strs 9) u13 ((typesF f (r - (rk (a + (p : Int)).toNat : Int) : Int).toNat (a + (p : Int) : Int).toNat).map (·.map nameB)) :: many (strs 9) ut (T2.map (·.map nameB)) :: lst 43 bw ut :: own) (fun ⟨j, T2, ut, bw⟩ => (j ≤ (typesF f (r - (rk (a + (p : Int)).toNat : Int)).toNat (a + (p : Int)).toNat).length) ∧ (T2 = T ++ ((typesF f (r - (rk (a + (p : Int)).toNat : Int)).toNat (a + (p : Int)).toNat).take j).map ((a + (p : Int)).toNat :: ·)) ∧ (AllS ut) ∧ (ut.length = T2.length) ∧ (IsS bw) ∧ (T2.length ≤ 20 * p + j)) (fun ⟨j, T2, ut, bw⟩ => (typesF f (r - (rk (a + (p : Int)).toNat : Int)).toNat (a + (p : Int)).toNat).length - j) (0, T, us, bv) (⟨by omega, by simp, hus, husl, hbv, by omega⟩) ⟨rfl, rfl, rfl, rfl, rfl, rfl, rfl, trivial⟩ [0, 0, 2, 2] 2 rfl ?_
  rintro ⟨j, T2, ut, bw⟩ ⟨hj, hT2, hut, hutl, hbw, hT2l⟩
  refine GC.seq (GC.region ?_)
  refine G.stepD (OD.lss rfl rfl rfl) rfl rfl rfl ?_
  refine G.nil (GE.then_ (GC.seq ?_))
  refine GC.cond rfl (fun hc17 => ?_) (fun hc17 => ?_)
  replace hc17 := of_decide_eq_true hc17
  have hel := typesF_el f (by omega) (r - (rk (a + (p : Int)).toNat : Int)).toNat (by omega) (a + (p : Int)).toNat (by omega) j
  have hel2 := typesF_el f (by omega) (r - (rk (a + (p : Int)).toNat : Int)).toNat (by omega) (a + (p : Int)).toNat (by omega) (j : Int).toNat
  refine GC.skip (GE.then_ (GC.seq (GC.block (GC.seq (GC.region ?_)))))
  refine G.stepD (OD.indexAddr rfl et54 rfl (Ent.lst (i := 0) rfl) rfl (by omega)) rfl rfl rfl ?_
  refine G.stepD (OD.loadElem rfl ti43 rfl (Ent.lst (i := 0) rfl) (by omega) rfl) rfl rfl rfl ?_
  refine G.stepD (OD.assign rfl rfl) rfl rfl rfl ?_
  refine G.nil (GE.then_ (GC.region ?_))
  refine G.stepD (OD.move rfl rfl) rfl rfl rfl ?_
  refine G.stepD (OD.move rfl rfl) rfl rfl rfl ?_
  refine G.step (OG.buildStrs (os := [.tmp 44]) (xs := [nameL.getD ((a + (p : Int) : Int).toNat) ⟨#[]⟩]) rfl et43 rfl rfl rfl rfl rfl) rfl rfl rfl ?_
  rintro v18 _ ⟨hs19, rfl⟩
  refine G.stepD (OD.move rfl rfl) rfl rfl rfl ?_
  refine G.step (OG.appendStrs 0 rfl rfl et43 rfl rfl rfl (Ent.manyStrs (i := 2) rfl ⟨by first | omega | (simp; omega), by first | omega | (simp; omega)⟩) (by simp only [List.length_cons, List.length_nil, maxLen]; omega)) rfl rfl rfl ?_
  rintro v20 _ ⟨hs21, rfl⟩
  refine G.step (OG.buildLst (xs := [.tmp 47]) (us := [v20]) rfl et54 rfl rfl rfl (allC (IsS.one hs21) rfl) rfl) rfl rfl rfl ?_
  rintro v22 _ ⟨hs23, rfl⟩
  refine G.step (OG.appendLst 5 rfl rfl et54 rfl rfl rfl (Ent.lst (i := 0) rfl) (List.all_eq_true.2 fun u hu => by simpa using (AllS.snoc AllS.nil hs21).one u hu) (by simp [maxLen] <;> omega)) rfl rfl rfl ?_
  rintro v24 _ ⟨hs25, rfl⟩
  refine G.stepD (OD.assign rfl rfl) rfl rfl rfl ?_
  refine G.nil (GE.blockN (GE.then_ (GC.region ?_)))
  refine G.stepD (OD.addI rfl rfl rfl (by omega)) rfl rfl rfl ?_
  refine G.stepD (OD.move rfl rfl) rfl rfl rfl ?_
  refine G.nil ?_
  refine GE.at [1, 3, 3, 1, 1] 1 (env' := [(0, .int .i64 (r)), (6, .int .i64 (a + (p : Int))), (7, .string (nameL.getD ((a + (p : Int) : Int).toNat) ⟨#[]⟩)), (37, v12), (38, .int .i64 ((u13.length : Nat))), (40, .bool (decide ((j : Int) < (u13.length : Nat)))), (41, elemPtr v12 1 (j)), (42, (u13.getD (j) undef)), (10, (u13.getD (j) undef)), (43, bw), (44, .string (nameL.getD ((a + (p : Int) : Int).toNat) ⟨#[]⟩)), (45, v18), (46, (u13.getD (j) undef)), (47, v20), (48, v22), (49, v24), (5, v24), (50, .int .i64 ((j : Int) + 1)), (39, .int .i64 ((j : Int) + 1))]) ⟨rfl, rfl, rfl, rfl, rfl, rfl, rfl, rfl, rfl, rfl, rfl, rfl, rfl, rfl, rfl, rfl, rfl, rfl, rfl, trivial⟩ (own' := strs 9 v20 (([nameL.getD ((a + (p : Int) : Int).toNat) ⟨#[]⟩]) ++ (((typesF f (r - (rk (a + (p : Int)).toNat : Int) : Int).toNat (a + (p : Int) : Int).toNat).map (·.map nameB)).getD (j) [])) :: many (strs 9) ut (T2.map (·.map nameB)) :: lst 43 v24 (ut ++ [v20]) :: lst 43 v12 u13 :: many (strs 9) u13 ((typesF f (r - (rk (a + (p : Int)).toNat : Int) : Int).toNat (a + (p : Int) : Int).toNat).map (·.map nameB)) :: own) rfl ?_
  refine GE.manyPush (by simp [hutl]) ?_
  refine GE.ownEq (own' := many (strs 9) (ut ++ [v20]) ((T2 ++ [(a + (p : Int)).toNat :: (typesF f (r - (rk (a + (p : Int)).toNat : Int)).toNat (a + (p : Int)).toNat).getD j []]).map (·.map nameB)) :: lst 43 v24 (ut ++ [v20]) :: lst 43 v12 u13 :: many (strs 9) u13 ((typesF f (r - (rk (a + (p : Int)).toNat : Int) : Int).toNat (a + (p : Int) : Int).toNat).map (·.map nameB)) :: own) (by rw [ty_push (by omega)]) ?_
  exact GE.again (j + 1, T2 ++ [(a + (p : Int)).toNat :: (typesF f (r - (rk (a + (p : Int)).toNat : Int)).toNat (a + (p : Int)).toNat).getD j []], ut ++ [v20], v24) (⟨by omega, ty_take hT2 (by omega), (hut.snoc hs21), by simp [hutl], hs25, by simp; omega⟩) (by first | omega | (dsimp only; omega)) ⟨rfl, rfl, rfl, rfl, rfl, rfl, rfl, trivial⟩ [2, 2, 0, 0] 0 rfl
  replace hc17 := of_decide_eq_false hc17
  refine GC.exit (GE.pass (GE.pass (GE.hit (GE.blockN (GE.then_ (GC.region ?_))))))
  refine G.stepD (OD.move rfl rfl) rfl rfl rfl ?_
  refine G.stepD (OD.addI rfl rfl rfl (by omega)) rfl rfl rfl ?_
  refine G.stepD (OD.assign rfl rfl) rfl rfl rfl ?_
  refine G.nil ?_
  exact GE.again (p + 1, T2, ut, bw) (⟨by omega, ty_add ha.1 hT (by omega) hT2 (by omega), hut, hutl, hbw, by omega⟩) (by first | omega | (dsimp only; omega)) ⟨rfl, rfl, int_eq (by omega), trivial⟩ [2, 2] 2 rfl
  replace hc8 := of_decide_eq_false hc8
  have hp12 : p = 12 - a.toNat := by omega
  refine GC.exit (GE.pass (GE.pass (GE.hit (GE.then_ (GC.seq (GC.region ?_))))))
  refine G.stepD (OD.move rfl rfl) rfl rfl rfl ?_
  refine G.stepD (OD.assign rfl rfl) rfl rfl rfl ?_
  refine G.nil (GE.then_ (GC.ret ?_))
  skip
  exact GE.body [2, 1] 1 (res1 rfl rfl) rfl (⟨bv, us, rfl, hbv, hus, (by first | (rw [husl, hT, hp12, List.length_map, typesF_pos (by omega)]; done) | (rw [List.length_map, typesF_zero (by omega)]; rfl)), congrArg (fun (l0 : List (List ByteArray)) => lst 43 bv us :: many (strs 9) us l0 :: own) ((by rw [hT, hp12, typesF_pos (by omega)] : T.map (·.map nameB) = (typesF (f + 1) (r : Int).toNat (a : Int).toNat).map (·.map nameB)))⟩)

end Go.Proofs.YtjdkkhlngflgfaaDoor
