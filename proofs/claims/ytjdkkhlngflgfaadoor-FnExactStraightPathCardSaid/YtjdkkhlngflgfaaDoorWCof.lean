/-
  CartanOf, by both texts.
-/
import Derived.Test.YtjdkkhlngflgfaaDoorFct
import Derived.Test.YtjdkkhlngflgfaaDoorWOne
namespace Go.Proofs.YtjdkkhlngflgfaaDoor
set_option linter.unusedVariables false
set_option linter.unusedSimpArgs false
open Go.RowKit



set_option maxRecDepth 100000 in
theorem cartanOf_w {W : World} {own : List Asn} {s : ByteArray}   (hg : Ent own fun w => ∃ m, w.cell? ⟨Tryd.l146_ren.g 1, 0, none⟩ = some (.int .i64 m)) (hs : s.size ≤ 1048576) : Spec Tryd.prog 38 [.string (s)] W own (fun v ow => ∃ (r1 : Value), v = .tuple #[.agg #[.int .i64 (cR s), r1], .bool ((cF s).isSome)] ∧ IsS r1 ∧ ow = ints 3 r1 (cD s) :: own) := by
 have hps := plusSplit_le s
 refine Spec.enter Tryd.f38 _ Tryd.func38 rfl (n := 42) rfl rfl ?_
 refine GC.seq (GC.region ?_)
 refine G.step (OG.alloc rfl ti28 (zs := [.int .i64 (0), .slice none 0 0]) rfl) rfl rfl rfl ?_
 rintro _ _ ⟨g1, rfl, rfl⟩
 refine G.stepD (OD.assign rfl rfl) rfl rfl rfl ?_
 refine G.nil (GE.then_ (GC.seq (GC.region ?_)))
 refine G.stepD (OD.move rfl rfl) rfl rfl rfl ?_
 refine G.step (OG.call [.string (s), .string (⟨#[43]⟩)] ent46 rfl rfl rfl rfl (by exact (split_w _ ((Ent.drop 1 hg)) (by omega)))) rfl rfl rfl ?_
 rintro v2 _ ⟨_, rfl, hs3, rfl⟩
 refine G.stepD (OD.assign rfl rfl) rfl rfl rfl ?_
 refine G.nil (GE.then_ (GC.seq (GC.region ?_)))
 refine G.step (OG.buildRws0 rfl et73) rfl rfl rfl ?_
 rintro v4 _ ⟨hs5, rfl⟩
 refine G.stepD (OD.assign rfl rfl) rfl rfl rfl ?_
 refine G.nil (GE.then_ (GC.seq (GC.region ?_)))
 refine G.stepD (OD.assign rfl rfl) rfl rfl rfl ?_
 refine G.nil (GE.then_ (GC.seq (GC.seq (GC.region ?_))))
 refine G.stepD (OD.move rfl rfl) rfl rfl rfl ?_
 refine G.stepD (OD.len rfl rfl et43 rfl (Ent.strs (i := 1) rfl)) rfl rfl rfl ?_
 refine G.stepD (OD.move rfl rfl) rfl rfl rfl ?_
 refine G.nil (GE.then_ (GC.block ?_))
 refine GC.many0 (ints 3) ?_
 refine GC.loop (ι := Nat × List Nat × List Value × Value × Int) (fun ⟨i, ks, vs, bv, r⟩ => [(2, .pointer (some ⟨g1, 0, none⟩)), (14, v2), (15, .int .i64 (((plusSplit s).length : Nat))), (5, bv), (6, .int .i64 (r)), (16, .int .i64 ((i : Int)))]) (fun ⟨i, ks, vs, bv, r⟩ => many (ints 3) vs (ks.map oneD) :: rws 28 2 bv (rowC ks vs) :: strs 9 v2 (plusSplit s) :: box g1 28 [.int .i64 (0), .slice none 0 0] :: own) (fun ⟨i, ks, vs, bv, r⟩ => (i ≤ (plusSplit s).length) ∧ (Cut s i ks) ∧ (ks.length = i) ∧ (vs.length = ks.length) ∧ (AllS vs) ∧ (IsS bv) ∧ (r = (rkS ks : Nat))) (fun ⟨i, ks, vs, bv, r⟩ => (plusSplit s).length - i) (0, [], [], v4, 0) (⟨by omega, rfl, rfl, rfl, AllS.nil, hs5, rfl⟩) ⟨rfl, rfl, rfl, rfl, rfl, rfl, trivial⟩ [] 0 rfl ?_
 rintro ⟨i, ks, vs, bv, r⟩ ⟨hi, hc, hki, hlen, hall, hbv, hr⟩
 refine GC.seq (GC.region ?_)
 refine G.stepD (OD.lss rfl rfl rfl) rfl rfl rfl ?_
 refine G.nil (GE.then_ (GC.seq ?_))
 refine GC.cond rfl (fun hc6 => ?_) (fun hc6 => ?_)
 replace hc6 := of_decide_eq_true hc6
 have hle4 := rkS_le hc.lt
 refine GC.skip (GE.then_ (GC.seq (GC.block (GC.seq (GC.region ?_)))))
 refine G.stepD (OD.indexAddr rfl et43 rfl (Ent.strs (i := 2) rfl) rfl (by omega)) rfl rfl rfl ?_
 refine G.stepD (OD.loadStr rfl ti9 rfl (Ent.strs (i := 2) rfl) (by omega)) rfl rfl rfl ?_
 refine G.stepD (OD.assign rfl rfl) rfl rfl rfl ?_
 refine G.nil (GE.then_ (GC.seq (GC.region ?_)))
 refine G.stepD (OD.move rfl rfl) rfl rfl rfl ?_
 refine G.step (OG.call [.string ((plusSplit s).getD (i) ⟨#[]⟩)] ent47 rfl rfl rfl rfl (by exact partCartan_w)) rfl rfl rfl ?_
 rintro _ _ ⟨v7, rfl, hs8, rfl⟩
 refine G.stepD (OD.move rfl rfl) rfl rfl rfl ?_
 refine G.stepD (OD.extract rfl rfl rfl) rfl rfl rfl ?_
 refine G.stepD (OD.extract rfl rfl rfl) rfl rfl rfl ?_
 refine G.step (OG.alloc rfl ti28 (zs := [.int .i64 (0), .slice none 0 0]) rfl) rfl rfl rfl ?_
 rintro _ _ ⟨g9, rfl, rfl⟩
 refine G.stepD0 (OD.store rfl ti28 rfl rfl (us := [.int .i64 (partR ((plusSplit s).getD (i) ⟨#[]⟩)), v7]) rfl rfl (allC rfl (allC (IsS.one hs8) rfl)) (i := 0) rfl rfl) rfl rfl ?_
 refine G.stepD (OD.assign rfl rfl) rfl rfl rfl ?_
 refine G.nil (GE.then_ (GC.seq (GC.seq (GC.region ?_))))
 refine G.stepD (OD.move rfl rfl) rfl rfl rfl ?_
 refine G.stepD (OD.not rfl rfl) rfl rfl rfl ?_
 refine G.nil (GE.then_ ?_)
 refine GC.cond rfl (fun hc10 => ?_) (fun hc10 => ?_)
 replace hc10 := eq_false_of_not hc10
 obtain ⟨hp1, hp2, hp3⟩ := cF_none (hc.bad (by omega) (none_of hc10))
 refine GC.seq (GC.region ?_)
 refine G.stepD (OD.build (idx := []) (xs := []) (vs := []) (cs := []) (zs := [.int .i64 (0), .slice none 0 0]) (r := [.int .i64 (0), .slice none 0 0]) rfl ti28 rfl rfl rfl trivial rfl) rfl rfl rfl ?_
 refine G.stepD0 (OD.store rfl ti28 rfl rfl (us := [.int .i64 (0), .slice none 0 0]) rfl rfl rfl (i := 5) rfl rfl) rfl rfl ?_
 refine G.stepD (OD.assign rfl rfl) rfl rfl rfl ?_
 refine G.nil (GE.then_ (GC.ret (GE.passR (GE.blockR (GE.passR (GE.passR (GE.blockR (GE.passR ?_))))))))
 refine GE.nilInts 3 ?_
 exact GE.body [0] 6 (resN rfl (RVs.cons (rv_cells ti28 rfl (i := 6) rfl rfl) (RVs.cons (rv_tmp rfl) RVs.nil)) rfl) rfl (⟨(.slice none 0 0), congr (congrArg (fun (a0 : Int) (a2 : Bool) => (.tuple #[.agg #[.int .i64 (a0), (.slice none 0 0)], .bool (a2)] : Value)) ((hp1.symm : (0 : Int) = cR s))) ((hp3.symm : (false : Bool) = (cF s).isSome)), IsS.nil, congrArg (fun (l0 : List Int) => ints 3 (.slice none 0 0) l0 :: own) ((hp2.symm : [] = cD s))⟩)
 replace hc10 := eq_true_of_not hc10
 obtain ⟨k, hk⟩ := some_of hc10
 obtain ⟨hk12, hse⟩ := nameNo_some hk
 have hrk := rk_bd k hk12
 have hpR : partR ((plusSplit s).getD (i) ⟨#[]⟩) = (rk k : Nat) := by simp only [partR, hk]
 have hpD : partD ((plusSplit s).getD (i) ⟨#[]⟩) = oneD k := by simp only [partD, hk]
 have hrl := rowC_len hlen
 refine GC.skip (GE.then_ (GC.seq (GC.region ?_)))
 refine G.stepD (OD.move rfl rfl) rfl rfl rfl ?_
 refine G.stepD (OD.fieldAddr rfl rfl fa28_0) rfl rfl rfl ?_
 refine G.stepD (OD.load rfl ti3 rfl (i := 0) rfl rfl) rfl rfl rfl ?_
 refine G.stepD (OD.addI rfl rfl rfl (by omega)) rfl rfl rfl ?_
 refine G.stepD (OD.assign rfl rfl) rfl rfl rfl ?_
 refine G.nil (GE.then_ (GC.region ?_))
 refine G.stepD (OD.move rfl rfl) rfl rfl rfl ?_
 refine G.stepD (OD.loadAgg rfl ti28 rfl (i := 0) rfl (us := [.int .i64 (partR ((plusSplit s).getD (i) ⟨#[]⟩)), v7]) rfl rfl) rfl rfl rfl ?_
 refine G.step (OG.buildRws rfl et73 (us := [.int .i64 (partR ((plusSplit s).getD (i) ⟨#[]⟩)), v7]) rfl rfl rfl rfl) rfl rfl rfl ?_
 rintro v11 _ ⟨hs12, rfl⟩
 refine G.step (OG.appendRws 4 rfl rfl et73 rfl rfl rfl (Ent.rws (i := 0) rfl) (allC rfl (allC (IsS.one hs8) rfl)) (by simp [maxLen] <;> omega)) rfl rfl rfl ?_
 rintro v13 _ ⟨hs14, rfl⟩
 refine G.stepD (OD.assign rfl rfl) rfl rfl rfl ?_
 refine G.nil (GE.blockN (GE.then_ (GC.region ?_)))
 refine G.stepD (OD.addI rfl rfl rfl (by omega)) rfl rfl rfl ?_
 refine G.stepD (OD.move rfl rfl) rfl rfl rfl ?_
 refine G.nil ?_
 refine GE.at [2, 2, 2, 1, 1, 1] 1 (env' := [(2, .pointer (some ⟨g1, 0, none⟩)), (14, v2), (15, .int .i64 (((plusSplit s).length : Nat))), (17, .bool (decide ((i : Int) < ((plusSplit s).length : Nat)))), (18, elemPtr v2 1 (i)), (19, .string ((plusSplit s).getD (i) ⟨#[]⟩)), (8, .string ((plusSplit s).getD (i) ⟨#[]⟩)), (21, .string ((plusSplit s).getD (i) ⟨#[]⟩)), (22, .tuple #[.agg #[.int .i64 (partR ((plusSplit s).getD (i) ⟨#[]⟩)), v7], .bool ((nameNo ((plusSplit s).getD (i) ⟨#[]⟩)).isSome)]), (20, .tuple #[.agg #[.int .i64 (partR ((plusSplit s).getD (i) ⟨#[]⟩)), v7], .bool ((nameNo ((plusSplit s).getD (i) ⟨#[]⟩)).isSome)]), (23, .agg #[.int .i64 (partR ((plusSplit s).getD (i) ⟨#[]⟩)), v7]), (24, .bool ((nameNo ((plusSplit s).getD (i) ⟨#[]⟩)).isSome)), (9, .pointer (some ⟨g9, 0, none⟩)), (10, .bool ((nameNo ((plusSplit s).getD (i) ⟨#[]⟩)).isSome)), (25, .bool ((nameNo ((plusSplit s).getD (i) ⟨#[]⟩)).isSome)), (26, .bool (!((nameNo ((plusSplit s).getD (i) ⟨#[]⟩)).isSome))), (28, .int .i64 (r)), (29, .pointer (some ⟨g9, 0, none⟩)), (30, .int .i64 (partR ((plusSplit s).getD (i) ⟨#[]⟩))), (31, .int .i64 (r + (partR ((plusSplit s).getD (i) ⟨#[]⟩)))), (6, .int .i64 (r + (partR ((plusSplit s).getD (i) ⟨#[]⟩)))), (32, bv), (33, .agg #[.int .i64 (partR ((plusSplit s).getD (i) ⟨#[]⟩)), v7]), (34, v11), (35, v13), (5, v13), (36, .int .i64 ((i : Int) + 1)), (16, .int .i64 ((i : Int) + 1))]) ⟨rfl, rfl, rfl, rfl, rfl, rfl, rfl, rfl, rfl, rfl, rfl, rfl, rfl, rfl, rfl, rfl, rfl, rfl, rfl, rfl, rfl, rfl, rfl, rfl, rfl, rfl, rfl, rfl, trivial⟩ (own' := ints 3 v7 (partD ((plusSplit s).getD (i) ⟨#[]⟩)) :: many (ints 3) vs (ks.map oneD) :: rws 28 2 v13 ((rowC ks vs) ++ [[.int .i64 (partR ((plusSplit s).getD (i) ⟨#[]⟩)), v7]]) :: box g9 28 [.int .i64 (partR ((plusSplit s).getD (i) ⟨#[]⟩)), v7] :: strs 9 v2 (plusSplit s) :: box g1 28 [.int .i64 (0), .slice none 0 0] :: own) rfl ?_
 refine GE.manyPush (by simp [hlen]) ?_
 refine GE.ownEq (own' := many (ints 3) (vs ++ [v7]) ((ks ++ [k]).map oneD) :: rws 28 2 v13 (rowC (ks ++ [k]) (vs ++ [v7])) :: box g9 28 [.int .i64 (partR ((plusSplit s).getD (i) ⟨#[]⟩)), v7] :: strs 9 v2 (plusSplit s) :: box g1 28 [.int .i64 (0), .slice none 0 0] :: own) (by rw [rowC_snoc hlen hpR, hpD, List.map_append]; rfl) ?_
 exact GE.again (i + 1, ks ++ [k], vs ++ [v7], v13, r + (partR ((plusSplit s).getD (i) ⟨#[]⟩))) (⟨by omega, hc.next (by omega) hk, by simp [hki], by simp [hlen], hall.snoc hs8, hs14, by rw [rkS_snoc, hr, hpR]; simp⟩) (by first | omega | (dsimp only; omega)) ⟨rfl, rfl, rfl, rfl, rfl, rfl, trivial⟩ [0, 0, 1, 1] 1 rfl
 replace hc6 := of_decide_eq_false hc6
 have hst := hc.stop (by omega)
 refine GC.exit (GE.pass (GE.pass (GE.hit (GE.then_ (GC.seq (GC.seq (GC.region ?_)))))))
 refine G.stepD (OD.move rfl rfl) rfl rfl rfl ?_
 refine G.stepD (OD.gtr rfl rfl rfl) rfl rfl rfl ?_
 refine G.nil (GE.then_ ?_)
 refine GC.cond rfl (fun hc15 => ?_) (fun hc15 => ?_)
 replace hc15 := of_decide_eq_true hc15
 obtain ⟨hp1, hp2, hp3⟩ := cF_none (hst.trans (if_pos (by omega)))
 refine GC.seq (GC.region ?_)
 refine G.stepD (OD.build (idx := []) (xs := []) (vs := []) (cs := []) (zs := [.int .i64 (0), .slice none 0 0]) (r := [.int .i64 (0), .slice none 0 0]) rfl ti28 rfl rfl rfl trivial rfl) rfl rfl rfl ?_
 refine G.stepD0 (OD.store rfl ti28 rfl rfl (us := [.int .i64 (0), .slice none 0 0]) rfl rfl rfl (i := 3) rfl rfl) rfl rfl ?_
 refine G.stepD (OD.assign rfl rfl) rfl rfl rfl ?_
 refine G.nil (GE.then_ (GC.ret (GE.passR ?_)))
 refine GE.nilInts 3 ?_
 exact GE.body [0] 4 (resN rfl (RVs.cons (rv_cells ti28 rfl (i := 4) rfl rfl) (RVs.cons (rv_tmp rfl) RVs.nil)) rfl) rfl (⟨(.slice none 0 0), congr (congrArg (fun (a0 : Int) (a2 : Bool) => (.tuple #[.agg #[.int .i64 (a0), (.slice none 0 0)], .bool (a2)] : Value)) ((hp1.symm : (0 : Int) = cR s))) ((hp3.symm : (false : Bool) = (cF s).isSome)), IsS.nil, congrArg (fun (l0 : List Int) => ints 3 (.slice none 0 0) l0 :: own) ((hp2.symm : [] = cD s))⟩)
 replace hc15 := of_decide_eq_false hc15
 obtain ⟨hp1, hp2, hp3⟩ := cF_some (hst.trans (if_neg (by omega)))
 have h12 := hc.lt
 have hr4 : rkS ks ≤ 4 := by omega
 have hjm := joinD_mat h12 hr4
 have hge := rkS_ge h12
 refine GC.skip (GE.then_ (GC.seq (GC.region ?_)))
 refine G.stepD (OD.move rfl rfl) rfl rfl rfl ?_
 refine G.step (OG.call [bv] ent48 rfl rfl rfl rfl (by exact (joined_w hbv (Ent.rws (i := 1) rfl) (fun k hk => by have h := Ent.manyInts (own := many (ints 3) vs (ks.map oneD) :: rws 28 2 bv (rowC ks vs) :: strs 9 v2 (plusSplit s) :: box g1 28 [.int .i64 (0), .slice none 0 0] :: own) (i := 0) (k := k) rfl ⟨by omega, by simpa using hk⟩; simpa [List.getD, hk] using h) hlen hall (h12) (hr4) (by omega)))) rfl rfl rfl ?_
 rintro _ _ ⟨v16, rfl, hs17, rfl⟩
 refine G.stepD0 (OD.store rfl ti28 rfl rfl (us := [.int .i64 ((rkS ks : Nat)), v16]) rfl rfl (allC rfl (allC (IsS.one hs17) rfl)) (i := 4) rfl rfl) rfl rfl ?_
 refine G.stepD (OD.assign rfl rfl) rfl rfl rfl ?_
 refine G.nil (GE.then_ (GC.ret ?_))
 exact GE.body [0] 4 (resN rfl (RVs.cons (rv_cells ti28 rfl (i := 4) rfl rfl) (RVs.cons (rv_tmp rfl) RVs.nil)) rfl) rfl (⟨v16, congr (congrArg (fun (a0 : Int) (a2 : Bool) => (.tuple #[.agg #[.int .i64 (a0), v16], .bool (a2)] : Value)) ((hp1.symm : ((rkS ks : Nat) : Int) = cR s))) ((hp3.symm : (true : Bool) = (cF s).isSome)), hs17, congrArg (fun (l0 : List Int) => ints 3 v16 l0 :: own) ((hjm.trans hp2.symm : joinD ks = cD s))⟩)

end Go.Proofs.YtjdkkhlngflgfaaDoor
