/-
  The elements of a length: contracts by walks, and the law.
-/
import Derived.Test.YtmckgdekblphoaaGreatDoorFct
import Derived.Test.YtmckgdekblphoaaGreatDoorWWeyA
import Derived.Test.YtmckgdekblphoaaGreatDoorWClb
import Derived.Test.YtmckgdekblphoaaGreatDoorBelA
import Derived.Test.YtmckgdekblphoaaGreatDoorLvF
import Derived.Test.YtmckgdekblphoaaGreatDoorSrtC
namespace Go.Proofs.YtmckgdekblphoaaGreatDoor
set_option linter.unusedVariables false
set_option linter.unusedSimpArgs false
open Go.RowKit
set_option maxHeartbeats 4000000 in
set_option maxRecDepth 100000 in
theorem l6LevelsF_w {W : World} {own : List Asn} {cr : Int} {vcd : Value} {cd : List Int}  (scd : IsS vcd) (ecd : Ent own fun w => Ints w vcd cd)  (hcr : 1 ≤ cr ∧ cr ≤ 4) (hcd : (cd.length : Int) = cr * cr) (hty : (tyS cr cd).isSome = true) : Spec Tryz.prog 60 [.agg #[.int .i64 (cr), vcd]] W own (fun v ow => ∃ (r0 : Value) (u0 : List Value) (p0 : List (List Value × List (List Int))), v = r0 ∧ IsS r0 ∧ AllS u0 ∧ lvU cr cd u0 ∧ LevsOk cr cd p0 ∧ p0.length = u0.length ∧ ow = lst 26 r0 u0 :: many (levA 22 3) u0 p0 :: own) := by
 have hW := wlOk hty
 refine Spec.enter Tryz.f60 _ Tryz.func60 rfl (n := 25) rfl rfl ?_
 refine GC.seq (GC.region ?_)
 refine G.step (OG.box (cs := [.int .i64 (cr), vcd]) rfl rfl rfl) rfl rfl rfl ?_
 rintro _ _ ⟨g1, rfl, rfl⟩
 refine G.stepD (OD.assign rfl rfl) rfl rfl rfl ?_
 refine G.nil (GE.then_ (GC.seq (GC.region ?_)))
 refine G.stepD (OD.loadAgg rfl ti28 rfl (i := 0) rfl (us := [.int .i64 (cr), vcd]) rfl rfl) rfl rfl rfl ?_
 refine G.step (OG.call [.agg #[.int .i64 (cr), vcd]] ent95 rfl rfl rfl rfl (by exact (l6Rho_w scd (Ent.drop 1 ecd) (hcr)))) rfl rfl rfl ?_
 rintro v2 _ ⟨_, rfl, hs3, rfl⟩
 refine G.step (OG.buildLst (xs := [.tmp 6]) (us := [v2]) rfl et26 rfl rfl rfl (allC (IsS.one hs3) rfl) rfl) rfl rfl rfl ?_
 rintro v4 _ ⟨hs5, rfl⟩
 refine G.step (OG.buildLst (xs := [.tmp 7]) (us := [v4]) rfl et59 rfl rfl rfl (allC (IsS.one hs5) rfl) rfl) rfl rfl rfl ?_
 rintro v6 _ ⟨hs7, rfl⟩
 refine G.stepD (OD.assign rfl rfl) rfl rfl rfl ?_
 refine G.nil (GE.then_ (GC.block ?_))
 refine GC.many0 (ints 3) ?_
 refine GC.at [3, 0, 0, 0, 0] 0 (env' := [(0, .agg #[.int .i64 (cr), vcd]), (1, .pointer (some ⟨g1, 0, none⟩)), (2, .slice none 0 0), (5, .agg #[.int .i64 (cr), vcd]), (6, v2), (7, v4), (8, v6), (3, v6)]) ⟨rfl, rfl, rfl, rfl, rfl, rfl, rfl, rfl, trivial⟩ (own' := ints 3 v2 (ones cr 1) :: many (ints 3) [] [] :: lst 26 v6 [v4] :: lst 22 v4 [v2] :: box g1 28 [.int .i64 (cr), vcd] :: own) rfl ?_
 refine GC.manyPush (A := ints 3) (vs := []) (xs := []) rfl ?_
 refine GC.fact (slen_own (i := 2) rfl rfl) fun hsz => ?_
 refine GC.many0 (levA 22 3) ?_
 refine GC.loop (ι := Nat × Value × List Value × List Value × List (List Value × List (List Int))) (fun ⟨j, vo, uo, us, ps⟩ => [(1, .pointer (some ⟨g1, 0, none⟩)), (3, vo)]) (fun ⟨j, vo, uo, us, ps⟩ => many (levA 22 3) (uo.take j) ps :: many (ints 3) us (lvAt cr cd j) :: lst 26 vo uo :: lst 22 (uo.getD (j) undef) us :: box g1 28 [.int .i64 (cr), vcd] :: own) (fun ⟨j, vo, uo, us, ps⟩ => (∀ q, q ≤ j → lvAt cr cd q ≠ []) ∧ (uo.length = j + 1) ∧ (AllS uo) ∧ (IsS vo) ∧ (AllS us) ∧ (us.length = (lvAt cr cd j).length) ∧ (∀ q, q < j + 1 → slenV (uo.getD q undef) = (lvAt cr cd q).length) ∧ (LevsOk cr cd ps) ∧ (ps.length = j)) (fun ⟨j, vo, uo, us, ps⟩ => 25 - j) (0, v6, [v4], [v2], []) (⟨fun q hq => by rw [show q = 0 by omega, lvAt]; simp, rfl, (AllS.snoc AllS.nil hs5), hs7, (AllS.snoc AllS.nil hs3), rfl, fun q hq => by rw [show q = 0 by omega]; exact hsz, LevsOk.nil _ _, rfl⟩) ⟨rfl, rfl, trivial⟩ [] 0 rfl ?_
 rintro ⟨j, vo, uo, us, ps⟩ ⟨hne, hul, hao, hvo, has, husl, hsl, hps, hpl⟩
 have hj24 := hW.short (hne j (Nat.le_refl j))
 have hll := hW.levLen j
 refine GC.block (GC.seq ?_)
 refine GC.at [] 0 (env' := [(1, .pointer (some ⟨g1, 0, none⟩)), (3, vo)]) ⟨rfl, rfl, trivial⟩ rfl ?_
 refine GC.par (its := [⟨9, [], [], [], [], fun _ => .agg #[.int .i64 (cr), vcd], fun _ => True, fun _ => []⟩,
     ⟨10, [], [], [], [], fun _ => vo, fun _ => True, fun _ => []⟩,
     ⟨11, [], [], [], [], fun _ => vo, fun _ => True, fun _ => []⟩,
     ⟨12, [(2, 11)], [], [], [], fun _ => .int .i64 ((uo.length : Nat)), fun _ => True, fun _ => []⟩,
     ⟨13, [(3, 12)], [], [], [], fun _ => .int .i64 ((j : Int)), fun _ => True, fun _ => []⟩,
     ⟨14, [(1, 10), (4, 13)], [], [], [], fun _ => elemPtr vo 1 (j), fun _ => True, fun _ => []⟩,
     ⟨15, [(5, 14)], [], [], [], fun _ => (uo.getD (j) undef), fun _ => True, fun _ => []⟩,
     ⟨16, [(0, 9), (6, 15)], [], [], [7], fun ds => ((ds.getD 0 []).getD 0 undef), fun ds => IsS ((ds.getD 0 []).getD 0 undef) ∧ AllS (usOf ((ds.getD 0 []).getD 1 undef)) ∧ (usOf ((ds.getD 0 []).getD 1 undef)).length = (lvNext cr cd (lvAt cr cd j)).length, fun ds => [lst 22 ((ds.getD 0 []).getD 0 undef) (usOf ((ds.getD 0 []).getD 1 undef)), many (ints 3) (usOf ((ds.getD 0 []).getD 1 undef)) (lvNext cr cd (lvAt cr cd j))]⟩]) (by kernel_rfl) (by kernel_rfl) (POps.cons ?_ (POps.cons ?_ (POps.cons ?_ (POps.cons ?_ (POps.cons ?_ (POps.cons ?_ (POps.cons ?_ (POps.cons ?_ POps.nil)))))))) ?_
 intro θ R hd
 exact Opp.plain (OG.imp (OD.loadAgg rfl ti28 rfl (i := 4) rfl (us := [.int .i64 (cr), vcd]) rfl rfl) (by rintro _ _ ⟨rfl, rfl⟩; exact ⟨[], rfl, trivial, rfl⟩)) rfl
 intro θ R hd
 exact Opp.plain (OG.imp (OD.move rfl rfl) (by rintro _ _ ⟨rfl, rfl⟩; exact ⟨[], rfl, trivial, rfl⟩)) rfl
 intro θ R hd
 exact Opp.plain (OG.imp (OD.move rfl rfl) (by rintro _ _ ⟨rfl, rfl⟩; exact ⟨[], rfl, trivial, rfl⟩)) rfl
 intro θ R hd
 obtain ⟨h2d, _⟩ := hd
 exact Opp.plain (OG.imp (OD.len rfl rfl et59 rfl (Ent.lst (i := 2) rfl)) (by rintro _ _ ⟨rfl, rfl⟩; exact ⟨[], rfl, trivial, rfl⟩)) rfl
 intro θ R hd
 obtain ⟨h3d, _⟩ := hd
 exact Opp.plain (OG.imp (OD.eqv (OD.subI rfl rfl rfl (by omega)) (congrArg (Value.int .i64) ((by omega) : ((uo.length : Nat) - 1 : Int) = ((j : Int))))) (by rintro _ _ ⟨rfl, rfl⟩; exact ⟨[], rfl, trivial, rfl⟩)) rfl
 intro θ R hd
 obtain ⟨h1d, h4d, _⟩ := hd
 exact Opp.plain (OG.imp (OD.indexAddr rfl et59 rfl (Ent.lst (i := 2) rfl) rfl (by omega)) (by rintro _ _ ⟨rfl, rfl⟩; exact ⟨[], rfl, trivial, rfl⟩)) rfl
 intro θ R hd
 obtain ⟨h5d, _⟩ := hd
 exact Opp.plain (OG.imp (OD.loadElem rfl ti26 rfl (Ent.lst (i := 2) rfl) (by omega) rfl) (by rintro _ _ ⟨rfl, rfl⟩; exact ⟨[], rfl, trivial, rfl⟩)) rfl
 intro θ R hd
 obtain ⟨h0d, h6d, _⟩ := hd
 exact Opp.plain (OG.imp (OG.call [.agg #[.int .i64 (cr), vcd], (uo.getD (j) undef)] ent96 rfl rfl rfl rfl (by exact (l6Level_w scd (Ent.drop 5 ecd.app) (hao.get (by omega)) (Ent.len (Ent.lst (i := 3) rfl) (by omega)) (fun k hk => Ent.manyInts (i := 1) (k := k) rfl ⟨by omega, hk⟩) (by omega) has (hcr) (hcd) (by omega) (fun y hy => by have h1 := hW.levEnt hy; omega)))) (by rintro v8 _ ⟨_, u9, rfl, hs10, hs11, hs12, rfl⟩; exact ⟨[v8, .agg u9.toArray], rfl, ⟨hs10, hs11, hs12⟩, rfl⟩)) rfl
 intro θ hall
 obtain ⟨_, _, _, _, _, _, _, h7a, _⟩ := hall
 refine G.at [] 0 (env' := [(1, .pointer (some ⟨g1, 0, none⟩)), (3, vo), (16, ((θ 7).getD 0 undef))]) ⟨rfl, rfl, rfl, trivial⟩ (own' := lst 22 ((θ 7).getD 0 undef) (usOf ((θ 7).getD 1 undef)) :: many (ints 3) (usOf ((θ 7).getD 1 undef)) (lvNext cr cd (lvAt cr cd j)) :: many (levA 22 3) (uo.take j) ps :: many (ints 3) us (lvAt cr cd j) :: lst 26 vo uo :: lst 22 (uo.getD (j) undef) us :: box g1 28 [.int .i64 (cr), vcd] :: own) rfl ?_
 have hs13 : IsS ((θ 7).getD 0 undef) := h7a.1
 have hs14 : AllS (usOf ((θ 7).getD 1 undef)) := h7a.2.1
 have hs15 : (usOf ((θ 7).getD 1 undef)).length = (lvNext cr cd (lvAt cr cd j)).length := h7a.2.2
 clear h7a
 generalize ((θ 7).getD 0 undef) = v16 at *
 generalize (usOf ((θ 7).getD 1 undef)) = u17 at *
 show G _ _ _ [_] _ _ _ _
 refine G.stepD (OD.assign rfl rfl) rfl rfl rfl ?_
 refine G.nil (GE.then_ (GC.seq (GC.seq (GC.region ?_))))
 refine G.stepD (OD.move rfl rfl) rfl rfl rfl ?_
 refine G.stepD (OD.len rfl rfl et26 rfl (Ent.lst (i := 0) rfl)) rfl rfl rfl ?_
 refine G.stepD (OD.eql rfl rfl rfl) rfl rfl rfl ?_
 refine G.nil (GE.then_ ?_)
 refine GC.cond rfl (fun hc18 => ?_) (fun hc18 => ?_)
 replace hc18 := eq_of_beq hc18
 refine GC.seq (GC.region ?_)
 refine G.stepD (OD.move rfl rfl) rfl rfl rfl ?_
 refine G.stepD (OD.assign rfl rfl) rfl rfl rfl ?_
 refine G.nil (GE.then_ (GC.ret (GE.passR (GE.blockR (GE.passR (GE.blockR ?_))))))
 refine GE.at [5, 3, 2, 0, 0, 0, 0] 0 (env' := [(1, .pointer (some ⟨g1, 0, none⟩)), (3, vo), (16, v16), (4, v16), (17, v16), (18, .int .i64 ((u17.length : Nat))), (19, .bool (((u17.length : Nat) : Int) == 0)), (20, vo), (2, vo)]) ⟨rfl, rfl, rfl, rfl, rfl, rfl, rfl, rfl, rfl, trivial⟩ (own' := lst 22 (uo.getD (j) undef) us :: many (ints 3) us (lvAt cr cd j) :: many (levA 22 3) (uo.take j) ps :: lst 22 v16 u17 :: many (ints 3) u17 (lvNext cr cd (lvAt cr cd j)) :: lst 26 vo uo :: box g1 28 [.int .i64 (cr), vcd] :: own) rfl ?_
 refine GE.levPush (by rw [List.length_take]; omega) ?_
 refine GE.ownEq (own' := many (levA 22 3) uo (ps ++ [(us, lvAt cr cd j)]) :: lst 22 v16 u17 :: many (ints 3) u17 (lvNext cr cd (lvAt cr cd j)) :: lst 26 vo uo :: box g1 28 [.int .i64 (cr), vcd] :: own) (by rw [take_end hul]) ?_
 skip
 exact GE.body [3, 0] 3 (res1 rfl rfl) rfl (⟨vo, uo, ps ++ [(us, lvAt cr cd j)], rfl, hvo, hao, (lvU_of hul hj24 hsl hne (by omega)), (hps.snoc hpl has husl rfl), (by rw [List.length_append, hpl, hul]; rfl), rfl⟩)
 replace hc18 := ne_of_beq_false hc18
 refine GC.skip (GE.then_ (GC.region ?_))
 refine G.stepD (OD.move rfl rfl) rfl rfl rfl ?_
 refine G.stepD (OD.move rfl rfl) rfl rfl rfl ?_
 refine G.step (OG.buildLst (xs := [.tmp 22]) (us := [v16]) rfl et59 rfl rfl rfl (allC (IsS.one hs13) rfl) rfl) rfl rfl rfl ?_
 rintro v19 _ ⟨hs20, rfl⟩
 refine G.step (OG.appendLst 5 rfl rfl et59 rfl rfl rfl (Ent.lst (i := 0) rfl) (List.all_eq_true.2 fun u hu => by simpa using (AllS.snoc AllS.nil hs13).one u hu) (by simp [maxLen] <;> omega)) rfl rfl rfl ?_
 rintro v21 _ ⟨hs22, rfl⟩
 refine G.stepD (OD.assign rfl rfl) rfl rfl rfl ?_
 refine G.nil (GE.blockN ?_)
 refine GE.fact (slen_own (i := 1) rfl rfl) fun hsz => ?_
 refine GE.at [6, 4, 3, 0, 0, 0, 0, 0] 0 (env' := [(1, .pointer (some ⟨g1, 0, none⟩)), (16, v16), (4, v16), (17, v16), (18, .int .i64 ((u17.length : Nat))), (19, .bool (((u17.length : Nat) : Int) == 0)), (21, vo), (22, v16), (23, v19), (24, v21), (3, v21)]) ⟨rfl, rfl, rfl, rfl, rfl, rfl, rfl, rfl, rfl, rfl, rfl, trivial⟩ (own' := lst 22 (uo.getD (j) undef) us :: many (ints 3) us (lvAt cr cd j) :: many (levA 22 3) (uo.take j) ps :: lst 26 v19 [v16] :: lst 22 v16 u17 :: many (ints 3) u17 (lvNext cr cd (lvAt cr cd j)) :: lst 26 v21 (uo ++ [v16]) :: box g1 28 [.int .i64 (cr), vcd] :: own) rfl ?_
 refine GE.levPush (by rw [List.length_take]; omega) ?_
 refine GE.ownEq (own' := many (levA 22 3) ((uo ++ [v16]).take (j + 1)) (ps ++ [(us, lvAt cr cd j)]) :: lst 26 v19 [v16] :: lst 22 ((uo ++ [v16]).getD (j + 1) undef) u17 :: many (ints 3) u17 (lvAt cr cd (j + 1)) :: lst 26 v21 (uo ++ [v16]) :: box g1 28 [.int .i64 (cr), vcd] :: own) (by rw [getD_snoc hul, ← take_push hul]; rfl) ?_
 exact GE.again (j + 1, v21, uo ++ [v16], u17, (ps ++ [(us, lvAt cr cd j)])) (⟨lv_ne_next hne (by omega), by rw [List.length_append, hul]; rfl, (hao.snoc hs13), hs22, hs14, by show _ = (lvNext cr cd (lvAt cr cd j)).length; omega, lv_sl_next hul hsl (by omega), hps.snoc hpl has husl rfl, by rw [List.length_append, hpl]; rfl⟩) (by first | omega | (dsimp only; omega)) ⟨rfl, rfl, trivial⟩ [0, 2, 2, 1, 1] 1 rfl
set_option maxHeartbeats 4000000 in
set_option maxRecDepth 100000 in
theorem specElementsOf_w {W : World} {own : List Asn} {cr : Int} {vcd : Value} {cd : List Int} {x : Int}  (scd : IsS vcd) (ecd : Ent own fun w => Ints w vcd cd)   (hl0 : cd.length ≤ 1073741824) : Spec Tryz.prog 33 [.agg #[.int .i64 (cr), vcd], .int .i64 (x)] W own (fun v ow => ∃ (r0 : Value) (u0 : List Value), v = r0 ∧ IsS r0 ∧ AllS u0 ∧ u0.length = (elOf cr cd x).length ∧ ow = lst 22 r0 u0 :: many (ints 3) u0 (elOf cr cd x) :: own) := by
 refine Spec.enter Tryz.f33 _ Tryz.func33 rfl (n := 70) rfl rfl ?_
 refine GC.seq (GC.region ?_)
 refine G.step (OG.box (cs := [.int .i64 (cr), vcd]) rfl rfl rfl) rfl rfl rfl ?_
 rintro _ _ ⟨g1, rfl, rfl⟩
 refine G.stepD (OD.assign rfl rfl) rfl rfl rfl ?_
 refine G.nil (GE.then_ (GC.seq (GC.seq (GC.region ?_))))
 refine G.stepD (OD.loadAgg rfl ti28 rfl (i := 0) rfl (us := [.int .i64 (cr), vcd]) rfl rfl) rfl rfl rfl ?_
 refine G.step (OG.call [.agg #[.int .i64 (cr), vcd]] ent36 rfl rfl rfl rfl (by exact (specIsCartan_w scd (Ent.drop 1 ecd) (hl0)))) rfl rfl rfl ?_
 rintro _ _ ⟨rfl, rfl⟩
 refine G.stepD (OD.not rfl rfl) rfl rfl rfl ?_
 refine G.stepD (OD.move rfl rfl) rfl rfl rfl ?_
 rcases Bool.eq_false_or_eq_true (!((tyS cr cd).isSome)) with hg2 | hg2
 have hg2e := hg2
 refine G.at [] 0 (env' := [(0, .agg #[.int .i64 (cr), vcd]), (1, .int .i64 (x)), (2, .pointer (some ⟨g1, 0, none⟩)), (4, .slice none 0 0), (12, .agg #[.int .i64 (cr), vcd]), (13, .bool ((tyS cr cd).isSome)), (14, .bool true), (15, .bool true)]) (⟨rfl, rfl, rfl, rfl, rfl, rfl, (congrArg (fun b => some (Value.bool b)) hg2e), (congrArg (fun b => some (Value.bool b)) hg2e), trivial⟩) rfl ?_
 replace hg2 := eq_false_of_not hg2
 refine G.skipG rfl rfl rfl rfl rfl rfl (G.skipG rfl rfl rfl rfl rfl rfl ?_)
 refine G.stepD (OD.pickT rfl rfl rfl) rfl rfl rfl ?_
 refine G.nil (GE.then_ (GC.condT rfl (GC.seq (GC.region ?_))))
 refine G.stepD (OD.assign rfl rfl) rfl rfl rfl ?_
 refine G.nil (GE.then_ (GC.ret (GE.passR ?_)))
 skip
 refine GE.many0 (ints 3) ?_
 refine GE.nilLst 22 ?_
 exact GE.body [0, 0] 1 (res1 rfl rfl) rfl (⟨(.slice none 0 0), [], rfl, IsS.nil, AllS.nil, (by rw [elOf_no hg2]; rfl), congrArg (fun (l0 : List (List Int)) => lst 22 (.slice none 0 0) [] :: many (ints 3) [] l0 :: own) (((elOf_no hg2).symm : [] = elOf cr cd x))⟩)
 have hg2e := hg2
 refine G.at [] 0 (env' := [(0, .agg #[.int .i64 (cr), vcd]), (1, .int .i64 (x)), (2, .pointer (some ⟨g1, 0, none⟩)), (4, .slice none 0 0), (12, .agg #[.int .i64 (cr), vcd]), (13, .bool ((tyS cr cd).isSome)), (14, .bool false), (15, .bool false)]) (⟨rfl, rfl, rfl, rfl, rfl, rfl, (congrArg (fun b => some (Value.bool b)) hg2e), (congrArg (fun b => some (Value.bool b)) hg2e), trivial⟩) rfl ?_
 replace hg2 := eq_true_of_not hg2
 refine G.stepGD (OD.move rfl rfl) rfl rfl rfl rfl rfl ?_
 refine G.stepGD (OD.lss rfl rfl rfl) rfl rfl rfl rfl rfl ?_
 refine G.stepD (OD.pickF rfl rfl rfl) rfl rfl rfl ?_
 refine G.nil (GE.then_ ?_)
 refine GC.cond rfl (fun hc3 => ?_) (fun hc3 => ?_)
 replace hc3 := of_decide_eq_true hc3
 refine GC.seq (GC.region ?_)
 refine G.stepD (OD.assign rfl rfl) rfl rfl rfl ?_
 refine G.nil (GE.then_ (GC.ret (GE.passR ?_)))
 skip
 refine GE.many0 (ints 3) ?_
 refine GE.nilLst 22 ?_
 exact GE.body [0, 0] 1 (res1 rfl rfl) rfl (⟨(.slice none 0 0), [], rfl, IsS.nil, AllS.nil, (by rw [elOf_neg (by omega)]; rfl), congrArg (fun (l0 : List (List Int)) => lst 22 (.slice none 0 0) [] :: many (ints 3) [] l0 :: own) (((elOf_neg (by omega)).symm : [] = elOf cr cd x))⟩)
 replace hc3 := of_decide_eq_false hc3
 have hS := hg2
 have hcr4 := (tyS_ok hS).1
 refine GC.skip (GE.then_ (GC.seq (GC.region ?_)))
 refine G.stepD (OD.loadAgg rfl ti28 rfl (i := 0) rfl (us := [.int .i64 (cr), vcd]) rfl rfl) rfl rfl rfl ?_
 refine G.step (OG.call [.agg #[.int .i64 (cr), vcd]] ent60 rfl rfl rfl rfl (by exact (l6LevelsF_w scd (Ent.drop 1 ecd) ((tyS_ok hS).1) ((tyS_ok hS).2) (hS)))) rfl rfl rfl ?_
 rintro v4 _ ⟨_, u5, u6, rfl, hs7, hs8, hs9, hs10, hs11, rfl⟩
 refine G.stepD (OD.assign rfl rfl) rfl rfl rfl ?_
 refine G.nil (GE.then_ (GC.seq (GC.seq (GC.region ?_))))
 refine G.stepD (OD.move rfl rfl) rfl rfl rfl ?_
 refine G.stepD (OD.move rfl rfl) rfl rfl rfl ?_
 refine G.stepD (OD.len rfl rfl et59 rfl (Ent.lst (i := 0) rfl)) rfl rfl rfl ?_
 refine G.stepD (OD.geq rfl rfl rfl) rfl rfl rfl ?_
 refine G.nil (GE.then_ ?_)
 refine GC.cond rfl (fun hc12 => ?_) (fun hc12 => ?_)
 replace hc12 := of_decide_eq_true hc12
 refine GC.seq (GC.region ?_)
 refine G.step (OG.buildLst (xs := []) (us := []) rfl et26 rfl rfl rfl rfl rfl) rfl rfl rfl ?_
 rintro v13 _ ⟨hs14, rfl⟩
 refine G.stepD (OD.assign rfl rfl) rfl rfl rfl ?_
 refine G.nil (GE.then_ (GC.ret (GE.passR ?_)))
 refine GE.many0 (ints 3) ?_
 skip
 exact GE.body [1, 0] 3 (res1 rfl rfl) rfl (⟨v13, [], rfl, hs14, AllS.nil, (by first | (rw [← hfin, List.length_reverse]; omega) | (rw [elOf_end hS (show lvU cr cd _ from by assumption).1 (by omega)]; rfl)), congrArg (fun (l0 : List (List Int)) => lst 22 v13 [] :: many (ints 3) [] l0 :: own) (((elOf_end hS (show lvU cr cd _ from by assumption).1 (by omega)).symm : [] = elOf cr cd x))⟩)
 replace hc12 := of_decide_eq_false hc12
 refine GC.skip (GE.then_ (GC.seq ?_))
 refine GC.at [1, 0, 0] 0 (env' := [(0, .agg #[.int .i64 (cr), vcd]), (1, .int .i64 (x)), (2, .pointer (some ⟨g1, 0, none⟩)), (4, .slice none 0 0), (12, .agg #[.int .i64 (cr), vcd]), (13, .bool ((tyS cr cd).isSome)), (14, .bool false), (15, .bool false), (16, .int .i64 (x)), (17, .bool (decide (x < 0))), (18, .bool (decide (x < 0))), (19, .agg #[.int .i64 (cr), vcd]), (20, v4), (5, v4), (21, .int .i64 (x)), (22, v4), (23, .int .i64 ((u5.length : Nat))), (24, .bool (decide ((u5.length : Nat) ≤ x)))]) ⟨rfl, rfl, rfl, rfl, rfl, rfl, rfl, rfl, rfl, rfl, rfl, rfl, rfl, rfl, rfl, rfl, rfl, rfl, trivial⟩ (own' := many (levA 22 3) u5 u6 :: lst 26 v4 u5 :: box g1 28 [.int .i64 (cr), vcd] :: own) rfl ?_
 refine GC.levTake ((x : Int).toNat) ⟨by omega, by omega⟩ ?_
 obtain ⟨hka, hkl, hkx⟩ := (show LevsOk cr cd u6 from by assumption) ((x : Int).toNat) (by omega)
 refine GC.ownEq (own' := lst 22 (u5.getD ((x : Int).toNat) undef) ((levD u6 ((x : Int).toNat)).1) :: many (ints 3) ((levD u6 ((x : Int).toNat)).1) (lvAt cr cd ((x : Int).toNat)) :: lst 26 v4 u5 :: box g1 28 [.int .i64 (cr), vcd] :: own) (by rw [hkx]) ?_
 rw [hkx] at hkl
 have hlvl := (wlOk hS).levLen ((x : Int).toNat)
 refine GC.region ?_
 refine G.step (OG.buildLst (xs := []) (us := []) rfl et26 rfl rfl rfl rfl rfl) rfl rfl rfl ?_
 rintro v15 _ ⟨hs16, rfl⟩
 refine G.stepD (OD.assign rfl rfl) rfl rfl rfl ?_
 refine G.nil (GE.then_ (GC.seq (GC.seq (GC.region ?_))))
 refine G.stepD (OD.assign rfl rfl) rfl rfl rfl ?_
 refine G.nil (GE.then_ (GC.block ?_))
 refine GC.many0 (ints 3) ?_
 refine GC.loop (ι := Nat × List (List Int) × List Value × Value) (fun ⟨k, qs, uu, w⟩ => [(1, .int .i64 (x)), (2, .pointer (some ⟨g1, 0, none⟩)), (5, v4), (6, w), (7, .int .i64 ((k : Int)))]) (fun ⟨k, qs, uu, w⟩ => many (ints 3) uu qs :: lst 22 w uu :: lst 22 (u5.getD ((x : Int).toNat) undef) ((levD u6 ((x : Int).toNat)).1) :: many (ints 3) ((levD u6 ((x : Int).toNat)).1) (lvAt cr cd ((x : Int).toNat)) :: lst 26 v4 u5 :: box g1 28 [.int .i64 (cr), vcd] :: own) (fun ⟨k, qs, uu, w⟩ => (k ≤ (lvAt cr cd ((x : Int).toNat)).length) ∧ (qs = elIns cr cd ((lvAt cr cd ((x : Int).toNat)).take k)) ∧ (uu.length = qs.length) ∧ (AllS uu) ∧ (IsS w)) (fun ⟨k, qs, uu, w⟩ => (lvAt cr cd ((x : Int).toNat)).length - k) (0, [], [], v15) (⟨by omega, rfl, rfl, AllS.nil, hs16⟩) ⟨rfl, rfl, rfl, rfl, rfl, trivial⟩ [] 0 rfl ?_
 rintro ⟨k, qs, uu, w⟩ ⟨hk, hqs, hqlen, hqa, hw⟩
 have hql : qs.length = k := by rw [hqs, elIns, srt_len, List.length_map, List.length_take]; omega
 have hqe : ∀ j, j < qs.length → (qs.getD j []).length ≤ 16001 := fun j hj => by have h1 := getD_mem hj; rw [hqs] at h1 ⊢; exact elIns_ent h1
 have hqd : Desc qs := by rw [hqs]; exact elIns_desc hS _ _
 refine GC.seq (GC.seq (GC.region ?_))
 refine G.stepD (OD.move rfl rfl) rfl rfl rfl ?_
 refine G.stepD (OD.move rfl rfl) rfl rfl rfl ?_
 refine G.stepD (OD.move rfl rfl) rfl rfl rfl ?_
 refine G.stepD (OD.indexAddr rfl et59 rfl (Ent.lst (i := 4) rfl) rfl (by omega)) rfl rfl rfl ?_
 refine G.stepD (OD.loadElem rfl ti26 rfl (Ent.lst (i := 4) rfl) (by omega) rfl) rfl rfl rfl ?_
 refine G.stepD (OD.len rfl rfl et26 rfl (Ent.lst (i := 2) rfl)) rfl rfl rfl ?_
 refine G.stepD (OD.lss rfl rfl rfl) rfl rfl rfl ?_
 refine G.nil (GE.then_ ?_)
 refine GC.cond rfl (fun hc17 => ?_) (fun hc17 => ?_)
 replace hc17 := of_decide_eq_true hc17
 have hkm := getD_mem (L := (lvAt cr cd ((x : Int).toNat))) (k := k) (by omega)
 have hrc := (((wlOk hS).lev _).2 _).1 hkm
 have hbd := hrc.1.bd (wlOk hS) (phOk hS)
 obtain ⟨hn1, hn2⟩ := el_new hS (L := (x : Int).toNat) (k := k) (by omega)
 have hnk : (nwF cr cd ((lvAt cr cd ((x : Int).toNat)).getD k [])).length ≤ 16001 := nwF_len _ _ _
 refine GC.skip (GE.then_ (GC.seq (GC.block (GC.seq ?_))))
 refine GC.at [] 0 (env' := [(1, .int .i64 (x)), (2, .pointer (some ⟨g1, 0, none⟩)), (5, v4), (6, w), (7, .int .i64 ((k : Int)))]) ⟨rfl, rfl, rfl, rfl, rfl, trivial⟩ rfl ?_
 refine GC.late (σ := [0, 1, 2, 3, 4, 5, 6, 7, 8, 9, 11, 10, 12, 13]) (L := [11]) (its := [⟨37, [], [], [], [], fun _ => .agg #[.int .i64 (cr), vcd], fun _ => True, fun _ => []⟩,
     ⟨38, [], [], [], [], fun _ => v4, fun _ => True, fun _ => []⟩,
     ⟨39, [], [], [], [], fun _ => .int .i64 (x), fun _ => True, fun _ => []⟩,
     ⟨40, [(1, 38), (2, 39)], [], [], [], fun _ => elemPtr v4 1 ((x : Int).toNat), fun _ => True, fun _ => []⟩,
     ⟨41, [(3, 40)], [], [], [], fun _ => (u5.getD ((x : Int).toNat) undef), fun _ => True, fun _ => []⟩,
     ⟨42, [], [], [], [], fun _ => .int .i64 ((k : Int)), fun _ => True, fun _ => []⟩,
     ⟨43, [(4, 41), (5, 42)], [], [], [], fun _ => elemPtr ((u5.getD ((x : Int).toNat) undef)) 1 (k), fun _ => True, fun _ => []⟩,
     ⟨44, [(6, 43)], [], [], [], fun _ => (((levD u6 ((x : Int).toNat)).1).getD (k) undef), fun _ => True, fun _ => []⟩,
     ⟨45, [(0, 37), (7, 44)], [], [], [8], fun ds => .tuple #[((ds.getD 0 []).getD 0 undef), ((ds.getD 0 []).getD 1 undef)], fun ds => IsS ((ds.getD 0 []).getD 0 undef) ∧ IsS ((ds.getD 0 []).getD 1 undef), fun ds => [ints 3 ((ds.getD 0 []).getD 1 undef) (nwF cr cd ((lvAt cr cd ((x : Int).toNat)).getD (k) []))]⟩,
     ⟨36, [(8, 45)], [8], [], [8], fun ds => .tuple #[((ds.getD 0 []).getD 0 undef), ((ds.getD 0 []).getD 1 undef)], fun _ => True, fun _ => []⟩,
     ⟨47, [(9, 36)], [8], [], [8], fun ds => ((ds.getD 0 []).getD 1 undef), fun _ => True, fun _ => []⟩,
     ⟨46, [(9, 36)], [8], [], [8], fun ds => ((ds.getD 0 []).getD 0 undef), fun _ => True, fun _ => []⟩]) (by kernel_rfl) (by repeat (first | refine PanQ.then_ ?_ | refine PanQ.block ?_ | exact PanQ.body)) (by kernel_rfl) ⟨⟨_, rfl, .inl rfl⟩, trivial⟩ (by kernel_rfl) (POps.cons ?_ (POps.cons ?_ (POps.cons ?_ (POps.cons ?_ (POps.cons ?_ (POps.cons ?_ (POps.cons ?_ (POps.cons ?_ (POps.cons ?_ (POps.cons ?_ (POps.cons ?_ (POps.cons ?_ POps.nil)))))))))))) ?_
 intro θ R hd
 exact Opp.plain (OG.imp (OD.loadAgg rfl ti28 rfl (i := 5) rfl (us := [.int .i64 (cr), vcd]) rfl rfl) (by rintro _ _ ⟨rfl, rfl⟩; exact ⟨[], rfl, trivial, rfl⟩)) rfl
 intro θ R hd
 exact Opp.plain (OG.imp (OD.move rfl rfl) (by rintro _ _ ⟨rfl, rfl⟩; exact ⟨[], rfl, trivial, rfl⟩)) rfl
 intro θ R hd
 exact Opp.plain (OG.imp (OD.move rfl rfl) (by rintro _ _ ⟨rfl, rfl⟩; exact ⟨[], rfl, trivial, rfl⟩)) rfl
 intro θ R hd
 obtain ⟨h1d, h2d, _⟩ := hd
 exact Opp.plain (OG.imp (OD.indexAddr rfl et59 rfl (Ent.lst (i := 4) rfl) rfl (by omega)) (by rintro _ _ ⟨rfl, rfl⟩; exact ⟨[], rfl, trivial, rfl⟩)) rfl
 intro θ R hd
 obtain ⟨h3d, _⟩ := hd
 exact Opp.plain (OG.imp (OD.loadElem rfl ti26 rfl (Ent.lst (i := 4) rfl) (by omega) rfl) (by rintro _ _ ⟨rfl, rfl⟩; exact ⟨[], rfl, trivial, rfl⟩)) rfl
 intro θ R hd
 exact Opp.plain (OG.imp (OD.move rfl rfl) (by rintro _ _ ⟨rfl, rfl⟩; exact ⟨[], rfl, trivial, rfl⟩)) rfl
 intro θ R hd
 obtain ⟨h4d, h5d, _⟩ := hd
 exact Opp.plain (OG.imp (OD.indexAddr rfl et26 rfl (Ent.lst (i := 2) rfl) rfl (by omega)) (by rintro _ _ ⟨rfl, rfl⟩; exact ⟨[], rfl, trivial, rfl⟩)) rfl
 intro θ R hd
 obtain ⟨h6d, _⟩ := hd
 exact Opp.plain (OG.imp (OD.loadElem rfl ti22 rfl (Ent.lst (i := 2) rfl) (by omega) rfl) (by rintro _ _ ⟨rfl, rfl⟩; exact ⟨[], rfl, trivial, rfl⟩)) rfl
 intro θ R hd
 obtain ⟨h0d, h7d, _⟩ := hd
 exact Opp.plain (OG.imp (OG.call [.agg #[.int .i64 (cr), vcd], (((levD u6 ((x : Int).toNat)).1).getD (k) undef)] ent65 rfl rfl rfl rfl (by exact (l6Climb_w scd (Ent.drop 6 ecd.app) (hka.get (by omega)) (Ent.manyInts (i := 3) rfl ⟨by first | omega | (simp; omega), by first | omega | (simp; omega)⟩) ((tyS_ok hS).1) ((tyS_ok hS).2) (phOk hS) (hbd)))) (by rintro _ _ ⟨v18, v20, rfl, hs19, hs21, rfl⟩; exact ⟨[v18, v20], rfl, ⟨hs19, hs21⟩, rfl⟩)) rfl
 intro θ R hd
 obtain ⟨h8d, _⟩ := hd
 exact Opp.plain (OG.imp (OD.move rfl rfl) (by rintro _ _ ⟨rfl, rfl⟩; exact ⟨[], rfl, trivial, rfl⟩)) rfl
 intro θ R hd
 obtain ⟨h9d, _⟩ := hd
 exact Opp.plain (OG.imp (OD.extract rfl rfl rfl) (by rintro _ _ ⟨rfl, rfl⟩; exact ⟨[], rfl, trivial, rfl⟩)) rfl
 intro θ R hd
 obtain ⟨h9d, _⟩ := hd
 exact Opp.plain (OG.imp (OD.extract rfl rfl rfl) (by rintro _ _ ⟨rfl, rfl⟩; exact ⟨[], rfl, trivial, rfl⟩)) rfl
 intro θ hall
 obtain ⟨_, _, _, _, _, _, _, _, h8a, _, _, _, _⟩ := hall
 refine G.at [] 0 (env' := [(1, .int .i64 (x)), (2, .pointer (some ⟨g1, 0, none⟩)), (5, v4), (6, w), (7, .int .i64 ((k : Int))), (47, ((θ 8).getD 1 undef)), (46, ((θ 8).getD 0 undef))]) ⟨rfl, rfl, rfl, rfl, rfl, rfl, rfl, trivial⟩ (own' := ints 3 ((θ 8).getD 1 undef) (nwF cr cd ((lvAt cr cd ((x : Int).toNat)).getD (k) [])) :: many (ints 3) uu qs :: lst 22 w uu :: lst 22 (u5.getD ((x : Int).toNat) undef) ((levD u6 ((x : Int).toNat)).1) :: many (ints 3) ((levD u6 ((x : Int).toNat)).1) (lvAt cr cd ((x : Int).toNat)) :: lst 26 v4 u5 :: box g1 28 [.int .i64 (cr), vcd] :: own) rfl ?_
 have hs22 : IsS ((θ 8).getD 0 undef) := h8a.1
 have hs23 : IsS ((θ 8).getD 1 undef) := h8a.2
 clear h8a
 generalize ((θ 8).getD 0 undef) = v24 at *
 generalize ((θ 8).getD 1 undef) = v25 at *
 show G _ _ _ [_, _] _ _ _ _
 refine G.stepD (OD.assign rfl rfl) rfl rfl rfl ?_
 refine G.stepD (OD.assign rfl rfl) rfl rfl rfl ?_
 refine G.nil (GE.then_ (GC.region ?_))
 refine G.stepD (OD.move rfl rfl) rfl rfl rfl ?_
 refine G.stepD (OD.move rfl rfl) rfl rfl rfl ?_
 refine G.step (OG.call [w, v25] ent66 rfl rfl rfl rfl (by exact (l6Insert_new hw (Ent.len (Ent.lst (i := 2) rfl) (by omega)) (fun k hk => Ent.manyInts (i := 1) (k := k) rfl ⟨by omega, hk⟩) (by omega) hqa hs23 (Ent.ints (i := 0) rfl) (by omega) (fun j hj => Nat.le_trans (hqe j hj) (by decide)) (by omega) (hqd) (by rw [hqs]; exact hn1)))) rfl rfl rfl ?_
 rintro _ _ ⟨v26, rfl, hs27, hs28, rfl⟩
 refine G.stepD (OD.move rfl rfl) rfl rfl rfl ?_
 refine G.stepD (OD.extract rfl rfl rfl) rfl rfl rfl ?_
 refine G.stepD (OD.extract rfl rfl rfl) rfl rfl rfl ?_
 refine G.stepD (OD.assign rfl rfl) rfl rfl rfl ?_
 refine G.nil (GE.blockN (GE.then_ (GC.region ?_)))
 refine G.stepD (OD.move rfl rfl) rfl rfl rfl ?_
 refine G.stepD (OD.addI rfl rfl rfl (by omega)) rfl rfl rfl ?_
 refine G.stepD (OD.assign rfl rfl) rfl rfl rfl ?_
 refine G.nil ?_
 refine GE.at [1, 1, 0, 0, 0, 0, 0, 0] 0 (env' := [(1, .int .i64 (x)), (2, .pointer (some ⟨g1, 0, none⟩)), (5, v4), (47, v25), (46, v24), (8, v24), (9, v25), (49, w), (50, v25), (51, .tuple #[v26, .bool true]), (48, .tuple #[v26, .bool true]), (52, v26), (53, .bool true), (6, v26), (34, .int .i64 ((k : Int))), (35, .int .i64 ((k : Int) + 1)), (7, .int .i64 ((k : Int) + 1))]) ⟨rfl, rfl, rfl, rfl, rfl, rfl, rfl, rfl, rfl, rfl, rfl, rfl, rfl, rfl, rfl, rfl, rfl, trivial⟩ (own' := ints 3 v25 (nwF cr cd ((lvAt cr cd ((x : Int).toNat)).getD (k) [])) :: many (ints 3) uu qs :: lst 22 v26 (uu.take (insA (nwF cr cd ((lvAt cr cd ((x : Int).toNat)).getD (k) [])) qs) ++ [v25] ++ uu.drop (insA (nwF cr cd ((lvAt cr cd ((x : Int).toNat)).getD (k) [])) qs)) :: lst 22 w uu :: lst 22 (u5.getD ((x : Int).toNat) undef) ((levD u6 ((x : Int).toNat)).1) :: many (ints 3) ((levD u6 ((x : Int).toNat)).1) (lvAt cr cd ((x : Int).toNat)) :: lst 26 v4 u5 :: box g1 28 [.int .i64 (cr), vcd] :: own) rfl ?_
 refine GE.manyIns (insA (nwF cr cd ((lvAt cr cd ((x : Int).toNat)).getD (k) [])) qs) hqlen ?_
 exact GE.again (k + 1, insD qs (nwF cr cd ((lvAt cr cd ((x : Int).toNat)).getD (k) [])), uu.take (insA (nwF cr cd ((lvAt cr cd ((x : Int).toNat)).getD (k) [])) qs) ++ [v25] ++ uu.drop (insA (nwF cr cd ((lvAt cr cd ((x : Int).toNat)).getD (k) [])) qs), v26) (⟨by omega, by rw [hn2, ← hqs], by rw [insD_len]; have h1 := insA_le (nwF cr cd ((lvAt cr cd ((x : Int).toNat)).getD k [])) qs; simp only [List.length_append, List.length_take, List.length_drop, List.length_singleton]; omega, hs28, hs27⟩) (by first | omega | (dsimp only; omega)) ⟨rfl, rfl, rfl, rfl, rfl, trivial⟩ [0, 0, 1, 1, 1, 1] 1 rfl
 replace hc17 := of_decide_eq_false hc17
 have hfin : qs.reverse = elOf cr cd x := by rw [elOf_yes hS (by omega), hqs, List.take_of_length_le (by omega)]; exact el_levels hS _
 refine GC.exit (GE.pass (GE.pass (GE.hit (GE.then_ (GC.seq (GC.region ?_))))))
 refine G.step (OG.buildLst (xs := []) (us := []) rfl et26 rfl rfl rfl rfl rfl) rfl rfl rfl ?_
 rintro v29 _ ⟨hs30, rfl⟩
 refine G.stepD (OD.assign rfl rfl) rfl rfl rfl ?_
 refine G.nil (GE.then_ (GC.seq (GC.seq (GC.region ?_))))
 refine G.stepD (OD.move rfl rfl) rfl rfl rfl ?_
 refine G.stepD (OD.len rfl rfl et26 rfl (Ent.lst (i := 2) rfl)) rfl rfl rfl ?_
 refine G.stepD (OD.subI rfl rfl rfl (by omega)) rfl rfl rfl ?_
 refine G.stepD (OD.assign rfl rfl) rfl rfl rfl ?_
 refine G.nil (GE.then_ (GC.block ?_))
 refine GC.loop (ι := Nat × List Value × Value) (fun ⟨q, vs, z⟩ => [(6, w), (10, z), (11, .int .i64 ((q : Int) - 1))]) (fun ⟨q, vs, z⟩ => lst 22 z vs :: many (ints 3) uu qs :: lst 22 w uu :: lst 22 (u5.getD ((x : Int).toNat) undef) ((levD u6 ((x : Int).toNat)).1) :: many (ints 3) ((levD u6 ((x : Int).toNat)).1) (lvAt cr cd ((x : Int).toNat)) :: lst 26 v4 u5 :: box g1 28 [.int .i64 (cr), vcd] :: own) (fun ⟨q, vs, z⟩ => (q ≤ qs.length) ∧ (vs = (uu.drop q).reverse) ∧ (AllS vs) ∧ (IsS z)) (fun ⟨q, vs, z⟩ => q) (qs.length, [], v29) (⟨by omega, by rw [← hqlen, List.drop_length]; rfl, AllS.nil, hs30⟩) ⟨rfl, rfl, int_eq (by omega), trivial⟩ [] 0 rfl ?_
 rintro ⟨q, vs, z⟩ ⟨hq, hvs, hva, hz⟩
 have hvl : vs.length = qs.length - q := by rw [hvs, List.length_reverse, List.length_drop, hqlen]
 refine GC.seq (GC.seq (GC.region ?_))
 refine G.stepD (OD.move rfl rfl) rfl rfl rfl ?_
 refine G.stepD (OD.geq rfl rfl rfl) rfl rfl rfl ?_
 refine G.nil (GE.then_ ?_)
 refine GC.cond rfl (fun hc31 => ?_) (fun hc31 => ?_)
 replace hc31 := of_decide_eq_true hc31
 refine GC.skip (GE.then_ (GC.seq (GC.block (GC.region ?_))))
 refine G.stepD (OD.move rfl rfl) rfl rfl rfl ?_
 refine G.stepD (OD.move rfl rfl) rfl rfl rfl ?_
 refine G.stepD (OD.move rfl rfl) rfl rfl rfl ?_
 refine G.stepD (OD.indexAddr rfl et26 rfl (Ent.lst (i := 2) rfl) rfl (by omega)) rfl rfl rfl ?_
 refine G.stepD (OD.loadElem rfl ti22 rfl (Ent.lst (i := 2) rfl) (by omega) rfl) rfl rfl rfl ?_
 refine G.step (OG.buildLst (xs := [.tmp 66]) (us := [(uu.getD (((q : Int) - 1 : Int).toNat) undef)]) rfl et26 rfl rfl rfl (allC (IsS.one (hqa.get (by omega))) rfl) rfl) rfl rfl rfl ?_
 rintro v32 _ ⟨hs33, rfl⟩
 refine G.step (OG.appendLst 1 rfl rfl et26 rfl rfl rfl (Ent.lst (i := 0) rfl) (List.all_eq_true.2 fun u hu => by simpa using (AllS.snoc AllS.nil (hqa.get (by omega))).one u hu) (by simp [maxLen] <;> omega)) rfl rfl rfl ?_
 rintro v34 _ ⟨hs35, rfl⟩
 refine G.stepD (OD.assign rfl rfl) rfl rfl rfl ?_
 refine G.nil (GE.blockN (GE.then_ (GC.region ?_)))
 refine G.stepD (OD.move rfl rfl) rfl rfl rfl ?_
 refine G.stepD (OD.subI rfl rfl rfl (by omega)) rfl rfl rfl ?_
 refine G.stepD (OD.assign rfl rfl) rfl rfl rfl ?_
 refine G.nil ?_
 exact GE.again (q - 1, vs ++ [(uu.getD (((q : Int) - 1 : Int).toNat) undef)], v34) (⟨by omega, by rw [hvs, show ((q : Int) - 1).toNat = q - 1 by omega]; exact rev_step (by omega), (hva.snoc (hqa.get (by omega))), hs35⟩) (by first | omega | (dsimp only; omega)) ⟨rfl, rfl, int_eq (by omega), trivial⟩ [1, 1, 1, 1, 1, 1, 1] 1 rfl
 replace hc31 := of_decide_eq_false hc31
 refine GC.exit (GE.pass (GE.pass (GE.hit (GE.then_ (GC.seq (GC.region ?_))))))
 refine G.stepD (OD.move rfl rfl) rfl rfl rfl ?_
 refine G.stepD (OD.assign rfl rfl) rfl rfl rfl ?_
 refine G.nil (GE.then_ (GC.ret ?_))
 refine GE.at [1, 0, 0, 0, 0, 0, 0] 0 (env' := [(6, w), (10, z), (11, .int .i64 ((q : Int) - 1)), (58, .int .i64 ((q : Int) - 1)), (59, .bool (decide (0 ≤ (q : Int) - 1))), (69, z), (4, z)]) ⟨rfl, rfl, rfl, rfl, rfl, rfl, rfl, trivial⟩ (own' := many (ints 3) uu qs :: lst 22 z vs :: lst 22 w uu :: lst 22 (u5.getD ((x : Int).toNat) undef) ((levD u6 ((x : Int).toNat)).1) :: many (ints 3) ((levD u6 ((x : Int).toNat)).1) (lvAt cr cd ((x : Int).toNat)) :: lst 26 v4 u5 :: box g1 28 [.int .i64 (cr), vcd] :: own) rfl ?_
 refine GE.manyPerm (us := vs) (ys := qs.reverse) (by rw [hvs, show q = 0 by omega, List.drop_zero]; exact zip_rev hqlen) ?_
 skip
 exact GE.body [1, 0] 5 (res1 rfl rfl) rfl (⟨z, vs, rfl, hz, hva, (by first | (rw [← hfin, List.length_reverse]; omega) | (rw [elOf_end hS (show lvU cr cd _ from by assumption).1 (by omega)]; rfl)), congrArg (fun (l0 : List (List Int)) => lst 22 z vs :: many (ints 3) vs l0 :: own) ((hfin : qs.reverse = elOf cr cd x))⟩)
set_option maxHeartbeats 4000000 in
set_option maxRecDepth 100000 in
theorem elementsOf_w {W : World} {own : List Asn} {cr : Int} {vcd : Value} {cd : List Int} {x : Int}  (scd : IsS vcd) (ecd : Ent own fun w => Ints w vcd cd)   (hl0 : cd.length ≤ 1073741824) (hg : Ent own fun w => ∃ m, w.cell? ⟨Tryz.l146_ren.g 1, 0, none⟩ = some (.int .i64 m)) (htab : Ent own Pow10) : Spec Tryz.prog 34 [.agg #[.int .i64 (cr), vcd], .int .i64 (x)] W own (fun v ow => ∃ (r0 : Value) (u0 : List Value), v = r0 ∧ IsS r0 ∧ AllS u0 ∧ u0.length = (elOf cr cd x).length ∧ ow = lst 22 r0 u0 :: many (ints 3) u0 (elOf cr cd x) :: own) := by
 refine Spec.enter Tryz.f34 _ Tryz.func34 rfl (n := 41) rfl rfl ?_
 refine GC.seq (GC.region ?_)
 refine G.step (OG.box (cs := [.int .i64 (cr), vcd]) rfl rfl rfl) rfl rfl rfl ?_
 rintro _ _ ⟨g1, rfl, rfl⟩
 refine G.stepD (OD.assign rfl rfl) rfl rfl rfl ?_
 refine G.nil (GE.then_ (GC.seq (GC.seq (GC.region ?_))))
 refine G.stepD (OD.loadAgg rfl ti28 rfl (i := 0) rfl (us := [.int .i64 (cr), vcd]) rfl rfl) rfl rfl rfl ?_
 refine G.step (OG.call [.agg #[.int .i64 (cr), vcd]] ent38 rfl rfl rfl rfl (by exact (isCartan_w scd (Ent.drop 1 ecd) (hl0) ((Ent.drop 1 hg))))) rfl rfl rfl ?_
 rintro _ _ ⟨rfl, rfl⟩
 refine G.stepD (OD.not rfl rfl) rfl rfl rfl ?_
 refine G.stepD (OD.move rfl rfl) rfl rfl rfl ?_
 rcases Bool.eq_false_or_eq_true (!((tyS cr cd).isSome)) with hg2 | hg2
 have hg2e := hg2
 refine G.at [] 0 (env' := [(0, .agg #[.int .i64 (cr), vcd]), (1, .int .i64 (x)), (2, .pointer (some ⟨g1, 0, none⟩)), (4, .slice none 0 0), (9, .agg #[.int .i64 (cr), vcd]), (10, .bool ((tyS cr cd).isSome)), (11, .bool true), (12, .bool true)]) (⟨rfl, rfl, rfl, rfl, rfl, rfl, (congrArg (fun b => some (Value.bool b)) hg2e), (congrArg (fun b => some (Value.bool b)) hg2e), trivial⟩) rfl ?_
 replace hg2 := eq_false_of_not hg2
 refine G.skipG rfl rfl rfl rfl rfl rfl (G.skipG rfl rfl rfl rfl rfl rfl ?_)
 refine G.stepD (OD.pickT rfl rfl rfl) rfl rfl rfl ?_
 refine G.nil (GE.then_ (GC.condT rfl (GC.seq (GC.region ?_))))
 refine G.stepD (OD.assign rfl rfl) rfl rfl rfl ?_
 refine G.nil (GE.then_ (GC.ret (GE.passR ?_)))
 refine GE.many0 (ints 3) ?_
 refine GE.nilLst 22 ?_
 exact GE.body [0, 0] 1 (res1 rfl rfl) rfl (⟨(.slice none 0 0), [], rfl, IsS.nil, AllS.nil, (by rw [elOf_no hg2]; rfl), congrArg (fun (l0 : List (List Int)) => lst 22 (.slice none 0 0) [] :: many (ints 3) [] l0 :: own) (((elOf_no hg2).symm : [] = elOf cr cd x))⟩)
 have hg2e := hg2
 refine G.at [] 0 (env' := [(0, .agg #[.int .i64 (cr), vcd]), (1, .int .i64 (x)), (2, .pointer (some ⟨g1, 0, none⟩)), (4, .slice none 0 0), (9, .agg #[.int .i64 (cr), vcd]), (10, .bool ((tyS cr cd).isSome)), (11, .bool false), (12, .bool false)]) (⟨rfl, rfl, rfl, rfl, rfl, rfl, (congrArg (fun b => some (Value.bool b)) hg2e), (congrArg (fun b => some (Value.bool b)) hg2e), trivial⟩) rfl ?_
 replace hg2 := eq_true_of_not hg2
 refine G.stepGD (OD.move rfl rfl) rfl rfl rfl rfl rfl ?_
 refine G.stepGD (OD.lss rfl rfl rfl) rfl rfl rfl rfl rfl ?_
 refine G.stepD (OD.pickF rfl rfl rfl) rfl rfl rfl ?_
 refine G.nil (GE.then_ ?_)
 refine GC.cond rfl (fun hc3 => ?_) (fun hc3 => ?_)
 replace hc3 := of_decide_eq_true hc3
 refine GC.seq (GC.region ?_)
 refine G.stepD (OD.assign rfl rfl) rfl rfl rfl ?_
 refine G.nil (GE.then_ (GC.ret (GE.passR ?_)))
 refine GE.many0 (ints 3) ?_
 refine GE.nilLst 22 ?_
 exact GE.body [0, 0] 1 (res1 rfl rfl) rfl (⟨(.slice none 0 0), [], rfl, IsS.nil, AllS.nil, (by rw [elOf_neg (by omega)]; rfl), congrArg (fun (l0 : List (List Int)) => lst 22 (.slice none 0 0) [] :: many (ints 3) [] l0 :: own) (((elOf_neg (by omega)).symm : [] = elOf cr cd x))⟩)
 replace hc3 := of_decide_eq_false hc3
 have hS := hg2
 have hcr4 := (tyS_ok hS).1
 have hrs := (rtOk hS).slen
 have hrf := (rtOk hS).few
 have hcr4 := (tyS_ok hS).1
 have hrk := (rtOk hS).rk
 have hol := oAll_len cr cd (ones cr 1)
 refine GC.skip (GE.then_ (GC.seq (GC.region ?_)))
 refine G.step (OG.buildLst (xs := []) (us := []) rfl et26 rfl rfl rfl rfl rfl) rfl rfl rfl ?_
 rintro v4 _ ⟨hs5, rfl⟩
 refine G.stepD (OD.assign rfl rfl) rfl rfl rfl ?_
 refine G.nil (GE.then_ (GC.seq (GC.seq ?_)))
 refine GC.at [] 0 (env' := [(1, .int .i64 (x)), (2, .pointer (some ⟨g1, 0, none⟩)), (5, v4)]) ⟨rfl, rfl, rfl, trivial⟩ rfl ?_
 refine GC.par (its := [⟨17, [], [], [], [], fun _ => .agg #[.int .i64 (cr), vcd], fun _ => True, fun _ => []⟩,
     ⟨18, [], [], [], [], fun _ => .agg #[.int .i64 (cr), vcd], fun _ => True, fun _ => []⟩,
     ⟨19, [(1, 18)], [], [], [2], fun ds => ((ds.getD 0 []).getD 0 undef), fun ds => IsS ((ds.getD 0 []).getD 0 undef), fun ds => [ints 3 ((ds.getD 0 []).getD 0 undef) (ones cr 1)]⟩,
     ⟨20, [(0, 17), (2, 19)], [2], [], [2, 3], fun ds => ((ds.getD 1 []).getD 0 undef), fun ds => IsS ((ds.getD 1 []).getD 0 undef) ∧ AllS (usOf ((ds.getD 1 []).getD 1 undef)) ∧ (usOf ((ds.getD 1 []).getD 1 undef)).length = (oAll cr cd (ones cr 1)).length, fun ds => [lst 22 ((ds.getD 1 []).getD 0 undef) (usOf ((ds.getD 1 []).getD 1 undef)), many (ints 3) (usOf ((ds.getD 1 []).getD 1 undef)) (oAll cr cd (ones cr 1))]⟩,
     ⟨21, [(3, 20)], [2, 3], [], [2, 3], fun ds => .int .i64 (((usOf ((ds.getD 1 []).getD 1 undef)).length : Nat)), fun _ => True, fun _ => []⟩,
     ⟨22, [], [], [], [], fun _ => .int .i64 (0), fun _ => True, fun _ => []⟩]) (by kernel_rfl) (by kernel_rfl) (POps.cons ?_ (POps.cons ?_ (POps.cons ?_ (POps.cons ?_ (POps.cons ?_ (POps.cons ?_ POps.nil)))))) ?_
 intro θ R hd
 exact Opp.plain (OG.imp (OD.loadAgg rfl ti28 rfl (i := 1) rfl (us := [.int .i64 (cr), vcd]) rfl rfl) (by rintro _ _ ⟨rfl, rfl⟩; exact ⟨[], rfl, trivial, rfl⟩)) rfl
 intro θ R hd
 exact Opp.plain (OG.imp (OD.loadAgg rfl ti28 rfl (i := 1) rfl (us := [.int .i64 (cr), vcd]) rfl rfl) (by rintro _ _ ⟨rfl, rfl⟩; exact ⟨[], rfl, trivial, rfl⟩)) rfl
 intro θ R hd
 obtain ⟨h1d, _⟩ := hd
 exact Opp.plain (OG.imp (OG.call [.agg #[.int .i64 (cr), vcd]] ent61 rfl rfl rfl rfl (by exact (rho_w scd (Ent.drop 2 ecd.app) ((tyS_ok hS).1)))) (by rintro v6 _ ⟨_, rfl, hs7, rfl⟩; exact ⟨[v6], rfl, hs7, rfl⟩)) rfl
 intro θ R hd
 obtain ⟨h0d, h2d, _⟩ := hd
 exact Opp.plain (OG.imp (OG.call [.agg #[.int .i64 (cr), vcd], ((θ 2).getD 0 undef)] ent54 rfl rfl rfl rfl (by exact (orbit_w scd (Ent.drop 3 ecd.app) h2d (Ent.ints (i := 0) rfl) ((tyS_ok hS).1) ((tyS_ok hS).2) (by have h1 := (tyS_ok hS).1; rw [ones_len]; omega) (ones_64) ((Ent.drop 3 htab.app))))) (by rintro v8 _ ⟨_, u9, rfl, hs10, hs11, hs12, rfl⟩; exact ⟨[v8, .agg u9.toArray], rfl, ⟨hs10, hs11, hs12⟩, rfl⟩)) rfl
 intro θ R hd
 obtain ⟨h3d, _⟩ := hd
 exact Opp.plain (OG.imp (OD.len rfl rfl et26 rfl (Ent.lst (i := 1) rfl)) (by rintro _ _ ⟨rfl, rfl⟩; exact ⟨[], rfl, trivial, rfl⟩)) rfl
 intro θ R hd
 exact Opp.plain (OG.imp (OD.move rfl rfl) (by rintro _ _ ⟨rfl, rfl⟩; exact ⟨[], rfl, trivial, rfl⟩)) rfl
 intro θ hall
 obtain ⟨_, _, h2a, h3a, _, _, _⟩ := hall
 refine G.at [] 0 (env' := [(1, .int .i64 (x)), (2, .pointer (some ⟨g1, 0, none⟩)), (5, v4), (20, ((θ 3).getD 0 undef)), (21, .int .i64 (((usOf ((θ 3).getD 1 undef)).length : Nat))), (22, .int .i64 (0))]) ⟨rfl, rfl, rfl, rfl, rfl, rfl, trivial⟩ (own' := ints 3 ((θ 2).getD 0 undef) (ones cr 1) :: lst 22 ((θ 3).getD 0 undef) (usOf ((θ 3).getD 1 undef)) :: many (ints 3) (usOf ((θ 3).getD 1 undef)) (oAll cr cd (ones cr 1)) :: lst 22 v4 [] :: box g1 28 [.int .i64 (cr), vcd] :: own) rfl ?_
 have hs13 : IsS ((θ 2).getD 0 undef) := h2a
 clear h2a
 generalize ((θ 2).getD 0 undef) = v14 at *
 have hs15 : IsS ((θ 3).getD 0 undef) := h3a.1
 have hs16 : AllS (usOf ((θ 3).getD 1 undef)) := h3a.2.1
 have hs17 : (usOf ((θ 3).getD 1 undef)).length = (oAll cr cd (ones cr 1)).length := h3a.2.2
 clear h3a
 generalize ((θ 3).getD 0 undef) = v18 at *
 generalize (usOf ((θ 3).getD 1 undef)) = u19 at *
 show G _ _ _ [] _ _ _ _
 refine G.nil (GE.then_ (GC.block ?_))
 refine GC.many0 (ints 3) ?_
 refine GC.loop (ι := Nat × List Value × Value) (fun ⟨k, us, v⟩ => [(1, .int .i64 (x)), (2, .pointer (some ⟨g1, 0, none⟩)), (20, v18), (21, .int .i64 ((u19.length : Nat))), (5, v), (22, .int .i64 ((k : Int)))]) (fun ⟨k, us, v⟩ => many (ints 3) us (elUp cr cd ((x : Int).toNat) ((oAll cr cd (ones cr 1)).take k)) :: ints 3 v14 (ones cr 1) :: lst 22 v18 u19 :: many (ints 3) u19 (oAll cr cd (ones cr 1)) :: lst 22 v us :: box g1 28 [.int .i64 (cr), vcd] :: own) (fun ⟨k, us, v⟩ => (k ≤ (oAll cr cd (ones cr 1)).length) ∧ (AllS us) ∧ (us.length = (elUp cr cd ((x : Int).toNat) ((oAll cr cd (ones cr 1)).take k)).length) ∧ (IsS v)) (fun ⟨k, us, v⟩ => (oAll cr cd (ones cr 1)).length - k) (0, [], v4) (⟨by omega, AllS.nil, rfl, hs5⟩) ⟨rfl, rfl, rfl, rfl, rfl, rfl, trivial⟩ [] 0 rfl ?_
 rintro ⟨k, us, v⟩ ⟨hk, ha, hul, hv⟩
 have hgl : (elUp cr cd ((x : Int).toNat) ((oAll cr cd (ones cr 1)).take k)).length ≤ 1204 := by have h1 := elUp_len cr cd ((x : Int).toNat) ((oAll cr cd (ones cr 1)).take k); rw [List.length_take] at h1; omega
 refine GC.seq (GC.region ?_)
 refine G.stepD (OD.lss rfl rfl rfl) rfl rfl rfl ?_
 refine G.nil (GE.then_ (GC.seq ?_))
 refine GC.cond rfl (fun hc20 => ?_) (fun hc20 => ?_)
 replace hc20 := of_decide_eq_true hc20
 have hkm := getD_mem (L := (oAll cr cd (ones cr 1))) (k := k) (by omega)
 obtain ⟨hnl, hnq, hnb⟩ := nw_of hS hkm
 have hbd := ((wlOk hS).orR _ hkm).bd (wlOk hS) (phOk hS)
 have hnk : (nwF cr cd ((oAll cr cd (ones cr 1)).getD k [])).length ≤ 16001 := nwF_len _ _ _
 refine GC.skip (GE.then_ (GC.seq (GC.block (GC.seq (GC.region ?_)))))
 refine G.stepD (OD.indexAddr rfl et26 rfl (Ent.lst (i := 2) rfl) rfl (by omega)) rfl rfl rfl ?_
 refine G.stepD (OD.loadElem rfl ti22 rfl (Ent.lst (i := 2) rfl) (by omega) rfl) rfl rfl rfl ?_
 refine G.stepD (OD.assign rfl rfl) rfl rfl rfl ?_
 refine G.nil (GE.then_ (GC.seq (GC.region ?_)))
 refine G.stepD (OD.loadAgg rfl ti28 rfl (i := 5) rfl (us := [.int .i64 (cr), vcd]) rfl rfl) rfl rfl rfl ?_
 refine G.stepD (OD.move rfl rfl) rfl rfl rfl ?_
 refine G.step (OG.call [.agg #[.int .i64 (cr), vcd], (u19.getD (k) undef)] ent62 rfl rfl rfl rfl (by exact (normalOf_w scd (Ent.drop 6 ecd) (hs16.get (by omega)) (Ent.manyInts (i := 3) rfl ⟨by first | omega | (simp; omega), by first | omega | (simp; omega)⟩) ((tyS_ok hS).1) ((tyS_ok hS).2) (phOk hS) (hbd)))) rfl rfl rfl ?_
 rintro v21 _ ⟨_, rfl, hs22, rfl⟩
 refine G.stepD (OD.assign rfl rfl) rfl rfl rfl ?_
 refine G.nil (GE.then_ (GC.seq (GC.region ?_)))
 refine G.stepD (OD.move rfl rfl) rfl rfl rfl ?_
 refine G.stepD (OD.len rfl rfl et22 rfl (Ent.ints (i := 0) rfl)) rfl rfl rfl ?_
 refine G.stepD (OD.move rfl rfl) rfl rfl rfl ?_
 refine G.stepD (OD.eql rfl rfl rfl) rfl rfl rfl ?_
 refine G.nil (GE.then_ ?_)
 refine GC.cond rfl (fun hc23 => ?_) (fun hc23 => ?_)
 replace hc23 := eq_of_beq hc23
 refine GC.region ?_
 refine G.stepD (OD.move rfl rfl) rfl rfl rfl ?_
 refine G.stepD (OD.move rfl rfl) rfl rfl rfl ?_
 refine G.step (OG.buildLst (xs := [.tmp 34]) (us := [v21]) rfl et26 rfl rfl rfl (allC (IsS.one hs22) rfl) rfl) rfl rfl rfl ?_
 rintro v24 _ ⟨hs25, rfl⟩
 refine G.step (OG.appendLst 6 rfl rfl et26 rfl rfl rfl (Ent.lst (i := 0) rfl) (List.all_eq_true.2 fun u hu => by simpa using (AllS.snoc AllS.nil hs22).one u hu) (by simp [maxLen] <;> omega)) rfl rfl rfl ?_
 rintro v26 _ ⟨hs27, rfl⟩
 refine G.stepD (OD.assign rfl rfl) rfl rfl rfl ?_
 refine G.nil (GE.blockN (GE.then_ (GC.region ?_)))
 refine G.stepD (OD.addI rfl rfl rfl (by omega)) rfl rfl rfl ?_
 refine G.stepD (OD.move rfl rfl) rfl rfl rfl ?_
 refine G.nil ?_
 refine GE.at [1, 1, 0, 0, 0, 0, 0, 0] 0 (env' := [(1, .int .i64 (x)), (2, .pointer (some ⟨g1, 0, none⟩)), (20, v18), (21, .int .i64 ((u19.length : Nat))), (23, .bool (decide ((k : Int) < (u19.length : Nat)))), (24, elemPtr v18 1 (k)), (25, (u19.getD (k) undef)), (7, (u19.getD (k) undef)), (26, .agg #[.int .i64 (cr), vcd]), (27, (u19.getD (k) undef)), (28, v21), (8, v21), (29, v21), (30, .int .i64 (((nwF cr cd ((oAll cr cd (ones cr 1)).getD (k) [])).length : Nat))), (31, .int .i64 (x)), (32, .bool (((nwF cr cd ((oAll cr cd (ones cr 1)).getD (k) [])).length : Nat) == x)), (33, v), (34, v21), (35, v24), (36, v26), (5, v26), (37, .int .i64 ((k : Int) + 1)), (22, .int .i64 ((k : Int) + 1))]) ⟨rfl, rfl, rfl, rfl, rfl, rfl, rfl, rfl, rfl, rfl, rfl, rfl, rfl, rfl, rfl, rfl, rfl, rfl, rfl, rfl, rfl, rfl, rfl, trivial⟩ (own' := ints 3 v21 (nwF cr cd ((oAll cr cd (ones cr 1)).getD (k) [])) :: many (ints 3) us (elUp cr cd ((x : Int).toNat) ((oAll cr cd (ones cr 1)).take k)) :: lst 22 v24 [v21] :: ints 3 v14 (ones cr 1) :: lst 22 v18 u19 :: many (ints 3) u19 (oAll cr cd (ones cr 1)) :: lst 22 v26 (us ++ [v21]) :: box g1 28 [.int .i64 (cr), vcd] :: own) rfl ?_
 refine GE.manyPush (by omega) ?_
 refine GE.ownEq (own' := many (ints 3) (us ++ [v21]) (elUp cr cd ((x : Int).toNat) ((oAll cr cd (ones cr 1)).take (k + 1))) :: lst 22 v24 [v21] :: ints 3 v14 (ones cr 1) :: lst 22 v18 u19 :: many (ints 3) u19 (oAll cr cd (ones cr 1)) :: lst 22 v26 (us ++ [v21]) :: box g1 28 [.int .i64 (cr), vcd] :: own) (by (try dsimp only); rw [take_getL (by omega), elUp_yes (by omega)]) ?_
 exact GE.again (k + 1, us ++ [v21], v26) (⟨by omega, (ha.snoc hs22), by rw [take_getL (by omega), elUp_yes (by omega), List.length_append, List.length_append]; simp; omega, hs27⟩) (by first | omega | (dsimp only; omega)) ⟨rfl, rfl, rfl, rfl, rfl, rfl, trivial⟩ [0, 1, 1, 1, 1, 1] 1 rfl
 replace hc23 := ne_of_beq_false hc23
 refine GC.skip (GE.blockN (GE.then_ (GC.region ?_)))
 refine G.stepD (OD.addI rfl rfl rfl (by omega)) rfl rfl rfl ?_
 refine G.stepD (OD.move rfl rfl) rfl rfl rfl ?_
 refine G.nil ?_
 refine GE.ownEq (own' := ints 3 v21 (nwF cr cd ((oAll cr cd (ones cr 1)).getD (k) [])) :: many (ints 3) us (elUp cr cd ((x : Int).toNat) ((oAll cr cd (ones cr 1)).take (k + 1))) :: ints 3 v14 (ones cr 1) :: lst 22 v18 u19 :: many (ints 3) u19 (oAll cr cd (ones cr 1)) :: lst 22 v us :: box g1 28 [.int .i64 (cr), vcd] :: own) (by (try dsimp only); rw [take_getL (by omega), elUp_no (by omega)]) ?_
 exact GE.again (k + 1, us, v) (⟨by omega, ha, by rw [take_getL (by omega), elUp_no (by omega)]; omega, hv⟩) (by first | omega | (dsimp only; omega)) ⟨rfl, rfl, rfl, rfl, rfl, rfl, trivial⟩ [1, 1, 1, 1, 1, 1] 1 rfl
 replace hc20 := of_decide_eq_false hc20
 have hall : elUp cr cd ((x : Int).toNat) ((oAll cr cd (ones cr 1)).take k) = elM cr cd ((x : Int).toNat) := by rw [List.take_of_length_le (by omega)]; rfl
 have hge : ∀ y ∈ elUp cr cd ((x : Int).toNat) ((oAll cr cd (ones cr 1)).take k), y.length ≤ 24 := fun y hy => by rw [hall] at hy; exact elM_ent hS hy
 refine GC.exit (GE.pass (GE.pass (GE.hit (GE.then_ (GC.seq (GC.region ?_))))))
 refine G.stepD (OD.move rfl rfl) rfl rfl rfl ?_
 refine G.at [4, 0, 0, 0, 0, 0] 0 (env' := [(1, .int .i64 (x)), (2, .pointer (some ⟨g1, 0, none⟩)), (20, v18), (21, .int .i64 ((u19.length : Nat))), (5, v), (22, .int .i64 ((k : Int))), (23, .bool (decide ((k : Int) < (u19.length : Nat)))), (38, v)]) ⟨rfl, rfl, rfl, rfl, rfl, rfl, rfl, rfl, trivial⟩ (own' := lst 22 v us :: many (ints 3) us (elUp cr cd ((x : Int).toNat) ((oAll cr cd (ones cr 1)).take k)) :: ints 3 v14 (ones cr 1) :: lst 22 v18 u19 :: many (ints 3) u19 (oAll cr cd (ones cr 1)) :: box g1 28 [.int .i64 (cr), vcd] :: own) rfl ?_
 refine G.step (OG.call [v, .func (.func 59) #[] #[]] ent57 rfl rfl rfl rfl (by exact (sort_any strict_cmpL tells_cmpL ent59 hv ha hul (by omega) (fun y hy => Nat.le_trans (hge y hy) (by decide))))) rfl rfl rfl ?_
 rintro _ _ ⟨ws, xs, rfl, haw, hlw, hpw, hsw, rfl⟩
 rw [hall] at hpw
 obtain rfl := el_unique hS hpw hsw
 have hfin : elF cr cd ((x : Int).toNat) = elOf cr cd x := (elOf_yes hS (by omega)).symm
 skip
 refine G.nil (GE.then_ (GC.seq (GC.region ?_)))
 refine G.stepD (OD.move rfl rfl) rfl rfl rfl ?_
 refine G.stepD (OD.assign rfl rfl) rfl rfl rfl ?_
 refine G.nil (GE.then_ (GC.ret ?_))
 exact GE.body [0, 0] 4 (res1 rfl rfl) rfl (⟨v, ws, rfl, hv, haw, (by rw [← hfin]; exact hlw), congrArg (fun (l0 : List (List Int)) => lst 22 v ws :: many (ints 3) ws l0 :: own) ((hfin : elF cr cd ((x : Int).toNat) = elOf cr cd x))⟩)
set_option maxHeartbeats 4000000 in
set_option maxRecDepth 100000 in
theorem lawElementsOf {W : World} {own : List Asn} {cr : Int} {vcd : Value} {cd : List Int} {x : Int}  (scd : IsS vcd) (ecd : Ent own fun w => Ints w vcd cd)   (hcd : cd.length ≤ 9223372036854775807) (hg : Ent own fun w => ∃ m, w.cell? ⟨Tryz.l146_ren.g 1, 0, none⟩ = some (.int .i64 m)) (htab : Ent own Pow10) : Spec Tryz.prog 9 [.agg #[.int .i64 (cr), vcd], .int .i64 (x)] W own (fun v ow => v = .bool (true) ∧ ow = own) := by
 have hR1 := elOf_len cr cd x
 have hR2 : ∀ k, k < (elOf cr cd x).length → ((elOf cr cd x).getD k []).length ≤ 1000 := fun k hk => Nat.le_trans (elOf_ent (getD_mem hk)) (by decide)
 refine Spec.enter Tryz.f9 _ Tryz.func9 rfl (n := 74) rfl rfl ?_
 refine GC.seq (GC.region ?_)
 refine G.step (OG.box (cs := [.int .i64 (cr), vcd]) rfl rfl rfl) rfl rfl rfl ?_
 rintro _ _ ⟨g1, rfl, rfl⟩
 refine G.stepD (OD.assign rfl rfl) rfl rfl rfl ?_
 refine G.nil (GE.then_ (GC.seq (GC.region ?_)))
 refine G.stepD (OD.assign rfl rfl) rfl rfl rfl ?_
 refine G.nil (GE.then_ (GC.seq (GC.region ?_)))
 refine G.stepD (OD.loadAgg rfl ti24 rfl (i := 0) rfl (us := [.int .i64 (cr), vcd]) rfl rfl) rfl rfl rfl ?_
 refine G.stepD (OD.move rfl rfl) rfl rfl rfl ?_
 refine G.step (OG.call [.agg #[.int .i64 (cr), vcd], .int .i64 (1048576)] ent10 rfl rfl rfl rfl (by exact (szCartan_s scd (Ent.drop 1 ecd) (by omega) (by omega)))) rfl rfl rfl ?_
 rintro _ _ ⟨rfl, rfl⟩
 refine G.stepD (OD.assign rfl rfl) rfl rfl rfl ?_
 refine G.nil (GE.then_ (GC.seq (GC.seq (GC.region ?_))))
 refine G.stepD (OD.move rfl rfl) rfl rfl rfl ?_
 refine G.stepD (OD.lss rfl rfl rfl) rfl rfl rfl ?_
 refine G.nil (GE.then_ ?_)
 refine GC.cond rfl (fun hc2 => ?_) (fun hc2 => ?_)
 replace hc2 := of_decide_eq_true hc2
 refine GC.seq (GC.region ?_)
 refine G.stepD (OD.assign rfl rfl) rfl rfl rfl ?_
 refine G.nil (GE.then_ (GC.ret (GE.passR ?_)))
 exact GE.body [] 1 (res1 rfl rfl) rfl (⟨rfl, rfl⟩)
 replace hc2 := of_decide_eq_false hc2
 have hc2z := szG_ok hc2
 refine GC.skip (GE.then_ (GC.seq (GC.region ?_)))
 refine G.stepD (OD.loadAgg rfl ti24 rfl (i := 0) rfl (us := [.int .i64 (cr), vcd]) rfl rfl) rfl rfl rfl ?_
 refine G.step (OG.call [.agg #[.int .i64 (cr), vcd]] ent12 rfl rfl rfl rfl (by exact (toCartan_s scd (Ent.drop 1 ecd) (by omega)))) rfl rfl rfl ?_
 rintro _ _ ⟨v3, rfl, hs4, rfl⟩
 refine G.stepD (OD.move rfl rfl) rfl rfl rfl ?_
 refine G.step (OG.call [.agg #[.int .i64 (cr), v3], .int .i64 (x)] ent33 rfl rfl rfl rfl (by exact (specElementsOf_w hs4 (Ent.ints (i := 0) rfl) (by omega)))) rfl rfl rfl ?_
 rintro v5 _ ⟨_, u6, rfl, hs7, hs8, hs9, rfl⟩
 refine G.stepD (OD.assign rfl rfl) rfl rfl rfl ?_
 refine G.nil (GE.then_ (GC.seq (GC.region ?_)))
 refine G.stepD (OD.loadAgg rfl ti24 rfl (i := 3) rfl (us := [.int .i64 (cr), vcd]) rfl rfl) rfl rfl rfl ?_
 refine G.step (OG.call [.agg #[.int .i64 (cr), vcd]] ent12 rfl rfl rfl rfl (by exact (toCartan_s scd (Ent.drop 4 ecd) (by omega)))) rfl rfl rfl ?_
 rintro _ _ ⟨v10, rfl, hs11, rfl⟩
 refine G.step (OG.alloc rfl ti28 (zs := [.int .i64 (0), .slice none 0 0]) rfl) rfl rfl rfl ?_
 rintro _ _ ⟨g12, rfl, rfl⟩
 refine G.stepD0 (OD.store rfl ti28 rfl rfl (us := [.int .i64 (cr), v10]) rfl rfl (allC rfl (allC (IsS.one hs11) rfl)) (i := 0) rfl rfl) rfl rfl ?_
 refine G.nil (GE.then_ (GC.seq (GC.region ?_)))
 refine G.stepD (OD.loadAgg rfl ti28 rfl (i := 0) rfl (us := [.int .i64 (cr), v10]) rfl rfl) rfl rfl rfl ?_
 refine G.stepD (OD.move rfl rfl) rfl rfl rfl ?_
 refine G.step (OG.call [.agg #[.int .i64 (cr), v10], .int .i64 (x)] ent34 rfl rfl rfl rfl (by exact (elementsOf_w hs11 (Ent.ints (i := 1) rfl) (by omega) ((Ent.drop 6 hg)) ((Ent.drop 6 htab))))) rfl rfl rfl ?_
 rintro v13 _ ⟨_, u14, rfl, hs15, hs16, hs17, rfl⟩
 refine G.stepD (OD.assign rfl rfl) rfl rfl rfl ?_
 refine G.nil (GE.then_ (GC.seq (GC.seq (GC.region ?_))))
 refine G.stepD (OD.move rfl rfl) rfl rfl rfl ?_
 refine G.stepD (OD.move rfl rfl) rfl rfl rfl ?_
 refine G.step (OG.call [v13, v5] ent14 rfl rfl rfl rfl (by exact (eqIntSS_same hs15 (Ent.len (Ent.lst (i := 0) rfl) (by omega)) (fun k hk => Ent.manyInts (i := 1) (k := k) rfl ⟨by omega, hk⟩) (by omega) hs16 hs7 (Ent.len (Ent.lst (i := 4) rfl) (by omega)) (fun k hk => Ent.manyInts (i := 5) (k := k) rfl ⟨by omega, hk⟩) (by omega) hs8 (by omega) (hR2)))) rfl rfl rfl ?_
 rintro _ _ ⟨rfl, rfl⟩
 refine G.stepD (OD.not rfl rfl) rfl rfl rfl ?_
 refine G.nil (GE.then_ (GC.condF rfl (GC.skip (GE.then_ (GC.seq (GC.seq ?_))))))
 refine GC.at [] 0 (env' := [(1, .int .i64 (x)), (2, .pointer (some ⟨g1, 0, none⟩)), (6, v5), (7, .pointer (some ⟨g12, 0, none⟩)), (8, v13)]) ⟨rfl, rfl, rfl, rfl, rfl, trivial⟩ rfl ?_
 refine GC.par (its := [⟨31, [], [], [], [], fun _ => .agg #[.int .i64 (cr), v10], fun _ => True, fun _ => []⟩,
     ⟨32, [], [], [], [], fun _ => .agg #[.int .i64 (cr), vcd], fun _ => True, fun _ => []⟩,
     ⟨33, [(1, 32)], [], [], [2], fun ds => .agg #[.int .i64 (cr), ((ds.getD 0 []).getD 0 undef)], fun ds => IsS ((ds.getD 0 []).getD 0 undef), fun ds => [ints 3 ((ds.getD 0 []).getD 0 undef) cd]⟩,
     ⟨34, [(0, 31), (2, 33)], [2], [], [2], fun _ => .bool true, fun _ => True, fun _ => []⟩,
     ⟨35, [(3, 34)], [2], [], [2], fun _ => .bool false, fun _ => True, fun _ => []⟩]) (by kernel_rfl) (by kernel_rfl) (POps.cons ?_ (POps.cons ?_ (POps.cons ?_ (POps.cons ?_ (POps.cons ?_ POps.nil))))) ?_
 intro θ R hd
 exact Opp.plain (OG.imp (OD.loadAgg rfl ti28 rfl (i := 2) rfl (us := [.int .i64 (cr), v10]) rfl rfl) (by rintro _ _ ⟨rfl, rfl⟩; exact ⟨[], rfl, trivial, rfl⟩)) rfl
 intro θ R hd
 exact Opp.plain (OG.imp (OD.loadAgg rfl ti24 rfl (i := 7) rfl (us := [.int .i64 (cr), vcd]) rfl rfl) (by rintro _ _ ⟨rfl, rfl⟩; exact ⟨[], rfl, trivial, rfl⟩)) rfl
 intro θ R hd
 obtain ⟨h1d, _⟩ := hd
 exact Opp.plain (OG.imp (OG.call [.agg #[.int .i64 (cr), vcd]] ent12 rfl rfl rfl rfl (by exact (toCartan_s scd (Ent.drop 8 ecd.app) (by omega)))) (by rintro _ _ ⟨v18, rfl, hs19, rfl⟩; exact ⟨[v18], rfl, hs19, rfl⟩)) rfl
 intro θ R hd
 obtain ⟨h0d, h2d, _⟩ := hd
 exact Opp.plain (OG.imp (OG.call [.agg #[.int .i64 (cr), v10], .agg #[.int .i64 (cr), ((θ 2).getD 0 undef)]] ent15 rfl rfl rfl rfl (by exact (eqCartan_same hs11 (Ent.ints (i := 4) rfl) h2d (Ent.ints (i := 0) rfl) (by omega)))) (by rintro _ _ ⟨rfl, rfl⟩; exact ⟨[], rfl, trivial, rfl⟩)) rfl
 intro θ R hd
 obtain ⟨h3d, _⟩ := hd
 exact Opp.plain (OG.imp (OD.not rfl rfl) (by rintro _ _ ⟨rfl, rfl⟩; exact ⟨[], rfl, trivial, rfl⟩)) rfl
 intro θ hall
 obtain ⟨_, _, h2a, _, _, _⟩ := hall
 refine G.at [] 0 (env' := [(1, .int .i64 (x)), (2, .pointer (some ⟨g1, 0, none⟩)), (6, v5), (7, .pointer (some ⟨g12, 0, none⟩)), (8, v13), (35, .bool false)]) ⟨rfl, rfl, rfl, rfl, rfl, rfl, trivial⟩ (own' := ints 3 ((θ 2).getD 0 undef) cd :: lst 22 v13 u14 :: many (ints 3) u14 (elOf cr cd x) :: box g12 28 [.int .i64 (cr), v10] :: ints 3 v10 cd :: lst 22 v5 u6 :: many (ints 3) u6 (elOf cr cd x) :: ints 3 v3 cd :: box g1 24 [.int .i64 (cr), vcd] :: own) rfl ?_
 have hs20 : IsS ((θ 2).getD 0 undef) := h2a
 clear h2a
 generalize ((θ 2).getD 0 undef) = v21 at *
 show G _ _ _ [] _ _ _ _
 refine G.nil (GE.then_ (GC.condF rfl (GC.skip (GE.then_ (GC.seq (GC.region ?_))))))
 refine G.stepD (OD.assign rfl rfl) rfl rfl rfl ?_
 refine G.nil (GE.then_ (GC.seq (GC.region ?_)))
 refine G.stepD (OD.loadAgg rfl ti28 rfl (i := 3) rfl (us := [.int .i64 (cr), v10]) rfl rfl) rfl rfl rfl ?_
 refine G.stepD (OD.move rfl rfl) rfl rfl rfl ?_
 refine G.at [4] 0 (env' := [(1, .int .i64 (x)), (2, .pointer (some ⟨g1, 0, none⟩)), (6, v5), (7, .pointer (some ⟨g12, 0, none⟩)), (8, v13), (35, .bool false), (9, .int .i64 (1)), (36, .agg #[.int .i64 (cr), v10]), (37, .int .i64 (1))]) ⟨rfl, rfl, rfl, rfl, rfl, rfl, rfl, rfl, rfl, trivial⟩ (own' := ints 3 v10 cd :: ints 3 v21 cd :: lst 22 v13 u14 :: many (ints 3) u14 (elOf cr cd x) :: box g12 28 [.int .i64 (cr), v10] :: lst 22 v5 u6 :: many (ints 3) u6 (elOf cr cd x) :: ints 3 v3 cd :: box g1 24 [.int .i64 (cr), vcd] :: own) rfl ?_
 refine G.step (OG.call [.agg #[.int .i64 (cr), v10], .int .i64 (1)] ent16 rfl rfl rfl rfl (by exact (markCartan_s hs11 (by omega) (by omega)))) rfl rfl rfl ?_
 rintro _ _ ⟨rfl, rfl⟩
 refine G.stepD (OD.assign rfl rfl) rfl rfl rfl ?_
 refine G.nil (GE.then_ (GC.seq (GC.seq (GC.region ?_))))
 refine G.stepD (OD.move rfl rfl) rfl rfl rfl ?_
 refine G.stepD (OD.eqv (OD.lss rfl rfl rfl) (congrArg Value.bool ((decide_eq_false (by omega)) : _ = false))) rfl rfl rfl ?_
 refine G.stepD (OD.move rfl rfl) rfl rfl rfl ?_
 refine G.stepGD (OD.move rfl rfl) rfl rfl rfl rfl rfl ?_
 refine G.stepGD (OD.move rfl rfl) rfl rfl rfl rfl rfl ?_
 refine G.stepG (OG.call [v13, v5] ent14 rfl rfl rfl rfl (by exact (eqIntSS_same hs15 (Ent.len (Ent.lst (i := 2) rfl) (by omega)) (fun k hk => Ent.manyInts (i := 3) (k := k) rfl ⟨by omega, hk⟩) (by omega) hs16 hs7 (Ent.len (Ent.lst (i := 5) rfl) (by omega)) (fun k hk => Ent.manyInts (i := 6) (k := k) rfl ⟨by omega, hk⟩) (by omega) hs8 (by omega) (hR2)))) rfl rfl rfl rfl rfl ?_
 rintro _ _ ⟨rfl, rfl⟩
 refine G.stepGD (OD.not rfl rfl) rfl rfl rfl rfl rfl ?_
 refine G.stepD (OD.pickF rfl rfl rfl) rfl rfl rfl ?_
 refine G.nil (GE.then_ (GC.condF rfl (GC.skip (GE.then_ (GC.seq (GC.region ?_))))))
 refine G.stepD (OD.assign rfl rfl) rfl rfl rfl ?_
 refine G.nil (GE.then_ (GC.seq (GC.region ?_)))
 refine G.stepD (OD.move rfl rfl) rfl rfl rfl ?_
 refine G.stepD (OD.move rfl rfl) rfl rfl rfl ?_
 refine G.at [2, 2, 0, 0, 0, 0, 0, 0, 0] 0 (env' := [(1, .int .i64 (x)), (2, .pointer (some ⟨g1, 0, none⟩)), (6, v5), (7, .pointer (some ⟨g12, 0, none⟩)), (8, v13), (35, .bool false), (36, .agg #[.int .i64 (cr), v10]), (37, .int .i64 (1)), (38, .int .i64 (1 + (cd.length : Nat))), (9, .int .i64 (1 + (cd.length : Nat))), (39, .int .i64 (1 + (cd.length : Nat))), (40, .bool false), (41, .bool false), (42, v13), (43, v5), (44, .bool true), (45, .bool false), (46, .bool false), (10, .int .i64 (1)), (47, v13), (48, .int .i64 (1))]) ⟨rfl, rfl, rfl, rfl, rfl, rfl, rfl, rfl, rfl, rfl, rfl, rfl, rfl, rfl, rfl, rfl, rfl, rfl, rfl, rfl, rfl, trivial⟩ (own' := lst 22 v13 u14 :: many (ints 3) u14 (elOf cr cd x) :: ints 3 v10 (mkd 1 cd.length) :: ints 3 v21 cd :: box g12 28 [.int .i64 (cr), v10] :: lst 22 v5 u6 :: many (ints 3) u6 (elOf cr cd x) :: ints 3 v3 cd :: box g1 24 [.int .i64 (cr), vcd] :: own) rfl ?_
 refine G.step (OG.call [v13, .int .i64 (1)] ent17 rfl rfl rfl rfl (by exact (markIntSS_s hs15 hs16 (by omega) (by omega) (by omega) (hR2)))) rfl rfl rfl ?_
 rintro _ _ ⟨rfl, rfl⟩
 refine G.stepD (OD.assign rfl rfl) rfl rfl rfl ?_
 refine G.nil (GE.then_ (GC.seq (GC.region ?_)))
 refine G.stepD (OD.assign rfl rfl) rfl rfl rfl ?_
 refine G.nil (GE.then_ (GC.seq (GC.region ?_)))
 refine G.stepD (OD.move rfl rfl) rfl rfl rfl ?_
 refine G.stepD (OD.move rfl rfl) rfl rfl rfl ?_
 refine G.step (OG.call [v13, .int .i64 (1)] ent18 rfl rfl rfl rfl (by exact (heldIntSS_m hs15 (Ent.len (Ent.lst (i := 0) rfl) (by omega)) (fun k hk => by have h := Ent.manyInts (own := lst 22 v13 u14 :: many (ints 3) u14 (mkds 1 (elOf cr cd x)) :: ints 3 v10 (mkd 1 cd.length) :: ints 3 v21 cd :: box g12 28 [.int .i64 (cr), v10] :: lst 22 v5 u6 :: many (ints 3) u6 (elOf cr cd x) :: ints 3 v3 cd :: box g1 24 [.int .i64 (cr), vcd] :: own) (i := 1) (k := k) rfl ⟨by omega, by rw [mkds_len]; exact hk⟩; rwa [mkds_get _ hk] at h) (by omega) hs16 (by omega) (by omega) (hR2)))) rfl rfl rfl ?_
 rintro _ _ ⟨rfl, rfl⟩
 refine G.stepD (OD.assign rfl rfl) rfl rfl rfl ?_
 refine G.nil (GE.then_ (GC.seq (GC.seq (GC.region ?_))))
 refine G.stepD (OD.move rfl rfl) rfl rfl rfl ?_
 refine G.stepD (OD.eqv (OD.lss rfl rfl rfl) (congrArg Value.bool ((decide_eq_false (by omega)) : _ = false))) rfl rfl rfl ?_
 refine G.nil (GE.then_ (GC.condF rfl (GC.skip (GE.then_ (GC.seq (GC.seq (GC.region ?_)))))))
 refine G.stepD (OD.move rfl rfl) rfl rfl rfl ?_
 refine G.stepD (OD.move rfl rfl) rfl rfl rfl ?_
 refine G.stepD (OD.eqv (OD.neq rfl rfl rfl) (congrArg Value.bool ((bne_same _) : _ = false))) rfl rfl rfl ?_
 refine G.nil (GE.then_ (GC.condF rfl (GC.skip (GE.then_ (GC.seq (GC.region ?_))))))
 refine G.stepD (OD.loadAgg rfl ti24 rfl (i := 8) rfl (us := [.int .i64 (cr), vcd]) rfl rfl) rfl rfl rfl ?_
 refine G.step (OG.call [.agg #[.int .i64 (cr), vcd]] ent12 rfl rfl rfl rfl (by exact (toCartan_s scd (Ent.drop 9 ecd) (by omega)))) rfl rfl rfl ?_
 rintro _ _ ⟨v22, rfl, hs23, rfl⟩
 refine G.stepD (OD.move rfl rfl) rfl rfl rfl ?_
 refine G.step (OG.call [.agg #[.int .i64 (cr), v22], .int .i64 (x)] ent34 rfl rfl rfl rfl (by exact (elementsOf_w hs23 (Ent.ints (i := 0) rfl) (by omega) ((Ent.drop 10 hg)) ((Ent.drop 10 htab))))) rfl rfl rfl ?_
 rintro v24 _ ⟨_, u25, rfl, hs26, hs27, hs28, rfl⟩
 refine G.stepD (OD.assign rfl rfl) rfl rfl rfl ?_
 refine G.nil (GE.then_ (GC.seq (GC.seq (GC.region ?_))))
 refine G.stepD (OD.move rfl rfl) rfl rfl rfl ?_
 refine G.stepD (OD.move rfl rfl) rfl rfl rfl ?_
 refine G.step (OG.call [v24, v5] ent14 rfl rfl rfl rfl (by exact (eqIntSS_same hs26 (Ent.len (Ent.lst (i := 0) rfl) (by omega)) (fun k hk => Ent.manyInts (i := 1) (k := k) rfl ⟨by omega, hk⟩) (by omega) hs27 hs7 (Ent.len (Ent.lst (i := 8) rfl) (by omega)) (fun k hk => Ent.manyInts (i := 9) (k := k) rfl ⟨by omega, hk⟩) (by omega) hs8 (by omega) (hR2)))) rfl rfl rfl ?_
 rintro _ _ ⟨rfl, rfl⟩
 refine G.stepD (OD.not rfl rfl) rfl rfl rfl ?_
 refine G.nil (GE.then_ (GC.condF rfl (GC.skip (GE.then_ (GC.seq (GC.region ?_))))))
 refine G.stepD (OD.assign rfl rfl) rfl rfl rfl ?_
 refine G.nil (GE.then_ (GC.seq (GC.region ?_)))
 refine G.stepD (OD.move rfl rfl) rfl rfl rfl ?_
 refine G.stepD (OD.move rfl rfl) rfl rfl rfl ?_
 refine G.step (OG.call [v13, .int .i64 (1)] ent18 rfl rfl rfl rfl (by exact (heldIntSS_m hs15 (Ent.len (Ent.lst (i := 3) rfl) (by omega)) (fun k hk => by have h := Ent.manyInts (own := lst 22 v24 u25 :: many (ints 3) u25 (elOf cr cd x) :: ints 3 v22 cd :: lst 22 v13 u14 :: many (ints 3) u14 (mkds 1 (elOf cr cd x)) :: ints 3 v10 (mkd 1 cd.length) :: ints 3 v21 cd :: box g12 28 [.int .i64 (cr), v10] :: lst 22 v5 u6 :: many (ints 3) u6 (elOf cr cd x) :: ints 3 v3 cd :: box g1 24 [.int .i64 (cr), vcd] :: own) (i := 4) (k := k) rfl ⟨by omega, by rw [mkds_len]; exact hk⟩; rwa [mkds_get _ hk] at h) (by omega) hs16 (by omega) (by omega) (hR2)))) rfl rfl rfl ?_
 rintro _ _ ⟨rfl, rfl⟩
 refine G.stepD (OD.assign rfl rfl) rfl rfl rfl ?_
 refine G.nil (GE.then_ (GC.seq (GC.seq (GC.region ?_))))
 refine G.stepD (OD.move rfl rfl) rfl rfl rfl ?_
 refine G.stepD (OD.eqv (OD.lss rfl rfl rfl) (congrArg Value.bool ((decide_eq_false (by omega)) : _ = false))) rfl rfl rfl ?_
 refine G.nil (GE.then_ (GC.condF rfl (GC.skip (GE.then_ (GC.seq (GC.seq (GC.region ?_)))))))
 refine G.stepD (OD.move rfl rfl) rfl rfl rfl ?_
 refine G.stepD (OD.move rfl rfl) rfl rfl rfl ?_
 refine G.stepD (OD.eqv (OD.neq rfl rfl rfl) (congrArg Value.bool ((bne_same _) : _ = false))) rfl rfl rfl ?_
 refine G.nil (GE.then_ (GC.condF rfl (GC.skip (GE.then_ (GC.seq (GC.region ?_))))))
 refine G.stepD (OD.assign rfl rfl) rfl rfl rfl ?_
 refine G.nil (GE.then_ (GC.ret ?_))
 exact GE.body [] 12 (res1 rfl rfl) rfl (⟨rfl, rfl⟩)
end Go.Proofs.YtmckgdekblphoaaGreatDoor
