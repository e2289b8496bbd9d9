/-
  The parts of a matrix, as the second text tells them: a contract by a walk.
-/
import Derived.Test.YtbmnnbglipkidaaGreatDoorFct
import Derived.Test.YtbmnnbglipkidaaGreatDoorWFitA
import Derived.Test.YtbmnnbglipkidaaGreatDoorZ08
namespace Go.Proofs.YtbmnnbglipkidaaGreatDoor
set_option linter.unusedVariables false
set_option linter.unusedSimpArgs false
open Go.RowKit
end Go.Proofs.YtbmnnbglipkidaaGreatDoor
namespace Go.Proofs.YtbmnnbglipkidaaGreatDoor
set_option linter.unusedVariables false
set_option linter.unusedSimpArgs false
open Go.RowKit
set_option maxHeartbeats 4000000 in
set_option maxRecDepth 100000 in
theorem typesOf_w (f : Nat) : ∀ {W : World} {own : List Asn} {r : Int} {a : Int}   (hr : 0 ≤ r ∧ r ≤ 4) (ha : 0 ≤ a ∧ a ≤ 12) (hf : r.toNat < f) (hf5 : f ≤ 5), Spec Tryz.prog 156 [.int .i64 (r), .int .i64 (a)] W own (fun v ow => ∃ (r0 : Value) (u0 : List Value), v = r0 ∧ IsS r0 ∧ AllS u0 ∧ u0.length = ((typesF f (r : Int).toNat (a : Int).toNat).map (·.map nameB)).length ∧ ow = lst 113 r0 u0 :: many (strs 9) u0 ((typesF f (r : Int).toNat (a : Int).toNat).map (·.map nameB)) :: own) := by
 induction f with
 | zero =>
   intro W own r a hr ha hf hf5
   omega
 | succ f ih =>
  intro W own r a hr ha hf hf5
  have hn12 : nameL.length = 12 := rfl
  refine Spec.enter Tryz.f156 _ Tryz.func156 rfl (n := 52) rfl rfl ?_
  refine Zs (Zr ?_)
  refine Za rfl rfl rfl rfl rfl ?_
  refine Zn (Zt (Zs (Zs (Zr ?_))))
  refine Zm rfl rfl rfl rfl rfl ?_
  refine G.stepD (OD.eql rfl rfl rfl) rfl rfl rfl ?_
  refine Zn (Zt ?_)
  refine GC.cond rfl (fun hc1 => ?_) (fun hc1 => ?_)
  replace hc1 := eq_of_beq hc1
  refine Zs (Zr ?_)
  refine G.step (OG.buildLst (xs := [.const (.slice none 0 0)]) (us := [.slice none 0 0]) rfl et154 rfl rfl rfl (allC rfl rfl) rfl) rfl rfl rfl ?_
  rintro v2 _ ⟨hs3, rfl⟩
  refine Za rfl rfl rfl rfl rfl ?_
  refine Zn (Zt (GC.ret (GE.passR ?_)))
  refine GE.many0 (strs 9) ?_
  refine GE.nilStrs 9 ?_
  refine GE.manyPush (A := strs 9) (vs := []) (xs := []) (u := .slice none 0 0) (x := []) rfl ?_
  exact GE.body [1, 0] 0 (res1 rfl rfl) rfl (⟨v2, [.slice none 0 0], rfl, hs3, (AllS.snoc AllS.nil IsS.nil), (by first | (rw [husl, hT, hp12, List.length_map, typesF_pos (by omega)]; done) | (rw [List.length_map, typesF_zero (by omega)]; rfl)), congrArg (fun (l0 : List (List ByteArray)) => lst 113 v2 [.slice none 0 0] :: many (strs 9) [.slice none 0 0] l0 :: own) ((by rw [typesF_zero (by omega)]; rfl : [[]] = (typesF (f + 1) (r : Int).toNat (a : Int).toNat).map (·.map nameB)))⟩)
  replace hc1 := ne_of_beq_false hc1
  refine Zk (Zt (Zs (Zr ?_)))
  refine G.step (OG.buildLst (xs := []) (us := []) rfl et154 rfl rfl rfl rfl rfl) rfl rfl rfl ?_
  rintro v4 _ ⟨hs5, rfl⟩
  refine Za rfl rfl rfl rfl rfl ?_
  refine Zn (Zt (Zs (Zs (Zr ?_))))
  refine Zm rfl rfl rfl rfl rfl ?_
  refine Za rfl rfl rfl rfl rfl ?_
  refine Zn (Zt (GC.block ?_))
  refine GC.many0 (strs 9) ?_
  refine GC.loop (ι := Nat × List (List Nat) × List Value × Value) (fun ⟨p, T, us, bv⟩ => [(0, .int .i64 (r)), (5, bv), (6, .int .i64 (a + (p : Int)))]) (fun ⟨p, T, us, bv⟩ => many (strs 9) us (T.map (·.map nameB)) :: lst 113 bv us :: own) (fun ⟨p, T, us, bv⟩ => (a + p ≤ 12) ∧ (T = (List.range' a.toNat p).flatMap (tyG f r)) ∧ (AllS us) ∧ (us.length = T.length) ∧ (IsS bv) ∧ (T.length ≤ 20 * p)) (fun ⟨p, T, us, bv⟩ => 12 - p) (0, [], [], v4) (⟨by omega, rfl, AllS.nil, rfl, hs5, by simp⟩) ⟨rfl, rfl, int_eq (by omega), trivial⟩ [] 0 rfl ?_
  rintro ⟨p, T, us, bv⟩ ⟨hp, hT, hus, husl, hbv, hTl⟩
  refine Zs (Zs (Zr ?_))
  refine Zm rfl rfl rfl rfl rfl ?_
  refine G.step (OG.call [] ent183 rfl rfl rfl rfl (by exact partNames_w)) rfl rfl rfl ?_
  rintro v6 _ ⟨_, rfl, hs7, rfl⟩
  refine G.stepD (OD.len rfl rfl et113 rfl (Ent.strs (i := 0) rfl)) rfl rfl rfl ?_
  refine G.stepD (OD.lss rfl rfl rfl) rfl rfl rfl ?_
  refine Zn (Zt ?_)
  refine GC.cond rfl (fun hc8 => ?_) (fun hc8 => ?_)
  replace hc8 := of_decide_eq_true hc8
  have hr1 := rk_bd (a + (p : Int)).toNat (by omega)
  have hsz2 : (nameL.getD (a + (p : Int)).toNat ⟨#[]⟩).size = 2 := nm_sz _ (by omega)
  refine Zk (Zt (Zs (GC.block (Zs (Zr ?_)))))
  refine G.step (OG.call [] ent183 rfl rfl rfl rfl (by exact partNames_w)) rfl rfl rfl ?_
  rintro v9 _ ⟨_, rfl, hs10, rfl⟩
  refine Zm rfl rfl rfl rfl rfl ?_
  refine G.stepD (OD.indexAddr rfl et113 rfl (Ent.strs (i := 0) rfl) rfl (by omega)) rfl rfl rfl ?_
  refine G.stepD (OD.loadStr rfl ti9 rfl (Ent.strs (i := 0) rfl) (by omega)) rfl rfl rfl ?_
  refine Za rfl rfl rfl rfl rfl ?_
  refine Zn (Zt (Zs (Zr ?_)))
  refine Zm rfl rfl rfl rfl rfl ?_
  refine G.stepD (OD.indexStr rfl st9 rfl rfl (by omega)) rfl rfl rfl ?_
  refine G.stepD (OD.eqv (OD.sub rfl rfl rfl) (congrArg (Value.int .u8) ((nm_rk' ⟨by omega, by omega⟩) : (IntKind.u8.wrap ((bAt (nameL.getD ((a + (p : Int) : Int).toNat) ⟨#[]⟩) 1) - 48) : Int) = ((rk (a + (p : Int)).toNat : Int))))) rfl rfl rfl ?_
  refine G.stepD (OD.convI rfl cv5_3 rfl (by omega)) rfl rfl rfl ?_
  refine Za rfl rfl rfl rfl rfl ?_
  refine Zn (Zt (Zs (Zs (Zr ?_))))
  refine Zm rfl rfl rfl rfl rfl ?_
  refine Zm rfl rfl rfl rfl rfl ?_
  refine G.stepD (OD.gtr rfl rfl rfl) rfl rfl rfl ?_
  refine Zn (Zt ?_)
  refine GC.cond rfl (fun hc11 => ?_) (fun hc11 => ?_)
  replace hc11 := of_decide_eq_true hc11
  refine GC.exit (Zp (GE.hit (Zt (Zr ?_))))
  refine Zm rfl rfl rfl rfl rfl ?_
  refine G.stepD (OD.addI rfl rfl rfl (by omega)) rfl rfl rfl ?_
  refine Za rfl rfl rfl rfl rfl ?_
  refine Zn ?_
  exact GE.again (p + 1, T, us, bv) (⟨by omega, ty_skip ha.1 hT (by omega) (by omega), hus, husl, hbv, by omega⟩) (by first | omega | (dsimp only; omega)) ⟨rfl, rfl, int_eq (by omega), trivial⟩ [2, 2] 2 rfl
  replace hc11 := of_decide_eq_false hc11
  refine Zk (Zt (Zs (Zr ?_)))
  refine Zm rfl rfl rfl rfl rfl ?_
  refine Zm rfl rfl rfl rfl rfl ?_
  refine G.stepD (OD.subI rfl rfl rfl (by omega)) rfl rfl rfl ?_
  refine Zm rfl rfl rfl rfl rfl ?_
  refine G.step (OG.call [.int .i64 (r - (rk (a + (p : Int)).toNat : Int)), .int .i64 (a + (p : Int))] ent156 rfl rfl rfl rfl (by exact (ih (⟨by omega, by omega⟩) (⟨by omega, by omega⟩) (by omega) (by omega)))) rfl rfl rfl ?_
  rintro v12 _ ⟨_, u13, rfl, hs14, hs15, hs16, rfl⟩
  refine G.stepD (OD.len rfl rfl et154 rfl (Ent.lst (i := 0) rfl)) rfl rfl rfl ?_
  refine Zm rfl rfl rfl rfl rfl ?_
  refine Zn (Zt (GC.block ?_))
  have hsl : u13.length = (typesF f (r - (rk (a + (p : Int)).toNat : Int)).toNat (a + (p : Int)).toNat).length := by have := hs16; simpa using this
  have hDl := typesF_len f (by omega) (r - (rk (a + (p : Int)).toNat : Int)).toNat (by omega) (a + (p : Int)).toNat (by omega)
  refine GC.loop (ι := Nat × List (List Nat) × List Value × Value) (fun ⟨j, T2, ut, bw⟩ => [(0, .int .i64 (r)), (6, .int .i64 (a + (p : Int))), (7, .string (nameL.getD ((a + (p : Int) : Int).toNat) ⟨#[]⟩)), (37, v12), (38, .int .i64 ((u13.length : Nat))), (5, bw), (39, .int .i64 ((j : Int)))]) (fun ⟨j, T2, ut, bw⟩ => lst 113 v12 u13 :: many (strs 9) u13 ((typesF f (r - (rk (a + (p : Int)).toNat : Int) : Int).toNat (a + (p : Int) : Int).toNat).map (·.map nameB)) :: many (strs 9) ut (T2.map (·.map nameB)) :: lst 113 bw ut :: own) (fun ⟨j, T2, ut, bw⟩ => (j ≤ (typesF f (r - (rk (a + (p : Int)).toNat : Int)).toNat (a + (p : Int)).toNat).length) ∧ (T2 = T ++ ((typesF f (r - (rk (a + (p : Int)).toNat : Int)).toNat (a + (p : Int)).toNat).take j).map ((a + (p : Int)).toNat :: ·)) ∧ (AllS ut) ∧ (ut.length = T2.length) ∧ (IsS bw) ∧ (T2.length ≤ 20 * p + j)) (fun ⟨j, T2, ut, bw⟩ => (typesF f (r - (rk (a + (p : Int)).toNat : Int)).toNat (a + (p : Int)).toNat).length - j) (0, T, us, bv) (⟨by omega, by simp, hus, husl, hbv, by omega⟩) ⟨rfl,rfl,rfl,rfl,rfl,rfl,rfl,trivial⟩ [0, 0, 2, 2] 2 rfl ?_
  rintro ⟨j, T2, ut, bw⟩ ⟨hj, hT2, hut, hutl, hbw, hT2l⟩
  refine Zs (Zr ?_)
  refine G.stepD (OD.lss rfl rfl rfl) rfl rfl rfl ?_
  refine Zn (Zt (Zs ?_))
  refine GC.cond rfl (fun hc17 => ?_) (fun hc17 => ?_)
  replace hc17 := of_decide_eq_true hc17
  have hel := typesF_el f (by omega) (r - (rk (a + (p : Int)).toNat : Int)).toNat (by omega) (a + (p : Int)).toNat (by omega) j
  have hel2 := typesF_el f (by omega) (r - (rk (a + (p : Int)).toNat : Int)).toNat (by omega) (a + (p : Int)).toNat (by omega) (j : Int).toNat
  refine Zk (Zt (Zs (GC.block (Zs (Zr ?_)))))
  refine G.stepD (OD.indexAddr rfl et154 rfl (Ent.lst (i := 0) rfl) rfl (by omega)) rfl rfl rfl ?_
  refine G.stepD (OD.loadElem rfl ti113 rfl (Ent.lst (i := 0) rfl) (by omega) rfl) rfl rfl rfl ?_
  refine Za rfl rfl rfl rfl rfl ?_
  refine Zn (Zt (Zr ?_))
  refine Zm rfl rfl rfl rfl rfl ?_
  refine Zm rfl rfl rfl rfl rfl ?_
  refine G.step (OG.buildStrs (os := [.tmp 44]) (xs := [nameL.getD ((a + (p : Int) : Int).toNat) ⟨#[]⟩]) rfl et113 rfl rfl rfl rfl rfl) rfl rfl rfl ?_
  rintro v18 _ ⟨hs19, rfl⟩
  refine Zm rfl rfl rfl rfl rfl ?_
  refine G.step (OG.appendStrs 0 rfl rfl et113 rfl rfl rfl (Ent.manyStrs (i := 2) rfl ⟨by first | omega | (simp; omega), by first | omega | (simp; omega)⟩) (by simp only [List.length_cons, List.length_nil, maxLen]; omega)) rfl rfl rfl ?_
  rintro v20 _ ⟨hs21, rfl⟩
  refine G.step (OG.buildLst (xs := [.tmp 47]) (us := [v20]) rfl et154 rfl rfl rfl (allC (IsS.one hs21) rfl) rfl) rfl rfl rfl ?_
  rintro v22 _ ⟨hs23, rfl⟩
  refine G.step (OG.appendLst 5 rfl rfl et154 rfl rfl rfl (Ent.lst (i := 0) rfl) (List.all_eq_true.2 fun u hu => by simpa using (AllS.snoc AllS.nil hs21).one u hu) (by simp [maxLen] <;> omega)) rfl rfl rfl ?_
  rintro v24 _ ⟨hs25, rfl⟩
  refine Za rfl rfl rfl rfl rfl ?_
  refine Zn (GE.blockN (Zt (Zr ?_)))
  refine G.stepD (OD.addI rfl rfl rfl (by omega)) rfl rfl rfl ?_
  refine Zm rfl rfl rfl rfl rfl ?_
  refine Zn ?_
  refine GE.at [1, 3, 3, 1, 1] 1 (env' := [(0, .int .i64 (r)), (6, .int .i64 (a + (p : Int))), (7, .string (nameL.getD ((a + (p : Int) : Int).toNat) ⟨#[]⟩)), (37, v12), (38, .int .i64 ((u13.length : Nat))), (40, .bool (decide ((j : Int) < (u13.length : Nat)))), (41, elemPtr v12 1 (j)), (42, (u13.getD (j) undef)), (10, (u13.getD (j) undef)), (43, bw), (44, .string (nameL.getD ((a + (p : Int) : Int).toNat) ⟨#[]⟩)), (45, v18), (46, (u13.getD (j) undef)), (47, v20), (48, v22), (49, v24), (5, v24), (50, .int .i64 ((j : Int) + 1)), (39, .int .i64 ((j : Int) + 1))]) ⟨rfl,rfl,rfl,rfl,rfl,rfl,rfl,rfl,rfl,rfl,rfl,rfl,rfl,rfl,rfl,rfl,rfl,rfl,rfl,trivial⟩ (own' := strs 9 v20 (([nameL.getD ((a + (p : Int) : Int).toNat) ⟨#[]⟩]) ++ (((typesF f (r - (rk (a + (p : Int)).toNat : Int) : Int).toNat (a + (p : Int) : Int).toNat).map (·.map nameB)).getD (j) [])) :: many (strs 9) ut (T2.map (·.map nameB)) :: lst 113 v24 (ut ++ [v20]) :: lst 113 v12 u13 :: many (strs 9) u13 ((typesF f (r - (rk (a + (p : Int)).toNat : Int) : Int).toNat (a + (p : Int) : Int).toNat).map (·.map nameB)) :: own) rfl ?_
  refine GE.manyPush (by simp [hutl]) ?_
  refine GE.ownEq (own' := many (strs 9) (ut ++ [v20]) ((T2 ++ [(a + (p : Int)).toNat :: (typesF f (r - (rk (a + (p : Int)).toNat : Int)).toNat (a + (p : Int)).toNat).getD j []]).map (·.map nameB)) :: lst 113 v24 (ut ++ [v20]) :: lst 113 v12 u13 :: many (strs 9) u13 ((typesF f (r - (rk (a + (p : Int)).toNat : Int) : Int).toNat (a + (p : Int) : Int).toNat).map (·.map nameB)) :: own) (by rw [ty_push (by omega)]) ?_
  exact GE.again (j + 1, T2 ++ [(a + (p : Int)).toNat :: (typesF f (r - (rk (a + (p : Int)).toNat : Int)).toNat (a + (p : Int)).toNat).getD j []], ut ++ [v20], v24) (⟨by omega, ty_take hT2 (by omega), (hut.snoc hs21), by simp [hutl], hs25, by simp; omega⟩) (by first | omega | (dsimp only; omega)) ⟨rfl,rfl,rfl,rfl,rfl,rfl,rfl,trivial⟩ [2, 2, 0, 0] 0 rfl
  replace hc17 := of_decide_eq_false hc17
  refine GC.exit (Zp (Zp (GE.hit (GE.blockN (Zt (Zr ?_))))))
  refine Zm rfl rfl rfl rfl rfl ?_
  refine G.stepD (OD.addI rfl rfl rfl (by omega)) rfl rfl rfl ?_
  refine Za rfl rfl rfl rfl rfl ?_
  refine Zn ?_
  exact GE.again (p + 1, T2, ut, bw) (⟨by omega, ty_add ha.1 hT (by omega) hT2 (by omega), hut, hutl, hbw, by omega⟩) (by first | omega | (dsimp only; omega)) ⟨rfl, rfl, int_eq (by omega), trivial⟩ [2, 2] 2 rfl
  replace hc8 := of_decide_eq_false hc8
  have hp12 : p = 12 - a.toNat := by omega
  refine GC.exit (Zp (Zp (GE.hit (Zt (Zs (Zr ?_))))))
  refine Zm rfl rfl rfl rfl rfl ?_
  refine Za rfl rfl rfl rfl rfl ?_
  refine Zn (Zt (GC.ret ?_))
  skip
  exact GE.body [2, 1] 1 (res1 rfl rfl) rfl (⟨bv, us, rfl, hbv, hus, (by first | (rw [husl, hT, hp12, List.length_map, typesF_pos (by omega)]; done) | (rw [List.length_map, typesF_zero (by omega)]; rfl)), congrArg (fun (l0 : List (List ByteArray)) => lst 113 bv us :: many (strs 9) us l0 :: own) ((by rw [hT, hp12, typesF_pos (by omega)] : T.map (·.map nameB) = (typesF (f + 1) (r : Int).toNat (a : Int).toNat).map (·.map nameB)))⟩)
end Go.Proofs.YtbmnnbglipkidaaGreatDoor
namespace Go.Proofs.YtbmnnbglipkidaaGreatDoor
set_option linter.unusedVariables false
set_option linter.unusedSimpArgs false
open Go.RowKit
set_option maxHeartbeats 4000000 in
set_option maxRecDepth 100000 in
theorem typeOf_w {W : World} {own : List Asn} {cr : Int} {vcd : Value} {cd : List Int}  (scd : IsS vcd) (ecd : Ent own fun w => Ints w vcd cd)  (hl0 : cd.length ≤ 1073741824) (hg : Ent own fun w => ∃ m, w.cell? ⟨Tryz.l146_ren.g 1, 0, none⟩ = some (.int .i64 m)) : Spec Tryz.prog 111 [.agg #[.int .i64 (cr), vcd]] W own (fun v ow => v = .string (tyN (tyS cr cd)) ∧ ow = own) := by
 refine Spec.enter Tryz.f111 _ Tryz.func111 rfl (n := 43) rfl rfl ?_
 refine Zs (Zr ?_)
 refine G.step (OG.box (cs := [.int .i64 (cr), vcd]) rfl rfl rfl) rfl rfl rfl ?_
 rintro _ _ ⟨g1, rfl, rfl⟩
 refine Za rfl rfl rfl rfl rfl ?_
 refine Zn (Zt (Zs (Zs (Zr ?_))))
 refine G.stepD (OD.fieldAddr rfl rfl fa27_0) rfl rfl rfl ?_
 refine G.stepD (OD.load rfl ti3 rfl (i := 0) rfl rfl) rfl rfl rfl ?_
 refine G.step (OG.call [.int .i64 (cr), .int .i64 (1), .int .i64 (4)] ent84 rfl rfl rfl rfl (by exact inside_w)) rfl rfl rfl ?_
 rintro _ _ ⟨rfl, rfl⟩
 refine G.stepD (OD.not rfl rfl) rfl rfl rfl ?_
 refine Zm rfl rfl rfl rfl rfl ?_
 rcases Bool.eq_false_or_eq_true (!(inB cr 1 4)) with hg2 | hg2
 have hg2e := hg2
 refine G.at [] 0 (env' := [(0, .agg #[.int .i64 (cr), vcd]), (1, .pointer (some ⟨g1, 0, none⟩)), (2, .string (⟨#[]⟩)), (8, .pointer (some ⟨g1, 0, none⟩)), (9, .int .i64 (cr)), (10, .bool (inB cr 1 4)), (11, .bool true), (12, .bool true)]) (⟨rfl, rfl, rfl, rfl, rfl, rfl, (congrArg (fun b => some (Value.bool b)) hg2e), (congrArg (fun b => some (Value.bool b)) hg2e), trivial⟩) rfl ?_
 replace hg2 := eq_false_of_not hg2
 refine G.skipG rfl rfl rfl rfl rfl rfl (G.skipG rfl rfl rfl rfl rfl rfl (G.skipG rfl rfl rfl rfl rfl rfl (G.skipG rfl rfl rfl rfl rfl rfl (G.skipG rfl rfl rfl rfl rfl rfl (G.skipG rfl rfl rfl rfl rfl rfl (G.skipG rfl rfl rfl rfl rfl rfl (G.skipG rfl rfl rfl rfl rfl rfl (G.skipG rfl rfl rfl rfl rfl rfl ?_))))))))
 refine G.stepD (OD.pickT rfl rfl rfl) rfl rfl rfl ?_
 refine Zn (Zt (GC.condT rfl ?_))
 have hno := tyN_no ((tyS_tyI cr cd).trans (tyI_no (okI_no (.inl hg2))))
 refine Zs (Zr ?_)
 refine Za rfl rfl rfl rfl rfl ?_
 refine Zn (Zt (GC.ret (GE.passR ?_)))
 exact GE.body [] 1 (res1 rfl rfl) rfl (⟨congrArg (fun (a0 : ByteArray) => (.string (a0) : Value)) ((hno.symm : (⟨#[]⟩ : ByteArray) = tyN (tyS cr cd))), rfl⟩)
 have hg2e := hg2
 refine G.at [] 0 (env' := [(0, .agg #[.int .i64 (cr), vcd]), (1, .pointer (some ⟨g1, 0, none⟩)), (2, .string (⟨#[]⟩)), (8, .pointer (some ⟨g1, 0, none⟩)), (9, .int .i64 (cr)), (10, .bool (inB cr 1 4)), (11, .bool false), (12, .bool false)]) (⟨rfl, rfl, rfl, rfl, rfl, rfl, (congrArg (fun b => some (Value.bool b)) hg2e), (congrArg (fun b => some (Value.bool b)) hg2e), trivial⟩) rfl ?_
 replace hg2 := eq_true_of_not hg2
 refine G.stepGD (OD.fieldAddr rfl rfl fa27_1) rfl rfl rfl rfl rfl ?_
 refine G.stepGD (OD.load rfl ti22 rfl (i := 0) rfl rfl) rfl rfl rfl rfl rfl ?_
 refine G.stepGD (OD.len rfl rfl et22 rfl (Ent.drop 1 ecd)) rfl rfl rfl rfl rfl ?_
 refine G.stepGD (OD.fieldAddr rfl rfl fa27_0) rfl rfl rfl rfl rfl ?_
 refine G.stepGD (OD.load rfl ti3 rfl (i := 0) rfl rfl) rfl rfl rfl rfl rfl ?_
 refine G.stepGD (OD.fieldAddr rfl rfl fa27_0) rfl rfl rfl rfl rfl ?_
 refine G.stepGD (OD.load rfl ti3 rfl (i := 0) rfl rfl) rfl rfl rfl rfl rfl ?_
 refine G.stepGD (OD.mulI rfl rfl rfl (sqr_bd (inB_true (by assumption)))) rfl rfl rfl rfl rfl ?_
 refine G.stepGD (OD.neq rfl rfl rfl) rfl rfl rfl rfl rfl ?_
 refine G.stepD (OD.pickF rfl rfl rfl) rfl rfl rfl ?_
 refine Zn (Zt ?_)
 refine GC.cond rfl (fun hc3 => ?_) (fun hc3 => ?_)
 replace hc3 := ne_of_bne hc3
 have hno := tyN_no ((tyS_tyI cr cd).trans (tyI_no (okI_no (.inr hc3))))
 refine Zs (Zr ?_)
 refine Za rfl rfl rfl rfl rfl ?_
 refine Zn (Zt (GC.ret (GE.passR ?_)))
 exact GE.body [] 1 (res1 rfl rfl) rfl (⟨congrArg (fun (a0 : ByteArray) => (.string (a0) : Value)) ((hno.symm : (⟨#[]⟩ : ByteArray) = tyN (tyS cr cd))), rfl⟩)
 replace hc3 := eq_of_bne_false hc3
 have hok1 := okI_of hg2 hc3
 have hcr2 := inB_true hg2
 have hcc : cr * cr ≤ 4 * 4 := Int.mul_le_mul (by omega) (by omega) (by omega) (by omega)
 have hte : tyS cr cd = (typesF 5 cr.toNat (0 : Int).toNat).find? (fun (ks : List Nat) => reordF cr cd (matOf ks).2 5 []) := (tyS_tyI cr cd).trans (tyI_eq hok1)
 have hTl : (typesF 5 cr.toNat (0 : Int).toNat).length ≤ 20 := typesF_len 5 (by omega) cr.toNat (by omega) 0 (by omega)
 refine Zk (Zt (Zs (Zs (Zr ?_))))
 refine G.stepD (OD.fieldAddr rfl rfl fa27_0) rfl rfl rfl ?_
 refine G.stepD (OD.load rfl ti3 rfl (i := 0) rfl rfl) rfl rfl rfl ?_
 refine G.step (OG.call [.int .i64 (cr), .int .i64 (0)] ent156 rfl rfl rfl rfl (by exact (typesOf_w 5 (⟨by omega, by omega⟩) (by omega) (by omega) (by omega)))) rfl rfl rfl ?_
 rintro v4 _ ⟨_, u5, rfl, hs6, hs7, hs8, rfl⟩
 refine G.stepD (OD.len rfl rfl et154 rfl (Ent.lst (i := 0) rfl)) rfl rfl rfl ?_
 refine Zm rfl rfl rfl rfl rfl ?_
 refine Zn (Zt (GC.block ?_))
 have hsl : u5.length = (typesF 5 cr.toNat (0 : Int).toNat).length := by have := hs8; simpa using this
 refine GC.loop (ι := Nat) (fun i => [(1, .pointer (some ⟨g1, 0, none⟩)), (25, v4), (26, .int .i64 ((u5.length : Nat))), (27, .int .i64 ((i : Int)))]) (fun i => lst 113 v4 u5 :: many (strs 9) u5 ((typesF 5 (cr : Int).toNat (0 : Int).toNat).map (·.map nameB)) :: box g1 27 [.int .i64 (cr), vcd] :: own) (fun i => (i ≤ (typesF 5 cr.toNat (0 : Int).toNat).length) ∧ (((typesF 5 cr.toNat (0 : Int).toNat).take i).any (fun (ks : List Nat) => reordF cr cd (matOf ks).2 5 []) = false)) (fun i => (typesF 5 cr.toNat (0 : Int).toNat).length - i) 0 (⟨by omega, by simp⟩) ⟨rfl,rfl,rfl,rfl,trivial⟩ [] 0 rfl ?_
 rintro i ⟨hi, hn⟩
 refine Zs (Zr ?_)
 refine G.stepD (OD.lss rfl rfl rfl) rfl rfl rfl ?_
 refine Zn (Zt (Zs ?_))
 refine GC.cond rfl (fun hc9 => ?_) (fun hc9 => ?_)
 replace hc9 := of_decide_eq_true hc9
 obtain ⟨hc1, hc2, hc3, hc4⟩ := ty_at hcr2 (ty_mem (T := (typesF 5 cr.toNat (0 : Int).toNat)) (i := i) (by omega))
 rw [← map_at (T := (typesF 5 cr.toNat (0 : Int).toNat)) (by omega)] at hc1 hc3
 obtain ⟨hcR0, hcD, _⟩ := cF_some hc1
 have hcR := hcR0.trans hc2
 have hml := matOf_len ((typesF 5 cr.toNat (0 : Int).toNat).getD i [])
 have hcl : ((cD (joinP (((typesF 5 cr.toNat (0 : Int).toNat).map (·.map nameB)).getD (i) []))).length : Int) = cr * cr := by rw [hcD, hml, hc2]
 have hnl : (((typesF 5 cr.toNat (0 : Int).toNat).map (·.map nameB)).getD (i) []).length ≤ 4 := by rw [map_at (by omega), List.length_map]; exact hc4
 refine Zk (Zt (Zs (GC.block (Zs (Zr ?_)))))
 refine G.stepD (OD.indexAddr rfl et154 rfl (Ent.lst (i := 0) rfl) rfl (by omega)) rfl rfl rfl ?_
 refine G.stepD (OD.loadElem rfl ti113 rfl (Ent.lst (i := 0) rfl) (by omega) rfl) rfl rfl rfl ?_
 refine Za rfl rfl rfl rfl rfl ?_
 refine Zn (Zt (Zs (Zr ?_)))
 refine Zm rfl rfl rfl rfl rfl ?_
 refine G.step (OG.call [(u5.getD (i) undef), .string (⟨#[43]⟩)] ent153 rfl rfl rfl rfl (by exact (join_w (hs7.get (by omega)) (Ent.manyStrs (i := 1) rfl ⟨by first | omega | (simp; omega), by first | omega | (simp; omega)⟩) (by omega) (by omega)))) rfl rfl rfl ?_
 rintro _ _ ⟨rfl, rfl⟩
 refine Za rfl rfl rfl rfl rfl ?_
 refine Zn (Zt (Zs (Zr ?_)))
 refine Zm rfl rfl rfl rfl rfl ?_
 refine G.step (OG.call [.string (joinP (((typesF 5 (cr : Int).toNat (0 : Int).toNat).map (·.map nameB)).getD (i) []))] ent157 rfl rfl rfl rfl (by exact (cartanOf_w ((Ent.drop 3 hg)) (by omega)))) rfl rfl rfl ?_
 rintro _ _ ⟨v10, rfl, hs11, rfl⟩
 refine Zm rfl rfl rfl rfl rfl ?_
 refine G.stepD (OD.extract rfl rfl rfl) rfl rfl rfl ?_
 refine G.stepD (OD.extract rfl rfl rfl) rfl rfl rfl ?_
 refine G.step (OG.alloc rfl ti27 (zs := [.int .i64 (0), .slice none 0 0]) rfl) rfl rfl rfl ?_
 rintro _ _ ⟨g12, rfl, rfl⟩
 refine G.stepD0 (OD.store rfl ti27 rfl rfl (us := [.int .i64 (cR (joinP (((typesF 5 (cr : Int).toNat (0 : Int).toNat).map (·.map nameB)).getD (i) []))), v10]) rfl rfl (allC rfl (allC (IsS.one hs11) rfl)) (i := 0) rfl rfl) rfl rfl ?_
 refine Za rfl rfl rfl rfl rfl ?_
 refine Zn (Zt (Zs (Zr ?_)))
 refine G.stepD (OD.loadAgg rfl ti27 rfl (i := 4) rfl (us := [.int .i64 (cr), vcd]) rfl rfl) rfl rfl rfl ?_
 refine G.stepD (OD.loadAgg rfl ti27 rfl (i := 0) rfl (us := [.int .i64 (cR (joinP (((typesF 5 (cr : Int).toNat (0 : Int).toNat).map (·.map nameB)).getD (i) []))), v10]) rfl rfl) rfl rfl rfl ?_
 refine G.step (OG.call [.agg #[.int .i64 (cr), vcd], .agg #[.int .i64 (cR (joinP (((typesF 5 (cr : Int).toNat (0 : Int).toNat).map (·.map nameB)).getD (i) []))), v10], .slice none 0 0] ent158 rfl rfl rfl rfl (by exact (reordered_w 5 scd (Ent.drop 5 ecd) hs11 (Ent.ints (i := 1) rfl) IsS.nil Ent.nilInts (hcr2) (by omega) (hcR) (hcl) (by simp) (by simp; omega) (by simp; omega)))) rfl rfl rfl ?_
 rintro _ _ ⟨rfl, rfl⟩
 refine Zn (Zt ?_)
 refine GC.cond rfl (fun hc13 => ?_) (fun hc13 => ?_)
 have hyes := tyN_at (hte.trans (find_at (d := []) (by omega) hn (by rw [← hcD]; exact hc13)))
 rw [← map_at (T := (typesF 5 cr.toNat (0 : Int).toNat)) (by omega)] at hyes
 refine Zs (Zr ?_)
 refine Zm rfl rfl rfl rfl rfl ?_
 refine Za rfl rfl rfl rfl rfl ?_
 refine Zn (Zt (GC.ret (GE.blockR (GE.passR (GE.passR (GE.blockR (GE.passR ?_)))))))
 exact GE.body [] 5 (res1 rfl rfl) rfl (⟨congrArg (fun (a0 : ByteArray) => (.string (a0) : Value)) ((hyes.symm : (joinP (((typesF 5 (cr : Int).toNat (0 : Int).toNat).map (·.map nameB)).getD (i) []) : ByteArray) = tyN (tyS cr cd))), rfl⟩)
 refine Zk (GE.blockN (Zt (Zr ?_)))
 refine G.stepD (OD.addI rfl rfl rfl (by omega)) rfl rfl rfl ?_
 refine Zm rfl rfl rfl rfl rfl ?_
 refine Zn ?_
 exact GE.again (i + 1) (⟨by omega, any_take_succ (d := []) (by omega) hn (by rw [← hcD]; exact hc13)⟩) (by first | omega | (dsimp only; omega)) ⟨rfl,rfl,rfl,rfl,trivial⟩ [2, 2, 2] 2 rfl
 replace hc9 := of_decide_eq_false hc9
 have hno := tyN_no (hte.trans (find_no (any_take_all (by omega) hn)))
 refine GC.exit (Zp (Zp (GE.hit (Zt (Zs (Zr ?_))))))
 refine Za rfl rfl rfl rfl rfl ?_
 refine Zn (Zt (GC.ret ?_))
 exact GE.body [] 3 (res1 rfl rfl) rfl (⟨congrArg (fun (a0 : ByteArray) => (.string (a0) : Value)) ((hno.symm : (⟨#[]⟩ : ByteArray) = tyN (tyS cr cd))), rfl⟩)
set_option maxHeartbeats 4000000 in
set_option maxRecDepth 100000 in
theorem isCartan_w {W : World} {own : List Asn} {cr : Int} {vcd : Value} {cd : List Int}  (scd : IsS vcd) (ecd : Ent own fun w => Ints w vcd cd)  (hl0 : cd.length ≤ 1073741824) (hg : Ent own fun w => ∃ m, w.cell? ⟨Tryz.l146_ren.g 1, 0, none⟩ = some (.int .i64 m)) : Spec Tryz.prog 50 [.agg #[.int .i64 (cr), vcd]] W own (fun v ow => v = .bool ((tyS cr cd).isSome) ∧ ow = own) := by
 refine Spec.enter Tryz.f50 _ Tryz.func50 rfl (n := 6) rfl rfl ?_
 refine Zs (Zr ?_)
 refine G.step (OG.box (cs := [.int .i64 (cr), vcd]) rfl rfl rfl) rfl rfl rfl ?_
 rintro _ _ ⟨g1, rfl, rfl⟩
 refine Za rfl rfl rfl rfl rfl ?_
 refine Zn (Zt (Zs (Zr ?_)))
 refine G.stepD (OD.loadAgg rfl ti27 rfl (i := 0) rfl (us := [.int .i64 (cr), vcd]) rfl rfl) rfl rfl rfl ?_
 refine G.step (OG.call [.agg #[.int .i64 (cr), vcd]] ent111 rfl rfl rfl rfl (by exact (typeOf_w scd (Ent.drop 1 ecd) (hl0) ((Ent.drop 1 hg))))) rfl rfl rfl ?_
 rintro _ _ ⟨rfl, rfl⟩
 refine G.stepD (OD.eqv (OD.strNeq rfl rfl rfl) (congrArg (Value.bool) ((tyN_empty cr cd) : _ = ((tyS cr cd).isSome)))) rfl rfl rfl ?_
 refine Za rfl rfl rfl rfl rfl ?_
 refine Zn (Zt (GC.ret ?_))
 exact GE.body [] 1 (res1 rfl rfl) rfl (⟨rfl, rfl⟩)
end Go.Proofs.YtbmnnbglipkidaaGreatDoor
