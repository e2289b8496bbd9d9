/-
  Levels with all that they hold: what the walks ask.
-/
import Derived.Test.YtgelkakjmbiibaaGreatDoorLvN
import Derived.Test.YtgelkakjmbiibaaGreatDoorLct
import Derived.Test.YtgelkakjmbiibaaGreatDoorFct
import Derived.Test.YtgelkakjmbiibaaGreatDoorZ25
import Derived.Test.YtgelkakjmbiibaaGreatDoorZ32
namespace Go.Proofs.YtgelkakjmbiibaaGreatDoor
set_option linter.unusedVariables false
set_option linter.unusedSimpArgs false
open Go.RowKit
def levD (ps : List (List Value × List (List Int))) (q : Nat) : List Value × List (List Int) := ps.getD q ([], [])
def LevsOk (n : Int) (d : List Int) (ps : List (List Value × List (List Int))) : Prop := ∀ q, q < ps.length → AllS (levD ps q).1 ∧ (levD ps q).1.length = (levD ps q).2.length ∧ (levD ps q).2 = lvAt n d q
theorem LevsOk.nil (n : Int) (d : List Int) : LevsOk n d [] := fun q hq => absurd hq (Nat.not_lt_zero q)
theorem LevsOk.snoc {n : Int} {d : List Int} {ps : List (List Value × List (List Int))} {us : List Value} {xs : List (List Int)} {j : Nat} (h : LevsOk n d ps) (hj : ps.length = j) (ha : AllS us) (hl : us.length = xs.length) (hx : xs = lvAt n d j) : LevsOk n d (ps ++ [(us, xs)]) := fun q hq => by
  by_cases e : q = j
  · subst e
    have e2 : levD (ps ++ [(us, xs)]) q = (us, xs) := by rw [levD, List.getD, List.getElem?_append_right (by omega), hj, Nat.sub_self]; rfl
    rw [e2]
    exact ⟨ha, hl, hx⟩
  · have hq2 : q < ps.length := by simp at hq; omega
    have e2 : levD (ps ++ [(us, xs)]) q = levD ps q := by rw [levD, levD, List.getD, List.getD, List.getElem?_append_left hq2]
    rw [e2]
    exact h q hq2
section
variable {P : Program} {n : Nat} {env : List (Nat × Value)} {W : World} {own : List Asn}
end
end Go.Proofs.YtgelkakjmbiibaaGreatDoor

namespace Go.Proofs.YtgelkakjmbiibaaGreatDoor
set_option linter.unusedVariables false
set_option linter.unusedSimpArgs false
open Go.RowKit
theorem ent88 : ∀ us w, (callFunc 88 us).run Tryz.prog w = .ok (.enter 88 us) w := fun us w => by kernel_rfl
set_option maxHeartbeats 4000000 in
set_option maxRecDepth 100000 in
theorem elementsOf_w {W : World} {own : List Asn} {cr : Int} {vcd : Value} {cd : List Int} {x : Int}  (scd : IsS vcd) (ecd : Ent own fun w => Ints w vcd cd)   (hl0 : cd.length ≤ 1073741824) (hg : Ent own fun w => ∃ m, w.cell? ⟨Tryz.l146_ren.g 1, 0, none⟩ = some (.int .i64 m)) (htab : Ent own Pow10) : Spec Tryz.prog 36 [.agg #[.int .i64 (cr), vcd], .int .i64 (x)] W own (fun v ow => ∃ (r0 : Value) (u0 : List Value), v = r0 ∧ IsS r0 ∧ AllS u0 ∧ u0.length = (elOf cr cd x).length ∧ ow = lst 22 r0 u0 :: many (ints 3) u0 (elOf cr cd x) :: own) := by
 refine Spec.enter Tryz.f36 _ Tryz.func36 rfl (n := 41) rfl rfl ?_
 refine GC.seq (GC.region ?_)
 refine G.step (OG.box (cs := [.int .i64 (cr), vcd]) rfl rfl rfl) rfl rfl rfl ?_
 rintro _ _ ⟨g1, rfl, rfl⟩
 refine G.stepD (OD.assign rfl rfl) rfl rfl rfl ?_
 refine G.nil (GE.then_ (GC.seq (GC.seq (GC.region ?_))))
 refine G.stepD (OD.loadAgg rfl ti27 rfl (i := 0) rfl (us := [.int .i64 (cr), vcd]) rfl rfl) rfl rfl rfl ?_
 refine G.step (OG.call [.agg #[.int .i64 (cr), vcd]] ent43 rfl rfl rfl rfl (by exact (isCartan_w scd (Ent.drop 1 ecd) (hl0) ((Ent.drop 1 hg))))) rfl rfl rfl ?_
 rintro _ _ ⟨rfl, rfl⟩
 refine G.stepD (OD.not rfl rfl) rfl rfl rfl ?_
 refine G.stepD (OD.move rfl rfl) rfl rfl rfl ?_
 rcases Bool.eq_false_or_eq_true (!((tyS cr cd).isSome)) with hg2 | hg2
 have hg2e := hg2
 refine G.at [] 0 (env' := [(0, .agg #[.int .i64 (cr), vcd]), (1, .int .i64 (x)), (2, .pointer (some ⟨g1, 0, none⟩)), (4, .slice none 0 0), (9, .agg #[.int .i64 (cr), vcd]), (10, .bool ((tyS cr cd).isSome)), (11, .bool true), (12, .bool true)]) (⟨rfl, rfl, rfl, rfl, rfl, rfl, (congrArg (fun b => some (Value.bool b)) hg2e), (congrArg (fun b => some (Value.bool b)) hg2e), trivial⟩) rfl ?_
 replace hg2 := eq_false_of_not hg2
 refine G.skipG rfl rfl rfl rfl rfl rfl (G.skipG rfl rfl rfl rfl rfl rfl ?_)
 refine G.stepD (OD.pickT rfl rfl rfl) rfl rfl rfl ?_
 refine G.nil (GE.then_ (GC.condT rfl (GC.seq (GC.region ?_))))
 refine G.stepD (OD.assign rfl rfl) rfl rfl rfl ?_
 refine G.nil (GE.then_ (GC.ret (GE.passR ?_)))
 refine GE.many0 (ints 3) ?_
 refine GE.nilLst 22 ?_
 exact GE.body [0, 0] 1 (res1 rfl rfl) rfl (⟨(.slice none 0 0), [], rfl, IsS.nil, AllS.nil, (by rw [elOf_no hg2]; rfl), congrArg (fun (l0 : List (List Int)) => lst 22 (.slice none 0 0) [] :: many (ints 3) [] l0 :: own) (((elOf_no hg2).symm : [] = elOf cr cd x))⟩)
 have hg2e := hg2
 refine G.at [] 0 (env' := [(0, .agg #[.int .i64 (cr), vcd]), (1, .int .i64 (x)), (2, .pointer (some ⟨g1, 0, none⟩)), (4, .slice none 0 0), (9, .agg #[.int .i64 (cr), vcd]), (10, .bool ((tyS cr cd).isSome)), (11, .bool false), (12, .bool false)]) (⟨rfl, rfl, rfl, rfl, rfl, rfl, (congrArg (fun b => some (Value.bool b)) hg2e), (congrArg (fun b => some (Value.bool b)) hg2e), trivial⟩) rfl ?_
 replace hg2 := eq_true_of_not hg2
 refine G.stepGD (OD.move rfl rfl) rfl rfl rfl rfl rfl ?_
 refine G.stepGD (OD.lss rfl rfl rfl) rfl rfl rfl rfl rfl ?_
 refine G.stepD (OD.pickF rfl rfl rfl) rfl rfl rfl ?_
 refine G.nil (GE.then_ ?_)
 refine GC.cond rfl (fun hc3 => ?_) (fun hc3 => ?_)
 replace hc3 := of_decide_eq_true hc3
 refine GC.seq (GC.region ?_)
 refine G.stepD (OD.assign rfl rfl) rfl rfl rfl ?_
 refine G.nil (GE.then_ (GC.ret (GE.passR ?_)))
 refine GE.many0 (ints 3) ?_
 refine GE.nilLst 22 ?_
 exact GE.body [0, 0] 1 (res1 rfl rfl) rfl (⟨(.slice none 0 0), [], rfl, IsS.nil, AllS.nil, (by rw [elOf_neg (by omega)]; rfl), congrArg (fun (l0 : List (List Int)) => lst 22 (.slice none 0 0) [] :: many (ints 3) [] l0 :: own) (((elOf_neg (by omega)).symm : [] = elOf cr cd x))⟩)
 replace hc3 := of_decide_eq_false hc3
 have hS := hg2
 have hcr4 := (tyS_ok hS).1
 have hrs := (rtOk hS).slen
 have hrf := (rtOk hS).few
 have hcr4 := (tyS_ok hS).1
 have hrk := (rtOk hS).rk
 have hol := oAll_len cr cd (ones cr 1)
 refine GC.skip (GE.then_ (GC.seq (GC.region ?_)))
 refine G.step (OG.buildLst (xs := []) (us := []) rfl et39 rfl rfl rfl rfl rfl) rfl rfl rfl ?_
 rintro v4 _ ⟨hs5, rfl⟩
 refine G.stepD (OD.assign rfl rfl) rfl rfl rfl ?_
 refine G.nil (GE.then_ (GC.seq (GC.seq ?_)))
 refine GC.at [] 0 (env' := [(1, .int .i64 (x)), (2, .pointer (some ⟨g1, 0, none⟩)), (5, v4)]) ⟨rfl, rfl, rfl, trivial⟩ rfl ?_
 refine GC.par (its := [⟨17, [], [], [], [], fun _ => .agg #[.int .i64 (cr), vcd], fun _ => True, fun _ => []⟩,
     ⟨18, [], [], [], [], fun _ => .agg #[.int .i64 (cr), vcd], fun _ => True, fun _ => []⟩,
     ⟨19, [(1, 18)], [], [], [2], fun ds => ((ds.getD 0 []).getD 0 undef), fun ds => IsS ((ds.getD 0 []).getD 0 undef), fun ds => [ints 3 ((ds.getD 0 []).getD 0 undef) (ones cr 1)]⟩,
     ⟨20, [(0, 17), (2, 19)], [2], [], [2, 3], fun ds => ((ds.getD 1 []).getD 0 undef), fun ds => IsS ((ds.getD 1 []).getD 0 undef) ∧ AllS (usOf ((ds.getD 1 []).getD 1 undef)) ∧ (usOf ((ds.getD 1 []).getD 1 undef)).length = (oAll cr cd (ones cr 1)).length, fun ds => [lst 22 ((ds.getD 1 []).getD 0 undef) (usOf ((ds.getD 1 []).getD 1 undef)), many (ints 3) (usOf ((ds.getD 1 []).getD 1 undef)) (oAll cr cd (ones cr 1))]⟩,
     ⟨21, [(3, 20)], [2, 3], [], [2, 3], fun ds => .int .i64 (((usOf ((ds.getD 1 []).getD 1 undef)).length : Nat)), fun _ => True, fun _ => []⟩,
     ⟨22, [], [], [], [], fun _ => .int .i64 (0), fun _ => True, fun _ => []⟩]) (by kernel_rfl) (by kernel_rfl) (POps.cons ?_ (POps.cons ?_ (POps.cons ?_ (POps.cons ?_ (POps.cons ?_ (POps.cons ?_ POps.nil)))))) ?_
 intro θ R hd
 exact Opp.plain (OG.imp (OD.loadAgg rfl ti27 rfl (i := 1) rfl (us := [.int .i64 (cr), vcd]) rfl rfl) (by exact fun _ _ h=>pk h rfl trivial rfl)) rfl
 intro θ R hd
 exact Opp.plain (OG.imp (OD.loadAgg rfl ti27 rfl (i := 1) rfl (us := [.int .i64 (cr), vcd]) rfl rfl) (by exact fun _ _ h=>pk h rfl trivial rfl)) rfl
 rintro θ R ⟨h1d, _⟩
 exact Opp.plain (OG.imp (OG.call [.agg #[.int .i64 (cr), vcd]] ent63 rfl rfl rfl rfl (by exact (rho_w scd (Ent.drop 2 ecd.app) ((tyS_ok hS).1)))) (by rintro v6 _ ⟨_, rfl, hs7, rfl⟩; exact ⟨[v6], rfl, hs7, rfl⟩)) rfl
 rintro θ R ⟨h0d, h2d, _⟩
 exact Opp.plain (OG.imp (OG.call [.agg #[.int .i64 (cr), vcd], ((θ 2).getD 0 undef)] ent83 rfl rfl rfl rfl (by exact (orbit_w scd (Ent.drop 3 ecd.app) h2d (Ent.ints (i := 0) rfl) ((tyS_ok hS).1) ((tyS_ok hS).2) (by have h1 := (tyS_ok hS).1; rw [ones_len]; omega) (ones_64) ((Ent.drop 3 htab.app))))) (by rintro v8 _ ⟨_, u9, rfl, hs10, hs11, hs12, rfl⟩; exact ⟨[v8, .agg u9.toArray], rfl, ⟨hs10, hs11, hs12⟩, rfl⟩)) rfl
 rintro θ R ⟨h3d, _⟩
 exact Opp.plain (OG.imp (OD.len rfl rfl et39 rfl (Ent.lst (i := 1) rfl)) (by exact fun _ _ h=>pk h rfl trivial rfl)) rfl
 intro θ R hd
 exact Opp.plain (OG.imp (OD.move rfl rfl) (by exact fun _ _ h=>pk h rfl trivial rfl)) rfl
 intro θ hall
 obtain ⟨_, _, h2a, h3a, _, _, _⟩ := hall
 refine G.at [] 0 (env' := [(1, .int .i64 (x)), (2, .pointer (some ⟨g1, 0, none⟩)), (5, v4), (20, ((θ 3).getD 0 undef)), (21, .int .i64 (((usOf ((θ 3).getD 1 undef)).length : Nat))), (22, .int .i64 (0))]) ⟨rfl, rfl, rfl, rfl, rfl, rfl, trivial⟩ (own' := ints 3 ((θ 2).getD 0 undef) (ones cr 1) :: lst 22 ((θ 3).getD 0 undef) (usOf ((θ 3).getD 1 undef)) :: many (ints 3) (usOf ((θ 3).getD 1 undef)) (oAll cr cd (ones cr 1)) :: lst 22 v4 [] :: box g1 27 [.int .i64 (cr), vcd] :: own) rfl ?_
 have hs13 : IsS ((θ 2).getD 0 undef) := h2a
 clear h2a
 generalize ((θ 2).getD 0 undef) = v14 at *
 have hs15 : IsS ((θ 3).getD 0 undef) := h3a.1
 have hs16 : AllS (usOf ((θ 3).getD 1 undef)) := h3a.2.1
 have hs17 : (usOf ((θ 3).getD 1 undef)).length = (oAll cr cd (ones cr 1)).length := h3a.2.2
 clear h3a
 generalize ((θ 3).getD 0 undef) = v18 at *
 generalize (usOf ((θ 3).getD 1 undef)) = u19 at *
 show G _ _ _ [] _ _ _ _
 refine G.nil (GE.then_ (GC.block ?_))
 refine GC.many0 (ints 3) ?_
 refine GC.loop (ι := Nat × List Value × Value) (fun ⟨k, us, v⟩ => [(1, .int .i64 (x)), (2, .pointer (some ⟨g1, 0, none⟩)), (20, v18), (21, .int .i64 ((u19.length : Nat))), (5, v), (22, .int .i64 ((k : Int)))]) (fun ⟨k, us, v⟩ => many (ints 3) us (elUp cr cd ((x : Int).toNat) ((oAll cr cd (ones cr 1)).take k)) :: ints 3 v14 (ones cr 1) :: lst 22 v18 u19 :: many (ints 3) u19 (oAll cr cd (ones cr 1)) :: lst 22 v us :: box g1 27 [.int .i64 (cr), vcd] :: own) (fun ⟨k, us, v⟩ => (k ≤ (oAll cr cd (ones cr 1)).length) ∧ (AllS us) ∧ (us.length = (elUp cr cd ((x : Int).toNat) ((oAll cr cd (ones cr 1)).take k)).length) ∧ (IsS v)) (fun ⟨k, us, v⟩ => (oAll cr cd (ones cr 1)).length - k) (0, [], v4) (⟨by omega, AllS.nil, rfl, hs5⟩) ⟨rfl, rfl, rfl, rfl, rfl, rfl, trivial⟩ [] 0 rfl ?_
 rintro ⟨k, us, v⟩ ⟨hk, ha, hul, hv⟩
 have hgl : (elUp cr cd ((x : Int).toNat) ((oAll cr cd (ones cr 1)).take k)).length ≤ 1204 := by have h1 := elUp_len cr cd ((x : Int).toNat) ((oAll cr cd (ones cr 1)).take k); rw [List.length_take] at h1; omega
 refine GC.seq (GC.region ?_)
 refine G.stepD (OD.lss rfl rfl rfl) rfl rfl rfl ?_
 refine G.nil (GE.then_ (GC.seq ?_))
 refine GC.cond rfl (fun hc20 => ?_) (fun hc20 => ?_)
 replace hc20 := of_decide_eq_true hc20
 have hkm := getD_mem (L := (oAll cr cd (ones cr 1))) (k := k) (by omega)
 obtain ⟨hnl, hnq, hnb⟩ := nw_of hS hkm
 have hbd := ((wlOk hS).orR _ hkm).bd (wlOk hS) (phOk hS)
 have hnk : (nwF cr cd ((oAll cr cd (ones cr 1)).getD k [])).length ≤ 16001 := nwF_len _ _ _
 refine GC.skip (GE.then_ (GC.seq (GC.block (GC.seq (GC.region ?_)))))
 refine G.stepD (OD.indexAddr rfl et39 rfl (Ent.lst (i := 2) rfl) rfl (by omega)) rfl rfl rfl ?_
 refine G.stepD (OD.loadElem rfl ti22 rfl (Ent.lst (i := 2) rfl) (by omega) rfl) rfl rfl rfl ?_
 refine G.stepD (OD.assign rfl rfl) rfl rfl rfl ?_
 refine G.nil (GE.then_ (GC.seq (GC.region ?_)))
 refine G.stepD (OD.loadAgg rfl ti27 rfl (i := 5) rfl (us := [.int .i64 (cr), vcd]) rfl rfl) rfl rfl rfl ?_
 refine G.stepD (OD.move rfl rfl) rfl rfl rfl ?_
 refine G.step (OG.call [.agg #[.int .i64 (cr), vcd], (u19.getD (k) undef)] ent61 rfl rfl rfl rfl (by exact (normalOf_w scd (Ent.drop 6 ecd) (hs16.get (by omega)) (Ent.manyInts (i := 3) rfl ⟨by first | omega | (simp; omega), by first | omega | (simp; omega)⟩) ((tyS_ok hS).1) ((tyS_ok hS).2) (phOk hS) (hbd)))) rfl rfl rfl ?_
 rintro v21 _ ⟨_, rfl, hs22, rfl⟩
 refine G.stepD (OD.assign rfl rfl) rfl rfl rfl ?_
 refine G.nil (GE.then_ (GC.seq (GC.region ?_)))
 refine G.stepD (OD.move rfl rfl) rfl rfl rfl ?_
 refine G.stepD (OD.len rfl rfl et22 rfl (Ent.ints (i := 0) rfl)) rfl rfl rfl ?_
 refine G.stepD (OD.move rfl rfl) rfl rfl rfl ?_
 refine G.stepD (OD.eql rfl rfl rfl) rfl rfl rfl ?_
 refine G.nil (GE.then_ ?_)
 refine GC.cond rfl (fun hc23 => ?_) (fun hc23 => ?_)
 replace hc23 := eq_of_beq hc23
 refine GC.region ?_
 refine G.stepD (OD.move rfl rfl) rfl rfl rfl ?_
 refine G.stepD (OD.move rfl rfl) rfl rfl rfl ?_
 refine G.step (OG.buildLst (xs := [.tmp 34]) (us := [v21]) rfl et39 rfl rfl rfl (allC (IsS.one hs22) rfl) rfl) rfl rfl rfl ?_
 rintro v24 _ ⟨hs25, rfl⟩
 refine G.step (OG.appendLst 6 rfl rfl et39 rfl rfl rfl (Ent.lst (i := 0) rfl) (List.all_eq_true.2 fun u hu => by simpa using (AllS.snoc AllS.nil hs22).one u hu) (by simp [maxLen] <;> omega)) rfl rfl rfl ?_
 rintro v26 _ ⟨hs27, rfl⟩
 refine G.stepD (OD.assign rfl rfl) rfl rfl rfl ?_
 refine G.nil (GE.blockN (GE.then_ (GC.region ?_)))
 refine G.stepD (OD.addI rfl rfl rfl (by omega)) rfl rfl rfl ?_
 refine G.stepD (OD.move rfl rfl) rfl rfl rfl ?_
 refine G.nil ?_
 refine GE.at [1, 1, 0, 0, 0, 0, 0, 0] 0 (env' := [(1, .int .i64 (x)), (2, .pointer (some ⟨g1, 0, none⟩)), (20, v18), (21, .int .i64 ((u19.length : Nat))), (23, .bool (decide ((k : Int) < (u19.length : Nat)))), (24, elemPtr v18 1 (k)), (25, (u19.getD (k) undef)), (7, (u19.getD (k) undef)), (26, .agg #[.int .i64 (cr), vcd]), (27, (u19.getD (k) undef)), (28, v21), (8, v21), (29, v21), (30, .int .i64 (((nwF cr cd ((oAll cr cd (ones cr 1)).getD (k) [])).length : Nat))), (31, .int .i64 (x)), (32, .bool (((nwF cr cd ((oAll cr cd (ones cr 1)).getD (k) [])).length : Nat) == x)), (33, v), (34, v21), (35, v24), (36, v26), (5, v26), (37, .int .i64 ((k : Int) + 1)), (22, .int .i64 ((k : Int) + 1))]) ⟨rfl, rfl, rfl, rfl, rfl, rfl, rfl, rfl, rfl, rfl, rfl, rfl, rfl, rfl, rfl, rfl, rfl, rfl, rfl, rfl, rfl, rfl, rfl, trivial⟩ (own' := ints 3 v21 (nwF cr cd ((oAll cr cd (ones cr 1)).getD (k) [])) :: many (ints 3) us (elUp cr cd ((x : Int).toNat) ((oAll cr cd (ones cr 1)).take k)) :: lst 22 v24 [v21] :: ints 3 v14 (ones cr 1) :: lst 22 v18 u19 :: many (ints 3) u19 (oAll cr cd (ones cr 1)) :: lst 22 v26 (us ++ [v21]) :: box g1 27 [.int .i64 (cr), vcd] :: own) rfl ?_
 refine GE.manyPush (by omega) ?_
 refine GE.ownEq (own' := many (ints 3) (us ++ [v21]) (elUp cr cd ((x : Int).toNat) ((oAll cr cd (ones cr 1)).take (k + 1))) :: lst 22 v24 [v21] :: ints 3 v14 (ones cr 1) :: lst 22 v18 u19 :: many (ints 3) u19 (oAll cr cd (ones cr 1)) :: lst 22 v26 (us ++ [v21]) :: box g1 27 [.int .i64 (cr), vcd] :: own) (by (try dsimp only); rw [take_getL (by omega), elUp_yes (by omega)]) ?_
 exact GE.again (k + 1, us ++ [v21], v26) (⟨by omega, (ha.snoc hs22), by rw [take_getL (by omega), elUp_yes (by omega), List.length_append, List.length_append]; simp; omega, hs27⟩) (by first | omega | (dsimp only; omega)) ⟨rfl, rfl, rfl, rfl, rfl, rfl, trivial⟩ [0, 1, 1, 1, 1, 1] 1 rfl
 replace hc23 := ne_of_beq_false hc23
 refine GC.skip (GE.blockN (GE.then_ (GC.region ?_)))
 refine G.stepD (OD.addI rfl rfl rfl (by omega)) rfl rfl rfl ?_
 refine G.stepD (OD.move rfl rfl) rfl rfl rfl ?_
 refine G.nil ?_
 refine GE.ownEq (own' := ints 3 v21 (nwF cr cd ((oAll cr cd (ones cr 1)).getD (k) [])) :: many (ints 3) us (elUp cr cd ((x : Int).toNat) ((oAll cr cd (ones cr 1)).take (k + 1))) :: ints 3 v14 (ones cr 1) :: lst 22 v18 u19 :: many (ints 3) u19 (oAll cr cd (ones cr 1)) :: lst 22 v us :: box g1 27 [.int .i64 (cr), vcd] :: own) (by (try dsimp only); rw [take_getL (by omega), elUp_no (by omega)]) ?_
 exact GE.again (k + 1, us, v) (⟨by omega, ha, by rw [take_getL (by omega), elUp_no (by omega)]; omega, hv⟩) (by first | omega | (dsimp only; omega)) ⟨rfl, rfl, rfl, rfl, rfl, rfl, trivial⟩ [1, 1, 1, 1, 1, 1] 1 rfl
 replace hc20 := of_decide_eq_false hc20
 have hall : elUp cr cd ((x : Int).toNat) ((oAll cr cd (ones cr 1)).take k) = elM cr cd ((x : Int).toNat) := by rw [List.take_of_length_le (by omega)]; rfl
 have hge : ∀ y ∈ elUp cr cd ((x : Int).toNat) ((oAll cr cd (ones cr 1)).take k), y.length ≤ 24 := fun y hy => by rw [hall] at hy; exact elM_ent hS hy
 refine GC.exit (GE.pass (GE.pass (GE.hit (GE.then_ (GC.seq (GC.region ?_))))))
 refine G.stepD (OD.move rfl rfl) rfl rfl rfl ?_
 refine G.at [4, 0, 0, 0, 0, 0] 0 (env' := [(1, .int .i64 (x)), (2, .pointer (some ⟨g1, 0, none⟩)), (20, v18), (21, .int .i64 ((u19.length : Nat))), (5, v), (22, .int .i64 ((k : Int))), (23, .bool (decide ((k : Int) < (u19.length : Nat)))), (38, v)]) ⟨rfl, rfl, rfl, rfl, rfl, rfl, rfl, rfl, trivial⟩ (own' := lst 22 v us :: many (ints 3) us (elUp cr cd ((x : Int).toNat) ((oAll cr cd (ones cr 1)).take k)) :: ints 3 v14 (ones cr 1) :: lst 22 v18 u19 :: many (ints 3) u19 (oAll cr cd (ones cr 1)) :: box g1 27 [.int .i64 (cr), vcd] :: own) rfl ?_
 refine G.step (OG.call [v, .func (.func 88) #[] #[]] ent86 rfl rfl rfl rfl (by exact (sort_any strict_cmpL tells_cmpL ent88 hv ha hul (by omega) (fun y hy => Nat.le_trans (hge y hy) (by decide))))) rfl rfl rfl ?_
 rintro _ _ ⟨ws, xs, rfl, haw, hlw, hpw, hsw, rfl⟩
 rw [hall] at hpw
 obtain rfl := el_unique hS hpw hsw
 have hfin : elF cr cd ((x : Int).toNat) = elOf cr cd x := (elOf_yes hS (by omega)).symm
 skip
 refine G.nil (GE.then_ (GC.seq (GC.region ?_)))
 refine G.stepD (OD.move rfl rfl) rfl rfl rfl ?_
 refine G.stepD (OD.assign rfl rfl) rfl rfl rfl ?_
 refine G.nil (GE.then_ (GC.ret ?_))
 exact GE.body [0, 0] 4 (res1 rfl rfl) rfl (⟨v, ws, rfl, hv, haw, (by rw [← hfin]; exact hlw), congrArg (fun (l0 : List (List Int)) => lst 22 v ws :: many (ints 3) ws l0 :: own) ((hfin : elF cr cd ((x : Int).toNat) = elOf cr cd x))⟩)
end Go.Proofs.YtgelkakjmbiibaaGreatDoor
