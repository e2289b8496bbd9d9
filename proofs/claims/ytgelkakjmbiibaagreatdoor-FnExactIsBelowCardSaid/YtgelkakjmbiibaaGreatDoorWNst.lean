/-
  Lists of lists: the helpers of the laws; copies.
-/
import Derived.Test.YtgelkakjmbiibaaGreatDoorFct
import Derived.Test.YtgelkakjmbiibaaGreatDoorWRhoA
import Derived.Test.YtgelkakjmbiibaaGreatDoorZ11
namespace Go.Proofs.YtgelkakjmbiibaaGreatDoor
set_option linter.unusedVariables false
set_option linter.unusedSimpArgs false
open Go.RowKit
set_option maxRecDepth 100000 in
theorem copyLists_w {W : World} {own : List Asn} {vx : Value} {ux : List Value} {x : List (List Int)}  (sx : IsS vx) (ex : Ent own fun w => Sl w vx x.length 1 ux) (mx : ∀ k, k < x.length → Ent own fun w => Ints w (ux.getD k undef) (x.getD k [])) (lx : ux.length = x.length) (ax : AllS ux)  (hlx : x.length ≤ 100000) (hle : ∀ k, k < x.length → (x.getD k []).length ≤ 1000) : Spec Tryz.prog 93 [vx] W own (fun v ow => ∃ (r0 : Value) (u0 : List Value), v = r0 ∧ IsS r0 ∧ AllS u0 ∧ u0.length = x.length ∧ ow = lst 22 r0 u0 :: many (ints 3) u0 x :: own) := by
 refine Spec.enter Tryz.f93 _ Tryz.func93 rfl (n := 20) rfl rfl ?_
 refine GC.seq (GC.region ?_)
 refine G.stepD (OD.assign rfl rfl) rfl rfl rfl ?_
 refine G.nil (GE.then_ (GC.seq (GC.region ?_)))
 refine G.step (OG.buildLst (xs := []) (us := []) rfl et39 rfl rfl rfl rfl rfl) rfl rfl rfl ?_
 rintro v1 _ ⟨hs2, rfl⟩
 refine G.stepD (OD.assign rfl rfl) rfl rfl rfl ?_
 refine G.nil (GE.then_ (GC.seq (GC.seq (GC.region ?_))))
 refine G.stepD (OD.move rfl rfl) rfl rfl rfl ?_
 refine G.stepD (OD.len rfl rfl et39 rfl (Ent.drop 1 ex)) rfl rfl rfl ?_
 refine G.stepD (OD.move rfl rfl) rfl rfl rfl ?_
 refine G.nil (GE.then_ (GC.block ?_))
 refine GC.many0 (ints 3) ?_
 refine GC.loop (ι := Nat × List Value × Value) (fun ⟨p, us, v⟩ => [(7, vx), (8, .int .i64 ((x.length : Nat))), (3, v), (9, .int .i64 ((p : Int)))]) (fun ⟨p, us, v⟩ => many (ints 3) us (x.take p) :: lst 22 v us :: own) (fun ⟨p, us, v⟩ => (p ≤ x.length) ∧ (AllS us) ∧ (us.length = p) ∧ (IsS v)) (fun ⟨p, us, v⟩ => x.length - p) (0, [], v1) (⟨by omega, AllS.nil, rfl, hs2⟩) ⟨rfl, rfl, rfl, rfl, trivial⟩ [] 0 rfl ?_
 rintro ⟨p, us, v⟩ ⟨hp, ha, hul, hv⟩
 have htl : (x.take p).length = p := by rw [List.length_take]; omega
 refine GC.seq (GC.region ?_)
 refine G.stepD (OD.lss rfl rfl rfl) rfl rfl rfl ?_
 refine G.nil (GE.then_ (GC.seq ?_))
 refine GC.cond rfl (fun hc3 => ?_) (fun hc3 => ?_)
 replace hc3 := of_decide_eq_true hc3
 refine GC.skip (GE.then_ (GC.seq (GC.block (GC.seq (GC.region ?_)))))
 refine G.stepD (OD.indexAddr rfl et39 rfl (Ent.drop 2 ex) rfl (by omega)) rfl rfl rfl ?_
 refine G.stepD (OD.loadElem rfl ti22 rfl (Ent.drop 2 ex) (by omega) rfl) rfl rfl rfl ?_
 refine G.stepD (OD.assign rfl rfl) rfl rfl rfl ?_
 refine G.nil (GE.then_ (GC.region ?_))
 refine G.stepD (OD.move rfl rfl) rfl rfl rfl ?_
 refine G.stepD (OD.move rfl rfl) rfl rfl rfl ?_
 refine G.step (OG.call [(ux.getD (p) undef)] ent76 rfl rfl rfl rfl (by exact (clone_w (ax.get (by omega)) (Ent.drop 2 (mx (p) (by omega))) (Nat.le_trans (hle p (by omega)) (by decide))))) rfl rfl rfl ?_
 rintro v4 _ ⟨_, rfl, hs5, rfl⟩
 refine G.step (OG.buildLst (xs := [.tmp 15]) (us := [v4]) rfl et39 rfl rfl rfl (allC (IsS.one hs5) rfl) rfl) rfl rfl rfl ?_
 rintro v6 _ ⟨hs7, rfl⟩
 refine G.step (OG.appendLst 3 rfl rfl et39 rfl rfl rfl (Ent.lst (i := 0) rfl) (List.all_eq_true.2 fun u hu => by simpa using (AllS.snoc AllS.nil hs5).one u hu) (by simp [maxLen] <;> omega)) rfl rfl rfl ?_
 rintro v8 _ ⟨hs9, rfl⟩
 refine G.stepD (OD.assign rfl rfl) rfl rfl rfl ?_
 refine G.nil (GE.blockN (GE.then_ (GC.region ?_)))
 refine G.stepD (OD.addI rfl rfl rfl (by omega)) rfl rfl rfl ?_
 refine G.stepD (OD.move rfl rfl) rfl rfl rfl ?_
 refine G.nil ?_
 refine GE.at [1, 1, 0, 0] 0 (env' := [(7, vx), (8, .int .i64 ((x.length : Nat))), (10, .bool (decide ((p : Int) < (x.length : Nat)))), (11, elemPtr vx 1 (p)), (12, (ux.getD (p) undef)), (5, (ux.getD (p) undef)), (13, v), (14, (ux.getD (p) undef)), (15, v4), (16, v6), (17, v8), (3, v8), (18, .int .i64 ((p : Int) + 1)), (9, .int .i64 ((p : Int) + 1))]) ⟨rfl, rfl, rfl, rfl, rfl, rfl, rfl, rfl, rfl, rfl, rfl, rfl, rfl, rfl, trivial⟩ (own' := ints 3 v4 (x.getD (p) []) :: many (ints 3) us (x.take p) :: lst 22 v6 [v4] :: lst 22 v8 (us ++ [v4]) :: own) rfl ?_
 refine GE.manyPush (by omega) ?_
 refine GE.ownEq (own' := many (ints 3) (us ++ [v4]) (x.take (p + 1)) :: lst 22 v6 [v4] :: lst 22 v8 (us ++ [v4]) :: own) (by rw [takeD_snoc (d := []) (by omega)]) ?_
 exact GE.again (p + 1, us ++ [v4], v8) (⟨by omega, (ha.snoc hs5), by rw [List.length_append, List.length_singleton]; omega, hs9⟩) (by first | omega | (dsimp only; omega)) ⟨rfl, rfl, rfl, rfl, trivial⟩ [0, 1] 1 rfl
 replace hc3 := of_decide_eq_false hc3
 refine GC.exit (GE.pass (GE.pass (GE.hit (GE.then_ (GC.seq (GC.region ?_))))))
 refine G.stepD (OD.move rfl rfl) rfl rfl rfl ?_
 refine G.stepD (OD.assign rfl rfl) rfl rfl rfl ?_
 refine G.nil (GE.then_ (GC.ret ?_))
 exact GE.body [1, 0] 0 (res1 rfl rfl) rfl (⟨v, us, rfl, hv, ha, (by omega), congrArg (fun (l0 : List (List Int)) => lst 22 v us :: many (ints 3) us l0 :: own) ((List.take_of_length_le (by omega) : x.take p = x))⟩)
end Go.Proofs.YtgelkakjmbiibaaGreatDoor
