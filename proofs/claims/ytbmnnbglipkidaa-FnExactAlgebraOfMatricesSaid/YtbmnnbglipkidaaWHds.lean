/-
  Slices of matrices, the helpers of the laws: contracts by walks.
-/
import Derived.Test.YtbmnnbglipkidaaWHelp
import Derived.Test.YtbmnnbglipkidaaHds
namespace Go.Proofs.Ytbmnnbglipkidaa
set_option linter.unusedVariables false
set_option linter.unusedSimpArgs false
open Go.RowKit
theorem et22 : ET Try.prog 22 38 4 48 (.agg #[.int .i64 (0), .int .i64 (0), .int .i64 (0), .slice none 0 0]) := ⟨Try.underlying22, by kernel_rfl, rfl, by omega⟩
theorem et29 : ET Try.prog 29 41 4 48 (.agg #[.int .i64 (0), .int .i64 (0), .int .i64 (0), .slice none 0 0]) := ⟨Try.underlying29, by kernel_rfl, rfl, by omega⟩
theorem ent13 : ∀ us w, (callFunc 13 us).run Try.prog w = .ok (.enter 13 us) w := fun us w => by kernel_rfl
theorem ent19 : ∀ us w, (callFunc 19 us).run Try.prog w = .ok (.enter 19 us) w := fun us w => by kernel_rfl
theorem ent28 : ∀ us w, (callFunc 28 us).run Try.prog w = .ok (.enter 28 us) w := fun us w => by kernel_rfl
set_option maxRecDepth 100000 in
theorem szMatrixS_s {W : World} {own : List Asn} {vx : Value} {ux : List Value} {hx : List Hd} {dx : List (List Int)} {q : Int}  (sx : IsS vx) (ex : Ent own fun w => Hds w vx ux hx) (mx : ∀ k, k < hx.length → Ent own fun w => Ints w (ux.getD k undef) (dx.getD k [])) (lx : ux.length = hx.length) (kx : dx.length = hx.length) (ax : AllS ux)   (hq : 0 ≤ q ∧ q ≤ 1048576) (hlx : hx.length ≤ 9223372036854775807) (hle : ∀ k, k < hx.length → (dx.getD k []).length ≤ 9223372036854775807) : Spec Try.prog 4 [vx, .int .i64 (q)] W own (fun v ow => v = .int .i64 (szM dx q) ∧ ow = own) := by
 refine Spec.enter Try.f4 _ Try.func4 rfl (n := 27) rfl rfl ?_
 refine GC.seq (GC.region ?_)
 refine G.stepD (OD.assign rfl rfl) rfl rfl rfl ?_
 refine G.nil (GE.then_ (GC.seq (GC.region ?_)))
 refine G.stepD (OD.move rfl rfl) rfl rfl rfl ?_
 refine G.stepD (OD.move rfl rfl) rfl rfl rfl ?_
 refine G.stepD (OD.len rfl rfl et22 rfl ex) rfl rfl rfl ?_
 refine G.stepD (OD.subI rfl rfl rfl (by omega)) rfl rfl rfl ?_
 refine G.stepD (OD.assign rfl rfl) rfl rfl rfl ?_
 refine G.nil (GE.then_ (GC.seq (GC.seq (GC.region ?_))))
 refine G.stepD (OD.move rfl rfl) rfl rfl rfl ?_
 refine G.stepD (OD.lss rfl rfl rfl) rfl rfl rfl ?_
 refine G.nil (GE.then_ ?_)
 refine GC.cond rfl (fun hc1 => ?_) (fun hc1 => ?_)
 replace hc1 := of_decide_eq_true hc1
 refine GC.seq (GC.region ?_)
 refine G.stepD (OD.assign rfl rfl) rfl rfl rfl ?_
 refine G.nil (GE.then_ (GC.ret (GE.passR ?_)))
 exact GE.body [] 0 (res1 rfl rfl) rfl (⟨congrArg (fun (a0 : Int) => (.int .i64 (a0) : Value)) ((by rw [szM, if_pos (by omega)] : (-1 : Int) = szM dx q)), rfl⟩)
 replace hc1 := of_decide_eq_false hc1
 refine GC.skip (GE.then_ (GC.seq (GC.seq (GC.region ?_))))
 refine G.stepD (OD.assign rfl rfl) rfl rfl rfl ?_
 refine G.nil (GE.then_ (GC.block ?_))
 refine GC.loop (ι := Nat × Int) (fun ⟨k, c⟩ => [(0, vx), (1, .int .i64 (c)), (5, .int .i64 ((k : Int)))]) (fun ⟨k, c⟩ => own) (fun ⟨k, c⟩ => (k ≤ hx.length) ∧ (0 ≤ c ∧ c ≤ 1048576) ∧ (szD (dx.drop k) c = szD dx (q - dx.length))) (fun ⟨k, c⟩ => hx.length - k) (0, q - (hx.length : Nat)) (⟨by omega, by omega, by rw [kx]; rfl⟩) ⟨rfl, rfl, rfl, trivial⟩ [] 0 rfl ?_
 rintro ⟨k, c⟩ ⟨hk, hc, hz⟩
 refine GC.seq (GC.seq (GC.region ?_))
 refine G.stepD (OD.move rfl rfl) rfl rfl rfl ?_
 refine G.stepD (OD.move rfl rfl) rfl rfl rfl ?_
 refine G.stepD (OD.len rfl rfl et22 rfl ex) rfl rfl rfl ?_
 refine G.stepD (OD.lss rfl rfl rfl) rfl rfl rfl ?_
 refine G.nil (GE.then_ ?_)
 refine GC.cond rfl (fun hc2 => ?_) (fun hc2 => ?_)
 replace hc2 := of_decide_eq_true hc2
 refine GC.skip (GE.then_ (GC.seq (GC.block (GC.seq (GC.region ?_)))))
 refine G.stepD (OD.move rfl rfl) rfl rfl rfl ?_
 refine G.stepD (OD.move rfl rfl) rfl rfl rfl ?_
 refine G.stepD (OD.indexAddr rfl et22 rfl ex rfl (by omega)) rfl rfl rfl ?_
 refine G.stepD (OD.loadHd rfl ti38 rfl ex (by omega)) rfl rfl rfl ?_
 refine G.stepD (OD.move rfl rfl) rfl rfl rfl ?_
 refine G.step (OG.call [.agg #[.int .i64 ((hx.getD (k) hd0).1), .int .i64 ((hx.getD (k) hd0).2.1), .int .i64 ((hx.getD (k) hd0).2.2), (ux.getD (k) undef)], .int .i64 (c)] ent13 rfl rfl rfl rfl (by exact (szMatrix_s (ax.get (by omega)) ((mx (k) (by omega))) (hc) (hle _ (by omega))))) rfl rfl rfl ?_
 rintro _ _ ⟨rfl, hzz⟩; obtain rfl := hzz.symm
 refine G.stepD (OD.assign rfl rfl) rfl rfl rfl ?_
 refine G.nil (GE.then_ (GC.seq (GC.region ?_)))
 refine G.stepD (OD.move rfl rfl) rfl rfl rfl ?_
 refine G.stepD (OD.lss rfl rfl rfl) rfl rfl rfl ?_
 refine G.nil (GE.then_ ?_)
 refine GC.cond rfl (fun hc3 => ?_) (fun hc3 => ?_)
 replace hc3 := of_decide_eq_true hc3
 refine GC.seq (GC.region ?_)
 refine G.stepD (OD.assign rfl rfl) rfl rfl rfl ?_
 refine G.nil (GE.then_ (GC.ret (GE.blockR (GE.passR (GE.passR (GE.blockR (GE.passR ?_)))))))
 exact GE.body [] 0 (res1 rfl rfl) rfl (⟨congrArg (fun (a0 : Int) => (.int .i64 (a0) : Value)) ((by rw [szM, if_neg (by omega)]; exact ((szD_step (by omega) hz).1 hc3).symm : (-1 : Int) = szM dx q)), rfl⟩)
 replace hc3 := of_decide_eq_false hc3
 refine GC.skip (GE.blockN (GE.then_ (GC.region ?_)))
 refine G.stepD (OD.move rfl rfl) rfl rfl rfl ?_
 refine G.stepD (OD.addI rfl rfl rfl (by omega)) rfl rfl rfl ?_
 refine G.stepD (OD.assign rfl rfl) rfl rfl rfl ?_
 refine G.nil ?_
 exact GE.again (k + 1, szG (dx.getD (k) []).length c) (⟨by omega, by have := szG_le (n := (dx.getD k []).length) hc.1; omega, (szD_step (by omega) hz).2 hc3⟩) (by first | omega | (dsimp only; omega)) ⟨rfl, rfl, rfl, trivial⟩ [] 0 rfl
 replace hc2 := of_decide_eq_false hc2
 refine GC.exit (GE.pass (GE.pass (GE.hit (GE.then_ (GC.seq (GC.region ?_))))))
 refine G.stepD (OD.move rfl rfl) rfl rfl rfl ?_
 refine G.stepD (OD.assign rfl rfl) rfl rfl rfl ?_
 refine G.nil (GE.then_ (GC.ret ?_))
 exact GE.body [] 0 (res1 rfl rfl) rfl (⟨congrArg (fun (a0 : Int) => (.int .i64 (a0) : Value)) ((by rw [szM, if_neg (by omega)]; exact szD_end (by omega) hz : (c : Int) = szM dx q)), rfl⟩)
set_option maxRecDepth 100000 in
theorem toMatrixS_s {W : World} {own : List Asn} {vx : Value} {ux : List Value} {hx : List Hd} {dx : List (List Int)}  (sx : IsS vx) (ex : Ent own fun w => Hds w vx ux hx) (mx : ∀ k, k < hx.length → Ent own fun w => Ints w (ux.getD k undef) (dx.getD k [])) (lx : ux.length = hx.length) (kx : dx.length = hx.length) (ax : AllS ux)  (hlx : hx.length ≤ 1073741824) (hle : ∀ k, k < hx.length → (dx.getD k []).length ≤ 1073741824) : Spec Try.prog 6 [vx] W own (fun v ow => ∃ (r0 : Value) (u0 : List Value), v = r0 ∧ IsS r0 ∧ AllS u0 ∧ u0.length = hx.length ∧ ow = hds 41 r0 u0 hx :: many (ints 3) u0 dx :: own) := by
 have hxt : ∀ k, (hx.take k).length ≤ hx.length := fun k => by simp; omega
 refine Spec.enter Try.f6 _ Try.func6 rfl (n := 23) rfl rfl ?_
 refine GC.seq (GC.region ?_)
 refine G.stepD (OD.assign rfl rfl) rfl rfl rfl ?_
 refine G.nil (GE.then_ (GC.seq (GC.region ?_)))
 refine G.stepD (OD.move rfl rfl) rfl rfl rfl ?_
 refine G.stepD (OD.len rfl rfl et22 rfl ex) rfl rfl rfl ?_
 refine G.step (OG.makeHds rfl et29 rfl rfl (by omega) (by omega) (by simp only [maxLen]; omega)) rfl rfl rfl ?_
 rintro v1 _ ⟨hs2, rfl⟩
 refine G.stepD (OD.assign rfl rfl) rfl rfl rfl ?_
 refine G.nil (GE.then_ (GC.seq (GC.seq (GC.region ?_))))
 refine G.stepD (OD.assign rfl rfl) rfl rfl rfl ?_
 refine G.nil (GE.then_ (GC.block ?_))
 refine GC.many0 (ints 3) ?_
 refine GC.loop (ι := Nat × List Value) (fun ⟨k, us⟩ => [(0, vx), (3, v1), (4, .int .i64 ((k : Int)))]) (fun ⟨k, us⟩ => many (ints 3) us (dx.take k) :: hdp 41 v1 us (hx.take k) (((hx.length : Nat) : Int).toNat) :: own) (fun ⟨k, us⟩ => (k ≤ hx.length) ∧ (us.length = k) ∧ (AllS us)) (fun ⟨k, us⟩ => hx.length - k) (0, []) (⟨by omega, rfl, AllS.nil⟩) ⟨rfl, rfl, rfl, trivial⟩ [] 0 rfl ?_
 rintro ⟨k, us⟩ ⟨hk, hul, hus⟩
 refine GC.seq (GC.seq (GC.region ?_))
 refine G.stepD (OD.move rfl rfl) rfl rfl rfl ?_
 refine G.stepD (OD.move rfl rfl) rfl rfl rfl ?_
 refine G.stepD (OD.len rfl rfl et22 rfl (Ent.drop 2 ex)) rfl rfl rfl ?_
 refine G.stepD (OD.lss rfl rfl rfl) rfl rfl rfl ?_
 refine G.nil (GE.then_ ?_)
 refine GC.cond rfl (fun hc3 => ?_) (fun hc3 => ?_)
 replace hc3 := of_decide_eq_true hc3
 refine GC.skip (GE.then_ (GC.seq (GC.block (GC.region ?_))))
 refine G.stepD (OD.move rfl rfl) rfl rfl rfl ?_
 refine G.stepD (OD.move rfl rfl) rfl rfl rfl ?_
 refine G.stepD (OD.move rfl rfl) rfl rfl rfl ?_
 refine G.stepD (OD.move rfl rfl) rfl rfl rfl ?_
 refine G.stepD (OD.indexAddr rfl et22 rfl (Ent.drop 2 ex) rfl (by omega)) rfl rfl rfl ?_
 refine G.stepD (OD.loadHd rfl ti38 rfl (Ent.drop 2 ex) (by omega)) rfl rfl rfl ?_
 refine G.step (OG.call [.agg #[.int .i64 ((hx.getD (k) hd0).1), .int .i64 ((hx.getD (k) hd0).2.1), .int .i64 ((hx.getD (k) hd0).2.2), (ux.getD (k) undef)]] ent19 rfl rfl rfl rfl (by exact (toMatrix_s (ax.get (by omega)) (Ent.drop 2 (mx (k) (by omega))) (hle _ (by omega))))) rfl rfl rfl ?_
 rintro _ _ ⟨v4, rfl, hs5, rfl⟩
 refine G.stepD (OD.indexAddr rfl et29 rfl (Ent.hdp (i := 2) rfl) rfl (by omega)) rfl rfl rfl ?_
 refine G.stepD0 (OD.storeHd (r := ((hx.getD (k) hd0).1, (hx.getD (k) hd0).2.1, (hx.getD (k) hd0).2.2)) rfl ti41 rfl rfl hs5 (i := 2) rfl (by first | omega | (simp; omega)) (by first | omega | (simp; omega)) (by first | omega | (simp; omega))) rfl rfl ?_
 refine G.nil (GE.blockN (GE.then_ (GC.region ?_)))
 refine G.stepD (OD.move rfl rfl) rfl rfl rfl ?_
 refine G.stepD (OD.addI rfl rfl rfl (by omega)) rfl rfl rfl ?_
 refine G.stepD (OD.assign rfl rfl) rfl rfl rfl ?_
 refine G.nil ?_
 refine GE.at [0, 0, 0] 0 (env' := [(0, vx), (3, v1), (8, .int .i64 ((k : Int))), (9, vx), (10, .int .i64 ((hx.length : Nat))), (11, .bool (decide ((k : Int) < (hx.length : Nat)))), (14, v1), (15, .int .i64 ((k : Int))), (16, vx), (17, .int .i64 ((k : Int))), (18, elemPtr vx 4 (k)), (19, .agg #[.int .i64 ((hx.getD (k) hd0).1), .int .i64 ((hx.getD (k) hd0).2.1), .int .i64 ((hx.getD (k) hd0).2.2), (ux.getD (k) undef)]), (20, .agg #[.int .i64 ((hx.getD (k) hd0).1), .int .i64 ((hx.getD (k) hd0).2.1), .int .i64 ((hx.getD (k) hd0).2.2), v4]), (21, elemPtr v1 4 (k)), (12, .int .i64 ((k : Int))), (13, .int .i64 ((k : Int) + 1)), (4, .int .i64 ((k : Int) + 1))]) ⟨rfl, rfl, rfl, rfl, rfl, rfl, rfl, rfl, rfl, rfl, rfl, rfl, rfl, rfl, rfl, rfl, rfl, trivial⟩ (own' := ints 3 v4 (dx.getD (k) []) :: many (ints 3) us (dx.take k) :: hdp 41 v1 (us ++ [v4]) ((hx.take k) ++ [((hx.getD (k) hd0).1, (hx.getD (k) hd0).2.1, (hx.getD (k) hd0).2.2)]) (((hx.length : Nat) : Int).toNat) :: own) rfl ?_
 refine GE.manyPush (A := ints 3) (x := dx.getD (k) []) (by simp; omega) ?_
 refine GE.ownEq (own' := many (ints 3) (us ++ [v4]) (dx.take (k + 1)) :: hdp 41 v1 (us ++ [v4]) (hx.take (k + 1)) (((hx.length : Nat) : Int).toNat) :: own) (by rw [hd_take (by omega), li_take (by omega)]) ?_
 exact GE.again (k + 1, us ++ [v4]) (⟨by omega, by rw [List.length_append, List.length_singleton]; omega, (hus.snoc hs5)⟩) (by first | omega | (dsimp only; omega)) ⟨rfl, rfl, rfl, trivial⟩ [] 0 rfl
 replace hc3 := of_decide_eq_false hc3
 refine GC.exit (GE.pass (GE.pass (GE.hit (GE.then_ (GC.seq (GC.region ?_))))))
 refine G.stepD (OD.move rfl rfl) rfl rfl rfl ?_
 refine G.stepD (OD.assign rfl rfl) rfl rfl rfl ?_
 refine G.nil (GE.then_ (GC.ret ?_))
 exact GE.body [1, 0] 0 (res1 rfl rfl) rfl (⟨_, us, rfl, hs2, hus, by omega, by show hdp 41 v1 us (hx.take k) (((hx.length : Nat) : Int).toNat) :: many (ints 3) us (dx.take k) :: own = _; rw [List.take_of_length_le (show hx.length ≤ k by omega), List.take_of_length_le (show dx.length ≤ k by omega), hdp_full (by omega)]⟩)
set_option maxRecDepth 100000 in
theorem eqMatrixS_same {W : World} {own : List Asn} {vx : Value} {ux : List Value} {hx : List Hd} {dx : List (List Int)} {vy : Value} {uy : List Value}  (sx : IsS vx) (ex : Ent own fun w => Hds w vx ux hx) (mx : ∀ k, k < hx.length → Ent own fun w => Ints w (ux.getD k undef) (dx.getD k [])) (lx : ux.length = hx.length) (kx : dx.length = hx.length) (ax : AllS ux)   (sy : IsS vy) (ey : Ent own fun w => Hds w vy uy hx) (my : ∀ k, k < hx.length → Ent own fun w => Ints w (uy.getD k undef) (dx.getD k [])) (ly : uy.length = hx.length) (ky : dx.length = hx.length) (ay : AllS uy)  (hlx : hx.length ≤ 9223372036854775807) (hle : ∀ k, k < hx.length → (dx.getD k []).length ≤ 9223372036854775807) : Spec Try.prog 9 [vx, vy] W own (fun v ow => v = .bool (true) ∧ ow = own) := by
 refine Spec.enter Try.f9 _ Try.func9 rfl (n := 27) rfl rfl ?_
 refine GC.seq (GC.region ?_)
 refine G.stepD (OD.assign rfl rfl) rfl rfl rfl ?_
 refine G.nil (GE.then_ (GC.seq (GC.seq (GC.region ?_))))
 refine G.stepD (OD.move rfl rfl) rfl rfl rfl ?_
 refine G.stepD (OD.len rfl rfl et29 rfl ex) rfl rfl rfl ?_
 refine G.stepD (OD.move rfl rfl) rfl rfl rfl ?_
 refine G.stepD (OD.len rfl rfl et29 rfl ey) rfl rfl rfl ?_
 refine G.stepD (OD.eqv (OD.neq rfl rfl rfl) (congrArg Value.bool ((bne_same _) : _ = false))) rfl rfl rfl ?_
 refine G.nil (GE.then_ (GC.condF rfl (GC.skip (GE.then_ (GC.seq (GC.seq (GC.region ?_)))))))
 refine G.stepD (OD.assign rfl rfl) rfl rfl rfl ?_
 refine G.nil (GE.then_ (GC.block ?_))
 refine GC.loop (ι := Nat) (fun k => [(0, vx), (1, vy), (5, .int .i64 ((k : Int)))]) (fun k => own) (fun k => (k ≤ hx.length)) (fun k => hx.length - k) 0 (by omega) ⟨rfl, rfl, rfl, trivial⟩ [] 0 rfl ?_
 rintro k hk
 refine GC.seq (GC.seq (GC.region ?_))
 refine G.stepD (OD.move rfl rfl) rfl rfl rfl ?_
 refine G.stepD (OD.move rfl rfl) rfl rfl rfl ?_
 refine G.stepD (OD.len rfl rfl et29 rfl ex) rfl rfl rfl ?_
 refine G.stepD (OD.lss rfl rfl rfl) rfl rfl rfl ?_
 refine G.nil (GE.then_ ?_)
 refine GC.cond rfl (fun hc1 => ?_) (fun hc1 => ?_)
 replace hc1 := of_decide_eq_true hc1
 refine GC.skip (GE.then_ (GC.seq (GC.block (GC.seq ?_))))
 refine GC.at [] 0 (env' := [(0, vx), (1, vy), (5, .int .i64 ((k : Int)))]) ⟨rfl, rfl, rfl, trivial⟩ rfl ?_
 refine GC.par (its := [⟨17, [], [], [], [], fun _ => vx, fun _ => True, fun _ => []⟩,
     ⟨18, [], [], [], [], fun _ => .int .i64 ((k : Int)), fun _ => True, fun _ => []⟩,
     ⟨19, [(0, 17), (1, 18)], [], [], [], fun _ => elemPtr vx 4 (k), fun _ => True, fun _ => []⟩,
     ⟨20, [(2, 19)], [], [], [], fun _ => .agg #[.int .i64 ((hx.getD (k) hd0).1), .int .i64 ((hx.getD (k) hd0).2.1), .int .i64 ((hx.getD (k) hd0).2.2), (ux.getD (k) undef)], fun _ => True, fun _ => []⟩,
     ⟨21, [], [], [], [], fun _ => vy, fun _ => True, fun _ => []⟩,
     ⟨22, [], [], [], [], fun _ => .int .i64 ((k : Int)), fun _ => True, fun _ => []⟩,
     ⟨23, [(4, 21), (5, 22)], [], [], [], fun _ => elemPtr vy 4 (k), fun _ => True, fun _ => []⟩,
     ⟨24, [(6, 23)], [], [], [], fun _ => .agg #[.int .i64 ((hx.getD (k) hd0).1), .int .i64 ((hx.getD (k) hd0).2.1), .int .i64 ((hx.getD (k) hd0).2.2), (uy.getD (k) undef)], fun _ => True, fun _ => []⟩,
     ⟨25, [(3, 20), (7, 24)], [], [], [], fun _ => .bool true, fun _ => True, fun _ => []⟩,
     ⟨26, [(8, 25)], [], [], [], fun _ => .bool false, fun _ => True, fun _ => []⟩]) (by kernel_rfl) (by kernel_rfl) (POps.cons ?_ (POps.cons ?_ (POps.cons ?_ (POps.cons ?_ (POps.cons ?_ (POps.cons ?_ (POps.cons ?_ (POps.cons ?_ (POps.cons ?_ (POps.cons ?_ POps.nil)))))))))) ?_
 intro θ R hd
 exact Opp.plain (OG.imp (OD.move rfl rfl) (by rintro _ _ ⟨rfl, rfl⟩; exact ⟨[], rfl, trivial, rfl⟩)) rfl
 intro θ R hd
 exact Opp.plain (OG.imp (OD.move rfl rfl) (by rintro _ _ ⟨rfl, rfl⟩; exact ⟨[], rfl, trivial, rfl⟩)) rfl
 intro θ R hd
 obtain ⟨h0d, h1d, _⟩ := hd
 exact Opp.plain (OG.imp (OD.indexAddr rfl et29 rfl (ex.app) rfl (by omega)) (by rintro _ _ ⟨rfl, rfl⟩; exact ⟨[], rfl, trivial, rfl⟩)) rfl
 intro θ R hd
 obtain ⟨h2d, _⟩ := hd
 exact Opp.plain (OG.imp (OD.loadHd rfl ti41 rfl (ex.app) (by omega)) (by rintro _ _ ⟨rfl, rfl⟩; exact ⟨[], rfl, trivial, rfl⟩)) rfl
 intro θ R hd
 exact Opp.plain (OG.imp (OD.move rfl rfl) (by rintro _ _ ⟨rfl, rfl⟩; exact ⟨[], rfl, trivial, rfl⟩)) rfl
 intro θ R hd
 exact Opp.plain (OG.imp (OD.move rfl rfl) (by rintro _ _ ⟨rfl, rfl⟩; exact ⟨[], rfl, trivial, rfl⟩)) rfl
 intro θ R hd
 obtain ⟨h4d, h5d, _⟩ := hd
 exact Opp.plain (OG.imp (OD.indexAddr rfl et29 rfl (ey.app) rfl (by omega)) (by rintro _ _ ⟨rfl, rfl⟩; exact ⟨[], rfl, trivial, rfl⟩)) rfl
 intro θ R hd
 obtain ⟨h6d, _⟩ := hd
 exact Opp.plain (OG.imp (OD.loadHd rfl ti41 rfl (ey.app) (by omega)) (by rintro _ _ ⟨rfl, rfl⟩; exact ⟨[], rfl, trivial, rfl⟩)) rfl
 intro θ R hd
 obtain ⟨h3d, h7d, _⟩ := hd
 exact Opp.plain (OG.imp (OG.call [.agg #[.int .i64 ((hx.getD (k) hd0).1), .int .i64 ((hx.getD (k) hd0).2.1), .int .i64 ((hx.getD (k) hd0).2.2), (ux.getD (k) undef)], .agg #[.int .i64 ((hx.getD (k) hd0).1), .int .i64 ((hx.getD (k) hd0).2.1), .int .i64 ((hx.getD (k) hd0).2.2), (uy.getD (k) undef)]] ent28 rfl rfl rfl rfl (by exact (eqMatrix_same (ax.get (by omega)) ((mx (k) (by omega)).app) (ay.get (by omega)) ((my (k) (by omega)).app) (hle _ (by omega))))) (by rintro _ _ ⟨rfl, rfl⟩; exact ⟨[], rfl, trivial, rfl⟩)) rfl
 intro θ R hd
 obtain ⟨h8d, _⟩ := hd
 exact Opp.plain (OG.imp (OD.not rfl rfl) (by rintro _ _ ⟨rfl, rfl⟩; exact ⟨[], rfl, trivial, rfl⟩)) rfl
 intro θ hall
 obtain ⟨_, _, _, _, _, _, _, _, _, _, _⟩ := hall
 refine G.at [] 0 (env' := [(0, vx), (1, vy), (5, .int .i64 ((k : Int))), (26, .bool false)]) ⟨rfl, rfl, rfl, rfl, trivial⟩ (own' := own) rfl ?_
 show G _ _ _ [] _ _ _ _
 refine G.nil (GE.then_ (GC.condF rfl (GC.skip (GE.blockN (GE.then_ (GC.region ?_))))))
 refine G.stepD (OD.move rfl rfl) rfl rfl rfl ?_
 refine G.stepD (OD.addI rfl rfl rfl (by omega)) rfl rfl rfl ?_
 refine G.stepD (OD.assign rfl rfl) rfl rfl rfl ?_
 refine G.nil ?_
 exact GE.again (k + 1) (by omega) (by first | omega | (dsimp only; omega)) ⟨rfl, rfl, rfl, trivial⟩ [] 0 rfl
 replace hc1 := of_decide_eq_false hc1
 refine GC.exit (GE.pass (GE.pass (GE.hit (GE.then_ (GC.seq (GC.region ?_))))))
 refine G.stepD (OD.assign rfl rfl) rfl rfl rfl ?_
 refine G.nil (GE.then_ (GC.ret ?_))
 exact GE.body [] 0 (res1 rfl rfl) rfl (⟨rfl, rfl⟩)
set_option maxRecDepth 100000 in
theorem markMatrixS_s {W : World} {own : List Asn} {vx : Value} {ux : List Value} {hx : List Hd} {dx : List (List Int)} {q : Int}  (sx : IsS vx) (ax : AllS ux) (lx : ux.length = hx.length) (kx : dx.length = hx.length)   (hq : 0 ≤ q ∧ q ≤ 1000) (hlx : dx.length ≤ 1048576) (hsx : (dx.map List.length).sum ≤ 1048576) (hle : ∀ k, k < hx.length → (dx.getD k []).length ≤ 1073741824) : Spec Try.prog 10 [vx, .int .i64 (q)] W (hds 41 vx ux hx :: many (ints 3) ux dx :: own) (fun v ow => v = .int .i64 (q + (mkN dx dx.length : Nat)) ∧ ow = own) := by
 refine Spec.enter Try.f10 _ Try.func10 rfl (n := 41) rfl rfl ?_
 refine GC.seq (GC.region ?_)
 refine G.stepD (OD.assign rfl rfl) rfl rfl rfl ?_
 refine G.nil (GE.then_ (GC.seq (GC.seq (GC.region ?_))))
 refine G.stepD (OD.assign rfl rfl) rfl rfl rfl ?_
 refine G.nil (GE.then_ (GC.block ?_))
 refine GC.loop (ι := Nat × List Hd × List (List Int)) (fun ⟨k, hm, dm⟩ => [(0, vx), (1, .int .i64 (q + (mkN dx k : Nat))), (5, .int .i64 ((k : Int)))]) (fun ⟨k, hm, dm⟩ => hds 41 vx ux hm :: many (ints 3) ux dm :: own) (fun ⟨k, hm, dm⟩ => (k ≤ hx.length) ∧ (hm.length = hx.length) ∧ (dm.length = dx.length) ∧ (∀ j, k ≤ j → dm.getD j [] = dx.getD j [])) (fun ⟨k, hm, dm⟩ => hx.length - k) (0, hx, dx) (⟨by omega, rfl, rfl, fun _ _ => rfl⟩) ⟨rfl, int_eq (by rw [mkN_zero]; omega), rfl, trivial⟩ [] 0 rfl ?_
 rintro ⟨k, hm, dm⟩ ⟨hk, hml, dml, hdm⟩
 have hmb := mkN_bd (k := k) hlx hsx (by omega)
 refine GC.seq (GC.seq (GC.region ?_))
 refine G.stepD (OD.move rfl rfl) rfl rfl rfl ?_
 refine G.stepD (OD.move rfl rfl) rfl rfl rfl ?_
 refine G.stepD (OD.len rfl rfl et29 rfl (Ent.hds (i := 0) rfl)) rfl rfl rfl ?_
 refine G.stepD (OD.lss rfl rfl rfl) rfl rfl rfl ?_
 refine G.nil (GE.then_ ?_)
 refine GC.cond rfl (fun hc1 => ?_) (fun hc1 => ?_)
 replace hc1 := of_decide_eq_true hc1
 have hat : dm.getD k [] = dx.getD k [] := hdm k (Nat.le_refl _)
 have hts := mkN_succ (ds := dx) (k := k) (by omega)
 have hlk : (dm.getD k []).length ≤ 1073741824 := by rw [hat]; exact hle k (by omega)
 have hlk2 : (dm.getD k []).length = (dx.getD k []).length := by rw [hat]
 have hmb2 := mkN_bd (k := k + 1) hlx hsx (by omega)
 refine GC.skip (GE.then_ (GC.seq (GC.block (GC.seq (GC.region ?_)))))
 refine G.stepD (OD.move rfl rfl) rfl rfl rfl ?_
 refine G.stepD (OD.move rfl rfl) rfl rfl rfl ?_
 refine G.stepD (OD.move rfl rfl) rfl rfl rfl ?_
 refine G.stepD (OD.indexAddr rfl et29 rfl (Ent.hds (i := 0) rfl) rfl (by omega)) rfl rfl rfl ?_
 refine G.stepD (OD.fieldAddrE rfl rfl (Ent.hds (i := 0) rfl) (by omega) fa41_0) rfl rfl rfl ?_
 refine G.stepD0 (OD.storeHdF rfl ti3 rfl rfl (i := 0) rfl (by omega) (by decide)) rfl rfl ?_
 refine G.nil (GE.then_ (GC.seq (GC.region ?_)))
 refine G.stepD (OD.move rfl rfl) rfl rfl rfl ?_
 refine G.stepD (OD.addI rfl rfl rfl (by first | omega | (simp only [List.length_set, List.length_replicate]; omega))) rfl rfl rfl ?_
 refine G.stepD (OD.assign rfl rfl) rfl rfl rfl ?_
 refine G.nil (GE.then_ (GC.seq (GC.region ?_)))
 refine G.stepD (OD.move rfl rfl) rfl rfl rfl ?_
 refine G.stepD (OD.move rfl rfl) rfl rfl rfl ?_
 refine G.stepD (OD.move rfl rfl) rfl rfl rfl ?_
 refine G.stepD (OD.indexAddr rfl et29 rfl (Ent.hds (i := 0) rfl) rfl (by first | omega | (simp only [List.length_set, List.length_replicate]; omega))) rfl rfl rfl ?_
 refine G.stepD (OD.fieldAddrE rfl rfl (Ent.hds (i := 0) rfl) (by first | omega | (simp only [List.length_set, List.length_replicate]; omega)) fa41_1) rfl rfl rfl ?_
 refine G.stepD0 (OD.storeHdF rfl ti3 rfl rfl (i := 0) rfl (by first | omega | (simp only [List.length_set, List.length_replicate]; omega)) (by decide)) rfl rfl ?_
 refine G.nil (GE.then_ (GC.seq (GC.region ?_)))
 refine G.stepD (OD.move rfl rfl) rfl rfl rfl ?_
 refine G.stepD (OD.addI rfl rfl rfl (by first | omega | (simp only [List.length_set, List.length_replicate]; omega))) rfl rfl rfl ?_
 refine G.stepD (OD.assign rfl rfl) rfl rfl rfl ?_
 refine G.nil (GE.then_ (GC.seq (GC.region ?_)))
 refine G.stepD (OD.move rfl rfl) rfl rfl rfl ?_
 refine G.stepD (OD.move rfl rfl) rfl rfl rfl ?_
 refine G.stepD (OD.move rfl rfl) rfl rfl rfl ?_
 refine G.stepD (OD.indexAddr rfl et29 rfl (Ent.hds (i := 0) rfl) rfl (by first | omega | (simp only [List.length_set, List.length_replicate]; omega))) rfl rfl rfl ?_
 refine G.stepD (OD.fieldAddrE rfl rfl (Ent.hds (i := 0) rfl) (by first | omega | (simp only [List.length_set, List.length_replicate]; omega)) fa41_2) rfl rfl rfl ?_
 refine G.stepD0 (OD.storeHdF rfl ti3 rfl rfl (i := 0) rfl (by first | omega | (simp only [List.length_set, List.length_replicate]; omega)) (by decide)) rfl rfl ?_
 refine G.nil (GE.then_ (GC.seq (GC.region ?_)))
 refine G.stepD (OD.move rfl rfl) rfl rfl rfl ?_
 refine G.stepD (OD.addI rfl rfl rfl (by first | omega | (simp only [List.length_set, List.length_replicate]; omega))) rfl rfl rfl ?_
 refine G.stepD (OD.assign rfl rfl) rfl rfl rfl ?_
 refine G.nil (GE.then_ (GC.region ?_))
 refine G.stepD (OD.move rfl rfl) rfl rfl rfl ?_
 refine G.stepD (OD.move rfl rfl) rfl rfl rfl ?_
 refine G.stepD (OD.indexAddr rfl et29 rfl (Ent.hds (i := 0) rfl) rfl (by first | omega | (simp only [List.length_set, List.length_replicate]; omega))) rfl rfl rfl ?_
 refine G.stepD (OD.fieldAddrE rfl rfl (Ent.hds (i := 0) rfl) (by first | omega | (simp only [List.length_set, List.length_replicate]; omega)) fa41_3) rfl rfl rfl ?_
 refine G.stepD (OD.loadField rfl ti24 rfl (Ent.hds (i := 0) rfl) (by first | omega | (simp only [List.length_set, List.length_replicate]; omega)) (by decide) (hdR_f3 (by first | omega | (simp only [List.length_set, List.length_replicate]; omega)))) rfl rfl rfl ?_
 refine G.stepD (OD.move rfl rfl) rfl rfl rfl ?_
 refine G.at [1, 0] 0 (env' := [(0, vx), (5, .int .i64 ((k : Int))), (6, .int .i64 ((k : Int))), (7, vx), (8, .int .i64 ((hm.length : Nat))), (9, .bool (decide ((k : Int) < (hm.length : Nat)))), (12, vx), (13, .int .i64 ((k : Int))), (14, .int .i64 (q + (mkN dx k : Nat))), (15, elemPtr vx 4 (k)), (16, elemPtrF vx 4 (k) 0), (17, .int .i64 (q + (mkN dx k : Nat))), (18, .int .i64 ((q + (mkN dx k : Nat)) + 1)), (19, vx), (20, .int .i64 ((k : Int))), (21, .int .i64 ((q + (mkN dx k : Nat)) + 1)), (22, elemPtr vx 4 (k)), (23, elemPtrF vx 4 (k) 1), (24, .int .i64 ((q + (mkN dx k : Nat)) + 1)), (25, .int .i64 (((q + (mkN dx k : Nat)) + 1) + 1)), (26, vx), (27, .int .i64 ((k : Int))), (28, .int .i64 (((q + (mkN dx k : Nat)) + 1) + 1)), (29, elemPtr vx 4 (k)), (30, elemPtrF vx 4 (k) 2), (31, .int .i64 (((q + (mkN dx k : Nat)) + 1) + 1)), (32, .int .i64 ((((q + (mkN dx k : Nat)) + 1) + 1) + 1)), (1, .int .i64 ((((q + (mkN dx k : Nat)) + 1) + 1) + 1)), (33, vx), (34, .int .i64 ((k : Int))), (35, elemPtr vx 4 (k)), (36, elemPtrF vx 4 (k) 3), (37, (ux.getD (k) undef)), (38, .int .i64 ((((q + (mkN dx k : Nat)) + 1) + 1) + 1))]) ⟨rfl, rfl, rfl, rfl, rfl, rfl, rfl, rfl, rfl, rfl, rfl, rfl, rfl, rfl, rfl, rfl, rfl, rfl, rfl, rfl, rfl, rfl, rfl, rfl, rfl, rfl, rfl, rfl, rfl, rfl, rfl, rfl, rfl, rfl, trivial⟩ (own' := many (ints 3) ux dm :: hds 41 vx ux (((hm.set (k) (hdSet (hm.getD (k) hd0) 0 (q + (mkN dx k : Nat)))).set (k) (hdSet ((hm.set (k) (hdSet (hm.getD (k) hd0) 0 (q + (mkN dx k : Nat)))).getD (k) hd0) 1 ((q + (mkN dx k : Nat)) + 1))).set (k) (hdSet (((hm.set (k) (hdSet (hm.getD (k) hd0) 0 (q + (mkN dx k : Nat)))).set (k) (hdSet ((hm.set (k) (hdSet (hm.getD (k) hd0) 0 (q + (mkN dx k : Nat)))).getD (k) hd0) 1 ((q + (mkN dx k : Nat)) + 1))).getD (k) hd0) 2 (((q + (mkN dx k : Nat)) + 1) + 1))) :: own) rfl ?_
 refine G.manyOut (k) ⟨by omega, by omega⟩ ?_
 skip
 refine G.step (OG.call [(ux.getD (k) undef), .int .i64 ((((q + (mkN dx k : Nat)) + 1) + 1) + 1)] ent29 rfl rfl rfl rfl (by exact (markIntS_s (ax.get (by first | omega | (simp only [List.length_set, List.length_replicate]; omega))) (by omega) (by omega)))) rfl rfl rfl ?_
 rintro _ _ ⟨rfl, rfl⟩
 refine G.at [0, 0, 0] 0 (env' := [(0, vx), (5, .int .i64 ((k : Int))), (6, .int .i64 ((k : Int))), (7, vx), (8, .int .i64 ((hm.length : Nat))), (9, .bool (decide ((k : Int) < (hm.length : Nat)))), (12, vx), (13, .int .i64 ((k : Int))), (14, .int .i64 (q + (mkN dx k : Nat))), (15, elemPtr vx 4 (k)), (16, elemPtrF vx 4 (k) 0), (17, .int .i64 (q + (mkN dx k : Nat))), (18, .int .i64 ((q + (mkN dx k : Nat)) + 1)), (19, vx), (20, .int .i64 ((k : Int))), (21, .int .i64 ((q + (mkN dx k : Nat)) + 1)), (22, elemPtr vx 4 (k)), (23, elemPtrF vx 4 (k) 1), (24, .int .i64 ((q + (mkN dx k : Nat)) + 1)), (25, .int .i64 (((q + (mkN dx k : Nat)) + 1) + 1)), (26, vx), (27, .int .i64 ((k : Int))), (28, .int .i64 (((q + (mkN dx k : Nat)) + 1) + 1)), (29, elemPtr vx 4 (k)), (30, elemPtrF vx 4 (k) 2), (31, .int .i64 (((q + (mkN dx k : Nat)) + 1) + 1)), (32, .int .i64 ((((q + (mkN dx k : Nat)) + 1) + 1) + 1)), (1, .int .i64 ((((q + (mkN dx k : Nat)) + 1) + 1) + 1)), (33, vx), (34, .int .i64 ((k : Int))), (35, elemPtr vx 4 (k)), (36, elemPtrF vx 4 (k) 3), (37, (ux.getD (k) undef)), (38, .int .i64 ((((q + (mkN dx k : Nat)) + 1) + 1) + 1)), (39, .int .i64 (((((q + (mkN dx k : Nat)) + 1) + 1) + 1) + ((dm.getD (k) []).length : Nat)))]) ⟨rfl, rfl, rfl, rfl, rfl, rfl, rfl, rfl, rfl, rfl, rfl, rfl, rfl, rfl, rfl, rfl, rfl, rfl, rfl, rfl, rfl, rfl, rfl, rfl, rfl, rfl, rfl, rfl, rfl, rfl, rfl, rfl, rfl, rfl, rfl, trivial⟩ (own' := ints 3 (ux.getD (k) undef) (mkd ((((q + (mkN dx k : Nat)) + 1) + 1) + 1) (dm.getD (k) []).length) :: many (ints 3) (ux.eraseIdx k) (dm.eraseIdx k) :: hds 41 vx ux (((hm.set (k) (hdSet (hm.getD (k) hd0) 0 (q + (mkN dx k : Nat)))).set (k) (hdSet ((hm.set (k) (hdSet (hm.getD (k) hd0) 0 (q + (mkN dx k : Nat)))).getD (k) hd0) 1 ((q + (mkN dx k : Nat)) + 1))).set (k) (hdSet (((hm.set (k) (hdSet (hm.getD (k) hd0) 0 (q + (mkN dx k : Nat)))).set (k) (hdSet ((hm.set (k) (hdSet (hm.getD (k) hd0) 0 (q + (mkN dx k : Nat)))).getD (k) hd0) 1 ((q + (mkN dx k : Nat)) + 1))).getD (k) hd0) 2 (((q + (mkN dx k : Nat)) + 1) + 1))) :: own) rfl ?_
 refine G.manyIn (k) ⟨by omega, by omega⟩ ?_
 skip
 refine G.stepD (OD.assign rfl rfl) rfl rfl rfl ?_
 refine G.nil (GE.blockN (GE.then_ (GC.region ?_)))
 refine G.stepD (OD.move rfl rfl) rfl rfl rfl ?_
 refine G.stepD (OD.addI rfl rfl rfl (by first | omega | (simp only [List.length_set, List.length_replicate]; omega))) rfl rfl rfl ?_
 refine G.stepD (OD.assign rfl rfl) rfl rfl rfl ?_
 refine G.nil ?_
 exact GE.again (k + 1, ((hm.set (k) (hdSet (hm.getD (k) hd0) 0 (q + (mkN dx k : Nat)))).set (k) (hdSet ((hm.set (k) (hdSet (hm.getD (k) hd0) 0 (q + (mkN dx k : Nat)))).getD (k) hd0) 1 ((q + (mkN dx k : Nat)) + 1))).set (k) (hdSet (((hm.set (k) (hdSet (hm.getD (k) hd0) 0 (q + (mkN dx k : Nat)))).set (k) (hdSet ((hm.set (k) (hdSet (hm.getD (k) hd0) 0 (q + (mkN dx k : Nat)))).getD (k) hd0) 1 ((q + (mkN dx k : Nat)) + 1))).getD (k) hd0) 2 (((q + (mkN dx k : Nat)) + 1) + 1)), dm.set (k) (mkd ((((q + (mkN dx k : Nat)) + 1) + 1) + 1) (dm.getD (k) []).length)) (⟨by omega, by simp only [List.length_set]; exact hml, by rw [List.length_set]; exact dml, fun j hj => by rw [← hdm j (by omega)]; simp [List.getD, List.getElem?_set, show ¬ k = j by omega]⟩) (by first | omega | (dsimp only; omega)) ⟨rfl, int_eq (by omega), rfl, trivial⟩ [1, 0] 0 rfl
 replace hc1 := of_decide_eq_false hc1
 refine GC.exit (GE.pass (GE.pass (GE.hit (GE.then_ (GC.seq (GC.region ?_))))))
 refine G.stepD (OD.move rfl rfl) rfl rfl rfl ?_
 refine G.stepD (OD.assign rfl rfl) rfl rfl rfl ?_
 refine G.nil (GE.then_ (GC.ret ?_))
 exact GE.body [] 2 (res1 rfl rfl) rfl (⟨congrArg (fun (a : Int) => Value.int .i64 a) ((by rw [show k = dx.length by omega]) : (q + (mkN dx k : Nat) : Int) = q + (mkN dx dx.length : Nat)), rfl⟩)
end Go.Proofs.Ytbmnnbglipkidaa
