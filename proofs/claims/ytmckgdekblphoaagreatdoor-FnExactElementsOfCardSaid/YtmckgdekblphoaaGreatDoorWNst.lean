/-
  Lists of lists: the helpers of the laws; copies.
-/
import Derived.Test.YtmckgdekblphoaaGreatDoorFct
import Derived.Test.YtmckgdekblphoaaGreatDoorWRhoA
import Derived.Test.YtmckgdekblphoaaGreatDoorMks
namespace Go.Proofs.YtmckgdekblphoaaGreatDoor
set_option linter.unusedVariables false
set_option linter.unusedSimpArgs false
open Go.RowKit
set_option maxRecDepth 100000 in
theorem eqIntSS_same {W : World} {own : List Asn} {vx : Value} {ux : List Value} {x : List (List Int)} {vy : Value} {uy : List Value}  (sx : IsS vx) (ex : Ent own fun w => Sl w vx x.length 1 ux) (mx : ∀ k, k < x.length → Ent own fun w => Ints w (ux.getD k undef) (x.getD k [])) (lx : ux.length = x.length) (ax : AllS ux)   (sy : IsS vy) (ey : Ent own fun w => Sl w vy x.length 1 uy) (my : ∀ k, k < x.length → Ent own fun w => Ints w (uy.getD k undef) (x.getD k [])) (ly : uy.length = x.length) (ay : AllS uy)  (hlx : x.length ≤ 100000) (hle : ∀ k, k < x.length → (x.getD k []).length ≤ 1000) : Spec Tryz.prog 14 [vx, vy] W own (fun v ow => v = .bool (true) ∧ ow = own) := by
 refine Spec.enter Tryz.f14 _ Tryz.func14 rfl (n := 27) rfl rfl ?_
 refine GC.seq (GC.region ?_)
 refine G.stepD (OD.assign rfl rfl) rfl rfl rfl ?_
 refine G.nil (GE.then_ (GC.seq (GC.seq (GC.region ?_))))
 refine G.stepD (OD.move rfl rfl) rfl rfl rfl ?_
 refine G.stepD (OD.len rfl rfl et26 rfl ex) rfl rfl rfl ?_
 refine G.stepD (OD.move rfl rfl) rfl rfl rfl ?_
 refine G.stepD (OD.len rfl rfl et26 rfl ey) rfl rfl rfl ?_
 refine G.stepD (OD.eqv (OD.neq rfl rfl rfl) (congrArg Value.bool ((bne_same _) : _ = false))) rfl rfl rfl ?_
 refine G.nil (GE.then_ (GC.condF rfl (GC.skip (GE.then_ (GC.seq (GC.seq (GC.region ?_)))))))
 refine G.stepD (OD.assign rfl rfl) rfl rfl rfl ?_
 refine G.nil (GE.then_ (GC.block ?_))
 refine GC.loop (ι := Nat) (fun k => [(0, vx), (1, vy), (5, .int .i64 ((k : Int)))]) (fun k => own) (fun k => (k ≤ x.length)) (fun k => x.length - k) 0 (by omega) ⟨rfl, rfl, rfl, trivial⟩ [] 0 rfl ?_
 rintro k hk
 refine GC.seq (GC.seq (GC.region ?_))
 refine G.stepD (OD.move rfl rfl) rfl rfl rfl ?_
 refine G.stepD (OD.move rfl rfl) rfl rfl rfl ?_
 refine G.stepD (OD.len rfl rfl et26 rfl ex) rfl rfl rfl ?_
 refine G.stepD (OD.lss rfl rfl rfl) rfl rfl rfl ?_
 refine G.nil (GE.then_ ?_)
 refine GC.cond rfl (fun hc1 => ?_) (fun hc1 => ?_)
 replace hc1 := of_decide_eq_true hc1
 refine GC.skip (GE.then_ (GC.seq (GC.block (GC.seq ?_))))
 refine GC.at [] 0 (env' := [(0, vx), (1, vy), (5, .int .i64 ((k : Int)))]) ⟨rfl, rfl, rfl, trivial⟩ rfl ?_
 refine GC.par (its := [⟨17, [], [], [], [], fun _ => vx, fun _ => True, fun _ => []⟩,
     ⟨18, [], [], [], [], fun _ => .int .i64 ((k : Int)), fun _ => True, fun _ => []⟩,
     ⟨19, [(0, 17), (1, 18)], [], [], [], fun _ => elemPtr vx 1 (k), fun _ => True, fun _ => []⟩,
     ⟨20, [(2, 19)], [], [], [], fun _ => (ux.getD (k) undef), fun _ => True, fun _ => []⟩,
     ⟨21, [], [], [], [], fun _ => vy, fun _ => True, fun _ => []⟩,
     ⟨22, [], [], [], [], fun _ => .int .i64 ((k : Int)), fun _ => True, fun _ => []⟩,
     ⟨23, [(4, 21), (5, 22)], [], [], [], fun _ => elemPtr vy 1 (k), fun _ => True, fun _ => []⟩,
     ⟨24, [(6, 23)], [], [], [], fun _ => (uy.getD (k) undef), fun _ => True, fun _ => []⟩,
     ⟨25, [(3, 20), (7, 24)], [], [], [], fun _ => .bool true, fun _ => True, fun _ => []⟩,
     ⟨26, [(8, 25)], [], [], [], fun _ => .bool false, fun _ => True, fun _ => []⟩]) (by kernel_rfl) (by kernel_rfl) (POps.cons ?_ (POps.cons ?_ (POps.cons ?_ (POps.cons ?_ (POps.cons ?_ (POps.cons ?_ (POps.cons ?_ (POps.cons ?_ (POps.cons ?_ (POps.cons ?_ POps.nil)))))))))) ?_
 intro θ R hd
 exact Opp.plain (OG.imp (OD.move rfl rfl) (by rintro _ _ ⟨rfl, rfl⟩; exact ⟨[], rfl, trivial, rfl⟩)) rfl
 intro θ R hd
 exact Opp.plain (OG.imp (OD.move rfl rfl) (by rintro _ _ ⟨rfl, rfl⟩; exact ⟨[], rfl, trivial, rfl⟩)) rfl
 intro θ R hd
 obtain ⟨h0d, h1d, _⟩ := hd
 exact Opp.plain (OG.imp (OD.indexAddr rfl et26 rfl (ex.app) rfl (by omega)) (by rintro _ _ ⟨rfl, rfl⟩; exact ⟨[], rfl, trivial, rfl⟩)) rfl
 intro θ R hd
 obtain ⟨h2d, _⟩ := hd
 exact Opp.plain (OG.imp (OD.loadElem rfl ti22 rfl (ex.app) (by omega) rfl) (by rintro _ _ ⟨rfl, rfl⟩; exact ⟨[], rfl, trivial, rfl⟩)) rfl
 intro θ R hd
 exact Opp.plain (OG.imp (OD.move rfl rfl) (by rintro _ _ ⟨rfl, rfl⟩; exact ⟨[], rfl, trivial, rfl⟩)) rfl
 intro θ R hd
 exact Opp.plain (OG.imp (OD.move rfl rfl) (by rintro _ _ ⟨rfl, rfl⟩; exact ⟨[], rfl, trivial, rfl⟩)) rfl
 intro θ R hd
 obtain ⟨h4d, h5d, _⟩ := hd
 exact Opp.plain (OG.imp (OD.indexAddr rfl et26 rfl (ey.app) rfl (by omega)) (by rintro _ _ ⟨rfl, rfl⟩; exact ⟨[], rfl, trivial, rfl⟩)) rfl
 intro θ R hd
 obtain ⟨h6d, _⟩ := hd
 exact Opp.plain (OG.imp (OD.loadElem rfl ti22 rfl (ey.app) (by omega) rfl) (by rintro _ _ ⟨rfl, rfl⟩; exact ⟨[], rfl, trivial, rfl⟩)) rfl
 intro θ R hd
 obtain ⟨h3d, h7d, _⟩ := hd
 exact Opp.plain (OG.imp (OG.call [(ux.getD (k) undef), (uy.getD (k) undef)] ent22 rfl rfl rfl rfl (by exact (eqIntS_same (ax.get (by omega)) ((mx (k) (by omega)).app) (ay.get (by omega)) ((my (k) (by omega)).app) (Nat.le_trans (hle _ (by omega)) (by decide))))) (by rintro _ _ ⟨rfl, rfl⟩; exact ⟨[], rfl, trivial, rfl⟩)) rfl
 intro θ R hd
 obtain ⟨h8d, _⟩ := hd
 exact Opp.plain (OG.imp (OD.not rfl rfl) (by rintro _ _ ⟨rfl, rfl⟩; exact ⟨[], rfl, trivial, rfl⟩)) rfl
 intro θ hall
 obtain ⟨_, _, _, _, _, _, _, _, _, _, _⟩ := hall
 refine G.at [] 0 (env' := [(0, vx), (1, vy), (5, .int .i64 ((k : Int))), (26, .bool false)]) ⟨rfl, rfl, rfl, rfl, trivial⟩ (own' := own) rfl ?_
 show G _ _ _ [] _ _ _ _
 refine G.nil (GE.then_ (GC.condF rfl (GC.skip (GE.blockN (GE.then_ (GC.region ?_))))))
 refine G.stepD (OD.move rfl rfl) rfl rfl rfl ?_
 refine G.stepD (OD.addI rfl rfl rfl (by omega)) rfl rfl rfl ?_
 refine G.stepD (OD.assign rfl rfl) rfl rfl rfl ?_
 refine G.nil ?_
 exact GE.again (k + 1) (by omega) (by first | omega | (dsimp only; omega)) ⟨rfl, rfl, rfl, trivial⟩ [] 0 rfl
 replace hc1 := of_decide_eq_false hc1
 refine GC.exit (GE.pass (GE.pass (GE.hit (GE.then_ (GC.seq (GC.region ?_))))))
 refine G.stepD (OD.assign rfl rfl) rfl rfl rfl ?_
 refine G.nil (GE.then_ (GC.ret ?_))
 exact GE.body [] 0 (res1 rfl rfl) rfl (⟨rfl, rfl⟩)
set_option maxRecDepth 100000 in
theorem markIntSS_s {W : World} {own : List Asn} {vx : Value} {ux : List Value} {x : List (List Int)} {q : Int}  (sx : IsS vx) (ax : AllS ux) (lx : ux.length = x.length)   (hq : 0 ≤ q ∧ q ≤ 1000) (hlx : x.length ≤ 100000) (hle : ∀ k, k < x.length → (x.getD k []).length ≤ 1000) : Spec Tryz.prog 17 [vx, .int .i64 (q)] W (lst 22 vx ux :: many (ints 3) ux x :: own) (fun v ow => v = .int .i64 (q + (totL x x.length : Nat)) ∧ ow = lst 22 vx ux :: many (ints 3) ux (mkds q x) :: own) := by
 refine Spec.enter Tryz.f17 _ Tryz.func17 rfl (n := 19) rfl rfl ?_
 refine GC.seq (GC.region ?_)
 refine G.stepD (OD.assign rfl rfl) rfl rfl rfl ?_
 refine G.nil (GE.then_ (GC.seq (GC.seq (GC.region ?_))))
 refine G.stepD (OD.assign rfl rfl) rfl rfl rfl ?_
 refine G.nil (GE.then_ (GC.block ?_))
 refine GC.loop (ι := Nat × List (List Int)) (fun ⟨k, ms⟩ => [(0, vx), (1, .int .i64 (q + (totL x k : Nat))), (5, .int .i64 ((k : Int)))]) (fun ⟨k, ms⟩ => lst 22 vx ux :: many (ints 3) ux ms :: own) (fun ⟨k, ms⟩ => (k ≤ x.length) ∧ (ms = (mkds q x).take k ++ x.drop k)) (fun ⟨k, ms⟩ => x.length - k) (0, x) (⟨by omega, by simp⟩) ⟨rfl, int_eq (by rw [totL_zero]; omega), rfl, trivial⟩ [] 0 rfl ?_
 rintro ⟨k, ms⟩ ⟨hk, hms⟩
 have hml : ms.length = x.length := by rw [hms]; exact mkds_ln hk
 have htb := totL_bd hle hk
 refine GC.seq (GC.seq (GC.region ?_))
 refine G.stepD (OD.move rfl rfl) rfl rfl rfl ?_
 refine G.stepD (OD.move rfl rfl) rfl rfl rfl ?_
 refine G.stepD (OD.len rfl rfl et26 rfl (Ent.lst (i := 0) rfl)) rfl rfl rfl ?_
 refine G.stepD (OD.lss rfl rfl rfl) rfl rfl rfl ?_
 refine G.nil (GE.then_ ?_)
 refine GC.cond rfl (fun hc1 => ?_) (fun hc1 => ?_)
 replace hc1 := of_decide_eq_true hc1
 have hat : ms.getD k [] = x.getD k [] := by rw [hms]; exact mkds_at (by omega)
 have hts := totL_succ (xs := x) (k := k) (by omega)
 have hlk := hle k (by omega)
 refine GC.skip (GE.then_ (GC.seq (GC.block (GC.region ?_))))
 refine G.stepD (OD.move rfl rfl) rfl rfl rfl ?_
 refine G.stepD (OD.move rfl rfl) rfl rfl rfl ?_
 refine G.stepD (OD.indexAddr rfl et26 rfl (Ent.lst (i := 0) rfl) rfl (by omega)) rfl rfl rfl ?_
 refine G.stepD (OD.loadElem rfl ti22 rfl (Ent.lst (i := 0) rfl) (by omega) rfl) rfl rfl rfl ?_
 refine G.stepD (OD.move rfl rfl) rfl rfl rfl ?_
 refine G.at [1, 0] 0 (env' := [(0, vx), (1, .int .i64 (q + (totL x k : Nat))), (5, .int .i64 ((k : Int))), (6, .int .i64 ((k : Int))), (7, vx), (8, .int .i64 ((ux.length : Nat))), (9, .bool (decide ((k : Int) < (ux.length : Nat)))), (12, vx), (13, .int .i64 ((k : Int))), (14, elemPtr vx 1 (k)), (15, (ux.getD (k) undef)), (16, .int .i64 (q + (totL x k : Nat)))]) ⟨rfl, rfl, rfl, rfl, rfl, rfl, rfl, rfl, rfl, rfl, rfl, rfl, trivial⟩ (own' := many (ints 3) ux ms :: lst 22 vx ux :: own) rfl ?_
 refine G.manyOut (k) ⟨by omega, by omega⟩ ?_
 skip
 refine G.step (OG.call [(ux.getD (k) undef), .int .i64 (q + (totL x k : Nat))] ent23 rfl rfl rfl rfl (by exact (markIntS_s (ax.get (by omega)) (by omega) (by rw [hat]; omega)))) rfl rfl rfl ?_
 rintro _ _ ⟨rfl, rfl⟩
 refine G.at [0, 0, 0] 0 (env' := [(0, vx), (1, .int .i64 (q + (totL x k : Nat))), (5, .int .i64 ((k : Int))), (6, .int .i64 ((k : Int))), (7, vx), (8, .int .i64 ((ux.length : Nat))), (9, .bool (decide ((k : Int) < (ux.length : Nat)))), (12, vx), (13, .int .i64 ((k : Int))), (14, elemPtr vx 1 (k)), (15, (ux.getD (k) undef)), (16, .int .i64 (q + (totL x k : Nat))), (17, .int .i64 ((q + (totL x k : Nat)) + ((ms.getD (k) []).length : Nat)))]) ⟨rfl, rfl, rfl, rfl, rfl, rfl, rfl, rfl, rfl, rfl, rfl, rfl, rfl, trivial⟩ (own' := ints 3 (ux.getD (k) undef) (mkd (q + (totL x k : Nat)) (ms.getD (k) []).length) :: many (ints 3) (ux.eraseIdx k) (ms.eraseIdx k) :: lst 22 vx ux :: own) rfl ?_
 refine G.manyIn (k) ⟨by omega, by omega⟩ ?_
 skip
 refine G.stepD (OD.assign rfl rfl) rfl rfl rfl ?_
 refine G.nil (GE.blockN (GE.then_ (GC.region ?_)))
 refine G.stepD (OD.move rfl rfl) rfl rfl rfl ?_
 refine G.stepD (OD.addI rfl rfl rfl (by first | omega | (simp only [List.length_set, List.length_replicate]; omega))) rfl rfl rfl ?_
 refine G.stepD (OD.assign rfl rfl) rfl rfl rfl ?_
 refine G.nil ?_
 exact GE.again (k + 1, ms.set (k) (mkd (q + (totL x k : Nat)) (ms.getD (k) []).length)) (⟨by omega, by rw [hat, hms]; exact mkds_step (by omega)⟩) (by first | omega | (dsimp only; omega)) ⟨rfl, int_eq (by rw [hat]; omega), rfl, trivial⟩ [1, 0] 0 rfl
 replace hc1 := of_decide_eq_false hc1
 refine GC.exit (GE.pass (GE.pass (GE.hit (GE.then_ (GC.seq (GC.region ?_))))))
 refine G.stepD (OD.move rfl rfl) rfl rfl rfl ?_
 refine G.stepD (OD.assign rfl rfl) rfl rfl rfl ?_
 refine G.nil (GE.then_ (GC.ret ?_))
 exact GE.body [] 0 (res1 rfl rfl) rfl (⟨congrArg (fun (a : Int) => Value.int .i64 a) ((by rw [show k = x.length by omega]) : (q + (totL x k : Nat) : Int) = q + (totL x x.length : Nat)), congrArg (fun (z : List (List Int)) => lst 22 vx ux :: many (ints 3) ux z :: own) ((by rw [hms]; exact mkds_all (by omega)) : ms = mkds q x)⟩)
set_option maxRecDepth 100000 in
theorem heldIntSS_m {W : World} {own : List Asn} {vx : Value} {ux : List Value} {x : List (List Int)} {q : Int}  (sx : IsS vx) (ex : Ent own fun w => Sl w vx x.length 1 ux) (mx : ∀ k, k < x.length → Ent own fun w => Ints w (ux.getD k undef) (mkd (q + (totL x k : Nat)) (x.getD k []).length)) (lx : ux.length = x.length) (ax : AllS ux)   (hq : 0 ≤ q ∧ q ≤ 1000) (hlx : x.length ≤ 100000) (hle : ∀ k, k < x.length → (x.getD k []).length ≤ 1000) : Spec Tryz.prog 18 [vx, .int .i64 (q)] W own (fun v ow => v = .int .i64 (q + (totL x x.length : Nat)) ∧ ow = own) := by
 refine Spec.enter Tryz.f18 _ Tryz.func18 rfl (n := 21) rfl rfl ?_
 refine GC.seq (GC.region ?_)
 refine G.stepD (OD.assign rfl rfl) rfl rfl rfl ?_
 refine G.nil (GE.then_ (GC.seq (GC.seq (GC.region ?_))))
 refine G.stepD (OD.assign rfl rfl) rfl rfl rfl ?_
 refine G.nil (GE.then_ (GC.block ?_))
 refine GC.loop (ι := Nat) (fun k => [(0, vx), (1, .int .i64 (q + (totL x (k) : Nat))), (5, .int .i64 ((k : Int)))]) (fun k => own) (fun k => (k ≤ x.length)) (fun k => x.length - k) 0 (by omega) ⟨rfl, int_eq (by rw [totL_zero]; omega), rfl, trivial⟩ [] 0 rfl ?_
 rintro k hk
 have htb := totL_bd hle hk
 refine GC.seq (GC.seq (GC.region ?_))
 refine G.stepD (OD.move rfl rfl) rfl rfl rfl ?_
 refine G.stepD (OD.move rfl rfl) rfl rfl rfl ?_
 refine G.stepD (OD.len rfl rfl et26 rfl ex) rfl rfl rfl ?_
 refine G.stepD (OD.lss rfl rfl rfl) rfl rfl rfl ?_
 refine G.nil (GE.then_ ?_)
 refine GC.cond rfl (fun hc1 => ?_) (fun hc1 => ?_)
 replace hc1 := of_decide_eq_true hc1
 have hts := totL_succ (xs := x) (k := k) (by omega)
 have hlk := hle k (by omega)
 refine GC.skip (GE.then_ (GC.seq (GC.block (GC.seq (GC.region ?_)))))
 refine G.stepD (OD.move rfl rfl) rfl rfl rfl ?_
 refine G.stepD (OD.move rfl rfl) rfl rfl rfl ?_
 refine G.stepD (OD.indexAddr rfl et26 rfl ex rfl (by omega)) rfl rfl rfl ?_
 refine G.stepD (OD.loadElem rfl ti22 rfl ex (by omega) rfl) rfl rfl rfl ?_
 refine G.stepD (OD.move rfl rfl) rfl rfl rfl ?_
 refine G.step (OG.call [(ux.getD (k) undef), .int .i64 (q + (totL x (k) : Nat))] ent30 rfl rfl rfl rfl (by exact (heldIntS_m (ax.get (by omega)) ((mx (k) (by omega))) (by omega) (by omega)))) rfl rfl rfl ?_
 rintro _ _ ⟨rfl, hzz⟩; obtain rfl := hzz.symm
 refine G.stepD (OD.assign rfl rfl) rfl rfl rfl ?_
 refine G.nil (GE.then_ (GC.seq (GC.region ?_)))
 refine G.stepD (OD.move rfl rfl) rfl rfl rfl ?_
 refine G.stepD (OD.eqv (OD.lss rfl rfl rfl) (congrArg Value.bool ((decide_eq_false (by omega)) : _ = false))) rfl rfl rfl ?_
 refine G.nil (GE.then_ (GC.condF rfl (GC.skip (GE.blockN (GE.then_ (GC.region ?_))))))
 refine G.stepD (OD.move rfl rfl) rfl rfl rfl ?_
 refine G.stepD (OD.addI rfl rfl rfl (by omega)) rfl rfl rfl ?_
 refine G.stepD (OD.assign rfl rfl) rfl rfl rfl ?_
 refine G.nil ?_
 exact GE.again (k + 1) (by omega) (by first | omega | (dsimp only; omega)) ⟨rfl, int_eq (by omega), rfl, trivial⟩ [] 0 rfl
 replace hc1 := of_decide_eq_false hc1
 refine GC.exit (GE.pass (GE.pass (GE.hit (GE.then_ (GC.seq (GC.region ?_))))))
 refine G.stepD (OD.move rfl rfl) rfl rfl rfl ?_
 refine G.stepD (OD.assign rfl rfl) rfl rfl rfl ?_
 refine G.nil (GE.then_ (GC.ret ?_))
 exact GE.body [] 0 (res1 rfl rfl) rfl (⟨congrArg (fun (a0 : Int) => (.int .i64 (a0) : Value)) ((by rw [show k = x.length by omega] : (q + (totL x (k) : Nat) : Int) = q + (totL x x.length : Nat))), rfl⟩)
end Go.Proofs.YtmckgdekblphoaaGreatDoor
