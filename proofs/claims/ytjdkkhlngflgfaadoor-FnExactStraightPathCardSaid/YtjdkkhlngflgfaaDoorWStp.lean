/-
  The straight path: contracts by walks.
-/
import Derived.Test.YtjdkkhlngflgfaaDoorFct
import Derived.Test.YtjdkkhlngflgfaaDoorWWrd
import Derived.Test.YtjdkkhlngflgfaaDoorMkr
namespace Go.Proofs.YtjdkkhlngflgfaaDoor
set_option linter.unusedVariables false
set_option linter.unusedSimpArgs false
open Go.RowKit



set_option maxRecDepth 100000 in
theorem eqStep_same {W : World} {own : List Asn} {vaw : Value} {aw : List Int} {ak : Int} {vbw : Value}  (saw : IsS vaw) (eaw : Ent own fun w => Ints w vaw aw)   (sbw : IsS vbw) (ebw : Ent own fun w => Ints w vbw aw)   (hl : aw.length ≤ 9223372036854775807) : Spec Tryd.prog 23 [.agg #[vaw, .int .i64 (ak)], .agg #[vbw, .int .i64 (ak)]] W own (fun v ow => v = .bool (true) ∧ ow = own) := by
 refine Spec.enter Tryd.f23 _ Tryd.func23 rfl (n := 16) rfl rfl ?_
 refine GC.seq (GC.region ?_)
 refine G.step (OG.box (cs := [vaw, .int .i64 (ak)]) rfl rfl rfl) rfl rfl rfl ?_
 rintro _ _ ⟨g1, rfl, rfl⟩
 refine G.step (OG.box (cs := [vbw, .int .i64 (ak)]) rfl rfl rfl) rfl rfl rfl ?_
 rintro _ _ ⟨g2, rfl, rfl⟩
 refine G.stepD (OD.assign rfl rfl) rfl rfl rfl ?_
 refine G.nil (GE.then_ (GC.seq (GC.seq (GC.region ?_))))
 refine G.stepD (OD.fieldAddr rfl rfl fa41_0) rfl rfl rfl ?_
 refine G.stepD (OD.load rfl ti22 rfl (i := 1) rfl rfl) rfl rfl rfl ?_
 refine G.stepD (OD.fieldAddr rfl rfl fa41_0) rfl rfl rfl ?_
 refine G.stepD (OD.load rfl ti22 rfl (i := 0) rfl rfl) rfl rfl rfl ?_
 refine G.step (OG.call [vaw, vbw] ent11 rfl rfl rfl rfl (by exact (eqIntS_same saw (Ent.drop 2 eaw) sbw (Ent.drop 2 ebw) (by omega)))) rfl rfl rfl ?_
 rintro _ _ ⟨rfl, rfl⟩
 refine G.stepD (OD.not rfl rfl) rfl rfl rfl ?_
 refine G.nil (GE.then_ (GC.condF rfl (GC.skip (GE.then_ (GC.seq (GC.seq (GC.region ?_)))))))
 refine G.stepD (OD.fieldAddr rfl rfl fa41_1) rfl rfl rfl ?_
 refine G.stepD (OD.load rfl ti3 rfl (i := 1) rfl rfl) rfl rfl rfl ?_
 refine G.stepD (OD.fieldAddr rfl rfl fa41_1) rfl rfl rfl ?_
 refine G.stepD (OD.load rfl ti3 rfl (i := 0) rfl rfl) rfl rfl rfl ?_
 refine G.stepD (OD.eqv (OD.neq rfl rfl rfl) (congrArg Value.bool ((bne_same _) : _ = false))) rfl rfl rfl ?_
 refine G.nil (GE.then_ (GC.condF rfl (GC.skip (GE.then_ (GC.seq (GC.region ?_))))))
 refine G.stepD (OD.assign rfl rfl) rfl rfl rfl ?_
 refine G.nil (GE.then_ (GC.ret ?_))
 exact GE.body [] 2 (res1 rfl rfl) rfl (⟨rfl, rfl⟩)

set_option maxRecDepth 100000 in
theorem eqStepS_same {W : World} {own : List Asn} {vx : Value} {ux : List Value} {x : List Rec} {vy : Value} {uy : List Value}  (sx : IsS vx) (ex : Ent own fun w => Recs w vx ux x) (mx : ∀ k, k < x.length → Ent own fun w => Ints w (ux.getD k undef) (x.getD k ([], 0)).1) (lx : ux.length = x.length) (ax : AllS ux)   (sy : IsS vy) (ey : Ent own fun w => Recs w vy uy x) (my : ∀ k, k < x.length → Ent own fun w => Ints w (uy.getD k undef) (x.getD k ([], 0)).1) (ly : uy.length = x.length) (ay : AllS uy)  (hlx : x.length ≤ 9223372036854775807) (hle : ∀ r ∈ x, r.1.length ≤ 9223372036854775807) : Spec Tryd.prog 9 [vx, vy] W own (fun v ow => v = .bool (true) ∧ ow = own) := by
 refine Spec.enter Tryd.f9 _ Tryd.func9 rfl (n := 27) rfl rfl ?_
 refine GC.seq (GC.region ?_)
 refine G.stepD (OD.assign rfl rfl) rfl rfl rfl ?_
 refine G.nil (GE.then_ (GC.seq (GC.seq (GC.region ?_))))
 refine G.stepD (OD.move rfl rfl) rfl rfl rfl ?_
 refine G.stepD (OD.len rfl rfl et26 rfl ex) rfl rfl rfl ?_
 refine G.stepD (OD.move rfl rfl) rfl rfl rfl ?_
 refine G.stepD (OD.len rfl rfl et26 rfl ey) rfl rfl rfl ?_
 refine G.stepD (OD.eqv (OD.neq rfl rfl rfl) (congrArg Value.bool ((bne_same _) : _ = false))) rfl rfl rfl ?_
 refine G.nil (GE.then_ (GC.condF rfl (GC.skip (GE.then_ (GC.seq (GC.seq (GC.region ?_)))))))
 refine G.stepD (OD.assign rfl rfl) rfl rfl rfl ?_
 refine G.nil (GE.then_ (GC.block ?_))
 refine GC.loop (ι := Nat) (fun k => [(0, vx), (1, vy), (5, .int .i64 ((k : Int)))]) (fun k => own) (fun k => (k ≤ x.length)) (fun k => x.length - k) 0 (by omega) ⟨rfl, rfl, rfl, trivial⟩ [] 0 rfl ?_
 rintro k hk
 refine GC.seq (GC.seq (GC.region ?_))
 refine G.stepD (OD.move rfl rfl) rfl rfl rfl ?_
 refine G.stepD (OD.move rfl rfl) rfl rfl rfl ?_
 refine G.stepD (OD.len rfl rfl et26 rfl ex) rfl rfl rfl ?_
 refine G.stepD (OD.lss rfl rfl rfl) rfl rfl rfl ?_
 refine G.nil (GE.then_ ?_)
 refine GC.cond rfl (fun hc1 => ?_) (fun hc1 => ?_)
 replace hc1 := of_decide_eq_true hc1
 refine GC.skip (GE.then_ (GC.seq (GC.block (GC.seq ?_))))
 refine GC.at [] 0 (env' := [(0, vx), (1, vy), (5, .int .i64 ((k : Int)))]) ⟨rfl, rfl, rfl, trivial⟩ rfl ?_
 refine GC.par (its := [⟨17, [], [], [], [], fun _ => vx, fun _ => True, fun _ => []⟩,
     ⟨18, [], [], [], [], fun _ => .int .i64 ((k : Int)), fun _ => True, fun _ => []⟩,
     ⟨19, [(0, 17), (1, 18)], [], [], [], fun _ => elemPtr vx 2 (k), fun _ => True, fun _ => []⟩,
     ⟨20, [(2, 19)], [], [], [], fun _ => .agg #[(ux.getD (k) undef), .int .i64 ((x.getD (k) ([], 0)).2)], fun _ => True, fun _ => []⟩,
     ⟨21, [], [], [], [], fun _ => vy, fun _ => True, fun _ => []⟩,
     ⟨22, [], [], [], [], fun _ => .int .i64 ((k : Int)), fun _ => True, fun _ => []⟩,
     ⟨23, [(4, 21), (5, 22)], [], [], [], fun _ => elemPtr vy 2 (k), fun _ => True, fun _ => []⟩,
     ⟨24, [(6, 23)], [], [], [], fun _ => .agg #[(uy.getD (k) undef), .int .i64 ((x.getD (k) ([], 0)).2)], fun _ => True, fun _ => []⟩,
     ⟨25, [(3, 20), (7, 24)], [], [], [], fun _ => .bool true, fun _ => True, fun _ => []⟩,
     ⟨26, [(8, 25)], [], [], [], fun _ => .bool false, fun _ => True, fun _ => []⟩]) (by kernel_rfl) (by kernel_rfl) (POps.cons ?_ (POps.cons ?_ (POps.cons ?_ (POps.cons ?_ (POps.cons ?_ (POps.cons ?_ (POps.cons ?_ (POps.cons ?_ (POps.cons ?_ (POps.cons ?_ POps.nil)))))))))) ?_
 intro θ R hd
 exact Opp.plain (OG.imp (OD.move rfl rfl) (by rintro _ _ ⟨rfl, rfl⟩; exact ⟨[], rfl, trivial, rfl⟩)) rfl
 intro θ R hd
 exact Opp.plain (OG.imp (OD.move rfl rfl) (by rintro _ _ ⟨rfl, rfl⟩; exact ⟨[], rfl, trivial, rfl⟩)) rfl
 intro θ R hd
 obtain ⟨h0d, h1d, _⟩ := hd
 exact Opp.plain (OG.imp (OD.indexAddr rfl et26 rfl (ex.app) rfl (by omega)) (by rintro _ _ ⟨rfl, rfl⟩; exact ⟨[], rfl, trivial, rfl⟩)) rfl
 intro θ R hd
 obtain ⟨h2d, _⟩ := hd
 exact Opp.plain (OG.imp (OD.loadRec rfl ti41 rfl (ex.app) (by omega)) (by rintro _ _ ⟨rfl, rfl⟩; exact ⟨[], rfl, trivial, rfl⟩)) rfl
 intro θ R hd
 exact Opp.plain (OG.imp (OD.move rfl rfl) (by rintro _ _ ⟨rfl, rfl⟩; exact ⟨[], rfl, trivial, rfl⟩)) rfl
 intro θ R hd
 exact Opp.plain (OG.imp (OD.move rfl rfl) (by rintro _ _ ⟨rfl, rfl⟩; exact ⟨[], rfl, trivial, rfl⟩)) rfl
 intro θ R hd
 obtain ⟨h4d, h5d, _⟩ := hd
 exact Opp.plain (OG.imp (OD.indexAddr rfl et26 rfl (ey.app) rfl (by omega)) (by rintro _ _ ⟨rfl, rfl⟩; exact ⟨[], rfl, trivial, rfl⟩)) rfl
 intro θ R hd
 obtain ⟨h6d, _⟩ := hd
 exact Opp.plain (OG.imp (OD.loadRec rfl ti41 rfl (ey.app) (by omega)) (by rintro _ _ ⟨rfl, rfl⟩; exact ⟨[], rfl, trivial, rfl⟩)) rfl
 intro θ R hd
 obtain ⟨h3d, h7d, _⟩ := hd
 exact Opp.plain (OG.imp (OG.call [.agg #[(ux.getD (k) undef), .int .i64 ((x.getD (k) ([], 0)).2)], .agg #[(uy.getD (k) undef), .int .i64 ((x.getD (k) ([], 0)).2)]] ent23 rfl rfl rfl rfl (by exact (eqStep_same (ax.get (by omega)) ((mx (k) (by omega)).app) (ay.get (by omega)) ((my (k) (by omega)).app) (hle _ (recD_mem (by omega)))))) (by rintro _ _ ⟨rfl, rfl⟩; exact ⟨[], rfl, trivial, rfl⟩)) rfl
 intro θ R hd
 obtain ⟨h8d, _⟩ := hd
 exact Opp.plain (OG.imp (OD.not rfl rfl) (by rintro _ _ ⟨rfl, rfl⟩; exact ⟨[], rfl, trivial, rfl⟩)) rfl
 intro θ hall
 obtain ⟨_, _, _, _, _, _, _, _, _, _, _⟩ := hall
 refine G.at [] 0 (env' := [(0, vx), (1, vy), (5, .int .i64 ((k : Int))), (26, .bool false)]) ⟨rfl, rfl, rfl, rfl, trivial⟩ (own' := own) rfl ?_
 show G _ _ _ [] _ _ _ _
 refine G.nil (GE.then_ (GC.condF rfl (GC.skip (GE.blockN (GE.then_ (GC.region ?_))))))
 refine G.stepD (OD.move rfl rfl) rfl rfl rfl ?_
 refine G.stepD (OD.addI rfl rfl rfl (by omega)) rfl rfl rfl ?_
 refine G.stepD (OD.assign rfl rfl) rfl rfl rfl ?_
 refine G.nil ?_
 exact GE.again (k + 1) (by omega) (by first | omega | (dsimp only; omega)) ⟨rfl, rfl, rfl, trivial⟩ [] 0 rfl
 replace hc1 := of_decide_eq_false hc1
 refine GC.exit (GE.pass (GE.pass (GE.hit (GE.then_ (GC.seq (GC.region ?_))))))
 refine G.stepD (OD.assign rfl rfl) rfl rfl rfl ?_
 refine G.nil (GE.then_ (GC.ret ?_))
 exact GE.body [] 0 (res1 rfl rfl) rfl (⟨rfl, rfl⟩)

set_option maxRecDepth 100000 in
theorem markStepS_s {W : World} {own : List Asn} {vx : Value} {ux : List Value} {x : List Rec} {q : Int}  (sx : IsS vx) (ax : AllS ux) (lx : ux.length = x.length)   (hq : 0 ≤ q ∧ q ≤ 1000) (hlx : x.length ≤ 100) (hle : ∀ k, k < x.length → (x.getD k ([], 0)).1.length ≤ 1073741824) : Spec Tryd.prog 14 [vx, .int .i64 (q)] W (recs 41 vx ux x :: many (recI 3) ux x :: own) (fun v ow => v = .int .i64 (q + (totR x x.length : Nat)) ∧ ow = recs 41 vx ux (mkr q x) :: many (recI 3) ux (mkr q x) :: own) := by
 refine Spec.enter Tryd.f14 _ Tryd.func14 rfl (n := 27) rfl rfl ?_
 refine GC.seq (GC.region ?_)
 refine G.stepD (OD.assign rfl rfl) rfl rfl rfl ?_
 refine G.nil (GE.then_ (GC.seq (GC.seq (GC.region ?_))))
 refine G.stepD (OD.assign rfl rfl) rfl rfl rfl ?_
 refine G.nil (GE.then_ (GC.block ?_))
 refine GC.loop (ι := Nat × List Rec) (fun ⟨k, ms⟩ => [(0, vx), (1, .int .i64 (q + (totR x k : Nat))), (5, .int .i64 ((k : Int)))]) (fun ⟨k, ms⟩ => recs 41 vx ux ms :: many (recI 3) ux ms :: own) (fun ⟨k, ms⟩ => (k ≤ x.length) ∧ (ms = (mkr q x).take k ++ x.drop k)) (fun ⟨k, ms⟩ => x.length - k) (0, x) (⟨by omega, by simp⟩) ⟨rfl, int_eq (by rw [totR_zero]; omega), rfl, trivial⟩ [] 0 rfl ?_
 rintro ⟨k, ms⟩ ⟨hk, hms⟩
 have hml : ms.length = x.length := by rw [hms]; exact mkr_ln hk
 have htb := totR_bd hle hk
 refine GC.seq (GC.seq (GC.region ?_))
 refine G.stepD (OD.move rfl rfl) rfl rfl rfl ?_
 refine G.stepD (OD.move rfl rfl) rfl rfl rfl ?_
 refine G.stepD (OD.len rfl rfl et26 rfl (Ent.recs (i := 0) rfl)) rfl rfl rfl ?_
 refine G.stepD (OD.lss rfl rfl rfl) rfl rfl rfl ?_
 refine G.nil (GE.then_ ?_)
 refine GC.cond rfl (fun hc1 => ?_) (fun hc1 => ?_)
 replace hc1 := of_decide_eq_true hc1
 have hat : ms.getD k ([], 0) = x.getD k ([], 0) := by rw [hms]; exact mkr_at (by omega)
 have hts := totR_succ (xs := x) (k := k) (by omega)
 have hlk := hle k (by omega)
 have hlm : (ms.getD k ([], 0)).1.length ≤ 1073741824 := by rw [hat]; exact hlk
 have hml2 : (ms.set k (mkd (q + (totR x k : Nat)) (ms.getD (k) ([], 0)).1.length, q + (totR x k : Nat) + ((ms.getD (k) ([], 0)).1.length : Nat))).length = x.length := by rw [List.length_set]; exact hml
 refine GC.skip (GE.then_ (GC.seq (GC.block (GC.seq (GC.region ?_)))))
 refine G.stepD (OD.move rfl rfl) rfl rfl rfl ?_
 refine G.stepD (OD.move rfl rfl) rfl rfl rfl ?_
 refine G.stepD (OD.indexAddr rfl et26 rfl (Ent.recs (i := 0) rfl) rfl (by omega)) rfl rfl rfl ?_
 refine G.stepD (OD.fieldAddrE rfl rfl (Ent.recs (i := 0) rfl) (by omega) fa41_0) rfl rfl rfl ?_
 refine G.stepD (OD.loadField rfl ti22 rfl (Ent.recs (i := 0) rfl) (by omega) (by decide) (recR_fst (by omega))) rfl rfl rfl ?_
 refine G.stepD (OD.move rfl rfl) rfl rfl rfl ?_
 refine G.at [1, 0] 0 (env' := [(0, vx), (1, .int .i64 (q + (totR x k : Nat))), (5, .int .i64 ((k : Int))), (6, .int .i64 ((k : Int))), (7, vx), (8, .int .i64 ((ms.length : Nat))), (9, .bool (decide ((k : Int) < (ms.length : Nat)))), (12, vx), (13, .int .i64 ((k : Int))), (14, elemPtr vx 2 (k)), (15, elemPtrF vx 2 (k) 0), (16, (ux.getD (k) undef)), (17, .int .i64 (q + (totR x k : Nat)))]) ⟨rfl, rfl, rfl, rfl, rfl, rfl, rfl, rfl, rfl, rfl, rfl, rfl, rfl, trivial⟩ (own' := many (recI 3) ux ms :: recs 41 vx ux ms :: own) rfl ?_
 refine G.recOut (k) ⟨by omega, by omega⟩ ?_
 skip
 refine G.step (OG.call [(ux.getD (k) undef), .int .i64 (q + (totR x k : Nat))] ent13 rfl rfl rfl rfl (by exact (markIntS_s (ax.get (by omega)) (by omega) (by rw [hat]; omega)))) rfl rfl rfl ?_
 rintro _ _ ⟨rfl, rfl⟩
 refine G.at [0, 0, 0] 0 (env' := [(0, vx), (1, .int .i64 (q + (totR x k : Nat))), (5, .int .i64 ((k : Int))), (6, .int .i64 ((k : Int))), (7, vx), (8, .int .i64 ((ms.length : Nat))), (9, .bool (decide ((k : Int) < (ms.length : Nat)))), (12, vx), (13, .int .i64 ((k : Int))), (14, elemPtr vx 2 (k)), (15, elemPtrF vx 2 (k) 0), (16, (ux.getD (k) undef)), (17, .int .i64 (q + (totR x k : Nat))), (18, .int .i64 ((q + (totR x k : Nat)) + (((ms.getD (k) ([], 0)).1).length : Nat)))]) ⟨rfl, rfl, rfl, rfl, rfl, rfl, rfl, rfl, rfl, rfl, rfl, rfl, rfl, rfl, trivial⟩ (own' := ints 3 (ux.getD (k) undef) (mkd (q + (totR x k : Nat)) ((ms.getD (k) ([], 0)).1).length) :: many (recI 3) (ux.eraseIdx k) (ms.eraseIdx k) :: recs 41 vx ux ms :: own) rfl ?_
 refine G.recIn (mkd (q + (totR x k : Nat)) (ms.getD (k) ([], 0)).1.length, q + (totR x k : Nat) + ((ms.getD (k) ([], 0)).1.length : Nat)) (k) ⟨by omega, by omega⟩ ?_
 skip
 refine G.stepD (OD.assign rfl rfl) rfl rfl rfl ?_
 refine G.nil (GE.then_ (GC.seq (GC.region ?_)))
 refine G.stepD (OD.move rfl rfl) rfl rfl rfl ?_
 refine G.stepD (OD.move rfl rfl) rfl rfl rfl ?_
 refine G.stepD (OD.move rfl rfl) rfl rfl rfl ?_
 refine G.stepD (OD.indexAddr rfl et26 rfl (Ent.recs (i := 1) rfl) rfl (by first | omega | (simp only [List.length_set, List.length_replicate]; omega))) rfl rfl rfl ?_
 refine G.stepD (OD.fieldAddrE rfl rfl (Ent.recs (i := 1) rfl) (by first | omega | (simp only [List.length_set, List.length_replicate]; omega)) fa41_1) rfl rfl rfl ?_
 refine G.stepD0 (OD.storeSnd (c := (mkd (q + (totR x k : Nat)) (ms.getD (k) ([], 0)).1.length, q + (totR x k : Nat) + ((ms.getD (k) ([], 0)).1.length : Nat))) rfl ti3 rfl rfl (i := 1) rfl (by first | omega | (simp only [List.length_set, List.length_replicate]; omega)) rfl) rfl rfl ?_
 refine G.nil (GE.then_ (GC.region ?_))
 refine G.stepD (OD.move rfl rfl) rfl rfl rfl ?_
 refine G.stepD (OD.addI rfl rfl rfl (by first | omega | (simp only [List.length_set, List.length_replicate]; omega))) rfl rfl rfl ?_
 refine G.stepD (OD.assign rfl rfl) rfl rfl rfl ?_
 refine G.nil (GE.blockN (GE.then_ (GC.region ?_)))
 refine G.stepD (OD.move rfl rfl) rfl rfl rfl ?_
 refine G.stepD (OD.addI rfl rfl rfl (by first | omega | (simp only [List.length_set, List.length_replicate]; omega))) rfl rfl rfl ?_
 refine G.stepD (OD.assign rfl rfl) rfl rfl rfl ?_
 refine G.nil ?_
 exact GE.again (k + 1, ms.set (k) (mkd (q + (totR x k : Nat)) (ms.getD (k) ([], 0)).1.length, q + (totR x k : Nat) + ((ms.getD (k) ([], 0)).1.length : Nat))) (⟨by omega, by rw [hat, hms]; exact mkr_take (by omega)⟩) (by first | omega | (dsimp only; omega)) ⟨rfl, int_eq (by rw [hat]; omega), rfl, trivial⟩ [1, 0] 0 rfl
 replace hc1 := of_decide_eq_false hc1
 refine GC.exit (GE.pass (GE.pass (GE.hit (GE.then_ (GC.seq (GC.region ?_))))))
 refine G.stepD (OD.move rfl rfl) rfl rfl rfl ?_
 refine G.stepD (OD.assign rfl rfl) rfl rfl rfl ?_
 refine G.nil (GE.then_ (GC.ret ?_))
 exact GE.body [] 0 (res1 rfl rfl) rfl (⟨congrArg (fun (a : Int) => Value.int .i64 a) ((by rw [show k = x.length by omega]) : (q + (totR x k : Nat) : Int) = q + (totR x x.length : Nat)), congrArg (fun (z : List Rec) => recs 41 vx ux z :: many (recI 3) ux z :: own) ((by rw [hms]; exact mkr_all (by omega)) : ms = mkr q x)⟩)

set_option maxRecDepth 100000 in
theorem heldStepS_m {W : World} {own : List Asn} {vx : Value} {ux : List Value} {x : List Rec} {q : Int}  (sx : IsS vx) (ex : Ent own fun w => Recs w vx ux (mkr q x)) (mx : ∀ k, k < x.length → Ent own fun w => Ints w (ux.getD k undef) (mkd (q + (totR x k : Nat)) (x.getD k ([], 0)).1.length)) (lx : ux.length = x.length) (ax : AllS ux)   (hq : 0 ≤ q ∧ q ≤ 1000) (hlx : x.length ≤ 100) (hle : ∀ k, k < x.length → (x.getD k ([], 0)).1.length ≤ 1073741824) : Spec Tryd.prog 15 [vx, .int .i64 (q)] W own (fun v ow => v = .int .i64 (q + (totR x x.length : Nat)) ∧ ow = own) := by
 have hml := mkr_len q x
 refine Spec.enter Tryd.f15 _ Tryd.func15 rfl (n := 31) rfl rfl ?_
 refine GC.seq (GC.region ?_)
 refine G.stepD (OD.assign rfl rfl) rfl rfl rfl ?_
 refine G.nil (GE.then_ (GC.seq (GC.seq (GC.region ?_))))
 refine G.stepD (OD.assign rfl rfl) rfl rfl rfl ?_
 refine G.nil (GE.then_ (GC.block ?_))
 refine GC.loop (ι := Nat) (fun k => [(0, vx), (1, .int .i64 (q + (totR x (k) : Nat))), (5, .int .i64 ((k : Int)))]) (fun k => own) (fun k => (k ≤ x.length)) (fun k => x.length - k) 0 (by omega) ⟨rfl, int_eq (by rw [totR_zero]; omega), rfl, trivial⟩ [] 0 rfl ?_
 rintro k hk
 have htb := totR_bd hle hk
 refine GC.seq (GC.seq (GC.region ?_))
 refine G.stepD (OD.move rfl rfl) rfl rfl rfl ?_
 refine G.stepD (OD.move rfl rfl) rfl rfl rfl ?_
 refine G.stepD (OD.len rfl rfl et26 rfl ex) rfl rfl rfl ?_
 refine G.stepD (OD.lss rfl rfl rfl) rfl rfl rfl ?_
 refine G.nil (GE.then_ ?_)
 refine GC.cond rfl (fun hc1 => ?_) (fun hc1 => ?_)
 replace hc1 := of_decide_eq_true hc1
 have hts := totR_succ (xs := x) (k := k) (by omega)
 have hlk := hle k (by omega)
 refine GC.skip (GE.then_ (GC.seq (GC.block (GC.seq (GC.region ?_)))))
 refine G.stepD (OD.move rfl rfl) rfl rfl rfl ?_
 refine G.stepD (OD.move rfl rfl) rfl rfl rfl ?_
 refine G.stepD (OD.indexAddr rfl et26 rfl ex rfl (by omega)) rfl rfl rfl ?_
 refine G.stepD (OD.fieldAddrE rfl rfl ex (by omega) fa41_0) rfl rfl rfl ?_
 refine G.stepD (OD.loadField rfl ti22 rfl ex (by omega) (by decide) (recR_fst (by omega))) rfl rfl rfl ?_
 refine G.stepD (OD.move rfl rfl) rfl rfl rfl ?_
 refine G.step (OG.call [(ux.getD (k) undef), .int .i64 (q + (totR x (k) : Nat))] ent24 rfl rfl rfl rfl (by exact (heldIntS_m (ax.get (by omega)) ((mx (k) (by omega))) (by omega) (by omega)))) rfl rfl rfl ?_
 rintro _ _ ⟨rfl, hzz⟩; obtain rfl := hzz.symm
 refine G.stepD (OD.assign rfl rfl) rfl rfl rfl ?_
 refine G.nil (GE.then_ (GC.seq (GC.seq (GC.region ?_))))
 refine G.stepD (OD.move rfl rfl) rfl rfl rfl ?_
 refine G.stepD (OD.eqv (OD.lss rfl rfl rfl) (congrArg Value.bool ((decide_eq_false (by omega)) : _ = false))) rfl rfl rfl ?_
 refine G.nil (GE.then_ (GC.condF rfl (GC.skip (GE.then_ (GC.seq (GC.seq (GC.region ?_)))))))
 refine G.stepD (OD.move rfl rfl) rfl rfl rfl ?_
 refine G.stepD (OD.move rfl rfl) rfl rfl rfl ?_
 refine G.stepD (OD.indexAddr rfl et26 rfl ex rfl (by omega)) rfl rfl rfl ?_
 refine G.stepD (OD.fieldAddrE rfl rfl ex (by omega) fa41_1) rfl rfl rfl ?_
 refine G.stepD (OD.loadField rfl ti3 rfl ex (by omega) (by decide) (recR_snd (by omega))) rfl rfl rfl ?_
 refine G.stepD (OD.move rfl rfl) rfl rfl rfl ?_
 refine G.stepD (OD.eqv (OD.neq rfl rfl rfl) (congrArg Value.bool ((bneF (congrArg Prod.snd (mkr_get q (show k < x.length by omega)))) : _ = false))) rfl rfl rfl ?_
 refine G.nil (GE.then_ (GC.condF rfl (GC.skip (GE.then_ (GC.region ?_)))))
 refine G.stepD (OD.move rfl rfl) rfl rfl rfl ?_
 refine G.stepD (OD.addI rfl rfl rfl (by omega)) rfl rfl rfl ?_
 refine G.stepD (OD.assign rfl rfl) rfl rfl rfl ?_
 refine G.nil (GE.blockN (GE.then_ (GC.region ?_)))
 refine G.stepD (OD.move rfl rfl) rfl rfl rfl ?_
 refine G.stepD (OD.addI rfl rfl rfl (by omega)) rfl rfl rfl ?_
 refine G.stepD (OD.assign rfl rfl) rfl rfl rfl ?_
 refine G.nil ?_
 exact GE.again (k + 1) (by omega) (by first | omega | (dsimp only; omega)) ⟨rfl, int_eq (by omega), rfl, trivial⟩ [] 0 rfl
 replace hc1 := of_decide_eq_false hc1
 refine GC.exit (GE.pass (GE.pass (GE.hit (GE.then_ (GC.seq (GC.region ?_))))))
 refine G.stepD (OD.move rfl rfl) rfl rfl rfl ?_
 refine G.stepD (OD.assign rfl rfl) rfl rfl rfl ?_
 refine G.nil (GE.then_ (GC.ret ?_))
 exact GE.body [] 0 (res1 rfl rfl) rfl (⟨congrArg (fun (a0 : Int) => (.int .i64 (a0) : Value)) ((by rw [show k = x.length by omega] : (q + (totR x (k) : Nat) : Int) = q + (totR x x.length : Nat))), rfl⟩)

set_option maxRecDepth 100000 in
theorem specStraightPath_w {W : World} {own : List Asn} {cr : Int} {vcd : Value} {cd : List Int} {vx : Value} {x : List Int}  (scd : IsS vcd) (ecd : Ent own fun w => Ints w vcd cd)   (sx : IsS vx) (ex : Ent own fun w => Ints w vx x)  (hl0 : cd.length ≤ 1073741824) (hl : x.length ≤ 1073741824) : Spec Tryd.prog 5 [.agg #[.int .i64 (cr), vcd], vx] W own (fun v ow => ∃ (r0 : Value) (u0 : List Value), v = r0 ∧ IsS r0 ∧ AllS u0 ∧ u0.length = (stOf cr cd x).length ∧ ow = recs 41 r0 u0 (stOf cr cd x) :: many (recI 3) u0 (stOf cr cd x) :: own) := by
 refine Spec.enter Tryd.f5 _ Tryd.func5 rfl (n := 18) rfl rfl ?_
 refine GC.seq (GC.region ?_)
 refine G.step (OG.box (cs := [.int .i64 (cr), vcd]) rfl rfl rfl) rfl rfl rfl ?_
 rintro _ _ ⟨g1, rfl, rfl⟩
 refine G.stepD (OD.assign rfl rfl) rfl rfl rfl ?_
 refine G.nil (GE.then_ (GC.seq (GC.seq (GC.region ?_))))
 refine G.stepD (OD.loadAgg rfl ti28 rfl (i := 0) rfl (us := [.int .i64 (cr), vcd]) rfl rfl) rfl rfl rfl ?_
 refine G.step (OG.call [.agg #[.int .i64 (cr), vcd]] ent17 rfl rfl rfl rfl (by exact (specIsCartan_w scd (Ent.drop 1 ecd) (hl0)))) rfl rfl rfl ?_
 rintro _ _ ⟨rfl, rfl⟩
 refine G.stepD (OD.not rfl rfl) rfl rfl rfl ?_
 refine G.stepD (OD.move rfl rfl) rfl rfl rfl ?_
 rcases Bool.eq_false_or_eq_true (!((tyS cr cd).isSome)) with hg2 | hg2
 have hg2e := hg2
 refine G.at [] 0 (env' := [(0, .agg #[.int .i64 (cr), vcd]), (1, vx), (2, .pointer (some ⟨g1, 0, none⟩)), (4, .slice none 0 0), (5, .agg #[.int .i64 (cr), vcd]), (6, .bool ((tyS cr cd).isSome)), (7, .bool true), (8, .bool true)]) (⟨rfl, rfl, rfl, rfl, rfl, rfl, (congrArg (fun b => some (Value.bool b)) hg2e), (congrArg (fun b => some (Value.bool b)) hg2e), trivial⟩) rfl ?_
 replace hg2 := eq_false_of_not hg2
 refine G.skipG rfl rfl rfl rfl rfl rfl (G.skipG rfl rfl rfl rfl rfl rfl (G.skipG rfl rfl rfl rfl rfl rfl (G.skipG rfl rfl rfl rfl rfl rfl ?_)))
 refine G.stepD (OD.pickT rfl rfl rfl) rfl rfl rfl ?_
 refine G.nil (GE.then_ (GC.condT rfl (GC.seq (GC.region ?_))))
 refine G.stepD (OD.assign rfl rfl) rfl rfl rfl ?_
 refine G.nil (GE.then_ (GC.ret (GE.passR ?_)))
 skip
 refine GE.many0 (recI 3) ?_
 refine GE.nilRecs 41 ?_
 exact GE.body [0, 0] 1 (res1 rfl rfl) rfl (⟨(.slice none 0 0), [], rfl, IsS.nil, AllS.nil, (by rw [stOf, hg2] <;> rfl), congrArg (fun (l0 : List Rec) => recs 41 (.slice none 0 0) [] l0 :: many (recI 3) [] l0 :: own) ((by rw [stOf, hg2] <;> rfl : [] = stOf cr cd x))⟩)
 have hg2e := hg2
 refine G.at [] 0 (env' := [(0, .agg #[.int .i64 (cr), vcd]), (1, vx), (2, .pointer (some ⟨g1, 0, none⟩)), (4, .slice none 0 0), (5, .agg #[.int .i64 (cr), vcd]), (6, .bool ((tyS cr cd).isSome)), (7, .bool false), (8, .bool false)]) (⟨rfl, rfl, rfl, rfl, rfl, rfl, (congrArg (fun b => some (Value.bool b)) hg2e), (congrArg (fun b => some (Value.bool b)) hg2e), trivial⟩) rfl ?_
 replace hg2 := eq_true_of_not hg2
 refine G.stepGD (OD.loadAgg rfl ti28 rfl (i := 0) rfl (us := [.int .i64 (cr), vcd]) rfl rfl) rfl rfl rfl rfl rfl ?_
 refine G.stepGD (OD.move rfl rfl) rfl rfl rfl rfl rfl ?_
 refine G.stepG (OG.call [.agg #[.int .i64 (cr), vcd], vx] ent18 rfl rfl rfl rfl (by exact (l5Lattice_w scd (Ent.drop 1 ecd) sx (Ent.drop 1 ex) (by omega)))) rfl rfl rfl rfl rfl ?_
 rintro _ _ ⟨rfl, rfl⟩
 refine G.stepGD (OD.not rfl rfl) rfl rfl rfl rfl rfl ?_
 refine G.stepD (OD.pickF rfl rfl rfl) rfl rfl rfl ?_
 refine G.nil (GE.then_ ?_)
 refine GC.cond rfl (fun hc3 => ?_) (fun hc3 => ?_)
 replace hc3 := eq_false_of_not hc3
 refine GC.seq (GC.region ?_)
 refine G.stepD (OD.assign rfl rfl) rfl rfl rfl ?_
 refine G.nil (GE.then_ (GC.ret (GE.passR ?_)))
 skip
 refine GE.many0 (recI 3) ?_
 refine GE.nilRecs 41 ?_
 exact GE.body [0, 0] 1 (res1 rfl rfl) rfl (⟨(.slice none 0 0), [], rfl, IsS.nil, AllS.nil, (by rw [stOf, hg2, hc3] <;> rfl), congrArg (fun (l0 : List Rec) => recs 41 (.slice none 0 0) [] l0 :: many (recI 3) [] l0 :: own) ((by rw [stOf, hg2, hc3] <;> rfl : [] = stOf cr cd x))⟩)
 replace hc3 := eq_true_of_not hc3
 have hS := hg2
 have hwx := hc3
 refine GC.skip (GE.then_ (GC.seq (GC.region ?_)))
 refine G.stepD (OD.move rfl rfl) rfl rfl rfl ?_
 refine G.step (OG.call [vx] ent19 rfl rfl rfl rfl (by exact (l1Ints_w sx (Ent.drop 1 ex) (by omega)))) rfl rfl rfl ?_
 rintro v4 _ ⟨_, rfl, hs5, rfl⟩
 refine G.stepD (OD.build (idx := [0, 1]) (xs := [.tmp 15, .const (.int .i64 (27720))]) (vs := [v4, .int .i64 (27720)]) (cs := [[v4], [.int .i64 (27720)]]) (zs := [.slice none 0 0, .int .i64 (0)]) (r := [v4, .int .i64 (27720)]) rfl ti41 rfl rfl rfl ⟨(one_cells (IsS.one hs5)), ⟨rfl, trivial⟩⟩ rfl) rfl rfl rfl ?_
 refine G.step (OG.buildRws rfl et26 (us := [v4, .int .i64 (27720)]) rfl rfl rfl rfl) rfl rfl rfl ?_
 rintro v6 _ ⟨hs7, rfl⟩
 refine G.stepD (OD.assign rfl rfl) rfl rfl rfl ?_
 refine G.nil (GE.then_ (GC.ret ?_))
 refine GE.many0 (recI 3) ?_
 refine GE.at [2, 0, 0, 0] 0 (env' := [(0, .agg #[.int .i64 (cr), vcd]), (1, vx), (2, .pointer (some ⟨g1, 0, none⟩)), (5, .agg #[.int .i64 (cr), vcd]), (6, .bool ((tyS cr cd).isSome)), (7, .bool false), (8, .bool false), (9, .agg #[.int .i64 (cr), vcd]), (10, vx), (11, .bool (wtOk cr x)), (12, .bool (!(wtOk cr x))), (13, .bool (!(wtOk cr x))), (14, vx), (15, v4), (16, .agg #[v4, .int .i64 (27720)]), (17, v6), (4, v6)]) ⟨rfl, rfl, rfl, rfl, rfl, rfl, rfl, rfl, rfl, rfl, rfl, rfl, rfl, rfl, rfl, rfl, rfl, trivial⟩ (own' := ints 3 v4 x :: many (recI 3) [] [] :: rws 41 2 v6 ([[v4, .int .i64 (27720)]]) :: box g1 28 [.int .i64 (cr), vcd] :: own) rfl ?_
 refine GE.manyPush (A := recI 3) (vs := []) (xs := []) (x := (x, 27720)) rfl ?_
 refine GE.ownEq (own' := many (recI 3) [v4] [(x, 27720)] :: recs 41 v6 [v4] [(x, 27720)] :: box g1 28 [.int .i64 (cr), vcd] :: own) (rfl) ?_
 skip
 exact GE.body [1, 0] 1 (res1 rfl rfl) rfl (⟨v6, [v4], rfl, hs7, (AllS.snoc AllS.nil hs5), (by rw [stOf, hS, hwx] <;> rfl), congrArg (fun (l0 : List Rec) => recs 41 v6 [v4] l0 :: many (recI 3) [v4] l0 :: own) ((by rw [stOf, hS, hwx] <;> rfl : [(x, 27720)] = stOf cr cd x))⟩)

set_option maxRecDepth 100000 in
theorem straightPath_w {W : World} {own : List Asn} {cr : Int} {vcd : Value} {cd : List Int} {vx : Value} {x : List Int}  (scd : IsS vcd) (ecd : Ent own fun w => Ints w vcd cd)   (sx : IsS vx) (ex : Ent own fun w => Ints w vx x)  (hl0 : cd.length ≤ 1073741824) (hl : x.length ≤ 1073741824) (hg : Ent own fun w => ∃ m, w.cell? ⟨Tryd.l146_ren.g 1, 0, none⟩ = some (.int .i64 m)) : Spec Tryd.prog 8 [.agg #[.int .i64 (cr), vcd], vx] W own (fun v ow => ∃ (r0 : Value) (u0 : List Value), v = r0 ∧ IsS r0 ∧ AllS u0 ∧ u0.length = (stOf cr cd x).length ∧ ow = recs 41 r0 u0 (stOf cr cd x) :: many (recI 3) u0 (stOf cr cd x) :: own) := by
 refine Spec.enter Tryd.f8 _ Tryd.func8 rfl (n := 18) rfl rfl ?_
 refine GC.seq (GC.region ?_)
 refine G.step (OG.box (cs := [.int .i64 (cr), vcd]) rfl rfl rfl) rfl rfl rfl ?_
 rintro _ _ ⟨g1, rfl, rfl⟩
 refine G.stepD (OD.assign rfl rfl) rfl rfl rfl ?_
 refine G.nil (GE.then_ (GC.seq (GC.seq (GC.region ?_))))
 refine G.stepD (OD.loadAgg rfl ti28 rfl (i := 0) rfl (us := [.int .i64 (cr), vcd]) rfl rfl) rfl rfl rfl ?_
 refine G.step (OG.call [.agg #[.int .i64 (cr), vcd]] ent20 rfl rfl rfl rfl (by exact (isCartan_w scd (Ent.drop 1 ecd) (hl0) ((Ent.drop 1 hg))))) rfl rfl rfl ?_
 rintro _ _ ⟨rfl, rfl⟩
 refine G.stepD (OD.not rfl rfl) rfl rfl rfl ?_
 refine G.stepD (OD.move rfl rfl) rfl rfl rfl ?_
 rcases Bool.eq_false_or_eq_true (!((tyS cr cd).isSome)) with hg2 | hg2
 have hg2e := hg2
 refine G.at [] 0 (env' := [(0, .agg #[.int .i64 (cr), vcd]), (1, vx), (2, .pointer (some ⟨g1, 0, none⟩)), (4, .slice none 0 0), (5, .agg #[.int .i64 (cr), vcd]), (6, .bool ((tyS cr cd).isSome)), (7, .bool true), (8, .bool true)]) (⟨rfl, rfl, rfl, rfl, rfl, rfl, (congrArg (fun b => some (Value.bool b)) hg2e), (congrArg (fun b => some (Value.bool b)) hg2e), trivial⟩) rfl ?_
 replace hg2 := eq_false_of_not hg2
 refine G.skipG rfl rfl rfl rfl rfl rfl (G.skipG rfl rfl rfl rfl rfl rfl (G.skipG rfl rfl rfl rfl rfl rfl (G.skipG rfl rfl rfl rfl rfl rfl ?_)))
 refine G.stepD (OD.pickT rfl rfl rfl) rfl rfl rfl ?_
 refine G.nil (GE.then_ (GC.condT rfl (GC.seq (GC.region ?_))))
 refine G.stepD (OD.assign rfl rfl) rfl rfl rfl ?_
 refine G.nil (GE.then_ (GC.ret (GE.passR ?_)))
 skip
 refine GE.many0 (recI 3) ?_
 refine GE.nilRecs 41 ?_
 exact GE.body [0, 0] 1 (res1 rfl rfl) rfl (⟨(.slice none 0 0), [], rfl, IsS.nil, AllS.nil, (by rw [stOf, hg2] <;> rfl), congrArg (fun (l0 : List Rec) => recs 41 (.slice none 0 0) [] l0 :: many (recI 3) [] l0 :: own) ((by rw [stOf, hg2] <;> rfl : [] = stOf cr cd x))⟩)
 have hg2e := hg2
 refine G.at [] 0 (env' := [(0, .agg #[.int .i64 (cr), vcd]), (1, vx), (2, .pointer (some ⟨g1, 0, none⟩)), (4, .slice none 0 0), (5, .agg #[.int .i64 (cr), vcd]), (6, .bool ((tyS cr cd).isSome)), (7, .bool false), (8, .bool false)]) (⟨rfl, rfl, rfl, rfl, rfl, rfl, (congrArg (fun b => some (Value.bool b)) hg2e), (congrArg (fun b => some (Value.bool b)) hg2e), trivial⟩) rfl ?_
 replace hg2 := eq_true_of_not hg2
 refine G.stepGD (OD.loadAgg rfl ti28 rfl (i := 0) rfl (us := [.int .i64 (cr), vcd]) rfl rfl) rfl rfl rfl rfl rfl ?_
 refine G.stepGD (OD.move rfl rfl) rfl rfl rfl rfl rfl ?_
 refine G.stepG (OG.call [.agg #[.int .i64 (cr), vcd], vx] ent21 rfl rfl rfl rfl (by exact (isWeight_w scd (Ent.drop 1 ecd) sx (Ent.drop 1 ex) (by omega)))) rfl rfl rfl rfl rfl ?_
 rintro _ _ ⟨rfl, rfl⟩
 refine G.stepGD (OD.not rfl rfl) rfl rfl rfl rfl rfl ?_
 refine G.stepD (OD.pickF rfl rfl rfl) rfl rfl rfl ?_
 refine G.nil (GE.then_ ?_)
 refine GC.cond rfl (fun hc3 => ?_) (fun hc3 => ?_)
 replace hc3 := eq_false_of_not hc3
 refine GC.seq (GC.region ?_)
 refine G.stepD (OD.assign rfl rfl) rfl rfl rfl ?_
 refine G.nil (GE.then_ (GC.ret (GE.passR ?_)))
 skip
 refine GE.many0 (recI 3) ?_
 refine GE.nilRecs 41 ?_
 exact GE.body [0, 0] 1 (res1 rfl rfl) rfl (⟨(.slice none 0 0), [], rfl, IsS.nil, AllS.nil, (by rw [stOf, hg2, hc3] <;> rfl), congrArg (fun (l0 : List Rec) => recs 41 (.slice none 0 0) [] l0 :: many (recI 3) [] l0 :: own) ((by rw [stOf, hg2, hc3] <;> rfl : [] = stOf cr cd x))⟩)
 replace hc3 := eq_true_of_not hc3
 have hS := hg2
 have hwx := hc3
 refine GC.skip (GE.then_ (GC.seq (GC.region ?_)))
 refine G.stepD (OD.move rfl rfl) rfl rfl rfl ?_
 refine G.step (OG.call [vx] ent22 rfl rfl rfl rfl (by exact (clone_w sx (Ent.drop 1 ex) (by omega)))) rfl rfl rfl ?_
 rintro v4 _ ⟨_, rfl, hs5, rfl⟩
 refine G.stepD (OD.build (idx := [0, 1]) (xs := [.tmp 15, .const (.int .i64 (27720))]) (vs := [v4, .int .i64 (27720)]) (cs := [[v4], [.int .i64 (27720)]]) (zs := [.slice none 0 0, .int .i64 (0)]) (r := [v4, .int .i64 (27720)]) rfl ti41 rfl rfl rfl ⟨(one_cells (IsS.one hs5)), ⟨rfl, trivial⟩⟩ rfl) rfl rfl rfl ?_
 refine G.step (OG.buildRws rfl et26 (us := [v4, .int .i64 (27720)]) rfl rfl rfl rfl) rfl rfl rfl ?_
 rintro v6 _ ⟨hs7, rfl⟩
 refine G.stepD (OD.assign rfl rfl) rfl rfl rfl ?_
 refine G.nil (GE.then_ (GC.ret ?_))
 refine GE.many0 (recI 3) ?_
 refine GE.at [2, 0, 0, 0] 0 (env' := [(0, .agg #[.int .i64 (cr), vcd]), (1, vx), (2, .pointer (some ⟨g1, 0, none⟩)), (5, .agg #[.int .i64 (cr), vcd]), (6, .bool ((tyS cr cd).isSome)), (7, .bool false), (8, .bool false), (9, .agg #[.int .i64 (cr), vcd]), (10, vx), (11, .bool (wtOk cr x)), (12, .bool (!(wtOk cr x))), (13, .bool (!(wtOk cr x))), (14, vx), (15, v4), (16, .agg #[v4, .int .i64 (27720)]), (17, v6), (4, v6)]) ⟨rfl, rfl, rfl, rfl, rfl, rfl, rfl, rfl, rfl, rfl, rfl, rfl, rfl, rfl, rfl, rfl, rfl, trivial⟩ (own' := ints 3 v4 x :: many (recI 3) [] [] :: rws 41 2 v6 ([[v4, .int .i64 (27720)]]) :: box g1 28 [.int .i64 (cr), vcd] :: own) rfl ?_
 refine GE.manyPush (A := recI 3) (vs := []) (xs := []) (x := (x, 27720)) rfl ?_
 refine GE.ownEq (own' := many (recI 3) [v4] [(x, 27720)] :: recs 41 v6 [v4] [(x, 27720)] :: box g1 28 [.int .i64 (cr), vcd] :: own) (rfl) ?_
 skip
 exact GE.body [1, 0] 1 (res1 rfl rfl) rfl (⟨v6, [v4], rfl, hs7, (AllS.snoc AllS.nil hs5), (by rw [stOf, hS, hwx] <;> rfl), congrArg (fun (l0 : List Rec) => recs 41 v6 [v4] l0 :: many (recI 3) [v4] l0 :: own) ((by rw [stOf, hS, hwx] <;> rfl : [(x, 27720)] = stOf cr cd x))⟩)

set_option maxHeartbeats 4000000 in
set_option maxRecDepth 100000 in
theorem lawStraightPath {W : World} {own : List Asn} {cr : Int} {vcd : Value} {cd : List Int} {vx : Value} {x : List Int}  (scd : IsS vcd) (ecd : Ent own fun w => Ints w vcd cd)   (sx : IsS vx) (ex : Ent own fun w => Ints w vx x)  (hcd : cd.length ≤ 9223372036854775807) (hx : x.length ≤ 9223372036854775807) (hg : Ent own fun w => ∃ m, w.cell? ⟨Tryd.l146_ren.g 1, 0, none⟩ = some (.int .i64 m)) : Spec Tryd.prog 3 [.agg #[.int .i64 (cr), vcd], vx] W own (fun v ow => v = .bool (true) ∧ ow = own) := by
 have hR1 := stOf_len cr cd x
 refine Spec.enter Tryd.f3 _ Tryd.func3 rfl (n := 90) rfl rfl ?_
 refine GC.seq (GC.region ?_)
 refine G.step (OG.box (cs := [.int .i64 (cr), vcd]) rfl rfl rfl) rfl rfl rfl ?_
 rintro _ _ ⟨g1, rfl, rfl⟩
 refine G.stepD (OD.assign rfl rfl) rfl rfl rfl ?_
 refine G.nil (GE.then_ (GC.seq (GC.seq (GC.region ?_))))
 refine G.stepD (OD.move rfl rfl) rfl rfl rfl ?_
 refine G.stepD (OD.len rfl rfl et22 rfl (Ent.drop 1 ex)) rfl rfl rfl ?_
 refine G.stepD (OD.gtr rfl rfl rfl) rfl rfl rfl ?_
 refine G.nil (GE.then_ ?_)
 refine GC.cond rfl (fun hc2 => ?_) (fun hc2 => ?_)
 replace hc2 := of_decide_eq_true hc2
 refine GC.seq (GC.region ?_)
 refine G.stepD (OD.assign rfl rfl) rfl rfl rfl ?_
 refine G.nil (GE.then_ (GC.ret (GE.passR ?_)))
 exact GE.body [] 1 (res1 rfl rfl) rfl (⟨rfl, rfl⟩)
 replace hc2 := of_decide_eq_false hc2
 refine GC.skip (GE.then_ (GC.seq (GC.region ?_)))
 refine G.stepD (OD.assign rfl rfl) rfl rfl rfl ?_
 refine G.nil (GE.then_ (GC.seq (GC.region ?_)))
 refine G.stepD (OD.loadAgg rfl ti24 rfl (i := 0) rfl (us := [.int .i64 (cr), vcd]) rfl rfl) rfl rfl rfl ?_
 refine G.stepD (OD.move rfl rfl) rfl rfl rfl ?_
 refine G.step (OG.call [.agg #[.int .i64 (cr), vcd], .int .i64 (1048576)] ent4 rfl rfl rfl rfl (by exact (szCartan_s scd (Ent.drop 1 ecd) (by omega) (by omega)))) rfl rfl rfl ?_
 rintro _ _ ⟨rfl, rfl⟩
 refine G.stepD (OD.assign rfl rfl) rfl rfl rfl ?_
 refine G.nil (GE.then_ (GC.seq (GC.seq (GC.region ?_))))
 refine G.stepD (OD.move rfl rfl) rfl rfl rfl ?_
 refine G.stepD (OD.lss rfl rfl rfl) rfl rfl rfl ?_
 refine G.nil (GE.then_ ?_)
 refine GC.cond rfl (fun hc3 => ?_) (fun hc3 => ?_)
 replace hc3 := of_decide_eq_true hc3
 refine GC.seq (GC.region ?_)
 refine G.stepD (OD.assign rfl rfl) rfl rfl rfl ?_
 refine G.nil (GE.then_ (GC.ret (GE.passR ?_)))
 exact GE.body [] 1 (res1 rfl rfl) rfl (⟨rfl, rfl⟩)
 replace hc3 := of_decide_eq_false hc3
 have hc3z := szG_ok hc3
 refine GC.skip (GE.then_ (GC.seq (GC.region ?_)))
 refine G.stepD (OD.loadAgg rfl ti24 rfl (i := 0) rfl (us := [.int .i64 (cr), vcd]) rfl rfl) rfl rfl rfl ?_
 refine G.step (OG.call [.agg #[.int .i64 (cr), vcd]] ent6 rfl rfl rfl rfl (by exact (toCartan_s scd (Ent.drop 1 ecd) (by omega)))) rfl rfl rfl ?_
 rintro _ _ ⟨v4, rfl, hs5, rfl⟩
 refine G.stepD (OD.move rfl rfl) rfl rfl rfl ?_
 refine G.step (OG.call [vx] ent7 rfl rfl rfl rfl (by exact (toIntS_s sx (Ent.drop 2 ex) (by omega)))) rfl rfl rfl ?_
 rintro v6 _ ⟨_, rfl, hs7, rfl⟩
 refine G.step (OG.call [.agg #[.int .i64 (cr), v4], v6] ent5 rfl rfl rfl rfl (by exact (specStraightPath_w hs5 (Ent.ints (i := 1) rfl) hs7 (Ent.ints (i := 0) rfl) (by omega) (by omega)))) rfl rfl rfl ?_
 rintro v8 _ ⟨_, u9, rfl, hs10, hs11, hs12, rfl⟩
 refine G.stepD (OD.assign rfl rfl) rfl rfl rfl ?_
 refine G.nil (GE.then_ (GC.seq (GC.region ?_)))
 refine G.stepD (OD.loadAgg rfl ti24 rfl (i := 4) rfl (us := [.int .i64 (cr), vcd]) rfl rfl) rfl rfl rfl ?_
 refine G.step (OG.call [.agg #[.int .i64 (cr), vcd]] ent6 rfl rfl rfl rfl (by exact (toCartan_s scd (Ent.drop 5 ecd) (by omega)))) rfl rfl rfl ?_
 rintro _ _ ⟨v13, rfl, hs14, rfl⟩
 refine G.step (OG.alloc rfl ti28 (zs := [.int .i64 (0), .slice none 0 0]) rfl) rfl rfl rfl ?_
 rintro _ _ ⟨g15, rfl, rfl⟩
 refine G.stepD0 (OD.store rfl ti28 rfl rfl (us := [.int .i64 (cr), v13]) rfl rfl (allC rfl (allC (IsS.one hs14) rfl)) (i := 0) rfl rfl) rfl rfl ?_
 refine G.nil (GE.then_ (GC.seq (GC.region ?_)))
 refine G.stepD (OD.move rfl rfl) rfl rfl rfl ?_
 refine G.step (OG.call [vx] ent7 rfl rfl rfl rfl (by exact (toIntS_s sx (Ent.drop 7 ex) (by omega)))) rfl rfl rfl ?_
 rintro v16 _ ⟨_, rfl, hs17, rfl⟩
 refine G.stepD (OD.assign rfl rfl) rfl rfl rfl ?_
 refine G.nil (GE.then_ (GC.seq (GC.region ?_)))
 refine G.stepD (OD.loadAgg rfl ti28 rfl (i := 1) rfl (us := [.int .i64 (cr), v13]) rfl rfl) rfl rfl rfl ?_
 refine G.stepD (OD.move rfl rfl) rfl rfl rfl ?_
 refine G.step (OG.call [.agg #[.int .i64 (cr), v13], v16] ent8 rfl rfl rfl rfl (by exact (straightPath_w hs14 (Ent.ints (i := 2) rfl) hs17 (Ent.ints (i := 0) rfl) (by omega) (by omega) ((Ent.drop 8 hg))))) rfl rfl rfl ?_
 rintro v18 _ ⟨_, u19, rfl, hs20, hs21, hs22, rfl⟩
 refine G.stepD (OD.assign rfl rfl) rfl rfl rfl ?_
 refine G.nil (GE.then_ (GC.seq (GC.seq (GC.region ?_))))
 refine G.stepD (OD.move rfl rfl) rfl rfl rfl ?_
 refine G.stepD (OD.move rfl rfl) rfl rfl rfl ?_
 refine G.step (OG.call [v18, v8] ent9 rfl rfl rfl rfl (by exact (eqStepS_same hs20 (Ent.recs (i := 0) rfl) (fun k hk => by exact Ent.manyRec (i := 1) (k := k) rfl ⟨by omega, hk⟩) hs22 hs21 hs10 (Ent.recs (i := 5) rfl) (fun k hk => by exact Ent.manyRec (i := 6) (k := k) rfl ⟨by omega, hk⟩) hs12 hs11 (by omega) (stOf_ent (b := 9223372036854775807) (by omega))))) rfl rfl rfl ?_
 rintro _ _ ⟨rfl, rfl⟩
 refine G.stepD (OD.not rfl rfl) rfl rfl rfl ?_
 refine G.nil (GE.then_ (GC.condF rfl (GC.skip (GE.then_ (GC.seq (GC.seq ?_))))))
 refine GC.at [] 0 (env' := [(1, vx), (2, .pointer (some ⟨g1, 0, none⟩)), (6, v8), (7, .pointer (some ⟨g15, 0, none⟩)), (8, v16), (9, v18)]) ⟨rfl, rfl, rfl, rfl, rfl, rfl, trivial⟩ rfl ?_
 refine GC.par (its := [⟨38, [], [], [], [], fun _ => .agg #[.int .i64 (cr), v13], fun _ => True, fun _ => []⟩,
     ⟨39, [], [], [], [], fun _ => .agg #[.int .i64 (cr), vcd], fun _ => True, fun _ => []⟩,
     ⟨40, [(1, 39)], [], [], [2], fun ds => .agg #[.int .i64 (cr), ((ds.getD 0 []).getD 0 undef)], fun ds => IsS ((ds.getD 0 []).getD 0 undef), fun ds => [ints 3 ((ds.getD 0 []).getD 0 undef) cd]⟩,
     ⟨41, [(0, 38), (2, 40)], [2], [], [2], fun _ => .bool true, fun _ => True, fun _ => []⟩,
     ⟨42, [(3, 41)], [2], [], [2], fun _ => .bool false, fun _ => True, fun _ => []⟩]) (by kernel_rfl) (by kernel_rfl) (POps.cons ?_ (POps.cons ?_ (POps.cons ?_ (POps.cons ?_ (POps.cons ?_ POps.nil))))) ?_
 intro θ R hd
 exact Opp.plain (OG.imp (OD.loadAgg rfl ti28 rfl (i := 3) rfl (us := [.int .i64 (cr), v13]) rfl rfl) (by rintro _ _ ⟨rfl, rfl⟩; exact ⟨[], rfl, trivial, rfl⟩)) rfl
 intro θ R hd
 exact Opp.plain (OG.imp (OD.loadAgg rfl ti24 rfl (i := 9) rfl (us := [.int .i64 (cr), vcd]) rfl rfl) (by rintro _ _ ⟨rfl, rfl⟩; exact ⟨[], rfl, trivial, rfl⟩)) rfl
 intro θ R hd
 obtain ⟨h1d, _⟩ := hd
 exact Opp.plain (OG.imp (OG.call [.agg #[.int .i64 (cr), vcd]] ent6 rfl rfl rfl rfl (by exact (toCartan_s scd (Ent.drop 10 ecd.app) (by omega)))) (by rintro _ _ ⟨v23, rfl, hs24, rfl⟩; exact ⟨[v23], rfl, hs24, rfl⟩)) rfl
 intro θ R hd
 obtain ⟨h0d, h2d, _⟩ := hd
 exact Opp.plain (OG.imp (OG.call [.agg #[.int .i64 (cr), v13], .agg #[.int .i64 (cr), ((θ 2).getD 0 undef)]] ent10 rfl rfl rfl rfl (by exact (eqCartan_same hs14 (Ent.ints (i := 5) rfl) h2d (Ent.ints (i := 0) rfl) (by omega)))) (by rintro _ _ ⟨rfl, rfl⟩; exact ⟨[], rfl, trivial, rfl⟩)) rfl
 intro θ R hd
 obtain ⟨h3d, _⟩ := hd
 exact Opp.plain (OG.imp (OD.not rfl rfl) (by rintro _ _ ⟨rfl, rfl⟩; exact ⟨[], rfl, trivial, rfl⟩)) rfl
 intro θ hall
 obtain ⟨_, _, h2a, _, _, _⟩ := hall
 refine G.at [] 0 (env' := [(1, vx), (2, .pointer (some ⟨g1, 0, none⟩)), (6, v8), (7, .pointer (some ⟨g15, 0, none⟩)), (8, v16), (9, v18), (42, .bool false)]) ⟨rfl, rfl, rfl, rfl, rfl, rfl, rfl, trivial⟩ (own' := ints 3 ((θ 2).getD 0 undef) cd :: recs 41 v18 u19 (stOf cr cd x) :: many (recI 3) u19 (stOf cr cd x) :: ints 3 v16 x :: box g15 28 [.int .i64 (cr), v13] :: ints 3 v13 cd :: recs 41 v8 u9 (stOf cr cd x) :: many (recI 3) u9 (stOf cr cd x) :: ints 3 v6 x :: ints 3 v4 cd :: box g1 24 [.int .i64 (cr), vcd] :: own) rfl ?_
 have hs25 : IsS ((θ 2).getD 0 undef) := h2a
 clear h2a
 generalize ((θ 2).getD 0 undef) = v26 at *
 show G _ _ _ [] _ _ _ _
 refine G.nil (GE.then_ (GC.condF rfl (GC.skip (GE.then_ (GC.seq (GC.seq (GC.region ?_)))))))
 refine G.stepD (OD.move rfl rfl) rfl rfl rfl ?_
 refine G.stepD (OD.move rfl rfl) rfl rfl rfl ?_
 refine G.step (OG.call [vx] ent7 rfl rfl rfl rfl (by exact (toIntS_s sx (Ent.drop 11 ex) (by omega)))) rfl rfl rfl ?_
 rintro v27 _ ⟨_, rfl, hs28, rfl⟩
 refine G.step (OG.call [v16, v27] ent11 rfl rfl rfl rfl (by exact (eqIntS_same hs17 (Ent.ints (i := 4) rfl) hs28 (Ent.ints (i := 0) rfl) (by omega)))) rfl rfl rfl ?_
 rintro _ _ ⟨rfl, rfl⟩
 refine G.stepD (OD.not rfl rfl) rfl rfl rfl ?_
 refine G.nil (GE.then_ (GC.condF rfl (GC.skip (GE.then_ (GC.seq (GC.region ?_))))))
 refine G.stepD (OD.assign rfl rfl) rfl rfl rfl ?_
 refine G.nil (GE.then_ (GC.seq (GC.region ?_)))
 refine G.stepD (OD.loadAgg rfl ti28 rfl (i := 5) rfl (us := [.int .i64 (cr), v13]) rfl rfl) rfl rfl rfl ?_
 refine G.stepD (OD.move rfl rfl) rfl rfl rfl ?_
 refine G.at [6] 0 (env' := [(1, vx), (2, .pointer (some ⟨g1, 0, none⟩)), (6, v8), (7, .pointer (some ⟨g15, 0, none⟩)), (8, v16), (9, v18), (42, .bool false), (43, v16), (44, vx), (45, v27), (46, .bool true), (47, .bool false), (10, .int .i64 (1)), (48, .agg #[.int .i64 (cr), v13]), (49, .int .i64 (1))]) ⟨rfl, rfl, rfl, rfl, rfl, rfl, rfl, rfl, rfl, rfl, rfl, rfl, rfl, rfl, rfl, trivial⟩ (own' := ints 3 v13 cd :: ints 3 v27 x :: ints 3 v26 cd :: recs 41 v18 u19 (stOf cr cd x) :: many (recI 3) u19 (stOf cr cd x) :: ints 3 v16 x :: box g15 28 [.int .i64 (cr), v13] :: recs 41 v8 u9 (stOf cr cd x) :: many (recI 3) u9 (stOf cr cd x) :: ints 3 v6 x :: ints 3 v4 cd :: box g1 24 [.int .i64 (cr), vcd] :: own) rfl ?_
 refine G.step (OG.call [.agg #[.int .i64 (cr), v13], .int .i64 (1)] ent12 rfl rfl rfl rfl (by exact (markCartan_s hs14 (by omega) (by omega)))) rfl rfl rfl ?_
 rintro _ _ ⟨rfl, rfl⟩
 refine G.stepD (OD.assign rfl rfl) rfl rfl rfl ?_
 refine G.nil (GE.then_ (GC.seq (GC.region ?_)))
 refine G.stepD (OD.move rfl rfl) rfl rfl rfl ?_
 refine G.stepD (OD.move rfl rfl) rfl rfl rfl ?_
 refine G.at [5] 0 (env' := [(1, vx), (2, .pointer (some ⟨g1, 0, none⟩)), (6, v8), (7, .pointer (some ⟨g15, 0, none⟩)), (8, v16), (9, v18), (42, .bool false), (43, v16), (44, vx), (45, v27), (46, .bool true), (47, .bool false), (48, .agg #[.int .i64 (cr), v13]), (49, .int .i64 (1)), (50, .int .i64 (1 + (cd.length : Nat))), (10, .int .i64 (1 + (cd.length : Nat))), (51, v16), (52, .int .i64 (1 + (cd.length : Nat)))]) ⟨rfl, rfl, rfl, rfl, rfl, rfl, rfl, rfl, rfl, rfl, rfl, rfl, rfl, rfl, rfl, rfl, rfl, rfl, trivial⟩ (own' := ints 3 v16 x :: ints 3 v13 (mkd 1 cd.length) :: ints 3 v27 x :: ints 3 v26 cd :: recs 41 v18 u19 (stOf cr cd x) :: many (recI 3) u19 (stOf cr cd x) :: box g15 28 [.int .i64 (cr), v13] :: recs 41 v8 u9 (stOf cr cd x) :: many (recI 3) u9 (stOf cr cd x) :: ints 3 v6 x :: ints 3 v4 cd :: box g1 24 [.int .i64 (cr), vcd] :: own) rfl ?_
 refine G.step (OG.call [v16, .int .i64 (1 + (cd.length : Nat))] ent13 rfl rfl rfl rfl (by exact (markIntS_s hs17 (by omega) (by omega)))) rfl rfl rfl ?_
 rintro _ _ ⟨rfl, rfl⟩
 refine G.stepD (OD.assign rfl rfl) rfl rfl rfl ?_
 refine G.nil (GE.then_ (GC.seq (GC.seq (GC.region ?_))))
 refine G.stepD (OD.move rfl rfl) rfl rfl rfl ?_
 refine G.stepD (OD.eqv (OD.lss rfl rfl rfl) (congrArg Value.bool ((decide_eq_false (by omega)) : _ = false))) rfl rfl rfl ?_
 refine G.stepD (OD.move rfl rfl) rfl rfl rfl ?_
 refine G.stepGD (OD.move rfl rfl) rfl rfl rfl rfl rfl ?_
 refine G.stepGD (OD.move rfl rfl) rfl rfl rfl rfl rfl ?_
 refine G.stepG (OG.call [v18, v8] ent9 rfl rfl rfl rfl (by exact (eqStepS_same hs20 (Ent.recs (i := 4) rfl) (fun k hk => by exact Ent.manyRec (i := 5) (k := k) rfl ⟨by omega, hk⟩) hs22 hs21 hs10 (Ent.recs (i := 7) rfl) (fun k hk => by exact Ent.manyRec (i := 8) (k := k) rfl ⟨by omega, hk⟩) hs12 hs11 (by omega) (stOf_ent (b := 9223372036854775807) (by omega))))) rfl rfl rfl rfl rfl ?_
 rintro _ _ ⟨rfl, rfl⟩
 refine G.stepGD (OD.not rfl rfl) rfl rfl rfl rfl rfl ?_
 refine G.stepD (OD.pickF rfl rfl rfl) rfl rfl rfl ?_
 refine G.nil (GE.then_ (GC.condF rfl (GC.skip (GE.then_ (GC.seq (GC.region ?_))))))
 refine G.stepD (OD.assign rfl rfl) rfl rfl rfl ?_
 refine G.nil (GE.then_ (GC.seq (GC.region ?_)))
 refine G.stepD (OD.move rfl rfl) rfl rfl rfl ?_
 refine G.stepD (OD.move rfl rfl) rfl rfl rfl ?_
 refine G.at [4, 4, 0, 0, 0, 0, 0, 0, 0, 0, 0, 0] 0 (env' := [(1, vx), (2, .pointer (some ⟨g1, 0, none⟩)), (6, v8), (7, .pointer (some ⟨g15, 0, none⟩)), (8, v16), (9, v18), (42, .bool false), (43, v16), (44, vx), (45, v27), (46, .bool true), (47, .bool false), (48, .agg #[.int .i64 (cr), v13]), (49, .int .i64 (1)), (50, .int .i64 (1 + (cd.length : Nat))), (51, v16), (52, .int .i64 (1 + (cd.length : Nat))), (53, .int .i64 ((1 + (cd.length : Nat)) + (x.length : Nat))), (10, .int .i64 ((1 + (cd.length : Nat)) + (x.length : Nat))), (54, .int .i64 ((1 + (cd.length : Nat)) + (x.length : Nat))), (55, .bool false), (56, .bool false), (57, v18), (58, v8), (59, .bool true), (60, .bool false), (61, .bool false), (11, .int .i64 (1)), (62, v18), (63, .int .i64 (1))]) ⟨rfl, rfl, rfl, rfl, rfl, rfl, rfl, rfl, rfl, rfl, rfl, rfl, rfl, rfl, rfl, rfl, rfl, rfl, rfl, rfl, rfl, rfl, rfl, rfl, rfl, rfl, rfl, rfl, rfl, rfl, trivial⟩ (own' := recs 41 v18 u19 (stOf cr cd x) :: many (recI 3) u19 (stOf cr cd x) :: ints 3 v16 (mkd (1 + (cd.length : Nat)) x.length) :: ints 3 v13 (mkd 1 cd.length) :: ints 3 v27 x :: ints 3 v26 cd :: box g15 28 [.int .i64 (cr), v13] :: recs 41 v8 u9 (stOf cr cd x) :: many (recI 3) u9 (stOf cr cd x) :: ints 3 v6 x :: ints 3 v4 cd :: box g1 24 [.int .i64 (cr), vcd] :: own) rfl ?_
 refine G.step (OG.call [v18, .int .i64 (1)] ent14 rfl rfl rfl rfl (by exact (markStepS_s hs20 hs21 (by omega) (by omega) (by omega) (recD_le (stOf_ent (b := 1073741824) (by omega)))))) rfl rfl rfl ?_
 rintro _ _ ⟨rfl, rfl⟩
 refine G.stepD (OD.assign rfl rfl) rfl rfl rfl ?_
 refine G.nil (GE.then_ (GC.seq (GC.region ?_)))
 refine G.stepD (OD.assign rfl rfl) rfl rfl rfl ?_
 refine G.nil (GE.then_ (GC.seq (GC.region ?_)))
 refine G.stepD (OD.move rfl rfl) rfl rfl rfl ?_
 refine G.stepD (OD.move rfl rfl) rfl rfl rfl ?_
 refine G.step (OG.call [v18, .int .i64 (1)] ent15 rfl rfl rfl rfl (by exact (heldStepS_m hs20 (Ent.recs (i := 0) rfl) (fun k hk => by have h := Ent.manyRec (own := recs 41 v18 u19 (mkr 1 (stOf cr cd x)) :: many (recI 3) u19 (mkr 1 (stOf cr cd x)) :: ints 3 v16 (mkd (1 + (cd.length : Nat)) x.length) :: ints 3 v13 (mkd 1 cd.length) :: ints 3 v27 x :: ints 3 v26 cd :: box g15 28 [.int .i64 (cr), v13] :: recs 41 v8 u9 (stOf cr cd x) :: many (recI 3) u9 (stOf cr cd x) :: ints 3 v6 x :: ints 3 v4 cd :: box g1 24 [.int .i64 (cr), vcd] :: own) (i := 1) (k := k) rfl ⟨by omega, by rw [mkr_len]; exact hk⟩; rwa [congrArg Prod.fst (mkr_get _ hk)] at h) (by omega) hs21 (by omega) (by omega) (recD_le (stOf_ent (b := 1073741824) (by omega)))))) rfl rfl rfl ?_
 rintro _ _ ⟨rfl, rfl⟩
 refine G.stepD (OD.assign rfl rfl) rfl rfl rfl ?_
 refine G.nil (GE.then_ (GC.seq (GC.seq (GC.region ?_))))
 refine G.stepD (OD.move rfl rfl) rfl rfl rfl ?_
 refine G.stepD (OD.eqv (OD.lss rfl rfl rfl) (congrArg Value.bool ((decide_eq_false (by omega)) : _ = false))) rfl rfl rfl ?_
 refine G.nil (GE.then_ (GC.condF rfl (GC.skip (GE.then_ (GC.seq (GC.seq (GC.region ?_)))))))
 refine G.stepD (OD.move rfl rfl) rfl rfl rfl ?_
 refine G.stepD (OD.move rfl rfl) rfl rfl rfl ?_
 refine G.stepD (OD.eqv (OD.neq rfl rfl rfl) (congrArg Value.bool ((bne_same _) : _ = false))) rfl rfl rfl ?_
 refine G.nil (GE.then_ (GC.condF rfl (GC.skip (GE.then_ (GC.seq (GC.region ?_))))))
 refine G.stepD (OD.loadAgg rfl ti24 rfl (i := 11) rfl (us := [.int .i64 (cr), vcd]) rfl rfl) rfl rfl rfl ?_
 refine G.step (OG.call [.agg #[.int .i64 (cr), vcd]] ent6 rfl rfl rfl rfl (by exact (toCartan_s scd (Ent.drop 12 ecd) (by omega)))) rfl rfl rfl ?_
 rintro _ _ ⟨v29, rfl, hs30, rfl⟩
 refine G.stepD (OD.move rfl rfl) rfl rfl rfl ?_
 refine G.step (OG.call [vx] ent7 rfl rfl rfl rfl (by exact (toIntS_s sx (Ent.drop 13 ex) (by omega)))) rfl rfl rfl ?_
 rintro v31 _ ⟨_, rfl, hs32, rfl⟩
 refine G.step (OG.call [.agg #[.int .i64 (cr), v29], v31] ent8 rfl rfl rfl rfl (by exact (straightPath_w hs30 (Ent.ints (i := 1) rfl) hs32 (Ent.ints (i := 0) rfl) (by omega) (by omega) ((Ent.drop 14 hg))))) rfl rfl rfl ?_
 rintro v33 _ ⟨_, u34, rfl, hs35, hs36, hs37, rfl⟩
 refine G.stepD (OD.assign rfl rfl) rfl rfl rfl ?_
 refine G.nil (GE.then_ (GC.seq (GC.seq (GC.region ?_))))
 refine G.stepD (OD.move rfl rfl) rfl rfl rfl ?_
 refine G.stepD (OD.move rfl rfl) rfl rfl rfl ?_
 refine G.step (OG.call [v33, v8] ent9 rfl rfl rfl rfl (by exact (eqStepS_same hs35 (Ent.recs (i := 0) rfl) (fun k hk => by exact Ent.manyRec (i := 1) (k := k) rfl ⟨by omega, hk⟩) hs37 hs36 hs10 (Ent.recs (i := 11) rfl) (fun k hk => by exact Ent.manyRec (i := 12) (k := k) rfl ⟨by omega, hk⟩) hs12 hs11 (by omega) (stOf_ent (b := 9223372036854775807) (by omega))))) rfl rfl rfl ?_
 rintro _ _ ⟨rfl, rfl⟩
 refine G.stepD (OD.not rfl rfl) rfl rfl rfl ?_
 refine G.nil (GE.then_ (GC.condF rfl (GC.skip (GE.then_ (GC.seq (GC.region ?_))))))
 refine G.stepD (OD.assign rfl rfl) rfl rfl rfl ?_
 refine G.nil (GE.then_ (GC.seq (GC.region ?_)))
 refine G.stepD (OD.move rfl rfl) rfl rfl rfl ?_
 refine G.stepD (OD.move rfl rfl) rfl rfl rfl ?_
 refine G.step (OG.call [v18, .int .i64 (1)] ent15 rfl rfl rfl rfl (by exact (heldStepS_m hs20 (Ent.recs (i := 4) rfl) (fun k hk => by have h := Ent.manyRec (own := recs 41 v33 u34 (stOf cr cd x) :: many (recI 3) u34 (stOf cr cd x) :: ints 3 v31 x :: ints 3 v29 cd :: recs 41 v18 u19 (mkr 1 (stOf cr cd x)) :: many (recI 3) u19 (mkr 1 (stOf cr cd x)) :: ints 3 v16 (mkd (1 + (cd.length : Nat)) x.length) :: ints 3 v13 (mkd 1 cd.length) :: ints 3 v27 x :: ints 3 v26 cd :: box g15 28 [.int .i64 (cr), v13] :: recs 41 v8 u9 (stOf cr cd x) :: many (recI 3) u9 (stOf cr cd x) :: ints 3 v6 x :: ints 3 v4 cd :: box g1 24 [.int .i64 (cr), vcd] :: own) (i := 5) (k := k) rfl ⟨by omega, by rw [mkr_len]; exact hk⟩; rwa [congrArg Prod.fst (mkr_get _ hk)] at h) (by omega) hs21 (by omega) (by omega) (recD_le (stOf_ent (b := 1073741824) (by omega)))))) rfl rfl rfl ?_
 rintro _ _ ⟨rfl, rfl⟩
 refine G.stepD (OD.assign rfl rfl) rfl rfl rfl ?_
 refine G.nil (GE.then_ (GC.seq (GC.seq (GC.region ?_))))
 refine G.stepD (OD.move rfl rfl) rfl rfl rfl ?_
 refine G.stepD (OD.eqv (OD.lss rfl rfl rfl) (congrArg Value.bool ((decide_eq_false (by omega)) : _ = false))) rfl rfl rfl ?_
 refine G.nil (GE.then_ (GC.condF rfl (GC.skip (GE.then_ (GC.seq (GC.seq (GC.region ?_)))))))
 refine G.stepD (OD.move rfl rfl) rfl rfl rfl ?_
 refine G.stepD (OD.move rfl rfl) rfl rfl rfl ?_
 refine G.stepD (OD.eqv (OD.neq rfl rfl rfl) (congrArg Value.bool ((bne_same _) : _ = false))) rfl rfl rfl ?_
 refine G.nil (GE.then_ (GC.condF rfl (GC.skip (GE.then_ (GC.seq (GC.region ?_))))))
 refine G.stepD (OD.assign rfl rfl) rfl rfl rfl ?_
 refine G.nil (GE.then_ (GC.ret ?_))
 exact GE.body [] 16 (res1 rfl rfl) rfl (⟨rfl, rfl⟩)

end Go.Proofs.YtjdkkhlngflgfaaDoor
