/-
  Orbits by the second text: contracts by walks.
-/
import Derived.Test.YtmckgdekblphoaaGreatDoorFct
import Derived.Test.YtmckgdekblphoaaGreatDoorWNst
import Derived.Test.YtmckgdekblphoaaGreatDoorOrbA
import Derived.Test.YtmckgdekblphoaaGreatDoorSrtD
namespace Go.Proofs.YtmckgdekblphoaaGreatDoor
set_option linter.unusedVariables false
set_option linter.unusedSimpArgs false
open Go.RowKit
set_option maxRecDepth 100000 in
theorem l6Above_w {W : World} {own : List Asn} {vx : Value} {x : List Int} {vy : Value} {y : List Int}  (sx : IsS vx) (ex : Ent own fun w => Ints w vx x)   (sy : IsS vy) (ey : Ent own fun w => Ints w vy y)  (hl : x.length ≤ 1073741824) (hly : y.length ≤ 1073741824) : Spec Tryz.prog 100 [vx, vy] W own (fun v ow => v = .bool (abvL x y) ∧ ow = own) := by
 refine Spec.enter Tryz.f100 _ Tryz.func100 rfl (n := 41) rfl rfl ?_
 refine GC.seq (GC.region ?_)
 refine G.stepD (OD.assign rfl rfl) rfl rfl rfl ?_
 refine G.nil (GE.then_ (GC.seq (GC.seq (GC.region ?_))))
 refine G.stepD (OD.assign rfl rfl) rfl rfl rfl ?_
 refine G.nil (GE.then_ (GC.block ?_))
 refine GC.loop (ι := Nat) (fun k => [(0, vx), (1, vy), (5, .int .i64 ((k : Int)))]) (fun k => own) (fun k => (k ≤ x.length) ∧ (k ≤ y.length) ∧ (abvL x y = abvL (x.drop k) (y.drop k))) (fun k => x.length - k) 0 (⟨by omega, by omega, rfl⟩) ⟨rfl, rfl, rfl, trivial⟩ [] 0 rfl ?_
 rintro k ⟨hk, hky, hc⟩
 refine GC.seq (GC.seq (GC.region ?_))
 refine G.stepD (OD.move rfl rfl) rfl rfl rfl ?_
 refine G.stepD (OD.move rfl rfl) rfl rfl rfl ?_
 refine G.stepD (OD.len rfl rfl et22 rfl ex) rfl rfl rfl ?_
 refine G.stepD (OD.lss rfl rfl rfl) rfl rfl rfl ?_
 refine G.stepD (OD.move rfl rfl) rfl rfl rfl ?_
 rcases Bool.eq_false_or_eq_true (decide ((k : Int) < (x.length : Nat))) with hg1 | hg1
 have hg1e := hg1
 refine G.at [] 0 (env' := [(0, vx), (1, vy), (5, .int .i64 ((k : Int))), (6, .int .i64 ((k : Int))), (7, vx), (8, .int .i64 ((x.length : Nat))), (9, .bool true), (10, .bool true)]) (⟨rfl, rfl, rfl, rfl, rfl, rfl, (congrArg (fun b => some (Value.bool b)) hg1e), (congrArg (fun b => some (Value.bool b)) hg1e), trivial⟩) rfl ?_
 replace hg1 := of_decide_eq_true hg1
 refine G.stepGD (OD.move rfl rfl) rfl rfl rfl rfl rfl ?_
 refine G.stepGD (OD.move rfl rfl) rfl rfl rfl rfl rfl ?_
 refine G.stepGD (OD.len rfl rfl et22 rfl ey) rfl rfl rfl rfl rfl ?_
 refine G.stepGD (OD.lss rfl rfl rfl) rfl rfl rfl rfl rfl ?_
 refine G.stepD (OD.pickT rfl rfl rfl) rfl rfl rfl ?_
 refine G.nil (GE.then_ ?_)
 refine GC.cond rfl (fun hc2 => ?_) (fun hc2 => ?_)
 replace hc2 := of_decide_eq_true hc2
 refine GC.skip (GE.then_ (GC.seq (GC.block (GC.seq ?_))))
 refine GC.at [] 0 (env' := [(0, vx), (1, vy), (5, .int .i64 ((k : Int)))]) ⟨rfl, rfl, rfl, trivial⟩ rfl ?_
 refine GC.par (its := [⟨18, [], [], [], [], fun _ => vx, fun _ => True, fun _ => []⟩,
     ⟨19, [], [], [], [], fun _ => .int .i64 ((k : Int)), fun _ => True, fun _ => []⟩,
     ⟨20, [(0, 18), (1, 19)], [], [], [], fun _ => elemPtr vx 1 (k), fun _ => True, fun _ => []⟩,
     ⟨21, [(2, 20)], [], [], [], fun _ => .int .i64 (x.getD (k) 0), fun _ => True, fun _ => []⟩,
     ⟨22, [], [], [], [], fun _ => vy, fun _ => True, fun _ => []⟩,
     ⟨23, [], [], [], [], fun _ => .int .i64 ((k : Int)), fun _ => True, fun _ => []⟩,
     ⟨24, [(4, 22), (5, 23)], [], [], [], fun _ => elemPtr vy 1 (k), fun _ => True, fun _ => []⟩,
     ⟨25, [(6, 24)], [], [], [], fun _ => .int .i64 (y.getD (k) 0), fun _ => True, fun _ => []⟩,
     ⟨26, [(3, 21), (7, 25)], [], [], [], fun _ => .bool ((x.getD (k) 0) != (y.getD (k) 0)), fun _ => True, fun _ => []⟩]) (by kernel_rfl) (by kernel_rfl) (POps.cons ?_ (POps.cons ?_ (POps.cons ?_ (POps.cons ?_ (POps.cons ?_ (POps.cons ?_ (POps.cons ?_ (POps.cons ?_ (POps.cons ?_ POps.nil))))))))) ?_
 intro θ R hd
 exact Opp.plain (OG.imp (OD.move rfl rfl) (by rintro _ _ ⟨rfl, rfl⟩; exact ⟨[], rfl, trivial, rfl⟩)) rfl
 intro θ R hd
 exact Opp.plain (OG.imp (OD.move rfl rfl) (by rintro _ _ ⟨rfl, rfl⟩; exact ⟨[], rfl, trivial, rfl⟩)) rfl
 intro θ R hd
 obtain ⟨h0d, h1d, _⟩ := hd
 exact Opp.plain (OG.imp (OD.indexAddr rfl et22 rfl (ex.app) rfl (by omega)) (by rintro _ _ ⟨rfl, rfl⟩; exact ⟨[], rfl, trivial, rfl⟩)) rfl
 intro θ R hd
 obtain ⟨h2d, _⟩ := hd
 exact Opp.plain (OG.imp (OD.loadInt rfl ti3 rfl (ex.app) (by omega)) (by rintro _ _ ⟨rfl, rfl⟩; exact ⟨[], rfl, trivial, rfl⟩)) rfl
 intro θ R hd
 exact Opp.plain (OG.imp (OD.move rfl rfl) (by rintro _ _ ⟨rfl, rfl⟩; exact ⟨[], rfl, trivial, rfl⟩)) rfl
 intro θ R hd
 exact Opp.plain (OG.imp (OD.move rfl rfl) (by rintro _ _ ⟨rfl, rfl⟩; exact ⟨[], rfl, trivial, rfl⟩)) rfl
 intro θ R hd
 obtain ⟨h4d, h5d, _⟩ := hd
 exact Opp.plain (OG.imp (OD.indexAddr rfl et22 rfl (ey.app) rfl (by omega)) (by rintro _ _ ⟨rfl, rfl⟩; exact ⟨[], rfl, trivial, rfl⟩)) rfl
 intro θ R hd
 obtain ⟨h6d, _⟩ := hd
 exact Opp.plain (OG.imp (OD.loadInt rfl ti3 rfl (ey.app) (by omega)) (by rintro _ _ ⟨rfl, rfl⟩; exact ⟨[], rfl, trivial, rfl⟩)) rfl
 intro θ R hd
 obtain ⟨h3d, h7d, _⟩ := hd
 exact Opp.plain (OG.imp (OD.neq rfl rfl rfl) (by rintro _ _ ⟨rfl, rfl⟩; exact ⟨[], rfl, trivial, rfl⟩)) rfl
 intro θ hall
 obtain ⟨_, _, _, _, _, _, _, _, _, _⟩ := hall
 refine G.at [] 0 (env' := [(0, vx), (1, vy), (5, .int .i64 ((k : Int))), (26, .bool ((x.getD (k) 0) != (y.getD (k) 0)))]) ⟨rfl, rfl, rfl, rfl, trivial⟩ (own' := own) rfl ?_
 show G _ _ _ [] _ _ _ _
 refine G.nil (GE.then_ ?_)
 refine GC.cond rfl (fun hc3 => ?_) (fun hc3 => ?_)
 replace hc3 := ne_of_bne hc3
 refine GC.seq ?_
 refine GC.at [] 0 (env' := [(0, vx), (1, vy), (5, .int .i64 ((k : Int)))]) ⟨rfl, rfl, rfl, trivial⟩ rfl ?_
 refine GC.par (its := [⟨27, [], [], [], [], fun _ => vx, fun _ => True, fun _ => []⟩,
     ⟨28, [], [], [], [], fun _ => .int .i64 ((k : Int)), fun _ => True, fun _ => []⟩,
     ⟨29, [(0, 27), (1, 28)], [], [], [], fun _ => elemPtr vx 1 (k), fun _ => True, fun _ => []⟩,
     ⟨30, [(2, 29)], [], [], [], fun _ => .int .i64 (x.getD (k) 0), fun _ => True, fun _ => []⟩,
     ⟨31, [], [], [], [], fun _ => vy, fun _ => True, fun _ => []⟩,
     ⟨32, [], [], [], [], fun _ => .int .i64 ((k : Int)), fun _ => True, fun _ => []⟩,
     ⟨33, [(4, 31), (5, 32)], [], [], [], fun _ => elemPtr vy 1 (k), fun _ => True, fun _ => []⟩,
     ⟨34, [(6, 33)], [], [], [], fun _ => .int .i64 (y.getD (k) 0), fun _ => True, fun _ => []⟩,
     ⟨35, [(3, 30), (7, 34)], [], [], [], fun _ => .bool (decide (y.getD (k) 0 < x.getD (k) 0)), fun _ => True, fun _ => []⟩]) (by kernel_rfl) (by kernel_rfl) (POps.cons ?_ (POps.cons ?_ (POps.cons ?_ (POps.cons ?_ (POps.cons ?_ (POps.cons ?_ (POps.cons ?_ (POps.cons ?_ (POps.cons ?_ POps.nil))))))))) ?_
 intro θ R hd
 exact Opp.plain (OG.imp (OD.move rfl rfl) (by rintro _ _ ⟨rfl, rfl⟩; exact ⟨[], rfl, trivial, rfl⟩)) rfl
 intro θ R hd
 exact Opp.plain (OG.imp (OD.move rfl rfl) (by rintro _ _ ⟨rfl, rfl⟩; exact ⟨[], rfl, trivial, rfl⟩)) rfl
 intro θ R hd
 obtain ⟨h0d, h1d, _⟩ := hd
 exact Opp.plain (OG.imp (OD.indexAddr rfl et22 rfl (ex.app) rfl (by omega)) (by rintro _ _ ⟨rfl, rfl⟩; exact ⟨[], rfl, trivial, rfl⟩)) rfl
 intro θ R hd
 obtain ⟨h2d, _⟩ := hd
 exact Opp.plain (OG.imp (OD.loadInt rfl ti3 rfl (ex.app) (by omega)) (by rintro _ _ ⟨rfl, rfl⟩; exact ⟨[], rfl, trivial, rfl⟩)) rfl
 intro θ R hd
 exact Opp.plain (OG.imp (OD.move rfl rfl) (by rintro _ _ ⟨rfl, rfl⟩; exact ⟨[], rfl, trivial, rfl⟩)) rfl
 intro θ R hd
 exact Opp.plain (OG.imp (OD.move rfl rfl) (by rintro _ _ ⟨rfl, rfl⟩; exact ⟨[], rfl, trivial, rfl⟩)) rfl
 intro θ R hd
 obtain ⟨h4d, h5d, _⟩ := hd
 exact Opp.plain (OG.imp (OD.indexAddr rfl et22 rfl (ey.app) rfl (by omega)) (by rintro _ _ ⟨rfl, rfl⟩; exact ⟨[], rfl, trivial, rfl⟩)) rfl
 intro θ R hd
 obtain ⟨h6d, _⟩ := hd
 exact Opp.plain (OG.imp (OD.loadInt rfl ti3 rfl (ey.app) (by omega)) (by rintro _ _ ⟨rfl, rfl⟩; exact ⟨[], rfl, trivial, rfl⟩)) rfl
 intro θ R hd
 obtain ⟨h3d, h7d, _⟩ := hd
 exact Opp.plain (OG.imp (OD.gtr rfl rfl rfl) (by rintro _ _ ⟨rfl, rfl⟩; exact ⟨[], rfl, trivial, rfl⟩)) rfl
 intro θ hall
 obtain ⟨_, _, _, _, _, _, _, _, _, _⟩ := hall
 refine G.at [] 0 (env' := [(35, .bool (decide (y.getD (k) 0 < x.getD (k) 0)))]) ⟨rfl, trivial⟩ (own' := own) rfl ?_
 show G _ _ _ [_] _ _ _ _
 refine G.stepD (OD.assign rfl rfl) rfl rfl rfl ?_
 refine G.nil (GE.then_ (GC.ret (GE.blockR (GE.passR (GE.passR (GE.blockR (GE.passR ?_)))))))
 exact GE.body [] 0 (res1 rfl rfl) rfl (⟨congrArg (fun (a0 : Bool) => (.bool (a0) : Value)) ((by rw [hc]; exact (abv_ne (by omega) (by omega) (by assumption)).symm : (decide (y.getD (k) 0 < x.getD (k) 0) : Bool) = abvL x y)), rfl⟩)
 replace hc3 := eq_of_bne_false hc3
 refine GC.skip (GE.blockN (GE.then_ (GC.region ?_)))
 refine G.stepD (OD.move rfl rfl) rfl rfl rfl ?_
 refine G.stepD (OD.addI rfl rfl rfl (by omega)) rfl rfl rfl ?_
 refine G.stepD (OD.assign rfl rfl) rfl rfl rfl ?_
 refine G.nil ?_
 exact GE.again (k + 1) (⟨by omega, by omega, by rw [hc]; exact abv_eq (by omega) (by omega) (by assumption)⟩) (by first | omega | (dsimp only; omega)) ⟨rfl, rfl, rfl, trivial⟩ [] 0 rfl
 replace hc2 := of_decide_eq_false hc2
 refine GC.exit (GE.pass (GE.pass (GE.hit (GE.then_ (GC.seq (GC.region ?_))))))
 refine G.stepD (OD.move rfl rfl) rfl rfl rfl ?_
 refine G.stepD (OD.len rfl rfl et22 rfl ex) rfl rfl rfl ?_
 refine G.stepD (OD.move rfl rfl) rfl rfl rfl ?_
 refine G.stepD (OD.len rfl rfl et22 rfl ey) rfl rfl rfl ?_
 refine G.stepD (OD.gtr rfl rfl rfl) rfl rfl rfl ?_
 refine G.stepD (OD.assign rfl rfl) rfl rfl rfl ?_
 refine G.nil (GE.then_ (GC.ret ?_))
 exact GE.body [] 0 (res1 rfl rfl) rfl (⟨congrArg (fun (a0 : Bool) => (.bool (a0) : Value)) ((by rw [hc]; exact (abv_end (by omega) (by omega) (by omega)).symm : (decide (((y.length : Nat) : Int) < (x.length : Nat)) : Bool) = abvL x y)), rfl⟩)
 have hg1e := hg1
 refine G.at [] 0 (env' := [(0, vx), (1, vy), (5, .int .i64 ((k : Int))), (6, .int .i64 ((k : Int))), (7, vx), (8, .int .i64 ((x.length : Nat))), (9, .bool false), (10, .bool false)]) (⟨rfl, rfl, rfl, rfl, rfl, rfl, (congrArg (fun b => some (Value.bool b)) hg1e), (congrArg (fun b => some (Value.bool b)) hg1e), trivial⟩) rfl ?_
 replace hg1 := of_decide_eq_false hg1
 refine G.skipG rfl rfl rfl rfl rfl rfl (G.skipG rfl rfl rfl rfl rfl rfl (G.skipG rfl rfl rfl rfl rfl rfl (G.skipG rfl rfl rfl rfl rfl rfl ?_)))
 refine G.stepD (OD.pickF rfl rfl rfl) rfl rfl rfl ?_
 refine G.nil (GE.then_ (GC.condF rfl (GC.exit (GE.pass (GE.pass (GE.hit (GE.then_ (GC.seq (GC.region ?_)))))))))
 refine G.stepD (OD.move rfl rfl) rfl rfl rfl ?_
 refine G.stepD (OD.len rfl rfl et22 rfl ex) rfl rfl rfl ?_
 refine G.stepD (OD.move rfl rfl) rfl rfl rfl ?_
 refine G.stepD (OD.len rfl rfl et22 rfl ey) rfl rfl rfl ?_
 refine G.stepD (OD.gtr rfl rfl rfl) rfl rfl rfl ?_
 refine G.stepD (OD.assign rfl rfl) rfl rfl rfl ?_
 refine G.nil (GE.then_ (GC.ret ?_))
 exact GE.body [] 0 (res1 rfl rfl) rfl (⟨congrArg (fun (a0 : Bool) => (.bool (a0) : Value)) ((by rw [hc]; exact (abv_end (by omega) (by omega) (by omega)).symm : (decide (((y.length : Nat) : Int) < (x.length : Nat)) : Bool) = abvL x y)), rfl⟩)
set_option maxRecDepth 100000 in
theorem l6Insert_new {W : World} {own : List Asn} {vL : Value} {uL : List Value} {L : List (List Int)} {vx : Value} {x : List Int}  (sL : IsS vL) (eL : Ent own fun w => Sl w vL L.length 1 uL) (mL : ∀ k, k < L.length → Ent own fun w => Ints w (uL.getD k undef) (L.getD k [])) (lL : uL.length = L.length) (aL : AllS uL)   (sx : IsS vx) (ex : Ent own fun w => Ints w vx x)  (hll : L.length ≤ 1073741824) (hle : ∀ k, k < L.length → (L.getD k []).length ≤ 1073741824) (hl : x.length ≤ 1073741824) (hde : Desc L) (hno : L.contains x = false) : Spec Tryz.prog 66 [vL, vx] W own (fun v ow => ∃ (r0 : Value), v = .tuple #[r0, .bool (true)] ∧ IsS r0 ∧ AllS (uL.take (insA x L) ++ [vx] ++ uL.drop (insA x L)) ∧ ow = lst 22 r0 (uL.take (insA x L) ++ [vx] ++ uL.drop (insA x L)) :: own) := by
 refine Spec.enter Tryz.f66 _ Tryz.func66 rfl (n := 46) rfl rfl ?_
 refine GC.seq (GC.region ?_)
 refine G.stepD (OD.assign rfl rfl) rfl rfl rfl ?_
 refine G.stepD (OD.assign rfl rfl) rfl rfl rfl ?_
 refine G.nil (GE.then_ (GC.seq (GC.region ?_)))
 refine G.stepD (OD.assign rfl rfl) rfl rfl rfl ?_
 refine G.nil (GE.then_ (GC.seq (GC.block ?_)))
 refine GC.loop (ι := Nat) (fun a => [(0, vL), (1, vx), (6, .int .i64 ((a : Int)))]) (fun a => own) (fun a => (a ≤ L.length) ∧ (∀ j, j < a → abvL (L.getD j []) x = true)) (fun a => L.length - a) 0 (⟨by omega, fun j hj => absurd hj (Nat.not_lt_zero j)⟩) ⟨rfl, rfl, rfl, trivial⟩ [] 0 rfl ?_
 rintro a ⟨ha, hab⟩
 refine GC.seq (GC.seq (GC.region ?_))
 refine G.stepD (OD.move rfl rfl) rfl rfl rfl ?_
 refine G.stepD (OD.move rfl rfl) rfl rfl rfl ?_
 refine G.stepD (OD.len rfl rfl et26 rfl eL) rfl rfl rfl ?_
 refine G.stepD (OD.lss rfl rfl rfl) rfl rfl rfl ?_
 refine G.stepD (OD.move rfl rfl) rfl rfl rfl ?_
 rcases Bool.eq_false_or_eq_true (decide ((a : Int) < (L.length : Nat))) with hg1 | hg1
 have hg1e := hg1
 refine G.at [] 0 (env' := [(0, vL), (1, vx), (6, .int .i64 ((a : Int))), (7, .int .i64 ((a : Int))), (8, vL), (9, .int .i64 ((L.length : Nat))), (10, .bool true), (11, .bool true)]) (⟨rfl, rfl, rfl, rfl, rfl, rfl, (congrArg (fun b => some (Value.bool b)) hg1e), (congrArg (fun b => some (Value.bool b)) hg1e), trivial⟩) rfl ?_
 replace hg1 := of_decide_eq_true hg1
 refine G.stepGD (OD.move rfl rfl) rfl rfl rfl rfl rfl ?_
 refine G.stepGD (OD.move rfl rfl) rfl rfl rfl rfl rfl ?_
 refine G.stepGD (OD.indexAddr rfl et26 rfl eL rfl (by omega)) rfl rfl rfl rfl rfl ?_
 refine G.stepGD (OD.loadElem rfl ti22 rfl eL (by omega) rfl) rfl rfl rfl rfl rfl ?_
 refine G.stepGD (OD.move rfl rfl) rfl rfl rfl rfl rfl ?_
 refine G.stepG (OG.call [(uL.getD (a) undef), vx] ent100 rfl rfl rfl rfl (by exact (l6Above_w (aL.get (by omega)) ((mL (a) (by omega))) sx ex (Nat.le_trans (hle a (by omega)) (by omega)) (hl)))) rfl rfl rfl rfl rfl ?_
 rintro _ _ ⟨rfl, hzz⟩; obtain rfl := hzz.symm
 refine G.stepD (OD.pickT rfl rfl rfl) rfl rfl rfl ?_
 refine G.nil (GE.then_ ?_)
 refine GC.cond rfl (fun hc2 => ?_) (fun hc2 => ?_)
 refine GC.skip (GE.then_ (GC.block (GC.region ?_)))
 refine G.stepD (OD.move rfl rfl) rfl rfl rfl ?_
 refine G.stepD (OD.addI rfl rfl rfl (by omega)) rfl rfl rfl ?_
 refine G.stepD (OD.assign rfl rfl) rfl rfl rfl ?_
 refine G.nil (GE.blockN ?_)
 exact GE.again (a + 1) (⟨by omega, fun j hj => (Nat.lt_succ_iff_lt_or_eq.1 hj).elim (hab j) (fun e => by rw [e]; exact hc2)⟩) (by first | omega | (dsimp only; omega)) ⟨rfl, rfl, rfl, trivial⟩ [] 0 rfl
 have hia : insA x L = a := insA_hit ha hab (fun _ => hc2)
 refine GC.exit (GE.pass (GE.pass (GE.hit (GE.then_ (GC.seq (GC.seq (GC.region ?_)))))))
 refine G.stepD (OD.move rfl rfl) rfl rfl rfl ?_
 refine G.stepD (OD.move rfl rfl) rfl rfl rfl ?_
 refine G.stepD (OD.len rfl rfl et26 rfl eL) rfl rfl rfl ?_
 refine G.stepD (OD.eqv (OD.lss rfl rfl rfl) (congrArg Value.bool hg1e)) rfl rfl rfl ?_
 refine G.stepD (OD.move rfl rfl) rfl rfl rfl ?_
 refine G.stepGD (OD.move rfl rfl) rfl rfl rfl rfl rfl ?_
 refine G.stepGD (OD.move rfl rfl) rfl rfl rfl rfl rfl ?_
 refine G.stepGD (OD.indexAddr rfl et26 rfl eL rfl (by omega)) rfl rfl rfl rfl rfl ?_
 refine G.stepGD (OD.loadElem rfl ti22 rfl eL (by omega) rfl) rfl rfl rfl rfl rfl ?_
 refine G.stepGD (OD.move rfl rfl) rfl rfl rfl rfl rfl ?_
 refine G.stepG (OG.call [(uL.getD (a) undef), vx] ent101 rfl rfl rfl rfl (by exact (l1Same_s (aL.get (by omega)) ((mL (a) (by omega))) sx ex (Nat.le_trans (hle a (by omega)) (by decide))))) rfl rfl rfl rfl rfl ?_
 rintro _ _ ⟨rfl, hzz⟩; obtain rfl := hzz.symm
 refine G.stepD (OD.pickT rfl rfl rfl) rfl rfl rfl ?_
 refine G.nil (GE.then_ ?_)
 refine GC.cond rfl (fun hc3 => ?_) (fun hc3 => ?_)
 exact absurd (hno.symm.trans (by rw [← insA_mem hde, hia, decide_eq_true (by omega), hc3]; rfl)) Bool.false_ne_true
 refine GC.skip (GE.then_ (GC.seq ?_))
 refine GC.at [] 0 (env' := [(0, vL), (1, vx), (6, .int .i64 ((a : Int)))]) ⟨rfl, rfl, rfl, trivial⟩ rfl ?_
 refine GC.par (its := [⟨34, [], [], [], [0], fun ds => ((ds.getD 0 []).getD 0 undef), fun ds => IsS ((ds.getD 0 []).getD 0 undef), fun ds => [lst 22 ((ds.getD 0 []).getD 0 undef) []]⟩,
     ⟨35, [], [], [], [], fun _ => vL, fun _ => True, fun _ => []⟩,
     ⟨36, [], [], [], [], fun _ => .int .i64 ((a : Int)), fun _ => True, fun _ => []⟩,
     ⟨37, [(1, 35), (2, 36)], [], [], [], fun _ => (subV 1 vL 0 a), fun _ => True, fun _ => []⟩,
     ⟨38, [(0, 34), (3, 37)], [0], [0], [0, 4], fun ds => ((ds.getD 1 []).getD 0 undef), fun ds => IsS ((ds.getD 1 []).getD 0 undef), fun ds => [lst 22 ((ds.getD 1 []).getD 0 undef) ([] ++ (uL.drop (0)).take (a - 0))]⟩,
     ⟨39, [], [], [], [], fun _ => vx, fun _ => True, fun _ => []⟩,
     ⟨40, [(5, 39)], [], [], [6], fun ds => ((ds.getD 0 []).getD 0 undef), fun ds => IsS ((ds.getD 0 []).getD 0 undef), fun ds => [lst 22 ((ds.getD 0 []).getD 0 undef) [vx]]⟩,
     ⟨41, [(4, 38), (6, 40)], [4, 6], [4], [0, 4, 6, 7], fun ds => ((ds.getD 3 []).getD 0 undef), fun ds => IsS ((ds.getD 3 []).getD 0 undef), fun ds => [lst 22 ((ds.getD 3 []).getD 0 undef) (([] ++ (uL.drop (0)).take (a - 0)) ++ [vx])]⟩,
     ⟨42, [], [], [], [], fun _ => vL, fun _ => True, fun _ => []⟩,
     ⟨43, [], [], [], [], fun _ => .int .i64 ((a : Int)), fun _ => True, fun _ => []⟩,
     ⟨44, [(8, 42), (9, 43)], [], [], [], fun _ => (subV 1 vL a L.length), fun _ => True, fun _ => []⟩,
     ⟨45, [(7, 41), (10, 44)], [7, 6], [7], [0, 4, 6, 7, 11], fun ds => ((ds.getD 4 []).getD 0 undef), fun ds => IsS ((ds.getD 4 []).getD 0 undef), fun ds => [lst 22 ((ds.getD 4 []).getD 0 undef) ((([] ++ (uL.drop (0)).take (a - 0)) ++ [vx]) ++ (uL.drop (a)).take (L.length - a))]⟩]) (by kernel_rfl) (by kernel_rfl) (POps.cons ?_ (POps.cons ?_ (POps.cons ?_ (POps.cons ?_ (POps.cons ?_ (POps.cons ?_ (POps.cons ?_ (POps.cons ?_ (POps.cons ?_ (POps.cons ?_ (POps.cons ?_ (POps.cons ?_ POps.nil)))))))))))) ?_
 intro θ R hd
 exact Opp.plain (OG.imp (OG.buildLst (xs := []) (us := []) rfl et26 rfl rfl rfl rfl rfl) (by rintro v4 _ ⟨hs5, rfl⟩; exact ⟨[v4], rfl, hs5, rfl⟩)) rfl
 intro θ R hd
 exact Opp.plain (OG.imp (OD.move rfl rfl) (by rintro _ _ ⟨rfl, rfl⟩; exact ⟨[], rfl, trivial, rfl⟩)) rfl
 intro θ R hd
 exact Opp.plain (OG.imp (OD.move rfl rfl) (by rintro _ _ ⟨rfl, rfl⟩; exact ⟨[], rfl, trivial, rfl⟩)) rfl
 intro θ R hd
 obtain ⟨h1d, h2d, _⟩ := hd
 exact Opp.plain (OG.imp (OD.sliceTo rfl et26 rfl rfl (eL.app) (by omega)) (by rintro _ _ ⟨rfl, rfl⟩; exact ⟨[], rfl, trivial, rfl⟩)) rfl
 intro θ R hd
 obtain ⟨h0d, h3d, _⟩ := hd
 exact Opp.plain (OG.imp (OG.appendLst 0 rfl rfl et26 rfl rfl rfl (Ent.subLst (us := uL) (Ent.len (Ent.drop 1 eL.app) (by omega)) (by omega)) (List.all_eq_true.2 fun u hu => by simpa using (AllS.part aL _ _).one u hu) (by simp [maxLen] <;> omega)) (by rintro v6 _ ⟨hs7, rfl⟩; exact ⟨[v6], rfl, hs7, rfl⟩)) rfl
 intro θ R hd
 exact Opp.plain (OG.imp (OD.move rfl rfl) (by rintro _ _ ⟨rfl, rfl⟩; exact ⟨[], rfl, trivial, rfl⟩)) rfl
 intro θ R hd
 obtain ⟨h5d, _⟩ := hd
 exact Opp.plain (OG.imp (OG.buildLst (xs := [.tmp 39]) (us := [vx]) rfl et26 rfl rfl rfl (allC (IsS.one sx) rfl) rfl) (by rintro v8 _ ⟨hs9, rfl⟩; exact ⟨[v8], rfl, hs9, rfl⟩)) rfl
 intro θ R hd
 obtain ⟨h4d, h6d, _⟩ := hd
 exact Opp.plain (OG.imp (OG.appendLst 0 rfl rfl et26 rfl rfl rfl (Ent.lst (i := 1) rfl) (List.all_eq_true.2 fun u hu => by simpa using (AllS.snoc AllS.nil sx).one u hu) (by simp [maxLen] <;> omega)) (by rintro v10 _ ⟨hs11, rfl⟩; exact ⟨[v10], rfl, hs11, rfl⟩)) rfl
 intro θ R hd
 exact Opp.plain (OG.imp (OD.move rfl rfl) (by rintro _ _ ⟨rfl, rfl⟩; exact ⟨[], rfl, trivial, rfl⟩)) rfl
 intro θ R hd
 exact Opp.plain (OG.imp (OD.move rfl rfl) (by rintro _ _ ⟨rfl, rfl⟩; exact ⟨[], rfl, trivial, rfl⟩)) rfl
 intro θ R hd
 obtain ⟨h8d, h9d, _⟩ := hd
 exact Opp.plain (OG.imp (OD.sliceFrom rfl et26 rfl rfl (eL.app) (by omega)) (by rintro _ _ ⟨rfl, rfl⟩; exact ⟨[], rfl, trivial, rfl⟩)) rfl
 intro θ R hd
 obtain ⟨h7d, h10d, _⟩ := hd
 exact Opp.plain (OG.imp (OG.appendLst 0 rfl rfl et26 rfl rfl rfl (Ent.subLst (us := uL) (Ent.len (Ent.drop 2 eL.app) (by omega)) (by omega)) (List.all_eq_true.2 fun u hu => by simpa using (AllS.part aL _ _).one u hu) (by simp [maxLen] <;> omega)) (by rintro v12 _ ⟨hs13, rfl⟩; exact ⟨[v12], rfl, hs13, rfl⟩)) rfl
 intro θ hall
 obtain ⟨h0a, _, _, _, h4a, _, h6a, h7a, _, _, _, h11a, _⟩ := hall
 refine G.at [] 0 (env' := [(45, ((θ 11).getD 0 undef))]) ⟨rfl, trivial⟩ (own' := lst 22 ((θ 6).getD 0 undef) [vx] :: lst 22 ((θ 11).getD 0 undef) ((([] ++ (uL.drop (0)).take (a - 0)) ++ [vx]) ++ (uL.drop (a)).take (L.length - a)) :: own) rfl ?_
 have hs14 : IsS ((θ 0).getD 0 undef) := h0a
 clear h0a
 generalize ((θ 0).getD 0 undef) = v15 at *
 have hs16 : IsS ((θ 4).getD 0 undef) := h4a
 clear h4a
 generalize ((θ 4).getD 0 undef) = v17 at *
 have hs18 : IsS ((θ 6).getD 0 undef) := h6a
 clear h6a
 generalize ((θ 6).getD 0 undef) = v19 at *
 have hs20 : IsS ((θ 7).getD 0 undef) := h7a
 clear h7a
 generalize ((θ 7).getD 0 undef) = v21 at *
 have hs22 : IsS ((θ 11).getD 0 undef) := h11a
 clear h11a
 generalize ((θ 11).getD 0 undef) = v23 at *
 show G _ _ _ [_, _] _ _ _ _
 refine G.stepD (OD.assign rfl rfl) rfl rfl rfl ?_
 refine G.stepD (OD.assign rfl rfl) rfl rfl rfl ?_
 refine G.nil (GE.then_ (GC.ret ?_))
 have hnewA : AllS (uL.take (insA x L) ++ [vx] ++ uL.drop (insA x L)) := AllS.app (AllS.app (fun u hu => aL u (List.mem_of_mem_take hu)) (AllS.snoc AllS.nil sx)) fun u hu => aL u (List.mem_of_mem_drop hu)
 refine GE.ownEq (own' := lst 22 v19 [vx] :: lst 22 v23 (uL.take (insA x L) ++ [vx] ++ uL.drop (insA x L)) :: own) (by rw [hia]; simp [List.take_of_length_le, ← lL]) ?_
 skip
 exact GE.body [1] 1 (res2 rfl rfl rfl) rfl (⟨v23, rfl, hs22, hnewA, rfl⟩)
 have hg1e := hg1
 refine G.at [] 0 (env' := [(0, vL), (1, vx), (6, .int .i64 ((a : Int))), (7, .int .i64 ((a : Int))), (8, vL), (9, .int .i64 ((L.length : Nat))), (10, .bool false), (11, .bool false)]) (⟨rfl, rfl, rfl, rfl, rfl, rfl, (congrArg (fun b => some (Value.bool b)) hg1e), (congrArg (fun b => some (Value.bool b)) hg1e), trivial⟩) rfl ?_
 replace hg1 := of_decide_eq_false hg1
 refine G.skipG rfl rfl rfl rfl rfl rfl (G.skipG rfl rfl rfl rfl rfl rfl (G.skipG rfl rfl rfl rfl rfl rfl (G.skipG rfl rfl rfl rfl rfl rfl (G.skipG rfl rfl rfl rfl rfl rfl (G.skipG rfl rfl rfl rfl rfl rfl ?_)))))
 refine G.stepD (OD.pickF rfl rfl rfl) rfl rfl rfl ?_
 refine G.nil (GE.then_ (GC.condF rfl ?_))
 have hia : insA x L = a := insA_hit ha hab (fun hh => absurd hh (by omega))
 refine GC.exit (GE.pass (GE.pass (GE.hit (GE.then_ (GC.seq (GC.seq (GC.region ?_)))))))
 refine G.stepD (OD.move rfl rfl) rfl rfl rfl ?_
 refine G.stepD (OD.move rfl rfl) rfl rfl rfl ?_
 refine G.stepD (OD.len rfl rfl et26 rfl eL) rfl rfl rfl ?_
 refine G.stepD (OD.eqv (OD.lss rfl rfl rfl) (congrArg Value.bool hg1e)) rfl rfl rfl ?_
 refine G.stepD (OD.move rfl rfl) rfl rfl rfl ?_
 refine G.skipG rfl rfl rfl rfl rfl rfl (G.skipG rfl rfl rfl rfl rfl rfl (G.skipG rfl rfl rfl rfl rfl rfl (G.skipG rfl rfl rfl rfl rfl rfl (G.skipG rfl rfl rfl rfl rfl rfl (G.skipG rfl rfl rfl rfl rfl rfl ?_)))))
 refine G.stepD (OD.pickF rfl rfl rfl) rfl rfl rfl ?_
 refine G.nil (GE.then_ (GC.condF rfl (GC.skip (GE.then_ (GC.seq ?_)))))
 refine GC.at [] 0 (env' := [(0, vL), (1, vx), (6, .int .i64 ((a : Int)))]) ⟨rfl, rfl, rfl, trivial⟩ rfl ?_
 refine GC.par (its := [⟨34, [], [], [], [0], fun ds => ((ds.getD 0 []).getD 0 undef), fun ds => IsS ((ds.getD 0 []).getD 0 undef), fun ds => [lst 22 ((ds.getD 0 []).getD 0 undef) []]⟩,
     ⟨35, [], [], [], [], fun _ => vL, fun _ => True, fun _ => []⟩,
     ⟨36, [], [], [], [], fun _ => .int .i64 ((a : Int)), fun _ => True, fun _ => []⟩,
     ⟨37, [(1, 35), (2, 36)], [], [], [], fun _ => (subV 1 vL 0 a), fun _ => True, fun _ => []⟩,
     ⟨38, [(0, 34), (3, 37)], [0], [0], [0, 4], fun ds => ((ds.getD 1 []).getD 0 undef), fun ds => IsS ((ds.getD 1 []).getD 0 undef), fun ds => [lst 22 ((ds.getD 1 []).getD 0 undef) ([] ++ (uL.drop (0)).take (a - 0))]⟩,
     ⟨39, [], [], [], [], fun _ => vx, fun _ => True, fun _ => []⟩,
     ⟨40, [(5, 39)], [], [], [6], fun ds => ((ds.getD 0 []).getD 0 undef), fun ds => IsS ((ds.getD 0 []).getD 0 undef), fun ds => [lst 22 ((ds.getD 0 []).getD 0 undef) [vx]]⟩,
     ⟨41, [(4, 38), (6, 40)], [4, 6], [4], [0, 4, 6, 7], fun ds => ((ds.getD 3 []).getD 0 undef), fun ds => IsS ((ds.getD 3 []).getD 0 undef), fun ds => [lst 22 ((ds.getD 3 []).getD 0 undef) (([] ++ (uL.drop (0)).take (a - 0)) ++ [vx])]⟩,
     ⟨42, [], [], [], [], fun _ => vL, fun _ => True, fun _ => []⟩,
     ⟨43, [], [], [], [], fun _ => .int .i64 ((a : Int)), fun _ => True, fun _ => []⟩,
     ⟨44, [(8, 42), (9, 43)], [], [], [], fun _ => (subV 1 vL a L.length), fun _ => True, fun _ => []⟩,
     ⟨45, [(7, 41), (10, 44)], [7, 6], [7], [0, 4, 6, 7, 11], fun ds => ((ds.getD 4 []).getD 0 undef), fun ds => IsS ((ds.getD 4 []).getD 0 undef), fun ds => [lst 22 ((ds.getD 4 []).getD 0 undef) ((([] ++ (uL.drop (0)).take (a - 0)) ++ [vx]) ++ (uL.drop (a)).take (L.length - a))]⟩]) (by kernel_rfl) (by kernel_rfl) (POps.cons ?_ (POps.cons ?_ (POps.cons ?_ (POps.cons ?_ (POps.cons ?_ (POps.cons ?_ (POps.cons ?_ (POps.cons ?_ (POps.cons ?_ (POps.cons ?_ (POps.cons ?_ (POps.cons ?_ POps.nil)))))))))))) ?_
 intro θ R hd
 exact Opp.plain (OG.imp (OG.buildLst (xs := []) (us := []) rfl et26 rfl rfl rfl rfl rfl) (by rintro v24 _ ⟨hs25, rfl⟩; exact ⟨[v24], rfl, hs25, rfl⟩)) rfl
 intro θ R hd
 exact Opp.plain (OG.imp (OD.move rfl rfl) (by rintro _ _ ⟨rfl, rfl⟩; exact ⟨[], rfl, trivial, rfl⟩)) rfl
 intro θ R hd
 exact Opp.plain (OG.imp (OD.move rfl rfl) (by rintro _ _ ⟨rfl, rfl⟩; exact ⟨[], rfl, trivial, rfl⟩)) rfl
 intro θ R hd
 obtain ⟨h1d, h2d, _⟩ := hd
 exact Opp.plain (OG.imp (OD.sliceTo rfl et26 rfl rfl (eL.app) (by omega)) (by rintro _ _ ⟨rfl, rfl⟩; exact ⟨[], rfl, trivial, rfl⟩)) rfl
 intro θ R hd
 obtain ⟨h0d, h3d, _⟩ := hd
 exact Opp.plain (OG.imp (OG.appendLst 0 rfl rfl et26 rfl rfl rfl (Ent.subLst (us := uL) (Ent.len (Ent.drop 1 eL.app) (by omega)) (by omega)) (List.all_eq_true.2 fun u hu => by simpa using (AllS.part aL _ _).one u hu) (by simp [maxLen] <;> omega)) (by rintro v26 _ ⟨hs27, rfl⟩; exact ⟨[v26], rfl, hs27, rfl⟩)) rfl
 intro θ R hd
 exact Opp.plain (OG.imp (OD.move rfl rfl) (by rintro _ _ ⟨rfl, rfl⟩; exact ⟨[], rfl, trivial, rfl⟩)) rfl
 intro θ R hd
 obtain ⟨h5d, _⟩ := hd
 exact Opp.plain (OG.imp (OG.buildLst (xs := [.tmp 39]) (us := [vx]) rfl et26 rfl rfl rfl (allC (IsS.one sx) rfl) rfl) (by rintro v28 _ ⟨hs29, rfl⟩; exact ⟨[v28], rfl, hs29, rfl⟩)) rfl
 intro θ R hd
 obtain ⟨h4d, h6d, _⟩ := hd
 exact Opp.plain (OG.imp (OG.appendLst 0 rfl rfl et26 rfl rfl rfl (Ent.lst (i := 1) rfl) (List.all_eq_true.2 fun u hu => by simpa using (AllS.snoc AllS.nil sx).one u hu) (by simp [maxLen] <;> omega)) (by rintro v30 _ ⟨hs31, rfl⟩; exact ⟨[v30], rfl, hs31, rfl⟩)) rfl
 intro θ R hd
 exact Opp.plain (OG.imp (OD.move rfl rfl) (by rintro _ _ ⟨rfl, rfl⟩; exact ⟨[], rfl, trivial, rfl⟩)) rfl
 intro θ R hd
 exact Opp.plain (OG.imp (OD.move rfl rfl) (by rintro _ _ ⟨rfl, rfl⟩; exact ⟨[], rfl, trivial, rfl⟩)) rfl
 intro θ R hd
 obtain ⟨h8d, h9d, _⟩ := hd
 exact Opp.plain (OG.imp (OD.sliceFrom rfl et26 rfl rfl (eL.app) (by omega)) (by rintro _ _ ⟨rfl, rfl⟩; exact ⟨[], rfl, trivial, rfl⟩)) rfl
 intro θ R hd
 obtain ⟨h7d, h10d, _⟩ := hd
 exact Opp.plain (OG.imp (OG.appendLst 0 rfl rfl et26 rfl rfl rfl (Ent.subLst (us := uL) (Ent.len (Ent.drop 2 eL.app) (by omega)) (by omega)) (List.all_eq_true.2 fun u hu => by simpa using (AllS.part aL _ _).one u hu) (by simp [maxLen] <;> omega)) (by rintro v32 _ ⟨hs33, rfl⟩; exact ⟨[v32], rfl, hs33, rfl⟩)) rfl
 intro θ hall
 obtain ⟨h0a, _, _, _, h4a, _, h6a, h7a, _, _, _, h11a, _⟩ := hall
 refine G.at [] 0 (env' := [(45, ((θ 11).getD 0 undef))]) ⟨rfl, trivial⟩ (own' := lst 22 ((θ 6).getD 0 undef) [vx] :: lst 22 ((θ 11).getD 0 undef) ((([] ++ (uL.drop (0)).take (a - 0)) ++ [vx]) ++ (uL.drop (a)).take (L.length - a)) :: own) rfl ?_
 have hs34 : IsS ((θ 0).getD 0 undef) := h0a
 clear h0a
 generalize ((θ 0).getD 0 undef) = v35 at *
 have hs36 : IsS ((θ 4).getD 0 undef) := h4a
 clear h4a
 generalize ((θ 4).getD 0 undef) = v37 at *
 have hs38 : IsS ((θ 6).getD 0 undef) := h6a
 clear h6a
 generalize ((θ 6).getD 0 undef) = v39 at *
 have hs40 : IsS ((θ 7).getD 0 undef) := h7a
 clear h7a
 generalize ((θ 7).getD 0 undef) = v41 at *
 have hs42 : IsS ((θ 11).getD 0 undef) := h11a
 clear h11a
 generalize ((θ 11).getD 0 undef) = v43 at *
 show G _ _ _ [_, _] _ _ _ _
 refine G.stepD (OD.assign rfl rfl) rfl rfl rfl ?_
 refine G.stepD (OD.assign rfl rfl) rfl rfl rfl ?_
 refine G.nil (GE.then_ (GC.ret ?_))
 have hnewA : AllS (uL.take (insA x L) ++ [vx] ++ uL.drop (insA x L)) := AllS.app (AllS.app (fun u hu => aL u (List.mem_of_mem_take hu)) (AllS.snoc AllS.nil sx)) fun u hu => aL u (List.mem_of_mem_drop hu)
 refine GE.ownEq (own' := lst 22 v39 [vx] :: lst 22 v43 (uL.take (insA x L) ++ [vx] ++ uL.drop (insA x L)) :: own) (by rw [hia]; simp [List.take_of_length_le, ← lL]) ?_
 skip
 exact GE.body [1] 1 (res2 rfl rfl rfl) rfl (⟨v43, rfl, hs42, hnewA, rfl⟩)
set_option maxRecDepth 100000 in
theorem l6Insert_old {W : World} {own : List Asn} {vL : Value} {uL : List Value} {L : List (List Int)} {vx : Value} {x : List Int}  (sL : IsS vL) (eL : Ent own fun w => Sl w vL L.length 1 uL) (mL : ∀ k, k < L.length → Ent own fun w => Ints w (uL.getD k undef) (L.getD k [])) (lL : uL.length = L.length) (aL : AllS uL)   (sx : IsS vx) (ex : Ent own fun w => Ints w vx x)  (hll : L.length ≤ 1073741824) (hle : ∀ k, k < L.length → (L.getD k []).length ≤ 1073741824) (hl : x.length ≤ 1073741824) (hde : Desc L) (hyes : L.contains x = true) : Spec Tryz.prog 66 [vL, vx] W own (fun v ow => v = .tuple #[vL, .bool (false)] ∧ ow = own) := by
 refine Spec.enter Tryz.f66 _ Tryz.func66 rfl (n := 46) rfl rfl ?_
 refine GC.seq (GC.region ?_)
 refine G.stepD (OD.assign rfl rfl) rfl rfl rfl ?_
 refine G.stepD (OD.assign rfl rfl) rfl rfl rfl ?_
 refine G.nil (GE.then_ (GC.seq (GC.region ?_)))
 refine G.stepD (OD.assign rfl rfl) rfl rfl rfl ?_
 refine G.nil (GE.then_ (GC.seq (GC.block ?_)))
 refine GC.loop (ι := Nat) (fun a => [(0, vL), (1, vx), (6, .int .i64 ((a : Int)))]) (fun a => own) (fun a => (a ≤ L.length) ∧ (∀ j, j < a → abvL (L.getD j []) x = true)) (fun a => L.length - a) 0 (⟨by omega, fun j hj => absurd hj (Nat.not_lt_zero j)⟩) ⟨rfl, rfl, rfl, trivial⟩ [] 0 rfl ?_
 rintro a ⟨ha, hab⟩
 refine GC.seq (GC.seq (GC.region ?_))
 refine G.stepD (OD.move rfl rfl) rfl rfl rfl ?_
 refine G.stepD (OD.move rfl rfl) rfl rfl rfl ?_
 refine G.stepD (OD.len rfl rfl et26 rfl eL) rfl rfl rfl ?_
 refine G.stepD (OD.lss rfl rfl rfl) rfl rfl rfl ?_
 refine G.stepD (OD.move rfl rfl) rfl rfl rfl ?_
 rcases Bool.eq_false_or_eq_true (decide ((a : Int) < (L.length : Nat))) with hg1 | hg1
 have hg1e := hg1
 refine G.at [] 0 (env' := [(0, vL), (1, vx), (6, .int .i64 ((a : Int))), (7, .int .i64 ((a : Int))), (8, vL), (9, .int .i64 ((L.length : Nat))), (10, .bool true), (11, .bool true)]) (⟨rfl, rfl, rfl, rfl, rfl, rfl, (congrArg (fun b => some (Value.bool b)) hg1e), (congrArg (fun b => some (Value.bool b)) hg1e), trivial⟩) rfl ?_
 replace hg1 := of_decide_eq_true hg1
 refine G.stepGD (OD.move rfl rfl) rfl rfl rfl rfl rfl ?_
 refine G.stepGD (OD.move rfl rfl) rfl rfl rfl rfl rfl ?_
 refine G.stepGD (OD.indexAddr rfl et26 rfl eL rfl (by omega)) rfl rfl rfl rfl rfl ?_
 refine G.stepGD (OD.loadElem rfl ti22 rfl eL (by omega) rfl) rfl rfl rfl rfl rfl ?_
 refine G.stepGD (OD.move rfl rfl) rfl rfl rfl rfl rfl ?_
 refine G.stepG (OG.call [(uL.getD (a) undef), vx] ent100 rfl rfl rfl rfl (by exact (l6Above_w (aL.get (by omega)) ((mL (a) (by omega))) sx ex (Nat.le_trans (hle a (by omega)) (by omega)) (hl)))) rfl rfl rfl rfl rfl ?_
 rintro _ _ ⟨rfl, hzz⟩; obtain rfl := hzz.symm
 refine G.stepD (OD.pickT rfl rfl rfl) rfl rfl rfl ?_
 refine G.nil (GE.then_ ?_)
 refine GC.cond rfl (fun hc2 => ?_) (fun hc2 => ?_)
 refine GC.skip (GE.then_ (GC.block (GC.region ?_)))
 refine G.stepD (OD.move rfl rfl) rfl rfl rfl ?_
 refine G.stepD (OD.addI rfl rfl rfl (by omega)) rfl rfl rfl ?_
 refine G.stepD (OD.assign rfl rfl) rfl rfl rfl ?_
 refine G.nil (GE.blockN ?_)
 exact GE.again (a + 1) (⟨by omega, fun j hj => (Nat.lt_succ_iff_lt_or_eq.1 hj).elim (hab j) (fun e => by rw [e]; exact hc2)⟩) (by first | omega | (dsimp only; omega)) ⟨rfl, rfl, rfl, trivial⟩ [] 0 rfl
 have hia : insA x L = a := insA_hit ha hab (fun _ => hc2)
 refine GC.exit (GE.pass (GE.pass (GE.hit (GE.then_ (GC.seq (GC.seq (GC.region ?_)))))))
 refine G.stepD (OD.move rfl rfl) rfl rfl rfl ?_
 refine G.stepD (OD.move rfl rfl) rfl rfl rfl ?_
 refine G.stepD (OD.len rfl rfl et26 rfl eL) rfl rfl rfl ?_
 refine G.stepD (OD.eqv (OD.lss rfl rfl rfl) (congrArg Value.bool hg1e)) rfl rfl rfl ?_
 refine G.stepD (OD.move rfl rfl) rfl rfl rfl ?_
 refine G.stepGD (OD.move rfl rfl) rfl rfl rfl rfl rfl ?_
 refine G.stepGD (OD.move rfl rfl) rfl rfl rfl rfl rfl ?_
 refine G.stepGD (OD.indexAddr rfl et26 rfl eL rfl (by omega)) rfl rfl rfl rfl rfl ?_
 refine G.stepGD (OD.loadElem rfl ti22 rfl eL (by omega) rfl) rfl rfl rfl rfl rfl ?_
 refine G.stepGD (OD.move rfl rfl) rfl rfl rfl rfl rfl ?_
 refine G.stepG (OG.call [(uL.getD (a) undef), vx] ent101 rfl rfl rfl rfl (by exact (l1Same_s (aL.get (by omega)) ((mL (a) (by omega))) sx ex (Nat.le_trans (hle a (by omega)) (by decide))))) rfl rfl rfl rfl rfl ?_
 rintro _ _ ⟨rfl, hzz⟩; obtain rfl := hzz.symm
 refine G.stepD (OD.pickT rfl rfl rfl) rfl rfl rfl ?_
 refine G.nil (GE.then_ ?_)
 refine GC.cond rfl (fun hc3 => ?_) (fun hc3 => ?_)
 refine GC.seq (GC.region ?_)
 refine G.stepD (OD.move rfl rfl) rfl rfl rfl ?_
 refine G.stepD (OD.assign rfl rfl) rfl rfl rfl ?_
 refine G.stepD (OD.assign rfl rfl) rfl rfl rfl ?_
 refine G.nil (GE.then_ (GC.ret (GE.passR ?_)))
 exact GE.body [] 0 (res2 rfl rfl rfl) rfl (⟨rfl, rfl⟩)
 exact absurd (hyes.symm.trans (by rw [← insA_mem hde, hia, hc3, Bool.and_false])).symm Bool.false_ne_true
 have hg1e := hg1
 refine G.at [] 0 (env' := [(0, vL), (1, vx), (6, .int .i64 ((a : Int))), (7, .int .i64 ((a : Int))), (8, vL), (9, .int .i64 ((L.length : Nat))), (10, .bool false), (11, .bool false)]) (⟨rfl, rfl, rfl, rfl, rfl, rfl, (congrArg (fun b => some (Value.bool b)) hg1e), (congrArg (fun b => some (Value.bool b)) hg1e), trivial⟩) rfl ?_
 replace hg1 := of_decide_eq_false hg1
 refine G.skipG rfl rfl rfl rfl rfl rfl (G.skipG rfl rfl rfl rfl rfl rfl (G.skipG rfl rfl rfl rfl rfl rfl (G.skipG rfl rfl rfl rfl rfl rfl (G.skipG rfl rfl rfl rfl rfl rfl (G.skipG rfl rfl rfl rfl rfl rfl ?_)))))
 refine G.stepD (OD.pickF rfl rfl rfl) rfl rfl rfl ?_
 refine G.nil (GE.then_ (GC.condF rfl ?_))
 have hia : insA x L = a := insA_hit ha hab (fun hh => absurd hh (by omega))
 refine GC.exit (GE.pass (GE.pass (GE.hit (GE.then_ (GC.seq (GC.seq (GC.region ?_)))))))
 refine G.stepD (OD.move rfl rfl) rfl rfl rfl ?_
 refine G.stepD (OD.move rfl rfl) rfl rfl rfl ?_
 refine G.stepD (OD.len rfl rfl et26 rfl eL) rfl rfl rfl ?_
 refine G.stepD (OD.eqv (OD.lss rfl rfl rfl) (congrArg Value.bool hg1e)) rfl rfl rfl ?_
 refine G.stepD (OD.move rfl rfl) rfl rfl rfl ?_
 refine G.skipG rfl rfl rfl rfl rfl rfl (G.skipG rfl rfl rfl rfl rfl rfl (G.skipG rfl rfl rfl rfl rfl rfl (G.skipG rfl rfl rfl rfl rfl rfl (G.skipG rfl rfl rfl rfl rfl rfl (G.skipG rfl rfl rfl rfl rfl rfl ?_)))))
 refine G.stepD (OD.pickF rfl rfl rfl) rfl rfl rfl ?_
 refine G.nil (GE.then_ ?_)
 exact absurd (hyes.symm.trans (by rw [← insA_mem hde, hia, decide_eq_false (by omega), Bool.false_and])).symm Bool.false_ne_true
set_option maxHeartbeats 4000000 in
set_option maxRecDepth 100000 in
theorem l6Orbit_w {W : World} {own : List Asn} {cr : Int} {vcd : Value} {cd : List Int} {vx : Value} {x : List Int}  (scd : IsS vcd) (ecd : Ent own fun w => Ints w vcd cd)   (sx : IsS vx) (ex : Ent own fun w => Ints w vx x)  (hcr : 1 ≤ cr ∧ cr ≤ 4) (hcd : (cd.length : Int) = cr * cr) (hwx : wtOk cr x = true) : Spec Tryz.prog 53 [.agg #[.int .i64 (cr), vcd], vx] W own (fun v ow => ∃ (r0 : Value) (u0 : List Value), v = .tuple #[r0, .bool (orB cr cd x)] ∧ IsS r0 ∧ AllS u0 ∧ u0.length = (orF cr cd x).length ∧ ow = lst 22 r0 u0 :: many (ints 3) u0 (orF cr cd x) :: own) := by
 have hxl := wtOk_len hwx
 refine Spec.enter Tryz.f53 _ Tryz.func53 rfl (n := 58) rfl rfl ?_
 refine GC.seq (GC.region ?_)
 refine G.step (OG.box (cs := [.int .i64 (cr), vcd]) rfl rfl rfl) rfl rfl rfl ?_
 rintro _ _ ⟨g1, rfl, rfl⟩
 refine G.stepD (OD.assign rfl rfl) rfl rfl rfl ?_
 refine G.stepD (OD.assign rfl rfl) rfl rfl rfl ?_
 refine G.nil (GE.then_ (GC.seq (GC.region ?_)))
 refine G.stepD (OD.move rfl rfl) rfl rfl rfl ?_
 refine G.step (OG.call [vx] ent81 rfl rfl rfl rfl (by exact (l1Ints_w sx (Ent.drop 1 ex) (by omega)))) rfl rfl rfl ?_
 rintro v2 _ ⟨_, rfl, hs3, rfl⟩
 refine G.step (OG.buildLst (xs := [.tmp 14]) (us := [v2]) rfl et26 rfl rfl rfl (allC (IsS.one hs3) rfl) rfl) rfl rfl rfl ?_
 rintro v4 _ ⟨hs5, rfl⟩
 refine G.stepD (OD.assign rfl rfl) rfl rfl rfl ?_
 refine G.nil (GE.then_ (GC.seq (GC.region ?_)))
 refine G.stepD (OD.move rfl rfl) rfl rfl rfl ?_
 refine G.step (OG.call [vx] ent81 rfl rfl rfl rfl (by exact (l1Ints_w sx (Ent.drop 3 ex) (by omega)))) rfl rfl rfl ?_
 rintro v6 _ ⟨_, rfl, hs7, rfl⟩
 refine G.step (OG.buildLst (xs := [.tmp 17]) (us := [v6]) rfl et26 rfl rfl rfl (allC (IsS.one hs7) rfl) rfl) rfl rfl rfl ?_
 rintro v8 _ ⟨hs9, rfl⟩
 refine G.stepD (OD.assign rfl rfl) rfl rfl rfl ?_
 refine G.nil (GE.then_ (GC.seq (GC.seq (GC.region ?_))))
 refine G.stepD (OD.assign rfl rfl) rfl rfl rfl ?_
 refine G.nil (GE.then_ (GC.block ?_))
 refine GC.many0 (ints 3) ?_
 refine GC.at [2, 0, 0, 0, 0, 0] 0 (env' := [(0, .agg #[.int .i64 (cr), vcd]), (1, vx), (2, .pointer (some ⟨g1, 0, none⟩)), (4, .slice none 0 0), (5, .bool false), (13, vx), (14, v2), (15, v4), (6, v4), (16, vx), (17, v6), (18, v8), (7, v8), (8, .int .i64 (0))]) ⟨rfl, rfl, rfl, rfl, rfl, rfl, rfl, rfl, rfl, rfl, rfl, rfl, rfl, rfl, trivial⟩ (own' := ints 3 v6 x :: many (ints 3) [] [] :: lst 22 v8 [v6] :: lst 22 v4 [v2] :: ints 3 v2 x :: box g1 28 [.int .i64 (cr), vcd] :: own) rfl ?_
 refine GC.manyPush (A := ints 3) (vs := []) (xs := []) rfl ?_
 refine GC.ownEq (own' := many (ints 3) [v6] [x] :: lst 22 v8 [v6] :: lst 22 v4 [v2] :: ints 3 v2 x :: box g1 28 [.int .i64 (cr), vcd] :: own) (rfl) ?_
 refine GC.loop (ι := Nat × List (List Int) × List Value × Value × List Value × Value) (fun ⟨k, gs, ut, v, lt, z⟩ => [(2, .pointer (some ⟨g1, 0, none⟩)), (6, z), (7, v), (8, .int .i64 ((k : Int)))]) (fun ⟨k, gs, ut, v, lt, z⟩ => many (ints 3) ut gs :: lst 22 v ut :: lst 22 z lt :: ints 3 v2 x :: box g1 28 [.int .i64 (cr), vcd] :: own) (fun ⟨k, gs, ut, v, lt, z⟩ => (oC cr cd (1300 - k) gs k = oAll cr cd x) ∧ (∀ y ∈ gs, wtOk cr y = true) ∧ (1 ≤ gs.length ∧ gs.length ≤ 1200) ∧ (gs.Nodup) ∧ (ut.length = gs.length) ∧ (AllS ut) ∧ (AllS lt) ∧ (lt.length = (srtD gs).length) ∧ ((lt.zip (srtD gs)).Perm ((v2, x) :: (ut.zip gs).drop 1)) ∧ (IsS v) ∧ (IsS z)) (fun ⟨k, gs, ut, v, lt, z⟩ => 1300 - k) (0, [x], [v6], v8, [v2], v4) (⟨rfl, fun y hy => by rw [List.mem_singleton.1 hy]; exact hwx, by simp, by simp, rfl, (AllS.snoc AllS.nil hs7), (AllS.snoc AllS.nil hs3), rfl, List.Perm.refl _, hs9, hs5⟩) ⟨rfl, rfl, rfl, rfl, trivial⟩ [] 0 rfl ?_
 rintro ⟨k, gs, ut, v, lt, z⟩ ⟨hoc, hwt, hgl, hnd, hlen, hau, hal, hll, hpm, hv, hz⟩
 have hsl := srt_len gs
 refine GC.seq (GC.seq (GC.region ?_))
 refine G.stepD (OD.move rfl rfl) rfl rfl rfl ?_
 refine G.stepD (OD.move rfl rfl) rfl rfl rfl ?_
 refine G.stepD (OD.len rfl rfl et26 rfl (Ent.lst (i := 1) rfl)) rfl rfl rfl ?_
 refine G.stepD (OD.lss rfl rfl rfl) rfl rfl rfl ?_
 refine G.nil (GE.then_ ?_)
 refine GC.cond rfl (fun hc10 => ?_) (fun hc10 => ?_)
 replace hc10 := of_decide_eq_true hc10
 have hkl : k < gs.length := by omega
 have hgkw := hwt _ (getD_mem hkl)
 have hgkl := wtOk_len hgkw
 refine GC.skip (GE.then_ (GC.seq (GC.block (GC.seq (GC.region ?_)))))
 refine G.stepD (OD.assign rfl rfl) rfl rfl rfl ?_
 refine G.nil (GE.then_ (GC.block ?_))
 refine GC.loop (ι := Nat × List (List Int) × List Value × Value × List Value × Value) (fun ⟨i, qs, uu, w, ls, y⟩ => [(2, .pointer (some ⟨g1, 0, none⟩)), (8, .int .i64 ((k : Int))), (6, y), (7, w), (9, .int .i64 ((i : Int)))]) (fun ⟨i, qs, uu, w, ls, y⟩ => many (ints 3) uu qs :: lst 22 w uu :: lst 22 y ls :: ints 3 v2 x :: box g1 28 [.int .i64 (cr), vcd] :: own) (fun ⟨i, qs, uu, w, ls, y⟩ => (i ≤ cr.toNat) ∧ (qs = (List.range i).foldl (oOne cr cd (gs.getD k [])) gs) ∧ (∀ y ∈ qs, wtOk cr y = true) ∧ (1 ≤ qs.length ∧ qs.length ≤ 1200) ∧ (qs.Nodup) ∧ (uu.length = qs.length) ∧ (AllS uu) ∧ (AllS ls) ∧ (ls.length = (srtD qs).length) ∧ ((ls.zip (srtD qs)).Perm ((v2, x) :: (uu.zip qs).drop 1)) ∧ (IsS w) ∧ (IsS y)) (fun ⟨i, qs, uu, w, ls, y⟩ => cr.toNat - i) (0, gs, ut, v, lt, z) (⟨by omega, rfl, hwt, hgl, hnd, hlen, hau, hal, hll, hpm, hv, hz⟩) ⟨rfl, rfl, rfl, rfl, rfl, trivial⟩ [] 0 rfl ?_
 rintro ⟨i, qs, uu, w, ls, y⟩ ⟨hi, hqs, hqwt, hqgl, hqnd, hqlen, hqau, hqal, hqll, hqpm, hqv, hqz⟩
 obtain ⟨hpre, hpg⟩ := oC_in hoc hkl hgl.2 hi hqs
 have hgk : qs.getD k [] = gs.getD k [] := hpg.get hkl
 have hql1 := hpg.len
 have hsl2 := srt_len qs
 have hqe : ∀ j, j < (srtD qs).length → ((srtD qs).getD j []).length ≤ 1073741824 := fun j hj => by have h1 := wtOk_len (hqwt _ ((srt_perm qs).mem_iff.1 (getD_mem hj))); omega
 refine GC.seq (GC.seq (GC.region ?_))
 refine G.stepD (OD.move rfl rfl) rfl rfl rfl ?_
 refine G.stepD (OD.fieldAddr rfl rfl fa28_0) rfl rfl rfl ?_
 refine G.stepD (OD.load rfl ti3 rfl (i := 4) rfl rfl) rfl rfl rfl ?_
 refine G.stepD (OD.lss rfl rfl rfl) rfl rfl rfl ?_
 refine G.nil (GE.then_ ?_)
 refine GC.cond rfl (fun hc11 => ?_) (fun hc11 => ?_)
 replace hc11 := of_decide_eq_true hc11
 have hpo := oC_in1 hoc hkl hgl.2 (show i < cr.toNat by omega) hqs
 have hYl : ((rfF cr cd (i : Int) (gs.getD k [])).length : Int) = cr := by rw [rfF_len]; exact hgkl
 refine GC.skip (GE.then_ (GC.seq (GC.block (GC.seq ?_))))
 refine GC.at [] 0 (env' := [(2, .pointer (some ⟨g1, 0, none⟩)), (8, .int .i64 ((k : Int))), (6, y), (7, w), (9, .int .i64 ((i : Int)))]) ⟨rfl, rfl, rfl, rfl, rfl, trivial⟩ rfl ?_
 refine GC.par (its := [⟨31, [], [], [], [], fun _ => .agg #[.int .i64 (cr), vcd], fun _ => True, fun _ => []⟩,
     ⟨32, [], [], [], [], fun _ => .int .i64 ((i : Int)), fun _ => True, fun _ => []⟩,
     ⟨33, [], [], [], [], fun _ => w, fun _ => True, fun _ => []⟩,
     ⟨34, [], [], [], [], fun _ => .int .i64 ((k : Int)), fun _ => True, fun _ => []⟩,
     ⟨35, [(2, 33), (3, 34)], [], [], [], fun _ => elemPtr w 1 (k), fun _ => True, fun _ => []⟩,
     ⟨36, [(4, 35)], [], [], [], fun _ => (uu.getD (k) undef), fun _ => True, fun _ => []⟩,
     ⟨37, [(0, 31), (1, 32), (5, 36)], [], [], [6], fun ds => ((ds.getD 0 []).getD 0 undef), fun ds => IsS ((ds.getD 0 []).getD 0 undef), fun ds => [ints 3 ((ds.getD 0 []).getD 0 undef) (rfF cr cd (i : Int) (qs.getD (k) []))]⟩]) (by kernel_rfl) (by kernel_rfl) (POps.cons ?_ (POps.cons ?_ (POps.cons ?_ (POps.cons ?_ (POps.cons ?_ (POps.cons ?_ (POps.cons ?_ POps.nil))))))) ?_
 intro θ R hd
 exact Opp.plain (OG.imp (OD.loadAgg rfl ti28 rfl (i := 4) rfl (us := [.int .i64 (cr), vcd]) rfl rfl) (by rintro _ _ ⟨rfl, rfl⟩; exact ⟨[], rfl, trivial, rfl⟩)) rfl
 intro θ R hd
 exact Opp.plain (OG.imp (OD.move rfl rfl) (by rintro _ _ ⟨rfl, rfl⟩; exact ⟨[], rfl, trivial, rfl⟩)) rfl
 intro θ R hd
 exact Opp.plain (OG.imp (OD.move rfl rfl) (by rintro _ _ ⟨rfl, rfl⟩; exact ⟨[], rfl, trivial, rfl⟩)) rfl
 intro θ R hd
 exact Opp.plain (OG.imp (OD.move rfl rfl) (by rintro _ _ ⟨rfl, rfl⟩; exact ⟨[], rfl, trivial, rfl⟩)) rfl
 intro θ R hd
 obtain ⟨h2d, h3d, _⟩ := hd
 exact Opp.plain (OG.imp (OD.indexAddr rfl et26 rfl (Ent.lst (i := 1) rfl) rfl (by omega)) (by rintro _ _ ⟨rfl, rfl⟩; exact ⟨[], rfl, trivial, rfl⟩)) rfl
 intro θ R hd
 obtain ⟨h4d, _⟩ := hd
 exact Opp.plain (OG.imp (OD.loadElem rfl ti22 rfl (Ent.lst (i := 1) rfl) (by omega) rfl) (by rintro _ _ ⟨rfl, rfl⟩; exact ⟨[], rfl, trivial, rfl⟩)) rfl
 intro θ R hd
 obtain ⟨h0d, h1d, h5d, _⟩ := hd
 exact Opp.plain (OG.imp (OG.call [.agg #[.int .i64 (cr), vcd], .int .i64 ((i : Int)), (uu.getD (k) undef)] ent90 rfl rfl rfl rfl (by exact (l6Reflect_w scd (Ent.drop 5 ecd.app) (hqau.get (by omega)) (Ent.manyInts (i := 0) rfl ⟨by first | omega | (simp; omega), by first | omega | (simp; omega)⟩) (hcr) (hcd) (by omega) (by rw [hgk]; exact hgkl)))) (by rintro v12 _ ⟨_, rfl, hs13, rfl⟩; exact ⟨[v12], rfl, hs13, rfl⟩)) rfl
 intro θ hall
 obtain ⟨_, _, _, _, _, _, h6a, _⟩ := hall
 refine G.at [] 0 (env' := [(2, .pointer (some ⟨g1, 0, none⟩)), (8, .int .i64 ((k : Int))), (6, y), (7, w), (9, .int .i64 ((i : Int))), (37, ((θ 6).getD 0 undef))]) ⟨rfl, rfl, rfl, rfl, rfl, rfl, trivial⟩ (own' := ints 3 ((θ 6).getD 0 undef) (rfF cr cd (i : Int) (qs.getD (k) [])) :: many (ints 3) uu qs :: lst 22 w uu :: lst 22 y ls :: ints 3 v2 x :: box g1 28 [.int .i64 (cr), vcd] :: own) rfl ?_
 have hs14 : IsS ((θ 6).getD 0 undef) := h6a
 clear h6a
 generalize ((θ 6).getD 0 undef) = v15 at *
 show G _ _ _ [_] _ _ _ _
 refine G.stepD (OD.assign rfl rfl) rfl rfl rfl ?_
 refine G.nil (GE.then_ (GC.seq (GC.seq ?_)))
 refine GC.ownEq (own' := ints 3 v15 (rfF cr cd (i : Int) (gs.getD k [])) :: many (ints 3) uu qs :: lst 22 w uu :: lst 22 y ls :: ints 3 v2 x :: box g1 28 [.int .i64 (cr), vcd] :: own) (by rw [hgk]) ?_
 refine GC.region ?_
 refine G.stepD (OD.loadAgg rfl ti28 rfl (i := 5) rfl (us := [.int .i64 (cr), vcd]) rfl rfl) rfl rfl rfl ?_
 refine G.stepD (OD.move rfl rfl) rfl rfl rfl ?_
 refine G.step (OG.call [.agg #[.int .i64 (cr), vcd], v15] ent48 rfl rfl rfl rfl (by exact (l5Lattice_w scd (Ent.drop 6 ecd) hs14 (Ent.ints (i := 0) rfl) (by omega)))) rfl rfl rfl ?_
 rintro _ _ ⟨rfl, rfl⟩
 refine G.stepD (OD.not rfl rfl) rfl rfl rfl ?_
 refine G.nil (GE.then_ ?_)
 refine GC.cond rfl (fun hc16 => ?_) (fun hc16 => ?_)
 replace hc16 := eq_false_of_not hc16
 rw [← oOne_yes rfl (not_in hqwt hc16)] at hpo
 have hob := orB_bad hpo (List.mem_append_right _ (List.mem_singleton.2 rfl)) hc16
 refine GC.seq (GC.region ?_)
 refine G.stepD (OD.assign rfl rfl) rfl rfl rfl ?_
 refine G.stepD (OD.assign rfl rfl) rfl rfl rfl ?_
 refine G.nil (GE.then_ (GC.ret (GE.passR (GE.blockR (GE.passR (GE.passR (GE.blockR (GE.blockR (GE.passR (GE.passR (GE.blockR (GE.passR ?_))))))))))))
 skip
 refine GE.many0 (ints 3) ?_
 refine GE.nilLst 22 ?_
 exact GE.body [0, 0] 6 (res2 rfl rfl rfl) rfl (⟨(.slice none 0 0), [], congrArg (fun (a1 : Bool) => (.tuple #[(.slice none 0 0), .bool (a1)] : Value)) ((by rw [hob] : (false : Bool) = orB cr cd x)), IsS.nil, AllS.nil, (by rw [orF, hob] <;> rfl), congrArg (fun (l0 : List (List Int)) => lst 22 (.slice none 0 0) [] :: many (ints 3) [] l0 :: own) ((by rw [orF, hob] <;> rfl : [] = orF cr cd x))⟩)
 replace hc16 := eq_true_of_not hc16
 have hwY := hc16
 refine GC.skip (GE.then_ (GC.seq (GC.region ?_)))
 refine G.stepD (OD.move rfl rfl) rfl rfl rfl ?_
 refine G.stepD (OD.move rfl rfl) rfl rfl rfl ?_
 rcases Bool.eq_false_or_eq_true (qs.contains (rfF cr cd (i : Int) (gs.getD k []))) with hx17 | hx17
 refine G.step (OG.call [y, v15] ent66 rfl rfl rfl rfl (by exact (l6Insert_old hqz (Ent.len (Ent.lst (i := 3) rfl) (by omega)) (fun k hk => Ent.manyZip2 (i := 4) (j := 1) (k := k) rfl rfl hqpm ⟨by omega, hk⟩) (by omega) hqal hs14 (Ent.ints (i := 0) rfl) (by omega) (hqe) (by omega) (srt_desc hqnd) (by rw [contains_srt]; exact hx17)))) rfl rfl rfl ?_
 rintro _ _ ⟨rfl, rfl⟩
 skip
 refine G.stepD (OD.move rfl rfl) rfl rfl rfl ?_
 refine G.stepD (OD.extract rfl rfl rfl) rfl rfl rfl ?_
 refine G.stepD (OD.extract rfl rfl rfl) rfl rfl rfl ?_
 refine G.stepD (OD.assign rfl rfl) rfl rfl rfl ?_
 refine G.stepD (OD.assign rfl rfl) rfl rfl rfl ?_
 refine G.nil (GE.then_ (GC.seq (GC.seq (GC.region ?_))))
 refine G.stepD (OD.move rfl rfl) rfl rfl rfl ?_
 refine G.nil (GE.then_ (GC.condF rfl (GC.skip (GE.then_ (GC.seq (GC.region ?_))))))
 refine G.stepD (OD.move rfl rfl) rfl rfl rfl ?_
 refine G.stepD (OD.len rfl rfl et26 rfl (Ent.lst (i := 3) rfl)) rfl rfl rfl ?_
 refine G.stepD (OD.gtr rfl rfl rfl) rfl rfl rfl ?_
 refine G.nil (GE.then_ ?_)
 refine GC.cond rfl (fun hc18 => ?_) (fun hc18 => ?_)
 replace hc18 := of_decide_eq_true hc18
 exfalso; omega
 replace hc18 := of_decide_eq_false hc18
 refine GC.skip (GE.blockN (GE.then_ (GC.region ?_)))
 refine G.stepD (OD.move rfl rfl) rfl rfl rfl ?_
 refine G.stepD (OD.addI rfl rfl rfl (by omega)) rfl rfl rfl ?_
 refine G.stepD (OD.assign rfl rfl) rfl rfl rfl ?_
 refine G.nil ?_
 exact GE.again (i + 1, qs, uu, w, ls, y) (⟨by omega, fold_next hqs (oOne_no rfl hx17), hqwt, hqgl, hqnd, hqlen, hqau, hqal, hqll, hqpm, hqv, hqz⟩) (by first | omega | (dsimp only; omega)) ⟨rfl, rfl, rfl, rfl, rfl, trivial⟩ [1, 1, 1, 1, 1] 1 rfl
 refine G.step (OG.call [y, v15] ent66 rfl rfl rfl rfl (by exact (l6Insert_new hqz (Ent.len (Ent.lst (i := 3) rfl) (by omega)) (fun k hk => Ent.manyZip2 (i := 4) (j := 1) (k := k) rfl rfl hqpm ⟨by omega, hk⟩) (by omega) hqal hs14 (Ent.ints (i := 0) rfl) (by omega) (hqe) (by omega) (srt_desc hqnd) (by rw [contains_srt]; exact hx17)))) rfl rfl rfl ?_
 rintro _ _ ⟨v19, rfl, hs20, hs21, rfl⟩
 have hnl : (ls.take (insA (rfF cr cd (i : Int) (gs.getD k [])) (srtD qs)) ++ [v15] ++ ls.drop (insA (rfF cr cd (i : Int) (gs.getD k [])) (srtD qs))).length = qs.length + 1 := by have h1 := insA_le (rfF cr cd (i : Int) (gs.getD k [])) (srtD qs); simp only [List.length_append, List.length_take, List.length_drop, List.length_singleton]; omega
 refine G.stepD (OD.move rfl rfl) rfl rfl rfl ?_
 refine G.stepD (OD.extract rfl rfl rfl) rfl rfl rfl ?_
 refine G.stepD (OD.extract rfl rfl rfl) rfl rfl rfl ?_
 refine G.stepD (OD.assign rfl rfl) rfl rfl rfl ?_
 refine G.stepD (OD.assign rfl rfl) rfl rfl rfl ?_
 refine G.nil (GE.then_ (GC.seq (GC.seq (GC.region ?_))))
 refine G.stepD (OD.move rfl rfl) rfl rfl rfl ?_
 refine G.nil (GE.then_ (GC.condT rfl (GC.seq (GC.region ?_))))
 refine G.stepD (OD.move rfl rfl) rfl rfl rfl ?_
 refine G.stepD (OD.assign rfl rfl) rfl rfl rfl ?_
 refine G.nil (GE.then_ (GC.region ?_))
 refine G.stepD (OD.move rfl rfl) rfl rfl rfl ?_
 refine G.stepD (OD.move rfl rfl) rfl rfl rfl ?_
 refine G.step (OG.buildLst (xs := [.tmp 51]) (us := [v15]) rfl et26 rfl rfl rfl (allC (IsS.one hs14) rfl) rfl) rfl rfl rfl ?_
 rintro v22 _ ⟨hs23, rfl⟩
 refine G.step (OG.appendLst 4 rfl rfl et26 rfl rfl rfl (Ent.lst (i := 0) rfl) (List.all_eq_true.2 fun u hu => by simpa using (AllS.snoc AllS.nil hs14).one u hu) (by simp [maxLen] <;> omega)) rfl rfl rfl ?_
 rintro v24 _ ⟨hs25, rfl⟩
 refine G.stepD (OD.assign rfl rfl) rfl rfl rfl ?_
 refine G.nil (GE.then_ (GC.seq (GC.region ?_)))
 refine G.stepD (OD.move rfl rfl) rfl rfl rfl ?_
 refine G.stepD (OD.len rfl rfl et26 rfl (Ent.lst (i := 1) rfl)) rfl rfl rfl ?_
 refine G.stepD (OD.gtr rfl rfl rfl) rfl rfl rfl ?_
 refine G.nil (GE.then_ ?_)
 refine GC.cond rfl (fun hc26 => ?_) (fun hc26 => ?_)
 replace hc26 := of_decide_eq_true hc26
 rw [← oOne_yes rfl hx17] at hpo
 have hob := orB_long hpo (by rw [List.length_append, List.length_singleton]; omega)
 refine GC.seq (GC.region ?_)
 refine G.stepD (OD.assign rfl rfl) rfl rfl rfl ?_
 refine G.stepD (OD.assign rfl rfl) rfl rfl rfl ?_
 refine G.nil (GE.then_ (GC.ret (GE.blockR (GE.passR (GE.passR (GE.blockR (GE.blockR (GE.passR (GE.passR (GE.blockR (GE.passR ?_)))))))))))
 skip
 refine GE.many0 (ints 3) ?_
 refine GE.nilLst 22 ?_
 exact GE.body [0, 0] 8 (res2 rfl rfl rfl) rfl (⟨(.slice none 0 0), [], congrArg (fun (a1 : Bool) => (.tuple #[(.slice none 0 0), .bool (a1)] : Value)) ((by rw [hob] : (false : Bool) = orB cr cd x)), IsS.nil, AllS.nil, (by rw [orF, hob] <;> rfl), congrArg (fun (l0 : List (List Int)) => lst 22 (.slice none 0 0) [] :: many (ints 3) [] l0 :: own) ((by rw [orF, hob] <;> rfl : [] = orF cr cd x))⟩)
 replace hc26 := of_decide_eq_false hc26
 refine GC.skip (GE.blockN (GE.then_ (GC.region ?_)))
 refine G.stepD (OD.move rfl rfl) rfl rfl rfl ?_
 refine G.stepD (OD.addI rfl rfl rfl (by omega)) rfl rfl rfl ?_
 refine G.stepD (OD.assign rfl rfl) rfl rfl rfl ?_
 refine G.nil ?_
 refine GE.at [2, 2, 0, 0, 0, 0, 0, 0] 0 (env' := [(2, .pointer (some ⟨g1, 0, none⟩)), (8, .int .i64 ((k : Int))), (37, v15), (10, v15), (38, .agg #[.int .i64 (cr), vcd]), (39, v15), (40, .bool (wtOk cr (rfF cr cd (i : Int) (gs.getD k [])))), (41, .bool (!(wtOk cr (rfF cr cd (i : Int) (gs.getD k []))))), (43, y), (44, v15), (45, .tuple #[v19, .bool true]), (42, .tuple #[v19, .bool true]), (46, v19), (47, .bool true), (11, v19), (12, .bool true), (48, .bool true), (49, v19), (6, v19), (50, w), (51, v15), (52, v22), (53, v24), (7, v24), (54, v19), (55, .int .i64 (((ls.take (insA (rfF cr cd (i : Int) (gs.getD k [])) (srtD qs)) ++ [v15] ++ ls.drop (insA (rfF cr cd (i : Int) (gs.getD k [])) (srtD qs))).length : Nat))), (56, .bool (decide ((1200 : Int) < ((ls.take (insA (rfF cr cd (i : Int) (gs.getD k [])) (srtD qs)) ++ [v15] ++ ls.drop (insA (rfF cr cd (i : Int) (gs.getD k [])) (srtD qs))).length : Nat)))), (29, .int .i64 ((i : Int))), (30, .int .i64 ((i : Int) + 1)), (9, .int .i64 ((i : Int) + 1))]) ⟨rfl, rfl, rfl, rfl, rfl, rfl, rfl, rfl, rfl, rfl, rfl, rfl, rfl, rfl, rfl, rfl, rfl, rfl, rfl, rfl, rfl, rfl, rfl, rfl, rfl, rfl, rfl, rfl, rfl, rfl, trivial⟩ (own' := ints 3 v15 (rfF cr cd (i : Int) (gs.getD k [])) :: many (ints 3) uu qs :: lst 22 v22 [v15] :: lst 22 v19 (ls.take (insA (rfF cr cd (i : Int) (gs.getD k [])) (srtD qs)) ++ [v15] ++ ls.drop (insA (rfF cr cd (i : Int) (gs.getD k [])) (srtD qs))) :: lst 22 v24 (uu ++ [v15]) :: lst 22 y ls :: ints 3 v2 x :: box g1 28 [.int .i64 (cr), vcd] :: own) rfl ?_
 refine GE.manyPush (by omega) ?_
 exact GE.again (i + 1, qs ++ [rfF cr cd (i : Int) (gs.getD k [])], uu ++ [v15], v24, ls.take (insA (rfF cr cd (i : Int) (gs.getD k [])) (srtD qs)) ++ [v15] ++ ls.drop (insA (rfF cr cd (i : Int) (gs.getD k [])) (srtD qs)), v19) (⟨by omega, fold_next hqs (oOne_yes rfl hx17), fun z hz => (List.mem_append.1 hz).elim (hqwt z) (fun e => by rw [List.mem_singleton.1 e]; exact hwY), by rw [List.length_append, List.length_singleton]; omega, by rw [oOne_yes rfl hx17]; exact oOne_nod hqnd, by rw [List.length_append, List.length_append]; simp; omega, (hqau.snoc hs14), hs21, by rw [srt_len, hnl, List.length_append]; rfl, by rw [srtD_snoc]; exact zip2_new hqlen (by omega) hqll (insA_le _ _) hqpm, hs25, hs20⟩) (by first | omega | (dsimp only; omega)) ⟨rfl, rfl, rfl, rfl, rfl, trivial⟩ [0, 2, 1, 2, 2] 2 rfl
 replace hc11 := of_decide_eq_false hc11
 refine GC.exit (GE.pass (GE.pass (GE.hit (GE.blockN (GE.then_ (GC.region ?_))))))
 refine G.stepD (OD.move rfl rfl) rfl rfl rfl ?_
 refine G.stepD (OD.addI rfl rfl rfl (by omega)) rfl rfl rfl ?_
 refine G.stepD (OD.assign rfl rfl) rfl rfl rfl ?_
 refine G.nil ?_
 exact GE.again (k + 1, qs, uu, w, ls, y) (⟨by rw [hqs, show i = cr.toNat by omega]; exact (oC_go hkl hgl.2).symm.trans hoc, hqwt, hqgl, hqnd, hqlen, hqau, hqal, hqll, hqpm, hqv, hqz⟩) (by first | omega | (dsimp only; omega)) ⟨rfl, rfl, rfl, rfl, trivial⟩ [] 0 rfl
 replace hc10 := of_decide_eq_false hc10
 have hga : gs = oAll cr cd x := (oC_stop (fun hh => absurd hh.1 (by omega))).symm.trans hoc
 have hob := orB_yes hga hgl.2 hwt
 refine GC.exit (GE.pass (GE.pass (GE.hit (GE.then_ (GC.seq (GC.region ?_))))))
 refine G.stepD (OD.move rfl rfl) rfl rfl rfl ?_
 refine G.stepD (OD.assign rfl rfl) rfl rfl rfl ?_
 refine G.stepD (OD.assign rfl rfl) rfl rfl rfl ?_
 refine G.nil (GE.then_ (GC.ret ?_))
 refine GE.at [3, 0, 0, 0, 0] 0 (env' := [(2, .pointer (some ⟨g1, 0, none⟩)), (6, z), (7, v), (8, .int .i64 ((k : Int))), (19, .int .i64 ((k : Int))), (20, v), (21, .int .i64 ((ut.length : Nat))), (22, .bool (decide ((k : Int) < (ut.length : Nat)))), (57, z), (4, z), (5, .bool true)]) ⟨rfl, rfl, rfl, rfl, rfl, rfl, rfl, rfl, rfl, rfl, rfl, trivial⟩ (own' := ints 3 v2 x :: many (ints 3) ut gs :: lst 22 v ut :: lst 22 z lt :: box g1 28 [.int .i64 (cr), vcd] :: own) rfl ?_
 refine GE.manyPerm2 hpm ?_
 skip
 exact GE.body [2, 0] 2 (res2 rfl rfl rfl) rfl (⟨z, lt, congrArg (fun (a1 : Bool) => (.tuple #[z, .bool (a1)] : Value)) ((by rw [hob] : (true : Bool) = orB cr cd x)), hz, hal, (by rw [orF, if_pos hob, ← hga]; exact hll), congrArg (fun (l0 : List (List Int)) => lst 22 z lt :: many (ints 3) lt l0 :: own) ((by rw [orF, if_pos hob, ← hga] : srtD gs = orF cr cd x))⟩)
end Go.Proofs.YtmckgdekblphoaaGreatDoor
namespace Go.Proofs.YtmckgdekblphoaaGreatDoor
set_option linter.unusedVariables false
set_option linter.unusedSimpArgs false
open Go.RowKit
set_option maxHeartbeats 4000000 in
set_option maxRecDepth 100000 in
theorem orbit_w {W : World} {own : List Asn} {cr : Int} {vcd : Value} {cd : List Int} {vx : Value} {x : List Int}  (scd : IsS vcd) (ecd : Ent own fun w => Ints w vcd cd)   (sx : IsS vx) (ex : Ent own fun w => Ints w vx x)  (hcr : 1 ≤ cr ∧ cr ≤ 4) (hcd : (cd.length : Int) = cr * cr) (hx : (x.length : Int) = cr) (h64 : All64 x) (htab : Ent own Pow10) : Spec Tryz.prog 54 [.agg #[.int .i64 (cr), vcd], vx] W own (fun v ow => ∃ (r0 : Value) (u0 : List Value), v = r0 ∧ IsS r0 ∧ AllS u0 ∧ u0.length = (oAll cr cd x).length ∧ ow = lst 22 r0 u0 :: many (ints 3) u0 (oAll cr cd x) :: own) := by
 refine Spec.enter Tryz.f54 _ Tryz.func54 rfl (n := 54) rfl rfl ?_
 refine GC.seq (GC.region ?_)
 refine G.step (OG.box (cs := [.int .i64 (cr), vcd]) rfl rfl rfl) rfl rfl rfl ?_
 rintro _ _ ⟨g1, rfl, rfl⟩
 refine G.stepD (OD.assign rfl rfl) rfl rfl rfl ?_
 refine G.nil (GE.then_ (GC.seq (GC.region ?_)))
 refine G.step (OG.makeMap keyL valB rfl rfl) rfl rfl rfl ?_
 rintro _ _ ⟨g2, rfl, rfl⟩
 refine G.stepD (OD.move rfl rfl) rfl rfl rfl ?_
 refine G.step (OG.call [vx] ent74 rfl rfl rfl rfl (by exact (formatInts_w sx (Ent.drop 2 ex) (h64) (by omega) ((Ent.drop 2 htab))))) rfl rfl rfl ?_
 rintro _ _ ⟨rfl, rfl⟩
 refine G.stepD0 (OD.insertM (kE := keyL) (vE := valB) (l := []) (k := x) (b := true) rfl mt81.ht ke9keyL rfl rfl rfl (i := 0) rfl) rfl rfl ?_
 refine G.stepD (OD.move rfl rfl) rfl rfl rfl ?_
 refine G.stepD (OD.assign rfl rfl) rfl rfl rfl ?_
 refine G.nil (GE.then_ (GC.seq (GC.region ?_)))
 refine G.stepD (OD.move rfl rfl) rfl rfl rfl ?_
 refine G.step (OG.call [vx] ent47 rfl rfl rfl rfl (by exact (clone_w sx (Ent.drop 2 ex) (by omega)))) rfl rfl rfl ?_
 rintro v3 _ ⟨_, rfl, hs4, rfl⟩
 refine G.step (OG.buildLst (xs := [.tmp 15]) (us := [v3]) rfl et26 rfl rfl rfl (allC (IsS.one hs4) rfl) rfl) rfl rfl rfl ?_
 rintro v5 _ ⟨hs6, rfl⟩
 refine G.stepD (OD.assign rfl rfl) rfl rfl rfl ?_
 refine G.nil (GE.then_ (GC.seq (GC.seq (GC.region ?_))))
 refine G.stepD (OD.assign rfl rfl) rfl rfl rfl ?_
 refine G.nil (GE.then_ (GC.block ?_))
 refine GC.many0 (ints 3) ?_
 refine GC.at [2, 0, 0, 0, 0] 0 (env' := [(0, .agg #[.int .i64 (cr), vcd]), (1, vx), (2, .pointer (some ⟨g1, 0, none⟩)), (4, .slice none 0 0), (10, .map (some g2)), (11, vx), (12, .string (fmtB x)), (13, .map (some g2)), (5, .map (some g2)), (14, vx), (15, v3), (16, v5), (6, v5), (7, .int .i64 (0))]) ⟨rfl, rfl, rfl, rfl, rfl, rfl, rfl, rfl, rfl, rfl, rfl, rfl, rfl, rfl, trivial⟩ (own' := ints 3 v3 x :: many (ints 3) [] [] :: lst 22 v5 [v3] :: mapA keyL valB g2 (aup x true []) :: box g1 28 [.int .i64 (cr), vcd] :: own) rfl ?_
 refine GC.manyPush (A := ints 3) (vs := []) (xs := []) rfl ?_
 refine GC.ownEq (own' := many (ints 3) [v3] [x] :: lst 22 v5 [v3] :: mapA keyL valB g2 (aup x true []) :: box g1 28 [.int .i64 (cr), vcd] :: own) (rfl) ?_
 refine GC.loop (ι := Nat × List (List Int) × List Value × Value) (fun ⟨k, gs, us, v⟩ => [(2, .pointer (some ⟨g1, 0, none⟩)), (5, .map (some g2)), (6, v), (7, .int .i64 ((k : Int)))]) (fun ⟨k, gs, us, v⟩ => many (ints 3) us gs :: lst 22 v us :: mapA keyL valB g2 (seenT gs) :: box g1 28 [.int .i64 (cr), vcd] :: own) (fun ⟨k, gs, us, v⟩ => (oC cr cd (1300 - k) gs k = oAll cr cd x) ∧ (k ≤ 1200) ∧ (gs.length ≤ 1204) ∧ (∀ y ∈ gs, (y.length : Int) = cr) ∧ (∀ y ∈ gs, All64 y) ∧ (us.length = gs.length) ∧ (AllS us) ∧ (IsS v)) (fun ⟨k, gs, us, v⟩ => 1300 - k) (0, [x], [v3], v5) (⟨rfl, by omega, by simp, fun y hy => by rw [List.mem_singleton.1 hy]; exact hx, fun y hy => by rw [List.mem_singleton.1 hy]; exact h64, rfl, (AllS.snoc AllS.nil hs4), hs6⟩) ⟨rfl, rfl, rfl, rfl, trivial⟩ [] 0 rfl ?_
 rintro ⟨k, gs, us, v⟩ ⟨hoc, hkk, hgl, hge, hg6, hul, ha, hv⟩
 refine GC.seq (GC.seq (GC.region ?_))
 refine G.stepD (OD.move rfl rfl) rfl rfl rfl ?_
 refine G.stepD (OD.move rfl rfl) rfl rfl rfl ?_
 refine G.stepD (OD.len rfl rfl et26 rfl (Ent.lst (i := 1) rfl)) rfl rfl rfl ?_
 refine G.stepD (OD.lss rfl rfl rfl) rfl rfl rfl ?_
 refine G.stepD (OD.move rfl rfl) rfl rfl rfl ?_
 rcases Bool.eq_false_or_eq_true (decide ((k : Int) < (us.length : Nat))) with hg7 | hg7
 have hg7e := hg7
 refine G.at [] 0 (env' := [(2, .pointer (some ⟨g1, 0, none⟩)), (5, .map (some g2)), (6, v), (7, .int .i64 ((k : Int))), (17, .int .i64 ((k : Int))), (18, v), (19, .int .i64 ((us.length : Nat))), (20, .bool true), (21, .bool true)]) (⟨rfl, rfl, rfl, rfl, rfl, rfl, rfl, (congrArg (fun b => some (Value.bool b)) hg7e), (congrArg (fun b => some (Value.bool b)) hg7e), trivial⟩) rfl ?_
 replace hg7 := of_decide_eq_true hg7
 refine G.stepGD (OD.move rfl rfl) rfl rfl rfl rfl rfl ?_
 refine G.stepGD (OD.len rfl rfl et26 rfl (Ent.lst (i := 1) rfl)) rfl rfl rfl rfl rfl ?_
 refine G.stepGD (OD.leq rfl rfl rfl) rfl rfl rfl rfl rfl ?_
 refine G.stepD (OD.pickT rfl rfl rfl) rfl rfl rfl ?_
 refine G.nil (GE.then_ ?_)
 refine GC.cond rfl (fun hc8 => ?_) (fun hc8 => ?_)
 replace hc8 := of_decide_eq_true hc8
 have hgl2 : gs.length ≤ 1200 := by omega
 have hkl : k < gs.length := by omega
 have hgkw := hge _ (getD_mem hkl)
 have hgk6 := hg6 _ (getD_mem hkl)
 refine GC.skip (GE.then_ (GC.seq (GC.block (GC.seq (GC.region ?_)))))
 refine G.stepD (OD.fieldAddr rfl rfl fa28_0) rfl rfl rfl ?_
 refine G.stepD (OD.load rfl ti3 rfl (i := 3) rfl rfl) rfl rfl rfl ?_
 refine G.stepD (OD.move rfl rfl) rfl rfl rfl ?_
 refine G.nil (GE.then_ (GC.block ?_))
 refine GC.loop (ι := Nat × List (List Int) × List Value × Value) (fun ⟨i, qs, uu, w⟩ => [(2, .pointer (some ⟨g1, 0, none⟩)), (5, .map (some g2)), (7, .int .i64 ((k : Int))), (29, .int .i64 (cr)), (6, w), (30, .int .i64 ((i : Int)))]) (fun ⟨i, qs, uu, w⟩ => many (ints 3) uu qs :: lst 22 w uu :: mapA keyL valB g2 (seenT qs) :: box g1 28 [.int .i64 (cr), vcd] :: own) (fun ⟨i, qs, uu, w⟩ => (i ≤ cr.toNat) ∧ (qs = (List.range i).foldl (oOne cr cd (gs.getD k [])) gs) ∧ (qs.length ≤ 1200 + i) ∧ (∀ y ∈ qs, (y.length : Int) = cr) ∧ (∀ y ∈ qs, All64 y) ∧ (uu.length = qs.length) ∧ (AllS uu) ∧ (IsS w)) (fun ⟨i, qs, uu, w⟩ => cr.toNat - i) (0, gs, us, v) (⟨by omega, rfl, by omega, hge, hg6, hul, ha, hv⟩) ⟨rfl, rfl, rfl, rfl, rfl, rfl, trivial⟩ [] 0 rfl ?_
 rintro ⟨i, qs, uu, w⟩ ⟨hi, hqs, hql, hqe, hq6, hqlen, hqa, hw⟩
 obtain ⟨hpre, hpg⟩ := oC_in hoc hkl hgl2 hi hqs
 have hgk : qs.getD k [] = gs.getD k [] := hpg.get hkl
 have hql1 := hpg.len
 refine GC.seq (GC.region ?_)
 refine G.stepD (OD.lss rfl rfl rfl) rfl rfl rfl ?_
 refine G.nil (GE.then_ (GC.seq ?_))
 refine GC.cond rfl (fun hc9 => ?_) (fun hc9 => ?_)
 replace hc9 := of_decide_eq_true hc9
 have hYl : ((rfF cr cd (i : Int) (gs.getD k [])).length : Int) = cr := by rw [rfF_len]; exact hgkw
 have hY6 : All64 (rfF cr cd (i : Int) (gs.getD k [])) := rfF_all64 hgk6
 refine GC.skip (GE.then_ (GC.seq (GC.block (GC.seq (GC.region ?_)))))
 refine G.stepD (OD.move rfl rfl) rfl rfl rfl ?_
 refine G.stepD (OD.assign rfl rfl) rfl rfl rfl ?_
 refine G.nil (GE.then_ (GC.seq ?_))
 refine GC.at [] 0 (env' := [(2, .pointer (some ⟨g1, 0, none⟩)), (5, .map (some g2)), (7, .int .i64 ((k : Int))), (29, .int .i64 (cr)), (6, w), (30, .int .i64 ((i : Int))), (8, .int .i64 ((i : Int)))]) ⟨rfl, rfl, rfl, rfl, rfl, rfl, rfl, trivial⟩ rfl ?_
 refine GC.par (its := [⟨33, [], [], [], [], fun _ => .agg #[.int .i64 (cr), vcd], fun _ => True, fun _ => []⟩,
     ⟨34, [], [], [], [], fun _ => .int .i64 ((i : Int)), fun _ => True, fun _ => []⟩,
     ⟨35, [], [], [], [], fun _ => w, fun _ => True, fun _ => []⟩,
     ⟨36, [], [], [], [], fun _ => .int .i64 ((k : Int)), fun _ => True, fun _ => []⟩,
     ⟨37, [(2, 35), (3, 36)], [], [], [], fun _ => elemPtr w 1 (k), fun _ => True, fun _ => []⟩,
     ⟨38, [(4, 37)], [], [], [], fun _ => (uu.getD (k) undef), fun _ => True, fun _ => []⟩,
     ⟨39, [(0, 33), (1, 34), (5, 38)], [], [], [6], fun ds => ((ds.getD 0 []).getD 0 undef), fun ds => IsS ((ds.getD 0 []).getD 0 undef), fun ds => [ints 3 ((ds.getD 0 []).getD 0 undef) (rfF cr cd (i : Int) (qs.getD (k) []))]⟩]) (by kernel_rfl) (by kernel_rfl) (POps.cons ?_ (POps.cons ?_ (POps.cons ?_ (POps.cons ?_ (POps.cons ?_ (POps.cons ?_ (POps.cons ?_ POps.nil))))))) ?_
 intro θ R hd
 exact Opp.plain (OG.imp (OD.loadAgg rfl ti28 rfl (i := 3) rfl (us := [.int .i64 (cr), vcd]) rfl rfl) (by rintro _ _ ⟨rfl, rfl⟩; exact ⟨[], rfl, trivial, rfl⟩)) rfl
 intro θ R hd
 exact Opp.plain (OG.imp (OD.move rfl rfl) (by rintro _ _ ⟨rfl, rfl⟩; exact ⟨[], rfl, trivial, rfl⟩)) rfl
 intro θ R hd
 exact Opp.plain (OG.imp (OD.move rfl rfl) (by rintro _ _ ⟨rfl, rfl⟩; exact ⟨[], rfl, trivial, rfl⟩)) rfl
 intro θ R hd
 exact Opp.plain (OG.imp (OD.move rfl rfl) (by rintro _ _ ⟨rfl, rfl⟩; exact ⟨[], rfl, trivial, rfl⟩)) rfl
 intro θ R hd
 obtain ⟨h2d, h3d, _⟩ := hd
 exact Opp.plain (OG.imp (OD.indexAddr rfl et26 rfl (Ent.lst (i := 1) rfl) rfl (by omega)) (by rintro _ _ ⟨rfl, rfl⟩; exact ⟨[], rfl, trivial, rfl⟩)) rfl
 intro θ R hd
 obtain ⟨h4d, _⟩ := hd
 exact Opp.plain (OG.imp (OD.loadElem rfl ti22 rfl (Ent.lst (i := 1) rfl) (by omega) rfl) (by rintro _ _ ⟨rfl, rfl⟩; exact ⟨[], rfl, trivial, rfl⟩)) rfl
 intro θ R hd
 obtain ⟨h0d, h1d, h5d, _⟩ := hd
 exact Opp.plain (OG.imp (OG.call [.agg #[.int .i64 (cr), vcd], .int .i64 ((i : Int)), (uu.getD (k) undef)] ent91 rfl rfl rfl rfl (by exact (reflectWeight_w scd (Ent.drop 4 ecd.app) (hqa.get (by omega)) (Ent.manyInts (i := 0) rfl ⟨by first | omega | (simp; omega), by first | omega | (simp; omega)⟩) (hcr) (hcd) (by omega) (by rw [hgk]; exact hgkw)))) (by rintro v10 _ ⟨_, rfl, hs11, rfl⟩; exact ⟨[v10], rfl, hs11, rfl⟩)) rfl
 intro θ hall
 obtain ⟨_, _, _, _, _, _, h6a, _⟩ := hall
 refine G.at [] 0 (env' := [(2, .pointer (some ⟨g1, 0, none⟩)), (5, .map (some g2)), (7, .int .i64 ((k : Int))), (29, .int .i64 (cr)), (6, w), (30, .int .i64 ((i : Int))), (39, ((θ 6).getD 0 undef))]) ⟨rfl, rfl, rfl, rfl, rfl, rfl, rfl, trivial⟩ (own' := ints 3 ((θ 6).getD 0 undef) (rfF cr cd (i : Int) (qs.getD (k) [])) :: many (ints 3) uu qs :: lst 22 w uu :: mapA keyL valB g2 (seenT qs) :: box g1 28 [.int .i64 (cr), vcd] :: own) rfl ?_
 have hs12 : IsS ((θ 6).getD 0 undef) := h6a
 clear h6a
 generalize ((θ 6).getD 0 undef) = v13 at *
 show G _ _ _ [_] _ _ _ _
 refine G.stepD (OD.assign rfl rfl) rfl rfl rfl ?_
 refine G.nil (GE.then_ (GC.seq ?_))
 refine GC.ownEq (own' := ints 3 v13 (rfF cr cd (i : Int) (gs.getD k [])) :: many (ints 3) uu qs :: lst 22 w uu :: mapA keyL valB g2 (seenT qs) :: box g1 28 [.int .i64 (cr), vcd] :: own) (by rw [hgk]) ?_
 refine GC.region ?_
 refine G.stepD (OD.move rfl rfl) rfl rfl rfl ?_
 refine G.stepD (OD.move rfl rfl) rfl rfl rfl ?_
 refine G.step (OG.call [v13] ent74 rfl rfl rfl rfl (by exact (formatInts_w hs12 (Ent.ints (i := 0) rfl) (hY6) (by omega) ((Ent.drop 5 htab))))) rfl rfl rfl ?_
 rintro _ _ ⟨rfl, rfl⟩
 refine G.stepD (OD.eqv (OD.lookup (k := (rfF cr cd (i : Int) (gs.getD k []))) rfl mt81 ke9keyL rfl rfl (Ent.map (kE := keyL) (vE := valB) (l := seenT qs) (i := 3) rfl)) (congrArg (Value.bool) ((alu_seen _ _) : _ = (qs.contains (rfF cr cd (i : Int) (gs.getD k [])))))) rfl rfl rfl ?_
 refine G.stepD (OD.not rfl rfl) rfl rfl rfl ?_
 refine G.nil (GE.then_ ?_)
 refine GC.cond rfl (fun hc14 => ?_) (fun hc14 => ?_)
 replace hc14 := eq_false_of_not hc14
 refine GC.seq (GC.region ?_)
 refine G.stepD (OD.move rfl rfl) rfl rfl rfl ?_
 refine G.stepD (OD.move rfl rfl) rfl rfl rfl ?_
 refine G.step (OG.call [v13] ent74 rfl rfl rfl rfl (by exact (formatInts_w hs12 (Ent.ints (i := 0) rfl) (hY6) (by omega) ((Ent.drop 5 htab))))) rfl rfl rfl ?_
 rintro _ _ ⟨rfl, rfl⟩
 refine G.stepD0 (OD.mapUpdate (kE := keyL) (vE := valB) (l := seenT qs) (k := (rfF cr cd (i : Int) (gs.getD k []))) (b := true) rfl mt81.ht ke9keyL rfl rfl rfl (i := 3) rfl) rfl rfl ?_
 refine G.nil (GE.then_ (GC.region ?_))
 refine G.stepD (OD.move rfl rfl) rfl rfl rfl ?_
 refine G.stepD (OD.move rfl rfl) rfl rfl rfl ?_
 refine G.step (OG.buildLst (xs := [.tmp 49]) (us := [v13]) rfl et26 rfl rfl rfl (allC (IsS.one hs12) rfl) rfl) rfl rfl rfl ?_
 rintro v15 _ ⟨hs16, rfl⟩
 refine G.step (OG.appendLst 3 rfl rfl et26 rfl rfl rfl (Ent.lst (i := 0) rfl) (List.all_eq_true.2 fun u hu => by simpa using (AllS.snoc AllS.nil hs12).one u hu) (by simp [maxLen] <;> omega)) rfl rfl rfl ?_
 rintro v17 _ ⟨hs18, rfl⟩
 refine G.stepD (OD.assign rfl rfl) rfl rfl rfl ?_
 refine G.nil (GE.blockN (GE.then_ (GC.region ?_)))
 refine G.stepD (OD.addI rfl rfl rfl (by omega)) rfl rfl rfl ?_
 refine G.stepD (OD.move rfl rfl) rfl rfl rfl ?_
 refine G.nil ?_
 refine GE.at [1, 1, 0, 0, 0, 0] 0 (env' := [(2, .pointer (some ⟨g1, 0, none⟩)), (5, .map (some g2)), (7, .int .i64 ((k : Int))), (29, .int .i64 (cr)), (39, v13), (9, v13), (40, .map (some g2)), (41, v13), (42, .string (fmtB (rfF cr cd (i : Int) (gs.getD k [])))), (43, .bool (qs.contains (rfF cr cd (i : Int) (gs.getD k [])))), (44, .bool (!(qs.contains (rfF cr cd (i : Int) (gs.getD k []))))), (45, .map (some g2)), (46, v13), (47, .string (fmtB (rfF cr cd (i : Int) (gs.getD k [])))), (48, w), (49, v13), (50, v15), (51, v17), (6, v17), (52, .int .i64 ((i : Int) + 1)), (30, .int .i64 ((i : Int) + 1))]) ⟨rfl, rfl, rfl, rfl, rfl, rfl, rfl, rfl, rfl, rfl, rfl, rfl, rfl, rfl, rfl, rfl, rfl, rfl, rfl, rfl, rfl, trivial⟩ (own' := ints 3 v13 (rfF cr cd (i : Int) (gs.getD k [])) :: many (ints 3) uu qs :: lst 22 v15 [v13] :: lst 22 v17 (uu ++ [v13]) :: mapA keyL valB g2 (aup (rfF cr cd (i : Int) (gs.getD k [])) true (seenT qs)) :: box g1 28 [.int .i64 (cr), vcd] :: own) rfl ?_
 refine GE.manyPush (by omega) ?_
 refine GE.ownEq (own' := many (ints 3) (uu ++ [v13]) (qs ++ [rfF cr cd (i : Int) (gs.getD k [])]) :: lst 22 v15 [v13] :: lst 22 v17 (uu ++ [v13]) :: mapA keyL valB g2 (seenT (qs ++ [rfF cr cd (i : Int) (gs.getD k [])])) :: box g1 28 [.int .i64 (cr), vcd] :: own) (by rw [aup_seen hc14] <;> rfl) ?_
 exact GE.again (i + 1, qs ++ [rfF cr cd (i : Int) (gs.getD k [])], uu ++ [v13], v17) (⟨by omega, fold_next hqs (oOne_yes rfl hc14), by rw [List.length_append, List.length_singleton]; omega, fun z hz => (List.mem_append.1 hz).elim (hqe z) (fun e => by rw [List.mem_singleton.1 e]; exact hYl), fun z hz => (List.mem_append.1 hz).elim (hq6 z) (fun e => by rw [List.mem_singleton.1 e]; exact hY6), by rw [List.length_append, List.length_append]; simp; omega, (hqa.snoc hs12), hs18⟩) (by first | omega | (dsimp only; omega)) ⟨rfl, rfl, rfl, rfl, rfl, rfl, trivial⟩ [0, 1, 1, 1] 1 rfl
 replace hc14 := eq_true_of_not hc14
 refine GC.skip (GE.blockN (GE.then_ (GC.region ?_)))
 refine G.stepD (OD.addI rfl rfl rfl (by omega)) rfl rfl rfl ?_
 refine G.stepD (OD.move rfl rfl) rfl rfl rfl ?_
 refine G.nil ?_
 exact GE.again (i + 1, qs, uu, w) (⟨by omega, fold_next hqs (oOne_no rfl hc14), by omega, hqe, hq6, hqlen, hqa, hw⟩) (by first | omega | (dsimp only; omega)) ⟨rfl, rfl, rfl, rfl, rfl, rfl, trivial⟩ [1, 1, 1, 1] 1 rfl
 replace hc9 := of_decide_eq_false hc9
 refine GC.exit (GE.pass (GE.pass (GE.hit (GE.blockN (GE.then_ (GC.region ?_))))))
 refine G.stepD (OD.move rfl rfl) rfl rfl rfl ?_
 refine G.stepD (OD.addI rfl rfl rfl (by omega)) rfl rfl rfl ?_
 refine G.stepD (OD.assign rfl rfl) rfl rfl rfl ?_
 refine G.nil ?_
 exact GE.again (k + 1, qs, uu, w) (⟨by rw [hqs, show i = cr.toNat by omega]; exact (oC_go hkl hgl2).symm.trans hoc, by omega, by omega, hqe, hq6, hqlen, hqa, hw⟩) (by first | omega | (dsimp only; omega)) ⟨rfl, rfl, rfl, rfl, trivial⟩ [] 0 rfl
 replace hc8 := of_decide_eq_false hc8
 have hga : gs = oAll cr cd x := (oC_stop (fun hh => absurd hh.2 (by omega))).symm.trans hoc
 refine GC.exit (GE.pass (GE.pass (GE.hit (GE.then_ (GC.seq (GC.region ?_))))))
 refine G.stepD (OD.move rfl rfl) rfl rfl rfl ?_
 refine G.stepD (OD.assign rfl rfl) rfl rfl rfl ?_
 refine G.nil (GE.then_ (GC.ret ?_))
 exact GE.body [1, 0] 2 (res1 rfl rfl) rfl (⟨v, us, rfl, hv, ha, (by rw [← hga]; exact hul), congrArg (fun (l0 : List (List Int)) => lst 22 v us :: many (ints 3) us l0 :: own) ((hga : gs = oAll cr cd x))⟩)
 have hg7e := hg7
 refine G.at [] 0 (env' := [(2, .pointer (some ⟨g1, 0, none⟩)), (5, .map (some g2)), (6, v), (7, .int .i64 ((k : Int))), (17, .int .i64 ((k : Int))), (18, v), (19, .int .i64 ((us.length : Nat))), (20, .bool false), (21, .bool false)]) (⟨rfl, rfl, rfl, rfl, rfl, rfl, rfl, (congrArg (fun b => some (Value.bool b)) hg7e), (congrArg (fun b => some (Value.bool b)) hg7e), trivial⟩) rfl ?_
 replace hg7 := of_decide_eq_false hg7
 refine G.skipG rfl rfl rfl rfl rfl rfl (G.skipG rfl rfl rfl rfl rfl rfl (G.skipG rfl rfl rfl rfl rfl rfl ?_))
 refine G.stepD (OD.pickF rfl rfl rfl) rfl rfl rfl ?_
 refine G.nil (GE.then_ (GC.condF rfl ?_))
 have hga : gs = oAll cr cd x := (oC_stop (fun hh => absurd hh.1 (by omega))).symm.trans hoc
 refine GC.exit (GE.pass (GE.pass (GE.hit (GE.then_ (GC.seq (GC.region ?_))))))
 refine G.stepD (OD.move rfl rfl) rfl rfl rfl ?_
 refine G.stepD (OD.assign rfl rfl) rfl rfl rfl ?_
 refine G.nil (GE.then_ (GC.ret ?_))
 exact GE.body [1, 0] 2 (res1 rfl rfl) rfl (⟨v, us, rfl, hv, ha, (by rw [← hga]; exact hul), congrArg (fun (l0 : List (List Int)) => lst 22 v us :: many (ints 3) us l0 :: own) ((hga : gs = oAll cr cd x))⟩)
end Go.Proofs.YtmckgdekblphoaaGreatDoor
namespace Go.Proofs.YtmckgdekblphoaaGreatDoor
set_option linter.unusedVariables false
set_option linter.unusedSimpArgs false
open Go.RowKit
set_option maxRecDepth 100000 in
theorem orbitBad_w {W : World} {own : List Asn} {vy : Value} {y : List Int} {gc : Nat} {cr : Int} {vcd : Value} {cd : List Int}  (sy : IsS vy) (ey : Ent own fun w => Ints w vy y)   (scd : IsS vcd) (ecd : Ent own fun w => Ints w vcd cd)  (hl : y.length ≤ 1073741824) : Spec Tryz.prog 56 [vy, .pointer (some ⟨gc, 0, none⟩)] W (box gc 28 [.int .i64 (cr), vcd] :: own) (fun v ow => v = .bool (!(wtOk cr y)) ∧ ow = box gc 28 [.int .i64 (cr), vcd] :: own) := by
 refine Spec.enter Tryz.f56 _ Tryz.func56 rfl (n := 8) rfl rfl ?_
 refine GC.seq (GC.region ?_)
 refine G.stepD (OD.assign rfl rfl) rfl rfl rfl ?_
 refine G.nil (GE.then_ (GC.seq (GC.region ?_)))
 refine G.stepD (OD.loadAgg rfl ti28 rfl (i := 0) rfl (us := [.int .i64 (cr), vcd]) rfl rfl) rfl rfl rfl ?_
 refine G.stepD (OD.move rfl rfl) rfl rfl rfl ?_
 refine G.step (OG.call [.agg #[.int .i64 (cr), vcd], vy] ent50 rfl rfl rfl rfl (by exact (isWeight_w scd (Ent.drop 1 ecd) sy (Ent.drop 1 ey) (by omega)))) rfl rfl rfl ?_
 rintro _ _ ⟨rfl, rfl⟩
 refine G.stepD (OD.not rfl rfl) rfl rfl rfl ?_
 refine G.stepD (OD.assign rfl rfl) rfl rfl rfl ?_
 refine G.nil (GE.then_ (GC.ret ?_))
 exact GE.body [] 0 (res1 rfl rfl) rfl (⟨rfl, rfl⟩)
set_option maxRecDepth 100000 in
theorem indexFuncO_w {W : World} {own : List Asn} {vx : Value} {ux : List Value} {x : List (List Int)} {gc : Nat} {cr : Int} {vcd : Value} {cd : List Int}  (sx : IsS vx) (ex : Ent own fun w => Sl w vx x.length 1 ux) (mx : ∀ k, k < x.length → Ent own fun w => Ints w (ux.getD k undef) (x.getD k [])) (lx : ux.length = x.length) (ax : AllS ux)   (scd : IsS vcd) (ecd : Ent own fun w => Ints w vcd cd)  (hll : x.length ≤ 1073741824) (hle : ∀ k, k < x.length → (x.getD k []).length ≤ 1073741824) : Spec Tryz.prog 92 [vx, .func (.func 56) #[] #[.pointer (some ⟨gc, 0, none⟩)]] W (box gc 28 [.int .i64 (cr), vcd] :: own) (fun v ow => v = .int .i64 (posF (fun (y : List Int) => !(wtOk cr y)) x) ∧ ow = box gc 28 [.int .i64 (cr), vcd] :: own) := by
 refine Spec.enter Tryz.f92 _ Tryz.func92 rfl (n := 19) rfl rfl ?_
 refine GC.seq (GC.region ?_)
 refine G.stepD (OD.assign rfl rfl) rfl rfl rfl ?_
 refine G.nil (GE.then_ (GC.seq (GC.seq (GC.region ?_))))
 refine G.stepD (OD.move rfl rfl) rfl rfl rfl ?_
 refine G.stepD (OD.len rfl rfl et26 rfl (Ent.drop 1 ex)) rfl rfl rfl ?_
 refine G.stepD (OD.move rfl rfl) rfl rfl rfl ?_
 refine G.nil (GE.then_ (GC.block ?_))
 refine GC.loop (ι := Nat) (fun k => [(0, vx), (1, .func (.func 56) #[] #[.pointer (some ⟨gc, 0, none⟩)]), (7, .int .i64 ((x.length : Nat))), (8, .int .i64 ((k : Int)))]) (fun k => box gc 28 [.int .i64 (cr), vcd] :: own) (fun k => (k ≤ x.length) ∧ ((x.take k).any (fun (y : List Int) => !(wtOk cr y)) = false)) (fun k => x.length - k) 0 (⟨by omega, by simp⟩) ⟨rfl, rfl, rfl, rfl, trivial⟩ [] 0 rfl ?_
 rintro k ⟨hk, ht⟩
 refine GC.seq (GC.region ?_)
 refine G.stepD (OD.lss rfl rfl rfl) rfl rfl rfl ?_
 refine G.nil (GE.then_ (GC.seq ?_))
 refine GC.cond rfl (fun hc1 => ?_) (fun hc1 => ?_)
 replace hc1 := of_decide_eq_true hc1
 refine GC.skip (GE.then_ (GC.seq (GC.block (GC.seq (GC.region ?_)))))
 refine G.stepD (OD.move rfl rfl) rfl rfl rfl ?_
 refine G.stepD (OD.assign rfl rfl) rfl rfl rfl ?_
 refine G.nil (GE.then_ (GC.seq (GC.region ?_)))
 refine G.stepD (OD.move rfl rfl) rfl rfl rfl ?_
 refine G.stepD (OD.move rfl rfl) rfl rfl rfl ?_
 refine G.stepD (OD.move rfl rfl) rfl rfl rfl ?_
 refine G.stepD (OD.indexAddr rfl et26 rfl (Ent.drop 1 ex) rfl (by omega)) rfl rfl rfl ?_
 refine G.stepD (OD.loadElem rfl ti22 rfl (Ent.drop 1 ex) (by omega) rfl) rfl rfl rfl ?_
 refine G.step (OG.call [(ux.getD (k) undef), .pointer (some ⟨gc, 0, none⟩)] ent56 rfl rfl rfl rfl (by exact (orbitBad_w (ax.get (by omega)) ((mx (k) (by omega))) scd ecd (hle k (by omega))))) rfl rfl rfl ?_
 rintro _ _ ⟨rfl, rfl⟩
 refine G.nil (GE.then_ ?_)
 refine GC.cond rfl (fun hc2 => ?_) (fun hc2 => ?_)
 replace hc2 := eq_false_of_not hc2
 have hc2b : (fun (y : List Int) => !(wtOk cr y)) (x.getD k []) = true := by show (!(wtOk _ _)) = true; rw [hc2]; rfl
 refine GC.seq (GC.region ?_)
 refine G.stepD (OD.move rfl rfl) rfl rfl rfl ?_
 refine G.stepD (OD.assign rfl rfl) rfl rfl rfl ?_
 refine G.nil (GE.then_ (GC.ret (GE.blockR (GE.passR (GE.passR (GE.blockR (GE.passR ?_)))))))
 exact GE.body [] 0 (res1 rfl rfl) rfl (⟨congrArg (fun (a0 : Int) => (.int .i64 (a0) : Value)) (((posF_at (d := []) (by omega) ht (by assumption)).symm : ((k : Int) : Int) = posF (fun (y : List Int) => !(wtOk cr y)) x)), rfl⟩)
 replace hc2 := eq_true_of_not hc2
 have hc2b : (fun (y : List Int) => !(wtOk cr y)) (x.getD k []) = false := by show (!(wtOk _ _)) = false; rw [hc2]; rfl
 refine GC.skip (GE.blockN (GE.then_ (GC.region ?_)))
 refine G.stepD (OD.addI rfl rfl rfl (by omega)) rfl rfl rfl ?_
 refine G.stepD (OD.move rfl rfl) rfl rfl rfl ?_
 refine G.nil ?_
 exact GE.again (k + 1) (⟨by omega, any_take_succ (d := []) (by omega) ht (by assumption)⟩) (by first | omega | (dsimp only; omega)) ⟨rfl, rfl, rfl, rfl, trivial⟩ [] 0 rfl
 replace hc1 := of_decide_eq_false hc1
 refine GC.exit (GE.pass (GE.pass (GE.hit (GE.then_ (GC.seq (GC.region ?_))))))
 refine G.stepD (OD.assign rfl rfl) rfl rfl rfl ?_
 refine G.nil (GE.then_ (GC.ret ?_))
 exact GE.body [] 0 (res1 rfl rfl) rfl (⟨congrArg (fun (a0 : Int) => (.int .i64 (a0) : Value)) (((posF_none (any_take_all (by omega) ht)).symm : (-1 : Int) = posF (fun (y : List Int) => !(wtOk cr y)) x)), rfl⟩)
set_option maxRecDepth 100000 in
theorem containsFuncO_w {W : World} {own : List Asn} {vx : Value} {ux : List Value} {x : List (List Int)} {gc : Nat} {cr : Int} {vcd : Value} {cd : List Int}  (sx : IsS vx) (ex : Ent own fun w => Sl w vx x.length 1 ux) (mx : ∀ k, k < x.length → Ent own fun w => Ints w (ux.getD k undef) (x.getD k [])) (lx : ux.length = x.length) (ax : AllS ux)   (scd : IsS vcd) (ecd : Ent own fun w => Ints w vcd cd)  (hll : x.length ≤ 1073741824) (hle : ∀ k, k < x.length → (x.getD k []).length ≤ 1073741824) : Spec Tryz.prog 55 [vx, .func (.func 56) #[] #[.pointer (some ⟨gc, 0, none⟩)]] W (box gc 28 [.int .i64 (cr), vcd] :: own) (fun v ow => v = .bool (x.any (fun (y : List Int) => !(wtOk cr y))) ∧ ow = box gc 28 [.int .i64 (cr), vcd] :: own) := by
 refine Spec.enter Tryz.f55 _ Tryz.func55 rfl (n := 9) rfl rfl ?_
 refine GC.seq (GC.region ?_)
 refine G.stepD (OD.assign rfl rfl) rfl rfl rfl ?_
 refine G.nil (GE.then_ (GC.seq (GC.region ?_)))
 refine G.stepD (OD.move rfl rfl) rfl rfl rfl ?_
 refine G.stepD (OD.move rfl rfl) rfl rfl rfl ?_
 refine G.step (OG.call [vx, .func (.func 56) #[] #[.pointer (some ⟨gc, 0, none⟩)]] ent92 rfl rfl rfl rfl (by exact (indexFuncO_w sx ex (fun k hk => ((mx k hk))) lx ax scd ecd (hll) (hle)))) rfl rfl rfl ?_
 rintro _ _ ⟨rfl, rfl⟩
 refine G.stepD (OD.geq rfl rfl rfl) rfl rfl rfl ?_
 refine G.stepD (OD.assign rfl rfl) rfl rfl rfl ?_
 refine G.nil (GE.then_ (GC.ret ?_))
 exact GE.body [] 0 (res1 rfl rfl) rfl (⟨congrArg (fun (a0 : Bool) => (.bool (a0) : Value)) ((posF_ge : (decide (0 ≤ posF (fun (y : List Int) => !(wtOk cr y)) x) : Bool) = x.any (fun (y : List Int) => !(wtOk cr y)))), rfl⟩)
set_option maxRecDepth 100000 in
theorem specOrbitOf_w {W : World} {own : List Asn} {cr : Int} {vcd : Value} {cd : List Int} {vx : Value} {x : List Int}  (scd : IsS vcd) (ecd : Ent own fun w => Ints w vcd cd)   (sx : IsS vx) (ex : Ent own fun w => Ints w vx x)  (hl0 : cd.length ≤ 1073741824) (hl : x.length ≤ 1073741824) : Spec Tryz.prog 26 [.agg #[.int .i64 (cr), vcd], vx] W own (fun v ow => ∃ (r0 : Value) (u0 : List Value), v = r0 ∧ IsS r0 ∧ AllS u0 ∧ u0.length = (orOf cr cd x).length ∧ ow = lst 22 r0 u0 :: many (ints 3) u0 (orOf cr cd x) :: own) := by
 refine Spec.enter Tryz.f26 _ Tryz.func26 rfl (n := 23) rfl rfl ?_
 refine GC.seq (GC.region ?_)
 refine G.step (OG.box (cs := [.int .i64 (cr), vcd]) rfl rfl rfl) rfl rfl rfl ?_
 rintro _ _ ⟨g1, rfl, rfl⟩
 refine G.stepD (OD.assign rfl rfl) rfl rfl rfl ?_
 refine G.nil (GE.then_ (GC.seq (GC.seq (GC.region ?_))))
 refine G.stepD (OD.loadAgg rfl ti28 rfl (i := 0) rfl (us := [.int .i64 (cr), vcd]) rfl rfl) rfl rfl rfl ?_
 refine G.step (OG.call [.agg #[.int .i64 (cr), vcd]] ent36 rfl rfl rfl rfl (by exact (specIsCartan_w scd (Ent.drop 1 ecd) (hl0)))) rfl rfl rfl ?_
 rintro _ _ ⟨rfl, rfl⟩
 refine G.stepD (OD.not rfl rfl) rfl rfl rfl ?_
 refine G.stepD (OD.move rfl rfl) rfl rfl rfl ?_
 rcases Bool.eq_false_or_eq_true (!((tyS cr cd).isSome)) with hg2 | hg2
 have hg2e := hg2
 refine G.at [] 0 (env' := [(0, .agg #[.int .i64 (cr), vcd]), (1, vx), (2, .pointer (some ⟨g1, 0, none⟩)), (4, .slice none 0 0), (7, .agg #[.int .i64 (cr), vcd]), (8, .bool ((tyS cr cd).isSome)), (9, .bool true), (10, .bool true)]) (⟨rfl, rfl, rfl, rfl, rfl, rfl, (congrArg (fun b => some (Value.bool b)) hg2e), (congrArg (fun b => some (Value.bool b)) hg2e), trivial⟩) rfl ?_
 replace hg2 := eq_false_of_not hg2
 refine G.skipG rfl rfl rfl rfl rfl rfl (G.skipG rfl rfl rfl rfl rfl rfl (G.skipG rfl rfl rfl rfl rfl rfl (G.skipG rfl rfl rfl rfl rfl rfl ?_)))
 refine G.stepD (OD.pickT rfl rfl rfl) rfl rfl rfl ?_
 refine G.nil (GE.then_ (GC.condT rfl (GC.seq (GC.region ?_))))
 refine G.stepD (OD.assign rfl rfl) rfl rfl rfl ?_
 refine G.nil (GE.then_ (GC.ret (GE.passR ?_)))
 refine GE.many0 (ints 3) ?_
 refine GE.nilLst 22 ?_
 exact GE.body [0, 0] 1 (res1 rfl rfl) rfl (⟨(.slice none 0 0), [], rfl, IsS.nil, AllS.nil, (by rw [orOf, hg2] <;> rfl), congrArg (fun (l0 : List (List Int)) => lst 22 (.slice none 0 0) [] :: many (ints 3) [] l0 :: own) ((by rw [orOf, hg2] <;> rfl : [] = orOf cr cd x))⟩)
 have hg2e := hg2
 refine G.at [] 0 (env' := [(0, .agg #[.int .i64 (cr), vcd]), (1, vx), (2, .pointer (some ⟨g1, 0, none⟩)), (4, .slice none 0 0), (7, .agg #[.int .i64 (cr), vcd]), (8, .bool ((tyS cr cd).isSome)), (9, .bool false), (10, .bool false)]) (⟨rfl, rfl, rfl, rfl, rfl, rfl, (congrArg (fun b => some (Value.bool b)) hg2e), (congrArg (fun b => some (Value.bool b)) hg2e), trivial⟩) rfl ?_
 replace hg2 := eq_true_of_not hg2
 refine G.stepGD (OD.loadAgg rfl ti28 rfl (i := 0) rfl (us := [.int .i64 (cr), vcd]) rfl rfl) rfl rfl rfl rfl rfl ?_
 refine G.stepGD (OD.move rfl rfl) rfl rfl rfl rfl rfl ?_
 refine G.stepG (OG.call [.agg #[.int .i64 (cr), vcd], vx] ent48 rfl rfl rfl rfl (by exact (l5Lattice_w scd (Ent.drop 1 ecd) sx (Ent.drop 1 ex) (by omega)))) rfl rfl rfl rfl rfl ?_
 rintro _ _ ⟨rfl, rfl⟩
 refine G.stepGD (OD.not rfl rfl) rfl rfl rfl rfl rfl ?_
 refine G.stepD (OD.pickF rfl rfl rfl) rfl rfl rfl ?_
 refine G.nil (GE.then_ ?_)
 refine GC.cond rfl (fun hc3 => ?_) (fun hc3 => ?_)
 replace hc3 := eq_false_of_not hc3
 refine GC.seq (GC.region ?_)
 refine G.stepD (OD.assign rfl rfl) rfl rfl rfl ?_
 refine G.nil (GE.then_ (GC.ret (GE.passR ?_)))
 refine GE.many0 (ints 3) ?_
 refine GE.nilLst 22 ?_
 exact GE.body [0, 0] 1 (res1 rfl rfl) rfl (⟨(.slice none 0 0), [], rfl, IsS.nil, AllS.nil, (by rw [orOf, hg2, hc3] <;> rfl), congrArg (fun (l0 : List (List Int)) => lst 22 (.slice none 0 0) [] :: many (ints 3) [] l0 :: own) ((by rw [orOf, hg2, hc3] <;> rfl : [] = orOf cr cd x))⟩)
 replace hc3 := eq_true_of_not hc3
 have hS := hg2
 have hwx := hc3
 have hcr4 := (tyS_ok hS).1
 have hxl := wtOk_len hwx
 have hoe : ∀ y ∈ oAll cr cd x, y.length ≤ 4 := fun y hy => by have h1 := oAll_ent hy; omega
 have hol := oAll_len cr cd x
 have ho1 : 0 < (oAll cr cd x).length := by have h1 := (oC_pre (n := cr) (d := cd) (f := 1300) (L := [x]) (k := 0)).len; exact h1
 refine GC.skip (GE.then_ (GC.seq (GC.region ?_)))
 refine G.stepD (OD.loadAgg rfl ti28 rfl (i := 0) rfl (us := [.int .i64 (cr), vcd]) rfl rfl) rfl rfl rfl ?_
 refine G.stepD (OD.move rfl rfl) rfl rfl rfl ?_
 refine G.step (OG.call [.agg #[.int .i64 (cr), vcd], vx] ent53 rfl rfl rfl rfl (by exact (l6Orbit_w scd (Ent.drop 1 ecd) sx (Ent.drop 1 ex) ((tyS_ok hS).1) ((tyS_ok hS).2) (hwx)))) rfl rfl rfl ?_
 rintro _ _ ⟨v4, u5, rfl, hs6, hs7, hs8, rfl⟩
 refine G.stepD (OD.move rfl rfl) rfl rfl rfl ?_
 refine G.stepD (OD.extract rfl rfl rfl) rfl rfl rfl ?_
 refine G.stepD (OD.extract rfl rfl rfl) rfl rfl rfl ?_
 refine G.stepD (OD.assign rfl rfl) rfl rfl rfl ?_
 refine G.stepD (OD.assign rfl rfl) rfl rfl rfl ?_
 refine G.nil (GE.then_ (GC.seq (GC.region ?_)))
 refine G.stepD (OD.move rfl rfl) rfl rfl rfl ?_
 refine G.stepD (OD.assign rfl rfl) rfl rfl rfl ?_
 refine G.nil (GE.then_ (GC.ret ?_))
 exact GE.body [0, 0] 1 (res1 rfl rfl) rfl (⟨v4, u5, rfl, hs6, hs7, (by first | (rw [orOf, hS, hwx]; assumption) | (show _ = (if _ then _ else _).length; rw [hS, hwx]; assumption)), congrArg (fun (l0 : List (List Int)) => lst 22 v4 u5 :: many (ints 3) u5 l0 :: own) ((by rw [orOf, hS, hwx] <;> rfl : orF cr cd x = orOf cr cd x))⟩)
set_option maxRecDepth 100000 in
theorem orbitOf_w {W : World} {own : List Asn} {cr : Int} {vcd : Value} {cd : List Int} {vx : Value} {x : List Int}  (scd : IsS vcd) (ecd : Ent own fun w => Ints w vcd cd)   (sx : IsS vx) (ex : Ent own fun w => Ints w vx x)  (hl0 : cd.length ≤ 1073741824) (hl : x.length ≤ 1073741824) (h64 : All64 x) (hg : Ent own fun w => ∃ m, w.cell? ⟨Tryz.l146_ren.g 1, 0, none⟩ = some (.int .i64 m)) (htab : Ent own Pow10) : Spec Tryz.prog 27 [.agg #[.int .i64 (cr), vcd], vx] W own (fun v ow => ∃ (r0 : Value) (u0 : List Value), v = r0 ∧ IsS r0 ∧ AllS u0 ∧ u0.length = (orOf cr cd x).length ∧ ow = lst 22 r0 u0 :: many (ints 3) u0 (orOf cr cd x) :: own) := by
 refine Spec.enter Tryz.f27 _ Tryz.func27 rfl (n := 29) rfl rfl ?_
 refine GC.seq (GC.region ?_)
 refine G.step (OG.box (cs := [.int .i64 (cr), vcd]) rfl rfl rfl) rfl rfl rfl ?_
 rintro _ _ ⟨g1, rfl, rfl⟩
 refine G.stepD (OD.assign rfl rfl) rfl rfl rfl ?_
 refine G.nil (GE.then_ (GC.seq (GC.seq (GC.region ?_))))
 refine G.stepD (OD.loadAgg rfl ti28 rfl (i := 0) rfl (us := [.int .i64 (cr), vcd]) rfl rfl) rfl rfl rfl ?_
 refine G.step (OG.call [.agg #[.int .i64 (cr), vcd]] ent38 rfl rfl rfl rfl (by exact (isCartan_w scd (Ent.drop 1 ecd) (hl0) ((Ent.drop 1 hg))))) rfl rfl rfl ?_
 rintro _ _ ⟨rfl, rfl⟩
 refine G.stepD (OD.not rfl rfl) rfl rfl rfl ?_
 refine G.stepD (OD.move rfl rfl) rfl rfl rfl ?_
 rcases Bool.eq_false_or_eq_true (!((tyS cr cd).isSome)) with hg2 | hg2
 have hg2e := hg2
 refine G.at [] 0 (env' := [(0, .agg #[.int .i64 (cr), vcd]), (1, vx), (2, .pointer (some ⟨g1, 0, none⟩)), (4, .slice none 0 0), (6, .agg #[.int .i64 (cr), vcd]), (7, .bool ((tyS cr cd).isSome)), (8, .bool true), (9, .bool true)]) (⟨rfl, rfl, rfl, rfl, rfl, rfl, (congrArg (fun b => some (Value.bool b)) hg2e), (congrArg (fun b => some (Value.bool b)) hg2e), trivial⟩) rfl ?_
 replace hg2 := eq_false_of_not hg2
 refine G.skipG rfl rfl rfl rfl rfl rfl (G.skipG rfl rfl rfl rfl rfl rfl (G.skipG rfl rfl rfl rfl rfl rfl (G.skipG rfl rfl rfl rfl rfl rfl ?_)))
 refine G.stepD (OD.pickT rfl rfl rfl) rfl rfl rfl ?_
 refine G.nil (GE.then_ (GC.condT rfl (GC.seq (GC.region ?_))))
 refine G.stepD (OD.assign rfl rfl) rfl rfl rfl ?_
 refine G.nil (GE.then_ (GC.ret (GE.passR ?_)))
 refine GE.many0 (ints 3) ?_
 refine GE.nilLst 22 ?_
 exact GE.body [0, 0] 1 (res1 rfl rfl) rfl (⟨(.slice none 0 0), [], rfl, IsS.nil, AllS.nil, (by rw [orOf, hg2] <;> rfl), congrArg (fun (l0 : List (List Int)) => lst 22 (.slice none 0 0) [] :: many (ints 3) [] l0 :: own) ((by rw [orOf, hg2] <;> rfl : [] = orOf cr cd x))⟩)
 have hg2e := hg2
 refine G.at [] 0 (env' := [(0, .agg #[.int .i64 (cr), vcd]), (1, vx), (2, .pointer (some ⟨g1, 0, none⟩)), (4, .slice none 0 0), (6, .agg #[.int .i64 (cr), vcd]), (7, .bool ((tyS cr cd).isSome)), (8, .bool false), (9, .bool false)]) (⟨rfl, rfl, rfl, rfl, rfl, rfl, (congrArg (fun b => some (Value.bool b)) hg2e), (congrArg (fun b => some (Value.bool b)) hg2e), trivial⟩) rfl ?_
 replace hg2 := eq_true_of_not hg2
 refine G.stepGD (OD.loadAgg rfl ti28 rfl (i := 0) rfl (us := [.int .i64 (cr), vcd]) rfl rfl) rfl rfl rfl rfl rfl ?_
 refine G.stepGD (OD.move rfl rfl) rfl rfl rfl rfl rfl ?_
 refine G.stepG (OG.call [.agg #[.int .i64 (cr), vcd], vx] ent50 rfl rfl rfl rfl (by exact (isWeight_w scd (Ent.drop 1 ecd) sx (Ent.drop 1 ex) (by omega)))) rfl rfl rfl rfl rfl ?_
 rintro _ _ ⟨rfl, rfl⟩
 refine G.stepGD (OD.not rfl rfl) rfl rfl rfl rfl rfl ?_
 refine G.stepD (OD.pickF rfl rfl rfl) rfl rfl rfl ?_
 refine G.nil (GE.then_ ?_)
 refine GC.cond rfl (fun hc3 => ?_) (fun hc3 => ?_)
 replace hc3 := eq_false_of_not hc3
 refine GC.seq (GC.region ?_)
 refine G.stepD (OD.assign rfl rfl) rfl rfl rfl ?_
 refine G.nil (GE.then_ (GC.ret (GE.passR ?_)))
 refine GE.many0 (ints 3) ?_
 refine GE.nilLst 22 ?_
 exact GE.body [0, 0] 1 (res1 rfl rfl) rfl (⟨(.slice none 0 0), [], rfl, IsS.nil, AllS.nil, (by rw [orOf, hg2, hc3] <;> rfl), congrArg (fun (l0 : List (List Int)) => lst 22 (.slice none 0 0) [] :: many (ints 3) [] l0 :: own) ((by rw [orOf, hg2, hc3] <;> rfl : [] = orOf cr cd x))⟩)
 replace hc3 := eq_true_of_not hc3
 have hS := hg2
 have hwx := hc3
 have hcr4 := (tyS_ok hS).1
 have hxl := wtOk_len hwx
 have hoe : ∀ y ∈ oAll cr cd x, y.length ≤ 4 := fun y hy => by have h1 := oAll_ent hy; omega
 have hol := oAll_len cr cd x
 have ho1 : 0 < (oAll cr cd x).length := by have h1 := (oC_pre (n := cr) (d := cd) (f := 1300) (L := [x]) (k := 0)).len; exact h1
 refine GC.skip (GE.then_ (GC.seq (GC.region ?_)))
 refine G.stepD (OD.loadAgg rfl ti28 rfl (i := 0) rfl (us := [.int .i64 (cr), vcd]) rfl rfl) rfl rfl rfl ?_
 refine G.stepD (OD.move rfl rfl) rfl rfl rfl ?_
 refine G.step (OG.call [.agg #[.int .i64 (cr), vcd], vx] ent54 rfl rfl rfl rfl (by exact (orbit_w scd (Ent.drop 1 ecd) sx (Ent.drop 1 ex) ((tyS_ok hS).1) ((tyS_ok hS).2) (hxl) (h64) ((Ent.drop 1 htab))))) rfl rfl rfl ?_
 rintro v4 _ ⟨_, u5, rfl, hs6, hs7, hs8, rfl⟩
 refine G.stepD (OD.assign rfl rfl) rfl rfl rfl ?_
 refine G.nil (GE.then_ (GC.seq (GC.seq (GC.region ?_))))
 refine G.stepD (OD.move rfl rfl) rfl rfl rfl ?_
 refine G.stepD (OD.len rfl rfl et26 rfl (Ent.lst (i := 0) rfl)) rfl rfl rfl ?_
 refine G.stepD (OD.gtr rfl rfl rfl) rfl rfl rfl ?_
 refine G.stepD (OD.move rfl rfl) rfl rfl rfl ?_
 rcases Bool.eq_false_or_eq_true (decide ((1200 : Int) < (u5.length : Nat))) with hg9 | hg9
 have hg9e := hg9
 refine G.at [] 0 (env' := [(0, .agg #[.int .i64 (cr), vcd]), (1, vx), (2, .pointer (some ⟨g1, 0, none⟩)), (4, .slice none 0 0), (6, .agg #[.int .i64 (cr), vcd]), (7, .bool ((tyS cr cd).isSome)), (8, .bool false), (9, .bool false), (10, .agg #[.int .i64 (cr), vcd]), (11, vx), (12, .bool (wtOk cr x)), (13, .bool (!(wtOk cr x))), (14, .bool (!(wtOk cr x))), (15, .agg #[.int .i64 (cr), vcd]), (16, vx), (17, v4), (5, v4), (18, v4), (19, .int .i64 ((u5.length : Nat))), (20, .bool true), (21, .bool true)]) (⟨rfl, rfl, rfl, rfl, rfl, rfl, rfl, rfl, rfl, rfl, rfl, rfl, rfl, rfl, rfl, rfl, rfl, rfl, rfl, (congrArg (fun b => some (Value.bool b)) hg9e), (congrArg (fun b => some (Value.bool b)) hg9e), trivial⟩) rfl ?_
 replace hg9 := of_decide_eq_true hg9
 refine G.skipG rfl rfl rfl rfl rfl rfl (G.skipG rfl rfl rfl rfl rfl rfl (G.skipG rfl rfl rfl rfl rfl rfl ?_))
 refine G.stepD (OD.pickT rfl rfl rfl) rfl rfl rfl ?_
 refine G.nil (GE.then_ (GC.condT rfl (GC.seq (GC.region ?_))))
 refine G.stepD (OD.assign rfl rfl) rfl rfl rfl ?_
 refine G.nil (GE.then_ (GC.ret (GE.passR ?_)))
 refine GE.many0 (ints 3) ?_
 refine GE.nilLst 22 ?_
 exact GE.body [0, 0] 3 (res1 rfl rfl) rfl (⟨(.slice none 0 0), [], rfl, IsS.nil, AllS.nil, (by rw [orOf, hS, hwx, show orF cr cd x = [] from by rw [orF, orB, decide_eq_false (by omega)]; rfl] <;> rfl), congrArg (fun (l0 : List (List Int)) => lst 22 (.slice none 0 0) [] :: many (ints 3) [] l0 :: own) ((by rw [orOf, hS, hwx, show orF cr cd x = [] from by rw [orF, orB, decide_eq_false (by omega)]; rfl] <;> rfl : [] = orOf cr cd x))⟩)
 have hg9e := hg9
 refine G.at [] 0 (env' := [(0, .agg #[.int .i64 (cr), vcd]), (1, vx), (2, .pointer (some ⟨g1, 0, none⟩)), (4, .slice none 0 0), (6, .agg #[.int .i64 (cr), vcd]), (7, .bool ((tyS cr cd).isSome)), (8, .bool false), (9, .bool false), (10, .agg #[.int .i64 (cr), vcd]), (11, vx), (12, .bool (wtOk cr x)), (13, .bool (!(wtOk cr x))), (14, .bool (!(wtOk cr x))), (15, .agg #[.int .i64 (cr), vcd]), (16, vx), (17, v4), (5, v4), (18, v4), (19, .int .i64 ((u5.length : Nat))), (20, .bool false), (21, .bool false)]) (⟨rfl, rfl, rfl, rfl, rfl, rfl, rfl, rfl, rfl, rfl, rfl, rfl, rfl, rfl, rfl, rfl, rfl, rfl, rfl, (congrArg (fun b => some (Value.bool b)) hg9e), (congrArg (fun b => some (Value.bool b)) hg9e), trivial⟩) rfl ?_
 replace hg9 := of_decide_eq_false hg9
 refine G.stepGD (OD.move rfl rfl) rfl rfl rfl rfl rfl ?_
 refine G.stepGD (OD.makeFunc (first := []) (captured := [.tmp 2]) (us := []) (vs := [.pointer (some ⟨g1, 0, none⟩)]) rfl rfl rfl) rfl rfl rfl rfl rfl ?_
 refine G.at [2] 0 (env' := [(0, .agg #[.int .i64 (cr), vcd]), (1, vx), (2, .pointer (some ⟨g1, 0, none⟩)), (4, .slice none 0 0), (6, .agg #[.int .i64 (cr), vcd]), (7, .bool ((tyS cr cd).isSome)), (8, .bool false), (9, .bool false), (10, .agg #[.int .i64 (cr), vcd]), (11, vx), (12, .bool (wtOk cr x)), (13, .bool (!(wtOk cr x))), (14, .bool (!(wtOk cr x))), (15, .agg #[.int .i64 (cr), vcd]), (16, vx), (17, v4), (5, v4), (18, v4), (19, .int .i64 ((u5.length : Nat))), (20, .bool false), (21, .bool false), (22, v4), (23, .func (.func 56) #[] #[.pointer (some ⟨g1, 0, none⟩)])]) ⟨rfl, rfl, rfl, rfl, rfl, rfl, rfl, rfl, rfl, rfl, rfl, rfl, rfl, rfl, rfl, rfl, rfl, rfl, rfl, rfl, rfl, rfl, rfl, trivial⟩ (own' := box g1 28 [.int .i64 (cr), vcd] :: lst 22 v4 u5 :: many (ints 3) u5 (oAll cr cd x) :: own) rfl ?_
 refine G.stepG (OG.call [v4, .func (.func 56) #[] #[.pointer (some ⟨g1, 0, none⟩)]] ent55 rfl rfl rfl rfl (by exact (containsFuncO_w hs6 (Ent.len (Ent.lst (i := 0) rfl) (by omega)) (fun k hk => Ent.manyInts (i := 1) (k := k) rfl ⟨by omega, hk⟩) (by omega) hs7 scd (Ent.drop 2 ecd) (by omega) (getD_entO (b := 1073741824) (fun y hy => Nat.le_trans (hoe y hy) (by decide)))))) rfl rfl rfl rfl rfl ?_
 rintro _ _ ⟨rfl, rfl⟩
 refine G.stepD (OD.pickF rfl rfl rfl) rfl rfl rfl ?_
 refine G.nil (GE.then_ ?_)
 refine GC.cond rfl (fun hc10 => ?_) (fun hc10 => ?_)
 refine GC.seq (GC.region ?_)
 refine G.stepD (OD.assign rfl rfl) rfl rfl rfl ?_
 refine G.nil (GE.then_ (GC.ret (GE.passR ?_)))
 refine GE.many0 (ints 3) ?_
 refine GE.nilLst 22 ?_
 exact GE.body [0, 0] 3 (res1 rfl rfl) rfl (⟨(.slice none 0 0), [], rfl, IsS.nil, AllS.nil, (by rw [orOf, hS, hwx, show orF cr cd x = [] from by rw [orF, orB_any hc10]; rfl] <;> rfl), congrArg (fun (l0 : List (List Int)) => lst 22 (.slice none 0 0) [] :: many (ints 3) [] l0 :: own) ((by rw [orOf, hS, hwx, show orF cr cd x = [] from by rw [orF, orB_any hc10]; rfl] <;> rfl : [] = orOf cr cd x))⟩)
 refine GC.skip (GE.then_ (GC.seq (GC.region ?_)))
 refine G.stepD (OD.move rfl rfl) rfl rfl rfl ?_
 refine G.at [1, 1, 0] 0 (env' := [(0, .agg #[.int .i64 (cr), vcd]), (1, vx), (2, .pointer (some ⟨g1, 0, none⟩)), (4, .slice none 0 0), (6, .agg #[.int .i64 (cr), vcd]), (7, .bool ((tyS cr cd).isSome)), (8, .bool false), (9, .bool false), (10, .agg #[.int .i64 (cr), vcd]), (11, vx), (12, .bool (wtOk cr x)), (13, .bool (!(wtOk cr x))), (14, .bool (!(wtOk cr x))), (15, .agg #[.int .i64 (cr), vcd]), (16, vx), (17, v4), (5, v4), (18, v4), (19, .int .i64 ((u5.length : Nat))), (20, .bool false), (21, .bool false), (22, v4), (23, .func (.func 56) #[] #[.pointer (some ⟨g1, 0, none⟩)]), (24, .bool ((oAll cr cd x).any (fun (y : List Int) => !(wtOk cr y)))), (25, .bool ((oAll cr cd x).any (fun (y : List Int) => !(wtOk cr y)))), (26, v4)]) ⟨rfl, rfl, rfl, rfl, rfl, rfl, rfl, rfl, rfl, rfl, rfl, rfl, rfl, rfl, rfl, rfl, rfl, rfl, rfl, rfl, rfl, rfl, rfl, rfl, rfl, rfl, trivial⟩ (own' := lst 22 v4 u5 :: many (ints 3) u5 (oAll cr cd x) :: box g1 28 [.int .i64 (cr), vcd] :: own) rfl ?_
 refine G.step (OG.call [v4, .func (.func 58) #[] #[]] ent57 rfl rfl rfl rfl (by exact (sort_w strict_rcD tells_rcD ent58 hs6 hs7 hs8 (by omega) (by omega) (fun y hy => by have h1 := hoe y hy; omega)))) rfl rfl rfl ?_
 rintro _ _ ⟨ws, xs, rfl, haw, hlw, hpw, hsw, rfl⟩
 obtain rfl := srt_unique (oAll_nod cr cd x) hpw hsw
 have hfin : srtD (oAll cr cd x) = orOf cr cd x := by rw [orOf, hS, hwx, show orF cr cd x = srtD (oAll cr cd x) from by rw [orF, orB_all (by omega) hc10]; rfl] <;> rfl
 skip
 refine G.nil (GE.then_ (GC.seq (GC.region ?_)))
 refine G.stepD (OD.move rfl rfl) rfl rfl rfl ?_
 refine G.stepD (OD.assign rfl rfl) rfl rfl rfl ?_
 refine G.nil (GE.then_ (GC.ret ?_))
 exact GE.body [0, 0] 1 (res1 rfl rfl) rfl (⟨v4, ws, rfl, hs6, haw, (by rw [← hfin]; exact hlw), congrArg (fun (l0 : List (List Int)) => lst 22 v4 ws :: many (ints 3) ws l0 :: own) ((hfin : srtD (oAll cr cd x) = orOf cr cd x))⟩)
end Go.Proofs.YtmckgdekblphoaaGreatDoor
