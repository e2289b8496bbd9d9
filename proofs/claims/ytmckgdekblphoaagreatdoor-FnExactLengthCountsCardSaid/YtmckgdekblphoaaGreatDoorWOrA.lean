/-
  Orbits by the second text: contracts by walks.
-/
import Derived.Test.YtmckgdekblphoaaGreatDoorFct
import Derived.Test.YtmckgdekblphoaaGreatDoorWNst
import Derived.Test.YtmckgdekblphoaaGreatDoorOrbA
import Derived.Test.YtmckgdekblphoaaGreatDoorWCmp
namespace Go.Proofs.YtmckgdekblphoaaGreatDoor
set_option linter.unusedVariables false
set_option linter.unusedSimpArgs false
open Go.RowKit
set_option maxRecDepth 100000 in
theorem l6Above_w {W : World} {own : List Asn} {vx : Value} {x : List Int} {vy : Value} {y : List Int}  (sx : IsS vx) (ex : Ent own fun w => Ints w vx x)   (sy : IsS vy) (ey : Ent own fun w => Ints w vy y)  (hl : x.length ≤ 1073741824) (hly : y.length ≤ 1073741824) : Spec Tryz.prog 100 [vx, vy] W own (fun v ow => v = .bool (abvL x y) ∧ ow = own) := by
 refine Spec.enter Tryz.f100 _ Tryz.func100 rfl (n := 41) rfl rfl ?_
 refine GC.seq (GC.region ?_)
 refine G.stepD (OD.assign rfl rfl) rfl rfl rfl ?_
 refine G.nil (GE.then_ (GC.seq (GC.seq (GC.region ?_))))
 refine G.stepD (OD.assign rfl rfl) rfl rfl rfl ?_
 refine G.nil (GE.then_ (GC.block ?_))
 refine GC.loop (ι := Nat) (fun k => [(0, vx), (1, vy), (5, .int .i64 ((k : Int)))]) (fun k => own) (fun k => (k ≤ x.length) ∧ (k ≤ y.length) ∧ (abvL x y = abvL (x.drop k) (y.drop k))) (fun k => x.length - k) 0 (⟨by omega, by omega, rfl⟩) ⟨rfl, rfl, rfl, trivial⟩ [] 0 rfl ?_
 rintro k ⟨hk, hky, hc⟩
 refine GC.seq (GC.seq (GC.region ?_))
 refine G.stepD (OD.move rfl rfl) rfl rfl rfl ?_
 refine G.stepD (OD.move rfl rfl) rfl rfl rfl ?_
 refine G.stepD (OD.len rfl rfl et22 rfl ex) rfl rfl rfl ?_
 refine G.stepD (OD.lss rfl rfl rfl) rfl rfl rfl ?_
 refine G.stepD (OD.move rfl rfl) rfl rfl rfl ?_
 rcases Bool.eq_false_or_eq_true (decide ((k : Int) < (x.length : Nat))) with hg1 | hg1
 have hg1e := hg1
 refine G.at [] 0 (env' := [(0, vx), (1, vy), (5, .int .i64 ((k : Int))), (6, .int .i64 ((k : Int))), (7, vx), (8, .int .i64 ((x.length : Nat))), (9, .bool true), (10, .bool true)]) (⟨rfl, rfl, rfl, rfl, rfl, rfl, (congrArg (fun b => some (Value.bool b)) hg1e), (congrArg (fun b => some (Value.bool b)) hg1e), trivial⟩) rfl ?_
 replace hg1 := of_decide_eq_true hg1
 refine G.stepGD (OD.move rfl rfl) rfl rfl rfl rfl rfl ?_
 refine G.stepGD (OD.move rfl rfl) rfl rfl rfl rfl rfl ?_
 refine G.stepGD (OD.len rfl rfl et22 rfl ey) rfl rfl rfl rfl rfl ?_
 refine G.stepGD (OD.lss rfl rfl rfl) rfl rfl rfl rfl rfl ?_
 refine G.stepD (OD.pickT rfl rfl rfl) rfl rfl rfl ?_
 refine G.nil (GE.then_ ?_)
 refine GC.cond rfl (fun hc2 => ?_) (fun hc2 => ?_)
 replace hc2 := of_decide_eq_true hc2
 refine GC.skip (GE.then_ (GC.seq (GC.block (GC.seq ?_))))
 refine GC.at [] 0 (env' := [(0, vx), (1, vy), (5, .int .i64 ((k : Int)))]) ⟨rfl, rfl, rfl, trivial⟩ rfl ?_
 refine GC.par (its := [⟨18, [], [], [], [], fun _ => vx, fun _ => True, fun _ => []⟩,
     ⟨19, [], [], [], [], fun _ => .int .i64 ((k : Int)), fun _ => True, fun _ => []⟩,
     ⟨20, [(0, 18), (1, 19)], [], [], [], fun _ => elemPtr vx 1 (k), fun _ => True, fun _ => []⟩,
     ⟨21, [(2, 20)], [], [], [], fun _ => .int .i64 (x.getD (k) 0), fun _ => True, fun _ => []⟩,
     ⟨22, [], [], [], [], fun _ => vy, fun _ => True, fun _ => []⟩,
     ⟨23, [], [], [], [], fun _ => .int .i64 ((k : Int)), fun _ => True, fun _ => []⟩,
     ⟨24, [(4, 22), (5, 23)], [], [], [], fun _ => elemPtr vy 1 (k), fun _ => True, fun _ => []⟩,
     ⟨25, [(6, 24)], [], [], [], fun _ => .int .i64 (y.getD (k) 0), fun _ => True, fun _ => []⟩,
     ⟨26, [(3, 21), (7, 25)], [], [], [], fun _ => .bool ((x.getD (k) 0) != (y.getD (k) 0)), fun _ => True, fun _ => []⟩]) (by kernel_rfl) (by kernel_rfl) (POps.cons ?_ (POps.cons ?_ (POps.cons ?_ (POps.cons ?_ (POps.cons ?_ (POps.cons ?_ (POps.cons ?_ (POps.cons ?_ (POps.cons ?_ POps.nil))))))))) ?_
 intro θ R hd
 exact Opp.plain (OG.imp (OD.move rfl rfl) (by rintro _ _ ⟨rfl, rfl⟩; exact ⟨[], rfl, trivial, rfl⟩)) rfl
 intro θ R hd
 exact Opp.plain (OG.imp (OD.move rfl rfl) (by rintro _ _ ⟨rfl, rfl⟩; exact ⟨[], rfl, trivial, rfl⟩)) rfl
 intro θ R hd
 obtain ⟨h0d, h1d, _⟩ := hd
 exact Opp.plain (OG.imp (OD.indexAddr rfl et22 rfl (ex.app) rfl (by omega)) (by rintro _ _ ⟨rfl, rfl⟩; exact ⟨[], rfl, trivial, rfl⟩)) rfl
 intro θ R hd
 obtain ⟨h2d, _⟩ := hd
 exact Opp.plain (OG.imp (OD.loadInt rfl ti3 rfl (ex.app) (by omega)) (by rintro _ _ ⟨rfl, rfl⟩; exact ⟨[], rfl, trivial, rfl⟩)) rfl
 intro θ R hd
 exact Opp.plain (OG.imp (OD.move rfl rfl) (by rintro _ _ ⟨rfl, rfl⟩; exact ⟨[], rfl, trivial, rfl⟩)) rfl
 intro θ R hd
 exact Opp.plain (OG.imp (OD.move rfl rfl) (by rintro _ _ ⟨rfl, rfl⟩; exact ⟨[], rfl, trivial, rfl⟩)) rfl
 intro θ R hd
 obtain ⟨h4d, h5d, _⟩ := hd
 exact Opp.plain (OG.imp (OD.indexAddr rfl et22 rfl (ey.app) rfl (by omega)) (by rintro _ _ ⟨rfl, rfl⟩; exact ⟨[], rfl, trivial, rfl⟩)) rfl
 intro θ R hd
 obtain ⟨h6d, _⟩ := hd
 exact Opp.plain (OG.imp (OD.loadInt rfl ti3 rfl (ey.app) (by omega)) (by rintro _ _ ⟨rfl, rfl⟩; exact ⟨[], rfl, trivial, rfl⟩)) rfl
 intro θ R hd
 obtain ⟨h3d, h7d, _⟩ := hd
 exact Opp.plain (OG.imp (OD.neq rfl rfl rfl) (by rintro _ _ ⟨rfl, rfl⟩; exact ⟨[], rfl, trivial, rfl⟩)) rfl
 intro θ hall
 obtain ⟨_, _, _, _, _, _, _, _, _, _⟩ := hall
 refine G.at [] 0 (env' := [(0, vx), (1, vy), (5, .int .i64 ((k : Int))), (26, .bool ((x.getD (k) 0) != (y.getD (k) 0)))]) ⟨rfl, rfl, rfl, rfl, trivial⟩ (own' := own) rfl ?_
 show G _ _ _ [] _ _ _ _
 refine G.nil (GE.then_ ?_)
 refine GC.cond rfl (fun hc3 => ?_) (fun hc3 => ?_)
 replace hc3 := ne_of_bne hc3
 refine GC.seq ?_
 refine GC.at [] 0 (env' := [(0, vx), (1, vy), (5, .int .i64 ((k : Int)))]) ⟨rfl, rfl, rfl, trivial⟩ rfl ?_
 refine GC.par (its := [⟨27, [], [], [], [], fun _ => vx, fun _ => True, fun _ => []⟩,
     ⟨28, [], [], [], [], fun _ => .int .i64 ((k : Int)), fun _ => True, fun _ => []⟩,
     ⟨29, [(0, 27), (1, 28)], [], [], [], fun _ => elemPtr vx 1 (k), fun _ => True, fun _ => []⟩,
     ⟨30, [(2, 29)], [], [], [], fun _ => .int .i64 (x.getD (k) 0), fun _ => True, fun _ => []⟩,
     ⟨31, [], [], [], [], fun _ => vy, fun _ => True, fun _ => []⟩,
     ⟨32, [], [], [], [], fun _ => .int .i64 ((k : Int)), fun _ => True, fun _ => []⟩,
     ⟨33, [(4, 31), (5, 32)], [], [], [], fun _ => elemPtr vy 1 (k), fun _ => True, fun _ => []⟩,
     ⟨34, [(6, 33)], [], [], [], fun _ => .int .i64 (y.getD (k) 0), fun _ => True, fun _ => []⟩,
     ⟨35, [(3, 30), (7, 34)], [], [], [], fun _ => .bool (decide (y.getD (k) 0 < x.getD (k) 0)), fun _ => True, fun _ => []⟩]) (by kernel_rfl) (by kernel_rfl) (POps.cons ?_ (POps.cons ?_ (POps.cons ?_ (POps.cons ?_ (POps.cons ?_ (POps.cons ?_ (POps.cons ?_ (POps.cons ?_ (POps.cons ?_ POps.nil))))))))) ?_
 intro θ R hd
 exact Opp.plain (OG.imp (OD.move rfl rfl) (by rintro _ _ ⟨rfl, rfl⟩; exact ⟨[], rfl, trivial, rfl⟩)) rfl
 intro θ R hd
 exact Opp.plain (OG.imp (OD.move rfl rfl) (by rintro _ _ ⟨rfl, rfl⟩; exact ⟨[], rfl, trivial, rfl⟩)) rfl
 intro θ R hd
 obtain ⟨h0d, h1d, _⟩ := hd
 exact Opp.plain (OG.imp (OD.indexAddr rfl et22 rfl (ex.app) rfl (by omega)) (by rintro _ _ ⟨rfl, rfl⟩; exact ⟨[], rfl, trivial, rfl⟩)) rfl
 intro θ R hd
 obtain ⟨h2d, _⟩ := hd
 exact Opp.plain (OG.imp (OD.loadInt rfl ti3 rfl (ex.app) (by omega)) (by rintro _ _ ⟨rfl, rfl⟩; exact ⟨[], rfl, trivial, rfl⟩)) rfl
 intro θ R hd
 exact Opp.plain (OG.imp (OD.move rfl rfl) (by rintro _ _ ⟨rfl, rfl⟩; exact ⟨[], rfl, trivial, rfl⟩)) rfl
 intro θ R hd
 exact Opp.plain (OG.imp (OD.move rfl rfl) (by rintro _ _ ⟨rfl, rfl⟩; exact ⟨[], rfl, trivial, rfl⟩)) rfl
 intro θ R hd
 obtain ⟨h4d, h5d, _⟩ := hd
 exact Opp.plain (OG.imp (OD.indexAddr rfl et22 rfl (ey.app) rfl (by omega)) (by rintro _ _ ⟨rfl, rfl⟩; exact ⟨[], rfl, trivial, rfl⟩)) rfl
 intro θ R hd
 obtain ⟨h6d, _⟩ := hd
 exact Opp.plain (OG.imp (OD.loadInt rfl ti3 rfl (ey.app) (by omega)) (by rintro _ _ ⟨rfl, rfl⟩; exact ⟨[], rfl, trivial, rfl⟩)) rfl
 intro θ R hd
 obtain ⟨h3d, h7d, _⟩ := hd
 exact Opp.plain (OG.imp (OD.gtr rfl rfl rfl) (by rintro _ _ ⟨rfl, rfl⟩; exact ⟨[], rfl, trivial, rfl⟩)) rfl
 intro θ hall
 obtain ⟨_, _, _, _, _, _, _, _, _, _⟩ := hall
 refine G.at [] 0 (env' := [(35, .bool (decide (y.getD (k) 0 < x.getD (k) 0)))]) ⟨rfl, trivial⟩ (own' := own) rfl ?_
 show G _ _ _ [_] _ _ _ _
 refine G.stepD (OD.assign rfl rfl) rfl rfl rfl ?_
 refine G.nil (GE.then_ (GC.ret (GE.blockR (GE.passR (GE.passR (GE.blockR (GE.passR ?_)))))))
 exact GE.body [] 0 (res1 rfl rfl) rfl (⟨congrArg (fun (a0 : Bool) => (.bool (a0) : Value)) ((by rw [hc]; exact (abv_ne (by omega) (by omega) (by assumption)).symm : (decide (y.getD (k) 0 < x.getD (k) 0) : Bool) = abvL x y)), rfl⟩)
 replace hc3 := eq_of_bne_false hc3
 refine GC.skip (GE.blockN (GE.then_ (GC.region ?_)))
 refine G.stepD (OD.move rfl rfl) rfl rfl rfl ?_
 refine G.stepD (OD.addI rfl rfl rfl (by omega)) rfl rfl rfl ?_
 refine G.stepD (OD.assign rfl rfl) rfl rfl rfl ?_
 refine G.nil ?_
 exact GE.again (k + 1) (⟨by omega, by omega, by rw [hc]; exact abv_eq (by omega) (by omega) (by assumption)⟩) (by first | omega | (dsimp only; omega)) ⟨rfl, rfl, rfl, trivial⟩ [] 0 rfl
 replace hc2 := of_decide_eq_false hc2
 refine GC.exit (GE.pass (GE.pass (GE.hit (GE.then_ (GC.seq (GC.region ?_))))))
 refine G.stepD (OD.move rfl rfl) rfl rfl rfl ?_
 refine G.stepD (OD.len rfl rfl et22 rfl ex) rfl rfl rfl ?_
 refine G.stepD (OD.move rfl rfl) rfl rfl rfl ?_
 refine G.stepD (OD.len rfl rfl et22 rfl ey) rfl rfl rfl ?_
 refine G.stepD (OD.gtr rfl rfl rfl) rfl rfl rfl ?_
 refine G.stepD (OD.assign rfl rfl) rfl rfl rfl ?_
 refine G.nil (GE.then_ (GC.ret ?_))
 exact GE.body [] 0 (res1 rfl rfl) rfl (⟨congrArg (fun (a0 : Bool) => (.bool (a0) : Value)) ((by rw [hc]; exact (abv_end (by omega) (by omega) (by omega)).symm : (decide (((y.length : Nat) : Int) < (x.length : Nat)) : Bool) = abvL x y)), rfl⟩)
 have hg1e := hg1
 refine G.at [] 0 (env' := [(0, vx), (1, vy), (5, .int .i64 ((k : Int))), (6, .int .i64 ((k : Int))), (7, vx), (8, .int .i64 ((x.length : Nat))), (9, .bool false), (10, .bool false)]) (⟨rfl, rfl, rfl, rfl, rfl, rfl, (congrArg (fun b => some (Value.bool b)) hg1e), (congrArg (fun b => some (Value.bool b)) hg1e), trivial⟩) rfl ?_
 replace hg1 := of_decide_eq_false hg1
 refine G.skipG rfl rfl rfl rfl rfl rfl (G.skipG rfl rfl rfl rfl rfl rfl (G.skipG rfl rfl rfl rfl rfl rfl (G.skipG rfl rfl rfl rfl rfl rfl ?_)))
 refine G.stepD (OD.pickF rfl rfl rfl) rfl rfl rfl ?_
 refine G.nil (GE.then_ (GC.condF rfl (GC.exit (GE.pass (GE.pass (GE.hit (GE.then_ (GC.seq (GC.region ?_)))))))))
 refine G.stepD (OD.move rfl rfl) rfl rfl rfl ?_
 refine G.stepD (OD.len rfl rfl et22 rfl ex) rfl rfl rfl ?_
 refine G.stepD (OD.move rfl rfl) rfl rfl rfl ?_
 refine G.stepD (OD.len rfl rfl et22 rfl ey) rfl rfl rfl ?_
 refine G.stepD (OD.gtr rfl rfl rfl) rfl rfl rfl ?_
 refine G.stepD (OD.assign rfl rfl) rfl rfl rfl ?_
 refine G.nil (GE.then_ (GC.ret ?_))
 exact GE.body [] 0 (res1 rfl rfl) rfl (⟨congrArg (fun (a0 : Bool) => (.bool (a0) : Value)) ((by rw [hc]; exact (abv_end (by omega) (by omega) (by omega)).symm : (decide (((y.length : Nat) : Int) < (x.length : Nat)) : Bool) = abvL x y)), rfl⟩)
set_option maxRecDepth 100000 in
theorem l6Insert_new {W : World} {own : List Asn} {vL : Value} {uL : List Value} {L : List (List Int)} {vx : Value} {x : List Int}  (sL : IsS vL) (eL : Ent own fun w => Sl w vL L.length 1 uL) (mL : ∀ k, k < L.length → Ent own fun w => Ints w (uL.getD k undef) (L.getD k [])) (lL : uL.length = L.length) (aL : AllS uL)   (sx : IsS vx) (ex : Ent own fun w => Ints w vx x)  (hll : L.length ≤ 1073741824) (hle : ∀ k, k < L.length → (L.getD k []).length ≤ 1073741824) (hl : x.length ≤ 1073741824) (hde : Desc L) (hno : L.contains x = false) : Spec Tryz.prog 66 [vL, vx] W own (fun v ow => ∃ (r0 : Value), v = .tuple #[r0, .bool (true)] ∧ IsS r0 ∧ AllS (uL.take (insA x L) ++ [vx] ++ uL.drop (insA x L)) ∧ ow = lst 22 r0 (uL.take (insA x L) ++ [vx] ++ uL.drop (insA x L)) :: own) := by
 refine Spec.enter Tryz.f66 _ Tryz.func66 rfl (n := 46) rfl rfl ?_
 refine GC.seq (GC.region ?_)
 refine G.stepD (OD.assign rfl rfl) rfl rfl rfl ?_
 refine G.stepD (OD.assign rfl rfl) rfl rfl rfl ?_
 refine G.nil (GE.then_ (GC.seq (GC.region ?_)))
 refine G.stepD (OD.assign rfl rfl) rfl rfl rfl ?_
 refine G.nil (GE.then_ (GC.seq (GC.block ?_)))
 refine GC.loop (ι := Nat) (fun a => [(0, vL), (1, vx), (6, .int .i64 ((a : Int)))]) (fun a => own) (fun a => (a ≤ L.length) ∧ (∀ j, j < a → abvL (L.getD j []) x = true)) (fun a => L.length - a) 0 (⟨by omega, fun j hj => absurd hj (Nat.not_lt_zero j)⟩) ⟨rfl, rfl, rfl, trivial⟩ [] 0 rfl ?_
 rintro a ⟨ha, hab⟩
 refine GC.seq (GC.seq (GC.region ?_))
 refine G.stepD (OD.move rfl rfl) rfl rfl rfl ?_
 refine G.stepD (OD.move rfl rfl) rfl rfl rfl ?_
 refine G.stepD (OD.len rfl rfl et26 rfl eL) rfl rfl rfl ?_
 refine G.stepD (OD.lss rfl rfl rfl) rfl rfl rfl ?_
 refine G.stepD (OD.move rfl rfl) rfl rfl rfl ?_
 rcases Bool.eq_false_or_eq_true (decide ((a : Int) < (L.length : Nat))) with hg1 | hg1
 have hg1e := hg1
 refine G.at [] 0 (env' := [(0, vL), (1, vx), (6, .int .i64 ((a : Int))), (7, .int .i64 ((a : Int))), (8, vL), (9, .int .i64 ((L.length : Nat))), (10, .bool true), (11, .bool true)]) (⟨rfl, rfl, rfl, rfl, rfl, rfl, (congrArg (fun b => some (Value.bool b)) hg1e), (congrArg (fun b => some (Value.bool b)) hg1e), trivial⟩) rfl ?_
 replace hg1 := of_decide_eq_true hg1
 refine G.stepGD (OD.move rfl rfl) rfl rfl rfl rfl rfl ?_
 refine G.stepGD (OD.move rfl rfl) rfl rfl rfl rfl rfl ?_
 refine G.stepGD (OD.indexAddr rfl et26 rfl eL rfl (by omega)) rfl rfl rfl rfl rfl ?_
 refine G.stepGD (OD.loadElem rfl ti22 rfl eL (by omega) rfl) rfl rfl rfl rfl rfl ?_
 refine G.stepGD (OD.move rfl rfl) rfl rfl rfl rfl rfl ?_
 refine G.stepG (OG.call [(uL.getD (a) undef), vx] ent100 rfl rfl rfl rfl (by exact (l6Above_w (aL.get (by omega)) ((mL (a) (by omega))) sx ex (Nat.le_trans (hle a (by omega)) (by omega)) (hl)))) rfl rfl rfl rfl rfl ?_
 rintro _ _ ⟨rfl, hzz⟩; obtain rfl := hzz.symm
 refine G.stepD (OD.pickT rfl rfl rfl) rfl rfl rfl ?_
 refine G.nil (GE.then_ ?_)
 refine GC.cond rfl (fun hc2 => ?_) (fun hc2 => ?_)
 refine GC.skip (GE.then_ (GC.block (GC.region ?_)))
 refine G.stepD (OD.move rfl rfl) rfl rfl rfl ?_
 refine G.stepD (OD.addI rfl rfl rfl (by omega)) rfl rfl rfl ?_
 refine G.stepD (OD.assign rfl rfl) rfl rfl rfl ?_
 refine G.nil (GE.blockN ?_)
 exact GE.again (a + 1) (⟨by omega, fun j hj => (Nat.lt_succ_iff_lt_or_eq.1 hj).elim (hab j) (fun e => by rw [e]; exact hc2)⟩) (by first | omega | (dsimp only; omega)) ⟨rfl, rfl, rfl, trivial⟩ [] 0 rfl
 have hia : insA x L = a := insA_hit ha hab (fun _ => hc2)
 refine GC.exit (GE.pass (GE.pass (GE.hit (GE.then_ (GC.seq (GC.seq (GC.region ?_)))))))
 refine G.stepD (OD.move rfl rfl) rfl rfl rfl ?_
 refine G.stepD (OD.move rfl rfl) rfl rfl rfl ?_
 refine G.stepD (OD.len rfl rfl et26 rfl eL) rfl rfl rfl ?_
 refine G.stepD (OD.eqv (OD.lss rfl rfl rfl) (congrArg Value.bool hg1e)) rfl rfl rfl ?_
 refine G.stepD (OD.move rfl rfl) rfl rfl rfl ?_
 refine G.stepGD (OD.move rfl rfl) rfl rfl rfl rfl rfl ?_
 refine G.stepGD (OD.move rfl rfl) rfl rfl rfl rfl rfl ?_
 refine G.stepGD (OD.indexAddr rfl et26 rfl eL rfl (by omega)) rfl rfl rfl rfl rfl ?_
 refine G.stepGD (OD.loadElem rfl ti22 rfl eL (by omega) rfl) rfl rfl rfl rfl rfl ?_
 refine G.stepGD (OD.move rfl rfl) rfl rfl rfl rfl rfl ?_
 refine G.stepG (OG.call [(uL.getD (a) undef), vx] ent101 rfl rfl rfl rfl (by exact (l1Same_s (aL.get (by omega)) ((mL (a) (by omega))) sx ex (Nat.le_trans (hle a (by omega)) (by decide))))) rfl rfl rfl rfl rfl ?_
 rintro _ _ ⟨rfl, hzz⟩; obtain rfl := hzz.symm
 refine G.stepD (OD.pickT rfl rfl rfl) rfl rfl rfl ?_
 refine G.nil (GE.then_ ?_)
 refine GC.cond rfl (fun hc3 => ?_) (fun hc3 => ?_)
 exact absurd (hno.symm.trans (by rw [← insA_mem hde, hia, decide_eq_true (by omega), hc3]; rfl)) Bool.false_ne_true
 refine GC.skip (GE.then_ (GC.seq ?_))
 refine GC.at [] 0 (env' := [(0, vL), (1, vx), (6, .int .i64 ((a : Int)))]) ⟨rfl, rfl, rfl, trivial⟩ rfl ?_
 refine GC.par (its := [⟨34, [], [], [], [0], fun ds => ((ds.getD 0 []).getD 0 undef), fun ds => IsS ((ds.getD 0 []).getD 0 undef), fun ds => [lst 22 ((ds.getD 0 []).getD 0 undef) []]⟩,
     ⟨35, [], [], [], [], fun _ => vL, fun _ => True, fun _ => []⟩,
     ⟨36, [], [], [], [], fun _ => .int .i64 ((a : Int)), fun _ => True, fun _ => []⟩,
     ⟨37, [(1, 35), (2, 36)], [], [], [], fun _ => (subV 1 vL 0 a), fun _ => True, fun _ => []⟩,
     ⟨38, [(0, 34), (3, 37)], [0], [0], [0, 4], fun ds => ((ds.getD 1 []).getD 0 undef), fun ds => IsS ((ds.getD 1 []).getD 0 undef), fun ds => [lst 22 ((ds.getD 1 []).getD 0 undef) ([] ++ (uL.drop (0)).take (a - 0))]⟩,
     ⟨39, [], [], [], [], fun _ => vx, fun _ => True, fun _ => []⟩,
     ⟨40, [(5, 39)], [], [], [6], fun ds => ((ds.getD 0 []).getD 0 undef), fun ds => IsS ((ds.getD 0 []).getD 0 undef), fun ds => [lst 22 ((ds.getD 0 []).getD 0 undef) [vx]]⟩,
     ⟨41, [(4, 38), (6, 40)], [4, 6], [4], [0, 4, 6, 7], fun ds => ((ds.getD 3 []).getD 0 undef), fun ds => IsS ((ds.getD 3 []).getD 0 undef), fun ds => [lst 22 ((ds.getD 3 []).getD 0 undef) (([] ++ (uL.drop (0)).take (a - 0)) ++ [vx])]⟩,
     ⟨42, [], [], [], [], fun _ => vL, fun _ => True, fun _ => []⟩,
     ⟨43, [], [], [], [], fun _ => .int .i64 ((a : Int)), fun _ => True, fun _ => []⟩,
     ⟨44, [(8, 42), (9, 43)], [], [], [], fun _ => (subV 1 vL a L.length), fun _ => True, fun _ => []⟩,
     ⟨45, [(7, 41), (10, 44)], [7, 6], [7], [0, 4, 6, 7, 11], fun ds => ((ds.getD 4 []).getD 0 undef), fun ds => IsS ((ds.getD 4 []).getD 0 undef), fun ds => [lst 22 ((ds.getD 4 []).getD 0 undef) ((([] ++ (uL.drop (0)).take (a - 0)) ++ [vx]) ++ (uL.drop (a)).take (L.length - a))]⟩]) (by kernel_rfl) (by kernel_rfl) (POps.cons ?_ (POps.cons ?_ (POps.cons ?_ (POps.cons ?_ (POps.cons ?_ (POps.cons ?_ (POps.cons ?_ (POps.cons ?_ (POps.cons ?_ (POps.cons ?_ (POps.cons ?_ (POps.cons ?_ POps.nil)))))))))))) ?_
 intro θ R hd
 exact Opp.plain (OG.imp (OG.buildLst (xs := []) (us := []) rfl et26 rfl rfl rfl rfl rfl) (by rintro v4 _ ⟨hs5, rfl⟩; exact ⟨[v4], rfl, hs5, rfl⟩)) rfl
 intro θ R hd
 exact Opp.plain (OG.imp (OD.move rfl rfl) (by rintro _ _ ⟨rfl, rfl⟩; exact ⟨[], rfl, trivial, rfl⟩)) rfl
 intro θ R hd
 exact Opp.plain (OG.imp (OD.move rfl rfl) (by rintro _ _ ⟨rfl, rfl⟩; exact ⟨[], rfl, trivial, rfl⟩)) rfl
 intro θ R hd
 obtain ⟨h1d, h2d, _⟩ := hd
 exact Opp.plain (OG.imp (OD.sliceTo rfl et26 rfl rfl (eL.app) (by omega)) (by rintro _ _ ⟨rfl, rfl⟩; exact ⟨[], rfl, trivial, rfl⟩)) rfl
 intro θ R hd
 obtain ⟨h0d, h3d, _⟩ := hd
 exact Opp.plain (OG.imp (OG.appendLst 0 rfl rfl et26 rfl rfl rfl (Ent.subLst (us := uL) (Ent.len (Ent.drop 1 eL.app) (by omega)) (by omega)) (List.all_eq_true.2 fun u hu => by simpa using (AllS.part aL _ _).one u hu) (by simp [maxLen] <;> omega)) (by rintro v6 _ ⟨hs7, rfl⟩; exact ⟨[v6], rfl, hs7, rfl⟩)) rfl
 intro θ R hd
 exact Opp.plain (OG.imp (OD.move rfl rfl) (by rintro _ _ ⟨rfl, rfl⟩; exact ⟨[], rfl, trivial, rfl⟩)) rfl
 intro θ R hd
 obtain ⟨h5d, _⟩ := hd
 exact Opp.plain (OG.imp (OG.buildLst (xs := [.tmp 39]) (us := [vx]) rfl et26 rfl rfl rfl (allC (IsS.one sx) rfl) rfl) (by rintro v8 _ ⟨hs9, rfl⟩; exact ⟨[v8], rfl, hs9, rfl⟩)) rfl
 intro θ R hd
 obtain ⟨h4d, h6d, _⟩ := hd
 exact Opp.plain (OG.imp (OG.appendLst 0 rfl rfl et26 rfl rfl rfl (Ent.lst (i := 1) rfl) (List.all_eq_true.2 fun u hu => by simpa using (AllS.snoc AllS.nil sx).one u hu) (by simp [maxLen] <;> omega)) (by rintro v10 _ ⟨hs11, rfl⟩; exact ⟨[v10], rfl, hs11, rfl⟩)) rfl
 intro θ R hd
 exact Opp.plain (OG.imp (OD.move rfl rfl) (by rintro _ _ ⟨rfl, rfl⟩; exact ⟨[], rfl, trivial, rfl⟩)) rfl
 intro θ R hd
 exact Opp.plain (OG.imp (OD.move rfl rfl) (by rintro _ _ ⟨rfl, rfl⟩; exact ⟨[], rfl, trivial, rfl⟩)) rfl
 intro θ R hd
 obtain ⟨h8d, h9d, _⟩ := hd
 exact Opp.plain (OG.imp (OD.sliceFrom rfl et26 rfl rfl (eL.app) (by omega)) (by rintro _ _ ⟨rfl, rfl⟩; exact ⟨[], rfl, trivial, rfl⟩)) rfl
 intro θ R hd
 obtain ⟨h7d, h10d, _⟩ := hd
 exact Opp.plain (OG.imp (OG.appendLst 0 rfl rfl et26 rfl rfl rfl (Ent.subLst (us := uL) (Ent.len (Ent.drop 2 eL.app) (by omega)) (by omega)) (List.all_eq_true.2 fun u hu => by simpa using (AllS.part aL _ _).one u hu) (by simp [maxLen] <;> omega)) (by rintro v12 _ ⟨hs13, rfl⟩; exact ⟨[v12], rfl, hs13, rfl⟩)) rfl
 intro θ hall
 obtain ⟨h0a, _, _, _, h4a, _, h6a, h7a, _, _, _, h11a, _⟩ := hall
 refine G.at [] 0 (env' := [(45, ((θ 11).getD 0 undef))]) ⟨rfl, trivial⟩ (own' := lst 22 ((θ 6).getD 0 undef) [vx] :: lst 22 ((θ 11).getD 0 undef) ((([] ++ (uL.drop (0)).take (a - 0)) ++ [vx]) ++ (uL.drop (a)).take (L.length - a)) :: own) rfl ?_
 have hs14 : IsS ((θ 0).getD 0 undef) := h0a
 clear h0a
 generalize ((θ 0).getD 0 undef) = v15 at *
 have hs16 : IsS ((θ 4).getD 0 undef) := h4a
 clear h4a
 generalize ((θ 4).getD 0 undef) = v17 at *
 have hs18 : IsS ((θ 6).getD 0 undef) := h6a
 clear h6a
 generalize ((θ 6).getD 0 undef) = v19 at *
 have hs20 : IsS ((θ 7).getD 0 undef) := h7a
 clear h7a
 generalize ((θ 7).getD 0 undef) = v21 at *
 have hs22 : IsS ((θ 11).getD 0 undef) := h11a
 clear h11a
 generalize ((θ 11).getD 0 undef) = v23 at *
 show G _ _ _ [_, _] _ _ _ _
 refine G.stepD (OD.assign rfl rfl) rfl rfl rfl ?_
 refine G.stepD (OD.assign rfl rfl) rfl rfl rfl ?_
 refine G.nil (GE.then_ (GC.ret ?_))
 have hnewA : AllS (uL.take (insA x L) ++ [vx] ++ uL.drop (insA x L)) := AllS.app (AllS.app (fun u hu => aL u (List.mem_of_mem_take hu)) (AllS.snoc AllS.nil sx)) fun u hu => aL u (List.mem_of_mem_drop hu)
 refine GE.ownEq (own' := lst 22 v19 [vx] :: lst 22 v23 (uL.take (insA x L) ++ [vx] ++ uL.drop (insA x L)) :: own) (by rw [hia]; simp [List.take_of_length_le, ← lL]) ?_
 skip
 exact GE.body [1] 1 (res2 rfl rfl rfl) rfl (⟨v23, rfl, hs22, hnewA, rfl⟩)
 have hg1e := hg1
 refine G.at [] 0 (env' := [(0, vL), (1, vx), (6, .int .i64 ((a : Int))), (7, .int .i64 ((a : Int))), (8, vL), (9, .int .i64 ((L.length : Nat))), (10, .bool false), (11, .bool false)]) (⟨rfl, rfl, rfl, rfl, rfl, rfl, (congrArg (fun b => some (Value.bool b)) hg1e), (congrArg (fun b => some (Value.bool b)) hg1e), trivial⟩) rfl ?_
 replace hg1 := of_decide_eq_false hg1
 refine G.skipG rfl rfl rfl rfl rfl rfl (G.skipG rfl rfl rfl rfl rfl rfl (G.skipG rfl rfl rfl rfl rfl rfl (G.skipG rfl rfl rfl rfl rfl rfl (G.skipG rfl rfl rfl rfl rfl rfl (G.skipG rfl rfl rfl rfl rfl rfl ?_)))))
 refine G.stepD (OD.pickF rfl rfl rfl) rfl rfl rfl ?_
 refine G.nil (GE.then_ (GC.condF rfl ?_))
 have hia : insA x L = a := insA_hit ha hab (fun hh => absurd hh (by omega))
 refine GC.exit (GE.pass (GE.pass (GE.hit (GE.then_ (GC.seq (GC.seq (GC.region ?_)))))))
 refine G.stepD (OD.move rfl rfl) rfl rfl rfl ?_
 refine G.stepD (OD.move rfl rfl) rfl rfl rfl ?_
 refine G.stepD (OD.len rfl rfl et26 rfl eL) rfl rfl rfl ?_
 refine G.stepD (OD.eqv (OD.lss rfl rfl rfl) (congrArg Value.bool hg1e)) rfl rfl rfl ?_
 refine G.stepD (OD.move rfl rfl) rfl rfl rfl ?_
 refine G.skipG rfl rfl rfl rfl rfl rfl (G.skipG rfl rfl rfl rfl rfl rfl (G.skipG rfl rfl rfl rfl rfl rfl (G.skipG rfl rfl rfl rfl rfl rfl (G.skipG rfl rfl rfl rfl rfl rfl (G.skipG rfl rfl rfl rfl rfl rfl ?_)))))
 refine G.stepD (OD.pickF rfl rfl rfl) rfl rfl rfl ?_
 refine G.nil (GE.then_ (GC.condF rfl (GC.skip (GE.then_ (GC.seq ?_)))))
 refine GC.at [] 0 (env' := [(0, vL), (1, vx), (6, .int .i64 ((a : Int)))]) ⟨rfl, rfl, rfl, trivial⟩ rfl ?_
 refine GC.par (its := [⟨34, [], [], [], [0], fun ds => ((ds.getD 0 []).getD 0 undef), fun ds => IsS ((ds.getD 0 []).getD 0 undef), fun ds => [lst 22 ((ds.getD 0 []).getD 0 undef) []]⟩,
     ⟨35, [], [], [], [], fun _ => vL, fun _ => True, fun _ => []⟩,
     ⟨36, [], [], [], [], fun _ => .int .i64 ((a : Int)), fun _ => True, fun _ => []⟩,
     ⟨37, [(1, 35), (2, 36)], [], [], [], fun _ => (subV 1 vL 0 a), fun _ => True, fun _ => []⟩,
     ⟨38, [(0, 34), (3, 37)], [0], [0], [0, 4], fun ds => ((ds.getD 1 []).getD 0 undef), fun ds => IsS ((ds.getD 1 []).getD 0 undef), fun ds => [lst 22 ((ds.getD 1 []).getD 0 undef) ([] ++ (uL.drop (0)).take (a - 0))]⟩,
     ⟨39, [], [], [], [], fun _ => vx, fun _ => True, fun _ => []⟩,
     ⟨40, [(5, 39)], [], [], [6], fun ds => ((ds.getD 0 []).getD 0 undef), fun ds => IsS ((ds.getD 0 []).getD 0 undef), fun ds => [lst 22 ((ds.getD 0 []).getD 0 undef) [vx]]⟩,
     ⟨41, [(4, 38), (6, 40)], [4, 6], [4], [0, 4, 6, 7], fun ds => ((ds.getD 3 []).getD 0 undef), fun ds => IsS ((ds.getD 3 []).getD 0 undef), fun ds => [lst 22 ((ds.getD 3 []).getD 0 undef) (([] ++ (uL.drop (0)).take (a - 0)) ++ [vx])]⟩,
     ⟨42, [], [], [], [], fun _ => vL, fun _ => True, fun _ => []⟩,
     ⟨43, [], [], [], [], fun _ => .int .i64 ((a : Int)), fun _ => True, fun _ => []⟩,
     ⟨44, [(8, 42), (9, 43)], [], [], [], fun _ => (subV 1 vL a L.length), fun _ => True, fun _ => []⟩,
     ⟨45, [(7, 41), (10, 44)], [7, 6], [7], [0, 4, 6, 7, 11], fun ds => ((ds.getD 4 []).getD 0 undef), fun ds => IsS ((ds.getD 4 []).getD 0 undef), fun ds => [lst 22 ((ds.getD 4 []).getD 0 undef) ((([] ++ (uL.drop (0)).take (a - 0)) ++ [vx]) ++ (uL.drop (a)).take (L.length - a))]⟩]) (by kernel_rfl) (by kernel_rfl) (POps.cons ?_ (POps.cons ?_ (POps.cons ?_ (POps.cons ?_ (POps.cons ?_ (POps.cons ?_ (POps.cons ?_ (POps.cons ?_ (POps.cons ?_ (POps.cons ?_ (POps.cons ?_ (POps.cons ?_ POps.nil)))))))))))) ?_
 intro θ R hd
 exact Opp.plain (OG.imp (OG.buildLst (xs := []) (us := []) rfl et26 rfl rfl rfl rfl rfl) (by rintro v24 _ ⟨hs25, rfl⟩; exact ⟨[v24], rfl, hs25, rfl⟩)) rfl
 intro θ R hd
 exact Opp.plain (OG.imp (OD.move rfl rfl) (by rintro _ _ ⟨rfl, rfl⟩; exact ⟨[], rfl, trivial, rfl⟩)) rfl
 intro θ R hd
 exact Opp.plain (OG.imp (OD.move rfl rfl) (by rintro _ _ ⟨rfl, rfl⟩; exact ⟨[], rfl, trivial, rfl⟩)) rfl
 intro θ R hd
 obtain ⟨h1d, h2d, _⟩ := hd
 exact Opp.plain (OG.imp (OD.sliceTo rfl et26 rfl rfl (eL.app) (by omega)) (by rintro _ _ ⟨rfl, rfl⟩; exact ⟨[], rfl, trivial, rfl⟩)) rfl
 intro θ R hd
 obtain ⟨h0d, h3d, _⟩ := hd
 exact Opp.plain (OG.imp (OG.appendLst 0 rfl rfl et26 rfl rfl rfl (Ent.subLst (us := uL) (Ent.len (Ent.drop 1 eL.app) (by omega)) (by omega)) (List.all_eq_true.2 fun u hu => by simpa using (AllS.part aL _ _).one u hu) (by simp [maxLen] <;> omega)) (by rintro v26 _ ⟨hs27, rfl⟩; exact ⟨[v26], rfl, hs27, rfl⟩)) rfl
 intro θ R hd
 exact Opp.plain (OG.imp (OD.move rfl rfl) (by rintro _ _ ⟨rfl, rfl⟩; exact ⟨[], rfl, trivial, rfl⟩)) rfl
 intro θ R hd
 obtain ⟨h5d, _⟩ := hd
 exact Opp.plain (OG.imp (OG.buildLst (xs := [.tmp 39]) (us := [vx]) rfl et26 rfl rfl rfl (allC (IsS.one sx) rfl) rfl) (by rintro v28 _ ⟨hs29, rfl⟩; exact ⟨[v28], rfl, hs29, rfl⟩)) rfl
 intro θ R hd
 obtain ⟨h4d, h6d, _⟩ := hd
 exact Opp.plain (OG.imp (OG.appendLst 0 rfl rfl et26 rfl rfl rfl (Ent.lst (i := 1) rfl) (List.all_eq_true.2 fun u hu => by simpa using (AllS.snoc AllS.nil sx).one u hu) (by simp [maxLen] <;> omega)) (by rintro v30 _ ⟨hs31, rfl⟩; exact ⟨[v30], rfl, hs31, rfl⟩)) rfl
 intro θ R hd
 exact Opp.plain (OG.imp (OD.move rfl rfl) (by rintro _ _ ⟨rfl, rfl⟩; exact ⟨[], rfl, trivial, rfl⟩)) rfl
 intro θ R hd
 exact Opp.plain (OG.imp (OD.move rfl rfl) (by rintro _ _ ⟨rfl, rfl⟩; exact ⟨[], rfl, trivial, rfl⟩)) rfl
 intro θ R hd
 obtain ⟨h8d, h9d, _⟩ := hd
 exact Opp.plain (OG.imp (OD.sliceFrom rfl et26 rfl rfl (eL.app) (by omega)) (by rintro _ _ ⟨rfl, rfl⟩; exact ⟨[], rfl, trivial, rfl⟩)) rfl
 intro θ R hd
 obtain ⟨h7d, h10d, _⟩ := hd
 exact Opp.plain (OG.imp (OG.appendLst 0 rfl rfl et26 rfl rfl rfl (Ent.subLst (us := uL) (Ent.len (Ent.drop 2 eL.app) (by omega)) (by omega)) (List.all_eq_true.2 fun u hu => by simpa using (AllS.part aL _ _).one u hu) (by simp [maxLen] <;> omega)) (by rintro v32 _ ⟨hs33, rfl⟩; exact ⟨[v32], rfl, hs33, rfl⟩)) rfl
 intro θ hall
 obtain ⟨h0a, _, _, _, h4a, _, h6a, h7a, _, _, _, h11a, _⟩ := hall
 refine G.at [] 0 (env' := [(45, ((θ 11).getD 0 undef))]) ⟨rfl, trivial⟩ (own' := lst 22 ((θ 6).getD 0 undef) [vx] :: lst 22 ((θ 11).getD 0 undef) ((([] ++ (uL.drop (0)).take (a - 0)) ++ [vx]) ++ (uL.drop (a)).take (L.length - a)) :: own) rfl ?_
 have hs34 : IsS ((θ 0).getD 0 undef) := h0a
 clear h0a
 generalize ((θ 0).getD 0 undef) = v35 at *
 have hs36 : IsS ((θ 4).getD 0 undef) := h4a
 clear h4a
 generalize ((θ 4).getD 0 undef) = v37 at *
 have hs38 : IsS ((θ 6).getD 0 undef) := h6a
 clear h6a
 generalize ((θ 6).getD 0 undef) = v39 at *
 have hs40 : IsS ((θ 7).getD 0 undef) := h7a
 clear h7a
 generalize ((θ 7).getD 0 undef) = v41 at *
 have hs42 : IsS ((θ 11).getD 0 undef) := h11a
 clear h11a
 generalize ((θ 11).getD 0 undef) = v43 at *
 show G _ _ _ [_, _] _ _ _ _
 refine G.stepD (OD.assign rfl rfl) rfl rfl rfl ?_
 refine G.stepD (OD.assign rfl rfl) rfl rfl rfl ?_
 refine G.nil (GE.then_ (GC.ret ?_))
 have hnewA : AllS (uL.take (insA x L) ++ [vx] ++ uL.drop (insA x L)) := AllS.app (AllS.app (fun u hu => aL u (List.mem_of_mem_take hu)) (AllS.snoc AllS.nil sx)) fun u hu => aL u (List.mem_of_mem_drop hu)
 refine GE.ownEq (own' := lst 22 v39 [vx] :: lst 22 v43 (uL.take (insA x L) ++ [vx] ++ uL.drop (insA x L)) :: own) (by rw [hia]; simp [List.take_of_length_le, ← lL]) ?_
 skip
 exact GE.body [1] 1 (res2 rfl rfl rfl) rfl (⟨v43, rfl, hs42, hnewA, rfl⟩)
set_option maxRecDepth 100000 in
theorem l6Insert_old {W : World} {own : List Asn} {vL : Value} {uL : List Value} {L : List (List Int)} {vx : Value} {x : List Int}  (sL : IsS vL) (eL : Ent own fun w => Sl w vL L.length 1 uL) (mL : ∀ k, k < L.length → Ent own fun w => Ints w (uL.getD k undef) (L.getD k [])) (lL : uL.length = L.length) (aL : AllS uL)   (sx : IsS vx) (ex : Ent own fun w => Ints w vx x)  (hll : L.length ≤ 1073741824) (hle : ∀ k, k < L.length → (L.getD k []).length ≤ 1073741824) (hl : x.length ≤ 1073741824) (hde : Desc L) (hyes : L.contains x = true) : Spec Tryz.prog 66 [vL, vx] W own (fun v ow => v = .tuple #[vL, .bool (false)] ∧ ow = own) := by
 refine Spec.enter Tryz.f66 _ Tryz.func66 rfl (n := 46) rfl rfl ?_
 refine GC.seq (GC.region ?_)
 refine G.stepD (OD.assign rfl rfl) rfl rfl rfl ?_
 refine G.stepD (OD.assign rfl rfl) rfl rfl rfl ?_
 refine G.nil (GE.then_ (GC.seq (GC.region ?_)))
 refine G.stepD (OD.assign rfl rfl) rfl rfl rfl ?_
 refine G.nil (GE.then_ (GC.seq (GC.block ?_)))
 refine GC.loop (ι := Nat) (fun a => [(0, vL), (1, vx), (6, .int .i64 ((a : Int)))]) (fun a => own) (fun a => (a ≤ L.length) ∧ (∀ j, j < a → abvL (L.getD j []) x = true)) (fun a => L.length - a) 0 (⟨by omega, fun j hj => absurd hj (Nat.not_lt_zero j)⟩) ⟨rfl, rfl, rfl, trivial⟩ [] 0 rfl ?_
 rintro a ⟨ha, hab⟩
 refine GC.seq (GC.seq (GC.region ?_))
 refine G.stepD (OD.move rfl rfl) rfl rfl rfl ?_
 refine G.stepD (OD.move rfl rfl) rfl rfl rfl ?_
 refine G.stepD (OD.len rfl rfl et26 rfl eL) rfl rfl rfl ?_
 refine G.stepD (OD.lss rfl rfl rfl) rfl rfl rfl ?_
 refine G.stepD (OD.move rfl rfl) rfl rfl rfl ?_
 rcases Bool.eq_false_or_eq_true (decide ((a : Int) < (L.length : Nat))) with hg1 | hg1
 have hg1e := hg1
 refine G.at [] 0 (env' := [(0, vL), (1, vx), (6, .int .i64 ((a : Int))), (7, .int .i64 ((a : Int))), (8, vL), (9, .int .i64 ((L.length : Nat))), (10, .bool true), (11, .bool true)]) (⟨rfl, rfl, rfl, rfl, rfl, rfl, (congrArg (fun b => some (Value.bool b)) hg1e), (congrArg (fun b => some (Value.bool b)) hg1e), trivial⟩) rfl ?_
 replace hg1 := of_decide_eq_true hg1
 refine G.stepGD (OD.move rfl rfl) rfl rfl rfl rfl rfl ?_
 refine G.stepGD (OD.move rfl rfl) rfl rfl rfl rfl rfl ?_
 refine G.stepGD (OD.indexAddr rfl et26 rfl eL rfl (by omega)) rfl rfl rfl rfl rfl ?_
 refine G.stepGD (OD.loadElem rfl ti22 rfl eL (by omega) rfl) rfl rfl rfl rfl rfl ?_
 refine G.stepGD (OD.move rfl rfl) rfl rfl rfl rfl rfl ?_
 refine G.stepG (OG.call [(uL.getD (a) undef), vx] ent100 rfl rfl rfl rfl (by exact (l6Above_w (aL.get (by omega)) ((mL (a) (by omega))) sx ex (Nat.le_trans (hle a (by omega)) (by omega)) (hl)))) rfl rfl rfl rfl rfl ?_
 rintro _ _ ⟨rfl, hzz⟩; obtain rfl := hzz.symm
 refine G.stepD (OD.pickT rfl rfl rfl) rfl rfl rfl ?_
 refine G.nil (GE.then_ ?_)
 refine GC.cond rfl (fun hc2 => ?_) (fun hc2 => ?_)
 refine GC.skip (GE.then_ (GC.block (GC.region ?_)))
 refine G.stepD (OD.move rfl rfl) rfl rfl rfl ?_
 refine G.stepD (OD.addI rfl rfl rfl (by omega)) rfl rfl rfl ?_
 refine G.stepD (OD.assign rfl rfl) rfl rfl rfl ?_
 refine G.nil (GE.blockN ?_)
 exact GE.again (a + 1) (⟨by omega, fun j hj => (Nat.lt_succ_iff_lt_or_eq.1 hj).elim (hab j) (fun e => by rw [e]; exact hc2)⟩) (by first | omega | (dsimp only; omega)) ⟨rfl, rfl, rfl, trivial⟩ [] 0 rfl
 have hia : insA x L = a := insA_hit ha hab (fun _ => hc2)
 refine GC.exit (GE.pass (GE.pass (GE.hit (GE.then_ (GC.seq (GC.seq (GC.region ?_)))))))
 refine G.stepD (OD.move rfl rfl) rfl rfl rfl ?_
 refine G.stepD (OD.move rfl rfl) rfl rfl rfl ?_
 refine G.stepD (OD.len rfl rfl et26 rfl eL) rfl rfl rfl ?_
 refine G.stepD (OD.eqv (OD.lss rfl rfl rfl) (congrArg Value.bool hg1e)) rfl rfl rfl ?_
 refine G.stepD (OD.move rfl rfl) rfl rfl rfl ?_
 refine G.stepGD (OD.move rfl rfl) rfl rfl rfl rfl rfl ?_
 refine G.stepGD (OD.move rfl rfl) rfl rfl rfl rfl rfl ?_
 refine G.stepGD (OD.indexAddr rfl et26 rfl eL rfl (by omega)) rfl rfl rfl rfl rfl ?_
 refine G.stepGD (OD.loadElem rfl ti22 rfl eL (by omega) rfl) rfl rfl rfl rfl rfl ?_
 refine G.stepGD (OD.move rfl rfl) rfl rfl rfl rfl rfl ?_
 refine G.stepG (OG.call [(uL.getD (a) undef), vx] ent101 rfl rfl rfl rfl (by exact (l1Same_s (aL.get (by omega)) ((mL (a) (by omega))) sx ex (Nat.le_trans (hle a (by omega)) (by decide))))) rfl rfl rfl rfl rfl ?_
 rintro _ _ ⟨rfl, hzz⟩; obtain rfl := hzz.symm
 refine G.stepD (OD.pickT rfl rfl rfl) rfl rfl rfl ?_
 refine G.nil (GE.then_ ?_)
 refine GC.cond rfl (fun hc3 => ?_) (fun hc3 => ?_)
 refine GC.seq (GC.region ?_)
 refine G.stepD (OD.move rfl rfl) rfl rfl rfl ?_
 refine G.stepD (OD.assign rfl rfl) rfl rfl rfl ?_
 refine G.stepD (OD.assign rfl rfl) rfl rfl rfl ?_
 refine G.nil (GE.then_ (GC.ret (GE.passR ?_)))
 exact GE.body [] 0 (res2 rfl rfl rfl) rfl (⟨rfl, rfl⟩)
 exact absurd (hyes.symm.trans (by rw [← insA_mem hde, hia, hc3, Bool.and_false])).symm Bool.false_ne_true
 have hg1e := hg1
 refine G.at [] 0 (env' := [(0, vL), (1, vx), (6, .int .i64 ((a : Int))), (7, .int .i64 ((a : Int))), (8, vL), (9, .int .i64 ((L.length : Nat))), (10, .bool false), (11, .bool false)]) (⟨rfl, rfl, rfl, rfl, rfl, rfl, (congrArg (fun b => some (Value.bool b)) hg1e), (congrArg (fun b => some (Value.bool b)) hg1e), trivial⟩) rfl ?_
 replace hg1 := of_decide_eq_false hg1
 refine G.skipG rfl rfl rfl rfl rfl rfl (G.skipG rfl rfl rfl rfl rfl rfl (G.skipG rfl rfl rfl rfl rfl rfl (G.skipG rfl rfl rfl rfl rfl rfl (G.skipG rfl rfl rfl rfl rfl rfl (G.skipG rfl rfl rfl rfl rfl rfl ?_)))))
 refine G.stepD (OD.pickF rfl rfl rfl) rfl rfl rfl ?_
 refine G.nil (GE.then_ (GC.condF rfl ?_))
 have hia : insA x L = a := insA_hit ha hab (fun hh => absurd hh (by omega))
 refine GC.exit (GE.pass (GE.pass (GE.hit (GE.then_ (GC.seq (GC.seq (GC.region ?_)))))))
 refine G.stepD (OD.move rfl rfl) rfl rfl rfl ?_
 refine G.stepD (OD.move rfl rfl) rfl rfl rfl ?_
 refine G.stepD (OD.len rfl rfl et26 rfl eL) rfl rfl rfl ?_
 refine G.stepD (OD.eqv (OD.lss rfl rfl rfl) (congrArg Value.bool hg1e)) rfl rfl rfl ?_
 refine G.stepD (OD.move rfl rfl) rfl rfl rfl ?_
 refine G.skipG rfl rfl rfl rfl rfl rfl (G.skipG rfl rfl rfl rfl rfl rfl (G.skipG rfl rfl rfl rfl rfl rfl (G.skipG rfl rfl rfl rfl rfl rfl (G.skipG rfl rfl rfl rfl rfl rfl (G.skipG rfl rfl rfl rfl rfl rfl ?_)))))
 refine G.stepD (OD.pickF rfl rfl rfl) rfl rfl rfl ?_
 refine G.nil (GE.then_ ?_)
 exact absurd (hyes.symm.trans (by rw [← insA_mem hde, hia, decide_eq_false (by omega), Bool.false_and])).symm Bool.false_ne_true
end Go.Proofs.YtmckgdekblphoaaGreatDoor
namespace Go.Proofs.YtmckgdekblphoaaGreatDoor
set_option linter.unusedVariables false
set_option linter.unusedSimpArgs false
open Go.RowKit
set_option maxHeartbeats 4000000 in
set_option maxRecDepth 100000 in
theorem orbit_w {W : World} {own : List Asn} {cr : Int} {vcd : Value} {cd : List Int} {vx : Value} {x : List Int}  (scd : IsS vcd) (ecd : Ent own fun w => Ints w vcd cd)   (sx : IsS vx) (ex : Ent own fun w => Ints w vx x)  (hcr : 1 ≤ cr ∧ cr ≤ 4) (hcd : (cd.length : Int) = cr * cr) (hx : (x.length : Int) = cr) (h64 : All64 x) (htab : Ent own Pow10) : Spec Tryz.prog 54 [.agg #[.int .i64 (cr), vcd], vx] W own (fun v ow => ∃ (r0 : Value) (u0 : List Value), v = r0 ∧ IsS r0 ∧ AllS u0 ∧ u0.length = (oAll cr cd x).length ∧ ow = lst 22 r0 u0 :: many (ints 3) u0 (oAll cr cd x) :: own) := by
 refine Spec.enter Tryz.f54 _ Tryz.func54 rfl (n := 54) rfl rfl ?_
 refine GC.seq (GC.region ?_)
 refine G.step (OG.box (cs := [.int .i64 (cr), vcd]) rfl rfl rfl) rfl rfl rfl ?_
 rintro _ _ ⟨g1, rfl, rfl⟩
 refine G.stepD (OD.assign rfl rfl) rfl rfl rfl ?_
 refine G.nil (GE.then_ (GC.seq (GC.region ?_)))
 refine G.step (OG.makeMap keyL valB rfl rfl) rfl rfl rfl ?_
 rintro _ _ ⟨g2, rfl, rfl⟩
 refine G.stepD (OD.move rfl rfl) rfl rfl rfl ?_
 refine G.step (OG.call [vx] ent74 rfl rfl rfl rfl (by exact (formatInts_w sx (Ent.drop 2 ex) (h64) (by omega) ((Ent.drop 2 htab))))) rfl rfl rfl ?_
 rintro _ _ ⟨rfl, rfl⟩
 refine G.stepD0 (OD.insertM (kE := keyL) (vE := valB) (l := []) (k := x) (b := true) rfl mt81.ht ke9keyL rfl rfl rfl (i := 0) rfl) rfl rfl ?_
 refine G.stepD (OD.move rfl rfl) rfl rfl rfl ?_
 refine G.stepD (OD.assign rfl rfl) rfl rfl rfl ?_
 refine G.nil (GE.then_ (GC.seq (GC.region ?_)))
 refine G.stepD (OD.move rfl rfl) rfl rfl rfl ?_
 refine G.step (OG.call [vx] ent47 rfl rfl rfl rfl (by exact (clone_w sx (Ent.drop 2 ex) (by omega)))) rfl rfl rfl ?_
 rintro v3 _ ⟨_, rfl, hs4, rfl⟩
 refine G.step (OG.buildLst (xs := [.tmp 15]) (us := [v3]) rfl et26 rfl rfl rfl (allC (IsS.one hs4) rfl) rfl) rfl rfl rfl ?_
 rintro v5 _ ⟨hs6, rfl⟩
 refine G.stepD (OD.assign rfl rfl) rfl rfl rfl ?_
 refine G.nil (GE.then_ (GC.seq (GC.seq (GC.region ?_))))
 refine G.stepD (OD.assign rfl rfl) rfl rfl rfl ?_
 refine G.nil (GE.then_ (GC.block ?_))
 refine GC.many0 (ints 3) ?_
 refine GC.at [2, 0, 0, 0, 0] 0 (env' := [(0, .agg #[.int .i64 (cr), vcd]), (1, vx), (2, .pointer (some ⟨g1, 0, none⟩)), (4, .slice none 0 0), (10, .map (some g2)), (11, vx), (12, .string (fmtB x)), (13, .map (some g2)), (5, .map (some g2)), (14, vx), (15, v3), (16, v5), (6, v5), (7, .int .i64 (0))]) ⟨rfl, rfl, rfl, rfl, rfl, rfl, rfl, rfl, rfl, rfl, rfl, rfl, rfl, rfl, trivial⟩ (own' := ints 3 v3 x :: many (ints 3) [] [] :: lst 22 v5 [v3] :: mapA keyL valB g2 (aup x true []) :: box g1 28 [.int .i64 (cr), vcd] :: own) rfl ?_
 refine GC.manyPush (A := ints 3) (vs := []) (xs := []) rfl ?_
 refine GC.ownEq (own' := many (ints 3) [v3] [x] :: lst 22 v5 [v3] :: mapA keyL valB g2 (aup x true []) :: box g1 28 [.int .i64 (cr), vcd] :: own) (rfl) ?_
 refine GC.loop (ι := Nat × List (List Int) × List Value × Value) (fun ⟨k, gs, us, v⟩ => [(2, .pointer (some ⟨g1, 0, none⟩)), (5, .map (some g2)), (6, v), (7, .int .i64 ((k : Int)))]) (fun ⟨k, gs, us, v⟩ => many (ints 3) us gs :: lst 22 v us :: mapA keyL valB g2 (seenT gs) :: box g1 28 [.int .i64 (cr), vcd] :: own) (fun ⟨k, gs, us, v⟩ => (oC cr cd (1300 - k) gs k = oAll cr cd x) ∧ (k ≤ 1200) ∧ (gs.length ≤ 1204) ∧ (∀ y ∈ gs, (y.length : Int) = cr) ∧ (∀ y ∈ gs, All64 y) ∧ (us.length = gs.length) ∧ (AllS us) ∧ (IsS v)) (fun ⟨k, gs, us, v⟩ => 1300 - k) (0, [x], [v3], v5) (⟨rfl, by omega, by simp, fun y hy => by rw [List.mem_singleton.1 hy]; exact hx, fun y hy => by rw [List.mem_singleton.1 hy]; exact h64, rfl, (AllS.snoc AllS.nil hs4), hs6⟩) ⟨rfl, rfl, rfl, rfl, trivial⟩ [] 0 rfl ?_
 rintro ⟨k, gs, us, v⟩ ⟨hoc, hkk, hgl, hge, hg6, hul, ha, hv⟩
 refine GC.seq (GC.seq (GC.region ?_))
 refine G.stepD (OD.move rfl rfl) rfl rfl rfl ?_
 refine G.stepD (OD.move rfl rfl) rfl rfl rfl ?_
 refine G.stepD (OD.len rfl rfl et26 rfl (Ent.lst (i := 1) rfl)) rfl rfl rfl ?_
 refine G.stepD (OD.lss rfl rfl rfl) rfl rfl rfl ?_
 refine G.stepD (OD.move rfl rfl) rfl rfl rfl ?_
 rcases Bool.eq_false_or_eq_true (decide ((k : Int) < (us.length : Nat))) with hg7 | hg7
 have hg7e := hg7
 refine G.at [] 0 (env' := [(2, .pointer (some ⟨g1, 0, none⟩)), (5, .map (some g2)), (6, v), (7, .int .i64 ((k : Int))), (17, .int .i64 ((k : Int))), (18, v), (19, .int .i64 ((us.length : Nat))), (20, .bool true), (21, .bool true)]) (⟨rfl, rfl, rfl, rfl, rfl, rfl, rfl, (congrArg (fun b => some (Value.bool b)) hg7e), (congrArg (fun b => some (Value.bool b)) hg7e), trivial⟩) rfl ?_
 replace hg7 := of_decide_eq_true hg7
 refine G.stepGD (OD.move rfl rfl) rfl rfl rfl rfl rfl ?_
 refine G.stepGD (OD.len rfl rfl et26 rfl (Ent.lst (i := 1) rfl)) rfl rfl rfl rfl rfl ?_
 refine G.stepGD (OD.leq rfl rfl rfl) rfl rfl rfl rfl rfl ?_
 refine G.stepD (OD.pickT rfl rfl rfl) rfl rfl rfl ?_
 refine G.nil (GE.then_ ?_)
 refine GC.cond rfl (fun hc8 => ?_) (fun hc8 => ?_)
 replace hc8 := of_decide_eq_true hc8
 have hgl2 : gs.length ≤ 1200 := by omega
 have hkl : k < gs.length := by omega
 have hgkw := hge _ (getD_mem hkl)
 have hgk6 := hg6 _ (getD_mem hkl)
 refine GC.skip (GE.then_ (GC.seq (GC.block (GC.seq (GC.region ?_)))))
 refine G.stepD (OD.fieldAddr rfl rfl fa28_0) rfl rfl rfl ?_
 refine G.stepD (OD.load rfl ti3 rfl (i := 3) rfl rfl) rfl rfl rfl ?_
 refine G.stepD (OD.move rfl rfl) rfl rfl rfl ?_
 refine G.nil (GE.then_ (GC.block ?_))
 refine GC.loop (ι := Nat × List (List Int) × List Value × Value) (fun ⟨i, qs, uu, w⟩ => [(2, .pointer (some ⟨g1, 0, none⟩)), (5, .map (some g2)), (7, .int .i64 ((k : Int))), (29, .int .i64 (cr)), (6, w), (30, .int .i64 ((i : Int)))]) (fun ⟨i, qs, uu, w⟩ => many (ints 3) uu qs :: lst 22 w uu :: mapA keyL valB g2 (seenT qs) :: box g1 28 [.int .i64 (cr), vcd] :: own) (fun ⟨i, qs, uu, w⟩ => (i ≤ cr.toNat) ∧ (qs = (List.range i).foldl (oOne cr cd (gs.getD k [])) gs) ∧ (qs.length ≤ 1200 + i) ∧ (∀ y ∈ qs, (y.length : Int) = cr) ∧ (∀ y ∈ qs, All64 y) ∧ (uu.length = qs.length) ∧ (AllS uu) ∧ (IsS w)) (fun ⟨i, qs, uu, w⟩ => cr.toNat - i) (0, gs, us, v) (⟨by omega, rfl, by omega, hge, hg6, hul, ha, hv⟩) ⟨rfl, rfl, rfl, rfl, rfl, rfl, trivial⟩ [] 0 rfl ?_
 rintro ⟨i, qs, uu, w⟩ ⟨hi, hqs, hql, hqe, hq6, hqlen, hqa, hw⟩
 obtain ⟨hpre, hpg⟩ := oC_in hoc hkl hgl2 hi hqs
 have hgk : qs.getD k [] = gs.getD k [] := hpg.get hkl
 have hql1 := hpg.len
 refine GC.seq (GC.region ?_)
 refine G.stepD (OD.lss rfl rfl rfl) rfl rfl rfl ?_
 refine G.nil (GE.then_ (GC.seq ?_))
 refine GC.cond rfl (fun hc9 => ?_) (fun hc9 => ?_)
 replace hc9 := of_decide_eq_true hc9
 have hYl : ((rfF cr cd (i : Int) (gs.getD k [])).length : Int) = cr := by rw [rfF_len]; exact hgkw
 have hY6 : All64 (rfF cr cd (i : Int) (gs.getD k [])) := rfF_all64 hgk6
 refine GC.skip (GE.then_ (GC.seq (GC.block (GC.seq (GC.region ?_)))))
 refine G.stepD (OD.move rfl rfl) rfl rfl rfl ?_
 refine G.stepD (OD.assign rfl rfl) rfl rfl rfl ?_
 refine G.nil (GE.then_ (GC.seq ?_))
 refine GC.at [] 0 (env' := [(2, .pointer (some ⟨g1, 0, none⟩)), (5, .map (some g2)), (7, .int .i64 ((k : Int))), (29, .int .i64 (cr)), (6, w), (30, .int .i64 ((i : Int))), (8, .int .i64 ((i : Int)))]) ⟨rfl, rfl, rfl, rfl, rfl, rfl, rfl, trivial⟩ rfl ?_
 refine GC.par (its := [⟨33, [], [], [], [], fun _ => .agg #[.int .i64 (cr), vcd], fun _ => True, fun _ => []⟩,
     ⟨34, [], [], [], [], fun _ => .int .i64 ((i : Int)), fun _ => True, fun _ => []⟩,
     ⟨35, [], [], [], [], fun _ => w, fun _ => True, fun _ => []⟩,
     ⟨36, [], [], [], [], fun _ => .int .i64 ((k : Int)), fun _ => True, fun _ => []⟩,
     ⟨37, [(2, 35), (3, 36)], [], [], [], fun _ => elemPtr w 1 (k), fun _ => True, fun _ => []⟩,
     ⟨38, [(4, 37)], [], [], [], fun _ => (uu.getD (k) undef), fun _ => True, fun _ => []⟩,
     ⟨39, [(0, 33), (1, 34), (5, 38)], [], [], [6], fun ds => ((ds.getD 0 []).getD 0 undef), fun ds => IsS ((ds.getD 0 []).getD 0 undef), fun ds => [ints 3 ((ds.getD 0 []).getD 0 undef) (rfF cr cd (i : Int) (qs.getD (k) []))]⟩]) (by kernel_rfl) (by kernel_rfl) (POps.cons ?_ (POps.cons ?_ (POps.cons ?_ (POps.cons ?_ (POps.cons ?_ (POps.cons ?_ (POps.cons ?_ POps.nil))))))) ?_
 intro θ R hd
 exact Opp.plain (OG.imp (OD.loadAgg rfl ti28 rfl (i := 3) rfl (us := [.int .i64 (cr), vcd]) rfl rfl) (by rintro _ _ ⟨rfl, rfl⟩; exact ⟨[], rfl, trivial, rfl⟩)) rfl
 intro θ R hd
 exact Opp.plain (OG.imp (OD.move rfl rfl) (by rintro _ _ ⟨rfl, rfl⟩; exact ⟨[], rfl, trivial, rfl⟩)) rfl
 intro θ R hd
 exact Opp.plain (OG.imp (OD.move rfl rfl) (by rintro _ _ ⟨rfl, rfl⟩; exact ⟨[], rfl, trivial, rfl⟩)) rfl
 intro θ R hd
 exact Opp.plain (OG.imp (OD.move rfl rfl) (by rintro _ _ ⟨rfl, rfl⟩; exact ⟨[], rfl, trivial, rfl⟩)) rfl
 intro θ R hd
 obtain ⟨h2d, h3d, _⟩ := hd
 exact Opp.plain (OG.imp (OD.indexAddr rfl et26 rfl (Ent.lst (i := 1) rfl) rfl (by omega)) (by rintro _ _ ⟨rfl, rfl⟩; exact ⟨[], rfl, trivial, rfl⟩)) rfl
 intro θ R hd
 obtain ⟨h4d, _⟩ := hd
 exact Opp.plain (OG.imp (OD.loadElem rfl ti22 rfl (Ent.lst (i := 1) rfl) (by omega) rfl) (by rintro _ _ ⟨rfl, rfl⟩; exact ⟨[], rfl, trivial, rfl⟩)) rfl
 intro θ R hd
 obtain ⟨h0d, h1d, h5d, _⟩ := hd
 exact Opp.plain (OG.imp (OG.call [.agg #[.int .i64 (cr), vcd], .int .i64 ((i : Int)), (uu.getD (k) undef)] ent91 rfl rfl rfl rfl (by exact (reflectWeight_w scd (Ent.drop 4 ecd.app) (hqa.get (by omega)) (Ent.manyInts (i := 0) rfl ⟨by first | omega | (simp; omega), by first | omega | (simp; omega)⟩) (hcr) (hcd) (by omega) (by rw [hgk]; exact hgkw)))) (by rintro v10 _ ⟨_, rfl, hs11, rfl⟩; exact ⟨[v10], rfl, hs11, rfl⟩)) rfl
 intro θ hall
 obtain ⟨_, _, _, _, _, _, h6a, _⟩ := hall
 refine G.at [] 0 (env' := [(2, .pointer (some ⟨g1, 0, none⟩)), (5, .map (some g2)), (7, .int .i64 ((k : Int))), (29, .int .i64 (cr)), (6, w), (30, .int .i64 ((i : Int))), (39, ((θ 6).getD 0 undef))]) ⟨rfl, rfl, rfl, rfl, rfl, rfl, rfl, trivial⟩ (own' := ints 3 ((θ 6).getD 0 undef) (rfF cr cd (i : Int) (qs.getD (k) [])) :: many (ints 3) uu qs :: lst 22 w uu :: mapA keyL valB g2 (seenT qs) :: box g1 28 [.int .i64 (cr), vcd] :: own) rfl ?_
 have hs12 : IsS ((θ 6).getD 0 undef) := h6a
 clear h6a
 generalize ((θ 6).getD 0 undef) = v13 at *
 show G _ _ _ [_] _ _ _ _
 refine G.stepD (OD.assign rfl rfl) rfl rfl rfl ?_
 refine G.nil (GE.then_ (GC.seq ?_))
 refine GC.ownEq (own' := ints 3 v13 (rfF cr cd (i : Int) (gs.getD k [])) :: many (ints 3) uu qs :: lst 22 w uu :: mapA keyL valB g2 (seenT qs) :: box g1 28 [.int .i64 (cr), vcd] :: own) (by rw [hgk]) ?_
 refine GC.region ?_
 refine G.stepD (OD.move rfl rfl) rfl rfl rfl ?_
 refine G.stepD (OD.move rfl rfl) rfl rfl rfl ?_
 refine G.step (OG.call [v13] ent74 rfl rfl rfl rfl (by exact (formatInts_w hs12 (Ent.ints (i := 0) rfl) (hY6) (by omega) ((Ent.drop 5 htab))))) rfl rfl rfl ?_
 rintro _ _ ⟨rfl, rfl⟩
 refine G.stepD (OD.eqv (OD.lookup (k := (rfF cr cd (i : Int) (gs.getD k []))) rfl mt81 ke9keyL rfl rfl (Ent.map (kE := keyL) (vE := valB) (l := seenT qs) (i := 3) rfl)) (congrArg (Value.bool) ((alu_seen _ _) : _ = (qs.contains (rfF cr cd (i : Int) (gs.getD k [])))))) rfl rfl rfl ?_
 refine G.stepD (OD.not rfl rfl) rfl rfl rfl ?_
 refine G.nil (GE.then_ ?_)
 refine GC.cond rfl (fun hc14 => ?_) (fun hc14 => ?_)
 replace hc14 := eq_false_of_not hc14
 refine GC.seq (GC.region ?_)
 refine G.stepD (OD.move rfl rfl) rfl rfl rfl ?_
 refine G.stepD (OD.move rfl rfl) rfl rfl rfl ?_
 refine G.step (OG.call [v13] ent74 rfl rfl rfl rfl (by exact (formatInts_w hs12 (Ent.ints (i := 0) rfl) (hY6) (by omega) ((Ent.drop 5 htab))))) rfl rfl rfl ?_
 rintro _ _ ⟨rfl, rfl⟩
 refine G.stepD0 (OD.mapUpdate (kE := keyL) (vE := valB) (l := seenT qs) (k := (rfF cr cd (i : Int) (gs.getD k []))) (b := true) rfl mt81.ht ke9keyL rfl rfl rfl (i := 3) rfl) rfl rfl ?_
 refine G.nil (GE.then_ (GC.region ?_))
 refine G.stepD (OD.move rfl rfl) rfl rfl rfl ?_
 refine G.stepD (OD.move rfl rfl) rfl rfl rfl ?_
 refine G.step (OG.buildLst (xs := [.tmp 49]) (us := [v13]) rfl et26 rfl rfl rfl (allC (IsS.one hs12) rfl) rfl) rfl rfl rfl ?_
 rintro v15 _ ⟨hs16, rfl⟩
 refine G.step (OG.appendLst 3 rfl rfl et26 rfl rfl rfl (Ent.lst (i := 0) rfl) (List.all_eq_true.2 fun u hu => by simpa using (AllS.snoc AllS.nil hs12).one u hu) (by simp [maxLen] <;> omega)) rfl rfl rfl ?_
 rintro v17 _ ⟨hs18, rfl⟩
 refine G.stepD (OD.assign rfl rfl) rfl rfl rfl ?_
 refine G.nil (GE.blockN (GE.then_ (GC.region ?_)))
 refine G.stepD (OD.addI rfl rfl rfl (by omega)) rfl rfl rfl ?_
 refine G.stepD (OD.move rfl rfl) rfl rfl rfl ?_
 refine G.nil ?_
 refine GE.at [1, 1, 0, 0, 0, 0] 0 (env' := [(2, .pointer (some ⟨g1, 0, none⟩)), (5, .map (some g2)), (7, .int .i64 ((k : Int))), (29, .int .i64 (cr)), (39, v13), (9, v13), (40, .map (some g2)), (41, v13), (42, .string (fmtB (rfF cr cd (i : Int) (gs.getD k [])))), (43, .bool (qs.contains (rfF cr cd (i : Int) (gs.getD k [])))), (44, .bool (!(qs.contains (rfF cr cd (i : Int) (gs.getD k []))))), (45, .map (some g2)), (46, v13), (47, .string (fmtB (rfF cr cd (i : Int) (gs.getD k [])))), (48, w), (49, v13), (50, v15), (51, v17), (6, v17), (52, .int .i64 ((i : Int) + 1)), (30, .int .i64 ((i : Int) + 1))]) ⟨rfl, rfl, rfl, rfl, rfl, rfl, rfl, rfl, rfl, rfl, rfl, rfl, rfl, rfl, rfl, rfl, rfl, rfl, rfl, rfl, rfl, trivial⟩ (own' := ints 3 v13 (rfF cr cd (i : Int) (gs.getD k [])) :: many (ints 3) uu qs :: lst 22 v15 [v13] :: lst 22 v17 (uu ++ [v13]) :: mapA keyL valB g2 (aup (rfF cr cd (i : Int) (gs.getD k [])) true (seenT qs)) :: box g1 28 [.int .i64 (cr), vcd] :: own) rfl ?_
 refine GE.manyPush (by omega) ?_
 refine GE.ownEq (own' := many (ints 3) (uu ++ [v13]) (qs ++ [rfF cr cd (i : Int) (gs.getD k [])]) :: lst 22 v15 [v13] :: lst 22 v17 (uu ++ [v13]) :: mapA keyL valB g2 (seenT (qs ++ [rfF cr cd (i : Int) (gs.getD k [])])) :: box g1 28 [.int .i64 (cr), vcd] :: own) (by rw [aup_seen hc14] <;> rfl) ?_
 exact GE.again (i + 1, qs ++ [rfF cr cd (i : Int) (gs.getD k [])], uu ++ [v13], v17) (⟨by omega, fold_next hqs (oOne_yes rfl hc14), by rw [List.length_append, List.length_singleton]; omega, fun z hz => (List.mem_append.1 hz).elim (hqe z) (fun e => by rw [List.mem_singleton.1 e]; exact hYl), fun z hz => (List.mem_append.1 hz).elim (hq6 z) (fun e => by rw [List.mem_singleton.1 e]; exact hY6), by rw [List.length_append, List.length_append]; simp; omega, (hqa.snoc hs12), hs18⟩) (by first | omega | (dsimp only; omega)) ⟨rfl, rfl, rfl, rfl, rfl, rfl, trivial⟩ [0, 1, 1, 1] 1 rfl
 replace hc14 := eq_true_of_not hc14
 refine GC.skip (GE.blockN (GE.then_ (GC.region ?_)))
 refine G.stepD (OD.addI rfl rfl rfl (by omega)) rfl rfl rfl ?_
 refine G.stepD (OD.move rfl rfl) rfl rfl rfl ?_
 refine G.nil ?_
 exact GE.again (i + 1, qs, uu, w) (⟨by omega, fold_next hqs (oOne_no rfl hc14), by omega, hqe, hq6, hqlen, hqa, hw⟩) (by first | omega | (dsimp only; omega)) ⟨rfl, rfl, rfl, rfl, rfl, rfl, trivial⟩ [1, 1, 1, 1] 1 rfl
 replace hc9 := of_decide_eq_false hc9
 refine GC.exit (GE.pass (GE.pass (GE.hit (GE.blockN (GE.then_ (GC.region ?_))))))
 refine G.stepD (OD.move rfl rfl) rfl rfl rfl ?_
 refine G.stepD (OD.addI rfl rfl rfl (by omega)) rfl rfl rfl ?_
 refine G.stepD (OD.assign rfl rfl) rfl rfl rfl ?_
 refine G.nil ?_
 exact GE.again (k + 1, qs, uu, w) (⟨by rw [hqs, show i = cr.toNat by omega]; exact (oC_go hkl hgl2).symm.trans hoc, by omega, by omega, hqe, hq6, hqlen, hqa, hw⟩) (by first | omega | (dsimp only; omega)) ⟨rfl, rfl, rfl, rfl, trivial⟩ [] 0 rfl
 replace hc8 := of_decide_eq_false hc8
 have hga : gs = oAll cr cd x := (oC_stop (fun hh => absurd hh.2 (by omega))).symm.trans hoc
 refine GC.exit (GE.pass (GE.pass (GE.hit (GE.then_ (GC.seq (GC.region ?_))))))
 refine G.stepD (OD.move rfl rfl) rfl rfl rfl ?_
 refine G.stepD (OD.assign rfl rfl) rfl rfl rfl ?_
 refine G.nil (GE.then_ (GC.ret ?_))
 exact GE.body [1, 0] 2 (res1 rfl rfl) rfl (⟨v, us, rfl, hv, ha, (by rw [← hga]; exact hul), congrArg (fun (l0 : List (List Int)) => lst 22 v us :: many (ints 3) us l0 :: own) ((hga : gs = oAll cr cd x))⟩)
 have hg7e := hg7
 refine G.at [] 0 (env' := [(2, .pointer (some ⟨g1, 0, none⟩)), (5, .map (some g2)), (6, v), (7, .int .i64 ((k : Int))), (17, .int .i64 ((k : Int))), (18, v), (19, .int .i64 ((us.length : Nat))), (20, .bool false), (21, .bool false)]) (⟨rfl, rfl, rfl, rfl, rfl, rfl, rfl, (congrArg (fun b => some (Value.bool b)) hg7e), (congrArg (fun b => some (Value.bool b)) hg7e), trivial⟩) rfl ?_
 replace hg7 := of_decide_eq_false hg7
 refine G.skipG rfl rfl rfl rfl rfl rfl (G.skipG rfl rfl rfl rfl rfl rfl (G.skipG rfl rfl rfl rfl rfl rfl ?_))
 refine G.stepD (OD.pickF rfl rfl rfl) rfl rfl rfl ?_
 refine G.nil (GE.then_ (GC.condF rfl ?_))
 have hga : gs = oAll cr cd x := (oC_stop (fun hh => absurd hh.1 (by omega))).symm.trans hoc
 refine GC.exit (GE.pass (GE.pass (GE.hit (GE.then_ (GC.seq (GC.region ?_))))))
 refine G.stepD (OD.move rfl rfl) rfl rfl rfl ?_
 refine G.stepD (OD.assign rfl rfl) rfl rfl rfl ?_
 refine G.nil (GE.then_ (GC.ret ?_))
 exact GE.body [1, 0] 2 (res1 rfl rfl) rfl (⟨v, us, rfl, hv, ha, (by rw [← hga]; exact hul), congrArg (fun (l0 : List (List Int)) => lst 22 v us :: many (ints 3) us l0 :: own) ((hga : gs = oAll cr cd x))⟩)
end Go.Proofs.YtmckgdekblphoaaGreatDoor
namespace Go.Proofs.YtmckgdekblphoaaGreatDoor
set_option linter.unusedVariables false
set_option linter.unusedSimpArgs false
open Go.RowKit
end Go.Proofs.YtmckgdekblphoaaGreatDoor
