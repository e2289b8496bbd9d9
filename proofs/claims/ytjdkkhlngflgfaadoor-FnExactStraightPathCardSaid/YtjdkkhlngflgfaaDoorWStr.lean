/-
  Strings, names and lists: contracts by walks through the code.
-/
import Derived.Test.YtjdkkhlngflgfaaDoorFct
import Derived.Test.YtjdkkhlngflgfaaDoorCarQ
namespace Go.Proofs.YtjdkkhlngflgfaaDoor
set_option linter.unusedVariables false
set_option linter.unusedSimpArgs false
open Go.RowKit



set_option maxRecDepth 100000 in
theorem inside_w {W : World} {own : List Asn} {n : Int} {lo : Int} {hi : Int}    : Spec Tryd.prog 30 [.int .i64 (n), .int .i64 (lo), .int .i64 (hi)] W own (fun v ow => v = .bool (inB n lo hi) ∧ ow = own) := by
 refine Spec.enter Tryd.f30 _ Tryd.func30 rfl (n := 15) rfl rfl ?_
 refine GC.seq (GC.region ?_)
 refine G.stepD (OD.assign rfl rfl) rfl rfl rfl ?_
 refine G.nil (GE.then_ (GC.seq (GC.region ?_)))
 refine G.stepD (OD.move rfl rfl) rfl rfl rfl ?_
 refine G.stepD (OD.move rfl rfl) rfl rfl rfl ?_
 refine G.stepD (OD.leq rfl rfl rfl) rfl rfl rfl ?_
 refine G.stepD (OD.move rfl rfl) rfl rfl rfl ?_
 rcases Bool.eq_false_or_eq_true (decide (lo ≤ n)) with hg1 | hg1
 have hg1e := hg1
 refine G.at [] 0 (env' := [(0, .int .i64 (n)), (1, .int .i64 (lo)), (2, .int .i64 (hi)), (6, .bool false), (7, .int .i64 (lo)), (8, .int .i64 (n)), (9, .bool true), (10, .bool true)]) (⟨rfl, rfl, rfl, rfl, rfl, rfl, (congrArg (fun b => some (Value.bool b)) hg1e), (congrArg (fun b => some (Value.bool b)) hg1e), trivial⟩) rfl ?_
 replace hg1 := of_decide_eq_true hg1
 refine G.stepGD (OD.move rfl rfl) rfl rfl rfl rfl rfl ?_
 refine G.stepGD (OD.move rfl rfl) rfl rfl rfl rfl rfl ?_
 refine G.stepGD (OD.leq rfl rfl rfl) rfl rfl rfl rfl rfl ?_
 refine G.stepD (OD.pickT rfl rfl rfl) rfl rfl rfl ?_
 refine G.stepD (OD.assign rfl rfl) rfl rfl rfl ?_
 refine G.nil (GE.then_ (GC.ret ?_))
 exact GE.body [] 0 (res1 rfl rfl) rfl (⟨congrArg (fun (a0 : Bool) => (.bool (a0) : Value)) ((by unfold inB; simp; omega : (decide (n ≤ hi) : Bool) = inB n lo hi)), rfl⟩)
 have hg1e := hg1
 refine G.at [] 0 (env' := [(0, .int .i64 (n)), (1, .int .i64 (lo)), (2, .int .i64 (hi)), (6, .bool false), (7, .int .i64 (lo)), (8, .int .i64 (n)), (9, .bool false), (10, .bool false)]) (⟨rfl, rfl, rfl, rfl, rfl, rfl, (congrArg (fun b => some (Value.bool b)) hg1e), (congrArg (fun b => some (Value.bool b)) hg1e), trivial⟩) rfl ?_
 replace hg1 := of_decide_eq_false hg1
 refine G.skipG rfl rfl rfl rfl rfl rfl (G.skipG rfl rfl rfl rfl rfl rfl (G.skipG rfl rfl rfl rfl rfl rfl ?_))
 refine G.stepD (OD.pickF rfl rfl rfl) rfl rfl rfl ?_
 refine G.stepD (OD.assign rfl rfl) rfl rfl rfl ?_
 refine G.nil (GE.then_ (GC.ret ?_))
 exact GE.body [] 0 (res1 rfl rfl) rfl (⟨congrArg (fun (a0 : Bool) => (.bool (a0) : Value)) ((by unfold inB; simp; omega : (false : Bool) = inB n lo hi)), rfl⟩)

set_option maxRecDepth 100000 in
theorem l1In_w {W : World} {own : List Asn} {n : Int} {lo : Int} {hi : Int}    : Spec Tryd.prog 26 [.int .i64 (n), .int .i64 (lo), .int .i64 (hi)] W own (fun v ow => v = .bool (inB n lo hi) ∧ ow = own) := by
 refine Spec.enter Tryd.f26 _ Tryd.func26 rfl (n := 15) rfl rfl ?_
 refine GC.seq (GC.region ?_)
 refine G.stepD (OD.assign rfl rfl) rfl rfl rfl ?_
 refine G.nil (GE.then_ (GC.seq (GC.region ?_)))
 refine G.stepD (OD.move rfl rfl) rfl rfl rfl ?_
 refine G.stepD (OD.move rfl rfl) rfl rfl rfl ?_
 refine G.stepD (OD.geq rfl rfl rfl) rfl rfl rfl ?_
 refine G.stepD (OD.move rfl rfl) rfl rfl rfl ?_
 rcases Bool.eq_false_or_eq_true (decide (lo ≤ n)) with hg1 | hg1
 have hg1e := hg1
 refine G.at [] 0 (env' := [(0, .int .i64 (n)), (1, .int .i64 (lo)), (2, .int .i64 (hi)), (6, .bool false), (7, .int .i64 (n)), (8, .int .i64 (lo)), (9, .bool true), (10, .bool true)]) (⟨rfl, rfl, rfl, rfl, rfl, rfl, (congrArg (fun b => some (Value.bool b)) hg1e), (congrArg (fun b => some (Value.bool b)) hg1e), trivial⟩) rfl ?_
 replace hg1 := of_decide_eq_true hg1
 refine G.stepGD (OD.move rfl rfl) rfl rfl rfl rfl rfl ?_
 refine G.stepGD (OD.move rfl rfl) rfl rfl rfl rfl rfl ?_
 refine G.stepGD (OD.leq rfl rfl rfl) rfl rfl rfl rfl rfl ?_
 refine G.stepD (OD.pickT rfl rfl rfl) rfl rfl rfl ?_
 refine G.stepD (OD.assign rfl rfl) rfl rfl rfl ?_
 refine G.nil (GE.then_ (GC.ret ?_))
 exact GE.body [] 0 (res1 rfl rfl) rfl (⟨congrArg (fun (a0 : Bool) => (.bool (a0) : Value)) ((by unfold inB; simp; omega : (decide (n ≤ hi) : Bool) = inB n lo hi)), rfl⟩)
 have hg1e := hg1
 refine G.at [] 0 (env' := [(0, .int .i64 (n)), (1, .int .i64 (lo)), (2, .int .i64 (hi)), (6, .bool false), (7, .int .i64 (n)), (8, .int .i64 (lo)), (9, .bool false), (10, .bool false)]) (⟨rfl, rfl, rfl, rfl, rfl, rfl, (congrArg (fun b => some (Value.bool b)) hg1e), (congrArg (fun b => some (Value.bool b)) hg1e), trivial⟩) rfl ?_
 replace hg1 := of_decide_eq_false hg1
 refine G.skipG rfl rfl rfl rfl rfl rfl (G.skipG rfl rfl rfl rfl rfl rfl (G.skipG rfl rfl rfl rfl rfl rfl ?_))
 refine G.stepD (OD.pickF rfl rfl rfl) rfl rfl rfl ?_
 refine G.stepD (OD.assign rfl rfl) rfl rfl rfl ?_
 refine G.nil (GE.then_ (GC.ret ?_))
 exact GE.body [] 0 (res1 rfl rfl) rfl (⟨congrArg (fun (a0 : Bool) => (.bool (a0) : Value)) ((by unfold inB; simp; omega : (false : Bool) = inB n lo hi)), rfl⟩)

set_option maxRecDepth 100000 in
theorem partNames_w {W : World} {own : List Asn}     : Spec Tryd.prog 42 [] W own (fun v ow => ∃ (r0 : Value), v = r0 ∧ IsS r0 ∧ ow = strs 9 r0 nameL :: own) := by
 refine Spec.enter Tryd.f42 _ Tryd.func42 rfl (n := 2) rfl rfl ?_
 refine GC.seq (GC.region ?_)
 refine G.stepD (OD.assign rfl rfl) rfl rfl rfl ?_
 refine G.nil (GE.then_ (GC.seq (GC.region ?_)))
 refine G.step (OG.buildStrs (os := [.const (.string (⟨#[65, 49]⟩)), .const (.string (⟨#[65, 50]⟩)), .const (.string (⟨#[65, 51]⟩)), .const (.string (⟨#[65, 52]⟩)), .const (.string (⟨#[66, 50]⟩)), .const (.string (⟨#[66, 51]⟩)), .const (.string (⟨#[66, 52]⟩)), .const (.string (⟨#[67, 51]⟩)), .const (.string (⟨#[67, 52]⟩)), .const (.string (⟨#[68, 52]⟩)), .const (.string (⟨#[70, 52]⟩)), .const (.string (⟨#[71, 50]⟩))]) (xs := [⟨#[65, 49]⟩, ⟨#[65, 50]⟩, ⟨#[65, 51]⟩, ⟨#[65, 52]⟩, ⟨#[66, 50]⟩, ⟨#[66, 51]⟩, ⟨#[66, 52]⟩, ⟨#[67, 51]⟩, ⟨#[67, 52]⟩, ⟨#[68, 52]⟩, ⟨#[70, 52]⟩, ⟨#[71, 50]⟩]) rfl et43 rfl rfl rfl rfl rfl) rfl rfl rfl ?_
 rintro v1 _ ⟨hs2, rfl⟩
 refine G.stepD (OD.assign rfl rfl) rfl rfl rfl ?_
 refine G.nil (GE.then_ (GC.ret ?_))
 exact GE.body [] 0 (res1 rfl rfl) rfl (⟨v1, rfl, hs2, rfl⟩)

set_option maxRecDepth 100000 in
theorem l5Names_w {W : World} {own : List Asn}     : Spec Tryd.prog 33 [] W own (fun v ow => ∃ (r0 : Value), v = r0 ∧ IsS r0 ∧ ow = strs 9 r0 nameL :: own) := by
 refine Spec.enter Tryd.f33 _ Tryd.func33 rfl (n := 2) rfl rfl ?_
 refine GC.seq (GC.region ?_)
 refine G.stepD (OD.assign rfl rfl) rfl rfl rfl ?_
 refine G.nil (GE.then_ (GC.seq (GC.region ?_)))
 refine G.step (OG.buildStrs (os := [.const (.string (⟨#[65, 49]⟩)), .const (.string (⟨#[65, 50]⟩)), .const (.string (⟨#[65, 51]⟩)), .const (.string (⟨#[65, 52]⟩)), .const (.string (⟨#[66, 50]⟩)), .const (.string (⟨#[66, 51]⟩)), .const (.string (⟨#[66, 52]⟩)), .const (.string (⟨#[67, 51]⟩)), .const (.string (⟨#[67, 52]⟩)), .const (.string (⟨#[68, 52]⟩)), .const (.string (⟨#[70, 52]⟩)), .const (.string (⟨#[71, 50]⟩))]) (xs := [⟨#[65, 49]⟩, ⟨#[65, 50]⟩, ⟨#[65, 51]⟩, ⟨#[65, 52]⟩, ⟨#[66, 50]⟩, ⟨#[66, 51]⟩, ⟨#[66, 52]⟩, ⟨#[67, 51]⟩, ⟨#[67, 52]⟩, ⟨#[68, 52]⟩, ⟨#[70, 52]⟩, ⟨#[71, 50]⟩]) rfl et43 rfl rfl rfl rfl rfl) rfl rfl rfl ?_
 rintro v1 _ ⟨hs2, rfl⟩
 refine G.stepD (OD.assign rfl rfl) rfl rfl rfl ?_
 refine G.nil (GE.then_ (GC.ret ?_))
 exact GE.body [] 0 (res1 rfl rfl) rfl (⟨v1, rfl, hs2, rfl⟩)

set_option maxRecDepth 100000 in
theorem indexS_w {W : World} {own : List Asn} {vx : Value} {x : List ByteArray} {s : ByteArray}  (sx : IsS vx) (ex : Ent own fun w => Strs w vx x)   (hl : x.length ≤ 9223372036854775807) : Spec Tryd.prog 62 [vx, .string (s)] W own (fun v ow => v = .int .i64 (posS x s) ∧ ow = own) := by
 refine Spec.enter Tryd.f62 _ Tryd.func62 rfl (n := 19) rfl rfl ?_
 refine GC.seq (GC.region ?_)
 refine G.stepD (OD.assign rfl rfl) rfl rfl rfl ?_
 refine G.nil (GE.then_ (GC.seq (GC.seq (GC.region ?_))))
 refine G.stepD (OD.move rfl rfl) rfl rfl rfl ?_
 refine G.stepD (OD.len rfl rfl et43 rfl ex) rfl rfl rfl ?_
 refine G.stepD (OD.move rfl rfl) rfl rfl rfl ?_
 refine G.nil (GE.then_ (GC.block ?_))
 refine GC.loop (ι := Nat) (fun k => [(0, vx), (1, .string (s)), (7, .int .i64 ((x.length : Nat))), (8, .int .i64 ((k : Int)))]) (fun k => own) (fun k => (k ≤ x.length) ∧ ((x.take k).any ((strEq s ·)) = false)) (fun k => x.length - k) 0 (⟨by omega, by simp⟩) ⟨rfl, rfl, rfl, rfl, trivial⟩ [] 0 rfl ?_
 rintro k ⟨hk, ht⟩
 refine GC.seq (GC.region ?_)
 refine G.stepD (OD.lss rfl rfl rfl) rfl rfl rfl ?_
 refine G.nil (GE.then_ (GC.seq ?_))
 refine GC.cond rfl (fun hc1 => ?_) (fun hc1 => ?_)
 replace hc1 := of_decide_eq_true hc1
 refine GC.skip (GE.then_ (GC.seq (GC.block (GC.seq (GC.region ?_)))))
 refine G.stepD (OD.move rfl rfl) rfl rfl rfl ?_
 refine G.stepD (OD.assign rfl rfl) rfl rfl rfl ?_
 refine G.nil (GE.then_ (GC.seq (GC.region ?_)))
 refine G.stepD (OD.move rfl rfl) rfl rfl rfl ?_
 refine G.stepD (OD.move rfl rfl) rfl rfl rfl ?_
 refine G.stepD (OD.move rfl rfl) rfl rfl rfl ?_
 refine G.stepD (OD.indexAddr rfl et43 rfl ex rfl (by omega)) rfl rfl rfl ?_
 refine G.stepD (OD.loadStr rfl ti9 rfl ex (by omega)) rfl rfl rfl ?_
 refine G.stepD (OD.strEql rfl rfl rfl) rfl rfl rfl ?_
 refine G.nil (GE.then_ ?_)
 refine GC.cond rfl (fun hc2 => ?_) (fun hc2 => ?_)
 refine GC.seq (GC.region ?_)
 refine G.stepD (OD.move rfl rfl) rfl rfl rfl ?_
 refine G.stepD (OD.assign rfl rfl) rfl rfl rfl ?_
 refine G.nil (GE.then_ (GC.ret (GE.blockR (GE.passR (GE.passR (GE.blockR (GE.passR ?_)))))))
 exact GE.body [] 0 (res1 rfl rfl) rfl (⟨congrArg (fun (a0 : Int) => (.int .i64 (a0) : Value)) (((posF_at (d := ⟨#[]⟩) (by omega) ht (by assumption)).symm : ((k : Int) : Int) = posS x s)), rfl⟩)
 refine GC.skip (GE.blockN (GE.then_ (GC.region ?_)))
 refine G.stepD (OD.addI rfl rfl rfl (by omega)) rfl rfl rfl ?_
 refine G.stepD (OD.move rfl rfl) rfl rfl rfl ?_
 refine G.nil ?_
 exact GE.again (k + 1) (⟨by omega, any_take_succ (d := ⟨#[]⟩) (by omega) ht (by assumption)⟩) (by first | omega | (dsimp only; omega)) ⟨rfl, rfl, rfl, rfl, trivial⟩ [] 0 rfl
 replace hc1 := of_decide_eq_false hc1
 refine GC.exit (GE.pass (GE.pass (GE.hit (GE.then_ (GC.seq (GC.region ?_))))))
 refine G.stepD (OD.assign rfl rfl) rfl rfl rfl ?_
 refine G.nil (GE.then_ (GC.ret ?_))
 exact GE.body [] 0 (res1 rfl rfl) rfl (⟨congrArg (fun (a0 : Int) => (.int .i64 (a0) : Value)) (((posF_none (any_take_all (by omega) ht)).symm : (-1 : Int) = posS x s)), rfl⟩)

set_option maxRecDepth 100000 in
theorem containsS_w {W : World} {own : List Asn} {vx : Value} {x : List ByteArray} {s : ByteArray}  (sx : IsS vx) (ex : Ent own fun w => Strs w vx x)   (hl : x.length ≤ 9223372036854775807) : Spec Tryd.prog 53 [vx, .string (s)] W own (fun v ow => v = .bool (hasS x s) ∧ ow = own) := by
 refine Spec.enter Tryd.f53 _ Tryd.func53 rfl (n := 9) rfl rfl ?_
 refine GC.seq (GC.region ?_)
 refine G.stepD (OD.assign rfl rfl) rfl rfl rfl ?_
 refine G.nil (GE.then_ (GC.seq (GC.region ?_)))
 refine G.stepD (OD.move rfl rfl) rfl rfl rfl ?_
 refine G.stepD (OD.move rfl rfl) rfl rfl rfl ?_
 refine G.step (OG.call [vx, .string (s)] ent62 rfl rfl rfl rfl (by exact (indexS_w sx ex (by omega)))) rfl rfl rfl ?_
 rintro _ _ ⟨rfl, hzz⟩; obtain rfl := hzz.symm
 refine G.stepD (OD.geq rfl rfl rfl) rfl rfl rfl ?_
 refine G.stepD (OD.assign rfl rfl) rfl rfl rfl ?_
 refine G.nil (GE.then_ (GC.ret ?_))
 exact GE.body [] 0 (res1 rfl rfl) rfl (⟨congrArg (fun (a0 : Bool) => (.bool (a0) : Value)) ((posF_ge : (decide (0 ≤ posS x s) : Bool) = hasS x s)), rfl⟩)

set_option maxRecDepth 100000 in
theorem indexI_w {W : World} {own : List Asn} {vx : Value} {x : List Int} {q : Int}  (sx : IsS vx) (ex : Ent own fun w => Ints w vx x)   (hl : x.length ≤ 9223372036854775807) : Spec Tryd.prog 56 [vx, .int .i64 (q)] W own (fun v ow => v = .int .i64 (posI x q) ∧ ow = own) := by
 refine Spec.enter Tryd.f56 _ Tryd.func56 rfl (n := 19) rfl rfl ?_
 refine GC.seq (GC.region ?_)
 refine G.stepD (OD.assign rfl rfl) rfl rfl rfl ?_
 refine G.nil (GE.then_ (GC.seq (GC.seq (GC.region ?_))))
 refine G.stepD (OD.move rfl rfl) rfl rfl rfl ?_
 refine G.stepD (OD.len rfl rfl et22 rfl ex) rfl rfl rfl ?_
 refine G.stepD (OD.move rfl rfl) rfl rfl rfl ?_
 refine G.nil (GE.then_ (GC.block ?_))
 refine GC.loop (ι := Nat) (fun k => [(0, vx), (1, .int .i64 (q)), (7, .int .i64 ((x.length : Nat))), (8, .int .i64 ((k : Int)))]) (fun k => own) (fun k => (k ≤ x.length) ∧ ((x.take k).any ((q == ·)) = false)) (fun k => x.length - k) 0 (⟨by omega, by simp⟩) ⟨rfl, rfl, rfl, rfl, trivial⟩ [] 0 rfl ?_
 rintro k ⟨hk, ht⟩
 refine GC.seq (GC.region ?_)
 refine G.stepD (OD.lss rfl rfl rfl) rfl rfl rfl ?_
 refine G.nil (GE.then_ (GC.seq ?_))
 refine GC.cond rfl (fun hc1 => ?_) (fun hc1 => ?_)
 replace hc1 := of_decide_eq_true hc1
 refine GC.skip (GE.then_ (GC.seq (GC.block (GC.seq (GC.region ?_)))))
 refine G.stepD (OD.move rfl rfl) rfl rfl rfl ?_
 refine G.stepD (OD.assign rfl rfl) rfl rfl rfl ?_
 refine G.nil (GE.then_ (GC.seq (GC.region ?_)))
 refine G.stepD (OD.move rfl rfl) rfl rfl rfl ?_
 refine G.stepD (OD.move rfl rfl) rfl rfl rfl ?_
 refine G.stepD (OD.move rfl rfl) rfl rfl rfl ?_
 refine G.stepD (OD.indexAddr rfl et22 rfl ex rfl (by omega)) rfl rfl rfl ?_
 refine G.stepD (OD.loadInt rfl ti3 rfl ex (by omega)) rfl rfl rfl ?_
 refine G.stepD (OD.eql rfl rfl rfl) rfl rfl rfl ?_
 refine G.nil (GE.then_ ?_)
 refine GC.cond rfl (fun hc2 => ?_) (fun hc2 => ?_)
 replace hc2 := eq_of_beq hc2
 have hc2b : (_ == _) = true := beq_iff_eq.2 hc2
 refine GC.seq (GC.region ?_)
 refine G.stepD (OD.move rfl rfl) rfl rfl rfl ?_
 refine G.stepD (OD.assign rfl rfl) rfl rfl rfl ?_
 refine G.nil (GE.then_ (GC.ret (GE.blockR (GE.passR (GE.passR (GE.blockR (GE.passR ?_)))))))
 exact GE.body [] 0 (res1 rfl rfl) rfl (⟨congrArg (fun (a0 : Int) => (.int .i64 (a0) : Value)) (((posF_at (d := 0) (by omega) ht (by assumption)).symm : ((k : Int) : Int) = posI x q)), rfl⟩)
 replace hc2 := ne_of_beq_false hc2
 have hc2b := beqI_ne hc2
 refine GC.skip (GE.blockN (GE.then_ (GC.region ?_)))
 refine G.stepD (OD.addI rfl rfl rfl (by omega)) rfl rfl rfl ?_
 refine G.stepD (OD.move rfl rfl) rfl rfl rfl ?_
 refine G.nil ?_
 exact GE.again (k + 1) (⟨by omega, any_take_succ (d := 0) (by omega) ht (by assumption)⟩) (by first | omega | (dsimp only; omega)) ⟨rfl, rfl, rfl, rfl, trivial⟩ [] 0 rfl
 replace hc1 := of_decide_eq_false hc1
 refine GC.exit (GE.pass (GE.pass (GE.hit (GE.then_ (GC.seq (GC.region ?_))))))
 refine G.stepD (OD.assign rfl rfl) rfl rfl rfl ?_
 refine G.nil (GE.then_ (GC.ret ?_))
 exact GE.body [] 0 (res1 rfl rfl) rfl (⟨congrArg (fun (a0 : Int) => (.int .i64 (a0) : Value)) (((posF_none (any_take_all (by omega) ht)).symm : (-1 : Int) = posI x q)), rfl⟩)

set_option maxRecDepth 100000 in
theorem containsI_w {W : World} {own : List Asn} {vx : Value} {x : List Int} {q : Int}  (sx : IsS vx) (ex : Ent own fun w => Ints w vx x)   (hl : x.length ≤ 9223372036854775807) : Spec Tryd.prog 49 [vx, .int .i64 (q)] W own (fun v ow => v = .bool (x.contains q) ∧ ow = own) := by
 refine Spec.enter Tryd.f49 _ Tryd.func49 rfl (n := 9) rfl rfl ?_
 refine GC.seq (GC.region ?_)
 refine G.stepD (OD.assign rfl rfl) rfl rfl rfl ?_
 refine G.nil (GE.then_ (GC.seq (GC.region ?_)))
 refine G.stepD (OD.move rfl rfl) rfl rfl rfl ?_
 refine G.stepD (OD.move rfl rfl) rfl rfl rfl ?_
 refine G.step (OG.call [vx, .int .i64 (q)] ent56 rfl rfl rfl rfl (by exact (indexI_w sx ex (by omega)))) rfl rfl rfl ?_
 rintro _ _ ⟨rfl, hzz⟩; obtain rfl := hzz.symm
 refine G.stepD (OD.geq rfl rfl rfl) rfl rfl rfl ?_
 refine G.stepD (OD.assign rfl rfl) rfl rfl rfl ?_
 refine G.nil (GE.then_ (GC.ret ?_))
 exact GE.body [] 0 (res1 rfl rfl) rfl (⟨congrArg (fun (a0 : Bool) => (.bool (a0) : Value)) ((posI_ge _ _ : (decide (0 ≤ posI x q) : Bool) = x.contains q)), rfl⟩)

set_option maxRecDepth 100000 in
theorem l1Find_w {W : World} {own : List Asn} {vx : Value} {x : List Int} {q : Int}  (sx : IsS vx) (ex : Ent own fun w => Ints w vx x)   (hl : x.length ≤ 9223372036854775807) : Spec Tryd.prog 31 [vx, .int .i64 (q)] W own (fun v ow => v = .int .i64 (posI x q) ∧ ow = own) := by
 refine Spec.enter Tryd.f31 _ Tryd.func31 rfl (n := 19) rfl rfl ?_
 refine GC.seq (GC.region ?_)
 refine G.stepD (OD.assign rfl rfl) rfl rfl rfl ?_
 refine G.nil (GE.then_ (GC.seq (GC.seq (GC.region ?_))))
 refine G.stepD (OD.assign rfl rfl) rfl rfl rfl ?_
 refine G.nil (GE.then_ (GC.block ?_))
 refine GC.loop (ι := Nat) (fun k => [(0, vx), (1, .int .i64 (q)), (5, .int .i64 ((k : Int)))]) (fun k => own) (fun k => (k ≤ x.length) ∧ ((x.take k).any ((q == ·)) = false)) (fun k => x.length - k) 0 (⟨by omega, by simp⟩) ⟨rfl, rfl, rfl, trivial⟩ [] 0 rfl ?_
 rintro k ⟨hk, ht⟩
 refine GC.seq (GC.seq (GC.region ?_))
 refine G.stepD (OD.move rfl rfl) rfl rfl rfl ?_
 refine G.stepD (OD.move rfl rfl) rfl rfl rfl ?_
 refine G.stepD (OD.len rfl rfl et22 rfl ex) rfl rfl rfl ?_
 refine G.stepD (OD.lss rfl rfl rfl) rfl rfl rfl ?_
 refine G.nil (GE.then_ ?_)
 refine GC.cond rfl (fun hc1 => ?_) (fun hc1 => ?_)
 replace hc1 := of_decide_eq_true hc1
 refine GC.skip (GE.then_ (GC.seq (GC.block (GC.seq (GC.region ?_)))))
 refine G.stepD (OD.move rfl rfl) rfl rfl rfl ?_
 refine G.stepD (OD.move rfl rfl) rfl rfl rfl ?_
 refine G.stepD (OD.indexAddr rfl et22 rfl ex rfl (by omega)) rfl rfl rfl ?_
 refine G.stepD (OD.loadInt rfl ti3 rfl ex (by omega)) rfl rfl rfl ?_
 refine G.stepD (OD.move rfl rfl) rfl rfl rfl ?_
 refine G.stepD (OD.eql rfl rfl rfl) rfl rfl rfl ?_
 refine G.nil (GE.then_ ?_)
 refine GC.cond rfl (fun hc2 => ?_) (fun hc2 => ?_)
 replace hc2 := eq_of_beq hc2
 have hc2b : (_ == _) = true := beq_iff_eq.2 (Eq.symm hc2)
 refine GC.seq (GC.region ?_)
 refine G.stepD (OD.move rfl rfl) rfl rfl rfl ?_
 refine G.stepD (OD.assign rfl rfl) rfl rfl rfl ?_
 refine G.nil (GE.then_ (GC.ret (GE.blockR (GE.passR (GE.passR (GE.blockR (GE.passR ?_)))))))
 exact GE.body [] 0 (res1 rfl rfl) rfl (⟨congrArg (fun (a0 : Int) => (.int .i64 (a0) : Value)) (((posF_at (d := 0) (by omega) ht (by assumption)).symm : ((k : Int) : Int) = posI x q)), rfl⟩)
 replace hc2 := ne_of_beq_false hc2
 have hc2b := beqI_ne (Ne.symm hc2)
 refine GC.skip (GE.blockN (GE.then_ (GC.region ?_)))
 refine G.stepD (OD.move rfl rfl) rfl rfl rfl ?_
 refine G.stepD (OD.addI rfl rfl rfl (by omega)) rfl rfl rfl ?_
 refine G.stepD (OD.assign rfl rfl) rfl rfl rfl ?_
 refine G.nil ?_
 exact GE.again (k + 1) (⟨by omega, any_take_succ (d := 0) (by omega) ht (by assumption)⟩) (by first | omega | (dsimp only; omega)) ⟨rfl, rfl, rfl, trivial⟩ [] 0 rfl
 replace hc1 := of_decide_eq_false hc1
 refine GC.exit (GE.pass (GE.pass (GE.hit (GE.then_ (GC.seq (GC.region ?_))))))
 refine G.stepD (OD.assign rfl rfl) rfl rfl rfl ?_
 refine G.nil (GE.then_ (GC.ret ?_))
 exact GE.body [] 0 (res1 rfl rfl) rfl (⟨congrArg (fun (a0 : Int) => (.int .i64 (a0) : Value)) (((posF_none (any_take_all (by omega) ht)).symm : (-1 : Int) = posI x q)), rfl⟩)

set_option maxRecDepth 100000 in
theorem clone_w {W : World} {own : List Asn} {vx : Value} {x : List Int}  (sx : IsS vx) (ex : Ent own fun w => Ints w vx x)  (hl : x.length ≤ 1073741824) : Spec Tryd.prog 22 [vx] W own (fun v ow => ∃ (r0 : Value), v = r0 ∧ IsS r0 ∧ ow = ints 3 r0 x :: own) := by
 refine Spec.enter Tryd.f22 _ Tryd.func22 rfl (n := 8) rfl rfl ?_
 refine GC.seq (GC.region ?_)
 refine G.stepD (OD.assign rfl rfl) rfl rfl rfl ?_
 refine G.nil (GE.then_ (GC.seq (GC.seq (GC.region ?_))))
 refine G.stepD (OD.move rfl rfl) rfl rfl rfl ?_
 refine G.stepD (OD.eqlNil rfl et22.ht rfl sx rfl) rfl rfl rfl ?_
 refine G.nil (GE.then_ ?_)
 refine GC.cond rfl (fun hc1 => ?_) (fun hc1 => ?_)
 refine GC.fact (Ent.imp ex fun w hw => nil_ints hw hc1) fun hnil => ?_
 refine GC.seq (GC.region ?_)
 refine G.stepD (OD.assign rfl rfl) rfl rfl rfl ?_
 refine G.nil (GE.then_ (GC.ret (GE.passR ?_)))
 refine GE.nilInts 3 ?_
 exact GE.body [] 0 (res1 rfl rfl) rfl (⟨(.slice none 0 0), rfl, IsS.nil, congrArg (fun (l0 : List Int) => ints 3 (.slice none 0 0) l0 :: own) ((hnil.symm : [] = x))⟩)
 refine GC.skip (GE.then_ (GC.seq (GC.region ?_)))
 refine G.step (OG.buildInts (xs := []) (is := []) rfl et22 rfl rfl rfl rfl rfl) rfl rfl rfl ?_
 rintro v2 _ ⟨hs3, rfl⟩
 refine G.stepD (OD.move rfl rfl) rfl rfl rfl ?_
 refine G.step (OG.appendInts 0 rfl rfl et22 rfl rfl rfl (Ent.drop 1 ex) (by first | omega | (simp; omega))) rfl rfl rfl ?_
 rintro v4 _ ⟨hs5, rfl⟩
 refine G.stepD (OD.assign rfl rfl) rfl rfl rfl ?_
 refine G.nil (GE.then_ (GC.ret ?_))
 exact GE.body [] 0 (res1 rfl rfl) rfl (⟨v4, rfl, hs5, congrArg (fun (l0 : List Int) => ints 3 v4 l0 :: own) ((List.nil_append _ : [] ++ x = x))⟩)

set_option maxRecDepth 100000 in
theorem l1Ints_w {W : World} {own : List Asn} {vx : Value} {x : List Int}  (sx : IsS vx) (ex : Ent own fun w => Ints w vx x)  (hl : x.length ≤ 1073741824) : Spec Tryd.prog 19 [vx] W own (fun v ow => ∃ (r0 : Value), v = r0 ∧ IsS r0 ∧ ow = ints 3 r0 x :: own) := by
 refine Spec.enter Tryd.f19 _ Tryd.func19 rfl (n := 6) rfl rfl ?_
 refine GC.seq (GC.region ?_)
 refine G.stepD (OD.assign rfl rfl) rfl rfl rfl ?_
 refine G.nil (GE.then_ (GC.seq (GC.region ?_)))
 refine G.step (OG.buildInts (xs := []) (is := []) rfl et22 rfl rfl rfl rfl rfl) rfl rfl rfl ?_
 rintro v1 _ ⟨hs2, rfl⟩
 refine G.stepD (OD.move rfl rfl) rfl rfl rfl ?_
 refine G.step (OG.appendInts 0 rfl rfl et22 rfl rfl rfl (Ent.drop 1 ex) (by first | omega | (simp; omega))) rfl rfl rfl ?_
 rintro v3 _ ⟨hs4, rfl⟩
 refine G.stepD (OD.assign rfl rfl) rfl rfl rfl ?_
 refine G.nil (GE.then_ (GC.ret ?_))
 exact GE.body [] 0 (res1 rfl rfl) rfl (⟨v3, rfl, hs4, congrArg (fun (l0 : List Int) => ints 3 v3 l0 :: own) ((List.nil_append _ : [] ++ x = x))⟩)

end Go.Proofs.YtjdkkhlngflgfaaDoor
