/-
  Strings, names and lists: contracts by walks through the code.
-/
import Derived.Test.YtbmnnbglipkidaaGreatDoorFct
import Derived.Test.YtbmnnbglipkidaaGreatDoorCarQ
namespace Go.Proofs.YtbmnnbglipkidaaGreatDoor
set_option linter.unusedVariables false
set_option linter.unusedSimpArgs false
open Go.RowKit
set_option maxHeartbeats 4000000 in
set_option maxRecDepth 100000 in
theorem inside_w {W : World} {own : List Asn} {n : Int} {lo : Int} {hi : Int}    : Spec Tryz.prog 84 [.int .i64 (n), .int .i64 (lo), .int .i64 (hi)] W own (fun v ow => v = .bool (inB n lo hi) ∧ ow = own) := by
 refine Spec.enter Tryz.f84 _ Tryz.func84 rfl (n := 15) rfl rfl ?_
 refine Zs (Zr ?_)
 refine Za rfl rfl rfl rfl rfl ?_
 refine Zn (Zt (Zs (Zr ?_)))
 refine Zm rfl rfl rfl rfl rfl ?_
 refine Zm rfl rfl rfl rfl rfl ?_
 refine G.stepD (OD.leq rfl rfl rfl) rfl rfl rfl ?_
 refine Zm rfl rfl rfl rfl rfl ?_
 rcases Bool.eq_false_or_eq_true (decide (lo ≤ n)) with hg1 | hg1
 have hg1e := hg1
 refine G.at [] 0 (env' := [(0, .int .i64 (n)), (1, .int .i64 (lo)), (2, .int .i64 (hi)), (6, .bool false), (7, .int .i64 (lo)), (8, .int .i64 (n)), (9, .bool true), (10, .bool true)]) (⟨rfl, rfl, rfl, rfl, rfl, rfl, (congrArg (fun b => some (Value.bool b)) hg1e), (congrArg (fun b => some (Value.bool b)) hg1e), trivial⟩) rfl ?_
 replace hg1 := of_decide_eq_true hg1
 refine G.stepGD (OD.move rfl rfl) rfl rfl rfl rfl rfl ?_
 refine G.stepGD (OD.move rfl rfl) rfl rfl rfl rfl rfl ?_
 refine G.stepGD (OD.leq rfl rfl rfl) rfl rfl rfl rfl rfl ?_
 refine G.stepD (OD.pickT rfl rfl rfl) rfl rfl rfl ?_
 refine Za rfl rfl rfl rfl rfl ?_
 refine Zn (Zt (GC.ret ?_))
 exact GE.body [] 0 (res1 rfl rfl) rfl (⟨congrArg (fun (a0 : Bool) => (.bool (a0) : Value)) ((by unfold inB; simp; omega : (decide (n ≤ hi) : Bool) = inB n lo hi)), rfl⟩)
 have hg1e := hg1
 refine G.at [] 0 (env' := [(0, .int .i64 (n)), (1, .int .i64 (lo)), (2, .int .i64 (hi)), (6, .bool false), (7, .int .i64 (lo)), (8, .int .i64 (n)), (9, .bool false), (10, .bool false)]) (⟨rfl, rfl, rfl, rfl, rfl, rfl, (congrArg (fun b => some (Value.bool b)) hg1e), (congrArg (fun b => some (Value.bool b)) hg1e), trivial⟩) rfl ?_
 replace hg1 := of_decide_eq_false hg1
 refine G.skipG rfl rfl rfl rfl rfl rfl (G.skipG rfl rfl rfl rfl rfl rfl (G.skipG rfl rfl rfl rfl rfl rfl ?_))
 refine G.stepD (OD.pickF rfl rfl rfl) rfl rfl rfl ?_
 refine Za rfl rfl rfl rfl rfl ?_
 refine Zn (Zt (GC.ret ?_))
 exact GE.body [] 0 (res1 rfl rfl) rfl (⟨congrArg (fun (a0 : Bool) => (.bool (a0) : Value)) ((by unfold inB; simp; omega : (false : Bool) = inB n lo hi)), rfl⟩)
set_option maxHeartbeats 4000000 in
set_option maxRecDepth 100000 in
theorem partNames_w {W : World} {own : List Asn}     : Spec Tryz.prog 183 [] W own (fun v ow => ∃ (r0 : Value), v = r0 ∧ IsS r0 ∧ ow = strs 9 r0 nameL :: own) := by
 refine Spec.enter Tryz.f183 _ Tryz.func183 rfl (n := 2) rfl rfl ?_
 refine Zs (Zr ?_)
 refine Za rfl rfl rfl rfl rfl ?_
 refine Zn (Zt (Zs (Zr ?_)))
 refine G.step (OG.buildStrs (os := [.const (.string (⟨#[65, 49]⟩)), .const (.string (⟨#[65, 50]⟩)), .const (.string (⟨#[65, 51]⟩)), .const (.string (⟨#[65, 52]⟩)), .const (.string (⟨#[66, 50]⟩)), .const (.string (⟨#[66, 51]⟩)), .const (.string (⟨#[66, 52]⟩)), .const (.string (⟨#[67, 51]⟩)), .const (.string (⟨#[67, 52]⟩)), .const (.string (⟨#[68, 52]⟩)), .const (.string (⟨#[70, 52]⟩)), .const (.string (⟨#[71, 50]⟩))]) (xs := [⟨#[65, 49]⟩, ⟨#[65, 50]⟩, ⟨#[65, 51]⟩, ⟨#[65, 52]⟩, ⟨#[66, 50]⟩, ⟨#[66, 51]⟩, ⟨#[66, 52]⟩, ⟨#[67, 51]⟩, ⟨#[67, 52]⟩, ⟨#[68, 52]⟩, ⟨#[70, 52]⟩, ⟨#[71, 50]⟩]) rfl et113 rfl rfl rfl rfl rfl) rfl rfl rfl ?_
 rintro v1 _ ⟨hs2, rfl⟩
 refine Za rfl rfl rfl rfl rfl ?_
 refine Zn (Zt (GC.ret ?_))
 exact GE.body [] 0 (res1 rfl rfl) rfl (⟨v1, rfl, hs2, rfl⟩)
set_option maxHeartbeats 4000000 in
set_option maxRecDepth 100000 in
theorem l5Names_w {W : World} {own : List Asn}     : Spec Tryz.prog 103 [] W own (fun v ow => ∃ (r0 : Value), v = r0 ∧ IsS r0 ∧ ow = strs 9 r0 nameL :: own) := by
 refine Spec.enter Tryz.f103 _ Tryz.func103 rfl (n := 2) rfl rfl ?_
 refine Zs (Zr ?_)
 refine Za rfl rfl rfl rfl rfl ?_
 refine Zn (Zt (Zs (Zr ?_)))
 refine G.step (OG.buildStrs (os := [.const (.string (⟨#[65, 49]⟩)), .const (.string (⟨#[65, 50]⟩)), .const (.string (⟨#[65, 51]⟩)), .const (.string (⟨#[65, 52]⟩)), .const (.string (⟨#[66, 50]⟩)), .const (.string (⟨#[66, 51]⟩)), .const (.string (⟨#[66, 52]⟩)), .const (.string (⟨#[67, 51]⟩)), .const (.string (⟨#[67, 52]⟩)), .const (.string (⟨#[68, 52]⟩)), .const (.string (⟨#[70, 52]⟩)), .const (.string (⟨#[71, 50]⟩))]) (xs := [⟨#[65, 49]⟩, ⟨#[65, 50]⟩, ⟨#[65, 51]⟩, ⟨#[65, 52]⟩, ⟨#[66, 50]⟩, ⟨#[66, 51]⟩, ⟨#[66, 52]⟩, ⟨#[67, 51]⟩, ⟨#[67, 52]⟩, ⟨#[68, 52]⟩, ⟨#[70, 52]⟩, ⟨#[71, 50]⟩]) rfl et113 rfl rfl rfl rfl rfl) rfl rfl rfl ?_
 rintro v1 _ ⟨hs2, rfl⟩
 refine Za rfl rfl rfl rfl rfl ?_
 refine Zn (Zt (GC.ret ?_))
 exact GE.body [] 0 (res1 rfl rfl) rfl (⟨v1, rfl, hs2, rfl⟩)
set_option maxHeartbeats 4000000 in
set_option maxRecDepth 100000 in
theorem indexS_w {W : World} {own : List Asn} {vx : Value} {x : List ByteArray} {s : ByteArray}  (sx : IsS vx) (ex : Ent own fun w => Strs w vx x)   (hl : x.length ≤ 9223372036854775807) : Spec Tryz.prog 220 [vx, .string (s)] W own (fun v ow => v = .int .i64 (posS x s) ∧ ow = own) := by
 refine Spec.enter Tryz.f220 _ Tryz.func220 rfl (n := 19) rfl rfl ?_
 refine Zs (Zr ?_)
 refine Za rfl rfl rfl rfl rfl ?_
 refine Zn (Zt (Zs (Zs (Zr ?_))))
 refine Zm rfl rfl rfl rfl rfl ?_
 refine G.stepD (OD.len rfl rfl et113 rfl ex) rfl rfl rfl ?_
 refine Zm rfl rfl rfl rfl rfl ?_
 refine Zn (Zt (GC.block ?_))
 refine GC.loop (ι := Nat) (fun k => [(0, vx), (1, .string (s)), (7, .int .i64 ((x.length : Nat))), (8, .int .i64 ((k : Int)))]) (fun k => own) (fun k => (k ≤ x.length) ∧ ((x.take k).any ((strEq s ·)) = false)) (fun k => x.length - k) 0 (⟨by omega, by simp⟩) ⟨rfl,rfl,rfl,rfl,trivial⟩ [] 0 rfl ?_
 rintro k ⟨hk, ht⟩
 refine Zs (Zr ?_)
 refine G.stepD (OD.lss rfl rfl rfl) rfl rfl rfl ?_
 refine Zn (Zt (Zs ?_))
 refine GC.cond rfl (fun hc1 => ?_) (fun hc1 => ?_)
 replace hc1 := of_decide_eq_true hc1
 refine Zk (Zt (Zs (GC.block (Zs (Zr ?_)))))
 refine Zm rfl rfl rfl rfl rfl ?_
 refine Za rfl rfl rfl rfl rfl ?_
 refine Zn (Zt (Zs (Zr ?_)))
 refine Zm rfl rfl rfl rfl rfl ?_
 refine Zm rfl rfl rfl rfl rfl ?_
 refine Zm rfl rfl rfl rfl rfl ?_
 refine G.stepD (OD.indexAddr rfl et113 rfl ex rfl (by omega)) rfl rfl rfl ?_
 refine G.stepD (OD.loadStr rfl ti9 rfl ex (by omega)) rfl rfl rfl ?_
 refine G.stepD (OD.strEql rfl rfl rfl) rfl rfl rfl ?_
 refine Zn (Zt ?_)
 refine GC.cond rfl (fun hc2 => ?_) (fun hc2 => ?_)
 refine Zs (Zr ?_)
 refine Zm rfl rfl rfl rfl rfl ?_
 refine Za rfl rfl rfl rfl rfl ?_
 refine Zn (Zt (GC.ret (GE.blockR (GE.passR (GE.passR (GE.blockR (GE.passR ?_)))))))
 exact GE.body [] 0 (res1 rfl rfl) rfl (⟨congrArg (fun (a0 : Int) => (.int .i64 (a0) : Value)) (((posF_at (d := ⟨#[]⟩) (by omega) ht (by assumption)).symm : ((k : Int) : Int) = posS x s)), rfl⟩)
 refine Zk (GE.blockN (Zt (Zr ?_)))
 refine G.stepD (OD.addI rfl rfl rfl (by omega)) rfl rfl rfl ?_
 refine Zm rfl rfl rfl rfl rfl ?_
 refine Zn ?_
 exact GE.again (k + 1) (⟨by omega, any_take_succ (d := ⟨#[]⟩) (by omega) ht (by assumption)⟩) (by first | omega | (dsimp only; omega)) ⟨rfl,rfl,rfl,rfl,trivial⟩ [] 0 rfl
 replace hc1 := of_decide_eq_false hc1
 refine GC.exit (Zp (Zp (GE.hit (Zt (Zs (Zr ?_))))))
 refine Za rfl rfl rfl rfl rfl ?_
 refine Zn (Zt (GC.ret ?_))
 exact GE.body [] 0 (res1 rfl rfl) rfl (⟨congrArg (fun (a0 : Int) => (.int .i64 (a0) : Value)) (((posF_none (any_take_all (by omega) ht)).symm : (-1 : Int) = posS x s)), rfl⟩)
set_option maxHeartbeats 4000000 in
set_option maxRecDepth 100000 in
theorem containsS_w {W : World} {own : List Asn} {vx : Value} {x : List ByteArray} {s : ByteArray}  (sx : IsS vx) (ex : Ent own fun w => Strs w vx x)   (hl : x.length ≤ 9223372036854775807) : Spec Tryz.prog 205 [vx, .string (s)] W own (fun v ow => v = .bool (hasS x s) ∧ ow = own) := by
 refine Spec.enter Tryz.f205 _ Tryz.func205 rfl (n := 9) rfl rfl ?_
 refine Zs (Zr ?_)
 refine Za rfl rfl rfl rfl rfl ?_
 refine Zn (Zt (Zs (Zr ?_)))
 refine Zm rfl rfl rfl rfl rfl ?_
 refine Zm rfl rfl rfl rfl rfl ?_
 refine G.step (OG.call [vx, .string (s)] ent220 rfl rfl rfl rfl (by exact (indexS_w sx ex (by omega)))) rfl rfl rfl ?_
 rintro _ _ ⟨rfl, hzz⟩; obtain rfl := hzz.symm
 refine G.stepD (OD.geq rfl rfl rfl) rfl rfl rfl ?_
 refine Za rfl rfl rfl rfl rfl ?_
 refine Zn (Zt (GC.ret ?_))
 exact GE.body [] 0 (res1 rfl rfl) rfl (⟨congrArg (fun (a0 : Bool) => (.bool (a0) : Value)) ((posF_ge : (decide (0 ≤ posS x s) : Bool) = hasS x s)), rfl⟩)
set_option maxHeartbeats 4000000 in
set_option maxRecDepth 100000 in
theorem l5Has_w {W : World} {own : List Asn} {vx : Value} {x : List ByteArray} {s : ByteArray}  (sx : IsS vx) (ex : Ent own fun w => Strs w vx x)   (hl : x.length ≤ 9223372036854775807) : Spec Tryz.prog 102 [vx, .string (s)] W own (fun v ow => v = .bool (hasS x s) ∧ ow = own) := by
 refine Spec.enter Tryz.f102 _ Tryz.func102 rfl (n := 18) rfl rfl ?_
 refine Zs (Zr ?_)
 refine Za rfl rfl rfl rfl rfl ?_
 refine Zn (Zt (Zs (Zs (Zr ?_))))
 refine Za rfl rfl rfl rfl rfl ?_
 refine Zn (Zt (GC.block ?_))
 refine GC.loop (ι := Nat) (fun k => [(0, vx), (1, .string (s)), (5, .int .i64 ((k : Int)))]) (fun k => own) (fun k => (k ≤ x.length) ∧ ((x.take k).any ((strEq s ·)) = false)) (fun k => x.length - k) 0 (⟨by omega, by simp⟩) ⟨rfl,rfl,rfl,trivial⟩ [] 0 rfl ?_
 rintro k ⟨hk, ht⟩
 refine Zs (Zs (Zr ?_))
 refine Zm rfl rfl rfl rfl rfl ?_
 refine Zm rfl rfl rfl rfl rfl ?_
 refine G.stepD (OD.len rfl rfl et113 rfl ex) rfl rfl rfl ?_
 refine G.stepD (OD.lss rfl rfl rfl) rfl rfl rfl ?_
 refine Zn (Zt ?_)
 refine GC.cond rfl (fun hc1 => ?_) (fun hc1 => ?_)
 replace hc1 := of_decide_eq_true hc1
 refine Zk (Zt (Zs (GC.block (Zs (Zr ?_)))))
 refine Zm rfl rfl rfl rfl rfl ?_
 refine Zm rfl rfl rfl rfl rfl ?_
 refine G.stepD (OD.indexAddr rfl et113 rfl ex rfl (by omega)) rfl rfl rfl ?_
 refine G.stepD (OD.loadStr rfl ti9 rfl ex (by omega)) rfl rfl rfl ?_
 refine Zm rfl rfl rfl rfl rfl ?_
 refine G.stepD (OD.strEql rfl rfl rfl) rfl rfl rfl ?_
 refine Zn (Zt ?_)
 refine GC.cond rfl (fun hc2 => ?_) (fun hc2 => ?_)
 rw [strEq_symm] at hc2
 refine Zs (Zr ?_)
 refine Za rfl rfl rfl rfl rfl ?_
 refine Zn (Zt (GC.ret (GE.blockR (GE.passR (GE.passR (GE.blockR (GE.passR ?_)))))))
 exact GE.body [] 0 (res1 rfl rfl) rfl (⟨congrArg (fun (a0 : Bool) => (.bool (a0) : Value)) (((List.any_eq_true.2 ⟨x.getD k ⟨#[]⟩, by simp [List.getD, show k < x.length by omega], by assumption⟩).symm : (true : Bool) = hasS x s)), rfl⟩)
 rw [strEq_symm] at hc2
 refine Zk (GE.blockN (Zt (Zr ?_)))
 refine Zm rfl rfl rfl rfl rfl ?_
 refine G.stepD (OD.addI rfl rfl rfl (by omega)) rfl rfl rfl ?_
 refine Za rfl rfl rfl rfl rfl ?_
 refine Zn ?_
 exact GE.again (k + 1) (⟨by omega, any_take_succ (d := ⟨#[]⟩) (by omega) ht (by assumption)⟩) (by first | omega | (dsimp only; omega)) ⟨rfl,rfl,rfl,trivial⟩ [] 0 rfl
 replace hc1 := of_decide_eq_false hc1
 refine GC.exit (Zp (Zp (GE.hit (Zt (Zs (Zr ?_))))))
 refine Za rfl rfl rfl rfl rfl ?_
 refine Zn (Zt (GC.ret ?_))
 exact GE.body [] 0 (res1 rfl rfl) rfl (⟨congrArg (fun (a0 : Bool) => (.bool (a0) : Value)) (((any_take_all (by omega) ht).symm : (false : Bool) = hasS x s)), rfl⟩)
set_option maxHeartbeats 4000000 in
set_option maxRecDepth 100000 in
theorem indexI_w {W : World} {own : List Asn} {vx : Value} {x : List Int} {q : Int}  (sx : IsS vx) (ex : Ent own fun w => Ints w vx x)   (hl : x.length ≤ 9223372036854775807) : Spec Tryz.prog 208 [vx, .int .i64 (q)] W own (fun v ow => v = .int .i64 (posI x q) ∧ ow = own) := by
 refine Spec.enter Tryz.f208 _ Tryz.func208 rfl (n := 19) rfl rfl ?_
 refine Zs (Zr ?_)
 refine Za rfl rfl rfl rfl rfl ?_
 refine Zn (Zt (Zs (Zs (Zr ?_))))
 refine Zm rfl rfl rfl rfl rfl ?_
 refine G.stepD (OD.len rfl rfl et22 rfl ex) rfl rfl rfl ?_
 refine Zm rfl rfl rfl rfl rfl ?_
 refine Zn (Zt (GC.block ?_))
 refine GC.loop (ι := Nat) (fun k => [(0, vx), (1, .int .i64 (q)), (7, .int .i64 ((x.length : Nat))), (8, .int .i64 ((k : Int)))]) (fun k => own) (fun k => (k ≤ x.length) ∧ ((x.take k).any ((q == ·)) = false)) (fun k => x.length - k) 0 (⟨by omega, by simp⟩) ⟨rfl,rfl,rfl,rfl,trivial⟩ [] 0 rfl ?_
 rintro k ⟨hk, ht⟩
 refine Zs (Zr ?_)
 refine G.stepD (OD.lss rfl rfl rfl) rfl rfl rfl ?_
 refine Zn (Zt (Zs ?_))
 refine GC.cond rfl (fun hc1 => ?_) (fun hc1 => ?_)
 replace hc1 := of_decide_eq_true hc1
 refine Zk (Zt (Zs (GC.block (Zs (Zr ?_)))))
 refine Zm rfl rfl rfl rfl rfl ?_
 refine Za rfl rfl rfl rfl rfl ?_
 refine Zn (Zt (Zs (Zr ?_)))
 refine Zm rfl rfl rfl rfl rfl ?_
 refine Zm rfl rfl rfl rfl rfl ?_
 refine Zm rfl rfl rfl rfl rfl ?_
 refine G.stepD (OD.indexAddr rfl et22 rfl ex rfl (by omega)) rfl rfl rfl ?_
 refine G.stepD (OD.loadInt rfl ti3 rfl ex (by omega)) rfl rfl rfl ?_
 refine G.stepD (OD.eql rfl rfl rfl) rfl rfl rfl ?_
 refine Zn (Zt ?_)
 refine GC.cond rfl (fun hc2 => ?_) (fun hc2 => ?_)
 replace hc2 := eq_of_beq hc2
 have hc2b : (_ == _) = true := beq_iff_eq.2 hc2
 refine Zs (Zr ?_)
 refine Zm rfl rfl rfl rfl rfl ?_
 refine Za rfl rfl rfl rfl rfl ?_
 refine Zn (Zt (GC.ret (GE.blockR (GE.passR (GE.passR (GE.blockR (GE.passR ?_)))))))
 exact GE.body [] 0 (res1 rfl rfl) rfl (⟨congrArg (fun (a0 : Int) => (.int .i64 (a0) : Value)) (((posF_at (d := 0) (by omega) ht (by assumption)).symm : ((k : Int) : Int) = posI x q)), rfl⟩)
 replace hc2 := ne_of_beq_false hc2
 have hc2b := beqI_ne hc2
 refine Zk (GE.blockN (Zt (Zr ?_)))
 refine G.stepD (OD.addI rfl rfl rfl (by omega)) rfl rfl rfl ?_
 refine Zm rfl rfl rfl rfl rfl ?_
 refine Zn ?_
 exact GE.again (k + 1) (⟨by omega, any_take_succ (d := 0) (by omega) ht (by assumption)⟩) (by first | omega | (dsimp only; omega)) ⟨rfl,rfl,rfl,rfl,trivial⟩ [] 0 rfl
 replace hc1 := of_decide_eq_false hc1
 refine GC.exit (Zp (Zp (GE.hit (Zt (Zs (Zr ?_))))))
 refine Za rfl rfl rfl rfl rfl ?_
 refine Zn (Zt (GC.ret ?_))
 exact GE.body [] 0 (res1 rfl rfl) rfl (⟨congrArg (fun (a0 : Int) => (.int .i64 (a0) : Value)) (((posF_none (any_take_all (by omega) ht)).symm : (-1 : Int) = posI x q)), rfl⟩)
set_option maxHeartbeats 4000000 in
set_option maxRecDepth 100000 in
theorem containsI_w {W : World} {own : List Asn} {vx : Value} {x : List Int} {q : Int}  (sx : IsS vx) (ex : Ent own fun w => Ints w vx x)   (hl : x.length ≤ 9223372036854775807) : Spec Tryz.prog 187 [vx, .int .i64 (q)] W own (fun v ow => v = .bool (x.contains q) ∧ ow = own) := by
 refine Spec.enter Tryz.f187 _ Tryz.func187 rfl (n := 9) rfl rfl ?_
 refine Zs (Zr ?_)
 refine Za rfl rfl rfl rfl rfl ?_
 refine Zn (Zt (Zs (Zr ?_)))
 refine Zm rfl rfl rfl rfl rfl ?_
 refine Zm rfl rfl rfl rfl rfl ?_
 refine G.step (OG.call [vx, .int .i64 (q)] ent208 rfl rfl rfl rfl (by exact (indexI_w sx ex (by omega)))) rfl rfl rfl ?_
 rintro _ _ ⟨rfl, hzz⟩; obtain rfl := hzz.symm
 refine G.stepD (OD.geq rfl rfl rfl) rfl rfl rfl ?_
 refine Za rfl rfl rfl rfl rfl ?_
 refine Zn (Zt (GC.ret ?_))
 exact GE.body [] 0 (res1 rfl rfl) rfl (⟨congrArg (fun (a0 : Bool) => (.bool (a0) : Value)) ((posI_ge _ _ : (decide (0 ≤ posI x q) : Bool) = x.contains q)), rfl⟩)
set_option maxHeartbeats 4000000 in
set_option maxRecDepth 100000 in
theorem clone_w {W : World} {own : List Asn} {vx : Value} {x : List Int}  (sx : IsS vx) (ex : Ent own fun w => Ints w vx x)  (hl : x.length ≤ 1073741824) : Spec Tryz.prog 130 [vx] W own (fun v ow => ∃ (r0 : Value), v = r0 ∧ IsS r0 ∧ ow = ints 3 r0 x :: own) := by
 refine Spec.enter Tryz.f130 _ Tryz.func130 rfl (n := 8) rfl rfl ?_
 refine Zs (Zr ?_)
 refine Za rfl rfl rfl rfl rfl ?_
 refine Zn (Zt (Zs (Zs (Zr ?_))))
 refine Zm rfl rfl rfl rfl rfl ?_
 refine G.stepD (OD.eqlNil rfl et22.ht rfl sx rfl) rfl rfl rfl ?_
 refine Zn (Zt ?_)
 refine GC.cond rfl (fun hc1 => ?_) (fun hc1 => ?_)
 refine GC.fact (Ent.imp ex fun w hw => nil_ints hw hc1) fun hnil => ?_
 refine Zs (Zr ?_)
 refine Za rfl rfl rfl rfl rfl ?_
 refine Zn (Zt (GC.ret (GE.passR ?_)))
 refine GE.nilInts 3 ?_
 exact GE.body [] 0 (res1 rfl rfl) rfl (⟨(.slice none 0 0), rfl, IsS.nil, congrArg (fun (l0 : List Int) => ints 3 (.slice none 0 0) l0 :: own) ((hnil.symm : [] = x))⟩)
 refine Zk (Zt (Zs (Zr ?_)))
 refine G.step (OG.buildInts (xs := []) (is := []) rfl et22 rfl rfl rfl rfl rfl) rfl rfl rfl ?_
 rintro v2 _ ⟨hs3, rfl⟩
 refine Zm rfl rfl rfl rfl rfl ?_
 refine G.step (OG.appendInts 0 rfl rfl et22 rfl rfl rfl (Ent.drop 1 ex) (by first | omega | (simp; omega))) rfl rfl rfl ?_
 rintro v4 _ ⟨hs5, rfl⟩
 refine Za rfl rfl rfl rfl rfl ?_
 refine Zn (Zt (GC.ret ?_))
 exact GE.body [] 0 (res1 rfl rfl) rfl (⟨v4, rfl, hs5, congrArg (fun (l0 : List Int) => ints 3 v4 l0 :: own) ((List.nil_append _ : [] ++ x = x))⟩)
set_option maxHeartbeats 4000000 in
set_option maxRecDepth 100000 in
theorem l1Ints_w {W : World} {own : List Asn} {vx : Value} {x : List Int}  (sx : IsS vx) (ex : Ent own fun w => Ints w vx x)  (hl : x.length ≤ 1073741824) : Spec Tryz.prog 108 [vx] W own (fun v ow => ∃ (r0 : Value), v = r0 ∧ IsS r0 ∧ ow = ints 3 r0 x :: own) := by
 refine Spec.enter Tryz.f108 _ Tryz.func108 rfl (n := 6) rfl rfl ?_
 refine Zs (Zr ?_)
 refine Za rfl rfl rfl rfl rfl ?_
 refine Zn (Zt (Zs (Zr ?_)))
 refine G.step (OG.buildInts (xs := []) (is := []) rfl et22 rfl rfl rfl rfl rfl) rfl rfl rfl ?_
 rintro v1 _ ⟨hs2, rfl⟩
 refine Zm rfl rfl rfl rfl rfl ?_
 refine G.step (OG.appendInts 0 rfl rfl et22 rfl rfl rfl (Ent.drop 1 ex) (by first | omega | (simp; omega))) rfl rfl rfl ?_
 rintro v3 _ ⟨hs4, rfl⟩
 refine Za rfl rfl rfl rfl rfl ?_
 refine Zn (Zt (GC.ret ?_))
 exact GE.body [] 0 (res1 rfl rfl) rfl (⟨v3, rfl, hs4, congrArg (fun (l0 : List Int) => ints 3 v3 l0 :: own) ((List.nil_append _ : [] ++ x = x))⟩)
end Go.Proofs.YtbmnnbglipkidaaGreatDoor
namespace Go.Proofs.YtbmnnbglipkidaaGreatDoor
set_option linter.unusedVariables false
set_option linter.unusedSimpArgs false
open Go.RowKit
set_option maxHeartbeats 4000000 in
set_option maxRecDepth 100000 in
theorem at_w {W : World} {own : List Asn} {cr : Int} {vcd : Value} {cd : List Int} {i : Int} {j : Int}  (scd : IsS vcd) (ecd : Ent own fun w => Ints w vcd cd)   (hb : 0 ≤ i * cr ∧ i * cr ≤ 1000000 ∧ 0 ≤ i * cr + j ∧ i * cr + j < cd.length ∧ i * cr + j ≤ 1000000) : Spec Tryz.prog 128 [.agg #[.int .i64 (cr), vcd], .int .i64 (i), .int .i64 (j)] W own (fun v ow => v = .int .i64 (atI cr cd i j) ∧ ow = own) := by
 refine Spec.enter Tryz.f128 _ Tryz.func128 rfl (n := 17) rfl rfl ?_
 refine Zs (Zr ?_)
 refine G.step (OG.box (cs := [.int .i64 (cr), vcd]) rfl rfl rfl) rfl rfl rfl ?_
 rintro _ _ ⟨g1, rfl, rfl⟩
 refine Za rfl rfl rfl rfl rfl ?_
 refine Zn (Zt (Zs (Zr ?_)))
 refine G.stepD (OD.fieldAddr rfl rfl fa27_1) rfl rfl rfl ?_
 refine G.stepD (OD.load rfl ti22 rfl (i := 0) rfl rfl) rfl rfl rfl ?_
 refine Zm rfl rfl rfl rfl rfl ?_
 refine G.stepD (OD.fieldAddr rfl rfl fa27_0) rfl rfl rfl ?_
 refine G.stepD (OD.load rfl ti3 rfl (i := 0) rfl rfl) rfl rfl rfl ?_
 refine G.stepD (OD.mulI rfl rfl rfl (by omega)) rfl rfl rfl ?_
 refine Zm rfl rfl rfl rfl rfl ?_
 refine G.stepD (OD.addI rfl rfl rfl (by omega)) rfl rfl rfl ?_
 refine G.stepD (OD.indexAddr rfl et22 rfl (Ent.drop 1 ecd) rfl (by omega)) rfl rfl rfl ?_
 refine G.stepD (OD.loadInt rfl ti3 rfl (Ent.drop 1 ecd) (by omega)) rfl rfl rfl ?_
 refine Za rfl rfl rfl rfl rfl ?_
 refine Zn (Zt (GC.ret ?_))
 exact GE.body [] 1 (res1 rfl rfl) rfl (⟨rfl, rfl⟩)
set_option maxHeartbeats 4000000 in
set_option maxRecDepth 100000 in
theorem l5At_w {W : World} {own : List Asn} {cr : Int} {vcd : Value} {cd : List Int} {i : Int} {j : Int}  (scd : IsS vcd) (ecd : Ent own fun w => Ints w vcd cd)   (hb : 0 ≤ i * cr ∧ i * cr ≤ 1000000 ∧ 0 ≤ i * cr + j ∧ i * cr + j < cd.length ∧ i * cr + j ≤ 1000000) : Spec Tryz.prog 109 [.agg #[.int .i64 (cr), vcd], .int .i64 (i), .int .i64 (j)] W own (fun v ow => v = .int .i64 (atI cr cd i j) ∧ ow = own) := by
 refine Spec.enter Tryz.f109 _ Tryz.func109 rfl (n := 17) rfl rfl ?_
 refine Zs (Zr ?_)
 refine G.step (OG.box (cs := [.int .i64 (cr), vcd]) rfl rfl rfl) rfl rfl rfl ?_
 rintro _ _ ⟨g1, rfl, rfl⟩
 refine Za rfl rfl rfl rfl rfl ?_
 refine Zn (Zt (Zs (Zr ?_)))
 refine G.stepD (OD.fieldAddr rfl rfl fa27_1) rfl rfl rfl ?_
 refine G.stepD (OD.load rfl ti22 rfl (i := 0) rfl rfl) rfl rfl rfl ?_
 refine Zm rfl rfl rfl rfl rfl ?_
 refine G.stepD (OD.fieldAddr rfl rfl fa27_0) rfl rfl rfl ?_
 refine G.stepD (OD.load rfl ti3 rfl (i := 0) rfl rfl) rfl rfl rfl ?_
 refine G.stepD (OD.mulI rfl rfl rfl (by omega)) rfl rfl rfl ?_
 refine Zm rfl rfl rfl rfl rfl ?_
 refine G.stepD (OD.addI rfl rfl rfl (by omega)) rfl rfl rfl ?_
 refine G.stepD (OD.indexAddr rfl et22 rfl (Ent.drop 1 ecd) rfl (by omega)) rfl rfl rfl ?_
 refine G.stepD (OD.loadInt rfl ti3 rfl (Ent.drop 1 ecd) (by omega)) rfl rfl rfl ?_
 refine Za rfl rfl rfl rfl rfl ?_
 refine Zn (Zt (GC.ret ?_))
 exact GE.body [] 1 (res1 rfl rfl) rfl (⟨rfl, rfl⟩)
set_option maxHeartbeats 4000000 in
set_option maxRecDepth 100000 in
theorem l5Sum_w {W : World} {own : List Asn} {ar : Int} {vad : Value} {ad : List Int} {br : Int} {vbd : Value} {bd : List Int}  (sad : IsS vad) (ead : Ent own fun w => Ints w vad ad)   (sbd : IsS vbd) (ebd : Ent own fun w => Ints w vbd bd)  (ha : 0 ≤ ar ∧ ar ≤ 100 ∧ (ad.length : Int) = ar * ar) (hb : 0 ≤ br ∧ br ≤ 100 ∧ (bd.length : Int) = br * br) : Spec Tryz.prog 104 [.agg #[.int .i64 (ar), vad], .agg #[.int .i64 (br), vbd]] W own (fun v ow => ∃ (r1 : Value), v = .agg #[.int .i64 (ar + br), r1] ∧ IsS r1 ∧ ow = ints 3 r1 (sumD ar ad br bd) :: own) := by
 have hN0 : 0 ≤ (ar + br) * (ar + br) := Int.mul_nonneg (by omega) (by omega)
 have hN1 : (ar + br) * (ar + br) ≤ 200 * 200 := Int.mul_le_mul (by omega) (by omega) (by omega) (by omega)
 refine Spec.enter Tryz.f104 _ Tryz.func104 rfl (n := 77) rfl rfl ?_
 refine Zs (Zr ?_)
 refine G.step (OG.box (cs := [.int .i64 (ar), vad]) rfl rfl rfl) rfl rfl rfl ?_
 rintro _ _ ⟨g1, rfl, rfl⟩
 refine G.step (OG.box (cs := [.int .i64 (br), vbd]) rfl rfl rfl) rfl rfl rfl ?_
 rintro _ _ ⟨g2, rfl, rfl⟩
 refine G.step (OG.alloc rfl ti27 (zs := [.int .i64 (0), .slice none 0 0]) rfl) rfl rfl rfl ?_
 rintro _ _ ⟨g3, rfl, rfl⟩
 refine Zn (Zt (Zs (Zr ?_)))
 refine G.stepD (OD.fieldAddr rfl rfl fa27_0) rfl rfl rfl ?_
 refine G.stepD (OD.load rfl ti3 rfl (i := 2) rfl rfl) rfl rfl rfl ?_
 refine G.stepD (OD.fieldAddr rfl rfl fa27_0) rfl rfl rfl ?_
 refine G.stepD (OD.load rfl ti3 rfl (i := 1) rfl rfl) rfl rfl rfl ?_
 refine G.stepD (OD.addI rfl rfl rfl (by omega)) rfl rfl rfl ?_
 refine Za rfl rfl rfl rfl rfl ?_
 refine Zn (Zt (Zs (Zr ?_)))
 refine Zm rfl rfl rfl rfl rfl ?_
 refine Zm rfl rfl rfl rfl rfl ?_
 refine Zm rfl rfl rfl rfl rfl ?_
 refine G.stepD (OD.mulI rfl rfl rfl (by omega)) rfl rfl rfl ?_
 refine G.step (OG.makeInts rfl et22 rfl rfl (by omega)) rfl rfl rfl ?_
 rintro v4 _ ⟨hs5, rfl⟩
 refine G.stepD (OD.build (idx := [0, 1]) (xs := [.tmp 16, .tmp 20]) (vs := [.int .i64 (ar + br), v4]) (cs := [[.int .i64 (ar + br)], [v4]]) (zs := [.int .i64 (0), .slice none 0 0]) (r := [.int .i64 (ar + br), v4]) rfl ti27 rfl rfl rfl ⟨rfl, ⟨(one_cells (IsS.one hs5)), trivial⟩⟩ rfl) rfl rfl rfl ?_
 refine G.step (OG.alloc rfl ti27 (zs := [.int .i64 (0), .slice none 0 0]) rfl) rfl rfl rfl ?_
 rintro _ _ ⟨g6, rfl, rfl⟩
 refine G.stepD0 (OD.store rfl ti27 rfl rfl (us := [.int .i64 (ar + br), v4]) rfl rfl (allC rfl (allC (IsS.one hs5) rfl)) (i := 0) rfl rfl) rfl rfl ?_
 refine Zn (Zt (Zs (Zs (Zr ?_))))
 refine Za rfl rfl rfl rfl rfl ?_
 refine Zn (Zt (GC.block ?_))
 refine GC.loop (ι := Nat × List Int) (fun ⟨i, ys⟩ => [(2, .pointer (some ⟨g1, 0, none⟩)), (3, .pointer (some ⟨g2, 0, none⟩)), (4, .pointer (some ⟨g3, 0, none⟩)), (5, .int .i64 (ar + br)), (6, .pointer (some ⟨g6, 0, none⟩)), (7, .int .i64 ((i : Int)))]) (fun ⟨i, ys⟩ => box g6 27 [.int .i64 (ar + br), v4] :: ints 3 v4 ys :: box g3 27 [.int .i64 (0), .slice none 0 0] :: box g2 27 [.int .i64 (br), vbd] :: box g1 27 [.int .i64 (ar), vad] :: own) (fun ⟨i, ys⟩ => ((i : Int) ≤ ar) ∧ ((ys.length : Int) = (ar + br) * (ar + br)) ∧ (ys = (List.range i).foldl (fun (o : List Int) (i : Nat) => (List.range ar.toNat).foldl (fun (o : List Int) (j : Nat) => o.set ((i : Int) * (ar + br) + (j : Int)).toNat (atI ar ad i j)) o) (List.replicate ((ar + br) * (ar + br) : Int).toNat 0))) (fun ⟨i, ys⟩ => ar.toNat - i) (0, List.replicate ((ar + br) * (ar + br) : Int).toNat 0) (⟨by omega, by rw [List.length_replicate]; omega, rfl⟩) ⟨rfl,rfl,rfl,rfl,rfl,rfl,trivial⟩ [] 0 rfl ?_
 rintro ⟨i, ys⟩ ⟨hi, hyl, hy⟩
 refine Zs (Zs (Zr ?_))
 refine Zm rfl rfl rfl rfl rfl ?_
 refine G.stepD (OD.fieldAddr rfl rfl fa27_0) rfl rfl rfl ?_
 refine G.stepD (OD.load rfl ti3 rfl (i := 4) rfl rfl) rfl rfl rfl ?_
 refine G.stepD (OD.lss rfl rfl rfl) rfl rfl rfl ?_
 refine Zn (Zt ?_)
 refine GC.cond rfl (fun hc7 => ?_) (fun hc7 => ?_)
 replace hc7 := of_decide_eq_true hc7
 refine Zk (Zt (Zs (GC.block (Zs (Zr ?_)))))
 refine Za rfl rfl rfl rfl rfl ?_
 refine Zn (Zt (GC.block ?_))
 refine GC.loop (ι := Nat × List Int) (fun ⟨j, zs⟩ => [(2, .pointer (some ⟨g1, 0, none⟩)), (3, .pointer (some ⟨g2, 0, none⟩)), (4, .pointer (some ⟨g3, 0, none⟩)), (5, .int .i64 (ar + br)), (6, .pointer (some ⟨g6, 0, none⟩)), (7, .int .i64 ((i : Int))), (8, .int .i64 ((j : Int)))]) (fun ⟨j, zs⟩ => box g6 27 [.int .i64 (ar + br), v4] :: ints 3 v4 zs :: box g3 27 [.int .i64 (0), .slice none 0 0] :: box g2 27 [.int .i64 (br), vbd] :: box g1 27 [.int .i64 (ar), vad] :: own) (fun ⟨j, zs⟩ => ((j : Int) ≤ ar) ∧ ((zs.length : Int) = (ar + br) * (ar + br)) ∧ (zs = (List.range j).foldl (fun (o : List Int) (j : Nat) => o.set ((i : Int) * (ar + br) + (j : Int)).toNat (atI ar ad i j)) ys)) (fun ⟨j, zs⟩ => ar.toNat - j) (0, ys) (⟨by omega, hyl, rfl⟩) ⟨rfl,rfl,rfl,rfl,rfl,rfl,rfl,trivial⟩ [] 0 rfl ?_
 rintro ⟨j, zs⟩ ⟨hj, hzl, hz⟩
 refine Zs (Zs (Zr ?_))
 refine Zm rfl rfl rfl rfl rfl ?_
 refine G.stepD (OD.fieldAddr rfl rfl fa27_0) rfl rfl rfl ?_
 refine G.stepD (OD.load rfl ti3 rfl (i := 4) rfl rfl) rfl rfl rfl ?_
 refine G.stepD (OD.lss rfl rfl rfl) rfl rfl rfl ?_
 refine Zn (Zt ?_)
 refine GC.cond rfl (fun hc8 => ?_) (fun hc8 => ?_)
 replace hc8 := of_decide_eq_true hc8
 have hx2 := idx_bd (n := ar) (i := i) (j := j) ⟨by omega, by omega⟩ ⟨by omega, by omega⟩ (by omega)
 have hx := idx_bd (n := ar + br) (i := i) (j := j) ⟨by omega, by omega⟩ ⟨by omega, by omega⟩ (by omega)
 refine Zk (Zt (Zs (GC.block ?_)))
 refine GC.at [] 0 (env' := [(2, .pointer (some ⟨g1, 0, none⟩)), (3, .pointer (some ⟨g2, 0, none⟩)), (4, .pointer (some ⟨g3, 0, none⟩)), (5, .int .i64 (ar + br)), (6, .pointer (some ⟨g6, 0, none⟩)), (7, .int .i64 ((i : Int))), (8, .int .i64 ((j : Int)))]) ⟨rfl,rfl,rfl,rfl,rfl,rfl,rfl,trivial⟩ rfl ?_
 refine GC.par (its := [Z0 34 (.pointer (some ⟨g6, 1, none⟩)),
     Z1 35 [(0, 34)] v4,
     Z0 36 (.int .i64 ((i : Int))),
     Z0 37 (.int .i64 (ar + br)),
     Z1 38 [(2, 36), (3, 37)] (.int .i64 ((i : Int) * (ar + br))),
     Z0 39 (.int .i64 ((j : Int))),
     Z1 40 [(4, 38), (5, 39)] (.int .i64 (((i : Int) * (ar + br)) + (j : Int))),
     Z0 41 (.agg #[.int .i64 (ar), vad]),
     Z0 42 (.int .i64 ((i : Int))),
     Z0 43 (.int .i64 ((j : Int))),
     Z1 44 [(7, 41), (8, 42), (9, 43)] (.int .i64 (atI ar ad (i : Int) (j : Int))),
     Z1 45 [(1, 35), (6, 40)] (elemPtr v4 1 ((((i : Int) * (ar + br)) + (j : Int) : Int).toNat))]) (by kernel_rfl) (by kernel_rfl) (POps.cons ?_ (POps.cons ?_ (POps.cons ?_ (POps.cons ?_ (POps.cons ?_ (POps.cons ?_ (POps.cons ?_ (POps.cons ?_ (POps.cons ?_ (POps.cons ?_ (POps.cons ?_ (POps.cons ?_ POps.nil)))))))))))) ?_
 exact fun θ R hd => Zq (OD.fieldAddr rfl rfl fa27_1) rfl rfl trivial rfl
 exact fun θ R ⟨h0d, _⟩ => Zq (OD.load rfl ti22 rfl (i := 0) rfl rfl) rfl rfl trivial rfl
 exact fun θ R hd => Zq (OD.move rfl rfl) rfl rfl trivial rfl
 exact fun θ R hd => Zq (OD.move rfl rfl) rfl rfl trivial rfl
 exact fun θ R ⟨h2d, h3d, _⟩ => Zq (OD.mulI rfl rfl rfl (by omega)) rfl rfl trivial rfl
 exact fun θ R hd => Zq (OD.move rfl rfl) rfl rfl trivial rfl
 exact fun θ R ⟨h4d, h5d, _⟩ => Zq (OD.addI rfl rfl rfl (by omega)) rfl rfl trivial rfl
 exact fun θ R hd => Zq (OD.loadAgg rfl ti27 rfl (i := 4) rfl (us := [.int .i64 (ar), vad]) rfl rfl) rfl rfl trivial rfl
 exact fun θ R hd => Zq (OD.move rfl rfl) rfl rfl trivial rfl
 exact fun θ R hd => Zq (OD.move rfl rfl) rfl rfl trivial rfl
 exact fun θ R ⟨h7d, h8d, h9d, _⟩ => Zq (OG.call [.agg #[.int .i64 (ar), vad], .int .i64 ((i : Int)), .int .i64 ((j : Int))] ent109 rfl rfl rfl rfl (by exact (l5At_w sad (Ent.drop 5 ead.app) (by omega)))) rfl rfl trivial rfl
 exact fun θ R ⟨h1d, h6d, _⟩ => Zq (OD.indexAddr rfl et22 rfl (Ent.ints (i := 1) rfl) rfl (by omega)) rfl rfl trivial rfl
 intro θ hall
 obtain ⟨_, _, _, _, _, _, _, _, _, _, _, _, _⟩ := hall
 refine G.at [] 0 (env' := [(2, .pointer (some ⟨g1, 0, none⟩)), (3, .pointer (some ⟨g2, 0, none⟩)), (4, .pointer (some ⟨g3, 0, none⟩)), (5, .int .i64 (ar + br)), (6, .pointer (some ⟨g6, 0, none⟩)), (7, .int .i64 ((i : Int))), (8, .int .i64 ((j : Int))), (44, .int .i64 (atI ar ad (i : Int) (j : Int))), (45, elemPtr v4 1 ((((i : Int) * (ar + br)) + (j : Int) : Int).toNat))]) ⟨rfl,rfl,rfl,rfl,rfl,rfl,rfl,rfl,rfl,trivial⟩ (own' := box g6 27 [.int .i64 (ar + br), v4] :: ints 3 v4 zs :: box g3 27 [.int .i64 (0), .slice none 0 0] :: box g2 27 [.int .i64 (br), vbd] :: box g1 27 [.int .i64 (ar), vad] :: own) rfl ?_
 show G _ _ _ [_] _ _ _ _
 refine G.stepD0 (OD.storeInt rfl ti3 rfl rfl (i := 1) rfl (by omega)) rfl rfl ?_
 refine Zn (GE.blockN (Zt (Zr ?_)))
 refine Zm rfl rfl rfl rfl rfl ?_
 refine G.stepD (OD.addI rfl rfl rfl (by first | omega | (simp only [List.length_set, List.length_replicate]; omega))) rfl rfl rfl ?_
 refine Za rfl rfl rfl rfl rfl ?_
 refine Zn ?_
 exact GE.again (j + 1, (zs).set ((((i : Int) * (ar + br)) + (j : Int) : Int).toNat) (atI ar ad (i : Int) (j : Int))) (⟨by omega, by rw [List.length_set]; exact hzl, fold_next hz rfl⟩) (by first | omega | (dsimp only; omega)) ⟨rfl,rfl,rfl,rfl,rfl,rfl,rfl,trivial⟩ [] 0 rfl
 replace hc8 := of_decide_eq_false hc8
 refine GC.exit (Zp (Zp (GE.hit (GE.blockN (Zt (Zr ?_))))))
 refine Zm rfl rfl rfl rfl rfl ?_
 refine G.stepD (OD.addI rfl rfl rfl (by omega)) rfl rfl rfl ?_
 refine Za rfl rfl rfl rfl rfl ?_
 refine Zn ?_
 exact GE.again (i + 1, zs) (⟨by omega, hzl, fold_next hy (by rw [hz, show j = ar.toNat by omega])⟩) (by first | omega | (dsimp only; omega)) ⟨rfl,rfl,rfl,rfl,rfl,rfl,trivial⟩ [] 0 rfl
 replace hc7 := of_decide_eq_false hc7
 refine GC.exit (Zp (Zp (GE.hit (Zt (Zs (Zs (Zr ?_)))))))
 refine Za rfl rfl rfl rfl rfl ?_
 refine Zn (Zt (GC.block ?_))
 refine GC.loop (ι := Nat × List Int) (fun ⟨i, ys⟩ => [(2, .pointer (some ⟨g1, 0, none⟩)), (3, .pointer (some ⟨g2, 0, none⟩)), (4, .pointer (some ⟨g3, 0, none⟩)), (5, .int .i64 (ar + br)), (6, .pointer (some ⟨g6, 0, none⟩)), (9, .int .i64 ((i : Int)))]) (fun ⟨i, ys⟩ => box g6 27 [.int .i64 (ar + br), v4] :: ints 3 v4 ys :: box g3 27 [.int .i64 (0), .slice none 0 0] :: box g2 27 [.int .i64 (br), vbd] :: box g1 27 [.int .i64 (ar), vad] :: own) (fun ⟨i, ys⟩ => ((i : Int) ≤ br) ∧ ((ys.length : Int) = (ar + br) * (ar + br)) ∧ (ys = (List.range i).foldl (fun (o : List Int) (i : Nat) => (List.range br.toNat).foldl (fun (o : List Int) (j : Nat) => o.set ((ar + (i : Int)) * (ar + br) + ar + (j : Int)).toNat (atI br bd i j)) o) ((List.range ar.toNat).foldl (fun (o : List Int) (i : Nat) => (List.range ar.toNat).foldl (fun (o : List Int) (j : Nat) => o.set ((i : Int) * (ar + br) + (j : Int)).toNat (atI ar ad i j)) o) (List.replicate ((ar + br) * (ar + br) : Int).toNat 0)))) (fun ⟨i, ys⟩ => br.toNat - i) (0, ys) (⟨by omega, hyl, by rw [hy, show i = ar.toNat by omega]; rfl⟩) ⟨rfl,rfl,rfl,rfl,rfl,rfl,trivial⟩ [] 0 rfl ?_
 rintro ⟨i, ys⟩ ⟨hi, hyl, hy⟩
 refine Zs (Zs (Zr ?_))
 refine Zm rfl rfl rfl rfl rfl ?_
 refine G.stepD (OD.fieldAddr rfl rfl fa27_0) rfl rfl rfl ?_
 refine G.stepD (OD.load rfl ti3 rfl (i := 3) rfl rfl) rfl rfl rfl ?_
 refine G.stepD (OD.lss rfl rfl rfl) rfl rfl rfl ?_
 refine Zn (Zt ?_)
 refine GC.cond rfl (fun hc9 => ?_) (fun hc9 => ?_)
 replace hc9 := of_decide_eq_true hc9
 refine Zk (Zt (Zs (GC.block (Zs (Zr ?_)))))
 refine Za rfl rfl rfl rfl rfl ?_
 refine Zn (Zt (GC.block ?_))
 refine GC.loop (ι := Nat × List Int) (fun ⟨j, zs⟩ => [(2, .pointer (some ⟨g1, 0, none⟩)), (3, .pointer (some ⟨g2, 0, none⟩)), (4, .pointer (some ⟨g3, 0, none⟩)), (5, .int .i64 (ar + br)), (6, .pointer (some ⟨g6, 0, none⟩)), (9, .int .i64 ((i : Int))), (10, .int .i64 ((j : Int)))]) (fun ⟨j, zs⟩ => box g6 27 [.int .i64 (ar + br), v4] :: ints 3 v4 zs :: box g3 27 [.int .i64 (0), .slice none 0 0] :: box g2 27 [.int .i64 (br), vbd] :: box g1 27 [.int .i64 (ar), vad] :: own) (fun ⟨j, zs⟩ => ((j : Int) ≤ br) ∧ ((zs.length : Int) = (ar + br) * (ar + br)) ∧ (zs = (List.range j).foldl (fun (o : List Int) (j : Nat) => o.set ((ar + (i : Int)) * (ar + br) + ar + (j : Int)).toNat (atI br bd i j)) ys)) (fun ⟨j, zs⟩ => br.toNat - j) (0, ys) (⟨by omega, hyl, rfl⟩) ⟨rfl,rfl,rfl,rfl,rfl,rfl,rfl,trivial⟩ [] 0 rfl ?_
 rintro ⟨j, zs⟩ ⟨hj, hzl, hz⟩
 refine Zs (Zs (Zr ?_))
 refine Zm rfl rfl rfl rfl rfl ?_
 refine G.stepD (OD.fieldAddr rfl rfl fa27_0) rfl rfl rfl ?_
 refine G.stepD (OD.load rfl ti3 rfl (i := 3) rfl rfl) rfl rfl rfl ?_
 refine G.stepD (OD.lss rfl rfl rfl) rfl rfl rfl ?_
 refine Zn (Zt ?_)
 refine GC.cond rfl (fun hc10 => ?_) (fun hc10 => ?_)
 replace hc10 := of_decide_eq_true hc10
 have hx2 := idx_bd (n := br) (i := i) (j := j) ⟨by omega, by omega⟩ ⟨by omega, by omega⟩ (by omega)
 have hx := idx_bd (n := ar + br) (i := ar + i) (j := ar + j) ⟨by omega, by omega⟩ ⟨by omega, by omega⟩ (by omega)
 have hxe : (ar + (i : Int)) * (ar + br) + ar + (j : Int) = (ar + (i : Int)) * (ar + br) + (ar + (j : Int)) := by omega
 refine Zk (Zt (Zs (GC.block ?_)))
 refine GC.at [] 0 (env' := [(2, .pointer (some ⟨g1, 0, none⟩)), (3, .pointer (some ⟨g2, 0, none⟩)), (4, .pointer (some ⟨g3, 0, none⟩)), (5, .int .i64 (ar + br)), (6, .pointer (some ⟨g6, 0, none⟩)), (9, .int .i64 ((i : Int))), (10, .int .i64 ((j : Int)))]) ⟨rfl,rfl,rfl,rfl,rfl,rfl,rfl,trivial⟩ rfl ?_
 refine GC.par (its := [Z0 58 (.pointer (some ⟨g6, 1, none⟩)),
     Z1 59 [(0, 58)] v4,
     Z0 60 (.pointer (some ⟨g1, 0, none⟩)),
     Z1 61 [(2, 60)] (.int .i64 (ar)),
     Z0 62 (.int .i64 ((i : Int))),
     Z1 63 [(3, 61), (4, 62)] (.int .i64 (ar + (i : Int))),
     Z0 64 (.int .i64 (ar + br)),
     Z1 65 [(5, 63), (6, 64)] (.int .i64 ((ar + (i : Int)) * (ar + br))),
     Z0 66 (.pointer (some ⟨g1, 0, none⟩)),
     Z1 67 [(8, 66)] (.int .i64 (ar)),
     Z1 68 [(7, 65), (9, 67)] (.int .i64 (((ar + (i : Int)) * (ar + br)) + ar)),
     Z0 69 (.int .i64 ((j : Int))),
     Z1 70 [(10, 68), (11, 69)] (.int .i64 ((((ar + (i : Int)) * (ar + br)) + ar) + (j : Int))),
     Z0 71 (.agg #[.int .i64 (br), vbd]),
     Z0 72 (.int .i64 ((i : Int))),
     Z0 73 (.int .i64 ((j : Int))),
     Z1 74 [(13, 71), (14, 72), (15, 73)] (.int .i64 (atI br bd (i : Int) (j : Int))),
     Z1 75 [(1, 59), (12, 70)] (elemPtr v4 1 (((((ar + (i : Int)) * (ar + br)) + ar) + (j : Int) : Int).toNat))]) (by kernel_rfl) (by kernel_rfl) (POps.cons ?_ (POps.cons ?_ (POps.cons ?_ (POps.cons ?_ (POps.cons ?_ (POps.cons ?_ (POps.cons ?_ (POps.cons ?_ (POps.cons ?_ (POps.cons ?_ (POps.cons ?_ (POps.cons ?_ (POps.cons ?_ (POps.cons ?_ (POps.cons ?_ (POps.cons ?_ (POps.cons ?_ (POps.cons ?_ POps.nil)))))))))))))))))) ?_
 exact fun θ R hd => Zq (OD.fieldAddr rfl rfl fa27_1) rfl rfl trivial rfl
 exact fun θ R ⟨h0d, _⟩ => Zq (OD.load rfl ti22 rfl (i := 0) rfl rfl) rfl rfl trivial rfl
 exact fun θ R hd => Zq (OD.fieldAddr rfl rfl fa27_0) rfl rfl trivial rfl
 exact fun θ R ⟨h2d, _⟩ => Zq (OD.load rfl ti3 rfl (i := 4) rfl rfl) rfl rfl trivial rfl
 exact fun θ R hd => Zq (OD.move rfl rfl) rfl rfl trivial rfl
 exact fun θ R ⟨h3d, h4d, _⟩ => Zq (OD.addI rfl rfl rfl (by omega)) rfl rfl trivial rfl
 exact fun θ R hd => Zq (OD.move rfl rfl) rfl rfl trivial rfl
 exact fun θ R ⟨h5d, h6d, _⟩ => Zq (OD.mulI rfl rfl rfl (by omega)) rfl rfl trivial rfl
 exact fun θ R hd => Zq (OD.fieldAddr rfl rfl fa27_0) rfl rfl trivial rfl
 exact fun θ R ⟨h8d, _⟩ => Zq (OD.load rfl ti3 rfl (i := 4) rfl rfl) rfl rfl trivial rfl
 exact fun θ R ⟨h7d, h9d, _⟩ => Zq (OD.addI rfl rfl rfl (by omega)) rfl rfl trivial rfl
 exact fun θ R hd => Zq (OD.move rfl rfl) rfl rfl trivial rfl
 exact fun θ R ⟨h10d, h11d, _⟩ => Zq (OD.addI rfl rfl rfl (by omega)) rfl rfl trivial rfl
 exact fun θ R hd => Zq (OD.loadAgg rfl ti27 rfl (i := 3) rfl (us := [.int .i64 (br), vbd]) rfl rfl) rfl rfl trivial rfl
 exact fun θ R hd => Zq (OD.move rfl rfl) rfl rfl trivial rfl
 exact fun θ R hd => Zq (OD.move rfl rfl) rfl rfl trivial rfl
 exact fun θ R ⟨h13d, h14d, h15d, _⟩ => Zq (OG.call [.agg #[.int .i64 (br), vbd], .int .i64 ((i : Int)), .int .i64 ((j : Int))] ent109 rfl rfl rfl rfl (by exact (l5At_w sbd (Ent.drop 5 ebd.app) (by omega)))) rfl rfl trivial rfl
 exact fun θ R ⟨h1d, h12d, _⟩ => Zq (OD.indexAddr rfl et22 rfl (Ent.ints (i := 1) rfl) rfl (by omega)) rfl rfl trivial rfl
 intro θ hall
 obtain ⟨_, _, _, _, _, _, _, _, _, _, _, _, _, _, _, _, _, _, _⟩ := hall
 refine G.at [] 0 (env' := [(2, .pointer (some ⟨g1, 0, none⟩)), (3, .pointer (some ⟨g2, 0, none⟩)), (4, .pointer (some ⟨g3, 0, none⟩)), (5, .int .i64 (ar + br)), (6, .pointer (some ⟨g6, 0, none⟩)), (9, .int .i64 ((i : Int))), (10, .int .i64 ((j : Int))), (74, .int .i64 (atI br bd (i : Int) (j : Int))), (75, elemPtr v4 1 (((((ar + (i : Int)) * (ar + br)) + ar) + (j : Int) : Int).toNat))]) ⟨rfl,rfl,rfl,rfl,rfl,rfl,rfl,rfl,rfl,trivial⟩ (own' := box g6 27 [.int .i64 (ar + br), v4] :: ints 3 v4 zs :: box g3 27 [.int .i64 (0), .slice none 0 0] :: box g2 27 [.int .i64 (br), vbd] :: box g1 27 [.int .i64 (ar), vad] :: own) rfl ?_
 show G _ _ _ [_] _ _ _ _
 refine G.stepD0 (OD.storeInt rfl ti3 rfl rfl (i := 1) rfl (by omega)) rfl rfl ?_
 refine Zn (GE.blockN (Zt (Zr ?_)))
 refine Zm rfl rfl rfl rfl rfl ?_
 refine G.stepD (OD.addI rfl rfl rfl (by first | omega | (simp only [List.length_set, List.length_replicate]; omega))) rfl rfl rfl ?_
 refine Za rfl rfl rfl rfl rfl ?_
 refine Zn ?_
 exact GE.again (j + 1, (zs).set (((((ar + (i : Int)) * (ar + br)) + ar) + (j : Int) : Int).toNat) (atI br bd (i : Int) (j : Int))) (⟨by omega, by rw [List.length_set]; exact hzl, fold_next hz rfl⟩) (by first | omega | (dsimp only; omega)) ⟨rfl,rfl,rfl,rfl,rfl,rfl,rfl,trivial⟩ [] 0 rfl
 replace hc10 := of_decide_eq_false hc10
 refine GC.exit (Zp (Zp (GE.hit (GE.blockN (Zt (Zr ?_))))))
 refine Zm rfl rfl rfl rfl rfl ?_
 refine G.stepD (OD.addI rfl rfl rfl (by omega)) rfl rfl rfl ?_
 refine Za rfl rfl rfl rfl rfl ?_
 refine Zn ?_
 exact GE.again (i + 1, zs) (⟨by omega, hzl, fold_next hy (by rw [hz, show j = br.toNat by omega])⟩) (by first | omega | (dsimp only; omega)) ⟨rfl,rfl,rfl,rfl,rfl,rfl,trivial⟩ [] 0 rfl
 replace hc9 := of_decide_eq_false hc9
 refine GC.exit (Zp (Zp (GE.hit (Zt (Zs (Zr ?_))))))
 refine G.stepD (OD.loadAgg rfl ti27 rfl (i := 0) rfl (us := [.int .i64 (ar + br), v4]) rfl rfl) rfl rfl rfl ?_
 refine G.stepD0 (OD.store rfl ti27 rfl rfl (us := [.int .i64 (ar + br), v4]) rfl rfl (allC rfl (allC (IsS.one hs5) rfl)) (i := 2) rfl rfl) rfl rfl ?_
 refine Zn (Zt (GC.ret ?_))
 exact GE.body [1] 4 (resN rfl (RVs.cons (rv_cells ti27 rfl (i := 2) rfl rfl) RVs.nil) rfl) rfl (⟨v4, rfl, hs5, congrArg (fun (l0 : List Int) => ints 3 v4 l0 :: own) ((by rw [hy, show i = br.toNat by omega]; rfl : ys = sumD ar ad br bd))⟩)
set_option maxHeartbeats 4000000 in
set_option maxRecDepth 100000 in
theorem put_w {W : World} {own : List Asn} {i : Int} {j : Int} {x : Int} {gc : Nat} {gn : Nat}  {n : Int} {vy : Value} {ys : List Int} (hn : 1 ≤ n ∧ n ≤ 4) (hi : 1 ≤ i ∧ i ≤ n) (hj : 1 ≤ j ∧ j ≤ n) (hl : (ys.length : Int) = n * n) : Spec Tryz.prog 206 [.int .i64 (i), .int .i64 (j), .int .i64 (x), .pointer (some ⟨gc, 0, none⟩), .pointer (some ⟨gn, 0, none⟩)] W (box gc 27 [.int .i64 (n), vy] :: box gn 3 [.int .i64 (n)] :: ints 3 vy ys :: own) (fun v ow => v = .tuple #[] ∧ ow = box gc 27 [.int .i64 (n), vy] :: box gn 3 [.int .i64 (n)] :: ints 3 vy (putF n ys i j x) :: own) := by
 have hx := idx_bd (n := n) (i := i - 1) (j := j - 1) ⟨by omega, by omega⟩ ⟨by omega, by omega⟩ (by omega)
 refine Spec.enter Tryz.f206 _ Tryz.func206 rfl (n := 19) rfl rfl ?_
 refine Zr ?_
 refine G.stepD (OD.fieldAddr rfl rfl fa27_1) rfl rfl rfl ?_
 refine G.stepD (OD.load rfl ti22 rfl (i := 0) rfl rfl) rfl rfl rfl ?_
 refine Zm rfl rfl rfl rfl rfl ?_
 refine G.stepD (OD.subI rfl rfl rfl (by omega)) rfl rfl rfl ?_
 refine G.stepD (OD.load rfl ti3 rfl (i := 1) rfl rfl) rfl rfl rfl ?_
 refine G.stepD (OD.mulI rfl rfl rfl (by omega)) rfl rfl rfl ?_
 refine Zm rfl rfl rfl rfl rfl ?_
 refine G.stepD (OD.addI rfl rfl rfl (by omega)) rfl rfl rfl ?_
 refine G.stepD (OD.subI rfl rfl rfl (by omega)) rfl rfl rfl ?_
 refine Zm rfl rfl rfl rfl rfl ?_
 refine G.stepD (OD.indexAddr rfl et22 rfl (Ent.ints (i := 2) rfl) rfl (by omega)) rfl rfl rfl ?_
 refine G.stepD0 (OD.storeInt rfl ti3 rfl rfl (i := 2) rfl (by omega)) rfl rfl ?_
 refine Zn ?_
 exact GE.bodyN [] 0 (res0 rfl) rfl (⟨rfl, rfl⟩)
set_option maxHeartbeats 4000000 in
set_option maxRecDepth 100000 in
theorem both_w {W : World} {own : List Asn} {i : Int} {j : Int} {gp : Nat}  {gc gn : Nat} {n : Int} {vy : Value} {ys : List Int} (hn : 1 ≤ n ∧ n ≤ 4) (hi : 1 ≤ i ∧ i ≤ n) (hj : 1 ≤ j ∧ j ≤ n) (hl : (ys.length : Int) = n * n) : Spec Tryz.prog 207 [.int .i64 (i), .int .i64 (j), .pointer (some ⟨gp, 0, none⟩)] W (box gp 195 [.func (.func 206) #[] #[.pointer (some ⟨gc, 0, none⟩), .pointer (some ⟨gn, 0, none⟩)]] :: box gc 27 [.int .i64 (n), vy] :: box gn 3 [.int .i64 (n)] :: ints 3 vy ys :: own) (fun v ow => v = .tuple #[] ∧ ow = box gp 195 [.func (.func 206) #[] #[.pointer (some ⟨gc, 0, none⟩), .pointer (some ⟨gn, 0, none⟩)]] :: box gc 27 [.int .i64 (n), vy] :: box gn 3 [.int .i64 (n)] :: ints 3 vy (bothF n ys i j) :: own) := by
 refine Spec.enter Tryz.f207 _ Tryz.func207 rfl (n := 13) rfl rfl ?_
 refine Zs (Zr ?_)
 refine G.stepD (OD.load rfl ti195 rfl (i := 0) rfl rfl) rfl rfl rfl ?_
 refine Zm rfl rfl rfl rfl rfl ?_
 refine Zm rfl rfl rfl rfl rfl ?_
 refine G.at [1, 1, 1] 0 (env' := [(0, .int .i64 (i)), (1, .int .i64 (j)), (2, .pointer (some ⟨gp, 0, none⟩)), (5, .func (.func 206) #[] #[.pointer (some ⟨gc, 0, none⟩), .pointer (some ⟨gn, 0, none⟩)]), (6, .int .i64 (i)), (7, .int .i64 (j))]) ⟨rfl,rfl,rfl,rfl,rfl,rfl,trivial⟩ (own' := box gc 27 [.int .i64 (n), vy] :: box gn 3 [.int .i64 (n)] :: ints 3 vy ys :: box gp 195 [.func (.func 206) #[] #[.pointer (some ⟨gc, 0, none⟩), .pointer (some ⟨gn, 0, none⟩)]] :: own) rfl ?_
 refine G.step (OG.call [.int .i64 (i), .int .i64 (j), .int .i64 (-1), .pointer (some ⟨gc, 0, none⟩), .pointer (some ⟨gn, 0, none⟩)] ent206 rfl rfl rfl rfl (by exact (put_w (by omega) (by omega) (by omega) (by first | exact hl | (rw [putF_len]; exact hl))))) rfl rfl rfl ?_
 rintro _ _ ⟨rfl, rfl⟩
 refine Zn (Zt (Zr ?_))
 refine G.stepD (OD.load rfl ti195 rfl (i := 3) rfl rfl) rfl rfl rfl ?_
 refine Zm rfl rfl rfl rfl rfl ?_
 refine Zm rfl rfl rfl rfl rfl ?_
 refine G.step (OG.call [.int .i64 (j), .int .i64 (i), .int .i64 (-1), .pointer (some ⟨gc, 0, none⟩), .pointer (some ⟨gn, 0, none⟩)] ent206 rfl rfl rfl rfl (by exact (put_w (by omega) (by omega) (by omega) (by first | exact hl | (rw [putF_len]; exact hl))))) rfl rfl rfl ?_
 rintro _ _ ⟨rfl, rfl⟩
 refine Zn ?_
 exact GE.bodyN [3, 0, 0, 0] 0 (res0 rfl) rfl (⟨rfl, congrArg (fun (l3 : List Int) => box gp 195 [.func (.func 206) #[] #[.pointer (some ⟨gc, 0, none⟩), .pointer (some ⟨gn, 0, none⟩)]] :: box gc 27 [.int .i64 (n), vy] :: box gn 3 [.int .i64 (n)] :: ints 3 vy l3 :: own) ((rfl : putF n (putF n ys i j (-1)) j i (-1) = bothF n ys i j))⟩)
set_option maxHeartbeats 4000000 in
set_option maxRecDepth 100000 in
theorem partCartan_w {W : World} {own : List Asn} {s : ByteArray}    : Spec Tryz.prog 185 [.string (s)] W own (fun v ow => ∃ (r1 : Value), v = .tuple #[.agg #[.int .i64 (partR s), r1], .bool ((nameNo s).isSome)] ∧ IsS r1 ∧ ow = ints 3 r1 (partD s) :: own) := by
 refine Spec.enter Tryz.f185 _ Tryz.func185 rfl (n := 80) rfl rfl ?_
 refine Zs (Zr ?_)
 refine G.step (OG.alloc rfl ti27 (zs := [.int .i64 (0), .slice none 0 0]) rfl) rfl rfl rfl ?_
 rintro _ _ ⟨g1, rfl, rfl⟩
 refine Za rfl rfl rfl rfl rfl ?_
 refine Zn (Zt (Zs (Zs (Zr ?_))))
 refine G.step (OG.call [] ent183 rfl rfl rfl rfl (by exact partNames_w)) rfl rfl rfl ?_
 rintro v2 _ ⟨_, rfl, hs3, rfl⟩
 refine Zm rfl rfl rfl rfl rfl ?_
 refine G.step (OG.call [v2, .string (s)] ent205 rfl rfl rfl rfl (by exact (containsS_w hs3 (Ent.strs (i := 0) rfl) (by decide)))) rfl rfl rfl ?_
 rintro _ _ ⟨rfl, rfl⟩
 refine G.stepD (OD.not rfl rfl) rfl rfl rfl ?_
 refine Zn (Zt ?_)
 refine GC.cond rfl (fun hc4 => ?_) (fun hc4 => ?_)
 replace hc4 := eq_false_of_not hc4
 obtain ⟨hp1, hp2, hp3⟩ := part_none hc4
 refine Zs (Zr ?_)
 refine G.stepD (OD.build (idx := []) (xs := []) (vs := []) (cs := []) (zs := [.int .i64 (0), .slice none 0 0]) (r := [.int .i64 (0), .slice none 0 0]) rfl ti27 rfl rfl rfl trivial rfl) rfl rfl rfl ?_
 refine G.stepD0 (OD.store rfl ti27 rfl rfl (us := [.int .i64 (0), .slice none 0 0]) rfl rfl rfl (i := 1) rfl rfl) rfl rfl ?_
 refine Za rfl rfl rfl rfl rfl ?_
 refine Zn (Zt (GC.ret (GE.passR ?_)))
 refine GE.nilInts 3 ?_
 exact GE.body [0] 2 (resN rfl (RVs.cons (rv_cells ti27 rfl (i := 2) rfl rfl) (RVs.cons (rv_tmp rfl) RVs.nil)) rfl) rfl (⟨(.slice none 0 0), congr (congrArg (fun (a0 : Int) (a2 : Bool) => (.tuple #[.agg #[.int .i64 (a0), (.slice none 0 0)], .bool (a2)] : Value)) ((hp1.symm : (0 : Int) = partR s))) ((hp3.symm : (false : Bool) = (nameNo s).isSome)), IsS.nil, congrArg (fun (l0 : List Int) => ints 3 (.slice none 0 0) l0 :: own) ((hp2.symm : [] = partD s))⟩)
 replace hc4 := eq_true_of_not hc4
 obtain ⟨k, hk⟩ := hasS_some hc4
 obtain ⟨hk12, hse⟩ := nameNo_some hk
 have hrk := rk_bd k hk12
 have hsz : s.size = 2 := by rw [hse]; exact nm_sz k hk12
 have hpD : partD s = oneD k := by simp [partD, hk]
 have hpR : partR s = (rk k : Int) := by simp [partR, hk]
 have hpS : (nameNo s).isSome = true := by simp [hk]
 have hN0 : 0 ≤ (rk k : Int) * (rk k : Int) := Int.mul_nonneg (by omega) (by omega)
 have hN1 : (rk k : Int) * (rk k : Int) ≤ 4 * 4 := Int.mul_le_mul (by omega) (by omega) (by omega) (by omega)
 refine Zk (Zt (Zs (Zr ?_)))
 refine Zm rfl rfl rfl rfl rfl ?_
 refine G.stepD (OD.indexStr rfl st9 rfl rfl (by omega)) rfl rfl rfl ?_
 refine G.stepD (OD.eqv (OD.sub rfl rfl rfl) (congrArg (Value.int .u8) ((by rw [hse]; exact nm_rk k hk12) : (IntKind.u8.wrap ((bAt s 1) - 48) : Int) = ((rk k : Int))))) rfl rfl rfl ?_
 refine G.stepD (OD.convI rfl cv5_3 rfl (by omega)) rfl rfl rfl ?_
 refine G.step (OG.alloc rfl ti3 (zs := [.int .i64 (0)]) rfl) rfl rfl rfl ?_
 rintro _ _ ⟨g5, rfl, rfl⟩
 refine G.stepD0 (OD.store rfl ti3 rfl rfl (us := [.int .i64 ((rk k : Int))]) rfl rfl rfl (i := 0) rfl rfl) rfl rfl ?_
 refine Zn (Zt (Zs ?_))
 refine GC.at [] 0 (env' := [(0, .string (s)), (2, .pointer (some ⟨g1, 0, none⟩)), (4, .pointer (some ⟨g5, 0, none⟩))]) ⟨rfl,rfl,rfl,trivial⟩ rfl ?_
 refine GC.par (its := [Z0 18 (.int .i64 ((rk k : Int))),
     Z0 19 (.int .i64 ((rk k : Int))),
     Z0 20 (.int .i64 ((rk k : Int))),
     Z1 21 [(1, 19), (2, 20)] (.int .i64 ((rk k : Int) * (rk k : Int))),
     ⟨22, [(3, 21)], [], [], [4], fun ds => ((ds.getD 0 []).getD 0 undef), fun ds => IsS ((ds.getD 0 []).getD 0 undef), fun ds => [ints 3 ((ds.getD 0 []).getD 0 undef) (List.replicate ((rk k : Int) * (rk k : Int) : Int).toNat (0 : Int))]⟩,
     ⟨23, [(0, 18), (4, 22)], [4], [], [4], fun ds => .agg #[.int .i64 ((rk k : Int)), ((ds.getD 0 []).getD 0 undef)], fun _ => True, fun _ => []⟩,
     ⟨5, [], [], [], [6], fun ds => .pointer (some ⟨(gOf ((ds.getD 0 []).getD 0 undef)), 0, none⟩), fun _ => True, fun ds => [box (gOf ((ds.getD 0 []).getD 0 undef)) 27 [.int .i64 (0), .slice none 0 0]]⟩]) (by kernel_rfl) (by kernel_rfl) (POps.cons ?_ (POps.cons ?_ (POps.cons ?_ (POps.cons ?_ (POps.cons ?_ (POps.cons ?_ (POps.cons ?_ POps.nil))))))) ?_
 exact fun θ R hd => Zq (OD.load rfl ti3 rfl (i := 0) rfl rfl) rfl rfl trivial rfl
 exact fun θ R hd => Zq (OD.load rfl ti3 rfl (i := 0) rfl rfl) rfl rfl trivial rfl
 exact fun θ R hd => Zq (OD.load rfl ti3 rfl (i := 0) rfl rfl) rfl rfl trivial rfl
 exact fun θ R ⟨h1d, h2d, _⟩ => Zq (OD.mulI rfl rfl rfl (by omega)) rfl rfl trivial rfl
 exact fun θ R ⟨h3d, _⟩ => Opp.plain (OG.imp (OG.makeInts rfl et22 rfl rfl (by omega)) (by rintro v6 _ ⟨hs7, rfl⟩; exact ⟨[v6], rfl, hs7, rfl⟩)) rfl
 exact fun θ R ⟨h0d, h4d, _⟩ => Zq (OD.build (idx := [0, 1]) (xs := [.tmp 18, .tmp 22]) (vs := [.int .i64 ((rk k : Int)), ((θ 4).getD 0 undef)]) (cs := [[.int .i64 ((rk k : Int))], [((θ 4).getD 0 undef)]]) (zs := [.int .i64 (0), .slice none 0 0]) (r := [.int .i64 ((rk k : Int)), ((θ 4).getD 0 undef)]) rfl ti27 rfl rfl rfl ⟨rfl, ⟨(one_cells (IsS.one h4d)), trivial⟩⟩ rfl) rfl rfl trivial rfl
 exact fun θ R hd => Opp.plain (OG.imp (OG.alloc rfl ti27 (zs := [.int .i64 (0), .slice none 0 0]) rfl) (by rintro _ _ ⟨g8, rfl, rfl⟩; exact ⟨[.pointer (some ⟨g8, 0, none⟩)], rfl, trivial, rfl⟩)) rfl
 intro θ hall
 obtain ⟨_, _, _, _, h4a, _, h6a, _⟩ := hall
 refine G.at [] 0 (env' := [(0, .string (s)), (2, .pointer (some ⟨g1, 0, none⟩)), (4, .pointer (some ⟨g5, 0, none⟩)), (23, .agg #[.int .i64 ((rk k : Int)), ((θ 4).getD 0 undef)]), (5, .pointer (some ⟨(gOf ((θ 6).getD 0 undef)), 0, none⟩))]) ⟨rfl,rfl,rfl,rfl,rfl,trivial⟩ (own' := ints 3 ((θ 4).getD 0 undef) (List.replicate ((rk k : Int) * (rk k : Int) : Int).toNat (0 : Int)) :: box (gOf ((θ 6).getD 0 undef)) 27 [.int .i64 (0), .slice none 0 0] :: box g5 3 [.int .i64 ((rk k : Int))] :: strs 9 v2 nameL :: box g1 27 [.int .i64 (0), .slice none 0 0] :: own) rfl ?_
 have hs9 : IsS ((θ 4).getD 0 undef) := h4a
 clear h4a
 generalize ((θ 4).getD 0 undef) = v10 at *
 clear h6a
 generalize (gOf ((θ 6).getD 0 undef)) = b11 at *
 show G _ _ _ [_] _ _ _ _
 refine G.stepD0 (OD.store rfl ti27 rfl rfl (us := [.int .i64 ((rk k : Int)), v10]) rfl rfl (allC rfl (allC (IsS.one hs9) rfl)) (i := 1) rfl rfl) rfl rfl ?_
 refine Zn (Zt (Zs (Zr ?_)))
 refine G.stepD (OD.makeFunc (first := []) (captured := [.tmp 5, .tmp 4]) (us := []) (vs := [.pointer (some ⟨b11, 0, none⟩), .pointer (some ⟨g5, 0, none⟩)]) rfl rfl rfl) rfl rfl rfl ?_
 refine G.step (OG.alloc rfl ti195 (zs := [.nilFunc]) rfl) rfl rfl rfl ?_
 rintro _ _ ⟨g12, rfl, rfl⟩
 refine G.stepD0 (OD.store rfl ti195 rfl rfl (us := [.func (.func 206) #[] #[.pointer (some ⟨b11, 0, none⟩), .pointer (some ⟨g5, 0, none⟩)]]) rfl rfl rfl (i := 0) rfl rfl) rfl rfl ?_
 refine Zn (Zt (Zs (Zr ?_)))
 refine G.stepD (OD.makeFunc (first := []) (captured := [.tmp 6]) (us := []) (vs := [.pointer (some ⟨g12, 0, none⟩)]) rfl rfl rfl) rfl rfl rfl ?_
 refine Za rfl rfl rfl rfl rfl ?_
 refine Zn (Zt (Zs (Zs (Zr ?_))))
 refine Za rfl rfl rfl rfl rfl ?_
 refine Zn (Zt (GC.block ?_))
 refine GC.loop (ι := Nat × List Int) (fun ⟨q, ys⟩ => [(0, .string (s)), (2, .pointer (some ⟨g1, 0, none⟩)), (4, .pointer (some ⟨g5, 0, none⟩)), (5, .pointer (some ⟨b11, 0, none⟩)), (6, .pointer (some ⟨g12, 0, none⟩)), (7, .func (.func 207) #[] #[.pointer (some ⟨g12, 0, none⟩)]), (8, .int .i64 ((q : Int) + 1))]) (fun ⟨q, ys⟩ => box g12 195 [.func (.func 206) #[] #[.pointer (some ⟨b11, 0, none⟩), .pointer (some ⟨g5, 0, none⟩)]] :: ints 3 v10 ys :: box b11 27 [.int .i64 ((rk k : Int)), v10] :: box g5 3 [.int .i64 ((rk k : Int))] :: strs 9 v2 nameL :: box g1 27 [.int .i64 (0), .slice none 0 0] :: own) (fun ⟨q, ys⟩ => (q ≤ rk k) ∧ ((ys.length : Int) = (rk k : Int) * (rk k : Int)) ∧ (ys = (List.range q).foldl (itI k) (List.replicate ((rk k : Int) * (rk k : Int)).toNat 0))) (fun ⟨q, ys⟩ => rk k - q) (0, List.replicate ((rk k : Int) * (rk k : Int)).toNat 0) (⟨by omega, by rw [List.length_replicate]; omega, rfl⟩) ⟨rfl, rfl, rfl, rfl, rfl, rfl, int_eq (by omega), trivial⟩ [] 0 rfl ?_
 rintro ⟨q, ys⟩ ⟨hq, hyl, hy⟩
 refine Zs (Zs (Zr ?_))
 refine Zm rfl rfl rfl rfl rfl ?_
 refine G.stepD (OD.load rfl ti3 rfl (i := 3) rfl rfl) rfl rfl rfl ?_
 refine G.stepD (OD.leq rfl rfl rfl) rfl rfl rfl ?_
 refine Zn (Zt ?_)
 refine GC.cond rfl (fun hc13 => ?_) (fun hc13 => ?_)
 replace hc13 := of_decide_eq_true hc13
 refine Zk (Zt (Zs (GC.block (Zs (Zr ?_)))))
 refine G.stepD (OD.load rfl ti195 rfl (i := 0) rfl rfl) rfl rfl rfl ?_
 refine Zm rfl rfl rfl rfl rfl ?_
 refine Zm rfl rfl rfl rfl rfl ?_
 refine G.at [2, 2, 1] 0 (env' := [(0, .string (s)), (2, .pointer (some ⟨g1, 0, none⟩)), (4, .pointer (some ⟨g5, 0, none⟩)), (5, .pointer (some ⟨b11, 0, none⟩)), (6, .pointer (some ⟨g12, 0, none⟩)), (7, .func (.func 207) #[] #[.pointer (some ⟨g12, 0, none⟩)]), (8, .int .i64 ((q : Int) + 1)), (26, .int .i64 ((q : Int) + 1)), (27, .int .i64 ((rk k : Int))), (28, .bool (decide ((q : Int) + 1 ≤ (rk k : Int)))), (31, .func (.func 206) #[] #[.pointer (some ⟨b11, 0, none⟩), .pointer (some ⟨g5, 0, none⟩)]), (32, .int .i64 ((q : Int) + 1)), (33, .int .i64 ((q : Int) + 1))]) ⟨rfl,rfl,rfl,rfl,rfl,rfl,rfl,rfl,rfl,rfl,rfl,rfl,rfl,trivial⟩ (own' := box b11 27 [.int .i64 ((rk k : Int)), v10] :: box g5 3 [.int .i64 ((rk k : Int))] :: ints 3 v10 ys :: box g12 195 [.func (.func 206) #[] #[.pointer (some ⟨b11, 0, none⟩), .pointer (some ⟨g5, 0, none⟩)]] :: strs 9 v2 nameL :: box g1 27 [.int .i64 (0), .slice none 0 0] :: own) rfl ?_
 refine G.step (OG.call [.int .i64 ((q : Int) + 1), .int .i64 ((q : Int) + 1), .int .i64 (2), .pointer (some ⟨b11, 0, none⟩), .pointer (some ⟨g5, 0, none⟩)] ent206 rfl rfl rfl rfl (by exact (put_w (by omega) (by omega) (by omega) (by first | exact hyl | (simp only [putF_len, bothF_len]; exact hyl))))) rfl rfl rfl ?_
 rintro _ _ ⟨rfl, rfl⟩
 refine Zn (Zt (Zs (Zr ?_)))
 refine Zm rfl rfl rfl rfl rfl ?_
 refine G.stepD (OD.load rfl ti3 rfl (i := 1) rfl rfl) rfl rfl rfl ?_
 refine G.stepD (OD.lss rfl rfl rfl) rfl rfl rfl ?_
 refine Zm rfl rfl rfl rfl rfl ?_
 rcases Bool.eq_false_or_eq_true (decide ((q : Int) + 1 < (rk k : Int))) with hg14 | hg14
 have hg14e := hg14
 refine G.at [] 0 (env' := [(0, .string (s)), (2, .pointer (some ⟨g1, 0, none⟩)), (4, .pointer (some ⟨g5, 0, none⟩)), (5, .pointer (some ⟨b11, 0, none⟩)), (6, .pointer (some ⟨g12, 0, none⟩)), (7, .func (.func 207) #[] #[.pointer (some ⟨g12, 0, none⟩)]), (8, .int .i64 ((q : Int) + 1)), (26, .int .i64 ((q : Int) + 1)), (27, .int .i64 ((rk k : Int))), (28, .bool (decide ((q : Int) + 1 ≤ (rk k : Int)))), (31, .func (.func 206) #[] #[.pointer (some ⟨b11, 0, none⟩), .pointer (some ⟨g5, 0, none⟩)]), (32, .int .i64 ((q : Int) + 1)), (33, .int .i64 ((q : Int) + 1)), (34, .tuple #[]), (35, .int .i64 ((q : Int) + 1)), (36, .int .i64 ((rk k : Int))), (37, .bool true), (38, .bool true)]) (⟨rfl, rfl, rfl, rfl, rfl, rfl, rfl, rfl, rfl, rfl, rfl, rfl, rfl, rfl, rfl, rfl, (congrArg (fun b => some (Value.bool b)) hg14e), (congrArg (fun b => some (Value.bool b)) hg14e), trivial⟩) rfl ?_
 replace hg14 := of_decide_eq_true hg14
 refine G.stepGD (OD.move rfl rfl) rfl rfl rfl rfl rfl ?_
 refine G.stepGD (OD.eqv (OD.strNeq rfl rfl rfl) (congrArg (Value.bool) ((by rw [hse, nm_D4 k hk12]) : _ = (!(k == 9))))) rfl rfl rfl rfl rfl ?_
 refine G.stepD (OD.pickT rfl rfl rfl) rfl rfl rfl ?_
 refine Zn (Zt ?_)
 refine GC.cond rfl (fun hc15 => ?_) (fun hc15 => ?_)
 replace hc15 := eq_false_of_not hc15
 refine Zr ?_
 refine Zm rfl rfl rfl rfl rfl ?_
 refine Zm rfl rfl rfl rfl rfl ?_
 refine Zm rfl rfl rfl rfl rfl ?_
 refine G.stepD (OD.addI rfl rfl rfl (by omega)) rfl rfl rfl ?_
 refine G.at [3, 0, 0, 0] 0 (env' := [(0, .string (s)), (2, .pointer (some ⟨g1, 0, none⟩)), (4, .pointer (some ⟨g5, 0, none⟩)), (5, .pointer (some ⟨b11, 0, none⟩)), (6, .pointer (some ⟨g12, 0, none⟩)), (7, .func (.func 207) #[] #[.pointer (some ⟨g12, 0, none⟩)]), (8, .int .i64 ((q : Int) + 1)), (26, .int .i64 ((q : Int) + 1)), (27, .int .i64 ((rk k : Int))), (28, .bool (decide ((q : Int) + 1 ≤ (rk k : Int)))), (31, .func (.func 206) #[] #[.pointer (some ⟨b11, 0, none⟩), .pointer (some ⟨g5, 0, none⟩)]), (32, .int .i64 ((q : Int) + 1)), (33, .int .i64 ((q : Int) + 1)), (34, .tuple #[]), (35, .int .i64 ((q : Int) + 1)), (36, .int .i64 ((rk k : Int))), (37, .bool true), (38, .bool true), (39, .string (s)), (40, .bool (!(k == 9))), (41, .bool (!(k == 9))), (42, .func (.func 207) #[] #[.pointer (some ⟨g12, 0, none⟩)]), (43, .int .i64 ((q : Int) + 1)), (44, .int .i64 ((q : Int) + 1)), (45, .int .i64 (((q : Int) + 1) + 1))]) ⟨rfl,rfl,rfl,rfl,rfl,rfl,rfl,rfl,rfl,rfl,rfl,rfl,rfl,rfl,rfl,rfl,rfl,rfl,rfl,rfl,rfl,rfl,rfl,rfl,rfl,trivial⟩ (own' := box g12 195 [.func (.func 206) #[] #[.pointer (some ⟨b11, 0, none⟩), .pointer (some ⟨g5, 0, none⟩)]] :: box b11 27 [.int .i64 ((rk k : Int)), v10] :: box g5 3 [.int .i64 ((rk k : Int))] :: ints 3 v10 (putF (rk k : Int) ys ((q : Int) + 1) ((q : Int) + 1) 2) :: strs 9 v2 nameL :: box g1 27 [.int .i64 (0), .slice none 0 0] :: own) rfl ?_
 refine G.step (OG.call [.int .i64 ((q : Int) + 1), .int .i64 (((q : Int) + 1) + 1), .pointer (some ⟨g12, 0, none⟩)] ent207 rfl rfl rfl rfl (by exact (both_w (by omega) (by omega) (by omega) (by first | exact hyl | (simp only [putF_len, bothF_len]; exact hyl))))) rfl rfl rfl ?_
 rintro _ _ ⟨rfl, rfl⟩
 refine Zn (GE.blockN (Zt (Zr ?_)))
 refine Zm rfl rfl rfl rfl rfl ?_
 refine G.stepD (OD.addI rfl rfl rfl (by omega)) rfl rfl rfl ?_
 refine Za rfl rfl rfl rfl rfl ?_
 refine Zn ?_
 exact GE.again (q + 1, bothF (rk k : Int) (putF (rk k : Int) ys ((q : Int) + 1) ((q : Int) + 1) 2) ((q : Int) + 1) (((q : Int) + 1) + 1)) (⟨by omega, by simp only [putF_len, bothF_len]; exact hyl, fold_next hy (by unfold itI; by_cases h9 : k = 9 <;> by_cases hlt : (q : Int) + 1 < rk k <;> first | (rw [if_pos ⟨hlt, h9⟩]; done) | (rw [if_neg (fun hh => hh.2 h9)]; done) | (rw [if_neg (fun hh => hlt hh.1)]; done) | (exfalso; omega) | (exfalso; simp_all; done))⟩) (by first | omega | (dsimp only; omega)) ⟨rfl, rfl, rfl, rfl, rfl, rfl, int_eq (by omega), trivial⟩ [0, 2, 0, 0, 0, 0] 0 rfl
 replace hc15 := eq_true_of_not hc15
 refine Zk (GE.blockN (Zt (Zr ?_)))
 refine Zm rfl rfl rfl rfl rfl ?_
 refine G.stepD (OD.addI rfl rfl rfl (by omega)) rfl rfl rfl ?_
 refine Za rfl rfl rfl rfl rfl ?_
 refine Zn ?_
 exact GE.again (q + 1, putF (rk k : Int) ys ((q : Int) + 1) ((q : Int) + 1) 2) (⟨by omega, by simp only [putF_len, bothF_len]; exact hyl, fold_next hy (by unfold itI; by_cases h9 : k = 9 <;> by_cases hlt : (q : Int) + 1 < rk k <;> first | (rw [if_pos ⟨hlt, h9⟩]; done) | (rw [if_neg (fun hh => hh.2 h9)]; done) | (rw [if_neg (fun hh => hlt hh.1)]; done) | (exfalso; omega) | (exfalso; simp_all; done))⟩) (by first | omega | (dsimp only; omega)) ⟨rfl, rfl, rfl, rfl, rfl, rfl, int_eq (by omega), trivial⟩ [3, 2, 0, 0, 0, 0] 0 rfl
 have hg14e := hg14
 refine G.at [] 0 (env' := [(0, .string (s)), (2, .pointer (some ⟨g1, 0, none⟩)), (4, .pointer (some ⟨g5, 0, none⟩)), (5, .pointer (some ⟨b11, 0, none⟩)), (6, .pointer (some ⟨g12, 0, none⟩)), (7, .func (.func 207) #[] #[.pointer (some ⟨g12, 0, none⟩)]), (8, .int .i64 ((q : Int) + 1)), (26, .int .i64 ((q : Int) + 1)), (27, .int .i64 ((rk k : Int))), (28, .bool (decide ((q : Int) + 1 ≤ (rk k : Int)))), (31, .func (.func 206) #[] #[.pointer (some ⟨b11, 0, none⟩), .pointer (some ⟨g5, 0, none⟩)]), (32, .int .i64 ((q : Int) + 1)), (33, .int .i64 ((q : Int) + 1)), (34, .tuple #[]), (35, .int .i64 ((q : Int) + 1)), (36, .int .i64 ((rk k : Int))), (37, .bool false), (38, .bool false)]) (⟨rfl, rfl, rfl, rfl, rfl, rfl, rfl, rfl, rfl, rfl, rfl, rfl, rfl, rfl, rfl, rfl, (congrArg (fun b => some (Value.bool b)) hg14e), (congrArg (fun b => some (Value.bool b)) hg14e), trivial⟩) rfl ?_
 replace hg14 := of_decide_eq_false hg14
 refine G.skipG rfl rfl rfl rfl rfl rfl (G.skipG rfl rfl rfl rfl rfl rfl ?_)
 refine G.stepD (OD.pickF rfl rfl rfl) rfl rfl rfl ?_
 refine Zn (Zt (GC.condF rfl (Zk (GE.blockN (Zt (Zr ?_))))))
 refine Zm rfl rfl rfl rfl rfl ?_
 refine G.stepD (OD.addI rfl rfl rfl (by omega)) rfl rfl rfl ?_
 refine Za rfl rfl rfl rfl rfl ?_
 refine Zn ?_
 exact GE.again (q + 1, putF (rk k : Int) ys ((q : Int) + 1) ((q : Int) + 1) 2) (⟨by omega, by simp only [putF_len, bothF_len]; exact hyl, fold_next hy (by unfold itI; by_cases h9 : k = 9 <;> by_cases hlt : (q : Int) + 1 < rk k <;> first | (rw [if_pos ⟨hlt, h9⟩]; done) | (rw [if_neg (fun hh => hh.2 h9)]; done) | (rw [if_neg (fun hh => hlt hh.1)]; done) | (exfalso; omega) | (exfalso; simp_all; done))⟩) (by first | omega | (dsimp only; omega)) ⟨rfl, rfl, rfl, rfl, rfl, rfl, int_eq (by omega), trivial⟩ [3, 2, 0, 0, 0, 0] 0 rfl
 replace hc13 := of_decide_eq_false hc13
 refine GC.exit (Zp (Zp (GE.hit (Zt (Zs (Zs (Zr ?_)))))))
 refine Zm rfl rfl rfl rfl rfl ?_
 refine G.stepD (OD.indexStr rfl st9 rfl rfl (by omega)) rfl rfl rfl ?_
 refine Zn (Zt (GC.block (Zs (Zr ?_))))
 refine G.stepD (OD.eql rfl rfl rfl) rfl rfl rfl ?_
 refine Za rfl rfl rfl rfl rfl ?_
 refine Zn (Zt ?_)
 refine GC.cond rfl (fun hc16 => ?_) (fun hc16 => ?_)
 replace hc16 := eq_of_beq hc16
 have hbb : bAt (nameB k) 0 = 66 := by rw [← hse]; exact hc16
 have hr2 := rk_B k hk12 hbb
 refine Zr ?_
 refine G.stepD (OD.load rfl ti195 rfl (i := 0) rfl rfl) rfl rfl rfl ?_
 refine G.stepD (OD.load rfl ti3 rfl (i := 3) rfl rfl) rfl rfl rfl ?_
 refine G.stepD (OD.load rfl ti3 rfl (i := 3) rfl rfl) rfl rfl rfl ?_
 refine G.stepD (OD.subI rfl rfl rfl (by omega)) rfl rfl rfl ?_
 refine G.at [2, 2, 1] 0 (env' := [(0, .string (s)), (2, .pointer (some ⟨g1, 0, none⟩)), (4, .pointer (some ⟨g5, 0, none⟩)), (5, .pointer (some ⟨b11, 0, none⟩)), (6, .pointer (some ⟨g12, 0, none⟩)), (7, .func (.func 207) #[] #[.pointer (some ⟨g12, 0, none⟩)]), (8, .int .i64 ((q : Int) + 1)), (26, .int .i64 ((q : Int) + 1)), (27, .int .i64 ((rk k : Int))), (28, .bool (decide ((q : Int) + 1 ≤ (rk k : Int)))), (47, .string (s)), (48, .int .u8 (bAt s 0)), (50, .bool ((bAt s 0) == 66)), (49, .bool ((bAt s 0) == 66)), (51, .func (.func 206) #[] #[.pointer (some ⟨b11, 0, none⟩), .pointer (some ⟨g5, 0, none⟩)]), (52, .int .i64 ((rk k : Int))), (53, .int .i64 ((rk k : Int))), (54, .int .i64 ((rk k : Int) - 1))]) ⟨rfl,rfl,rfl,rfl,rfl,rfl,rfl,rfl,rfl,rfl,rfl,rfl,rfl,rfl,rfl,rfl,rfl,rfl,trivial⟩ (own' := box b11 27 [.int .i64 ((rk k : Int)), v10] :: box g5 3 [.int .i64 ((rk k : Int))] :: ints 3 v10 ys :: box g12 195 [.func (.func 206) #[] #[.pointer (some ⟨b11, 0, none⟩), .pointer (some ⟨g5, 0, none⟩)]] :: strs 9 v2 nameL :: box g1 27 [.int .i64 (0), .slice none 0 0] :: own) rfl ?_
 refine G.step (OG.call [.int .i64 ((rk k : Int)), .int .i64 ((rk k : Int) - 1), .int .i64 (-2), .pointer (some ⟨b11, 0, none⟩), .pointer (some ⟨g5, 0, none⟩)] ent206 rfl rfl rfl rfl (by exact (put_w (by omega) (by omega) (by omega) (by first | exact hyl | (simp only [putF_len, bothF_len]; exact hyl))))) rfl rfl rfl ?_
 rintro _ _ ⟨rfl, rfl⟩
 refine Zn (GE.blockN (Zt (Zs (Zr ?_))))
 refine G.stepD (OD.loadAgg rfl ti27 rfl (i := 0) rfl (us := [.int .i64 ((rk k : Int)), v10]) rfl rfl) rfl rfl rfl ?_
 refine G.stepD0 (OD.store rfl ti27 rfl rfl (us := [.int .i64 ((rk k : Int)), v10]) rfl rfl (allC rfl (allC (IsS.one hs9) rfl)) (i := 5) rfl rfl) rfl rfl ?_
 refine Za rfl rfl rfl rfl rfl ?_
 refine Zn (Zt (GC.ret ?_))
 exact GE.body [2] 5 (resN rfl (RVs.cons (rv_cells ti27 rfl (i := 5) rfl rfl) (RVs.cons (rv_tmp rfl) RVs.nil)) rfl) rfl (⟨v10, congr (congrArg (fun (a0 : Int) (a2 : Bool) => (.tuple #[.agg #[.int .i64 (a0), v10], .bool (a2)] : Value)) ((hpR.symm : ((rk k : Int) : Int) = partR s))) ((hpS.symm : (true : Bool) = (nameNo s).isSome)), hs9, congrArg (fun (l0 : List Int) => ints 3 v10 l0 :: own) ((by rw [hpD, hy, show q = rk k by omega]; exact endB k hk12 hbb : putF (rk k : Int) ys (rk k : Int) ((rk k : Int) - 1) (-2) = partD s))⟩)
 replace hc16 := ne_of_beq_false hc16
 have hc16n : bAt (nameB k) 0 ≠ 66 := by rw [← hse]; exact hc16
 refine Zs (Zr ?_)
 refine G.stepD (OD.eql rfl rfl rfl) rfl rfl rfl ?_
 refine Za rfl rfl rfl rfl rfl ?_
 refine Zn (Zt ?_)
 refine GC.cond rfl (fun hc17 => ?_) (fun hc17 => ?_)
 replace hc17 := eq_of_beq hc17
 have hbb : bAt (nameB k) 0 = 67 := by rw [← hse]; exact hc17
 have hr2 := rk_C k hk12 hbb
 refine Zr ?_
 refine G.stepD (OD.load rfl ti195 rfl (i := 0) rfl rfl) rfl rfl rfl ?_
 refine G.stepD (OD.load rfl ti3 rfl (i := 3) rfl rfl) rfl rfl rfl ?_
 refine G.stepD (OD.subI rfl rfl rfl (by omega)) rfl rfl rfl ?_
 refine G.stepD (OD.load rfl ti3 rfl (i := 3) rfl rfl) rfl rfl rfl ?_
 refine G.at [2, 2, 1] 0 (env' := [(0, .string (s)), (2, .pointer (some ⟨g1, 0, none⟩)), (4, .pointer (some ⟨g5, 0, none⟩)), (5, .pointer (some ⟨b11, 0, none⟩)), (6, .pointer (some ⟨g12, 0, none⟩)), (7, .func (.func 207) #[] #[.pointer (some ⟨g12, 0, none⟩)]), (8, .int .i64 ((q : Int) + 1)), (26, .int .i64 ((q : Int) + 1)), (27, .int .i64 ((rk k : Int))), (28, .bool (decide ((q : Int) + 1 ≤ (rk k : Int)))), (47, .string (s)), (48, .int .u8 (bAt s 0)), (50, .bool ((bAt s 0) == 66)), (49, .bool ((bAt s 0) == 66)), (57, .bool ((bAt s 0) == 67)), (56, .bool ((bAt s 0) == 67)), (58, .func (.func 206) #[] #[.pointer (some ⟨b11, 0, none⟩), .pointer (some ⟨g5, 0, none⟩)]), (59, .int .i64 ((rk k : Int))), (60, .int .i64 ((rk k : Int) - 1)), (61, .int .i64 ((rk k : Int)))]) ⟨rfl,rfl,rfl,rfl,rfl,rfl,rfl,rfl,rfl,rfl,rfl,rfl,rfl,rfl,rfl,rfl,rfl,rfl,rfl,rfl,trivial⟩ (own' := box b11 27 [.int .i64 ((rk k : Int)), v10] :: box g5 3 [.int .i64 ((rk k : Int))] :: ints 3 v10 ys :: box g12 195 [.func (.func 206) #[] #[.pointer (some ⟨b11, 0, none⟩), .pointer (some ⟨g5, 0, none⟩)]] :: strs 9 v2 nameL :: box g1 27 [.int .i64 (0), .slice none 0 0] :: own) rfl ?_
 refine G.step (OG.call [.int .i64 ((rk k : Int) - 1), .int .i64 ((rk k : Int)), .int .i64 (-2), .pointer (some ⟨b11, 0, none⟩), .pointer (some ⟨g5, 0, none⟩)] ent206 rfl rfl rfl rfl (by exact (put_w (by omega) (by omega) (by omega) (by first | exact hyl | (simp only [putF_len, bothF_len]; exact hyl))))) rfl rfl rfl ?_
 rintro _ _ ⟨rfl, rfl⟩
 refine Zn (GE.blockN (Zt (Zs (Zr ?_))))
 refine G.stepD (OD.loadAgg rfl ti27 rfl (i := 0) rfl (us := [.int .i64 ((rk k : Int)), v10]) rfl rfl) rfl rfl rfl ?_
 refine G.stepD0 (OD.store rfl ti27 rfl rfl (us := [.int .i64 ((rk k : Int)), v10]) rfl rfl (allC rfl (allC (IsS.one hs9) rfl)) (i := 5) rfl rfl) rfl rfl ?_
 refine Za rfl rfl rfl rfl rfl ?_
 refine Zn (Zt (GC.ret ?_))
 exact GE.body [2] 5 (resN rfl (RVs.cons (rv_cells ti27 rfl (i := 5) rfl rfl) (RVs.cons (rv_tmp rfl) RVs.nil)) rfl) rfl (⟨v10, congr (congrArg (fun (a0 : Int) (a2 : Bool) => (.tuple #[.agg #[.int .i64 (a0), v10], .bool (a2)] : Value)) ((hpR.symm : ((rk k : Int) : Int) = partR s))) ((hpS.symm : (true : Bool) = (nameNo s).isSome)), hs9, congrArg (fun (l0 : List Int) => ints 3 v10 l0 :: own) ((by rw [hpD, hy, show q = rk k by omega]; exact endC k hk12 hbb : putF (rk k : Int) ys ((rk k : Int) - 1) (rk k : Int) (-2) = partD s))⟩)
 replace hc17 := ne_of_beq_false hc17
 have hc17n : bAt (nameB k) 0 ≠ 67 := by rw [← hse]; exact hc17
 refine Zs (Zr ?_)
 refine G.stepD (OD.eql rfl rfl rfl) rfl rfl rfl ?_
 refine Za rfl rfl rfl rfl rfl ?_
 refine Zn (Zt ?_)
 refine GC.cond rfl (fun hc18 => ?_) (fun hc18 => ?_)
 replace hc18 := eq_of_beq hc18
 have hbb : bAt (nameB k) 0 = 70 := by rw [← hse]; exact hc18
 have hr2 := (endF k hk12 hbb).2
 refine Zr ?_
 refine G.stepD (OD.load rfl ti195 rfl (i := 0) rfl rfl) rfl rfl rfl ?_
 refine G.at [2, 2, 1] 0 (env' := [(0, .string (s)), (2, .pointer (some ⟨g1, 0, none⟩)), (4, .pointer (some ⟨g5, 0, none⟩)), (5, .pointer (some ⟨b11, 0, none⟩)), (6, .pointer (some ⟨g12, 0, none⟩)), (7, .func (.func 207) #[] #[.pointer (some ⟨g12, 0, none⟩)]), (8, .int .i64 ((q : Int) + 1)), (26, .int .i64 ((q : Int) + 1)), (27, .int .i64 ((rk k : Int))), (28, .bool (decide ((q : Int) + 1 ≤ (rk k : Int)))), (47, .string (s)), (48, .int .u8 (bAt s 0)), (50, .bool ((bAt s 0) == 66)), (49, .bool ((bAt s 0) == 66)), (57, .bool ((bAt s 0) == 67)), (56, .bool ((bAt s 0) == 67)), (64, .bool ((bAt s 0) == 70)), (63, .bool ((bAt s 0) == 70)), (65, .func (.func 206) #[] #[.pointer (some ⟨b11, 0, none⟩), .pointer (some ⟨g5, 0, none⟩)])]) ⟨rfl,rfl,rfl,rfl,rfl,rfl,rfl,rfl,rfl,rfl,rfl,rfl,rfl,rfl,rfl,rfl,rfl,rfl,rfl,trivial⟩ (own' := box b11 27 [.int .i64 ((rk k : Int)), v10] :: box g5 3 [.int .i64 ((rk k : Int))] :: ints 3 v10 ys :: box g12 195 [.func (.func 206) #[] #[.pointer (some ⟨b11, 0, none⟩), .pointer (some ⟨g5, 0, none⟩)]] :: strs 9 v2 nameL :: box g1 27 [.int .i64 (0), .slice none 0 0] :: own) rfl ?_
 refine G.step (OG.call [.int .i64 (3), .int .i64 (2), .int .i64 (-2), .pointer (some ⟨b11, 0, none⟩), .pointer (some ⟨g5, 0, none⟩)] ent206 rfl rfl rfl rfl (by exact (put_w (by omega) (by omega) (by omega) (by first | exact hyl | (simp only [putF_len, bothF_len]; exact hyl))))) rfl rfl rfl ?_
 rintro _ _ ⟨rfl, rfl⟩
 refine Zn (GE.blockN (Zt (Zs (Zr ?_))))
 refine G.stepD (OD.loadAgg rfl ti27 rfl (i := 0) rfl (us := [.int .i64 ((rk k : Int)), v10]) rfl rfl) rfl rfl rfl ?_
 refine G.stepD0 (OD.store rfl ti27 rfl rfl (us := [.int .i64 ((rk k : Int)), v10]) rfl rfl (allC rfl (allC (IsS.one hs9) rfl)) (i := 5) rfl rfl) rfl rfl ?_
 refine Za rfl rfl rfl rfl rfl ?_
 refine Zn (Zt (GC.ret ?_))
 exact GE.body [2] 5 (resN rfl (RVs.cons (rv_cells ti27 rfl (i := 5) rfl rfl) (RVs.cons (rv_tmp rfl) RVs.nil)) rfl) rfl (⟨v10, congr (congrArg (fun (a0 : Int) (a2 : Bool) => (.tuple #[.agg #[.int .i64 (a0), v10], .bool (a2)] : Value)) ((hpR.symm : ((rk k : Int) : Int) = partR s))) ((hpS.symm : (true : Bool) = (nameNo s).isSome)), hs9, congrArg (fun (l0 : List Int) => ints 3 v10 l0 :: own) ((by rw [hpD, hy, show q = rk k by omega]; exact (endF k hk12 hbb).1 : putF (rk k : Int) ys 3 2 (-2) = partD s))⟩)
 replace hc18 := ne_of_beq_false hc18
 have hc18n : bAt (nameB k) 0 ≠ 70 := by rw [← hse]; exact hc18
 refine Zs (Zr ?_)
 refine G.stepD (OD.eql rfl rfl rfl) rfl rfl rfl ?_
 refine Za rfl rfl rfl rfl rfl ?_
 refine Zn (Zt ?_)
 refine GC.cond rfl (fun hc19 => ?_) (fun hc19 => ?_)
 replace hc19 := eq_of_beq hc19
 have hbb : bAt (nameB k) 0 = 71 := by rw [← hse]; exact hc19
 have hr2 := (endG k hk12 hbb).2
 refine Zr ?_
 refine G.stepD (OD.load rfl ti195 rfl (i := 0) rfl rfl) rfl rfl rfl ?_
 refine G.at [2, 2, 1] 0 (env' := [(0, .string (s)), (2, .pointer (some ⟨g1, 0, none⟩)), (4, .pointer (some ⟨g5, 0, none⟩)), (5, .pointer (some ⟨b11, 0, none⟩)), (6, .pointer (some ⟨g12, 0, none⟩)), (7, .func (.func 207) #[] #[.pointer (some ⟨g12, 0, none⟩)]), (8, .int .i64 ((q : Int) + 1)), (26, .int .i64 ((q : Int) + 1)), (27, .int .i64 ((rk k : Int))), (28, .bool (decide ((q : Int) + 1 ≤ (rk k : Int)))), (47, .string (s)), (48, .int .u8 (bAt s 0)), (50, .bool ((bAt s 0) == 66)), (49, .bool ((bAt s 0) == 66)), (57, .bool ((bAt s 0) == 67)), (56, .bool ((bAt s 0) == 67)), (64, .bool ((bAt s 0) == 70)), (63, .bool ((bAt s 0) == 70)), (68, .bool ((bAt s 0) == 71)), (67, .bool ((bAt s 0) == 71)), (69, .func (.func 206) #[] #[.pointer (some ⟨b11, 0, none⟩), .pointer (some ⟨g5, 0, none⟩)])]) ⟨rfl,rfl,rfl,rfl,rfl,rfl,rfl,rfl,rfl,rfl,rfl,rfl,rfl,rfl,rfl,rfl,rfl,rfl,rfl,rfl,rfl,trivial⟩ (own' := box b11 27 [.int .i64 ((rk k : Int)), v10] :: box g5 3 [.int .i64 ((rk k : Int))] :: ints 3 v10 ys :: box g12 195 [.func (.func 206) #[] #[.pointer (some ⟨b11, 0, none⟩), .pointer (some ⟨g5, 0, none⟩)]] :: strs 9 v2 nameL :: box g1 27 [.int .i64 (0), .slice none 0 0] :: own) rfl ?_
 refine G.step (OG.call [.int .i64 (1), .int .i64 (2), .int .i64 (-3), .pointer (some ⟨b11, 0, none⟩), .pointer (some ⟨g5, 0, none⟩)] ent206 rfl rfl rfl rfl (by exact (put_w (by omega) (by omega) (by omega) (by first | exact hyl | (simp only [putF_len, bothF_len]; exact hyl))))) rfl rfl rfl ?_
 rintro _ _ ⟨rfl, rfl⟩
 refine Zn (GE.blockN (Zt (Zs (Zr ?_))))
 refine G.stepD (OD.loadAgg rfl ti27 rfl (i := 0) rfl (us := [.int .i64 ((rk k : Int)), v10]) rfl rfl) rfl rfl rfl ?_
 refine G.stepD0 (OD.store rfl ti27 rfl rfl (us := [.int .i64 ((rk k : Int)), v10]) rfl rfl (allC rfl (allC (IsS.one hs9) rfl)) (i := 5) rfl rfl) rfl rfl ?_
 refine Za rfl rfl rfl rfl rfl ?_
 refine Zn (Zt (GC.ret ?_))
 exact GE.body [2] 5 (resN rfl (RVs.cons (rv_cells ti27 rfl (i := 5) rfl rfl) (RVs.cons (rv_tmp rfl) RVs.nil)) rfl) rfl (⟨v10, congr (congrArg (fun (a0 : Int) (a2 : Bool) => (.tuple #[.agg #[.int .i64 (a0), v10], .bool (a2)] : Value)) ((hpR.symm : ((rk k : Int) : Int) = partR s))) ((hpS.symm : (true : Bool) = (nameNo s).isSome)), hs9, congrArg (fun (l0 : List Int) => ints 3 v10 l0 :: own) ((by rw [hpD, hy, show q = rk k by omega]; exact (endG k hk12 hbb).1 : putF (rk k : Int) ys 1 2 (-3) = partD s))⟩)
 replace hc19 := ne_of_beq_false hc19
 have hc19n : bAt (nameB k) 0 ≠ 71 := by rw [← hse]; exact hc19
 refine Zs (Zr ?_)
 refine G.stepD (OD.eql rfl rfl rfl) rfl rfl rfl ?_
 refine Za rfl rfl rfl rfl rfl ?_
 refine Zn (Zt ?_)
 refine GC.cond rfl (fun hc20 => ?_) (fun hc20 => ?_)
 replace hc20 := eq_of_beq hc20
 have hbb : bAt (nameB k) 0 = 68 := by rw [← hse]; exact hc20
 have hr2 := (endD k hk12 hbb).2
 refine Zs (Zr ?_)
 refine Zm rfl rfl rfl rfl rfl ?_
 refine G.at [0, 1, 1, 0] 0 (env' := [(0, .string (s)), (2, .pointer (some ⟨g1, 0, none⟩)), (4, .pointer (some ⟨g5, 0, none⟩)), (5, .pointer (some ⟨b11, 0, none⟩)), (6, .pointer (some ⟨g12, 0, none⟩)), (7, .func (.func 207) #[] #[.pointer (some ⟨g12, 0, none⟩)]), (8, .int .i64 ((q : Int) + 1)), (26, .int .i64 ((q : Int) + 1)), (27, .int .i64 ((rk k : Int))), (28, .bool (decide ((q : Int) + 1 ≤ (rk k : Int)))), (47, .string (s)), (48, .int .u8 (bAt s 0)), (50, .bool ((bAt s 0) == 66)), (49, .bool ((bAt s 0) == 66)), (57, .bool ((bAt s 0) == 67)), (56, .bool ((bAt s 0) == 67)), (64, .bool ((bAt s 0) == 70)), (63, .bool ((bAt s 0) == 70)), (68, .bool ((bAt s 0) == 71)), (67, .bool ((bAt s 0) == 71)), (72, .bool ((bAt s 0) == 68)), (71, .bool ((bAt s 0) == 68)), (73, .func (.func 207) #[] #[.pointer (some ⟨g12, 0, none⟩)])]) ⟨rfl,rfl,rfl,rfl,rfl,rfl,rfl,rfl,rfl,rfl,rfl,rfl,rfl,rfl,rfl,rfl,rfl,rfl,rfl,rfl,rfl,rfl,rfl,trivial⟩ (own' := box g12 195 [.func (.func 206) #[] #[.pointer (some ⟨b11, 0, none⟩), .pointer (some ⟨g5, 0, none⟩)]] :: box b11 27 [.int .i64 ((rk k : Int)), v10] :: box g5 3 [.int .i64 ((rk k : Int))] :: ints 3 v10 ys :: strs 9 v2 nameL :: box g1 27 [.int .i64 (0), .slice none 0 0] :: own) rfl ?_
 refine G.step (OG.call [.int .i64 (2), .int .i64 (1), .pointer (some ⟨g12, 0, none⟩)] ent207 rfl rfl rfl rfl (by exact (both_w (by omega) (by omega) (by omega) (by first | exact hyl | (simp only [putF_len, bothF_len]; exact hyl))))) rfl rfl rfl ?_
 rintro _ _ ⟨rfl, rfl⟩
 refine Zn (Zt (Zs (Zr ?_)))
 refine Zm rfl rfl rfl rfl rfl ?_
 refine G.step (OG.call [.int .i64 (2), .int .i64 (3), .pointer (some ⟨g12, 0, none⟩)] ent207 rfl rfl rfl rfl (by exact (both_w (by omega) (by omega) (by omega) (by first | exact hyl | (simp only [putF_len, bothF_len]; exact hyl))))) rfl rfl rfl ?_
 rintro _ _ ⟨rfl, rfl⟩
 refine Zn (Zt (Zr ?_))
 refine Zm rfl rfl rfl rfl rfl ?_
 refine G.step (OG.call [.int .i64 (2), .int .i64 (4), .pointer (some ⟨g12, 0, none⟩)] ent207 rfl rfl rfl rfl (by exact (both_w (by omega) (by omega) (by omega) (by first | exact hyl | (simp only [putF_len, bothF_len]; exact hyl))))) rfl rfl rfl ?_
 rintro _ _ ⟨rfl, rfl⟩
 refine Zn (GE.blockN (Zt (Zs (Zr ?_))))
 refine G.stepD (OD.loadAgg rfl ti27 rfl (i := 1) rfl (us := [.int .i64 ((rk k : Int)), v10]) rfl rfl) rfl rfl rfl ?_
 refine G.stepD0 (OD.store rfl ti27 rfl rfl (us := [.int .i64 ((rk k : Int)), v10]) rfl rfl (allC rfl (allC (IsS.one hs9) rfl)) (i := 5) rfl rfl) rfl rfl ?_
 refine Za rfl rfl rfl rfl rfl ?_
 refine Zn (Zt (GC.ret ?_))
 exact GE.body [3] 5 (resN rfl (RVs.cons (rv_cells ti27 rfl (i := 5) rfl rfl) (RVs.cons (rv_tmp rfl) RVs.nil)) rfl) rfl (⟨v10, congr (congrArg (fun (a0 : Int) (a2 : Bool) => (.tuple #[.agg #[.int .i64 (a0), v10], .bool (a2)] : Value)) ((hpR.symm : ((rk k : Int) : Int) = partR s))) ((hpS.symm : (true : Bool) = (nameNo s).isSome)), hs9, congrArg (fun (l0 : List Int) => ints 3 v10 l0 :: own) ((by rw [hpD, hy, show q = rk k by omega]; exact (endD k hk12 hbb).1 : bothF (rk k : Int) (bothF (rk k : Int) (bothF (rk k : Int) ys 2 1) 2 3) 2 4 = partD s))⟩)
 replace hc20 := ne_of_beq_false hc20
 have hc20n : bAt (nameB k) 0 ≠ 68 := by rw [← hse]; exact hc20
 refine Zk (GE.blockN (Zt (Zs (Zr ?_))))
 refine G.stepD (OD.loadAgg rfl ti27 rfl (i := 2) rfl (us := [.int .i64 ((rk k : Int)), v10]) rfl rfl) rfl rfl rfl ?_
 refine G.stepD0 (OD.store rfl ti27 rfl rfl (us := [.int .i64 ((rk k : Int)), v10]) rfl rfl (allC rfl (allC (IsS.one hs9) rfl)) (i := 5) rfl rfl) rfl rfl ?_
 refine Za rfl rfl rfl rfl rfl ?_
 refine Zn (Zt (GC.ret ?_))
 exact GE.body [1] 5 (resN rfl (RVs.cons (rv_cells ti27 rfl (i := 5) rfl rfl) (RVs.cons (rv_tmp rfl) RVs.nil)) rfl) rfl (⟨v10, congr (congrArg (fun (a0 : Int) (a2 : Bool) => (.tuple #[.agg #[.int .i64 (a0), v10], .bool (a2)] : Value)) ((hpR.symm : ((rk k : Int) : Int) = partR s))) ((hpS.symm : (true : Bool) = (nameNo s).isSome)), hs9, congrArg (fun (l0 : List Int) => ints 3 v10 l0 :: own) ((by rw [hpD, hy, show q = rk k by omega]; exact endA k hk12 ⟨by assumption, by assumption, by assumption, by assumption, by assumption⟩ : ys = partD s))⟩)
end Go.Proofs.YtbmnnbglipkidaaGreatDoor
namespace Go.Proofs.YtbmnnbglipkidaaGreatDoor
set_option linter.unusedVariables false
set_option linter.unusedSimpArgs false
open Go.RowKit
set_option maxHeartbeats 4000000 in
set_option maxRecDepth 100000 in
theorem l5One_w {W : World} {own : List Asn} {s : ByteArray}  {k : Nat} (hk12 : k < 12) (hse : s = nameB k) : Spec Tryz.prog 105 [.string (s)] W own (fun v ow => ∃ (r1 : Value), v = .agg #[.int .i64 ((rk k : Int)), r1] ∧ IsS r1 ∧ ow = ints 3 r1 (oneD k) :: own) := by
 have hrk := rk_bd k hk12
 have hsz : s.size = 2 := by rw [hse]; exact nm_sz k hk12
 have hN0 : 0 ≤ (rk k : Int) * (rk k : Int) := Int.mul_nonneg (by omega) (by omega)
 have hN1 : (rk k : Int) * (rk k : Int) ≤ 4 * 4 := Int.mul_le_mul (by omega) (by omega) (by omega) (by omega)
 refine Spec.enter Tryz.f105 _ Tryz.func105 rfl (n := 118) rfl rfl ?_
 refine Zs (Zr ?_)
 refine G.step (OG.alloc rfl ti27 (zs := [.int .i64 (0), .slice none 0 0]) rfl) rfl rfl rfl ?_
 rintro _ _ ⟨g1, rfl, rfl⟩
 refine Zn (Zt (Zs (Zr ?_)))
 refine Zm rfl rfl rfl rfl rfl ?_
 refine G.stepD (OD.indexStr rfl st9 rfl rfl (by omega)) rfl rfl rfl ?_
 refine G.stepD (OD.eqv (OD.sub rfl rfl rfl) (congrArg (Value.int .u8) ((by rw [hse]; exact nm_rk k hk12) : (IntKind.u8.wrap ((bAt s 1) - 48) : Int) = ((rk k : Int))))) rfl rfl rfl ?_
 refine G.stepD (OD.convI rfl cv5_3 rfl (by omega)) rfl rfl rfl ?_
 refine Za rfl rfl rfl rfl rfl ?_
 refine Zn (Zt (Zs (Zr ?_)))
 refine Zm rfl rfl rfl rfl rfl ?_
 refine Zm rfl rfl rfl rfl rfl ?_
 refine Zm rfl rfl rfl rfl rfl ?_
 refine G.stepD (OD.mulI rfl rfl rfl (by omega)) rfl rfl rfl ?_
 refine G.step (OG.makeInts rfl et22 rfl rfl (by omega)) rfl rfl rfl ?_
 rintro v2 _ ⟨hs3, rfl⟩
 refine G.stepD (OD.build (idx := [0, 1]) (xs := [.tmp 11, .tmp 15]) (vs := [.int .i64 ((rk k : Int)), v2]) (cs := [[.int .i64 ((rk k : Int))], [v2]]) (zs := [.int .i64 (0), .slice none 0 0]) (r := [.int .i64 ((rk k : Int)), v2]) rfl ti27 rfl rfl rfl ⟨rfl, ⟨(one_cells (IsS.one hs3)), trivial⟩⟩ rfl) rfl rfl rfl ?_
 refine G.step (OG.alloc rfl ti27 (zs := [.int .i64 (0), .slice none 0 0]) rfl) rfl rfl rfl ?_
 rintro _ _ ⟨g4, rfl, rfl⟩
 refine G.stepD0 (OD.store rfl ti27 rfl rfl (us := [.int .i64 ((rk k : Int)), v2]) rfl rfl (allC rfl (allC (IsS.one hs3) rfl)) (i := 0) rfl rfl) rfl rfl ?_
 refine Zn (Zt (Zs (Zs (Zr ?_))))
 refine Za rfl rfl rfl rfl rfl ?_
 refine Zn (Zt (GC.block ?_))
 refine GC.loop (ι := Nat × List Int) (fun ⟨q, ys⟩ => [(0, .string (s)), (2, .pointer (some ⟨g1, 0, none⟩)), (3, .int .i64 ((rk k : Int))), (4, .pointer (some ⟨g4, 0, none⟩)), (5, .int .i64 ((q : Int)))]) (fun ⟨q, ys⟩ => box g4 27 [.int .i64 ((rk k : Int)), v2] :: ints 3 v2 ys :: box g1 27 [.int .i64 (0), .slice none 0 0] :: own) (fun ⟨q, ys⟩ => (q ≤ rk k) ∧ ((ys.length : Int) = (rk k : Int) * (rk k : Int)) ∧ (ys = (List.range q).foldl (itS k) (List.replicate ((rk k : Int) * (rk k : Int)).toNat 0))) (fun ⟨q, ys⟩ => rk k - q) (0, List.replicate ((rk k : Int) * (rk k : Int)).toNat 0) (⟨by omega, by rw [List.length_replicate]; omega, rfl⟩) ⟨rfl,rfl,rfl,rfl,rfl,trivial⟩ [] 0 rfl ?_
 rintro ⟨q, ys⟩ ⟨hq, hyl, hy⟩
 refine Zs (Zs (Zr ?_))
 refine Zm rfl rfl rfl rfl rfl ?_
 refine Zm rfl rfl rfl rfl rfl ?_
 refine G.stepD (OD.lss rfl rfl rfl) rfl rfl rfl ?_
 refine Zn (Zt ?_)
 refine GC.cond rfl (fun hc5 => ?_) (fun hc5 => ?_)
 replace hc5 := of_decide_eq_true hc5
 have hx := idx_bd (n := (rk k : Int)) (i := q) (j := q) ⟨by omega, by omega⟩ ⟨by omega, by omega⟩ (by omega)
 refine Zk (Zt (Zs (GC.block (Zs (Zr ?_)))))
 refine G.stepD (OD.fieldAddr rfl rfl fa27_1) rfl rfl rfl ?_
 refine G.stepD (OD.load rfl ti22 rfl (i := 0) rfl rfl) rfl rfl rfl ?_
 refine Zm rfl rfl rfl rfl rfl ?_
 refine Zm rfl rfl rfl rfl rfl ?_
 refine G.stepD (OD.mulI rfl rfl rfl (by omega)) rfl rfl rfl ?_
 refine Zm rfl rfl rfl rfl rfl ?_
 refine G.stepD (OD.addI rfl rfl rfl (by omega)) rfl rfl rfl ?_
 refine G.stepD (OD.indexAddr rfl et22 rfl (Ent.ints (i := 1) rfl) rfl (by omega)) rfl rfl rfl ?_
 refine G.stepD0 (OD.storeInt rfl ti3 rfl rfl (i := 1) rfl (by omega)) rfl rfl ?_
 refine Zn (Zt (Zs (Zr ?_)))
 refine Zm rfl rfl rfl rfl rfl ?_
 refine G.stepD (OD.addI rfl rfl rfl (by first | omega | (simp only [List.length_set, List.length_replicate]; omega))) rfl rfl rfl ?_
 refine Zm rfl rfl rfl rfl rfl ?_
 refine G.stepD (OD.lss rfl rfl rfl) rfl rfl rfl ?_
 refine Zm rfl rfl rfl rfl rfl ?_
 rcases Bool.eq_false_or_eq_true (decide ((q : Int) + 1 < (rk k : Int))) with hg6 | hg6
 have hg6e := hg6
 refine G.at [] 0 (env' := [(0, .string (s)), (2, .pointer (some ⟨g1, 0, none⟩)), (3, .int .i64 ((rk k : Int))), (4, .pointer (some ⟨g4, 0, none⟩)), (5, .int .i64 ((q : Int))), (17, .int .i64 ((q : Int))), (18, .int .i64 ((rk k : Int))), (19, .bool (decide ((q : Int) < (rk k : Int)))), (22, .pointer (some ⟨g4, 1, none⟩)), (23, v2), (24, .int .i64 ((q : Int))), (25, .int .i64 ((rk k : Int))), (26, .int .i64 ((q : Int) * (rk k : Int))), (27, .int .i64 ((q : Int))), (28, .int .i64 (((q : Int) * (rk k : Int)) + (q : Int))), (29, elemPtr v2 1 ((((q : Int) * (rk k : Int)) + (q : Int) : Int).toNat)), (30, .int .i64 ((q : Int))), (31, .int .i64 ((q : Int) + 1)), (32, .int .i64 ((rk k : Int))), (33, .bool true), (34, .bool true)]) (⟨rfl, rfl, rfl, rfl, rfl, rfl, rfl, rfl, rfl, rfl, rfl, rfl, rfl, rfl, rfl, rfl, rfl, rfl, rfl, (congrArg (fun b => some (Value.bool b)) hg6e), (congrArg (fun b => some (Value.bool b)) hg6e), trivial⟩) rfl ?_
 replace hg6 := of_decide_eq_true hg6
 refine G.stepGD (OD.move rfl rfl) rfl rfl rfl rfl rfl ?_
 refine G.stepGD (OD.indexStr rfl st9 rfl rfl (by first | omega | (simp only [List.length_set, List.length_replicate]; omega))) rfl rfl rfl rfl rfl ?_
 refine G.stepGD (OD.eqv (OD.neq rfl rfl rfl) (congrArg (Value.bool) ((by rw [hse]; exact nm_D k hk12) : _ = (k != 9)))) rfl rfl rfl rfl rfl ?_
 refine G.stepD (OD.pickT rfl rfl rfl) rfl rfl rfl ?_
 refine Zn (Zt ?_)
 refine GC.cond rfl (fun hc7 => ?_) (fun hc7 => ?_)
 have hx2 := idx_bd (n := (rk k : Int)) (i := q) (j := (q : Int) + 1) ⟨by omega, by omega⟩ ⟨by omega, by omega⟩ (by omega)
 have hx3 := idx_bd (n := (rk k : Int)) (i := (q : Int) + 1) (j := q) ⟨by omega, by omega⟩ ⟨by omega, by omega⟩ (by omega)
 refine Zs (Zr ?_)
 refine G.stepD (OD.fieldAddr rfl rfl fa27_1) rfl rfl rfl ?_
 refine G.stepD (OD.load rfl ti22 rfl (i := 0) rfl rfl) rfl rfl rfl ?_
 refine Zm rfl rfl rfl rfl rfl ?_
 refine Zm rfl rfl rfl rfl rfl ?_
 refine G.stepD (OD.mulI rfl rfl rfl (by first | omega | (simp only [List.length_set, List.length_replicate]; omega))) rfl rfl rfl ?_
 refine Zm rfl rfl rfl rfl rfl ?_
 refine G.stepD (OD.addI rfl rfl rfl (by first | omega | (simp only [List.length_set, List.length_replicate]; omega))) rfl rfl rfl ?_
 refine G.stepD (OD.addI rfl rfl rfl (by first | omega | (simp only [List.length_set, List.length_replicate]; omega))) rfl rfl rfl ?_
 refine G.stepD (OD.indexAddr rfl et22 rfl (Ent.ints (i := 1) rfl) rfl (by first | omega | (simp only [List.length_set, List.length_replicate]; omega))) rfl rfl rfl ?_
 refine G.stepD0 (OD.storeInt rfl ti3 rfl rfl (i := 1) rfl (by first | omega | (simp only [List.length_set, List.length_replicate]; omega))) rfl rfl ?_
 refine Zn (Zt (Zr ?_))
 refine G.stepD (OD.fieldAddr rfl rfl fa27_1) rfl rfl rfl ?_
 refine G.stepD (OD.load rfl ti22 rfl (i := 0) rfl rfl) rfl rfl rfl ?_
 refine Zm rfl rfl rfl rfl rfl ?_
 refine G.stepD (OD.addI rfl rfl rfl (by first | omega | (simp only [List.length_set, List.length_replicate]; omega))) rfl rfl rfl ?_
 refine Zm rfl rfl rfl rfl rfl ?_
 refine G.stepD (OD.mulI rfl rfl rfl (by first | omega | (simp only [List.length_set, List.length_replicate]; omega))) rfl rfl rfl ?_
 refine Zm rfl rfl rfl rfl rfl ?_
 refine G.stepD (OD.addI rfl rfl rfl (by first | omega | (simp only [List.length_set, List.length_replicate]; omega))) rfl rfl rfl ?_
 refine G.stepD (OD.indexAddr rfl et22 rfl (Ent.ints (i := 1) rfl) rfl (by first | omega | (simp only [List.length_set, List.length_replicate]; omega))) rfl rfl rfl ?_
 refine G.stepD0 (OD.storeInt rfl ti3 rfl rfl (i := 1) rfl (by first | omega | (simp only [List.length_set, List.length_replicate]; omega))) rfl rfl ?_
 refine Zn (GE.blockN (Zt (Zr ?_)))
 refine Zm rfl rfl rfl rfl rfl ?_
 refine G.stepD (OD.addI rfl rfl rfl (by first | omega | (simp only [List.length_set, List.length_replicate]; omega))) rfl rfl rfl ?_
 refine Za rfl rfl rfl rfl rfl ?_
 refine Zn ?_
 exact GE.again (q + 1, (((ys).set ((((q : Int) * (rk k : Int)) + (q : Int) : Int).toNat) (2)).set (((((q : Int) * (rk k : Int)) + (q : Int)) + 1 : Int).toNat) (-1)).set (((((q : Int) + 1) * (rk k : Int)) + (q : Int) : Int).toNat) (-1)) (⟨by omega, by simp only [List.length_set]; exact hyl, fold_next hy (by unfold itS; by_cases h9 : k = 9 <;> by_cases hlt : (q : Int) + 1 < rk k <;> first | (rw [if_pos ⟨hlt, h9⟩]; done) | (rw [if_neg (fun hh => hh.2 h9)]; done) | (rw [if_neg (fun hh => hlt hh.1)]; done) | (exfalso; omega) | (exfalso; simp_all; done))⟩) (by first | omega | (dsimp only; omega)) ⟨rfl,rfl,rfl,rfl,rfl,trivial⟩ [] 0 rfl
 refine Zk (GE.blockN (Zt (Zr ?_)))
 refine Zm rfl rfl rfl rfl rfl ?_
 refine G.stepD (OD.addI rfl rfl rfl (by first | omega | (simp only [List.length_set, List.length_replicate]; omega))) rfl rfl rfl ?_
 refine Za rfl rfl rfl rfl rfl ?_
 refine Zn ?_
 exact GE.again (q + 1, (ys).set ((((q : Int) * (rk k : Int)) + (q : Int) : Int).toNat) (2)) (⟨by omega, by simp only [List.length_set]; exact hyl, fold_next hy (by unfold itS; by_cases h9 : k = 9 <;> by_cases hlt : (q : Int) + 1 < rk k <;> first | (rw [if_pos ⟨hlt, h9⟩]; done) | (rw [if_neg (fun hh => hh.2 h9)]; done) | (rw [if_neg (fun hh => hlt hh.1)]; done) | (exfalso; omega) | (exfalso; simp_all; done))⟩) (by first | omega | (dsimp only; omega)) ⟨rfl,rfl,rfl,rfl,rfl,trivial⟩ [] 0 rfl
 have hg6e := hg6
 refine G.at [] 0 (env' := [(0, .string (s)), (2, .pointer (some ⟨g1, 0, none⟩)), (3, .int .i64 ((rk k : Int))), (4, .pointer (some ⟨g4, 0, none⟩)), (5, .int .i64 ((q : Int))), (17, .int .i64 ((q : Int))), (18, .int .i64 ((rk k : Int))), (19, .bool (decide ((q : Int) < (rk k : Int)))), (22, .pointer (some ⟨g4, 1, none⟩)), (23, v2), (24, .int .i64 ((q : Int))), (25, .int .i64 ((rk k : Int))), (26, .int .i64 ((q : Int) * (rk k : Int))), (27, .int .i64 ((q : Int))), (28, .int .i64 (((q : Int) * (rk k : Int)) + (q : Int))), (29, elemPtr v2 1 ((((q : Int) * (rk k : Int)) + (q : Int) : Int).toNat)), (30, .int .i64 ((q : Int))), (31, .int .i64 ((q : Int) + 1)), (32, .int .i64 ((rk k : Int))), (33, .bool false), (34, .bool false)]) (⟨rfl, rfl, rfl, rfl, rfl, rfl, rfl, rfl, rfl, rfl, rfl, rfl, rfl, rfl, rfl, rfl, rfl, rfl, rfl, (congrArg (fun b => some (Value.bool b)) hg6e), (congrArg (fun b => some (Value.bool b)) hg6e), trivial⟩) rfl ?_
 replace hg6 := of_decide_eq_false hg6
 refine G.skipG rfl rfl rfl rfl rfl rfl (G.skipG rfl rfl rfl rfl rfl rfl (G.skipG rfl rfl rfl rfl rfl rfl ?_))
 refine G.stepD (OD.pickF rfl rfl rfl) rfl rfl rfl ?_
 refine Zn (Zt (GC.condF rfl (Zk (GE.blockN (Zt (Zr ?_))))))
 refine Zm rfl rfl rfl rfl rfl ?_
 refine G.stepD (OD.addI rfl rfl rfl (by first | omega | (simp only [List.length_set, List.length_replicate]; omega))) rfl rfl rfl ?_
 refine Za rfl rfl rfl rfl rfl ?_
 refine Zn ?_
 exact GE.again (q + 1, (ys).set ((((q : Int) * (rk k : Int)) + (q : Int) : Int).toNat) (2)) (⟨by omega, by simp only [List.length_set]; exact hyl, fold_next hy (by unfold itS; by_cases h9 : k = 9 <;> by_cases hlt : (q : Int) + 1 < rk k <;> first | (rw [if_pos ⟨hlt, h9⟩]; done) | (rw [if_neg (fun hh => hh.2 h9)]; done) | (rw [if_neg (fun hh => hlt hh.1)]; done) | (exfalso; omega) | (exfalso; simp_all; done))⟩) (by first | omega | (dsimp only; omega)) ⟨rfl,rfl,rfl,rfl,rfl,trivial⟩ [] 0 rfl
 replace hc5 := of_decide_eq_false hc5
 refine GC.exit (Zp (Zp (GE.hit (Zt (Zs (Zs (Zr ?_)))))))
 refine Zm rfl rfl rfl rfl rfl ?_
 refine G.stepD (OD.indexStr rfl st9 rfl rfl (by omega)) rfl rfl rfl ?_
 refine Zn (Zt (GC.block (Zs (Zr ?_))))
 refine G.stepD (OD.eql rfl rfl rfl) rfl rfl rfl ?_
 refine Za rfl rfl rfl rfl rfl ?_
 refine Zn (Zt ?_)
 refine GC.cond rfl (fun hc8 => ?_) (fun hc8 => ?_)
 replace hc8 := eq_of_beq hc8
 have hbb : bAt (nameB k) 0 = 66 := by rw [← hse]; exact hc8
 have hr2 := rk_B k hk12 hbb
 have hx2 := idx_bd (n := (rk k : Int)) (i := (rk k : Int) - 1) (j := (rk k : Int) - 2) ⟨by omega, by omega⟩ ⟨by omega, by omega⟩ (by omega)
 refine Zr ?_
 refine G.stepD (OD.fieldAddr rfl rfl fa27_1) rfl rfl rfl ?_
 refine G.stepD (OD.load rfl ti22 rfl (i := 0) rfl rfl) rfl rfl rfl ?_
 refine Zm rfl rfl rfl rfl rfl ?_
 refine G.stepD (OD.subI rfl rfl rfl (by omega)) rfl rfl rfl ?_
 refine Zm rfl rfl rfl rfl rfl ?_
 refine G.stepD (OD.mulI rfl rfl rfl (by omega)) rfl rfl rfl ?_
 refine Zm rfl rfl rfl rfl rfl ?_
 refine G.stepD (OD.addI rfl rfl rfl (by omega)) rfl rfl rfl ?_
 refine G.stepD (OD.subI rfl rfl rfl (by omega)) rfl rfl rfl ?_
 refine G.stepD (OD.indexAddr rfl et22 rfl (Ent.ints (i := 1) rfl) rfl (by omega)) rfl rfl rfl ?_
 refine G.stepD0 (OD.storeInt rfl ti3 rfl rfl (i := 1) rfl (by omega)) rfl rfl ?_
 refine Zn (GE.blockN (Zt (Zs (Zr ?_))))
 refine G.stepD (OD.loadAgg rfl ti27 rfl (i := 0) rfl (us := [.int .i64 ((rk k : Int)), v2]) rfl rfl) rfl rfl rfl ?_
 refine G.stepD0 (OD.store rfl ti27 rfl rfl (us := [.int .i64 ((rk k : Int)), v2]) rfl rfl (allC rfl (allC (IsS.one hs3) rfl)) (i := 2) rfl rfl) rfl rfl ?_
 refine Zn (Zt (GC.ret ?_))
 exact GE.body [1] 2 (resN rfl (RVs.cons (rv_cells ti27 rfl (i := 2) rfl rfl) RVs.nil) rfl) rfl (⟨v2, rfl, hs3, congrArg (fun (l0 : List Int) => ints 3 v2 l0 :: own) ((by rw [hy, show q = rk k by omega]; exact sndB k hk12 hbb : (ys).set ((((((rk k : Int) - 1) * (rk k : Int)) + (rk k : Int)) - 2 : Int).toNat) (-2) = oneD k))⟩)
 replace hc8 := ne_of_beq_false hc8
 have hc8n : bAt (nameB k) 0 ≠ 66 := by rw [← hse]; exact hc8
 refine Zs (Zr ?_)
 refine G.stepD (OD.eql rfl rfl rfl) rfl rfl rfl ?_
 refine Za rfl rfl rfl rfl rfl ?_
 refine Zn (Zt ?_)
 refine GC.cond rfl (fun hc9 => ?_) (fun hc9 => ?_)
 replace hc9 := eq_of_beq hc9
 have hbb : bAt (nameB k) 0 = 67 := by rw [← hse]; exact hc9
 have hr2 := rk_C k hk12 hbb
 have hx2 := idx_bd (n := (rk k : Int)) (i := (rk k : Int) - 2) (j := (rk k : Int) - 1) ⟨by omega, by omega⟩ ⟨by omega, by omega⟩ (by omega)
 refine Zr ?_
 refine G.stepD (OD.fieldAddr rfl rfl fa27_1) rfl rfl rfl ?_
 refine G.stepD (OD.load rfl ti22 rfl (i := 0) rfl rfl) rfl rfl rfl ?_
 refine Zm rfl rfl rfl rfl rfl ?_
 refine G.stepD (OD.subI rfl rfl rfl (by omega)) rfl rfl rfl ?_
 refine Zm rfl rfl rfl rfl rfl ?_
 refine G.stepD (OD.mulI rfl rfl rfl (by omega)) rfl rfl rfl ?_
 refine Zm rfl rfl rfl rfl rfl ?_
 refine G.stepD (OD.addI rfl rfl rfl (by omega)) rfl rfl rfl ?_
 refine G.stepD (OD.subI rfl rfl rfl (by omega)) rfl rfl rfl ?_
 refine G.stepD (OD.indexAddr rfl et22 rfl (Ent.ints (i := 1) rfl) rfl (by omega)) rfl rfl rfl ?_
 refine G.stepD0 (OD.storeInt rfl ti3 rfl rfl (i := 1) rfl (by omega)) rfl rfl ?_
 refine Zn (GE.blockN (Zt (Zs (Zr ?_))))
 refine G.stepD (OD.loadAgg rfl ti27 rfl (i := 0) rfl (us := [.int .i64 ((rk k : Int)), v2]) rfl rfl) rfl rfl rfl ?_
 refine G.stepD0 (OD.store rfl ti27 rfl rfl (us := [.int .i64 ((rk k : Int)), v2]) rfl rfl (allC rfl (allC (IsS.one hs3) rfl)) (i := 2) rfl rfl) rfl rfl ?_
 refine Zn (Zt (GC.ret ?_))
 exact GE.body [1] 2 (resN rfl (RVs.cons (rv_cells ti27 rfl (i := 2) rfl rfl) RVs.nil) rfl) rfl (⟨v2, rfl, hs3, congrArg (fun (l0 : List Int) => ints 3 v2 l0 :: own) ((by rw [hy, show q = rk k by omega]; exact sndC k hk12 hbb : (ys).set ((((((rk k : Int) - 2) * (rk k : Int)) + (rk k : Int)) - 1 : Int).toNat) (-2) = oneD k))⟩)
 replace hc9 := ne_of_beq_false hc9
 have hc9n : bAt (nameB k) 0 ≠ 67 := by rw [← hse]; exact hc9
 refine Zs (Zr ?_)
 refine G.stepD (OD.eql rfl rfl rfl) rfl rfl rfl ?_
 refine Za rfl rfl rfl rfl rfl ?_
 refine Zn (Zt ?_)
 refine GC.cond rfl (fun hc10 => ?_) (fun hc10 => ?_)
 replace hc10 := eq_of_beq hc10
 have hbb : bAt (nameB k) 0 = 68 := by rw [← hse]; exact hc10
 have hr2 := (sndD k hk12 hbb).2
 have hrr : (rk k : Int) * (rk k : Int) = 16 := by rw [hr2]; rfl
 refine Zs (Zr ?_)
 refine Za rfl rfl rfl rfl rfl ?_
 refine Zn (Zt (GC.block ?_))
 refine GC.loop (ι := Nat × List Int) (fun ⟨p, zs⟩ => [(2, .pointer (some ⟨g1, 0, none⟩)), (3, .int .i64 ((rk k : Int))), (4, .pointer (some ⟨g4, 0, none⟩)), (6, .int .i64 ((p : Int)))]) (fun ⟨p, zs⟩ => box g4 27 [.int .i64 ((rk k : Int)), v2] :: ints 3 v2 zs :: box g1 27 [.int .i64 (0), .slice none 0 0] :: own) (fun ⟨p, zs⟩ => (p ≤ 4) ∧ ((zs.length : Int) = 16) ∧ (zs = (List.range p).foldl (itD k) ys)) (fun ⟨p, zs⟩ => 4 - p) (0, ys) (⟨by omega, by omega, rfl⟩) ⟨rfl,rfl,rfl,rfl,trivial⟩ [] 0 rfl ?_
 rintro ⟨p, zs⟩ ⟨hp, hzl, hz⟩
 refine Zs (Zs (Zr ?_))
 refine Zm rfl rfl rfl rfl rfl ?_
 refine G.stepD (OD.lss rfl rfl rfl) rfl rfl rfl ?_
 refine Zn (Zt ?_)
 refine GC.cond rfl (fun hc11 => ?_) (fun hc11 => ?_)
 replace hc11 := of_decide_eq_true hc11
 have hx := idx_bd (n := (rk k : Int)) (i := p) (j := 1) ⟨by omega, by omega⟩ ⟨by omega, by omega⟩ (by omega)
 refine Zk (Zt (Zs (GC.block (Zs (Zr ?_)))))
 refine Zm rfl rfl rfl rfl rfl ?_
 refine G.stepD (OD.neq rfl rfl rfl) rfl rfl rfl ?_
 refine Zn (Zt ?_)
 refine GC.cond rfl (fun hc12 => ?_) (fun hc12 => ?_)
 replace hc12 := ne_of_bne hc12
 refine Zs (Zr ?_)
 refine G.stepD (OD.fieldAddr rfl rfl fa27_1) rfl rfl rfl ?_
 refine G.stepD (OD.load rfl ti22 rfl (i := 0) rfl rfl) rfl rfl rfl ?_
 refine Zm rfl rfl rfl rfl rfl ?_
 refine Zm rfl rfl rfl rfl rfl ?_
 refine G.stepD (OD.addI rfl rfl rfl (by omega)) rfl rfl rfl ?_
 refine G.stepD (OD.indexAddr rfl et22 rfl (Ent.ints (i := 1) rfl) rfl (by omega)) rfl rfl rfl ?_
 refine G.stepD0 (OD.storeInt rfl ti3 rfl rfl (i := 1) rfl (by omega)) rfl rfl ?_
 refine Zn (Zt (Zr ?_))
 refine G.stepD (OD.fieldAddr rfl rfl fa27_1) rfl rfl rfl ?_
 refine G.stepD (OD.load rfl ti22 rfl (i := 0) rfl rfl) rfl rfl rfl ?_
 refine Zm rfl rfl rfl rfl rfl ?_
 refine Zm rfl rfl rfl rfl rfl ?_
 refine G.stepD (OD.mulI rfl rfl rfl (by first | omega | (simp only [List.length_set, List.length_replicate]; omega))) rfl rfl rfl ?_
 refine G.stepD (OD.addI rfl rfl rfl (by first | omega | (simp only [List.length_set, List.length_replicate]; omega))) rfl rfl rfl ?_
 refine G.stepD (OD.indexAddr rfl et22 rfl (Ent.ints (i := 1) rfl) rfl (by first | omega | (simp only [List.length_set, List.length_replicate]; omega))) rfl rfl rfl ?_
 refine G.stepD0 (OD.storeInt rfl ti3 rfl rfl (i := 1) rfl (by first | omega | (simp only [List.length_set, List.length_replicate]; omega))) rfl rfl ?_
 refine Zn (GE.blockN (Zt (Zr ?_)))
 refine Zm rfl rfl rfl rfl rfl ?_
 refine G.stepD (OD.addI rfl rfl rfl (by first | omega | (simp only [List.length_set, List.length_replicate]; omega))) rfl rfl rfl ?_
 refine Za rfl rfl rfl rfl rfl ?_
 refine Zn ?_
 exact GE.again (p + 1, ((zs).set (((rk k : Int) + (p : Int) : Int).toNat) (-1)).set ((((p : Int) * (rk k : Int)) + 1 : Int).toNat) (-1)) (⟨by omega, by first | exact hzl | (simp only [List.length_set]; exact hzl), fold_next hz (by unfold itD; by_cases h1 : (p : Int) = 1 <;> first | (rw [if_pos h1]; done) | (rw [if_neg (fun h => h h1)]; done) | (exfalso; omega))⟩) (by first | omega | (dsimp only; omega)) ⟨rfl,rfl,rfl,rfl,trivial⟩ [] 0 rfl
 replace hc12 := eq_of_bne_false hc12
 refine Zk (GE.blockN (Zt (Zr ?_)))
 refine Zm rfl rfl rfl rfl rfl ?_
 refine G.stepD (OD.addI rfl rfl rfl (by omega)) rfl rfl rfl ?_
 refine Za rfl rfl rfl rfl rfl ?_
 refine Zn ?_
 exact GE.again (p + 1, zs) (⟨by omega, by first | exact hzl | (simp only [List.length_set]; exact hzl), fold_next hz (by unfold itD; by_cases h1 : (p : Int) = 1 <;> first | (rw [if_pos h1]; done) | (rw [if_neg (fun h => h h1)]; done) | (exfalso; omega))⟩) (by first | omega | (dsimp only; omega)) ⟨rfl,rfl,rfl,rfl,trivial⟩ [] 0 rfl
 replace hc11 := of_decide_eq_false hc11
 refine GC.exit (Zp (Zp (GE.hit (GE.blockN (Zt (Zs (Zr ?_)))))))
 refine G.stepD (OD.loadAgg rfl ti27 rfl (i := 0) rfl (us := [.int .i64 ((rk k : Int)), v2]) rfl rfl) rfl rfl rfl ?_
 refine G.stepD0 (OD.store rfl ti27 rfl rfl (us := [.int .i64 ((rk k : Int)), v2]) rfl rfl (allC rfl (allC (IsS.one hs3) rfl)) (i := 2) rfl rfl) rfl rfl ?_
 refine Zn (Zt (GC.ret ?_))
 exact GE.body [1] 2 (resN rfl (RVs.cons (rv_cells ti27 rfl (i := 2) rfl rfl) RVs.nil) rfl) rfl (⟨v2, rfl, hs3, congrArg (fun (l0 : List Int) => ints 3 v2 l0 :: own) ((by rw [hz, show p = 4 by omega, hy, show q = rk k by omega]; exact (sndD k hk12 hbb).1 : zs = oneD k))⟩)
 replace hc10 := ne_of_beq_false hc10
 have hc10n : bAt (nameB k) 0 ≠ 68 := by rw [← hse]; exact hc10
 refine Zs (Zr ?_)
 refine G.stepD (OD.eql rfl rfl rfl) rfl rfl rfl ?_
 refine Za rfl rfl rfl rfl rfl ?_
 refine Zn (Zt ?_)
 refine GC.cond rfl (fun hc13 => ?_) (fun hc13 => ?_)
 replace hc13 := eq_of_beq hc13
 have hbb : bAt (nameB k) 0 = 70 := by rw [← hse]; exact hc13
 have hr2 := (sndF k hk12 hbb).2
 have hrr : (rk k : Int) * (rk k : Int) = 16 := by rw [hr2]; rfl
 refine Zr ?_
 refine G.stepD (OD.fieldAddr rfl rfl fa27_1) rfl rfl rfl ?_
 refine G.stepD (OD.load rfl ti22 rfl (i := 0) rfl rfl) rfl rfl rfl ?_
 refine Zm rfl rfl rfl rfl rfl ?_
 refine G.stepD (OD.mulI rfl rfl rfl (by omega)) rfl rfl rfl ?_
 refine G.stepD (OD.addI rfl rfl rfl (by omega)) rfl rfl rfl ?_
 refine G.stepD (OD.indexAddr rfl et22 rfl (Ent.ints (i := 1) rfl) rfl (by omega)) rfl rfl rfl ?_
 refine G.stepD0 (OD.storeInt rfl ti3 rfl rfl (i := 1) rfl (by omega)) rfl rfl ?_
 refine Zn (GE.blockN (Zt (Zs (Zr ?_))))
 refine G.stepD (OD.loadAgg rfl ti27 rfl (i := 0) rfl (us := [.int .i64 ((rk k : Int)), v2]) rfl rfl) rfl rfl rfl ?_
 refine G.stepD0 (OD.store rfl ti27 rfl rfl (us := [.int .i64 ((rk k : Int)), v2]) rfl rfl (allC rfl (allC (IsS.one hs3) rfl)) (i := 2) rfl rfl) rfl rfl ?_
 refine Zn (Zt (GC.ret ?_))
 exact GE.body [1] 2 (resN rfl (RVs.cons (rv_cells ti27 rfl (i := 2) rfl rfl) RVs.nil) rfl) rfl (⟨v2, rfl, hs3, congrArg (fun (l0 : List Int) => ints 3 v2 l0 :: own) ((by rw [hy, show q = rk k by omega]; exact (sndF k hk12 hbb).1 : (ys).set (((2 * (rk k : Int)) + 1 : Int).toNat) (-2) = oneD k))⟩)
 replace hc13 := ne_of_beq_false hc13
 have hc13n : bAt (nameB k) 0 ≠ 70 := by rw [← hse]; exact hc13
 refine Zs (Zr ?_)
 refine G.stepD (OD.eql rfl rfl rfl) rfl rfl rfl ?_
 refine Za rfl rfl rfl rfl rfl ?_
 refine Zn (Zt ?_)
 refine GC.cond rfl (fun hc14 => ?_) (fun hc14 => ?_)
 replace hc14 := eq_of_beq hc14
 have hbb : bAt (nameB k) 0 = 71 := by rw [← hse]; exact hc14
 have hr2 := (sndG k hk12 hbb).2
 have hrr : (rk k : Int) * (rk k : Int) = 4 := by rw [hr2]; rfl
 refine Zr ?_
 refine G.stepD (OD.fieldAddr rfl rfl fa27_1) rfl rfl rfl ?_
 refine G.stepD (OD.load rfl ti22 rfl (i := 0) rfl rfl) rfl rfl rfl ?_
 refine G.stepD (OD.indexAddr rfl et22 rfl (Ent.ints (i := 1) rfl) rfl (by omega)) rfl rfl rfl ?_
 refine G.stepD0 (OD.storeInt rfl ti3 rfl rfl (i := 1) rfl (by omega)) rfl rfl ?_
 refine Zn (GE.blockN (Zt (Zs (Zr ?_))))
 refine G.stepD (OD.loadAgg rfl ti27 rfl (i := 0) rfl (us := [.int .i64 ((rk k : Int)), v2]) rfl rfl) rfl rfl rfl ?_
 refine G.stepD0 (OD.store rfl ti27 rfl rfl (us := [.int .i64 ((rk k : Int)), v2]) rfl rfl (allC rfl (allC (IsS.one hs3) rfl)) (i := 2) rfl rfl) rfl rfl ?_
 refine Zn (Zt (GC.ret ?_))
 exact GE.body [1] 2 (resN rfl (RVs.cons (rv_cells ti27 rfl (i := 2) rfl rfl) RVs.nil) rfl) rfl (⟨v2, rfl, hs3, congrArg (fun (l0 : List Int) => ints 3 v2 l0 :: own) ((by rw [hy, show q = rk k by omega]; exact (sndG k hk12 hbb).1 : (ys).set (1) (-3) = oneD k))⟩)
 replace hc14 := ne_of_beq_false hc14
 have hc14n : bAt (nameB k) 0 ≠ 71 := by rw [← hse]; exact hc14
 refine Zk (GE.blockN (Zt (Zs (Zr ?_))))
 refine G.stepD (OD.loadAgg rfl ti27 rfl (i := 0) rfl (us := [.int .i64 ((rk k : Int)), v2]) rfl rfl) rfl rfl rfl ?_
 refine G.stepD0 (OD.store rfl ti27 rfl rfl (us := [.int .i64 ((rk k : Int)), v2]) rfl rfl (allC rfl (allC (IsS.one hs3) rfl)) (i := 2) rfl rfl) rfl rfl ?_
 refine Zn (Zt (GC.ret ?_))
 exact GE.body [1] 2 (resN rfl (RVs.cons (rv_cells ti27 rfl (i := 2) rfl rfl) RVs.nil) rfl) rfl (⟨v2, rfl, hs3, congrArg (fun (l0 : List Int) => ints 3 v2 l0 :: own) ((by rw [hy, show q = rk k by omega]; exact sndA k hk12 ⟨by assumption, by assumption, by assumption, by assumption, by assumption⟩ : ys = oneD k))⟩)
set_option maxHeartbeats 4000000 in
set_option maxRecDepth 100000 in
theorem joined_w {W : World} {own : List Asn} {vb : Value} {vs : List Value} {ks : List Nat}  (sb : IsS vb) (eb : Ent own fun w => Sl w vb (rowC ks vs).length 2 (rowC ks vs).flatten) (em : ∀ k, k < ks.length → Ent own fun w => Ints w (vs.getD k undef) (oneD (ks.getD k 0))) (hlen : vs.length = ks.length) (hall : AllS vs)  (h12 : ∀ k ∈ ks, k < 12) (hr4 : rkS ks ≤ 4) (hk4 : ks.length ≤ 1000000) : Spec Tryz.prog 186 [vb] W own (fun v ow => ∃ (r1 : Value), v = .agg #[.int .i64 ((rkS ks : Nat)), r1] ∧ IsS r1 ∧ ow = ints 3 r1 (joinD ks) :: own) := by
 have hrl := rowC_len hlen
 refine Spec.enter Tryz.f186 _ Tryz.func186 rfl (n := 79) rfl rfl ?_
 refine Zs (Zr ?_)
 refine G.step (OG.alloc rfl ti27 (zs := [.int .i64 (0), .slice none 0 0]) rfl) rfl rfl rfl ?_
 rintro _ _ ⟨g1, rfl, rfl⟩
 refine Zn (Zt (Zs (Zr ?_)))
 refine G.stepD (OD.build (idx := []) (xs := []) (vs := []) (cs := []) (zs := [.int .i64 (0), .slice none 0 0]) (r := [.int .i64 (0), .slice none 0 0]) rfl ti27 rfl rfl rfl trivial rfl) rfl rfl rfl ?_
 refine G.step (OG.alloc rfl ti27 (zs := [.int .i64 (0), .slice none 0 0]) rfl) rfl rfl rfl ?_
 rintro _ _ ⟨g2, rfl, rfl⟩
 refine G.stepD0 (OD.store rfl ti27 rfl rfl (us := [.int .i64 (0), .slice none 0 0]) rfl rfl rfl (i := 0) rfl rfl) rfl rfl ?_
 refine Zn (Zt (Zs (Zs (Zr ?_))))
 refine Zm rfl rfl rfl rfl rfl ?_
 refine G.stepD (OD.len rfl rfl et179 rfl (Ent.drop 2 eb)) rfl rfl rfl ?_
 refine Zm rfl rfl rfl rfl rfl ?_
 refine Zn (Zt (GC.block ?_))
 refine GC.loop (ι := Nat × Int) (fun ⟨i, r⟩ => [(0, vb), (2, .pointer (some ⟨g1, 0, none⟩)), (3, .pointer (some ⟨g2, 0, none⟩)), (12, vb), (13, .int .i64 (((rowC ks vs).length : Nat))), (14, .int .i64 ((i : Int)))]) (fun ⟨i, r⟩ => box g2 27 [.int .i64 (r), .slice none 0 0] :: box g1 27 [.int .i64 (0), .slice none 0 0] :: own) (fun ⟨i, r⟩ => (i ≤ ks.length) ∧ (r = (rkS (ks.take i) : Nat))) (fun ⟨i, r⟩ => ks.length - i) (0, 0) (⟨by omega, by simp [rkS]⟩) ⟨rfl,rfl,rfl,rfl,rfl,rfl,trivial⟩ [] 0 rfl ?_
 rintro ⟨i, r⟩ ⟨hi, hr⟩
 refine Zs (Zr ?_)
 refine G.stepD (OD.lss rfl rfl rfl) rfl rfl rfl ?_
 refine Zn (Zt (Zs ?_))
 refine GC.cond rfl (fun hc3 => ?_) (fun hc3 => ?_)
 replace hc3 := of_decide_eq_true hc3
 have hrb := rkS_take_le ks i
 have hkb := rk_bd (ks.getD i 0) (h12 _ (by simp [List.getD, show i < ks.length by omega]))
 refine Zk (Zt (Zs (GC.block (Zs (Zr ?_)))))
 refine G.stepD (OD.indexAddr rfl et179 rfl (Ent.drop 2 eb) rfl (by omega)) rfl rfl rfl ?_
 refine G.stepD (OD.loadRws rfl ti27 rfl (Ent.drop 2 eb) (by omega) (rowC_wf _ _) (rowC_get hlen (by omega))) rfl rfl rfl ?_
 refine G.step (OG.alloc rfl ti27 (zs := [.int .i64 (0), .slice none 0 0]) rfl) rfl rfl rfl ?_
 rintro _ _ ⟨g4, rfl, rfl⟩
 refine G.stepD0 (OD.store rfl ti27 rfl rfl (us := [.int .i64 ((rk (ks.getD (i) 0) : Int)), (vs.getD (i) undef)]) rfl rfl (allC rfl (allC (IsS.one (hall.get (by omega))) rfl)) (i := 0) rfl rfl) rfl rfl ?_
 refine Zn (Zt (Zr ?_))
 refine G.stepD (OD.fieldAddr rfl rfl fa27_0) rfl rfl rfl ?_
 refine G.stepD (OD.load rfl ti3 rfl (i := 1) rfl rfl) rfl rfl rfl ?_
 refine G.stepD (OD.fieldAddr rfl rfl fa27_0) rfl rfl rfl ?_
 refine G.stepD (OD.load rfl ti3 rfl (i := 0) rfl rfl) rfl rfl rfl ?_
 refine G.stepD (OD.addI rfl rfl rfl (by omega)) rfl rfl rfl ?_
 refine G.stepD (OD.fieldAddr rfl rfl fa27_0) rfl rfl rfl ?_
 refine G.stepD0 (OD.store rfl ti3 rfl rfl (us := [.int .i64 (r + (rk (ks.getD (i) 0) : Int))]) rfl rfl rfl (i := 1) rfl rfl) rfl rfl ?_
 refine Zn (GE.blockN (Zt (Zr ?_)))
 refine G.stepD (OD.addI rfl rfl rfl (by omega)) rfl rfl rfl ?_
 refine Zm rfl rfl rfl rfl rfl ?_
 refine Zn ?_
 exact GE.again (i + 1, r + (rk (ks.getD (i) 0) : Int)) (⟨by omega, by rw [rkS_take_succ (by omega), hr]; simp⟩) (by first | omega | (dsimp only; omega)) ⟨rfl,rfl,rfl,rfl,rfl,rfl,trivial⟩ [1, 1] 1 rfl
 replace hc3 := of_decide_eq_false hc3
 have hrN : r = (rkS ks : Nat) := by rw [hr, List.take_of_length_le (by omega)]
 have hN0 : 0 ≤ r * r := Int.mul_nonneg (by omega) (by omega)
 have hN1 : r * r ≤ 4 * 4 := Int.mul_le_mul (by omega) (by omega) (by omega) (by omega)
 refine GC.exit (Zp (Zp (GE.hit (Zt (Zs (Zr ?_))))))
 refine G.stepD (OD.fieldAddr rfl rfl fa27_0) rfl rfl rfl ?_
 refine G.stepD (OD.load rfl ti3 rfl (i := 0) rfl rfl) rfl rfl rfl ?_
 refine G.stepD (OD.fieldAddr rfl rfl fa27_0) rfl rfl rfl ?_
 refine G.stepD (OD.load rfl ti3 rfl (i := 0) rfl rfl) rfl rfl rfl ?_
 refine G.stepD (OD.mulI rfl rfl rfl (by omega)) rfl rfl rfl ?_
 refine G.step (OG.makeInts rfl et22 rfl rfl (by omega)) rfl rfl rfl ?_
 rintro v5 _ ⟨hs6, rfl⟩
 refine G.stepD (OD.fieldAddr rfl rfl fa27_1) rfl rfl rfl ?_
 refine G.stepD0 (OD.store rfl ti22 rfl rfl (us := [v5]) (one_cells (IsS.one hs6)) rfl (allC (IsS.one hs6) rfl) (i := 1) rfl rfl) rfl rfl ?_
 refine Zn (Zt (Zs (Zr ?_)))
 refine Za rfl rfl rfl rfl rfl ?_
 refine Zn (Zt (Zs (Zs (Zr ?_))))
 refine Zm rfl rfl rfl rfl rfl ?_
 refine G.stepD (OD.len rfl rfl et179 rfl (Ent.drop 3 eb)) rfl rfl rfl ?_
 refine Zm rfl rfl rfl rfl rfl ?_
 refine Zn (Zt (GC.block ?_))
 refine GC.loop (ι := Nat × Int × List Int) (fun ⟨b, a, ys⟩ => [(2, .pointer (some ⟨g1, 0, none⟩)), (3, .pointer (some ⟨g2, 0, none⟩)), (32, vb), (33, .int .i64 (((rowC ks vs).length : Nat))), (6, .int .i64 (a)), (34, .int .i64 ((b : Int)))]) (fun ⟨b, a, ys⟩ => ints 3 v5 ys :: box g2 27 [.int .i64 (r), v5] :: box g1 27 [.int .i64 (0), .slice none 0 0] :: own) (fun ⟨b, a, ys⟩ => (b ≤ ks.length) ∧ (a = (rkS (ks.take b) : Nat)) ∧ ((ys.length : Int) = r * r) ∧ (ys = (List.range b).foldl (jB ks r) (List.replicate (r * r : Int).toNat 0))) (fun ⟨b, a, ys⟩ => ks.length - b) (0, 0, List.replicate (r * r : Int).toNat 0) (⟨by omega, by simp [rkS], by rw [List.length_replicate]; omega, rfl⟩) ⟨rfl,rfl,rfl,rfl,rfl,rfl,trivial⟩ [] 0 rfl ?_
 rintro ⟨b, a, ys⟩ ⟨hb, ha, hyl, hy⟩
 refine Zs (Zr ?_)
 refine G.stepD (OD.lss rfl rfl rfl) rfl rfl rfl ?_
 refine Zn (Zt (Zs ?_))
 refine GC.cond rfl (fun hc7 => ?_) (fun hc7 => ?_)
 replace hc7 := of_decide_eq_true hc7
 have hkb := rk_bd (ks.getD b 0) (h12 _ (by simp [List.getD, show b < ks.length by omega]))
 have hol := oneD_len (ks.getD b 0) (h12 _ (by simp [List.getD, show b < ks.length by omega]))
 have hab0 := rkS_take_le ks (b + 1)
 rw [rkS_take_succ (by omega)] at hab0
 have hab : a + (rk (ks.getD b 0) : Int) ≤ r := by omega
 refine Zk (Zt (Zs (GC.block (Zs (Zr ?_)))))
 refine G.stepD (OD.indexAddr rfl et179 rfl (Ent.drop 3 eb) rfl (by omega)) rfl rfl rfl ?_
 refine G.stepD (OD.loadRws rfl ti27 rfl (Ent.drop 3 eb) (by omega) (rowC_wf _ _) (rowC_get hlen (by omega))) rfl rfl rfl ?_
 refine G.step (OG.alloc rfl ti27 (zs := [.int .i64 (0), .slice none 0 0]) rfl) rfl rfl rfl ?_
 rintro _ _ ⟨g8, rfl, rfl⟩
 refine G.stepD0 (OD.store rfl ti27 rfl rfl (us := [.int .i64 ((rk (ks.getD (b) 0) : Int)), (vs.getD (b) undef)]) rfl rfl (allC rfl (allC (IsS.one (hall.get (by omega))) rfl)) (i := 0) rfl rfl) rfl rfl ?_
 refine Zn (Zt (Zs (Zs (Zr ?_))))
 refine G.stepD (OD.fieldAddr rfl rfl fa27_0) rfl rfl rfl ?_
 refine G.stepD (OD.load rfl ti3 rfl (i := 0) rfl rfl) rfl rfl rfl ?_
 refine Zm rfl rfl rfl rfl rfl ?_
 refine Zn (Zt (GC.block ?_))
 refine GC.loop (ι := Nat × List Int) (fun ⟨i, zs⟩ => [(2, .pointer (some ⟨g1, 0, none⟩)), (3, .pointer (some ⟨g2, 0, none⟩)), (32, vb), (33, .int .i64 (((rowC ks vs).length : Nat))), (6, .int .i64 (a)), (34, .int .i64 ((b : Int))), (8, .pointer (some ⟨g8, 0, none⟩)), (39, .int .i64 ((rk (ks.getD (b) 0) : Int))), (40, .int .i64 ((i : Int)))]) (fun ⟨i, zs⟩ => box g8 27 [.int .i64 ((rk (ks.getD (b) 0) : Int)), (vs.getD (b) undef)] :: ints 3 v5 zs :: box g2 27 [.int .i64 (r), v5] :: box g1 27 [.int .i64 (0), .slice none 0 0] :: own) (fun ⟨i, zs⟩ => (i ≤ rk (ks.getD (b) 0)) ∧ ((zs.length : Int) = r * r) ∧ (zs = (List.range i).foldl (jI r a (ks.getD (b) 0)) ys)) (fun ⟨i, zs⟩ => rk (ks.getD (b) 0) - i) (0, ys) (⟨by omega, hyl, rfl⟩) ⟨rfl,rfl,rfl,rfl,rfl,rfl,rfl,rfl,rfl,trivial⟩ [] 0 rfl ?_
 rintro ⟨i, zs⟩ ⟨hi, hzl, hz⟩
 refine Zs (Zr ?_)
 refine G.stepD (OD.lss rfl rfl rfl) rfl rfl rfl ?_
 refine Zn (Zt (Zs ?_))
 refine GC.cond rfl (fun hc9 => ?_) (fun hc9 => ?_)
 replace hc9 := of_decide_eq_true hc9
 refine Zk (Zt (Zs (GC.block (Zs (Zr ?_)))))
 refine Zm rfl rfl rfl rfl rfl ?_
 refine Za rfl rfl rfl rfl rfl ?_
 refine Zn (Zt (Zs (Zr ?_)))
 refine G.stepD (OD.fieldAddr rfl rfl fa27_0) rfl rfl rfl ?_
 refine G.stepD (OD.load rfl ti3 rfl (i := 0) rfl rfl) rfl rfl rfl ?_
 refine Zm rfl rfl rfl rfl rfl ?_
 refine Zn (Zt (GC.block ?_))
 refine GC.loop (ι := Nat × List Int) (fun ⟨j, ws⟩ => [(2, .pointer (some ⟨g1, 0, none⟩)), (3, .pointer (some ⟨g2, 0, none⟩)), (32, vb), (33, .int .i64 (((rowC ks vs).length : Nat))), (6, .int .i64 (a)), (34, .int .i64 ((b : Int))), (8, .pointer (some ⟨g8, 0, none⟩)), (39, .int .i64 ((rk (ks.getD (b) 0) : Int))), (40, .int .i64 ((i : Int))), (9, .int .i64 ((i : Int))), (44, .int .i64 ((rk (ks.getD (b) 0) : Int))), (45, .int .i64 ((j : Int)))]) (fun ⟨j, ws⟩ => box g8 27 [.int .i64 ((rk (ks.getD (b) 0) : Int)), (vs.getD (b) undef)] :: ints 3 v5 ws :: box g2 27 [.int .i64 (r), v5] :: box g1 27 [.int .i64 (0), .slice none 0 0] :: own) (fun ⟨j, ws⟩ => (j ≤ rk (ks.getD (b) 0)) ∧ ((ws.length : Int) = r * r) ∧ (ws = (List.range j).foldl (fun (o : List Int) (j : Nat) => o.set ((a + (i : Int)) * r + a + (j : Int)).toNat ((oneD (ks.getD (b) 0)).getD ((i : Int) * (rk (ks.getD (b) 0) : Int) + (j : Int)).toNat 0)) zs)) (fun ⟨j, ws⟩ => rk (ks.getD (b) 0) - j) (0, zs) (⟨by omega, hzl, rfl⟩) ⟨rfl,rfl,rfl,rfl,rfl,rfl,rfl,rfl,rfl,rfl,rfl,rfl,trivial⟩ [] 0 rfl ?_
 rintro ⟨j, ws⟩ ⟨hj, hwl, hw⟩
 refine Zs (Zr ?_)
 refine G.stepD (OD.lss rfl rfl rfl) rfl rfl rfl ?_
 refine Zn (Zt (Zs ?_))
 refine GC.cond rfl (fun hc10 => ?_) (fun hc10 => ?_)
 replace hc10 := of_decide_eq_true hc10
 have hx := idx_bd (n := r) (i := a + (i : Int)) (j := a + (j : Int)) ⟨by omega, by omega⟩ ⟨by omega, by omega⟩ (by omega)
 have hx2 := idx_bd (n := (rk (ks.getD b 0) : Int)) (i := (i : Int)) (j := (j : Int)) ⟨by omega, by omega⟩ ⟨by omega, by omega⟩ (by omega)
 have hol2 : ((oneD (ks.getD b 0)).length : Int) = (rk (ks.getD b 0) : Int) * (rk (ks.getD b 0) : Int) := by rw [hol]; exact Int.natCast_mul _ _
 refine Zk (Zt (Zs (GC.block (Zs (Zr ?_)))))
 refine Zm rfl rfl rfl rfl rfl ?_
 refine Za rfl rfl rfl rfl rfl ?_
 refine Zn (Zt ?_)
 refine GC.at [] 0 (env' := [(2, .pointer (some ⟨g1, 0, none⟩)), (3, .pointer (some ⟨g2, 0, none⟩)), (32, vb), (33, .int .i64 (((rowC ks vs).length : Nat))), (6, .int .i64 (a)), (34, .int .i64 ((b : Int))), (8, .pointer (some ⟨g8, 0, none⟩)), (39, .int .i64 ((rk (ks.getD (b) 0) : Int))), (40, .int .i64 ((i : Int))), (9, .int .i64 ((i : Int))), (44, .int .i64 ((rk (ks.getD (b) 0) : Int))), (45, .int .i64 ((j : Int))), (10, .int .i64 ((j : Int)))]) ⟨rfl,rfl,rfl,rfl,rfl,rfl,rfl,rfl,rfl,rfl,rfl,rfl,rfl,trivial⟩ rfl ?_
 refine GC.par (its := [Z0 48 (.pointer (some ⟨g2, 1, none⟩)),
     Z1 49 [(0, 48)] v5,
     Z0 50 (.int .i64 (a)),
     Z0 51 (.int .i64 ((i : Int))),
     Z1 52 [(2, 50), (3, 51)] (.int .i64 (a + (i : Int))),
     Z0 53 (.pointer (some ⟨g2, 0, none⟩)),
     Z1 54 [(5, 53)] (.int .i64 (r)),
     Z1 55 [(4, 52), (6, 54)] (.int .i64 ((a + (i : Int)) * r)),
     Z0 56 (.int .i64 (a)),
     Z1 57 [(7, 55), (8, 56)] (.int .i64 (((a + (i : Int)) * r) + a)),
     Z0 58 (.int .i64 ((j : Int))),
     Z1 59 [(9, 57), (10, 58)] (.int .i64 ((((a + (i : Int)) * r) + a) + (j : Int))),
     Z0 60 (.pointer (some ⟨g8, 1, none⟩)),
     Z1 61 [(12, 60)] ((vs.getD (b) undef)),
     Z0 62 (.int .i64 ((i : Int))),
     Z0 63 (.pointer (some ⟨g8, 0, none⟩)),
     Z1 64 [(15, 63)] (.int .i64 ((rk (ks.getD (b) 0) : Int))),
     Z1 65 [(14, 62), (16, 64)] (.int .i64 ((i : Int) * (rk (ks.getD (b) 0) : Int))),
     Z0 66 (.int .i64 ((j : Int))),
     Z1 67 [(17, 65), (18, 66)] (.int .i64 (((i : Int) * (rk (ks.getD (b) 0) : Int)) + (j : Int))),
     Z1 68 [(13, 61), (19, 67)] (elemPtr ((vs.getD (b) undef)) 1 ((((i : Int) * (rk (ks.getD (b) 0) : Int)) + (j : Int) : Int).toNat)),
     Z1 69 [(20, 68)] (.int .i64 ((oneD (ks.getD (b) 0)).getD ((((i : Int) * (rk (ks.getD (b) 0) : Int)) + (j : Int) : Int).toNat) 0)),
     Z1 70 [(1, 49), (11, 59)] (elemPtr v5 1 (((((a + (i : Int)) * r) + a) + (j : Int) : Int).toNat))]) (by kernel_rfl) (by kernel_rfl) (POps.cons ?_ (POps.cons ?_ (POps.cons ?_ (POps.cons ?_ (POps.cons ?_ (POps.cons ?_ (POps.cons ?_ (POps.cons ?_ (POps.cons ?_ (POps.cons ?_ (POps.cons ?_ (POps.cons ?_ (POps.cons ?_ (POps.cons ?_ (POps.cons ?_ (POps.cons ?_ (POps.cons ?_ (POps.cons ?_ (POps.cons ?_ (POps.cons ?_ (POps.cons ?_ (POps.cons ?_ (POps.cons ?_ POps.nil))))))))))))))))))))))) ?_
 exact fun θ R hd => Zq (OD.fieldAddr rfl rfl fa27_1) rfl rfl trivial rfl
 exact fun θ R ⟨h0d, _⟩ => Zq (OD.load rfl ti22 rfl (i := 2) rfl rfl) rfl rfl trivial rfl
 exact fun θ R hd => Zq (OD.move rfl rfl) rfl rfl trivial rfl
 exact fun θ R hd => Zq (OD.move rfl rfl) rfl rfl trivial rfl
 exact fun θ R ⟨h2d, h3d, _⟩ => Zq (OD.addI rfl rfl rfl (by omega)) rfl rfl trivial rfl
 exact fun θ R hd => Zq (OD.fieldAddr rfl rfl fa27_0) rfl rfl trivial rfl
 exact fun θ R ⟨h5d, _⟩ => Zq (OD.load rfl ti3 rfl (i := 2) rfl rfl) rfl rfl trivial rfl
 exact fun θ R ⟨h4d, h6d, _⟩ => Zq (OD.mulI rfl rfl rfl (by omega)) rfl rfl trivial rfl
 exact fun θ R hd => Zq (OD.move rfl rfl) rfl rfl trivial rfl
 exact fun θ R ⟨h7d, h8d, _⟩ => Zq (OD.addI rfl rfl rfl (by omega)) rfl rfl trivial rfl
 exact fun θ R hd => Zq (OD.move rfl rfl) rfl rfl trivial rfl
 exact fun θ R ⟨h9d, h10d, _⟩ => Zq (OD.addI rfl rfl rfl (by omega)) rfl rfl trivial rfl
 exact fun θ R hd => Zq (OD.fieldAddr rfl rfl fa27_1) rfl rfl trivial rfl
 exact fun θ R ⟨h12d, _⟩ => Zq (OD.load rfl ti22 rfl (i := 0) rfl rfl) rfl rfl trivial rfl
 exact fun θ R hd => Zq (OD.move rfl rfl) rfl rfl trivial rfl
 exact fun θ R hd => Zq (OD.fieldAddr rfl rfl fa27_0) rfl rfl trivial rfl
 exact fun θ R ⟨h15d, _⟩ => Zq (OD.load rfl ti3 rfl (i := 0) rfl rfl) rfl rfl trivial rfl
 exact fun θ R ⟨h14d, h16d, _⟩ => Zq (OD.mulI rfl rfl rfl (by omega)) rfl rfl trivial rfl
 exact fun θ R hd => Zq (OD.move rfl rfl) rfl rfl trivial rfl
 exact fun θ R ⟨h17d, h18d, _⟩ => Zq (OD.addI rfl rfl rfl (by omega)) rfl rfl trivial rfl
 exact fun θ R ⟨h13d, h19d, _⟩ => Zq (OD.indexAddr rfl et22 rfl (Ent.drop 4 ((em (b) (by omega)).app)) rfl (by omega)) rfl rfl trivial rfl
 exact fun θ R ⟨h20d, _⟩ => Zq (OD.loadInt rfl ti3 rfl (Ent.drop 4 ((em (b) (by omega)).app)) (by omega)) rfl rfl trivial rfl
 exact fun θ R ⟨h1d, h11d, _⟩ => Zq (OD.indexAddr rfl et22 rfl (Ent.ints (i := 1) rfl) rfl (by omega)) rfl rfl trivial rfl
 intro θ hall
 obtain ⟨_, _, _, _, _, _, _, _, _, _, _, _, _, _, _, _, _, _, _, _, _, _, _, _⟩ := hall
 refine G.at [] 0 (env' := [(2, .pointer (some ⟨g1, 0, none⟩)), (3, .pointer (some ⟨g2, 0, none⟩)), (32, vb), (33, .int .i64 (((rowC ks vs).length : Nat))), (6, .int .i64 (a)), (34, .int .i64 ((b : Int))), (8, .pointer (some ⟨g8, 0, none⟩)), (39, .int .i64 ((rk (ks.getD (b) 0) : Int))), (40, .int .i64 ((i : Int))), (9, .int .i64 ((i : Int))), (44, .int .i64 ((rk (ks.getD (b) 0) : Int))), (45, .int .i64 ((j : Int))), (69, .int .i64 ((oneD (ks.getD (b) 0)).getD ((((i : Int) * (rk (ks.getD (b) 0) : Int)) + (j : Int) : Int).toNat) 0)), (70, elemPtr v5 1 (((((a + (i : Int)) * r) + a) + (j : Int) : Int).toNat))]) ⟨rfl,rfl,rfl,rfl,rfl,rfl,rfl,rfl,rfl,rfl,rfl,rfl,rfl,rfl,trivial⟩ (own' := box g8 27 [.int .i64 ((rk (ks.getD (b) 0) : Int)), (vs.getD (b) undef)] :: ints 3 v5 ws :: box g2 27 [.int .i64 (r), v5] :: box g1 27 [.int .i64 (0), .slice none 0 0] :: own) rfl ?_
 show G _ _ _ [_] _ _ _ _
 refine G.stepD0 (OD.storeInt rfl ti3 rfl rfl (i := 1) rfl (by omega)) rfl rfl ?_
 refine Zn (GE.blockN (Zt (Zr ?_)))
 refine G.stepD (OD.addI rfl rfl rfl (by first | omega | (simp only [List.length_set, List.length_replicate]; omega))) rfl rfl rfl ?_
 refine Zm rfl rfl rfl rfl rfl ?_
 refine Zn ?_
 exact GE.again (j + 1, (ws).set (((((a + (i : Int)) * r) + a) + (j : Int) : Int).toNat) ((oneD (ks.getD (b) 0)).getD ((((i : Int) * (rk (ks.getD (b) 0) : Int)) + (j : Int) : Int).toNat) 0)) (⟨by omega, by rw [List.length_set]; exact hwl, fold_next hw rfl⟩) (by first | omega | (dsimp only; omega)) ⟨rfl,rfl,rfl,rfl,rfl,rfl,rfl,rfl,rfl,rfl,rfl,rfl,trivial⟩ [] 0 rfl
 replace hc10 := of_decide_eq_false hc10
 refine GC.exit (Zp (Zp (GE.hit (GE.blockN (Zt (Zr ?_))))))
 refine G.stepD (OD.addI rfl rfl rfl (by omega)) rfl rfl rfl ?_
 refine Zm rfl rfl rfl rfl rfl ?_
 refine Zn ?_
 exact GE.again (i + 1, ws) (⟨by omega, hwl, fold_next hz (by rw [hw, show j = rk (ks.getD b 0) by omega]; rfl)⟩) (by first | omega | (dsimp only; omega)) ⟨rfl,rfl,rfl,rfl,rfl,rfl,rfl,rfl,rfl,trivial⟩ [] 0 rfl
 replace hc9 := of_decide_eq_false hc9
 refine GC.exit (Zp (Zp (GE.hit (Zt (Zr ?_)))))
 refine Zm rfl rfl rfl rfl rfl ?_
 refine G.stepD (OD.fieldAddr rfl rfl fa27_0) rfl rfl rfl ?_
 refine G.stepD (OD.load rfl ti3 rfl (i := 0) rfl rfl) rfl rfl rfl ?_
 refine G.stepD (OD.addI rfl rfl rfl (by omega)) rfl rfl rfl ?_
 refine Za rfl rfl rfl rfl rfl ?_
 refine Zn (GE.blockN (Zt (Zr ?_)))
 refine G.stepD (OD.addI rfl rfl rfl (by omega)) rfl rfl rfl ?_
 refine Zm rfl rfl rfl rfl rfl ?_
 refine Zn ?_
 exact GE.again (b + 1, a + (rk (ks.getD (b) 0) : Int), zs) (⟨by omega, by rw [rkS_take_succ (by omega), ha]; simp, hzl, fold_next hy (by rw [hz, show i = rk (ks.getD b 0) by omega, ha]; rfl)⟩) (by first | omega | (dsimp only; omega)) ⟨rfl,rfl,rfl,rfl,rfl,rfl,trivial⟩ [1, 1, 1] 1 rfl
 replace hc7 := of_decide_eq_false hc7
 refine GC.exit (Zp (Zp (GE.hit (Zt (Zs (Zr ?_))))))
 refine G.stepD (OD.loadAgg rfl ti27 rfl (i := 1) rfl (us := [.int .i64 (r), v5]) rfl rfl) rfl rfl rfl ?_
 refine G.stepD0 (OD.store rfl ti27 rfl rfl (us := [.int .i64 (r), v5]) rfl rfl (allC rfl (allC (IsS.one hs6) rfl)) (i := 2) rfl rfl) rfl rfl ?_
 refine Zn (Zt (GC.ret ?_))
 exact GE.body [0] 2 (resN rfl (RVs.cons (rv_cells ti27 rfl (i := 2) rfl rfl) RVs.nil) rfl) rfl (⟨v5, congrArg (fun (a0 : Int) => (.agg #[.int .i64 (a0), v5] : Value)) ((hrN : (r : Int) = (rkS ks : Nat))), hs6, congrArg (fun (l0 : List Int) => ints 3 v5 l0 :: own) ((by rw [hy, show b = ks.length by omega, hrN]; rfl : ys = joinD ks))⟩)
end Go.Proofs.YtbmnnbglipkidaaGreatDoor
namespace Go.Proofs.YtbmnnbglipkidaaGreatDoor
set_option linter.unusedVariables false
set_option linter.unusedSimpArgs false
open Go.RowKit
set_option maxHeartbeats 4000000 in
set_option maxRecDepth 100000 in
theorem specCartanOf_w {W : World} {own : List Asn} {s : ByteArray}   (hs : s.size ≤ 1048576) : Spec Tryz.prog 43 [.string (s)] W own (fun v ow => ∃ (r1 : Value), v = .tuple #[.agg #[.int .i64 (cR s), r1], .bool ((cF s).isSome)] ∧ IsS r1 ∧ ow = ints 3 r1 (cD s) :: own) := by
 refine Spec.enter Tryz.f43 _ Tryz.func43 rfl (n := 68) rfl rfl ?_
 refine Zs (Zr ?_)
 refine G.step (OG.alloc rfl ti27 (zs := [.int .i64 (0), .slice none 0 0]) rfl) rfl rfl rfl ?_
 rintro _ _ ⟨g1, rfl, rfl⟩
 refine Za rfl rfl rfl rfl rfl ?_
 refine Zn (Zt (Zs (Zr ?_)))
 refine G.step (OG.buildInts (xs := []) (is := []) rfl et22 rfl rfl rfl rfl rfl) rfl rfl rfl ?_
 rintro v2 _ ⟨hs3, rfl⟩
 refine G.stepD (OD.build (idx := [1]) (xs := [.tmp 6]) (vs := [v2]) (cs := [[v2]]) (zs := [.int .i64 (0), .slice none 0 0]) (r := [.int .i64 (0), v2]) rfl ti27 rfl rfl rfl ⟨(one_cells (IsS.one hs3)), trivial⟩ rfl) rfl rfl rfl ?_
 refine G.step (OG.alloc rfl ti27 (zs := [.int .i64 (0), .slice none 0 0]) rfl) rfl rfl rfl ?_
 rintro _ _ ⟨g4, rfl, rfl⟩
 refine G.stepD0 (OD.store rfl ti27 rfl rfl (us := [.int .i64 (0), v2]) rfl rfl (allC rfl (allC (IsS.one hs3) rfl)) (i := 0) rfl rfl) rfl rfl ?_
 refine Zn (Zt (Zs (Zs (Zr ?_))))
 refine Za rfl rfl rfl rfl rfl ?_
 refine Zn (Zt (GC.block ?_))
 refine GC.loop (ι := List Nat × Int × List Int × Value) (fun ⟨ks, r, d, v⟩ => [(0, .string (s)), (2, .pointer (some ⟨g1, 0, none⟩)), (4, .pointer (some ⟨g4, 0, none⟩)), (5, .int .i64 (3 * (ks.length : Int)))]) (fun ⟨ks, r, d, v⟩ => box g4 27 [.int .i64 (r), v] :: ints 3 v d :: box g1 27 [.int .i64 (0), .slice none 0 0] :: own) (fun ⟨ks, r, d, v⟩ => (Scan s ks) ∧ (r = (rkS ks : Nat)) ∧ (d = (matOf ks).2) ∧ (IsS v)) (fun ⟨ks, r, d, v⟩ => s.size - 3 * ks.length) ([], 0, [], v2) (⟨Scan.start s, rfl, rfl, hs3⟩) ⟨rfl, rfl, rfl, int_eq (by simp), trivial⟩ [] 0 rfl ?_
 rintro ⟨ks, r, d, v⟩ ⟨hsc, hr, hd, hv⟩
 refine Zs (Zs (Zr ?_))
 refine Zm rfl rfl rfl rfl rfl ?_
 refine Zm rfl rfl rfl rfl rfl ?_
 refine G.stepD (OD.lenStr rfl rfl st9 rfl) rfl rfl rfl ?_
 refine G.stepD (OD.lss rfl rfl rfl) rfl rfl rfl ?_
 refine Zn (Zt ?_)
 refine GC.cond rfl (fun hc5 => ?_) (fun hc5 => ?_)
 replace hc5 := of_decide_eq_true hc5
 have hr4 := hsc.2.1
 have hl4 := rkS_ge hsc.1
 refine Zk (Zt (Zs (GC.block (Zs (Zs ?_)))))
 rcases Bool.eq_false_or_eq_true (decide ((s.size : Nat) < (3 * (ks.length : Int)) + 2)) with hg6 | hg6
 have hg6p := hg6
 replace hg6p := of_decide_eq_true hg6p
 refine GC.at [] 0 (env' := [(0, .string (s)), (2, .pointer (some ⟨g1, 0, none⟩)), (4, .pointer (some ⟨g4, 0, none⟩)), (5, .int .i64 (3 * (ks.length : Int)))]) ⟨rfl,rfl,rfl,rfl,trivial⟩ rfl ?_
 refine GC.par (its := [Z0 14 (.int .i64 (3 * (ks.length : Int))),
     Z1 15 [(0, 14)] (.int .i64 ((3 * (ks.length : Int)) + 2)),
     Z0 16 (.string (s)),
     Z1 17 [(2, 16)] (.int .i64 ((s.size : Nat))),
     Z1 18 [(1, 15), (3, 17)] (.bool true),
     Z1 19 [(4, 18)] (.bool true),
     Z1 20 [(5, 19)] undef,
     Z1 21 [(5, 19), (6, 20)] undef,
     Z1 22 [(5, 19)] undef,
     Z1 23 [(5, 19), (8, 22)] undef,
     Z1 24 [(5, 19), (7, 21), (9, 23)] undef,
     Z1 25 [(5, 19), (10, 24)] undef,
     Z1 26 [(11, 25)] undef,
     Z1 27 [(11, 25)] undef,
     Z1 28 [(11, 25), (13, 27)] undef,
     Z1 29 [(11, 25), (12, 26), (14, 28)] undef,
     Z1 30 [(11, 25), (15, 29)] undef,
     Z1 31 [(11, 25), (16, 30)] undef,
     Z1 32 [(17, 31)] undef,
     Z1 33 [(17, 31), (18, 32)] undef,
     Z1 34 [(17, 31)] undef,
     Z1 35 [(17, 31), (20, 34)] undef,
     Z1 36 [(17, 31), (19, 33), (21, 35)] undef,
     Z1 37 [(11, 25), (17, 31), (22, 36)] undef,
     Z1 38 [(5, 19), (11, 25), (23, 37)] undef,
     Z1 39 [(5, 19), (24, 38)] (.bool true),
     Z1 40 [(25, 39)] (.bool true),
     Z1 41 [(26, 40)] undef,
     Z1 42 [(26, 40)] undef,
     Z1 43 [(26, 40)] undef,
     Z1 44 [(26, 40)] undef,
     Z1 45 [(26, 40), (30, 44)] undef,
     Z1 46 [(26, 40), (28, 42), (29, 43), (31, 45)] undef,
     Z1 47 [(26, 40), (27, 41), (32, 46)] undef,
     Z1 48 [(26, 40), (33, 47)] undef,
     Z1 49 [(26, 40), (34, 48)] (.bool true)]) (by kernel_rfl) (by kernel_rfl) (POps.cons ?_ (POps.cons ?_ (POps.cons ?_ (POps.cons ?_ (POps.cons ?_ (POps.cons ?_ (POps.cons ?_ (POps.cons ?_ (POps.cons ?_ (POps.cons ?_ (POps.cons ?_ (POps.cons ?_ (POps.cons ?_ (POps.cons ?_ (POps.cons ?_ (POps.cons ?_ (POps.cons ?_ (POps.cons ?_ (POps.cons ?_ (POps.cons ?_ (POps.cons ?_ (POps.cons ?_ (POps.cons ?_ (POps.cons ?_ (POps.cons ?_ (POps.cons ?_ (POps.cons ?_ (POps.cons ?_ (POps.cons ?_ (POps.cons ?_ (POps.cons ?_ (POps.cons ?_ (POps.cons ?_ (POps.cons ?_ (POps.cons ?_ (POps.cons ?_ POps.nil)))))))))))))))))))))))))))))))))))) ?_
 exact fun θ R hd => Zq (OD.move rfl rfl) rfl rfl trivial rfl
 exact fun θ R ⟨h0d, _⟩ => Zq (OD.addI rfl rfl rfl (by omega)) rfl rfl trivial rfl
 exact fun θ R hd => Zq (OD.move rfl rfl) rfl rfl trivial rfl
 exact fun θ R ⟨h2d, _⟩ => Zq (OD.lenStr rfl rfl st9 rfl) rfl rfl trivial rfl
 exact fun θ R ⟨h1d, h3d, _⟩ => Opp.plain (OG.imp (OD.gtr rfl rfl rfl) (by rintro _ _ ⟨rfl, rfl⟩; exact ⟨[], congrArg Value.bool hg6, trivial, rfl⟩)) rfl
 exact fun θ R ⟨h4d, _⟩ => Zq (OD.move rfl rfl) rfl rfl trivial rfl
 exact fun θ R ⟨h5d, _⟩ => Opp.off ⟨[], rfl, trivial, rfl⟩ rfl rfl rfl rfl
 exact fun θ R ⟨h5d, h6d, _⟩ => Opp.off ⟨[], rfl, trivial, rfl⟩ rfl rfl rfl rfl
 exact fun θ R ⟨h5d, _⟩ => Opp.off ⟨[], rfl, trivial, rfl⟩ rfl rfl rfl rfl
 exact fun θ R ⟨h5d, h8d, _⟩ => Opp.off ⟨[], rfl, trivial, rfl⟩ rfl rfl rfl rfl
 exact fun θ R ⟨h5d, h7d, h9d, _⟩ => Opp.off ⟨[], rfl, trivial, rfl⟩ rfl rfl rfl rfl
 exact fun θ R ⟨h5d, h10d, _⟩ => Opp.off ⟨[], rfl, trivial, rfl⟩ rfl rfl rfl rfl
 exact fun θ R ⟨h11d, _⟩ => Opp.offU ⟨[], rfl, trivial, rfl⟩ rfl rfl rfl
 exact fun θ R ⟨h11d, _⟩ => Opp.offU ⟨[], rfl, trivial, rfl⟩ rfl rfl rfl
 exact fun θ R ⟨h11d, h13d, _⟩ => Opp.offU ⟨[], rfl, trivial, rfl⟩ rfl rfl rfl
 exact fun θ R ⟨h11d, h12d, h14d, _⟩ => Opp.offU ⟨[], rfl, trivial, rfl⟩ rfl rfl rfl
 exact fun θ R ⟨h11d, h15d, _⟩ => Opp.offU ⟨[], rfl, trivial, rfl⟩ rfl rfl rfl
 exact fun θ R ⟨h11d, h16d, _⟩ => Opp.offU ⟨[], rfl, trivial, rfl⟩ rfl rfl rfl
 exact fun θ R ⟨h17d, _⟩ => Opp.offU ⟨[], rfl, trivial, rfl⟩ rfl rfl rfl
 exact fun θ R ⟨h17d, h18d, _⟩ => Opp.offU ⟨[], rfl, trivial, rfl⟩ rfl rfl rfl
 exact fun θ R ⟨h17d, _⟩ => Opp.offU ⟨[], rfl, trivial, rfl⟩ rfl rfl rfl
 exact fun θ R ⟨h17d, h20d, _⟩ => Opp.offU ⟨[], rfl, trivial, rfl⟩ rfl rfl rfl
 exact fun θ R ⟨h17d, h19d, h21d, _⟩ => Opp.offU ⟨[], rfl, trivial, rfl⟩ rfl rfl rfl
 exact fun θ R ⟨h11d, h17d, h22d, _⟩ => Opp.offU ⟨[], rfl, trivial, rfl⟩ rfl rfl rfl
 exact fun θ R ⟨h5d, h11d, h23d, _⟩ => Opp.off ⟨[], rfl, trivial, rfl⟩ rfl rfl rfl rfl
 exact fun θ R ⟨h5d, h24d, _⟩ => Zq (OD.pickT rfl rfl rfl) rfl rfl trivial rfl
 exact fun θ R ⟨h25d, _⟩ => Zq (OD.move rfl rfl) rfl rfl trivial rfl
 exact fun θ R ⟨h26d, _⟩ => Opp.off ⟨[], rfl, trivial, rfl⟩ rfl rfl rfl rfl
 exact fun θ R ⟨h26d, _⟩ => Opp.off ⟨[], rfl, trivial, rfl⟩ rfl rfl rfl rfl
 exact fun θ R ⟨h26d, _⟩ => Opp.off ⟨[], rfl, trivial, rfl⟩ rfl rfl rfl rfl
 exact fun θ R ⟨h26d, _⟩ => Opp.off ⟨[], rfl, trivial, rfl⟩ rfl rfl rfl rfl
 exact fun θ R ⟨h26d, h30d, _⟩ => Opp.off ⟨[], rfl, trivial, rfl⟩ rfl rfl rfl rfl
 exact fun θ R ⟨h26d, h28d, h29d, h31d, _⟩ => Opp.off ⟨[], rfl, trivial, rfl⟩ rfl rfl rfl rfl
 exact fun θ R ⟨h26d, h27d, h32d, _⟩ => Opp.off ⟨[], rfl, trivial, rfl⟩ rfl rfl rfl rfl
 exact fun θ R ⟨h26d, h33d, _⟩ => Opp.off ⟨[], rfl, trivial, rfl⟩ rfl rfl rfl rfl
 exact fun θ R ⟨h26d, h34d, _⟩ => Zq (OD.pickT rfl rfl rfl) rfl rfl trivial rfl
 intro θ hall
 obtain ⟨_, _, _, _, _, _, _, _, _, _, _, _, _, _, _, _, _, _, _, _, _, _, _, _, _, _, _, _, _, _, _, _, _, _, _, _, _⟩ := hall
 refine G.at [] 0 (env' := [(0, .string (s)), (2, .pointer (some ⟨g1, 0, none⟩)), (4, .pointer (some ⟨g4, 0, none⟩)), (5, .int .i64 (3 * (ks.length : Int))), (49, .bool true)]) ⟨rfl,rfl,rfl,rfl,rfl,trivial⟩ (own' := box g4 27 [.int .i64 (r), v] :: ints 3 v d :: box g1 27 [.int .i64 (0), .slice none 0 0] :: own) rfl ?_
 show G _ _ _ [] _ _ _ _
 refine Zn (Zt (GC.condT rfl ?_))
 obtain ⟨hp1, hp2, hp3⟩ := cF_none (hsc.bad (by omega) (by first | exact .inl (by omega) | exact .inr (.inl ⟨by omega, .inl (by assumption)⟩) | exact .inr (.inl ⟨by omega, .inr (by omega)⟩) | exact .inr (.inr (by assumption))))
 refine Zs (Zr ?_)
 refine G.stepD (OD.build (idx := []) (xs := []) (vs := []) (cs := []) (zs := [.int .i64 (0), .slice none 0 0]) (r := [.int .i64 (0), .slice none 0 0]) rfl ti27 rfl rfl rfl trivial rfl) rfl rfl rfl ?_
 refine G.stepD0 (OD.store rfl ti27 rfl rfl (us := [.int .i64 (0), .slice none 0 0]) rfl rfl rfl (i := 2) rfl rfl) rfl rfl ?_
 refine Za rfl rfl rfl rfl rfl ?_
 refine Zn (Zt (GC.ret (GE.passR (GE.blockR (GE.passR (GE.passR (GE.blockR (GE.passR ?_))))))))
 refine GE.nilInts 3 ?_
 exact GE.body [0] 3 (resN rfl (RVs.cons (rv_cells ti27 rfl (i := 3) rfl rfl) (RVs.cons (rv_tmp rfl) RVs.nil)) rfl) rfl (⟨(.slice none 0 0), congr (congrArg (fun (a0 : Int) (a2 : Bool) => (.tuple #[.agg #[.int .i64 (a0), (.slice none 0 0)], .bool (a2)] : Value)) ((hp1.symm : (0 : Int) = cR s))) ((hp3.symm : (false : Bool) = (cF s).isSome)), IsS.nil, congrArg (fun (l0 : List Int) => ints 3 (.slice none 0 0) l0 :: own) ((hp2.symm : [] = cD s))⟩)
 have hg6p := hg6
 replace hg6p := of_decide_eq_false hg6p
 rcases Bool.eq_false_or_eq_true (decide ((3 * (ks.length : Int)) + 2 < (s.size : Nat))) with hg7 | hg7
 have hg7p := hg7
 replace hg7p := of_decide_eq_true hg7p
 rcases Bool.eq_false_or_eq_true ((bAt s (((3 * (ks.length : Int)) + 2 : Int).toNat)) != 43) with hg8 | hg8
 have hg8p := hg8
 replace hg8p := ne_of_bne hg8p
 refine GC.at [] 0 (env' := [(0, .string (s)), (2, .pointer (some ⟨g1, 0, none⟩)), (4, .pointer (some ⟨g4, 0, none⟩)), (5, .int .i64 (3 * (ks.length : Int)))]) ⟨rfl,rfl,rfl,rfl,trivial⟩ rfl ?_
 refine GC.par (its := [Z0 14 (.int .i64 (3 * (ks.length : Int))),
     Z1 15 [(0, 14)] (.int .i64 ((3 * (ks.length : Int)) + 2)),
     Z0 16 (.string (s)),
     Z1 17 [(2, 16)] (.int .i64 ((s.size : Nat))),
     Z1 18 [(1, 15), (3, 17)] (.bool false),
     Z1 19 [(4, 18)] (.bool false),
     Z1 20 [(5, 19)] (.int .i64 (3 * (ks.length : Int))),
     Z1 21 [(5, 19), (6, 20)] (.int .i64 ((3 * (ks.length : Int)) + 2)),
     Z1 22 [(5, 19)] (.string (s)),
     Z1 23 [(5, 19), (8, 22)] (.int .i64 ((s.size : Nat))),
     Z1 24 [(5, 19), (7, 21), (9, 23)] (.bool true),
     Z1 25 [(5, 19), (10, 24)] (.bool true),
     Z1 26 [(11, 25)] (.string (s)),
     Z1 27 [(11, 25)] (.int .i64 (3 * (ks.length : Int))),
     Z1 28 [(11, 25), (13, 27)] (.int .i64 ((3 * (ks.length : Int)) + 2)),
     Z1 29 [(11, 25), (12, 26), (14, 28)] (.int .u8 (bAt s (((3 * (ks.length : Int)) + 2 : Int).toNat))),
     Z1 30 [(11, 25), (15, 29)] (.bool true),
     Z1 31 [(11, 25), (16, 30)] (.bool true),
     Z1 32 [(17, 31)] undef,
     Z1 33 [(17, 31), (18, 32)] undef,
     Z1 34 [(17, 31)] undef,
     Z1 35 [(17, 31), (20, 34)] undef,
     Z1 36 [(17, 31), (19, 33), (21, 35)] undef,
     Z1 37 [(11, 25), (17, 31), (22, 36)] (.bool true),
     Z1 38 [(5, 19), (11, 25), (23, 37)] (.bool true),
     Z1 39 [(5, 19), (24, 38)] (.bool true),
     Z1 40 [(25, 39)] (.bool true),
     Z1 41 [(26, 40)] undef,
     Z1 42 [(26, 40)] undef,
     Z1 43 [(26, 40)] undef,
     Z1 44 [(26, 40)] undef,
     Z1 45 [(26, 40), (30, 44)] undef,
     Z1 46 [(26, 40), (28, 42), (29, 43), (31, 45)] undef,
     Z1 47 [(26, 40), (27, 41), (32, 46)] undef,
     Z1 48 [(26, 40), (33, 47)] undef,
     Z1 49 [(26, 40), (34, 48)] (.bool true)]) (by kernel_rfl) (by kernel_rfl) (POps.cons ?_ (POps.cons ?_ (POps.cons ?_ (POps.cons ?_ (POps.cons ?_ (POps.cons ?_ (POps.cons ?_ (POps.cons ?_ (POps.cons ?_ (POps.cons ?_ (POps.cons ?_ (POps.cons ?_ (POps.cons ?_ (POps.cons ?_ (POps.cons ?_ (POps.cons ?_ (POps.cons ?_ (POps.cons ?_ (POps.cons ?_ (POps.cons ?_ (POps.cons ?_ (POps.cons ?_ (POps.cons ?_ (POps.cons ?_ (POps.cons ?_ (POps.cons ?_ (POps.cons ?_ (POps.cons ?_ (POps.cons ?_ (POps.cons ?_ (POps.cons ?_ (POps.cons ?_ (POps.cons ?_ (POps.cons ?_ (POps.cons ?_ (POps.cons ?_ POps.nil)))))))))))))))))))))))))))))))))))) ?_
 exact fun θ R hd => Zq (OD.move rfl rfl) rfl rfl trivial rfl
 exact fun θ R ⟨h0d, _⟩ => Zq (OD.addI rfl rfl rfl (by omega)) rfl rfl trivial rfl
 exact fun θ R hd => Zq (OD.move rfl rfl) rfl rfl trivial rfl
 exact fun θ R ⟨h2d, _⟩ => Zq (OD.lenStr rfl rfl st9 rfl) rfl rfl trivial rfl
 exact fun θ R ⟨h1d, h3d, _⟩ => Opp.plain (OG.imp (OD.gtr rfl rfl rfl) (by rintro _ _ ⟨rfl, rfl⟩; exact ⟨[], congrArg Value.bool hg6, trivial, rfl⟩)) rfl
 exact fun θ R ⟨h4d, _⟩ => Zq (OD.move rfl rfl) rfl rfl trivial rfl
 exact fun θ R ⟨h5d, _⟩ => Zo (OD.move rfl rfl) rfl rfl rfl rfl trivial rfl
 exact fun θ R ⟨h5d, h6d, _⟩ => Zo (OD.addI rfl rfl rfl (by omega)) rfl rfl rfl rfl trivial rfl
 exact fun θ R ⟨h5d, _⟩ => Zo (OD.move rfl rfl) rfl rfl rfl rfl trivial rfl
 exact fun θ R ⟨h5d, h8d, _⟩ => Zo (OD.lenStr rfl rfl st9 rfl) rfl rfl rfl rfl trivial rfl
 exact fun θ R ⟨h5d, h7d, h9d, _⟩ => Opp.on (OG.imp (OD.lss rfl rfl rfl) (by rintro _ _ ⟨rfl, rfl⟩; exact ⟨[], congrArg Value.bool hg7, trivial, rfl⟩)) rfl rfl rfl
 exact fun θ R ⟨h5d, h10d, _⟩ => Zo (OD.move rfl rfl) rfl rfl rfl rfl trivial rfl
 exact fun θ R ⟨h11d, _⟩ => Zo (OD.move rfl rfl) rfl rfl rfl rfl trivial rfl
 exact fun θ R ⟨h11d, _⟩ => Zo (OD.move rfl rfl) rfl rfl rfl rfl trivial rfl
 exact fun θ R ⟨h11d, h13d, _⟩ => Zo (OD.addI rfl rfl rfl (by omega)) rfl rfl rfl rfl trivial rfl
 exact fun θ R ⟨h11d, h12d, h14d, _⟩ => Zo (OD.indexStr rfl st9 rfl rfl (by omega)) rfl rfl rfl rfl trivial rfl
 exact fun θ R ⟨h11d, h15d, _⟩ => Opp.on (OG.imp (OD.neq rfl rfl rfl) (by rintro _ _ ⟨rfl, rfl⟩; exact ⟨[], congrArg Value.bool hg8, trivial, rfl⟩)) rfl rfl rfl
 exact fun θ R ⟨h11d, h16d, _⟩ => Zo (OD.move rfl rfl) rfl rfl rfl rfl trivial rfl
 exact fun θ R ⟨h17d, _⟩ => Opp.off ⟨[], rfl, trivial, rfl⟩ rfl rfl rfl rfl
 exact fun θ R ⟨h17d, h18d, _⟩ => Opp.off ⟨[], rfl, trivial, rfl⟩ rfl rfl rfl rfl
 exact fun θ R ⟨h17d, _⟩ => Opp.off ⟨[], rfl, trivial, rfl⟩ rfl rfl rfl rfl
 exact fun θ R ⟨h17d, h20d, _⟩ => Opp.off ⟨[], rfl, trivial, rfl⟩ rfl rfl rfl rfl
 exact fun θ R ⟨h17d, h19d, h21d, _⟩ => Opp.off ⟨[], rfl, trivial, rfl⟩ rfl rfl rfl rfl
 exact fun θ R ⟨h11d, h17d, h22d, _⟩ => Zo (OD.pickT rfl rfl rfl) rfl rfl rfl rfl trivial rfl
 exact fun θ R ⟨h5d, h11d, h23d, _⟩ => Zo (OD.pickT rfl rfl rfl) rfl rfl rfl rfl trivial rfl
 exact fun θ R ⟨h5d, h24d, _⟩ => Zq (OD.pickF rfl rfl rfl) rfl rfl trivial rfl
 exact fun θ R ⟨h25d, _⟩ => Zq (OD.move rfl rfl) rfl rfl trivial rfl
 exact fun θ R ⟨h26d, _⟩ => Opp.off ⟨[], rfl, trivial, rfl⟩ rfl rfl rfl rfl
 exact fun θ R ⟨h26d, _⟩ => Opp.off ⟨[], rfl, trivial, rfl⟩ rfl rfl rfl rfl
 exact fun θ R ⟨h26d, _⟩ => Opp.off ⟨[], rfl, trivial, rfl⟩ rfl rfl rfl rfl
 exact fun θ R ⟨h26d, _⟩ => Opp.off ⟨[], rfl, trivial, rfl⟩ rfl rfl rfl rfl
 exact fun θ R ⟨h26d, h30d, _⟩ => Opp.off ⟨[], rfl, trivial, rfl⟩ rfl rfl rfl rfl
 exact fun θ R ⟨h26d, h28d, h29d, h31d, _⟩ => Opp.off ⟨[], rfl, trivial, rfl⟩ rfl rfl rfl rfl
 exact fun θ R ⟨h26d, h27d, h32d, _⟩ => Opp.off ⟨[], rfl, trivial, rfl⟩ rfl rfl rfl rfl
 exact fun θ R ⟨h26d, h33d, _⟩ => Opp.off ⟨[], rfl, trivial, rfl⟩ rfl rfl rfl rfl
 exact fun θ R ⟨h26d, h34d, _⟩ => Zq (OD.pickT rfl rfl rfl) rfl rfl trivial rfl
 intro θ hall
 obtain ⟨_, _, _, _, _, _, _, _, _, _, _, _, _, _, _, _, _, _, _, _, _, _, _, _, _, _, _, _, _, _, _, _, _, _, _, _, _⟩ := hall
 refine G.at [] 0 (env' := [(0, .string (s)), (2, .pointer (some ⟨g1, 0, none⟩)), (4, .pointer (some ⟨g4, 0, none⟩)), (5, .int .i64 (3 * (ks.length : Int))), (49, .bool true)]) ⟨rfl,rfl,rfl,rfl,rfl,trivial⟩ (own' := box g4 27 [.int .i64 (r), v] :: ints 3 v d :: box g1 27 [.int .i64 (0), .slice none 0 0] :: own) rfl ?_
 show G _ _ _ [] _ _ _ _
 refine Zn (Zt (GC.condT rfl ?_))
 obtain ⟨hp1, hp2, hp3⟩ := cF_none (hsc.bad (by omega) (by first | exact .inl (by omega) | exact .inr (.inl ⟨by omega, .inl (by assumption)⟩) | exact .inr (.inl ⟨by omega, .inr (by omega)⟩) | exact .inr (.inr (by assumption))))
 refine Zs (Zr ?_)
 refine G.stepD (OD.build (idx := []) (xs := []) (vs := []) (cs := []) (zs := [.int .i64 (0), .slice none 0 0]) (r := [.int .i64 (0), .slice none 0 0]) rfl ti27 rfl rfl rfl trivial rfl) rfl rfl rfl ?_
 refine G.stepD0 (OD.store rfl ti27 rfl rfl (us := [.int .i64 (0), .slice none 0 0]) rfl rfl rfl (i := 2) rfl rfl) rfl rfl ?_
 refine Za rfl rfl rfl rfl rfl ?_
 refine Zn (Zt (GC.ret (GE.passR (GE.blockR (GE.passR (GE.passR (GE.blockR (GE.passR ?_))))))))
 refine GE.nilInts 3 ?_
 exact GE.body [0] 3 (resN rfl (RVs.cons (rv_cells ti27 rfl (i := 3) rfl rfl) (RVs.cons (rv_tmp rfl) RVs.nil)) rfl) rfl (⟨(.slice none 0 0), congr (congrArg (fun (a0 : Int) (a2 : Bool) => (.tuple #[.agg #[.int .i64 (a0), (.slice none 0 0)], .bool (a2)] : Value)) ((hp1.symm : (0 : Int) = cR s))) ((hp3.symm : (false : Bool) = (cF s).isSome)), IsS.nil, congrArg (fun (l0 : List Int) => ints 3 (.slice none 0 0) l0 :: own) ((hp2.symm : [] = cD s))⟩)
 have hg8p := hg8
 replace hg8p := eq_of_bne_false hg8p
 rcases Bool.eq_false_or_eq_true (((3 * (ks.length : Int)) + 3) == (s.size : Nat)) with hg9 | hg9
 have hg9p := hg9
 replace hg9p := eq_of_beq hg9p
 refine GC.at [] 0 (env' := [(0, .string (s)), (2, .pointer (some ⟨g1, 0, none⟩)), (4, .pointer (some ⟨g4, 0, none⟩)), (5, .int .i64 (3 * (ks.length : Int)))]) ⟨rfl,rfl,rfl,rfl,trivial⟩ rfl ?_
 refine GC.par (its := [Z0 14 (.int .i64 (3 * (ks.length : Int))),
     Z1 15 [(0, 14)] (.int .i64 ((3 * (ks.length : Int)) + 2)),
     Z0 16 (.string (s)),
     Z1 17 [(2, 16)] (.int .i64 ((s.size : Nat))),
     Z1 18 [(1, 15), (3, 17)] (.bool false),
     Z1 19 [(4, 18)] (.bool false),
     Z1 20 [(5, 19)] (.int .i64 (3 * (ks.length : Int))),
     Z1 21 [(5, 19), (6, 20)] (.int .i64 ((3 * (ks.length : Int)) + 2)),
     Z1 22 [(5, 19)] (.string (s)),
     Z1 23 [(5, 19), (8, 22)] (.int .i64 ((s.size : Nat))),
     Z1 24 [(5, 19), (7, 21), (9, 23)] (.bool true),
     Z1 25 [(5, 19), (10, 24)] (.bool true),
     Z1 26 [(11, 25)] (.string (s)),
     Z1 27 [(11, 25)] (.int .i64 (3 * (ks.length : Int))),
     Z1 28 [(11, 25), (13, 27)] (.int .i64 ((3 * (ks.length : Int)) + 2)),
     Z1 29 [(11, 25), (12, 26), (14, 28)] (.int .u8 (bAt s (((3 * (ks.length : Int)) + 2 : Int).toNat))),
     Z1 30 [(11, 25), (15, 29)] (.bool false),
     Z1 31 [(11, 25), (16, 30)] (.bool false),
     Z1 32 [(17, 31)] (.int .i64 (3 * (ks.length : Int))),
     Z1 33 [(17, 31), (18, 32)] (.int .i64 ((3 * (ks.length : Int)) + 3)),
     Z1 34 [(17, 31)] (.string (s)),
     Z1 35 [(17, 31), (20, 34)] (.int .i64 ((s.size : Nat))),
     Z1 36 [(17, 31), (19, 33), (21, 35)] (.bool true),
     Z1 37 [(11, 25), (17, 31), (22, 36)] (.bool true),
     Z1 38 [(5, 19), (11, 25), (23, 37)] (.bool true),
     Z1 39 [(5, 19), (24, 38)] (.bool true),
     Z1 40 [(25, 39)] (.bool true),
     Z1 41 [(26, 40)] undef,
     Z1 42 [(26, 40)] undef,
     Z1 43 [(26, 40)] undef,
     Z1 44 [(26, 40)] undef,
     Z1 45 [(26, 40), (30, 44)] undef,
     Z1 46 [(26, 40), (28, 42), (29, 43), (31, 45)] undef,
     Z1 47 [(26, 40), (27, 41), (32, 46)] undef,
     Z1 48 [(26, 40), (33, 47)] undef,
     Z1 49 [(26, 40), (34, 48)] (.bool true)]) (by kernel_rfl) (by kernel_rfl) (POps.cons ?_ (POps.cons ?_ (POps.cons ?_ (POps.cons ?_ (POps.cons ?_ (POps.cons ?_ (POps.cons ?_ (POps.cons ?_ (POps.cons ?_ (POps.cons ?_ (POps.cons ?_ (POps.cons ?_ (POps.cons ?_ (POps.cons ?_ (POps.cons ?_ (POps.cons ?_ (POps.cons ?_ (POps.cons ?_ (POps.cons ?_ (POps.cons ?_ (POps.cons ?_ (POps.cons ?_ (POps.cons ?_ (POps.cons ?_ (POps.cons ?_ (POps.cons ?_ (POps.cons ?_ (POps.cons ?_ (POps.cons ?_ (POps.cons ?_ (POps.cons ?_ (POps.cons ?_ (POps.cons ?_ (POps.cons ?_ (POps.cons ?_ (POps.cons ?_ POps.nil)))))))))))))))))))))))))))))))))))) ?_
 exact fun θ R hd => Zq (OD.move rfl rfl) rfl rfl trivial rfl
 exact fun θ R ⟨h0d, _⟩ => Zq (OD.addI rfl rfl rfl (by omega)) rfl rfl trivial rfl
 exact fun θ R hd => Zq (OD.move rfl rfl) rfl rfl trivial rfl
 exact fun θ R ⟨h2d, _⟩ => Zq (OD.lenStr rfl rfl st9 rfl) rfl rfl trivial rfl
 exact fun θ R ⟨h1d, h3d, _⟩ => Opp.plain (OG.imp (OD.gtr rfl rfl rfl) (by rintro _ _ ⟨rfl, rfl⟩; exact ⟨[], congrArg Value.bool hg6, trivial, rfl⟩)) rfl
 exact fun θ R ⟨h4d, _⟩ => Zq (OD.move rfl rfl) rfl rfl trivial rfl
 exact fun θ R ⟨h5d, _⟩ => Zo (OD.move rfl rfl) rfl rfl rfl rfl trivial rfl
 exact fun θ R ⟨h5d, h6d, _⟩ => Zo (OD.addI rfl rfl rfl (by omega)) rfl rfl rfl rfl trivial rfl
 exact fun θ R ⟨h5d, _⟩ => Zo (OD.move rfl rfl) rfl rfl rfl rfl trivial rfl
 exact fun θ R ⟨h5d, h8d, _⟩ => Zo (OD.lenStr rfl rfl st9 rfl) rfl rfl rfl rfl trivial rfl
 exact fun θ R ⟨h5d, h7d, h9d, _⟩ => Opp.on (OG.imp (OD.lss rfl rfl rfl) (by rintro _ _ ⟨rfl, rfl⟩; exact ⟨[], congrArg Value.bool hg7, trivial, rfl⟩)) rfl rfl rfl
 exact fun θ R ⟨h5d, h10d, _⟩ => Zo (OD.move rfl rfl) rfl rfl rfl rfl trivial rfl
 exact fun θ R ⟨h11d, _⟩ => Zo (OD.move rfl rfl) rfl rfl rfl rfl trivial rfl
 exact fun θ R ⟨h11d, _⟩ => Zo (OD.move rfl rfl) rfl rfl rfl rfl trivial rfl
 exact fun θ R ⟨h11d, h13d, _⟩ => Zo (OD.addI rfl rfl rfl (by omega)) rfl rfl rfl rfl trivial rfl
 exact fun θ R ⟨h11d, h12d, h14d, _⟩ => Zo (OD.indexStr rfl st9 rfl rfl (by omega)) rfl rfl rfl rfl trivial rfl
 exact fun θ R ⟨h11d, h15d, _⟩ => Opp.on (OG.imp (OD.neq rfl rfl rfl) (by rintro _ _ ⟨rfl, rfl⟩; exact ⟨[], congrArg Value.bool hg8, trivial, rfl⟩)) rfl rfl rfl
 exact fun θ R ⟨h11d, h16d, _⟩ => Zo (OD.move rfl rfl) rfl rfl rfl rfl trivial rfl
 exact fun θ R ⟨h17d, _⟩ => Zo (OD.move rfl rfl) rfl rfl rfl rfl trivial rfl
 exact fun θ R ⟨h17d, h18d, _⟩ => Zo (OD.addI rfl rfl rfl (by omega)) rfl rfl rfl rfl trivial rfl
 exact fun θ R ⟨h17d, _⟩ => Zo (OD.move rfl rfl) rfl rfl rfl rfl trivial rfl
 exact fun θ R ⟨h17d, h20d, _⟩ => Zo (OD.lenStr rfl rfl st9 rfl) rfl rfl rfl rfl trivial rfl
 exact fun θ R ⟨h17d, h19d, h21d, _⟩ => Opp.on (OG.imp (OD.eql rfl rfl rfl) (by rintro _ _ ⟨rfl, rfl⟩; exact ⟨[], congrArg Value.bool hg9, trivial, rfl⟩)) rfl rfl rfl
 exact fun θ R ⟨h11d, h17d, h22d, _⟩ => Zo (OD.pickF rfl rfl rfl) rfl rfl rfl rfl trivial rfl
 exact fun θ R ⟨h5d, h11d, h23d, _⟩ => Zo (OD.pickT rfl rfl rfl) rfl rfl rfl rfl trivial rfl
 exact fun θ R ⟨h5d, h24d, _⟩ => Zq (OD.pickF rfl rfl rfl) rfl rfl trivial rfl
 exact fun θ R ⟨h25d, _⟩ => Zq (OD.move rfl rfl) rfl rfl trivial rfl
 exact fun θ R ⟨h26d, _⟩ => Opp.off ⟨[], rfl, trivial, rfl⟩ rfl rfl rfl rfl
 exact fun θ R ⟨h26d, _⟩ => Opp.off ⟨[], rfl, trivial, rfl⟩ rfl rfl rfl rfl
 exact fun θ R ⟨h26d, _⟩ => Opp.off ⟨[], rfl, trivial, rfl⟩ rfl rfl rfl rfl
 exact fun θ R ⟨h26d, _⟩ => Opp.off ⟨[], rfl, trivial, rfl⟩ rfl rfl rfl rfl
 exact fun θ R ⟨h26d, h30d, _⟩ => Opp.off ⟨[], rfl, trivial, rfl⟩ rfl rfl rfl rfl
 exact fun θ R ⟨h26d, h28d, h29d, h31d, _⟩ => Opp.off ⟨[], rfl, trivial, rfl⟩ rfl rfl rfl rfl
 exact fun θ R ⟨h26d, h27d, h32d, _⟩ => Opp.off ⟨[], rfl, trivial, rfl⟩ rfl rfl rfl rfl
 exact fun θ R ⟨h26d, h33d, _⟩ => Opp.off ⟨[], rfl, trivial, rfl⟩ rfl rfl rfl rfl
 exact fun θ R ⟨h26d, h34d, _⟩ => Zq (OD.pickT rfl rfl rfl) rfl rfl trivial rfl
 intro θ hall
 obtain ⟨_, _, _, _, _, _, _, _, _, _, _, _, _, _, _, _, _, _, _, _, _, _, _, _, _, _, _, _, _, _, _, _, _, _, _, _, _⟩ := hall
 refine G.at [] 0 (env' := [(0, .string (s)), (2, .pointer (some ⟨g1, 0, none⟩)), (4, .pointer (some ⟨g4, 0, none⟩)), (5, .int .i64 (3 * (ks.length : Int))), (49, .bool true)]) ⟨rfl,rfl,rfl,rfl,rfl,trivial⟩ (own' := box g4 27 [.int .i64 (r), v] :: ints 3 v d :: box g1 27 [.int .i64 (0), .slice none 0 0] :: own) rfl ?_
 show G _ _ _ [] _ _ _ _
 refine Zn (Zt (GC.condT rfl ?_))
 obtain ⟨hp1, hp2, hp3⟩ := cF_none (hsc.bad (by omega) (by first | exact .inl (by omega) | exact .inr (.inl ⟨by omega, .inl (by assumption)⟩) | exact .inr (.inl ⟨by omega, .inr (by omega)⟩) | exact .inr (.inr (by assumption))))
 refine Zs (Zr ?_)
 refine G.stepD (OD.build (idx := []) (xs := []) (vs := []) (cs := []) (zs := [.int .i64 (0), .slice none 0 0]) (r := [.int .i64 (0), .slice none 0 0]) rfl ti27 rfl rfl rfl trivial rfl) rfl rfl rfl ?_
 refine G.stepD0 (OD.store rfl ti27 rfl rfl (us := [.int .i64 (0), .slice none 0 0]) rfl rfl rfl (i := 2) rfl rfl) rfl rfl ?_
 refine Za rfl rfl rfl rfl rfl ?_
 refine Zn (Zt (GC.ret (GE.passR (GE.blockR (GE.passR (GE.passR (GE.blockR (GE.passR ?_))))))))
 refine GE.nilInts 3 ?_
 exact GE.body [0] 3 (resN rfl (RVs.cons (rv_cells ti27 rfl (i := 3) rfl rfl) (RVs.cons (rv_tmp rfl) RVs.nil)) rfl) rfl (⟨(.slice none 0 0), congr (congrArg (fun (a0 : Int) (a2 : Bool) => (.tuple #[.agg #[.int .i64 (a0), (.slice none 0 0)], .bool (a2)] : Value)) ((hp1.symm : (0 : Int) = cR s))) ((hp3.symm : (false : Bool) = (cF s).isSome)), IsS.nil, congrArg (fun (l0 : List Int) => ints 3 (.slice none 0 0) l0 :: own) ((hp2.symm : [] = cD s))⟩)
 have hg9p := hg9
 replace hg9p := ne_of_beq_false hg9p
 refine GC.at [] 0 (env' := [(0, .string (s)), (2, .pointer (some ⟨g1, 0, none⟩)), (4, .pointer (some ⟨g4, 0, none⟩)), (5, .int .i64 (3 * (ks.length : Int)))]) ⟨rfl,rfl,rfl,rfl,trivial⟩ rfl ?_
 refine GC.par (its := [Z0 14 (.int .i64 (3 * (ks.length : Int))),
     Z1 15 [(0, 14)] (.int .i64 ((3 * (ks.length : Int)) + 2)),
     Z0 16 (.string (s)),
     Z1 17 [(2, 16)] (.int .i64 ((s.size : Nat))),
     Z1 18 [(1, 15), (3, 17)] (.bool false),
     Z1 19 [(4, 18)] (.bool false),
     Z1 20 [(5, 19)] (.int .i64 (3 * (ks.length : Int))),
     Z1 21 [(5, 19), (6, 20)] (.int .i64 ((3 * (ks.length : Int)) + 2)),
     Z1 22 [(5, 19)] (.string (s)),
     Z1 23 [(5, 19), (8, 22)] (.int .i64 ((s.size : Nat))),
     Z1 24 [(5, 19), (7, 21), (9, 23)] (.bool true),
     Z1 25 [(5, 19), (10, 24)] (.bool true),
     Z1 26 [(11, 25)] (.string (s)),
     Z1 27 [(11, 25)] (.int .i64 (3 * (ks.length : Int))),
     Z1 28 [(11, 25), (13, 27)] (.int .i64 ((3 * (ks.length : Int)) + 2)),
     Z1 29 [(11, 25), (12, 26), (14, 28)] (.int .u8 (bAt s (((3 * (ks.length : Int)) + 2 : Int).toNat))),
     Z1 30 [(11, 25), (15, 29)] (.bool false),
     Z1 31 [(11, 25), (16, 30)] (.bool false),
     Z1 32 [(17, 31)] (.int .i64 (3 * (ks.length : Int))),
     Z1 33 [(17, 31), (18, 32)] (.int .i64 ((3 * (ks.length : Int)) + 3)),
     Z1 34 [(17, 31)] (.string (s)),
     Z1 35 [(17, 31), (20, 34)] (.int .i64 ((s.size : Nat))),
     Z1 36 [(17, 31), (19, 33), (21, 35)] (.bool false),
     Z1 37 [(11, 25), (17, 31), (22, 36)] (.bool false),
     Z1 38 [(5, 19), (11, 25), (23, 37)] (.bool false),
     Z1 39 [(5, 19), (24, 38)] (.bool false),
     Z1 40 [(25, 39)] (.bool false),
     ⟨41, [(26, 40)], [], [], [27], fun ds => ((ds.getD 0 []).getD 0 undef), fun ds => IsS ((ds.getD 0 []).getD 0 undef), fun ds => [strs 9 ((ds.getD 0 []).getD 0 undef) nameL]⟩,
     Z1 42 [(26, 40)] (.string (s)),
     Z1 43 [(26, 40)] (.int .i64 (3 * (ks.length : Int))),
     Z1 44 [(26, 40)] (.int .i64 (3 * (ks.length : Int))),
     Z1 45 [(26, 40), (30, 44)] (.int .i64 ((3 * (ks.length : Int)) + 2)),
     Z1 46 [(26, 40), (28, 42), (29, 43), (31, 45)] (.string (s.extract ((3 * (ks.length : Int) : Int).toNat) (((3 * (ks.length : Int)) + 2 : Int).toNat))),
     ⟨47, [(26, 40), (27, 41), (32, 46)], [27], [], [27], fun _ => .bool (hasS nameL (s.extract ((3 * (ks.length : Int) : Int).toNat) (((3 * (ks.length : Int)) + 2 : Int).toNat))), fun _ => True, fun _ => []⟩,
     ⟨48, [(26, 40), (33, 47)], [27], [], [27], fun _ => .bool (!(hasS nameL (s.extract ((3 * (ks.length : Int) : Int).toNat) (((3 * (ks.length : Int)) + 2 : Int).toNat)))), fun _ => True, fun _ => []⟩,
     ⟨49, [(26, 40), (34, 48)], [27], [], [27], fun _ => .bool (!(hasS nameL (s.extract ((3 * (ks.length : Int) : Int).toNat) (((3 * (ks.length : Int)) + 2 : Int).toNat)))), fun _ => True, fun _ => []⟩]) (by kernel_rfl) (by kernel_rfl) (POps.cons ?_ (POps.cons ?_ (POps.cons ?_ (POps.cons ?_ (POps.cons ?_ (POps.cons ?_ (POps.cons ?_ (POps.cons ?_ (POps.cons ?_ (POps.cons ?_ (POps.cons ?_ (POps.cons ?_ (POps.cons ?_ (POps.cons ?_ (POps.cons ?_ (POps.cons ?_ (POps.cons ?_ (POps.cons ?_ (POps.cons ?_ (POps.cons ?_ (POps.cons ?_ (POps.cons ?_ (POps.cons ?_ (POps.cons ?_ (POps.cons ?_ (POps.cons ?_ (POps.cons ?_ (POps.cons ?_ (POps.cons ?_ (POps.cons ?_ (POps.cons ?_ (POps.cons ?_ (POps.cons ?_ (POps.cons ?_ (POps.cons ?_ (POps.cons ?_ POps.nil)))))))))))))))))))))))))))))))))))) ?_
 exact fun θ R hd => Zq (OD.move rfl rfl) rfl rfl trivial rfl
 exact fun θ R ⟨h0d, _⟩ => Zq (OD.addI rfl rfl rfl (by omega)) rfl rfl trivial rfl
 exact fun θ R hd => Zq (OD.move rfl rfl) rfl rfl trivial rfl
 exact fun θ R ⟨h2d, _⟩ => Zq (OD.lenStr rfl rfl st9 rfl) rfl rfl trivial rfl
 exact fun θ R ⟨h1d, h3d, _⟩ => Opp.plain (OG.imp (OD.gtr rfl rfl rfl) (by rintro _ _ ⟨rfl, rfl⟩; exact ⟨[], congrArg Value.bool hg6, trivial, rfl⟩)) rfl
 exact fun θ R ⟨h4d, _⟩ => Zq (OD.move rfl rfl) rfl rfl trivial rfl
 exact fun θ R ⟨h5d, _⟩ => Zo (OD.move rfl rfl) rfl rfl rfl rfl trivial rfl
 exact fun θ R ⟨h5d, h6d, _⟩ => Zo (OD.addI rfl rfl rfl (by omega)) rfl rfl rfl rfl trivial rfl
 exact fun θ R ⟨h5d, _⟩ => Zo (OD.move rfl rfl) rfl rfl rfl rfl trivial rfl
 exact fun θ R ⟨h5d, h8d, _⟩ => Zo (OD.lenStr rfl rfl st9 rfl) rfl rfl rfl rfl trivial rfl
 exact fun θ R ⟨h5d, h7d, h9d, _⟩ => Opp.on (OG.imp (OD.lss rfl rfl rfl) (by rintro _ _ ⟨rfl, rfl⟩; exact ⟨[], congrArg Value.bool hg7, trivial, rfl⟩)) rfl rfl rfl
 exact fun θ R ⟨h5d, h10d, _⟩ => Zo (OD.move rfl rfl) rfl rfl rfl rfl trivial rfl
 exact fun θ R ⟨h11d, _⟩ => Zo (OD.move rfl rfl) rfl rfl rfl rfl trivial rfl
 exact fun θ R ⟨h11d, _⟩ => Zo (OD.move rfl rfl) rfl rfl rfl rfl trivial rfl
 exact fun θ R ⟨h11d, h13d, _⟩ => Zo (OD.addI rfl rfl rfl (by omega)) rfl rfl rfl rfl trivial rfl
 exact fun θ R ⟨h11d, h12d, h14d, _⟩ => Zo (OD.indexStr rfl st9 rfl rfl (by omega)) rfl rfl rfl rfl trivial rfl
 exact fun θ R ⟨h11d, h15d, _⟩ => Opp.on (OG.imp (OD.neq rfl rfl rfl) (by rintro _ _ ⟨rfl, rfl⟩; exact ⟨[], congrArg Value.bool hg8, trivial, rfl⟩)) rfl rfl rfl
 exact fun θ R ⟨h11d, h16d, _⟩ => Zo (OD.move rfl rfl) rfl rfl rfl rfl trivial rfl
 exact fun θ R ⟨h17d, _⟩ => Zo (OD.move rfl rfl) rfl rfl rfl rfl trivial rfl
 exact fun θ R ⟨h17d, h18d, _⟩ => Zo (OD.addI rfl rfl rfl (by omega)) rfl rfl rfl rfl trivial rfl
 exact fun θ R ⟨h17d, _⟩ => Zo (OD.move rfl rfl) rfl rfl rfl rfl trivial rfl
 exact fun θ R ⟨h17d, h20d, _⟩ => Zo (OD.lenStr rfl rfl st9 rfl) rfl rfl rfl rfl trivial rfl
 exact fun θ R ⟨h17d, h19d, h21d, _⟩ => Opp.on (OG.imp (OD.eql rfl rfl rfl) (by rintro _ _ ⟨rfl, rfl⟩; exact ⟨[], congrArg Value.bool hg9, trivial, rfl⟩)) rfl rfl rfl
 exact fun θ R ⟨h11d, h17d, h22d, _⟩ => Zo (OD.pickF rfl rfl rfl) rfl rfl rfl rfl trivial rfl
 exact fun θ R ⟨h5d, h11d, h23d, _⟩ => Zo (OD.pickT rfl rfl rfl) rfl rfl rfl rfl trivial rfl
 exact fun θ R ⟨h5d, h24d, _⟩ => Zq (OD.pickF rfl rfl rfl) rfl rfl trivial rfl
 exact fun θ R ⟨h25d, _⟩ => Zq (OD.move rfl rfl) rfl rfl trivial rfl
 exact fun θ R ⟨h26d, _⟩ => Opp.on (OG.imp (OG.call [] ent103 rfl rfl rfl rfl (by exact l5Names_w)) (by rintro v10 _ ⟨_, rfl, hs11, rfl⟩; exact ⟨[v10], rfl, hs11, rfl⟩)) rfl rfl rfl
 exact fun θ R ⟨h26d, _⟩ => Zo (OD.move rfl rfl) rfl rfl rfl rfl trivial rfl
 exact fun θ R ⟨h26d, _⟩ => Zo (OD.move rfl rfl) rfl rfl rfl rfl trivial rfl
 exact fun θ R ⟨h26d, _⟩ => Zo (OD.move rfl rfl) rfl rfl rfl rfl trivial rfl
 exact fun θ R ⟨h26d, h30d, _⟩ => Zo (OD.addI rfl rfl rfl (by omega)) rfl rfl rfl rfl trivial rfl
 exact fun θ R ⟨h26d, h28d, h29d, h31d, _⟩ => Zo (OD.sliceStr rfl st9 rfl rfl rfl (by omega)) rfl rfl rfl rfl trivial rfl
 exact fun θ R ⟨h26d, h27d, h32d, _⟩ => Zo (OG.call [((θ 27).getD 0 undef), .string (s.extract ((3 * (ks.length : Int) : Int).toNat) (((3 * (ks.length : Int)) + 2 : Int).toNat))] ent102 rfl rfl rfl rfl (by exact (l5Has_w h27d (Ent.strs (i := 0) rfl) (by decide)))) rfl rfl rfl rfl trivial rfl
 exact fun θ R ⟨h26d, h33d, _⟩ => Zo (OD.not rfl rfl) rfl rfl rfl rfl trivial rfl
 exact fun θ R ⟨h26d, h34d, _⟩ => Zq (OD.pickF rfl rfl rfl) rfl rfl trivial rfl
 intro θ hall
 obtain ⟨_, _, _, _, _, _, _, _, _, _, _, _, _, _, _, _, _, _, _, _, _, _, _, _, _, _, _, h27a, _, _, _, _, _, _, _, _, _⟩ := hall
 refine G.at [] 0 (env' := [(0, .string (s)), (2, .pointer (some ⟨g1, 0, none⟩)), (4, .pointer (some ⟨g4, 0, none⟩)), (5, .int .i64 (3 * (ks.length : Int))), (49, .bool (!(hasS nameL (s.extract ((3 * (ks.length : Int) : Int).toNat) (((3 * (ks.length : Int)) + 2 : Int).toNat)))))]) ⟨rfl,rfl,rfl,rfl,rfl,trivial⟩ (own' := strs 9 ((θ 27).getD 0 undef) nameL :: box g4 27 [.int .i64 (r), v] :: ints 3 v d :: box g1 27 [.int .i64 (0), .slice none 0 0] :: own) rfl ?_
 have hs12 : IsS ((θ 27).getD 0 undef) := h27a
 clear h27a
 generalize ((θ 27).getD 0 undef) = v13 at *
 show G _ _ _ [] _ _ _ _
 refine Zn (Zt ?_)
 refine GC.cond rfl (fun hc14 => ?_) (fun hc14 => ?_)
 replace hc14 := eq_false_of_not hc14
 obtain ⟨hp1, hp2, hp3⟩ := cF_none (hsc.bad (by omega) (by first | exact .inl (by omega) | exact .inr (.inl ⟨by omega, .inl (by assumption)⟩) | exact .inr (.inl ⟨by omega, .inr (by omega)⟩) | exact .inr (.inr (by assumption))))
 refine Zs (Zr ?_)
 refine G.stepD (OD.build (idx := []) (xs := []) (vs := []) (cs := []) (zs := [.int .i64 (0), .slice none 0 0]) (r := [.int .i64 (0), .slice none 0 0]) rfl ti27 rfl rfl rfl trivial rfl) rfl rfl rfl ?_
 refine G.stepD0 (OD.store rfl ti27 rfl rfl (us := [.int .i64 (0), .slice none 0 0]) rfl rfl rfl (i := 3) rfl rfl) rfl rfl ?_
 refine Za rfl rfl rfl rfl rfl ?_
 refine Zn (Zt (GC.ret (GE.passR (GE.blockR (GE.passR (GE.passR (GE.blockR (GE.passR ?_))))))))
 refine GE.nilInts 3 ?_
 exact GE.body [0] 4 (resN rfl (RVs.cons (rv_cells ti27 rfl (i := 4) rfl rfl) (RVs.cons (rv_tmp rfl) RVs.nil)) rfl) rfl (⟨(.slice none 0 0), congr (congrArg (fun (a0 : Int) (a2 : Bool) => (.tuple #[.agg #[.int .i64 (a0), (.slice none 0 0)], .bool (a2)] : Value)) ((hp1.symm : (0 : Int) = cR s))) ((hp3.symm : (false : Bool) = (cF s).isSome)), IsS.nil, congrArg (fun (l0 : List Int) => ints 3 (.slice none 0 0) l0 :: own) ((hp2.symm : [] = cD s))⟩)
 replace hc14 := eq_true_of_not hc14
 obtain ⟨k, hk⟩ := hasS_some hc14
 obtain ⟨hk12, hse⟩ := nameNo_some hk
 have hrk := rk_bd k hk12
 have hol := oneD_len k hk12
 have hgood : ¬ badP s (3 * (ks.length : Int)) := by rintro (h1 | ⟨h1, h2 | h2⟩ | h1) <;> first | omega | contradiction | (rw [hc14] at h1; cases h1)
 have hr4 := hsc.2.1
 have hml := matOf_len ks
 have hol2 : ((oneD k).length : Int) = (rk k : Int) * (rk k : Int) := by rw [hol]; exact Int.natCast_mul _ _
 refine Zk (Zt (Zs ?_))
 refine GC.at [] 0 (env' := [(0, .string (s)), (2, .pointer (some ⟨g1, 0, none⟩)), (4, .pointer (some ⟨g4, 0, none⟩)), (5, .int .i64 (3 * (ks.length : Int)))]) ⟨rfl,rfl,rfl,rfl,trivial⟩ rfl ?_
 refine GC.par (its := [Z0 51 (.agg #[.int .i64 (r), v]),
     Z0 52 (.string (s)),
     Z0 53 (.int .i64 (3 * (ks.length : Int))),
     Z0 54 (.int .i64 (3 * (ks.length : Int))),
     Z1 55 [(3, 54)] (.int .i64 ((3 * (ks.length : Int)) + 2)),
     Z1 56 [(1, 52), (2, 53), (4, 55)] (.string (s.extract ((3 * (ks.length : Int) : Int).toNat) (((3 * (ks.length : Int)) + 2 : Int).toNat))),
     ⟨57, [(5, 56)], [], [], [6], fun ds => .agg #[.int .i64 ((rk k : Int)), ((ds.getD 0 []).getD 0 undef)], fun ds => IsS ((ds.getD 0 []).getD 0 undef), fun ds => [ints 3 ((ds.getD 0 []).getD 0 undef) (oneD k)]⟩,
     ⟨58, [(0, 51), (6, 57)], [6], [], [6, 7], fun ds => .agg #[.int .i64 (r + (rk k : Int)), ((ds.getD 1 []).getD 0 undef)], fun ds => IsS ((ds.getD 1 []).getD 0 undef), fun ds => [ints 3 ((ds.getD 1 []).getD 0 undef) (sumD r d (rk k : Int) (oneD k))]⟩]) (by kernel_rfl) (by kernel_rfl) (POps.cons ?_ (POps.cons ?_ (POps.cons ?_ (POps.cons ?_ (POps.cons ?_ (POps.cons ?_ (POps.cons ?_ (POps.cons ?_ POps.nil)))))))) ?_
 exact fun θ R hd => Zq (OD.loadAgg rfl ti27 rfl (i := 1) rfl (us := [.int .i64 (r), v]) rfl rfl) rfl rfl trivial rfl
 exact fun θ R hd => Zq (OD.move rfl rfl) rfl rfl trivial rfl
 exact fun θ R hd => Zq (OD.move rfl rfl) rfl rfl trivial rfl
 exact fun θ R hd => Zq (OD.move rfl rfl) rfl rfl trivial rfl
 exact fun θ R ⟨h3d, _⟩ => Zq (OD.addI rfl rfl rfl (by omega)) rfl rfl trivial rfl
 exact fun θ R ⟨h1d, h2d, h4d, _⟩ => Zq (OD.sliceStr rfl st9 rfl rfl rfl (by omega)) rfl rfl trivial rfl
 exact fun θ R ⟨h5d, _⟩ => Opp.plain (OG.imp (OG.call [.string (s.extract ((3 * (ks.length : Int) : Int).toNat) (((3 * (ks.length : Int)) + 2 : Int).toNat))] ent105 rfl rfl rfl rfl (by exact (l5One_w (k := k) (hk12) (hse)))) (by rintro _ _ ⟨v15, rfl, hs16, rfl⟩; exact ⟨[v15], rfl, hs16, rfl⟩)) rfl
 exact fun θ R ⟨h0d, h6d, _⟩ => Opp.plain (OG.imp (OG.call [.agg #[.int .i64 (r), v], .agg #[.int .i64 ((rk k : Int)), ((θ 6).getD 0 undef)]] ent104 rfl rfl rfl rfl (by exact (l5Sum_w hv (Ent.ints (i := 3) rfl) h6d (Ent.ints (i := 0) rfl) (⟨by omega, by omega, by rw [hd, hr]; exact hml⟩) (⟨by omega, by omega, hol2⟩)))) (by rintro _ _ ⟨v17, rfl, hs18, rfl⟩; exact ⟨[v17], rfl, hs18, rfl⟩)) rfl
 intro θ hall
 obtain ⟨_, _, _, _, _, _, h6a, h7a, _⟩ := hall
 refine G.at [] 0 (env' := [(0, .string (s)), (2, .pointer (some ⟨g1, 0, none⟩)), (4, .pointer (some ⟨g4, 0, none⟩)), (5, .int .i64 (3 * (ks.length : Int))), (58, .agg #[.int .i64 (r + (rk k : Int)), ((θ 7).getD 0 undef)])]) ⟨rfl,rfl,rfl,rfl,rfl,trivial⟩ (own' := ints 3 ((θ 6).getD 0 undef) (oneD k) :: ints 3 ((θ 7).getD 0 undef) (sumD r d (rk k : Int) (oneD k)) :: strs 9 v13 nameL :: box g4 27 [.int .i64 (r), v] :: ints 3 v d :: box g1 27 [.int .i64 (0), .slice none 0 0] :: own) rfl ?_
 have hs19 : IsS ((θ 6).getD 0 undef) := h6a
 clear h6a
 generalize ((θ 6).getD 0 undef) = v20 at *
 have hs21 : IsS ((θ 7).getD 0 undef) := h7a
 clear h7a
 generalize ((θ 7).getD 0 undef) = v22 at *
 show G _ _ _ [_] _ _ _ _
 refine G.stepD0 (OD.store rfl ti27 rfl rfl (us := [.int .i64 (r + (rk k : Int)), v22]) rfl rfl (allC rfl (allC (IsS.one hs21) rfl)) (i := 3) rfl rfl) rfl rfl ?_
 refine Zn (Zt (Zs (Zr ?_)))
 refine G.stepD (OD.fieldAddr rfl rfl fa27_0) rfl rfl rfl ?_
 refine G.stepD (OD.load rfl ti3 rfl (i := 3) rfl rfl) rfl rfl rfl ?_
 refine G.stepD (OD.gtr rfl rfl rfl) rfl rfl rfl ?_
 refine Zn (Zt ?_)
 refine GC.cond rfl (fun hc23 => ?_) (fun hc23 => ?_)
 replace hc23 := of_decide_eq_true hc23
 obtain ⟨hp1, hp2, hp3⟩ := cF_none (hsc.big (by omega) hgood hk (by rw [rkS_snoc]; omega))
 refine Zs (Zr ?_)
 refine G.stepD (OD.build (idx := []) (xs := []) (vs := []) (cs := []) (zs := [.int .i64 (0), .slice none 0 0]) (r := [.int .i64 (0), .slice none 0 0]) rfl ti27 rfl rfl rfl trivial rfl) rfl rfl rfl ?_
 refine G.stepD0 (OD.store rfl ti27 rfl rfl (us := [.int .i64 (0), .slice none 0 0]) rfl rfl rfl (i := 5) rfl rfl) rfl rfl ?_
 refine Za rfl rfl rfl rfl rfl ?_
 refine Zn (Zt (GC.ret (GE.blockR (GE.passR (GE.passR (GE.blockR (GE.passR ?_)))))))
 refine GE.nilInts 3 ?_
 exact GE.body [0] 6 (resN rfl (RVs.cons (rv_cells ti27 rfl (i := 6) rfl rfl) (RVs.cons (rv_tmp rfl) RVs.nil)) rfl) rfl (⟨(.slice none 0 0), congr (congrArg (fun (a0 : Int) (a2 : Bool) => (.tuple #[.agg #[.int .i64 (a0), (.slice none 0 0)], .bool (a2)] : Value)) ((hp1.symm : (0 : Int) = cR s))) ((hp3.symm : (false : Bool) = (cF s).isSome)), IsS.nil, congrArg (fun (l0 : List Int) => ints 3 (.slice none 0 0) l0 :: own) ((hp2.symm : [] = cD s))⟩)
 replace hc23 := of_decide_eq_false hc23
 refine Zk (GE.blockN (Zt (Zr ?_)))
 refine Zm rfl rfl rfl rfl rfl ?_
 refine G.stepD (OD.addI rfl rfl rfl (by omega)) rfl rfl rfl ?_
 refine Za rfl rfl rfl rfl rfl ?_
 refine Zn ?_
 exact GE.again (ks ++ [k], r + (rk k : Int), sumD r d (rk k : Int) (oneD k), v22) (⟨hsc.next (by omega) hgood hk (by rw [rkS_snoc]; omega), by rw [hr, rkS_snoc]; simp, by rw [matOf_snoc, hd, hr]; simp only [matStep, matOf_fst], hs21⟩) (by simp; omega) ⟨rfl, rfl, rfl, int_eq (by simp; omega), trivial⟩ [3, 1, 3] 3 rfl
 have hg7p := hg7
 replace hg7p := of_decide_eq_false hg7p
 refine GC.at [] 0 (env' := [(0, .string (s)), (2, .pointer (some ⟨g1, 0, none⟩)), (4, .pointer (some ⟨g4, 0, none⟩)), (5, .int .i64 (3 * (ks.length : Int)))]) ⟨rfl,rfl,rfl,rfl,trivial⟩ rfl ?_
 refine GC.par (its := [Z0 14 (.int .i64 (3 * (ks.length : Int))),
     Z1 15 [(0, 14)] (.int .i64 ((3 * (ks.length : Int)) + 2)),
     Z0 16 (.string (s)),
     Z1 17 [(2, 16)] (.int .i64 ((s.size : Nat))),
     Z1 18 [(1, 15), (3, 17)] (.bool false),
     Z1 19 [(4, 18)] (.bool false),
     Z1 20 [(5, 19)] (.int .i64 (3 * (ks.length : Int))),
     Z1 21 [(5, 19), (6, 20)] (.int .i64 ((3 * (ks.length : Int)) + 2)),
     Z1 22 [(5, 19)] (.string (s)),
     Z1 23 [(5, 19), (8, 22)] (.int .i64 ((s.size : Nat))),
     Z1 24 [(5, 19), (7, 21), (9, 23)] (.bool false),
     Z1 25 [(5, 19), (10, 24)] (.bool false),
     Z1 26 [(11, 25)] undef,
     Z1 27 [(11, 25)] undef,
     Z1 28 [(11, 25), (13, 27)] undef,
     Z1 29 [(11, 25), (12, 26), (14, 28)] undef,
     Z1 30 [(11, 25), (15, 29)] undef,
     Z1 31 [(11, 25), (16, 30)] undef,
     Z1 32 [(17, 31)] undef,
     Z1 33 [(17, 31), (18, 32)] undef,
     Z1 34 [(17, 31)] undef,
     Z1 35 [(17, 31), (20, 34)] undef,
     Z1 36 [(17, 31), (19, 33), (21, 35)] undef,
     Z1 37 [(11, 25), (17, 31), (22, 36)] undef,
     Z1 38 [(5, 19), (11, 25), (23, 37)] (.bool false),
     Z1 39 [(5, 19), (24, 38)] (.bool false),
     Z1 40 [(25, 39)] (.bool false),
     ⟨41, [(26, 40)], [], [], [27], fun ds => ((ds.getD 0 []).getD 0 undef), fun ds => IsS ((ds.getD 0 []).getD 0 undef), fun ds => [strs 9 ((ds.getD 0 []).getD 0 undef) nameL]⟩,
     Z1 42 [(26, 40)] (.string (s)),
     Z1 43 [(26, 40)] (.int .i64 (3 * (ks.length : Int))),
     Z1 44 [(26, 40)] (.int .i64 (3 * (ks.length : Int))),
     Z1 45 [(26, 40), (30, 44)] (.int .i64 ((3 * (ks.length : Int)) + 2)),
     Z1 46 [(26, 40), (28, 42), (29, 43), (31, 45)] (.string (s.extract ((3 * (ks.length : Int) : Int).toNat) (((3 * (ks.length : Int)) + 2 : Int).toNat))),
     ⟨47, [(26, 40), (27, 41), (32, 46)], [27], [], [27], fun _ => .bool (hasS nameL (s.extract ((3 * (ks.length : Int) : Int).toNat) (((3 * (ks.length : Int)) + 2 : Int).toNat))), fun _ => True, fun _ => []⟩,
     ⟨48, [(26, 40), (33, 47)], [27], [], [27], fun _ => .bool (!(hasS nameL (s.extract ((3 * (ks.length : Int) : Int).toNat) (((3 * (ks.length : Int)) + 2 : Int).toNat)))), fun _ => True, fun _ => []⟩,
     ⟨49, [(26, 40), (34, 48)], [27], [], [27], fun _ => .bool (!(hasS nameL (s.extract ((3 * (ks.length : Int) : Int).toNat) (((3 * (ks.length : Int)) + 2 : Int).toNat)))), fun _ => True, fun _ => []⟩]) (by kernel_rfl) (by kernel_rfl) (POps.cons ?_ (POps.cons ?_ (POps.cons ?_ (POps.cons ?_ (POps.cons ?_ (POps.cons ?_ (POps.cons ?_ (POps.cons ?_ (POps.cons ?_ (POps.cons ?_ (POps.cons ?_ (POps.cons ?_ (POps.cons ?_ (POps.cons ?_ (POps.cons ?_ (POps.cons ?_ (POps.cons ?_ (POps.cons ?_ (POps.cons ?_ (POps.cons ?_ (POps.cons ?_ (POps.cons ?_ (POps.cons ?_ (POps.cons ?_ (POps.cons ?_ (POps.cons ?_ (POps.cons ?_ (POps.cons ?_ (POps.cons ?_ (POps.cons ?_ (POps.cons ?_ (POps.cons ?_ (POps.cons ?_ (POps.cons ?_ (POps.cons ?_ (POps.cons ?_ POps.nil)))))))))))))))))))))))))))))))))))) ?_
 exact fun θ R hd => Zq (OD.move rfl rfl) rfl rfl trivial rfl
 exact fun θ R ⟨h0d, _⟩ => Zq (OD.addI rfl rfl rfl (by omega)) rfl rfl trivial rfl
 exact fun θ R hd => Zq (OD.move rfl rfl) rfl rfl trivial rfl
 exact fun θ R ⟨h2d, _⟩ => Zq (OD.lenStr rfl rfl st9 rfl) rfl rfl trivial rfl
 exact fun θ R ⟨h1d, h3d, _⟩ => Opp.plain (OG.imp (OD.gtr rfl rfl rfl) (by rintro _ _ ⟨rfl, rfl⟩; exact ⟨[], congrArg Value.bool hg6, trivial, rfl⟩)) rfl
 exact fun θ R ⟨h4d, _⟩ => Zq (OD.move rfl rfl) rfl rfl trivial rfl
 exact fun θ R ⟨h5d, _⟩ => Zo (OD.move rfl rfl) rfl rfl rfl rfl trivial rfl
 exact fun θ R ⟨h5d, h6d, _⟩ => Zo (OD.addI rfl rfl rfl (by omega)) rfl rfl rfl rfl trivial rfl
 exact fun θ R ⟨h5d, _⟩ => Zo (OD.move rfl rfl) rfl rfl rfl rfl trivial rfl
 exact fun θ R ⟨h5d, h8d, _⟩ => Zo (OD.lenStr rfl rfl st9 rfl) rfl rfl rfl rfl trivial rfl
 exact fun θ R ⟨h5d, h7d, h9d, _⟩ => Opp.on (OG.imp (OD.lss rfl rfl rfl) (by rintro _ _ ⟨rfl, rfl⟩; exact ⟨[], congrArg Value.bool hg7, trivial, rfl⟩)) rfl rfl rfl
 exact fun θ R ⟨h5d, h10d, _⟩ => Zo (OD.move rfl rfl) rfl rfl rfl rfl trivial rfl
 exact fun θ R ⟨h11d, _⟩ => Opp.off ⟨[], rfl, trivial, rfl⟩ rfl rfl rfl rfl
 exact fun θ R ⟨h11d, _⟩ => Opp.off ⟨[], rfl, trivial, rfl⟩ rfl rfl rfl rfl
 exact fun θ R ⟨h11d, h13d, _⟩ => Opp.off ⟨[], rfl, trivial, rfl⟩ rfl rfl rfl rfl
 exact fun θ R ⟨h11d, h12d, h14d, _⟩ => Opp.off ⟨[], rfl, trivial, rfl⟩ rfl rfl rfl rfl
 exact fun θ R ⟨h11d, h15d, _⟩ => Opp.off ⟨[], rfl, trivial, rfl⟩ rfl rfl rfl rfl
 exact fun θ R ⟨h11d, h16d, _⟩ => Opp.off ⟨[], rfl, trivial, rfl⟩ rfl rfl rfl rfl
 exact fun θ R ⟨h17d, _⟩ => Opp.offU ⟨[], rfl, trivial, rfl⟩ rfl rfl rfl
 exact fun θ R ⟨h17d, h18d, _⟩ => Opp.offU ⟨[], rfl, trivial, rfl⟩ rfl rfl rfl
 exact fun θ R ⟨h17d, _⟩ => Opp.offU ⟨[], rfl, trivial, rfl⟩ rfl rfl rfl
 exact fun θ R ⟨h17d, h20d, _⟩ => Opp.offU ⟨[], rfl, trivial, rfl⟩ rfl rfl rfl
 exact fun θ R ⟨h17d, h19d, h21d, _⟩ => Opp.offU ⟨[], rfl, trivial, rfl⟩ rfl rfl rfl
 exact fun θ R ⟨h11d, h17d, h22d, _⟩ => Opp.off ⟨[], rfl, trivial, rfl⟩ rfl rfl rfl rfl
 exact fun θ R ⟨h5d, h11d, h23d, _⟩ => Zo (OD.pickF rfl rfl rfl) rfl rfl rfl rfl trivial rfl
 exact fun θ R ⟨h5d, h24d, _⟩ => Zq (OD.pickF rfl rfl rfl) rfl rfl trivial rfl
 exact fun θ R ⟨h25d, _⟩ => Zq (OD.move rfl rfl) rfl rfl trivial rfl
 exact fun θ R ⟨h26d, _⟩ => Opp.on (OG.imp (OG.call [] ent103 rfl rfl rfl rfl (by exact l5Names_w)) (by rintro v24 _ ⟨_, rfl, hs25, rfl⟩; exact ⟨[v24], rfl, hs25, rfl⟩)) rfl rfl rfl
 exact fun θ R ⟨h26d, _⟩ => Zo (OD.move rfl rfl) rfl rfl rfl rfl trivial rfl
 exact fun θ R ⟨h26d, _⟩ => Zo (OD.move rfl rfl) rfl rfl rfl rfl trivial rfl
 exact fun θ R ⟨h26d, _⟩ => Zo (OD.move rfl rfl) rfl rfl rfl rfl trivial rfl
 exact fun θ R ⟨h26d, h30d, _⟩ => Zo (OD.addI rfl rfl rfl (by omega)) rfl rfl rfl rfl trivial rfl
 exact fun θ R ⟨h26d, h28d, h29d, h31d, _⟩ => Zo (OD.sliceStr rfl st9 rfl rfl rfl (by omega)) rfl rfl rfl rfl trivial rfl
 exact fun θ R ⟨h26d, h27d, h32d, _⟩ => Zo (OG.call [((θ 27).getD 0 undef), .string (s.extract ((3 * (ks.length : Int) : Int).toNat) (((3 * (ks.length : Int)) + 2 : Int).toNat))] ent102 rfl rfl rfl rfl (by exact (l5Has_w h27d (Ent.strs (i := 0) rfl) (by decide)))) rfl rfl rfl rfl trivial rfl
 exact fun θ R ⟨h26d, h33d, _⟩ => Zo (OD.not rfl rfl) rfl rfl rfl rfl trivial rfl
 exact fun θ R ⟨h26d, h34d, _⟩ => Zq (OD.pickF rfl rfl rfl) rfl rfl trivial rfl
 intro θ hall
 obtain ⟨_, _, _, _, _, _, _, _, _, _, _, _, _, _, _, _, _, _, _, _, _, _, _, _, _, _, _, h27a, _, _, _, _, _, _, _, _, _⟩ := hall
 refine G.at [] 0 (env' := [(0, .string (s)), (2, .pointer (some ⟨g1, 0, none⟩)), (4, .pointer (some ⟨g4, 0, none⟩)), (5, .int .i64 (3 * (ks.length : Int))), (49, .bool (!(hasS nameL (s.extract ((3 * (ks.length : Int) : Int).toNat) (((3 * (ks.length : Int)) + 2 : Int).toNat)))))]) ⟨rfl,rfl,rfl,rfl,rfl,trivial⟩ (own' := strs 9 ((θ 27).getD 0 undef) nameL :: box g4 27 [.int .i64 (r), v] :: ints 3 v d :: box g1 27 [.int .i64 (0), .slice none 0 0] :: own) rfl ?_
 have hs26 : IsS ((θ 27).getD 0 undef) := h27a
 clear h27a
 generalize ((θ 27).getD 0 undef) = v27 at *
 show G _ _ _ [] _ _ _ _
 refine Zn (Zt ?_)
 refine GC.cond rfl (fun hc28 => ?_) (fun hc28 => ?_)
 replace hc28 := eq_false_of_not hc28
 obtain ⟨hp1, hp2, hp3⟩ := cF_none (hsc.bad (by omega) (by first | exact .inl (by omega) | exact .inr (.inl ⟨by omega, .inl (by assumption)⟩) | exact .inr (.inl ⟨by omega, .inr (by omega)⟩) | exact .inr (.inr (by assumption))))
 refine Zs (Zr ?_)
 refine G.stepD (OD.build (idx := []) (xs := []) (vs := []) (cs := []) (zs := [.int .i64 (0), .slice none 0 0]) (r := [.int .i64 (0), .slice none 0 0]) rfl ti27 rfl rfl rfl trivial rfl) rfl rfl rfl ?_
 refine G.stepD0 (OD.store rfl ti27 rfl rfl (us := [.int .i64 (0), .slice none 0 0]) rfl rfl rfl (i := 3) rfl rfl) rfl rfl ?_
 refine Za rfl rfl rfl rfl rfl ?_
 refine Zn (Zt (GC.ret (GE.passR (GE.blockR (GE.passR (GE.passR (GE.blockR (GE.passR ?_))))))))
 refine GE.nilInts 3 ?_
 exact GE.body [0] 4 (resN rfl (RVs.cons (rv_cells ti27 rfl (i := 4) rfl rfl) (RVs.cons (rv_tmp rfl) RVs.nil)) rfl) rfl (⟨(.slice none 0 0), congr (congrArg (fun (a0 : Int) (a2 : Bool) => (.tuple #[.agg #[.int .i64 (a0), (.slice none 0 0)], .bool (a2)] : Value)) ((hp1.symm : (0 : Int) = cR s))) ((hp3.symm : (false : Bool) = (cF s).isSome)), IsS.nil, congrArg (fun (l0 : List Int) => ints 3 (.slice none 0 0) l0 :: own) ((hp2.symm : [] = cD s))⟩)
 replace hc28 := eq_true_of_not hc28
 obtain ⟨k, hk⟩ := hasS_some hc28
 obtain ⟨hk12, hse⟩ := nameNo_some hk
 have hrk := rk_bd k hk12
 have hol := oneD_len k hk12
 have hgood : ¬ badP s (3 * (ks.length : Int)) := by rintro (h1 | ⟨h1, h2 | h2⟩ | h1) <;> first | omega | contradiction | (rw [hc28] at h1; cases h1)
 have hr4 := hsc.2.1
 have hml := matOf_len ks
 have hol2 : ((oneD k).length : Int) = (rk k : Int) * (rk k : Int) := by rw [hol]; exact Int.natCast_mul _ _
 refine Zk (Zt (Zs ?_))
 refine GC.at [] 0 (env' := [(0, .string (s)), (2, .pointer (some ⟨g1, 0, none⟩)), (4, .pointer (some ⟨g4, 0, none⟩)), (5, .int .i64 (3 * (ks.length : Int)))]) ⟨rfl,rfl,rfl,rfl,trivial⟩ rfl ?_
 refine GC.par (its := [Z0 51 (.agg #[.int .i64 (r), v]),
     Z0 52 (.string (s)),
     Z0 53 (.int .i64 (3 * (ks.length : Int))),
     Z0 54 (.int .i64 (3 * (ks.length : Int))),
     Z1 55 [(3, 54)] (.int .i64 ((3 * (ks.length : Int)) + 2)),
     Z1 56 [(1, 52), (2, 53), (4, 55)] (.string (s.extract ((3 * (ks.length : Int) : Int).toNat) (((3 * (ks.length : Int)) + 2 : Int).toNat))),
     ⟨57, [(5, 56)], [], [], [6], fun ds => .agg #[.int .i64 ((rk k : Int)), ((ds.getD 0 []).getD 0 undef)], fun ds => IsS ((ds.getD 0 []).getD 0 undef), fun ds => [ints 3 ((ds.getD 0 []).getD 0 undef) (oneD k)]⟩,
     ⟨58, [(0, 51), (6, 57)], [6], [], [6, 7], fun ds => .agg #[.int .i64 (r + (rk k : Int)), ((ds.getD 1 []).getD 0 undef)], fun ds => IsS ((ds.getD 1 []).getD 0 undef), fun ds => [ints 3 ((ds.getD 1 []).getD 0 undef) (sumD r d (rk k : Int) (oneD k))]⟩]) (by kernel_rfl) (by kernel_rfl) (POps.cons ?_ (POps.cons ?_ (POps.cons ?_ (POps.cons ?_ (POps.cons ?_ (POps.cons ?_ (POps.cons ?_ (POps.cons ?_ POps.nil)))))))) ?_
 exact fun θ R hd => Zq (OD.loadAgg rfl ti27 rfl (i := 1) rfl (us := [.int .i64 (r), v]) rfl rfl) rfl rfl trivial rfl
 exact fun θ R hd => Zq (OD.move rfl rfl) rfl rfl trivial rfl
 exact fun θ R hd => Zq (OD.move rfl rfl) rfl rfl trivial rfl
 exact fun θ R hd => Zq (OD.move rfl rfl) rfl rfl trivial rfl
 exact fun θ R ⟨h3d, _⟩ => Zq (OD.addI rfl rfl rfl (by omega)) rfl rfl trivial rfl
 exact fun θ R ⟨h1d, h2d, h4d, _⟩ => Zq (OD.sliceStr rfl st9 rfl rfl rfl (by omega)) rfl rfl trivial rfl
 exact fun θ R ⟨h5d, _⟩ => Opp.plain (OG.imp (OG.call [.string (s.extract ((3 * (ks.length : Int) : Int).toNat) (((3 * (ks.length : Int)) + 2 : Int).toNat))] ent105 rfl rfl rfl rfl (by exact (l5One_w (k := k) (hk12) (hse)))) (by rintro _ _ ⟨v29, rfl, hs30, rfl⟩; exact ⟨[v29], rfl, hs30, rfl⟩)) rfl
 exact fun θ R ⟨h0d, h6d, _⟩ => Opp.plain (OG.imp (OG.call [.agg #[.int .i64 (r), v], .agg #[.int .i64 ((rk k : Int)), ((θ 6).getD 0 undef)]] ent104 rfl rfl rfl rfl (by exact (l5Sum_w hv (Ent.ints (i := 3) rfl) h6d (Ent.ints (i := 0) rfl) (⟨by omega, by omega, by rw [hd, hr]; exact hml⟩) (⟨by omega, by omega, hol2⟩)))) (by rintro _ _ ⟨v31, rfl, hs32, rfl⟩; exact ⟨[v31], rfl, hs32, rfl⟩)) rfl
 intro θ hall
 obtain ⟨_, _, _, _, _, _, h6a, h7a, _⟩ := hall
 refine G.at [] 0 (env' := [(0, .string (s)), (2, .pointer (some ⟨g1, 0, none⟩)), (4, .pointer (some ⟨g4, 0, none⟩)), (5, .int .i64 (3 * (ks.length : Int))), (58, .agg #[.int .i64 (r + (rk k : Int)), ((θ 7).getD 0 undef)])]) ⟨rfl,rfl,rfl,rfl,rfl,trivial⟩ (own' := ints 3 ((θ 6).getD 0 undef) (oneD k) :: ints 3 ((θ 7).getD 0 undef) (sumD r d (rk k : Int) (oneD k)) :: strs 9 v27 nameL :: box g4 27 [.int .i64 (r), v] :: ints 3 v d :: box g1 27 [.int .i64 (0), .slice none 0 0] :: own) rfl ?_
 have hs33 : IsS ((θ 6).getD 0 undef) := h6a
 clear h6a
 generalize ((θ 6).getD 0 undef) = v34 at *
 have hs35 : IsS ((θ 7).getD 0 undef) := h7a
 clear h7a
 generalize ((θ 7).getD 0 undef) = v36 at *
 show G _ _ _ [_] _ _ _ _
 refine G.stepD0 (OD.store rfl ti27 rfl rfl (us := [.int .i64 (r + (rk k : Int)), v36]) rfl rfl (allC rfl (allC (IsS.one hs35) rfl)) (i := 3) rfl rfl) rfl rfl ?_
 refine Zn (Zt (Zs (Zr ?_)))
 refine G.stepD (OD.fieldAddr rfl rfl fa27_0) rfl rfl rfl ?_
 refine G.stepD (OD.load rfl ti3 rfl (i := 3) rfl rfl) rfl rfl rfl ?_
 refine G.stepD (OD.gtr rfl rfl rfl) rfl rfl rfl ?_
 refine Zn (Zt ?_)
 refine GC.cond rfl (fun hc37 => ?_) (fun hc37 => ?_)
 replace hc37 := of_decide_eq_true hc37
 obtain ⟨hp1, hp2, hp3⟩ := cF_none (hsc.big (by omega) hgood hk (by rw [rkS_snoc]; omega))
 refine Zs (Zr ?_)
 refine G.stepD (OD.build (idx := []) (xs := []) (vs := []) (cs := []) (zs := [.int .i64 (0), .slice none 0 0]) (r := [.int .i64 (0), .slice none 0 0]) rfl ti27 rfl rfl rfl trivial rfl) rfl rfl rfl ?_
 refine G.stepD0 (OD.store rfl ti27 rfl rfl (us := [.int .i64 (0), .slice none 0 0]) rfl rfl rfl (i := 5) rfl rfl) rfl rfl ?_
 refine Za rfl rfl rfl rfl rfl ?_
 refine Zn (Zt (GC.ret (GE.blockR (GE.passR (GE.passR (GE.blockR (GE.passR ?_)))))))
 refine GE.nilInts 3 ?_
 exact GE.body [0] 6 (resN rfl (RVs.cons (rv_cells ti27 rfl (i := 6) rfl rfl) (RVs.cons (rv_tmp rfl) RVs.nil)) rfl) rfl (⟨(.slice none 0 0), congr (congrArg (fun (a0 : Int) (a2 : Bool) => (.tuple #[.agg #[.int .i64 (a0), (.slice none 0 0)], .bool (a2)] : Value)) ((hp1.symm : (0 : Int) = cR s))) ((hp3.symm : (false : Bool) = (cF s).isSome)), IsS.nil, congrArg (fun (l0 : List Int) => ints 3 (.slice none 0 0) l0 :: own) ((hp2.symm : [] = cD s))⟩)
 replace hc37 := of_decide_eq_false hc37
 refine Zk (GE.blockN (Zt (Zr ?_)))
 refine Zm rfl rfl rfl rfl rfl ?_
 refine G.stepD (OD.addI rfl rfl rfl (by omega)) rfl rfl rfl ?_
 refine Za rfl rfl rfl rfl rfl ?_
 refine Zn ?_
 exact GE.again (ks ++ [k], r + (rk k : Int), sumD r d (rk k : Int) (oneD k), v36) (⟨hsc.next (by omega) hgood hk (by rw [rkS_snoc]; omega), by rw [hr, rkS_snoc]; simp, by rw [matOf_snoc, hd, hr]; simp only [matStep, matOf_fst], hs35⟩) (by simp; omega) ⟨rfl, rfl, rfl, int_eq (by simp; omega), trivial⟩ [3, 1, 3] 3 rfl
 replace hc5 := of_decide_eq_false hc5
 have hst := hsc.stop (by omega)
 refine GC.exit (Zp (Zp (GE.hit (Zt (Zs (Zs (Zr ?_)))))))
 refine G.stepD (OD.fieldAddr rfl rfl fa27_0) rfl rfl rfl ?_
 refine G.stepD (OD.load rfl ti3 rfl (i := 0) rfl rfl) rfl rfl rfl ?_
 refine G.stepD (OD.eql rfl rfl rfl) rfl rfl rfl ?_
 refine Zn (Zt ?_)
 refine GC.cond rfl (fun hc38 => ?_) (fun hc38 => ?_)
 replace hc38 := eq_of_beq hc38
 obtain ⟨hp1, hp2, hp3⟩ := cF_none (hst.trans (if_pos (by omega)))
 refine Zs (Zr ?_)
 refine G.stepD (OD.build (idx := []) (xs := []) (vs := []) (cs := []) (zs := [.int .i64 (0), .slice none 0 0]) (r := [.int .i64 (0), .slice none 0 0]) rfl ti27 rfl rfl rfl trivial rfl) rfl rfl rfl ?_
 refine G.stepD0 (OD.store rfl ti27 rfl rfl (us := [.int .i64 (0), .slice none 0 0]) rfl rfl rfl (i := 2) rfl rfl) rfl rfl ?_
 refine Za rfl rfl rfl rfl rfl ?_
 refine Zn (Zt (GC.ret (GE.passR ?_)))
 refine GE.nilInts 3 ?_
 exact GE.body [0] 3 (resN rfl (RVs.cons (rv_cells ti27 rfl (i := 3) rfl rfl) (RVs.cons (rv_tmp rfl) RVs.nil)) rfl) rfl (⟨(.slice none 0 0), congr (congrArg (fun (a0 : Int) (a2 : Bool) => (.tuple #[.agg #[.int .i64 (a0), (.slice none 0 0)], .bool (a2)] : Value)) ((hp1.symm : (0 : Int) = cR s))) ((hp3.symm : (false : Bool) = (cF s).isSome)), IsS.nil, congrArg (fun (l0 : List Int) => ints 3 (.slice none 0 0) l0 :: own) ((hp2.symm : [] = cD s))⟩)
 replace hc38 := ne_of_beq_false hc38
 obtain ⟨hp1, hp2, hp3⟩ := cF_some (hst.trans (if_neg (by omega)))
 refine Zk (Zt (Zs (Zr ?_)))
 refine G.stepD (OD.loadAgg rfl ti27 rfl (i := 0) rfl (us := [.int .i64 (r), v]) rfl rfl) rfl rfl rfl ?_
 refine G.stepD0 (OD.store rfl ti27 rfl rfl (us := [.int .i64 (r), v]) rfl rfl (allC rfl (allC (IsS.one hv) rfl)) (i := 2) rfl rfl) rfl rfl ?_
 refine Za rfl rfl rfl rfl rfl ?_
 refine Zn (Zt (GC.ret ?_))
 exact GE.body [1] 2 (resN rfl (RVs.cons (rv_cells ti27 rfl (i := 2) rfl rfl) (RVs.cons (rv_tmp rfl) RVs.nil)) rfl) rfl (⟨v, congr (congrArg (fun (a0 : Int) (a2 : Bool) => (.tuple #[.agg #[.int .i64 (a0), v], .bool (a2)] : Value)) ((hr.trans hp1.symm : (r : Int) = cR s))) ((hp3.symm : (true : Bool) = (cF s).isSome)), hv, congrArg (fun (l0 : List Int) => ints 3 v l0 :: own) ((hd.trans hp2.symm : d = cD s))⟩)
set_option maxHeartbeats 4000000 in
set_option maxRecDepth 100000 in
theorem cartanOf_w {W : World} {own : List Asn} {s : ByteArray}   (hg : Ent own fun w => ∃ m, w.cell? ⟨Tryz.l146_ren.g 1, 0, none⟩ = some (.int .i64 m)) (hs : s.size ≤ 1048576) : Spec Tryz.prog 157 [.string (s)] W own (fun v ow => ∃ (r1 : Value), v = .tuple #[.agg #[.int .i64 (cR s), r1], .bool ((cF s).isSome)] ∧ IsS r1 ∧ ow = ints 3 r1 (cD s) :: own) := by
 have hps := plusSplit_le s
 refine Spec.enter Tryz.f157 _ Tryz.func157 rfl (n := 42) rfl rfl ?_
 refine Zs (Zr ?_)
 refine G.step (OG.alloc rfl ti27 (zs := [.int .i64 (0), .slice none 0 0]) rfl) rfl rfl rfl ?_
 rintro _ _ ⟨g1, rfl, rfl⟩
 refine Za rfl rfl rfl rfl rfl ?_
 refine Zn (Zt (Zs (Zr ?_)))
 refine Zm rfl rfl rfl rfl rfl ?_
 refine G.step (OG.call [.string (s), .string (⟨#[43]⟩)] ent184 rfl rfl rfl rfl (by exact (split_w _ ((Ent.drop 1 hg)) (by omega)))) rfl rfl rfl ?_
 rintro v2 _ ⟨_, rfl, hs3, rfl⟩
 refine Za rfl rfl rfl rfl rfl ?_
 refine Zn (Zt (Zs (Zr ?_)))
 refine G.step (OG.buildRws0 rfl et179) rfl rfl rfl ?_
 rintro v4 _ ⟨hs5, rfl⟩
 refine Za rfl rfl rfl rfl rfl ?_
 refine Zn (Zt (Zs (Zr ?_)))
 refine Za rfl rfl rfl rfl rfl ?_
 refine Zn (Zt (Zs (Zs (Zr ?_))))
 refine Zm rfl rfl rfl rfl rfl ?_
 refine G.stepD (OD.len rfl rfl et113 rfl (Ent.strs (i := 1) rfl)) rfl rfl rfl ?_
 refine Zm rfl rfl rfl rfl rfl ?_
 refine Zn (Zt (GC.block ?_))
 refine GC.many0 (ints 3) ?_
 refine GC.loop (ι := Nat × List Nat × List Value × Value × Int) (fun ⟨i, ks, vs, bv, r⟩ => [(2, .pointer (some ⟨g1, 0, none⟩)), (14, v2), (15, .int .i64 (((plusSplit s).length : Nat))), (5, bv), (6, .int .i64 (r)), (16, .int .i64 ((i : Int)))]) (fun ⟨i, ks, vs, bv, r⟩ => many (ints 3) vs (ks.map oneD) :: rws 27 2 bv (rowC ks vs) :: strs 9 v2 (plusSplit s) :: box g1 27 [.int .i64 (0), .slice none 0 0] :: own) (fun ⟨i, ks, vs, bv, r⟩ => (i ≤ (plusSplit s).length) ∧ (Cut s i ks) ∧ (ks.length = i) ∧ (vs.length = ks.length) ∧ (AllS vs) ∧ (IsS bv) ∧ (r = (rkS ks : Nat))) (fun ⟨i, ks, vs, bv, r⟩ => (plusSplit s).length - i) (0, [], [], v4, 0) (⟨by omega, rfl, rfl, rfl, AllS.nil, hs5, rfl⟩) ⟨rfl,rfl,rfl,rfl,rfl,rfl,trivial⟩ [] 0 rfl ?_
 rintro ⟨i, ks, vs, bv, r⟩ ⟨hi, hc, hki, hlen, hall, hbv, hr⟩
 refine Zs (Zr ?_)
 refine G.stepD (OD.lss rfl rfl rfl) rfl rfl rfl ?_
 refine Zn (Zt (Zs ?_))
 refine GC.cond rfl (fun hc6 => ?_) (fun hc6 => ?_)
 replace hc6 := of_decide_eq_true hc6
 have hle4 := rkS_le hc.lt
 refine Zk (Zt (Zs (GC.block (Zs (Zr ?_)))))
 refine G.stepD (OD.indexAddr rfl et113 rfl (Ent.strs (i := 2) rfl) rfl (by omega)) rfl rfl rfl ?_
 refine G.stepD (OD.loadStr rfl ti9 rfl (Ent.strs (i := 2) rfl) (by omega)) rfl rfl rfl ?_
 refine Za rfl rfl rfl rfl rfl ?_
 refine Zn (Zt (Zs (Zr ?_)))
 refine Zm rfl rfl rfl rfl rfl ?_
 refine G.step (OG.call [.string ((plusSplit s).getD (i) ⟨#[]⟩)] ent185 rfl rfl rfl rfl (by exact partCartan_w)) rfl rfl rfl ?_
 rintro _ _ ⟨v7, rfl, hs8, rfl⟩
 refine Zm rfl rfl rfl rfl rfl ?_
 refine G.stepD (OD.extract rfl rfl rfl) rfl rfl rfl ?_
 refine G.stepD (OD.extract rfl rfl rfl) rfl rfl rfl ?_
 refine G.step (OG.alloc rfl ti27 (zs := [.int .i64 (0), .slice none 0 0]) rfl) rfl rfl rfl ?_
 rintro _ _ ⟨g9, rfl, rfl⟩
 refine G.stepD0 (OD.store rfl ti27 rfl rfl (us := [.int .i64 (partR ((plusSplit s).getD (i) ⟨#[]⟩)), v7]) rfl rfl (allC rfl (allC (IsS.one hs8) rfl)) (i := 0) rfl rfl) rfl rfl ?_
 refine Za rfl rfl rfl rfl rfl ?_
 refine Zn (Zt (Zs (Zs (Zr ?_))))
 refine Zm rfl rfl rfl rfl rfl ?_
 refine G.stepD (OD.not rfl rfl) rfl rfl rfl ?_
 refine Zn (Zt ?_)
 refine GC.cond rfl (fun hc10 => ?_) (fun hc10 => ?_)
 replace hc10 := eq_false_of_not hc10
 obtain ⟨hp1, hp2, hp3⟩ := cF_none (hc.bad (by omega) (none_of hc10))
 refine Zs (Zr ?_)
 refine G.stepD (OD.build (idx := []) (xs := []) (vs := []) (cs := []) (zs := [.int .i64 (0), .slice none 0 0]) (r := [.int .i64 (0), .slice none 0 0]) rfl ti27 rfl rfl rfl trivial rfl) rfl rfl rfl ?_
 refine G.stepD0 (OD.store rfl ti27 rfl rfl (us := [.int .i64 (0), .slice none 0 0]) rfl rfl rfl (i := 5) rfl rfl) rfl rfl ?_
 refine Za rfl rfl rfl rfl rfl ?_
 refine Zn (Zt (GC.ret (GE.passR (GE.blockR (GE.passR (GE.passR (GE.blockR (GE.passR ?_))))))))
 refine GE.nilInts 3 ?_
 exact GE.body [0] 6 (resN rfl (RVs.cons (rv_cells ti27 rfl (i := 6) rfl rfl) (RVs.cons (rv_tmp rfl) RVs.nil)) rfl) rfl (⟨(.slice none 0 0), congr (congrArg (fun (a0 : Int) (a2 : Bool) => (.tuple #[.agg #[.int .i64 (a0), (.slice none 0 0)], .bool (a2)] : Value)) ((hp1.symm : (0 : Int) = cR s))) ((hp3.symm : (false : Bool) = (cF s).isSome)), IsS.nil, congrArg (fun (l0 : List Int) => ints 3 (.slice none 0 0) l0 :: own) ((hp2.symm : [] = cD s))⟩)
 replace hc10 := eq_true_of_not hc10
 obtain ⟨k, hk⟩ := some_of hc10
 obtain ⟨hk12, hse⟩ := nameNo_some hk
 have hrk := rk_bd k hk12
 have hpR : partR ((plusSplit s).getD (i) ⟨#[]⟩) = (rk k : Nat) := by simp only [partR, hk]
 have hpD : partD ((plusSplit s).getD (i) ⟨#[]⟩) = oneD k := by simp only [partD, hk]
 have hrl := rowC_len hlen
 refine Zk (Zt (Zs (Zr ?_)))
 refine Zm rfl rfl rfl rfl rfl ?_
 refine G.stepD (OD.fieldAddr rfl rfl fa27_0) rfl rfl rfl ?_
 refine G.stepD (OD.load rfl ti3 rfl (i := 0) rfl rfl) rfl rfl rfl ?_
 refine G.stepD (OD.addI rfl rfl rfl (by omega)) rfl rfl rfl ?_
 refine Za rfl rfl rfl rfl rfl ?_
 refine Zn (Zt (Zr ?_))
 refine Zm rfl rfl rfl rfl rfl ?_
 refine G.stepD (OD.loadAgg rfl ti27 rfl (i := 0) rfl (us := [.int .i64 (partR ((plusSplit s).getD (i) ⟨#[]⟩)), v7]) rfl rfl) rfl rfl rfl ?_
 refine G.step (OG.buildRws rfl et179 (us := [.int .i64 (partR ((plusSplit s).getD (i) ⟨#[]⟩)), v7]) rfl rfl rfl rfl) rfl rfl rfl ?_
 rintro v11 _ ⟨hs12, rfl⟩
 refine G.step (OG.appendRws 4 rfl rfl et179 rfl rfl rfl (Ent.rws (i := 0) rfl) (allC rfl (allC (IsS.one hs8) rfl)) (by simp [maxLen] <;> omega)) rfl rfl rfl ?_
 rintro v13 _ ⟨hs14, rfl⟩
 refine Za rfl rfl rfl rfl rfl ?_
 refine Zn (GE.blockN (Zt (Zr ?_)))
 refine G.stepD (OD.addI rfl rfl rfl (by omega)) rfl rfl rfl ?_
 refine Zm rfl rfl rfl rfl rfl ?_
 refine Zn ?_
 refine GE.at [2, 2, 2, 1, 1, 1] 1 (env' := [(2, .pointer (some ⟨g1, 0, none⟩)), (14, v2), (15, .int .i64 (((plusSplit s).length : Nat))), (17, .bool (decide ((i : Int) < ((plusSplit s).length : Nat)))), (18, elemPtr v2 1 (i)), (19, .string ((plusSplit s).getD (i) ⟨#[]⟩)), (8, .string ((plusSplit s).getD (i) ⟨#[]⟩)), (21, .string ((plusSplit s).getD (i) ⟨#[]⟩)), (22, .tuple #[.agg #[.int .i64 (partR ((plusSplit s).getD (i) ⟨#[]⟩)), v7], .bool ((nameNo ((plusSplit s).getD (i) ⟨#[]⟩)).isSome)]), (20, .tuple #[.agg #[.int .i64 (partR ((plusSplit s).getD (i) ⟨#[]⟩)), v7], .bool ((nameNo ((plusSplit s).getD (i) ⟨#[]⟩)).isSome)]), (23, .agg #[.int .i64 (partR ((plusSplit s).getD (i) ⟨#[]⟩)), v7]), (24, .bool ((nameNo ((plusSplit s).getD (i) ⟨#[]⟩)).isSome)), (9, .pointer (some ⟨g9, 0, none⟩)), (10, .bool ((nameNo ((plusSplit s).getD (i) ⟨#[]⟩)).isSome)), (25, .bool ((nameNo ((plusSplit s).getD (i) ⟨#[]⟩)).isSome)), (26, .bool (!((nameNo ((plusSplit s).getD (i) ⟨#[]⟩)).isSome))), (28, .int .i64 (r)), (29, .pointer (some ⟨g9, 0, none⟩)), (30, .int .i64 (partR ((plusSplit s).getD (i) ⟨#[]⟩))), (31, .int .i64 (r + (partR ((plusSplit s).getD (i) ⟨#[]⟩)))), (6, .int .i64 (r + (partR ((plusSplit s).getD (i) ⟨#[]⟩)))), (32, bv), (33, .agg #[.int .i64 (partR ((plusSplit s).getD (i) ⟨#[]⟩)), v7]), (34, v11), (35, v13), (5, v13), (36, .int .i64 ((i : Int) + 1)), (16, .int .i64 ((i : Int) + 1))]) ⟨rfl,rfl,rfl,rfl,rfl,rfl,rfl,rfl,rfl,rfl,rfl,rfl,rfl,rfl,rfl,rfl,rfl,rfl,rfl,rfl,rfl,rfl,rfl,rfl,rfl,rfl,rfl,rfl,trivial⟩ (own' := ints 3 v7 (partD ((plusSplit s).getD (i) ⟨#[]⟩)) :: many (ints 3) vs (ks.map oneD) :: rws 27 2 v13 ((rowC ks vs) ++ [[.int .i64 (partR ((plusSplit s).getD (i) ⟨#[]⟩)), v7]]) :: box g9 27 [.int .i64 (partR ((plusSplit s).getD (i) ⟨#[]⟩)), v7] :: strs 9 v2 (plusSplit s) :: box g1 27 [.int .i64 (0), .slice none 0 0] :: own) rfl ?_
 refine GE.manyPush (by simp [hlen]) ?_
 refine GE.ownEq (own' := many (ints 3) (vs ++ [v7]) ((ks ++ [k]).map oneD) :: rws 27 2 v13 (rowC (ks ++ [k]) (vs ++ [v7])) :: box g9 27 [.int .i64 (partR ((plusSplit s).getD (i) ⟨#[]⟩)), v7] :: strs 9 v2 (plusSplit s) :: box g1 27 [.int .i64 (0), .slice none 0 0] :: own) (by rw [rowC_snoc hlen hpR, hpD, List.map_append]; rfl) ?_
 exact GE.again (i + 1, ks ++ [k], vs ++ [v7], v13, r + (partR ((plusSplit s).getD (i) ⟨#[]⟩))) (⟨by omega, hc.next (by omega) hk, by simp [hki], by simp [hlen], hall.snoc hs8, hs14, by rw [rkS_snoc, hr, hpR]; simp⟩) (by first | omega | (dsimp only; omega)) ⟨rfl,rfl,rfl,rfl,rfl,rfl,trivial⟩ [0, 0, 1, 1] 1 rfl
 replace hc6 := of_decide_eq_false hc6
 have hst := hc.stop (by omega)
 refine GC.exit (Zp (Zp (GE.hit (Zt (Zs (Zs (Zr ?_)))))))
 refine Zm rfl rfl rfl rfl rfl ?_
 refine G.stepD (OD.gtr rfl rfl rfl) rfl rfl rfl ?_
 refine Zn (Zt ?_)
 refine GC.cond rfl (fun hc15 => ?_) (fun hc15 => ?_)
 replace hc15 := of_decide_eq_true hc15
 obtain ⟨hp1, hp2, hp3⟩ := cF_none (hst.trans (if_pos (by omega)))
 refine Zs (Zr ?_)
 refine G.stepD (OD.build (idx := []) (xs := []) (vs := []) (cs := []) (zs := [.int .i64 (0), .slice none 0 0]) (r := [.int .i64 (0), .slice none 0 0]) rfl ti27 rfl rfl rfl trivial rfl) rfl rfl rfl ?_
 refine G.stepD0 (OD.store rfl ti27 rfl rfl (us := [.int .i64 (0), .slice none 0 0]) rfl rfl rfl (i := 3) rfl rfl) rfl rfl ?_
 refine Za rfl rfl rfl rfl rfl ?_
 refine Zn (Zt (GC.ret (GE.passR ?_)))
 refine GE.nilInts 3 ?_
 exact GE.body [0] 4 (resN rfl (RVs.cons (rv_cells ti27 rfl (i := 4) rfl rfl) (RVs.cons (rv_tmp rfl) RVs.nil)) rfl) rfl (⟨(.slice none 0 0), congr (congrArg (fun (a0 : Int) (a2 : Bool) => (.tuple #[.agg #[.int .i64 (a0), (.slice none 0 0)], .bool (a2)] : Value)) ((hp1.symm : (0 : Int) = cR s))) ((hp3.symm : (false : Bool) = (cF s).isSome)), IsS.nil, congrArg (fun (l0 : List Int) => ints 3 (.slice none 0 0) l0 :: own) ((hp2.symm : [] = cD s))⟩)
 replace hc15 := of_decide_eq_false hc15
 obtain ⟨hp1, hp2, hp3⟩ := cF_some (hst.trans (if_neg (by omega)))
 have h12 := hc.lt
 have hr4 : rkS ks ≤ 4 := by omega
 have hjm := joinD_mat h12 hr4
 have hge := rkS_ge h12
 refine Zk (Zt (Zs (Zr ?_)))
 refine Zm rfl rfl rfl rfl rfl ?_
 refine G.step (OG.call [bv] ent186 rfl rfl rfl rfl (by exact (joined_w hbv (Ent.rws (i := 1) rfl) (fun k hk => by have h := Ent.manyInts (own := many (ints 3) vs (ks.map oneD) :: rws 27 2 bv (rowC ks vs) :: strs 9 v2 (plusSplit s) :: box g1 27 [.int .i64 (0), .slice none 0 0] :: own) (i := 0) (k := k) rfl ⟨by omega, by simpa using hk⟩; simpa [List.getD, hk] using h) hlen hall (h12) (hr4) (by omega)))) rfl rfl rfl ?_
 rintro _ _ ⟨v16, rfl, hs17, rfl⟩
 refine G.stepD0 (OD.store rfl ti27 rfl rfl (us := [.int .i64 ((rkS ks : Nat)), v16]) rfl rfl (allC rfl (allC (IsS.one hs17) rfl)) (i := 4) rfl rfl) rfl rfl ?_
 refine Za rfl rfl rfl rfl rfl ?_
 refine Zn (Zt (GC.ret ?_))
 exact GE.body [0] 4 (resN rfl (RVs.cons (rv_cells ti27 rfl (i := 4) rfl rfl) (RVs.cons (rv_tmp rfl) RVs.nil)) rfl) rfl (⟨v16, congr (congrArg (fun (a0 : Int) (a2 : Bool) => (.tuple #[.agg #[.int .i64 (a0), v16], .bool (a2)] : Value)) ((hp1.symm : ((rkS ks : Nat) : Int) = cR s))) ((hp3.symm : (true : Bool) = (cF s).isSome)), hs17, congrArg (fun (l0 : List Int) => ints 3 v16 l0 :: own) ((hjm.trans hp2.symm : joinD ks = cD s))⟩)
end Go.Proofs.YtbmnnbglipkidaaGreatDoor
namespace Go.Proofs.YtbmnnbglipkidaaGreatDoor
set_option linter.unusedVariables false
set_option linter.unusedSimpArgs false
open Go.RowKit
set_option maxHeartbeats 4000000 in
set_option maxRecDepth 100000 in
theorem l1Same_s {W : World} {own : List Asn} {vx : Value} {x : List Int} {vy : Value} {y : List Int}  (sx : IsS vx) (ex : Ent own fun w => Ints w vx x)   (sy : IsS vy) (ey : Ent own fun w => Ints w vy y)  (hl : x.length ≤ 9223372036854775807) : Spec Tryz.prog 126 [vx, vy] W own (fun v ow => v = .bool (samB x y) ∧ ow = own) := by
 refine Spec.enter Tryz.f126 _ Tryz.func126 rfl (n := 26) rfl rfl ?_
 refine Zs (Zr ?_)
 refine Za rfl rfl rfl rfl rfl ?_
 refine Zn (Zt (Zs (Zs (Zr ?_))))
 refine Zm rfl rfl rfl rfl rfl ?_
 refine G.stepD (OD.len rfl rfl et22 rfl ex) rfl rfl rfl ?_
 refine Zm rfl rfl rfl rfl rfl ?_
 refine G.stepD (OD.len rfl rfl et22 rfl ey) rfl rfl rfl ?_
 refine G.stepD (OD.neq rfl rfl rfl) rfl rfl rfl ?_
 refine Zn (Zt ?_)
 refine GC.cond rfl (fun hc1 => ?_) (fun hc1 => ?_)
 replace hc1 := ne_of_bne hc1
 refine Zs (Zr ?_)
 refine Za rfl rfl rfl rfl rfl ?_
 refine Zn (Zt (GC.ret (GE.passR ?_)))
 exact GE.body [] 0 (res1 rfl rfl) rfl (⟨congrArg (fun (a0 : Bool) => (.bool (a0) : Value)) (((samB_not fun h => (by assumption : (x.length : Int) ≠ y.length) (by rw [h])).symm : (false : Bool) = samB x y)), rfl⟩)
 replace hc1 := eq_of_bne_false hc1
 refine Zk (Zt (Zs (Zs (Zr ?_))))
 refine Za rfl rfl rfl rfl rfl ?_
 refine Zn (Zt (GC.block ?_))
 refine GC.loop (ι := Nat) (fun k => [(0, vx), (1, vy), (5, .int .i64 ((k : Int)))]) (fun k => own) (fun k => (k ≤ x.length) ∧ (x.take k = y.take k)) (fun k => x.length - k) 0 (⟨by omega, rfl⟩) ⟨rfl,rfl,rfl,trivial⟩ [] 0 rfl ?_
 rintro k ⟨hk, ht⟩
 refine Zs (Zs (Zr ?_))
 refine Zm rfl rfl rfl rfl rfl ?_
 refine Zm rfl rfl rfl rfl rfl ?_
 refine G.stepD (OD.len rfl rfl et22 rfl ex) rfl rfl rfl ?_
 refine G.stepD (OD.lss rfl rfl rfl) rfl rfl rfl ?_
 refine Zn (Zt ?_)
 refine GC.cond rfl (fun hc2 => ?_) (fun hc2 => ?_)
 replace hc2 := of_decide_eq_true hc2
 refine Zk (Zt (Zs (GC.block (Zs ?_))))
 refine GC.at [] 0 (env' := [(0, vx), (1, vy), (5, .int .i64 ((k : Int)))]) ⟨rfl,rfl,rfl,trivial⟩ rfl ?_
 refine GC.par (its := [Z0 17 vx,
     Z0 18 (.int .i64 ((k : Int))),
     Z1 19 [(0, 17), (1, 18)] (elemPtr vx 1 (k)),
     Z1 20 [(2, 19)] (.int .i64 (x.getD (k) 0)),
     Z0 21 vy,
     Z0 22 (.int .i64 ((k : Int))),
     Z1 23 [(4, 21), (5, 22)] (elemPtr vy 1 (k)),
     Z1 24 [(6, 23)] (.int .i64 (y.getD (k) 0)),
     Z1 25 [(3, 20), (7, 24)] (.bool ((x.getD (k) 0) != (y.getD (k) 0)))]) (by kernel_rfl) (by kernel_rfl) (POps.cons ?_ (POps.cons ?_ (POps.cons ?_ (POps.cons ?_ (POps.cons ?_ (POps.cons ?_ (POps.cons ?_ (POps.cons ?_ (POps.cons ?_ POps.nil))))))))) ?_
 exact fun θ R hd => Zq (OD.move rfl rfl) rfl rfl trivial rfl
 exact fun θ R hd => Zq (OD.move rfl rfl) rfl rfl trivial rfl
 exact fun θ R ⟨h0d, h1d, _⟩ => Zq (OD.indexAddr rfl et22 rfl (ex.app) rfl (by omega)) rfl rfl trivial rfl
 exact fun θ R ⟨h2d, _⟩ => Zq (OD.loadInt rfl ti3 rfl (ex.app) (by omega)) rfl rfl trivial rfl
 exact fun θ R hd => Zq (OD.move rfl rfl) rfl rfl trivial rfl
 exact fun θ R hd => Zq (OD.move rfl rfl) rfl rfl trivial rfl
 exact fun θ R ⟨h4d, h5d, _⟩ => Zq (OD.indexAddr rfl et22 rfl (ey.app) rfl (by omega)) rfl rfl trivial rfl
 exact fun θ R ⟨h6d, _⟩ => Zq (OD.loadInt rfl ti3 rfl (ey.app) (by omega)) rfl rfl trivial rfl
 exact fun θ R ⟨h3d, h7d, _⟩ => Zq (OD.neq rfl rfl rfl) rfl rfl trivial rfl
 intro θ hall
 obtain ⟨_, _, _, _, _, _, _, _, _, _⟩ := hall
 refine G.at [] 0 (env' := [(0, vx), (1, vy), (5, .int .i64 ((k : Int))), (25, .bool ((x.getD (k) 0) != (y.getD (k) 0)))]) ⟨rfl,rfl,rfl,rfl,trivial⟩ (own' := own) rfl ?_
 show G _ _ _ [] _ _ _ _
 refine Zn (Zt ?_)
 refine GC.cond rfl (fun hc3 => ?_) (fun hc3 => ?_)
 replace hc3 := ne_of_bne hc3
 refine Zs (Zr ?_)
 refine Za rfl rfl rfl rfl rfl ?_
 refine Zn (Zt (GC.ret (GE.blockR (GE.passR (GE.passR (GE.blockR (GE.passR ?_)))))))
 exact GE.body [] 0 (res1 rfl rfl) rfl (⟨congrArg (fun (a0 : Bool) => (.bool (a0) : Value)) (((samB_not (ne_getD (by assumption))).symm : (false : Bool) = samB x y)), rfl⟩)
 replace hc3 := eq_of_bne_false hc3
 refine Zk (GE.blockN (Zt (Zr ?_)))
 refine Zm rfl rfl rfl rfl rfl ?_
 refine G.stepD (OD.addI rfl rfl rfl (by omega)) rfl rfl rfl ?_
 refine Za rfl rfl rfl rfl rfl ?_
 refine Zn ?_
 exact GE.again (k + 1) (⟨by omega, take_eqD ht (by omega) (by omega) (by assumption)⟩) (by first | omega | (dsimp only; omega)) ⟨rfl,rfl,rfl,trivial⟩ [] 0 rfl
 replace hc2 := of_decide_eq_false hc2
 refine GC.exit (Zp (Zp (GE.hit (Zt (Zs (Zr ?_))))))
 refine Za rfl rfl rfl rfl rfl ?_
 refine Zn (Zt (GC.ret ?_))
 exact GE.body [] 0 (res1 rfl rfl) rfl (⟨congrArg (fun (a0 : Bool) => (.bool (a0) : Value)) (((samB_of (eq_takeD ht (by omega) (by omega))).symm : (true : Bool) = samB x y)), rfl⟩)
set_option maxHeartbeats 4000000 in
set_option maxRecDepth 100000 in
theorem slicesEqual_s {W : World} {own : List Asn} {vx : Value} {x : List Int} {vy : Value} {y : List Int}  (sx : IsS vx) (ex : Ent own fun w => Ints w vx x)   (sy : IsS vy) (ey : Ent own fun w => Ints w vy y)  (hl : x.length ≤ 9223372036854775807) : Spec Tryz.prog 53 [vx, vy] W own (fun v ow => v = .bool (samB x y) ∧ ow = own) := by
 refine Spec.enter Tryz.f53 _ Tryz.func53 rfl (n := 26) rfl rfl ?_
 refine Zs (Zr ?_)
 refine Za rfl rfl rfl rfl rfl ?_
 refine Zn (Zt (Zs (Zs (Zr ?_))))
 refine Zm rfl rfl rfl rfl rfl ?_
 refine G.stepD (OD.len rfl rfl et22 rfl ex) rfl rfl rfl ?_
 refine Zm rfl rfl rfl rfl rfl ?_
 refine G.stepD (OD.len rfl rfl et22 rfl ey) rfl rfl rfl ?_
 refine G.stepD (OD.neq rfl rfl rfl) rfl rfl rfl ?_
 refine Zn (Zt ?_)
 refine GC.cond rfl (fun hc1 => ?_) (fun hc1 => ?_)
 replace hc1 := ne_of_bne hc1
 refine Zs (Zr ?_)
 refine Za rfl rfl rfl rfl rfl ?_
 refine Zn (Zt (GC.ret (GE.passR ?_)))
 exact GE.body [] 0 (res1 rfl rfl) rfl (⟨congrArg (fun (a0 : Bool) => (.bool (a0) : Value)) (((samB_not fun h => (by assumption : (x.length : Int) ≠ y.length) (by rw [h])).symm : (false : Bool) = samB x y)), rfl⟩)
 replace hc1 := eq_of_bne_false hc1
 refine Zk (Zt (Zs (Zs (Zr ?_))))
 refine Zm rfl rfl rfl rfl rfl ?_
 refine G.stepD (OD.len rfl rfl et22 rfl ex) rfl rfl rfl ?_
 refine Zm rfl rfl rfl rfl rfl ?_
 refine Zn (Zt (GC.block ?_))
 refine GC.loop (ι := Nat) (fun k => [(0, vx), (1, vy), (12, .int .i64 ((x.length : Nat))), (13, .int .i64 ((k : Int)))]) (fun k => own) (fun k => (k ≤ x.length) ∧ (x.take k = y.take k)) (fun k => x.length - k) 0 (⟨by omega, rfl⟩) ⟨rfl,rfl,rfl,rfl,trivial⟩ [] 0 rfl ?_
 rintro k ⟨hk, ht⟩
 refine Zs (Zr ?_)
 refine G.stepD (OD.lss rfl rfl rfl) rfl rfl rfl ?_
 refine Zn (Zt (Zs ?_))
 refine GC.cond rfl (fun hc2 => ?_) (fun hc2 => ?_)
 replace hc2 := of_decide_eq_true hc2
 refine Zk (Zt (Zs (GC.block (Zs (Zr ?_)))))
 refine Zm rfl rfl rfl rfl rfl ?_
 refine Za rfl rfl rfl rfl rfl ?_
 refine Zn (Zt (Zs ?_))
 refine GC.at [] 0 (env' := [(0, vx), (1, vy), (12, .int .i64 ((x.length : Nat))), (13, .int .i64 ((k : Int))), (5, .int .i64 ((k : Int)))]) ⟨rfl,rfl,rfl,rfl,rfl,trivial⟩ rfl ?_
 refine GC.par (its := [Z0 16 vx,
     Z0 17 (.int .i64 ((k : Int))),
     Z1 18 [(0, 16), (1, 17)] (elemPtr vx 1 (k)),
     Z1 19 [(2, 18)] (.int .i64 (x.getD (k) 0)),
     Z0 20 vy,
     Z0 21 (.int .i64 ((k : Int))),
     Z1 22 [(4, 20), (5, 21)] (elemPtr vy 1 (k)),
     Z1 23 [(6, 22)] (.int .i64 (y.getD (k) 0)),
     Z1 24 [(3, 19), (7, 23)] (.bool ((x.getD (k) 0) != (y.getD (k) 0)))]) (by kernel_rfl) (by kernel_rfl) (POps.cons ?_ (POps.cons ?_ (POps.cons ?_ (POps.cons ?_ (POps.cons ?_ (POps.cons ?_ (POps.cons ?_ (POps.cons ?_ (POps.cons ?_ POps.nil))))))))) ?_
 exact fun θ R hd => Zq (OD.move rfl rfl) rfl rfl trivial rfl
 exact fun θ R hd => Zq (OD.move rfl rfl) rfl rfl trivial rfl
 exact fun θ R ⟨h0d, h1d, _⟩ => Zq (OD.indexAddr rfl et22 rfl (ex.app) rfl (by omega)) rfl rfl trivial rfl
 exact fun θ R ⟨h2d, _⟩ => Zq (OD.loadInt rfl ti3 rfl (ex.app) (by omega)) rfl rfl trivial rfl
 exact fun θ R hd => Zq (OD.move rfl rfl) rfl rfl trivial rfl
 exact fun θ R hd => Zq (OD.move rfl rfl) rfl rfl trivial rfl
 exact fun θ R ⟨h4d, h5d, _⟩ => Zq (OD.indexAddr rfl et22 rfl (ey.app) rfl (by omega)) rfl rfl trivial rfl
 exact fun θ R ⟨h6d, _⟩ => Zq (OD.loadInt rfl ti3 rfl (ey.app) (by omega)) rfl rfl trivial rfl
 exact fun θ R ⟨h3d, h7d, _⟩ => Zq (OD.neq rfl rfl rfl) rfl rfl trivial rfl
 intro θ hall
 obtain ⟨_, _, _, _, _, _, _, _, _, _⟩ := hall
 refine G.at [] 0 (env' := [(0, vx), (1, vy), (12, .int .i64 ((x.length : Nat))), (13, .int .i64 ((k : Int))), (24, .bool ((x.getD (k) 0) != (y.getD (k) 0)))]) ⟨rfl,rfl,rfl,rfl,rfl,trivial⟩ (own' := own) rfl ?_
 show G _ _ _ [] _ _ _ _
 refine Zn (Zt ?_)
 refine GC.cond rfl (fun hc3 => ?_) (fun hc3 => ?_)
 replace hc3 := ne_of_bne hc3
 refine Zs (Zr ?_)
 refine Za rfl rfl rfl rfl rfl ?_
 refine Zn (Zt (GC.ret (GE.blockR (GE.passR (GE.passR (GE.blockR (GE.passR ?_)))))))
 exact GE.body [] 0 (res1 rfl rfl) rfl (⟨congrArg (fun (a0 : Bool) => (.bool (a0) : Value)) (((samB_not (ne_getD (by assumption))).symm : (false : Bool) = samB x y)), rfl⟩)
 replace hc3 := eq_of_bne_false hc3
 refine Zk (GE.blockN (Zt (Zr ?_)))
 refine G.stepD (OD.addI rfl rfl rfl (by omega)) rfl rfl rfl ?_
 refine Zm rfl rfl rfl rfl rfl ?_
 refine Zn ?_
 exact GE.again (k + 1) (⟨by omega, take_eqD ht (by omega) (by omega) (by assumption)⟩) (by first | omega | (dsimp only; omega)) ⟨rfl,rfl,rfl,rfl,trivial⟩ [] 0 rfl
 replace hc2 := of_decide_eq_false hc2
 refine GC.exit (Zp (Zp (GE.hit (Zt (Zs (Zr ?_))))))
 refine Za rfl rfl rfl rfl rfl ?_
 refine Zn (Zt (GC.ret ?_))
 exact GE.body [] 0 (res1 rfl rfl) rfl (⟨congrArg (fun (a0 : Bool) => (.bool (a0) : Value)) (((samB_of (eq_takeD ht (by omega) (by omega))).symm : (true : Bool) = samB x y)), rfl⟩)
end Go.Proofs.YtbmnnbglipkidaaGreatDoor
namespace Go.Proofs.YtbmnnbglipkidaaGreatDoor
set_option linter.unusedVariables false
set_option linter.unusedSimpArgs false
open Go.RowKit
end Go.Proofs.YtbmnnbglipkidaaGreatDoor
