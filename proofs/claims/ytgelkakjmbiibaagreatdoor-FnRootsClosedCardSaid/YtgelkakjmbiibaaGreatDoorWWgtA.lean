/-
  Weights of a matrix: contracts by walks.
-/
import Derived.Test.YtgelkakjmbiibaaGreatDoorFct
import Derived.Test.YtgelkakjmbiibaaGreatDoorWTofA
import Derived.Test.YtgelkakjmbiibaaGreatDoorZ06
namespace Go.Proofs.YtgelkakjmbiibaaGreatDoor
set_option linter.unusedVariables false
set_option linter.unusedSimpArgs false
open Go.RowKit
set_option maxRecDepth 100000 in
theorem isWeightF_w {W : World} {own : List Asn} {y : Int}    : Spec Tryz.prog 137 [.int .i64 (y)] W own (fun v ow => v = .bool (!(inB y (-1000) 1000)) ∧ ow = own) := by
 refine Spec.enter Tryz.f137 _ Tryz.func137 rfl (n := 6) rfl rfl ?_
 refine GC.seq (GC.region ?_)
 refine G.stepD (OD.assign rfl rfl) rfl rfl rfl ?_
 refine G.nil (GE.then_ (GC.seq (GC.region ?_)))
 refine G.stepD (OD.move rfl rfl) rfl rfl rfl ?_
 refine G.step (OG.call [.int .i64 (y), .int .i64 (-1000), .int .i64 (1000)] ent103 rfl rfl rfl rfl (by exact inside_w)) rfl rfl rfl ?_
 rintro _ _ ⟨rfl, hzz⟩; obtain rfl := hzz.symm
 refine G.stepD (OD.not rfl rfl) rfl rfl rfl ?_
 refine G.stepD (OD.assign rfl rfl) rfl rfl rfl ?_
 refine G.nil (GE.then_ (GC.ret ?_))
 exact GE.body [] 0 (res1 rfl rfl) rfl (⟨rfl, rfl⟩)
set_option maxRecDepth 100000 in
theorem indexFuncL_w {W : World} {own : List Asn} {vx : Value} {x : List Int}  (sx : IsS vx) (ex : Ent own fun w => Ints w vx x)   (hl : x.length ≤ 9223372036854775807) : Spec Tryz.prog 89 [vx, .func (.func 137) #[] #[]] W own (fun v ow => v = .int .i64 (posF (fun (y : Int) => !(inB y (-1000) 1000)) x) ∧ ow = own) := by
 refine Spec.enter Tryz.f89 _ Tryz.func89 rfl (n := 19) rfl rfl ?_
 refine GC.seq (GC.region ?_)
 refine G.stepD (OD.assign rfl rfl) rfl rfl rfl ?_
 refine G.nil (GE.then_ (GC.seq (GC.seq (GC.region ?_))))
 refine G.stepD (OD.move rfl rfl) rfl rfl rfl ?_
 refine G.stepD (OD.len rfl rfl et22 rfl ex) rfl rfl rfl ?_
 refine G.stepD (OD.move rfl rfl) rfl rfl rfl ?_
 refine G.nil (GE.then_ (GC.block ?_))
 refine GC.loop (ι := Nat) (fun k => [(0, vx), (1, .func (.func 137) #[] #[]), (7, .int .i64 ((x.length : Nat))), (8, .int .i64 ((k : Int)))]) (fun k => own) (fun k => (k ≤ x.length) ∧ ((x.take k).any (fun (y : Int) => !(inB y (-1000) 1000)) = false)) (fun k => x.length - k) 0 (⟨by omega, by simp⟩) ⟨rfl, rfl, rfl, rfl, trivial⟩ [] 0 rfl ?_
 rintro k ⟨hk, ht⟩
 refine GC.seq (GC.region ?_)
 refine G.stepD (OD.lss rfl rfl rfl) rfl rfl rfl ?_
 refine G.nil (GE.then_ (GC.seq ?_))
 refine GC.cond rfl (fun hc1 => ?_) (fun hc1 => ?_)
 replace hc1 := of_decide_eq_true hc1
 refine GC.skip (GE.then_ (GC.seq (GC.block (GC.seq (GC.region ?_)))))
 refine G.stepD (OD.move rfl rfl) rfl rfl rfl ?_
 refine G.stepD (OD.assign rfl rfl) rfl rfl rfl ?_
 refine G.nil (GE.then_ (GC.seq (GC.region ?_)))
 refine G.stepD (OD.move rfl rfl) rfl rfl rfl ?_
 refine G.stepD (OD.move rfl rfl) rfl rfl rfl ?_
 refine G.stepD (OD.move rfl rfl) rfl rfl rfl ?_
 refine G.stepD (OD.indexAddr rfl et22 rfl ex rfl (by omega)) rfl rfl rfl ?_
 refine G.stepD (OD.loadInt rfl ti3 rfl ex (by omega)) rfl rfl rfl ?_
 refine G.step (OG.call [.int .i64 (x.getD (k) 0)] ent137 rfl rfl rfl rfl (by exact isWeightF_w)) rfl rfl rfl ?_
 rintro _ _ ⟨rfl, hzz⟩; obtain rfl := hzz.symm
 refine G.nil (GE.then_ ?_)
 refine GC.cond rfl (fun hc2 => ?_) (fun hc2 => ?_)
 replace hc2 := eq_false_of_not hc2
 have hc2b : (fun (y : Int) => !(inB y (-1000) 1000)) (x.getD k 0) = true := by show (!(inB _ _ _)) = true; rw [hc2]; rfl
 refine GC.seq (GC.region ?_)
 refine G.stepD (OD.move rfl rfl) rfl rfl rfl ?_
 refine G.stepD (OD.assign rfl rfl) rfl rfl rfl ?_
 refine G.nil (GE.then_ (GC.ret (GE.blockR (GE.passR (GE.passR (GE.blockR (GE.passR ?_)))))))
 exact GE.body [] 0 (res1 rfl rfl) rfl (⟨congrArg (fun (a0 : Int) => (.int .i64 (a0) : Value)) (((posF_at (d := 0) (by omega) ht (by assumption)).symm : ((k : Int) : Int) = posF (fun (y : Int) => !(inB y (-1000) 1000)) x)), rfl⟩)
 replace hc2 := eq_true_of_not hc2
 have hc2b : (fun (y : Int) => !(inB y (-1000) 1000)) (x.getD k 0) = false := by show (!(inB _ _ _)) = false; rw [hc2]; rfl
 refine GC.skip (GE.blockN (GE.then_ (GC.region ?_)))
 refine G.stepD (OD.addI rfl rfl rfl (by omega)) rfl rfl rfl ?_
 refine G.stepD (OD.move rfl rfl) rfl rfl rfl ?_
 refine G.nil ?_
 exact GE.again (k + 1) (⟨by omega, any_take_succ (d := 0) (by omega) ht (by assumption)⟩) (by first | omega | (dsimp only; omega)) ⟨rfl, rfl, rfl, rfl, trivial⟩ [] 0 rfl
 replace hc1 := of_decide_eq_false hc1
 refine GC.exit (GE.pass (GE.pass (GE.hit (GE.then_ (GC.seq (GC.region ?_))))))
 refine G.stepD (OD.assign rfl rfl) rfl rfl rfl ?_
 refine G.nil (GE.then_ (GC.ret ?_))
 exact GE.body [] 0 (res1 rfl rfl) rfl (⟨congrArg (fun (a0 : Int) => (.int .i64 (a0) : Value)) (((posF_none (any_take_all (by omega) ht)).symm : (-1 : Int) = posF (fun (y : Int) => !(inB y (-1000) 1000)) x)), rfl⟩)
set_option maxRecDepth 100000 in
theorem containsFuncL_w {W : World} {own : List Asn} {vx : Value} {x : List Int}  (sx : IsS vx) (ex : Ent own fun w => Ints w vx x)   (hl : x.length ≤ 9223372036854775807) : Spec Tryz.prog 136 [vx, .func (.func 137) #[] #[]] W own (fun v ow => v = .bool (x.any (fun (y : Int) => !(inB y (-1000) 1000))) ∧ ow = own) := by
 refine Spec.enter Tryz.f136 _ Tryz.func136 rfl (n := 9) rfl rfl ?_
 refine GC.seq (GC.region ?_)
 refine G.stepD (OD.assign rfl rfl) rfl rfl rfl ?_
 refine G.nil (GE.then_ (GC.seq (GC.region ?_)))
 refine G.stepD (OD.move rfl rfl) rfl rfl rfl ?_
 refine G.stepD (OD.move rfl rfl) rfl rfl rfl ?_
 refine G.step (OG.call [vx, .func (.func 137) #[] #[]] ent89 rfl rfl rfl rfl (by exact (indexFuncL_w sx ex (hl)))) rfl rfl rfl ?_
 rintro _ _ ⟨rfl, hzz⟩; obtain rfl := hzz.symm
 refine G.stepD (OD.geq rfl rfl rfl) rfl rfl rfl ?_
 refine G.stepD (OD.assign rfl rfl) rfl rfl rfl ?_
 refine G.nil (GE.then_ (GC.ret ?_))
 exact GE.body [] 0 (res1 rfl rfl) rfl (⟨congrArg (fun (a0 : Bool) => (.bool (a0) : Value)) ((posF_ge : (decide (0 ≤ posF (fun (y : Int) => !(inB y (-1000) 1000)) x) : Bool) = x.any (fun (y : Int) => !(inB y (-1000) 1000)))), rfl⟩)
set_option maxRecDepth 100000 in
theorem isWeight_w {W : World} {own : List Asn} {cr : Int} {vcd : Value} {cd : List Int} {vx : Value} {x : List Int}  (scd : IsS vcd) (ecd : Ent own fun w => Ints w vcd cd)   (sx : IsS vx) (ex : Ent own fun w => Ints w vx x)  (hl : x.length ≤ 9223372036854775807) : Spec Tryz.prog 81 [.agg #[.int .i64 (cr), vcd], vx] W own (fun v ow => v = .bool (wtOk cr x) ∧ ow = own) := by
 refine Spec.enter Tryz.f81 _ Tryz.func81 rfl (n := 15) rfl rfl ?_
 refine GC.seq (GC.region ?_)
 refine G.step (OG.box (cs := [.int .i64 (cr), vcd]) rfl rfl rfl) rfl rfl rfl ?_
 rintro _ _ ⟨g1, rfl, rfl⟩
 refine G.stepD (OD.assign rfl rfl) rfl rfl rfl ?_
 refine G.nil (GE.then_ (GC.seq (GC.region ?_)))
 refine G.stepD (OD.move rfl rfl) rfl rfl rfl ?_
 refine G.stepD (OD.len rfl rfl et22 rfl (Ent.drop 1 ex)) rfl rfl rfl ?_
 refine G.stepD (OD.fieldAddr rfl rfl fa27_0) rfl rfl rfl ?_
 refine G.stepD (OD.load rfl ti3 rfl (i := 0) rfl rfl) rfl rfl rfl ?_
 refine G.stepD (OD.eql rfl rfl rfl) rfl rfl rfl ?_
 refine G.stepD (OD.move rfl rfl) rfl rfl rfl ?_
 rcases Bool.eq_false_or_eq_true ((x.length : Nat) == cr) with hg2 | hg2
 have hg2e := hg2
 refine G.at [] 0 (env' := [(0, .agg #[.int .i64 (cr), vcd]), (1, vx), (2, .pointer (some ⟨g1, 0, none⟩)), (4, .bool false), (5, vx), (6, .int .i64 ((x.length : Nat))), (7, .pointer (some ⟨g1, 0, none⟩)), (8, .int .i64 (cr)), (9, .bool true), (10, .bool true)]) (⟨rfl, rfl, rfl, rfl, rfl, rfl, rfl, rfl, (congrArg (fun b => some (Value.bool b)) hg2e), (congrArg (fun b => some (Value.bool b)) hg2e), trivial⟩) rfl ?_
 replace hg2 := eq_of_beq hg2
 refine G.stepGD (OD.move rfl rfl) rfl rfl rfl rfl rfl ?_
 refine G.stepG (OG.call [vx, .func (.func 137) #[] #[]] ent136 rfl rfl rfl rfl (by exact (containsFuncL_w sx (Ent.drop 1 ex) (by omega)))) rfl rfl rfl rfl rfl ?_
 rintro _ _ ⟨rfl, rfl⟩
 refine G.stepGD (OD.not rfl rfl) rfl rfl rfl rfl rfl ?_
 refine G.stepD (OD.pickT rfl rfl rfl) rfl rfl rfl ?_
 refine G.stepD (OD.assign rfl rfl) rfl rfl rfl ?_
 refine G.nil (GE.then_ (GC.ret ?_))
 exact GE.body [] 1 (res1 rfl rfl) rfl (⟨congrArg (fun (a0 : Bool) => (.bool (a0) : Value)) ((by rw [wtOk, hg2e]; rfl : (!(x.any (fun (y : Int) => !(inB y (-1000) 1000))) : Bool) = wtOk cr x)), rfl⟩)
 have hg2e := hg2
 refine G.at [] 0 (env' := [(0, .agg #[.int .i64 (cr), vcd]), (1, vx), (2, .pointer (some ⟨g1, 0, none⟩)), (4, .bool false), (5, vx), (6, .int .i64 ((x.length : Nat))), (7, .pointer (some ⟨g1, 0, none⟩)), (8, .int .i64 (cr)), (9, .bool false), (10, .bool false)]) (⟨rfl, rfl, rfl, rfl, rfl, rfl, rfl, rfl, (congrArg (fun b => some (Value.bool b)) hg2e), (congrArg (fun b => some (Value.bool b)) hg2e), trivial⟩) rfl ?_
 replace hg2 := ne_of_beq_false hg2
 refine G.skipG rfl rfl rfl rfl rfl rfl (G.skipG rfl rfl rfl rfl rfl rfl (G.skipG rfl rfl rfl rfl rfl rfl ?_))
 refine G.stepD (OD.pickF rfl rfl rfl) rfl rfl rfl ?_
 refine G.stepD (OD.assign rfl rfl) rfl rfl rfl ?_
 refine G.nil (GE.then_ (GC.ret ?_))
 exact GE.body [] 1 (res1 rfl rfl) rfl (⟨congrArg (fun (a0 : Bool) => (.bool (a0) : Value)) ((by rw [wtOk, hg2e]; rfl : (false : Bool) = wtOk cr x)), rfl⟩)
end Go.Proofs.YtgelkakjmbiibaaGreatDoor
namespace Go.Proofs.YtgelkakjmbiibaaGreatDoor
set_option linter.unusedVariables false
set_option linter.unusedSimpArgs false
open Go.RowKit
set_option maxRecDepth 100000 in
theorem l5Weight_w {W : World} {own : List Asn} {cr : Int} {vcd : Value} {cd : List Int} {vx : Value} {x : List Int}  (scd : IsS vcd) (ecd : Ent own fun w => Ints w vcd cd)   (sx : IsS vx) (ex : Ent own fun w => Ints w vx x)  (hcr : 1 ≤ cr ∧ cr ≤ 4) (hcd : (cd.length : Int) = cr * cr) (hx : (x.length : Int) = cr) : Spec Tryz.prog 181 [.agg #[.int .i64 (cr), vcd], vx] W own (fun v ow => ∃ (r0 : Value), v = r0 ∧ IsS r0 ∧ ow = ints 3 r0 (wtF cr cd x) :: own) := by
 have hrl : (List.replicate (cr : Int).toNat (0 : Int)).length = cr.toNat := List.length_replicate
 refine Spec.enter Tryz.f181 _ Tryz.func181 rfl (n := 41) rfl rfl ?_
 refine GC.seq (GC.region ?_)
 refine G.step (OG.box (cs := [.int .i64 (cr), vcd]) rfl rfl rfl) rfl rfl rfl ?_
 rintro _ _ ⟨g1, rfl, rfl⟩
 refine G.stepD (OD.assign rfl rfl) rfl rfl rfl ?_
 refine G.nil (GE.then_ (GC.seq (GC.region ?_)))
 refine G.stepD (OD.fieldAddr rfl rfl fa27_0) rfl rfl rfl ?_
 refine G.stepD (OD.load rfl ti3 rfl (i := 0) rfl rfl) rfl rfl rfl ?_
 refine G.step (OG.makeInts rfl et22 rfl rfl (by omega)) rfl rfl rfl ?_
 rintro v2 _ ⟨hs3, rfl⟩
 refine G.stepD (OD.assign rfl rfl) rfl rfl rfl ?_
 refine G.nil (GE.then_ (GC.seq (GC.seq (GC.region ?_))))
 refine G.stepD (OD.assign rfl rfl) rfl rfl rfl ?_
 refine G.nil (GE.then_ (GC.block ?_))
 refine GC.loop (ι := Nat × List Int) (fun ⟨i, ys⟩ => [(1, vx), (2, .pointer (some ⟨g1, 0, none⟩)), (5, v2), (6, .int .i64 ((i : Int)))]) (fun ⟨i, ys⟩ => ints 3 v2 ys :: box g1 27 [.int .i64 (cr), vcd] :: own) (fun ⟨i, ys⟩ => (i ≤ cr.toNat) ∧ (ys.length = cr.toNat) ∧ (ys = (List.range i).foldl (wtI cr cd x) (List.replicate cr.toNat 0))) (fun ⟨i, ys⟩ => cr.toNat - i) (0, (List.replicate (cr : Int).toNat 0)) (⟨by omega, by simp, rfl⟩) ⟨rfl, rfl, rfl, rfl, trivial⟩ [] 0 rfl ?_
 rintro ⟨i, ys⟩ ⟨hi, hyl, hy⟩
 refine GC.seq (GC.seq (GC.region ?_))
 refine G.stepD (OD.move rfl rfl) rfl rfl rfl ?_
 refine G.stepD (OD.fieldAddr rfl rfl fa27_0) rfl rfl rfl ?_
 refine G.stepD (OD.load rfl ti3 rfl (i := 1) rfl rfl) rfl rfl rfl ?_
 refine G.stepD (OD.lss rfl rfl rfl) rfl rfl rfl ?_
 refine G.nil (GE.then_ ?_)
 refine GC.cond rfl (fun hc4 => ?_) (fun hc4 => ?_)
 replace hc4 := of_decide_eq_true hc4
 refine GC.skip (GE.then_ (GC.seq (GC.block (GC.seq (GC.region ?_)))))
 refine G.stepD (OD.assign rfl rfl) rfl rfl rfl ?_
 refine G.nil (GE.then_ (GC.block ?_))
 refine GC.loop (ι := Nat × List Int) (fun ⟨j, zs⟩ => [(1, vx), (2, .pointer (some ⟨g1, 0, none⟩)), (5, v2), (6, .int .i64 ((i : Int))), (7, .int .i64 ((j : Int)))]) (fun ⟨j, zs⟩ => ints 3 v2 zs :: box g1 27 [.int .i64 (cr), vcd] :: own) (fun ⟨j, zs⟩ => (j ≤ x.length) ∧ (zs.length = cr.toNat) ∧ (zs = (List.range j).foldl (fun (o : List Int) (j : Nat) => o.set i (IntKind.i64.wrap (o.getD i 0 + IntKind.i64.wrap (atI cr cd i j * x.getD j 0)))) ys)) (fun ⟨j, zs⟩ => x.length - j) (0, ys) (⟨by omega, hyl, rfl⟩) ⟨rfl, rfl, rfl, rfl, rfl, trivial⟩ [] 0 rfl ?_
 rintro ⟨j, zs⟩ ⟨hj, hzl, hz⟩
 refine GC.seq (GC.seq (GC.region ?_))
 refine G.stepD (OD.move rfl rfl) rfl rfl rfl ?_
 refine G.stepD (OD.fieldAddr rfl rfl fa27_0) rfl rfl rfl ?_
 refine G.stepD (OD.load rfl ti3 rfl (i := 1) rfl rfl) rfl rfl rfl ?_
 refine G.stepD (OD.lss rfl rfl rfl) rfl rfl rfl ?_
 refine G.nil (GE.then_ ?_)
 refine GC.cond rfl (fun hc5 => ?_) (fun hc5 => ?_)
 replace hc5 := of_decide_eq_true hc5
 have hxx := idx_bd (n := cr) (i := i) (j := j) ⟨by omega, by omega⟩ ⟨by omega, by omega⟩ (by omega)
 refine GC.skip (GE.then_ (GC.seq (GC.block ?_)))
 refine GC.at [] 0 (env' := [(1, vx), (2, .pointer (some ⟨g1, 0, none⟩)), (5, v2), (6, .int .i64 ((i : Int))), (7, .int .i64 ((j : Int)))]) ⟨rfl, rfl, rfl, rfl, rfl, trivial⟩ rfl ?_
 refine GC.par (its := [⟨23, [], [], [], [], fun _ => v2, fun _ => True, fun _ => []⟩,
     ⟨24, [], [], [], [], fun _ => .int .i64 ((i : Int)), fun _ => True, fun _ => []⟩,
     ⟨25, [], [], [], [], fun _ => v2, fun _ => True, fun _ => []⟩,
     ⟨26, [], [], [], [], fun _ => .int .i64 ((i : Int)), fun _ => True, fun _ => []⟩,
     ⟨27, [(2, 25), (3, 26)], [], [], [], fun _ => elemPtr v2 1 (i), fun _ => True, fun _ => []⟩,
     ⟨28, [(4, 27)], [], [], [], fun _ => .int .i64 (zs.getD (i) 0), fun _ => True, fun _ => []⟩,
     ⟨29, [], [], [], [], fun _ => .agg #[.int .i64 (cr), vcd], fun _ => True, fun _ => []⟩,
     ⟨30, [], [], [], [], fun _ => .int .i64 ((i : Int)), fun _ => True, fun _ => []⟩,
     ⟨31, [], [], [], [], fun _ => .int .i64 ((j : Int)), fun _ => True, fun _ => []⟩,
     ⟨32, [(6, 29), (7, 30), (8, 31)], [], [], [], fun _ => .int .i64 (atI cr cd (i : Int) (j : Int)), fun _ => True, fun _ => []⟩,
     ⟨33, [], [], [], [], fun _ => vx, fun _ => True, fun _ => []⟩,
     ⟨34, [], [], [], [], fun _ => .int .i64 ((j : Int)), fun _ => True, fun _ => []⟩,
     ⟨35, [(10, 33), (11, 34)], [], [], [], fun _ => elemPtr vx 1 (j), fun _ => True, fun _ => []⟩,
     ⟨36, [(12, 35)], [], [], [], fun _ => .int .i64 (x.getD (j) 0), fun _ => True, fun _ => []⟩,
     ⟨37, [(9, 32), (13, 36)], [], [], [], fun _ => .int .i64 (IntKind.i64.wrap ((atI cr cd (i : Int) (j : Int)) * (x.getD (j) 0))), fun _ => True, fun _ => []⟩,
     ⟨38, [(5, 28), (14, 37)], [], [], [], fun _ => .int .i64 (IntKind.i64.wrap ((zs.getD (i) 0) + (IntKind.i64.wrap ((atI cr cd (i : Int) (j : Int)) * (x.getD (j) 0))))), fun _ => True, fun _ => []⟩,
     ⟨39, [(0, 23), (1, 24)], [], [], [], fun _ => elemPtr v2 1 (i), fun _ => True, fun _ => []⟩]) (by kernel_rfl) (by kernel_rfl) (POps.cons ?_ (POps.cons ?_ (POps.cons ?_ (POps.cons ?_ (POps.cons ?_ (POps.cons ?_ (POps.cons ?_ (POps.cons ?_ (POps.cons ?_ (POps.cons ?_ (POps.cons ?_ (POps.cons ?_ (POps.cons ?_ (POps.cons ?_ (POps.cons ?_ (POps.cons ?_ (POps.cons ?_ POps.nil))))))))))))))))) ?_
 intro θ R hd
 exact Opp.plain (OG.imp (OD.move rfl rfl) (by exact fun _ _ h=>pk h rfl trivial rfl)) rfl
 intro θ R hd
 exact Opp.plain (OG.imp (OD.move rfl rfl) (by exact fun _ _ h=>pk h rfl trivial rfl)) rfl
 intro θ R hd
 exact Opp.plain (OG.imp (OD.move rfl rfl) (by exact fun _ _ h=>pk h rfl trivial rfl)) rfl
 intro θ R hd
 exact Opp.plain (OG.imp (OD.move rfl rfl) (by exact fun _ _ h=>pk h rfl trivial rfl)) rfl
 rintro θ R ⟨h2d, h3d, _⟩
 exact Opp.plain (OG.imp (OD.indexAddr rfl et22 rfl (Ent.ints (i := 0) rfl) rfl (by omega)) (by exact fun _ _ h=>pk h rfl trivial rfl)) rfl
 rintro θ R ⟨h4d, _⟩
 exact Opp.plain (OG.imp (OD.loadInt rfl ti3 rfl (Ent.ints (i := 0) rfl) (by omega)) (by exact fun _ _ h=>pk h rfl trivial rfl)) rfl
 intro θ R hd
 exact Opp.plain (OG.imp (OD.loadAgg rfl ti27 rfl (i := 1) rfl (us := [.int .i64 (cr), vcd]) rfl rfl) (by exact fun _ _ h=>pk h rfl trivial rfl)) rfl
 intro θ R hd
 exact Opp.plain (OG.imp (OD.move rfl rfl) (by exact fun _ _ h=>pk h rfl trivial rfl)) rfl
 intro θ R hd
 exact Opp.plain (OG.imp (OD.move rfl rfl) (by exact fun _ _ h=>pk h rfl trivial rfl)) rfl
 rintro θ R ⟨h6d, h7d, h8d, _⟩
 exact Opp.plain (OG.imp (OG.call [.agg #[.int .i64 (cr), vcd], .int .i64 ((i : Int)), .int .i64 ((j : Int))] ent143 rfl rfl rfl rfl (by exact (l5At_w scd (Ent.drop 2 ecd.app) (by omega)))) (by exact fun _ _ h=>pk h rfl trivial rfl)) rfl
 intro θ R hd
 exact Opp.plain (OG.imp (OD.move rfl rfl) (by exact fun _ _ h=>pk h rfl trivial rfl)) rfl
 intro θ R hd
 exact Opp.plain (OG.imp (OD.move rfl rfl) (by exact fun _ _ h=>pk h rfl trivial rfl)) rfl
 rintro θ R ⟨h10d, h11d, _⟩
 exact Opp.plain (OG.imp (OD.indexAddr rfl et22 rfl (Ent.drop 2 ex.app) rfl (by omega)) (by exact fun _ _ h=>pk h rfl trivial rfl)) rfl
 rintro θ R ⟨h12d, _⟩
 exact Opp.plain (OG.imp (OD.loadInt rfl ti3 rfl (Ent.drop 2 ex.app) (by omega)) (by exact fun _ _ h=>pk h rfl trivial rfl)) rfl
 rintro θ R ⟨h9d, h13d, _⟩
 exact Opp.plain (OG.imp (OD.mul rfl rfl rfl) (by exact fun _ _ h=>pk h rfl trivial rfl)) rfl
 rintro θ R ⟨h5d, h14d, _⟩
 exact Opp.plain (OG.imp (OD.add rfl rfl rfl) (by exact fun _ _ h=>pk h rfl trivial rfl)) rfl
 rintro θ R ⟨h0d, h1d, _⟩
 exact Opp.plain (OG.imp (OD.indexAddr rfl et22 rfl (Ent.ints (i := 0) rfl) rfl (by omega)) (by exact fun _ _ h=>pk h rfl trivial rfl)) rfl
 intro θ hall
 obtain ⟨_, _, _, _, _, _, _, _, _, _, _, _, _, _, _, _, _, _⟩ := hall
 refine G.at [] 0 (env' := [(1, vx), (2, .pointer (some ⟨g1, 0, none⟩)), (5, v2), (6, .int .i64 ((i : Int))), (7, .int .i64 ((j : Int))), (38, .int .i64 (IntKind.i64.wrap ((zs.getD (i) 0) + (IntKind.i64.wrap ((atI cr cd (i : Int) (j : Int)) * (x.getD (j) 0)))))), (39, elemPtr v2 1 (i))]) ⟨rfl, rfl, rfl, rfl, rfl, rfl, rfl, trivial⟩ (own' := ints 3 v2 zs :: box g1 27 [.int .i64 (cr), vcd] :: own) rfl ?_
 show G _ _ _ [_] _ _ _ _
 refine G.stepD0 (OD.storeInt rfl ti3 rfl rfl (i := 0) rfl (by omega)) rfl rfl ?_
 refine G.nil (GE.blockN (GE.then_ (GC.region ?_)))
 refine G.stepD (OD.move rfl rfl) rfl rfl rfl ?_
 refine G.stepD (OD.addI rfl rfl rfl (by first | omega | (simp only [List.length_set, List.length_replicate]; omega))) rfl rfl rfl ?_
 refine G.stepD (OD.assign rfl rfl) rfl rfl rfl ?_
 refine G.nil ?_
 exact GE.again (j + 1, (zs).set (i) (IntKind.i64.wrap ((zs.getD (i) 0) + (IntKind.i64.wrap ((atI cr cd (i : Int) (j : Int)) * (x.getD (j) 0)))))) (⟨by omega, by rw [List.length_set]; exact hzl, fold_next hz rfl⟩) (by first | omega | (dsimp only; omega)) ⟨rfl, rfl, rfl, rfl, rfl, trivial⟩ [] 0 rfl
 replace hc5 := of_decide_eq_false hc5
 refine GC.exit (GE.pass (GE.pass (GE.hit (GE.blockN (GE.then_ (GC.region ?_))))))
 refine G.stepD (OD.move rfl rfl) rfl rfl rfl ?_
 refine G.stepD (OD.addI rfl rfl rfl (by omega)) rfl rfl rfl ?_
 refine G.stepD (OD.assign rfl rfl) rfl rfl rfl ?_
 refine G.nil ?_
 exact GE.again (i + 1, zs) (⟨by omega, hzl, fold_next hy (by rw [hz, show j = x.length by omega]; rfl)⟩) (by first | omega | (dsimp only; omega)) ⟨rfl, rfl, rfl, rfl, trivial⟩ [] 0 rfl
 replace hc4 := of_decide_eq_false hc4
 refine GC.exit (GE.pass (GE.pass (GE.hit (GE.then_ (GC.seq (GC.region ?_))))))
 refine G.stepD (OD.move rfl rfl) rfl rfl rfl ?_
 refine G.stepD (OD.assign rfl rfl) rfl rfl rfl ?_
 refine G.nil (GE.then_ (GC.ret ?_))
 exact GE.body [0] 1 (res1 rfl rfl) rfl (⟨v2, rfl, hs3, congrArg (fun (l0 : List Int) => ints 3 v2 l0 :: own) ((by rw [hy, show i = cr.toNat by omega]; rfl : ys = wtF cr cd x))⟩)
set_option maxRecDepth 100000 in
theorem weightOf_w {W : World} {own : List Asn} {cr : Int} {vcd : Value} {cd : List Int} {vx : Value} {x : List Int}  (scd : IsS vcd) (ecd : Ent own fun w => Ints w vcd cd)   (sx : IsS vx) (ex : Ent own fun w => Ints w vx x)  (hcr : 1 ≤ cr ∧ cr ≤ 4) (hcd : (cd.length : Int) = cr * cr) (hx : (x.length : Int) = cr) : Spec Tryz.prog 82 [.agg #[.int .i64 (cr), vcd], vx] W own (fun v ow => ∃ (r0 : Value), v = r0 ∧ IsS r0 ∧ ow = ints 3 r0 (wtF cr cd x) :: own) := by
 have hrl : (List.replicate (cr : Int).toNat (0 : Int)).length = cr.toNat := List.length_replicate
 refine Spec.enter Tryz.f82 _ Tryz.func82 rfl (n := 39) rfl rfl ?_
 refine GC.seq (GC.region ?_)
 refine G.step (OG.box (cs := [.int .i64 (cr), vcd]) rfl rfl rfl) rfl rfl rfl ?_
 rintro _ _ ⟨g1, rfl, rfl⟩
 refine G.stepD (OD.assign rfl rfl) rfl rfl rfl ?_
 refine G.nil (GE.then_ (GC.seq (GC.region ?_)))
 refine G.stepD (OD.fieldAddr rfl rfl fa27_0) rfl rfl rfl ?_
 refine G.stepD (OD.load rfl ti3 rfl (i := 0) rfl rfl) rfl rfl rfl ?_
 refine G.step (OG.makeInts rfl et22 rfl rfl (by omega)) rfl rfl rfl ?_
 rintro v2 _ ⟨hs3, rfl⟩
 refine G.stepD (OD.assign rfl rfl) rfl rfl rfl ?_
 refine G.nil (GE.then_ (GC.seq (GC.seq (GC.region ?_))))
 refine G.stepD (OD.move rfl rfl) rfl rfl rfl ?_
 refine G.stepD (OD.len rfl rfl et22 rfl (Ent.ints (i := 0) rfl)) rfl rfl rfl ?_
 refine G.stepD (OD.move rfl rfl) rfl rfl rfl ?_
 refine G.nil (GE.then_ (GC.block ?_))
 refine GC.loop (ι := Nat × List Int) (fun ⟨i, ys⟩ => [(1, vx), (2, .pointer (some ⟨g1, 0, none⟩)), (5, v2), (13, .int .i64 (((List.replicate (cr : Int).toNat (0 : Int)).length : Nat))), (14, .int .i64 ((i : Int)))]) (fun ⟨i, ys⟩ => ints 3 v2 ys :: box g1 27 [.int .i64 (cr), vcd] :: own) (fun ⟨i, ys⟩ => (i ≤ cr.toNat) ∧ (ys.length = cr.toNat) ∧ (ys = (List.range i).foldl (wtI cr cd x) (List.replicate cr.toNat 0))) (fun ⟨i, ys⟩ => cr.toNat - i) (0, (List.replicate (cr : Int).toNat 0)) (⟨by omega, by simp, rfl⟩) ⟨rfl, rfl, rfl, rfl, rfl, trivial⟩ [] 0 rfl ?_
 rintro ⟨i, ys⟩ ⟨hi, hyl, hy⟩
 refine GC.seq (GC.region ?_)
 refine G.stepD (OD.lss rfl rfl rfl) rfl rfl rfl ?_
 refine G.nil (GE.then_ (GC.seq ?_))
 refine GC.cond rfl (fun hc4 => ?_) (fun hc4 => ?_)
 replace hc4 := of_decide_eq_true hc4
 refine GC.skip (GE.then_ (GC.seq (GC.block (GC.seq (GC.region ?_)))))
 refine G.stepD (OD.move rfl rfl) rfl rfl rfl ?_
 refine G.stepD (OD.assign rfl rfl) rfl rfl rfl ?_
 refine G.nil (GE.then_ (GC.seq (GC.region ?_)))
 refine G.stepD (OD.move rfl rfl) rfl rfl rfl ?_
 refine G.stepD (OD.len rfl rfl et22 rfl (Ent.drop 2 ex)) rfl rfl rfl ?_
 refine G.stepD (OD.move rfl rfl) rfl rfl rfl ?_
 refine G.nil (GE.then_ (GC.block ?_))
 refine GC.loop (ι := Nat × List Int) (fun ⟨j, zs⟩ => [(1, vx), (2, .pointer (some ⟨g1, 0, none⟩)), (5, v2), (13, .int .i64 (((List.replicate (cr : Int).toNat (0 : Int)).length : Nat))), (14, .int .i64 ((i : Int))), (6, .int .i64 ((i : Int))), (17, vx), (18, .int .i64 ((x.length : Nat))), (19, .int .i64 ((j : Int)))]) (fun ⟨j, zs⟩ => ints 3 v2 zs :: box g1 27 [.int .i64 (cr), vcd] :: own) (fun ⟨j, zs⟩ => (j ≤ x.length) ∧ (zs.length = cr.toNat) ∧ (zs = (List.range j).foldl (fun (o : List Int) (j : Nat) => o.set i (IntKind.i64.wrap (o.getD i 0 + IntKind.i64.wrap (atI cr cd i j * x.getD j 0)))) ys)) (fun ⟨j, zs⟩ => x.length - j) (0, ys) (⟨by omega, hyl, rfl⟩) ⟨rfl, rfl, rfl, rfl, rfl, rfl, rfl, rfl, rfl, trivial⟩ [] 0 rfl ?_
 rintro ⟨j, zs⟩ ⟨hj, hzl, hz⟩
 refine GC.seq (GC.region ?_)
 refine G.stepD (OD.lss rfl rfl rfl) rfl rfl rfl ?_
 refine G.nil (GE.then_ (GC.seq ?_))
 refine GC.cond rfl (fun hc5 => ?_) (fun hc5 => ?_)
 replace hc5 := of_decide_eq_true hc5
 have hxx := idx_bd (n := cr) (i := i) (j := j) ⟨by omega, by omega⟩ ⟨by omega, by omega⟩ (by omega)
 refine GC.skip (GE.then_ (GC.seq (GC.block (GC.seq (GC.region ?_)))))
 refine G.stepD (OD.move rfl rfl) rfl rfl rfl ?_
 refine G.stepD (OD.indexAddr rfl et22 rfl (Ent.drop 2 ex) rfl (by omega)) rfl rfl rfl ?_
 refine G.stepD (OD.loadInt rfl ti3 rfl (Ent.drop 2 ex) (by omega)) rfl rfl rfl ?_
 refine G.stepD (OD.assign rfl rfl) rfl rfl rfl ?_
 refine G.stepD (OD.assign rfl rfl) rfl rfl rfl ?_
 refine G.nil (GE.then_ ?_)
 refine GC.at [] 0 (env' := [(1, vx), (2, .pointer (some ⟨g1, 0, none⟩)), (5, v2), (13, .int .i64 (((List.replicate (cr : Int).toNat (0 : Int)).length : Nat))), (14, .int .i64 ((i : Int))), (6, .int .i64 ((i : Int))), (17, vx), (18, .int .i64 ((x.length : Nat))), (19, .int .i64 ((j : Int))), (7, .int .i64 ((j : Int))), (8, .int .i64 (x.getD (j) 0))]) ⟨rfl, rfl, rfl, rfl, rfl, rfl, rfl, rfl, rfl, rfl, rfl, trivial⟩ rfl ?_
 refine GC.par (its := [⟨24, [], [], [], [], fun _ => v2, fun _ => True, fun _ => []⟩,
     ⟨25, [], [], [], [], fun _ => .int .i64 ((i : Int)), fun _ => True, fun _ => []⟩,
     ⟨26, [(0, 24), (1, 25)], [], [], [], fun _ => elemPtr v2 1 (i), fun _ => True, fun _ => []⟩,
     ⟨27, [(2, 26)], [], [], [], fun _ => .int .i64 (zs.getD (i) 0), fun _ => True, fun _ => []⟩,
     ⟨28, [], [], [], [], fun _ => .agg #[.int .i64 (cr), vcd], fun _ => True, fun _ => []⟩,
     ⟨29, [], [], [], [], fun _ => .int .i64 ((i : Int)), fun _ => True, fun _ => []⟩,
     ⟨30, [], [], [], [], fun _ => .int .i64 ((j : Int)), fun _ => True, fun _ => []⟩,
     ⟨31, [(4, 28), (5, 29), (6, 30)], [], [], [], fun _ => .int .i64 (atI cr cd (i : Int) (j : Int)), fun _ => True, fun _ => []⟩,
     ⟨32, [], [], [], [], fun _ => .int .i64 (x.getD (j) 0), fun _ => True, fun _ => []⟩,
     ⟨33, [(7, 31), (8, 32)], [], [], [], fun _ => .int .i64 (IntKind.i64.wrap ((atI cr cd (i : Int) (j : Int)) * (x.getD (j) 0))), fun _ => True, fun _ => []⟩,
     ⟨34, [(3, 27), (9, 33)], [], [], [], fun _ => .int .i64 (IntKind.i64.wrap ((zs.getD (i) 0) + (IntKind.i64.wrap ((atI cr cd (i : Int) (j : Int)) * (x.getD (j) 0))))), fun _ => True, fun _ => []⟩,
     ⟨35, [(0, 24), (1, 25)], [], [], [], fun _ => elemPtr v2 1 (i), fun _ => True, fun _ => []⟩]) (by kernel_rfl) (by kernel_rfl) (POps.cons ?_ (POps.cons ?_ (POps.cons ?_ (POps.cons ?_ (POps.cons ?_ (POps.cons ?_ (POps.cons ?_ (POps.cons ?_ (POps.cons ?_ (POps.cons ?_ (POps.cons ?_ (POps.cons ?_ POps.nil)))))))))))) ?_
 intro θ R hd
 exact Opp.plain (OG.imp (OD.move rfl rfl) (by exact fun _ _ h=>pk h rfl trivial rfl)) rfl
 intro θ R hd
 exact Opp.plain (OG.imp (OD.move rfl rfl) (by exact fun _ _ h=>pk h rfl trivial rfl)) rfl
 rintro θ R ⟨h0d, h1d, _⟩
 exact Opp.plain (OG.imp (OD.indexAddr rfl et22 rfl (Ent.ints (i := 0) rfl) rfl (by omega)) (by exact fun _ _ h=>pk h rfl trivial rfl)) rfl
 rintro θ R ⟨h2d, _⟩
 exact Opp.plain (OG.imp (OD.loadInt rfl ti3 rfl (Ent.ints (i := 0) rfl) (by omega)) (by exact fun _ _ h=>pk h rfl trivial rfl)) rfl
 intro θ R hd
 exact Opp.plain (OG.imp (OD.loadAgg rfl ti27 rfl (i := 1) rfl (us := [.int .i64 (cr), vcd]) rfl rfl) (by exact fun _ _ h=>pk h rfl trivial rfl)) rfl
 intro θ R hd
 exact Opp.plain (OG.imp (OD.move rfl rfl) (by exact fun _ _ h=>pk h rfl trivial rfl)) rfl
 intro θ R hd
 exact Opp.plain (OG.imp (OD.move rfl rfl) (by exact fun _ _ h=>pk h rfl trivial rfl)) rfl
 rintro θ R ⟨h4d, h5d, h6d, _⟩
 exact Opp.plain (OG.imp (OG.call [.agg #[.int .i64 (cr), vcd], .int .i64 ((i : Int)), .int .i64 ((j : Int))] ent125 rfl rfl rfl rfl (by exact (at_w scd (Ent.drop 2 ecd.app) (by omega)))) (by exact fun _ _ h=>pk h rfl trivial rfl)) rfl
 intro θ R hd
 exact Opp.plain (OG.imp (OD.move rfl rfl) (by exact fun _ _ h=>pk h rfl trivial rfl)) rfl
 rintro θ R ⟨h7d, h8d, _⟩
 exact Opp.plain (OG.imp (OD.mul rfl rfl rfl) (by exact fun _ _ h=>pk h rfl trivial rfl)) rfl
 rintro θ R ⟨h3d, h9d, _⟩
 exact Opp.plain (OG.imp (OD.add rfl rfl rfl) (by exact fun _ _ h=>pk h rfl trivial rfl)) rfl
 rintro θ R ⟨h0d, h1d, _⟩
 exact Opp.plain (OG.imp (OD.indexAddr rfl et22 rfl (Ent.ints (i := 0) rfl) rfl (by omega)) (by exact fun _ _ h=>pk h rfl trivial rfl)) rfl
 intro θ hall
 obtain ⟨_, _, _, _, _, _, _, _, _, _, _, _, _⟩ := hall
 refine G.at [] 0 (env' := [(1, vx), (2, .pointer (some ⟨g1, 0, none⟩)), (5, v2), (13, .int .i64 (((List.replicate (cr : Int).toNat (0 : Int)).length : Nat))), (14, .int .i64 ((i : Int))), (6, .int .i64 ((i : Int))), (17, vx), (18, .int .i64 ((x.length : Nat))), (19, .int .i64 ((j : Int))), (34, .int .i64 (IntKind.i64.wrap ((zs.getD (i) 0) + (IntKind.i64.wrap ((atI cr cd (i : Int) (j : Int)) * (x.getD (j) 0)))))), (35, elemPtr v2 1 (i))]) ⟨rfl, rfl, rfl, rfl, rfl, rfl, rfl, rfl, rfl, rfl, rfl, trivial⟩ (own' := ints 3 v2 zs :: box g1 27 [.int .i64 (cr), vcd] :: own) rfl ?_
 show G _ _ _ [_] _ _ _ _
 refine G.stepD0 (OD.storeInt rfl ti3 rfl rfl (i := 0) rfl (by omega)) rfl rfl ?_
 refine G.nil (GE.blockN (GE.then_ (GC.region ?_)))
 refine G.stepD (OD.addI rfl rfl rfl (by first | omega | (simp only [List.length_set, List.length_replicate]; omega))) rfl rfl rfl ?_
 refine G.stepD (OD.move rfl rfl) rfl rfl rfl ?_
 refine G.nil ?_
 exact GE.again (j + 1, (zs).set (i) (IntKind.i64.wrap ((zs.getD (i) 0) + (IntKind.i64.wrap ((atI cr cd (i : Int) (j : Int)) * (x.getD (j) 0)))))) (⟨by omega, by rw [List.length_set]; exact hzl, fold_next hz rfl⟩) (by first | omega | (dsimp only; omega)) ⟨rfl, rfl, rfl, rfl, rfl, rfl, rfl, rfl, rfl, trivial⟩ [] 0 rfl
 replace hc5 := of_decide_eq_false hc5
 refine GC.exit (GE.pass (GE.pass (GE.hit (GE.blockN (GE.then_ (GC.region ?_))))))
 refine G.stepD (OD.addI rfl rfl rfl (by omega)) rfl rfl rfl ?_
 refine G.stepD (OD.move rfl rfl) rfl rfl rfl ?_
 refine G.nil ?_
 exact GE.again (i + 1, zs) (⟨by omega, hzl, fold_next hy (by rw [hz, show j = x.length by omega]; rfl)⟩) (by first | omega | (dsimp only; omega)) ⟨rfl, rfl, rfl, rfl, rfl, trivial⟩ [] 0 rfl
 replace hc4 := of_decide_eq_false hc4
 refine GC.exit (GE.pass (GE.pass (GE.hit (GE.then_ (GC.seq (GC.region ?_))))))
 refine G.stepD (OD.move rfl rfl) rfl rfl rfl ?_
 refine G.stepD (OD.assign rfl rfl) rfl rfl rfl ?_
 refine G.nil (GE.then_ (GC.ret ?_))
 exact GE.body [0] 1 (res1 rfl rfl) rfl (⟨v2, rfl, hs3, congrArg (fun (l0 : List Int) => ints 3 v2 l0 :: own) ((by rw [hy, show i = cr.toNat by omega]; rfl : ys = wtF cr cd x))⟩)
set_option maxRecDepth 100000 in
theorem l5Simple_w {W : World} {own : List Asn} {cr : Int} {vcd : Value} {cd : List Int} {i : Int} {vx : Value} {x : List Int}  (scd : IsS vcd) (ecd : Ent own fun w => Ints w vcd cd)   (sx : IsS vx) (ex : Ent own fun w => Ints w vx x)  (hcr : 1 ≤ cr ∧ cr ≤ 4) (hcd : (cd.length : Int) = cr * cr) (hi : 0 ≤ i ∧ i < cr) (hw : (x.length : Int) = cr) : Spec Tryz.prog 150 [.agg #[.int .i64 (cr), vcd], .int .i64 (i), vx] W own (fun v ow => ∃ (r0 : Value), v = r0 ∧ IsS r0 ∧ ow = ints 3 r0 (arI cr cd i x) :: own) := by
 have hwl := wtF_len cr cd x
 refine Spec.enter Tryz.f150 _ Tryz.func150 rfl (n := 25) rfl rfl ?_
 refine GC.seq (GC.region ?_)
 refine G.step (OG.box (cs := [.int .i64 (cr), vcd]) rfl rfl rfl) rfl rfl rfl ?_
 rintro _ _ ⟨g1, rfl, rfl⟩
 refine G.stepD (OD.assign rfl rfl) rfl rfl rfl ?_
 refine G.nil (GE.then_ (GC.seq (GC.region ?_)))
 refine G.stepD (OD.move rfl rfl) rfl rfl rfl ?_
 refine G.step (OG.call [vx] ent118 rfl rfl rfl rfl (by exact (l1Ints_w sx (Ent.drop 1 ex) (by omega)))) rfl rfl rfl ?_
 rintro v2 _ ⟨_, rfl, hs3, rfl⟩
 refine G.stepD (OD.assign rfl rfl) rfl rfl rfl ?_
 refine G.nil (GE.then_ (GC.seq ?_))
 refine GC.at [] 0 (env' := [(1, .int .i64 (i)), (2, vx), (3, .pointer (some ⟨g1, 0, none⟩)), (7, v2)]) ⟨rfl, rfl, rfl, rfl, trivial⟩ rfl ?_
 refine GC.par (its := [⟨10, [], [], [], [], fun _ => v2, fun _ => True, fun _ => []⟩,
     ⟨11, [], [], [], [], fun _ => .int .i64 (i), fun _ => True, fun _ => []⟩,
     ⟨12, [], [], [], [], fun _ => v2, fun _ => True, fun _ => []⟩,
     ⟨13, [], [], [], [], fun _ => .int .i64 (i), fun _ => True, fun _ => []⟩,
     ⟨14, [(2, 12), (3, 13)], [], [], [], fun _ => elemPtr v2 1 ((i : Int).toNat), fun _ => True, fun _ => []⟩,
     ⟨15, [(4, 14)], [], [], [], fun _ => .int .i64 (x.getD ((i : Int).toNat) 0), fun _ => True, fun _ => []⟩,
     ⟨16, [], [], [], [], fun _ => .agg #[.int .i64 (cr), vcd], fun _ => True, fun _ => []⟩,
     ⟨17, [], [], [], [], fun _ => vx, fun _ => True, fun _ => []⟩,
     ⟨18, [(6, 16), (7, 17)], [], [], [8], fun ds => ((ds.getD 0 []).getD 0 undef), fun ds => IsS ((ds.getD 0 []).getD 0 undef), fun ds => [ints 3 ((ds.getD 0 []).getD 0 undef) (wtF cr cd x)]⟩,
     ⟨19, [], [], [], [], fun _ => .int .i64 (i), fun _ => True, fun _ => []⟩,
     ⟨20, [(8, 18), (9, 19)], [8], [], [8], fun ds => elemPtr (((ds.getD 0 []).getD 0 undef)) 1 ((i : Int).toNat), fun _ => True, fun _ => []⟩,
     ⟨21, [(10, 20)], [8], [], [8], fun _ => .int .i64 ((wtF cr cd x).getD ((i : Int).toNat) 0), fun _ => True, fun _ => []⟩,
     ⟨22, [(5, 15), (11, 21)], [8], [], [8], fun _ => .int .i64 (IntKind.i64.wrap ((x.getD ((i : Int).toNat) 0) - ((wtF cr cd x).getD ((i : Int).toNat) 0))), fun _ => True, fun _ => []⟩,
     ⟨23, [(0, 10), (1, 11)], [], [], [], fun _ => elemPtr v2 1 ((i : Int).toNat), fun _ => True, fun _ => []⟩]) (by kernel_rfl) (by kernel_rfl) (POps.cons ?_ (POps.cons ?_ (POps.cons ?_ (POps.cons ?_ (POps.cons ?_ (POps.cons ?_ (POps.cons ?_ (POps.cons ?_ (POps.cons ?_ (POps.cons ?_ (POps.cons ?_ (POps.cons ?_ (POps.cons ?_ (POps.cons ?_ POps.nil)))))))))))))) ?_
 intro θ R hd
 exact Opp.plain (OG.imp (OD.move rfl rfl) (by exact fun _ _ h=>pk h rfl trivial rfl)) rfl
 intro θ R hd
 exact Opp.plain (OG.imp (OD.move rfl rfl) (by exact fun _ _ h=>pk h rfl trivial rfl)) rfl
 intro θ R hd
 exact Opp.plain (OG.imp (OD.move rfl rfl) (by exact fun _ _ h=>pk h rfl trivial rfl)) rfl
 intro θ R hd
 exact Opp.plain (OG.imp (OD.move rfl rfl) (by exact fun _ _ h=>pk h rfl trivial rfl)) rfl
 rintro θ R ⟨h2d, h3d, _⟩
 exact Opp.plain (OG.imp (OD.indexAddr rfl et22 rfl (Ent.ints (i := 0) rfl) rfl (by omega)) (by exact fun _ _ h=>pk h rfl trivial rfl)) rfl
 rintro θ R ⟨h4d, _⟩
 exact Opp.plain (OG.imp (OD.loadInt rfl ti3 rfl (Ent.ints (i := 0) rfl) (by omega)) (by exact fun _ _ h=>pk h rfl trivial rfl)) rfl
 intro θ R hd
 exact Opp.plain (OG.imp (OD.loadAgg rfl ti27 rfl (i := 1) rfl (us := [.int .i64 (cr), vcd]) rfl rfl) (by exact fun _ _ h=>pk h rfl trivial rfl)) rfl
 intro θ R hd
 exact Opp.plain (OG.imp (OD.move rfl rfl) (by exact fun _ _ h=>pk h rfl trivial rfl)) rfl
 rintro θ R ⟨h6d, h7d, _⟩
 exact Opp.plain (OG.imp (OG.call [.agg #[.int .i64 (cr), vcd], vx] ent181 rfl rfl rfl rfl (by exact (l5Weight_w scd (Ent.drop 2 ecd.app) sx (Ent.drop 2 ex.app) (hcr) (hcd) (hw)))) (by rintro v4 _ ⟨_, rfl, hs5, rfl⟩; exact ⟨[v4], rfl, hs5, rfl⟩)) rfl
 intro θ R hd
 exact Opp.plain (OG.imp (OD.move rfl rfl) (by exact fun _ _ h=>pk h rfl trivial rfl)) rfl
 rintro θ R ⟨h8d, h9d, _⟩
 exact Opp.plain (OG.imp (OD.indexAddr rfl et22 rfl (Ent.ints (i := 0) rfl) rfl (by omega)) (by exact fun _ _ h=>pk h rfl trivial rfl)) rfl
 rintro θ R ⟨h10d, _⟩
 exact Opp.plain (OG.imp (OD.loadInt rfl ti3 rfl (Ent.ints (i := 0) rfl) (by omega)) (by exact fun _ _ h=>pk h rfl trivial rfl)) rfl
 rintro θ R ⟨h5d, h11d, _⟩
 exact Opp.plain (OG.imp (OD.sub rfl rfl rfl) (by exact fun _ _ h=>pk h rfl trivial rfl)) rfl
 rintro θ R ⟨h0d, h1d, _⟩
 exact Opp.plain (OG.imp (OD.indexAddr rfl et22 rfl (Ent.ints (i := 0) rfl) rfl (by omega)) (by exact fun _ _ h=>pk h rfl trivial rfl)) rfl
 intro θ hall
 obtain ⟨_, _, _, _, _, _, _, _, h8a, _, _, _, _, _, _⟩ := hall
 refine G.at [] 0 (env' := [(7, v2), (22, .int .i64 (IntKind.i64.wrap ((x.getD ((i : Int).toNat) 0) - ((wtF cr cd x).getD ((i : Int).toNat) 0)))), (23, elemPtr v2 1 ((i : Int).toNat))]) ⟨rfl, rfl, rfl, trivial⟩ (own' := ints 3 ((θ 8).getD 0 undef) (wtF cr cd x) :: ints 3 v2 x :: box g1 27 [.int .i64 (cr), vcd] :: own) rfl ?_
 have hs6 : IsS ((θ 8).getD 0 undef) := h8a
 clear h8a
 generalize ((θ 8).getD 0 undef) = v7 at *
 show G _ _ _ [_] _ _ _ _
 refine G.stepD0 (OD.storeInt rfl ti3 rfl rfl (i := 1) rfl (by omega)) rfl rfl ?_
 refine G.nil (GE.then_ (GC.seq (GC.region ?_)))
 refine G.stepD (OD.move rfl rfl) rfl rfl rfl ?_
 refine G.stepD (OD.assign rfl rfl) rfl rfl rfl ?_
 refine G.nil (GE.then_ (GC.ret ?_))
 exact GE.body [1] 2 (res1 rfl rfl) rfl (⟨v2, rfl, hs3, rfl⟩)
end Go.Proofs.YtgelkakjmbiibaaGreatDoor
