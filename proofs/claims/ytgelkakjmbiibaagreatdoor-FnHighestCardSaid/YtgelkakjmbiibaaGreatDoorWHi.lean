/-
  The highest root: contracts by walks.
-/
import Derived.Test.YtgelkakjmbiibaaGreatDoorFct
import Derived.Test.YtgelkakjmbiibaaGreatDoorWNewA
import Derived.Test.YtgelkakjmbiibaaGreatDoorHiA
namespace Go.Proofs.YtgelkakjmbiibaaGreatDoor
set_option linter.unusedVariables false
set_option linter.unusedSimpArgs false
open Go.RowKit
theorem fd80_1 : FD Tryz.prog 80 1 2 := by have h := fd_of (f := 1) Tryz.underlying80 rfl (fun w => by kernel_rfl); exact h
theorem ent96 : ∀ us w, (callFunc 96 us).run Tryz.prog w = .ok (.enter 96 us) w := fun us w => by kernel_rfl
theorem ent98 : ∀ us w, (callFunc 98 us).run Tryz.prog w = .ok (.enter 98 us) w := fun us w => by kernel_rfl
set_option maxRecDepth 100000 in
theorem specHighestRoot_w {W : World} {own : List Asn} {cr : Int} {vcd : Value} {cd : List Int}  (scd : IsS vcd) (ecd : Ent own fun w => Ints w vcd cd)  (hl0 : cd.length ≤ 1073741824) : Spec Tryz.prog 40 [.agg #[.int .i64 (cr), vcd]] W own (fun v ow => ∃ (r0 : Value), v = .tuple #[r0, .bool (oneP cr cd)] ∧ IsS r0 ∧ ow = ints 3 r0 (hrA cr cd) :: own) := by
 refine Spec.enter Tryz.f40 _ Tryz.func40 rfl (n := 27) rfl rfl ?_
 refine GC.seq (GC.region ?_)
 refine G.step (OG.box (cs := [.int .i64 (cr), vcd]) rfl rfl rfl) rfl rfl rfl ?_
 rintro _ _ ⟨g1, rfl, rfl⟩
 refine G.stepD (OD.assign rfl rfl) rfl rfl rfl ?_
 refine G.stepD (OD.assign rfl rfl) rfl rfl rfl ?_
 refine G.nil (GE.then_ (GC.seq (GC.region ?_)))
 refine G.stepD (OD.loadAgg rfl ti27 rfl (i := 0) rfl (us := [.int .i64 (cr), vcd]) rfl rfl) rfl rfl rfl ?_
 refine G.step (OG.call [.agg #[.int .i64 (cr), vcd]] ent97 rfl rfl rfl rfl (by exact (l5Parts_w scd (Ent.drop 1 ecd) (hl0)))) rfl rfl rfl ?_
 rintro _ _ ⟨v2, rfl, hs3, rfl⟩
 refine G.stepD (OD.move rfl rfl) rfl rfl rfl ?_
 refine G.stepD (OD.extract rfl rfl rfl) rfl rfl rfl ?_
 refine G.stepD (OD.extract rfl rfl rfl) rfl rfl rfl ?_
 refine G.stepD (OD.assign rfl rfl) rfl rfl rfl ?_
 refine G.stepD (OD.assign rfl rfl) rfl rfl rfl ?_
 refine G.nil (GE.then_ (GC.seq (GC.seq (GC.region ?_))))
 refine G.stepD (OD.move rfl rfl) rfl rfl rfl ?_
 refine G.stepD (OD.not rfl rfl) rfl rfl rfl ?_
 refine G.stepD (OD.move rfl rfl) rfl rfl rfl ?_
 rcases Bool.eq_false_or_eq_true (!((tyS cr cd).isSome)) with hg4 | hg4
 have hg4e := hg4
 refine G.at [] 0 (env' := [(0, .agg #[.int .i64 (cr), vcd]), (1, .pointer (some ⟨g1, 0, none⟩)), (2, .slice none 0 0), (3, .bool false), (8, .agg #[.int .i64 (cr), vcd]), (9, .tuple #[v2, .bool ((tyS cr cd).isSome)]), (7, .tuple #[v2, .bool ((tyS cr cd).isSome)]), (10, v2), (11, .bool ((tyS cr cd).isSome)), (4, v2), (5, .bool ((tyS cr cd).isSome)), (12, .bool ((tyS cr cd).isSome)), (13, .bool true), (14, .bool true)]) (⟨rfl, rfl, rfl, rfl, rfl, rfl, rfl, rfl, rfl, rfl, rfl, rfl, (congrArg (fun b => some (Value.bool b)) hg4e), (congrArg (fun b => some (Value.bool b)) hg4e), trivial⟩) rfl ?_
 replace hg4 := eq_false_of_not hg4
 refine G.skipG rfl rfl rfl rfl rfl rfl (G.skipG rfl rfl rfl rfl rfl rfl (G.skipG rfl rfl rfl rfl rfl rfl ?_))
 refine G.stepD (OD.pickT rfl rfl rfl) rfl rfl rfl ?_
 refine G.nil (GE.then_ (GC.condT rfl (GC.seq (GC.region ?_))))
 refine G.stepD (OD.assign rfl rfl) rfl rfl rfl ?_
 refine G.stepD (OD.assign rfl rfl) rfl rfl rfl ?_
 refine G.nil (GE.then_ (GC.ret (GE.passR ?_)))
 skip
 refine GE.nilInts 3 ?_
 exact GE.body [0] 2 (res2 rfl rfl rfl) rfl (⟨(.slice none 0 0), congrArg (fun (a1 : Bool) => (.tuple #[(.slice none 0 0), .bool (a1)] : Value)) ((by rw [oneP, hg4] <;> rfl : (false : Bool) = oneP cr cd)), IsS.nil, congrArg (fun (l0 : List Int) => ints 3 (.slice none 0 0) l0 :: own) ((by rw [hrA, oneP, hg4] <;> rfl : [] = hrA cr cd))⟩)
 have hg4e := hg4
 refine G.at [] 0 (env' := [(0, .agg #[.int .i64 (cr), vcd]), (1, .pointer (some ⟨g1, 0, none⟩)), (2, .slice none 0 0), (3, .bool false), (8, .agg #[.int .i64 (cr), vcd]), (9, .tuple #[v2, .bool ((tyS cr cd).isSome)]), (7, .tuple #[v2, .bool ((tyS cr cd).isSome)]), (10, v2), (11, .bool ((tyS cr cd).isSome)), (4, v2), (5, .bool ((tyS cr cd).isSome)), (12, .bool ((tyS cr cd).isSome)), (13, .bool false), (14, .bool false)]) (⟨rfl, rfl, rfl, rfl, rfl, rfl, rfl, rfl, rfl, rfl, rfl, rfl, (congrArg (fun b => some (Value.bool b)) hg4e), (congrArg (fun b => some (Value.bool b)) hg4e), trivial⟩) rfl ?_
 replace hg4 := eq_true_of_not hg4
 refine G.stepGD (OD.move rfl rfl) rfl rfl rfl rfl rfl ?_
 refine G.stepGD (OD.len rfl rfl et93 rfl (Ent.strs (i := 0) rfl)) rfl rfl rfl rfl rfl ?_
 refine G.stepGD (OD.gtr rfl rfl rfl) rfl rfl rfl rfl rfl ?_
 refine G.stepD (OD.pickF rfl rfl rfl) rfl rfl rfl ?_
 refine G.nil (GE.then_ ?_)
 refine GC.cond rfl (fun hc5 => ?_) (fun hc5 => ?_)
 replace hc5 := of_decide_eq_true hc5
 have hp1 : decide (1 < (psN (tyS cr cd)).length) = true := decide_eq_true (by omega)
 refine GC.seq (GC.region ?_)
 refine G.stepD (OD.assign rfl rfl) rfl rfl rfl ?_
 refine G.stepD (OD.assign rfl rfl) rfl rfl rfl ?_
 refine G.nil (GE.then_ (GC.ret (GE.passR ?_)))
 skip
 refine GE.nilInts 3 ?_
 exact GE.body [0] 2 (res2 rfl rfl rfl) rfl (⟨(.slice none 0 0), congrArg (fun (a1 : Bool) => (.tuple #[(.slice none 0 0), .bool (a1)] : Value)) ((by rw [oneP, hg4, hp1] <;> rfl : (false : Bool) = oneP cr cd)), IsS.nil, congrArg (fun (l0 : List Int) => ints 3 (.slice none 0 0) l0 :: own) ((by rw [hrA, oneP, hg4, hp1] <;> rfl : [] = hrA cr cd))⟩)
 replace hc5 := of_decide_eq_false hc5
 have hp1 : decide (1 < (psN (tyS cr cd)).length) = false := decide_eq_false (by omega)
 have hS := hg4
 have hrp := (rtOk hS).pos
 have hrl := (rtOk hS).lo
 have hrs := (rtOk hS).slen
 have hrk := (rtOk hS).rk
 have hrf := (rtOk hS).few
 refine GC.skip (GE.then_ (GC.seq (GC.region ?_)))
 refine G.stepD (OD.loadAgg rfl ti27 rfl (i := 1) rfl (us := [.int .i64 (cr), vcd]) rfl rfl) rfl rfl rfl ?_
 refine G.step (OG.call [.agg #[.int .i64 (cr), vcd]] ent98 rfl rfl rfl rfl (by exact (l5Roots_w scd (Ent.drop 2 ecd) ((tyS_ok hS).1) ((tyS_ok hS).2) (hS)))) rfl rfl rfl ?_
 rintro v6 _ ⟨_, u7, rfl, hs8, hs9, hs10, rfl⟩
 refine G.stepD (OD.assign rfl rfl) rfl rfl rfl ?_
 refine G.nil (GE.then_ (GC.seq (GC.region ?_)))
 refine G.stepD (OD.move rfl rfl) rfl rfl rfl ?_
 refine G.stepD (OD.move rfl rfl) rfl rfl rfl ?_
 refine G.stepD (OD.len rfl rfl et39 rfl (Ent.lst (i := 0) rfl)) rfl rfl rfl ?_
 refine G.stepD (OD.subI rfl rfl rfl (by omega)) rfl rfl rfl ?_
 refine G.stepD (OD.indexAddr rfl et39 rfl (Ent.lst (i := 0) rfl) rfl (by omega)) rfl rfl rfl ?_
 refine G.stepD (OD.loadElem rfl ti22 rfl (Ent.lst (i := 0) rfl) (by omega) rfl) rfl rfl rfl ?_
 refine G.stepD (OD.assign rfl rfl) rfl rfl rfl ?_
 refine G.stepD (OD.assign rfl rfl) rfl rfl rfl ?_
 refine G.nil (GE.then_ (GC.ret ?_))
 refine GE.at [1, 0, 0, 0] 0 (env' := [(0, .agg #[.int .i64 (cr), vcd]), (1, .pointer (some ⟨g1, 0, none⟩)), (8, .agg #[.int .i64 (cr), vcd]), (9, .tuple #[v2, .bool ((tyS cr cd).isSome)]), (7, .tuple #[v2, .bool ((tyS cr cd).isSome)]), (10, v2), (11, .bool ((tyS cr cd).isSome)), (4, v2), (5, .bool ((tyS cr cd).isSome)), (12, .bool ((tyS cr cd).isSome)), (13, .bool false), (14, .bool false), (15, v2), (16, .int .i64 (((psN (tyS cr cd)).length : Nat))), (17, .bool (decide ((1 : Int) < ((psN (tyS cr cd)).length : Nat)))), (18, .bool (decide ((1 : Int) < ((psN (tyS cr cd)).length : Nat)))), (19, .agg #[.int .i64 (cr), vcd]), (20, v6), (6, v6), (21, v6), (22, v6), (23, .int .i64 ((u7.length : Nat))), (24, .int .i64 ((u7.length : Nat) - 1)), (25, elemPtr v6 1 (((u7.length : Nat) - 1 : Int).toNat)), (26, (u7.getD (((u7.length : Nat) - 1 : Int).toNat) undef)), (2, (u7.getD (((u7.length : Nat) - 1 : Int).toNat) undef)), (3, .bool true)]) ⟨rfl, rfl, rfl, rfl, rfl, rfl, rfl, rfl, rfl, rfl, rfl, rfl, rfl, rfl, rfl, rfl, rfl, rfl, rfl, rfl, rfl, rfl, rfl, rfl, rfl, rfl, rfl, trivial⟩ (own' := many (ints 3) u7 (rSt cr cd) :: lst 22 v6 u7 :: strs 9 v2 (psN (tyS cr cd)) :: box g1 27 [.int .i64 (cr), vcd] :: own) rfl ?_
 refine GE.manyTake (((u7.length : Nat) - 1 : Int).toNat) [] ⟨by omega, by omega⟩ ?_
 skip
 exact GE.body [0] 3 (res2 rfl rfl rfl) rfl (⟨(u7.getD (((u7.length : Nat) - 1 : Int).toNat) undef), congrArg (fun (a1 : Bool) => (.tuple #[(u7.getD (((u7.length : Nat) - 1 : Int).toNat) undef), .bool (a1)] : Value)) ((by rw [oneP, hg4, hp1] <;> rfl : (true : Bool) = oneP cr cd)), (hs9.get (by omega)), congrArg (fun (l0 : List Int) => ints 3 (u7.getD (((u7.length : Nat) - 1 : Int).toNat) undef) l0 :: own) ((by rw [hrA, if_pos (show oneP cr cd = true by rw [oneP, hg4, hp1]; rfl), ← hs10]; congr 1; omega : (rSt cr cd).getD (((u7.length : Nat) - 1 : Int).toNat) [] = hrA cr cd))⟩)
set_option maxRecDepth 100000 in
theorem highestRoot_w {W : World} {own : List Asn} {cr : Int} {vcd : Value} {cd : List Int}  (scd : IsS vcd) (ecd : Ent own fun w => Ints w vcd cd)  (hl0 : cd.length ≤ 1073741824) (hg : Ent own fun w => ∃ m, w.cell? ⟨Tryz.l146_ren.g 1, 0, none⟩ = some (.int .i64 m)) (htab : Ent own Pow10) : Spec Tryz.prog 39 [.agg #[.int .i64 (cr), vcd]] W own (fun v ow => ∃ (r0 : Value), v = .tuple #[r0, .bool (oneP cr cd)] ∧ IsS r0 ∧ ow = ints 3 r0 (hrA cr cd) :: own) := by
 refine Spec.enter Tryz.f39 _ Tryz.func39 rfl (n := 22) rfl rfl ?_
 refine GC.seq (GC.region ?_)
 refine G.step (OG.box (cs := [.int .i64 (cr), vcd]) rfl rfl rfl) rfl rfl rfl ?_
 rintro _ _ ⟨g1, rfl, rfl⟩
 refine G.stepD (OD.assign rfl rfl) rfl rfl rfl ?_
 refine G.stepD (OD.assign rfl rfl) rfl rfl rfl ?_
 refine G.nil (GE.then_ (GC.seq (GC.seq (GC.region ?_))))
 refine G.stepD (OD.loadAgg rfl ti27 rfl (i := 0) rfl (us := [.int .i64 (cr), vcd]) rfl rfl) rfl rfl rfl ?_
 refine G.step (OG.call [.agg #[.int .i64 (cr), vcd]] ent43 rfl rfl rfl rfl (by exact (isCartan_w scd (Ent.drop 1 ecd) (hl0) ((Ent.drop 1 hg))))) rfl rfl rfl ?_
 rintro _ _ ⟨rfl, rfl⟩
 refine G.stepD (OD.not rfl rfl) rfl rfl rfl ?_
 refine G.stepD (OD.move rfl rfl) rfl rfl rfl ?_
 rcases Bool.eq_false_or_eq_true (!((tyS cr cd).isSome)) with hg2 | hg2
 have hg2e := hg2
 refine G.at [] 0 (env' := [(0, .agg #[.int .i64 (cr), vcd]), (1, .pointer (some ⟨g1, 0, none⟩)), (2, .slice none 0 0), (3, .bool false), (5, .agg #[.int .i64 (cr), vcd]), (6, .bool ((tyS cr cd).isSome)), (7, .bool true), (8, .bool true)]) (⟨rfl, rfl, rfl, rfl, rfl, rfl, (congrArg (fun b => some (Value.bool b)) hg2e), (congrArg (fun b => some (Value.bool b)) hg2e), trivial⟩) rfl ?_
 replace hg2 := eq_false_of_not hg2
 refine G.skipG rfl rfl rfl rfl rfl rfl (G.skipG rfl rfl rfl rfl rfl rfl (G.skipG rfl rfl rfl rfl rfl rfl ?_))
 refine G.stepD (OD.pickT rfl rfl rfl) rfl rfl rfl ?_
 refine G.nil (GE.then_ (GC.condT rfl (GC.seq (GC.region ?_))))
 refine G.stepD (OD.assign rfl rfl) rfl rfl rfl ?_
 refine G.stepD (OD.assign rfl rfl) rfl rfl rfl ?_
 refine G.nil (GE.then_ (GC.ret (GE.passR ?_)))
 skip
 refine GE.nilInts 3 ?_
 exact GE.body [0] 1 (res2 rfl rfl rfl) rfl (⟨(.slice none 0 0), congrArg (fun (a1 : Bool) => (.tuple #[(.slice none 0 0), .bool (a1)] : Value)) ((by rw [oneP, hg2] <;> rfl : (false : Bool) = oneP cr cd)), IsS.nil, congrArg (fun (l0 : List Int) => ints 3 (.slice none 0 0) l0 :: own) ((by rw [hrA, oneP, hg2] <;> rfl : [] = hrA cr cd))⟩)
 have hg2e := hg2
 refine G.at [] 0 (env' := [(0, .agg #[.int .i64 (cr), vcd]), (1, .pointer (some ⟨g1, 0, none⟩)), (2, .slice none 0 0), (3, .bool false), (5, .agg #[.int .i64 (cr), vcd]), (6, .bool ((tyS cr cd).isSome)), (7, .bool false), (8, .bool false)]) (⟨rfl, rfl, rfl, rfl, rfl, rfl, (congrArg (fun b => some (Value.bool b)) hg2e), (congrArg (fun b => some (Value.bool b)) hg2e), trivial⟩) rfl ?_
 replace hg2 := eq_true_of_not hg2
 refine G.stepGD (OD.loadAgg rfl ti27 rfl (i := 0) rfl (us := [.int .i64 (cr), vcd]) rfl rfl) rfl rfl rfl rfl rfl ?_
 refine G.stepG (OG.call [.agg #[.int .i64 (cr), vcd]] ent44 rfl rfl rfl rfl (by exact (typeOf_w scd (Ent.drop 1 ecd) (hl0) ((Ent.drop 1 hg))))) rfl rfl rfl rfl rfl ?_
 rintro _ _ ⟨rfl, rfl⟩
 refine G.stepG (OG.call [.string (tyN (tyS cr cd)), .string (⟨#[43]⟩)] ent96 rfl rfl rfl rfl (by exact contains1_w)) rfl rfl rfl rfl rfl ?_
 rintro _ _ ⟨rfl, rfl⟩
 refine G.stepD (OD.pickF rfl rfl rfl) rfl rfl rfl ?_
 refine G.nil (GE.then_ ?_)
 refine GC.cond rfl (fun hc3 => ?_) (fun hc3 => ?_)
 have hp1 : decide (1 < (psN (tyS cr cd)).length) = true := (tyN_plus hg2).symm.trans hc3
 refine GC.seq (GC.region ?_)
 refine G.stepD (OD.assign rfl rfl) rfl rfl rfl ?_
 refine G.stepD (OD.assign rfl rfl) rfl rfl rfl ?_
 refine G.nil (GE.then_ (GC.ret (GE.passR ?_)))
 skip
 refine GE.nilInts 3 ?_
 exact GE.body [0] 1 (res2 rfl rfl rfl) rfl (⟨(.slice none 0 0), congrArg (fun (a1 : Bool) => (.tuple #[(.slice none 0 0), .bool (a1)] : Value)) ((by rw [oneP, hg2, hp1] <;> rfl : (false : Bool) = oneP cr cd)), IsS.nil, congrArg (fun (l0 : List Int) => ints 3 (.slice none 0 0) l0 :: own) ((by rw [hrA, oneP, hg2, hp1] <;> rfl : [] = hrA cr cd))⟩)
 have hp1 : decide (1 < (psN (tyS cr cd)).length) = false := (tyN_plus hg2).symm.trans hc3
 have hS := hg2
 have hrp := (rtOk hS).pos
 have hrl := (rtOk hS).lo
 have hrs := (rtOk hS).slen
 have hrk := (rtOk hS).rk
 have hrf := (rtOk hS).few
 refine GC.skip (GE.then_ (GC.seq (GC.region ?_)))
 refine G.stepD (OD.loadAgg rfl ti27 rfl (i := 0) rfl (us := [.int .i64 (cr), vcd]) rfl rfl) rfl rfl rfl ?_
 refine G.step (OG.call [.agg #[.int .i64 (cr), vcd]] ent78 rfl rfl rfl rfl (by exact (newRoots_w scd (Ent.drop 1 ecd) ((tyS_ok hS).1) ((tyS_ok hS).2) (hS) ((Ent.drop 1 htab))))) rfl rfl rfl ?_
 rintro _ _ ⟨v4, u5, g9, rfl, hs6, hs7, hs8, rfl⟩
 refine G.stepD (OD.field (us := [.int .i64 (cr), vcd, v4, .map (some g9)]) rfl fd80_1 rfl rfl) rfl rfl rfl ?_
 refine G.stepD (OD.assign rfl rfl) rfl rfl rfl ?_
 refine G.nil (GE.then_ (GC.seq (GC.region ?_)))
 refine G.stepD (OD.move rfl rfl) rfl rfl rfl ?_
 refine G.stepD (OD.move rfl rfl) rfl rfl rfl ?_
 refine G.stepD (OD.len rfl rfl et39 rfl (Ent.lst (i := 0) rfl)) rfl rfl rfl ?_
 refine G.stepD (OD.subI rfl rfl rfl (by omega)) rfl rfl rfl ?_
 refine G.stepD (OD.indexAddr rfl et39 rfl (Ent.lst (i := 0) rfl) rfl (by omega)) rfl rfl rfl ?_
 refine G.stepD (OD.loadElem rfl ti22 rfl (Ent.lst (i := 0) rfl) (by omega) rfl) rfl rfl rfl ?_
 refine G.stepD (OD.assign rfl rfl) rfl rfl rfl ?_
 refine G.stepD (OD.assign rfl rfl) rfl rfl rfl ?_
 refine G.nil (GE.then_ (GC.ret ?_))
 refine GE.at [1, 0, 0, 0] 0 (env' := [(0, .agg #[.int .i64 (cr), vcd]), (1, .pointer (some ⟨g1, 0, none⟩)), (5, .agg #[.int .i64 (cr), vcd]), (6, .bool ((tyS cr cd).isSome)), (7, .bool false), (8, .bool false), (9, .agg #[.int .i64 (cr), vcd]), (10, .string (tyN (tyS cr cd))), (11, .bool (decide (0 ≤ Lib.indexByte (tyN (tyS cr cd)).data.toList 43))), (12, .bool (decide (0 ≤ Lib.indexByte (tyN (tyS cr cd)).data.toList 43))), (13, .agg #[.int .i64 (cr), vcd]), (14, .agg #[.int .i64 (cr), vcd, v4, .map (some g9)]), (15, v4), (4, v4), (16, v4), (17, v4), (18, .int .i64 ((u5.length : Nat))), (19, .int .i64 ((u5.length : Nat) - 1)), (20, elemPtr v4 1 (((u5.length : Nat) - 1 : Int).toNat)), (21, (u5.getD (((u5.length : Nat) - 1 : Int).toNat) undef)), (2, (u5.getD (((u5.length : Nat) - 1 : Int).toNat) undef)), (3, .bool true)]) ⟨rfl, rfl, rfl, rfl, rfl, rfl, rfl, rfl, rfl, rfl, rfl, rfl, rfl, rfl, rfl, rfl, rfl, rfl, rfl, rfl, rfl, rfl, trivial⟩ (own' := many (ints 3) u5 (rSt cr cd) :: lst 22 v4 u5 :: mapA keyL valI g9 (rKvs cr cd) :: box g1 27 [.int .i64 (cr), vcd] :: own) rfl ?_
 refine GE.manyTake (((u5.length : Nat) - 1 : Int).toNat) [] ⟨by omega, by omega⟩ ?_
 skip
 exact GE.body [0] 3 (res2 rfl rfl rfl) rfl (⟨(u5.getD (((u5.length : Nat) - 1 : Int).toNat) undef), congrArg (fun (a1 : Bool) => (.tuple #[(u5.getD (((u5.length : Nat) - 1 : Int).toNat) undef), .bool (a1)] : Value)) ((by rw [oneP, hg2, hp1] <;> rfl : (true : Bool) = oneP cr cd)), (hs7.get (by omega)), congrArg (fun (l0 : List Int) => ints 3 (u5.getD (((u5.length : Nat) - 1 : Int).toNat) undef) l0 :: own) ((by rw [hrA, if_pos (show oneP cr cd = true by rw [oneP, hg2, hp1]; rfl), ← hs8]; congr 1; omega : (rSt cr cd).getD (((u5.length : Nat) - 1 : Int).toNat) [] = hrA cr cd))⟩)
end Go.Proofs.YtgelkakjmbiibaaGreatDoor
