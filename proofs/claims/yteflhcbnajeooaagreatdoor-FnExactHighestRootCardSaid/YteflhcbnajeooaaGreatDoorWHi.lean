/-
  The highest root: contracts by walks.
-/
import Derived.Test.YteflhcbnajeooaaGreatDoorWNewA
import Derived.Test.YteflhcbnajeooaaGreatDoorHi
namespace Go.Proofs.YteflhcbnajeooaaGreatDoor
set_option linter.unusedVariables false
set_option linter.unusedSimpArgs false
open Go.RowKit

theorem fd56_1 : FD Tryz.prog 56 1 2 := by have h := fd_of (f := 1) Tryz.underlying56 rfl (fun w => by kernel_rfl); exact h
theorem ent11 : ∀ us w, (callFunc 11 us).run Tryz.prog w = .ok (.enter 11 us) w := fun us w => by kernel_rfl
theorem ent12 : ∀ us w, (callFunc 12 us).run Tryz.prog w = .ok (.enter 12 us) w := fun us w => by kernel_rfl
theorem ent13 : ∀ us w, (callFunc 13 us).run Tryz.prog w = .ok (.enter 13 us) w := fun us w => by kernel_rfl
theorem ent14 : ∀ us w, (callFunc 14 us).run Tryz.prog w = .ok (.enter 14 us) w := fun us w => by kernel_rfl
theorem ent16 : ∀ us w, (callFunc 16 us).run Tryz.prog w = .ok (.enter 16 us) w := fun us w => by kernel_rfl
theorem ent17 : ∀ us w, (callFunc 17 us).run Tryz.prog w = .ok (.enter 17 us) w := fun us w => by kernel_rfl
theorem ent19 : ∀ us w, (callFunc 19 us).run Tryz.prog w = .ok (.enter 19 us) w := fun us w => by kernel_rfl
theorem ent39 : ∀ us w, (callFunc 39 us).run Tryz.prog w = .ok (.enter 39 us) w := fun us w => by kernel_rfl
theorem bt4 : BT Tryz.prog 4 := ⟨fun a b w => by cases a <;> cases b <;> kernel_rfl, fun a b w => by cases a <;> cases b <;> kernel_rfl⟩

set_option maxRecDepth 100000 in
theorem specHighestRoot_w {W : World} {own : List Asn} {cr : Int} {vcd : Value} {cd : List Int}  (scd : IsS vcd) (ecd : Ent own fun w => Ints w vcd cd)  (hl0 : cd.length ≤ 1073741824) : Spec Tryz.prog 12 [.agg #[.int .i64 (cr), vcd]] W own (fun v ow => ∃ (r0 : Value), v = .tuple #[r0, .bool (oneP cr cd)] ∧ IsS r0 ∧ ow = ints 3 r0 (hrA cr cd) :: own) := by
 refine Spec.enter Tryz.f12 _ Tryz.func12 rfl (n := 27) rfl rfl ?_
 refine GC.seq (GC.region ?_)
 refine G.step (OG.box (cs := [.int .i64 (cr), vcd]) rfl rfl rfl) rfl rfl rfl ?_
 rintro _ _ ⟨g1, rfl, rfl⟩
 refine G.stepD (OD.assign rfl rfl) rfl rfl rfl ?_
 refine G.stepD (OD.assign rfl rfl) rfl rfl rfl ?_
 refine G.nil (GE.then_ (GC.seq (GC.region ?_)))
 refine G.stepD (OD.loadAgg rfl ti28 rfl (i := 0) rfl (us := [.int .i64 (cr), vcd]) rfl rfl) rfl rfl rfl ?_
 refine G.step (OG.call [.agg #[.int .i64 (cr), vcd]] ent36 rfl rfl rfl rfl (by exact (l5Parts_w scd (Ent.drop 1 ecd) (hl0)))) rfl rfl rfl ?_
 rintro _ _ ⟨v2, rfl, hs3, rfl⟩
 refine G.stepD (OD.move rfl rfl) rfl rfl rfl ?_
 refine G.stepD (OD.extract rfl rfl rfl) rfl rfl rfl ?_
 refine G.stepD (OD.extract rfl rfl rfl) rfl rfl rfl ?_
 refine G.stepD (OD.assign rfl rfl) rfl rfl rfl ?_
 refine G.stepD (OD.assign rfl rfl) rfl rfl rfl ?_
 refine G.nil (GE.then_ (GC.seq (GC.seq (GC.region ?_))))
 refine G.stepD (OD.move rfl rfl) rfl rfl rfl ?_
 refine G.stepD (OD.not rfl rfl) rfl rfl rfl ?_
 refine G.stepD (OD.move rfl rfl) rfl rfl rfl ?_
 rcases Bool.eq_false_or_eq_true (!((tyS cr cd).isSome)) with hg4 | hg4
 have hg4e := hg4
 refine G.at [] 0 (env' := [(0, .agg #[.int .i64 (cr), vcd]), (1, .pointer (some ⟨g1, 0, none⟩)), (2, .slice none 0 0), (3, .bool false), (8, .agg #[.int .i64 (cr), vcd]), (9, .tuple #[v2, .bool ((tyS cr cd).isSome)]), (7, .tuple #[v2, .bool ((tyS cr cd).isSome)]), (10, v2), (11, .bool ((tyS cr cd).isSome)), (4, v2), (5, .bool ((tyS cr cd).isSome)), (12, .bool ((tyS cr cd).isSome)), (13, .bool true), (14, .bool true)]) (⟨rfl, rfl, rfl, rfl, rfl, rfl, rfl, rfl, rfl, rfl, rfl, rfl, (congrArg (fun b => some (Value.bool b)) hg4e), (congrArg (fun b => some (Value.bool b)) hg4e), trivial⟩) rfl ?_
 replace hg4 := eq_false_of_not hg4
 refine G.skipG rfl rfl rfl rfl rfl rfl (G.skipG rfl rfl rfl rfl rfl rfl (G.skipG rfl rfl rfl rfl rfl rfl ?_))
 refine G.stepD (OD.pickT rfl rfl rfl) rfl rfl rfl ?_
 refine G.nil (GE.then_ (GC.condT rfl (GC.seq (GC.region ?_))))
 refine G.stepD (OD.assign rfl rfl) rfl rfl rfl ?_
 refine G.stepD (OD.assign rfl rfl) rfl rfl rfl ?_
 refine G.nil (GE.then_ (GC.ret (GE.passR ?_)))
 skip
 refine GE.nilInts 3 ?_
 exact GE.body [0] 2 (res2 rfl rfl rfl) rfl (⟨(.slice none 0 0), congrArg (fun (a1 : Bool) => (.tuple #[(.slice none 0 0), .bool (a1)] : Value)) ((by rw [oneP, hg4] <;> rfl : (false : Bool) = oneP cr cd)), IsS.nil, congrArg (fun (l0 : List Int) => ints 3 (.slice none 0 0) l0 :: own) ((by rw [hrA, oneP, hg4] <;> rfl : [] = hrA cr cd))⟩)
 have hg4e := hg4
 refine G.at [] 0 (env' := [(0, .agg #[.int .i64 (cr), vcd]), (1, .pointer (some ⟨g1, 0, none⟩)), (2, .slice none 0 0), (3, .bool false), (8, .agg #[.int .i64 (cr), vcd]), (9, .tuple #[v2, .bool ((tyS cr cd).isSome)]), (7, .tuple #[v2, .bool ((tyS cr cd).isSome)]), (10, v2), (11, .bool ((tyS cr cd).isSome)), (4, v2), (5, .bool ((tyS cr cd).isSome)), (12, .bool ((tyS cr cd).isSome)), (13, .bool false), (14, .bool false)]) (⟨rfl, rfl, rfl, rfl, rfl, rfl, rfl, rfl, rfl, rfl, rfl, rfl, (congrArg (fun b => some (Value.bool b)) hg4e), (congrArg (fun b => some (Value.bool b)) hg4e), trivial⟩) rfl ?_
 replace hg4 := eq_true_of_not hg4
 refine G.stepGD (OD.move rfl rfl) rfl rfl rfl rfl rfl ?_
 refine G.stepGD (OD.len rfl rfl et46 rfl (Ent.strs (i := 0) rfl)) rfl rfl rfl rfl rfl ?_
 refine G.stepGD (OD.gtr rfl rfl rfl) rfl rfl rfl rfl rfl ?_
 refine G.stepD (OD.pickF rfl rfl rfl) rfl rfl rfl ?_
 refine G.nil (GE.then_ ?_)
 refine GC.cond rfl (fun hc5 => ?_) (fun hc5 => ?_)
 replace hc5 := of_decide_eq_true hc5
 have hp1 : decide (1 < (psN (tyS cr cd)).length) = true := decide_eq_true (by omega)
 refine GC.seq (GC.region ?_)
 refine G.stepD (OD.assign rfl rfl) rfl rfl rfl ?_
 refine G.stepD (OD.assign rfl rfl) rfl rfl rfl ?_
 refine G.nil (GE.then_ (GC.ret (GE.passR ?_)))
 skip
 refine GE.nilInts 3 ?_
 exact GE.body [0] 2 (res2 rfl rfl rfl) rfl (⟨(.slice none 0 0), congrArg (fun (a1 : Bool) => (.tuple #[(.slice none 0 0), .bool (a1)] : Value)) ((by rw [oneP, hg4, hp1] <;> rfl : (false : Bool) = oneP cr cd)), IsS.nil, congrArg (fun (l0 : List Int) => ints 3 (.slice none 0 0) l0 :: own) ((by rw [hrA, oneP, hg4, hp1] <;> rfl : [] = hrA cr cd))⟩)
 replace hc5 := of_decide_eq_false hc5
 have hp1 : decide (1 < (psN (tyS cr cd)).length) = false := decide_eq_false (by omega)
 have hS := hg4
 have hrp := (rtOk hS).pos
 have hrl := (rtOk hS).lo
 have hrs := (rtOk hS).slen
 have hrk := (rtOk hS).rk
 have hrf := (rtOk hS).few
 refine GC.skip (GE.then_ (GC.seq (GC.region ?_)))
 refine G.stepD (OD.loadAgg rfl ti28 rfl (i := 1) rfl (us := [.int .i64 (cr), vcd]) rfl rfl) rfl rfl rfl ?_
 refine G.step (OG.call [.agg #[.int .i64 (cr), vcd]] ent37 rfl rfl rfl rfl (by exact (l5Roots_w scd (Ent.drop 2 ecd) ((tyS_ok hS).1) ((tyS_ok hS).2) (hS)))) rfl rfl rfl ?_
 rintro v6 _ ⟨_, u7, rfl, hs8, hs9, hs10, rfl⟩
 refine G.stepD (OD.assign rfl rfl) rfl rfl rfl ?_
 refine G.nil (GE.then_ (GC.seq (GC.region ?_)))
 refine G.stepD (OD.move rfl rfl) rfl rfl rfl ?_
 refine G.stepD (OD.move rfl rfl) rfl rfl rfl ?_
 refine G.stepD (OD.len rfl rfl et49 rfl (Ent.lst (i := 0) rfl)) rfl rfl rfl ?_
 refine G.stepD (OD.subI rfl rfl rfl (by omega)) rfl rfl rfl ?_
 refine G.stepD (OD.indexAddr rfl et49 rfl (Ent.lst (i := 0) rfl) rfl (by omega)) rfl rfl rfl ?_
 refine G.stepD (OD.loadElem rfl ti22 rfl (Ent.lst (i := 0) rfl) (by omega) rfl) rfl rfl rfl ?_
 refine G.stepD (OD.assign rfl rfl) rfl rfl rfl ?_
 refine G.stepD (OD.assign rfl rfl) rfl rfl rfl ?_
 refine G.nil (GE.then_ (GC.ret ?_))
 refine GE.at [1, 0, 0, 0] 0 (env' := [(0, .agg #[.int .i64 (cr), vcd]), (1, .pointer (some ⟨g1, 0, none⟩)), (8, .agg #[.int .i64 (cr), vcd]), (9, .tuple #[v2, .bool ((tyS cr cd).isSome)]), (7, .tuple #[v2, .bool ((tyS cr cd).isSome)]), (10, v2), (11, .bool ((tyS cr cd).isSome)), (4, v2), (5, .bool ((tyS cr cd).isSome)), (12, .bool ((tyS cr cd).isSome)), (13, .bool false), (14, .bool false), (15, v2), (16, .int .i64 (((psN (tyS cr cd)).length : Nat))), (17, .bool (decide ((1 : Int) < ((psN (tyS cr cd)).length : Nat)))), (18, .bool (decide ((1 : Int) < ((psN (tyS cr cd)).length : Nat)))), (19, .agg #[.int .i64 (cr), vcd]), (20, v6), (6, v6), (21, v6), (22, v6), (23, .int .i64 ((u7.length : Nat))), (24, .int .i64 ((u7.length : Nat) - 1)), (25, elemPtr v6 1 (((u7.length : Nat) - 1 : Int).toNat)), (26, (u7.getD (((u7.length : Nat) - 1 : Int).toNat) undef)), (2, (u7.getD (((u7.length : Nat) - 1 : Int).toNat) undef)), (3, .bool true)]) ⟨rfl, rfl, rfl, rfl, rfl, rfl, rfl, rfl, rfl, rfl, rfl, rfl, rfl, rfl, rfl, rfl, rfl, rfl, rfl, rfl, rfl, rfl, rfl, rfl, rfl, rfl, rfl, trivial⟩ (own' := many (ints 3) u7 (rSt cr cd) :: lst 22 v6 u7 :: strs 9 v2 (psN (tyS cr cd)) :: box g1 28 [.int .i64 (cr), vcd] :: own) rfl ?_
 refine GE.manyTake (((u7.length : Nat) - 1 : Int).toNat) [] ⟨by omega, by omega⟩ ?_
 skip
 exact GE.body [0] 3 (res2 rfl rfl rfl) rfl (⟨(u7.getD (((u7.length : Nat) - 1 : Int).toNat) undef), congrArg (fun (a1 : Bool) => (.tuple #[(u7.getD (((u7.length : Nat) - 1 : Int).toNat) undef), .bool (a1)] : Value)) ((by rw [oneP, hg4, hp1] <;> rfl : (true : Bool) = oneP cr cd)), (hs9.get (by omega)), congrArg (fun (l0 : List Int) => ints 3 (u7.getD (((u7.length : Nat) - 1 : Int).toNat) undef) l0 :: own) ((by rw [hrA, if_pos (show oneP cr cd = true by rw [oneP, hg4, hp1]; rfl), ← hs10]; congr 1; omega : (rSt cr cd).getD (((u7.length : Nat) - 1 : Int).toNat) [] = hrA cr cd))⟩)

set_option maxRecDepth 100000 in
theorem highestRoot_w {W : World} {own : List Asn} {cr : Int} {vcd : Value} {cd : List Int}  (scd : IsS vcd) (ecd : Ent own fun w => Ints w vcd cd)  (hl0 : cd.length ≤ 1073741824) (hg : Ent own fun w => ∃ m, w.cell? ⟨Tryz.l146_ren.g 1, 0, none⟩ = some (.int .i64 m)) (htab : Ent own Pow10) : Spec Tryz.prog 14 [.agg #[.int .i64 (cr), vcd]] W own (fun v ow => ∃ (r0 : Value), v = .tuple #[r0, .bool (oneP cr cd)] ∧ IsS r0 ∧ ow = ints 3 r0 (hrA cr cd) :: own) := by
 refine Spec.enter Tryz.f14 _ Tryz.func14 rfl (n := 22) rfl rfl ?_
 refine GC.seq (GC.region ?_)
 refine G.step (OG.box (cs := [.int .i64 (cr), vcd]) rfl rfl rfl) rfl rfl rfl ?_
 rintro _ _ ⟨g1, rfl, rfl⟩
 refine G.stepD (OD.assign rfl rfl) rfl rfl rfl ?_
 refine G.stepD (OD.assign rfl rfl) rfl rfl rfl ?_
 refine G.nil (GE.then_ (GC.seq (GC.seq (GC.region ?_))))
 refine G.stepD (OD.loadAgg rfl ti28 rfl (i := 0) rfl (us := [.int .i64 (cr), vcd]) rfl rfl) rfl rfl rfl ?_
 refine G.step (OG.call [.agg #[.int .i64 (cr), vcd]] ent38 rfl rfl rfl rfl (by exact (isCartan_w scd (Ent.drop 1 ecd) (hl0) ((Ent.drop 1 hg))))) rfl rfl rfl ?_
 rintro _ _ ⟨rfl, rfl⟩
 refine G.stepD (OD.not rfl rfl) rfl rfl rfl ?_
 refine G.stepD (OD.move rfl rfl) rfl rfl rfl ?_
 rcases Bool.eq_false_or_eq_true (!((tyS cr cd).isSome)) with hg2 | hg2
 have hg2e := hg2
 refine G.at [] 0 (env' := [(0, .agg #[.int .i64 (cr), vcd]), (1, .pointer (some ⟨g1, 0, none⟩)), (2, .slice none 0 0), (3, .bool false), (5, .agg #[.int .i64 (cr), vcd]), (6, .bool ((tyS cr cd).isSome)), (7, .bool true), (8, .bool true)]) (⟨rfl, rfl, rfl, rfl, rfl, rfl, (congrArg (fun b => some (Value.bool b)) hg2e), (congrArg (fun b => some (Value.bool b)) hg2e), trivial⟩) rfl ?_
 replace hg2 := eq_false_of_not hg2
 refine G.skipG rfl rfl rfl rfl rfl rfl (G.skipG rfl rfl rfl rfl rfl rfl (G.skipG rfl rfl rfl rfl rfl rfl ?_))
 refine G.stepD (OD.pickT rfl rfl rfl) rfl rfl rfl ?_
 refine G.nil (GE.then_ (GC.condT rfl (GC.seq (GC.region ?_))))
 refine G.stepD (OD.assign rfl rfl) rfl rfl rfl ?_
 refine G.stepD (OD.assign rfl rfl) rfl rfl rfl ?_
 refine G.nil (GE.then_ (GC.ret (GE.passR ?_)))
 skip
 refine GE.nilInts 3 ?_
 exact GE.body [0] 1 (res2 rfl rfl rfl) rfl (⟨(.slice none 0 0), congrArg (fun (a1 : Bool) => (.tuple #[(.slice none 0 0), .bool (a1)] : Value)) ((by rw [oneP, hg2] <;> rfl : (false : Bool) = oneP cr cd)), IsS.nil, congrArg (fun (l0 : List Int) => ints 3 (.slice none 0 0) l0 :: own) ((by rw [hrA, oneP, hg2] <;> rfl : [] = hrA cr cd))⟩)
 have hg2e := hg2
 refine G.at [] 0 (env' := [(0, .agg #[.int .i64 (cr), vcd]), (1, .pointer (some ⟨g1, 0, none⟩)), (2, .slice none 0 0), (3, .bool false), (5, .agg #[.int .i64 (cr), vcd]), (6, .bool ((tyS cr cd).isSome)), (7, .bool false), (8, .bool false)]) (⟨rfl, rfl, rfl, rfl, rfl, rfl, (congrArg (fun b => some (Value.bool b)) hg2e), (congrArg (fun b => some (Value.bool b)) hg2e), trivial⟩) rfl ?_
 replace hg2 := eq_true_of_not hg2
 refine G.stepGD (OD.loadAgg rfl ti28 rfl (i := 0) rfl (us := [.int .i64 (cr), vcd]) rfl rfl) rfl rfl rfl rfl rfl ?_
 refine G.stepG (OG.call [.agg #[.int .i64 (cr), vcd]] ent40 rfl rfl rfl rfl (by exact (typeOf_w scd (Ent.drop 1 ecd) (hl0) ((Ent.drop 1 hg))))) rfl rfl rfl rfl rfl ?_
 rintro _ _ ⟨rfl, rfl⟩
 refine G.stepG (OG.call [.string (tyN (tyS cr cd)), .string (⟨#[43]⟩)] ent39 rfl rfl rfl rfl (by exact contains1_w)) rfl rfl rfl rfl rfl ?_
 rintro _ _ ⟨rfl, rfl⟩
 refine G.stepD (OD.pickF rfl rfl rfl) rfl rfl rfl ?_
 refine G.nil (GE.then_ ?_)
 refine GC.cond rfl (fun hc3 => ?_) (fun hc3 => ?_)
 have hp1 : decide (1 < (psN (tyS cr cd)).length) = true := (tyN_plus hg2).symm.trans hc3
 refine GC.seq (GC.region ?_)
 refine G.stepD (OD.assign rfl rfl) rfl rfl rfl ?_
 refine G.stepD (OD.assign rfl rfl) rfl rfl rfl ?_
 refine G.nil (GE.then_ (GC.ret (GE.passR ?_)))
 skip
 refine GE.nilInts 3 ?_
 exact GE.body [0] 1 (res2 rfl rfl rfl) rfl (⟨(.slice none 0 0), congrArg (fun (a1 : Bool) => (.tuple #[(.slice none 0 0), .bool (a1)] : Value)) ((by rw [oneP, hg2, hp1] <;> rfl : (false : Bool) = oneP cr cd)), IsS.nil, congrArg (fun (l0 : List Int) => ints 3 (.slice none 0 0) l0 :: own) ((by rw [hrA, oneP, hg2, hp1] <;> rfl : [] = hrA cr cd))⟩)
 have hp1 : decide (1 < (psN (tyS cr cd)).length) = false := (tyN_plus hg2).symm.trans hc3
 have hS := hg2
 have hrp := (rtOk hS).pos
 have hrl := (rtOk hS).lo
 have hrs := (rtOk hS).slen
 have hrk := (rtOk hS).rk
 have hrf := (rtOk hS).few
 refine GC.skip (GE.then_ (GC.seq (GC.region ?_)))
 refine G.stepD (OD.loadAgg rfl ti28 rfl (i := 0) rfl (us := [.int .i64 (cr), vcd]) rfl rfl) rfl rfl rfl ?_
 refine G.step (OG.call [.agg #[.int .i64 (cr), vcd]] ent41 rfl rfl rfl rfl (by exact (newRoots_w scd (Ent.drop 1 ecd) ((tyS_ok hS).1) ((tyS_ok hS).2) (hS) ((Ent.drop 1 htab))))) rfl rfl rfl ?_
 rintro _ _ ⟨v4, u5, g9, rfl, hs6, hs7, hs8, rfl⟩
 refine G.stepD (OD.field (us := [.int .i64 (cr), vcd, v4, .map (some g9)]) rfl fd56_1 rfl rfl) rfl rfl rfl ?_
 refine G.stepD (OD.assign rfl rfl) rfl rfl rfl ?_
 refine G.nil (GE.then_ (GC.seq (GC.region ?_)))
 refine G.stepD (OD.move rfl rfl) rfl rfl rfl ?_
 refine G.stepD (OD.move rfl rfl) rfl rfl rfl ?_
 refine G.stepD (OD.len rfl rfl et49 rfl (Ent.lst (i := 0) rfl)) rfl rfl rfl ?_
 refine G.stepD (OD.subI rfl rfl rfl (by omega)) rfl rfl rfl ?_
 refine G.stepD (OD.indexAddr rfl et49 rfl (Ent.lst (i := 0) rfl) rfl (by omega)) rfl rfl rfl ?_
 refine G.stepD (OD.loadElem rfl ti22 rfl (Ent.lst (i := 0) rfl) (by omega) rfl) rfl rfl rfl ?_
 refine G.stepD (OD.assign rfl rfl) rfl rfl rfl ?_
 refine G.stepD (OD.assign rfl rfl) rfl rfl rfl ?_
 refine G.nil (GE.then_ (GC.ret ?_))
 refine GE.at [1, 0, 0, 0] 0 (env' := [(0, .agg #[.int .i64 (cr), vcd]), (1, .pointer (some ⟨g1, 0, none⟩)), (5, .agg #[.int .i64 (cr), vcd]), (6, .bool ((tyS cr cd).isSome)), (7, .bool false), (8, .bool false), (9, .agg #[.int .i64 (cr), vcd]), (10, .string (tyN (tyS cr cd))), (11, .bool (decide (0 ≤ Lib.indexByte (tyN (tyS cr cd)).data.toList 43))), (12, .bool (decide (0 ≤ Lib.indexByte (tyN (tyS cr cd)).data.toList 43))), (13, .agg #[.int .i64 (cr), vcd]), (14, .agg #[.int .i64 (cr), vcd, v4, .map (some g9)]), (15, v4), (4, v4), (16, v4), (17, v4), (18, .int .i64 ((u5.length : Nat))), (19, .int .i64 ((u5.length : Nat) - 1)), (20, elemPtr v4 1 (((u5.length : Nat) - 1 : Int).toNat)), (21, (u5.getD (((u5.length : Nat) - 1 : Int).toNat) undef)), (2, (u5.getD (((u5.length : Nat) - 1 : Int).toNat) undef)), (3, .bool true)]) ⟨rfl, rfl, rfl, rfl, rfl, rfl, rfl, rfl, rfl, rfl, rfl, rfl, rfl, rfl, rfl, rfl, rfl, rfl, rfl, rfl, rfl, rfl, trivial⟩ (own' := many (ints 3) u5 (rSt cr cd) :: lst 22 v4 u5 :: mapA keyL valI g9 (rKvs cr cd) :: box g1 28 [.int .i64 (cr), vcd] :: own) rfl ?_
 refine GE.manyTake (((u5.length : Nat) - 1 : Int).toNat) [] ⟨by omega, by omega⟩ ?_
 skip
 exact GE.body [0] 3 (res2 rfl rfl rfl) rfl (⟨(u5.getD (((u5.length : Nat) - 1 : Int).toNat) undef), congrArg (fun (a1 : Bool) => (.tuple #[(u5.getD (((u5.length : Nat) - 1 : Int).toNat) undef), .bool (a1)] : Value)) ((by rw [oneP, hg2, hp1] <;> rfl : (true : Bool) = oneP cr cd)), (hs7.get (by omega)), congrArg (fun (l0 : List Int) => ints 3 (u5.getD (((u5.length : Nat) - 1 : Int).toNat) undef) l0 :: own) ((by rw [hrA, if_pos (show oneP cr cd = true by rw [oneP, hg2, hp1]; rfl), ← hs8]; congr 1; omega : (rSt cr cd).getD (((u5.length : Nat) - 1 : Int).toNat) [] = hrA cr cd))⟩)

set_option maxHeartbeats 4000000 in
set_option maxRecDepth 100000 in
theorem lawHighestRoot {W : World} {own : List Asn} {cr : Int} {vcd : Value} {cd : List Int}  (scd : IsS vcd) (ecd : Ent own fun w => Ints w vcd cd)  (hcd : cd.length ≤ 9223372036854775807) (hg : Ent own fun w => ∃ m, w.cell? ⟨Tryz.l146_ren.g 1, 0, none⟩ = some (.int .i64 m)) (htab : Ent own Pow10) : Spec Tryz.prog 3 [.agg #[.int .i64 (cr), vcd]] W own (fun v ow => v = .bool (true) ∧ ow = own) := by
 have hrl := hrA_len cr cd
 refine Spec.enter Tryz.f3 _ Tryz.func3 rfl (n := 96) rfl rfl ?_
 refine GC.seq (GC.region ?_)
 refine G.step (OG.box (cs := [.int .i64 (cr), vcd]) rfl rfl rfl) rfl rfl rfl ?_
 rintro _ _ ⟨g1, rfl, rfl⟩
 refine G.stepD (OD.assign rfl rfl) rfl rfl rfl ?_
 refine G.nil (GE.then_ (GC.seq (GC.region ?_)))
 refine G.stepD (OD.assign rfl rfl) rfl rfl rfl ?_
 refine G.nil (GE.then_ (GC.seq (GC.region ?_)))
 refine G.stepD (OD.loadAgg rfl ti24 rfl (i := 0) rfl (us := [.int .i64 (cr), vcd]) rfl rfl) rfl rfl rfl ?_
 refine G.stepD (OD.move rfl rfl) rfl rfl rfl ?_
 refine G.step (OG.call [.agg #[.int .i64 (cr), vcd], .int .i64 (1048576)] ent11 rfl rfl rfl rfl (by exact (szCartan_s scd (Ent.drop 1 ecd) (by omega) (by omega)))) rfl rfl rfl ?_
 rintro _ _ ⟨rfl, rfl⟩
 refine G.stepD (OD.assign rfl rfl) rfl rfl rfl ?_
 refine G.nil (GE.then_ (GC.seq (GC.seq (GC.region ?_))))
 refine G.stepD (OD.move rfl rfl) rfl rfl rfl ?_
 refine G.stepD (OD.lss rfl rfl rfl) rfl rfl rfl ?_
 refine G.nil (GE.then_ ?_)
 refine GC.cond rfl (fun hc2 => ?_) (fun hc2 => ?_)
 replace hc2 := of_decide_eq_true hc2
 refine GC.seq (GC.region ?_)
 refine G.stepD (OD.assign rfl rfl) rfl rfl rfl ?_
 refine G.nil (GE.then_ (GC.ret (GE.passR ?_)))
 exact GE.body [] 1 (res1 rfl rfl) rfl (⟨rfl, rfl⟩)
 replace hc2 := of_decide_eq_false hc2
 have hc2z := szG_ok hc2
 refine GC.skip (GE.then_ (GC.seq (GC.region ?_)))
 refine G.stepD (OD.loadAgg rfl ti24 rfl (i := 0) rfl (us := [.int .i64 (cr), vcd]) rfl rfl) rfl rfl rfl ?_
 refine G.step (OG.call [.agg #[.int .i64 (cr), vcd]] ent13 rfl rfl rfl rfl (by exact (toCartan_s scd (Ent.drop 1 ecd) (by omega)))) rfl rfl rfl ?_
 rintro _ _ ⟨v3, rfl, hs4, rfl⟩
 refine G.step (OG.call [.agg #[.int .i64 (cr), v3]] ent12 rfl rfl rfl rfl (by exact (specHighestRoot_w hs4 (Ent.ints (i := 0) rfl) (by omega)))) rfl rfl rfl ?_
 rintro _ _ ⟨v5, rfl, hs6, rfl⟩
 refine G.stepD (OD.move rfl rfl) rfl rfl rfl ?_
 refine G.stepD (OD.extract rfl rfl rfl) rfl rfl rfl ?_
 refine G.stepD (OD.extract rfl rfl rfl) rfl rfl rfl ?_
 refine G.stepD (OD.assign rfl rfl) rfl rfl rfl ?_
 refine G.stepD (OD.assign rfl rfl) rfl rfl rfl ?_
 refine G.nil (GE.then_ (GC.seq (GC.region ?_)))
 refine G.stepD (OD.loadAgg rfl ti24 rfl (i := 2) rfl (us := [.int .i64 (cr), vcd]) rfl rfl) rfl rfl rfl ?_
 refine G.step (OG.call [.agg #[.int .i64 (cr), vcd]] ent13 rfl rfl rfl rfl (by exact (toCartan_s scd (Ent.drop 3 ecd) (by omega)))) rfl rfl rfl ?_
 rintro _ _ ⟨v7, rfl, hs8, rfl⟩
 refine G.step (OG.alloc rfl ti28 (zs := [.int .i64 (0), .slice none 0 0]) rfl) rfl rfl rfl ?_
 rintro _ _ ⟨g9, rfl, rfl⟩
 refine G.stepD0 (OD.store rfl ti28 rfl rfl (us := [.int .i64 (cr), v7]) rfl rfl (allC rfl (allC (IsS.one hs8) rfl)) (i := 0) rfl rfl) rfl rfl ?_
 refine G.nil (GE.then_ (GC.seq (GC.region ?_)))
 refine G.stepD (OD.loadAgg rfl ti28 rfl (i := 0) rfl (us := [.int .i64 (cr), v7]) rfl rfl) rfl rfl rfl ?_
 refine G.step (OG.call [.agg #[.int .i64 (cr), v7]] ent14 rfl rfl rfl rfl (by exact (highestRoot_w hs8 (Ent.ints (i := 1) rfl) (by omega) ((Ent.drop 5 hg)) ((Ent.drop 5 htab))))) rfl rfl rfl ?_
 rintro _ _ ⟨v10, rfl, hs11, rfl⟩
 refine G.stepD (OD.move rfl rfl) rfl rfl rfl ?_
 refine G.stepD (OD.extract rfl rfl rfl) rfl rfl rfl ?_
 refine G.stepD (OD.extract rfl rfl rfl) rfl rfl rfl ?_
 refine G.stepD (OD.assign rfl rfl) rfl rfl rfl ?_
 refine G.stepD (OD.assign rfl rfl) rfl rfl rfl ?_
 refine G.nil (GE.then_ (GC.seq (GC.seq (GC.region ?_))))
 refine G.stepD (OD.move rfl rfl) rfl rfl rfl ?_
 refine G.stepD (OD.move rfl rfl) rfl rfl rfl ?_
 refine G.step (OG.call [v10, v5] ent15 rfl rfl rfl rfl (by exact (eqIntS_same hs11 (Ent.ints (i := 0) rfl) hs6 (Ent.ints (i := 3) rfl) (by omega)))) rfl rfl rfl ?_
 rintro _ _ ⟨rfl, rfl⟩
 refine G.stepD (OD.not rfl rfl) rfl rfl rfl ?_
 refine G.stepD (OD.move rfl rfl) rfl rfl rfl ?_
 refine G.stepGD (OD.move rfl rfl) rfl rfl rfl rfl rfl ?_
 refine G.stepGD (OD.move rfl rfl) rfl rfl rfl rfl rfl ?_
 refine G.stepGD (OD.eqv (OD.neqB bt4 rfl rfl rfl) (congrArg Value.bool (bneB_same _))) rfl rfl rfl rfl rfl ?_
 refine G.stepD (OD.pickF rfl rfl rfl) rfl rfl rfl ?_
 refine G.nil (GE.then_ (GC.condF rfl (GC.skip (GE.then_ (GC.seq (GC.seq ?_))))))
 refine GC.at [] 0 (env' := [(1, .pointer (some ⟨g1, 0, none⟩)), (4, v5), (5, .bool (oneP cr cd)), (6, .pointer (some ⟨g9, 0, none⟩)), (7, v10), (8, .bool (oneP cr cd))]) ⟨rfl, rfl, rfl, rfl, rfl, rfl, trivial⟩ rfl ?_
 refine GC.par (its := [⟨41, [], [], [], [], fun _ => .agg #[.int .i64 (cr), v7], fun _ => True, fun _ => []⟩,
     ⟨42, [], [], [], [], fun _ => .agg #[.int .i64 (cr), vcd], fun _ => True, fun _ => []⟩,
     ⟨43, [(1, 42)], [], [], [2], fun ds => .agg #[.int .i64 (cr), ((ds.getD 0 []).getD 0 undef)], fun ds => IsS ((ds.getD 0 []).getD 0 undef), fun ds => [ints 3 ((ds.getD 0 []).getD 0 undef) cd]⟩,
     ⟨44, [(0, 41), (2, 43)], [2], [], [2], fun _ => .bool true, fun _ => True, fun _ => []⟩,
     ⟨45, [(3, 44)], [2], [], [2], fun _ => .bool false, fun _ => True, fun _ => []⟩]) (by kernel_rfl) (by kernel_rfl) (POps.cons ?_ (POps.cons ?_ (POps.cons ?_ (POps.cons ?_ (POps.cons ?_ POps.nil))))) ?_
 intro θ R hd
 exact Opp.plain (OG.imp (OD.loadAgg rfl ti28 rfl (i := 1) rfl (us := [.int .i64 (cr), v7]) rfl rfl) (by rintro _ _ ⟨rfl, rfl⟩; exact ⟨[], rfl, trivial, rfl⟩)) rfl
 intro θ R hd
 exact Opp.plain (OG.imp (OD.loadAgg rfl ti24 rfl (i := 5) rfl (us := [.int .i64 (cr), vcd]) rfl rfl) (by rintro _ _ ⟨rfl, rfl⟩; exact ⟨[], rfl, trivial, rfl⟩)) rfl
 intro θ R hd
 obtain ⟨h1d, _⟩ := hd
 exact Opp.plain (OG.imp (OG.call [.agg #[.int .i64 (cr), vcd]] ent13 rfl rfl rfl rfl (by exact (toCartan_s scd (Ent.drop 6 ecd.app) (by omega)))) (by rintro _ _ ⟨v12, rfl, hs13, rfl⟩; exact ⟨[v12], rfl, hs13, rfl⟩)) rfl
 intro θ R hd
 obtain ⟨h0d, h2d, _⟩ := hd
 exact Opp.plain (OG.imp (OG.call [.agg #[.int .i64 (cr), v7], .agg #[.int .i64 (cr), ((θ 2).getD 0 undef)]] ent16 rfl rfl rfl rfl (by exact (eqCartan_same hs8 (Ent.ints (i := 3) rfl) h2d (Ent.ints (i := 0) rfl) (by omega)))) (by rintro _ _ ⟨rfl, rfl⟩; exact ⟨[], rfl, trivial, rfl⟩)) rfl
 intro θ R hd
 obtain ⟨h3d, _⟩ := hd
 exact Opp.plain (OG.imp (OD.not rfl rfl) (by rintro _ _ ⟨rfl, rfl⟩; exact ⟨[], rfl, trivial, rfl⟩)) rfl
 intro θ hall
 obtain ⟨_, _, h2a, _, _, _⟩ := hall
 refine G.at [] 0 (env' := [(1, .pointer (some ⟨g1, 0, none⟩)), (4, v5), (5, .bool (oneP cr cd)), (6, .pointer (some ⟨g9, 0, none⟩)), (7, v10), (8, .bool (oneP cr cd)), (45, .bool false)]) ⟨rfl, rfl, rfl, rfl, rfl, rfl, rfl, trivial⟩ (own' := ints 3 ((θ 2).getD 0 undef) cd :: ints 3 v10 (hrA cr cd) :: box g9 28 [.int .i64 (cr), v7] :: ints 3 v7 cd :: ints 3 v5 (hrA cr cd) :: ints 3 v3 cd :: box g1 24 [.int .i64 (cr), vcd] :: own) rfl ?_
 have hs14 : IsS ((θ 2).getD 0 undef) := h2a
 clear h2a
 generalize ((θ 2).getD 0 undef) = v15 at *
 show G _ _ _ [] _ _ _ _
 refine G.nil (GE.then_ (GC.condF rfl (GC.skip (GE.then_ (GC.seq (GC.region ?_))))))
 refine G.stepD (OD.assign rfl rfl) rfl rfl rfl ?_
 refine G.nil (GE.then_ (GC.seq (GC.region ?_)))
 refine G.stepD (OD.loadAgg rfl ti28 rfl (i := 2) rfl (us := [.int .i64 (cr), v7]) rfl rfl) rfl rfl rfl ?_
 refine G.stepD (OD.move rfl rfl) rfl rfl rfl ?_
 refine G.at [3] 0 (env' := [(1, .pointer (some ⟨g1, 0, none⟩)), (4, v5), (5, .bool (oneP cr cd)), (6, .pointer (some ⟨g9, 0, none⟩)), (7, v10), (8, .bool (oneP cr cd)), (45, .bool false), (9, .int .i64 (1)), (46, .agg #[.int .i64 (cr), v7]), (47, .int .i64 (1))]) ⟨rfl, rfl, rfl, rfl, rfl, rfl, rfl, rfl, rfl, rfl, trivial⟩ (own' := ints 3 v7 cd :: ints 3 v15 cd :: ints 3 v10 (hrA cr cd) :: box g9 28 [.int .i64 (cr), v7] :: ints 3 v5 (hrA cr cd) :: ints 3 v3 cd :: box g1 24 [.int .i64 (cr), vcd] :: own) rfl ?_
 refine G.step (OG.call [.agg #[.int .i64 (cr), v7], .int .i64 (1)] ent17 rfl rfl rfl rfl (by exact (markCartan_s hs8 (by omega) (by omega)))) rfl rfl rfl ?_
 rintro _ _ ⟨rfl, rfl⟩
 refine G.stepD (OD.assign rfl rfl) rfl rfl rfl ?_
 refine G.nil (GE.then_ (GC.seq (GC.seq (GC.region ?_))))
 refine G.stepD (OD.move rfl rfl) rfl rfl rfl ?_
 refine G.stepD (OD.eqv (OD.lss rfl rfl rfl) (congrArg Value.bool ((decide_eq_false (by omega)) : _ = false))) rfl rfl rfl ?_
 refine G.stepD (OD.move rfl rfl) rfl rfl rfl ?_
 refine G.stepGD (OD.move rfl rfl) rfl rfl rfl rfl rfl ?_
 refine G.stepGD (OD.move rfl rfl) rfl rfl rfl rfl rfl ?_
 refine G.stepG (OG.call [v10, v5] ent15 rfl rfl rfl rfl (by exact (eqIntS_same hs11 (Ent.ints (i := 2) rfl) hs6 (Ent.ints (i := 4) rfl) (by omega)))) rfl rfl rfl rfl rfl ?_
 rintro _ _ ⟨rfl, rfl⟩
 refine G.stepGD (OD.not rfl rfl) rfl rfl rfl rfl rfl ?_
 refine G.stepD (OD.pickF rfl rfl rfl) rfl rfl rfl ?_
 refine G.stepD (OD.move rfl rfl) rfl rfl rfl ?_
 refine G.stepGD (OD.move rfl rfl) rfl rfl rfl rfl rfl ?_
 refine G.stepGD (OD.move rfl rfl) rfl rfl rfl rfl rfl ?_
 refine G.stepGD (OD.eqv (OD.neqB bt4 rfl rfl rfl) (congrArg Value.bool (bneB_same _))) rfl rfl rfl rfl rfl ?_
 refine G.stepD (OD.pickF rfl rfl rfl) rfl rfl rfl ?_
 refine G.nil (GE.then_ (GC.condF rfl (GC.skip (GE.then_ (GC.seq (GC.region ?_))))))
 refine G.stepD (OD.assign rfl rfl) rfl rfl rfl ?_
 refine G.nil (GE.then_ (GC.seq (GC.region ?_)))
 refine G.stepD (OD.move rfl rfl) rfl rfl rfl ?_
 refine G.stepD (OD.move rfl rfl) rfl rfl rfl ?_
 refine G.at [2] 0 (env' := [(1, .pointer (some ⟨g1, 0, none⟩)), (4, v5), (5, .bool (oneP cr cd)), (6, .pointer (some ⟨g9, 0, none⟩)), (7, v10), (8, .bool (oneP cr cd)), (45, .bool false), (46, .agg #[.int .i64 (cr), v7]), (47, .int .i64 (1)), (48, .int .i64 (1 + (cd.length : Nat))), (9, .int .i64 (1 + (cd.length : Nat))), (49, .int .i64 (1 + (cd.length : Nat))), (50, .bool false), (51, .bool false), (52, v10), (53, v5), (54, .bool true), (55, .bool false), (56, .bool false), (57, .bool false), (58, .bool (oneP cr cd)), (59, .bool (oneP cr cd)), (60, .bool false), (61, .bool false), (10, .int .i64 (1)), (62, v10), (63, .int .i64 (1))]) ⟨rfl, rfl, rfl, rfl, rfl, rfl, rfl, rfl, rfl, rfl, rfl, rfl, rfl, rfl, rfl, rfl, rfl, rfl, rfl, rfl, rfl, rfl, rfl, rfl, rfl, rfl, rfl, trivial⟩ (own' := ints 3 v10 (hrA cr cd) :: ints 3 v7 (mkd 1 cd.length) :: ints 3 v15 cd :: box g9 28 [.int .i64 (cr), v7] :: ints 3 v5 (hrA cr cd) :: ints 3 v3 cd :: box g1 24 [.int .i64 (cr), vcd] :: own) rfl ?_
 refine G.step (OG.call [v10, .int .i64 (1)] ent18 rfl rfl rfl rfl (by exact (markIntS_s hs11 (by omega) (by omega)))) rfl rfl rfl ?_
 rintro _ _ ⟨rfl, rfl⟩
 refine G.stepD (OD.assign rfl rfl) rfl rfl rfl ?_
 refine G.nil (GE.then_ (GC.seq (GC.region ?_)))
 refine G.stepD (OD.assign rfl rfl) rfl rfl rfl ?_
 refine G.nil (GE.then_ (GC.seq (GC.region ?_)))
 refine G.stepD (OD.move rfl rfl) rfl rfl rfl ?_
 refine G.stepD (OD.move rfl rfl) rfl rfl rfl ?_
 refine G.step (OG.call [v10, .int .i64 (1)] ent19 rfl rfl rfl rfl (by exact (heldIntS_m hs11 (Ent.ints (i := 0) rfl) (by omega) (by omega)))) rfl rfl rfl ?_
 rintro _ _ ⟨rfl, rfl⟩
 refine G.stepD (OD.assign rfl rfl) rfl rfl rfl ?_
 refine G.nil (GE.then_ (GC.seq (GC.seq (GC.region ?_))))
 refine G.stepD (OD.move rfl rfl) rfl rfl rfl ?_
 refine G.stepD (OD.eqv (OD.lss rfl rfl rfl) (congrArg Value.bool ((decide_eq_false (by omega)) : _ = false))) rfl rfl rfl ?_
 refine G.nil (GE.then_ (GC.condF rfl (GC.skip (GE.then_ (GC.seq (GC.seq (GC.region ?_)))))))
 refine G.stepD (OD.move rfl rfl) rfl rfl rfl ?_
 refine G.stepD (OD.move rfl rfl) rfl rfl rfl ?_
 refine G.stepD (OD.eqv (OD.neq rfl rfl rfl) (congrArg Value.bool ((bne_same _) : _ = false))) rfl rfl rfl ?_
 refine G.nil (GE.then_ (GC.condF rfl (GC.skip (GE.then_ (GC.seq (GC.region ?_))))))
 refine G.stepD (OD.loadAgg rfl ti24 rfl (i := 6) rfl (us := [.int .i64 (cr), vcd]) rfl rfl) rfl rfl rfl ?_
 refine G.step (OG.call [.agg #[.int .i64 (cr), vcd]] ent13 rfl rfl rfl rfl (by exact (toCartan_s scd (Ent.drop 7 ecd) (by omega)))) rfl rfl rfl ?_
 rintro _ _ ⟨v16, rfl, hs17, rfl⟩
 refine G.step (OG.call [.agg #[.int .i64 (cr), v16]] ent14 rfl rfl rfl rfl (by exact (highestRoot_w hs17 (Ent.ints (i := 0) rfl) (by omega) ((Ent.drop 8 hg)) ((Ent.drop 8 htab))))) rfl rfl rfl ?_
 rintro _ _ ⟨v18, rfl, hs19, rfl⟩
 refine G.stepD (OD.move rfl rfl) rfl rfl rfl ?_
 refine G.stepD (OD.extract rfl rfl rfl) rfl rfl rfl ?_
 refine G.stepD (OD.extract rfl rfl rfl) rfl rfl rfl ?_
 refine G.stepD (OD.assign rfl rfl) rfl rfl rfl ?_
 refine G.stepD (OD.assign rfl rfl) rfl rfl rfl ?_
 refine G.nil (GE.then_ (GC.seq (GC.seq (GC.region ?_))))
 refine G.stepD (OD.move rfl rfl) rfl rfl rfl ?_
 refine G.stepD (OD.move rfl rfl) rfl rfl rfl ?_
 refine G.step (OG.call [v18, v5] ent15 rfl rfl rfl rfl (by exact (eqIntS_same hs19 (Ent.ints (i := 0) rfl) hs6 (Ent.ints (i := 6) rfl) (by omega)))) rfl rfl rfl ?_
 rintro _ _ ⟨rfl, rfl⟩
 refine G.stepD (OD.not rfl rfl) rfl rfl rfl ?_
 refine G.stepD (OD.move rfl rfl) rfl rfl rfl ?_
 refine G.stepGD (OD.move rfl rfl) rfl rfl rfl rfl rfl ?_
 refine G.stepGD (OD.move rfl rfl) rfl rfl rfl rfl rfl ?_
 refine G.stepGD (OD.eqv (OD.neqB bt4 rfl rfl rfl) (congrArg Value.bool (bneB_same _))) rfl rfl rfl rfl rfl ?_
 refine G.stepD (OD.pickF rfl rfl rfl) rfl rfl rfl ?_
 refine G.nil (GE.then_ (GC.condF rfl (GC.skip (GE.then_ (GC.seq (GC.region ?_))))))
 refine G.stepD (OD.assign rfl rfl) rfl rfl rfl ?_
 refine G.nil (GE.then_ (GC.seq (GC.region ?_)))
 refine G.stepD (OD.move rfl rfl) rfl rfl rfl ?_
 refine G.stepD (OD.move rfl rfl) rfl rfl rfl ?_
 refine G.step (OG.call [v10, .int .i64 (1)] ent19 rfl rfl rfl rfl (by exact (heldIntS_m hs11 (Ent.ints (i := 2) rfl) (by omega) (by omega)))) rfl rfl rfl ?_
 rintro _ _ ⟨rfl, rfl⟩
 refine G.stepD (OD.assign rfl rfl) rfl rfl rfl ?_
 refine G.nil (GE.then_ (GC.seq (GC.seq (GC.region ?_))))
 refine G.stepD (OD.move rfl rfl) rfl rfl rfl ?_
 refine G.stepD (OD.eqv (OD.lss rfl rfl rfl) (congrArg Value.bool ((decide_eq_false (by omega)) : _ = false))) rfl rfl rfl ?_
 refine G.nil (GE.then_ (GC.condF rfl (GC.skip (GE.then_ (GC.seq (GC.seq (GC.region ?_)))))))
 refine G.stepD (OD.move rfl rfl) rfl rfl rfl ?_
 refine G.stepD (OD.move rfl rfl) rfl rfl rfl ?_
 refine G.stepD (OD.eqv (OD.neq rfl rfl rfl) (congrArg Value.bool ((bne_same _) : _ = false))) rfl rfl rfl ?_
 refine G.nil (GE.then_ (GC.condF rfl (GC.skip (GE.then_ (GC.seq (GC.region ?_))))))
 refine G.stepD (OD.assign rfl rfl) rfl rfl rfl ?_
 refine G.nil (GE.then_ (GC.ret ?_))
 exact GE.body [] 9 (res1 rfl rfl) rfl (⟨rfl, rfl⟩)

end Go.Proofs.YteflhcbnajeooaaGreatDoor
