/-
  The weight of ones, lists with other signs, lists turned: contracts by walks.
-/
import Derived.Test.YtgafcopihlmfpaaDoorWChr
import Derived.Test.YtgafcopihlmfpaaDoorCopy
import Derived.Test.YtgafcopihlmfpaaDoorCarW
import Derived.Test.YtgafcopihlmfpaaDoorLate
namespace Go.Proofs.YtgafcopihlmfpaaDoor
set_option linter.unusedVariables false
set_option linter.unusedSimpArgs false
open Go.RowKit

theorem ent76 : ∀ us w, (callFunc 76 us).run Tryd.prog w = .ok (.enter 76 us) w := fun us w => by kernel_rfl
theorem ent83 : ∀ us w, (callFunc 83 us).run Tryd.prog w = .ok (.enter 83 us) w := fun us w => by kernel_rfl
theorem ent92 : ∀ us w, (callFunc 92 us).run Tryd.prog w = .ok (.enter 92 us) w := fun us w => by kernel_rfl
theorem ent93 : ∀ us w, (callFunc 93 us).run Tryd.prog w = .ok (.enter 93 us) w := fun us w => by kernel_rfl
theorem ent94 : ∀ us w, (callFunc 94 us).run Tryd.prog w = .ok (.enter 94 us) w := fun us w => by kernel_rfl
theorem ent102 : ∀ us w, (callFunc 102 us).run Tryd.prog w = .ok (.enter 102 us) w := fun us w => by kernel_rfl
theorem cv3_84 : ∀ i w, (convert 3 84 (.int .i64 i)).run Tryd.prog w = .ok (.int .u64 (IntKind.u64.wrap i)) w := fun i w => by kernel_rfl
theorem cv84_3 : ∀ i w, (convert 84 3 (.int .u64 i)).run Tryd.prog w = .ok (.int .i64 (IntKind.i64.wrap i)) w := fun i w => by kernel_rfl

set_option maxRecDepth 100000 in
theorem repeat_w {W : World} {own : List Asn} {vx : Value} {x : List Int} {k : Int}  (sx : IsS vx) (ex : Ent own fun w => Ints w vx x)   (hx : x.length = 1) (hk : 1 ≤ k ∧ k ≤ 1000) : Spec Tryd.prog 83 [vx, .int .i64 (k)] W own (fun v ow => ∃ (r0 : Value), v = r0 ∧ IsS r0 ∧ ow = ints 3 r0 (List.replicate (k : Int).toNat (x.getD 0 0)) :: own) := by
 refine Spec.enter Tryd.f83 _ Tryd.func83 rfl (n := 48) rfl rfl ?_
 refine GC.seq (GC.region ?_)
 refine G.stepD (OD.assign rfl rfl) rfl rfl rfl ?_
 refine G.nil (GE.then_ (GC.seq (GC.seq (GC.region ?_))))
 refine G.stepD (OD.move rfl rfl) rfl rfl rfl ?_
 refine G.stepD (OD.eqv (OD.lss rfl rfl rfl) (congrArg Value.bool ((decide_eq_false (by omega)) : _ = false))) rfl rfl rfl ?_
 refine G.nil (GE.then_ (GC.condF rfl (GC.skip (GE.then_ (GC.seq (GC.region ?_))))))
 refine G.stepD (OD.move rfl rfl) rfl rfl rfl ?_
 refine G.stepD (OD.len rfl rfl et22 rfl ex) rfl rfl rfl ?_
 refine G.stepD (OD.eqv (OD.conv rfl cv3_84 rfl) (congrArg (Value.int .u64) ((by rw [hx, IntKind.wrap_u64]; rfl) : (IntKind.u64.wrap (x.length : Nat) : Int) = (((1 : Nat) : Int))))) rfl rfl rfl ?_
 refine G.stepD (OD.move rfl rfl) rfl rfl rfl ?_
 refine G.stepD (OD.eqv (OD.conv rfl cv3_84 rfl) (congrArg (Value.int .u64) ((by rw [IntKind.wrap_u64]; omega) : (IntKind.u64.wrap k : Int) = (((k.toNat : Nat) : Int))))) rfl rfl rfl ?_
 refine G.step (OG.call [.int .u64 (((1 : Nat) : Int)), .int .u64 (((k.toNat : Nat) : Int))] ent102 rfl rfl rfl rfl (by exact (mul_w (x := 1) (y := k.toNat) (by omega) (by omega) (by omega)))) rfl rfl rfl ?_
 rintro _ _ ⟨rfl, hzz⟩; obtain rfl := hzz.symm
 refine G.stepD (OD.move rfl rfl) rfl rfl rfl ?_
 refine G.stepD (OD.extract rfl rfl rfl) rfl rfl rfl ?_
 refine G.stepD (OD.extract rfl rfl rfl) rfl rfl rfl ?_
 refine G.stepD (OD.assign rfl rfl) rfl rfl rfl ?_
 refine G.stepD (OD.assign rfl rfl) rfl rfl rfl ?_
 refine G.nil (GE.then_ (GC.seq (GC.seq (GC.region ?_))))
 refine G.stepD (OD.move rfl rfl) rfl rfl rfl ?_
 refine G.stepD (OD.eqv (OD.gtr rfl rfl rfl) (congrArg Value.bool ((decide_eq_false (by omega)) : _ = false))) rfl rfl rfl ?_
 refine G.stepD (OD.move rfl rfl) rfl rfl rfl ?_
 refine G.stepGD (OD.move rfl rfl) rfl rfl rfl rfl rfl ?_
 refine G.stepGD (OD.eqv (OD.gtr rfl rfl rfl) (congrArg Value.bool ((decide_eq_false (by omega)) : _ = false))) rfl rfl rfl rfl rfl ?_
 refine G.stepD (OD.pickF rfl rfl rfl) rfl rfl rfl ?_
 refine G.nil (GE.then_ (GC.condF rfl (GC.skip (GE.then_ (GC.seq (GC.region ?_))))))
 refine G.stepD (OD.move rfl rfl) rfl rfl rfl ?_
 refine G.stepD (OD.eqv (OD.convI rfl cv84_3 rfl (by omega)) (congrArg (Value.int .i64) ((by omega) : (((1 * k.toNat : Nat) : Int) : Int) = (k)))) rfl rfl rfl ?_
 refine G.step (OG.makeInts rfl et22 rfl rfl (by omega)) rfl rfl rfl ?_
 rintro v1 _ ⟨hs2, rfl⟩
 refine G.stepD (OD.assign rfl rfl) rfl rfl rfl ?_
 refine G.nil (GE.then_ (GC.seq (GC.region ?_)))
 refine G.stepD (OD.move rfl rfl) rfl rfl rfl ?_
 refine G.stepD (OD.move rfl rfl) rfl rfl rfl ?_
 refine G.stepD (OD.eqv (OD.copyInts (l := 0) (h := (List.replicate (k : Int).toNat (0 : Int)).length) rfl rfl et22 (copy_whole rfl) (i := 0) rfl (by first | omega | (simp; omega) | simp) rfl (Ent.drop 1 ex) (by first | omega | (simp; omega) | simp)) (congrArg (Value.int .i64) ((by rw [List.length_replicate, hx]; omega) : (((min x.length ((List.replicate (k : Int).toNat (0 : Int)).length - 0) : Nat) : Int) : Int) = (1)))) rfl rfl rfl ?_
 refine G.stepD (OD.assign rfl rfl) rfl rfl rfl ?_
 refine G.nil (GE.then_ (GC.seq (GC.block ?_)))
 refine GC.loop (ι := Nat × List Int) (fun ⟨q, ys⟩ => [(7, v1), (8, .int .i64 ((q : Int)))]) (fun ⟨q, ys⟩ => ints 3 v1 ys :: own) (fun ⟨q, ys⟩ => (1 ≤ q ∧ q ≤ k.toNat) ∧ (ys = List.replicate q (x.getD 0 0) ++ List.replicate (k.toNat - q) 0)) (fun ⟨q, ys⟩ => k.toNat - q) (1, (List.replicate (k : Int).toNat (0 : Int)).take (0) ++ (x).take (min x.length ((List.replicate (k : Int).toNat (0 : Int)).length - 0)) ++ (List.replicate (k : Int).toNat (0 : Int)).drop (0 + min x.length ((List.replicate (k : Int).toNat (0 : Int)).length - 0))) (⟨by omega, rep_start hx (by omega)⟩) ⟨rfl, int_eq (by omega), trivial⟩ [] 0 rfl ?_
 rintro ⟨q, ys⟩ ⟨hq, hy⟩
 have hyl : ys.length = k.toNat := by rw [hy]; simp; omega
 have hsl : ((ys.drop 0).take (q - 0)).length = q := by simp; omega
 refine GC.seq (GC.seq (GC.region ?_))
 refine G.stepD (OD.move rfl rfl) rfl rfl rfl ?_
 refine G.stepD (OD.move rfl rfl) rfl rfl rfl ?_
 refine G.stepD (OD.len rfl rfl et22 rfl (Ent.ints (i := 0) rfl)) rfl rfl rfl ?_
 refine G.stepD (OD.lss rfl rfl rfl) rfl rfl rfl ?_
 refine G.nil (GE.then_ ?_)
 refine GC.cond rfl (fun hc3 => ?_) (fun hc3 => ?_)
 replace hc3 := of_decide_eq_true hc3
 refine GC.skip (GE.then_ (GC.block ?_))
 refine GC.at [] 0 (env' := [(7, v1), (8, .int .i64 ((q : Int)))]) ⟨rfl, rfl, trivial⟩ rfl ?_
 refine GC.late (σ := [0, 1, 2, 3, 4, 5, 6, 7, 8, 9]) (L := [0]) (its := [⟨38, [], [], [], [], fun _ => .int .i64 ((q : Int)), fun _ => True, fun _ => []⟩,
     ⟨39, [], [], [], [], fun _ => v1, fun _ => True, fun _ => []⟩,
     ⟨40, [], [], [], [], fun _ => .int .i64 ((q : Int)), fun _ => True, fun _ => []⟩,
     ⟨41, [(1, 39), (2, 40)], [], [], [], fun _ => (subV 1 v1 q ys.length), fun _ => True, fun _ => []⟩,
     ⟨42, [], [], [], [], fun _ => v1, fun _ => True, fun _ => []⟩,
     ⟨43, [], [], [], [], fun _ => .int .i64 ((q : Int)), fun _ => True, fun _ => []⟩,
     ⟨44, [(4, 42), (5, 43)], [], [], [], fun _ => (subV 1 v1 0 q), fun _ => True, fun _ => []⟩]) (by kernel_rfl) (by repeat (first | refine PanQ.then_ ?_ | refine PanQ.block ?_ | exact PanQ.body)) (by kernel_rfl) (by kernel_rfl) (POps.cons ?_ (POps.cons ?_ (POps.cons ?_ (POps.cons ?_ (POps.cons ?_ (POps.cons ?_ (POps.cons ?_ POps.nil))))))) ?_
 intro θ R hd
 exact Opp.plain (OG.imp (OD.move rfl rfl) (by rintro _ _ ⟨rfl, rfl⟩; exact ⟨[], rfl, trivial, rfl⟩)) rfl
 intro θ R hd
 exact Opp.plain (OG.imp (OD.move rfl rfl) (by rintro _ _ ⟨rfl, rfl⟩; exact ⟨[], rfl, trivial, rfl⟩)) rfl
 intro θ R hd
 exact Opp.plain (OG.imp (OD.move rfl rfl) (by rintro _ _ ⟨rfl, rfl⟩; exact ⟨[], rfl, trivial, rfl⟩)) rfl
 intro θ R hd
 obtain ⟨h1d, h2d, _⟩ := hd
 exact Opp.plain (OG.imp (OD.sliceFrom rfl et22 rfl rfl (Ent.ints (i := 0) rfl) (by omega)) (by rintro _ _ ⟨rfl, rfl⟩; exact ⟨[], rfl, trivial, rfl⟩)) rfl
 intro θ R hd
 exact Opp.plain (OG.imp (OD.move rfl rfl) (by rintro _ _ ⟨rfl, rfl⟩; exact ⟨[], rfl, trivial, rfl⟩)) rfl
 intro θ R hd
 exact Opp.plain (OG.imp (OD.move rfl rfl) (by rintro _ _ ⟨rfl, rfl⟩; exact ⟨[], rfl, trivial, rfl⟩)) rfl
 intro θ R hd
 obtain ⟨h4d, h5d, _⟩ := hd
 exact Opp.plain (OG.imp (OD.sliceTo rfl et22 rfl rfl (Ent.ints (i := 0) rfl) (by omega)) (by rintro _ _ ⟨rfl, rfl⟩; exact ⟨[], rfl, trivial, rfl⟩)) rfl
 intro θ hall
 obtain ⟨_, _, _, _, _, _, _, _⟩ := hall
 refine G.at [] 0 (env' := [(7, v1), (8, .int .i64 ((q : Int))), (38, .int .i64 ((q : Int))), (41, (subV 1 v1 q ys.length)), (44, (subV 1 v1 0 q))]) ⟨rfl, rfl, rfl, rfl, rfl, trivial⟩ (own' := ints 3 v1 ys :: own) rfl ?_
 show G _ _ _ [_, _, _] _ _ _ _
 refine G.fact (row_cap (i := 0) rfl) fun hcap0 => ?_
 refine G.stepD (OD.copyInts (l := q) (h := ys.length) rfl rfl et22 (copy_part rfl (by omega) hcap0) (i := 0) rfl (by first | omega | (simp; omega) | simp) rfl (Ent.subInts (Ent.ints (i := 0) rfl) (by simp; omega)) (by first | omega | (simp; omega) | simp)) rfl rfl rfl ?_
 refine G.stepD (OD.addI rfl rfl rfl (by omega)) rfl rfl rfl ?_
 refine G.stepD (OD.assign rfl rfl) rfl rfl rfl ?_
 refine G.nil (GE.blockN ?_)
 exact GE.again (q + min ((ys.drop 0).take (q - 0)).length (ys.length - q), (ys).take (q) ++ ((ys.drop (0)).take (q - 0)).take (min ((ys.drop (0)).take (q - 0)).length (ys.length - q)) ++ (ys).drop (q + min ((ys.drop (0)).take (q - 0)).length (ys.length - q))) (⟨by omega, rep_step hy (by omega) rfl⟩) (by dsimp only; omega) ⟨rfl, int_eq (by omega), trivial⟩ [] 0 rfl
 replace hc3 := of_decide_eq_false hc3
 refine GC.exit (GE.pass (GE.pass (GE.hit (GE.then_ (GC.seq (GC.region ?_))))))
 refine G.stepD (OD.move rfl rfl) rfl rfl rfl ?_
 refine G.stepD (OD.assign rfl rfl) rfl rfl rfl ?_
 refine G.nil (GE.then_ (GC.ret ?_))
 exact GE.body [] 0 (res1 rfl rfl) rfl (⟨v1, rfl, hs2, congrArg (fun (l0 : List Int) => ints 3 v1 l0 :: own) ((by rw [hy, show q = k.toNat by omega]; simp : ys = List.replicate (k : Int).toNat (x.getD 0 0)))⟩)

set_option maxRecDepth 100000 in
theorem rho_w {W : World} {own : List Asn} {cr : Int} {vcd : Value} {cd : List Int}  (scd : IsS vcd) (ecd : Ent own fun w => Ints w vcd cd)  (hcr : 1 ≤ cr ∧ cr ≤ 4) : Spec Tryd.prog 49 [.agg #[.int .i64 (cr), vcd]] W own (fun v ow => ∃ (r0 : Value), v = r0 ∧ IsS r0 ∧ ow = ints 3 r0 (ones cr 1) :: own) := by
 refine Spec.enter Tryd.f49 _ Tryd.func49 rfl (n := 7) rfl rfl ?_
 refine GC.seq (GC.region ?_)
 refine G.step (OG.box (cs := [.int .i64 (cr), vcd]) rfl rfl rfl) rfl rfl rfl ?_
 rintro _ _ ⟨g1, rfl, rfl⟩
 refine G.stepD (OD.assign rfl rfl) rfl rfl rfl ?_
 refine G.nil (GE.then_ (GC.seq (GC.region ?_)))
 refine G.step (OG.buildInts (xs := [.const (.int .i64 (1))]) (is := [1]) rfl et22 rfl rfl rfl rfl rfl) rfl rfl rfl ?_
 rintro v2 _ ⟨hs3, rfl⟩
 refine G.stepD (OD.fieldAddr rfl rfl fa27_0) rfl rfl rfl ?_
 refine G.stepD (OD.load rfl ti3 rfl (i := 1) rfl rfl) rfl rfl rfl ?_
 refine G.step (OG.call [v2, .int .i64 (cr)] ent83 rfl rfl rfl rfl (by exact (repeat_w hs3 (Ent.ints (i := 0) rfl) (rfl) (by omega)))) rfl rfl rfl ?_
 rintro v4 _ ⟨_, rfl, hs5, rfl⟩
 refine G.stepD (OD.assign rfl rfl) rfl rfl rfl ?_
 refine G.nil (GE.then_ (GC.ret ?_))
 exact GE.body [0] 2 (res1 rfl rfl) rfl (⟨v4, rfl, hs5, rfl⟩)

set_option maxRecDepth 100000 in
theorem l6Rho_w {W : World} {own : List Asn} {cr : Int} {vcd : Value} {cd : List Int}  (scd : IsS vcd) (ecd : Ent own fun w => Ints w vcd cd)  (hcr : 1 ≤ cr ∧ cr ≤ 4) : Spec Tryd.prog 45 [.agg #[.int .i64 (cr), vcd]] W own (fun v ow => ∃ (r0 : Value), v = r0 ∧ IsS r0 ∧ ow = ints 3 r0 (ones cr 1) :: own) := by
 refine Spec.enter Tryd.f45 _ Tryd.func45 rfl (n := 16) rfl rfl ?_
 refine GC.seq (GC.region ?_)
 refine G.step (OG.box (cs := [.int .i64 (cr), vcd]) rfl rfl rfl) rfl rfl rfl ?_
 rintro _ _ ⟨g1, rfl, rfl⟩
 refine G.stepD (OD.assign rfl rfl) rfl rfl rfl ?_
 refine G.nil (GE.then_ (GC.seq (GC.region ?_)))
 refine G.step (OG.buildInts (xs := []) (is := []) rfl et22 rfl rfl rfl rfl rfl) rfl rfl rfl ?_
 rintro v2 _ ⟨hs3, rfl⟩
 refine G.stepD (OD.assign rfl rfl) rfl rfl rfl ?_
 refine G.nil (GE.then_ (GC.seq (GC.seq (GC.region ?_))))
 refine G.stepD (OD.assign rfl rfl) rfl rfl rfl ?_
 refine G.nil (GE.then_ (GC.block ?_))
 refine GC.loop (ι := Nat × List Int × Value) (fun ⟨i, ys, v⟩ => [(1, .pointer (some ⟨g1, 0, none⟩)), (3, v), (4, .int .i64 ((i : Int)))]) (fun ⟨i, ys, v⟩ => ints 3 v ys :: box g1 27 [.int .i64 (cr), vcd] :: own) (fun ⟨i, ys, v⟩ => ((i : Int) ≤ cr) ∧ (IsS v) ∧ (ys = List.replicate i 1)) (fun ⟨i, ys, v⟩ => cr.toNat - i) (0, [], v2) (⟨by omega, hs3, rfl⟩) ⟨rfl, rfl, rfl, trivial⟩ [] 0 rfl ?_
 rintro ⟨i, ys, v⟩ ⟨hi, hv, hy⟩
 have hyl : ys.length = i := by rw [hy]; simp
 refine GC.seq (GC.seq (GC.region ?_))
 refine G.stepD (OD.move rfl rfl) rfl rfl rfl ?_
 refine G.stepD (OD.fieldAddr rfl rfl fa27_0) rfl rfl rfl ?_
 refine G.stepD (OD.load rfl ti3 rfl (i := 1) rfl rfl) rfl rfl rfl ?_
 refine G.stepD (OD.lss rfl rfl rfl) rfl rfl rfl ?_
 refine G.nil (GE.then_ ?_)
 refine GC.cond rfl (fun hc4 => ?_) (fun hc4 => ?_)
 replace hc4 := of_decide_eq_true hc4
 refine GC.skip (GE.then_ (GC.seq (GC.block (GC.region ?_))))
 refine G.stepD (OD.move rfl rfl) rfl rfl rfl ?_
 refine G.step (OG.buildInts (xs := [.const (.int .i64 (1))]) (is := [1]) rfl et22 rfl rfl rfl rfl rfl) rfl rfl rfl ?_
 rintro v5 _ ⟨hs6, rfl⟩
 refine G.step (OG.appendInts 1 rfl rfl et22 rfl rfl rfl (Ent.ints (i := 0) rfl) (by first | omega | (simp; omega))) rfl rfl rfl ?_
 rintro v7 _ ⟨hs8, rfl⟩
 refine G.stepD (OD.assign rfl rfl) rfl rfl rfl ?_
 refine G.nil (GE.blockN (GE.then_ (GC.region ?_)))
 refine G.stepD (OD.move rfl rfl) rfl rfl rfl ?_
 refine G.stepD (OD.addI rfl rfl rfl (by omega)) rfl rfl rfl ?_
 refine G.stepD (OD.assign rfl rfl) rfl rfl rfl ?_
 refine G.nil ?_
 exact GE.again (i + 1, ys ++ [1], v7) (⟨by omega, hs8, by rw [hy, List.replicate_succ']⟩) (by first | omega | (dsimp only; omega)) ⟨rfl, rfl, rfl, trivial⟩ [1, 1] 1 rfl
 replace hc4 := of_decide_eq_false hc4
 refine GC.exit (GE.pass (GE.pass (GE.hit (GE.then_ (GC.seq (GC.region ?_))))))
 refine G.stepD (OD.move rfl rfl) rfl rfl rfl ?_
 refine G.stepD (OD.assign rfl rfl) rfl rfl rfl ?_
 refine G.nil (GE.then_ (GC.ret ?_))
 exact GE.body [0] 1 (res1 rfl rfl) rfl (⟨v, rfl, hv, congrArg (fun (l0 : List Int) => ints 3 v l0 :: own) ((by rw [hy, show i = cr.toNat by omega]; rfl : ys = ones cr 1))⟩)

set_option maxRecDepth 100000 in
theorem l5Minus_w {W : World} {own : List Asn} {vx : Value} {x : List Int}  (sx : IsS vx) (ex : Ent own fun w => Ints w vx x)  (hb : ∀ k, k < x.length → -1000 ≤ x.getD k 0 ∧ x.getD k 0 ≤ 1000) (hl : x.length ≤ 1073741824) : Spec Tryd.prog 66 [vx] W own (fun v ow => ∃ (r0 : Value), v = r0 ∧ IsS r0 ∧ ow = ints 3 r0 (mnF x) :: own) := by
 refine Spec.enter Tryd.f66 _ Tryd.func66 rfl (n := 23) rfl rfl ?_
 refine GC.seq (GC.region ?_)
 refine G.stepD (OD.assign rfl rfl) rfl rfl rfl ?_
 refine G.nil (GE.then_ (GC.seq (GC.region ?_)))
 refine G.stepD (OD.move rfl rfl) rfl rfl rfl ?_
 refine G.stepD (OD.len rfl rfl et22 rfl ex) rfl rfl rfl ?_
 refine G.step (OG.makeInts rfl et22 rfl rfl (by omega)) rfl rfl rfl ?_
 rintro v1 _ ⟨hs2, rfl⟩
 refine G.stepD (OD.assign rfl rfl) rfl rfl rfl ?_
 refine G.nil (GE.then_ (GC.seq (GC.seq (GC.region ?_))))
 refine G.stepD (OD.assign rfl rfl) rfl rfl rfl ?_
 refine G.nil (GE.then_ (GC.block ?_))
 refine GC.loop (ι := Nat × List Int) (fun ⟨k, ys⟩ => [(0, vx), (3, v1), (4, .int .i64 ((k : Int)))]) (fun ⟨k, ys⟩ => ints 3 v1 ys :: own) (fun ⟨k, ys⟩ => (k ≤ x.length) ∧ (ys.length = x.length) ∧ (ys = (List.range k).foldl (fun (o : List Int) (i : Nat) => o.set i (0 - x.getD i 0)) (List.replicate x.length 0))) (fun ⟨k, ys⟩ => x.length - k) (0, (List.replicate x.length 0)) (⟨by omega, by simp, rfl⟩) ⟨rfl, rfl, rfl, trivial⟩ [] 0 rfl ?_
 rintro ⟨k, ys⟩ ⟨hk, hyl, hy⟩
 refine GC.seq (GC.seq (GC.region ?_))
 refine G.stepD (OD.move rfl rfl) rfl rfl rfl ?_
 refine G.stepD (OD.move rfl rfl) rfl rfl rfl ?_
 refine G.stepD (OD.len rfl rfl et22 rfl (Ent.drop 1 ex)) rfl rfl rfl ?_
 refine G.stepD (OD.lss rfl rfl rfl) rfl rfl rfl ?_
 refine G.nil (GE.then_ ?_)
 refine GC.cond rfl (fun hc3 => ?_) (fun hc3 => ?_)
 replace hc3 := of_decide_eq_true hc3
 have hbk := hb k (by omega)
 have hbk0 := hb (k : Int).toNat (by omega)
 refine GC.skip (GE.then_ (GC.seq (GC.block (GC.region ?_))))
 refine G.stepD (OD.move rfl rfl) rfl rfl rfl ?_
 refine G.stepD (OD.move rfl rfl) rfl rfl rfl ?_
 refine G.stepD (OD.move rfl rfl) rfl rfl rfl ?_
 refine G.stepD (OD.move rfl rfl) rfl rfl rfl ?_
 refine G.stepD (OD.indexAddr rfl et22 rfl (Ent.drop 1 ex) rfl (by omega)) rfl rfl rfl ?_
 refine G.stepD (OD.loadInt rfl ti3 rfl (Ent.drop 1 ex) (by omega)) rfl rfl rfl ?_
 refine G.stepD (OD.subI rfl rfl rfl (by omega)) rfl rfl rfl ?_
 refine G.stepD (OD.indexAddr rfl et22 rfl (Ent.ints (i := 0) rfl) rfl (by omega)) rfl rfl rfl ?_
 refine G.stepD0 (OD.storeInt rfl ti3 rfl rfl (i := 0) rfl (by omega)) rfl rfl ?_
 refine G.nil (GE.blockN (GE.then_ (GC.region ?_)))
 refine G.stepD (OD.move rfl rfl) rfl rfl rfl ?_
 refine G.stepD (OD.addI rfl rfl rfl (by first | omega | (simp only [List.length_set, List.length_replicate]; omega))) rfl rfl rfl ?_
 refine G.stepD (OD.assign rfl rfl) rfl rfl rfl ?_
 refine G.nil ?_
 exact GE.again (k + 1, (ys).set (k) (0 - (x.getD (k) 0))) (⟨by omega, by rw [List.length_set]; exact hyl, fold_next hy rfl⟩) (by first | omega | (dsimp only; omega)) ⟨rfl, rfl, rfl, trivial⟩ [] 0 rfl
 replace hc3 := of_decide_eq_false hc3
 refine GC.exit (GE.pass (GE.pass (GE.hit (GE.then_ (GC.seq (GC.region ?_))))))
 refine G.stepD (OD.move rfl rfl) rfl rfl rfl ?_
 refine G.stepD (OD.assign rfl rfl) rfl rfl rfl ?_
 refine G.nil (GE.then_ (GC.ret ?_))
 exact GE.body [] 0 (res1 rfl rfl) rfl (⟨v1, rfl, hs2, congrArg (fun (l0 : List Int) => ints 3 v1 l0 :: own) ((by rw [hy, show k = x.length by omega]; exact mn_fold : ys = mnF x))⟩)

set_option maxRecDepth 100000 in
theorem listPlus_w {W : World} {own : List Asn} {vx : Value} {x : List Int} {k : Int} {vy : Value} {y : List Int}  (sx : IsS vx) (ex : Ent own fun w => Ints w vx x)   (sy : IsS vy) (ey : Ent own fun w => Ints w vy y)  (hl : x.length ≤ 1073741824) (hle : y.length ≤ x.length) : Spec Tryd.prog 94 [vx, .int .i64 (k), vy] W own (fun v ow => ∃ (r0 : Value), v = r0 ∧ IsS r0 ∧ ow = ints 3 r0 (lpF x k y) :: own) := by
 refine Spec.enter Tryd.f94 _ Tryd.func94 rfl (n := 30) rfl rfl ?_
 refine GC.seq (GC.region ?_)
 refine G.stepD (OD.assign rfl rfl) rfl rfl rfl ?_
 refine G.nil (GE.then_ (GC.seq (GC.region ?_)))
 refine G.stepD (OD.move rfl rfl) rfl rfl rfl ?_
 refine G.step (OG.call [vx] ent70 rfl rfl rfl rfl (by exact (clone_w sx ex (hl)))) rfl rfl rfl ?_
 rintro v1 _ ⟨_, rfl, hs2, rfl⟩
 refine G.stepD (OD.assign rfl rfl) rfl rfl rfl ?_
 refine G.nil (GE.then_ (GC.seq (GC.seq (GC.region ?_))))
 refine G.stepD (OD.move rfl rfl) rfl rfl rfl ?_
 refine G.stepD (OD.len rfl rfl et22 rfl (Ent.drop 1 ey)) rfl rfl rfl ?_
 refine G.stepD (OD.move rfl rfl) rfl rfl rfl ?_
 refine G.nil (GE.then_ (GC.block ?_))
 refine GC.loop (ι := Nat × List Int) (fun ⟨i, ys⟩ => [(1, .int .i64 (k)), (7, v1), (12, vy), (13, .int .i64 ((y.length : Nat))), (14, .int .i64 ((i : Int)))]) (fun ⟨i, ys⟩ => ints 3 v1 ys :: own) (fun ⟨i, ys⟩ => (i ≤ y.length) ∧ (ys.length = x.length) ∧ (ys = (List.range i).foldl (fun (o : List Int) (i : Nat) => o.set i (IntKind.i64.wrap (o.getD i 0 + IntKind.i64.wrap (k * y.getD i 0)))) x)) (fun ⟨i, ys⟩ => y.length - i) (0, x) (⟨by omega, rfl, rfl⟩) ⟨rfl, rfl, rfl, rfl, rfl, trivial⟩ [] 0 rfl ?_
 rintro ⟨i, ys⟩ ⟨hi, hyl, hy⟩
 refine GC.seq (GC.region ?_)
 refine G.stepD (OD.lss rfl rfl rfl) rfl rfl rfl ?_
 refine G.nil (GE.then_ (GC.seq ?_))
 refine GC.cond rfl (fun hc3 => ?_) (fun hc3 => ?_)
 replace hc3 := of_decide_eq_true hc3
 refine GC.skip (GE.then_ (GC.seq (GC.block (GC.seq (GC.region ?_)))))
 refine G.stepD (OD.move rfl rfl) rfl rfl rfl ?_
 refine G.stepD (OD.indexAddr rfl et22 rfl (Ent.drop 1 ey) rfl (by omega)) rfl rfl rfl ?_
 refine G.stepD (OD.loadInt rfl ti3 rfl (Ent.drop 1 ey) (by omega)) rfl rfl rfl ?_
 refine G.stepD (OD.assign rfl rfl) rfl rfl rfl ?_
 refine G.stepD (OD.assign rfl rfl) rfl rfl rfl ?_
 refine G.nil (GE.then_ (GC.region ?_))
 refine G.stepD (OD.move rfl rfl) rfl rfl rfl ?_
 refine G.stepD (OD.move rfl rfl) rfl rfl rfl ?_
 refine G.stepD (OD.indexAddr rfl et22 rfl (Ent.ints (i := 0) rfl) rfl (by omega)) rfl rfl rfl ?_
 refine G.stepD (OD.loadInt rfl ti3 rfl (Ent.ints (i := 0) rfl) (by omega)) rfl rfl rfl ?_
 refine G.stepD (OD.move rfl rfl) rfl rfl rfl ?_
 refine G.stepD (OD.move rfl rfl) rfl rfl rfl ?_
 refine G.stepD (OD.mul rfl rfl rfl) rfl rfl rfl ?_
 refine G.stepD (OD.add rfl rfl rfl) rfl rfl rfl ?_
 refine G.stepD (OD.indexAddr rfl et22 rfl (Ent.ints (i := 0) rfl) rfl (by omega)) rfl rfl rfl ?_
 refine G.stepD0 (OD.storeInt rfl ti3 rfl rfl (i := 0) rfl (by omega)) rfl rfl ?_
 refine G.nil (GE.blockN (GE.then_ (GC.region ?_)))
 refine G.stepD (OD.addI rfl rfl rfl (by first | omega | (simp only [List.length_set, List.length_replicate]; omega))) rfl rfl rfl ?_
 refine G.stepD (OD.move rfl rfl) rfl rfl rfl ?_
 refine G.nil ?_
 exact GE.again (i + 1, (ys).set (i) (IntKind.i64.wrap ((ys.getD (i) 0) + (IntKind.i64.wrap (k * (y.getD (i) 0)))))) (⟨by omega, by rw [List.length_set]; exact hyl, fold_next hy rfl⟩) (by first | omega | (dsimp only; omega)) ⟨rfl, rfl, rfl, rfl, rfl, trivial⟩ [] 0 rfl
 replace hc3 := of_decide_eq_false hc3
 refine GC.exit (GE.pass (GE.pass (GE.hit (GE.then_ (GC.seq (GC.region ?_))))))
 refine G.stepD (OD.move rfl rfl) rfl rfl rfl ?_
 refine G.stepD (OD.assign rfl rfl) rfl rfl rfl ?_
 refine G.nil (GE.then_ (GC.ret ?_))
 exact GE.body [] 0 (res1 rfl rfl) rfl (⟨v1, rfl, hs2, congrArg (fun (l0 : List Int) => ints 3 v1 l0 :: own) ((by rw [hy, show i = y.length by omega]; rfl : ys = lpF x k y))⟩)

set_option maxRecDepth 100000 in
theorem listTimes_w {W : World} {own : List Asn} {k : Int} {vy : Value} {y : List Int}  (sy : IsS vy) (ey : Ent own fun w => Ints w vy y)  (hl : y.length ≤ 1073741824) : Spec Tryd.prog 68 [.int .i64 (k), vy] W own (fun v ow => ∃ (r0 : Value), v = r0 ∧ IsS r0 ∧ ow = ints 3 r0 (lpF (List.replicate y.length 0) k y) :: own) := by
 refine Spec.enter Tryd.f68 _ Tryd.func68 rfl (n := 11) rfl rfl ?_
 refine GC.seq (GC.region ?_)
 refine G.stepD (OD.assign rfl rfl) rfl rfl rfl ?_
 refine G.nil (GE.then_ (GC.seq (GC.region ?_)))
 refine G.stepD (OD.move rfl rfl) rfl rfl rfl ?_
 refine G.stepD (OD.len rfl rfl et22 rfl ey) rfl rfl rfl ?_
 refine G.step (OG.makeInts rfl et22 rfl rfl (by omega)) rfl rfl rfl ?_
 rintro v1 _ ⟨hs2, rfl⟩
 refine G.stepD (OD.move rfl rfl) rfl rfl rfl ?_
 refine G.stepD (OD.move rfl rfl) rfl rfl rfl ?_
 refine G.step (OG.call [v1, .int .i64 (k), vy] ent94 rfl rfl rfl rfl (by exact (listPlus_w hs2 (Ent.ints (i := 0) rfl) sy (Ent.drop 1 ey) (by rw [List.length_replicate]; omega) (by rw [List.length_replicate]; omega)))) rfl rfl rfl ?_
 rintro v3 _ ⟨_, rfl, hs4, rfl⟩
 refine G.stepD (OD.assign rfl rfl) rfl rfl rfl ?_
 refine G.nil (GE.then_ (GC.ret ?_))
 exact GE.body [0] 1 (res1 rfl rfl) rfl (⟨v3, rfl, hs4, rfl⟩)

set_option maxRecDepth 100000 in
theorem l6Turn_w {W : World} {own : List Asn} {vx : Value} {x : List Int}  (sx : IsS vx) (ex : Ent own fun w => Ints w vx x)  (hl : x.length ≤ 1073741824) : Spec Tryd.prog 69 [vx] W own (fun v ow => ∃ (r0 : Value), v = r0 ∧ IsS r0 ∧ ow = ints 3 r0 x.reverse :: own) := by
 refine Spec.enter Tryd.f69 _ Tryd.func69 rfl (n := 21) rfl rfl ?_
 refine GC.seq (GC.region ?_)
 refine G.stepD (OD.assign rfl rfl) rfl rfl rfl ?_
 refine G.nil (GE.then_ (GC.seq (GC.region ?_)))
 refine G.step (OG.buildInts (xs := []) (is := []) rfl et22 rfl rfl rfl rfl rfl) rfl rfl rfl ?_
 rintro v1 _ ⟨hs2, rfl⟩
 refine G.stepD (OD.assign rfl rfl) rfl rfl rfl ?_
 refine G.nil (GE.then_ (GC.seq (GC.seq (GC.region ?_))))
 refine G.stepD (OD.move rfl rfl) rfl rfl rfl ?_
 refine G.stepD (OD.len rfl rfl et22 rfl (Ent.drop 1 ex)) rfl rfl rfl ?_
 refine G.stepD (OD.subI rfl rfl rfl (by omega)) rfl rfl rfl ?_
 refine G.stepD (OD.assign rfl rfl) rfl rfl rfl ?_
 refine G.nil (GE.then_ (GC.block ?_))
 refine GC.loop (ι := Nat × List Int × Value) (fun ⟨q, ys, v⟩ => [(0, vx), (3, v), (4, .int .i64 ((q : Int) - 1))]) (fun ⟨q, ys, v⟩ => ints 3 v ys :: own) (fun ⟨q, ys, v⟩ => (q ≤ x.length) ∧ (IsS v) ∧ (ys = (x.drop q).reverse)) (fun ⟨q, ys, v⟩ => q) (x.length, [], v1) (⟨by omega, hs2, by simp⟩) ⟨rfl, rfl, int_eq (by omega), trivial⟩ [] 0 rfl ?_
 rintro ⟨q, ys, v⟩ ⟨hq, hv, hy⟩
 have hyl : ys.length = x.length - q := by rw [hy]; simp
 refine GC.seq (GC.seq (GC.region ?_))
 refine G.stepD (OD.move rfl rfl) rfl rfl rfl ?_
 refine G.stepD (OD.geq rfl rfl rfl) rfl rfl rfl ?_
 refine G.nil (GE.then_ ?_)
 refine GC.cond rfl (fun hc3 => ?_) (fun hc3 => ?_)
 replace hc3 := of_decide_eq_true hc3
 have hqe : ((q : Int) - 1).toNat = q - 1 := by omega
 refine GC.skip (GE.then_ (GC.seq (GC.block (GC.region ?_))))
 refine G.stepD (OD.move rfl rfl) rfl rfl rfl ?_
 refine G.stepD (OD.move rfl rfl) rfl rfl rfl ?_
 refine G.stepD (OD.move rfl rfl) rfl rfl rfl ?_
 refine G.stepD (OD.indexAddr rfl et22 rfl (Ent.drop 1 ex) rfl (by omega)) rfl rfl rfl ?_
 refine G.stepD (OD.loadInt rfl ti3 rfl (Ent.drop 1 ex) (by omega)) rfl rfl rfl ?_
 refine G.step (OG.buildInts (xs := [.tmp 17]) (is := [x.getD (((q : Int) - 1 : Int).toNat) 0]) rfl et22 rfl rfl rfl rfl rfl) rfl rfl rfl ?_
 rintro v4 _ ⟨hs5, rfl⟩
 refine G.step (OG.appendInts 1 rfl rfl et22 rfl rfl rfl (Ent.ints (i := 0) rfl) (by first | omega | (simp; omega))) rfl rfl rfl ?_
 rintro v6 _ ⟨hs7, rfl⟩
 refine G.stepD (OD.assign rfl rfl) rfl rfl rfl ?_
 refine G.nil (GE.blockN (GE.then_ (GC.region ?_)))
 refine G.stepD (OD.move rfl rfl) rfl rfl rfl ?_
 refine G.stepD (OD.subI rfl rfl rfl (by omega)) rfl rfl rfl ?_
 refine G.stepD (OD.assign rfl rfl) rfl rfl rfl ?_
 refine G.nil ?_
 exact GE.again (q - 1, ys ++ [x.getD (((q : Int) - 1 : Int).toNat) 0], v6) (⟨by omega, hs7, by rw [hy, hqe]; exact turn_step (by omega)⟩) (by first | omega | (dsimp only; omega)) ⟨rfl, rfl, int_eq (by omega), trivial⟩ [1] 1 rfl
 replace hc3 := of_decide_eq_false hc3
 refine GC.exit (GE.pass (GE.pass (GE.hit (GE.then_ (GC.seq (GC.region ?_))))))
 refine G.stepD (OD.move rfl rfl) rfl rfl rfl ?_
 refine G.stepD (OD.assign rfl rfl) rfl rfl rfl ?_
 refine G.nil (GE.then_ (GC.ret ?_))
 exact GE.body [] 0 (res1 rfl rfl) rfl (⟨v, rfl, hv, congrArg (fun (l0 : List Int) => ints 3 v l0 :: own) ((by rw [hy, show q = 0 by omega]; rfl : ys = x.reverse))⟩)

set_option maxRecDepth 100000 in
theorem normalOfF_w {W : World} {own : List Asn} {y : Int}    : Spec Tryd.prog 92 [.int .i64 (y)] W own (fun v ow => v = .bool (decide (y < 0)) ∧ ow = own) := by
 refine Spec.enter Tryd.f92 _ Tryd.func92 rfl (n := 5) rfl rfl ?_
 refine GC.seq (GC.region ?_)
 refine G.stepD (OD.assign rfl rfl) rfl rfl rfl ?_
 refine G.nil (GE.then_ (GC.seq (GC.region ?_)))
 refine G.stepD (OD.move rfl rfl) rfl rfl rfl ?_
 refine G.stepD (OD.lss rfl rfl rfl) rfl rfl rfl ?_
 refine G.stepD (OD.assign rfl rfl) rfl rfl rfl ?_
 refine G.nil (GE.then_ (GC.ret ?_))
 exact GE.body [] 0 (res1 rfl rfl) rfl (⟨rfl, rfl⟩)

set_option maxRecDepth 100000 in
theorem isHighestF_w {W : World} {own : List Asn} {y : Int}    : Spec Tryd.prog 93 [.int .i64 (y)] W own (fun v ow => v = .bool (!(inB y 0 3)) ∧ ow = own) := by
 refine Spec.enter Tryd.f93 _ Tryd.func93 rfl (n := 6) rfl rfl ?_
 refine GC.seq (GC.region ?_)
 refine G.stepD (OD.assign rfl rfl) rfl rfl rfl ?_
 refine G.nil (GE.then_ (GC.seq (GC.region ?_)))
 refine G.stepD (OD.move rfl rfl) rfl rfl rfl ?_
 refine G.step (OG.call [.int .i64 (y), .int .i64 (0), .int .i64 (3)] ent56 rfl rfl rfl rfl (by exact inside_w)) rfl rfl rfl ?_
 rintro _ _ ⟨rfl, hzz⟩; obtain rfl := hzz.symm
 refine G.stepD (OD.not rfl rfl) rfl rfl rfl ?_
 refine G.stepD (OD.assign rfl rfl) rfl rfl rfl ?_
 refine G.nil (GE.then_ (GC.ret ?_))
 exact GE.body [] 0 (res1 rfl rfl) rfl (⟨rfl, rfl⟩)

set_option maxRecDepth 100000 in
theorem dominantOfF_w {W : World} {own : List Asn} {y : Int}    : Spec Tryd.prog 76 [.int .i64 (y)] W own (fun v ow => v = .bool (decide (y < 0)) ∧ ow = own) := by
 refine Spec.enter Tryd.f76 _ Tryd.func76 rfl (n := 5) rfl rfl ?_
 refine GC.seq (GC.region ?_)
 refine G.stepD (OD.assign rfl rfl) rfl rfl rfl ?_
 refine G.nil (GE.then_ (GC.seq (GC.region ?_)))
 refine G.stepD (OD.move rfl rfl) rfl rfl rfl ?_
 refine G.stepD (OD.lss rfl rfl rfl) rfl rfl rfl ?_
 refine G.stepD (OD.assign rfl rfl) rfl rfl rfl ?_
 refine G.nil (GE.then_ (GC.ret ?_))
 exact GE.body [] 0 (res1 rfl rfl) rfl (⟨rfl, rfl⟩)

set_option maxRecDepth 100000 in
theorem indexFuncN_w {W : World} {own : List Asn} {vx : Value} {x : List Int}  (sx : IsS vx) (ex : Ent own fun w => Ints w vx x)   (hl : x.length ≤ 9223372036854775807) : Spec Tryd.prog 75 [vx, .func (.func 92) #[] #[]] W own (fun v ow => v = .int .i64 (posF (fun (y : Int) => decide (y < 0)) x) ∧ ow = own) := by
 refine Spec.enter Tryd.f75 _ Tryd.func75 rfl (n := 19) rfl rfl ?_
 refine GC.seq (GC.region ?_)
 refine G.stepD (OD.assign rfl rfl) rfl rfl rfl ?_
 refine G.nil (GE.then_ (GC.seq (GC.seq (GC.region ?_))))
 refine G.stepD (OD.move rfl rfl) rfl rfl rfl ?_
 refine G.stepD (OD.len rfl rfl et22 rfl ex) rfl rfl rfl ?_
 refine G.stepD (OD.move rfl rfl) rfl rfl rfl ?_
 refine G.nil (GE.then_ (GC.block ?_))
 refine GC.loop (ι := Nat) (fun k => [(0, vx), (1, .func (.func 92) #[] #[]), (7, .int .i64 ((x.length : Nat))), (8, .int .i64 ((k : Int)))]) (fun k => own) (fun k => (k ≤ x.length) ∧ ((x.take k).any (fun (y : Int) => decide (y < 0)) = false)) (fun k => x.length - k) 0 (⟨by omega, by simp⟩) ⟨rfl, rfl, rfl, rfl, trivial⟩ [] 0 rfl ?_
 rintro k ⟨hk, ht⟩
 refine GC.seq (GC.region ?_)
 refine G.stepD (OD.lss rfl rfl rfl) rfl rfl rfl ?_
 refine G.nil (GE.then_ (GC.seq ?_))
 refine GC.cond rfl (fun hc1 => ?_) (fun hc1 => ?_)
 replace hc1 := of_decide_eq_true hc1
 refine GC.skip (GE.then_ (GC.seq (GC.block (GC.seq (GC.region ?_)))))
 refine G.stepD (OD.move rfl rfl) rfl rfl rfl ?_
 refine G.stepD (OD.assign rfl rfl) rfl rfl rfl ?_
 refine G.nil (GE.then_ (GC.seq (GC.region ?_)))
 refine G.stepD (OD.move rfl rfl) rfl rfl rfl ?_
 refine G.stepD (OD.move rfl rfl) rfl rfl rfl ?_
 refine G.stepD (OD.move rfl rfl) rfl rfl rfl ?_
 refine G.stepD (OD.indexAddr rfl et22 rfl ex rfl (by omega)) rfl rfl rfl ?_
 refine G.stepD (OD.loadInt rfl ti3 rfl ex (by omega)) rfl rfl rfl ?_
 refine G.step (OG.call [.int .i64 (x.getD (k) 0)] ent92 rfl rfl rfl rfl (by exact normalOfF_w)) rfl rfl rfl ?_
 rintro _ _ ⟨rfl, hzz⟩; obtain rfl := hzz.symm
 refine G.nil (GE.then_ ?_)
 refine GC.cond rfl (fun hc2 => ?_) (fun hc2 => ?_)
 have hc2b : (fun (y : Int) => decide (y < 0)) (x.getD k 0) = true := hc2
 refine GC.seq (GC.region ?_)
 refine G.stepD (OD.move rfl rfl) rfl rfl rfl ?_
 refine G.stepD (OD.assign rfl rfl) rfl rfl rfl ?_
 refine G.nil (GE.then_ (GC.ret (GE.blockR (GE.passR (GE.passR (GE.blockR (GE.passR ?_)))))))
 exact GE.body [] 0 (res1 rfl rfl) rfl (⟨congrArg (fun (a0 : Int) => (.int .i64 (a0) : Value)) (((posF_at (d := 0) (by omega) ht (by assumption)).symm : ((k : Int) : Int) = posF (fun (y : Int) => decide (y < 0)) x)), rfl⟩)
 have hc2b : (fun (y : Int) => decide (y < 0)) (x.getD k 0) = false := hc2
 refine GC.skip (GE.blockN (GE.then_ (GC.region ?_)))
 refine G.stepD (OD.addI rfl rfl rfl (by omega)) rfl rfl rfl ?_
 refine G.stepD (OD.move rfl rfl) rfl rfl rfl ?_
 refine G.nil ?_
 exact GE.again (k + 1) (⟨by omega, any_take_succ (d := 0) (by omega) ht (by assumption)⟩) (by first | omega | (dsimp only; omega)) ⟨rfl, rfl, rfl, rfl, trivial⟩ [] 0 rfl
 replace hc1 := of_decide_eq_false hc1
 refine GC.exit (GE.pass (GE.pass (GE.hit (GE.then_ (GC.seq (GC.region ?_))))))
 refine G.stepD (OD.assign rfl rfl) rfl rfl rfl ?_
 refine G.nil (GE.then_ (GC.ret ?_))
 exact GE.body [] 0 (res1 rfl rfl) rfl (⟨congrArg (fun (a0 : Int) => (.int .i64 (a0) : Value)) (((posF_none (any_take_all (by omega) ht)).symm : (-1 : Int) = posF (fun (y : Int) => decide (y < 0)) x)), rfl⟩)

set_option maxRecDepth 100000 in
theorem indexFuncH_w {W : World} {own : List Asn} {vx : Value} {x : List Int}  (sx : IsS vx) (ex : Ent own fun w => Ints w vx x)   (hl : x.length ≤ 9223372036854775807) : Spec Tryd.prog 75 [vx, .func (.func 93) #[] #[]] W own (fun v ow => v = .int .i64 (posF (fun (y : Int) => !(inB y 0 3)) x) ∧ ow = own) := by
 refine Spec.enter Tryd.f75 _ Tryd.func75 rfl (n := 19) rfl rfl ?_
 refine GC.seq (GC.region ?_)
 refine G.stepD (OD.assign rfl rfl) rfl rfl rfl ?_
 refine G.nil (GE.then_ (GC.seq (GC.seq (GC.region ?_))))
 refine G.stepD (OD.move rfl rfl) rfl rfl rfl ?_
 refine G.stepD (OD.len rfl rfl et22 rfl ex) rfl rfl rfl ?_
 refine G.stepD (OD.move rfl rfl) rfl rfl rfl ?_
 refine G.nil (GE.then_ (GC.block ?_))
 refine GC.loop (ι := Nat) (fun k => [(0, vx), (1, .func (.func 93) #[] #[]), (7, .int .i64 ((x.length : Nat))), (8, .int .i64 ((k : Int)))]) (fun k => own) (fun k => (k ≤ x.length) ∧ ((x.take k).any (fun (y : Int) => !(inB y 0 3)) = false)) (fun k => x.length - k) 0 (⟨by omega, by simp⟩) ⟨rfl, rfl, rfl, rfl, trivial⟩ [] 0 rfl ?_
 rintro k ⟨hk, ht⟩
 refine GC.seq (GC.region ?_)
 refine G.stepD (OD.lss rfl rfl rfl) rfl rfl rfl ?_
 refine G.nil (GE.then_ (GC.seq ?_))
 refine GC.cond rfl (fun hc1 => ?_) (fun hc1 => ?_)
 replace hc1 := of_decide_eq_true hc1
 refine GC.skip (GE.then_ (GC.seq (GC.block (GC.seq (GC.region ?_)))))
 refine G.stepD (OD.move rfl rfl) rfl rfl rfl ?_
 refine G.stepD (OD.assign rfl rfl) rfl rfl rfl ?_
 refine G.nil (GE.then_ (GC.seq (GC.region ?_)))
 refine G.stepD (OD.move rfl rfl) rfl rfl rfl ?_
 refine G.stepD (OD.move rfl rfl) rfl rfl rfl ?_
 refine G.stepD (OD.move rfl rfl) rfl rfl rfl ?_
 refine G.stepD (OD.indexAddr rfl et22 rfl ex rfl (by omega)) rfl rfl rfl ?_
 refine G.stepD (OD.loadInt rfl ti3 rfl ex (by omega)) rfl rfl rfl ?_
 refine G.step (OG.call [.int .i64 (x.getD (k) 0)] ent93 rfl rfl rfl rfl (by exact isHighestF_w)) rfl rfl rfl ?_
 rintro _ _ ⟨rfl, hzz⟩; obtain rfl := hzz.symm
 refine G.nil (GE.then_ ?_)
 refine GC.cond rfl (fun hc2 => ?_) (fun hc2 => ?_)
 replace hc2 := eq_false_of_not hc2
 have hc2b : (fun (y : Int) => !(inB y 0 3)) (x.getD k 0) = true := by show (!(inB _ _ _)) = true; rw [hc2]; rfl
 refine GC.seq (GC.region ?_)
 refine G.stepD (OD.move rfl rfl) rfl rfl rfl ?_
 refine G.stepD (OD.assign rfl rfl) rfl rfl rfl ?_
 refine G.nil (GE.then_ (GC.ret (GE.blockR (GE.passR (GE.passR (GE.blockR (GE.passR ?_)))))))
 exact GE.body [] 0 (res1 rfl rfl) rfl (⟨congrArg (fun (a0 : Int) => (.int .i64 (a0) : Value)) (((posF_at (d := 0) (by omega) ht (by assumption)).symm : ((k : Int) : Int) = posF (fun (y : Int) => !(inB y 0 3)) x)), rfl⟩)
 replace hc2 := eq_true_of_not hc2
 have hc2b : (fun (y : Int) => !(inB y 0 3)) (x.getD k 0) = false := by show (!(inB _ _ _)) = false; rw [hc2]; rfl
 refine GC.skip (GE.blockN (GE.then_ (GC.region ?_)))
 refine G.stepD (OD.addI rfl rfl rfl (by omega)) rfl rfl rfl ?_
 refine G.stepD (OD.move rfl rfl) rfl rfl rfl ?_
 refine G.nil ?_
 exact GE.again (k + 1) (⟨by omega, any_take_succ (d := 0) (by omega) ht (by assumption)⟩) (by first | omega | (dsimp only; omega)) ⟨rfl, rfl, rfl, rfl, trivial⟩ [] 0 rfl
 replace hc1 := of_decide_eq_false hc1
 refine GC.exit (GE.pass (GE.pass (GE.hit (GE.then_ (GC.seq (GC.region ?_))))))
 refine G.stepD (OD.assign rfl rfl) rfl rfl rfl ?_
 refine G.nil (GE.then_ (GC.ret ?_))
 exact GE.body [] 0 (res1 rfl rfl) rfl (⟨congrArg (fun (a0 : Int) => (.int .i64 (a0) : Value)) (((posF_none (any_take_all (by omega) ht)).symm : (-1 : Int) = posF (fun (y : Int) => !(inB y 0 3)) x)), rfl⟩)

set_option maxRecDepth 100000 in
theorem containsFuncH_w {W : World} {own : List Asn} {vx : Value} {x : List Int}  (sx : IsS vx) (ex : Ent own fun w => Ints w vx x)   (hl : x.length ≤ 9223372036854775807) : Spec Tryd.prog 88 [vx, .func (.func 93) #[] #[]] W own (fun v ow => v = .bool (x.any (fun (y : Int) => !(inB y 0 3))) ∧ ow = own) := by
 refine Spec.enter Tryd.f88 _ Tryd.func88 rfl (n := 9) rfl rfl ?_
 refine GC.seq (GC.region ?_)
 refine G.stepD (OD.assign rfl rfl) rfl rfl rfl ?_
 refine G.nil (GE.then_ (GC.seq (GC.region ?_)))
 refine G.stepD (OD.move rfl rfl) rfl rfl rfl ?_
 refine G.stepD (OD.move rfl rfl) rfl rfl rfl ?_
 refine G.step (OG.call [vx, .func (.func 93) #[] #[]] ent75 rfl rfl rfl rfl (by exact (indexFuncH_w sx ex (hl)))) rfl rfl rfl ?_
 rintro _ _ ⟨rfl, hzz⟩; obtain rfl := hzz.symm
 refine G.stepD (OD.geq rfl rfl rfl) rfl rfl rfl ?_
 refine G.stepD (OD.assign rfl rfl) rfl rfl rfl ?_
 refine G.nil (GE.then_ (GC.ret ?_))
 exact GE.body [] 0 (res1 rfl rfl) rfl (⟨congrArg (fun (a0 : Bool) => (.bool (a0) : Value)) ((posF_ge : (decide (0 ≤ posF (fun (y : Int) => !(inB y 0 3)) x) : Bool) = x.any (fun (y : Int) => !(inB y 0 3)))), rfl⟩)

set_option maxRecDepth 100000 in
theorem indexFuncD_w {W : World} {own : List Asn} {vx : Value} {x : List Int}  (sx : IsS vx) (ex : Ent own fun w => Ints w vx x)   (hl : x.length ≤ 9223372036854775807) : Spec Tryd.prog 75 [vx, .func (.func 76) #[] #[]] W own (fun v ow => v = .int .i64 (posF (fun (y : Int) => decide (y < 0)) x) ∧ ow = own) := by
 refine Spec.enter Tryd.f75 _ Tryd.func75 rfl (n := 19) rfl rfl ?_
 refine GC.seq (GC.region ?_)
 refine G.stepD (OD.assign rfl rfl) rfl rfl rfl ?_
 refine G.nil (GE.then_ (GC.seq (GC.seq (GC.region ?_))))
 refine G.stepD (OD.move rfl rfl) rfl rfl rfl ?_
 refine G.stepD (OD.len rfl rfl et22 rfl ex) rfl rfl rfl ?_
 refine G.stepD (OD.move rfl rfl) rfl rfl rfl ?_
 refine G.nil (GE.then_ (GC.block ?_))
 refine GC.loop (ι := Nat) (fun k => [(0, vx), (1, .func (.func 76) #[] #[]), (7, .int .i64 ((x.length : Nat))), (8, .int .i64 ((k : Int)))]) (fun k => own) (fun k => (k ≤ x.length) ∧ ((x.take k).any (fun (y : Int) => decide (y < 0)) = false)) (fun k => x.length - k) 0 (⟨by omega, by simp⟩) ⟨rfl, rfl, rfl, rfl, trivial⟩ [] 0 rfl ?_
 rintro k ⟨hk, ht⟩
 refine GC.seq (GC.region ?_)
 refine G.stepD (OD.lss rfl rfl rfl) rfl rfl rfl ?_
 refine G.nil (GE.then_ (GC.seq ?_))
 refine GC.cond rfl (fun hc1 => ?_) (fun hc1 => ?_)
 replace hc1 := of_decide_eq_true hc1
 refine GC.skip (GE.then_ (GC.seq (GC.block (GC.seq (GC.region ?_)))))
 refine G.stepD (OD.move rfl rfl) rfl rfl rfl ?_
 refine G.stepD (OD.assign rfl rfl) rfl rfl rfl ?_
 refine G.nil (GE.then_ (GC.seq (GC.region ?_)))
 refine G.stepD (OD.move rfl rfl) rfl rfl rfl ?_
 refine G.stepD (OD.move rfl rfl) rfl rfl rfl ?_
 refine G.stepD (OD.move rfl rfl) rfl rfl rfl ?_
 refine G.stepD (OD.indexAddr rfl et22 rfl ex rfl (by omega)) rfl rfl rfl ?_
 refine G.stepD (OD.loadInt rfl ti3 rfl ex (by omega)) rfl rfl rfl ?_
 refine G.step (OG.call [.int .i64 (x.getD (k) 0)] ent76 rfl rfl rfl rfl (by exact dominantOfF_w)) rfl rfl rfl ?_
 rintro _ _ ⟨rfl, hzz⟩; obtain rfl := hzz.symm
 refine G.nil (GE.then_ ?_)
 refine GC.cond rfl (fun hc2 => ?_) (fun hc2 => ?_)
 have hc2b : (fun (y : Int) => decide (y < 0)) (x.getD k 0) = true := hc2
 refine GC.seq (GC.region ?_)
 refine G.stepD (OD.move rfl rfl) rfl rfl rfl ?_
 refine G.stepD (OD.assign rfl rfl) rfl rfl rfl ?_
 refine G.nil (GE.then_ (GC.ret (GE.blockR (GE.passR (GE.passR (GE.blockR (GE.passR ?_)))))))
 exact GE.body [] 0 (res1 rfl rfl) rfl (⟨congrArg (fun (a0 : Int) => (.int .i64 (a0) : Value)) (((posF_at (d := 0) (by omega) ht (by assumption)).symm : ((k : Int) : Int) = posF (fun (y : Int) => decide (y < 0)) x)), rfl⟩)
 have hc2b : (fun (y : Int) => decide (y < 0)) (x.getD k 0) = false := hc2
 refine GC.skip (GE.blockN (GE.then_ (GC.region ?_)))
 refine G.stepD (OD.addI rfl rfl rfl (by omega)) rfl rfl rfl ?_
 refine G.stepD (OD.move rfl rfl) rfl rfl rfl ?_
 refine G.nil ?_
 exact GE.again (k + 1) (⟨by omega, any_take_succ (d := 0) (by omega) ht (by assumption)⟩) (by first | omega | (dsimp only; omega)) ⟨rfl, rfl, rfl, rfl, trivial⟩ [] 0 rfl
 replace hc1 := of_decide_eq_false hc1
 refine GC.exit (GE.pass (GE.pass (GE.hit (GE.then_ (GC.seq (GC.region ?_))))))
 refine G.stepD (OD.assign rfl rfl) rfl rfl rfl ?_
 refine G.nil (GE.then_ (GC.ret ?_))
 exact GE.body [] 0 (res1 rfl rfl) rfl (⟨congrArg (fun (a0 : Int) => (.int .i64 (a0) : Value)) (((posF_none (any_take_all (by omega) ht)).symm : (-1 : Int) = posF (fun (y : Int) => decide (y < 0)) x)), rfl⟩)

set_option maxRecDepth 100000 in
theorem isHighest_w {W : World} {own : List Asn} {cr : Int} {vcd : Value} {cd : List Int} {vx : Value} {x : List Int}  (scd : IsS vcd) (ecd : Ent own fun w => Ints w vcd cd)   (sx : IsS vx) (ex : Ent own fun w => Ints w vx x)  (hl : x.length ≤ 9223372036854775807) : Spec Tryd.prog 67 [.agg #[.int .i64 (cr), vcd], vx] W own (fun v ow => v = .bool (hiOk cr x) ∧ ow = own) := by
 refine Spec.enter Tryd.f67 _ Tryd.func67 rfl (n := 15) rfl rfl ?_
 refine GC.seq (GC.region ?_)
 refine G.step (OG.box (cs := [.int .i64 (cr), vcd]) rfl rfl rfl) rfl rfl rfl ?_
 rintro _ _ ⟨g1, rfl, rfl⟩
 refine G.stepD (OD.assign rfl rfl) rfl rfl rfl ?_
 refine G.nil (GE.then_ (GC.seq (GC.region ?_)))
 refine G.stepD (OD.move rfl rfl) rfl rfl rfl ?_
 refine G.stepD (OD.len rfl rfl et22 rfl (Ent.drop 1 ex)) rfl rfl rfl ?_
 refine G.stepD (OD.fieldAddr rfl rfl fa27_0) rfl rfl rfl ?_
 refine G.stepD (OD.load rfl ti3 rfl (i := 0) rfl rfl) rfl rfl rfl ?_
 refine G.stepD (OD.eql rfl rfl rfl) rfl rfl rfl ?_
 refine G.stepD (OD.move rfl rfl) rfl rfl rfl ?_
 rcases Bool.eq_false_or_eq_true ((x.length : Nat) == cr) with hg2 | hg2
 have hg2e := hg2
 refine G.at [] 0 (env' := [(0, .agg #[.int .i64 (cr), vcd]), (1, vx), (2, .pointer (some ⟨g1, 0, none⟩)), (4, .bool false), (5, vx), (6, .int .i64 ((x.length : Nat))), (7, .pointer (some ⟨g1, 0, none⟩)), (8, .int .i64 (cr)), (9, .bool true), (10, .bool true)]) (⟨rfl, rfl, rfl, rfl, rfl, rfl, rfl, rfl, (congrArg (fun b => some (Value.bool b)) hg2e), (congrArg (fun b => some (Value.bool b)) hg2e), trivial⟩) rfl ?_
 replace hg2 := eq_of_beq hg2
 refine G.stepGD (OD.move rfl rfl) rfl rfl rfl rfl rfl ?_
 refine G.stepG (OG.call [vx, .func (.func 93) #[] #[]] ent88 rfl rfl rfl rfl (by exact (containsFuncH_w sx (Ent.drop 1 ex) (by omega)))) rfl rfl rfl rfl rfl ?_
 rintro _ _ ⟨rfl, rfl⟩
 refine G.stepGD (OD.not rfl rfl) rfl rfl rfl rfl rfl ?_
 refine G.stepD (OD.pickT rfl rfl rfl) rfl rfl rfl ?_
 refine G.stepD (OD.assign rfl rfl) rfl rfl rfl ?_
 refine G.nil (GE.then_ (GC.ret ?_))
 exact GE.body [] 1 (res1 rfl rfl) rfl (⟨congrArg (fun (a0 : Bool) => (.bool (a0) : Value)) ((by rw [hiOk, hg2e]; rfl : (!(x.any (fun (y : Int) => !(inB y 0 3))) : Bool) = hiOk cr x)), rfl⟩)
 have hg2e := hg2
 refine G.at [] 0 (env' := [(0, .agg #[.int .i64 (cr), vcd]), (1, vx), (2, .pointer (some ⟨g1, 0, none⟩)), (4, .bool false), (5, vx), (6, .int .i64 ((x.length : Nat))), (7, .pointer (some ⟨g1, 0, none⟩)), (8, .int .i64 (cr)), (9, .bool false), (10, .bool false)]) (⟨rfl, rfl, rfl, rfl, rfl, rfl, rfl, rfl, (congrArg (fun b => some (Value.bool b)) hg2e), (congrArg (fun b => some (Value.bool b)) hg2e), trivial⟩) rfl ?_
 replace hg2 := ne_of_beq_false hg2
 refine G.skipG rfl rfl rfl rfl rfl rfl (G.skipG rfl rfl rfl rfl rfl rfl (G.skipG rfl rfl rfl rfl rfl rfl ?_))
 refine G.stepD (OD.pickF rfl rfl rfl) rfl rfl rfl ?_
 refine G.stepD (OD.assign rfl rfl) rfl rfl rfl ?_
 refine G.nil (GE.then_ (GC.ret ?_))
 exact GE.body [] 1 (res1 rfl rfl) rfl (⟨congrArg (fun (a0 : Bool) => (.bool (a0) : Value)) ((by rw [hiOk, hg2e]; rfl : (false : Bool) = hiOk cr x)), rfl⟩)

set_option maxRecDepth 100000 in
theorem l8Highest_w {W : World} {own : List Asn} {cr : Int} {vcd : Value} {cd : List Int} {vx : Value} {x : List Int}  (scd : IsS vcd) (ecd : Ent own fun w => Ints w vcd cd)   (sx : IsS vx) (ex : Ent own fun w => Ints w vx x)  (hl : x.length ≤ 9223372036854775807) : Spec Tryd.prog 65 [.agg #[.int .i64 (cr), vcd], vx] W own (fun v ow => v = .bool (hiOk cr x) ∧ ow = own) := by
 refine Spec.enter Tryd.f65 _ Tryd.func65 rfl (n := 23) rfl rfl ?_
 refine GC.seq (GC.region ?_)
 refine G.step (OG.box (cs := [.int .i64 (cr), vcd]) rfl rfl rfl) rfl rfl rfl ?_
 rintro _ _ ⟨g1, rfl, rfl⟩
 refine G.stepD (OD.assign rfl rfl) rfl rfl rfl ?_
 refine G.nil (GE.then_ (GC.seq (GC.seq (GC.region ?_))))
 refine G.stepD (OD.move rfl rfl) rfl rfl rfl ?_
 refine G.stepD (OD.len rfl rfl et22 rfl (Ent.drop 1 ex)) rfl rfl rfl ?_
 refine G.stepD (OD.fieldAddr rfl rfl fa27_0) rfl rfl rfl ?_
 refine G.stepD (OD.load rfl ti3 rfl (i := 0) rfl rfl) rfl rfl rfl ?_
 refine G.stepD (OD.neq rfl rfl rfl) rfl rfl rfl ?_
 refine G.nil (GE.then_ ?_)
 refine GC.cond rfl (fun hc2 => ?_) (fun hc2 => ?_)
 replace hc2 := ne_of_bne hc2
 refine GC.seq (GC.region ?_)
 refine G.stepD (OD.assign rfl rfl) rfl rfl rfl ?_
 refine G.nil (GE.then_ (GC.ret (GE.passR ?_)))
 exact GE.body [] 1 (res1 rfl rfl) rfl (⟨congrArg (fun (a0 : Bool) => (.bool (a0) : Value)) ((by rw [hiOk, beqI_ne (by assumption)]; rfl : (false : Bool) = hiOk cr x)), rfl⟩)
 replace hc2 := eq_of_bne_false hc2
 refine GC.skip (GE.then_ (GC.seq (GC.seq (GC.region ?_))))
 refine G.stepD (OD.assign rfl rfl) rfl rfl rfl ?_
 refine G.nil (GE.then_ (GC.block ?_))
 refine GC.loop (ι := Nat) (fun k => [(1, vx), (5, .int .i64 ((k : Int)))]) (fun k => box g1 27 [.int .i64 (cr), vcd] :: own) (fun k => (k ≤ x.length) ∧ ((x.take k).any (fun (y : Int) => !(inB y 0 3)) = false)) (fun k => x.length - k) 0 (⟨by omega, by simp⟩) ⟨rfl, rfl, trivial⟩ [] 0 rfl ?_
 rintro k ⟨hk, ht⟩
 refine GC.seq (GC.seq (GC.region ?_))
 refine G.stepD (OD.move rfl rfl) rfl rfl rfl ?_
 refine G.stepD (OD.move rfl rfl) rfl rfl rfl ?_
 refine G.stepD (OD.len rfl rfl et22 rfl (Ent.drop 1 ex)) rfl rfl rfl ?_
 refine G.stepD (OD.lss rfl rfl rfl) rfl rfl rfl ?_
 refine G.nil (GE.then_ ?_)
 refine GC.cond rfl (fun hc3 => ?_) (fun hc3 => ?_)
 replace hc3 := of_decide_eq_true hc3
 refine GC.skip (GE.then_ (GC.seq (GC.block (GC.seq (GC.region ?_)))))
 refine G.stepD (OD.move rfl rfl) rfl rfl rfl ?_
 refine G.stepD (OD.move rfl rfl) rfl rfl rfl ?_
 refine G.stepD (OD.indexAddr rfl et22 rfl (Ent.drop 1 ex) rfl (by omega)) rfl rfl rfl ?_
 refine G.stepD (OD.loadInt rfl ti3 rfl (Ent.drop 1 ex) (by omega)) rfl rfl rfl ?_
 refine G.step (OG.call [.int .i64 (x.getD (k) 0), .int .i64 (0), .int .i64 (3)] ent85 rfl rfl rfl rfl (by exact l1In_w)) rfl rfl rfl ?_
 rintro _ _ ⟨rfl, rfl⟩
 refine G.stepD (OD.not rfl rfl) rfl rfl rfl ?_
 refine G.nil (GE.then_ ?_)
 refine GC.cond rfl (fun hc4 => ?_) (fun hc4 => ?_)
 replace hc4 := eq_false_of_not hc4
 have hc4b : (fun (y : Int) => !(inB y 0 3)) (x.getD k 0) = true := by show (!(inB _ _ _)) = true; rw [hc4]; rfl
 refine GC.seq (GC.region ?_)
 refine G.stepD (OD.assign rfl rfl) rfl rfl rfl ?_
 refine G.nil (GE.then_ (GC.ret (GE.blockR (GE.passR (GE.passR (GE.blockR (GE.passR ?_)))))))
 exact GE.body [] 1 (res1 rfl rfl) rfl (⟨congrArg (fun (a0 : Bool) => (.bool (a0) : Value)) ((by rw [hiOk, (List.any_eq_true.2 ⟨x.getD k 0, by simp [List.getD, show k < x.length by omega], by assumption⟩ : x.any (fun (y : Int) => !(inB y 0 3)) = true)]; simp : (false : Bool) = hiOk cr x)), rfl⟩)
 replace hc4 := eq_true_of_not hc4
 have hc4b : (fun (y : Int) => !(inB y 0 3)) (x.getD k 0) = false := by show (!(inB _ _ _)) = false; rw [hc4]; rfl
 refine GC.skip (GE.blockN (GE.then_ (GC.region ?_)))
 refine G.stepD (OD.move rfl rfl) rfl rfl rfl ?_
 refine G.stepD (OD.addI rfl rfl rfl (by omega)) rfl rfl rfl ?_
 refine G.stepD (OD.assign rfl rfl) rfl rfl rfl ?_
 refine G.nil ?_
 exact GE.again (k + 1) (⟨by omega, any_take_succ (d := 0) (by omega) ht (by assumption)⟩) (by first | omega | (dsimp only; omega)) ⟨rfl, rfl, trivial⟩ [] 0 rfl
 replace hc3 := of_decide_eq_false hc3
 refine GC.exit (GE.pass (GE.pass (GE.hit (GE.then_ (GC.seq (GC.region ?_))))))
 refine G.stepD (OD.assign rfl rfl) rfl rfl rfl ?_
 refine G.nil (GE.then_ (GC.ret ?_))
 exact GE.body [] 1 (res1 rfl rfl) rfl (⟨congrArg (fun (a0 : Bool) => (.bool (a0) : Value)) ((by rw [hiOk, any_take_all (by omega) ht, beq_iff_eq.2 (by assumption)]; rfl : (true : Bool) = hiOk cr x)), rfl⟩)

end Go.Proofs.YtgafcopihlmfpaaDoor
