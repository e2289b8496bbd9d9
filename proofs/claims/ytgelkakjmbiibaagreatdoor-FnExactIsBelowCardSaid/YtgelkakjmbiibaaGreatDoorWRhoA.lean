/-
  Lists of numbers as text: contracts by walks.
-/
import Derived.Test.YtgelkakjmbiibaaGreatDoorFct
import Derived.Test.YtgelkakjmbiibaaGreatDoorWWgtA
import Derived.Test.YtgelkakjmbiibaaGreatDoorZ14
import Derived.Test.YtgelkakjmbiibaaGreatDoorCarQ
import Derived.Test.YtgelkakjmbiibaaGreatDoorZ11
import Derived.Test.YtgelkakjmbiibaaGreatDoorCarW
import Derived.Test.YtgelkakjmbiibaaGreatDoorLate
namespace Go.Proofs.YtgelkakjmbiibaaGreatDoor
set_option linter.unusedVariables false
set_option linter.unusedSimpArgs false
open Go.RowKit
set_option maxRecDepth 100000 in
theorem formatInt_w {W : World} {own : List Asn} {n : Int}   (hn : I64 n) (htab : Ent own Pow10) : Spec Tryz.prog 122 [.int .i64 (n)] W own (fun v ow => v = .string (itoaB n) ∧ ow = own) := by
 refine Spec.enter Tryz.f122 _ Tryz.func122 rfl (n := 5) rfl rfl ?_
 refine GC.seq (GC.region ?_)
 refine G.stepD (OD.assign rfl rfl) rfl rfl rfl ?_
 refine G.nil (GE.then_ (GC.seq (GC.region ?_)))
 refine G.stepD (OD.move rfl rfl) rfl rfl rfl ?_
 refine G.step (OG.call [.int .i64 (n)] ent167 rfl rfl rfl rfl (by exact (itoa_w (hn) (htab)))) rfl rfl rfl ?_
 rintro _ _ ⟨rfl, hzz⟩; obtain rfl := hzz.symm
 refine G.stepD (OD.assign rfl rfl) rfl rfl rfl ?_
 refine G.nil (GE.then_ (GC.ret ?_))
 exact GE.body [] 0 (res1 rfl rfl) rfl (⟨rfl, rfl⟩)
set_option maxRecDepth 100000 in
theorem formatInts_w {W : World} {own : List Asn} {vx : Value} {x : List Int}  (sx : IsS vx) (ex : Ent own fun w => Ints w vx x)  (hr : All64 x) (hl : x.length ≤ 1000) (htab : Ent own Pow10) : Spec Tryz.prog 64 [vx] W own (fun v ow => v = .string (fmtB x) ∧ ow = own) := by
 refine Spec.enter Tryz.f64 _ Tryz.func64 rfl (n := 21) rfl rfl ?_
 refine GC.seq (GC.region ?_)
 refine G.stepD (OD.assign rfl rfl) rfl rfl rfl ?_
 refine G.nil (GE.then_ (GC.seq (GC.region ?_)))
 refine G.step (OG.buildStrs (os := []) (xs := []) rfl et93 rfl rfl rfl rfl rfl) rfl rfl rfl ?_
 rintro v1 _ ⟨hs2, rfl⟩
 refine G.stepD (OD.assign rfl rfl) rfl rfl rfl ?_
 refine G.nil (GE.then_ (GC.seq (GC.seq (GC.region ?_))))
 refine G.stepD (OD.move rfl rfl) rfl rfl rfl ?_
 refine G.stepD (OD.len rfl rfl et22 rfl (Ent.drop 1 ex)) rfl rfl rfl ?_
 refine G.stepD (OD.move rfl rfl) rfl rfl rfl ?_
 refine G.nil (GE.then_ (GC.block ?_))
 refine GC.loop (ι := Nat × List ByteArray × Value) (fun ⟨k, ws, v⟩ => [(7, vx), (8, .int .i64 ((x.length : Nat))), (3, v), (9, .int .i64 ((k : Int)))]) (fun ⟨k, ws, v⟩ => strs 9 v ws :: own) (fun ⟨k, ws, v⟩ => (k ≤ x.length) ∧ (IsS v) ∧ (ws = (x.take k).map itoaB)) (fun ⟨k, ws, v⟩ => x.length - k) (0, [], v1) (⟨by omega, hs2, rfl⟩) ⟨rfl, rfl, rfl, rfl, trivial⟩ [] 0 rfl ?_
 rintro ⟨k, ws, v⟩ ⟨hk, hv, hw⟩
 have hwl : ws.length = k := by rw [hw]; simp; omega
 refine GC.seq (GC.region ?_)
 refine G.stepD (OD.lss rfl rfl rfl) rfl rfl rfl ?_
 refine G.nil (GE.then_ (GC.seq ?_))
 refine GC.cond rfl (fun hc3 => ?_) (fun hc3 => ?_)
 replace hc3 := of_decide_eq_true hc3
 refine GC.skip (GE.then_ (GC.seq (GC.block (GC.seq (GC.region ?_)))))
 refine G.stepD (OD.indexAddr rfl et22 rfl (Ent.drop 1 ex) rfl (by omega)) rfl rfl rfl ?_
 refine G.stepD (OD.loadInt rfl ti3 rfl (Ent.drop 1 ex) (by omega)) rfl rfl rfl ?_
 refine G.stepD (OD.assign rfl rfl) rfl rfl rfl ?_
 refine G.nil (GE.then_ (GC.region ?_))
 refine G.stepD (OD.move rfl rfl) rfl rfl rfl ?_
 refine G.stepD (OD.move rfl rfl) rfl rfl rfl ?_
 refine G.step (OG.call [.int .i64 (x.getD (k) 0)] ent122 rfl rfl rfl rfl (by exact (formatInt_w (hr.get (by omega)) ((Ent.drop 1 htab))))) rfl rfl rfl ?_
 rintro _ _ ⟨rfl, rfl⟩
 refine G.step (OG.buildStrs (os := [.tmp 15]) (xs := [itoaB (x.getD (k) 0)]) rfl et93 rfl rfl rfl rfl rfl) rfl rfl rfl ?_
 rintro v4 _ ⟨hs5, rfl⟩
 refine G.step (OG.appendStrs 1 rfl rfl et93 rfl rfl rfl (Ent.strs (i := 0) rfl) (by simp [maxLen] <;> omega)) rfl rfl rfl ?_
 rintro v6 _ ⟨hs7, rfl⟩
 refine G.stepD (OD.assign rfl rfl) rfl rfl rfl ?_
 refine G.nil (GE.blockN (GE.then_ (GC.region ?_)))
 refine G.stepD (OD.addI rfl rfl rfl (by omega)) rfl rfl rfl ?_
 refine G.stepD (OD.move rfl rfl) rfl rfl rfl ?_
 refine G.nil ?_
 exact GE.again (k + 1, ws ++ [itoaB (x.getD (k) 0)], v6) (⟨by omega, hs7, by rw [hw]; exact itoa_step (by omega)⟩) (by first | omega | (dsimp only; omega)) ⟨rfl, rfl, rfl, rfl, trivial⟩ [1] 1 rfl
 replace hc3 := of_decide_eq_false hc3
 have hwx : ws = x.map itoaB := by rw [hw, List.take_of_length_le (by omega)]
 refine GC.exit (GE.pass (GE.pass (GE.hit (GE.then_ (GC.seq (GC.region ?_))))))
 refine G.stepD (OD.move rfl rfl) rfl rfl rfl ?_
 refine G.ownEq (own' := strs 9 v (x.map itoaB) :: own) (by rw [hwx]) ?_
 skip
 refine G.step (OG.call [v, .string (⟨#[32]⟩)] ent105 rfl rfl rfl rfl (by exact (joinS_w hv (Ent.strs (i := 0) rfl) (hr) (by omega)))) rfl rfl rfl ?_
 rintro _ _ ⟨rfl, rfl⟩
 refine G.stepD (OD.assign rfl rfl) rfl rfl rfl ?_
 refine G.nil (GE.then_ (GC.ret ?_))
 exact GE.body [] 1 (res1 rfl rfl) rfl (⟨rfl, rfl⟩)
end Go.Proofs.YtgelkakjmbiibaaGreatDoor
namespace Go.Proofs.YtgelkakjmbiibaaGreatDoor
set_option linter.unusedVariables false
set_option linter.unusedSimpArgs false
open Go.RowKit
set_option maxRecDepth 100000 in
theorem repeat_w {W : World} {own : List Asn} {vx : Value} {x : List Int} {k : Int}  (sx : IsS vx) (ex : Ent own fun w => Ints w vx x)   (hx : x.length = 1) (hk : 1 ≤ k ∧ k ≤ 1000) : Spec Tryz.prog 121 [vx, .int .i64 (k)] W own (fun v ow => ∃ (r0 : Value), v = r0 ∧ IsS r0 ∧ ow = ints 3 r0 (List.replicate (k : Int).toNat (x.getD 0 0)) :: own) := by
 refine Spec.enter Tryz.f121 _ Tryz.func121 rfl (n := 48) rfl rfl ?_
 refine GC.seq (GC.region ?_)
 refine G.stepD (OD.assign rfl rfl) rfl rfl rfl ?_
 refine G.nil (GE.then_ (GC.seq (GC.seq (GC.region ?_))))
 refine G.stepD (OD.move rfl rfl) rfl rfl rfl ?_
 refine G.stepD (OD.eqv (OD.lss rfl rfl rfl) (congrArg Value.bool ((decide_eq_false (by omega)) : _ = false))) rfl rfl rfl ?_
 refine G.nil (GE.then_ (GC.condF rfl (GC.skip (GE.then_ (GC.seq (GC.region ?_))))))
 refine G.stepD (OD.move rfl rfl) rfl rfl rfl ?_
 refine G.stepD (OD.len rfl rfl et22 rfl ex) rfl rfl rfl ?_
 refine G.stepD (OD.eqv (OD.conv rfl cv3_128 rfl) (congrArg (Value.int .u64) ((by rw [hx, IntKind.wrap_u64]; rfl) : (IntKind.u64.wrap (x.length : Nat) : Int) = (((1 : Nat) : Int))))) rfl rfl rfl ?_
 refine G.stepD (OD.move rfl rfl) rfl rfl rfl ?_
 refine G.stepD (OD.eqv (OD.conv rfl cv3_128 rfl) (congrArg (Value.int .u64) ((by rw [IntKind.wrap_u64]; omega) : (IntKind.u64.wrap k : Int) = (((k.toNat : Nat) : Int))))) rfl rfl rfl ?_
 refine G.step (OG.call [.int .u64 (((1 : Nat) : Int)), .int .u64 (((k.toNat : Nat) : Int))] ent166 rfl rfl rfl rfl (by exact (mul_w (x := 1) (y := k.toNat) (by omega) (by omega) (by omega)))) rfl rfl rfl ?_
 rintro _ _ ⟨rfl, hzz⟩; obtain rfl := hzz.symm
 refine G.stepD (OD.move rfl rfl) rfl rfl rfl ?_
 refine G.stepD (OD.extract rfl rfl rfl) rfl rfl rfl ?_
 refine G.stepD (OD.extract rfl rfl rfl) rfl rfl rfl ?_
 refine G.stepD (OD.assign rfl rfl) rfl rfl rfl ?_
 refine G.stepD (OD.assign rfl rfl) rfl rfl rfl ?_
 refine G.nil (GE.then_ (GC.seq (GC.seq (GC.region ?_))))
 refine G.stepD (OD.move rfl rfl) rfl rfl rfl ?_
 refine G.stepD (OD.eqv (OD.gtr rfl rfl rfl) (congrArg Value.bool ((decide_eq_false (by omega)) : _ = false))) rfl rfl rfl ?_
 refine G.stepD (OD.move rfl rfl) rfl rfl rfl ?_
 refine G.stepGD (OD.move rfl rfl) rfl rfl rfl rfl rfl ?_
 refine G.stepGD (OD.eqv (OD.gtr rfl rfl rfl) (congrArg Value.bool ((decide_eq_false (by omega)) : _ = false))) rfl rfl rfl rfl rfl ?_
 refine G.stepD (OD.pickF rfl rfl rfl) rfl rfl rfl ?_
 refine G.nil (GE.then_ (GC.condF rfl (GC.skip (GE.then_ (GC.seq (GC.region ?_))))))
 refine G.stepD (OD.move rfl rfl) rfl rfl rfl ?_
 refine G.stepD (OD.eqv (OD.convI rfl cv128_3 rfl (by omega)) (congrArg (Value.int .i64) ((by omega) : (((1 * k.toNat : Nat) : Int) : Int) = (k)))) rfl rfl rfl ?_
 refine G.step (OG.makeInts rfl et22 rfl rfl (by omega)) rfl rfl rfl ?_
 rintro v1 _ ⟨hs2, rfl⟩
 refine G.stepD (OD.assign rfl rfl) rfl rfl rfl ?_
 refine G.nil (GE.then_ (GC.seq (GC.region ?_)))
 refine G.stepD (OD.move rfl rfl) rfl rfl rfl ?_
 refine G.stepD (OD.move rfl rfl) rfl rfl rfl ?_
 refine G.stepD (OD.eqv (OD.copyInts (l := 0) (h := (List.replicate (k : Int).toNat (0 : Int)).length) rfl rfl et22 (copy_whole rfl) (i := 0) rfl (by first | omega | (simp; omega) | simp) rfl (Ent.drop 1 ex) (by first | omega | (simp; omega) | simp)) (congrArg (Value.int .i64) ((by rw [List.length_replicate, hx]; omega) : (((min x.length ((List.replicate (k : Int).toNat (0 : Int)).length - 0) : Nat) : Int) : Int) = (1)))) rfl rfl rfl ?_
 refine G.stepD (OD.assign rfl rfl) rfl rfl rfl ?_
 refine G.nil (GE.then_ (GC.seq (GC.block ?_)))
 refine GC.loop (ι := Nat × List Int) (fun ⟨q, ys⟩ => [(7, v1), (8, .int .i64 ((q : Int)))]) (fun ⟨q, ys⟩ => ints 3 v1 ys :: own) (fun ⟨q, ys⟩ => (1 ≤ q ∧ q ≤ k.toNat) ∧ (ys = List.replicate q (x.getD 0 0) ++ List.replicate (k.toNat - q) 0)) (fun ⟨q, ys⟩ => k.toNat - q) (1, (List.replicate (k : Int).toNat (0 : Int)).take (0) ++ (x).take (min x.length ((List.replicate (k : Int).toNat (0 : Int)).length - 0)) ++ (List.replicate (k : Int).toNat (0 : Int)).drop (0 + min x.length ((List.replicate (k : Int).toNat (0 : Int)).length - 0))) (⟨by omega, rep_start hx (by omega)⟩) ⟨rfl, int_eq (by omega), trivial⟩ [] 0 rfl ?_
 rintro ⟨q, ys⟩ ⟨hq, hy⟩
 have hyl : ys.length = k.toNat := by rw [hy]; simp; omega
 have hsl : ((ys.drop 0).take (q - 0)).length = q := by simp; omega
 refine GC.seq (GC.seq (GC.region ?_))
 refine G.stepD (OD.move rfl rfl) rfl rfl rfl ?_
 refine G.stepD (OD.move rfl rfl) rfl rfl rfl ?_
 refine G.stepD (OD.len rfl rfl et22 rfl (Ent.ints (i := 0) rfl)) rfl rfl rfl ?_
 refine G.stepD (OD.lss rfl rfl rfl) rfl rfl rfl ?_
 refine G.nil (GE.then_ ?_)
 refine GC.cond rfl (fun hc3 => ?_) (fun hc3 => ?_)
 replace hc3 := of_decide_eq_true hc3
 refine GC.skip (GE.then_ (GC.block ?_))
 refine GC.at [] 0 (env' := [(7, v1), (8, .int .i64 ((q : Int)))]) ⟨rfl, rfl, trivial⟩ rfl ?_
 refine GC.late (σ := [0, 1, 2, 3, 4, 5, 6, 7, 8, 9]) (L := [0]) (its := [⟨38, [], [], [], [], fun _ => .int .i64 ((q : Int)), fun _ => True, fun _ => []⟩,
     ⟨39, [], [], [], [], fun _ => v1, fun _ => True, fun _ => []⟩,
     ⟨40, [], [], [], [], fun _ => .int .i64 ((q : Int)), fun _ => True, fun _ => []⟩,
     ⟨41, [(1, 39), (2, 40)], [], [], [], fun _ => (subV 1 v1 q ys.length), fun _ => True, fun _ => []⟩,
     ⟨42, [], [], [], [], fun _ => v1, fun _ => True, fun _ => []⟩,
     ⟨43, [], [], [], [], fun _ => .int .i64 ((q : Int)), fun _ => True, fun _ => []⟩,
     ⟨44, [(4, 42), (5, 43)], [], [], [], fun _ => (subV 1 v1 0 q), fun _ => True, fun _ => []⟩]) (by kernel_rfl) (by repeat (first | refine PanQ.then_ ?_ | refine PanQ.block ?_ | exact PanQ.body)) (by kernel_rfl) ⟨⟨_, rfl, .inl rfl⟩, trivial⟩ (by kernel_rfl) (POps.cons ?_ (POps.cons ?_ (POps.cons ?_ (POps.cons ?_ (POps.cons ?_ (POps.cons ?_ (POps.cons ?_ POps.nil))))))) ?_
 intro θ R hd
 exact Opp.plain (OG.imp (OD.move rfl rfl) (by exact fun _ _ h=>pk h rfl trivial rfl)) rfl
 intro θ R hd
 exact Opp.plain (OG.imp (OD.move rfl rfl) (by exact fun _ _ h=>pk h rfl trivial rfl)) rfl
 intro θ R hd
 exact Opp.plain (OG.imp (OD.move rfl rfl) (by exact fun _ _ h=>pk h rfl trivial rfl)) rfl
 rintro θ R ⟨h1d, h2d, _⟩
 exact Opp.plain (OG.imp (OD.sliceFrom rfl et22 rfl rfl (Ent.ints (i := 0) rfl) (by omega)) (by exact fun _ _ h=>pk h rfl trivial rfl)) rfl
 intro θ R hd
 exact Opp.plain (OG.imp (OD.move rfl rfl) (by exact fun _ _ h=>pk h rfl trivial rfl)) rfl
 intro θ R hd
 exact Opp.plain (OG.imp (OD.move rfl rfl) (by exact fun _ _ h=>pk h rfl trivial rfl)) rfl
 rintro θ R ⟨h4d, h5d, _⟩
 exact Opp.plain (OG.imp (OD.sliceTo rfl et22 rfl rfl (Ent.ints (i := 0) rfl) (by omega)) (by exact fun _ _ h=>pk h rfl trivial rfl)) rfl
 intro θ hall
 obtain ⟨_, _, _, _, _, _, _, _⟩ := hall
 refine G.at [] 0 (env' := [(7, v1), (8, .int .i64 ((q : Int))), (38, .int .i64 ((q : Int))), (41, (subV 1 v1 q ys.length)), (44, (subV 1 v1 0 q))]) ⟨rfl, rfl, rfl, rfl, rfl, trivial⟩ (own' := ints 3 v1 ys :: own) rfl ?_
 show G _ _ _ [_, _, _] _ _ _ _
 refine G.fact (row_cap (i := 0) rfl) fun hcap0 => ?_
 refine G.stepD (OD.copyInts (l := q) (h := ys.length) rfl rfl et22 (copy_part rfl (by omega) hcap0) (i := 0) rfl (by first | omega | (simp; omega) | simp) rfl (Ent.subInts (Ent.ints (i := 0) rfl) (by simp; omega)) (by first | omega | (simp; omega) | simp)) rfl rfl rfl ?_
 refine G.stepD (OD.addI rfl rfl rfl (by omega)) rfl rfl rfl ?_
 refine G.stepD (OD.assign rfl rfl) rfl rfl rfl ?_
 refine G.nil (GE.blockN ?_)
 exact GE.again (q + min ((ys.drop 0).take (q - 0)).length (ys.length - q), (ys).take (q) ++ ((ys.drop (0)).take (q - 0)).take (min ((ys.drop (0)).take (q - 0)).length (ys.length - q)) ++ (ys).drop (q + min ((ys.drop (0)).take (q - 0)).length (ys.length - q))) (⟨by omega, rep_step hy (by omega) rfl⟩) (by dsimp only; omega) ⟨rfl, int_eq (by omega), trivial⟩ [] 0 rfl
 replace hc3 := of_decide_eq_false hc3
 refine GC.exit (GE.pass (GE.pass (GE.hit (GE.then_ (GC.seq (GC.region ?_))))))
 refine G.stepD (OD.move rfl rfl) rfl rfl rfl ?_
 refine G.stepD (OD.assign rfl rfl) rfl rfl rfl ?_
 refine G.nil (GE.then_ (GC.ret ?_))
 exact GE.body [] 0 (res1 rfl rfl) rfl (⟨v1, rfl, hs2, congrArg (fun (l0 : List Int) => ints 3 v1 l0 :: own) ((by rw [hy, show q = k.toNat by omega]; simp : ys = List.replicate (k : Int).toNat (x.getD 0 0)))⟩)
set_option maxRecDepth 100000 in
theorem rho_w {W : World} {own : List Asn} {cr : Int} {vcd : Value} {cd : List Int}  (scd : IsS vcd) (ecd : Ent own fun w => Ints w vcd cd)  (hcr : 1 ≤ cr ∧ cr ≤ 4) : Spec Tryz.prog 63 [.agg #[.int .i64 (cr), vcd]] W own (fun v ow => ∃ (r0 : Value), v = r0 ∧ IsS r0 ∧ ow = ints 3 r0 (ones cr 1) :: own) := by
 refine Spec.enter Tryz.f63 _ Tryz.func63 rfl (n := 7) rfl rfl ?_
 refine GC.seq (GC.region ?_)
 refine G.step (OG.box (cs := [.int .i64 (cr), vcd]) rfl rfl rfl) rfl rfl rfl ?_
 rintro _ _ ⟨g1, rfl, rfl⟩
 refine G.stepD (OD.assign rfl rfl) rfl rfl rfl ?_
 refine G.nil (GE.then_ (GC.seq (GC.region ?_)))
 refine G.step (OG.buildInts (xs := [.const (.int .i64 (1))]) (is := [1]) rfl et22 rfl rfl rfl rfl rfl) rfl rfl rfl ?_
 rintro v2 _ ⟨hs3, rfl⟩
 refine G.stepD (OD.fieldAddr rfl rfl fa27_0) rfl rfl rfl ?_
 refine G.stepD (OD.load rfl ti3 rfl (i := 1) rfl rfl) rfl rfl rfl ?_
 refine G.step (OG.call [v2, .int .i64 (cr)] ent121 rfl rfl rfl rfl (by exact (repeat_w hs3 (Ent.ints (i := 0) rfl) (rfl) (by omega)))) rfl rfl rfl ?_
 rintro v4 _ ⟨_, rfl, hs5, rfl⟩
 refine G.stepD (OD.assign rfl rfl) rfl rfl rfl ?_
 refine G.nil (GE.then_ (GC.ret ?_))
 exact GE.body [0] 2 (res1 rfl rfl) rfl (⟨v4, rfl, hs5, rfl⟩)
set_option maxRecDepth 100000 in
theorem l6Rho_w {W : World} {own : List Asn} {cr : Int} {vcd : Value} {cd : List Int}  (scd : IsS vcd) (ecd : Ent own fun w => Ints w vcd cd)  (hcr : 1 ≤ cr ∧ cr ≤ 4) : Spec Tryz.prog 59 [.agg #[.int .i64 (cr), vcd]] W own (fun v ow => ∃ (r0 : Value), v = r0 ∧ IsS r0 ∧ ow = ints 3 r0 (ones cr 1) :: own) := by
 refine Spec.enter Tryz.f59 _ Tryz.func59 rfl (n := 16) rfl rfl ?_
 refine GC.seq (GC.region ?_)
 refine G.step (OG.box (cs := [.int .i64 (cr), vcd]) rfl rfl rfl) rfl rfl rfl ?_
 rintro _ _ ⟨g1, rfl, rfl⟩
 refine G.stepD (OD.assign rfl rfl) rfl rfl rfl ?_
 refine G.nil (GE.then_ (GC.seq (GC.region ?_)))
 refine G.step (OG.buildInts (xs := []) (is := []) rfl et22 rfl rfl rfl rfl rfl) rfl rfl rfl ?_
 rintro v2 _ ⟨hs3, rfl⟩
 refine G.stepD (OD.assign rfl rfl) rfl rfl rfl ?_
 refine G.nil (GE.then_ (GC.seq (GC.seq (GC.region ?_))))
 refine G.stepD (OD.assign rfl rfl) rfl rfl rfl ?_
 refine G.nil (GE.then_ (GC.block ?_))
 refine GC.loop (ι := Nat × List Int × Value) (fun ⟨i, ys, v⟩ => [(1, .pointer (some ⟨g1, 0, none⟩)), (3, v), (4, .int .i64 ((i : Int)))]) (fun ⟨i, ys, v⟩ => ints 3 v ys :: box g1 27 [.int .i64 (cr), vcd] :: own) (fun ⟨i, ys, v⟩ => ((i : Int) ≤ cr) ∧ (IsS v) ∧ (ys = List.replicate i 1)) (fun ⟨i, ys, v⟩ => cr.toNat - i) (0, [], v2) (⟨by omega, hs3, rfl⟩) ⟨rfl, rfl, rfl, trivial⟩ [] 0 rfl ?_
 rintro ⟨i, ys, v⟩ ⟨hi, hv, hy⟩
 have hyl : ys.length = i := by rw [hy]; simp
 refine GC.seq (GC.seq (GC.region ?_))
 refine G.stepD (OD.move rfl rfl) rfl rfl rfl ?_
 refine G.stepD (OD.fieldAddr rfl rfl fa27_0) rfl rfl rfl ?_
 refine G.stepD (OD.load rfl ti3 rfl (i := 1) rfl rfl) rfl rfl rfl ?_
 refine G.stepD (OD.lss rfl rfl rfl) rfl rfl rfl ?_
 refine G.nil (GE.then_ ?_)
 refine GC.cond rfl (fun hc4 => ?_) (fun hc4 => ?_)
 replace hc4 := of_decide_eq_true hc4
 refine GC.skip (GE.then_ (GC.seq (GC.block (GC.region ?_))))
 refine G.stepD (OD.move rfl rfl) rfl rfl rfl ?_
 refine G.step (OG.buildInts (xs := [.const (.int .i64 (1))]) (is := [1]) rfl et22 rfl rfl rfl rfl rfl) rfl rfl rfl ?_
 rintro v5 _ ⟨hs6, rfl⟩
 refine G.step (OG.appendInts 1 rfl rfl et22 rfl rfl rfl (Ent.ints (i := 0) rfl) (by first | omega | (simp; omega))) rfl rfl rfl ?_
 rintro v7 _ ⟨hs8, rfl⟩
 refine G.stepD (OD.assign rfl rfl) rfl rfl rfl ?_
 refine G.nil (GE.blockN (GE.then_ (GC.region ?_)))
 refine G.stepD (OD.move rfl rfl) rfl rfl rfl ?_
 refine G.stepD (OD.addI rfl rfl rfl (by omega)) rfl rfl rfl ?_
 refine G.stepD (OD.assign rfl rfl) rfl rfl rfl ?_
 refine G.nil ?_
 exact GE.again (i + 1, ys ++ [1], v7) (⟨by omega, hs8, by rw [hy, List.replicate_succ']⟩) (by first | omega | (dsimp only; omega)) ⟨rfl, rfl, rfl, trivial⟩ [1, 1] 1 rfl
 replace hc4 := of_decide_eq_false hc4
 refine GC.exit (GE.pass (GE.pass (GE.hit (GE.then_ (GC.seq (GC.region ?_))))))
 refine G.stepD (OD.move rfl rfl) rfl rfl rfl ?_
 refine G.stepD (OD.assign rfl rfl) rfl rfl rfl ?_
 refine G.nil (GE.then_ (GC.ret ?_))
 exact GE.body [0] 1 (res1 rfl rfl) rfl (⟨v, rfl, hv, congrArg (fun (l0 : List Int) => ints 3 v l0 :: own) ((by rw [hy, show i = cr.toNat by omega]; rfl : ys = ones cr 1))⟩)
set_option maxRecDepth 100000 in
theorem listPlus_w {W : World} {own : List Asn} {vx : Value} {x : List Int} {k : Int} {vy : Value} {y : List Int}  (sx : IsS vx) (ex : Ent own fun w => Ints w vx x)   (sy : IsS vy) (ey : Ent own fun w => Ints w vy y)  (hl : x.length ≤ 1073741824) (hle : y.length ≤ x.length) : Spec Tryz.prog 109 [vx, .int .i64 (k), vy] W own (fun v ow => ∃ (r0 : Value), v = r0 ∧ IsS r0 ∧ ow = ints 3 r0 (lpF x k y) :: own) := by
 refine Spec.enter Tryz.f109 _ Tryz.func109 rfl (n := 30) rfl rfl ?_
 refine GC.seq (GC.region ?_)
 refine G.stepD (OD.assign rfl rfl) rfl rfl rfl ?_
 refine G.nil (GE.then_ (GC.seq (GC.region ?_)))
 refine G.stepD (OD.move rfl rfl) rfl rfl rfl ?_
 refine G.step (OG.call [vx] ent76 rfl rfl rfl rfl (by exact (clone_w sx ex (hl)))) rfl rfl rfl ?_
 rintro v1 _ ⟨_, rfl, hs2, rfl⟩
 refine G.stepD (OD.assign rfl rfl) rfl rfl rfl ?_
 refine G.nil (GE.then_ (GC.seq (GC.seq (GC.region ?_))))
 refine G.stepD (OD.move rfl rfl) rfl rfl rfl ?_
 refine G.stepD (OD.len rfl rfl et22 rfl (Ent.drop 1 ey)) rfl rfl rfl ?_
 refine G.stepD (OD.move rfl rfl) rfl rfl rfl ?_
 refine G.nil (GE.then_ (GC.block ?_))
 refine GC.loop (ι := Nat × List Int) (fun ⟨i, ys⟩ => [(1, .int .i64 (k)), (7, v1), (12, vy), (13, .int .i64 ((y.length : Nat))), (14, .int .i64 ((i : Int)))]) (fun ⟨i, ys⟩ => ints 3 v1 ys :: own) (fun ⟨i, ys⟩ => (i ≤ y.length) ∧ (ys.length = x.length) ∧ (ys = (List.range i).foldl (fun (o : List Int) (i : Nat) => o.set i (IntKind.i64.wrap (o.getD i 0 + IntKind.i64.wrap (k * y.getD i 0)))) x)) (fun ⟨i, ys⟩ => y.length - i) (0, x) (⟨by omega, rfl, rfl⟩) ⟨rfl, rfl, rfl, rfl, rfl, trivial⟩ [] 0 rfl ?_
 rintro ⟨i, ys⟩ ⟨hi, hyl, hy⟩
 refine GC.seq (GC.region ?_)
 refine G.stepD (OD.lss rfl rfl rfl) rfl rfl rfl ?_
 refine G.nil (GE.then_ (GC.seq ?_))
 refine GC.cond rfl (fun hc3 => ?_) (fun hc3 => ?_)
 replace hc3 := of_decide_eq_true hc3
 refine GC.skip (GE.then_ (GC.seq (GC.block (GC.seq (GC.region ?_)))))
 refine G.stepD (OD.move rfl rfl) rfl rfl rfl ?_
 refine G.stepD (OD.indexAddr rfl et22 rfl (Ent.drop 1 ey) rfl (by omega)) rfl rfl rfl ?_
 refine G.stepD (OD.loadInt rfl ti3 rfl (Ent.drop 1 ey) (by omega)) rfl rfl rfl ?_
 refine G.stepD (OD.assign rfl rfl) rfl rfl rfl ?_
 refine G.stepD (OD.assign rfl rfl) rfl rfl rfl ?_
 refine G.nil (GE.then_ (GC.region ?_))
 refine G.stepD (OD.move rfl rfl) rfl rfl rfl ?_
 refine G.stepD (OD.move rfl rfl) rfl rfl rfl ?_
 refine G.stepD (OD.indexAddr rfl et22 rfl (Ent.ints (i := 0) rfl) rfl (by omega)) rfl rfl rfl ?_
 refine G.stepD (OD.loadInt rfl ti3 rfl (Ent.ints (i := 0) rfl) (by omega)) rfl rfl rfl ?_
 refine G.stepD (OD.move rfl rfl) rfl rfl rfl ?_
 refine G.stepD (OD.move rfl rfl) rfl rfl rfl ?_
 refine G.stepD (OD.mul rfl rfl rfl) rfl rfl rfl ?_
 refine G.stepD (OD.add rfl rfl rfl) rfl rfl rfl ?_
 refine G.stepD (OD.indexAddr rfl et22 rfl (Ent.ints (i := 0) rfl) rfl (by omega)) rfl rfl rfl ?_
 refine G.stepD0 (OD.storeInt rfl ti3 rfl rfl (i := 0) rfl (by omega)) rfl rfl ?_
 refine G.nil (GE.blockN (GE.then_ (GC.region ?_)))
 refine G.stepD (OD.addI rfl rfl rfl (by first | omega | (simp only [List.length_set, List.length_replicate]; omega))) rfl rfl rfl ?_
 refine G.stepD (OD.move rfl rfl) rfl rfl rfl ?_
 refine G.nil ?_
 exact GE.again (i + 1, (ys).set (i) (IntKind.i64.wrap ((ys.getD (i) 0) + (IntKind.i64.wrap (k * (y.getD (i) 0)))))) (⟨by omega, by rw [List.length_set]; exact hyl, fold_next hy rfl⟩) (by first | omega | (dsimp only; omega)) ⟨rfl, rfl, rfl, rfl, rfl, trivial⟩ [] 0 rfl
 replace hc3 := of_decide_eq_false hc3
 refine GC.exit (GE.pass (GE.pass (GE.hit (GE.then_ (GC.seq (GC.region ?_))))))
 refine G.stepD (OD.move rfl rfl) rfl rfl rfl ?_
 refine G.stepD (OD.assign rfl rfl) rfl rfl rfl ?_
 refine G.nil (GE.then_ (GC.ret ?_))
 exact GE.body [] 0 (res1 rfl rfl) rfl (⟨v1, rfl, hs2, congrArg (fun (l0 : List Int) => ints 3 v1 l0 :: own) ((by rw [hy, show i = y.length by omega]; rfl : ys = lpF x k y))⟩)
set_option maxRecDepth 100000 in
theorem normalOfF_w {W : World} {own : List Asn} {y : Int}    : Spec Tryz.prog 120 [.int .i64 (y)] W own (fun v ow => v = .bool (decide (y < 0)) ∧ ow = own) := by
 refine Spec.enter Tryz.f120 _ Tryz.func120 rfl (n := 5) rfl rfl ?_
 refine GC.seq (GC.region ?_)
 refine G.stepD (OD.assign rfl rfl) rfl rfl rfl ?_
 refine G.nil (GE.then_ (GC.seq (GC.region ?_)))
 refine G.stepD (OD.move rfl rfl) rfl rfl rfl ?_
 refine G.stepD (OD.lss rfl rfl rfl) rfl rfl rfl ?_
 refine G.stepD (OD.assign rfl rfl) rfl rfl rfl ?_
 refine G.nil (GE.then_ (GC.ret ?_))
 exact GE.body [] 0 (res1 rfl rfl) rfl (⟨rfl, rfl⟩)
set_option maxRecDepth 100000 in
theorem indexFuncN_w {W : World} {own : List Asn} {vx : Value} {x : List Int}  (sx : IsS vx) (ex : Ent own fun w => Ints w vx x)   (hl : x.length ≤ 9223372036854775807) : Spec Tryz.prog 89 [vx, .func (.func 120) #[] #[]] W own (fun v ow => v = .int .i64 (posF (fun (y : Int) => decide (y < 0)) x) ∧ ow = own) := by
 refine Spec.enter Tryz.f89 _ Tryz.func89 rfl (n := 19) rfl rfl ?_
 refine GC.seq (GC.region ?_)
 refine G.stepD (OD.assign rfl rfl) rfl rfl rfl ?_
 refine G.nil (GE.then_ (GC.seq (GC.seq (GC.region ?_))))
 refine G.stepD (OD.move rfl rfl) rfl rfl rfl ?_
 refine G.stepD (OD.len rfl rfl et22 rfl ex) rfl rfl rfl ?_
 refine G.stepD (OD.move rfl rfl) rfl rfl rfl ?_
 refine G.nil (GE.then_ (GC.block ?_))
 refine GC.loop (ι := Nat) (fun k => [(0, vx), (1, .func (.func 120) #[] #[]), (7, .int .i64 ((x.length : Nat))), (8, .int .i64 ((k : Int)))]) (fun k => own) (fun k => (k ≤ x.length) ∧ ((x.take k).any (fun (y : Int) => decide (y < 0)) = false)) (fun k => x.length - k) 0 (⟨by omega, by simp⟩) ⟨rfl, rfl, rfl, rfl, trivial⟩ [] 0 rfl ?_
 rintro k ⟨hk, ht⟩
 refine GC.seq (GC.region ?_)
 refine G.stepD (OD.lss rfl rfl rfl) rfl rfl rfl ?_
 refine G.nil (GE.then_ (GC.seq ?_))
 refine GC.cond rfl (fun hc1 => ?_) (fun hc1 => ?_)
 replace hc1 := of_decide_eq_true hc1
 refine GC.skip (GE.then_ (GC.seq (GC.block (GC.seq (GC.region ?_)))))
 refine G.stepD (OD.move rfl rfl) rfl rfl rfl ?_
 refine G.stepD (OD.assign rfl rfl) rfl rfl rfl ?_
 refine G.nil (GE.then_ (GC.seq (GC.region ?_)))
 refine G.stepD (OD.move rfl rfl) rfl rfl rfl ?_
 refine G.stepD (OD.move rfl rfl) rfl rfl rfl ?_
 refine G.stepD (OD.move rfl rfl) rfl rfl rfl ?_
 refine G.stepD (OD.indexAddr rfl et22 rfl ex rfl (by omega)) rfl rfl rfl ?_
 refine G.stepD (OD.loadInt rfl ti3 rfl ex (by omega)) rfl rfl rfl ?_
 refine G.step (OG.call [.int .i64 (x.getD (k) 0)] ent120 rfl rfl rfl rfl (by exact normalOfF_w)) rfl rfl rfl ?_
 rintro _ _ ⟨rfl, hzz⟩; obtain rfl := hzz.symm
 refine G.nil (GE.then_ ?_)
 refine GC.cond rfl (fun hc2 => ?_) (fun hc2 => ?_)
 have hc2b : (fun (y : Int) => decide (y < 0)) (x.getD k 0) = true := hc2
 refine GC.seq (GC.region ?_)
 refine G.stepD (OD.move rfl rfl) rfl rfl rfl ?_
 refine G.stepD (OD.assign rfl rfl) rfl rfl rfl ?_
 refine G.nil (GE.then_ (GC.ret (GE.blockR (GE.passR (GE.passR (GE.blockR (GE.passR ?_)))))))
 exact GE.body [] 0 (res1 rfl rfl) rfl (⟨congrArg (fun (a0 : Int) => (.int .i64 (a0) : Value)) (((posF_at (d := 0) (by omega) ht (by assumption)).symm : ((k : Int) : Int) = posF (fun (y : Int) => decide (y < 0)) x)), rfl⟩)
 have hc2b : (fun (y : Int) => decide (y < 0)) (x.getD k 0) = false := hc2
 refine GC.skip (GE.blockN (GE.then_ (GC.region ?_)))
 refine G.stepD (OD.addI rfl rfl rfl (by omega)) rfl rfl rfl ?_
 refine G.stepD (OD.move rfl rfl) rfl rfl rfl ?_
 refine G.nil ?_
 exact GE.again (k + 1) (⟨by omega, any_take_succ (d := 0) (by omega) ht (by assumption)⟩) (by first | omega | (dsimp only; omega)) ⟨rfl, rfl, rfl, rfl, trivial⟩ [] 0 rfl
 replace hc1 := of_decide_eq_false hc1
 refine GC.exit (GE.pass (GE.pass (GE.hit (GE.then_ (GC.seq (GC.region ?_))))))
 refine G.stepD (OD.assign rfl rfl) rfl rfl rfl ?_
 refine G.nil (GE.then_ (GC.ret ?_))
 exact GE.body [] 0 (res1 rfl rfl) rfl (⟨congrArg (fun (a0 : Int) => (.int .i64 (a0) : Value)) (((posF_none (any_take_all (by omega) ht)).symm : (-1 : Int) = posF (fun (y : Int) => decide (y < 0)) x)), rfl⟩)
end Go.Proofs.YtgelkakjmbiibaaGreatDoor
