/-
  How many elements have each length: contracts by walks, and the law.
-/
import Derived.Test.YtmckgdekblphoaaGreatDoorFct
import Derived.Test.YtmckgdekblphoaaGreatDoorWWeyA
import Derived.Test.YtmckgdekblphoaaGreatDoorWNewA
import Derived.Test.YtmckgdekblphoaaGreatDoorWClb
import Derived.Test.YtmckgdekblphoaaGreatDoorBelA
namespace Go.Proofs.YtmckgdekblphoaaGreatDoor
set_option linter.unusedVariables false
set_option linter.unusedSimpArgs false
open Go.RowKit
theorem fd48_1 : FD Tryz.prog 48 1 2 := by have h := fd_of (f := 1) Tryz.underlying48 rfl (fun w => by kernel_rfl); exact h
set_option maxHeartbeats 4000000 in
set_option maxRecDepth 100000 in
theorem specLengthCounts_w {W : World} {own : List Asn} {cr : Int} {vcd : Value} {cd : List Int}  (scd : IsS vcd) (ecd : Ent own fun w => Ints w vcd cd)  (hl0 : cd.length ≤ 1073741824) : Spec Tryz.prog 28 [.agg #[.int .i64 (cr), vcd]] W own (fun v ow => ∃ (r0 : Value), v = r0 ∧ IsS r0 ∧ ow = ints 3 r0 (lcOf cr cd) :: own) := by
 refine Spec.enter Tryz.f28 _ Tryz.func28 rfl (n := 27) rfl rfl ?_
 refine GC.seq (GC.region ?_)
 refine G.step (OG.box (cs := [.int .i64 (cr), vcd]) rfl rfl rfl) rfl rfl rfl ?_
 rintro _ _ ⟨g1, rfl, rfl⟩
 refine G.stepD (OD.assign rfl rfl) rfl rfl rfl ?_
 refine G.nil (GE.then_ (GC.seq (GC.seq (GC.region ?_))))
 refine G.stepD (OD.loadAgg rfl ti28 rfl (i := 0) rfl (us := [.int .i64 (cr), vcd]) rfl rfl) rfl rfl rfl ?_
 refine G.step (OG.call [.agg #[.int .i64 (cr), vcd]] ent36 rfl rfl rfl rfl (by exact (specIsCartan_w scd (Ent.drop 1 ecd) (hl0)))) rfl rfl rfl ?_
 rintro _ _ ⟨rfl, rfl⟩
 refine G.stepD (OD.not rfl rfl) rfl rfl rfl ?_
 refine G.nil (GE.then_ ?_)
 refine GC.cond rfl (fun hc2 => ?_) (fun hc2 => ?_)
 replace hc2 := eq_false_of_not hc2
 have hS := hc2
 refine GC.seq (GC.region ?_)
 refine G.stepD (OD.assign rfl rfl) rfl rfl rfl ?_
 refine G.nil (GE.then_ (GC.ret (GE.passR ?_)))
 refine GE.nilInts 3 ?_
 exact GE.body [0] 1 (res1 rfl rfl) rfl (⟨(.slice none 0 0), rfl, IsS.nil, congrArg (fun (l0 : List Int) => ints 3 (.slice none 0 0) l0 :: own) ((by rw [lcOf, hS] <;> rfl : [] = lcOf cr cd))⟩)
 replace hc2 := eq_true_of_not hc2
 have hS := hc2
 refine GC.skip (GE.then_ (GC.seq (GC.region ?_)))
 refine G.stepD (OD.loadAgg rfl ti28 rfl (i := 0) rfl (us := [.int .i64 (cr), vcd]) rfl rfl) rfl rfl rfl ?_
 refine G.step (OG.call [.agg #[.int .i64 (cr), vcd]] ent60 rfl rfl rfl rfl (by exact (l6Levels_w scd (Ent.drop 1 ecd) ((tyS_ok hS).1) ((tyS_ok hS).2) (hS)))) rfl rfl rfl ?_
 rintro v3 _ ⟨_, u4, rfl, hs5, hs6, hs7, rfl⟩
 refine G.stepD (OD.assign rfl rfl) rfl rfl rfl ?_
 refine G.nil (GE.then_ (GC.seq (GC.region ?_)))
 refine G.step (OG.buildInts (xs := []) (is := []) rfl et22 rfl rfl rfl rfl rfl) rfl rfl rfl ?_
 rintro v8 _ ⟨hs9, rfl⟩
 refine G.stepD (OD.assign rfl rfl) rfl rfl rfl ?_
 refine G.nil (GE.then_ (GC.seq (GC.seq (GC.region ?_))))
 refine G.stepD (OD.assign rfl rfl) rfl rfl rfl ?_
 refine G.nil (GE.then_ (GC.block ?_))
 have hU : lvU cr cd u4 := by assumption
 refine GC.loop (ι := Nat × List Int × Value) (fun ⟨k, ys, w⟩ => [(3, v3), (4, w), (5, .int .i64 ((k : Int)))]) (fun ⟨k, ys, w⟩ => ints 3 w ys :: lst 26 v3 u4 :: box g1 28 [.int .i64 (cr), vcd] :: own) (fun ⟨k, ys, w⟩ => (k ≤ u4.length) ∧ (ys = (List.range k).map fun q => ((lvAt cr cd q).length : Int)) ∧ (IsS w)) (fun ⟨k, ys, w⟩ => u4.length - k) (0, [], v8) (⟨by omega, rfl, hs9⟩) ⟨rfl, rfl, rfl, trivial⟩ [] 0 rfl ?_
 rintro ⟨k, ys, w⟩ ⟨hk, hy, hw⟩
 have hyl : ys.length = k := by rw [hy]; simp
 have hu25 := hU.2.1
 refine GC.seq (GC.seq (GC.region ?_))
 refine G.stepD (OD.move rfl rfl) rfl rfl rfl ?_
 refine G.stepD (OD.move rfl rfl) rfl rfl rfl ?_
 refine G.stepD (OD.len rfl rfl et59 rfl (Ent.lst (i := 1) rfl)) rfl rfl rfl ?_
 refine G.stepD (OD.lss rfl rfl rfl) rfl rfl rfl ?_
 refine G.nil (GE.then_ ?_)
 refine GC.cond rfl (fun hc10 => ?_) (fun hc10 => ?_)
 replace hc10 := of_decide_eq_true hc10
 have hsk : slenV (u4.getD (k) undef) = (lvAt cr cd k).length := hU.2.2.1 k (by omega)
 refine GC.skip (GE.then_ (GC.seq (GC.block (GC.region ?_))))
 refine G.stepD (OD.move rfl rfl) rfl rfl rfl ?_
 refine G.stepD (OD.move rfl rfl) rfl rfl rfl ?_
 refine G.stepD (OD.move rfl rfl) rfl rfl rfl ?_
 refine G.stepD (OD.indexAddr rfl et59 rfl (Ent.lst (i := 1) rfl) rfl (by omega)) rfl rfl rfl ?_
 refine G.stepD (OD.loadElem rfl ti26 rfl (Ent.lst (i := 1) rfl) (by omega) rfl) rfl rfl rfl ?_
 refine G.stepD (OD.eqv (OD.lenV rfl rfl et26 rfl (hs6.get (by omega))) (congrArg (Value.int .i64) ((by omega) : ((slenV (u4.getD (k) undef) : Nat) : Int) = (((lvAt cr cd k).length : Int))))) rfl rfl rfl ?_
 refine G.step (OG.buildInts (xs := [.tmp 23]) (is := [((lvAt cr cd k).length : Int)]) rfl et22 rfl rfl rfl rfl rfl) rfl rfl rfl ?_
 rintro v11 _ ⟨hs12, rfl⟩
 refine G.step (OG.appendInts 1 rfl rfl et22 rfl rfl rfl (Ent.ints (i := 0) rfl) (by first | omega | (simp; omega))) rfl rfl rfl ?_
 rintro v13 _ ⟨hs14, rfl⟩
 refine G.stepD (OD.assign rfl rfl) rfl rfl rfl ?_
 refine G.nil (GE.blockN (GE.then_ (GC.region ?_)))
 refine G.stepD (OD.move rfl rfl) rfl rfl rfl ?_
 refine G.stepD (OD.addI rfl rfl rfl (by omega)) rfl rfl rfl ?_
 refine G.stepD (OD.assign rfl rfl) rfl rfl rfl ?_
 refine G.nil ?_
 exact GE.again (k + 1, ys ++ [((lvAt cr cd k).length : Int)], v13) (⟨by omega, by rw [hy, List.range_succ, List.map_append]; rfl, hs14⟩) (by first | omega | (dsimp only; omega)) ⟨rfl, rfl, rfl, trivial⟩ [1, 1, 1] 1 rfl
 replace hc10 := of_decide_eq_false hc10
 refine GC.exit (GE.pass (GE.pass (GE.hit (GE.then_ (GC.seq (GC.region ?_))))))
 refine G.stepD (OD.move rfl rfl) rfl rfl rfl ?_
 refine G.stepD (OD.assign rfl rfl) rfl rfl rfl ?_
 refine G.nil (GE.then_ (GC.ret ?_))
 exact GE.body [0] 2 (res1 rfl rfl) rfl (⟨w, rfl, hw, congrArg (fun (l0 : List Int) => ints 3 w l0 :: own) ((by rw [lcOf, if_pos hS, hy, show k = u4.length by omega]; exact lc_levels hS hU.1 hU.2.2.2 : ys = lcOf cr cd))⟩)
set_option maxHeartbeats 4000000 in
set_option maxRecDepth 100000 in
theorem lengthCounts_w {W : World} {own : List Asn} {cr : Int} {vcd : Value} {cd : List Int}  (scd : IsS vcd) (ecd : Ent own fun w => Ints w vcd cd)  (hl0 : cd.length ≤ 1073741824) (hg : Ent own fun w => ∃ m, w.cell? ⟨Tryz.l146_ren.g 1, 0, none⟩ = some (.int .i64 m)) (htab : Ent own Pow10) : Spec Tryz.prog 29 [.agg #[.int .i64 (cr), vcd]] W own (fun v ow => ∃ (r0 : Value), v = r0 ∧ IsS r0 ∧ ow = ints 3 r0 (lcOf cr cd) :: own) := by
 refine Spec.enter Tryz.f29 _ Tryz.func29 rfl (n := 35) rfl rfl ?_
 refine GC.seq (GC.region ?_)
 refine G.step (OG.box (cs := [.int .i64 (cr), vcd]) rfl rfl rfl) rfl rfl rfl ?_
 rintro _ _ ⟨g1, rfl, rfl⟩
 refine G.stepD (OD.assign rfl rfl) rfl rfl rfl ?_
 refine G.nil (GE.then_ (GC.seq (GC.seq (GC.region ?_))))
 refine G.stepD (OD.loadAgg rfl ti28 rfl (i := 0) rfl (us := [.int .i64 (cr), vcd]) rfl rfl) rfl rfl rfl ?_
 refine G.step (OG.call [.agg #[.int .i64 (cr), vcd]] ent38 rfl rfl rfl rfl (by exact (isCartan_w scd (Ent.drop 1 ecd) (hl0) ((Ent.drop 1 hg))))) rfl rfl rfl ?_
 rintro _ _ ⟨rfl, rfl⟩
 refine G.stepD (OD.not rfl rfl) rfl rfl rfl ?_
 refine G.nil (GE.then_ ?_)
 refine GC.cond rfl (fun hc2 => ?_) (fun hc2 => ?_)
 replace hc2 := eq_false_of_not hc2
 have hS := hc2
 refine GC.seq (GC.region ?_)
 refine G.stepD (OD.assign rfl rfl) rfl rfl rfl ?_
 refine G.nil (GE.then_ (GC.ret (GE.passR ?_)))
 refine GE.nilInts 3 ?_
 exact GE.body [0] 1 (res1 rfl rfl) rfl (⟨(.slice none 0 0), rfl, IsS.nil, congrArg (fun (l0 : List Int) => ints 3 (.slice none 0 0) l0 :: own) ((by rw [lcOf, hS] <;> rfl : [] = lcOf cr cd))⟩)
 replace hc2 := eq_true_of_not hc2
 have hS := hc2
 have hrs := (rtOk hS).slen
 have hrf := (rtOk hS).few
 have hcr4 := (tyS_ok hS).1
 have hrk := (rtOk hS).rk
 have hol := oAll_len cr cd (ones cr 1)
 refine GC.skip (GE.then_ (GC.seq (GC.region ?_)))
 refine G.stepD (OD.loadAgg rfl ti28 rfl (i := 0) rfl (us := [.int .i64 (cr), vcd]) rfl rfl) rfl rfl rfl ?_
 refine G.step (OG.call [.agg #[.int .i64 (cr), vcd]] ent40 rfl rfl rfl rfl (by exact (newRoots_w scd (Ent.drop 1 ecd) ((tyS_ok hS).1) ((tyS_ok hS).2) (hS) ((Ent.drop 1 htab))))) rfl rfl rfl ?_
 rintro _ _ ⟨v3, u4, g8, rfl, hs5, hs6, hs7, rfl⟩
 refine G.stepD (OD.field (us := [.int .i64 (cr), vcd, v3, .map (some g8)]) rfl fd48_1 rfl rfl) rfl rfl rfl ?_
 refine G.stepD (OD.len rfl rfl et26 rfl (Ent.lst (i := 0) rfl)) rfl rfl rfl ?_
 refine G.stepD (OD.addI rfl rfl rfl (by omega)) rfl rfl rfl ?_
 refine G.step (OG.makeInts rfl et22 rfl rfl (by omega)) rfl rfl rfl ?_
 rintro v9 _ ⟨hs10, rfl⟩
 refine G.stepD (OD.assign rfl rfl) rfl rfl rfl ?_
 refine G.nil (GE.then_ (GC.seq (GC.seq ?_)))
 refine GC.at [] 0 (env' := [(1, .pointer (some ⟨g1, 0, none⟩)), (3, v9)]) ⟨rfl, rfl, trivial⟩ rfl ?_
 refine GC.par (its := [⟨15, [], [], [], [], fun _ => .agg #[.int .i64 (cr), vcd], fun _ => True, fun _ => []⟩,
     ⟨16, [], [], [], [], fun _ => .agg #[.int .i64 (cr), vcd], fun _ => True, fun _ => []⟩,
     ⟨17, [(1, 16)], [], [], [2], fun ds => ((ds.getD 0 []).getD 0 undef), fun ds => IsS ((ds.getD 0 []).getD 0 undef), fun ds => [ints 3 ((ds.getD 0 []).getD 0 undef) (ones cr 1)]⟩,
     ⟨18, [(0, 15), (2, 17)], [2], [], [2, 3], fun ds => ((ds.getD 1 []).getD 0 undef), fun ds => IsS ((ds.getD 1 []).getD 0 undef) ∧ AllS (usOf ((ds.getD 1 []).getD 1 undef)) ∧ (usOf ((ds.getD 1 []).getD 1 undef)).length = (oAll cr cd (ones cr 1)).length, fun ds => [lst 22 ((ds.getD 1 []).getD 0 undef) (usOf ((ds.getD 1 []).getD 1 undef)), many (ints 3) (usOf ((ds.getD 1 []).getD 1 undef)) (oAll cr cd (ones cr 1))]⟩,
     ⟨19, [(3, 18)], [2, 3], [], [2, 3], fun ds => .int .i64 (((usOf ((ds.getD 1 []).getD 1 undef)).length : Nat)), fun _ => True, fun _ => []⟩,
     ⟨20, [], [], [], [], fun _ => .int .i64 (0), fun _ => True, fun _ => []⟩]) (by kernel_rfl) (by kernel_rfl) (POps.cons ?_ (POps.cons ?_ (POps.cons ?_ (POps.cons ?_ (POps.cons ?_ (POps.cons ?_ POps.nil)))))) ?_
 intro θ R hd
 exact Opp.plain (OG.imp (OD.loadAgg rfl ti28 rfl (i := 4) rfl (us := [.int .i64 (cr), vcd]) rfl rfl) (by rintro _ _ ⟨rfl, rfl⟩; exact ⟨[], rfl, trivial, rfl⟩)) rfl
 intro θ R hd
 exact Opp.plain (OG.imp (OD.loadAgg rfl ti28 rfl (i := 4) rfl (us := [.int .i64 (cr), vcd]) rfl rfl) (by rintro _ _ ⟨rfl, rfl⟩; exact ⟨[], rfl, trivial, rfl⟩)) rfl
 intro θ R hd
 obtain ⟨h1d, _⟩ := hd
 exact Opp.plain (OG.imp (OG.call [.agg #[.int .i64 (cr), vcd]] ent61 rfl rfl rfl rfl (by exact (rho_w scd (Ent.drop 5 ecd.app) ((tyS_ok hS).1)))) (by rintro v11 _ ⟨_, rfl, hs12, rfl⟩; exact ⟨[v11], rfl, hs12, rfl⟩)) rfl
 intro θ R hd
 obtain ⟨h0d, h2d, _⟩ := hd
 exact Opp.plain (OG.imp (OG.call [.agg #[.int .i64 (cr), vcd], ((θ 2).getD 0 undef)] ent54 rfl rfl rfl rfl (by exact (orbit_w scd (Ent.drop 6 ecd.app) h2d (Ent.ints (i := 0) rfl) ((tyS_ok hS).1) ((tyS_ok hS).2) (by have h1 := (tyS_ok hS).1; rw [ones_len]; omega) (ones_64) ((Ent.drop 6 htab.app))))) (by rintro v13 _ ⟨_, u14, rfl, hs15, hs16, hs17, rfl⟩; exact ⟨[v13, .agg u14.toArray], rfl, ⟨hs15, hs16, hs17⟩, rfl⟩)) rfl
 intro θ R hd
 obtain ⟨h3d, _⟩ := hd
 exact Opp.plain (OG.imp (OD.len rfl rfl et26 rfl (Ent.lst (i := 1) rfl)) (by rintro _ _ ⟨rfl, rfl⟩; exact ⟨[], rfl, trivial, rfl⟩)) rfl
 intro θ R hd
 exact Opp.plain (OG.imp (OD.move rfl rfl) (by rintro _ _ ⟨rfl, rfl⟩; exact ⟨[], rfl, trivial, rfl⟩)) rfl
 intro θ hall
 obtain ⟨_, _, h2a, h3a, _, _, _⟩ := hall
 refine G.at [] 0 (env' := [(1, .pointer (some ⟨g1, 0, none⟩)), (3, v9), (18, ((θ 3).getD 0 undef)), (19, .int .i64 (((usOf ((θ 3).getD 1 undef)).length : Nat))), (20, .int .i64 (0))]) ⟨rfl, rfl, rfl, rfl, rfl, trivial⟩ (own' := ints 3 ((θ 2).getD 0 undef) (ones cr 1) :: lst 22 ((θ 3).getD 0 undef) (usOf ((θ 3).getD 1 undef)) :: many (ints 3) (usOf ((θ 3).getD 1 undef)) (oAll cr cd (ones cr 1)) :: ints 3 v9 (List.replicate ((u4.length : Nat) + 1 : Int).toNat (0 : Int)) :: lst 22 v3 u4 :: many (ints 3) u4 (rSt cr cd) :: mapA keyL valI g8 (rKvs cr cd) :: box g1 28 [.int .i64 (cr), vcd] :: own) rfl ?_
 have hs18 : IsS ((θ 2).getD 0 undef) := h2a
 clear h2a
 generalize ((θ 2).getD 0 undef) = v19 at *
 have hs20 : IsS ((θ 3).getD 0 undef) := h3a.1
 have hs21 : AllS (usOf ((θ 3).getD 1 undef)) := h3a.2.1
 have hs22 : (usOf ((θ 3).getD 1 undef)).length = (oAll cr cd (ones cr 1)).length := h3a.2.2
 clear h3a
 generalize ((θ 3).getD 0 undef) = v23 at *
 generalize (usOf ((θ 3).getD 1 undef)) = u24 at *
 show G _ _ _ [] _ _ _ _
 refine G.nil (GE.then_ (GC.block ?_))
 refine GC.loop (ι := Nat × List Int) (fun ⟨k, ys⟩ => [(1, .pointer (some ⟨g1, 0, none⟩)), (3, v9), (18, v23), (19, .int .i64 ((u24.length : Nat))), (20, .int .i64 ((k : Int)))]) (fun ⟨k, ys⟩ => ints 3 v19 (ones cr 1) :: lst 22 v23 u24 :: many (ints 3) u24 (oAll cr cd (ones cr 1)) :: ints 3 v9 ys :: lst 22 v3 u4 :: many (ints 3) u4 (rSt cr cd) :: mapA keyL valI g8 (rKvs cr cd) :: box g1 28 [.int .i64 (cr), vcd] :: own) (fun ⟨k, ys⟩ => (k ≤ (oAll cr cd (ones cr 1)).length) ∧ (ys = lcUp cr cd ((rSt cr cd).length + 1) ((oAll cr cd (ones cr 1)).take k))) (fun ⟨k, ys⟩ => (oAll cr cd (ones cr 1)).length - k) (0, (List.replicate ((u4.length : Nat) + 1 : Int).toNat (0 : Int))) (⟨by omega, by rw [List.take_zero, lcUp_nil]; congr 1 <;> omega⟩) ⟨rfl, rfl, rfl, rfl, rfl, trivial⟩ [] 0 rfl ?_
 rintro ⟨k, ys⟩ ⟨hk, hy⟩
 have hyl : ys.length = ((rSt cr cd).length + 1) := by rw [hy, lcUp_len]
 refine GC.seq (GC.region ?_)
 refine G.stepD (OD.lss rfl rfl rfl) rfl rfl rfl ?_
 refine G.nil (GE.then_ (GC.seq ?_))
 refine GC.cond rfl (fun hc25 => ?_) (fun hc25 => ?_)
 replace hc25 := of_decide_eq_true hc25
 have hkm := getD_mem (L := (oAll cr cd (ones cr 1))) (k := k) (by omega)
 obtain ⟨hnl, hnq, hnb⟩ := nw_of hS hkm
 have hbd := ((wlOk hS).orR _ hkm).bd (wlOk hS) (phOk hS)
 have hnk : (nwF cr cd ((oAll cr cd (ones cr 1)).getD k [])).length ≤ 16001 := nwF_len _ _ _
 have hyg : ys.getD (nwF cr cd ((oAll cr cd (ones cr 1)).getD k [])).length 0 = (cntW cr cd ((oAll cr cd (ones cr 1)).take k) (nwF cr cd ((oAll cr cd (ones cr 1)).getD k [])).length : Int) := by rw [hy, lcUp_get hnq]
 have hyg2 : ys.getD ((((nwF cr cd ((oAll cr cd (ones cr 1)).getD k [])).length : Nat) : Int)).toNat 0 = (cntW cr cd ((oAll cr cd (ones cr 1)).take k) (nwF cr cd ((oAll cr cd (ones cr 1)).getD k [])).length : Int) := hyg
 have hyb := cntW_le cr cd ((oAll cr cd (ones cr 1)).take k) (nwF cr cd ((oAll cr cd (ones cr 1)).getD k [])).length
 have htk : ((oAll cr cd (ones cr 1)).take k).length = k := by rw [List.length_take]; omega
 refine GC.skip (GE.then_ (GC.seq (GC.block (GC.seq (GC.region ?_)))))
 refine G.stepD (OD.indexAddr rfl et26 rfl (Ent.lst (i := 1) rfl) rfl (by omega)) rfl rfl rfl ?_
 refine G.stepD (OD.loadElem rfl ti22 rfl (Ent.lst (i := 1) rfl) (by omega) rfl) rfl rfl rfl ?_
 refine G.stepD (OD.assign rfl rfl) rfl rfl rfl ?_
 refine G.nil (GE.then_ (GC.region ?_))
 refine G.stepD (OD.move rfl rfl) rfl rfl rfl ?_
 refine G.stepD (OD.loadAgg rfl ti28 rfl (i := 7) rfl (us := [.int .i64 (cr), vcd]) rfl rfl) rfl rfl rfl ?_
 refine G.stepD (OD.move rfl rfl) rfl rfl rfl ?_
 refine G.step (OG.call [.agg #[.int .i64 (cr), vcd], (u24.getD (k) undef)] ent62 rfl rfl rfl rfl (by exact (normalOf_w scd (Ent.drop 8 ecd) (hs21.get (by omega)) (Ent.manyInts (i := 2) rfl ⟨by first | omega | (simp; omega), by first | omega | (simp; omega)⟩) ((tyS_ok hS).1) ((tyS_ok hS).2) (phOk hS) (hbd)))) rfl rfl rfl ?_
 rintro v26 _ ⟨_, rfl, hs27, rfl⟩
 refine G.stepD (OD.len rfl rfl et22 rfl (Ent.ints (i := 0) rfl)) rfl rfl rfl ?_
 refine G.stepD (OD.indexAddr rfl et22 rfl (Ent.ints (i := 4) rfl) rfl (by omega)) rfl rfl rfl ?_
 refine G.stepD (OD.loadInt rfl ti3 rfl (Ent.ints (i := 4) rfl) (by omega)) rfl rfl rfl ?_
 refine G.stepD (OD.addI rfl rfl rfl (by omega)) rfl rfl rfl ?_
 refine G.stepD (OD.indexAddr rfl et22 rfl (Ent.ints (i := 4) rfl) rfl (by omega)) rfl rfl rfl ?_
 refine G.stepD0 (OD.storeInt rfl ti3 rfl rfl (i := 4) rfl (by omega)) rfl rfl ?_
 refine G.nil (GE.blockN (GE.then_ (GC.region ?_)))
 refine G.stepD (OD.addI rfl rfl rfl (by first | omega | (simp only [List.length_set, List.length_replicate]; omega))) rfl rfl rfl ?_
 refine G.stepD (OD.move rfl rfl) rfl rfl rfl ?_
 refine G.nil ?_
 exact GE.again (k + 1, ((ys).set ((nwF cr cd ((oAll cr cd (ones cr 1)).getD (k) [])).length) ((ys.getD ((nwF cr cd ((oAll cr cd (ones cr 1)).getD (k) [])).length) 0) + 1))) (⟨by omega, by rw [hy, take_getL (by omega)]; exact lcUp_next hnq⟩) (by first | omega | (dsimp only; omega)) ⟨rfl, rfl, rfl, rfl, rfl, trivial⟩ [1, 1, 1, 1, 1, 1, 1, 1] 1 rfl
 replace hc25 := of_decide_eq_false hc25
 refine GC.exit (GE.pass (GE.pass (GE.hit (GE.then_ (GC.seq (GC.region ?_))))))
 refine G.stepD (OD.move rfl rfl) rfl rfl rfl ?_
 refine G.stepD (OD.assign rfl rfl) rfl rfl rfl ?_
 refine G.nil (GE.then_ (GC.ret ?_))
 exact GE.body [3] 7 (res1 rfl rfl) rfl (⟨v9, rfl, hs10, congrArg (fun (l0 : List Int) => ints 3 v9 l0 :: own) ((by rw [lcOf, if_pos hS, ← lc_all hS, hy, List.take_of_length_le (by omega)] : ys = lcOf cr cd))⟩)
set_option maxHeartbeats 4000000 in
set_option maxRecDepth 100000 in
theorem lawLengthCounts {W : World} {own : List Asn} {cr : Int} {vcd : Value} {cd : List Int}  (scd : IsS vcd) (ecd : Ent own fun w => Ints w vcd cd)  (hcd : cd.length ≤ 9223372036854775807) (hg : Ent own fun w => ∃ m, w.cell? ⟨Tryz.l146_ren.g 1, 0, none⟩ = some (.int .i64 m)) (htab : Ent own Pow10) : Spec Tryz.prog 7 [.agg #[.int .i64 (cr), vcd]] W own (fun v ow => v = .bool (true) ∧ ow = own) := by
 have hR1 := lcOf_len cr cd
 refine Spec.enter Tryz.f7 _ Tryz.func7 rfl (n := 69) rfl rfl ?_
 refine GC.seq (GC.region ?_)
 refine G.step (OG.box (cs := [.int .i64 (cr), vcd]) rfl rfl rfl) rfl rfl rfl ?_
 rintro _ _ ⟨g1, rfl, rfl⟩
 refine G.stepD (OD.assign rfl rfl) rfl rfl rfl ?_
 refine G.nil (GE.then_ (GC.seq (GC.region ?_)))
 refine G.stepD (OD.assign rfl rfl) rfl rfl rfl ?_
 refine G.nil (GE.then_ (GC.seq (GC.region ?_)))
 refine G.stepD (OD.loadAgg rfl ti24 rfl (i := 0) rfl (us := [.int .i64 (cr), vcd]) rfl rfl) rfl rfl rfl ?_
 refine G.stepD (OD.move rfl rfl) rfl rfl rfl ?_
 refine G.step (OG.call [.agg #[.int .i64 (cr), vcd], .int .i64 (1048576)] ent10 rfl rfl rfl rfl (by exact (szCartan_s scd (Ent.drop 1 ecd) (by omega) (by omega)))) rfl rfl rfl ?_
 rintro _ _ ⟨rfl, rfl⟩
 refine G.stepD (OD.assign rfl rfl) rfl rfl rfl ?_
 refine G.nil (GE.then_ (GC.seq (GC.seq (GC.region ?_))))
 refine G.stepD (OD.move rfl rfl) rfl rfl rfl ?_
 refine G.stepD (OD.lss rfl rfl rfl) rfl rfl rfl ?_
 refine G.nil (GE.then_ ?_)
 refine GC.cond rfl (fun hc2 => ?_) (fun hc2 => ?_)
 replace hc2 := of_decide_eq_true hc2
 refine GC.seq (GC.region ?_)
 refine G.stepD (OD.assign rfl rfl) rfl rfl rfl ?_
 refine G.nil (GE.then_ (GC.ret (GE.passR ?_)))
 exact GE.body [] 1 (res1 rfl rfl) rfl (⟨rfl, rfl⟩)
 replace hc2 := of_decide_eq_false hc2
 have hc2z := szG_ok hc2
 refine GC.skip (GE.then_ (GC.seq (GC.region ?_)))
 refine G.stepD (OD.loadAgg rfl ti24 rfl (i := 0) rfl (us := [.int .i64 (cr), vcd]) rfl rfl) rfl rfl rfl ?_
 refine G.step (OG.call [.agg #[.int .i64 (cr), vcd]] ent12 rfl rfl rfl rfl (by exact (toCartan_s scd (Ent.drop 1 ecd) (by omega)))) rfl rfl rfl ?_
 rintro _ _ ⟨v3, rfl, hs4, rfl⟩
 refine G.step (OG.call [.agg #[.int .i64 (cr), v3]] ent28 rfl rfl rfl rfl (by exact (specLengthCounts_w hs4 (Ent.ints (i := 0) rfl) (by omega)))) rfl rfl rfl ?_
 rintro v5 _ ⟨_, rfl, hs6, rfl⟩
 refine G.stepD (OD.assign rfl rfl) rfl rfl rfl ?_
 refine G.nil (GE.then_ (GC.seq (GC.region ?_)))
 refine G.stepD (OD.loadAgg rfl ti24 rfl (i := 2) rfl (us := [.int .i64 (cr), vcd]) rfl rfl) rfl rfl rfl ?_
 refine G.step (OG.call [.agg #[.int .i64 (cr), vcd]] ent12 rfl rfl rfl rfl (by exact (toCartan_s scd (Ent.drop 3 ecd) (by omega)))) rfl rfl rfl ?_
 rintro _ _ ⟨v7, rfl, hs8, rfl⟩
 refine G.step (OG.alloc rfl ti28 (zs := [.int .i64 (0), .slice none 0 0]) rfl) rfl rfl rfl ?_
 rintro _ _ ⟨g9, rfl, rfl⟩
 refine G.stepD0 (OD.store rfl ti28 rfl rfl (us := [.int .i64 (cr), v7]) rfl rfl (allC rfl (allC (IsS.one hs8) rfl)) (i := 0) rfl rfl) rfl rfl ?_
 refine G.nil (GE.then_ (GC.seq (GC.region ?_)))
 refine G.stepD (OD.loadAgg rfl ti28 rfl (i := 0) rfl (us := [.int .i64 (cr), v7]) rfl rfl) rfl rfl rfl ?_
 refine G.step (OG.call [.agg #[.int .i64 (cr), v7]] ent29 rfl rfl rfl rfl (by exact (lengthCounts_w hs8 (Ent.ints (i := 1) rfl) (by omega) ((Ent.drop 5 hg)) ((Ent.drop 5 htab))))) rfl rfl rfl ?_
 rintro v10 _ ⟨_, rfl, hs11, rfl⟩
 refine G.stepD (OD.assign rfl rfl) rfl rfl rfl ?_
 refine G.nil (GE.then_ (GC.seq (GC.seq (GC.region ?_))))
 refine G.stepD (OD.move rfl rfl) rfl rfl rfl ?_
 refine G.stepD (OD.move rfl rfl) rfl rfl rfl ?_
 refine G.step (OG.call [v10, v5] ent22 rfl rfl rfl rfl (by exact (eqIntS_same hs11 (Ent.ints (i := 0) rfl) hs6 (Ent.ints (i := 3) rfl) (by omega)))) rfl rfl rfl ?_
 rintro _ _ ⟨rfl, rfl⟩
 refine G.stepD (OD.not rfl rfl) rfl rfl rfl ?_
 refine G.nil (GE.then_ (GC.condF rfl (GC.skip (GE.then_ (GC.seq (GC.seq ?_))))))
 refine GC.at [] 0 (env' := [(1, .pointer (some ⟨g1, 0, none⟩)), (4, v5), (5, .pointer (some ⟨g9, 0, none⟩)), (6, v10)]) ⟨rfl, rfl, rfl, rfl, trivial⟩ rfl ?_
 refine GC.par (its := [⟨27, [], [], [], [], fun _ => .agg #[.int .i64 (cr), v7], fun _ => True, fun _ => []⟩,
     ⟨28, [], [], [], [], fun _ => .agg #[.int .i64 (cr), vcd], fun _ => True, fun _ => []⟩,
     ⟨29, [(1, 28)], [], [], [2], fun ds => .agg #[.int .i64 (cr), ((ds.getD 0 []).getD 0 undef)], fun ds => IsS ((ds.getD 0 []).getD 0 undef), fun ds => [ints 3 ((ds.getD 0 []).getD 0 undef) cd]⟩,
     ⟨30, [(0, 27), (2, 29)], [2], [], [2], fun _ => .bool true, fun _ => True, fun _ => []⟩,
     ⟨31, [(3, 30)], [2], [], [2], fun _ => .bool false, fun _ => True, fun _ => []⟩]) (by kernel_rfl) (by kernel_rfl) (POps.cons ?_ (POps.cons ?_ (POps.cons ?_ (POps.cons ?_ (POps.cons ?_ POps.nil))))) ?_
 intro θ R hd
 exact Opp.plain (OG.imp (OD.loadAgg rfl ti28 rfl (i := 1) rfl (us := [.int .i64 (cr), v7]) rfl rfl) (by rintro _ _ ⟨rfl, rfl⟩; exact ⟨[], rfl, trivial, rfl⟩)) rfl
 intro θ R hd
 exact Opp.plain (OG.imp (OD.loadAgg rfl ti24 rfl (i := 5) rfl (us := [.int .i64 (cr), vcd]) rfl rfl) (by rintro _ _ ⟨rfl, rfl⟩; exact ⟨[], rfl, trivial, rfl⟩)) rfl
 intro θ R hd
 obtain ⟨h1d, _⟩ := hd
 exact Opp.plain (OG.imp (OG.call [.agg #[.int .i64 (cr), vcd]] ent12 rfl rfl rfl rfl (by exact (toCartan_s scd (Ent.drop 6 ecd.app) (by omega)))) (by rintro _ _ ⟨v12, rfl, hs13, rfl⟩; exact ⟨[v12], rfl, hs13, rfl⟩)) rfl
 intro θ R hd
 obtain ⟨h0d, h2d, _⟩ := hd
 exact Opp.plain (OG.imp (OG.call [.agg #[.int .i64 (cr), v7], .agg #[.int .i64 (cr), ((θ 2).getD 0 undef)]] ent15 rfl rfl rfl rfl (by exact (eqCartan_same hs8 (Ent.ints (i := 3) rfl) h2d (Ent.ints (i := 0) rfl) (by omega)))) (by rintro _ _ ⟨rfl, rfl⟩; exact ⟨[], rfl, trivial, rfl⟩)) rfl
 intro θ R hd
 obtain ⟨h3d, _⟩ := hd
 exact Opp.plain (OG.imp (OD.not rfl rfl) (by rintro _ _ ⟨rfl, rfl⟩; exact ⟨[], rfl, trivial, rfl⟩)) rfl
 intro θ hall
 obtain ⟨_, _, h2a, _, _, _⟩ := hall
 refine G.at [] 0 (env' := [(1, .pointer (some ⟨g1, 0, none⟩)), (4, v5), (5, .pointer (some ⟨g9, 0, none⟩)), (6, v10), (31, .bool false)]) ⟨rfl, rfl, rfl, rfl, rfl, trivial⟩ (own' := ints 3 ((θ 2).getD 0 undef) cd :: ints 3 v10 (lcOf cr cd) :: box g9 28 [.int .i64 (cr), v7] :: ints 3 v7 cd :: ints 3 v5 (lcOf cr cd) :: ints 3 v3 cd :: box g1 24 [.int .i64 (cr), vcd] :: own) rfl ?_
 have hs14 : IsS ((θ 2).getD 0 undef) := h2a
 clear h2a
 generalize ((θ 2).getD 0 undef) = v15 at *
 show G _ _ _ [] _ _ _ _
 refine G.nil (GE.then_ (GC.condF rfl (GC.skip (GE.then_ (GC.seq (GC.region ?_))))))
 refine G.stepD (OD.assign rfl rfl) rfl rfl rfl ?_
 refine G.nil (GE.then_ (GC.seq (GC.region ?_)))
 refine G.stepD (OD.loadAgg rfl ti28 rfl (i := 2) rfl (us := [.int .i64 (cr), v7]) rfl rfl) rfl rfl rfl ?_
 refine G.stepD (OD.move rfl rfl) rfl rfl rfl ?_
 refine G.at [3] 0 (env' := [(1, .pointer (some ⟨g1, 0, none⟩)), (4, v5), (5, .pointer (some ⟨g9, 0, none⟩)), (6, v10), (31, .bool false), (7, .int .i64 (1)), (32, .agg #[.int .i64 (cr), v7]), (33, .int .i64 (1))]) ⟨rfl, rfl, rfl, rfl, rfl, rfl, rfl, rfl, trivial⟩ (own' := ints 3 v7 cd :: ints 3 v15 cd :: ints 3 v10 (lcOf cr cd) :: box g9 28 [.int .i64 (cr), v7] :: ints 3 v5 (lcOf cr cd) :: ints 3 v3 cd :: box g1 24 [.int .i64 (cr), vcd] :: own) rfl ?_
 refine G.step (OG.call [.agg #[.int .i64 (cr), v7], .int .i64 (1)] ent16 rfl rfl rfl rfl (by exact (markCartan_s hs8 (by omega) (by omega)))) rfl rfl rfl ?_
 rintro _ _ ⟨rfl, rfl⟩
 refine G.stepD (OD.assign rfl rfl) rfl rfl rfl ?_
 refine G.nil (GE.then_ (GC.seq (GC.seq (GC.region ?_))))
 refine G.stepD (OD.move rfl rfl) rfl rfl rfl ?_
 refine G.stepD (OD.eqv (OD.lss rfl rfl rfl) (congrArg Value.bool ((decide_eq_false (by omega)) : _ = false))) rfl rfl rfl ?_
 refine G.stepD (OD.move rfl rfl) rfl rfl rfl ?_
 refine G.stepGD (OD.move rfl rfl) rfl rfl rfl rfl rfl ?_
 refine G.stepGD (OD.move rfl rfl) rfl rfl rfl rfl rfl ?_
 refine G.stepG (OG.call [v10, v5] ent22 rfl rfl rfl rfl (by exact (eqIntS_same hs11 (Ent.ints (i := 2) rfl) hs6 (Ent.ints (i := 4) rfl) (by omega)))) rfl rfl rfl rfl rfl ?_
 rintro _ _ ⟨rfl, rfl⟩
 refine G.stepGD (OD.not rfl rfl) rfl rfl rfl rfl rfl ?_
 refine G.stepD (OD.pickF rfl rfl rfl) rfl rfl rfl ?_
 refine G.nil (GE.then_ (GC.condF rfl (GC.skip (GE.then_ (GC.seq (GC.region ?_))))))
 refine G.stepD (OD.assign rfl rfl) rfl rfl rfl ?_
 refine G.nil (GE.then_ (GC.seq (GC.region ?_)))
 refine G.stepD (OD.move rfl rfl) rfl rfl rfl ?_
 refine G.stepD (OD.move rfl rfl) rfl rfl rfl ?_
 refine G.at [2] 0 (env' := [(1, .pointer (some ⟨g1, 0, none⟩)), (4, v5), (5, .pointer (some ⟨g9, 0, none⟩)), (6, v10), (31, .bool false), (32, .agg #[.int .i64 (cr), v7]), (33, .int .i64 (1)), (34, .int .i64 (1 + (cd.length : Nat))), (7, .int .i64 (1 + (cd.length : Nat))), (35, .int .i64 (1 + (cd.length : Nat))), (36, .bool false), (37, .bool false), (38, v10), (39, v5), (40, .bool true), (41, .bool false), (42, .bool false), (8, .int .i64 (1)), (43, v10), (44, .int .i64 (1))]) ⟨rfl, rfl, rfl, rfl, rfl, rfl, rfl, rfl, rfl, rfl, rfl, rfl, rfl, rfl, rfl, rfl, rfl, rfl, rfl, rfl, trivial⟩ (own' := ints 3 v10 (lcOf cr cd) :: ints 3 v7 (mkd 1 cd.length) :: ints 3 v15 cd :: box g9 28 [.int .i64 (cr), v7] :: ints 3 v5 (lcOf cr cd) :: ints 3 v3 cd :: box g1 24 [.int .i64 (cr), vcd] :: own) rfl ?_
 refine G.step (OG.call [v10, .int .i64 (1)] ent23 rfl rfl rfl rfl (by exact (markIntS_s hs11 (by omega) (by omega)))) rfl rfl rfl ?_
 rintro _ _ ⟨rfl, rfl⟩
 refine G.stepD (OD.assign rfl rfl) rfl rfl rfl ?_
 refine G.nil (GE.then_ (GC.seq (GC.region ?_)))
 refine G.stepD (OD.assign rfl rfl) rfl rfl rfl ?_
 refine G.nil (GE.then_ (GC.seq (GC.region ?_)))
 refine G.stepD (OD.move rfl rfl) rfl rfl rfl ?_
 refine G.stepD (OD.move rfl rfl) rfl rfl rfl ?_
 refine G.step (OG.call [v10, .int .i64 (1)] ent30 rfl rfl rfl rfl (by exact (heldIntS_m hs11 (Ent.ints (i := 0) rfl) (by omega) (by omega)))) rfl rfl rfl ?_
 rintro _ _ ⟨rfl, rfl⟩
 refine G.stepD (OD.assign rfl rfl) rfl rfl rfl ?_
 refine G.nil (GE.then_ (GC.seq (GC.seq (GC.region ?_))))
 refine G.stepD (OD.move rfl rfl) rfl rfl rfl ?_
 refine G.stepD (OD.eqv (OD.lss rfl rfl rfl) (congrArg Value.bool ((decide_eq_false (by omega)) : _ = false))) rfl rfl rfl ?_
 refine G.nil (GE.then_ (GC.condF rfl (GC.skip (GE.then_ (GC.seq (GC.seq (GC.region ?_)))))))
 refine G.stepD (OD.move rfl rfl) rfl rfl rfl ?_
 refine G.stepD (OD.move rfl rfl) rfl rfl rfl ?_
 refine G.stepD (OD.eqv (OD.neq rfl rfl rfl) (congrArg Value.bool ((bne_same _) : _ = false))) rfl rfl rfl ?_
 refine G.nil (GE.then_ (GC.condF rfl (GC.skip (GE.then_ (GC.seq (GC.region ?_))))))
 refine G.stepD (OD.loadAgg rfl ti24 rfl (i := 6) rfl (us := [.int .i64 (cr), vcd]) rfl rfl) rfl rfl rfl ?_
 refine G.step (OG.call [.agg #[.int .i64 (cr), vcd]] ent12 rfl rfl rfl rfl (by exact (toCartan_s scd (Ent.drop 7 ecd) (by omega)))) rfl rfl rfl ?_
 rintro _ _ ⟨v16, rfl, hs17, rfl⟩
 refine G.step (OG.call [.agg #[.int .i64 (cr), v16]] ent29 rfl rfl rfl rfl (by exact (lengthCounts_w hs17 (Ent.ints (i := 0) rfl) (by omega) ((Ent.drop 8 hg)) ((Ent.drop 8 htab))))) rfl rfl rfl ?_
 rintro v18 _ ⟨_, rfl, hs19, rfl⟩
 refine G.stepD (OD.assign rfl rfl) rfl rfl rfl ?_
 refine G.nil (GE.then_ (GC.seq (GC.seq (GC.region ?_))))
 refine G.stepD (OD.move rfl rfl) rfl rfl rfl ?_
 refine G.stepD (OD.move rfl rfl) rfl rfl rfl ?_
 refine G.step (OG.call [v18, v5] ent22 rfl rfl rfl rfl (by exact (eqIntS_same hs19 (Ent.ints (i := 0) rfl) hs6 (Ent.ints (i := 6) rfl) (by omega)))) rfl rfl rfl ?_
 rintro _ _ ⟨rfl, rfl⟩
 refine G.stepD (OD.not rfl rfl) rfl rfl rfl ?_
 refine G.nil (GE.then_ (GC.condF rfl (GC.skip (GE.then_ (GC.seq (GC.region ?_))))))
 refine G.stepD (OD.assign rfl rfl) rfl rfl rfl ?_
 refine G.nil (GE.then_ (GC.seq (GC.region ?_)))
 refine G.stepD (OD.move rfl rfl) rfl rfl rfl ?_
 refine G.stepD (OD.move rfl rfl) rfl rfl rfl ?_
 refine G.step (OG.call [v10, .int .i64 (1)] ent30 rfl rfl rfl rfl (by exact (heldIntS_m hs11 (Ent.ints (i := 2) rfl) (by omega) (by omega)))) rfl rfl rfl ?_
 rintro _ _ ⟨rfl, rfl⟩
 refine G.stepD (OD.assign rfl rfl) rfl rfl rfl ?_
 refine G.nil (GE.then_ (GC.seq (GC.seq (GC.region ?_))))
 refine G.stepD (OD.move rfl rfl) rfl rfl rfl ?_
 refine G.stepD (OD.eqv (OD.lss rfl rfl rfl) (congrArg Value.bool ((decide_eq_false (by omega)) : _ = false))) rfl rfl rfl ?_
 refine G.nil (GE.then_ (GC.condF rfl (GC.skip (GE.then_ (GC.seq (GC.seq (GC.region ?_)))))))
 refine G.stepD (OD.move rfl rfl) rfl rfl rfl ?_
 refine G.stepD (OD.move rfl rfl) rfl rfl rfl ?_
 refine G.stepD (OD.eqv (OD.neq rfl rfl rfl) (congrArg Value.bool ((bne_same _) : _ = false))) rfl rfl rfl ?_
 refine G.nil (GE.then_ (GC.condF rfl (GC.skip (GE.then_ (GC.seq (GC.region ?_))))))
 refine G.stepD (OD.assign rfl rfl) rfl rfl rfl ?_
 refine G.nil (GE.then_ (GC.ret ?_))
 exact GE.body [] 9 (res1 rfl rfl) rfl (⟨rfl, rfl⟩)
end Go.Proofs.YtmckgdekblphoaaGreatDoor
