/-
  Strings of roots: contracts by walks.
-/
import Derived.Test.YtbmnnbglipkidaaGreatDoorFct
import Derived.Test.YtbmnnbglipkidaaGreatDoorWNewA
import Derived.Test.YtbmnnbglipkidaaGreatDoorZ19
namespace Go.Proofs.YtbmnnbglipkidaaGreatDoor
set_option linter.unusedVariables false
set_option linter.unusedSimpArgs false
open Go.RowKit
theorem ent47 : ∀ us w, (callFunc 47 us).run Tryz.prog w = .ok (.enter 47 us) w := fun us w => by kernel_rfl
theorem ent53 : ∀ us w, (callFunc 53 us).run Tryz.prog w = .ok (.enter 53 us) w := fun us w => by kernel_rfl
theorem ent55 : ∀ us w, (callFunc 55 us).run Tryz.prog w = .ok (.enter 55 us) w := fun us w => by kernel_rfl
set_option maxRecDepth 100000 in
theorem reach_w {W : World} {own : List Asn} {rr : Int} {vrd : Value} {vrs : Value} {urs : List Value} {rs : Nat} {grm : Nat} {rm : List (List Int × Int)} {vx : Value} {x : List Int} {vy : Value} {y : List Int} {k : Int}  (srd : IsS vrd)   (srs : IsS vrs) (ers : Ent own fun w => Sl w vrs rs 1 urs)   (hrm : Ent own (MapIs keyL valI grm rm))   (sx : IsS vx) (ex : Ent own fun w => Ints w vx x)   (sy : IsS vy) (ey : Ent own fun w => Ints w vy y)   (hrr : rr ≤ 4) (h64x : All64 x) (hlx : x.length ≤ 1073741824) (hle : y.length ≤ x.length) (hk : -1 ≤ k ∧ k ≤ 1) (hb : fdB rr rm (lpF x (k * ((21 : Nat) : Int)) y) = false) (htab : Ent own Pow10) : Spec Tryz.prog 55 [.agg #[.int .i64 (rr), vrd, vrs, .map (some grm)], vx, vy, .int .i64 (k)] W own (fun v ow => v = .int .i64 ((rch (fun (m : Nat) => fdB rr rm (lpF x (k * (m : Int)) y)) 40 0 : Nat)) ∧ ow = own) := by
 refine Spec.enter Tryz.f55 _ Tryz.func55 rfl (n := 22) rfl rfl ?_
 refine Zs (Zr ?_)
 refine G.step (OG.box (cs := [.int .i64 (rr), vrd, vrs, .map (some grm)]) rfl rfl rfl) rfl rfl rfl ?_
 rintro _ _ ⟨g1, rfl, rfl⟩
 refine Za rfl rfl rfl rfl rfl ?_
 refine Zn (Zt (Zs (Zr ?_)))
 refine Za rfl rfl rfl rfl rfl ?_
 refine Zn (Zt (Zs (GC.block ?_)))
 refine GC.loop (ι := Nat) (fun m => [(1, vx), (2, vy), (3, .int .i64 (k)), (4, .pointer (some ⟨g1, 0, none⟩)), (9, .int .i64 ((m : Int)))]) (fun m => box g1 64 [.int .i64 (rr), vrd, vrs, .map (some grm)] :: own) (fun m => (m ≤ 20) ∧ (rch (fun (m : Nat) => fdB rr rm (lpF x (k * (m : Int)) y)) (40 - m) m = rch (fun (m : Nat) => fdB rr rm (lpF x (k * (m : Int)) y)) 40 0)) (fun m => 20 - m) 0 (⟨by omega, rfl⟩) ⟨rfl,rfl,rfl,rfl,rfl,trivial⟩ [] 0 rfl ?_
 rintro m ⟨hm, hr⟩
 have hkm := mul_abs (a := k) (b := (m : Int) + 1) (A := 1) (B := 21) (by omega) (by omega)
 have hll := lpF_len x (k * ((m : Int) + 1)) y
 refine Zs (Zs ?_)
 refine GC.at [] 0 (env' := [(1, vx), (2, vy), (3, .int .i64 (k)), (4, .pointer (some ⟨g1, 0, none⟩)), (9, .int .i64 ((m : Int)))]) ⟨rfl,rfl,rfl,rfl,rfl,trivial⟩ rfl ?_
 refine GC.par (its := [Z0 10 (.agg #[.int .i64 (rr), vrd, vrs, .map (some grm)]),
     Z0 11 vx,
     Z0 12 (.int .i64 (k)),
     Z0 13 (.int .i64 ((m : Int))),
     Z1 14 [(3, 13)] (.int .i64 ((m : Int) + 1)),
     Z1 15 [(2, 12), (4, 14)] (.int .i64 (k * ((m : Int) + 1))),
     Z0 16 vy,
     ⟨17, [(1, 11), (5, 15), (6, 16)], [], [], [7], fun ds => ((ds.getD 0 []).getD 0 undef), fun ds => IsS ((ds.getD 0 []).getD 0 undef), fun ds => [ints 3 ((ds.getD 0 []).getD 0 undef) (lpF x (k * ((m : Int) + 1)) y)]⟩,
     ⟨18, [(0, 10), (7, 17)], [7], [], [7], fun _ => .bool (fdB rr rm (lpF x (k * ((m : Int) + 1)) y)), fun _ => True, fun _ => []⟩]) (by kernel_rfl) (by kernel_rfl) (POps.cons ?_ (POps.cons ?_ (POps.cons ?_ (POps.cons ?_ (POps.cons ?_ (POps.cons ?_ (POps.cons ?_ (POps.cons ?_ (POps.cons ?_ POps.nil))))))))) ?_
 exact fun θ R hd => Zq (OD.loadAgg rfl ti64 rfl (i := 0) rfl (us := [.int .i64 (rr), vrd, vrs, .map (some grm)]) rfl rfl) rfl rfl trivial rfl
 exact fun θ R hd => Zq (OD.move rfl rfl) rfl rfl trivial rfl
 exact fun θ R hd => Zq (OD.move rfl rfl) rfl rfl trivial rfl
 exact fun θ R hd => Zq (OD.move rfl rfl) rfl rfl trivial rfl
 exact fun θ R ⟨h3d, _⟩ => Zq (OD.addI rfl rfl rfl (by omega)) rfl rfl trivial rfl
 exact fun θ R ⟨h2d, h4d, _⟩ => Zq (OD.mulI rfl rfl rfl (by omega)) rfl rfl trivial rfl
 exact fun θ R hd => Zq (OD.move rfl rfl) rfl rfl trivial rfl
 exact fun θ R ⟨h1d, h5d, h6d, _⟩ => Opp.plain (OG.imp (OG.call [vx, .int .i64 (k * ((m : Int) + 1)), vy] ent68 rfl rfl rfl rfl (by exact (listPlus_w sx (Ent.drop 1 ex.app) sy (Ent.drop 1 ey.app) (hlx) (hle)))) (by rintro v2 _ ⟨_, rfl, hs3, rfl⟩; exact ⟨[v2], rfl, hs3, rfl⟩)) rfl
 exact fun θ R ⟨h0d, h7d, _⟩ => Zq (OG.call [.agg #[.int .i64 (rr), vrd, vrs, .map (some grm)], ((θ 7).getD 0 undef)] ent52 rfl rfl rfl rfl (by exact (has_w srd srs (Ent.drop 2 ers.app) (Ent.drop 2 hrm.app) h7d (Ent.ints (i := 0) rfl) (hrr) (lpF_all64 h64x) (by omega) ((Ent.drop 2 htab.app))))) rfl rfl trivial rfl
 intro θ hall
 obtain ⟨_, _, _, _, _, _, _, h7a, _, _⟩ := hall
 refine G.at [] 0 (env' := [(1, vx), (2, vy), (3, .int .i64 (k)), (4, .pointer (some ⟨g1, 0, none⟩)), (9, .int .i64 ((m : Int))), (18, .bool (fdB rr rm (lpF x (k * ((m : Int) + 1)) y)))]) ⟨rfl,rfl,rfl,rfl,rfl,rfl,trivial⟩ (own' := ints 3 ((θ 7).getD 0 undef) (lpF x (k * ((m : Int) + 1)) y) :: box g1 64 [.int .i64 (rr), vrd, vrs, .map (some grm)] :: own) rfl ?_
 have hs4 : IsS ((θ 7).getD 0 undef) := h7a
 clear h7a
 generalize ((θ 7).getD 0 undef) = v5 at *
 show G _ _ _ [] _ _ _ _
 refine Zn (Zt ?_)
 refine GC.cond rfl (fun hc6 => ?_) (fun hc6 => ?_)
 have hm2 := rch_le (p := fun (m : Nat) => fdB rr rm (lpF x (k * (m : Int)) y)) hm hc6 hb
 refine Zk (Zt (GC.block (Zr ?_)))
 refine Zm rfl rfl rfl rfl rfl ?_
 refine G.stepD (OD.addI rfl rfl rfl (by omega)) rfl rfl rfl ?_
 refine Za rfl rfl rfl rfl rfl ?_
 refine Zn (GE.blockN ?_)
 exact GE.again (m + 1) (⟨rch_le (p := fun (m : Nat) => fdB rr rm (lpF x (k * (m : Int)) y)) hm hc6 hb, (rch_step (p := fun (m : Nat) => fdB rr rm (lpF x (k * (m : Int)) y)) (by omega) hc6).trans hr⟩) (by first | omega | (dsimp only; omega)) ⟨rfl,rfl,rfl,rfl,rfl,trivial⟩ [1] 1 rfl
 refine GC.exit (Zp (Zp (GE.hit (Zt (Zs (Zr ?_))))))
 refine Zm rfl rfl rfl rfl rfl ?_
 refine Za rfl rfl rfl rfl rfl ?_
 refine Zn (Zt (GC.ret ?_))
 exact GE.body [] 2 (res1 rfl rfl) rfl (⟨congrArg (fun (a0 : Int) => (.int .i64 (a0) : Value)) ((by rw [← hr, rch_end (by omega) hc6] : ((m : Int) : Int) = (rch (fun (m : Nat) => fdB rr rm (lpF x (k * (m : Int)) y)) 40 0 : Nat))), rfl⟩)
set_option maxHeartbeats 4000000 in
set_option maxRecDepth 100000 in
theorem rootString_w {W : World} {own : List Asn} {cr : Int} {vcd : Value} {cd : List Int} {vy : Value} {y : List Int} {vx : Value} {x : List Int}  (scd : IsS vcd) (ecd : Ent own fun w => Ints w vcd cd)   (sy : IsS vy) (ey : Ent own fun w => Ints w vy y)   (sx : IsS vx) (ex : Ent own fun w => Ints w vx x)  (hl0 : cd.length ≤ 1073741824) (hlx : x.length ≤ 1073741824) (hly : y.length ≤ 1073741824) (h64x : All64 x) (h64y : All64 y) (hg : Ent own fun w => ∃ m, w.cell? ⟨Tryz.l146_ren.g 1, 0, none⟩ = some (.int .i64 m)) (htab : Ent own Pow10) : Spec Tryz.prog 21 [.agg #[.int .i64 (cr), vcd], vy, vx] W own (fun v ow => v = .tuple #[.int .i64 (rsA cr cd y x (-1)), .int .i64 (rsA cr cd y x 1)] ∧ ow = own) := by
 refine Spec.enter Tryz.f21 _ Tryz.func21 rfl (n := 43) rfl rfl ?_
 refine Zs (Zr ?_)
 refine G.step (OG.box (cs := [.int .i64 (cr), vcd]) rfl rfl rfl) rfl rfl rfl ?_
 rintro _ _ ⟨g1, rfl, rfl⟩
 refine Za rfl rfl rfl rfl rfl ?_
 refine Za rfl rfl rfl rfl rfl ?_
 refine Zn (Zt (Zs (Zs (Zr ?_))))
 refine G.stepD (OD.loadAgg rfl ti27 rfl (i := 0) rfl (us := [.int .i64 (cr), vcd]) rfl rfl) rfl rfl rfl ?_
 refine G.step (OG.call [.agg #[.int .i64 (cr), vcd]] ent50 rfl rfl rfl rfl (by exact (isCartan_w scd (Ent.drop 1 ecd) (hl0) ((Ent.drop 1 hg))))) rfl rfl rfl ?_
 rintro _ _ ⟨rfl, rfl⟩
 refine G.stepD (OD.not rfl rfl) rfl rfl rfl ?_
 refine Zn (Zt ?_)
 refine GC.cond rfl (fun hc2 => ?_) (fun hc2 => ?_)
 replace hc2 := eq_false_of_not hc2
 refine Zs (Zr ?_)
 refine Za rfl rfl rfl rfl rfl ?_
 refine Za rfl rfl rfl rfl rfl ?_
 refine Zn (Zt (GC.ret (GE.passR ?_)))
 exact GE.body [] 1 (res2 rfl rfl rfl) rfl (⟨cong2 (fun (a0 : Int) (a1 : Int) => (.tuple #[.int .i64 (a0), .int .i64 (a1)] : Value)) ((by simp [rsA, rsOk, isRt, hc2] : (-1 : Int) = rsA cr cd y x (-1))) ((by simp [rsA, rsOk, isRt, hc2] : (-1 : Int) = rsA cr cd y x 1)), rfl⟩)
 replace hc2 := eq_true_of_not hc2
 have hS := hc2
 have hcr4 := (tyS_ok hS).1
 refine Zk (Zt (Zs (Zr ?_)))
 refine G.stepD (OD.loadAgg rfl ti27 rfl (i := 0) rfl (us := [.int .i64 (cr), vcd]) rfl rfl) rfl rfl rfl ?_
 refine G.step (OG.call [.agg #[.int .i64 (cr), vcd]] ent51 rfl rfl rfl rfl (by exact (newRoots_w scd (Ent.drop 1 ecd) ((tyS_ok hS).1) ((tyS_ok hS).2) (hS) ((Ent.drop 1 htab))))) rfl rfl rfl ?_
 rintro _ _ ⟨v3, u4, g8, rfl, hs5, hs6, hs7, rfl⟩
 refine G.step (OG.alloc rfl ti64 (zs := [.int .i64 (0), .slice none 0 0, .slice none 0 0, .map none]) rfl) rfl rfl rfl ?_
 rintro _ _ ⟨g9, rfl, rfl⟩
 refine G.stepD0 (OD.store rfl ti64 rfl rfl (us := [.int .i64 (cr), vcd, v3, .map (some g8)]) rfl rfl (allC rfl (allC (IsS.one scd) (allC (IsS.one hs5) (allC rfl rfl)))) (i := 0) rfl rfl) rfl rfl ?_
 refine Zn (Zt (Zs (Zs (Zr ?_))))
 refine G.stepD (OD.loadAgg rfl ti64 rfl (i := 0) rfl (us := [.int .i64 (cr), vcd, v3, .map (some g8)]) rfl rfl) rfl rfl rfl ?_
 refine Zm rfl rfl rfl rfl rfl ?_
 refine G.step (OG.call [.agg #[.int .i64 (cr), vcd, v3, .map (some g8)], vy] ent52 rfl rfl rfl rfl (by exact (has_w scd hs5 (Ent.lst (i := 1) rfl) (Ent.map (kE := keyL) (vE := valI) (l := rKvs cr cd) (i := 3) rfl) sy (Ent.drop 5 ey) (by omega) (h64y) (by omega) ((Ent.drop 5 htab))))) rfl rfl rfl ?_
 rintro _ _ ⟨rfl, rfl⟩
 refine G.stepD (OD.not rfl rfl) rfl rfl rfl ?_
 refine Zm rfl rfl rfl rfl rfl ?_
 rcases Bool.eq_false_or_eq_true (!(fdB cr (rKvs cr cd) y)) with hg10 | hg10
 have hg10e := hg10
 refine G.at [] 0 (env' := [(0, .agg #[.int .i64 (cr), vcd]), (1, vy), (2, vx), (3, .pointer (some ⟨g1, 0, none⟩)), (6, .int .i64 (0)), (7, .int .i64 (0)), (9, .agg #[.int .i64 (cr), vcd]), (10, .bool ((tyS cr cd).isSome)), (11, .bool (!((tyS cr cd).isSome))), (12, .agg #[.int .i64 (cr), vcd]), (13, .agg #[.int .i64 (cr), vcd, v3, .map (some g8)]), (8, .pointer (some ⟨g9, 0, none⟩)), (14, .agg #[.int .i64 (cr), vcd, v3, .map (some g8)]), (15, vy), (16, .bool (fdB cr (rKvs cr cd) y)), (17, .bool true), (18, .bool true)]) (⟨rfl, rfl, rfl, rfl, rfl, rfl, rfl, rfl, rfl, rfl, rfl, rfl, rfl, rfl, rfl, (congrArg (fun b => some (Value.bool b)) hg10e), (congrArg (fun b => some (Value.bool b)) hg10e), trivial⟩) rfl ?_
 replace hg10 := eq_false_of_not hg10
 refine G.skipG rfl rfl rfl rfl rfl rfl (G.skipG rfl rfl rfl rfl rfl rfl (G.skipG rfl rfl rfl rfl rfl rfl (G.skipG rfl rfl rfl rfl rfl rfl ?_)))
 refine G.stepD (OD.pickT rfl rfl rfl) rfl rfl rfl ?_
 refine Zm rfl rfl rfl rfl rfl ?_
 refine G.skipG rfl rfl rfl rfl rfl rfl (G.skipG rfl rfl rfl rfl rfl rfl (G.skipG rfl rfl rfl rfl rfl rfl ?_))
 refine G.stepD (OD.pickT rfl rfl rfl) rfl rfl rfl ?_
 refine Zm rfl rfl rfl rfl rfl ?_
 refine G.skipG rfl rfl rfl rfl rfl rfl (G.skipG rfl rfl rfl rfl rfl rfl (G.skipG rfl rfl rfl rfl rfl rfl (G.skipG rfl rfl rfl rfl rfl rfl ?_)))
 refine G.stepD (OD.pickT rfl rfl rfl) rfl rfl rfl ?_
 refine Zn (Zt (GC.condT rfl (Zs (Zr ?_))))
 refine Za rfl rfl rfl rfl rfl ?_
 refine Za rfl rfl rfl rfl rfl ?_
 refine Zn (Zt (GC.ret (GE.passR ?_)))
 exact GE.body [] 5 (res2 rfl rfl rfl) rfl (⟨cong2 (fun (a0 : Int) (a1 : Int) => (.tuple #[.int .i64 (a0), .int .i64 (a1)] : Value)) ((by simp [rsA, rsOk, isRt, hS, hg10] : (-1 : Int) = rsA cr cd y x (-1))) ((by simp [rsA, rsOk, isRt, hS, hg10] : (-1 : Int) = rsA cr cd y x 1)), rfl⟩)
 have hg10e := hg10
 refine G.at [] 0 (env' := [(0, .agg #[.int .i64 (cr), vcd]), (1, vy), (2, vx), (3, .pointer (some ⟨g1, 0, none⟩)), (6, .int .i64 (0)), (7, .int .i64 (0)), (9, .agg #[.int .i64 (cr), vcd]), (10, .bool ((tyS cr cd).isSome)), (11, .bool (!((tyS cr cd).isSome))), (12, .agg #[.int .i64 (cr), vcd]), (13, .agg #[.int .i64 (cr), vcd, v3, .map (some g8)]), (8, .pointer (some ⟨g9, 0, none⟩)), (14, .agg #[.int .i64 (cr), vcd, v3, .map (some g8)]), (15, vy), (16, .bool (fdB cr (rKvs cr cd) y)), (17, .bool false), (18, .bool false)]) (⟨rfl, rfl, rfl, rfl, rfl, rfl, rfl, rfl, rfl, rfl, rfl, rfl, rfl, rfl, rfl, (congrArg (fun b => some (Value.bool b)) hg10e), (congrArg (fun b => some (Value.bool b)) hg10e), trivial⟩) rfl ?_
 replace hg10 := eq_true_of_not hg10
 refine G.stepGD (OD.loadAgg rfl ti64 rfl (i := 0) rfl (us := [.int .i64 (cr), vcd, v3, .map (some g8)]) rfl rfl) rfl rfl rfl rfl rfl ?_
 refine G.stepGD (OD.move rfl rfl) rfl rfl rfl rfl rfl ?_
 refine G.stepG (OG.call [.agg #[.int .i64 (cr), vcd, v3, .map (some g8)], vx] ent52 rfl rfl rfl rfl (by exact (has_w scd hs5 (Ent.lst (i := 1) rfl) (Ent.map (kE := keyL) (vE := valI) (l := rKvs cr cd) (i := 3) rfl) sx (Ent.drop 5 ex) (by omega) (h64x) (by omega) ((Ent.drop 5 htab))))) rfl rfl rfl rfl rfl ?_
 rintro _ _ ⟨rfl, rfl⟩
 refine G.stepGD (OD.not rfl rfl) rfl rfl rfl rfl rfl ?_
 refine G.stepD (OD.pickF rfl rfl rfl) rfl rfl rfl ?_
 refine Zm rfl rfl rfl rfl rfl ?_
 rcases Bool.eq_false_or_eq_true (!(fdB cr (rKvs cr cd) x)) with hg11 | hg11
 have hg11e := hg11
 refine G.at [] 0 (env' := [(0, .agg #[.int .i64 (cr), vcd]), (1, vy), (2, vx), (3, .pointer (some ⟨g1, 0, none⟩)), (6, .int .i64 (0)), (7, .int .i64 (0)), (9, .agg #[.int .i64 (cr), vcd]), (10, .bool ((tyS cr cd).isSome)), (11, .bool (!((tyS cr cd).isSome))), (12, .agg #[.int .i64 (cr), vcd]), (13, .agg #[.int .i64 (cr), vcd, v3, .map (some g8)]), (8, .pointer (some ⟨g9, 0, none⟩)), (14, .agg #[.int .i64 (cr), vcd, v3, .map (some g8)]), (15, vy), (16, .bool (fdB cr (rKvs cr cd) y)), (17, .bool false), (18, .bool false), (19, .agg #[.int .i64 (cr), vcd, v3, .map (some g8)]), (20, vx), (21, .bool (fdB cr (rKvs cr cd) x)), (22, .bool true), (23, .bool true), (24, .bool true)]) (⟨rfl, rfl, rfl, rfl, rfl, rfl, rfl, rfl, rfl, rfl, rfl, rfl, rfl, rfl, rfl, rfl, rfl, rfl, rfl, rfl, (congrArg (fun b => some (Value.bool b)) hg11e), (congrArg (fun b => some (Value.bool b)) hg11e), (congrArg (fun b => some (Value.bool b)) hg11e), trivial⟩) rfl ?_
 replace hg11 := eq_false_of_not hg11
 refine G.skipG rfl rfl rfl rfl rfl rfl (G.skipG rfl rfl rfl rfl rfl rfl (G.skipG rfl rfl rfl rfl rfl rfl ?_))
 refine G.stepD (OD.pickT rfl rfl rfl) rfl rfl rfl ?_
 refine Zm rfl rfl rfl rfl rfl ?_
 refine G.skipG rfl rfl rfl rfl rfl rfl (G.skipG rfl rfl rfl rfl rfl rfl (G.skipG rfl rfl rfl rfl rfl rfl (G.skipG rfl rfl rfl rfl rfl rfl ?_)))
 refine G.stepD (OD.pickT rfl rfl rfl) rfl rfl rfl ?_
 refine Zn (Zt (GC.condT rfl (Zs (Zr ?_))))
 refine Za rfl rfl rfl rfl rfl ?_
 refine Za rfl rfl rfl rfl rfl ?_
 refine Zn (Zt (GC.ret (GE.passR ?_)))
 exact GE.body [] 5 (res2 rfl rfl rfl) rfl (⟨cong2 (fun (a0 : Int) (a1 : Int) => (.tuple #[.int .i64 (a0), .int .i64 (a1)] : Value)) ((by simp [rsA, rsOk, isRt, hS, hg10, hg11] : (-1 : Int) = rsA cr cd y x (-1))) ((by simp [rsA, rsOk, isRt, hS, hg10, hg11] : (-1 : Int) = rsA cr cd y x 1)), rfl⟩)
 have hg11e := hg11
 refine G.at [] 0 (env' := [(0, .agg #[.int .i64 (cr), vcd]), (1, vy), (2, vx), (3, .pointer (some ⟨g1, 0, none⟩)), (6, .int .i64 (0)), (7, .int .i64 (0)), (9, .agg #[.int .i64 (cr), vcd]), (10, .bool ((tyS cr cd).isSome)), (11, .bool (!((tyS cr cd).isSome))), (12, .agg #[.int .i64 (cr), vcd]), (13, .agg #[.int .i64 (cr), vcd, v3, .map (some g8)]), (8, .pointer (some ⟨g9, 0, none⟩)), (14, .agg #[.int .i64 (cr), vcd, v3, .map (some g8)]), (15, vy), (16, .bool (fdB cr (rKvs cr cd) y)), (17, .bool false), (18, .bool false), (19, .agg #[.int .i64 (cr), vcd, v3, .map (some g8)]), (20, vx), (21, .bool (fdB cr (rKvs cr cd) x)), (22, .bool false), (23, .bool false), (24, .bool false)]) (⟨rfl, rfl, rfl, rfl, rfl, rfl, rfl, rfl, rfl, rfl, rfl, rfl, rfl, rfl, rfl, rfl, rfl, rfl, rfl, rfl, (congrArg (fun b => some (Value.bool b)) hg11e), (congrArg (fun b => some (Value.bool b)) hg11e), (congrArg (fun b => some (Value.bool b)) hg11e), trivial⟩) rfl ?_
 replace hg11 := eq_true_of_not hg11
 refine G.stepGD (OD.move rfl rfl) rfl rfl rfl rfl rfl ?_
 refine G.stepGD (OD.move rfl rfl) rfl rfl rfl rfl rfl ?_
 refine G.stepG (OG.call [vx, vy] ent53 rfl rfl rfl rfl (by exact (slicesEqual_s sx (Ent.drop 5 ex) sy (Ent.drop 5 ey) (by omega)))) rfl rfl rfl rfl rfl ?_
 rintro _ _ ⟨rfl, rfl⟩
 refine G.stepD (OD.pickF rfl rfl rfl) rfl rfl rfl ?_
 refine Zm rfl rfl rfl rfl rfl ?_
 rcases Bool.eq_false_or_eq_true (samB x y) with hg12 | hg12
 have hg12e := hg12
 refine G.at [] 0 (env' := [(0, .agg #[.int .i64 (cr), vcd]), (1, vy), (2, vx), (3, .pointer (some ⟨g1, 0, none⟩)), (6, .int .i64 (0)), (7, .int .i64 (0)), (9, .agg #[.int .i64 (cr), vcd]), (10, .bool ((tyS cr cd).isSome)), (11, .bool (!((tyS cr cd).isSome))), (12, .agg #[.int .i64 (cr), vcd]), (13, .agg #[.int .i64 (cr), vcd, v3, .map (some g8)]), (8, .pointer (some ⟨g9, 0, none⟩)), (14, .agg #[.int .i64 (cr), vcd, v3, .map (some g8)]), (15, vy), (16, .bool (fdB cr (rKvs cr cd) y)), (17, .bool false), (18, .bool false), (19, .agg #[.int .i64 (cr), vcd, v3, .map (some g8)]), (20, vx), (21, .bool (fdB cr (rKvs cr cd) x)), (22, .bool false), (23, .bool false), (24, .bool false), (25, vx), (26, vy), (27, .bool true), (28, .bool true), (29, .bool true)]) (⟨rfl, rfl, rfl, rfl, rfl, rfl, rfl, rfl, rfl, rfl, rfl, rfl, rfl, rfl, rfl, rfl, rfl, rfl, rfl, rfl, rfl, rfl, rfl, rfl, rfl, (congrArg (fun b => some (Value.bool b)) hg12e), (congrArg (fun b => some (Value.bool b)) hg12e), (congrArg (fun b => some (Value.bool b)) hg12e), trivial⟩) rfl ?_
 refine G.skipG rfl rfl rfl rfl rfl rfl (G.skipG rfl rfl rfl rfl rfl rfl (G.skipG rfl rfl rfl rfl rfl rfl (G.skipG rfl rfl rfl rfl rfl rfl ?_)))
 refine G.stepD (OD.pickT rfl rfl rfl) rfl rfl rfl ?_
 refine Zn (Zt (GC.condT rfl (Zs (Zr ?_))))
 refine Za rfl rfl rfl rfl rfl ?_
 refine Za rfl rfl rfl rfl rfl ?_
 refine Zn (Zt (GC.ret (GE.passR ?_)))
 exact GE.body [] 5 (res2 rfl rfl rfl) rfl (⟨cong2 (fun (a0 : Int) (a1 : Int) => (.tuple #[.int .i64 (a0), .int .i64 (a1)] : Value)) ((by simp [rsA, rsOk, isRt, hS, hg10, hg11, hg12e] : (-1 : Int) = rsA cr cd y x (-1))) ((by simp [rsA, rsOk, isRt, hS, hg10, hg11, hg12e] : (-1 : Int) = rsA cr cd y x 1)), rfl⟩)
 have hg12e := hg12
 refine G.at [] 0 (env' := [(0, .agg #[.int .i64 (cr), vcd]), (1, vy), (2, vx), (3, .pointer (some ⟨g1, 0, none⟩)), (6, .int .i64 (0)), (7, .int .i64 (0)), (9, .agg #[.int .i64 (cr), vcd]), (10, .bool ((tyS cr cd).isSome)), (11, .bool (!((tyS cr cd).isSome))), (12, .agg #[.int .i64 (cr), vcd]), (13, .agg #[.int .i64 (cr), vcd, v3, .map (some g8)]), (8, .pointer (some ⟨g9, 0, none⟩)), (14, .agg #[.int .i64 (cr), vcd, v3, .map (some g8)]), (15, vy), (16, .bool (fdB cr (rKvs cr cd) y)), (17, .bool false), (18, .bool false), (19, .agg #[.int .i64 (cr), vcd, v3, .map (some g8)]), (20, vx), (21, .bool (fdB cr (rKvs cr cd) x)), (22, .bool false), (23, .bool false), (24, .bool false), (25, vx), (26, vy), (27, .bool false), (28, .bool false), (29, .bool false)]) (⟨rfl, rfl, rfl, rfl, rfl, rfl, rfl, rfl, rfl, rfl, rfl, rfl, rfl, rfl, rfl, rfl, rfl, rfl, rfl, rfl, rfl, rfl, rfl, rfl, rfl, (congrArg (fun b => some (Value.bool b)) hg12e), (congrArg (fun b => some (Value.bool b)) hg12e), (congrArg (fun b => some (Value.bool b)) hg12e), trivial⟩) rfl ?_
 refine G.stepGD (OD.move rfl rfl) rfl rfl rfl rfl rfl ?_
 refine G.stepGD (OD.move rfl rfl) rfl rfl rfl rfl rfl ?_
 refine G.stepG (OG.call [.int .i64 (-1), vy] ent54 rfl rfl rfl rfl (by exact (listTimes_w sy (Ent.drop 5 ey) (by omega)))) rfl rfl rfl rfl rfl ?_
 rintro v13 _ ⟨_, rfl, hs14, rfl⟩
 refine G.stepG (OG.call [vx, v13] ent53 rfl rfl rfl rfl (by exact (slicesEqual_s sx (Ent.drop 6 ex) hs14 (Ent.ints (i := 0) rfl) (by omega)))) rfl rfl rfl rfl rfl ?_
 rintro _ _ ⟨rfl, rfl⟩
 refine G.stepD (OD.pickF rfl rfl rfl) rfl rfl rfl ?_
 refine Zn (Zt ?_)
 refine GC.cond rfl (fun hc15 => ?_) (fun hc15 => ?_)
 refine Zs (Zr ?_)
 refine Za rfl rfl rfl rfl rfl ?_
 refine Za rfl rfl rfl rfl rfl ?_
 refine Zn (Zt (GC.ret (GE.passR ?_)))
 exact GE.body [] 6 (res2 rfl rfl rfl) rfl (⟨cong2 (fun (a0 : Int) (a1 : Int) => (.tuple #[.int .i64 (a0), .int .i64 (a1)] : Value)) ((by have hq : samB x (ngF y) = true := hc15; simp [rsA, rsOk, isRt, hS, hg10, hg11, hg12e, hq] : (-1 : Int) = rsA cr cd y x (-1))) ((by have hq : samB x (ngF y) = true := hc15; simp [rsA, rsOk, isRt, hS, hg10, hg11, hg12e, hq] : (-1 : Int) = rsA cr cd y x 1)), rfl⟩)
 have hiy : isRt cr cd y = true := by rw [isRt, hS, hg10]; rfl
 have hry := (isRt_wt h64y hiy).2.2
 obtain ⟨hyn, hy10⟩ := (rtOk hS).ent2 hry
 have hix : isRt cr cd x = true := by rw [isRt, hS, hg11]; rfl
 have hrx := (isRt_wt h64x hix).2.2
 obtain ⟨hxn, hx10⟩ := (rtOk hS).ent2 hrx
 refine Zk (Zt (Zs ?_))
 refine GC.at [] 0 (env' := [(1, vy), (2, vx), (6, .int .i64 (0)), (7, .int .i64 (0)), (8, .pointer (some ⟨g9, 0, none⟩))]) ⟨rfl,rfl,rfl,rfl,rfl,trivial⟩ rfl ?_
 refine GC.par (its := [Z0 35 (.agg #[.int .i64 (cr), vcd, v3, .map (some g8)]),
     Z0 36 vx,
     Z0 37 vy,
     Z1 38 [(0, 35), (1, 36), (2, 37)] (.int .i64 ((rch (fun (m : Nat) => fdB cr (rKvs cr cd) (lpF x ((-1) * (m : Int)) y)) 40 0 : Nat))),
     Z0 39 (.agg #[.int .i64 (cr), vcd, v3, .map (some g8)]),
     Z0 40 vx,
     Z0 41 vy,
     Z1 42 [(4, 39), (5, 40), (6, 41)] (.int .i64 ((rch (fun (m : Nat) => fdB cr (rKvs cr cd) (lpF x (1 * (m : Int)) y)) 40 0 : Nat)))]) (by kernel_rfl) (by kernel_rfl) (POps.cons ?_ (POps.cons ?_ (POps.cons ?_ (POps.cons ?_ (POps.cons ?_ (POps.cons ?_ (POps.cons ?_ (POps.cons ?_ POps.nil)))))))) ?_
 exact fun θ R hd => Zq (OD.loadAgg rfl ti64 rfl (i := 1) rfl (us := [.int .i64 (cr), vcd, v3, .map (some g8)]) rfl rfl) rfl rfl trivial rfl
 exact fun θ R hd => Zq (OD.move rfl rfl) rfl rfl trivial rfl
 exact fun θ R hd => Zq (OD.move rfl rfl) rfl rfl trivial rfl
 exact fun θ R ⟨h0d, h1d, h2d, _⟩ => Zq (OG.call [.agg #[.int .i64 (cr), vcd, v3, .map (some g8)], vx, vy, .int .i64 (-1)] ent55 rfl rfl rfl rfl (by exact (reach_w scd hs5 (Ent.lst (i := 2) rfl) (Ent.map (kE := keyL) (vE := valI) (l := rKvs cr cd) (i := 4) rfl) sx (Ent.drop 6 ex.app) sy (Ent.drop 6 ey.app) (by omega) (h64x) (hlx) (by omega) (by omega) (rs_stop hS hrx hry h64x (.inr rfl)) ((Ent.drop 6 htab.app))))) rfl rfl trivial rfl
 exact fun θ R hd => Zq (OD.loadAgg rfl ti64 rfl (i := 1) rfl (us := [.int .i64 (cr), vcd, v3, .map (some g8)]) rfl rfl) rfl rfl trivial rfl
 exact fun θ R hd => Zq (OD.move rfl rfl) rfl rfl trivial rfl
 exact fun θ R hd => Zq (OD.move rfl rfl) rfl rfl trivial rfl
 exact fun θ R ⟨h4d, h5d, h6d, _⟩ => Zq (OG.call [.agg #[.int .i64 (cr), vcd, v3, .map (some g8)], vx, vy, .int .i64 (1)] ent55 rfl rfl rfl rfl (by exact (reach_w scd hs5 (Ent.lst (i := 2) rfl) (Ent.map (kE := keyL) (vE := valI) (l := rKvs cr cd) (i := 4) rfl) sx (Ent.drop 6 ex.app) sy (Ent.drop 6 ey.app) (by omega) (h64x) (hlx) (by omega) (by omega) (rs_stop hS hrx hry h64x (.inl rfl)) ((Ent.drop 6 htab.app))))) rfl rfl trivial rfl
 intro θ hall
 obtain ⟨_, _, _, _, _, _, _, _, _⟩ := hall
 refine G.at [] 0 (env' := [(6, .int .i64 (0)), (7, .int .i64 (0)), (38, .int .i64 ((rch (fun (m : Nat) => fdB cr (rKvs cr cd) (lpF x ((-1) * (m : Int)) y)) 40 0 : Nat))), (42, .int .i64 ((rch (fun (m : Nat) => fdB cr (rKvs cr cd) (lpF x (1 * (m : Int)) y)) 40 0 : Nat)))]) ⟨rfl,rfl,rfl,rfl,trivial⟩ (own' := ints 3 v13 (lpF (List.replicate y.length 0) (-1) y) :: box g9 64 [.int .i64 (cr), vcd, v3, .map (some g8)] :: lst 22 v3 u4 :: many (ints 3) u4 (rSt cr cd) :: mapA keyL valI g8 (rKvs cr cd) :: box g1 27 [.int .i64 (cr), vcd] :: own) rfl ?_
 show G _ _ _ [_, _] _ _ _ _
 refine Za rfl rfl rfl rfl rfl ?_
 refine Za rfl rfl rfl rfl rfl ?_
 refine Zn (Zt (GC.ret ?_))
 exact GE.body [] 6 (res2 rfl rfl rfl) rfl (⟨cong2 (fun (a0 : Int) (a1 : Int) => (.tuple #[.int .i64 (a0), .int .i64 (a1)] : Value)) ((by have hq : samB x (ngF y) = false := hc15; rw [rsA, if_pos (show rsOk cr cd y x = true by simp [rsOk, isRt, hS, hg10, hg11, hg12e, hq])] <;> rfl : ((rch (fun (m : Nat) => fdB cr (rKvs cr cd) (lpF x ((-1) * (m : Int)) y)) 40 0 : Nat) : Int) = rsA cr cd y x (-1))) ((by have hq : samB x (ngF y) = false := hc15; rw [rsA, if_pos (show rsOk cr cd y x = true by simp [rsOk, isRt, hS, hg10, hg11, hg12e, hq])] <;> rfl : ((rch (fun (m : Nat) => fdB cr (rKvs cr cd) (lpF x (1 * (m : Int)) y)) 40 0 : Nat) : Int) = rsA cr cd y x 1)), rfl⟩)
end Go.Proofs.YtbmnnbglipkidaaGreatDoor
