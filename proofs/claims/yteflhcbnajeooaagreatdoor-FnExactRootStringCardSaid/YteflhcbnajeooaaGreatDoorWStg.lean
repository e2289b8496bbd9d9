/-
  Strings of roots: contracts by walks.
-/
import Derived.Test.YteflhcbnajeooaaGreatDoorWNewA
import Derived.Test.YteflhcbnajeooaaGreatDoorStr
namespace Go.Proofs.YteflhcbnajeooaaGreatDoor
set_option linter.unusedVariables false
set_option linter.unusedSimpArgs false
open Go.RowKit

theorem ent11 : ∀ us w, (callFunc 11 us).run Tryz.prog w = .ok (.enter 11 us) w := fun us w => by kernel_rfl
theorem ent13 : ∀ us w, (callFunc 13 us).run Tryz.prog w = .ok (.enter 13 us) w := fun us w => by kernel_rfl
theorem ent16 : ∀ us w, (callFunc 16 us).run Tryz.prog w = .ok (.enter 16 us) w := fun us w => by kernel_rfl
theorem ent20 : ∀ us w, (callFunc 20 us).run Tryz.prog w = .ok (.enter 20 us) w := fun us w => by kernel_rfl
theorem ent27 : ∀ us w, (callFunc 27 us).run Tryz.prog w = .ok (.enter 27 us) w := fun us w => by kernel_rfl
theorem ent28 : ∀ us w, (callFunc 28 us).run Tryz.prog w = .ok (.enter 28 us) w := fun us w => by kernel_rfl
theorem ent52 : ∀ us w, (callFunc 52 us).run Tryz.prog w = .ok (.enter 52 us) w := fun us w => by kernel_rfl
theorem ent53 : ∀ us w, (callFunc 53 us).run Tryz.prog w = .ok (.enter 53 us) w := fun us w => by kernel_rfl
theorem ent55 : ∀ us w, (callFunc 55 us).run Tryz.prog w = .ok (.enter 55 us) w := fun us w => by kernel_rfl
theorem ent61 : ∀ us w, (callFunc 61 us).run Tryz.prog w = .ok (.enter 61 us) w := fun us w => by kernel_rfl

set_option maxRecDepth 100000 in
theorem reach_w {W : World} {own : List Asn} {rr : Int} {vrd : Value} {vrs : Value} {urs : List Value} {rs : Nat} {grm : Nat} {rm : List (List Int × Int)} {vx : Value} {x : List Int} {vy : Value} {y : List Int} {k : Int}  (srd : IsS vrd)   (srs : IsS vrs) (ers : Ent own fun w => Sl w vrs rs 1 urs)   (hrm : Ent own (MapIs keyL valI grm rm))   (sx : IsS vx) (ex : Ent own fun w => Ints w vx x)   (sy : IsS vy) (ey : Ent own fun w => Ints w vy y)   (hrr : rr ≤ 4) (h64x : All64 x) (hlx : x.length ≤ 1073741824) (hle : y.length ≤ x.length) (hk : -1 ≤ k ∧ k ≤ 1) (hb : fdB rr rm (lpF x (k * ((21 : Nat) : Int)) y) = false) (htab : Ent own Pow10) : Spec Tryz.prog 55 [.agg #[.int .i64 (rr), vrd, vrs, .map (some grm)], vx, vy, .int .i64 (k)] W own (fun v ow => v = .int .i64 ((rch (fun (m : Nat) => fdB rr rm (lpF x (k * (m : Int)) y)) 40 0 : Nat)) ∧ ow = own) := by
 refine Spec.enter Tryz.f55 _ Tryz.func55 rfl (n := 22) rfl rfl ?_
 refine GC.seq (GC.region ?_)
 refine G.step (OG.box (cs := [.int .i64 (rr), vrd, vrs, .map (some grm)]) rfl rfl rfl) rfl rfl rfl ?_
 rintro _ _ ⟨g1, rfl, rfl⟩
 refine G.stepD (OD.assign rfl rfl) rfl rfl rfl ?_
 refine G.nil (GE.then_ (GC.seq (GC.region ?_)))
 refine G.stepD (OD.assign rfl rfl) rfl rfl rfl ?_
 refine G.nil (GE.then_ (GC.seq (GC.block ?_)))
 refine GC.loop (ι := Nat) (fun m => [(1, vx), (2, vy), (3, .int .i64 (k)), (4, .pointer (some ⟨g1, 0, none⟩)), (9, .int .i64 ((m : Int)))]) (fun m => box g1 56 [.int .i64 (rr), vrd, vrs, .map (some grm)] :: own) (fun m => (m ≤ 20) ∧ (rch (fun (m : Nat) => fdB rr rm (lpF x (k * (m : Int)) y)) (40 - m) m = rch (fun (m : Nat) => fdB rr rm (lpF x (k * (m : Int)) y)) 40 0)) (fun m => 20 - m) 0 (⟨by omega, rfl⟩) ⟨rfl, rfl, rfl, rfl, rfl, trivial⟩ [] 0 rfl ?_
 rintro m ⟨hm, hr⟩
 have hkm := mul_abs (a := k) (b := (m : Int) + 1) (A := 1) (B := 21) (by omega) (by omega)
 have hll := lpF_len x (k * ((m : Int) + 1)) y
 refine GC.seq (GC.seq ?_)
 refine GC.at [] 0 (env' := [(1, vx), (2, vy), (3, .int .i64 (k)), (4, .pointer (some ⟨g1, 0, none⟩)), (9, .int .i64 ((m : Int)))]) ⟨rfl, rfl, rfl, rfl, rfl, trivial⟩ rfl ?_
 refine GC.par (its := [⟨10, [], [], [], [], fun _ => .agg #[.int .i64 (rr), vrd, vrs, .map (some grm)], fun _ => True, fun _ => []⟩,
     ⟨11, [], [], [], [], fun _ => vx, fun _ => True, fun _ => []⟩,
     ⟨12, [], [], [], [], fun _ => .int .i64 (k), fun _ => True, fun _ => []⟩,
     ⟨13, [], [], [], [], fun _ => .int .i64 ((m : Int)), fun _ => True, fun _ => []⟩,
     ⟨14, [(3, 13)], [], [], [], fun _ => .int .i64 ((m : Int) + 1), fun _ => True, fun _ => []⟩,
     ⟨15, [(2, 12), (4, 14)], [], [], [], fun _ => .int .i64 (k * ((m : Int) + 1)), fun _ => True, fun _ => []⟩,
     ⟨16, [], [], [], [], fun _ => vy, fun _ => True, fun _ => []⟩,
     ⟨17, [(1, 11), (5, 15), (6, 16)], [], [], [7], fun ds => ((ds.getD 0 []).getD 0 undef), fun ds => IsS ((ds.getD 0 []).getD 0 undef), fun ds => [ints 3 ((ds.getD 0 []).getD 0 undef) (lpF x (k * ((m : Int) + 1)) y)]⟩,
     ⟨18, [(0, 10), (7, 17)], [7], [], [7], fun _ => .bool (fdB rr rm (lpF x (k * ((m : Int) + 1)) y)), fun _ => True, fun _ => []⟩]) (by kernel_rfl) (by kernel_rfl) (POps.cons ?_ (POps.cons ?_ (POps.cons ?_ (POps.cons ?_ (POps.cons ?_ (POps.cons ?_ (POps.cons ?_ (POps.cons ?_ (POps.cons ?_ POps.nil))))))))) ?_
 intro θ R hd
 exact Opp.plain (OG.imp (OD.loadAgg rfl ti56 rfl (i := 0) rfl (us := [.int .i64 (rr), vrd, vrs, .map (some grm)]) rfl rfl) (by rintro _ _ ⟨rfl, rfl⟩; exact ⟨[], rfl, trivial, rfl⟩)) rfl
 intro θ R hd
 exact Opp.plain (OG.imp (OD.move rfl rfl) (by rintro _ _ ⟨rfl, rfl⟩; exact ⟨[], rfl, trivial, rfl⟩)) rfl
 intro θ R hd
 exact Opp.plain (OG.imp (OD.move rfl rfl) (by rintro _ _ ⟨rfl, rfl⟩; exact ⟨[], rfl, trivial, rfl⟩)) rfl
 intro θ R hd
 exact Opp.plain (OG.imp (OD.move rfl rfl) (by rintro _ _ ⟨rfl, rfl⟩; exact ⟨[], rfl, trivial, rfl⟩)) rfl
 intro θ R hd
 obtain ⟨h3d, _⟩ := hd
 exact Opp.plain (OG.imp (OD.addI rfl rfl rfl (by omega)) (by rintro _ _ ⟨rfl, rfl⟩; exact ⟨[], rfl, trivial, rfl⟩)) rfl
 intro θ R hd
 obtain ⟨h2d, h4d, _⟩ := hd
 exact Opp.plain (OG.imp (OD.mulI rfl rfl rfl (by omega)) (by rintro _ _ ⟨rfl, rfl⟩; exact ⟨[], rfl, trivial, rfl⟩)) rfl
 intro θ R hd
 exact Opp.plain (OG.imp (OD.move rfl rfl) (by rintro _ _ ⟨rfl, rfl⟩; exact ⟨[], rfl, trivial, rfl⟩)) rfl
 intro θ R hd
 obtain ⟨h1d, h5d, h6d, _⟩ := hd
 exact Opp.plain (OG.imp (OG.call [vx, .int .i64 (k * ((m : Int) + 1)), vy] ent62 rfl rfl rfl rfl (by exact (listPlus_w sx (Ent.drop 1 ex.app) sy (Ent.drop 1 ey.app) (hlx) (hle)))) (by rintro v2 _ ⟨_, rfl, hs3, rfl⟩; exact ⟨[v2], rfl, hs3, rfl⟩)) rfl
 intro θ R hd
 obtain ⟨h0d, h7d, _⟩ := hd
 exact Opp.plain (OG.imp (OG.call [.agg #[.int .i64 (rr), vrd, vrs, .map (some grm)], ((θ 7).getD 0 undef)] ent45 rfl rfl rfl rfl (by exact (has_w srd srs (Ent.drop 2 ers.app) (Ent.drop 2 hrm.app) h7d (Ent.ints (i := 0) rfl) (hrr) (lpF_all64 h64x) (by omega) ((Ent.drop 2 htab.app))))) (by rintro _ _ ⟨rfl, rfl⟩; exact ⟨[], rfl, trivial, rfl⟩)) rfl
 intro θ hall
 obtain ⟨_, _, _, _, _, _, _, h7a, _, _⟩ := hall
 refine G.at [] 0 (env' := [(1, vx), (2, vy), (3, .int .i64 (k)), (4, .pointer (some ⟨g1, 0, none⟩)), (9, .int .i64 ((m : Int))), (18, .bool (fdB rr rm (lpF x (k * ((m : Int) + 1)) y)))]) ⟨rfl, rfl, rfl, rfl, rfl, rfl, trivial⟩ (own' := ints 3 ((θ 7).getD 0 undef) (lpF x (k * ((m : Int) + 1)) y) :: box g1 56 [.int .i64 (rr), vrd, vrs, .map (some grm)] :: own) rfl ?_
 have hs4 : IsS ((θ 7).getD 0 undef) := h7a
 clear h7a
 generalize ((θ 7).getD 0 undef) = v5 at *
 show G _ _ _ [] _ _ _ _
 refine G.nil (GE.then_ ?_)
 refine GC.cond rfl (fun hc6 => ?_) (fun hc6 => ?_)
 have hm2 := rch_le (p := fun (m : Nat) => fdB rr rm (lpF x (k * (m : Int)) y)) hm hc6 hb
 refine GC.skip (GE.then_ (GC.block (GC.region ?_)))
 refine G.stepD (OD.move rfl rfl) rfl rfl rfl ?_
 refine G.stepD (OD.addI rfl rfl rfl (by omega)) rfl rfl rfl ?_
 refine G.stepD (OD.assign rfl rfl) rfl rfl rfl ?_
 refine G.nil (GE.blockN ?_)
 exact GE.again (m + 1) (⟨rch_le (p := fun (m : Nat) => fdB rr rm (lpF x (k * (m : Int)) y)) hm hc6 hb, (rch_step (p := fun (m : Nat) => fdB rr rm (lpF x (k * (m : Int)) y)) (by omega) hc6).trans hr⟩) (by first | omega | (dsimp only; omega)) ⟨rfl, rfl, rfl, rfl, rfl, trivial⟩ [1] 1 rfl
 refine GC.exit (GE.pass (GE.pass (GE.hit (GE.then_ (GC.seq (GC.region ?_))))))
 refine G.stepD (OD.move rfl rfl) rfl rfl rfl ?_
 refine G.stepD (OD.assign rfl rfl) rfl rfl rfl ?_
 refine G.nil (GE.then_ (GC.ret ?_))
 exact GE.body [] 2 (res1 rfl rfl) rfl (⟨congrArg (fun (a0 : Int) => (.int .i64 (a0) : Value)) ((by rw [← hr, rch_end (by omega) hc6] : ((m : Int) : Int) = (rch (fun (m : Nat) => fdB rr rm (lpF x (k * (m : Int)) y)) 40 0 : Nat))), rfl⟩)

set_option maxRecDepth 100000 in
theorem l5Run_w {W : World} {own : List Asn} {vL : Value} {uL : List Value} {L : List (List Int)} {vx : Value} {x : List Int} {vy : Value} {y : List Int}  (sL : IsS vL) (eL : Ent own fun w => Sl w vL L.length 1 uL) (mL : ∀ k, k < L.length → Ent own fun w => Ints w (uL.getD k undef) (L.getD k [])) (lL : uL.length = L.length) (aL : AllS uL)   (sx : IsS vx) (ex : Ent own fun w => Ints w vx x)   (sy : IsS vy) (ey : Ent own fun w => Ints w vy y)  (hll : L.length ≤ 1073741824) (hle : ∀ k, k < L.length → (L.getD k []).length ≤ 1073741824) (hlx : x.length ≤ 1073741824) (hlxy : y.length = x.length) (hbx : ∀ j, -10 ≤ x.getD j 0 ∧ x.getD j 0 ≤ 10) (hby : ∀ j, -10 ≤ y.getD j 0 ∧ y.getD j 0 ≤ 10) (hb : rtB L (lpF x ((21 : Nat) : Int) y) = false) : Spec Tryz.prog 52 [vL, vx, vy] W own (fun v ow => v = .int .i64 ((rch (fun (m : Nat) => rtB L (lpF x (m : Int) y)) 40 0 : Nat)) ∧ ow = own) := by
 refine Spec.enter Tryz.f52 _ Tryz.func52 rfl (n := 18) rfl rfl ?_
 refine GC.seq (GC.region ?_)
 refine G.stepD (OD.assign rfl rfl) rfl rfl rfl ?_
 refine G.nil (GE.then_ (GC.seq (GC.region ?_)))
 refine G.stepD (OD.assign rfl rfl) rfl rfl rfl ?_
 refine G.nil (GE.then_ (GC.seq (GC.block ?_)))
 refine GC.loop (ι := Nat) (fun m => [(0, vL), (1, vx), (2, vy), (7, .int .i64 ((m : Int)))]) (fun m => own) (fun m => (m ≤ 20) ∧ (rch (fun (m : Nat) => rtB L (lpF x (m : Int) y)) (40 - m) m = rch (fun (m : Nat) => rtB L (lpF x (m : Int) y)) 40 0)) (fun m => 20 - m) 0 (⟨by omega, rfl⟩) ⟨rfl, rfl, rfl, rfl, trivial⟩ [] 0 rfl ?_
 rintro m ⟨hm, hr⟩
 have hls := lp_small (m := m + 1) (by omega) hlxy hbx hby
 have hll2 := lpF_len x ((m : Int) + 1) y
 refine GC.seq (GC.seq (GC.region ?_))
 refine G.stepD (OD.move rfl rfl) rfl rfl rfl ?_
 refine G.stepD (OD.move rfl rfl) rfl rfl rfl ?_
 refine G.stepD (OD.move rfl rfl) rfl rfl rfl ?_
 refine G.stepD (OD.addI rfl rfl rfl (by omega)) rfl rfl rfl ?_
 refine G.stepD (OD.move rfl rfl) rfl rfl rfl ?_
 refine G.step (OG.call [vx, .int .i64 ((m : Int) + 1), vy] ent61 rfl rfl rfl rfl (by exact (l5Plus_w sx ex sy ey (hlx) (hlxy)))) rfl rfl rfl ?_
 rintro v1 _ ⟨_, rfl, hs2, rfl⟩
 refine G.step (OG.call [vL, v1] ent44 rfl rfl rfl rfl (by exact (l5IsRoot_w sL (Ent.drop 1 eL) (fun k hk => (Ent.drop 1 (mL k hk))) lL aL hs2 (Ent.ints (i := 0) rfl) (hll) (hle) (hls) (by omega)))) rfl rfl rfl ?_
 rintro _ _ ⟨rfl, rfl⟩
 refine G.nil (GE.then_ ?_)
 refine GC.cond rfl (fun hc3 => ?_) (fun hc3 => ?_)
 have hm2 := rch_le (p := fun (m : Nat) => rtB L (lpF x (m : Int) y)) hm hc3 hb
 refine GC.skip (GE.then_ (GC.block (GC.region ?_)))
 refine G.stepD (OD.move rfl rfl) rfl rfl rfl ?_
 refine G.stepD (OD.addI rfl rfl rfl (by omega)) rfl rfl rfl ?_
 refine G.stepD (OD.assign rfl rfl) rfl rfl rfl ?_
 refine G.nil (GE.blockN ?_)
 exact GE.again (m + 1) (⟨rch_le (p := fun (m : Nat) => rtB L (lpF x (m : Int) y)) hm hc3 hb, (rch_step (p := fun (m : Nat) => rtB L (lpF x (m : Int) y)) (by omega) hc3).trans hr⟩) (by first | omega | (dsimp only; omega)) ⟨rfl, rfl, rfl, rfl, trivial⟩ [] 1 rfl
 refine GC.exit (GE.pass (GE.pass (GE.hit (GE.then_ (GC.seq (GC.region ?_))))))
 refine G.stepD (OD.move rfl rfl) rfl rfl rfl ?_
 refine G.stepD (OD.assign rfl rfl) rfl rfl rfl ?_
 refine G.nil (GE.then_ (GC.ret ?_))
 exact GE.body [] 1 (res1 rfl rfl) rfl (⟨congrArg (fun (a0 : Int) => (.int .i64 (a0) : Value)) ((by rw [← hr, rch_end (by omega) hc3] : ((m : Int) : Int) = (rch (fun (m : Nat) => rtB L (lpF x (m : Int) y)) 40 0 : Nat))), rfl⟩)

set_option maxHeartbeats 4000000 in
set_option maxRecDepth 100000 in
theorem specRootString_w {W : World} {own : List Asn} {cr : Int} {vcd : Value} {cd : List Int} {vy : Value} {y : List Int} {vx : Value} {x : List Int}  (scd : IsS vcd) (ecd : Ent own fun w => Ints w vcd cd)   (sy : IsS vy) (ey : Ent own fun w => Ints w vy y)   (sx : IsS vx) (ex : Ent own fun w => Ints w vx x)  (hl0 : cd.length ≤ 1073741824) (hlx : x.length ≤ 1073741824) (hly : y.length ≤ 1073741824) (h64x : All64 x) (h64y : All64 y) : Spec Tryz.prog 27 [.agg #[.int .i64 (cr), vcd], vy, vx] W own (fun v ow => v = .tuple #[.int .i64 (rsA cr cd y x (-1)), .int .i64 (rsA cr cd y x 1)] ∧ ow = own) := by
 refine Spec.enter Tryz.f27 _ Tryz.func27 rfl (n := 41) rfl rfl ?_
 refine GC.seq (GC.region ?_)
 refine G.step (OG.box (cs := [.int .i64 (cr), vcd]) rfl rfl rfl) rfl rfl rfl ?_
 rintro _ _ ⟨g1, rfl, rfl⟩
 refine G.stepD (OD.assign rfl rfl) rfl rfl rfl ?_
 refine G.stepD (OD.assign rfl rfl) rfl rfl rfl ?_
 refine G.nil (GE.then_ (GC.seq (GC.seq (GC.region ?_))))
 refine G.stepD (OD.loadAgg rfl ti28 rfl (i := 0) rfl (us := [.int .i64 (cr), vcd]) rfl rfl) rfl rfl rfl ?_
 refine G.stepD (OD.move rfl rfl) rfl rfl rfl ?_
 refine G.step (OG.call [.agg #[.int .i64 (cr), vcd], vy] ent20 rfl rfl rfl rfl (by exact (specIsRoot_w scd (Ent.drop 1 ecd) sy (Ent.drop 1 ey) (hl0) (by omega) (h64y)))) rfl rfl rfl ?_
 rintro _ _ ⟨rfl, rfl⟩
 refine G.stepD (OD.not rfl rfl) rfl rfl rfl ?_
 refine G.stepD (OD.move rfl rfl) rfl rfl rfl ?_
 rcases Bool.eq_false_or_eq_true (!(isRt cr cd y)) with hg2 | hg2
 have hg2e := hg2
 refine G.at [] 0 (env' := [(0, .agg #[.int .i64 (cr), vcd]), (1, vy), (2, vx), (3, .pointer (some ⟨g1, 0, none⟩)), (6, .int .i64 (0)), (7, .int .i64 (0)), (9, .agg #[.int .i64 (cr), vcd]), (10, vy), (11, .bool (isRt cr cd y)), (12, .bool true), (13, .bool true)]) (⟨rfl, rfl, rfl, rfl, rfl, rfl, rfl, rfl, rfl, (congrArg (fun b => some (Value.bool b)) hg2e), (congrArg (fun b => some (Value.bool b)) hg2e), trivial⟩) rfl ?_
 replace hg2 := eq_false_of_not hg2
 refine G.skipG rfl rfl rfl rfl rfl rfl (G.skipG rfl rfl rfl rfl rfl rfl (G.skipG rfl rfl rfl rfl rfl rfl (G.skipG rfl rfl rfl rfl rfl rfl ?_)))
 refine G.stepD (OD.pickT rfl rfl rfl) rfl rfl rfl ?_
 refine G.stepD (OD.move rfl rfl) rfl rfl rfl ?_
 refine G.skipG rfl rfl rfl rfl rfl rfl (G.skipG rfl rfl rfl rfl rfl rfl (G.skipG rfl rfl rfl rfl rfl rfl ?_))
 refine G.stepD (OD.pickT rfl rfl rfl) rfl rfl rfl ?_
 refine G.stepD (OD.move rfl rfl) rfl rfl rfl ?_
 refine G.skipG rfl rfl rfl rfl rfl rfl (G.skipG rfl rfl rfl rfl rfl rfl (G.skipG rfl rfl rfl rfl rfl rfl (G.skipG rfl rfl rfl rfl rfl rfl ?_)))
 refine G.stepD (OD.pickT rfl rfl rfl) rfl rfl rfl ?_
 refine G.nil (GE.then_ (GC.condT rfl (GC.seq (GC.region ?_))))
 refine G.stepD (OD.assign rfl rfl) rfl rfl rfl ?_
 refine G.stepD (OD.assign rfl rfl) rfl rfl rfl ?_
 refine G.nil (GE.then_ (GC.ret (GE.passR ?_)))
 exact GE.body [] 1 (res2 rfl rfl rfl) rfl (⟨cong2 (fun (a0 : Int) (a1 : Int) => (.tuple #[.int .i64 (a0), .int .i64 (a1)] : Value)) ((by simp [rsA, rsOk, hg2] : (-1 : Int) = rsA cr cd y x (-1))) ((by simp [rsA, rsOk, hg2] : (-1 : Int) = rsA cr cd y x 1)), rfl⟩)
 have hg2e := hg2
 refine G.at [] 0 (env' := [(0, .agg #[.int .i64 (cr), vcd]), (1, vy), (2, vx), (3, .pointer (some ⟨g1, 0, none⟩)), (6, .int .i64 (0)), (7, .int .i64 (0)), (9, .agg #[.int .i64 (cr), vcd]), (10, vy), (11, .bool (isRt cr cd y)), (12, .bool false), (13, .bool false)]) (⟨rfl, rfl, rfl, rfl, rfl, rfl, rfl, rfl, rfl, (congrArg (fun b => some (Value.bool b)) hg2e), (congrArg (fun b => some (Value.bool b)) hg2e), trivial⟩) rfl ?_
 replace hg2 := eq_true_of_not hg2
 refine G.stepGD (OD.loadAgg rfl ti28 rfl (i := 0) rfl (us := [.int .i64 (cr), vcd]) rfl rfl) rfl rfl rfl rfl rfl ?_
 refine G.stepGD (OD.move rfl rfl) rfl rfl rfl rfl rfl ?_
 refine G.stepG (OG.call [.agg #[.int .i64 (cr), vcd], vx] ent20 rfl rfl rfl rfl (by exact (specIsRoot_w scd (Ent.drop 1 ecd) sx (Ent.drop 1 ex) (hl0) (by omega) (h64x)))) rfl rfl rfl rfl rfl ?_
 rintro _ _ ⟨rfl, rfl⟩
 refine G.stepGD (OD.not rfl rfl) rfl rfl rfl rfl rfl ?_
 refine G.stepD (OD.pickF rfl rfl rfl) rfl rfl rfl ?_
 refine G.stepD (OD.move rfl rfl) rfl rfl rfl ?_
 rcases Bool.eq_false_or_eq_true (!(isRt cr cd x)) with hg3 | hg3
 have hg3e := hg3
 refine G.at [] 0 (env' := [(0, .agg #[.int .i64 (cr), vcd]), (1, vy), (2, vx), (3, .pointer (some ⟨g1, 0, none⟩)), (6, .int .i64 (0)), (7, .int .i64 (0)), (9, .agg #[.int .i64 (cr), vcd]), (10, vy), (11, .bool (isRt cr cd y)), (12, .bool false), (13, .bool false), (14, .agg #[.int .i64 (cr), vcd]), (15, vx), (16, .bool (isRt cr cd x)), (17, .bool true), (18, .bool true), (19, .bool true)]) (⟨rfl, rfl, rfl, rfl, rfl, rfl, rfl, rfl, rfl, rfl, rfl, rfl, rfl, rfl, (congrArg (fun b => some (Value.bool b)) hg3e), (congrArg (fun b => some (Value.bool b)) hg3e), (congrArg (fun b => some (Value.bool b)) hg3e), trivial⟩) rfl ?_
 replace hg3 := eq_false_of_not hg3
 refine G.skipG rfl rfl rfl rfl rfl rfl (G.skipG rfl rfl rfl rfl rfl rfl (G.skipG rfl rfl rfl rfl rfl rfl ?_))
 refine G.stepD (OD.pickT rfl rfl rfl) rfl rfl rfl ?_
 refine G.stepD (OD.move rfl rfl) rfl rfl rfl ?_
 refine G.skipG rfl rfl rfl rfl rfl rfl (G.skipG rfl rfl rfl rfl rfl rfl (G.skipG rfl rfl rfl rfl rfl rfl (G.skipG rfl rfl rfl rfl rfl rfl ?_)))
 refine G.stepD (OD.pickT rfl rfl rfl) rfl rfl rfl ?_
 refine G.nil (GE.then_ (GC.condT rfl (GC.seq (GC.region ?_))))
 refine G.stepD (OD.assign rfl rfl) rfl rfl rfl ?_
 refine G.stepD (OD.assign rfl rfl) rfl rfl rfl ?_
 refine G.nil (GE.then_ (GC.ret (GE.passR ?_)))
 exact GE.body [] 1 (res2 rfl rfl rfl) rfl (⟨cong2 (fun (a0 : Int) (a1 : Int) => (.tuple #[.int .i64 (a0), .int .i64 (a1)] : Value)) ((by simp [rsA, rsOk, hg2, hg3, wt_minus (isRt_wt h64y hg2).2.1] : (-1 : Int) = rsA cr cd y x (-1))) ((by simp [rsA, rsOk, hg2, hg3, wt_minus (isRt_wt h64y hg2).2.1] : (-1 : Int) = rsA cr cd y x 1)), rfl⟩)
 have hg3e := hg3
 refine G.at [] 0 (env' := [(0, .agg #[.int .i64 (cr), vcd]), (1, vy), (2, vx), (3, .pointer (some ⟨g1, 0, none⟩)), (6, .int .i64 (0)), (7, .int .i64 (0)), (9, .agg #[.int .i64 (cr), vcd]), (10, vy), (11, .bool (isRt cr cd y)), (12, .bool false), (13, .bool false), (14, .agg #[.int .i64 (cr), vcd]), (15, vx), (16, .bool (isRt cr cd x)), (17, .bool false), (18, .bool false), (19, .bool false)]) (⟨rfl, rfl, rfl, rfl, rfl, rfl, rfl, rfl, rfl, rfl, rfl, rfl, rfl, rfl, (congrArg (fun b => some (Value.bool b)) hg3e), (congrArg (fun b => some (Value.bool b)) hg3e), (congrArg (fun b => some (Value.bool b)) hg3e), trivial⟩) rfl ?_
 replace hg3 := eq_true_of_not hg3
 refine G.stepGD (OD.move rfl rfl) rfl rfl rfl rfl rfl ?_
 refine G.stepGD (OD.move rfl rfl) rfl rfl rfl rfl rfl ?_
 refine G.stepG (OG.call [vx, vy] ent50 rfl rfl rfl rfl (by exact (l1Same_s sx (Ent.drop 1 ex) sy (Ent.drop 1 ey) (by omega)))) rfl rfl rfl rfl rfl ?_
 rintro _ _ ⟨rfl, rfl⟩
 refine G.stepD (OD.pickF rfl rfl rfl) rfl rfl rfl ?_
 refine G.stepD (OD.move rfl rfl) rfl rfl rfl ?_
 rcases Bool.eq_false_or_eq_true (samB x y) with hg4 | hg4
 have hg4e := hg4
 refine G.at [] 0 (env' := [(0, .agg #[.int .i64 (cr), vcd]), (1, vy), (2, vx), (3, .pointer (some ⟨g1, 0, none⟩)), (6, .int .i64 (0)), (7, .int .i64 (0)), (9, .agg #[.int .i64 (cr), vcd]), (10, vy), (11, .bool (isRt cr cd y)), (12, .bool false), (13, .bool false), (14, .agg #[.int .i64 (cr), vcd]), (15, vx), (16, .bool (isRt cr cd x)), (17, .bool false), (18, .bool false), (19, .bool false), (20, vx), (21, vy), (22, .bool true), (23, .bool true), (24, .bool true)]) (⟨rfl, rfl, rfl, rfl, rfl, rfl, rfl, rfl, rfl, rfl, rfl, rfl, rfl, rfl, rfl, rfl, rfl, rfl, rfl, (congrArg (fun b => some (Value.bool b)) hg4e), (congrArg (fun b => some (Value.bool b)) hg4e), (congrArg (fun b => some (Value.bool b)) hg4e), trivial⟩) rfl ?_
 refine G.skipG rfl rfl rfl rfl rfl rfl (G.skipG rfl rfl rfl rfl rfl rfl (G.skipG rfl rfl rfl rfl rfl rfl (G.skipG rfl rfl rfl rfl rfl rfl ?_)))
 refine G.stepD (OD.pickT rfl rfl rfl) rfl rfl rfl ?_
 refine G.nil (GE.then_ (GC.condT rfl (GC.seq (GC.region ?_))))
 refine G.stepD (OD.assign rfl rfl) rfl rfl rfl ?_
 refine G.stepD (OD.assign rfl rfl) rfl rfl rfl ?_
 refine G.nil (GE.then_ (GC.ret (GE.passR ?_)))
 exact GE.body [] 1 (res2 rfl rfl rfl) rfl (⟨cong2 (fun (a0 : Int) (a1 : Int) => (.tuple #[.int .i64 (a0), .int .i64 (a1)] : Value)) ((by simp [rsA, rsOk, hg2, hg3, hg4e, wt_minus (isRt_wt h64y hg2).2.1] : (-1 : Int) = rsA cr cd y x (-1))) ((by simp [rsA, rsOk, hg2, hg3, hg4e, wt_minus (isRt_wt h64y hg2).2.1] : (-1 : Int) = rsA cr cd y x 1)), rfl⟩)
 have hg4e := hg4
 refine G.at [] 0 (env' := [(0, .agg #[.int .i64 (cr), vcd]), (1, vy), (2, vx), (3, .pointer (some ⟨g1, 0, none⟩)), (6, .int .i64 (0)), (7, .int .i64 (0)), (9, .agg #[.int .i64 (cr), vcd]), (10, vy), (11, .bool (isRt cr cd y)), (12, .bool false), (13, .bool false), (14, .agg #[.int .i64 (cr), vcd]), (15, vx), (16, .bool (isRt cr cd x)), (17, .bool false), (18, .bool false), (19, .bool false), (20, vx), (21, vy), (22, .bool false), (23, .bool false), (24, .bool false)]) (⟨rfl, rfl, rfl, rfl, rfl, rfl, rfl, rfl, rfl, rfl, rfl, rfl, rfl, rfl, rfl, rfl, rfl, rfl, rfl, (congrArg (fun b => some (Value.bool b)) hg4e), (congrArg (fun b => some (Value.bool b)) hg4e), (congrArg (fun b => some (Value.bool b)) hg4e), trivial⟩) rfl ?_
 refine G.stepGD (OD.move rfl rfl) rfl rfl rfl rfl rfl ?_
 refine G.stepGD (OD.move rfl rfl) rfl rfl rfl rfl rfl ?_
 refine G.stepG (OG.call [vy] ent51 rfl rfl rfl rfl (by exact (l5Minus_w sy (Ent.drop 1 ey) (wtOk_ent (isRt_wt h64y hg2).2.1) (by omega)))) rfl rfl rfl rfl rfl ?_
 rintro v5 _ ⟨_, rfl, hs6, rfl⟩
 refine G.stepG (OG.call [vx, v5] ent50 rfl rfl rfl rfl (by exact (l1Same_s sx (Ent.drop 2 ex) hs6 (Ent.ints (i := 0) rfl) (by omega)))) rfl rfl rfl rfl rfl ?_
 rintro _ _ ⟨rfl, rfl⟩
 refine G.stepD (OD.pickF rfl rfl rfl) rfl rfl rfl ?_
 refine G.nil (GE.then_ ?_)
 refine GC.cond rfl (fun hc7 => ?_) (fun hc7 => ?_)
 refine GC.seq (GC.region ?_)
 refine G.stepD (OD.assign rfl rfl) rfl rfl rfl ?_
 refine G.stepD (OD.assign rfl rfl) rfl rfl rfl ?_
 refine G.nil (GE.then_ (GC.ret (GE.passR ?_)))
 exact GE.body [] 2 (res2 rfl rfl rfl) rfl (⟨cong2 (fun (a0 : Int) (a1 : Int) => (.tuple #[.int .i64 (a0), .int .i64 (a1)] : Value)) ((by simp [rsA, rsOk, hg2, hg3, hg4e, hc7, wt_minus (isRt_wt h64y hg2).2.1] : (-1 : Int) = rsA cr cd y x (-1))) ((by simp [rsA, rsOk, hg2, hg3, hg4e, hc7, wt_minus (isRt_wt h64y hg2).2.1] : (-1 : Int) = rsA cr cd y x 1)), rfl⟩)
 have hS := (isRt_wt h64y hg2).1
 have hwy := (isRt_wt h64y hg2).2.1
 have hry := (isRt_wt h64y hg2).2.2
 have hwx := (isRt_wt h64x hg3).2.1
 have hrx := (isRt_wt h64x hg3).2.2
 obtain ⟨hyn, hy10⟩ := (rtOk hS).ent2 hry
 obtain ⟨hxn, hx10⟩ := (rtOk hS).ent2 hrx
 have hxy : y.length = x.length := by omega
 have hmn := mnF_len y
 refine GC.skip (GE.then_ (GC.seq (GC.region ?_)))
 refine G.stepD (OD.loadAgg rfl ti28 rfl (i := 1) rfl (us := [.int .i64 (cr), vcd]) rfl rfl) rfl rfl rfl ?_
 refine G.step (OG.call [.agg #[.int .i64 (cr), vcd]] ent37 rfl rfl rfl rfl (by exact (l5Roots_w scd (Ent.drop 2 ecd) ((tyS_ok hS).1) ((tyS_ok hS).2) (hS)))) rfl rfl rfl ?_
 rintro v8 _ ⟨_, u9, rfl, hs10, hs11, hs12, rfl⟩
 refine G.stepD (OD.assign rfl rfl) rfl rfl rfl ?_
 refine G.nil (GE.then_ (GC.seq (GC.region ?_)))
 refine G.stepD (OD.move rfl rfl) rfl rfl rfl ?_
 refine G.stepD (OD.move rfl rfl) rfl rfl rfl ?_
 refine G.stepD (OD.move rfl rfl) rfl rfl rfl ?_
 refine G.step (OG.call [vy] ent51 rfl rfl rfl rfl (by exact (l5Minus_w sy (Ent.drop 4 ey) (wtOk_ent (isRt_wt h64y hg2).2.1) (by omega)))) rfl rfl rfl ?_
 rintro v13 _ ⟨_, rfl, hs14, rfl⟩
 refine G.step (OG.call [v8, vx, v13] ent52 rfl rfl rfl rfl (by exact (l5Run_w hs10 (Ent.len (Ent.lst (i := 1) rfl) (by omega)) (fun k hk => Ent.manyInts (i := 2) (k := k) rfl ⟨by omega, hk⟩) (by omega) hs11 sx (Ent.drop 5 ex) hs14 (Ent.ints (i := 0) rfl) (by have h1 := (rtOk hS).slen; have h2 := (rtOk hS).few; omega) (fun k hk => by have h1 := ((rtOk hS).sget hk).1; have h2 := (rtOk hS).rk; omega) (by omega) (by omega) (hx10) (mn_ten hy10) (rs_minus21 hS hrx hry h64x hxy)))) rfl rfl rfl ?_
 rintro _ _ ⟨rfl, rfl⟩
 refine G.stepD (OD.move rfl rfl) rfl rfl rfl ?_
 refine G.stepD (OD.move rfl rfl) rfl rfl rfl ?_
 refine G.stepD (OD.move rfl rfl) rfl rfl rfl ?_
 refine G.step (OG.call [v8, vx, vy] ent52 rfl rfl rfl rfl (by exact (l5Run_w hs10 (Ent.len (Ent.lst (i := 1) rfl) (by omega)) (fun k hk => Ent.manyInts (i := 2) (k := k) rfl ⟨by omega, hk⟩) (by omega) hs11 sx (Ent.drop 5 ex) sy (Ent.drop 5 ey) (by have h1 := (rtOk hS).slen; have h2 := (rtOk hS).few; omega) (fun k hk => by have h1 := ((rtOk hS).sget hk).1; have h2 := (rtOk hS).rk; omega) (by omega) (hxy) (hx10) (hy10) (rs_plus21 hS hrx hry h64x)))) rfl rfl rfl ?_
 rintro _ _ ⟨rfl, rfl⟩
 refine G.stepD (OD.assign rfl rfl) rfl rfl rfl ?_
 refine G.stepD (OD.assign rfl rfl) rfl rfl rfl ?_
 refine G.nil (GE.then_ (GC.ret ?_))
 exact GE.body [] 5 (res2 rfl rfl rfl) rfl (⟨cong2 (fun (a0 : Int) (a1 : Int) => (.tuple #[.int .i64 (a0), .int .i64 (a1)] : Value)) ((by rw [rsA, if_pos (show rsOk cr cd y x = true by simp [rsOk, hg2, hg3, hg4e, hc7, wt_minus (isRt_wt h64y hg2).2.1]), rsN, rs_minus hS h64x hxy] : ((rch (fun (m : Nat) => rtB (rSt cr cd) (lpF x (m : Int) (mnF y))) 40 0 : Nat) : Int) = rsA cr cd y x (-1))) ((by rw [rsA, if_pos (show rsOk cr cd y x = true by simp [rsOk, hg2, hg3, hg4e, hc7, wt_minus (isRt_wt h64y hg2).2.1]), rsN, rs_plus hS h64x] : ((rch (fun (m : Nat) => rtB (rSt cr cd) (lpF x (m : Int) y)) 40 0 : Nat) : Int) = rsA cr cd y x 1)), rfl⟩)

set_option maxHeartbeats 4000000 in
set_option maxRecDepth 100000 in
theorem rootString_w {W : World} {own : List Asn} {cr : Int} {vcd : Value} {cd : List Int} {vy : Value} {y : List Int} {vx : Value} {x : List Int}  (scd : IsS vcd) (ecd : Ent own fun w => Ints w vcd cd)   (sy : IsS vy) (ey : Ent own fun w => Ints w vy y)   (sx : IsS vx) (ex : Ent own fun w => Ints w vx x)  (hl0 : cd.length ≤ 1073741824) (hlx : x.length ≤ 1073741824) (hly : y.length ≤ 1073741824) (h64x : All64 x) (h64y : All64 y) (hg : Ent own fun w => ∃ m, w.cell? ⟨Tryz.l146_ren.g 1, 0, none⟩ = some (.int .i64 m)) (htab : Ent own Pow10) : Spec Tryz.prog 28 [.agg #[.int .i64 (cr), vcd], vy, vx] W own (fun v ow => v = .tuple #[.int .i64 (rsA cr cd y x (-1)), .int .i64 (rsA cr cd y x 1)] ∧ ow = own) := by
 refine Spec.enter Tryz.f28 _ Tryz.func28 rfl (n := 43) rfl rfl ?_
 refine GC.seq (GC.region ?_)
 refine G.step (OG.box (cs := [.int .i64 (cr), vcd]) rfl rfl rfl) rfl rfl rfl ?_
 rintro _ _ ⟨g1, rfl, rfl⟩
 refine G.stepD (OD.assign rfl rfl) rfl rfl rfl ?_
 refine G.stepD (OD.assign rfl rfl) rfl rfl rfl ?_
 refine G.nil (GE.then_ (GC.seq (GC.seq (GC.region ?_))))
 refine G.stepD (OD.loadAgg rfl ti28 rfl (i := 0) rfl (us := [.int .i64 (cr), vcd]) rfl rfl) rfl rfl rfl ?_
 refine G.step (OG.call [.agg #[.int .i64 (cr), vcd]] ent38 rfl rfl rfl rfl (by exact (isCartan_w scd (Ent.drop 1 ecd) (hl0) ((Ent.drop 1 hg))))) rfl rfl rfl ?_
 rintro _ _ ⟨rfl, rfl⟩
 refine G.stepD (OD.not rfl rfl) rfl rfl rfl ?_
 refine G.nil (GE.then_ ?_)
 refine GC.cond rfl (fun hc2 => ?_) (fun hc2 => ?_)
 replace hc2 := eq_false_of_not hc2
 refine GC.seq (GC.region ?_)
 refine G.stepD (OD.assign rfl rfl) rfl rfl rfl ?_
 refine G.stepD (OD.assign rfl rfl) rfl rfl rfl ?_
 refine G.nil (GE.then_ (GC.ret (GE.passR ?_)))
 exact GE.body [] 1 (res2 rfl rfl rfl) rfl (⟨cong2 (fun (a0 : Int) (a1 : Int) => (.tuple #[.int .i64 (a0), .int .i64 (a1)] : Value)) ((by simp [rsA, rsOk, isRt, hc2] : (-1 : Int) = rsA cr cd y x (-1))) ((by simp [rsA, rsOk, isRt, hc2] : (-1 : Int) = rsA cr cd y x 1)), rfl⟩)
 replace hc2 := eq_true_of_not hc2
 have hS := hc2
 have hcr4 := (tyS_ok hS).1
 refine GC.skip (GE.then_ (GC.seq (GC.region ?_)))
 refine G.stepD (OD.loadAgg rfl ti28 rfl (i := 0) rfl (us := [.int .i64 (cr), vcd]) rfl rfl) rfl rfl rfl ?_
 refine G.step (OG.call [.agg #[.int .i64 (cr), vcd]] ent41 rfl rfl rfl rfl (by exact (newRoots_w scd (Ent.drop 1 ecd) ((tyS_ok hS).1) ((tyS_ok hS).2) (hS) ((Ent.drop 1 htab))))) rfl rfl rfl ?_
 rintro _ _ ⟨v3, u4, g8, rfl, hs5, hs6, hs7, rfl⟩
 refine G.step (OG.alloc rfl ti56 (zs := [.int .i64 (0), .slice none 0 0, .slice none 0 0, .map none]) rfl) rfl rfl rfl ?_
 rintro _ _ ⟨g9, rfl, rfl⟩
 refine G.stepD0 (OD.store rfl ti56 rfl rfl (us := [.int .i64 (cr), vcd, v3, .map (some g8)]) rfl rfl (allC rfl (allC (IsS.one scd) (allC (IsS.one hs5) (allC rfl rfl)))) (i := 0) rfl rfl) rfl rfl ?_
 refine G.nil (GE.then_ (GC.seq (GC.seq (GC.region ?_))))
 refine G.stepD (OD.loadAgg rfl ti56 rfl (i := 0) rfl (us := [.int .i64 (cr), vcd, v3, .map (some g8)]) rfl rfl) rfl rfl rfl ?_
 refine G.stepD (OD.move rfl rfl) rfl rfl rfl ?_
 refine G.step (OG.call [.agg #[.int .i64 (cr), vcd, v3, .map (some g8)], vy] ent45 rfl rfl rfl rfl (by exact (has_w scd hs5 (Ent.lst (i := 1) rfl) (Ent.map (kE := keyL) (vE := valI) (l := rKvs cr cd) (i := 3) rfl) sy (Ent.drop 5 ey) (by omega) (h64y) (by omega) ((Ent.drop 5 htab))))) rfl rfl rfl ?_
 rintro _ _ ⟨rfl, rfl⟩
 refine G.stepD (OD.not rfl rfl) rfl rfl rfl ?_
 refine G.stepD (OD.move rfl rfl) rfl rfl rfl ?_
 rcases Bool.eq_false_or_eq_true (!(fdB cr (rKvs cr cd) y)) with hg10 | hg10
 have hg10e := hg10
 refine G.at [] 0 (env' := [(0, .agg #[.int .i64 (cr), vcd]), (1, vy), (2, vx), (3, .pointer (some ⟨g1, 0, none⟩)), (6, .int .i64 (0)), (7, .int .i64 (0)), (9, .agg #[.int .i64 (cr), vcd]), (10, .bool ((tyS cr cd).isSome)), (11, .bool (!((tyS cr cd).isSome))), (12, .agg #[.int .i64 (cr), vcd]), (13, .agg #[.int .i64 (cr), vcd, v3, .map (some g8)]), (8, .pointer (some ⟨g9, 0, none⟩)), (14, .agg #[.int .i64 (cr), vcd, v3, .map (some g8)]), (15, vy), (16, .bool (fdB cr (rKvs cr cd) y)), (17, .bool true), (18, .bool true)]) (⟨rfl, rfl, rfl, rfl, rfl, rfl, rfl, rfl, rfl, rfl, rfl, rfl, rfl, rfl, rfl, (congrArg (fun b => some (Value.bool b)) hg10e), (congrArg (fun b => some (Value.bool b)) hg10e), trivial⟩) rfl ?_
 replace hg10 := eq_false_of_not hg10
 refine G.skipG rfl rfl rfl rfl rfl rfl (G.skipG rfl rfl rfl rfl rfl rfl (G.skipG rfl rfl rfl rfl rfl rfl (G.skipG rfl rfl rfl rfl rfl rfl ?_)))
 refine G.stepD (OD.pickT rfl rfl rfl) rfl rfl rfl ?_
 refine G.stepD (OD.move rfl rfl) rfl rfl rfl ?_
 refine G.skipG rfl rfl rfl rfl rfl rfl (G.skipG rfl rfl rfl rfl rfl rfl (G.skipG rfl rfl rfl rfl rfl rfl ?_))
 refine G.stepD (OD.pickT rfl rfl rfl) rfl rfl rfl ?_
 refine G.stepD (OD.move rfl rfl) rfl rfl rfl ?_
 refine G.skipG rfl rfl rfl rfl rfl rfl (G.skipG rfl rfl rfl rfl rfl rfl (G.skipG rfl rfl rfl rfl rfl rfl (G.skipG rfl rfl rfl rfl rfl rfl ?_)))
 refine G.stepD (OD.pickT rfl rfl rfl) rfl rfl rfl ?_
 refine G.nil (GE.then_ (GC.condT rfl (GC.seq (GC.region ?_))))
 refine G.stepD (OD.assign rfl rfl) rfl rfl rfl ?_
 refine G.stepD (OD.assign rfl rfl) rfl rfl rfl ?_
 refine G.nil (GE.then_ (GC.ret (GE.passR ?_)))
 exact GE.body [] 5 (res2 rfl rfl rfl) rfl (⟨cong2 (fun (a0 : Int) (a1 : Int) => (.tuple #[.int .i64 (a0), .int .i64 (a1)] : Value)) ((by simp [rsA, rsOk, isRt, hS, hg10] : (-1 : Int) = rsA cr cd y x (-1))) ((by simp [rsA, rsOk, isRt, hS, hg10] : (-1 : Int) = rsA cr cd y x 1)), rfl⟩)
 have hg10e := hg10
 refine G.at [] 0 (env' := [(0, .agg #[.int .i64 (cr), vcd]), (1, vy), (2, vx), (3, .pointer (some ⟨g1, 0, none⟩)), (6, .int .i64 (0)), (7, .int .i64 (0)), (9, .agg #[.int .i64 (cr), vcd]), (10, .bool ((tyS cr cd).isSome)), (11, .bool (!((tyS cr cd).isSome))), (12, .agg #[.int .i64 (cr), vcd]), (13, .agg #[.int .i64 (cr), vcd, v3, .map (some g8)]), (8, .pointer (some ⟨g9, 0, none⟩)), (14, .agg #[.int .i64 (cr), vcd, v3, .map (some g8)]), (15, vy), (16, .bool (fdB cr (rKvs cr cd) y)), (17, .bool false), (18, .bool false)]) (⟨rfl, rfl, rfl, rfl, rfl, rfl, rfl, rfl, rfl, rfl, rfl, rfl, rfl, rfl, rfl, (congrArg (fun b => some (Value.bool b)) hg10e), (congrArg (fun b => some (Value.bool b)) hg10e), trivial⟩) rfl ?_
 replace hg10 := eq_true_of_not hg10
 refine G.stepGD (OD.loadAgg rfl ti56 rfl (i := 0) rfl (us := [.int .i64 (cr), vcd, v3, .map (some g8)]) rfl rfl) rfl rfl rfl rfl rfl ?_
 refine G.stepGD (OD.move rfl rfl) rfl rfl rfl rfl rfl ?_
 refine G.stepG (OG.call [.agg #[.int .i64 (cr), vcd, v3, .map (some g8)], vx] ent45 rfl rfl rfl rfl (by exact (has_w scd hs5 (Ent.lst (i := 1) rfl) (Ent.map (kE := keyL) (vE := valI) (l := rKvs cr cd) (i := 3) rfl) sx (Ent.drop 5 ex) (by omega) (h64x) (by omega) ((Ent.drop 5 htab))))) rfl rfl rfl rfl rfl ?_
 rintro _ _ ⟨rfl, rfl⟩
 refine G.stepGD (OD.not rfl rfl) rfl rfl rfl rfl rfl ?_
 refine G.stepD (OD.pickF rfl rfl rfl) rfl rfl rfl ?_
 refine G.stepD (OD.move rfl rfl) rfl rfl rfl ?_
 rcases Bool.eq_false_or_eq_true (!(fdB cr (rKvs cr cd) x)) with hg11 | hg11
 have hg11e := hg11
 refine G.at [] 0 (env' := [(0, .agg #[.int .i64 (cr), vcd]), (1, vy), (2, vx), (3, .pointer (some ⟨g1, 0, none⟩)), (6, .int .i64 (0)), (7, .int .i64 (0)), (9, .agg #[.int .i64 (cr), vcd]), (10, .bool ((tyS cr cd).isSome)), (11, .bool (!((tyS cr cd).isSome))), (12, .agg #[.int .i64 (cr), vcd]), (13, .agg #[.int .i64 (cr), vcd, v3, .map (some g8)]), (8, .pointer (some ⟨g9, 0, none⟩)), (14, .agg #[.int .i64 (cr), vcd, v3, .map (some g8)]), (15, vy), (16, .bool (fdB cr (rKvs cr cd) y)), (17, .bool false), (18, .bool false), (19, .agg #[.int .i64 (cr), vcd, v3, .map (some g8)]), (20, vx), (21, .bool (fdB cr (rKvs cr cd) x)), (22, .bool true), (23, .bool true), (24, .bool true)]) (⟨rfl, rfl, rfl, rfl, rfl, rfl, rfl, rfl, rfl, rfl, rfl, rfl, rfl, rfl, rfl, rfl, rfl, rfl, rfl, rfl, (congrArg (fun b => some (Value.bool b)) hg11e), (congrArg (fun b => some (Value.bool b)) hg11e), (congrArg (fun b => some (Value.bool b)) hg11e), trivial⟩) rfl ?_
 replace hg11 := eq_false_of_not hg11
 refine G.skipG rfl rfl rfl rfl rfl rfl (G.skipG rfl rfl rfl rfl rfl rfl (G.skipG rfl rfl rfl rfl rfl rfl ?_))
 refine G.stepD (OD.pickT rfl rfl rfl) rfl rfl rfl ?_
 refine G.stepD (OD.move rfl rfl) rfl rfl rfl ?_
 refine G.skipG rfl rfl rfl rfl rfl rfl (G.skipG rfl rfl rfl rfl rfl rfl (G.skipG rfl rfl rfl rfl rfl rfl (G.skipG rfl rfl rfl rfl rfl rfl ?_)))
 refine G.stepD (OD.pickT rfl rfl rfl) rfl rfl rfl ?_
 refine G.nil (GE.then_ (GC.condT rfl (GC.seq (GC.region ?_))))
 refine G.stepD (OD.assign rfl rfl) rfl rfl rfl ?_
 refine G.stepD (OD.assign rfl rfl) rfl rfl rfl ?_
 refine G.nil (GE.then_ (GC.ret (GE.passR ?_)))
 exact GE.body [] 5 (res2 rfl rfl rfl) rfl (⟨cong2 (fun (a0 : Int) (a1 : Int) => (.tuple #[.int .i64 (a0), .int .i64 (a1)] : Value)) ((by simp [rsA, rsOk, isRt, hS, hg10, hg11] : (-1 : Int) = rsA cr cd y x (-1))) ((by simp [rsA, rsOk, isRt, hS, hg10, hg11] : (-1 : Int) = rsA cr cd y x 1)), rfl⟩)
 have hg11e := hg11
 refine G.at [] 0 (env' := [(0, .agg #[.int .i64 (cr), vcd]), (1, vy), (2, vx), (3, .pointer (some ⟨g1, 0, none⟩)), (6, .int .i64 (0)), (7, .int .i64 (0)), (9, .agg #[.int .i64 (cr), vcd]), (10, .bool ((tyS cr cd).isSome)), (11, .bool (!((tyS cr cd).isSome))), (12, .agg #[.int .i64 (cr), vcd]), (13, .agg #[.int .i64 (cr), vcd, v3, .map (some g8)]), (8, .pointer (some ⟨g9, 0, none⟩)), (14, .agg #[.int .i64 (cr), vcd, v3, .map (some g8)]), (15, vy), (16, .bool (fdB cr (rKvs cr cd) y)), (17, .bool false), (18, .bool false), (19, .agg #[.int .i64 (cr), vcd, v3, .map (some g8)]), (20, vx), (21, .bool (fdB cr (rKvs cr cd) x)), (22, .bool false), (23, .bool false), (24, .bool false)]) (⟨rfl, rfl, rfl, rfl, rfl, rfl, rfl, rfl, rfl, rfl, rfl, rfl, rfl, rfl, rfl, rfl, rfl, rfl, rfl, rfl, (congrArg (fun b => some (Value.bool b)) hg11e), (congrArg (fun b => some (Value.bool b)) hg11e), (congrArg (fun b => some (Value.bool b)) hg11e), trivial⟩) rfl ?_
 replace hg11 := eq_true_of_not hg11
 refine G.stepGD (OD.move rfl rfl) rfl rfl rfl rfl rfl ?_
 refine G.stepGD (OD.move rfl rfl) rfl rfl rfl rfl rfl ?_
 refine G.stepG (OG.call [vx, vy] ent53 rfl rfl rfl rfl (by exact (slicesEqual_s sx (Ent.drop 5 ex) sy (Ent.drop 5 ey) (by omega)))) rfl rfl rfl rfl rfl ?_
 rintro _ _ ⟨rfl, rfl⟩
 refine G.stepD (OD.pickF rfl rfl rfl) rfl rfl rfl ?_
 refine G.stepD (OD.move rfl rfl) rfl rfl rfl ?_
 rcases Bool.eq_false_or_eq_true (samB x y) with hg12 | hg12
 have hg12e := hg12
 refine G.at [] 0 (env' := [(0, .agg #[.int .i64 (cr), vcd]), (1, vy), (2, vx), (3, .pointer (some ⟨g1, 0, none⟩)), (6, .int .i64 (0)), (7, .int .i64 (0)), (9, .agg #[.int .i64 (cr), vcd]), (10, .bool ((tyS cr cd).isSome)), (11, .bool (!((tyS cr cd).isSome))), (12, .agg #[.int .i64 (cr), vcd]), (13, .agg #[.int .i64 (cr), vcd, v3, .map (some g8)]), (8, .pointer (some ⟨g9, 0, none⟩)), (14, .agg #[.int .i64 (cr), vcd, v3, .map (some g8)]), (15, vy), (16, .bool (fdB cr (rKvs cr cd) y)), (17, .bool false), (18, .bool false), (19, .agg #[.int .i64 (cr), vcd, v3, .map (some g8)]), (20, vx), (21, .bool (fdB cr (rKvs cr cd) x)), (22, .bool false), (23, .bool false), (24, .bool false), (25, vx), (26, vy), (27, .bool true), (28, .bool true), (29, .bool true)]) (⟨rfl, rfl, rfl, rfl, rfl, rfl, rfl, rfl, rfl, rfl, rfl, rfl, rfl, rfl, rfl, rfl, rfl, rfl, rfl, rfl, rfl, rfl, rfl, rfl, rfl, (congrArg (fun b => some (Value.bool b)) hg12e), (congrArg (fun b => some (Value.bool b)) hg12e), (congrArg (fun b => some (Value.bool b)) hg12e), trivial⟩) rfl ?_
 refine G.skipG rfl rfl rfl rfl rfl rfl (G.skipG rfl rfl rfl rfl rfl rfl (G.skipG rfl rfl rfl rfl rfl rfl (G.skipG rfl rfl rfl rfl rfl rfl ?_)))
 refine G.stepD (OD.pickT rfl rfl rfl) rfl rfl rfl ?_
 refine G.nil (GE.then_ (GC.condT rfl (GC.seq (GC.region ?_))))
 refine G.stepD (OD.assign rfl rfl) rfl rfl rfl ?_
 refine G.stepD (OD.assign rfl rfl) rfl rfl rfl ?_
 refine G.nil (GE.then_ (GC.ret (GE.passR ?_)))
 exact GE.body [] 5 (res2 rfl rfl rfl) rfl (⟨cong2 (fun (a0 : Int) (a1 : Int) => (.tuple #[.int .i64 (a0), .int .i64 (a1)] : Value)) ((by simp [rsA, rsOk, isRt, hS, hg10, hg11, hg12e] : (-1 : Int) = rsA cr cd y x (-1))) ((by simp [rsA, rsOk, isRt, hS, hg10, hg11, hg12e] : (-1 : Int) = rsA cr cd y x 1)), rfl⟩)
 have hg12e := hg12
 refine G.at [] 0 (env' := [(0, .agg #[.int .i64 (cr), vcd]), (1, vy), (2, vx), (3, .pointer (some ⟨g1, 0, none⟩)), (6, .int .i64 (0)), (7, .int .i64 (0)), (9, .agg #[.int .i64 (cr), vcd]), (10, .bool ((tyS cr cd).isSome)), (11, .bool (!((tyS cr cd).isSome))), (12, .agg #[.int .i64 (cr), vcd]), (13, .agg #[.int .i64 (cr), vcd, v3, .map (some g8)]), (8, .pointer (some ⟨g9, 0, none⟩)), (14, .agg #[.int .i64 (cr), vcd, v3, .map (some g8)]), (15, vy), (16, .bool (fdB cr (rKvs cr cd) y)), (17, .bool false), (18, .bool false), (19, .agg #[.int .i64 (cr), vcd, v3, .map (some g8)]), (20, vx), (21, .bool (fdB cr (rKvs cr cd) x)), (22, .bool false), (23, .bool false), (24, .bool false), (25, vx), (26, vy), (27, .bool false), (28, .bool false), (29, .bool false)]) (⟨rfl, rfl, rfl, rfl, rfl, rfl, rfl, rfl, rfl, rfl, rfl, rfl, rfl, rfl, rfl, rfl, rfl, rfl, rfl, rfl, rfl, rfl, rfl, rfl, rfl, (congrArg (fun b => some (Value.bool b)) hg12e), (congrArg (fun b => some (Value.bool b)) hg12e), (congrArg (fun b => some (Value.bool b)) hg12e), trivial⟩) rfl ?_
 refine G.stepGD (OD.move rfl rfl) rfl rfl rfl rfl rfl ?_
 refine G.stepGD (OD.move rfl rfl) rfl rfl rfl rfl rfl ?_
 refine G.stepG (OG.call [.int .i64 (-1), vy] ent54 rfl rfl rfl rfl (by exact (listTimes_w sy (Ent.drop 5 ey) (by omega)))) rfl rfl rfl rfl rfl ?_
 rintro v13 _ ⟨_, rfl, hs14, rfl⟩
 refine G.stepG (OG.call [vx, v13] ent53 rfl rfl rfl rfl (by exact (slicesEqual_s sx (Ent.drop 6 ex) hs14 (Ent.ints (i := 0) rfl) (by omega)))) rfl rfl rfl rfl rfl ?_
 rintro _ _ ⟨rfl, rfl⟩
 refine G.stepD (OD.pickF rfl rfl rfl) rfl rfl rfl ?_
 refine G.nil (GE.then_ ?_)
 refine GC.cond rfl (fun hc15 => ?_) (fun hc15 => ?_)
 refine GC.seq (GC.region ?_)
 refine G.stepD (OD.assign rfl rfl) rfl rfl rfl ?_
 refine G.stepD (OD.assign rfl rfl) rfl rfl rfl ?_
 refine G.nil (GE.then_ (GC.ret (GE.passR ?_)))
 exact GE.body [] 6 (res2 rfl rfl rfl) rfl (⟨cong2 (fun (a0 : Int) (a1 : Int) => (.tuple #[.int .i64 (a0), .int .i64 (a1)] : Value)) ((by have hq : samB x (ngF y) = true := hc15; simp [rsA, rsOk, isRt, hS, hg10, hg11, hg12e, hq] : (-1 : Int) = rsA cr cd y x (-1))) ((by have hq : samB x (ngF y) = true := hc15; simp [rsA, rsOk, isRt, hS, hg10, hg11, hg12e, hq] : (-1 : Int) = rsA cr cd y x 1)), rfl⟩)
 have hiy : isRt cr cd y = true := by rw [isRt, hS, hg10]; rfl
 have hry := (isRt_wt h64y hiy).2.2
 obtain ⟨hyn, hy10⟩ := (rtOk hS).ent2 hry
 have hix : isRt cr cd x = true := by rw [isRt, hS, hg11]; rfl
 have hrx := (isRt_wt h64x hix).2.2
 obtain ⟨hxn, hx10⟩ := (rtOk hS).ent2 hrx
 refine GC.skip (GE.then_ (GC.seq ?_))
 refine GC.at [] 0 (env' := [(1, vy), (2, vx), (6, .int .i64 (0)), (7, .int .i64 (0)), (8, .pointer (some ⟨g9, 0, none⟩))]) ⟨rfl, rfl, rfl, rfl, rfl, trivial⟩ rfl ?_
 refine GC.par (its := [⟨35, [], [], [], [], fun _ => .agg #[.int .i64 (cr), vcd, v3, .map (some g8)], fun _ => True, fun _ => []⟩,
     ⟨36, [], [], [], [], fun _ => vx, fun _ => True, fun _ => []⟩,
     ⟨37, [], [], [], [], fun _ => vy, fun _ => True, fun _ => []⟩,
     ⟨38, [(0, 35), (1, 36), (2, 37)], [], [], [], fun _ => .int .i64 ((rch (fun (m : Nat) => fdB cr (rKvs cr cd) (lpF x ((-1) * (m : Int)) y)) 40 0 : Nat)), fun _ => True, fun _ => []⟩,
     ⟨39, [], [], [], [], fun _ => .agg #[.int .i64 (cr), vcd, v3, .map (some g8)], fun _ => True, fun _ => []⟩,
     ⟨40, [], [], [], [], fun _ => vx, fun _ => True, fun _ => []⟩,
     ⟨41, [], [], [], [], fun _ => vy, fun _ => True, fun _ => []⟩,
     ⟨42, [(4, 39), (5, 40), (6, 41)], [], [], [], fun _ => .int .i64 ((rch (fun (m : Nat) => fdB cr (rKvs cr cd) (lpF x (1 * (m : Int)) y)) 40 0 : Nat)), fun _ => True, fun _ => []⟩]) (by kernel_rfl) (by kernel_rfl) (POps.cons ?_ (POps.cons ?_ (POps.cons ?_ (POps.cons ?_ (POps.cons ?_ (POps.cons ?_ (POps.cons ?_ (POps.cons ?_ POps.nil)))))))) ?_
 intro θ R hd
 exact Opp.plain (OG.imp (OD.loadAgg rfl ti56 rfl (i := 1) rfl (us := [.int .i64 (cr), vcd, v3, .map (some g8)]) rfl rfl) (by rintro _ _ ⟨rfl, rfl⟩; exact ⟨[], rfl, trivial, rfl⟩)) rfl
 intro θ R hd
 exact Opp.plain (OG.imp (OD.move rfl rfl) (by rintro _ _ ⟨rfl, rfl⟩; exact ⟨[], rfl, trivial, rfl⟩)) rfl
 intro θ R hd
 exact Opp.plain (OG.imp (OD.move rfl rfl) (by rintro _ _ ⟨rfl, rfl⟩; exact ⟨[], rfl, trivial, rfl⟩)) rfl
 intro θ R hd
 obtain ⟨h0d, h1d, h2d, _⟩ := hd
 exact Opp.plain (OG.imp (OG.call [.agg #[.int .i64 (cr), vcd, v3, .map (some g8)], vx, vy, .int .i64 (-1)] ent55 rfl rfl rfl rfl (by exact (reach_w scd hs5 (Ent.lst (i := 2) rfl) (Ent.map (kE := keyL) (vE := valI) (l := rKvs cr cd) (i := 4) rfl) sx (Ent.drop 6 ex.app) sy (Ent.drop 6 ey.app) (by omega) (h64x) (hlx) (by omega) (by omega) (rs_stop hS hrx hry h64x (.inr rfl)) ((Ent.drop 6 htab.app))))) (by rintro _ _ ⟨rfl, rfl⟩; exact ⟨[], rfl, trivial, rfl⟩)) rfl
 intro θ R hd
 exact Opp.plain (OG.imp (OD.loadAgg rfl ti56 rfl (i := 1) rfl (us := [.int .i64 (cr), vcd, v3, .map (some g8)]) rfl rfl) (by rintro _ _ ⟨rfl, rfl⟩; exact ⟨[], rfl, trivial, rfl⟩)) rfl
 intro θ R hd
 exact Opp.plain (OG.imp (OD.move rfl rfl) (by rintro _ _ ⟨rfl, rfl⟩; exact ⟨[], rfl, trivial, rfl⟩)) rfl
 intro θ R hd
 exact Opp.plain (OG.imp (OD.move rfl rfl) (by rintro _ _ ⟨rfl, rfl⟩; exact ⟨[], rfl, trivial, rfl⟩)) rfl
 intro θ R hd
 obtain ⟨h4d, h5d, h6d, _⟩ := hd
 exact Opp.plain (OG.imp (OG.call [.agg #[.int .i64 (cr), vcd, v3, .map (some g8)], vx, vy, .int .i64 (1)] ent55 rfl rfl rfl rfl (by exact (reach_w scd hs5 (Ent.lst (i := 2) rfl) (Ent.map (kE := keyL) (vE := valI) (l := rKvs cr cd) (i := 4) rfl) sx (Ent.drop 6 ex.app) sy (Ent.drop 6 ey.app) (by omega) (h64x) (hlx) (by omega) (by omega) (rs_stop hS hrx hry h64x (.inl rfl)) ((Ent.drop 6 htab.app))))) (by rintro _ _ ⟨rfl, rfl⟩; exact ⟨[], rfl, trivial, rfl⟩)) rfl
 intro θ hall
 obtain ⟨_, _, _, _, _, _, _, _, _⟩ := hall
 refine G.at [] 0 (env' := [(6, .int .i64 (0)), (7, .int .i64 (0)), (38, .int .i64 ((rch (fun (m : Nat) => fdB cr (rKvs cr cd) (lpF x ((-1) * (m : Int)) y)) 40 0 : Nat))), (42, .int .i64 ((rch (fun (m : Nat) => fdB cr (rKvs cr cd) (lpF x (1 * (m : Int)) y)) 40 0 : Nat)))]) ⟨rfl, rfl, rfl, rfl, trivial⟩ (own' := ints 3 v13 (lpF (List.replicate y.length 0) (-1) y) :: box g9 56 [.int .i64 (cr), vcd, v3, .map (some g8)] :: lst 22 v3 u4 :: many (ints 3) u4 (rSt cr cd) :: mapA keyL valI g8 (rKvs cr cd) :: box g1 28 [.int .i64 (cr), vcd] :: own) rfl ?_
 show G _ _ _ [_, _] _ _ _ _
 refine G.stepD (OD.assign rfl rfl) rfl rfl rfl ?_
 refine G.stepD (OD.assign rfl rfl) rfl rfl rfl ?_
 refine G.nil (GE.then_ (GC.ret ?_))
 exact GE.body [] 6 (res2 rfl rfl rfl) rfl (⟨cong2 (fun (a0 : Int) (a1 : Int) => (.tuple #[.int .i64 (a0), .int .i64 (a1)] : Value)) ((by have hq : samB x (ngF y) = false := hc15; rw [rsA, if_pos (show rsOk cr cd y x = true by simp [rsOk, isRt, hS, hg10, hg11, hg12e, hq])] <;> rfl : ((rch (fun (m : Nat) => fdB cr (rKvs cr cd) (lpF x ((-1) * (m : Int)) y)) 40 0 : Nat) : Int) = rsA cr cd y x (-1))) ((by have hq : samB x (ngF y) = false := hc15; rw [rsA, if_pos (show rsOk cr cd y x = true by simp [rsOk, isRt, hS, hg10, hg11, hg12e, hq])] <;> rfl : ((rch (fun (m : Nat) => fdB cr (rKvs cr cd) (lpF x (1 * (m : Int)) y)) 40 0 : Nat) : Int) = rsA cr cd y x 1)), rfl⟩)

set_option maxHeartbeats 4000000 in
set_option maxRecDepth 100000 in
theorem lawRootString {W : World} {own : List Asn} {cr : Int} {vcd : Value} {cd : List Int} {vy : Value} {y : List Int} {vx : Value} {x : List Int}  (scd : IsS vcd) (ecd : Ent own fun w => Ints w vcd cd)   (sy : IsS vy) (ey : Ent own fun w => Ints w vy y)   (sx : IsS vx) (ex : Ent own fun w => Ints w vx x)  (hcd : cd.length ≤ 9223372036854775807) (hy : y.length ≤ 9223372036854775807) (hx : x.length ≤ 9223372036854775807) (h64y : All64 y) (h64x : All64 x) (hg : Ent own fun w => ∃ m, w.cell? ⟨Tryz.l146_ren.g 1, 0, none⟩ = some (.int .i64 m)) (htab : Ent own Pow10) : Spec Tryz.prog 7 [.agg #[.int .i64 (cr), vcd], vy, vx] W own (fun v ow => v = .bool (true) ∧ ow = own) := by
 refine Spec.enter Tryz.f7 _ Tryz.func7 rfl (n := 72) rfl rfl ?_
 refine GC.seq (GC.region ?_)
 refine G.step (OG.box (cs := [.int .i64 (cr), vcd]) rfl rfl rfl) rfl rfl rfl ?_
 rintro _ _ ⟨g1, rfl, rfl⟩
 refine G.stepD (OD.assign rfl rfl) rfl rfl rfl ?_
 refine G.nil (GE.then_ (GC.seq (GC.seq (GC.region ?_))))
 refine G.stepD (OD.move rfl rfl) rfl rfl rfl ?_
 refine G.stepD (OD.len rfl rfl et22 rfl (Ent.drop 1 ey)) rfl rfl rfl ?_
 refine G.stepD (OD.gtr rfl rfl rfl) rfl rfl rfl ?_
 refine G.nil (GE.then_ ?_)
 refine GC.cond rfl (fun hc2 => ?_) (fun hc2 => ?_)
 replace hc2 := of_decide_eq_true hc2
 refine GC.seq (GC.region ?_)
 refine G.stepD (OD.assign rfl rfl) rfl rfl rfl ?_
 refine G.nil (GE.then_ (GC.ret (GE.passR ?_)))
 exact GE.body [] 1 (res1 rfl rfl) rfl (⟨rfl, rfl⟩)
 replace hc2 := of_decide_eq_false hc2
 refine GC.skip (GE.then_ (GC.seq (GC.seq (GC.region ?_))))
 refine G.stepD (OD.move rfl rfl) rfl rfl rfl ?_
 refine G.stepD (OD.len rfl rfl et22 rfl (Ent.drop 1 ex)) rfl rfl rfl ?_
 refine G.stepD (OD.gtr rfl rfl rfl) rfl rfl rfl ?_
 refine G.nil (GE.then_ ?_)
 refine GC.cond rfl (fun hc3 => ?_) (fun hc3 => ?_)
 replace hc3 := of_decide_eq_true hc3
 refine GC.seq (GC.region ?_)
 refine G.stepD (OD.assign rfl rfl) rfl rfl rfl ?_
 refine G.nil (GE.then_ (GC.ret (GE.passR ?_)))
 exact GE.body [] 1 (res1 rfl rfl) rfl (⟨rfl, rfl⟩)
 replace hc3 := of_decide_eq_false hc3
 refine GC.skip (GE.then_ (GC.seq (GC.region ?_)))
 refine G.stepD (OD.assign rfl rfl) rfl rfl rfl ?_
 refine G.nil (GE.then_ (GC.seq (GC.region ?_)))
 refine G.stepD (OD.loadAgg rfl ti24 rfl (i := 0) rfl (us := [.int .i64 (cr), vcd]) rfl rfl) rfl rfl rfl ?_
 refine G.stepD (OD.move rfl rfl) rfl rfl rfl ?_
 refine G.step (OG.call [.agg #[.int .i64 (cr), vcd], .int .i64 (1048576)] ent11 rfl rfl rfl rfl (by exact (szCartan_s scd (Ent.drop 1 ecd) (by omega) (by omega)))) rfl rfl rfl ?_
 rintro _ _ ⟨rfl, rfl⟩
 refine G.stepD (OD.assign rfl rfl) rfl rfl rfl ?_
 refine G.nil (GE.then_ (GC.seq (GC.seq (GC.region ?_))))
 refine G.stepD (OD.move rfl rfl) rfl rfl rfl ?_
 refine G.stepD (OD.lss rfl rfl rfl) rfl rfl rfl ?_
 refine G.nil (GE.then_ ?_)
 refine GC.cond rfl (fun hc4 => ?_) (fun hc4 => ?_)
 replace hc4 := of_decide_eq_true hc4
 refine GC.seq (GC.region ?_)
 refine G.stepD (OD.assign rfl rfl) rfl rfl rfl ?_
 refine G.nil (GE.then_ (GC.ret (GE.passR ?_)))
 exact GE.body [] 1 (res1 rfl rfl) rfl (⟨rfl, rfl⟩)
 replace hc4 := of_decide_eq_false hc4
 have hc4z := szG_ok hc4
 refine GC.skip (GE.then_ (GC.seq (GC.region ?_)))
 refine G.stepD (OD.loadAgg rfl ti24 rfl (i := 0) rfl (us := [.int .i64 (cr), vcd]) rfl rfl) rfl rfl rfl ?_
 refine G.step (OG.call [.agg #[.int .i64 (cr), vcd]] ent13 rfl rfl rfl rfl (by exact (toCartan_s scd (Ent.drop 1 ecd) (by omega)))) rfl rfl rfl ?_
 rintro _ _ ⟨v5, rfl, hs6, rfl⟩
 refine G.stepD (OD.move rfl rfl) rfl rfl rfl ?_
 refine G.step (OG.call [vy] ent21 rfl rfl rfl rfl (by exact (toIntS_s sy (Ent.drop 2 ey) (by omega)))) rfl rfl rfl ?_
 rintro v7 _ ⟨_, rfl, hs8, rfl⟩
 refine G.stepD (OD.move rfl rfl) rfl rfl rfl ?_
 refine G.step (OG.call [vx] ent21 rfl rfl rfl rfl (by exact (toIntS_s sx (Ent.drop 3 ex) (by omega)))) rfl rfl rfl ?_
 rintro v9 _ ⟨_, rfl, hs10, rfl⟩
 refine G.step (OG.call [.agg #[.int .i64 (cr), v5], v7, v9] ent27 rfl rfl rfl rfl (by exact (specRootString_w hs6 (Ent.ints (i := 2) rfl) hs8 (Ent.ints (i := 1) rfl) hs10 (Ent.ints (i := 0) rfl) (by omega) (by omega) (by omega) (h64x) (h64y)))) rfl rfl rfl ?_
 rintro _ _ ⟨rfl, rfl⟩
 refine G.stepD (OD.move rfl rfl) rfl rfl rfl ?_
 refine G.stepD (OD.extract rfl rfl rfl) rfl rfl rfl ?_
 refine G.stepD (OD.extract rfl rfl rfl) rfl rfl rfl ?_
 refine G.stepD (OD.assign rfl rfl) rfl rfl rfl ?_
 refine G.stepD (OD.assign rfl rfl) rfl rfl rfl ?_
 refine G.nil (GE.then_ (GC.seq (GC.region ?_)))
 refine G.stepD (OD.loadAgg rfl ti24 rfl (i := 3) rfl (us := [.int .i64 (cr), vcd]) rfl rfl) rfl rfl rfl ?_
 refine G.step (OG.call [.agg #[.int .i64 (cr), vcd]] ent13 rfl rfl rfl rfl (by exact (toCartan_s scd (Ent.drop 4 ecd) (by omega)))) rfl rfl rfl ?_
 rintro _ _ ⟨v11, rfl, hs12, rfl⟩
 refine G.step (OG.alloc rfl ti28 (zs := [.int .i64 (0), .slice none 0 0]) rfl) rfl rfl rfl ?_
 rintro _ _ ⟨g13, rfl, rfl⟩
 refine G.stepD0 (OD.store rfl ti28 rfl rfl (us := [.int .i64 (cr), v11]) rfl rfl (allC rfl (allC (IsS.one hs12) rfl)) (i := 0) rfl rfl) rfl rfl ?_
 refine G.nil (GE.then_ (GC.seq (GC.region ?_)))
 refine G.stepD (OD.move rfl rfl) rfl rfl rfl ?_
 refine G.step (OG.call [vy] ent21 rfl rfl rfl rfl (by exact (toIntS_s sy (Ent.drop 6 ey) (by omega)))) rfl rfl rfl ?_
 rintro v14 _ ⟨_, rfl, hs15, rfl⟩
 refine G.stepD (OD.assign rfl rfl) rfl rfl rfl ?_
 refine G.nil (GE.then_ (GC.seq (GC.region ?_)))
 refine G.stepD (OD.move rfl rfl) rfl rfl rfl ?_
 refine G.step (OG.call [vx] ent21 rfl rfl rfl rfl (by exact (toIntS_s sx (Ent.drop 7 ex) (by omega)))) rfl rfl rfl ?_
 rintro v16 _ ⟨_, rfl, hs17, rfl⟩
 refine G.stepD (OD.assign rfl rfl) rfl rfl rfl ?_
 refine G.nil (GE.then_ (GC.seq (GC.region ?_)))
 refine G.stepD (OD.loadAgg rfl ti28 rfl (i := 2) rfl (us := [.int .i64 (cr), v11]) rfl rfl) rfl rfl rfl ?_
 refine G.stepD (OD.move rfl rfl) rfl rfl rfl ?_
 refine G.stepD (OD.move rfl rfl) rfl rfl rfl ?_
 refine G.step (OG.call [.agg #[.int .i64 (cr), v11], v14, v16] ent28 rfl rfl rfl rfl (by exact (rootString_w hs12 (Ent.ints (i := 3) rfl) hs15 (Ent.ints (i := 1) rfl) hs17 (Ent.ints (i := 0) rfl) (by omega) (by omega) (by omega) (h64x) (h64y) ((Ent.drop 8 hg)) ((Ent.drop 8 htab))))) rfl rfl rfl ?_
 rintro _ _ ⟨rfl, rfl⟩
 refine G.stepD (OD.move rfl rfl) rfl rfl rfl ?_
 refine G.stepD (OD.extract rfl rfl rfl) rfl rfl rfl ?_
 refine G.stepD (OD.extract rfl rfl rfl) rfl rfl rfl ?_
 refine G.stepD (OD.assign rfl rfl) rfl rfl rfl ?_
 refine G.stepD (OD.assign rfl rfl) rfl rfl rfl ?_
 refine G.nil (GE.then_ (GC.seq (GC.seq (GC.region ?_))))
 refine G.stepD (OD.move rfl rfl) rfl rfl rfl ?_
 refine G.stepD (OD.move rfl rfl) rfl rfl rfl ?_
 refine G.stepD (OD.eqv (OD.neq rfl rfl rfl) (congrArg Value.bool ((bne_same _) : _ = false))) rfl rfl rfl ?_
 refine G.stepD (OD.move rfl rfl) rfl rfl rfl ?_
 refine G.stepGD (OD.move rfl rfl) rfl rfl rfl rfl rfl ?_
 refine G.stepGD (OD.move rfl rfl) rfl rfl rfl rfl rfl ?_
 refine G.stepGD (OD.eqv (OD.neq rfl rfl rfl) (congrArg Value.bool ((bne_same _) : _ = false))) rfl rfl rfl rfl rfl ?_
 refine G.stepD (OD.pickF rfl rfl rfl) rfl rfl rfl ?_
 refine G.nil (GE.then_ (GC.condF rfl (GC.skip (GE.then_ (GC.seq (GC.seq ?_))))))
 refine GC.at [] 0 (env' := [(1, vy), (2, vx), (3, .pointer (some ⟨g1, 0, none⟩)), (10, .pointer (some ⟨g13, 0, none⟩)), (11, v14), (12, v16)]) ⟨rfl, rfl, rfl, rfl, rfl, rfl, trivial⟩ rfl ?_
 refine GC.par (its := [⟨57, [], [], [], [], fun _ => .agg #[.int .i64 (cr), v11], fun _ => True, fun _ => []⟩,
     ⟨58, [], [], [], [], fun _ => .agg #[.int .i64 (cr), vcd], fun _ => True, fun _ => []⟩,
     ⟨59, [(1, 58)], [], [], [2], fun ds => .agg #[.int .i64 (cr), ((ds.getD 0 []).getD 0 undef)], fun ds => IsS ((ds.getD 0 []).getD 0 undef), fun ds => [ints 3 ((ds.getD 0 []).getD 0 undef) cd]⟩,
     ⟨60, [(0, 57), (2, 59)], [2], [], [2], fun _ => .bool true, fun _ => True, fun _ => []⟩,
     ⟨61, [(3, 60)], [2], [], [2], fun _ => .bool false, fun _ => True, fun _ => []⟩]) (by kernel_rfl) (by kernel_rfl) (POps.cons ?_ (POps.cons ?_ (POps.cons ?_ (POps.cons ?_ (POps.cons ?_ POps.nil))))) ?_
 intro θ R hd
 exact Opp.plain (OG.imp (OD.loadAgg rfl ti28 rfl (i := 2) rfl (us := [.int .i64 (cr), v11]) rfl rfl) (by rintro _ _ ⟨rfl, rfl⟩; exact ⟨[], rfl, trivial, rfl⟩)) rfl
 intro θ R hd
 exact Opp.plain (OG.imp (OD.loadAgg rfl ti24 rfl (i := 7) rfl (us := [.int .i64 (cr), vcd]) rfl rfl) (by rintro _ _ ⟨rfl, rfl⟩; exact ⟨[], rfl, trivial, rfl⟩)) rfl
 intro θ R hd
 obtain ⟨h1d, _⟩ := hd
 exact Opp.plain (OG.imp (OG.call [.agg #[.int .i64 (cr), vcd]] ent13 rfl rfl rfl rfl (by exact (toCartan_s scd (Ent.drop 8 ecd.app) (by omega)))) (by rintro _ _ ⟨v18, rfl, hs19, rfl⟩; exact ⟨[v18], rfl, hs19, rfl⟩)) rfl
 intro θ R hd
 obtain ⟨h0d, h2d, _⟩ := hd
 exact Opp.plain (OG.imp (OG.call [.agg #[.int .i64 (cr), v11], .agg #[.int .i64 (cr), ((θ 2).getD 0 undef)]] ent16 rfl rfl rfl rfl (by exact (eqCartan_same hs12 (Ent.ints (i := 4) rfl) h2d (Ent.ints (i := 0) rfl) (by omega)))) (by rintro _ _ ⟨rfl, rfl⟩; exact ⟨[], rfl, trivial, rfl⟩)) rfl
 intro θ R hd
 obtain ⟨h3d, _⟩ := hd
 exact Opp.plain (OG.imp (OD.not rfl rfl) (by rintro _ _ ⟨rfl, rfl⟩; exact ⟨[], rfl, trivial, rfl⟩)) rfl
 intro θ hall
 obtain ⟨_, _, h2a, _, _, _⟩ := hall
 refine G.at [] 0 (env' := [(1, vy), (2, vx), (11, v14), (12, v16), (61, .bool false)]) ⟨rfl, rfl, rfl, rfl, rfl, trivial⟩ (own' := ints 3 ((θ 2).getD 0 undef) cd :: ints 3 v16 x :: ints 3 v14 y :: box g13 28 [.int .i64 (cr), v11] :: ints 3 v11 cd :: ints 3 v9 x :: ints 3 v7 y :: ints 3 v5 cd :: box g1 24 [.int .i64 (cr), vcd] :: own) rfl ?_
 have hs20 : IsS ((θ 2).getD 0 undef) := h2a
 clear h2a
 generalize ((θ 2).getD 0 undef) = v21 at *
 show G _ _ _ [] _ _ _ _
 refine G.nil (GE.then_ (GC.condF rfl (GC.skip (GE.then_ (GC.seq (GC.seq (GC.region ?_)))))))
 refine G.stepD (OD.move rfl rfl) rfl rfl rfl ?_
 refine G.stepD (OD.move rfl rfl) rfl rfl rfl ?_
 refine G.step (OG.call [vy] ent21 rfl rfl rfl rfl (by exact (toIntS_s sy (Ent.drop 9 ey) (by omega)))) rfl rfl rfl ?_
 rintro v22 _ ⟨_, rfl, hs23, rfl⟩
 refine G.step (OG.call [v14, v22] ent15 rfl rfl rfl rfl (by exact (eqIntS_same hs15 (Ent.ints (i := 3) rfl) hs23 (Ent.ints (i := 0) rfl) (by omega)))) rfl rfl rfl ?_
 rintro _ _ ⟨rfl, rfl⟩
 refine G.stepD (OD.not rfl rfl) rfl rfl rfl ?_
 refine G.nil (GE.then_ (GC.condF rfl (GC.skip (GE.then_ (GC.seq (GC.seq (GC.region ?_)))))))
 refine G.stepD (OD.move rfl rfl) rfl rfl rfl ?_
 refine G.stepD (OD.move rfl rfl) rfl rfl rfl ?_
 refine G.step (OG.call [vx] ent21 rfl rfl rfl rfl (by exact (toIntS_s sx (Ent.drop 10 ex) (by omega)))) rfl rfl rfl ?_
 rintro v24 _ ⟨_, rfl, hs25, rfl⟩
 refine G.step (OG.call [v16, v24] ent15 rfl rfl rfl rfl (by exact (eqIntS_same hs17 (Ent.ints (i := 3) rfl) hs25 (Ent.ints (i := 0) rfl) (by omega)))) rfl rfl rfl ?_
 rintro _ _ ⟨rfl, rfl⟩
 refine G.stepD (OD.not rfl rfl) rfl rfl rfl ?_
 refine G.nil (GE.then_ (GC.condF rfl (GC.skip (GE.then_ (GC.seq (GC.region ?_))))))
 refine G.stepD (OD.assign rfl rfl) rfl rfl rfl ?_
 refine G.nil (GE.then_ (GC.ret ?_))
 exact GE.body [] 11 (res1 rfl rfl) rfl (⟨rfl, rfl⟩)

end Go.Proofs.YteflhcbnajeooaaGreatDoor
