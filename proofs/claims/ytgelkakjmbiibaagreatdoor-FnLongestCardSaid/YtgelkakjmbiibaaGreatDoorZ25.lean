/-
  Climbing to a dominant weight: contracts by walks.
-/
import Derived.Test.YtgelkakjmbiibaaGreatDoorFct
import Derived.Test.YtgelkakjmbiibaaGreatDoorWRhoA
import Derived.Test.YtgelkakjmbiibaaGreatDoorWOrI
import Derived.Test.YtgelkakjmbiibaaGreatDoorLvN
import Derived.Test.YtgelkakjmbiibaaGreatDoorWNewA
import Derived.Test.YtgelkakjmbiibaaGreatDoorLct
namespace Go.Proofs.YtgelkakjmbiibaaGreatDoor
set_option linter.unusedVariables false
set_option linter.unusedSimpArgs false
open Go.RowKit
set_option maxHeartbeats 4000000 in
set_option maxRecDepth 100000 in
theorem normalOf_w {W : World} {own : List Asn} {cr : Int} {vcd : Value} {cd : List Int} {vx : Value} {x : List Int}  (scd : IsS vcd) (ecd : Ent own fun w => Ints w vcd cd)   (sx : IsS vx) (ex : Ent own fun w => Ints w vx x)  (hcr : 1 ≤ cr ∧ cr ≤ 4) (hcd : (cd.length : Int) = cr * cr) (hp : PhOk cr cd) (hb : Bd cr cd x) : Spec Tryz.prog 61 [.agg #[.int .i64 (cr), vcd], vx] W own (fun v ow => ∃ (r0 : Value), v = r0 ∧ IsS r0 ∧ ow = ints 3 r0 (nwF cr cd x) :: own) := by
 refine Spec.enter Tryz.f61 _ Tryz.func61 rfl (n := 21) rfl rfl ?_
 refine GC.seq (GC.region ?_)
 refine G.step (OG.box (cs := [.int .i64 (cr), vcd]) rfl rfl rfl) rfl rfl rfl ?_
 rintro _ _ ⟨g1, rfl, rfl⟩
 refine G.stepD (OD.assign rfl rfl) rfl rfl rfl ?_
 refine G.nil (GE.then_ (GC.seq (GC.region ?_)))
 refine G.step (OG.buildInts (xs := []) (is := []) rfl et22 rfl rfl rfl rfl rfl) rfl rfl rfl ?_
 rintro v2 _ ⟨hs3, rfl⟩
 refine G.stepD (OD.assign rfl rfl) rfl rfl rfl ?_
 refine G.nil (GE.then_ (GC.block ?_))
 obtain ⟨x1, hc0⟩ := climb_ok hp hb
 have hbl := hb.1
 refine GC.many0 (ints 3) ?_
 refine GC.at [1, 1, 0] 0 (env' := [(0, .agg #[.int .i64 (cr), vcd]), (1, vx), (2, .pointer (some ⟨g1, 0, none⟩)), (4, .slice none 0 0), (7, v2), (5, v2)]) ⟨rfl, rfl, rfl, rfl, rfl, rfl, trivial⟩ (own' := ints 3 v2 [] :: box g1 27 [.int .i64 (cr), vcd] :: many (ints 3) [] [] :: own) rfl ?_
 refine GC.loop (ι := Nat × List Int × List Int × List Int × Value × Value × Asn) (fun ⟨f, w, ws, rest, v, u, X⟩ => [(2, .pointer (some ⟨g1, 0, none⟩)), (1, v), (5, u)]) (fun ⟨f, w, ws, rest, v, u, X⟩ => ints 3 u ws :: box g1 27 [.int .i64 (cr), vcd] :: X :: own) (fun ⟨f, w, ws, rest, v, u, X⟩ => (IsS v) ∧ (Ent (X :: own) fun w_ => Ints w_ v w) ∧ (IsS u) ∧ ((w.length : Int) = cr) ∧ (climb cr cd f w = some (x1, rest)) ∧ (ws ++ rest = nwF cr cd x) ∧ (f + ws.length ≤ 16001)) (fun ⟨f, w, ws, rest, v, u, X⟩ => f) (16001, x, [], (nwF cr cd x), vx, v2, (many (ints 3) [] [])) (⟨sx, Ent.drop 1 ex, hs3, by omega, hc0, List.nil_append _, by simp⟩) ⟨rfl, rfl, rfl, trivial⟩ [] 0 rfl ?_
 rintro ⟨f, w, ws, rest, v, u, X⟩ ⟨hv, hE, hu, hwl, hcl, hws, hwf⟩
 refine GC.block (GC.seq (GC.region ?_))
 refine G.stepD (OD.move rfl rfl) rfl rfl rfl ?_
 refine G.step (OG.call [v, .func (.func 120) #[] #[]] ent89 rfl rfl rfl rfl (by exact (indexFuncN_w hv (Ent.drop 2 hE) (by omega)))) rfl rfl rfl ?_
 rintro _ _ ⟨rfl, rfl⟩
 refine G.stepD (OD.assign rfl rfl) rfl rfl rfl ?_
 refine G.nil (GE.then_ (GC.seq (GC.seq (GC.region ?_))))
 refine G.stepD (OD.move rfl rfl) rfl rfl rfl ?_
 refine G.stepD (OD.lss rfl rfl rfl) rfl rfl rfl ?_
 refine G.nil (GE.then_ ?_)
 refine GC.cond rfl (fun hc4 => ?_) (fun hc4 => ?_)
 replace hc4 := of_decide_eq_true hc4
 obtain ⟨_, hrn⟩ := climb_end hcl hc4
 refine GC.seq (GC.region ?_)
 refine G.stepD (OD.move rfl rfl) rfl rfl rfl ?_
 refine G.stepD (OD.assign rfl rfl) rfl rfl rfl ?_
 refine G.nil (GE.then_ (GC.ret (GE.passR (GE.blockR (GE.passR (GE.blockR ?_))))))
 exact GE.body [0] 2 (res1 rfl rfl) rfl (⟨u, rfl, hu, congrArg (fun (l0 : List Int) => ints 3 u l0 :: own) ((by rw [← hws, ← hrn, List.append_nil] : ws = nwF cr cd x))⟩)
 replace hc4 := of_decide_eq_false hc4
 obtain ⟨g2, z2, hg2, hcl2, hrz⟩ := climb_step hcl hc4
 have hfa : 0 ≤ posF (fun (y : Int) => decide (y < 0)) w ∧ (posF (fun (y : Int) => decide (y < 0)) w).toNat < w.length ∧ w.getD (posF (fun (y : Int) => decide (y < 0)) w).toNat 0 < 0 := fpos_at hc4
 refine GC.skip (GE.then_ (GC.seq (GC.region ?_)))
 refine G.stepD (OD.move rfl rfl) rfl rfl rfl ?_
 refine G.stepD (OD.move rfl rfl) rfl rfl rfl ?_
 refine G.step (OG.buildInts (xs := [.tmp 14]) (is := [posF (fun (y : Int) => decide (y < 0)) w]) rfl et22 rfl rfl rfl rfl rfl) rfl rfl rfl ?_
 rintro v5 _ ⟨hs6, rfl⟩
 refine G.step (OG.appendInts 1 rfl rfl et22 rfl rfl rfl (Ent.ints (i := 0) rfl) (by first | omega | (simp; omega))) rfl rfl rfl ?_
 rintro v7 _ ⟨hs8, rfl⟩
 refine G.stepD (OD.assign rfl rfl) rfl rfl rfl ?_
 refine G.nil (GE.then_ (GC.region ?_))
 refine G.stepD (OD.loadAgg rfl ti27 rfl (i := 2) rfl (us := [.int .i64 (cr), vcd]) rfl rfl) rfl rfl rfl ?_
 refine G.stepD (OD.move rfl rfl) rfl rfl rfl ?_
 refine G.stepD (OD.move rfl rfl) rfl rfl rfl ?_
 refine G.step (OG.call [.agg #[.int .i64 (cr), vcd], .int .i64 (posF (fun (y : Int) => decide (y < 0)) w), v] ent67 rfl rfl rfl rfl (by exact (reflectWeight_w scd (Ent.drop 4 ecd) hv (Ent.drop 3 hE) (hcr) (hcd) (⟨hfa.1, by omega⟩) (hwl)))) rfl rfl rfl ?_
 rintro v9 _ ⟨_, rfl, hs10, rfl⟩
 refine G.stepD (OD.assign rfl rfl) rfl rfl rfl ?_
 refine G.nil (GE.blockN ?_)
 exact GE.again (g2, rfF cr cd (posF (fun (y : Int) => decide (y < 0)) w) w, ws ++ [posF (fun (y : Int) => decide (y < 0)) w], z2, v9, v7, (ints 3 v9 (rfF cr cd (posF (fun (y : Int) => decide (y < 0)) w) w))) (⟨hs10, (Ent.ints (i := 0) rfl), hs8, by rw [rfF_len]; exact hwl, hcl2, by rw [hrz] at hws; exact (List.append_assoc _ _ _).trans hws, by rw [List.length_append, List.length_singleton]; omega⟩) (by first | omega | (dsimp only; omega)) ⟨rfl, rfl, rfl, trivial⟩ [2, 2, 0] 2 rfl
end Go.Proofs.YtgelkakjmbiibaaGreatDoor

namespace Go.Proofs.YtgelkakjmbiibaaGreatDoor
set_option linter.unusedVariables false
set_option linter.unusedSimpArgs false
open Go.RowKit
theorem ent63 : ∀ us w, (callFunc 63 us).run Tryz.prog w = .ok (.enter 63 us) w := fun us w => by kernel_rfl
theorem ent83 : ∀ us w, (callFunc 83 us).run Tryz.prog w = .ok (.enter 83 us) w := fun us w => by kernel_rfl
end Go.Proofs.YtgelkakjmbiibaaGreatDoor

namespace Go.Proofs.YtgelkakjmbiibaaGreatDoor
set_option linter.unusedVariables false
set_option linter.unusedSimpArgs false
open Go.RowKit
theorem fd80_1 : FD Tryz.prog 80 1 2 := by have h := fd_of (f := 1) Tryz.underlying80 rfl (fun w => by kernel_rfl); exact h
theorem ent61 : ∀ us w, (callFunc 61 us).run Tryz.prog w = .ok (.enter 61 us) w := fun us w => by kernel_rfl
set_option maxHeartbeats 4000000 in
set_option maxRecDepth 100000 in
theorem lengthCounts_w {W : World} {own : List Asn} {cr : Int} {vcd : Value} {cd : List Int}  (scd : IsS vcd) (ecd : Ent own fun w => Ints w vcd cd)  (hl0 : cd.length ≤ 1073741824) (hg : Ent own fun w => ∃ m, w.cell? ⟨Tryz.l146_ren.g 1, 0, none⟩ = some (.int .i64 m)) (htab : Ent own Pow10) : Spec Tryz.prog 37 [.agg #[.int .i64 (cr), vcd]] W own (fun v ow => ∃ (r0 : Value), v = r0 ∧ IsS r0 ∧ ow = ints 3 r0 (lcOf cr cd) :: own) := by
 refine Spec.enter Tryz.f37 _ Tryz.func37 rfl (n := 35) rfl rfl ?_
 refine GC.seq (GC.region ?_)
 refine G.step (OG.box (cs := [.int .i64 (cr), vcd]) rfl rfl rfl) rfl rfl rfl ?_
 rintro _ _ ⟨g1, rfl, rfl⟩
 refine G.stepD (OD.assign rfl rfl) rfl rfl rfl ?_
 refine G.nil (GE.then_ (GC.seq (GC.seq (GC.region ?_))))
 refine G.stepD (OD.loadAgg rfl ti27 rfl (i := 0) rfl (us := [.int .i64 (cr), vcd]) rfl rfl) rfl rfl rfl ?_
 refine G.step (OG.call [.agg #[.int .i64 (cr), vcd]] ent43 rfl rfl rfl rfl (by exact (isCartan_w scd (Ent.drop 1 ecd) (hl0) ((Ent.drop 1 hg))))) rfl rfl rfl ?_
 rintro _ _ ⟨rfl, rfl⟩
 refine G.stepD (OD.not rfl rfl) rfl rfl rfl ?_
 refine G.nil (GE.then_ ?_)
 refine GC.cond rfl (fun hc2 => ?_) (fun hc2 => ?_)
 replace hc2 := eq_false_of_not hc2
 have hS := hc2
 refine GC.seq (GC.region ?_)
 refine G.stepD (OD.assign rfl rfl) rfl rfl rfl ?_
 refine G.nil (GE.then_ (GC.ret (GE.passR ?_)))
 refine GE.nilInts 3 ?_
 exact GE.body [0] 1 (res1 rfl rfl) rfl (⟨(.slice none 0 0), rfl, IsS.nil, congrArg (fun (l0 : List Int) => ints 3 (.slice none 0 0) l0 :: own) ((by rw [lcOf, hS] <;> rfl : [] = lcOf cr cd))⟩)
 replace hc2 := eq_true_of_not hc2
 have hS := hc2
 have hrs := (rtOk hS).slen
 have hrf := (rtOk hS).few
 have hcr4 := (tyS_ok hS).1
 have hrk := (rtOk hS).rk
 have hol := oAll_len cr cd (ones cr 1)
 refine GC.skip (GE.then_ (GC.seq (GC.region ?_)))
 refine G.stepD (OD.loadAgg rfl ti27 rfl (i := 0) rfl (us := [.int .i64 (cr), vcd]) rfl rfl) rfl rfl rfl ?_
 refine G.step (OG.call [.agg #[.int .i64 (cr), vcd]] ent78 rfl rfl rfl rfl (by exact (newRoots_w scd (Ent.drop 1 ecd) ((tyS_ok hS).1) ((tyS_ok hS).2) (hS) ((Ent.drop 1 htab))))) rfl rfl rfl ?_
 rintro _ _ ⟨v3, u4, g8, rfl, hs5, hs6, hs7, rfl⟩
 refine G.stepD (OD.field (us := [.int .i64 (cr), vcd, v3, .map (some g8)]) rfl fd80_1 rfl rfl) rfl rfl rfl ?_
 refine G.stepD (OD.len rfl rfl et39 rfl (Ent.lst (i := 0) rfl)) rfl rfl rfl ?_
 refine G.stepD (OD.addI rfl rfl rfl (by omega)) rfl rfl rfl ?_
 refine G.step (OG.makeInts rfl et22 rfl rfl (by omega)) rfl rfl rfl ?_
 rintro v9 _ ⟨hs10, rfl⟩
 refine G.stepD (OD.assign rfl rfl) rfl rfl rfl ?_
 refine G.nil (GE.then_ (GC.seq (GC.seq ?_)))
 refine GC.at [] 0 (env' := [(1, .pointer (some ⟨g1, 0, none⟩)), (3, v9)]) ⟨rfl, rfl, trivial⟩ rfl ?_
 refine GC.par (its := [⟨15, [], [], [], [], fun _ => .agg #[.int .i64 (cr), vcd], fun _ => True, fun _ => []⟩,
     ⟨16, [], [], [], [], fun _ => .agg #[.int .i64 (cr), vcd], fun _ => True, fun _ => []⟩,
     ⟨17, [(1, 16)], [], [], [2], fun ds => ((ds.getD 0 []).getD 0 undef), fun ds => IsS ((ds.getD 0 []).getD 0 undef), fun ds => [ints 3 ((ds.getD 0 []).getD 0 undef) (ones cr 1)]⟩,
     ⟨18, [(0, 15), (2, 17)], [2], [], [2, 3], fun ds => ((ds.getD 1 []).getD 0 undef), fun ds => IsS ((ds.getD 1 []).getD 0 undef) ∧ AllS (usOf ((ds.getD 1 []).getD 1 undef)) ∧ (usOf ((ds.getD 1 []).getD 1 undef)).length = (oAll cr cd (ones cr 1)).length, fun ds => [lst 22 ((ds.getD 1 []).getD 0 undef) (usOf ((ds.getD 1 []).getD 1 undef)), many (ints 3) (usOf ((ds.getD 1 []).getD 1 undef)) (oAll cr cd (ones cr 1))]⟩,
     ⟨19, [(3, 18)], [2, 3], [], [2, 3], fun ds => .int .i64 (((usOf ((ds.getD 1 []).getD 1 undef)).length : Nat)), fun _ => True, fun _ => []⟩,
     ⟨20, [], [], [], [], fun _ => .int .i64 (0), fun _ => True, fun _ => []⟩]) (by kernel_rfl) (by kernel_rfl) (POps.cons ?_ (POps.cons ?_ (POps.cons ?_ (POps.cons ?_ (POps.cons ?_ (POps.cons ?_ POps.nil)))))) ?_
 intro θ R hd
 exact Opp.plain (OG.imp (OD.loadAgg rfl ti27 rfl (i := 4) rfl (us := [.int .i64 (cr), vcd]) rfl rfl) (by exact fun _ _ h=>pk h rfl trivial rfl)) rfl
 intro θ R hd
 exact Opp.plain (OG.imp (OD.loadAgg rfl ti27 rfl (i := 4) rfl (us := [.int .i64 (cr), vcd]) rfl rfl) (by exact fun _ _ h=>pk h rfl trivial rfl)) rfl
 rintro θ R ⟨h1d, _⟩
 exact Opp.plain (OG.imp (OG.call [.agg #[.int .i64 (cr), vcd]] ent63 rfl rfl rfl rfl (by exact (rho_w scd (Ent.drop 5 ecd.app) ((tyS_ok hS).1)))) (by rintro v11 _ ⟨_, rfl, hs12, rfl⟩; exact ⟨[v11], rfl, hs12, rfl⟩)) rfl
 rintro θ R ⟨h0d, h2d, _⟩
 exact Opp.plain (OG.imp (OG.call [.agg #[.int .i64 (cr), vcd], ((θ 2).getD 0 undef)] ent83 rfl rfl rfl rfl (by exact (orbit_w scd (Ent.drop 6 ecd.app) h2d (Ent.ints (i := 0) rfl) ((tyS_ok hS).1) ((tyS_ok hS).2) (by have h1 := (tyS_ok hS).1; rw [ones_len]; omega) (ones_64) ((Ent.drop 6 htab.app))))) (by rintro v13 _ ⟨_, u14, rfl, hs15, hs16, hs17, rfl⟩; exact ⟨[v13, .agg u14.toArray], rfl, ⟨hs15, hs16, hs17⟩, rfl⟩)) rfl
 rintro θ R ⟨h3d, _⟩
 exact Opp.plain (OG.imp (OD.len rfl rfl et39 rfl (Ent.lst (i := 1) rfl)) (by exact fun _ _ h=>pk h rfl trivial rfl)) rfl
 intro θ R hd
 exact Opp.plain (OG.imp (OD.move rfl rfl) (by exact fun _ _ h=>pk h rfl trivial rfl)) rfl
 intro θ hall
 obtain ⟨_, _, h2a, h3a, _, _, _⟩ := hall
 refine G.at [] 0 (env' := [(1, .pointer (some ⟨g1, 0, none⟩)), (3, v9), (18, ((θ 3).getD 0 undef)), (19, .int .i64 (((usOf ((θ 3).getD 1 undef)).length : Nat))), (20, .int .i64 (0))]) ⟨rfl, rfl, rfl, rfl, rfl, trivial⟩ (own' := ints 3 ((θ 2).getD 0 undef) (ones cr 1) :: lst 22 ((θ 3).getD 0 undef) (usOf ((θ 3).getD 1 undef)) :: many (ints 3) (usOf ((θ 3).getD 1 undef)) (oAll cr cd (ones cr 1)) :: ints 3 v9 (List.replicate ((u4.length : Nat) + 1 : Int).toNat (0 : Int)) :: lst 22 v3 u4 :: many (ints 3) u4 (rSt cr cd) :: mapA keyL valI g8 (rKvs cr cd) :: box g1 27 [.int .i64 (cr), vcd] :: own) rfl ?_
 have hs18 : IsS ((θ 2).getD 0 undef) := h2a
 clear h2a
 generalize ((θ 2).getD 0 undef) = v19 at *
 have hs20 : IsS ((θ 3).getD 0 undef) := h3a.1
 have hs21 : AllS (usOf ((θ 3).getD 1 undef)) := h3a.2.1
 have hs22 : (usOf ((θ 3).getD 1 undef)).length = (oAll cr cd (ones cr 1)).length := h3a.2.2
 clear h3a
 generalize ((θ 3).getD 0 undef) = v23 at *
 generalize (usOf ((θ 3).getD 1 undef)) = u24 at *
 show G _ _ _ [] _ _ _ _
 refine G.nil (GE.then_ (GC.block ?_))
 refine GC.loop (ι := Nat × List Int) (fun ⟨k, ys⟩ => [(1, .pointer (some ⟨g1, 0, none⟩)), (3, v9), (18, v23), (19, .int .i64 ((u24.length : Nat))), (20, .int .i64 ((k : Int)))]) (fun ⟨k, ys⟩ => ints 3 v19 (ones cr 1) :: lst 22 v23 u24 :: many (ints 3) u24 (oAll cr cd (ones cr 1)) :: ints 3 v9 ys :: lst 22 v3 u4 :: many (ints 3) u4 (rSt cr cd) :: mapA keyL valI g8 (rKvs cr cd) :: box g1 27 [.int .i64 (cr), vcd] :: own) (fun ⟨k, ys⟩ => (k ≤ (oAll cr cd (ones cr 1)).length) ∧ (ys = lcUp cr cd ((rSt cr cd).length + 1) ((oAll cr cd (ones cr 1)).take k))) (fun ⟨k, ys⟩ => (oAll cr cd (ones cr 1)).length - k) (0, (List.replicate ((u4.length : Nat) + 1 : Int).toNat (0 : Int))) (⟨by omega, by rw [List.take_zero, lcUp_nil]; congr 1 <;> omega⟩) ⟨rfl, rfl, rfl, rfl, rfl, trivial⟩ [] 0 rfl ?_
 rintro ⟨k, ys⟩ ⟨hk, hy⟩
 have hyl : ys.length = ((rSt cr cd).length + 1) := by rw [hy, lcUp_len]
 refine GC.seq (GC.region ?_)
 refine G.stepD (OD.lss rfl rfl rfl) rfl rfl rfl ?_
 refine G.nil (GE.then_ (GC.seq ?_))
 refine GC.cond rfl (fun hc25 => ?_) (fun hc25 => ?_)
 replace hc25 := of_decide_eq_true hc25
 have hkm := getD_mem (L := (oAll cr cd (ones cr 1))) (k := k) (by omega)
 obtain ⟨hnl, hnq, hnb⟩ := nw_of hS hkm
 have hbd := ((wlOk hS).orR _ hkm).bd (wlOk hS) (phOk hS)
 have hnk : (nwF cr cd ((oAll cr cd (ones cr 1)).getD k [])).length ≤ 16001 := nwF_len _ _ _
 have hyg : ys.getD (nwF cr cd ((oAll cr cd (ones cr 1)).getD k [])).length 0 = (cntW cr cd ((oAll cr cd (ones cr 1)).take k) (nwF cr cd ((oAll cr cd (ones cr 1)).getD k [])).length : Int) := by rw [hy, lcUp_get hnq]
 have hyg2 : ys.getD ((((nwF cr cd ((oAll cr cd (ones cr 1)).getD k [])).length : Nat) : Int)).toNat 0 = (cntW cr cd ((oAll cr cd (ones cr 1)).take k) (nwF cr cd ((oAll cr cd (ones cr 1)).getD k [])).length : Int) := hyg
 have hyb := cntW_le cr cd ((oAll cr cd (ones cr 1)).take k) (nwF cr cd ((oAll cr cd (ones cr 1)).getD k [])).length
 have htk : ((oAll cr cd (ones cr 1)).take k).length = k := by rw [List.length_take]; omega
 refine GC.skip (GE.then_ (GC.seq (GC.block (GC.seq (GC.region ?_)))))
 refine G.stepD (OD.indexAddr rfl et39 rfl (Ent.lst (i := 1) rfl) rfl (by omega)) rfl rfl rfl ?_
 refine G.stepD (OD.loadElem rfl ti22 rfl (Ent.lst (i := 1) rfl) (by omega) rfl) rfl rfl rfl ?_
 refine G.stepD (OD.assign rfl rfl) rfl rfl rfl ?_
 refine G.nil (GE.then_ (GC.region ?_))
 refine G.stepD (OD.move rfl rfl) rfl rfl rfl ?_
 refine G.stepD (OD.loadAgg rfl ti27 rfl (i := 7) rfl (us := [.int .i64 (cr), vcd]) rfl rfl) rfl rfl rfl ?_
 refine G.stepD (OD.move rfl rfl) rfl rfl rfl ?_
 refine G.step (OG.call [.agg #[.int .i64 (cr), vcd], (u24.getD (k) undef)] ent61 rfl rfl rfl rfl (by exact (normalOf_w scd (Ent.drop 8 ecd) (hs21.get (by omega)) (Ent.manyInts (i := 2) rfl ⟨by first | omega | (simp; omega), by first | omega | (simp; omega)⟩) ((tyS_ok hS).1) ((tyS_ok hS).2) (phOk hS) (hbd)))) rfl rfl rfl ?_
 rintro v26 _ ⟨_, rfl, hs27, rfl⟩
 refine G.stepD (OD.len rfl rfl et22 rfl (Ent.ints (i := 0) rfl)) rfl rfl rfl ?_
 refine G.stepD (OD.indexAddr rfl et22 rfl (Ent.ints (i := 4) rfl) rfl (by omega)) rfl rfl rfl ?_
 refine G.stepD (OD.loadInt rfl ti3 rfl (Ent.ints (i := 4) rfl) (by omega)) rfl rfl rfl ?_
 refine G.stepD (OD.addI rfl rfl rfl (by omega)) rfl rfl rfl ?_
 refine G.stepD (OD.indexAddr rfl et22 rfl (Ent.ints (i := 4) rfl) rfl (by omega)) rfl rfl rfl ?_
 refine G.stepD0 (OD.storeInt rfl ti3 rfl rfl (i := 4) rfl (by omega)) rfl rfl ?_
 refine G.nil (GE.blockN (GE.then_ (GC.region ?_)))
 refine G.stepD (OD.addI rfl rfl rfl (by first | omega | (simp only [List.length_set, List.length_replicate]; omega))) rfl rfl rfl ?_
 refine G.stepD (OD.move rfl rfl) rfl rfl rfl ?_
 refine G.nil ?_
 exact GE.again (k + 1, ((ys).set ((nwF cr cd ((oAll cr cd (ones cr 1)).getD (k) [])).length) ((ys.getD ((nwF cr cd ((oAll cr cd (ones cr 1)).getD (k) [])).length) 0) + 1))) (⟨by omega, by rw [hy, take_getL (by omega)]; exact lcUp_next hnq⟩) (by first | omega | (dsimp only; omega)) ⟨rfl, rfl, rfl, rfl, rfl, trivial⟩ [1, 1, 1, 1, 1, 1, 1, 1] 1 rfl
 replace hc25 := of_decide_eq_false hc25
 refine GC.exit (GE.pass (GE.pass (GE.hit (GE.then_ (GC.seq (GC.region ?_))))))
 refine G.stepD (OD.move rfl rfl) rfl rfl rfl ?_
 refine G.stepD (OD.assign rfl rfl) rfl rfl rfl ?_
 refine G.nil (GE.then_ (GC.ret ?_))
 exact GE.body [3] 7 (res1 rfl rfl) rfl (⟨v9, rfl, hs10, congrArg (fun (l0 : List Int) => ints 3 v9 l0 :: own) ((by rw [lcOf, if_pos hS, ← lc_all hS, hy, List.take_of_length_le (by omega)] : ys = lcOf cr cd))⟩)
end Go.Proofs.YtgelkakjmbiibaaGreatDoor
