/-
  Climbing to a dominant weight: contracts by walks.
-/
import Derived.Test.YtgelkakjmbiibaaGreatDoorFct
import Derived.Test.YtgelkakjmbiibaaGreatDoorWRhoA
namespace Go.Proofs.YtgelkakjmbiibaaGreatDoor
set_option linter.unusedVariables false
set_option linter.unusedSimpArgs false
open Go.RowKit
set_option maxHeartbeats 4000000 in
set_option maxRecDepth 100000 in
theorem normalOf_w {W : World} {own : List Asn} {cr : Int} {vcd : Value} {cd : List Int} {vx : Value} {x : List Int}  (scd : IsS vcd) (ecd : Ent own fun w => Ints w vcd cd)   (sx : IsS vx) (ex : Ent own fun w => Ints w vx x)  (hcr : 1 ≤ cr ∧ cr ≤ 4) (hcd : (cd.length : Int) = cr * cr) (hp : PhOk cr cd) (hb : Bd cr cd x) : Spec Tryz.prog 61 [.agg #[.int .i64 (cr), vcd], vx] W own (fun v ow => ∃ (r0 : Value), v = r0 ∧ IsS r0 ∧ ow = ints 3 r0 (nwF cr cd x) :: own) := by
 refine Spec.enter Tryz.f61 _ Tryz.func61 rfl (n := 21) rfl rfl ?_
 refine GC.seq (GC.region ?_)
 refine G.step (OG.box (cs := [.int .i64 (cr), vcd]) rfl rfl rfl) rfl rfl rfl ?_
 rintro _ _ ⟨g1, rfl, rfl⟩
 refine G.stepD (OD.assign rfl rfl) rfl rfl rfl ?_
 refine G.nil (GE.then_ (GC.seq (GC.region ?_)))
 refine G.step (OG.buildInts (xs := []) (is := []) rfl et22 rfl rfl rfl rfl rfl) rfl rfl rfl ?_
 rintro v2 _ ⟨hs3, rfl⟩
 refine G.stepD (OD.assign rfl rfl) rfl rfl rfl ?_
 refine G.nil (GE.then_ (GC.block ?_))
 obtain ⟨x1, hc0⟩ := climb_ok hp hb
 have hbl := hb.1
 refine GC.many0 (ints 3) ?_
 refine GC.at [1, 1, 0] 0 (env' := [(0, .agg #[.int .i64 (cr), vcd]), (1, vx), (2, .pointer (some ⟨g1, 0, none⟩)), (4, .slice none 0 0), (7, v2), (5, v2)]) ⟨rfl, rfl, rfl, rfl, rfl, rfl, trivial⟩ (own' := ints 3 v2 [] :: box g1 27 [.int .i64 (cr), vcd] :: many (ints 3) [] [] :: own) rfl ?_
 refine GC.loop (ι := Nat × List Int × List Int × List Int × Value × Value × Asn) (fun ⟨f, w, ws, rest, v, u, X⟩ => [(2, .pointer (some ⟨g1, 0, none⟩)), (1, v), (5, u)]) (fun ⟨f, w, ws, rest, v, u, X⟩ => ints 3 u ws :: box g1 27 [.int .i64 (cr), vcd] :: X :: own) (fun ⟨f, w, ws, rest, v, u, X⟩ => (IsS v) ∧ (Ent (X :: own) fun w_ => Ints w_ v w) ∧ (IsS u) ∧ ((w.length : Int) = cr) ∧ (climb cr cd f w = some (x1, rest)) ∧ (ws ++ rest = nwF cr cd x) ∧ (f + ws.length ≤ 16001)) (fun ⟨f, w, ws, rest, v, u, X⟩ => f) (16001, x, [], (nwF cr cd x), vx, v2, (many (ints 3) [] [])) (⟨sx, Ent.drop 1 ex, hs3, by omega, hc0, List.nil_append _, by simp⟩) ⟨rfl, rfl, rfl, trivial⟩ [] 0 rfl ?_
 rintro ⟨f, w, ws, rest, v, u, X⟩ ⟨hv, hE, hu, hwl, hcl, hws, hwf⟩
 refine GC.block (GC.seq (GC.region ?_))
 refine G.stepD (OD.move rfl rfl) rfl rfl rfl ?_
 refine G.step (OG.call [v, .func (.func 120) #[] #[]] ent89 rfl rfl rfl rfl (by exact (indexFuncN_w hv (Ent.drop 2 hE) (by omega)))) rfl rfl rfl ?_
 rintro _ _ ⟨rfl, rfl⟩
 refine G.stepD (OD.assign rfl rfl) rfl rfl rfl ?_
 refine G.nil (GE.then_ (GC.seq (GC.seq (GC.region ?_))))
 refine G.stepD (OD.move rfl rfl) rfl rfl rfl ?_
 refine G.stepD (OD.lss rfl rfl rfl) rfl rfl rfl ?_
 refine G.nil (GE.then_ ?_)
 refine GC.cond rfl (fun hc4 => ?_) (fun hc4 => ?_)
 replace hc4 := of_decide_eq_true hc4
 obtain ⟨_, hrn⟩ := climb_end hcl hc4
 refine GC.seq (GC.region ?_)
 refine G.stepD (OD.move rfl rfl) rfl rfl rfl ?_
 refine G.stepD (OD.assign rfl rfl) rfl rfl rfl ?_
 refine G.nil (GE.then_ (GC.ret (GE.passR (GE.blockR (GE.passR (GE.blockR ?_))))))
 exact GE.body [0] 2 (res1 rfl rfl) rfl (⟨u, rfl, hu, congrArg (fun (l0 : List Int) => ints 3 u l0 :: own) ((by rw [← hws, ← hrn, List.append_nil] : ws = nwF cr cd x))⟩)
 replace hc4 := of_decide_eq_false hc4
 obtain ⟨g2, z2, hg2, hcl2, hrz⟩ := climb_step hcl hc4
 have hfa : 0 ≤ posF (fun (y : Int) => decide (y < 0)) w ∧ (posF (fun (y : Int) => decide (y < 0)) w).toNat < w.length ∧ w.getD (posF (fun (y : Int) => decide (y < 0)) w).toNat 0 < 0 := fpos_at hc4
 refine GC.skip (GE.then_ (GC.seq (GC.region ?_)))
 refine G.stepD (OD.move rfl rfl) rfl rfl rfl ?_
 refine G.stepD (OD.move rfl rfl) rfl rfl rfl ?_
 refine G.step (OG.buildInts (xs := [.tmp 14]) (is := [posF (fun (y : Int) => decide (y < 0)) w]) rfl et22 rfl rfl rfl rfl rfl) rfl rfl rfl ?_
 rintro v5 _ ⟨hs6, rfl⟩
 refine G.step (OG.appendInts 1 rfl rfl et22 rfl rfl rfl (Ent.ints (i := 0) rfl) (by first | omega | (simp; omega))) rfl rfl rfl ?_
 rintro v7 _ ⟨hs8, rfl⟩
 refine G.stepD (OD.assign rfl rfl) rfl rfl rfl ?_
 refine G.nil (GE.then_ (GC.region ?_))
 refine G.stepD (OD.loadAgg rfl ti27 rfl (i := 2) rfl (us := [.int .i64 (cr), vcd]) rfl rfl) rfl rfl rfl ?_
 refine G.stepD (OD.move rfl rfl) rfl rfl rfl ?_
 refine G.stepD (OD.move rfl rfl) rfl rfl rfl ?_
 refine G.step (OG.call [.agg #[.int .i64 (cr), vcd], .int .i64 (posF (fun (y : Int) => decide (y < 0)) w), v] ent67 rfl rfl rfl rfl (by exact (reflectWeight_w scd (Ent.drop 4 ecd) hv (Ent.drop 3 hE) (hcr) (hcd) (⟨hfa.1, by omega⟩) (hwl)))) rfl rfl rfl ?_
 rintro v9 _ ⟨_, rfl, hs10, rfl⟩
 refine G.stepD (OD.assign rfl rfl) rfl rfl rfl ?_
 refine G.nil (GE.blockN ?_)
 exact GE.again (g2, rfF cr cd (posF (fun (y : Int) => decide (y < 0)) w) w, ws ++ [posF (fun (y : Int) => decide (y < 0)) w], z2, v9, v7, (ints 3 v9 (rfF cr cd (posF (fun (y : Int) => decide (y < 0)) w) w))) (⟨hs10, (Ent.ints (i := 0) rfl), hs8, by rw [rfF_len]; exact hwl, hcl2, by rw [hrz] at hws; exact (List.append_assoc _ _ _).trans hws, by rw [List.length_append, List.length_singleton]; omega⟩) (by first | omega | (dsimp only; omega)) ⟨rfl, rfl, rfl, trivial⟩ [2, 2, 0] 2 rfl
end Go.Proofs.YtgelkakjmbiibaaGreatDoor
