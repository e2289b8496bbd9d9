/-
  The order of a Weyl group: contracts by walks.
-/
import Derived.Test.YtgelkakjmbiibaaGreatDoorFct
import Derived.Test.YtgelkakjmbiibaaGreatDoorWOrI
import Derived.Test.YtgelkakjmbiibaaGreatDoorLvN
import Derived.Test.YtgelkakjmbiibaaGreatDoorWOrT
import Derived.Test.YtgelkakjmbiibaaGreatDoorZ22
namespace Go.Proofs.YtgelkakjmbiibaaGreatDoor
set_option linter.unusedVariables false
set_option linter.unusedSimpArgs false
open Go.RowKit
theorem ent63 : ∀ us w, (callFunc 63 us).run Tryz.prog w = .ok (.enter 63 us) w := fun us w => by kernel_rfl
set_option maxRecDepth 100000 in
theorem weylOrder_w {W : World} {own : List Asn} {cr : Int} {vcd : Value} {cd : List Int}  (scd : IsS vcd) (ecd : Ent own fun w => Ints w vcd cd)  (hl0 : cd.length ≤ 1073741824) (hg : Ent own fun w => ∃ m, w.cell? ⟨Tryz.l146_ren.g 1, 0, none⟩ = some (.int .i64 m)) (htab : Ent own Pow10) : Spec Tryz.prog 33 [.agg #[.int .i64 (cr), vcd]] W own (fun v ow => v = .int .i64 (woF cr cd) ∧ ow = own) := by
 refine Spec.enter Tryz.f33 _ Tryz.func33 rfl (n := 11) rfl rfl ?_
 refine GC.seq (GC.region ?_)
 refine G.step (OG.box (cs := [.int .i64 (cr), vcd]) rfl rfl rfl) rfl rfl rfl ?_
 rintro _ _ ⟨g1, rfl, rfl⟩
 refine G.stepD (OD.assign rfl rfl) rfl rfl rfl ?_
 refine G.nil (GE.then_ (GC.seq (GC.seq (GC.region ?_))))
 refine G.stepD (OD.loadAgg rfl ti27 rfl (i := 0) rfl (us := [.int .i64 (cr), vcd]) rfl rfl) rfl rfl rfl ?_
 refine G.step (OG.call [.agg #[.int .i64 (cr), vcd]] ent43 rfl rfl rfl rfl (by exact (isCartan_w scd (Ent.drop 1 ecd) (hl0) ((Ent.drop 1 hg))))) rfl rfl rfl ?_
 rintro _ _ ⟨rfl, rfl⟩
 refine G.stepD (OD.not rfl rfl) rfl rfl rfl ?_
 refine G.nil (GE.then_ ?_)
 refine GC.cond rfl (fun hc2 => ?_) (fun hc2 => ?_)
 replace hc2 := eq_false_of_not hc2
 have hS := hc2
 refine GC.seq (GC.region ?_)
 refine G.stepD (OD.assign rfl rfl) rfl rfl rfl ?_
 refine G.nil (GE.then_ (GC.ret (GE.passR ?_)))
 exact GE.body [] 1 (res1 rfl rfl) rfl (⟨congrArg (fun (a0 : Int) => (.int .i64 (a0) : Value)) ((by rw [woF, hS] <;> rfl : (0 : Int) = woF cr cd)), rfl⟩)
 replace hc2 := eq_true_of_not hc2
 have hS := hc2
 refine GC.skip (GE.then_ (GC.seq ?_))
 refine GC.at [] 0 (env' := [(1, .pointer (some ⟨g1, 0, none⟩)), (2, .int .i64 (0))]) ⟨rfl, rfl, trivial⟩ rfl ?_
 refine GC.par (its := [⟨6, [], [], [], [], fun _ => .agg #[.int .i64 (cr), vcd], fun _ => True, fun _ => []⟩,
     ⟨7, [], [], [], [], fun _ => .agg #[.int .i64 (cr), vcd], fun _ => True, fun _ => []⟩,
     ⟨8, [(1, 7)], [], [], [2], fun ds => ((ds.getD 0 []).getD 0 undef), fun ds => IsS ((ds.getD 0 []).getD 0 undef), fun ds => [ints 3 ((ds.getD 0 []).getD 0 undef) (ones cr 1)]⟩,
     ⟨9, [(0, 6), (2, 8)], [2], [], [2, 3], fun ds => ((ds.getD 1 []).getD 0 undef), fun ds => IsS ((ds.getD 1 []).getD 0 undef) ∧ AllS (usOf ((ds.getD 1 []).getD 1 undef)) ∧ (usOf ((ds.getD 1 []).getD 1 undef)).length = (oAll cr cd (ones cr 1)).length, fun ds => [lst 22 ((ds.getD 1 []).getD 0 undef) (usOf ((ds.getD 1 []).getD 1 undef)), many (ints 3) (usOf ((ds.getD 1 []).getD 1 undef)) (oAll cr cd (ones cr 1))]⟩,
     ⟨10, [(3, 9)], [2, 3], [], [2, 3], fun ds => .int .i64 (((usOf ((ds.getD 1 []).getD 1 undef)).length : Nat)), fun _ => True, fun _ => []⟩]) (by kernel_rfl) (by kernel_rfl) (POps.cons ?_ (POps.cons ?_ (POps.cons ?_ (POps.cons ?_ (POps.cons ?_ POps.nil))))) ?_
 intro θ R hd
 exact Opp.plain (OG.imp (OD.loadAgg rfl ti27 rfl (i := 0) rfl (us := [.int .i64 (cr), vcd]) rfl rfl) (by rintro _ _ ⟨rfl, rfl⟩; exact ⟨[], rfl, trivial, rfl⟩)) rfl
 intro θ R hd
 exact Opp.plain (OG.imp (OD.loadAgg rfl ti27 rfl (i := 0) rfl (us := [.int .i64 (cr), vcd]) rfl rfl) (by rintro _ _ ⟨rfl, rfl⟩; exact ⟨[], rfl, trivial, rfl⟩)) rfl
 intro θ R hd
 obtain ⟨h1d, _⟩ := hd
 exact Opp.plain (OG.imp (OG.call [.agg #[.int .i64 (cr), vcd]] ent63 rfl rfl rfl rfl (by exact (rho_w scd (Ent.drop 1 ecd.app) ((tyS_ok hS).1)))) (by rintro v3 _ ⟨_, rfl, hs4, rfl⟩; exact ⟨[v3], rfl, hs4, rfl⟩)) rfl
 intro θ R hd
 obtain ⟨h0d, h2d, _⟩ := hd
 exact Opp.plain (OG.imp (OG.call [.agg #[.int .i64 (cr), vcd], ((θ 2).getD 0 undef)] ent83 rfl rfl rfl rfl (by exact (orbit_w scd (Ent.drop 2 ecd.app) h2d (Ent.ints (i := 0) rfl) ((tyS_ok hS).1) ((tyS_ok hS).2) (by have h1 := (tyS_ok hS).1; rw [ones_len]; omega) (ones_64) ((Ent.drop 2 htab.app))))) (by rintro v5 _ ⟨_, u6, rfl, hs7, hs8, hs9, rfl⟩; exact ⟨[v5, .agg u6.toArray], rfl, ⟨hs7, hs8, hs9⟩, rfl⟩)) rfl
 intro θ R hd
 obtain ⟨h3d, _⟩ := hd
 exact Opp.plain (OG.imp (OD.len rfl rfl et39 rfl (Ent.lst (i := 1) rfl)) (by rintro _ _ ⟨rfl, rfl⟩; exact ⟨[], rfl, trivial, rfl⟩)) rfl
 intro θ hall
 obtain ⟨_, _, h2a, h3a, _, _⟩ := hall
 refine G.at [] 0 (env' := [(2, .int .i64 (0)), (10, .int .i64 (((usOf ((θ 3).getD 1 undef)).length : Nat)))]) ⟨rfl, rfl, trivial⟩ (own' := ints 3 ((θ 2).getD 0 undef) (ones cr 1) :: lst 22 ((θ 3).getD 0 undef) (usOf ((θ 3).getD 1 undef)) :: many (ints 3) (usOf ((θ 3).getD 1 undef)) (oAll cr cd (ones cr 1)) :: box g1 27 [.int .i64 (cr), vcd] :: own) rfl ?_
 have hs10 : IsS ((θ 2).getD 0 undef) := h2a
 clear h2a
 generalize ((θ 2).getD 0 undef) = v11 at *
 have hs12 : IsS ((θ 3).getD 0 undef) := h3a.1
 have hs13 : AllS (usOf ((θ 3).getD 1 undef)) := h3a.2.1
 have hs14 : (usOf ((θ 3).getD 1 undef)).length = (oAll cr cd (ones cr 1)).length := h3a.2.2
 clear h3a
 generalize ((θ 3).getD 0 undef) = v15 at *
 generalize (usOf ((θ 3).getD 1 undef)) = u16 at *
 show G _ _ _ [_] _ _ _ _
 refine G.stepD (OD.assign rfl rfl) rfl rfl rfl ?_
 refine G.nil (GE.then_ (GC.ret ?_))
 exact GE.body [] 4 (res1 rfl rfl) rfl (⟨congrArg (fun (a0 : Int) => (.int .i64 (a0) : Value)) ((by rw [woF, if_pos hS]; omega : ((u16.length : Nat) : Int) = woF cr cd)), rfl⟩)
end Go.Proofs.YtgelkakjmbiibaaGreatDoor

namespace Go.Proofs.YtgelkakjmbiibaaGreatDoor
set_option linter.unusedVariables false
set_option linter.unusedSimpArgs false
def soF (n : Int) (d w : List Int) : Int := if (orOf n d w).length = 0 then 0 else IntKind.i64.wrap (((oAll n d (ones n 1)).length : Int).tdiv ((orOf n d w).length : Nat))
theorem or_ty {n : Int} {d w : List Int} (h : (orOf n d w).length ≠ 0) : (tyS n d).isSome = true := by
  cases e : (tyS n d).isSome with
  | true => rfl
  | false => exact absurd (by rw [orOf, e]; rfl) h
theorem so_zero {n : Int} {d w : List Int} {m : Nat} (hm : m = (orOf n d w).length) (h : (m : Int) = 0) : 0 = soF n d w := by
  rw [soF, if_pos (by omega)]
theorem so_spec {n : Int} {d w : List Int} {m : Nat} (hm : m = (orOf n d w).length) (h : (m : Int) ≠ 0) : IntKind.i64.wrap (((oAll n d (ones n 1)).length : Int).tdiv (m : Nat)) = soF n d w := by
  rw [soF, if_neg (by omega), hm]
theorem so_impl {n : Int} {d w : List Int} {m : Nat} (hm : m = (orOf n d w).length) (h : (m : Int) ≠ 0) : IntKind.i64.wrap ((woF n d).tdiv (m : Nat)) = soF n d w := by
  rw [woF, if_pos (or_ty (w := w) (by omega))]
  exact so_spec hm h
end Go.Proofs.YtgelkakjmbiibaaGreatDoor

namespace Go.Proofs.YtgelkakjmbiibaaGreatDoor
set_option linter.unusedVariables false
set_option linter.unusedSimpArgs false
open Go.RowKit
theorem ent30 : ∀ us w, (callFunc 30 us).run Tryz.prog w = .ok (.enter 30 us) w := fun us w => by kernel_rfl
theorem ent33 : ∀ us w, (callFunc 33 us).run Tryz.prog w = .ok (.enter 33 us) w := fun us w => by kernel_rfl
set_option maxRecDepth 100000 in
theorem stab_w {W : World} {own : List Asn} {cr : Int} {vcd : Value} {cd : List Int} {vx : Value} {x : List Int}  (scd : IsS vcd) (ecd : Ent own fun w => Ints w vcd cd)   (sx : IsS vx) (ex : Ent own fun w => Ints w vx x)  (hl0 : cd.length ≤ 1073741824) (hl : x.length ≤ 1073741824) (h64 : All64 x) (hg : Ent own fun w => ∃ m, w.cell? ⟨Tryz.l146_ren.g 1, 0, none⟩ = some (.int .i64 m)) (htab : Ent own Pow10) : Spec Tryz.prog 32 [.agg #[.int .i64 (cr), vcd], vx] W own (fun v ow => v = .int .i64 (soF cr cd x) ∧ ow = own) := by
 refine Spec.enter Tryz.f32 _ Tryz.func32 rfl (n := 16) rfl rfl ?_
 refine GC.seq (GC.region ?_)
 refine G.step (OG.box (cs := [.int .i64 (cr), vcd]) rfl rfl rfl) rfl rfl rfl ?_
 rintro _ _ ⟨g1, rfl, rfl⟩
 refine G.stepD (OD.assign rfl rfl) rfl rfl rfl ?_
 refine G.nil (GE.then_ (GC.seq (GC.region ?_)))
 refine G.stepD (OD.loadAgg rfl ti27 rfl (i := 0) rfl (us := [.int .i64 (cr), vcd]) rfl rfl) rfl rfl rfl ?_
 refine G.stepD (OD.move rfl rfl) rfl rfl rfl ?_
 refine G.step (OG.call [.agg #[.int .i64 (cr), vcd], vx] ent30 rfl rfl rfl rfl (by exact (orbitOf_w scd (Ent.drop 1 ecd) sx (Ent.drop 1 ex) (hl0) (hl) (h64) ((Ent.drop 1 hg)) ((Ent.drop 1 htab))))) rfl rfl rfl ?_
 rintro v2 _ ⟨_, u3, rfl, hs4, hs5, hs6, rfl⟩
 refine G.stepD (OD.len rfl rfl et39 rfl (Ent.lst (i := 0) rfl)) rfl rfl rfl ?_
 refine G.stepD (OD.assign rfl rfl) rfl rfl rfl ?_
 refine G.nil (GE.then_ (GC.seq (GC.seq (GC.region ?_))))
 refine G.stepD (OD.move rfl rfl) rfl rfl rfl ?_
 refine G.stepD (OD.eql rfl rfl rfl) rfl rfl rfl ?_
 refine G.nil (GE.then_ ?_)
 refine GC.cond rfl (fun hc7 => ?_) (fun hc7 => ?_)
 replace hc7 := eq_of_beq hc7
 refine GC.seq (GC.region ?_)
 refine G.stepD (OD.assign rfl rfl) rfl rfl rfl ?_
 refine G.nil (GE.then_ (GC.ret (GE.passR ?_)))
 exact GE.body [] 3 (res1 rfl rfl) rfl (⟨congrArg (fun (a0 : Int) => (.int .i64 (a0) : Value)) ((so_zero (by assumption) (by assumption) : (0 : Int) = soF cr cd x)), rfl⟩)
 replace hc7 := ne_of_beq_false hc7
 have hS : (tyS cr cd).isSome = true := or_ty (w := x) (by omega)
 refine GC.skip (GE.then_ (GC.seq (GC.region ?_)))
 refine G.stepD (OD.loadAgg rfl ti27 rfl (i := 2) rfl (us := [.int .i64 (cr), vcd]) rfl rfl) rfl rfl rfl ?_
 refine G.step (OG.call [.agg #[.int .i64 (cr), vcd]] ent33 rfl rfl rfl rfl (by exact (weylOrder_w scd (Ent.drop 3 ecd) (hl0) ((Ent.drop 3 hg)) ((Ent.drop 3 htab))))) rfl rfl rfl ?_
 rintro _ _ ⟨rfl, rfl⟩
 refine G.stepD (OD.move rfl rfl) rfl rfl rfl ?_
 refine G.stepD (OD.quo rfl rfl rfl (by omega)) rfl rfl rfl ?_
 refine G.stepD (OD.assign rfl rfl) rfl rfl rfl ?_
 refine G.nil (GE.then_ (GC.ret ?_))
 exact GE.body [] 3 (res1 rfl rfl) rfl (⟨congrArg (fun (a0 : Int) => (.int .i64 (a0) : Value)) ((so_impl (by assumption) (by assumption) : (IntKind.i64.wrap ((woF cr cd).tdiv (u3.length : Nat)) : Int) = soF cr cd x)), rfl⟩)
end Go.Proofs.YtgelkakjmbiibaaGreatDoor

namespace Go.Proofs.YtgelkakjmbiibaaGreatDoor
set_option linter.unusedVariables false
set_option linter.unusedSimpArgs false
section
variable {n : Int} {d : List Int} {R : List (List Int)} {w : List Int}
theorem SmW.wt (hw : SmW n w) (hn : 0 < n) : wtOk n w = true := wtOk_of (by have := hw.len; omega) fun k hk => by
  have := hw.ent k (by have := hw.len; omega)
  omega
theorem GrOk.orYes (g : GrOk n d) (h : WlOk n d R) (hp : PhOk n d) (hS : (tyS n d).isSome = true) (hw : SmW n w) : orOf n d w = srtD (oAll n d w) ∧ (orOf n d w).length = (oAll n d w).length ∧ 1 ≤ (oAll n d w).length ∧ (∀ x ∈ orOf n d w, InOrb n d w x) ∧ ∀ u, Reach n d u → elA n d w u ∈ orOf n d w := by
  have h1 := g.orLe h hp hw
  have h2 := h.orLen
  have hb : orB n d w = true := by
    rw [orB, decide_eq_true (by omega), Bool.true_and, List.all_eq_true]
    intro x hx
    obtain ⟨u, hu, rfl⟩ := g.orR2 h hp hw x hx
    exact g.elWt h hp hw hu
  have e : orOf n d w = srtD (oAll n d w) := by rw [orOf, hS, hw.wt g.pos, orF, hb]; rfl
  refine ⟨e, by rw [e]; exact (srt_perm _).length_eq, ?_, fun x hx => ?_, fun u hu => ?_⟩
  · have := (oC_pre (n := n) (d := d) (f := 1300) (L := [w]) (k := 0)).len
    exact this
  · rw [e] at hx
    exact g.orR2 h hp hw x ((srt_perm _).mem_iff.1 hx)
  · rw [e]
    exact (srt_perm _).mem_iff.2 (g.orMem h hp hw hu)
theorem GrOk.orMul (g : GrOk n d) (h : WlOk n d R) (hp : PhOk n d) (hS : (tyS n d).isSome = true) (hw : SmW n w) : ((orOf n d w).length : Int) * soF n d w = woF n d ∧ 0 ≤ soF n d w ∧ soF n d w ≤ 1200 := by
  obtain ⟨_, e, h1, _⟩ := g.orYes h hp hS hw
  have hs := g.split h hp hw
  have h2 := h.orLen
  have hm : fibN n d w w ≤ 1200 := by
    have := List.length_filter_le (fun u => decide (elA n d w u = w)) (oAll n d (ones n 1))
    unfold fibN
    omega
  have hd : ((oAll n d (ones n 1)).length : Int).tdiv ((oAll n d w).length : Nat) = (fibN n d w w : Nat) := by
    rw [hs, Int.natCast_mul]
    exact Int.mul_tdiv_cancel _ (by omega)
  have e2 : soF n d w = (fibN n d w w : Nat) := by
    rw [soF, e, if_neg (by omega), hd, wrap_in (by omega) (by omega)]
  rw [e2, e, woF, if_pos hS, hs, Int.natCast_mul, Int.mul_comm]
  exact ⟨rfl, by omega, by omega⟩
theorem GrOk.dom2 (g : GrOk n d) (h : WlOk n d R) (hp : PhOk n d) (hw : SmW n w) : ∀ (f : Nat) {u ws a b : List Int}, Reach n d u → domS n d f (elA n d w u) ws = some (a, b) → InOrb n d w a ∧ ∀ k, k < n.toNat → 0 ≤ a.getD k 0
  | 0, _, _, _, _, _, hd => by cases hd
  | f + 1, u, ws, a, b, hu, hd => by
    have hwt := g.elWt h hp hw hu
    by_cases hf : fpos (elA n d w u) < 0
    · obtain ⟨e1, _⟩ := domS_end hd hwt hf
      subst e1
      exact ⟨⟨u, hu, rfl⟩, fpos_none (elA_len hw.len u) hf⟩
    · obtain ⟨f', e1, h2⟩ := domS_step hd hwt hf
      obtain rfl : f = f' := by omega
      obtain ⟨a1, a2, a3⟩ := fpos_at hf
      rw [elA_len hw.len] at a2
      have ei : fpos (elA n d w u) = ((fpos (elA n d w u)).toNat : Int) := by omega
      rw [ei, g.elRf h hp hw hu a2] at h2
      exact g.dom2 h hp hw f (hu.step a2) h2
theorem GrOk.orLaw (g : GrOk n d) (h : WlOk n d R) (hp : PhOk n d) (hS : (tyS n d).isSome = true) (hw : SmW n w) {v : List Int} (hv : rngW n v) (hvl : v.length ≤ 60) :
    dmOf n d w = dmF n d w ∧ actOf n d (dmF n d w).2 w = (dmF n d w).1 ∧ actOf n d v w ∈ orOf n d w ∧ (actOf n d v w).length = n.toNat ∧ wtOk n (actOf n d v w) = true ∧ (dmOf n d (actOf n d v w)).1 = (dmF n d w).1 ∧
    ∀ x ∈ orOf n d w, x.length = n.toNat ∧ (x = (dmF n d w).1 ↔ ∀ k, k < n.toNat → 0 ≤ x.getD k 0) := by
  have hwt := hw.wt g.pos
  obtain ⟨dO, dr, da, dd, dl⟩ := g.domF h hp hw
  obtain ⟨o1, o2, o3, o4, o5⟩ := g.orYes h hp hS hw
  have wB : ∀ {t : List Int}, rngW n t → t.length ≤ 60 → wordB n d t = true := fun {t} ht hl => by
    rw [wordB, hS, Bool.true_and, wdOk, decide_eq_true (by omega), Bool.true_and, Bool.not_eq_true']
    refine List.any_eq_false.2 fun y hy => ?_
    have := ht y hy
    simp [inB, this.1, show y ≤ n - 1 by omega]
  have ea : ∀ {t : List Int}, rngW n t → t.length ≤ 60 → actOf n d t w = elA n d w (acN n d t (ones n 1)) := fun {t} ht hl => by
    rw [actOf, wB ht hl, hwt]
    exact g.elWord h hp hw ht
  have er : actOf n d (dmF n d w).2 w = (dmF n d w).1 := by rw [ea dr (by omega), da, g.elWord h hp hw dr]
  have hu := acN_reach (d := d) hv
  refine ⟨by rw [dmOf, hS, hwt]; rfl, er, by rw [ea hv hvl]; exact o5 _ hu, by rw [ea hv hvl]; exact elA_len hw.len _, by rw [ea hv hvl]; exact g.elWt h hp hw hu, ?_, fun x hx => ?_⟩
  · rw [ea hv hvl]
    have hwt2 := g.elWt h hp hw hu
    have e2 : dmOf n d (elA n d w (acN n d v (ones n 1))) = dmF n d (elA n d w (acN n d v (ones n 1))) := by rw [dmOf, hS, hwt2]; rfl
    rw [e2]
    have hn := g.pos
    obtain ⟨q1, q2⟩ := g.dom2 h hp hw _ hu (domS_ok hp (by omega) hwt2)
    exact g.domOne h hp hw dO q1 dd q2
  · have hx2 := o4 x hx
    have hl : x.length = n.toNat := by
      obtain ⟨u, _, rfl⟩ := hx2
      exact elA_len hw.len u
    exact ⟨hl, fun e => by rw [e]; exact dd, fun hd => g.domOne h hp hw dO hx2 dd hd⟩
end
theorem wo_bd {n : Int} {d : List Int} (hS : (tyS n d).isSome = true) : 0 ≤ woF n d ∧ woF n d ≤ 1204 := by
  have := (wlOk hS).orLen
  rw [woF, if_pos hS]
  omega
end Go.Proofs.YtgelkakjmbiibaaGreatDoor
