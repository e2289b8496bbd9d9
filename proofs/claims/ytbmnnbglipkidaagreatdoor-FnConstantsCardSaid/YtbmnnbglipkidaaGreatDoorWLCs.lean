/-
  The law on constants that are drawn.
-/
import Derived.Test.YtbmnnbglipkidaaGreatDoorFct
import Derived.Test.YtbmnnbglipkidaaGreatDoorWDrR
import Derived.Test.YtbmnnbglipkidaaGreatDoorWInO
import Derived.Test.YtbmnnbglipkidaaGreatDoorWCns
import Derived.Test.YtbmnnbglipkidaaGreatDoorCnt
import Derived.Test.YtbmnnbglipkidaaGreatDoorZ19
import Derived.Test.YtbmnnbglipkidaaGreatDoorZ12
namespace Go.Proofs.YtbmnnbglipkidaaGreatDoor
set_option linter.unusedVariables false
set_option linter.unusedSimpArgs false
open Go.RowKit
theorem ent12 : ∀ us w, (callFunc 12 us).run Tryz.prog w = .ok (.enter 12 us) w := fun us w => by kernel_rfl
theorem ent15 : ∀ us w, (callFunc 15 us).run Tryz.prog w = .ok (.enter 15 us) w := fun us w => by kernel_rfl
theorem ent16 : ∀ us w, (callFunc 16 us).run Tryz.prog w = .ok (.enter 16 us) w := fun us w => by kernel_rfl
theorem ent17 : ∀ us w, (callFunc 17 us).run Tryz.prog w = .ok (.enter 17 us) w := fun us w => by kernel_rfl
theorem ent18 : ∀ us w, (callFunc 18 us).run Tryz.prog w = .ok (.enter 18 us) w := fun us w => by kernel_rfl
theorem ent20 : ∀ us w, (callFunc 20 us).run Tryz.prog w = .ok (.enter 20 us) w := fun us w => by kernel_rfl
theorem ent21 : ∀ us w, (callFunc 21 us).run Tryz.prog w = .ok (.enter 21 us) w := fun us w => by kernel_rfl
theorem ent22 : ∀ us w, (callFunc 22 us).run Tryz.prog w = .ok (.enter 22 us) w := fun us w => by kernel_rfl
theorem ent49 : ∀ us w, (callFunc 49 us).run Tryz.prog w = .ok (.enter 49 us) w := fun us w => by kernel_rfl
theorem bt4 : BT Tryz.prog 4 := ⟨fun a b w => by cases a <;> cases b <;> kernel_rfl, fun a b w => by cases a <;> cases b <;> kernel_rfl⟩
set_option maxRecDepth 100000 in
theorem sum2_w {W : World} {own : List Asn} {vx : Value} {x : List Int} {vy : Value} {y : List Int}  (sx : IsS vx) (ex : Ent own fun w => Ints w vx x)   (sy : IsS vy) (ey : Ent own fun w => Ints w vy y)  (hl : x.length ≤ 1073741824) (hle : x.length ≤ y.length) : Spec Tryz.prog 49 [vx, vy] W own (fun v ow => ∃ (r0 : Value), v = r0 ∧ IsS r0 ∧ ow = ints 3 r0 (adF x y) :: own) := by
 refine Spec.enter Tryz.f49 _ Tryz.func49 rfl (n := 29) rfl rfl ?_
 refine Zs (Zr ?_)
 refine Za rfl rfl rfl rfl rfl ?_
 refine Zn (Zt (Zs (Zr ?_)))
 refine G.step (OG.buildInts (xs := []) (is := []) rfl et22 rfl rfl rfl rfl rfl) rfl rfl rfl ?_
 rintro v1 _ ⟨hs2, rfl⟩
 refine Zm rfl rfl rfl rfl rfl ?_
 refine G.step (OG.appendInts 0 rfl rfl et22 rfl rfl rfl (Ent.drop 1 ex) (by first | omega | (simp; omega))) rfl rfl rfl ?_
 rintro v3 _ ⟨hs4, rfl⟩
 refine G.ownEq (own' := ints 3 v3 x :: own) (by rw [List.nil_append] <;> rfl) ?_
 skip
 refine Za rfl rfl rfl rfl rfl ?_
 refine Zn (Zt (Zs (Zs (Zr ?_))))
 refine Za rfl rfl rfl rfl rfl ?_
 refine Zn (Zt (GC.block ?_))
 refine GC.loop (ι := Nat × List Int) (fun ⟨i, ys⟩ => [(1, vy), (5, v3), (6, .int .i64 ((i : Int)))]) (fun ⟨i, ys⟩ => ints 3 v3 ys :: own) (fun ⟨i, ys⟩ => (i ≤ x.length) ∧ (ys.length = x.length) ∧ (ys = (List.range i).foldl (adS y) x)) (fun ⟨i, ys⟩ => x.length - i) (0, x) (⟨by omega, rfl, rfl⟩) ⟨rfl,rfl,rfl,trivial⟩ [] 0 rfl ?_
 rintro ⟨i, ys⟩ ⟨hi, hyl, hys⟩
 refine Zs (Zs (Zr ?_))
 refine Zm rfl rfl rfl rfl rfl ?_
 refine Zm rfl rfl rfl rfl rfl ?_
 refine G.stepD (OD.len rfl rfl et22 rfl (Ent.ints (i := 0) rfl)) rfl rfl rfl ?_
 refine G.stepD (OD.lss rfl rfl rfl) rfl rfl rfl ?_
 refine Zn (Zt ?_)
 refine GC.cond rfl (fun hc5 => ?_) (fun hc5 => ?_)
 replace hc5 := of_decide_eq_true hc5
 refine Zk (Zt (Zs (GC.block ?_)))
 refine GC.at [] 0 (env' := [(1, vy), (5, v3), (6, .int .i64 ((i : Int)))]) ⟨rfl,rfl,rfl,trivial⟩ rfl ?_
 refine GC.par (its := [Z0 16 v3,
     Z0 17 (.int .i64 ((i : Int))),
     Z0 18 v3,
     Z0 19 (.int .i64 ((i : Int))),
     Z1 20 [(2, 18), (3, 19)] (elemPtr v3 1 (i)),
     Z1 21 [(4, 20)] (.int .i64 (ys.getD (i) 0)),
     Z0 22 vy,
     Z0 23 (.int .i64 ((i : Int))),
     Z1 24 [(6, 22), (7, 23)] (elemPtr vy 1 (i)),
     Z1 25 [(8, 24)] (.int .i64 (y.getD (i) 0)),
     Z1 26 [(5, 21), (9, 25)] (.int .i64 (IntKind.i64.wrap ((ys.getD (i) 0) + (y.getD (i) 0)))),
     Z1 27 [(0, 16), (1, 17)] (elemPtr v3 1 (i))]) (by kernel_rfl) (by kernel_rfl) (POps.cons ?_ (POps.cons ?_ (POps.cons ?_ (POps.cons ?_ (POps.cons ?_ (POps.cons ?_ (POps.cons ?_ (POps.cons ?_ (POps.cons ?_ (POps.cons ?_ (POps.cons ?_ (POps.cons ?_ POps.nil)))))))))))) ?_
 exact fun θ R hd => Zq (OD.move rfl rfl) rfl rfl trivial rfl
 exact fun θ R hd => Zq (OD.move rfl rfl) rfl rfl trivial rfl
 exact fun θ R hd => Zq (OD.move rfl rfl) rfl rfl trivial rfl
 exact fun θ R hd => Zq (OD.move rfl rfl) rfl rfl trivial rfl
 exact fun θ R ⟨h2d, h3d, _⟩ => Zq (OD.indexAddr rfl et22 rfl (Ent.ints (i := 0) rfl) rfl (by omega)) rfl rfl trivial rfl
 exact fun θ R ⟨h4d, _⟩ => Zq (OD.loadInt rfl ti3 rfl (Ent.ints (i := 0) rfl) (by omega)) rfl rfl trivial rfl
 exact fun θ R hd => Zq (OD.move rfl rfl) rfl rfl trivial rfl
 exact fun θ R hd => Zq (OD.move rfl rfl) rfl rfl trivial rfl
 exact fun θ R ⟨h6d, h7d, _⟩ => Zq (OD.indexAddr rfl et22 rfl (Ent.drop 1 ey.app) rfl (by omega)) rfl rfl trivial rfl
 exact fun θ R ⟨h8d, _⟩ => Zq (OD.loadInt rfl ti3 rfl (Ent.drop 1 ey.app) (by omega)) rfl rfl trivial rfl
 exact fun θ R ⟨h5d, h9d, _⟩ => Zq (OD.add rfl rfl rfl) rfl rfl trivial rfl
 exact fun θ R ⟨h0d, h1d, _⟩ => Zq (OD.indexAddr rfl et22 rfl (Ent.ints (i := 0) rfl) rfl (by omega)) rfl rfl trivial rfl
 intro θ hall
 obtain ⟨_, _, _, _, _, _, _, _, _, _, _, _, _⟩ := hall
 refine G.at [] 0 (env' := [(1, vy), (5, v3), (6, .int .i64 ((i : Int))), (26, .int .i64 (IntKind.i64.wrap ((ys.getD (i) 0) + (y.getD (i) 0)))), (27, elemPtr v3 1 (i))]) ⟨rfl,rfl,rfl,rfl,rfl,trivial⟩ (own' := ints 3 v3 ys :: own) rfl ?_
 show G _ _ _ [_] _ _ _ _
 refine G.stepD0 (OD.storeInt rfl ti3 rfl rfl (i := 0) rfl (by omega)) rfl rfl ?_
 refine Zn (GE.blockN (Zt (Zr ?_)))
 refine Zm rfl rfl rfl rfl rfl ?_
 refine G.stepD (OD.addI rfl rfl rfl (by first | omega | (simp only [List.length_set, List.length_replicate]; omega))) rfl rfl rfl ?_
 refine Za rfl rfl rfl rfl rfl ?_
 refine Zn ?_
 exact GE.again (i + 1, (ys).set (i) (IntKind.i64.wrap ((ys.getD (i) 0) + (y.getD (i) 0)))) (⟨by omega, by rw [List.length_set]; exact hyl, fold_next hys rfl⟩) (by first | omega | (dsimp only; omega)) ⟨rfl,rfl,rfl,trivial⟩ [] 0 rfl
 replace hc5 := of_decide_eq_false hc5
 refine GC.exit (Zp (Zp (GE.hit (Zt (Zs (Zr ?_))))))
 refine Zm rfl rfl rfl rfl rfl ?_
 refine Za rfl rfl rfl rfl rfl ?_
 refine Zn (Zt (GC.ret ?_))
 exact GE.body [] 0 (res1 rfl rfl) rfl (⟨v3, rfl, hs4, congrArg (fun (l0 : List Int) => ints 3 v3 l0 :: own) ((by rw [hys, show i = x.length by omega]; rfl : ys = adF x y))⟩)
set_option maxRecDepth 100000 in
theorem sum3_w {W : World} {own : List Asn} {vx : Value} {x : List Int} {vy : Value} {y : List Int}  (sx : IsS vx) (ex : Ent own fun w => Ints w vx x)   (sy : IsS vy) (ey : Ent own fun w => Ints w vy y)  (hl : x.length ≤ 1073741824) (hle : x.length ≤ y.length) : Spec Tryz.prog 17 [vx, vy] W own (fun v ow => ∃ (r0 : Value), v = r0 ∧ IsS r0 ∧ ow = ints 3 r0 (adF x y) :: own) := by
 refine Spec.enter Tryz.f17 _ Tryz.func17 rfl (n := 8) rfl rfl ?_
 refine Zs (Zr ?_)
 refine Za rfl rfl rfl rfl rfl ?_
 refine Zn (Zt (Zs (Zr ?_)))
 refine Zm rfl rfl rfl rfl rfl ?_
 refine Zm rfl rfl rfl rfl rfl ?_
 refine G.step (OG.call [vx, vy] ent49 rfl rfl rfl rfl (by exact (sum2_w sx ex sy ey (hl) (hle)))) rfl rfl rfl ?_
 rintro v1 _ ⟨_, rfl, hs2, rfl⟩
 refine Za rfl rfl rfl rfl rfl ?_
 refine Zn (Zt (GC.ret ?_))
 exact GE.body [] 0 (res1 rfl rfl) rfl (⟨v1, rfl, hs2, rfl⟩)
set_option maxRecDepth 100000 in
theorem zeros_w {W : World} {own : List Asn} {vx : Value} {x : List Int}  (sx : IsS vx) (ex : Ent own fun w => Ints w vx x)  (hl : x.length ≤ 1073741824) : Spec Tryz.prog 20 [vx] W own (fun v ow => v = .bool (zzB x) ∧ ow = own) := by
 refine Spec.enter Tryz.f20 _ Tryz.func20 rfl (n := 15) rfl rfl ?_
 refine Zs (Zr ?_)
 refine Za rfl rfl rfl rfl rfl ?_
 refine Zn (Zt (Zs (Zs (Zr ?_))))
 refine Za rfl rfl rfl rfl rfl ?_
 refine Zn (Zt (GC.block ?_))
 refine GC.loop (ι := Nat) (fun k => [(0, vx), (3, .int .i64 ((k : Int)))]) (fun k => own) (fun k => (k ≤ x.length) ∧ ((x.take k).any (fun (y : Int) => decide (y ≠ 0)) = false)) (fun k => x.length - k) 0 (⟨by omega, by simp⟩) ⟨rfl, rfl, trivial⟩ [] 0 rfl ?_
 rintro k ⟨hk, ht⟩
 refine Zs (Zs (Zr ?_))
 refine Zm rfl rfl rfl rfl rfl ?_
 refine Zm rfl rfl rfl rfl rfl ?_
 refine G.stepD (OD.len rfl rfl et22 rfl ex) rfl rfl rfl ?_
 refine G.stepD (OD.lss rfl rfl rfl) rfl rfl rfl ?_
 refine Zn (Zt ?_)
 refine GC.cond rfl (fun hc1 => ?_) (fun hc1 => ?_)
 replace hc1 := of_decide_eq_true hc1
 refine Zk (Zt (Zs (GC.block (Zs (Zr ?_)))))
 refine Zm rfl rfl rfl rfl rfl ?_
 refine Zm rfl rfl rfl rfl rfl ?_
 refine G.stepD (OD.indexAddr rfl et22 rfl ex rfl (by omega)) rfl rfl rfl ?_
 refine G.stepD (OD.loadInt rfl ti3 rfl ex (by omega)) rfl rfl rfl ?_
 refine G.stepD (OD.neq rfl rfl rfl) rfl rfl rfl ?_
 refine Zn (Zt ?_)
 refine GC.cond rfl (fun hc2 => ?_) (fun hc2 => ?_)
 replace hc2 := ne_of_bne hc2
 refine Zs (Zr ?_)
 refine Za rfl rfl rfl rfl rfl ?_
 refine Zn (Zt (GC.ret (GE.blockR (GE.passR (GE.passR (GE.blockR (GE.passR ?_)))))))
 exact GE.body [] 0 (res1 rfl rfl) rfl (⟨congrArg (fun (a0 : Bool) => (.bool (a0) : Value)) ((by rw [zzB, (List.any_eq_true.2 ⟨x.getD k 0, by simp [List.getD, show k < x.length by omega], decide_eq_true (by assumption)⟩ : x.any (fun (y : Int) => decide (y ≠ 0)) = true)]; rfl : (false : Bool) = zzB x)), rfl⟩)
 replace hc2 := eq_of_bne_false hc2
 refine Zk (GE.blockN (Zt (Zr ?_)))
 refine Zm rfl rfl rfl rfl rfl ?_
 refine G.stepD (OD.addI rfl rfl rfl (by omega)) rfl rfl rfl ?_
 refine Za rfl rfl rfl rfl rfl ?_
 refine Zn ?_
 exact GE.again (k + 1) (⟨by omega, any_take_succ (d := 0) (by omega) ht (decide_eq_false (fun h => h (by assumption)))⟩) (by first | omega | (dsimp only; omega)) ⟨rfl, rfl, trivial⟩ [] 0 rfl
 replace hc1 := of_decide_eq_false hc1
 refine GC.exit (Zp (Zp (GE.hit (Zt (Zs (Zr ?_))))))
 refine Za rfl rfl rfl rfl rfl ?_
 refine Zn (Zt (GC.ret ?_))
 exact GE.body [] 0 (res1 rfl rfl) rfl (⟨congrArg (fun (a0 : Bool) => (.bool (a0) : Value)) ((by rw [zzB, any_take_all (by omega) ht]; rfl : (true : Bool) = zzB x)), rfl⟩)
set_option maxRecDepth 100000 in
theorem minus_w {W : World} {own : List Asn} {vx : Value} {x : List Int}  (sx : IsS vx) (ex : Ent own fun w => Ints w vx x)  (hl : x.length ≤ 1073741824) (hb : ∀ k, k < x.length → -1000 ≤ x.getD k 0 ∧ x.getD k 0 ≤ 1000) : Spec Tryz.prog 18 [vx] W own (fun v ow => ∃ (r0 : Value), v = r0 ∧ IsS r0 ∧ ow = ints 3 r0 (mnF x) :: own) := by
 refine Spec.enter Tryz.f18 _ Tryz.func18 rfl (n := 23) rfl rfl ?_
 refine Zs (Zr ?_)
 refine Za rfl rfl rfl rfl rfl ?_
 refine Zn (Zt (Zs (Zr ?_)))
 refine G.step (OG.buildInts (xs := []) (is := []) rfl et22 rfl rfl rfl rfl rfl) rfl rfl rfl ?_
 rintro v1 _ ⟨hs2, rfl⟩
 refine Zm rfl rfl rfl rfl rfl ?_
 refine G.step (OG.appendInts 0 rfl rfl et22 rfl rfl rfl (Ent.drop 1 ex) (by first | omega | (simp; omega))) rfl rfl rfl ?_
 rintro v3 _ ⟨hs4, rfl⟩
 refine G.ownEq (own' := ints 3 v3 x :: own) (by rw [List.nil_append] <;> rfl) ?_
 skip
 refine Za rfl rfl rfl rfl rfl ?_
 refine Zn (Zt (Zs (Zs (Zr ?_))))
 refine Za rfl rfl rfl rfl rfl ?_
 refine Zn (Zt (GC.block ?_))
 refine GC.loop (ι := Nat × List Int) (fun ⟨i, ys⟩ => [(3, v3), (4, .int .i64 ((i : Int)))]) (fun ⟨i, ys⟩ => ints 3 v3 ys :: own) (fun ⟨i, ys⟩ => (i ≤ x.length) ∧ (ys.length = x.length) ∧ (∀ j, j < i → ys.getD j 0 = 0 - x.getD j 0) ∧ (∀ j, i ≤ j → ys.getD j 0 = x.getD j 0)) (fun ⟨i, ys⟩ => x.length - i) (0, x) (⟨by omega, rfl, fun j hj => absurd hj (Nat.not_lt_zero j), fun j _ => rfl⟩) ⟨rfl, rfl, trivial⟩ [] 0 rfl ?_
 rintro ⟨i, ys⟩ ⟨hi, hyl, hy1, hy2⟩
 refine Zs (Zs (Zr ?_))
 refine Zm rfl rfl rfl rfl rfl ?_
 refine Zm rfl rfl rfl rfl rfl ?_
 refine G.stepD (OD.len rfl rfl et22 rfl (Ent.ints (i := 0) rfl)) rfl rfl rfl ?_
 refine G.stepD (OD.lss rfl rfl rfl) rfl rfl rfl ?_
 refine Zn (Zt ?_)
 refine GC.cond rfl (fun hc5 => ?_) (fun hc5 => ?_)
 replace hc5 := of_decide_eq_true hc5
 have hyi := hy2 i (Nat.le_refl _)
 have hyj : ys.getD ((i : Int)).toNat 0 = x.getD i 0 := hyi
 have hbi := hb i (by omega)
 refine Zk (Zt (Zs (GC.block (Zr ?_))))
 refine Zm rfl rfl rfl rfl rfl ?_
 refine Zm rfl rfl rfl rfl rfl ?_
 refine Zm rfl rfl rfl rfl rfl ?_
 refine Zm rfl rfl rfl rfl rfl ?_
 refine G.stepD (OD.indexAddr rfl et22 rfl (Ent.ints (i := 0) rfl) rfl (by omega)) rfl rfl rfl ?_
 refine G.stepD (OD.loadInt rfl ti3 rfl (Ent.ints (i := 0) rfl) (by omega)) rfl rfl rfl ?_
 refine G.stepD (OD.negI rfl rfl (by omega)) rfl rfl rfl ?_
 refine G.stepD (OD.indexAddr rfl et22 rfl (Ent.ints (i := 0) rfl) rfl (by omega)) rfl rfl rfl ?_
 refine G.stepD0 (OD.storeInt rfl ti3 rfl rfl (i := 0) rfl (by omega)) rfl rfl ?_
 refine Zn (GE.blockN (Zt (Zr ?_)))
 refine Zm rfl rfl rfl rfl rfl ?_
 refine G.stepD (OD.addI rfl rfl rfl (by first | omega | (simp only [List.length_set, List.length_replicate]; omega))) rfl rfl rfl ?_
 refine Za rfl rfl rfl rfl rfl ?_
 refine Zn ?_
 exact GE.again (i + 1, (ys).set (i) (0 - ys.getD (i) 0)) (⟨by omega, by rw [List.length_set]; exact hyl, mn_s1 (by omega) hy1 (hy2 i (Nat.le_refl _)), mn_s2 hy2⟩) (by first | omega | (dsimp only; omega)) ⟨rfl, rfl, trivial⟩ [] 0 rfl
 replace hc5 := of_decide_eq_false hc5
 refine GC.exit (Zp (Zp (GE.hit (Zt (Zs (Zr ?_))))))
 refine Zm rfl rfl rfl rfl rfl ?_
 refine Za rfl rfl rfl rfl rfl ?_
 refine Zn (Zt (GC.ret ?_))
 exact GE.body [] 0 (res1 rfl rfl) rfl (⟨v3, rfl, hs4, congrArg (fun (l0 : List Int) => ints 3 v3 l0 :: own) ((mn_s3 hyl (fun j hj => hy1 j (by omega)) : ys = mnF x))⟩)
set_option maxHeartbeats 4000000 in
set_option maxRecDepth 100000 in
theorem lawConstants {W : World} {own : List Asn} {vcode : Value} {code : List Int}  (scode : IsS vcode) (ecode : Ent own fun w => Byts w vcode code)  (hl : code.length ≤ 9223372036854775807) (hg : Ent own fun w => ∃ m, w.cell? ⟨Tryz.l146_ren.g 1, 0, none⟩ = some (.int .i64 m)) (htab : Ent own Pow10) : Spec Tryz.prog 4 [vcode] W own (fun v ow => v = .bool (true) ∧ ow = own) := by
 refine Spec.enter Tryz.f4 _ Tryz.func4 rfl (n := 103) rfl rfl ?_
 refine Zs (Zr ?_)
 refine Za rfl rfl rfl rfl rfl ?_
 refine Zn (Zt (Zs (Zs (Zr ?_))))
 refine Zm rfl rfl rfl rfl rfl ?_
 refine G.step (OG.call [vcode] ent15 rfl rfl rfl rfl (by exact (big_w scode ecode (by first | omega | (rw [adF_len]; omega))))) rfl rfl rfl ?_
 rintro _ _ ⟨rfl, hzz⟩; obtain rfl := hzz.symm
 refine Zn (Zt ?_)
 refine GC.cond rfl (fun hc1 => ?_) (fun hc1 => ?_)
 replace hc1 := of_decide_eq_true hc1
 refine Zs (Zr ?_)
 refine Za rfl rfl rfl rfl rfl ?_
 refine Zn (Zt (GC.ret (GE.passR ?_)))
 exact GE.body [] 0 (res1 rfl rfl) rfl (⟨rfl, rfl⟩)
 replace hc1 := of_decide_eq_false hc1
 refine Zk (Zt (Zs (Zr ?_)))
 refine Zm rfl rfl rfl rfl rfl ?_
 refine G.step (OG.call [vcode] ent16 rfl rfl rfl rfl (by exact (drawRoots_w scode ecode (by omega)))) rfl rfl rfl ?_
 rintro _ _ ⟨v2, v3, v4, v5, g6, u7, u8, u9, u10, rfl, hs11, hs12, hs13, hs14, hs15, hs16, hs17, hs18, hs19, rfl⟩
 refine Zm rfl rfl rfl rfl rfl ?_
 refine G.stepD (OD.extract rfl rfl rfl) rfl rfl rfl ?_
 refine G.stepD (OD.extract rfl rfl rfl) rfl rfl rfl ?_
 refine G.stepD (OD.extract rfl rfl rfl) rfl rfl rfl ?_
 refine G.stepD (OD.extract rfl rfl rfl) rfl rfl rfl ?_
 refine G.step (OG.alloc rfl ti27 (zs := [.int .i64 (0), .slice none 0 0]) rfl) rfl rfl rfl ?_
 rintro _ _ ⟨g20, rfl, rfl⟩
 refine G.stepD0 (OD.store rfl ti27 rfl rfl (us := [.int .i64 (cR (tpNm g6)), v2]) rfl rfl (allC rfl (allC (IsS.one hs11) rfl)) (i := 0) rfl rfl) rfl rfl ?_
 refine Za rfl rfl rfl rfl rfl ?_
 refine Za rfl rfl rfl rfl rfl ?_
 refine Za rfl rfl rfl rfl rfl ?_
 refine Zn (Zt (Zs ?_))
 obtain ⟨hR, hD, hF, hN, hS0, hO⟩ := tpOk (k := g6) (by assumption)
 have hT : tyS (cR (tpNm g6)) (subD (cR (tpNm g6)) (cD (tpNm g6)) u7) = tyS (tpN g6) (tpD g6) := by rw [hR, hD]; exact hO _ (by rw [← hR]; assumption)
 have hS : (tyS (cR (tpNm g6)) (subD (cR (tpNm g6)) (cD (tpNm g6)) u7)).isSome = true := by rw [hT]; exact hS0
 generalize hce : cR (tpNm g6) = cr at *
 generalize hde : subD (cr) (cD (tpNm g6)) u7 = cd at *
 have hcr4 := (tyS_ok hS).1
 have hl0 : cd.length ≤ 1073741824 := Nat.le_trans (cd_small hS) (by decide)
 have hL : CnLaw cr cd u8 u9 := cnLaw hS (by assumption) (by assumption)
 obtain ⟨hlx, hly, hlz⟩ := hL.len
 obtain ⟨h10x, h10y, h20z⟩ := hL.ent
 have hbd := hL.bd
 have hsw := hL.sw
 have hmm := hL.mm
 have hml := mnF_len u8
 have hml2 := mnF_len u9
 have hml3 := mnF_len (adF u8 u9)
 have hrk := (rtOk hS).rk
 refine Zr ?_
 refine G.stepD (OD.loadAgg rfl ti27 rfl (i := 0) rfl (us := [.int .i64 (cr), v2]) rfl rfl) rfl rfl rfl ?_
 refine Zm rfl rfl rfl rfl rfl ?_
 refine Zm rfl rfl rfl rfl rfl ?_
 refine G.step (OG.call [.agg #[.int .i64 (cr), v2], v3, v4] ent12 rfl rfl rfl rfl (by exact (constantOf_w hs11 (Ent.ints (i := 1) rfl) hs12 (Ent.ints (i := 2) rfl) hs13 (Ent.ints (i := 3) rfl) (hl0) (by omega) (by omega) (hL.al.1) (hL.al.2.1) ((Ent.drop 5 hg)) ((Ent.drop 5 htab))))) rfl rfl rfl ?_
 rintro _ _ ⟨rfl, rfl⟩
 refine Za rfl rfl rfl rfl rfl ?_
 refine Zn (Zt (Zs (Zr ?_)))
 refine Zm rfl rfl rfl rfl rfl ?_
 refine Zm rfl rfl rfl rfl rfl ?_
 refine G.step (OG.call [v3, v4] ent17 rfl rfl rfl rfl (by exact (sum3_w hs12 (Ent.ints (i := 2) rfl) hs13 (Ent.ints (i := 3) rfl) (by first | omega | (rw [adF_len]; omega)) (by omega)))) rfl rfl rfl ?_
 rintro v21 _ ⟨_, rfl, hs22, rfl⟩
 refine Za rfl rfl rfl rfl rfl ?_
 refine Zn (Zt (Zs (Zs ?_)))
 rcases Bool.eq_false_or_eq_true (isRt cr cd (adF u8 u9)) with hg27 | hg27
 refine GC.at [] 0 (env' := [(3, .pointer (some ⟨g20, 0, none⟩)), (4, v3), (5, v4), (7, .int .i64 (cnOf cr cd u8 u9)), (8, v21)]) ⟨rfl,rfl,rfl,rfl,rfl,trivial⟩ rfl ?_
 refine GC.par (its := [Z0 30 (.agg #[.int .i64 (cr), v2]),
     Z0 31 v4,
     Z0 32 v3,
     Z1 33 [(0, 30), (1, 31), (2, 32)] (.int .i64 (cnOf cr cd u9 u8)),
     Z0 34 (.int .i64 (cnOf cr cd u8 u9)),
     Z1 35 [(4, 34)] (.int .i64 (IntKind.i64.wrap (0 - cnOf cr cd u8 u9))),
     Z1 36 [(3, 33), (5, 35)] (.bool false),
     Z1 37 [(6, 36)] (.bool false),
     Z1 38 [(7, 37)] (.agg #[.int .i64 (cr), v2]),
     Z1 39 [(7, 37)] v3,
     ⟨40, [(7, 37), (9, 39)], [], [], [10], fun ds => ((ds.getD 0 []).getD 0 undef), fun ds => IsS ((ds.getD 0 []).getD 0 undef), fun ds => [ints 3 ((ds.getD 0 []).getD 0 undef) (mnF u8)]⟩,
     Z1 41 [(7, 37)] v4,
     ⟨42, [(7, 37), (11, 41)], [], [], [12], fun ds => ((ds.getD 0 []).getD 0 undef), fun ds => IsS ((ds.getD 0 []).getD 0 undef), fun ds => [ints 3 ((ds.getD 0 []).getD 0 undef) (mnF u9)]⟩,
     ⟨43, [(7, 37), (8, 38), (10, 40), (12, 42)], [10, 12], [], [10, 12], fun _ => .int .i64 (cnOf cr cd (mnF u8) (mnF u9)), fun _ => True, fun _ => []⟩,
     Z1 44 [(7, 37)] (.int .i64 (cnOf cr cd u8 u9)),
     Z1 45 [(7, 37), (14, 44)] (.int .i64 (IntKind.i64.wrap (0 - cnOf cr cd u8 u9))),
     ⟨46, [(7, 37), (13, 43), (15, 45)], [10, 12], [], [10, 12], fun _ => .bool false, fun _ => True, fun _ => []⟩,
     ⟨47, [(7, 37), (16, 46)], [10, 12], [], [10, 12], fun _ => .bool false, fun _ => True, fun _ => []⟩,
     ⟨48, [(17, 47)], [10, 12], [], [10, 12], fun _ => .bool false, fun _ => True, fun _ => []⟩,
     ⟨49, [(18, 48)], [10, 12], [], [10, 12], fun _ => .int .i64 (cnOf cr cd u8 u9), fun _ => True, fun _ => []⟩,
     ⟨50, [(18, 48), (19, 49)], [10, 12], [], [10, 12], fun _ => .bool ((cnOf cr cd u8 u9) != 0), fun _ => True, fun _ => []⟩,
     ⟨51, [(18, 48)], [10, 12], [], [10, 12], fun _ => .agg #[.int .i64 (cr), v2], fun _ => True, fun _ => []⟩,
     ⟨52, [(18, 48)], [10, 12], [], [10, 12], fun _ => v21, fun _ => True, fun _ => []⟩,
     ⟨53, [(18, 48), (21, 51), (22, 52)], [10, 12], [], [10, 12], fun _ => .bool true, fun _ => True, fun _ => []⟩,
     ⟨54, [(18, 48), (23, 53)], [10, 12], [], [10, 12], fun _ => .bool true, fun _ => True, fun _ => []⟩,
     ⟨55, [(24, 54)], [10, 12], [], [10, 12], fun _ => v21, fun _ => True, fun _ => []⟩,
     ⟨56, [(24, 54), (25, 55)], [10, 12], [], [10, 12], fun _ => .bool (zzB (adF u8 u9)), fun _ => True, fun _ => []⟩,
     ⟨57, [(24, 54), (26, 56)], [10, 12], [], [10, 12], fun _ => .bool (!(zzB (adF u8 u9))), fun _ => True, fun _ => []⟩,
     ⟨58, [(18, 48), (24, 54), (27, 57)], [10, 12], [], [10, 12], fun _ => .bool (!(zzB (adF u8 u9))), fun _ => True, fun _ => []⟩,
     ⟨59, [(18, 48), (20, 50), (28, 58)], [10, 12], [], [10, 12], fun _ => .bool false, fun _ => True, fun _ => []⟩,
     ⟨60, [(18, 48), (29, 59)], [10, 12], [], [10, 12], fun _ => .bool false, fun _ => True, fun _ => []⟩]) (by kernel_rfl) (by kernel_rfl) (POps.cons ?_ (POps.cons ?_ (POps.cons ?_ (POps.cons ?_ (POps.cons ?_ (POps.cons ?_ (POps.cons ?_ (POps.cons ?_ (POps.cons ?_ (POps.cons ?_ (POps.cons ?_ (POps.cons ?_ (POps.cons ?_ (POps.cons ?_ (POps.cons ?_ (POps.cons ?_ (POps.cons ?_ (POps.cons ?_ (POps.cons ?_ (POps.cons ?_ (POps.cons ?_ (POps.cons ?_ (POps.cons ?_ (POps.cons ?_ (POps.cons ?_ (POps.cons ?_ (POps.cons ?_ (POps.cons ?_ (POps.cons ?_ (POps.cons ?_ (POps.cons ?_ POps.nil))))))))))))))))))))))))))))))) ?_
 exact fun θ R hd => Zq (OD.loadAgg rfl ti27 rfl (i := 1) rfl (us := [.int .i64 (cr), v2]) rfl rfl) rfl rfl trivial rfl
 exact fun θ R hd => Zq (OD.move rfl rfl) rfl rfl trivial rfl
 exact fun θ R hd => Zq (OD.move rfl rfl) rfl rfl trivial rfl
 exact fun θ R ⟨h0d, h1d, h2d, _⟩ => Zq (OG.call [.agg #[.int .i64 (cr), v2], v4, v3] ent12 rfl rfl rfl rfl (by exact (constantOf_w hs11 (Ent.ints (i := 2) rfl) hs13 (Ent.ints (i := 4) rfl) hs12 (Ent.ints (i := 3) rfl) (hl0) (by omega) (by omega) (hL.al.2.1) (hL.al.1) ((Ent.drop 6 hg.app)) ((Ent.drop 6 htab.app))))) rfl rfl trivial rfl
 exact fun θ R hd => Zq (OD.move rfl rfl) rfl rfl trivial rfl
 exact fun θ R ⟨h4d, _⟩ => Zq (OD.neg rfl rfl) rfl rfl trivial rfl
 exact fun θ R ⟨h3d, h5d, _⟩ => Zq (OD.eqv (OD.neq rfl rfl rfl) (congrArg Value.bool ((by rw [bne_eq_false_iff_eq]; rw [w0 (by omega)]; exact hsw) : _ = false))) rfl rfl trivial rfl
 exact fun θ R ⟨h6d, _⟩ => Zq (OD.move rfl rfl) rfl rfl trivial rfl
 exact fun θ R ⟨h7d, _⟩ => Zo (OD.loadAgg rfl ti27 rfl (i := 1) rfl (us := [.int .i64 (cr), v2]) rfl rfl) rfl rfl rfl rfl trivial rfl
 exact fun θ R ⟨h7d, _⟩ => Zo (OD.move rfl rfl) rfl rfl rfl rfl trivial rfl
 exact fun θ R ⟨h7d, h9d, _⟩ => Opp.on (OG.imp (OG.call [v3] ent18 rfl rfl rfl rfl (by exact (minus_w hs12 (Ent.ints (i := 3) rfl) (by first | omega | (rw [adF_len]; omega)) (fun j _ => by have := h10x j; omega)))) (by rintro v28 _ ⟨_, rfl, hs29, rfl⟩; exact ⟨[v28], rfl, hs29, rfl⟩)) rfl rfl rfl
 exact fun θ R ⟨h7d, _⟩ => Zo (OD.move rfl rfl) rfl rfl rfl rfl trivial rfl
 exact fun θ R ⟨h7d, h11d, _⟩ => Opp.on (OG.imp (OG.call [v4] ent18 rfl rfl rfl rfl (by exact (minus_w hs13 (Ent.ints (i := 4) rfl) (by first | omega | (rw [adF_len]; omega)) (fun j _ => by have := h10y j; omega)))) (by rintro v30 _ ⟨_, rfl, hs31, rfl⟩; exact ⟨[v30], rfl, hs31, rfl⟩)) rfl rfl rfl
 exact fun θ R ⟨h7d, h8d, h10d, h12d, _⟩ => Opp.on (OG.imp (OG.call [.agg #[.int .i64 (cr), v2], ((θ 10).getD 0 undef), ((θ 12).getD 0 undef)] ent12 rfl rfl rfl rfl (by exact (constantOf_w hs11 (Ent.ints (i := 4) rfl) h10d (Ent.ints (i := 0) rfl) h12d (Ent.ints (i := 1) rfl) (hl0) (by omega) (by omega) (hL.al.2.2.2.1) (hL.al.2.2.2.2.1) ((Ent.drop 8 hg.app)) ((Ent.drop 8 htab.app))))) (by rintro _ _ ⟨rfl, rfl⟩; exact ⟨[], rfl, trivial, (by first | exact left_all | rfl)⟩)) rfl rfl rfl
 exact fun θ R ⟨h7d, _⟩ => Zo (OD.move rfl rfl) rfl rfl rfl rfl trivial rfl
 exact fun θ R ⟨h7d, h14d, _⟩ => Zo (OD.neg rfl rfl) rfl rfl rfl rfl trivial rfl
 exact fun θ R ⟨h7d, h13d, h15d, _⟩ => Opp.on (OG.imp (OD.eqv (OD.neq rfl rfl rfl) (congrArg Value.bool ((by rw [bne_eq_false_iff_eq]; rw [w0 (by omega)]; exact hmm) : _ = false))) (by rintro _ _ ⟨rfl, rfl⟩; exact ⟨[], rfl, trivial, (by first | exact left_all | rfl)⟩)) rfl rfl rfl
 exact fun θ R ⟨h7d, h16d, _⟩ => Opp.plain (OG.imp (OD.pickF rfl rfl rfl) (by rintro _ _ ⟨rfl, rfl⟩; exact ⟨[], rfl, trivial, (by first | exact left_all | rfl)⟩)) rfl
 exact fun θ R ⟨h17d, _⟩ => Opp.plain (OG.imp (OD.move rfl rfl) (by rintro _ _ ⟨rfl, rfl⟩; exact ⟨[], rfl, trivial, (by first | exact left_all | rfl)⟩)) rfl
 exact fun θ R ⟨h18d, _⟩ => Opp.on (OG.imp (OD.move rfl rfl) (by rintro _ _ ⟨rfl, rfl⟩; exact ⟨[], rfl, trivial, (by first | exact left_all | rfl)⟩)) rfl rfl rfl
 exact fun θ R ⟨h18d, h19d, _⟩ => Opp.on (OG.imp (OD.neq rfl rfl rfl) (by rintro _ _ ⟨rfl, rfl⟩; exact ⟨[], rfl, trivial, (by first | exact left_all | rfl)⟩)) rfl rfl rfl
 exact fun θ R ⟨h18d, _⟩ => Opp.on (OG.imp (OD.loadAgg rfl ti27 rfl (i := 3) rfl (us := [.int .i64 (cr), v2]) rfl rfl) (by rintro _ _ ⟨rfl, rfl⟩; exact ⟨[], rfl, trivial, (by first | exact left_all | rfl)⟩)) rfl rfl rfl
 exact fun θ R ⟨h18d, _⟩ => Opp.on (OG.imp (OD.move rfl rfl) (by rintro _ _ ⟨rfl, rfl⟩; exact ⟨[], rfl, trivial, (by first | exact left_all | rfl)⟩)) rfl rfl rfl
 exact fun θ R ⟨h18d, h21d, h22d, _⟩ => Opp.on (OG.imp (OG.imp (K' := fun v ow => v = .bool true ∧ ow = ints 3 ((θ 10).getD 0 undef) (mnF u8) :: ints 3 ((θ 12).getD 0 undef) (mnF u9) :: ints 3 v21 (adF u8 u9) :: box g20 27 [.int .i64 (cr), v2] :: ints 3 v2 cd :: ints 3 v3 u8 :: ints 3 v4 u9 :: ints 3 v5 u10 :: own ++ R) (OG.call [.agg #[.int .i64 (cr), v2], v21] ent19 rfl rfl rfl rfl (by exact (isRoot_w hs11 (Ent.ints (i := 4) rfl) hs22 (Ent.ints (i := 2) rfl) (hl0) (by first | omega | (rw [adF_len]; omega)) (hL.al.2.2.1) ((Ent.drop 8 hg.app)) ((Ent.drop 8 htab.app))))) (by rintro _ _ ⟨rfl, rfl⟩; exact ⟨congrArg Value.bool (hg27), rfl⟩)) (by rintro _ _ ⟨rfl, rfl⟩; exact ⟨[], rfl, trivial, (by first | exact left_all | rfl)⟩)) rfl rfl rfl
 exact fun θ R ⟨h18d, h23d, _⟩ => Opp.on (OG.imp (OD.move rfl rfl) (by rintro _ _ ⟨rfl, rfl⟩; exact ⟨[], rfl, trivial, (by first | exact left_all | rfl)⟩)) rfl rfl rfl
 exact fun θ R ⟨h24d, _⟩ => Opp.on (OG.imp (OD.move rfl rfl) (by rintro _ _ ⟨rfl, rfl⟩; exact ⟨[], rfl, trivial, (by first | exact left_all | rfl)⟩)) rfl rfl rfl
 exact fun θ R ⟨h24d, h25d, _⟩ => Opp.on (OG.imp (OG.call [v21] ent20 rfl rfl rfl rfl (by exact (zeros_w hs22 (Ent.ints (i := 2) rfl) (by first | omega | (rw [adF_len]; omega))))) (by rintro _ _ ⟨rfl, rfl⟩; exact ⟨[], rfl, trivial, (by first | exact left_all | rfl)⟩)) rfl rfl rfl
 exact fun θ R ⟨h24d, h26d, _⟩ => Opp.on (OG.imp (OD.not rfl rfl) (by rintro _ _ ⟨rfl, rfl⟩; exact ⟨[], rfl, trivial, (by first | exact left_all | rfl)⟩)) rfl rfl rfl
 exact fun θ R ⟨h18d, h24d, h27d, _⟩ => Opp.on (OG.imp (OD.pickT rfl rfl rfl) (by rintro _ _ ⟨rfl, rfl⟩; exact ⟨[], rfl, trivial, (by first | exact left_all | rfl)⟩)) rfl rfl rfl
 exact fun θ R ⟨h18d, h20d, h28d, _⟩ => Opp.on (OG.imp (OD.eqv (OD.neqB bt4 rfl rfl rfl) (congrArg Value.bool ((by rw [hL.zz hg27, bne_iff_ne.2 (hL.nz hg27)]; rfl) : _ = false))) (by rintro _ _ ⟨rfl, rfl⟩; exact ⟨[], rfl, trivial, (by first | exact left_all | rfl)⟩)) rfl rfl rfl
 exact fun θ R ⟨h18d, h29d, _⟩ => Opp.plain (OG.imp (OD.pickF rfl rfl rfl) (by rintro _ _ ⟨rfl, rfl⟩; exact ⟨[], rfl, trivial, (by first | exact left_all | rfl)⟩)) rfl
 intro θ hall
 obtain ⟨_, _, _, _, _, _, _, _, _, _, h10a, _, h12a, _, _, _, _, _, _, _, _, _, _, _, _, _, _, _, _, _, _, _⟩ := hall
 refine G.at [] 0 (env' := [(3, .pointer (some ⟨g20, 0, none⟩)), (4, v3), (5, v4), (7, .int .i64 (cnOf cr cd u8 u9)), (8, v21), (60, .bool false)]) ⟨rfl,rfl,rfl,rfl,rfl,rfl,trivial⟩ (own' := ints 3 ((θ 10).getD 0 undef) (mnF u8) :: ints 3 ((θ 12).getD 0 undef) (mnF u9) :: ints 3 v21 (adF u8 u9) :: box g20 27 [.int .i64 (cr), v2] :: ints 3 v2 cd :: ints 3 v3 u8 :: ints 3 v4 u9 :: ints 3 v5 u10 :: own) rfl ?_
 have hs32 : IsS ((θ 10).getD 0 undef) := h10a
 clear h10a
 generalize ((θ 10).getD 0 undef) = v33 at *
 have hs34 : IsS ((θ 12).getD 0 undef) := h12a
 clear h12a
 generalize ((θ 12).getD 0 undef) = v35 at *
 show G _ _ _ [] _ _ _ _
 refine Zn (Zt (GC.condF rfl (Zk (Zt (Zs (Zs (Zr ?_)))))))
 refine Zm rfl rfl rfl rfl rfl ?_
 refine G.stepD (OD.eql rfl rfl rfl) rfl rfl rfl ?_
 refine Zn (Zt ?_)
 refine GC.cond rfl (fun hc36 => ?_) (fun hc36 => ?_)
 replace hc36 := eq_of_beq hc36
 refine Zs (Zr ?_)
 refine Za rfl rfl rfl rfl rfl ?_
 refine Zn (Zt (GC.ret (GE.passR ?_)))
 exact GE.body [] 8 (res1 rfl rfl) rfl (⟨rfl, rfl⟩)
 replace hc36 := ne_of_beq_false hc36
 refine Zk (Zt (Zs (Zr ?_)))
 refine G.stepD (OD.loadAgg rfl ti27 rfl (i := 3) rfl (us := [.int .i64 (cr), v2]) rfl rfl) rfl rfl rfl ?_
 refine Zm rfl rfl rfl rfl rfl ?_
 refine Zm rfl rfl rfl rfl rfl ?_
 refine G.step (OG.call [.agg #[.int .i64 (cr), v2], v3, v4] ent21 rfl rfl rfl rfl (by exact (rootString_w hs11 (Ent.ints (i := 4) rfl) hs12 (Ent.ints (i := 5) rfl) hs13 (Ent.ints (i := 6) rfl) (hl0) (by omega) (by omega) (hL.al.2.1) (hL.al.1) ((Ent.drop 8 hg)) ((Ent.drop 8 htab))))) rfl rfl rfl ?_
 rintro _ _ ⟨rfl, rfl⟩
 refine Zm rfl rfl rfl rfl rfl ?_
 refine G.stepD (OD.extract rfl rfl rfl) rfl rfl rfl ?_
 refine G.stepD (OD.extract rfl rfl rfl) rfl rfl rfl ?_
 refine Za rfl rfl rfl rfl rfl ?_
 refine Za rfl rfl rfl rfl rfl ?_
 refine Zn (Zt (Zs ?_))
 obtain ⟨p, hp3, hpe, hor⟩ := hL.str (by assumption)
 have hpq := hL.eq (by assumption)
 refine Zr ?_
 refine G.stepD (OD.loadAgg rfl ti27 rfl (i := 3) rfl (us := [.int .i64 (cr), v2]) rfl rfl) rfl rfl rfl ?_
 refine Zm rfl rfl rfl rfl rfl ?_
 refine Zm rfl rfl rfl rfl rfl ?_
 refine G.step (OG.call [.agg #[.int .i64 (cr), v2], v21, v21] ent22 rfl rfl rfl rfl (by exact (innerOf_w hs11 (Ent.ints (i := 4) rfl) hs22 (Ent.ints (i := 2) rfl) hs22 (Ent.ints (i := 2) rfl) (hl0) (by first | omega | (rw [adF_len]; omega)) (by omega) ((Ent.drop 8 hg))))) rfl rfl rfl ?_
 rintro _ _ ⟨rfl, rfl⟩
 refine Za rfl rfl rfl rfl rfl ?_
 refine Zn (Zt (Zs (Zr ?_)))
 refine G.stepD (OD.loadAgg rfl ti27 rfl (i := 3) rfl (us := [.int .i64 (cr), v2]) rfl rfl) rfl rfl rfl ?_
 refine Zm rfl rfl rfl rfl rfl ?_
 refine Zm rfl rfl rfl rfl rfl ?_
 refine G.step (OG.call [.agg #[.int .i64 (cr), v2], v3, v3] ent22 rfl rfl rfl rfl (by exact (innerOf_w hs11 (Ent.ints (i := 4) rfl) hs12 (Ent.ints (i := 5) rfl) hs12 (Ent.ints (i := 5) rfl) (hl0) (by first | omega | (rw [adF_len]; omega)) (by omega) ((Ent.drop 8 hg))))) rfl rfl rfl ?_
 rintro _ _ ⟨rfl, rfl⟩
 refine Za rfl rfl rfl rfl rfl ?_
 refine Zn (Zt (Zs ?_))
 refine GC.at [] 0 (env' := [(3, .pointer (some ⟨g20, 0, none⟩)), (5, v4), (7, .int .i64 (cnOf cr cd u8 u9)), (8, v21), (9, .int .i64 (rsA cr cd u8 u9 (-1))), (11, .int .i64 (inOf cr cd (adF u8 u9) (adF u8 u9))), (12, .int .i64 (inOf cr cd u8 u8))]) ⟨rfl,rfl,rfl,rfl,rfl,rfl,rfl,trivial⟩ rfl ?_
 refine GC.par (its := [Z0 78 (.agg #[.int .i64 (cr), v2]),
     Z0 79 v4,
     Z0 80 v21,
     ⟨81, [(2, 80)], [], [], [3], fun ds => ((ds.getD 0 []).getD 0 undef), fun ds => IsS ((ds.getD 0 []).getD 0 undef), fun ds => [ints 3 ((ds.getD 0 []).getD 0 undef) (mnF (adF u8 u9))]⟩,
     ⟨82, [(0, 78), (1, 79), (3, 81)], [3], [], [3], fun _ => .int .i64 (cnOf cr cd u9 (mnF (adF u8 u9))), fun _ => True, fun _ => []⟩]) (by kernel_rfl) (by kernel_rfl) (POps.cons ?_ (POps.cons ?_ (POps.cons ?_ (POps.cons ?_ (POps.cons ?_ POps.nil))))) ?_
 exact fun θ R hd => Zq (OD.loadAgg rfl ti27 rfl (i := 3) rfl (us := [.int .i64 (cr), v2]) rfl rfl) rfl rfl trivial rfl
 exact fun θ R hd => Zq (OD.move rfl rfl) rfl rfl trivial rfl
 exact fun θ R hd => Zq (OD.move rfl rfl) rfl rfl trivial rfl
 exact fun θ R ⟨h2d, _⟩ => Opp.plain (OG.imp (OG.call [v21] ent18 rfl rfl rfl rfl (by exact (minus_w hs22 (Ent.ints (i := 2) rfl) (by first | omega | (rw [adF_len]; omega)) (fun j _ => by have := h20z j; omega)))) (by rintro v37 _ ⟨_, rfl, hs38, rfl⟩; exact ⟨[v37], rfl, hs38, rfl⟩)) rfl
 exact fun θ R ⟨h0d, h1d, h3d, _⟩ => Opp.plain (OG.imp (OG.call [.agg #[.int .i64 (cr), v2], v4, ((θ 3).getD 0 undef)] ent12 rfl rfl rfl rfl (by exact (constantOf_w hs11 (Ent.ints (i := 5) rfl) hs13 (Ent.ints (i := 7) rfl) h3d (Ent.ints (i := 0) rfl) (hl0) (by omega) (by omega) (hL.al.2.1) (hL.al.2.2.2.2.2) ((Ent.drop 9 hg.app)) ((Ent.drop 9 htab.app))))) (by rintro _ _ ⟨rfl, rfl⟩; exact ⟨[], rfl, trivial, (by first | exact left_all | rfl)⟩)) rfl
 intro θ hall
 obtain ⟨_, _, _, h3a, _, _⟩ := hall
 refine G.at [] 0 (env' := [(7, .int .i64 (cnOf cr cd u8 u9)), (9, .int .i64 (rsA cr cd u8 u9 (-1))), (11, .int .i64 (inOf cr cd (adF u8 u9) (adF u8 u9))), (12, .int .i64 (inOf cr cd u8 u8)), (82, .int .i64 (cnOf cr cd u9 (mnF (adF u8 u9))))]) ⟨rfl,rfl,rfl,rfl,rfl,trivial⟩ (own' := ints 3 ((θ 3).getD 0 undef) (mnF (adF u8 u9)) :: ints 3 v33 (mnF u8) :: ints 3 v35 (mnF u9) :: ints 3 v21 (adF u8 u9) :: box g20 27 [.int .i64 (cr), v2] :: ints 3 v2 cd :: ints 3 v3 u8 :: ints 3 v4 u9 :: ints 3 v5 u10 :: own) rfl ?_
 have hs39 : IsS ((θ 3).getD 0 undef) := h3a
 clear h3a
 generalize ((θ 3).getD 0 undef) = v40 at *
 show G _ _ _ [_] _ _ _ _
 refine Za rfl rfl rfl rfl rfl ?_
 refine Zn (Zt (Zs (Zr ?_)))
 refine Zm rfl rfl rfl rfl rfl ?_
 refine Zm rfl rfl rfl rfl rfl ?_
 refine G.stepD (OD.addI rfl rfl rfl (by omega)) rfl rfl rfl ?_
 refine G.stepD (OD.eql rfl rfl rfl) rfl rfl rfl ?_
 refine Zm rfl rfl rfl rfl rfl ?_
 rcases Bool.eq_false_or_eq_true ((cnOf cr cd u8 u9) == ((rsA cr cd u8 u9 (-1)) + 1)) with hg41 | hg41
 have hg41e := hg41
 refine G.at [] 0 (env' := [(7, .int .i64 (cnOf cr cd u8 u9)), (9, .int .i64 (rsA cr cd u8 u9 (-1))), (11, .int .i64 (inOf cr cd (adF u8 u9) (adF u8 u9))), (12, .int .i64 (inOf cr cd u8 u8)), (82, .int .i64 (cnOf cr cd u9 (mnF (adF u8 u9)))), (13, .int .i64 (cnOf cr cd u9 (mnF (adF u8 u9)))), (83, .int .i64 (cnOf cr cd u8 u9)), (84, .int .i64 (rsA cr cd u8 u9 (-1))), (85, .int .i64 ((rsA cr cd u8 u9 (-1)) + 1)), (86, .bool true), (87, .bool true)]) (⟨rfl, rfl, rfl, rfl, rfl, rfl, rfl, rfl, rfl, (congrArg (fun b => some (Value.bool b)) hg41e), (congrArg (fun b => some (Value.bool b)) hg41e), trivial⟩) rfl ?_
 replace hg41 := eq_of_beq hg41
 refine G.skipG rfl rfl rfl rfl rfl rfl (G.skipG rfl rfl rfl rfl rfl rfl (G.skipG rfl rfl rfl rfl rfl rfl (G.skipG rfl rfl rfl rfl rfl rfl (G.skipG rfl rfl rfl rfl rfl rfl ?_))))
 refine G.stepD (OD.pickT rfl rfl rfl) rfl rfl rfl ?_
 refine Zm rfl rfl rfl rfl rfl ?_
 refine G.stepGD (OD.move rfl rfl) rfl rfl rfl rfl rfl ?_
 refine G.stepGD (OD.move rfl rfl) rfl rfl rfl rfl rfl ?_
 refine G.stepGD (OD.mul rfl rfl rfl) rfl rfl rfl rfl rfl ?_
 refine G.stepGD (OD.move rfl rfl) rfl rfl rfl rfl rfl ?_
 refine G.stepGD (OD.move rfl rfl) rfl rfl rfl rfl rfl ?_
 refine G.stepGD (OD.mul rfl rfl rfl) rfl rfl rfl rfl rfl ?_
 refine G.stepGD (OD.eqv (OD.eql rfl rfl rfl) (congrArg Value.bool ((beq_iff_eq.2 (congrArg _ hpq)) : _ = true))) rfl rfl rfl rfl rfl ?_
 refine G.stepD (OD.pickT rfl rfl rfl) rfl rfl rfl ?_
 refine Za rfl rfl rfl rfl rfl ?_
 refine Zn (Zt (GC.ret ?_))
 exact GE.body [] 9 (res1 rfl rfl) rfl (⟨rfl, rfl⟩)
 have hg41e := hg41
 refine G.at [] 0 (env' := [(7, .int .i64 (cnOf cr cd u8 u9)), (9, .int .i64 (rsA cr cd u8 u9 (-1))), (11, .int .i64 (inOf cr cd (adF u8 u9) (adF u8 u9))), (12, .int .i64 (inOf cr cd u8 u8)), (82, .int .i64 (cnOf cr cd u9 (mnF (adF u8 u9)))), (13, .int .i64 (cnOf cr cd u9 (mnF (adF u8 u9)))), (83, .int .i64 (cnOf cr cd u8 u9)), (84, .int .i64 (rsA cr cd u8 u9 (-1))), (85, .int .i64 ((rsA cr cd u8 u9 (-1)) + 1)), (86, .bool false), (87, .bool false)]) (⟨rfl, rfl, rfl, rfl, rfl, rfl, rfl, rfl, rfl, (congrArg (fun b => some (Value.bool b)) hg41e), (congrArg (fun b => some (Value.bool b)) hg41e), trivial⟩) rfl ?_
 replace hg41 := ne_of_beq_false hg41
 refine G.stepGD (OD.move rfl rfl) rfl rfl rfl rfl rfl ?_
 refine G.stepGD (OD.move rfl rfl) rfl rfl rfl rfl rfl ?_
 refine G.stepGD (OD.negI rfl rfl (by omega)) rfl rfl rfl rfl rfl ?_
 refine G.stepGD (OD.subI rfl rfl rfl (by omega)) rfl rfl rfl rfl rfl ?_
 refine G.stepGD (OD.eqv (OD.eql rfl rfl rfl) (congrArg Value.bool ((beq_iff_eq.2 (by omega)) : _ = true))) rfl rfl rfl rfl rfl ?_
 refine G.stepD (OD.pickF rfl rfl rfl) rfl rfl rfl ?_
 refine Zm rfl rfl rfl rfl rfl ?_
 refine G.stepGD (OD.move rfl rfl) rfl rfl rfl rfl rfl ?_
 refine G.stepGD (OD.move rfl rfl) rfl rfl rfl rfl rfl ?_
 refine G.stepGD (OD.mul rfl rfl rfl) rfl rfl rfl rfl rfl ?_
 refine G.stepGD (OD.move rfl rfl) rfl rfl rfl rfl rfl ?_
 refine G.stepGD (OD.move rfl rfl) rfl rfl rfl rfl rfl ?_
 refine G.stepGD (OD.mul rfl rfl rfl) rfl rfl rfl rfl rfl ?_
 refine G.stepGD (OD.eqv (OD.eql rfl rfl rfl) (congrArg Value.bool ((beq_iff_eq.2 (congrArg _ hpq)) : _ = true))) rfl rfl rfl rfl rfl ?_
 refine G.stepD (OD.pickT rfl rfl rfl) rfl rfl rfl ?_
 refine Za rfl rfl rfl rfl rfl ?_
 refine Zn (Zt (GC.ret ?_))
 exact GE.body [] 9 (res1 rfl rfl) rfl (⟨rfl, rfl⟩)
 refine GC.at [] 0 (env' := [(3, .pointer (some ⟨g20, 0, none⟩)), (4, v3), (5, v4), (7, .int .i64 (cnOf cr cd u8 u9)), (8, v21)]) ⟨rfl,rfl,rfl,rfl,rfl,trivial⟩ rfl ?_
 refine GC.par (its := [Z0 30 (.agg #[.int .i64 (cr), v2]),
     Z0 31 v4,
     Z0 32 v3,
     Z1 33 [(0, 30), (1, 31), (2, 32)] (.int .i64 (cnOf cr cd u9 u8)),
     Z0 34 (.int .i64 (cnOf cr cd u8 u9)),
     Z1 35 [(4, 34)] (.int .i64 (IntKind.i64.wrap (0 - cnOf cr cd u8 u9))),
     Z1 36 [(3, 33), (5, 35)] (.bool false),
     Z1 37 [(6, 36)] (.bool false),
     Z1 38 [(7, 37)] (.agg #[.int .i64 (cr), v2]),
     Z1 39 [(7, 37)] v3,
     ⟨40, [(7, 37), (9, 39)], [], [], [10], fun ds => ((ds.getD 0 []).getD 0 undef), fun ds => IsS ((ds.getD 0 []).getD 0 undef), fun ds => [ints 3 ((ds.getD 0 []).getD 0 undef) (mnF u8)]⟩,
     Z1 41 [(7, 37)] v4,
     ⟨42, [(7, 37), (11, 41)], [], [], [12], fun ds => ((ds.getD 0 []).getD 0 undef), fun ds => IsS ((ds.getD 0 []).getD 0 undef), fun ds => [ints 3 ((ds.getD 0 []).getD 0 undef) (mnF u9)]⟩,
     ⟨43, [(7, 37), (8, 38), (10, 40), (12, 42)], [10, 12], [], [10, 12], fun _ => .int .i64 (cnOf cr cd (mnF u8) (mnF u9)), fun _ => True, fun _ => []⟩,
     Z1 44 [(7, 37)] (.int .i64 (cnOf cr cd u8 u9)),
     Z1 45 [(7, 37), (14, 44)] (.int .i64 (IntKind.i64.wrap (0 - cnOf cr cd u8 u9))),
     ⟨46, [(7, 37), (13, 43), (15, 45)], [10, 12], [], [10, 12], fun _ => .bool false, fun _ => True, fun _ => []⟩,
     ⟨47, [(7, 37), (16, 46)], [10, 12], [], [10, 12], fun _ => .bool false, fun _ => True, fun _ => []⟩,
     ⟨48, [(17, 47)], [10, 12], [], [10, 12], fun _ => .bool false, fun _ => True, fun _ => []⟩,
     ⟨49, [(18, 48)], [10, 12], [], [10, 12], fun _ => .int .i64 (cnOf cr cd u8 u9), fun _ => True, fun _ => []⟩,
     ⟨50, [(18, 48), (19, 49)], [10, 12], [], [10, 12], fun _ => .bool ((cnOf cr cd u8 u9) != 0), fun _ => True, fun _ => []⟩,
     ⟨51, [(18, 48)], [10, 12], [], [10, 12], fun _ => .agg #[.int .i64 (cr), v2], fun _ => True, fun _ => []⟩,
     ⟨52, [(18, 48)], [10, 12], [], [10, 12], fun _ => v21, fun _ => True, fun _ => []⟩,
     ⟨53, [(18, 48), (21, 51), (22, 52)], [10, 12], [], [10, 12], fun _ => .bool false, fun _ => True, fun _ => []⟩,
     ⟨54, [(18, 48), (23, 53)], [10, 12], [], [10, 12], fun _ => .bool false, fun _ => True, fun _ => []⟩,
     ⟨55, [(24, 54)], [10, 12], [], [10, 12], fun _ => undef, fun _ => True, fun _ => []⟩,
     ⟨56, [(24, 54), (25, 55)], [10, 12], [], [10, 12], fun _ => undef, fun _ => True, fun _ => []⟩,
     ⟨57, [(24, 54), (26, 56)], [10, 12], [], [10, 12], fun _ => undef, fun _ => True, fun _ => []⟩,
     ⟨58, [(18, 48), (24, 54), (27, 57)], [10, 12], [], [10, 12], fun _ => .bool false, fun _ => True, fun _ => []⟩,
     ⟨59, [(18, 48), (20, 50), (28, 58)], [10, 12], [], [10, 12], fun _ => .bool false, fun _ => True, fun _ => []⟩,
     ⟨60, [(18, 48), (29, 59)], [10, 12], [], [10, 12], fun _ => .bool false, fun _ => True, fun _ => []⟩]) (by kernel_rfl) (by kernel_rfl) (POps.cons ?_ (POps.cons ?_ (POps.cons ?_ (POps.cons ?_ (POps.cons ?_ (POps.cons ?_ (POps.cons ?_ (POps.cons ?_ (POps.cons ?_ (POps.cons ?_ (POps.cons ?_ (POps.cons ?_ (POps.cons ?_ (POps.cons ?_ (POps.cons ?_ (POps.cons ?_ (POps.cons ?_ (POps.cons ?_ (POps.cons ?_ (POps.cons ?_ (POps.cons ?_ (POps.cons ?_ (POps.cons ?_ (POps.cons ?_ (POps.cons ?_ (POps.cons ?_ (POps.cons ?_ (POps.cons ?_ (POps.cons ?_ (POps.cons ?_ (POps.cons ?_ POps.nil))))))))))))))))))))))))))))))) ?_
 exact fun θ R hd => Zq (OD.loadAgg rfl ti27 rfl (i := 1) rfl (us := [.int .i64 (cr), v2]) rfl rfl) rfl rfl trivial rfl
 exact fun θ R hd => Zq (OD.move rfl rfl) rfl rfl trivial rfl
 exact fun θ R hd => Zq (OD.move rfl rfl) rfl rfl trivial rfl
 exact fun θ R ⟨h0d, h1d, h2d, _⟩ => Zq (OG.call [.agg #[.int .i64 (cr), v2], v4, v3] ent12 rfl rfl rfl rfl (by exact (constantOf_w hs11 (Ent.ints (i := 2) rfl) hs13 (Ent.ints (i := 4) rfl) hs12 (Ent.ints (i := 3) rfl) (hl0) (by omega) (by omega) (hL.al.2.1) (hL.al.1) ((Ent.drop 6 hg.app)) ((Ent.drop 6 htab.app))))) rfl rfl trivial rfl
 exact fun θ R hd => Zq (OD.move rfl rfl) rfl rfl trivial rfl
 exact fun θ R ⟨h4d, _⟩ => Zq (OD.neg rfl rfl) rfl rfl trivial rfl
 exact fun θ R ⟨h3d, h5d, _⟩ => Zq (OD.eqv (OD.neq rfl rfl rfl) (congrArg Value.bool ((by rw [bne_eq_false_iff_eq]; rw [w0 (by omega)]; exact hsw) : _ = false))) rfl rfl trivial rfl
 exact fun θ R ⟨h6d, _⟩ => Zq (OD.move rfl rfl) rfl rfl trivial rfl
 exact fun θ R ⟨h7d, _⟩ => Zo (OD.loadAgg rfl ti27 rfl (i := 1) rfl (us := [.int .i64 (cr), v2]) rfl rfl) rfl rfl rfl rfl trivial rfl
 exact fun θ R ⟨h7d, _⟩ => Zo (OD.move rfl rfl) rfl rfl rfl rfl trivial rfl
 exact fun θ R ⟨h7d, h9d, _⟩ => Opp.on (OG.imp (OG.call [v3] ent18 rfl rfl rfl rfl (by exact (minus_w hs12 (Ent.ints (i := 3) rfl) (by first | omega | (rw [adF_len]; omega)) (fun j _ => by have := h10x j; omega)))) (by rintro v42 _ ⟨_, rfl, hs43, rfl⟩; exact ⟨[v42], rfl, hs43, rfl⟩)) rfl rfl rfl
 exact fun θ R ⟨h7d, _⟩ => Zo (OD.move rfl rfl) rfl rfl rfl rfl trivial rfl
 exact fun θ R ⟨h7d, h11d, _⟩ => Opp.on (OG.imp (OG.call [v4] ent18 rfl rfl rfl rfl (by exact (minus_w hs13 (Ent.ints (i := 4) rfl) (by first | omega | (rw [adF_len]; omega)) (fun j _ => by have := h10y j; omega)))) (by rintro v44 _ ⟨_, rfl, hs45, rfl⟩; exact ⟨[v44], rfl, hs45, rfl⟩)) rfl rfl rfl
 exact fun θ R ⟨h7d, h8d, h10d, h12d, _⟩ => Opp.on (OG.imp (OG.call [.agg #[.int .i64 (cr), v2], ((θ 10).getD 0 undef), ((θ 12).getD 0 undef)] ent12 rfl rfl rfl rfl (by exact (constantOf_w hs11 (Ent.ints (i := 4) rfl) h10d (Ent.ints (i := 0) rfl) h12d (Ent.ints (i := 1) rfl) (hl0) (by omega) (by omega) (hL.al.2.2.2.1) (hL.al.2.2.2.2.1) ((Ent.drop 8 hg.app)) ((Ent.drop 8 htab.app))))) (by rintro _ _ ⟨rfl, rfl⟩; exact ⟨[], rfl, trivial, (by first | exact left_all | rfl)⟩)) rfl rfl rfl
 exact fun θ R ⟨h7d, _⟩ => Zo (OD.move rfl rfl) rfl rfl rfl rfl trivial rfl
 exact fun θ R ⟨h7d, h14d, _⟩ => Zo (OD.neg rfl rfl) rfl rfl rfl rfl trivial rfl
 exact fun θ R ⟨h7d, h13d, h15d, _⟩ => Opp.on (OG.imp (OD.eqv (OD.neq rfl rfl rfl) (congrArg Value.bool ((by rw [bne_eq_false_iff_eq]; rw [w0 (by omega)]; exact hmm) : _ = false))) (by rintro _ _ ⟨rfl, rfl⟩; exact ⟨[], rfl, trivial, (by first | exact left_all | rfl)⟩)) rfl rfl rfl
 exact fun θ R ⟨h7d, h16d, _⟩ => Opp.plain (OG.imp (OD.pickF rfl rfl rfl) (by rintro _ _ ⟨rfl, rfl⟩; exact ⟨[], rfl, trivial, (by first | exact left_all | rfl)⟩)) rfl
 exact fun θ R ⟨h17d, _⟩ => Opp.plain (OG.imp (OD.move rfl rfl) (by rintro _ _ ⟨rfl, rfl⟩; exact ⟨[], rfl, trivial, (by first | exact left_all | rfl)⟩)) rfl
 exact fun θ R ⟨h18d, _⟩ => Opp.on (OG.imp (OD.move rfl rfl) (by rintro _ _ ⟨rfl, rfl⟩; exact ⟨[], rfl, trivial, (by first | exact left_all | rfl)⟩)) rfl rfl rfl
 exact fun θ R ⟨h18d, h19d, _⟩ => Opp.on (OG.imp (OD.neq rfl rfl rfl) (by rintro _ _ ⟨rfl, rfl⟩; exact ⟨[], rfl, trivial, (by first | exact left_all | rfl)⟩)) rfl rfl rfl
 exact fun θ R ⟨h18d, _⟩ => Opp.on (OG.imp (OD.loadAgg rfl ti27 rfl (i := 3) rfl (us := [.int .i64 (cr), v2]) rfl rfl) (by rintro _ _ ⟨rfl, rfl⟩; exact ⟨[], rfl, trivial, (by first | exact left_all | rfl)⟩)) rfl rfl rfl
 exact fun θ R ⟨h18d, _⟩ => Opp.on (OG.imp (OD.move rfl rfl) (by rintro _ _ ⟨rfl, rfl⟩; exact ⟨[], rfl, trivial, (by first | exact left_all | rfl)⟩)) rfl rfl rfl
 exact fun θ R ⟨h18d, h21d, h22d, _⟩ => Opp.on (OG.imp (OG.imp (K' := fun v ow => v = .bool false ∧ ow = ints 3 ((θ 10).getD 0 undef) (mnF u8) :: ints 3 ((θ 12).getD 0 undef) (mnF u9) :: ints 3 v21 (adF u8 u9) :: box g20 27 [.int .i64 (cr), v2] :: ints 3 v2 cd :: ints 3 v3 u8 :: ints 3 v4 u9 :: ints 3 v5 u10 :: own ++ R) (OG.call [.agg #[.int .i64 (cr), v2], v21] ent19 rfl rfl rfl rfl (by exact (isRoot_w hs11 (Ent.ints (i := 4) rfl) hs22 (Ent.ints (i := 2) rfl) (hl0) (by first | omega | (rw [adF_len]; omega)) (hL.al.2.2.1) ((Ent.drop 8 hg.app)) ((Ent.drop 8 htab.app))))) (by rintro _ _ ⟨rfl, rfl⟩; exact ⟨congrArg Value.bool (hg27), rfl⟩)) (by rintro _ _ ⟨rfl, rfl⟩; exact ⟨[], rfl, trivial, (by first | exact left_all | rfl)⟩)) rfl rfl rfl
 exact fun θ R ⟨h18d, h23d, _⟩ => Opp.on (OG.imp (OD.move rfl rfl) (by rintro _ _ ⟨rfl, rfl⟩; exact ⟨[], rfl, trivial, (by first | exact left_all | rfl)⟩)) rfl rfl rfl
 exact fun θ R ⟨h24d, _⟩ => Opp.off ⟨[], rfl, trivial, rfl⟩ rfl rfl rfl rfl
 exact fun θ R ⟨h24d, h25d, _⟩ => Opp.off ⟨[], rfl, trivial, rfl⟩ rfl rfl rfl rfl
 exact fun θ R ⟨h24d, h26d, _⟩ => Opp.off ⟨[], rfl, trivial, rfl⟩ rfl rfl rfl rfl
 exact fun θ R ⟨h18d, h24d, h27d, _⟩ => Opp.on (OG.imp (OD.pickF rfl rfl rfl) (by rintro _ _ ⟨rfl, rfl⟩; exact ⟨[], rfl, trivial, (by first | exact left_all | rfl)⟩)) rfl rfl rfl
 exact fun θ R ⟨h18d, h20d, h28d, _⟩ => Opp.on (OG.imp (OD.eqv (OD.neqB bt4 rfl rfl rfl) (congrArg Value.bool ((by rw [hL.no hg27]; rfl) : _ = false))) (by rintro _ _ ⟨rfl, rfl⟩; exact ⟨[], rfl, trivial, (by first | exact left_all | rfl)⟩)) rfl rfl rfl
 exact fun θ R ⟨h18d, h29d, _⟩ => Opp.plain (OG.imp (OD.pickF rfl rfl rfl) (by rintro _ _ ⟨rfl, rfl⟩; exact ⟨[], rfl, trivial, (by first | exact left_all | rfl)⟩)) rfl
 intro θ hall
 obtain ⟨_, _, _, _, _, _, _, _, _, _, h10a, _, h12a, _, _, _, _, _, _, _, _, _, _, _, _, _, _, _, _, _, _, _⟩ := hall
 refine G.at [] 0 (env' := [(3, .pointer (some ⟨g20, 0, none⟩)), (4, v3), (5, v4), (7, .int .i64 (cnOf cr cd u8 u9)), (8, v21), (60, .bool false)]) ⟨rfl,rfl,rfl,rfl,rfl,rfl,trivial⟩ (own' := ints 3 ((θ 10).getD 0 undef) (mnF u8) :: ints 3 ((θ 12).getD 0 undef) (mnF u9) :: ints 3 v21 (adF u8 u9) :: box g20 27 [.int .i64 (cr), v2] :: ints 3 v2 cd :: ints 3 v3 u8 :: ints 3 v4 u9 :: ints 3 v5 u10 :: own) rfl ?_
 have hs46 : IsS ((θ 10).getD 0 undef) := h10a
 clear h10a
 generalize ((θ 10).getD 0 undef) = v47 at *
 have hs48 : IsS ((θ 12).getD 0 undef) := h12a
 clear h12a
 generalize ((θ 12).getD 0 undef) = v49 at *
 show G _ _ _ [] _ _ _ _
 refine Zn (Zt (GC.condF rfl (Zk (Zt (Zs (Zs (Zr ?_)))))))
 refine Zm rfl rfl rfl rfl rfl ?_
 refine G.stepD (OD.eql rfl rfl rfl) rfl rfl rfl ?_
 refine Zn (Zt ?_)
 refine GC.cond rfl (fun hc50 => ?_) (fun hc50 => ?_)
 replace hc50 := eq_of_beq hc50
 refine Zs (Zr ?_)
 refine Za rfl rfl rfl rfl rfl ?_
 refine Zn (Zt (GC.ret (GE.passR ?_)))
 exact GE.body [] 8 (res1 rfl rfl) rfl (⟨rfl, rfl⟩)
 replace hc50 := ne_of_beq_false hc50
 refine Zk (Zt (Zs (Zr ?_)))
 refine G.stepD (OD.loadAgg rfl ti27 rfl (i := 3) rfl (us := [.int .i64 (cr), v2]) rfl rfl) rfl rfl rfl ?_
 refine Zm rfl rfl rfl rfl rfl ?_
 refine Zm rfl rfl rfl rfl rfl ?_
 refine G.step (OG.call [.agg #[.int .i64 (cr), v2], v3, v4] ent21 rfl rfl rfl rfl (by exact (rootString_w hs11 (Ent.ints (i := 4) rfl) hs12 (Ent.ints (i := 5) rfl) hs13 (Ent.ints (i := 6) rfl) (hl0) (by omega) (by omega) (hL.al.2.1) (hL.al.1) ((Ent.drop 8 hg)) ((Ent.drop 8 htab))))) rfl rfl rfl ?_
 rintro _ _ ⟨rfl, rfl⟩
 refine Zm rfl rfl rfl rfl rfl ?_
 refine G.stepD (OD.extract rfl rfl rfl) rfl rfl rfl ?_
 refine G.stepD (OD.extract rfl rfl rfl) rfl rfl rfl ?_
 refine Za rfl rfl rfl rfl rfl ?_
 refine Za rfl rfl rfl rfl rfl ?_
 refine Zn (Zt (Zs ?_))
 obtain ⟨p, hp3, hpe, hor⟩ := hL.str (by assumption)
 have hpq := hL.eq (by assumption)
 refine Zr ?_
 refine G.stepD (OD.loadAgg rfl ti27 rfl (i := 3) rfl (us := [.int .i64 (cr), v2]) rfl rfl) rfl rfl rfl ?_
 refine Zm rfl rfl rfl rfl rfl ?_
 refine Zm rfl rfl rfl rfl rfl ?_
 refine G.step (OG.call [.agg #[.int .i64 (cr), v2], v21, v21] ent22 rfl rfl rfl rfl (by exact (innerOf_w hs11 (Ent.ints (i := 4) rfl) hs22 (Ent.ints (i := 2) rfl) hs22 (Ent.ints (i := 2) rfl) (hl0) (by first | omega | (rw [adF_len]; omega)) (by omega) ((Ent.drop 8 hg))))) rfl rfl rfl ?_
 rintro _ _ ⟨rfl, rfl⟩
 refine Za rfl rfl rfl rfl rfl ?_
 refine Zn (Zt (Zs (Zr ?_)))
 refine G.stepD (OD.loadAgg rfl ti27 rfl (i := 3) rfl (us := [.int .i64 (cr), v2]) rfl rfl) rfl rfl rfl ?_
 refine Zm rfl rfl rfl rfl rfl ?_
 refine Zm rfl rfl rfl rfl rfl ?_
 refine G.step (OG.call [.agg #[.int .i64 (cr), v2], v3, v3] ent22 rfl rfl rfl rfl (by exact (innerOf_w hs11 (Ent.ints (i := 4) rfl) hs12 (Ent.ints (i := 5) rfl) hs12 (Ent.ints (i := 5) rfl) (hl0) (by first | omega | (rw [adF_len]; omega)) (by omega) ((Ent.drop 8 hg))))) rfl rfl rfl ?_
 rintro _ _ ⟨rfl, rfl⟩
 refine Za rfl rfl rfl rfl rfl ?_
 refine Zn (Zt (Zs ?_))
 refine GC.at [] 0 (env' := [(3, .pointer (some ⟨g20, 0, none⟩)), (5, v4), (7, .int .i64 (cnOf cr cd u8 u9)), (8, v21), (9, .int .i64 (rsA cr cd u8 u9 (-1))), (11, .int .i64 (inOf cr cd (adF u8 u9) (adF u8 u9))), (12, .int .i64 (inOf cr cd u8 u8))]) ⟨rfl,rfl,rfl,rfl,rfl,rfl,rfl,trivial⟩ rfl ?_
 refine GC.par (its := [Z0 78 (.agg #[.int .i64 (cr), v2]),
     Z0 79 v4,
     Z0 80 v21,
     ⟨81, [(2, 80)], [], [], [3], fun ds => ((ds.getD 0 []).getD 0 undef), fun ds => IsS ((ds.getD 0 []).getD 0 undef), fun ds => [ints 3 ((ds.getD 0 []).getD 0 undef) (mnF (adF u8 u9))]⟩,
     ⟨82, [(0, 78), (1, 79), (3, 81)], [3], [], [3], fun _ => .int .i64 (cnOf cr cd u9 (mnF (adF u8 u9))), fun _ => True, fun _ => []⟩]) (by kernel_rfl) (by kernel_rfl) (POps.cons ?_ (POps.cons ?_ (POps.cons ?_ (POps.cons ?_ (POps.cons ?_ POps.nil))))) ?_
 exact fun θ R hd => Zq (OD.loadAgg rfl ti27 rfl (i := 3) rfl (us := [.int .i64 (cr), v2]) rfl rfl) rfl rfl trivial rfl
 exact fun θ R hd => Zq (OD.move rfl rfl) rfl rfl trivial rfl
 exact fun θ R hd => Zq (OD.move rfl rfl) rfl rfl trivial rfl
 exact fun θ R ⟨h2d, _⟩ => Opp.plain (OG.imp (OG.call [v21] ent18 rfl rfl rfl rfl (by exact (minus_w hs22 (Ent.ints (i := 2) rfl) (by first | omega | (rw [adF_len]; omega)) (fun j _ => by have := h20z j; omega)))) (by rintro v51 _ ⟨_, rfl, hs52, rfl⟩; exact ⟨[v51], rfl, hs52, rfl⟩)) rfl
 exact fun θ R ⟨h0d, h1d, h3d, _⟩ => Opp.plain (OG.imp (OG.call [.agg #[.int .i64 (cr), v2], v4, ((θ 3).getD 0 undef)] ent12 rfl rfl rfl rfl (by exact (constantOf_w hs11 (Ent.ints (i := 5) rfl) hs13 (Ent.ints (i := 7) rfl) h3d (Ent.ints (i := 0) rfl) (hl0) (by omega) (by omega) (hL.al.2.1) (hL.al.2.2.2.2.2) ((Ent.drop 9 hg.app)) ((Ent.drop 9 htab.app))))) (by rintro _ _ ⟨rfl, rfl⟩; exact ⟨[], rfl, trivial, (by first | exact left_all | rfl)⟩)) rfl
 intro θ hall
 obtain ⟨_, _, _, h3a, _, _⟩ := hall
 refine G.at [] 0 (env' := [(7, .int .i64 (cnOf cr cd u8 u9)), (9, .int .i64 (rsA cr cd u8 u9 (-1))), (11, .int .i64 (inOf cr cd (adF u8 u9) (adF u8 u9))), (12, .int .i64 (inOf cr cd u8 u8)), (82, .int .i64 (cnOf cr cd u9 (mnF (adF u8 u9))))]) ⟨rfl,rfl,rfl,rfl,rfl,trivial⟩ (own' := ints 3 ((θ 3).getD 0 undef) (mnF (adF u8 u9)) :: ints 3 v47 (mnF u8) :: ints 3 v49 (mnF u9) :: ints 3 v21 (adF u8 u9) :: box g20 27 [.int .i64 (cr), v2] :: ints 3 v2 cd :: ints 3 v3 u8 :: ints 3 v4 u9 :: ints 3 v5 u10 :: own) rfl ?_
 have hs53 : IsS ((θ 3).getD 0 undef) := h3a
 clear h3a
 generalize ((θ 3).getD 0 undef) = v54 at *
 show G _ _ _ [_] _ _ _ _
 refine Za rfl rfl rfl rfl rfl ?_
 refine Zn (Zt (Zs (Zr ?_)))
 refine Zm rfl rfl rfl rfl rfl ?_
 refine Zm rfl rfl rfl rfl rfl ?_
 refine G.stepD (OD.addI rfl rfl rfl (by omega)) rfl rfl rfl ?_
 refine G.stepD (OD.eql rfl rfl rfl) rfl rfl rfl ?_
 refine Zm rfl rfl rfl rfl rfl ?_
 rcases Bool.eq_false_or_eq_true ((cnOf cr cd u8 u9) == ((rsA cr cd u8 u9 (-1)) + 1)) with hg55 | hg55
 have hg55e := hg55
 refine G.at [] 0 (env' := [(7, .int .i64 (cnOf cr cd u8 u9)), (9, .int .i64 (rsA cr cd u8 u9 (-1))), (11, .int .i64 (inOf cr cd (adF u8 u9) (adF u8 u9))), (12, .int .i64 (inOf cr cd u8 u8)), (82, .int .i64 (cnOf cr cd u9 (mnF (adF u8 u9)))), (13, .int .i64 (cnOf cr cd u9 (mnF (adF u8 u9)))), (83, .int .i64 (cnOf cr cd u8 u9)), (84, .int .i64 (rsA cr cd u8 u9 (-1))), (85, .int .i64 ((rsA cr cd u8 u9 (-1)) + 1)), (86, .bool true), (87, .bool true)]) (⟨rfl, rfl, rfl, rfl, rfl, rfl, rfl, rfl, rfl, (congrArg (fun b => some (Value.bool b)) hg55e), (congrArg (fun b => some (Value.bool b)) hg55e), trivial⟩) rfl ?_
 replace hg55 := eq_of_beq hg55
 refine G.skipG rfl rfl rfl rfl rfl rfl (G.skipG rfl rfl rfl rfl rfl rfl (G.skipG rfl rfl rfl rfl rfl rfl (G.skipG rfl rfl rfl rfl rfl rfl (G.skipG rfl rfl rfl rfl rfl rfl ?_))))
 refine G.stepD (OD.pickT rfl rfl rfl) rfl rfl rfl ?_
 refine Zm rfl rfl rfl rfl rfl ?_
 refine G.stepGD (OD.move rfl rfl) rfl rfl rfl rfl rfl ?_
 refine G.stepGD (OD.move rfl rfl) rfl rfl rfl rfl rfl ?_
 refine G.stepGD (OD.mul rfl rfl rfl) rfl rfl rfl rfl rfl ?_
 refine G.stepGD (OD.move rfl rfl) rfl rfl rfl rfl rfl ?_
 refine G.stepGD (OD.move rfl rfl) rfl rfl rfl rfl rfl ?_
 refine G.stepGD (OD.mul rfl rfl rfl) rfl rfl rfl rfl rfl ?_
 refine G.stepGD (OD.eqv (OD.eql rfl rfl rfl) (congrArg Value.bool ((beq_iff_eq.2 (congrArg _ hpq)) : _ = true))) rfl rfl rfl rfl rfl ?_
 refine G.stepD (OD.pickT rfl rfl rfl) rfl rfl rfl ?_
 refine Za rfl rfl rfl rfl rfl ?_
 refine Zn (Zt (GC.ret ?_))
 exact GE.body [] 9 (res1 rfl rfl) rfl (⟨rfl, rfl⟩)
 have hg55e := hg55
 refine G.at [] 0 (env' := [(7, .int .i64 (cnOf cr cd u8 u9)), (9, .int .i64 (rsA cr cd u8 u9 (-1))), (11, .int .i64 (inOf cr cd (adF u8 u9) (adF u8 u9))), (12, .int .i64 (inOf cr cd u8 u8)), (82, .int .i64 (cnOf cr cd u9 (mnF (adF u8 u9)))), (13, .int .i64 (cnOf cr cd u9 (mnF (adF u8 u9)))), (83, .int .i64 (cnOf cr cd u8 u9)), (84, .int .i64 (rsA cr cd u8 u9 (-1))), (85, .int .i64 ((rsA cr cd u8 u9 (-1)) + 1)), (86, .bool false), (87, .bool false)]) (⟨rfl, rfl, rfl, rfl, rfl, rfl, rfl, rfl, rfl, (congrArg (fun b => some (Value.bool b)) hg55e), (congrArg (fun b => some (Value.bool b)) hg55e), trivial⟩) rfl ?_
 replace hg55 := ne_of_beq_false hg55
 refine G.stepGD (OD.move rfl rfl) rfl rfl rfl rfl rfl ?_
 refine G.stepGD (OD.move rfl rfl) rfl rfl rfl rfl rfl ?_
 refine G.stepGD (OD.negI rfl rfl (by omega)) rfl rfl rfl rfl rfl ?_
 refine G.stepGD (OD.subI rfl rfl rfl (by omega)) rfl rfl rfl rfl rfl ?_
 refine G.stepGD (OD.eqv (OD.eql rfl rfl rfl) (congrArg Value.bool ((beq_iff_eq.2 (by omega)) : _ = true))) rfl rfl rfl rfl rfl ?_
 refine G.stepD (OD.pickF rfl rfl rfl) rfl rfl rfl ?_
 refine Zm rfl rfl rfl rfl rfl ?_
 refine G.stepGD (OD.move rfl rfl) rfl rfl rfl rfl rfl ?_
 refine G.stepGD (OD.move rfl rfl) rfl rfl rfl rfl rfl ?_
 refine G.stepGD (OD.mul rfl rfl rfl) rfl rfl rfl rfl rfl ?_
 refine G.stepGD (OD.move rfl rfl) rfl rfl rfl rfl rfl ?_
 refine G.stepGD (OD.move rfl rfl) rfl rfl rfl rfl rfl ?_
 refine G.stepGD (OD.mul rfl rfl rfl) rfl rfl rfl rfl rfl ?_
 refine G.stepGD (OD.eqv (OD.eql rfl rfl rfl) (congrArg Value.bool ((beq_iff_eq.2 (congrArg _ hpq)) : _ = true))) rfl rfl rfl rfl rfl ?_
 refine G.stepD (OD.pickT rfl rfl rfl) rfl rfl rfl ?_
 refine Za rfl rfl rfl rfl rfl ?_
 refine Zn (Zt (GC.ret ?_))
 exact GE.body [] 9 (res1 rfl rfl) rfl (⟨rfl, rfl⟩)
end Go.Proofs.YtbmnnbglipkidaaGreatDoor
