/-
  Matrices: contracts of the functions that the law on ScaleMatrix calls, and the law itself.
-/
import Derived.Test.YtiapoopcicjldaaWHelp
namespace Go.Proofs.Ytiapoopcicjldaa
set_option linter.unusedVariables false
set_option linter.unusedSimpArgs false
open Go.RowKit

theorem ent24 : ∀ us w, (callFunc 24 us).run Try.prog w = .ok (.enter 24 us) w := fun us w => by kernel_rfl
theorem ent26 : ∀ us w, (callFunc 26 us).run Try.prog w = .ok (.enter 26 us) w := fun us w => by kernel_rfl
theorem ent27 : ∀ us w, (callFunc 27 us).run Try.prog w = .ok (.enter 27 us) w := fun us w => by kernel_rfl
theorem ent28 : ∀ us w, (callFunc 28 us).run Try.prog w = .ok (.enter 28 us) w := fun us w => by kernel_rfl
theorem ent29 : ∀ us w, (callFunc 29 us).run Try.prog w = .ok (.enter 29 us) w := fun us w => by kernel_rfl
theorem ent30 : ∀ us w, (callFunc 30 us).run Try.prog w = .ok (.enter 30 us) w := fun us w => by kernel_rfl
theorem ent31 : ∀ us w, (callFunc 31 us).run Try.prog w = .ok (.enter 31 us) w := fun us w => by kernel_rfl
theorem ent54 : ∀ us w, (callFunc 54 us).run Try.prog w = .ok (.enter 54 us) w := fun us w => by kernel_rfl
theorem ent57 : ∀ us w, (callFunc 57 us).run Try.prog w = .ok (.enter 57 us) w := fun us w => by kernel_rfl
theorem ent58 : ∀ us w, (callFunc 58 us).run Try.prog w = .ok (.enter 58 us) w := fun us w => by kernel_rfl
theorem ent60 : ∀ us w, (callFunc 60 us).run Try.prog w = .ok (.enter 60 us) w := fun us w => by kernel_rfl
theorem ent64 : ∀ us w, (callFunc 64 us).run Try.prog w = .ok (.enter 64 us) w := fun us w => by kernel_rfl
theorem ent65 : ∀ us w, (callFunc 65 us).run Try.prog w = .ok (.enter 65 us) w := fun us w => by kernel_rfl
theorem ent78 : ∀ us w, (callFunc 78 us).run Try.prog w = .ok (.enter 78 us) w := fun us w => by kernel_rfl
theorem ent86 : ∀ us w, (callFunc 86 us).run Try.prog w = .ok (.enter 86 us) w := fun us w => by kernel_rfl
theorem ent93 : ∀ us w, (callFunc 93 us).run Try.prog w = .ok (.enter 93 us) w := fun us w => by kernel_rfl
theorem ent94 : ∀ us w, (callFunc 94 us).run Try.prog w = .ok (.enter 94 us) w := fun us w => by kernel_rfl

theorem matrixOk_s {W : World} {own : List Asn} {ap : Int} {ar : Int} {ac : Int} {vad : Value} {ad : List Int}  (sad : IsS vad) (ead : Ent own fun w => Ints w vad ad)   : Spec Try.prog 54 [.agg #[.int .i64 (ap), .int .i64 (ar), .int .i64 (ac), vad]] W own (fun v ow => v = .bool (matOkB ⟨ap, ar, ac, ad⟩) ∧ ow = own) := Spec.below fun w hs => matrixOk_any _ _ w ⟨_, rfl, ead W w hs⟩

theorem specMatrixOk_s {W : World} {own : List Asn} {ap : Int} {ar : Int} {ac : Int} {vad : Value} {ad : List Int}  (sad : IsS vad) (ead : Ent own fun w => Ints w vad ad)   : Spec Try.prog 60 [.agg #[.int .i64 (ap), .int .i64 (ar), .int .i64 (ac), vad]] W own (fun v ow => v = .bool (matOkB ⟨ap, ar, ac, ad⟩) ∧ ow = own) := Spec.below fun w hs => specMatrixOk_any _ _ w ⟨_, rfl, ead W w hs⟩

theorem isPrime_s {W : World} {own : List Asn} {n : Int}    : Spec Try.prog 86 [.int .i64 (n)] W own (fun v ow => v = .bool (primeB n) ∧ ow = own) := Spec.same fun w _ => isPrime_any n w

theorem specIsPrime_s {W : World} {own : List Asn} {n : Int}    : Spec Try.prog 90 [.int .i64 (n)] W own (fun v ow => v = .bool (primeB n) ∧ ow = own) := Spec.same fun w _ => specIsPrime_any n w

theorem inside_s {W : World} {own : List Asn} {n : Int} {lo : Int} {hi : Int}    : Spec Try.prog 78 [.int .i64 (n), .int .i64 (lo), .int .i64 (hi)] W own (fun v ow => v = .bool (inB n lo hi) ∧ ow = own) := Spec.same fun w _ => inside_any n lo hi w

theorem l1In_s {W : World} {own : List Asn} {n : Int} {lo : Int} {hi : Int}    : Spec Try.prog 91 [.int .i64 (n), .int .i64 (lo), .int .i64 (hi)] W own (fun v ow => v = .bool (inB n lo hi) ∧ ow = own) := Spec.same fun w _ => l1In_any n lo hi w

theorem mod_s {W : World} {own : List Asn} {n : Int} {p : Int}   (hp : 1 ≤ p ∧ p ≤ 1000000) : Spec Try.prog 65 [.int .i64 (n), .int .i64 (p)] W own (fun v ow => v = .int .i64 (n % p) ∧ ow = own) := Spec.same fun w _ => mod_any n p w hp.1 hp.2

theorem l1Mod_s {W : World} {own : List Asn} {n : Int} {p : Int}   (hp : 1 ≤ p ∧ p ≤ 1000000) : Spec Try.prog 94 [.int .i64 (n), .int .i64 (p)] W own (fun v ow => v = .int .i64 (n % p) ∧ ow = own) := Spec.same fun w _ => l1Mod_any n p w hp.1 hp.2

theorem clone_s {W : World} {own : List Asn} {vx : Value} {x : List Int}  (sx : IsS vx) (ex : Ent own fun w => Ints w vx x)  (hl : x.length ≤ 1073741824) : Spec Try.prog 89 [vx] W own (fun v ow => ∃ (r0 : Value), v = r0 ∧ IsS r0 ∧ ow = ints 3 r0 x :: own) := Spec.ownI fun w hs => clone_any _ _ w (ex W w hs) hl

theorem l1Ints_s {W : World} {own : List Asn} {vx : Value} {x : List Int}  (sx : IsS vx) (ex : Ent own fun w => Ints w vx x)  (hl : x.length ≤ 1073741824) : Spec Try.prog 106 [vx] W own (fun v ow => ∃ (r0 : Value), v = r0 ∧ IsS r0 ∧ ow = ints 3 r0 x :: own) := Spec.ownI fun w hs => l1Ints_any _ _ w (ex W w hs) hl

theorem plus_s {W : World} {own : List Asn} {ap : Int} {ar : Int} {ac : Int} {vad : Value} {ad : List Int} {k : Int} {bp : Int} {br : Int} {bc : Int} {vbd : Value} {bd : List Int}  (sad : IsS vad) (ead : Ent own fun w => Ints w vad ad)   (sbd : IsS vbd) (ebd : Ent own fun w => Ints w vbd bd)  (ha : Small ⟨ap, ar, ac, ad⟩) (hb : Small ⟨bp, br, bc, bd⟩) (hk : 0 ≤ k ∧ k ≤ 20000) (hl : bd.length ≤ ad.length) : Spec Try.prog 57 [.agg #[.int .i64 (ap), .int .i64 (ar), .int .i64 (ac), vad], .int .i64 (k), .agg #[.int .i64 (bp), .int .i64 (br), .int .i64 (bc), vbd]] W own (fun v ow => ∃ (r3 : Value), v = .agg #[.int .i64 (ap), .int .i64 (ar), .int .i64 (ac), r3] ∧ IsS r3 ∧ ow = ints 3 r3 (addF k ap ad bd) :: own) := Spec.ownM (m := plusF ⟨ap, ar, ac, ad⟩ k ⟨bp, br, bc, bd⟩) fun w hs => plus_any _ _ _ _ k w ⟨_, rfl, ead W w hs⟩ ⟨_, rfl, ebd W w hs⟩ ha hb hk.1 hk.2 hl

theorem l1Copy_s {W : World} {own : List Asn} {ap : Int} {ar : Int} {ac : Int} {vad : Value} {ad : List Int}  (sad : IsS vad) (ead : Ent own fun w => Ints w vad ad)  (hl : ad.length ≤ 1073741824) : Spec Try.prog 93 [.agg #[.int .i64 (ap), .int .i64 (ar), .int .i64 (ac), vad]] W own (fun v ow => ∃ (r3 : Value), v = .agg #[.int .i64 (ap), .int .i64 (ar), .int .i64 (ac), r3] ∧ IsS r3 ∧ ow = ints 3 r3 ad :: own) := Spec.ownM (m := ⟨ap, ar, ac, ad⟩) fun w hs => l1Copy_any _ _ w ⟨_, rfl, ead W w hs⟩ hl

theorem l1Add_s {W : World} {own : List Asn} {ap : Int} {ar : Int} {ac : Int} {vad : Value} {ad : List Int} {bp : Int} {br : Int} {bc : Int} {vbd : Value} {bd : List Int}  (sad : IsS vad) (ead : Ent own fun w => Ints w vad ad)   (sbd : IsS vbd) (ebd : Ent own fun w => Ints w vbd bd)  (ha : Small ⟨ap, ar, ac, ad⟩) (hb : Small ⟨bp, br, bc, bd⟩) (hl : bd.length = ad.length) : Spec Try.prog 61 [.agg #[.int .i64 (ap), .int .i64 (ar), .int .i64 (ac), vad], .agg #[.int .i64 (bp), .int .i64 (br), .int .i64 (bc), vbd]] W own (fun v ow => ∃ (r3 : Value), v = .agg #[.int .i64 (ap), .int .i64 (ar), .int .i64 (ac), r3] ∧ IsS r3 ∧ ow = ints 3 r3 (addF 1 ap ad bd) :: own) := Spec.ownM (m := plusF ⟨ap, ar, ac, ad⟩ 1 ⟨bp, br, bc, bd⟩) fun w hs => l1Add_any _ _ _ _ w ⟨_, rfl, ead W w hs⟩ ⟨_, rfl, ebd W w hs⟩ ha hb hl

set_option maxRecDepth 100000 in
theorem zeroMatrix_ok {W : World} {own : List Asn} {p : Int} {r : Int} {c : Int}   (hp : primeB p = true) (hr : inB r 0 40 = true) (hc : inB c 0 40 = true) : Spec Try.prog 58 [.int .i64 (p), .int .i64 (r), .int .i64 (c)] W own (fun v ow => ∃ (r3 : Value), v = .agg #[.int .i64 (p), .int .i64 (r), .int .i64 (c), r3] ∧ IsS r3 ∧ ow = ints 3 r3 (List.replicate ((r : Int) * c).toNat 0) :: own) := by
 have hb := mul_bd (inB_true hr) (inB_true hc)
 refine Spec.enter Try.f58 _ Try.func58 rfl (n := 29) rfl rfl ?_
 refine GC.seq (GC.region ?_)
 refine G.step (OG.alloc rfl ti35 (zs := [.int .i64 (0), .int .i64 (0), .int .i64 (0), .slice none 0 0]) rfl) rfl rfl rfl ?_
 rintro _ _ ⟨g1, rfl, rfl⟩
 refine G.nil (GE.then_ (GC.seq (GC.seq (GC.region ?_))))
 refine G.stepD (OD.move rfl rfl) rfl rfl rfl ?_
 refine G.step (OG.imp (K' := fun v ow => v = .bool true ∧ ow = box g1 35 [.int .i64 (0), .int .i64 (0), .int .i64 (0), .slice none 0 0] :: own) (OG.call [.int .i64 (p)] ent86 rfl rfl rfl rfl (by exact isPrime_s)) (by rintro _ _ ⟨rfl, rfl⟩; exact ⟨congrArg Value.bool (hp), rfl⟩)) rfl rfl rfl ?_
 rintro _ _ ⟨rfl, rfl⟩
 refine G.stepD (OD.not rfl rfl) rfl rfl rfl ?_
 refine G.stepD (OD.move rfl rfl) rfl rfl rfl ?_
 refine G.stepGD (OD.move rfl rfl) rfl rfl rfl rfl rfl ?_
 refine G.stepG (OG.imp (K' := fun v ow => v = .bool true ∧ ow = box g1 35 [.int .i64 (0), .int .i64 (0), .int .i64 (0), .slice none 0 0] :: own) (OG.call [.int .i64 (r), .int .i64 (0), .int .i64 (40)] ent78 rfl rfl rfl rfl (by exact inside_s)) (by rintro _ _ ⟨rfl, rfl⟩; exact ⟨congrArg Value.bool (hr), rfl⟩)) rfl rfl rfl rfl rfl ?_
 rintro _ _ ⟨rfl, rfl⟩
 refine G.stepGD (OD.not rfl rfl) rfl rfl rfl rfl rfl ?_
 refine G.stepD (OD.pickF rfl rfl rfl) rfl rfl rfl ?_
 refine G.stepD (OD.move rfl rfl) rfl rfl rfl ?_
 refine G.stepGD (OD.move rfl rfl) rfl rfl rfl rfl rfl ?_
 refine G.stepG (OG.imp (K' := fun v ow => v = .bool true ∧ ow = box g1 35 [.int .i64 (0), .int .i64 (0), .int .i64 (0), .slice none 0 0] :: own) (OG.call [.int .i64 (c), .int .i64 (0), .int .i64 (40)] ent78 rfl rfl rfl rfl (by exact inside_s)) (by rintro _ _ ⟨rfl, rfl⟩; exact ⟨congrArg Value.bool (hc), rfl⟩)) rfl rfl rfl rfl rfl ?_
 rintro _ _ ⟨rfl, rfl⟩
 refine G.stepGD (OD.not rfl rfl) rfl rfl rfl rfl rfl ?_
 refine G.stepD (OD.pickF rfl rfl rfl) rfl rfl rfl ?_
 refine G.nil (GE.then_ (GC.condF rfl (GC.skip (GE.then_ (GC.seq (GC.region ?_))))))
 refine G.stepD (OD.move rfl rfl) rfl rfl rfl ?_
 refine G.stepD (OD.move rfl rfl) rfl rfl rfl ?_
 refine G.stepD (OD.move rfl rfl) rfl rfl rfl ?_
 refine G.stepD (OD.move rfl rfl) rfl rfl rfl ?_
 refine G.stepD (OD.move rfl rfl) rfl rfl rfl ?_
 refine G.stepD (OD.mulI rfl rfl rfl (by omega)) rfl rfl rfl ?_
 refine G.step (OG.makeInts rfl et23 rfl rfl (by omega)) rfl rfl rfl ?_
 rintro v2 _ ⟨hs3, rfl⟩
 refine G.stepD (OD.build (idx := [0, 1, 2, 3]) (xs := [.tmp 21, .tmp 22, .tmp 23, .tmp 27]) (vs := [.int .i64 (p), .int .i64 (r), .int .i64 (c), v2]) (cs := [[.int .i64 (p)], [.int .i64 (r)], [.int .i64 (c)], [v2]]) (zs := [.int .i64 (0), .int .i64 (0), .int .i64 (0), .slice none 0 0]) (r := [.int .i64 (p), .int .i64 (r), .int .i64 (c), v2]) rfl ti35 rfl rfl rfl ⟨rfl, ⟨rfl, ⟨rfl, ⟨(one_cells (IsS.one hs3)), trivial⟩⟩⟩⟩ rfl) rfl rfl rfl ?_
 refine G.stepD0 (OD.store rfl ti35 rfl rfl (us := [.int .i64 (p), .int .i64 (r), .int .i64 (c), v2]) rfl rfl (allC rfl (allC rfl (allC rfl (allC (IsS.one hs3) rfl)))) (i := 1) rfl rfl) rfl rfl ?_
 refine G.nil (GE.then_ (GC.ret ?_))
 exact GE.body [0] 1 (resN rfl (RVs.cons (rv_cells ti35 rfl (i := 1) rfl rfl) RVs.nil) rfl) rfl (⟨v2, rfl, hs3, rfl⟩)

set_option maxRecDepth 100000 in
theorem scaleMatrix_s {W : World} {own : List Asn} {ap : Int} {ar : Int} {ac : Int} {vad : Value} {ad : List Int} {k : Int}  (sad : IsS vad) (ead : Ent own fun w => Ints w vad ad)    : Spec Try.prog 31 [.agg #[.int .i64 (ap), .int .i64 (ar), .int .i64 (ac), vad], .int .i64 (k)] W own (fun v ow => ∃ (r3 : Value), v = .agg #[.int .i64 ((scaleMF ⟨ap, ar, ac, ad⟩ k).p), .int .i64 ((scaleMF ⟨ap, ar, ac, ad⟩ k).r), .int .i64 ((scaleMF ⟨ap, ar, ac, ad⟩ k).c), r3] ∧ IsS r3 ∧ ow = ints 3 r3 ((scaleMF ⟨ap, ar, ac, ad⟩ k).d) :: own) := by
 refine Spec.enter Try.f31 _ Try.func31 rfl (n := 22) rfl rfl ?_
 refine GC.seq (GC.region ?_)
 refine G.step (OG.box (cs := [.int .i64 (ap), .int .i64 (ar), .int .i64 (ac), vad]) rfl rfl rfl) rfl rfl rfl ?_
 rintro _ _ ⟨g1, rfl, rfl⟩
 refine G.step (OG.alloc rfl ti35 (zs := [.int .i64 (0), .int .i64 (0), .int .i64 (0), .slice none 0 0]) rfl) rfl rfl rfl ?_
 rintro _ _ ⟨g2, rfl, rfl⟩
 refine G.nil (GE.then_ (GC.seq (GC.seq (GC.region ?_))))
 refine G.stepD (OD.loadAgg rfl ti35 rfl (i := 1) rfl (us := [.int .i64 (ap), .int .i64 (ar), .int .i64 (ac), vad]) rfl rfl) rfl rfl rfl ?_
 refine G.step (OG.call [.agg #[.int .i64 (ap), .int .i64 (ar), .int .i64 (ac), vad]] ent54 rfl rfl rfl rfl (by exact (matrixOk_s sad (Ent.drop 2 ead)))) rfl rfl rfl ?_
 rintro _ _ ⟨rfl, rfl⟩
 refine G.stepD (OD.not rfl rfl) rfl rfl rfl ?_
 refine G.nil (GE.then_ ?_)
 refine GC.cond rfl (fun hc3 => ?_) (fun hc3 => ?_)
 replace hc3 := eq_false_of_not hc3
 refine GC.seq (GC.region ?_)
 refine G.stepD (OD.build (idx := []) (xs := []) (vs := []) (cs := []) (zs := [.int .i64 (0), .int .i64 (0), .int .i64 (0), .slice none 0 0]) (r := [.int .i64 (0), .int .i64 (0), .int .i64 (0), .slice none 0 0]) rfl ti35 rfl rfl rfl trivial rfl) rfl rfl rfl ?_
 refine G.stepD0 (OD.store rfl ti35 rfl rfl (us := [.int .i64 (0), .int .i64 (0), .int .i64 (0), .slice none 0 0]) rfl rfl rfl (i := 0) rfl rfl) rfl rfl ?_
 refine G.nil (GE.then_ (GC.ret (GE.passR ?_)))
 refine GE.nilInts 3 ?_
 exact GE.body [0] 2 (resN rfl (RVs.cons (rv_cells ti35 rfl (i := 1) rfl rfl) RVs.nil) rfl) rfl (⟨(.slice none 0 0), congr (congr (congrArg (fun (a0 : Int) (a1 : Int) (a2 : Int) => (.agg #[.int .i64 (a0), .int .i64 (a1), .int .i64 (a2), (.slice none 0 0)] : Value)) ((by rw [scaleMF, if_neg (by simp [‹matOkB _ = false›])]; first | done | rfl : (0 : Int) = (scaleMF ⟨ap, ar, ac, ad⟩ k).p))) ((by rw [scaleMF, if_neg (by simp [‹matOkB _ = false›])]; first | done | rfl : (0 : Int) = (scaleMF ⟨ap, ar, ac, ad⟩ k).r))) ((by rw [scaleMF, if_neg (by simp [‹matOkB _ = false›])]; first | done | rfl : (0 : Int) = (scaleMF ⟨ap, ar, ac, ad⟩ k).c)), IsS.nil, congrArg (fun (l0 : List Int) => ints 3 (.slice none 0 0) l0 :: own) ((by rw [scaleMF, if_neg (by simp [‹matOkB _ = false›])]; first | done | rfl : [] = (scaleMF ⟨ap, ar, ac, ad⟩ k).d))⟩)
 replace hc3 := eq_true_of_not hc3
 have ok := matOk_of hc3
 have h3 := matOk_three hc3
 have hs0 := zeroM_small ok
 have hs1 := ok.small
 have hle := zeroM_len ok
 have hk0 : 0 ≤ k % ap := Int.emod_nonneg _ (by have := ok.p0; simp only at this; omega)
 have hk1 : k % ap < ap := Int.emod_lt_of_pos _ (by have := ok.p0; simp only at this; omega)
 have hp0 := ok.p0
 have hp1 := ok.p1
 simp only at hp0 hp1
 refine GC.skip (GE.then_ (GC.seq ?_))
 refine GC.at [] 0 (env' := [(1, .int .i64 (k)), (2, .pointer (some ⟨g1, 0, none⟩)), (4, .pointer (some ⟨g2, 0, none⟩))]) ⟨rfl, rfl, rfl, trivial⟩ rfl ?_
 refine GC.par (its := [⟨9, [], [], [], [], fun _ => .pointer (some ⟨g1, 0, none⟩), fun _ => True, fun _ => []⟩,
     ⟨10, [(0, 9)], [], [], [], fun _ => .int .i64 (ap), fun _ => True, fun _ => []⟩,
     ⟨11, [], [], [], [], fun _ => .pointer (some ⟨g1, 1, none⟩), fun _ => True, fun _ => []⟩,
     ⟨12, [(2, 11)], [], [], [], fun _ => .int .i64 (ar), fun _ => True, fun _ => []⟩,
     ⟨13, [], [], [], [], fun _ => .pointer (some ⟨g1, 2, none⟩), fun _ => True, fun _ => []⟩,
     ⟨14, [(4, 13)], [], [], [], fun _ => .int .i64 (ac), fun _ => True, fun _ => []⟩,
     ⟨15, [(1, 10), (3, 12), (5, 14)], [], [], [6], fun ds => .agg #[.int .i64 (ap), .int .i64 (ar), .int .i64 (ac), ((ds.getD 0 []).getD 0 undef)], fun ds => IsS ((ds.getD 0 []).getD 0 undef), fun ds => [ints 3 ((ds.getD 0 []).getD 0 undef) (List.replicate ((ar : Int) * ac).toNat 0)]⟩,
     ⟨16, [], [], [], [], fun _ => .int .i64 (k), fun _ => True, fun _ => []⟩,
     ⟨17, [], [], [], [], fun _ => .pointer (some ⟨g1, 0, none⟩), fun _ => True, fun _ => []⟩,
     ⟨18, [(8, 17)], [], [], [], fun _ => .int .i64 (ap), fun _ => True, fun _ => []⟩,
     ⟨19, [(7, 16), (9, 18)], [], [], [], fun _ => .int .i64 (k % ap), fun _ => True, fun _ => []⟩,
     ⟨20, [], [], [], [], fun _ => .agg #[.int .i64 (ap), .int .i64 (ar), .int .i64 (ac), vad], fun _ => True, fun _ => []⟩,
     ⟨21, [(6, 15), (10, 19), (11, 20)], [6], [], [6, 12], fun ds => .agg #[.int .i64 (ap), .int .i64 (ar), .int .i64 (ac), ((ds.getD 1 []).getD 0 undef)], fun ds => IsS ((ds.getD 1 []).getD 0 undef), fun ds => [ints 3 ((ds.getD 1 []).getD 0 undef) (addF (k % ap) ap (List.replicate ((ar : Int) * ac).toNat 0) ad)]⟩]) (by kernel_rfl) (by kernel_rfl) (POps.cons ?_ (POps.cons ?_ (POps.cons ?_ (POps.cons ?_ (POps.cons ?_ (POps.cons ?_ (POps.cons ?_ (POps.cons ?_ (POps.cons ?_ (POps.cons ?_ (POps.cons ?_ (POps.cons ?_ (POps.cons ?_ POps.nil))))))))))))) ?_
 intro θ R hd
 exact Opp.plain (OG.imp (OD.fieldAddr rfl rfl fa35_0) (by rintro _ _ ⟨rfl, rfl⟩; exact ⟨[], rfl, trivial, rfl⟩)) rfl
 intro θ R hd
 obtain ⟨h0d, _⟩ := hd
 exact Opp.plain (OG.imp (OD.load rfl ti3 rfl (i := 1) rfl rfl) (by rintro _ _ ⟨rfl, rfl⟩; exact ⟨[], rfl, trivial, rfl⟩)) rfl
 intro θ R hd
 exact Opp.plain (OG.imp (OD.fieldAddr rfl rfl fa35_1) (by rintro _ _ ⟨rfl, rfl⟩; exact ⟨[], rfl, trivial, rfl⟩)) rfl
 intro θ R hd
 obtain ⟨h2d, _⟩ := hd
 exact Opp.plain (OG.imp (OD.load rfl ti3 rfl (i := 1) rfl rfl) (by rintro _ _ ⟨rfl, rfl⟩; exact ⟨[], rfl, trivial, rfl⟩)) rfl
 intro θ R hd
 exact Opp.plain (OG.imp (OD.fieldAddr rfl rfl fa35_2) (by rintro _ _ ⟨rfl, rfl⟩; exact ⟨[], rfl, trivial, rfl⟩)) rfl
 intro θ R hd
 obtain ⟨h4d, _⟩ := hd
 exact Opp.plain (OG.imp (OD.load rfl ti3 rfl (i := 1) rfl rfl) (by rintro _ _ ⟨rfl, rfl⟩; exact ⟨[], rfl, trivial, rfl⟩)) rfl
 intro θ R hd
 obtain ⟨h1d, h3d, h5d, _⟩ := hd
 exact Opp.plain (OG.imp (OG.call [.int .i64 (ap), .int .i64 (ar), .int .i64 (ac)] ent58 rfl rfl rfl rfl (by exact (zeroMatrix_ok (h3.1) (h3.2.1) (h3.2.2)))) (by rintro _ _ ⟨v4, rfl, hs5, rfl⟩; exact ⟨[v4], rfl, hs5, rfl⟩)) rfl
 intro θ R hd
 exact Opp.plain (OG.imp (OD.move rfl rfl) (by rintro _ _ ⟨rfl, rfl⟩; exact ⟨[], rfl, trivial, rfl⟩)) rfl
 intro θ R hd
 exact Opp.plain (OG.imp (OD.fieldAddr rfl rfl fa35_0) (by rintro _ _ ⟨rfl, rfl⟩; exact ⟨[], rfl, trivial, rfl⟩)) rfl
 intro θ R hd
 obtain ⟨h8d, _⟩ := hd
 exact Opp.plain (OG.imp (OD.load rfl ti3 rfl (i := 1) rfl rfl) (by rintro _ _ ⟨rfl, rfl⟩; exact ⟨[], rfl, trivial, rfl⟩)) rfl
 intro θ R hd
 obtain ⟨h7d, h9d, _⟩ := hd
 exact Opp.plain (OG.imp (OG.call [.int .i64 (k), .int .i64 (ap)] ent65 rfl rfl rfl rfl (by exact (mod_s (by omega)))) (by rintro _ _ ⟨rfl, rfl⟩; exact ⟨[], rfl, trivial, rfl⟩)) rfl
 intro θ R hd
 exact Opp.plain (OG.imp (OD.loadAgg rfl ti35 rfl (i := 1) rfl (us := [.int .i64 (ap), .int .i64 (ar), .int .i64 (ac), vad]) rfl rfl) (by rintro _ _ ⟨rfl, rfl⟩; exact ⟨[], rfl, trivial, rfl⟩)) rfl
 intro θ R hd
 obtain ⟨h6d, h10d, h11d, _⟩ := hd
 exact Opp.plain (OG.imp (OG.call [.agg #[.int .i64 (ap), .int .i64 (ar), .int .i64 (ac), ((θ 6).getD 0 undef)], .int .i64 (k % ap), .agg #[.int .i64 (ap), .int .i64 (ar), .int .i64 (ac), vad]] ent57 rfl rfl rfl rfl (by exact (plus_s h6d (Ent.ints (i := 0) rfl) sad (Ent.drop 3 ead.app) (hs0) (hs1) (by omega) (Nat.le_of_eq hle.symm)))) (by rintro _ _ ⟨v6, rfl, hs7, rfl⟩; exact ⟨[v6], rfl, hs7, rfl⟩)) rfl
 intro θ hall
 obtain ⟨_, _, _, _, _, _, h6a, _, _, _, _, _, h12a, _⟩ := hall
 refine G.at [] 0 (env' := [(4, .pointer (some ⟨g2, 0, none⟩)), (21, .agg #[.int .i64 (ap), .int .i64 (ar), .int .i64 (ac), ((θ 12).getD 0 undef)])]) ⟨rfl, rfl, trivial⟩ (own' := ints 3 ((θ 6).getD 0 undef) (List.replicate ((ar : Int) * ac).toNat 0) :: ints 3 ((θ 12).getD 0 undef) (addF (k % ap) ap (List.replicate ((ar : Int) * ac).toNat 0) ad) :: box g2 35 [.int .i64 (0), .int .i64 (0), .int .i64 (0), .slice none 0 0] :: box g1 35 [.int .i64 (ap), .int .i64 (ar), .int .i64 (ac), vad] :: own) rfl ?_
 have hs8 : IsS ((θ 6).getD 0 undef) := h6a
 clear h6a
 generalize ((θ 6).getD 0 undef) = v9 at *
 have hs10 : IsS ((θ 12).getD 0 undef) := h12a
 clear h12a
 generalize ((θ 12).getD 0 undef) = v11 at *
 show G _ _ _ [_] _ _ _ _
 refine G.stepD0 (OD.store rfl ti35 rfl rfl (us := [.int .i64 (ap), .int .i64 (ar), .int .i64 (ac), v11]) rfl rfl (allC rfl (allC rfl (allC rfl (allC (IsS.one hs10) rfl)))) (i := 2) rfl rfl) rfl rfl ?_
 refine G.nil (GE.then_ (GC.ret ?_))
 exact GE.body [1] 3 (resN rfl (RVs.cons (rv_cells ti35 rfl (i := 2) rfl rfl) RVs.nil) rfl) rfl (⟨v11, congr (congr (congrArg (fun (a0 : Int) (a1 : Int) (a2 : Int) => (.agg #[.int .i64 (a0), .int .i64 (a1), .int .i64 (a2), v11] : Value)) ((by rw [scaleMF, if_pos ‹_›]; rfl : (ap : Int) = (scaleMF ⟨ap, ar, ac, ad⟩ k).p))) ((by rw [scaleMF, if_pos ‹_›]; rfl : (ar : Int) = (scaleMF ⟨ap, ar, ac, ad⟩ k).r))) ((by rw [scaleMF, if_pos ‹_›]; rfl : (ac : Int) = (scaleMF ⟨ap, ar, ac, ad⟩ k).c)), hs10, congrArg (fun (l0 : List Int) => ints 3 v11 l0 :: own) ((by rw [scaleMF, if_pos ‹_›]; rfl : addF (k % ap) ap (List.replicate ((ar : Int) * ac).toNat 0) ad = (scaleMF ⟨ap, ar, ac, ad⟩ k).d))⟩)

set_option maxRecDepth 100000 in
theorem l1Scale_s {W : World} {own : List Asn} {ap : Int} {ar : Int} {ac : Int} {vad : Value} {ad : List Int} {k : Int}  (sad : IsS vad) (ead : Ent own fun w => Ints w vad ad)   (hp : 1 ≤ ap ∧ ap ≤ 10007) (hd : ad.length ≤ 1600 ∧ ∀ i, 0 ≤ ad.getD i 0 ∧ ad.getD i 0 ≤ 10007) : Spec Try.prog 64 [.agg #[.int .i64 (ap), .int .i64 (ar), .int .i64 (ac), vad], .int .i64 (k)] W own (fun v ow => ∃ (r3 : Value), v = .agg #[.int .i64 (ap), .int .i64 (ar), .int .i64 (ac), r3] ∧ IsS r3 ∧ ow = ints 3 r3 (((ad : List Int)).map (fun x => (x * (k % ap)).tmod ap)) :: own) := by
 have hk0 : 0 ≤ k % ap := Int.emod_nonneg _ (by omega)
 have hk1 : k % ap < ap := Int.emod_lt_of_pos _ (by omega)
 refine Spec.enter Try.f64 _ Try.func64 rfl (n := 36) rfl rfl ?_
 refine GC.seq (GC.region ?_)
 refine G.step (OG.box (cs := [.int .i64 (ap), .int .i64 (ar), .int .i64 (ac), vad]) rfl rfl rfl) rfl rfl rfl ?_
 rintro _ _ ⟨g1, rfl, rfl⟩
 refine G.step (OG.alloc rfl ti35 (zs := [.int .i64 (0), .int .i64 (0), .int .i64 (0), .slice none 0 0]) rfl) rfl rfl rfl ?_
 rintro _ _ ⟨g2, rfl, rfl⟩
 refine G.nil (GE.then_ (GC.seq (GC.region ?_)))
 refine G.stepD (OD.loadAgg rfl ti35 rfl (i := 1) rfl (us := [.int .i64 (ap), .int .i64 (ar), .int .i64 (ac), vad]) rfl rfl) rfl rfl rfl ?_
 refine G.step (OG.call [.agg #[.int .i64 (ap), .int .i64 (ar), .int .i64 (ac), vad]] ent93 rfl rfl rfl rfl (by exact (l1Copy_s sad (Ent.drop 2 ead) (by omega)))) rfl rfl rfl ?_
 rintro _ _ ⟨v3, rfl, hs4, rfl⟩
 refine G.step (OG.alloc rfl ti35 (zs := [.int .i64 (0), .int .i64 (0), .int .i64 (0), .slice none 0 0]) rfl) rfl rfl rfl ?_
 rintro _ _ ⟨g5, rfl, rfl⟩
 refine G.stepD0 (OD.store rfl ti35 rfl rfl (us := [.int .i64 (ap), .int .i64 (ar), .int .i64 (ac), v3]) rfl rfl (allC rfl (allC rfl (allC rfl (allC (IsS.one hs4) rfl)))) (i := 0) rfl rfl) rfl rfl ?_
 refine G.nil (GE.then_ (GC.seq (GC.region ?_)))
 refine G.stepD (OD.move rfl rfl) rfl rfl rfl ?_
 refine G.stepD (OD.fieldAddr rfl rfl fa35_0) rfl rfl rfl ?_
 refine G.stepD (OD.load rfl ti3 rfl (i := 0) rfl rfl) rfl rfl rfl ?_
 refine G.step (OG.call [.int .i64 (k), .int .i64 (ap)] ent94 rfl rfl rfl rfl (by exact (l1Mod_s (by omega)))) rfl rfl rfl ?_
 rintro _ _ ⟨rfl, rfl⟩
 refine G.stepD (OD.assign rfl rfl) rfl rfl rfl ?_
 refine G.nil (GE.then_ (GC.seq (GC.seq (GC.region ?_))))
 refine G.stepD (OD.assign rfl rfl) rfl rfl rfl ?_
 refine G.nil (GE.then_ (GC.block ?_))
 refine GC.loop (ι := Nat × List Int) (fun ⟨i, ys⟩ => [(4, .pointer (some ⟨g2, 0, none⟩)), (5, .pointer (some ⟨g5, 0, none⟩)), (6, .int .i64 (k % ap)), (7, .int .i64 ((i : Int)))]) (fun ⟨i, ys⟩ => box g5 35 [.int .i64 (ap), .int .i64 (ar), .int .i64 (ac), v3] :: ints 3 v3 ys :: box g2 35 [.int .i64 (0), .int .i64 (0), .int .i64 (0), .slice none 0 0] :: box g1 35 [.int .i64 (ap), .int .i64 (ar), .int .i64 (ac), vad] :: own) (fun ⟨i, ys⟩ => (i ≤ ad.length) ∧ (ys = mapPre (fun x => (x * (k % ap)).tmod ap) ad i)) (fun ⟨i, ys⟩ => ad.length - i) (0, ad) (⟨by omega, rfl⟩) ⟨rfl, rfl, rfl, rfl, trivial⟩ [] 0 rfl ?_
 rintro ⟨i, ys⟩ ⟨hi, hy⟩
 have hyl : ys.length = ad.length := by rw [hy, mapPre_len]
 have hg := mapPre_get (fun x => (x * (k % ap)).tmod ap) ad i
 rw [← hy] at hg
 have hb1 := hd.2 i
 have hm := mulBd (hg ▸ hb1 : 0 ≤ ys.getD i 0 ∧ ys.getD i 0 ≤ 10007) (⟨hk0, by omega⟩ : 0 ≤ k % ap ∧ k % ap ≤ 10007)
 refine GC.seq (GC.seq (GC.region ?_))
 refine G.stepD (OD.move rfl rfl) rfl rfl rfl ?_
 refine G.stepD (OD.fieldAddr rfl rfl fa35_3) rfl rfl rfl ?_
 refine G.stepD (OD.load rfl ti23 rfl (i := 0) rfl rfl) rfl rfl rfl ?_
 refine G.stepD (OD.len rfl rfl et23 rfl (Ent.ints (i := 1) rfl)) rfl rfl rfl ?_
 refine G.stepD (OD.lss rfl rfl rfl) rfl rfl rfl ?_
 refine G.nil (GE.then_ ?_)
 refine GC.cond rfl (fun hc6 => ?_) (fun hc6 => ?_)
 replace hc6 := of_decide_eq_true hc6
 refine GC.skip (GE.then_ (GC.seq (GC.block ?_)))
 refine GC.at [] 0 (env' := [(4, .pointer (some ⟨g2, 0, none⟩)), (5, .pointer (some ⟨g5, 0, none⟩)), (6, .int .i64 (k % ap)), (7, .int .i64 ((i : Int)))]) ⟨rfl, rfl, rfl, rfl, trivial⟩ rfl ?_
 refine GC.par (its := [⟨21, [], [], [], [], fun _ => .pointer (some ⟨g5, 3, none⟩), fun _ => True, fun _ => []⟩,
     ⟨22, [(0, 21)], [], [], [], fun _ => v3, fun _ => True, fun _ => []⟩,
     ⟨23, [], [], [], [], fun _ => .int .i64 ((i : Int)), fun _ => True, fun _ => []⟩,
     ⟨24, [], [], [], [], fun _ => .pointer (some ⟨g5, 3, none⟩), fun _ => True, fun _ => []⟩,
     ⟨25, [(3, 24)], [], [], [], fun _ => v3, fun _ => True, fun _ => []⟩,
     ⟨26, [], [], [], [], fun _ => .int .i64 ((i : Int)), fun _ => True, fun _ => []⟩,
     ⟨27, [(4, 25), (5, 26)], [], [], [], fun _ => elemPtr v3 1 (i), fun _ => True, fun _ => []⟩,
     ⟨28, [(6, 27)], [], [], [], fun _ => .int .i64 (ys.getD (i) 0), fun _ => True, fun _ => []⟩,
     ⟨29, [], [], [], [], fun _ => .int .i64 (k % ap), fun _ => True, fun _ => []⟩,
     ⟨30, [(7, 28), (8, 29)], [], [], [], fun _ => .int .i64 ((ys.getD (i) 0) * (k % ap)), fun _ => True, fun _ => []⟩,
     ⟨31, [], [], [], [], fun _ => .pointer (some ⟨g5, 0, none⟩), fun _ => True, fun _ => []⟩,
     ⟨32, [(10, 31)], [], [], [], fun _ => .int .i64 (ap), fun _ => True, fun _ => []⟩,
     ⟨33, [(9, 30), (11, 32)], [], [], [], fun _ => .int .i64 (((ys.getD (i) 0) * (k % ap)).tmod ap), fun _ => True, fun _ => []⟩,
     ⟨34, [(1, 22), (2, 23)], [], [], [], fun _ => elemPtr v3 1 (i), fun _ => True, fun _ => []⟩]) (by kernel_rfl) (by kernel_rfl) (POps.cons ?_ (POps.cons ?_ (POps.cons ?_ (POps.cons ?_ (POps.cons ?_ (POps.cons ?_ (POps.cons ?_ (POps.cons ?_ (POps.cons ?_ (POps.cons ?_ (POps.cons ?_ (POps.cons ?_ (POps.cons ?_ (POps.cons ?_ POps.nil)))))))))))))) ?_
 intro θ R hd
 exact Opp.plain (OG.imp (OD.fieldAddr rfl rfl fa35_3) (by rintro _ _ ⟨rfl, rfl⟩; exact ⟨[], rfl, trivial, rfl⟩)) rfl
 intro θ R hd
 obtain ⟨h0d, _⟩ := hd
 exact Opp.plain (OG.imp (OD.load rfl ti23 rfl (i := 0) rfl rfl) (by rintro _ _ ⟨rfl, rfl⟩; exact ⟨[], rfl, trivial, rfl⟩)) rfl
 intro θ R hd
 exact Opp.plain (OG.imp (OD.move rfl rfl) (by rintro _ _ ⟨rfl, rfl⟩; exact ⟨[], rfl, trivial, rfl⟩)) rfl
 intro θ R hd
 exact Opp.plain (OG.imp (OD.fieldAddr rfl rfl fa35_3) (by rintro _ _ ⟨rfl, rfl⟩; exact ⟨[], rfl, trivial, rfl⟩)) rfl
 intro θ R hd
 obtain ⟨h3d, _⟩ := hd
 exact Opp.plain (OG.imp (OD.load rfl ti23 rfl (i := 0) rfl rfl) (by rintro _ _ ⟨rfl, rfl⟩; exact ⟨[], rfl, trivial, rfl⟩)) rfl
 intro θ R hd
 exact Opp.plain (OG.imp (OD.move rfl rfl) (by rintro _ _ ⟨rfl, rfl⟩; exact ⟨[], rfl, trivial, rfl⟩)) rfl
 intro θ R hd
 obtain ⟨h4d, h5d, _⟩ := hd
 exact Opp.plain (OG.imp (OD.indexAddr rfl et23 rfl (Ent.ints (i := 1) rfl) rfl (by omega)) (by rintro _ _ ⟨rfl, rfl⟩; exact ⟨[], rfl, trivial, rfl⟩)) rfl
 intro θ R hd
 obtain ⟨h6d, _⟩ := hd
 exact Opp.plain (OG.imp (OD.loadInt rfl ti3 rfl (Ent.ints (i := 1) rfl) (by omega)) (by rintro _ _ ⟨rfl, rfl⟩; exact ⟨[], rfl, trivial, rfl⟩)) rfl
 intro θ R hd
 exact Opp.plain (OG.imp (OD.move rfl rfl) (by rintro _ _ ⟨rfl, rfl⟩; exact ⟨[], rfl, trivial, rfl⟩)) rfl
 intro θ R hd
 obtain ⟨h7d, h8d, _⟩ := hd
 exact Opp.plain (OG.imp (OD.mulI rfl rfl rfl (by omega)) (by rintro _ _ ⟨rfl, rfl⟩; exact ⟨[], rfl, trivial, rfl⟩)) rfl
 intro θ R hd
 exact Opp.plain (OG.imp (OD.fieldAddr rfl rfl fa35_0) (by rintro _ _ ⟨rfl, rfl⟩; exact ⟨[], rfl, trivial, rfl⟩)) rfl
 intro θ R hd
 obtain ⟨h10d, _⟩ := hd
 exact Opp.plain (OG.imp (OD.load rfl ti3 rfl (i := 0) rfl rfl) (by rintro _ _ ⟨rfl, rfl⟩; exact ⟨[], rfl, trivial, rfl⟩)) rfl
 intro θ R hd
 obtain ⟨h9d, h11d, _⟩ := hd
 exact Opp.plain (OG.imp (OD.rem rfl rfl rfl (by omega)) (by rintro _ _ ⟨rfl, rfl⟩; exact ⟨[], rfl, trivial, rfl⟩)) rfl
 intro θ R hd
 obtain ⟨h1d, h2d, _⟩ := hd
 exact Opp.plain (OG.imp (OD.indexAddr rfl et23 rfl (Ent.ints (i := 1) rfl) rfl (by omega)) (by rintro _ _ ⟨rfl, rfl⟩; exact ⟨[], rfl, trivial, rfl⟩)) rfl
 intro θ hall
 obtain ⟨_, _, _, _, _, _, _, _, _, _, _, _, _, _, _⟩ := hall
 refine G.at [] 0 (env' := [(4, .pointer (some ⟨g2, 0, none⟩)), (5, .pointer (some ⟨g5, 0, none⟩)), (6, .int .i64 (k % ap)), (7, .int .i64 ((i : Int))), (33, .int .i64 (((ys.getD (i) 0) * (k % ap)).tmod ap)), (34, elemPtr v3 1 (i))]) ⟨rfl, rfl, rfl, rfl, rfl, rfl, trivial⟩ (own' := box g5 35 [.int .i64 (ap), .int .i64 (ar), .int .i64 (ac), v3] :: ints 3 v3 ys :: box g2 35 [.int .i64 (0), .int .i64 (0), .int .i64 (0), .slice none 0 0] :: box g1 35 [.int .i64 (ap), .int .i64 (ar), .int .i64 (ac), vad] :: own) rfl ?_
 show G _ _ _ [_] _ _ _ _
 refine G.stepD0 (OD.storeInt rfl ti3 rfl rfl (i := 1) rfl (by omega)) rfl rfl ?_
 refine G.nil (GE.blockN (GE.then_ (GC.region ?_)))
 refine G.stepD (OD.move rfl rfl) rfl rfl rfl ?_
 refine G.stepD (OD.addI rfl rfl rfl (by first | omega | (simp only [List.length_set, List.length_replicate]; omega))) rfl rfl rfl ?_
 refine G.stepD (OD.assign rfl rfl) rfl rfl rfl ?_
 refine G.nil ?_
 exact GE.again (i + 1, ys.set i ((ys.getD i 0 * (k % ap)).tmod ap)) (⟨by omega, by rw [hg, hy]; exact mapPre_set _ (by omega)⟩) (by first | omega | (dsimp only; omega)) ⟨rfl, rfl, rfl, rfl, trivial⟩ [] 0 rfl
 replace hc6 := of_decide_eq_false hc6
 refine GC.exit (GE.pass (GE.pass (GE.hit (GE.then_ (GC.seq (GC.region ?_))))))
 refine G.stepD (OD.loadAgg rfl ti35 rfl (i := 0) rfl (us := [.int .i64 (ap), .int .i64 (ar), .int .i64 (ac), v3]) rfl rfl) rfl rfl rfl ?_
 refine G.stepD0 (OD.store rfl ti35 rfl rfl (us := [.int .i64 (ap), .int .i64 (ar), .int .i64 (ac), v3]) rfl rfl (allC rfl (allC rfl (allC rfl (allC (IsS.one hs4) rfl)))) (i := 2) rfl rfl) rfl rfl ?_
 refine G.nil (GE.then_ (GC.ret ?_))
 exact GE.body [1] 3 (resN rfl (RVs.cons (rv_cells ti35 rfl (i := 2) rfl rfl) RVs.nil) rfl) rfl (⟨v3, rfl, hs4, congrArg (fun (l0 : List Int) => ints 3 v3 l0 :: own) ((by rw [hy]; exact mapPre_all _ (by omega) : ys = ((ad : List Int)).map (fun x => (x * (k % ap)).tmod ap)))⟩)

set_option maxRecDepth 100000 in
theorem specScaleMatrix_s {W : World} {own : List Asn} {ap : Int} {ar : Int} {ac : Int} {vad : Value} {ad : List Int} {k : Int}  (sad : IsS vad) (ead : Ent own fun w => Ints w vad ad)    : Spec Try.prog 30 [.agg #[.int .i64 (ap), .int .i64 (ar), .int .i64 (ac), vad], .int .i64 (k)] W own (fun v ow => ∃ (r3 : Value), v = .agg #[.int .i64 ((scaleMF ⟨ap, ar, ac, ad⟩ k).p), .int .i64 ((scaleMF ⟨ap, ar, ac, ad⟩ k).r), .int .i64 ((scaleMF ⟨ap, ar, ac, ad⟩ k).c), r3] ∧ IsS r3 ∧ ow = ints 3 r3 ((scaleMF ⟨ap, ar, ac, ad⟩ k).d) :: own) := by
 refine Spec.enter Try.f30 _ Try.func30 rfl (n := 12) rfl rfl ?_
 refine GC.seq (GC.region ?_)
 refine G.step (OG.box (cs := [.int .i64 (ap), .int .i64 (ar), .int .i64 (ac), vad]) rfl rfl rfl) rfl rfl rfl ?_
 rintro _ _ ⟨g1, rfl, rfl⟩
 refine G.step (OG.alloc rfl ti35 (zs := [.int .i64 (0), .int .i64 (0), .int .i64 (0), .slice none 0 0]) rfl) rfl rfl rfl ?_
 rintro _ _ ⟨g2, rfl, rfl⟩
 refine G.nil (GE.then_ (GC.seq (GC.seq (GC.region ?_))))
 refine G.stepD (OD.loadAgg rfl ti35 rfl (i := 1) rfl (us := [.int .i64 (ap), .int .i64 (ar), .int .i64 (ac), vad]) rfl rfl) rfl rfl rfl ?_
 refine G.step (OG.call [.agg #[.int .i64 (ap), .int .i64 (ar), .int .i64 (ac), vad]] ent60 rfl rfl rfl rfl (by exact (specMatrixOk_s sad (Ent.drop 2 ead)))) rfl rfl rfl ?_
 rintro _ _ ⟨rfl, rfl⟩
 refine G.stepD (OD.not rfl rfl) rfl rfl rfl ?_
 refine G.nil (GE.then_ ?_)
 refine GC.cond rfl (fun hc3 => ?_) (fun hc3 => ?_)
 replace hc3 := eq_false_of_not hc3
 refine GC.seq (GC.region ?_)
 refine G.stepD (OD.build (idx := []) (xs := []) (vs := []) (cs := []) (zs := [.int .i64 (0), .int .i64 (0), .int .i64 (0), .slice none 0 0]) (r := [.int .i64 (0), .int .i64 (0), .int .i64 (0), .slice none 0 0]) rfl ti35 rfl rfl rfl trivial rfl) rfl rfl rfl ?_
 refine G.stepD0 (OD.store rfl ti35 rfl rfl (us := [.int .i64 (0), .int .i64 (0), .int .i64 (0), .slice none 0 0]) rfl rfl rfl (i := 0) rfl rfl) rfl rfl ?_
 refine G.nil (GE.then_ (GC.ret (GE.passR ?_)))
 refine GE.nilInts 3 ?_
 exact GE.body [0] 2 (resN rfl (RVs.cons (rv_cells ti35 rfl (i := 1) rfl rfl) RVs.nil) rfl) rfl (⟨(.slice none 0 0), congr (congr (congrArg (fun (a0 : Int) (a1 : Int) (a2 : Int) => (.agg #[.int .i64 (a0), .int .i64 (a1), .int .i64 (a2), (.slice none 0 0)] : Value)) ((by rw [scaleMF, if_neg (by simp [‹matOkB _ = false›])]; first | done | rfl : (0 : Int) = (scaleMF ⟨ap, ar, ac, ad⟩ k).p))) ((by rw [scaleMF, if_neg (by simp [‹matOkB _ = false›])]; first | done | rfl : (0 : Int) = (scaleMF ⟨ap, ar, ac, ad⟩ k).r))) ((by rw [scaleMF, if_neg (by simp [‹matOkB _ = false›])]; first | done | rfl : (0 : Int) = (scaleMF ⟨ap, ar, ac, ad⟩ k).c)), IsS.nil, congrArg (fun (l0 : List Int) => ints 3 (.slice none 0 0) l0 :: own) ((by rw [scaleMF, if_neg (by simp [‹matOkB _ = false›])]; first | done | rfl : [] = (scaleMF ⟨ap, ar, ac, ad⟩ k).d))⟩)
 replace hc3 := eq_true_of_not hc3
 have ok := matOk_of hc3
 have hp0 := ok.p0
 have hp1 := ok.p1
 have hd0 := ok.le
 simp only at hp0 hp1 hd0
 refine GC.skip (GE.then_ (GC.seq (GC.region ?_)))
 refine G.stepD (OD.loadAgg rfl ti35 rfl (i := 1) rfl (us := [.int .i64 (ap), .int .i64 (ar), .int .i64 (ac), vad]) rfl rfl) rfl rfl rfl ?_
 refine G.stepD (OD.move rfl rfl) rfl rfl rfl ?_
 refine G.step (OG.call [.agg #[.int .i64 (ap), .int .i64 (ar), .int .i64 (ac), vad], .int .i64 (k)] ent64 rfl rfl rfl rfl (by exact (l1Scale_s sad (Ent.drop 2 ead) (by omega) (⟨hd0, fun i => ok.get i⟩)))) rfl rfl rfl ?_
 rintro _ _ ⟨v4, rfl, hs5, rfl⟩
 refine G.stepD0 (OD.store rfl ti35 rfl rfl (us := [.int .i64 (ap), .int .i64 (ar), .int .i64 (ac), v4]) rfl rfl (allC rfl (allC rfl (allC rfl (allC (IsS.one hs5) rfl)))) (i := 1) rfl rfl) rfl rfl ?_
 refine G.nil (GE.then_ (GC.ret ?_))
 exact GE.body [0] 2 (resN rfl (RVs.cons (rv_cells ti35 rfl (i := 1) rfl rfl) RVs.nil) rfl) rfl (⟨v4, congr (congr (congrArg (fun (a0 : Int) (a1 : Int) (a2 : Int) => (.agg #[.int .i64 (a0), .int .i64 (a1), .int .i64 (a2), v4] : Value)) ((by rw [scaleMF, if_pos ‹_›]; rfl : (ap : Int) = (scaleMF ⟨ap, ar, ac, ad⟩ k).p))) ((by rw [scaleMF, if_pos ‹_›]; rfl : (ar : Int) = (scaleMF ⟨ap, ar, ac, ad⟩ k).r))) ((by rw [scaleMF, if_pos ‹_›]; rfl : (ac : Int) = (scaleMF ⟨ap, ar, ac, ad⟩ k).c)), hs5, congrArg (fun (l0 : List Int) => ints 3 v4 l0 :: own) (((scale_eq ‹_›).symm : ((ad : List Int)).map (fun x => (x * (k % ap)).tmod ap) = (scaleMF ⟨ap, ar, ac, ad⟩ k).d))⟩)

set_option maxHeartbeats 4000000 in
set_option maxRecDepth 100000 in
theorem lawScale_s {W : World} {own : List Asn} {ap : Int} {ar : Int} {ac : Int} {vad : Value} {ad : List Int} {k : Int}  (sad : IsS vad) (ead : Ent own fun w => Ints w vad ad)   (hl : ad.length ≤ 9223372036854775807) : Spec Try.prog 6 [.agg #[.int .i64 (ap), .int .i64 (ar), .int .i64 (ac), vad], .int .i64 (k)] W own (fun v ow => v = .bool (true) ∧ ow = own) := by
 have hlen := scaleMF_len ⟨ap, ar, ac, ad⟩ k
 refine Spec.enter Try.f6 _ Try.func6 rfl (n := 74) rfl rfl ?_
 refine GC.seq (GC.region ?_)
 refine G.step (OG.box (cs := [.int .i64 (ap), .int .i64 (ar), .int .i64 (ac), vad]) rfl rfl rfl) rfl rfl rfl ?_
 rintro _ _ ⟨g1, rfl, rfl⟩
 refine G.stepD (OD.assign rfl rfl) rfl rfl rfl ?_
 refine G.nil (GE.then_ (GC.seq (GC.region ?_)))
 refine G.stepD (OD.assign rfl rfl) rfl rfl rfl ?_
 refine G.nil (GE.then_ (GC.seq (GC.region ?_)))
 refine G.stepD (OD.loadAgg rfl ti44 rfl (i := 0) rfl (us := [.int .i64 (ap), .int .i64 (ar), .int .i64 (ac), vad]) rfl rfl) rfl rfl rfl ?_
 refine G.stepD (OD.move rfl rfl) rfl rfl rfl ?_
 refine G.step (OG.call [.agg #[.int .i64 (ap), .int .i64 (ar), .int .i64 (ac), vad], .int .i64 (1048576)] ent24 rfl rfl rfl rfl (by exact (szMatrix_s sad (Ent.drop 1 ead) (by omega) (by omega)))) rfl rfl rfl ?_
 rintro _ _ ⟨rfl, rfl⟩
 refine G.stepD (OD.assign rfl rfl) rfl rfl rfl ?_
 refine G.nil (GE.then_ (GC.seq (GC.seq (GC.region ?_))))
 refine G.stepD (OD.move rfl rfl) rfl rfl rfl ?_
 refine G.stepD (OD.lss rfl rfl rfl) rfl rfl rfl ?_
 refine G.nil (GE.then_ ?_)
 refine GC.cond rfl (fun hc2 => ?_) (fun hc2 => ?_)
 replace hc2 := of_decide_eq_true hc2
 refine GC.seq (GC.region ?_)
 refine G.stepD (OD.assign rfl rfl) rfl rfl rfl ?_
 refine G.nil (GE.then_ (GC.ret (GE.passR ?_)))
 exact GE.body [] 1 (res1 rfl rfl) rfl (⟨rfl, rfl⟩)
 replace hc2 := of_decide_eq_false hc2
 have hc2z := szG_ok hc2
 refine GC.skip (GE.then_ (GC.seq (GC.region ?_)))
 refine G.stepD (OD.loadAgg rfl ti44 rfl (i := 0) rfl (us := [.int .i64 (ap), .int .i64 (ar), .int .i64 (ac), vad]) rfl rfl) rfl rfl rfl ?_
 refine G.step (OG.call [.agg #[.int .i64 (ap), .int .i64 (ar), .int .i64 (ac), vad]] ent26 rfl rfl rfl rfl (by exact (toMatrix_s sad (Ent.drop 1 ead) (by omega)))) rfl rfl rfl ?_
 rintro _ _ ⟨v3, rfl, hs4, rfl⟩
 refine G.stepD (OD.move rfl rfl) rfl rfl rfl ?_
 refine G.step (OG.call [.agg #[.int .i64 (ap), .int .i64 (ar), .int .i64 (ac), v3], .int .i64 (k)] ent30 rfl rfl rfl rfl (by exact (specScaleMatrix_s hs4 (Ent.ints (i := 0) rfl)))) rfl rfl rfl ?_
 rintro _ _ ⟨v5, rfl, hs6, rfl⟩
 refine G.step (OG.alloc rfl ti35 (zs := [.int .i64 (0), .int .i64 (0), .int .i64 (0), .slice none 0 0]) rfl) rfl rfl rfl ?_
 rintro _ _ ⟨g7, rfl, rfl⟩
 refine G.stepD0 (OD.store rfl ti35 rfl rfl (us := [.int .i64 ((scaleMF ⟨ap, ar, ac, ad⟩ k).p), .int .i64 ((scaleMF ⟨ap, ar, ac, ad⟩ k).r), .int .i64 ((scaleMF ⟨ap, ar, ac, ad⟩ k).c), v5]) rfl rfl (allC rfl (allC rfl (allC rfl (allC (IsS.one hs6) rfl)))) (i := 0) rfl rfl) rfl rfl ?_
 refine G.nil (GE.then_ (GC.seq (GC.region ?_)))
 refine G.stepD (OD.loadAgg rfl ti44 rfl (i := 3) rfl (us := [.int .i64 (ap), .int .i64 (ar), .int .i64 (ac), vad]) rfl rfl) rfl rfl rfl ?_
 refine G.step (OG.call [.agg #[.int .i64 (ap), .int .i64 (ar), .int .i64 (ac), vad]] ent26 rfl rfl rfl rfl (by exact (toMatrix_s sad (Ent.drop 4 ead) (by omega)))) rfl rfl rfl ?_
 rintro _ _ ⟨v8, rfl, hs9, rfl⟩
 refine G.step (OG.alloc rfl ti35 (zs := [.int .i64 (0), .int .i64 (0), .int .i64 (0), .slice none 0 0]) rfl) rfl rfl rfl ?_
 rintro _ _ ⟨g10, rfl, rfl⟩
 refine G.stepD0 (OD.store rfl ti35 rfl rfl (us := [.int .i64 (ap), .int .i64 (ar), .int .i64 (ac), v8]) rfl rfl (allC rfl (allC rfl (allC rfl (allC (IsS.one hs9) rfl)))) (i := 0) rfl rfl) rfl rfl ?_
 refine G.nil (GE.then_ (GC.seq (GC.region ?_)))
 refine G.stepD (OD.loadAgg rfl ti35 rfl (i := 0) rfl (us := [.int .i64 (ap), .int .i64 (ar), .int .i64 (ac), v8]) rfl rfl) rfl rfl rfl ?_
 refine G.stepD (OD.move rfl rfl) rfl rfl rfl ?_
 refine G.step (OG.call [.agg #[.int .i64 (ap), .int .i64 (ar), .int .i64 (ac), v8], .int .i64 (k)] ent31 rfl rfl rfl rfl (by exact (scaleMatrix_s hs9 (Ent.ints (i := 1) rfl)))) rfl rfl rfl ?_
 rintro _ _ ⟨v11, rfl, hs12, rfl⟩
 refine G.step (OG.alloc rfl ti35 (zs := [.int .i64 (0), .int .i64 (0), .int .i64 (0), .slice none 0 0]) rfl) rfl rfl rfl ?_
 rintro _ _ ⟨g13, rfl, rfl⟩
 refine G.stepD0 (OD.store rfl ti35 rfl rfl (us := [.int .i64 ((scaleMF ⟨ap, ar, ac, ad⟩ k).p), .int .i64 ((scaleMF ⟨ap, ar, ac, ad⟩ k).r), .int .i64 ((scaleMF ⟨ap, ar, ac, ad⟩ k).c), v11]) rfl rfl (allC rfl (allC rfl (allC rfl (allC (IsS.one hs12) rfl)))) (i := 0) rfl rfl) rfl rfl ?_
 refine G.nil (GE.then_ (GC.seq (GC.seq (GC.region ?_))))
 refine G.stepD (OD.loadAgg rfl ti35 rfl (i := 0) rfl (us := [.int .i64 ((scaleMF ⟨ap, ar, ac, ad⟩ k).p), .int .i64 ((scaleMF ⟨ap, ar, ac, ad⟩ k).r), .int .i64 ((scaleMF ⟨ap, ar, ac, ad⟩ k).c), v11]) rfl rfl) rfl rfl rfl ?_
 refine G.stepD (OD.loadAgg rfl ti35 rfl (i := 4) rfl (us := [.int .i64 ((scaleMF ⟨ap, ar, ac, ad⟩ k).p), .int .i64 ((scaleMF ⟨ap, ar, ac, ad⟩ k).r), .int .i64 ((scaleMF ⟨ap, ar, ac, ad⟩ k).c), v5]) rfl rfl) rfl rfl rfl ?_
 refine G.step (OG.call [.agg #[.int .i64 ((scaleMF ⟨ap, ar, ac, ad⟩ k).p), .int .i64 ((scaleMF ⟨ap, ar, ac, ad⟩ k).r), .int .i64 ((scaleMF ⟨ap, ar, ac, ad⟩ k).c), v11], .agg #[.int .i64 ((scaleMF ⟨ap, ar, ac, ad⟩ k).p), .int .i64 ((scaleMF ⟨ap, ar, ac, ad⟩ k).r), .int .i64 ((scaleMF ⟨ap, ar, ac, ad⟩ k).c), v5]] ent27 rfl rfl rfl rfl (by exact (eqMatrix_same hs12 (Ent.ints (i := 1) rfl) hs6 (Ent.ints (i := 5) rfl) (by omega)))) rfl rfl rfl ?_
 rintro _ _ ⟨rfl, rfl⟩
 refine G.stepD (OD.not rfl rfl) rfl rfl rfl ?_
 refine G.nil (GE.then_ (GC.condF rfl (GC.skip (GE.then_ (GC.seq (GC.seq ?_))))))
 refine GC.at [] 0 (env' := [(1, .int .i64 (k)), (2, .pointer (some ⟨g1, 0, none⟩)), (6, .pointer (some ⟨g7, 0, none⟩)), (7, .pointer (some ⟨g10, 0, none⟩)), (8, .pointer (some ⟨g13, 0, none⟩))]) ⟨rfl, rfl, rfl, rfl, rfl, trivial⟩ rfl ?_
 refine GC.par (its := [⟨31, [], [], [], [], fun _ => .agg #[.int .i64 (ap), .int .i64 (ar), .int .i64 (ac), v8], fun _ => True, fun _ => []⟩,
     ⟨32, [], [], [], [], fun _ => .agg #[.int .i64 (ap), .int .i64 (ar), .int .i64 (ac), vad], fun _ => True, fun _ => []⟩,
     ⟨33, [(1, 32)], [], [], [2], fun ds => .agg #[.int .i64 (ap), .int .i64 (ar), .int .i64 (ac), ((ds.getD 0 []).getD 0 undef)], fun ds => IsS ((ds.getD 0 []).getD 0 undef), fun ds => [ints 3 ((ds.getD 0 []).getD 0 undef) ad]⟩,
     ⟨34, [(0, 31), (2, 33)], [2], [], [2], fun _ => .bool true, fun _ => True, fun _ => []⟩,
     ⟨35, [(3, 34)], [2], [], [2], fun _ => .bool false, fun _ => True, fun _ => []⟩]) (by kernel_rfl) (by kernel_rfl) (POps.cons ?_ (POps.cons ?_ (POps.cons ?_ (POps.cons ?_ (POps.cons ?_ POps.nil))))) ?_
 intro θ R hd
 exact Opp.plain (OG.imp (OD.loadAgg rfl ti35 rfl (i := 2) rfl (us := [.int .i64 (ap), .int .i64 (ar), .int .i64 (ac), v8]) rfl rfl) (by rintro _ _ ⟨rfl, rfl⟩; exact ⟨[], rfl, trivial, rfl⟩)) rfl
 intro θ R hd
 exact Opp.plain (OG.imp (OD.loadAgg rfl ti44 rfl (i := 7) rfl (us := [.int .i64 (ap), .int .i64 (ar), .int .i64 (ac), vad]) rfl rfl) (by rintro _ _ ⟨rfl, rfl⟩; exact ⟨[], rfl, trivial, rfl⟩)) rfl
 intro θ R hd
 obtain ⟨h1d, _⟩ := hd
 exact Opp.plain (OG.imp (OG.call [.agg #[.int .i64 (ap), .int .i64 (ar), .int .i64 (ac), vad]] ent26 rfl rfl rfl rfl (by exact (toMatrix_s sad (Ent.drop 8 ead.app) (by omega)))) (by rintro _ _ ⟨v14, rfl, hs15, rfl⟩; exact ⟨[v14], rfl, hs15, rfl⟩)) rfl
 intro θ R hd
 obtain ⟨h0d, h2d, _⟩ := hd
 exact Opp.plain (OG.imp (OG.call [.agg #[.int .i64 (ap), .int .i64 (ar), .int .i64 (ac), v8], .agg #[.int .i64 (ap), .int .i64 (ar), .int .i64 (ac), ((θ 2).getD 0 undef)]] ent27 rfl rfl rfl rfl (by exact (eqMatrix_same hs9 (Ent.ints (i := 4) rfl) h2d (Ent.ints (i := 0) rfl) (by omega)))) (by rintro _ _ ⟨rfl, rfl⟩; exact ⟨[], rfl, trivial, rfl⟩)) rfl
 intro θ R hd
 obtain ⟨h3d, _⟩ := hd
 exact Opp.plain (OG.imp (OD.not rfl rfl) (by rintro _ _ ⟨rfl, rfl⟩; exact ⟨[], rfl, trivial, rfl⟩)) rfl
 intro θ hall
 obtain ⟨_, _, h2a, _, _, _⟩ := hall
 refine G.at [] 0 (env' := [(1, .int .i64 (k)), (2, .pointer (some ⟨g1, 0, none⟩)), (6, .pointer (some ⟨g7, 0, none⟩)), (7, .pointer (some ⟨g10, 0, none⟩)), (8, .pointer (some ⟨g13, 0, none⟩)), (35, .bool false)]) ⟨rfl, rfl, rfl, rfl, rfl, rfl, trivial⟩ (own' := ints 3 ((θ 2).getD 0 undef) ad :: box g13 35 [.int .i64 ((scaleMF ⟨ap, ar, ac, ad⟩ k).p), .int .i64 ((scaleMF ⟨ap, ar, ac, ad⟩ k).r), .int .i64 ((scaleMF ⟨ap, ar, ac, ad⟩ k).c), v11] :: ints 3 v11 ((scaleMF ⟨ap, ar, ac, ad⟩ k).d) :: box g10 35 [.int .i64 (ap), .int .i64 (ar), .int .i64 (ac), v8] :: ints 3 v8 ad :: box g7 35 [.int .i64 ((scaleMF ⟨ap, ar, ac, ad⟩ k).p), .int .i64 ((scaleMF ⟨ap, ar, ac, ad⟩ k).r), .int .i64 ((scaleMF ⟨ap, ar, ac, ad⟩ k).c), v5] :: ints 3 v5 ((scaleMF ⟨ap, ar, ac, ad⟩ k).d) :: ints 3 v3 ad :: box g1 44 [.int .i64 (ap), .int .i64 (ar), .int .i64 (ac), vad] :: own) rfl ?_
 have hs16 : IsS ((θ 2).getD 0 undef) := h2a
 clear h2a
 generalize ((θ 2).getD 0 undef) = v17 at *
 show G _ _ _ [] _ _ _ _
 refine G.nil (GE.then_ (GC.condF rfl (GC.skip (GE.then_ (GC.seq (GC.region ?_))))))
 refine G.stepD (OD.assign rfl rfl) rfl rfl rfl ?_
 refine G.nil (GE.then_ (GC.seq (GC.region ?_)))
 refine G.stepD (OD.loadAgg rfl ti35 rfl (i := 3) rfl (us := [.int .i64 (ap), .int .i64 (ar), .int .i64 (ac), v8]) rfl rfl) rfl rfl rfl ?_
 refine G.stepD (OD.move rfl rfl) rfl rfl rfl ?_
 refine G.at [4] 0 (env' := [(1, .int .i64 (k)), (2, .pointer (some ⟨g1, 0, none⟩)), (6, .pointer (some ⟨g7, 0, none⟩)), (7, .pointer (some ⟨g10, 0, none⟩)), (8, .pointer (some ⟨g13, 0, none⟩)), (35, .bool false), (9, .int .i64 (1)), (36, .agg #[.int .i64 (ap), .int .i64 (ar), .int .i64 (ac), v8]), (37, .int .i64 (1))]) ⟨rfl, rfl, rfl, rfl, rfl, rfl, rfl, rfl, rfl, trivial⟩ (own' := ints 3 v8 ad :: ints 3 v17 ad :: box g13 35 [.int .i64 ((scaleMF ⟨ap, ar, ac, ad⟩ k).p), .int .i64 ((scaleMF ⟨ap, ar, ac, ad⟩ k).r), .int .i64 ((scaleMF ⟨ap, ar, ac, ad⟩ k).c), v11] :: ints 3 v11 ((scaleMF ⟨ap, ar, ac, ad⟩ k).d) :: box g10 35 [.int .i64 (ap), .int .i64 (ar), .int .i64 (ac), v8] :: box g7 35 [.int .i64 ((scaleMF ⟨ap, ar, ac, ad⟩ k).p), .int .i64 ((scaleMF ⟨ap, ar, ac, ad⟩ k).r), .int .i64 ((scaleMF ⟨ap, ar, ac, ad⟩ k).c), v5] :: ints 3 v5 ((scaleMF ⟨ap, ar, ac, ad⟩ k).d) :: ints 3 v3 ad :: box g1 44 [.int .i64 (ap), .int .i64 (ar), .int .i64 (ac), vad] :: own) rfl ?_
 refine G.step (OG.call [.agg #[.int .i64 (ap), .int .i64 (ar), .int .i64 (ac), v8], .int .i64 (1)] ent28 rfl rfl rfl rfl (by exact (markMatrix_s hs9 (by omega) (by omega)))) rfl rfl rfl ?_
 rintro _ _ ⟨rfl, rfl⟩
 refine G.stepD (OD.assign rfl rfl) rfl rfl rfl ?_
 refine G.nil (GE.then_ (GC.seq (GC.seq (GC.region ?_))))
 refine G.stepD (OD.move rfl rfl) rfl rfl rfl ?_
 refine G.stepD (OD.eqv (OD.lss rfl rfl rfl) (congrArg Value.bool ((decide_eq_false (by omega)) : _ = false))) rfl rfl rfl ?_
 refine G.stepD (OD.move rfl rfl) rfl rfl rfl ?_
 refine G.stepGD (OD.loadAgg rfl ti35 rfl (i := 2) rfl (us := [.int .i64 ((scaleMF ⟨ap, ar, ac, ad⟩ k).p), .int .i64 ((scaleMF ⟨ap, ar, ac, ad⟩ k).r), .int .i64 ((scaleMF ⟨ap, ar, ac, ad⟩ k).c), v11]) rfl rfl) rfl rfl rfl rfl rfl ?_
 refine G.stepGD (OD.loadAgg rfl ti35 rfl (i := 5) rfl (us := [.int .i64 ((scaleMF ⟨ap, ar, ac, ad⟩ k).p), .int .i64 ((scaleMF ⟨ap, ar, ac, ad⟩ k).r), .int .i64 ((scaleMF ⟨ap, ar, ac, ad⟩ k).c), v5]) rfl rfl) rfl rfl rfl rfl rfl ?_
 refine G.stepG (OG.call [.agg #[.int .i64 ((scaleMF ⟨ap, ar, ac, ad⟩ k).p), .int .i64 ((scaleMF ⟨ap, ar, ac, ad⟩ k).r), .int .i64 ((scaleMF ⟨ap, ar, ac, ad⟩ k).c), v11], .agg #[.int .i64 ((scaleMF ⟨ap, ar, ac, ad⟩ k).p), .int .i64 ((scaleMF ⟨ap, ar, ac, ad⟩ k).r), .int .i64 ((scaleMF ⟨ap, ar, ac, ad⟩ k).c), v5]] ent27 rfl rfl rfl rfl (by exact (eqMatrix_same hs12 (Ent.ints (i := 3) rfl) hs6 (Ent.ints (i := 6) rfl) (by omega)))) rfl rfl rfl rfl rfl ?_
 rintro _ _ ⟨rfl, rfl⟩
 refine G.stepGD (OD.not rfl rfl) rfl rfl rfl rfl rfl ?_
 refine G.stepD (OD.pickF rfl rfl rfl) rfl rfl rfl ?_
 refine G.nil (GE.then_ (GC.condF rfl (GC.skip (GE.then_ (GC.seq (GC.region ?_))))))
 refine G.stepD (OD.assign rfl rfl) rfl rfl rfl ?_
 refine G.nil (GE.then_ (GC.seq (GC.region ?_)))
 refine G.stepD (OD.loadAgg rfl ti35 rfl (i := 2) rfl (us := [.int .i64 ((scaleMF ⟨ap, ar, ac, ad⟩ k).p), .int .i64 ((scaleMF ⟨ap, ar, ac, ad⟩ k).r), .int .i64 ((scaleMF ⟨ap, ar, ac, ad⟩ k).c), v11]) rfl rfl) rfl rfl rfl ?_
 refine G.stepD (OD.move rfl rfl) rfl rfl rfl ?_
 refine G.at [3] 0 (env' := [(1, .int .i64 (k)), (2, .pointer (some ⟨g1, 0, none⟩)), (6, .pointer (some ⟨g7, 0, none⟩)), (7, .pointer (some ⟨g10, 0, none⟩)), (8, .pointer (some ⟨g13, 0, none⟩)), (35, .bool false), (36, .agg #[.int .i64 (ap), .int .i64 (ar), .int .i64 (ac), v8]), (37, .int .i64 (1)), (38, .int .i64 (1 + (ad.length : Nat))), (9, .int .i64 (1 + (ad.length : Nat))), (39, .int .i64 (1 + (ad.length : Nat))), (40, .bool false), (41, .bool false), (42, .agg #[.int .i64 ((scaleMF ⟨ap, ar, ac, ad⟩ k).p), .int .i64 ((scaleMF ⟨ap, ar, ac, ad⟩ k).r), .int .i64 ((scaleMF ⟨ap, ar, ac, ad⟩ k).c), v11]), (43, .agg #[.int .i64 ((scaleMF ⟨ap, ar, ac, ad⟩ k).p), .int .i64 ((scaleMF ⟨ap, ar, ac, ad⟩ k).r), .int .i64 ((scaleMF ⟨ap, ar, ac, ad⟩ k).c), v5]), (44, .bool true), (45, .bool false), (46, .bool false), (10, .int .i64 (1)), (47, .agg #[.int .i64 ((scaleMF ⟨ap, ar, ac, ad⟩ k).p), .int .i64 ((scaleMF ⟨ap, ar, ac, ad⟩ k).r), .int .i64 ((scaleMF ⟨ap, ar, ac, ad⟩ k).c), v11]), (48, .int .i64 (1))]) ⟨rfl, rfl, rfl, rfl, rfl, rfl, rfl, rfl, rfl, rfl, rfl, rfl, rfl, rfl, rfl, rfl, rfl, rfl, rfl, rfl, rfl, trivial⟩ (own' := ints 3 v11 ((scaleMF ⟨ap, ar, ac, ad⟩ k).d) :: ints 3 v8 (mkd 1 ad.length) :: ints 3 v17 ad :: box g13 35 [.int .i64 ((scaleMF ⟨ap, ar, ac, ad⟩ k).p), .int .i64 ((scaleMF ⟨ap, ar, ac, ad⟩ k).r), .int .i64 ((scaleMF ⟨ap, ar, ac, ad⟩ k).c), v11] :: box g10 35 [.int .i64 (ap), .int .i64 (ar), .int .i64 (ac), v8] :: box g7 35 [.int .i64 ((scaleMF ⟨ap, ar, ac, ad⟩ k).p), .int .i64 ((scaleMF ⟨ap, ar, ac, ad⟩ k).r), .int .i64 ((scaleMF ⟨ap, ar, ac, ad⟩ k).c), v5] :: ints 3 v5 ((scaleMF ⟨ap, ar, ac, ad⟩ k).d) :: ints 3 v3 ad :: box g1 44 [.int .i64 (ap), .int .i64 (ar), .int .i64 (ac), vad] :: own) rfl ?_
 refine G.step (OG.call [.agg #[.int .i64 ((scaleMF ⟨ap, ar, ac, ad⟩ k).p), .int .i64 ((scaleMF ⟨ap, ar, ac, ad⟩ k).r), .int .i64 ((scaleMF ⟨ap, ar, ac, ad⟩ k).c), v11], .int .i64 (1)] ent28 rfl rfl rfl rfl (by exact (markMatrix_s hs12 (by omega) (by omega)))) rfl rfl rfl ?_
 rintro _ _ ⟨rfl, rfl⟩
 refine G.stepD (OD.assign rfl rfl) rfl rfl rfl ?_
 refine G.nil (GE.then_ (GC.seq (GC.region ?_)))
 refine G.stepD (OD.assign rfl rfl) rfl rfl rfl ?_
 refine G.nil (GE.then_ (GC.seq (GC.region ?_)))
 refine G.stepD (OD.loadAgg rfl ti35 rfl (i := 3) rfl (us := [.int .i64 ((scaleMF ⟨ap, ar, ac, ad⟩ k).p), .int .i64 ((scaleMF ⟨ap, ar, ac, ad⟩ k).r), .int .i64 ((scaleMF ⟨ap, ar, ac, ad⟩ k).c), v11]) rfl rfl) rfl rfl rfl ?_
 refine G.stepD (OD.move rfl rfl) rfl rfl rfl ?_
 refine G.step (OG.call [.agg #[.int .i64 ((scaleMF ⟨ap, ar, ac, ad⟩ k).p), .int .i64 ((scaleMF ⟨ap, ar, ac, ad⟩ k).r), .int .i64 ((scaleMF ⟨ap, ar, ac, ad⟩ k).c), v11], .int .i64 (1)] ent29 rfl rfl rfl rfl (by exact (heldMatrix_m hs12 (Ent.ints (i := 0) rfl) (by omega) (by omega)))) rfl rfl rfl ?_
 rintro _ _ ⟨rfl, rfl⟩
 refine G.stepD (OD.assign rfl rfl) rfl rfl rfl ?_
 refine G.nil (GE.then_ (GC.seq (GC.seq (GC.region ?_))))
 refine G.stepD (OD.move rfl rfl) rfl rfl rfl ?_
 refine G.stepD (OD.eqv (OD.lss rfl rfl rfl) (congrArg Value.bool ((decide_eq_false (by omega)) : _ = false))) rfl rfl rfl ?_
 refine G.nil (GE.then_ (GC.condF rfl (GC.skip (GE.then_ (GC.seq (GC.seq (GC.region ?_)))))))
 refine G.stepD (OD.move rfl rfl) rfl rfl rfl ?_
 refine G.stepD (OD.move rfl rfl) rfl rfl rfl ?_
 refine G.stepD (OD.eqv (OD.neq rfl rfl rfl) (congrArg Value.bool ((bne_same _) : _ = false))) rfl rfl rfl ?_
 refine G.nil (GE.then_ (GC.condF rfl (GC.skip (GE.then_ (GC.seq (GC.region ?_))))))
 refine G.stepD (OD.loadAgg rfl ti44 rfl (i := 8) rfl (us := [.int .i64 (ap), .int .i64 (ar), .int .i64 (ac), vad]) rfl rfl) rfl rfl rfl ?_
 refine G.step (OG.call [.agg #[.int .i64 (ap), .int .i64 (ar), .int .i64 (ac), vad]] ent26 rfl rfl rfl rfl (by exact (toMatrix_s sad (Ent.drop 9 ead) (by omega)))) rfl rfl rfl ?_
 rintro _ _ ⟨v18, rfl, hs19, rfl⟩
 refine G.stepD (OD.move rfl rfl) rfl rfl rfl ?_
 refine G.step (OG.call [.agg #[.int .i64 (ap), .int .i64 (ar), .int .i64 (ac), v18], .int .i64 (k)] ent31 rfl rfl rfl rfl (by exact (scaleMatrix_s hs19 (Ent.ints (i := 0) rfl)))) rfl rfl rfl ?_
 rintro _ _ ⟨v20, rfl, hs21, rfl⟩
 refine G.step (OG.alloc rfl ti35 (zs := [.int .i64 (0), .int .i64 (0), .int .i64 (0), .slice none 0 0]) rfl) rfl rfl rfl ?_
 rintro _ _ ⟨g22, rfl, rfl⟩
 refine G.stepD0 (OD.store rfl ti35 rfl rfl (us := [.int .i64 ((scaleMF ⟨ap, ar, ac, ad⟩ k).p), .int .i64 ((scaleMF ⟨ap, ar, ac, ad⟩ k).r), .int .i64 ((scaleMF ⟨ap, ar, ac, ad⟩ k).c), v20]) rfl rfl (allC rfl (allC rfl (allC rfl (allC (IsS.one hs21) rfl)))) (i := 0) rfl rfl) rfl rfl ?_
 refine G.nil (GE.then_ (GC.seq (GC.seq (GC.region ?_))))
 refine G.stepD (OD.loadAgg rfl ti35 rfl (i := 0) rfl (us := [.int .i64 ((scaleMF ⟨ap, ar, ac, ad⟩ k).p), .int .i64 ((scaleMF ⟨ap, ar, ac, ad⟩ k).r), .int .i64 ((scaleMF ⟨ap, ar, ac, ad⟩ k).c), v20]) rfl rfl) rfl rfl rfl ?_
 refine G.stepD (OD.loadAgg rfl ti35 rfl (i := 8) rfl (us := [.int .i64 ((scaleMF ⟨ap, ar, ac, ad⟩ k).p), .int .i64 ((scaleMF ⟨ap, ar, ac, ad⟩ k).r), .int .i64 ((scaleMF ⟨ap, ar, ac, ad⟩ k).c), v5]) rfl rfl) rfl rfl rfl ?_
 refine G.step (OG.call [.agg #[.int .i64 ((scaleMF ⟨ap, ar, ac, ad⟩ k).p), .int .i64 ((scaleMF ⟨ap, ar, ac, ad⟩ k).r), .int .i64 ((scaleMF ⟨ap, ar, ac, ad⟩ k).c), v20], .agg #[.int .i64 ((scaleMF ⟨ap, ar, ac, ad⟩ k).p), .int .i64 ((scaleMF ⟨ap, ar, ac, ad⟩ k).r), .int .i64 ((scaleMF ⟨ap, ar, ac, ad⟩ k).c), v5]] ent27 rfl rfl rfl rfl (by exact (eqMatrix_same hs21 (Ent.ints (i := 1) rfl) hs6 (Ent.ints (i := 9) rfl) (by omega)))) rfl rfl rfl ?_
 rintro _ _ ⟨rfl, rfl⟩
 refine G.stepD (OD.not rfl rfl) rfl rfl rfl ?_
 refine G.nil (GE.then_ (GC.condF rfl (GC.skip (GE.then_ (GC.seq (GC.region ?_))))))
 refine G.stepD (OD.assign rfl rfl) rfl rfl rfl ?_
 refine G.nil (GE.then_ (GC.seq (GC.region ?_)))
 refine G.stepD (OD.loadAgg rfl ti35 rfl (i := 6) rfl (us := [.int .i64 ((scaleMF ⟨ap, ar, ac, ad⟩ k).p), .int .i64 ((scaleMF ⟨ap, ar, ac, ad⟩ k).r), .int .i64 ((scaleMF ⟨ap, ar, ac, ad⟩ k).c), v11]) rfl rfl) rfl rfl rfl ?_
 refine G.stepD (OD.move rfl rfl) rfl rfl rfl ?_
 refine G.step (OG.call [.agg #[.int .i64 ((scaleMF ⟨ap, ar, ac, ad⟩ k).p), .int .i64 ((scaleMF ⟨ap, ar, ac, ad⟩ k).r), .int .i64 ((scaleMF ⟨ap, ar, ac, ad⟩ k).c), v11], .int .i64 (1)] ent29 rfl rfl rfl rfl (by exact (heldMatrix_m hs12 (Ent.ints (i := 3) rfl) (by omega) (by omega)))) rfl rfl rfl ?_
 rintro _ _ ⟨rfl, rfl⟩
 refine G.stepD (OD.assign rfl rfl) rfl rfl rfl ?_
 refine G.nil (GE.then_ (GC.seq (GC.seq (GC.region ?_))))
 refine G.stepD (OD.move rfl rfl) rfl rfl rfl ?_
 refine G.stepD (OD.eqv (OD.lss rfl rfl rfl) (congrArg Value.bool ((decide_eq_false (by omega)) : _ = false))) rfl rfl rfl ?_
 refine G.nil (GE.then_ (GC.condF rfl (GC.skip (GE.then_ (GC.seq (GC.seq (GC.region ?_)))))))
 refine G.stepD (OD.move rfl rfl) rfl rfl rfl ?_
 refine G.stepD (OD.move rfl rfl) rfl rfl rfl ?_
 refine G.stepD (OD.eqv (OD.neq rfl rfl rfl) (congrArg Value.bool ((bne_same _) : _ = false))) rfl rfl rfl ?_
 refine G.nil (GE.then_ (GC.condF rfl (GC.skip (GE.then_ (GC.seq (GC.region ?_))))))
 refine G.stepD (OD.assign rfl rfl) rfl rfl rfl ?_
 refine G.nil (GE.then_ (GC.ret ?_))
 exact GE.body [] 12 (res1 rfl rfl) rfl (⟨rfl, rfl⟩)

end Go.Proofs.Ytiapoopcicjldaa
