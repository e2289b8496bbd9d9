/-
  Matrices: contracts of the functions.
-/
import Derived.Test.YtbmnnbglipkidaaWHelp
namespace Go.Proofs.Ytbmnnbglipkidaa
set_option linter.unusedVariables false
set_option linter.unusedSimpArgs false
open Go.RowKit
theorem ent35 : ∀ us w, (callFunc 35 us).run Try.prog w = .ok (.enter 35 us) w := fun us w => by kernel_rfl
theorem ent37 : ∀ us w, (callFunc 37 us).run Try.prog w = .ok (.enter 37 us) w := fun us w => by kernel_rfl
theorem matrixOk_s {W : World} {own : List Asn} {ap : Int} {ar : Int} {ac : Int} {vad : Value} {ad : List Int}  (sad : IsS vad) (ead : Ent own fun w => Ints w vad ad)   : Spec Try.prog 21 [.agg #[.int .i64 (ap), .int .i64 (ar), .int .i64 (ac), vad]] W own (fun v ow => v = .bool (matOkB ⟨ap, ar, ac, ad⟩) ∧ ow = own) := Spec.below fun w hs => matrixOk_any _ _ w ⟨_, rfl, ead W w hs⟩
theorem specMatrixOk_s {W : World} {own : List Asn} {ap : Int} {ar : Int} {ac : Int} {vad : Value} {ad : List Int}  (sad : IsS vad) (ead : Ent own fun w => Ints w vad ad)   : Spec Try.prog 14 [.agg #[.int .i64 (ap), .int .i64 (ar), .int .i64 (ac), vad]] W own (fun v ow => v = .bool (matOkB ⟨ap, ar, ac, ad⟩) ∧ ow = own) := Spec.below fun w hs => specMatrixOk_any _ _ w ⟨_, rfl, ead W w hs⟩
theorem specIsPrime_s {W : World} {own : List Asn} {n : Int}    : Spec Try.prog 32 [.int .i64 (n)] W own (fun v ow => v = .bool (primeB n) ∧ ow = own) := Spec.same fun w _ => specIsPrime_any n w
theorem inside_s {W : World} {own : List Asn} {n : Int} {lo : Int} {hi : Int}    : Spec Try.prog 20 [.int .i64 (n), .int .i64 (lo), .int .i64 (hi)] W own (fun v ow => v = .bool (inB n lo hi) ∧ ow = own) := Spec.same fun w _ => inside_any n lo hi w
theorem mod_s {W : World} {own : List Asn} {n : Int} {p : Int}   (hp : 1 ≤ p ∧ p ≤ 1000000) : Spec Try.prog 50 [.int .i64 (n), .int .i64 (p)] W own (fun v ow => v = .int .i64 (n % p) ∧ ow = own) := Spec.same fun w _ => mod_any n p w hp.1 hp.2
theorem l1Mod_s {W : World} {own : List Asn} {n : Int} {p : Int}   (hp : 1 ≤ p ∧ p ≤ 1000000) : Spec Try.prog 37 [.int .i64 (n), .int .i64 (p)] W own (fun v ow => v = .int .i64 (n % p) ∧ ow = own) := Spec.same fun w _ => l1Mod_any n p w hp.1 hp.2
theorem clone_s {W : World} {own : List Asn} {vx : Value} {x : List Int}  (sx : IsS vx) (ex : Ent own fun w => Ints w vx x)  (hl : x.length ≤ 1073741824) : Spec Try.prog 47 [vx] W own (fun v ow => ∃ (r0 : Value), v = r0 ∧ IsS r0 ∧ ow = ints 3 r0 x :: own) := Spec.ownI fun w hs => clone_any _ _ w (ex W w hs) hl
theorem plus_s {W : World} {own : List Asn} {ap : Int} {ar : Int} {ac : Int} {vad : Value} {ad : List Int} {k : Int} {bp : Int} {br : Int} {bc : Int} {vbd : Value} {bd : List Int}  (sad : IsS vad) (ead : Ent own fun w => Ints w vad ad)   (sbd : IsS vbd) (ebd : Ent own fun w => Ints w vbd bd)  (ha : Small ⟨ap, ar, ac, ad⟩) (hb : Small ⟨bp, br, bc, bd⟩) (hk : 0 ≤ k ∧ k ≤ 20000) (hl : bd.length ≤ ad.length) : Spec Try.prog 51 [.agg #[.int .i64 (ap), .int .i64 (ar), .int .i64 (ac), vad], .int .i64 (k), .agg #[.int .i64 (bp), .int .i64 (br), .int .i64 (bc), vbd]] W own (fun v ow => ∃ (r3 : Value), v = .agg #[.int .i64 (ap), .int .i64 (ar), .int .i64 (ac), r3] ∧ IsS r3 ∧ ow = ints 3 r3 (addF k ap ad bd) :: own) := Spec.ownM (m := plusF ⟨ap, ar, ac, ad⟩ k ⟨bp, br, bc, bd⟩) fun w hs => plus_any _ _ _ _ k w ⟨_, rfl, ead W w hs⟩ ⟨_, rfl, ebd W w hs⟩ ha hb hk.1 hk.2 hl
theorem l1Copy_s {W : World} {own : List Asn} {ap : Int} {ar : Int} {ac : Int} {vad : Value} {ad : List Int}  (sad : IsS vad) (ead : Ent own fun w => Ints w vad ad)  (hl : ad.length ≤ 1073741824) : Spec Try.prog 35 [.agg #[.int .i64 (ap), .int .i64 (ar), .int .i64 (ac), vad]] W own (fun v ow => ∃ (r3 : Value), v = .agg #[.int .i64 (ap), .int .i64 (ar), .int .i64 (ac), r3] ∧ IsS r3 ∧ ow = ints 3 r3 ad :: own) := Spec.ownM (m := ⟨ap, ar, ac, ad⟩) fun w hs => l1Copy_any _ _ w ⟨_, rfl, ead W w hs⟩ hl
theorem l1Add_s {W : World} {own : List Asn} {ap : Int} {ar : Int} {ac : Int} {vad : Value} {ad : List Int} {bp : Int} {br : Int} {bc : Int} {vbd : Value} {bd : List Int}  (sad : IsS vad) (ead : Ent own fun w => Ints w vad ad)   (sbd : IsS vbd) (ebd : Ent own fun w => Ints w vbd bd)  (ha : Small ⟨ap, ar, ac, ad⟩) (hb : Small ⟨bp, br, bc, bd⟩) (hl : bd.length = ad.length) : Spec Try.prog 39 [.agg #[.int .i64 (ap), .int .i64 (ar), .int .i64 (ac), vad], .agg #[.int .i64 (bp), .int .i64 (br), .int .i64 (bc), vbd]] W own (fun v ow => ∃ (r3 : Value), v = .agg #[.int .i64 (ap), .int .i64 (ar), .int .i64 (ac), r3] ∧ IsS r3 ∧ ow = ints 3 r3 (addF 1 ap ad bd) :: own) := Spec.ownM (m := plusF ⟨ap, ar, ac, ad⟩ 1 ⟨bp, br, bc, bd⟩) fun w hs => l1Add_any _ _ _ _ w ⟨_, rfl, ead W w hs⟩ ⟨_, rfl, ebd W w hs⟩ ha hb hl
set_option maxRecDepth 100000 in
theorem l1Scale_s {W : World} {own : List Asn} {ap : Int} {ar : Int} {ac : Int} {vad : Value} {ad : List Int} {k : Int}  (sad : IsS vad) (ead : Ent own fun w => Ints w vad ad)   (hp : 1 ≤ ap ∧ ap ≤ 10007) (hd : ad.length ≤ 1600 ∧ ∀ i, 0 ≤ ad.getD i 0 ∧ ad.getD i 0 ≤ 10007) : Spec Try.prog 41 [.agg #[.int .i64 (ap), .int .i64 (ar), .int .i64 (ac), vad], .int .i64 (k)] W own (fun v ow => ∃ (r3 : Value), v = .agg #[.int .i64 (ap), .int .i64 (ar), .int .i64 (ac), r3] ∧ IsS r3 ∧ ow = ints 3 r3 (((ad : List Int)).map (fun x => (x * (k % ap)).tmod ap)) :: own) := by
 have hk0 : 0 ≤ k % ap := Int.emod_nonneg _ (by omega)
 have hk1 : k % ap < ap := Int.emod_lt_of_pos _ (by omega)
 refine Spec.enter Try.f41 _ Try.func41 rfl (n := 36) rfl rfl ?_
 refine GC.seq (GC.region ?_)
 refine G.step (OG.box (cs := [.int .i64 (ap), .int .i64 (ar), .int .i64 (ac), vad]) rfl rfl rfl) rfl rfl rfl ?_
 rintro _ _ ⟨g1, rfl, rfl⟩
 refine G.step (OG.alloc rfl ti41 (zs := [.int .i64 (0), .int .i64 (0), .int .i64 (0), .slice none 0 0]) rfl) rfl rfl rfl ?_
 rintro _ _ ⟨g2, rfl, rfl⟩
 refine G.nil (GE.then_ (GC.seq (GC.region ?_)))
 refine G.stepD (OD.loadAgg rfl ti41 rfl (i := 1) rfl (us := [.int .i64 (ap), .int .i64 (ar), .int .i64 (ac), vad]) rfl rfl) rfl rfl rfl ?_
 refine G.step (OG.call [.agg #[.int .i64 (ap), .int .i64 (ar), .int .i64 (ac), vad]] ent35 rfl rfl rfl rfl (by exact (l1Copy_s sad (Ent.drop 2 ead) (by omega)))) rfl rfl rfl ?_
 rintro _ _ ⟨v3, rfl, hs4, rfl⟩
 refine G.step (OG.alloc rfl ti41 (zs := [.int .i64 (0), .int .i64 (0), .int .i64 (0), .slice none 0 0]) rfl) rfl rfl rfl ?_
 rintro _ _ ⟨g5, rfl, rfl⟩
 refine G.stepD0 (OD.store rfl ti41 rfl rfl (us := [.int .i64 (ap), .int .i64 (ar), .int .i64 (ac), v3]) rfl rfl (allC rfl (allC rfl (allC rfl (allC (IsS.one hs4) rfl)))) (i := 0) rfl rfl) rfl rfl ?_
 refine G.nil (GE.then_ (GC.seq (GC.region ?_)))
 refine G.stepD (OD.move rfl rfl) rfl rfl rfl ?_
 refine G.stepD (OD.fieldAddr rfl rfl fa41_0) rfl rfl rfl ?_
 refine G.stepD (OD.load rfl ti3 rfl (i := 0) rfl rfl) rfl rfl rfl ?_
 refine G.step (OG.call [.int .i64 (k), .int .i64 (ap)] ent37 rfl rfl rfl rfl (by exact (l1Mod_s (by omega)))) rfl rfl rfl ?_
 rintro _ _ ⟨rfl, rfl⟩
 refine G.stepD (OD.assign rfl rfl) rfl rfl rfl ?_
 refine G.nil (GE.then_ (GC.seq (GC.seq (GC.region ?_))))
 refine G.stepD (OD.assign rfl rfl) rfl rfl rfl ?_
 refine G.nil (GE.then_ (GC.block ?_))
 refine GC.loop (ι := Nat × List Int) (fun ⟨i, ys⟩ => [(4, .pointer (some ⟨g2, 0, none⟩)), (5, .pointer (some ⟨g5, 0, none⟩)), (6, .int .i64 (k % ap)), (7, .int .i64 ((i : Int)))]) (fun ⟨i, ys⟩ => box g5 41 [.int .i64 (ap), .int .i64 (ar), .int .i64 (ac), v3] :: ints 3 v3 ys :: box g2 41 [.int .i64 (0), .int .i64 (0), .int .i64 (0), .slice none 0 0] :: box g1 41 [.int .i64 (ap), .int .i64 (ar), .int .i64 (ac), vad] :: own) (fun ⟨i, ys⟩ => (i ≤ ad.length) ∧ (ys = mapPre (fun x => (x * (k % ap)).tmod ap) ad i)) (fun ⟨i, ys⟩ => ad.length - i) (0, ad) (⟨by omega, rfl⟩) ⟨rfl, rfl, rfl, rfl, trivial⟩ [] 0 rfl ?_
 rintro ⟨i, ys⟩ ⟨hi, hy⟩
 have hyl : ys.length = ad.length := by rw [hy, mapPre_len]
 have hg := mapPre_get (fun x => (x * (k % ap)).tmod ap) ad i
 rw [← hy] at hg
 have hb1 := hd.2 i
 have hm := mulBd (hg ▸ hb1 : 0 ≤ ys.getD i 0 ∧ ys.getD i 0 ≤ 10007) (⟨hk0, by omega⟩ : 0 ≤ k % ap ∧ k % ap ≤ 10007)
 refine GC.seq (GC.seq (GC.region ?_))
 refine G.stepD (OD.move rfl rfl) rfl rfl rfl ?_
 refine G.stepD (OD.fieldAddr rfl rfl fa41_3) rfl rfl rfl ?_
 refine G.stepD (OD.load rfl ti24 rfl (i := 0) rfl rfl) rfl rfl rfl ?_
 refine G.stepD (OD.len rfl rfl et24 rfl (Ent.ints (i := 1) rfl)) rfl rfl rfl ?_
 refine G.stepD (OD.lss rfl rfl rfl) rfl rfl rfl ?_
 refine G.nil (GE.then_ ?_)
 refine GC.cond rfl (fun hc6 => ?_) (fun hc6 => ?_)
 replace hc6 := of_decide_eq_true hc6
 refine GC.skip (GE.then_ (GC.seq (GC.block ?_)))
 refine GC.at [] 0 (env' := [(4, .pointer (some ⟨g2, 0, none⟩)), (5, .pointer (some ⟨g5, 0, none⟩)), (6, .int .i64 (k % ap)), (7, .int .i64 ((i : Int)))]) ⟨rfl, rfl, rfl, rfl, trivial⟩ rfl ?_
 refine GC.par (its := [⟨21, [], [], [], [], fun _ => .pointer (some ⟨g5, 3, none⟩), fun _ => True, fun _ => []⟩,
     ⟨22, [(0, 21)], [], [], [], fun _ => v3, fun _ => True, fun _ => []⟩,
     ⟨23, [], [], [], [], fun _ => .int .i64 ((i : Int)), fun _ => True, fun _ => []⟩,
     ⟨24, [], [], [], [], fun _ => .pointer (some ⟨g5, 3, none⟩), fun _ => True, fun _ => []⟩,
     ⟨25, [(3, 24)], [], [], [], fun _ => v3, fun _ => True, fun _ => []⟩,
     ⟨26, [], [], [], [], fun _ => .int .i64 ((i : Int)), fun _ => True, fun _ => []⟩,
     ⟨27, [(4, 25), (5, 26)], [], [], [], fun _ => elemPtr v3 1 (i), fun _ => True, fun _ => []⟩,
     ⟨28, [(6, 27)], [], [], [], fun _ => .int .i64 (ys.getD (i) 0), fun _ => True, fun _ => []⟩,
     ⟨29, [], [], [], [], fun _ => .int .i64 (k % ap), fun _ => True, fun _ => []⟩,
     ⟨30, [(7, 28), (8, 29)], [], [], [], fun _ => .int .i64 ((ys.getD (i) 0) * (k % ap)), fun _ => True, fun _ => []⟩,
     ⟨31, [], [], [], [], fun _ => .pointer (some ⟨g5, 0, none⟩), fun _ => True, fun _ => []⟩,
     ⟨32, [(10, 31)], [], [], [], fun _ => .int .i64 (ap), fun _ => True, fun _ => []⟩,
     ⟨33, [(9, 30), (11, 32)], [], [], [], fun _ => .int .i64 (((ys.getD (i) 0) * (k % ap)).tmod ap), fun _ => True, fun _ => []⟩,
     ⟨34, [(1, 22), (2, 23)], [], [], [], fun _ => elemPtr v3 1 (i), fun _ => True, fun _ => []⟩]) (by kernel_rfl) (by kernel_rfl) (POps.cons ?_ (POps.cons ?_ (POps.cons ?_ (POps.cons ?_ (POps.cons ?_ (POps.cons ?_ (POps.cons ?_ (POps.cons ?_ (POps.cons ?_ (POps.cons ?_ (POps.cons ?_ (POps.cons ?_ (POps.cons ?_ (POps.cons ?_ POps.nil)))))))))))))) ?_
 intro θ R hd
 exact Opp.plain (OG.imp (OD.fieldAddr rfl rfl fa41_3) (by rintro _ _ ⟨rfl, rfl⟩; exact ⟨[], rfl, trivial, rfl⟩)) rfl
 intro θ R hd
 obtain ⟨h0d, _⟩ := hd
 exact Opp.plain (OG.imp (OD.load rfl ti24 rfl (i := 0) rfl rfl) (by rintro _ _ ⟨rfl, rfl⟩; exact ⟨[], rfl, trivial, rfl⟩)) rfl
 intro θ R hd
 exact Opp.plain (OG.imp (OD.move rfl rfl) (by rintro _ _ ⟨rfl, rfl⟩; exact ⟨[], rfl, trivial, rfl⟩)) rfl
 intro θ R hd
 exact Opp.plain (OG.imp (OD.fieldAddr rfl rfl fa41_3) (by rintro _ _ ⟨rfl, rfl⟩; exact ⟨[], rfl, trivial, rfl⟩)) rfl
 intro θ R hd
 obtain ⟨h3d, _⟩ := hd
 exact Opp.plain (OG.imp (OD.load rfl ti24 rfl (i := 0) rfl rfl) (by rintro _ _ ⟨rfl, rfl⟩; exact ⟨[], rfl, trivial, rfl⟩)) rfl
 intro θ R hd
 exact Opp.plain (OG.imp (OD.move rfl rfl) (by rintro _ _ ⟨rfl, rfl⟩; exact ⟨[], rfl, trivial, rfl⟩)) rfl
 intro θ R hd
 obtain ⟨h4d, h5d, _⟩ := hd
 exact Opp.plain (OG.imp (OD.indexAddr rfl et24 rfl (Ent.ints (i := 1) rfl) rfl (by omega)) (by rintro _ _ ⟨rfl, rfl⟩; exact ⟨[], rfl, trivial, rfl⟩)) rfl
 intro θ R hd
 obtain ⟨h6d, _⟩ := hd
 exact Opp.plain (OG.imp (OD.loadInt rfl ti3 rfl (Ent.ints (i := 1) rfl) (by omega)) (by rintro _ _ ⟨rfl, rfl⟩; exact ⟨[], rfl, trivial, rfl⟩)) rfl
 intro θ R hd
 exact Opp.plain (OG.imp (OD.move rfl rfl) (by rintro _ _ ⟨rfl, rfl⟩; exact ⟨[], rfl, trivial, rfl⟩)) rfl
 intro θ R hd
 obtain ⟨h7d, h8d, _⟩ := hd
 exact Opp.plain (OG.imp (OD.mulI rfl rfl rfl (by omega)) (by rintro _ _ ⟨rfl, rfl⟩; exact ⟨[], rfl, trivial, rfl⟩)) rfl
 intro θ R hd
 exact Opp.plain (OG.imp (OD.fieldAddr rfl rfl fa41_0) (by rintro _ _ ⟨rfl, rfl⟩; exact ⟨[], rfl, trivial, rfl⟩)) rfl
 intro θ R hd
 obtain ⟨h10d, _⟩ := hd
 exact Opp.plain (OG.imp (OD.load rfl ti3 rfl (i := 0) rfl rfl) (by rintro _ _ ⟨rfl, rfl⟩; exact ⟨[], rfl, trivial, rfl⟩)) rfl
 intro θ R hd
 obtain ⟨h9d, h11d, _⟩ := hd
 exact Opp.plain (OG.imp (OD.rem rfl rfl rfl (by omega)) (by rintro _ _ ⟨rfl, rfl⟩; exact ⟨[], rfl, trivial, rfl⟩)) rfl
 intro θ R hd
 obtain ⟨h1d, h2d, _⟩ := hd
 exact Opp.plain (OG.imp (OD.indexAddr rfl et24 rfl (Ent.ints (i := 1) rfl) rfl (by omega)) (by rintro _ _ ⟨rfl, rfl⟩; exact ⟨[], rfl, trivial, rfl⟩)) rfl
 intro θ hall
 obtain ⟨_, _, _, _, _, _, _, _, _, _, _, _, _, _, _⟩ := hall
 refine G.at [] 0 (env' := [(4, .pointer (some ⟨g2, 0, none⟩)), (5, .pointer (some ⟨g5, 0, none⟩)), (6, .int .i64 (k % ap)), (7, .int .i64 ((i : Int))), (33, .int .i64 (((ys.getD (i) 0) * (k % ap)).tmod ap)), (34, elemPtr v3 1 (i))]) ⟨rfl, rfl, rfl, rfl, rfl, rfl, trivial⟩ (own' := box g5 41 [.int .i64 (ap), .int .i64 (ar), .int .i64 (ac), v3] :: ints 3 v3 ys :: box g2 41 [.int .i64 (0), .int .i64 (0), .int .i64 (0), .slice none 0 0] :: box g1 41 [.int .i64 (ap), .int .i64 (ar), .int .i64 (ac), vad] :: own) rfl ?_
 show G _ _ _ [_] _ _ _ _
 refine G.stepD0 (OD.storeInt rfl ti3 rfl rfl (i := 1) rfl (by omega)) rfl rfl ?_
 refine G.nil (GE.blockN (GE.then_ (GC.region ?_)))
 refine G.stepD (OD.move rfl rfl) rfl rfl rfl ?_
 refine G.stepD (OD.addI rfl rfl rfl (by first | omega | (simp only [List.length_set, List.length_replicate]; omega))) rfl rfl rfl ?_
 refine G.stepD (OD.assign rfl rfl) rfl rfl rfl ?_
 refine G.nil ?_
 exact GE.again (i + 1, ys.set i ((ys.getD i 0 * (k % ap)).tmod ap)) (⟨by omega, by rw [hg, hy]; exact mapPre_set _ (by omega)⟩) (by first | omega | (dsimp only; omega)) ⟨rfl, rfl, rfl, rfl, trivial⟩ [] 0 rfl
 replace hc6 := of_decide_eq_false hc6
 refine GC.exit (GE.pass (GE.pass (GE.hit (GE.then_ (GC.seq (GC.region ?_))))))
 refine G.stepD (OD.loadAgg rfl ti41 rfl (i := 0) rfl (us := [.int .i64 (ap), .int .i64 (ar), .int .i64 (ac), v3]) rfl rfl) rfl rfl rfl ?_
 refine G.stepD0 (OD.store rfl ti41 rfl rfl (us := [.int .i64 (ap), .int .i64 (ar), .int .i64 (ac), v3]) rfl rfl (allC rfl (allC rfl (allC rfl (allC (IsS.one hs4) rfl)))) (i := 2) rfl rfl) rfl rfl ?_
 refine G.nil (GE.then_ (GC.ret ?_))
 exact GE.body [1] 3 (resN rfl (RVs.cons (rv_cells ti41 rfl (i := 2) rfl rfl) RVs.nil) rfl) rfl (⟨v3, rfl, hs4, congrArg (fun (l0 : List Int) => ints 3 v3 l0 :: own) ((by rw [hy]; exact mapPre_all _ (by omega) : ys = ((ad : List Int)).map (fun x => (x * (k % ap)).tmod ap)))⟩)
end Go.Proofs.Ytbmnnbglipkidaa
