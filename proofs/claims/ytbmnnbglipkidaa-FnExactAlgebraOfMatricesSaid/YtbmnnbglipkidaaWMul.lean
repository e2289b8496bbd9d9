/-
  Products of matrices, and commutators: contracts by walks.
-/
import Derived.Test.YtbmnnbglipkidaaWMat
import Derived.Test.YtbmnnbglipkidaaMul
import Derived.Test.YtbmnnbglipkidaaLate
namespace Go.Proofs.Ytbmnnbglipkidaa
set_option linter.unusedVariables false
set_option linter.unusedSimpArgs false
open Go.RowKit
theorem ent21 : ∀ us w, (callFunc 21 us).run Try.prog w = .ok (.enter 21 us) w := fun us w => by kernel_rfl
theorem ent36 : ∀ us w, (callFunc 36 us).run Try.prog w = .ok (.enter 36 us) w := fun us w => by kernel_rfl
theorem ent39 : ∀ us w, (callFunc 39 us).run Try.prog w = .ok (.enter 39 us) w := fun us w => by kernel_rfl
theorem ent40 : ∀ us w, (callFunc 40 us).run Try.prog w = .ok (.enter 40 us) w := fun us w => by kernel_rfl
theorem ent41 : ∀ us w, (callFunc 41 us).run Try.prog w = .ok (.enter 41 us) w := fun us w => by kernel_rfl
theorem ent51 : ∀ us w, (callFunc 51 us).run Try.prog w = .ok (.enter 51 us) w := fun us w => by kernel_rfl
theorem ent52 : ∀ us w, (callFunc 52 us).run Try.prog w = .ok (.enter 52 us) w := fun us w => by kernel_rfl
theorem ent53 : ∀ us w, (callFunc 53 us).run Try.prog w = .ok (.enter 53 us) w := fun us w => by kernel_rfl
theorem ent57 : ∀ us w, (callFunc 57 us).run Try.prog w = .ok (.enter 57 us) w := fun us w => by kernel_rfl
set_option maxRecDepth 100000 in
theorem addToP_w {W : World} {own : List Asn} {vx : Value} {x : List Int} {l h : Nat} {k : Int} {vy : Value} {y : List Int} {p : Int}  (sx : IsS vx)   (sy : IsS vy) (ey : Ent own fun w => Ints w vy y)   (hb : l ≤ h ∧ h ≤ x.length) (hle : y.length ≤ h - l) (hl2 : x.length ≤ 1073741824) (hp : 1 ≤ p) : Spec Try.prog 53 [(subV 1 vx l h), .int .i64 (k), vy, .int .i64 (p)] W (ints 3 vx x :: own) (fun v ow => v = .tuple #[] ∧ ow = ints 3 vx (addR x l k p y) :: own) := by
 refine Spec.enter Try.f53 _ Try.func53 rfl (n := 31) rfl rfl ?_
 refine GC.seq (GC.region ?_)
 refine G.stepD (OD.move rfl rfl) rfl rfl rfl ?_
 refine G.stepD (OD.len rfl rfl et24 rfl (Ent.drop 1 ey)) rfl rfl rfl ?_
 refine G.stepD (OD.move rfl rfl) rfl rfl rfl ?_
 refine G.nil (GE.then_ (GC.block ?_))
 refine GC.loop (ι := Nat × List Int) (fun ⟨i, ys⟩ => [(0, (subV 1 vx l h)), (1, .int .i64 (k)), (3, .int .i64 (p)), (10, vy), (11, .int .i64 ((y.length : Nat))), (12, .int .i64 ((i : Int)))]) (fun ⟨i, ys⟩ => ints 3 vx ys :: own) (fun ⟨i, ys⟩ => (i ≤ y.length) ∧ (ys.length = x.length) ∧ (ys = (List.range i).foldl (fun (o : List Int) (i : Nat) => o.set (l + i) ((IntKind.i64.wrap (o.getD (l + i) 0 + IntKind.i64.wrap (k * y.getD i 0))).tmod p)) x)) (fun ⟨i, ys⟩ => y.length - i) (0, x) (⟨by omega, rfl, rfl⟩) ⟨rfl, rfl, rfl, rfl, rfl, rfl, trivial⟩ [] 0 rfl ?_
 rintro ⟨i, ys⟩ ⟨hi, hyl, hy⟩
 refine GC.seq (GC.region ?_)
 refine G.stepD (OD.lss rfl rfl rfl) rfl rfl rfl ?_
 refine G.nil (GE.then_ (GC.seq ?_))
 refine GC.cond rfl (fun hc1 => ?_) (fun hc1 => ?_)
 replace hc1 := of_decide_eq_true hc1
 refine GC.skip (GE.then_ (GC.seq (GC.block (GC.seq (GC.region ?_)))))
 refine G.stepD (OD.move rfl rfl) rfl rfl rfl ?_
 refine G.stepD (OD.indexAddr rfl et24 rfl (Ent.drop 1 ey) rfl (by omega)) rfl rfl rfl ?_
 refine G.stepD (OD.loadInt rfl ti3 rfl (Ent.drop 1 ey) (by omega)) rfl rfl rfl ?_
 refine G.stepD (OD.assign rfl rfl) rfl rfl rfl ?_
 refine G.stepD (OD.assign rfl rfl) rfl rfl rfl ?_
 refine G.nil (GE.then_ (GC.region ?_))
 refine G.stepD (OD.move rfl rfl) rfl rfl rfl ?_
 refine G.stepD (OD.move rfl rfl) rfl rfl rfl ?_
 refine G.stepD (OD.move rfl rfl) rfl rfl rfl ?_
 refine G.stepD (OD.move rfl rfl) rfl rfl rfl ?_
 refine G.stepD (OD.indexSub rfl et24 rfl (Ent.ints (i := 0) rfl) (by omega) rfl (by omega)) rfl rfl rfl ?_
 refine G.stepD (OD.loadInt rfl ti3 rfl (Ent.ints (i := 0) rfl) (by omega)) rfl rfl rfl ?_
 refine G.stepD (OD.move rfl rfl) rfl rfl rfl ?_
 refine G.stepD (OD.move rfl rfl) rfl rfl rfl ?_
 refine G.stepD (OD.mul rfl rfl rfl) rfl rfl rfl ?_
 refine G.stepD (OD.add rfl rfl rfl) rfl rfl rfl ?_
 refine G.stepD (OD.move rfl rfl) rfl rfl rfl ?_
 refine G.stepD (OD.rem rfl rfl rfl (by omega)) rfl rfl rfl ?_
 refine G.stepD (OD.indexSub rfl et24 rfl (Ent.ints (i := 0) rfl) (by omega) rfl (by omega)) rfl rfl rfl ?_
 refine G.stepD0 (OD.storeInt rfl ti3 rfl rfl (i := 0) rfl (by omega)) rfl rfl ?_
 refine G.nil (GE.blockN (GE.then_ (GC.region ?_)))
 refine G.stepD (OD.addI rfl rfl rfl (by first | omega | (simp only [List.length_set, List.length_replicate]; omega))) rfl rfl rfl ?_
 refine G.stepD (OD.move rfl rfl) rfl rfl rfl ?_
 refine G.nil ?_
 exact GE.again (i + 1, (ys).set (l + i) ((IntKind.i64.wrap ((ys.getD (l + i) 0) + (IntKind.i64.wrap (k * (y.getD (i) 0))))).tmod p)) (⟨by omega, by rw [List.length_set]; exact hyl, fold_nx hy rfl⟩) (by first | omega | (dsimp only; omega)) ⟨rfl, rfl, rfl, rfl, rfl, rfl, trivial⟩ [] 0 rfl
 replace hc1 := of_decide_eq_false hc1
 refine GC.exit (GE.pass (GE.pass (GE.hit ?_)))
 exact GE.bodyN [] 0 (res0 rfl) rfl (⟨rfl, congrArg (fun (l0 : List Int) => ints 3 vx l0 :: own) ((by rw [hy, show i = y.length by omega]; rfl : ys = addR x l k p y))⟩)
set_option maxHeartbeats 4000000 in
set_option maxRecDepth 100000 in
theorem times_w {W : World} {own : List Asn} {ap : Int} {ar : Int} {ac : Int} {vad : Value} {ad : List Int} {bp : Int} {br : Int} {bc : Int} {vbd : Value} {bd : List Int}  (sad : IsS vad) (ead : Ent own fun w => Ints w vad ad)   (sbd : IsS vbd) (ebd : Ent own fun w => Ints w vbd bd)  (hr : 0 ≤ ar ∧ ar ≤ 40) (hc : 0 ≤ ac ∧ ac ≤ 40) (hbc : 0 ≤ bc ∧ bc ≤ 40) (hal : (ad.length : Int) = ar * ac) (hbl : (bd.length : Int) = ac * bc) (hp : 1 ≤ ap ∧ ap ≤ 10007) : Spec Try.prog 52 [.agg #[.int .i64 (ap), .int .i64 (ar), .int .i64 (ac), vad], .agg #[.int .i64 (bp), .int .i64 (br), .int .i64 (bc), vbd]] W own (fun v ow => ∃ (r3 : Value), v = .agg #[.int .i64 (ap), .int .i64 (ar), .int .i64 (bc), r3] ∧ IsS r3 ∧ ow = ints 3 r3 (mulF ap ar ac bc ad bd) :: own) := by
 have hm1 := mulBd (A := 40) (B := 40) hr hbc
 have hm2 := mulBd (A := 40) (B := 40) hr hc
 have hm3 := mulBd (A := 40) (B := 40) hc hbc
 refine Spec.enter Try.f52 _ Try.func52 rfl (n := 77) rfl rfl ?_
 refine GC.seq (GC.region ?_)
 refine G.step (OG.box (cs := [.int .i64 (ap), .int .i64 (ar), .int .i64 (ac), vad]) rfl rfl rfl) rfl rfl rfl ?_
 rintro _ _ ⟨g1, rfl, rfl⟩
 refine G.step (OG.box (cs := [.int .i64 (bp), .int .i64 (br), .int .i64 (bc), vbd]) rfl rfl rfl) rfl rfl rfl ?_
 rintro _ _ ⟨g2, rfl, rfl⟩
 refine G.step (OG.alloc rfl ti41 (zs := [.int .i64 (0), .int .i64 (0), .int .i64 (0), .slice none 0 0]) rfl) rfl rfl rfl ?_
 rintro _ _ ⟨g3, rfl, rfl⟩
 refine G.nil (GE.then_ (GC.seq ?_))
 refine GC.at [] 0 (env' := [(2, .pointer (some ⟨g1, 0, none⟩)), (3, .pointer (some ⟨g2, 0, none⟩)), (4, .pointer (some ⟨g3, 0, none⟩))]) ⟨rfl, rfl, rfl, trivial⟩ rfl ?_
 refine GC.par (its := [⟨10, [], [], [], [], fun _ => .pointer (some ⟨g1, 0, none⟩), fun _ => True, fun _ => []⟩,
     ⟨11, [(0, 10)], [], [], [], fun _ => .int .i64 (ap), fun _ => True, fun _ => []⟩,
     ⟨12, [], [], [], [], fun _ => .pointer (some ⟨g1, 1, none⟩), fun _ => True, fun _ => []⟩,
     ⟨13, [(2, 12)], [], [], [], fun _ => .int .i64 (ar), fun _ => True, fun _ => []⟩,
     ⟨14, [], [], [], [], fun _ => .pointer (some ⟨g2, 2, none⟩), fun _ => True, fun _ => []⟩,
     ⟨15, [(4, 14)], [], [], [], fun _ => .int .i64 (bc), fun _ => True, fun _ => []⟩,
     ⟨16, [], [], [], [], fun _ => .pointer (some ⟨g1, 1, none⟩), fun _ => True, fun _ => []⟩,
     ⟨17, [(6, 16)], [], [], [], fun _ => .int .i64 (ar), fun _ => True, fun _ => []⟩,
     ⟨18, [], [], [], [], fun _ => .pointer (some ⟨g2, 2, none⟩), fun _ => True, fun _ => []⟩,
     ⟨19, [(8, 18)], [], [], [], fun _ => .int .i64 (bc), fun _ => True, fun _ => []⟩,
     ⟨20, [(7, 17), (9, 19)], [], [], [], fun _ => .int .i64 (ar * bc), fun _ => True, fun _ => []⟩,
     ⟨21, [(10, 20)], [], [], [11], fun ds => ((ds.getD 0 []).getD 0 undef), fun ds => IsS ((ds.getD 0 []).getD 0 undef), fun ds => [ints 3 ((ds.getD 0 []).getD 0 undef) (List.replicate (ar * bc : Int).toNat (0 : Int))]⟩,
     ⟨22, [(1, 11), (3, 13), (5, 15), (11, 21)], [11], [], [11], fun ds => .agg #[.int .i64 (ap), .int .i64 (ar), .int .i64 (bc), ((ds.getD 0 []).getD 0 undef)], fun _ => True, fun _ => []⟩,
     ⟨5, [], [], [], [13], fun ds => .pointer (some ⟨(gOf ((ds.getD 0 []).getD 0 undef)), 0, none⟩), fun _ => True, fun ds => [box (gOf ((ds.getD 0 []).getD 0 undef)) 41 [.int .i64 (0), .int .i64 (0), .int .i64 (0), .slice none 0 0]]⟩]) (by kernel_rfl) (by kernel_rfl) (POps.cons ?_ (POps.cons ?_ (POps.cons ?_ (POps.cons ?_ (POps.cons ?_ (POps.cons ?_ (POps.cons ?_ (POps.cons ?_ (POps.cons ?_ (POps.cons ?_ (POps.cons ?_ (POps.cons ?_ (POps.cons ?_ (POps.cons ?_ POps.nil)))))))))))))) ?_
 intro θ R hd
 exact Opp.plain (OG.imp (OD.fieldAddr rfl rfl fa41_0) (by rintro _ _ ⟨rfl, rfl⟩; exact ⟨[], rfl, trivial, rfl⟩)) rfl
 intro θ R hd
 obtain ⟨h0d, _⟩ := hd
 exact Opp.plain (OG.imp (OD.load rfl ti3 rfl (i := 2) rfl rfl) (by rintro _ _ ⟨rfl, rfl⟩; exact ⟨[], rfl, trivial, rfl⟩)) rfl
 intro θ R hd
 exact Opp.plain (OG.imp (OD.fieldAddr rfl rfl fa41_1) (by rintro _ _ ⟨rfl, rfl⟩; exact ⟨[], rfl, trivial, rfl⟩)) rfl
 intro θ R hd
 obtain ⟨h2d, _⟩ := hd
 exact Opp.plain (OG.imp (OD.load rfl ti3 rfl (i := 2) rfl rfl) (by rintro _ _ ⟨rfl, rfl⟩; exact ⟨[], rfl, trivial, rfl⟩)) rfl
 intro θ R hd
 exact Opp.plain (OG.imp (OD.fieldAddr rfl rfl fa41_2) (by rintro _ _ ⟨rfl, rfl⟩; exact ⟨[], rfl, trivial, rfl⟩)) rfl
 intro θ R hd
 obtain ⟨h4d, _⟩ := hd
 exact Opp.plain (OG.imp (OD.load rfl ti3 rfl (i := 1) rfl rfl) (by rintro _ _ ⟨rfl, rfl⟩; exact ⟨[], rfl, trivial, rfl⟩)) rfl
 intro θ R hd
 exact Opp.plain (OG.imp (OD.fieldAddr rfl rfl fa41_1) (by rintro _ _ ⟨rfl, rfl⟩; exact ⟨[], rfl, trivial, rfl⟩)) rfl
 intro θ R hd
 obtain ⟨h6d, _⟩ := hd
 exact Opp.plain (OG.imp (OD.load rfl ti3 rfl (i := 2) rfl rfl) (by rintro _ _ ⟨rfl, rfl⟩; exact ⟨[], rfl, trivial, rfl⟩)) rfl
 intro θ R hd
 exact Opp.plain (OG.imp (OD.fieldAddr rfl rfl fa41_2) (by rintro _ _ ⟨rfl, rfl⟩; exact ⟨[], rfl, trivial, rfl⟩)) rfl
 intro θ R hd
 obtain ⟨h8d, _⟩ := hd
 exact Opp.plain (OG.imp (OD.load rfl ti3 rfl (i := 1) rfl rfl) (by rintro _ _ ⟨rfl, rfl⟩; exact ⟨[], rfl, trivial, rfl⟩)) rfl
 intro θ R hd
 obtain ⟨h7d, h9d, _⟩ := hd
 exact Opp.plain (OG.imp (OD.mulI rfl rfl rfl (by omega)) (by rintro _ _ ⟨rfl, rfl⟩; exact ⟨[], rfl, trivial, rfl⟩)) rfl
 intro θ R hd
 obtain ⟨h10d, _⟩ := hd
 exact Opp.plain (OG.imp (OG.makeInts rfl et24 rfl rfl (by omega)) (by rintro v4 _ ⟨hs5, rfl⟩; exact ⟨[v4], rfl, hs5, rfl⟩)) rfl
 intro θ R hd
 obtain ⟨h1d, h3d, h5d, h11d, _⟩ := hd
 exact Opp.plain (OG.imp (OD.build (idx := [0, 1, 2, 3]) (xs := [.tmp 11, .tmp 13, .tmp 15, .tmp 21]) (vs := [.int .i64 (ap), .int .i64 (ar), .int .i64 (bc), ((θ 11).getD 0 undef)]) (cs := [[.int .i64 (ap)], [.int .i64 (ar)], [.int .i64 (bc)], [((θ 11).getD 0 undef)]]) (zs := [.int .i64 (0), .int .i64 (0), .int .i64 (0), .slice none 0 0]) (r := [.int .i64 (ap), .int .i64 (ar), .int .i64 (bc), ((θ 11).getD 0 undef)]) rfl ti41 rfl rfl rfl ⟨rfl, ⟨rfl, ⟨rfl, ⟨(one_cells (IsS.one h11d)), trivial⟩⟩⟩⟩ rfl) (by rintro _ _ ⟨rfl, rfl⟩; exact ⟨[], rfl, trivial, rfl⟩)) rfl
 intro θ R hd
 exact Opp.plain (OG.imp (OG.alloc rfl ti41 (zs := [.int .i64 (0), .int .i64 (0), .int .i64 (0), .slice none 0 0]) rfl) (by rintro _ _ ⟨g6, rfl, rfl⟩; exact ⟨[.pointer (some ⟨g6, 0, none⟩)], rfl, trivial, rfl⟩)) rfl
 intro θ hall
 obtain ⟨_, _, _, _, _, _, _, _, _, _, _, h11a, _, h13a, _⟩ := hall
 refine G.at [] 0 (env' := [(2, .pointer (some ⟨g1, 0, none⟩)), (3, .pointer (some ⟨g2, 0, none⟩)), (4, .pointer (some ⟨g3, 0, none⟩)), (22, .agg #[.int .i64 (ap), .int .i64 (ar), .int .i64 (bc), ((θ 11).getD 0 undef)]), (5, .pointer (some ⟨(gOf ((θ 13).getD 0 undef)), 0, none⟩))]) ⟨rfl, rfl, rfl, rfl, rfl, trivial⟩ (own' := ints 3 ((θ 11).getD 0 undef) (List.replicate (ar * bc : Int).toNat (0 : Int)) :: box (gOf ((θ 13).getD 0 undef)) 41 [.int .i64 (0), .int .i64 (0), .int .i64 (0), .slice none 0 0] :: box g3 41 [.int .i64 (0), .int .i64 (0), .int .i64 (0), .slice none 0 0] :: box g2 41 [.int .i64 (bp), .int .i64 (br), .int .i64 (bc), vbd] :: box g1 41 [.int .i64 (ap), .int .i64 (ar), .int .i64 (ac), vad] :: own) rfl ?_
 have hs7 : IsS ((θ 11).getD 0 undef) := h11a
 clear h11a
 generalize ((θ 11).getD 0 undef) = v8 at *
 clear h13a
 generalize (gOf ((θ 13).getD 0 undef)) = b9 at *
 show G _ _ _ [_] _ _ _ _
 refine G.stepD0 (OD.store rfl ti41 rfl rfl (us := [.int .i64 (ap), .int .i64 (ar), .int .i64 (bc), v8]) rfl rfl (allC rfl (allC rfl (allC rfl (allC (IsS.one hs7) rfl)))) (i := 1) rfl rfl) rfl rfl ?_
 refine G.nil (GE.then_ (GC.seq (GC.seq (GC.region ?_))))
 refine G.stepD (OD.fieldAddr rfl rfl fa41_1) rfl rfl rfl ?_
 refine G.stepD (OD.load rfl ti3 rfl (i := 4) rfl rfl) rfl rfl rfl ?_
 refine G.stepD (OD.move rfl rfl) rfl rfl rfl ?_
 refine G.nil (GE.then_ (GC.block ?_))
 refine GC.loop (ι := Nat × List Int) (fun ⟨i, ys⟩ => [(2, .pointer (some ⟨g1, 0, none⟩)), (3, .pointer (some ⟨g2, 0, none⟩)), (4, .pointer (some ⟨g3, 0, none⟩)), (5, .pointer (some ⟨b9, 0, none⟩)), (24, .int .i64 (ar)), (25, .int .i64 ((i : Int)))]) (fun ⟨i, ys⟩ => ints 3 v8 ys :: box b9 41 [.int .i64 (ap), .int .i64 (ar), .int .i64 (bc), v8] :: box g3 41 [.int .i64 (0), .int .i64 (0), .int .i64 (0), .slice none 0 0] :: box g2 41 [.int .i64 (bp), .int .i64 (br), .int .i64 (bc), vbd] :: box g1 41 [.int .i64 (ap), .int .i64 (ar), .int .i64 (ac), vad] :: own) (fun ⟨i, ys⟩ => ((i : Int) ≤ ar) ∧ (ys.length = (ar * bc).toNat) ∧ (ys = (List.range i).foldl (fun (o : List Int) (i : Nat) => mulRow ap ac bc ad bd i o) (List.replicate (ar * bc).toNat 0))) (fun ⟨i, ys⟩ => ar.toNat - i) (0, List.replicate (ar * bc : Int).toNat (0 : Int)) (⟨by omega, by simp, rfl⟩) ⟨rfl, rfl, rfl, rfl, rfl, rfl, trivial⟩ [] 0 rfl ?_
 rintro ⟨i, ys⟩ ⟨hi, hyl, hy⟩
 refine GC.seq (GC.region ?_)
 refine G.stepD (OD.lss rfl rfl rfl) rfl rfl rfl ?_
 refine G.nil (GE.then_ (GC.seq ?_))
 refine GC.cond rfl (fun hc10 => ?_) (fun hc10 => ?_)
 replace hc10 := of_decide_eq_true hc10
 obtain ⟨hp1, hp2, hp3⟩ := part_bd (n := ar) (c := bc) (i := i) (by omega) (by omega)
 obtain ⟨hq1, hq2, hq3⟩ := part_bd (n := ar) (c := ac) (i := i) (by omega) (by omega)
 refine GC.skip (GE.then_ (GC.seq (GC.block (GC.seq (GC.region ?_)))))
 refine G.stepD (OD.move rfl rfl) rfl rfl rfl ?_
 refine G.stepD (OD.assign rfl rfl) rfl rfl rfl ?_
 refine G.nil (GE.then_ (GC.seq (GC.region ?_)))
 refine G.stepD (OD.fieldAddr rfl rfl fa41_3) rfl rfl rfl ?_
 refine G.stepD (OD.load rfl ti24 rfl (i := 1) rfl rfl) rfl rfl rfl ?_
 refine G.stepD (OD.move rfl rfl) rfl rfl rfl ?_
 refine G.stepD (OD.fieldAddr rfl rfl fa41_2) rfl rfl rfl ?_
 refine G.stepD (OD.load rfl ti3 rfl (i := 3) rfl rfl) rfl rfl rfl ?_
 refine G.stepD (OD.mulI rfl rfl rfl (by omega)) rfl rfl rfl ?_
 refine G.stepD (OD.move rfl rfl) rfl rfl rfl ?_
 refine G.stepD (OD.addI rfl rfl rfl (by omega)) rfl rfl rfl ?_
 refine G.stepD (OD.fieldAddr rfl rfl fa41_2) rfl rfl rfl ?_
 refine G.stepD (OD.load rfl ti3 rfl (i := 3) rfl rfl) rfl rfl rfl ?_
 refine G.stepD (OD.mulI rfl rfl rfl (by omega)) rfl rfl rfl ?_
 refine G.stepD (OD.sliceSl rfl et24 rfl rfl rfl (Ent.ints (i := 0) rfl) (by omega)) rfl rfl rfl ?_
 refine G.stepD (OD.assign rfl rfl) rfl rfl rfl ?_
 refine G.nil (GE.then_ (GC.seq (GC.region ?_)))
 refine G.stepD (OD.fieldAddr rfl rfl fa41_2) rfl rfl rfl ?_
 refine G.stepD (OD.load rfl ti3 rfl (i := 4) rfl rfl) rfl rfl rfl ?_
 refine G.stepD (OD.move rfl rfl) rfl rfl rfl ?_
 refine G.nil (GE.then_ (GC.block ?_))
 refine GC.loop (ι := Nat × List Int) (fun ⟨k, zs⟩ => [(2, .pointer (some ⟨g1, 0, none⟩)), (3, .pointer (some ⟨g2, 0, none⟩)), (4, .pointer (some ⟨g3, 0, none⟩)), (5, .pointer (some ⟨b9, 0, none⟩)), (24, .int .i64 (ar)), (25, .int .i64 ((i : Int))), (6, .int .i64 ((i : Int))), (7, (subV 1 v8 (((i : Int) * bc : Int).toNat) ((((i : Int) + 1) * bc : Int).toNat))), (41, .int .i64 (ac)), (42, .int .i64 ((k : Int)))]) (fun ⟨k, zs⟩ => ints 3 v8 zs :: box b9 41 [.int .i64 (ap), .int .i64 (ar), .int .i64 (bc), v8] :: box g3 41 [.int .i64 (0), .int .i64 (0), .int .i64 (0), .slice none 0 0] :: box g2 41 [.int .i64 (bp), .int .i64 (br), .int .i64 (bc), vbd] :: box g1 41 [.int .i64 (ap), .int .i64 (ar), .int .i64 (ac), vad] :: own) (fun ⟨k, zs⟩ => ((k : Int) ≤ ac) ∧ (zs.length = (ar * bc).toNat) ∧ (zs = (List.range k).foldl (mulE ap ac bc ad bd i) ys)) (fun ⟨k, zs⟩ => ac.toNat - k) (0, ys) (⟨by omega, hyl, rfl⟩) ⟨rfl, rfl, rfl, rfl, rfl, rfl, rfl, rfl, rfl, rfl, trivial⟩ [] 0 rfl ?_
 rintro ⟨k, zs⟩ ⟨hk, hzl, hz⟩
 refine GC.seq (GC.region ?_)
 refine G.stepD (OD.lss rfl rfl rfl) rfl rfl rfl ?_
 refine G.nil (GE.then_ (GC.seq ?_))
 refine GC.cond rfl (fun hc11 => ?_) (fun hc11 => ?_)
 replace hc11 := of_decide_eq_true hc11
 obtain ⟨hr1, hr2, hr3⟩ := part_bd (n := ac) (c := bc) (i := k) (by omega) (by omega)
 refine GC.skip (GE.then_ (GC.seq (GC.block (GC.seq (GC.region ?_)))))
 refine G.stepD (OD.move rfl rfl) rfl rfl rfl ?_
 refine G.stepD (OD.assign rfl rfl) rfl rfl rfl ?_
 refine G.nil (GE.then_ (GC.seq (GC.region ?_)))
 refine G.stepD (OD.fieldAddr rfl rfl fa41_3) rfl rfl rfl ?_
 refine G.stepD (OD.load rfl ti24 rfl (i := 4) rfl rfl) rfl rfl rfl ?_
 refine G.stepD (OD.move rfl rfl) rfl rfl rfl ?_
 refine G.stepD (OD.fieldAddr rfl rfl fa41_2) rfl rfl rfl ?_
 refine G.stepD (OD.load rfl ti3 rfl (i := 4) rfl rfl) rfl rfl rfl ?_
 refine G.stepD (OD.mulI rfl rfl rfl (by omega)) rfl rfl rfl ?_
 refine G.stepD (OD.move rfl rfl) rfl rfl rfl ?_
 refine G.stepD (OD.addI rfl rfl rfl (by omega)) rfl rfl rfl ?_
 refine G.stepD (OD.indexAddr rfl et24 rfl (Ent.drop 5 ead) rfl (by omega)) rfl rfl rfl ?_
 refine G.stepD (OD.loadInt rfl ti3 rfl (Ent.drop 5 ead) (by omega)) rfl rfl rfl ?_
 refine G.stepD (OD.assign rfl rfl) rfl rfl rfl ?_
 refine G.nil (GE.then_ (GC.seq (GC.region ?_)))
 refine G.stepD (OD.move rfl rfl) rfl rfl rfl ?_
 refine G.stepD (OD.neq rfl rfl rfl) rfl rfl rfl ?_
 refine G.nil (GE.then_ ?_)
 refine GC.cond rfl (fun hc12 => ?_) (fun hc12 => ?_)
 replace hc12 := ne_of_bne hc12
 refine GC.at [] 0 (env' := [(2, .pointer (some ⟨g1, 0, none⟩)), (3, .pointer (some ⟨g2, 0, none⟩)), (4, .pointer (some ⟨g3, 0, none⟩)), (5, .pointer (some ⟨b9, 0, none⟩)), (24, .int .i64 (ar)), (25, .int .i64 ((i : Int))), (6, .int .i64 ((i : Int))), (7, (subV 1 v8 (((i : Int) * bc : Int).toNat) ((((i : Int) + 1) * bc : Int).toNat))), (41, .int .i64 (ac)), (42, .int .i64 ((k : Int))), (8, .int .i64 ((k : Int))), (9, .int .i64 (ad.getD ((((i : Int) * ac) + (k : Int) : Int).toNat) 0))]) ⟨rfl, rfl, rfl, rfl, rfl, rfl, rfl, rfl, rfl, rfl, rfl, rfl, trivial⟩ rfl ?_
 refine GC.par (its := [⟨57, [], [], [], [], fun _ => (subV 1 v8 (((i : Int) * bc : Int).toNat) ((((i : Int) + 1) * bc : Int).toNat)), fun _ => True, fun _ => []⟩,
     ⟨58, [], [], [], [], fun _ => .int .i64 (ad.getD ((((i : Int) * ac) + (k : Int) : Int).toNat) 0), fun _ => True, fun _ => []⟩,
     ⟨59, [], [], [], [], fun _ => .pointer (some ⟨g2, 3, none⟩), fun _ => True, fun _ => []⟩,
     ⟨60, [(2, 59)], [], [], [], fun _ => vbd, fun _ => True, fun _ => []⟩,
     ⟨61, [], [], [], [], fun _ => .int .i64 ((k : Int)), fun _ => True, fun _ => []⟩,
     ⟨62, [], [], [], [], fun _ => .pointer (some ⟨g2, 2, none⟩), fun _ => True, fun _ => []⟩,
     ⟨63, [(5, 62)], [], [], [], fun _ => .int .i64 (bc), fun _ => True, fun _ => []⟩,
     ⟨64, [(4, 61), (6, 63)], [], [], [], fun _ => .int .i64 ((k : Int) * bc), fun _ => True, fun _ => []⟩,
     ⟨65, [], [], [], [], fun _ => .int .i64 ((k : Int)), fun _ => True, fun _ => []⟩,
     ⟨66, [(8, 65)], [], [], [], fun _ => .int .i64 ((k : Int) + 1), fun _ => True, fun _ => []⟩,
     ⟨67, [], [], [], [], fun _ => .pointer (some ⟨g2, 2, none⟩), fun _ => True, fun _ => []⟩,
     ⟨68, [(10, 67)], [], [], [], fun _ => .int .i64 (bc), fun _ => True, fun _ => []⟩,
     ⟨69, [(9, 66), (11, 68)], [], [], [], fun _ => .int .i64 (((k : Int) + 1) * bc), fun _ => True, fun _ => []⟩,
     ⟨70, [(3, 60), (7, 64), (12, 69)], [], [], [], fun _ => (subV 1 vbd (((k : Int) * bc : Int).toNat) ((((k : Int) + 1) * bc : Int).toNat)), fun _ => True, fun _ => []⟩,
     ⟨71, [], [], [], [], fun _ => .pointer (some ⟨g1, 0, none⟩), fun _ => True, fun _ => []⟩,
     ⟨72, [(14, 71)], [], [], [], fun _ => .int .i64 (ap), fun _ => True, fun _ => []⟩]) (by kernel_rfl) (by kernel_rfl) (POps.cons ?_ (POps.cons ?_ (POps.cons ?_ (POps.cons ?_ (POps.cons ?_ (POps.cons ?_ (POps.cons ?_ (POps.cons ?_ (POps.cons ?_ (POps.cons ?_ (POps.cons ?_ (POps.cons ?_ (POps.cons ?_ (POps.cons ?_ (POps.cons ?_ (POps.cons ?_ POps.nil)))))))))))))))) ?_
 intro θ R hd
 exact Opp.plain (OG.imp (OD.move rfl rfl) (by rintro _ _ ⟨rfl, rfl⟩; exact ⟨[], rfl, trivial, rfl⟩)) rfl
 intro θ R hd
 exact Opp.plain (OG.imp (OD.move rfl rfl) (by rintro _ _ ⟨rfl, rfl⟩; exact ⟨[], rfl, trivial, rfl⟩)) rfl
 intro θ R hd
 exact Opp.plain (OG.imp (OD.fieldAddr rfl rfl fa41_3) (by rintro _ _ ⟨rfl, rfl⟩; exact ⟨[], rfl, trivial, rfl⟩)) rfl
 intro θ R hd
 obtain ⟨h2d, _⟩ := hd
 exact Opp.plain (OG.imp (OD.load rfl ti24 rfl (i := 3) rfl rfl) (by rintro _ _ ⟨rfl, rfl⟩; exact ⟨[], rfl, trivial, rfl⟩)) rfl
 intro θ R hd
 exact Opp.plain (OG.imp (OD.move rfl rfl) (by rintro _ _ ⟨rfl, rfl⟩; exact ⟨[], rfl, trivial, rfl⟩)) rfl
 intro θ R hd
 exact Opp.plain (OG.imp (OD.fieldAddr rfl rfl fa41_2) (by rintro _ _ ⟨rfl, rfl⟩; exact ⟨[], rfl, trivial, rfl⟩)) rfl
 intro θ R hd
 obtain ⟨h5d, _⟩ := hd
 exact Opp.plain (OG.imp (OD.load rfl ti3 rfl (i := 3) rfl rfl) (by rintro _ _ ⟨rfl, rfl⟩; exact ⟨[], rfl, trivial, rfl⟩)) rfl
 intro θ R hd
 obtain ⟨h4d, h6d, _⟩ := hd
 exact Opp.plain (OG.imp (OD.mulI rfl rfl rfl (by omega)) (by rintro _ _ ⟨rfl, rfl⟩; exact ⟨[], rfl, trivial, rfl⟩)) rfl
 intro θ R hd
 exact Opp.plain (OG.imp (OD.move rfl rfl) (by rintro _ _ ⟨rfl, rfl⟩; exact ⟨[], rfl, trivial, rfl⟩)) rfl
 intro θ R hd
 obtain ⟨h8d, _⟩ := hd
 exact Opp.plain (OG.imp (OD.addI rfl rfl rfl (by omega)) (by rintro _ _ ⟨rfl, rfl⟩; exact ⟨[], rfl, trivial, rfl⟩)) rfl
 intro θ R hd
 exact Opp.plain (OG.imp (OD.fieldAddr rfl rfl fa41_2) (by rintro _ _ ⟨rfl, rfl⟩; exact ⟨[], rfl, trivial, rfl⟩)) rfl
 intro θ R hd
 obtain ⟨h10d, _⟩ := hd
 exact Opp.plain (OG.imp (OD.load rfl ti3 rfl (i := 3) rfl rfl) (by rintro _ _ ⟨rfl, rfl⟩; exact ⟨[], rfl, trivial, rfl⟩)) rfl
 intro θ R hd
 obtain ⟨h9d, h11d, _⟩ := hd
 exact Opp.plain (OG.imp (OD.mulI rfl rfl rfl (by omega)) (by rintro _ _ ⟨rfl, rfl⟩; exact ⟨[], rfl, trivial, rfl⟩)) rfl
 intro θ R hd
 obtain ⟨h3d, h7d, h12d, _⟩ := hd
 exact Opp.plain (OG.imp (OD.sliceSl rfl et24 rfl rfl rfl (Ent.drop 5 ebd.app) (by omega)) (by rintro _ _ ⟨rfl, rfl⟩; exact ⟨[], rfl, trivial, rfl⟩)) rfl
 intro θ R hd
 exact Opp.plain (OG.imp (OD.fieldAddr rfl rfl fa41_0) (by rintro _ _ ⟨rfl, rfl⟩; exact ⟨[], rfl, trivial, rfl⟩)) rfl
 intro θ R hd
 obtain ⟨h14d, _⟩ := hd
 exact Opp.plain (OG.imp (OD.load rfl ti3 rfl (i := 4) rfl rfl) (by rintro _ _ ⟨rfl, rfl⟩; exact ⟨[], rfl, trivial, rfl⟩)) rfl
 intro θ hall
 obtain ⟨_, _, _, _, _, _, _, _, _, _, _, _, _, _, _, _, _⟩ := hall
 refine G.at [] 0 (env' := [(2, .pointer (some ⟨g1, 0, none⟩)), (3, .pointer (some ⟨g2, 0, none⟩)), (4, .pointer (some ⟨g3, 0, none⟩)), (5, .pointer (some ⟨b9, 0, none⟩)), (24, .int .i64 (ar)), (25, .int .i64 ((i : Int))), (6, .int .i64 ((i : Int))), (7, (subV 1 v8 (((i : Int) * bc : Int).toNat) ((((i : Int) + 1) * bc : Int).toNat))), (41, .int .i64 (ac)), (42, .int .i64 ((k : Int))), (57, (subV 1 v8 (((i : Int) * bc : Int).toNat) ((((i : Int) + 1) * bc : Int).toNat))), (58, .int .i64 (ad.getD ((((i : Int) * ac) + (k : Int) : Int).toNat) 0)), (70, (subV 1 vbd (((k : Int) * bc : Int).toNat) ((((k : Int) + 1) * bc : Int).toNat))), (72, .int .i64 (ap))]) ⟨rfl, rfl, rfl, rfl, rfl, rfl, rfl, rfl, rfl, rfl, rfl, rfl, rfl, rfl, trivial⟩ (own' := ints 3 v8 zs :: box b9 41 [.int .i64 (ap), .int .i64 (ar), .int .i64 (bc), v8] :: box g3 41 [.int .i64 (0), .int .i64 (0), .int .i64 (0), .slice none 0 0] :: box g2 41 [.int .i64 (bp), .int .i64 (br), .int .i64 (bc), vbd] :: box g1 41 [.int .i64 (ap), .int .i64 (ar), .int .i64 (ac), vad] :: own) rfl ?_
 show G _ _ _ [_] _ _ _ _
 refine G.step (OG.call [(subV 1 v8 (((i : Int) * bc : Int).toNat) ((((i : Int) + 1) * bc : Int).toNat)), .int .i64 (ad.getD ((((i : Int) * ac) + (k : Int) : Int).toNat) 0), (subV 1 vbd (((k : Int) * bc : Int).toNat) ((((k : Int) + 1) * bc : Int).toNat)), .int .i64 (ap)] ent53 rfl rfl rfl rfl (by exact (addToP_w hs7 (subV_isS sbd) (Ent.subInts (Ent.drop 4 ebd) (by omega)) (by omega) (Nat.le_trans (rowY_len (c := bc) (bd := bd) (k := k) (by omega)) (by omega)) (by omega) (by omega)))) rfl rfl rfl ?_
 rintro _ _ ⟨rfl, rfl⟩
 refine G.nil (GE.blockN (GE.then_ (GC.region ?_)))
 refine G.stepD (OD.addI rfl rfl rfl (by omega)) rfl rfl rfl ?_
 refine G.stepD (OD.move rfl rfl) rfl rfl rfl ?_
 refine G.nil ?_
 exact GE.again (k + 1, addR zs (((i : Int) * bc : Int).toNat) (ad.getD ((((i : Int) * ac) + (k : Int) : Int).toNat) 0) ap ((bd.drop (((k : Int) * bc : Int).toNat)).take ((((k : Int) + 1) * bc : Int).toNat - ((k : Int) * bc : Int).toNat))) (⟨by omega, by rw [addR_len]; exact hzl, fold_nx hz (by rw [mulE, if_neg (by assumption)]; rfl)⟩) (by first | omega | (dsimp only; omega)) ⟨rfl, rfl, rfl, rfl, rfl, rfl, rfl, rfl, rfl, rfl, trivial⟩ [] 0 rfl
 replace hc12 := eq_of_bne_false hc12
 refine GC.skip (GE.blockN (GE.then_ (GC.region ?_)))
 refine G.stepD (OD.addI rfl rfl rfl (by omega)) rfl rfl rfl ?_
 refine G.stepD (OD.move rfl rfl) rfl rfl rfl ?_
 refine G.nil ?_
 exact GE.again (k + 1, zs) (⟨by omega, hzl, fold_nx hz (by rw [mulE, if_pos (by assumption)])⟩) (by first | omega | (dsimp only; omega)) ⟨rfl, rfl, rfl, rfl, rfl, rfl, rfl, rfl, rfl, rfl, trivial⟩ [] 0 rfl
 replace hc11 := of_decide_eq_false hc11
 refine GC.exit (GE.pass (GE.pass (GE.hit (GE.blockN (GE.then_ (GC.region ?_))))))
 refine G.stepD (OD.addI rfl rfl rfl (by omega)) rfl rfl rfl ?_
 refine G.stepD (OD.move rfl rfl) rfl rfl rfl ?_
 refine G.nil ?_
 exact GE.again (i + 1, zs) (⟨by omega, hzl, fold_nx hy (by rw [hz, show k = ac.toNat by omega]; rfl)⟩) (by first | omega | (dsimp only; omega)) ⟨rfl, rfl, rfl, rfl, rfl, rfl, trivial⟩ [] 0 rfl
 replace hc10 := of_decide_eq_false hc10
 refine GC.exit (GE.pass (GE.pass (GE.hit (GE.then_ (GC.seq (GC.region ?_))))))
 refine G.stepD (OD.loadAgg rfl ti41 rfl (i := 1) rfl (us := [.int .i64 (ap), .int .i64 (ar), .int .i64 (bc), v8]) rfl rfl) rfl rfl rfl ?_
 refine G.stepD0 (OD.store rfl ti41 rfl rfl (us := [.int .i64 (ap), .int .i64 (ar), .int .i64 (bc), v8]) rfl rfl (allC rfl (allC rfl (allC rfl (allC (IsS.one hs7) rfl)))) (i := 2) rfl rfl) rfl rfl ?_
 refine G.nil (GE.then_ (GC.ret ?_))
 exact GE.body [0] 4 (resN rfl (RVs.cons (rv_cells ti41 rfl (i := 2) rfl rfl) RVs.nil) rfl) rfl (⟨v8, rfl, hs7, congrArg (fun (l0 : List Int) => ints 3 v8 l0 :: own) ((by rw [hy, show i = ar.toNat by omega]; rfl : ys = mulF ap ar ac bc ad bd))⟩)
set_option maxRecDepth 100000 in
theorem l1Zero_w {W : World} {own : List Asn} {p : Int} {r : Int} {c : Int}   (hm : 0 ≤ r * c ∧ r * c ≤ 1600) : Spec Try.prog 57 [.int .i64 (p), .int .i64 (r), .int .i64 (c)] W own (fun v ow => ∃ (r3 : Value), v = .agg #[.int .i64 (p), .int .i64 (r), .int .i64 (c), r3] ∧ IsS r3 ∧ ow = ints 3 r3 (List.replicate ((r : Int) * c).toNat 0) :: own) := by
 refine Spec.enter Try.f57 _ Try.func57 rfl (n := 15) rfl rfl ?_
 refine GC.seq (GC.region ?_)
 refine G.step (OG.alloc rfl ti41 (zs := [.int .i64 (0), .int .i64 (0), .int .i64 (0), .slice none 0 0]) rfl) rfl rfl rfl ?_
 rintro _ _ ⟨g1, rfl, rfl⟩
 refine G.nil (GE.then_ (GC.seq (GC.region ?_)))
 refine G.stepD (OD.move rfl rfl) rfl rfl rfl ?_
 refine G.stepD (OD.move rfl rfl) rfl rfl rfl ?_
 refine G.stepD (OD.move rfl rfl) rfl rfl rfl ?_
 refine G.stepD (OD.move rfl rfl) rfl rfl rfl ?_
 refine G.stepD (OD.move rfl rfl) rfl rfl rfl ?_
 refine G.stepD (OD.mulI rfl rfl rfl (by omega)) rfl rfl rfl ?_
 refine G.step (OG.makeInts rfl et24 rfl rfl (by omega)) rfl rfl rfl ?_
 rintro v2 _ ⟨hs3, rfl⟩
 refine G.stepD (OD.build (idx := [0, 1, 2, 3]) (xs := [.tmp 7, .tmp 8, .tmp 9, .tmp 13]) (vs := [.int .i64 (p), .int .i64 (r), .int .i64 (c), v2]) (cs := [[.int .i64 (p)], [.int .i64 (r)], [.int .i64 (c)], [v2]]) (zs := [.int .i64 (0), .int .i64 (0), .int .i64 (0), .slice none 0 0]) (r := [.int .i64 (p), .int .i64 (r), .int .i64 (c), v2]) rfl ti41 rfl rfl rfl ⟨rfl, ⟨rfl, ⟨rfl, ⟨(one_cells (IsS.one hs3)), trivial⟩⟩⟩⟩ rfl) rfl rfl rfl ?_
 refine G.stepD0 (OD.store rfl ti41 rfl rfl (us := [.int .i64 (p), .int .i64 (r), .int .i64 (c), v2]) rfl rfl (allC rfl (allC rfl (allC rfl (allC (IsS.one hs3) rfl)))) (i := 1) rfl rfl) rfl rfl ?_
 refine G.nil (GE.then_ (GC.ret ?_))
 exact GE.body [0] 1 (resN rfl (RVs.cons (rv_cells ti41 rfl (i := 1) rfl rfl) RVs.nil) rfl) rfl (⟨v2, rfl, hs3, rfl⟩)
set_option maxRecDepth 100000 in
theorem l1At_w {W : World} {own : List Asn} {mp : Int} {mr : Int} {mc : Int} {vmd : Value} {md : List Int} {i : Int} {j : Int}  (smd : IsS vmd) (emd : Ent own fun w => Ints w vmd md)   (hi : 0 ≤ i * mc ∧ i * mc ≤ 1600) (hj : 0 ≤ j ∧ j ≤ 40) (hlt : i * mc + j < md.length) : Spec Try.prog 36 [.agg #[.int .i64 (mp), .int .i64 (mr), .int .i64 (mc), vmd], .int .i64 (i), .int .i64 (j)] W own (fun v ow => v = .int .i64 (md.getD (i * mc + j : Int).toNat 0) ∧ ow = own) := by
 refine Spec.enter Try.f36 _ Try.func36 rfl (n := 17) rfl rfl ?_
 refine GC.seq (GC.region ?_)
 refine G.step (OG.box (cs := [.int .i64 (mp), .int .i64 (mr), .int .i64 (mc), vmd]) rfl rfl rfl) rfl rfl rfl ?_
 rintro _ _ ⟨g1, rfl, rfl⟩
 refine G.stepD (OD.assign rfl rfl) rfl rfl rfl ?_
 refine G.nil (GE.then_ (GC.seq (GC.region ?_)))
 refine G.stepD (OD.fieldAddr rfl rfl fa41_3) rfl rfl rfl ?_
 refine G.stepD (OD.load rfl ti24 rfl (i := 0) rfl rfl) rfl rfl rfl ?_
 refine G.stepD (OD.move rfl rfl) rfl rfl rfl ?_
 refine G.stepD (OD.fieldAddr rfl rfl fa41_2) rfl rfl rfl ?_
 refine G.stepD (OD.load rfl ti3 rfl (i := 0) rfl rfl) rfl rfl rfl ?_
 refine G.stepD (OD.mulI rfl rfl rfl (by omega)) rfl rfl rfl ?_
 refine G.stepD (OD.move rfl rfl) rfl rfl rfl ?_
 refine G.stepD (OD.addI rfl rfl rfl (by omega)) rfl rfl rfl ?_
 refine G.stepD (OD.indexAddr rfl et24 rfl (Ent.drop 1 emd) rfl (by omega)) rfl rfl rfl ?_
 refine G.stepD (OD.loadInt rfl ti3 rfl (Ent.drop 1 emd) (by omega)) rfl rfl rfl ?_
 refine G.stepD (OD.assign rfl rfl) rfl rfl rfl ?_
 refine G.nil (GE.then_ (GC.ret ?_))
 exact GE.body [] 1 (res1 rfl rfl) rfl (⟨rfl, rfl⟩)
set_option maxHeartbeats 4000000 in
set_option maxRecDepth 100000 in
theorem l1Mul_w {W : World} {own : List Asn} {ap : Int} {ar : Int} {ac : Int} {vad : Value} {ad : List Int} {bp : Int} {br : Int} {bc : Int} {vbd : Value} {bd : List Int}  (sad : IsS vad) (ead : Ent own fun w => Ints w vad ad)   (sbd : IsS vbd) (ebd : Ent own fun w => Ints w vbd bd)  (hr : 0 ≤ ar ∧ ar ≤ 40) (hc : 0 ≤ ac ∧ ac ≤ 40) (hbc : 0 ≤ bc ∧ bc ≤ 40) (hal : (ad.length : Int) = ar * ac) (hbl : (bd.length : Int) = ac * bc) (hp : 1 ≤ ap ∧ ap ≤ 10007) : Spec Try.prog 40 [.agg #[.int .i64 (ap), .int .i64 (ar), .int .i64 (ac), vad], .agg #[.int .i64 (bp), .int .i64 (br), .int .i64 (bc), vbd]] W own (fun v ow => ∃ (r3 : Value), v = .agg #[.int .i64 (ap), .int .i64 (ar), .int .i64 (bc), r3] ∧ IsS r3 ∧ ow = ints 3 r3 (mulF ap ar ac bc ad bd) :: own) := by
 have hm1 := mulBd (A := 40) (B := 40) hr hbc
 have hm2 := mulBd (A := 40) (B := 40) hr hc
 have hm3 := mulBd (A := 40) (B := 40) hc hbc
 refine Spec.enter Try.f40 _ Try.func40 rfl (n := 73) rfl rfl ?_
 refine GC.seq (GC.region ?_)
 refine G.step (OG.box (cs := [.int .i64 (ap), .int .i64 (ar), .int .i64 (ac), vad]) rfl rfl rfl) rfl rfl rfl ?_
 rintro _ _ ⟨g1, rfl, rfl⟩
 refine G.step (OG.box (cs := [.int .i64 (bp), .int .i64 (br), .int .i64 (bc), vbd]) rfl rfl rfl) rfl rfl rfl ?_
 rintro _ _ ⟨g2, rfl, rfl⟩
 refine G.step (OG.alloc rfl ti41 (zs := [.int .i64 (0), .int .i64 (0), .int .i64 (0), .slice none 0 0]) rfl) rfl rfl rfl ?_
 rintro _ _ ⟨g3, rfl, rfl⟩
 refine G.nil (GE.then_ (GC.seq (GC.region ?_)))
 refine G.stepD (OD.fieldAddr rfl rfl fa41_0) rfl rfl rfl ?_
 refine G.stepD (OD.load rfl ti3 rfl (i := 2) rfl rfl) rfl rfl rfl ?_
 refine G.stepD (OD.fieldAddr rfl rfl fa41_1) rfl rfl rfl ?_
 refine G.stepD (OD.load rfl ti3 rfl (i := 2) rfl rfl) rfl rfl rfl ?_
 refine G.stepD (OD.fieldAddr rfl rfl fa41_2) rfl rfl rfl ?_
 refine G.stepD (OD.load rfl ti3 rfl (i := 1) rfl rfl) rfl rfl rfl ?_
 refine G.step (OG.call [.int .i64 (ap), .int .i64 (ar), .int .i64 (bc)] ent57 rfl rfl rfl rfl (by exact (l1Zero_w (by omega)))) rfl rfl rfl ?_
 rintro _ _ ⟨v4, rfl, hs5, rfl⟩
 refine G.step (OG.alloc rfl ti41 (zs := [.int .i64 (0), .int .i64 (0), .int .i64 (0), .slice none 0 0]) rfl) rfl rfl rfl ?_
 rintro _ _ ⟨g6, rfl, rfl⟩
 refine G.stepD0 (OD.store rfl ti41 rfl rfl (us := [.int .i64 (ap), .int .i64 (ar), .int .i64 (bc), v4]) rfl rfl (allC rfl (allC rfl (allC rfl (allC (IsS.one hs5) rfl)))) (i := 0) rfl rfl) rfl rfl ?_
 refine G.nil (GE.then_ (GC.seq (GC.seq (GC.region ?_))))
 refine G.stepD (OD.assign rfl rfl) rfl rfl rfl ?_
 refine G.nil (GE.then_ (GC.block ?_))
 refine GC.loop (ι := Nat × List Int) (fun ⟨i, ys⟩ => [(2, .pointer (some ⟨g1, 0, none⟩)), (3, .pointer (some ⟨g2, 0, none⟩)), (4, .pointer (some ⟨g3, 0, none⟩)), (5, .pointer (some ⟨g6, 0, none⟩)), (6, .int .i64 ((i : Int)))]) (fun ⟨i, ys⟩ => box g6 41 [.int .i64 (ap), .int .i64 (ar), .int .i64 (bc), v4] :: ints 3 v4 ys :: box g3 41 [.int .i64 (0), .int .i64 (0), .int .i64 (0), .slice none 0 0] :: box g2 41 [.int .i64 (bp), .int .i64 (br), .int .i64 (bc), vbd] :: box g1 41 [.int .i64 (ap), .int .i64 (ar), .int .i64 (ac), vad] :: own) (fun ⟨i, ys⟩ => ((i : Int) ≤ ar) ∧ (ys.length = (ar * bc).toNat) ∧ (ys = (List.range i).foldl (fun (o : List Int) (i : Nat) => mulRow ap ac bc ad bd i o) (List.replicate (ar * bc).toNat 0))) (fun ⟨i, ys⟩ => ar.toNat - i) (0, List.replicate ((ar : Int) * bc).toNat 0) (⟨by omega, by simp, rfl⟩) ⟨rfl, rfl, rfl, rfl, rfl, trivial⟩ [] 0 rfl ?_
 rintro ⟨i, ys⟩ ⟨hi, hyl, hy⟩
 refine GC.seq (GC.seq (GC.region ?_))
 refine G.stepD (OD.move rfl rfl) rfl rfl rfl ?_
 refine G.stepD (OD.fieldAddr rfl rfl fa41_1) rfl rfl rfl ?_
 refine G.stepD (OD.load rfl ti3 rfl (i := 4) rfl rfl) rfl rfl rfl ?_
 refine G.stepD (OD.lss rfl rfl rfl) rfl rfl rfl ?_
 refine G.nil (GE.then_ ?_)
 refine GC.cond rfl (fun hc7 => ?_) (fun hc7 => ?_)
 replace hc7 := of_decide_eq_true hc7
 obtain ⟨hp1, hp2, hp3⟩ := part_bd (n := ar) (c := bc) (i := i) (by omega) (by omega)
 obtain ⟨hq1, hq2, hq3⟩ := part_bd (n := ar) (c := ac) (i := i) (by omega) (by omega)
 refine GC.skip (GE.then_ (GC.seq (GC.block (GC.seq (GC.region ?_)))))
 refine G.stepD (OD.assign rfl rfl) rfl rfl rfl ?_
 refine G.nil (GE.then_ (GC.block ?_))
 refine GC.loop (ι := Nat × List Int) (fun ⟨k, zs⟩ => [(2, .pointer (some ⟨g1, 0, none⟩)), (3, .pointer (some ⟨g2, 0, none⟩)), (4, .pointer (some ⟨g3, 0, none⟩)), (5, .pointer (some ⟨g6, 0, none⟩)), (6, .int .i64 ((i : Int))), (7, .int .i64 ((k : Int)))]) (fun ⟨k, zs⟩ => box g6 41 [.int .i64 (ap), .int .i64 (ar), .int .i64 (bc), v4] :: ints 3 v4 zs :: box g3 41 [.int .i64 (0), .int .i64 (0), .int .i64 (0), .slice none 0 0] :: box g2 41 [.int .i64 (bp), .int .i64 (br), .int .i64 (bc), vbd] :: box g1 41 [.int .i64 (ap), .int .i64 (ar), .int .i64 (ac), vad] :: own) (fun ⟨k, zs⟩ => ((k : Int) ≤ ac) ∧ (zs.length = (ar * bc).toNat) ∧ (zs = (List.range k).foldl (mulE ap ac bc ad bd i) ys)) (fun ⟨k, zs⟩ => ac.toNat - k) (0, ys) (⟨by omega, hyl, rfl⟩) ⟨rfl, rfl, rfl, rfl, rfl, rfl, trivial⟩ [] 0 rfl ?_
 rintro ⟨k, zs⟩ ⟨hk, hzl, hz⟩
 refine GC.seq (GC.seq (GC.region ?_))
 refine G.stepD (OD.move rfl rfl) rfl rfl rfl ?_
 refine G.stepD (OD.fieldAddr rfl rfl fa41_2) rfl rfl rfl ?_
 refine G.stepD (OD.load rfl ti3 rfl (i := 4) rfl rfl) rfl rfl rfl ?_
 refine G.stepD (OD.lss rfl rfl rfl) rfl rfl rfl ?_
 refine G.nil (GE.then_ ?_)
 refine GC.cond rfl (fun hc8 => ?_) (fun hc8 => ?_)
 replace hc8 := of_decide_eq_true hc8
 obtain ⟨hr1, hr2, hr3⟩ := part_bd (n := ac) (c := bc) (i := k) (by omega) (by omega)
 refine GC.skip (GE.then_ (GC.seq (GC.block (GC.seq (GC.region ?_)))))
 refine G.stepD (OD.loadAgg rfl ti41 rfl (i := 4) rfl (us := [.int .i64 (ap), .int .i64 (ar), .int .i64 (ac), vad]) rfl rfl) rfl rfl rfl ?_
 refine G.stepD (OD.move rfl rfl) rfl rfl rfl ?_
 refine G.stepD (OD.move rfl rfl) rfl rfl rfl ?_
 refine G.step (OG.call [.agg #[.int .i64 (ap), .int .i64 (ar), .int .i64 (ac), vad], .int .i64 ((i : Int)), .int .i64 ((k : Int))] ent36 rfl rfl rfl rfl (by exact (l1At_w sad (Ent.drop 5 ead) (by omega) (by omega) (by omega)))) rfl rfl rfl ?_
 rintro _ _ ⟨rfl, rfl⟩
 refine G.stepD (OD.assign rfl rfl) rfl rfl rfl ?_
 refine G.nil (GE.then_ (GC.seq (GC.region ?_)))
 refine G.stepD (OD.assign rfl rfl) rfl rfl rfl ?_
 refine G.nil (GE.then_ (GC.block ?_))
 refine GC.loop (ι := Nat × List Int) (fun ⟨j, us⟩ => [(2, .pointer (some ⟨g1, 0, none⟩)), (3, .pointer (some ⟨g2, 0, none⟩)), (4, .pointer (some ⟨g3, 0, none⟩)), (5, .pointer (some ⟨g6, 0, none⟩)), (6, .int .i64 ((i : Int))), (7, .int .i64 ((k : Int))), (8, .int .i64 (ad.getD ((i : Int) * ac + (k : Int) : Int).toNat 0)), (9, .int .i64 ((j : Int)))]) (fun ⟨j, us⟩ => box g6 41 [.int .i64 (ap), .int .i64 (ar), .int .i64 (bc), v4] :: ints 3 v4 us :: box g3 41 [.int .i64 (0), .int .i64 (0), .int .i64 (0), .slice none 0 0] :: box g2 41 [.int .i64 (bp), .int .i64 (br), .int .i64 (bc), vbd] :: box g1 41 [.int .i64 (ap), .int .i64 (ar), .int .i64 (ac), vad] :: own) (fun ⟨j, us⟩ => ((j : Int) ≤ bc) ∧ (us.length = (ar * bc).toNat) ∧ (us = (List.range j).foldl (fun (o : List Int) (j : Nat) => o.set (((i : Int) * bc).toNat + j) ((IntKind.i64.wrap (o.getD (((i : Int) * bc).toNat + j) 0 + IntKind.i64.wrap (ad.getD ((i : Int) * ac + (k : Int)).toNat 0 * (rowY bc bd k).getD j 0))).tmod ap)) zs) ∧ (ad.getD ((i : Int) * ac + (k : Int)).toNat 0 = 0 → j = 0)) (fun ⟨j, us⟩ => bc.toNat - j) (0, zs) (⟨by omega, hzl, rfl, fun _ => rfl⟩) ⟨rfl, rfl, rfl, rfl, rfl, rfl, rfl, rfl, trivial⟩ [] 0 rfl ?_
 rintro ⟨j, us⟩ ⟨hj, hul, hu, h0⟩
 refine GC.seq (GC.seq (GC.region ?_))
 refine G.stepD (OD.move rfl rfl) rfl rfl rfl ?_
 refine G.stepD (OD.fieldAddr rfl rfl fa41_2) rfl rfl rfl ?_
 refine G.stepD (OD.load rfl ti3 rfl (i := 3) rfl rfl) rfl rfl rfl ?_
 refine G.stepD (OD.lss rfl rfl rfl) rfl rfl rfl ?_
 refine G.stepD (OD.move rfl rfl) rfl rfl rfl ?_
 rcases Bool.eq_false_or_eq_true (decide ((j : Int) < bc)) with hg9 | hg9
 have hg9e := hg9
 refine G.at [] 0 (env' := [(2, .pointer (some ⟨g1, 0, none⟩)), (3, .pointer (some ⟨g2, 0, none⟩)), (4, .pointer (some ⟨g3, 0, none⟩)), (5, .pointer (some ⟨g6, 0, none⟩)), (6, .int .i64 ((i : Int))), (7, .int .i64 ((k : Int))), (8, .int .i64 (ad.getD ((i : Int) * ac + (k : Int) : Int).toNat 0)), (9, .int .i64 ((j : Int))), (33, .int .i64 ((j : Int))), (34, .pointer (some ⟨g2, 2, none⟩)), (35, .int .i64 (bc)), (36, .bool true), (37, .bool true)]) (⟨rfl, rfl, rfl, rfl, rfl, rfl, rfl, rfl, rfl, rfl, rfl, (congrArg (fun b => some (Value.bool b)) hg9e), (congrArg (fun b => some (Value.bool b)) hg9e), trivial⟩) rfl ?_
 replace hg9 := of_decide_eq_true hg9
 refine G.stepGD (OD.move rfl rfl) rfl rfl rfl rfl rfl ?_
 refine G.stepGD (OD.neq rfl rfl rfl) rfl rfl rfl rfl rfl ?_
 refine G.stepD (OD.pickT rfl rfl rfl) rfl rfl rfl ?_
 refine G.nil (GE.then_ ?_)
 refine GC.cond rfl (fun hc10 => ?_) (fun hc10 => ?_)
 replace hc10 := ne_of_bne hc10
 refine GC.skip (GE.then_ (GC.seq (GC.block ?_)))
 refine GC.at [] 0 (env' := [(2, .pointer (some ⟨g1, 0, none⟩)), (3, .pointer (some ⟨g2, 0, none⟩)), (4, .pointer (some ⟨g3, 0, none⟩)), (5, .pointer (some ⟨g6, 0, none⟩)), (6, .int .i64 ((i : Int))), (7, .int .i64 ((k : Int))), (8, .int .i64 (ad.getD ((i : Int) * ac + (k : Int) : Int).toNat 0)), (9, .int .i64 ((j : Int)))]) ⟨rfl, rfl, rfl, rfl, rfl, rfl, rfl, rfl, trivial⟩ rfl ?_
 refine GC.par (its := [⟨43, [], [], [], [], fun _ => .pointer (some ⟨g6, 3, none⟩), fun _ => True, fun _ => []⟩,
     ⟨44, [(0, 43)], [], [], [], fun _ => v4, fun _ => True, fun _ => []⟩,
     ⟨45, [], [], [], [], fun _ => .int .i64 ((i : Int)), fun _ => True, fun _ => []⟩,
     ⟨46, [], [], [], [], fun _ => .pointer (some ⟨g2, 2, none⟩), fun _ => True, fun _ => []⟩,
     ⟨47, [(3, 46)], [], [], [], fun _ => .int .i64 (bc), fun _ => True, fun _ => []⟩,
     ⟨48, [(2, 45), (4, 47)], [], [], [], fun _ => .int .i64 ((i : Int) * bc), fun _ => True, fun _ => []⟩,
     ⟨49, [], [], [], [], fun _ => .int .i64 ((j : Int)), fun _ => True, fun _ => []⟩,
     ⟨50, [(5, 48), (6, 49)], [], [], [], fun _ => .int .i64 (((i : Int) * bc) + (j : Int)), fun _ => True, fun _ => []⟩,
     ⟨51, [], [], [], [], fun _ => .pointer (some ⟨g6, 3, none⟩), fun _ => True, fun _ => []⟩,
     ⟨52, [(8, 51)], [], [], [], fun _ => v4, fun _ => True, fun _ => []⟩,
     ⟨53, [], [], [], [], fun _ => .int .i64 ((i : Int)), fun _ => True, fun _ => []⟩,
     ⟨54, [], [], [], [], fun _ => .pointer (some ⟨g2, 2, none⟩), fun _ => True, fun _ => []⟩,
     ⟨55, [(11, 54)], [], [], [], fun _ => .int .i64 (bc), fun _ => True, fun _ => []⟩,
     ⟨56, [(10, 53), (12, 55)], [], [], [], fun _ => .int .i64 ((i : Int) * bc), fun _ => True, fun _ => []⟩,
     ⟨57, [], [], [], [], fun _ => .int .i64 ((j : Int)), fun _ => True, fun _ => []⟩,
     ⟨58, [(13, 56), (14, 57)], [], [], [], fun _ => .int .i64 (((i : Int) * bc) + (j : Int)), fun _ => True, fun _ => []⟩,
     ⟨59, [(9, 52), (15, 58)], [], [], [], fun _ => elemPtr v4 1 ((((i : Int) * bc) + (j : Int) : Int).toNat), fun _ => True, fun _ => []⟩,
     ⟨60, [(16, 59)], [], [], [], fun _ => .int .i64 (us.getD ((((i : Int) * bc) + (j : Int) : Int).toNat) 0), fun _ => True, fun _ => []⟩,
     ⟨61, [], [], [], [], fun _ => .int .i64 (ad.getD ((i : Int) * ac + (k : Int) : Int).toNat 0), fun _ => True, fun _ => []⟩,
     ⟨62, [], [], [], [], fun _ => .agg #[.int .i64 (bp), .int .i64 (br), .int .i64 (bc), vbd], fun _ => True, fun _ => []⟩,
     ⟨63, [], [], [], [], fun _ => .int .i64 ((k : Int)), fun _ => True, fun _ => []⟩,
     ⟨64, [], [], [], [], fun _ => .int .i64 ((j : Int)), fun _ => True, fun _ => []⟩,
     ⟨65, [(19, 62), (20, 63), (21, 64)], [], [], [], fun _ => .int .i64 (bd.getD ((k : Int) * bc + (j : Int) : Int).toNat 0), fun _ => True, fun _ => []⟩,
     ⟨66, [(18, 61), (22, 65)], [], [], [], fun _ => .int .i64 (IntKind.i64.wrap ((ad.getD ((i : Int) * ac + (k : Int) : Int).toNat 0) * (bd.getD ((k : Int) * bc + (j : Int) : Int).toNat 0))), fun _ => True, fun _ => []⟩,
     ⟨67, [(17, 60), (23, 66)], [], [], [], fun _ => .int .i64 (IntKind.i64.wrap ((us.getD ((((i : Int) * bc) + (j : Int) : Int).toNat) 0) + (IntKind.i64.wrap ((ad.getD ((i : Int) * ac + (k : Int) : Int).toNat 0) * (bd.getD ((k : Int) * bc + (j : Int) : Int).toNat 0))))), fun _ => True, fun _ => []⟩,
     ⟨68, [], [], [], [], fun _ => .pointer (some ⟨g1, 0, none⟩), fun _ => True, fun _ => []⟩,
     ⟨69, [(25, 68)], [], [], [], fun _ => .int .i64 (ap), fun _ => True, fun _ => []⟩,
     ⟨70, [(24, 67), (26, 69)], [], [], [], fun _ => .int .i64 ((IntKind.i64.wrap ((us.getD ((((i : Int) * bc) + (j : Int) : Int).toNat) 0) + (IntKind.i64.wrap ((ad.getD ((i : Int) * ac + (k : Int) : Int).toNat 0) * (bd.getD ((k : Int) * bc + (j : Int) : Int).toNat 0))))).tmod ap), fun _ => True, fun _ => []⟩,
     ⟨71, [(1, 44), (7, 50)], [], [], [], fun _ => elemPtr v4 1 ((((i : Int) * bc) + (j : Int) : Int).toNat), fun _ => True, fun _ => []⟩]) (by kernel_rfl) (by kernel_rfl) (POps.cons ?_ (POps.cons ?_ (POps.cons ?_ (POps.cons ?_ (POps.cons ?_ (POps.cons ?_ (POps.cons ?_ (POps.cons ?_ (POps.cons ?_ (POps.cons ?_ (POps.cons ?_ (POps.cons ?_ (POps.cons ?_ (POps.cons ?_ (POps.cons ?_ (POps.cons ?_ (POps.cons ?_ (POps.cons ?_ (POps.cons ?_ (POps.cons ?_ (POps.cons ?_ (POps.cons ?_ (POps.cons ?_ (POps.cons ?_ (POps.cons ?_ (POps.cons ?_ (POps.cons ?_ (POps.cons ?_ (POps.cons ?_ POps.nil))))))))))))))))))))))))))))) ?_
 intro θ R hd
 exact Opp.plain (OG.imp (OD.fieldAddr rfl rfl fa41_3) (by rintro _ _ ⟨rfl, rfl⟩; exact ⟨[], rfl, trivial, rfl⟩)) rfl
 intro θ R hd
 obtain ⟨h0d, _⟩ := hd
 exact Opp.plain (OG.imp (OD.load rfl ti24 rfl (i := 0) rfl rfl) (by rintro _ _ ⟨rfl, rfl⟩; exact ⟨[], rfl, trivial, rfl⟩)) rfl
 intro θ R hd
 exact Opp.plain (OG.imp (OD.move rfl rfl) (by rintro _ _ ⟨rfl, rfl⟩; exact ⟨[], rfl, trivial, rfl⟩)) rfl
 intro θ R hd
 exact Opp.plain (OG.imp (OD.fieldAddr rfl rfl fa41_2) (by rintro _ _ ⟨rfl, rfl⟩; exact ⟨[], rfl, trivial, rfl⟩)) rfl
 intro θ R hd
 obtain ⟨h3d, _⟩ := hd
 exact Opp.plain (OG.imp (OD.load rfl ti3 rfl (i := 3) rfl rfl) (by rintro _ _ ⟨rfl, rfl⟩; exact ⟨[], rfl, trivial, rfl⟩)) rfl
 intro θ R hd
 obtain ⟨h2d, h4d, _⟩ := hd
 exact Opp.plain (OG.imp (OD.mulI rfl rfl rfl (by omega)) (by rintro _ _ ⟨rfl, rfl⟩; exact ⟨[], rfl, trivial, rfl⟩)) rfl
 intro θ R hd
 exact Opp.plain (OG.imp (OD.move rfl rfl) (by rintro _ _ ⟨rfl, rfl⟩; exact ⟨[], rfl, trivial, rfl⟩)) rfl
 intro θ R hd
 obtain ⟨h5d, h6d, _⟩ := hd
 exact Opp.plain (OG.imp (OD.addI rfl rfl rfl (by omega)) (by rintro _ _ ⟨rfl, rfl⟩; exact ⟨[], rfl, trivial, rfl⟩)) rfl
 intro θ R hd
 exact Opp.plain (OG.imp (OD.fieldAddr rfl rfl fa41_3) (by rintro _ _ ⟨rfl, rfl⟩; exact ⟨[], rfl, trivial, rfl⟩)) rfl
 intro θ R hd
 obtain ⟨h8d, _⟩ := hd
 exact Opp.plain (OG.imp (OD.load rfl ti24 rfl (i := 0) rfl rfl) (by rintro _ _ ⟨rfl, rfl⟩; exact ⟨[], rfl, trivial, rfl⟩)) rfl
 intro θ R hd
 exact Opp.plain (OG.imp (OD.move rfl rfl) (by rintro _ _ ⟨rfl, rfl⟩; exact ⟨[], rfl, trivial, rfl⟩)) rfl
 intro θ R hd
 exact Opp.plain (OG.imp (OD.fieldAddr rfl rfl fa41_2) (by rintro _ _ ⟨rfl, rfl⟩; exact ⟨[], rfl, trivial, rfl⟩)) rfl
 intro θ R hd
 obtain ⟨h11d, _⟩ := hd
 exact Opp.plain (OG.imp (OD.load rfl ti3 rfl (i := 3) rfl rfl) (by rintro _ _ ⟨rfl, rfl⟩; exact ⟨[], rfl, trivial, rfl⟩)) rfl
 intro θ R hd
 obtain ⟨h10d, h12d, _⟩ := hd
 exact Opp.plain (OG.imp (OD.mulI rfl rfl rfl (by omega)) (by rintro _ _ ⟨rfl, rfl⟩; exact ⟨[], rfl, trivial, rfl⟩)) rfl
 intro θ R hd
 exact Opp.plain (OG.imp (OD.move rfl rfl) (by rintro _ _ ⟨rfl, rfl⟩; exact ⟨[], rfl, trivial, rfl⟩)) rfl
 intro θ R hd
 obtain ⟨h13d, h14d, _⟩ := hd
 exact Opp.plain (OG.imp (OD.addI rfl rfl rfl (by omega)) (by rintro _ _ ⟨rfl, rfl⟩; exact ⟨[], rfl, trivial, rfl⟩)) rfl
 intro θ R hd
 obtain ⟨h9d, h15d, _⟩ := hd
 exact Opp.plain (OG.imp (OD.indexAddr rfl et24 rfl (Ent.ints (i := 1) rfl) rfl (by omega)) (by rintro _ _ ⟨rfl, rfl⟩; exact ⟨[], rfl, trivial, rfl⟩)) rfl
 intro θ R hd
 obtain ⟨h16d, _⟩ := hd
 exact Opp.plain (OG.imp (OD.loadInt rfl ti3 rfl (Ent.ints (i := 1) rfl) (by omega)) (by rintro _ _ ⟨rfl, rfl⟩; exact ⟨[], rfl, trivial, rfl⟩)) rfl
 intro θ R hd
 exact Opp.plain (OG.imp (OD.move rfl rfl) (by rintro _ _ ⟨rfl, rfl⟩; exact ⟨[], rfl, trivial, rfl⟩)) rfl
 intro θ R hd
 exact Opp.plain (OG.imp (OD.loadAgg rfl ti41 rfl (i := 3) rfl (us := [.int .i64 (bp), .int .i64 (br), .int .i64 (bc), vbd]) rfl rfl) (by rintro _ _ ⟨rfl, rfl⟩; exact ⟨[], rfl, trivial, rfl⟩)) rfl
 intro θ R hd
 exact Opp.plain (OG.imp (OD.move rfl rfl) (by rintro _ _ ⟨rfl, rfl⟩; exact ⟨[], rfl, trivial, rfl⟩)) rfl
 intro θ R hd
 exact Opp.plain (OG.imp (OD.move rfl rfl) (by rintro _ _ ⟨rfl, rfl⟩; exact ⟨[], rfl, trivial, rfl⟩)) rfl
 intro θ R hd
 obtain ⟨h19d, h20d, h21d, _⟩ := hd
 exact Opp.plain (OG.imp (OG.call [.agg #[.int .i64 (bp), .int .i64 (br), .int .i64 (bc), vbd], .int .i64 ((k : Int)), .int .i64 ((j : Int))] ent36 rfl rfl rfl rfl (by exact (l1At_w sbd (Ent.drop 5 ebd.app) (by omega) (by omega) (by omega)))) (by rintro _ _ ⟨rfl, rfl⟩; exact ⟨[], rfl, trivial, rfl⟩)) rfl
 intro θ R hd
 obtain ⟨h18d, h22d, _⟩ := hd
 exact Opp.plain (OG.imp (OD.mul rfl rfl rfl) (by rintro _ _ ⟨rfl, rfl⟩; exact ⟨[], rfl, trivial, rfl⟩)) rfl
 intro θ R hd
 obtain ⟨h17d, h23d, _⟩ := hd
 exact Opp.plain (OG.imp (OD.add rfl rfl rfl) (by rintro _ _ ⟨rfl, rfl⟩; exact ⟨[], rfl, trivial, rfl⟩)) rfl
 intro θ R hd
 exact Opp.plain (OG.imp (OD.fieldAddr rfl rfl fa41_0) (by rintro _ _ ⟨rfl, rfl⟩; exact ⟨[], rfl, trivial, rfl⟩)) rfl
 intro θ R hd
 obtain ⟨h25d, _⟩ := hd
 exact Opp.plain (OG.imp (OD.load rfl ti3 rfl (i := 4) rfl rfl) (by rintro _ _ ⟨rfl, rfl⟩; exact ⟨[], rfl, trivial, rfl⟩)) rfl
 intro θ R hd
 obtain ⟨h24d, h26d, _⟩ := hd
 exact Opp.plain (OG.imp (OD.rem rfl rfl rfl (by omega)) (by rintro _ _ ⟨rfl, rfl⟩; exact ⟨[], rfl, trivial, rfl⟩)) rfl
 intro θ R hd
 obtain ⟨h1d, h7d, _⟩ := hd
 exact Opp.plain (OG.imp (OD.indexAddr rfl et24 rfl (Ent.ints (i := 1) rfl) rfl (by omega)) (by rintro _ _ ⟨rfl, rfl⟩; exact ⟨[], rfl, trivial, rfl⟩)) rfl
 intro θ hall
 obtain ⟨_, _, _, _, _, _, _, _, _, _, _, _, _, _, _, _, _, _, _, _, _, _, _, _, _, _, _, _, _, _⟩ := hall
 refine G.at [] 0 (env' := [(2, .pointer (some ⟨g1, 0, none⟩)), (3, .pointer (some ⟨g2, 0, none⟩)), (4, .pointer (some ⟨g3, 0, none⟩)), (5, .pointer (some ⟨g6, 0, none⟩)), (6, .int .i64 ((i : Int))), (7, .int .i64 ((k : Int))), (8, .int .i64 (ad.getD ((i : Int) * ac + (k : Int) : Int).toNat 0)), (9, .int .i64 ((j : Int))), (70, .int .i64 ((IntKind.i64.wrap ((us.getD ((((i : Int) * bc) + (j : Int) : Int).toNat) 0) + (IntKind.i64.wrap ((ad.getD ((i : Int) * ac + (k : Int) : Int).toNat 0) * (bd.getD ((k : Int) * bc + (j : Int) : Int).toNat 0))))).tmod ap)), (71, elemPtr v4 1 ((((i : Int) * bc) + (j : Int) : Int).toNat))]) ⟨rfl, rfl, rfl, rfl, rfl, rfl, rfl, rfl, rfl, rfl, trivial⟩ (own' := box g6 41 [.int .i64 (ap), .int .i64 (ar), .int .i64 (bc), v4] :: ints 3 v4 us :: box g3 41 [.int .i64 (0), .int .i64 (0), .int .i64 (0), .slice none 0 0] :: box g2 41 [.int .i64 (bp), .int .i64 (br), .int .i64 (bc), vbd] :: box g1 41 [.int .i64 (ap), .int .i64 (ar), .int .i64 (ac), vad] :: own) rfl ?_
 show G _ _ _ [_] _ _ _ _
 refine G.stepD0 (OD.storeInt rfl ti3 rfl rfl (i := 1) rfl (by omega)) rfl rfl ?_
 refine G.nil (GE.blockN (GE.then_ (GC.region ?_)))
 refine G.stepD (OD.move rfl rfl) rfl rfl rfl ?_
 refine G.stepD (OD.addI rfl rfl rfl (by first | omega | (simp only [List.length_set, List.length_replicate]; omega))) rfl rfl rfl ?_
 refine G.stepD (OD.assign rfl rfl) rfl rfl rfl ?_
 refine G.nil ?_
 exact GE.again (j + 1, (us).set ((((i : Int) * bc) + (j : Int) : Int).toNat) ((IntKind.i64.wrap ((us.getD ((((i : Int) * bc) + (j : Int) : Int).toNat) 0) + (IntKind.i64.wrap ((ad.getD ((i : Int) * ac + (k : Int) : Int).toNat 0) * (bd.getD ((k : Int) * bc + (j : Int) : Int).toNat 0))))).tmod ap)) (⟨by omega, by rw [List.length_set]; exact hul, fold_nx hu (mul_step (by omega) (by omega)), fun h => absurd h (by assumption)⟩) (by first | omega | (dsimp only; omega)) ⟨rfl, rfl, rfl, rfl, rfl, rfl, rfl, rfl, trivial⟩ [] 0 rfl
 replace hc10 := eq_of_bne_false hc10
 refine GC.exit (GE.pass (GE.pass (GE.hit (GE.blockN (GE.then_ (GC.region ?_))))))
 refine G.stepD (OD.move rfl rfl) rfl rfl rfl ?_
 refine G.stepD (OD.addI rfl rfl rfl (by omega)) rfl rfl rfl ?_
 refine G.stepD (OD.assign rfl rfl) rfl rfl rfl ?_
 refine G.nil ?_
 exact GE.again (k + 1, us) (⟨by omega, hul, fold_nx hz (mulE_end (by omega) (by omega) hbl hj hu h0 (fun h => by first | omega | exact absurd (by assumption) h))⟩) (by first | omega | (dsimp only; omega)) ⟨rfl, rfl, rfl, rfl, rfl, rfl, trivial⟩ [] 0 rfl
 have hg9e := hg9
 refine G.at [] 0 (env' := [(2, .pointer (some ⟨g1, 0, none⟩)), (3, .pointer (some ⟨g2, 0, none⟩)), (4, .pointer (some ⟨g3, 0, none⟩)), (5, .pointer (some ⟨g6, 0, none⟩)), (6, .int .i64 ((i : Int))), (7, .int .i64 ((k : Int))), (8, .int .i64 (ad.getD ((i : Int) * ac + (k : Int) : Int).toNat 0)), (9, .int .i64 ((j : Int))), (33, .int .i64 ((j : Int))), (34, .pointer (some ⟨g2, 2, none⟩)), (35, .int .i64 (bc)), (36, .bool false), (37, .bool false)]) (⟨rfl, rfl, rfl, rfl, rfl, rfl, rfl, rfl, rfl, rfl, rfl, (congrArg (fun b => some (Value.bool b)) hg9e), (congrArg (fun b => some (Value.bool b)) hg9e), trivial⟩) rfl ?_
 replace hg9 := of_decide_eq_false hg9
 refine G.skipG rfl rfl rfl rfl rfl rfl (G.skipG rfl rfl rfl rfl rfl rfl ?_)
 refine G.stepD (OD.pickF rfl rfl rfl) rfl rfl rfl ?_
 refine G.nil (GE.then_ (GC.condF rfl (GC.exit (GE.pass (GE.pass (GE.hit (GE.blockN (GE.then_ (GC.region ?_)))))))))
 refine G.stepD (OD.move rfl rfl) rfl rfl rfl ?_
 refine G.stepD (OD.addI rfl rfl rfl (by omega)) rfl rfl rfl ?_
 refine G.stepD (OD.assign rfl rfl) rfl rfl rfl ?_
 refine G.nil ?_
 exact GE.again (k + 1, us) (⟨by omega, hul, fold_nx hz (mulE_end (by omega) (by omega) hbl hj hu h0 (fun h => by first | omega | exact absurd (by assumption) h))⟩) (by first | omega | (dsimp only; omega)) ⟨rfl, rfl, rfl, rfl, rfl, rfl, trivial⟩ [] 0 rfl
 replace hc8 := of_decide_eq_false hc8
 refine GC.exit (GE.pass (GE.pass (GE.hit (GE.blockN (GE.then_ (GC.region ?_))))))
 refine G.stepD (OD.move rfl rfl) rfl rfl rfl ?_
 refine G.stepD (OD.addI rfl rfl rfl (by omega)) rfl rfl rfl ?_
 refine G.stepD (OD.assign rfl rfl) rfl rfl rfl ?_
 refine G.nil ?_
 exact GE.again (i + 1, zs) (⟨by omega, hzl, fold_nx hy (by rw [hz, show k = ac.toNat by omega]; rfl)⟩) (by first | omega | (dsimp only; omega)) ⟨rfl, rfl, rfl, rfl, rfl, trivial⟩ [] 0 rfl
 replace hc7 := of_decide_eq_false hc7
 refine GC.exit (GE.pass (GE.pass (GE.hit (GE.then_ (GC.seq (GC.region ?_))))))
 refine G.stepD (OD.loadAgg rfl ti41 rfl (i := 0) rfl (us := [.int .i64 (ap), .int .i64 (ar), .int .i64 (bc), v4]) rfl rfl) rfl rfl rfl ?_
 refine G.stepD0 (OD.store rfl ti41 rfl rfl (us := [.int .i64 (ap), .int .i64 (ar), .int .i64 (bc), v4]) rfl rfl (allC rfl (allC rfl (allC rfl (allC (IsS.one hs5) rfl)))) (i := 2) rfl rfl) rfl rfl ?_
 refine G.nil (GE.then_ (GC.ret ?_))
 exact GE.body [1] 4 (resN rfl (RVs.cons (rv_cells ti41 rfl (i := 2) rfl rfl) RVs.nil) rfl) rfl (⟨v4, rfl, hs5, congrArg (fun (l0 : List Int) => ints 3 v4 l0 :: own) ((by rw [hy, show i = ar.toNat by omega]; rfl : ys = mulF ap ar ac bc ad bd))⟩)
set_option maxHeartbeats 4000000 in
set_option maxRecDepth 100000 in
theorem l1Commutator_w {W : World} {own : List Asn} {ap : Int} {ar : Int} {ac : Int} {vad : Value} {ad : List Int} {bp : Int} {br : Int} {bc : Int} {vbd : Value} {bd : List Int}  (sad : IsS vad) (ead : Ent own fun w => Ints w vad ad)   (sbd : IsS vbd) (ebd : Ent own fun w => Ints w vbd bd)  (h1 : matOkB ⟨ap, ar, ac, ad⟩ = true) (h2 : matOkB ⟨bp, br, bc, bd⟩ = true) (h3 : ap = bp) (h4 : ar = ac) (h5 : br = ar) (h6 : bc = ac) : Spec Try.prog 17 [.agg #[.int .i64 (ap), .int .i64 (ar), .int .i64 (ac), vad], .agg #[.int .i64 (bp), .int .i64 (br), .int .i64 (bc), vbd]] W own (fun v ow => ∃ (r3 : Value), v = .agg #[.int .i64 (ap), .int .i64 (ar), .int .i64 (bc), r3] ∧ IsS r3 ∧ ow = ints 3 r3 ((commF ⟨ap, ar, ac, ad⟩ ⟨bp, br, bc, bd⟩).d) :: own) := by
 obtain ⟨hr, hc, hal, hap⟩ := matOk_dim h1
 obtain ⟨hr2, hc2, hbl, hbp⟩ := matOk_dim h2
 have hg1 := matOk_rg h1
 have hg2 := matOk_rg h2
 simp only at hr hc hal hap hr2 hc2 hbl hbp hg1 hg2
 have hg3 : Rg bp ad := h3 ▸ hg1
 have hg4 : Rg ap bd := by rw [h3]; exact hg2
 have hok : commOk ⟨ap, ar, ac, ad⟩ ⟨bp, br, bc, bd⟩ = true := commOk_t h1 h2 h3 h4 h5 h6
 have hu := mulF_rg (ar := ar) (ac := ac) (bc := bc) ⟨by omega, hap.2⟩ hg1 hg4
 have hv := mulF_rg (ar := br) (ac := bc) (bc := ac) ⟨by omega, hbp.2⟩ hg2 hg3
 have hm1 := mulBd (A := 40) (B := 40) hr hc2
 have hm2 := mulBd (A := 40) (B := 40) hr2 hc
 have hul := mulF_len ap ar ac bc ad bd
 have hvl := mulF_len bp br bc ac bd ad
 have hmm : ar * bc = br * ac := by rw [h5, h6]
 refine Spec.enter Try.f17 _ Try.func17 rfl (n := 13) rfl rfl ?_
 refine GC.seq (GC.region ?_)
 refine G.step (OG.box (cs := [.int .i64 (ap), .int .i64 (ar), .int .i64 (ac), vad]) rfl rfl rfl) rfl rfl rfl ?_
 rintro _ _ ⟨g1, rfl, rfl⟩
 refine G.step (OG.box (cs := [.int .i64 (bp), .int .i64 (br), .int .i64 (bc), vbd]) rfl rfl rfl) rfl rfl rfl ?_
 rintro _ _ ⟨g2, rfl, rfl⟩
 refine G.step (OG.alloc rfl ti41 (zs := [.int .i64 (0), .int .i64 (0), .int .i64 (0), .slice none 0 0]) rfl) rfl rfl rfl ?_
 rintro _ _ ⟨g3, rfl, rfl⟩
 refine G.nil (GE.then_ (GC.seq ?_))
 refine GC.at [] 0 (env' := [(2, .pointer (some ⟨g1, 0, none⟩)), (3, .pointer (some ⟨g2, 0, none⟩)), (4, .pointer (some ⟨g3, 0, none⟩))]) ⟨rfl, rfl, rfl, trivial⟩ rfl ?_
 refine GC.par (its := [⟨5, [], [], [], [], fun _ => .agg #[.int .i64 (ap), .int .i64 (ar), .int .i64 (ac), vad], fun _ => True, fun _ => []⟩,
     ⟨6, [], [], [], [], fun _ => .agg #[.int .i64 (bp), .int .i64 (br), .int .i64 (bc), vbd], fun _ => True, fun _ => []⟩,
     ⟨7, [(0, 5), (1, 6)], [], [], [2], fun ds => .agg #[.int .i64 (ap), .int .i64 (ar), .int .i64 (bc), ((ds.getD 0 []).getD 0 undef)], fun ds => IsS ((ds.getD 0 []).getD 0 undef), fun ds => [ints 3 ((ds.getD 0 []).getD 0 undef) (mulF ap ar ac bc ad bd)]⟩,
     ⟨8, [], [], [], [], fun _ => .agg #[.int .i64 (bp), .int .i64 (br), .int .i64 (bc), vbd], fun _ => True, fun _ => []⟩,
     ⟨9, [], [], [], [], fun _ => .agg #[.int .i64 (ap), .int .i64 (ar), .int .i64 (ac), vad], fun _ => True, fun _ => []⟩,
     ⟨10, [(3, 8), (4, 9)], [], [], [5], fun ds => .agg #[.int .i64 (bp), .int .i64 (br), .int .i64 (ac), ((ds.getD 0 []).getD 0 undef)], fun ds => IsS ((ds.getD 0 []).getD 0 undef), fun ds => [ints 3 ((ds.getD 0 []).getD 0 undef) (mulF bp br bc ac bd ad)]⟩,
     ⟨11, [(5, 10)], [5], [], [5, 6], fun ds => .agg #[.int .i64 (bp), .int .i64 (br), .int .i64 (ac), ((ds.getD 1 []).getD 0 undef)], fun ds => IsS ((ds.getD 1 []).getD 0 undef), fun ds => [ints 3 ((ds.getD 1 []).getD 0 undef) (((mulF bp br bc ac bd ad : List Int)).map (fun x => (x * (-1 % bp)).tmod bp))]⟩,
     ⟨12, [(2, 7), (6, 11)], [2, 5, 6], [], [2, 5, 6, 7], fun ds => .agg #[.int .i64 (ap), .int .i64 (ar), .int .i64 (bc), ((ds.getD 3 []).getD 0 undef)], fun ds => IsS ((ds.getD 3 []).getD 0 undef), fun ds => [ints 3 ((ds.getD 3 []).getD 0 undef) (addF 1 ap (mulF ap ar ac bc ad bd) (((mulF bp br bc ac bd ad : List Int)).map (fun x => (x * (-1 % bp)).tmod bp)))]⟩]) (by kernel_rfl) (by kernel_rfl) (POps.cons ?_ (POps.cons ?_ (POps.cons ?_ (POps.cons ?_ (POps.cons ?_ (POps.cons ?_ (POps.cons ?_ (POps.cons ?_ POps.nil)))))))) ?_
 intro θ R hd
 exact Opp.plain (OG.imp (OD.loadAgg rfl ti41 rfl (i := 2) rfl (us := [.int .i64 (ap), .int .i64 (ar), .int .i64 (ac), vad]) rfl rfl) (by rintro _ _ ⟨rfl, rfl⟩; exact ⟨[], rfl, trivial, rfl⟩)) rfl
 intro θ R hd
 exact Opp.plain (OG.imp (OD.loadAgg rfl ti41 rfl (i := 1) rfl (us := [.int .i64 (bp), .int .i64 (br), .int .i64 (bc), vbd]) rfl rfl) (by rintro _ _ ⟨rfl, rfl⟩; exact ⟨[], rfl, trivial, rfl⟩)) rfl
 intro θ R hd
 obtain ⟨h0d, h1d, _⟩ := hd
 exact Opp.plain (OG.imp (OG.call [.agg #[.int .i64 (ap), .int .i64 (ar), .int .i64 (ac), vad], .agg #[.int .i64 (bp), .int .i64 (br), .int .i64 (bc), vbd]] ent40 rfl rfl rfl rfl (by exact (l1Mul_w sad (Ent.drop 3 ead.app) sbd (Ent.drop 3 ebd.app) (hr) (hc) (hc2) (hal) (by rw [hbl, h5, h4]) (hap)))) (by rintro _ _ ⟨v4, rfl, hs5, rfl⟩; exact ⟨[v4], rfl, hs5, rfl⟩)) rfl
 intro θ R hd
 exact Opp.plain (OG.imp (OD.loadAgg rfl ti41 rfl (i := 1) rfl (us := [.int .i64 (bp), .int .i64 (br), .int .i64 (bc), vbd]) rfl rfl) (by rintro _ _ ⟨rfl, rfl⟩; exact ⟨[], rfl, trivial, rfl⟩)) rfl
 intro θ R hd
 exact Opp.plain (OG.imp (OD.loadAgg rfl ti41 rfl (i := 2) rfl (us := [.int .i64 (ap), .int .i64 (ar), .int .i64 (ac), vad]) rfl rfl) (by rintro _ _ ⟨rfl, rfl⟩; exact ⟨[], rfl, trivial, rfl⟩)) rfl
 intro θ R hd
 obtain ⟨h3d, h4d, _⟩ := hd
 exact Opp.plain (OG.imp (OG.call [.agg #[.int .i64 (bp), .int .i64 (br), .int .i64 (bc), vbd], .agg #[.int .i64 (ap), .int .i64 (ar), .int .i64 (ac), vad]] ent40 rfl rfl rfl rfl (by exact (l1Mul_w sbd (Ent.drop 3 ebd.app) sad (Ent.drop 3 ead.app) (hr2) (hc2) (hc) (hbl) (by rw [hal, h4, h6]) (hbp)))) (by rintro _ _ ⟨v6, rfl, hs7, rfl⟩; exact ⟨[v6], rfl, hs7, rfl⟩)) rfl
 intro θ R hd
 obtain ⟨h5d, _⟩ := hd
 exact Opp.plain (OG.imp (OG.call [.agg #[.int .i64 (bp), .int .i64 (br), .int .i64 (ac), ((θ 5).getD 0 undef)], .int .i64 (-1)] ent41 rfl rfl rfl rfl (by exact (l1Scale_s h5d (Ent.ints (i := 0) rfl) (hbp) (⟨by omega, fun i => by have := hv i; omega⟩)))) (by rintro _ _ ⟨v8, rfl, hs9, rfl⟩; exact ⟨[v8], rfl, hs9, rfl⟩)) rfl
 intro θ R hd
 obtain ⟨h2d, h6d, _⟩ := hd
 exact Opp.plain (OG.imp (OG.call [.agg #[.int .i64 (ap), .int .i64 (ar), .int .i64 (bc), ((θ 2).getD 0 undef)], .agg #[.int .i64 (bp), .int .i64 (br), .int .i64 (ac), ((θ 6).getD 0 undef)]] ent39 rfl rfl rfl rfl (by exact (l1Add_s h2d (Ent.ints (i := 0) rfl) h6d (Ent.ints (i := 2) rfl) (small_of hap (by omega) hu) (small_of hbp (by rw [List.length_map]; omega) (map_neg_rg (by omega) hv)) (by rw [List.length_map, hul, hvl, hmm])))) (by rintro _ _ ⟨v10, rfl, hs11, rfl⟩; exact ⟨[v10], rfl, hs11, rfl⟩)) rfl
 intro θ hall
 obtain ⟨_, _, h2a, _, _, h5a, h6a, h7a, _⟩ := hall
 refine G.at [] 0 (env' := [(4, .pointer (some ⟨g3, 0, none⟩)), (12, .agg #[.int .i64 (ap), .int .i64 (ar), .int .i64 (bc), ((θ 7).getD 0 undef)])]) ⟨rfl, rfl, trivial⟩ (own' := ints 3 ((θ 2).getD 0 undef) (mulF ap ar ac bc ad bd) :: ints 3 ((θ 5).getD 0 undef) (mulF bp br bc ac bd ad) :: ints 3 ((θ 6).getD 0 undef) (((mulF bp br bc ac bd ad : List Int)).map (fun x => (x * (-1 % bp)).tmod bp)) :: ints 3 ((θ 7).getD 0 undef) (addF 1 ap (mulF ap ar ac bc ad bd) (((mulF bp br bc ac bd ad : List Int)).map (fun x => (x * (-1 % bp)).tmod bp))) :: box g3 41 [.int .i64 (0), .int .i64 (0), .int .i64 (0), .slice none 0 0] :: box g2 41 [.int .i64 (bp), .int .i64 (br), .int .i64 (bc), vbd] :: box g1 41 [.int .i64 (ap), .int .i64 (ar), .int .i64 (ac), vad] :: own) rfl ?_
 have hs12 : IsS ((θ 2).getD 0 undef) := h2a
 clear h2a
 generalize ((θ 2).getD 0 undef) = v13 at *
 have hs14 : IsS ((θ 5).getD 0 undef) := h5a
 clear h5a
 generalize ((θ 5).getD 0 undef) = v15 at *
 have hs16 : IsS ((θ 6).getD 0 undef) := h6a
 clear h6a
 generalize ((θ 6).getD 0 undef) = v17 at *
 have hs18 : IsS ((θ 7).getD 0 undef) := h7a
 clear h7a
 generalize ((θ 7).getD 0 undef) = v19 at *
 show G _ _ _ [_] _ _ _ _
 refine G.stepD0 (OD.store rfl ti41 rfl rfl (us := [.int .i64 (ap), .int .i64 (ar), .int .i64 (bc), v19]) rfl rfl (allC rfl (allC rfl (allC rfl (allC (IsS.one hs18) rfl)))) (i := 4) rfl rfl) rfl rfl ?_
 refine G.nil (GE.then_ (GC.ret ?_))
 exact GE.body [3] 6 (resN rfl (RVs.cons (rv_cells ti41 rfl (i := 4) rfl rfl) RVs.nil) rfl) rfl (⟨v19, rfl, hs18, congrArg (fun (l0 : List Int) => ints 3 v19 l0 :: own) ((comm_d hok : addF 1 ap (mulF ap ar ac bc ad bd) (((mulF bp br bc ac bd ad : List Int)).map (fun x => (x * (-1 % bp)).tmod bp)) = (commF ⟨ap, ar, ac, ad⟩ ⟨bp, br, bc, bd⟩).d))⟩)
set_option maxHeartbeats 4000000 in
set_option maxRecDepth 100000 in
theorem commutatorOf_w {W : World} {own : List Asn} {ap : Int} {ar : Int} {ac : Int} {vad : Value} {ad : List Int} {bp : Int} {br : Int} {bc : Int} {vbd : Value} {bd : List Int}  (sad : IsS vad) (ead : Ent own fun w => Ints w vad ad)   (sbd : IsS vbd) (ebd : Ent own fun w => Ints w vbd bd)   : Spec Try.prog 25 [.agg #[.int .i64 (ap), .int .i64 (ar), .int .i64 (ac), vad], .agg #[.int .i64 (bp), .int .i64 (br), .int .i64 (bc), vbd]] W own (fun v ow => ∃ (r3 : Value), v = .tuple #[.agg #[.int .i64 ((commF ⟨ap, ar, ac, ad⟩ ⟨bp, br, bc, bd⟩).p), .int .i64 ((commF ⟨ap, ar, ac, ad⟩ ⟨bp, br, bc, bd⟩).r), .int .i64 ((commF ⟨ap, ar, ac, ad⟩ ⟨bp, br, bc, bd⟩).c), r3], .bool (commOk ⟨ap, ar, ac, ad⟩ ⟨bp, br, bc, bd⟩)] ∧ IsS r3 ∧ ow = ints 3 r3 ((commF ⟨ap, ar, ac, ad⟩ ⟨bp, br, bc, bd⟩).d) :: own) := by
 refine Spec.enter Try.f25 _ Try.func25 rfl (n := 53) rfl rfl ?_
 refine GC.seq (GC.region ?_)
 refine G.step (OG.box (cs := [.int .i64 (ap), .int .i64 (ar), .int .i64 (ac), vad]) rfl rfl rfl) rfl rfl rfl ?_
 rintro _ _ ⟨g1, rfl, rfl⟩
 refine G.step (OG.box (cs := [.int .i64 (bp), .int .i64 (br), .int .i64 (bc), vbd]) rfl rfl rfl) rfl rfl rfl ?_
 rintro _ _ ⟨g2, rfl, rfl⟩
 refine G.step (OG.alloc rfl ti41 (zs := [.int .i64 (0), .int .i64 (0), .int .i64 (0), .slice none 0 0]) rfl) rfl rfl rfl ?_
 rintro _ _ ⟨g3, rfl, rfl⟩
 refine G.stepD (OD.assign rfl rfl) rfl rfl rfl ?_
 refine G.nil (GE.then_ (GC.seq (GC.seq (GC.region ?_))))
 refine G.stepD (OD.loadAgg rfl ti41 rfl (i := 2) rfl (us := [.int .i64 (ap), .int .i64 (ar), .int .i64 (ac), vad]) rfl rfl) rfl rfl rfl ?_
 refine G.step (OG.call [.agg #[.int .i64 (ap), .int .i64 (ar), .int .i64 (ac), vad]] ent21 rfl rfl rfl rfl (by exact (matrixOk_s sad (Ent.drop 3 ead)))) rfl rfl rfl ?_
 rintro _ _ ⟨rfl, rfl⟩
 refine G.stepD (OD.not rfl rfl) rfl rfl rfl ?_
 refine G.stepD (OD.move rfl rfl) rfl rfl rfl ?_
 rcases Bool.eq_false_or_eq_true (!(matOkB ⟨ap, ar, ac, ad⟩)) with hg4 | hg4
 have hg4e := hg4
 refine G.at [] 0 (env' := [(0, .agg #[.int .i64 (ap), .int .i64 (ar), .int .i64 (ac), vad]), (1, .agg #[.int .i64 (bp), .int .i64 (br), .int .i64 (bc), vbd]), (2, .pointer (some ⟨g1, 0, none⟩)), (3, .pointer (some ⟨g2, 0, none⟩)), (4, .pointer (some ⟨g3, 0, none⟩)), (5, .bool false), (6, .agg #[.int .i64 (ap), .int .i64 (ar), .int .i64 (ac), vad]), (7, .bool (matOkB ⟨ap, ar, ac, ad⟩)), (8, .bool true), (9, .bool true)]) (⟨rfl, rfl, rfl, rfl, rfl, rfl, rfl, rfl, (by exact congrArg (fun b => some (Value.bool b)) hg4e), (by exact congrArg (fun b => some (Value.bool b)) hg4e), trivial⟩) rfl ?_
 replace hg4 := eq_false_of_not hg4
 refine G.skipG rfl rfl rfl rfl rfl rfl (G.skipG rfl rfl rfl rfl rfl rfl (G.skipG rfl rfl rfl rfl rfl rfl ?_))
 refine G.stepD (OD.pickT rfl rfl rfl) rfl rfl rfl ?_
 refine G.stepD (OD.move rfl rfl) rfl rfl rfl ?_
 refine G.skipG rfl rfl rfl rfl rfl rfl (G.skipG rfl rfl rfl rfl rfl rfl (G.skipG rfl rfl rfl rfl rfl rfl (G.skipG rfl rfl rfl rfl rfl rfl (G.skipG rfl rfl rfl rfl rfl rfl ?_))))
 refine G.stepD (OD.pickT rfl rfl rfl) rfl rfl rfl ?_
 refine G.stepD (OD.move rfl rfl) rfl rfl rfl ?_
 refine G.skipG rfl rfl rfl rfl rfl rfl (G.skipG rfl rfl rfl rfl rfl rfl (G.skipG rfl rfl rfl rfl rfl rfl (G.skipG rfl rfl rfl rfl rfl rfl (G.skipG rfl rfl rfl rfl rfl rfl ?_))))
 refine G.stepD (OD.pickT rfl rfl rfl) rfl rfl rfl ?_
 refine G.stepD (OD.move rfl rfl) rfl rfl rfl ?_
 refine G.skipG rfl rfl rfl rfl rfl rfl (G.skipG rfl rfl rfl rfl rfl rfl (G.skipG rfl rfl rfl rfl rfl rfl (G.skipG rfl rfl rfl rfl rfl rfl (G.skipG rfl rfl rfl rfl rfl rfl ?_))))
 refine G.stepD (OD.pickT rfl rfl rfl) rfl rfl rfl ?_
 refine G.stepD (OD.move rfl rfl) rfl rfl rfl ?_
 refine G.skipG rfl rfl rfl rfl rfl rfl (G.skipG rfl rfl rfl rfl rfl rfl (G.skipG rfl rfl rfl rfl rfl rfl (G.skipG rfl rfl rfl rfl rfl rfl (G.skipG rfl rfl rfl rfl rfl rfl ?_))))
 refine G.stepD (OD.pickT rfl rfl rfl) rfl rfl rfl ?_
 refine G.nil (GE.then_ (GC.condT rfl (GC.seq (GC.region ?_))))
 refine G.stepD (OD.build (idx := []) (xs := []) (vs := []) (cs := []) (zs := [.int .i64 (0), .int .i64 (0), .int .i64 (0), .slice none 0 0]) (r := [.int .i64 (0), .int .i64 (0), .int .i64 (0), .slice none 0 0]) rfl ti41 rfl rfl rfl trivial rfl) rfl rfl rfl ?_
 refine G.stepD0 (OD.store rfl ti41 rfl rfl (us := [.int .i64 (0), .int .i64 (0), .int .i64 (0), .slice none 0 0]) rfl rfl rfl (i := 0) rfl rfl) rfl rfl ?_
 refine G.stepD (OD.assign rfl rfl) rfl rfl rfl ?_
 refine G.nil (GE.then_ (GC.ret (GE.passR ?_)))
 refine GE.nilInts 3 ?_
 exact GE.body [0] 3 (resN rfl (RVs.cons (rv_cells ti41 rfl (i := 1) rfl rfl) (RVs.cons (rv_tmp rfl) RVs.nil)) rfl) rfl (⟨(.slice none 0 0), congr (congr (congr (congrArg (fun (a0 : Int) (a1 : Int) (a2 : Int) (a4 : Bool) => (.tuple #[.agg #[.int .i64 (a0), .int .i64 (a1), .int .i64 (a2), (.slice none 0 0)], .bool (a4)] : Value)) ((by rw [commF, if_neg (by simp only [commOk]; simp_all)]; rfl : (0 : Int) = (commF ⟨ap, ar, ac, ad⟩ ⟨bp, br, bc, bd⟩).p))) ((by rw [commF, if_neg (by simp only [commOk]; simp_all)]; rfl : (0 : Int) = (commF ⟨ap, ar, ac, ad⟩ ⟨bp, br, bc, bd⟩).r))) ((by rw [commF, if_neg (by simp only [commOk]; simp_all)]; rfl : (0 : Int) = (commF ⟨ap, ar, ac, ad⟩ ⟨bp, br, bc, bd⟩).c))) ((by simp only [commOk]; simp_all : (false : Bool) = commOk ⟨ap, ar, ac, ad⟩ ⟨bp, br, bc, bd⟩)), IsS.nil, congrArg (fun (l0 : List Int) => ints 3 (.slice none 0 0) l0 :: own) ((by rw [commF, if_neg (by simp only [commOk]; simp_all)]; rfl : [] = (commF ⟨ap, ar, ac, ad⟩ ⟨bp, br, bc, bd⟩).d))⟩)
 have hg4e := hg4
 refine G.at [] 0 (env' := [(0, .agg #[.int .i64 (ap), .int .i64 (ar), .int .i64 (ac), vad]), (1, .agg #[.int .i64 (bp), .int .i64 (br), .int .i64 (bc), vbd]), (2, .pointer (some ⟨g1, 0, none⟩)), (3, .pointer (some ⟨g2, 0, none⟩)), (4, .pointer (some ⟨g3, 0, none⟩)), (5, .bool false), (6, .agg #[.int .i64 (ap), .int .i64 (ar), .int .i64 (ac), vad]), (7, .bool (matOkB ⟨ap, ar, ac, ad⟩)), (8, .bool false), (9, .bool false)]) (⟨rfl, rfl, rfl, rfl, rfl, rfl, rfl, rfl, (by exact congrArg (fun b => some (Value.bool b)) hg4e), (by exact congrArg (fun b => some (Value.bool b)) hg4e), trivial⟩) rfl ?_
 replace hg4 := eq_true_of_not hg4
 refine G.stepGD (OD.loadAgg rfl ti41 rfl (i := 1) rfl (us := [.int .i64 (bp), .int .i64 (br), .int .i64 (bc), vbd]) rfl rfl) rfl rfl rfl rfl rfl ?_
 refine G.stepG (OG.call [.agg #[.int .i64 (bp), .int .i64 (br), .int .i64 (bc), vbd]] ent21 rfl rfl rfl rfl (by exact (matrixOk_s sbd (Ent.drop 3 ebd)))) rfl rfl rfl rfl rfl ?_
 rintro _ _ ⟨rfl, rfl⟩
 refine G.stepGD (OD.not rfl rfl) rfl rfl rfl rfl rfl ?_
 refine G.stepD (OD.pickF rfl rfl rfl) rfl rfl rfl ?_
 refine G.stepD (OD.move rfl rfl) rfl rfl rfl ?_
 rcases Bool.eq_false_or_eq_true (!(matOkB ⟨bp, br, bc, bd⟩)) with hg5 | hg5
 have hg5e := hg5
 refine G.at [] 0 (env' := [(0, .agg #[.int .i64 (ap), .int .i64 (ar), .int .i64 (ac), vad]), (1, .agg #[.int .i64 (bp), .int .i64 (br), .int .i64 (bc), vbd]), (2, .pointer (some ⟨g1, 0, none⟩)), (3, .pointer (some ⟨g2, 0, none⟩)), (4, .pointer (some ⟨g3, 0, none⟩)), (5, .bool false), (6, .agg #[.int .i64 (ap), .int .i64 (ar), .int .i64 (ac), vad]), (7, .bool (matOkB ⟨ap, ar, ac, ad⟩)), (8, .bool false), (9, .bool false), (10, .agg #[.int .i64 (bp), .int .i64 (br), .int .i64 (bc), vbd]), (11, .bool (matOkB ⟨bp, br, bc, bd⟩)), (12, .bool true), (13, .bool true), (14, .bool true)]) (⟨rfl, rfl, rfl, rfl, rfl, rfl, rfl, rfl, rfl, rfl, rfl, rfl, (by exact congrArg (fun b => some (Value.bool b)) hg5e), (by exact congrArg (fun b => some (Value.bool b)) hg5e), (by exact congrArg (fun b => some (Value.bool b)) hg5e), trivial⟩) rfl ?_
 replace hg5 := eq_false_of_not hg5
 refine G.skipG rfl rfl rfl rfl rfl rfl (G.skipG rfl rfl rfl rfl rfl rfl (G.skipG rfl rfl rfl rfl rfl rfl (G.skipG rfl rfl rfl rfl rfl rfl (G.skipG rfl rfl rfl rfl rfl rfl ?_))))
 refine G.stepD (OD.pickT rfl rfl rfl) rfl rfl rfl ?_
 refine G.stepD (OD.move rfl rfl) rfl rfl rfl ?_
 refine G.skipG rfl rfl rfl rfl rfl rfl (G.skipG rfl rfl rfl rfl rfl rfl (G.skipG rfl rfl rfl rfl rfl rfl (G.skipG rfl rfl rfl rfl rfl rfl (G.skipG rfl rfl rfl rfl rfl rfl ?_))))
 refine G.stepD (OD.pickT rfl rfl rfl) rfl rfl rfl ?_
 refine G.stepD (OD.move rfl rfl) rfl rfl rfl ?_
 refine G.skipG rfl rfl rfl rfl rfl rfl (G.skipG rfl rfl rfl rfl rfl rfl (G.skipG rfl rfl rfl rfl rfl rfl (G.skipG rfl rfl rfl rfl rfl rfl (G.skipG rfl rfl rfl rfl rfl rfl ?_))))
 refine G.stepD (OD.pickT rfl rfl rfl) rfl rfl rfl ?_
 refine G.stepD (OD.move rfl rfl) rfl rfl rfl ?_
 refine G.skipG rfl rfl rfl rfl rfl rfl (G.skipG rfl rfl rfl rfl rfl rfl (G.skipG rfl rfl rfl rfl rfl rfl (G.skipG rfl rfl rfl rfl rfl rfl (G.skipG rfl rfl rfl rfl rfl rfl ?_))))
 refine G.stepD (OD.pickT rfl rfl rfl) rfl rfl rfl ?_
 refine G.nil (GE.then_ (GC.condT rfl (GC.seq (GC.region ?_))))
 refine G.stepD (OD.build (idx := []) (xs := []) (vs := []) (cs := []) (zs := [.int .i64 (0), .int .i64 (0), .int .i64 (0), .slice none 0 0]) (r := [.int .i64 (0), .int .i64 (0), .int .i64 (0), .slice none 0 0]) rfl ti41 rfl rfl rfl trivial rfl) rfl rfl rfl ?_
 refine G.stepD0 (OD.store rfl ti41 rfl rfl (us := [.int .i64 (0), .int .i64 (0), .int .i64 (0), .slice none 0 0]) rfl rfl rfl (i := 0) rfl rfl) rfl rfl ?_
 refine G.stepD (OD.assign rfl rfl) rfl rfl rfl ?_
 refine G.nil (GE.then_ (GC.ret (GE.passR ?_)))
 refine GE.nilInts 3 ?_
 exact GE.body [0] 3 (resN rfl (RVs.cons (rv_cells ti41 rfl (i := 1) rfl rfl) (RVs.cons (rv_tmp rfl) RVs.nil)) rfl) rfl (⟨(.slice none 0 0), congr (congr (congr (congrArg (fun (a0 : Int) (a1 : Int) (a2 : Int) (a4 : Bool) => (.tuple #[.agg #[.int .i64 (a0), .int .i64 (a1), .int .i64 (a2), (.slice none 0 0)], .bool (a4)] : Value)) ((by rw [commF, if_neg (by simp only [commOk]; simp_all)]; rfl : (0 : Int) = (commF ⟨ap, ar, ac, ad⟩ ⟨bp, br, bc, bd⟩).p))) ((by rw [commF, if_neg (by simp only [commOk]; simp_all)]; rfl : (0 : Int) = (commF ⟨ap, ar, ac, ad⟩ ⟨bp, br, bc, bd⟩).r))) ((by rw [commF, if_neg (by simp only [commOk]; simp_all)]; rfl : (0 : Int) = (commF ⟨ap, ar, ac, ad⟩ ⟨bp, br, bc, bd⟩).c))) ((by simp only [commOk]; simp_all : (false : Bool) = commOk ⟨ap, ar, ac, ad⟩ ⟨bp, br, bc, bd⟩)), IsS.nil, congrArg (fun (l0 : List Int) => ints 3 (.slice none 0 0) l0 :: own) ((by rw [commF, if_neg (by simp only [commOk]; simp_all)]; rfl : [] = (commF ⟨ap, ar, ac, ad⟩ ⟨bp, br, bc, bd⟩).d))⟩)
 have hg5e := hg5
 refine G.at [] 0 (env' := [(0, .agg #[.int .i64 (ap), .int .i64 (ar), .int .i64 (ac), vad]), (1, .agg #[.int .i64 (bp), .int .i64 (br), .int .i64 (bc), vbd]), (2, .pointer (some ⟨g1, 0, none⟩)), (3, .pointer (some ⟨g2, 0, none⟩)), (4, .pointer (some ⟨g3, 0, none⟩)), (5, .bool false), (6, .agg #[.int .i64 (ap), .int .i64 (ar), .int .i64 (ac), vad]), (7, .bool (matOkB ⟨ap, ar, ac, ad⟩)), (8, .bool false), (9, .bool false), (10, .agg #[.int .i64 (bp), .int .i64 (br), .int .i64 (bc), vbd]), (11, .bool (matOkB ⟨bp, br, bc, bd⟩)), (12, .bool false), (13, .bool false), (14, .bool false)]) (⟨rfl, rfl, rfl, rfl, rfl, rfl, rfl, rfl, rfl, rfl, rfl, rfl, (by exact congrArg (fun b => some (Value.bool b)) hg5e), (by exact congrArg (fun b => some (Value.bool b)) hg5e), (by exact congrArg (fun b => some (Value.bool b)) hg5e), trivial⟩) rfl ?_
 replace hg5 := eq_true_of_not hg5
 refine G.stepGD (OD.fieldAddr rfl rfl fa41_0) rfl rfl rfl rfl rfl ?_
 refine G.stepGD (OD.load rfl ti3 rfl (i := 2) rfl rfl) rfl rfl rfl rfl rfl ?_
 refine G.stepGD (OD.fieldAddr rfl rfl fa41_0) rfl rfl rfl rfl rfl ?_
 refine G.stepGD (OD.load rfl ti3 rfl (i := 1) rfl rfl) rfl rfl rfl rfl rfl ?_
 refine G.stepGD (OD.neq rfl rfl rfl) rfl rfl rfl rfl rfl ?_
 refine G.stepD (OD.pickF rfl rfl rfl) rfl rfl rfl ?_
 refine G.stepD (OD.move rfl rfl) rfl rfl rfl ?_
 rcases Bool.eq_false_or_eq_true (ap != bp) with hg6 | hg6
 have hg6e := hg6
 refine G.at [] 0 (env' := [(0, .agg #[.int .i64 (ap), .int .i64 (ar), .int .i64 (ac), vad]), (1, .agg #[.int .i64 (bp), .int .i64 (br), .int .i64 (bc), vbd]), (2, .pointer (some ⟨g1, 0, none⟩)), (3, .pointer (some ⟨g2, 0, none⟩)), (4, .pointer (some ⟨g3, 0, none⟩)), (5, .bool false), (6, .agg #[.int .i64 (ap), .int .i64 (ar), .int .i64 (ac), vad]), (7, .bool (matOkB ⟨ap, ar, ac, ad⟩)), (8, .bool false), (9, .bool false), (10, .agg #[.int .i64 (bp), .int .i64 (br), .int .i64 (bc), vbd]), (11, .bool (matOkB ⟨bp, br, bc, bd⟩)), (12, .bool false), (13, .bool false), (14, .bool false), (15, .pointer (some ⟨g1, 0, none⟩)), (16, .int .i64 (ap)), (17, .pointer (some ⟨g2, 0, none⟩)), (18, .int .i64 (bp)), (19, .bool true), (20, .bool true), (21, .bool true)]) (⟨rfl, rfl, rfl, rfl, rfl, rfl, rfl, rfl, rfl, rfl, rfl, rfl, rfl, rfl, rfl, rfl, rfl, rfl, rfl, (by exact congrArg (fun b => some (Value.bool b)) hg6e), (by exact congrArg (fun b => some (Value.bool b)) hg6e), (by exact congrArg (fun b => some (Value.bool b)) hg6e), trivial⟩) rfl ?_
 replace hg6 := ne_of_bne hg6
 refine G.skipG rfl rfl rfl rfl rfl rfl (G.skipG rfl rfl rfl rfl rfl rfl (G.skipG rfl rfl rfl rfl rfl rfl (G.skipG rfl rfl rfl rfl rfl rfl (G.skipG rfl rfl rfl rfl rfl rfl ?_))))
 refine G.stepD (OD.pickT rfl rfl rfl) rfl rfl rfl ?_
 refine G.stepD (OD.move rfl rfl) rfl rfl rfl ?_
 refine G.skipG rfl rfl rfl rfl rfl rfl (G.skipG rfl rfl rfl rfl rfl rfl (G.skipG rfl rfl rfl rfl rfl rfl (G.skipG rfl rfl rfl rfl rfl rfl (G.skipG rfl rfl rfl rfl rfl rfl ?_))))
 refine G.stepD (OD.pickT rfl rfl rfl) rfl rfl rfl ?_
 refine G.stepD (OD.move rfl rfl) rfl rfl rfl ?_
 refine G.skipG rfl rfl rfl rfl rfl rfl (G.skipG rfl rfl rfl rfl rfl rfl (G.skipG rfl rfl rfl rfl rfl rfl (G.skipG rfl rfl rfl rfl rfl rfl (G.skipG rfl rfl rfl rfl rfl rfl ?_))))
 refine G.stepD (OD.pickT rfl rfl rfl) rfl rfl rfl ?_
 refine G.nil (GE.then_ (GC.condT rfl (GC.seq (GC.region ?_))))
 refine G.stepD (OD.build (idx := []) (xs := []) (vs := []) (cs := []) (zs := [.int .i64 (0), .int .i64 (0), .int .i64 (0), .slice none 0 0]) (r := [.int .i64 (0), .int .i64 (0), .int .i64 (0), .slice none 0 0]) rfl ti41 rfl rfl rfl trivial rfl) rfl rfl rfl ?_
 refine G.stepD0 (OD.store rfl ti41 rfl rfl (us := [.int .i64 (0), .int .i64 (0), .int .i64 (0), .slice none 0 0]) rfl rfl rfl (i := 0) rfl rfl) rfl rfl ?_
 refine G.stepD (OD.assign rfl rfl) rfl rfl rfl ?_
 refine G.nil (GE.then_ (GC.ret (GE.passR ?_)))
 refine GE.nilInts 3 ?_
 exact GE.body [0] 3 (resN rfl (RVs.cons (rv_cells ti41 rfl (i := 1) rfl rfl) (RVs.cons (rv_tmp rfl) RVs.nil)) rfl) rfl (⟨(.slice none 0 0), congr (congr (congr (congrArg (fun (a0 : Int) (a1 : Int) (a2 : Int) (a4 : Bool) => (.tuple #[.agg #[.int .i64 (a0), .int .i64 (a1), .int .i64 (a2), (.slice none 0 0)], .bool (a4)] : Value)) ((by rw [commF, if_neg (by simp only [commOk]; simp_all)]; rfl : (0 : Int) = (commF ⟨ap, ar, ac, ad⟩ ⟨bp, br, bc, bd⟩).p))) ((by rw [commF, if_neg (by simp only [commOk]; simp_all)]; rfl : (0 : Int) = (commF ⟨ap, ar, ac, ad⟩ ⟨bp, br, bc, bd⟩).r))) ((by rw [commF, if_neg (by simp only [commOk]; simp_all)]; rfl : (0 : Int) = (commF ⟨ap, ar, ac, ad⟩ ⟨bp, br, bc, bd⟩).c))) ((by simp only [commOk]; simp_all : (false : Bool) = commOk ⟨ap, ar, ac, ad⟩ ⟨bp, br, bc, bd⟩)), IsS.nil, congrArg (fun (l0 : List Int) => ints 3 (.slice none 0 0) l0 :: own) ((by rw [commF, if_neg (by simp only [commOk]; simp_all)]; rfl : [] = (commF ⟨ap, ar, ac, ad⟩ ⟨bp, br, bc, bd⟩).d))⟩)
 have hg6e := hg6
 refine G.at [] 0 (env' := [(0, .agg #[.int .i64 (ap), .int .i64 (ar), .int .i64 (ac), vad]), (1, .agg #[.int .i64 (bp), .int .i64 (br), .int .i64 (bc), vbd]), (2, .pointer (some ⟨g1, 0, none⟩)), (3, .pointer (some ⟨g2, 0, none⟩)), (4, .pointer (some ⟨g3, 0, none⟩)), (5, .bool false), (6, .agg #[.int .i64 (ap), .int .i64 (ar), .int .i64 (ac), vad]), (7, .bool (matOkB ⟨ap, ar, ac, ad⟩)), (8, .bool false), (9, .bool false), (10, .agg #[.int .i64 (bp), .int .i64 (br), .int .i64 (bc), vbd]), (11, .bool (matOkB ⟨bp, br, bc, bd⟩)), (12, .bool false), (13, .bool false), (14, .bool false), (15, .pointer (some ⟨g1, 0, none⟩)), (16, .int .i64 (ap)), (17, .pointer (some ⟨g2, 0, none⟩)), (18, .int .i64 (bp)), (19, .bool false), (20, .bool false), (21, .bool false)]) (⟨rfl, rfl, rfl, rfl, rfl, rfl, rfl, rfl, rfl, rfl, rfl, rfl, rfl, rfl, rfl, rfl, rfl, rfl, rfl, (by exact congrArg (fun b => some (Value.bool b)) hg6e), (by exact congrArg (fun b => some (Value.bool b)) hg6e), (by exact congrArg (fun b => some (Value.bool b)) hg6e), trivial⟩) rfl ?_
 replace hg6 := eq_of_bne_false hg6
 refine G.stepGD (OD.fieldAddr rfl rfl fa41_1) rfl rfl rfl rfl rfl ?_
 refine G.stepGD (OD.load rfl ti3 rfl (i := 2) rfl rfl) rfl rfl rfl rfl rfl ?_
 refine G.stepGD (OD.fieldAddr rfl rfl fa41_2) rfl rfl rfl rfl rfl ?_
 refine G.stepGD (OD.load rfl ti3 rfl (i := 2) rfl rfl) rfl rfl rfl rfl rfl ?_
 refine G.stepGD (OD.neq rfl rfl rfl) rfl rfl rfl rfl rfl ?_
 refine G.stepD (OD.pickF rfl rfl rfl) rfl rfl rfl ?_
 refine G.stepD (OD.move rfl rfl) rfl rfl rfl ?_
 rcases Bool.eq_false_or_eq_true (ar != ac) with hg7 | hg7
 have hg7e := hg7
 refine G.at [] 0 (env' := [(0, .agg #[.int .i64 (ap), .int .i64 (ar), .int .i64 (ac), vad]), (1, .agg #[.int .i64 (bp), .int .i64 (br), .int .i64 (bc), vbd]), (2, .pointer (some ⟨g1, 0, none⟩)), (3, .pointer (some ⟨g2, 0, none⟩)), (4, .pointer (some ⟨g3, 0, none⟩)), (5, .bool false), (6, .agg #[.int .i64 (ap), .int .i64 (ar), .int .i64 (ac), vad]), (7, .bool (matOkB ⟨ap, ar, ac, ad⟩)), (8, .bool false), (9, .bool false), (10, .agg #[.int .i64 (bp), .int .i64 (br), .int .i64 (bc), vbd]), (11, .bool (matOkB ⟨bp, br, bc, bd⟩)), (12, .bool false), (13, .bool false), (14, .bool false), (15, .pointer (some ⟨g1, 0, none⟩)), (16, .int .i64 (ap)), (17, .pointer (some ⟨g2, 0, none⟩)), (18, .int .i64 (bp)), (19, .bool false), (20, .bool false), (21, .bool false), (22, .pointer (some ⟨g1, 1, none⟩)), (23, .int .i64 (ar)), (24, .pointer (some ⟨g1, 2, none⟩)), (25, .int .i64 (ac)), (26, .bool true), (27, .bool true), (28, .bool true)]) (⟨rfl, rfl, rfl, rfl, rfl, rfl, rfl, rfl, rfl, rfl, rfl, rfl, rfl, rfl, rfl, rfl, rfl, rfl, rfl, rfl, rfl, rfl, rfl, rfl, rfl, rfl, (by exact congrArg (fun b => some (Value.bool b)) hg7e), (by exact congrArg (fun b => some (Value.bool b)) hg7e), (by exact congrArg (fun b => some (Value.bool b)) hg7e), trivial⟩) rfl ?_
 replace hg7 := ne_of_bne hg7
 refine G.skipG rfl rfl rfl rfl rfl rfl (G.skipG rfl rfl rfl rfl rfl rfl (G.skipG rfl rfl rfl rfl rfl rfl (G.skipG rfl rfl rfl rfl rfl rfl (G.skipG rfl rfl rfl rfl rfl rfl ?_))))
 refine G.stepD (OD.pickT rfl rfl rfl) rfl rfl rfl ?_
 refine G.stepD (OD.move rfl rfl) rfl rfl rfl ?_
 refine G.skipG rfl rfl rfl rfl rfl rfl (G.skipG rfl rfl rfl rfl rfl rfl (G.skipG rfl rfl rfl rfl rfl rfl (G.skipG rfl rfl rfl rfl rfl rfl (G.skipG rfl rfl rfl rfl rfl rfl ?_))))
 refine G.stepD (OD.pickT rfl rfl rfl) rfl rfl rfl ?_
 refine G.nil (GE.then_ (GC.condT rfl (GC.seq (GC.region ?_))))
 refine G.stepD (OD.build (idx := []) (xs := []) (vs := []) (cs := []) (zs := [.int .i64 (0), .int .i64 (0), .int .i64 (0), .slice none 0 0]) (r := [.int .i64 (0), .int .i64 (0), .int .i64 (0), .slice none 0 0]) rfl ti41 rfl rfl rfl trivial rfl) rfl rfl rfl ?_
 refine G.stepD0 (OD.store rfl ti41 rfl rfl (us := [.int .i64 (0), .int .i64 (0), .int .i64 (0), .slice none 0 0]) rfl rfl rfl (i := 0) rfl rfl) rfl rfl ?_
 refine G.stepD (OD.assign rfl rfl) rfl rfl rfl ?_
 refine G.nil (GE.then_ (GC.ret (GE.passR ?_)))
 refine GE.nilInts 3 ?_
 exact GE.body [0] 3 (resN rfl (RVs.cons (rv_cells ti41 rfl (i := 1) rfl rfl) (RVs.cons (rv_tmp rfl) RVs.nil)) rfl) rfl (⟨(.slice none 0 0), congr (congr (congr (congrArg (fun (a0 : Int) (a1 : Int) (a2 : Int) (a4 : Bool) => (.tuple #[.agg #[.int .i64 (a0), .int .i64 (a1), .int .i64 (a2), (.slice none 0 0)], .bool (a4)] : Value)) ((by rw [commF, if_neg (by simp only [commOk]; simp_all)]; rfl : (0 : Int) = (commF ⟨ap, ar, ac, ad⟩ ⟨bp, br, bc, bd⟩).p))) ((by rw [commF, if_neg (by simp only [commOk]; simp_all)]; rfl : (0 : Int) = (commF ⟨ap, ar, ac, ad⟩ ⟨bp, br, bc, bd⟩).r))) ((by rw [commF, if_neg (by simp only [commOk]; simp_all)]; rfl : (0 : Int) = (commF ⟨ap, ar, ac, ad⟩ ⟨bp, br, bc, bd⟩).c))) ((by simp only [commOk]; simp_all : (false : Bool) = commOk ⟨ap, ar, ac, ad⟩ ⟨bp, br, bc, bd⟩)), IsS.nil, congrArg (fun (l0 : List Int) => ints 3 (.slice none 0 0) l0 :: own) ((by rw [commF, if_neg (by simp only [commOk]; simp_all)]; rfl : [] = (commF ⟨ap, ar, ac, ad⟩ ⟨bp, br, bc, bd⟩).d))⟩)
 have hg7e := hg7
 refine G.at [] 0 (env' := [(0, .agg #[.int .i64 (ap), .int .i64 (ar), .int .i64 (ac), vad]), (1, .agg #[.int .i64 (bp), .int .i64 (br), .int .i64 (bc), vbd]), (2, .pointer (some ⟨g1, 0, none⟩)), (3, .pointer (some ⟨g2, 0, none⟩)), (4, .pointer (some ⟨g3, 0, none⟩)), (5, .bool false), (6, .agg #[.int .i64 (ap), .int .i64 (ar), .int .i64 (ac), vad]), (7, .bool (matOkB ⟨ap, ar, ac, ad⟩)), (8, .bool false), (9, .bool false), (10, .agg #[.int .i64 (bp), .int .i64 (br), .int .i64 (bc), vbd]), (11, .bool (matOkB ⟨bp, br, bc, bd⟩)), (12, .bool false), (13, .bool false), (14, .bool false), (15, .pointer (some ⟨g1, 0, none⟩)), (16, .int .i64 (ap)), (17, .pointer (some ⟨g2, 0, none⟩)), (18, .int .i64 (bp)), (19, .bool false), (20, .bool false), (21, .bool false), (22, .pointer (some ⟨g1, 1, none⟩)), (23, .int .i64 (ar)), (24, .pointer (some ⟨g1, 2, none⟩)), (25, .int .i64 (ac)), (26, .bool false), (27, .bool false), (28, .bool false)]) (⟨rfl, rfl, rfl, rfl, rfl, rfl, rfl, rfl, rfl, rfl, rfl, rfl, rfl, rfl, rfl, rfl, rfl, rfl, rfl, rfl, rfl, rfl, rfl, rfl, rfl, rfl, (by exact congrArg (fun b => some (Value.bool b)) hg7e), (by exact congrArg (fun b => some (Value.bool b)) hg7e), (by exact congrArg (fun b => some (Value.bool b)) hg7e), trivial⟩) rfl ?_
 replace hg7 := eq_of_bne_false hg7
 refine G.stepGD (OD.fieldAddr rfl rfl fa41_1) rfl rfl rfl rfl rfl ?_
 refine G.stepGD (OD.load rfl ti3 rfl (i := 1) rfl rfl) rfl rfl rfl rfl rfl ?_
 refine G.stepGD (OD.fieldAddr rfl rfl fa41_1) rfl rfl rfl rfl rfl ?_
 refine G.stepGD (OD.load rfl ti3 rfl (i := 2) rfl rfl) rfl rfl rfl rfl rfl ?_
 refine G.stepGD (OD.neq rfl rfl rfl) rfl rfl rfl rfl rfl ?_
 refine G.stepD (OD.pickF rfl rfl rfl) rfl rfl rfl ?_
 refine G.stepD (OD.move rfl rfl) rfl rfl rfl ?_
 rcases Bool.eq_false_or_eq_true (br != ar) with hg8 | hg8
 have hg8e := hg8
 refine G.at [] 0 (env' := [(0, .agg #[.int .i64 (ap), .int .i64 (ar), .int .i64 (ac), vad]), (1, .agg #[.int .i64 (bp), .int .i64 (br), .int .i64 (bc), vbd]), (2, .pointer (some ⟨g1, 0, none⟩)), (3, .pointer (some ⟨g2, 0, none⟩)), (4, .pointer (some ⟨g3, 0, none⟩)), (5, .bool false), (6, .agg #[.int .i64 (ap), .int .i64 (ar), .int .i64 (ac), vad]), (7, .bool (matOkB ⟨ap, ar, ac, ad⟩)), (8, .bool false), (9, .bool false), (10, .agg #[.int .i64 (bp), .int .i64 (br), .int .i64 (bc), vbd]), (11, .bool (matOkB ⟨bp, br, bc, bd⟩)), (12, .bool false), (13, .bool false), (14, .bool false), (15, .pointer (some ⟨g1, 0, none⟩)), (16, .int .i64 (ap)), (17, .pointer (some ⟨g2, 0, none⟩)), (18, .int .i64 (bp)), (19, .bool false), (20, .bool false), (21, .bool false), (22, .pointer (some ⟨g1, 1, none⟩)), (23, .int .i64 (ar)), (24, .pointer (some ⟨g1, 2, none⟩)), (25, .int .i64 (ac)), (26, .bool false), (27, .bool false), (28, .bool false), (29, .pointer (some ⟨g2, 1, none⟩)), (30, .int .i64 (br)), (31, .pointer (some ⟨g1, 1, none⟩)), (32, .int .i64 (ar)), (33, .bool true), (34, .bool true), (35, .bool true)]) (⟨rfl, rfl, rfl, rfl, rfl, rfl, rfl, rfl, rfl, rfl, rfl, rfl, rfl, rfl, rfl, rfl, rfl, rfl, rfl, rfl, rfl, rfl, rfl, rfl, rfl, rfl, rfl, rfl, rfl, rfl, rfl, rfl, rfl, (by exact congrArg (fun b => some (Value.bool b)) hg8e), (by exact congrArg (fun b => some (Value.bool b)) hg8e), (by exact congrArg (fun b => some (Value.bool b)) hg8e), trivial⟩) rfl ?_
 replace hg8 := ne_of_bne hg8
 refine G.skipG rfl rfl rfl rfl rfl rfl (G.skipG rfl rfl rfl rfl rfl rfl (G.skipG rfl rfl rfl rfl rfl rfl (G.skipG rfl rfl rfl rfl rfl rfl (G.skipG rfl rfl rfl rfl rfl rfl ?_))))
 refine G.stepD (OD.pickT rfl rfl rfl) rfl rfl rfl ?_
 refine G.nil (GE.then_ (GC.condT rfl (GC.seq (GC.region ?_))))
 refine G.stepD (OD.build (idx := []) (xs := []) (vs := []) (cs := []) (zs := [.int .i64 (0), .int .i64 (0), .int .i64 (0), .slice none 0 0]) (r := [.int .i64 (0), .int .i64 (0), .int .i64 (0), .slice none 0 0]) rfl ti41 rfl rfl rfl trivial rfl) rfl rfl rfl ?_
 refine G.stepD0 (OD.store rfl ti41 rfl rfl (us := [.int .i64 (0), .int .i64 (0), .int .i64 (0), .slice none 0 0]) rfl rfl rfl (i := 0) rfl rfl) rfl rfl ?_
 refine G.stepD (OD.assign rfl rfl) rfl rfl rfl ?_
 refine G.nil (GE.then_ (GC.ret (GE.passR ?_)))
 refine GE.nilInts 3 ?_
 exact GE.body [0] 3 (resN rfl (RVs.cons (rv_cells ti41 rfl (i := 1) rfl rfl) (RVs.cons (rv_tmp rfl) RVs.nil)) rfl) rfl (⟨(.slice none 0 0), congr (congr (congr (congrArg (fun (a0 : Int) (a1 : Int) (a2 : Int) (a4 : Bool) => (.tuple #[.agg #[.int .i64 (a0), .int .i64 (a1), .int .i64 (a2), (.slice none 0 0)], .bool (a4)] : Value)) ((by rw [commF, if_neg (by simp only [commOk]; simp_all)]; rfl : (0 : Int) = (commF ⟨ap, ar, ac, ad⟩ ⟨bp, br, bc, bd⟩).p))) ((by rw [commF, if_neg (by simp only [commOk]; simp_all)]; rfl : (0 : Int) = (commF ⟨ap, ar, ac, ad⟩ ⟨bp, br, bc, bd⟩).r))) ((by rw [commF, if_neg (by simp only [commOk]; simp_all)]; rfl : (0 : Int) = (commF ⟨ap, ar, ac, ad⟩ ⟨bp, br, bc, bd⟩).c))) ((by simp only [commOk]; simp_all : (false : Bool) = commOk ⟨ap, ar, ac, ad⟩ ⟨bp, br, bc, bd⟩)), IsS.nil, congrArg (fun (l0 : List Int) => ints 3 (.slice none 0 0) l0 :: own) ((by rw [commF, if_neg (by simp only [commOk]; simp_all)]; rfl : [] = (commF ⟨ap, ar, ac, ad⟩ ⟨bp, br, bc, bd⟩).d))⟩)
 have hg8e := hg8
 refine G.at [] 0 (env' := [(0, .agg #[.int .i64 (ap), .int .i64 (ar), .int .i64 (ac), vad]), (1, .agg #[.int .i64 (bp), .int .i64 (br), .int .i64 (bc), vbd]), (2, .pointer (some ⟨g1, 0, none⟩)), (3, .pointer (some ⟨g2, 0, none⟩)), (4, .pointer (some ⟨g3, 0, none⟩)), (5, .bool false), (6, .agg #[.int .i64 (ap), .int .i64 (ar), .int .i64 (ac), vad]), (7, .bool (matOkB ⟨ap, ar, ac, ad⟩)), (8, .bool false), (9, .bool false), (10, .agg #[.int .i64 (bp), .int .i64 (br), .int .i64 (bc), vbd]), (11, .bool (matOkB ⟨bp, br, bc, bd⟩)), (12, .bool false), (13, .bool false), (14, .bool false), (15, .pointer (some ⟨g1, 0, none⟩)), (16, .int .i64 (ap)), (17, .pointer (some ⟨g2, 0, none⟩)), (18, .int .i64 (bp)), (19, .bool false), (20, .bool false), (21, .bool false), (22, .pointer (some ⟨g1, 1, none⟩)), (23, .int .i64 (ar)), (24, .pointer (some ⟨g1, 2, none⟩)), (25, .int .i64 (ac)), (26, .bool false), (27, .bool false), (28, .bool false), (29, .pointer (some ⟨g2, 1, none⟩)), (30, .int .i64 (br)), (31, .pointer (some ⟨g1, 1, none⟩)), (32, .int .i64 (ar)), (33, .bool false), (34, .bool false), (35, .bool false)]) (⟨rfl, rfl, rfl, rfl, rfl, rfl, rfl, rfl, rfl, rfl, rfl, rfl, rfl, rfl, rfl, rfl, rfl, rfl, rfl, rfl, rfl, rfl, rfl, rfl, rfl, rfl, rfl, rfl, rfl, rfl, rfl, rfl, rfl, (by exact congrArg (fun b => some (Value.bool b)) hg8e), (by exact congrArg (fun b => some (Value.bool b)) hg8e), (by exact congrArg (fun b => some (Value.bool b)) hg8e), trivial⟩) rfl ?_
 replace hg8 := eq_of_bne_false hg8
 refine G.stepGD (OD.fieldAddr rfl rfl fa41_2) rfl rfl rfl rfl rfl ?_
 refine G.stepGD (OD.load rfl ti3 rfl (i := 1) rfl rfl) rfl rfl rfl rfl rfl ?_
 refine G.stepGD (OD.fieldAddr rfl rfl fa41_2) rfl rfl rfl rfl rfl ?_
 refine G.stepGD (OD.load rfl ti3 rfl (i := 2) rfl rfl) rfl rfl rfl rfl rfl ?_
 refine G.stepGD (OD.neq rfl rfl rfl) rfl rfl rfl rfl rfl ?_
 refine G.stepD (OD.pickF rfl rfl rfl) rfl rfl rfl ?_
 refine G.nil (GE.then_ ?_)
 refine GC.cond rfl (fun hc9 => ?_) (fun hc9 => ?_)
 replace hc9 := ne_of_bne hc9
 refine GC.seq (GC.region ?_)
 refine G.stepD (OD.build (idx := []) (xs := []) (vs := []) (cs := []) (zs := [.int .i64 (0), .int .i64 (0), .int .i64 (0), .slice none 0 0]) (r := [.int .i64 (0), .int .i64 (0), .int .i64 (0), .slice none 0 0]) rfl ti41 rfl rfl rfl trivial rfl) rfl rfl rfl ?_
 refine G.stepD0 (OD.store rfl ti41 rfl rfl (us := [.int .i64 (0), .int .i64 (0), .int .i64 (0), .slice none 0 0]) rfl rfl rfl (i := 0) rfl rfl) rfl rfl ?_
 refine G.stepD (OD.assign rfl rfl) rfl rfl rfl ?_
 refine G.nil (GE.then_ (GC.ret (GE.passR ?_)))
 refine GE.nilInts 3 ?_
 exact GE.body [0] 3 (resN rfl (RVs.cons (rv_cells ti41 rfl (i := 1) rfl rfl) (RVs.cons (rv_tmp rfl) RVs.nil)) rfl) rfl (⟨(.slice none 0 0), congr (congr (congr (congrArg (fun (a0 : Int) (a1 : Int) (a2 : Int) (a4 : Bool) => (.tuple #[.agg #[.int .i64 (a0), .int .i64 (a1), .int .i64 (a2), (.slice none 0 0)], .bool (a4)] : Value)) ((by rw [commF, if_neg (by simp only [commOk]; simp_all)]; rfl : (0 : Int) = (commF ⟨ap, ar, ac, ad⟩ ⟨bp, br, bc, bd⟩).p))) ((by rw [commF, if_neg (by simp only [commOk]; simp_all)]; rfl : (0 : Int) = (commF ⟨ap, ar, ac, ad⟩ ⟨bp, br, bc, bd⟩).r))) ((by rw [commF, if_neg (by simp only [commOk]; simp_all)]; rfl : (0 : Int) = (commF ⟨ap, ar, ac, ad⟩ ⟨bp, br, bc, bd⟩).c))) ((by simp only [commOk]; simp_all : (false : Bool) = commOk ⟨ap, ar, ac, ad⟩ ⟨bp, br, bc, bd⟩)), IsS.nil, congrArg (fun (l0 : List Int) => ints 3 (.slice none 0 0) l0 :: own) ((by rw [commF, if_neg (by simp only [commOk]; simp_all)]; rfl : [] = (commF ⟨ap, ar, ac, ad⟩ ⟨bp, br, bc, bd⟩).d))⟩)
 replace hc9 := eq_of_bne_false hc9
 have h1 : matOkB ⟨ap, ar, ac, ad⟩ = true := hg4
 have h2 : matOkB ⟨bp, br, bc, bd⟩ = true := hg5
 have h3 : ap = bp := by omega
 have h4 : ar = ac := by omega
 have h5 : br = ar := by omega
 have h6 : bc = ac := by omega
 obtain ⟨hr, hc, hal, hap⟩ := matOk_dim h1
 obtain ⟨hr2, hc2, hbl, hbp⟩ := matOk_dim h2
 have hg1 := matOk_rg h1
 have hg2 := matOk_rg h2
 simp only at hr hc hal hap hr2 hc2 hbl hbp hg1 hg2
 have hg3 : Rg bp ad := h3 ▸ hg1
 have hg4 : Rg ap bd := by rw [h3]; exact hg2
 have hok : commOk ⟨ap, ar, ac, ad⟩ ⟨bp, br, bc, bd⟩ = true := commOk_t h1 h2 h3 h4 h5 h6
 have hu := mulF_rg (ar := ar) (ac := ac) (bc := bc) ⟨by omega, hap.2⟩ hg1 hg4
 have hv := mulF_rg (ar := br) (ac := bc) (bc := ac) ⟨by omega, hbp.2⟩ hg2 hg3
 have hm1 := mulBd (A := 40) (B := 40) hr hc2
 have hm2 := mulBd (A := 40) (B := 40) hr2 hc
 have hul := mulF_len ap ar ac bc ad bd
 have hvl := mulF_len bp br bc ac bd ad
 have hmm : ar * bc = br * ac := by rw [h5, h6]
 refine GC.skip (GE.then_ (GC.seq ?_))
 refine GC.at [] 0 (env' := [(2, .pointer (some ⟨g1, 0, none⟩)), (3, .pointer (some ⟨g2, 0, none⟩)), (4, .pointer (some ⟨g3, 0, none⟩)), (5, .bool false)]) ⟨rfl, rfl, rfl, rfl, trivial⟩ rfl ?_
 refine GC.par (its := [⟨43, [], [], [], [], fun _ => .agg #[.int .i64 (ap), .int .i64 (ar), .int .i64 (ac), vad], fun _ => True, fun _ => []⟩,
     ⟨44, [], [], [], [], fun _ => .agg #[.int .i64 (bp), .int .i64 (br), .int .i64 (bc), vbd], fun _ => True, fun _ => []⟩,
     ⟨45, [(0, 43), (1, 44)], [], [], [2], fun ds => .agg #[.int .i64 (ap), .int .i64 (ar), .int .i64 (bc), ((ds.getD 0 []).getD 0 undef)], fun ds => IsS ((ds.getD 0 []).getD 0 undef), fun ds => [ints 3 ((ds.getD 0 []).getD 0 undef) (mulF ap ar ac bc ad bd)]⟩,
     ⟨46, [], [], [], [], fun _ => .pointer (some ⟨g1, 0, none⟩), fun _ => True, fun _ => []⟩,
     ⟨47, [(3, 46)], [], [], [], fun _ => .int .i64 (ap), fun _ => True, fun _ => []⟩,
     ⟨48, [(4, 47)], [], [], [], fun _ => .int .i64 (ap - 1), fun _ => True, fun _ => []⟩,
     ⟨49, [], [], [], [], fun _ => .agg #[.int .i64 (bp), .int .i64 (br), .int .i64 (bc), vbd], fun _ => True, fun _ => []⟩,
     ⟨50, [], [], [], [], fun _ => .agg #[.int .i64 (ap), .int .i64 (ar), .int .i64 (ac), vad], fun _ => True, fun _ => []⟩,
     ⟨51, [(6, 49), (7, 50)], [], [], [8], fun ds => .agg #[.int .i64 (bp), .int .i64 (br), .int .i64 (ac), ((ds.getD 0 []).getD 0 undef)], fun ds => IsS ((ds.getD 0 []).getD 0 undef), fun ds => [ints 3 ((ds.getD 0 []).getD 0 undef) (mulF bp br bc ac bd ad)]⟩,
     ⟨52, [(2, 45), (5, 48), (8, 51)], [2, 8], [], [2, 8, 9], fun ds => .agg #[.int .i64 (ap), .int .i64 (ar), .int .i64 (bc), ((ds.getD 2 []).getD 0 undef)], fun ds => IsS ((ds.getD 2 []).getD 0 undef), fun ds => [ints 3 ((ds.getD 2 []).getD 0 undef) (addF (ap - 1) ap (mulF ap ar ac bc ad bd) (mulF bp br bc ac bd ad))]⟩]) (by kernel_rfl) (by kernel_rfl) (POps.cons ?_ (POps.cons ?_ (POps.cons ?_ (POps.cons ?_ (POps.cons ?_ (POps.cons ?_ (POps.cons ?_ (POps.cons ?_ (POps.cons ?_ (POps.cons ?_ POps.nil)))))))))) ?_
 intro θ R hd
 exact Opp.plain (OG.imp (OD.loadAgg rfl ti41 rfl (i := 2) rfl (us := [.int .i64 (ap), .int .i64 (ar), .int .i64 (ac), vad]) rfl rfl) (by rintro _ _ ⟨rfl, rfl⟩; exact ⟨[], rfl, trivial, rfl⟩)) rfl
 intro θ R hd
 exact Opp.plain (OG.imp (OD.loadAgg rfl ti41 rfl (i := 1) rfl (us := [.int .i64 (bp), .int .i64 (br), .int .i64 (bc), vbd]) rfl rfl) (by rintro _ _ ⟨rfl, rfl⟩; exact ⟨[], rfl, trivial, rfl⟩)) rfl
 intro θ R hd
 obtain ⟨h0d, h1d, _⟩ := hd
 exact Opp.plain (OG.imp (OG.call [.agg #[.int .i64 (ap), .int .i64 (ar), .int .i64 (ac), vad], .agg #[.int .i64 (bp), .int .i64 (br), .int .i64 (bc), vbd]] ent52 rfl rfl rfl rfl (by exact (times_w sad (Ent.drop 3 ead.app) sbd (Ent.drop 3 ebd.app) (hr) (hc) (hc2) (hal) (by rw [hbl, h5, h4]) (hap)))) (by rintro _ _ ⟨v10, rfl, hs11, rfl⟩; exact ⟨[v10], rfl, hs11, rfl⟩)) rfl
 intro θ R hd
 exact Opp.plain (OG.imp (OD.fieldAddr rfl rfl fa41_0) (by rintro _ _ ⟨rfl, rfl⟩; exact ⟨[], rfl, trivial, rfl⟩)) rfl
 intro θ R hd
 obtain ⟨h3d, _⟩ := hd
 exact Opp.plain (OG.imp (OD.load rfl ti3 rfl (i := 2) rfl rfl) (by rintro _ _ ⟨rfl, rfl⟩; exact ⟨[], rfl, trivial, rfl⟩)) rfl
 intro θ R hd
 obtain ⟨h4d, _⟩ := hd
 exact Opp.plain (OG.imp (OD.subI rfl rfl rfl (by omega)) (by rintro _ _ ⟨rfl, rfl⟩; exact ⟨[], rfl, trivial, rfl⟩)) rfl
 intro θ R hd
 exact Opp.plain (OG.imp (OD.loadAgg rfl ti41 rfl (i := 1) rfl (us := [.int .i64 (bp), .int .i64 (br), .int .i64 (bc), vbd]) rfl rfl) (by rintro _ _ ⟨rfl, rfl⟩; exact ⟨[], rfl, trivial, rfl⟩)) rfl
 intro θ R hd
 exact Opp.plain (OG.imp (OD.loadAgg rfl ti41 rfl (i := 2) rfl (us := [.int .i64 (ap), .int .i64 (ar), .int .i64 (ac), vad]) rfl rfl) (by rintro _ _ ⟨rfl, rfl⟩; exact ⟨[], rfl, trivial, rfl⟩)) rfl
 intro θ R hd
 obtain ⟨h6d, h7d, _⟩ := hd
 exact Opp.plain (OG.imp (OG.call [.agg #[.int .i64 (bp), .int .i64 (br), .int .i64 (bc), vbd], .agg #[.int .i64 (ap), .int .i64 (ar), .int .i64 (ac), vad]] ent52 rfl rfl rfl rfl (by exact (times_w sbd (Ent.drop 3 ebd.app) sad (Ent.drop 3 ead.app) (hr2) (hc2) (hc) (hbl) (by rw [hal, h4, h6]) (hbp)))) (by rintro _ _ ⟨v12, rfl, hs13, rfl⟩; exact ⟨[v12], rfl, hs13, rfl⟩)) rfl
 intro θ R hd
 obtain ⟨h2d, h5d, h8d, _⟩ := hd
 exact Opp.plain (OG.imp (OG.call [.agg #[.int .i64 (ap), .int .i64 (ar), .int .i64 (bc), ((θ 2).getD 0 undef)], .int .i64 (ap - 1), .agg #[.int .i64 (bp), .int .i64 (br), .int .i64 (ac), ((θ 8).getD 0 undef)]] ent51 rfl rfl rfl rfl (by exact (plus_s h2d (Ent.ints (i := 0) rfl) h8d (Ent.ints (i := 1) rfl) (small_of hap (by omega) hu) (small_of hbp (by omega) hv) (by omega) (by rw [hul, hvl, hmm]; exact Nat.le_refl _)))) (by rintro _ _ ⟨v14, rfl, hs15, rfl⟩; exact ⟨[v14], rfl, hs15, rfl⟩)) rfl
 intro θ hall
 obtain ⟨_, _, h2a, _, _, _, _, _, h8a, h9a, _⟩ := hall
 refine G.at [] 0 (env' := [(4, .pointer (some ⟨g3, 0, none⟩)), (5, .bool false), (52, .agg #[.int .i64 (ap), .int .i64 (ar), .int .i64 (bc), ((θ 9).getD 0 undef)])]) ⟨rfl, rfl, rfl, trivial⟩ (own' := ints 3 ((θ 2).getD 0 undef) (mulF ap ar ac bc ad bd) :: ints 3 ((θ 8).getD 0 undef) (mulF bp br bc ac bd ad) :: ints 3 ((θ 9).getD 0 undef) (addF (ap - 1) ap (mulF ap ar ac bc ad bd) (mulF bp br bc ac bd ad)) :: box g3 41 [.int .i64 (0), .int .i64 (0), .int .i64 (0), .slice none 0 0] :: box g2 41 [.int .i64 (bp), .int .i64 (br), .int .i64 (bc), vbd] :: box g1 41 [.int .i64 (ap), .int .i64 (ar), .int .i64 (ac), vad] :: own) rfl ?_
 have hs16 : IsS ((θ 2).getD 0 undef) := h2a
 clear h2a
 generalize ((θ 2).getD 0 undef) = v17 at *
 have hs18 : IsS ((θ 8).getD 0 undef) := h8a
 clear h8a
 generalize ((θ 8).getD 0 undef) = v19 at *
 have hs20 : IsS ((θ 9).getD 0 undef) := h9a
 clear h9a
 generalize ((θ 9).getD 0 undef) = v21 at *
 show G _ _ _ [_, _] _ _ _ _
 refine G.stepD0 (OD.store rfl ti41 rfl rfl (us := [.int .i64 (ap), .int .i64 (ar), .int .i64 (bc), v21]) rfl rfl (allC rfl (allC rfl (allC rfl (allC (IsS.one hs20) rfl)))) (i := 3) rfl rfl) rfl rfl ?_
 refine G.stepD (OD.assign rfl rfl) rfl rfl rfl ?_
 refine G.nil (GE.then_ (GC.ret ?_))
 exact GE.body [2] 5 (resN rfl (RVs.cons (rv_cells ti41 rfl (i := 3) rfl rfl) (RVs.cons (rv_tmp rfl) RVs.nil)) rfl) rfl (⟨v21, congr (congr (congr (congrArg (fun (a0 : Int) (a1 : Int) (a2 : Int) (a4 : Bool) => (.tuple #[.agg #[.int .i64 (a0), .int .i64 (a1), .int .i64 (a2), v21], .bool (a4)] : Value)) ((by rw [commF, if_pos hok] : (ap : Int) = (commF ⟨ap, ar, ac, ad⟩ ⟨bp, br, bc, bd⟩).p))) ((by rw [commF, if_pos hok] : (ar : Int) = (commF ⟨ap, ar, ac, ad⟩ ⟨bp, br, bc, bd⟩).r))) ((by rw [commF, if_pos hok] : (bc : Int) = (commF ⟨ap, ar, ac, ad⟩ ⟨bp, br, bc, bd⟩).c))) ((hok.symm : (true : Bool) = commOk ⟨ap, ar, ac, ad⟩ ⟨bp, br, bc, bd⟩)), hs20, congrArg (fun (l0 : List Int) => ints 3 v21 l0 :: own) ((by rw [commF, if_pos hok] : addF (ap - 1) ap (mulF ap ar ac bc ad bd) (mulF bp br bc ac bd ad) = (commF ⟨ap, ar, ac, ad⟩ ⟨bp, br, bc, bd⟩).d))⟩)
end Go.Proofs.Ytbmnnbglipkidaa
