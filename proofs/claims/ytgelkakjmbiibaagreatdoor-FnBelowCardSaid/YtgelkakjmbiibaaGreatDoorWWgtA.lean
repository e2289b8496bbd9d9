/-
  Weights of a matrix: contracts by walks.
-/
import Derived.Test.YtgelkakjmbiibaaGreatDoorFct
import Derived.Test.YtgelkakjmbiibaaGreatDoorWTofA
import Derived.Test.YtgelkakjmbiibaaGreatDoorZ16
namespace Go.Proofs.YtgelkakjmbiibaaGreatDoor
set_option linter.unusedVariables false
set_option linter.unusedSimpArgs false
open Go.RowKit
end Go.Proofs.YtgelkakjmbiibaaGreatDoor
namespace Go.Proofs.YtgelkakjmbiibaaGreatDoor
set_option linter.unusedVariables false
set_option linter.unusedSimpArgs false
open Go.RowKit
set_option maxRecDepth 100000 in
theorem reflectWeight_w {W : World} {own : List Asn} {cr : Int} {vcd : Value} {cd : List Int} {i : Int} {vx : Value} {x : List Int}  (scd : IsS vcd) (ecd : Ent own fun w => Ints w vcd cd)   (sx : IsS vx) (ex : Ent own fun w => Ints w vx x)  (hcr : 1 ≤ cr ∧ cr ≤ 4) (hcd : (cd.length : Int) = cr * cr) (hi : 0 ≤ i ∧ i < cr) (hw : (x.length : Int) = cr) : Spec Tryz.prog 67 [.agg #[.int .i64 (cr), vcd], .int .i64 (i), vx] W own (fun v ow => ∃ (r0 : Value), v = r0 ∧ IsS r0 ∧ ow = ints 3 r0 (rfF cr cd i x) :: own) := by
 refine Spec.enter Tryz.f67 _ Tryz.func67 rfl (n := 33) rfl rfl ?_
 refine GC.seq (GC.region ?_)
 refine G.step (OG.box (cs := [.int .i64 (cr), vcd]) rfl rfl rfl) rfl rfl rfl ?_
 rintro _ _ ⟨g1, rfl, rfl⟩
 refine G.stepD (OD.assign rfl rfl) rfl rfl rfl ?_
 refine G.nil (GE.then_ (GC.seq (GC.region ?_)))
 refine G.stepD (OD.move rfl rfl) rfl rfl rfl ?_
 refine G.step (OG.call [vx] ent76 rfl rfl rfl rfl (by exact (clone_w sx (Ent.drop 1 ex) (by omega)))) rfl rfl rfl ?_
 rintro v2 _ ⟨_, rfl, hs3, rfl⟩
 refine G.stepD (OD.assign rfl rfl) rfl rfl rfl ?_
 refine G.nil (GE.then_ (GC.seq (GC.seq (GC.region ?_))))
 refine G.stepD (OD.move rfl rfl) rfl rfl rfl ?_
 refine G.stepD (OD.len rfl rfl et22 rfl (Ent.ints (i := 0) rfl)) rfl rfl rfl ?_
 refine G.stepD (OD.move rfl rfl) rfl rfl rfl ?_
 refine G.nil (GE.then_ (GC.block ?_))
 refine GC.loop (ι := Nat × List Int) (fun ⟨k, ys⟩ => [(1, .int .i64 (i)), (2, vx), (3, .pointer (some ⟨g1, 0, none⟩)), (7, v2), (12, .int .i64 ((x.length : Nat))), (13, .int .i64 ((k : Int)))]) (fun ⟨k, ys⟩ => ints 3 v2 ys :: box g1 27 [.int .i64 (cr), vcd] :: own) (fun ⟨k, ys⟩ => (k ≤ x.length) ∧ (ys.length = x.length) ∧ (∀ t, k ≤ t → ys.getD t 0 = x.getD t 0) ∧ (ys = (List.range k).foldl (rfI cr cd i x) x)) (fun ⟨k, ys⟩ => x.length - k) (0, x) (⟨by omega, rfl, fun _ _ => rfl, rfl⟩) ⟨rfl, rfl, rfl, rfl, rfl, rfl, trivial⟩ [] 0 rfl ?_
 rintro ⟨k, ys⟩ ⟨hk, hyl, hsm, hy⟩
 refine GC.seq (GC.region ?_)
 refine G.stepD (OD.lss rfl rfl rfl) rfl rfl rfl ?_
 refine G.nil (GE.then_ (GC.seq ?_))
 refine GC.cond rfl (fun hc4 => ?_) (fun hc4 => ?_)
 replace hc4 := of_decide_eq_true hc4
 have hxx := idx_bd (n := cr) (i := k) (j := i) ⟨by omega, by omega⟩ ⟨by omega, by omega⟩ (by omega)
 refine GC.skip (GE.then_ (GC.seq (GC.block (GC.seq (GC.region ?_)))))
 refine G.stepD (OD.move rfl rfl) rfl rfl rfl ?_
 refine G.stepD (OD.assign rfl rfl) rfl rfl rfl ?_
 refine G.nil (GE.then_ ?_)
 refine GC.at [] 0 (env' := [(1, .int .i64 (i)), (2, vx), (3, .pointer (some ⟨g1, 0, none⟩)), (7, v2), (12, .int .i64 ((x.length : Nat))), (13, .int .i64 ((k : Int))), (8, .int .i64 ((k : Int)))]) ⟨rfl, rfl, rfl, rfl, rfl, rfl, rfl, trivial⟩ rfl ?_
 refine GC.par (its := [⟨16, [], [], [], [], fun _ => v2, fun _ => True, fun _ => []⟩,
     ⟨17, [], [], [], [], fun _ => .int .i64 ((k : Int)), fun _ => True, fun _ => []⟩,
     ⟨18, [(0, 16), (1, 17)], [], [], [], fun _ => elemPtr v2 1 (k), fun _ => True, fun _ => []⟩,
     ⟨19, [(2, 18)], [], [], [], fun _ => .int .i64 (ys.getD (k) 0), fun _ => True, fun _ => []⟩,
     ⟨20, [], [], [], [], fun _ => vx, fun _ => True, fun _ => []⟩,
     ⟨21, [], [], [], [], fun _ => .int .i64 (i), fun _ => True, fun _ => []⟩,
     ⟨22, [(4, 20), (5, 21)], [], [], [], fun _ => elemPtr vx 1 ((i : Int).toNat), fun _ => True, fun _ => []⟩,
     ⟨23, [(6, 22)], [], [], [], fun _ => .int .i64 (x.getD ((i : Int).toNat) 0), fun _ => True, fun _ => []⟩,
     ⟨24, [], [], [], [], fun _ => .agg #[.int .i64 (cr), vcd], fun _ => True, fun _ => []⟩,
     ⟨25, [], [], [], [], fun _ => .int .i64 ((k : Int)), fun _ => True, fun _ => []⟩,
     ⟨26, [], [], [], [], fun _ => .int .i64 (i), fun _ => True, fun _ => []⟩,
     ⟨27, [(8, 24), (9, 25), (10, 26)], [], [], [], fun _ => .int .i64 (atI cr cd (k : Int) i), fun _ => True, fun _ => []⟩,
     ⟨28, [(7, 23), (11, 27)], [], [], [], fun _ => .int .i64 (IntKind.i64.wrap ((x.getD ((i : Int).toNat) 0) * (atI cr cd (k : Int) i))), fun _ => True, fun _ => []⟩,
     ⟨29, [(3, 19), (12, 28)], [], [], [], fun _ => .int .i64 (IntKind.i64.wrap ((ys.getD (k) 0) - (IntKind.i64.wrap ((x.getD ((i : Int).toNat) 0) * (atI cr cd (k : Int) i))))), fun _ => True, fun _ => []⟩,
     ⟨30, [(0, 16), (1, 17)], [], [], [], fun _ => elemPtr v2 1 (k), fun _ => True, fun _ => []⟩]) (by kernel_rfl) (by kernel_rfl) (POps.cons ?_ (POps.cons ?_ (POps.cons ?_ (POps.cons ?_ (POps.cons ?_ (POps.cons ?_ (POps.cons ?_ (POps.cons ?_ (POps.cons ?_ (POps.cons ?_ (POps.cons ?_ (POps.cons ?_ (POps.cons ?_ (POps.cons ?_ (POps.cons ?_ POps.nil))))))))))))))) ?_
 intro θ R hd
 exact Opp.plain (OG.imp (OD.move rfl rfl) (by rintro _ _ ⟨rfl, rfl⟩; exact ⟨[], rfl, trivial, rfl⟩)) rfl
 intro θ R hd
 exact Opp.plain (OG.imp (OD.move rfl rfl) (by rintro _ _ ⟨rfl, rfl⟩; exact ⟨[], rfl, trivial, rfl⟩)) rfl
 intro θ R hd
 obtain ⟨h0d, h1d, _⟩ := hd
 exact Opp.plain (OG.imp (OD.indexAddr rfl et22 rfl (Ent.ints (i := 0) rfl) rfl (by omega)) (by rintro _ _ ⟨rfl, rfl⟩; exact ⟨[], rfl, trivial, rfl⟩)) rfl
 intro θ R hd
 obtain ⟨h2d, _⟩ := hd
 exact Opp.plain (OG.imp (OD.loadInt rfl ti3 rfl (Ent.ints (i := 0) rfl) (by omega)) (by rintro _ _ ⟨rfl, rfl⟩; exact ⟨[], rfl, trivial, rfl⟩)) rfl
 intro θ R hd
 exact Opp.plain (OG.imp (OD.move rfl rfl) (by rintro _ _ ⟨rfl, rfl⟩; exact ⟨[], rfl, trivial, rfl⟩)) rfl
 intro θ R hd
 exact Opp.plain (OG.imp (OD.move rfl rfl) (by rintro _ _ ⟨rfl, rfl⟩; exact ⟨[], rfl, trivial, rfl⟩)) rfl
 intro θ R hd
 obtain ⟨h4d, h5d, _⟩ := hd
 exact Opp.plain (OG.imp (OD.indexAddr rfl et22 rfl (Ent.drop 2 ex.app) rfl (by omega)) (by rintro _ _ ⟨rfl, rfl⟩; exact ⟨[], rfl, trivial, rfl⟩)) rfl
 intro θ R hd
 obtain ⟨h6d, _⟩ := hd
 exact Opp.plain (OG.imp (OD.loadInt rfl ti3 rfl (Ent.drop 2 ex.app) (by omega)) (by rintro _ _ ⟨rfl, rfl⟩; exact ⟨[], rfl, trivial, rfl⟩)) rfl
 intro θ R hd
 exact Opp.plain (OG.imp (OD.loadAgg rfl ti27 rfl (i := 1) rfl (us := [.int .i64 (cr), vcd]) rfl rfl) (by rintro _ _ ⟨rfl, rfl⟩; exact ⟨[], rfl, trivial, rfl⟩)) rfl
 intro θ R hd
 exact Opp.plain (OG.imp (OD.move rfl rfl) (by rintro _ _ ⟨rfl, rfl⟩; exact ⟨[], rfl, trivial, rfl⟩)) rfl
 intro θ R hd
 exact Opp.plain (OG.imp (OD.move rfl rfl) (by rintro _ _ ⟨rfl, rfl⟩; exact ⟨[], rfl, trivial, rfl⟩)) rfl
 intro θ R hd
 obtain ⟨h8d, h9d, h10d, _⟩ := hd
 exact Opp.plain (OG.imp (OG.call [.agg #[.int .i64 (cr), vcd], .int .i64 ((k : Int)), .int .i64 (i)] ent125 rfl rfl rfl rfl (by exact (at_w scd (Ent.drop 2 ecd.app) (by omega)))) (by rintro _ _ ⟨rfl, rfl⟩; exact ⟨[], rfl, trivial, rfl⟩)) rfl
 intro θ R hd
 obtain ⟨h7d, h11d, _⟩ := hd
 exact Opp.plain (OG.imp (OD.mul rfl rfl rfl) (by rintro _ _ ⟨rfl, rfl⟩; exact ⟨[], rfl, trivial, rfl⟩)) rfl
 intro θ R hd
 obtain ⟨h3d, h12d, _⟩ := hd
 exact Opp.plain (OG.imp (OD.sub rfl rfl rfl) (by rintro _ _ ⟨rfl, rfl⟩; exact ⟨[], rfl, trivial, rfl⟩)) rfl
 intro θ R hd
 obtain ⟨h0d, h1d, _⟩ := hd
 exact Opp.plain (OG.imp (OD.indexAddr rfl et22 rfl (Ent.ints (i := 0) rfl) rfl (by omega)) (by rintro _ _ ⟨rfl, rfl⟩; exact ⟨[], rfl, trivial, rfl⟩)) rfl
 intro θ hall
 obtain ⟨_, _, _, _, _, _, _, _, _, _, _, _, _, _, _, _⟩ := hall
 refine G.at [] 0 (env' := [(1, .int .i64 (i)), (2, vx), (3, .pointer (some ⟨g1, 0, none⟩)), (7, v2), (12, .int .i64 ((x.length : Nat))), (13, .int .i64 ((k : Int))), (29, .int .i64 (IntKind.i64.wrap ((ys.getD (k) 0) - (IntKind.i64.wrap ((x.getD ((i : Int).toNat) 0) * (atI cr cd (k : Int) i)))))), (30, elemPtr v2 1 (k))]) ⟨rfl, rfl, rfl, rfl, rfl, rfl, rfl, rfl, trivial⟩ (own' := ints 3 v2 ys :: box g1 27 [.int .i64 (cr), vcd] :: own) rfl ?_
 show G _ _ _ [_] _ _ _ _
 refine G.stepD0 (OD.storeInt rfl ti3 rfl rfl (i := 0) rfl (by omega)) rfl rfl ?_
 refine G.nil (GE.blockN (GE.then_ (GC.region ?_)))
 refine G.stepD (OD.addI rfl rfl rfl (by first | omega | (simp only [List.length_set, List.length_replicate]; omega))) rfl rfl rfl ?_
 refine G.stepD (OD.move rfl rfl) rfl rfl rfl ?_
 refine G.nil ?_
 exact GE.again (k + 1, (ys).set (k) (IntKind.i64.wrap ((ys.getD (k) 0) - (IntKind.i64.wrap ((x.getD ((i : Int).toNat) 0) * (atI cr cd (k : Int) i)))))) (⟨by omega, by rw [List.length_set]; exact hyl, fun t ht => by rw [set_getD_ne (by omega)]; exact hsm t (by omega), fold_next hy (by first | rfl | (simp only [rfI]; rw [hsm k (Nat.le_refl k)]))⟩) (by first | omega | (dsimp only; omega)) ⟨rfl, rfl, rfl, rfl, rfl, rfl, trivial⟩ [] 0 rfl
 replace hc4 := of_decide_eq_false hc4
 refine GC.exit (GE.pass (GE.pass (GE.hit (GE.then_ (GC.seq (GC.region ?_))))))
 refine G.stepD (OD.move rfl rfl) rfl rfl rfl ?_
 refine G.stepD (OD.assign rfl rfl) rfl rfl rfl ?_
 refine G.nil (GE.then_ (GC.ret ?_))
 exact GE.body [0] 1 (res1 rfl rfl) rfl (⟨v2, rfl, hs3, congrArg (fun (l0 : List Int) => ints 3 v2 l0 :: own) ((by rw [hy, show k = x.length by omega]; rfl : ys = rfF cr cd i x))⟩)
end Go.Proofs.YtgelkakjmbiibaaGreatDoor
