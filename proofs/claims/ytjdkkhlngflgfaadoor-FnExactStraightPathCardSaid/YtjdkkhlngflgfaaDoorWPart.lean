/-
  The matrix of one part, and of two parts: contracts by walks.
-/
import Derived.Test.YtjdkkhlngflgfaaDoorFct
import Derived.Test.YtjdkkhlngflgfaaDoorWStr
namespace Go.Proofs.YtjdkkhlngflgfaaDoor
set_option linter.unusedVariables false
set_option linter.unusedSimpArgs false
open Go.RowKit



set_option maxRecDepth 100000 in
theorem l5At_w {W : World} {own : List Asn} {cr : Int} {vcd : Value} {cd : List Int} {i : Int} {j : Int}  (scd : IsS vcd) (ecd : Ent own fun w => Ints w vcd cd)   (hb : 0 ≤ i * cr ∧ i * cr ≤ 1000000 ∧ 0 ≤ i * cr + j ∧ i * cr + j < cd.length ∧ i * cr + j ≤ 1000000) : Spec Tryd.prog 41 [.agg #[.int .i64 (cr), vcd], .int .i64 (i), .int .i64 (j)] W own (fun v ow => v = .int .i64 (atI cr cd i j) ∧ ow = own) := by
 refine Spec.enter Tryd.f41 _ Tryd.func41 rfl (n := 17) rfl rfl ?_
 refine GC.seq (GC.region ?_)
 refine G.step (OG.box (cs := [.int .i64 (cr), vcd]) rfl rfl rfl) rfl rfl rfl ?_
 rintro _ _ ⟨g1, rfl, rfl⟩
 refine G.stepD (OD.assign rfl rfl) rfl rfl rfl ?_
 refine G.nil (GE.then_ (GC.seq (GC.region ?_)))
 refine G.stepD (OD.fieldAddr rfl rfl fa28_1) rfl rfl rfl ?_
 refine G.stepD (OD.load rfl ti22 rfl (i := 0) rfl rfl) rfl rfl rfl ?_
 refine G.stepD (OD.move rfl rfl) rfl rfl rfl ?_
 refine G.stepD (OD.fieldAddr rfl rfl fa28_0) rfl rfl rfl ?_
 refine G.stepD (OD.load rfl ti3 rfl (i := 0) rfl rfl) rfl rfl rfl ?_
 refine G.stepD (OD.mulI rfl rfl rfl (by omega)) rfl rfl rfl ?_
 refine G.stepD (OD.move rfl rfl) rfl rfl rfl ?_
 refine G.stepD (OD.addI rfl rfl rfl (by omega)) rfl rfl rfl ?_
 refine G.stepD (OD.indexAddr rfl et22 rfl (Ent.drop 1 ecd) rfl (by omega)) rfl rfl rfl ?_
 refine G.stepD (OD.loadInt rfl ti3 rfl (Ent.drop 1 ecd) (by omega)) rfl rfl rfl ?_
 refine G.stepD (OD.assign rfl rfl) rfl rfl rfl ?_
 refine G.nil (GE.then_ (GC.ret ?_))
 exact GE.body [] 1 (res1 rfl rfl) rfl (⟨rfl, rfl⟩)

set_option maxRecDepth 100000 in
theorem put_w {W : World} {own : List Asn} {i : Int} {j : Int} {x : Int} {gc : Nat} {gn : Nat}  {n : Int} {vy : Value} {ys : List Int} (hn : 1 ≤ n ∧ n ≤ 4) (hi : 1 ≤ i ∧ i ≤ n) (hj : 1 ≤ j ∧ j ≤ n) (hl : (ys.length : Int) = n * n) : Spec Tryd.prog 54 [.int .i64 (i), .int .i64 (j), .int .i64 (x), .pointer (some ⟨gc, 0, none⟩), .pointer (some ⟨gn, 0, none⟩)] W (box gc 28 [.int .i64 (n), vy] :: box gn 3 [.int .i64 (n)] :: ints 3 vy ys :: own) (fun v ow => v = .tuple #[] ∧ ow = box gc 28 [.int .i64 (n), vy] :: box gn 3 [.int .i64 (n)] :: ints 3 vy (putF n ys i j x) :: own) := by
 have hx := idx_bd (n := n) (i := i - 1) (j := j - 1) ⟨by omega, by omega⟩ ⟨by omega, by omega⟩ (by omega)
 refine Spec.enter Tryd.f54 _ Tryd.func54 rfl (n := 19) rfl rfl ?_
 refine GC.region ?_
 refine G.stepD (OD.fieldAddr rfl rfl fa28_1) rfl rfl rfl ?_
 refine G.stepD (OD.load rfl ti22 rfl (i := 0) rfl rfl) rfl rfl rfl ?_
 refine G.stepD (OD.move rfl rfl) rfl rfl rfl ?_
 refine G.stepD (OD.subI rfl rfl rfl (by omega)) rfl rfl rfl ?_
 refine G.stepD (OD.load rfl ti3 rfl (i := 1) rfl rfl) rfl rfl rfl ?_
 refine G.stepD (OD.mulI rfl rfl rfl (by omega)) rfl rfl rfl ?_
 refine G.stepD (OD.move rfl rfl) rfl rfl rfl ?_
 refine G.stepD (OD.addI rfl rfl rfl (by omega)) rfl rfl rfl ?_
 refine G.stepD (OD.subI rfl rfl rfl (by omega)) rfl rfl rfl ?_
 refine G.stepD (OD.move rfl rfl) rfl rfl rfl ?_
 refine G.stepD (OD.indexAddr rfl et22 rfl (Ent.ints (i := 2) rfl) rfl (by omega)) rfl rfl rfl ?_
 refine G.stepD0 (OD.storeInt rfl ti3 rfl rfl (i := 2) rfl (by omega)) rfl rfl ?_
 refine G.nil ?_
 exact GE.bodyN [] 0 (res0 rfl) rfl (⟨rfl, rfl⟩)

set_option maxRecDepth 100000 in
theorem both_w {W : World} {own : List Asn} {i : Int} {j : Int} {gp : Nat}  {gc gn : Nat} {n : Int} {vy : Value} {ys : List Int} (hn : 1 ≤ n ∧ n ≤ 4) (hi : 1 ≤ i ∧ i ≤ n) (hj : 1 ≤ j ∧ j ≤ n) (hl : (ys.length : Int) = n * n) : Spec Tryd.prog 55 [.int .i64 (i), .int .i64 (j), .pointer (some ⟨gp, 0, none⟩)] W (box gp 79 [.func (.func 54) #[] #[.pointer (some ⟨gc, 0, none⟩), .pointer (some ⟨gn, 0, none⟩)]] :: box gc 28 [.int .i64 (n), vy] :: box gn 3 [.int .i64 (n)] :: ints 3 vy ys :: own) (fun v ow => v = .tuple #[] ∧ ow = box gp 79 [.func (.func 54) #[] #[.pointer (some ⟨gc, 0, none⟩), .pointer (some ⟨gn, 0, none⟩)]] :: box gc 28 [.int .i64 (n), vy] :: box gn 3 [.int .i64 (n)] :: ints 3 vy (bothF n ys i j) :: own) := by
 refine Spec.enter Tryd.f55 _ Tryd.func55 rfl (n := 13) rfl rfl ?_
 refine GC.seq (GC.region ?_)
 refine G.stepD (OD.load rfl ti79 rfl (i := 0) rfl rfl) rfl rfl rfl ?_
 refine G.stepD (OD.move rfl rfl) rfl rfl rfl ?_
 refine G.stepD (OD.move rfl rfl) rfl rfl rfl ?_
 refine G.at [1, 1, 1] 0 (env' := [(0, .int .i64 (i)), (1, .int .i64 (j)), (2, .pointer (some ⟨gp, 0, none⟩)), (5, .func (.func 54) #[] #[.pointer (some ⟨gc, 0, none⟩), .pointer (some ⟨gn, 0, none⟩)]), (6, .int .i64 (i)), (7, .int .i64 (j))]) ⟨rfl, rfl, rfl, rfl, rfl, rfl, trivial⟩ (own' := box gc 28 [.int .i64 (n), vy] :: box gn 3 [.int .i64 (n)] :: ints 3 vy ys :: box gp 79 [.func (.func 54) #[] #[.pointer (some ⟨gc, 0, none⟩), .pointer (some ⟨gn, 0, none⟩)]] :: own) rfl ?_
 refine G.step (OG.call [.int .i64 (i), .int .i64 (j), .int .i64 (-1), .pointer (some ⟨gc, 0, none⟩), .pointer (some ⟨gn, 0, none⟩)] ent54 rfl rfl rfl rfl (by exact (put_w (by omega) (by omega) (by omega) (by first | exact hl | (rw [putF_len]; exact hl))))) rfl rfl rfl ?_
 rintro _ _ ⟨rfl, rfl⟩
 refine G.nil (GE.then_ (GC.region ?_))
 refine G.stepD (OD.load rfl ti79 rfl (i := 3) rfl rfl) rfl rfl rfl ?_
 refine G.stepD (OD.move rfl rfl) rfl rfl rfl ?_
 refine G.stepD (OD.move rfl rfl) rfl rfl rfl ?_
 refine G.step (OG.call [.int .i64 (j), .int .i64 (i), .int .i64 (-1), .pointer (some ⟨gc, 0, none⟩), .pointer (some ⟨gn, 0, none⟩)] ent54 rfl rfl rfl rfl (by exact (put_w (by omega) (by omega) (by omega) (by first | exact hl | (rw [putF_len]; exact hl))))) rfl rfl rfl ?_
 rintro _ _ ⟨rfl, rfl⟩
 refine G.nil ?_
 exact GE.bodyN [3, 0, 0, 0] 0 (res0 rfl) rfl (⟨rfl, congrArg (fun (l3 : List Int) => box gp 79 [.func (.func 54) #[] #[.pointer (some ⟨gc, 0, none⟩), .pointer (some ⟨gn, 0, none⟩)]] :: box gc 28 [.int .i64 (n), vy] :: box gn 3 [.int .i64 (n)] :: ints 3 vy l3 :: own) ((rfl : putF n (putF n ys i j (-1)) j i (-1) = bothF n ys i j))⟩)

set_option maxRecDepth 100000 in
theorem partCartan_w {W : World} {own : List Asn} {s : ByteArray}    : Spec Tryd.prog 47 [.string (s)] W own (fun v ow => ∃ (r1 : Value), v = .tuple #[.agg #[.int .i64 (partR s), r1], .bool ((nameNo s).isSome)] ∧ IsS r1 ∧ ow = ints 3 r1 (partD s) :: own) := by
 refine Spec.enter Tryd.f47 _ Tryd.func47 rfl (n := 80) rfl rfl ?_
 refine GC.seq (GC.region ?_)
 refine G.step (OG.alloc rfl ti28 (zs := [.int .i64 (0), .slice none 0 0]) rfl) rfl rfl rfl ?_
 rintro _ _ ⟨g1, rfl, rfl⟩
 refine G.stepD (OD.assign rfl rfl) rfl rfl rfl ?_
 refine G.nil (GE.then_ (GC.seq (GC.seq (GC.region ?_))))
 refine G.step (OG.call [] ent42 rfl rfl rfl rfl (by exact partNames_w)) rfl rfl rfl ?_
 rintro v2 _ ⟨_, rfl, hs3, rfl⟩
 refine G.stepD (OD.move rfl rfl) rfl rfl rfl ?_
 refine G.step (OG.call [v2, .string (s)] ent53 rfl rfl rfl rfl (by exact (containsS_w hs3 (Ent.strs (i := 0) rfl) (by decide)))) rfl rfl rfl ?_
 rintro _ _ ⟨rfl, rfl⟩
 refine G.stepD (OD.not rfl rfl) rfl rfl rfl ?_
 refine G.nil (GE.then_ ?_)
 refine GC.cond rfl (fun hc4 => ?_) (fun hc4 => ?_)
 replace hc4 := eq_false_of_not hc4
 obtain ⟨hp1, hp2, hp3⟩ := part_none hc4
 refine GC.seq (GC.region ?_)
 refine G.stepD (OD.build (idx := []) (xs := []) (vs := []) (cs := []) (zs := [.int .i64 (0), .slice none 0 0]) (r := [.int .i64 (0), .slice none 0 0]) rfl ti28 rfl rfl rfl trivial rfl) rfl rfl rfl ?_
 refine G.stepD0 (OD.store rfl ti28 rfl rfl (us := [.int .i64 (0), .slice none 0 0]) rfl rfl rfl (i := 1) rfl rfl) rfl rfl ?_
 refine G.stepD (OD.assign rfl rfl) rfl rfl rfl ?_
 refine G.nil (GE.then_ (GC.ret (GE.passR ?_)))
 refine GE.nilInts 3 ?_
 exact GE.body [0] 2 (resN rfl (RVs.cons (rv_cells ti28 rfl (i := 2) rfl rfl) (RVs.cons (rv_tmp rfl) RVs.nil)) rfl) rfl (⟨(.slice none 0 0), congr (congrArg (fun (a0 : Int) (a2 : Bool) => (.tuple #[.agg #[.int .i64 (a0), (.slice none 0 0)], .bool (a2)] : Value)) ((hp1.symm : (0 : Int) = partR s))) ((hp3.symm : (false : Bool) = (nameNo s).isSome)), IsS.nil, congrArg (fun (l0 : List Int) => ints 3 (.slice none 0 0) l0 :: own) ((hp2.symm : [] = partD s))⟩)
 replace hc4 := eq_true_of_not hc4
 obtain ⟨k, hk⟩ := hasS_some hc4
 obtain ⟨hk12, hse⟩ := nameNo_some hk
 have hrk := rk_bd k hk12
 have hsz : s.size = 2 := by rw [hse]; exact nm_sz k hk12
 have hpD : partD s = oneD k := by simp [partD, hk]
 have hpR : partR s = (rk k : Int) := by simp [partR, hk]
 have hpS : (nameNo s).isSome = true := by simp [hk]
 have hN0 : 0 ≤ (rk k : Int) * (rk k : Int) := Int.mul_nonneg (by omega) (by omega)
 have hN1 : (rk k : Int) * (rk k : Int) ≤ 4 * 4 := Int.mul_le_mul (by omega) (by omega) (by omega) (by omega)
 refine GC.skip (GE.then_ (GC.seq (GC.region ?_)))
 refine G.stepD (OD.move rfl rfl) rfl rfl rfl ?_
 refine G.stepD (OD.indexStr rfl st9 rfl rfl (by omega)) rfl rfl rfl ?_
 refine G.stepD (OD.eqv (OD.sub rfl rfl rfl) (congrArg (Value.int .u8) ((by rw [hse]; exact nm_rk k hk12) : (IntKind.u8.wrap ((bAt s 1) - 48) : Int) = ((rk k : Int))))) rfl rfl rfl ?_
 refine G.stepD (OD.convI rfl cv5_3 rfl (by omega)) rfl rfl rfl ?_
 refine G.step (OG.alloc rfl ti3 (zs := [.int .i64 (0)]) rfl) rfl rfl rfl ?_
 rintro _ _ ⟨g5, rfl, rfl⟩
 refine G.stepD0 (OD.store rfl ti3 rfl rfl (us := [.int .i64 ((rk k : Int))]) rfl rfl rfl (i := 0) rfl rfl) rfl rfl ?_
 refine G.nil (GE.then_ (GC.seq ?_))
 refine GC.at [] 0 (env' := [(0, .string (s)), (2, .pointer (some ⟨g1, 0, none⟩)), (4, .pointer (some ⟨g5, 0, none⟩))]) ⟨rfl, rfl, rfl, trivial⟩ rfl ?_
 refine GC.par (its := [⟨18, [], [], [], [], fun _ => .int .i64 ((rk k : Int)), fun _ => True, fun _ => []⟩,
     ⟨19, [], [], [], [], fun _ => .int .i64 ((rk k : Int)), fun _ => True, fun _ => []⟩,
     ⟨20, [], [], [], [], fun _ => .int .i64 ((rk k : Int)), fun _ => True, fun _ => []⟩,
     ⟨21, [(1, 19), (2, 20)], [], [], [], fun _ => .int .i64 ((rk k : Int) * (rk k : Int)), fun _ => True, fun _ => []⟩,
     ⟨22, [(3, 21)], [], [], [4], fun ds => ((ds.getD 0 []).getD 0 undef), fun ds => IsS ((ds.getD 0 []).getD 0 undef), fun ds => [ints 3 ((ds.getD 0 []).getD 0 undef) (List.replicate ((rk k : Int) * (rk k : Int) : Int).toNat (0 : Int))]⟩,
     ⟨23, [(0, 18), (4, 22)], [4], [], [4], fun ds => .agg #[.int .i64 ((rk k : Int)), ((ds.getD 0 []).getD 0 undef)], fun _ => True, fun _ => []⟩,
     ⟨5, [], [], [], [6], fun ds => .pointer (some ⟨(gOf ((ds.getD 0 []).getD 0 undef)), 0, none⟩), fun _ => True, fun ds => [box (gOf ((ds.getD 0 []).getD 0 undef)) 28 [.int .i64 (0), .slice none 0 0]]⟩]) (by kernel_rfl) (by kernel_rfl) (POps.cons ?_ (POps.cons ?_ (POps.cons ?_ (POps.cons ?_ (POps.cons ?_ (POps.cons ?_ (POps.cons ?_ POps.nil))))))) ?_
 intro θ R hd
 exact Opp.plain (OG.imp (OD.load rfl ti3 rfl (i := 0) rfl rfl) (by rintro _ _ ⟨rfl, rfl⟩; exact ⟨[], rfl, trivial, rfl⟩)) rfl
 intro θ R hd
 exact Opp.plain (OG.imp (OD.load rfl ti3 rfl (i := 0) rfl rfl) (by rintro _ _ ⟨rfl, rfl⟩; exact ⟨[], rfl, trivial, rfl⟩)) rfl
 intro θ R hd
 exact Opp.plain (OG.imp (OD.load rfl ti3 rfl (i := 0) rfl rfl) (by rintro _ _ ⟨rfl, rfl⟩; exact ⟨[], rfl, trivial, rfl⟩)) rfl
 intro θ R hd
 obtain ⟨h1d, h2d, _⟩ := hd
 exact Opp.plain (OG.imp (OD.mulI rfl rfl rfl (by omega)) (by rintro _ _ ⟨rfl, rfl⟩; exact ⟨[], rfl, trivial, rfl⟩)) rfl
 intro θ R hd
 obtain ⟨h3d, _⟩ := hd
 exact Opp.plain (OG.imp (OG.makeInts rfl et22 rfl rfl (by omega)) (by rintro v6 _ ⟨hs7, rfl⟩; exact ⟨[v6], rfl, hs7, rfl⟩)) rfl
 intro θ R hd
 obtain ⟨h0d, h4d, _⟩ := hd
 exact Opp.plain (OG.imp (OD.build (idx := [0, 1]) (xs := [.tmp 18, .tmp 22]) (vs := [.int .i64 ((rk k : Int)), ((θ 4).getD 0 undef)]) (cs := [[.int .i64 ((rk k : Int))], [((θ 4).getD 0 undef)]]) (zs := [.int .i64 (0), .slice none 0 0]) (r := [.int .i64 ((rk k : Int)), ((θ 4).getD 0 undef)]) rfl ti28 rfl rfl rfl ⟨rfl, ⟨(one_cells (IsS.one h4d)), trivial⟩⟩ rfl) (by rintro _ _ ⟨rfl, rfl⟩; exact ⟨[], rfl, trivial, rfl⟩)) rfl
 intro θ R hd
 exact Opp.plain (OG.imp (OG.alloc rfl ti28 (zs := [.int .i64 (0), .slice none 0 0]) rfl) (by rintro _ _ ⟨g8, rfl, rfl⟩; exact ⟨[.pointer (some ⟨g8, 0, none⟩)], rfl, trivial, rfl⟩)) rfl
 intro θ hall
 obtain ⟨_, _, _, _, h4a, _, h6a, _⟩ := hall
 refine G.at [] 0 (env' := [(0, .string (s)), (2, .pointer (some ⟨g1, 0, none⟩)), (4, .pointer (some ⟨g5, 0, none⟩)), (23, .agg #[.int .i64 ((rk k : Int)), ((θ 4).getD 0 undef)]), (5, .pointer (some ⟨(gOf ((θ 6).getD 0 undef)), 0, none⟩))]) ⟨rfl, rfl, rfl, rfl, rfl, trivial⟩ (own' := ints 3 ((θ 4).getD 0 undef) (List.replicate ((rk k : Int) * (rk k : Int) : Int).toNat (0 : Int)) :: box (gOf ((θ 6).getD 0 undef)) 28 [.int .i64 (0), .slice none 0 0] :: box g5 3 [.int .i64 ((rk k : Int))] :: strs 9 v2 nameL :: box g1 28 [.int .i64 (0), .slice none 0 0] :: own) rfl ?_
 have hs9 : IsS ((θ 4).getD 0 undef) := h4a
 clear h4a
 generalize ((θ 4).getD 0 undef) = v10 at *
 clear h6a
 generalize (gOf ((θ 6).getD 0 undef)) = b11 at *
 show G _ _ _ [_] _ _ _ _
 refine G.stepD0 (OD.store rfl ti28 rfl rfl (us := [.int .i64 ((rk k : Int)), v10]) rfl rfl (allC rfl (allC (IsS.one hs9) rfl)) (i := 1) rfl rfl) rfl rfl ?_
 refine G.nil (GE.then_ (GC.seq (GC.region ?_)))
 refine G.stepD (OD.makeFunc (first := []) (captured := [.tmp 5, .tmp 4]) (us := []) (vs := [.pointer (some ⟨b11, 0, none⟩), .pointer (some ⟨g5, 0, none⟩)]) rfl rfl rfl) rfl rfl rfl ?_
 refine G.step (OG.alloc rfl ti79 (zs := [.nilFunc]) rfl) rfl rfl rfl ?_
 rintro _ _ ⟨g12, rfl, rfl⟩
 refine G.stepD0 (OD.store rfl ti79 rfl rfl (us := [.func (.func 54) #[] #[.pointer (some ⟨b11, 0, none⟩), .pointer (some ⟨g5, 0, none⟩)]]) rfl rfl rfl (i := 0) rfl rfl) rfl rfl ?_
 refine G.nil (GE.then_ (GC.seq (GC.region ?_)))
 refine G.stepD (OD.makeFunc (first := []) (captured := [.tmp 6]) (us := []) (vs := [.pointer (some ⟨g12, 0, none⟩)]) rfl rfl rfl) rfl rfl rfl ?_
 refine G.stepD (OD.assign rfl rfl) rfl rfl rfl ?_
 refine G.nil (GE.then_ (GC.seq (GC.seq (GC.region ?_))))
 refine G.stepD (OD.assign rfl rfl) rfl rfl rfl ?_
 refine G.nil (GE.then_ (GC.block ?_))
 refine GC.loop (ι := Nat × List Int) (fun ⟨q, ys⟩ => [(0, .string (s)), (2, .pointer (some ⟨g1, 0, none⟩)), (4, .pointer (some ⟨g5, 0, none⟩)), (5, .pointer (some ⟨b11, 0, none⟩)), (6, .pointer (some ⟨g12, 0, none⟩)), (7, .func (.func 55) #[] #[.pointer (some ⟨g12, 0, none⟩)]), (8, .int .i64 ((q : Int) + 1))]) (fun ⟨q, ys⟩ => box g12 79 [.func (.func 54) #[] #[.pointer (some ⟨b11, 0, none⟩), .pointer (some ⟨g5, 0, none⟩)]] :: ints 3 v10 ys :: box b11 28 [.int .i64 ((rk k : Int)), v10] :: box g5 3 [.int .i64 ((rk k : Int))] :: strs 9 v2 nameL :: box g1 28 [.int .i64 (0), .slice none 0 0] :: own) (fun ⟨q, ys⟩ => (q ≤ rk k) ∧ ((ys.length : Int) = (rk k : Int) * (rk k : Int)) ∧ (ys = (List.range q).foldl (itI k) (List.replicate ((rk k : Int) * (rk k : Int)).toNat 0))) (fun ⟨q, ys⟩ => rk k - q) (0, List.replicate ((rk k : Int) * (rk k : Int)).toNat 0) (⟨by omega, by rw [List.length_replicate]; omega, rfl⟩) ⟨rfl, rfl, rfl, rfl, rfl, rfl, int_eq (by omega), trivial⟩ [] 0 rfl ?_
 rintro ⟨q, ys⟩ ⟨hq, hyl, hy⟩
 refine GC.seq (GC.seq (GC.region ?_))
 refine G.stepD (OD.move rfl rfl) rfl rfl rfl ?_
 refine G.stepD (OD.load rfl ti3 rfl (i := 3) rfl rfl) rfl rfl rfl ?_
 refine G.stepD (OD.leq rfl rfl rfl) rfl rfl rfl ?_
 refine G.nil (GE.then_ ?_)
 refine GC.cond rfl (fun hc13 => ?_) (fun hc13 => ?_)
 replace hc13 := of_decide_eq_true hc13
 refine GC.skip (GE.then_ (GC.seq (GC.block (GC.seq (GC.region ?_)))))
 refine G.stepD (OD.load rfl ti79 rfl (i := 0) rfl rfl) rfl rfl rfl ?_
 refine G.stepD (OD.move rfl rfl) rfl rfl rfl ?_
 refine G.stepD (OD.move rfl rfl) rfl rfl rfl ?_
 refine G.at [2, 2, 1] 0 (env' := [(0, .string (s)), (2, .pointer (some ⟨g1, 0, none⟩)), (4, .pointer (some ⟨g5, 0, none⟩)), (5, .pointer (some ⟨b11, 0, none⟩)), (6, .pointer (some ⟨g12, 0, none⟩)), (7, .func (.func 55) #[] #[.pointer (some ⟨g12, 0, none⟩)]), (8, .int .i64 ((q : Int) + 1)), (26, .int .i64 ((q : Int) + 1)), (27, .int .i64 ((rk k : Int))), (28, .bool (decide ((q : Int) + 1 ≤ (rk k : Int)))), (31, .func (.func 54) #[] #[.pointer (some ⟨b11, 0, none⟩), .pointer (some ⟨g5, 0, none⟩)]), (32, .int .i64 ((q : Int) + 1)), (33, .int .i64 ((q : Int) + 1))]) ⟨rfl, rfl, rfl, rfl, rfl, rfl, rfl, rfl, rfl, rfl, rfl, rfl, rfl, trivial⟩ (own' := box b11 28 [.int .i64 ((rk k : Int)), v10] :: box g5 3 [.int .i64 ((rk k : Int))] :: ints 3 v10 ys :: box g12 79 [.func (.func 54) #[] #[.pointer (some ⟨b11, 0, none⟩), .pointer (some ⟨g5, 0, none⟩)]] :: strs 9 v2 nameL :: box g1 28 [.int .i64 (0), .slice none 0 0] :: own) rfl ?_
 refine G.step (OG.call [.int .i64 ((q : Int) + 1), .int .i64 ((q : Int) + 1), .int .i64 (2), .pointer (some ⟨b11, 0, none⟩), .pointer (some ⟨g5, 0, none⟩)] ent54 rfl rfl rfl rfl (by exact (put_w (by omega) (by omega) (by omega) (by first | exact hyl | (simp only [putF_len, bothF_len]; exact hyl))))) rfl rfl rfl ?_
 rintro _ _ ⟨rfl, rfl⟩
 refine G.nil (GE.then_ (GC.seq (GC.region ?_)))
 refine G.stepD (OD.move rfl rfl) rfl rfl rfl ?_
 refine G.stepD (OD.load rfl ti3 rfl (i := 1) rfl rfl) rfl rfl rfl ?_
 refine G.stepD (OD.lss rfl rfl rfl) rfl rfl rfl ?_
 refine G.stepD (OD.move rfl rfl) rfl rfl rfl ?_
 rcases Bool.eq_false_or_eq_true (decide ((q : Int) + 1 < (rk k : Int))) with hg14 | hg14
 have hg14e := hg14
 refine G.at [] 0 (env' := [(0, .string (s)), (2, .pointer (some ⟨g1, 0, none⟩)), (4, .pointer (some ⟨g5, 0, none⟩)), (5, .pointer (some ⟨b11, 0, none⟩)), (6, .pointer (some ⟨g12, 0, none⟩)), (7, .func (.func 55) #[] #[.pointer (some ⟨g12, 0, none⟩)]), (8, .int .i64 ((q : Int) + 1)), (26, .int .i64 ((q : Int) + 1)), (27, .int .i64 ((rk k : Int))), (28, .bool (decide ((q : Int) + 1 ≤ (rk k : Int)))), (31, .func (.func 54) #[] #[.pointer (some ⟨b11, 0, none⟩), .pointer (some ⟨g5, 0, none⟩)]), (32, .int .i64 ((q : Int) + 1)), (33, .int .i64 ((q : Int) + 1)), (34, .tuple #[]), (35, .int .i64 ((q : Int) + 1)), (36, .int .i64 ((rk k : Int))), (37, .bool true), (38, .bool true)]) (⟨rfl, rfl, rfl, rfl, rfl, rfl, rfl, rfl, rfl, rfl, rfl, rfl, rfl, rfl, rfl, rfl, (congrArg (fun b => some (Value.bool b)) hg14e), (congrArg (fun b => some (Value.bool b)) hg14e), trivial⟩) rfl ?_
 replace hg14 := of_decide_eq_true hg14
 refine G.stepGD (OD.move rfl rfl) rfl rfl rfl rfl rfl ?_
 refine G.stepGD (OD.eqv (OD.strNeq rfl rfl rfl) (congrArg (Value.bool) ((by rw [hse, nm_D4 k hk12]) : _ = (!(k == 9))))) rfl rfl rfl rfl rfl ?_
 refine G.stepD (OD.pickT rfl rfl rfl) rfl rfl rfl ?_
 refine G.nil (GE.then_ ?_)
 refine GC.cond rfl (fun hc15 => ?_) (fun hc15 => ?_)
 replace hc15 := eq_false_of_not hc15
 refine GC.region ?_
 refine G.stepD (OD.move rfl rfl) rfl rfl rfl ?_
 refine G.stepD (OD.move rfl rfl) rfl rfl rfl ?_
 refine G.stepD (OD.move rfl rfl) rfl rfl rfl ?_
 refine G.stepD (OD.addI rfl rfl rfl (by omega)) rfl rfl rfl ?_
 refine G.at [3, 0, 0, 0] 0 (env' := [(0, .string (s)), (2, .pointer (some ⟨g1, 0, none⟩)), (4, .pointer (some ⟨g5, 0, none⟩)), (5, .pointer (some ⟨b11, 0, none⟩)), (6, .pointer (some ⟨g12, 0, none⟩)), (7, .func (.func 55) #[] #[.pointer (some ⟨g12, 0, none⟩)]), (8, .int .i64 ((q : Int) + 1)), (26, .int .i64 ((q : Int) + 1)), (27, .int .i64 ((rk k : Int))), (28, .bool (decide ((q : Int) + 1 ≤ (rk k : Int)))), (31, .func (.func 54) #[] #[.pointer (some ⟨b11, 0, none⟩), .pointer (some ⟨g5, 0, none⟩)]), (32, .int .i64 ((q : Int) + 1)), (33, .int .i64 ((q : Int) + 1)), (34, .tuple #[]), (35, .int .i64 ((q : Int) + 1)), (36, .int .i64 ((rk k : Int))), (37, .bool true), (38, .bool true), (39, .string (s)), (40, .bool (!(k == 9))), (41, .bool (!(k == 9))), (42, .func (.func 55) #[] #[.pointer (some ⟨g12, 0, none⟩)]), (43, .int .i64 ((q : Int) + 1)), (44, .int .i64 ((q : Int) + 1)), (45, .int .i64 (((q : Int) + 1) + 1))]) ⟨rfl, rfl, rfl, rfl, rfl, rfl, rfl, rfl, rfl, rfl, rfl, rfl, rfl, rfl, rfl, rfl, rfl, rfl, rfl, rfl, rfl, rfl, rfl, rfl, rfl, trivial⟩ (own' := box g12 79 [.func (.func 54) #[] #[.pointer (some ⟨b11, 0, none⟩), .pointer (some ⟨g5, 0, none⟩)]] :: box b11 28 [.int .i64 ((rk k : Int)), v10] :: box g5 3 [.int .i64 ((rk k : Int))] :: ints 3 v10 (putF (rk k : Int) ys ((q : Int) + 1) ((q : Int) + 1) 2) :: strs 9 v2 nameL :: box g1 28 [.int .i64 (0), .slice none 0 0] :: own) rfl ?_
 refine G.step (OG.call [.int .i64 ((q : Int) + 1), .int .i64 (((q : Int) + 1) + 1), .pointer (some ⟨g12, 0, none⟩)] ent55 rfl rfl rfl rfl (by exact (both_w (by omega) (by omega) (by omega) (by first | exact hyl | (simp only [putF_len, bothF_len]; exact hyl))))) rfl rfl rfl ?_
 rintro _ _ ⟨rfl, rfl⟩
 refine G.nil (GE.blockN (GE.then_ (GC.region ?_)))
 refine G.stepD (OD.move rfl rfl) rfl rfl rfl ?_
 refine G.stepD (OD.addI rfl rfl rfl (by omega)) rfl rfl rfl ?_
 refine G.stepD (OD.assign rfl rfl) rfl rfl rfl ?_
 refine G.nil ?_
 exact GE.again (q + 1, bothF (rk k : Int) (putF (rk k : Int) ys ((q : Int) + 1) ((q : Int) + 1) 2) ((q : Int) + 1) (((q : Int) + 1) + 1)) (⟨by omega, by simp only [putF_len, bothF_len]; exact hyl, fold_next hy (by unfold itI; by_cases h9 : k = 9 <;> by_cases hlt : (q : Int) + 1 < rk k <;> first | (rw [if_pos ⟨hlt, h9⟩]; done) | (rw [if_neg (fun hh => hh.2 h9)]; done) | (rw [if_neg (fun hh => hlt hh.1)]; done) | (exfalso; omega) | (exfalso; simp_all; done))⟩) (by first | omega | (dsimp only; omega)) ⟨rfl, rfl, rfl, rfl, rfl, rfl, int_eq (by omega), trivial⟩ [0, 2, 0, 0, 0, 0] 0 rfl
 replace hc15 := eq_true_of_not hc15
 refine GC.skip (GE.blockN (GE.then_ (GC.region ?_)))
 refine G.stepD (OD.move rfl rfl) rfl rfl rfl ?_
 refine G.stepD (OD.addI rfl rfl rfl (by omega)) rfl rfl rfl ?_
 refine G.stepD (OD.assign rfl rfl) rfl rfl rfl ?_
 refine G.nil ?_
 exact GE.again (q + 1, putF (rk k : Int) ys ((q : Int) + 1) ((q : Int) + 1) 2) (⟨by omega, by simp only [putF_len, bothF_len]; exact hyl, fold_next hy (by unfold itI; by_cases h9 : k = 9 <;> by_cases hlt : (q : Int) + 1 < rk k <;> first | (rw [if_pos ⟨hlt, h9⟩]; done) | (rw [if_neg (fun hh => hh.2 h9)]; done) | (rw [if_neg (fun hh => hlt hh.1)]; done) | (exfalso; omega) | (exfalso; simp_all; done))⟩) (by first | omega | (dsimp only; omega)) ⟨rfl, rfl, rfl, rfl, rfl, rfl, int_eq (by omega), trivial⟩ [3, 2, 0, 0, 0, 0] 0 rfl
 have hg14e := hg14
 refine G.at [] 0 (env' := [(0, .string (s)), (2, .pointer (some ⟨g1, 0, none⟩)), (4, .pointer (some ⟨g5, 0, none⟩)), (5, .pointer (some ⟨b11, 0, none⟩)), (6, .pointer (some ⟨g12, 0, none⟩)), (7, .func (.func 55) #[] #[.pointer (some ⟨g12, 0, none⟩)]), (8, .int .i64 ((q : Int) + 1)), (26, .int .i64 ((q : Int) + 1)), (27, .int .i64 ((rk k : Int))), (28, .bool (decide ((q : Int) + 1 ≤ (rk k : Int)))), (31, .func (.func 54) #[] #[.pointer (some ⟨b11, 0, none⟩), .pointer (some ⟨g5, 0, none⟩)]), (32, .int .i64 ((q : Int) + 1)), (33, .int .i64 ((q : Int) + 1)), (34, .tuple #[]), (35, .int .i64 ((q : Int) + 1)), (36, .int .i64 ((rk k : Int))), (37, .bool false), (38, .bool false)]) (⟨rfl, rfl, rfl, rfl, rfl, rfl, rfl, rfl, rfl, rfl, rfl, rfl, rfl, rfl, rfl, rfl, (congrArg (fun b => some (Value.bool b)) hg14e), (congrArg (fun b => some (Value.bool b)) hg14e), trivial⟩) rfl ?_
 replace hg14 := of_decide_eq_false hg14
 refine G.skipG rfl rfl rfl rfl rfl rfl (G.skipG rfl rfl rfl rfl rfl rfl ?_)
 refine G.stepD (OD.pickF rfl rfl rfl) rfl rfl rfl ?_
 refine G.nil (GE.then_ (GC.condF rfl (GC.skip (GE.blockN (GE.then_ (GC.region ?_))))))
 refine G.stepD (OD.move rfl rfl) rfl rfl rfl ?_
 refine G.stepD (OD.addI rfl rfl rfl (by omega)) rfl rfl rfl ?_
 refine G.stepD (OD.assign rfl rfl) rfl rfl rfl ?_
 refine G.nil ?_
 exact GE.again (q + 1, putF (rk k : Int) ys ((q : Int) + 1) ((q : Int) + 1) 2) (⟨by omega, by simp only [putF_len, bothF_len]; exact hyl, fold_next hy (by unfold itI; by_cases h9 : k = 9 <;> by_cases hlt : (q : Int) + 1 < rk k <;> first | (rw [if_pos ⟨hlt, h9⟩]; done) | (rw [if_neg (fun hh => hh.2 h9)]; done) | (rw [if_neg (fun hh => hlt hh.1)]; done) | (exfalso; omega) | (exfalso; simp_all; done))⟩) (by first | omega | (dsimp only; omega)) ⟨rfl, rfl, rfl, rfl, rfl, rfl, int_eq (by omega), trivial⟩ [3, 2, 0, 0, 0, 0] 0 rfl
 replace hc13 := of_decide_eq_false hc13
 refine GC.exit (GE.pass (GE.pass (GE.hit (GE.then_ (GC.seq (GC.seq (GC.region ?_)))))))
 refine G.stepD (OD.move rfl rfl) rfl rfl rfl ?_
 refine G.stepD (OD.indexStr rfl st9 rfl rfl (by omega)) rfl rfl rfl ?_
 refine G.nil (GE.then_ (GC.block (GC.seq (GC.region ?_))))
 refine G.stepD (OD.eql rfl rfl rfl) rfl rfl rfl ?_
 refine G.stepD (OD.assign rfl rfl) rfl rfl rfl ?_
 refine G.nil (GE.then_ ?_)
 refine GC.cond rfl (fun hc16 => ?_) (fun hc16 => ?_)
 replace hc16 := eq_of_beq hc16
 have hbb : bAt (nameB k) 0 = 66 := by rw [← hse]; exact hc16
 have hr2 := rk_B k hk12 hbb
 refine GC.region ?_
 refine G.stepD (OD.load rfl ti79 rfl (i := 0) rfl rfl) rfl rfl rfl ?_
 refine G.stepD (OD.load rfl ti3 rfl (i := 3) rfl rfl) rfl rfl rfl ?_
 refine G.stepD (OD.load rfl ti3 rfl (i := 3) rfl rfl) rfl rfl rfl ?_
 refine G.stepD (OD.subI rfl rfl rfl (by omega)) rfl rfl rfl ?_
 refine G.at [2, 2, 1] 0 (env' := [(0, .string (s)), (2, .pointer (some ⟨g1, 0, none⟩)), (4, .pointer (some ⟨g5, 0, none⟩)), (5, .pointer (some ⟨b11, 0, none⟩)), (6, .pointer (some ⟨g12, 0, none⟩)), (7, .func (.func 55) #[] #[.pointer (some ⟨g12, 0, none⟩)]), (8, .int .i64 ((q : Int) + 1)), (26, .int .i64 ((q : Int) + 1)), (27, .int .i64 ((rk k : Int))), (28, .bool (decide ((q : Int) + 1 ≤ (rk k : Int)))), (47, .string (s)), (48, .int .u8 (bAt s 0)), (50, .bool ((bAt s 0) == 66)), (49, .bool ((bAt s 0) == 66)), (51, .func (.func 54) #[] #[.pointer (some ⟨b11, 0, none⟩), .pointer (some ⟨g5, 0, none⟩)]), (52, .int .i64 ((rk k : Int))), (53, .int .i64 ((rk k : Int))), (54, .int .i64 ((rk k : Int) - 1))]) ⟨rfl, rfl, rfl, rfl, rfl, rfl, rfl, rfl, rfl, rfl, rfl, rfl, rfl, rfl, rfl, rfl, rfl, rfl, trivial⟩ (own' := box b11 28 [.int .i64 ((rk k : Int)), v10] :: box g5 3 [.int .i64 ((rk k : Int))] :: ints 3 v10 ys :: box g12 79 [.func (.func 54) #[] #[.pointer (some ⟨b11, 0, none⟩), .pointer (some ⟨g5, 0, none⟩)]] :: strs 9 v2 nameL :: box g1 28 [.int .i64 (0), .slice none 0 0] :: own) rfl ?_
 refine G.step (OG.call [.int .i64 ((rk k : Int)), .int .i64 ((rk k : Int) - 1), .int .i64 (-2), .pointer (some ⟨b11, 0, none⟩), .pointer (some ⟨g5, 0, none⟩)] ent54 rfl rfl rfl rfl (by exact (put_w (by omega) (by omega) (by omega) (by first | exact hyl | (simp only [putF_len, bothF_len]; exact hyl))))) rfl rfl rfl ?_
 rintro _ _ ⟨rfl, rfl⟩
 refine G.nil (GE.blockN (GE.then_ (GC.seq (GC.region ?_))))
 refine G.stepD (OD.loadAgg rfl ti28 rfl (i := 0) rfl (us := [.int .i64 ((rk k : Int)), v10]) rfl rfl) rfl rfl rfl ?_
 refine G.stepD0 (OD.store rfl ti28 rfl rfl (us := [.int .i64 ((rk k : Int)), v10]) rfl rfl (allC rfl (allC (IsS.one hs9) rfl)) (i := 5) rfl rfl) rfl rfl ?_
 refine G.stepD (OD.assign rfl rfl) rfl rfl rfl ?_
 refine G.nil (GE.then_ (GC.ret ?_))
 exact GE.body [2] 5 (resN rfl (RVs.cons (rv_cells ti28 rfl (i := 5) rfl rfl) (RVs.cons (rv_tmp rfl) RVs.nil)) rfl) rfl (⟨v10, congr (congrArg (fun (a0 : Int) (a2 : Bool) => (.tuple #[.agg #[.int .i64 (a0), v10], .bool (a2)] : Value)) ((hpR.symm : ((rk k : Int) : Int) = partR s))) ((hpS.symm : (true : Bool) = (nameNo s).isSome)), hs9, congrArg (fun (l0 : List Int) => ints 3 v10 l0 :: own) ((by rw [hpD, hy, show q = rk k by omega]; exact endB k hk12 hbb : putF (rk k : Int) ys (rk k : Int) ((rk k : Int) - 1) (-2) = partD s))⟩)
 replace hc16 := ne_of_beq_false hc16
 have hc16n : bAt (nameB k) 0 ≠ 66 := by rw [← hse]; exact hc16
 refine GC.seq (GC.region ?_)
 refine G.stepD (OD.eql rfl rfl rfl) rfl rfl rfl ?_
 refine G.stepD (OD.assign rfl rfl) rfl rfl rfl ?_
 refine G.nil (GE.then_ ?_)
 refine GC.cond rfl (fun hc17 => ?_) (fun hc17 => ?_)
 replace hc17 := eq_of_beq hc17
 have hbb : bAt (nameB k) 0 = 67 := by rw [← hse]; exact hc17
 have hr2 := rk_C k hk12 hbb
 refine GC.region ?_
 refine G.stepD (OD.load rfl ti79 rfl (i := 0) rfl rfl) rfl rfl rfl ?_
 refine G.stepD (OD.load rfl ti3 rfl (i := 3) rfl rfl) rfl rfl rfl ?_
 refine G.stepD (OD.subI rfl rfl rfl (by omega)) rfl rfl rfl ?_
 refine G.stepD (OD.load rfl ti3 rfl (i := 3) rfl rfl) rfl rfl rfl ?_
 refine G.at [2, 2, 1] 0 (env' := [(0, .string (s)), (2, .pointer (some ⟨g1, 0, none⟩)), (4, .pointer (some ⟨g5, 0, none⟩)), (5, .pointer (some ⟨b11, 0, none⟩)), (6, .pointer (some ⟨g12, 0, none⟩)), (7, .func (.func 55) #[] #[.pointer (some ⟨g12, 0, none⟩)]), (8, .int .i64 ((q : Int) + 1)), (26, .int .i64 ((q : Int) + 1)), (27, .int .i64 ((rk k : Int))), (28, .bool (decide ((q : Int) + 1 ≤ (rk k : Int)))), (47, .string (s)), (48, .int .u8 (bAt s 0)), (50, .bool ((bAt s 0) == 66)), (49, .bool ((bAt s 0) == 66)), (57, .bool ((bAt s 0) == 67)), (56, .bool ((bAt s 0) == 67)), (58, .func (.func 54) #[] #[.pointer (some ⟨b11, 0, none⟩), .pointer (some ⟨g5, 0, none⟩)]), (59, .int .i64 ((rk k : Int))), (60, .int .i64 ((rk k : Int) - 1)), (61, .int .i64 ((rk k : Int)))]) ⟨rfl, rfl, rfl, rfl, rfl, rfl, rfl, rfl, rfl, rfl, rfl, rfl, rfl, rfl, rfl, rfl, rfl, rfl, rfl, rfl, trivial⟩ (own' := box b11 28 [.int .i64 ((rk k : Int)), v10] :: box g5 3 [.int .i64 ((rk k : Int))] :: ints 3 v10 ys :: box g12 79 [.func (.func 54) #[] #[.pointer (some ⟨b11, 0, none⟩), .pointer (some ⟨g5, 0, none⟩)]] :: strs 9 v2 nameL :: box g1 28 [.int .i64 (0), .slice none 0 0] :: own) rfl ?_
 refine G.step (OG.call [.int .i64 ((rk k : Int) - 1), .int .i64 ((rk k : Int)), .int .i64 (-2), .pointer (some ⟨b11, 0, none⟩), .pointer (some ⟨g5, 0, none⟩)] ent54 rfl rfl rfl rfl (by exact (put_w (by omega) (by omega) (by omega) (by first | exact hyl | (simp only [putF_len, bothF_len]; exact hyl))))) rfl rfl rfl ?_
 rintro _ _ ⟨rfl, rfl⟩
 refine G.nil (GE.blockN (GE.then_ (GC.seq (GC.region ?_))))
 refine G.stepD (OD.loadAgg rfl ti28 rfl (i := 0) rfl (us := [.int .i64 ((rk k : Int)), v10]) rfl rfl) rfl rfl rfl ?_
 refine G.stepD0 (OD.store rfl ti28 rfl rfl (us := [.int .i64 ((rk k : Int)), v10]) rfl rfl (allC rfl (allC (IsS.one hs9) rfl)) (i := 5) rfl rfl) rfl rfl ?_
 refine G.stepD (OD.assign rfl rfl) rfl rfl rfl ?_
 refine G.nil (GE.then_ (GC.ret ?_))
 exact GE.body [2] 5 (resN rfl (RVs.cons (rv_cells ti28 rfl (i := 5) rfl rfl) (RVs.cons (rv_tmp rfl) RVs.nil)) rfl) rfl (⟨v10, congr (congrArg (fun (a0 : Int) (a2 : Bool) => (.tuple #[.agg #[.int .i64 (a0), v10], .bool (a2)] : Value)) ((hpR.symm : ((rk k : Int) : Int) = partR s))) ((hpS.symm : (true : Bool) = (nameNo s).isSome)), hs9, congrArg (fun (l0 : List Int) => ints 3 v10 l0 :: own) ((by rw [hpD, hy, show q = rk k by omega]; exact endC k hk12 hbb : putF (rk k : Int) ys ((rk k : Int) - 1) (rk k : Int) (-2) = partD s))⟩)
 replace hc17 := ne_of_beq_false hc17
 have hc17n : bAt (nameB k) 0 ≠ 67 := by rw [← hse]; exact hc17
 refine GC.seq (GC.region ?_)
 refine G.stepD (OD.eql rfl rfl rfl) rfl rfl rfl ?_
 refine G.stepD (OD.assign rfl rfl) rfl rfl rfl ?_
 refine G.nil (GE.then_ ?_)
 refine GC.cond rfl (fun hc18 => ?_) (fun hc18 => ?_)
 replace hc18 := eq_of_beq hc18
 have hbb : bAt (nameB k) 0 = 70 := by rw [← hse]; exact hc18
 have hr2 := (endF k hk12 hbb).2
 refine GC.region ?_
 refine G.stepD (OD.load rfl ti79 rfl (i := 0) rfl rfl) rfl rfl rfl ?_
 refine G.at [2, 2, 1] 0 (env' := [(0, .string (s)), (2, .pointer (some ⟨g1, 0, none⟩)), (4, .pointer (some ⟨g5, 0, none⟩)), (5, .pointer (some ⟨b11, 0, none⟩)), (6, .pointer (some ⟨g12, 0, none⟩)), (7, .func (.func 55) #[] #[.pointer (some ⟨g12, 0, none⟩)]), (8, .int .i64 ((q : Int) + 1)), (26, .int .i64 ((q : Int) + 1)), (27, .int .i64 ((rk k : Int))), (28, .bool (decide ((q : Int) + 1 ≤ (rk k : Int)))), (47, .string (s)), (48, .int .u8 (bAt s 0)), (50, .bool ((bAt s 0) == 66)), (49, .bool ((bAt s 0) == 66)), (57, .bool ((bAt s 0) == 67)), (56, .bool ((bAt s 0) == 67)), (64, .bool ((bAt s 0) == 70)), (63, .bool ((bAt s 0) == 70)), (65, .func (.func 54) #[] #[.pointer (some ⟨b11, 0, none⟩), .pointer (some ⟨g5, 0, none⟩)])]) ⟨rfl, rfl, rfl, rfl, rfl, rfl, rfl, rfl, rfl, rfl, rfl, rfl, rfl, rfl, rfl, rfl, rfl, rfl, rfl, trivial⟩ (own' := box b11 28 [.int .i64 ((rk k : Int)), v10] :: box g5 3 [.int .i64 ((rk k : Int))] :: ints 3 v10 ys :: box g12 79 [.func (.func 54) #[] #[.pointer (some ⟨b11, 0, none⟩), .pointer (some ⟨g5, 0, none⟩)]] :: strs 9 v2 nameL :: box g1 28 [.int .i64 (0), .slice none 0 0] :: own) rfl ?_
 refine G.step (OG.call [.int .i64 (3), .int .i64 (2), .int .i64 (-2), .pointer (some ⟨b11, 0, none⟩), .pointer (some ⟨g5, 0, none⟩)] ent54 rfl rfl rfl rfl (by exact (put_w (by omega) (by omega) (by omega) (by first | exact hyl | (simp only [putF_len, bothF_len]; exact hyl))))) rfl rfl rfl ?_
 rintro _ _ ⟨rfl, rfl⟩
 refine G.nil (GE.blockN (GE.then_ (GC.seq (GC.region ?_))))
 refine G.stepD (OD.loadAgg rfl ti28 rfl (i := 0) rfl (us := [.int .i64 ((rk k : Int)), v10]) rfl rfl) rfl rfl rfl ?_
 refine G.stepD0 (OD.store rfl ti28 rfl rfl (us := [.int .i64 ((rk k : Int)), v10]) rfl rfl (allC rfl (allC (IsS.one hs9) rfl)) (i := 5) rfl rfl) rfl rfl ?_
 refine G.stepD (OD.assign rfl rfl) rfl rfl rfl ?_
 refine G.nil (GE.then_ (GC.ret ?_))
 exact GE.body [2] 5 (resN rfl (RVs.cons (rv_cells ti28 rfl (i := 5) rfl rfl) (RVs.cons (rv_tmp rfl) RVs.nil)) rfl) rfl (⟨v10, congr (congrArg (fun (a0 : Int) (a2 : Bool) => (.tuple #[.agg #[.int .i64 (a0), v10], .bool (a2)] : Value)) ((hpR.symm : ((rk k : Int) : Int) = partR s))) ((hpS.symm : (true : Bool) = (nameNo s).isSome)), hs9, congrArg (fun (l0 : List Int) => ints 3 v10 l0 :: own) ((by rw [hpD, hy, show q = rk k by omega]; exact (endF k hk12 hbb).1 : putF (rk k : Int) ys 3 2 (-2) = partD s))⟩)
 replace hc18 := ne_of_beq_false hc18
 have hc18n : bAt (nameB k) 0 ≠ 70 := by rw [← hse]; exact hc18
 refine GC.seq (GC.region ?_)
 refine G.stepD (OD.eql rfl rfl rfl) rfl rfl rfl ?_
 refine G.stepD (OD.assign rfl rfl) rfl rfl rfl ?_
 refine G.nil (GE.then_ ?_)
 refine GC.cond rfl (fun hc19 => ?_) (fun hc19 => ?_)
 replace hc19 := eq_of_beq hc19
 have hbb : bAt (nameB k) 0 = 71 := by rw [← hse]; exact hc19
 have hr2 := (endG k hk12 hbb).2
 refine GC.region ?_
 refine G.stepD (OD.load rfl ti79 rfl (i := 0) rfl rfl) rfl rfl rfl ?_
 refine G.at [2, 2, 1] 0 (env' := [(0, .string (s)), (2, .pointer (some ⟨g1, 0, none⟩)), (4, .pointer (some ⟨g5, 0, none⟩)), (5, .pointer (some ⟨b11, 0, none⟩)), (6, .pointer (some ⟨g12, 0, none⟩)), (7, .func (.func 55) #[] #[.pointer (some ⟨g12, 0, none⟩)]), (8, .int .i64 ((q : Int) + 1)), (26, .int .i64 ((q : Int) + 1)), (27, .int .i64 ((rk k : Int))), (28, .bool (decide ((q : Int) + 1 ≤ (rk k : Int)))), (47, .string (s)), (48, .int .u8 (bAt s 0)), (50, .bool ((bAt s 0) == 66)), (49, .bool ((bAt s 0) == 66)), (57, .bool ((bAt s 0) == 67)), (56, .bool ((bAt s 0) == 67)), (64, .bool ((bAt s 0) == 70)), (63, .bool ((bAt s 0) == 70)), (68, .bool ((bAt s 0) == 71)), (67, .bool ((bAt s 0) == 71)), (69, .func (.func 54) #[] #[.pointer (some ⟨b11, 0, none⟩), .pointer (some ⟨g5, 0, none⟩)])]) ⟨rfl, rfl, rfl, rfl, rfl, rfl, rfl, rfl, rfl, rfl, rfl, rfl, rfl, rfl, rfl, rfl, rfl, rfl, rfl, rfl, rfl, trivial⟩ (own' := box b11 28 [.int .i64 ((rk k : Int)), v10] :: box g5 3 [.int .i64 ((rk k : Int))] :: ints 3 v10 ys :: box g12 79 [.func (.func 54) #[] #[.pointer (some ⟨b11, 0, none⟩), .pointer (some ⟨g5, 0, none⟩)]] :: strs 9 v2 nameL :: box g1 28 [.int .i64 (0), .slice none 0 0] :: own) rfl ?_
 refine G.step (OG.call [.int .i64 (1), .int .i64 (2), .int .i64 (-3), .pointer (some ⟨b11, 0, none⟩), .pointer (some ⟨g5, 0, none⟩)] ent54 rfl rfl rfl rfl (by exact (put_w (by omega) (by omega) (by omega) (by first | exact hyl | (simp only [putF_len, bothF_len]; exact hyl))))) rfl rfl rfl ?_
 rintro _ _ ⟨rfl, rfl⟩
 refine G.nil (GE.blockN (GE.then_ (GC.seq (GC.region ?_))))
 refine G.stepD (OD.loadAgg rfl ti28 rfl (i := 0) rfl (us := [.int .i64 ((rk k : Int)), v10]) rfl rfl) rfl rfl rfl ?_
 refine G.stepD0 (OD.store rfl ti28 rfl rfl (us := [.int .i64 ((rk k : Int)), v10]) rfl rfl (allC rfl (allC (IsS.one hs9) rfl)) (i := 5) rfl rfl) rfl rfl ?_
 refine G.stepD (OD.assign rfl rfl) rfl rfl rfl ?_
 refine G.nil (GE.then_ (GC.ret ?_))
 exact GE.body [2] 5 (resN rfl (RVs.cons (rv_cells ti28 rfl (i := 5) rfl rfl) (RVs.cons (rv_tmp rfl) RVs.nil)) rfl) rfl (⟨v10, congr (congrArg (fun (a0 : Int) (a2 : Bool) => (.tuple #[.agg #[.int .i64 (a0), v10], .bool (a2)] : Value)) ((hpR.symm : ((rk k : Int) : Int) = partR s))) ((hpS.symm : (true : Bool) = (nameNo s).isSome)), hs9, congrArg (fun (l0 : List Int) => ints 3 v10 l0 :: own) ((by rw [hpD, hy, show q = rk k by omega]; exact (endG k hk12 hbb).1 : putF (rk k : Int) ys 1 2 (-3) = partD s))⟩)
 replace hc19 := ne_of_beq_false hc19
 have hc19n : bAt (nameB k) 0 ≠ 71 := by rw [← hse]; exact hc19
 refine GC.seq (GC.region ?_)
 refine G.stepD (OD.eql rfl rfl rfl) rfl rfl rfl ?_
 refine G.stepD (OD.assign rfl rfl) rfl rfl rfl ?_
 refine G.nil (GE.then_ ?_)
 refine GC.cond rfl (fun hc20 => ?_) (fun hc20 => ?_)
 replace hc20 := eq_of_beq hc20
 have hbb : bAt (nameB k) 0 = 68 := by rw [← hse]; exact hc20
 have hr2 := (endD k hk12 hbb).2
 refine GC.seq (GC.region ?_)
 refine G.stepD (OD.move rfl rfl) rfl rfl rfl ?_
 refine G.at [0, 1, 1, 0] 0 (env' := [(0, .string (s)), (2, .pointer (some ⟨g1, 0, none⟩)), (4, .pointer (some ⟨g5, 0, none⟩)), (5, .pointer (some ⟨b11, 0, none⟩)), (6, .pointer (some ⟨g12, 0, none⟩)), (7, .func (.func 55) #[] #[.pointer (some ⟨g12, 0, none⟩)]), (8, .int .i64 ((q : Int) + 1)), (26, .int .i64 ((q : Int) + 1)), (27, .int .i64 ((rk k : Int))), (28, .bool (decide ((q : Int) + 1 ≤ (rk k : Int)))), (47, .string (s)), (48, .int .u8 (bAt s 0)), (50, .bool ((bAt s 0) == 66)), (49, .bool ((bAt s 0) == 66)), (57, .bool ((bAt s 0) == 67)), (56, .bool ((bAt s 0) == 67)), (64, .bool ((bAt s 0) == 70)), (63, .bool ((bAt s 0) == 70)), (68, .bool ((bAt s 0) == 71)), (67, .bool ((bAt s 0) == 71)), (72, .bool ((bAt s 0) == 68)), (71, .bool ((bAt s 0) == 68)), (73, .func (.func 55) #[] #[.pointer (some ⟨g12, 0, none⟩)])]) ⟨rfl, rfl, rfl, rfl, rfl, rfl, rfl, rfl, rfl, rfl, rfl, rfl, rfl, rfl, rfl, rfl, rfl, rfl, rfl, rfl, rfl, rfl, rfl, trivial⟩ (own' := box g12 79 [.func (.func 54) #[] #[.pointer (some ⟨b11, 0, none⟩), .pointer (some ⟨g5, 0, none⟩)]] :: box b11 28 [.int .i64 ((rk k : Int)), v10] :: box g5 3 [.int .i64 ((rk k : Int))] :: ints 3 v10 ys :: strs 9 v2 nameL :: box g1 28 [.int .i64 (0), .slice none 0 0] :: own) rfl ?_
 refine G.step (OG.call [.int .i64 (2), .int .i64 (1), .pointer (some ⟨g12, 0, none⟩)] ent55 rfl rfl rfl rfl (by exact (both_w (by omega) (by omega) (by omega) (by first | exact hyl | (simp only [putF_len, bothF_len]; exact hyl))))) rfl rfl rfl ?_
 rintro _ _ ⟨rfl, rfl⟩
 refine G.nil (GE.then_ (GC.seq (GC.region ?_)))
 refine G.stepD (OD.move rfl rfl) rfl rfl rfl ?_
 refine G.step (OG.call [.int .i64 (2), .int .i64 (3), .pointer (some ⟨g12, 0, none⟩)] ent55 rfl rfl rfl rfl (by exact (both_w (by omega) (by omega) (by omega) (by first | exact hyl | (simp only [putF_len, bothF_len]; exact hyl))))) rfl rfl rfl ?_
 rintro _ _ ⟨rfl, rfl⟩
 refine G.nil (GE.then_ (GC.region ?_))
 refine G.stepD (OD.move rfl rfl) rfl rfl rfl ?_
 refine G.step (OG.call [.int .i64 (2), .int .i64 (4), .pointer (some ⟨g12, 0, none⟩)] ent55 rfl rfl rfl rfl (by exact (both_w (by omega) (by omega) (by omega) (by first | exact hyl | (simp only [putF_len, bothF_len]; exact hyl))))) rfl rfl rfl ?_
 rintro _ _ ⟨rfl, rfl⟩
 refine G.nil (GE.blockN (GE.then_ (GC.seq (GC.region ?_))))
 refine G.stepD (OD.loadAgg rfl ti28 rfl (i := 1) rfl (us := [.int .i64 ((rk k : Int)), v10]) rfl rfl) rfl rfl rfl ?_
 refine G.stepD0 (OD.store rfl ti28 rfl rfl (us := [.int .i64 ((rk k : Int)), v10]) rfl rfl (allC rfl (allC (IsS.one hs9) rfl)) (i := 5) rfl rfl) rfl rfl ?_
 refine G.stepD (OD.assign rfl rfl) rfl rfl rfl ?_
 refine G.nil (GE.then_ (GC.ret ?_))
 exact GE.body [3] 5 (resN rfl (RVs.cons (rv_cells ti28 rfl (i := 5) rfl rfl) (RVs.cons (rv_tmp rfl) RVs.nil)) rfl) rfl (⟨v10, congr (congrArg (fun (a0 : Int) (a2 : Bool) => (.tuple #[.agg #[.int .i64 (a0), v10], .bool (a2)] : Value)) ((hpR.symm : ((rk k : Int) : Int) = partR s))) ((hpS.symm : (true : Bool) = (nameNo s).isSome)), hs9, congrArg (fun (l0 : List Int) => ints 3 v10 l0 :: own) ((by rw [hpD, hy, show q = rk k by omega]; exact (endD k hk12 hbb).1 : bothF (rk k : Int) (bothF (rk k : Int) (bothF (rk k : Int) ys 2 1) 2 3) 2 4 = partD s))⟩)
 replace hc20 := ne_of_beq_false hc20
 have hc20n : bAt (nameB k) 0 ≠ 68 := by rw [← hse]; exact hc20
 refine GC.skip (GE.blockN (GE.then_ (GC.seq (GC.region ?_))))
 refine G.stepD (OD.loadAgg rfl ti28 rfl (i := 2) rfl (us := [.int .i64 ((rk k : Int)), v10]) rfl rfl) rfl rfl rfl ?_
 refine G.stepD0 (OD.store rfl ti28 rfl rfl (us := [.int .i64 ((rk k : Int)), v10]) rfl rfl (allC rfl (allC (IsS.one hs9) rfl)) (i := 5) rfl rfl) rfl rfl ?_
 refine G.stepD (OD.assign rfl rfl) rfl rfl rfl ?_
 refine G.nil (GE.then_ (GC.ret ?_))
 exact GE.body [1] 5 (resN rfl (RVs.cons (rv_cells ti28 rfl (i := 5) rfl rfl) (RVs.cons (rv_tmp rfl) RVs.nil)) rfl) rfl (⟨v10, congr (congrArg (fun (a0 : Int) (a2 : Bool) => (.tuple #[.agg #[.int .i64 (a0), v10], .bool (a2)] : Value)) ((hpR.symm : ((rk k : Int) : Int) = partR s))) ((hpS.symm : (true : Bool) = (nameNo s).isSome)), hs9, congrArg (fun (l0 : List Int) => ints 3 v10 l0 :: own) ((by rw [hpD, hy, show q = rk k by omega]; exact endA k hk12 ⟨by assumption, by assumption, by assumption, by assumption, by assumption⟩ : ys = partD s))⟩)

end Go.Proofs.YtjdkkhlngflgfaaDoor
