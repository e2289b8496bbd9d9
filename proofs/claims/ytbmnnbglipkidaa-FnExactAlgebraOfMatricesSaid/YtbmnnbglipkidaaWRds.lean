/-
  The reduction of a matrix by the second text: contracts by walks.
-/
import Derived.Test.YtbmnnbglipkidaaWRed
import Derived.Test.YtbmnnbglipkidaaAlb
import Derived.Test.YtbmnnbglipkidaaWInv
namespace Go.Proofs.Ytbmnnbglipkidaa
set_option linter.unusedVariables false
set_option linter.unusedSimpArgs false
open Go.RowKit
theorem ent38 : ∀ us w, (callFunc 38 us).run Try.prog w = .ok (.enter 38 us) w := fun us w => by kernel_rfl
set_option maxRecDepth 100000 in
theorem l1AtF_w {W : World} {own : List Asn} {mp : Int} {mr : Int} {mc : Int} {vmd : Value} {md : List Int} {i : Nat} {j : Nat}  (smd : IsS vmd) (emd : Ent own fun w => Ints w vmd md)  {n C : Nat} {f : Nat → Nat → Int} (hF : FI md n C f) (hmc : mc = (C : Int)) (hi : i < n) (hj : j < C) (hnC : ((n * C : Nat) : Int) ≤ 4000000) : Spec Try.prog 36 [.agg #[.int .i64 (mp), .int .i64 (mr), .int .i64 (mc), vmd], .int .i64 ((i : Int)), .int .i64 ((j : Int))] W own (fun v ow => v = .int .i64 (f i j) ∧ ow = own) := by
 obtain ⟨q, hq, hqx, hqy, hqz, hql⟩ := ixF hmc hi hj hnC
 have hdl := hF.1
 refine Spec.enter Try.f36 _ Try.func36 rfl (n := 17) rfl rfl ?_
 refine GC.seq (GC.region ?_)
 refine G.step (OG.box (cs := [.int .i64 (mp), .int .i64 (mr), .int .i64 (mc), vmd]) rfl rfl rfl) rfl rfl rfl ?_
 rintro _ _ ⟨g1, rfl, rfl⟩
 refine G.stepD (OD.assign rfl rfl) rfl rfl rfl ?_
 refine G.nil (GE.then_ (GC.seq (GC.region ?_)))
 refine G.stepD (OD.fieldAddr rfl rfl fa41_3) rfl rfl rfl ?_
 refine G.stepD (OD.load rfl ti24 rfl (i := 0) rfl rfl) rfl rfl rfl ?_
 refine G.stepD (OD.move rfl rfl) rfl rfl rfl ?_
 refine G.stepD (OD.fieldAddr rfl rfl fa41_2) rfl rfl rfl ?_
 refine G.stepD (OD.load rfl ti3 rfl (i := 0) rfl rfl) rfl rfl rfl ?_
 refine G.stepD (OD.mulI rfl rfl rfl (by omega)) rfl rfl rfl ?_
 refine G.stepD (OD.move rfl rfl) rfl rfl rfl ?_
 refine G.stepD (OD.eqv (OD.addI rfl rfl rfl (by omega)) (congrArg (Value.int .i64) ((hqx) : (((i : Int) * mc) + (j : Int) : Int) = ((q : Int))))) rfl rfl rfl ?_
 refine G.stepD (OD.indexAddr rfl et24 rfl (Ent.drop 1 emd) rfl (by omega)) rfl rfl rfl ?_
 refine G.stepD (OD.loadInt rfl ti3 rfl (Ent.drop 1 emd) (by omega)) rfl rfl rfl ?_
 refine G.stepD (OD.assign rfl rfl) rfl rfl rfl ?_
 refine G.nil (GE.then_ (GC.ret ?_))
 exact GE.body [] 1 (res1 rfl rfl) rfl (⟨congrArg (fun (a0 : Int) => (.int .i64 (a0) : Value)) ((by rw [hq]; exact hF.2 i j hi hj : (md.getD (q) 0 : Int) = f i j)), rfl⟩)
set_option maxHeartbeats 4000000 in
set_option maxRecDepth 100000 in
theorem l1Reduce_w {W : World} {own : List Asn} {ap : Int} {ar : Int} {ac : Int} {vad : Value} {ad : List Int}  (sad : IsS vad) (ead : Ent own fun w => Ints w vad ad) {n C : Nat} {E : List (List Int)} (hpp : primeB ap = true) (har : ar = (n : Int)) (hac : ac = (C : Int)) (hE : RwI ap n C E) (hd : ad = E.flatten) (hnC : ((n * C : Nat) : Int) ≤ 4000000) (hnn : n ≤ 2000 ∧ C ≤ 2000) : Spec Try.prog 16 [.agg #[.int .i64 (ap), .int .i64 (ar), .int .i64 (ac), vad]] W own (fun v ow => ∃ (r3 : Value) (r4 : Value) (dt5 : Int), v = .tuple #[.agg #[.int .i64 (ap), .int .i64 (ar), .int .i64 (ac), r3], r4, .int .i64 dt5] ∧ IsS r3 ∧ IsS r4 ∧ ow = ints 3 r3 ((rdA ap (ivp ap) C E).1.flatten) :: ints 3 r4 ((rdA ap (ivp ap) C E).2) :: own) := by
 have hp2 := primeB_range hpp
 have hadl : ad.length = n * C := by rw [hd]; exact hE.fi.1
 refine Spec.enter Try.f16 _ Try.func16 rfl (n := 223) rfl rfl ?_
 refine GC.seq (GC.region ?_)
 refine G.step (OG.box (cs := [.int .i64 (ap), .int .i64 (ar), .int .i64 (ac), vad]) rfl rfl rfl) rfl rfl rfl ?_
 rintro _ _ ⟨g1, rfl, rfl⟩
 refine G.step (OG.alloc rfl ti41 (zs := [.int .i64 (0), .int .i64 (0), .int .i64 (0), .slice none 0 0]) rfl) rfl rfl rfl ?_
 rintro _ _ ⟨g2, rfl, rfl⟩
 refine G.stepD (OD.assign rfl rfl) rfl rfl rfl ?_
 refine G.stepD (OD.assign rfl rfl) rfl rfl rfl ?_
 refine G.nil (GE.then_ (GC.seq (GC.region ?_)))
 refine G.stepD (OD.loadAgg rfl ti41 rfl (i := 1) rfl (us := [.int .i64 (ap), .int .i64 (ar), .int .i64 (ac), vad]) rfl rfl) rfl rfl rfl ?_
 refine G.step (OG.call [.agg #[.int .i64 (ap), .int .i64 (ar), .int .i64 (ac), vad]] ent35 rfl rfl rfl rfl (by exact (l1Copy_s sad (Ent.drop 2 ead) (by omega)))) rfl rfl rfl ?_
 rintro _ _ ⟨v3, rfl, hs4, rfl⟩
 refine G.step (OG.alloc rfl ti41 (zs := [.int .i64 (0), .int .i64 (0), .int .i64 (0), .slice none 0 0]) rfl) rfl rfl rfl ?_
 rintro _ _ ⟨g5, rfl, rfl⟩
 refine G.stepD0 (OD.store rfl ti41 rfl rfl (us := [.int .i64 (ap), .int .i64 (ar), .int .i64 (ac), v3]) rfl rfl (allC rfl (allC rfl (allC rfl (allC (IsS.one hs4) rfl)))) (i := 0) rfl rfl) rfl rfl ?_
 refine G.nil (GE.then_ (GC.seq (GC.region ?_)))
 refine G.step (OG.buildInts (xs := []) (is := []) rfl et24 rfl rfl rfl rfl rfl) rfl rfl rfl ?_
 rintro v6 _ ⟨hs7, rfl⟩
 refine G.stepD (OD.assign rfl rfl) rfl rfl rfl ?_
 refine G.nil (GE.then_ (GC.seq (GC.region ?_)))
 refine G.stepD (OD.fieldAddr rfl rfl fa41_0) rfl rfl rfl ?_
 refine G.stepD (OD.load rfl ti3 rfl (i := 4) rfl rfl) rfl rfl rfl ?_
 refine G.stepD (OD.rem rfl rfl rfl (by omega)) rfl rfl rfl ?_
 refine G.stepD (OD.assign rfl rfl) rfl rfl rfl ?_
 refine G.nil (GE.then_ (GC.seq (GC.seq (GC.region ?_))))
 refine G.stepD (OD.assign rfl rfl) rfl rfl rfl ?_
 refine G.nil (GE.then_ (GC.block ?_))
 refine GC.loop (ι := Nat × List (List Int) × List Int × Int × List Int × Value) (fun ⟨c, M, ps, dt, d, vp⟩ => [(2, .pointer (some ⟨g2, 0, none⟩)), (5, .pointer (some ⟨g5, 0, none⟩)), (6, vp), (7, .int .i64 (dt)), (8, .int .i64 ((c : Int)))]) (fun ⟨c, M, ps, dt, d, vp⟩ => ints 3 vp ps :: box g5 41 [.int .i64 (ap), .int .i64 (ar), .int .i64 (ac), v3] :: ints 3 v3 d :: box g2 41 [.int .i64 (0), .int .i64 (0), .int .i64 (0), .slice none 0 0] :: box g1 41 [.int .i64 (ap), .int .i64 (ar), .int .i64 (ac), vad] :: own) (fun ⟨c, M, ps, dt, d, vp⟩ => (c ≤ C) ∧ ((M, ps) = (List.range c).foldl (rdC ap (ivp ap)) (E, [])) ∧ (FI d n C (at2 M)) ∧ (0 ≤ dt ∧ dt < ap) ∧ (IsS vp)) (fun ⟨c, M, ps, dt, d, vp⟩ => C - c) (0, E, [], (1 : Int).tmod ap, ad, v6) (⟨by omega, rfl, by rw [hd]; exact hE.fi, ⟨Int.tmod_nonneg _ (by omega), Int.tmod_lt_of_pos _ (by omega)⟩, hs7⟩) ⟨rfl, rfl, rfl, rfl, rfl, trivial⟩ [] 0 rfl ?_
 rintro ⟨c, M, ps, dt, d, vp⟩ ⟨hc, hs, hF, hdt, hvp⟩
 have hI := RdI.all (C := C) (E := E) hp2.1 (ivp_ok hpp) (fun i hi => hE.rows i (by have := hE.len; omega)) hE.rg c hc
 rw [← hs] at hI
 have hR : RwI ap n C M := hI.rw hE.len
 have hRl : M.length = n := hR.len
 have hfew : ps.length ≤ n := by have h1 : ps.length ≤ E.length := hI.few; have h2 := hE.len; omega
 have hdl := hF.1
 obtain ⟨r, hr⟩ : ∃ r : Nat, r = ps.length := ⟨_, rfl⟩
 refine GC.seq (GC.seq (GC.region ?_))
 refine G.stepD (OD.move rfl rfl) rfl rfl rfl ?_
 refine G.stepD (OD.fieldAddr rfl rfl fa41_2) rfl rfl rfl ?_
 refine G.stepD (OD.load rfl ti3 rfl (i := 1) rfl rfl) rfl rfl rfl ?_
 refine G.stepD (OD.lss rfl rfl rfl) rfl rfl rfl ?_
 refine G.stepD (OD.move rfl rfl) rfl rfl rfl ?_
 rcases Bool.eq_false_or_eq_true (decide ((c : Int) < ac)) with hg8 | hg8
 have hg8e := hg8
 refine G.at [] 0 (env' := [(2, .pointer (some ⟨g2, 0, none⟩)), (5, .pointer (some ⟨g5, 0, none⟩)), (6, vp), (7, .int .i64 (dt)), (8, .int .i64 ((c : Int))), (24, .int .i64 ((c : Int))), (25, .pointer (some ⟨g5, 2, none⟩)), (26, .int .i64 (ac)), (27, .bool true), (28, .bool true)]) (⟨rfl, rfl, rfl, rfl, rfl, rfl, rfl, rfl, (congrArg (fun b => some (Value.bool b)) hg8e), (congrArg (fun b => some (Value.bool b)) hg8e), trivial⟩) rfl ?_
 replace hg8 := of_decide_eq_true hg8
 refine G.stepGD (OD.move rfl rfl) rfl rfl rfl rfl rfl ?_
 refine G.stepGD (OD.len rfl rfl et24 rfl (Ent.ints (i := 0) rfl)) rfl rfl rfl rfl rfl ?_
 refine G.stepGD (OD.fieldAddr rfl rfl fa41_1) rfl rfl rfl rfl rfl ?_
 refine G.stepGD (OD.load rfl ti3 rfl (i := 1) rfl rfl) rfl rfl rfl rfl rfl ?_
 refine G.stepGD (OD.lss rfl rfl rfl) rfl rfl rfl rfl rfl ?_
 refine G.stepD (OD.pickT rfl rfl rfl) rfl rfl rfl ?_
 refine G.nil (GE.then_ ?_)
 refine GC.cond rfl (fun hc9 => ?_) (fun hc9 => ?_)
 replace hc9 := of_decide_eq_true hc9
 refine GC.skip (GE.then_ (GC.seq (GC.block (GC.seq (GC.region ?_)))))
 refine G.stepD (OD.move rfl rfl) rfl rfl rfl ?_
 refine G.stepD (OD.len rfl rfl et24 rfl (Ent.ints (i := 0) rfl)) rfl rfl rfl ?_
 refine G.stepD (OD.eqv (OD.assign rfl rfl) (congrArg (Value.int .i64) ((by omega) : ((ps.length : Nat) : Int) = ((r : Int))))) rfl rfl rfl ?_
 refine G.nil (GE.then_ (GC.seq (GC.region ?_)))
 refine G.stepD (OD.move rfl rfl) rfl rfl rfl ?_
 refine G.stepD (OD.assign rfl rfl) rfl rfl rfl ?_
 refine G.nil (GE.then_ (GC.seq (GC.block ?_)))
 refine GC.loop (ι := Nat) (fun k => [(2, .pointer (some ⟨g2, 0, none⟩)), (5, .pointer (some ⟨g5, 0, none⟩)), (6, vp), (7, .int .i64 (dt)), (8, .int .i64 ((c : Int))), (9, .int .i64 ((r : Int))), (10, .int .i64 ((k : Int)))]) (fun k => ints 3 vp ps :: box g5 41 [.int .i64 (ap), .int .i64 (ar), .int .i64 (ac), v3] :: ints 3 v3 d :: box g2 41 [.int .i64 (0), .int .i64 (0), .int .i64 (0), .slice none 0 0] :: box g1 41 [.int .i64 (ap), .int .i64 (ar), .int .i64 (ac), vad] :: own) (fun k => (r ≤ k) ∧ (k ≤ n) ∧ (∀ i, r ≤ i → i < k → at2 M i c = 0)) (fun k => n - k) r (⟨Nat.le_refl _, by omega, fun i h1 h2 => absurd h2 (by omega)⟩) ⟨rfl, rfl, rfl, rfl, rfl, rfl, rfl, trivial⟩ [] 0 rfl ?_
 rintro k ⟨hk1, hk2, hz⟩
 refine GC.seq (GC.seq (GC.region ?_))
 refine G.stepD (OD.move rfl rfl) rfl rfl rfl ?_
 refine G.stepD (OD.fieldAddr rfl rfl fa41_1) rfl rfl rfl ?_
 refine G.stepD (OD.load rfl ti3 rfl (i := 1) rfl rfl) rfl rfl rfl ?_
 refine G.stepD (OD.lss rfl rfl rfl) rfl rfl rfl ?_
 refine G.stepD (OD.move rfl rfl) rfl rfl rfl ?_
 rcases Bool.eq_false_or_eq_true (decide ((k : Int) < ar)) with hg10 | hg10
 have hg10e := hg10
 refine G.at [] 0 (env' := [(2, .pointer (some ⟨g2, 0, none⟩)), (5, .pointer (some ⟨g5, 0, none⟩)), (6, vp), (7, .int .i64 (dt)), (8, .int .i64 ((c : Int))), (9, .int .i64 ((r : Int))), (10, .int .i64 ((k : Int))), (40, .int .i64 ((k : Int))), (41, .pointer (some ⟨g5, 1, none⟩)), (42, .int .i64 (ar)), (43, .bool true), (44, .bool true)]) (⟨rfl, rfl, rfl, rfl, rfl, rfl, rfl, rfl, rfl, rfl, (congrArg (fun b => some (Value.bool b)) hg10e), (congrArg (fun b => some (Value.bool b)) hg10e), trivial⟩) rfl ?_
 replace hg10 := of_decide_eq_true hg10
 refine G.stepGD (OD.loadAgg rfl ti41 rfl (i := 1) rfl (us := [.int .i64 (ap), .int .i64 (ar), .int .i64 (ac), v3]) rfl rfl) rfl rfl rfl rfl rfl ?_
 refine G.stepGD (OD.move rfl rfl) rfl rfl rfl rfl rfl ?_
 refine G.stepGD (OD.move rfl rfl) rfl rfl rfl rfl rfl ?_
 refine G.stepG (OG.call [.agg #[.int .i64 (ap), .int .i64 (ar), .int .i64 (ac), v3], .int .i64 ((k : Int)), .int .i64 ((c : Int))] ent36 rfl rfl rfl rfl (by exact (l1AtF_w hs4 (Ent.ints (i := 2) rfl) (f := at2 M) (hF) (hac) (by omega) (by omega) (hnC)))) rfl rfl rfl rfl rfl ?_
 rintro _ _ ⟨rfl, rfl⟩
 refine G.stepGD (OD.eql rfl rfl rfl) rfl rfl rfl rfl rfl ?_
 refine G.stepD (OD.pickT rfl rfl rfl) rfl rfl rfl ?_
 refine G.nil (GE.then_ ?_)
 refine GC.cond rfl (fun hc11 => ?_) (fun hc11 => ?_)
 replace hc11 := eq_of_beq hc11
 refine GC.skip (GE.then_ (GC.block (GC.region ?_)))
 refine G.stepD (OD.move rfl rfl) rfl rfl rfl ?_
 refine G.stepD (OD.addI rfl rfl rfl (by omega)) rfl rfl rfl ?_
 refine G.stepD (OD.assign rfl rfl) rfl rfl rfl ?_
 refine G.nil (GE.blockN ?_)
 exact GE.again (k + 1) (⟨by omega, by omega, z_next hz (by assumption)⟩) (by first | omega | (dsimp only; omega)) ⟨rfl, rfl, rfl, rfl, rfl, rfl, rfl, trivial⟩ [] 0 rfl
 replace hc11 := ne_of_beq_false hc11
 refine GC.exit (GE.pass (GE.pass (GE.hit (GE.then_ (GC.seq (GC.seq ?_))))))
 have hK : rdK M c ps.length = k := rdK_hit (by omega) (by rw [← hr]; exact hz) (by omega) (by first | exact .inr (by assumption) | (left; omega))
 have hpv : at2 (swR M r k) r c = at2 M k c := sw_pv (by omega) (by omega)
 have hRs : RwI ap n C (swR M r k) := hR.sw (by omega) (by omega)
 have hrg := hRs.rg r c
 have hiv := (inv_all hpp (show 0 < at2 (swR M r k) r c by omega) (show at2 (swR M r k) r c < ap by omega)).2.2.1
 obtain ⟨A1, hA1⟩ : ∃ A1, A1 = scA ap (ivp ap) r c (swR M r k) := ⟨_, rfl⟩
 have hR1 : RwI ap n C A1 := by rw [hA1]; exact hRs.sc (by omega) (by omega)
 refine GC.region ?_
 refine G.stepD (OD.move rfl rfl) rfl rfl rfl ?_
 refine G.stepD (OD.fieldAddr rfl rfl fa41_1) rfl rfl rfl ?_
 refine G.stepD (OD.load rfl ti3 rfl (i := 1) rfl rfl) rfl rfl rfl ?_
 refine G.stepD (OD.eqv (OD.eql rfl rfl rfl) (congrArg Value.bool ((beq_false_of_ne (by omega)) : _ = false))) rfl rfl rfl ?_
 refine G.nil (GE.then_ (GC.condF rfl (GC.skip (GE.then_ (GC.seq (GC.seq (GC.region ?_)))))))
 refine G.stepD (OD.move rfl rfl) rfl rfl rfl ?_
 refine G.stepD (OD.move rfl rfl) rfl rfl rfl ?_
 refine G.stepD (OD.neq rfl rfl rfl) rfl rfl rfl ?_
 refine G.nil (GE.then_ ?_)
 refine GC.cond rfl (fun hc12 => ?_) (fun hc12 => ?_)
 replace hc12 := ne_of_bne hc12
 refine GC.region ?_
 refine G.stepD (OD.move rfl rfl) rfl rfl rfl ?_
 refine G.stepD (OD.subI rfl rfl rfl (by omega)) rfl rfl rfl ?_
 refine G.stepD (OD.fieldAddr rfl rfl fa41_0) rfl rfl rfl ?_
 refine G.stepD (OD.load rfl ti3 rfl (i := 1) rfl rfl) rfl rfl rfl ?_
 refine G.step (OG.call [.int .i64 (0 - dt), .int .i64 (ap)] ent37 rfl rfl rfl rfl (by exact (l1Mod_s (by omega)))) rfl rfl rfl ?_
 rintro _ _ ⟨rfl, rfl⟩
 refine G.stepD (OD.assign rfl rfl) rfl rfl rfl ?_
 refine G.nil (GE.then_ (GC.seq (GC.seq (GC.region ?_))))
 refine G.stepD (OD.assign rfl rfl) rfl rfl rfl ?_
 refine G.nil (GE.then_ (GC.block ?_))
 refine GC.loop (ι := Nat × List Int) (fun ⟨j, d1⟩ => [(2, .pointer (some ⟨g2, 0, none⟩)), (5, .pointer (some ⟨g5, 0, none⟩)), (6, vp), (8, .int .i64 ((c : Int))), (9, .int .i64 ((r : Int))), (10, .int .i64 ((k : Int))), (7, .int .i64 ((0 - dt) % ap)), (11, .int .i64 ((j : Int)))]) (fun ⟨j, d1⟩ => ints 3 vp ps :: box g5 41 [.int .i64 (ap), .int .i64 (ar), .int .i64 (ac), v3] :: ints 3 v3 d1 :: box g2 41 [.int .i64 (0), .int .i64 (0), .int .i64 (0), .slice none 0 0] :: box g1 41 [.int .i64 (ap), .int .i64 (ar), .int .i64 (ac), vad] :: own) (fun ⟨j, d1⟩ => (j ≤ C) ∧ (FI d1 n C (swF M r k j))) (fun ⟨j, d1⟩ => C - j) (0, d) (⟨by omega, hF.swap0⟩) ⟨rfl, rfl, rfl, rfl, rfl, rfl, rfl, rfl, trivial⟩ [] 0 rfl ?_
 rintro ⟨j, d1⟩ ⟨hj, hF1⟩
 have hd1l := hF1.1
 refine GC.seq (GC.seq (GC.region ?_))
 refine G.stepD (OD.move rfl rfl) rfl rfl rfl ?_
 refine G.stepD (OD.fieldAddr rfl rfl fa41_2) rfl rfl rfl ?_
 refine G.stepD (OD.load rfl ti3 rfl (i := 1) rfl rfl) rfl rfl rfl ?_
 refine G.stepD (OD.lss rfl rfl rfl) rfl rfl rfl ?_
 refine G.nil (GE.then_ ?_)
 refine GC.cond rfl (fun hc13 => ?_) (fun hc13 => ?_)
 replace hc13 := of_decide_eq_true hc13
 refine GC.skip (GE.then_ (GC.seq (GC.block (GC.seq ?_))))
 obtain ⟨q1, hq1, hq1x, hq1y, hq1z, hq1l⟩ := ixF hac (show r < n by omega) (show j < C by omega) hnC
 obtain ⟨q2, hq2, hq2x, hq2y, hq2z, hq2l⟩ := ixF hac (show k < n by omega) (show j < C by omega) hnC
 refine GC.region ?_
 refine G.stepD (OD.fieldAddr rfl rfl fa41_3) rfl rfl rfl ?_
 refine G.stepD (OD.load rfl ti24 rfl (i := 1) rfl rfl) rfl rfl rfl ?_
 refine G.stepD (OD.move rfl rfl) rfl rfl rfl ?_
 refine G.stepD (OD.fieldAddr rfl rfl fa41_2) rfl rfl rfl ?_
 refine G.stepD (OD.load rfl ti3 rfl (i := 1) rfl rfl) rfl rfl rfl ?_
 refine G.stepD (OD.mulI rfl rfl rfl (by omega)) rfl rfl rfl ?_
 refine G.stepD (OD.move rfl rfl) rfl rfl rfl ?_
 refine G.stepD (OD.eqv (OD.addI rfl rfl rfl (by omega)) (congrArg (Value.int .i64) ((hq1x) : (((r : Int) * ac) + (j : Int) : Int) = ((q1 : Int))))) rfl rfl rfl ?_
 refine G.stepD (OD.indexAddr rfl et24 rfl (Ent.ints (i := 2) rfl) rfl (by omega)) rfl rfl rfl ?_
 refine G.stepD (OD.loadInt rfl ti3 rfl (Ent.ints (i := 2) rfl) (by omega)) rfl rfl rfl ?_
 refine G.stepD (OD.assign rfl rfl) rfl rfl rfl ?_
 refine G.nil (GE.then_ (GC.seq ?_))
 refine GC.at [] 0 (env' := [(2, .pointer (some ⟨g2, 0, none⟩)), (5, .pointer (some ⟨g5, 0, none⟩)), (6, vp), (8, .int .i64 ((c : Int))), (9, .int .i64 ((r : Int))), (10, .int .i64 ((k : Int))), (7, .int .i64 ((0 - dt) % ap)), (11, .int .i64 ((j : Int))), (12, .int .i64 (d1.getD (q1) 0))]) ⟨rfl, rfl, rfl, rfl, rfl, rfl, rfl, rfl, rfl, trivial⟩ rfl ?_
 refine GC.par (its := [⟨81, [], [], [], [], fun _ => .pointer (some ⟨g5, 3, none⟩), fun _ => True, fun _ => []⟩,
     ⟨82, [(0, 81)], [], [], [], fun _ => v3, fun _ => True, fun _ => []⟩,
     ⟨83, [], [], [], [], fun _ => .int .i64 ((r : Int)), fun _ => True, fun _ => []⟩,
     ⟨84, [], [], [], [], fun _ => .pointer (some ⟨g5, 2, none⟩), fun _ => True, fun _ => []⟩,
     ⟨85, [(3, 84)], [], [], [], fun _ => .int .i64 (ac), fun _ => True, fun _ => []⟩,
     ⟨86, [(2, 83), (4, 85)], [], [], [], fun _ => .int .i64 ((r : Int) * ac), fun _ => True, fun _ => []⟩,
     ⟨87, [], [], [], [], fun _ => .int .i64 ((j : Int)), fun _ => True, fun _ => []⟩,
     ⟨88, [(5, 86), (6, 87)], [], [], [], fun _ => .int .i64 ((q1 : Int)), fun _ => True, fun _ => []⟩,
     ⟨89, [], [], [], [], fun _ => .pointer (some ⟨g5, 3, none⟩), fun _ => True, fun _ => []⟩,
     ⟨90, [(8, 89)], [], [], [], fun _ => v3, fun _ => True, fun _ => []⟩,
     ⟨91, [], [], [], [], fun _ => .int .i64 ((k : Int)), fun _ => True, fun _ => []⟩,
     ⟨92, [], [], [], [], fun _ => .pointer (some ⟨g5, 2, none⟩), fun _ => True, fun _ => []⟩,
     ⟨93, [(11, 92)], [], [], [], fun _ => .int .i64 (ac), fun _ => True, fun _ => []⟩,
     ⟨94, [(10, 91), (12, 93)], [], [], [], fun _ => .int .i64 ((k : Int) * ac), fun _ => True, fun _ => []⟩,
     ⟨95, [], [], [], [], fun _ => .int .i64 ((j : Int)), fun _ => True, fun _ => []⟩,
     ⟨96, [(13, 94), (14, 95)], [], [], [], fun _ => .int .i64 ((q2 : Int)), fun _ => True, fun _ => []⟩,
     ⟨97, [(9, 90), (15, 96)], [], [], [], fun _ => elemPtr v3 1 (q2), fun _ => True, fun _ => []⟩,
     ⟨98, [(16, 97)], [], [], [], fun _ => .int .i64 (d1.getD (q2) 0), fun _ => True, fun _ => []⟩,
     ⟨99, [(1, 82), (7, 88)], [], [], [], fun _ => elemPtr v3 1 (q1), fun _ => True, fun _ => []⟩]) (by kernel_rfl) (by kernel_rfl) (POps.cons ?_ (POps.cons ?_ (POps.cons ?_ (POps.cons ?_ (POps.cons ?_ (POps.cons ?_ (POps.cons ?_ (POps.cons ?_ (POps.cons ?_ (POps.cons ?_ (POps.cons ?_ (POps.cons ?_ (POps.cons ?_ (POps.cons ?_ (POps.cons ?_ (POps.cons ?_ (POps.cons ?_ (POps.cons ?_ (POps.cons ?_ POps.nil))))))))))))))))))) ?_
 intro θ R hd
 exact Opp.plain (OG.imp (OD.fieldAddr rfl rfl fa41_3) (by rintro _ _ ⟨rfl, rfl⟩; exact ⟨[], rfl, trivial, rfl⟩)) rfl
 intro θ R hd
 obtain ⟨h0d, _⟩ := hd
 exact Opp.plain (OG.imp (OD.load rfl ti24 rfl (i := 1) rfl rfl) (by rintro _ _ ⟨rfl, rfl⟩; exact ⟨[], rfl, trivial, rfl⟩)) rfl
 intro θ R hd
 exact Opp.plain (OG.imp (OD.move rfl rfl) (by rintro _ _ ⟨rfl, rfl⟩; exact ⟨[], rfl, trivial, rfl⟩)) rfl
 intro θ R hd
 exact Opp.plain (OG.imp (OD.fieldAddr rfl rfl fa41_2) (by rintro _ _ ⟨rfl, rfl⟩; exact ⟨[], rfl, trivial, rfl⟩)) rfl
 intro θ R hd
 obtain ⟨h3d, _⟩ := hd
 exact Opp.plain (OG.imp (OD.load rfl ti3 rfl (i := 1) rfl rfl) (by rintro _ _ ⟨rfl, rfl⟩; exact ⟨[], rfl, trivial, rfl⟩)) rfl
 intro θ R hd
 obtain ⟨h2d, h4d, _⟩ := hd
 exact Opp.plain (OG.imp (OD.mulI rfl rfl rfl (by omega)) (by rintro _ _ ⟨rfl, rfl⟩; exact ⟨[], rfl, trivial, rfl⟩)) rfl
 intro θ R hd
 exact Opp.plain (OG.imp (OD.move rfl rfl) (by rintro _ _ ⟨rfl, rfl⟩; exact ⟨[], rfl, trivial, rfl⟩)) rfl
 intro θ R hd
 obtain ⟨h5d, h6d, _⟩ := hd
 exact Opp.plain (OG.imp (OD.eqv (OD.addI rfl rfl rfl (by omega)) (congrArg (Value.int .i64) ((hq1x) : (((r : Int) * ac) + (j : Int) : Int) = ((q1 : Int))))) (by rintro _ _ ⟨rfl, rfl⟩; exact ⟨[], rfl, trivial, rfl⟩)) rfl
 intro θ R hd
 exact Opp.plain (OG.imp (OD.fieldAddr rfl rfl fa41_3) (by rintro _ _ ⟨rfl, rfl⟩; exact ⟨[], rfl, trivial, rfl⟩)) rfl
 intro θ R hd
 obtain ⟨h8d, _⟩ := hd
 exact Opp.plain (OG.imp (OD.load rfl ti24 rfl (i := 1) rfl rfl) (by rintro _ _ ⟨rfl, rfl⟩; exact ⟨[], rfl, trivial, rfl⟩)) rfl
 intro θ R hd
 exact Opp.plain (OG.imp (OD.move rfl rfl) (by rintro _ _ ⟨rfl, rfl⟩; exact ⟨[], rfl, trivial, rfl⟩)) rfl
 intro θ R hd
 exact Opp.plain (OG.imp (OD.fieldAddr rfl rfl fa41_2) (by rintro _ _ ⟨rfl, rfl⟩; exact ⟨[], rfl, trivial, rfl⟩)) rfl
 intro θ R hd
 obtain ⟨h11d, _⟩ := hd
 exact Opp.plain (OG.imp (OD.load rfl ti3 rfl (i := 1) rfl rfl) (by rintro _ _ ⟨rfl, rfl⟩; exact ⟨[], rfl, trivial, rfl⟩)) rfl
 intro θ R hd
 obtain ⟨h10d, h12d, _⟩ := hd
 exact Opp.plain (OG.imp (OD.mulI rfl rfl rfl (by omega)) (by rintro _ _ ⟨rfl, rfl⟩; exact ⟨[], rfl, trivial, rfl⟩)) rfl
 intro θ R hd
 exact Opp.plain (OG.imp (OD.move rfl rfl) (by rintro _ _ ⟨rfl, rfl⟩; exact ⟨[], rfl, trivial, rfl⟩)) rfl
 intro θ R hd
 obtain ⟨h13d, h14d, _⟩ := hd
 exact Opp.plain (OG.imp (OD.eqv (OD.addI rfl rfl rfl (by omega)) (congrArg (Value.int .i64) ((hq2x) : (((k : Int) * ac) + (j : Int) : Int) = ((q2 : Int))))) (by rintro _ _ ⟨rfl, rfl⟩; exact ⟨[], rfl, trivial, rfl⟩)) rfl
 intro θ R hd
 obtain ⟨h9d, h15d, _⟩ := hd
 exact Opp.plain (OG.imp (OD.indexAddr rfl et24 rfl (Ent.ints (i := 2) rfl) rfl (by omega)) (by rintro _ _ ⟨rfl, rfl⟩; exact ⟨[], rfl, trivial, rfl⟩)) rfl
 intro θ R hd
 obtain ⟨h16d, _⟩ := hd
 exact Opp.plain (OG.imp (OD.loadInt rfl ti3 rfl (Ent.ints (i := 2) rfl) (by omega)) (by rintro _ _ ⟨rfl, rfl⟩; exact ⟨[], rfl, trivial, rfl⟩)) rfl
 intro θ R hd
 obtain ⟨h1d, h7d, _⟩ := hd
 exact Opp.plain (OG.imp (OD.indexAddr rfl et24 rfl (Ent.ints (i := 2) rfl) rfl (by omega)) (by rintro _ _ ⟨rfl, rfl⟩; exact ⟨[], rfl, trivial, rfl⟩)) rfl
 intro θ hall
 obtain ⟨_, _, _, _, _, _, _, _, _, _, _, _, _, _, _, _, _, _, _, _⟩ := hall
 refine G.at [] 0 (env' := [(2, .pointer (some ⟨g2, 0, none⟩)), (5, .pointer (some ⟨g5, 0, none⟩)), (6, vp), (8, .int .i64 ((c : Int))), (9, .int .i64 ((r : Int))), (10, .int .i64 ((k : Int))), (7, .int .i64 ((0 - dt) % ap)), (11, .int .i64 ((j : Int))), (12, .int .i64 (d1.getD (q1) 0)), (98, .int .i64 (d1.getD (q2) 0)), (99, elemPtr v3 1 (q1))]) ⟨rfl, rfl, rfl, rfl, rfl, rfl, rfl, rfl, rfl, rfl, rfl, trivial⟩ (own' := ints 3 vp ps :: box g5 41 [.int .i64 (ap), .int .i64 (ar), .int .i64 (ac), v3] :: ints 3 v3 d1 :: box g2 41 [.int .i64 (0), .int .i64 (0), .int .i64 (0), .slice none 0 0] :: box g1 41 [.int .i64 (ap), .int .i64 (ar), .int .i64 (ac), vad] :: own) rfl ?_
 show G _ _ _ [_] _ _ _ _
 refine G.stepD0 (OD.storeInt rfl ti3 rfl rfl (i := 2) rfl (by omega)) rfl rfl ?_
 refine G.nil (GE.then_ (GC.region ?_))
 refine G.stepD (OD.fieldAddr rfl rfl fa41_3) rfl rfl rfl ?_
 refine G.stepD (OD.load rfl ti24 rfl (i := 1) rfl rfl) rfl rfl rfl ?_
 refine G.stepD (OD.move rfl rfl) rfl rfl rfl ?_
 refine G.stepD (OD.fieldAddr rfl rfl fa41_2) rfl rfl rfl ?_
 refine G.stepD (OD.load rfl ti3 rfl (i := 1) rfl rfl) rfl rfl rfl ?_
 refine G.stepD (OD.mulI rfl rfl rfl (by first | omega | (simp only [List.length_set, List.length_replicate]; omega))) rfl rfl rfl ?_
 refine G.stepD (OD.move rfl rfl) rfl rfl rfl ?_
 refine G.stepD (OD.eqv (OD.addI rfl rfl rfl (by first | omega | (simp only [List.length_set, List.length_replicate]; omega))) (congrArg (Value.int .i64) ((hq2x) : (((k : Int) * ac) + (j : Int) : Int) = ((q2 : Int))))) rfl rfl rfl ?_
 refine G.stepD (OD.move rfl rfl) rfl rfl rfl ?_
 refine G.stepD (OD.indexAddr rfl et24 rfl (Ent.ints (i := 2) rfl) rfl (by first | omega | (simp only [List.length_set, List.length_replicate]; omega))) rfl rfl rfl ?_
 refine G.stepD0 (OD.storeInt rfl ti3 rfl rfl (i := 2) rfl (by first | omega | (simp only [List.length_set, List.length_replicate]; omega))) rfl rfl ?_
 refine G.nil (GE.blockN (GE.then_ (GC.region ?_)))
 refine G.stepD (OD.move rfl rfl) rfl rfl rfl ?_
 refine G.stepD (OD.addI rfl rfl rfl (by first | omega | (simp only [List.length_set, List.length_replicate]; omega))) rfl rfl rfl ?_
 refine G.stepD (OD.assign rfl rfl) rfl rfl rfl ?_
 refine G.nil ?_
 exact GE.again (j + 1, ((d1).set (q1) (d1.getD (q2) 0)).set (q2) (d1.getD (q1) 0)) (⟨by omega, by rw [hq1, hq2]; exact hF1.swap hRl (by omega) (by omega) (by omega)⟩) (by first | omega | (dsimp only; omega)) ⟨rfl, rfl, rfl, rfl, rfl, rfl, rfl, rfl, trivial⟩ [] 0 rfl
 replace hc13 := of_decide_eq_false hc13
 refine GC.exit (GE.pass (GE.pass (GE.hit (GE.then_ (GC.seq ?_)))))
 have hFs : FI d1 n C (at2 (swR M r k)) := hF1.swapE (by omega)
 have hdr : 0 ≤ (0 - dt) % ap ∧ (0 - dt) % ap < ap := by first | exact hdt | exact ⟨Int.emod_nonneg _ (by omega), Int.emod_lt_of_pos _ (by omega)⟩
 have hml := mulBd (A := 10007) (B := 10007) (a := (0 - dt) % ap) (b := at2 (swR M r k) r c) (by omega) (by omega)
 refine GC.at [] 0 (env' := [(2, .pointer (some ⟨g2, 0, none⟩)), (5, .pointer (some ⟨g5, 0, none⟩)), (6, vp), (8, .int .i64 ((c : Int))), (9, .int .i64 ((r : Int))), (7, .int .i64 ((0 - dt) % ap))]) ⟨rfl, rfl, rfl, rfl, rfl, rfl, trivial⟩ rfl ?_
 refine GC.par (its := [⟨110, [], [], [], [], fun _ => .int .i64 ((0 - dt) % ap), fun _ => True, fun _ => []⟩,
     ⟨111, [], [], [], [], fun _ => .agg #[.int .i64 (ap), .int .i64 (ar), .int .i64 (ac), v3], fun _ => True, fun _ => []⟩,
     ⟨112, [], [], [], [], fun _ => .int .i64 ((r : Int)), fun _ => True, fun _ => []⟩,
     ⟨113, [], [], [], [], fun _ => .int .i64 ((c : Int)), fun _ => True, fun _ => []⟩,
     ⟨114, [(1, 111), (2, 112), (3, 113)], [], [], [], fun _ => .int .i64 (at2 (swR M r k) r c), fun _ => True, fun _ => []⟩,
     ⟨115, [(0, 110), (4, 114)], [], [], [], fun _ => .int .i64 (((0 - dt) % ap) * (at2 (swR M r k) r c)), fun _ => True, fun _ => []⟩,
     ⟨116, [], [], [], [], fun _ => .pointer (some ⟨g5, 0, none⟩), fun _ => True, fun _ => []⟩,
     ⟨117, [(6, 116)], [], [], [], fun _ => .int .i64 (ap), fun _ => True, fun _ => []⟩,
     ⟨118, [(5, 115), (7, 117)], [], [], [], fun _ => .int .i64 ((((0 - dt) % ap) * (at2 (swR M r k) r c)).tmod ap), fun _ => True, fun _ => []⟩]) (by kernel_rfl) (by kernel_rfl) (POps.cons ?_ (POps.cons ?_ (POps.cons ?_ (POps.cons ?_ (POps.cons ?_ (POps.cons ?_ (POps.cons ?_ (POps.cons ?_ (POps.cons ?_ POps.nil))))))))) ?_
 intro θ R hd
 exact Opp.plain (OG.imp (OD.move rfl rfl) (by rintro _ _ ⟨rfl, rfl⟩; exact ⟨[], rfl, trivial, rfl⟩)) rfl
 intro θ R hd
 exact Opp.plain (OG.imp (OD.loadAgg rfl ti41 rfl (i := 1) rfl (us := [.int .i64 (ap), .int .i64 (ar), .int .i64 (ac), v3]) rfl rfl) (by rintro _ _ ⟨rfl, rfl⟩; exact ⟨[], rfl, trivial, rfl⟩)) rfl
 intro θ R hd
 exact Opp.plain (OG.imp (OD.move rfl rfl) (by rintro _ _ ⟨rfl, rfl⟩; exact ⟨[], rfl, trivial, rfl⟩)) rfl
 intro θ R hd
 exact Opp.plain (OG.imp (OD.move rfl rfl) (by rintro _ _ ⟨rfl, rfl⟩; exact ⟨[], rfl, trivial, rfl⟩)) rfl
 intro θ R hd
 obtain ⟨h1d, h2d, h3d, _⟩ := hd
 exact Opp.plain (OG.imp (OG.call [.agg #[.int .i64 (ap), .int .i64 (ar), .int .i64 (ac), v3], .int .i64 ((r : Int)), .int .i64 ((c : Int))] ent36 rfl rfl rfl rfl (by exact (l1AtF_w hs4 (Ent.ints (i := 2) rfl) (f := at2 (swR M r k)) (hFs) (hac) (by omega) (by omega) (hnC)))) (by rintro _ _ ⟨rfl, rfl⟩; exact ⟨[], rfl, trivial, rfl⟩)) rfl
 intro θ R hd
 obtain ⟨h0d, h4d, _⟩ := hd
 exact Opp.plain (OG.imp (OD.mulI rfl rfl rfl (by omega)) (by rintro _ _ ⟨rfl, rfl⟩; exact ⟨[], rfl, trivial, rfl⟩)) rfl
 intro θ R hd
 exact Opp.plain (OG.imp (OD.fieldAddr rfl rfl fa41_0) (by rintro _ _ ⟨rfl, rfl⟩; exact ⟨[], rfl, trivial, rfl⟩)) rfl
 intro θ R hd
 obtain ⟨h6d, _⟩ := hd
 exact Opp.plain (OG.imp (OD.load rfl ti3 rfl (i := 1) rfl rfl) (by rintro _ _ ⟨rfl, rfl⟩; exact ⟨[], rfl, trivial, rfl⟩)) rfl
 intro θ R hd
 obtain ⟨h5d, h7d, _⟩ := hd
 exact Opp.plain (OG.imp (OD.rem rfl rfl rfl (by omega)) (by rintro _ _ ⟨rfl, rfl⟩; exact ⟨[], rfl, trivial, rfl⟩)) rfl
 intro θ hall
 obtain ⟨_, _, _, _, _, _, _, _, _, _⟩ := hall
 refine G.at [] 0 (env' := [(2, .pointer (some ⟨g2, 0, none⟩)), (5, .pointer (some ⟨g5, 0, none⟩)), (6, vp), (8, .int .i64 ((c : Int))), (9, .int .i64 ((r : Int))), (7, .int .i64 ((0 - dt) % ap)), (118, .int .i64 ((((0 - dt) % ap) * (at2 (swR M r k) r c)).tmod ap))]) ⟨rfl, rfl, rfl, rfl, rfl, rfl, rfl, trivial⟩ (own' := ints 3 vp ps :: box g5 41 [.int .i64 (ap), .int .i64 (ar), .int .i64 (ac), v3] :: ints 3 v3 d1 :: box g2 41 [.int .i64 (0), .int .i64 (0), .int .i64 (0), .slice none 0 0] :: box g1 41 [.int .i64 (ap), .int .i64 (ar), .int .i64 (ac), vad] :: own) rfl ?_
 show G _ _ _ [_] _ _ _ _
 refine G.stepD (OD.assign rfl rfl) rfl rfl rfl ?_
 refine G.nil (GE.then_ (GC.seq ?_))
 refine GC.at [] 0 (env' := [(2, .pointer (some ⟨g2, 0, none⟩)), (5, .pointer (some ⟨g5, 0, none⟩)), (6, vp), (8, .int .i64 ((c : Int))), (9, .int .i64 ((r : Int))), (7, .int .i64 ((((0 - dt) % ap) * (at2 (swR M r k) r c)).tmod ap))]) ⟨rfl, rfl, rfl, rfl, rfl, rfl, trivial⟩ rfl ?_
 refine GC.par (its := [⟨119, [], [], [], [], fun _ => .agg #[.int .i64 (ap), .int .i64 (ar), .int .i64 (ac), v3], fun _ => True, fun _ => []⟩,
     ⟨120, [], [], [], [], fun _ => .int .i64 ((r : Int)), fun _ => True, fun _ => []⟩,
     ⟨121, [], [], [], [], fun _ => .int .i64 ((c : Int)), fun _ => True, fun _ => []⟩,
     ⟨122, [(0, 119), (1, 120), (2, 121)], [], [], [], fun _ => .int .i64 (at2 (swR M r k) r c), fun _ => True, fun _ => []⟩,
     ⟨123, [], [], [], [], fun _ => .pointer (some ⟨g5, 0, none⟩), fun _ => True, fun _ => []⟩,
     ⟨124, [(4, 123)], [], [], [], fun _ => .int .i64 (ap), fun _ => True, fun _ => []⟩,
     ⟨125, [(3, 122), (5, 124)], [], [], [], fun _ => .int .i64 (ivO (at2 (swR M r k) r c) ap), fun _ => True, fun _ => []⟩]) (by kernel_rfl) (by kernel_rfl) (POps.cons ?_ (POps.cons ?_ (POps.cons ?_ (POps.cons ?_ (POps.cons ?_ (POps.cons ?_ (POps.cons ?_ POps.nil))))))) ?_
 intro θ R hd
 exact Opp.plain (OG.imp (OD.loadAgg rfl ti41 rfl (i := 1) rfl (us := [.int .i64 (ap), .int .i64 (ar), .int .i64 (ac), v3]) rfl rfl) (by rintro _ _ ⟨rfl, rfl⟩; exact ⟨[], rfl, trivial, rfl⟩)) rfl
 intro θ R hd
 exact Opp.plain (OG.imp (OD.move rfl rfl) (by rintro _ _ ⟨rfl, rfl⟩; exact ⟨[], rfl, trivial, rfl⟩)) rfl
 intro θ R hd
 exact Opp.plain (OG.imp (OD.move rfl rfl) (by rintro _ _ ⟨rfl, rfl⟩; exact ⟨[], rfl, trivial, rfl⟩)) rfl
 intro θ R hd
 obtain ⟨h0d, h1d, h2d, _⟩ := hd
 exact Opp.plain (OG.imp (OG.call [.agg #[.int .i64 (ap), .int .i64 (ar), .int .i64 (ac), v3], .int .i64 ((r : Int)), .int .i64 ((c : Int))] ent36 rfl rfl rfl rfl (by exact (l1AtF_w hs4 (Ent.ints (i := 2) rfl) (f := at2 (swR M r k)) (hFs) (hac) (by omega) (by omega) (hnC)))) (by rintro _ _ ⟨rfl, rfl⟩; exact ⟨[], rfl, trivial, rfl⟩)) rfl
 intro θ R hd
 exact Opp.plain (OG.imp (OD.fieldAddr rfl rfl fa41_0) (by rintro _ _ ⟨rfl, rfl⟩; exact ⟨[], rfl, trivial, rfl⟩)) rfl
 intro θ R hd
 obtain ⟨h4d, _⟩ := hd
 exact Opp.plain (OG.imp (OD.load rfl ti3 rfl (i := 1) rfl rfl) (by rintro _ _ ⟨rfl, rfl⟩; exact ⟨[], rfl, trivial, rfl⟩)) rfl
 intro θ R hd
 obtain ⟨h3d, h5d, _⟩ := hd
 exact Opp.plain (OG.imp (OG.call [.int .i64 (at2 (swR M r k) r c), .int .i64 (ap)] ent38 rfl rfl rfl rfl (by exact (inverseOf_ok (hpp) (by omega)))) (by rintro _ _ ⟨rfl, rfl⟩; exact ⟨[], rfl, trivial, rfl⟩)) rfl
 intro θ hall
 obtain ⟨_, _, _, _, _, _, _, _⟩ := hall
 refine G.at [] 0 (env' := [(2, .pointer (some ⟨g2, 0, none⟩)), (5, .pointer (some ⟨g5, 0, none⟩)), (6, vp), (8, .int .i64 ((c : Int))), (9, .int .i64 ((r : Int))), (7, .int .i64 ((((0 - dt) % ap) * (at2 (swR M r k) r c)).tmod ap)), (125, .int .i64 (ivO (at2 (swR M r k) r c) ap))]) ⟨rfl, rfl, rfl, rfl, rfl, rfl, rfl, trivial⟩ (own' := ints 3 vp ps :: box g5 41 [.int .i64 (ap), .int .i64 (ar), .int .i64 (ac), v3] :: ints 3 v3 d1 :: box g2 41 [.int .i64 (0), .int .i64 (0), .int .i64 (0), .slice none 0 0] :: box g1 41 [.int .i64 (ap), .int .i64 (ar), .int .i64 (ac), vad] :: own) rfl ?_
 show G _ _ _ [_] _ _ _ _
 refine G.stepD (OD.assign rfl rfl) rfl rfl rfl ?_
 refine G.nil (GE.then_ (GC.seq (GC.seq (GC.region ?_))))
 refine G.stepD (OD.assign rfl rfl) rfl rfl rfl ?_
 refine G.nil (GE.then_ (GC.block ?_))
 refine GC.loop (ι := Nat × List Int) (fun ⟨j, d2⟩ => [(2, .pointer (some ⟨g2, 0, none⟩)), (5, .pointer (some ⟨g5, 0, none⟩)), (6, vp), (8, .int .i64 ((c : Int))), (9, .int .i64 ((r : Int))), (7, .int .i64 ((((0 - dt) % ap) * (at2 (swR M r k) r c)).tmod ap)), (13, .int .i64 (ivO (at2 (swR M r k) r c) ap)), (14, .int .i64 ((j : Int)))]) (fun ⟨j, d2⟩ => ints 3 vp ps :: box g5 41 [.int .i64 (ap), .int .i64 (ar), .int .i64 (ac), v3] :: ints 3 v3 d2 :: box g2 41 [.int .i64 (0), .int .i64 (0), .int .i64 (0), .slice none 0 0] :: box g1 41 [.int .i64 (ap), .int .i64 (ar), .int .i64 (ac), vad] :: own) (fun ⟨j, d2⟩ => (j ≤ C) ∧ (FI d2 n C (scF ap (ivO (at2 (swR M r k) r c) ap) (swR M r k) r j))) (fun ⟨j, d2⟩ => C - j) (0, d1) (⟨by omega, hFs.sc0⟩) ⟨rfl, rfl, rfl, rfl, rfl, rfl, rfl, rfl, trivial⟩ [] 0 rfl ?_
 rintro ⟨j, d2⟩ ⟨hj, hF2⟩
 have hd2l := hF2.1
 refine GC.seq (GC.seq (GC.region ?_))
 refine G.stepD (OD.move rfl rfl) rfl rfl rfl ?_
 refine G.stepD (OD.fieldAddr rfl rfl fa41_2) rfl rfl rfl ?_
 refine G.stepD (OD.load rfl ti3 rfl (i := 1) rfl rfl) rfl rfl rfl ?_
 refine G.stepD (OD.lss rfl rfl rfl) rfl rfl rfl ?_
 refine G.nil (GE.then_ ?_)
 refine GC.cond rfl (fun hc14 => ?_) (fun hc14 => ?_)
 replace hc14 := of_decide_eq_true hc14
 refine GC.skip (GE.then_ (GC.seq (GC.block ?_)))
 obtain ⟨q3, hq3, hq3x, hq3y, hq3z, hq3l⟩ := ixF hac (show r < n by omega) (show j < C by omega) hnC
 have hg3 : d2.getD q3 0 = at2 (swR M r k) r j := by rw [hq3]; exact hF2.at_sc (by omega) (by omega)
 have hg3r := hRs.rg r j
 have hm3 := mulBd (A := 10007) (B := 10007) (a := d2.getD q3 0) (b := ivO (at2 (swR M r k) r c) ap) (by omega) (by omega)
 refine GC.at [] 0 (env' := [(2, .pointer (some ⟨g2, 0, none⟩)), (5, .pointer (some ⟨g5, 0, none⟩)), (6, vp), (8, .int .i64 ((c : Int))), (9, .int .i64 ((r : Int))), (7, .int .i64 ((((0 - dt) % ap) * (at2 (swR M r k) r c)).tmod ap)), (13, .int .i64 (ivO (at2 (swR M r k) r c) ap)), (14, .int .i64 ((j : Int)))]) ⟨rfl, rfl, rfl, rfl, rfl, rfl, rfl, rfl, trivial⟩ rfl ?_
 refine GC.par (its := [⟨132, [], [], [], [], fun _ => .pointer (some ⟨g5, 3, none⟩), fun _ => True, fun _ => []⟩,
     ⟨133, [(0, 132)], [], [], [], fun _ => v3, fun _ => True, fun _ => []⟩,
     ⟨134, [], [], [], [], fun _ => .int .i64 ((r : Int)), fun _ => True, fun _ => []⟩,
     ⟨135, [], [], [], [], fun _ => .pointer (some ⟨g5, 2, none⟩), fun _ => True, fun _ => []⟩,
     ⟨136, [(3, 135)], [], [], [], fun _ => .int .i64 (ac), fun _ => True, fun _ => []⟩,
     ⟨137, [(2, 134), (4, 136)], [], [], [], fun _ => .int .i64 ((r : Int) * ac), fun _ => True, fun _ => []⟩,
     ⟨138, [], [], [], [], fun _ => .int .i64 ((j : Int)), fun _ => True, fun _ => []⟩,
     ⟨139, [(5, 137), (6, 138)], [], [], [], fun _ => .int .i64 ((q3 : Int)), fun _ => True, fun _ => []⟩,
     ⟨140, [], [], [], [], fun _ => .pointer (some ⟨g5, 3, none⟩), fun _ => True, fun _ => []⟩,
     ⟨141, [(8, 140)], [], [], [], fun _ => v3, fun _ => True, fun _ => []⟩,
     ⟨142, [], [], [], [], fun _ => .int .i64 ((r : Int)), fun _ => True, fun _ => []⟩,
     ⟨143, [], [], [], [], fun _ => .pointer (some ⟨g5, 2, none⟩), fun _ => True, fun _ => []⟩,
     ⟨144, [(11, 143)], [], [], [], fun _ => .int .i64 (ac), fun _ => True, fun _ => []⟩,
     ⟨145, [(10, 142), (12, 144)], [], [], [], fun _ => .int .i64 ((r : Int) * ac), fun _ => True, fun _ => []⟩,
     ⟨146, [], [], [], [], fun _ => .int .i64 ((j : Int)), fun _ => True, fun _ => []⟩,
     ⟨147, [(13, 145), (14, 146)], [], [], [], fun _ => .int .i64 ((q3 : Int)), fun _ => True, fun _ => []⟩,
     ⟨148, [(9, 141), (15, 147)], [], [], [], fun _ => elemPtr v3 1 (q3), fun _ => True, fun _ => []⟩,
     ⟨149, [(16, 148)], [], [], [], fun _ => .int .i64 (d2.getD (q3) 0), fun _ => True, fun _ => []⟩,
     ⟨150, [], [], [], [], fun _ => .int .i64 (ivO (at2 (swR M r k) r c) ap), fun _ => True, fun _ => []⟩,
     ⟨151, [(17, 149), (18, 150)], [], [], [], fun _ => .int .i64 ((d2.getD (q3) 0) * (ivO (at2 (swR M r k) r c) ap)), fun _ => True, fun _ => []⟩,
     ⟨152, [], [], [], [], fun _ => .pointer (some ⟨g5, 0, none⟩), fun _ => True, fun _ => []⟩,
     ⟨153, [(20, 152)], [], [], [], fun _ => .int .i64 (ap), fun _ => True, fun _ => []⟩,
     ⟨154, [(19, 151), (21, 153)], [], [], [], fun _ => .int .i64 ((d2.getD q3 0 * ivO (at2 (swR M r k) r c) ap % ap)), fun _ => True, fun _ => []⟩,
     ⟨155, [(1, 133), (7, 139)], [], [], [], fun _ => elemPtr v3 1 (q3), fun _ => True, fun _ => []⟩]) (by kernel_rfl) (by kernel_rfl) (POps.cons ?_ (POps.cons ?_ (POps.cons ?_ (POps.cons ?_ (POps.cons ?_ (POps.cons ?_ (POps.cons ?_ (POps.cons ?_ (POps.cons ?_ (POps.cons ?_ (POps.cons ?_ (POps.cons ?_ (POps.cons ?_ (POps.cons ?_ (POps.cons ?_ (POps.cons ?_ (POps.cons ?_ (POps.cons ?_ (POps.cons ?_ (POps.cons ?_ (POps.cons ?_ (POps.cons ?_ (POps.cons ?_ (POps.cons ?_ POps.nil)))))))))))))))))))))))) ?_
 intro θ R hd
 exact Opp.plain (OG.imp (OD.fieldAddr rfl rfl fa41_3) (by rintro _ _ ⟨rfl, rfl⟩; exact ⟨[], rfl, trivial, rfl⟩)) rfl
 intro θ R hd
 obtain ⟨h0d, _⟩ := hd
 exact Opp.plain (OG.imp (OD.load rfl ti24 rfl (i := 1) rfl rfl) (by rintro _ _ ⟨rfl, rfl⟩; exact ⟨[], rfl, trivial, rfl⟩)) rfl
 intro θ R hd
 exact Opp.plain (OG.imp (OD.move rfl rfl) (by rintro _ _ ⟨rfl, rfl⟩; exact ⟨[], rfl, trivial, rfl⟩)) rfl
 intro θ R hd
 exact Opp.plain (OG.imp (OD.fieldAddr rfl rfl fa41_2) (by rintro _ _ ⟨rfl, rfl⟩; exact ⟨[], rfl, trivial, rfl⟩)) rfl
 intro θ R hd
 obtain ⟨h3d, _⟩ := hd
 exact Opp.plain (OG.imp (OD.load rfl ti3 rfl (i := 1) rfl rfl) (by rintro _ _ ⟨rfl, rfl⟩; exact ⟨[], rfl, trivial, rfl⟩)) rfl
 intro θ R hd
 obtain ⟨h2d, h4d, _⟩ := hd
 exact Opp.plain (OG.imp (OD.mulI rfl rfl rfl (by omega)) (by rintro _ _ ⟨rfl, rfl⟩; exact ⟨[], rfl, trivial, rfl⟩)) rfl
 intro θ R hd
 exact Opp.plain (OG.imp (OD.move rfl rfl) (by rintro _ _ ⟨rfl, rfl⟩; exact ⟨[], rfl, trivial, rfl⟩)) rfl
 intro θ R hd
 obtain ⟨h5d, h6d, _⟩ := hd
 exact Opp.plain (OG.imp (OD.eqv (OD.addI rfl rfl rfl (by omega)) (congrArg (Value.int .i64) ((hq3x) : (((r : Int) * ac) + (j : Int) : Int) = ((q3 : Int))))) (by rintro _ _ ⟨rfl, rfl⟩; exact ⟨[], rfl, trivial, rfl⟩)) rfl
 intro θ R hd
 exact Opp.plain (OG.imp (OD.fieldAddr rfl rfl fa41_3) (by rintro _ _ ⟨rfl, rfl⟩; exact ⟨[], rfl, trivial, rfl⟩)) rfl
 intro θ R hd
 obtain ⟨h8d, _⟩ := hd
 exact Opp.plain (OG.imp (OD.load rfl ti24 rfl (i := 1) rfl rfl) (by rintro _ _ ⟨rfl, rfl⟩; exact ⟨[], rfl, trivial, rfl⟩)) rfl
 intro θ R hd
 exact Opp.plain (OG.imp (OD.move rfl rfl) (by rintro _ _ ⟨rfl, rfl⟩; exact ⟨[], rfl, trivial, rfl⟩)) rfl
 intro θ R hd
 exact Opp.plain (OG.imp (OD.fieldAddr rfl rfl fa41_2) (by rintro _ _ ⟨rfl, rfl⟩; exact ⟨[], rfl, trivial, rfl⟩)) rfl
 intro θ R hd
 obtain ⟨h11d, _⟩ := hd
 exact Opp.plain (OG.imp (OD.load rfl ti3 rfl (i := 1) rfl rfl) (by rintro _ _ ⟨rfl, rfl⟩; exact ⟨[], rfl, trivial, rfl⟩)) rfl
 intro θ R hd
 obtain ⟨h10d, h12d, _⟩ := hd
 exact Opp.plain (OG.imp (OD.mulI rfl rfl rfl (by omega)) (by rintro _ _ ⟨rfl, rfl⟩; exact ⟨[], rfl, trivial, rfl⟩)) rfl
 intro θ R hd
 exact Opp.plain (OG.imp (OD.move rfl rfl) (by rintro _ _ ⟨rfl, rfl⟩; exact ⟨[], rfl, trivial, rfl⟩)) rfl
 intro θ R hd
 obtain ⟨h13d, h14d, _⟩ := hd
 exact Opp.plain (OG.imp (OD.eqv (OD.addI rfl rfl rfl (by omega)) (congrArg (Value.int .i64) ((hq3x) : (((r : Int) * ac) + (j : Int) : Int) = ((q3 : Int))))) (by rintro _ _ ⟨rfl, rfl⟩; exact ⟨[], rfl, trivial, rfl⟩)) rfl
 intro θ R hd
 obtain ⟨h9d, h15d, _⟩ := hd
 exact Opp.plain (OG.imp (OD.indexAddr rfl et24 rfl (Ent.ints (i := 2) rfl) rfl (by omega)) (by rintro _ _ ⟨rfl, rfl⟩; exact ⟨[], rfl, trivial, rfl⟩)) rfl
 intro θ R hd
 obtain ⟨h16d, _⟩ := hd
 exact Opp.plain (OG.imp (OD.loadInt rfl ti3 rfl (Ent.ints (i := 2) rfl) (by omega)) (by rintro _ _ ⟨rfl, rfl⟩; exact ⟨[], rfl, trivial, rfl⟩)) rfl
 intro θ R hd
 exact Opp.plain (OG.imp (OD.move rfl rfl) (by rintro _ _ ⟨rfl, rfl⟩; exact ⟨[], rfl, trivial, rfl⟩)) rfl
 intro θ R hd
 obtain ⟨h17d, h18d, _⟩ := hd
 exact Opp.plain (OG.imp (OD.mulI rfl rfl rfl (by omega)) (by rintro _ _ ⟨rfl, rfl⟩; exact ⟨[], rfl, trivial, rfl⟩)) rfl
 intro θ R hd
 exact Opp.plain (OG.imp (OD.fieldAddr rfl rfl fa41_0) (by rintro _ _ ⟨rfl, rfl⟩; exact ⟨[], rfl, trivial, rfl⟩)) rfl
 intro θ R hd
 obtain ⟨h20d, _⟩ := hd
 exact Opp.plain (OG.imp (OD.load rfl ti3 rfl (i := 1) rfl rfl) (by rintro _ _ ⟨rfl, rfl⟩; exact ⟨[], rfl, trivial, rfl⟩)) rfl
 intro θ R hd
 obtain ⟨h19d, h21d, _⟩ := hd
 exact Opp.plain (OG.imp (OD.eqv (OD.rem rfl rfl rfl (by omega)) (congrArg (Value.int .i64) ((Int.tmod_eq_emod_of_nonneg hm3.1) : (((d2.getD (q3) 0) * (ivO (at2 (swR M r k) r c) ap)).tmod ap : Int) = ((d2.getD q3 0 * ivO (at2 (swR M r k) r c) ap % ap))))) (by rintro _ _ ⟨rfl, rfl⟩; exact ⟨[], rfl, trivial, rfl⟩)) rfl
 intro θ R hd
 obtain ⟨h1d, h7d, _⟩ := hd
 exact Opp.plain (OG.imp (OD.indexAddr rfl et24 rfl (Ent.ints (i := 2) rfl) rfl (by omega)) (by rintro _ _ ⟨rfl, rfl⟩; exact ⟨[], rfl, trivial, rfl⟩)) rfl
 intro θ hall
 obtain ⟨_, _, _, _, _, _, _, _, _, _, _, _, _, _, _, _, _, _, _, _, _, _, _, _, _⟩ := hall
 refine G.at [] 0 (env' := [(2, .pointer (some ⟨g2, 0, none⟩)), (5, .pointer (some ⟨g5, 0, none⟩)), (6, vp), (8, .int .i64 ((c : Int))), (9, .int .i64 ((r : Int))), (7, .int .i64 ((((0 - dt) % ap) * (at2 (swR M r k) r c)).tmod ap)), (13, .int .i64 (ivO (at2 (swR M r k) r c) ap)), (14, .int .i64 ((j : Int))), (154, .int .i64 ((d2.getD q3 0 * ivO (at2 (swR M r k) r c) ap % ap))), (155, elemPtr v3 1 (q3))]) ⟨rfl, rfl, rfl, rfl, rfl, rfl, rfl, rfl, rfl, rfl, trivial⟩ (own' := ints 3 vp ps :: box g5 41 [.int .i64 (ap), .int .i64 (ar), .int .i64 (ac), v3] :: ints 3 v3 d2 :: box g2 41 [.int .i64 (0), .int .i64 (0), .int .i64 (0), .slice none 0 0] :: box g1 41 [.int .i64 (ap), .int .i64 (ar), .int .i64 (ac), vad] :: own) rfl ?_
 show G _ _ _ [_] _ _ _ _
 refine G.stepD0 (OD.storeInt rfl ti3 rfl rfl (i := 2) rfl (by omega)) rfl rfl ?_
 refine G.nil (GE.blockN (GE.then_ (GC.region ?_)))
 refine G.stepD (OD.move rfl rfl) rfl rfl rfl ?_
 refine G.stepD (OD.addI rfl rfl rfl (by first | omega | (simp only [List.length_set, List.length_replicate]; omega))) rfl rfl rfl ?_
 refine G.stepD (OD.assign rfl rfl) rfl rfl rfl ?_
 refine G.nil ?_
 exact GE.again (j + 1, (d2).set (q3) ((d2.getD q3 0 * ivO (at2 (swR M r k) r c) ap % ap))) (⟨by omega, by rw [hq3]; exact hF2.sc (by omega) (by omega)⟩) (by first | omega | (dsimp only; omega)) ⟨rfl, rfl, rfl, rfl, rfl, rfl, rfl, rfl, trivial⟩ [] 0 rfl
 replace hc14 := of_decide_eq_false hc14
 refine GC.exit (GE.pass (GE.pass (GE.hit (GE.then_ (GC.seq (GC.seq ?_))))))
 have hFc : FI d2 n C (at2 (elK ap r c A1 0)) := by rw [hA1]; exact (show FI d2 n C (scF ap (ivp ap (at2 (swR M r k) r c)) (swR M r k) r j) from hF2).scE (by omega) (by rw [swR_len]; omega) (by omega)
 refine GC.region ?_
 refine G.stepD (OD.assign rfl rfl) rfl rfl rfl ?_
 refine G.nil (GE.then_ (GC.block ?_))
 refine GC.loop (ι := Nat × List Int) (fun ⟨i, d3⟩ => [(2, .pointer (some ⟨g2, 0, none⟩)), (5, .pointer (some ⟨g5, 0, none⟩)), (6, vp), (8, .int .i64 ((c : Int))), (9, .int .i64 ((r : Int))), (7, .int .i64 ((((0 - dt) % ap) * (at2 (swR M r k) r c)).tmod ap)), (15, .int .i64 ((i : Int)))]) (fun ⟨i, d3⟩ => ints 3 vp ps :: box g5 41 [.int .i64 (ap), .int .i64 (ar), .int .i64 (ac), v3] :: ints 3 v3 d3 :: box g2 41 [.int .i64 (0), .int .i64 (0), .int .i64 (0), .slice none 0 0] :: box g1 41 [.int .i64 (ap), .int .i64 (ar), .int .i64 (ac), vad] :: own) (fun ⟨i, d3⟩ => (i ≤ n) ∧ (FI d3 n C (at2 (elK ap r c A1 i)))) (fun ⟨i, d3⟩ => n - i) (0, d2) (⟨by omega, hFc⟩) ⟨rfl, rfl, rfl, rfl, rfl, rfl, rfl, trivial⟩ [] 0 rfl ?_
 rintro ⟨i, d3⟩ ⟨hi, hF3⟩
 obtain ⟨B, hB⟩ : ∃ B : List (List Int), B = elK ap r c A1 i := ⟨_, rfl⟩
 rw [← hB] at hF3
 have hRB : RwI ap n C B := by rw [hB]; exact hR1.elk (by omega) (by omega) hi
 have hBrg := hRB.rg i c
 have hd3l := hF3.1
 refine GC.seq (GC.seq (GC.region ?_))
 refine G.stepD (OD.move rfl rfl) rfl rfl rfl ?_
 refine G.stepD (OD.fieldAddr rfl rfl fa41_1) rfl rfl rfl ?_
 refine G.stepD (OD.load rfl ti3 rfl (i := 1) rfl rfl) rfl rfl rfl ?_
 refine G.stepD (OD.lss rfl rfl rfl) rfl rfl rfl ?_
 refine G.nil (GE.then_ ?_)
 refine GC.cond rfl (fun hc15 => ?_) (fun hc15 => ?_)
 replace hc15 := of_decide_eq_true hc15
 refine GC.skip (GE.then_ (GC.seq (GC.block (GC.seq (GC.region ?_)))))
 refine G.stepD (OD.loadAgg rfl ti41 rfl (i := 1) rfl (us := [.int .i64 (ap), .int .i64 (ar), .int .i64 (ac), v3]) rfl rfl) rfl rfl rfl ?_
 refine G.stepD (OD.move rfl rfl) rfl rfl rfl ?_
 refine G.stepD (OD.move rfl rfl) rfl rfl rfl ?_
 refine G.step (OG.call [.agg #[.int .i64 (ap), .int .i64 (ar), .int .i64 (ac), v3], .int .i64 ((i : Int)), .int .i64 ((c : Int))] ent36 rfl rfl rfl rfl (by exact (l1AtF_w hs4 (Ent.ints (i := 2) rfl) (f := at2 B) (hF3) (hac) (by omega) (by omega) (hnC)))) rfl rfl rfl ?_
 rintro _ _ ⟨rfl, rfl⟩
 refine G.stepD (OD.assign rfl rfl) rfl rfl rfl ?_
 refine G.nil (GE.then_ (GC.seq (GC.region ?_)))
 refine G.stepD (OD.assign rfl rfl) rfl rfl rfl ?_
 refine G.nil (GE.then_ (GC.block ?_))
 refine GC.loop (ι := Nat × List Int) (fun ⟨j, d4⟩ => [(2, .pointer (some ⟨g2, 0, none⟩)), (5, .pointer (some ⟨g5, 0, none⟩)), (6, vp), (8, .int .i64 ((c : Int))), (9, .int .i64 ((r : Int))), (7, .int .i64 ((((0 - dt) % ap) * (at2 (swR M r k) r c)).tmod ap)), (15, .int .i64 ((i : Int))), (16, .int .i64 (at2 B i c)), (17, .int .i64 ((j : Int)))]) (fun ⟨j, d4⟩ => ints 3 vp ps :: box g5 41 [.int .i64 (ap), .int .i64 (ar), .int .i64 (ac), v3] :: ints 3 v3 d4 :: box g2 41 [.int .i64 (0), .int .i64 (0), .int .i64 (0), .slice none 0 0] :: box g1 41 [.int .i64 (ap), .int .i64 (ar), .int .i64 (ac), vad] :: own) (fun ⟨j, d4⟩ => (j ≤ C) ∧ (FI d4 n C (elF ap (at2 B i c) B r i j)) ∧ (j = 0 ∨ (i ≠ r ∧ at2 B i c ≠ 0))) (fun ⟨j, d4⟩ => C - j) (0, d3) (⟨by omega, hF3.el0, .inl rfl⟩) ⟨rfl, rfl, rfl, rfl, rfl, rfl, rfl, rfl, rfl, trivial⟩ [] 0 rfl ?_
 rintro ⟨j, d4⟩ ⟨hj, hF4, h04⟩
 have hd4l := hF4.1
 refine GC.seq (GC.seq (GC.region ?_))
 refine G.stepD (OD.move rfl rfl) rfl rfl rfl ?_
 refine G.stepD (OD.fieldAddr rfl rfl fa41_2) rfl rfl rfl ?_
 refine G.stepD (OD.load rfl ti3 rfl (i := 1) rfl rfl) rfl rfl rfl ?_
 refine G.stepD (OD.lss rfl rfl rfl) rfl rfl rfl ?_
 refine G.stepD (OD.move rfl rfl) rfl rfl rfl ?_
 rcases Bool.eq_false_or_eq_true (decide ((j : Int) < ac)) with hg16 | hg16
 have hg16e := hg16
 refine G.at [] 0 (env' := [(2, .pointer (some ⟨g2, 0, none⟩)), (5, .pointer (some ⟨g5, 0, none⟩)), (6, vp), (8, .int .i64 ((c : Int))), (9, .int .i64 ((r : Int))), (7, .int .i64 ((((0 - dt) % ap) * (at2 (swR M r k) r c)).tmod ap)), (15, .int .i64 ((i : Int))), (16, .int .i64 (at2 B i c)), (17, .int .i64 ((j : Int))), (166, .int .i64 ((j : Int))), (167, .pointer (some ⟨g5, 2, none⟩)), (168, .int .i64 (ac)), (169, .bool true), (170, .bool true)]) (⟨rfl, rfl, rfl, rfl, rfl, rfl, rfl, rfl, rfl, rfl, rfl, rfl, (congrArg (fun b => some (Value.bool b)) hg16e), (congrArg (fun b => some (Value.bool b)) hg16e), trivial⟩) rfl ?_
 replace hg16 := of_decide_eq_true hg16
 refine G.stepGD (OD.move rfl rfl) rfl rfl rfl rfl rfl ?_
 refine G.stepGD (OD.move rfl rfl) rfl rfl rfl rfl rfl ?_
 refine G.stepGD (OD.neq rfl rfl rfl) rfl rfl rfl rfl rfl ?_
 refine G.stepD (OD.pickT rfl rfl rfl) rfl rfl rfl ?_
 refine G.stepD (OD.move rfl rfl) rfl rfl rfl ?_
 rcases Bool.eq_false_or_eq_true ((i : Int) != (r : Int)) with hg17 | hg17
 have hg17e := hg17
 refine G.at [] 0 (env' := [(2, .pointer (some ⟨g2, 0, none⟩)), (5, .pointer (some ⟨g5, 0, none⟩)), (6, vp), (8, .int .i64 ((c : Int))), (9, .int .i64 ((r : Int))), (7, .int .i64 ((((0 - dt) % ap) * (at2 (swR M r k) r c)).tmod ap)), (15, .int .i64 ((i : Int))), (16, .int .i64 (at2 B i c)), (17, .int .i64 ((j : Int))), (166, .int .i64 ((j : Int))), (167, .pointer (some ⟨g5, 2, none⟩)), (168, .int .i64 (ac)), (169, .bool true), (170, .bool true), (171, .int .i64 ((i : Int))), (172, .int .i64 ((r : Int))), (173, .bool true), (174, .bool true), (175, .bool true)]) (⟨rfl, rfl, rfl, rfl, rfl, rfl, rfl, rfl, rfl, rfl, rfl, rfl, rfl, rfl, rfl, rfl, (congrArg (fun b => some (Value.bool b)) hg17e), (congrArg (fun b => some (Value.bool b)) hg17e), (congrArg (fun b => some (Value.bool b)) hg17e), trivial⟩) rfl ?_
 replace hg17 := ne_of_bne hg17
 refine G.stepGD (OD.move rfl rfl) rfl rfl rfl rfl rfl ?_
 refine G.stepGD (OD.neq rfl rfl rfl) rfl rfl rfl rfl rfl ?_
 refine G.stepD (OD.pickT rfl rfl rfl) rfl rfl rfl ?_
 refine G.nil (GE.then_ ?_)
 refine GC.cond rfl (fun hc18 => ?_) (fun hc18 => ?_)
 replace hc18 := ne_of_bne hc18
 refine GC.skip (GE.then_ (GC.seq (GC.block ?_)))
 obtain ⟨q4, hq4, hq4x, hq4y, hq4z, hq4l⟩ := ixF hac (show i < n by omega) (show j < C by omega) hnC
 obtain ⟨q5, hq5, hq5x, hq5y, hq5z, hq5l⟩ := ixF hac (show r < n by omega) (show j < C by omega) hnC
 have hg5 : d4.getD q5 0 = at2 B r j := by rw [hq5, hF4.2 r j (by omega) (by omega), elF, if_neg (by omega)]
 have hg4 : d4.getD q4 0 = at2 B i j := by rw [hq4, hF4.2 i j (by omega) (by omega), elF, if_neg (by omega)]
 have hg4r := hRB.rg i j
 have hg5r := hRB.rg r j
 have hm5 := mulBd (A := 10007) (B := 10007) (a := at2 B i c) (b := d4.getD q5 0) (by omega) (by omega)
 refine GC.at [] 0 (env' := [(2, .pointer (some ⟨g2, 0, none⟩)), (5, .pointer (some ⟨g5, 0, none⟩)), (6, vp), (8, .int .i64 ((c : Int))), (9, .int .i64 ((r : Int))), (7, .int .i64 ((((0 - dt) % ap) * (at2 (swR M r k) r c)).tmod ap)), (15, .int .i64 ((i : Int))), (16, .int .i64 (at2 B i c)), (17, .int .i64 ((j : Int)))]) ⟨rfl, rfl, rfl, rfl, rfl, rfl, rfl, rfl, rfl, trivial⟩ rfl ?_
 refine GC.par (its := [⟨181, [], [], [], [], fun _ => .pointer (some ⟨g5, 3, none⟩), fun _ => True, fun _ => []⟩,
     ⟨182, [(0, 181)], [], [], [], fun _ => v3, fun _ => True, fun _ => []⟩,
     ⟨183, [], [], [], [], fun _ => .int .i64 ((i : Int)), fun _ => True, fun _ => []⟩,
     ⟨184, [], [], [], [], fun _ => .pointer (some ⟨g5, 2, none⟩), fun _ => True, fun _ => []⟩,
     ⟨185, [(3, 184)], [], [], [], fun _ => .int .i64 (ac), fun _ => True, fun _ => []⟩,
     ⟨186, [(2, 183), (4, 185)], [], [], [], fun _ => .int .i64 ((i : Int) * ac), fun _ => True, fun _ => []⟩,
     ⟨187, [], [], [], [], fun _ => .int .i64 ((j : Int)), fun _ => True, fun _ => []⟩,
     ⟨188, [(5, 186), (6, 187)], [], [], [], fun _ => .int .i64 ((q4 : Int)), fun _ => True, fun _ => []⟩,
     ⟨189, [], [], [], [], fun _ => .pointer (some ⟨g5, 3, none⟩), fun _ => True, fun _ => []⟩,
     ⟨190, [(8, 189)], [], [], [], fun _ => v3, fun _ => True, fun _ => []⟩,
     ⟨191, [], [], [], [], fun _ => .int .i64 ((i : Int)), fun _ => True, fun _ => []⟩,
     ⟨192, [], [], [], [], fun _ => .pointer (some ⟨g5, 2, none⟩), fun _ => True, fun _ => []⟩,
     ⟨193, [(11, 192)], [], [], [], fun _ => .int .i64 (ac), fun _ => True, fun _ => []⟩,
     ⟨194, [(10, 191), (12, 193)], [], [], [], fun _ => .int .i64 ((i : Int) * ac), fun _ => True, fun _ => []⟩,
     ⟨195, [], [], [], [], fun _ => .int .i64 ((j : Int)), fun _ => True, fun _ => []⟩,
     ⟨196, [(13, 194), (14, 195)], [], [], [], fun _ => .int .i64 ((q4 : Int)), fun _ => True, fun _ => []⟩,
     ⟨197, [(9, 190), (15, 196)], [], [], [], fun _ => elemPtr v3 1 (q4), fun _ => True, fun _ => []⟩,
     ⟨198, [(16, 197)], [], [], [], fun _ => .int .i64 (d4.getD (q4) 0), fun _ => True, fun _ => []⟩,
     ⟨199, [], [], [], [], fun _ => .int .i64 (at2 B i c), fun _ => True, fun _ => []⟩,
     ⟨200, [], [], [], [], fun _ => .pointer (some ⟨g5, 3, none⟩), fun _ => True, fun _ => []⟩,
     ⟨201, [(19, 200)], [], [], [], fun _ => v3, fun _ => True, fun _ => []⟩,
     ⟨202, [], [], [], [], fun _ => .int .i64 ((r : Int)), fun _ => True, fun _ => []⟩,
     ⟨203, [], [], [], [], fun _ => .pointer (some ⟨g5, 2, none⟩), fun _ => True, fun _ => []⟩,
     ⟨204, [(22, 203)], [], [], [], fun _ => .int .i64 (ac), fun _ => True, fun _ => []⟩,
     ⟨205, [(21, 202), (23, 204)], [], [], [], fun _ => .int .i64 ((r : Int) * ac), fun _ => True, fun _ => []⟩,
     ⟨206, [], [], [], [], fun _ => .int .i64 ((j : Int)), fun _ => True, fun _ => []⟩,
     ⟨207, [(24, 205), (25, 206)], [], [], [], fun _ => .int .i64 ((q5 : Int)), fun _ => True, fun _ => []⟩,
     ⟨208, [(20, 201), (26, 207)], [], [], [], fun _ => elemPtr v3 1 (q5), fun _ => True, fun _ => []⟩,
     ⟨209, [(27, 208)], [], [], [], fun _ => .int .i64 (d4.getD (q5) 0), fun _ => True, fun _ => []⟩,
     ⟨210, [(18, 199), (28, 209)], [], [], [], fun _ => .int .i64 ((at2 B i c) * (d4.getD (q5) 0)), fun _ => True, fun _ => []⟩,
     ⟨211, [(17, 198), (29, 210)], [], [], [], fun _ => .int .i64 ((d4.getD (q4) 0) - ((at2 B i c) * (d4.getD (q5) 0))), fun _ => True, fun _ => []⟩,
     ⟨212, [], [], [], [], fun _ => .pointer (some ⟨g5, 0, none⟩), fun _ => True, fun _ => []⟩,
     ⟨213, [(31, 212)], [], [], [], fun _ => .int .i64 (ap), fun _ => True, fun _ => []⟩,
     ⟨214, [(30, 211), (32, 213)], [], [], [], fun _ => .int .i64 (((d4.getD (q4) 0) - ((at2 B i c) * (d4.getD (q5) 0))) % ap), fun _ => True, fun _ => []⟩,
     ⟨215, [(1, 182), (7, 188)], [], [], [], fun _ => elemPtr v3 1 (q4), fun _ => True, fun _ => []⟩]) (by kernel_rfl) (by kernel_rfl) (POps.cons ?_ (POps.cons ?_ (POps.cons ?_ (POps.cons ?_ (POps.cons ?_ (POps.cons ?_ (POps.cons ?_ (POps.cons ?_ (POps.cons ?_ (POps.cons ?_ (POps.cons ?_ (POps.cons ?_ (POps.cons ?_ (POps.cons ?_ (POps.cons ?_ (POps.cons ?_ (POps.cons ?_ (POps.cons ?_ (POps.cons ?_ (POps.cons ?_ (POps.cons ?_ (POps.cons ?_ (POps.cons ?_ (POps.cons ?_ (POps.cons ?_ (POps.cons ?_ (POps.cons ?_ (POps.cons ?_ (POps.cons ?_ (POps.cons ?_ (POps.cons ?_ (POps.cons ?_ (POps.cons ?_ (POps.cons ?_ (POps.cons ?_ POps.nil))))))))))))))))))))))))))))))))))) ?_
 intro θ R hd
 exact Opp.plain (OG.imp (OD.fieldAddr rfl rfl fa41_3) (by rintro _ _ ⟨rfl, rfl⟩; exact ⟨[], rfl, trivial, rfl⟩)) rfl
 intro θ R hd
 obtain ⟨h0d, _⟩ := hd
 exact Opp.plain (OG.imp (OD.load rfl ti24 rfl (i := 1) rfl rfl) (by rintro _ _ ⟨rfl, rfl⟩; exact ⟨[], rfl, trivial, rfl⟩)) rfl
 intro θ R hd
 exact Opp.plain (OG.imp (OD.move rfl rfl) (by rintro _ _ ⟨rfl, rfl⟩; exact ⟨[], rfl, trivial, rfl⟩)) rfl
 intro θ R hd
 exact Opp.plain (OG.imp (OD.fieldAddr rfl rfl fa41_2) (by rintro _ _ ⟨rfl, rfl⟩; exact ⟨[], rfl, trivial, rfl⟩)) rfl
 intro θ R hd
 obtain ⟨h3d, _⟩ := hd
 exact Opp.plain (OG.imp (OD.load rfl ti3 rfl (i := 1) rfl rfl) (by rintro _ _ ⟨rfl, rfl⟩; exact ⟨[], rfl, trivial, rfl⟩)) rfl
 intro θ R hd
 obtain ⟨h2d, h4d, _⟩ := hd
 exact Opp.plain (OG.imp (OD.mulI rfl rfl rfl (by omega)) (by rintro _ _ ⟨rfl, rfl⟩; exact ⟨[], rfl, trivial, rfl⟩)) rfl
 intro θ R hd
 exact Opp.plain (OG.imp (OD.move rfl rfl) (by rintro _ _ ⟨rfl, rfl⟩; exact ⟨[], rfl, trivial, rfl⟩)) rfl
 intro θ R hd
 obtain ⟨h5d, h6d, _⟩ := hd
 exact Opp.plain (OG.imp (OD.eqv (OD.addI rfl rfl rfl (by omega)) (congrArg (Value.int .i64) ((hq4x) : (((i : Int) * ac) + (j : Int) : Int) = ((q4 : Int))))) (by rintro _ _ ⟨rfl, rfl⟩; exact ⟨[], rfl, trivial, rfl⟩)) rfl
 intro θ R hd
 exact Opp.plain (OG.imp (OD.fieldAddr rfl rfl fa41_3) (by rintro _ _ ⟨rfl, rfl⟩; exact ⟨[], rfl, trivial, rfl⟩)) rfl
 intro θ R hd
 obtain ⟨h8d, _⟩ := hd
 exact Opp.plain (OG.imp (OD.load rfl ti24 rfl (i := 1) rfl rfl) (by rintro _ _ ⟨rfl, rfl⟩; exact ⟨[], rfl, trivial, rfl⟩)) rfl
 intro θ R hd
 exact Opp.plain (OG.imp (OD.move rfl rfl) (by rintro _ _ ⟨rfl, rfl⟩; exact ⟨[], rfl, trivial, rfl⟩)) rfl
 intro θ R hd
 exact Opp.plain (OG.imp (OD.fieldAddr rfl rfl fa41_2) (by rintro _ _ ⟨rfl, rfl⟩; exact ⟨[], rfl, trivial, rfl⟩)) rfl
 intro θ R hd
 obtain ⟨h11d, _⟩ := hd
 exact Opp.plain (OG.imp (OD.load rfl ti3 rfl (i := 1) rfl rfl) (by rintro _ _ ⟨rfl, rfl⟩; exact ⟨[], rfl, trivial, rfl⟩)) rfl
 intro θ R hd
 obtain ⟨h10d, h12d, _⟩ := hd
 exact Opp.plain (OG.imp (OD.mulI rfl rfl rfl (by omega)) (by rintro _ _ ⟨rfl, rfl⟩; exact ⟨[], rfl, trivial, rfl⟩)) rfl
 intro θ R hd
 exact Opp.plain (OG.imp (OD.move rfl rfl) (by rintro _ _ ⟨rfl, rfl⟩; exact ⟨[], rfl, trivial, rfl⟩)) rfl
 intro θ R hd
 obtain ⟨h13d, h14d, _⟩ := hd
 exact Opp.plain (OG.imp (OD.eqv (OD.addI rfl rfl rfl (by omega)) (congrArg (Value.int .i64) ((hq4x) : (((i : Int) * ac) + (j : Int) : Int) = ((q4 : Int))))) (by rintro _ _ ⟨rfl, rfl⟩; exact ⟨[], rfl, trivial, rfl⟩)) rfl
 intro θ R hd
 obtain ⟨h9d, h15d, _⟩ := hd
 exact Opp.plain (OG.imp (OD.indexAddr rfl et24 rfl (Ent.ints (i := 2) rfl) rfl (by omega)) (by rintro _ _ ⟨rfl, rfl⟩; exact ⟨[], rfl, trivial, rfl⟩)) rfl
 intro θ R hd
 obtain ⟨h16d, _⟩ := hd
 exact Opp.plain (OG.imp (OD.loadInt rfl ti3 rfl (Ent.ints (i := 2) rfl) (by omega)) (by rintro _ _ ⟨rfl, rfl⟩; exact ⟨[], rfl, trivial, rfl⟩)) rfl
 intro θ R hd
 exact Opp.plain (OG.imp (OD.move rfl rfl) (by rintro _ _ ⟨rfl, rfl⟩; exact ⟨[], rfl, trivial, rfl⟩)) rfl
 intro θ R hd
 exact Opp.plain (OG.imp (OD.fieldAddr rfl rfl fa41_3) (by rintro _ _ ⟨rfl, rfl⟩; exact ⟨[], rfl, trivial, rfl⟩)) rfl
 intro θ R hd
 obtain ⟨h19d, _⟩ := hd
 exact Opp.plain (OG.imp (OD.load rfl ti24 rfl (i := 1) rfl rfl) (by rintro _ _ ⟨rfl, rfl⟩; exact ⟨[], rfl, trivial, rfl⟩)) rfl
 intro θ R hd
 exact Opp.plain (OG.imp (OD.move rfl rfl) (by rintro _ _ ⟨rfl, rfl⟩; exact ⟨[], rfl, trivial, rfl⟩)) rfl
 intro θ R hd
 exact Opp.plain (OG.imp (OD.fieldAddr rfl rfl fa41_2) (by rintro _ _ ⟨rfl, rfl⟩; exact ⟨[], rfl, trivial, rfl⟩)) rfl
 intro θ R hd
 obtain ⟨h22d, _⟩ := hd
 exact Opp.plain (OG.imp (OD.load rfl ti3 rfl (i := 1) rfl rfl) (by rintro _ _ ⟨rfl, rfl⟩; exact ⟨[], rfl, trivial, rfl⟩)) rfl
 intro θ R hd
 obtain ⟨h21d, h23d, _⟩ := hd
 exact Opp.plain (OG.imp (OD.mulI rfl rfl rfl (by omega)) (by rintro _ _ ⟨rfl, rfl⟩; exact ⟨[], rfl, trivial, rfl⟩)) rfl
 intro θ R hd
 exact Opp.plain (OG.imp (OD.move rfl rfl) (by rintro _ _ ⟨rfl, rfl⟩; exact ⟨[], rfl, trivial, rfl⟩)) rfl
 intro θ R hd
 obtain ⟨h24d, h25d, _⟩ := hd
 exact Opp.plain (OG.imp (OD.eqv (OD.addI rfl rfl rfl (by omega)) (congrArg (Value.int .i64) ((hq5x) : (((r : Int) * ac) + (j : Int) : Int) = ((q5 : Int))))) (by rintro _ _ ⟨rfl, rfl⟩; exact ⟨[], rfl, trivial, rfl⟩)) rfl
 intro θ R hd
 obtain ⟨h20d, h26d, _⟩ := hd
 exact Opp.plain (OG.imp (OD.indexAddr rfl et24 rfl (Ent.ints (i := 2) rfl) rfl (by omega)) (by rintro _ _ ⟨rfl, rfl⟩; exact ⟨[], rfl, trivial, rfl⟩)) rfl
 intro θ R hd
 obtain ⟨h27d, _⟩ := hd
 exact Opp.plain (OG.imp (OD.loadInt rfl ti3 rfl (Ent.ints (i := 2) rfl) (by omega)) (by rintro _ _ ⟨rfl, rfl⟩; exact ⟨[], rfl, trivial, rfl⟩)) rfl
 intro θ R hd
 obtain ⟨h18d, h28d, _⟩ := hd
 exact Opp.plain (OG.imp (OD.mulI rfl rfl rfl (by omega)) (by rintro _ _ ⟨rfl, rfl⟩; exact ⟨[], rfl, trivial, rfl⟩)) rfl
 intro θ R hd
 obtain ⟨h17d, h29d, _⟩ := hd
 exact Opp.plain (OG.imp (OD.subI rfl rfl rfl (by omega)) (by rintro _ _ ⟨rfl, rfl⟩; exact ⟨[], rfl, trivial, rfl⟩)) rfl
 intro θ R hd
 exact Opp.plain (OG.imp (OD.fieldAddr rfl rfl fa41_0) (by rintro _ _ ⟨rfl, rfl⟩; exact ⟨[], rfl, trivial, rfl⟩)) rfl
 intro θ R hd
 obtain ⟨h31d, _⟩ := hd
 exact Opp.plain (OG.imp (OD.load rfl ti3 rfl (i := 1) rfl rfl) (by rintro _ _ ⟨rfl, rfl⟩; exact ⟨[], rfl, trivial, rfl⟩)) rfl
 intro θ R hd
 obtain ⟨h30d, h32d, _⟩ := hd
 exact Opp.plain (OG.imp (OG.call [.int .i64 ((d4.getD (q4) 0) - ((at2 B i c) * (d4.getD (q5) 0))), .int .i64 (ap)] ent37 rfl rfl rfl rfl (by exact (l1Mod_s (by omega)))) (by rintro _ _ ⟨rfl, rfl⟩; exact ⟨[], rfl, trivial, rfl⟩)) rfl
 intro θ R hd
 obtain ⟨h1d, h7d, _⟩ := hd
 exact Opp.plain (OG.imp (OD.indexAddr rfl et24 rfl (Ent.ints (i := 2) rfl) rfl (by omega)) (by rintro _ _ ⟨rfl, rfl⟩; exact ⟨[], rfl, trivial, rfl⟩)) rfl
 intro θ hall
 obtain ⟨_, _, _, _, _, _, _, _, _, _, _, _, _, _, _, _, _, _, _, _, _, _, _, _, _, _, _, _, _, _, _, _, _, _, _, _⟩ := hall
 refine G.at [] 0 (env' := [(2, .pointer (some ⟨g2, 0, none⟩)), (5, .pointer (some ⟨g5, 0, none⟩)), (6, vp), (8, .int .i64 ((c : Int))), (9, .int .i64 ((r : Int))), (7, .int .i64 ((((0 - dt) % ap) * (at2 (swR M r k) r c)).tmod ap)), (15, .int .i64 ((i : Int))), (16, .int .i64 (at2 B i c)), (17, .int .i64 ((j : Int))), (214, .int .i64 (((d4.getD (q4) 0) - ((at2 B i c) * (d4.getD (q5) 0))) % ap)), (215, elemPtr v3 1 (q4))]) ⟨rfl, rfl, rfl, rfl, rfl, rfl, rfl, rfl, rfl, rfl, rfl, trivial⟩ (own' := ints 3 vp ps :: box g5 41 [.int .i64 (ap), .int .i64 (ar), .int .i64 (ac), v3] :: ints 3 v3 d4 :: box g2 41 [.int .i64 (0), .int .i64 (0), .int .i64 (0), .slice none 0 0] :: box g1 41 [.int .i64 (ap), .int .i64 (ar), .int .i64 (ac), vad] :: own) rfl ?_
 show G _ _ _ [_] _ _ _ _
 refine G.stepD0 (OD.storeInt rfl ti3 rfl rfl (i := 2) rfl (by omega)) rfl rfl ?_
 refine G.nil (GE.blockN (GE.then_ (GC.region ?_)))
 refine G.stepD (OD.move rfl rfl) rfl rfl rfl ?_
 refine G.stepD (OD.addI rfl rfl rfl (by first | omega | (simp only [List.length_set, List.length_replicate]; omega))) rfl rfl rfl ?_
 refine G.stepD (OD.assign rfl rfl) rfl rfl rfl ?_
 refine G.nil ?_
 exact GE.again (j + 1, (d4).set (q4) (((d4.getD (q4) 0) - ((at2 B i c) * (d4.getD (q5) 0))) % ap)) (⟨by omega, by rw [hq4, hq5]; exact hF4.el (by omega) (by omega) (by omega) (by omega), .inr ⟨by omega, by omega⟩⟩) (by first | omega | (dsimp only; omega)) ⟨rfl, rfl, rfl, rfl, rfl, rfl, rfl, rfl, rfl, trivial⟩ [] 0 rfl
 replace hc18 := eq_of_bne_false hc18
 refine GC.exit (GE.pass (GE.pass (GE.hit (GE.blockN (GE.then_ (GC.region ?_))))))
 refine G.stepD (OD.move rfl rfl) rfl rfl rfl ?_
 refine G.stepD (OD.addI rfl rfl rfl (by omega)) rfl rfl rfl ?_
 refine G.stepD (OD.assign rfl rfl) rfl rfl rfl ?_
 refine G.nil ?_
 exact GE.again (i + 1, d4) (⟨by omega, by rw [elK_next, ← hB]; exact hF4.elE hRB (by omega) (by omega) h04 (by omega)⟩) (by first | omega | (dsimp only; omega)) ⟨rfl, rfl, rfl, rfl, rfl, rfl, rfl, trivial⟩ [] 0 rfl
 have hg17e := hg17
 refine G.at [] 0 (env' := [(2, .pointer (some ⟨g2, 0, none⟩)), (5, .pointer (some ⟨g5, 0, none⟩)), (6, vp), (8, .int .i64 ((c : Int))), (9, .int .i64 ((r : Int))), (7, .int .i64 ((((0 - dt) % ap) * (at2 (swR M r k) r c)).tmod ap)), (15, .int .i64 ((i : Int))), (16, .int .i64 (at2 B i c)), (17, .int .i64 ((j : Int))), (166, .int .i64 ((j : Int))), (167, .pointer (some ⟨g5, 2, none⟩)), (168, .int .i64 (ac)), (169, .bool true), (170, .bool true), (171, .int .i64 ((i : Int))), (172, .int .i64 ((r : Int))), (173, .bool false), (174, .bool false), (175, .bool false)]) (⟨rfl, rfl, rfl, rfl, rfl, rfl, rfl, rfl, rfl, rfl, rfl, rfl, rfl, rfl, rfl, rfl, (congrArg (fun b => some (Value.bool b)) hg17e), (congrArg (fun b => some (Value.bool b)) hg17e), (congrArg (fun b => some (Value.bool b)) hg17e), trivial⟩) rfl ?_
 replace hg17 := eq_of_bne_false hg17
 refine G.skipG rfl rfl rfl rfl rfl rfl (G.skipG rfl rfl rfl rfl rfl rfl ?_)
 refine G.stepD (OD.pickF rfl rfl rfl) rfl rfl rfl ?_
 refine G.nil (GE.then_ (GC.condF rfl (GC.exit (GE.pass (GE.pass (GE.hit (GE.blockN (GE.then_ (GC.region ?_)))))))))
 refine G.stepD (OD.move rfl rfl) rfl rfl rfl ?_
 refine G.stepD (OD.addI rfl rfl rfl (by omega)) rfl rfl rfl ?_
 refine G.stepD (OD.assign rfl rfl) rfl rfl rfl ?_
 refine G.nil ?_
 exact GE.again (i + 1, d4) (⟨by omega, by rw [elK_next, ← hB]; exact hF4.elE hRB (by omega) (by omega) h04 (by omega)⟩) (by first | omega | (dsimp only; omega)) ⟨rfl, rfl, rfl, rfl, rfl, rfl, rfl, trivial⟩ [] 0 rfl
 have hg16e := hg16
 refine G.at [] 0 (env' := [(2, .pointer (some ⟨g2, 0, none⟩)), (5, .pointer (some ⟨g5, 0, none⟩)), (6, vp), (8, .int .i64 ((c : Int))), (9, .int .i64 ((r : Int))), (7, .int .i64 ((((0 - dt) % ap) * (at2 (swR M r k) r c)).tmod ap)), (15, .int .i64 ((i : Int))), (16, .int .i64 (at2 B i c)), (17, .int .i64 ((j : Int))), (166, .int .i64 ((j : Int))), (167, .pointer (some ⟨g5, 2, none⟩)), (168, .int .i64 (ac)), (169, .bool false), (170, .bool false)]) (⟨rfl, rfl, rfl, rfl, rfl, rfl, rfl, rfl, rfl, rfl, rfl, rfl, (congrArg (fun b => some (Value.bool b)) hg16e), (congrArg (fun b => some (Value.bool b)) hg16e), trivial⟩) rfl ?_
 replace hg16 := of_decide_eq_false hg16
 refine G.skipG rfl rfl rfl rfl rfl rfl (G.skipG rfl rfl rfl rfl rfl rfl (G.skipG rfl rfl rfl rfl rfl rfl ?_))
 refine G.stepD (OD.pickF rfl rfl rfl) rfl rfl rfl ?_
 refine G.stepD (OD.move rfl rfl) rfl rfl rfl ?_
 refine G.skipG rfl rfl rfl rfl rfl rfl (G.skipG rfl rfl rfl rfl rfl rfl ?_)
 refine G.stepD (OD.pickF rfl rfl rfl) rfl rfl rfl ?_
 refine G.nil (GE.then_ (GC.condF rfl (GC.exit (GE.pass (GE.pass (GE.hit (GE.blockN (GE.then_ (GC.region ?_)))))))))
 refine G.stepD (OD.move rfl rfl) rfl rfl rfl ?_
 refine G.stepD (OD.addI rfl rfl rfl (by omega)) rfl rfl rfl ?_
 refine G.stepD (OD.assign rfl rfl) rfl rfl rfl ?_
 refine G.nil ?_
 exact GE.again (i + 1, d4) (⟨by omega, by rw [elK_next, ← hB]; exact hF4.elE hRB (by omega) (by omega) h04 (by omega)⟩) (by first | omega | (dsimp only; omega)) ⟨rfl, rfl, rfl, rfl, rfl, rfl, rfl, trivial⟩ [] 0 rfl
 replace hc15 := of_decide_eq_false hc15
 refine GC.exit (GE.pass (GE.pass (GE.hit (GE.then_ (GC.region ?_)))))
 refine G.stepD (OD.move rfl rfl) rfl rfl rfl ?_
 refine G.stepD (OD.move rfl rfl) rfl rfl rfl ?_
 refine G.step (OG.buildInts (xs := [.tmp 217]) (is := [(c : Int)]) rfl et24 rfl rfl rfl rfl rfl) rfl rfl rfl ?_
 rintro v19 _ ⟨hs20, rfl⟩
 refine G.step (OG.appendInts 1 rfl rfl et24 rfl rfl rfl (Ent.ints (i := 0) rfl) (by first | omega | (simp; omega))) rfl rfl rfl ?_
 rintro v21 _ ⟨hs22, rfl⟩
 refine G.stepD (OD.assign rfl rfl) rfl rfl rfl ?_
 refine G.nil (GE.blockN (GE.then_ (GC.region ?_)))
 refine G.stepD (OD.move rfl rfl) rfl rfl rfl ?_
 refine G.stepD (OD.addI rfl rfl rfl (by omega)) rfl rfl rfl ?_
 refine G.stepD (OD.assign rfl rfl) rfl rfl rfl ?_
 refine G.nil ?_
 exact GE.again (c + 1, B, ps ++ [(c : Int)], ((((0 - dt) % ap) * (at2 (swR M r k) r c)).tmod ap), d3, v21) (⟨by omega, rd_go hs hK hr (by omega) hRl hA1 hB (by omega), hF3, ⟨Int.tmod_nonneg _ hml.1, Int.tmod_lt_of_pos _ (by omega)⟩, hs22⟩) (by first | omega | (dsimp only; omega)) ⟨rfl, rfl, rfl, rfl, rfl, trivial⟩ [1, 1, 1, 1, 1] 1 rfl
 replace hc12 := eq_of_bne_false hc12
 refine GC.skip (GE.then_ (GC.seq (GC.seq (GC.region ?_))))
 refine G.stepD (OD.assign rfl rfl) rfl rfl rfl ?_
 refine G.nil (GE.then_ (GC.block ?_))
 refine GC.loop (ι := Nat × List Int) (fun ⟨j, d1⟩ => [(2, .pointer (some ⟨g2, 0, none⟩)), (5, .pointer (some ⟨g5, 0, none⟩)), (6, vp), (7, .int .i64 (dt)), (8, .int .i64 ((c : Int))), (9, .int .i64 ((r : Int))), (10, .int .i64 ((k : Int))), (11, .int .i64 ((j : Int)))]) (fun ⟨j, d1⟩ => ints 3 vp ps :: box g5 41 [.int .i64 (ap), .int .i64 (ar), .int .i64 (ac), v3] :: ints 3 v3 d1 :: box g2 41 [.int .i64 (0), .int .i64 (0), .int .i64 (0), .slice none 0 0] :: box g1 41 [.int .i64 (ap), .int .i64 (ar), .int .i64 (ac), vad] :: own) (fun ⟨j, d1⟩ => (j ≤ C) ∧ (FI d1 n C (swF M r k j))) (fun ⟨j, d1⟩ => C - j) (0, d) (⟨by omega, hF.swap0⟩) ⟨rfl, rfl, rfl, rfl, rfl, rfl, rfl, rfl, trivial⟩ [] 0 rfl ?_
 rintro ⟨j, d1⟩ ⟨hj, hF1⟩
 have hd1l := hF1.1
 refine GC.seq (GC.seq (GC.region ?_))
 refine G.stepD (OD.move rfl rfl) rfl rfl rfl ?_
 refine G.stepD (OD.fieldAddr rfl rfl fa41_2) rfl rfl rfl ?_
 refine G.stepD (OD.load rfl ti3 rfl (i := 1) rfl rfl) rfl rfl rfl ?_
 refine G.stepD (OD.lss rfl rfl rfl) rfl rfl rfl ?_
 refine G.nil (GE.then_ ?_)
 refine GC.cond rfl (fun hc23 => ?_) (fun hc23 => ?_)
 replace hc23 := of_decide_eq_true hc23
 refine GC.skip (GE.then_ (GC.seq (GC.block (GC.seq ?_))))
 obtain ⟨q1, hq1, hq1x, hq1y, hq1z, hq1l⟩ := ixF hac (show r < n by omega) (show j < C by omega) hnC
 obtain ⟨q2, hq2, hq2x, hq2y, hq2z, hq2l⟩ := ixF hac (show k < n by omega) (show j < C by omega) hnC
 refine GC.region ?_
 refine G.stepD (OD.fieldAddr rfl rfl fa41_3) rfl rfl rfl ?_
 refine G.stepD (OD.load rfl ti24 rfl (i := 1) rfl rfl) rfl rfl rfl ?_
 refine G.stepD (OD.move rfl rfl) rfl rfl rfl ?_
 refine G.stepD (OD.fieldAddr rfl rfl fa41_2) rfl rfl rfl ?_
 refine G.stepD (OD.load rfl ti3 rfl (i := 1) rfl rfl) rfl rfl rfl ?_
 refine G.stepD (OD.mulI rfl rfl rfl (by omega)) rfl rfl rfl ?_
 refine G.stepD (OD.move rfl rfl) rfl rfl rfl ?_
 refine G.stepD (OD.eqv (OD.addI rfl rfl rfl (by omega)) (congrArg (Value.int .i64) ((hq1x) : (((r : Int) * ac) + (j : Int) : Int) = ((q1 : Int))))) rfl rfl rfl ?_
 refine G.stepD (OD.indexAddr rfl et24 rfl (Ent.ints (i := 2) rfl) rfl (by omega)) rfl rfl rfl ?_
 refine G.stepD (OD.loadInt rfl ti3 rfl (Ent.ints (i := 2) rfl) (by omega)) rfl rfl rfl ?_
 refine G.stepD (OD.assign rfl rfl) rfl rfl rfl ?_
 refine G.nil (GE.then_ (GC.seq ?_))
 refine GC.at [] 0 (env' := [(2, .pointer (some ⟨g2, 0, none⟩)), (5, .pointer (some ⟨g5, 0, none⟩)), (6, vp), (7, .int .i64 (dt)), (8, .int .i64 ((c : Int))), (9, .int .i64 ((r : Int))), (10, .int .i64 ((k : Int))), (11, .int .i64 ((j : Int))), (12, .int .i64 (d1.getD (q1) 0))]) ⟨rfl, rfl, rfl, rfl, rfl, rfl, rfl, rfl, rfl, trivial⟩ rfl ?_
 refine GC.par (its := [⟨81, [], [], [], [], fun _ => .pointer (some ⟨g5, 3, none⟩), fun _ => True, fun _ => []⟩,
     ⟨82, [(0, 81)], [], [], [], fun _ => v3, fun _ => True, fun _ => []⟩,
     ⟨83, [], [], [], [], fun _ => .int .i64 ((r : Int)), fun _ => True, fun _ => []⟩,
     ⟨84, [], [], [], [], fun _ => .pointer (some ⟨g5, 2, none⟩), fun _ => True, fun _ => []⟩,
     ⟨85, [(3, 84)], [], [], [], fun _ => .int .i64 (ac), fun _ => True, fun _ => []⟩,
     ⟨86, [(2, 83), (4, 85)], [], [], [], fun _ => .int .i64 ((r : Int) * ac), fun _ => True, fun _ => []⟩,
     ⟨87, [], [], [], [], fun _ => .int .i64 ((j : Int)), fun _ => True, fun _ => []⟩,
     ⟨88, [(5, 86), (6, 87)], [], [], [], fun _ => .int .i64 ((q1 : Int)), fun _ => True, fun _ => []⟩,
     ⟨89, [], [], [], [], fun _ => .pointer (some ⟨g5, 3, none⟩), fun _ => True, fun _ => []⟩,
     ⟨90, [(8, 89)], [], [], [], fun _ => v3, fun _ => True, fun _ => []⟩,
     ⟨91, [], [], [], [], fun _ => .int .i64 ((k : Int)), fun _ => True, fun _ => []⟩,
     ⟨92, [], [], [], [], fun _ => .pointer (some ⟨g5, 2, none⟩), fun _ => True, fun _ => []⟩,
     ⟨93, [(11, 92)], [], [], [], fun _ => .int .i64 (ac), fun _ => True, fun _ => []⟩,
     ⟨94, [(10, 91), (12, 93)], [], [], [], fun _ => .int .i64 ((k : Int) * ac), fun _ => True, fun _ => []⟩,
     ⟨95, [], [], [], [], fun _ => .int .i64 ((j : Int)), fun _ => True, fun _ => []⟩,
     ⟨96, [(13, 94), (14, 95)], [], [], [], fun _ => .int .i64 ((q2 : Int)), fun _ => True, fun _ => []⟩,
     ⟨97, [(9, 90), (15, 96)], [], [], [], fun _ => elemPtr v3 1 (q2), fun _ => True, fun _ => []⟩,
     ⟨98, [(16, 97)], [], [], [], fun _ => .int .i64 (d1.getD (q2) 0), fun _ => True, fun _ => []⟩,
     ⟨99, [(1, 82), (7, 88)], [], [], [], fun _ => elemPtr v3 1 (q1), fun _ => True, fun _ => []⟩]) (by kernel_rfl) (by kernel_rfl) (POps.cons ?_ (POps.cons ?_ (POps.cons ?_ (POps.cons ?_ (POps.cons ?_ (POps.cons ?_ (POps.cons ?_ (POps.cons ?_ (POps.cons ?_ (POps.cons ?_ (POps.cons ?_ (POps.cons ?_ (POps.cons ?_ (POps.cons ?_ (POps.cons ?_ (POps.cons ?_ (POps.cons ?_ (POps.cons ?_ (POps.cons ?_ POps.nil))))))))))))))))))) ?_
 intro θ R hd
 exact Opp.plain (OG.imp (OD.fieldAddr rfl rfl fa41_3) (by rintro _ _ ⟨rfl, rfl⟩; exact ⟨[], rfl, trivial, rfl⟩)) rfl
 intro θ R hd
 obtain ⟨h0d, _⟩ := hd
 exact Opp.plain (OG.imp (OD.load rfl ti24 rfl (i := 1) rfl rfl) (by rintro _ _ ⟨rfl, rfl⟩; exact ⟨[], rfl, trivial, rfl⟩)) rfl
 intro θ R hd
 exact Opp.plain (OG.imp (OD.move rfl rfl) (by rintro _ _ ⟨rfl, rfl⟩; exact ⟨[], rfl, trivial, rfl⟩)) rfl
 intro θ R hd
 exact Opp.plain (OG.imp (OD.fieldAddr rfl rfl fa41_2) (by rintro _ _ ⟨rfl, rfl⟩; exact ⟨[], rfl, trivial, rfl⟩)) rfl
 intro θ R hd
 obtain ⟨h3d, _⟩ := hd
 exact Opp.plain (OG.imp (OD.load rfl ti3 rfl (i := 1) rfl rfl) (by rintro _ _ ⟨rfl, rfl⟩; exact ⟨[], rfl, trivial, rfl⟩)) rfl
 intro θ R hd
 obtain ⟨h2d, h4d, _⟩ := hd
 exact Opp.plain (OG.imp (OD.mulI rfl rfl rfl (by omega)) (by rintro _ _ ⟨rfl, rfl⟩; exact ⟨[], rfl, trivial, rfl⟩)) rfl
 intro θ R hd
 exact Opp.plain (OG.imp (OD.move rfl rfl) (by rintro _ _ ⟨rfl, rfl⟩; exact ⟨[], rfl, trivial, rfl⟩)) rfl
 intro θ R hd
 obtain ⟨h5d, h6d, _⟩ := hd
 exact Opp.plain (OG.imp (OD.eqv (OD.addI rfl rfl rfl (by omega)) (congrArg (Value.int .i64) ((hq1x) : (((r : Int) * ac) + (j : Int) : Int) = ((q1 : Int))))) (by rintro _ _ ⟨rfl, rfl⟩; exact ⟨[], rfl, trivial, rfl⟩)) rfl
 intro θ R hd
 exact Opp.plain (OG.imp (OD.fieldAddr rfl rfl fa41_3) (by rintro _ _ ⟨rfl, rfl⟩; exact ⟨[], rfl, trivial, rfl⟩)) rfl
 intro θ R hd
 obtain ⟨h8d, _⟩ := hd
 exact Opp.plain (OG.imp (OD.load rfl ti24 rfl (i := 1) rfl rfl) (by rintro _ _ ⟨rfl, rfl⟩; exact ⟨[], rfl, trivial, rfl⟩)) rfl
 intro θ R hd
 exact Opp.plain (OG.imp (OD.move rfl rfl) (by rintro _ _ ⟨rfl, rfl⟩; exact ⟨[], rfl, trivial, rfl⟩)) rfl
 intro θ R hd
 exact Opp.plain (OG.imp (OD.fieldAddr rfl rfl fa41_2) (by rintro _ _ ⟨rfl, rfl⟩; exact ⟨[], rfl, trivial, rfl⟩)) rfl
 intro θ R hd
 obtain ⟨h11d, _⟩ := hd
 exact Opp.plain (OG.imp (OD.load rfl ti3 rfl (i := 1) rfl rfl) (by rintro _ _ ⟨rfl, rfl⟩; exact ⟨[], rfl, trivial, rfl⟩)) rfl
 intro θ R hd
 obtain ⟨h10d, h12d, _⟩ := hd
 exact Opp.plain (OG.imp (OD.mulI rfl rfl rfl (by omega)) (by rintro _ _ ⟨rfl, rfl⟩; exact ⟨[], rfl, trivial, rfl⟩)) rfl
 intro θ R hd
 exact Opp.plain (OG.imp (OD.move rfl rfl) (by rintro _ _ ⟨rfl, rfl⟩; exact ⟨[], rfl, trivial, rfl⟩)) rfl
 intro θ R hd
 obtain ⟨h13d, h14d, _⟩ := hd
 exact Opp.plain (OG.imp (OD.eqv (OD.addI rfl rfl rfl (by omega)) (congrArg (Value.int .i64) ((hq2x) : (((k : Int) * ac) + (j : Int) : Int) = ((q2 : Int))))) (by rintro _ _ ⟨rfl, rfl⟩; exact ⟨[], rfl, trivial, rfl⟩)) rfl
 intro θ R hd
 obtain ⟨h9d, h15d, _⟩ := hd
 exact Opp.plain (OG.imp (OD.indexAddr rfl et24 rfl (Ent.ints (i := 2) rfl) rfl (by omega)) (by rintro _ _ ⟨rfl, rfl⟩; exact ⟨[], rfl, trivial, rfl⟩)) rfl
 intro θ R hd
 obtain ⟨h16d, _⟩ := hd
 exact Opp.plain (OG.imp (OD.loadInt rfl ti3 rfl (Ent.ints (i := 2) rfl) (by omega)) (by rintro _ _ ⟨rfl, rfl⟩; exact ⟨[], rfl, trivial, rfl⟩)) rfl
 intro θ R hd
 obtain ⟨h1d, h7d, _⟩ := hd
 exact Opp.plain (OG.imp (OD.indexAddr rfl et24 rfl (Ent.ints (i := 2) rfl) rfl (by omega)) (by rintro _ _ ⟨rfl, rfl⟩; exact ⟨[], rfl, trivial, rfl⟩)) rfl
 intro θ hall
 obtain ⟨_, _, _, _, _, _, _, _, _, _, _, _, _, _, _, _, _, _, _, _⟩ := hall
 refine G.at [] 0 (env' := [(2, .pointer (some ⟨g2, 0, none⟩)), (5, .pointer (some ⟨g5, 0, none⟩)), (6, vp), (7, .int .i64 (dt)), (8, .int .i64 ((c : Int))), (9, .int .i64 ((r : Int))), (10, .int .i64 ((k : Int))), (11, .int .i64 ((j : Int))), (12, .int .i64 (d1.getD (q1) 0)), (98, .int .i64 (d1.getD (q2) 0)), (99, elemPtr v3 1 (q1))]) ⟨rfl, rfl, rfl, rfl, rfl, rfl, rfl, rfl, rfl, rfl, rfl, trivial⟩ (own' := ints 3 vp ps :: box g5 41 [.int .i64 (ap), .int .i64 (ar), .int .i64 (ac), v3] :: ints 3 v3 d1 :: box g2 41 [.int .i64 (0), .int .i64 (0), .int .i64 (0), .slice none 0 0] :: box g1 41 [.int .i64 (ap), .int .i64 (ar), .int .i64 (ac), vad] :: own) rfl ?_
 show G _ _ _ [_] _ _ _ _
 refine G.stepD0 (OD.storeInt rfl ti3 rfl rfl (i := 2) rfl (by omega)) rfl rfl ?_
 refine G.nil (GE.then_ (GC.region ?_))
 refine G.stepD (OD.fieldAddr rfl rfl fa41_3) rfl rfl rfl ?_
 refine G.stepD (OD.load rfl ti24 rfl (i := 1) rfl rfl) rfl rfl rfl ?_
 refine G.stepD (OD.move rfl rfl) rfl rfl rfl ?_
 refine G.stepD (OD.fieldAddr rfl rfl fa41_2) rfl rfl rfl ?_
 refine G.stepD (OD.load rfl ti3 rfl (i := 1) rfl rfl) rfl rfl rfl ?_
 refine G.stepD (OD.mulI rfl rfl rfl (by first | omega | (simp only [List.length_set, List.length_replicate]; omega))) rfl rfl rfl ?_
 refine G.stepD (OD.move rfl rfl) rfl rfl rfl ?_
 refine G.stepD (OD.eqv (OD.addI rfl rfl rfl (by first | omega | (simp only [List.length_set, List.length_replicate]; omega))) (congrArg (Value.int .i64) ((hq2x) : (((k : Int) * ac) + (j : Int) : Int) = ((q2 : Int))))) rfl rfl rfl ?_
 refine G.stepD (OD.move rfl rfl) rfl rfl rfl ?_
 refine G.stepD (OD.indexAddr rfl et24 rfl (Ent.ints (i := 2) rfl) rfl (by first | omega | (simp only [List.length_set, List.length_replicate]; omega))) rfl rfl rfl ?_
 refine G.stepD0 (OD.storeInt rfl ti3 rfl rfl (i := 2) rfl (by first | omega | (simp only [List.length_set, List.length_replicate]; omega))) rfl rfl ?_
 refine G.nil (GE.blockN (GE.then_ (GC.region ?_)))
 refine G.stepD (OD.move rfl rfl) rfl rfl rfl ?_
 refine G.stepD (OD.addI rfl rfl rfl (by first | omega | (simp only [List.length_set, List.length_replicate]; omega))) rfl rfl rfl ?_
 refine G.stepD (OD.assign rfl rfl) rfl rfl rfl ?_
 refine G.nil ?_
 exact GE.again (j + 1, ((d1).set (q1) (d1.getD (q2) 0)).set (q2) (d1.getD (q1) 0)) (⟨by omega, by rw [hq1, hq2]; exact hF1.swap hRl (by omega) (by omega) (by omega)⟩) (by first | omega | (dsimp only; omega)) ⟨rfl, rfl, rfl, rfl, rfl, rfl, rfl, rfl, trivial⟩ [] 0 rfl
 replace hc23 := of_decide_eq_false hc23
 refine GC.exit (GE.pass (GE.pass (GE.hit (GE.then_ (GC.seq ?_)))))
 have hFs : FI d1 n C (at2 (swR M r k)) := hF1.swapE (by omega)
 have hdr : 0 ≤ dt ∧ dt < ap := by first | exact hdt | exact ⟨Int.emod_nonneg _ (by omega), Int.emod_lt_of_pos _ (by omega)⟩
 have hml := mulBd (A := 10007) (B := 10007) (a := dt) (b := at2 (swR M r k) r c) (by omega) (by omega)
 refine GC.at [] 0 (env' := [(2, .pointer (some ⟨g2, 0, none⟩)), (5, .pointer (some ⟨g5, 0, none⟩)), (6, vp), (7, .int .i64 (dt)), (8, .int .i64 ((c : Int))), (9, .int .i64 ((r : Int)))]) ⟨rfl, rfl, rfl, rfl, rfl, rfl, trivial⟩ rfl ?_
 refine GC.par (its := [⟨110, [], [], [], [], fun _ => .int .i64 (dt), fun _ => True, fun _ => []⟩,
     ⟨111, [], [], [], [], fun _ => .agg #[.int .i64 (ap), .int .i64 (ar), .int .i64 (ac), v3], fun _ => True, fun _ => []⟩,
     ⟨112, [], [], [], [], fun _ => .int .i64 ((r : Int)), fun _ => True, fun _ => []⟩,
     ⟨113, [], [], [], [], fun _ => .int .i64 ((c : Int)), fun _ => True, fun _ => []⟩,
     ⟨114, [(1, 111), (2, 112), (3, 113)], [], [], [], fun _ => .int .i64 (at2 (swR M r k) r c), fun _ => True, fun _ => []⟩,
     ⟨115, [(0, 110), (4, 114)], [], [], [], fun _ => .int .i64 (dt * (at2 (swR M r k) r c)), fun _ => True, fun _ => []⟩,
     ⟨116, [], [], [], [], fun _ => .pointer (some ⟨g5, 0, none⟩), fun _ => True, fun _ => []⟩,
     ⟨117, [(6, 116)], [], [], [], fun _ => .int .i64 (ap), fun _ => True, fun _ => []⟩,
     ⟨118, [(5, 115), (7, 117)], [], [], [], fun _ => .int .i64 ((dt * (at2 (swR M r k) r c)).tmod ap), fun _ => True, fun _ => []⟩]) (by kernel_rfl) (by kernel_rfl) (POps.cons ?_ (POps.cons ?_ (POps.cons ?_ (POps.cons ?_ (POps.cons ?_ (POps.cons ?_ (POps.cons ?_ (POps.cons ?_ (POps.cons ?_ POps.nil))))))))) ?_
 intro θ R hd
 exact Opp.plain (OG.imp (OD.move rfl rfl) (by rintro _ _ ⟨rfl, rfl⟩; exact ⟨[], rfl, trivial, rfl⟩)) rfl
 intro θ R hd
 exact Opp.plain (OG.imp (OD.loadAgg rfl ti41 rfl (i := 1) rfl (us := [.int .i64 (ap), .int .i64 (ar), .int .i64 (ac), v3]) rfl rfl) (by rintro _ _ ⟨rfl, rfl⟩; exact ⟨[], rfl, trivial, rfl⟩)) rfl
 intro θ R hd
 exact Opp.plain (OG.imp (OD.move rfl rfl) (by rintro _ _ ⟨rfl, rfl⟩; exact ⟨[], rfl, trivial, rfl⟩)) rfl
 intro θ R hd
 exact Opp.plain (OG.imp (OD.move rfl rfl) (by rintro _ _ ⟨rfl, rfl⟩; exact ⟨[], rfl, trivial, rfl⟩)) rfl
 intro θ R hd
 obtain ⟨h1d, h2d, h3d, _⟩ := hd
 exact Opp.plain (OG.imp (OG.call [.agg #[.int .i64 (ap), .int .i64 (ar), .int .i64 (ac), v3], .int .i64 ((r : Int)), .int .i64 ((c : Int))] ent36 rfl rfl rfl rfl (by exact (l1AtF_w hs4 (Ent.ints (i := 2) rfl) (f := at2 (swR M r k)) (hFs) (hac) (by omega) (by omega) (hnC)))) (by rintro _ _ ⟨rfl, rfl⟩; exact ⟨[], rfl, trivial, rfl⟩)) rfl
 intro θ R hd
 obtain ⟨h0d, h4d, _⟩ := hd
 exact Opp.plain (OG.imp (OD.mulI rfl rfl rfl (by omega)) (by rintro _ _ ⟨rfl, rfl⟩; exact ⟨[], rfl, trivial, rfl⟩)) rfl
 intro θ R hd
 exact Opp.plain (OG.imp (OD.fieldAddr rfl rfl fa41_0) (by rintro _ _ ⟨rfl, rfl⟩; exact ⟨[], rfl, trivial, rfl⟩)) rfl
 intro θ R hd
 obtain ⟨h6d, _⟩ := hd
 exact Opp.plain (OG.imp (OD.load rfl ti3 rfl (i := 1) rfl rfl) (by rintro _ _ ⟨rfl, rfl⟩; exact ⟨[], rfl, trivial, rfl⟩)) rfl
 intro θ R hd
 obtain ⟨h5d, h7d, _⟩ := hd
 exact Opp.plain (OG.imp (OD.rem rfl rfl rfl (by omega)) (by rintro _ _ ⟨rfl, rfl⟩; exact ⟨[], rfl, trivial, rfl⟩)) rfl
 intro θ hall
 obtain ⟨_, _, _, _, _, _, _, _, _, _⟩ := hall
 refine G.at [] 0 (env' := [(2, .pointer (some ⟨g2, 0, none⟩)), (5, .pointer (some ⟨g5, 0, none⟩)), (6, vp), (7, .int .i64 (dt)), (8, .int .i64 ((c : Int))), (9, .int .i64 ((r : Int))), (118, .int .i64 ((dt * (at2 (swR M r k) r c)).tmod ap))]) ⟨rfl, rfl, rfl, rfl, rfl, rfl, rfl, trivial⟩ (own' := ints 3 vp ps :: box g5 41 [.int .i64 (ap), .int .i64 (ar), .int .i64 (ac), v3] :: ints 3 v3 d1 :: box g2 41 [.int .i64 (0), .int .i64 (0), .int .i64 (0), .slice none 0 0] :: box g1 41 [.int .i64 (ap), .int .i64 (ar), .int .i64 (ac), vad] :: own) rfl ?_
 show G _ _ _ [_] _ _ _ _
 refine G.stepD (OD.assign rfl rfl) rfl rfl rfl ?_
 refine G.nil (GE.then_ (GC.seq ?_))
 refine GC.at [] 0 (env' := [(2, .pointer (some ⟨g2, 0, none⟩)), (5, .pointer (some ⟨g5, 0, none⟩)), (6, vp), (8, .int .i64 ((c : Int))), (9, .int .i64 ((r : Int))), (7, .int .i64 ((dt * (at2 (swR M r k) r c)).tmod ap))]) ⟨rfl, rfl, rfl, rfl, rfl, rfl, trivial⟩ rfl ?_
 refine GC.par (its := [⟨119, [], [], [], [], fun _ => .agg #[.int .i64 (ap), .int .i64 (ar), .int .i64 (ac), v3], fun _ => True, fun _ => []⟩,
     ⟨120, [], [], [], [], fun _ => .int .i64 ((r : Int)), fun _ => True, fun _ => []⟩,
     ⟨121, [], [], [], [], fun _ => .int .i64 ((c : Int)), fun _ => True, fun _ => []⟩,
     ⟨122, [(0, 119), (1, 120), (2, 121)], [], [], [], fun _ => .int .i64 (at2 (swR M r k) r c), fun _ => True, fun _ => []⟩,
     ⟨123, [], [], [], [], fun _ => .pointer (some ⟨g5, 0, none⟩), fun _ => True, fun _ => []⟩,
     ⟨124, [(4, 123)], [], [], [], fun _ => .int .i64 (ap), fun _ => True, fun _ => []⟩,
     ⟨125, [(3, 122), (5, 124)], [], [], [], fun _ => .int .i64 (ivO (at2 (swR M r k) r c) ap), fun _ => True, fun _ => []⟩]) (by kernel_rfl) (by kernel_rfl) (POps.cons ?_ (POps.cons ?_ (POps.cons ?_ (POps.cons ?_ (POps.cons ?_ (POps.cons ?_ (POps.cons ?_ POps.nil))))))) ?_
 intro θ R hd
 exact Opp.plain (OG.imp (OD.loadAgg rfl ti41 rfl (i := 1) rfl (us := [.int .i64 (ap), .int .i64 (ar), .int .i64 (ac), v3]) rfl rfl) (by rintro _ _ ⟨rfl, rfl⟩; exact ⟨[], rfl, trivial, rfl⟩)) rfl
 intro θ R hd
 exact Opp.plain (OG.imp (OD.move rfl rfl) (by rintro _ _ ⟨rfl, rfl⟩; exact ⟨[], rfl, trivial, rfl⟩)) rfl
 intro θ R hd
 exact Opp.plain (OG.imp (OD.move rfl rfl) (by rintro _ _ ⟨rfl, rfl⟩; exact ⟨[], rfl, trivial, rfl⟩)) rfl
 intro θ R hd
 obtain ⟨h0d, h1d, h2d, _⟩ := hd
 exact Opp.plain (OG.imp (OG.call [.agg #[.int .i64 (ap), .int .i64 (ar), .int .i64 (ac), v3], .int .i64 ((r : Int)), .int .i64 ((c : Int))] ent36 rfl rfl rfl rfl (by exact (l1AtF_w hs4 (Ent.ints (i := 2) rfl) (f := at2 (swR M r k)) (hFs) (hac) (by omega) (by omega) (hnC)))) (by rintro _ _ ⟨rfl, rfl⟩; exact ⟨[], rfl, trivial, rfl⟩)) rfl
 intro θ R hd
 exact Opp.plain (OG.imp (OD.fieldAddr rfl rfl fa41_0) (by rintro _ _ ⟨rfl, rfl⟩; exact ⟨[], rfl, trivial, rfl⟩)) rfl
 intro θ R hd
 obtain ⟨h4d, _⟩ := hd
 exact Opp.plain (OG.imp (OD.load rfl ti3 rfl (i := 1) rfl rfl) (by rintro _ _ ⟨rfl, rfl⟩; exact ⟨[], rfl, trivial, rfl⟩)) rfl
 intro θ R hd
 obtain ⟨h3d, h5d, _⟩ := hd
 exact Opp.plain (OG.imp (OG.call [.int .i64 (at2 (swR M r k) r c), .int .i64 (ap)] ent38 rfl rfl rfl rfl (by exact (inverseOf_ok (hpp) (by omega)))) (by rintro _ _ ⟨rfl, rfl⟩; exact ⟨[], rfl, trivial, rfl⟩)) rfl
 intro θ hall
 obtain ⟨_, _, _, _, _, _, _, _⟩ := hall
 refine G.at [] 0 (env' := [(2, .pointer (some ⟨g2, 0, none⟩)), (5, .pointer (some ⟨g5, 0, none⟩)), (6, vp), (8, .int .i64 ((c : Int))), (9, .int .i64 ((r : Int))), (7, .int .i64 ((dt * (at2 (swR M r k) r c)).tmod ap)), (125, .int .i64 (ivO (at2 (swR M r k) r c) ap))]) ⟨rfl, rfl, rfl, rfl, rfl, rfl, rfl, trivial⟩ (own' := ints 3 vp ps :: box g5 41 [.int .i64 (ap), .int .i64 (ar), .int .i64 (ac), v3] :: ints 3 v3 d1 :: box g2 41 [.int .i64 (0), .int .i64 (0), .int .i64 (0), .slice none 0 0] :: box g1 41 [.int .i64 (ap), .int .i64 (ar), .int .i64 (ac), vad] :: own) rfl ?_
 show G _ _ _ [_] _ _ _ _
 refine G.stepD (OD.assign rfl rfl) rfl rfl rfl ?_
 refine G.nil (GE.then_ (GC.seq (GC.seq (GC.region ?_))))
 refine G.stepD (OD.assign rfl rfl) rfl rfl rfl ?_
 refine G.nil (GE.then_ (GC.block ?_))
 refine GC.loop (ι := Nat × List Int) (fun ⟨j, d2⟩ => [(2, .pointer (some ⟨g2, 0, none⟩)), (5, .pointer (some ⟨g5, 0, none⟩)), (6, vp), (8, .int .i64 ((c : Int))), (9, .int .i64 ((r : Int))), (7, .int .i64 ((dt * (at2 (swR M r k) r c)).tmod ap)), (13, .int .i64 (ivO (at2 (swR M r k) r c) ap)), (14, .int .i64 ((j : Int)))]) (fun ⟨j, d2⟩ => ints 3 vp ps :: box g5 41 [.int .i64 (ap), .int .i64 (ar), .int .i64 (ac), v3] :: ints 3 v3 d2 :: box g2 41 [.int .i64 (0), .int .i64 (0), .int .i64 (0), .slice none 0 0] :: box g1 41 [.int .i64 (ap), .int .i64 (ar), .int .i64 (ac), vad] :: own) (fun ⟨j, d2⟩ => (j ≤ C) ∧ (FI d2 n C (scF ap (ivO (at2 (swR M r k) r c) ap) (swR M r k) r j))) (fun ⟨j, d2⟩ => C - j) (0, d1) (⟨by omega, hFs.sc0⟩) ⟨rfl, rfl, rfl, rfl, rfl, rfl, rfl, rfl, trivial⟩ [] 0 rfl ?_
 rintro ⟨j, d2⟩ ⟨hj, hF2⟩
 have hd2l := hF2.1
 refine GC.seq (GC.seq (GC.region ?_))
 refine G.stepD (OD.move rfl rfl) rfl rfl rfl ?_
 refine G.stepD (OD.fieldAddr rfl rfl fa41_2) rfl rfl rfl ?_
 refine G.stepD (OD.load rfl ti3 rfl (i := 1) rfl rfl) rfl rfl rfl ?_
 refine G.stepD (OD.lss rfl rfl rfl) rfl rfl rfl ?_
 refine G.nil (GE.then_ ?_)
 refine GC.cond rfl (fun hc24 => ?_) (fun hc24 => ?_)
 replace hc24 := of_decide_eq_true hc24
 refine GC.skip (GE.then_ (GC.seq (GC.block ?_)))
 obtain ⟨q3, hq3, hq3x, hq3y, hq3z, hq3l⟩ := ixF hac (show r < n by omega) (show j < C by omega) hnC
 have hg3 : d2.getD q3 0 = at2 (swR M r k) r j := by rw [hq3]; exact hF2.at_sc (by omega) (by omega)
 have hg3r := hRs.rg r j
 have hm3 := mulBd (A := 10007) (B := 10007) (a := d2.getD q3 0) (b := ivO (at2 (swR M r k) r c) ap) (by omega) (by omega)
 refine GC.at [] 0 (env' := [(2, .pointer (some ⟨g2, 0, none⟩)), (5, .pointer (some ⟨g5, 0, none⟩)), (6, vp), (8, .int .i64 ((c : Int))), (9, .int .i64 ((r : Int))), (7, .int .i64 ((dt * (at2 (swR M r k) r c)).tmod ap)), (13, .int .i64 (ivO (at2 (swR M r k) r c) ap)), (14, .int .i64 ((j : Int)))]) ⟨rfl, rfl, rfl, rfl, rfl, rfl, rfl, rfl, trivial⟩ rfl ?_
 refine GC.par (its := [⟨132, [], [], [], [], fun _ => .pointer (some ⟨g5, 3, none⟩), fun _ => True, fun _ => []⟩,
     ⟨133, [(0, 132)], [], [], [], fun _ => v3, fun _ => True, fun _ => []⟩,
     ⟨134, [], [], [], [], fun _ => .int .i64 ((r : Int)), fun _ => True, fun _ => []⟩,
     ⟨135, [], [], [], [], fun _ => .pointer (some ⟨g5, 2, none⟩), fun _ => True, fun _ => []⟩,
     ⟨136, [(3, 135)], [], [], [], fun _ => .int .i64 (ac), fun _ => True, fun _ => []⟩,
     ⟨137, [(2, 134), (4, 136)], [], [], [], fun _ => .int .i64 ((r : Int) * ac), fun _ => True, fun _ => []⟩,
     ⟨138, [], [], [], [], fun _ => .int .i64 ((j : Int)), fun _ => True, fun _ => []⟩,
     ⟨139, [(5, 137), (6, 138)], [], [], [], fun _ => .int .i64 ((q3 : Int)), fun _ => True, fun _ => []⟩,
     ⟨140, [], [], [], [], fun _ => .pointer (some ⟨g5, 3, none⟩), fun _ => True, fun _ => []⟩,
     ⟨141, [(8, 140)], [], [], [], fun _ => v3, fun _ => True, fun _ => []⟩,
     ⟨142, [], [], [], [], fun _ => .int .i64 ((r : Int)), fun _ => True, fun _ => []⟩,
     ⟨143, [], [], [], [], fun _ => .pointer (some ⟨g5, 2, none⟩), fun _ => True, fun _ => []⟩,
     ⟨144, [(11, 143)], [], [], [], fun _ => .int .i64 (ac), fun _ => True, fun _ => []⟩,
     ⟨145, [(10, 142), (12, 144)], [], [], [], fun _ => .int .i64 ((r : Int) * ac), fun _ => True, fun _ => []⟩,
     ⟨146, [], [], [], [], fun _ => .int .i64 ((j : Int)), fun _ => True, fun _ => []⟩,
     ⟨147, [(13, 145), (14, 146)], [], [], [], fun _ => .int .i64 ((q3 : Int)), fun _ => True, fun _ => []⟩,
     ⟨148, [(9, 141), (15, 147)], [], [], [], fun _ => elemPtr v3 1 (q3), fun _ => True, fun _ => []⟩,
     ⟨149, [(16, 148)], [], [], [], fun _ => .int .i64 (d2.getD (q3) 0), fun _ => True, fun _ => []⟩,
     ⟨150, [], [], [], [], fun _ => .int .i64 (ivO (at2 (swR M r k) r c) ap), fun _ => True, fun _ => []⟩,
     ⟨151, [(17, 149), (18, 150)], [], [], [], fun _ => .int .i64 ((d2.getD (q3) 0) * (ivO (at2 (swR M r k) r c) ap)), fun _ => True, fun _ => []⟩,
     ⟨152, [], [], [], [], fun _ => .pointer (some ⟨g5, 0, none⟩), fun _ => True, fun _ => []⟩,
     ⟨153, [(20, 152)], [], [], [], fun _ => .int .i64 (ap), fun _ => True, fun _ => []⟩,
     ⟨154, [(19, 151), (21, 153)], [], [], [], fun _ => .int .i64 ((d2.getD q3 0 * ivO (at2 (swR M r k) r c) ap % ap)), fun _ => True, fun _ => []⟩,
     ⟨155, [(1, 133), (7, 139)], [], [], [], fun _ => elemPtr v3 1 (q3), fun _ => True, fun _ => []⟩]) (by kernel_rfl) (by kernel_rfl) (POps.cons ?_ (POps.cons ?_ (POps.cons ?_ (POps.cons ?_ (POps.cons ?_ (POps.cons ?_ (POps.cons ?_ (POps.cons ?_ (POps.cons ?_ (POps.cons ?_ (POps.cons ?_ (POps.cons ?_ (POps.cons ?_ (POps.cons ?_ (POps.cons ?_ (POps.cons ?_ (POps.cons ?_ (POps.cons ?_ (POps.cons ?_ (POps.cons ?_ (POps.cons ?_ (POps.cons ?_ (POps.cons ?_ (POps.cons ?_ POps.nil)))))))))))))))))))))))) ?_
 intro θ R hd
 exact Opp.plain (OG.imp (OD.fieldAddr rfl rfl fa41_3) (by rintro _ _ ⟨rfl, rfl⟩; exact ⟨[], rfl, trivial, rfl⟩)) rfl
 intro θ R hd
 obtain ⟨h0d, _⟩ := hd
 exact Opp.plain (OG.imp (OD.load rfl ti24 rfl (i := 1) rfl rfl) (by rintro _ _ ⟨rfl, rfl⟩; exact ⟨[], rfl, trivial, rfl⟩)) rfl
 intro θ R hd
 exact Opp.plain (OG.imp (OD.move rfl rfl) (by rintro _ _ ⟨rfl, rfl⟩; exact ⟨[], rfl, trivial, rfl⟩)) rfl
 intro θ R hd
 exact Opp.plain (OG.imp (OD.fieldAddr rfl rfl fa41_2) (by rintro _ _ ⟨rfl, rfl⟩; exact ⟨[], rfl, trivial, rfl⟩)) rfl
 intro θ R hd
 obtain ⟨h3d, _⟩ := hd
 exact Opp.plain (OG.imp (OD.load rfl ti3 rfl (i := 1) rfl rfl) (by rintro _ _ ⟨rfl, rfl⟩; exact ⟨[], rfl, trivial, rfl⟩)) rfl
 intro θ R hd
 obtain ⟨h2d, h4d, _⟩ := hd
 exact Opp.plain (OG.imp (OD.mulI rfl rfl rfl (by omega)) (by rintro _ _ ⟨rfl, rfl⟩; exact ⟨[], rfl, trivial, rfl⟩)) rfl
 intro θ R hd
 exact Opp.plain (OG.imp (OD.move rfl rfl) (by rintro _ _ ⟨rfl, rfl⟩; exact ⟨[], rfl, trivial, rfl⟩)) rfl
 intro θ R hd
 obtain ⟨h5d, h6d, _⟩ := hd
 exact Opp.plain (OG.imp (OD.eqv (OD.addI rfl rfl rfl (by omega)) (congrArg (Value.int .i64) ((hq3x) : (((r : Int) * ac) + (j : Int) : Int) = ((q3 : Int))))) (by rintro _ _ ⟨rfl, rfl⟩; exact ⟨[], rfl, trivial, rfl⟩)) rfl
 intro θ R hd
 exact Opp.plain (OG.imp (OD.fieldAddr rfl rfl fa41_3) (by rintro _ _ ⟨rfl, rfl⟩; exact ⟨[], rfl, trivial, rfl⟩)) rfl
 intro θ R hd
 obtain ⟨h8d, _⟩ := hd
 exact Opp.plain (OG.imp (OD.load rfl ti24 rfl (i := 1) rfl rfl) (by rintro _ _ ⟨rfl, rfl⟩; exact ⟨[], rfl, trivial, rfl⟩)) rfl
 intro θ R hd
 exact Opp.plain (OG.imp (OD.move rfl rfl) (by rintro _ _ ⟨rfl, rfl⟩; exact ⟨[], rfl, trivial, rfl⟩)) rfl
 intro θ R hd
 exact Opp.plain (OG.imp (OD.fieldAddr rfl rfl fa41_2) (by rintro _ _ ⟨rfl, rfl⟩; exact ⟨[], rfl, trivial, rfl⟩)) rfl
 intro θ R hd
 obtain ⟨h11d, _⟩ := hd
 exact Opp.plain (OG.imp (OD.load rfl ti3 rfl (i := 1) rfl rfl) (by rintro _ _ ⟨rfl, rfl⟩; exact ⟨[], rfl, trivial, rfl⟩)) rfl
 intro θ R hd
 obtain ⟨h10d, h12d, _⟩ := hd
 exact Opp.plain (OG.imp (OD.mulI rfl rfl rfl (by omega)) (by rintro _ _ ⟨rfl, rfl⟩; exact ⟨[], rfl, trivial, rfl⟩)) rfl
 intro θ R hd
 exact Opp.plain (OG.imp (OD.move rfl rfl) (by rintro _ _ ⟨rfl, rfl⟩; exact ⟨[], rfl, trivial, rfl⟩)) rfl
 intro θ R hd
 obtain ⟨h13d, h14d, _⟩ := hd
 exact Opp.plain (OG.imp (OD.eqv (OD.addI rfl rfl rfl (by omega)) (congrArg (Value.int .i64) ((hq3x) : (((r : Int) * ac) + (j : Int) : Int) = ((q3 : Int))))) (by rintro _ _ ⟨rfl, rfl⟩; exact ⟨[], rfl, trivial, rfl⟩)) rfl
 intro θ R hd
 obtain ⟨h9d, h15d, _⟩ := hd
 exact Opp.plain (OG.imp (OD.indexAddr rfl et24 rfl (Ent.ints (i := 2) rfl) rfl (by omega)) (by rintro _ _ ⟨rfl, rfl⟩; exact ⟨[], rfl, trivial, rfl⟩)) rfl
 intro θ R hd
 obtain ⟨h16d, _⟩ := hd
 exact Opp.plain (OG.imp (OD.loadInt rfl ti3 rfl (Ent.ints (i := 2) rfl) (by omega)) (by rintro _ _ ⟨rfl, rfl⟩; exact ⟨[], rfl, trivial, rfl⟩)) rfl
 intro θ R hd
 exact Opp.plain (OG.imp (OD.move rfl rfl) (by rintro _ _ ⟨rfl, rfl⟩; exact ⟨[], rfl, trivial, rfl⟩)) rfl
 intro θ R hd
 obtain ⟨h17d, h18d, _⟩ := hd
 exact Opp.plain (OG.imp (OD.mulI rfl rfl rfl (by omega)) (by rintro _ _ ⟨rfl, rfl⟩; exact ⟨[], rfl, trivial, rfl⟩)) rfl
 intro θ R hd
 exact Opp.plain (OG.imp (OD.fieldAddr rfl rfl fa41_0) (by rintro _ _ ⟨rfl, rfl⟩; exact ⟨[], rfl, trivial, rfl⟩)) rfl
 intro θ R hd
 obtain ⟨h20d, _⟩ := hd
 exact Opp.plain (OG.imp (OD.load rfl ti3 rfl (i := 1) rfl rfl) (by rintro _ _ ⟨rfl, rfl⟩; exact ⟨[], rfl, trivial, rfl⟩)) rfl
 intro θ R hd
 obtain ⟨h19d, h21d, _⟩ := hd
 exact Opp.plain (OG.imp (OD.eqv (OD.rem rfl rfl rfl (by omega)) (congrArg (Value.int .i64) ((Int.tmod_eq_emod_of_nonneg hm3.1) : (((d2.getD (q3) 0) * (ivO (at2 (swR M r k) r c) ap)).tmod ap : Int) = ((d2.getD q3 0 * ivO (at2 (swR M r k) r c) ap % ap))))) (by rintro _ _ ⟨rfl, rfl⟩; exact ⟨[], rfl, trivial, rfl⟩)) rfl
 intro θ R hd
 obtain ⟨h1d, h7d, _⟩ := hd
 exact Opp.plain (OG.imp (OD.indexAddr rfl et24 rfl (Ent.ints (i := 2) rfl) rfl (by omega)) (by rintro _ _ ⟨rfl, rfl⟩; exact ⟨[], rfl, trivial, rfl⟩)) rfl
 intro θ hall
 obtain ⟨_, _, _, _, _, _, _, _, _, _, _, _, _, _, _, _, _, _, _, _, _, _, _, _, _⟩ := hall
 refine G.at [] 0 (env' := [(2, .pointer (some ⟨g2, 0, none⟩)), (5, .pointer (some ⟨g5, 0, none⟩)), (6, vp), (8, .int .i64 ((c : Int))), (9, .int .i64 ((r : Int))), (7, .int .i64 ((dt * (at2 (swR M r k) r c)).tmod ap)), (13, .int .i64 (ivO (at2 (swR M r k) r c) ap)), (14, .int .i64 ((j : Int))), (154, .int .i64 ((d2.getD q3 0 * ivO (at2 (swR M r k) r c) ap % ap))), (155, elemPtr v3 1 (q3))]) ⟨rfl, rfl, rfl, rfl, rfl, rfl, rfl, rfl, rfl, rfl, trivial⟩ (own' := ints 3 vp ps :: box g5 41 [.int .i64 (ap), .int .i64 (ar), .int .i64 (ac), v3] :: ints 3 v3 d2 :: box g2 41 [.int .i64 (0), .int .i64 (0), .int .i64 (0), .slice none 0 0] :: box g1 41 [.int .i64 (ap), .int .i64 (ar), .int .i64 (ac), vad] :: own) rfl ?_
 show G _ _ _ [_] _ _ _ _
 refine G.stepD0 (OD.storeInt rfl ti3 rfl rfl (i := 2) rfl (by omega)) rfl rfl ?_
 refine G.nil (GE.blockN (GE.then_ (GC.region ?_)))
 refine G.stepD (OD.move rfl rfl) rfl rfl rfl ?_
 refine G.stepD (OD.addI rfl rfl rfl (by first | omega | (simp only [List.length_set, List.length_replicate]; omega))) rfl rfl rfl ?_
 refine G.stepD (OD.assign rfl rfl) rfl rfl rfl ?_
 refine G.nil ?_
 exact GE.again (j + 1, (d2).set (q3) ((d2.getD q3 0 * ivO (at2 (swR M r k) r c) ap % ap))) (⟨by omega, by rw [hq3]; exact hF2.sc (by omega) (by omega)⟩) (by first | omega | (dsimp only; omega)) ⟨rfl, rfl, rfl, rfl, rfl, rfl, rfl, rfl, trivial⟩ [] 0 rfl
 replace hc24 := of_decide_eq_false hc24
 refine GC.exit (GE.pass (GE.pass (GE.hit (GE.then_ (GC.seq (GC.seq ?_))))))
 have hFc : FI d2 n C (at2 (elK ap r c A1 0)) := by rw [hA1]; exact (show FI d2 n C (scF ap (ivp ap (at2 (swR M r k) r c)) (swR M r k) r j) from hF2).scE (by omega) (by rw [swR_len]; omega) (by omega)
 refine GC.region ?_
 refine G.stepD (OD.assign rfl rfl) rfl rfl rfl ?_
 refine G.nil (GE.then_ (GC.block ?_))
 refine GC.loop (ι := Nat × List Int) (fun ⟨i, d3⟩ => [(2, .pointer (some ⟨g2, 0, none⟩)), (5, .pointer (some ⟨g5, 0, none⟩)), (6, vp), (8, .int .i64 ((c : Int))), (9, .int .i64 ((r : Int))), (7, .int .i64 ((dt * (at2 (swR M r k) r c)).tmod ap)), (15, .int .i64 ((i : Int)))]) (fun ⟨i, d3⟩ => ints 3 vp ps :: box g5 41 [.int .i64 (ap), .int .i64 (ar), .int .i64 (ac), v3] :: ints 3 v3 d3 :: box g2 41 [.int .i64 (0), .int .i64 (0), .int .i64 (0), .slice none 0 0] :: box g1 41 [.int .i64 (ap), .int .i64 (ar), .int .i64 (ac), vad] :: own) (fun ⟨i, d3⟩ => (i ≤ n) ∧ (FI d3 n C (at2 (elK ap r c A1 i)))) (fun ⟨i, d3⟩ => n - i) (0, d2) (⟨by omega, hFc⟩) ⟨rfl, rfl, rfl, rfl, rfl, rfl, rfl, trivial⟩ [] 0 rfl ?_
 rintro ⟨i, d3⟩ ⟨hi, hF3⟩
 obtain ⟨B, hB⟩ : ∃ B : List (List Int), B = elK ap r c A1 i := ⟨_, rfl⟩
 rw [← hB] at hF3
 have hRB : RwI ap n C B := by rw [hB]; exact hR1.elk (by omega) (by omega) hi
 have hBrg := hRB.rg i c
 have hd3l := hF3.1
 refine GC.seq (GC.seq (GC.region ?_))
 refine G.stepD (OD.move rfl rfl) rfl rfl rfl ?_
 refine G.stepD (OD.fieldAddr rfl rfl fa41_1) rfl rfl rfl ?_
 refine G.stepD (OD.load rfl ti3 rfl (i := 1) rfl rfl) rfl rfl rfl ?_
 refine G.stepD (OD.lss rfl rfl rfl) rfl rfl rfl ?_
 refine G.nil (GE.then_ ?_)
 refine GC.cond rfl (fun hc25 => ?_) (fun hc25 => ?_)
 replace hc25 := of_decide_eq_true hc25
 refine GC.skip (GE.then_ (GC.seq (GC.block (GC.seq (GC.region ?_)))))
 refine G.stepD (OD.loadAgg rfl ti41 rfl (i := 1) rfl (us := [.int .i64 (ap), .int .i64 (ar), .int .i64 (ac), v3]) rfl rfl) rfl rfl rfl ?_
 refine G.stepD (OD.move rfl rfl) rfl rfl rfl ?_
 refine G.stepD (OD.move rfl rfl) rfl rfl rfl ?_
 refine G.step (OG.call [.agg #[.int .i64 (ap), .int .i64 (ar), .int .i64 (ac), v3], .int .i64 ((i : Int)), .int .i64 ((c : Int))] ent36 rfl rfl rfl rfl (by exact (l1AtF_w hs4 (Ent.ints (i := 2) rfl) (f := at2 B) (hF3) (hac) (by omega) (by omega) (hnC)))) rfl rfl rfl ?_
 rintro _ _ ⟨rfl, rfl⟩
 refine G.stepD (OD.assign rfl rfl) rfl rfl rfl ?_
 refine G.nil (GE.then_ (GC.seq (GC.region ?_)))
 refine G.stepD (OD.assign rfl rfl) rfl rfl rfl ?_
 refine G.nil (GE.then_ (GC.block ?_))
 refine GC.loop (ι := Nat × List Int) (fun ⟨j, d4⟩ => [(2, .pointer (some ⟨g2, 0, none⟩)), (5, .pointer (some ⟨g5, 0, none⟩)), (6, vp), (8, .int .i64 ((c : Int))), (9, .int .i64 ((r : Int))), (7, .int .i64 ((dt * (at2 (swR M r k) r c)).tmod ap)), (15, .int .i64 ((i : Int))), (16, .int .i64 (at2 B i c)), (17, .int .i64 ((j : Int)))]) (fun ⟨j, d4⟩ => ints 3 vp ps :: box g5 41 [.int .i64 (ap), .int .i64 (ar), .int .i64 (ac), v3] :: ints 3 v3 d4 :: box g2 41 [.int .i64 (0), .int .i64 (0), .int .i64 (0), .slice none 0 0] :: box g1 41 [.int .i64 (ap), .int .i64 (ar), .int .i64 (ac), vad] :: own) (fun ⟨j, d4⟩ => (j ≤ C) ∧ (FI d4 n C (elF ap (at2 B i c) B r i j)) ∧ (j = 0 ∨ (i ≠ r ∧ at2 B i c ≠ 0))) (fun ⟨j, d4⟩ => C - j) (0, d3) (⟨by omega, hF3.el0, .inl rfl⟩) ⟨rfl, rfl, rfl, rfl, rfl, rfl, rfl, rfl, rfl, trivial⟩ [] 0 rfl ?_
 rintro ⟨j, d4⟩ ⟨hj, hF4, h04⟩
 have hd4l := hF4.1
 refine GC.seq (GC.seq (GC.region ?_))
 refine G.stepD (OD.move rfl rfl) rfl rfl rfl ?_
 refine G.stepD (OD.fieldAddr rfl rfl fa41_2) rfl rfl rfl ?_
 refine G.stepD (OD.load rfl ti3 rfl (i := 1) rfl rfl) rfl rfl rfl ?_
 refine G.stepD (OD.lss rfl rfl rfl) rfl rfl rfl ?_
 refine G.stepD (OD.move rfl rfl) rfl rfl rfl ?_
 rcases Bool.eq_false_or_eq_true (decide ((j : Int) < ac)) with hg26 | hg26
 have hg26e := hg26
 refine G.at [] 0 (env' := [(2, .pointer (some ⟨g2, 0, none⟩)), (5, .pointer (some ⟨g5, 0, none⟩)), (6, vp), (8, .int .i64 ((c : Int))), (9, .int .i64 ((r : Int))), (7, .int .i64 ((dt * (at2 (swR M r k) r c)).tmod ap)), (15, .int .i64 ((i : Int))), (16, .int .i64 (at2 B i c)), (17, .int .i64 ((j : Int))), (166, .int .i64 ((j : Int))), (167, .pointer (some ⟨g5, 2, none⟩)), (168, .int .i64 (ac)), (169, .bool true), (170, .bool true)]) (⟨rfl, rfl, rfl, rfl, rfl, rfl, rfl, rfl, rfl, rfl, rfl, rfl, (congrArg (fun b => some (Value.bool b)) hg26e), (congrArg (fun b => some (Value.bool b)) hg26e), trivial⟩) rfl ?_
 replace hg26 := of_decide_eq_true hg26
 refine G.stepGD (OD.move rfl rfl) rfl rfl rfl rfl rfl ?_
 refine G.stepGD (OD.move rfl rfl) rfl rfl rfl rfl rfl ?_
 refine G.stepGD (OD.neq rfl rfl rfl) rfl rfl rfl rfl rfl ?_
 refine G.stepD (OD.pickT rfl rfl rfl) rfl rfl rfl ?_
 refine G.stepD (OD.move rfl rfl) rfl rfl rfl ?_
 rcases Bool.eq_false_or_eq_true ((i : Int) != (r : Int)) with hg27 | hg27
 have hg27e := hg27
 refine G.at [] 0 (env' := [(2, .pointer (some ⟨g2, 0, none⟩)), (5, .pointer (some ⟨g5, 0, none⟩)), (6, vp), (8, .int .i64 ((c : Int))), (9, .int .i64 ((r : Int))), (7, .int .i64 ((dt * (at2 (swR M r k) r c)).tmod ap)), (15, .int .i64 ((i : Int))), (16, .int .i64 (at2 B i c)), (17, .int .i64 ((j : Int))), (166, .int .i64 ((j : Int))), (167, .pointer (some ⟨g5, 2, none⟩)), (168, .int .i64 (ac)), (169, .bool true), (170, .bool true), (171, .int .i64 ((i : Int))), (172, .int .i64 ((r : Int))), (173, .bool true), (174, .bool true), (175, .bool true)]) (⟨rfl, rfl, rfl, rfl, rfl, rfl, rfl, rfl, rfl, rfl, rfl, rfl, rfl, rfl, rfl, rfl, (congrArg (fun b => some (Value.bool b)) hg27e), (congrArg (fun b => some (Value.bool b)) hg27e), (congrArg (fun b => some (Value.bool b)) hg27e), trivial⟩) rfl ?_
 replace hg27 := ne_of_bne hg27
 refine G.stepGD (OD.move rfl rfl) rfl rfl rfl rfl rfl ?_
 refine G.stepGD (OD.neq rfl rfl rfl) rfl rfl rfl rfl rfl ?_
 refine G.stepD (OD.pickT rfl rfl rfl) rfl rfl rfl ?_
 refine G.nil (GE.then_ ?_)
 refine GC.cond rfl (fun hc28 => ?_) (fun hc28 => ?_)
 replace hc28 := ne_of_bne hc28
 refine GC.skip (GE.then_ (GC.seq (GC.block ?_)))
 obtain ⟨q4, hq4, hq4x, hq4y, hq4z, hq4l⟩ := ixF hac (show i < n by omega) (show j < C by omega) hnC
 obtain ⟨q5, hq5, hq5x, hq5y, hq5z, hq5l⟩ := ixF hac (show r < n by omega) (show j < C by omega) hnC
 have hg5 : d4.getD q5 0 = at2 B r j := by rw [hq5, hF4.2 r j (by omega) (by omega), elF, if_neg (by omega)]
 have hg4 : d4.getD q4 0 = at2 B i j := by rw [hq4, hF4.2 i j (by omega) (by omega), elF, if_neg (by omega)]
 have hg4r := hRB.rg i j
 have hg5r := hRB.rg r j
 have hm5 := mulBd (A := 10007) (B := 10007) (a := at2 B i c) (b := d4.getD q5 0) (by omega) (by omega)
 refine GC.at [] 0 (env' := [(2, .pointer (some ⟨g2, 0, none⟩)), (5, .pointer (some ⟨g5, 0, none⟩)), (6, vp), (8, .int .i64 ((c : Int))), (9, .int .i64 ((r : Int))), (7, .int .i64 ((dt * (at2 (swR M r k) r c)).tmod ap)), (15, .int .i64 ((i : Int))), (16, .int .i64 (at2 B i c)), (17, .int .i64 ((j : Int)))]) ⟨rfl, rfl, rfl, rfl, rfl, rfl, rfl, rfl, rfl, trivial⟩ rfl ?_
 refine GC.par (its := [⟨181, [], [], [], [], fun _ => .pointer (some ⟨g5, 3, none⟩), fun _ => True, fun _ => []⟩,
     ⟨182, [(0, 181)], [], [], [], fun _ => v3, fun _ => True, fun _ => []⟩,
     ⟨183, [], [], [], [], fun _ => .int .i64 ((i : Int)), fun _ => True, fun _ => []⟩,
     ⟨184, [], [], [], [], fun _ => .pointer (some ⟨g5, 2, none⟩), fun _ => True, fun _ => []⟩,
     ⟨185, [(3, 184)], [], [], [], fun _ => .int .i64 (ac), fun _ => True, fun _ => []⟩,
     ⟨186, [(2, 183), (4, 185)], [], [], [], fun _ => .int .i64 ((i : Int) * ac), fun _ => True, fun _ => []⟩,
     ⟨187, [], [], [], [], fun _ => .int .i64 ((j : Int)), fun _ => True, fun _ => []⟩,
     ⟨188, [(5, 186), (6, 187)], [], [], [], fun _ => .int .i64 ((q4 : Int)), fun _ => True, fun _ => []⟩,
     ⟨189, [], [], [], [], fun _ => .pointer (some ⟨g5, 3, none⟩), fun _ => True, fun _ => []⟩,
     ⟨190, [(8, 189)], [], [], [], fun _ => v3, fun _ => True, fun _ => []⟩,
     ⟨191, [], [], [], [], fun _ => .int .i64 ((i : Int)), fun _ => True, fun _ => []⟩,
     ⟨192, [], [], [], [], fun _ => .pointer (some ⟨g5, 2, none⟩), fun _ => True, fun _ => []⟩,
     ⟨193, [(11, 192)], [], [], [], fun _ => .int .i64 (ac), fun _ => True, fun _ => []⟩,
     ⟨194, [(10, 191), (12, 193)], [], [], [], fun _ => .int .i64 ((i : Int) * ac), fun _ => True, fun _ => []⟩,
     ⟨195, [], [], [], [], fun _ => .int .i64 ((j : Int)), fun _ => True, fun _ => []⟩,
     ⟨196, [(13, 194), (14, 195)], [], [], [], fun _ => .int .i64 ((q4 : Int)), fun _ => True, fun _ => []⟩,
     ⟨197, [(9, 190), (15, 196)], [], [], [], fun _ => elemPtr v3 1 (q4), fun _ => True, fun _ => []⟩,
     ⟨198, [(16, 197)], [], [], [], fun _ => .int .i64 (d4.getD (q4) 0), fun _ => True, fun _ => []⟩,
     ⟨199, [], [], [], [], fun _ => .int .i64 (at2 B i c), fun _ => True, fun _ => []⟩,
     ⟨200, [], [], [], [], fun _ => .pointer (some ⟨g5, 3, none⟩), fun _ => True, fun _ => []⟩,
     ⟨201, [(19, 200)], [], [], [], fun _ => v3, fun _ => True, fun _ => []⟩,
     ⟨202, [], [], [], [], fun _ => .int .i64 ((r : Int)), fun _ => True, fun _ => []⟩,
     ⟨203, [], [], [], [], fun _ => .pointer (some ⟨g5, 2, none⟩), fun _ => True, fun _ => []⟩,
     ⟨204, [(22, 203)], [], [], [], fun _ => .int .i64 (ac), fun _ => True, fun _ => []⟩,
     ⟨205, [(21, 202), (23, 204)], [], [], [], fun _ => .int .i64 ((r : Int) * ac), fun _ => True, fun _ => []⟩,
     ⟨206, [], [], [], [], fun _ => .int .i64 ((j : Int)), fun _ => True, fun _ => []⟩,
     ⟨207, [(24, 205), (25, 206)], [], [], [], fun _ => .int .i64 ((q5 : Int)), fun _ => True, fun _ => []⟩,
     ⟨208, [(20, 201), (26, 207)], [], [], [], fun _ => elemPtr v3 1 (q5), fun _ => True, fun _ => []⟩,
     ⟨209, [(27, 208)], [], [], [], fun _ => .int .i64 (d4.getD (q5) 0), fun _ => True, fun _ => []⟩,
     ⟨210, [(18, 199), (28, 209)], [], [], [], fun _ => .int .i64 ((at2 B i c) * (d4.getD (q5) 0)), fun _ => True, fun _ => []⟩,
     ⟨211, [(17, 198), (29, 210)], [], [], [], fun _ => .int .i64 ((d4.getD (q4) 0) - ((at2 B i c) * (d4.getD (q5) 0))), fun _ => True, fun _ => []⟩,
     ⟨212, [], [], [], [], fun _ => .pointer (some ⟨g5, 0, none⟩), fun _ => True, fun _ => []⟩,
     ⟨213, [(31, 212)], [], [], [], fun _ => .int .i64 (ap), fun _ => True, fun _ => []⟩,
     ⟨214, [(30, 211), (32, 213)], [], [], [], fun _ => .int .i64 (((d4.getD (q4) 0) - ((at2 B i c) * (d4.getD (q5) 0))) % ap), fun _ => True, fun _ => []⟩,
     ⟨215, [(1, 182), (7, 188)], [], [], [], fun _ => elemPtr v3 1 (q4), fun _ => True, fun _ => []⟩]) (by kernel_rfl) (by kernel_rfl) (POps.cons ?_ (POps.cons ?_ (POps.cons ?_ (POps.cons ?_ (POps.cons ?_ (POps.cons ?_ (POps.cons ?_ (POps.cons ?_ (POps.cons ?_ (POps.cons ?_ (POps.cons ?_ (POps.cons ?_ (POps.cons ?_ (POps.cons ?_ (POps.cons ?_ (POps.cons ?_ (POps.cons ?_ (POps.cons ?_ (POps.cons ?_ (POps.cons ?_ (POps.cons ?_ (POps.cons ?_ (POps.cons ?_ (POps.cons ?_ (POps.cons ?_ (POps.cons ?_ (POps.cons ?_ (POps.cons ?_ (POps.cons ?_ (POps.cons ?_ (POps.cons ?_ (POps.cons ?_ (POps.cons ?_ (POps.cons ?_ (POps.cons ?_ POps.nil))))))))))))))))))))))))))))))))))) ?_
 intro θ R hd
 exact Opp.plain (OG.imp (OD.fieldAddr rfl rfl fa41_3) (by rintro _ _ ⟨rfl, rfl⟩; exact ⟨[], rfl, trivial, rfl⟩)) rfl
 intro θ R hd
 obtain ⟨h0d, _⟩ := hd
 exact Opp.plain (OG.imp (OD.load rfl ti24 rfl (i := 1) rfl rfl) (by rintro _ _ ⟨rfl, rfl⟩; exact ⟨[], rfl, trivial, rfl⟩)) rfl
 intro θ R hd
 exact Opp.plain (OG.imp (OD.move rfl rfl) (by rintro _ _ ⟨rfl, rfl⟩; exact ⟨[], rfl, trivial, rfl⟩)) rfl
 intro θ R hd
 exact Opp.plain (OG.imp (OD.fieldAddr rfl rfl fa41_2) (by rintro _ _ ⟨rfl, rfl⟩; exact ⟨[], rfl, trivial, rfl⟩)) rfl
 intro θ R hd
 obtain ⟨h3d, _⟩ := hd
 exact Opp.plain (OG.imp (OD.load rfl ti3 rfl (i := 1) rfl rfl) (by rintro _ _ ⟨rfl, rfl⟩; exact ⟨[], rfl, trivial, rfl⟩)) rfl
 intro θ R hd
 obtain ⟨h2d, h4d, _⟩ := hd
 exact Opp.plain (OG.imp (OD.mulI rfl rfl rfl (by omega)) (by rintro _ _ ⟨rfl, rfl⟩; exact ⟨[], rfl, trivial, rfl⟩)) rfl
 intro θ R hd
 exact Opp.plain (OG.imp (OD.move rfl rfl) (by rintro _ _ ⟨rfl, rfl⟩; exact ⟨[], rfl, trivial, rfl⟩)) rfl
 intro θ R hd
 obtain ⟨h5d, h6d, _⟩ := hd
 exact Opp.plain (OG.imp (OD.eqv (OD.addI rfl rfl rfl (by omega)) (congrArg (Value.int .i64) ((hq4x) : (((i : Int) * ac) + (j : Int) : Int) = ((q4 : Int))))) (by rintro _ _ ⟨rfl, rfl⟩; exact ⟨[], rfl, trivial, rfl⟩)) rfl
 intro θ R hd
 exact Opp.plain (OG.imp (OD.fieldAddr rfl rfl fa41_3) (by rintro _ _ ⟨rfl, rfl⟩; exact ⟨[], rfl, trivial, rfl⟩)) rfl
 intro θ R hd
 obtain ⟨h8d, _⟩ := hd
 exact Opp.plain (OG.imp (OD.load rfl ti24 rfl (i := 1) rfl rfl) (by rintro _ _ ⟨rfl, rfl⟩; exact ⟨[], rfl, trivial, rfl⟩)) rfl
 intro θ R hd
 exact Opp.plain (OG.imp (OD.move rfl rfl) (by rintro _ _ ⟨rfl, rfl⟩; exact ⟨[], rfl, trivial, rfl⟩)) rfl
 intro θ R hd
 exact Opp.plain (OG.imp (OD.fieldAddr rfl rfl fa41_2) (by rintro _ _ ⟨rfl, rfl⟩; exact ⟨[], rfl, trivial, rfl⟩)) rfl
 intro θ R hd
 obtain ⟨h11d, _⟩ := hd
 exact Opp.plain (OG.imp (OD.load rfl ti3 rfl (i := 1) rfl rfl) (by rintro _ _ ⟨rfl, rfl⟩; exact ⟨[], rfl, trivial, rfl⟩)) rfl
 intro θ R hd
 obtain ⟨h10d, h12d, _⟩ := hd
 exact Opp.plain (OG.imp (OD.mulI rfl rfl rfl (by omega)) (by rintro _ _ ⟨rfl, rfl⟩; exact ⟨[], rfl, trivial, rfl⟩)) rfl
 intro θ R hd
 exact Opp.plain (OG.imp (OD.move rfl rfl) (by rintro _ _ ⟨rfl, rfl⟩; exact ⟨[], rfl, trivial, rfl⟩)) rfl
 intro θ R hd
 obtain ⟨h13d, h14d, _⟩ := hd
 exact Opp.plain (OG.imp (OD.eqv (OD.addI rfl rfl rfl (by omega)) (congrArg (Value.int .i64) ((hq4x) : (((i : Int) * ac) + (j : Int) : Int) = ((q4 : Int))))) (by rintro _ _ ⟨rfl, rfl⟩; exact ⟨[], rfl, trivial, rfl⟩)) rfl
 intro θ R hd
 obtain ⟨h9d, h15d, _⟩ := hd
 exact Opp.plain (OG.imp (OD.indexAddr rfl et24 rfl (Ent.ints (i := 2) rfl) rfl (by omega)) (by rintro _ _ ⟨rfl, rfl⟩; exact ⟨[], rfl, trivial, rfl⟩)) rfl
 intro θ R hd
 obtain ⟨h16d, _⟩ := hd
 exact Opp.plain (OG.imp (OD.loadInt rfl ti3 rfl (Ent.ints (i := 2) rfl) (by omega)) (by rintro _ _ ⟨rfl, rfl⟩; exact ⟨[], rfl, trivial, rfl⟩)) rfl
 intro θ R hd
 exact Opp.plain (OG.imp (OD.move rfl rfl) (by rintro _ _ ⟨rfl, rfl⟩; exact ⟨[], rfl, trivial, rfl⟩)) rfl
 intro θ R hd
 exact Opp.plain (OG.imp (OD.fieldAddr rfl rfl fa41_3) (by rintro _ _ ⟨rfl, rfl⟩; exact ⟨[], rfl, trivial, rfl⟩)) rfl
 intro θ R hd
 obtain ⟨h19d, _⟩ := hd
 exact Opp.plain (OG.imp (OD.load rfl ti24 rfl (i := 1) rfl rfl) (by rintro _ _ ⟨rfl, rfl⟩; exact ⟨[], rfl, trivial, rfl⟩)) rfl
 intro θ R hd
 exact Opp.plain (OG.imp (OD.move rfl rfl) (by rintro _ _ ⟨rfl, rfl⟩; exact ⟨[], rfl, trivial, rfl⟩)) rfl
 intro θ R hd
 exact Opp.plain (OG.imp (OD.fieldAddr rfl rfl fa41_2) (by rintro _ _ ⟨rfl, rfl⟩; exact ⟨[], rfl, trivial, rfl⟩)) rfl
 intro θ R hd
 obtain ⟨h22d, _⟩ := hd
 exact Opp.plain (OG.imp (OD.load rfl ti3 rfl (i := 1) rfl rfl) (by rintro _ _ ⟨rfl, rfl⟩; exact ⟨[], rfl, trivial, rfl⟩)) rfl
 intro θ R hd
 obtain ⟨h21d, h23d, _⟩ := hd
 exact Opp.plain (OG.imp (OD.mulI rfl rfl rfl (by omega)) (by rintro _ _ ⟨rfl, rfl⟩; exact ⟨[], rfl, trivial, rfl⟩)) rfl
 intro θ R hd
 exact Opp.plain (OG.imp (OD.move rfl rfl) (by rintro _ _ ⟨rfl, rfl⟩; exact ⟨[], rfl, trivial, rfl⟩)) rfl
 intro θ R hd
 obtain ⟨h24d, h25d, _⟩ := hd
 exact Opp.plain (OG.imp (OD.eqv (OD.addI rfl rfl rfl (by omega)) (congrArg (Value.int .i64) ((hq5x) : (((r : Int) * ac) + (j : Int) : Int) = ((q5 : Int))))) (by rintro _ _ ⟨rfl, rfl⟩; exact ⟨[], rfl, trivial, rfl⟩)) rfl
 intro θ R hd
 obtain ⟨h20d, h26d, _⟩ := hd
 exact Opp.plain (OG.imp (OD.indexAddr rfl et24 rfl (Ent.ints (i := 2) rfl) rfl (by omega)) (by rintro _ _ ⟨rfl, rfl⟩; exact ⟨[], rfl, trivial, rfl⟩)) rfl
 intro θ R hd
 obtain ⟨h27d, _⟩ := hd
 exact Opp.plain (OG.imp (OD.loadInt rfl ti3 rfl (Ent.ints (i := 2) rfl) (by omega)) (by rintro _ _ ⟨rfl, rfl⟩; exact ⟨[], rfl, trivial, rfl⟩)) rfl
 intro θ R hd
 obtain ⟨h18d, h28d, _⟩ := hd
 exact Opp.plain (OG.imp (OD.mulI rfl rfl rfl (by omega)) (by rintro _ _ ⟨rfl, rfl⟩; exact ⟨[], rfl, trivial, rfl⟩)) rfl
 intro θ R hd
 obtain ⟨h17d, h29d, _⟩ := hd
 exact Opp.plain (OG.imp (OD.subI rfl rfl rfl (by omega)) (by rintro _ _ ⟨rfl, rfl⟩; exact ⟨[], rfl, trivial, rfl⟩)) rfl
 intro θ R hd
 exact Opp.plain (OG.imp (OD.fieldAddr rfl rfl fa41_0) (by rintro _ _ ⟨rfl, rfl⟩; exact ⟨[], rfl, trivial, rfl⟩)) rfl
 intro θ R hd
 obtain ⟨h31d, _⟩ := hd
 exact Opp.plain (OG.imp (OD.load rfl ti3 rfl (i := 1) rfl rfl) (by rintro _ _ ⟨rfl, rfl⟩; exact ⟨[], rfl, trivial, rfl⟩)) rfl
 intro θ R hd
 obtain ⟨h30d, h32d, _⟩ := hd
 exact Opp.plain (OG.imp (OG.call [.int .i64 ((d4.getD (q4) 0) - ((at2 B i c) * (d4.getD (q5) 0))), .int .i64 (ap)] ent37 rfl rfl rfl rfl (by exact (l1Mod_s (by omega)))) (by rintro _ _ ⟨rfl, rfl⟩; exact ⟨[], rfl, trivial, rfl⟩)) rfl
 intro θ R hd
 obtain ⟨h1d, h7d, _⟩ := hd
 exact Opp.plain (OG.imp (OD.indexAddr rfl et24 rfl (Ent.ints (i := 2) rfl) rfl (by omega)) (by rintro _ _ ⟨rfl, rfl⟩; exact ⟨[], rfl, trivial, rfl⟩)) rfl
 intro θ hall
 obtain ⟨_, _, _, _, _, _, _, _, _, _, _, _, _, _, _, _, _, _, _, _, _, _, _, _, _, _, _, _, _, _, _, _, _, _, _, _⟩ := hall
 refine G.at [] 0 (env' := [(2, .pointer (some ⟨g2, 0, none⟩)), (5, .pointer (some ⟨g5, 0, none⟩)), (6, vp), (8, .int .i64 ((c : Int))), (9, .int .i64 ((r : Int))), (7, .int .i64 ((dt * (at2 (swR M r k) r c)).tmod ap)), (15, .int .i64 ((i : Int))), (16, .int .i64 (at2 B i c)), (17, .int .i64 ((j : Int))), (214, .int .i64 (((d4.getD (q4) 0) - ((at2 B i c) * (d4.getD (q5) 0))) % ap)), (215, elemPtr v3 1 (q4))]) ⟨rfl, rfl, rfl, rfl, rfl, rfl, rfl, rfl, rfl, rfl, rfl, trivial⟩ (own' := ints 3 vp ps :: box g5 41 [.int .i64 (ap), .int .i64 (ar), .int .i64 (ac), v3] :: ints 3 v3 d4 :: box g2 41 [.int .i64 (0), .int .i64 (0), .int .i64 (0), .slice none 0 0] :: box g1 41 [.int .i64 (ap), .int .i64 (ar), .int .i64 (ac), vad] :: own) rfl ?_
 show G _ _ _ [_] _ _ _ _
 refine G.stepD0 (OD.storeInt rfl ti3 rfl rfl (i := 2) rfl (by omega)) rfl rfl ?_
 refine G.nil (GE.blockN (GE.then_ (GC.region ?_)))
 refine G.stepD (OD.move rfl rfl) rfl rfl rfl ?_
 refine G.stepD (OD.addI rfl rfl rfl (by first | omega | (simp only [List.length_set, List.length_replicate]; omega))) rfl rfl rfl ?_
 refine G.stepD (OD.assign rfl rfl) rfl rfl rfl ?_
 refine G.nil ?_
 exact GE.again (j + 1, (d4).set (q4) (((d4.getD (q4) 0) - ((at2 B i c) * (d4.getD (q5) 0))) % ap)) (⟨by omega, by rw [hq4, hq5]; exact hF4.el (by omega) (by omega) (by omega) (by omega), .inr ⟨by omega, by omega⟩⟩) (by first | omega | (dsimp only; omega)) ⟨rfl, rfl, rfl, rfl, rfl, rfl, rfl, rfl, rfl, trivial⟩ [] 0 rfl
 replace hc28 := eq_of_bne_false hc28
 refine GC.exit (GE.pass (GE.pass (GE.hit (GE.blockN (GE.then_ (GC.region ?_))))))
 refine G.stepD (OD.move rfl rfl) rfl rfl rfl ?_
 refine G.stepD (OD.addI rfl rfl rfl (by omega)) rfl rfl rfl ?_
 refine G.stepD (OD.assign rfl rfl) rfl rfl rfl ?_
 refine G.nil ?_
 exact GE.again (i + 1, d4) (⟨by omega, by rw [elK_next, ← hB]; exact hF4.elE hRB (by omega) (by omega) h04 (by omega)⟩) (by first | omega | (dsimp only; omega)) ⟨rfl, rfl, rfl, rfl, rfl, rfl, rfl, trivial⟩ [] 0 rfl
 have hg27e := hg27
 refine G.at [] 0 (env' := [(2, .pointer (some ⟨g2, 0, none⟩)), (5, .pointer (some ⟨g5, 0, none⟩)), (6, vp), (8, .int .i64 ((c : Int))), (9, .int .i64 ((r : Int))), (7, .int .i64 ((dt * (at2 (swR M r k) r c)).tmod ap)), (15, .int .i64 ((i : Int))), (16, .int .i64 (at2 B i c)), (17, .int .i64 ((j : Int))), (166, .int .i64 ((j : Int))), (167, .pointer (some ⟨g5, 2, none⟩)), (168, .int .i64 (ac)), (169, .bool true), (170, .bool true), (171, .int .i64 ((i : Int))), (172, .int .i64 ((r : Int))), (173, .bool false), (174, .bool false), (175, .bool false)]) (⟨rfl, rfl, rfl, rfl, rfl, rfl, rfl, rfl, rfl, rfl, rfl, rfl, rfl, rfl, rfl, rfl, (congrArg (fun b => some (Value.bool b)) hg27e), (congrArg (fun b => some (Value.bool b)) hg27e), (congrArg (fun b => some (Value.bool b)) hg27e), trivial⟩) rfl ?_
 replace hg27 := eq_of_bne_false hg27
 refine G.skipG rfl rfl rfl rfl rfl rfl (G.skipG rfl rfl rfl rfl rfl rfl ?_)
 refine G.stepD (OD.pickF rfl rfl rfl) rfl rfl rfl ?_
 refine G.nil (GE.then_ (GC.condF rfl (GC.exit (GE.pass (GE.pass (GE.hit (GE.blockN (GE.then_ (GC.region ?_)))))))))
 refine G.stepD (OD.move rfl rfl) rfl rfl rfl ?_
 refine G.stepD (OD.addI rfl rfl rfl (by omega)) rfl rfl rfl ?_
 refine G.stepD (OD.assign rfl rfl) rfl rfl rfl ?_
 refine G.nil ?_
 exact GE.again (i + 1, d4) (⟨by omega, by rw [elK_next, ← hB]; exact hF4.elE hRB (by omega) (by omega) h04 (by omega)⟩) (by first | omega | (dsimp only; omega)) ⟨rfl, rfl, rfl, rfl, rfl, rfl, rfl, trivial⟩ [] 0 rfl
 have hg26e := hg26
 refine G.at [] 0 (env' := [(2, .pointer (some ⟨g2, 0, none⟩)), (5, .pointer (some ⟨g5, 0, none⟩)), (6, vp), (8, .int .i64 ((c : Int))), (9, .int .i64 ((r : Int))), (7, .int .i64 ((dt * (at2 (swR M r k) r c)).tmod ap)), (15, .int .i64 ((i : Int))), (16, .int .i64 (at2 B i c)), (17, .int .i64 ((j : Int))), (166, .int .i64 ((j : Int))), (167, .pointer (some ⟨g5, 2, none⟩)), (168, .int .i64 (ac)), (169, .bool false), (170, .bool false)]) (⟨rfl, rfl, rfl, rfl, rfl, rfl, rfl, rfl, rfl, rfl, rfl, rfl, (congrArg (fun b => some (Value.bool b)) hg26e), (congrArg (fun b => some (Value.bool b)) hg26e), trivial⟩) rfl ?_
 replace hg26 := of_decide_eq_false hg26
 refine G.skipG rfl rfl rfl rfl rfl rfl (G.skipG rfl rfl rfl rfl rfl rfl (G.skipG rfl rfl rfl rfl rfl rfl ?_))
 refine G.stepD (OD.pickF rfl rfl rfl) rfl rfl rfl ?_
 refine G.stepD (OD.move rfl rfl) rfl rfl rfl ?_
 refine G.skipG rfl rfl rfl rfl rfl rfl (G.skipG rfl rfl rfl rfl rfl rfl ?_)
 refine G.stepD (OD.pickF rfl rfl rfl) rfl rfl rfl ?_
 refine G.nil (GE.then_ (GC.condF rfl (GC.exit (GE.pass (GE.pass (GE.hit (GE.blockN (GE.then_ (GC.region ?_)))))))))
 refine G.stepD (OD.move rfl rfl) rfl rfl rfl ?_
 refine G.stepD (OD.addI rfl rfl rfl (by omega)) rfl rfl rfl ?_
 refine G.stepD (OD.assign rfl rfl) rfl rfl rfl ?_
 refine G.nil ?_
 exact GE.again (i + 1, d4) (⟨by omega, by rw [elK_next, ← hB]; exact hF4.elE hRB (by omega) (by omega) h04 (by omega)⟩) (by first | omega | (dsimp only; omega)) ⟨rfl, rfl, rfl, rfl, rfl, rfl, rfl, trivial⟩ [] 0 rfl
 replace hc25 := of_decide_eq_false hc25
 refine GC.exit (GE.pass (GE.pass (GE.hit (GE.then_ (GC.region ?_)))))
 refine G.stepD (OD.move rfl rfl) rfl rfl rfl ?_
 refine G.stepD (OD.move rfl rfl) rfl rfl rfl ?_
 refine G.step (OG.buildInts (xs := [.tmp 217]) (is := [(c : Int)]) rfl et24 rfl rfl rfl rfl rfl) rfl rfl rfl ?_
 rintro v29 _ ⟨hs30, rfl⟩
 refine G.step (OG.appendInts 1 rfl rfl et24 rfl rfl rfl (Ent.ints (i := 0) rfl) (by first | omega | (simp; omega))) rfl rfl rfl ?_
 rintro v31 _ ⟨hs32, rfl⟩
 refine G.stepD (OD.assign rfl rfl) rfl rfl rfl ?_
 refine G.nil (GE.blockN (GE.then_ (GC.region ?_)))
 refine G.stepD (OD.move rfl rfl) rfl rfl rfl ?_
 refine G.stepD (OD.addI rfl rfl rfl (by omega)) rfl rfl rfl ?_
 refine G.stepD (OD.assign rfl rfl) rfl rfl rfl ?_
 refine G.nil ?_
 exact GE.again (c + 1, B, ps ++ [(c : Int)], ((dt * (at2 (swR M r k) r c)).tmod ap), d3, v31) (⟨by omega, rd_go hs hK hr (by omega) hRl hA1 hB (by omega), hF3, ⟨Int.tmod_nonneg _ hml.1, Int.tmod_lt_of_pos _ (by omega)⟩, hs32⟩) (by first | omega | (dsimp only; omega)) ⟨rfl, rfl, rfl, rfl, rfl, trivial⟩ [1, 1, 1, 1, 1] 1 rfl
 have hg10e := hg10
 refine G.at [] 0 (env' := [(2, .pointer (some ⟨g2, 0, none⟩)), (5, .pointer (some ⟨g5, 0, none⟩)), (6, vp), (7, .int .i64 (dt)), (8, .int .i64 ((c : Int))), (9, .int .i64 ((r : Int))), (10, .int .i64 ((k : Int))), (40, .int .i64 ((k : Int))), (41, .pointer (some ⟨g5, 1, none⟩)), (42, .int .i64 (ar)), (43, .bool false), (44, .bool false)]) (⟨rfl, rfl, rfl, rfl, rfl, rfl, rfl, rfl, rfl, rfl, (congrArg (fun b => some (Value.bool b)) hg10e), (congrArg (fun b => some (Value.bool b)) hg10e), trivial⟩) rfl ?_
 replace hg10 := of_decide_eq_false hg10
 refine G.skipG rfl rfl rfl rfl rfl rfl (G.skipG rfl rfl rfl rfl rfl rfl (G.skipG rfl rfl rfl rfl rfl rfl (G.skipG rfl rfl rfl rfl rfl rfl (G.skipG rfl rfl rfl rfl rfl rfl ?_))))
 refine G.stepD (OD.pickF rfl rfl rfl) rfl rfl rfl ?_
 refine G.nil (GE.then_ (GC.condF rfl (GC.exit (GE.pass (GE.pass (GE.hit (GE.then_ (GC.seq (GC.seq ?_)))))))))
 have hK : rdK M c ps.length = k := rdK_hit (by omega) (by rw [← hr]; exact hz) (by omega) (by first | exact .inr (by assumption) | (left; omega))
 refine GC.region ?_
 refine G.stepD (OD.move rfl rfl) rfl rfl rfl ?_
 refine G.stepD (OD.fieldAddr rfl rfl fa41_1) rfl rfl rfl ?_
 refine G.stepD (OD.load rfl ti3 rfl (i := 1) rfl rfl) rfl rfl rfl ?_
 refine G.stepD (OD.eqv (OD.eql rfl rfl rfl) (congrArg Value.bool ((beq_iff_eq.2 (by omega)) : _ = true))) rfl rfl rfl ?_
 refine G.nil (GE.then_ (GC.condT rfl (GC.exit (GE.pass (GE.hit (GE.then_ (GC.region ?_)))))))
 refine G.stepD (OD.move rfl rfl) rfl rfl rfl ?_
 refine G.stepD (OD.addI rfl rfl rfl (by omega)) rfl rfl rfl ?_
 refine G.stepD (OD.assign rfl rfl) rfl rfl rfl ?_
 refine G.nil ?_
 exact GE.again (c + 1, M, ps, dt, d, vp) (⟨by omega, rd_skip hs hK hr (by omega), hF, hdt, hvp⟩) (by first | omega | (dsimp only; omega)) ⟨rfl, rfl, rfl, rfl, rfl, trivial⟩ [] 0 rfl
 replace hc9 := of_decide_eq_false hc9
 refine GC.exit (GE.pass (GE.pass (GE.hit (GE.then_ (GC.seq (GC.region ?_))))))
 refine G.stepD (OD.loadAgg rfl ti41 rfl (i := 1) rfl (us := [.int .i64 (ap), .int .i64 (ar), .int .i64 (ac), v3]) rfl rfl) rfl rfl rfl ?_
 refine G.stepD (OD.move rfl rfl) rfl rfl rfl ?_
 refine G.stepD (OD.move rfl rfl) rfl rfl rfl ?_
 refine G.stepD0 (OD.store rfl ti41 rfl rfl (us := [.int .i64 (ap), .int .i64 (ar), .int .i64 (ac), v3]) rfl rfl (allC rfl (allC rfl (allC rfl (allC (IsS.one hs4) rfl)))) (i := 3) rfl rfl) rfl rfl ?_
 refine G.stepD (OD.assign rfl rfl) rfl rfl rfl ?_
 refine G.stepD (OD.assign rfl rfl) rfl rfl rfl ?_
 refine G.nil (GE.then_ (GC.ret ?_))
 exact GE.body [2, 0] 3 (resN rfl (RVs.cons (rv_cells ti41 rfl (i := 3) rfl rfl) (RVs.cons (rv_tmp rfl) (RVs.cons (rv_tmp rfl) RVs.nil))) rfl) rfl (⟨v3, vp, (dt), rfl, hs4, hvp, cong2 (fun (l0 : List Int) (l1 : List Int) => ints 3 v3 l0 :: ints 3 vp l1 :: own) ((by rw [← rd_stop hs hc (show c = C ∨ ps.length = E.length by have := hE.len; omega)]; exact hF.flat hRl hR.mem : d = (rdA ap (ivp ap) C E).1.flatten)) ((by rw [← rd_stop hs hc (show c = C ∨ ps.length = E.length by have := hE.len; omega)] : ps = (rdA ap (ivp ap) C E).2))⟩)
 have hg8e := hg8
 refine G.at [] 0 (env' := [(2, .pointer (some ⟨g2, 0, none⟩)), (5, .pointer (some ⟨g5, 0, none⟩)), (6, vp), (7, .int .i64 (dt)), (8, .int .i64 ((c : Int))), (24, .int .i64 ((c : Int))), (25, .pointer (some ⟨g5, 2, none⟩)), (26, .int .i64 (ac)), (27, .bool false), (28, .bool false)]) (⟨rfl, rfl, rfl, rfl, rfl, rfl, rfl, rfl, (congrArg (fun b => some (Value.bool b)) hg8e), (congrArg (fun b => some (Value.bool b)) hg8e), trivial⟩) rfl ?_
 replace hg8 := of_decide_eq_false hg8
 refine G.skipG rfl rfl rfl rfl rfl rfl (G.skipG rfl rfl rfl rfl rfl rfl (G.skipG rfl rfl rfl rfl rfl rfl (G.skipG rfl rfl rfl rfl rfl rfl (G.skipG rfl rfl rfl rfl rfl rfl ?_))))
 refine G.stepD (OD.pickF rfl rfl rfl) rfl rfl rfl ?_
 refine G.nil (GE.then_ (GC.condF rfl (GC.exit (GE.pass (GE.pass (GE.hit (GE.then_ (GC.seq (GC.region ?_)))))))))
 refine G.stepD (OD.loadAgg rfl ti41 rfl (i := 1) rfl (us := [.int .i64 (ap), .int .i64 (ar), .int .i64 (ac), v3]) rfl rfl) rfl rfl rfl ?_
 refine G.stepD (OD.move rfl rfl) rfl rfl rfl ?_
 refine G.stepD (OD.move rfl rfl) rfl rfl rfl ?_
 refine G.stepD0 (OD.store rfl ti41 rfl rfl (us := [.int .i64 (ap), .int .i64 (ar), .int .i64 (ac), v3]) rfl rfl (allC rfl (allC rfl (allC rfl (allC (IsS.one hs4) rfl)))) (i := 3) rfl rfl) rfl rfl ?_
 refine G.stepD (OD.assign rfl rfl) rfl rfl rfl ?_
 refine G.stepD (OD.assign rfl rfl) rfl rfl rfl ?_
 refine G.nil (GE.then_ (GC.ret ?_))
 exact GE.body [2, 0] 3 (resN rfl (RVs.cons (rv_cells ti41 rfl (i := 3) rfl rfl) (RVs.cons (rv_tmp rfl) (RVs.cons (rv_tmp rfl) RVs.nil))) rfl) rfl (⟨v3, vp, (dt), rfl, hs4, hvp, cong2 (fun (l0 : List Int) (l1 : List Int) => ints 3 v3 l0 :: ints 3 vp l1 :: own) ((by rw [← rd_stop hs hc (show c = C ∨ ps.length = E.length by have := hE.len; omega)]; exact hF.flat hRl hR.mem : d = (rdA ap (ivp ap) C E).1.flatten)) ((by rw [← rd_stop hs hc (show c = C ∨ ps.length = E.length by have := hE.len; omega)] : ps = (rdA ap (ivp ap) C E).2))⟩)
end Go.Proofs.Ytbmnnbglipkidaa
