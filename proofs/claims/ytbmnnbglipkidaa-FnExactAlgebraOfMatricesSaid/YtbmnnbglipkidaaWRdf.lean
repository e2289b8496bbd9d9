/-
  The reduction of rows by the first text: contracts by walks.
-/
import Derived.Test.YtbmnnbglipkidaaWAls
namespace Go.Proofs.Ytbmnnbglipkidaa
set_option linter.unusedVariables false
set_option linter.unusedSimpArgs false
open Go.RowKit
theorem ent61 : ∀ us w, (callFunc 61 us).run Try.prog w = .ok (.enter 61 us) w := fun us w => by kernel_rfl
theorem inverse_o {W : World} {own : List Asn} {n : Int} {p : Int}   (hpp : primeB p = true) (h1 : 0 < n) (h2 : n < p) : Spec Try.prog 61 [.int .i64 (n), .int .i64 (p)] W own (fun v ow => v = .int .i64 (ivO n p) ∧ ow = own) := by obtain ⟨⟨r, h0⟩, he, _, _⟩ := inv_all hpp h1 h2; have hr := primeB_range hpp; rw [← he, show ivE n p = r % p by rw [ivE, h0]]; exact Spec.below fun w hs => inverse_any n p r w (by omega) (by omega) (by omega) h0
theorem addToRow_w {W : World} {own : List Asn} {us : List Value} {M : List (List Int)} {i k : Nat} {f p : Int} (hall : AllS us) (hp : 2 ≤ p ∧ p ≤ 10007) (hi : i < us.length ∧ i < M.length) (hk : k < us.length ∧ k < M.length) (hne : k ≠ i) (hl : (M.getD k []).length = (M.getD i []).length) (hlb : (M.getD i []).length ≤ 1073741824) (hf : 0 ≤ f ∧ f ≤ 10007) (hx : ∀ j, 0 ≤ at2 M i j ∧ at2 M i j ≤ 10007) (hy : ∀ j, 0 ≤ at2 M k j ∧ at2 M k j ≤ 10007) :
    Spec Try.prog 53 [us.getD i undef, .int .i64 f, us.getD k undef, .int .i64 p] W (many (ints 3) us M :: own) (fun v ow => v = .tuple #[] ∧ ow = many (ints 3) us (M.set i (adR p f (M.getD i []) (M.getD k []))) :: own) := fun w hs => by
  refine (addTo_w (own := many (ints 3) (us.eraseIdx i) (M.eraseIdx i) :: own) (x := M.getD i []) (hall.get hi.1) (hall.get hk.1) (Ent.manyErase (j := 0) rfl hne hi hk) hp hl hlb hf hx hy w (hs.manyOut hi)).mono fun e w' ⟨v, ow, he, ⟨hv, ho⟩, hw⟩ => ⟨v, _, he, ⟨hv, rfl⟩, ?_⟩
  subst ho
  exact hw.manyIn hi
set_option maxHeartbeats 4000000 in
set_option maxRecDepth 100000 in
theorem reduce_w {W : World} {own : List Asn} {vx : Value} {ux : List Value} {dx : List (List Int)} {cols : Int} {p : Int}  (sx : IsS vx) (ax : AllS ux) (lx : ux.length = dx.length)  {n C : Nat} (hpp : primeB p = true) (hE : RwI p n C dx) (hcols : cols = (C : Int)) (hnn : n ≤ 2000 ∧ C ≤ 2000) : Spec Try.prog 49 [vx, .int .i64 (cols), .int .i64 (p)] W (lst 24 vx ux :: many (ints 3) ux dx :: own) (fun v ow => ∃ (rv0 : Value) (ru0 : List Value), v = rv0 ∧ IsS rv0 ∧ (AllS ru0) ∧ (ru0.length = dx.length) ∧ ow = ints 3 rv0 ((rdA p (ivp p) C dx).2) :: lst 24 vx ru0 :: many (ints 3) ru0 ((rdA p (ivp p) C dx).1) :: own) := by
 have hp2 := primeB_range hpp
 have hEl := hE.len
 refine Spec.enter Try.f49 _ Try.func49 rfl (n := 129) rfl rfl ?_
 refine GC.seq (GC.region ?_)
 refine G.stepD (OD.assign rfl rfl) rfl rfl rfl ?_
 refine G.nil (GE.then_ (GC.seq (GC.region ?_)))
 refine G.step (OG.buildInts (xs := []) (is := []) rfl et24 rfl rfl rfl rfl rfl) rfl rfl rfl ?_
 rintro v1 _ ⟨hs2, rfl⟩
 refine G.stepD (OD.assign rfl rfl) rfl rfl rfl ?_
 refine G.nil (GE.then_ (GC.seq (GC.seq (GC.region ?_))))
 refine G.stepD (OD.move rfl rfl) rfl rfl rfl ?_
 refine G.stepD (OD.move rfl rfl) rfl rfl rfl ?_
 refine G.nil (GE.then_ (GC.block ?_))
 refine GC.loop (ι := Nat × List (List Int) × List Int × List Value × Value) (fun ⟨c, M, ps, us, vp⟩ => [(0, vx), (2, .int .i64 (p)), (16, .int .i64 (cols)), (7, vp), (17, .int .i64 ((c : Int)))]) (fun ⟨c, M, ps, us, vp⟩ => ints 3 vp ps :: lst 24 vx us :: many (ints 3) us M :: own) (fun ⟨c, M, ps, us, vp⟩ => (c ≤ C) ∧ ((M, ps) = (List.range c).foldl (rdC p (ivp p)) (dx, [])) ∧ (AllS us) ∧ (us.length = n) ∧ (IsS vp)) (fun ⟨c, M, ps, us, vp⟩ => C - c) (0, dx, [], ux, v1) (⟨by omega, rfl, ax, by rw [lx]; exact hE.len, hs2⟩) ⟨rfl, rfl, rfl, rfl, rfl, trivial⟩ [] 0 rfl ?_
 rintro ⟨c, M, ps, us, vp⟩ ⟨hc, hs, hus, hul, hvp⟩
 have hI := RdI.all (C := C) (E := dx) hp2.1 (ivp_ok hpp) (fun i hi => hE.rows i (by have := hE.len; omega)) hE.rg c hc
 rw [← hs] at hI
 have hR : RwI p n C M := hI.rw hE.len
 have hRl : M.length = n := hR.len
 have hfew : ps.length ≤ n := by have h1 : ps.length ≤ dx.length := hI.few; have h2 := hE.len; omega
 obtain ⟨r, hr⟩ : ∃ r : Nat, r = ps.length := ⟨_, rfl⟩
 refine GC.seq (GC.region ?_)
 refine G.stepD (OD.lss rfl rfl rfl) rfl rfl rfl ?_
 refine G.nil (GE.then_ (GC.seq ?_))
 refine GC.cond rfl (fun hc3 => ?_) (fun hc3 => ?_)
 replace hc3 := of_decide_eq_true hc3
 refine GC.skip (GE.then_ (GC.seq (GC.block (GC.seq (GC.region ?_)))))
 refine G.stepD (OD.move rfl rfl) rfl rfl rfl ?_
 refine G.stepD (OD.assign rfl rfl) rfl rfl rfl ?_
 refine G.nil (GE.then_ (GC.seq (GC.region ?_)))
 refine G.stepD (OD.move rfl rfl) rfl rfl rfl ?_
 refine G.stepD (OD.len rfl rfl et24 rfl (Ent.ints (i := 0) rfl)) rfl rfl rfl ?_
 refine G.stepD (OD.eqv (OD.assign rfl rfl) (congrArg (Value.int .i64) ((by omega) : ((ps.length : Nat) : Int) = ((r : Int))))) rfl rfl rfl ?_
 refine G.nil (GE.then_ (GC.seq (GC.region ?_)))
 refine G.stepD (OD.move rfl rfl) rfl rfl rfl ?_
 refine G.stepD (OD.assign rfl rfl) rfl rfl rfl ?_
 refine G.nil (GE.then_ (GC.seq (GC.block ?_)))
 refine GC.loop (ι := Nat) (fun k => [(0, vx), (2, .int .i64 (p)), (16, .int .i64 (cols)), (7, vp), (17, .int .i64 ((c : Int))), (8, .int .i64 ((c : Int))), (9, .int .i64 ((r : Int))), (10, .int .i64 ((k : Int)))]) (fun k => ints 3 vp ps :: lst 24 vx us :: many (ints 3) us M :: own) (fun k => (r ≤ k) ∧ (k ≤ n) ∧ (∀ i, r ≤ i → i < k → at2 M i c = 0)) (fun k => n - k) r (⟨Nat.le_refl _, by omega, fun i h1 h2 => absurd h2 (by omega)⟩) ⟨rfl, rfl, rfl, rfl, rfl, rfl, rfl, rfl, trivial⟩ [] 0 rfl ?_
 rintro k ⟨hk1, hk2, hz⟩
 have hrk : k < n → (M.getD k []).length = C := fun h => hR.rows k h
 have hrk2 : k < n → (M.getD ((k : Int)).toNat []).length = C := hrk
 refine GC.seq (GC.seq (GC.region ?_))
 refine G.stepD (OD.move rfl rfl) rfl rfl rfl ?_
 refine G.stepD (OD.move rfl rfl) rfl rfl rfl ?_
 refine G.stepD (OD.len rfl rfl et39 rfl (Ent.lst (i := 1) rfl)) rfl rfl rfl ?_
 refine G.stepD (OD.lss rfl rfl rfl) rfl rfl rfl ?_
 refine G.stepD (OD.move rfl rfl) rfl rfl rfl ?_
 rcases Bool.eq_false_or_eq_true (decide ((k : Int) < (us.length : Nat))) with hg4 | hg4
 have hg4e := hg4
 refine G.at [] 0 (env' := [(0, vx), (2, .int .i64 (p)), (16, .int .i64 (cols)), (7, vp), (17, .int .i64 ((c : Int))), (8, .int .i64 ((c : Int))), (9, .int .i64 ((r : Int))), (10, .int .i64 ((k : Int))), (23, .int .i64 ((k : Int))), (24, vx), (25, .int .i64 ((us.length : Nat))), (26, .bool true), (27, .bool true)]) (⟨rfl, rfl, rfl, rfl, rfl, rfl, rfl, rfl, rfl, rfl, rfl, (congrArg (fun b => some (Value.bool b)) hg4e), (congrArg (fun b => some (Value.bool b)) hg4e), trivial⟩) rfl ?_
 replace hg4 := of_decide_eq_true hg4
 refine G.stepGD (OD.move rfl rfl) rfl rfl rfl rfl rfl ?_
 refine G.stepGD (OD.move rfl rfl) rfl rfl rfl rfl rfl ?_
 refine G.stepGD (OD.indexAddr rfl et39 rfl (Ent.lst (i := 1) rfl) rfl (by omega)) rfl rfl rfl rfl rfl ?_
 refine G.stepGD (OD.loadElem rfl ti24 rfl (Ent.lst (i := 1) rfl) (by omega) rfl) rfl rfl rfl rfl rfl ?_
 refine G.stepGD (OD.move rfl rfl) rfl rfl rfl rfl rfl ?_
 refine G.stepGD (OD.indexAddr rfl et24 rfl (Ent.manyInts (i := 2) rfl ⟨by first | omega | (simp; omega), by first | omega | (simp; omega)⟩) rfl (by omega)) rfl rfl rfl rfl rfl ?_
 refine G.stepGD (OD.loadInt rfl ti3 rfl (Ent.manyInts (i := 2) rfl ⟨by first | omega | (simp; omega), by first | omega | (simp; omega)⟩) (by omega)) rfl rfl rfl rfl rfl ?_
 refine G.stepGD (OD.eql rfl rfl rfl) rfl rfl rfl rfl rfl ?_
 refine G.stepD (OD.pickT rfl rfl rfl) rfl rfl rfl ?_
 refine G.nil (GE.then_ ?_)
 refine GC.cond rfl (fun hc5 => ?_) (fun hc5 => ?_)
 replace hc5 := eq_of_beq hc5
 refine GC.skip (GE.then_ (GC.block (GC.region ?_)))
 refine G.stepD (OD.move rfl rfl) rfl rfl rfl ?_
 refine G.stepD (OD.addI rfl rfl rfl (by omega)) rfl rfl rfl ?_
 refine G.stepD (OD.assign rfl rfl) rfl rfl rfl ?_
 refine G.nil (GE.blockN ?_)
 exact GE.again (k + 1) (⟨by omega, by omega, z_next hz (show (M.getD k []).getD c 0 = 0 by assumption)⟩) (by first | omega | (dsimp only; omega)) ⟨rfl, rfl, rfl, rfl, rfl, rfl, rfl, rfl, trivial⟩ [] 0 rfl
 replace hc5 := ne_of_beq_false hc5
 refine GC.exit (GE.pass (GE.pass (GE.hit (GE.then_ (GC.seq (GC.seq ?_))))))
 have hK : rdK M c ps.length = k := rdK_hit (by omega) (by rw [← hr]; exact hz) (by omega) (by first | exact .inr (show (M.getD k []).getD c 0 ≠ 0 by assumption) | (left; omega))
 have hne : (M.getD k []).getD c 0 ≠ 0 := by assumption
 refine GC.region ?_
 refine G.stepD (OD.move rfl rfl) rfl rfl rfl ?_
 refine G.stepD (OD.move rfl rfl) rfl rfl rfl ?_
 refine G.stepD (OD.len rfl rfl et39 rfl (Ent.lst (i := 1) rfl)) rfl rfl rfl ?_
 refine G.stepD (OD.eqv (OD.eql rfl rfl rfl) (congrArg Value.bool ((beq_false_of_ne (by omega)) : _ = false))) rfl rfl rfl ?_
 refine G.nil (GE.then_ (GC.condF rfl (GC.skip (GE.then_ (GC.seq ?_)))))
 refine GC.at [] 0 (env' := [(0, vx), (2, .int .i64 (p)), (16, .int .i64 (cols)), (7, vp), (17, .int .i64 ((c : Int))), (8, .int .i64 ((c : Int))), (9, .int .i64 ((r : Int))), (10, .int .i64 ((k : Int)))]) ⟨rfl, rfl, rfl, rfl, rfl, rfl, rfl, rfl, trivial⟩ rfl ?_
 refine GC.late (σ := [2, 3, 0, 1, 4, 5, 6, 7, 8, 9, 10, 11, 12, 13, 14, 15]) (L := [2, 3]) (its := [⟨45, [], [], [], [], fun _ => vx, fun _ => True, fun _ => []⟩,
     ⟨46, [], [], [], [], fun _ => .int .i64 ((r : Int)), fun _ => True, fun _ => []⟩,
     ⟨43, [], [], [], [], fun _ => vx, fun _ => True, fun _ => []⟩,
     ⟨44, [], [], [], [], fun _ => .int .i64 ((k : Int)), fun _ => True, fun _ => []⟩,
     ⟨47, [], [], [], [], fun _ => vx, fun _ => True, fun _ => []⟩,
     ⟨48, [], [], [], [], fun _ => .int .i64 ((r : Int)), fun _ => True, fun _ => []⟩,
     ⟨49, [(4, 47), (5, 48)], [], [], [], fun _ => elemPtr vx 1 (r), fun _ => True, fun _ => []⟩,
     ⟨50, [(6, 49)], [], [], [], fun _ => (us.getD (r) undef), fun _ => True, fun _ => []⟩,
     ⟨51, [], [], [], [], fun _ => vx, fun _ => True, fun _ => []⟩,
     ⟨52, [], [], [], [], fun _ => .int .i64 ((k : Int)), fun _ => True, fun _ => []⟩,
     ⟨53, [(8, 51), (9, 52)], [], [], [], fun _ => elemPtr vx 1 (k), fun _ => True, fun _ => []⟩,
     ⟨54, [(10, 53)], [], [], [], fun _ => (us.getD (k) undef), fun _ => True, fun _ => []⟩,
     ⟨55, [(2, 43), (3, 44)], [], [], [], fun _ => elemPtr vx 1 (k), fun _ => True, fun _ => []⟩]) (by kernel_rfl) (by repeat (first | refine PanQ.then_ ?_ | refine PanQ.block ?_ | exact PanQ.body)) (by kernel_rfl) ⟨⟨_, rfl, .inl rfl⟩, ⟨_, rfl, .inl rfl⟩, trivial⟩ (by kernel_rfl) (POps.cons ?_ (POps.cons ?_ (POps.cons ?_ (POps.cons ?_ (POps.cons ?_ (POps.cons ?_ (POps.cons ?_ (POps.cons ?_ (POps.cons ?_ (POps.cons ?_ (POps.cons ?_ (POps.cons ?_ (POps.cons ?_ POps.nil))))))))))))) ?_
 intro θ R hd
 exact Opp.plain (OG.imp (OD.move rfl rfl) (by rintro _ _ ⟨rfl, rfl⟩; exact ⟨[], rfl, trivial, rfl⟩)) rfl
 intro θ R hd
 exact Opp.plain (OG.imp (OD.move rfl rfl) (by rintro _ _ ⟨rfl, rfl⟩; exact ⟨[], rfl, trivial, rfl⟩)) rfl
 intro θ R hd
 exact Opp.plain (OG.imp (OD.move rfl rfl) (by rintro _ _ ⟨rfl, rfl⟩; exact ⟨[], rfl, trivial, rfl⟩)) rfl
 intro θ R hd
 exact Opp.plain (OG.imp (OD.move rfl rfl) (by rintro _ _ ⟨rfl, rfl⟩; exact ⟨[], rfl, trivial, rfl⟩)) rfl
 intro θ R hd
 exact Opp.plain (OG.imp (OD.move rfl rfl) (by rintro _ _ ⟨rfl, rfl⟩; exact ⟨[], rfl, trivial, rfl⟩)) rfl
 intro θ R hd
 exact Opp.plain (OG.imp (OD.move rfl rfl) (by rintro _ _ ⟨rfl, rfl⟩; exact ⟨[], rfl, trivial, rfl⟩)) rfl
 intro θ R hd
 obtain ⟨h4d, h5d, _⟩ := hd
 exact Opp.plain (OG.imp (OD.indexAddr rfl et39 rfl (Ent.lst (i := 1) rfl) rfl (by omega)) (by rintro _ _ ⟨rfl, rfl⟩; exact ⟨[], rfl, trivial, rfl⟩)) rfl
 intro θ R hd
 obtain ⟨h6d, _⟩ := hd
 exact Opp.plain (OG.imp (OD.loadElem rfl ti24 rfl (Ent.lst (i := 1) rfl) (by omega) rfl) (by rintro _ _ ⟨rfl, rfl⟩; exact ⟨[], rfl, trivial, rfl⟩)) rfl
 intro θ R hd
 exact Opp.plain (OG.imp (OD.move rfl rfl) (by rintro _ _ ⟨rfl, rfl⟩; exact ⟨[], rfl, trivial, rfl⟩)) rfl
 intro θ R hd
 exact Opp.plain (OG.imp (OD.move rfl rfl) (by rintro _ _ ⟨rfl, rfl⟩; exact ⟨[], rfl, trivial, rfl⟩)) rfl
 intro θ R hd
 obtain ⟨h8d, h9d, _⟩ := hd
 exact Opp.plain (OG.imp (OD.indexAddr rfl et39 rfl (Ent.lst (i := 1) rfl) rfl (by omega)) (by rintro _ _ ⟨rfl, rfl⟩; exact ⟨[], rfl, trivial, rfl⟩)) rfl
 intro θ R hd
 obtain ⟨h10d, _⟩ := hd
 exact Opp.plain (OG.imp (OD.loadElem rfl ti24 rfl (Ent.lst (i := 1) rfl) (by omega) rfl) (by rintro _ _ ⟨rfl, rfl⟩; exact ⟨[], rfl, trivial, rfl⟩)) rfl
 intro θ R hd
 obtain ⟨h2d, h3d, _⟩ := hd
 exact Opp.plain (OG.imp (OD.indexAddr rfl et39 rfl (Ent.lst (i := 1) rfl) rfl (by omega)) (by rintro _ _ ⟨rfl, rfl⟩; exact ⟨[], rfl, trivial, rfl⟩)) rfl
 intro θ hall
 obtain ⟨_, _, _, _, _, _, _, _, _, _, _, _, _, _⟩ := hall
 refine G.at [] 0 (env' := [(0, vx), (2, .int .i64 (p)), (16, .int .i64 (cols)), (7, vp), (17, .int .i64 ((c : Int))), (8, .int .i64 ((c : Int))), (9, .int .i64 ((r : Int))), (45, vx), (46, .int .i64 ((r : Int))), (50, (us.getD (r) undef)), (54, (us.getD (k) undef)), (55, elemPtr vx 1 (k))]) ⟨rfl, rfl, rfl, rfl, rfl, rfl, rfl, rfl, rfl, rfl, rfl, rfl, trivial⟩ (own' := ints 3 vp ps :: lst 24 vx us :: many (ints 3) us M :: own) rfl ?_
 show G _ _ _ [_, _, _] _ _ _ _
 refine G.stepD0 (OD.storeLst rfl ti24 rfl rfl (hus.get (by omega)) (i := 1) rfl (by omega)) rfl rfl ?_
 refine G.stepD (OD.indexAddr rfl et39 rfl (Ent.lst (i := 1) rfl) rfl (by first | omega | (simp only [List.length_set, List.length_replicate]; omega))) rfl rfl rfl ?_
 refine G.stepD0 (OD.storeLst rfl ti24 rfl rfl (hus.get (by omega)) (i := 1) rfl (by first | omega | (simp only [List.length_set, List.length_replicate]; omega))) rfl rfl ?_
 refine G.nil (GE.then_ (GC.seq ?_))
 obtain ⟨u2, hu2⟩ : ∃ u2, u2 = swL undef us r k := ⟨_, rfl⟩
 obtain ⟨M2, hM2⟩ : ∃ M2, M2 = swR M r k := ⟨_, rfl⟩
 have ha2 : AllS u2 := by rw [hu2]; exact swL_all hus (by omega) (by omega)
 have hul2 : u2.length = n := by rw [hu2, swL_len]; exact hul
 have hR2 : RwI p n C M2 := by rw [hM2]; exact hR.sw (by omega) (by omega)
 have hM2l := hR2.len
 have hr2 : (M2.getD r []).length = C := hR2.rows r (by omega)
 have hr22 : (M2.getD ((r : Int)).toNat []).length = C := hr2
 have hpv : (M2.getD r []).getD c 0 = (M.getD k []).getD c 0 := by rw [hM2]; exact sw_pv (c := c) (by omega) (by omega)
 have hrg : 0 ≤ (M2.getD r []).getD c 0 ∧ (M2.getD r []).getD c 0 < p := hR2.rg r c
 have hiv := (inv_all hpp (show 0 < (M2.getD r []).getD c 0 by omega) (show (M2.getD r []).getD c 0 < p by omega)).2.2.1
 obtain ⟨A1, hA1⟩ : ∃ A1, A1 = scA p (ivp p) r c M2 := ⟨_, rfl⟩
 have hR1 : RwI p n C A1 := by rw [hA1]; exact hR2.sc (by omega) (by omega)
 refine GC.at [2, 0, 0] 0 (env' := [(0, vx), (2, .int .i64 (p)), (16, .int .i64 (cols)), (7, vp), (17, .int .i64 ((c : Int))), (8, .int .i64 ((c : Int))), (9, .int .i64 ((r : Int))), (45, vx), (46, .int .i64 ((r : Int))), (50, (us.getD (r) undef)), (54, (us.getD (k) undef)), (55, elemPtr vx 1 (k)), (56, elemPtr vx 1 (r))]) ⟨rfl, rfl, rfl, rfl, rfl, rfl, rfl, rfl, rfl, rfl, rfl, rfl, rfl, trivial⟩ (own' := many (ints 3) us M :: ints 3 vp ps :: lst 24 vx (((us).set (k) ((us.getD (r) undef))).set (r) ((us.getD (k) undef))) :: own) rfl ?_
 refine GC.manySw r k ⟨by omega, by omega⟩ ⟨by omega, by omega⟩ ?_
 refine GC.ownEq (own' := many (ints 3) u2 M2 :: ints 3 vp ps :: lst 24 vx u2 :: own) (by rw [hu2, hM2] <;> rfl) ?_
 refine GC.region ?_
 refine G.stepD (OD.move rfl rfl) rfl rfl rfl ?_
 refine G.stepD (OD.move rfl rfl) rfl rfl rfl ?_
 refine G.stepD (OD.indexAddr rfl et39 rfl (Ent.lst (i := 2) rfl) rfl (by omega)) rfl rfl rfl ?_
 refine G.stepD (OD.loadElem rfl ti24 rfl (Ent.lst (i := 2) rfl) (by omega) rfl) rfl rfl rfl ?_
 refine G.stepD (OD.move rfl rfl) rfl rfl rfl ?_
 refine G.stepD (OD.indexAddr rfl et24 rfl (Ent.manyInts (i := 0) rfl ⟨by first | omega | (simp; omega), by first | omega | (simp; omega)⟩) rfl (by omega)) rfl rfl rfl ?_
 refine G.stepD (OD.loadInt rfl ti3 rfl (Ent.manyInts (i := 0) rfl ⟨by first | omega | (simp; omega), by first | omega | (simp; omega)⟩) (by omega)) rfl rfl rfl ?_
 refine G.stepD (OD.move rfl rfl) rfl rfl rfl ?_
 refine G.step (OG.call [.int .i64 ((M2.getD (r) []).getD (c) 0), .int .i64 (p)] ent61 rfl rfl rfl rfl (by exact (inverse_o (hpp) (by omega) (by omega)))) rfl rfl rfl ?_
 rintro _ _ ⟨rfl, rfl⟩
 refine G.stepD (OD.assign rfl rfl) rfl rfl rfl ?_
 refine G.nil (GE.then_ (GC.seq (GC.seq (GC.region ?_))))
 refine G.stepD (OD.move rfl rfl) rfl rfl rfl ?_
 refine G.stepD (OD.move rfl rfl) rfl rfl rfl ?_
 refine G.stepD (OD.indexAddr rfl et39 rfl (Ent.lst (i := 2) rfl) rfl (by omega)) rfl rfl rfl ?_
 refine G.stepD (OD.loadElem rfl ti24 rfl (Ent.lst (i := 2) rfl) (by omega) rfl) rfl rfl rfl ?_
 refine G.stepD (OD.len rfl rfl et24 rfl (Ent.manyInts (i := 0) rfl ⟨by first | omega | (simp; omega), by first | omega | (simp; omega)⟩)) rfl rfl rfl ?_
 refine G.stepD (OD.move rfl rfl) rfl rfl rfl ?_
 refine G.nil (GE.then_ (GC.block ?_))
 refine GC.at [0, 0, 0] 0 (env' := [(0, vx), (2, .int .i64 (p)), (16, .int .i64 (cols)), (7, vp), (17, .int .i64 ((c : Int))), (8, .int .i64 ((c : Int))), (9, .int .i64 ((r : Int))), (45, vx), (46, .int .i64 ((r : Int))), (50, (us.getD (r) undef)), (54, (us.getD (k) undef)), (55, elemPtr vx 1 (k)), (56, elemPtr vx 1 (r)), (57, vx), (58, .int .i64 ((r : Int))), (59, elemPtr vx 1 (r)), (60, (u2.getD (r) undef)), (61, .int .i64 ((c : Int))), (62, elemPtr ((u2.getD (r) undef)) 1 (c)), (63, .int .i64 ((M2.getD (r) []).getD (c) 0)), (64, .int .i64 (p)), (65, .int .i64 (ivO ((M2.getD (r) []).getD (c) 0) p)), (11, .int .i64 (ivO ((M2.getD (r) []).getD (c) 0) p)), (66, vx), (67, .int .i64 ((r : Int))), (68, elemPtr vx 1 (r)), (69, (u2.getD (r) undef)), (70, .int .i64 (((M2.getD (r) []).length : Nat))), (71, .int .i64 (0))]) ⟨rfl, rfl, rfl, rfl, rfl, rfl, rfl, rfl, rfl, rfl, rfl, rfl, rfl, rfl, rfl, rfl, rfl, rfl, rfl, rfl, rfl, rfl, rfl, rfl, rfl, rfl, rfl, rfl, rfl, trivial⟩ (own' := many (ints 3) u2 M2 :: ints 3 vp ps :: lst 24 vx u2 :: own) rfl ?_
 refine GC.manyOut r ⟨by omega, by omega⟩ ?_
 refine GC.loop (ι := Nat × List Int) (fun ⟨j, y⟩ => [(0, vx), (2, .int .i64 (p)), (16, .int .i64 (cols)), (7, vp), (17, .int .i64 ((c : Int))), (8, .int .i64 ((c : Int))), (9, .int .i64 ((r : Int))), (11, .int .i64 (ivO ((M2.getD (r) []).getD (c) 0) p)), (70, .int .i64 (((M2.getD (r) []).length : Nat))), (71, .int .i64 ((j : Int)))]) (fun ⟨j, y⟩ => ints 3 (u2.getD (r) undef) y :: many (ints 3) (u2.eraseIdx r) (M2.eraseIdx r) :: ints 3 vp ps :: lst 24 vx u2 :: own) (fun ⟨j, y⟩ => (j ≤ C) ∧ (y = stK (fun a _ => a * ivO ((M2.getD r []).getD c 0) p % p) (M2.getD r []) j)) (fun ⟨j, y⟩ => C - j) (0, (M2.getD r [])) (⟨by omega, rfl⟩) ⟨rfl, rfl, rfl, rfl, rfl, rfl, rfl, rfl, rfl, rfl, trivial⟩ [] 0 rfl ?_
 rintro ⟨j, y⟩ ⟨hj, hy⟩
 have hyl : y.length = C := by rw [hy, stK_len]; exact hr2
 have hyj : j < C → y.getD j 0 = (M2.getD r []).getD j 0 := fun h => by rw [hy, stK_at j (by omega), if_neg (by omega)]
 have hrj : 0 ≤ (M2.getD r []).getD j 0 ∧ (M2.getD r []).getD j 0 < p := hR2.rg r j
 refine GC.seq (GC.region ?_)
 refine G.stepD (OD.lss rfl rfl rfl) rfl rfl rfl ?_
 refine G.nil (GE.then_ (GC.seq ?_))
 refine GC.cond rfl (fun hc6 => ?_) (fun hc6 => ?_)
 replace hc6 := of_decide_eq_true hc6
 refine GC.skip (GE.then_ (GC.seq (GC.block (GC.seq (GC.region ?_)))))
 refine G.stepD (OD.move rfl rfl) rfl rfl rfl ?_
 refine G.stepD (OD.assign rfl rfl) rfl rfl rfl ?_
 refine G.nil (GE.then_ ?_)
 have hyjj := hyj (by omega)
 have hmm := mulBd (A := 10007) (B := 10007) (a := y.getD j 0) (b := ivO ((M2.getD r []).getD c 0) p) (by omega) (by omega)
 have hmm2 : 0 ≤ y.getD ((j : Int)).toNat 0 * ivO ((M2.getD r []).getD c 0) p ∧ y.getD ((j : Int)).toNat 0 * ivO ((M2.getD r []).getD c 0) p ≤ 10007 * 10007 := hmm
 refine GC.at [] 0 (env' := [(0, vx), (2, .int .i64 (p)), (16, .int .i64 (cols)), (7, vp), (17, .int .i64 ((c : Int))), (8, .int .i64 ((c : Int))), (9, .int .i64 ((r : Int))), (11, .int .i64 (ivO ((M2.getD (r) []).getD (c) 0) p)), (70, .int .i64 (((M2.getD (r) []).length : Nat))), (71, .int .i64 ((j : Int))), (12, .int .i64 ((j : Int)))]) ⟨rfl, rfl, rfl, rfl, rfl, rfl, rfl, rfl, rfl, rfl, rfl, trivial⟩ rfl ?_
 refine GC.par (its := [⟨74, [], [], [], [], fun _ => vx, fun _ => True, fun _ => []⟩,
     ⟨75, [], [], [], [], fun _ => .int .i64 ((r : Int)), fun _ => True, fun _ => []⟩,
     ⟨76, [(0, 74), (1, 75)], [], [], [], fun _ => elemPtr vx 1 (r), fun _ => True, fun _ => []⟩,
     ⟨77, [(2, 76)], [], [], [], fun _ => (u2.getD (r) undef), fun _ => True, fun _ => []⟩,
     ⟨78, [], [], [], [], fun _ => .int .i64 ((j : Int)), fun _ => True, fun _ => []⟩,
     ⟨79, [], [], [], [], fun _ => vx, fun _ => True, fun _ => []⟩,
     ⟨80, [], [], [], [], fun _ => .int .i64 ((r : Int)), fun _ => True, fun _ => []⟩,
     ⟨81, [(5, 79), (6, 80)], [], [], [], fun _ => elemPtr vx 1 (r), fun _ => True, fun _ => []⟩,
     ⟨82, [(7, 81)], [], [], [], fun _ => (u2.getD (r) undef), fun _ => True, fun _ => []⟩,
     ⟨83, [], [], [], [], fun _ => .int .i64 ((j : Int)), fun _ => True, fun _ => []⟩,
     ⟨84, [(8, 82), (9, 83)], [], [], [], fun _ => elemPtr ((u2.getD (r) undef)) 1 (j), fun _ => True, fun _ => []⟩,
     ⟨85, [(10, 84)], [], [], [], fun _ => .int .i64 (y.getD (j) 0), fun _ => True, fun _ => []⟩,
     ⟨86, [], [], [], [], fun _ => .int .i64 (ivO ((M2.getD (r) []).getD (c) 0) p), fun _ => True, fun _ => []⟩,
     ⟨87, [(11, 85), (12, 86)], [], [], [], fun _ => .int .i64 ((y.getD (j) 0) * (ivO ((M2.getD (r) []).getD (c) 0) p)), fun _ => True, fun _ => []⟩,
     ⟨88, [], [], [], [], fun _ => .int .i64 (p), fun _ => True, fun _ => []⟩,
     ⟨89, [(13, 87), (14, 88)], [], [], [], fun _ => .int .i64 ((y.getD j 0 * ivO ((M2.getD r []).getD c 0) p % p)), fun _ => True, fun _ => []⟩,
     ⟨90, [(3, 77), (4, 78)], [], [], [], fun _ => elemPtr ((u2.getD (r) undef)) 1 (j), fun _ => True, fun _ => []⟩]) (by kernel_rfl) (by kernel_rfl) (POps.cons ?_ (POps.cons ?_ (POps.cons ?_ (POps.cons ?_ (POps.cons ?_ (POps.cons ?_ (POps.cons ?_ (POps.cons ?_ (POps.cons ?_ (POps.cons ?_ (POps.cons ?_ (POps.cons ?_ (POps.cons ?_ (POps.cons ?_ (POps.cons ?_ (POps.cons ?_ (POps.cons ?_ POps.nil))))))))))))))))) ?_
 intro θ R hd
 exact Opp.plain (OG.imp (OD.move rfl rfl) (by rintro _ _ ⟨rfl, rfl⟩; exact ⟨[], rfl, trivial, rfl⟩)) rfl
 intro θ R hd
 exact Opp.plain (OG.imp (OD.move rfl rfl) (by rintro _ _ ⟨rfl, rfl⟩; exact ⟨[], rfl, trivial, rfl⟩)) rfl
 intro θ R hd
 obtain ⟨h0d, h1d, _⟩ := hd
 exact Opp.plain (OG.imp (OD.indexAddr rfl et39 rfl (Ent.lst (i := 3) rfl) rfl (by omega)) (by rintro _ _ ⟨rfl, rfl⟩; exact ⟨[], rfl, trivial, rfl⟩)) rfl
 intro θ R hd
 obtain ⟨h2d, _⟩ := hd
 exact Opp.plain (OG.imp (OD.loadElem rfl ti24 rfl (Ent.lst (i := 3) rfl) (by omega) rfl) (by rintro _ _ ⟨rfl, rfl⟩; exact ⟨[], rfl, trivial, rfl⟩)) rfl
 intro θ R hd
 exact Opp.plain (OG.imp (OD.move rfl rfl) (by rintro _ _ ⟨rfl, rfl⟩; exact ⟨[], rfl, trivial, rfl⟩)) rfl
 intro θ R hd
 exact Opp.plain (OG.imp (OD.move rfl rfl) (by rintro _ _ ⟨rfl, rfl⟩; exact ⟨[], rfl, trivial, rfl⟩)) rfl
 intro θ R hd
 exact Opp.plain (OG.imp (OD.move rfl rfl) (by rintro _ _ ⟨rfl, rfl⟩; exact ⟨[], rfl, trivial, rfl⟩)) rfl
 intro θ R hd
 obtain ⟨h5d, h6d, _⟩ := hd
 exact Opp.plain (OG.imp (OD.indexAddr rfl et39 rfl (Ent.lst (i := 3) rfl) rfl (by omega)) (by rintro _ _ ⟨rfl, rfl⟩; exact ⟨[], rfl, trivial, rfl⟩)) rfl
 intro θ R hd
 obtain ⟨h7d, _⟩ := hd
 exact Opp.plain (OG.imp (OD.loadElem rfl ti24 rfl (Ent.lst (i := 3) rfl) (by omega) rfl) (by rintro _ _ ⟨rfl, rfl⟩; exact ⟨[], rfl, trivial, rfl⟩)) rfl
 intro θ R hd
 exact Opp.plain (OG.imp (OD.move rfl rfl) (by rintro _ _ ⟨rfl, rfl⟩; exact ⟨[], rfl, trivial, rfl⟩)) rfl
 intro θ R hd
 obtain ⟨h8d, h9d, _⟩ := hd
 exact Opp.plain (OG.imp (OD.indexAddr rfl et24 rfl (Ent.ints (i := 0) rfl) rfl (by omega)) (by rintro _ _ ⟨rfl, rfl⟩; exact ⟨[], rfl, trivial, rfl⟩)) rfl
 intro θ R hd
 obtain ⟨h10d, _⟩ := hd
 exact Opp.plain (OG.imp (OD.loadInt rfl ti3 rfl (Ent.ints (i := 0) rfl) (by omega)) (by rintro _ _ ⟨rfl, rfl⟩; exact ⟨[], rfl, trivial, rfl⟩)) rfl
 intro θ R hd
 exact Opp.plain (OG.imp (OD.move rfl rfl) (by rintro _ _ ⟨rfl, rfl⟩; exact ⟨[], rfl, trivial, rfl⟩)) rfl
 intro θ R hd
 obtain ⟨h11d, h12d, _⟩ := hd
 exact Opp.plain (OG.imp (OD.mulI rfl rfl rfl (by omega)) (by rintro _ _ ⟨rfl, rfl⟩; exact ⟨[], rfl, trivial, rfl⟩)) rfl
 intro θ R hd
 exact Opp.plain (OG.imp (OD.move rfl rfl) (by rintro _ _ ⟨rfl, rfl⟩; exact ⟨[], rfl, trivial, rfl⟩)) rfl
 intro θ R hd
 obtain ⟨h13d, h14d, _⟩ := hd
 exact Opp.plain (OG.imp (OD.eqv (OD.rem rfl rfl rfl (by omega)) (congrArg (Value.int .i64) ((Int.tmod_eq_emod_of_nonneg hmm.1) : (((y.getD (j) 0) * (ivO ((M2.getD (r) []).getD (c) 0) p)).tmod p : Int) = ((y.getD j 0 * ivO ((M2.getD r []).getD c 0) p % p))))) (by rintro _ _ ⟨rfl, rfl⟩; exact ⟨[], rfl, trivial, rfl⟩)) rfl
 intro θ R hd
 obtain ⟨h3d, h4d, _⟩ := hd
 exact Opp.plain (OG.imp (OD.indexAddr rfl et24 rfl (Ent.ints (i := 0) rfl) rfl (by omega)) (by rintro _ _ ⟨rfl, rfl⟩; exact ⟨[], rfl, trivial, rfl⟩)) rfl
 intro θ hall
 obtain ⟨_, _, _, _, _, _, _, _, _, _, _, _, _, _, _, _, _, _⟩ := hall
 refine G.at [] 0 (env' := [(0, vx), (2, .int .i64 (p)), (16, .int .i64 (cols)), (7, vp), (17, .int .i64 ((c : Int))), (8, .int .i64 ((c : Int))), (9, .int .i64 ((r : Int))), (11, .int .i64 (ivO ((M2.getD (r) []).getD (c) 0) p)), (70, .int .i64 (((M2.getD (r) []).length : Nat))), (71, .int .i64 ((j : Int))), (89, .int .i64 ((y.getD j 0 * ivO ((M2.getD r []).getD c 0) p % p))), (90, elemPtr ((u2.getD (r) undef)) 1 (j))]) ⟨rfl, rfl, rfl, rfl, rfl, rfl, rfl, rfl, rfl, rfl, rfl, rfl, trivial⟩ (own' := ints 3 (u2.getD (r) undef) y :: many (ints 3) (u2.eraseIdx r) (M2.eraseIdx r) :: ints 3 vp ps :: lst 24 vx u2 :: own) rfl ?_
 show G _ _ _ [_] _ _ _ _
 refine G.stepD0 (OD.storeInt rfl ti3 rfl rfl (i := 0) rfl (by omega)) rfl rfl ?_
 refine G.nil (GE.blockN (GE.then_ (GC.region ?_)))
 refine G.stepD (OD.addI rfl rfl rfl (by first | omega | (simp only [List.length_set, List.length_replicate]; omega))) rfl rfl rfl ?_
 refine G.stepD (OD.move rfl rfl) rfl rfl rfl ?_
 refine G.nil ?_
 exact GE.again (j + 1, (y).set (j) ((y.getD j 0 * ivO ((M2.getD r []).getD c 0) p % p))) (⟨by omega, by rw [hy, stK_next]⟩) (by first | omega | (dsimp only; omega)) ⟨rfl, rfl, rfl, rfl, rfl, rfl, rfl, rfl, rfl, rfl, trivial⟩ [] 0 rfl
 replace hc6 := of_decide_eq_false hc6
 refine GC.exit (GE.pass (GE.pass (GE.hit (GE.then_ (GC.seq (GC.seq ?_))))))
 refine GC.at [0, 0, 0, 0] 0 (env' := [(0, vx), (2, .int .i64 (p)), (16, .int .i64 (cols)), (7, vp), (17, .int .i64 ((c : Int))), (8, .int .i64 ((c : Int))), (9, .int .i64 ((r : Int))), (11, .int .i64 (ivO ((M2.getD (r) []).getD (c) 0) p)), (70, .int .i64 (((M2.getD (r) []).length : Nat))), (71, .int .i64 ((j : Int))), (72, .bool (decide ((j : Int) < ((M2.getD (r) []).length : Nat))))]) ⟨rfl, rfl, rfl, rfl, rfl, rfl, rfl, rfl, rfl, rfl, rfl, trivial⟩ (own' := ints 3 (u2.getD (r) undef) y :: many (ints 3) (u2.eraseIdx r) (M2.eraseIdx r) :: ints 3 vp ps :: lst 24 vx u2 :: own) rfl ?_
 refine GC.manyIn r ⟨by omega, by omega⟩ ?_
 have hyE : y = scR p (ivp p (at2 M2 r c)) (M2.getD r []) := by rw [hy]; exact stK_sc (by omega)
 refine GC.ownEq (own' := many (ints 3) u2 A1 :: ints 3 vp ps :: lst 24 vx u2 :: own) (by rw [hA1, hyE] <;> rfl) ?_
 refine GC.region ?_
 refine G.stepD (OD.move rfl rfl) rfl rfl rfl ?_
 refine G.stepD (OD.len rfl rfl et39 rfl (Ent.lst (i := 2) rfl)) rfl rfl rfl ?_
 refine G.stepD (OD.move rfl rfl) rfl rfl rfl ?_
 refine G.nil (GE.then_ (GC.block ?_))
 refine GC.loop (ι := Nat × List (List Int)) (fun ⟨i, B⟩ => [(0, vx), (2, .int .i64 (p)), (16, .int .i64 (cols)), (7, vp), (17, .int .i64 ((c : Int))), (8, .int .i64 ((c : Int))), (9, .int .i64 ((r : Int))), (92, vx), (93, .int .i64 ((u2.length : Nat))), (94, .int .i64 ((i : Int)))]) (fun ⟨i, B⟩ => many (ints 3) u2 B :: ints 3 vp ps :: lst 24 vx u2 :: own) (fun ⟨i, B⟩ => (i ≤ n) ∧ (B = elK p r c A1 i)) (fun ⟨i, B⟩ => n - i) (0, A1) (⟨by omega, rfl⟩) ⟨rfl, rfl, rfl, rfl, rfl, rfl, rfl, rfl, rfl, rfl, trivial⟩ [] 0 rfl ?_
 rintro ⟨i, B⟩ ⟨hi, hB⟩
 have hRB : RwI p n C B := by rw [hB]; exact hR1.elk (by omega) (by omega) hi
 have hBl := hRB.len
 have hri : i < n → (B.getD i []).length = C := fun h => hRB.rows i h
 have hrr : (B.getD r []).length = C := hRB.rows r (by omega)
 have hri2 : i < n → (B.getD ((i : Int)).toNat []).length = C := hri
 have hrr2 : (B.getD ((r : Int)).toNat []).length = C := hrr
 have hbg : 0 ≤ (B.getD i []).getD c 0 ∧ (B.getD i []).getD c 0 < p := hRB.rg i c
 refine GC.seq (GC.region ?_)
 refine G.stepD (OD.lss rfl rfl rfl) rfl rfl rfl ?_
 refine G.nil (GE.then_ (GC.seq ?_))
 refine GC.cond rfl (fun hc7 => ?_) (fun hc7 => ?_)
 replace hc7 := of_decide_eq_true hc7
 refine GC.skip (GE.then_ (GC.seq (GC.block (GC.seq (GC.region ?_)))))
 refine G.stepD (OD.move rfl rfl) rfl rfl rfl ?_
 refine G.stepD (OD.indexAddr rfl et39 rfl (Ent.lst (i := 2) rfl) rfl (by omega)) rfl rfl rfl ?_
 refine G.stepD (OD.loadElem rfl ti24 rfl (Ent.lst (i := 2) rfl) (by omega) rfl) rfl rfl rfl ?_
 refine G.stepD (OD.assign rfl rfl) rfl rfl rfl ?_
 refine G.stepD (OD.assign rfl rfl) rfl rfl rfl ?_
 refine G.nil (GE.then_ (GC.seq (GC.region ?_)))
 refine G.stepD (OD.move rfl rfl) rfl rfl rfl ?_
 refine G.stepD (OD.move rfl rfl) rfl rfl rfl ?_
 refine G.stepD (OD.neq rfl rfl rfl) rfl rfl rfl ?_
 refine G.stepD (OD.move rfl rfl) rfl rfl rfl ?_
 rcases Bool.eq_false_or_eq_true ((i : Int) != (r : Int)) with hg8 | hg8
 have hg8e := hg8
 refine G.at [] 0 (env' := [(0, vx), (2, .int .i64 (p)), (16, .int .i64 (cols)), (7, vp), (17, .int .i64 ((c : Int))), (8, .int .i64 ((c : Int))), (9, .int .i64 ((r : Int))), (92, vx), (93, .int .i64 ((u2.length : Nat))), (94, .int .i64 ((i : Int))), (95, .bool (decide ((i : Int) < (u2.length : Nat)))), (96, .int .i64 ((i : Int))), (97, elemPtr vx 1 (i)), (98, (u2.getD (i) undef)), (13, .int .i64 ((i : Int))), (14, (u2.getD (i) undef)), (99, .int .i64 ((i : Int))), (100, .int .i64 ((r : Int))), (101, .bool true), (102, .bool true)]) (⟨rfl, rfl, rfl, rfl, rfl, rfl, rfl, rfl, rfl, rfl, rfl, rfl, rfl, rfl, rfl, rfl, rfl, rfl, (congrArg (fun b => some (Value.bool b)) hg8e), (congrArg (fun b => some (Value.bool b)) hg8e), trivial⟩) rfl ?_
 replace hg8 := ne_of_bne hg8
 refine G.stepGD (OD.move rfl rfl) rfl rfl rfl rfl rfl ?_
 refine G.stepGD (OD.move rfl rfl) rfl rfl rfl rfl rfl ?_
 refine G.stepGD (OD.indexAddr rfl et24 rfl (Ent.manyInts (i := 0) rfl ⟨by first | omega | (simp; omega), by first | omega | (simp; omega)⟩) rfl (by omega)) rfl rfl rfl rfl rfl ?_
 refine G.stepGD (OD.loadInt rfl ti3 rfl (Ent.manyInts (i := 0) rfl ⟨by first | omega | (simp; omega), by first | omega | (simp; omega)⟩) (by omega)) rfl rfl rfl rfl rfl ?_
 refine G.stepGD (OD.neq rfl rfl rfl) rfl rfl rfl rfl rfl ?_
 refine G.stepD (OD.pickT rfl rfl rfl) rfl rfl rfl ?_
 refine G.nil (GE.then_ ?_)
 refine GC.cond rfl (fun hc9 => ?_) (fun hc9 => ?_)
 replace hc9 := ne_of_bne hc9
 refine GC.at [] 0 (env' := [(0, vx), (2, .int .i64 (p)), (16, .int .i64 (cols)), (7, vp), (17, .int .i64 ((c : Int))), (8, .int .i64 ((c : Int))), (9, .int .i64 ((r : Int))), (92, vx), (93, .int .i64 ((u2.length : Nat))), (94, .int .i64 ((i : Int))), (14, (u2.getD (i) undef))]) ⟨rfl, rfl, rfl, rfl, rfl, rfl, rfl, rfl, rfl, rfl, rfl, trivial⟩ rfl ?_
 refine GC.par (its := [⟨109, [], [], [], [], fun _ => (u2.getD (i) undef), fun _ => True, fun _ => []⟩,
     ⟨110, [], [], [], [], fun _ => .int .i64 (p), fun _ => True, fun _ => []⟩,
     ⟨111, [], [], [], [], fun _ => (u2.getD (i) undef), fun _ => True, fun _ => []⟩,
     ⟨112, [], [], [], [], fun _ => .int .i64 ((c : Int)), fun _ => True, fun _ => []⟩,
     ⟨113, [(2, 111), (3, 112)], [], [], [], fun _ => elemPtr ((u2.getD (i) undef)) 1 (c), fun _ => True, fun _ => []⟩,
     ⟨114, [(4, 113)], [], [], [], fun _ => .int .i64 ((B.getD (i) []).getD (c) 0), fun _ => True, fun _ => []⟩,
     ⟨115, [(1, 110), (5, 114)], [], [], [], fun _ => .int .i64 (p - ((B.getD (i) []).getD (c) 0)), fun _ => True, fun _ => []⟩,
     ⟨116, [], [], [], [], fun _ => vx, fun _ => True, fun _ => []⟩,
     ⟨117, [], [], [], [], fun _ => .int .i64 ((r : Int)), fun _ => True, fun _ => []⟩,
     ⟨118, [(7, 116), (8, 117)], [], [], [], fun _ => elemPtr vx 1 (r), fun _ => True, fun _ => []⟩,
     ⟨119, [(9, 118)], [], [], [], fun _ => (u2.getD (r) undef), fun _ => True, fun _ => []⟩,
     ⟨120, [], [], [], [], fun _ => .int .i64 (p), fun _ => True, fun _ => []⟩]) (by kernel_rfl) (by kernel_rfl) (POps.cons ?_ (POps.cons ?_ (POps.cons ?_ (POps.cons ?_ (POps.cons ?_ (POps.cons ?_ (POps.cons ?_ (POps.cons ?_ (POps.cons ?_ (POps.cons ?_ (POps.cons ?_ (POps.cons ?_ POps.nil)))))))))))) ?_
 intro θ R hd
 exact Opp.plain (OG.imp (OD.move rfl rfl) (by rintro _ _ ⟨rfl, rfl⟩; exact ⟨[], rfl, trivial, rfl⟩)) rfl
 intro θ R hd
 exact Opp.plain (OG.imp (OD.move rfl rfl) (by rintro _ _ ⟨rfl, rfl⟩; exact ⟨[], rfl, trivial, rfl⟩)) rfl
 intro θ R hd
 exact Opp.plain (OG.imp (OD.move rfl rfl) (by rintro _ _ ⟨rfl, rfl⟩; exact ⟨[], rfl, trivial, rfl⟩)) rfl
 intro θ R hd
 exact Opp.plain (OG.imp (OD.move rfl rfl) (by rintro _ _ ⟨rfl, rfl⟩; exact ⟨[], rfl, trivial, rfl⟩)) rfl
 intro θ R hd
 obtain ⟨h2d, h3d, _⟩ := hd
 exact Opp.plain (OG.imp (OD.indexAddr rfl et24 rfl (Ent.manyInts (i := 0) rfl ⟨by first | omega | (simp; omega), by first | omega | (simp; omega)⟩) rfl (by omega)) (by rintro _ _ ⟨rfl, rfl⟩; exact ⟨[], rfl, trivial, rfl⟩)) rfl
 intro θ R hd
 obtain ⟨h4d, _⟩ := hd
 exact Opp.plain (OG.imp (OD.loadInt rfl ti3 rfl (Ent.manyInts (i := 0) rfl ⟨by first | omega | (simp; omega), by first | omega | (simp; omega)⟩) (by omega)) (by rintro _ _ ⟨rfl, rfl⟩; exact ⟨[], rfl, trivial, rfl⟩)) rfl
 intro θ R hd
 obtain ⟨h1d, h5d, _⟩ := hd
 exact Opp.plain (OG.imp (OD.subI rfl rfl rfl (by omega)) (by rintro _ _ ⟨rfl, rfl⟩; exact ⟨[], rfl, trivial, rfl⟩)) rfl
 intro θ R hd
 exact Opp.plain (OG.imp (OD.move rfl rfl) (by rintro _ _ ⟨rfl, rfl⟩; exact ⟨[], rfl, trivial, rfl⟩)) rfl
 intro θ R hd
 exact Opp.plain (OG.imp (OD.move rfl rfl) (by rintro _ _ ⟨rfl, rfl⟩; exact ⟨[], rfl, trivial, rfl⟩)) rfl
 intro θ R hd
 obtain ⟨h7d, h8d, _⟩ := hd
 exact Opp.plain (OG.imp (OD.indexAddr rfl et39 rfl (Ent.lst (i := 2) rfl) rfl (by omega)) (by rintro _ _ ⟨rfl, rfl⟩; exact ⟨[], rfl, trivial, rfl⟩)) rfl
 intro θ R hd
 obtain ⟨h9d, _⟩ := hd
 exact Opp.plain (OG.imp (OD.loadElem rfl ti24 rfl (Ent.lst (i := 2) rfl) (by omega) rfl) (by rintro _ _ ⟨rfl, rfl⟩; exact ⟨[], rfl, trivial, rfl⟩)) rfl
 intro θ R hd
 exact Opp.plain (OG.imp (OD.move rfl rfl) (by rintro _ _ ⟨rfl, rfl⟩; exact ⟨[], rfl, trivial, rfl⟩)) rfl
 intro θ hall
 obtain ⟨_, _, _, _, _, _, _, _, _, _, _, _, _⟩ := hall
 refine G.at [] 0 (env' := [(0, vx), (2, .int .i64 (p)), (16, .int .i64 (cols)), (7, vp), (17, .int .i64 ((c : Int))), (8, .int .i64 ((c : Int))), (9, .int .i64 ((r : Int))), (92, vx), (93, .int .i64 ((u2.length : Nat))), (94, .int .i64 ((i : Int))), (109, (u2.getD (i) undef)), (115, .int .i64 (p - ((B.getD (i) []).getD (c) 0))), (119, (u2.getD (r) undef)), (120, .int .i64 (p))]) ⟨rfl, rfl, rfl, rfl, rfl, rfl, rfl, rfl, rfl, rfl, rfl, rfl, rfl, rfl, trivial⟩ (own' := many (ints 3) u2 B :: ints 3 vp ps :: lst 24 vx u2 :: own) rfl ?_
 show G _ _ _ [_] _ _ _ _
 refine G.at [0, 0, 0] 0 (env' := [(0, vx), (2, .int .i64 (p)), (16, .int .i64 (cols)), (7, vp), (17, .int .i64 ((c : Int))), (8, .int .i64 ((c : Int))), (9, .int .i64 ((r : Int))), (92, vx), (93, .int .i64 ((u2.length : Nat))), (94, .int .i64 ((i : Int))), (109, (u2.getD (i) undef)), (115, .int .i64 (p - ((B.getD (i) []).getD (c) 0))), (119, (u2.getD (r) undef)), (120, .int .i64 (p))]) ⟨rfl, rfl, rfl, rfl, rfl, rfl, rfl, rfl, rfl, rfl, rfl, rfl, rfl, rfl, trivial⟩ (own' := many (ints 3) u2 B :: ints 3 vp ps :: lst 24 vx u2 :: own) rfl ?_
 refine G.step (OG.call [(u2.getD (i) undef), .int .i64 (p - ((B.getD (i) []).getD (c) 0)), (u2.getD (r) undef), .int .i64 (p)] ent53 rfl rfl rfl rfl (by exact (addToRow_w (us := u2) (M := B) (i := i) (k := r) ha2 (by omega) (⟨by omega, by omega⟩) (⟨by omega, by omega⟩) (by omega) (by omega) (by omega) (by omega) (fun j => by have := hRB.rg i j; omega) (fun j => by have := hRB.rg r j; omega)))) rfl rfl rfl ?_
 rintro _ _ ⟨rfl, rfl⟩
 refine G.nil (GE.blockN (GE.then_ (GC.region ?_)))
 refine G.stepD (OD.addI rfl rfl rfl (by first | omega | (simp only [List.length_set, List.length_replicate]; omega))) rfl rfl rfl ?_
 refine G.stepD (OD.move rfl rfl) rfl rfl rfl ?_
 refine G.nil ?_
 exact GE.again (i + 1, B.set (i) (adR p (p - ((B.getD (i) []).getD (c) 0)) (B.getD (i) []) (B.getD (r) []))) (⟨by omega, by rw [elK_next, ← hB, elS, if_pos ⟨by omega, show (B.getD i []).getD c 0 ≠ 0 by assumption⟩, ← adR_el (by omega)] <;> rfl⟩) (by first | omega | (dsimp only; omega)) ⟨rfl, rfl, rfl, rfl, rfl, rfl, rfl, rfl, rfl, rfl, trivial⟩ [] 0 rfl
 replace hc9 := eq_of_bne_false hc9
 refine GC.skip (GE.blockN (GE.then_ (GC.region ?_)))
 refine G.stepD (OD.addI rfl rfl rfl (by omega)) rfl rfl rfl ?_
 refine G.stepD (OD.move rfl rfl) rfl rfl rfl ?_
 refine G.nil ?_
 exact GE.again (i + 1, B) (⟨by omega, by rw [elK_next, ← hB, elS, if_neg (fun h => by first | (have h1 := h.1; omega) | exact h.2 (show (B.getD i []).getD c 0 = 0 by assumption))]⟩) (by first | omega | (dsimp only; omega)) ⟨rfl, rfl, rfl, rfl, rfl, rfl, rfl, rfl, rfl, rfl, trivial⟩ [] 0 rfl
 have hg8e := hg8
 refine G.at [] 0 (env' := [(0, vx), (2, .int .i64 (p)), (16, .int .i64 (cols)), (7, vp), (17, .int .i64 ((c : Int))), (8, .int .i64 ((c : Int))), (9, .int .i64 ((r : Int))), (92, vx), (93, .int .i64 ((u2.length : Nat))), (94, .int .i64 ((i : Int))), (95, .bool (decide ((i : Int) < (u2.length : Nat)))), (96, .int .i64 ((i : Int))), (97, elemPtr vx 1 (i)), (98, (u2.getD (i) undef)), (13, .int .i64 ((i : Int))), (14, (u2.getD (i) undef)), (99, .int .i64 ((i : Int))), (100, .int .i64 ((r : Int))), (101, .bool false), (102, .bool false)]) (⟨rfl, rfl, rfl, rfl, rfl, rfl, rfl, rfl, rfl, rfl, rfl, rfl, rfl, rfl, rfl, rfl, rfl, rfl, (congrArg (fun b => some (Value.bool b)) hg8e), (congrArg (fun b => some (Value.bool b)) hg8e), trivial⟩) rfl ?_
 replace hg8 := eq_of_bne_false hg8
 refine G.skipG rfl rfl rfl rfl rfl rfl (G.skipG rfl rfl rfl rfl rfl rfl (G.skipG rfl rfl rfl rfl rfl rfl (G.skipG rfl rfl rfl rfl rfl rfl (G.skipG rfl rfl rfl rfl rfl rfl ?_))))
 refine G.stepD (OD.pickF rfl rfl rfl) rfl rfl rfl ?_
 refine G.nil (GE.then_ (GC.condF rfl (GC.skip (GE.blockN (GE.then_ (GC.region ?_))))))
 refine G.stepD (OD.addI rfl rfl rfl (by omega)) rfl rfl rfl ?_
 refine G.stepD (OD.move rfl rfl) rfl rfl rfl ?_
 refine G.nil ?_
 exact GE.again (i + 1, B) (⟨by omega, by rw [elK_next, ← hB, elS, if_neg (fun h => by first | (have h1 := h.1; omega) | exact h.2 (show (B.getD i []).getD c 0 = 0 by assumption))]⟩) (by first | omega | (dsimp only; omega)) ⟨rfl, rfl, rfl, rfl, rfl, rfl, rfl, rfl, rfl, rfl, trivial⟩ [] 0 rfl
 replace hc7 := of_decide_eq_false hc7
 refine GC.exit (GE.pass (GE.pass (GE.hit (GE.then_ (GC.region ?_)))))
 refine G.stepD (OD.move rfl rfl) rfl rfl rfl ?_
 refine G.stepD (OD.move rfl rfl) rfl rfl rfl ?_
 refine G.step (OG.buildInts (xs := [.tmp 124]) (is := [(c : Int)]) rfl et24 rfl rfl rfl rfl rfl) rfl rfl rfl ?_
 rintro v10 _ ⟨hs11, rfl⟩
 refine G.step (OG.appendInts 2 rfl rfl et24 rfl rfl rfl (Ent.ints (i := 0) rfl) (by first | omega | (simp; omega))) rfl rfl rfl ?_
 rintro v12 _ ⟨hs13, rfl⟩
 refine G.stepD (OD.assign rfl rfl) rfl rfl rfl ?_
 refine G.nil (GE.blockN (GE.then_ (GC.region ?_)))
 refine G.stepD (OD.addI rfl rfl rfl (by omega)) rfl rfl rfl ?_
 refine G.stepD (OD.move rfl rfl) rfl rfl rfl ?_
 refine G.nil ?_
 exact GE.again (c + 1, B, ps ++ [(c : Int)], u2, v12) (⟨by omega, rd_go hs hK hr (by omega) hRl (by rw [hA1, hM2]) hB (by omega), ha2, hul2, hs13⟩) (by first | omega | (dsimp only; omega)) ⟨rfl, rfl, rfl, rfl, rfl, trivial⟩ [2, 2, 1] 1 rfl
 have hg4e := hg4
 refine G.at [] 0 (env' := [(0, vx), (2, .int .i64 (p)), (16, .int .i64 (cols)), (7, vp), (17, .int .i64 ((c : Int))), (8, .int .i64 ((c : Int))), (9, .int .i64 ((r : Int))), (10, .int .i64 ((k : Int))), (23, .int .i64 ((k : Int))), (24, vx), (25, .int .i64 ((us.length : Nat))), (26, .bool false), (27, .bool false)]) (⟨rfl, rfl, rfl, rfl, rfl, rfl, rfl, rfl, rfl, rfl, rfl, (congrArg (fun b => some (Value.bool b)) hg4e), (congrArg (fun b => some (Value.bool b)) hg4e), trivial⟩) rfl ?_
 replace hg4 := of_decide_eq_false hg4
 refine G.skipG rfl rfl rfl rfl rfl rfl (G.skipG rfl rfl rfl rfl rfl rfl (G.skipG rfl rfl rfl rfl rfl rfl (G.skipG rfl rfl rfl rfl rfl rfl (G.skipG rfl rfl rfl rfl rfl rfl (G.skipG rfl rfl rfl rfl rfl rfl (G.skipG rfl rfl rfl rfl rfl rfl (G.skipG rfl rfl rfl rfl rfl rfl ?_)))))))
 refine G.stepD (OD.pickF rfl rfl rfl) rfl rfl rfl ?_
 refine G.nil (GE.then_ (GC.condF rfl (GC.exit (GE.pass (GE.pass (GE.hit (GE.then_ (GC.seq (GC.seq ?_)))))))))
 have hK : rdK M c ps.length = k := rdK_hit (by omega) (by rw [← hr]; exact hz) (by omega) (by first | exact .inr (show (M.getD k []).getD c 0 ≠ 0 by assumption) | (left; omega))
 refine GC.region ?_
 refine G.stepD (OD.move rfl rfl) rfl rfl rfl ?_
 refine G.stepD (OD.move rfl rfl) rfl rfl rfl ?_
 refine G.stepD (OD.len rfl rfl et39 rfl (Ent.lst (i := 1) rfl)) rfl rfl rfl ?_
 refine G.stepD (OD.eqv (OD.eql rfl rfl rfl) (congrArg Value.bool ((beq_iff_eq.2 (by omega)) : _ = true))) rfl rfl rfl ?_
 refine G.nil (GE.then_ (GC.condT rfl (GC.exit (GE.pass (GE.hit (GE.then_ (GC.region ?_)))))))
 refine G.stepD (OD.addI rfl rfl rfl (by omega)) rfl rfl rfl ?_
 refine G.stepD (OD.move rfl rfl) rfl rfl rfl ?_
 refine G.nil ?_
 exact GE.again (c + 1, M, ps, us, vp) (⟨by omega, rd_skip hs hK hr (by omega), hus, hul, hvp⟩) (by first | omega | (dsimp only; omega)) ⟨rfl, rfl, rfl, rfl, rfl, trivial⟩ [] 0 rfl
 replace hc3 := of_decide_eq_false hc3
 refine GC.exit (GE.pass (GE.pass (GE.hit (GE.then_ (GC.seq (GC.region ?_))))))
 refine G.stepD (OD.move rfl rfl) rfl rfl rfl ?_
 refine G.stepD (OD.assign rfl rfl) rfl rfl rfl ?_
 refine G.nil (GE.then_ (GC.ret ?_))
 have hst := rd_stop hs hc (.inl (show c = C by omega))
 refine GE.ownEq (own' := ints 3 vp ((rdA p (ivp p) C dx).2) :: lst 24 vx us :: many (ints 3) us ((rdA p (ivp p) C dx).1) :: own) (by rw [← hst]) ?_
 skip
 exact GE.body [] 0 (res1 rfl rfl) rfl (⟨vp, us, rfl, (hvp), (hus), (by omega), rfl⟩)
end Go.Proofs.Ytbmnnbglipkidaa
