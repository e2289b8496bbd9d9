/-
  The law on longest words.
-/
import Derived.Test.YtgelkakjmbiibaaGreatDoorFct
import Derived.Test.YtgelkakjmbiibaaGreatDoorWWds
import Derived.Test.YtgelkakjmbiibaaGreatDoorWBeI
import Derived.Test.YtgelkakjmbiibaaGreatDoorWNrm
import Derived.Test.YtgelkakjmbiibaaGreatDoorZ31
import Derived.Test.YtgelkakjmbiibaaGreatDoorZ26
import Derived.Test.YtgelkakjmbiibaaGreatDoorZ29
import Derived.Test.YtgelkakjmbiibaaGreatDoorZ35
namespace Go.Proofs.YtgelkakjmbiibaaGreatDoor
set_option linter.unusedVariables false
set_option linter.unusedSimpArgs false
open Go.RowKit
theorem ent16 : ∀ us w, (callFunc 16 us).run Tryz.prog w = .ok (.enter 16 us) w := fun us w => by kernel_rfl
theorem ent19 : ∀ us w, (callFunc 19 us).run Tryz.prog w = .ok (.enter 19 us) w := fun us w => by kernel_rfl
theorem ent20 : ∀ us w, (callFunc 20 us).run Tryz.prog w = .ok (.enter 20 us) w := fun us w => by kernel_rfl
theorem ent21 : ∀ us w, (callFunc 21 us).run Tryz.prog w = .ok (.enter 21 us) w := fun us w => by kernel_rfl
theorem ent24 : ∀ us w, (callFunc 24 us).run Tryz.prog w = .ok (.enter 24 us) w := fun us w => by kernel_rfl
theorem ent25 : ∀ us w, (callFunc 25 us).run Tryz.prog w = .ok (.enter 25 us) w := fun us w => by kernel_rfl
theorem ent26 : ∀ us w, (callFunc 26 us).run Tryz.prog w = .ok (.enter 26 us) w := fun us w => by kernel_rfl
theorem ent34 : ∀ us w, (callFunc 34 us).run Tryz.prog w = .ok (.enter 34 us) w := fun us w => by kernel_rfl
theorem ent35 : ∀ us w, (callFunc 35 us).run Tryz.prog w = .ok (.enter 35 us) w := fun us w => by kernel_rfl
theorem ent36 : ∀ us w, (callFunc 36 us).run Tryz.prog w = .ok (.enter 36 us) w := fun us w => by kernel_rfl
theorem ent37 : ∀ us w, (callFunc 37 us).run Tryz.prog w = .ok (.enter 37 us) w := fun us w => by kernel_rfl
set_option maxHeartbeats 4000000 in
set_option maxRecDepth 100000 in
theorem lawLongest {W : World} {own : List Asn} {vcode : Value} {code : List Int}  (scode : IsS vcode) (ecode : Ent own fun w => Byts w vcode code)  (hl : code.length ≤ 9223372036854775807) (hg : Ent own fun w => ∃ m, w.cell? ⟨Tryz.l146_ren.g 1, 0, none⟩ = some (.int .i64 m)) (htab : Ent own Pow10) : Spec Tryz.prog 7 [vcode] W own (fun v ow => v = .bool (true) ∧ ow = own) := by
 refine Spec.enter Tryz.f7 _ Tryz.func7 rfl (n := 108) rfl rfl ?_
 refine GC.seq (GC.region ?_)
 refine G.stepD (OD.assign rfl rfl) rfl rfl rfl ?_
 refine G.nil (GE.then_ (GC.seq (GC.seq (GC.region ?_))))
 refine G.stepD (OD.move rfl rfl) rfl rfl rfl ?_
 refine G.step (OG.call [vcode] ent19 rfl rfl rfl rfl (by exact (big_w scode ecode (by omega)))) rfl rfl rfl ?_
 rintro _ _ ⟨rfl, hzz⟩; obtain rfl := hzz.symm
 refine G.nil (GE.then_ ?_)
 refine GC.cond rfl (fun hc1 => ?_) (fun hc1 => ?_)
 replace hc1 := of_decide_eq_true hc1
 refine GC.seq (GC.region ?_)
 refine G.stepD (OD.assign rfl rfl) rfl rfl rfl ?_
 refine G.nil (GE.then_ (GC.ret (GE.passR ?_)))
 exact GE.body [] 0 (res1 rfl rfl) rfl (⟨rfl, rfl⟩)
 replace hc1 := of_decide_eq_false hc1
 refine GC.skip (GE.then_ (GC.seq (GC.region ?_)))
 refine G.stepD (OD.move rfl rfl) rfl rfl rfl ?_
 refine G.step (OG.call [vcode] ent20 rfl rfl rfl rfl (by exact (drawWords_w scode ecode (by omega)))) rfl rfl rfl ?_
 rintro _ _ ⟨v2, v3, v4, v5, g6, u7, u8, u9, rfl, hs10, hs11, hs12, hs13, hs14, hs15, hs16, hs17, rfl⟩
 refine G.stepD (OD.move rfl rfl) rfl rfl rfl ?_
 refine G.stepD (OD.extract rfl rfl rfl) rfl rfl rfl ?_
 refine G.stepD (OD.extract rfl rfl rfl) rfl rfl rfl ?_
 refine G.stepD (OD.extract rfl rfl rfl) rfl rfl rfl ?_
 refine G.stepD (OD.extract rfl rfl rfl) rfl rfl rfl ?_
 refine G.step (OG.alloc rfl ti27 (zs := [.int .i64 (0), .slice none 0 0]) rfl) rfl rfl rfl ?_
 rintro _ _ ⟨g18, rfl, rfl⟩
 refine G.stepD0 (OD.store rfl ti27 rfl rfl (us := [.int .i64 (cR (smNm g6)), v2]) rfl rfl (allC rfl (allC (IsS.one hs10) rfl)) (i := 0) rfl rfl) rfl rfl ?_
 refine G.stepD (OD.assign rfl rfl) rfl rfl rfl ?_
 refine G.stepD (OD.assign rfl rfl) rfl rfl rfl ?_
 refine G.stepD (OD.assign rfl rfl) rfl rfl rfl ?_
 refine G.nil (GE.then_ (GC.seq ?_))
 obtain ⟨hS, hg0, hgt⟩ := grOk (k := g6) (by assumption)
 obtain ⟨hR, hD, hN1, hN3⟩ := sm_cR (k := g6) (by assumption)
 have hinv : ∀ {v : List Int}, rngW (smN g6) v → v.length ≤ 60 → (ivL (smN g6) (smD g6) v).length = (nwOf (smN g6) (smD g6) v).length := fun hv hl => invLen (by assumption) hv hl
 rw [← hR, ← hD] at hS hg0 hgt hinv
 generalize hce : cR (smNm g6) = cr at *
 generalize hde : cD (smNm g6) = cd at *
 have hcr4 := (tyS_ok hS).1
 have hl0 : cd.length ≤ 1073741824 := Nat.le_trans (cd_small hS) (by decide)
 have hW := wlOk hS
 have hph := phOk hS
 obtain ⟨hvl, hrv⟩ := (show u8.length ≤ 11 ∧ ∀ q ∈ u8, 0 ≤ q ∧ q < cr from by assumption)
 obtain ⟨hul, hru⟩ := (show u7.length ≤ 12 ∧ ∀ q ∈ u7, 0 ≤ q ∧ q < cr from by assumption)
 have hL : LgLaw cr cd u8 := hg0.lgLaw hS hrv (by omega)
 have hLl := hL.len
 have hL24 := hL.l24
 have hNl := hL.nl
 have hpl : (prOfL cr cd).length = (rSt cr cd).length := by rw [prOfL, if_pos hS]
 have hiv : (ivL cr cd (lwOf cr cd)).length = (lwOf cr cd).length := by rw [hinv hL.rng (by omega), hL.nw]
 have hbi : samB (ivOf cr cd (lwOf cr cd)) (lwOf cr cd) = true := samB_of hL.inv
 have hbe : isbOf cr cd u8 (lwOf cr cd) = true := hL.bel
 have hklt := hL.klt
 have hcnt : (((elOf cr cd (((nwOf cr cd u8).length : Nat) : Int)).length : Nat) : Int) = (lcOf cr cd).getD ((((nwOf cr cd u8).length : Nat) : Int)).toNat 0 := hL.cnt
 have hol := elOf_len cr cd (((nwOf cr cd u8).length : Nat) : Int)
 have hcl := lcOf_len cr cd
 refine GC.region ?_
 refine G.stepD (OD.loadAgg rfl ti27 rfl (i := 0) rfl (us := [.int .i64 (cr), v2]) rfl rfl) rfl rfl rfl ?_
 refine G.step (OG.call [.agg #[.int .i64 (cr), v2]] ent34 rfl rfl rfl rfl (by exact (longestWord_w hs10 (Ent.ints (i := 1) rfl) (hl0) ((Ent.drop 5 hg))))) rfl rfl rfl ?_
 rintro v19 _ ⟨_, rfl, hs20, rfl⟩
 refine G.stepD (OD.assign rfl rfl) rfl rfl rfl ?_
 refine G.nil (GE.then_ (GC.seq (GC.seq (GC.region ?_))))
 refine G.stepD (OD.move rfl rfl) rfl rfl rfl ?_
 refine G.stepD (OD.len rfl rfl et22 rfl (Ent.ints (i := 0) rfl)) rfl rfl rfl ?_
 refine G.stepD (OD.loadAgg rfl ti27 rfl (i := 1) rfl (us := [.int .i64 (cr), v2]) rfl rfl) rfl rfl rfl ?_
 refine G.step (OG.call [.agg #[.int .i64 (cr), v2]] ent35 rfl rfl rfl rfl (by exact (positiveRoots_w hs10 (Ent.ints (i := 2) rfl) (hl0) ((Ent.drop 6 hg)) ((Ent.drop 6 htab))))) rfl rfl rfl ?_
 rintro v21 _ ⟨_, u22, rfl, hs23, hs24, hs25, rfl⟩
 refine G.stepD (OD.len rfl rfl et39 rfl (Ent.lst (i := 0) rfl)) rfl rfl rfl ?_
 refine G.stepD (OD.eqv (OD.neq rfl rfl rfl) (congrArg Value.bool ((by rw [bne_eq_false_iff_eq]; omega) : _ = false))) rfl rfl rfl ?_
 refine G.stepD (OD.move rfl rfl) rfl rfl rfl ?_
 refine G.stepGD (OD.loadAgg rfl ti27 rfl (i := 3) rfl (us := [.int .i64 (cr), v2]) rfl rfl) rfl rfl rfl rfl rfl ?_
 refine G.stepGD (OD.move rfl rfl) rfl rfl rfl rfl rfl ?_
 refine G.stepG (OG.call [.agg #[.int .i64 (cr), v2], v19] ent24 rfl rfl rfl rfl (by exact (inverseWord_w hs10 (Ent.ints (i := 4) rfl) hs20 (Ent.ints (i := 2) rfl) (hl0) (by omega) ((Ent.drop 8 hg))))) rfl rfl rfl rfl rfl ?_
 rintro v26 _ ⟨_, rfl, hs27, rfl⟩
 refine G.stepGD (OD.move rfl rfl) rfl rfl rfl rfl rfl ?_
 refine G.stepG (OG.imp (K' := fun v ow => v = .bool true ∧ ow = ints 3 v26 (ivOf cr cd (lwOf cr cd)) :: lst 22 v21 u22 :: many (ints 3) u22 (prOfL cr cd) :: ints 3 v19 (lwOf cr cd) :: box g18 27 [.int .i64 (cr), v2] :: ints 3 v2 cd :: ints 3 v3 u7 :: ints 3 v4 u8 :: ints 3 v5 u9 :: own) (OG.call [v26, v19] ent25 rfl rfl rfl rfl (by exact (lawsInts_s hs27 (Ent.ints (i := 0) rfl) hs20 (Ent.ints (i := 3) rfl) (Nat.le_trans (ivOf_len _ _ _ ) (by decide))))) (by rintro _ _ ⟨rfl, rfl⟩; exact ⟨congrArg Value.bool (hbi), rfl⟩)) rfl rfl rfl rfl rfl ?_
 rintro _ _ ⟨rfl, rfl⟩
 refine G.stepGD (OD.not rfl rfl) rfl rfl rfl rfl rfl ?_
 refine G.stepD (OD.pickF rfl rfl rfl) rfl rfl rfl ?_
 refine G.stepD (OD.move rfl rfl) rfl rfl rfl ?_
 refine G.stepGD (OD.loadAgg rfl ti27 rfl (i := 4) rfl (us := [.int .i64 (cr), v2]) rfl rfl) rfl rfl rfl rfl rfl ?_
 refine G.stepGD (OD.move rfl rfl) rfl rfl rfl rfl rfl ?_
 refine G.stepG (OG.call [.agg #[.int .i64 (cr), v2], v19] ent26 rfl rfl rfl rfl (by exact (inversionsOf_w hs10 (Ent.ints (i := 5) rfl) hs20 (Ent.ints (i := 3) rfl) (hl0) (by omega) ((Ent.drop 9 hg)) ((Ent.drop 9 htab))))) rfl rfl rfl rfl rfl ?_
 rintro v28 _ ⟨_, u29, rfl, hs30, hs31, hs32, rfl⟩
 refine G.stepGD (OD.len rfl rfl et39 rfl (Ent.lst (i := 0) rfl)) rfl rfl rfl rfl rfl ?_
 refine G.stepGD (OD.move rfl rfl) rfl rfl rfl rfl rfl ?_
 refine G.stepGD (OD.len rfl rfl et22 rfl (Ent.ints (i := 5) rfl)) rfl rfl rfl rfl rfl ?_
 refine G.stepGD (OD.eqv (OD.neq rfl rfl rfl) (congrArg Value.bool ((by rw [bne_eq_false_iff_eq]; omega) : _ = false))) rfl rfl rfl rfl rfl ?_
 refine G.stepD (OD.pickF rfl rfl rfl) rfl rfl rfl ?_
 refine G.nil (GE.then_ (GC.condF rfl (GC.skip (GE.then_ (GC.seq (GC.region ?_))))))
 refine G.stepD (OD.loadAgg rfl ti27 rfl (i := 6) rfl (us := [.int .i64 (cr), v2]) rfl rfl) rfl rfl rfl ?_
 refine G.stepD (OD.move rfl rfl) rfl rfl rfl ?_
 refine G.step (OG.call [.agg #[.int .i64 (cr), v2], v4] ent21 rfl rfl rfl rfl (by exact (normalWord_w hs10 (Ent.ints (i := 7) rfl) hs12 (Ent.ints (i := 9) rfl) (hl0) (by omega) ((Ent.drop 11 hg))))) rfl rfl rfl ?_
 rintro v33 _ ⟨_, rfl, hs34, rfl⟩
 refine G.stepD (OD.len rfl rfl et22 rfl (Ent.ints (i := 0) rfl)) rfl rfl rfl ?_
 refine G.stepD (OD.assign rfl rfl) rfl rfl rfl ?_
 refine G.nil (GE.then_ (GC.seq (GC.region ?_)))
 refine G.stepD (OD.loadAgg rfl ti27 rfl (i := 7) rfl (us := [.int .i64 (cr), v2]) rfl rfl) rfl rfl rfl ?_
 refine G.stepD (OD.move rfl rfl) rfl rfl rfl ?_
 refine G.step (OG.call [.agg #[.int .i64 (cr), v2], .int .i64 (((nwOf cr cd u8).length : Nat))] ent36 rfl rfl rfl rfl (by exact (elementsOf_w hs10 (Ent.ints (i := 8) rfl) (hl0) ((Ent.drop 12 hg)) ((Ent.drop 12 htab))))) rfl rfl rfl ?_
 rintro v35 _ ⟨_, u36, rfl, hs37, hs38, hs39, rfl⟩
 refine G.stepD (OD.assign rfl rfl) rfl rfl rfl ?_
 refine G.nil (GE.then_ (GC.seq (GC.region ?_)))
 refine G.stepD (OD.assign rfl rfl) rfl rfl rfl ?_
 refine G.nil (GE.then_ (GC.seq (GC.seq (GC.region ?_))))
 refine G.stepD (OD.assign rfl rfl) rfl rfl rfl ?_
 refine G.nil (GE.then_ (GC.block ?_))
 refine GC.loop (ι := Nat × Bool) (fun ⟨i, f⟩ => [(3, .pointer (some ⟨g18, 0, none⟩)), (5, v4), (7, v19), (8, .int .i64 (((nwOf cr cd u8).length : Nat))), (9, v35), (10, .bool (f)), (11, .int .i64 ((i : Int)))]) (fun ⟨i, f⟩ => lst 22 v35 u36 :: many (ints 3) u36 (elOf cr cd ((nwOf cr cd u8).length : Nat)) :: ints 3 v33 (nwOf cr cd u8) :: lst 22 v28 u29 :: many (ints 3) u29 (ivL cr cd (lwOf cr cd)) :: ints 3 v26 (ivOf cr cd (lwOf cr cd)) :: lst 22 v21 u22 :: many (ints 3) u22 (prOfL cr cd) :: ints 3 v19 (lwOf cr cd) :: box g18 27 [.int .i64 (cr), v2] :: ints 3 v2 cd :: ints 3 v3 u7 :: ints 3 v4 u8 :: ints 3 v5 u9 :: own) (fun ⟨i, f⟩ => (i ≤ (elOf cr cd (((nwOf cr cd u8).length : Nat) : Int)).length) ∧ (f = ((elOf cr cd (((nwOf cr cd u8).length : Nat) : Int)).take i).any (fun q => samB q (nwOf cr cd u8)))) (fun ⟨i, f⟩ => (elOf cr cd (((nwOf cr cd u8).length : Nat) : Int)).length - i) (0, false) (⟨by omega, by simp⟩) ⟨rfl, rfl, rfl, rfl, rfl, rfl, rfl, trivial⟩ [] 0 rfl ?_
 rintro ⟨i, f⟩ ⟨hi, hf⟩
 refine GC.seq (GC.seq (GC.region ?_))
 refine G.stepD (OD.move rfl rfl) rfl rfl rfl ?_
 refine G.stepD (OD.move rfl rfl) rfl rfl rfl ?_
 refine G.stepD (OD.len rfl rfl et39 rfl (Ent.lst (i := 0) rfl)) rfl rfl rfl ?_
 refine G.stepD (OD.lss rfl rfl rfl) rfl rfl rfl ?_
 refine G.nil (GE.then_ ?_)
 refine GC.cond rfl (fun hc40 => ?_) (fun hc40 => ?_)
 replace hc40 := of_decide_eq_true hc40
 have hxm := getD_mem (L := (elOf cr cd (((nwOf cr cd u8).length : Nat) : Int))) (k := i) (by omega)
 obtain ⟨hxl, hxn⟩ := hL.el _ hxm
 have hxl2 : ((elOf cr cd (((nwOf cr cd u8).length : Nat) : Int)).getD ((i : Int)).toNat []).length = (nwOf cr cd u8).length := hxl
 have hxl3 : (nwOf cr cd ((elOf cr cd (((nwOf cr cd u8).length : Nat) : Int)).getD (i) [])).length = (nwOf cr cd u8).length := by rw [hxn]; exact hxl
 have hsx : samB (nwOf cr cd ((elOf cr cd (((nwOf cr cd u8).length : Nat) : Int)).getD (i) [])) ((elOf cr cd (((nwOf cr cd u8).length : Nat) : Int)).getD (i) []) = true := samB_of hxn
 refine GC.skip (GE.then_ (GC.seq (GC.block (GC.seq ?_))))
 rcases Bool.eq_false_or_eq_true (f) with hg41 | hg41
 refine GC.at [] 0 (env' := [(3, .pointer (some ⟨g18, 0, none⟩)), (5, v4), (7, v19), (8, .int .i64 (((nwOf cr cd u8).length : Nat))), (9, v35), (10, .bool (f)), (11, .int .i64 ((i : Int)))]) ⟨rfl, rfl, rfl, rfl, rfl, rfl, rfl, trivial⟩ rfl ?_
 refine GC.par (its := [⟨59, [], [], [], [], fun _ => .bool true, fun _ => True, fun _ => []⟩,
     ⟨60, [(0, 59)], [], [], [], fun _ => .bool true, fun _ => True, fun _ => []⟩,
     ⟨61, [(1, 60)], [], [], [], fun _ => undef, fun _ => True, fun _ => []⟩,
     ⟨62, [(1, 60)], [], [], [], fun _ => undef, fun _ => True, fun _ => []⟩,
     ⟨63, [(1, 60), (2, 61), (3, 62)], [], [], [], fun _ => undef, fun _ => True, fun _ => []⟩,
     ⟨64, [(1, 60), (4, 63)], [], [], [], fun _ => undef, fun _ => True, fun _ => []⟩,
     ⟨65, [(1, 60)], [], [], [], fun _ => undef, fun _ => True, fun _ => []⟩,
     ⟨66, [(1, 60)], [], [], [], fun _ => undef, fun _ => True, fun _ => []⟩,
     ⟨67, [(1, 60), (6, 65), (7, 66)], [], [], [], fun _ => undef, fun _ => True, fun _ => []⟩,
     ⟨68, [(1, 60), (5, 64), (8, 67)], [], [], [], fun _ => undef, fun _ => True, fun _ => []⟩,
     ⟨69, [(1, 60), (9, 68)], [], [], [], fun _ => .bool true, fun _ => True, fun _ => []⟩]) (by kernel_rfl) (by kernel_rfl) (POps.cons ?_ (POps.cons ?_ (POps.cons ?_ (POps.cons ?_ (POps.cons ?_ (POps.cons ?_ (POps.cons ?_ (POps.cons ?_ (POps.cons ?_ (POps.cons ?_ (POps.cons ?_ POps.nil))))))))))) ?_
 intro θ R hd
 exact Opp.plain (OG.imp (OD.move rfl rfl) (by rintro _ _ ⟨rfl, rfl⟩; exact ⟨[], congrArg Value.bool hg41, trivial, rfl⟩)) rfl
 rintro θ R ⟨h0d, _⟩
 exact Opp.plain (OG.imp (OD.move rfl rfl) (by exact fun _ _ h=>pk h rfl trivial rfl)) rfl
 rintro θ R ⟨h1d, _⟩
 exact Opp.off ⟨[], rfl, trivial, rfl⟩ rfl rfl rfl rfl
 rintro θ R ⟨h1d, _⟩
 exact Opp.off ⟨[], rfl, trivial, rfl⟩ rfl rfl rfl rfl
 rintro θ R ⟨h1d, h2d, h3d, _⟩
 exact Opp.off ⟨[], rfl, trivial, rfl⟩ rfl rfl rfl rfl
 rintro θ R ⟨h1d, h4d, _⟩
 exact Opp.off ⟨[], rfl, trivial, rfl⟩ rfl rfl rfl rfl
 rintro θ R ⟨h1d, _⟩
 exact Opp.off ⟨[], rfl, trivial, rfl⟩ rfl rfl rfl rfl
 rintro θ R ⟨h1d, _⟩
 exact Opp.off ⟨[], rfl, trivial, rfl⟩ rfl rfl rfl rfl
 rintro θ R ⟨h1d, h6d, h7d, _⟩
 exact Opp.off ⟨[], rfl, trivial, rfl⟩ rfl rfl rfl rfl
 rintro θ R ⟨h1d, h5d, h8d, _⟩
 exact Opp.off ⟨[], rfl, trivial, rfl⟩ rfl rfl rfl rfl
 rintro θ R ⟨h1d, h9d, _⟩
 exact Opp.plain (OG.imp (OD.pickT rfl rfl rfl) (by exact fun _ _ h=>pk h rfl trivial rfl)) rfl
 intro θ hall
 obtain ⟨_, _, _, _, _, _, _, _, _, _, _, _⟩ := hall
 refine G.at [] 0 (env' := [(3, .pointer (some ⟨g18, 0, none⟩)), (5, v4), (7, v19), (8, .int .i64 (((nwOf cr cd u8).length : Nat))), (9, v35), (10, .bool (f)), (11, .int .i64 ((i : Int))), (69, .bool true)]) ⟨rfl, rfl, rfl, rfl, rfl, rfl, rfl, rfl, trivial⟩ (own' := lst 22 v35 u36 :: many (ints 3) u36 (elOf cr cd ((nwOf cr cd u8).length : Nat)) :: ints 3 v33 (nwOf cr cd u8) :: lst 22 v28 u29 :: many (ints 3) u29 (ivL cr cd (lwOf cr cd)) :: ints 3 v26 (ivOf cr cd (lwOf cr cd)) :: lst 22 v21 u22 :: many (ints 3) u22 (prOfL cr cd) :: ints 3 v19 (lwOf cr cd) :: box g18 27 [.int .i64 (cr), v2] :: ints 3 v2 cd :: ints 3 v3 u7 :: ints 3 v4 u8 :: ints 3 v5 u9 :: own) rfl ?_
 show G _ _ _ [_] _ _ _ _
 refine G.stepD (OD.assign rfl rfl) rfl rfl rfl ?_
 refine G.nil (GE.then_ (GC.seq ?_))
 refine GC.at [] 0 (env' := [(3, .pointer (some ⟨g18, 0, none⟩)), (5, v4), (7, v19), (8, .int .i64 (((nwOf cr cd u8).length : Nat))), (9, v35), (11, .int .i64 ((i : Int))), (10, .bool true)]) ⟨rfl, rfl, rfl, rfl, rfl, rfl, rfl, trivial⟩ rfl ?_
 refine GC.par (its := [⟨70, [], [], [], [], fun _ => v35, fun _ => True, fun _ => []⟩,
     ⟨71, [], [], [], [], fun _ => .int .i64 ((i : Int)), fun _ => True, fun _ => []⟩,
     ⟨72, [(0, 70), (1, 71)], [], [], [], fun _ => elemPtr v35 1 (i), fun _ => True, fun _ => []⟩,
     ⟨73, [(2, 72)], [], [], [], fun _ => (u36.getD (i) undef), fun _ => True, fun _ => []⟩,
     ⟨74, [(3, 73)], [], [], [], fun _ => .int .i64 ((((elOf cr cd ((nwOf cr cd u8).length : Nat)).getD (i) []).length : Nat)), fun _ => True, fun _ => []⟩,
     ⟨75, [], [], [], [], fun _ => .int .i64 (((nwOf cr cd u8).length : Nat)), fun _ => True, fun _ => []⟩,
     ⟨76, [(4, 74), (5, 75)], [], [], [], fun _ => .bool false, fun _ => True, fun _ => []⟩,
     ⟨77, [(6, 76)], [], [], [], fun _ => .bool false, fun _ => True, fun _ => []⟩,
     ⟨78, [(7, 77)], [], [], [], fun _ => .agg #[.int .i64 (cr), v2], fun _ => True, fun _ => []⟩,
     ⟨79, [(7, 77)], [], [], [], fun _ => v35, fun _ => True, fun _ => []⟩,
     ⟨80, [(7, 77)], [], [], [], fun _ => .int .i64 ((i : Int)), fun _ => True, fun _ => []⟩,
     ⟨81, [(7, 77), (9, 79), (10, 80)], [], [], [], fun _ => elemPtr v35 1 (i), fun _ => True, fun _ => []⟩,
     ⟨82, [(7, 77), (11, 81)], [], [], [], fun _ => (u36.getD (i) undef), fun _ => True, fun _ => []⟩,
     ⟨83, [(7, 77), (8, 78), (12, 82)], [], [], [13], fun ds => ((ds.getD 0 []).getD 0 undef), fun ds => IsS ((ds.getD 0 []).getD 0 undef), fun ds => [ints 3 ((ds.getD 0 []).getD 0 undef) (nwOf cr cd ((elOf cr cd ((nwOf cr cd u8).length : Nat)).getD (i) []))]⟩,
     ⟨84, [(7, 77)], [], [], [], fun _ => v35, fun _ => True, fun _ => []⟩,
     ⟨85, [(7, 77)], [], [], [], fun _ => .int .i64 ((i : Int)), fun _ => True, fun _ => []⟩,
     ⟨86, [(7, 77), (14, 84), (15, 85)], [], [], [], fun _ => elemPtr v35 1 (i), fun _ => True, fun _ => []⟩,
     ⟨87, [(7, 77), (16, 86)], [], [], [], fun _ => (u36.getD (i) undef), fun _ => True, fun _ => []⟩,
     ⟨88, [(7, 77), (13, 83), (17, 87)], [13], [], [13], fun _ => .bool true, fun _ => True, fun _ => []⟩,
     ⟨89, [(7, 77), (18, 88)], [13], [], [13], fun _ => .bool false, fun _ => True, fun _ => []⟩,
     ⟨90, [(7, 77), (19, 89)], [13], [], [13], fun _ => .bool false, fun _ => True, fun _ => []⟩]) (by kernel_rfl) (by kernel_rfl) (POps.cons ?_ (POps.cons ?_ (POps.cons ?_ (POps.cons ?_ (POps.cons ?_ (POps.cons ?_ (POps.cons ?_ (POps.cons ?_ (POps.cons ?_ (POps.cons ?_ (POps.cons ?_ (POps.cons ?_ (POps.cons ?_ (POps.cons ?_ (POps.cons ?_ (POps.cons ?_ (POps.cons ?_ (POps.cons ?_ (POps.cons ?_ (POps.cons ?_ (POps.cons ?_ POps.nil))))))))))))))))))))) ?_
 intro θ R hd
 exact Opp.plain (OG.imp (OD.move rfl rfl) (by exact fun _ _ h=>pk h rfl trivial rfl)) rfl
 intro θ R hd
 exact Opp.plain (OG.imp (OD.move rfl rfl) (by exact fun _ _ h=>pk h rfl trivial rfl)) rfl
 rintro θ R ⟨h0d, h1d, _⟩
 exact Opp.plain (OG.imp (OD.indexAddr rfl et39 rfl (Ent.lst (i := 0) rfl) rfl (by omega)) (by exact fun _ _ h=>pk h rfl trivial rfl)) rfl
 rintro θ R ⟨h2d, _⟩
 exact Opp.plain (OG.imp (OD.loadElem rfl ti22 rfl (Ent.lst (i := 0) rfl) (by omega) rfl) (by exact fun _ _ h=>pk h rfl trivial rfl)) rfl
 rintro θ R ⟨h3d, _⟩
 exact Opp.plain (OG.imp (OD.len rfl rfl et22 rfl (Ent.manyInts (i := 1) rfl ⟨by first | omega | (simp; omega), by first | omega | (simp; omega)⟩)) (by exact fun _ _ h=>pk h rfl trivial rfl)) rfl
 intro θ R hd
 exact Opp.plain (OG.imp (OD.move rfl rfl) (by exact fun _ _ h=>pk h rfl trivial rfl)) rfl
 rintro θ R ⟨h4d, h5d, _⟩
 exact Opp.plain (OG.imp (OD.eqv (OD.neq rfl rfl rfl) (congrArg Value.bool ((by rw [bne_eq_false_iff_eq]; omega) : _ = false))) (by exact fun _ _ h=>pk h rfl trivial rfl)) rfl
 rintro θ R ⟨h6d, _⟩
 exact Opp.plain (OG.imp (OD.move rfl rfl) (by exact fun _ _ h=>pk h rfl trivial rfl)) rfl
 rintro θ R ⟨h7d, _⟩
 exact Opp.on (OG.imp (OD.loadAgg rfl ti27 rfl (i := 9) rfl (us := [.int .i64 (cr), v2]) rfl rfl) (by exact fun _ _ h=>pk h rfl trivial rfl)) rfl rfl rfl
 rintro θ R ⟨h7d, _⟩
 exact Opp.on (OG.imp (OD.move rfl rfl) (by exact fun _ _ h=>pk h rfl trivial rfl)) rfl rfl rfl
 rintro θ R ⟨h7d, _⟩
 exact Opp.on (OG.imp (OD.move rfl rfl) (by exact fun _ _ h=>pk h rfl trivial rfl)) rfl rfl rfl
 rintro θ R ⟨h7d, h9d, h10d, _⟩
 exact Opp.on (OG.imp (OD.indexAddr rfl et39 rfl (Ent.lst (i := 0) rfl) rfl (by omega)) (by exact fun _ _ h=>pk h rfl trivial rfl)) rfl rfl rfl
 rintro θ R ⟨h7d, h11d, _⟩
 exact Opp.on (OG.imp (OD.loadElem rfl ti22 rfl (Ent.lst (i := 0) rfl) (by omega) rfl) (by exact fun _ _ h=>pk h rfl trivial rfl)) rfl rfl rfl
 rintro θ R ⟨h7d, h8d, h12d, _⟩
 exact Opp.on (OG.imp (OG.call [.agg #[.int .i64 (cr), v2], (u36.getD (i) undef)] ent21 rfl rfl rfl rfl (by exact (normalWord_w hs10 (Ent.ints (i := 10) rfl) (hs38.get (by omega)) (Ent.manyInts (i := 1) rfl ⟨by first | omega | (simp; omega), by first | omega | (simp; omega)⟩) (hl0) (by omega) ((Ent.drop 14 hg.app))))) (by rintro v42 _ ⟨_, rfl, hs43, rfl⟩; exact ⟨[v42], rfl, hs43, rfl⟩)) rfl rfl rfl
 rintro θ R ⟨h7d, _⟩
 exact Opp.on (OG.imp (OD.move rfl rfl) (by exact fun _ _ h=>pk h rfl trivial rfl)) rfl rfl rfl
 rintro θ R ⟨h7d, _⟩
 exact Opp.on (OG.imp (OD.move rfl rfl) (by exact fun _ _ h=>pk h rfl trivial rfl)) rfl rfl rfl
 rintro θ R ⟨h7d, h14d, h15d, _⟩
 exact Opp.on (OG.imp (OD.indexAddr rfl et39 rfl (Ent.lst (i := 0) rfl) rfl (by omega)) (by exact fun _ _ h=>pk h rfl trivial rfl)) rfl rfl rfl
 rintro θ R ⟨h7d, h16d, _⟩
 exact Opp.on (OG.imp (OD.loadElem rfl ti22 rfl (Ent.lst (i := 0) rfl) (by omega) rfl) (by exact fun _ _ h=>pk h rfl trivial rfl)) rfl rfl rfl
 rintro θ R ⟨h7d, h13d, h17d, _⟩
 exact Opp.on (OG.imp (OG.imp (K' := fun v ow => v = .bool true ∧ ow = ints 3 ((θ 13).getD 0 undef) (nwOf cr cd ((elOf cr cd ((nwOf cr cd u8).length : Nat)).getD (i) [])) :: lst 22 v35 u36 :: many (ints 3) u36 (elOf cr cd ((nwOf cr cd u8).length : Nat)) :: ints 3 v33 (nwOf cr cd u8) :: lst 22 v28 u29 :: many (ints 3) u29 (ivL cr cd (lwOf cr cd)) :: ints 3 v26 (ivOf cr cd (lwOf cr cd)) :: lst 22 v21 u22 :: many (ints 3) u22 (prOfL cr cd) :: ints 3 v19 (lwOf cr cd) :: box g18 27 [.int .i64 (cr), v2] :: ints 3 v2 cd :: ints 3 v3 u7 :: ints 3 v4 u8 :: ints 3 v5 u9 :: own ++ R) (OG.call [((θ 13).getD 0 undef), (u36.getD (i) undef)] ent25 rfl rfl rfl rfl (by exact (lawsInts_s h13d (Ent.ints (i := 0) rfl) (hs38.get (by omega)) (Ent.manyInts (i := 2) rfl ⟨by first | omega | (simp; omega), by first | omega | (simp; omega)⟩) (by omega)))) (by rintro _ _ ⟨rfl, rfl⟩; exact ⟨congrArg Value.bool (hsx), rfl⟩)) (by rintro _ _ ⟨rfl, rfl⟩; exact ⟨[], rfl, trivial, (by first | exact left_all | rfl)⟩)) rfl rfl rfl
 rintro θ R ⟨h7d, h18d, _⟩
 exact Opp.on (OG.imp (OD.not rfl rfl) (by rintro _ _ ⟨rfl, rfl⟩; exact ⟨[], rfl, trivial, (by first | exact left_all | rfl)⟩)) rfl rfl rfl
 rintro θ R ⟨h7d, h19d, _⟩
 exact Opp.plain (OG.imp (OD.pickF rfl rfl rfl) (by rintro _ _ ⟨rfl, rfl⟩; exact ⟨[], rfl, trivial, (by first | exact left_all | rfl)⟩)) rfl
 intro θ hall
 obtain ⟨_, _, _, _, _, _, _, _, _, _, _, _, _, h13a, _, _, _, _, _, _, _, _⟩ := hall
 refine G.at [] 0 (env' := [(3, .pointer (some ⟨g18, 0, none⟩)), (5, v4), (7, v19), (8, .int .i64 (((nwOf cr cd u8).length : Nat))), (9, v35), (11, .int .i64 ((i : Int))), (10, .bool true), (90, .bool false)]) ⟨rfl, rfl, rfl, rfl, rfl, rfl, rfl, rfl, trivial⟩ (own' := ints 3 ((θ 13).getD 0 undef) (nwOf cr cd ((elOf cr cd ((nwOf cr cd u8).length : Nat)).getD (i) [])) :: lst 22 v35 u36 :: many (ints 3) u36 (elOf cr cd ((nwOf cr cd u8).length : Nat)) :: ints 3 v33 (nwOf cr cd u8) :: lst 22 v28 u29 :: many (ints 3) u29 (ivL cr cd (lwOf cr cd)) :: ints 3 v26 (ivOf cr cd (lwOf cr cd)) :: lst 22 v21 u22 :: many (ints 3) u22 (prOfL cr cd) :: ints 3 v19 (lwOf cr cd) :: box g18 27 [.int .i64 (cr), v2] :: ints 3 v2 cd :: ints 3 v3 u7 :: ints 3 v4 u8 :: ints 3 v5 u9 :: own) rfl ?_
 have hs44 : IsS ((θ 13).getD 0 undef) := h13a
 clear h13a
 generalize ((θ 13).getD 0 undef) = v45 at *
 show G _ _ _ [] _ _ _ _
 refine G.nil (GE.then_ (GC.condF rfl (GC.skip (GE.blockN (GE.then_ (GC.region ?_))))))
 refine G.stepD (OD.move rfl rfl) rfl rfl rfl ?_
 refine G.stepD (OD.addI rfl rfl rfl (by omega)) rfl rfl rfl ?_
 refine G.stepD (OD.assign rfl rfl) rfl rfl rfl ?_
 refine G.nil ?_
 exact GE.again (i + 1, (true)) (⟨by omega, anyF_true hf (by assumption)⟩) (by first | omega | (dsimp only; omega)) ⟨rfl, rfl, rfl, rfl, rfl, rfl, rfl, trivial⟩ [1, 1, 1, 1, 1, 1, 1, 1, 1, 1, 1, 1, 1, 1] 1 rfl
 refine GC.at [] 0 (env' := [(3, .pointer (some ⟨g18, 0, none⟩)), (5, v4), (7, v19), (8, .int .i64 (((nwOf cr cd u8).length : Nat))), (9, v35), (10, .bool (f)), (11, .int .i64 ((i : Int)))]) ⟨rfl, rfl, rfl, rfl, rfl, rfl, rfl, trivial⟩ rfl ?_
 refine GC.par (its := [⟨59, [], [], [], [], fun _ => .bool false, fun _ => True, fun _ => []⟩,
     ⟨60, [(0, 59)], [], [], [], fun _ => .bool false, fun _ => True, fun _ => []⟩,
     ⟨61, [(1, 60)], [], [], [], fun _ => v35, fun _ => True, fun _ => []⟩,
     ⟨62, [(1, 60)], [], [], [], fun _ => .int .i64 ((i : Int)), fun _ => True, fun _ => []⟩,
     ⟨63, [(1, 60), (2, 61), (3, 62)], [], [], [], fun _ => elemPtr v35 1 (i), fun _ => True, fun _ => []⟩,
     ⟨64, [(1, 60), (4, 63)], [], [], [], fun _ => (u36.getD (i) undef), fun _ => True, fun _ => []⟩,
     ⟨65, [(1, 60)], [], [], [], fun _ => .agg #[.int .i64 (cr), v2], fun _ => True, fun _ => []⟩,
     ⟨66, [(1, 60)], [], [], [], fun _ => v4, fun _ => True, fun _ => []⟩,
     ⟨67, [(1, 60), (6, 65), (7, 66)], [], [], [8], fun ds => ((ds.getD 0 []).getD 0 undef), fun ds => IsS ((ds.getD 0 []).getD 0 undef), fun ds => [ints 3 ((ds.getD 0 []).getD 0 undef) (nwOf cr cd u8)]⟩,
     ⟨68, [(1, 60), (5, 64), (8, 67)], [8], [], [8], fun _ => .bool (samB ((elOf cr cd ((nwOf cr cd u8).length : Nat)).getD (i) []) (nwOf cr cd u8)), fun _ => True, fun _ => []⟩,
     ⟨69, [(1, 60), (9, 68)], [8], [], [8], fun _ => .bool (samB ((elOf cr cd ((nwOf cr cd u8).length : Nat)).getD (i) []) (nwOf cr cd u8)), fun _ => True, fun _ => []⟩]) (by kernel_rfl) (by kernel_rfl) (POps.cons ?_ (POps.cons ?_ (POps.cons ?_ (POps.cons ?_ (POps.cons ?_ (POps.cons ?_ (POps.cons ?_ (POps.cons ?_ (POps.cons ?_ (POps.cons ?_ (POps.cons ?_ POps.nil))))))))))) ?_
 intro θ R hd
 exact Opp.plain (OG.imp (OD.move rfl rfl) (by rintro _ _ ⟨rfl, rfl⟩; exact ⟨[], congrArg Value.bool hg41, trivial, rfl⟩)) rfl
 rintro θ R ⟨h0d, _⟩
 exact Opp.plain (OG.imp (OD.move rfl rfl) (by exact fun _ _ h=>pk h rfl trivial rfl)) rfl
 rintro θ R ⟨h1d, _⟩
 exact Opp.on (OG.imp (OD.move rfl rfl) (by exact fun _ _ h=>pk h rfl trivial rfl)) rfl rfl rfl
 rintro θ R ⟨h1d, _⟩
 exact Opp.on (OG.imp (OD.move rfl rfl) (by exact fun _ _ h=>pk h rfl trivial rfl)) rfl rfl rfl
 rintro θ R ⟨h1d, h2d, h3d, _⟩
 exact Opp.on (OG.imp (OD.indexAddr rfl et39 rfl (Ent.lst (i := 0) rfl) rfl (by omega)) (by exact fun _ _ h=>pk h rfl trivial rfl)) rfl rfl rfl
 rintro θ R ⟨h1d, h4d, _⟩
 exact Opp.on (OG.imp (OD.loadElem rfl ti22 rfl (Ent.lst (i := 0) rfl) (by omega) rfl) (by exact fun _ _ h=>pk h rfl trivial rfl)) rfl rfl rfl
 rintro θ R ⟨h1d, _⟩
 exact Opp.on (OG.imp (OD.loadAgg rfl ti27 rfl (i := 9) rfl (us := [.int .i64 (cr), v2]) rfl rfl) (by exact fun _ _ h=>pk h rfl trivial rfl)) rfl rfl rfl
 rintro θ R ⟨h1d, _⟩
 exact Opp.on (OG.imp (OD.move rfl rfl) (by exact fun _ _ h=>pk h rfl trivial rfl)) rfl rfl rfl
 rintro θ R ⟨h1d, h6d, h7d, _⟩
 exact Opp.on (OG.imp (OG.call [.agg #[.int .i64 (cr), v2], v4] ent21 rfl rfl rfl rfl (by exact (normalWord_w hs10 (Ent.ints (i := 10) rfl) hs12 (Ent.ints (i := 12) rfl) (hl0) (by omega) ((Ent.drop 14 hg.app))))) (by rintro v46 _ ⟨_, rfl, hs47, rfl⟩; exact ⟨[v46], rfl, hs47, rfl⟩)) rfl rfl rfl
 rintro θ R ⟨h1d, h5d, h8d, _⟩
 exact Opp.on (OG.imp (OG.call [(u36.getD (i) undef), ((θ 8).getD 0 undef)] ent25 rfl rfl rfl rfl (by exact (lawsInts_s (hs38.get (by omega)) (Ent.manyInts (i := 2) rfl ⟨by first | omega | (simp; omega), by first | omega | (simp; omega)⟩) h8d (Ent.ints (i := 0) rfl) (by omega)))) (by rintro _ _ ⟨rfl, rfl⟩; exact ⟨[], rfl, trivial, (by first | exact left_all | rfl)⟩)) rfl rfl rfl
 rintro θ R ⟨h1d, h9d, _⟩
 exact Opp.plain (OG.imp (OD.pickF rfl rfl rfl) (by rintro _ _ ⟨rfl, rfl⟩; exact ⟨[], rfl, trivial, (by first | exact left_all | rfl)⟩)) rfl
 intro θ hall
 obtain ⟨_, _, _, _, _, _, _, _, h8a, _, _, _⟩ := hall
 refine G.at [] 0 (env' := [(3, .pointer (some ⟨g18, 0, none⟩)), (5, v4), (7, v19), (8, .int .i64 (((nwOf cr cd u8).length : Nat))), (9, v35), (10, .bool (f)), (11, .int .i64 ((i : Int))), (69, .bool (samB ((elOf cr cd ((nwOf cr cd u8).length : Nat)).getD (i) []) (nwOf cr cd u8)))]) ⟨rfl, rfl, rfl, rfl, rfl, rfl, rfl, rfl, trivial⟩ (own' := ints 3 ((θ 8).getD 0 undef) (nwOf cr cd u8) :: lst 22 v35 u36 :: many (ints 3) u36 (elOf cr cd ((nwOf cr cd u8).length : Nat)) :: ints 3 v33 (nwOf cr cd u8) :: lst 22 v28 u29 :: many (ints 3) u29 (ivL cr cd (lwOf cr cd)) :: ints 3 v26 (ivOf cr cd (lwOf cr cd)) :: lst 22 v21 u22 :: many (ints 3) u22 (prOfL cr cd) :: ints 3 v19 (lwOf cr cd) :: box g18 27 [.int .i64 (cr), v2] :: ints 3 v2 cd :: ints 3 v3 u7 :: ints 3 v4 u8 :: ints 3 v5 u9 :: own) rfl ?_
 have hs48 : IsS ((θ 8).getD 0 undef) := h8a
 clear h8a
 generalize ((θ 8).getD 0 undef) = v49 at *
 show G _ _ _ [_] _ _ _ _
 refine G.stepD (OD.assign rfl rfl) rfl rfl rfl ?_
 refine G.nil (GE.then_ (GC.seq ?_))
 refine GC.at [] 0 (env' := [(3, .pointer (some ⟨g18, 0, none⟩)), (5, v4), (7, v19), (8, .int .i64 (((nwOf cr cd u8).length : Nat))), (9, v35), (11, .int .i64 ((i : Int))), (10, .bool (samB ((elOf cr cd ((nwOf cr cd u8).length : Nat)).getD (i) []) (nwOf cr cd u8)))]) ⟨rfl, rfl, rfl, rfl, rfl, rfl, rfl, trivial⟩ rfl ?_
 refine GC.par (its := [⟨70, [], [], [], [], fun _ => v35, fun _ => True, fun _ => []⟩,
     ⟨71, [], [], [], [], fun _ => .int .i64 ((i : Int)), fun _ => True, fun _ => []⟩,
     ⟨72, [(0, 70), (1, 71)], [], [], [], fun _ => elemPtr v35 1 (i), fun _ => True, fun _ => []⟩,
     ⟨73, [(2, 72)], [], [], [], fun _ => (u36.getD (i) undef), fun _ => True, fun _ => []⟩,
     ⟨74, [(3, 73)], [], [], [], fun _ => .int .i64 ((((elOf cr cd ((nwOf cr cd u8).length : Nat)).getD (i) []).length : Nat)), fun _ => True, fun _ => []⟩,
     ⟨75, [], [], [], [], fun _ => .int .i64 (((nwOf cr cd u8).length : Nat)), fun _ => True, fun _ => []⟩,
     ⟨76, [(4, 74), (5, 75)], [], [], [], fun _ => .bool false, fun _ => True, fun _ => []⟩,
     ⟨77, [(6, 76)], [], [], [], fun _ => .bool false, fun _ => True, fun _ => []⟩,
     ⟨78, [(7, 77)], [], [], [], fun _ => .agg #[.int .i64 (cr), v2], fun _ => True, fun _ => []⟩,
     ⟨79, [(7, 77)], [], [], [], fun _ => v35, fun _ => True, fun _ => []⟩,
     ⟨80, [(7, 77)], [], [], [], fun _ => .int .i64 ((i : Int)), fun _ => True, fun _ => []⟩,
     ⟨81, [(7, 77), (9, 79), (10, 80)], [], [], [], fun _ => elemPtr v35 1 (i), fun _ => True, fun _ => []⟩,
     ⟨82, [(7, 77), (11, 81)], [], [], [], fun _ => (u36.getD (i) undef), fun _ => True, fun _ => []⟩,
     ⟨83, [(7, 77), (8, 78), (12, 82)], [], [], [13], fun ds => ((ds.getD 0 []).getD 0 undef), fun ds => IsS ((ds.getD 0 []).getD 0 undef), fun ds => [ints 3 ((ds.getD 0 []).getD 0 undef) (nwOf cr cd ((elOf cr cd ((nwOf cr cd u8).length : Nat)).getD (i) []))]⟩,
     ⟨84, [(7, 77)], [], [], [], fun _ => v35, fun _ => True, fun _ => []⟩,
     ⟨85, [(7, 77)], [], [], [], fun _ => .int .i64 ((i : Int)), fun _ => True, fun _ => []⟩,
     ⟨86, [(7, 77), (14, 84), (15, 85)], [], [], [], fun _ => elemPtr v35 1 (i), fun _ => True, fun _ => []⟩,
     ⟨87, [(7, 77), (16, 86)], [], [], [], fun _ => (u36.getD (i) undef), fun _ => True, fun _ => []⟩,
     ⟨88, [(7, 77), (13, 83), (17, 87)], [13], [], [13], fun _ => .bool true, fun _ => True, fun _ => []⟩,
     ⟨89, [(7, 77), (18, 88)], [13], [], [13], fun _ => .bool false, fun _ => True, fun _ => []⟩,
     ⟨90, [(7, 77), (19, 89)], [13], [], [13], fun _ => .bool false, fun _ => True, fun _ => []⟩]) (by kernel_rfl) (by kernel_rfl) (POps.cons ?_ (POps.cons ?_ (POps.cons ?_ (POps.cons ?_ (POps.cons ?_ (POps.cons ?_ (POps.cons ?_ (POps.cons ?_ (POps.cons ?_ (POps.cons ?_ (POps.cons ?_ (POps.cons ?_ (POps.cons ?_ (POps.cons ?_ (POps.cons ?_ (POps.cons ?_ (POps.cons ?_ (POps.cons ?_ (POps.cons ?_ (POps.cons ?_ (POps.cons ?_ POps.nil))))))))))))))))))))) ?_
 intro θ R hd
 exact Opp.plain (OG.imp (OD.move rfl rfl) (by exact fun _ _ h=>pk h rfl trivial rfl)) rfl
 intro θ R hd
 exact Opp.plain (OG.imp (OD.move rfl rfl) (by exact fun _ _ h=>pk h rfl trivial rfl)) rfl
 rintro θ R ⟨h0d, h1d, _⟩
 exact Opp.plain (OG.imp (OD.indexAddr rfl et39 rfl (Ent.lst (i := 1) rfl) rfl (by omega)) (by exact fun _ _ h=>pk h rfl trivial rfl)) rfl
 rintro θ R ⟨h2d, _⟩
 exact Opp.plain (OG.imp (OD.loadElem rfl ti22 rfl (Ent.lst (i := 1) rfl) (by omega) rfl) (by exact fun _ _ h=>pk h rfl trivial rfl)) rfl
 rintro θ R ⟨h3d, _⟩
 exact Opp.plain (OG.imp (OD.len rfl rfl et22 rfl (Ent.manyInts (i := 2) rfl ⟨by first | omega | (simp; omega), by first | omega | (simp; omega)⟩)) (by exact fun _ _ h=>pk h rfl trivial rfl)) rfl
 intro θ R hd
 exact Opp.plain (OG.imp (OD.move rfl rfl) (by exact fun _ _ h=>pk h rfl trivial rfl)) rfl
 rintro θ R ⟨h4d, h5d, _⟩
 exact Opp.plain (OG.imp (OD.eqv (OD.neq rfl rfl rfl) (congrArg Value.bool ((by rw [bne_eq_false_iff_eq]; omega) : _ = false))) (by exact fun _ _ h=>pk h rfl trivial rfl)) rfl
 rintro θ R ⟨h6d, _⟩
 exact Opp.plain (OG.imp (OD.move rfl rfl) (by exact fun _ _ h=>pk h rfl trivial rfl)) rfl
 rintro θ R ⟨h7d, _⟩
 exact Opp.on (OG.imp (OD.loadAgg rfl ti27 rfl (i := 10) rfl (us := [.int .i64 (cr), v2]) rfl rfl) (by exact fun _ _ h=>pk h rfl trivial rfl)) rfl rfl rfl
 rintro θ R ⟨h7d, _⟩
 exact Opp.on (OG.imp (OD.move rfl rfl) (by exact fun _ _ h=>pk h rfl trivial rfl)) rfl rfl rfl
 rintro θ R ⟨h7d, _⟩
 exact Opp.on (OG.imp (OD.move rfl rfl) (by exact fun _ _ h=>pk h rfl trivial rfl)) rfl rfl rfl
 rintro θ R ⟨h7d, h9d, h10d, _⟩
 exact Opp.on (OG.imp (OD.indexAddr rfl et39 rfl (Ent.lst (i := 1) rfl) rfl (by omega)) (by exact fun _ _ h=>pk h rfl trivial rfl)) rfl rfl rfl
 rintro θ R ⟨h7d, h11d, _⟩
 exact Opp.on (OG.imp (OD.loadElem rfl ti22 rfl (Ent.lst (i := 1) rfl) (by omega) rfl) (by exact fun _ _ h=>pk h rfl trivial rfl)) rfl rfl rfl
 rintro θ R ⟨h7d, h8d, h12d, _⟩
 exact Opp.on (OG.imp (OG.call [.agg #[.int .i64 (cr), v2], (u36.getD (i) undef)] ent21 rfl rfl rfl rfl (by exact (normalWord_w hs10 (Ent.ints (i := 11) rfl) (hs38.get (by omega)) (Ent.manyInts (i := 2) rfl ⟨by first | omega | (simp; omega), by first | omega | (simp; omega)⟩) (hl0) (by omega) ((Ent.drop 15 hg.app))))) (by rintro v50 _ ⟨_, rfl, hs51, rfl⟩; exact ⟨[v50], rfl, hs51, rfl⟩)) rfl rfl rfl
 rintro θ R ⟨h7d, _⟩
 exact Opp.on (OG.imp (OD.move rfl rfl) (by exact fun _ _ h=>pk h rfl trivial rfl)) rfl rfl rfl
 rintro θ R ⟨h7d, _⟩
 exact Opp.on (OG.imp (OD.move rfl rfl) (by exact fun _ _ h=>pk h rfl trivial rfl)) rfl rfl rfl
 rintro θ R ⟨h7d, h14d, h15d, _⟩
 exact Opp.on (OG.imp (OD.indexAddr rfl et39 rfl (Ent.lst (i := 1) rfl) rfl (by omega)) (by exact fun _ _ h=>pk h rfl trivial rfl)) rfl rfl rfl
 rintro θ R ⟨h7d, h16d, _⟩
 exact Opp.on (OG.imp (OD.loadElem rfl ti22 rfl (Ent.lst (i := 1) rfl) (by omega) rfl) (by exact fun _ _ h=>pk h rfl trivial rfl)) rfl rfl rfl
 rintro θ R ⟨h7d, h13d, h17d, _⟩
 exact Opp.on (OG.imp (OG.imp (K' := fun v ow => v = .bool true ∧ ow = ints 3 ((θ 13).getD 0 undef) (nwOf cr cd ((elOf cr cd ((nwOf cr cd u8).length : Nat)).getD (i) [])) :: ints 3 v49 (nwOf cr cd u8) :: lst 22 v35 u36 :: many (ints 3) u36 (elOf cr cd ((nwOf cr cd u8).length : Nat)) :: ints 3 v33 (nwOf cr cd u8) :: lst 22 v28 u29 :: many (ints 3) u29 (ivL cr cd (lwOf cr cd)) :: ints 3 v26 (ivOf cr cd (lwOf cr cd)) :: lst 22 v21 u22 :: many (ints 3) u22 (prOfL cr cd) :: ints 3 v19 (lwOf cr cd) :: box g18 27 [.int .i64 (cr), v2] :: ints 3 v2 cd :: ints 3 v3 u7 :: ints 3 v4 u8 :: ints 3 v5 u9 :: own ++ R) (OG.call [((θ 13).getD 0 undef), (u36.getD (i) undef)] ent25 rfl rfl rfl rfl (by exact (lawsInts_s h13d (Ent.ints (i := 0) rfl) (hs38.get (by omega)) (Ent.manyInts (i := 3) rfl ⟨by first | omega | (simp; omega), by first | omega | (simp; omega)⟩) (by omega)))) (by rintro _ _ ⟨rfl, rfl⟩; exact ⟨congrArg Value.bool (hsx), rfl⟩)) (by rintro _ _ ⟨rfl, rfl⟩; exact ⟨[], rfl, trivial, (by first | exact left_all | rfl)⟩)) rfl rfl rfl
 rintro θ R ⟨h7d, h18d, _⟩
 exact Opp.on (OG.imp (OD.not rfl rfl) (by rintro _ _ ⟨rfl, rfl⟩; exact ⟨[], rfl, trivial, (by first | exact left_all | rfl)⟩)) rfl rfl rfl
 rintro θ R ⟨h7d, h19d, _⟩
 exact Opp.plain (OG.imp (OD.pickF rfl rfl rfl) (by rintro _ _ ⟨rfl, rfl⟩; exact ⟨[], rfl, trivial, (by first | exact left_all | rfl)⟩)) rfl
 intro θ hall
 obtain ⟨_, _, _, _, _, _, _, _, _, _, _, _, _, h13a, _, _, _, _, _, _, _, _⟩ := hall
 refine G.at [] 0 (env' := [(3, .pointer (some ⟨g18, 0, none⟩)), (5, v4), (7, v19), (8, .int .i64 (((nwOf cr cd u8).length : Nat))), (9, v35), (11, .int .i64 ((i : Int))), (10, .bool (samB ((elOf cr cd ((nwOf cr cd u8).length : Nat)).getD (i) []) (nwOf cr cd u8))), (90, .bool false)]) ⟨rfl, rfl, rfl, rfl, rfl, rfl, rfl, rfl, trivial⟩ (own' := ints 3 ((θ 13).getD 0 undef) (nwOf cr cd ((elOf cr cd ((nwOf cr cd u8).length : Nat)).getD (i) [])) :: ints 3 v49 (nwOf cr cd u8) :: lst 22 v35 u36 :: many (ints 3) u36 (elOf cr cd ((nwOf cr cd u8).length : Nat)) :: ints 3 v33 (nwOf cr cd u8) :: lst 22 v28 u29 :: many (ints 3) u29 (ivL cr cd (lwOf cr cd)) :: ints 3 v26 (ivOf cr cd (lwOf cr cd)) :: lst 22 v21 u22 :: many (ints 3) u22 (prOfL cr cd) :: ints 3 v19 (lwOf cr cd) :: box g18 27 [.int .i64 (cr), v2] :: ints 3 v2 cd :: ints 3 v3 u7 :: ints 3 v4 u8 :: ints 3 v5 u9 :: own) rfl ?_
 have hs52 : IsS ((θ 13).getD 0 undef) := h13a
 clear h13a
 generalize ((θ 13).getD 0 undef) = v53 at *
 show G _ _ _ [] _ _ _ _
 refine G.nil (GE.then_ (GC.condF rfl (GC.skip (GE.blockN (GE.then_ (GC.region ?_))))))
 refine G.stepD (OD.move rfl rfl) rfl rfl rfl ?_
 refine G.stepD (OD.addI rfl rfl rfl (by omega)) rfl rfl rfl ?_
 refine G.stepD (OD.assign rfl rfl) rfl rfl rfl ?_
 refine G.nil ?_
 exact GE.again (i + 1, (samB ((elOf cr cd ((nwOf cr cd u8).length : Nat)).getD (i) []) (nwOf cr cd u8))) (⟨by omega, anyF_false (by omega) hf (by assumption)⟩) (by first | omega | (dsimp only; omega)) ⟨rfl, rfl, rfl, rfl, rfl, rfl, rfl, trivial⟩ [2, 2, 2, 2, 2, 2, 2, 2, 2, 2, 2, 2, 2, 2] 2 rfl
 replace hc40 := of_decide_eq_false hc40
 have hft : f = true := anyF_all (by omega) hf hL.mem
 refine GC.exit (GE.pass (GE.pass (GE.hit (GE.then_ (GC.seq (GC.region ?_))))))
 refine G.stepD (OD.eqv (OD.move rfl rfl) (congrArg Value.bool hft)) rfl rfl rfl ?_
 refine G.stepD (OD.move rfl rfl) rfl rfl rfl ?_
 refine G.stepGD (OD.move rfl rfl) rfl rfl rfl rfl rfl ?_
 refine G.stepGD (OD.len rfl rfl et39 rfl (Ent.lst (i := 0) rfl)) rfl rfl rfl rfl rfl ?_
 refine G.stepGD (OD.loadAgg rfl ti27 rfl (i := 9) rfl (us := [.int .i64 (cr), v2]) rfl rfl) rfl rfl rfl rfl rfl ?_
 refine G.stepG (OG.call [.agg #[.int .i64 (cr), v2]] ent37 rfl rfl rfl rfl (by exact (lengthCounts_w hs10 (Ent.ints (i := 10) rfl) (hl0) ((Ent.drop 14 hg)) ((Ent.drop 14 htab))))) rfl rfl rfl rfl rfl ?_
 rintro v54 _ ⟨_, rfl, hs55, rfl⟩
 refine G.stepGD (OD.move rfl rfl) rfl rfl rfl rfl rfl ?_
 refine G.stepGD (OD.indexAddr rfl et22 rfl (Ent.ints (i := 0) rfl) rfl (by omega)) rfl rfl rfl rfl rfl ?_
 refine G.stepGD (OD.loadInt rfl ti3 rfl (Ent.ints (i := 0) rfl) (by omega)) rfl rfl rfl rfl rfl ?_
 refine G.stepGD (OD.eqv (OD.eql rfl rfl rfl) (congrArg Value.bool ((beq_iff_eq.2 (by omega)) : _ = true))) rfl rfl rfl rfl rfl ?_
 refine G.stepD (OD.pickT rfl rfl rfl) rfl rfl rfl ?_
 refine G.stepD (OD.move rfl rfl) rfl rfl rfl ?_
 refine G.stepGD (OD.loadAgg rfl ti27 rfl (i := 10) rfl (us := [.int .i64 (cr), v2]) rfl rfl) rfl rfl rfl rfl rfl ?_
 refine G.stepGD (OD.move rfl rfl) rfl rfl rfl rfl rfl ?_
 refine G.stepGD (OD.move rfl rfl) rfl rfl rfl rfl rfl ?_
 refine G.stepG (OG.imp (K' := fun v ow => v = .bool true ∧ ow = ints 3 v54 (lcOf cr cd) :: lst 22 v35 u36 :: many (ints 3) u36 (elOf cr cd ((nwOf cr cd u8).length : Nat)) :: ints 3 v33 (nwOf cr cd u8) :: lst 22 v28 u29 :: many (ints 3) u29 (ivL cr cd (lwOf cr cd)) :: ints 3 v26 (ivOf cr cd (lwOf cr cd)) :: lst 22 v21 u22 :: many (ints 3) u22 (prOfL cr cd) :: ints 3 v19 (lwOf cr cd) :: box g18 27 [.int .i64 (cr), v2] :: ints 3 v2 cd :: ints 3 v3 u7 :: ints 3 v4 u8 :: ints 3 v5 u9 :: own) (OG.call [.agg #[.int .i64 (cr), v2], v4, v19] ent16 rfl rfl rfl rfl (by exact (isBelow_w hs10 (Ent.ints (i := 11) rfl) hs12 (Ent.ints (i := 13) rfl) hs20 (Ent.ints (i := 9) rfl) (hl0) (by omega) (by omega) ((Ent.drop 15 hg)) ((Ent.drop 15 htab))))) (by rintro _ _ ⟨rfl, rfl⟩; exact ⟨congrArg Value.bool (hbe), rfl⟩)) rfl rfl rfl rfl rfl ?_
 rintro _ _ ⟨rfl, rfl⟩
 refine G.stepD (OD.pickT rfl rfl rfl) rfl rfl rfl ?_
 refine G.stepD (OD.assign rfl rfl) rfl rfl rfl ?_
 refine G.nil (GE.then_ (GC.ret ?_))
 exact GE.body [] 15 (res1 rfl rfl) rfl (⟨rfl, rfl⟩)
end Go.Proofs.YtgelkakjmbiibaaGreatDoor
