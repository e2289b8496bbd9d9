/-
  The law on exponents.
-/
import Derived.Test.YtgelkakjmbiibaaGreatDoorFct
import Derived.Test.YtgelkakjmbiibaaGreatDoorWTyp
import Derived.Test.YtgelkakjmbiibaaGreatDoorWExp
import Derived.Test.YtgelkakjmbiibaaGreatDoorZ15
import Derived.Test.YtgelkakjmbiibaaGreatDoorZ01
import Derived.Test.YtgelkakjmbiibaaGreatDoorZ05
import Derived.Test.YtgelkakjmbiibaaGreatDoorZ09
import Derived.Test.YtgelkakjmbiibaaGreatDoorLvN
namespace Go.Proofs.YtgelkakjmbiibaaGreatDoor
set_option linter.unusedVariables false
set_option linter.unusedSimpArgs false
open Go.RowKit
theorem ent19 : ∀ us w, (callFunc 19 us).run Tryz.prog w = .ok (.enter 19 us) w := fun us w => by kernel_rfl
theorem ent33 : ∀ us w, (callFunc 33 us).run Tryz.prog w = .ok (.enter 33 us) w := fun us w => by kernel_rfl
theorem ent35 : ∀ us w, (callFunc 35 us).run Tryz.prog w = .ok (.enter 35 us) w := fun us w => by kernel_rfl
theorem ent37 : ∀ us w, (callFunc 37 us).run Tryz.prog w = .ok (.enter 37 us) w := fun us w => by kernel_rfl
theorem ent38 : ∀ us w, (callFunc 38 us).run Tryz.prog w = .ok (.enter 38 us) w := fun us w => by kernel_rfl
theorem ent47 : ∀ us w, (callFunc 47 us).run Tryz.prog w = .ok (.enter 47 us) w := fun us w => by kernel_rfl
set_option maxHeartbeats 4000000 in
set_option maxRecDepth 100000 in
theorem lawExponents {W : World} {own : List Asn} {vcode : Value} {code : List Int}  (scode : IsS vcode) (ecode : Ent own fun w => Byts w vcode code)  (hl : code.length ≤ 9223372036854775807) (hg : Ent own fun w => ∃ m, w.cell? ⟨Tryz.l146_ren.g 1, 0, none⟩ = some (.int .i64 m)) (htab : Ent own Pow10) : Spec Tryz.prog 10 [vcode] W own (fun v ow => v = .bool (true) ∧ ow = own) := by
 refine Spec.enter Tryz.f10 _ Tryz.func10 rfl (n := 97) rfl rfl ?_
 refine GC.seq (GC.region ?_)
 refine G.stepD (OD.assign rfl rfl) rfl rfl rfl ?_
 refine G.nil (GE.then_ (GC.seq (GC.seq (GC.region ?_))))
 refine G.stepD (OD.move rfl rfl) rfl rfl rfl ?_
 refine G.step (OG.call [vcode] ent19 rfl rfl rfl rfl (by exact (big_w scode ecode (by omega)))) rfl rfl rfl ?_
 rintro _ _ ⟨rfl, hzz⟩; obtain rfl := hzz.symm
 refine G.nil (GE.then_ ?_)
 refine GC.cond rfl (fun hc1 => ?_) (fun hc1 => ?_)
 replace hc1 := of_decide_eq_true hc1
 refine GC.seq (GC.region ?_)
 refine G.stepD (OD.assign rfl rfl) rfl rfl rfl ?_
 refine G.nil (GE.then_ (GC.ret (GE.passR ?_)))
 exact GE.body [] 0 (res1 rfl rfl) rfl (⟨rfl, rfl⟩)
 replace hc1 := of_decide_eq_false hc1
 refine GC.skip (GE.then_ (GC.seq (GC.region ?_)))
 refine G.stepD (OD.move rfl rfl) rfl rfl rfl ?_
 refine G.step (OG.call [vcode] ent38 rfl rfl rfl rfl (by exact (drawType_w scode ecode (by omega)))) rfl rfl rfl ?_
 rintro _ _ ⟨v2, g3, u4, rfl, hs5, hs6, hs7, rfl⟩
 refine G.stepD (OD.move rfl rfl) rfl rfl rfl ?_
 refine G.stepD (OD.extract rfl rfl rfl) rfl rfl rfl ?_
 refine G.stepD (OD.extract rfl rfl rfl) rfl rfl rfl ?_
 refine G.step (OG.alloc rfl ti27 (zs := [.int .i64 (0), .slice none 0 0]) rfl) rfl rfl rfl ?_
 rintro _ _ ⟨g8, rfl, rfl⟩
 refine G.stepD (OD.assign rfl rfl) rfl rfl rfl ?_
 refine G.stepD0 (OD.store rfl ti27 rfl rfl (us := [.int .i64 (cR (tpNm g3)), v2]) rfl rfl (allC rfl (allC (IsS.one hs5) rfl)) (i := 0) rfl rfl) rfl rfl ?_
 refine G.nil (GE.then_ (GC.seq ?_))
 obtain ⟨hR, hD, hF, hN, hS0, hO⟩ := tpOk (k := g3) (by assumption)
 have hT : tyS (cR (tpNm g3)) (subD (cR (tpNm g3)) (cD (tpNm g3)) u4) = tyS (tpN g3) (tpD g3) := by rw [hR, hD]; exact hO _ (by rw [← hR]; assumption)
 have hS : (tyS (cR (tpNm g3)) (subD (cR (tpNm g3)) (cD (tpNm g3)) u4)).isSome = true := by rw [hT]; exact hS0
 generalize hce : cR (tpNm g3) = cr at *
 generalize hde : subD (cr) (cD (tpNm g3)) u4 = cd at *
 have hcr4 := (tyS_ok hS).1
 have hl0 : cd.length ≤ 1073741824 := Nat.le_trans (cd_small hS) (by decide)
 have hrs := (rtOk hS).slen
 have hrf := (rtOk hS).few
 have hrk := (rtOk hS).rk
 have hX := exqOk hS
 have hXl := hX.len
 have hXc := hX.clen
 have hXs := hX.sum
 have hXp := hX.prod
 have hXt := hX.csum
 have hpl : (prOfL cr cd).length = (rSt cr cd).length := by rw [prOfL, if_pos hS]
 have hwb := hX.wob
 refine GC.region ?_
 refine G.stepD (OD.loadAgg rfl ti27 rfl (i := 0) rfl (us := [.int .i64 (cr), v2]) rfl rfl) rfl rfl rfl ?_
 refine G.step (OG.call [.agg #[.int .i64 (cr), v2]] ent47 rfl rfl rfl rfl (by exact (exponentsOf_w hs5 (Ent.ints (i := 1) rfl) (hl0) ((Ent.drop 2 hg)) ((Ent.drop 2 htab))))) rfl rfl rfl ?_
 rintro v9 _ ⟨_, rfl, hs10, rfl⟩
 refine G.stepD (OD.assign rfl rfl) rfl rfl rfl ?_
 refine G.nil (GE.then_ (GC.seq (GC.region ?_)))
 refine G.stepD (OD.assign rfl rfl) rfl rfl rfl ?_
 refine G.nil (GE.then_ (GC.seq (GC.region ?_)))
 refine G.stepD (OD.assign rfl rfl) rfl rfl rfl ?_
 refine G.nil (GE.then_ (GC.seq (GC.seq (GC.region ?_))))
 refine G.stepD (OD.assign rfl rfl) rfl rfl rfl ?_
 refine G.nil (GE.then_ (GC.block ?_))
 refine GC.loop (ι := Nat × Int × Int) (fun ⟨i, a, o⟩ => [(4, .pointer (some ⟨g8, 0, none⟩)), (5, v9), (6, .int .i64 (a)), (7, .int .i64 (o)), (8, .int .i64 ((i : Int)))]) (fun ⟨i, a, o⟩ => ints 3 v9 (exOf cr cd) :: box g8 27 [.int .i64 (cr), v2] :: ints 3 v2 cd :: own) (fun ⟨i, a, o⟩ => (i ≤ (exOf cr cd).length) ∧ (a = sumE ((exOf cr cd).take i)) ∧ (o = prodE ((exOf cr cd).take i))) (fun ⟨i, a, o⟩ => (exOf cr cd).length - i) (0, 0, 1) (⟨by omega, by simp [sumE], by simp [prodE]⟩) ⟨rfl, rfl, rfl, rfl, rfl, trivial⟩ [] 0 rfl ?_
 rintro ⟨i, a, o⟩ ⟨hi, ha, ho⟩
 have hab := sumE_bd (b := 11) (by omega) (fun y hy => by have h1 := hX.ent y hy; omega) i
 rw [← ha] at hab
 refine GC.seq (GC.seq (GC.region ?_))
 refine G.stepD (OD.move rfl rfl) rfl rfl rfl ?_
 refine G.stepD (OD.move rfl rfl) rfl rfl rfl ?_
 refine G.stepD (OD.len rfl rfl et22 rfl (Ent.ints (i := 0) rfl)) rfl rfl rfl ?_
 refine G.stepD (OD.lss rfl rfl rfl) rfl rfl rfl ?_
 refine G.nil (GE.then_ ?_)
 refine GC.cond rfl (fun hc11 => ?_) (fun hc11 => ?_)
 replace hc11 := of_decide_eq_true hc11
 have hei := ent_at hX.ent (k := i) (by omega)
 have hmb := prodE_bd (by omega) hX.ent (i + 1)
 rw [prodE_succ (by omega), ← ho] at hmb
 have hei2 : 1 ≤ (exOf cr cd).getD ((i : Int)).toNat 0 ∧ (exOf cr cd).getD ((i : Int)).toNat 0 ≤ 11 := hei
 have hmb2 : 1 ≤ o * ((exOf cr cd).getD ((i : Int)).toNat 0 + 1) ∧ o * ((exOf cr cd).getD ((i : Int)).toNat 0 + 1) ≤ 20736 := hmb
 refine GC.skip (GE.then_ (GC.seq (GC.block (GC.seq (GC.region ?_)))))
 refine G.stepD (OD.move rfl rfl) rfl rfl rfl ?_
 refine G.stepD (OD.move rfl rfl) rfl rfl rfl ?_
 refine G.stepD (OD.move rfl rfl) rfl rfl rfl ?_
 refine G.stepD (OD.indexAddr rfl et22 rfl (Ent.ints (i := 0) rfl) rfl (by omega)) rfl rfl rfl ?_
 refine G.stepD (OD.loadInt rfl ti3 rfl (Ent.ints (i := 0) rfl) (by omega)) rfl rfl rfl ?_
 refine G.stepD (OD.addI rfl rfl rfl (by omega)) rfl rfl rfl ?_
 refine G.stepD (OD.assign rfl rfl) rfl rfl rfl ?_
 refine G.nil (GE.then_ (GC.region ?_))
 refine G.stepD (OD.move rfl rfl) rfl rfl rfl ?_
 refine G.stepD (OD.move rfl rfl) rfl rfl rfl ?_
 refine G.stepD (OD.move rfl rfl) rfl rfl rfl ?_
 refine G.stepD (OD.indexAddr rfl et22 rfl (Ent.ints (i := 0) rfl) rfl (by omega)) rfl rfl rfl ?_
 refine G.stepD (OD.loadInt rfl ti3 rfl (Ent.ints (i := 0) rfl) (by omega)) rfl rfl rfl ?_
 refine G.stepD (OD.addI rfl rfl rfl (by omega)) rfl rfl rfl ?_
 refine G.stepD (OD.mulI rfl rfl rfl (by omega)) rfl rfl rfl ?_
 refine G.stepD (OD.assign rfl rfl) rfl rfl rfl ?_
 refine G.nil (GE.blockN (GE.then_ (GC.region ?_)))
 refine G.stepD (OD.move rfl rfl) rfl rfl rfl ?_
 refine G.stepD (OD.addI rfl rfl rfl (by omega)) rfl rfl rfl ?_
 refine G.stepD (OD.assign rfl rfl) rfl rfl rfl ?_
 refine G.nil ?_
 exact GE.again (i + 1, (a + ((exOf cr cd).getD (i) 0)), (o * (((exOf cr cd).getD (i) 0) + 1))) (⟨by omega, by rw [ha]; exact (sumE_succ (by omega)).symm, by rw [ho]; exact (prodE_succ (by omega)).symm⟩) (by first | omega | (dsimp only; omega)) ⟨rfl, rfl, rfl, rfl, rfl, trivial⟩ [] 0 rfl
 replace hc11 := of_decide_eq_false hc11
 have hit : (exOf cr cd).take i = (exOf cr cd) := List.take_of_length_le (by omega)
 rw [hit] at ha ho
 refine GC.exit (GE.pass (GE.pass (GE.hit (GE.then_ (GC.seq (GC.region ?_))))))
 refine G.stepD (OD.loadAgg rfl ti27 rfl (i := 1) rfl (us := [.int .i64 (cr), v2]) rfl rfl) rfl rfl rfl ?_
 refine G.step (OG.call [.agg #[.int .i64 (cr), v2]] ent37 rfl rfl rfl rfl (by exact (lengthCounts_w hs5 (Ent.ints (i := 2) rfl) (hl0) ((Ent.drop 3 hg)) ((Ent.drop 3 htab))))) rfl rfl rfl ?_
 rintro v12 _ ⟨_, rfl, hs13, rfl⟩
 refine G.stepD (OD.assign rfl rfl) rfl rfl rfl ?_
 refine G.nil (GE.then_ (GC.seq (GC.region ?_)))
 refine G.stepD (OD.assign rfl rfl) rfl rfl rfl ?_
 refine G.nil (GE.then_ (GC.seq (GC.seq (GC.region ?_))))
 refine G.stepD (OD.assign rfl rfl) rfl rfl rfl ?_
 refine G.nil (GE.then_ (GC.block ?_))
 refine GC.loop (ι := Nat × Int) (fun ⟨k, b⟩ => [(4, .pointer (some ⟨g8, 0, none⟩)), (5, v9), (6, .int .i64 (a)), (7, .int .i64 (o)), (9, v12), (10, .int .i64 (b)), (11, .int .i64 ((k : Int)))]) (fun ⟨k, b⟩ => ints 3 v12 (lcOf cr cd) :: ints 3 v9 (exOf cr cd) :: box g8 27 [.int .i64 (cr), v2] :: ints 3 v2 cd :: own) (fun ⟨k, b⟩ => (k ≤ (lcOf cr cd).length) ∧ (b = sumE ((lcOf cr cd).take k))) (fun ⟨k, b⟩ => (lcOf cr cd).length - k) (0, 0) (⟨by omega, by simp [sumE]⟩) ⟨rfl, rfl, rfl, rfl, rfl, rfl, rfl, trivial⟩ [] 0 rfl ?_
 rintro ⟨k, b⟩ ⟨hk, hb⟩
 have hbb := sumE_bd (b := 1204) (by omega) hX.cent k
 rw [← hb] at hbb
 refine GC.seq (GC.seq (GC.region ?_))
 refine G.stepD (OD.move rfl rfl) rfl rfl rfl ?_
 refine G.stepD (OD.move rfl rfl) rfl rfl rfl ?_
 refine G.stepD (OD.len rfl rfl et22 rfl (Ent.ints (i := 0) rfl)) rfl rfl rfl ?_
 refine G.stepD (OD.lss rfl rfl rfl) rfl rfl rfl ?_
 refine G.nil (GE.then_ ?_)
 refine GC.cond rfl (fun hc14 => ?_) (fun hc14 => ?_)
 replace hc14 := of_decide_eq_true hc14
 have hek := ent_at hX.cent (k := k) (by omega)
 have hek2 : 0 ≤ (lcOf cr cd).getD ((k : Int)).toNat 0 ∧ (lcOf cr cd).getD ((k : Int)).toNat 0 ≤ 1204 := hek
 have hsy := hX.sym k (by omega)
 have hsy2 : (lcOf cr cd).getD (k) 0 = (lcOf cr cd).getD ((((lcOf cr cd).length : Nat) : Int) - 1 - (k : Int)).toNat 0 := by rw [show ((((lcOf cr cd).length : Nat) : Int) - 1 - (k : Int)).toNat = (lcOf cr cd).length - 1 - k by omega]; exact hsy
 refine GC.skip (GE.then_ (GC.seq (GC.block (GC.seq (GC.region ?_)))))
 refine G.stepD (OD.move rfl rfl) rfl rfl rfl ?_
 refine G.stepD (OD.move rfl rfl) rfl rfl rfl ?_
 refine G.stepD (OD.move rfl rfl) rfl rfl rfl ?_
 refine G.stepD (OD.indexAddr rfl et22 rfl (Ent.ints (i := 0) rfl) rfl (by omega)) rfl rfl rfl ?_
 refine G.stepD (OD.loadInt rfl ti3 rfl (Ent.ints (i := 0) rfl) (by omega)) rfl rfl rfl ?_
 refine G.stepD (OD.addI rfl rfl rfl (by omega)) rfl rfl rfl ?_
 refine G.stepD (OD.assign rfl rfl) rfl rfl rfl ?_
 refine G.nil (GE.then_ (GC.seq ?_))
 refine GC.at [] 0 (env' := [(4, .pointer (some ⟨g8, 0, none⟩)), (5, v9), (6, .int .i64 (a)), (7, .int .i64 (o)), (9, v12), (11, .int .i64 ((k : Int))), (10, .int .i64 (b + ((lcOf cr cd).getD (k) 0)))]) ⟨rfl, rfl, rfl, rfl, rfl, rfl, rfl, trivial⟩ rfl ?_
 refine GC.par (its := [⟨54, [], [], [], [], fun _ => v12, fun _ => True, fun _ => []⟩,
     ⟨55, [], [], [], [], fun _ => .int .i64 ((k : Int)), fun _ => True, fun _ => []⟩,
     ⟨56, [(0, 54), (1, 55)], [], [], [], fun _ => elemPtr v12 1 (k), fun _ => True, fun _ => []⟩,
     ⟨57, [(2, 56)], [], [], [], fun _ => .int .i64 ((lcOf cr cd).getD (k) 0), fun _ => True, fun _ => []⟩,
     ⟨58, [], [], [], [], fun _ => v12, fun _ => True, fun _ => []⟩,
     ⟨59, [], [], [], [], fun _ => v12, fun _ => True, fun _ => []⟩,
     ⟨60, [(5, 59)], [], [], [], fun _ => .int .i64 (((lcOf cr cd).length : Nat)), fun _ => True, fun _ => []⟩,
     ⟨61, [(6, 60)], [], [], [], fun _ => .int .i64 (((lcOf cr cd).length : Nat) - 1), fun _ => True, fun _ => []⟩,
     ⟨62, [], [], [], [], fun _ => .int .i64 ((k : Int)), fun _ => True, fun _ => []⟩,
     ⟨63, [(7, 61), (8, 62)], [], [], [], fun _ => .int .i64 ((((lcOf cr cd).length : Nat) - 1) - (k : Int)), fun _ => True, fun _ => []⟩,
     ⟨64, [(4, 58), (9, 63)], [], [], [], fun _ => elemPtr v12 1 (((((lcOf cr cd).length : Nat) - 1) - (k : Int) : Int).toNat), fun _ => True, fun _ => []⟩,
     ⟨65, [(10, 64)], [], [], [], fun _ => .int .i64 ((lcOf cr cd).getD (((((lcOf cr cd).length : Nat) - 1) - (k : Int) : Int).toNat) 0), fun _ => True, fun _ => []⟩,
     ⟨66, [(3, 57), (11, 65)], [], [], [], fun _ => .bool false, fun _ => True, fun _ => []⟩]) (by kernel_rfl) (by kernel_rfl) (POps.cons ?_ (POps.cons ?_ (POps.cons ?_ (POps.cons ?_ (POps.cons ?_ (POps.cons ?_ (POps.cons ?_ (POps.cons ?_ (POps.cons ?_ (POps.cons ?_ (POps.cons ?_ (POps.cons ?_ (POps.cons ?_ POps.nil))))))))))))) ?_
 intro θ R hd
 exact Opp.plain (OG.imp (OD.move rfl rfl) (by exact fun _ _ h=>pk h rfl trivial rfl)) rfl
 intro θ R hd
 exact Opp.plain (OG.imp (OD.move rfl rfl) (by exact fun _ _ h=>pk h rfl trivial rfl)) rfl
 rintro θ R ⟨h0d, h1d, _⟩
 exact Opp.plain (OG.imp (OD.indexAddr rfl et22 rfl (Ent.ints (i := 0) rfl) rfl (by omega)) (by exact fun _ _ h=>pk h rfl trivial rfl)) rfl
 rintro θ R ⟨h2d, _⟩
 exact Opp.plain (OG.imp (OD.loadInt rfl ti3 rfl (Ent.ints (i := 0) rfl) (by omega)) (by exact fun _ _ h=>pk h rfl trivial rfl)) rfl
 intro θ R hd
 exact Opp.plain (OG.imp (OD.move rfl rfl) (by exact fun _ _ h=>pk h rfl trivial rfl)) rfl
 intro θ R hd
 exact Opp.plain (OG.imp (OD.move rfl rfl) (by exact fun _ _ h=>pk h rfl trivial rfl)) rfl
 rintro θ R ⟨h5d, _⟩
 exact Opp.plain (OG.imp (OD.len rfl rfl et22 rfl (Ent.ints (i := 0) rfl)) (by exact fun _ _ h=>pk h rfl trivial rfl)) rfl
 rintro θ R ⟨h6d, _⟩
 exact Opp.plain (OG.imp (OD.subI rfl rfl rfl (by omega)) (by exact fun _ _ h=>pk h rfl trivial rfl)) rfl
 intro θ R hd
 exact Opp.plain (OG.imp (OD.move rfl rfl) (by exact fun _ _ h=>pk h rfl trivial rfl)) rfl
 rintro θ R ⟨h7d, h8d, _⟩
 exact Opp.plain (OG.imp (OD.subI rfl rfl rfl (by omega)) (by exact fun _ _ h=>pk h rfl trivial rfl)) rfl
 rintro θ R ⟨h4d, h9d, _⟩
 exact Opp.plain (OG.imp (OD.indexAddr rfl et22 rfl (Ent.ints (i := 0) rfl) rfl (by omega)) (by exact fun _ _ h=>pk h rfl trivial rfl)) rfl
 rintro θ R ⟨h10d, _⟩
 exact Opp.plain (OG.imp (OD.loadInt rfl ti3 rfl (Ent.ints (i := 0) rfl) (by omega)) (by exact fun _ _ h=>pk h rfl trivial rfl)) rfl
 rintro θ R ⟨h3d, h11d, _⟩
 exact Opp.plain (OG.imp (OD.eqv (OD.neq rfl rfl rfl) (congrArg Value.bool ((by rw [bne_eq_false_iff_eq]; exact hsy2) : _ = false))) (by exact fun _ _ h=>pk h rfl trivial rfl)) rfl
 intro θ hall
 obtain ⟨_, _, _, _, _, _, _, _, _, _, _, _, _, _⟩ := hall
 refine G.at [] 0 (env' := [(4, .pointer (some ⟨g8, 0, none⟩)), (5, v9), (6, .int .i64 (a)), (7, .int .i64 (o)), (9, v12), (11, .int .i64 ((k : Int))), (10, .int .i64 (b + ((lcOf cr cd).getD (k) 0))), (66, .bool false)]) ⟨rfl, rfl, rfl, rfl, rfl, rfl, rfl, rfl, trivial⟩ (own' := ints 3 v12 (lcOf cr cd) :: ints 3 v9 (exOf cr cd) :: box g8 27 [.int .i64 (cr), v2] :: ints 3 v2 cd :: own) rfl ?_
 show G _ _ _ [] _ _ _ _
 refine G.nil (GE.then_ (GC.condF rfl (GC.skip (GE.blockN (GE.then_ (GC.region ?_))))))
 refine G.stepD (OD.move rfl rfl) rfl rfl rfl ?_
 refine G.stepD (OD.addI rfl rfl rfl (by omega)) rfl rfl rfl ?_
 refine G.stepD (OD.assign rfl rfl) rfl rfl rfl ?_
 refine G.nil ?_
 exact GE.again (k + 1, (b + ((lcOf cr cd).getD (k) 0))) (⟨by omega, by rw [hb]; exact (sumE_succ (by omega)).symm⟩) (by first | omega | (dsimp only; omega)) ⟨rfl, rfl, rfl, rfl, rfl, rfl, rfl, trivial⟩ [] 0 rfl
 replace hc14 := of_decide_eq_false hc14
 have hkt : (lcOf cr cd).take k = (lcOf cr cd) := List.take_of_length_le (by omega)
 rw [hkt] at hb
 refine GC.exit (GE.pass (GE.pass (GE.hit (GE.then_ (GC.seq (GC.region ?_))))))
 refine G.stepD (OD.move rfl rfl) rfl rfl rfl ?_
 refine G.stepD (OD.len rfl rfl et22 rfl (Ent.ints (i := 1) rfl)) rfl rfl rfl ?_
 refine G.stepD (OD.fieldAddr rfl rfl fa27_0) rfl rfl rfl ?_
 refine G.stepD (OD.load rfl ti3 rfl (i := 2) rfl rfl) rfl rfl rfl ?_
 refine G.stepD (OD.eqv (OD.eql rfl rfl rfl) (congrArg Value.bool ((beq_iff_eq.2 (by omega)) : _ = true))) rfl rfl rfl ?_
 refine G.stepD (OD.move rfl rfl) rfl rfl rfl ?_
 refine G.stepGD (OD.move rfl rfl) rfl rfl rfl rfl rfl ?_
 refine G.stepGD (OD.loadAgg rfl ti27 rfl (i := 2) rfl (us := [.int .i64 (cr), v2]) rfl rfl) rfl rfl rfl rfl rfl ?_
 refine G.stepG (OG.call [.agg #[.int .i64 (cr), v2]] ent35 rfl rfl rfl rfl (by exact (positiveRoots_w hs5 (Ent.ints (i := 3) rfl) (hl0) ((Ent.drop 4 hg)) ((Ent.drop 4 htab))))) rfl rfl rfl rfl rfl ?_
 rintro v15 _ ⟨_, u16, rfl, hs17, hs18, hs19, rfl⟩
 refine G.stepGD (OD.len rfl rfl et39 rfl (Ent.lst (i := 0) rfl)) rfl rfl rfl rfl rfl ?_
 refine G.stepGD (OD.eqv (OD.eql rfl rfl rfl) (congrArg Value.bool ((beq_iff_eq.2 (by omega)) : _ = true))) rfl rfl rfl rfl rfl ?_
 refine G.stepD (OD.pickT rfl rfl rfl) rfl rfl rfl ?_
 refine G.stepD (OD.move rfl rfl) rfl rfl rfl ?_
 refine G.stepGD (OD.move rfl rfl) rfl rfl rfl rfl rfl ?_
 refine G.stepGD (OD.loadAgg rfl ti27 rfl (i := 4) rfl (us := [.int .i64 (cr), v2]) rfl rfl) rfl rfl rfl rfl rfl ?_
 refine G.stepG (OG.call [.agg #[.int .i64 (cr), v2]] ent33 rfl rfl rfl rfl (by exact (weylOrder_w hs5 (Ent.ints (i := 5) rfl) (hl0) ((Ent.drop 6 hg)) ((Ent.drop 6 htab))))) rfl rfl rfl rfl rfl ?_
 rintro _ _ ⟨rfl, rfl⟩
 refine G.stepGD (OD.eqv (OD.eql rfl rfl rfl) (congrArg Value.bool ((beq_iff_eq.2 (by omega)) : _ = true))) rfl rfl rfl rfl rfl ?_
 refine G.stepD (OD.pickT rfl rfl rfl) rfl rfl rfl ?_
 refine G.stepD (OD.move rfl rfl) rfl rfl rfl ?_
 refine G.stepGD (OD.move rfl rfl) rfl rfl rfl rfl rfl ?_
 refine G.stepGD (OD.move rfl rfl) rfl rfl rfl rfl rfl ?_
 refine G.stepGD (OD.eqv (OD.eql rfl rfl rfl) (congrArg Value.bool ((beq_iff_eq.2 (by omega)) : _ = true))) rfl rfl rfl rfl rfl ?_
 refine G.stepD (OD.pickT rfl rfl rfl) rfl rfl rfl ?_
 refine G.stepD (OD.move rfl rfl) rfl rfl rfl ?_
 refine G.stepGD (OD.move rfl rfl) rfl rfl rfl rfl rfl ?_
 refine G.stepGD (OD.len rfl rfl et22 rfl (Ent.ints (i := 2) rfl)) rfl rfl rfl rfl rfl ?_
 refine G.stepGD (OD.move rfl rfl) rfl rfl rfl rfl rfl ?_
 refine G.stepGD (OD.addI rfl rfl rfl (by omega)) rfl rfl rfl rfl rfl ?_
 refine G.stepGD (OD.eqv (OD.eql rfl rfl rfl) (congrArg Value.bool ((beq_iff_eq.2 (by omega)) : _ = true))) rfl rfl rfl rfl rfl ?_
 refine G.stepD (OD.pickT rfl rfl rfl) rfl rfl rfl ?_
 refine G.stepD (OD.assign rfl rfl) rfl rfl rfl ?_
 refine G.nil (GE.then_ (GC.ret ?_))
 exact GE.body [] 6 (res1 rfl rfl) rfl (⟨rfl, rfl⟩)
end Go.Proofs.YtgelkakjmbiibaaGreatDoor
