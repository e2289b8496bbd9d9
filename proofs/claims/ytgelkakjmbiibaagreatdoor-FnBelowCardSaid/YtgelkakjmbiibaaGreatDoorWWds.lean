/-
  Words that are drawn: contracts by walks.
-/
import Derived.Test.YtgelkakjmbiibaaGreatDoorFct
import Derived.Test.YtgelkakjmbiibaaGreatDoorWDrw
import Derived.Test.YtgelkakjmbiibaaGreatDoorGrC
namespace Go.Proofs.YtgelkakjmbiibaaGreatDoor
set_option linter.unusedVariables false
set_option linter.unusedSimpArgs false
open Go.RowKit
theorem ent68 : ∀ us w, (callFunc 68 us).run Tryz.prog w = .ok (.enter 68 us) w := fun us w => by kernel_rfl
theorem ent69 : ∀ us w, (callFunc 69 us).run Tryz.prog w = .ok (.enter 69 us) w := fun us w => by kernel_rfl
theorem ent70 : ∀ us w, (callFunc 70 us).run Tryz.prog w = .ok (.enter 70 us) w := fun us w => by kernel_rfl
theorem ent73 : ∀ us w, (callFunc 73 us).run Tryz.prog w = .ok (.enter 73 us) w := fun us w => by kernel_rfl
theorem ent74 : ∀ us w, (callFunc 74 us).run Tryz.prog w = .ok (.enter 74 us) w := fun us w => by kernel_rfl
set_option maxRecDepth 100000 in
theorem l12Small_w {W : World} {own : List Asn} {gc : Nat} {vb : Value} {bs : List Int} {ci ch : Int}  (sb : IsS vb) (eb : Ent own fun w => Byts w vb bs)  (hci : 0 ≤ ci) (hbl : bs.length ≤ 1048576) : Spec Tryz.prog 70 [.pointer (some ⟨gc, 0, none⟩)] W (box gc 113 [vb, .int .i64 (ci), .int .i64 (ch)] :: own) (fun v ow => ∃ (k0 : Nat) (i0 : Int) (h0 : Int), v = .string (smNm k0) ∧ (k0 < 10) ∧ (0 ≤ i0) ∧ ow = box gc 113 [vb, .int .i64 (i0), .int .i64 (h0)] :: own) := by
 refine Spec.enter Tryz.f70 _ Tryz.func70 rfl (n := 6) rfl rfl ?_
 refine GC.seq (GC.region ?_)
 refine G.stepD (OD.assign rfl rfl) rfl rfl rfl ?_
 refine G.nil (GE.then_ (GC.seq (GC.region ?_)))
 refine G.stepD (OD.move rfl rfl) rfl rfl rfl ?_
 refine G.step (OG.buildStrs (os := [.const (.string (⟨#[65, 49]⟩)), .const (.string (⟨#[65, 50]⟩)), .const (.string (⟨#[65, 51]⟩)), .const (.string (⟨#[66, 50]⟩)), .const (.string (⟨#[66, 51]⟩)), .const (.string (⟨#[67, 51]⟩)), .const (.string (⟨#[71, 50]⟩)), .const (.string (⟨#[65, 49, 43, 65, 49]⟩)), .const (.string (⟨#[65, 49, 43, 65, 50]⟩)), .const (.string (⟨#[65, 49, 43, 66, 50]⟩))]) (xs := [⟨#[65, 49]⟩, ⟨#[65, 50]⟩, ⟨#[65, 51]⟩, ⟨#[66, 50]⟩, ⟨#[66, 51]⟩, ⟨#[67, 51]⟩, ⟨#[71, 50]⟩, ⟨#[65, 49, 43, 65, 49]⟩, ⟨#[65, 49, 43, 65, 50]⟩, ⟨#[65, 49, 43, 66, 50]⟩]) rfl et93 rfl rfl rfl rfl rfl) rfl rfl rfl ?_
 rintro v1 _ ⟨hs2, rfl⟩
 refine G.at [1] 0 (env' := [(0, .pointer (some ⟨gc, 0, none⟩)), (2, .string (⟨#[]⟩)), (3, .pointer (some ⟨gc, 0, none⟩)), (4, v1)]) ⟨rfl, rfl, rfl, rfl, trivial⟩ (own' := box gc 113 [vb, .int .i64 (ci), .int .i64 (ch)] :: strs 9 v1 ([⟨#[65, 49]⟩, ⟨#[65, 50]⟩, ⟨#[65, 51]⟩, ⟨#[66, 50]⟩, ⟨#[66, 51]⟩, ⟨#[67, 51]⟩, ⟨#[71, 50]⟩, ⟨#[65, 49, 43, 65, 49]⟩, ⟨#[65, 49, 43, 65, 50]⟩, ⟨#[65, 49, 43, 66, 50]⟩]) :: own) rfl ?_
 refine G.step (OG.call [.pointer (some ⟨gc, 0, none⟩), v1] ent130 rfl rfl rfl rfl (by exact (l1Pick_w sb (Ent.drop 1 eb) hs2 (Ent.strs (i := 0) rfl) (by omega) (by omega) (by decide)))) rfl rfl rfl ?_
 rintro _ _ ⟨g3, u4, u5, rfl, hs6, hs7, rfl⟩
 refine G.stepD (OD.assign rfl rfl) rfl rfl rfl ?_
 refine G.nil (GE.then_ (GC.ret ?_))
 exact GE.body [0] 1 (res1 rfl rfl) rfl (⟨(g3), u4, u5, rfl, (by assumption), (by omega), rfl⟩)
set_option maxHeartbeats 4000000 in
set_option maxRecDepth 100000 in
theorem drawWords_w {W : World} {own : List Asn} {vcode : Value} {code : List Int}  (scode : IsS vcode) (ecode : Ent own fun w => Byts w vcode code)  (hcl : code.length ≤ 1048576) : Spec Tryz.prog 20 [vcode] W own (fun v ow => ∃ (a0 : Value) (b0 : Value) (c0 : Value) (e0 : Value) (k0 : Nat) (x0 : List Int) (y0 : List Int) (z0 : List Int), v = .tuple #[.agg #[.int .i64 (cR (smNm k0)), a0], b0, c0, e0] ∧ IsS a0 ∧ IsS b0 ∧ IsS c0 ∧ IsS e0 ∧ (k0 < 10) ∧ (x0.length ≤ 12 ∧ ∀ q ∈ x0, 0 ≤ q ∧ q < cR (smNm k0)) ∧ (y0.length ≤ 11 ∧ ∀ q ∈ y0, 0 ≤ q ∧ q < cR (smNm k0)) ∧ (z0.length = (cR (smNm k0) : Int).toNat ∧ ∀ q ∈ z0, -4 ≤ q ∧ q ≤ 4) ∧ ow = ints 3 a0 (cD (smNm k0)) :: ints 3 b0 x0 :: ints 3 c0 y0 :: ints 3 e0 z0 :: own) := by
 refine Spec.enter Tryz.f20 _ Tryz.func20 rfl (n := 67) rfl rfl ?_
 refine GC.seq (GC.region ?_)
 refine G.step (OG.alloc rfl ti27 (zs := [.int .i64 (0), .slice none 0 0]) rfl) rfl rfl rfl ?_
 rintro _ _ ⟨g1, rfl, rfl⟩
 refine G.stepD (OD.assign rfl rfl) rfl rfl rfl ?_
 refine G.stepD (OD.assign rfl rfl) rfl rfl rfl ?_
 refine G.stepD (OD.assign rfl rfl) rfl rfl rfl ?_
 refine G.nil (GE.then_ (GC.seq (GC.region ?_)))
 refine G.stepD (OD.move rfl rfl) rfl rfl rfl ?_
 refine G.step (OG.call [vcode] ent68 rfl rfl rfl rfl (by exact (l1New_w scode (Ent.drop 1 ecode) (by omega)))) rfl rfl rfl ?_
 rintro _ _ ⟨g2, u3, rfl, rfl⟩
 refine G.stepD (OD.assign rfl rfl) rfl rfl rfl ?_
 refine G.nil (GE.then_ (GC.seq (GC.region ?_)))
 refine G.stepD (OD.move rfl rfl) rfl rfl rfl ?_
 refine G.step (OG.call [.pointer (some ⟨g2, 0, none⟩)] ent70 rfl rfl rfl rfl (by exact (l12Small_w scode (Ent.drop 1 ecode) (by omega) (by omega)))) rfl rfl rfl ?_
 rintro _ _ ⟨g4, u5, u6, rfl, hs7, hs8, rfl⟩
 obtain ⟨hR, hD, hN1, hN3⟩ := sm_cR (k := g4) (by assumption)
 have hsz := smNm_sz (k := g4) (by assumption)
 skip
 refine G.step (OG.call [.string (smNm g4)] ent69 rfl rfl rfl rfl (by exact (specCartanOf_w (by omega)))) rfl rfl rfl ?_
 rintro _ _ ⟨v9, rfl, hs10, rfl⟩
 refine G.stepD (OD.move rfl rfl) rfl rfl rfl ?_
 refine G.stepD (OD.extract rfl rfl rfl) rfl rfl rfl ?_
 refine G.stepD (OD.extract rfl rfl rfl) rfl rfl rfl ?_
 refine G.step (OG.alloc rfl ti27 (zs := [.int .i64 (0), .slice none 0 0]) rfl) rfl rfl rfl ?_
 rintro _ _ ⟨g11, rfl, rfl⟩
 refine G.stepD0 (OD.store rfl ti27 rfl rfl (us := [.int .i64 (cR (smNm g4)), v9]) rfl rfl (allC rfl (allC (IsS.one hs10) rfl)) (i := 0) rfl rfl) rfl rfl ?_
 refine G.stepD (OD.assign rfl rfl) rfl rfl rfl ?_
 refine G.nil (GE.then_ (GC.seq (GC.region ?_)))
 refine G.step (OG.buildInts (xs := []) (is := []) rfl et22 rfl rfl rfl rfl rfl) rfl rfl rfl ?_
 rintro v12 _ ⟨hs13, rfl⟩
 refine G.stepD (OD.assign rfl rfl) rfl rfl rfl ?_
 refine G.nil (GE.then_ (GC.seq (GC.region ?_)))
 refine G.step (OG.buildInts (xs := []) (is := []) rfl et22 rfl rfl rfl rfl rfl) rfl rfl rfl ?_
 rintro v14 _ ⟨hs15, rfl⟩
 refine G.stepD (OD.assign rfl rfl) rfl rfl rfl ?_
 refine G.nil (GE.then_ (GC.seq (GC.region ?_)))
 refine G.stepD (OD.move rfl rfl) rfl rfl rfl ?_
 refine G.at [4] 0 (env' := [(0, vcode), (2, .pointer (some ⟨g1, 0, none⟩)), (3, .slice none 0 0), (4, .slice none 0 0), (5, .slice none 0 0), (14, vcode), (15, .pointer (some ⟨g2, 0, none⟩)), (6, .pointer (some ⟨g2, 0, none⟩)), (17, .pointer (some ⟨g2, 0, none⟩)), (18, .string (smNm g4)), (19, .tuple #[.agg #[.int .i64 (cR (smNm g4)), v9], .bool ((cF (smNm g4)).isSome)]), (16, .tuple #[.agg #[.int .i64 (cR (smNm g4)), v9], .bool ((cF (smNm g4)).isSome)]), (20, .agg #[.int .i64 (cR (smNm g4)), v9]), (21, .bool ((cF (smNm g4)).isSome)), (7, .pointer (some ⟨g11, 0, none⟩)), (8, .bool ((cF (smNm g4)).isSome)), (22, v12), (9, v12), (23, v14), (10, v14), (24, .pointer (some ⟨g2, 0, none⟩))]) ⟨rfl, rfl, rfl, rfl, rfl, rfl, rfl, rfl, rfl, rfl, rfl, rfl, rfl, rfl, rfl, rfl, rfl, rfl, rfl, rfl, rfl, trivial⟩ (own' := box g2 113 [vcode, .int .i64 (u5), .int .i64 (u6)] :: ints 3 v14 [] :: ints 3 v12 [] :: box g11 27 [.int .i64 (cR (smNm g4)), v9] :: ints 3 v9 (cD (smNm g4)) :: box g1 27 [.int .i64 (0), .slice none 0 0] :: own) rfl ?_
 refine G.step (OG.call [.pointer (some ⟨g2, 0, none⟩), .int .i64 (12)] ent71 rfl rfl rfl rfl (by exact (l1Below_w scode (Ent.drop 5 ecode) (by omega) (by omega) (by omega)))) rfl rfl rfl ?_
 rintro _ _ ⟨u16, u17, u18, rfl, hs19, hs20, rfl⟩
 refine G.stepD (OD.assign rfl rfl) rfl rfl rfl ?_
 refine G.nil (GE.then_ (GC.seq (GC.seq (GC.region ?_))))
 refine G.stepD (OD.assign rfl rfl) rfl rfl rfl ?_
 refine G.nil (GE.then_ (GC.block ?_))
 refine GC.loop (ι := Nat × List Int × List Int × Value × Value × Int × Int) (fun ⟨a, us, ws, vu, vv, q, r⟩ => [(2, .pointer (some ⟨g1, 0, none⟩)), (6, .pointer (some ⟨g2, 0, none⟩)), (7, .pointer (some ⟨g11, 0, none⟩)), (11, .int .i64 (u16)), (9, vu), (10, vv), (12, .int .i64 ((a : Int)))]) (fun ⟨a, us, ws, vu, vv, q, r⟩ => box g2 113 [vcode, .int .i64 (q), .int .i64 (r)] :: ints 3 vv ws :: ints 3 vu us :: box g11 27 [.int .i64 (cR (smNm g4)), v9] :: ints 3 v9 (cD (smNm g4)) :: box g1 27 [.int .i64 (0), .slice none 0 0] :: own) (fun ⟨a, us, ws, vu, vv, q, r⟩ => ((a : Int) ≤ u16) ∧ (us.length ≤ a) ∧ (∀ q ∈ us, 0 ≤ q ∧ q < cR (smNm g4)) ∧ (ws.length = a) ∧ (∀ q ∈ ws, 0 ≤ q ∧ q < cR (smNm g4)) ∧ (IsS vu) ∧ (IsS vv) ∧ (0 ≤ q)) (fun ⟨a, us, ws, vu, vv, q, r⟩ => (u16).toNat - a) (0, [], [], v12, v14, u17, u18) (⟨by omega, by simp, by simp, rfl, by simp, hs13, hs15, by omega⟩) ⟨rfl, rfl, rfl, rfl, rfl, rfl, rfl, trivial⟩ [] 0 rfl ?_
 rintro ⟨a, us, ws, vu, vv, q, r⟩ ⟨ha, hul, hur, hwl, hwr, hvu, hvv, hq⟩
 refine GC.seq (GC.seq (GC.region ?_))
 refine G.stepD (OD.move rfl rfl) rfl rfl rfl ?_
 refine G.stepD (OD.move rfl rfl) rfl rfl rfl ?_
 refine G.stepD (OD.lss rfl rfl rfl) rfl rfl rfl ?_
 refine G.nil (GE.then_ ?_)
 refine GC.cond rfl (fun hc21 => ?_) (fun hc21 => ?_)
 replace hc21 := of_decide_eq_true hc21
 refine GC.skip (GE.then_ (GC.seq (GC.block (GC.seq (GC.region ?_)))))
 refine G.stepD (OD.move rfl rfl) rfl rfl rfl ?_
 refine G.stepD (OD.fieldAddr rfl rfl fa27_0) rfl rfl rfl ?_
 refine G.stepD (OD.load rfl ti3 rfl (i := 3) rfl rfl) rfl rfl rfl ?_
 refine G.step (OG.call [.pointer (some ⟨g2, 0, none⟩), .int .i64 (cR (smNm g4))] ent71 rfl rfl rfl rfl (by exact (l1Below_w scode (Ent.drop 5 ecode) (by omega) (by omega) (by omega)))) rfl rfl rfl ?_
 rintro _ _ ⟨u22, u23, u24, rfl, hs25, hs26, rfl⟩
 refine G.stepD (OD.assign rfl rfl) rfl rfl rfl ?_
 refine G.nil (GE.then_ (GC.seq (GC.region ?_)))
 refine G.stepD (OD.move rfl rfl) rfl rfl rfl ?_
 refine G.stepD (OD.move rfl rfl) rfl rfl rfl ?_
 refine G.step (OG.buildInts (xs := [.tmp 36]) (is := [u22]) rfl et22 rfl rfl rfl rfl rfl) rfl rfl rfl ?_
 rintro v27 _ ⟨hs28, rfl⟩
 refine G.step (OG.appendInts 2 rfl rfl et22 rfl rfl rfl (Ent.ints (i := 0) rfl) (by first | omega | (simp; omega))) rfl rfl rfl ?_
 rintro v29 _ ⟨hs30, rfl⟩
 refine G.stepD (OD.assign rfl rfl) rfl rfl rfl ?_
 refine G.nil (GE.then_ (GC.seq (GC.region ?_)))
 refine G.stepD (OD.move rfl rfl) rfl rfl rfl ?_
 refine G.at [1] 0 (env' := [(2, .pointer (some ⟨g1, 0, none⟩)), (6, .pointer (some ⟨g2, 0, none⟩)), (7, .pointer (some ⟨g11, 0, none⟩)), (11, .int .i64 (u16)), (9, vu), (12, .int .i64 ((a : Int))), (26, .int .i64 ((a : Int))), (27, .int .i64 (u16)), (28, .bool (decide ((a : Int) < u16))), (31, .pointer (some ⟨g2, 0, none⟩)), (32, .pointer (some ⟨g11, 0, none⟩)), (33, .int .i64 (cR (smNm g4))), (34, .int .i64 (u22)), (13, .int .i64 (u22)), (35, vv), (36, .int .i64 (u22)), (37, v27), (38, v29), (10, v29), (39, .pointer (some ⟨g2, 0, none⟩))]) ⟨rfl, rfl, rfl, rfl, rfl, rfl, rfl, rfl, rfl, rfl, rfl, rfl, rfl, rfl, rfl, rfl, rfl, rfl, rfl, rfl, trivial⟩ (own' := box g2 113 [vcode, .int .i64 (u23), .int .i64 (u24)] :: ints 3 v27 [u22] :: ints 3 v29 (ws ++ [u22]) :: ints 3 vu us :: box g11 27 [.int .i64 (cR (smNm g4)), v9] :: ints 3 v9 (cD (smNm g4)) :: box g1 27 [.int .i64 (0), .slice none 0 0] :: own) rfl ?_
 refine G.step (OG.call [.pointer (some ⟨g2, 0, none⟩), .int .i64 (3)] ent72 rfl rfl rfl rfl (by exact (l1Once_w scode (Ent.drop 6 ecode) (by omega) (by omega) (by omega)))) rfl rfl rfl ?_
 rintro _ _ ⟨u31, u32, u33, rfl, hs34, rfl⟩
 refine G.stepD (OD.not rfl rfl) rfl rfl rfl ?_
 refine G.nil (GE.then_ ?_)
 refine GC.cond rfl (fun hc35 => ?_) (fun hc35 => ?_)
 replace hc35 := eq_false_of_not hc35
 refine GC.region ?_
 refine G.stepD (OD.move rfl rfl) rfl rfl rfl ?_
 refine G.stepD (OD.move rfl rfl) rfl rfl rfl ?_
 refine G.step (OG.buildInts (xs := [.tmp 43]) (is := [u22]) rfl et22 rfl rfl rfl rfl rfl) rfl rfl rfl ?_
 rintro v36 _ ⟨hs37, rfl⟩
 refine G.step (OG.appendInts 4 rfl rfl et22 rfl rfl rfl (Ent.ints (i := 0) rfl) (by first | omega | (simp; omega))) rfl rfl rfl ?_
 rintro v38 _ ⟨hs39, rfl⟩
 refine G.stepD (OD.assign rfl rfl) rfl rfl rfl ?_
 refine G.nil (GE.blockN (GE.then_ (GC.region ?_)))
 refine G.stepD (OD.move rfl rfl) rfl rfl rfl ?_
 refine G.stepD (OD.addI rfl rfl rfl (by omega)) rfl rfl rfl ?_
 refine G.stepD (OD.assign rfl rfl) rfl rfl rfl ?_
 refine G.nil ?_
 exact GE.again (a + 1, us ++ [u22], ws ++ [u22], v38, v29, u32, u33) (⟨by omega, by rw [List.length_append, List.length_singleton]; omega, fun q hq => (List.mem_append.1 hq).elim (hur q) (fun e => by rw [List.mem_singleton.1 e]; omega), by rw [List.length_append, hwl]; rfl, fun q hq => (List.mem_append.1 hq).elim (hwr q) (fun e => by rw [List.mem_singleton.1 e]; omega), hs39, hs30, by omega⟩) (by first | omega | (dsimp only; omega)) ⟨rfl, rfl, rfl, rfl, rfl, rfl, rfl, trivial⟩ [1, 2, 2, 2, 2, 2] 2 rfl
 replace hc35 := eq_true_of_not hc35
 refine GC.skip (GE.blockN (GE.then_ (GC.region ?_)))
 refine G.stepD (OD.move rfl rfl) rfl rfl rfl ?_
 refine G.stepD (OD.addI rfl rfl rfl (by omega)) rfl rfl rfl ?_
 refine G.stepD (OD.assign rfl rfl) rfl rfl rfl ?_
 refine G.nil ?_
 exact GE.again (a + 1, us, ws ++ [u22], vu, v29, u32, u33) (⟨by omega, by omega, hur, by rw [List.length_append, hwl]; rfl, fun q hq => (List.mem_append.1 hq).elim (hwr q) (fun e => by rw [List.mem_singleton.1 e]; omega), hvu, hs30, by omega⟩) (by first | omega | (dsimp only; omega)) ⟨rfl, rfl, rfl, rfl, rfl, rfl, rfl, trivial⟩ [0, 1, 1, 1, 1, 1] 1 rfl
 replace hc21 := of_decide_eq_false hc21
 refine GC.exit (GE.pass (GE.pass (GE.hit (GE.then_ (GC.seq (GC.seq (GC.region ?_)))))))
 refine G.stepD (OD.move rfl rfl) rfl rfl rfl ?_
 refine G.step (OG.call [.pointer (some ⟨g2, 0, none⟩), .int .i64 (4)] ent72 rfl rfl rfl rfl (by exact (l1Once_w scode (Ent.drop 5 ecode) (by omega) (by omega) (by omega)))) rfl rfl rfl ?_
 rintro _ _ ⟨u40, u41, u42, rfl, hs43, rfl⟩
 refine G.nil (GE.then_ ?_)
 refine GC.cond rfl (fun hc44 => ?_) (fun hc44 => ?_)
 refine GC.region ?_
 refine G.stepD (OD.move rfl rfl) rfl rfl rfl ?_
 refine G.stepD (OD.move rfl rfl) rfl rfl rfl ?_
 refine G.stepD (OD.fieldAddr rfl rfl fa27_0) rfl rfl rfl ?_
 refine G.stepD (OD.load rfl ti3 rfl (i := 3) rfl rfl) rfl rfl rfl ?_
 refine G.step (OG.call [.pointer (some ⟨g2, 0, none⟩), .int .i64 (cR (smNm g4))] ent71 rfl rfl rfl rfl (by exact (l1Below_w scode (Ent.drop 5 ecode) (by omega) (by omega) (by omega)))) rfl rfl rfl ?_
 rintro _ _ ⟨u45, u46, u47, rfl, hs48, hs49, rfl⟩
 refine G.step (OG.buildInts (xs := [.tmp 52]) (is := [u45]) rfl et22 rfl rfl rfl rfl rfl) rfl rfl rfl ?_
 rintro v50 _ ⟨hs51, rfl⟩
 refine G.step (OG.appendInts 3 rfl rfl et22 rfl rfl rfl (Ent.ints (i := 0) rfl) (by first | omega | (simp; omega))) rfl rfl rfl ?_
 rintro v52 _ ⟨hs53, rfl⟩
 refine G.stepD (OD.assign rfl rfl) rfl rfl rfl ?_
 refine G.nil (GE.then_ (GC.seq ?_))
 refine GC.at [1, 0, 0, 0, 0, 0, 0] 0 (env' := [(2, .pointer (some ⟨g1, 0, none⟩)), (6, .pointer (some ⟨g2, 0, none⟩)), (7, .pointer (some ⟨g11, 0, none⟩)), (11, .int .i64 (u16)), (10, vv), (12, .int .i64 ((a : Int))), (26, .int .i64 ((a : Int))), (27, .int .i64 (u16)), (28, .bool (decide ((a : Int) < u16))), (46, .pointer (some ⟨g2, 0, none⟩)), (47, .bool (u40)), (48, vu), (49, .pointer (some ⟨g2, 0, none⟩)), (50, .pointer (some ⟨g11, 0, none⟩)), (51, .int .i64 (cR (smNm g4))), (52, .int .i64 (u45)), (53, v50), (54, v52), (9, v52)]) ⟨rfl, rfl, rfl, rfl, rfl, rfl, rfl, rfl, rfl, rfl, rfl, rfl, rfl, rfl, rfl, rfl, rfl, rfl, rfl, trivial⟩ (own' := box g2 113 [vcode, .int .i64 (u46), .int .i64 (u47)] :: ints 3 v50 [u45] :: ints 3 vv ws :: ints 3 v52 (us ++ [u45]) :: box g11 27 [.int .i64 (cR (smNm g4)), v9] :: ints 3 v9 (cD (smNm g4)) :: box g1 27 [.int .i64 (0), .slice none 0 0] :: own) rfl ?_
 refine GC.curA (by omega) ?_
 refine GC.at [] 0 (env' := [(2, .pointer (some ⟨g1, 0, none⟩)), (6, .pointer (some ⟨g2, 0, none⟩)), (7, .pointer (some ⟨g11, 0, none⟩)), (10, vv), (9, v52)]) ⟨rfl, rfl, rfl, rfl, rfl, trivial⟩ rfl ?_
 refine GC.late (σ := [1, 2, 0, 3, 4, 5, 6, 7, 8, 9, 10, 11, 12, 13, 14, 15]) (L := [1, 2]) (its := [⟨56, [], [], [], [], fun _ => v52, fun _ => True, fun _ => []⟩,
     ⟨57, [], [], [], [], fun _ => vv, fun _ => True, fun _ => []⟩,
     ⟨55, [], [], [], [], fun _ => .agg #[.int .i64 (cR (smNm g4)), v9], fun _ => True, fun _ => []⟩,
     ⟨58, [], [], [], [], fun _ => .pointer (some ⟨g2, 0, none⟩), fun _ => True, fun _ => []⟩,
     ⟨59, [], [], [], [], fun _ => .pointer (some ⟨g11, 0, none⟩), fun _ => True, fun _ => []⟩,
     ⟨60, [(4, 59)], [], [], [], fun _ => .int .i64 (cR (smNm g4)), fun _ => True, fun _ => []⟩,
     ⟨61, [(3, 58), (5, 60)], [], [], [6], fun ds => ((ds.getD 0 []).getD 0 undef), fun ds => IsS ((ds.getD 0 []).getD 0 undef) ∧ ((toIs ((ds.getD 0 []).getD 1 undef)).length = (cR (smNm g4) : Int).toNat) ∧ (∀ y ∈ (toIs ((ds.getD 0 []).getD 1 undef)), 0 ≤ y ∧ y < 5), fun ds => [ints 3 ((ds.getD 0 []).getD 0 undef) (toIs ((ds.getD 0 []).getD 1 undef))]⟩,
     ⟨62, [], [], [], [], fun _ => .pointer (some ⟨g2, 0, none⟩), fun _ => True, fun _ => []⟩,
     ⟨63, [], [], [], [], fun _ => .pointer (some ⟨g11, 0, none⟩), fun _ => True, fun _ => []⟩,
     ⟨64, [(8, 63)], [], [], [], fun _ => .int .i64 (cR (smNm g4)), fun _ => True, fun _ => []⟩,
     ⟨65, [(7, 62), (9, 64)], [], [], [10], fun ds => ((ds.getD 0 []).getD 0 undef), fun ds => IsS ((ds.getD 0 []).getD 0 undef) ∧ ((toIs ((ds.getD 0 []).getD 1 undef)).length = (cR (smNm g4) : Int).toNat) ∧ (∀ y ∈ (toIs ((ds.getD 0 []).getD 1 undef)), 0 ≤ y ∧ y < 5), fun ds => [ints 3 ((ds.getD 0 []).getD 0 undef) (toIs ((ds.getD 0 []).getD 1 undef))]⟩,
     ⟨66, [(6, 61), (10, 65)], [6, 10], [], [6, 10, 11], fun ds => ((ds.getD 2 []).getD 0 undef), fun ds => IsS ((ds.getD 2 []).getD 0 undef), fun ds => [ints 3 ((ds.getD 2 []).getD 0 undef) (lpF (toIs ((ds.getD 0 []).getD 1 undef)) (-1) (toIs ((ds.getD 1 []).getD 1 undef)))]⟩]) (by kernel_rfl) (by repeat (first | refine PanQ.then_ ?_ | refine PanQ.block ?_ | exact PanQ.body)) (by kernel_rfl) ⟨⟨_, rfl, .inl rfl⟩, ⟨_, rfl, .inl rfl⟩, trivial⟩ (by kernel_rfl) (POps.cons ?_ (POps.cons ?_ (POps.cons ?_ (POps.cons ?_ (POps.cons ?_ (POps.cons ?_ (POps.cons ?_ (POps.cons ?_ (POps.cons ?_ (POps.cons ?_ (POps.cons ?_ (POps.cons ?_ POps.nil)))))))))))) ?_
 intro θ R hd
 exact Opp.plain (OG.imp (OD.move rfl rfl) (by rintro _ _ ⟨rfl, rfl⟩; exact ⟨[], rfl, trivial, rfl⟩)) rfl
 intro θ R hd
 exact Opp.plain (OG.imp (OD.move rfl rfl) (by rintro _ _ ⟨rfl, rfl⟩; exact ⟨[], rfl, trivial, rfl⟩)) rfl
 intro θ R hd
 exact Opp.plain (OG.imp (OD.loadAgg rfl ti27 rfl (i := 4) rfl (us := [.int .i64 (cR (smNm g4)), v9]) rfl rfl) (by rintro _ _ ⟨rfl, rfl⟩; exact ⟨[], rfl, trivial, rfl⟩)) rfl
 intro θ R hd
 exact Opp.plain (OG.imp (OD.move rfl rfl) (by rintro _ _ ⟨rfl, rfl⟩; exact ⟨[], rfl, trivial, rfl⟩)) rfl
 intro θ R hd
 exact Opp.plain (OG.imp (OD.fieldAddr rfl rfl fa27_0) (by rintro _ _ ⟨rfl, rfl⟩; exact ⟨[], rfl, trivial, rfl⟩)) rfl
 intro θ R hd
 obtain ⟨h4d, _⟩ := hd
 exact Opp.plain (OG.imp (OD.load rfl ti3 rfl (i := 4) rfl rfl) (by rintro _ _ ⟨rfl, rfl⟩; exact ⟨[], rfl, trivial, rfl⟩)) rfl
 intro θ R hd
 obtain ⟨h3d, h5d, _⟩ := hd
 exact Opp.plain (OG.imp (OG.call [.pointer (some ⟨g2, 0, none⟩), .int .i64 (cR (smNm g4)), .int .i64 (5)] ent74 rfl rfl rfl rfl (by exact (l12List_w_c (i := 0) rfl scode (Ent.drop 6 ecode.app) (by omega) (by omega) (by omega)))) (by rintro v54 _ ⟨_, y55, rfl, hs56, hs57, hs58, rfl⟩; obtain ⟨y55z, rfl⟩ := toIs_ex y55; exact ⟨[v54, y55z], rfl, ⟨hs56, hs57, hs58⟩, rfl⟩)) rfl
 intro θ R hd
 exact Opp.plain (OG.imp (OD.move rfl rfl) (by rintro _ _ ⟨rfl, rfl⟩; exact ⟨[], rfl, trivial, rfl⟩)) rfl
 intro θ R hd
 exact Opp.plain (OG.imp (OD.fieldAddr rfl rfl fa27_0) (by rintro _ _ ⟨rfl, rfl⟩; exact ⟨[], rfl, trivial, rfl⟩)) rfl
 intro θ R hd
 obtain ⟨h8d, _⟩ := hd
 exact Opp.plain (OG.imp (OD.load rfl ti3 rfl (i := 4) rfl rfl) (by rintro _ _ ⟨rfl, rfl⟩; exact ⟨[], rfl, trivial, rfl⟩)) rfl
 intro θ R hd
 obtain ⟨h7d, h9d, _⟩ := hd
 exact Opp.plain (OG.imp (OG.call [.pointer (some ⟨g2, 0, none⟩), .int .i64 (cR (smNm g4)), .int .i64 (5)] ent74 rfl rfl rfl rfl (by exact (l12List_w_c (i := 0) rfl scode (Ent.drop 6 ecode.app) (by omega) (by omega) (by omega)))) (by rintro v59 _ ⟨_, y60, rfl, hs61, hs62, hs63, rfl⟩; obtain ⟨y60z, rfl⟩ := toIs_ex y60; exact ⟨[v59, y60z], rfl, ⟨hs61, hs62, hs63⟩, rfl⟩)) rfl
 intro θ R hd
 obtain ⟨h6d, h10d, _⟩ := hd
 exact Opp.plain (OG.imp (OG.call [((θ 6).getD 0 undef), .int .i64 (-1), ((θ 10).getD 0 undef)] ent73 rfl rfl rfl rfl (by exact (l5Plus_w h6d.1 (Ent.ints (i := 0) rfl) h10d.1 (Ent.ints (i := 1) rfl) ((show (toIs ((θ 6).getD 1 undef)).length ≤ 1073741824 by have h9x : ((toIs ((θ 6).getD 1 undef)).length = (cR (smNm g4) : Int).toNat) := h6d.2.1; omega)) ((show (toIs ((θ 10).getD 1 undef)).length = (toIs ((θ 6).getD 1 undef)).length by have h9x : ((toIs ((θ 6).getD 1 undef)).length = (cR (smNm g4) : Int).toNat) := h6d.2.1; have h9y : ((toIs ((θ 10).getD 1 undef)).length = (cR (smNm g4) : Int).toNat) := h10d.2.1; omega))))) (by rintro v64 _ ⟨_, rfl, hs65, rfl⟩; exact ⟨[v64], rfl, hs65, rfl⟩)) rfl
 intro θ hall
 obtain ⟨_, _, _, _, _, _, h6a, _, _, _, h10a, h11a, _⟩ := hall
 refine G.at [] 0 (env' := [(2, .pointer (some ⟨g1, 0, none⟩)), (56, v52), (57, vv), (55, .agg #[.int .i64 (cR (smNm g4)), v9]), (66, ((θ 11).getD 0 undef))]) ⟨rfl, rfl, rfl, rfl, rfl, trivial⟩ (own' := ints 3 ((θ 6).getD 0 undef) (toIs ((θ 6).getD 1 undef)) :: ints 3 ((θ 10).getD 0 undef) (toIs ((θ 10).getD 1 undef)) :: ints 3 ((θ 11).getD 0 undef) (lpF (toIs ((θ 6).getD 1 undef)) (-1) (toIs ((θ 10).getD 1 undef))) :: curA g2 113 vcode :: ints 3 v50 [u45] :: ints 3 vv ws :: ints 3 v52 (us ++ [u45]) :: box g11 27 [.int .i64 (cR (smNm g4)), v9] :: ints 3 v9 (cD (smNm g4)) :: box g1 27 [.int .i64 (0), .slice none 0 0] :: own) rfl ?_
 have hs66 : IsS ((θ 6).getD 0 undef) := h6a.1
 have hs67 : ((toIs ((θ 6).getD 1 undef)).length = (cR (smNm g4) : Int).toNat) := h6a.2.1
 have hs68 : (∀ y ∈ (toIs ((θ 6).getD 1 undef)), 0 ≤ y ∧ y < 5) := h6a.2.2
 clear h6a
 generalize ((θ 6).getD 0 undef) = v69 at *
 generalize (toIs ((θ 6).getD 1 undef)) = y70 at *
 have hs71 : IsS ((θ 10).getD 0 undef) := h10a.1
 have hs72 : ((toIs ((θ 10).getD 1 undef)).length = (cR (smNm g4) : Int).toNat) := h10a.2.1
 have hs73 : (∀ y ∈ (toIs ((θ 10).getD 1 undef)), 0 ≤ y ∧ y < 5) := h10a.2.2
 clear h10a
 generalize ((θ 10).getD 0 undef) = v74 at *
 generalize (toIs ((θ 10).getD 1 undef)) = y75 at *
 have hs76 : IsS ((θ 11).getD 0 undef) := h11a
 clear h11a
 generalize ((θ 11).getD 0 undef) = v77 at *
 show G _ _ _ [_, _, _, _] _ _ _ _
 refine G.stepD0 (OD.store rfl ti27 rfl rfl (us := [.int .i64 (cR (smNm g4)), v9]) rfl rfl (allC rfl (allC (IsS.one hs10) rfl)) (i := 9) rfl rfl) rfl rfl ?_
 refine G.stepD (OD.assign rfl rfl) rfl rfl rfl ?_
 refine G.stepD (OD.assign rfl rfl) rfl rfl rfl ?_
 refine G.stepD (OD.assign rfl rfl) rfl rfl rfl ?_
 refine G.nil (GE.then_ (GC.ret ?_))
 exact GE.body [8, 6, 5, 2] 6 (resN rfl (RVs.cons (rv_cells ti27 rfl (i := 9) rfl rfl) (RVs.cons (rv_tmp rfl) (RVs.cons (rv_tmp rfl) (RVs.cons (rv_tmp rfl) RVs.nil)))) rfl) rfl (⟨v9, v52, vv, v77, g4, (us ++ [u45]), (ws), (lpF y70 (-1) y75), rfl, (hs10), (hs53), (hvv), (hs76), (by assumption), (by first | exact ⟨by omega, hur⟩ | exact ⟨by rw [List.length_append, List.length_singleton]; omega, fun q hq => (List.mem_append.1 hq).elim (hur q) (fun e => by rw [List.mem_singleton.1 e]; omega)⟩), (⟨by omega, hwr⟩), (lp_sub (by assumption) (by assumption) (by assumption) (by assumption)), rfl⟩)
 refine GC.skip (GE.then_ (GC.seq ?_))
 refine GC.at [0, 0, 0, 0, 0, 0] 0 (env' := [(2, .pointer (some ⟨g1, 0, none⟩)), (6, .pointer (some ⟨g2, 0, none⟩)), (7, .pointer (some ⟨g11, 0, none⟩)), (11, .int .i64 (u16)), (9, vu), (10, vv), (12, .int .i64 ((a : Int))), (26, .int .i64 ((a : Int))), (27, .int .i64 (u16)), (28, .bool (decide ((a : Int) < u16))), (46, .pointer (some ⟨g2, 0, none⟩)), (47, .bool (u40))]) ⟨rfl, rfl, rfl, rfl, rfl, rfl, rfl, rfl, rfl, rfl, rfl, rfl, trivial⟩ (own' := box g2 113 [vcode, .int .i64 (u41), .int .i64 (u42)] :: ints 3 vv ws :: ints 3 vu us :: box g11 27 [.int .i64 (cR (smNm g4)), v9] :: ints 3 v9 (cD (smNm g4)) :: box g1 27 [.int .i64 (0), .slice none 0 0] :: own) rfl ?_
 refine GC.curA (by omega) ?_
 refine GC.at [] 0 (env' := [(2, .pointer (some ⟨g1, 0, none⟩)), (6, .pointer (some ⟨g2, 0, none⟩)), (7, .pointer (some ⟨g11, 0, none⟩)), (9, vu), (10, vv)]) ⟨rfl, rfl, rfl, rfl, rfl, trivial⟩ rfl ?_
 refine GC.late (σ := [1, 2, 0, 3, 4, 5, 6, 7, 8, 9, 10, 11, 12, 13, 14, 15]) (L := [1, 2]) (its := [⟨56, [], [], [], [], fun _ => vu, fun _ => True, fun _ => []⟩,
     ⟨57, [], [], [], [], fun _ => vv, fun _ => True, fun _ => []⟩,
     ⟨55, [], [], [], [], fun _ => .agg #[.int .i64 (cR (smNm g4)), v9], fun _ => True, fun _ => []⟩,
     ⟨58, [], [], [], [], fun _ => .pointer (some ⟨g2, 0, none⟩), fun _ => True, fun _ => []⟩,
     ⟨59, [], [], [], [], fun _ => .pointer (some ⟨g11, 0, none⟩), fun _ => True, fun _ => []⟩,
     ⟨60, [(4, 59)], [], [], [], fun _ => .int .i64 (cR (smNm g4)), fun _ => True, fun _ => []⟩,
     ⟨61, [(3, 58), (5, 60)], [], [], [6], fun ds => ((ds.getD 0 []).getD 0 undef), fun ds => IsS ((ds.getD 0 []).getD 0 undef) ∧ ((toIs ((ds.getD 0 []).getD 1 undef)).length = (cR (smNm g4) : Int).toNat) ∧ (∀ y ∈ (toIs ((ds.getD 0 []).getD 1 undef)), 0 ≤ y ∧ y < 5), fun ds => [ints 3 ((ds.getD 0 []).getD 0 undef) (toIs ((ds.getD 0 []).getD 1 undef))]⟩,
     ⟨62, [], [], [], [], fun _ => .pointer (some ⟨g2, 0, none⟩), fun _ => True, fun _ => []⟩,
     ⟨63, [], [], [], [], fun _ => .pointer (some ⟨g11, 0, none⟩), fun _ => True, fun _ => []⟩,
     ⟨64, [(8, 63)], [], [], [], fun _ => .int .i64 (cR (smNm g4)), fun _ => True, fun _ => []⟩,
     ⟨65, [(7, 62), (9, 64)], [], [], [10], fun ds => ((ds.getD 0 []).getD 0 undef), fun ds => IsS ((ds.getD 0 []).getD 0 undef) ∧ ((toIs ((ds.getD 0 []).getD 1 undef)).length = (cR (smNm g4) : Int).toNat) ∧ (∀ y ∈ (toIs ((ds.getD 0 []).getD 1 undef)), 0 ≤ y ∧ y < 5), fun ds => [ints 3 ((ds.getD 0 []).getD 0 undef) (toIs ((ds.getD 0 []).getD 1 undef))]⟩,
     ⟨66, [(6, 61), (10, 65)], [6, 10], [], [6, 10, 11], fun ds => ((ds.getD 2 []).getD 0 undef), fun ds => IsS ((ds.getD 2 []).getD 0 undef), fun ds => [ints 3 ((ds.getD 2 []).getD 0 undef) (lpF (toIs ((ds.getD 0 []).getD 1 undef)) (-1) (toIs ((ds.getD 1 []).getD 1 undef)))]⟩]) (by kernel_rfl) (by repeat (first | refine PanQ.then_ ?_ | refine PanQ.block ?_ | exact PanQ.body)) (by kernel_rfl) ⟨⟨_, rfl, .inl rfl⟩, ⟨_, rfl, .inl rfl⟩, trivial⟩ (by kernel_rfl) (POps.cons ?_ (POps.cons ?_ (POps.cons ?_ (POps.cons ?_ (POps.cons ?_ (POps.cons ?_ (POps.cons ?_ (POps.cons ?_ (POps.cons ?_ (POps.cons ?_ (POps.cons ?_ (POps.cons ?_ POps.nil)))))))))))) ?_
 intro θ R hd
 exact Opp.plain (OG.imp (OD.move rfl rfl) (by rintro _ _ ⟨rfl, rfl⟩; exact ⟨[], rfl, trivial, rfl⟩)) rfl
 intro θ R hd
 exact Opp.plain (OG.imp (OD.move rfl rfl) (by rintro _ _ ⟨rfl, rfl⟩; exact ⟨[], rfl, trivial, rfl⟩)) rfl
 intro θ R hd
 exact Opp.plain (OG.imp (OD.loadAgg rfl ti27 rfl (i := 3) rfl (us := [.int .i64 (cR (smNm g4)), v9]) rfl rfl) (by rintro _ _ ⟨rfl, rfl⟩; exact ⟨[], rfl, trivial, rfl⟩)) rfl
 intro θ R hd
 exact Opp.plain (OG.imp (OD.move rfl rfl) (by rintro _ _ ⟨rfl, rfl⟩; exact ⟨[], rfl, trivial, rfl⟩)) rfl
 intro θ R hd
 exact Opp.plain (OG.imp (OD.fieldAddr rfl rfl fa27_0) (by rintro _ _ ⟨rfl, rfl⟩; exact ⟨[], rfl, trivial, rfl⟩)) rfl
 intro θ R hd
 obtain ⟨h4d, _⟩ := hd
 exact Opp.plain (OG.imp (OD.load rfl ti3 rfl (i := 3) rfl rfl) (by rintro _ _ ⟨rfl, rfl⟩; exact ⟨[], rfl, trivial, rfl⟩)) rfl
 intro θ R hd
 obtain ⟨h3d, h5d, _⟩ := hd
 exact Opp.plain (OG.imp (OG.call [.pointer (some ⟨g2, 0, none⟩), .int .i64 (cR (smNm g4)), .int .i64 (5)] ent74 rfl rfl rfl rfl (by exact (l12List_w_c (i := 0) rfl scode (Ent.drop 5 ecode.app) (by omega) (by omega) (by omega)))) (by rintro v78 _ ⟨_, y79, rfl, hs80, hs81, hs82, rfl⟩; obtain ⟨y79z, rfl⟩ := toIs_ex y79; exact ⟨[v78, y79z], rfl, ⟨hs80, hs81, hs82⟩, rfl⟩)) rfl
 intro θ R hd
 exact Opp.plain (OG.imp (OD.move rfl rfl) (by rintro _ _ ⟨rfl, rfl⟩; exact ⟨[], rfl, trivial, rfl⟩)) rfl
 intro θ R hd
 exact Opp.plain (OG.imp (OD.fieldAddr rfl rfl fa27_0) (by rintro _ _ ⟨rfl, rfl⟩; exact ⟨[], rfl, trivial, rfl⟩)) rfl
 intro θ R hd
 obtain ⟨h8d, _⟩ := hd
 exact Opp.plain (OG.imp (OD.load rfl ti3 rfl (i := 3) rfl rfl) (by rintro _ _ ⟨rfl, rfl⟩; exact ⟨[], rfl, trivial, rfl⟩)) rfl
 intro θ R hd
 obtain ⟨h7d, h9d, _⟩ := hd
 exact Opp.plain (OG.imp (OG.call [.pointer (some ⟨g2, 0, none⟩), .int .i64 (cR (smNm g4)), .int .i64 (5)] ent74 rfl rfl rfl rfl (by exact (l12List_w_c (i := 0) rfl scode (Ent.drop 5 ecode.app) (by omega) (by omega) (by omega)))) (by rintro v83 _ ⟨_, y84, rfl, hs85, hs86, hs87, rfl⟩; obtain ⟨y84z, rfl⟩ := toIs_ex y84; exact ⟨[v83, y84z], rfl, ⟨hs85, hs86, hs87⟩, rfl⟩)) rfl
 intro θ R hd
 obtain ⟨h6d, h10d, _⟩ := hd
 exact Opp.plain (OG.imp (OG.call [((θ 6).getD 0 undef), .int .i64 (-1), ((θ 10).getD 0 undef)] ent73 rfl rfl rfl rfl (by exact (l5Plus_w h6d.1 (Ent.ints (i := 0) rfl) h10d.1 (Ent.ints (i := 1) rfl) ((show (toIs ((θ 6).getD 1 undef)).length ≤ 1073741824 by have h9x : ((toIs ((θ 6).getD 1 undef)).length = (cR (smNm g4) : Int).toNat) := h6d.2.1; omega)) ((show (toIs ((θ 10).getD 1 undef)).length = (toIs ((θ 6).getD 1 undef)).length by have h9x : ((toIs ((θ 6).getD 1 undef)).length = (cR (smNm g4) : Int).toNat) := h6d.2.1; have h9y : ((toIs ((θ 10).getD 1 undef)).length = (cR (smNm g4) : Int).toNat) := h10d.2.1; omega))))) (by rintro v88 _ ⟨_, rfl, hs89, rfl⟩; exact ⟨[v88], rfl, hs89, rfl⟩)) rfl
 intro θ hall
 obtain ⟨_, _, _, _, _, _, h6a, _, _, _, h10a, h11a, _⟩ := hall
 refine G.at [] 0 (env' := [(2, .pointer (some ⟨g1, 0, none⟩)), (56, vu), (57, vv), (55, .agg #[.int .i64 (cR (smNm g4)), v9]), (66, ((θ 11).getD 0 undef))]) ⟨rfl, rfl, rfl, rfl, rfl, trivial⟩ (own' := ints 3 ((θ 6).getD 0 undef) (toIs ((θ 6).getD 1 undef)) :: ints 3 ((θ 10).getD 0 undef) (toIs ((θ 10).getD 1 undef)) :: ints 3 ((θ 11).getD 0 undef) (lpF (toIs ((θ 6).getD 1 undef)) (-1) (toIs ((θ 10).getD 1 undef))) :: curA g2 113 vcode :: ints 3 vv ws :: ints 3 vu us :: box g11 27 [.int .i64 (cR (smNm g4)), v9] :: ints 3 v9 (cD (smNm g4)) :: box g1 27 [.int .i64 (0), .slice none 0 0] :: own) rfl ?_
 have hs90 : IsS ((θ 6).getD 0 undef) := h6a.1
 have hs91 : ((toIs ((θ 6).getD 1 undef)).length = (cR (smNm g4) : Int).toNat) := h6a.2.1
 have hs92 : (∀ y ∈ (toIs ((θ 6).getD 1 undef)), 0 ≤ y ∧ y < 5) := h6a.2.2
 clear h6a
 generalize ((θ 6).getD 0 undef) = v93 at *
 generalize (toIs ((θ 6).getD 1 undef)) = y94 at *
 have hs95 : IsS ((θ 10).getD 0 undef) := h10a.1
 have hs96 : ((toIs ((θ 10).getD 1 undef)).length = (cR (smNm g4) : Int).toNat) := h10a.2.1
 have hs97 : (∀ y ∈ (toIs ((θ 10).getD 1 undef)), 0 ≤ y ∧ y < 5) := h10a.2.2
 clear h10a
 generalize ((θ 10).getD 0 undef) = v98 at *
 generalize (toIs ((θ 10).getD 1 undef)) = y99 at *
 have hs100 : IsS ((θ 11).getD 0 undef) := h11a
 clear h11a
 generalize ((θ 11).getD 0 undef) = v101 at *
 show G _ _ _ [_, _, _, _] _ _ _ _
 refine G.stepD0 (OD.store rfl ti27 rfl rfl (us := [.int .i64 (cR (smNm g4)), v9]) rfl rfl (allC rfl (allC (IsS.one hs10) rfl)) (i := 8) rfl rfl) rfl rfl ?_
 refine G.stepD (OD.assign rfl rfl) rfl rfl rfl ?_
 refine G.stepD (OD.assign rfl rfl) rfl rfl rfl ?_
 refine G.stepD (OD.assign rfl rfl) rfl rfl rfl ?_
 refine G.nil (GE.then_ (GC.ret ?_))
 exact GE.body [7, 5, 4, 2] 5 (resN rfl (RVs.cons (rv_cells ti27 rfl (i := 8) rfl rfl) (RVs.cons (rv_tmp rfl) (RVs.cons (rv_tmp rfl) (RVs.cons (rv_tmp rfl) RVs.nil)))) rfl) rfl (⟨v9, vu, vv, v101, g4, (us), (ws), (lpF y94 (-1) y99), rfl, (hs10), (hvu), (hvv), (hs100), (by assumption), (by first | exact ⟨by omega, hur⟩ | exact ⟨by rw [List.length_append, List.length_singleton]; omega, fun q hq => (List.mem_append.1 hq).elim (hur q) (fun e => by rw [List.mem_singleton.1 e]; omega)⟩), (⟨by omega, hwr⟩), (lp_sub (by assumption) (by assumption) (by assumption) (by assumption)), rfl⟩)
end Go.Proofs.YtgelkakjmbiibaaGreatDoor
