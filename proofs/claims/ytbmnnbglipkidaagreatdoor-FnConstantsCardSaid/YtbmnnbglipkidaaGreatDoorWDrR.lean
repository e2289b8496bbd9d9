/-
  Roots that are drawn: contracts by walks.
-/
import Derived.Test.YtbmnnbglipkidaaGreatDoorFct
import Derived.Test.YtbmnnbglipkidaaGreatDoorWTyp
import Derived.Test.YtbmnnbglipkidaaGreatDoorZ20
namespace Go.Proofs.YtbmnnbglipkidaaGreatDoor
set_option linter.unusedVariables false
set_option linter.unusedSimpArgs false
open Go.RowKit
theorem ent42 : ∀ us w, (callFunc 42 us).run Tryz.prog w = .ok (.enter 42 us) w := fun us w => by kernel_rfl
theorem ent43 : ∀ us w, (callFunc 43 us).run Tryz.prog w = .ok (.enter 43 us) w := fun us w => by kernel_rfl
theorem ent44 : ∀ us w, (callFunc 44 us).run Tryz.prog w = .ok (.enter 44 us) w := fun us w => by kernel_rfl
theorem ent45 : ∀ us w, (callFunc 45 us).run Tryz.prog w = .ok (.enter 45 us) w := fun us w => by kernel_rfl
theorem ent46 : ∀ us w, (callFunc 46 us).run Tryz.prog w = .ok (.enter 46 us) w := fun us w => by kernel_rfl
theorem ent47 : ∀ us w, (callFunc 47 us).run Tryz.prog w = .ok (.enter 47 us) w := fun us w => by kernel_rfl
theorem ent48 : ∀ us w, (callFunc 48 us).run Tryz.prog w = .ok (.enter 48 us) w := fun us w => by kernel_rfl
set_option maxHeartbeats 4000000 in
set_option maxRecDepth 100000 in
theorem l12Root_w {W : World} {own : List Asn} {gc : Nat} {vb : Value} {bs : List Int} {ci ch : Int} {cr : Int} {vcd : Value} {cd : List Int}  (sb : IsS vb) (eb : Ent own fun w => Byts w vb bs)   (scd : IsS vcd) (ecd : Ent own fun w => Ints w vcd cd)  (hci : 0 ≤ ci) (hbl : bs.length ≤ 1048576) (hS : (tyS cr cd).isSome = true) : Spec Tryz.prog 46 [.pointer (some ⟨gc, 0, none⟩), .agg #[.int .i64 (cr), vcd]] W (box gc 111 [vb, .int .i64 (ci), .int .i64 (ch)] :: own) (fun v ow => ∃ (v0 : Value) (x0 : List Int) (i0 : Int) (h0 : Int), v = v0 ∧ IsS v0 ∧ (rtB (rSt cr cd) x0 = true) ∧ (0 ≤ i0) ∧ ow = ints 3 v0 x0 :: box gc 111 [vb, .int .i64 (i0), .int .i64 (h0)] :: own) := by
 have hrp := (rtOk hS).pos
 have hrs := (rtOk hS).slen
 have hrk := (rtOk hS).rk
 have hrf := (rtOk hS).few
 have hcr4 := (tyS_ok hS).1
 refine Spec.enter Tryz.f46 _ Tryz.func46 rfl (n := 21) rfl rfl ?_
 refine Zs (Zr ?_)
 refine G.step (OG.box (cs := [.int .i64 (cr), vcd]) rfl rfl rfl) rfl rfl rfl ?_
 rintro _ _ ⟨g1, rfl, rfl⟩
 refine Za rfl rfl rfl rfl rfl ?_
 refine Zn (Zt (Zs (Zr ?_)))
 refine G.stepD (OD.loadAgg rfl ti27 rfl (i := 0) rfl (us := [.int .i64 (cr), vcd]) rfl rfl) rfl rfl rfl ?_
 refine G.step (OG.call [.agg #[.int .i64 (cr), vcd]] ent39 rfl rfl rfl rfl (by exact (l5Roots_w scd (Ent.drop 2 ecd) ((tyS_ok hS).1) ((tyS_ok hS).2) (hS)))) rfl rfl rfl ?_
 rintro v2 _ ⟨_, u3, rfl, hs4, hs5, hs6, rfl⟩
 refine Za rfl rfl rfl rfl rfl ?_
 refine Zn (Zt (Zs (Zr ?_)))
 refine Zm rfl rfl rfl rfl rfl ?_
 refine Zm rfl rfl rfl rfl rfl ?_
 refine Zm rfl rfl rfl rfl rfl ?_
 refine G.stepD (OD.len rfl rfl et60 rfl (Ent.lst (i := 0) rfl)) rfl rfl rfl ?_
 refine G.at [3] 0 (env' := [(0, .pointer (some ⟨gc, 0, none⟩)), (1, .agg #[.int .i64 (cr), vcd]), (3, .pointer (some ⟨g1, 0, none⟩)), (4, .slice none 0 0), (7, .agg #[.int .i64 (cr), vcd]), (8, v2), (5, v2), (9, v2), (10, .pointer (some ⟨gc, 0, none⟩)), (11, v2), (12, .int .i64 ((u3.length : Nat)))]) ⟨rfl,rfl,rfl,rfl,rfl,rfl,rfl,rfl,rfl,rfl,rfl,trivial⟩ (own' := box gc 111 [vb, .int .i64 (ci), .int .i64 (ch)] :: lst 22 v2 u3 :: many (ints 3) u3 (rSt cr cd) :: box g1 27 [.int .i64 (cr), vcd] :: own) rfl ?_
 refine G.step (OG.call [.pointer (some ⟨gc, 0, none⟩), .int .i64 ((u3.length : Nat))] ent107 rfl rfl rfl rfl (by exact (l1Below_w sb (Ent.drop 3 eb) (by omega) (by omega) (by omega)))) rfl rfl rfl ?_
 rintro _ _ ⟨u7, u8, u9, rfl, hs10, hs11, rfl⟩
 refine G.stepD (OD.indexAddr rfl et60 rfl (Ent.lst (i := 1) rfl) rfl (by omega)) rfl rfl rfl ?_
 refine G.stepD (OD.loadElem rfl ti22 rfl (Ent.lst (i := 1) rfl) (by omega) rfl) rfl rfl rfl ?_
 refine Za rfl rfl rfl rfl rfl ?_
 refine Zn (Zt (Zs (Zs ?_)))
 have hxm : (rSt cr cd).getD ((u7 : Int).toNat) [] ∈ rSt cr cd := getD_memR (by omega)
 have hxb : rtB (rSt cr cd) ((rSt cr cd).getD ((u7 : Int).toNat) []) = true := by rw [rtB, List.contains_iff_mem.2 hxm]; rfl
 have hxt := (rtOk hS).tens hxb
 refine Zr ?_
 refine Zm rfl rfl rfl rfl rfl ?_
 refine G.step (OG.call [.pointer (some ⟨gc, 0, none⟩), .int .i64 (2)] ent110 rfl rfl rfl rfl (by exact (l1Once_w sb (Ent.drop 3 eb) (by omega) (by omega) (by decide)))) rfl rfl rfl ?_
 rintro _ _ ⟨u12, u13, u14, rfl, hs15, rfl⟩
 refine Zn (Zt ?_)
 refine GC.cond rfl (fun hc16 => ?_) (fun hc16 => ?_)
 refine Zs (Zr ?_)
 refine Zm rfl rfl rfl rfl rfl ?_
 refine G.step (OG.call [(u3.getD ((u7 : Int).toNat) undef)] ent80 rfl rfl rfl rfl (by exact (l5Minus_w (hs5.get (by omega)) (Ent.manyInts (i := 2) rfl ⟨by first | omega | (simp; omega), by first | omega | (simp; omega)⟩) (fun j _ => by have h1 := hxt.2 j; omega) (by have h1 := hxt.1; omega)))) rfl rfl rfl ?_
 rintro v17 _ ⟨_, rfl, hs18, rfl⟩
 refine Za rfl rfl rfl rfl rfl ?_
 refine Zn (Zt (GC.ret (GE.passR ?_)))
 skip
 exact GE.body [0, 0] 3 (res1 rfl rfl) rfl (⟨v17, (mnF ((rSt cr cd).getD ((u7 : Int).toNat) [])), u13, u14, rfl, (hs18), (by first | exact hxb | (rw [rtB_mn]; exact hxb)), (by omega), rfl⟩)
 refine Zk (Zt (Zs (Zr ?_)))
 refine Zm rfl rfl rfl rfl rfl ?_
 refine Za rfl rfl rfl rfl rfl ?_
 refine Zn (Zt (GC.ret ?_))
 refine GE.at [2, 0, 0, 0] 0 (env' := [(0, .pointer (some ⟨gc, 0, none⟩)), (1, .agg #[.int .i64 (cr), vcd]), (3, .pointer (some ⟨g1, 0, none⟩)), (7, .agg #[.int .i64 (cr), vcd]), (8, v2), (5, v2), (9, v2), (10, .pointer (some ⟨gc, 0, none⟩)), (11, v2), (12, .int .i64 ((u3.length : Nat))), (13, .int .i64 (u7)), (14, elemPtr v2 1 ((u7 : Int).toNat)), (15, (u3.getD ((u7 : Int).toNat) undef)), (6, (u3.getD ((u7 : Int).toNat) undef)), (16, .pointer (some ⟨gc, 0, none⟩)), (17, .bool (u12)), (20, (u3.getD ((u7 : Int).toNat) undef)), (4, (u3.getD ((u7 : Int).toNat) undef))]) ⟨rfl,rfl,rfl,rfl,rfl,rfl,rfl,rfl,rfl,rfl,rfl,rfl,rfl,rfl,rfl,rfl,rfl,rfl,trivial⟩ (own' := many (ints 3) u3 (rSt cr cd) :: box gc 111 [vb, .int .i64 (u13), .int .i64 (u14)] :: lst 22 v2 u3 :: box g1 27 [.int .i64 (cr), vcd] :: own) rfl ?_
 refine GE.manyTake ((u7 : Int).toNat) [] ⟨by omega, by omega⟩ ?_
 skip
 exact GE.body [0, 0] 2 (res1 rfl rfl) rfl (⟨(u3.getD ((u7 : Int).toNat) undef), ((rSt cr cd).getD ((u7 : Int).toNat) []), u13, u14, rfl, ((hs5.get (by omega))), (by first | exact hxb | (rw [rtB_mn]; exact hxb)), (by omega), rfl⟩)
theorem l12Root_w_c {W : World} {own : List Asn} {i : Nat} {gc : Nat} {vb : Value} {bs : List Int} {cr : Int} {vcd : Value} {cd : List Int} (hcu : own[i]? = some (curA gc 111 vb)) (sb : IsS vb) (eb : Ent (own.eraseIdx i) fun w => Byts w vb bs) (scd : IsS vcd) (ecd : Ent (own.eraseIdx i) fun w => Ints w vcd cd) (hbl : bs.length ≤ 1048576) (hS : (tyS cr cd).isSome = true) : Spec Tryz.prog 46 [.pointer (some ⟨gc, 0, none⟩), .agg #[.int .i64 (cr), vcd]] W own (fun v ow => ∃ (v0 : Value) (x0 : List Int), v = v0 ∧ IsS v0 ∧ (rtB (rSt cr cd) x0 = true) ∧ ow = ints 3 v0 x0 :: own) := fun w hst => by
  obtain ⟨ci, ch, hci, hs2⟩ := hst.curAt hcu
  refine (l12Root_w sb eb scd ecd hci hbl hS w hs2).mono ?_
  rintro e w2 ⟨v, ow, he, ⟨v0, x0, i0, h0, hv, a0, a1, a2, rfl⟩, hs⟩
  exact ⟨_, _, he, ⟨v0, x0, hv, a0, a1, rfl⟩, hs.curBack [ints 3 v0 x0] hcu a2⟩
set_option maxHeartbeats 4000000 in
set_option maxRecDepth 100000 in
theorem drawRoots_w {W : World} {own : List Asn} {vcode : Value} {code : List Int}  (scode : IsS vcode) (ecode : Ent own fun w => Byts w vcode code)  (hcl : code.length ≤ 1048576) : Spec Tryz.prog 16 [vcode] W own (fun v ow => ∃ (a0 : Value) (b0 : Value) (c0 : Value) (e0 : Value) (k0 : Nat) (o0 : List Int) (x0 : List Int) (y0 : List Int) (z0 : List Int), v = .tuple #[.agg #[.int .i64 (cR (tpNm k0)), a0], b0, c0, e0] ∧ IsS a0 ∧ IsS b0 ∧ IsS c0 ∧ IsS e0 ∧ (k0 < 19) ∧ (o0 ∈ ordP (cR (tpNm k0) : Int).toNat) ∧ (rtB (rSt (cR (tpNm k0)) (subD (cR (tpNm k0)) (cD (tpNm k0)) o0)) x0 = true) ∧ (rtB (rSt (cR (tpNm k0)) (subD (cR (tpNm k0)) (cD (tpNm k0)) o0)) y0 = true) ∧ (z0.length = (cR (tpNm k0) : Int).toNat ∧ ∀ q ∈ z0, -6 ≤ q ∧ q ≤ 6) ∧ ow = ints 3 a0 (subD (cR (tpNm k0)) (cD (tpNm k0)) o0) :: ints 3 b0 x0 :: ints 3 c0 y0 :: ints 3 e0 z0 :: own) := by
 refine Spec.enter Tryz.f16 _ Tryz.func16 rfl (n := 36) rfl rfl ?_
 refine Zs (Zr ?_)
 refine G.step (OG.alloc rfl ti27 (zs := [.int .i64 (0), .slice none 0 0]) rfl) rfl rfl rfl ?_
 rintro _ _ ⟨g1, rfl, rfl⟩
 refine Za rfl rfl rfl rfl rfl ?_
 refine Za rfl rfl rfl rfl rfl ?_
 refine Za rfl rfl rfl rfl rfl ?_
 refine Zn (Zt (Zs (Zr ?_)))
 refine Zm rfl rfl rfl rfl rfl ?_
 refine G.step (OG.call [vcode] ent42 rfl rfl rfl rfl (by exact (l1New_w scode (Ent.drop 1 ecode) (by omega)))) rfl rfl rfl ?_
 rintro _ _ ⟨g2, u3, rfl, rfl⟩
 refine Za rfl rfl rfl rfl rfl ?_
 refine Zn (Zt (Zs (Zr ?_)))
 refine Zm rfl rfl rfl rfl rfl ?_
 refine G.step (OG.call [.pointer (some ⟨g2, 0, none⟩)] ent44 rfl rfl rfl rfl (by exact (l12Type_w scode (Ent.drop 1 ecode) (by omega) (by omega)))) rfl rfl rfl ?_
 rintro _ _ ⟨g4, u5, u6, rfl, hs7, hs8, rfl⟩
 obtain ⟨hR, hD, hF, hN, hS0, hO⟩ := tpOk (k := g4) (by assumption)
 have hsz := tpNm_sz (k := g4) (by assumption)
 skip
 refine G.step (OG.call [.string (tpNm g4)] ent43 rfl rfl rfl rfl (by exact (specCartanOf_w (by omega)))) rfl rfl rfl ?_
 rintro _ _ ⟨v9, rfl, hs10, rfl⟩
 refine Zm rfl rfl rfl rfl rfl ?_
 refine G.stepD (OD.extract rfl rfl rfl) rfl rfl rfl ?_
 refine G.stepD (OD.extract rfl rfl rfl) rfl rfl rfl ?_
 refine G.step (OG.alloc rfl ti27 (zs := [.int .i64 (0), .slice none 0 0]) rfl) rfl rfl rfl ?_
 rintro _ _ ⟨g11, rfl, rfl⟩
 refine G.stepD0 (OD.store rfl ti27 rfl rfl (us := [.int .i64 (cR (tpNm g4)), v9]) rfl rfl (allC rfl (allC (IsS.one hs10) rfl)) (i := 0) rfl rfl) rfl rfl ?_
 refine Za rfl rfl rfl rfl rfl ?_
 refine Zn (Zt (Zs (Zr ?_)))
 refine Zm rfl rfl rfl rfl rfl ?_
 refine G.stepD (OD.loadAgg rfl ti27 rfl (i := 0) rfl (us := [.int .i64 (cR (tpNm g4)), v9]) rfl rfl) rfl rfl rfl ?_
 refine G.at [2] 0 (env' := [(0, vcode), (2, .pointer (some ⟨g1, 0, none⟩)), (3, .slice none 0 0), (4, .slice none 0 0), (5, .slice none 0 0), (9, vcode), (10, .pointer (some ⟨g2, 0, none⟩)), (6, .pointer (some ⟨g2, 0, none⟩)), (12, .pointer (some ⟨g2, 0, none⟩)), (13, .string (tpNm g4)), (14, .tuple #[.agg #[.int .i64 (cR (tpNm g4)), v9], .bool ((cF (tpNm g4)).isSome)]), (11, .tuple #[.agg #[.int .i64 (cR (tpNm g4)), v9], .bool ((cF (tpNm g4)).isSome)]), (15, .agg #[.int .i64 (cR (tpNm g4)), v9]), (16, .bool ((cF (tpNm g4)).isSome)), (7, .pointer (some ⟨g11, 0, none⟩)), (8, .bool ((cF (tpNm g4)).isSome)), (17, .pointer (some ⟨g2, 0, none⟩)), (18, .agg #[.int .i64 (cR (tpNm g4)), v9])]) ⟨rfl,rfl,rfl,rfl,rfl,rfl,rfl,rfl,rfl,rfl,rfl,rfl,rfl,rfl,rfl,rfl,rfl,rfl,trivial⟩ (own' := box g2 111 [vcode, .int .i64 (u5), .int .i64 (u6)] :: box g11 27 [.int .i64 (cR (tpNm g4)), v9] :: ints 3 v9 (cD (tpNm g4)) :: box g1 27 [.int .i64 (0), .slice none 0 0] :: own) rfl ?_
 refine G.step (OG.call [.pointer (some ⟨g2, 0, none⟩), .agg #[.int .i64 (cR (tpNm g4)), v9]] ent45 rfl rfl rfl rfl (by exact (l12Ordered_w scode (Ent.drop 3 ecode) hs10 (Ent.ints (i := 1) rfl) (by omega) (by omega) (by rw [hR]; exact hN) (by rw [hR, hD]; exact (tyS_ok hS0).2)))) rfl rfl rfl ?_
 rintro _ _ ⟨v12, u13, u14, u15, rfl, hs16, hs17, hs18, rfl⟩
 refine G.stepD0 (OD.store rfl ti27 rfl rfl (us := [.int .i64 (cR (tpNm g4)), v12]) rfl rfl (allC rfl (allC (IsS.one hs16) rfl)) (i := 2) rfl rfl) rfl rfl ?_
 refine Zn (Zt (Zs ?_))
 have hT : tyS (cR (tpNm g4)) (subD (cR (tpNm g4)) (cD (tpNm g4)) u13) = tyS (tpN g4) (tpD g4) := by rw [hR, hD]; exact hO _ (by rw [← hR]; assumption)
 have hS : (tyS (cR (tpNm g4)) (subD (cR (tpNm g4)) (cD (tpNm g4)) u13)).isSome = true := by rw [hT]; exact hS0
 have hcr4 := (tyS_ok hS).1
 refine GC.at [1, 0, 0, 0, 0] 0 (env' := [(0, vcode), (2, .pointer (some ⟨g1, 0, none⟩)), (3, .slice none 0 0), (4, .slice none 0 0), (5, .slice none 0 0), (9, vcode), (10, .pointer (some ⟨g2, 0, none⟩)), (6, .pointer (some ⟨g2, 0, none⟩)), (12, .pointer (some ⟨g2, 0, none⟩)), (13, .string (tpNm g4)), (14, .tuple #[.agg #[.int .i64 (cR (tpNm g4)), v9], .bool ((cF (tpNm g4)).isSome)]), (11, .tuple #[.agg #[.int .i64 (cR (tpNm g4)), v9], .bool ((cF (tpNm g4)).isSome)]), (15, .agg #[.int .i64 (cR (tpNm g4)), v9]), (16, .bool ((cF (tpNm g4)).isSome)), (7, .pointer (some ⟨g11, 0, none⟩)), (8, .bool ((cF (tpNm g4)).isSome)), (17, .pointer (some ⟨g2, 0, none⟩)), (18, .agg #[.int .i64 (cR (tpNm g4)), v9]), (19, .agg #[.int .i64 (cR (tpNm g4)), v12])]) ⟨rfl,rfl,rfl,rfl,rfl,rfl,rfl,rfl,rfl,rfl,rfl,rfl,rfl,rfl,rfl,rfl,rfl,rfl,rfl,trivial⟩ (own' := box g2 111 [vcode, .int .i64 (u14), .int .i64 (u15)] :: ints 3 v12 (subD (cR (tpNm g4)) (cD (tpNm g4)) u13) :: box g11 27 [.int .i64 (cR (tpNm g4)), v12] :: ints 3 v9 (cD (tpNm g4)) :: box g1 27 [.int .i64 (0), .slice none 0 0] :: own) rfl ?_
 refine GC.curA (by omega) ?_
 refine GC.at [] 0 (env' := [(2, .pointer (some ⟨g1, 0, none⟩)), (3, .slice none 0 0), (4, .slice none 0 0), (5, .slice none 0 0), (6, .pointer (some ⟨g2, 0, none⟩)), (7, .pointer (some ⟨g11, 0, none⟩))]) ⟨rfl,rfl,rfl,rfl,rfl,rfl,trivial⟩ rfl ?_
 refine GC.par (its := [Z0 20 (.agg #[.int .i64 (cR (tpNm g4)), v12]),
     Z0 21 (.pointer (some ⟨g2, 0, none⟩)),
     Z0 22 (.agg #[.int .i64 (cR (tpNm g4)), v12]),
     ⟨23, [(1, 21), (2, 22)], [], [], [3], fun ds => ((ds.getD 0 []).getD 0 undef), fun ds => IsS ((ds.getD 0 []).getD 0 undef) ∧ (rtB (rSt (cR (tpNm g4)) (subD (cR (tpNm g4)) (cD (tpNm g4)) u13)) (toIs ((ds.getD 0 []).getD 1 undef)) = true), fun ds => [ints 3 ((ds.getD 0 []).getD 0 undef) (toIs ((ds.getD 0 []).getD 1 undef))]⟩,
     Z0 24 (.pointer (some ⟨g2, 0, none⟩)),
     Z0 25 (.agg #[.int .i64 (cR (tpNm g4)), v12]),
     ⟨26, [(4, 24), (5, 25)], [], [], [6], fun ds => ((ds.getD 0 []).getD 0 undef), fun ds => IsS ((ds.getD 0 []).getD 0 undef) ∧ (rtB (rSt (cR (tpNm g4)) (subD (cR (tpNm g4)) (cD (tpNm g4)) u13)) (toIs ((ds.getD 0 []).getD 1 undef)) = true), fun ds => [ints 3 ((ds.getD 0 []).getD 0 undef) (toIs ((ds.getD 0 []).getD 1 undef))]⟩,
     Z0 27 (.pointer (some ⟨g2, 0, none⟩)),
     Z0 28 (.pointer (some ⟨g11, 0, none⟩)),
     Z1 29 [(8, 28)] (.int .i64 (cR (tpNm g4))),
     ⟨30, [(7, 27), (9, 29)], [], [], [10], fun ds => ((ds.getD 0 []).getD 0 undef), fun ds => IsS ((ds.getD 0 []).getD 0 undef) ∧ ((toIs ((ds.getD 0 []).getD 1 undef)).length = (cR (tpNm g4) : Int).toNat) ∧ (∀ y ∈ (toIs ((ds.getD 0 []).getD 1 undef)), 0 ≤ y ∧ y < 7), fun ds => [ints 3 ((ds.getD 0 []).getD 0 undef) (toIs ((ds.getD 0 []).getD 1 undef))]⟩,
     Z0 31 (.pointer (some ⟨g2, 0, none⟩)),
     Z0 32 (.pointer (some ⟨g11, 0, none⟩)),
     Z1 33 [(12, 32)] (.int .i64 (cR (tpNm g4))),
     ⟨34, [(11, 31), (13, 33)], [], [], [14], fun ds => ((ds.getD 0 []).getD 0 undef), fun ds => IsS ((ds.getD 0 []).getD 0 undef) ∧ ((toIs ((ds.getD 0 []).getD 1 undef)).length = (cR (tpNm g4) : Int).toNat) ∧ (∀ y ∈ (toIs ((ds.getD 0 []).getD 1 undef)), 0 ≤ y ∧ y < 7), fun ds => [ints 3 ((ds.getD 0 []).getD 0 undef) (toIs ((ds.getD 0 []).getD 1 undef))]⟩,
     ⟨35, [(10, 30), (14, 34)], [10, 14], [], [10, 14, 15], fun ds => ((ds.getD 2 []).getD 0 undef), fun ds => IsS ((ds.getD 2 []).getD 0 undef), fun ds => [ints 3 ((ds.getD 2 []).getD 0 undef) (lpF (toIs ((ds.getD 0 []).getD 1 undef)) (-1) (toIs ((ds.getD 1 []).getD 1 undef)))]⟩]) (by kernel_rfl) (by kernel_rfl) (POps.cons ?_ (POps.cons ?_ (POps.cons ?_ (POps.cons ?_ (POps.cons ?_ (POps.cons ?_ (POps.cons ?_ (POps.cons ?_ (POps.cons ?_ (POps.cons ?_ (POps.cons ?_ (POps.cons ?_ (POps.cons ?_ (POps.cons ?_ (POps.cons ?_ (POps.cons ?_ POps.nil)))))))))))))))) ?_
 exact fun θ R hd => Zq (OD.loadAgg rfl ti27 rfl (i := 2) rfl (us := [.int .i64 (cR (tpNm g4)), v12]) rfl rfl) rfl rfl trivial rfl
 exact fun θ R hd => Zq (OD.move rfl rfl) rfl rfl trivial rfl
 exact fun θ R hd => Zq (OD.loadAgg rfl ti27 rfl (i := 2) rfl (us := [.int .i64 (cR (tpNm g4)), v12]) rfl rfl) rfl rfl trivial rfl
 exact fun θ R ⟨h1d, h2d, _⟩ => Opp.plain (OG.imp (OG.call [.pointer (some ⟨g2, 0, none⟩), .agg #[.int .i64 (cR (tpNm g4)), v12]] ent46 rfl rfl rfl rfl (by exact (l12Root_w_c (i := 0) rfl scode (Ent.drop 4 ecode.app) hs16 (Ent.ints (i := 0) rfl) (by omega) (hS)))) (by rintro v19 _ ⟨_, y20, rfl, hs21, hs22, rfl⟩; obtain ⟨y20z, rfl⟩ := toIs_ex y20; exact ⟨[v19, y20z], rfl, ⟨hs21, hs22⟩, rfl⟩)) rfl
 exact fun θ R hd => Zq (OD.move rfl rfl) rfl rfl trivial rfl
 exact fun θ R hd => Zq (OD.loadAgg rfl ti27 rfl (i := 2) rfl (us := [.int .i64 (cR (tpNm g4)), v12]) rfl rfl) rfl rfl trivial rfl
 exact fun θ R ⟨h4d, h5d, _⟩ => Opp.plain (OG.imp (OG.call [.pointer (some ⟨g2, 0, none⟩), .agg #[.int .i64 (cR (tpNm g4)), v12]] ent46 rfl rfl rfl rfl (by exact (l12Root_w_c (i := 0) rfl scode (Ent.drop 4 ecode.app) hs16 (Ent.ints (i := 0) rfl) (by omega) (hS)))) (by rintro v23 _ ⟨_, y24, rfl, hs25, hs26, rfl⟩; obtain ⟨y24z, rfl⟩ := toIs_ex y24; exact ⟨[v23, y24z], rfl, ⟨hs25, hs26⟩, rfl⟩)) rfl
 exact fun θ R hd => Zq (OD.move rfl rfl) rfl rfl trivial rfl
 exact fun θ R hd => Zq (OD.fieldAddr rfl rfl fa27_0) rfl rfl trivial rfl
 exact fun θ R ⟨h8d, _⟩ => Zq (OD.load rfl ti3 rfl (i := 2) rfl rfl) rfl rfl trivial rfl
 exact fun θ R ⟨h7d, h9d, _⟩ => Opp.plain (OG.imp (OG.call [.pointer (some ⟨g2, 0, none⟩), .int .i64 (cR (tpNm g4)), .int .i64 (7)] ent48 rfl rfl rfl rfl (by exact (l12List_w_c (i := 0) rfl scode (Ent.drop 4 ecode.app) (by omega) (by omega) (by omega)))) (by rintro v27 _ ⟨_, y28, rfl, hs29, hs30, hs31, rfl⟩; obtain ⟨y28z, rfl⟩ := toIs_ex y28; exact ⟨[v27, y28z], rfl, ⟨hs29, hs30, hs31⟩, rfl⟩)) rfl
 exact fun θ R hd => Zq (OD.move rfl rfl) rfl rfl trivial rfl
 exact fun θ R hd => Zq (OD.fieldAddr rfl rfl fa27_0) rfl rfl trivial rfl
 exact fun θ R ⟨h12d, _⟩ => Zq (OD.load rfl ti3 rfl (i := 2) rfl rfl) rfl rfl trivial rfl
 exact fun θ R ⟨h11d, h13d, _⟩ => Opp.plain (OG.imp (OG.call [.pointer (some ⟨g2, 0, none⟩), .int .i64 (cR (tpNm g4)), .int .i64 (7)] ent48 rfl rfl rfl rfl (by exact (l12List_w_c (i := 0) rfl scode (Ent.drop 4 ecode.app) (by omega) (by omega) (by omega)))) (by rintro v32 _ ⟨_, y33, rfl, hs34, hs35, hs36, rfl⟩; obtain ⟨y33z, rfl⟩ := toIs_ex y33; exact ⟨[v32, y33z], rfl, ⟨hs34, hs35, hs36⟩, rfl⟩)) rfl
 exact fun θ R ⟨h10d, h14d, _⟩ => Opp.plain (OG.imp (OG.call [((θ 10).getD 0 undef), .int .i64 (-1), ((θ 14).getD 0 undef)] ent47 rfl rfl rfl rfl (by exact (l5Plus_w h10d.1 (Ent.ints (i := 0) rfl) h14d.1 (Ent.ints (i := 1) rfl) ((show (toIs ((θ 10).getD 1 undef)).length ≤ 1073741824 by have h9x : ((toIs ((θ 10).getD 1 undef)).length = (cR (tpNm g4) : Int).toNat) := h10d.2.1; omega)) ((show (toIs ((θ 14).getD 1 undef)).length = (toIs ((θ 10).getD 1 undef)).length by have h9x : ((toIs ((θ 10).getD 1 undef)).length = (cR (tpNm g4) : Int).toNat) := h10d.2.1; have h9y : ((toIs ((θ 14).getD 1 undef)).length = (cR (tpNm g4) : Int).toNat) := h14d.2.1; omega))))) (by rintro v37 _ ⟨_, rfl, hs38, rfl⟩; exact ⟨[v37], rfl, hs38, rfl⟩)) rfl
 intro θ hall
 obtain ⟨_, _, _, h3a, _, _, h6a, _, _, _, h10a, _, _, _, h14a, h15a, _⟩ := hall
 refine G.at [] 0 (env' := [(2, .pointer (some ⟨g1, 0, none⟩)), (3, .slice none 0 0), (4, .slice none 0 0), (5, .slice none 0 0), (20, .agg #[.int .i64 (cR (tpNm g4)), v12]), (23, ((θ 3).getD 0 undef)), (26, ((θ 6).getD 0 undef)), (35, ((θ 15).getD 0 undef))]) ⟨rfl,rfl,rfl,rfl,rfl,rfl,rfl,rfl,trivial⟩ (own' := ints 3 ((θ 3).getD 0 undef) (toIs ((θ 3).getD 1 undef)) :: ints 3 ((θ 6).getD 0 undef) (toIs ((θ 6).getD 1 undef)) :: ints 3 ((θ 10).getD 0 undef) (toIs ((θ 10).getD 1 undef)) :: ints 3 ((θ 14).getD 0 undef) (toIs ((θ 14).getD 1 undef)) :: ints 3 ((θ 15).getD 0 undef) (lpF (toIs ((θ 10).getD 1 undef)) (-1) (toIs ((θ 14).getD 1 undef))) :: curA g2 111 vcode :: ints 3 v12 (subD (cR (tpNm g4)) (cD (tpNm g4)) u13) :: box g11 27 [.int .i64 (cR (tpNm g4)), v12] :: ints 3 v9 (cD (tpNm g4)) :: box g1 27 [.int .i64 (0), .slice none 0 0] :: own) rfl ?_
 have hs39 : IsS ((θ 3).getD 0 undef) := h3a.1
 have hs40 : (rtB (rSt (cR (tpNm g4)) (subD (cR (tpNm g4)) (cD (tpNm g4)) u13)) (toIs ((θ 3).getD 1 undef)) = true) := h3a.2
 clear h3a
 generalize ((θ 3).getD 0 undef) = v41 at *
 generalize (toIs ((θ 3).getD 1 undef)) = y42 at *
 have hs43 : IsS ((θ 6).getD 0 undef) := h6a.1
 have hs44 : (rtB (rSt (cR (tpNm g4)) (subD (cR (tpNm g4)) (cD (tpNm g4)) u13)) (toIs ((θ 6).getD 1 undef)) = true) := h6a.2
 clear h6a
 generalize ((θ 6).getD 0 undef) = v45 at *
 generalize (toIs ((θ 6).getD 1 undef)) = y46 at *
 have hs47 : IsS ((θ 10).getD 0 undef) := h10a.1
 have hs48 : ((toIs ((θ 10).getD 1 undef)).length = (cR (tpNm g4) : Int).toNat) := h10a.2.1
 have hs49 : (∀ y ∈ (toIs ((θ 10).getD 1 undef)), 0 ≤ y ∧ y < 7) := h10a.2.2
 clear h10a
 generalize ((θ 10).getD 0 undef) = v50 at *
 generalize (toIs ((θ 10).getD 1 undef)) = y51 at *
 have hs52 : IsS ((θ 14).getD 0 undef) := h14a.1
 have hs53 : ((toIs ((θ 14).getD 1 undef)).length = (cR (tpNm g4) : Int).toNat) := h14a.2.1
 have hs54 : (∀ y ∈ (toIs ((θ 14).getD 1 undef)), 0 ≤ y ∧ y < 7) := h14a.2.2
 clear h14a
 generalize ((θ 14).getD 0 undef) = v55 at *
 generalize (toIs ((θ 14).getD 1 undef)) = y56 at *
 have hs57 : IsS ((θ 15).getD 0 undef) := h15a
 clear h15a
 generalize ((θ 15).getD 0 undef) = v58 at *
 show G _ _ _ [_, _, _, _] _ _ _ _
 refine G.stepD0 (OD.store rfl ti27 rfl rfl (us := [.int .i64 (cR (tpNm g4)), v12]) rfl rfl (allC rfl (allC (IsS.one hs16) rfl)) (i := 9) rfl rfl) rfl rfl ?_
 refine Za rfl rfl rfl rfl rfl ?_
 refine Za rfl rfl rfl rfl rfl ?_
 refine Za rfl rfl rfl rfl rfl ?_
 refine Zn (Zt (GC.ret ?_))
 exact GE.body [6, 0, 0, 2] 6 (resN rfl (RVs.cons (rv_cells ti27 rfl (i := 9) rfl rfl) (RVs.cons (rv_tmp rfl) (RVs.cons (rv_tmp rfl) (RVs.cons (rv_tmp rfl) RVs.nil)))) rfl) rfl (⟨v12, v41, v45, v58, g4, u13, (y42), (y46), (lpF y51 (-1) y56), rfl, (hs16), (hs39), (hs43), (hs57), (by assumption), (by assumption), (by assumption), (by assumption), (lp_sub6 (by assumption) (by assumption) (by assumption) (by assumption)), rfl⟩)
end Go.Proofs.YtbmnnbglipkidaaGreatDoor
