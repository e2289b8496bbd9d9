/-
  TypeOf and IsCartan, and the laws on them.
-/
import Derived.Test.YtjdkkhlngflgfaaDoorFct
import Derived.Test.YtjdkkhlngflgfaaDoorWTys
namespace Go.Proofs.YtjdkkhlngflgfaaDoor
set_option linter.unusedVariables false
set_option linter.unusedSimpArgs false
open Go.RowKit



set_option maxHeartbeats 4000000 in
set_option maxRecDepth 100000 in
theorem typeOf_w {W : World} {own : List Asn} {cr : Int} {vcd : Value} {cd : List Int}  (scd : IsS vcd) (ecd : Ent own fun w => Ints w vcd cd)  (hl0 : cd.length ≤ 1073741824) (hg : Ent own fun w => ∃ m, w.cell? ⟨Tryd.l146_ren.g 1, 0, none⟩ = some (.int .i64 m)) : Spec Tryd.prog 27 [.agg #[.int .i64 (cr), vcd]] W own (fun v ow => v = .string (tyN (tyS cr cd)) ∧ ow = own) := by
 refine Spec.enter Tryd.f27 _ Tryd.func27 rfl (n := 43) rfl rfl ?_
 refine GC.seq (GC.region ?_)
 refine G.step (OG.box (cs := [.int .i64 (cr), vcd]) rfl rfl rfl) rfl rfl rfl ?_
 rintro _ _ ⟨g1, rfl, rfl⟩
 refine G.stepD (OD.assign rfl rfl) rfl rfl rfl ?_
 refine G.nil (GE.then_ (GC.seq (GC.seq (GC.region ?_))))
 refine G.stepD (OD.fieldAddr rfl rfl fa28_0) rfl rfl rfl ?_
 refine G.stepD (OD.load rfl ti3 rfl (i := 0) rfl rfl) rfl rfl rfl ?_
 refine G.step (OG.call [.int .i64 (cr), .int .i64 (1), .int .i64 (4)] ent30 rfl rfl rfl rfl (by exact inside_w)) rfl rfl rfl ?_
 rintro _ _ ⟨rfl, rfl⟩
 refine G.stepD (OD.not rfl rfl) rfl rfl rfl ?_
 refine G.stepD (OD.move rfl rfl) rfl rfl rfl ?_
 rcases Bool.eq_false_or_eq_true (!(inB cr 1 4)) with hg2 | hg2
 have hg2e := hg2
 refine G.at [] 0 (env' := [(0, .agg #[.int .i64 (cr), vcd]), (1, .pointer (some ⟨g1, 0, none⟩)), (2, .string (⟨#[]⟩)), (8, .pointer (some ⟨g1, 0, none⟩)), (9, .int .i64 (cr)), (10, .bool (inB cr 1 4)), (11, .bool true), (12, .bool true)]) (⟨rfl, rfl, rfl, rfl, rfl, rfl, (congrArg (fun b => some (Value.bool b)) hg2e), (congrArg (fun b => some (Value.bool b)) hg2e), trivial⟩) rfl ?_
 replace hg2 := eq_false_of_not hg2
 refine G.skipG rfl rfl rfl rfl rfl rfl (G.skipG rfl rfl rfl rfl rfl rfl (G.skipG rfl rfl rfl rfl rfl rfl (G.skipG rfl rfl rfl rfl rfl rfl (G.skipG rfl rfl rfl rfl rfl rfl (G.skipG rfl rfl rfl rfl rfl rfl (G.skipG rfl rfl rfl rfl rfl rfl (G.skipG rfl rfl rfl rfl rfl rfl (G.skipG rfl rfl rfl rfl rfl rfl ?_))))))))
 refine G.stepD (OD.pickT rfl rfl rfl) rfl rfl rfl ?_
 refine G.nil (GE.then_ (GC.condT rfl ?_))
 have hno := tyN_no ((tyS_tyI cr cd).trans (tyI_no (okI_no (.inl hg2))))
 refine GC.seq (GC.region ?_)
 refine G.stepD (OD.assign rfl rfl) rfl rfl rfl ?_
 refine G.nil (GE.then_ (GC.ret (GE.passR ?_)))
 exact GE.body [] 1 (res1 rfl rfl) rfl (⟨congrArg (fun (a0 : ByteArray) => (.string (a0) : Value)) ((hno.symm : (⟨#[]⟩ : ByteArray) = tyN (tyS cr cd))), rfl⟩)
 have hg2e := hg2
 refine G.at [] 0 (env' := [(0, .agg #[.int .i64 (cr), vcd]), (1, .pointer (some ⟨g1, 0, none⟩)), (2, .string (⟨#[]⟩)), (8, .pointer (some ⟨g1, 0, none⟩)), (9, .int .i64 (cr)), (10, .bool (inB cr 1 4)), (11, .bool false), (12, .bool false)]) (⟨rfl, rfl, rfl, rfl, rfl, rfl, (congrArg (fun b => some (Value.bool b)) hg2e), (congrArg (fun b => some (Value.bool b)) hg2e), trivial⟩) rfl ?_
 replace hg2 := eq_true_of_not hg2
 refine G.stepGD (OD.fieldAddr rfl rfl fa28_1) rfl rfl rfl rfl rfl ?_
 refine G.stepGD (OD.load rfl ti22 rfl (i := 0) rfl rfl) rfl rfl rfl rfl rfl ?_
 refine G.stepGD (OD.len rfl rfl et22 rfl (Ent.drop 1 ecd)) rfl rfl rfl rfl rfl ?_
 refine G.stepGD (OD.fieldAddr rfl rfl fa28_0) rfl rfl rfl rfl rfl ?_
 refine G.stepGD (OD.load rfl ti3 rfl (i := 0) rfl rfl) rfl rfl rfl rfl rfl ?_
 refine G.stepGD (OD.fieldAddr rfl rfl fa28_0) rfl rfl rfl rfl rfl ?_
 refine G.stepGD (OD.load rfl ti3 rfl (i := 0) rfl rfl) rfl rfl rfl rfl rfl ?_
 refine G.stepGD (OD.mulI rfl rfl rfl (sqr_bd (inB_true (by assumption)))) rfl rfl rfl rfl rfl ?_
 refine G.stepGD (OD.neq rfl rfl rfl) rfl rfl rfl rfl rfl ?_
 refine G.stepD (OD.pickF rfl rfl rfl) rfl rfl rfl ?_
 refine G.nil (GE.then_ ?_)
 refine GC.cond rfl (fun hc3 => ?_) (fun hc3 => ?_)
 replace hc3 := ne_of_bne hc3
 have hno := tyN_no ((tyS_tyI cr cd).trans (tyI_no (okI_no (.inr hc3))))
 refine GC.seq (GC.region ?_)
 refine G.stepD (OD.assign rfl rfl) rfl rfl rfl ?_
 refine G.nil (GE.then_ (GC.ret (GE.passR ?_)))
 exact GE.body [] 1 (res1 rfl rfl) rfl (⟨congrArg (fun (a0 : ByteArray) => (.string (a0) : Value)) ((hno.symm : (⟨#[]⟩ : ByteArray) = tyN (tyS cr cd))), rfl⟩)
 replace hc3 := eq_of_bne_false hc3
 have hok1 := okI_of hg2 hc3
 have hcr2 := inB_true hg2
 have hcc : cr * cr ≤ 4 * 4 := Int.mul_le_mul (by omega) (by omega) (by omega) (by omega)
 have hte : tyS cr cd = (typesF 5 cr.toNat (0 : Int).toNat).find? (fun (ks : List Nat) => reordF cr cd (matOf ks).2 5 []) := (tyS_tyI cr cd).trans (tyI_eq hok1)
 have hTl : (typesF 5 cr.toNat (0 : Int).toNat).length ≤ 20 := typesF_len 5 (by omega) cr.toNat (by omega) 0 (by omega)
 refine GC.skip (GE.then_ (GC.seq (GC.seq (GC.region ?_))))
 refine G.stepD (OD.fieldAddr rfl rfl fa28_0) rfl rfl rfl ?_
 refine G.stepD (OD.load rfl ti3 rfl (i := 0) rfl rfl) rfl rfl rfl ?_
 refine G.step (OG.call [.int .i64 (cr), .int .i64 (0)] ent36 rfl rfl rfl rfl (by exact (typesOf_w 5 (⟨by omega, by omega⟩) (by omega) (by omega) (by omega)))) rfl rfl rfl ?_
 rintro v4 _ ⟨_, u5, rfl, hs6, hs7, hs8, rfl⟩
 refine G.stepD (OD.len rfl rfl et54 rfl (Ent.lst (i := 0) rfl)) rfl rfl rfl ?_
 refine G.stepD (OD.move rfl rfl) rfl rfl rfl ?_
 refine G.nil (GE.then_ (GC.block ?_))
 have hsl : u5.length = (typesF 5 cr.toNat (0 : Int).toNat).length := by have := hs8; simpa using this
 refine GC.loop (ι := Nat) (fun i => [(1, .pointer (some ⟨g1, 0, none⟩)), (25, v4), (26, .int .i64 ((u5.length : Nat))), (27, .int .i64 ((i : Int)))]) (fun i => lst 43 v4 u5 :: many (strs 9) u5 ((typesF 5 (cr : Int).toNat (0 : Int).toNat).map (·.map nameB)) :: box g1 28 [.int .i64 (cr), vcd] :: own) (fun i => (i ≤ (typesF 5 cr.toNat (0 : Int).toNat).length) ∧ (((typesF 5 cr.toNat (0 : Int).toNat).take i).any (fun (ks : List Nat) => reordF cr cd (matOf ks).2 5 []) = false)) (fun i => (typesF 5 cr.toNat (0 : Int).toNat).length - i) 0 (⟨by omega, by simp⟩) ⟨rfl, rfl, rfl, rfl, trivial⟩ [] 0 rfl ?_
 rintro i ⟨hi, hn⟩
 refine GC.seq (GC.region ?_)
 refine G.stepD (OD.lss rfl rfl rfl) rfl rfl rfl ?_
 refine G.nil (GE.then_ (GC.seq ?_))
 refine GC.cond rfl (fun hc9 => ?_) (fun hc9 => ?_)
 replace hc9 := of_decide_eq_true hc9
 obtain ⟨hc1, hc2, hc3, hc4⟩ := ty_at hcr2 (ty_mem (T := (typesF 5 cr.toNat (0 : Int).toNat)) (i := i) (by omega))
 rw [← map_at (T := (typesF 5 cr.toNat (0 : Int).toNat)) (by omega)] at hc1 hc3
 obtain ⟨hcR0, hcD, _⟩ := cF_some hc1
 have hcR := hcR0.trans hc2
 have hml := matOf_len ((typesF 5 cr.toNat (0 : Int).toNat).getD i [])
 have hcl : ((cD (joinP (((typesF 5 cr.toNat (0 : Int).toNat).map (·.map nameB)).getD (i) []))).length : Int) = cr * cr := by rw [hcD, hml, hc2]
 have hnl : (((typesF 5 cr.toNat (0 : Int).toNat).map (·.map nameB)).getD (i) []).length ≤ 4 := by rw [map_at (by omega), List.length_map]; exact hc4
 refine GC.skip (GE.then_ (GC.seq (GC.block (GC.seq (GC.region ?_)))))
 refine G.stepD (OD.indexAddr rfl et54 rfl (Ent.lst (i := 0) rfl) rfl (by omega)) rfl rfl rfl ?_
 refine G.stepD (OD.loadElem rfl ti43 rfl (Ent.lst (i := 0) rfl) (by omega) rfl) rfl rfl rfl ?_
 refine G.stepD (OD.assign rfl rfl) rfl rfl rfl ?_
 refine G.nil (GE.then_ (GC.seq (GC.region ?_)))
 refine G.stepD (OD.move rfl rfl) rfl rfl rfl ?_
 refine G.step (OG.call [(u5.getD (i) undef), .string (⟨#[43]⟩)] ent37 rfl rfl rfl rfl (by exact (join_w (hs7.get (by omega)) (Ent.manyStrs (i := 1) rfl ⟨by first | omega | (simp; omega), by first | omega | (simp; omega)⟩) (by omega) (by omega)))) rfl rfl rfl ?_
 rintro _ _ ⟨rfl, rfl⟩
 refine G.stepD (OD.assign rfl rfl) rfl rfl rfl ?_
 refine G.nil (GE.then_ (GC.seq (GC.region ?_)))
 refine G.stepD (OD.move rfl rfl) rfl rfl rfl ?_
 refine G.step (OG.call [.string (joinP (((typesF 5 (cr : Int).toNat (0 : Int).toNat).map (·.map nameB)).getD (i) []))] ent38 rfl rfl rfl rfl (by exact (cartanOf_w ((Ent.drop 3 hg)) (by omega)))) rfl rfl rfl ?_
 rintro _ _ ⟨v10, rfl, hs11, rfl⟩
 refine G.stepD (OD.move rfl rfl) rfl rfl rfl ?_
 refine G.stepD (OD.extract rfl rfl rfl) rfl rfl rfl ?_
 refine G.stepD (OD.extract rfl rfl rfl) rfl rfl rfl ?_
 refine G.step (OG.alloc rfl ti28 (zs := [.int .i64 (0), .slice none 0 0]) rfl) rfl rfl rfl ?_
 rintro _ _ ⟨g12, rfl, rfl⟩
 refine G.stepD0 (OD.store rfl ti28 rfl rfl (us := [.int .i64 (cR (joinP (((typesF 5 (cr : Int).toNat (0 : Int).toNat).map (·.map nameB)).getD (i) []))), v10]) rfl rfl (allC rfl (allC (IsS.one hs11) rfl)) (i := 0) rfl rfl) rfl rfl ?_
 refine G.stepD (OD.assign rfl rfl) rfl rfl rfl ?_
 refine G.nil (GE.then_ (GC.seq (GC.region ?_)))
 refine G.stepD (OD.loadAgg rfl ti28 rfl (i := 4) rfl (us := [.int .i64 (cr), vcd]) rfl rfl) rfl rfl rfl ?_
 refine G.stepD (OD.loadAgg rfl ti28 rfl (i := 0) rfl (us := [.int .i64 (cR (joinP (((typesF 5 (cr : Int).toNat (0 : Int).toNat).map (·.map nameB)).getD (i) []))), v10]) rfl rfl) rfl rfl rfl ?_
 refine G.step (OG.call [.agg #[.int .i64 (cr), vcd], .agg #[.int .i64 (cR (joinP (((typesF 5 (cr : Int).toNat (0 : Int).toNat).map (·.map nameB)).getD (i) []))), v10], .slice none 0 0] ent39 rfl rfl rfl rfl (by exact (reordered_w 5 scd (Ent.drop 5 ecd) hs11 (Ent.ints (i := 1) rfl) IsS.nil Ent.nilInts (hcr2) (by omega) (hcR) (hcl) (by simp) (by simp; omega) (by simp; omega)))) rfl rfl rfl ?_
 rintro _ _ ⟨rfl, rfl⟩
 refine G.nil (GE.then_ ?_)
 refine GC.cond rfl (fun hc13 => ?_) (fun hc13 => ?_)
 have hyes := tyN_at (hte.trans (find_at (d := []) (by omega) hn (by rw [← hcD]; exact hc13)))
 rw [← map_at (T := (typesF 5 cr.toNat (0 : Int).toNat)) (by omega)] at hyes
 refine GC.seq (GC.region ?_)
 refine G.stepD (OD.move rfl rfl) rfl rfl rfl ?_
 refine G.stepD (OD.assign rfl rfl) rfl rfl rfl ?_
 refine G.nil (GE.then_ (GC.ret (GE.blockR (GE.passR (GE.passR (GE.blockR (GE.passR ?_)))))))
 exact GE.body [] 5 (res1 rfl rfl) rfl (⟨congrArg (fun (a0 : ByteArray) => (.string (a0) : Value)) ((hyes.symm : (joinP (((typesF 5 (cr : Int).toNat (0 : Int).toNat).map (·.map nameB)).getD (i) []) : ByteArray) = tyN (tyS cr cd))), rfl⟩)
 refine GC.skip (GE.blockN (GE.then_ (GC.region ?_)))
 refine G.stepD (OD.addI rfl rfl rfl (by omega)) rfl rfl rfl ?_
 refine G.stepD (OD.move rfl rfl) rfl rfl rfl ?_
 refine G.nil ?_
 exact GE.again (i + 1) (⟨by omega, any_take_succ (d := []) (by omega) hn (by rw [← hcD]; exact hc13)⟩) (by first | omega | (dsimp only; omega)) ⟨rfl, rfl, rfl, rfl, trivial⟩ [2, 2, 2] 2 rfl
 replace hc9 := of_decide_eq_false hc9
 have hno := tyN_no (hte.trans (find_no (any_take_all (by omega) hn)))
 refine GC.exit (GE.pass (GE.pass (GE.hit (GE.then_ (GC.seq (GC.region ?_))))))
 refine G.stepD (OD.assign rfl rfl) rfl rfl rfl ?_
 refine G.nil (GE.then_ (GC.ret ?_))
 exact GE.body [] 3 (res1 rfl rfl) rfl (⟨congrArg (fun (a0 : ByteArray) => (.string (a0) : Value)) ((hno.symm : (⟨#[]⟩ : ByteArray) = tyN (tyS cr cd))), rfl⟩)

set_option maxRecDepth 100000 in
theorem isCartan_w {W : World} {own : List Asn} {cr : Int} {vcd : Value} {cd : List Int}  (scd : IsS vcd) (ecd : Ent own fun w => Ints w vcd cd)  (hl0 : cd.length ≤ 1073741824) (hg : Ent own fun w => ∃ m, w.cell? ⟨Tryd.l146_ren.g 1, 0, none⟩ = some (.int .i64 m)) : Spec Tryd.prog 20 [.agg #[.int .i64 (cr), vcd]] W own (fun v ow => v = .bool ((tyS cr cd).isSome) ∧ ow = own) := by
 refine Spec.enter Tryd.f20 _ Tryd.func20 rfl (n := 6) rfl rfl ?_
 refine GC.seq (GC.region ?_)
 refine G.step (OG.box (cs := [.int .i64 (cr), vcd]) rfl rfl rfl) rfl rfl rfl ?_
 rintro _ _ ⟨g1, rfl, rfl⟩
 refine G.stepD (OD.assign rfl rfl) rfl rfl rfl ?_
 refine G.nil (GE.then_ (GC.seq (GC.region ?_)))
 refine G.stepD (OD.loadAgg rfl ti28 rfl (i := 0) rfl (us := [.int .i64 (cr), vcd]) rfl rfl) rfl rfl rfl ?_
 refine G.step (OG.call [.agg #[.int .i64 (cr), vcd]] ent27 rfl rfl rfl rfl (by exact (typeOf_w scd (Ent.drop 1 ecd) (hl0) ((Ent.drop 1 hg))))) rfl rfl rfl ?_
 rintro _ _ ⟨rfl, rfl⟩
 refine G.stepD (OD.eqv (OD.strNeq rfl rfl rfl) (congrArg (Value.bool) ((tyN_empty cr cd) : _ = ((tyS cr cd).isSome)))) rfl rfl rfl ?_
 refine G.stepD (OD.assign rfl rfl) rfl rfl rfl ?_
 refine G.nil (GE.then_ (GC.ret ?_))
 exact GE.body [] 1 (res1 rfl rfl) rfl (⟨rfl, rfl⟩)

end Go.Proofs.YtjdkkhlngflgfaaDoor
