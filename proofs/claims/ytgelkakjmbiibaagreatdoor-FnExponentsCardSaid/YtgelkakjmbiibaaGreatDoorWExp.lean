/-
  Exponents: contracts by walks.
-/
import Derived.Test.YtgelkakjmbiibaaGreatDoorFct
import Derived.Test.YtgelkakjmbiibaaGreatDoorWNewA
import Derived.Test.YtgelkakjmbiibaaGreatDoorZ19
namespace Go.Proofs.YtgelkakjmbiibaaGreatDoor
set_option linter.unusedVariables false
set_option linter.unusedSimpArgs false
open Go.RowKit
theorem fd80_1 : FD Tryz.prog 80 1 2 := by have h := fd_of (f := 1) Tryz.underlying80 rfl (fun w => by kernel_rfl); exact h
theorem ent79 : ∀ us w, (callFunc 79 us).run Tryz.prog w = .ok (.enter 79 us) w := fun us w => by kernel_rfl
theorem mt104 : MT Tryz.prog 104 3 3 (.int .i64 0) := ⟨Tryz.underlying104, fun w => by kernel_rfl⟩
theorem ke3keyI : KeyE Tryz.prog 3 keyI := keyI_E Tryz.underlying3
theorem OD.max {P : Program} {o : Oper} {n : Nat} {env : List (Nat × Value)} {W : World} {own : List Asn} {c : Call} {x y : Operand} {k : IntKind} {i j : Int} {ts : Array TypeId} (hop : o.op = .call c) (hc : c = { callee := .builtin .max, args := #[x, y], argTypes := ts }) (hx : ev env x = some (.int k i)) (hy : ev env y = some (.int k j)) : OD P o n env W own (.int k (Max.max i j)) own :=
  .of fun a w hf _ => by
    subst hc
    have e : (if j > i then j else i) = Max.max i j := by
      by_cases h : j > i
      · rw [if_pos h, Int.max_eq_right (by omega)]
      · rw [if_neg h, Int.max_eq_left (by omega)]
    have h := run_max_int2 (P := P) (w := w) ts o.type k k i j
    rw [e] at h
    simp only [execOp, hop, resolve, invoke, builtin, hf.ev hx, hf.ev hy]
    simpa [hf.ev hx, hf.ev hy] using run_val h
set_option maxHeartbeats 4000000 in
set_option maxRecDepth 100000 in
theorem exponentsOf_w {W : World} {own : List Asn} {cr : Int} {vcd : Value} {cd : List Int}  (scd : IsS vcd) (ecd : Ent own fun w => Ints w vcd cd)  (hl0 : cd.length ≤ 1073741824) (hg : Ent own fun w => ∃ m, w.cell? ⟨Tryz.l146_ren.g 1, 0, none⟩ = some (.int .i64 m)) (htab : Ent own Pow10) : Spec Tryz.prog 47 [.agg #[.int .i64 (cr), vcd]] W own (fun v ow => ∃ (r0 : Value), v = r0 ∧ IsS r0 ∧ ow = ints 3 r0 (exOf cr cd) :: own) := by
 refine Spec.enter Tryz.f47 _ Tryz.func47 rfl (n := 53) rfl rfl ?_
 refine GC.seq (GC.region ?_)
 refine G.step (OG.box (cs := [.int .i64 (cr), vcd]) rfl rfl rfl) rfl rfl rfl ?_
 rintro _ _ ⟨g1, rfl, rfl⟩
 refine G.stepD (OD.assign rfl rfl) rfl rfl rfl ?_
 refine G.nil (GE.then_ (GC.seq (GC.seq (GC.region ?_))))
 refine G.stepD (OD.loadAgg rfl ti27 rfl (i := 0) rfl (us := [.int .i64 (cr), vcd]) rfl rfl) rfl rfl rfl ?_
 refine G.step (OG.call [.agg #[.int .i64 (cr), vcd]] ent43 rfl rfl rfl rfl (by exact (isCartan_w scd (Ent.drop 1 ecd) (hl0) ((Ent.drop 1 hg))))) rfl rfl rfl ?_
 rintro _ _ ⟨rfl, rfl⟩
 refine G.stepD (OD.not rfl rfl) rfl rfl rfl ?_
 refine G.nil (GE.then_ ?_)
 refine GC.cond rfl (fun hc2 => ?_) (fun hc2 => ?_)
 replace hc2 := eq_false_of_not hc2
 refine GC.seq (GC.region ?_)
 refine G.stepD (OD.assign rfl rfl) rfl rfl rfl ?_
 refine G.nil (GE.then_ (GC.ret (GE.passR ?_)))
 refine GE.nilInts 3 ?_
 exact GE.body [0] 1 (res1 rfl rfl) rfl (⟨(.slice none 0 0), rfl, IsS.nil, congrArg (fun (l0 : List Int) => ints 3 (.slice none 0 0) l0 :: own) ((by rw [exOf, hc2] <;> rfl : [] = exOf cr cd))⟩)
 replace hc2 := eq_true_of_not hc2
 have hS := hc2
 have hE := exOk hS
 have hrs := (rtOk hS).slen
 have hrf := (rtOk hS).few
 have hrk := (rtOk hS).rk
 refine GC.skip (GE.then_ (GC.seq (GC.region ?_)))
 refine G.step (OG.makeMap keyI valI rfl rfl) rfl rfl rfl ?_
 rintro _ _ ⟨g3, rfl, rfl⟩
 refine G.stepD (OD.assign rfl rfl) rfl rfl rfl ?_
 refine G.nil (GE.then_ (GC.seq (GC.region ?_)))
 refine G.stepD (OD.assign rfl rfl) rfl rfl rfl ?_
 refine G.nil (GE.then_ (GC.seq (GC.seq (GC.region ?_))))
 refine G.stepD (OD.loadAgg rfl ti27 rfl (i := 1) rfl (us := [.int .i64 (cr), vcd]) rfl rfl) rfl rfl rfl ?_
 refine G.step (OG.call [.agg #[.int .i64 (cr), vcd]] ent78 rfl rfl rfl rfl (by exact (newRoots_w scd (Ent.drop 2 ecd) ((tyS_ok hS).1) ((tyS_ok hS).2) (hS) ((Ent.drop 2 htab))))) rfl rfl rfl ?_
 rintro _ _ ⟨v4, u5, g9, rfl, hs6, hs7, hs8, rfl⟩
 refine G.stepD (OD.field (us := [.int .i64 (cr), vcd, v4, .map (some g9)]) rfl fd80_1 rfl rfl) rfl rfl rfl ?_
 refine G.stepD (OD.len rfl rfl et39 rfl (Ent.lst (i := 0) rfl)) rfl rfl rfl ?_
 refine G.stepD (OD.move rfl rfl) rfl rfl rfl ?_
 refine G.nil (GE.then_ (GC.block ?_))
 refine GC.loop (ι := Nat × Int × List (Int × Int)) (fun ⟨p, t, kv⟩ => [(3, .map (some g3)), (15, v4), (16, .int .i64 ((u5.length : Nat))), (4, .int .i64 (t)), (17, .int .i64 ((p : Int)))]) (fun ⟨p, t, kv⟩ => lst 22 v4 u5 :: many (ints 3) u5 (rSt cr cd) :: mapA keyL valI g9 (rKvs cr cd) :: mapA keyI valI g3 kv :: box g1 27 [.int .i64 (cr), vcd] :: own) (fun ⟨p, t, kv⟩ => (p ≤ (rSt cr cd).length) ∧ (t = (List.range p).foldl (tpI (rSt cr cd)) 0) ∧ (kv = (List.range p).foldl (kvI (rSt cr cd)) [])) (fun ⟨p, t, kv⟩ => (rSt cr cd).length - p) (0, 0, []) (⟨by omega, rfl, rfl⟩) ⟨rfl, rfl, rfl, rfl, rfl, trivial⟩ [] 0 rfl ?_
 rintro ⟨p, t, kv⟩ ⟨hp, ht, hkv⟩
 refine GC.seq (GC.region ?_)
 refine G.stepD (OD.lss rfl rfl rfl) rfl rfl rfl ?_
 refine G.nil (GE.then_ (GC.seq ?_))
 refine GC.cond rfl (fun hc10 => ?_) (fun hc10 => ?_)
 replace hc10 := of_decide_eq_true hc10
 have hht := hE.hts p (by omega)
 have hxl := ((rtOk hS).sget (show p < (rSt cr cd).length by omega)).1
 refine GC.skip (GE.then_ (GC.seq (GC.block (GC.seq (GC.region ?_)))))
 refine G.stepD (OD.indexAddr rfl et39 rfl (Ent.lst (i := 0) rfl) rfl (by omega)) rfl rfl rfl ?_
 refine G.stepD (OD.loadElem rfl ti22 rfl (Ent.lst (i := 0) rfl) (by omega) rfl) rfl rfl rfl ?_
 refine G.stepD (OD.assign rfl rfl) rfl rfl rfl ?_
 refine G.nil (GE.then_ (GC.seq (GC.region ?_)))
 refine G.stepD (OD.move rfl rfl) rfl rfl rfl ?_
 refine G.stepD (OD.move rfl rfl) rfl rfl rfl ?_
 refine G.step (OG.call [(u5.getD (p) undef)] ent79 rfl rfl rfl rfl (by exact (sumOf_w (hs7.get (by omega)) (Ent.manyInts (i := 1) rfl ⟨by first | omega | (simp; omega), by first | omega | (simp; omega)⟩) (by omega)))) rfl rfl rfl ?_
 rintro _ _ ⟨rfl, rfl⟩
 refine G.stepD (OD.lookup (k := sumW ((rSt cr cd).getD (p) [])) rfl mt104 ke3keyI rfl rfl (Ent.map (kE := keyI) (vE := valI) (l := kv) (i := 3) rfl)) rfl rfl rfl ?_
 refine G.stepD (OD.add rfl rfl rfl) rfl rfl rfl ?_
 refine G.stepD0 (OD.mapUpdate (kE := keyI) (vE := valI) (l := kv) (k := sumW ((rSt cr cd).getD (p) [])) (b := (IntKind.i64.wrap (((alu (sumW ((rSt cr cd).getD (p) [])) kv).getD 0) + 1) : Int)) rfl mt104.ht ke3keyI rfl rfl rfl (i := 3) rfl) rfl rfl ?_
 refine G.nil (GE.then_ (GC.region ?_))
 refine G.stepD (OD.move rfl rfl) rfl rfl rfl ?_
 refine G.stepD (OD.move rfl rfl) rfl rfl rfl ?_
 refine G.step (OG.call [(u5.getD (p) undef)] ent79 rfl rfl rfl rfl (by exact (sumOf_w (hs7.get (by omega)) (Ent.manyInts (i := 1) rfl ⟨by first | omega | (simp; omega), by first | omega | (simp; omega)⟩) (by omega)))) rfl rfl rfl ?_
 rintro _ _ ⟨rfl, rfl⟩
 refine G.stepD (OD.max rfl rfl rfl rfl) rfl rfl rfl ?_
 refine G.stepD (OD.assign rfl rfl) rfl rfl rfl ?_
 refine G.nil (GE.blockN (GE.then_ (GC.region ?_)))
 refine G.stepD (OD.addI rfl rfl rfl (by omega)) rfl rfl rfl ?_
 refine G.stepD (OD.move rfl rfl) rfl rfl rfl ?_
 refine G.nil ?_
 exact GE.again (p + 1, max (t) (sumW ((rSt cr cd).getD (p) [])), aup (sumW ((rSt cr cd).getD (p) [])) (IntKind.i64.wrap (((alu (sumW ((rSt cr cd).getD (p) [])) kv).getD 0) + 1) : Int) kv) (⟨by omega, fold_next ht rfl, fold_next hkv rfl⟩) (by first | omega | (dsimp only; omega)) ⟨rfl, rfl, rfl, rfl, rfl, trivial⟩ [] 0 rfl
 replace hc10 := of_decide_eq_false hc10
 have hpe : p = (rSt cr cd).length := by omega
 have hkf : kv = kvE (rSt cr cd) (rSt cr cd).length := by rw [hkv, hpe]; rfl
 have htf : t = tpE (rSt cr cd) (rSt cr cd).length := by rw [ht, hpe]; rfl
 have htb : 0 ≤ t ∧ t ≤ 40 := by rw [htf]; exact hE.top
 refine GC.exit (GE.pass (GE.pass (GE.hit (GE.then_ (GC.seq (GC.region ?_))))))
 refine G.step (OG.buildInts (xs := []) (is := []) rfl et22 rfl rfl rfl rfl rfl) rfl rfl rfl ?_
 rintro v11 _ ⟨hs12, rfl⟩
 refine G.stepD (OD.assign rfl rfl) rfl rfl rfl ?_
 refine G.nil (GE.then_ (GC.seq (GC.seq (GC.region ?_))))
 refine G.stepD (OD.assign rfl rfl) rfl rfl rfl ?_
 refine G.nil (GE.then_ (GC.block ?_))
 refine GC.loop (ι := Nat × List Int × Value) (fun ⟨m, os, u⟩ => [(3, .map (some g3)), (4, .int .i64 (t)), (7, u), (8, .int .i64 ((m : Int) + 1))]) (fun ⟨m, os, u⟩ => ints 3 u os :: lst 22 v4 u5 :: many (ints 3) u5 (rSt cr cd) :: mapA keyL valI g9 (rKvs cr cd) :: mapA keyI valI g3 kv :: box g1 27 [.int .i64 (cr), vcd] :: own) (fun ⟨m, os, u⟩ => ((m : Int) ≤ t) ∧ (os = (List.range m).foldl (exI kv) []) ∧ (os.length ≤ 30 * m) ∧ (IsS u)) (fun ⟨m, os, u⟩ => t.toNat - m) (0, [], v11) (⟨by omega, rfl, by simp, hs12⟩) ⟨rfl, rfl, rfl, rfl, trivial⟩ [] 0 rfl ?_
 rintro ⟨m, os, u⟩ ⟨hm, hos, hol, hu⟩
 refine GC.seq (GC.seq (GC.region ?_))
 refine G.stepD (OD.move rfl rfl) rfl rfl rfl ?_
 refine G.stepD (OD.move rfl rfl) rfl rfl rfl ?_
 refine G.stepD (OD.leq rfl rfl rfl) rfl rfl rfl ?_
 refine G.nil (GE.then_ ?_)
 refine GC.cond rfl (fun hc13 => ?_) (fun hc13 => ?_)
 replace hc13 := of_decide_eq_true hc13
 have hdf : dfI kv m ≤ 30 := by rw [hkf]; exact hE.df m (by omega)
 refine GC.skip (GE.then_ (GC.seq (GC.block (GC.seq (GC.region ?_)))))
 refine G.stepD (OD.move rfl rfl) rfl rfl rfl ?_
 refine G.stepD (OD.move rfl rfl) rfl rfl rfl ?_
 refine G.stepD (OD.lookup (k := (m : Int) + 1) rfl mt104 ke3keyI rfl rfl (Ent.map (kE := keyI) (vE := valI) (l := kv) (i := 4) rfl)) rfl rfl rfl ?_
 refine G.stepD (OD.move rfl rfl) rfl rfl rfl ?_
 refine G.stepD (OD.move rfl rfl) rfl rfl rfl ?_
 refine G.stepD (OD.addI rfl rfl rfl (by omega)) rfl rfl rfl ?_
 refine G.stepD (OD.lookup (k := ((m : Int) + 1) + 1) rfl mt104 ke3keyI rfl rfl (Ent.map (kE := keyI) (vE := valI) (l := kv) (i := 4) rfl)) rfl rfl rfl ?_
 refine G.stepD (OD.eqv (OD.sub rfl rfl rfl) (congrArg (Value.int .i64) ((rfl) : (IntKind.i64.wrap (((alu ((m : Int) + 1) kv).getD 0) - ((alu (((m : Int) + 1) + 1) kv).getD 0)) : Int) = (dfI kv m)))) rfl rfl rfl ?_
 refine G.stepD (OD.move rfl rfl) rfl rfl rfl ?_
 refine G.nil (GE.then_ (GC.block ?_))
 refine GC.loop (ι := Nat × List Int × Value) (fun ⟨q, ys, w⟩ => [(3, .map (some g3)), (4, .int .i64 (t)), (8, .int .i64 ((m : Int) + 1)), (44, .int .i64 (dfI kv m)), (7, w), (45, .int .i64 ((q : Int)))]) (fun ⟨q, ys, w⟩ => ints 3 w ys :: lst 22 v4 u5 :: many (ints 3) u5 (rSt cr cd) :: mapA keyL valI g9 (rKvs cr cd) :: mapA keyI valI g3 kv :: box g1 27 [.int .i64 (cr), vcd] :: own) (fun ⟨q, ys, w⟩ => (q ≤ (dfI kv m).toNat) ∧ (ys = os ++ List.replicate q ((m : Int) + 1)) ∧ (IsS w)) (fun ⟨q, ys, w⟩ => (dfI kv m).toNat - q) (0, os, u) (⟨by omega, by simp, hu⟩) ⟨rfl, rfl, rfl, rfl, rfl, rfl, trivial⟩ [] 0 rfl ?_
 rintro ⟨q, ys, w⟩ ⟨hq, hy, hw⟩
 have hyl : ys.length = os.length + q := by rw [hy]; simp
 refine GC.seq (GC.region ?_)
 refine G.stepD (OD.lss rfl rfl rfl) rfl rfl rfl ?_
 refine G.nil (GE.then_ (GC.seq ?_))
 refine GC.cond rfl (fun hc14 => ?_) (fun hc14 => ?_)
 replace hc14 := of_decide_eq_true hc14
 refine GC.skip (GE.then_ (GC.seq (GC.block (GC.region ?_))))
 refine G.stepD (OD.move rfl rfl) rfl rfl rfl ?_
 refine G.stepD (OD.move rfl rfl) rfl rfl rfl ?_
 refine G.step (OG.buildInts (xs := [.tmp 48]) (is := [(m : Int) + 1]) rfl et22 rfl rfl rfl rfl rfl) rfl rfl rfl ?_
 rintro v15 _ ⟨hs16, rfl⟩
 refine G.step (OG.appendInts 1 rfl rfl et22 rfl rfl rfl (Ent.ints (i := 0) rfl) (by first | omega | (simp; omega))) rfl rfl rfl ?_
 rintro v17 _ ⟨hs18, rfl⟩
 refine G.stepD (OD.assign rfl rfl) rfl rfl rfl ?_
 refine G.nil (GE.blockN (GE.then_ (GC.region ?_)))
 refine G.stepD (OD.addI rfl rfl rfl (by omega)) rfl rfl rfl ?_
 refine G.stepD (OD.move rfl rfl) rfl rfl rfl ?_
 refine G.nil ?_
 exact GE.again (q + 1, ys ++ [(m : Int) + 1], v17) (⟨by omega, by rw [hy]; exact repS, hs18⟩) (by first | omega | (dsimp only; omega)) ⟨rfl, rfl, rfl, rfl, rfl, rfl, trivial⟩ [1, 1, 1, 1, 1, 1] 1 rfl
 replace hc14 := of_decide_eq_false hc14
 refine GC.exit (GE.pass (GE.pass (GE.hit (GE.blockN (GE.then_ (GC.region ?_))))))
 refine G.stepD (OD.move rfl rfl) rfl rfl rfl ?_
 refine G.stepD (OD.addI rfl rfl rfl (by omega)) rfl rfl rfl ?_
 refine G.stepD (OD.assign rfl rfl) rfl rfl rfl ?_
 refine G.nil ?_
 exact GE.again (m + 1, ys, w) (⟨by omega, fold_next hos (exI_step hy (by omega)), by omega, hw⟩) (by first | omega | (dsimp only; omega)) ⟨rfl, rfl, rfl, rfl, trivial⟩ [] 0 rfl
 replace hc13 := of_decide_eq_false hc13
 refine GC.exit (GE.pass (GE.pass (GE.hit (GE.then_ (GC.seq (GC.region ?_))))))
 refine G.stepD (OD.move rfl rfl) rfl rfl rfl ?_
 refine G.stepD (OD.assign rfl rfl) rfl rfl rfl ?_
 refine G.nil (GE.then_ (GC.ret ?_))
 exact GE.body [0] 5 (res1 rfl rfl) rfl (⟨u, rfl, hu, congrArg (fun (l0 : List Int) => ints 3 u l0 :: own) ((by rw [exOf, if_pos hS, eI, ← hkf, ← htf, show t.toNat = m by omega]; exact hos : os = exOf cr cd))⟩)
end Go.Proofs.YtgelkakjmbiibaaGreatDoor
