/-
  The parts of a matrix, as the second text tells them: a contract by a walk.
-/
import Derived.Test.YtjdkkhlngflgfaaDoorFct
import Derived.Test.YtjdkkhlngflgfaaDoorWFit
import Derived.Test.YtjdkkhlngflgfaaDoorCarR
namespace Go.Proofs.YtjdkkhlngflgfaaDoor
set_option linter.unusedVariables false
set_option linter.unusedSimpArgs false
open Go.RowKit



set_option maxHeartbeats 4000000 in
set_option maxRecDepth 100000 in
theorem l5Parts_w {W : World} {own : List Asn} {cr : Int} {vcd : Value} {cd : List Int}  (scd : IsS vcd) (ecd : Ent own fun w => Ints w vcd cd)  (hl0 : cd.length ≤ 1073741824) : Spec Tryd.prog 25 [.agg #[.int .i64 (cr), vcd]] W own (fun v ow => ∃ (r0 : Value), v = .tuple #[r0, .bool ((tyS cr cd).isSome)] ∧ IsS r0 ∧ ow = strs 9 r0 (psN (tyS cr cd)) :: own) := by
 refine Spec.enter Tryd.f25 _ Tryd.func25 rfl (n := 148) rfl rfl ?_
 refine GC.seq (GC.region ?_)
 refine G.step (OG.box (cs := [.int .i64 (cr), vcd]) rfl rfl rfl) rfl rfl rfl ?_
 rintro _ _ ⟨g1, rfl, rfl⟩
 refine G.stepD (OD.assign rfl rfl) rfl rfl rfl ?_
 refine G.stepD (OD.assign rfl rfl) rfl rfl rfl ?_
 refine G.nil (GE.then_ (GC.seq (GC.seq (GC.region ?_))))
 refine G.stepD (OD.fieldAddr rfl rfl fa28_0) rfl rfl rfl ?_
 refine G.stepD (OD.load rfl ti3 rfl (i := 0) rfl rfl) rfl rfl rfl ?_
 refine G.step (OG.call [.int .i64 (cr), .int .i64 (1), .int .i64 (4)] ent26 rfl rfl rfl rfl (by exact l1In_w)) rfl rfl rfl ?_
 rintro _ _ ⟨rfl, rfl⟩
 refine G.stepD (OD.not rfl rfl) rfl rfl rfl ?_
 refine G.stepD (OD.move rfl rfl) rfl rfl rfl ?_
 rcases Bool.eq_false_or_eq_true (!(inB cr 1 4)) with hg2 | hg2
 have hg2e := hg2
 refine G.at [] 0 (env' := [(0, .agg #[.int .i64 (cr), vcd]), (1, .pointer (some ⟨g1, 0, none⟩)), (2, .slice none 0 0), (3, .bool false), (13, .pointer (some ⟨g1, 0, none⟩)), (14, .int .i64 (cr)), (15, .bool (inB cr 1 4)), (16, .bool true), (17, .bool true)]) (⟨rfl, rfl, rfl, rfl, rfl, rfl, rfl, (congrArg (fun b => some (Value.bool b)) hg2e), (congrArg (fun b => some (Value.bool b)) hg2e), trivial⟩) rfl ?_
 replace hg2 := eq_false_of_not hg2
 refine G.skipG rfl rfl rfl rfl rfl rfl (G.skipG rfl rfl rfl rfl rfl rfl (G.skipG rfl rfl rfl rfl rfl rfl (G.skipG rfl rfl rfl rfl rfl rfl (G.skipG rfl rfl rfl rfl rfl rfl (G.skipG rfl rfl rfl rfl rfl rfl (G.skipG rfl rfl rfl rfl rfl rfl (G.skipG rfl rfl rfl rfl rfl rfl (G.skipG rfl rfl rfl rfl rfl rfl ?_))))))))
 refine G.stepD (OD.pickT rfl rfl rfl) rfl rfl rfl ?_
 refine G.nil (GE.then_ (GC.condT rfl ?_))
 obtain ⟨hq1, hq2⟩ := psN_none (tyS_not (okI_no (.inl hg2)))
 refine GC.seq (GC.region ?_)
 refine G.stepD (OD.assign rfl rfl) rfl rfl rfl ?_
 refine G.stepD (OD.assign rfl rfl) rfl rfl rfl ?_
 refine G.nil (GE.then_ (GC.ret (GE.passR ?_)))
 refine GE.nilStrs 9 ?_
 exact GE.body [0] 1 (res2 rfl rfl rfl) rfl (⟨(.slice none 0 0), congrArg (fun (a1 : Bool) => (.tuple #[(.slice none 0 0), .bool (a1)] : Value)) ((hq2.symm : (false : Bool) = (tyS cr cd).isSome)), IsS.nil, congrArg (fun (l0 : List ByteArray) => strs 9 (.slice none 0 0) l0 :: own) ((hq1.symm : [] = psN (tyS cr cd)))⟩)
 have hg2e := hg2
 refine G.at [] 0 (env' := [(0, .agg #[.int .i64 (cr), vcd]), (1, .pointer (some ⟨g1, 0, none⟩)), (2, .slice none 0 0), (3, .bool false), (13, .pointer (some ⟨g1, 0, none⟩)), (14, .int .i64 (cr)), (15, .bool (inB cr 1 4)), (16, .bool false), (17, .bool false)]) (⟨rfl, rfl, rfl, rfl, rfl, rfl, rfl, (congrArg (fun b => some (Value.bool b)) hg2e), (congrArg (fun b => some (Value.bool b)) hg2e), trivial⟩) rfl ?_
 replace hg2 := eq_true_of_not hg2
 refine G.stepGD (OD.fieldAddr rfl rfl fa28_1) rfl rfl rfl rfl rfl ?_
 refine G.stepGD (OD.load rfl ti22 rfl (i := 0) rfl rfl) rfl rfl rfl rfl rfl ?_
 refine G.stepGD (OD.len rfl rfl et22 rfl (Ent.drop 1 ecd)) rfl rfl rfl rfl rfl ?_
 refine G.stepGD (OD.fieldAddr rfl rfl fa28_0) rfl rfl rfl rfl rfl ?_
 refine G.stepGD (OD.load rfl ti3 rfl (i := 0) rfl rfl) rfl rfl rfl rfl rfl ?_
 refine G.stepGD (OD.fieldAddr rfl rfl fa28_0) rfl rfl rfl rfl rfl ?_
 refine G.stepGD (OD.load rfl ti3 rfl (i := 0) rfl rfl) rfl rfl rfl rfl rfl ?_
 refine G.stepGD (OD.mulI rfl rfl rfl (sqr_bd (inB_true (by assumption)))) rfl rfl rfl rfl rfl ?_
 refine G.stepGD (OD.neq rfl rfl rfl) rfl rfl rfl rfl rfl ?_
 refine G.stepD (OD.pickF rfl rfl rfl) rfl rfl rfl ?_
 refine G.nil (GE.then_ ?_)
 refine GC.cond rfl (fun hc3 => ?_) (fun hc3 => ?_)
 replace hc3 := ne_of_bne hc3
 obtain ⟨hq1, hq2⟩ := psN_none (tyS_not (okI_no (.inr hc3)))
 refine GC.seq (GC.region ?_)
 refine G.stepD (OD.assign rfl rfl) rfl rfl rfl ?_
 refine G.stepD (OD.assign rfl rfl) rfl rfl rfl ?_
 refine G.nil (GE.then_ (GC.ret (GE.passR ?_)))
 refine GE.nilStrs 9 ?_
 exact GE.body [0] 1 (res2 rfl rfl rfl) rfl (⟨(.slice none 0 0), congrArg (fun (a1 : Bool) => (.tuple #[(.slice none 0 0), .bool (a1)] : Value)) ((hq2.symm : (false : Bool) = (tyS cr cd).isSome)), IsS.nil, congrArg (fun (l0 : List ByteArray) => strs 9 (.slice none 0 0) l0 :: own) ((hq1.symm : [] = psN (tyS cr cd)))⟩)
 replace hc3 := eq_of_bne_false hc3
 have hok1 := okI_of hg2 hc3
 have hcr2 := inB_true hg2
 have hn12 : nameL.length = 12 := rfl
 have hcc : cr * cr ≤ 4 * 4 := Int.mul_le_mul (by omega) (by omega) (by omega) (by omega)
 refine GC.skip (GE.then_ (GC.seq (GC.seq (GC.region ?_))))
 refine G.stepD (OD.assign rfl rfl) rfl rfl rfl ?_
 refine G.nil (GE.then_ (GC.block ?_))
 refine GC.loop (ι := Nat) (fun i => [(1, .pointer (some ⟨g1, 0, none⟩)), (4, .int .i64 ((i : Int)))]) (fun i => box g1 28 [.int .i64 (cr), vcd] :: own) (fun i => (i ≤ cd.length) ∧ ((List.range i).any (badE cr cd) = false)) (fun i => cd.length - i) 0 (⟨by omega, rfl⟩) ⟨rfl, rfl, trivial⟩ [] 0 rfl ?_
 rintro i ⟨hi, hany⟩
 refine GC.seq (GC.seq (GC.region ?_))
 refine G.stepD (OD.move rfl rfl) rfl rfl rfl ?_
 refine G.stepD (OD.fieldAddr rfl rfl fa28_1) rfl rfl rfl ?_
 refine G.stepD (OD.load rfl ti22 rfl (i := 0) rfl rfl) rfl rfl rfl ?_
 refine G.stepD (OD.len rfl rfl et22 rfl (Ent.drop 1 ecd)) rfl rfl rfl ?_
 refine G.stepD (OD.lss rfl rfl rfl) rfl rfl rfl ?_
 refine G.nil (GE.then_ ?_)
 refine GC.cond rfl (fun hc4 => ?_) (fun hc4 => ?_)
 replace hc4 := of_decide_eq_true hc4
 have htd := tm_td (n := cr) (i := i) (by omega) (by omega)
 have hwt := wrap_td (n := cr) (i := i) hcr2 (by omega)
 have hx := idx_bd (n := cr) (i := (i : Int).tmod cr) (j := (i : Int).tdiv cr) ⟨by omega, by omega⟩ ⟨by omega, by omega⟩ (by omega)
 refine GC.skip (GE.then_ (GC.seq (GC.block (GC.seq ?_))))
 rcases Bool.eq_false_or_eq_true (!(inB (cd.getD (i) 0) (-3) 2)) with hg5 | hg5
 have hg5p := hg5
 replace hg5p := eq_false_of_not hg5p
 refine GC.at [] 0 (env' := [(1, .pointer (some ⟨g1, 0, none⟩)), (4, .int .i64 ((i : Int)))]) ⟨rfl, rfl, trivial⟩ rfl ?_
 refine GC.par (its := [⟨35, [], [], [], [], fun _ => .pointer (some ⟨g1, 1, none⟩), fun _ => True, fun _ => []⟩,
     ⟨36, [(0, 35)], [], [], [], fun _ => vcd, fun _ => True, fun _ => []⟩,
     ⟨37, [], [], [], [], fun _ => .int .i64 ((i : Int)), fun _ => True, fun _ => []⟩,
     ⟨38, [(1, 36), (2, 37)], [], [], [], fun _ => elemPtr vcd 1 (i), fun _ => True, fun _ => []⟩,
     ⟨39, [(3, 38)], [], [], [], fun _ => .int .i64 (cd.getD (i) 0), fun _ => True, fun _ => []⟩,
     ⟨40, [(4, 39)], [], [], [], fun _ => .bool (inB (cd.getD (i) 0) (-3) 2), fun _ => True, fun _ => []⟩,
     ⟨41, [(5, 40)], [], [], [], fun _ => .bool true, fun _ => True, fun _ => []⟩,
     ⟨42, [(6, 41)], [], [], [], fun _ => .bool true, fun _ => True, fun _ => []⟩,
     ⟨43, [(7, 42)], [], [], [], fun _ => undef, fun _ => True, fun _ => []⟩,
     ⟨44, [(7, 42), (8, 43)], [], [], [], fun _ => undef, fun _ => True, fun _ => []⟩,
     ⟨45, [(7, 42)], [], [], [], fun _ => undef, fun _ => True, fun _ => []⟩,
     ⟨46, [(7, 42), (9, 44), (10, 45)], [], [], [], fun _ => undef, fun _ => True, fun _ => []⟩,
     ⟨47, [(7, 42), (11, 46)], [], [], [], fun _ => undef, fun _ => True, fun _ => []⟩,
     ⟨48, [(7, 42), (12, 47)], [], [], [], fun _ => undef, fun _ => True, fun _ => []⟩,
     ⟨49, [(7, 42), (13, 48)], [], [], [], fun _ => undef, fun _ => True, fun _ => []⟩,
     ⟨50, [(14, 49)], [], [], [], fun _ => undef, fun _ => True, fun _ => []⟩,
     ⟨51, [(14, 49), (15, 50)], [], [], [], fun _ => undef, fun _ => True, fun _ => []⟩,
     ⟨52, [(14, 49)], [], [], [], fun _ => undef, fun _ => True, fun _ => []⟩,
     ⟨53, [(14, 49)], [], [], [], fun _ => undef, fun _ => True, fun _ => []⟩,
     ⟨54, [(14, 49), (18, 53)], [], [], [], fun _ => undef, fun _ => True, fun _ => []⟩,
     ⟨55, [(14, 49), (17, 52), (19, 54)], [], [], [], fun _ => undef, fun _ => True, fun _ => []⟩,
     ⟨56, [(14, 49)], [], [], [], fun _ => undef, fun _ => True, fun _ => []⟩,
     ⟨57, [(14, 49), (21, 56)], [], [], [], fun _ => undef, fun _ => True, fun _ => []⟩,
     ⟨58, [(14, 49), (20, 55), (22, 57)], [], [], [], fun _ => undef, fun _ => True, fun _ => []⟩,
     ⟨59, [(14, 49)], [], [], [], fun _ => undef, fun _ => True, fun _ => []⟩,
     ⟨60, [(14, 49)], [], [], [], fun _ => undef, fun _ => True, fun _ => []⟩,
     ⟨61, [(14, 49), (25, 60)], [], [], [], fun _ => undef, fun _ => True, fun _ => []⟩,
     ⟨62, [(14, 49), (24, 59), (26, 61)], [], [], [], fun _ => undef, fun _ => True, fun _ => []⟩,
     ⟨63, [(14, 49), (23, 58), (27, 62)], [], [], [], fun _ => undef, fun _ => True, fun _ => []⟩,
     ⟨64, [(14, 49), (16, 51), (28, 63)], [], [], [], fun _ => undef, fun _ => True, fun _ => []⟩,
     ⟨65, [(14, 49), (29, 64)], [], [], [], fun _ => undef, fun _ => True, fun _ => []⟩,
     ⟨66, [(14, 49), (30, 65)], [], [], [], fun _ => undef, fun _ => True, fun _ => []⟩,
     ⟨67, [(7, 42), (14, 49), (31, 66)], [], [], [], fun _ => undef, fun _ => True, fun _ => []⟩,
     ⟨68, [(7, 42), (32, 67)], [], [], [], fun _ => .bool true, fun _ => True, fun _ => []⟩]) (by kernel_rfl) (by kernel_rfl) (POps.cons ?_ (POps.cons ?_ (POps.cons ?_ (POps.cons ?_ (POps.cons ?_ (POps.cons ?_ (POps.cons ?_ (POps.cons ?_ (POps.cons ?_ (POps.cons ?_ (POps.cons ?_ (POps.cons ?_ (POps.cons ?_ (POps.cons ?_ (POps.cons ?_ (POps.cons ?_ (POps.cons ?_ (POps.cons ?_ (POps.cons ?_ (POps.cons ?_ (POps.cons ?_ (POps.cons ?_ (POps.cons ?_ (POps.cons ?_ (POps.cons ?_ (POps.cons ?_ (POps.cons ?_ (POps.cons ?_ (POps.cons ?_ (POps.cons ?_ (POps.cons ?_ (POps.cons ?_ (POps.cons ?_ (POps.cons ?_ POps.nil)))))))))))))))))))))))))))))))))) ?_
 intro θ R hd
 exact Opp.plain (OG.imp (OD.fieldAddr rfl rfl fa28_1) (by rintro _ _ ⟨rfl, rfl⟩; exact ⟨[], rfl, trivial, rfl⟩)) rfl
 intro θ R hd
 obtain ⟨h0d, _⟩ := hd
 exact Opp.plain (OG.imp (OD.load rfl ti22 rfl (i := 0) rfl rfl) (by rintro _ _ ⟨rfl, rfl⟩; exact ⟨[], rfl, trivial, rfl⟩)) rfl
 intro θ R hd
 exact Opp.plain (OG.imp (OD.move rfl rfl) (by rintro _ _ ⟨rfl, rfl⟩; exact ⟨[], rfl, trivial, rfl⟩)) rfl
 intro θ R hd
 obtain ⟨h1d, h2d, _⟩ := hd
 exact Opp.plain (OG.imp (OD.indexAddr rfl et22 rfl (Ent.drop 1 ecd.app) rfl (by omega)) (by rintro _ _ ⟨rfl, rfl⟩; exact ⟨[], rfl, trivial, rfl⟩)) rfl
 intro θ R hd
 obtain ⟨h3d, _⟩ := hd
 exact Opp.plain (OG.imp (OD.loadInt rfl ti3 rfl (Ent.drop 1 ecd.app) (by omega)) (by rintro _ _ ⟨rfl, rfl⟩; exact ⟨[], rfl, trivial, rfl⟩)) rfl
 intro θ R hd
 obtain ⟨h4d, _⟩ := hd
 exact Opp.plain (OG.imp (OG.call [.int .i64 (cd.getD (i) 0), .int .i64 (-3), .int .i64 (2)] ent26 rfl rfl rfl rfl (by exact l1In_w)) (by rintro _ _ ⟨rfl, rfl⟩; exact ⟨[], rfl, trivial, rfl⟩)) rfl
 intro θ R hd
 obtain ⟨h5d, _⟩ := hd
 exact Opp.plain (OG.imp (OD.not rfl rfl) (by rintro _ _ ⟨rfl, rfl⟩; exact ⟨[], congrArg Value.bool hg5, trivial, rfl⟩)) rfl
 intro θ R hd
 obtain ⟨h6d, _⟩ := hd
 exact Opp.plain (OG.imp (OD.move rfl rfl) (by rintro _ _ ⟨rfl, rfl⟩; exact ⟨[], rfl, trivial, rfl⟩)) rfl
 intro θ R hd
 obtain ⟨h7d, _⟩ := hd
 exact Opp.off ⟨[], rfl, trivial, rfl⟩ rfl rfl rfl rfl
 intro θ R hd
 obtain ⟨h7d, h8d, _⟩ := hd
 exact Opp.off ⟨[], rfl, trivial, rfl⟩ rfl rfl rfl rfl
 intro θ R hd
 obtain ⟨h7d, _⟩ := hd
 exact Opp.off ⟨[], rfl, trivial, rfl⟩ rfl rfl rfl rfl
 intro θ R hd
 obtain ⟨h7d, h9d, h10d, _⟩ := hd
 exact Opp.off ⟨[], rfl, trivial, rfl⟩ rfl rfl rfl rfl
 intro θ R hd
 obtain ⟨h7d, h11d, _⟩ := hd
 exact Opp.off ⟨[], rfl, trivial, rfl⟩ rfl rfl rfl rfl
 intro θ R hd
 obtain ⟨h7d, h12d, _⟩ := hd
 exact Opp.off ⟨[], rfl, trivial, rfl⟩ rfl rfl rfl rfl
 intro θ R hd
 obtain ⟨h7d, h13d, _⟩ := hd
 exact Opp.off ⟨[], rfl, trivial, rfl⟩ rfl rfl rfl rfl
 intro θ R hd
 obtain ⟨h14d, _⟩ := hd
 exact Opp.offU ⟨[], rfl, trivial, rfl⟩ rfl rfl rfl
 intro θ R hd
 obtain ⟨h14d, h15d, _⟩ := hd
 exact Opp.offU ⟨[], rfl, trivial, rfl⟩ rfl rfl rfl
 intro θ R hd
 obtain ⟨h14d, _⟩ := hd
 exact Opp.offU ⟨[], rfl, trivial, rfl⟩ rfl rfl rfl
 intro θ R hd
 obtain ⟨h14d, _⟩ := hd
 exact Opp.offU ⟨[], rfl, trivial, rfl⟩ rfl rfl rfl
 intro θ R hd
 obtain ⟨h14d, h18d, _⟩ := hd
 exact Opp.offU ⟨[], rfl, trivial, rfl⟩ rfl rfl rfl
 intro θ R hd
 obtain ⟨h14d, h17d, h19d, _⟩ := hd
 exact Opp.offU ⟨[], rfl, trivial, rfl⟩ rfl rfl rfl
 intro θ R hd
 obtain ⟨h14d, _⟩ := hd
 exact Opp.offU ⟨[], rfl, trivial, rfl⟩ rfl rfl rfl
 intro θ R hd
 obtain ⟨h14d, h21d, _⟩ := hd
 exact Opp.offU ⟨[], rfl, trivial, rfl⟩ rfl rfl rfl
 intro θ R hd
 obtain ⟨h14d, h20d, h22d, _⟩ := hd
 exact Opp.offU ⟨[], rfl, trivial, rfl⟩ rfl rfl rfl
 intro θ R hd
 obtain ⟨h14d, _⟩ := hd
 exact Opp.offU ⟨[], rfl, trivial, rfl⟩ rfl rfl rfl
 intro θ R hd
 obtain ⟨h14d, _⟩ := hd
 exact Opp.offU ⟨[], rfl, trivial, rfl⟩ rfl rfl rfl
 intro θ R hd
 obtain ⟨h14d, h25d, _⟩ := hd
 exact Opp.offU ⟨[], rfl, trivial, rfl⟩ rfl rfl rfl
 intro θ R hd
 obtain ⟨h14d, h24d, h26d, _⟩ := hd
 exact Opp.offU ⟨[], rfl, trivial, rfl⟩ rfl rfl rfl
 intro θ R hd
 obtain ⟨h14d, h23d, h27d, _⟩ := hd
 exact Opp.offU ⟨[], rfl, trivial, rfl⟩ rfl rfl rfl
 intro θ R hd
 obtain ⟨h14d, h16d, h28d, _⟩ := hd
 exact Opp.offU ⟨[], rfl, trivial, rfl⟩ rfl rfl rfl
 intro θ R hd
 obtain ⟨h14d, h29d, _⟩ := hd
 exact Opp.offU ⟨[], rfl, trivial, rfl⟩ rfl rfl rfl
 intro θ R hd
 obtain ⟨h14d, h30d, _⟩ := hd
 exact Opp.offU ⟨[], rfl, trivial, rfl⟩ rfl rfl rfl
 intro θ R hd
 obtain ⟨h7d, h14d, h31d, _⟩ := hd
 exact Opp.off ⟨[], rfl, trivial, rfl⟩ rfl rfl rfl rfl
 intro θ R hd
 obtain ⟨h7d, h32d, _⟩ := hd
 exact Opp.plain (OG.imp (OD.pickT rfl rfl rfl) (by rintro _ _ ⟨rfl, rfl⟩; exact ⟨[], rfl, trivial, rfl⟩)) rfl
 intro θ hall
 obtain ⟨_, _, _, _, _, _, _, _, _, _, _, _, _, _, _, _, _, _, _, _, _, _, _, _, _, _, _, _, _, _, _, _, _, _, _⟩ := hall
 refine G.at [] 0 (env' := [(1, .pointer (some ⟨g1, 0, none⟩)), (4, .int .i64 ((i : Int))), (68, .bool true)]) ⟨rfl, rfl, rfl, trivial⟩ (own' := box g1 28 [.int .i64 (cr), vcd] :: own) rfl ?_
 show G _ _ _ [] _ _ _ _
 refine G.nil (GE.then_ (GC.condT rfl ?_))
 have hbad : badE cr cd i = true := by simp only [badE, atI, hg2e, hg5, Bool.not_true, Bool.not_false, Bool.and_true, Bool.true_and, Bool.and_false, Bool.false_and, Bool.and_self, Bool.or_false, Bool.or_true, Bool.false_or, Bool.true_or]
 obtain ⟨hq1, hq2⟩ := psN_none (tyS_bad hok1 (by omega) hbad)
 refine GC.seq (GC.region ?_)
 refine G.stepD (OD.assign rfl rfl) rfl rfl rfl ?_
 refine G.stepD (OD.assign rfl rfl) rfl rfl rfl ?_
 refine G.nil (GE.then_ (GC.ret (GE.blockR (GE.passR (GE.passR (GE.blockR (GE.passR ?_)))))))
 refine GE.nilStrs 9 ?_
 exact GE.body [0] 1 (res2 rfl rfl rfl) rfl (⟨(.slice none 0 0), congrArg (fun (a1 : Bool) => (.tuple #[(.slice none 0 0), .bool (a1)] : Value)) ((hq2.symm : (false : Bool) = (tyS cr cd).isSome)), IsS.nil, congrArg (fun (l0 : List ByteArray) => strs 9 (.slice none 0 0) l0 :: own) ((hq1.symm : [] = psN (tyS cr cd)))⟩)
 have hg5p := hg5
 replace hg5p := eq_true_of_not hg5p
 rcases Bool.eq_false_or_eq_true ((cd.getD (i) 0) != 0) with hg6 | hg6
 have hg6p := hg6
 replace hg6p := ne_of_bne hg6p
 refine GC.at [] 0 (env' := [(1, .pointer (some ⟨g1, 0, none⟩)), (4, .int .i64 ((i : Int)))]) ⟨rfl, rfl, trivial⟩ rfl ?_
 refine GC.par (its := [⟨35, [], [], [], [], fun _ => .pointer (some ⟨g1, 1, none⟩), fun _ => True, fun _ => []⟩,
     ⟨36, [(0, 35)], [], [], [], fun _ => vcd, fun _ => True, fun _ => []⟩,
     ⟨37, [], [], [], [], fun _ => .int .i64 ((i : Int)), fun _ => True, fun _ => []⟩,
     ⟨38, [(1, 36), (2, 37)], [], [], [], fun _ => elemPtr vcd 1 (i), fun _ => True, fun _ => []⟩,
     ⟨39, [(3, 38)], [], [], [], fun _ => .int .i64 (cd.getD (i) 0), fun _ => True, fun _ => []⟩,
     ⟨40, [(4, 39)], [], [], [], fun _ => .bool (inB (cd.getD (i) 0) (-3) 2), fun _ => True, fun _ => []⟩,
     ⟨41, [(5, 40)], [], [], [], fun _ => .bool false, fun _ => True, fun _ => []⟩,
     ⟨42, [(6, 41)], [], [], [], fun _ => .bool false, fun _ => True, fun _ => []⟩,
     ⟨43, [(7, 42)], [], [], [], fun _ => .pointer (some ⟨g1, 1, none⟩), fun _ => True, fun _ => []⟩,
     ⟨44, [(7, 42), (8, 43)], [], [], [], fun _ => vcd, fun _ => True, fun _ => []⟩,
     ⟨45, [(7, 42)], [], [], [], fun _ => .int .i64 ((i : Int)), fun _ => True, fun _ => []⟩,
     ⟨46, [(7, 42), (9, 44), (10, 45)], [], [], [], fun _ => elemPtr vcd 1 (i), fun _ => True, fun _ => []⟩,
     ⟨47, [(7, 42), (11, 46)], [], [], [], fun _ => .int .i64 (cd.getD (i) 0), fun _ => True, fun _ => []⟩,
     ⟨48, [(7, 42), (12, 47)], [], [], [], fun _ => .bool true, fun _ => True, fun _ => []⟩,
     ⟨49, [(7, 42), (13, 48)], [], [], [], fun _ => .bool true, fun _ => True, fun _ => []⟩,
     ⟨50, [(14, 49)], [], [], [], fun _ => .pointer (some ⟨g1, 1, none⟩), fun _ => True, fun _ => []⟩,
     ⟨51, [(14, 49), (15, 50)], [], [], [], fun _ => vcd, fun _ => True, fun _ => []⟩,
     ⟨52, [(14, 49)], [], [], [], fun _ => .int .i64 ((i : Int)), fun _ => True, fun _ => []⟩,
     ⟨53, [(14, 49)], [], [], [], fun _ => .pointer (some ⟨g1, 0, none⟩), fun _ => True, fun _ => []⟩,
     ⟨54, [(14, 49), (18, 53)], [], [], [], fun _ => .int .i64 (cr), fun _ => True, fun _ => []⟩,
     ⟨55, [(14, 49), (17, 52), (19, 54)], [], [], [], fun _ => .int .i64 (((i : Int)).tmod cr), fun _ => True, fun _ => []⟩,
     ⟨56, [(14, 49)], [], [], [], fun _ => .pointer (some ⟨g1, 0, none⟩), fun _ => True, fun _ => []⟩,
     ⟨57, [(14, 49), (21, 56)], [], [], [], fun _ => .int .i64 (cr), fun _ => True, fun _ => []⟩,
     ⟨58, [(14, 49), (20, 55), (22, 57)], [], [], [], fun _ => .int .i64 ((((i : Int)).tmod cr) * cr), fun _ => True, fun _ => []⟩,
     ⟨59, [(14, 49)], [], [], [], fun _ => .int .i64 ((i : Int)), fun _ => True, fun _ => []⟩,
     ⟨60, [(14, 49)], [], [], [], fun _ => .pointer (some ⟨g1, 0, none⟩), fun _ => True, fun _ => []⟩,
     ⟨61, [(14, 49), (25, 60)], [], [], [], fun _ => .int .i64 (cr), fun _ => True, fun _ => []⟩,
     ⟨62, [(14, 49), (24, 59), (26, 61)], [], [], [], fun _ => .int .i64 ((i : Int).tdiv cr), fun _ => True, fun _ => []⟩,
     ⟨63, [(14, 49), (23, 58), (27, 62)], [], [], [], fun _ => .int .i64 (((((i : Int)).tmod cr) * cr) + ((i : Int).tdiv cr)), fun _ => True, fun _ => []⟩,
     ⟨64, [(14, 49), (16, 51), (28, 63)], [], [], [], fun _ => elemPtr vcd 1 ((((((i : Int)).tmod cr) * cr) + ((i : Int).tdiv cr) : Int).toNat), fun _ => True, fun _ => []⟩,
     ⟨65, [(14, 49), (29, 64)], [], [], [], fun _ => .int .i64 (cd.getD ((((((i : Int)).tmod cr) * cr) + ((i : Int).tdiv cr) : Int).toNat) 0), fun _ => True, fun _ => []⟩,
     ⟨66, [(14, 49), (30, 65)], [], [], [], fun _ => .bool ((cd.getD ((((((i : Int)).tmod cr) * cr) + ((i : Int).tdiv cr) : Int).toNat) 0) == 0), fun _ => True, fun _ => []⟩,
     ⟨67, [(7, 42), (14, 49), (31, 66)], [], [], [], fun _ => .bool ((cd.getD ((((((i : Int)).tmod cr) * cr) + ((i : Int).tdiv cr) : Int).toNat) 0) == 0), fun _ => True, fun _ => []⟩,
     ⟨68, [(7, 42), (32, 67)], [], [], [], fun _ => .bool ((cd.getD ((((((i : Int)).tmod cr) * cr) + ((i : Int).tdiv cr) : Int).toNat) 0) == 0), fun _ => True, fun _ => []⟩]) (by kernel_rfl) (by kernel_rfl) (POps.cons ?_ (POps.cons ?_ (POps.cons ?_ (POps.cons ?_ (POps.cons ?_ (POps.cons ?_ (POps.cons ?_ (POps.cons ?_ (POps.cons ?_ (POps.cons ?_ (POps.cons ?_ (POps.cons ?_ (POps.cons ?_ (POps.cons ?_ (POps.cons ?_ (POps.cons ?_ (POps.cons ?_ (POps.cons ?_ (POps.cons ?_ (POps.cons ?_ (POps.cons ?_ (POps.cons ?_ (POps.cons ?_ (POps.cons ?_ (POps.cons ?_ (POps.cons ?_ (POps.cons ?_ (POps.cons ?_ (POps.cons ?_ (POps.cons ?_ (POps.cons ?_ (POps.cons ?_ (POps.cons ?_ (POps.cons ?_ POps.nil)))))))))))))))))))))))))))))))))) ?_
 intro θ R hd
 exact Opp.plain (OG.imp (OD.fieldAddr rfl rfl fa28_1) (by rintro _ _ ⟨rfl, rfl⟩; exact ⟨[], rfl, trivial, rfl⟩)) rfl
 intro θ R hd
 obtain ⟨h0d, _⟩ := hd
 exact Opp.plain (OG.imp (OD.load rfl ti22 rfl (i := 0) rfl rfl) (by rintro _ _ ⟨rfl, rfl⟩; exact ⟨[], rfl, trivial, rfl⟩)) rfl
 intro θ R hd
 exact Opp.plain (OG.imp (OD.move rfl rfl) (by rintro _ _ ⟨rfl, rfl⟩; exact ⟨[], rfl, trivial, rfl⟩)) rfl
 intro θ R hd
 obtain ⟨h1d, h2d, _⟩ := hd
 exact Opp.plain (OG.imp (OD.indexAddr rfl et22 rfl (Ent.drop 1 ecd.app) rfl (by omega)) (by rintro _ _ ⟨rfl, rfl⟩; exact ⟨[], rfl, trivial, rfl⟩)) rfl
 intro θ R hd
 obtain ⟨h3d, _⟩ := hd
 exact Opp.plain (OG.imp (OD.loadInt rfl ti3 rfl (Ent.drop 1 ecd.app) (by omega)) (by rintro _ _ ⟨rfl, rfl⟩; exact ⟨[], rfl, trivial, rfl⟩)) rfl
 intro θ R hd
 obtain ⟨h4d, _⟩ := hd
 exact Opp.plain (OG.imp (OG.call [.int .i64 (cd.getD (i) 0), .int .i64 (-3), .int .i64 (2)] ent26 rfl rfl rfl rfl (by exact l1In_w)) (by rintro _ _ ⟨rfl, rfl⟩; exact ⟨[], rfl, trivial, rfl⟩)) rfl
 intro θ R hd
 obtain ⟨h5d, _⟩ := hd
 exact Opp.plain (OG.imp (OD.not rfl rfl) (by rintro _ _ ⟨rfl, rfl⟩; exact ⟨[], congrArg Value.bool hg5, trivial, rfl⟩)) rfl
 intro θ R hd
 obtain ⟨h6d, _⟩ := hd
 exact Opp.plain (OG.imp (OD.move rfl rfl) (by rintro _ _ ⟨rfl, rfl⟩; exact ⟨[], rfl, trivial, rfl⟩)) rfl
 intro θ R hd
 obtain ⟨h7d, _⟩ := hd
 exact Opp.on (OG.imp (OD.fieldAddr rfl rfl fa28_1) (by rintro _ _ ⟨rfl, rfl⟩; exact ⟨[], rfl, trivial, rfl⟩)) rfl rfl rfl
 intro θ R hd
 obtain ⟨h7d, h8d, _⟩ := hd
 exact Opp.on (OG.imp (OD.load rfl ti22 rfl (i := 0) rfl rfl) (by rintro _ _ ⟨rfl, rfl⟩; exact ⟨[], rfl, trivial, rfl⟩)) rfl rfl rfl
 intro θ R hd
 obtain ⟨h7d, _⟩ := hd
 exact Opp.on (OG.imp (OD.move rfl rfl) (by rintro _ _ ⟨rfl, rfl⟩; exact ⟨[], rfl, trivial, rfl⟩)) rfl rfl rfl
 intro θ R hd
 obtain ⟨h7d, h9d, h10d, _⟩ := hd
 exact Opp.on (OG.imp (OD.indexAddr rfl et22 rfl (Ent.drop 1 ecd.app) rfl (by omega)) (by rintro _ _ ⟨rfl, rfl⟩; exact ⟨[], rfl, trivial, rfl⟩)) rfl rfl rfl
 intro θ R hd
 obtain ⟨h7d, h11d, _⟩ := hd
 exact Opp.on (OG.imp (OD.loadInt rfl ti3 rfl (Ent.drop 1 ecd.app) (by omega)) (by rintro _ _ ⟨rfl, rfl⟩; exact ⟨[], rfl, trivial, rfl⟩)) rfl rfl rfl
 intro θ R hd
 obtain ⟨h7d, h12d, _⟩ := hd
 exact Opp.on (OG.imp (OD.neq rfl rfl rfl) (by rintro _ _ ⟨rfl, rfl⟩; exact ⟨[], congrArg Value.bool hg6, trivial, rfl⟩)) rfl rfl rfl
 intro θ R hd
 obtain ⟨h7d, h13d, _⟩ := hd
 exact Opp.on (OG.imp (OD.move rfl rfl) (by rintro _ _ ⟨rfl, rfl⟩; exact ⟨[], rfl, trivial, rfl⟩)) rfl rfl rfl
 intro θ R hd
 obtain ⟨h14d, _⟩ := hd
 exact Opp.on (OG.imp (OD.fieldAddr rfl rfl fa28_1) (by rintro _ _ ⟨rfl, rfl⟩; exact ⟨[], rfl, trivial, rfl⟩)) rfl rfl rfl
 intro θ R hd
 obtain ⟨h14d, h15d, _⟩ := hd
 exact Opp.on (OG.imp (OD.load rfl ti22 rfl (i := 0) rfl rfl) (by rintro _ _ ⟨rfl, rfl⟩; exact ⟨[], rfl, trivial, rfl⟩)) rfl rfl rfl
 intro θ R hd
 obtain ⟨h14d, _⟩ := hd
 exact Opp.on (OG.imp (OD.move rfl rfl) (by rintro _ _ ⟨rfl, rfl⟩; exact ⟨[], rfl, trivial, rfl⟩)) rfl rfl rfl
 intro θ R hd
 obtain ⟨h14d, _⟩ := hd
 exact Opp.on (OG.imp (OD.fieldAddr rfl rfl fa28_0) (by rintro _ _ ⟨rfl, rfl⟩; exact ⟨[], rfl, trivial, rfl⟩)) rfl rfl rfl
 intro θ R hd
 obtain ⟨h14d, h18d, _⟩ := hd
 exact Opp.on (OG.imp (OD.load rfl ti3 rfl (i := 0) rfl rfl) (by rintro _ _ ⟨rfl, rfl⟩; exact ⟨[], rfl, trivial, rfl⟩)) rfl rfl rfl
 intro θ R hd
 obtain ⟨h14d, h17d, h19d, _⟩ := hd
 exact Opp.on (OG.imp (OD.rem rfl rfl rfl (by omega)) (by rintro _ _ ⟨rfl, rfl⟩; exact ⟨[], rfl, trivial, rfl⟩)) rfl rfl rfl
 intro θ R hd
 obtain ⟨h14d, _⟩ := hd
 exact Opp.on (OG.imp (OD.fieldAddr rfl rfl fa28_0) (by rintro _ _ ⟨rfl, rfl⟩; exact ⟨[], rfl, trivial, rfl⟩)) rfl rfl rfl
 intro θ R hd
 obtain ⟨h14d, h21d, _⟩ := hd
 exact Opp.on (OG.imp (OD.load rfl ti3 rfl (i := 0) rfl rfl) (by rintro _ _ ⟨rfl, rfl⟩; exact ⟨[], rfl, trivial, rfl⟩)) rfl rfl rfl
 intro θ R hd
 obtain ⟨h14d, h20d, h22d, _⟩ := hd
 exact Opp.on (OG.imp (OD.mulI rfl rfl rfl (by omega)) (by rintro _ _ ⟨rfl, rfl⟩; exact ⟨[], rfl, trivial, rfl⟩)) rfl rfl rfl
 intro θ R hd
 obtain ⟨h14d, _⟩ := hd
 exact Opp.on (OG.imp (OD.move rfl rfl) (by rintro _ _ ⟨rfl, rfl⟩; exact ⟨[], rfl, trivial, rfl⟩)) rfl rfl rfl
 intro θ R hd
 obtain ⟨h14d, _⟩ := hd
 exact Opp.on (OG.imp (OD.fieldAddr rfl rfl fa28_0) (by rintro _ _ ⟨rfl, rfl⟩; exact ⟨[], rfl, trivial, rfl⟩)) rfl rfl rfl
 intro θ R hd
 obtain ⟨h14d, h25d, _⟩ := hd
 exact Opp.on (OG.imp (OD.load rfl ti3 rfl (i := 0) rfl rfl) (by rintro _ _ ⟨rfl, rfl⟩; exact ⟨[], rfl, trivial, rfl⟩)) rfl rfl rfl
 intro θ R hd
 obtain ⟨h14d, h24d, h26d, _⟩ := hd
 exact Opp.on (OG.imp (OD.eqv (OD.quo rfl rfl rfl (by omega)) (congrArg (Value.int .i64) ((hwt) : (IntKind.i64.wrap (((i : Int)).tdiv cr) : Int) = ((i : Int).tdiv cr)))) (by rintro _ _ ⟨rfl, rfl⟩; exact ⟨[], rfl, trivial, rfl⟩)) rfl rfl rfl
 intro θ R hd
 obtain ⟨h14d, h23d, h27d, _⟩ := hd
 exact Opp.on (OG.imp (OD.addI rfl rfl rfl (by omega)) (by rintro _ _ ⟨rfl, rfl⟩; exact ⟨[], rfl, trivial, rfl⟩)) rfl rfl rfl
 intro θ R hd
 obtain ⟨h14d, h16d, h28d, _⟩ := hd
 exact Opp.on (OG.imp (OD.indexAddr rfl et22 rfl (Ent.drop 1 ecd.app) rfl (by omega)) (by rintro _ _ ⟨rfl, rfl⟩; exact ⟨[], rfl, trivial, rfl⟩)) rfl rfl rfl
 intro θ R hd
 obtain ⟨h14d, h29d, _⟩ := hd
 exact Opp.on (OG.imp (OD.loadInt rfl ti3 rfl (Ent.drop 1 ecd.app) (by omega)) (by rintro _ _ ⟨rfl, rfl⟩; exact ⟨[], rfl, trivial, rfl⟩)) rfl rfl rfl
 intro θ R hd
 obtain ⟨h14d, h30d, _⟩ := hd
 exact Opp.on (OG.imp (OD.eql rfl rfl rfl) (by rintro _ _ ⟨rfl, rfl⟩; exact ⟨[], rfl, trivial, rfl⟩)) rfl rfl rfl
 intro θ R hd
 obtain ⟨h7d, h14d, h31d, _⟩ := hd
 exact Opp.on (OG.imp (OD.pickT rfl rfl rfl) (by rintro _ _ ⟨rfl, rfl⟩; exact ⟨[], rfl, trivial, rfl⟩)) rfl rfl rfl
 intro θ R hd
 obtain ⟨h7d, h32d, _⟩ := hd
 exact Opp.plain (OG.imp (OD.pickF rfl rfl rfl) (by rintro _ _ ⟨rfl, rfl⟩; exact ⟨[], rfl, trivial, rfl⟩)) rfl
 intro θ hall
 obtain ⟨_, _, _, _, _, _, _, _, _, _, _, _, _, _, _, _, _, _, _, _, _, _, _, _, _, _, _, _, _, _, _, _, _, _, _⟩ := hall
 refine G.at [] 0 (env' := [(1, .pointer (some ⟨g1, 0, none⟩)), (4, .int .i64 ((i : Int))), (68, .bool ((cd.getD ((((((i : Int)).tmod cr) * cr) + ((i : Int).tdiv cr) : Int).toNat) 0) == 0))]) ⟨rfl, rfl, rfl, trivial⟩ (own' := box g1 28 [.int .i64 (cr), vcd] :: own) rfl ?_
 show G _ _ _ [] _ _ _ _
 refine G.nil (GE.then_ ?_)
 refine GC.cond rfl (fun hc7 => ?_) (fun hc7 => ?_)
 replace hc7 := eq_of_beq hc7
 have hc7b : (_ == _) = true := beq_iff_eq.2 hc7
 have hbad : badE cr cd i = true := by simp only [badE, atI, hg2e, hg5, hg6, hc7b, Bool.not_true, Bool.not_false, Bool.and_true, Bool.true_and, Bool.and_false, Bool.false_and, Bool.and_self, Bool.or_false, Bool.or_true, Bool.false_or, Bool.true_or]
 obtain ⟨hq1, hq2⟩ := psN_none (tyS_bad hok1 (by omega) hbad)
 refine GC.seq (GC.region ?_)
 refine G.stepD (OD.assign rfl rfl) rfl rfl rfl ?_
 refine G.stepD (OD.assign rfl rfl) rfl rfl rfl ?_
 refine G.nil (GE.then_ (GC.ret (GE.blockR (GE.passR (GE.passR (GE.blockR (GE.passR ?_)))))))
 refine GE.nilStrs 9 ?_
 exact GE.body [0] 1 (res2 rfl rfl rfl) rfl (⟨(.slice none 0 0), congrArg (fun (a1 : Bool) => (.tuple #[(.slice none 0 0), .bool (a1)] : Value)) ((hq2.symm : (false : Bool) = (tyS cr cd).isSome)), IsS.nil, congrArg (fun (l0 : List ByteArray) => strs 9 (.slice none 0 0) l0 :: own) ((hq1.symm : [] = psN (tyS cr cd)))⟩)
 replace hc7 := ne_of_beq_false hc7
 have hc7b := beqI_ne hc7
 refine GC.skip (GE.blockN (GE.then_ (GC.region ?_)))
 refine G.stepD (OD.move rfl rfl) rfl rfl rfl ?_
 refine G.stepD (OD.addI rfl rfl rfl (by omega)) rfl rfl rfl ?_
 refine G.stepD (OD.assign rfl rfl) rfl rfl rfl ?_
 refine G.nil ?_
 exact GE.again (i + 1) (⟨by omega, any_succ hany (by simp only [badE, atI, hg2e, hg5, hg6, hc7b, Bool.not_true, Bool.not_false, Bool.and_true, Bool.true_and, Bool.and_false, Bool.false_and, Bool.and_self, Bool.or_false, Bool.or_true, Bool.false_or, Bool.true_or])⟩) (by first | omega | (dsimp only; omega)) ⟨rfl, rfl, trivial⟩ [] 0 rfl
 have hg6p := hg6
 replace hg6p := eq_of_bne_false hg6p
 refine GC.at [] 0 (env' := [(1, .pointer (some ⟨g1, 0, none⟩)), (4, .int .i64 ((i : Int)))]) ⟨rfl, rfl, trivial⟩ rfl ?_
 refine GC.par (its := [⟨35, [], [], [], [], fun _ => .pointer (some ⟨g1, 1, none⟩), fun _ => True, fun _ => []⟩,
     ⟨36, [(0, 35)], [], [], [], fun _ => vcd, fun _ => True, fun _ => []⟩,
     ⟨37, [], [], [], [], fun _ => .int .i64 ((i : Int)), fun _ => True, fun _ => []⟩,
     ⟨38, [(1, 36), (2, 37)], [], [], [], fun _ => elemPtr vcd 1 (i), fun _ => True, fun _ => []⟩,
     ⟨39, [(3, 38)], [], [], [], fun _ => .int .i64 (cd.getD (i) 0), fun _ => True, fun _ => []⟩,
     ⟨40, [(4, 39)], [], [], [], fun _ => .bool (inB (cd.getD (i) 0) (-3) 2), fun _ => True, fun _ => []⟩,
     ⟨41, [(5, 40)], [], [], [], fun _ => .bool false, fun _ => True, fun _ => []⟩,
     ⟨42, [(6, 41)], [], [], [], fun _ => .bool false, fun _ => True, fun _ => []⟩,
     ⟨43, [(7, 42)], [], [], [], fun _ => .pointer (some ⟨g1, 1, none⟩), fun _ => True, fun _ => []⟩,
     ⟨44, [(7, 42), (8, 43)], [], [], [], fun _ => vcd, fun _ => True, fun _ => []⟩,
     ⟨45, [(7, 42)], [], [], [], fun _ => .int .i64 ((i : Int)), fun _ => True, fun _ => []⟩,
     ⟨46, [(7, 42), (9, 44), (10, 45)], [], [], [], fun _ => elemPtr vcd 1 (i), fun _ => True, fun _ => []⟩,
     ⟨47, [(7, 42), (11, 46)], [], [], [], fun _ => .int .i64 (cd.getD (i) 0), fun _ => True, fun _ => []⟩,
     ⟨48, [(7, 42), (12, 47)], [], [], [], fun _ => .bool false, fun _ => True, fun _ => []⟩,
     ⟨49, [(7, 42), (13, 48)], [], [], [], fun _ => .bool false, fun _ => True, fun _ => []⟩,
     ⟨50, [(14, 49)], [], [], [], fun _ => undef, fun _ => True, fun _ => []⟩,
     ⟨51, [(14, 49), (15, 50)], [], [], [], fun _ => undef, fun _ => True, fun _ => []⟩,
     ⟨52, [(14, 49)], [], [], [], fun _ => undef, fun _ => True, fun _ => []⟩,
     ⟨53, [(14, 49)], [], [], [], fun _ => undef, fun _ => True, fun _ => []⟩,
     ⟨54, [(14, 49), (18, 53)], [], [], [], fun _ => undef, fun _ => True, fun _ => []⟩,
     ⟨55, [(14, 49), (17, 52), (19, 54)], [], [], [], fun _ => undef, fun _ => True, fun _ => []⟩,
     ⟨56, [(14, 49)], [], [], [], fun _ => undef, fun _ => True, fun _ => []⟩,
     ⟨57, [(14, 49), (21, 56)], [], [], [], fun _ => undef, fun _ => True, fun _ => []⟩,
     ⟨58, [(14, 49), (20, 55), (22, 57)], [], [], [], fun _ => undef, fun _ => True, fun _ => []⟩,
     ⟨59, [(14, 49)], [], [], [], fun _ => undef, fun _ => True, fun _ => []⟩,
     ⟨60, [(14, 49)], [], [], [], fun _ => undef, fun _ => True, fun _ => []⟩,
     ⟨61, [(14, 49), (25, 60)], [], [], [], fun _ => undef, fun _ => True, fun _ => []⟩,
     ⟨62, [(14, 49), (24, 59), (26, 61)], [], [], [], fun _ => undef, fun _ => True, fun _ => []⟩,
     ⟨63, [(14, 49), (23, 58), (27, 62)], [], [], [], fun _ => undef, fun _ => True, fun _ => []⟩,
     ⟨64, [(14, 49), (16, 51), (28, 63)], [], [], [], fun _ => undef, fun _ => True, fun _ => []⟩,
     ⟨65, [(14, 49), (29, 64)], [], [], [], fun _ => undef, fun _ => True, fun _ => []⟩,
     ⟨66, [(14, 49), (30, 65)], [], [], [], fun _ => undef, fun _ => True, fun _ => []⟩,
     ⟨67, [(7, 42), (14, 49), (31, 66)], [], [], [], fun _ => .bool false, fun _ => True, fun _ => []⟩,
     ⟨68, [(7, 42), (32, 67)], [], [], [], fun _ => .bool false, fun _ => True, fun _ => []⟩]) (by kernel_rfl) (by kernel_rfl) (POps.cons ?_ (POps.cons ?_ (POps.cons ?_ (POps.cons ?_ (POps.cons ?_ (POps.cons ?_ (POps.cons ?_ (POps.cons ?_ (POps.cons ?_ (POps.cons ?_ (POps.cons ?_ (POps.cons ?_ (POps.cons ?_ (POps.cons ?_ (POps.cons ?_ (POps.cons ?_ (POps.cons ?_ (POps.cons ?_ (POps.cons ?_ (POps.cons ?_ (POps.cons ?_ (POps.cons ?_ (POps.cons ?_ (POps.cons ?_ (POps.cons ?_ (POps.cons ?_ (POps.cons ?_ (POps.cons ?_ (POps.cons ?_ (POps.cons ?_ (POps.cons ?_ (POps.cons ?_ (POps.cons ?_ (POps.cons ?_ POps.nil)))))))))))))))))))))))))))))))))) ?_
 intro θ R hd
 exact Opp.plain (OG.imp (OD.fieldAddr rfl rfl fa28_1) (by rintro _ _ ⟨rfl, rfl⟩; exact ⟨[], rfl, trivial, rfl⟩)) rfl
 intro θ R hd
 obtain ⟨h0d, _⟩ := hd
 exact Opp.plain (OG.imp (OD.load rfl ti22 rfl (i := 0) rfl rfl) (by rintro _ _ ⟨rfl, rfl⟩; exact ⟨[], rfl, trivial, rfl⟩)) rfl
 intro θ R hd
 exact Opp.plain (OG.imp (OD.move rfl rfl) (by rintro _ _ ⟨rfl, rfl⟩; exact ⟨[], rfl, trivial, rfl⟩)) rfl
 intro θ R hd
 obtain ⟨h1d, h2d, _⟩ := hd
 exact Opp.plain (OG.imp (OD.indexAddr rfl et22 rfl (Ent.drop 1 ecd.app) rfl (by omega)) (by rintro _ _ ⟨rfl, rfl⟩; exact ⟨[], rfl, trivial, rfl⟩)) rfl
 intro θ R hd
 obtain ⟨h3d, _⟩ := hd
 exact Opp.plain (OG.imp (OD.loadInt rfl ti3 rfl (Ent.drop 1 ecd.app) (by omega)) (by rintro _ _ ⟨rfl, rfl⟩; exact ⟨[], rfl, trivial, rfl⟩)) rfl
 intro θ R hd
 obtain ⟨h4d, _⟩ := hd
 exact Opp.plain (OG.imp (OG.call [.int .i64 (cd.getD (i) 0), .int .i64 (-3), .int .i64 (2)] ent26 rfl rfl rfl rfl (by exact l1In_w)) (by rintro _ _ ⟨rfl, rfl⟩; exact ⟨[], rfl, trivial, rfl⟩)) rfl
 intro θ R hd
 obtain ⟨h5d, _⟩ := hd
 exact Opp.plain (OG.imp (OD.not rfl rfl) (by rintro _ _ ⟨rfl, rfl⟩; exact ⟨[], congrArg Value.bool hg5, trivial, rfl⟩)) rfl
 intro θ R hd
 obtain ⟨h6d, _⟩ := hd
 exact Opp.plain (OG.imp (OD.move rfl rfl) (by rintro _ _ ⟨rfl, rfl⟩; exact ⟨[], rfl, trivial, rfl⟩)) rfl
 intro θ R hd
 obtain ⟨h7d, _⟩ := hd
 exact Opp.on (OG.imp (OD.fieldAddr rfl rfl fa28_1) (by rintro _ _ ⟨rfl, rfl⟩; exact ⟨[], rfl, trivial, rfl⟩)) rfl rfl rfl
 intro θ R hd
 obtain ⟨h7d, h8d, _⟩ := hd
 exact Opp.on (OG.imp (OD.load rfl ti22 rfl (i := 0) rfl rfl) (by rintro _ _ ⟨rfl, rfl⟩; exact ⟨[], rfl, trivial, rfl⟩)) rfl rfl rfl
 intro θ R hd
 obtain ⟨h7d, _⟩ := hd
 exact Opp.on (OG.imp (OD.move rfl rfl) (by rintro _ _ ⟨rfl, rfl⟩; exact ⟨[], rfl, trivial, rfl⟩)) rfl rfl rfl
 intro θ R hd
 obtain ⟨h7d, h9d, h10d, _⟩ := hd
 exact Opp.on (OG.imp (OD.indexAddr rfl et22 rfl (Ent.drop 1 ecd.app) rfl (by omega)) (by rintro _ _ ⟨rfl, rfl⟩; exact ⟨[], rfl, trivial, rfl⟩)) rfl rfl rfl
 intro θ R hd
 obtain ⟨h7d, h11d, _⟩ := hd
 exact Opp.on (OG.imp (OD.loadInt rfl ti3 rfl (Ent.drop 1 ecd.app) (by omega)) (by rintro _ _ ⟨rfl, rfl⟩; exact ⟨[], rfl, trivial, rfl⟩)) rfl rfl rfl
 intro θ R hd
 obtain ⟨h7d, h12d, _⟩ := hd
 exact Opp.on (OG.imp (OD.neq rfl rfl rfl) (by rintro _ _ ⟨rfl, rfl⟩; exact ⟨[], congrArg Value.bool hg6, trivial, rfl⟩)) rfl rfl rfl
 intro θ R hd
 obtain ⟨h7d, h13d, _⟩ := hd
 exact Opp.on (OG.imp (OD.move rfl rfl) (by rintro _ _ ⟨rfl, rfl⟩; exact ⟨[], rfl, trivial, rfl⟩)) rfl rfl rfl
 intro θ R hd
 obtain ⟨h14d, _⟩ := hd
 exact Opp.off ⟨[], rfl, trivial, rfl⟩ rfl rfl rfl rfl
 intro θ R hd
 obtain ⟨h14d, h15d, _⟩ := hd
 exact Opp.off ⟨[], rfl, trivial, rfl⟩ rfl rfl rfl rfl
 intro θ R hd
 obtain ⟨h14d, _⟩ := hd
 exact Opp.off ⟨[], rfl, trivial, rfl⟩ rfl rfl rfl rfl
 intro θ R hd
 obtain ⟨h14d, _⟩ := hd
 exact Opp.off ⟨[], rfl, trivial, rfl⟩ rfl rfl rfl rfl
 intro θ R hd
 obtain ⟨h14d, h18d, _⟩ := hd
 exact Opp.off ⟨[], rfl, trivial, rfl⟩ rfl rfl rfl rfl
 intro θ R hd
 obtain ⟨h14d, h17d, h19d, _⟩ := hd
 exact Opp.off ⟨[], rfl, trivial, rfl⟩ rfl rfl rfl rfl
 intro θ R hd
 obtain ⟨h14d, _⟩ := hd
 exact Opp.off ⟨[], rfl, trivial, rfl⟩ rfl rfl rfl rfl
 intro θ R hd
 obtain ⟨h14d, h21d, _⟩ := hd
 exact Opp.off ⟨[], rfl, trivial, rfl⟩ rfl rfl rfl rfl
 intro θ R hd
 obtain ⟨h14d, h20d, h22d, _⟩ := hd
 exact Opp.off ⟨[], rfl, trivial, rfl⟩ rfl rfl rfl rfl
 intro θ R hd
 obtain ⟨h14d, _⟩ := hd
 exact Opp.off ⟨[], rfl, trivial, rfl⟩ rfl rfl rfl rfl
 intro θ R hd
 obtain ⟨h14d, _⟩ := hd
 exact Opp.off ⟨[], rfl, trivial, rfl⟩ rfl rfl rfl rfl
 intro θ R hd
 obtain ⟨h14d, h25d, _⟩ := hd
 exact Opp.off ⟨[], rfl, trivial, rfl⟩ rfl rfl rfl rfl
 intro θ R hd
 obtain ⟨h14d, h24d, h26d, _⟩ := hd
 exact Opp.off ⟨[], rfl, trivial, rfl⟩ rfl rfl rfl rfl
 intro θ R hd
 obtain ⟨h14d, h23d, h27d, _⟩ := hd
 exact Opp.off ⟨[], rfl, trivial, rfl⟩ rfl rfl rfl rfl
 intro θ R hd
 obtain ⟨h14d, h16d, h28d, _⟩ := hd
 exact Opp.off ⟨[], rfl, trivial, rfl⟩ rfl rfl rfl rfl
 intro θ R hd
 obtain ⟨h14d, h29d, _⟩ := hd
 exact Opp.off ⟨[], rfl, trivial, rfl⟩ rfl rfl rfl rfl
 intro θ R hd
 obtain ⟨h14d, h30d, _⟩ := hd
 exact Opp.off ⟨[], rfl, trivial, rfl⟩ rfl rfl rfl rfl
 intro θ R hd
 obtain ⟨h7d, h14d, h31d, _⟩ := hd
 exact Opp.on (OG.imp (OD.pickF rfl rfl rfl) (by rintro _ _ ⟨rfl, rfl⟩; exact ⟨[], rfl, trivial, rfl⟩)) rfl rfl rfl
 intro θ R hd
 obtain ⟨h7d, h32d, _⟩ := hd
 exact Opp.plain (OG.imp (OD.pickF rfl rfl rfl) (by rintro _ _ ⟨rfl, rfl⟩; exact ⟨[], rfl, trivial, rfl⟩)) rfl
 intro θ hall
 obtain ⟨_, _, _, _, _, _, _, _, _, _, _, _, _, _, _, _, _, _, _, _, _, _, _, _, _, _, _, _, _, _, _, _, _, _, _⟩ := hall
 refine G.at [] 0 (env' := [(1, .pointer (some ⟨g1, 0, none⟩)), (4, .int .i64 ((i : Int))), (68, .bool false)]) ⟨rfl, rfl, rfl, trivial⟩ (own' := box g1 28 [.int .i64 (cr), vcd] :: own) rfl ?_
 show G _ _ _ [] _ _ _ _
 refine G.nil (GE.then_ (GC.condF rfl (GC.skip (GE.blockN (GE.then_ (GC.region ?_))))))
 refine G.stepD (OD.move rfl rfl) rfl rfl rfl ?_
 refine G.stepD (OD.addI rfl rfl rfl (by omega)) rfl rfl rfl ?_
 refine G.stepD (OD.assign rfl rfl) rfl rfl rfl ?_
 refine G.nil ?_
 exact GE.again (i + 1) (⟨by omega, any_succ hany (by simp only [badE, atI, hg2e, hg5, hg6, Bool.not_true, Bool.not_false, Bool.and_true, Bool.true_and, Bool.and_false, Bool.false_and, Bool.and_self, Bool.or_false, Bool.or_true, Bool.false_or, Bool.true_or])⟩) (by first | omega | (dsimp only; omega)) ⟨rfl, rfl, trivial⟩ [] 0 rfl
 replace hc4 := of_decide_eq_false hc4
 have hte := tyS_eq hok1 (by rw [show cd.length = i by omega]; exact hany)
 refine GC.exit (GE.pass (GE.pass (GE.hit (GE.then_ (GC.seq (GC.region ?_))))))
 refine G.step (OG.buildStrs (os := []) (xs := []) rfl et43 rfl rfl rfl rfl rfl) rfl rfl rfl ?_
 rintro v8 _ ⟨hs9, rfl⟩
 refine G.stepD (OD.assign rfl rfl) rfl rfl rfl ?_
 refine G.nil (GE.then_ (GC.seq (GC.region ?_)))
 refine G.step (OG.buildInts (xs := []) (is := []) rfl et22 rfl rfl rfl rfl rfl) rfl rfl rfl ?_
 rintro v10 _ ⟨hs11, rfl⟩
 refine G.stepD (OD.assign rfl rfl) rfl rfl rfl ?_
 refine G.nil (GE.then_ (GC.seq (GC.seq (GC.region ?_))))
 refine G.stepD (OD.assign rfl rfl) rfl rfl rfl ?_
 refine G.nil (GE.then_ (GC.block ?_))
 refine GC.loop (ι := Nat × List Nat × List Int × List ByteArray × Value × Value) (fun ⟨i, ks, dn, xs, v, u⟩ => [(1, .pointer (some ⟨g1, 0, none⟩)), (5, v), (6, u), (7, .int .i64 ((i : Int)))]) (fun ⟨i, ks, dn, xs, v, u⟩ => ints 3 u dn :: strs 9 v xs :: box g1 28 [.int .i64 (cr), vcd] :: own) (fun ⟨i, ks, dn, xs, v, u⟩ => ((i : Int) ≤ cr) ∧ (IsS v) ∧ (IsS u) ∧ (partsF cr cd i = some (ks, dn)) ∧ (xs = ks.map nameB) ∧ (∀ k ∈ ks, k < 12) ∧ (ks.length ≤ i) ∧ (dn.length ≤ 4 * i)) (fun ⟨i, ks, dn, xs, v, u⟩ => cr.toNat - i) (0, [], [], [], v8, v10) (⟨by omega, hs9, hs11, rfl, rfl, by simp, by simp, by simp⟩) ⟨rfl, rfl, rfl, rfl, trivial⟩ [] 0 rfl ?_
 rintro ⟨i, ks, dn, xs, v, u⟩ ⟨hi, hv, hu, hp, hxs, hk12, hkl, hdl⟩
 refine GC.seq (GC.seq (GC.region ?_))
 refine G.stepD (OD.move rfl rfl) rfl rfl rfl ?_
 refine G.stepD (OD.fieldAddr rfl rfl fa28_0) rfl rfl rfl ?_
 refine G.stepD (OD.load rfl ti3 rfl (i := 2) rfl rfl) rfl rfl rfl ?_
 refine G.stepD (OD.lss rfl rfl rfl) rfl rfl rfl ?_
 refine G.nil (GE.then_ ?_)
 refine GC.cond rfl (fun hc12 => ?_) (fun hc12 => ?_)
 replace hc12 := of_decide_eq_true hc12
 have hpl := partF_len (n := cr) (d := cd) (i := (i : Int)) ⟨by omega, by omega⟩
 have hpg := (partF_good (n := cr) (d := cd) (i := (i : Int)) ⟨by omega, by omega⟩).2
 refine GC.skip (GE.then_ (GC.seq (GC.block (GC.seq (GC.seq (GC.region ?_))))))
 refine G.stepD (OD.move rfl rfl) rfl rfl rfl ?_
 refine G.stepD (OD.move rfl rfl) rfl rfl rfl ?_
 refine G.step (OG.call [u, .int .i64 ((i : Int))] ent31 rfl rfl rfl rfl (by exact (l1Find_w hu (Ent.ints (i := 0) rfl) (by omega)))) rfl rfl rfl ?_
 rintro _ _ ⟨rfl, rfl⟩
 refine G.stepD (OD.eqv (OD.geq rfl rfl rfl) (congrArg (Value.bool) ((posI_ge _ _) : _ = (dn.contains (i : Int))))) rfl rfl rfl ?_
 refine G.nil (GE.then_ ?_)
 refine GC.cond rfl (fun hc13 => ?_) (fun hc13 => ?_)
 have hdc := hc13
 refine GC.exit (GE.pass (GE.hit (GE.then_ (GC.region ?_))))
 refine G.stepD (OD.move rfl rfl) rfl rfl rfl ?_
 refine G.stepD (OD.addI rfl rfl rfl (by omega)) rfl rfl rfl ?_
 refine G.stepD (OD.assign rfl rfl) rfl rfl rfl ?_
 refine G.nil ?_
 exact GE.again (i + 1, ks, dn, xs, v, u) (⟨by omega, hv, hu, partsF_skip hp hdc, hxs, hk12, by omega, by omega⟩) (by first | omega | (dsimp only; omega)) ⟨rfl, rfl, rfl, rfl, trivial⟩ [] 0 rfl
 have hdc := hc13
 refine GC.skip (GE.then_ (GC.seq (GC.region ?_)))
 refine G.stepD (OD.loadAgg rfl ti28 rfl (i := 2) rfl (us := [.int .i64 (cr), vcd]) rfl rfl) rfl rfl rfl ?_
 refine G.stepD (OD.move rfl rfl) rfl rfl rfl ?_
 refine G.step (OG.call [.agg #[.int .i64 (cr), vcd], .int .i64 ((i : Int))] ent32 rfl rfl rfl rfl (by exact (l5Part_w scd (Ent.drop 3 ecd) (hcr2) (by omega) (⟨by omega, by omega⟩)))) rfl rfl rfl ?_
 rintro v14 _ ⟨_, rfl, hs15, rfl⟩
 refine G.stepD (OD.assign rfl rfl) rfl rfl rfl ?_
 refine G.nil (GE.then_ (GC.seq (GC.region ?_)))
 refine G.stepD (OD.move rfl rfl) rfl rfl rfl ?_
 refine G.stepD (OD.move rfl rfl) rfl rfl rfl ?_
 refine G.step (OG.appendInts 1 rfl rfl et22 rfl rfl rfl (Ent.ints (i := 0) rfl) (by first | omega | (simp; omega))) rfl rfl rfl ?_
 rintro v16 _ ⟨hs17, rfl⟩
 refine G.stepD (OD.assign rfl rfl) rfl rfl rfl ?_
 refine G.nil (GE.then_ (GC.seq (GC.region ?_)))
 refine G.stepD (OD.assign rfl rfl) rfl rfl rfl ?_
 refine G.nil (GE.then_ (GC.seq (GC.region ?_)))
 refine G.step (OG.call [] ent33 rfl rfl rfl rfl (by exact l5Names_w)) rfl rfl rfl ?_
 rintro v18 _ ⟨_, rfl, hs19, rfl⟩
 refine G.stepD (OD.assign rfl rfl) rfl rfl rfl ?_
 refine G.nil (GE.then_ (GC.seq (GC.seq (GC.region ?_))))
 refine G.stepD (OD.assign rfl rfl) rfl rfl rfl ?_
 refine G.nil (GE.then_ (GC.block ?_))
 refine GC.loop (ι := Nat × Option Nat) (fun ⟨m, fo⟩ => [(1, .pointer (some ⟨g1, 0, none⟩)), (5, v), (7, .int .i64 ((i : Int))), (8, v14), (6, v16), (10, v18), (9, .string (nameO fo)), (11, .int .i64 ((m : Int)))]) (fun ⟨m, fo⟩ => strs 9 v18 nameL :: ints 3 v14 (partF cr cd (i : Int)) :: ints 3 v16 (dn ++ (partF cr cd (i : Int))) :: strs 9 v xs :: box g1 28 [.int .i64 (cr), vcd] :: own) (fun ⟨m, fo⟩ => (m ≤ 12) ∧ (fo = foundF cr cd (partF cr cd i) m)) (fun ⟨m, fo⟩ => 12 - m) (0, none) (⟨by omega, rfl⟩) ⟨rfl, rfl, rfl, rfl, rfl, rfl, rfl, rfl, trivial⟩ [] 0 rfl ?_
 rintro ⟨m, fo⟩ ⟨hm, hfo⟩
 refine GC.seq (GC.seq (GC.region ?_))
 refine G.stepD (OD.move rfl rfl) rfl rfl rfl ?_
 refine G.stepD (OD.move rfl rfl) rfl rfl rfl ?_
 refine G.stepD (OD.len rfl rfl et43 rfl (Ent.strs (i := 0) rfl)) rfl rfl rfl ?_
 refine G.stepD (OD.lss rfl rfl rfl) rfl rfl rfl ?_
 refine G.nil (GE.then_ ?_)
 refine GC.cond rfl (fun hc20 => ?_) (fun hc20 => ?_)
 replace hc20 := of_decide_eq_true hc20
 have hn1 := rk_bd m (by omega)
 have hol := oneD_len m (by omega)
 have hol2 : ((oneD m).length : Int) = (rk m : Int) * (rk m : Int) := by rw [hol]; exact Int.natCast_mul _ _
 have hsz2 : (nameL.getD m ⟨#[]⟩).size = 2 := nm_sz m (by omega)
 refine GC.skip (GE.then_ (GC.seq (GC.block (GC.seq ?_))))
 rcases Bool.eq_false_or_eq_true ((rk m : Int) == ((partF cr cd (i : Int)).length : Nat)) with hg21 | hg21
 have hg21p := hg21
 replace hg21p := eq_of_beq hg21p
 refine GC.at [] 0 (env' := [(1, .pointer (some ⟨g1, 0, none⟩)), (5, v), (7, .int .i64 ((i : Int))), (8, v14), (6, v16), (10, v18), (9, .string (nameO fo)), (11, .int .i64 ((m : Int)))]) ⟨rfl, rfl, rfl, rfl, rfl, rfl, rfl, rfl, trivial⟩ rfl ?_
 refine GC.par (its := [⟨94, [], [], [], [], fun _ => v18, fun _ => True, fun _ => []⟩,
     ⟨95, [], [], [], [], fun _ => .int .i64 ((m : Int)), fun _ => True, fun _ => []⟩,
     ⟨96, [(0, 94), (1, 95)], [], [], [], fun _ => elemPtr v18 1 (m), fun _ => True, fun _ => []⟩,
     ⟨97, [(2, 96)], [], [], [], fun _ => .string (nameL.getD (m) ⟨#[]⟩), fun _ => True, fun _ => []⟩,
     ⟨98, [(3, 97)], [], [], [], fun _ => .int .u8 (bAt (nameL.getD (m) ⟨#[]⟩) 1), fun _ => True, fun _ => []⟩,
     ⟨99, [(4, 98)], [], [], [], fun _ => .int .u8 ((rk m : Int)), fun _ => True, fun _ => []⟩,
     ⟨100, [(5, 99)], [], [], [], fun _ => .int .i64 ((rk m : Int)), fun _ => True, fun _ => []⟩,
     ⟨101, [], [], [], [], fun _ => v14, fun _ => True, fun _ => []⟩,
     ⟨102, [(7, 101)], [], [], [], fun _ => .int .i64 (((partF cr cd (i : Int)).length : Nat)), fun _ => True, fun _ => []⟩,
     ⟨103, [(6, 100), (8, 102)], [], [], [], fun _ => .bool true, fun _ => True, fun _ => []⟩,
     ⟨104, [(9, 103)], [], [], [], fun _ => .bool true, fun _ => True, fun _ => []⟩,
     ⟨105, [(10, 104)], [], [], [], fun _ => .agg #[.int .i64 (cr), vcd], fun _ => True, fun _ => []⟩,
     ⟨106, [(10, 104)], [], [], [], fun _ => v14, fun _ => True, fun _ => []⟩,
     ⟨107, [(10, 104)], [], [], [], fun _ => v18, fun _ => True, fun _ => []⟩,
     ⟨108, [(10, 104)], [], [], [], fun _ => .int .i64 ((m : Int)), fun _ => True, fun _ => []⟩,
     ⟨109, [(10, 104), (13, 107), (14, 108)], [], [], [], fun _ => elemPtr v18 1 (m), fun _ => True, fun _ => []⟩,
     ⟨110, [(10, 104), (15, 109)], [], [], [], fun _ => .string (nameL.getD (m) ⟨#[]⟩), fun _ => True, fun _ => []⟩,
     ⟨111, [(10, 104), (16, 110)], [], [], [17], fun ds => .agg #[.int .i64 ((rk m : Int)), ((ds.getD 0 []).getD 0 undef)], fun ds => IsS ((ds.getD 0 []).getD 0 undef), fun ds => [ints 3 ((ds.getD 0 []).getD 0 undef) (oneD m)]⟩,
     ⟨112, [(10, 104), (11, 105), (12, 106), (17, 111)], [17], [], [17], fun _ => .bool (fitsF cr cd (partF cr cd (i : Int)) (rk m : Int) (oneD m) 5 []), fun _ => True, fun _ => []⟩,
     ⟨113, [(10, 104), (18, 112)], [17], [], [17], fun _ => .bool (fitsF cr cd (partF cr cd (i : Int)) (rk m : Int) (oneD m) 5 []), fun _ => True, fun _ => []⟩]) (by kernel_rfl) (by kernel_rfl) (POps.cons ?_ (POps.cons ?_ (POps.cons ?_ (POps.cons ?_ (POps.cons ?_ (POps.cons ?_ (POps.cons ?_ (POps.cons ?_ (POps.cons ?_ (POps.cons ?_ (POps.cons ?_ (POps.cons ?_ (POps.cons ?_ (POps.cons ?_ (POps.cons ?_ (POps.cons ?_ (POps.cons ?_ (POps.cons ?_ (POps.cons ?_ (POps.cons ?_ POps.nil)))))))))))))))))))) ?_
 intro θ R hd
 exact Opp.plain (OG.imp (OD.move rfl rfl) (by rintro _ _ ⟨rfl, rfl⟩; exact ⟨[], rfl, trivial, rfl⟩)) rfl
 intro θ R hd
 exact Opp.plain (OG.imp (OD.move rfl rfl) (by rintro _ _ ⟨rfl, rfl⟩; exact ⟨[], rfl, trivial, rfl⟩)) rfl
 intro θ R hd
 obtain ⟨h0d, h1d, _⟩ := hd
 exact Opp.plain (OG.imp (OD.indexAddr rfl et43 rfl (Ent.strs (i := 0) rfl) rfl (by omega)) (by rintro _ _ ⟨rfl, rfl⟩; exact ⟨[], rfl, trivial, rfl⟩)) rfl
 intro θ R hd
 obtain ⟨h2d, _⟩ := hd
 exact Opp.plain (OG.imp (OD.loadStr rfl ti9 rfl (Ent.strs (i := 0) rfl) (by omega)) (by rintro _ _ ⟨rfl, rfl⟩; exact ⟨[], rfl, trivial, rfl⟩)) rfl
 intro θ R hd
 obtain ⟨h3d, _⟩ := hd
 exact Opp.plain (OG.imp (OD.indexStr rfl st9 rfl rfl (by omega)) (by rintro _ _ ⟨rfl, rfl⟩; exact ⟨[], rfl, trivial, rfl⟩)) rfl
 intro θ R hd
 obtain ⟨h4d, _⟩ := hd
 exact Opp.plain (OG.imp (OD.eqv (OD.sub rfl rfl rfl) (congrArg (Value.int .u8) ((nm_rk m (by omega)) : (IntKind.u8.wrap ((bAt (nameL.getD (m) ⟨#[]⟩) 1) - 48) : Int) = ((rk m : Int))))) (by rintro _ _ ⟨rfl, rfl⟩; exact ⟨[], rfl, trivial, rfl⟩)) rfl
 intro θ R hd
 obtain ⟨h5d, _⟩ := hd
 exact Opp.plain (OG.imp (OD.convI rfl cv5_3 rfl (by omega)) (by rintro _ _ ⟨rfl, rfl⟩; exact ⟨[], rfl, trivial, rfl⟩)) rfl
 intro θ R hd
 exact Opp.plain (OG.imp (OD.move rfl rfl) (by rintro _ _ ⟨rfl, rfl⟩; exact ⟨[], rfl, trivial, rfl⟩)) rfl
 intro θ R hd
 obtain ⟨h7d, _⟩ := hd
 exact Opp.plain (OG.imp (OD.len rfl rfl et22 rfl (Ent.ints (i := 1) rfl)) (by rintro _ _ ⟨rfl, rfl⟩; exact ⟨[], rfl, trivial, rfl⟩)) rfl
 intro θ R hd
 obtain ⟨h6d, h8d, _⟩ := hd
 exact Opp.plain (OG.imp (OD.eql rfl rfl rfl) (by rintro _ _ ⟨rfl, rfl⟩; exact ⟨[], congrArg Value.bool hg21, trivial, rfl⟩)) rfl
 intro θ R hd
 obtain ⟨h9d, _⟩ := hd
 exact Opp.plain (OG.imp (OD.move rfl rfl) (by rintro _ _ ⟨rfl, rfl⟩; exact ⟨[], rfl, trivial, rfl⟩)) rfl
 intro θ R hd
 obtain ⟨h10d, _⟩ := hd
 exact Opp.on (OG.imp (OD.loadAgg rfl ti28 rfl (i := 4) rfl (us := [.int .i64 (cr), vcd]) rfl rfl) (by rintro _ _ ⟨rfl, rfl⟩; exact ⟨[], rfl, trivial, rfl⟩)) rfl rfl rfl
 intro θ R hd
 obtain ⟨h10d, _⟩ := hd
 exact Opp.on (OG.imp (OD.move rfl rfl) (by rintro _ _ ⟨rfl, rfl⟩; exact ⟨[], rfl, trivial, rfl⟩)) rfl rfl rfl
 intro θ R hd
 obtain ⟨h10d, _⟩ := hd
 exact Opp.on (OG.imp (OD.move rfl rfl) (by rintro _ _ ⟨rfl, rfl⟩; exact ⟨[], rfl, trivial, rfl⟩)) rfl rfl rfl
 intro θ R hd
 obtain ⟨h10d, _⟩ := hd
 exact Opp.on (OG.imp (OD.move rfl rfl) (by rintro _ _ ⟨rfl, rfl⟩; exact ⟨[], rfl, trivial, rfl⟩)) rfl rfl rfl
 intro θ R hd
 obtain ⟨h10d, h13d, h14d, _⟩ := hd
 exact Opp.on (OG.imp (OD.indexAddr rfl et43 rfl (Ent.strs (i := 0) rfl) rfl (by omega)) (by rintro _ _ ⟨rfl, rfl⟩; exact ⟨[], rfl, trivial, rfl⟩)) rfl rfl rfl
 intro θ R hd
 obtain ⟨h10d, h15d, _⟩ := hd
 exact Opp.on (OG.imp (OD.loadStr rfl ti9 rfl (Ent.strs (i := 0) rfl) (by omega)) (by rintro _ _ ⟨rfl, rfl⟩; exact ⟨[], rfl, trivial, rfl⟩)) rfl rfl rfl
 intro θ R hd
 obtain ⟨h10d, h16d, _⟩ := hd
 exact Opp.on (OG.imp (OG.call [.string (nameL.getD (m) ⟨#[]⟩)] ent35 rfl rfl rfl rfl (by exact (l5One_w (k := m) (by omega) (rfl)))) (by rintro _ _ ⟨v22, rfl, hs23, rfl⟩; exact ⟨[v22], rfl, hs23, rfl⟩)) rfl rfl rfl
 intro θ R hd
 obtain ⟨h10d, h11d, h12d, h17d, _⟩ := hd
 exact Opp.on (OG.imp (OG.call [.agg #[.int .i64 (cr), vcd], v14, .slice none 0 0, .agg #[.int .i64 ((rk m : Int)), ((θ 17).getD 0 undef)]] ent34 rfl rfl rfl rfl (by exact (l5Fits_w 5 scd (Ent.drop 6 ecd.app) hs15 (Ent.ints (i := 2) rfl) IsS.nil Ent.nilInts h17d (Ent.ints (i := 0) rfl) (hcr2) (by omega) (hpg) (by simp) (int_of_beq (by assumption)) (hol2) (by omega) (by simp) (by simp; omega)))) (by rintro _ _ ⟨rfl, rfl⟩; exact ⟨[], rfl, trivial, rfl⟩)) rfl rfl rfl
 intro θ R hd
 obtain ⟨h10d, h18d, _⟩ := hd
 exact Opp.plain (OG.imp (OD.pickT rfl rfl rfl) (by rintro _ _ ⟨rfl, rfl⟩; exact ⟨[], rfl, trivial, rfl⟩)) rfl
 intro θ hall
 obtain ⟨_, _, _, _, _, _, _, _, _, _, _, _, _, _, _, _, _, h17a, _, _, _⟩ := hall
 refine G.at [] 0 (env' := [(1, .pointer (some ⟨g1, 0, none⟩)), (5, v), (7, .int .i64 ((i : Int))), (8, v14), (6, v16), (10, v18), (9, .string (nameO fo)), (11, .int .i64 ((m : Int))), (113, .bool (fitsF cr cd (partF cr cd (i : Int)) (rk m : Int) (oneD m) 5 []))]) ⟨rfl, rfl, rfl, rfl, rfl, rfl, rfl, rfl, rfl, trivial⟩ (own' := ints 3 ((θ 17).getD 0 undef) (oneD m) :: strs 9 v18 nameL :: ints 3 v14 (partF cr cd (i : Int)) :: ints 3 v16 (dn ++ (partF cr cd (i : Int))) :: strs 9 v xs :: box g1 28 [.int .i64 (cr), vcd] :: own) rfl ?_
 have hs24 : IsS ((θ 17).getD 0 undef) := h17a
 clear h17a
 generalize ((θ 17).getD 0 undef) = v25 at *
 show G _ _ _ [] _ _ _ _
 refine G.nil (GE.then_ ?_)
 refine GC.cond rfl (fun hc26 => ?_) (fun hc26 => ?_)
 refine GC.region ?_
 refine G.stepD (OD.move rfl rfl) rfl rfl rfl ?_
 refine G.stepD (OD.move rfl rfl) rfl rfl rfl ?_
 refine G.stepD (OD.indexAddr rfl et43 rfl (Ent.strs (i := 1) rfl) rfl (by omega)) rfl rfl rfl ?_
 refine G.stepD (OD.loadStr rfl ti9 rfl (Ent.strs (i := 1) rfl) (by omega)) rfl rfl rfl ?_
 refine G.stepD (OD.assign rfl rfl) rfl rfl rfl ?_
 refine G.nil (GE.blockN (GE.then_ (GC.region ?_)))
 refine G.stepD (OD.move rfl rfl) rfl rfl rfl ?_
 refine G.stepD (OD.addI rfl rfl rfl (by omega)) rfl rfl rfl ?_
 refine G.stepD (OD.assign rfl rfl) rfl rfl rfl ?_
 refine G.nil ?_
 exact GE.again (m + 1, some m) (⟨by omega, by rw [foundF_succ, if_pos (by rw [show (rk m == (partF cr cd i).length) = true from beq_iff_eq.2 (by omega), hc26]; simp)]⟩) (by first | omega | (dsimp only; omega)) ⟨rfl, rfl, rfl, rfl, rfl, rfl, rfl, rfl, trivial⟩ [1, 1, 1, 1, 1] 1 rfl
 refine GC.skip (GE.blockN (GE.then_ (GC.region ?_)))
 refine G.stepD (OD.move rfl rfl) rfl rfl rfl ?_
 refine G.stepD (OD.addI rfl rfl rfl (by omega)) rfl rfl rfl ?_
 refine G.stepD (OD.assign rfl rfl) rfl rfl rfl ?_
 refine G.nil ?_
 exact GE.again (m + 1, fo) (⟨by omega, by rw [foundF_succ, if_neg (by rw [show (rk m == (partF cr cd i).length) = true from beq_iff_eq.2 (by omega), hc26]; simp)]; exact hfo⟩) (by first | omega | (dsimp only; omega)) ⟨rfl, rfl, rfl, rfl, rfl, rfl, rfl, rfl, trivial⟩ [1, 1, 1, 1, 1] 1 rfl
 have hg21p := hg21
 replace hg21p := ne_of_beq_false hg21p
 refine GC.at [] 0 (env' := [(1, .pointer (some ⟨g1, 0, none⟩)), (5, v), (7, .int .i64 ((i : Int))), (8, v14), (6, v16), (10, v18), (9, .string (nameO fo)), (11, .int .i64 ((m : Int)))]) ⟨rfl, rfl, rfl, rfl, rfl, rfl, rfl, rfl, trivial⟩ rfl ?_
 refine GC.par (its := [⟨94, [], [], [], [], fun _ => v18, fun _ => True, fun _ => []⟩,
     ⟨95, [], [], [], [], fun _ => .int .i64 ((m : Int)), fun _ => True, fun _ => []⟩,
     ⟨96, [(0, 94), (1, 95)], [], [], [], fun _ => elemPtr v18 1 (m), fun _ => True, fun _ => []⟩,
     ⟨97, [(2, 96)], [], [], [], fun _ => .string (nameL.getD (m) ⟨#[]⟩), fun _ => True, fun _ => []⟩,
     ⟨98, [(3, 97)], [], [], [], fun _ => .int .u8 (bAt (nameL.getD (m) ⟨#[]⟩) 1), fun _ => True, fun _ => []⟩,
     ⟨99, [(4, 98)], [], [], [], fun _ => .int .u8 ((rk m : Int)), fun _ => True, fun _ => []⟩,
     ⟨100, [(5, 99)], [], [], [], fun _ => .int .i64 ((rk m : Int)), fun _ => True, fun _ => []⟩,
     ⟨101, [], [], [], [], fun _ => v14, fun _ => True, fun _ => []⟩,
     ⟨102, [(7, 101)], [], [], [], fun _ => .int .i64 (((partF cr cd (i : Int)).length : Nat)), fun _ => True, fun _ => []⟩,
     ⟨103, [(6, 100), (8, 102)], [], [], [], fun _ => .bool false, fun _ => True, fun _ => []⟩,
     ⟨104, [(9, 103)], [], [], [], fun _ => .bool false, fun _ => True, fun _ => []⟩,
     ⟨105, [(10, 104)], [], [], [], fun _ => undef, fun _ => True, fun _ => []⟩,
     ⟨106, [(10, 104)], [], [], [], fun _ => undef, fun _ => True, fun _ => []⟩,
     ⟨107, [(10, 104)], [], [], [], fun _ => undef, fun _ => True, fun _ => []⟩,
     ⟨108, [(10, 104)], [], [], [], fun _ => undef, fun _ => True, fun _ => []⟩,
     ⟨109, [(10, 104), (13, 107), (14, 108)], [], [], [], fun _ => undef, fun _ => True, fun _ => []⟩,
     ⟨110, [(10, 104), (15, 109)], [], [], [], fun _ => undef, fun _ => True, fun _ => []⟩,
     ⟨111, [(10, 104), (16, 110)], [], [], [], fun _ => undef, fun _ => True, fun _ => []⟩,
     ⟨112, [(10, 104), (11, 105), (12, 106), (17, 111)], [], [], [], fun _ => undef, fun _ => True, fun _ => []⟩,
     ⟨113, [(10, 104), (18, 112)], [], [], [], fun _ => .bool false, fun _ => True, fun _ => []⟩]) (by kernel_rfl) (by kernel_rfl) (POps.cons ?_ (POps.cons ?_ (POps.cons ?_ (POps.cons ?_ (POps.cons ?_ (POps.cons ?_ (POps.cons ?_ (POps.cons ?_ (POps.cons ?_ (POps.cons ?_ (POps.cons ?_ (POps.cons ?_ (POps.cons ?_ (POps.cons ?_ (POps.cons ?_ (POps.cons ?_ (POps.cons ?_ (POps.cons ?_ (POps.cons ?_ (POps.cons ?_ POps.nil)))))))))))))))))))) ?_
 intro θ R hd
 exact Opp.plain (OG.imp (OD.move rfl rfl) (by rintro _ _ ⟨rfl, rfl⟩; exact ⟨[], rfl, trivial, rfl⟩)) rfl
 intro θ R hd
 exact Opp.plain (OG.imp (OD.move rfl rfl) (by rintro _ _ ⟨rfl, rfl⟩; exact ⟨[], rfl, trivial, rfl⟩)) rfl
 intro θ R hd
 obtain ⟨h0d, h1d, _⟩ := hd
 exact Opp.plain (OG.imp (OD.indexAddr rfl et43 rfl (Ent.strs (i := 0) rfl) rfl (by omega)) (by rintro _ _ ⟨rfl, rfl⟩; exact ⟨[], rfl, trivial, rfl⟩)) rfl
 intro θ R hd
 obtain ⟨h2d, _⟩ := hd
 exact Opp.plain (OG.imp (OD.loadStr rfl ti9 rfl (Ent.strs (i := 0) rfl) (by omega)) (by rintro _ _ ⟨rfl, rfl⟩; exact ⟨[], rfl, trivial, rfl⟩)) rfl
 intro θ R hd
 obtain ⟨h3d, _⟩ := hd
 exact Opp.plain (OG.imp (OD.indexStr rfl st9 rfl rfl (by omega)) (by rintro _ _ ⟨rfl, rfl⟩; exact ⟨[], rfl, trivial, rfl⟩)) rfl
 intro θ R hd
 obtain ⟨h4d, _⟩ := hd
 exact Opp.plain (OG.imp (OD.eqv (OD.sub rfl rfl rfl) (congrArg (Value.int .u8) ((nm_rk m (by omega)) : (IntKind.u8.wrap ((bAt (nameL.getD (m) ⟨#[]⟩) 1) - 48) : Int) = ((rk m : Int))))) (by rintro _ _ ⟨rfl, rfl⟩; exact ⟨[], rfl, trivial, rfl⟩)) rfl
 intro θ R hd
 obtain ⟨h5d, _⟩ := hd
 exact Opp.plain (OG.imp (OD.convI rfl cv5_3 rfl (by omega)) (by rintro _ _ ⟨rfl, rfl⟩; exact ⟨[], rfl, trivial, rfl⟩)) rfl
 intro θ R hd
 exact Opp.plain (OG.imp (OD.move rfl rfl) (by rintro _ _ ⟨rfl, rfl⟩; exact ⟨[], rfl, trivial, rfl⟩)) rfl
 intro θ R hd
 obtain ⟨h7d, _⟩ := hd
 exact Opp.plain (OG.imp (OD.len rfl rfl et22 rfl (Ent.ints (i := 1) rfl)) (by rintro _ _ ⟨rfl, rfl⟩; exact ⟨[], rfl, trivial, rfl⟩)) rfl
 intro θ R hd
 obtain ⟨h6d, h8d, _⟩ := hd
 exact Opp.plain (OG.imp (OD.eql rfl rfl rfl) (by rintro _ _ ⟨rfl, rfl⟩; exact ⟨[], congrArg Value.bool hg21, trivial, rfl⟩)) rfl
 intro θ R hd
 obtain ⟨h9d, _⟩ := hd
 exact Opp.plain (OG.imp (OD.move rfl rfl) (by rintro _ _ ⟨rfl, rfl⟩; exact ⟨[], rfl, trivial, rfl⟩)) rfl
 intro θ R hd
 obtain ⟨h10d, _⟩ := hd
 exact Opp.off ⟨[], rfl, trivial, rfl⟩ rfl rfl rfl rfl
 intro θ R hd
 obtain ⟨h10d, _⟩ := hd
 exact Opp.off ⟨[], rfl, trivial, rfl⟩ rfl rfl rfl rfl
 intro θ R hd
 obtain ⟨h10d, _⟩ := hd
 exact Opp.off ⟨[], rfl, trivial, rfl⟩ rfl rfl rfl rfl
 intro θ R hd
 obtain ⟨h10d, _⟩ := hd
 exact Opp.off ⟨[], rfl, trivial, rfl⟩ rfl rfl rfl rfl
 intro θ R hd
 obtain ⟨h10d, h13d, h14d, _⟩ := hd
 exact Opp.off ⟨[], rfl, trivial, rfl⟩ rfl rfl rfl rfl
 intro θ R hd
 obtain ⟨h10d, h15d, _⟩ := hd
 exact Opp.off ⟨[], rfl, trivial, rfl⟩ rfl rfl rfl rfl
 intro θ R hd
 obtain ⟨h10d, h16d, _⟩ := hd
 exact Opp.off ⟨[], rfl, trivial, rfl⟩ rfl rfl rfl rfl
 intro θ R hd
 obtain ⟨h10d, h11d, h12d, h17d, _⟩ := hd
 exact Opp.off ⟨[], rfl, trivial, rfl⟩ rfl rfl rfl rfl
 intro θ R hd
 obtain ⟨h10d, h18d, _⟩ := hd
 exact Opp.plain (OG.imp (OD.pickF rfl rfl rfl) (by rintro _ _ ⟨rfl, rfl⟩; exact ⟨[], rfl, trivial, rfl⟩)) rfl
 intro θ hall
 obtain ⟨_, _, _, _, _, _, _, _, _, _, _, _, _, _, _, _, _, _, _, _, _⟩ := hall
 refine G.at [] 0 (env' := [(1, .pointer (some ⟨g1, 0, none⟩)), (5, v), (7, .int .i64 ((i : Int))), (8, v14), (6, v16), (10, v18), (9, .string (nameO fo)), (11, .int .i64 ((m : Int))), (113, .bool false)]) ⟨rfl, rfl, rfl, rfl, rfl, rfl, rfl, rfl, rfl, trivial⟩ (own' := strs 9 v18 nameL :: ints 3 v14 (partF cr cd (i : Int)) :: ints 3 v16 (dn ++ (partF cr cd (i : Int))) :: strs 9 v xs :: box g1 28 [.int .i64 (cr), vcd] :: own) rfl ?_
 show G _ _ _ [] _ _ _ _
 refine G.nil (GE.then_ (GC.condF rfl (GC.skip (GE.blockN (GE.then_ (GC.region ?_))))))
 refine G.stepD (OD.move rfl rfl) rfl rfl rfl ?_
 refine G.stepD (OD.addI rfl rfl rfl (by omega)) rfl rfl rfl ?_
 refine G.stepD (OD.assign rfl rfl) rfl rfl rfl ?_
 refine G.nil ?_
 exact GE.again (m + 1, fo) (⟨by omega, by rw [foundF_succ, if_neg (by rw [show (rk m == (partF cr cd i).length) = false from beq_eq_false_iff_ne.2 (by have hh := ne_of_beq_false hg21; omega)]; simp)]; exact hfo⟩) (by first | omega | (dsimp only; omega)) ⟨rfl, rfl, rfl, rfl, rfl, rfl, rfl, rfl, trivial⟩ [] 0 rfl
 replace hc20 := of_decide_eq_false hc20
 have hf12 : fo = foundF cr cd (partF cr cd i) 12 := by rw [hfo, show m = 12 by omega]
 refine GC.exit (GE.pass (GE.pass (GE.hit (GE.then_ (GC.seq (GC.seq (GC.region ?_)))))))
 refine G.stepD (OD.move rfl rfl) rfl rfl rfl ?_
 refine G.stepD (OD.eqv (OD.strEql rfl rfl rfl) (congrArg (Value.bool) ((nameO_empty fun k hk => foundF_lt (hf12.symm.trans hk)) : _ = (fo.isNone)))) rfl rfl rfl ?_
 refine G.nil (GE.then_ ?_)
 refine GC.cond rfl (fun hc27 => ?_) (fun hc27 => ?_)
 have hnn := partsF_none (partsF_bad hp hdc (hf12.symm.trans (by simpa using hc27)))
 obtain ⟨hq1, hq2⟩ := psN_none (hte.trans (by have := hnn (cr.toNat - (i + 1)); rw [show i + 1 + (cr.toNat - (i + 1)) = cr.toNat by omega] at this; rw [this]; rfl))
 refine GC.seq (GC.region ?_)
 refine G.stepD (OD.assign rfl rfl) rfl rfl rfl ?_
 refine G.stepD (OD.assign rfl rfl) rfl rfl rfl ?_
 refine G.nil (GE.then_ (GC.ret (GE.passR (GE.blockR (GE.passR (GE.passR (GE.blockR (GE.passR ?_))))))))
 refine GE.nilStrs 9 ?_
 exact GE.body [0] 5 (res2 rfl rfl rfl) rfl (⟨(.slice none 0 0), congrArg (fun (a1 : Bool) => (.tuple #[(.slice none 0 0), .bool (a1)] : Value)) ((hq2.symm : (false : Bool) = (tyS cr cd).isSome)), IsS.nil, congrArg (fun (l0 : List ByteArray) => strs 9 (.slice none 0 0) l0 :: own) ((hq1.symm : [] = psN (tyS cr cd)))⟩)
 obtain ⟨k, hok⟩ := isNone_not hc27
 have hfk := hf12.symm.trans hok
 have hkl12 := foundF_lt hfk
 have hxl : xs.length = ks.length := by rw [hxs, List.length_map]
 refine GC.skip (GE.then_ (GC.seq (GC.region ?_)))
 refine G.stepD (OD.move rfl rfl) rfl rfl rfl ?_
 refine G.stepD (OD.len rfl rfl et43 rfl (Ent.strs (i := 3) rfl)) rfl rfl rfl ?_
 refine G.stepD (OD.assign rfl rfl) rfl rfl rfl ?_
 refine G.nil (GE.then_ (GC.seq (GC.block ?_)))
 refine GC.loop (ι := Nat) (fun a => [(1, .pointer (some ⟨g1, 0, none⟩)), (5, v), (7, .int .i64 ((i : Int))), (6, v16), (9, .string (nameO fo)), (12, .int .i64 ((a : Int)))]) (fun a => strs 9 v18 nameL :: ints 3 v14 (partF cr cd (i : Int)) :: ints 3 v16 (dn ++ (partF cr cd (i : Int))) :: strs 9 v xs :: box g1 28 [.int .i64 (cr), vcd] :: own) (fun a => (a ≤ ks.length) ∧ (insAt ks k a = insAt ks k ks.length)) (fun a => a) ks.length (⟨Nat.le_refl _, rfl⟩) ⟨rfl, rfl, rfl, rfl, rfl, int_eq (by rw [hxs]; simp), trivial⟩ [] 0 rfl ?_
 rintro a ⟨ha, hins⟩
 refine GC.seq (GC.seq (GC.region ?_))
 refine G.stepD (OD.move rfl rfl) rfl rfl rfl ?_
 refine G.stepD (OD.gtr rfl rfl rfl) rfl rfl rfl ?_
 refine G.stepD (OD.move rfl rfl) rfl rfl rfl ?_
 rcases Bool.eq_false_or_eq_true (decide (0 < (a : Int))) with hg28 | hg28
 have hg28e := hg28
 refine G.at [] 0 (env' := [(1, .pointer (some ⟨g1, 0, none⟩)), (5, v), (7, .int .i64 ((i : Int))), (6, v16), (9, .string (nameO fo)), (12, .int .i64 ((a : Int))), (122, .int .i64 ((a : Int))), (123, .bool true), (124, .bool true)]) (⟨rfl, rfl, rfl, rfl, rfl, rfl, rfl, (congrArg (fun b => some (Value.bool b)) hg28e), (congrArg (fun b => some (Value.bool b)) hg28e), trivial⟩) rfl ?_
 replace hg28 := of_decide_eq_true hg28
 refine G.stepGD (OD.move rfl rfl) rfl rfl rfl rfl rfl ?_
 refine G.stepGD (OD.move rfl rfl) rfl rfl rfl rfl rfl ?_
 refine G.stepGD (OD.subI rfl rfl rfl (by omega)) rfl rfl rfl rfl rfl ?_
 refine G.stepGD (OD.indexAddr rfl et43 rfl (Ent.strs (i := 3) rfl) rfl (by omega)) rfl rfl rfl rfl rfl ?_
 refine G.stepGD (OD.loadStr rfl ti9 rfl (Ent.strs (i := 3) rfl) (by omega)) rfl rfl rfl rfl rfl ?_
 refine G.stepGD (OD.move rfl rfl) rfl rfl rfl rfl rfl ?_
 refine G.stepGD (OD.eqv (OD.strGtr rfl rfl rfl) (congrArg (Value.bool) ((by rw [hxs, getD_mapB (by omega), hok]; exact nm_gt _ (getD_lt hk12 _) _ hkl12) : _ = (decide (k < ks.getD ((a : Int) - 1 : Int).toNat 0))))) rfl rfl rfl rfl rfl ?_
 refine G.stepD (OD.pickT rfl rfl rfl) rfl rfl rfl ?_
 refine G.nil (GE.then_ ?_)
 refine GC.cond rfl (fun hc29 => ?_) (fun hc29 => ?_)
 replace hc29 := of_decide_eq_true hc29
 have haa : a = (a - 1) + 1 := by omega
 have hlt : k < ks.getD (a - 1) 0 := by have e : ((a : Int) - 1).toNat = a - 1 := (by omega); rw [e] at hc29; exact hc29
 refine GC.skip (GE.then_ (GC.block (GC.region ?_)))
 refine G.stepD (OD.move rfl rfl) rfl rfl rfl ?_
 refine G.stepD (OD.subI rfl rfl rfl (by omega)) rfl rfl rfl ?_
 refine G.stepD (OD.assign rfl rfl) rfl rfl rfl ?_
 refine G.nil (GE.blockN ?_)
 exact GE.again (a - 1) (⟨by omega, by rw [← hins, haa, insAt, if_pos hlt]; rfl⟩) (by first | omega | (dsimp only; omega)) ⟨rfl, rfl, rfl, rfl, rfl, int_eq (by omega), trivial⟩ [] 0 rfl
 replace hc29 := of_decide_eq_false hc29
 have hend : insAt ks k a = a := by have e : ((a : Int) - 1).toNat = a - 1 := (by omega); rw [e] at hc29; rw [show a = (a - 1) + 1 by omega, insAt, if_neg hc29]
 refine GC.exit (GE.pass (GE.pass (GE.hit (GE.then_ ?_))))
 refine GC.at [] 0 (env' := [(1, .pointer (some ⟨g1, 0, none⟩)), (5, v), (7, .int .i64 ((i : Int))), (6, v16), (9, .string (nameO fo)), (12, .int .i64 ((a : Int)))]) ⟨rfl, rfl, rfl, rfl, rfl, rfl, trivial⟩ rfl ?_
 refine GC.par (its := [⟨135, [], [], [], [0], fun ds => ((ds.getD 0 []).getD 0 undef), fun ds => IsS ((ds.getD 0 []).getD 0 undef), fun ds => [strs 9 ((ds.getD 0 []).getD 0 undef) []]⟩,
     ⟨136, [], [], [], [], fun _ => v, fun _ => True, fun _ => []⟩,
     ⟨137, [], [], [], [], fun _ => .int .i64 ((a : Int)), fun _ => True, fun _ => []⟩,
     ⟨138, [(1, 136), (2, 137)], [], [], [], fun _ => (subV 1 v 0 a), fun _ => True, fun _ => []⟩,
     ⟨139, [(0, 135), (3, 138)], [0], [0], [0, 4], fun ds => ((ds.getD 1 []).getD 0 undef), fun ds => IsS ((ds.getD 1 []).getD 0 undef), fun ds => [strs 9 ((ds.getD 1 []).getD 0 undef) ([] ++ ((xs.drop (0)).take (a - 0)))]⟩,
     ⟨140, [], [], [], [], fun _ => .string (nameO fo), fun _ => True, fun _ => []⟩,
     ⟨141, [(5, 140)], [], [], [6], fun ds => ((ds.getD 0 []).getD 0 undef), fun ds => IsS ((ds.getD 0 []).getD 0 undef), fun ds => [strs 9 ((ds.getD 0 []).getD 0 undef) [nameO fo]]⟩,
     ⟨142, [(4, 139), (6, 141)], [4, 6], [4], [0, 4, 6, 7], fun ds => ((ds.getD 3 []).getD 0 undef), fun ds => IsS ((ds.getD 3 []).getD 0 undef), fun ds => [strs 9 ((ds.getD 3 []).getD 0 undef) (([] ++ ((xs.drop (0)).take (a - 0))) ++ [nameO fo])]⟩,
     ⟨143, [], [], [], [], fun _ => v, fun _ => True, fun _ => []⟩,
     ⟨144, [], [], [], [], fun _ => .int .i64 ((a : Int)), fun _ => True, fun _ => []⟩,
     ⟨145, [(8, 143), (9, 144)], [], [], [], fun _ => (subV 1 v a xs.length), fun _ => True, fun _ => []⟩,
     ⟨146, [(7, 142), (10, 145)], [7, 6], [7], [0, 4, 6, 7, 11], fun ds => ((ds.getD 4 []).getD 0 undef), fun ds => IsS ((ds.getD 4 []).getD 0 undef), fun ds => [strs 9 ((ds.getD 4 []).getD 0 undef) ((([] ++ ((xs.drop (0)).take (a - 0))) ++ [nameO fo]) ++ ((xs.drop (a)).take (xs.length - a)))]⟩]) (by kernel_rfl) (by kernel_rfl) (POps.cons ?_ (POps.cons ?_ (POps.cons ?_ (POps.cons ?_ (POps.cons ?_ (POps.cons ?_ (POps.cons ?_ (POps.cons ?_ (POps.cons ?_ (POps.cons ?_ (POps.cons ?_ (POps.cons ?_ POps.nil)))))))))))) ?_
 intro θ R hd
 exact Opp.plain (OG.imp (OG.buildStrs (os := []) (xs := []) rfl et43 rfl rfl rfl rfl rfl) (by rintro v30 _ ⟨hs31, rfl⟩; exact ⟨[v30], rfl, hs31, rfl⟩)) rfl
 intro θ R hd
 exact Opp.plain (OG.imp (OD.move rfl rfl) (by rintro _ _ ⟨rfl, rfl⟩; exact ⟨[], rfl, trivial, rfl⟩)) rfl
 intro θ R hd
 exact Opp.plain (OG.imp (OD.move rfl rfl) (by rintro _ _ ⟨rfl, rfl⟩; exact ⟨[], rfl, trivial, rfl⟩)) rfl
 intro θ R hd
 obtain ⟨h1d, h2d, _⟩ := hd
 exact Opp.plain (OG.imp (OD.sliceTo rfl et43 rfl rfl (Ent.strs (i := 3) rfl) (by omega)) (by rintro _ _ ⟨rfl, rfl⟩; exact ⟨[], rfl, trivial, rfl⟩)) rfl
 intro θ R hd
 obtain ⟨h0d, h3d, _⟩ := hd
 exact Opp.plain (OG.imp (OG.appendStrs 0 rfl rfl et43 rfl rfl rfl (Ent.subStrs (Ent.strs (i := 4) rfl) (by simp; omega)) (by simp [maxLen] <;> omega)) (by rintro v32 _ ⟨hs33, rfl⟩; exact ⟨[v32], rfl, hs33, rfl⟩)) rfl
 intro θ R hd
 exact Opp.plain (OG.imp (OD.move rfl rfl) (by rintro _ _ ⟨rfl, rfl⟩; exact ⟨[], rfl, trivial, rfl⟩)) rfl
 intro θ R hd
 obtain ⟨h5d, _⟩ := hd
 exact Opp.plain (OG.imp (OG.buildStrs (os := [.tmp 140]) (xs := [nameO fo]) rfl et43 rfl rfl rfl rfl rfl) (by rintro v34 _ ⟨hs35, rfl⟩; exact ⟨[v34], rfl, hs35, rfl⟩)) rfl
 intro θ R hd
 obtain ⟨h4d, h6d, _⟩ := hd
 exact Opp.plain (OG.imp (OG.appendStrs 0 rfl rfl et43 rfl rfl rfl (Ent.strs (i := 1) rfl) (by simp [maxLen] <;> omega)) (by rintro v36 _ ⟨hs37, rfl⟩; exact ⟨[v36], rfl, hs37, rfl⟩)) rfl
 intro θ R hd
 exact Opp.plain (OG.imp (OD.move rfl rfl) (by rintro _ _ ⟨rfl, rfl⟩; exact ⟨[], rfl, trivial, rfl⟩)) rfl
 intro θ R hd
 exact Opp.plain (OG.imp (OD.move rfl rfl) (by rintro _ _ ⟨rfl, rfl⟩; exact ⟨[], rfl, trivial, rfl⟩)) rfl
 intro θ R hd
 obtain ⟨h8d, h9d, _⟩ := hd
 exact Opp.plain (OG.imp (OD.sliceFrom rfl et43 rfl rfl (Ent.strs (i := 3) rfl) (by omega)) (by rintro _ _ ⟨rfl, rfl⟩; exact ⟨[], rfl, trivial, rfl⟩)) rfl
 intro θ R hd
 obtain ⟨h7d, h10d, _⟩ := hd
 exact Opp.plain (OG.imp (OG.appendStrs 0 rfl rfl et43 rfl rfl rfl (Ent.subStrs (Ent.strs (i := 5) rfl) (by simp; omega)) (by simp [maxLen] <;> omega)) (by rintro v38 _ ⟨hs39, rfl⟩; exact ⟨[v38], rfl, hs39, rfl⟩)) rfl
 intro θ hall
 obtain ⟨h0a, _, _, _, h4a, _, h6a, h7a, _, _, _, h11a, _⟩ := hall
 refine G.at [] 0 (env' := [(1, .pointer (some ⟨g1, 0, none⟩)), (5, v), (7, .int .i64 ((i : Int))), (6, v16), (146, ((θ 11).getD 0 undef))]) ⟨rfl, rfl, rfl, rfl, rfl, trivial⟩ (own' := strs 9 ((θ 6).getD 0 undef) [nameO fo] :: strs 9 ((θ 11).getD 0 undef) ((([] ++ ((xs.drop (0)).take (a - 0))) ++ [nameO fo]) ++ ((xs.drop (a)).take (xs.length - a))) :: strs 9 v18 nameL :: ints 3 v14 (partF cr cd (i : Int)) :: ints 3 v16 (dn ++ (partF cr cd (i : Int))) :: strs 9 v xs :: box g1 28 [.int .i64 (cr), vcd] :: own) rfl ?_
 have hs40 : IsS ((θ 0).getD 0 undef) := h0a
 clear h0a
 generalize ((θ 0).getD 0 undef) = v41 at *
 have hs42 : IsS ((θ 4).getD 0 undef) := h4a
 clear h4a
 generalize ((θ 4).getD 0 undef) = v43 at *
 have hs44 : IsS ((θ 6).getD 0 undef) := h6a
 clear h6a
 generalize ((θ 6).getD 0 undef) = v45 at *
 have hs46 : IsS ((θ 7).getD 0 undef) := h7a
 clear h7a
 generalize ((θ 7).getD 0 undef) = v47 at *
 have hs48 : IsS ((θ 11).getD 0 undef) := h11a
 clear h11a
 generalize ((θ 11).getD 0 undef) = v49 at *
 show G _ _ _ [_] _ _ _ _
 refine G.stepD (OD.assign rfl rfl) rfl rfl rfl ?_
 refine G.nil (GE.blockN (GE.then_ (GC.region ?_)))
 refine G.stepD (OD.move rfl rfl) rfl rfl rfl ?_
 refine G.stepD (OD.addI rfl rfl rfl (by omega)) rfl rfl rfl ?_
 refine G.stepD (OD.assign rfl rfl) rfl rfl rfl ?_
 refine G.nil ?_
 exact GE.again (i + 1, insF ks k, dn ++ (partF cr cd (i : Int)), (([] ++ ((xs.drop (0)).take (a - 0))) ++ [nameO fo]) ++ ((xs.drop (a)).take (xs.length - a)), v49, v16) (⟨by omega, hs48, hs17, partsF_add hp hdc hfk, by rw [hxs]; exact ins_eq hok (by rw [← hins]; exact hend), insF_lt hk12 hkl12, by rw [insF_len]; omega, by simp only [List.length_append]; omega⟩) (by first | omega | (dsimp only; omega)) ⟨rfl, rfl, rfl, rfl, trivial⟩ [4, 1, 4] 4 rfl
 have hg28e := hg28
 refine G.at [] 0 (env' := [(1, .pointer (some ⟨g1, 0, none⟩)), (5, v), (7, .int .i64 ((i : Int))), (6, v16), (9, .string (nameO fo)), (12, .int .i64 ((a : Int))), (122, .int .i64 ((a : Int))), (123, .bool false), (124, .bool false)]) (⟨rfl, rfl, rfl, rfl, rfl, rfl, rfl, (congrArg (fun b => some (Value.bool b)) hg28e), (congrArg (fun b => some (Value.bool b)) hg28e), trivial⟩) rfl ?_
 replace hg28 := of_decide_eq_false hg28
 refine G.skipG rfl rfl rfl rfl rfl rfl (G.skipG rfl rfl rfl rfl rfl rfl (G.skipG rfl rfl rfl rfl rfl rfl (G.skipG rfl rfl rfl rfl rfl rfl (G.skipG rfl rfl rfl rfl rfl rfl (G.skipG rfl rfl rfl rfl rfl rfl (G.skipG rfl rfl rfl rfl rfl rfl ?_))))))
 refine G.stepD (OD.pickF rfl rfl rfl) rfl rfl rfl ?_
 refine G.nil (GE.then_ (GC.condF rfl ?_))
 have hend : insAt ks k a = a := by
   have hz : a = 0 := by
     have hh := of_decide_eq_false hg28e
     omega
   rw [hz]; rfl
 refine GC.exit (GE.pass (GE.pass (GE.hit (GE.then_ ?_))))
 refine GC.at [] 0 (env' := [(1, .pointer (some ⟨g1, 0, none⟩)), (5, v), (7, .int .i64 ((i : Int))), (6, v16), (9, .string (nameO fo)), (12, .int .i64 ((a : Int)))]) ⟨rfl, rfl, rfl, rfl, rfl, rfl, trivial⟩ rfl ?_
 refine GC.par (its := [⟨135, [], [], [], [0], fun ds => ((ds.getD 0 []).getD 0 undef), fun ds => IsS ((ds.getD 0 []).getD 0 undef), fun ds => [strs 9 ((ds.getD 0 []).getD 0 undef) []]⟩,
     ⟨136, [], [], [], [], fun _ => v, fun _ => True, fun _ => []⟩,
     ⟨137, [], [], [], [], fun _ => .int .i64 ((a : Int)), fun _ => True, fun _ => []⟩,
     ⟨138, [(1, 136), (2, 137)], [], [], [], fun _ => (subV 1 v 0 a), fun _ => True, fun _ => []⟩,
     ⟨139, [(0, 135), (3, 138)], [0], [0], [0, 4], fun ds => ((ds.getD 1 []).getD 0 undef), fun ds => IsS ((ds.getD 1 []).getD 0 undef), fun ds => [strs 9 ((ds.getD 1 []).getD 0 undef) ([] ++ ((xs.drop (0)).take (a - 0)))]⟩,
     ⟨140, [], [], [], [], fun _ => .string (nameO fo), fun _ => True, fun _ => []⟩,
     ⟨141, [(5, 140)], [], [], [6], fun ds => ((ds.getD 0 []).getD 0 undef), fun ds => IsS ((ds.getD 0 []).getD 0 undef), fun ds => [strs 9 ((ds.getD 0 []).getD 0 undef) [nameO fo]]⟩,
     ⟨142, [(4, 139), (6, 141)], [4, 6], [4], [0, 4, 6, 7], fun ds => ((ds.getD 3 []).getD 0 undef), fun ds => IsS ((ds.getD 3 []).getD 0 undef), fun ds => [strs 9 ((ds.getD 3 []).getD 0 undef) (([] ++ ((xs.drop (0)).take (a - 0))) ++ [nameO fo])]⟩,
     ⟨143, [], [], [], [], fun _ => v, fun _ => True, fun _ => []⟩,
     ⟨144, [], [], [], [], fun _ => .int .i64 ((a : Int)), fun _ => True, fun _ => []⟩,
     ⟨145, [(8, 143), (9, 144)], [], [], [], fun _ => (subV 1 v a xs.length), fun _ => True, fun _ => []⟩,
     ⟨146, [(7, 142), (10, 145)], [7, 6], [7], [0, 4, 6, 7, 11], fun ds => ((ds.getD 4 []).getD 0 undef), fun ds => IsS ((ds.getD 4 []).getD 0 undef), fun ds => [strs 9 ((ds.getD 4 []).getD 0 undef) ((([] ++ ((xs.drop (0)).take (a - 0))) ++ [nameO fo]) ++ ((xs.drop (a)).take (xs.length - a)))]⟩]) (by kernel_rfl) (by kernel_rfl) (POps.cons ?_ (POps.cons ?_ (POps.cons ?_ (POps.cons ?_ (POps.cons ?_ (POps.cons ?_ (POps.cons ?_ (POps.cons ?_ (POps.cons ?_ (POps.cons ?_ (POps.cons ?_ (POps.cons ?_ POps.nil)))))))))))) ?_
 intro θ R hd
 exact Opp.plain (OG.imp (OG.buildStrs (os := []) (xs := []) rfl et43 rfl rfl rfl rfl rfl) (by rintro v50 _ ⟨hs51, rfl⟩; exact ⟨[v50], rfl, hs51, rfl⟩)) rfl
 intro θ R hd
 exact Opp.plain (OG.imp (OD.move rfl rfl) (by rintro _ _ ⟨rfl, rfl⟩; exact ⟨[], rfl, trivial, rfl⟩)) rfl
 intro θ R hd
 exact Opp.plain (OG.imp (OD.move rfl rfl) (by rintro _ _ ⟨rfl, rfl⟩; exact ⟨[], rfl, trivial, rfl⟩)) rfl
 intro θ R hd
 obtain ⟨h1d, h2d, _⟩ := hd
 exact Opp.plain (OG.imp (OD.sliceTo rfl et43 rfl rfl (Ent.strs (i := 3) rfl) (by omega)) (by rintro _ _ ⟨rfl, rfl⟩; exact ⟨[], rfl, trivial, rfl⟩)) rfl
 intro θ R hd
 obtain ⟨h0d, h3d, _⟩ := hd
 exact Opp.plain (OG.imp (OG.appendStrs 0 rfl rfl et43 rfl rfl rfl (Ent.subStrs (Ent.strs (i := 4) rfl) (by simp; omega)) (by simp [maxLen] <;> omega)) (by rintro v52 _ ⟨hs53, rfl⟩; exact ⟨[v52], rfl, hs53, rfl⟩)) rfl
 intro θ R hd
 exact Opp.plain (OG.imp (OD.move rfl rfl) (by rintro _ _ ⟨rfl, rfl⟩; exact ⟨[], rfl, trivial, rfl⟩)) rfl
 intro θ R hd
 obtain ⟨h5d, _⟩ := hd
 exact Opp.plain (OG.imp (OG.buildStrs (os := [.tmp 140]) (xs := [nameO fo]) rfl et43 rfl rfl rfl rfl rfl) (by rintro v54 _ ⟨hs55, rfl⟩; exact ⟨[v54], rfl, hs55, rfl⟩)) rfl
 intro θ R hd
 obtain ⟨h4d, h6d, _⟩ := hd
 exact Opp.plain (OG.imp (OG.appendStrs 0 rfl rfl et43 rfl rfl rfl (Ent.strs (i := 1) rfl) (by simp [maxLen] <;> omega)) (by rintro v56 _ ⟨hs57, rfl⟩; exact ⟨[v56], rfl, hs57, rfl⟩)) rfl
 intro θ R hd
 exact Opp.plain (OG.imp (OD.move rfl rfl) (by rintro _ _ ⟨rfl, rfl⟩; exact ⟨[], rfl, trivial, rfl⟩)) rfl
 intro θ R hd
 exact Opp.plain (OG.imp (OD.move rfl rfl) (by rintro _ _ ⟨rfl, rfl⟩; exact ⟨[], rfl, trivial, rfl⟩)) rfl
 intro θ R hd
 obtain ⟨h8d, h9d, _⟩ := hd
 exact Opp.plain (OG.imp (OD.sliceFrom rfl et43 rfl rfl (Ent.strs (i := 3) rfl) (by omega)) (by rintro _ _ ⟨rfl, rfl⟩; exact ⟨[], rfl, trivial, rfl⟩)) rfl
 intro θ R hd
 obtain ⟨h7d, h10d, _⟩ := hd
 exact Opp.plain (OG.imp (OG.appendStrs 0 rfl rfl et43 rfl rfl rfl (Ent.subStrs (Ent.strs (i := 5) rfl) (by simp; omega)) (by simp [maxLen] <;> omega)) (by rintro v58 _ ⟨hs59, rfl⟩; exact ⟨[v58], rfl, hs59, rfl⟩)) rfl
 intro θ hall
 obtain ⟨h0a, _, _, _, h4a, _, h6a, h7a, _, _, _, h11a, _⟩ := hall
 refine G.at [] 0 (env' := [(1, .pointer (some ⟨g1, 0, none⟩)), (5, v), (7, .int .i64 ((i : Int))), (6, v16), (146, ((θ 11).getD 0 undef))]) ⟨rfl, rfl, rfl, rfl, rfl, trivial⟩ (own' := strs 9 ((θ 6).getD 0 undef) [nameO fo] :: strs 9 ((θ 11).getD 0 undef) ((([] ++ ((xs.drop (0)).take (a - 0))) ++ [nameO fo]) ++ ((xs.drop (a)).take (xs.length - a))) :: strs 9 v18 nameL :: ints 3 v14 (partF cr cd (i : Int)) :: ints 3 v16 (dn ++ (partF cr cd (i : Int))) :: strs 9 v xs :: box g1 28 [.int .i64 (cr), vcd] :: own) rfl ?_
 have hs60 : IsS ((θ 0).getD 0 undef) := h0a
 clear h0a
 generalize ((θ 0).getD 0 undef) = v61 at *
 have hs62 : IsS ((θ 4).getD 0 undef) := h4a
 clear h4a
 generalize ((θ 4).getD 0 undef) = v63 at *
 have hs64 : IsS ((θ 6).getD 0 undef) := h6a
 clear h6a
 generalize ((θ 6).getD 0 undef) = v65 at *
 have hs66 : IsS ((θ 7).getD 0 undef) := h7a
 clear h7a
 generalize ((θ 7).getD 0 undef) = v67 at *
 have hs68 : IsS ((θ 11).getD 0 undef) := h11a
 clear h11a
 generalize ((θ 11).getD 0 undef) = v69 at *
 show G _ _ _ [_] _ _ _ _
 refine G.stepD (OD.assign rfl rfl) rfl rfl rfl ?_
 refine G.nil (GE.blockN (GE.then_ (GC.region ?_)))
 refine G.stepD (OD.move rfl rfl) rfl rfl rfl ?_
 refine G.stepD (OD.addI rfl rfl rfl (by omega)) rfl rfl rfl ?_
 refine G.stepD (OD.assign rfl rfl) rfl rfl rfl ?_
 refine G.nil ?_
 exact GE.again (i + 1, insF ks k, dn ++ (partF cr cd (i : Int)), (([] ++ ((xs.drop (0)).take (a - 0))) ++ [nameO fo]) ++ ((xs.drop (a)).take (xs.length - a)), v69, v16) (⟨by omega, hs68, hs17, partsF_add hp hdc hfk, by rw [hxs]; exact ins_eq hok (by rw [← hins]; exact hend), insF_lt hk12 hkl12, by rw [insF_len]; omega, by simp only [List.length_append]; omega⟩) (by first | omega | (dsimp only; omega)) ⟨rfl, rfl, rfl, rfl, trivial⟩ [4, 1, 4] 4 rfl
 replace hc12 := of_decide_eq_false hc12
 obtain ⟨hq1, hq2⟩ := psN_some (hte.trans (congrArg (Option.map (·.1)) ((congrArg (partsF cr cd) (show cr.toNat = i by omega)).trans hp)))
 refine GC.exit (GE.pass (GE.pass (GE.hit (GE.then_ (GC.seq (GC.region ?_))))))
 refine G.stepD (OD.move rfl rfl) rfl rfl rfl ?_
 refine G.stepD (OD.assign rfl rfl) rfl rfl rfl ?_
 refine G.stepD (OD.assign rfl rfl) rfl rfl rfl ?_
 refine G.nil (GE.then_ (GC.ret ?_))
 exact GE.body [1] 2 (res2 rfl rfl rfl) rfl (⟨v, congrArg (fun (a1 : Bool) => (.tuple #[v, .bool (a1)] : Value)) ((hq2.symm : (true : Bool) = (tyS cr cd).isSome)), hv, congrArg (fun (l0 : List ByteArray) => strs 9 v l0 :: own) ((hxs.trans hq1.symm : xs = psN (tyS cr cd)))⟩)

end Go.Proofs.YtjdkkhlngflgfaaDoor
