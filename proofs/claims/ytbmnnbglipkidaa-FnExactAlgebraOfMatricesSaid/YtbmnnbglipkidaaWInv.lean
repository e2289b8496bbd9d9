/-
  Inverses by the second text, and whether a list is zero: contracts by walks.
-/
import Derived.Test.YtbmnnbglipkidaaWMul
import Derived.Test.YtbmnnbglipkidaaZ04
namespace Go.Proofs.Ytbmnnbglipkidaa
set_option linter.unusedVariables false
set_option linter.unusedSimpArgs false
open Go.RowKit
theorem ent32 : ∀ us w, (callFunc 32 us).run Try.prog w = .ok (.enter 32 us) w := fun us w => by kernel_rfl
theorem ent56 : ∀ us w, (callFunc 56 us).run Try.prog w = .ok (.enter 56 us) w := fun us w => by kernel_rfl
theorem ent63 : ∀ us w, (callFunc 63 us).run Try.prog w = .ok (.enter 63 us) w := fun us w => by kernel_rfl
theorem isZero_s {W : World} {own : List Asn} {vx : Value} {x : List Int}  (sx : IsS vx) (ex : Ent own fun w => Ints w vx x)   : Spec Try.prog 54 [vx] W own (fun v ow => v = .bool (zeroB x) ∧ ow = own) := Spec.drewN fun w hs => isZero_any _ _ w (ex W w hs)
set_option maxRecDepth 100000 in
theorem l1Power_ok {W : World} {own : List Asn} {x : Int} {n : Int} {p : Int}   (hp : 2 ≤ p ∧ p ≤ 10007) (hx : 0 ≤ x ∧ x < p) (hn : 0 ≤ n ∧ n ≤ 10007) : Spec Try.prog 63 [.int .i64 (x), .int .i64 (n), .int .i64 (p)] W own (fun v ow => v = .int .i64 (pwR p 14 x n 1) ∧ ow = own) := by
 refine Spec.enter Try.f63 _ Try.func63 rfl (n := 26) rfl rfl ?_
 refine GC.seq (GC.region ?_)
 refine G.stepD (OD.assign rfl rfl) rfl rfl rfl ?_
 refine G.nil (GE.then_ (GC.seq (GC.region ?_)))
 refine G.stepD (OD.assign rfl rfl) rfl rfl rfl ?_
 refine G.nil (GE.then_ (GC.seq (GC.block ?_)))
 refine GC.loop (ι := Nat × Int × Int × Int) (fun ⟨f, a, b, o⟩ => [(2, .int .i64 (p)), (0, .int .i64 (a)), (1, .int .i64 (b)), (7, .int .i64 (o))]) (fun ⟨f, a, b, o⟩ => own) (fun ⟨f, a, b, o⟩ => (0 ≤ b ∧ b < 2 ^ f) ∧ (b ≤ 10007) ∧ (0 ≤ a ∧ a < p) ∧ (0 ≤ o ∧ o < p) ∧ (pwR p f a b o = pwR p 14 x n 1)) (fun ⟨f, a, b, o⟩ => f) (14, x, n, 1) (⟨by omega, by omega, hx, by omega, rfl⟩) ⟨rfl, rfl, rfl, rfl, trivial⟩ [] 0 rfl ?_
 rintro ⟨f, a, b, o⟩ ⟨hf, hbn, ha, ho, hr⟩
 refine GC.seq (GC.seq (GC.region ?_))
 refine G.stepD (OD.move rfl rfl) rfl rfl rfl ?_
 refine G.stepD (OD.gtr rfl rfl rfl) rfl rfl rfl ?_
 refine G.nil (GE.then_ ?_)
 refine GC.cond rfl (fun hc1 => ?_) (fun hc1 => ?_)
 replace hc1 := of_decide_eq_true hc1
 have hb0 : 0 < b := by omega
 have hbt := tdiv_half hf.1
 obtain ⟨g, rfl⟩ := pw_more hf hb0
 have hmx := mulBd (A := p - 1) (B := p - 1) (a := a) (b := a) (by omega) (by omega)
 have hmo := mulBd (A := p - 1) (B := p - 1) (a := o) (b := a) (by omega) (by omega)
 have hpp := mulBd (A := 10006) (B := 10006) (a := p - 1) (b := p - 1) (by omega) (by omega)
 refine GC.skip (GE.then_ (GC.block (GC.seq (GC.seq (GC.region ?_)))))
 refine G.stepD (OD.move rfl rfl) rfl rfl rfl ?_
 refine G.stepD (OD.rem rfl rfl rfl (by omega)) rfl rfl rfl ?_
 refine G.stepD (OD.eql rfl rfl rfl) rfl rfl rfl ?_
 refine G.nil (GE.then_ ?_)
 refine GC.cond rfl (fun hc2 => ?_) (fun hc2 => ?_)
 replace hc2 := eq_of_beq hc2
 have ho2 : 0 ≤ (o * a).tmod p ∧ (o * a).tmod p < p := ⟨Int.tmod_nonneg _ hmo.1, Int.tmod_lt_of_pos _ (by omega)⟩
 have hr2 := (pwR_odd (p := p) (f := g) (x := a) (o := o) hb0 (by assumption)).symm.trans hr
 refine GC.region ?_
 refine G.stepD (OD.move rfl rfl) rfl rfl rfl ?_
 refine G.stepD (OD.move rfl rfl) rfl rfl rfl ?_
 refine G.stepD (OD.mulI rfl rfl rfl (by omega)) rfl rfl rfl ?_
 refine G.stepD (OD.move rfl rfl) rfl rfl rfl ?_
 refine G.stepD (OD.rem rfl rfl rfl (by omega)) rfl rfl rfl ?_
 refine G.stepD (OD.assign rfl rfl) rfl rfl rfl ?_
 refine G.nil (GE.then_ (GC.seq (GC.region ?_)))
 refine G.stepD (OD.move rfl rfl) rfl rfl rfl ?_
 refine G.stepD (OD.move rfl rfl) rfl rfl rfl ?_
 refine G.stepD (OD.mulI rfl rfl rfl (by omega)) rfl rfl rfl ?_
 refine G.stepD (OD.move rfl rfl) rfl rfl rfl ?_
 refine G.stepD (OD.rem rfl rfl rfl (by omega)) rfl rfl rfl ?_
 refine G.stepD (OD.assign rfl rfl) rfl rfl rfl ?_
 refine G.nil (GE.then_ (GC.region ?_))
 refine G.stepD (OD.move rfl rfl) rfl rfl rfl ?_
 refine G.stepD (OD.eqv (OD.quo rfl rfl rfl (by omega)) (congrArg (Value.int .i64) ((wrap_in (by omega) (by omega)) : (IntKind.i64.wrap ((b).tdiv 2) : Int) = ((b.tdiv 2))))) rfl rfl rfl ?_
 refine G.stepD (OD.assign rfl rfl) rfl rfl rfl ?_
 refine G.nil (GE.blockN ?_)
 exact GE.again (g, (a * a).tmod p, (b.tdiv 2), (o * a).tmod p) (⟨pw_half hf hb0, by omega, tm_rg hmx, ho2, hr2⟩) (by first | omega | (dsimp only; omega)) ⟨rfl, rfl, rfl, rfl, trivial⟩ [] 0 rfl
 replace hc2 := ne_of_beq_false hc2
 have ho2 := ho
 have hr2 := (pwR_even (p := p) (f := g) (x := a) (o := o) hb0 (by assumption)).symm.trans hr
 refine GC.skip (GE.then_ (GC.seq (GC.region ?_)))
 refine G.stepD (OD.move rfl rfl) rfl rfl rfl ?_
 refine G.stepD (OD.move rfl rfl) rfl rfl rfl ?_
 refine G.stepD (OD.mulI rfl rfl rfl (by omega)) rfl rfl rfl ?_
 refine G.stepD (OD.move rfl rfl) rfl rfl rfl ?_
 refine G.stepD (OD.rem rfl rfl rfl (by omega)) rfl rfl rfl ?_
 refine G.stepD (OD.assign rfl rfl) rfl rfl rfl ?_
 refine G.nil (GE.then_ (GC.region ?_))
 refine G.stepD (OD.move rfl rfl) rfl rfl rfl ?_
 refine G.stepD (OD.eqv (OD.quo rfl rfl rfl (by omega)) (congrArg (Value.int .i64) ((wrap_in (by omega) (by omega)) : (IntKind.i64.wrap ((b).tdiv 2) : Int) = ((b.tdiv 2))))) rfl rfl rfl ?_
 refine G.stepD (OD.assign rfl rfl) rfl rfl rfl ?_
 refine G.nil (GE.blockN ?_)
 exact GE.again (g, (a * a).tmod p, (b.tdiv 2), o) (⟨pw_half hf hb0, by omega, tm_rg hmx, ho2, hr2⟩) (by first | omega | (dsimp only; omega)) ⟨rfl, rfl, rfl, rfl, trivial⟩ [] 0 rfl
 replace hc1 := of_decide_eq_false hc1
 have hpe := pwR_end (p := p) (f := f) (x := a) (o := o) (n := b) (by omega)
 refine GC.exit (GE.pass (GE.pass (GE.hit (GE.then_ (GC.seq (GC.region ?_))))))
 refine G.stepD (OD.move rfl rfl) rfl rfl rfl ?_
 refine G.stepD (OD.assign rfl rfl) rfl rfl rfl ?_
 refine G.nil (GE.then_ (GC.ret ?_))
 exact GE.body [] 0 (res1 rfl rfl) rfl (⟨congrArg (fun (a0 : Int) => (.int .i64 (a0) : Value)) ((by rw [← hr, hpe] : (o : Int) = pwR p 14 x n 1)), rfl⟩)
set_option maxRecDepth 100000 in
theorem l1Inverse_ok {W : World} {own : List Asn} {x : Int} {p : Int}   (hp : 2 ≤ p ∧ p ≤ 10007) (hx : 0 ≤ x ∧ x < p) : Spec Try.prog 56 [.int .i64 (x), .int .i64 (p)] W own (fun v ow => v = .int .i64 ((pwR p 14 x (p - 2) 1).tmod p) ∧ ow = own) := by
 refine Spec.enter Try.f56 _ Try.func56 rfl (n := 12) rfl rfl ?_
 refine GC.seq (GC.region ?_)
 refine G.stepD (OD.assign rfl rfl) rfl rfl rfl ?_
 refine G.nil (GE.then_ (GC.seq (GC.region ?_)))
 refine G.stepD (OD.move rfl rfl) rfl rfl rfl ?_
 refine G.stepD (OD.move rfl rfl) rfl rfl rfl ?_
 refine G.stepD (OD.subI rfl rfl rfl (by omega)) rfl rfl rfl ?_
 refine G.stepD (OD.move rfl rfl) rfl rfl rfl ?_
 refine G.step (OG.call [.int .i64 (x), .int .i64 (p - 2), .int .i64 (p)] ent63 rfl rfl rfl rfl (by exact (l1Power_ok (hp) (hx) (by omega)))) rfl rfl rfl ?_
 rintro _ _ ⟨rfl, hzz⟩; obtain rfl := hzz.symm
 refine G.stepD (OD.move rfl rfl) rfl rfl rfl ?_
 refine G.stepD (OD.rem rfl rfl rfl (by omega)) rfl rfl rfl ?_
 refine G.stepD (OD.assign rfl rfl) rfl rfl rfl ?_
 refine G.nil (GE.then_ (GC.ret ?_))
 exact GE.body [] 0 (res1 rfl rfl) rfl (⟨rfl, rfl⟩)
set_option maxRecDepth 100000 in
theorem inverseOf_ok {W : World} {own : List Asn} {n : Int} {p : Int}   (hpp : primeB p = true) (hp : 2 ≤ p ∧ p ≤ 10007) : Spec Try.prog 38 [.int .i64 (n), .int .i64 (p)] W own (fun v ow => v = .int .i64 (ivO n p) ∧ ow = own) := by
 have hm0 := Int.emod_nonneg n (show p ≠ 0 by omega)
 have hm1 := Int.emod_lt_of_pos n (show 0 < p by omega)
 refine Spec.enter Try.f38 _ Try.func38 rfl (n := 21) rfl rfl ?_
 refine GC.seq (GC.region ?_)
 refine G.stepD (OD.assign rfl rfl) rfl rfl rfl ?_
 refine G.nil (GE.then_ (GC.seq (GC.seq (GC.region ?_))))
 refine G.stepD (OD.move rfl rfl) rfl rfl rfl ?_
 refine G.step (OG.imp (K' := fun v ow => v = .bool true ∧ ow = own) (OG.call [.int .i64 (p)] ent32 rfl rfl rfl rfl (by exact specIsPrime_s)) (by rintro _ _ ⟨rfl, rfl⟩; exact ⟨congrArg Value.bool (hpp), rfl⟩)) rfl rfl rfl ?_
 rintro _ _ ⟨rfl, hzz⟩; obtain rfl := hzz.symm
 refine G.stepD (OD.not rfl rfl) rfl rfl rfl ?_
 refine G.stepD (OD.move rfl rfl) rfl rfl rfl ?_
 refine G.stepGD (OD.move rfl rfl) rfl rfl rfl rfl rfl ?_
 refine G.stepGD (OD.move rfl rfl) rfl rfl rfl rfl rfl ?_
 refine G.stepG (OG.call [.int .i64 (n), .int .i64 (p)] ent37 rfl rfl rfl rfl (by exact (l1Mod_s (by omega)))) rfl rfl rfl rfl rfl ?_
 rintro _ _ ⟨rfl, hzz⟩; obtain rfl := hzz.symm
 refine G.stepGD (OD.eql rfl rfl rfl) rfl rfl rfl rfl rfl ?_
 refine G.stepD (OD.pickF rfl rfl rfl) rfl rfl rfl ?_
 refine G.nil (GE.then_ ?_)
 refine GC.cond rfl (fun hc1 => ?_) (fun hc1 => ?_)
 replace hc1 := eq_of_beq hc1
 refine GC.seq (GC.region ?_)
 refine G.stepD (OD.assign rfl rfl) rfl rfl rfl ?_
 refine G.nil (GE.then_ (GC.ret (GE.passR ?_)))
 exact GE.body [] 0 (res1 rfl rfl) rfl (⟨congrArg (fun (a0 : Int) => (.int .i64 (a0) : Value)) (((ivO_0 hpp (by assumption)).symm : (0 : Int) = ivO n p)), rfl⟩)
 replace hc1 := ne_of_beq_false hc1
 refine GC.skip (GE.then_ (GC.seq (GC.seq (GC.region ?_))))
 refine G.stepD (OD.move rfl rfl) rfl rfl rfl ?_
 refine G.stepD (OD.eql rfl rfl rfl) rfl rfl rfl ?_
 refine G.nil (GE.then_ ?_)
 refine GC.cond rfl (fun hc2 => ?_) (fun hc2 => ?_)
 replace hc2 := eq_of_beq hc2
 refine GC.seq (GC.region ?_)
 refine G.stepD (OD.assign rfl rfl) rfl rfl rfl ?_
 refine G.nil (GE.then_ (GC.ret (GE.passR ?_)))
 exact GE.body [] 0 (res1 rfl rfl) rfl (⟨congrArg (fun (a0 : Int) => (.int .i64 (a0) : Value)) (((ivO_1 hpp (by assumption) (by assumption)).symm : (1 : Int) = ivO n p)), rfl⟩)
 replace hc2 := ne_of_beq_false hc2
 refine GC.skip (GE.then_ (GC.seq (GC.region ?_)))
 refine G.stepD (OD.move rfl rfl) rfl rfl rfl ?_
 refine G.stepD (OD.move rfl rfl) rfl rfl rfl ?_
 refine G.step (OG.call [.int .i64 (n), .int .i64 (p)] ent37 rfl rfl rfl rfl (by exact (l1Mod_s (by omega)))) rfl rfl rfl ?_
 rintro _ _ ⟨rfl, hzz⟩; obtain rfl := hzz.symm
 refine G.stepD (OD.move rfl rfl) rfl rfl rfl ?_
 refine G.step (OG.call [.int .i64 (n % p), .int .i64 (p)] ent56 rfl rfl rfl rfl (by exact (l1Inverse_ok (hp) (⟨hm0, hm1⟩)))) rfl rfl rfl ?_
 rintro _ _ ⟨rfl, hzz⟩; obtain rfl := hzz.symm
 refine G.stepD (OD.assign rfl rfl) rfl rfl rfl ?_
 refine G.nil (GE.then_ (GC.ret ?_))
 exact GE.body [] 0 (res1 rfl rfl) rfl (⟨congrArg (fun (a0 : Int) => (.int .i64 (a0) : Value)) (((ivO_2 hpp (by assumption) (by assumption)).symm : ((pwR p 14 (n % p) (p - 2) 1).tmod p : Int) = ivO n p)), rfl⟩)
end Go.Proofs.Ytbmnnbglipkidaa
