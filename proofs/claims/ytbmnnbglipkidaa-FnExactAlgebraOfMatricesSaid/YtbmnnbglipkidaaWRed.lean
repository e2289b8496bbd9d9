/-
  The reduction of rows: contracts by walks.
-/
import Derived.Test.YtbmnnbglipkidaaWMul
import Derived.Test.YtbmnnbglipkidaaZ07
import Derived.Test.YtbmnnbglipkidaaEuc
namespace Go.Proofs.Ytbmnnbglipkidaa
set_option linter.unusedVariables false
set_option linter.unusedSimpArgs false
open Go.RowKit
set_option maxRecDepth 100000 in
theorem addTo_w {W : World} {own : List Asn} {vx : Value} {x : List Int} {f : Int} {vy : Value} {y : List Int} {p : Int}  (sx : IsS vx)   (sy : IsS vy) (ey : Ent own fun w => Ints w vy y)   (hp : 2 ≤ p ∧ p ≤ 10007) (hl : y.length = x.length) (hlb : x.length ≤ 1073741824) (hf : 0 ≤ f ∧ f ≤ 10007) (hx : ∀ j, 0 ≤ x.getD j 0 ∧ x.getD j 0 ≤ 10007) (hyr : ∀ j, 0 ≤ y.getD j 0 ∧ y.getD j 0 ≤ 10007) : Spec Try.prog 53 [vx, .int .i64 (f), vy, .int .i64 (p)] W (ints 3 vx x :: own) (fun v ow => v = .tuple #[] ∧ ow = ints 3 vx (adR p f x y) :: own) := by
 refine Spec.enter Try.f53 _ Try.func53 rfl (n := 31) rfl rfl ?_
 refine GC.seq (GC.region ?_)
 refine G.stepD (OD.move rfl rfl) rfl rfl rfl ?_
 refine G.stepD (OD.len rfl rfl et24 rfl (Ent.drop 1 ey)) rfl rfl rfl ?_
 refine G.stepD (OD.move rfl rfl) rfl rfl rfl ?_
 refine G.nil (GE.then_ (GC.block ?_))
 refine GC.loop (ι := Nat × List Int) (fun ⟨k, ys⟩ => [(0, vx), (1, .int .i64 (f)), (3, .int .i64 (p)), (10, vy), (11, .int .i64 ((y.length : Nat))), (12, .int .i64 ((k : Int)))]) (fun ⟨k, ys⟩ => ints 3 vx ys :: own) (fun ⟨k, ys⟩ => (k ≤ y.length) ∧ (ys = adK p f x y k)) (fun ⟨k, ys⟩ => y.length - k) (0, x) (⟨by omega, rfl⟩) ⟨rfl, rfl, rfl, rfl, rfl, rfl, trivial⟩ [] 0 rfl ?_
 rintro ⟨k, ys⟩ ⟨hk, hy⟩
 have hyl : ys.length = x.length := by rw [hy, adK_len]
 have hyk : ys.getD k 0 = x.getD k 0 := by rw [hy, adK_at k (by omega), if_neg (Nat.lt_irrefl k)]
 have hx2 := hx k
 have hm := ad_bd hf (hyr k)
 have hm2 : 0 ≤ f * y.getD ((k : Int)).toNat 0 ∧ f * y.getD ((k : Int)).toNat 0 ≤ 10007 * 10007 := hm
 have hyk2 : ys.getD ((k : Int)).toNat 0 = x.getD k 0 := hyk
 refine GC.seq (GC.region ?_)
 refine G.stepD (OD.lss rfl rfl rfl) rfl rfl rfl ?_
 refine G.nil (GE.then_ (GC.seq ?_))
 refine GC.cond rfl (fun hc1 => ?_) (fun hc1 => ?_)
 replace hc1 := of_decide_eq_true hc1
 refine GC.skip (GE.then_ (GC.seq (GC.block (GC.seq (GC.region ?_)))))
 refine G.stepD (OD.move rfl rfl) rfl rfl rfl ?_
 refine G.stepD (OD.indexAddr rfl et24 rfl (Ent.drop 1 ey) rfl (by omega)) rfl rfl rfl ?_
 refine G.stepD (OD.loadInt rfl ti3 rfl (Ent.drop 1 ey) (by omega)) rfl rfl rfl ?_
 refine G.stepD (OD.assign rfl rfl) rfl rfl rfl ?_
 refine G.stepD (OD.assign rfl rfl) rfl rfl rfl ?_
 refine G.nil (GE.then_ (GC.region ?_))
 refine G.stepD (OD.move rfl rfl) rfl rfl rfl ?_
 refine G.stepD (OD.move rfl rfl) rfl rfl rfl ?_
 refine G.stepD (OD.move rfl rfl) rfl rfl rfl ?_
 refine G.stepD (OD.move rfl rfl) rfl rfl rfl ?_
 refine G.stepD (OD.indexAddr rfl et24 rfl (Ent.ints (i := 0) rfl) rfl (by omega)) rfl rfl rfl ?_
 refine G.stepD (OD.loadInt rfl ti3 rfl (Ent.ints (i := 0) rfl) (by omega)) rfl rfl rfl ?_
 refine G.stepD (OD.move rfl rfl) rfl rfl rfl ?_
 refine G.stepD (OD.move rfl rfl) rfl rfl rfl ?_
 refine G.stepD (OD.mulI rfl rfl rfl (by omega)) rfl rfl rfl ?_
 refine G.stepD (OD.addI rfl rfl rfl (by omega)) rfl rfl rfl ?_
 refine G.stepD (OD.move rfl rfl) rfl rfl rfl ?_
 refine G.stepD (OD.eqv (OD.rem rfl rfl rfl (by omega)) (congrArg (Value.int .i64) ((Int.tmod_eq_emod_of_nonneg (by omega)) : (((ys.getD (k) 0) + (f * (y.getD (k) 0))).tmod p : Int) = (((ys.getD k 0 + f * y.getD k 0) % p))))) rfl rfl rfl ?_
 refine G.stepD (OD.indexAddr rfl et24 rfl (Ent.ints (i := 0) rfl) rfl (by omega)) rfl rfl rfl ?_
 refine G.stepD0 (OD.storeInt rfl ti3 rfl rfl (i := 0) rfl (by omega)) rfl rfl ?_
 refine G.nil (GE.blockN (GE.then_ (GC.region ?_)))
 refine G.stepD (OD.addI rfl rfl rfl (by first | omega | (simp only [List.length_set, List.length_replicate]; omega))) rfl rfl rfl ?_
 refine G.stepD (OD.move rfl rfl) rfl rfl rfl ?_
 refine G.nil ?_
 exact GE.again (k + 1, ys.set k ((ys.getD k 0 + f * y.getD k 0) % p)) (⟨by omega, by rw [hy, adK_next]⟩) (by first | omega | (dsimp only; omega)) ⟨rfl, rfl, rfl, rfl, rfl, rfl, trivial⟩ [] 0 rfl
 replace hc1 := of_decide_eq_false hc1
 refine GC.exit (GE.pass (GE.pass (GE.hit ?_)))
 exact GE.bodyN [] 0 (res0 rfl) rfl (⟨rfl, congrArg (fun (l0 : List Int) => ints 3 vx l0 :: own) ((by rw [hy, adK_all (by omega)] : ys = adR p f x y))⟩)
set_option maxRecDepth 100000 in
theorem l1Find_w {W : World} {own : List Asn} {vx : Value} {x : List Int} {z : Int}  (sx : IsS vx) (ex : Ent own fun w => Ints w vx x)   (hl : x.length ≤ 1073741824) : Spec Try.prog 58 [vx, .int .i64 (z)] W own (fun v ow => v = .int .i64 (fdG x z 0) ∧ ow = own) := by
 refine Spec.enter Try.f58 _ Try.func58 rfl (n := 19) rfl rfl ?_
 refine GC.seq (GC.region ?_)
 refine G.stepD (OD.assign rfl rfl) rfl rfl rfl ?_
 refine G.nil (GE.then_ (GC.seq (GC.seq (GC.region ?_))))
 refine G.stepD (OD.assign rfl rfl) rfl rfl rfl ?_
 refine G.nil (GE.then_ (GC.block ?_))
 refine GC.loop (ι := Nat) (fun k => [(0, vx), (1, .int .i64 (z)), (5, .int .i64 ((k : Int)))]) (fun k => own) (fun k => (k ≤ x.length) ∧ (fdG x z 0 = fdG (x.drop k) z k)) (fun k => x.length - k) 0 (⟨by omega, rfl⟩) ⟨rfl, rfl, rfl, trivial⟩ [] 0 rfl ?_
 rintro k ⟨hk, ht⟩
 refine GC.seq (GC.seq (GC.region ?_))
 refine G.stepD (OD.move rfl rfl) rfl rfl rfl ?_
 refine G.stepD (OD.move rfl rfl) rfl rfl rfl ?_
 refine G.stepD (OD.len rfl rfl et24 rfl ex) rfl rfl rfl ?_
 refine G.stepD (OD.lss rfl rfl rfl) rfl rfl rfl ?_
 refine G.nil (GE.then_ ?_)
 refine GC.cond rfl (fun hc1 => ?_) (fun hc1 => ?_)
 replace hc1 := of_decide_eq_true hc1
 refine GC.skip (GE.then_ (GC.seq (GC.block (GC.seq (GC.region ?_)))))
 refine G.stepD (OD.move rfl rfl) rfl rfl rfl ?_
 refine G.stepD (OD.move rfl rfl) rfl rfl rfl ?_
 refine G.stepD (OD.indexAddr rfl et24 rfl ex rfl (by omega)) rfl rfl rfl ?_
 refine G.stepD (OD.loadInt rfl ti3 rfl ex (by omega)) rfl rfl rfl ?_
 refine G.stepD (OD.move rfl rfl) rfl rfl rfl ?_
 refine G.stepD (OD.eql rfl rfl rfl) rfl rfl rfl ?_
 refine G.nil (GE.then_ ?_)
 refine GC.cond rfl (fun hc2 => ?_) (fun hc2 => ?_)
 replace hc2 := eq_of_beq hc2
 refine GC.seq (GC.region ?_)
 refine G.stepD (OD.move rfl rfl) rfl rfl rfl ?_
 refine G.stepD (OD.assign rfl rfl) rfl rfl rfl ?_
 refine G.nil (GE.then_ (GC.ret (GE.blockR (GE.passR (GE.passR (GE.blockR (GE.passR ?_)))))))
 exact GE.body [] 0 (res1 rfl rfl) rfl (⟨congrArg (fun (a0 : Int) => (.int .i64 (a0) : Value)) ((by rw [ht, fdG_drop (by omega), if_pos (by assumption)] : ((k : Int) : Int) = fdG x z 0)), rfl⟩)
 replace hc2 := ne_of_beq_false hc2
 refine GC.skip (GE.blockN (GE.then_ (GC.region ?_)))
 refine G.stepD (OD.move rfl rfl) rfl rfl rfl ?_
 refine G.stepD (OD.addI rfl rfl rfl (by omega)) rfl rfl rfl ?_
 refine G.stepD (OD.assign rfl rfl) rfl rfl rfl ?_
 refine G.nil ?_
 exact GE.again (k + 1) (⟨by omega, by rw [ht, fdG_drop (by omega), if_neg (by assumption)]⟩) (by first | omega | (dsimp only; omega)) ⟨rfl, rfl, rfl, trivial⟩ [] 0 rfl
 replace hc1 := of_decide_eq_false hc1
 refine GC.exit (GE.pass (GE.pass (GE.hit (GE.then_ (GC.seq (GC.region ?_))))))
 refine G.stepD (OD.assign rfl rfl) rfl rfl rfl ?_
 refine G.nil (GE.then_ (GC.ret ?_))
 exact GE.body [] 0 (res1 rfl rfl) rfl (⟨congrArg (fun (a0 : Int) => (.int .i64 (a0) : Value)) ((by rw [ht, fdG_end (by omega)] : (-1 : Int) = fdG x z 0)), rfl⟩)
end Go.Proofs.Ytbmnnbglipkidaa
