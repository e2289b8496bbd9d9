/-
  As many inversions as letters of the normal word, for the small types. Checked by the kernel. No program is spoken of.
-/
import Derived.Test.YtgelkakjmbiibaaGreatDoorZ22
import Derived.Test.YtgelkakjmbiibaaGreatDoorGrC
import Derived.Test.YtgelkakjmbiibaaGreatDoorInv
namespace Go.Proofs.YtgelkakjmbiibaaGreatDoor
set_option linter.unusedVariables false
set_option linter.unusedSimpArgs false
def chkI (n : Int) (d : List Int) : Bool := ((rSt n d).all fun x => (x.length == n.toNat) && x.all fun y => inB y (-20) 20) && (oAll n d (ones n 1)).all fun w => ((rSt n d).filter (ivB n d (nwF n d w))).length == (nwF n d w).length
set_option maxRecDepth 100000 in
theorem chkI_all : (List.range 10).all (fun k => chkI (smN k) (smD k)) = true := by decide +kernel
theorem invLen {k : Nat} (hk : k < 10) {v : List Int} (hv : rngW (smN k) v) (hvl : v.length ≤ 60) : (ivL (smN k) (smD k) v).length = (nwOf (smN k) (smD k) v).length := by
  obtain ⟨hS, g, gt⟩ := grOk hk
  have hc := List.all_eq_true.1 chkI_all k (List.mem_range.2 hk)
  generalize smN k = n at *
  generalize smD k = d at *
  have h := wlOk hS
  have hp := phOk hS
  rw [chkI, Bool.and_eq_true] at hc
  have wv := wordB_of hS hv hvl
  have hw := acN_reach (d := d) hv
  have e := (g.word h hp hv).1
  rw [ivL, if_pos wv, nwOf, if_pos wv, e]
  have h2 := List.all_eq_true.1 hc.2 _ (h.orAll hw)
  rw [beq_iff_eq] at h2
  rw [← h2]
  congr 1
  refine List.filter_congr fun r hr => ?_
  have h3 := List.all_eq_true.1 hc.1 r hr
  rw [Bool.and_eq_true, beq_iff_eq] at h3
  have hb : ∀ q, q < n.toNat → -20 ≤ r.getD q 0 ∧ r.getD q 0 ≤ 20 := fun q _ => getD_inB h3.2 (by omega) q
  unfold ivB
  rw [gt.act g.n4 h hp (B := 20) (by omega) h3.1 hb hv, gt.act g.n4 h hp (B := 20) (by omega) h3.1 hb (nw_rng h hp hw), gt.norm h hp hv h3.1]
end Go.Proofs.YtgelkakjmbiibaaGreatDoor
