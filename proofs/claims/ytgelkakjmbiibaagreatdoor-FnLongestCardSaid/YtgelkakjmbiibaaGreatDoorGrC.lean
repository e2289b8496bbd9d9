/-
  The groups of the small types, element by element, checked by the kernel. No program is spoken of.
-/
import Derived.Test.YtgelkakjmbiibaaGreatDoorGrt
import Derived.Test.YtgelkakjmbiibaaGreatDoorCarQ
namespace Go.Proofs.YtgelkakjmbiibaaGreatDoor
set_option linter.unusedVariables false
set_option linter.unusedSimpArgs false
def smL : List ByteArray := [⟨#[65, 49]⟩, ⟨#[65, 50]⟩, ⟨#[65, 51]⟩, ⟨#[66, 50]⟩, ⟨#[66, 51]⟩, ⟨#[67, 51]⟩, ⟨#[71, 50]⟩, ⟨#[65, 49, 43, 65, 49]⟩, ⟨#[65, 49, 43, 65, 50]⟩, ⟨#[65, 49, 43, 66, 50]⟩]
def smNm (k : Nat) : ByteArray := smL.getD k ⟨#[]⟩
theorem smNm_all : (List.range 10).all (fun k => Nat.ble (smNm k).size 20) = true := by decide +kernel
theorem smNm_sz {k : Nat} (hk : k < 10) : (smNm k).size ≤ 20 := Nat.le_of_ble_eq_true (List.all_eq_true.1 smNm_all k (List.mem_range.2 hk))
theorem lp_sub {x y : List Int} {n : Int} (hx : x.length = n.toNat) (bx : ∀ q ∈ x, 0 ≤ q ∧ q < 5) (hy : y.length = n.toNat) (b : ∀ q ∈ y, 0 ≤ q ∧ q < 5) : (lpF x (-1) y).length = n.toNat ∧ ∀ q ∈ lpF x (-1) y, -4 ≤ q ∧ q ≤ 4 := by
  refine ⟨by rw [lpF_len, hx], fun q hq => ?_⟩
  obtain ⟨k, hk, e⟩ := List.getElem_of_mem hq
  have hk2 : k < x.length := by rwa [lpF_len] at hk
  have hg := fset_get (g := fun i (z : Int) => IntKind.i64.wrap (z + IntKind.i64.wrap (-1 * y.getD i 0))) (o := x) (m := y.length) (k := k) (by omega) hk2
  rw [if_pos (by omega)] at hg
  have e2 : (lpF x (-1) y).getD k 0 = q := by rw [List.getD, List.getElem?_eq_getElem hk, e]; rfl
  have h1 := bx (x.getD k 0) (by rw [List.getD, List.getElem?_eq_getElem hk2]; exact List.getElem_mem _)
  have h2 := b (y.getD k 0) (by rw [List.getD, List.getElem?_eq_getElem (by omega)]; exact List.getElem_mem _)
  rw [← e2]
  unfold lpF
  rw [hg, wrap_in (x := -1 * y.getD k 0) (by omega) (by omega), wrap_in (by omega) (by omega)]
  omega
def smKs : Nat → List Nat
  | 0 => [0]
  | 1 => [1]
  | 2 => [2]
  | 3 => [4]
  | 4 => [5]
  | 5 => [7]
  | 6 => [11]
  | 7 => [0, 0]
  | 8 => [0, 1]
  | _ => [0, 4]
def smN (k : Nat) : Int := (rkS (smKs k) : Nat)
def smD (k : Nat) : List Int := (matOf (smKs k)).2
def chkG (n : Int) (d : List Int) : Bool :=
  (tyS n d).isSome && (d.all fun y => inB y (-3) 3) && (oAll n d (ones n 1)).all fun w => (List.range n.toNat).all fun j =>
    ((acN n d (nwF n d w) (unitL n.toNat j)).all fun y => inB y (-10) 10) && ((arN n d (nwF n d w) (unitL n.toNat j)).all fun y => inB y (-10) 10) &&
    (List.range n.toNat).all fun i => (acN n d ((i : Int) :: nwF n d w) (unitL n.toNat j) == acN n d (nwF n d (rp n d i w)) (unitL n.toNat j)) && (arN n d ((i : Int) :: nwF n d w) (unitL n.toNat j) == arN n d (nwF n d (rp n d i w)) (unitL n.toNat j)) && (decide (0 ≤ w.getD i 0) || decide ((acN n d (nwF n d w) (unitL n.toNat j)).getD i 0 ≤ 0))
set_option maxRecDepth 100000 in
theorem chkG_all : (List.range 10).all (fun k => chkG (smN k) (smD k)) = true := by decide +kernel
set_option maxRecDepth 100000 in
theorem sm_all : (List.range 10).all (fun k => cF (smNm k) == some (smKs k) && decide (1 ≤ smN k) && decide (smN k ≤ 3)) = true := by decide +kernel
theorem getD_inB {l : List Int} {a b : Int} (h : (l.all fun y => inB y a b) = true) (h0 : a ≤ 0 ∧ 0 ≤ b) (k : Nat) : a ≤ l.getD k 0 ∧ l.getD k 0 ≤ b := by
  by_cases hk : k < l.length
  · rw [List.getD, List.getElem?_eq_getElem hk]
    have := List.all_eq_true.1 h _ (List.getElem_mem hk)
    exact inB_true this
  · rw [List.getD, List.getElem?_eq_none (by omega)]
    exact h0
theorem grOk {k : Nat} (hk : k < 10) : (tyS (smN k) (smD k)).isSome = true ∧ GrOk (smN k) (smD k) ∧ GtOk (smN k) (smD k) := by
  have h1 := List.all_eq_true.1 chkG_all k (List.mem_range.2 hk)
  have h2 := List.all_eq_true.1 sm_all k (List.mem_range.2 hk)
  simp only [Bool.and_eq_true, decide_eq_true_eq] at h2
  generalize smN k = n at *
  generalize smD k = d at *
  rw [chkG, Bool.and_eq_true, Bool.and_eq_true] at h1
  obtain ⟨⟨hS, hd⟩, hE⟩ := h1
  have hW := wlOk hS
  have key : ∀ w, Reach n d w → ∀ j, j < n.toNat → _ := fun w hw j hj => List.all_eq_true.1 (List.all_eq_true.1 hE w (hW.orAll hw)) j (List.mem_range.2 hj)
  simp only [Bool.and_eq_true] at key
  have d3 : ∀ y ∈ d, -3 ≤ y ∧ y ≤ 3 := fun y hy => inB_true (List.all_eq_true.1 hd y hy)
  have step : ∀ w, Reach n d w → ∀ i : Nat, i < n.toNat → ∀ j, j < n.toNat → _ := fun w hw i hi j hj => List.all_eq_true.1 (key w hw j hj).2 i (List.mem_range.2 hi)
  simp only [Bool.and_eq_true, Bool.or_eq_true, beq_iff_eq, decide_eq_true_eq] at step
  refine ⟨hS, ⟨by omega, by omega, fun i k => getD_inB hd (by omega) _, fun w hw i hi j hj => (step w hw i hi j hj).1.1, fun w hw j hj k => getD_inB (key w hw j hj).1.1 (by omega) k, fun w hw i hi h0 j hj => ?_⟩, ⟨d3, fun w hw i hi j hj => (step w hw i hi j hj).1.2, fun w hw j hj k => getD_inB (key w hw j hj).1.2 (by omega) k⟩⟩
  rcases (step w hw i hi j hj).2 with h | h
  · omega
  · exact h
theorem sm_cR {k : Nat} (hk : k < 10) : cR (smNm k) = smN k ∧ cD (smNm k) = smD k ∧ 1 ≤ smN k ∧ smN k ≤ 3 := by
  have h2 := List.all_eq_true.1 sm_all k (List.mem_range.2 hk)
  simp only [Bool.and_eq_true, decide_eq_true_eq, beq_iff_eq] at h2
  exact ⟨by rw [cR, h2.1.1]; rfl, by rw [cD, h2.1.1]; rfl, h2.1.2, h2.2⟩
end Go.Proofs.YtgelkakjmbiibaaGreatDoor
