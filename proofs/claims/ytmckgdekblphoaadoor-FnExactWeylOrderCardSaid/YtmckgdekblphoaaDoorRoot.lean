/-
  Whether a list is a root, and where it stands: as the first text tells by its map and the second one by its list. No program is spoken of.
-/
import Derived.Test.YtmckgdekblphoaaDoorNew
namespace Go.Proofs.YtmckgdekblphoaaDoor
set_option linter.unusedVariables false
set_option linter.unusedSimpArgs false

theorem ngF_get {x : List Int} {k : Nat} (hk : k < x.length) : (ngF x).getD k 0 = IntKind.i64.wrap (0 + IntKind.i64.wrap (-1 * x.getD k 0)) := by
  have hg := fset_get (g := fun i (z : Int) => IntKind.i64.wrap (z + IntKind.i64.wrap (-1 * x.getD i 0))) (o := List.replicate x.length 0) (m := x.length) (k := k) (by simp) (by simpa using hk)
  rw [if_pos hk] at hg
  have h0 : (List.replicate x.length (0 : Int)).getD k 0 = 0 := by simp [List.getD, hk]
  rw [h0] at hg
  exact hg
theorem wtOk_of {n : Int} {x : List Int} (hl : (x.length : Int) = n) (hb : ∀ k, k < x.length → -1000 ≤ x.getD k 0 ∧ x.getD k 0 ≤ 1000) : wtOk n x = true := by
  have h2 : (x.any fun y => !(inB y (-1000) 1000)) = false := by
    rw [List.any_eq_false]
    intro y hy
    obtain ⟨k, hk, rfl⟩ := List.mem_iff_getElem.1 hy
    have h := hb k hk
    have e : x.getD k 0 = x[k] := by simp [List.getD, hk]
    rw [e] at h
    simp [inB, h.1, h.2]
  rw [wtOk, h2, beq_iff_eq.2 hl]
  rfl
def rtB (L : List (List Int)) (x : List Int) : Bool := L.contains x || L.contains (mnF x)
def isRt (n : Int) (d x : List Int) : Bool := (tyS n d).isSome && fdB n (rKvs n d) x
theorem RtOk.in1 {n : Int} {d : List Int} (h : RtOk n d) {x : List Int} (hx : (rSt n d).contains x = true) : wtOk n x = true := by
  rw [List.contains_iff_mem] at hx
  obtain ⟨h1, h2⟩ := h.smem hx
  have hlo := h.lo
  exact wtOk_of (by omega) fun k _ => by have := h2 k; omega
theorem RtOk.in2 {n : Int} {d : List Int} (h : RtOk n d) {x : List Int} (h64 : All64 x) (hx : (rSt n d).contains (ngF x) = true) : wtOk n x = true := by
  rw [List.contains_iff_mem] at hx
  obtain ⟨h1, h2⟩ := h.smem hx
  have hlo := h.lo
  rw [ngF_len] at h1
  refine wtOk_of (by omega) fun k hk => ?_
  have h3 := h2 k
  obtain ⟨h5, h6⟩ := h64.get hk
  rw [ngF_get hk, IntKind.wrap_i64, IntKind.wrap_i64] at h3
  omega
theorem wt_minus {n : Int} {x : List Int} (h : wtOk n x = true) : ngF x = mnF x := lp_minus (wtOk_ent h)
theorem RtOk.fd {n : Int} {d : List Int} (h : RtOk n d) (x : List Int) : fdB n (rKvs n d) x = (decide ((x.length : Int) = n) && ((rSt n d).contains x || (rSt n d).contains (ngF x))) := by
  rw [fdB, h.look, h.look, plO_some, plO_some]
theorem RtOk.rt {n : Int} {d : List Int} (h : RtOk n d) {x : List Int} (h64 : All64 x) : fdB n (rKvs n d) x = (wtOk n x && rtB (rSt n d) x) := by
  rw [h.fd]
  cases hw : wtOk n x with
  | true => rw [decide_eq_true (wtOk_len hw), wt_minus hw]; rfl
  | false =>
    have h1 : (rSt n d).contains x = false := by
      cases e : (rSt n d).contains x with
      | false => rfl
      | true => rw [h.in1 e] at hw; cases hw
    have h2 : (rSt n d).contains (ngF x) = false := by
      cases e : (rSt n d).contains (ngF x) with
      | false => rfl
      | true => rw [h.in2 h64 e] at hw; cases hw
    rw [h1, h2]
    simp
theorem isRt_of {n : Int} {d x : List Int} (h64 : All64 x) : ((tyS n d).isSome && (wtOk n x && rtB (rSt n d) x)) = isRt n d x := by
  unfold isRt
  cases e : (tyS n d).isSome with
  | false => rfl
  | true => rw [(rtOk e).rt h64]
theorem isRt_wt {n : Int} {d x : List Int} (h64 : All64 x) (h : isRt n d x = true) : (tyS n d).isSome = true ∧ wtOk n x = true ∧ rtB (rSt n d) x = true := by
  rw [← isRt_of h64, Bool.and_eq_true, Bool.and_eq_true] at h
  exact h

/-! Where a root stands -/
theorem plF_len {L : List (List Int)} {x : List Int} : plF L x ≤ L.length := by
  unfold plF posF
  split
  · rename_i i h
    have := (List.findIdx?_eq_some_iff_findIdx_eq.1 h).1
    omega
  · omega
def l7I (n : Int) (L : List (List Int)) (x : List Int) : Int := if 0 ≤ plF L x then plF L x else if plF L (mnF x) < 0 then -1 else (L.length : Int) + n + plF L (mnF x)
def riOf (n : Int) (d x : List Int) : Int := if (tyS n d).isSome then fdI n (rSt n d).length (rKvs n d) x else -1
theorem plF_c {L : List (List Int)} {x : List Int} (h : L.contains x = true) : 0 ≤ plF L x := of_decide_eq_true (plF_ge.trans h)
theorem plF_n {L : List (List Int)} {x : List Int} (h : L.contains x = false) : plF L x < 0 := by
  have := of_decide_eq_false (plF_ge.trans h)
  omega
theorem RtOk.fp {n : Int} {d : List Int} (h : RtOk n d) (x : List Int) : 0 ≤ fdP n (rKvs n d) x ∧ fdP n (rKvs n d) x ≤ 30 := by
  have hs := h.slen
  have hf := h.few
  unfold fdP
  rw [h.look, h.look, plO_some]
  have key : ∀ y, 0 ≤ (plO (rSt n d) y).getD 0 ∧ (plO (rSt n d) y).getD 0 ≤ 30 := fun y => by
    unfold plO
    split
    · rename_i hc
      have h1 := plF_c hc
      have h2 := plF_len (L := rSt n d) (x := y)
      simp only [Option.getD_some]
      omega
    · simp
  split
  · omega
  · split
    · exact key x
    · exact key (ngF x)
theorem RtOk.ri {n : Int} {d : List Int} (h : RtOk n d) {x : List Int} (h64 : All64 x) : fdI n (rSt n d).length (rKvs n d) x = if wtOk n x then l7I n (rSt n d) x else -1 := by
  unfold fdI
  rw [h.rt h64]
  cases hw : wtOk n x with
  | false => rfl
  | true =>
    have hl := wtOk_len hw
    have e1 : fdS n (rKvs n d) x = (rSt n d).contains x := by rw [fdS, h.look, plO_some, decide_eq_true hl]; rfl
    have e2 : fdP n (rKvs n d) x = if (rSt n d).contains x then (plO (rSt n d) x).getD 0 else (plO (rSt n d) (mnF x)).getD 0 := by rw [fdP, if_neg (fun e => e hl), h.look, h.look, plO_some, wt_minus hw]
    rw [e1, e2, l7I, rtB]
    cases hc : (rSt n d).contains x with
    | true =>
      have h1 := plF_c hc
      have e3 : plO (rSt n d) x = some (plF (rSt n d) x) := if_pos hc
      simp [e3, h1]
    | false =>
      have h1 := plF_n hc
      rw [if_neg (show ¬ 0 ≤ plF (rSt n d) x by omega)]
      cases hm : (rSt n d).contains (mnF x) with
      | true =>
        have h2 := plF_c hm
        have e3 : plO (rSt n d) (mnF x) = some (plF (rSt n d) (mnF x)) := if_pos hm
        rw [if_neg (show ¬ plF (rSt n d) (mnF x) < 0 by omega)]
        simp [e3]
      | false =>
        have h2 := plF_n hm
        rw [if_pos h2]
        simp
end Go.Proofs.YtmckgdekblphoaaDoor
