/-
  The brackets of a list of matrices; what an algebra of matrices is. No program is spoken of.
-/
import Derived.Test.YtbmnnbglipkidaaAlm
import Derived.Test.YtbmnnbglipkidaaHds
namespace Go.Proofs.Ytbmnnbglipkidaa
set_option linter.unusedVariables false
set_option linter.unusedSimpArgs false
set_option linter.unusedVariables false
set_option linter.unusedSimpArgs false
def maK (hs : List Hd) (ds : List (List Int)) (k : Nat) : Mat := ⟨(hs.getD k hd0).1, (hs.getD k hd0).2.1, (hs.getD k hd0).2.2, ds.getD k []⟩
def aoK (hs : List Hd) (ds : List (List Int)) (k : Nat) : Bool := matOkB (maK hs ds k) && ((maK hs ds k).r == (maK hs ds k).c && ((maK hs ds k).r == (maK hs ds 0).r && (maK hs ds k).p == (maK hs ds 0).p))
def aoB (hs : List Hd) (ds : List (List Int)) : Bool := decide (1 ≤ hs.length ∧ hs.length ≤ 28) && (List.range hs.length).all (aoK hs ds)
def brK (hs : List Hd) (ds : List (List Int)) (i j : Nat) : List Int := (commF (maK hs ds i) (maK hs ds j)).d
def brR (hs : List Hd) (ds : List (List Int)) (i j : Nat) : List (List Int) := (List.range j).map (brK hs ds i)
def brL (hs : List Hd) (ds : List (List Int)) (i j : Nat) : List (List Int) := ((List.range i).map fun a => brR hs ds a hs.length).flatten ++ brR hs ds i j
def brA (hs : List Hd) (ds : List (List Int)) : List (List Int) := ((List.range hs.length).map fun a => brR hs ds a hs.length).flatten
section
variable {hs : List Hd} {ds : List (List Int)} {i j k : Nat}
theorem brL_next : brL hs ds i (j + 1) = brL hs ds i j ++ [brK hs ds i j] := by
  simp [brL, brR, List.range_succ]
theorem brL_row (h : j = hs.length) : brL hs ds i j = brL hs ds (i + 1) 0 := by
  subst h
  simp [brL, brR, List.range_succ]
theorem brL_end (h : i = hs.length) : brL hs ds i 0 = brA hs ds := by
  subst h
  simp [brL, brR, brA]
theorem flat_getL {α : Type} {d : α} {C : Nat} : ∀ (L : List (List α)), (∀ x, x ∈ L → x.length = C) → ∀ i j, j < C → L.flatten.getD (i * C + j) d = (L.getD i []).getD j d
  | [], _, i, j, _ => by simp [List.getD]
  | x :: t, h, 0, j, hj => by
    have hx := h x (List.mem_cons_self ..)
    simp only [List.flatten_cons, Nat.zero_mul, Nat.zero_add, List.getD_cons_zero, List.getD]
    rw [List.getElem?_append_left (by omega)]
    simp
  | x :: t, h, i + 1, j, hj => by
    have hx := h x (List.mem_cons_self ..)
    have ih := flat_getL (d := d) t (fun y hy => h y (List.mem_cons_of_mem _ hy)) i j hj
    have e : (i + 1) * C + j = x.length + (i * C + j) := by rw [hx, Nat.add_mul, Nat.one_mul]; omega
    simp only [List.getD] at ih
    simp only [List.flatten_cons, List.getD_cons_succ, List.getD]
    rw [e, List.getElem?_append_right (by omega), Nat.add_sub_cancel_left, ih]
    simp [List.getD]
theorem flat_lenL {α : Type} {C : Nat} : ∀ (L : List (List α)), (∀ x, x ∈ L → x.length = C) → L.flatten.length = L.length * C
  | [], _ => by simp
  | x :: t, h => by
    rw [List.flatten_cons, List.length_append, flat_lenL t (fun y hy => h y (List.mem_cons_of_mem _ hy)), h x (List.mem_cons_self ..), List.length_cons, Nat.add_mul, Nat.one_mul, Nat.add_comm]
theorem brR_len : (brR hs ds i j).length = j := by simp [brR]
theorem brA_rows : ∀ x, x ∈ (List.range hs.length).map (fun a => brR hs ds a hs.length) → x.length = hs.length := fun x hx => by
  obtain ⟨a, _, rfl⟩ := List.mem_map.1 hx
  exact brR_len
theorem brA_len : (brA hs ds).length = hs.length * hs.length := by
  rw [brA, flat_lenL _ brA_rows]
  simp
theorem brA_at (hi : i < hs.length) (hj : j < hs.length) : (brA hs ds).getD (i * hs.length + j) [] = brK hs ds i j := by
  rw [brA, flat_getL _ brA_rows i j hj]
  simp [List.getD, brR, hi, hj]
theorem brL_len (hi : i ≤ hs.length) (hj : j ≤ hs.length) : (brL hs ds i j).length = i * hs.length + j := by
  rw [brL, List.length_append, flat_lenL (C := hs.length) _ (fun x hx => by
    obtain ⟨a, _, rfl⟩ := List.mem_map.1 hx
    exact brR_len), brR_len]
  simp
structure AoI (hs : List Hd) (ds : List (List Int)) (n m : Nat) (p r : Int) : Prop where
  hn : hs.length = n
  n1 : 1 ≤ n ∧ n ≤ 28
  hp : primeB p = true
  hr : 0 ≤ r ∧ r ≤ 40
  hm : (m : Int) = r * r
  ok : ∀ k, k < n → matOkB (maK hs ds k) = true
  ep : ∀ k, k < n → (maK hs ds k).p = p
  er : ∀ k, k < n → (maK hs ds k).r = r
  ec : ∀ k, k < n → (maK hs ds k).c = r
  el : ∀ k, k < n → (ds.getD k []).length = m
theorem aoB_I (h : aoB hs ds = true) : AoI hs ds hs.length (ds.getD 0 []).length (hs.getD 0 hd0).1 (hs.getD 0 hd0).2.1 := by
  simp only [aoB, Bool.and_eq_true, decide_eq_true_eq, List.all_eq_true, List.mem_range, aoK, beq_iff_eq] at h
  obtain ⟨h1, h2⟩ := h
  obtain ⟨o1, o2, o3, o4⟩ := h2 0 (by omega)
  have hd := matOk_dim o1
  have h3 := matOk_three o1
  have e0 : ((ds.getD 0 []).length : Int) = (hs.getD 0 hd0).2.1 * (hs.getD 0 hd0).2.1 := hd.2.2.1.trans (by rw [← o2]; rfl)
  refine ⟨rfl, h1, h3.1, hd.1, e0, fun k hk => (h2 k hk).1, fun k hk => (h2 k hk).2.2.2, fun k hk => (h2 k hk).2.2.1, fun k hk => (h2 k hk).2.1.symm.trans (h2 k hk).2.2.1, fun k hk => ?_⟩
  obtain ⟨q1, q2, q3, q4⟩ := h2 k hk
  have hdk := matOk_dim q1
  have e1 : ((ds.getD k []).length : Int) = (hs.getD 0 hd0).2.1 * (hs.getD 0 hd0).2.1 := hdk.2.2.1.trans (by rw [← q2, q3]; rfl)
  omega
variable {n m : Nat} {p r : Int}
theorem AoI.m16 (h : AoI hs ds n m p r) : m ≤ 1600 := by
  have h1 := mulBd (A := 40) (B := 40) h.hr h.hr
  have h2 := h.hm
  omega
theorem AoI.rg (h : AoI hs ds n m p r) (hk : k < n) : Rg p (ds.getD k []) := by
  have h1 := matOk_rg (h.ok k hk)
  rw [h.ep k hk] at h1
  exact h1
theorem AoI.rows (h : AoI hs ds n m p r) (hd : ds.length = hs.length) : RwI p n m ds := by
  have hp2 := primeB_range h.hp
  refine ⟨hd.trans h.hn, fun i hi => h.el i hi, fun i j => ?_⟩
  by_cases hi : i < n
  · exact h.rg hi j
  · rw [at2_out (by rw [hd, h.hn]; omega)]
    omega
theorem AoI.comm (h : AoI hs ds n m p r) (hi : i < n) (hj : j < n) : commOk (maK hs ds i) (maK hs ds j) = true ∧ brK hs ds i j = addF (p - 1) p (mulF p r r r (ds.getD i []) (ds.getD j [])) (mulF p r r r (ds.getD j []) (ds.getD i [])) := by
  have hc : commOk (maK hs ds i) (maK hs ds j) = true := commOk_t (h.ok i hi) (h.ok j hj) ((h.ep i hi).trans (h.ep j hj).symm) ((h.er i hi).trans (h.ec i hi).symm) ((h.er j hj).trans (h.er i hi).symm) ((h.ec j hj).trans (h.ec i hi).symm)
  refine ⟨hc, ?_⟩
  rw [brK, commF, if_pos hc]
  simp only [h.ep i hi, h.ep j hj, h.er i hi, h.er j hj, h.ec i hi, h.ec j hj]
  rfl
theorem AoI.mul (h : AoI hs ds n m p r) (i j : Nat) (hi : i < n) (hj : j < n) : (mulF p r r r (ds.getD i []) (ds.getD j [])).length = m ∧ Rg p (mulF p r r r (ds.getD i []) (ds.getD j [])) := by
  have hp2 := primeB_range h.hp
  have h2 := h.hm
  refine ⟨by rw [mulF_len]; omega, mulF_rg ⟨by omega, by omega⟩ (h.rg hi) (h.rg hj)⟩
theorem AoI.at_ (h : AoI hs ds n m p r) (hi : i < n) (hj : j < n) : ∀ k, k < m → (brK hs ds i j).getD k 0 = ((mulF p r r r (ds.getD i []) (ds.getD j [])).getD k 0 + (p - 1) * (mulF p r r r (ds.getD j []) (ds.getD i [])).getD k 0) % p := fun k hk => by
  rw [(h.comm hi hj).2, addF_at (by rw [(h.mul i j hi hj).1, (h.mul j i hj hi).1]) (by rw [(h.mul i j hi hj).1]; exact hk)]
theorem AoI.len (h : AoI hs ds n m p r) (hi : i < n) (hj : j < n) : (brK hs ds i j).length = m := by
  rw [(h.comm hi hj).2, addF_len, (h.mul i j hi hj).1]
theorem AoI.brg (h : AoI hs ds n m p r) (hi : i < n) (hj : j < n) : Rg p (brK hs ds i j) := by
  have hp2 := primeB_range h.hp
  rw [(h.comm hi hj).2]
  exact addF_rg (by omega) (h.mul i j hi hj).2
theorem AoI.br (h : AoI hs ds n m p r) : BrI p m n (brA hs ds) := by
  have hn := h.hn
  refine ⟨by rw [brA_len, hn], fun i j hi hj => ?_, fun i j hi hj => ?_, fun i hi k hk => ?_, fun i j hi hj k hk => ?_⟩
  · rw [← hn, brA_at (by omega) (by omega)]; exact h.len hi hj
  · rw [← hn, brA_at (by omega) (by omega)]; exact h.brg hi hj
  · rw [← hn, brA_at (by omega) (by omega), h.at_ hi hi k hk]
    refine (cg.emod _).trans ⟨(mulF p r r r (ds.getD i []) (ds.getD i [])).getD k 0, ?_⟩
    rw [Int.sub_mul, Int.one_mul]
    omega
  · rw [← hn, brA_at (by omega) (by omega), brA_at (by omega) (by omega), h.at_ hj hi k hk, h.at_ hi hj k hk]
    generalize (mulF p r r r (ds.getD i []) (ds.getD j [])).getD k 0 = x
    generalize (mulF p r r r (ds.getD j []) (ds.getD i [])).getD k 0 = y
    refine (cg.emod _).trans (cg.trans ?_ (cg.emod (x + (p - 1) * y)).symm.neg)
    refine ⟨x + y, ?_⟩
    rw [Int.sub_mul, Int.sub_mul, Int.one_mul, Int.one_mul, Int.mul_add]
    omega
end
def alOk (hs : List Hd) (ds : List (List Int)) : Bool := aoB hs ds && (frB (hs.getD 0 hd0).1 (ds.getD 0 []).length ds && tbB (hs.getD 0 hd0).1 (ds.getD 0 []).length ds (brA hs ds))
def alP (hs : List Hd) (ds : List (List Int)) : Int := if alOk hs ds then (hs.getD 0 hd0).1 else 0
def alN (hs : List Hd) (ds : List (List Int)) : Int := if alOk hs ds then (hs.length : Nat) else 0
def alD (hs : List Hd) (ds : List (List Int)) : List Int := if alOk hs ds then tbD (hs.getD 0 hd0).1 (ds.getD 0 []).length ds (brA hs ds) else []
theorem alD_len (hs : List Hd) (ds : List (List Int)) (hd : ds.length = hs.length) : (alD hs ds).length ≤ 21952 := by
  unfold alD
  split
  · rename_i h
    have h1 := aoB_I (Bool.and_eq_true .. ▸ h : aoB hs ds = true ∧ _).1
    rw [tbD, flat_lenC (C := ds.length) _ (fun x hx => by
      obtain ⟨y, _, rfl⟩ := List.mem_map.1 hx
      rw [slV, slX_len]), List.length_map, brA_len, hd]
    have h2 := h1.n1.2
    have h3 := Nat.mul_le_mul (Nat.mul_le_mul h2 h2) h2
    omega
  · simp
end Go.Proofs.Ytbmnnbglipkidaa
