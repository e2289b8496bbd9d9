/-
  Orbits of weights: found one from another; put in descending order; what both texts do, in plain words. No program is spoken of.
-/
import Derived.Test.YtgelkakjmbiibaaGreatDoorNewA
namespace Go.Proofs.YtgelkakjmbiibaaGreatDoor
set_option linter.unusedVariables false
set_option linter.unusedSimpArgs false
open Go.RowKit
def oOne (n : Int) (d w : List Int) (L : List (List Int)) (i : Nat) : List (List Int) := if L.contains (rfF n d (i : Int) w) then L else L ++ [rfF n d (i : Int) w]
def oAdd (n : Int) (d w : List Int) (L : List (List Int)) : List (List Int) := (List.range n.toNat).foldl (oOne n d w) L
def oC (n : Int) (d : List Int) : Nat → List (List Int) → Nat → List (List Int)
  | 0, L, _ => L
  | f + 1, L, k => if k < L.length ∧ L.length ≤ 1200 then oC n d f (oAdd n d (L.getD k []) L) (k + 1) else L
def oAll (n : Int) (d w : List Int) : List (List Int) := oC n d 1300 [w] 0
theorem oOne_pre {n : Int} {d w : List Int} {L : List (List Int)} {i : Nat} : Pre L (oOne n d w L i) := by
  unfold oOne
  split
  · exact Pre.refl _
  · exact ⟨_, rfl⟩
theorem oIn_pre {n : Int} {d w : List Int} {L : List (List Int)} {i : Nat} : ∀ {m : Nat}, i ≤ m → Pre ((List.range i).foldl (oOne n d w) L) ((List.range m).foldl (oOne n d w) L)
  | 0, h => by
    have : i = 0 := by omega
    subst this
    exact Pre.refl _
  | m + 1, h => by
    by_cases e : i = m + 1
    · subst e
      exact Pre.refl _
    · rw [foldl_succ]
      exact (oIn_pre (by omega)).trans oOne_pre
theorem oC_pre {n : Int} {d : List Int} : ∀ {f : Nat} {L : List (List Int)} {k : Nat}, Pre L (oC n d f L k)
  | 0, L, k => Pre.refl _
  | f + 1, L, k => by
    rw [oC]
    split
    · exact (oIn_pre (i := 0) (Nat.zero_le _)).trans oC_pre
    · exact Pre.refl _
theorem oC_stop {n : Int} {d : List Int} {f : Nat} {L : List (List Int)} {k : Nat} (h : ¬ (k < L.length ∧ L.length ≤ 1200)) : oC n d f L k = L := by
  cases f with
  | zero => rfl
  | succ f => rw [oC, if_neg h]
theorem oC_go {n : Int} {d : List Int} {L : List (List Int)} {k : Nat} (hk : k < L.length) (hl : L.length ≤ 1200) : oC n d (1300 - k) L k = oC n d (1300 - (k + 1)) (oAdd n d (L.getD k []) L) (k + 1) := by
  rw [show 1300 - k = (1300 - (k + 1)) + 1 by omega, oC, if_pos ⟨hk, hl⟩]
theorem oOne_nod {n : Int} {d w : List Int} {L : List (List Int)} {i : Nat} (h : L.Nodup) : (oOne n d w L i).Nodup := by
  unfold oOne
  split
  · exact h
  · rename_i hc
    refine List.nodup_append.2 ⟨h, by simp, fun a ha b hb => ?_⟩
    rw [List.mem_singleton] at hb
    subst hb
    intro e
    subst e
    exact hc (List.contains_iff_mem.2 ha)
theorem oIn_nod {n : Int} {d w : List Int} {L : List (List Int)} (h : L.Nodup) : ∀ m : Nat, ((List.range m).foldl (oOne n d w) L).Nodup
  | 0 => h
  | m + 1 => by
    rw [foldl_succ]
    exact oOne_nod (oIn_nod h m)
theorem oC_nod {n : Int} {d : List Int} : ∀ {f : Nat} {L : List (List Int)} {k : Nat}, L.Nodup → (oC n d f L k).Nodup
  | 0, L, k, h => h
  | f + 1, L, k, h => by
    rw [oC]
    split
    · exact oC_nod (oIn_nod h _)
    · exact h
theorem oAll_nod (n : Int) (d w : List Int) : (oAll n d w).Nodup := oC_nod (by simp)
theorem oOne_len {n : Int} {d w : List Int} {L : List (List Int)} {i : Nat} : (oOne n d w L i).length ≤ L.length + 1 := by
  unfold oOne
  split
  · omega
  · simp
theorem oIn_len {n : Int} {d w : List Int} {L : List (List Int)} : ∀ m : Nat, ((List.range m).foldl (oOne n d w) L).length ≤ L.length + m
  | 0 => Nat.le_refl _
  | m + 1 => by
    rw [foldl_succ]
    have h1 := oOne_len (n := n) (d := d) (w := w) (L := (List.range m).foldl (oOne n d w) L) (i := m)
    have h2 := oIn_len (n := n) (d := d) (w := w) (L := L) m
    omega
theorem oC_len {n : Int} {d : List Int} : ∀ {f : Nat} {L : List (List Int)} {k : Nat}, L.length ≤ 1200 + n.toNat → (oC n d f L k).length ≤ 1200 + n.toNat
  | 0, L, k, h => h
  | f + 1, L, k, h => by
    rw [oC]
    split
    · rename_i hk
      refine oC_len ?_
      have := oIn_len (n := n) (d := d) (w := L.getD k []) (L := L) n.toNat
      unfold oAdd
      omega
    · exact h
theorem oAll_len (n : Int) (d w : List Int) : (oAll n d w).length ≤ 1200 + n.toNat := oC_len (by simp only [List.length_singleton]; omega)
theorem oOne_yes {n : Int} {d w y : List Int} {L : List (List Int)} {i : Nat} (e : y = rfF n d (i : Int) w) (h : L.contains y = false) : L ++ [y] = oOne n d w L i := by
  rw [oOne, ← e, h]
  rfl
theorem oOne_no {n : Int} {d w y : List Int} {L : List (List Int)} {i : Nat} (e : y = rfF n d (i : Int) w) (h : L.contains y = true) : L = oOne n d w L i := by
  rw [oOne, ← e, h]
  rfl
def seenT (L : List (List Int)) : List (List Int × Bool) := L.map fun x => (x, true)
theorem alu_seen (x : List Int) : ∀ L : List (List Int), (alu x (seenT L)).getD false = L.contains x
  | [] => rfl
  | y :: t => by
    have ih := alu_seen x t
    rw [seenT, List.map_cons, alu, List.contains_cons]
    by_cases h : x = y
    · rw [if_pos h]
      simp [h]
    · rw [if_neg h]
      rw [seenT] at ih
      rw [ih]
      simp [h]
theorem aup_seen {y : List Int} : ∀ {L : List (List Int)}, L.contains y = false → aup y true (seenT L) = seenT (L ++ [y])
  | [], _ => rfl
  | x :: t, h => by
    rw [List.contains_cons, Bool.or_eq_false_iff] at h
    have ih := aup_seen (y := y) (L := t) h.2
    have hn : ¬ y = x := fun e => by
      have := h.1
      rw [e] at this
      simp at this
    rw [List.cons_append, seenT, List.map_cons, aup, if_neg hn]
    rw [seenT] at ih
    rw [ih]
    rfl
theorem abv_iff {x y : List Int} : abvL x y = true ↔ 0 < cmpL x y := by
  have h := cmp_abv x y
  cases e : abvL x y with
  | true =>
    rw [e] at h
    have := of_decide_eq_false h
    exact ⟨fun _ => by omega, fun _ => rfl⟩
  | false =>
    rw [e] at h
    have := of_decide_eq_true h
    exact ⟨fun hh => absurd hh Bool.false_ne_true, fun _ => by omega⟩
theorem abv_trans {x y z : List Int} (h : abvL x y = true) (k : abvL y z = true) : abvL x z = true := by
  rw [abv_iff] at *
  have h1 := cmpL_neg x y
  have h2 := cmpL_neg y z
  have h3 := cmpL_neg x z
  have := cmpL_trans (x := z) (y := y) (z := x) (by omega) (by omega)
  omega
def insA (x : List Int) : List (List Int) → Nat
  | [] => 0
  | y :: t => if abvL y x then insA x t + 1 else 0
def insD (ys : List (List Int)) (x : List Int) : List (List Int) := ys.take (insA x ys) ++ [x] ++ ys.drop (insA x ys)
def Desc (ys : List (List Int)) : Prop := ys.Pairwise fun a b => abvL a b = true
theorem insD_cons (y x : List Int) (t : List (List Int)) : insD (y :: t) x = if abvL y x then y :: insD t x else x :: y :: t := by
  unfold insD
  rw [insA]
  split
  · simp
  · simp
theorem insD_perm (x : List Int) : ∀ ys : List (List Int), (insD ys x).Perm (x :: ys)
  | [] => by simp [insD]
  | y :: t => by
    rw [insD_cons]
    split
    · exact ((insD_perm x t).cons y).trans (List.Perm.swap _ _ _)
    · exact List.Perm.refl _
theorem insD_desc {x : List Int} : ∀ {ys : List (List Int)}, Desc ys → ys.contains x = false → Desc (insD ys x)
  | [], _, _ => by simp [insD, Desc]
  | y :: t, h, hc => by
    rw [List.contains_cons, Bool.or_eq_false_iff] at hc
    have hd := List.pairwise_cons.1 h
    rw [insD_cons]
    split
    · rename_i ha
      refine List.pairwise_cons.2 ⟨fun z hz => ?_, insD_desc hd.2 hc.2⟩
      rcases List.mem_cons.1 ((insD_perm x t).mem_iff.1 hz) with rfl | hz
      · exact ha
      · exact hd.1 z hz
    · rename_i ha
      have hne : x ≠ y := fun e => by
        have := hc.1
        rw [e] at this
        simp at this
      have hxy : abvL x y = true := by
        rw [abv_iff] at ha ⊢
        have h1 := cmpL_neg x y
        have h2 : cmpL x y ≠ 0 := fun e => hne (cmpL_zero e)
        omega
      refine List.pairwise_cons.2 ⟨fun z hz => ?_, h⟩
      rcases List.mem_cons.1 hz with rfl | hz
      · exact hxy
      · exact abv_trans hxy (hd.1 z hz)
end Go.Proofs.YtgelkakjmbiibaaGreatDoor

namespace Go.Proofs.YtgelkakjmbiibaaGreatDoor
set_option linter.unusedVariables false
set_option linter.unusedSimpArgs false
open Go.RowKit
theorem rfF_all64 {n i : Int} {d w : List Int} (h : All64 w) : All64 (rfF n d i w) := fold_all64 (g := fun k (o : List Int) => IntKind.i64.wrap (o.getD k 0 - IntKind.i64.wrap (w.getD i.toNat 0 * atI n d k i))) (fun k o => wrap_I64 _) _ _ h
theorem getD_mem {L : List (List Int)} {k : Nat} (hk : k < L.length) : L.getD k [] ∈ L := by
  have e : L.getD k [] = L[k] := by simp [List.getD, hk]
  rw [e]
  exact List.getElem_mem hk
theorem oC_in {n : Int} {d w : List Int} {gs hs : List (List Int)} {k i : Nat} (hoc : oC n d (1300 - k) gs k = oAll n d w) (hk : k < gs.length) (hl : gs.length ≤ 1200) (hi : i ≤ n.toNat) (hhs : hs = (List.range i).foldl (oOne n d (gs.getD k [])) gs) : Pre hs (oAll n d w) ∧ Pre gs hs := by
  rw [oC_go hk hl] at hoc
  rw [← hoc, hhs]
  exact ⟨(oIn_pre hi).trans oC_pre, oIn_pre (i := 0) (Nat.zero_le _)⟩
section
variable {P : Program} {n : Nat} {env : List (Nat × Value)} {W : World} {own : List Asn}
theorem OD.insertM {o : Oper} {α β : Type} [DecidableEq α] {kE : α → Value} {vE : β → Value} {t kt e g i : Nat} {x y : Operand} {l : List (α × β)} {k : α} {u : Operand} {b : β} (hop : o.op = .insert t x y u) (ht : P.underlying t = some (.map kt e)) (K : KeyE P kt kE) (hx : ev env x = some (.map (some g))) (hy : ev env y = some (kE k)) (hu : ev env u = some (vE b)) (hi : own[i]? = some (mapA kE vE g l)) : OD P o n env W own undef (own.set i (mapA kE vE g (aup k b l))) := fun a w next Q hf hs hk => by
  have hr : (execOp a.eval o).run P w = .ok .skip { w with heap := w.heap.setIfInBounds g (.map (mEnt kE vE 0 (aup k b l)).toArray (aup k b l).length) } := by
    simp [execOp, hop, hf.ev hx, hf.ev hy, hf.ev hu, run_upd ht K (hs.map hi) b]
  unfold Oper.wp
  rw [hr]
  exact hk _ _ _ ⟨rfl, rfl⟩ (map_turn hs hi _ rfl)
end
end Go.Proofs.YtgelkakjmbiibaaGreatDoor

namespace Go.Proofs.YtgelkakjmbiibaaGreatDoor
set_option linter.unusedVariables false
set_option linter.unusedSimpArgs false
theorem dotN_comm (c w : Nat → Int) : ∀ m : Nat, dotN c w m = dotN w c m
  | 0 => rfl
  | m + 1 => by rw [dotN, dotN, dotN_comm c w m, Int.mul_comm]
def rp (n : Int) (d : List Int) (i : Nat) (w : List Int) : List Int := (List.range n.toNat).map fun (k : Nat) => w.getD k 0 - w.getD i 0 * atI n d k i
def coS (n : Int) (d b : List Int) (i : Nat) : List Int := b.set i (b.getD i 0 - dotN (fun k => atI n d k i) (b.getD · 0) n.toNat)
def prW (n : Int) (w b : List Int) : Int := dotN (w.getD · 0) (b.getD · 0) n.toNat
theorem rp_len (n : Int) (d : List Int) (i : Nat) (w : List Int) : (rp n d i w).length = n.toNat := by simp [rp]
theorem rp_get {n : Int} {d w : List Int} {i k : Nat} (hk : k < n.toNat) : (rp n d i w).getD k 0 = w.getD k 0 - w.getD i 0 * atI n d k i := by simp [rp, List.getD, hk]
theorem prW_rp {n : Int} {d w b : List Int} {i : Nat} (hi : i < n.toNat) (hb : b.length = n.toNat) : prW n (rp n d i w) b = prW n w (coS n d b i) := by
  have h1 : prW n (rp n d i w) b = dotN (b.getD · 0) (fun k => w.getD k 0 - w.getD i 0 * atI n d k i) n.toNat := by
    rw [prW, dotN_comm]
    exact dotN_congr fun k hk => ⟨rfl, rp_get hk⟩
  have h2 : prW n w (coS n d b i) = dotN (fun k => if k = i then b.getD k 0 - dotN (fun k => atI n d k i) (b.getD · 0) n.toNat else b.getD k 0) (w.getD · 0) n.toNat := by
    rw [prW, dotN_comm]
    refine dotN_congr fun k hk => ⟨?_, rfl⟩
    by_cases e : k = i
    · subst e
      rw [if_pos rfl, coS, set_getD_eq (by omega)]
    · rw [if_neg e, coS, set_getD_ne fun h => e h.symm]
  rw [h1, h2, dotN_sub, dotN_upd, if_pos hi, dotN_comm (fun k => atI n d k i) (b.getD · 0)]
  have e := Int.mul_comm (w.getD i 0) (dotN (b.getD · 0) (fun k => atI n d k i) n.toNat)
  omega
theorem prW_unit {n : Int} {w : List Int} {i : Nat} (hi : i < n.toNat) : prW n w (unitL n.toNat i) = w.getD i 0 := by
  have h : prW n w (unitL n.toNat i) = dotN (fun k => if k = i then 1 else 0) (w.getD · 0) n.toNat := by
    rw [prW, dotN_comm]
    exact dotN_congr fun k hk => ⟨unitL_get hk, rfl⟩
  rw [h, dotN_unit, if_pos hi]
structure CoOk (n : Int) (d : List Int) (R : List (List Int)) : Prop where
  len : ∀ b ∈ R, b.length = n.toNat
  ge : ∀ b ∈ R, ∀ k, 0 ≤ b.getD k 0
  nz : ∀ b ∈ R, ∃ k, k < n.toNat ∧ 1 ≤ b.getD k 0
  few : R.length ≤ 24
  unit : ∀ i, i < n.toNat → unitL n.toNat i ∈ R
  perm : ∀ i, i < n.toNat → ((R.erase (unitL n.toNat i)).map fun b => coS n d b i).Perm (R.erase (unitL n.toNat i))
  two : ∀ i : Nat, i < n.toNat → atI n d i i = 2
def lnW (n : Int) (R : List (List Int)) (w : List Int) : Nat := R.countP fun b => decide (prW n w b < 0)
def regW (n : Int) (R : List (List Int)) (w : List Int) : Prop := ∀ b ∈ R, prW n w b ≠ 0
def smW (n : Int) (R : List (List Int)) (w : List Int) : Nat := (R.map fun b => (prW n w b).natAbs).sum
section
variable {n : Int} {d : List Int} {R : List (List Int)}
theorem CoOk.rest (h : CoOk n d R) {i : Nat} (hi : i < n.toNat) : R.Perm (unitL n.toNat i :: R.erase (unitL n.toNat i)) := List.perm_cons_erase (h.unit i hi)
theorem CoOk.self (h : CoOk n d R) {i : Nat} (hi : i < n.toNat) (w : List Int) : prW n (rp n d i w) (unitL n.toNat i) = -(w.getD i 0) := by
  rw [prW_unit hi, rp_get hi, h.two i hi]
  omega
theorem CoOk.other (h : CoOk n d R) {i : Nat} (hi : i < n.toNat) (w : List Int) {α : Type} (f : Int → α) : ((R.erase (unitL n.toNat i)).map fun b => f (prW n (rp n d i w) b)).Perm ((R.erase (unitL n.toNat i)).map fun b => f (prW n w b)) := by
  have h1 := (h.perm i hi).map fun b => f (prW n w b)
  rw [List.map_map] at h1
  refine List.Perm.trans (List.Perm.of_eq ?_) h1
  refine List.map_congr_left fun b hb => ?_
  show f _ = f _
  rw [prW_rp hi (h.len b (List.mem_of_mem_erase hb))]
theorem countP_map' {α : Type} (p : α → Bool) (l : List α) : l.countP p = ((l.map p).countP id) := by rw [List.countP_map]; rfl
theorem CoOk.ln (h : CoOk n d R) {i : Nat} (hi : i < n.toNat) (w : List Int) (h0 : w.getD i 0 ≠ 0) : (0 < w.getD i 0 → lnW n R (rp n d i w) = lnW n R w + 1) ∧ (w.getD i 0 < 0 → lnW n R w = lnW n R (rp n d i w) + 1) := by
  have e1 : ∀ v, lnW n R v = (R.erase (unitL n.toNat i)).countP (fun b => decide (prW n v b < 0)) + if prW n v (unitL n.toNat i) < 0 then 1 else 0 := fun v => by
    rw [lnW, (h.rest hi).countP_eq, List.countP_cons]
    simp
  have e2 : (R.erase (unitL n.toNat i)).countP (fun b => decide (prW n (rp n d i w) b < 0)) = (R.erase (unitL n.toNat i)).countP (fun b => decide (prW n w b < 0)) := by
    rw [countP_map' (fun b => decide (prW n (rp n d i w) b < 0)), countP_map' (fun b => decide (prW n w b < 0))]
    exact (h.other hi w fun z => decide (z < 0)).countP_eq id
  rw [e1 w, e1 (rp n d i w), e2, h.self hi, prW_unit hi]
  constructor
  · intro hp
    rw [if_pos (by omega), if_neg (by omega)]
  · intro hp
    rw [if_pos hp, if_neg (by omega)]
theorem CoOk.reg (h : CoOk n d R) {i : Nat} (hi : i < n.toNat) {w : List Int} (hw : regW n R w) : regW n R (rp n d i w) := fun b hb => by
  rcases List.mem_cons.1 ((h.rest hi).mem_iff.1 hb) with rfl | hb2
  · rw [h.self hi]
    have := hw _ hb
    rw [prW_unit hi] at this
    omega
  · have h1 := (h.other hi w fun z => z).mem_iff.1 (List.mem_map_of_mem hb2)
    obtain ⟨c, hc, e⟩ := List.mem_map.1 h1
    rw [← e]
    exact hw c (List.mem_of_mem_erase hc)
theorem CoOk.sm (h : CoOk n d R) {i : Nat} (hi : i < n.toNat) (w : List Int) : smW n R (rp n d i w) = smW n R w := by
  have e1 : ∀ v, smW n R v = (prW n v (unitL n.toNat i)).natAbs + ((R.erase (unitL n.toNat i)).map fun b => (prW n v b).natAbs).sum := fun v => by
    rw [smW, ((h.rest hi).map _).sum_nat, List.map_cons, List.sum_cons]
  rw [e1, e1, h.self hi, prW_unit hi, (h.other hi w fun z => z.natAbs).sum_nat, Int.natAbs_neg]
end
inductive Reach (n : Int) (d : List Int) : List Int → Prop
  | one : Reach n d (ones n 1)
  | step {w : List Int} {i : Nat} : Reach n d w → i < n.toNat → Reach n d (rp n d i w)
theorem ones_get {n : Int} {k : Nat} (hk : k < n.toNat) : (ones n 1).getD k 0 = 1 := by simp [ones, List.getD, hk]
theorem dotN_pos {c w : Nat → Int} : ∀ {m : Nat}, (∀ k, k < m → 0 ≤ c k ∧ 0 ≤ w k) → 0 ≤ dotN c w m
  | 0, _ => by simp [dotN]
  | m + 1, h => by
    have h1 := dotN_pos (m := m) fun k hk => h k (by omega)
    have h2 := Int.mul_nonneg (h m (by omega)).1 (h m (by omega)).2
    rw [dotN]
    omega
theorem dotN_gt {c w : Nat → Int} {j : Nat} : ∀ {m : Nat}, (∀ k, k < m → 0 ≤ c k ∧ 0 ≤ w k) → j < m → 1 ≤ c j → 1 ≤ w j → 1 ≤ dotN c w m
  | 0, _, hj, _, _ => by omega
  | m + 1, h, hj, hc, hw => by
    have h1 := dotN_pos (m := m) fun k hk => h k (by omega)
    have h2 := Int.mul_nonneg (h m (by omega)).1 (h m (by omega)).2
    rw [dotN]
    by_cases e : j = m
    · subst e
      have h3 := Int.mul_nonneg (show 0 ≤ c j - 1 by omega) (show 0 ≤ w j - 1 by omega)
      simp only [Int.sub_mul, Int.mul_sub] at h3
      omega
    · have := dotN_gt (m := m) (fun k hk => h k (by omega)) (by omega) hc hw
      omega
theorem dotN_mono {c v w : Nat → Int} : ∀ {m : Nat}, (∀ k, k < m → 0 ≤ c k ∧ v k ≤ w k) → dotN v c m ≤ dotN w c m
  | 0, _ => by simp [dotN]
  | m + 1, h => by
    have h1 := dotN_mono (m := m) fun k hk => h k (by omega)
    have h2 := Int.mul_nonneg (show 0 ≤ w m - v m by have := h m (by omega); omega) (h m (by omega)).1
    rw [Int.sub_mul] at h2
    rw [dotN, dotN]
    omega
section
variable {n : Int} {d : List Int} {R : List (List Int)}
theorem Reach.inv (h : CoOk n d R) {w : List Int} (hr : Reach n d w) : w.length = n.toNat ∧ regW n R w ∧ smW n R w = smW n R (ones n 1) := by
  induction hr with
  | one =>
    refine ⟨ones_len n 1, fun b hb => ?_, rfl⟩
    obtain ⟨k, hk, h1⟩ := h.nz b hb
    have := dotN_gt (c := ((ones n 1).getD · 0)) (w := (b.getD · 0)) (j := k) (m := n.toNat) (fun q hq => ⟨by rw [ones_get hq]; omega, h.ge b hb q⟩) hk (by rw [ones_get hk]; omega) h1
    unfold prW
    omega
  | step _ hi ih => exact ⟨rp_len _ _ _ _, h.reg hi ih.2.1, (h.sm hi _).trans ih.2.2⟩
theorem sum_eq {α : Type} {f g : α → Nat} : ∀ {L : List α}, (∀ x ∈ L, f x ≤ g x) → (L.map g).sum = (L.map f).sum → ∀ x ∈ L, f x = g x
  | [], _, _, x, hx => by simp at hx
  | y :: t, h, e, x, hx => by
    simp only [List.map_cons, List.sum_cons] at e
    have h1 := h y List.mem_cons_self
    have hle : ∀ {M : List α}, (∀ x ∈ M, f x ≤ g x) → (M.map f).sum ≤ (M.map g).sum := by
      intro M
      induction M with
      | nil => intro _; simp
      | cons z M ih =>
        intro hM
        have a := hM z List.mem_cons_self
        have b := ih fun q hq => hM q (List.mem_cons_of_mem _ hq)
        simp only [List.map_cons, List.sum_cons]
        omega
    have h2 := hle (M := t) fun q hq => h q (List.mem_cons_of_mem _ hq)
    rcases List.mem_cons.1 hx with rfl | hx
    · omega
    · exact sum_eq (fun q hq => h q (List.mem_cons_of_mem _ hq)) (by omega) x hx
theorem Reach.dom (h : CoOk n d R) {w : List Int} (hr : Reach n d w) (hw : ∀ k, k < n.toNat → 0 ≤ w.getD k 0) : w = ones n 1 := by
  obtain ⟨hl, hg, hs⟩ := hr.inv h
  have h1 : ∀ k, k < n.toNat → 1 ≤ w.getD k 0 := fun k hk => by
    have := hg _ (h.unit k hk)
    rw [prW_unit hk] at this
    have := hw k hk
    omega
  have h0 : ∀ b ∈ R, 0 ≤ prW n (ones n 1) b ∧ prW n (ones n 1) b ≤ prW n w b := fun b hb => ⟨dotN_pos fun k hk => ⟨by rw [ones_get hk]; omega, h.ge b hb k⟩, dotN_mono fun k hk => ⟨h.ge b hb k, by rw [ones_get hk]; exact h1 k hk⟩⟩
  have hall := sum_eq (f := fun b => (prW n (ones n 1) b).natAbs) (g := fun b => (prW n w b).natAbs) (L := R) (fun b hb => by have := h0 b hb; omega) hs
  refine ext_getD (by rw [hl, ones_len]) fun k hk => ?_
  rw [hl] at hk
  have h2 := hall _ (h.unit k hk)
  have h3 := h0 _ (h.unit k hk)
  rw [prW_unit hk, prW_unit hk] at h2 h3
  omega
theorem Reach.zero (h : CoOk n d R) {w : List Int} (hr : Reach n d w) (h0 : lnW n R w = 0) : w = ones n 1 := hr.dom h fun k hk => by
  have := List.countP_eq_zero.1 h0 _ (h.unit k hk)
  rw [prW_unit hk] at this
  simpa using this
theorem Reach.neg (h : CoOk n d R) {w : List Int} (hr : Reach n d w) (h0 : 0 < lnW n R w) : ∃ k, k < n.toNat ∧ w.getD k 0 < 0 := by
  by_cases hn : ∀ k, k < n.toNat → 0 ≤ w.getD k 0
  · exfalso
    obtain ⟨b, hb, hb2⟩ := List.countP_pos_iff.1 h0
    have h1 : 0 ≤ prW n w b := dotN_pos fun k hk => ⟨hn k hk, h.ge b hb k⟩
    have := of_decide_eq_true hb2
    omega
  · obtain ⟨k, hk⟩ := Classical.not_forall.1 hn
    have hk3 := Classical.not_imp.1 hk
    exact ⟨k, hk3.1, by omega⟩
theorem Reach.nz (h : CoOk n d R) {w : List Int} (hr : Reach n d w) {k : Nat} (hk : k < n.toNat) : w.getD k 0 ≠ 0 := by
  have := (hr.inv h).2.1 _ (h.unit k hk)
  rwa [prW_unit hk] at this
theorem rp_rp (h : CoOk n d R) {w : List Int} {i : Nat} (hi : i < n.toNat) (hl : w.length = n.toNat) : rp n d i (rp n d i w) = w := by
  refine ext_getD (by rw [rp_len, hl]) fun k hk => ?_
  rw [rp_len] at hk
  rw [rp_get hk, rp_get hk, rp_get hi, h.two i hi, Int.sub_mul]
  have := Int.mul_assoc (w.getD i 0) 2 (atI n d k i)
  have e : w.getD i 0 * 2 * atI n d k i = w.getD i 0 * atI n d k i + w.getD i 0 * atI n d k i := by rw [Int.mul_assoc, show 2 * atI n d k i = atI n d k i + atI n d k i by omega, Int.mul_add]
  rw [e]
  omega
end
end Go.Proofs.YtgelkakjmbiibaaGreatDoor
