/-
  Orbits of weights: found one from another; put in descending order; what both texts do, in plain words. No program is spoken of.
-/
import Derived.Test.YtmckgdekblphoaaGreatDoorNewA
import Derived.Test.YtmckgdekblphoaaGreatDoorSrtA
namespace Go.Proofs.YtmckgdekblphoaaGreatDoor
set_option linter.unusedVariables false
set_option linter.unusedSimpArgs false
open Go.RowKit
def oOne (n : Int) (d w : List Int) (L : List (List Int)) (i : Nat) : List (List Int) := if L.contains (rfF n d (i : Int) w) then L else L ++ [rfF n d (i : Int) w]
def oAdd (n : Int) (d w : List Int) (L : List (List Int)) : List (List Int) := (List.range n.toNat).foldl (oOne n d w) L
def oC (n : Int) (d : List Int) : Nat → List (List Int) → Nat → List (List Int)
  | 0, L, _ => L
  | f + 1, L, k => if k < L.length ∧ L.length ≤ 1200 then oC n d f (oAdd n d (L.getD k []) L) (k + 1) else L
def oAll (n : Int) (d w : List Int) : List (List Int) := oC n d 1300 [w] 0
theorem oOne_pre {n : Int} {d w : List Int} {L : List (List Int)} {i : Nat} : Pre L (oOne n d w L i) := by
  unfold oOne
  split
  · exact Pre.refl _
  · exact ⟨_, rfl⟩
theorem oIn_pre {n : Int} {d w : List Int} {L : List (List Int)} {i : Nat} : ∀ {m : Nat}, i ≤ m → Pre ((List.range i).foldl (oOne n d w) L) ((List.range m).foldl (oOne n d w) L)
  | 0, h => by
    have : i = 0 := by omega
    subst this
    exact Pre.refl _
  | m + 1, h => by
    by_cases e : i = m + 1
    · subst e
      exact Pre.refl _
    · rw [foldl_succ]
      exact (oIn_pre (by omega)).trans oOne_pre
theorem oC_pre {n : Int} {d : List Int} : ∀ {f : Nat} {L : List (List Int)} {k : Nat}, Pre L (oC n d f L k)
  | 0, L, k => Pre.refl _
  | f + 1, L, k => by
    rw [oC]
    split
    · exact (oIn_pre (i := 0) (Nat.zero_le _)).trans oC_pre
    · exact Pre.refl _
theorem oC_stop {n : Int} {d : List Int} {f : Nat} {L : List (List Int)} {k : Nat} (h : ¬ (k < L.length ∧ L.length ≤ 1200)) : oC n d f L k = L := by
  cases f with
  | zero => rfl
  | succ f => rw [oC, if_neg h]
theorem oC_go {n : Int} {d : List Int} {L : List (List Int)} {k : Nat} (hk : k < L.length) (hl : L.length ≤ 1200) : oC n d (1300 - k) L k = oC n d (1300 - (k + 1)) (oAdd n d (L.getD k []) L) (k + 1) := by
  rw [show 1300 - k = (1300 - (k + 1)) + 1 by omega, oC, if_pos ⟨hk, hl⟩]
theorem oOne_nod {n : Int} {d w : List Int} {L : List (List Int)} {i : Nat} (h : L.Nodup) : (oOne n d w L i).Nodup := by
  unfold oOne
  split
  · exact h
  · rename_i hc
    refine List.nodup_append.2 ⟨h, by simp, fun a ha b hb => ?_⟩
    rw [List.mem_singleton] at hb
    subst hb
    intro e
    subst e
    exact hc (List.contains_iff_mem.2 ha)
theorem oIn_nod {n : Int} {d w : List Int} {L : List (List Int)} (h : L.Nodup) : ∀ m : Nat, ((List.range m).foldl (oOne n d w) L).Nodup
  | 0 => h
  | m + 1 => by
    rw [foldl_succ]
    exact oOne_nod (oIn_nod h m)
theorem oC_nod {n : Int} {d : List Int} : ∀ {f : Nat} {L : List (List Int)} {k : Nat}, L.Nodup → (oC n d f L k).Nodup
  | 0, L, k, h => h
  | f + 1, L, k, h => by
    rw [oC]
    split
    · exact oC_nod (oIn_nod h _)
    · exact h
theorem oAll_nod (n : Int) (d w : List Int) : (oAll n d w).Nodup := oC_nod (by simp)
theorem oOne_len {n : Int} {d w : List Int} {L : List (List Int)} {i : Nat} : (oOne n d w L i).length ≤ L.length + 1 := by
  unfold oOne
  split
  · omega
  · simp
theorem oIn_len {n : Int} {d w : List Int} {L : List (List Int)} : ∀ m : Nat, ((List.range m).foldl (oOne n d w) L).length ≤ L.length + m
  | 0 => Nat.le_refl _
  | m + 1 => by
    rw [foldl_succ]
    have h1 := oOne_len (n := n) (d := d) (w := w) (L := (List.range m).foldl (oOne n d w) L) (i := m)
    have h2 := oIn_len (n := n) (d := d) (w := w) (L := L) m
    omega
theorem oC_len {n : Int} {d : List Int} : ∀ {f : Nat} {L : List (List Int)} {k : Nat}, L.length ≤ 1200 + n.toNat → (oC n d f L k).length ≤ 1200 + n.toNat
  | 0, L, k, h => h
  | f + 1, L, k, h => by
    rw [oC]
    split
    · rename_i hk
      refine oC_len ?_
      have := oIn_len (n := n) (d := d) (w := L.getD k []) (L := L) n.toNat
      unfold oAdd
      omega
    · exact h
theorem oAll_len (n : Int) (d w : List Int) : (oAll n d w).length ≤ 1200 + n.toNat := oC_len (by simp only [List.length_singleton]; omega)
theorem oOne_yes {n : Int} {d w y : List Int} {L : List (List Int)} {i : Nat} (e : y = rfF n d (i : Int) w) (h : L.contains y = false) : L ++ [y] = oOne n d w L i := by
  rw [oOne, ← e, h]
  rfl
theorem oOne_no {n : Int} {d w y : List Int} {L : List (List Int)} {i : Nat} (e : y = rfF n d (i : Int) w) (h : L.contains y = true) : L = oOne n d w L i := by
  rw [oOne, ← e, h]
  rfl
def seenT (L : List (List Int)) : List (List Int × Bool) := L.map fun x => (x, true)
theorem alu_seen (x : List Int) : ∀ L : List (List Int), (alu x (seenT L)).getD false = L.contains x
  | [] => rfl
  | y :: t => by
    have ih := alu_seen x t
    rw [seenT, List.map_cons, alu, List.contains_cons]
    by_cases h : x = y
    · rw [if_pos h]
      simp [h]
    · rw [if_neg h]
      rw [seenT] at ih
      rw [ih]
      simp [h]
theorem aup_seen {y : List Int} : ∀ {L : List (List Int)}, L.contains y = false → aup y true (seenT L) = seenT (L ++ [y])
  | [], _ => rfl
  | x :: t, h => by
    rw [List.contains_cons, Bool.or_eq_false_iff] at h
    have ih := aup_seen (y := y) (L := t) h.2
    have hn : ¬ y = x := fun e => by
      have := h.1
      rw [e] at this
      simp at this
    rw [List.cons_append, seenT, List.map_cons, aup, if_neg hn]
    rw [seenT] at ih
    rw [ih]
    rfl
theorem abv_iff {x y : List Int} : abvL x y = true ↔ 0 < cmpL x y := by
  have h := cmp_abv x y
  cases e : abvL x y with
  | true =>
    rw [e] at h
    have := of_decide_eq_false h
    exact ⟨fun _ => by omega, fun _ => rfl⟩
  | false =>
    rw [e] at h
    have := of_decide_eq_true h
    exact ⟨fun hh => absurd hh Bool.false_ne_true, fun _ => by omega⟩
theorem abv_trans {x y z : List Int} (h : abvL x y = true) (k : abvL y z = true) : abvL x z = true := by
  rw [abv_iff] at *
  have h1 := cmpL_neg x y
  have h2 := cmpL_neg y z
  have h3 := cmpL_neg x z
  have := cmpL_trans (x := z) (y := y) (z := x) (by omega) (by omega)
  omega
def insA (x : List Int) : List (List Int) → Nat
  | [] => 0
  | y :: t => if abvL y x then insA x t + 1 else 0
def insD (ys : List (List Int)) (x : List Int) : List (List Int) := ys.take (insA x ys) ++ [x] ++ ys.drop (insA x ys)
def srtD (L : List (List Int)) : List (List Int) := L.foldl insD []
def Desc (ys : List (List Int)) : Prop := ys.Pairwise fun a b => abvL a b = true
theorem insA_le (x : List Int) : ∀ ys : List (List Int), insA x ys ≤ ys.length
  | [] => Nat.le_refl _
  | y :: t => by
    have := insA_le x t
    rw [insA]
    split
    · simp only [List.length_cons]; omega
    · omega
theorem insD_cons (y x : List Int) (t : List (List Int)) : insD (y :: t) x = if abvL y x then y :: insD t x else x :: y :: t := by
  unfold insD
  rw [insA]
  split
  · simp
  · simp
theorem insD_perm (x : List Int) : ∀ ys : List (List Int), (insD ys x).Perm (x :: ys)
  | [] => by simp [insD]
  | y :: t => by
    rw [insD_cons]
    split
    · exact ((insD_perm x t).cons y).trans (List.Perm.swap _ _ _)
    · exact List.Perm.refl _
theorem insD_len (x : List Int) (ys : List (List Int)) : (insD ys x).length = ys.length + 1 := by
  have := (insD_perm x ys).length_eq
  simpa using this
theorem insD_desc {x : List Int} : ∀ {ys : List (List Int)}, Desc ys → ys.contains x = false → Desc (insD ys x)
  | [], _, _ => by simp [insD, Desc]
  | y :: t, h, hc => by
    rw [List.contains_cons, Bool.or_eq_false_iff] at hc
    have hd := List.pairwise_cons.1 h
    rw [insD_cons]
    split
    · rename_i ha
      refine List.pairwise_cons.2 ⟨fun z hz => ?_, insD_desc hd.2 hc.2⟩
      rcases List.mem_cons.1 ((insD_perm x t).mem_iff.1 hz) with rfl | hz
      · exact ha
      · exact hd.1 z hz
    · rename_i ha
      have hne : x ≠ y := fun e => by
        have := hc.1
        rw [e] at this
        simp at this
      have hxy : abvL x y = true := by
        rw [abv_iff] at ha ⊢
        have h1 := cmpL_neg x y
        have h2 : cmpL x y ≠ 0 := fun e => hne (cmpL_zero e)
        omega
      refine List.pairwise_cons.2 ⟨fun z hz => ?_, h⟩
      rcases List.mem_cons.1 hz with rfl | hz
      · exact hxy
      · exact abv_trans hxy (hd.1 z hz)
theorem insA_mem {x : List Int} : ∀ {ys : List (List Int)}, Desc ys → (decide (insA x ys < ys.length) && samB (ys.getD (insA x ys) []) x) = ys.contains x
  | [], _ => rfl
  | y :: t, h => by
    have hd := List.pairwise_cons.1 h
    rw [insA, List.contains_cons]
    by_cases ha : abvL y x = true
    · rw [if_pos ha]
      have ih := insA_mem (x := x) hd.2
      have hne : ¬ x = y := fun e => by
        subst e
        rw [abv_iff, cmpL_self] at ha
        omega
      have e1 : (x == y) = false := by simpa using hne
      rw [e1, Bool.false_or, ← ih]
      congr 1
      simp
    · rw [if_neg ha]
      by_cases e : x = y
      · subst e
        simp [samB]
      · have e1 : (x == y) = false := by simpa using e
        have e2 : samB y x = false := samB_not fun h => e h.symm
        have e3 : t.contains x = false := by
          cases hc : t.contains x with
          | false => rfl
          | true => exact absurd (hd.1 x (List.contains_iff_mem.1 hc)) ha
        simp only [e1, e3, List.length_cons, List.getD_cons_zero, e2, Bool.and_false, Bool.or_false]
theorem insA_hit {x : List Int} : ∀ {ys : List (List Int)} {k : Nat}, k ≤ ys.length → (∀ j, j < k → abvL (ys.getD j []) x = true) → (k < ys.length → abvL (ys.getD k []) x = false) → insA x ys = k
  | [], k, h, _, _ => by simp at h; rw [h]; rfl
  | y :: t, 0, _, _, h2 => by
    have := h2 (by simp)
    rw [List.getD_cons_zero] at this
    rw [insA, this]
    rfl
  | y :: t, k + 1, h, h1, h2 => by
    have h0 := h1 0 (by omega)
    rw [List.getD_cons_zero] at h0
    rw [insA, if_pos h0, insA_hit (ys := t) (k := k) (by simpa using h) (fun j hj => by have := h1 (j + 1) (by omega); simpa using this) (fun hk => by have := h2 (by simpa using hk); simpa using this)]
theorem srtD_snoc (L : List (List Int)) (x : List Int) : srtD (L ++ [x]) = insD (srtD L) x := by rw [srtD, List.foldl_append]; rfl
theorem srtD_perm : ∀ L : List (List Int), ∀ M : List (List Int), (L.foldl insD M).Perm (M ++ L)
  | [], M => by simp
  | x :: t, M => by
    rw [List.foldl_cons]
    refine (srtD_perm t (insD M x)).trans ?_
    refine ((insD_perm x M).append_right t).trans ?_
    exact List.perm_middle.symm
theorem srt_perm (L : List (List Int)) : (srtD L).Perm L := by
  show (L.foldl insD []).Perm L
  simpa using srtD_perm L []
theorem srtD_desc : ∀ {L : List (List Int)} {M : List (List Int)}, Desc M → (M ++ L).Nodup → Desc (L.foldl insD M)
  | [], M, h, _ => h
  | x :: t, M, h, hn => by
    rw [List.foldl_cons]
    have hx : M.contains x = false := by
      cases e : M.contains x with
      | false => rfl
      | true => exact absurd rfl ((List.nodup_append.1 hn).2.2 x (List.contains_iff_mem.1 e) x List.mem_cons_self)
    refine srtD_desc (insD_desc h hx) ?_
    exact (((insD_perm x M).append_right t).trans List.perm_middle.symm).nodup_iff.2 hn
theorem srt_desc {L : List (List Int)} (h : L.Nodup) : Desc (srtD L) := srtD_desc (by simp [Desc]) (by simpa using h)
theorem srt_unique {L xs : List (List Int)} (hn : L.Nodup) (hp : xs.Perm L) (hs : xs.Pairwise fun a b => ¬ cmpL a b < 0) : xs = srtD L := by
  refine List.Perm.eq_of_pairwise (le := fun a b => ¬ cmpL a b < 0) (fun a b _ _ h1 h2 => ?_) hs ?_ (hp.trans (srt_perm L).symm)
  · have := cmpL_neg a b
    exact cmpL_zero (by omega)
  · exact (srt_desc hn).imp fun h => by rw [abv_iff] at h; omega
end Go.Proofs.YtmckgdekblphoaaGreatDoor
namespace Go.Proofs.YtmckgdekblphoaaGreatDoor
set_option linter.unusedVariables false
set_option linter.unusedSimpArgs false
open Go.RowKit
theorem rfF_all64 {n i : Int} {d w : List Int} (h : All64 w) : All64 (rfF n d i w) := fold_all64 (g := fun k (o : List Int) => IntKind.i64.wrap (o.getD k 0 - IntKind.i64.wrap (w.getD i.toNat 0 * atI n d k i))) (fun k o => wrap_I64 _) _ _ h
theorem getD_mem {L : List (List Int)} {k : Nat} (hk : k < L.length) : L.getD k [] ∈ L := by
  have e : L.getD k [] = L[k] := by simp [List.getD, hk]
  rw [e]
  exact List.getElem_mem hk
theorem srt_len (L : List (List Int)) : (srtD L).length = L.length := (srt_perm L).length_eq
theorem oC_in {n : Int} {d w : List Int} {gs hs : List (List Int)} {k i : Nat} (hoc : oC n d (1300 - k) gs k = oAll n d w) (hk : k < gs.length) (hl : gs.length ≤ 1200) (hi : i ≤ n.toNat) (hhs : hs = (List.range i).foldl (oOne n d (gs.getD k [])) gs) : Pre hs (oAll n d w) ∧ Pre gs hs := by
  rw [oC_go hk hl] at hoc
  rw [← hoc, hhs]
  exact ⟨(oIn_pre hi).trans oC_pre, oIn_pre (i := 0) (Nat.zero_le _)⟩
section
variable {P : Program} {n : Nat} {env : List (Nat × Value)} {W : World} {own : List Asn}
theorem OD.insertM {o : Oper} {α β : Type} [DecidableEq α] {kE : α → Value} {vE : β → Value} {t kt e g i : Nat} {x y : Operand} {l : List (α × β)} {k : α} {u : Operand} {b : β} (hop : o.op = .insert t x y u) (ht : P.underlying t = some (.map kt e)) (K : KeyE P kt kE) (hx : ev env x = some (.map (some g))) (hy : ev env y = some (kE k)) (hu : ev env u = some (vE b)) (hi : own[i]? = some (mapA kE vE g l)) : OD P o n env W own undef (own.set i (mapA kE vE g (aup k b l))) := fun a w next Q hf hs hk => by
  have hr : (execOp a.eval o).run P w = .ok .skip { w with heap := w.heap.setIfInBounds g (.map (mEnt kE vE 0 (aup k b l)).toArray (aup k b l).length) } := by
    simp [execOp, hop, hf.ev hx, hf.ev hy, hf.ev hu, run_upd ht K (hs.map hi) b]
  unfold Oper.wp
  rw [hr]
  exact hk _ _ _ ⟨rfl, rfl⟩ (map_turn hs hi _ rfl)
end
end Go.Proofs.YtmckgdekblphoaaGreatDoor
namespace Go.Proofs.YtmckgdekblphoaaGreatDoor
set_option linter.unusedVariables false
set_option linter.unusedSimpArgs false
open Go.RowKit
section
variable {P : Program} {n : Nat} {env : List (Nat × Value)} {W : World} {own : List Asn}
end
end Go.Proofs.YtmckgdekblphoaaGreatDoor
