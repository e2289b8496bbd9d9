/-
  Slices of structs that are marked, one struct after another.
-/
import Derived.Test.YtjdkkhlngflgfaaDoorRec
import Derived.Test.YtjdkkhlngflgfaaDoorPlain
namespace Go.Proofs.YtjdkkhlngflgfaaDoor
set_option linter.unusedVariables false
set_option linter.unusedSimpArgs false
open Go.RowKit

def mkr : Int → List Rec → List Rec
  | _, [] => []
  | q, x :: t => (mkd q x.1.length, q + (x.1.length : Nat)) :: mkr (q + (x.1.length : Nat) + 1) t
def totR (xs : List Rec) (k : Nat) : Nat := ((xs.take k).map fun x => x.1.length + 1).sum
theorem totR_zero (xs : List Rec) : totR xs 0 = 0 := by simp [totR]
theorem totR_succ {xs : List Rec} {k : Nat} (h : k < xs.length) : totR xs (k + 1) = totR xs k + ((xs.getD k ([], 0)).1.length + 1) := by
  rw [totR, rec_take h, List.map_append, List.sum_append]
  simp [totR]
theorem totR_bd {xs : List Rec} (hle : ∀ k, k < xs.length → (xs.getD k ([], 0)).1.length ≤ 1073741824) : ∀ {k : Nat}, k ≤ xs.length → totR xs k ≤ 1073741825 * k
  | 0, _ => by rw [totR_zero]; omega
  | k + 1, hk => by
    have h1 := totR_bd hle (k := k) (by omega)
    have h2 := hle k (by omega)
    rw [totR_succ (by omega)]
    omega
theorem mkr_len : ∀ (q : Int) (xs : List Rec), (mkr q xs).length = xs.length
  | _, [] => rfl
  | q, x :: t => by rw [mkr, List.length_cons, mkr_len, List.length_cons]
theorem mkr_get : ∀ {xs : List Rec} {k : Nat} (q : Int), k < xs.length → (mkr q xs).getD k ([], 0) = (mkd (q + (totR xs k : Nat)) (xs.getD k ([], 0)).1.length, q + (totR xs k : Nat) + ((xs.getD k ([], 0)).1.length : Nat))
  | [], _, _, h => by simp at h
  | x :: t, 0, q, _ => by simp [mkr, totR]
  | x :: t, k + 1, q, h => by
    have ih := mkr_get (xs := t) (k := k) (q + (x.1.length : Nat) + 1) (by simpa using h)
    rw [mkr, List.getD_cons_succ, List.getD_cons_succ, ih]
    have e : q + (x.1.length : Nat) + 1 + (totR t k : Nat) = q + (totR (x :: t) (k + 1) : Nat) := by
      simp only [totR, List.take_succ_cons, List.map_cons, List.sum_cons]
      omega
    rw [e]
theorem mkr_take {xs : List Rec} {k : Nat} {q : Int} (h : k < xs.length) : ((mkr q xs).take k ++ xs.drop k).set k (mkd (q + (totR xs k : Nat)) (xs.getD k ([], 0)).1.length, q + (totR xs k : Nat) + ((xs.getD k ([], 0)).1.length : Nat)) = (mkr q xs).take (k + 1) ++ xs.drop (k + 1) := by
  have hl : ((mkr q xs).take k).length = k := by rw [List.length_take, mkr_len]; omega
  have hd : xs.drop k = xs[k] :: xs.drop (k + 1) := List.drop_eq_getElem_cons h
  rw [hd, List.set_append_right _ _ (by omega), hl, Nat.sub_self, List.set_cons_zero, rec_take (xs := mkr q xs) (by rw [mkr_len]; exact h), mkr_get q h, List.append_assoc]
  rfl
theorem mkr_at {xs : List Rec} {k : Nat} {q : Int} (h : k < xs.length) : ((mkr q xs).take k ++ xs.drop k).getD k ([], 0) = xs.getD k ([], 0) := by
  have hl : ((mkr q xs).take k).length = k := by rw [List.length_take, mkr_len]; omega
  simp only [List.getD_eq_getElem?_getD, List.getElem?_append_right (show ((mkr q xs).take k).length ≤ k by omega), hl, Nat.sub_self, List.getElem?_drop, Nat.add_zero]
theorem mkr_all {xs : List Rec} {k : Nat} {q : Int} (h : xs.length ≤ k) : (mkr q xs).take k ++ xs.drop k = mkr q xs := by
  rw [List.take_of_length_le (by rw [mkr_len]; exact h), List.drop_of_length_le h, List.append_nil]
theorem mkr_ln {xs : List Rec} {k : Nat} {q : Int} (h : k ≤ xs.length) : ((mkr q xs).take k ++ xs.drop k).length = xs.length := by
  rw [List.length_append, List.length_take, List.length_drop, mkr_len]
  omega
theorem zipR_out {γ : Type} (A : Value → Rec → γ) : ∀ {us : List Value} {xs : List Rec} {k : Nat}, k < us.length → k < xs.length → (A (us.getD k undef) (xs.getD k ([], 0)) :: List.zipWith A (us.eraseIdx k) (xs.eraseIdx k)).Perm (List.zipWith A us xs)
  | [], _, _, h, _ => by simp at h
  | _ :: _, [], _, _, h => by simp at h
  | u :: us, x :: xs, 0, _, _ => by simp
  | u :: us, x :: xs, k + 1, h1, h2 => by
    have ih := zipR_out A (us := us) (xs := xs) (k := k) (by simpa using h1) (by simpa using h2)
    simp only [List.getD_cons_succ, List.eraseIdx_cons_succ, List.zipWith_cons_cons]
    exact (List.Perm.swap _ _ _).trans (ih.cons _)
theorem zipR_in {γ : Type} (A : Value → Rec → γ) {us : List Value} {xs : List Rec} {k : Nat} (h1 : k < us.length) (h2 : k < xs.length) (y : Rec) : (A (us.getD k undef) y :: List.zipWith A (us.eraseIdx k) (xs.eraseIdx k)).Perm (List.zipWith A us (xs.set k y)) := by
  have h := zipR_out A (us := us) (xs := xs.set k y) (k := k) h1 (by simpa using h2)
  have e1 : (xs.set k y).getD k ([], 0) = y := by simp [List.getD, h2]
  have e2 : (xs.set k y).eraseIdx k = xs.eraseIdx k := by rw [List.eraseIdx_set_eq]
  rw [e1, e2] at h
  exact h
section
variable {P : Program} {n : Nat} {env : List (Nat × Value)} {W : World} {own : List Asn} {e : Nat}
theorem St.recOut {w : World} {us : List Value} {xs : List Rec} {k : Nat} (hk : k < us.length ∧ k < xs.length) (h : St W w (many (recI e) us xs :: own)) : St W w (ints e (us.getD k undef) (xs.getD k ([], 0)).1 :: many (recI e) (us.eraseIdx k) (xs.eraseIdx k) :: own) := by
  have h1 := (St.unpack h).perm ((zipR_out (recI e) hk.1 hk.2).symm.append_right own)
  have h2 : St W w (List.zipWith (recI e) (us.eraseIdx k) (xs.eraseIdx k) ++ (recI e (us.getD k undef) (xs.getD k ([], 0)) :: own)) := h1.perm (List.perm_middle).symm
  exact (St.pack h2).perm (List.Perm.swap _ _ _)
theorem St.recIn {w : World} {us : List Value} {xs : List Rec} {y : Rec} {k : Nat} (hk : k < us.length ∧ k < xs.length) (h : St W w (ints e (us.getD k undef) y.1 :: many (recI e) (us.eraseIdx k) (xs.eraseIdx k) :: own)) : St W w (many (recI e) us (xs.set k y) :: own) := by
  have h1 := St.unpack (h.perm (List.Perm.swap _ _ _))
  have h2 : St W w (recI e (us.getD k undef) y :: (List.zipWith (recI e) (us.eraseIdx k) (xs.eraseIdx k) ++ own)) := h1.perm List.perm_middle
  exact St.pack (h2.perm ((zipR_in (recI e) hk.1 hk.2 y).append_right own))
theorem G.recOut {us : List Value} {xs : List Rec} (k : Nat) (hk : k < us.length ∧ k < xs.length) {ops : Array Oper} {Q : Exit → Act → World → Prop} {rest : List Oper} (h : G P ops Q rest n env W (ints e (us.getD k undef) (xs.getD k ([], 0)).1 :: many (recI e) (us.eraseIdx k) (xs.eraseIdx k) :: own)) : G P ops Q rest n env W (many (recI e) us xs :: own) := fun a w hf hs => h a w hf (hs.recOut hk)
theorem G.recIn {us : List Value} {xs : List Rec} (y : Rec) (k : Nat) (hk : k < us.length ∧ k < xs.length) {ops : Array Oper} {Q : Exit → Act → World → Prop} {rest : List Oper} (h : G P ops Q rest n env W (many (recI e) us (xs.set k y) :: own)) : G P ops Q rest n env W (ints e (us.getD k undef) y.1 :: many (recI e) (us.eraseIdx k) (xs.eraseIdx k) :: own) := fun a w hf hs => h a w hf (hs.recIn hk)
theorem GE.nilRecs {ex : Exit} {Q : Exit → Act → World → Prop} (t : Nat) (h : GE ex Q n env W (recs t (.slice none 0 0) [] [] :: own)) : GE ex Q n env W own := fun a w hf hs => h a w hf (hs.nilRow t 2)
/-- The number of a struct is stored. -/
theorem OD.storeSnd {o : Oper} {t j i : Nat} {x y : Operand} {v : Value} {z : Int} {us : List Value} {xs : List Rec} {pl : List (Nat × Nat)} {zero : Value} {c : Rec} (hop : o.op = .store t x y) (ti : TI P t false 1 zero pl) (hx : ev env x = some (elemPtrF v 2 j 1)) (hy : ev env y = some (.int .i64 z)) (hi : own[i]? = some (recs e v us xs)) (hj : j < xs.length) (hc : c.2 = z) : OD P o n env W own undef (own.set i (recs e v us (xs.set j c))) := by
  have h := store_cells (P := P) (n := n) (W := W) (us := [.int .i64 z]) (q := j * 2 + 1) hop ti (fun g cap hv => by
    subst hv
    rw [hx]
    simp only [elemPtrF, elemPtr, Addr.add]
    split <;> simp_all) hy rfl rfl rfl hi (by omega) (by omega)
  have hF : ∀ rs : List (List Value), (∀ r ∈ rs, r.length = 2) → ∀ k, k < rs.length → ∀ a b : Value, (rs.set k [a, b]).flatten = rs.flatten.take (k * 2) ++ [a, b] ++ rs.flatten.drop (k * 2 + 2) := by
    intro rs
    induction rs with
    | nil => intro _ k hk; simp at hk
    | cons r rs ih =>
      intro hw k hk a b
      have hr := hw r (by simp)
      cases k with
      | zero => simp [hr]
      | succ k =>
        rw [List.set_cons_succ, List.flatten_cons, List.flatten_cons, ih (fun q hq => hw q (by simp [hq])) k (by simpa using hk), show (k + 1) * 2 = r.length + k * 2 by omega, List.take_length_add_append, show r.length + k * 2 + 2 = r.length + (k * 2 + 2) by omega, List.drop_length_add_append]
        simp
  have e0 : recR us (xs.set j c) = (recR us xs).set j [us.getD j undef, .int .i64 z] := by
    refine List.ext_getElem (by simp [recR_len]) fun k h1 h2 => ?_
    rw [List.getElem_set]
    simp only [recR, List.getElem_map, List.getElem_range]
    by_cases hkj : j = k
    · subst hkj
      rw [if_pos rfl]
      simp [List.getD, hj, hc]
    · rw [if_neg hkj]
      simp [List.getD, List.getElem?_set_ne hkj]
  have e1 : recs e v us (xs.set j c) = row e 2 v xs.length ((recR us xs).flatten.take (j * 2 + 1) ++ [.int .i64 z] ++ (recR us xs).flatten.drop (j * 2 + 1 + 1)) := by
    unfold recs
    rw [List.length_set, e0, hF _ (recR_wf us xs) j (by rw [recR_len]; exact hj)]
    have hfl : (recR us xs).flatten.length = xs.length * 2 := by rw [flat_len2 (recR_wf us xs), recR_len]
    have hg := recR_fst (us := us) hj
    have ht : (recR us xs).flatten.take (j * 2 + 1) = (recR us xs).flatten.take (j * 2) ++ [us.getD j undef] := by
      rw [List.take_succ_eq_append_getElem (by omega)]
      congr 2
      have hb : j * 2 < (recR us xs).flatten.length := by omega
      rw [← hg, Nat.add_zero, List.getD_eq_getElem?_getD, List.getElem?_eq_getElem hb]
      rfl
    rw [ht]
    simp
  rw [e1]
  exact h
end
/-! The straight path -/
def stOf (n : Int) (d x : List Int) : List Rec := if (tyS n d).isSome && wtOk n x then [(x, 27720)] else []
theorem stOf_len (n : Int) (d x : List Int) : (stOf n d x).length ≤ 1 := by
  unfold stOf
  split
  · simp
  · simp
theorem stOf_ent {n : Int} {d x : List Int} {b : Nat} (hb : x.length ≤ b) : ∀ r ∈ stOf n d x, r.1.length ≤ b := fun r hr => by
  unfold stOf at hr
  split at hr
  · rw [List.mem_singleton] at hr
    rw [hr]
    exact hb
  · simp at hr
theorem recD_le {xs : List Rec} {b : Nat} (h : ∀ r ∈ xs, r.1.length ≤ b) : ∀ k, k < xs.length → (xs.getD k ([], 0)).1.length ≤ b := fun k hk => h _ (recD_mem hk)
end Go.Proofs.YtjdkkhlngflgfaaDoor
