/-
  Lists of lists that are marked, one list after another; an element taken out of a list of lists and put back.
-/
import Derived.Test.YtmckgdekblphoaaGreatDoorNest
namespace Go.Proofs.YtmckgdekblphoaaGreatDoor
set_option linter.unusedVariables false
set_option linter.unusedSimpArgs false
open Go.RowKit
def mkds : Int → List (List Int) → List (List Int)
  | _, [] => []
  | q, x :: t => mkd q x.length :: mkds (q + (x.length : Nat)) t
def totL (xs : List (List Int)) (k : Nat) : Nat := ((xs.take k).map List.length).sum
theorem totL_zero (xs : List (List Int)) : totL xs 0 = 0 := by simp [totL]
theorem totL_succ {xs : List (List Int)} {k : Nat} (h : k < xs.length) : totL xs (k + 1) = totL xs k + (xs.getD k []).length := by
  rw [totL, takeD_snoc (d := []) h, List.map_append, List.sum_append]
  simp [totL]
theorem totL_bd {xs : List (List Int)} (hle : ∀ k, k < xs.length → (xs.getD k []).length ≤ 1000) : ∀ {k : Nat}, k ≤ xs.length → totL xs k ≤ 1000 * k
  | 0, _ => by rw [totL_zero]; omega
  | k + 1, hk => by
    have h1 := totL_bd hle (k := k) (by omega)
    have h2 := hle k (by omega)
    rw [totL_succ (by omega)]
    omega
theorem mkds_len : ∀ (q : Int) (xs : List (List Int)), (mkds q xs).length = xs.length
  | _, [] => rfl
  | q, x :: t => by rw [mkds, List.length_cons, mkds_len, List.length_cons]
theorem mkds_get : ∀ {xs : List (List Int)} {k : Nat} (q : Int), k < xs.length → (mkds q xs).getD k [] = mkd (q + (totL xs k : Nat)) (xs.getD k []).length
  | [], _, _, h => by simp at h
  | x :: t, 0, q, _ => by simp [mkds, totL]
  | x :: t, k + 1, q, h => by
    have ih := mkds_get (xs := t) (k := k) (q + (x.length : Nat)) (by simpa using h)
    rw [mkds, List.getD_cons_succ, List.getD_cons_succ, ih]
    simp only [totL, List.take_succ_cons, List.map_cons, List.sum_cons]
    congr 1
    omega
theorem mkds_step {xs : List (List Int)} {k : Nat} {q : Int} (h : k < xs.length) : ((mkds q xs).take k ++ xs.drop k).set k (mkd (q + (totL xs k : Nat)) (xs.getD k []).length) = (mkds q xs).take (k + 1) ++ xs.drop (k + 1) := by
  have hl : ((mkds q xs).take k).length = k := by rw [List.length_take, mkds_len]; omega
  have hd : xs.drop k = xs[k] :: xs.drop (k + 1) := List.drop_eq_getElem_cons h
  rw [hd, List.set_append_right _ _ (by omega), hl, Nat.sub_self, List.set_cons_zero, takeD_snoc (L := mkds q xs) (d := []) (by rw [mkds_len]; exact h), mkds_get q h, List.append_assoc]
  rfl
theorem mkds_at {xs : List (List Int)} {k : Nat} {q : Int} (h : k < xs.length) : ((mkds q xs).take k ++ xs.drop k).getD k [] = xs.getD k [] := by
  have hl : ((mkds q xs).take k).length = k := by rw [List.length_take, mkds_len]; omega
  simp only [List.getD_eq_getElem?_getD, List.getElem?_append_right (show ((mkds q xs).take k).length ≤ k by omega), hl, Nat.sub_self, List.getElem?_drop, Nat.add_zero]
theorem mkds_all {xs : List (List Int)} {k : Nat} {q : Int} (h : xs.length ≤ k) : (mkds q xs).take k ++ xs.drop k = mkds q xs := by
  rw [List.take_of_length_le (by rw [mkds_len]; exact h), List.drop_of_length_le h, List.append_nil]
theorem mkds_ln {xs : List (List Int)} {k : Nat} {q : Int} (h : k ≤ xs.length) : ((mkds q xs).take k ++ xs.drop k).length = xs.length := by
  rw [List.length_append, List.length_take, List.length_drop, mkds_len]
  omega
theorem zipWith_out {α β γ : Type} (A : α → β → γ) (da : α) (db : β) : ∀ {us : List α} {xs : List β} {k : Nat}, k < us.length → k < xs.length → (A (us.getD k da) (xs.getD k db) :: List.zipWith A (us.eraseIdx k) (xs.eraseIdx k)).Perm (List.zipWith A us xs)
  | [], _, _, h, _ => by simp at h
  | _ :: _, [], _, _, h => by simp at h
  | u :: us, x :: xs, 0, _, _ => by simp
  | u :: us, x :: xs, k + 1, h1, h2 => by
    have ih := zipWith_out A da db (us := us) (xs := xs) (k := k) (by simpa using h1) (by simpa using h2)
    simp only [List.getD_cons_succ, List.eraseIdx_cons_succ, List.zipWith_cons_cons]
    exact (List.Perm.swap _ _ _).trans (ih.cons _)
theorem zipWith_in {α β γ : Type} (A : α → β → γ) (da : α) {us : List α} {xs : List β} {k : Nat} (h1 : k < us.length) (h2 : k < xs.length) (y : β) : (A (us.getD k da) y :: List.zipWith A (us.eraseIdx k) (xs.eraseIdx k)).Perm (List.zipWith A us (xs.set k y)) := by
  have h := zipWith_out A da y (us := us) (xs := xs.set k y) (k := k) h1 (by simpa using h2)
  have e1 : (xs.set k y).getD k y = y := by simp [List.getD, h2]
  have e2 : (xs.set k y).eraseIdx k = xs.eraseIdx k := by rw [List.eraseIdx_set_eq]
  rw [e1, e2] at h
  exact h
section
variable {P : Program} {n : Nat} {env : List (Nat × Value)} {W : World} {own : List Asn}
theorem St.manyOut {w : World} {A : Value → List Int → Asn} {us : List Value} {xs : List (List Int)} {k : Nat} (hk : k < us.length ∧ k < xs.length) (h : St W w (many A us xs :: own)) : St W w (A (us.getD k undef) (xs.getD k []) :: many A (us.eraseIdx k) (xs.eraseIdx k) :: own) := by
  have h1 := (St.unpack h).perm ((zipWith_out A undef [] hk.1 hk.2).symm.append_right own)
  have h2 : St W w (List.zipWith A (us.eraseIdx k) (xs.eraseIdx k) ++ (A (us.getD k undef) (xs.getD k []) :: own)) := h1.perm (List.perm_middle).symm
  exact (St.pack h2).perm (List.Perm.swap _ _ _)
theorem St.manyIn {w : World} {A : Value → List Int → Asn} {us : List Value} {xs : List (List Int)} {y : List Int} {k : Nat} (hk : k < us.length ∧ k < xs.length) (h : St W w (A (us.getD k undef) y :: many A (us.eraseIdx k) (xs.eraseIdx k) :: own)) : St W w (many A us (xs.set k y) :: own) := by
  have h1 := St.unpack (h.perm (List.Perm.swap _ _ _))
  have h2 : St W w (A (us.getD k undef) y :: (List.zipWith A (us.eraseIdx k) (xs.eraseIdx k) ++ own)) := h1.perm List.perm_middle
  exact St.pack (h2.perm ((zipWith_in A undef hk.1 hk.2 y).append_right own))
theorem G.manyOut {A : Value → List Int → Asn} {us : List Value} {xs : List (List Int)} (k : Nat) (hk : k < us.length ∧ k < xs.length) {ops : Array Oper} {Q : Exit → Act → World → Prop} {rest : List Oper} (h : G P ops Q rest n env W (A (us.getD k undef) (xs.getD k []) :: many A (us.eraseIdx k) (xs.eraseIdx k) :: own)) : G P ops Q rest n env W (many A us xs :: own) := fun a w hf hs => h a w hf (hs.manyOut hk)
theorem G.manyIn {A : Value → List Int → Asn} {us : List Value} {xs : List (List Int)} {y : List Int} (k : Nat) (hk : k < us.length ∧ k < xs.length) {ops : Array Oper} {Q : Exit → Act → World → Prop} {rest : List Oper} (h : G P ops Q rest n env W (many A us (xs.set k y) :: own)) : G P ops Q rest n env W (A (us.getD k undef) y :: many A (us.eraseIdx k) (xs.eraseIdx k) :: own) := fun a w hf hs => h a w hf (hs.manyIn hk)
end
end Go.Proofs.YtmckgdekblphoaaGreatDoor
