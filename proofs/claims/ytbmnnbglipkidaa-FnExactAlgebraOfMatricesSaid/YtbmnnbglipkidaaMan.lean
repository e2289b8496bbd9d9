/-
  Lists of lists that are owned: one taken out and put back, two exchanged, what the others read while one is out.
-/
import Derived.Test.YtbmnnbglipkidaaOps3
namespace Go.Proofs.Ytbmnnbglipkidaa
set_option linter.unusedVariables false
set_option linter.unusedSimpArgs false
open Go.RowKit
theorem cong2 {α β γ : Type} (F : α → β → γ) {a a' : α} {b b' : β} (h1 : a = a') (h2 : b = b') : F a b = F a' b' := by rw [h1, h2]
theorem Ent.len {own : List Asn} {v : Value} {m k sz : Nat} {cs : List Value} (h : Ent own fun w => Sl w v m sz cs) (e : m = k) : Ent own fun w => Sl w v k sz cs := e ▸ h
theorem zipWith_out {α β γ : Type} (A : α → β → γ) (da : α) (db : β) : ∀ {us : List α} {xs : List β} {k : Nat}, k < us.length → k < xs.length → (A (us.getD k da) (xs.getD k db) :: List.zipWith A (us.eraseIdx k) (xs.eraseIdx k)).Perm (List.zipWith A us xs)
  | [], _, _, h, _ => by simp at h
  | _ :: _, [], _, _, h => by simp at h
  | u :: us, x :: xs, 0, _, _ => by simp
  | u :: us, x :: xs, k + 1, h1, h2 => by
    have ih := zipWith_out A da db (us := us) (xs := xs) (k := k) (by simpa using h1) (by simpa using h2)
    simp only [List.getD_cons_succ, List.eraseIdx_cons_succ, List.zipWith_cons_cons]
    exact (List.Perm.swap _ _ _).trans (ih.cons _)
theorem zipWith_in {α β γ : Type} (A : α → β → γ) (da : α) {us : List α} {xs : List β} {k : Nat} (h1 : k < us.length) (h2 : k < xs.length) (y : β) : (A (us.getD k da) y :: List.zipWith A (us.eraseIdx k) (xs.eraseIdx k)).Perm (List.zipWith A us (xs.set k y)) := by
  have h := zipWith_out A da y (us := us) (xs := xs.set k y) (k := k) h1 (by simpa using h2)
  have e1 : (xs.set k y).getD k y = y := by simp [List.getD, h2]
  have e2 : (xs.set k y).eraseIdx k = xs.eraseIdx k := by rw [List.eraseIdx_set_eq]
  rw [e1, e2] at h
  exact h
section
variable {P : Program} {n : Nat} {env : List (Nat × Value)} {W : World} {own : List Asn}
theorem St.manyOut {w : World} {A : Value → List Int → Asn} {us : List Value} {xs : List (List Int)} {k : Nat} (hk : k < us.length ∧ k < xs.length) (h : St W w (many A us xs :: own)) : St W w (A (us.getD k undef) (xs.getD k []) :: many A (us.eraseIdx k) (xs.eraseIdx k) :: own) := by
  have h1 := (St.unpack h).perm ((zipWith_out A undef [] hk.1 hk.2).symm.append_right own)
  have h2 : St W w (List.zipWith A (us.eraseIdx k) (xs.eraseIdx k) ++ (A (us.getD k undef) (xs.getD k []) :: own)) := h1.perm (List.perm_middle).symm
  exact (St.pack h2).perm (List.Perm.swap _ _ _)
theorem St.manyIn {w : World} {A : Value → List Int → Asn} {us : List Value} {xs : List (List Int)} {y : List Int} {k : Nat} (hk : k < us.length ∧ k < xs.length) (h : St W w (A (us.getD k undef) y :: many A (us.eraseIdx k) (xs.eraseIdx k) :: own)) : St W w (many A us (xs.set k y) :: own) := by
  have h1 := St.unpack (h.perm (List.Perm.swap _ _ _))
  have h2 : St W w (A (us.getD k undef) y :: (List.zipWith A (us.eraseIdx k) (xs.eraseIdx k) ++ own)) := h1.perm List.perm_middle
  exact St.pack (h2.perm ((zipWith_in A undef hk.1 hk.2 y).append_right own))
theorem G.manyOut {A : Value → List Int → Asn} {us : List Value} {xs : List (List Int)} (k : Nat) (hk : k < us.length ∧ k < xs.length) {ops : Array Oper} {Q : Exit → Act → World → Prop} {rest : List Oper} (h : G P ops Q rest n env W (A (us.getD k undef) (xs.getD k []) :: many A (us.eraseIdx k) (xs.eraseIdx k) :: own)) : G P ops Q rest n env W (many A us xs :: own) := fun a w hf hs => h a w hf (hs.manyOut hk)
theorem G.manyIn {A : Value → List Int → Asn} {us : List Value} {xs : List (List Int)} {y : List Int} (k : Nat) (hk : k < us.length ∧ k < xs.length) {ops : Array Oper} {Q : Exit → Act → World → Prop} {rest : List Oper} (h : G P ops Q rest n env W (many A us (xs.set k y) :: own)) : G P ops Q rest n env W (A (us.getD k undef) y :: many A (us.eraseIdx k) (xs.eraseIdx k) :: own) := fun a w hf hs => h a w hf (hs.manyIn hk)
theorem GC.manyOut {A : Value → List Int → Asn} {us : List Value} {xs : List (List Int)} (k : Nat) (hk : k < us.length ∧ k < xs.length) {c : Code} {Q : Exit → Act → World → Prop} (h : GC P c Q n env W (A (us.getD k undef) (xs.getD k []) :: many A (us.eraseIdx k) (xs.eraseIdx k) :: own)) : GC P c Q n env W (many A us xs :: own) := fun a w hf hs => h a w hf (hs.manyOut hk)
theorem GC.manyIn {A : Value → List Int → Asn} {us : List Value} {xs : List (List Int)} {y : List Int} (k : Nat) (hk : k < us.length ∧ k < xs.length) {c : Code} {Q : Exit → Act → World → Prop} (h : GC P c Q n env W (many A us (xs.set k y) :: own)) : GC P c Q n env W (A (us.getD k undef) y :: many A (us.eraseIdx k) (xs.eraseIdx k) :: own) := fun a w hf hs => h a w hf (hs.manyIn hk)
theorem eraseIdx_get {α : Type} {d : α} {l : List α} {i k : Nat} (h : k ≠ i) : (l.eraseIdx i).getD (if k < i then k else k - 1) d = l.getD k d := by
  simp only [List.getD]
  by_cases hk : k < i
  · rw [if_pos hk, List.getElem?_eraseIdx_of_lt hk]
  · rw [if_neg hk, List.getElem?_eraseIdx_of_ge (by omega), show k - 1 + 1 = k by omega]
theorem Ent.manyErase {us : List Value} {xs : List (List Int)} {j i k e : Nat} (h : own[j]? = some (Proofs.Ytbmnnbglipkidaa.many (Proofs.Ytbmnnbglipkidaa.ints e) (us.eraseIdx i) (xs.eraseIdx i))) (hne : k ≠ i) (hi : i < us.length ∧ i < xs.length) (hk : k < us.length ∧ k < xs.length) : Ent own fun w => Ints w (us.getD k undef) (xs.getD k []) := by
  have h1 := Ent.manyInts (k := if k < i then k else k - 1) h (by
    rw [List.length_eraseIdx, List.length_eraseIdx, if_pos hi.1, if_pos hi.2]
    split <;> omega)
  rw [eraseIdx_get hne, eraseIdx_get hne] at h1
  exact h1
def swL {α : Type} (d : α) (l : List α) (r k : Nat) : List α := (l.set k (l.getD r d)).set r (l.getD k d)
theorem zipWith_set {α β γ : Type} (A : α → β → γ) : ∀ {us : List α} {xs : List β} {k : Nat} (a : α) (b : β), List.zipWith A (us.set k a) (xs.set k b) = (List.zipWith A us xs).set k (A a b)
  | [], _, _, _, _ => by simp
  | _ :: _, [], k, _, _ => by cases k <;> simp
  | u :: us, x :: xs, 0, _, _ => rfl
  | u :: us, x :: xs, k + 1, a, b => by simp [zipWith_set A a b]
section
variable {o : Oper}
structure FD (P : Program) (T f off : Nat) : Prop where
  run : ∀ (a : Array Value) (v : Value) w, a[off]? = some v → (Instr.field T (.agg a) f).run P w = .ok v w
theorem fd_of {P : Program} {T f : Nat} {fs : Array Field} {fl : Field} (h : P.underlying T = some (.struct fs)) (hf : fs[f]? = some fl) (ha : ∀ w, (isAgg fl.type).run P w = .ok false w) : FD P T f fl.offset :=
  ⟨fun a v w hv => by simp [Instr.field, run_underlying h, hf, asAgg, part, ha, hv]⟩
theorem OD.field {T f off : Nat} {x : Operand} {us : List Value} {v : Value} (hop : o.op = .field T x f) (fd : FD P T f off) (hx : ev env x = some (.agg us.toArray)) (hv : us[off]? = some v) : OD P o n env W own v own :=
  .of fun a w hf _ => by
    simp only [execOp, hop, hf.ev hx]
    exact run_val (fd.run _ _ _ (by simpa using hv))
end
theorem GE.ownEq {e : Exit} {Q : Exit → Act → World → Prop} {own' : List Asn} (h : own = own') (k : GE e Q n env W own') : GE e Q n env W own := h ▸ k
theorem GC.ownEq {c : Code} {Q : Exit → Act → World → Prop} {own' : List Asn} (h : own = own') (k : GC P c Q n env W own') : GC P c Q n env W own := h ▸ k
theorem G.ownEq {ops : Array Oper} {Q : Exit → Act → World → Prop} {rest : List Oper} {own' : List Asn} (h : own = own') (k : G P ops Q rest n env W own') : G P ops Q rest n env W own := h ▸ k
theorem swL_perm {α : Type} {d : α} {l : List α} {r k : Nat} (hr : r < l.length) (hk : k < l.length) : (swL d l r k).Perm l := by
  unfold swL
  have e1 : l.getD r d = l[r] := by simp [List.getD, hr]
  have e2 : l.getD k d = l[k] := by simp [List.getD, hk]
  rw [e1, e2]
  exact List.set_set_perm hk hr
theorem swL_len {α : Type} {d : α} {l : List α} {r k : Nat} : (swL d l r k).length = l.length := by simp [swL]
theorem swL_all {us : List Value} {r k : Nat} (h : AllS us) (hr : r < us.length) (hk : k < us.length) : AllS (swL undef us r k) := fun u hu => h u ((swL_perm hr hk).mem_iff.1 hu)
theorem St.manySw {w : World} {A : Value → List Int → Asn} {us : List Value} {xs : List (List Int)} {r k : Nat} (hr : r < us.length ∧ r < xs.length) (hk : k < us.length ∧ k < xs.length) (h : St W w (many A us xs :: own)) : St W w (many A (swL undef us r k) (swL [] xs r k) :: own) := by
  refine St.pack ((St.unpack h).perm (List.Perm.append_right own ?_))
  have hz : (List.zipWith A us xs).length = Min.min us.length xs.length := List.length_zipWith
  have e : List.zipWith A (swL undef us r k) (swL [] xs r k) = swL (A undef []) (List.zipWith A us xs) r k := by
    unfold swL
    rw [zipWith_set, zipWith_set]
    congr 2
    · congr 1
      simp [List.getD, List.getElem?_zipWith, hr]
    · simp [List.getD, List.getElem?_zipWith, hk]
  rw [e]
  exact (swL_perm (by omega) (by omega)).symm
theorem GC.manySw {A : Value → List Int → Asn} {us : List Value} {xs : List (List Int)} (r k : Nat) (hr : r < us.length ∧ r < xs.length) (hk : k < us.length ∧ k < xs.length) {c : Code} {Q : Exit → Act → World → Prop} (h : GC P c Q n env W (many A (swL undef us r k) (swL [] xs r k) :: own)) : GC P c Q n env W (many A us xs :: own) := fun a w hf hs => h a w hf (hs.manySw hr hk)
theorem GC.nilLst {c : Code} {Q : Exit → Act → World → Prop} (e : Nat) (h : GC P c Q n env W (Proofs.Ytbmnnbglipkidaa.lst e (.slice none 0 0) [] :: own)) : GC P c Q n env W own := fun a w hf hs => h a w hf (hs.nilRow e 1)
theorem AllS.set {us : List Value} (h : AllS us) {x : Value} (hx : IsS x) (k : Nat) : AllS (us.set k x) := fun u hu => by
  rcases List.mem_or_eq_of_mem_set hu with hu | hu
  · exact h u hu
  · exact hu ▸ hx
theorem OD.storeLst {o : Oper} {e i j : Nat} {x y : Operand} {v u : Value} {us : List Value} {pl : List (Nat × Nat)} {zero : Value} (hop : o.op = .store e x y) (ti : TI P e false 1 zero pl) (hx : ev env x = some (elemPtr v 1 j)) (hy : ev env y = some u) (hu : IsS u) (hi : own[i]? = some (Proofs.Ytbmnnbglipkidaa.lst e v us)) (hj : j < us.length) : OD P o n env W own undef (own.set i (Proofs.Ytbmnnbglipkidaa.lst e v (us.set j u))) := by
  have h := OD.storeElem (P := P) (n := n) (W := W) hop ti hx hy hu.one hi hj
  unfold Proofs.Ytbmnnbglipkidaa.lst
  rw [List.length_set]
  exact h
end
end Go.Proofs.Ytbmnnbglipkidaa
