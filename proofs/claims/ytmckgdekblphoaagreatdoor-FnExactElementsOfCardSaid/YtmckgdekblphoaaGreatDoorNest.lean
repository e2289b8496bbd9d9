/-
  Lists of lists that share their lists with others: parts of them, what they hold, other orders; and the plain steps of putting roots in order.
-/
import Derived.Test.YtmckgdekblphoaaGreatDoorOps3
import Derived.Test.YtmckgdekblphoaaGreatDoorRts
import Derived.Test.YtmckgdekblphoaaGreatDoorMap
namespace Go.Proofs.YtmckgdekblphoaaGreatDoor
set_option linter.unusedVariables false
set_option linter.unusedSimpArgs false
open Go.RowKit
section
variable {P : Program} {n : Nat} {env : List (Nat × Value)} {W : World} {own : List Asn}
theorem Ent.len {v : Value} {m k sz : Nat} {cs : List Value} (h : Ent own fun w => Sl w v m sz cs) (e : m = k) : Ent own fun w => Sl w v k sz cs := e ▸ h
theorem Ent.subLst {v : Value} {us : List Value} {l h : Nat} (hv : Ent own fun w => Sl w v us.length 1 us) (hb : l ≤ h ∧ h ≤ us.length) : Ent own fun w => Sl w (subV 1 v l h) ((us.drop l).take (h - l)).length 1 ((us.drop l).take (h - l)) := fun W w hs => by
  have := Sl.sub (hv W w hs) hb
  have hl : ((us.drop l).take (h - l)).length = h - l := by simp; omega
  rw [hl]
  simpa using this
theorem AllS.part {us : List Value} (h : AllS us) (l m : Nat) : AllS ((us.drop l).take m) := fun u hu => h u (List.mem_of_mem_drop (List.mem_of_mem_take hu))
theorem AllS.app {us vs : List Value} (h : AllS us) (k : AllS vs) : AllS (us ++ vs) := fun u hu => by
  rcases List.mem_append.1 hu with hu | hu
  · exact h u hu
  · exact k u hu
theorem zipWith_zip {α : Type} (A : Value → α → Asn) : ∀ (vs : List Value) (xs : List α), List.zipWith A vs xs = (vs.zip xs).map fun p => A p.1 p.2
  | [], _ => rfl
  | _ :: _, [] => rfl
  | v :: vs, x :: xs => by simp [zipWith_zip A vs xs]
theorem St.manyPerm {w : World} {α : Type} {A : Value → α → Asn} {vs us : List Value} {xs ys : List α} (h : St W w (many A vs xs :: own)) (hp : (vs.zip xs).Perm (us.zip ys)) : St W w (many A us ys :: own) := by
  refine St.pack ?_
  have h1 := St.unpack h
  rw [zipWith_zip] at h1 ⊢
  exact h1.perm ((hp.map _).append_right _)
theorem GE.manyPerm {α : Type} {A : Value → α → Asn} {vs us : List Value} {xs ys : List α} (hp : (vs.zip xs).Perm (us.zip ys)) {e : Exit} {Q : Exit → Act → World → Prop} (h : GE e Q n env W (many A us ys :: own)) : GE e Q n env W (many A vs xs :: own) := fun a w hf hs => h a w hf (hs.manyPerm hp)
end
theorem takeD_snoc {α : Type} {L : List α} {p : Nat} {d : α} (hp : p < L.length) : L.take (p + 1) = L.take p ++ [L.getD p d] := by
  rw [List.take_succ_eq_append_getElem hp]
  simp [List.getD, hp]
theorem unitL_set {m i : Nat} (h : i < m) : (List.replicate m (0 : Int)).set i 1 = unitL m i := by
  refine ext_getD (by simp [unitL]) fun k hk => ?_
  have hk' : k < m := by simpa using hk
  have hu : (unitL m i).getD k 0 = if k = i then 1 else 0 := by simp [unitL, List.getD, hk']
  rw [hu]
  by_cases e : k = i
  · subst e
    rw [set_getD_eq (by simpa using hk'), if_pos rfl]
  · rw [set_getD_ne (fun h => e h.symm), if_neg e]
    simp [List.getD, hk']
theorem units_next {m i : Nat} : (List.range i).map (unitL m) ++ [unitL m i] = (List.range (i + 1)).map (unitL m) := by rw [List.range_succ, List.map_append]; rfl
theorem unitL_len (m i : Nat) : (unitL m i).length = m := by simp [unitL]
theorem RtOk.first {n : Int} {d : List Int} (h : RtOk n d) {i : Nat} (hi : n.toNat ≤ i) (hi2 : i ≤ n.toNat) : rC n d 40 ((List.range i).map (unitL n.toNat)) 0 = some (rFd n d) := by
  have e : i = n.toNat := by omega
  subst e
  exact h.run
theorem RtOk.inner {n : Int} {d : List Int} (h : RtOk n d) {fs gs : List (List Int)} {k i : Nat} (hpre : ∀ i, i ≤ n.toNat → Pre ((List.range i).foldl (rOne n d (fs.getD k [])) fs) (rFd n d)) (hk : k < fs.length) (hi : i ≤ n.toNat) (hg : gs = (List.range i).foldl (rOne n d (fs.getD k [])) fs) :
    k < gs.length ∧ gs.getD k [] = fs.getD k [] ∧ gs.length ≤ 30 ∧ (gs.getD k []).length = n.toNat ∧ (∀ j, 0 ≤ (gs.getD k []).getD j 0 ∧ (gs.getD k []).getD j 0 ≤ 10) ∧ (∀ j, j < gs.length → (gs.getD j []).length = n.toNat) := by
  have h1 : Pre gs (rFd n d) := by rw [hg]; exact hpre i hi
  have h2 : Pre fs gs := by rw [hg]; exact rIn_pre (i := 0) (Nat.zero_le _)
  have h3 := h2.len
  have h4 := h.fget h1 (show k < gs.length by omega)
  exact ⟨by omega, h2.get hk, Nat.le_trans h1.len h.few, h4.1, h4.2, fun j hj => (h.fget h1 hj).1⟩
end Go.Proofs.YtmckgdekblphoaaGreatDoor
