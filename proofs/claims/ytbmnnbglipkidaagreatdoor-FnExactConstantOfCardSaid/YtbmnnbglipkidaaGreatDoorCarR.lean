/-
  Plain facts for the walks through the two texts that tell the parts of a matrix; no program is spoken of.
-/
import Derived.Test.YtbmnnbglipkidaaGreatDoorCarQ
namespace Go.Proofs.YtbmnnbglipkidaaGreatDoor
set_option linter.unusedVariables false
set_option linter.unusedSimpArgs false
theorem foldl_inv {α : Type} {I : α → Prop} {f : α → Nat → α} {l : List Nat} (h : ∀ a x, x ∈ l → I a → I (f a x)) : ∀ a, I a → I (l.foldl f a) := by
  induction l with
  | nil => exact fun a ha => ha
  | cons x l ih => exact fun a ha => ih (fun a y hy => h a y (by simp [hy])) _ (h a x (by simp) ha)
def Good (n : Int) (o : List Int) : Prop := o.Nodup ∧ ∀ y ∈ o, 0 ≤ y ∧ y < n
theorem partStep_good {n : Int} {d : List Int} {k : Nat} {o : List Int} (h : Good n o) : Good n (partStep n d k o) := by
  unfold partStep
  refine foldl_inv (I := Good n) (fun a x hx ha => ?_) o h
  simp only [List.mem_range] at hx
  split
  · rename_i hc
    simp only [Bool.and_eq_true, Bool.not_eq_true'] at hc
    have hn : (x : Int) ∉ a := by simpa using hc.2
    exact ⟨nodup_snoc ha.1 hn, rng_snoc ha.2 ⟨by omega, by omega⟩⟩
  · exact ha
theorem partL_good {n : Int} {d : List Int} : ∀ (f : Nat) {o : List Int} {k : Nat}, Good n o → Good n (partL n d f o k)
  | 0, _, _, h => h
  | f + 1, o, k, h => by
    unfold partL
    split
    · exact partL_good f (partStep_good h)
    · exact h
theorem partF_good {n : Int} {d : List Int} {i : Int} (hi : 0 ≤ i ∧ i < n) : Good n (partF n d i) := partL_good _ ⟨by simp, by simpa using hi⟩
theorem partF_len {n : Int} {d : List Int} {i : Int} (hi : 0 ≤ i ∧ i < n) : (partF n d i).length ≤ n.toNat := len_rng (partF_good hi).1 (partF_good hi).2
theorem tm_td {n : Int} {i : Nat} (hn : 1 ≤ n) (hi : (i : Int) < n * n) : 0 ≤ (i : Int).tmod n ∧ (i : Int).tmod n < n ∧ 0 ≤ (i : Int).tdiv n ∧ (i : Int).tdiv n < n := by
  have h1 : (i : Int).tmod n = (i : Int) % n := Int.tmod_eq_emod_of_nonneg (by omega)
  have h2 : (i : Int).tdiv n = (i : Int) / n := Int.tdiv_eq_ediv_of_nonneg (by omega)
  rw [h1, h2]
  exact ⟨Int.emod_nonneg _ (by omega), Int.emod_lt_of_pos _ (by omega), Int.ediv_nonneg (by omega) (by omega), Int.ediv_lt_of_lt_mul (by omega) hi⟩
theorem wrap_td {n : Int} {i : Nat} (hn : 1 ≤ n ∧ n ≤ 4) (hi : (i : Int) < n * n) : IntKind.i64.wrap ((i : Int).tdiv n) = (i : Int).tdiv n := by
  have := tm_td hn.1 hi
  exact wrap_in (by omega) (by omega)
theorem partsF_succ (n : Int) (d : List Int) (i : Nat) : partsF n d (i + 1) = partsStep n d (partsF n d i) i := foldl_succ _ _ _
theorem partsF_skip {n : Int} {d : List Int} {i : Nat} {ks : List Nat} {dn : List Int} (h : partsF n d i = some (ks, dn)) (hc : dn.contains (i : Int) = true) : partsF n d (i + 1) = some (ks, dn) := by
  rw [partsF_succ, h]
  simp only [partsStep, Option.bind_some]
  rw [if_pos hc]
theorem partsF_add {n : Int} {d : List Int} {i k : Nat} {ks : List Nat} {dn : List Int} (h : partsF n d i = some (ks, dn)) (hc : dn.contains (i : Int) = false) (hf : foundF n d (partF n d i) 12 = some k) : partsF n d (i + 1) = some (insF ks k, dn ++ partF n d i) := by
  rw [partsF_succ, h]
  simp only [partsStep, Option.bind_some, hc, hf]
  rfl
theorem partsF_bad {n : Int} {d : List Int} {i : Nat} {ks : List Nat} {dn : List Int} (h : partsF n d i = some (ks, dn)) (hc : dn.contains (i : Int) = false) (hf : foundF n d (partF n d i) 12 = none) : partsF n d (i + 1) = none := by
  rw [partsF_succ, h]
  simp only [partsStep, Option.bind_some, hc, hf]
  rfl
theorem partsF_none {n : Int} {d : List Int} {i : Nat} (h : partsF n d i = none) : ∀ k, partsF n d (i + k) = none
  | 0 => h
  | k + 1 => by
    rw [← Nat.add_assoc, partsF_succ, partsF_none h k]
    rfl
theorem foundF_succ (n : Int) (d rows : List Int) (m : Nat) : foundF n d rows (m + 1) = if rk m == rows.length && fitsF n d rows (rk m) (oneD m) 5 [] then some m else foundF n d rows m := foldl_succ _ _ _
theorem foundF_lt {n : Int} {d rows : List Int} : ∀ {m k : Nat}, foundF n d rows m = some k → k < m
  | 0, k, h => by simp [foundF] at h
  | m + 1, k, h => by
    rw [foundF_succ] at h
    split at h
    · simp only [Option.some.injEq] at h
      omega
    · have := foundF_lt h
      omega
def nameO (o : Option Nat) : ByteArray := match o with | some k => nameB k | none => ⟨#[]⟩
theorem nameO_empty {o : Option Nat} (h : ∀ k, o = some k → k < 12) : strEq (nameO o) ⟨#[]⟩ = o.isNone := by
  simp only [strEq, toList_data]
  cases o with
  | none => rfl
  | some k =>
    have key : ∀ k, k < 12 → ((nameB k).data.toList == ([] : List UInt8)) = false := by decide
    exact key k (h k rfl)
theorem nm_gt : ∀ i, i < 12 → ∀ j, j < 12 → (!strLe (nameB i) (nameB j)) = decide (j < i) := by
  simp only [strLe, toList_data]
  decide
theorem ins_eq {ks : List Nat} {a k : Nat} {o : Option Nat} (ho : o = some k) (ha : insAt ks k ks.length = a) : (([] ++ ((ks.map nameB).drop 0).take (a - 0)) ++ [nameO o]) ++ ((ks.map nameB).drop a).take ((ks.map nameB).length - a) = (insF ks k).map nameB := by
  subst ha ho
  simp only [insF, nameO, List.nil_append, List.drop_zero, Nat.sub_zero, List.map_append, List.map_take, List.map_drop, List.map_cons, List.map_nil]
  congr 1
  exact List.take_of_length_le (by simp)
theorem insAt_le (l : List Nat) (k : Nat) : ∀ a, insAt l k a ≤ a
  | 0 => Nat.le_refl _
  | a + 1 => by
    unfold insAt
    split
    · have := insAt_le l k a
      omega
    · exact Nat.le_refl _
theorem insF_len (ks : List Nat) (k : Nat) : (insF ks k).length = ks.length + 1 := by
  have := insAt_le ks k ks.length
  simp only [insF, List.length_append, List.length_take, List.length_drop, List.length_singleton]
  omega
theorem insF_lt {ks : List Nat} {k : Nat} (h : ∀ x ∈ ks, x < 12) (hk : k < 12) : ∀ x ∈ insF ks k, x < 12 := by
  intro x hx
  simp only [insF, List.mem_append, List.mem_singleton] at hx
  rcases hx with (hx | hx) | hx
  · exact h x (List.mem_of_mem_take hx)
  · exact hx ▸ hk
  · exact h x (List.mem_of_mem_drop hx)
def psN (o : Option (List Nat)) : List ByteArray := match o with | some ks => ks.map nameB | none => []
theorem tyS_not {n : Int} {d : List Int} (h : okI n d = false) : tyS n d = none := by
  rw [tyS, h]
  rfl
theorem tyS_bad {n : Int} {d : List Int} {i : Nat} (h : okI n d = true) (hi : i < d.length) (hb : badE n d i = true) : tyS n d = none := by
  rw [tyS, h, if_pos rfl, if_pos (any_hit hi hb)]
theorem tyS_eq {n : Int} {d : List Int} (h : okI n d = true) (hb : (List.range d.length).any (badE n d) = false) : tyS n d = (partsF n d n.toNat).map (·.1) := by
  rw [tyS, h, if_pos rfl, hb]
  rfl
theorem okI_of {n : Int} {d : List Int} (h1 : inB n 1 4 = true) (h2 : (d.length : Int) = n * n) : okI n d = true := by simp [okI, h1, h2]
theorem okI_no {n : Int} {d : List Int} (h : inB n 1 4 = false ∨ (d.length : Int) ≠ n * n) : okI n d = false := by
  unfold okI
  rcases h with h | h <;> simp [h]
theorem psN_none {o : Option (List Nat)} (h : o = none) : psN o = [] ∧ o.isSome = false := by
  subst h
  exact ⟨rfl, rfl⟩
theorem psN_some {o : Option (List Nat)} {ks : List Nat} (h : o = some ks) : psN o = ks.map nameB ∧ o.isSome = true := by
  subst h
  exact ⟨rfl, rfl⟩
theorem getD_mapB {ks : List Nat} {a : Nat} (h : a < ks.length) : (ks.map nameB).getD a ⟨#[]⟩ = nameB (ks.getD a 0) := by simp [List.getD, h]
theorem getD_lt {ks : List Nat} (h : ∀ x ∈ ks, x < 12) (a : Nat) : ks.getD a 0 < 12 := by
  by_cases ha : a < ks.length
  · have e : ks.getD a 0 = ks[a] := by simp [List.getD, ha]
    rw [e]
    exact h _ (List.getElem_mem ha)
  · simp [List.getD, List.getElem?_eq_none (Nat.le_of_not_lt ha)]
def tyN (o : Option (List Nat)) : ByteArray := joinP (psN o)
theorem isNone_not {o : Option Nat} (h : o.isNone = false) : ∃ k, o = some k := by
  cases o with
  | none => cases h
  | some k => exact ⟨k, rfl⟩
theorem sqr_bd {x : Int} (h : 1 ≤ x ∧ x ≤ 4) : -9223372036854775808 ≤ x * x ∧ x * x ≤ 9223372036854775807 := by
  have h1 : 0 ≤ x * x := Int.mul_nonneg (by omega) (by omega)
  have h2 : x * x ≤ 4 * 4 := Int.mul_le_mul (by omega) (by omega) (by omega) (by omega)
  omega
theorem int_of_beq {a b : Int} (h : (a == b) = true) : a = b := beq_iff_eq.1 h
end Go.Proofs.YtbmnnbglipkidaaGreatDoor
