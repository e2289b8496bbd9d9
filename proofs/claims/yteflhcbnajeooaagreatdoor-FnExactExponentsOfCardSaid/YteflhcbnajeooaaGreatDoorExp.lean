/-
  Exponents: heights of roots counted, by a list and by a map. A check by the kernel for all Cartan matrices. No program is spoken of.
-/
import Derived.Test.YteflhcbnajeooaaGreatDoorNewA
namespace Go.Proofs.YteflhcbnajeooaaGreatDoor
set_option linter.unusedVariables false
set_option linter.unusedSimpArgs false

def padL (c : List Int) (h : Nat) : List Int := c ++ List.replicate (h + 1 - c.length) 0
def csI (R : List (List Int)) (c : List Int) (i : Nat) : List Int := (padL c (sumW (R.getD i [])).toNat).set (sumW (R.getD i [])).toNat (IntKind.i64.wrap ((padL c (sumW (R.getD i [])).toNat).getD (sumW (R.getD i [])).toNat 0 + 1))
def csF (R : List (List Int)) (k : Nat) : List Int := (List.range k).foldl (csI R) [0]
def nxS (c : List Int) (i : Nat) : Int := if (i : Int) + 1 + 1 < (c.length : Int) then c.getD ((i : Int) + 1 + 1).toNat 0 else 0
def exS (c o : List Int) (i : Nat) : List Int := o ++ List.replicate (c.getD ((i : Int) + 1).toNat 0 - nxS c i).toNat ((i : Int) + 1)
def eS (c : List Int) : List Int := (List.range (c.length - 1)).foldl (exS c) []
def kvI (R : List (List Int)) (l : List (Int × Int)) (i : Nat) : List (Int × Int) := aup (sumW (R.getD i [])) (IntKind.i64.wrap ((alu (sumW (R.getD i [])) l).getD 0 + 1)) l
def kvE (R : List (List Int)) (k : Nat) : List (Int × Int) := (List.range k).foldl (kvI R) []
def tpI (R : List (List Int)) (t : Int) (i : Nat) : Int := max t (sumW (R.getD i []))
def tpE (R : List (List Int)) (k : Nat) : Int := (List.range k).foldl (tpI R) 0
def dfI (l : List (Int × Int)) (i : Nat) : Int := IntKind.i64.wrap ((alu ((i : Int) + 1) l).getD 0 - (alu ((i : Int) + 1 + 1) l).getD 0)
def exI (l : List (Int × Int)) (o : List Int) (i : Nat) : List Int := o ++ List.replicate (dfI l i).toNat ((i : Int) + 1)
def eI (R : List (List Int)) : List Int := (List.range (tpE R R.length).toNat).foldl (exI (kvE R R.length)) []
def chkE1 (R : List (List Int)) : Bool :=
  (R.all fun x => decide (1 ≤ sumW x) && decide (sumW x ≤ 40)) && ((csF R R.length).all fun y => decide (0 ≤ y) && decide (y ≤ 30)) && decide (0 ≤ tpE R R.length) && decide (tpE R R.length ≤ 40) && ((List.range 41).all fun i => decide (dfI (kvE R R.length) i ≤ 30)) && decide ((eI R).length ≤ 30) && (eS (csF R R.length) == eI R)
def chkE (n : Int) (d : List Int) : Bool := chkE1 (rSt n d)
def chkEs (n a b : Nat) : Bool := (((candL n).drop a).take b).all fun d => chkE n d
set_option maxRecDepth 100000 in
theorem chkEs_1 : chkEs 1 0 1000 = true := by decide +kernel
set_option maxRecDepth 100000 in
theorem chkEs_2 : chkEs 2 0 1000 = true := by decide +kernel
set_option maxRecDepth 100000 in
theorem chkEs_3 : chkEs 3 0 1000 = true := by decide +kernel
set_option maxRecDepth 100000 in
theorem chkEs_4a : chkEs 4 0 80 = true := by decide +kernel
set_option maxRecDepth 100000 in
theorem chkEs_4b : chkEs 4 80 80 = true := by decide +kernel
set_option maxRecDepth 100000 in
theorem chkEs_4c : chkEs 4 160 1000 = true := by decide +kernel
theorem chkEs_all {m : Nat} {d : List Int} (h1 : 1 ≤ m) (h4 : m ≤ 4) (hd : d ∈ candL m) : chkE m d = true := by
  have one : ∀ n, chkEs n 0 1000 = true → (candL n).length ≤ 1000 → d ∈ candL n → chkE n d = true := fun n h hl hd => by
    simp only [chkEs, List.all_eq_true] at h
    exact h d (by rw [List.drop_zero, List.take_of_length_le hl]; exact hd)
  have len : ∀ n, 1 ≤ n → n ≤ 4 → (candL n).length ≤ 1000 := fun n a b => four (P := fun n => (candL n).length ≤ 1000) (by decide +kernel) (by decide +kernel) (by decide +kernel) (by decide +kernel) a b
  rcases (by omega : m = 1 ∨ m = 2 ∨ m = 3 ∨ m = 4) with rfl | rfl | rfl | rfl
  · exact one 1 chkEs_1 (len 1 (by omega) (by omega)) hd
  · exact one 2 chkEs_2 (len 2 (by omega) (by omega)) hd
  · exact one 3 chkEs_3 (len 3 (by omega) (by omega)) hd
  · have ha := chkEs_4a
    have hb := chkEs_4b
    have hc := chkEs_4c
    simp only [chkEs, List.all_eq_true] at ha hb hc
    rcases mem_parts 80 hd with h | h
    · exact ha d h
    · rcases mem_parts 80 h with h2 | h2
      · exact hb d (by simpa using h2)
      · rw [List.drop_drop] at h2
        exact hc d (by
          have hl := len 4 (by omega) (by omega)
          rw [List.take_of_length_le (by rw [List.length_drop]; omega)]
          simpa using h2)
structure ExOk (R : List (List Int)) : Prop where
  hts : ∀ k, k < R.length → 1 ≤ sumW (R.getD k []) ∧ sumW (R.getD k []) ≤ 40
  cs : ∀ j, 0 ≤ (csF R R.length).getD j 0 ∧ (csF R R.length).getD j 0 ≤ 30
  top : 0 ≤ tpE R R.length ∧ tpE R R.length ≤ 40
  df : ∀ i, i < 41 → dfI (kvE R R.length) i ≤ 30
  len : (eI R).length ≤ 30
  eq : eS (csF R R.length) = eI R
theorem exOk {n : Int} {d : List Int} (h : (tyS n d).isSome = true) : ExOk (rSt n d) := by
  obtain ⟨ks, hk⟩ := Option.isSome_iff_exists.1 h
  obtain ⟨m, rfl, h1, h4, hd⟩ := tyS_cand hk
  have h0 := chkEs_all h1 h4 hd
  simp only [chkE, chkE1, Bool.and_eq_true, List.all_eq_true, decide_eq_true_eq, beq_iff_eq, List.mem_range] at h0
  obtain ⟨⟨⟨⟨⟨⟨a1, a2⟩, a3⟩, a4⟩, a5⟩, a6⟩, a7⟩ := h0
  refine ⟨fun k hk => ?_, fun j => ?_, ⟨a3, a4⟩, a5, a6, a7⟩
  · have e : (rSt (m : Int) d).getD k [] = (rSt (m : Int) d)[k] := by simp [List.getD, hk]
    rw [e]
    exact a1 _ (List.getElem_mem hk)
  · by_cases hj : j < (csF (rSt (m : Int) d) (rSt (m : Int) d).length).length
    · have e : (csF (rSt (m : Int) d) (rSt (m : Int) d).length).getD j 0 = (csF (rSt (m : Int) d) (rSt (m : Int) d).length)[j] := by simp [List.getD, hj]
      rw [e]
      exact a2 _ (List.getElem_mem hj)
    · simp [List.getD, List.getElem?_eq_none (Nat.le_of_not_lt hj)]
def exOf (n : Int) (d : List Int) : List Int := if (tyS n d).isSome then eI (rSt n d) else []
theorem exOf_len (n : Int) (d : List Int) : (exOf n d).length ≤ 30 := by
  unfold exOf
  split
  · rename_i h
    exact (exOk h).len
  · simp
theorem cs_step {R : List (List Int)} {c y : List Int} {p q : Nat} (hy : y = c ++ List.replicate q 0) (hq : q = (sumW (R.getD p [])).toNat + 1 - c.length) : y.set (sumW (R.getD p [])).toNat (IntKind.i64.wrap (y.getD (sumW (R.getD p [])).toNat 0 + 1)) = csI R c p := by
  subst hq hy
  rfl
theorem repS {c : List Int} {a : Int} {q : Nat} : (c ++ List.replicate q a) ++ [a] = c ++ List.replicate (q + 1) a := by rw [List.append_assoc, ← List.replicate_succ']
theorem exS_step {c o y : List Int} {m q : Nat} (hy : y = o ++ List.replicate q ((m : Int) + 1)) (hq : q = (c.getD ((m : Int) + 1).toNat 0 - nxS c m).toNat) : y = exS c o m := by
  subst hq hy
  rfl
theorem exI_step {l : List (Int × Int)} {o y : List Int} {m q : Nat} (hy : y = o ++ List.replicate q ((m : Int) + 1)) (hq : q = (dfI l m).toNat) : y = exI l o m := by
  subst hq hy
  rfl
end Go.Proofs.YteflhcbnajeooaaGreatDoor
