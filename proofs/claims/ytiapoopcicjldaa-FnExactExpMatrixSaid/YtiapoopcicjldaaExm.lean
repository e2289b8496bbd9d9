/-
  The exponential of a nilpotent matrix: powers times factors, and terms one out of the other, come to the same sums. No program is spoken of.
-/
import Derived.Test.YtiapoopcicjldaaRng
namespace Go.Proofs.Ytiapoopcicjldaa
set_option linter.unusedVariables false
set_option linter.unusedSimpArgs false
set_option linter.unusedVariables false
set_option linter.unusedSimpArgs false

/-- The unit matrix. -/
def unF (n : Nat) : List Int := (List.range n).foldl (fun (o : List Int) (i : Nat) => o.set (i * n + i) 1) (List.replicate (n * n) 0)
theorem unF_len (n : Nat) : (unF n).length = n * n := fold_inv (fun o : List Int => o.length = n * n) _ (by simp) fun o i _ h => by rw [List.length_set]; exact h
theorem unF_rg {p : Int} (hp : 1 < p) (n : Nat) : Rg p (unF n) := fold_inv (fun o => Rg p o) _ (Rg.rep (by omega) _) fun o i _ h => h.set (by omega) _
/-- Powers. -/
def pwM (p : Int) (n : Nat) (m : List Int) : Nat → List Int
  | 0 => unF n
  | k + 1 => mulF p n n n (pwM p n m k) m
theorem pwM_len {p : Int} {n : Nat} {m : List Int} : ∀ k, (pwM p n m k).length = n * n
  | 0 => unF_len n
  | k + 1 => mulN_len
theorem pwM_rg {p : Int} {n : Nat} {m : List Int} (hp : 1 < p ∧ p ≤ 10007) (hm : Rg p m) : ∀ k, Rg p (pwM p n m k)
  | 0 => unF_rg hp.1 n
  | k + 1 => mulF_rg (by omega) (pwM_rg hp hm k) hm
/-- Factors: the product of the inverses of the numbers from 1 on. -/
def fcM (p : Int) (iv : Nat → Int) : Nat → Int
  | 0 => 1
  | k + 1 => fcM p iv k * iv (k + 1) % p
theorem fcM_bd {p : Int} {iv : Nat → Int} (hp : 1 < p) : ∀ k, 0 ≤ fcM p iv k ∧ fcM p iv k < p
  | 0 => ⟨by simp [fcM], by simpa [fcM] using hp⟩
  | k + 1 => ⟨Int.emod_nonneg _ (by omega), Int.emod_lt_of_pos _ (by omega)⟩
/-- .. the sums of powers with factors. -/
def exI (p : Int) (n : Nat) (m : List Int) (iv : Nat → Int) : Nat → List Int
  | 0 => List.replicate (n * n) 0
  | k + 1 => addF (fcM p iv k) p (exI p n m iv k) (pwM p n m k)
/-- A matrix times a number. -/
def scM (p k : Int) (d : List Int) : List Int := d.map fun x => (x * (k % p)).tmod p
/-- Terms, one out of the other. -/
def tmM (p : Int) (n : Nat) (m : List Int) (iv : Nat → Int) : Nat → List Int
  | 0 => unF n
  | k + 1 => scM p (iv (k + 1)) (mulF p n n n (tmM p n m iv k) m)
/-- .. their sums. -/
def exS (p : Int) (n : Nat) (m : List Int) (iv : Nat → Int) : Nat → List Int
  | 0 => List.replicate (n * n) 0
  | k + 1 => addF 1 p (exS p n m iv k) (tmM p n m iv k)
theorem scM_len (p k : Int) (d : List Int) : (scM p k d).length = d.length := by simp [scM]
theorem scM_at {p k : Int} {n : Nat} {d : List Int} (hp : 0 < p) (h : Rg p d) (hl : d.length = n * n) {i j : Nat} (hi : i < n) (hj : j < n) : atN n (scM p k d) i j = atN n d i j * k % p := by
  have hq : i * n + j < d.length := by rw [hl]; exact at_lt hi hj
  have e : atN n (scM p k d) i j = (atN n d i j * (k % p)).tmod p := by
    unfold atN scM
    simp only [List.getD, List.getElem?_map, List.getElem?_eq_getElem hq, Option.map_some, Option.getD_some]
  have hh : 0 ≤ atN n d i j * (k % p) := Int.mul_nonneg (h (i * n + j)).1 (Int.emod_nonneg _ (by omega))
  rw [e, Int.tmod_eq_emod_of_nonneg hh, Int.mul_emod, Int.emod_emod, ← Int.mul_emod]
theorem scM_rg {p k : Int} {d : List Int} (hp : 0 < p) (h : Rg p d) : Rg p (scM p k d) := Rg.of hp fun x hx => by
  obtain ⟨y, hy, rfl⟩ := List.mem_map.1 hx
  have hn := Int.mul_nonneg (h.mem hy).1 (Int.emod_nonneg k (show p ≠ 0 by omega))
  exact ⟨Int.tmod_nonneg _ hn, Int.tmod_lt_of_pos _ hp⟩
theorem tmM_len {p : Int} {n : Nat} {m : List Int} {iv : Nat → Int} : ∀ k, (tmM p n m iv k).length = n * n
  | 0 => unF_len n
  | k + 1 => by rw [tmM, scM_len]; exact mulN_len
theorem tmM_rg {p : Int} {n : Nat} {m : List Int} {iv : Nat → Int} (hp : 1 < p ∧ p ≤ 10007) (hm : Rg p m) : ∀ k, Rg p (tmM p n m iv k)
  | 0 => unF_rg hp.1 n
  | k + 1 => scM_rg (by omega) (mulF_rg (by omega) (tmM_rg hp hm k) hm)
theorem tm_eq {p : Int} {n : Nat} {m : List Int} {iv : Nat → Int} (hp : 1 < p ∧ p ≤ 10007) (hm : Rg p m) (hl : m.length = n * n) : ∀ (k : Nat) {i j : Nat}, i < n → j < n → atN n (tmM p n m iv k) i j = fcM p iv k * atN n (pwM p n m k) i j % p
  | 0, i, j, hi, hj => by
    have := unF_rg hp.1 n (i * n + j)
    rw [tmM, pwM, fcM, Int.one_mul]
    exact (Int.emod_eq_of_lt this.1 this.2).symm
  | k + 1, i, j, hi, hj => by
    have hp0 : 0 < p ∧ p ≤ 10007 := by omega
    have ht := tmM_rg (iv := iv) (n := n) hp hm k
    have hw := pwM_rg (n := n) hp hm k
    rw [tmM, scM_at hp0.1 (mulF_rg hp0 ht hm) mulN_len hi hj, mulN_get hp0 ht hm hl hi hj, pwM, mulN_get hp0 hw hm hl hi hj, fcM]
    rw [sumN_congr (f := fun l => atN n (tmM p n m iv k) i l * atN n m l j) (g := fun l => (fcM p iv k * atN n (pwM p n m k) i l) % p * atN n m l j) fun l hlt => by rw [tm_eq hp hm hl k hi hlt], sumN_modL,
      sumN_congr (f := fun l => fcM p iv k * atN n (pwM p n m k) i l * atN n m l j) (g := fun l => fcM p iv k * (atN n (pwM p n m k) i l * atN n m l j)) fun l _ => Int.mul_assoc .., sumN_mulL]
    generalize sumN (fun l => atN n (pwM p n m k) i l * atN n m l j) n = s
    generalize fcM p iv k = f
    generalize iv (k + 1) = v
    rw [Int.mul_emod, Int.emod_emod, ← Int.mul_emod, Int.mul_emod (f * v % p), Int.emod_emod, Int.emod_emod, ← Int.mul_emod]
    congr 1
    rw [Int.mul_assoc, Int.mul_assoc, Int.mul_comm s v]
theorem exI_len {p : Int} {n : Nat} {m : List Int} {iv : Nat → Int} : ∀ k, (exI p n m iv k).length = n * n
  | 0 => by simp [exI]
  | k + 1 => by rw [exI, addF_len]; exact exI_len k
theorem ex_eq {p : Int} {n : Nat} {m : List Int} {iv : Nat → Int} (hp : 1 < p ∧ p ≤ 10007) (hm : Rg p m) (hl : m.length = n * n) : ∀ k, exI p n m iv k = exS p n m iv k
  | 0 => rfl
  | k + 1 => by
    have ih := ex_eq (iv := iv) hp hm hl k
    have hq : (exS p n m iv k).length = n * n := by rw [← ih]; exact exI_len k
    rw [exI, exS, ih]
    refine ext_atN (by rw [addF_len]; exact hq) (by rw [addF_len]; exact hq) fun i j hi hj => ?_
    have e1 : atN n (addF (fcM p iv k) p (exS p n m iv k) (pwM p n m k)) i j = (atN n (exS p n m iv k) i j + fcM p iv k * atN n (pwM p n m k) i j) % p := addF_at (by rw [hq, pwM_len]) (by rw [hq]; exact at_lt hi hj)
    have e2 : atN n (addF 1 p (exS p n m iv k) (tmM p n m iv k)) i j = (atN n (exS p n m iv k) i j + 1 * atN n (tmM p n m iv k) i j) % p := addF_at (by rw [hq, tmM_len]) (by rw [hq]; exact at_lt hi hj)
    rw [e1, e2, Int.one_mul, tm_eq hp hm hl k hi hj, Int.add_emod, Int.add_emod (atN n (exS p n m iv k) i j) (fcM p iv k * atN n (pwM p n m k) i j % p), Int.emod_emod]
/-- Two rows of inverses that agree where they count. -/
theorem fcM_congr {p : Int} {iv jv : Nat → Int} : ∀ {k : Nat}, (∀ i, 1 ≤ i → i ≤ k → iv i = jv i) → fcM p iv k = fcM p jv k
  | 0, _ => rfl
  | k + 1, h => by rw [fcM, fcM, fcM_congr fun i h1 h2 => h i h1 (by omega), h (k + 1) (by omega) (by omega)]
theorem exI_congr {p : Int} {n : Nat} {m : List Int} {iv jv : Nat → Int} : ∀ {k : Nat}, (∀ i, 1 ≤ i → i < k → iv i = jv i) → exI p n m iv k = exI p n m jv k
  | 0, _ => rfl
  | k + 1, h => by rw [exI, exI, exI_congr fun i h1 h2 => h i h1 (by omega), fcM_congr fun i h1 h2 => h i h1 (by omega)]
end Go.Proofs.Ytiapoopcicjldaa
