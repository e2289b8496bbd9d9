/-
  Exponentials of matrices as the two texts reckon them: they agree. No program is spoken of.
-/
import Derived.Test.YtiapoopcicjldaaExp6
import Derived.Test.YtiapoopcicjldaaInvE
namespace Go.Proofs.Ytiapoopcicjldaa
set_option linter.unusedVariables false
set_option linter.unusedSimpArgs false
set_option linter.unusedVariables false
set_option linter.unusedSimpArgs false
theorem ivE_of {n p r : Int} (h : ivR 30 n p 1 0 = some r) : ivE n p = r % p := by rw [ivE, h]
def exA (p n : Int) (m : List Int) : Nat → List Int
  | 0 => List.replicate (n * n).toNat 0
  | k + 1 => addF (fcM p (fun i => ivE i p) k) p (exA p n m k) (pwI p n m k)
def tmA (p n : Int) (m : List Int) : Nat → List Int
  | 0 => unI n
  | k + 1 => (mulF p n n n (tmA p n m k) m).map (fun x => (x * (ivO ((k : Int) + 1) p % p)).tmod p)
def exB (p n : Int) (m : List Int) : Nat → List Int
  | 0 => List.replicate (n * n).toNat 0
  | k + 1 => addF 1 p (exB p n m k) (tmA p n m k)
theorem exA_len {p n : Int} {m : List Int} : ∀ k, (exA p n m k).length = (n * n).toNat
  | 0 => by simp [exA]
  | k + 1 => by rw [exA, addF_len]; exact exA_len k
theorem exB_len {p n : Int} {m : List Int} : ∀ k, (exB p n m k).length = (n * n).toNat
  | 0 => by simp [exB]
  | k + 1 => by rw [exB, addF_len]; exact exB_len k
theorem tmA_len {p n : Int} {m : List Int} : ∀ k, (tmA p n m k).length = (n * n).toNat
  | 0 => unI_len n
  | k + 1 => by rw [tmA, List.length_map]; exact mulF_len ..
theorem exA_rg {p n : Int} {m : List Int} (hp : 1 < p) : ∀ k, Rg p (exA p n m k)
  | 0 => Rg.rep (by omega) _
  | k + 1 => addF_rg (by omega) (exA_rg hp k)
theorem exB_rg {p n : Int} {m : List Int} (hp : 1 < p) : ∀ k, Rg p (exB p n m k)
  | 0 => Rg.rep (by omega) _
  | k + 1 => addF_rg (by omega) (exB_rg hp k)
theorem tmA_rg {p n : Int} {m : List Int} (hp : 1 < p ∧ p ≤ 10007) (hm : Rg p m) : ∀ k, Rg p (tmA p n m k)
  | 0 => pwI_rg (m := m) hp hm 0
  | k + 1 => scM_rg (by omega) (mulF_rg (by omega) (tmA_rg hp hm k) hm)
theorem exA_eq {p : Int} {n : Nat} {m : List Int} : ∀ k, exA p n m k = exI p n m (fun i => ivE i p) k
  | 0 => by rw [exA, exI, idxN]
  | k + 1 => by rw [exA, exI, exA_eq k, pwI_eq]
theorem tmA_eq {p : Int} {n : Nat} {m : List Int} : ∀ k, tmA p n m k = tmM p n m (fun i => ivO i p) k
  | 0 => unI_eq n
  | k + 1 => by rw [tmA, tmM, tmA_eq k]; rfl
theorem exB_eq {p : Int} {n : Nat} {m : List Int} : ∀ k, exB p n m k = exS p n m (fun i => ivO i p) k
  | 0 => by rw [exB, exS, idxN]
  | k + 1 => by rw [exB, exS, exB_eq k, tmA_eq]
theorem ex_same {p r : Int} {m : List Int} (h : matOkB ⟨p, r, r, m⟩ = true) {k : Nat} (hk : (k : Int) ≤ p) (hk2 : k ≤ 41) : exA p r m k = exB p r m k := by
  have ok := matOk_of h
  have hp := ok.p0
  have hp1 := ok.p1
  have hr := ok.r0
  have hg := matOk_rg h
  have hpr := (matOk_three h).1
  simp only at hp hp1 hr hg hpr
  obtain ⟨q, rfl⟩ : ∃ q : Nat, r = q := ⟨r.toNat, by omega⟩
  have hl : m.length = q * q := by
    have := ok.len
    simp only at this
    rw [← Int.natCast_mul] at this
    omega
  rw [exA_eq, exB_eq, ← ex_eq (by omega) hg hl]
  refine exI_congr fun i h1 h2 => ?_
  obtain ⟨x, e, _⟩ := inv_ok (p := p) (k := i) hpr h1 (by omega) (by omega)
  show ivE i p = ivO i p
  rw [ivE_of e]
  exact inv_eq hpr h1 (by omega) (by omega) e
theorem inv_has {p : Int} {k : Nat} (hp : primeB p = true) (h1 : 1 ≤ k) (h2 : k ≤ 40) (h3 : (k : Int) < p) : ∃ r, ivR 30 k p 1 0 = some r := by
  obtain ⟨r, e, _⟩ := inv_ok hp h1 h2 h3
  exact ⟨r, e⟩
theorem nlF_ok {M : Mat} (h : 0 ≤ nlF M) : matOkB M = true ∧ M.r = M.c ∧ nlF M ≤ 40 := by
  by_cases hc : matOkB M = true ∧ M.r = M.c
  · refine ⟨hc.1, hc.2, ?_⟩
    have ok := matOk_of hc.1
    rw [nlF, if_pos hc] at h ⊢
    have := ok.r1
    have := ok.r0
    rcases nlG_bd (p := M.p) (n := M.r) (m := M.d) (f := M.r.toNat + 1) (k := 0) with g | g
    · omega
    · omega
  · rw [nlF, if_neg hc] at h
    omega
def exOk (M : Mat) : Bool := decide (0 ≤ nlF M) && decide (nlF M ≤ M.p)
def exF (M : Mat) : Mat := if exOk M = true then ⟨M.p, M.r, M.r, exA M.p M.r M.d (nlF M).toNat⟩ else ⟨0, 0, 0, []⟩
theorem pw_to {p n : Int} {m zs : List Int} {k : Nat} (h : zs = pwI p n m (k - 1)) (hk : 0 < k) : mulF p n n n zs m = pwI p n m (k + 1 - 1) := by
  obtain ⟨j, rfl⟩ : ∃ j, k = j + 1 := ⟨k - 1, by omega⟩
  rw [h]
  rfl
theorem ivE_bd {n p : Int} (hp : 0 < p) : 0 ≤ ivE n p ∧ ivE n p < p := by
  unfold ivE
  split
  · exact ⟨Int.emod_nonneg _ (by omega), Int.emod_lt_of_pos _ hp⟩
  · omega
theorem fc_to {p f : Int} {k : Nat} (hp : 1 < p) (h : f = fcM p (fun i => ivE i p) (k - 1)) (hk : 0 < k) : (f * ivE k p).tmod p = fcM p (fun i => ivE i p) (k + 1 - 1) := by
  obtain ⟨j, rfl⟩ : ∃ j, k = j + 1 := ⟨k - 1, by omega⟩
  have h1 := fcM_bd (p := p) (iv := fun i => ivE i p) hp j
  rw [h]
  show (fcM p (fun i => ivE i p) j * ivE ((j + 1 : Nat) : Int) p).tmod p = fcM p (fun i => ivE i p) j * ivE ((j + 1 : Nat) : Int) p % p
  exact Int.tmod_eq_emod_of_nonneg (Int.mul_nonneg h1.1 (ivE_bd (by omega)).1)
theorem ex_to {p n f : Int} {m ys zs : List Int} {k : Nat} (hy : ys = exA p n m k) (hz : zs = pwI p n m (k + 1 - 1)) (hf : f = fcM p (fun i => ivE i p) (k + 1 - 1)) : addF f p ys zs = exA p n m (k + 1) := by
  rw [hy, hz, hf]
  rfl
theorem exF_len (M : Mat) : (exF M).d.length ≤ 1600 := by
  unfold exF
  split
  · rename_i h
    simp only [exOk, Bool.and_eq_true, decide_eq_true_eq] at h
    have ok := matOk_of (nlF_ok h.1).1
    have := mulBd (A := 40) (B := 40) ⟨ok.r0, ok.r1⟩ ⟨ok.r0, ok.r1⟩
    show (exA M.p M.r M.d (nlF M).toNat).length ≤ 1600
    rw [exA_len]
    omega
  · simp
end Go.Proofs.Ytiapoopcicjldaa
