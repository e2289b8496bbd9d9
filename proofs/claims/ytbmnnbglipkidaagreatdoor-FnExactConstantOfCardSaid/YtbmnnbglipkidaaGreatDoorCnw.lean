/-
  Constants of roots: the constant of two positive roots, as both texts reckon it; what is remembered. No program is spoken of but what lies in maps and slices.
-/
import Derived.Test.YtbmnnbglipkidaaGreatDoorCnv
import Derived.Test.YtbmnnbglipkidaaGreatDoorHid
namespace Go.Proofs.YtbmnnbglipkidaaGreatDoor
set_option linter.unusedVariables false
set_option linter.unusedSimpArgs false
section
variable {n : Int} {d : List Int}
theorem cnFst_at {RH : List (List Int × Int)} {z : List Int} {h : List Int → Int} : ∀ (L : List (List Int)) {k : Nat}, k < L.length → (∀ j, j < k → cnF RH (lA z (-1) (L.getD j [])) = 0) → cnF RH (lA z (-1) (L.getD k [])) ≠ 0 → cnFst RH z (L.map fun r => (r, h r)) = (L.getD k [], lA z (-1) (L.getD k []))
  | [], k, hk, _, _ => by simp at hk
  | r :: t, 0, _, _, h2 => by
    rw [List.map_cons, cnFst, rcL_eq]
    have h3 : cnF RH (lA z (-1) r) ≠ 0 := h2
    rw [decide_eq_false h3]
    rfl
  | r :: t, k + 1, hk, h1, h2 => by
    rw [List.map_cons, cnFst, rcL_eq]
    have h3 : cnF RH (lA z (-1) r) = 0 := h1 0 (by omega)
    rw [decide_eq_true h3]
    exact cnFst_at t (by simpa using hk) (fun j hj => h1 (j + 1) (by omega)) h2
theorem cnRch_run (hS : (tyS n d).isSome = true) {g f : List Int} (hg : rtB (rSt n d) g = true) (hf : rtB (rSt n d) f = true) (hp : cnRch (cnRH n d) g f ≤ 3) :
    rch (fun (m : Nat) => fdB n (rKvs n d) (lpF g (-1 * (m : Int)) f)) 40 0 = cnRch (cnRH n d) g f ∧ rch (fun (m : Nat) => rtB (rSt n d) (lpF g (m : Int) (mnF f))) 40 0 = cnRch (cnRH n d) g f := by
  obtain ⟨g1, g2, _⟩ := rt_tens hS hg
  obtain ⟨f1, f2, _⟩ := rt_tens hS hf
  have hl : f.length = g.length := by omega
  have e : ∀ m : Nat, m ≤ 4 → (rcL (lA g (-(m : Int)) f) fun u => !(decide (cnH (cnRH n d) u = 0))) = rtB (rSt n d) (lA g (-(m : Int)) f) := fun m _ => by rw [rcL_eq, cnH_nz hS, Bool.not_not]
  have e1 : ∀ m : Nat, m ≤ 4 → fdB n (rKvs n d) (lpF g (-1 * (m : Int)) f) = rtB (rSt n d) (lA g (-(m : Int)) f) := fun m hm => by
    rw [← (rtOk hS).any (lpF_all64 (ten_64' g2)), lp_lA hl (by omega) (ten_fif g2) (ten_fif f2), Int.neg_mul, Int.one_mul]
  have e2 : ∀ m : Nat, m ≤ 4 → rtB (rSt n d) (lpF g (m : Int) (mnF f)) = rtB (rSt n d) (lA g (-(m : Int)) f) := fun m hm => by
    rw [lp_lA (by rw [mnF_len]; exact hl) (by omega) (ten_fif g2) (ten_fif (mn_ten f2)), lA_mn _ hl]
  obtain ⟨_, a2, a3⟩ := rch_out (f := fun (m : Nat) => rcL (lA g (-(m : Int)) f) fun u => !(decide (cnH (cnRH n d) u = 0))) 4 0
  have ep : cnRch (cnRH n d) g f = rch (fun (m : Nat) => rcL (lA g (-(m : Int)) f) fun u => !(decide (cnH (cnRH n d) u = 0))) 4 0 := rfl
  rw [← ep] at a2 a3
  generalize cnRch (cnRH n d) g f = p at *
  have b2 : ∀ j, j < p → rtB (rSt n d) (lA g (-((j + 1 : Nat) : Int)) f) = true := fun j hj => (e (j + 1) (by omega)).symm.trans (a2 j (Nat.zero_le _) hj)
  have b3 : rtB (rSt n d) (lA g (-((p + 1 : Nat) : Int)) f) = false := (e (p + 1) (by omega)).symm.trans (a3 (by omega))
  exact ⟨rch_is 40 0 p (Nat.zero_le _) (by omega) (fun j _ hj => (e1 (j + 1) (by omega)).trans (b2 j hj)) ((e1 (p + 1) (by omega)).trans b3), rch_is 40 0 p (Nat.zero_le _) (by omega) (fun j _ hj => (e2 (j + 1) (by omega)).trans (b2 j hj)) ((e2 (p + 1) (by omega)).trans b3)⟩
where
  ten_64' {x : List Int} (h : ten x) : All64 x := fun y hy => by
    obtain ⟨k, hk, rfl⟩ := List.mem_iff_getElem.1 hy
    have := h k
    have e : x.getD k 0 = x[k] := by simp [List.getD, hk]
    rw [e] at this
    exact ⟨by omega, by omega⟩
def shF (n : Int) (d a b c e : List Int) : Int := if rtB (rSt n d) (lA a 1 b) then (6 * nF n d a b * nF n d c e).tdiv (hn n d (lA a 1 b)) else 0
theorem cnSh_un (hS : (tyS n d).isSome = true) (a b c e : List Int) : cnSh (cnRH n d) (cnTT n d) a b c e = shF n d a b c e := by
  rw [cnSh, rcL_eq, rcZ_eq, cnH_nz hS, cnH_rh hS, shF]
  cases rtB (rSt n d) (lA a 1 b) <;> rfl
theorem shF_bd (hS : (tyS n d).isSome = true) {a b c e : List Int} (ha : rtB (rSt n d) a = true) (hb : rtB (rSt n d) b = true) (hc : rtB (rSt n d) c = true) (he : rtB (rSt n d) e = true) : -864 ≤ shF n d a b c e ∧ shF n d a b c e ≤ 864 := by
  rw [shF]
  split
  · rename_i h
    have h1 := nF_bd hS ha hb
    have h2 := nF_bd hS hc he
    have h3 := mul_abs (a := 6 * nF n d a b) (b := nF n d c e) (A := 72) (B := 12) (by omega) (by omega)
    exact tdiv_abs (hn_bd hS h).1 (by omega)
  · omega
structure Fst (n : Int) (d z : List Int) (k p : Nat) (r s : List Int) : Prop where
  hr : r ∈ rSt n d
  hs : s ∈ rSt n d
  sum : sP r + sP s = sP z
  hp : p ≤ 3
  run : rch (fun (m : Nat) => fdB n (rKvs n d) (lpF s (-1 * (m : Int)) r)) 40 0 = p
  runS : rch (fun (m : Nat) => rtB (rSt n d) (lpF s (m : Int) (mnF r))) 40 0 = p
  at_ : ∀ {x y}, x ∈ rSt n d → y ∈ rSt n d → lA x 1 y = z → nF n d x y = if x = r then (p : Int) + 1 else if y = r then -((p : Int) + 1) else (hn n d z * (shF n d y (mnF r) x (mnF s) + shF n d (mnF r) x y (mnF s))).tdiv (6 * ((p : Int) + 1))
theorem fst_at (hS : (tyS n d).isSome = true) {z : List Int} (hz : z ∈ rSt n d) {k : Nat} (hk : k < (rSt n d).length) (h0 : ∀ j, j < k → (rSt n d).contains (lA z (-1) ((rSt n d).getD j [])) = false) (h1 : (rSt n d).contains (lA z (-1) ((rSt n d).getD k [])) = true) :
    ∃ p, Fst n d z k p ((rSt n d).getD k []) (lA z (-1) ((rSt n d).getD k [])) := by
  have hr : (rSt n d).getD k [] ∈ rSt n d := by
    have e : (rSt n d).getD k [] = (rSt n d)[k] := by simp [List.getD, hk]
    rw [e]
    exact List.getElem_mem hk
  have hs := contains_mem.1 h1
  have hz0 : ∀ {u}, (rSt n d).contains u = false → cnF (cnRH n d) u = 0 := fun {u} h => by rw [cnF_rh, h]; rfl
  have hz1 : cnF (cnRH n d) (lA z (-1) ((rSt n d).getD k [])) ≠ 0 := fun e => by
    have := cnF_nz hS (lA z (-1) ((rSt n d).getD k []))
    rw [h1, decide_eq_true e] at this
    cases this
  have ef : cnFst (cnRH n d) z (cnRH n d) = ((rSt n d).getD k [], lA z (-1) ((rSt n d).getD k [])) := cnFst_at (rSt n d) hk (fun j hj => hz0 (h0 j hj)) hz1
  have hp := (cnCh (cnAll hS) hz).1
  have hta := fun {x y : List Int} (h : Dec n d z x y) => (tb_at hS h).1
  rw [ef] at hp
  simp only [ef] at hta
  generalize (rSt n d).getD k [] = r at *
  have hrun := cnRch_run hS (rt_in hs) (rt_in hr) hp
  have l1 := (root_get hS hz).1
  have l2 := (root_get hS hr).1
  refine ⟨_, hr, hs, ?_, hp, hrun.1, hrun.2, fun {x y} hx hy e => ?_⟩
  · rw [sP_lA (by omega)]
    omega
  · have hD : Dec n d z x y := by
      have := dec_of hS hx hy (by rw [e]; exact hz)
      rwa [e] at this
    have hsx := sP_root hS hx
    have hsy := sP_root hS hy
    rw [nF_pp hS (by rw [e]; exact rt_in hz) (by omega) (by omega), e, hta hD, cnE, lq_eq, lq_eq, rcL_eq, rcL_eq, cnSh_un hS, cnSh_un hS]
    by_cases e1 : x = r
    · simp [e1]
    · by_cases e2 : y = r
      · simp [e1, e2]
      · simp [e1, e2]
theorem pos_two {h A B nu nv a b p : Int} (hu : (nu = 1 ∨ nu = 2 ∨ nu = 3)) (hv : (nv = 1 ∨ nv = 2 ∨ nv = 3)) (hA : A = (6 * a).tdiv nu) (hB : B = (6 * b).tdiv nv) : (h * (A + B)).tdiv (6 * p) = (h * (a * nv + b * nu)).tdiv (nu * nv * p) := by
  have key : ∀ {c m : Int}, (m = 1 ∨ m = 2 ∨ m = 3) → (6 * c).tdiv m * m = 6 * c := fun {c m} hm => Int.tdiv_mul_cancel (by rcases hm with rfl | rfl | rfl <;> exact Int.dvd_trans (by decide) (Int.dvd_mul_right 6 c))
  have e1 : A * nu = 6 * a := by rw [hA]; exact key hu
  have e2 : B * nv = 6 * b := by rw [hB]; exact key hv
  have hnn : 0 < nu * nv := Int.mul_pos (by omega) (by omega)
  rw [← Int.mul_tdiv_mul_of_pos (h * (A + B)) (6 * p) hnn, ← Int.mul_tdiv_mul_of_pos (h * (a * nv + b * nu)) (nu * nv * p) (show (0 : Int) < 6 by omega)]
  have e3 : nu * nv * (h * (A + B)) = 6 * (h * (a * nv + b * nu)) := by
    have : nu * nv * (h * (A + B)) = h * (nv * (A * nu) + nu * (B * nv)) := by
      simp only [Int.mul_add, Int.mul_comm, Int.mul_left_comm, Int.mul_assoc]
    rw [this, e1, e2]
    simp only [Int.mul_add, Int.add_mul, Int.mul_comm, Int.mul_left_comm, Int.mul_assoc]
  have e4 : nu * nv * (6 * p) = 6 * (nu * nv * p) := by simp only [Int.mul_comm, Int.mul_left_comm, Int.mul_assoc]
  rw [e3, e4]
def KpOk (n : Int) (d : List Int) (kv : List ((List Int × List Int) × Int)) : Prop := ∀ x y v, alu (x, y) kv = some v → v = nF n d x y
theorem KpOk.nil : KpOk n d [] := fun x y v h => by cases h
theorem KpOk.get {kv : List ((List Int × List Int) × Int)} (h : KpOk n d kv) {x y : List Int} (hs : (alu (x, y) kv).isSome = true) : (alu (x, y) kv).getD 0 = nF n d x y := by
  obtain ⟨v, hv⟩ := Option.isSome_iff_exists.1 hs
  rw [hv]
  exact h x y v hv
theorem KpOk.up {kv : List ((List Int × List Int) × Int)} (h : KpOk n d kv) {x y : List Int} {v : Int} (hv : v = nF n d x y) : KpOk n d (aup (x, y) v kv) := fun x' y' v' h' => by
  rw [alu_aup] at h'
  split at h'
  · rename_i e
    cases e
    cases h'
    exact hv
  · exact h x' y' v' h'
def MmOk (n : Int) (d : List Int) (ds : List Bool) (vs : List Int) : Prop := ds.length = (rSt n d).length * (rSt n d).length ∧ vs.length = (rSt n d).length * (rSt n d).length ∧
  ∀ i j, i < (rSt n d).length → j < (rSt n d).length → ds.getD (i * (rSt n d).length + j) false = true → vs.getD (i * (rSt n d).length + j) 0 = nF n d ((rSt n d).getD i []) ((rSt n d).getD j [])
theorem MmOk.new {m : Nat} (hm : m = (rSt n d).length * (rSt n d).length) : MmOk n d (List.replicate m false) (List.replicate m 0) := ⟨by simp [hm], by simp [hm], fun i j _ _ h => by
  rw [List.getD_eq_getElem?_getD, List.getElem?_replicate] at h
  split at h <;> cases h⟩
theorem pair_lt {m i j : Nat} (hi : i < m) (hj : j < m) : i * m + j < m * m := by
  have : (i + 1) * m ≤ m * m := Nat.mul_le_mul_right m hi
  rw [Nat.succ_mul] at this
  omega
theorem pair_inj {m i j i' j' : Nat} (hj : j < m) (hj' : j' < m) (h : i * m + j = i' * m + j') : i = i' ∧ j = j' := by
  have hi : i = i' := by
    have e1 : (i * m + j) / m = i := by rw [Nat.mul_comm, Nat.mul_add_div (by omega), Nat.div_eq_of_lt hj]; omega
    have e2 : (i' * m + j') / m = i' := by rw [Nat.mul_comm, Nat.mul_add_div (by omega), Nat.div_eq_of_lt hj']; omega
    rw [← e1, h, e2]
  subst hi
  exact ⟨rfl, by omega⟩
theorem MmOk.set {ds : List Bool} {vs : List Int} (h : MmOk n d ds vs) {i j : Nat} (hi : i < (rSt n d).length) (hj : j < (rSt n d).length) {v : Int} (hv : v = nF n d ((rSt n d).getD i []) ((rSt n d).getD j [])) : MmOk n d (ds.set (i * (rSt n d).length + j) true) (vs.set (i * (rSt n d).length + j) v) := by
  obtain ⟨h1, h2, h3⟩ := h
  refine ⟨by rw [List.length_set]; exact h1, by rw [List.length_set]; exact h2, fun i' j' hi' hj' h' => ?_⟩
  by_cases e : i * (rSt n d).length + j = i' * (rSt n d).length + j'
  · obtain ⟨rfl, rfl⟩ := pair_inj hj hj' e
    have := pair_lt hi hj
    rw [← hv]
    simp [List.getD, show i * (rSt n d).length + j < vs.length by omega]
  · have e1 : (ds.set (i * (rSt n d).length + j) true).getD (i' * (rSt n d).length + j') false = ds.getD (i' * (rSt n d).length + j') false := by simp [List.getD, List.getElem?_set_ne e]
    have e2 : (vs.set (i * (rSt n d).length + j) v).getD (i' * (rSt n d).length + j') 0 = vs.getD (i' * (rSt n d).length + j') 0 := by simp [List.getD, List.getElem?_set_ne e]
    rw [e2]
    exact h3 i' j' hi' hj' (e1.symm.trans h')
theorem pl_root {L : List (List Int)} {x : List Int} (hx : x ∈ L) : (plF L x).toNat < L.length ∧ L.getD (plF L x).toNat [] = x ∧ 0 ≤ plF L x := by
  have h0 := plF_c (contains_mem.2 hx)
  unfold plF posF at h0 ⊢
  split at h0
  · rename_i i hi
    obtain ⟨h1, h2, _⟩ := List.findIdx?_eq_some_iff_getElem.1 hi
    have e : L.getD i [] = L[i] := by simp [List.getD, h1]
    refine ⟨by simpa using h1, ?_, by simp⟩
    rw [show ((i : Nat) : Int).toNat = i by omega, e]
    exact (of_decide_eq_true (by simpa [samB_eq] using h2) : x = L[i]).symm
  · omega
def hfP (n : Int) (d : List Int) (p : Nat) : List (List Int × Int) := (List.range p).foldl (fun l i => aup ((rSt n d).getD i []) (hfF n d ((rSt n d).getD i [])) l) []
theorem hfP_succ (p : Nat) : hfP n d (p + 1) = aup ((rSt n d).getD p []) (hfF n d ((rSt n d).getD p [])) (hfP n d p) := by rw [hfP, foldl_succ]; rfl
def hfK (n : Int) (d : List Int) : List (List Int × Int) := hfP n d (rSt n d).length
theorem alu_hfP (x : List Int) : ∀ p : Nat, p ≤ (rSt n d).length → alu x (hfP n d p) = if ((rSt n d).take p).contains x then some (hfF n d x) else none
  | 0, _ => by simp [hfP, alu]
  | p + 1, hp => by
    rw [hfP_succ, alu_aup, alu_hfP x p (by omega), takeD_snoc (d := []) (by omega)]
    by_cases e : x = (rSt n d).getD p []
    · rw [if_pos e, if_pos (by simp [e]), ← e]
    · rw [if_neg e]
      have e2 : ((rSt n d).take p ++ [(rSt n d).getD p []]).contains x = ((rSt n d).take p).contains x := by
        rw [Bool.eq_iff_iff]
        simp only [List.contains_iff_mem, List.mem_append, List.mem_singleton]
        exact ⟨fun h => h.resolve_right e, .inl⟩
      rw [e2]
theorem hfK_get (hS : (tyS n d).isSome = true) {x : List Int} (hx : x ∈ rSt n d) : (alu x (hfK n d)).getD 0 = hn n d x := by
  rw [hfK, alu_hfP x _ (Nat.le_refl _), List.take_length, if_pos (contains_mem.2 hx), ← hf_of hS (rt_in hx)]
  rfl
end
end Go.Proofs.YtbmnnbglipkidaaGreatDoor
