/-
  Products of square matrices over a field, entry by entry: associative, distributive over sums, traces, transposed ones. No program is spoken of.
-/
import Derived.Test.YtiapoopcicjldaaMul
namespace Go.Proofs.Ytiapoopcicjldaa
set_option linter.unusedVariables false
set_option linter.unusedSimpArgs false
set_option linter.unusedVariables false
set_option linter.unusedSimpArgs false

/-! Sums -/
theorem ext_getN {x y : List Int} (hl : x.length = y.length) (h : ∀ k, k < x.length → x.getD k 0 = y.getD k 0) : x = y := by
  refine List.ext_getElem hl fun k h1 h2 => ?_
  have := h k h1
  simpa [List.getD, h1, h2] using this
def sumN (f : Nat → Int) : Nat → Int
  | 0 => 0
  | m + 1 => sumN f m + f m
theorem sumN_congr {f g : Nat → Int} : ∀ {m : Nat}, (∀ k, k < m → f k = g k) → sumN f m = sumN g m
  | 0, _ => rfl
  | m + 1, h => by rw [sumN, sumN, sumN_congr fun k hk => h k (by omega), h m (by omega)]
theorem sumN_add {f g : Nat → Int} : ∀ {m : Nat}, sumN (fun k => f k + g k) m = sumN f m + sumN g m
  | 0 => rfl
  | m + 1 => by simp only [sumN, sumN_add (m := m)]; omega
theorem sumN_mulL {f : Nat → Int} {c : Int} : ∀ {m : Nat}, sumN (fun k => c * f k) m = c * sumN f m
  | 0 => by simp [sumN]
  | m + 1 => by simp only [sumN, sumN_mulL (m := m), Int.mul_add]
theorem sumN_mulR {f : Nat → Int} {c : Int} : ∀ {m : Nat}, sumN (fun k => f k * c) m = sumN f m * c
  | 0 => by simp [sumN]
  | m + 1 => by simp only [sumN, sumN_mulR (m := m), Int.add_mul]
theorem sumN_zero : ∀ {m : Nat}, sumN (fun _ => 0) m = 0
  | 0 => rfl
  | m + 1 => by simp only [sumN, sumN_zero (m := m)]; rfl
theorem sumN_swap {f : Nat → Nat → Int} : ∀ {m n : Nat}, sumN (fun i => sumN (fun j => f i j) n) m = sumN (fun j => sumN (fun i => f i j) m) n
  | 0, n => by simp only [sumN, sumN_zero]
  | m + 1, n => by simp only [sumN]; rw [sumN_add, sumN_swap (m := m)]
theorem sumN_mod {f : Nat → Int} {p : Int} : ∀ {m : Nat}, sumN (fun k => f k % p) m % p = sumN f m % p
  | 0 => rfl
  | m + 1 => by simp only [sumN]; rw [Int.add_emod, sumN_mod (m := m), Int.emod_emod, ← Int.add_emod]
theorem sumN_modL {f g : Nat → Int} {p : Int} {m : Nat} : sumN (fun k => f k % p * g k) m % p = sumN (fun k => f k * g k) m % p := by
  rw [← sumN_mod, ← sumN_mod (f := fun k => f k * g k)]
  congr 1
  exact sumN_congr fun k _ => by rw [Int.mul_emod, Int.emod_emod, ← Int.mul_emod]
theorem sumN_modR {f g : Nat → Int} {p : Int} {m : Nat} : sumN (fun k => f k * (g k % p)) m % p = sumN (fun k => f k * g k) m % p := by
  rw [← sumN_mod, ← sumN_mod (f := fun k => f k * g k)]
  congr 1
  exact sumN_congr fun k _ => by rw [Int.mul_emod, Int.emod_emod, ← Int.mul_emod]
theorem sumN_bd {f : Nat → Int} {b : Int} : ∀ {m : Nat}, (∀ k, k < m → 0 ≤ f k ∧ f k ≤ b) → 0 ≤ sumN f m ∧ sumN f m ≤ b * m
  | 0, _ => by simp [sumN]
  | m + 1, h => by
    have h1 := sumN_bd (m := m) fun k hk => h k (by omega)
    have h2 := h m (by omega)
    rw [sumN, show ((m + 1 : Nat) : Int) = (m : Int) + 1 by omega, Int.mul_add, Int.mul_one]
    omega

/-! Entries -/
theorem getD_set_eq {x : List Int} {k q : Nat} {v : Int} : (x.set k v).getD q 0 = if k = q ∧ q < x.length then v else x.getD q 0 := by
  by_cases h : k = q
  · subst h
    by_cases h2 : k < x.length
    · rw [if_pos ⟨rfl, h2⟩]
      simp [List.getD, h2]
    · rw [if_neg fun e => h2 e.2, List.set_eq_of_length_le (by omega)]
  · rw [if_neg fun e => h e.1]
    simp [List.getD, List.getElem?_set, h]
theorem fold_at {g : Nat → Int → Int} {x : List Int} {l : Nat} : ∀ {m q : Nat}, l + m ≤ x.length → ((List.range m).foldl (fun (o : List Int) (i : Nat) => o.set (l + i) (g i (o.getD (l + i) 0))) x).getD q 0 = if l ≤ q ∧ q < l + m then g (q - l) (x.getD q 0) else x.getD q 0
  | 0, q, _ => by
    rw [if_neg (by omega)]
    rfl
  | m + 1, q, h => by
    have hl : ((List.range m).foldl (fun (o : List Int) (i : Nat) => o.set (l + i) (g i (o.getD (l + i) 0))) x).length = x.length := fold_inv (fun o : List Int => o.length = x.length) _ rfl fun o i _ h => by rw [List.length_set]; exact h
    rw [foldl_sn, getD_set_eq, hl, fold_at (by omega), fold_at (by omega)]
    by_cases h1 : l + m = q
    · subst h1
      rw [if_pos ⟨rfl, by omega⟩, if_neg (by omega), if_pos (by omega), Nat.add_sub_cancel_left]
    · rw [if_neg (by omega)]
      by_cases h2 : l ≤ q ∧ q < l + m
      · rw [if_pos h2, if_pos (by omega)]
      · rw [if_neg h2, if_neg (by omega)]
theorem addR_at {p k : Int} {x y : List Int} {l q : Nat} (hp : 0 < p ∧ p ≤ 10007) (hk : 0 ≤ k ∧ k ≤ 20000) (hx : Rg p x) (hy : Rg p y) (hl : l + y.length ≤ x.length) :
    (addR x l k p y).getD q 0 = if l ≤ q ∧ q < l + y.length then (x.getD q 0 + k * y.getD (q - l) 0) % p else x.getD q 0 := by
  have h := fold_at (g := fun i v => (IntKind.i64.wrap (v + IntKind.i64.wrap (k * y.getD i 0))).tmod p) (x := x) (l := l) (m := y.length) (q := q) hl
  refine (show (addR x l k p y).getD q 0 = _ from h).trans ?_
  split
  · have a := hx q
    have b := hy (q - l)
    rw [addV hp hk a b, Int.tmod_eq_emod_of_nonneg]
    have hm := mulBd (A := 20000) (B := 10007) (a := k) (b := y.getD (q - l) 0) hk (by omega)
    omega
  · rfl
/-- The entry of a square matrix. -/
def atN (n : Nat) (d : List Int) (i j : Nat) : Int := d.getD (i * n + j) 0
theorem idxN (i n : Nat) : ((i : Int) * (n : Int)).toNat = i * n := by rw [← Int.natCast_mul, Int.toNat_natCast]
theorem idxN2 (i n k : Nat) : ((i : Int) * (n : Int) + (k : Int)).toNat = i * n + k := by rw [← Int.natCast_mul, ← Int.natCast_add, Int.toNat_natCast]
theorem rowN {i n : Nat} {m : Nat} (h : i < m) : i * n + n ≤ m * n := by
  have := Nat.mul_le_mul_right n (show i + 1 ≤ m from h)
  rw [Nat.add_mul, Nat.one_mul] at this
  exact this
theorem mulE_at {p : Int} {n i k q : Nat} {ad bd o : List Int} (hp : 0 < p ∧ p ≤ 10007) (ha : Rg p ad) (hb : Rg p bd) (ho : Rg p o) (hol : o.length = n * n) (hbl : bd.length = n * n) (hi : i < n) (hk : k < n) :
    (mulE p n n ad bd i o k).getD q 0 = if i * n ≤ q ∧ q < i * n + n then (o.getD q 0 + atN n ad i k * atN n bd k (q - i * n)) % p else o.getD q 0 := by
  have hr : (rowY (n : Int) bd k).length = n := by
    rw [rowY_full (n := (n : Int)) (by omega) (by omega) (by rw [hbl]; omega)]
    omega
  have hi2 := rowN (n := n) hi
  have ek : ad.getD ((i : Int) * (n : Int) + (k : Int)).toNat 0 = atN n ad i k := by rw [idxN2]; rfl
  have hka := ha (i * n + k)
  unfold mulE
  rw [ek]
  split
  · rename_i h0
    split
    · have := ho q
      rw [h0, Int.zero_mul, Int.add_zero, Int.emod_eq_of_lt this.1 this.2]
    · rfl
  · rw [idxN, addR_at hp (by unfold atN; omega) ho (hb.row hp.1) (by omega), hr]
    split
    · rename_i h
      rw [rowY_get (by omega) (by omega), idxN2]
      rfl
    · rfl
theorem mulRow_at {p : Int} {n i : Nat} {ad bd o : List Int} (hp : 0 < p ∧ p ≤ 10007) (ha : Rg p ad) (hb : Rg p bd) (ho : Rg p o) (hol : o.length = n * n) (hbl : bd.length = n * n) (hi : i < n) : ∀ {m : Nat}, m ≤ n →
    let r := (List.range m).foldl (mulE p n n ad bd i) o
    r.length = n * n ∧ Rg p r ∧ ∀ q, r.getD q 0 = if i * n ≤ q ∧ q < i * n + n then (o.getD q 0 + sumN (fun k => atN n ad i k * atN n bd k (q - i * n)) m) % p else o.getD q 0
  | 0, _ => by
    refine ⟨hol, ho, fun q => ?_⟩
    have := ho q
    simp only [List.range_zero, List.foldl_nil, sumN, Int.add_zero]
    rw [Int.emod_eq_of_lt this.1 this.2]
    split <;> rfl
  | m + 1, hm => by
    obtain ⟨h1, h2, h3⟩ := mulRow_at hp ha hb ho hol hbl hi (m := m) (by omega)
    simp only at h1 h2 h3 ⊢
    rw [foldl_sn]
    refine ⟨by rw [mulE_len]; exact h1, ?_, fun q => ?_⟩
    · intro q
      rw [mulE_at hp ha hb h2 h1 hbl hi (by omega)]
      split
      · exact ⟨Int.emod_nonneg _ (by omega), Int.emod_lt_of_pos _ (by omega)⟩
      · exact h2 q
    · rw [mulE_at hp ha hb h2 h1 hbl hi (by omega), h3 q]
      split
      · rw [sumN, Int.add_emod, Int.emod_emod, ← Int.add_emod, Int.add_assoc]
      · rfl
theorem mulF_at {p : Int} {n : Nat} {ad bd : List Int} (hp : 0 < p ∧ p ≤ 10007) (ha : Rg p ad) (hb : Rg p bd) (hbl : bd.length = n * n) : ∀ {m : Nat}, m ≤ n →
    let r := (List.range m).foldl (fun (o : List Int) (i : Nat) => mulRow p n n ad bd i o) (List.replicate ((n : Int) * (n : Int)).toNat 0)
    r.length = n * n ∧ Rg p r ∧ ∀ i j, i < n → j < n → r.getD (i * n + j) 0 = if i < m then sumN (fun k => atN n ad i k * atN n bd k j) n % p else 0
  | 0, _ => by
    refine ⟨by simp [idxN], Rg.rep hp.1 _, fun i j _ _ => ?_⟩
    simp only [List.range_zero, List.foldl_nil, Nat.not_lt_zero, if_false, List.getD, List.getElem?_replicate]
    split <;> rfl
  | m + 1, hm => by
    obtain ⟨h1, h2, h3⟩ := mulF_at hp ha hb hbl (m := m) (by omega)
    simp only at h1 h2 h3 ⊢
    rw [foldl_sn]
    have e : ∀ o : List Int, mulRow p n n ad bd m o = (List.range n).foldl (mulE p n n ad bd m) o := fun o => by unfold mulRow; rw [Int.toNat_natCast]
    rw [e]
    obtain ⟨g1, g2, g3⟩ := mulRow_at hp ha hb h2 h1 hbl (i := m) (by omega) (Nat.le_refl n)
    refine ⟨g1, g2, fun i j hi hj => ?_⟩
    rw [g3, h3 i j hi hj]
    by_cases hc : i = m
    · subst hc
      rw [if_pos ⟨by omega, by omega⟩, if_neg (by omega), if_pos (by omega), Int.zero_add]
      congr 1
      exact sumN_congr fun k _ => by rw [Nat.add_sub_cancel_left]
    · rw [if_neg ?_]
      · by_cases h4 : i < m
        · rw [if_pos h4, if_pos (by omega)]
        · rw [if_neg h4, if_neg (by omega)]
      · rintro ⟨q1, q2⟩
        rcases Nat.lt_or_gt_of_ne hc with h5 | h5
        · have := rowN (n := n) h5
          omega
        · have := rowN (n := n) h5
          omega
theorem mulN_get {p : Int} {n : Nat} {ad bd : List Int} (hp : 0 < p ∧ p ≤ 10007) (ha : Rg p ad) (hb : Rg p bd) (hbl : bd.length = n * n) {i j : Nat} (hi : i < n) (hj : j < n) : atN n (mulF p n n n ad bd) i j = sumN (fun k => atN n ad i k * atN n bd k j) n % p := by
  obtain ⟨_, _, h⟩ := mulF_at hp ha hb hbl (Nat.le_refl n)
  have := h i j hi hj
  rw [if_pos hi] at this
  unfold atN mulF
  rw [Int.toNat_natCast]
  exact this
theorem mulN_len {p : Int} {n : Nat} {ad bd : List Int} : (mulF p n n n ad bd).length = n * n := by rw [mulF_len, idxN]
/-- Square lists are equal if their entries are. -/
theorem ext_atN {n : Nat} {x y : List Int} (hx : x.length = n * n) (hy : y.length = n * n) (h : ∀ i j, i < n → j < n → atN n x i j = atN n y i j) : x = y := ext_getN (by omega) fun q hq => by
  have hn : 0 < n := Nat.pos_of_ne_zero fun e => by subst e; rw [Nat.zero_mul] at hx; omega
  have e : q / n * n + q % n = q := by rw [Nat.mul_comm]; exact Nat.div_add_mod q n
  have := h (q / n) (q % n) ((Nat.div_lt_iff_lt_mul hn).2 (by omega)) (Nat.mod_lt _ hn)
  unfold atN at this
  rw [e] at this
  exact this
theorem mul_assocN {p : Int} {n : Nat} {a b c : List Int} (hp : 0 < p ∧ p ≤ 10007) (ha : Rg p a) (hb : Rg p b) (hc : Rg p c) (hbl : b.length = n * n) (hcl : c.length = n * n) : mulF p n n n (mulF p n n n a b) c = mulF p n n n a (mulF p n n n b c) := by
  have hab := mulF_rg (ar := n) (ac := n) (bc := n) hp ha hb
  have hbc := mulF_rg (ar := n) (ac := n) (bc := n) hp hb hc
  refine ext_atN mulN_len mulN_len fun i j hi hj => ?_
  rw [mulN_get hp hab hc hcl hi hj, mulN_get hp ha hbc mulN_len hi hj]
  rw [sumN_congr (g := fun k => sumN (fun l => atN n a i l * atN n b l k) n % p * atN n c k j) fun k hk => by rw [mulN_get hp ha hb hbl hi hk], sumN_modL]
  rw [sumN_congr (f := fun k => atN n a i k * atN n (mulF p n n n b c) k j) (g := fun k => atN n a i k * (sumN (fun l => atN n b k l * atN n c l j) n % p)) fun k hk => by rw [mulN_get hp hb hc hcl hk hj], sumN_modR]
  congr 1
  rw [sumN_congr (g := fun k => sumN (fun l => atN n a i l * atN n b l k * atN n c k j) n) fun k _ => sumN_mulR.symm, sumN_swap]
  exact sumN_congr fun l _ => by rw [← sumN_mulL]; exact sumN_congr fun k _ => Int.mul_assoc ..
theorem addF_at {k p : Int} : ∀ {x y : List Int} {q : Nat}, x.length = y.length → q < x.length → (addF k p x y).getD q 0 = (x.getD q 0 + k * y.getD q 0) % p
  | [], _, _, _, h => by simp at h
  | _ :: _, [], _, h, _ => by simp at h
  | a :: x, b :: y, 0, _, _ => rfl
  | a :: x, b :: y, q + 1, h, hq => by
    have := addF_at (k := k) (p := p) (x := x) (y := y) (q := q) (by simpa using h) (by simpa using hq)
    simpa [addF, List.getD] using this
theorem addF_rg {k p : Int} (hp : 0 < p) : ∀ {x y : List Int}, Rg p x → Rg p (addF k p x y)
  | [], [], h => h
  | [], _ :: _, h => h
  | a :: x, [], h => by rw [addF_nil]; exact h
  | a :: x, b :: y, h => by
    have hx : Rg p x := fun i => by have := h (i + 1); simpa [List.getD] using this
    have ih := addF_rg (k := k) hp (x := x) (y := y) hx
    intro i
    cases i with
    | zero => exact ⟨Int.emod_nonneg _ (by omega), Int.emod_lt_of_pos _ hp⟩
    | succ i => have := ih i; simpa [addF, List.getD] using this
theorem at_lt {n i j : Nat} (hi : i < n) (hj : j < n) : i * n + j < n * n := by
  have := rowN (n := n) hi
  omega
theorem mul_addN {p : Int} {n : Nat} {a b c : List Int} (hp : 0 < p ∧ p ≤ 10007) (ha : Rg p a) (hb : Rg p b) (hc : Rg p c) (hbl : b.length = n * n) (hcl : c.length = n * n) : mulF p n n n a (addF 1 p b c) = addF 1 p (mulF p n n n a b) (mulF p n n n a c) := by
  have hs := addF_rg (k := 1) hp.1 (y := c) hb
  have hsl : (addF 1 p b c).length = n * n := by rw [addF_len, hbl]
  refine ext_atN mulN_len (by rw [addF_len]; exact mulN_len) fun i j hi hj => ?_
  have e2 : atN n (addF 1 p (mulF p n n n a b) (mulF p n n n a c)) i j = (atN n (mulF p n n n a b) i j + 1 * atN n (mulF p n n n a c) i j) % p := addF_at (by rw [mulN_len, mulN_len]) (by rw [mulN_len]; exact at_lt hi hj)
  rw [mulN_get hp ha hs hsl hi hj, e2, mulN_get hp ha hb hbl hi hj, mulN_get hp ha hc hcl hi hj]
  rw [sumN_congr (f := fun k => atN n a i k * atN n (addF 1 p b c) k j) (g := fun k => atN n a i k * ((atN n b k j + atN n c k j) % p)) fun k hk => by
    rw [show atN n (addF 1 p b c) k j = (atN n b k j + 1 * atN n c k j) % p from addF_at (by omega) (by rw [hbl]; exact at_lt hk hj), Int.one_mul], sumN_modR, Int.one_mul, ← Int.add_emod]
  congr 1
  rw [← sumN_add]
  exact sumN_congr fun k _ => Int.mul_add ..
/-- The trace, and the transposed matrix. -/
def trN (p : Int) (n : Nat) (d : List Int) : Int := sumN (fun i => atN n d i i) n % p
theorem tr_mul {p : Int} {n : Nat} {a b : List Int} (hp : 0 < p ∧ p ≤ 10007) (ha : Rg p a) (hb : Rg p b) (hal : a.length = n * n) (hbl : b.length = n * n) : trN p n (mulF p n n n a b) = trN p n (mulF p n n n b a) := by
  unfold trN
  rw [sumN_congr (g := fun i => sumN (fun k => atN n a i k * atN n b k i) n % p) fun i hi => mulN_get hp ha hb hbl hi hi, sumN_mod]
  rw [sumN_congr (f := fun i => atN n (mulF p n n n b a) i i) (g := fun i => sumN (fun k => atN n b i k * atN n a k i) n % p) fun i hi => mulN_get hp hb ha hal hi hi, sumN_mod, sumN_swap]
  congr 1
  exact sumN_congr fun i _ => sumN_congr fun k _ => Int.mul_comm ..
def tpF (n : Nat) (d : List Int) : List Int := (List.range n).foldl (fun (o : List Int) (i : Nat) => (List.range n).foldl (fun (o : List Int) (j : Nat) => o.set (j * n + i) (atN n d i j)) o) (List.replicate (n * n) 0)
theorem tpC_at {n i : Nat} {d o : List Int} (hi : i < n) (hol : o.length = n * n) : ∀ {m : Nat}, m ≤ n →
    let r := (List.range m).foldl (fun (o : List Int) (j : Nat) => o.set (j * n + i) (atN n d i j)) o
    r.length = n * n ∧ ∀ a b, a < n → b < n → r.getD (a * n + b) 0 = if a < m ∧ b = i then atN n d i a else o.getD (a * n + b) 0
  | 0, _ => ⟨hol, fun a b _ _ => by rw [if_neg (by omega)]; rfl⟩
  | m + 1, hm => by
    obtain ⟨h1, h2⟩ := tpC_at (d := d) hi hol (m := m) (by omega)
    simp only at h1 h2 ⊢
    rw [foldl_sn]
    refine ⟨by rw [List.length_set]; exact h1, fun a b ha hb => ?_⟩
    rw [getD_set_eq, h1, h2 a b ha hb]
    by_cases e : a = m ∧ b = i
    · obtain ⟨rfl, rfl⟩ := e
      rw [if_pos ⟨rfl, at_lt ha hb⟩, if_pos ⟨by omega, rfl⟩]
    · rw [if_neg ?_]
      · by_cases h3 : a < m ∧ b = i
        · rw [if_pos h3, if_pos (by omega)]
        · rw [if_neg h3, if_neg (by omega)]
      · rintro ⟨q, _⟩
        apply e
        rcases Nat.lt_trichotomy a m with h5 | h5 | h5
        · have := rowN (n := n) h5
          omega
        · subst h5
          exact ⟨rfl, by omega⟩
        · have := rowN (n := n) h5
          omega
theorem tpF_at {n : Nat} {d : List Int} : ∀ {m : Nat}, m ≤ n →
    let r := (List.range m).foldl (fun (o : List Int) (i : Nat) => (List.range n).foldl (fun (o : List Int) (j : Nat) => o.set (j * n + i) (atN n d i j)) o) (List.replicate (n * n) 0)
    r.length = n * n ∧ ∀ a b, a < n → b < n → r.getD (a * n + b) 0 = if b < m then atN n d b a else 0
  | 0, _ => ⟨by simp, fun a b _ _ => by
    simp only [List.range_zero, List.foldl_nil, Nat.not_lt_zero, if_false, List.getD, List.getElem?_replicate]
    split <;> rfl⟩
  | m + 1, hm => by
    obtain ⟨h1, h2⟩ := tpF_at (n := n) (d := d) (m := m) (by omega)
    simp only at h1 h2 ⊢
    rw [foldl_sn]
    obtain ⟨g1, g2⟩ := tpC_at (d := d) (i := m) (by omega) h1 (Nat.le_refl n)
    refine ⟨g1, fun a b ha hb => ?_⟩
    rw [g2 a b ha hb, h2 a b ha hb]
    by_cases e : b = m
    · subst e
      rw [if_pos ⟨ha, rfl⟩, if_pos (by omega)]
    · rw [if_neg (by omega)]
      by_cases h3 : b < m
      · rw [if_pos h3, if_pos (by omega)]
      · rw [if_neg h3, if_neg (by omega)]
theorem tpF_len {n : Nat} {d : List Int} : (tpF n d).length = n * n := (tpF_at (Nat.le_refl n)).1
theorem tpF_get {n : Nat} {d : List Int} {a b : Nat} (ha : a < n) (hb : b < n) : atN n (tpF n d) a b = atN n d b a := by
  have := (tpF_at (d := d) (Nat.le_refl n)).2 a b ha hb
  rw [if_pos hb] at this
  exact this
theorem tpF_rg {p : Int} {n : Nat} {d : List Int} (hp : 0 < p) (h : Rg p d) : Rg p (tpF n d) := by
  refine fold_inv (fun o => Rg p o) _ (Rg.rep hp _) fun o i _ ho => fold_inv (fun o => Rg p o) _ ho fun o j _ ho => ho.set (h _) _
theorem tp_mul {p : Int} {n : Nat} {a b : List Int} (hp : 0 < p ∧ p ≤ 10007) (ha : Rg p a) (hb : Rg p b) (hal : a.length = n * n) (hbl : b.length = n * n) : tpF n (mulF p n n n a b) = mulF p n n n (tpF n b) (tpF n a) := by
  refine ext_atN tpF_len mulN_len fun i j hi hj => ?_
  rw [tpF_get hi hj, mulN_get hp ha hb hbl hj hi, mulN_get hp (tpF_rg hp.1 hb) (tpF_rg hp.1 ha) tpF_len hi hj]
  congr 1
  exact sumN_congr fun k hk => by rw [tpF_get hi hk, tpF_get hk hj, Int.mul_comm]
end Go.Proofs.Ytiapoopcicjldaa
