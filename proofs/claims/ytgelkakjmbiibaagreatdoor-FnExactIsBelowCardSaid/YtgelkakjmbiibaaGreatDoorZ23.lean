/-
  Plain functions on weights, words and roots of a Cartan matrix, as both texts compute them (in the numbers of 64 bits, with their wrap); no program is spoken of.
-/
import Derived.Test.YtgelkakjmbiibaaGreatDoorZ18
namespace Go.Proofs.YtgelkakjmbiibaaGreatDoor
set_option linter.unusedVariables false
set_option linter.unusedSimpArgs false
def wtOk (n : Int) (x : List Int) : Bool := ((x.length : Int) == n) && !(x.any fun y => !(inB y (-1000) 1000))
def wdOk (n : Int) (x : List Int) : Bool := decide ((x.length : Int) ≤ 60) && !(x.any fun y => !(inB y 0 (n - 1)))
theorem wdOk_rng {n : Int} {x : List Int} (h : wdOk n x = true) : x.length ≤ 60 ∧ ∀ y ∈ x, 0 ≤ y ∧ y < n := by
  simp only [wdOk, Bool.and_eq_true, decide_eq_true_eq, Bool.not_eq_true'] at h
  refine ⟨by omega, fun y hy => ?_⟩
  have h1 := List.any_eq_false.1 h.2 y hy
  have h2 : inB y 0 (n - 1) = true := by simpa using h1
  have := inB_true h2
  omega
theorem tyS_ok {n : Int} {d : List Int} (h : (tyS n d).isSome = true) : (1 ≤ n ∧ n ≤ 4) ∧ (d.length : Int) = n * n := by
  obtain ⟨ks, hk⟩ := Option.isSome_iff_exists.1 h
  unfold tyS at hk
  split at hk
  · rename_i hok
    simp only [okI, Bool.and_eq_true, decide_eq_true_eq] at hok
    exact ⟨inB_true hok.1, hok.2⟩
  · simp at hk
def wordB (n : Int) (d x : List Int) : Bool := (tyS n d).isSome && wdOk n x
theorem wordB_ok {n : Int} {d x : List Int} (h : wordB n d x = true) : ((1 ≤ n ∧ n ≤ 4) ∧ (d.length : Int) = n * n) ∧ x.length ≤ 60 ∧ ∀ y ∈ x, 0 ≤ y ∧ y < n := by
  simp only [wordB, Bool.and_eq_true] at h
  exact ⟨tyS_ok h.1, wdOk_rng h.2⟩
def wtI (n : Int) (d x : List Int) (o : List Int) (i : Nat) : List Int := (List.range x.length).foldl (fun (o : List Int) (j : Nat) => o.set i (IntKind.i64.wrap (o.getD i 0 + IntKind.i64.wrap (atI n d i j * x.getD j 0)))) o
def wtF (n : Int) (d x : List Int) : List Int := (List.range n.toNat).foldl (wtI n d x) (List.replicate n.toNat 0)
theorem len_fold {f : List Int → Nat → List Int} (hf : ∀ o i, (f o i).length = o.length) : ∀ (l : List Nat) (o : List Int), (l.foldl f o).length = o.length
  | [], _ => rfl
  | x :: l, o => by rw [List.foldl_cons, len_fold hf l, hf]
theorem wtF_len (n : Int) (d x : List Int) : (wtF n d x).length = n.toNat := by
  unfold wtF
  rw [len_fold (f := wtI n d x) (fun o i => len_fold (fun o j => by simp) _ _), List.length_replicate]
def rfI (n : Int) (d : List Int) (i : Int) (w o : List Int) (k : Nat) : List Int := o.set k (IntKind.i64.wrap (o.getD k 0 - IntKind.i64.wrap (w.getD i.toNat 0 * atI n d k i)))
def rfF (n : Int) (d : List Int) (i : Int) (w : List Int) : List Int := (List.range w.length).foldl (rfI n d i w) w
theorem rfF_len (n : Int) (d : List Int) (i : Int) (w : List Int) : (rfF n d i w).length = w.length := len_fold (fun o k => by simp [rfI]) _ _
def actF (n : Int) (d word w : List Int) : List Int := word.foldr (fun i o => rfF n d i o) w
theorem actF_len (n : Int) (d w : List Int) : ∀ word : List Int, (actF n d word w).length = w.length
  | [] => rfl
  | i :: t => by
    unfold actF
    rw [List.foldr_cons, rfF_len]
    exact actF_len n d w t
theorem drop_getD {xs : List Int} {q : Nat} (h : q < xs.length) : xs.drop q = xs.getD q 0 :: xs.drop (q + 1) := by
  rw [List.drop_eq_getElem_cons h]
  simp [List.getD, h]
theorem actF_step {n : Int} {d word w : List Int} {q : Nat} (h : q < word.length) : actF n d (word.drop q) w = rfF n d (word.getD q 0) (actF n d (word.drop (q + 1)) w) := by
  rw [drop_getD h]
  rfl
def arI (n : Int) (d : List Int) (i : Int) (o : List Int) : List Int := o.set i.toNat (IntKind.i64.wrap (o.getD i.toNat 0 - (wtF n d o).getD i.toNat 0))
theorem set_getD_ne {o : List Int} {k t : Nat} {v : Int} (h : k ≠ t) : (o.set k v).getD t 0 = o.getD t 0 := by simp [List.getD, h]
end Go.Proofs.YtgelkakjmbiibaaGreatDoor

namespace Go.Proofs.YtgelkakjmbiibaaGreatDoor
set_option linter.unusedVariables false
set_option linter.unusedSimpArgs false
abbrev lnV (n : Int) (d o : List Int) (r : Int) (j : Nat) : Int := IntKind.i64.wrap ((IntKind.i64.wrap (o.getD r.toNat 0 * atI n d r j)).tdiv (atI n d j r))
def lsJ (n : Int) (d : List Int) (r : Int) : Nat → Nat → List Int → Option (List Int)
  | 0, _, o => some o
  | m + 1, j, o => if o.getD j 0 == 0 && atI n d r j != 0 then (if atI n d j r == 0 then none else lsJ n d r m (j + 1) (o.set j (lnV n d o r j))) else lsJ n d r m (j + 1) o
def liJ (n : Int) (d : List Int) (k : Nat) : Nat → Nat → List Int → List Int → Option (List Int × List Int)
  | 0, _, o, p => some (o, p)
  | m + 1, j, o, p => if o.getD j 0 == 0 && atI n d (p.getD k 0) j != 0 then (if atI n d j (p.getD k 0) == 0 then none else liJ n d k m (j + 1) (o.set j (lnV n d o (p.getD k 0) j)) (p ++ [(j : Int)])) else liJ n d k m (j + 1) o p
theorem sub_one {a b : Nat} (h : b < a) : a - b = (a - (b + 1)) + 1 := by omega
theorem liJ_end {n : Int} {d : List Int} {k N j : Nat} {o p : List Int} {x : List Int × List Int} (h : liJ n d k (N - j) j o p = some x) (hj : N ≤ j) : (o, p) = x := by
  rw [show N - j = 0 by omega] at h
  simpa [liJ] using h
theorem liJ_no {n : Int} {d : List Int} {k N j : Nat} {o p : List Int} {x : List Int × List Int} (h : liJ n d k (N - j) j o p = some x) (hj : j < N) (hc : (o.getD j 0 == 0 && atI n d (p.getD k 0) j != 0) = false) : liJ n d k (N - (j + 1)) (j + 1) o p = some x := by
  rw [sub_one hj, liJ, hc] at h
  simpa using h
theorem liJ_yes {n : Int} {d : List Int} {k N j : Nat} {o p : List Int} {x : List Int × List Int} (h : liJ n d k (N - j) j o p = some x) (hj : j < N) (h1 : o.getD j 0 = 0) (h2 : atI n d (p.getD k 0) j ≠ 0) : atI n d j (p.getD k 0) ≠ 0 ∧ liJ n d k (N - (j + 1)) (j + 1) (o.set j (lnV n d o (p.getD k 0) j)) (p ++ [(j : Int)]) = some x := by
  rw [sub_one hj, liJ, if_pos (by rw [h1, bne_iff_ne.2 h2]; rfl)] at h
  split at h
  · cases h
  · rename_i hz
    exact ⟨fun e => hz (by rw [e]; rfl), h⟩
theorem and_no1 {a b : Bool} (h : a = false) : (a && b) = false := by rw [h]; rfl
theorem and_no2 {a : Bool} {x : Int} (h : x = 0) : (a && (x != 0)) = false := by rw [h]; simp
def lsM (o : List Int) (r a : Int) : Int := if o.getD r.toNat 0 < a then o.getD r.toNat 0 else a
def lsK (n : Int) (d rows : List Int) : Nat → Nat → List Int → Int → Option (List Int × Int)
  | 0, _, o, a => some (o, a)
  | m + 1, k, o, a => (lsJ n d (rows.getD k 0) n.toNat 0 o).bind fun o2 => lsK n d rows m (k + 1) o2 (lsM o2 (rows.getD k 0) a)
def liK (n : Int) (d : List Int) : Nat → Nat → List Int → List Int → Option (List Int × List Int)
  | 0, _, _, _ => none
  | f + 1, k, o, p => if k < p.length then (liJ n d k n.toNat 0 o p).bind fun x => liK n d f (k + 1) x.1 x.2 else some (o, p)
theorem liK_end {n : Int} {d : List Int} {f k : Nat} {o p : List Int} {x : List Int × List Int} (h : liK n d f k o p = some x) (hk : p.length ≤ k) : (o, p) = x := by
  cases f with
  | zero => cases h
  | succ f =>
    rw [liK, if_neg (by omega)] at h
    simpa using h
theorem liK_step {n : Int} {d : List Int} {f k : Nat} {o p : List Int} {x : List Int × List Int} (h : liK n d f k o p = some x) (hk : k < p.length) : ∃ g y q, f = g + 1 ∧ liJ n d k (n.toNat - 0) 0 o p = some (y, q) ∧ liK n d g (k + 1) y q = some x := by
  cases f with
  | zero => cases h
  | succ f =>
    rw [liK, if_pos hk] at h
    obtain ⟨y, h1, h2⟩ := Option.bind_eq_some_iff.1 h
    exact ⟨f, y.1, y.2, rfl, h1, h2⟩
def liM (o p : List Int) (a : Int) (m : Nat) : Int := (List.range m).foldl (fun (a : Int) (t : Nat) => min a (o.getD (p.getD t 0).toNat 0)) a
def dvL (p : List Int) (a : Int) : Nat → Nat → List Int → Option (List Int)
  | 0, _, o => some o
  | m + 1, k, o => if a == 0 then none else dvL p a m (k + 1) (o.set (p.getD k 0).toNat (IntKind.i64.wrap ((o.getD (p.getD k 0).toNat 0).tdiv a)))
theorem dvL_end {p : List Int} {a : Int} {N k : Nat} {o x : List Int} (h : dvL p a (N - k) k o = some x) (hj : N ≤ k) : o = x := by
  rw [show N - k = 0 by omega] at h
  simpa [dvL] using h
theorem dvL_step {p : List Int} {a : Int} {N k : Nat} {o x : List Int} (h : dvL p a (N - k) k o = some x) (hj : k < N) : a ≠ 0 ∧ dvL p a (N - (k + 1)) (k + 1) (o.set (p.getD k 0).toNat (IntKind.i64.wrap ((o.getD (p.getD k 0).toNat 0).tdiv a))) = some x := by
  rw [sub_one hj, dvL] at h
  split at h
  · cases h
  · rename_i hz
    exact ⟨fun e => hz (by rw [e]; rfl), h⟩
def lsO (n : Int) (d : List Int) : Nat → Nat → List Int → Option (List Int)
  | 0, _, o => some o
  | m + 1, i, o => if o.getD i 0 != 0 then lsO n d m (i + 1) o else (lsK n d (partF n d i) (partF n d i).length 0 (o.set i 6) 6).bind fun x => (dvL (partF n d i) x.2 (partF n d i).length 0 x.1).bind fun o3 => lsO n d m (i + 1) o3
def liO (n : Int) (d : List Int) : Nat → Nat → List Int → Option (List Int)
  | 0, _, o => some o
  | m + 1, i, o => if o.getD i 0 != 0 then liO n d m (i + 1) o else (liK n d 6 0 (o.set i 36) [(i : Int)]).bind fun x => (dvL x.2 (liM x.1 x.2 (x.1.getD i 0) x.2.length) x.2.length 0 x.1).bind fun o3 => liO n d m (i + 1) o3
theorem liO_end {n : Int} {d : List Int} {N i : Nat} {o x : List Int} (h : liO n d (N - i) i o = some x) (hj : N ≤ i) : o = x := by
  rw [show N - i = 0 by omega] at h
  simpa [liO] using h
theorem liO_no {n : Int} {d : List Int} {N i : Nat} {o x : List Int} (h : liO n d (N - i) i o = some x) (hj : i < N) (hc : o.getD i 0 ≠ 0) : liO n d (N - (i + 1)) (i + 1) o = some x := by
  rw [sub_one hj, liO, if_pos (bne_iff_ne.2 hc)] at h
  exact h
theorem liO_yes {n : Int} {d : List Int} {N i : Nat} {o x : List Int} (h : liO n d (N - i) i o = some x) (hj : i < N) (hc : o.getD i 0 = 0) :
    ∃ y q z, liK n d 6 0 (o.set i 36) [(i : Int)] = some (y, q) ∧ dvL q (liM y q (y.getD i 0) q.length) (q.length - 0) 0 y = some z ∧ liO n d (N - (i + 1)) (i + 1) z = some x := by
  rw [sub_one hj, liO, if_neg (by rw [hc]; simp)] at h
  obtain ⟨y, h1, h2⟩ := Option.bind_eq_some_iff.1 h
  obtain ⟨z, h3, h4⟩ := Option.bind_eq_some_iff.1 h2
  exact ⟨y.1, y.2, z, h1, h3, h4⟩
def lenF (n : Int) (d : List Int) : List Int := (lsO n d n.toNat 0 (List.replicate n.toNat 0)).getD []
def chkL (n : Nat) : Bool := (candL n).all fun d => (lsO n d n 0 (List.replicate n 0) == some (lenF n d)) && (liO n d n 0 (List.replicate n 0) == some (lenF n d)) && ((lenF n d).length == n)
set_option maxRecDepth 100000 in
theorem chkL_all {m : Nat} : 1 ≤ m → m ≤ 4 → chkL m = true := four (P := fun m => chkL m = true) (by decide +kernel) (by decide +kernel) (by decide +kernel) (by decide +kernel)
theorem len_ok {n : Int} {d : List Int} (h : (tyS n d).isSome = true) : lsO n d (n.toNat - 0) 0 (List.replicate n.toNat 0) = some (lenF n d) ∧ liO n d (n.toNat - 0) 0 (List.replicate n.toNat 0) = some (lenF n d) ∧ (lenF n d).length = n.toNat := by
  obtain ⟨ks, hk⟩ := Option.isSome_iff_exists.1 h
  obtain ⟨m, rfl, h1, h4, hd⟩ := tyS_cand hk
  have := chkL_all h1 h4
  simp only [chkL, List.all_eq_true] at this
  have := this d hd
  simp only [Bool.and_eq_true, beq_iff_eq] at this
  exact ⟨this.1.1, this.1.2, this.2⟩
def lenOf (n : Int) (d : List Int) : List Int := if (tyS n d).isSome then lenF n d else []
def subR (n : Int) (d rows : List Int) (i : Nat) (o : List Int) (j : Nat) : List Int := o ++ [atI n d (rows.getD i 0) (rows.getD j 0)]
def subD (n : Int) (d rows : List Int) : List Int := (List.range rows.length).foldl (fun (o : List Int) (i : Nat) => (List.range rows.length).foldl (subR n d rows i) o) []
end Go.Proofs.YtgelkakjmbiibaaGreatDoor

namespace Go.Proofs.YtgelkakjmbiibaaGreatDoor
set_option linter.unusedVariables false
set_option linter.unusedSimpArgs false
def dotN (c w : Nat → Int) : Nat → Int
  | 0 => 0
  | m + 1 => dotN c w m + c m * w m
theorem dotN_congr {c c' w w' : Nat → Int} : ∀ {m : Nat}, (∀ k, k < m → c k = c' k ∧ w k = w' k) → dotN c w m = dotN c' w' m
  | 0, _ => rfl
  | m + 1, h => by
    rw [dotN, dotN, dotN_congr fun k hk => h k (by omega), (h m (by omega)).1, (h m (by omega)).2]
theorem dotN_sub (c w a : Nat → Int) (t : Int) : ∀ m : Nat, dotN c (fun k => w k - t * a k) m = dotN c w m - t * dotN c a m
  | 0 => by simp [dotN]
  | m + 1 => by
    rw [dotN, dotN, dotN, dotN_sub c w a t m, Int.mul_sub, Int.mul_add, Int.mul_left_comm (c m) t (a m)]
    omega
theorem dotN_upd (c w : Nat → Int) (i : Nat) (s : Int) : ∀ m : Nat, dotN (fun k => if k = i then c k - s else c k) w m = dotN c w m - (if i < m then s * w i else 0)
  | 0 => by simp [dotN]
  | m + 1 => by
    rw [dotN, dotN, dotN_upd c w i s m]
    by_cases h : m = i
    · subst h
      rw [if_pos rfl, if_neg (by omega), if_pos (by omega), Int.sub_mul]
      omega
    · rw [if_neg h]
      by_cases h2 : i < m
      · rw [if_pos h2, if_pos (by omega)]
        omega
      · rw [if_neg h2, if_neg (by omega)]
        omega
theorem dotN_unit (w : Nat → Int) (i : Nat) : ∀ m : Nat, dotN (fun k => if k = i then 1 else 0) w m = if i < m then w i else 0
  | 0 => by simp [dotN]
  | m + 1 => by
    rw [dotN, dotN_unit w i m]
    by_cases h : m = i
    · subst h
      rw [if_neg (by omega), if_pos rfl, if_pos (by omega)]
      omega
    · rw [if_neg h]
      by_cases h2 : i < m
      · rw [if_pos h2, if_pos (by omega)]
        omega
      · rw [if_neg h2, if_neg (by omega)]
        omega
theorem mul_bd {x a B : Int} (hx : -B ≤ x ∧ x ≤ B) (ha : -3 ≤ a ∧ a ≤ 3) : -(3 * B) ≤ x * a ∧ x * a ≤ 3 * B := by
  rcases (by omega : a = -3 ∨ a = -2 ∨ a = -1 ∨ a = 0 ∨ a = 1 ∨ a = 2 ∨ a = 3) with rfl | rfl | rfl | rfl | rfl | rfl | rfl <;> omega
theorem dotN_bd {c w : Nat → Int} {B : Int} (hB : 0 ≤ B) : ∀ {m : Nat}, (∀ k, k < m → (0 ≤ c k ∧ c k ≤ 200) ∧ -B ≤ w k ∧ w k ≤ B) → -(200 * B * m) ≤ dotN c w m ∧ dotN c w m ≤ 200 * B * m
  | 0, _ => by simp [dotN]
  | m + 1, h => by
    have h1 := dotN_bd hB (m := m) fun k hk => h k (by omega)
    obtain ⟨⟨h2, h3⟩, h4, h5⟩ := h m (by omega)
    have h6 : c m * w m ≤ 200 * B := Int.le_trans (Int.mul_le_mul_of_nonneg_left h5 h2) (Int.mul_le_mul_of_nonneg_right h3 hB)
    have h7 : -(200 * B) ≤ c m * w m := by
      have h8 : c m * (-B) ≤ c m * w m := Int.mul_le_mul_of_nonneg_left h4 h2
      have h9 : c m * B ≤ 200 * B := Int.mul_le_mul_of_nonneg_right h3 hB
      rw [Int.mul_neg] at h8
      omega
    rw [dotN]
    have e : 200 * B * ((m + 1 : Nat) : Int) = 200 * B * m + 200 * B := by
      rw [Int.natCast_succ, Int.mul_add, Int.mul_one]
    rw [e]
    omega
theorem set_getD_eq {o : List Int} {k : Nat} {v : Int} (h : k < o.length) : (o.set k v).getD k 0 = v := by simp [List.getD, h]
theorem fset_get {g : Nat → Int → Int} {o : List Int} : ∀ {m k : Nat}, m ≤ o.length → k < o.length → ((List.range m).foldl (fun (o : List Int) (i : Nat) => o.set i (g i (o.getD i 0))) o).getD k 0 = if k < m then g k (o.getD k 0) else o.getD k 0
  | 0, k, _, _ => by simp
  | m + 1, k, hm, hk => by
    have hl : ((List.range m).foldl (fun (o : List Int) (i : Nat) => o.set i (g i (o.getD i 0))) o).length = o.length := len_fold (fun o i => by simp) _ _
    rw [foldl_succ]
    have ih := fset_get (g := g) (o := o) (m := m) (k := m) (by omega) (by omega)
    rw [if_neg (by omega)] at ih
    by_cases h : k = m
    · subst h
      rw [if_pos (by omega), ih]
      exact set_getD_eq (by rw [hl]; exact hk)
    · rw [set_getD_ne (by omega), fset_get (by omega) hk]
      by_cases h2 : k < m
      · rw [if_pos h2, if_pos (by omega)]
      · rw [if_neg h2, if_neg (by omega)]
theorem ext_getD {x y : List Int} (hl : x.length = y.length) (h : ∀ k, k < x.length → x.getD k 0 = y.getD k 0) : x = y := by
  refine List.ext_getElem hl fun k h1 h2 => ?_
  have := h k h1
  simpa [List.getD, h1, h2] using this
theorem rfF_get {n : Int} {d : List Int} {i : Int} {w : List Int} {k : Nat} (hk : k < w.length) : (rfF n d i w).getD k 0 = IntKind.i64.wrap (w.getD k 0 - IntKind.i64.wrap (w.getD i.toNat 0 * atI n d k i)) := by
  have h := fset_get (g := fun k (x : Int) => IntKind.i64.wrap (x - IntKind.i64.wrap (w.getD i.toNat 0 * atI n d k i))) (o := w) (m := w.length) (k := k) (Nat.le_refl _) hk
  rw [if_pos hk] at h
  exact h
theorem atI_bd {n : Int} {d : List Int} (h : ∀ x ∈ d, -3 ≤ x ∧ x ≤ 3) (i j : Int) : -3 ≤ atI n d i j ∧ atI n d i j ≤ 3 := by
  unfold atI
  by_cases hk : (i * n + j).toNat < d.length
  · have e : d.getD (i * n + j).toNat 0 = d[(i * n + j).toNat] := by simp [List.getD, hk]
    rw [e]
    exact h _ (List.getElem_mem hk)
  · have e : d.getD (i * n + j).toNat 0 = 0 := by simp [List.getD, List.getElem?_eq_none (Nat.le_of_not_lt hk)]
    rw [e]
    decide
theorem rfF_exact {n : Int} {d : List Int} {i : Int} {w : List Int} (hd : ∀ x ∈ d, -3 ≤ x ∧ x ≤ 3) (hi : i.toNat < w.length) (hw : ∀ k, k < w.length → -1000 ≤ w.getD k 0 ∧ w.getD k 0 ≤ 1000) {k : Nat} (hk : k < w.length) : (rfF n d i w).getD k 0 = w.getD k 0 - w.getD i.toNat 0 * atI n d k i := by
  have h1 := mul_bd (hw _ hi) (atI_bd (n := n) hd k i)
  have h2 := hw k hk
  rw [rfF_get hk, wrap_in (x := w.getD i.toNat 0 * atI n d k i) (by omega) (by omega), wrap_in (by omega) (by omega)]
def phStep (n : Int) (d c : List Int) (i : Nat) : List Int := c.set i (c.getD i 0 - dotN (c.getD · 0) (fun k => atI n d k i) n.toNat)
def unitL (m i : Nat) : List Int := (List.range m).map fun k => if k = i then 1 else 0
def phOne (n : Int) (d c : List Int) (L : List (List Int)) (i : Nat) : List (List Int) := if c == unitL n.toNat i || L.contains (phStep n d c i) then L else L ++ [phStep n d c i]
def phAdd (n : Int) (d c : List Int) (L : List (List Int)) : List (List Int) := (List.range n.toNat).foldl (phOne n d c) L
def phC (n : Int) (d : List Int) : Nat → List (List Int) → Nat → Option (List (List Int))
  | 0, _, _ => none
  | f + 1, L, k => if k < L.length then phC n d f (phAdd n d (L.getD k []) L) (k + 1) else some L
def units (n : Int) : List (List Int) := (List.range n.toNat).map (unitL n.toNat)
def phi (n : Int) (d : List Int) : List (List Int) := (phC n d 40 (units n) 0).getD []
def ClAt (n : Int) (d : List Int) (L : List (List Int)) (m : Nat) (c : List Int) : Prop := ∀ i, i < m → c = unitL n.toNat i ∨ phStep n d c i ∈ L
theorem phOne_ext {n : Int} {d c : List Int} {L : List (List Int)} {i : Nat} : (∃ R, phOne n d c L i = L ++ R) ∧ (c = unitL n.toNat i ∨ phStep n d c i ∈ phOne n d c L i) := by
  unfold phOne
  split
  · rename_i h
    simp only [Bool.or_eq_true, beq_iff_eq, List.contains_iff_mem] at h
    exact ⟨⟨[], by simp⟩, h⟩
  · exact ⟨⟨_, rfl⟩, .inr (by simp)⟩
theorem phAdd_ext {n : Int} {d c : List Int} {L : List (List Int)} : ∀ m : Nat, (∃ R, (List.range m).foldl (phOne n d c) L = L ++ R) ∧ ClAt n d ((List.range m).foldl (phOne n d c) L) m c
  | 0 => ⟨⟨[], by simp⟩, fun i h => by omega⟩
  | m + 1 => by
    obtain ⟨⟨R, hR⟩, hc⟩ := phAdd_ext (L := L) (n := n) (d := d) (c := c) m
    rw [foldl_succ]
    obtain ⟨⟨R2, hR2⟩, h2⟩ := phOne_ext (n := n) (d := d) (c := c) (L := (List.range m).foldl (phOne n d c) L) (i := m)
    refine ⟨⟨R ++ R2, by rw [hR2, hR, List.append_assoc]⟩, fun i hi => ?_⟩
    by_cases h : i = m
    · subst h
      exact h2
    · rcases hc i (by omega) with h3 | h3
      · exact .inl h3
      · exact .inr (by rw [hR2]; exact List.mem_append_left _ h3)
theorem phC_ext {n : Int} {d : List Int} : ∀ {f : Nat} {L R : List (List Int)} {k : Nat}, phC n d f L k = some R → (∀ j, j < k → j < L.length → ClAt n d L n.toNat (L.getD j [])) → (∃ T, R = L ++ T) ∧ ∀ c ∈ R, ClAt n d R n.toNat c
  | 0, _, _, _, h, _ => by cases h
  | f + 1, L, R, k, h, hc => by
    rw [phC] at h
    split at h
    · rename_i hk
      obtain ⟨⟨T, hT⟩, h2⟩ := phAdd_ext (n := n) (d := d) (c := L.getD k []) (L := L) n.toNat
      have hT' : phAdd n d (L.getD k []) L = L ++ T := hT
      have hg : ∀ j, j < L.length → (L ++ T).getD j [] = L.getD j [] := fun j hj => by simp [List.getD, List.getElem?_append_left hj]
      rw [hT'] at h
      rw [hT] at h2
      obtain ⟨⟨T2, hT2⟩, h3⟩ := phC_ext h fun j hj hjl => by
        by_cases e : j = k
        · subst e
          rw [hg j hk]
          exact h2
        · rw [hg j (by omega)]
          intro i hi
          rcases hc j (by omega) (by omega) i hi with h4 | h4
          · exact .inl h4
          · exact .inr (List.mem_append_left _ h4)
      exact ⟨⟨T ++ T2, by rw [hT2, List.append_assoc]⟩, h3⟩
    · rename_i hk
      simp only [Option.some.injEq] at h
      subst h
      refine ⟨⟨[], by simp⟩, fun c hc' => ?_⟩
      obtain ⟨j, hj, rfl⟩ := List.mem_iff_getElem.1 hc'
      have := hc j (by omega) hj
      simpa [List.getD, hj] using this
def dotL (m : Nat) (c w : List Int) : Int := dotN (c.getD · 0) (w.getD · 0) m
def ones (n : Int) (s : Int) : List Int := List.replicate n.toNat s
def mvec (n : Int) (d : List Int) : List Int := (phi n d).foldl (fun m c => (List.range n.toNat).map (fun k => m.getD k 0 + c.getD k 0)) []
def chkP (n : Int) (d : List Int) : Bool :=
  (phC n d 40 (units n) 0).isSome && ((phi n d).all fun c => (c.length == n.toNat) && decide (-20 ≤ dotL n.toNat c (ones n 1)) && decide (dotL n.toNat c (ones n 1) ≤ 20)) &&
  ((List.range n.toNat).all fun i => decide (0 ≤ (mvec n d).getD i 0) && decide ((mvec n d).getD i 0 ≤ 200) && (dotN ((mvec n d).getD · 0) (fun k => atI n d k i) n.toNat == 2) && (atI n d i i == 2)) &&
  d.all fun x => decide (-3 ≤ x) && decide (x ≤ 3)
def chkPs (n a b : Nat) : Bool := (((candL n).drop a).take b).all fun d => chkP n d
set_option maxRecDepth 100000 in
theorem chkPs_1 : chkPs 1 0 1000 = true := by decide +kernel
set_option maxRecDepth 100000 in
theorem chkPs_2 : chkPs 2 0 1000 = true := by decide +kernel
set_option maxRecDepth 100000 in
theorem chkPs_3 : chkPs 3 0 1000 = true := by decide +kernel
set_option maxRecDepth 100000 in
theorem chkPs_4a : chkPs 4 0 80 = true := by decide +kernel
set_option maxRecDepth 100000 in
theorem chkPs_4b : chkPs 4 80 80 = true := by decide +kernel
set_option maxRecDepth 100000 in
theorem chkPs_4c : chkPs 4 160 1000 = true := by decide +kernel
theorem mem_parts {α : Type} {x : α} {L : List α} (a : Nat) (h : x ∈ L) : x ∈ (L.drop 0).take a ∨ x ∈ L.drop a := by
  rw [← List.take_append_drop a L] at h
  rw [List.drop_zero]
  exact List.mem_append.1 h
theorem chkPs_all {m : Nat} {d : List Int} (h1 : 1 ≤ m) (h4 : m ≤ 4) (hd : d ∈ candL m) : chkP m d = true := by
  have one : ∀ n, chkPs n 0 1000 = true → (candL n).length ≤ 1000 → d ∈ candL n → chkP n d = true := fun n h hl hd => by
    simp only [chkPs, List.all_eq_true] at h
    exact h d (by rw [List.drop_zero, List.take_of_length_le hl]; exact hd)
  have len : ∀ n, 1 ≤ n → n ≤ 4 → (candL n).length ≤ 1000 := fun n a b => four (P := fun n => (candL n).length ≤ 1000) (by decide +kernel) (by decide +kernel) (by decide +kernel) (by decide +kernel) a b
  rcases (by omega : m = 1 ∨ m = 2 ∨ m = 3 ∨ m = 4) with rfl | rfl | rfl | rfl
  · exact one 1 chkPs_1 (len 1 (by omega) (by omega)) hd
  · exact one 2 chkPs_2 (len 2 (by omega) (by omega)) hd
  · exact one 3 chkPs_3 (len 3 (by omega) (by omega)) hd
  · have ha := chkPs_4a
    have hb := chkPs_4b
    have hc := chkPs_4c
    simp only [chkPs, List.all_eq_true] at ha hb hc
    rcases mem_parts 80 hd with h | h
    · exact ha d h
    · rcases mem_parts 80 h with h2 | h2
      · exact hb d (by simpa using h2)
      · rw [List.drop_drop] at h2
        exact hc d (by
          have hl := len 4 (by omega) (by omega)
          rw [List.take_of_length_le (by rw [List.length_drop]; omega)]
          simpa using h2)
structure PhOk (n : Int) (d : List Int) : Prop where
  len : ∀ c ∈ phi n d, c.length = n.toNat
  closed : ∀ c ∈ phi n d, ∀ i, i < n.toNat → c = unitL n.toNat i ∨ phStep n d c i ∈ phi n d
  up : ∀ c ∈ phi n d, -20 ≤ dotL n.toNat c (ones n 1) ∧ dotL n.toNat c (ones n 1) ≤ 20
  unit : ∀ i, i < n.toNat → unitL n.toNat i ∈ phi n d
  mv : ∀ i, i < n.toNat → 0 ≤ (mvec n d).getD i 0 ∧ (mvec n d).getD i 0 ≤ 200
  diag : ∀ i : Nat, i < n.toNat → atI n d i i = 2
  two : ∀ i : Nat, i < n.toNat → dotN ((mvec n d).getD · 0) (fun k => atI n d k i) n.toNat = 2
  ent : ∀ x ∈ d, -3 ≤ x ∧ x ≤ 3
  rk : n.toNat ≤ 4
theorem phOk {n : Int} {d : List Int} (h : (tyS n d).isSome = true) : PhOk n d := by
  obtain ⟨ks, hk⟩ := Option.isSome_iff_exists.1 h
  obtain ⟨m, rfl, h1, h4, hd⟩ := tyS_cand hk
  have h0 := chkPs_all h1 h4 hd
  simp only [chkP, Bool.and_eq_true, List.all_eq_true, decide_eq_true_eq, beq_iff_eq, List.mem_range] at h0
  obtain ⟨⟨⟨hz, ha⟩, hb⟩, hc⟩ := h0
  obtain ⟨R, hR⟩ := Option.isSome_iff_exists.1 hz
  have hphi : phi m d = R := by rw [phi, hR]; rfl
  obtain ⟨⟨T, hT⟩, hcl⟩ := phC_ext hR fun j hj => by omega
  exact ⟨fun c hc' => (ha c hc').1.1, fun c hc' i hi => by rw [hphi] at hc' ⊢; exact hcl c hc' i hi, fun c hc' => ⟨(ha c hc').1.2, (ha c hc').2⟩, fun i hi => by
    rw [hphi, hT]
    exact List.mem_append_left _ (List.mem_map.2 ⟨i, by simpa using hi, rfl⟩), fun i hi => ⟨(hb i hi).1.1.1, (hb i hi).1.1.2⟩, fun i hi => (hb i hi).2, fun i hi => (hb i hi).1.2, hc, by omega⟩
end Go.Proofs.YtgelkakjmbiibaaGreatDoor
