/-
  The positive roots of a Cartan matrix: found one from another, put in order: what both texts do, in plain words; that it ends and stays small is checked by the kernel for all Cartan matrices. No program is spoken of.
-/
import Derived.Test.YtgelkakjmbiibaaGreatDoorCarW
namespace Go.Proofs.YtgelkakjmbiibaaGreatDoor
set_option linter.unusedVariables false
set_option linter.unusedSimpArgs false
theorem set_same {o : List Int} {i : Nat} (h : i < o.length) : o.set i (o.getD i 0) = o := by simp [List.getD, h]
def rStep (n : Int) (d x : List Int) (i : Nat) : List Int := x.set i (x.getD i 0 - dotN (fun k => atI n d i k) (x.getD · 0) n.toNat)
theorem rStep_len (n : Int) (d x : List Int) (i : Nat) : (rStep n d x i).length = x.length := by simp [rStep]
theorem dotN_small {a x : Nat → Int} : ∀ {m : Nat}, (∀ k, k < m → (-3 ≤ a k ∧ a k ≤ 3) ∧ -1000 ≤ x k ∧ x k ≤ 1000) → -(3000 * (m : Int)) ≤ dotN a x m ∧ dotN a x m ≤ 3000 * (m : Int)
  | 0, _ => by simp [dotN]
  | m + 1, h => by
    have h1 := dotN_small (m := m) fun k hk => h k (by omega)
    obtain ⟨h2, h3⟩ := h m (by omega)
    have h4 := mul_bd (B := 1000) (x := x m) (a := a m) h3 h2
    rw [Int.mul_comm (x m)] at h4
    rw [dotN]
    omega
theorem wtI_in {n : Int} {d x o : List Int} {i : Nat} (hd : ∀ y ∈ d, -3 ≤ y ∧ y ≤ 3) (hx : ∀ k, k < x.length → -1000 ≤ x.getD k 0 ∧ x.getD k 0 ≤ 1000) (hl : x.length ≤ 4) (hi : i < o.length) (h0 : o.getD i 0 = 0) :
    ∀ m : Nat, m ≤ x.length → (List.range m).foldl (fun (o : List Int) (j : Nat) => o.set i (IntKind.i64.wrap (o.getD i 0 + IntKind.i64.wrap (atI n d i j * x.getD j 0)))) o = o.set i (dotN (fun k => atI n d i k) (x.getD · 0) m)
  | 0, _ => by
    have := set_same hi
    rw [h0] at this
    exact this.symm
  | m + 1, hm => by
    have hb := dotN_small (a := fun k => atI n d i k) (x := (x.getD · 0)) (m := m) fun k hk => ⟨atI_bd hd i k, hx k (by omega)⟩
    have h4 := mul_bd (B := 1000) (hx m (by omega)) (atI_bd (n := n) hd i m)
    rw [Int.mul_comm (x.getD m 0)] at h4
    rw [foldl_succ, wtI_in hd hx hl hi h0 m (by omega), set_getD_eq hi, List.set_set, dotN, wrap_in (x := atI n d i m * x.getD m 0) (by omega) (by omega), wrap_in (by omega) (by omega)]
theorem wtF_get {n : Int} {d x : List Int} (hd : ∀ y ∈ d, -3 ≤ y ∧ y ≤ 3) (hx : ∀ k, k < x.length → -1000 ≤ x.getD k 0 ∧ x.getD k 0 ≤ 1000) (hn : x.length = n.toNat) (h4 : n.toNat ≤ 4) :
    ∀ m : Nat, m ≤ n.toNat → ((List.range m).foldl (wtI n d x) (List.replicate n.toNat 0)).length = n.toNat ∧ ∀ k, k < n.toNat → ((List.range m).foldl (wtI n d x) (List.replicate n.toNat 0)).getD k 0 = if k < m then dotN (fun j => atI n d k j) (x.getD · 0) n.toNat else 0
  | 0, _ => by
    refine ⟨by simp, fun k hk => ?_⟩
    rw [if_neg (by omega)]
    simp [List.getD, hk]
  | m + 1, hm => by
    obtain ⟨h1, h2⟩ := wtF_get hd hx hn h4 m (by omega)
    have h0 := h2 m (by omega)
    rw [if_neg (by omega)] at h0
    have e := wtI_in (n := n) hd hx (by omega) (o := (List.range m).foldl (wtI n d x) (List.replicate n.toNat 0)) (i := m) (by omega) h0 x.length (Nat.le_refl _)
    have e2 : (List.range (m + 1)).foldl (wtI n d x) (List.replicate n.toNat 0) = ((List.range m).foldl (wtI n d x) (List.replicate n.toNat 0)).set m (dotN (fun k => atI n d m k) (x.getD · 0) x.length) := by
      rw [foldl_succ]
      exact e
    rw [e2]
    refine ⟨by rw [List.length_set]; exact h1, fun k hk => ?_⟩
    by_cases hkm : k = m
    · subst hkm
      rw [set_getD_eq (by omega), if_pos (by omega), hn]
    · rw [set_getD_ne (by omega), h2 k hk]
      by_cases h : k < m
      · rw [if_pos h, if_pos (by omega)]
      · rw [if_neg h, if_neg (by omega)]
theorem wtF_at {n : Int} {d x : List Int} (hd : ∀ y ∈ d, -3 ≤ y ∧ y ≤ 3) (hx : ∀ k, k < x.length → -1000 ≤ x.getD k 0 ∧ x.getD k 0 ≤ 1000) (hn : x.length = n.toNat) (h4 : n.toNat ≤ 4) {i : Nat} (hi : i < n.toNat) :
    (wtF n d x).getD i 0 = dotN (fun j => atI n d i j) (x.getD · 0) n.toNat ∧ -12000 ≤ (wtF n d x).getD i 0 ∧ (wtF n d x).getD i 0 ≤ 12000 := by
  have h := (wtF_get hd hx hn h4 n.toNat (Nat.le_refl _)).2 i hi
  rw [if_pos hi] at h
  have hb := dotN_small (a := fun k => atI n d i k) (x := (x.getD · 0)) (m := n.toNat) fun k hk => ⟨atI_bd hd i k, hx k (by omega)⟩
  have e : (wtF n d x).getD i 0 = _ := h
  refine ⟨e, ?_⟩
  rw [e]
  omega
theorem arI_step {n : Int} {d x : List Int} {i : Int} (hd : ∀ y ∈ d, -3 ≤ y ∧ y ≤ 3) (hx : ∀ k, k < x.length → -1000 ≤ x.getD k 0 ∧ x.getD k 0 ≤ 1000) (hn : x.length = n.toNat) (h4 : n.toNat ≤ 4) (hi : i.toNat < n.toNat) : arI n d i x = rStep n d x i.toNat := by
  obtain ⟨h1, h2⟩ := wtF_at hd hx hn h4 hi
  have h3 := hx i.toNat (by omega)
  rw [arI, rStep, wrap_in (by omega) (by omega), h1]
def posL (x : List Int) : Bool := !(x.any fun y => decide (y < 0))
def plF (L : List (List Int)) (x : List Int) : Int := posF (fun y => samB y x) L
def rOne (n : Int) (d x : List Int) (L : List (List Int)) (i : Nat) : List (List Int) := if posL (rStep n d x i) && !(L.contains (rStep n d x i)) then L ++ [rStep n d x i] else L
def rAdd (n : Int) (d x : List Int) (L : List (List Int)) : List (List Int) := (List.range n.toNat).foldl (rOne n d x) L
def rC (n : Int) (d : List Int) : Nat → List (List Int) → Nat → Option (List (List Int))
  | 0, _, _ => none
  | f + 1, L, k => if k < L.length then rC n d f (rAdd n d (L.getD k []) L) (k + 1) else some L
def rFd (n : Int) (d : List Int) : List (List Int) := (rC n d 40 (units n) 0).getD []
def Pre (L R : List (List Int)) : Prop := ∃ T, R = L ++ T
theorem Pre.refl (L : List (List Int)) : Pre L L := ⟨[], by simp⟩
theorem Pre.trans {L M R : List (List Int)} (h : Pre L M) (k : Pre M R) : Pre L R := by
  obtain ⟨T, rfl⟩ := h
  obtain ⟨U, rfl⟩ := k
  exact ⟨T ++ U, by simp⟩
theorem Pre.len {L R : List (List Int)} (h : Pre L R) : L.length ≤ R.length := by
  obtain ⟨T, rfl⟩ := h
  simp
theorem Pre.mem {L R : List (List Int)} (h : Pre L R) {x : List Int} (hx : x ∈ L) : x ∈ R := by
  obtain ⟨T, rfl⟩ := h
  simp [hx]
theorem Pre.get {L R : List (List Int)} (h : Pre L R) {k : Nat} (hk : k < L.length) : R.getD k [] = L.getD k [] := by
  obtain ⟨T, rfl⟩ := h
  simp [List.getD, List.getElem?_append_left hk]
theorem rOne_pre {n : Int} {d x : List Int} {L : List (List Int)} {i : Nat} : Pre L (rOne n d x L i) := by
  unfold rOne
  split
  · exact ⟨_, rfl⟩
  · exact Pre.refl _
theorem rIn_pre {n : Int} {d x : List Int} {L : List (List Int)} {i : Nat} : ∀ {m : Nat}, i ≤ m → Pre ((List.range i).foldl (rOne n d x) L) ((List.range m).foldl (rOne n d x) L)
  | 0, h => by
    have : i = 0 := by omega
    subst this
    exact Pre.refl _
  | m + 1, h => by
    by_cases e : i = m + 1
    · subst e
      exact Pre.refl _
    · rw [foldl_succ]
      exact (rIn_pre (by omega)).trans rOne_pre
theorem rC_pre {n : Int} {d : List Int} : ∀ {f : Nat} {L R : List (List Int)} {k : Nat}, rC n d f L k = some R → Pre L R
  | 0, _, _, _, h => by cases h
  | f + 1, L, R, k, h => by
    rw [rC] at h
    split at h
    · exact (rIn_pre (i := 0) (Nat.zero_le _)).trans (rC_pre h)
    · cases h
      exact Pre.refl _
def sumW (x : List Int) : Int := (List.range x.length).foldl (fun (s : Int) (i : Nat) => IntKind.i64.wrap (s + x.getD i 0)) 0
def rcmp (x y : List Int) : Int := if cmpI (sumW x) (sumW y) ≠ 0 then cmpI (sumW x) (sumW y) else cmpL y x
def lsB (x y : List Int) : Bool := if sumW x ≠ sumW y then decide (sumW x < sumW y) else abvL x y
def ltR (x y : List Int) : Bool := decide (rcmp x y < 0)
theorem cmpI_cases (a b : Int) : (a < b ∧ cmpI a b = -1) ∨ (a = b ∧ cmpI a b = 0) ∨ (b < a ∧ cmpI a b = 1) := by
  unfold cmpI
  by_cases h1 : a < b
  · exact .inl ⟨h1, if_pos h1⟩
  · by_cases h2 : b < a
    · exact .inr (.inr ⟨h2, by rw [if_neg h1, if_pos h2]⟩)
    · exact .inr (.inl ⟨by omega, by rw [if_neg h1, if_neg h2]⟩)
theorem cmpL_cons (a b : Int) (s t : List Int) : (a < b ∧ cmpL (a :: s) (b :: t) = -1) ∨ (a = b ∧ cmpL (a :: s) (b :: t) = cmpL s t) ∨ (b < a ∧ cmpL (a :: s) (b :: t) = 1) := by
  rcases cmpI_cases a b with ⟨h1, h2⟩ | ⟨h1, h2⟩ | ⟨h1, h2⟩
  · exact .inl ⟨h1, by rw [cmpL, h2, if_pos (by omega)]⟩
  · exact .inr (.inl ⟨h1, by rw [cmpL, h2, if_neg (by omega)]⟩)
  · exact .inr (.inr ⟨h1, by rw [cmpL, h2, if_pos (by omega)]⟩)
theorem cmpL_nil (b : Int) (t : List Int) : cmpL [] (b :: t) = -1 := by simp [cmpL]
theorem cmpL_nil2 (b : Int) (t : List Int) : cmpL (b :: t) [] = 1 := rfl
theorem cmpL_neg : ∀ x y : List Int, cmpL y x = -(cmpL x y)
  | [], [] => by simp [cmpL]
  | [], b :: t => by rw [cmpL_nil, cmpL_nil2]; rfl
  | a :: s, [] => by rw [cmpL_nil, cmpL_nil2]
  | a :: s, b :: t => by
    rcases cmpL_cons a b s t with ⟨h1, h2⟩ | ⟨h1, h2⟩ | ⟨h1, h2⟩ <;> rcases cmpL_cons b a t s with ⟨g1, g2⟩ | ⟨g1, g2⟩ | ⟨g1, g2⟩ <;> first
      | omega
      | (rw [h2, g2]; exact cmpL_neg s t)
theorem cmpL_zero : ∀ {x y : List Int}, cmpL x y = 0 → x = y
  | [], [], _ => rfl
  | [], b :: t, h => by rw [cmpL_nil] at h; omega
  | a :: s, [], h => by rw [cmpL_nil2] at h; omega
  | a :: s, b :: t, h => by
    rcases cmpL_cons a b s t with ⟨h1, h2⟩ | ⟨h1, h2⟩ | ⟨h1, h2⟩
    · omega
    · rw [h1, cmpL_zero (h2.symm.trans h)]
    · omega
theorem cmpL_self (x : List Int) : cmpL x x = 0 := by
  have := cmpL_neg x x
  omega
theorem cmpL_trans : ∀ {x y z : List Int}, cmpL x y < 0 → cmpL y z < 0 → cmpL x z < 0
  | [], [], [], h, _ => by rw [cmpL_self] at h; omega
  | [], b :: t, [], _, h => by rw [cmpL_nil2] at h; omega
  | [], _, c :: u, _, _ => by rw [cmpL_nil]; omega
  | a :: s, [], _, h, _ => by rw [cmpL_nil2] at h; omega
  | a :: s, b :: t, [], _, h => by rw [cmpL_nil2] at h; omega
  | a :: s, b :: t, c :: u, h, k => by
    rcases cmpL_cons a b s t with ⟨h1, h2⟩ | ⟨h1, h2⟩ | ⟨h1, h2⟩ <;> rcases cmpL_cons b c t u with ⟨g1, g2⟩ | ⟨g1, g2⟩ | ⟨g1, g2⟩ <;> rcases cmpL_cons a c s u with ⟨k1, k2⟩ | ⟨k1, k2⟩ | ⟨k1, k2⟩ <;> first
      | omega
      | (rw [k2]; exact cmpL_trans (by rw [← h2]; exact h) (by rw [← g2]; exact k))
def rInsAt (x : List Int) (L : List (List Int)) : Nat → Nat
  | 0 => 0
  | a + 1 => if lsB x (L.getD a []) then rInsAt x L a else a + 1
def rIns (L : List (List Int)) (x : List Int) : List (List Int) := L.take (rInsAt x L L.length) ++ [x] ++ L.drop (rInsAt x L L.length)
def rSt (n : Int) (d : List Int) : List (List Int) := (rFd n d).foldl rIns []
structure RtOk (n : Int) (d : List Int) : Prop where
  run : rC n d 40 (units n) 0 = some (rFd n d)
  len : ∀ x ∈ rFd n d, x.length = n.toNat
  ent : ∀ x ∈ rFd n d, ∀ k, 0 ≤ x.getD k 0 ∧ x.getD k 0 ≤ 10
  few : (rFd n d).length ≤ 30
  nod : (rFd n d).Nodup
  pair : (rSt n d).Pairwise fun a b => ltR b a = false
  perm : (rSt n d).Perm (rFd n d)
  mat : ∀ x ∈ d, -3 ≤ x ∧ x ≤ 3
  lo : 1 ≤ n.toNat
  rk : n.toNat ≤ 4
end Go.Proofs.YtgelkakjmbiibaaGreatDoor
