/-
  Climbing to a dominant weight: that it ends, and what it gives; the first number below zero; lists turned, lists with other signs. No program is spoken of.
-/
import Derived.Test.YtgelkakjmbiibaaGreatDoorZ23
namespace Go.Proofs.YtgelkakjmbiibaaGreatDoor
set_option linter.unusedVariables false
set_option linter.unusedSimpArgs false
def Bd (n : Int) (d w : List Int) : Prop := w.length = n.toNat ∧ ∀ c ∈ phi n d, -20 ≤ dotL n.toNat c w ∧ dotL n.toNat c w ≤ 20
theorem dot_unit {m i : Nat} {w : List Int} (hi : i < m) : dotL m (unitL m i) w = w.getD i 0 := by
  have h := dotN_unit (w.getD · 0) i m
  rw [if_pos hi] at h
  rw [← h]
  exact dotN_congr fun k hk => ⟨by simp [unitL, List.getD, hk], rfl⟩
theorem Bd.ent {n : Int} {d w : List Int} (hp : PhOk n d) (h : Bd n d w) {k : Nat} (hk : k < w.length) : -20 ≤ w.getD k 0 ∧ w.getD k 0 ≤ 20 := by
  have hk' : k < n.toNat := by rw [← h.1]; exact hk
  have := h.2 _ (hp.unit k hk')
  rwa [dot_unit hk'] at this
theorem dot_refl {n : Int} {d c w w' : List Int} {i : Int} (hc : c.length = n.toNat) (hi : i.toNat < n.toNat) (hi0 : 0 ≤ i) (hg : ∀ k, k < n.toNat → w'.getD k 0 = w.getD k 0 - w.getD i.toNat 0 * atI n d k i) : dotL n.toNat c w' = dotL n.toNat (phStep n d c i.toNat) w := by
  have e1 : dotL n.toNat c w' = dotN (c.getD · 0) (fun k => w.getD k 0 - w.getD i.toNat 0 * atI n d k i) n.toNat := dotN_congr fun k hk => ⟨rfl, hg k hk⟩
  have e2 : dotL n.toNat (phStep n d c i.toNat) w = dotN (fun k => if k = i.toNat then c.getD k 0 - dotN (c.getD · 0) (fun k => atI n d k i) n.toNat else c.getD k 0) (w.getD · 0) n.toNat := dotN_congr fun k hk => ⟨by
    have ei : ((i.toNat : Nat) : Int) = i := by omega
    unfold phStep
    rw [ei]
    by_cases h : k = i.toNat
    · subst h
      rw [if_pos rfl]
      simp [List.getD, hc, hk]
    · rw [if_neg h, set_getD_ne (by omega)], rfl⟩
  rw [e1, e2, dotN_sub, dotN_upd, if_pos hi, Int.mul_comm]
theorem Bd.refl {n : Int} {d w : List Int} (hp : PhOk n d) (h : Bd n d w) {i : Int} (hi : 0 ≤ i ∧ i.toNat < w.length) : Bd n d (rfF n d i w) := by
  refine ⟨by rw [rfF_len]; exact h.1, fun c hc => ?_⟩
  have hi' : i.toNat < n.toNat := by rw [← h.1]; exact hi.2
  have hex : ∀ k, k < n.toNat → (rfF n d i w).getD k 0 = w.getD k 0 - w.getD i.toNat 0 * atI n d k i := fun k hk => rfF_exact hp.ent hi.2 (fun k hk => by have := h.ent hp hk; omega) (by rw [h.1]; exact hk)
  rcases hp.closed c hc _ hi' with hu | hu
  · subst hu
    have hdg := hp.diag i.toNat hi'
    rw [show ((i.toNat : Nat) : Int) = i by omega] at hdg
    have he := h.ent hp hi.2
    have hx := hex _ hi'
    rw [show ((i.toNat : Nat) : Int) = i by omega, hdg] at hx
    rw [dot_unit hi', hx]
    omega
  · rw [dot_refl (w := w) (hp.len c hc) hi' hi.1 hex]
    exact h.2 _ hu
def hM (n : Int) (d w : List Int) : Int := dotL n.toNat (mvec n d) w
theorem hM_refl {n : Int} {d w : List Int} (hp : PhOk n d) {i : Int} (hl : w.length = n.toNat) (hw : ∀ k, k < w.length → -1000 ≤ w.getD k 0 ∧ w.getD k 0 ≤ 1000) (hi : 0 ≤ i ∧ i.toNat < w.length) : hM n d (rfF n d i w) = hM n d w - 2 * w.getD i.toNat 0 := by
  have hi' : i.toNat < n.toNat := by rw [← hl]; exact hi.2
  have e1 : hM n d (rfF n d i w) = dotN ((mvec n d).getD · 0) (fun k => w.getD k 0 - w.getD i.toNat 0 * atI n d k i) n.toNat := dotN_congr fun k hk => ⟨rfl, rfF_exact hp.ent hi.2 hw (by rw [hl]; exact hk)⟩
  have h2 := hp.two i.toNat hi'
  rw [show ((i.toNat : Nat) : Int) = i by omega] at h2
  rw [e1, dotN_sub, h2, Int.mul_comm]
  rfl
theorem hM_bd {n : Int} {d w : List Int} {B : Int} (hp : PhOk n d) (hB : 0 ≤ B) (hl : w.length = n.toNat) (hw : ∀ k, k < w.length → -B ≤ w.getD k 0 ∧ w.getD k 0 ≤ B) : -(800 * B) ≤ hM n d w ∧ hM n d w ≤ 800 * B := by
  have h := dotN_bd (c := ((mvec n d).getD · 0)) (w := (w.getD · 0)) hB (m := n.toNat) fun k hk => ⟨hp.mv k hk, hw k (by rw [hl]; exact hk)⟩
  have h4 : 200 * B * (n.toNat : Int) ≤ 200 * B * 4 := Int.mul_le_mul_of_nonneg_left (by have := hp.rk; omega) (by omega)
  have e : hM n d w = dotN ((mvec n d).getD · 0) (w.getD · 0) n.toNat := rfl
  rw [e]
  omega
def fpos (w : List Int) : Int := posF (fun (y : Int) => decide (y < 0)) w
theorem fpos_at {w : List Int} (h : ¬ fpos w < 0) : 0 ≤ fpos w ∧ (fpos w).toNat < w.length ∧ w.getD (fpos w).toNat 0 < 0 := by
  unfold fpos posF at h ⊢
  split at h
  · rename_i i hi
    rw [List.findIdx?_eq_some_iff_getElem] at hi
    obtain ⟨h1, h2, _⟩ := hi
    refine ⟨by omega, by simpa using h1, ?_⟩
    simp [List.getD, h1]
    simpa using h2
  · omega
def climb (n : Int) (d : List Int) : Nat → List Int → Option (List Int × List Int)
  | 0, _ => none
  | f + 1, w => if fpos w < 0 then some (w, []) else (climb n d f (rfF n d (fpos w) w)).map fun p => (p.1, fpos w :: p.2)
theorem climb_end {n : Int} {d : List Int} {f : Nat} {w x y : List Int} (h : climb n d f w = some (x, y)) (hp : fpos w < 0) : w = x ∧ [] = y := by
  cases f with
  | zero => cases h
  | succ f =>
    rw [climb, if_pos hp] at h
    simpa using h
theorem climb_step {n : Int} {d : List Int} {f : Nat} {w x y : List Int} (h : climb n d f w = some (x, y)) (hp : ¬ fpos w < 0) : ∃ g z, f = g + 1 ∧ climb n d g (rfF n d (fpos w) w) = some (x, z) ∧ y = fpos w :: z := by
  cases f with
  | zero => cases h
  | succ f =>
    rw [climb, if_neg hp] at h
    obtain ⟨p, h1, h2⟩ := Option.map_eq_some_iff.1 h
    simp only [Prod.mk.injEq] at h2
    exact ⟨f, p.2, rfl, by rw [h1, ← h2.1], h2.2.symm⟩
theorem climb_ex {n : Int} {d : List Int} (hp : PhOk n d) : ∀ (f : Nat) {w : List Int}, Bd n d w → 16000 - hM n d w < 2 * f → (climb n d f w).isSome = true
  | 0, w, hb, h => by
    have := (hM_bd hp (B := 20) (by omega) hb.1 fun k hk => hb.ent hp hk).2
    omega
  | f + 1, w, hb, h => by
    rw [climb]
    split
    · rfl
    · rename_i hf
      have hfa := fpos_at hf
      have h1 := hM_refl hp hb.1 (fun k hk => by have := hb.ent hp hk; omega) ⟨hfa.1, hfa.2.1⟩
      have ih := climb_ex hp f (hb.refl hp ⟨hfa.1, hfa.2.1⟩) (by omega)
      obtain ⟨p, hp'⟩ := Option.isSome_iff_exists.1 ih
      rw [hp']
      rfl
def nwF (n : Int) (d w : List Int) : List Int := ((climb n d 16001 w).getD ([], [])).2
theorem climb_ok {n : Int} {d w : List Int} (hp : PhOk n d) (hb : Bd n d w) : ∃ x, climb n d 16001 w = some (x, nwF n d w) := by
  have h := climb_ex hp 16001 hb (by have := (hM_bd hp (B := 20) (by omega) hb.1 fun k hk => hb.ent hp hk).1; omega)
  obtain ⟨p, h1⟩ := Option.isSome_iff_exists.1 h
  exact ⟨p.1, by rw [nwF, h1]; rfl⟩
theorem Bd.up {n : Int} {d : List Int} (hp : PhOk n d) : Bd n d (ones n 1) := ⟨by simp [ones], hp.up⟩
theorem dotN_neg (c w : Nat → Int) : ∀ m : Nat, dotN c (fun k => -(w k)) m = -(dotN c w m)
  | 0 => rfl
  | m + 1 => by
    rw [dotN, dotN, dotN_neg c w m, Int.mul_neg]
    omega
theorem Bd.dn {n : Int} {d : List Int} (hp : PhOk n d) : Bd n d (ones n (-1)) := ⟨by simp [ones], fun c hc => by
  have e : dotL n.toNat c (ones n (-1)) = -(dotL n.toNat c (ones n 1)) := by
    have h := dotN_neg (c.getD · 0) ((ones n 1).getD · 0) n.toNat
    exact (dotN_congr fun k hk => ⟨rfl, by simp [ones, List.getD, hk]⟩).trans h
  have := hp.up c hc
  rw [e]
  omega⟩
theorem Bd.act {n : Int} {d w : List Int} (hp : PhOk n d) (h : Bd n d w) : ∀ {word : List Int}, (∀ y ∈ word, 0 ≤ y ∧ y < n) → Bd n d (actF n d word w)
  | [], _ => h
  | i :: t, hw => by
    have ih := Bd.act hp h (word := t) fun y hy => hw y (by simp [hy])
    have hi := hw i (by simp)
    have hl := ih.1
    exact ih.refl hp ⟨hi.1, by rw [hl]; omega⟩
theorem climb_len {n : Int} {d : List Int} : ∀ {f : Nat} {w x y : List Int}, climb n d f w = some (x, y) → y.length ≤ f
  | 0, _, _, _, h => by cases h
  | f + 1, w, x, y, h => by
    by_cases hf : fpos w < 0
    · have := (climb_end h hf).2
      rw [← this]
      simp
    · obtain ⟨g, z, h1, h2, h3⟩ := climb_step h hf
      obtain rfl : f = g := by omega
      have := climb_len h2
      rw [h3, List.length_cons]
      omega
theorem nwF_len (n : Int) (d w : List Int) : (nwF n d w).length ≤ 16001 := by
  unfold nwF
  cases h : climb n d 16001 w with
  | none => simp
  | some p => exact climb_len (x := p.1) (y := p.2) h
def domS (n : Int) (d : List Int) : Nat → List Int → List Int → Option (List Int × List Int)
  | 0, _, _ => none
  | f + 1, w, ws => if wtOk n w then (if fpos w < 0 then some (w, ws) else domS n d f (rfF n d (fpos w) w) (fpos w :: ws)) else some ([], [])
theorem domS_end {n : Int} {d : List Int} {f : Nat} {w ws x y : List Int} (h : domS n d f w ws = some (x, y)) (hb : wtOk n w = true) (hp : fpos w < 0) : w = x ∧ ws = y := by
  cases f with
  | zero => cases h
  | succ f =>
    rw [domS, if_pos hb, if_pos hp] at h
    simpa using h
theorem domS_step {n : Int} {d : List Int} {f : Nat} {w ws x y : List Int} (h : domS n d f w ws = some (x, y)) (hb : wtOk n w = true) (hp : ¬ fpos w < 0) : ∃ g, f = g + 1 ∧ domS n d g (rfF n d (fpos w) w) (fpos w :: ws) = some (x, y) := by
  cases f with
  | zero => cases h
  | succ f =>
    rw [domS, if_pos hb, if_neg hp] at h
    exact ⟨f, rfl, h⟩
def lpF (x : List Int) (k : Int) (y : List Int) : List Int := (List.range y.length).foldl (fun (o : List Int) (i : Nat) => o.set i (IntKind.i64.wrap (o.getD i 0 + IntKind.i64.wrap (k * y.getD i 0)))) x
def mnF (y : List Int) : List Int := y.map fun x => 0 - x
theorem rep_start {n : Nat} {x : List Int} (hx : x.length = 1) (hn : 1 ≤ n) : (List.replicate n (0 : Int)).take 0 ++ x.take (min x.length ((List.replicate n (0 : Int)).length - 0)) ++ (List.replicate n (0 : Int)).drop (0 + min x.length ((List.replicate n (0 : Int)).length - 0)) = List.replicate 1 (x.getD 0 0) ++ List.replicate (n - 1) 0 := by
  have hm : min x.length ((List.replicate n (0 : Int)).length - 0) = 1 := by simp [hx]; omega
  rw [hm]
  match x, hx with
  | [a], _ => simp
theorem rep_step {n q k : Nat} {a : Int} {ys : List Int} (hy : ys = List.replicate q a ++ List.replicate (n - q) 0) (hq : 1 ≤ q ∧ q < n) (hk : k = min ((ys.drop 0).take (q - 0)).length (ys.length - q)) : ys.take q ++ ((ys.drop 0).take (q - 0)).take k ++ ys.drop (q + k) = List.replicate (q + k) a ++ List.replicate (n - (q + k)) 0 := by
  have hl : ys.length = n := by rw [hy]; simp; omega
  have h1 : ys.take q = List.replicate q a := by rw [hy]; simp
  have h2 : (ys.drop 0).take (q - 0) = List.replicate q a := by rw [List.drop_zero, Nat.sub_zero, h1]
  rw [h2, hl, List.length_replicate] at hk
  have h3 : (List.replicate q a).take k = List.replicate k a := by rw [List.take_replicate]; congr 1; omega
  have h4 : ys.drop (q + k) = List.replicate (n - (q + k)) 0 := by
    rw [hy, ← List.drop_drop, List.drop_left' (by simp), List.drop_replicate]
    congr 1
    omega
  rw [h1, h2, h3, h4, List.replicate_append_replicate]
theorem mnF_len (x : List Int) : (mnF x).length = x.length := by simp [mnF]
theorem ones_len (n s : Int) : (ones n s).length = n.toNat := by simp [ones]
theorem lpF_len (x : List Int) (k : Int) (y : List Int) : (lpF x k y).length = x.length := len_fold (fun o i => by simp) _ _
theorem wordB_ty {n : Int} {d x : List Int} (h : wordB n d x = true) : (tyS n d).isSome = true := by
  simp only [wordB, Bool.and_eq_true] at h
  exact h.1
theorem Bd.word {n : Int} {d x : List Int} (h : wordB n d x = true) : Bd n d (actF n d x (ones n 1)) := (Bd.up (phOk (wordB_ty h))).act (phOk (wordB_ty h)) (wordB_ok h).2.2
def cmpI (a b : Int) : Int := if a < b then -1 else if b < a then 1 else 0
def cmpL : List Int → List Int → Int
  | [], ys => if 0 < ys.length then -1 else 0
  | _ :: _, [] => 1
  | x :: xs, y :: ys => if cmpI x y ≠ 0 then cmpI x y else cmpL xs ys
def abvL : List Int → List Int → Bool
  | [], _ => false
  | _ :: _, [] => true
  | x :: xs, y :: ys => if x ≠ y then decide (y < x) else abvL xs ys
theorem cmpI_ne {a b : Int} : cmpI a b ≠ 0 ↔ a ≠ b := by
  unfold cmpI
  split
  · constructor
    · intro _
      omega
    · intro _
      omega
  · split
    · constructor
      · intro _
        omega
      · intro _
        omega
    · constructor
      · intro h
        exact absurd rfl h
      · intro h
        omega
theorem cmp_abv : ∀ x y : List Int, decide (cmpL x y ≤ 0) = !(abvL x y)
  | [], ys => by
    rw [cmpL, abvL]
    split <;> rfl
  | _ :: _, [] => rfl
  | x :: xs, y :: ys => by
    rw [cmpL, abvL]
    by_cases h : x = y
    · rw [if_neg (by rw [cmpI_ne]; simpa using h), if_neg (by simpa using h)]
      exact cmp_abv xs ys
    · rw [if_pos (cmpI_ne.2 h), if_pos h]
      unfold cmpI
      by_cases h2 : y < x
      · rw [if_neg (by omega), if_pos h2]
        simp [h2]
      · rw [if_pos (by omega)]
        simp [h2]
theorem cmp_ne {x y : List Int} {k : Nat} (h1 : k < x.length) (h2 : k < y.length) (h : cmpI (x.getD k 0) (y.getD k 0) ≠ 0) : cmpL (x.drop k) (y.drop k) = cmpI (x.getD k 0) (y.getD k 0) := by
  rw [drop_getD h1, drop_getD h2, cmpL, if_pos h]
theorem cmp_eq {x y : List Int} {k : Nat} (h1 : k < x.length) (h2 : k < y.length) (h : cmpI (x.getD k 0) (y.getD k 0) = 0) : cmpL (x.drop k) (y.drop k) = cmpL (x.drop (k + 1)) (y.drop (k + 1)) := by
  rw [drop_getD h1, drop_getD h2, cmpL, if_neg (by simpa using h)]
theorem cmp_long {x y : List Int} {k : Nat} (h1 : k < x.length) (h2 : y.length ≤ k) : cmpL (x.drop k) (y.drop k) = 1 := by
  rw [drop_getD h1, List.drop_eq_nil_of_le h2, cmpL]
theorem cmp_end {x y : List Int} {k : Nat} (h1 : x.length ≤ k) (h2 : k ≤ x.length) (h3 : k ≤ y.length ∨ True) : cmpL (x.drop k) (y.drop k) = if (x.length : Int) < y.length then -1 else 0 := by
  rw [List.drop_eq_nil_of_le h1, cmpL, List.length_drop]
  by_cases h : (x.length : Int) < y.length
  · rw [if_pos (by omega), if_pos h]
  · rw [if_neg (by omega), if_neg h]
end Go.Proofs.YtgelkakjmbiibaaGreatDoor
