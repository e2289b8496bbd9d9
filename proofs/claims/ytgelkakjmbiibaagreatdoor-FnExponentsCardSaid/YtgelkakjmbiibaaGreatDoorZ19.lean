/-
  The order of a Weyl group exactly: the tree by first negative numbers has no weight twice. No program is spoken of.
-/
import Derived.Test.YtgelkakjmbiibaaGreatDoorZ22
import Derived.Test.YtgelkakjmbiibaaGreatDoorNewA
import Derived.Test.YtgelkakjmbiibaaGreatDoorZ09
import Derived.Test.YtgelkakjmbiibaaGreatDoorLct
namespace Go.Proofs.YtgelkakjmbiibaaGreatDoor
set_option linter.unusedVariables false
set_option linter.unusedSimpArgs false
theorem sum_map_eq {α : Type} {g t : α → Nat} : ∀ {l : List α}, (∀ x ∈ l, g x = t x) → (l.map g).sum = (l.map t).sum
  | [], _ => rfl
  | y :: l, h => by rw [List.map_cons, List.sum_cons, List.map_cons, List.sum_cons, h y List.mem_cons_self, sum_map_eq (l := l) fun x hx => h x (List.mem_cons_of_mem _ hx)]
theorem cnt_exact {n : Int} {d : List Int} (h : MatT n d) : ∀ (f : Nat) (w : List Int), w.length = n.toNat → inW 500 w → cntE (csL n d n.toNat) f (enW w) ≤ 1200 → (treeL n d f w).length = cntE (csL n d n.toNat) f (enW w)
  | 0, w, _, _, hc => by rw [cntE] at hc; omega
  | f + 1, w, hl, hw, hc => by
    have h4 := h.n4
    cases hok : okE (enW w) with
    | false => rw [cntE, hok, cond_false] at hc; omega
    | true =>
      have hin := (okE_en hw (by omega)).1 hok
      rw [cntE_succ n d f _ hok] at hc ⊢
      have key : ∀ i ∈ down n.toNat, (if kidB n d w i then treeL n d f (rp n d i w) else []).length = kidE n d f (enW w) i := fun i him => by
        have hi := mem_down.1 him
        have hs := mem_le_sum (g := kidE n d f (enW w)) him
        have hr := rp_in h hi hl hin
        by_cases hk : kidB n d w i = true
        · rw [if_pos hk]
          have hk2 := hk
          rw [kidB, Bool.and_eq_true, decide_eq_true_eq] at hk2
          have e1 : kidE n d f (enW w) i = cntE (csL n d n.toNat) f (enW (rp n d i w)) := by
            rw [kidE, frc_eq, dig_en hw (by omega), show Nat.blt 512 (w.getD i 0 + 512).toNat = true from by rw [Nat.blt_eq]; have := hin i; omega, cond_true, ← enW_rp h hi hl hin hk2.1, geE_en hr (by omega), hk2.2, cond_true]
          rw [e1]
          exact cnt_exact h f (rp n d i w) (rp_len _ _ _ _) hr (by rw [← e1]; omega)
        · rw [if_neg hk, List.length_nil, kidE, frc_eq, dig_en hw (by omega)]
          by_cases hp : 0 < w.getD i 0
          · rw [show Nat.blt 512 (w.getD i 0 + 512).toNat = true from by rw [Nat.blt_eq]; have := hin i; omega, cond_true, ← enW_rp h hi hl hin hp, geE_en hr (by omega)]
            have : ((List.range i).all fun j => decide (0 ≤ (rp n d i w).getD j 0)) = false := by
              cases e : (List.range i).all fun j => decide (0 ≤ (rp n d i w).getD j 0) with
              | false => rfl
              | true => exact absurd (by rw [kidB, e, decide_eq_true hp]; rfl) hk
            rw [this, cond_false]
          · rw [show Nat.blt 512 (w.getD i 0 + 512).toNat = false from by rw [Bool.eq_false_iff]; intro hb; rw [Nat.blt_eq] at hb; have := hin i; omega, cond_false]
      rw [treeL, List.length_cons, List.length_flatMap]
      have := sum_map_eq (g := fun i => (if kidB n d w i then treeL n d f (rp n d i w) else []).length) (t := kidE n d f (enW w)) (l := down n.toNat) key
      omega
def upW (n : Int) (d v : List Int) : List Int := rp n d (fpos v).toNat v
def upM (n : Int) (d : List Int) : Nat → List Int → List Int
  | 0, v => v
  | m + 1, v => upM n d m (upW n d v)
theorem upM_succ (n : Int) (d : List Int) : ∀ (m : Nat) (v : List Int), upM n d (m + 1) v = upW n d (upM n d m v)
  | 0, v => rfl
  | m + 1, v => by
    show upM n d (m + 1) (upW n d v) = upW n d (upM n d m (upW n d v))
    exact upM_succ n d m (upW n d v)
theorem fpos_first {v : List Int} {i : Nat} (hi : i < v.length) (h1 : v.getD i 0 < 0) (h2 : ∀ j, j < i → 0 ≤ v.getD j 0) : fpos v = (i : Int) := by
  have h : ¬ fpos v < 0 := fun hh => by
    have := fpos_none rfl hh i hi
    omega
  obtain ⟨a1, a2, a3⟩ := fpos_at h
  rcases Nat.lt_trichotomy (fpos v).toNat i with hlt | heq | hgt
  · have := h2 _ hlt
    omega
  · omega
  · exfalso
    unfold fpos posF at hgt
    split at hgt
    · rename_i q hq
      rw [List.findIdx?_eq_some_iff_getElem] at hq
      obtain ⟨b1, b2, b3⟩ := hq
      have := b3 i (by simpa using hgt)
      simp only [List.getD, List.getElem?_eq_getElem hi, Option.getD_some] at h1
      simp at this
      omega
    · simp at hgt
section
variable {n : Int} {d : List Int} {R : List (List Int)}
theorem kid_up (h : WlOk n d R) {w : List Int} (hw : Reach n d w) {i : Nat} (hi : i < n.toNat) (hk : kidB n d w i = true) : fpos (rp n d i w) = (i : Int) ∧ upW n d (rp n d i w) = w ∧ lnW n R (rp n d i w) = lnW n R w + 1 := by
  rw [kidB, Bool.and_eq_true, decide_eq_true_eq, List.all_eq_true] at hk
  have lw := (hw.inv h.co).1
  have e : fpos (rp n d i w) = (i : Int) := fpos_first (by rw [rp_len]; exact hi) (by rw [rp_get hi, h.co.two i hi]; omega) fun j hj => of_decide_eq_true (hk.2 j (List.mem_range.2 hj))
  refine ⟨e, ?_, (h.co.ln hi w (by omega)).1 hk.1⟩
  rw [upW, e, Int.toNat_natCast, rp_rp h.co hi lw]
theorem tree_up (h : WlOk n d R) : ∀ {f : Nat} {w v : List Int}, Reach n d w → v ∈ treeL n d f w → Reach n d v ∧ ∃ m, lnW n R v = lnW n R w + m ∧ upM n d m v = w
  | 0, _, _, _, hv => by simp [treeL] at hv
  | f + 1, w, v, hw, hv => by
    rw [treeL] at hv
    rcases List.mem_cons.1 hv with rfl | hv
    · exact ⟨hw, 0, rfl, rfl⟩
    · obtain ⟨i, him, h2⟩ := List.mem_flatMap.1 hv
      have hi := mem_down.1 him
      split at h2
      · rename_i hk
        obtain ⟨_, e2, e3⟩ := kid_up h hw hi hk
        obtain ⟨hr, m, h3, h4⟩ := tree_up h (hw.step hi) h2
        refine ⟨hr, m + 1, by omega, ?_⟩
        rw [upM_succ, h4, e2]
      · simp at h2
theorem nodup_flat {α β : Type} {g : α → List β} : ∀ {L : List α}, L.Nodup → (∀ x ∈ L, (g x).Nodup) → (∀ x ∈ L, ∀ y ∈ L, ∀ z, z ∈ g x → z ∈ g y → x = y) → (L.flatMap g).Nodup
  | [], _, _, _ => by simp
  | x :: t, hn, h1, h2 => by
    obtain ⟨a, b⟩ := List.nodup_cons.1 hn
    rw [List.flatMap_cons, List.nodup_append]
    refine ⟨h1 x List.mem_cons_self, nodup_flat b (fun y hy => h1 y (List.mem_cons_of_mem _ hy)) (fun y hy z hz => h2 y (List.mem_cons_of_mem _ hy) z (List.mem_cons_of_mem _ hz)), fun p hp q hq e => ?_⟩
    subst e
    obtain ⟨y, hy, hpy⟩ := List.mem_flatMap.1 hq
    have := h2 x List.mem_cons_self y (List.mem_cons_of_mem _ hy) p hp hpy
    subst this
    exact a hy
theorem down_nod : ∀ m : Nat, (down m).Nodup
  | 0 => by simp [down]
  | m + 1 => by
    rw [down, List.nodup_cons]
    exact ⟨fun h => by have := mem_down.1 h; omega, down_nod m⟩
theorem tree_nod (h : WlOk n d R) : ∀ {f : Nat} {w : List Int}, Reach n d w → (treeL n d f w).Nodup
  | 0, _, _ => by simp [treeL]
  | f + 1, w, hw => by
    rw [treeL, List.nodup_cons]
    have kid : ∀ {i : Nat} {v : List Int}, i < n.toNat → v ∈ (if kidB n d w i then treeL n d f (rp n d i w) else []) → kidB n d w i = true ∧ ∃ m, lnW n R v = lnW n R w + 1 + m ∧ upM n d m v = rp n d i w := fun {i v} hi hv => by
      split at hv
      · rename_i hk
        obtain ⟨_, m, h3, h4⟩ := tree_up h (hw.step hi) hv
        exact ⟨hk, m, by have := (kid_up h hw hi hk).2.2; omega, h4⟩
      · simp at hv
    refine ⟨fun hm => ?_, nodup_flat (down_nod _) (fun i him => ?_) fun i him j hjm v hvi hvj => ?_⟩
    · obtain ⟨i, him, h2⟩ := List.mem_flatMap.1 hm
      obtain ⟨_, m, h3, _⟩ := kid (mem_down.1 him) h2
      omega
    · split
      · exact tree_nod h (hw.step (mem_down.1 him))
      · simp
    · obtain ⟨k1, m1, a1, b1⟩ := kid (mem_down.1 him) hvi
      obtain ⟨k2, m2, a2, b2⟩ := kid (mem_down.1 hjm) hvj
      obtain rfl : m1 = m2 := by omega
      have e1 := (kid_up h hw (mem_down.1 him) k1).1
      have e2 := (kid_up h hw (mem_down.1 hjm) k2).1
      rw [← b1, b2, e2] at e1
      omega
theorem WlOk.ordE (h : WlOk n d R) : (oAll n d (ones n 1)).length = cntE (csL n d n.toNat) 25 (enW (ones n 1)) := by
  rw [← cnt_exact h.mt 25 (ones n 1) (ones_len n 1) (fun k => by
    by_cases hk : k < n.toNat
    · rw [ones_get hk]; omega
    · rw [List.getD, List.getElem?_eq_none (by rw [ones_len]; omega)]
      show -500 ≤ (0 : Int) ∧ (0 : Int) ≤ 500
      omega) h.ct]
  exact Nat.le_antisymm (nodup_sub (oAll_nod _ _ _) fun v hv => h.mem (h.orR v hv)) (nodup_sub (tree_nod h Reach.one) fun v hv => h.orAll (tree_up h Reach.one hv).1)
theorem mnF_getT (w : List Int) (k : Nat) : (mnF w).getD k 0 = -(w.getD k 0) := by
  by_cases hk : k < w.length
  · simp [mnF, List.getD, hk]
  · simp [mnF, List.getD, List.getElem?_eq_none (Nat.le_of_not_lt hk)]
theorem rp_mn {w : List Int} {i : Nat} (hi : i < n.toNat) : rp n d i (mnF w) = mnF (rp n d i w) := by
  refine ext_getD (by rw [mnF_len, rp_len, rp_len]) fun k hk => ?_
  rw [rp_len] at hk
  rw [rp_get hk, mnF_getT, mnF_getT, mnF_getT, rp_get hk, Int.neg_mul]
  omega
theorem prW_mn (w b : List Int) : prW n (mnF w) b = -(prW n w b) := by
  unfold prW
  rw [dotN_comm, show dotN (b.getD · 0) ((mnF w).getD · 0) n.toNat = dotN (b.getD · 0) (fun k => -(w.getD k 0)) n.toNat from dotN_congr fun k _ => ⟨rfl, mnF_getT w k⟩, dotN_neg, dotN_comm]
theorem Reach.neg1 (h : WlOk n d R) : Reach n d (mnF (ones n 1)) := by
  obtain ⟨w, hw⟩ := List.exists_mem_of_ne_nil _ (h.lvNe R.length (Nat.le_refl _))
  obtain ⟨hr, hln⟩ := ((h.lev R.length).2 w).1 hw
  have hall := List.countP_eq_length.1 hln
  have hdom : mnF w = ones n 1 := by
    obtain ⟨hl, hg, hs⟩ := hr.inv h.co
    have h1 : ∀ k, k < n.toNat → 1 ≤ (mnF w).getD k 0 := fun k hk => by
      have := of_decide_eq_true (hall _ (h.co.unit k hk))
      rw [prW_unit hk] at this
      rw [mnF_getT]
      omega
    have h0 : ∀ b ∈ R, 0 ≤ prW n (ones n 1) b ∧ prW n (ones n 1) b ≤ prW n (mnF w) b := fun b hb => ⟨dotN_pos fun k hk => ⟨by rw [ones_get hk]; omega, h.co.ge b hb k⟩, dotN_mono fun k hk => ⟨h.co.ge b hb k, by rw [ones_get hk]; exact h1 k hk⟩⟩
    have hs2 : smW n R (mnF w) = smW n R (ones n 1) := by
      rw [← hs, smW, smW]
      exact sum_map_eq fun b _ => by rw [prW_mn, Int.natAbs_neg]
    have hq := sum_eq (f := fun b => (prW n (ones n 1) b).natAbs) (g := fun b => (prW n (mnF w) b).natAbs) (L := R) (fun b hb => by have := h0 b hb; omega) hs2
    refine ext_getD (by rw [mnF_len, hl, ones_len]) fun k hk => ?_
    rw [mnF_len, hl] at hk
    have h2 := hq _ (h.co.unit k hk)
    have h3 := h0 _ (h.co.unit k hk)
    rw [prW_unit hk, prW_unit hk] at h2 h3
    omega
  have : w = mnF (ones n 1) := by
    rw [← hdom]
    refine ext_getD (by rw [mnF_len, mnF_len]) fun k _ => ?_
    rw [mnF_getT, mnF_getT]
    omega
  rw [← this]
  exact hr
theorem Reach.mn (h : WlOk n d R) {w : List Int} (hw : Reach n d w) : Reach n d (mnF w) := by
  induction hw with
  | one => exact Reach.neg1 h
  | step hr hi ih =>
    rw [← rp_mn hi]
    exact ih.step hi
theorem lnW_mn (h : WlOk n d R) {w : List Int} (hw : Reach n d w) : lnW n R (mnF w) + lnW n R w = R.length := by
  have hg := (hw.inv h.co).2.1
  have key : ∀ L : List (List Int), (∀ b ∈ L, prW n w b ≠ 0) → L.countP (fun b => decide (prW n (mnF w) b < 0)) + L.countP (fun b => decide (prW n w b < 0)) = L.length := by
    intro L
    induction L with
    | nil => intro _; rfl
    | cons b L ih =>
      intro hL
      have h1 := hL b List.mem_cons_self
      have h2 := ih fun c hc => hL c (List.mem_cons_of_mem _ hc)
      simp only [List.countP_cons, prW_mn] at h2 ⊢
      by_cases h3 : prW n w b < 0
      · rw [if_neg (by rw [decide_eq_true_eq]; omega), if_pos (by rw [decide_eq_true_eq]; omega), List.length_cons]
        omega
      · rw [if_pos (by rw [decide_eq_true_eq]; omega), if_neg (by rw [decide_eq_true_eq]; omega), List.length_cons]
        omega
  exact key R hg
theorem lv_sym (h : WlOk n d R) {k : Nat} (hk : k ≤ R.length) : (lvAt n d k).length = (lvAt n d (R.length - k)).length := by
  have key : ∀ j, j ≤ R.length → (lvAt n d j).length ≤ (lvAt n d (R.length - j)).length := fun j hj => by
    have hn : ((lvAt n d j).map mnF).Nodup := by
      refine nod_mn (h.lev j).1.nod
    have := nodup_sub (M := lvAt n d (R.length - j)) hn fun y hy => by
      obtain ⟨w, hw, rfl⟩ := List.mem_map.1 hy
      obtain ⟨hr, hl⟩ := ((h.lev j).2 w).1 hw
      have := lnW_mn h hr
      exact ((h.lev _).2 _).2 ⟨hr.mn h, by omega⟩
    rwa [List.length_map] at this
  have h1 := key k hk
  have h2 := key (R.length - k) (by omega)
  rw [show R.length - (R.length - k) = k by omega] at h2
  omega
where
  nod_mn : ∀ {L : List (List Int)}, L.Nodup → (L.map mnF).Nodup
    | [], _ => by simp
    | x :: t, hn => by
      obtain ⟨a, b⟩ := List.nodup_cons.1 hn
      rw [List.map_cons, List.nodup_cons]
      refine ⟨fun hm => ?_, nod_mn b⟩
      obtain ⟨y, hy, e⟩ := List.mem_map.1 hm
      have : y = x := by
        have e2 := congrArg mnF e
        have inv : ∀ z : List Int, mnF (mnF z) = z := fun z => by
          refine ext_getD (by rw [mnF_len, mnF_len]) fun k _ => ?_
          rw [mnF_getT, mnF_getT]
          omega
        rwa [inv, inv] at e2
      subst this
      exact a hy
end
end Go.Proofs.YtgelkakjmbiibaaGreatDoor

namespace Go.Proofs.YtgelkakjmbiibaaGreatDoor
set_option linter.unusedVariables false
set_option linter.unusedSimpArgs false
def padL (c : List Int) (h : Nat) : List Int := c ++ List.replicate (h + 1 - c.length) 0
def csI (R : List (List Int)) (c : List Int) (i : Nat) : List Int := (padL c (sumW (R.getD i [])).toNat).set (sumW (R.getD i [])).toNat (IntKind.i64.wrap ((padL c (sumW (R.getD i [])).toNat).getD (sumW (R.getD i [])).toNat 0 + 1))
def csF (R : List (List Int)) (k : Nat) : List Int := (List.range k).foldl (csI R) [0]
def nxS (c : List Int) (i : Nat) : Int := if (i : Int) + 1 + 1 < (c.length : Int) then c.getD ((i : Int) + 1 + 1).toNat 0 else 0
def exS (c o : List Int) (i : Nat) : List Int := o ++ List.replicate (c.getD ((i : Int) + 1).toNat 0 - nxS c i).toNat ((i : Int) + 1)
def eS (c : List Int) : List Int := (List.range (c.length - 1)).foldl (exS c) []
def kvI (R : List (List Int)) (l : List (Int × Int)) (i : Nat) : List (Int × Int) := aup (sumW (R.getD i [])) (IntKind.i64.wrap ((alu (sumW (R.getD i [])) l).getD 0 + 1)) l
def kvE (R : List (List Int)) (k : Nat) : List (Int × Int) := (List.range k).foldl (kvI R) []
def tpI (R : List (List Int)) (t : Int) (i : Nat) : Int := max t (sumW (R.getD i []))
def tpE (R : List (List Int)) (k : Nat) : Int := (List.range k).foldl (tpI R) 0
def dfI (l : List (Int × Int)) (i : Nat) : Int := IntKind.i64.wrap ((alu ((i : Int) + 1) l).getD 0 - (alu ((i : Int) + 1 + 1) l).getD 0)
def exI (l : List (Int × Int)) (o : List Int) (i : Nat) : List Int := o ++ List.replicate (dfI l i).toNat ((i : Int) + 1)
def eI (R : List (List Int)) : List Int := (List.range (tpE R R.length).toNat).foldl (exI (kvE R R.length)) []
def chkE1 (R : List (List Int)) : Bool :=
  (R.all fun x => decide (1 ≤ sumW x) && decide (sumW x ≤ 40)) && ((csF R R.length).all fun y => decide (0 ≤ y) && decide (y ≤ 30)) && decide (0 ≤ tpE R R.length) && decide (tpE R R.length ≤ 40) && ((List.range 41).all fun i => decide (dfI (kvE R R.length) i ≤ 30)) && decide ((eI R).length ≤ 30) && (eS (csF R R.length) == eI R)
def chkE (n : Int) (d : List Int) : Bool := chkE1 (rSt n d)
def chkEs (n a b : Nat) : Bool := (((candL n).drop a).take b).all fun d => chkE n d
set_option maxRecDepth 100000 in
theorem chkEs_1 : chkEs 1 0 1000 = true := by decide +kernel
set_option maxRecDepth 100000 in
theorem chkEs_2 : chkEs 2 0 1000 = true := by decide +kernel
set_option maxRecDepth 100000 in
theorem chkEs_3 : chkEs 3 0 1000 = true := by decide +kernel
set_option maxRecDepth 100000 in
theorem chkEs_4a : chkEs 4 0 80 = true := by decide +kernel
set_option maxRecDepth 100000 in
theorem chkEs_4b : chkEs 4 80 80 = true := by decide +kernel
set_option maxRecDepth 100000 in
theorem chkEs_4c : chkEs 4 160 1000 = true := by decide +kernel
theorem chkEs_all {m : Nat} {d : List Int} (h1 : 1 ≤ m) (h4 : m ≤ 4) (hd : d ∈ candL m) : chkE m d = true := by
  have one : ∀ n, chkEs n 0 1000 = true → (candL n).length ≤ 1000 → d ∈ candL n → chkE n d = true := fun n h hl hd => by
    simp only [chkEs, List.all_eq_true] at h
    exact h d (by rw [List.drop_zero, List.take_of_length_le hl]; exact hd)
  have len : ∀ n, 1 ≤ n → n ≤ 4 → (candL n).length ≤ 1000 := fun n a b => four (P := fun n => (candL n).length ≤ 1000) (by decide +kernel) (by decide +kernel) (by decide +kernel) (by decide +kernel) a b
  rcases (by omega : m = 1 ∨ m = 2 ∨ m = 3 ∨ m = 4) with rfl | rfl | rfl | rfl
  · exact one 1 chkEs_1 (len 1 (by omega) (by omega)) hd
  · exact one 2 chkEs_2 (len 2 (by omega) (by omega)) hd
  · exact one 3 chkEs_3 (len 3 (by omega) (by omega)) hd
  · have ha := chkEs_4a
    have hb := chkEs_4b
    have hc := chkEs_4c
    simp only [chkEs, List.all_eq_true] at ha hb hc
    rcases mem_parts 80 hd with h | h
    · exact ha d h
    · rcases mem_parts 80 h with h2 | h2
      · exact hb d (by simpa using h2)
      · rw [List.drop_drop] at h2
        exact hc d (by
          have hl := len 4 (by omega) (by omega)
          rw [List.take_of_length_le (by rw [List.length_drop]; omega)]
          simpa using h2)
structure ExOk (R : List (List Int)) : Prop where
  hts : ∀ k, k < R.length → 1 ≤ sumW (R.getD k []) ∧ sumW (R.getD k []) ≤ 40
  cs : ∀ j, 0 ≤ (csF R R.length).getD j 0 ∧ (csF R R.length).getD j 0 ≤ 30
  top : 0 ≤ tpE R R.length ∧ tpE R R.length ≤ 40
  df : ∀ i, i < 41 → dfI (kvE R R.length) i ≤ 30
  len : (eI R).length ≤ 30
  eq : eS (csF R R.length) = eI R
theorem exOk {n : Int} {d : List Int} (h : (tyS n d).isSome = true) : ExOk (rSt n d) := by
  obtain ⟨ks, hk⟩ := Option.isSome_iff_exists.1 h
  obtain ⟨m, rfl, h1, h4, hd⟩ := tyS_cand hk
  have h0 := chkEs_all h1 h4 hd
  simp only [chkE, chkE1, Bool.and_eq_true, List.all_eq_true, decide_eq_true_eq, beq_iff_eq, List.mem_range] at h0
  obtain ⟨⟨⟨⟨⟨⟨a1, a2⟩, a3⟩, a4⟩, a5⟩, a6⟩, a7⟩ := h0
  refine ⟨fun k hk => ?_, fun j => ?_, ⟨a3, a4⟩, a5, a6, a7⟩
  · have e : (rSt (m : Int) d).getD k [] = (rSt (m : Int) d)[k] := by simp [List.getD, hk]
    rw [e]
    exact a1 _ (List.getElem_mem hk)
  · by_cases hj : j < (csF (rSt (m : Int) d) (rSt (m : Int) d).length).length
    · have e : (csF (rSt (m : Int) d) (rSt (m : Int) d).length).getD j 0 = (csF (rSt (m : Int) d) (rSt (m : Int) d).length)[j] := by simp [List.getD, hj]
      rw [e]
      exact a2 _ (List.getElem_mem hj)
    · simp [List.getD, List.getElem?_eq_none (Nat.le_of_not_lt hj)]
def exOf (n : Int) (d : List Int) : List Int := if (tyS n d).isSome then eI (rSt n d) else []
theorem repS {c : List Int} {a : Int} {q : Nat} : (c ++ List.replicate q a) ++ [a] = c ++ List.replicate (q + 1) a := by rw [List.append_assoc, ← List.replicate_succ']
theorem exI_step {l : List (Int × Int)} {o y : List Int} {m q : Nat} (hy : y = o ++ List.replicate q ((m : Int) + 1)) (hq : q = (dfI l m).toNat) : y = exI l o m := by
  subst hq hy
  rfl
end Go.Proofs.YtgelkakjmbiibaaGreatDoor

namespace Go.Proofs.YtgelkakjmbiibaaGreatDoor
set_option linter.unusedVariables false
set_option linter.unusedSimpArgs false
def prodE (e : List Int) : Int := e.foldl (fun o x => o * (x + 1)) 1
def sumE (e : List Int) : Int := e.foldl (fun o x => o + x) 0
def chkXq (n : Int) (d : List Int) : Bool :=
  (((frcCs n d n.toNat fun cs => frc (enW (ones n 1)) fun E => cntE cs 25 E) : Nat) : Int) == prodE (eI (rSt n d)) && ((eI (rSt n d)).length == n.toNat) && (sumE (eI (rSt n d)) == ((rSt n d).length : Int)) && (eI (rSt n d)).all fun y => inB y 1 11
theorem cnd_join {chk : Int → List Int → Bool} {n a b c : Nat} (h1 : cndP chk n a b = true) (h2 : cndP chk n (a + b) c = true) : cndP chk n a (b + c) = true := by
  simp only [cndP] at h1 h2 ⊢
  rw [List.take_add, List.all_append, h1, List.drop_drop, h2]
  rfl
theorem cnd_four {chk : Int → List Int → Bool} {n a : Nat} (h1 : cndP chk n a 16 = true) (h2 : cndP chk n (a + 16) 16 = true) (h3 : cndP chk n (a + 32) 16 = true) (h4 : cndP chk n (a + 48) 16 = true) : cndP chk n a 64 = true :=
  cnd_join (b := 48) (cnd_join (b := 32) (cnd_join h1 h2) h3) h4
end Go.Proofs.YtgelkakjmbiibaaGreatDoor
