/-
  The helpers of the laws on lists of terms (szTermS, toTermS, eqTermS ..), each by its contract.
-/
import Derived.Test.YtiapoopcicjldaaMat
namespace Go.Proofs.Ytiapoopcicjldaa
open Go.RowKit

structure Tm where
  w : List Int
  k : Int
  deriving DecidableEq

theorem etLT : ET Try.prog 22 68 2 32 (.agg #[.slice none 0 0, .int .i64 0]) := ⟨Try.underlying22, by kernel_rfl, rfl, by omega⟩
theorem etIT : ET Try.prog 26 69 2 32 (.agg #[.slice none 0 0, .int .i64 0]) := ⟨Try.underlying26, by kernel_rfl, rfl, by omega⟩

/-- v is a term by value that reads as t. -/
def IsTm (w : World) (v : Value) (t : Tm) : Prop := ∃ dv, v = .agg #[dv, .int .i64 t.k] ∧ Ints w dv t.w
/-- v is a slice of terms that reads as ts. -/
def Tms (w : World) (v : Value) (ts : List Tm) : Prop :=
  ∃ cs, Sl w v ts.length 2 cs ∧ ∀ i, i < ts.length → ∃ dv, cs[i * 2]? = some dv ∧ cs[i * 2 + 1]? = some (.int .i64 (ts.getD i ⟨[], 0⟩).k) ∧ Ints w dv (ts.getD i ⟨[], 0⟩).w
theorem Tms.facts {P : Program} {t e bytes : Nat} {z : Value} (et : ET P t e 2 bytes z) {w : World} {v : Value} {ts : List Tm} (h : Tms w v ts) :
    ∃ (b : Nat) (f : Nat → Nat), (∀ ty W, (Builtin.len_ #[t] ty #[v]).run P W = .ok (.int .i64 ts.length) W) ∧
      (∀ W (k : Nat), k < ts.length → (Instr.indexAt t v (.int .i64 k)).run P W = .ok (.pointer (some ⟨b, f k, none⟩)) W) ∧ (0 < ts.length → b < w.heap.size) ∧
      ∀ k, k < ts.length → ∃ ao cap, w.cell? ⟨b, f k, none⟩ = some (.slice ao (ts.getD k ⟨[], 0⟩).w.length cap) ∧ w.cell? ⟨b, f k + 1, none⟩ = some (.int .i64 (ts.getD k ⟨[], 0⟩).k) ∧
        Ints w (.slice ao (ts.getD k ⟨[], 0⟩).w.length cap) (ts.getD k ⟨[], 0⟩).w := by
  obtain ⟨cs, hs, hel⟩ := h
  obtain ⟨b, f, hl, hi, hc, hb⟩ := Sl.facts et hs
  refine ⟨b, f, hl, hi, hb, fun k hk => ?_⟩
  obtain ⟨dv, c0, c1, hI⟩ := hel k hk
  obtain ⟨ao, cap, rfl⟩ := Sl.form hI
  have h0 := hc k 0 hk (by omega)
  have h1 := hc k 1 hk (by omega)
  simp only [List.getD, Nat.add_zero, c0, c1, Option.getD_some] at h0 h1
  exact ⟨ao, cap, h0, h1, hI⟩
theorem Tms.below {w w' : World} {v : Value} {ts : List Tm} (h : Tms w v ts) (hb : Below w.heap.size w w') : Tms w' v ts := by
  obtain ⟨cs, h1, h2⟩ := h
  refine ⟨cs, h1.below hb, fun i hi => ?_⟩
  obtain ⟨dv, a, b, c⟩ := h2 i hi
  exact ⟨dv, a, b, Sl.below c hb⟩

set_option maxHeartbeats 400000 in
theorem szTerm_any (dv : Value) (k : Int) (xs : List Int) (left : Int) (w : World) (hd : Ints w dv xs) (hl : 0 ≤ left) (hm : left ≤ 1048576) :
    Calls Try.prog 45 #[.agg #[dv, .int .i64 k], .int .i64 left] w fun e w' => e = .returned (.int .i64 (szF xs.length left)) ∧ Below w.heap.size w w' := by
  have hd1 := Sl.below hd (Below.allocs (.cells #[dv, .int .i64 k] 68))
  have hz : szF xs.length left < 0 → szF xs.length left = -1 := by unfold szF; split <;> omega
  have HZ := hid hz; clear hz
  go_enter Try.func45, Try.ntmps45
  go_wp2_with (go_at_call 59; go_must (refine (szIntS_any _ _ _ _ hd1 hl hm).mono ?_); rintro e w1 ⟨rfl, rfl⟩)
  all_goals
    go_ret
  · exact ⟨ret_int (HZ.out (by assumption)).symm, Below.allocs _⟩
  · exact ⟨rfl, Below.allocs _⟩

/-- What is left behind the first k terms; -1 if it does not suffice. -/
def szTo (ts : List Tm) (left : Int) : Nat → Int
  | 0 => szF ts.length left
  | k + 1 => if szTo ts left k < 0 then -1 else szF ((ts[k]?.map (·.w.length)).getD 0) (szTo ts left k)
theorem szF_range (n : Nat) (left : Int) (h : 0 ≤ left) (hm : left ≤ 1048576) : -1 ≤ szF n left ∧ szF n left ≤ 1048576 := by unfold szF; split <;> omega
theorem szTo_range (ts : List Tm) (left : Int) (h : 0 ≤ left) (hm : left ≤ 1048576) (k : Nat) : -1 ≤ szTo ts left k ∧ szTo ts left k ≤ 1048576 := by
  induction k with
  | zero => exact szF_range _ _ h hm
  | succ k ih => unfold szTo; split; omega; exact szF_range _ _ (by omega) ih.2
theorem szTo_neg (ts : List Tm) (left : Int) (j k : Nat) (hjk : j ≤ k) (h : szTo ts left j = -1) : szTo ts left k = -1 := by
  induction k with
  | zero => obtain rfl : j = 0 := by omega
            exact h
  | succ k ih =>
    by_cases e : j = k + 1
    · rw [← e]; exact h
    · have := ih (by omega)
      unfold szTo
      rw [if_pos (by omega)]

set_option maxHeartbeats 400000 in
theorem szTermS_any (v : Value) (ts : List Tm) (left : Int) (w : World) (h : Tms w v ts) (h0 : 0 ≤ left) (hm : left ≤ 1048576) :
    Calls Try.prog 10 #[v, .int .i64 left] w fun e w' => e = .returned (.int .i64 (szTo ts left ts.length)) ∧ Below w.heap.size w w' := by
  have hsz : ts.length ≤ maxLen := by obtain ⟨cs, hs, _⟩ := h; exact Sl.size_le hs
  unfold maxLen at hsz
  obtain ⟨b, f, hl, hi, hb, hc⟩ := h.facts etLT
  by_cases hlt : left < ts.length
  · have hz : szTo ts left ts.length = -1 := szTo_neg ts left 0 _ (by omega) (by unfold szTo szF; rw [if_pos hlt])
    have HZ := hid hz; clear hz
    go_enter Try.func10, Try.ntmps10
    go_wp2
    go_ret
    exact ⟨ret_int HZ.out.symm, Below.refl _ _⟩
  · have hz : szTo ts left 0 = left - ts.length := by unfold szTo szF; rw [if_neg hlt]
    obtain ⟨n, hn⟩ : ∃ n, n = ts.length := ⟨_, rfl⟩
    rw [← hn] at hl hi hc hsz hlt hb hz ⊢
    have H1 := hid hn; have HZ := hid hz; clear hn hz
    have hge : (n : Int) ≤ left := by omega
    go_enter Try.func10, Try.ntmps10
    go_wp2
    go_loopw [1, 5] (fun l i wr => ∃ k : Nat, k ≤ n ∧ i = .int .i64 k ∧ 0 ≤ szTo ts left k ∧ l = .int .i64 (szTo ts left k) ∧ Below w.heap.size w wr) (fun _ i _ => n - (intOf i).toNat)
    case atStart => exact ⟨0, by omega, rfl, by rw [HZ.out]; omega, by rw [HZ.out], Below.refl _ _⟩
    case round =>
      obtain ⟨k, hk, rfl, hge0, rfl, hB⟩ := hrel
      by_cases hk' : k < n
      · obtain ⟨ao, cap, c0, c1, hI⟩ := hc k hk'
        have hs1 : szTo ts left (k + 1) = szF (ts.getD k ⟨[], 0⟩).w.length (szTo ts left k) := by
          show (if szTo ts left k < 0 then -1 else szF ((ts[k]?.map (·.w.length)).getD 0) (szTo ts left k)) = _
          rw [if_neg (by omega), List.getElem?_eq_getElem (by have := H1.out; omega)]
          simp [List.getD, List.getElem?_eq_getElem (show k < ts.length by have := H1.out; omega)]
        have HS := hid hs1; clear hs1
        generalize ts.getD k ⟨[], 0⟩ = T at c0 c1 hI HS
        have g0 := (hB.cell (p := ⟨b, f k, none⟩) (hb (by omega))).trans c0
        have g1 := (hB.cell (p := ⟨b, f k + 1, none⟩) (hb (by omega))).trans c1
        have hI' := Sl.below hI hB
        have HB := hid hB
        clear c0 c1 hc hI hB
        have hr := szTo_range ts left h0 hm k
        go_wp2_with (go_at_call 45; go_must (refine (szTerm_any _ _ _ _ _ hI' hge0 hr.2).mono ?_); rintro e w1 ⟨rfl, hb1⟩)
        · go_ret
          have hneg : szF T.w.length (szTo ts left k) < 0 := by assumption
          refine ⟨ret_int (szTo_neg ts left (k + 1) n (by omega) ?_).symm, HB.out.trans (hb1.mono HB.out.size)⟩
          have := szTo_range ts left h0 hm (k + 1)
          have := HS.out
          omega
        · have hpos : 0 ≤ szF T.w.length (szTo ts left k) := by assumption
          go_roundw
          case rel => exact ⟨k + 1, by omega, by go_num, by rw [HS.out]; exact hpos, by rw [HS.out], HB.out.trans (hb1.mono HB.out.size)⟩
          case measure => simp [intOf]; omega
      · have hkn := hid (show k = n by omega)
        go_wp2
        go_ret
        exact ⟨ret_int (by rw [hkn.out]), hB⟩


set_option maxHeartbeats 400000 in
theorem toTerm_any (dv : Value) (k : Int) (xs : List Int) (w : World) (hd : Ints w dv xs) (hs : xs.length ≤ 1073741824) :
    Calls Try.prog 47 #[.agg #[dv, .int .i64 k]] w fun e w' => ∃ r, e = .returned (.agg #[r, .int .i64 k]) ∧ OwnI w' w.heap.size 3 r xs ∧ Below w.heap.size w w' := by
  go_enter Try.func47, Try.ntmps47
  go_wp2_with fail
  have hb0 := (((Below.refl w.heap.size w).alloc (Nat.le_refl _) (.cells #[dv, .int .i64 k] 68)).alloc (by simp) (.cells #[.slice none 0 0, .int .i64 0] 69)).alloc (by simp; omega) (.cells #[.slice none 0 0, .int .i64 0] 69)
  refine (toIntS_any _ _ _ (Sl.below hd hb0) hs).mono ?_
  rintro e w1 ⟨r, rfl, hown, hb⟩
  obtain ⟨ao, cap, rfl⟩ := hown.form
  obtain ⟨hc, hf⟩ := bcell hb
  have hz : w.heap.size + 2 < w1.heap.size := by have := hb.size; simp at this; omega
  go_wp2
  refine bodyPost_ret (v := .agg #[.slice ao xs.length cap, .int .i64 k]) (by simp [results, Try.results47, go_sem, hc]) rfl ?_
  refine ⟨_, rfl, OwnI.mono (B := w.heap.size + 3) ?_ (by omega), ?_⟩
  · iterate 4 refine OwnI.setB ?_ (by simp)
    exact hown.mono (by simp)
  · iterate 4 refine Below.setCell ?_ (by first | (simp; done) | (simp; omega)) _
    exact hb0.trans (hb.mono (by simp; omega))

def eqTF (a : List Int) (i : Int) (b : List Int) (j : Int) : Bool := sameB a b && i == j

set_option maxHeartbeats 400000 in
theorem eqTerm_any (d1 d2 : Value) (i j : Int) (a b : List Int) (w : World) (h1 : Ints w d1 a) (h2 : Ints w d2 b) :
    Calls Try.prog 49 #[.agg #[d1, .int .i64 i], .agg #[d2, .int .i64 j]] w fun e w' => e = .returned (.bool (eqTF a i b j)) ∧ Below w.heap.size w w' := by
  have hb0 := ((Below.refl w.heap.size w).alloc (Nat.le_refl _) (.cells #[d1, .int .i64 i] 69)).alloc (by simp) (.cells #[d2, .int .i64 j] 69)
  have hd1' := Sl.below h1 hb0
  have hd2' := Sl.below h2 hb0
  have HB := hid hb0; clear hb0
  go_enter Try.func49, Try.ntmps49
  go_wp2_with (go_at_call 16; go_must (refine (eqIntS_any _ _ _ _ _ hd1' hd2').mono ?_); rintro e w1 ⟨rfl, n, rfl⟩)
  all_goals
    go_ret
    refine ⟨ret_bool (by unfold eqTF; simp_all), ?_⟩
    first | exact HB.out | exact below_drewN HB.out _

theorem tms_step {ss ts : List Tm} {k : Nat} (hE : ss.take k = ts.take k) (h1 : k < ss.length) (h2 : k < ts.length) (he : eqTF (ss.getD k ⟨[], 0⟩).w (ss.getD k ⟨[], 0⟩).k (ts.getD k ⟨[], 0⟩).w (ts.getD k ⟨[], 0⟩).k = true) :
    ss.take (k + 1) = ts.take (k + 1) := by
  rw [List.take_add_one, List.take_add_one, List.getElem?_eq_getElem h1, List.getElem?_eq_getElem h2, hE]
  simp only [eqTF, sameB, List.getD, List.getElem?_eq_getElem h1, List.getElem?_eq_getElem h2, Option.getD_some, Bool.and_eq_true, decide_eq_true_eq, beq_iff_eq] at he
  rw [show ss[k] = ts[k] from by cases hx : ss[k]; cases hy : ts[k]; simp_all]
theorem tms_ne {ss ts : List Tm} {k : Nat} (he : eqTF (ss.getD k ⟨[], 0⟩).w (ss.getD k ⟨[], 0⟩).k (ts.getD k ⟨[], 0⟩).w (ts.getD k ⟨[], 0⟩).k = false) : ss ≠ ts := by
  intro h
  subst h
  simp [eqTF, sameB] at he

def sameT (ss ts : List Tm) : Bool := decide (ss = ts)
set_option maxHeartbeats 1000000 in
theorem eqTermS_any (v1 v2 : Value) (ss ts : List Tm) (w : World) (h1 : Tms w v1 ss) (h2 : Tms w v2 ts) :
    Calls Try.prog 15 #[v1, v2] w fun e w' => e = .returned (.bool (sameT ss ts)) ∧ Below w.heap.size w w' := by
  have hsz : ss.length ≤ maxLen := by obtain ⟨cs, hs, _⟩ := h1; exact Sl.size_le hs
  unfold maxLen at hsz
  obtain ⟨b1, f1, hl1, hi1, hb1, hc1⟩ := h1.facts etIT
  obtain ⟨b2, f2, hl2, hi2, hb2, hc2⟩ := h2.facts etIT
  by_cases hl : ss.length = ts.length
  · obtain ⟨n, hn⟩ : ∃ n, n = ss.length := ⟨_, rfl⟩
    rw [← hn] at hl hl1 hi1 hc1 hb1 hsz
    rw [← hl] at hl2 hi2 hc2 hb2
    have H1 := hid hn; have H2 := hid hl; clear hn hl
    go_enter Try.func15, Try.ntmps15
    go_wp2
    go_loopw [5] (fun i wr => ∃ k : Nat, k ≤ n ∧ i = .int .i64 k ∧ ss.take k = ts.take k ∧ Below w.heap.size w wr) (fun i _ => n - (intOf i).toNat)
    case atStart => exact ⟨0, by omega, rfl, rfl, Below.refl _ _⟩
    case round =>
      obtain ⟨k, hk, rfl, hE, hB⟩ := hrel
      have HE := hid hE; clear hE
      by_cases hlt : k < n
      · obtain ⟨ao1, cap1, c10, c11, hI1⟩ := hc1 k hlt
        obtain ⟨ao2, cap2, c20, c21, hI2⟩ := hc2 k hlt
        have hs := hid (fun he => tms_step HE.out (by have := H1.out; omega) (by have := H2.out; omega) he)
        have hne := hid (fun he => tms_ne (ss := ss) (ts := ts) (k := k) he)
        generalize ss.getD k ⟨[], 0⟩ = S at c10 c11 hI1 hs hne
        generalize ts.getD k ⟨[], 0⟩ = T at c20 c21 hI2 hs hne
        have k1 := hb1 (by omega)
        have k2 := hb2 (by omega)
        have g10 := (hB.cell (p := ⟨b1, f1 k, none⟩) k1).trans c10
        have g11 := (hB.cell (p := ⟨b1, f1 k + 1, none⟩) k1).trans c11
        have g20 := (hB.cell (p := ⟨b2, f2 k, none⟩) k2).trans c20
        have g21 := (hB.cell (p := ⟨b2, f2 k + 1, none⟩) k2).trans c21
        have hI1' : Ints wr.drew _ _ := Sl.below hI1 hB.drew
        have hI2' : Ints wr.drew _ _ := Sl.below hI2 hB.drew
        have hbs := hB.size
        have HB := hid hB
        clear hc1 hc2 hB c10 c11 c20 c21 hI1 hI2
        go_wp2
        go_region_held3 (fun w' => w'.cell? ⟨b1, f1 k, none⟩ = some (.slice ao1 S.w.length cap1) ∧ w'.cell? ⟨b1, f1 k + 1, none⟩ = some (.int .i64 S.k) ∧ w'.cell? ⟨b2, f2 k, none⟩ = some (.slice ao2 T.w.length cap2) ∧ w'.cell? ⟨b2, f2 k + 1, none⟩ = some (.int .i64 T.k))
          (first | go_keep | (refine ⟨?_, ?_, ?_, ?_⟩ <;> (rw [hbx.cell (by simp; omega)]; simp [*])))
          ((go_at_call 49; refine (eqTerm_any _ _ _ _ _ _ _ hI1' hI2').mono ?_; rintro e w1 ⟨rfl, hbx⟩))
        go_wp2
        · go_ret
          have h : (!eqTF S.w S.k T.w T.k) = true := by assumption
          exact ⟨ret_bool (by have := hne.out (by simpa using h); simp [sameT, this]), HB.out.drew.trans (hbx.mono (by simp; omega))⟩
        · have h : (!eqTF S.w S.k T.w T.k) = false := by assumption
          go_roundw
          case rel => exact ⟨k + 1, by omega, by go_num, hs.out (by simpa using h), HB.out.drew.trans (hbx.mono (by simp; omega))⟩
          case measure => simp [intOf]; omega
      · have hkn := hid (show k = n by omega)
        go_wp2
        go_ret
        exact ⟨ret_bool (by have := eq_of_take' HE.out (by have := H1.out; have := hkn.out; omega) (by have := H2.out; have := hkn.out; omega); simp [sameT, this]), hB⟩
  · go_enter Try.func15, Try.ntmps15
    go_wp2
    · go_ret
      exact ⟨ret_bool (by simp [sameT]; intro h; exact hl (by rw [h])), Below.refl _ _⟩


/-- The cells of a row of terms of which the first k are laid. -/
def TmRow (w : World) (B : Nat) (cs : List Value) (ts : List Tm) (k : Nat) : Prop :=
  ∀ i, i < k → ∃ dv, cs[i * 2]? = some dv ∧ cs[i * 2 + 1]? = some (.int .i64 (ts.getD i ⟨[], 0⟩).k) ∧ OwnI w B 3 dv (ts.getD i ⟨[], 0⟩).w
theorem TmRow.set {w w' w'' : World} {B g n : Nat} {cs : List Value} {ts : List Tm} {k : Nat} (h : TmRow w B cs ts k) (hb : Below w.heap.size w w') (hg : g < B) (hB : B ≤ w.heap.size) (hk : k < n) (hl : cs.length = n * 2)
    {dv : Value} (ho : OwnI w' w.heap.size 3 dv (ts.getD k ⟨[], 0⟩).w) {x y : Value} (hx : x = dv) (hy : y = .int .i64 (ts.getD k ⟨[], 0⟩).k) (hw : w'' = (w'.setCell ⟨g, k * 2, none⟩ x).setCell ⟨g, k * 2 + 1, none⟩ y) :
    TmRow w'' B ((cs.set (k * 2) x).set (k * 2 + 1) y) ts (k + 1) := by
  subst hx hy hw
  intro i hi
  have hlen : (k + 1) * 2 ≤ n * 2 := Nat.mul_le_mul_right _ hk
  by_cases hik : i = k
  · subst hik
    refine ⟨x, ?_, ?_, ?_⟩
    · rw [List.getElem?_set_ne (by omega), List.getElem?_set_self (by omega)]
    · rw [List.getElem?_set_self (by simp; omega)]
    · exact ((ho.mono hB).setB hg).setB hg
  · obtain ⟨d, h1, h2, h3⟩ := h i (by omega)
    refine ⟨d, ?_, ?_, ?_⟩
    · rw [List.getElem?_set_ne (by omega), List.getElem?_set_ne (by omega)]; exact h1
    · rw [List.getElem?_set_ne (by omega), List.getElem?_set_ne (by omega)]; exact h2
    · exact (OwnI.setB (OwnI.setB (Own.below h3 hb) hg) hg)

theorem szTo_each (ts : List Tm) (left : Int) (h0 : 0 ≤ left) (hm : left ≤ 1048576) (h : 0 ≤ szTo ts left ts.length) : ts.length ≤ 1048576 ∧ ∀ k, k < ts.length → (ts.getD k ⟨[], 0⟩).w.length ≤ 1048576 := by
  have hpos : ∀ k, k ≤ ts.length → 0 ≤ szTo ts left k := by
    intro k hk
    have := szTo_range ts left h0 hm k
    rcases Int.lt_or_le (szTo ts left k) 0 with hneg | hp
    · have := szTo_neg ts left k ts.length hk (by omega)
      omega
    · exact hp
  constructor
  · have := hpos 0 (by omega)
    unfold szTo szF at this
    split at this <;> omega
  · intro k hk
    have h1 := hpos k (by omega)
    have h2 := hpos (k + 1) (by omega)
    have h3 := szTo_range ts left h0 hm k
    unfold szTo at h2
    rw [if_neg (by omega), List.getElem?_eq_getElem hk] at h2
    simp only [List.getD, List.getElem?_eq_getElem hk, Option.getD_some, Option.map_some] at h2 ⊢
    unfold szF at h2
    split at h2 <;> omega

set_option maxHeartbeats 1000000 in
theorem toTermS_any (v : Value) (ts : List Tm) (w : World) (h : Tms w v ts) (hn1 : ts.length ≤ 1048576) (hn2 : ∀ k, k < ts.length → (ts.getD k ⟨[], 0⟩).w.length ≤ 1048576) :
    Calls Try.prog 12 #[v] w fun e w' => ∃ r, e = .returned r ∧ Tms w' r ts ∧ Below w.heap.size w w' := by
  obtain ⟨b, f, hl, hi, hb, hc⟩ := h.facts etLT
  obtain ⟨n, hn⟩ : ∃ n, n = ts.length := ⟨_, rfl⟩
  rw [← hn] at hl hi hc hb hn1 hn2
  have H1 := hid hn; clear hn
  have hmax : n ≤ maxLen := by simp [maxLen]; omega
  have hby : 32 * n ≤ 281474976710656 := by omega
  go_enter Try.func12, Try.ntmps12
  go_wp2_with (first | (at_make; go_loud (refine wpList_make etIT n hby hmax rfl _ _ rfl rfl rfl ?_)))
  clear hmax hby
  intro v' w1 hown hv hgrow hgt
  subst hv
  go_wp2
  go_loopw [4] (fun i wr => ∃ (k : Nat) (cs : List Value), k ≤ n ∧ i = .int .i64 k ∧ Own wr w.heap.size 69 2 (.slice (some ⟨w.heap.size, 0, none⟩) n n) n cs ∧ TmRow wr (w.heap.size + 1) cs ts k ∧ Below w.heap.size w wr ∧ w.heap.size < wr.heap.size) (fun i _ => n - (intOf i).toNat)
  case atStart => 
    refine ⟨0, _, by omega, rfl, hown, fun i hi => by omega, (Below.refl _ _).grown hgrow (Nat.le_refl _) (fun _ h => by cases h), hgt⟩
  case round =>
    obtain ⟨k, cs, hk, rfl, hO, hT, hB, hsz⟩ := hrel
    clear hown hgrow
    by_cases hlt : k < n
    · obtain ⟨ao, cap, c0, c1, hI⟩ := hc k hlt
      have hTs := hid (fun (w' w'' : World) (hb' : Below wr.heap.size wr w') (dv x y : Value) ho hx hy hw => TmRow.set (w' := w') (w'' := w'') (n := n) (g := w.heap.size) hT hb' (Nat.lt_succ_self _) hsz hlt (by rcases hO with ⟨h, _⟩ | ⟨h, _⟩; omega; exact h) (dv := dv) ho (x := x) (y := y) hx hy hw)
      have hlen := hn2 k hlt
      generalize ts.getD k ⟨[], 0⟩ = T at c0 c1 hI hTs hlen
      have g0 := (hB.cell (p := ⟨b, f k, none⟩) (hb (by omega))).trans c0
      have g1 := (hB.cell (p := ⟨b, f k + 1, none⟩) (hb (by omega))).trans c1
      have hI' := Sl.below hI hB
      have HO := hid hO
      have HB := hid hB
      clear hc c0 c1 hI hO hB hT hn2
      go_wp2_with (go_at_call 47; go_must (refine (toTerm_any _ _ _ _ hI' (by omega)).mono ?_); rintro e w1 ⟨r, rfl, hown, hbx⟩; have HO1 := Own.below HO.out hbx; obtain ⟨q0, q1, _, _⟩ := HO1.at (j := k * 2) (by omega); obtain ⟨q2, q3, _, _⟩ := HO1.at (j := k * 2 + 1) (by omega); obtain ⟨ao', cap', rfl⟩ := hown.form; replace HO1 := hid HO1)
      go_roundw
      case rel =>
        refine ⟨k + 1, _, by omega, by go_num, (((HO1.out.at (j := k * 2) (by omega)).2.2.2 _).at (j := k * 2 + 1) (by omega)).2.2.2 _, hTs.out _ _ hbx _ _ _ hown rfl rfl rfl, ?_, by have := hbx.size; simp; omega⟩
        exact ((HB.out.trans (hbx.mono HB.out.size)).setCell (by simp) _).setCell (by simp) _
      case measure => simp [intOf]; omega
    · have hkn := hid (show k = n by omega)
      have HO := hid hO; have HT := hid hT
      clear hO hT
      go_wp2
      go_ret
      refine ⟨_, rfl, ⟨cs, by have := HO.out.toSl; rwa [H1.out] at this ⊢, fun i hi => ?_⟩, hB⟩
      obtain ⟨dv, e1, e2, e3⟩ := HT.out i (by have := H1.out; have := hkn.out; omega)
      exact ⟨dv, e1, e2, e3.ints⟩

end Go.Proofs.Ytiapoopcicjldaa
