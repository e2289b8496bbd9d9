/-
  Constants of roots and strings of roots: what the law on constants asks. No program is spoken of.
-/
import Derived.Test.YtbmnnbglipkidaaGreatDoorZ11
import Derived.Test.YtbmnnbglipkidaaGreatDoorZ14
import Derived.Test.YtbmnnbglipkidaaGreatDoorCnx
import Derived.Test.YtbmnnbglipkidaaGreatDoorZ20
namespace Go.Proofs.YtbmnnbglipkidaaGreatDoor
set_option linter.unusedVariables false
set_option linter.unusedSimpArgs false
section
variable {n : Int} {d : List Int}
theorem cnAllM (hS : (tyS n d).isSome = true) : chkKm n d = true := knd_all chkKm_1 chkKm_2 chkKm_3 chkKm_4a chkKm_4b chkKm_5a chkKm_5b chkKm_6a chkKm_6b chkKm_7a chkKm_7b hS
def ruF (n : Int) (d y x : List Int) : Nat := cnRch (cnRH n d) y x
theorem two_at (hS : (tyS n d).isSome = true) {z x y : List Int} (h : Dec n d z x y) : ∃ q : Int, q = (hn n d x * tb n d z x).tdiv (hn n d z) ∧ q * hn n d z = hn n d x * tb n d z x ∧
    (tb n d z x).natAbs = ruF n d y x + 1 ∧ q.natAbs = ruF n d (mnF y) z + 1 ∧ q.natAbs = ruF n d (mnF z) y + 1 ∧ q.natAbs ≤ 4 ∧ (tb n d z x).natAbs ≤ 4 := by
  have h1 := (cnCh (one := fun RH TT z hz _ _ _ x => cnTwo RH TT z hz x) (cnAllM hS) h.hz).2.2 x h.hx
  rw [cnTwo, rcL_eq, rcZ_eq, rcZ_eq, rcL_eq, rcL_eq, rcZ_eq, ← h.eq, cnF_nz hS, contains_mem.2 h.hy] at h1
  have e : cnF (cnRH n d) x = hn n d x := by rw [cnF_rh, if_pos (contains_mem.2 h.hx)]
  rw [e] at h1
  simp only [Bool.not_true, Bool.false_or, Bool.and_eq_true, decide_eq_true_eq, beq_iff_eq] at h1
  obtain ⟨a1, a2, a3, a4, a5, a6⟩ := h1
  exact ⟨_, rfl, a2, a1, a3, a4, a5, a6⟩
theorem ru_mn (hS : (tyS n d).isSome = true) {x y : List Int} (hx : rtB (rSt n d) x = true) (hy : rtB (rSt n d) y = true) : ruF n d (mnF y) (mnF x) = ruF n d y x := by
  unfold ruF cnRch
  congr 1
  funext m
  have hl := lenR_of hS hy hx
  rw [rcL_eq, rcL_eq, cnH_nz hS, cnH_nz hS, ← rtB_mn (lA y (-(m : Int)) x), mn_lA _ hl, lA_mn _ (by rw [mnF_len]; exact hl)]
def Pr (n : Int) (d x y : List Int) : Prop := (nF n d x y).natAbs = ruF n d y x + 1 ∧ (nF n d x y).natAbs ≤ 4 ∧ nF n d x y * hn n d x = nF n d y (mnF (lA x 1 y)) * hn n d (lA x 1 y)
theorem prn_pp (hS : (tyS n d).isSome = true) {x y : List Int} (hx : x ∈ rSt n d) (hy : y ∈ rSt n d) (hz : rtB (rSt n d) (lA x 1 y) = true) : Pr n d x y := by
  have px := sP_root hS hx
  have py := sP_root hS hy
  have rx := rt_in hx
  have ry := rt_in hy
  have pz : 0 < sP (lA x 1 y) := by rw [sP_add hS rx ry]; omega
  have mz := rt_pos hS hz pz
  obtain ⟨q, q1, q2, q3, q4, q5, q6, q7⟩ := two_at hS (dec_of hS hx hy mz)
  have e := nF_pp hS hz (by omega) (by omega)
  have e2 : nF n d y (mnF (lA x 1 y)) = q := by
    have hmz := rt_mn2 hz
    rw [nF_pn hS ry hmz (by rw [lA_out hS rx ry]; exact rt_mn hx) (by omega) (by rw [sP_mn]; omega), lA_out hS rx ry, if_neg (by rw [sP_mn]; omega), mnF_mnF, mnF_mnF, hn_mn, hn_mn, q1]
  exact ⟨by rw [e]; exact q3, by rw [e]; exact q7, by rw [e, e2, q2, Int.mul_comm]⟩
theorem prn_pnP (hS : (tyS n d).isSome = true) {x y : List Int} (hx : x ∈ rSt n d) (hy : mnF y ∈ rSt n d) (hz : lA x 1 y ∈ rSt n d) : Pr n d x y := by
  have px := sP_root hS hx
  have py := sP_root hS hy
  rw [sP_mn] at py
  have rx := rt_in hx
  have ry : rtB (rSt n d) y = true := by rw [← rtB_mn]; exact rt_in hy
  have pz := sP_root hS hz
  have D : Dec n d x (mnF y) (lA x 1 y) := by
    have := dec_of hS hy hz (by rw [lA_out2 hS rx ry]; exact hx)
    rwa [lA_out2 hS rx ry] at this
  have Dt := D.turn hS
  obtain ⟨q, q1, q2, q3, q4, q5, q6, q7⟩ := two_at hS Dt
  have ts := (tb_at hS Dt).2.2
  have e : nF n d x y = q := by
    rw [nF_pn hS rx ry (rt_in hz) (by omega) (by omega), if_pos (by omega), ts, Int.mul_neg, Int.neg_tdiv, Int.neg_neg, q1]
  have e2 : nF n d y (mnF (lA x 1 y)) = tb n d x (lA x 1 y) := by
    have hmz := rt_mn hz
    rw [nF_nn hS ry hmz (by omega) (by rw [sP_mn]; omega), mnF_mnF, nF_pp hS (by rw [lA_out2 hS rx ry]; exact rx) (by rw [sP_mn]; omega) (by omega), lA_out2 hS rx ry, ts, Int.neg_neg]
  refine ⟨?_, by rw [e]; exact q6, by rw [e, e2, q2, Int.mul_comm]⟩
  rw [e, q4, mnF_mnF]
theorem prn_pnN (hS : (tyS n d).isSome = true) {x y : List Int} (hx : x ∈ rSt n d) (hy : mnF y ∈ rSt n d) (hz : mnF (lA x 1 y) ∈ rSt n d) : Pr n d x y := by
  have px := sP_root hS hx
  have py := sP_root hS hy
  rw [sP_mn] at py
  have rx := rt_in hx
  have ry : rtB (rSt n d) y = true := by rw [← rtB_mn]; exact rt_in hy
  have rz : rtB (rSt n d) (lA x 1 y) = true := by rw [← rtB_mn]; exact rt_in hz
  have pz := sP_root hS hz
  rw [sP_mn] at pz
  have D : Dec n d (mnF y) (mnF (lA x 1 y)) x := by
    have := dec_of hS hz hx (by rw [lA_out3 hS rx ry]; exact hy)
    rwa [lA_out3 hS rx ry] at this
  obtain ⟨q, q1, q2, q3, q4, q5, q6, q7⟩ := two_at hS D
  obtain ⟨p, p1, p2, _⟩ := two_at hS (D.turn hS)
  have ts := (tb_at hS D).2.2
  rw [hn_mn, hn_mn] at q1 q2
  rw [hn_mn] at p1 p2
  have e : nF n d x y = q := by
    rw [nF_pn hS rx ry rz (by omega) (by omega), if_neg (by omega), q1]
  have e2 : nF n d y (mnF (lA x 1 y)) = -p := by
    have h3 := lA_out3 hS rx ry
    rw [nF_np hS ry (rt_in hz) (by omega) (by rw [sP_mn]; omega), nF_pn hS (rt_in hz) ry (by
      have := lA_out hS rx ry
      rw [lA_comm (lenR_of hS (rt_in hz) ry), this]
      exact rt_mn hx) (by rw [sP_mn]; omega) (by omega)]
    have e3 : lA (mnF (lA x 1 y)) 1 y = mnF x := by rw [lA_comm (lenR_of hS (rt_in hz) ry), lA_out hS rx ry]
    rw [e3, if_neg (by rw [sP_mn]; omega), mnF_mnF, hn_mn, p1]
  refine ⟨?_, by rw [e]; exact q6, ?_⟩
  · rw [e, q5, mnF_mnF]
  · rw [e, e2]
    have hy1 := hn_two hS ry
    have k1 : q * hn n d x * hn n d y = -p * hn n d (lA x 1 y) * hn n d y := by
      have a1 : q * hn n d x * hn n d y = hn n d x * (q * hn n d y) := by rw [Int.mul_comm q, Int.mul_assoc]
      have a2 : -p * hn n d (lA x 1 y) * hn n d y = -(hn n d (lA x 1 y) * (p * hn n d y)) := by
        rw [Int.neg_mul, Int.neg_mul, Int.mul_comm p, Int.mul_assoc]
      rw [a1, a2, q2, p2, ts, Int.mul_neg, Int.mul_neg, Int.neg_neg, Int.mul_left_comm]
    exact Int.eq_of_mul_eq_mul_right (by omega) k1
theorem prn_mn (hS : (tyS n d).isSome = true) {x y : List Int} (hx : rtB (rSt n d) x = true) (hy : rtB (rSt n d) y = true) (hz : rtB (rSt n d) (lA x 1 y) = true) (hs : ∀ {u v}, rtB (rSt n d) u = true → rtB (rSt n d) v = true → nF n d (mnF u) (mnF v) = -(nF n d u v)) (h : Pr n d (mnF x) (mnF y)) : Pr n d x y := by
  obtain ⟨h1, h2, h3⟩ := h
  rw [hs hx hy] at h1 h2 h3
  rw [ru_mn hS hx hy] at h1
  rw [mn_add hS hx hy, hs hy (rt_mn2 hz), hn_mn, hn_mn] at h3
  refine ⟨by omega, by omega, ?_⟩
  rw [Int.neg_mul, Int.neg_mul] at h3
  omega
theorem nF_mm (hS : (tyS n d).isSome = true) {x y : List Int} (hx : rtB (rSt n d) x = true) (hy : rtB (rSt n d) y = true) : nF n d (mnF x) (mnF y) = -(nF n d x y) := by
  have key : ∀ {x y : List Int}, rtB (rSt n d) x = true → rtB (rSt n d) y = true → ¬ 0 < sP x → nF n d (mnF x) (mnF y) = -(nF n d x y) := fun {x y} hx hy h1 => by
    by_cases h2 : 0 < sP y
    · by_cases hz : rtB (rSt n d) (lA x 1 y) = true
      · have ey : rtB (rSt n d) (lA y 1 x) = true := by rw [lA_comm (lenR_of hS hy hx)]; exact hz
        have nx := (rt_neg hS hx h1).2
        have mx := (rt_neg hS hx h1).1
        have my := rt_pos hS hy h2
        rw [nF_np hS hx hy h1 h2, Int.neg_neg, nF_pn hS (rt_mn2 hx) (rt_mn2 hy) (by rw [mn_add hS hx hy, rtB_mn]; exact hz) (by rw [sP_mn]; omega) (by rw [sP_mn]; omega), nF_pn hS hy hx ey h2 h1, mn_add hS hx hy, mnF_mnF, mnF_mnF, hn_mn, hn_mn, hn_mn, lA_comm (lenR_of hS hy hx), sP_mn]
        by_cases pz : 0 < sP (lA x 1 y)
        · have mz := rt_pos hS hz pz
          rw [if_neg (by omega), if_pos pz]
          have D : Dec n d y (mnF x) (lA x 1 y) := by
            have := dec_of hS mx (y := lA x 1 y) mz (by rw [← lA_comm (x := y) (lenR_of hS hy hx), lA_out2 hS hy hx]; exact my)
            rwa [← lA_comm (x := y) (lenR_of hS hy hx), lA_out2 hS hy hx, lA_comm (x := y) (lenR_of hS hy hx)] at this
          rw [(tb_at hS D).2.2, Int.mul_neg, Int.neg_tdiv]
        · have nz := rt_neg hS hz pz
          rw [if_pos (by omega), if_neg pz]
          have D : Dec n d (mnF x) (mnF (lA x 1 y)) y := by
            have := dec_of hS nz.1 my (by rw [← lA_comm (x := y) (lenR_of hS hy hx), lA_out3 hS hy hx]; exact mx)
            rwa [← lA_comm (x := y) (lenR_of hS hy hx), lA_out3 hS hy hx, lA_comm (x := y) (lenR_of hS hy hx)] at this
          rw [(tb_at hS D).2.2, Int.mul_neg, Int.neg_tdiv, Int.neg_neg]
      · have hz0 : rtB (rSt n d) (lA x 1 y) = false := by simpa using hz
        rw [nF_no hS hz0, nF_no hS (by rw [mn_add hS hx hy, rtB_mn]; exact hz0)]
        rfl
    · rw [nF_nn hS hx hy h1 h2, Int.neg_neg]
  by_cases h1 : 0 < sP x
  · have := key (rt_mn2 hx) (rt_mn2 hy) (by rw [sP_mn]; omega)
    rw [mnF_mnF, mnF_mnF] at this
    omega
  · exact key hx hy h1
theorem nF_sw (hS : (tyS n d).isSome = true) {x y : List Int} (hx : rtB (rSt n d) x = true) (hy : rtB (rSt n d) y = true) : nF n d y x = -(nF n d x y) := by
  by_cases h1 : 0 < sP x
  · by_cases h2 : 0 < sP y
    · by_cases hz : rtB (rSt n d) (lA x 1 y) = true
      · have ey : rtB (rSt n d) (lA y 1 x) = true := by rw [lA_comm (lenR_of hS hy hx)]; exact hz
        have D := dec_of hS (rt_pos hS hx h1) (rt_pos hS hy h2) (rt_pos hS hz (by rw [sP_add hS hx hy]; omega))
        rw [nF_pp hS hz h1 h2, nF_pp hS ey h2 h1, lA_comm (lenR_of hS hy hx), (tb_at hS D).2.2]
      · have hz0 : rtB (rSt n d) (lA x 1 y) = false := by simpa using hz
        rw [nF_no hS hz0, nF_no hS (by rw [lA_comm (lenR_of hS hy hx)]; exact hz0)]
        rfl
    · rw [nF_np hS hy hx h2 h1]
  · by_cases h2 : 0 < sP y
    · rw [nF_np hS hx hy h1 h2, Int.neg_neg]
    · have nx := (rt_neg hS hx h1).1
      have ny := (rt_neg hS hy h2).1
      have px := sP_root hS nx
      have py := sP_root hS ny
      rw [nF_nn hS hx hy h1 h2, nF_nn hS hy hx h2 h1]
      by_cases hz : rtB (rSt n d) (lA x 1 y) = true
      · have e1 : rtB (rSt n d) (lA (mnF x) 1 (mnF y)) = true := by rw [mn_add hS hx hy, rtB_mn]; exact hz
        have e2 : rtB (rSt n d) (lA (mnF y) 1 (mnF x)) = true := by rw [mn_add hS hy hx, rtB_mn, lA_comm (lenR_of hS hy hx)]; exact hz
        have D := dec_of hS nx ny (rt_pos hS e1 (by rw [sP_add hS (rt_in nx) (rt_in ny)]; omega))
        rw [nF_pp hS e1 (by omega) (by omega), nF_pp hS e2 (by omega) (by omega), mn_add hS hy hx, mn_add hS hx hy, lA_comm (lenR_of hS hy hx)]
        have := (tb_at hS D).2.2
        rw [mn_add hS hx hy] at this
        rw [this]
      · have hz0 : rtB (rSt n d) (lA x 1 y) = false := by simpa using hz
        rw [nF_no hS (x := mnF x) (by rw [mn_add hS hx hy, rtB_mn]; exact hz0), nF_no hS (x := mnF y) (by rw [mn_add hS hy hx, rtB_mn, lA_comm (lenR_of hS hy hx)]; exact hz0)]
        rfl
theorem prn_all (hS : (tyS n d).isSome = true) {x y : List Int} (hx : rtB (rSt n d) x = true) (hy : rtB (rSt n d) y = true) (hz : rtB (rSt n d) (lA x 1 y) = true) : Pr n d x y := by
  have key : ∀ {x y : List Int}, rtB (rSt n d) x = true → rtB (rSt n d) y = true → rtB (rSt n d) (lA x 1 y) = true → 0 < sP x → Pr n d x y := fun {x y} hx hy hz h1 => by
    by_cases h2 : 0 < sP y
    · exact prn_pp hS (rt_pos hS hx h1) (rt_pos hS hy h2) hz
    · by_cases h3 : 0 < sP (lA x 1 y)
      · exact prn_pnP hS (rt_pos hS hx h1) (rt_neg hS hy h2).1 (rt_pos hS hz h3)
      · exact prn_pnN hS (rt_pos hS hx h1) (rt_neg hS hy h2).1 (rt_neg hS hz h3).1
  by_cases h1 : 0 < sP x
  · exact key hx hy hz h1
  · have hn := (rt_neg hS hx h1).2
    exact prn_mn hS hx hy hz (fun hu hv => nF_mm hS hu hv) (key (rt_mn2 hx) (rt_mn2 hy) (by rw [mn_add hS hx hy, rtB_mn]; exact hz) (by rw [sP_mn]; omega))
theorem mn_s1 {x ys : List Int} {i : Nat} (hi : i < ys.length) (h1 : ∀ j, j < i → ys.getD j 0 = 0 - x.getD j 0) (h2 : ys.getD i 0 = x.getD i 0) : ∀ j, j < i + 1 → (ys.set i (0 - ys.getD i 0)).getD j 0 = 0 - x.getD j 0 := fun j hj => by
  by_cases e : j = i
  · subst e
    rw [set_getD_eq hi, h2]
  · rw [set_getD_ne (fun h => e h.symm), h1 j (by omega)]
theorem mn_s2 {x ys : List Int} {i : Nat} {v : Int} (h2 : ∀ j, i ≤ j → ys.getD j 0 = x.getD j 0) : ∀ j, i + 1 ≤ j → (ys.set i v).getD j 0 = x.getD j 0 := fun j hj => by rw [set_getD_ne (by omega), h2 j (by omega)]
theorem mn_s3 {x ys : List Int} (hl : ys.length = x.length) (h : ∀ j, j < x.length → ys.getD j 0 = 0 - x.getD j 0) : ys = mnF x := ext_getD (by rw [hl, mnF_len]) fun j hj => by rw [h j (by omega), mnF_get]; omega
def zzB (x : List Int) : Bool := !(x.any fun y => decide (y ≠ 0))
structure CnLaw (n : Int) (d x y : List Int) : Prop where
  len : x.length = n.toNat ∧ y.length = n.toNat ∧ (adF x y).length = n.toNat
  ent : (∀ j, -10 ≤ x.getD j 0 ∧ x.getD j 0 ≤ 10) ∧ (∀ j, -10 ≤ y.getD j 0 ∧ y.getD j 0 ≤ 10) ∧ ∀ j, -20 ≤ (adF x y).getD j 0 ∧ (adF x y).getD j 0 ≤ 20
  al : All64 x ∧ All64 y ∧ All64 (adF x y) ∧ All64 (mnF x) ∧ All64 (mnF y) ∧ All64 (mnF (adF x y))
  bd : -12 ≤ cnOf n d x y ∧ cnOf n d x y ≤ 12
  sw : cnOf n d y x = -(cnOf n d x y)
  mm : cnOf n d (mnF x) (mnF y) = -(cnOf n d x y)
  no : isRt n d (adF x y) = false → cnOf n d x y = 0
  nz : isRt n d (adF x y) = true → cnOf n d x y ≠ 0
  zz : isRt n d (adF x y) = true → zzB (adF x y) = false
  str : cnOf n d x y ≠ 0 → ∃ p : Nat, p ≤ 3 ∧ rsA n d x y (-1) = p ∧ (cnOf n d x y = p + 1 ∨ cnOf n d x y = 0 - p - 1)
  eq : cnOf n d x y ≠ 0 → cnOf n d x y * inOf n d x x = cnOf n d y (mnF (adF x y)) * inOf n d (adF x y) (adF x y)
theorem cnLaw (hS : (tyS n d).isSome = true) {x y : List Int} (hx : rtB (rSt n d) x = true) (hy : rtB (rSt n d) y = true) : CnLaw n d x y := by
  have hlo := (rtOk hS).lo
  obtain ⟨x1, x2, x3⟩ := rt_tens hS hx
  obtain ⟨y1, y2, _⟩ := rt_tens hS hy
  have ez : adF x y = lA x 1 y := ext_getD (by rw [adF_len, lA_len (by omega)]) fun j hj => by
    rw [adF_len] at hj
    have a := x2 j
    have b := y2 j
    rw [adF_get hj, lA_get hj (by omega), wrap_in (by omega) (by omega), Int.one_mul]
  have zl : (adF x y).length = n.toNat := by rw [adF_len]; exact x1
  have z2 : ∀ j, -20 ≤ (adF x y).getD j 0 ∧ (adF x y).getD j 0 ≤ 20 := fun j => by
    by_cases hj : j < x.length
    · have a := x2 j
      have b := y2 j
      rw [adF_get hj, wrap_in (by omega) (by omega)]
      omega
    · simp [List.getD, List.getElem?_eq_none (show (adF x y).length ≤ j by omega)]
  have a64 : ∀ {u : List Int}, (∀ j, -20 ≤ u.getD j 0 ∧ u.getD j 0 ≤ 20) → All64 u := fun {u} h v hv => by
    obtain ⟨k, hk, rfl⟩ := List.mem_iff_getElem.1 hv
    have := h k
    have e : u.getD k 0 = u[k] := by simp [List.getD, hk]
    rw [e] at this
    exact ⟨by omega, by omega⟩
  have mb : ∀ {u : List Int}, (∀ j, -20 ≤ u.getD j 0 ∧ u.getD j 0 ≤ 20) → ∀ j, -20 ≤ (mnF u).getD j 0 ∧ (mnF u).getD j 0 ≤ 20 := fun {u} h j => by
    have := h j
    rw [mnF_get]
    omega
  have x20 : ∀ j, -20 ≤ x.getD j 0 ∧ x.getD j 0 ≤ 20 := fun j => by have := x2 j; omega
  have y20 : ∀ j, -20 ≤ y.getD j 0 ∧ y.getD j 0 ≤ 20 := fun j => by have := y2 j; omega
  have ir : ∀ {u : List Int}, rtB (rSt n d) u = true → isRt n d u = true := fun {u} hu => by
    obtain ⟨u1, u2, _⟩ := rt_tens hS hu
    rw [← isRt_of (rt_64 hS hu), hS, hu, ten_wt (by omega) u2]
    rfl
  have co : ∀ {u v : List Int}, rtB (rSt n d) u = true → rtB (rSt n d) v = true → cnOf n d u v = nF n d u v := fun hu hv => by rw [cnOf, ir hu, ir hv]; rfl
  have iz : isRt n d (adF x y) = true → rtB (rSt n d) (lA x 1 y) = true := fun h => by
    rw [← ez]
    exact (isRt_wt (a64 z2) h).2.2
  have io : ∀ {u : List Int}, rtB (rSt n d) u = true → inOf n d u u = 2 * hn n d u := fun {u} hu => by
    obtain ⟨u1, u2, _⟩ := rt_tens hS hu
    have hw := ten_wt (n := n) (by omega) u2
    have e : inOf n d u u = ipg n d (lenF n d) u u := by rw [inOf, hS, hw, ← inF_ipg hS hw hw]; rfl
    have h2 := (rcQ hS hu).two
    have e2 : hn n d u = ipg n d (lenF n d) u u / 2 := rfl
    rw [e, e2]
    omega
  have key : cnOf n d x y ≠ 0 → rtB (rSt n d) (lA x 1 y) = true := fun h => by
    cases e : rtB (rSt n d) (lA x 1 y) with
    | true => rfl
    | false => exact absurd (by rw [co hx hy, nF_no hS e]) h
  refine ⟨⟨x1, y1, zl⟩, ⟨x2, y2, z2⟩, ⟨a64 x20, a64 y20, a64 z2, a64 (mb x20), a64 (mb y20), a64 (mb z2)⟩, ?_, ?_, ?_, fun h => ?_, fun h => ?_, fun h => ?_, fun h => ?_, fun h => ?_⟩
  · rw [co hx hy]; exact nF_bd hS hx hy
  · rw [co hx hy, co hy hx]; exact nF_sw hS hx hy
  · rw [co hx hy, co (rt_mn2 hx) (rt_mn2 hy)]; exact nF_mm hS hx hy
  · cases e : rtB (rSt n d) (lA x 1 y) with
    | true =>
      rw [ez, ir e] at h
      cases h
    | false => rw [co hx hy, nF_no hS e]
  · have := (prn_all hS hx hy (iz h)).1
    rw [co hx hy]
    omega
  · have hz := iz h
    have h1 := rt_nz hS hz
    obtain ⟨j, hj, hne⟩ : ∃ j, j < (lA x 1 y).length ∧ (lA x 1 y).getD j 0 ≠ 0 := (rtOk hS).nz (rnOk hS) hz
    rw [ez, zzB, Bool.not_eq_false', List.any_eq_true]
    have e : (lA x 1 y).getD j 0 = (lA x 1 y)[j] := by simp [List.getD, hj]
    exact ⟨(lA x 1 y)[j], List.getElem_mem hj, decide_eq_true (by rw [← e]; exact hne)⟩
  · have hz := key h
    obtain ⟨h1, h2, _⟩ := prn_all hS hx hy hz
    have hp : ruF n d y x ≤ 3 := by omega
    have hr := (cnRch_run hS hy hx hp).1
    have nxy : x ≠ y := fun e => by
      have h3 := nF_sw hS hx hy
      rw [e] at h3
      rw [co hx hy, e] at h
      omega
    have nxm : y ≠ mnF x := fun e => by
      have h3 := rt_nz hS hz
      rw [e, sP_lA (by rw [mnF_len]), sP_mn] at h3
      omega
    have s1 : samB y x = false := by rw [samB_eq]; exact decide_eq_false fun e => nxy e
    have s2 : samB y (ngF x) = false := by rw [ng_of hS hx, samB_eq]; exact decide_eq_false fun e => nxm e.symm
    refine ⟨ruF n d y x, hp, ?_, by rw [co hx hy]; omega⟩
    rw [rsA, rsOk, ir hx, ir hy, s1, s2, rsN, hr]
    rfl
  · have hz := key h
    have h3 := (prn_all hS hx hy hz).2.2
    rw [co hx hy, ez, co hy (rt_mn2 hz), io hx, io hz, Int.mul_left_comm, h3, Int.mul_left_comm]
end
end Go.Proofs.YtbmnnbglipkidaaGreatDoor
