/-
  The law FnExactAddMatrices.
-/
import Derived.Test.YtiapoopcicjldaaLawM
namespace Go.Proofs.Ytiapoopcicjldaa
open Go.RowKit

theorem addMF_len (a b : Mat) : (addMF a b).1.d.length ≤ 1600 := by
  unfold addMF
  split
  · rename_i h
    simp only [Bool.and_eq_true] at h
    have := (matOk_of h.1).le
    simpa [plusF, addF_len] using this
  · simp [mat0]

set_option linter.unusedSimpArgs false in
set_option maxRecDepth 100000 in
set_option maxHeartbeats 20000000 in
theorem lawAdd_any (va vb : Value) (a b : Mat) (w : World) (ha : IsMat w va a) (hb : IsMat w vb b) :
    Calls Try.prog 5 #[va, vb] w fun e w' => e = .returned (.bool true) ∧ Below w.heap.size w w' := by
  obtain ⟨da, rfl, hda⟩ := ha
  obtain ⟨db, rfl, hdb⟩ := hb
  obtain ⟨aoa, capa, rfl⟩ := Sl.form hda
  obtain ⟨aob, capb, rfl⟩ := Sl.form hdb
  obtain ⟨W, hW⟩ : ∃ W, W = (w.alloc (.cells #[.int .i64 a.p, .int .i64 a.r, .int .i64 a.c, .slice aoa a.d.length capa] 44)).alloc (.cells #[.int .i64 b.p, .int .i64 b.r, .int .i64 b.c, .slice aob b.d.length capb] 44) := ⟨_, rfl⟩
  have hb0 : Below w.heap.size w W := by rw [hW]; exact ((Below.refl w.heap.size w).alloc (Nat.le_refl _) _).alloc (by simp) _
  have y0 : Bx W w.heap.size 44 [.int .i64 a.p, .int .i64 a.r, .int .i64 a.c, .slice aoa a.d.length capa] := by rw [hW]; exact (Bx.push w _ _).alloc _
  have y1 : Bx W (w.heap.size + 1) 44 [.int .i64 b.p, .int .i64 b.r, .int .i64 b.c, .slice aob b.d.length capb] := by rw [hW]; exact Bx.push' _ _ _ _ (by simp)
  have HW := hid hW; clear hW
  have HA := hid (fun w' (h : SB W w') => (⟨_, rfl, Sl.below hda (hb0.trans (Below.mono h hb0.size))⟩ : IsMat w' (.agg #[.int .i64 a.p, .int .i64 a.r, .int .i64 a.c, .slice aoa a.d.length capa]) a))
  have HB := hid (fun w' (h : SB W w') => (⟨_, rfl, Sl.below hdb (hb0.trans (Below.mono h hb0.size))⟩ : IsMat w' (.agg #[.int .i64 b.p, .int .i64 b.r, .int .i64 b.c, .slice aob b.d.length capb]) b))
  have a0 : ∀ w', SB W w' → w'.cell? ⟨w.heap.size, 0, none⟩ = some (.int .i64 a.p) := fun w' h => (y0.step h).cells4.1
  have a1 : ∀ w', SB W w' → w'.cell? ⟨w.heap.size, 1, none⟩ = some (.int .i64 a.r) := fun w' h => (y0.step h).cells4.2.1
  have a2 : ∀ w', SB W w' → w'.cell? ⟨w.heap.size, 2, none⟩ = some (.int .i64 a.c) := fun w' h => (y0.step h).cells4.2.2.1
  have a3 : ∀ w', SB W w' → w'.cell? ⟨w.heap.size, 3, none⟩ = some (.slice aoa a.d.length capa) := fun w' h => (y0.step h).cells4.2.2.2
  have b0 : ∀ w', SB W w' → w'.cell? ⟨w.heap.size + 1, 0, none⟩ = some (.int .i64 b.p) := fun w' h => (y1.step h).cells4.1
  have b1 : ∀ w', SB W w' → w'.cell? ⟨w.heap.size + 1, 1, none⟩ = some (.int .i64 b.r) := fun w' h => (y1.step h).cells4.2.1
  have b2 : ∀ w', SB W w' → w'.cell? ⟨w.heap.size + 1, 2, none⟩ = some (.int .i64 b.c) := fun w' h => (y1.step h).cells4.2.2.1
  have b3 : ∀ w', SB W w' → w'.cell? ⟨w.heap.size + 1, 3, none⟩ = some (.slice aob b.d.length capb) := fun w' h => (y1.step h).cells4.2.2.2
  have H0 := hid hb0
  have S0 : SB W W := SB.refl W
  clear hb0 y0 y1
  by_cases h1 : a.d.length ≤ 1048576
  · by_cases h2 : a.d.length + b.d.length ≤ 1048576
    · have z1 : szF a.d.length 1048576 = 1048576 - a.d.length := by unfold szF; rw [if_neg (by omega)]
      have z2 : szF b.d.length (1048576 - a.d.length) = 1048576 - a.d.length - b.d.length := by unfold szF; rw [if_neg (by omega)]
      have Z := hid (And.intro z1 z2); clear z1 z2
      go_enter Try.func5, Try.ntmps5
      go_upto_region 1 with fail
      rw [← HW.out]
      go_wp2_with fail
      refine (szMatrix_any _ a 1048576 _ (HA.out _ S0) (by omega) (by omega)).mono ?_; rintro e w1 ⟨rfl, c1⟩
      rw [Z.out.1]
      have s1 := S0.step c1
      go_wp2_with fail
      refine (szMatrix_any _ b (1048576 - a.d.length) _ (HB.out _ s1) (by omega) (by omega)).mono ?_; rintro e w2 ⟨rfl, c2⟩
      rw [Z.out.2]
      have s2 := s1.step c2
      go_upto_region 8 with fail
      have HF := hid (And.intro (addMF_len a b) (And.intro (show (addMF a b).1.p = (addMF a b).1.p from rfl) H0.out))
      go_cut [6, 7] (fun s6 s7 wx => ∃ g ao cap, s6 = .pointer (some ⟨g, 0, none⟩) ∧ s7 = .bool (addMF a b).2 ∧ VarM wx W.heap.size g ao cap (addMF a b).1 ∧ SB W wx)
      case first =>
        have y2 := s2.below.size
        clear H0 HW S0 s1 c1 c2 HF
        go_region_held3 (fun w' => SB W w')
          ((focus ((repeat (first | (with_reducible assumption) | (with_reducible refine SB.drew ?_) | (with_reducible refine SB.alloc ?_ _) | (with_reducible refine SB.setCell ?_ (by (first | omega | (simp; done) | (simp; omega))) _))); done)))
          (first
            | (go_at_call_of 26 (Value.slice aoa a.d.length capa); refine (toMatrix_any _ a _ (HA.out _ (by assumption)) (by omega)).mono ?_; rintro e w3 ⟨r3, rfl, m3, q3⟩; obtain ⟨d3, rfl, o3⟩ := m3; obtain ⟨ao3, cp3, rfl⟩ := o3.form; have i3 : IsMat w3 (.agg #[.int .i64 a.p, .int .i64 a.r, .int .i64 a.c, .slice ao3 a.d.length cp3]) a := ⟨_, rfl, o3.ints⟩; have s3 : SB W w3 := SB.step (by assumption) q3; obtain ⟨hcl3, hfr3⟩ := bcell q3; have z3 := q3.size; (try simp only [World.size_alloc, World.size_drew] at z3); (try simp only [World.size_alloc, World.size_drew] at hcl3); (try simp only [World.size_alloc, World.size_drew] at hfr3); have y3 := s3.below.size)
            | (go_at_call_of 26 (Value.slice aob b.d.length capb); refine (toMatrix_any _ b _ (HB.out _ (by assumption)) (by omega)).mono ?_; rintro e w4 ⟨r4, rfl, m4, q4⟩; obtain ⟨d4, rfl, o4⟩ := m4; obtain ⟨ao4, cp4, rfl⟩ := o4.form; have i4 : IsMat w4 (.agg #[.int .i64 b.p, .int .i64 b.r, .int .i64 b.c, .slice ao4 b.d.length cp4]) b := ⟨_, rfl, o4.ints⟩; have s4 : SB W w4 := SB.step (by assumption) q4; obtain ⟨hcl4, hfr4⟩ := bcell q4; have z4 := q4.size; (try simp only [World.size_alloc, World.size_drew] at z4); (try simp only [World.size_alloc, World.size_drew] at hcl4); (try simp only [World.size_alloc, World.size_drew] at hfr4); have y4 := s4.below.size; (try have u4 := SB.step (by first | exact q3 | exact SB.alloc q3 _ | exact SB.drew q3 | exact SB.drew (SB.alloc q3 _) | exact SB.alloc (SB.drew q3) _) q4; obtain ⟨hcu4, hfu4⟩ := bcell u4.below; (try simp only [World.size_alloc, World.size_drew] at hcu4); (try simp only [World.size_alloc, World.size_drew] at hfu4)))
            | (go_at_call 25; refine (specAddMatrices_any _ _ a b _ ?_ ?_).mono ?_; (focus ((repeat (first | (with_reducible assumption) | (with_reducible refine IsMat.alloc ?_ _) | (with_reducible refine IsMat.drew ?_) | (with_reducible refine IsMat.below ?_ (by assumption)))); done)); (focus ((repeat (first | (with_reducible assumption) | (with_reducible refine IsMat.alloc ?_ _) | (with_reducible refine IsMat.drew ?_) | (with_reducible refine IsMat.below ?_ (by assumption)))); done)); rintro e w5 ⟨r5, rfl, m5, q5⟩; obtain ⟨d5, rfl, o5⟩ := m5; obtain ⟨ao5, cp5, rfl⟩ := o5.form; have s5 : SB W w5 := SB.step (by assumption) q5; obtain ⟨hcl5, hfr5⟩ := bcell q5; have z5 := q5.size; (try simp only [World.size_alloc, World.size_drew] at z5); (try simp only [World.size_alloc, World.size_drew] at hcl5); (try simp only [World.size_alloc, World.size_drew] at hfr5); have y5 := s5.below.size; (try have u5 := SB.step (by first | exact q4 | exact SB.alloc q4 _ | exact SB.drew q4 | exact SB.drew (SB.alloc q4 _) | exact SB.alloc (SB.drew q4) _) q5; obtain ⟨hcu5, hfu5⟩ := bcell u5.below; (try simp only [World.size_alloc, World.size_drew] at hcu5); (try simp only [World.size_alloc, World.size_drew] at hfu5)); (try have v5 := SB.step (by first | exact u4 | exact SB.alloc u4 _ | exact SB.drew u4 | exact SB.drew (SB.alloc u4 _) | exact SB.alloc (SB.drew u4) _) q5; obtain ⟨hcv5, hfv5⟩ := bcell v5.below; (try simp only [World.size_alloc, World.size_drew] at hcv5); (try simp only [World.size_alloc, World.size_drew] at hfv5))))
        all_goals
          go_wp2_with fail
          go_meet
          refine ⟨_, ao5, cp5, rfl, rfl, ⟨?_, ?_, ?_, ?_⟩, by (focus ((repeat (first | (with_reducible assumption) | (with_reducible refine SB.drew ?_) | (with_reducible refine SB.alloc ?_ _) | (with_reducible refine SB.setCell ?_ (by (first | omega | (simp; done) | (simp; omega))) _))); done))⟩
          · (focus ((repeat (first | (with_reducible assumption) | (with_reducible exact Bx.push _ _ [_, _, _, _]) | (with_reducible refine Bx.drew ?_) | (with_reducible refine Bx.alloc ?_ _) | (with_reducible refine Bx.set4 (a := .int .i64 0) (b := .int .i64 0) (c := .int .i64 0) (d := .slice none 0 0) ?_ _ _ _ _) | (with_reducible refine Bx.step ?_ (by assumption)))); done))
          · first | (with_reducible exact (o5.alloc _).mono (by (first | omega | (simp; done) | (simp; omega)))) | (with_reducible exact (OwnI.set4 o5 (by (first | omega | (simp; done) | (simp; omega))) _ _ _ _).mono (by (first | omega | (simp; done) | (simp; omega))))
          · omega
          · first | (with_reducible exact o5.ne (.inr (Nat.le_refl _))) | (with_reducible exact o5.ne (.inl (by (first | omega | (simp; done) | (simp; omega)))))
      case rest =>
        obtain ⟨g6, ao6, cp6, rfl, rfl, v6, sc⟩ := hcut
        have p1 := H0.out.size
        have p2 := sc.below.size
        have N := hid HF.out.1
        have E := hid (eqMF_self (addMF a b).1)
        clear HF
        go_wp2_with fail
        refine (toMatrix_any _ a _ (HA.out _ sc) (by omega)).mono ?_; rintro e w9 ⟨r9, rfl, m9, q9⟩; obtain ⟨d9, rfl, o9⟩ := m9; obtain ⟨ao9, cp9, rfl⟩ := o9.form
        have z9 := q9.size
        have nv8v6 := v6.own.apart o9 (by (first | omega | (simp; done) | (simp; omega)))
        have mv8v6 := o9.ne (.inl (by have := v6.box.lt; (first | omega | (simp; done) | (simp; omega))))
        have lv8v6 := (v6.step q9).own.ne (g := w9.heap.size) (.inr (Nat.le_refl _))
        replace v6 := (v6.step q9).alloc (.cells #[.int .i64 a.p, .int .i64 a.r, .int .i64 a.c, .slice ao9 a.d.length cp9] 35)
        have v8 := VarM.new (B := W.heap.size) (m := a) (o9.mono (by omega)) (by omega)
        replace sc := (sc.step q9).alloc (.cells #[.int .i64 a.p, .int .i64 a.r, .int .i64 a.c, .slice ao9 a.d.length cp9] 35)
        clear o9 q9 z9
        go_wp2_with fail
        generalize (w9.alloc (.cells #[.int .i64 a.p, .int .i64 a.r, .int .i64 a.c, .slice ao9 a.d.length cp9] 35)) = x9 at *
        generalize w9.heap.size = g8 at *
        have z9 := sc.below.size
        refine (toMatrix_any _ b _ (HB.out _ sc) (by omega)).mono ?_; rintro e w10 ⟨r10, rfl, m10, q10⟩; obtain ⟨d10, rfl, o10⟩ := m10; obtain ⟨ao10, cp10, rfl⟩ := o10.form
        have z10 := q10.size
        have nv9v6 := v6.own.apart o10 (by (first | omega | (simp; done) | (simp; omega)))
        have mv9v6 := o10.ne (.inl (by have := v6.box.lt; (first | omega | (simp; done) | (simp; omega))))
        have lv9v6 := (v6.step q10).own.ne (g := w10.heap.size) (.inr (Nat.le_refl _))
        replace v6 := (v6.step q10).alloc (.cells #[.int .i64 b.p, .int .i64 b.r, .int .i64 b.c, .slice ao10 b.d.length cp10] 35)
        have nv9v8 := v8.own.apart o10 (by (first | omega | (simp; done) | (simp; omega)))
        have mv9v8 := o10.ne (.inl (by have := v8.box.lt; (first | omega | (simp; done) | (simp; omega))))
        have lv9v8 := (v8.step q10).own.ne (g := w10.heap.size) (.inr (Nat.le_refl _))
        replace v8 := (v8.step q10).alloc (.cells #[.int .i64 b.p, .int .i64 b.r, .int .i64 b.c, .slice ao10 b.d.length cp10] 35)
        have v9 := VarM.new (B := W.heap.size) (m := b) (o10.mono (by omega)) (by omega)
        replace sc := (sc.step q10).alloc (.cells #[.int .i64 b.p, .int .i64 b.r, .int .i64 b.c, .slice ao10 b.d.length cp10] 35)
        clear o10 q10 z10
        obtain ⟨v8a, v8b, v8c, v8d⟩ := v8.cells
        obtain ⟨v9a, v9b, v9c, v9d⟩ := v9.cells
        go_wp2_with fail
        clear v8a v8b v8c v8d v9a v9b v9c v9d
        generalize (w10.alloc (.cells #[.int .i64 b.p, .int .i64 b.r, .int .i64 b.c, .slice ao10 b.d.length cp10] 35)) = x10 at *
        generalize w10.heap.size = g9 at *
        have z10 := sc.below.size
        refine (addMatrices_any _ _ a b _ v8.isMat v9.isMat).mono ?_; rintro e w11 ⟨r11, rfl, m11, q11⟩; obtain ⟨d11, rfl, o11⟩ := m11; obtain ⟨ao11, cp11, rfl⟩ := o11.form
        have z11 := q11.size
        have nv10v6 := v6.own.apart o11 (by (first | omega | (simp; done) | (simp; omega)))
        have mv10v6 := o11.ne (.inl (by have := v6.box.lt; (first | omega | (simp; done) | (simp; omega))))
        have lv10v6 := (v6.step q11).own.ne (g := w11.heap.size) (.inr (Nat.le_refl _))
        replace v6 := (v6.step q11).alloc (.cells #[.int .i64 (addMF a b).1.p, .int .i64 (addMF a b).1.r, .int .i64 (addMF a b).1.c, .slice ao11 (addMF a b).1.d.length cp11] 35)
        have nv10v8 := v8.own.apart o11 (by (first | omega | (simp; done) | (simp; omega)))
        have mv10v8 := o11.ne (.inl (by have := v8.box.lt; (first | omega | (simp; done) | (simp; omega))))
        have lv10v8 := (v8.step q11).own.ne (g := w11.heap.size) (.inr (Nat.le_refl _))
        replace v8 := (v8.step q11).alloc (.cells #[.int .i64 (addMF a b).1.p, .int .i64 (addMF a b).1.r, .int .i64 (addMF a b).1.c, .slice ao11 (addMF a b).1.d.length cp11] 35)
        have nv10v9 := v9.own.apart o11 (by (first | omega | (simp; done) | (simp; omega)))
        have mv10v9 := o11.ne (.inl (by have := v9.box.lt; (first | omega | (simp; done) | (simp; omega))))
        have lv10v9 := (v9.step q11).own.ne (g := w11.heap.size) (.inr (Nat.le_refl _))
        replace v9 := (v9.step q11).alloc (.cells #[.int .i64 (addMF a b).1.p, .int .i64 (addMF a b).1.r, .int .i64 (addMF a b).1.c, .slice ao11 (addMF a b).1.d.length cp11] 35)
        have v10 := VarM.new (B := W.heap.size) (m := (addMF a b).1) (o11.mono (by omega)) (by omega)
        replace sc := (sc.step q11).alloc (.cells #[.int .i64 (addMF a b).1.p, .int .i64 (addMF a b).1.r, .int .i64 (addMF a b).1.c, .slice ao11 (addMF a b).1.d.length cp11] 35)
        clear o11 q11 z11
        obtain ⟨v10a, v10b, v10c, v10d⟩ := v10.cells
        obtain ⟨v6a, v6b, v6c, v6d⟩ := v6.cells
        go_wp2_with fail
        clear v10a v10b v10c v10d v6a v6b v6c v6d
        generalize (w11.alloc (.cells #[.int .i64 (addMF a b).1.p, .int .i64 (addMF a b).1.r, .int .i64 (addMF a b).1.c, .slice ao11 (addMF a b).1.d.length cp11] 35)) = x11 at *
        generalize w11.heap.size = g10 at *
        have z11 := sc.below.size
        refine (eqMatrix_any _ _ _ _ _ v10.isMat v6.isMat).mono ?_; rintro e w12 ⟨rfl, q12⟩
        rw [E.out]
        replace v6 := v6.step q12
        replace v8 := v8.step q12
        replace v9 := v9.step q12
        replace v10 := v10.step q12
        replace sc := sc.step q12
        clear q12
        go_upto_region 14 with fail
        have Ra := hid (fun w' (h : SB w12 w') => HA.out w' (sc.trans h))
        have ka0 := fun w' (h : SB w12 w') => a0 w' (sc.trans h)
        have ka1 := fun w' (h : SB w12 w') => a1 w' (sc.trans h)
        have ka2 := fun w' (h : SB w12 w') => a2 w' (sc.trans h)
        have ka3 := fun w' (h : SB w12 w') => a3 w' (sc.trans h)
        have sr := SB.refl w12
        have i0 := v8.isMat
        obtain ⟨va, vb, vc, vd⟩ := v8.rules
        go_region_held3 (fun w' => SB w12 w') ((focus ((repeat (first | (with_reducible assumption) | (with_reducible refine SB.drew ?_) | (with_reducible refine SB.alloc ?_ _) | (with_reducible refine SB.setCell ?_ (by (first | omega | (simp; done) | (simp; omega))) _))); done)))
          (first
            | (go_at_call_of 26 (Value.slice aoa a.d.length capa); refine (toMatrix_any _ a _ (Ra.out _ (by assumption)) (by omega)).mono ?_; rintro e w14 ⟨r14, rfl, m14, q14⟩; obtain ⟨d14, rfl, o14⟩ := m14; obtain ⟨ao14, cp14, rfl⟩ := o14.form; have i14 : IsMat w14 (.agg #[.int .i64 a.p, .int .i64 a.r, .int .i64 a.c, .slice ao14 a.d.length cp14]) a := ⟨_, rfl, o14.ints⟩; have t14 : SB w12 w14 := SB.step (by assumption) q14)
            | (go_at_call 27; refine (eqMatrix_any _ _ a a _ ?_ ?_).mono ?_; (focus ((repeat (first | (with_reducible assumption) | (with_reducible refine IsMat.alloc ?_ _) | (with_reducible refine IsMat.drew ?_) | (with_reducible refine IsMat.below ?_ (by assumption)))); done)); (focus ((repeat (first | (with_reducible assumption) | (with_reducible refine IsMat.alloc ?_ _) | (with_reducible refine IsMat.drew ?_) | (with_reducible refine IsMat.below ?_ (by assumption)))); done)); rintro e w15 ⟨rfl, q15⟩; rw [eqMF_self]; have t15 : SB w12 w15 := SB.step (by assumption) q15))
        clear va vb vc vd i0 q14 o14 i14 t14 q15
        clear sr Ra ka0 ka1 ka2 ka3
        replace v6 := v6.step t15
        replace v8 := v8.step t15
        replace v9 := v9.step t15
        replace v10 := v10.step t15
        replace sc := sc.step t15
        clear t15
        go_upto_region 16 with fail
        have Rb := hid (fun w' (h : SB w15 w') => HB.out w' (sc.trans h))
        have kb0 := fun w' (h : SB w15 w') => b0 w' (sc.trans h)
        have kb1 := fun w' (h : SB w15 w') => b1 w' (sc.trans h)
        have kb2 := fun w' (h : SB w15 w') => b2 w' (sc.trans h)
        have kb3 := fun w' (h : SB w15 w') => b3 w' (sc.trans h)
        have sr := SB.refl w15
        have i0 := v9.isMat
        obtain ⟨va, vb, vc, vd⟩ := v9.rules
        go_region_held3 (fun w' => SB w15 w') ((focus ((repeat (first | (with_reducible assumption) | (with_reducible refine SB.drew ?_) | (with_reducible refine SB.alloc ?_ _) | (with_reducible refine SB.setCell ?_ (by (first | omega | (simp; done) | (simp; omega))) _))); done)))
          (first
            | (go_at_call_of 26 (Value.slice aob b.d.length capb); refine (toMatrix_any _ b _ (Rb.out _ (by assumption)) (by omega)).mono ?_; rintro e w16 ⟨r16, rfl, m16, q16⟩; obtain ⟨d16, rfl, o16⟩ := m16; obtain ⟨ao16, cp16, rfl⟩ := o16.form; have i16 : IsMat w16 (.agg #[.int .i64 b.p, .int .i64 b.r, .int .i64 b.c, .slice ao16 b.d.length cp16]) b := ⟨_, rfl, o16.ints⟩; have t16 : SB w15 w16 := SB.step (by assumption) q16)
            | (go_at_call 27; refine (eqMatrix_any _ _ b b _ ?_ ?_).mono ?_; (focus ((repeat (first | (with_reducible assumption) | (with_reducible refine IsMat.alloc ?_ _) | (with_reducible refine IsMat.drew ?_) | (with_reducible refine IsMat.below ?_ (by assumption)))); done)); (focus ((repeat (first | (with_reducible assumption) | (with_reducible refine IsMat.alloc ?_ _) | (with_reducible refine IsMat.drew ?_) | (with_reducible refine IsMat.below ?_ (by assumption)))); done)); rintro e w17 ⟨rfl, q15⟩; rw [eqMF_self]; have t15 : SB w15 w17 := SB.step (by assumption) q15))
        clear va vb vc vd i0 q16 o16 i16 t16 q15
        clear sr Rb kb0 kb1 kb2 kb3
        replace v6 := v6.step t15
        replace v8 := v8.step t15
        replace v9 := v9.step t15
        replace v10 := v10.step t15
        replace sc := sc.step t15
        clear t15
        go_upto_region 18 with fail
        obtain ⟨v8a, v8b, v8c, v8d⟩ := v8.cells
        go_wp2_with fail
        clear v8a v8b v8c v8d
        refine (markMatrix_any W.heap.size _ _ _ _ _ (1) _ v8.own (by (first | omega | (simp; done) | (simp; omega))) (by (first | omega | (simp; done) | (simp; omega))) (by (first | omega | (simp; done) | (simp; omega)))).mono ?_; rintro e w19 ⟨rfl, y19, gr19⟩
        replace v6 := v6.grown gr19 mv8v6 nv8v6
        replace v9 := v9.grown gr19 lv9v8 (sep_symm nv9v8)
        replace v10 := v10.grown gr19 lv10v8 (sep_symm nv10v8)
        replace sc := sc.grown gr19 v8.own.rowB
        obtain ⟨v9a, v9b, v9c, v9d⟩ := v9.cells
        go_wp2_with fail
        clear v9a v9b v9c v9d
        refine (markMatrix_any W.heap.size _ _ _ _ _ (1 + a.d.length) _ v9.own (by (first | omega | (simp; done) | (simp; omega))) (by (first | omega | (simp; done) | (simp; omega))) (by (first | omega | (simp; done) | (simp; omega)))).mono ?_; rintro e w20 ⟨rfl, y20, gr20⟩
        replace v6 := v6.grown gr20 mv9v6 nv9v6
        replace v10 := v10.grown gr20 lv10v9 (sep_symm nv10v9)
        replace sc := sc.grown gr20 v9.own.rowB
        obtain ⟨v10a, v10b, v10c, v10d⟩ := v10.cells
        obtain ⟨v6a, v6b, v6c, v6d⟩ := v6.cells
        go_wp2_with fail
        clear v10a v10b v10c v10d v6a v6b v6c v6d
        refine (eqMatrix_any _ _ _ _ _ v10.isMat v6.isMat).mono ?_; rintro e w21 ⟨rfl, q21⟩
        rw [E.out]
        replace v6 := v6.step q21
        replace v10 := v10.step q21
        replace sc := sc.step q21
        clear q21
        obtain ⟨v10a, v10b, v10c, v10d⟩ := v10.cells
        go_wp2_with fail
        clear v10a v10b v10c v10d
        refine (markMatrix_any W.heap.size _ _ _ _ _ 1 _ v10.own (by have := N.out; (first | omega | (simp; done) | (simp; omega))) (by (first | omega | (simp; done) | (simp; omega))) (by (first | omega | (simp; done) | (simp; omega)))).mono ?_; rintro e w24 ⟨rfl, y24, gr24⟩
        have bx10 := v10.box.grown gr24 v10.ne
        replace v6 := v6.grown gr24 mv10v6 nv10v6
        replace sc := sc.grown gr24 v10.own.rowB
        have i10 : IsMat w24 (.agg #[.int .i64 (addMF a b).1.p, .int .i64 (addMF a b).1.r, .int .i64 (addMF a b).1.c, .slice ao11 (addMF a b).1.d.length cp11]) ⟨(addMF a b).1.p, (addMF a b).1.r, (addMF a b).1.c, marked 1 (addMF a b).1.d.length⟩ := ⟨_, rfl, y24.ints⟩
        obtain ⟨xa, xb, xc, xd⟩ := bx10.cells4
        go_wp2_with fail
        clear xa xb xc xd
        refine (heldMatrix_any _ ⟨(addMF a b).1.p, (addMF a b).1.r, (addMF a b).1.c, marked 1 (addMF a b).1.d.length⟩ 1 _ i10 (by have := N.out; simp [marked_len]; omega) (by (first | omega | (simp; done) | (simp; omega))) (by (first | omega | (simp; done) | (simp; omega)))).mono ?_; rintro e w26 ⟨rfl, q26⟩
        rw [show heldF (marked 1 (addMF a b).1.d.length) 1 = 1 + (addMF a b).1.d.length from heldF_marked _ _]
        replace v6 := v6.step q26
        replace i10 := i10.below q26
        replace bx10 := bx10.step q26
        replace sc := sc.step q26
        go_upto_region 31 with fail
        have Ra := hid (fun w' (h : SB w26 w') => HA.out w' (sc.trans h))
        have ka0 := fun w' (h : SB w26 w') => a0 w' (sc.trans h)
        have ka1 := fun w' (h : SB w26 w') => a1 w' (sc.trans h)
        have ka2 := fun w' (h : SB w26 w') => a2 w' (sc.trans h)
        have ka3 := fun w' (h : SB w26 w') => a3 w' (sc.trans h)
        have Rb := hid (fun w' (h : SB w26 w') => HB.out w' (sc.trans h))
        have kb0 := fun w' (h : SB w26 w') => b0 w' (sc.trans h)
        have kb1 := fun w' (h : SB w26 w') => b1 w' (sc.trans h)
        have kb2 := fun w' (h : SB w26 w') => b2 w' (sc.trans h)
        have kb3 := fun w' (h : SB w26 w') => b3 w' (sc.trans h)
        have sr := SB.refl w26
        have y2 := sr.below.size
        go_cut [15, 16] (fun s15 s16 wx => ∃ g ao cap, s15 = .pointer (some ⟨g, 0, none⟩) ∧ s16 = .bool (addMF a b).2 ∧ VarM wx w26.heap.size g ao cap (addMF a b).1 ∧ SB w26 wx)
        case first =>
          go_region_held3 (fun w' => SB w26 w')
            ((focus ((repeat (first | (with_reducible assumption) | (with_reducible refine SB.drew ?_) | (with_reducible refine SB.alloc ?_ _) | (with_reducible refine SB.setCell ?_ (by (first | omega | (simp; done) | (simp; omega))) _))); done)))
            (first
              | (go_at_call_of 26 (Value.slice aoa a.d.length capa); refine (toMatrix_any _ a _ (Ra.out _ (by assumption)) (by omega)).mono ?_; rintro e w33 ⟨r33, rfl, m33, q33⟩; obtain ⟨d33, rfl, o33⟩ := m33; obtain ⟨ao33, cp33, rfl⟩ := o33.form; have i33 : IsMat w33 (.agg #[.int .i64 a.p, .int .i64 a.r, .int .i64 a.c, .slice ao33 a.d.length cp33]) a := ⟨_, rfl, o33.ints⟩; have s33 : SB w26 w33 := SB.step (by assumption) q33; obtain ⟨hcl33, hfr33⟩ := bcell q33; have z33 := q33.size; (try simp only [World.size_alloc, World.size_drew] at z33); (try simp only [World.size_alloc, World.size_drew] at hcl33); (try simp only [World.size_alloc, World.size_drew] at hfr33); have y33 := s33.below.size)
              | (go_at_call_of 26 (Value.slice aob b.d.length capb); refine (toMatrix_any _ b _ (Rb.out _ (by assumption)) (by omega)).mono ?_; rintro e w34 ⟨r34, rfl, m34, q34⟩; obtain ⟨d34, rfl, o34⟩ := m34; obtain ⟨ao34, cp34, rfl⟩ := o34.form; have i34 : IsMat w34 (.agg #[.int .i64 b.p, .int .i64 b.r, .int .i64 b.c, .slice ao34 b.d.length cp34]) b := ⟨_, rfl, o34.ints⟩; have s34 : SB w26 w34 := SB.step (by assumption) q34; obtain ⟨hcl34, hfr34⟩ := bcell q34; have z34 := q34.size; (try simp only [World.size_alloc, World.size_drew] at z34); (try simp only [World.size_alloc, World.size_drew] at hcl34); (try simp only [World.size_alloc, World.size_drew] at hfr34); have y34 := s34.below.size; (try have u34_0 := SB.step (by first | exact q33 | exact SB.alloc q33 _ | exact SB.drew q33 | exact SB.drew (SB.alloc q33 _) | exact SB.alloc (SB.drew q33) _) q34; obtain ⟨hcuu34_0, hfuu34_0⟩ := bcell u34_0.below; (try simp only [World.size_alloc, World.size_drew] at hcuu34_0); (try simp only [World.size_alloc, World.size_drew] at hfuu34_0)))
              | (go_at_call 21; refine (addMatrices_any _ _ a b _ ?_ ?_).mono ?_; (focus ((repeat (first | (with_reducible assumption) | (with_reducible refine IsMat.alloc ?_ _) | (with_reducible refine IsMat.drew ?_) | (with_reducible refine IsMat.below ?_ (by assumption)))); done)); (focus ((repeat (first | (with_reducible assumption) | (with_reducible refine IsMat.alloc ?_ _) | (with_reducible refine IsMat.drew ?_) | (with_reducible refine IsMat.below ?_ (by assumption)))); done)); rintro e w35 ⟨r35, rfl, m35, q35⟩; obtain ⟨d35, rfl, o35⟩ := m35; obtain ⟨ao35, cp35, rfl⟩ := o35.form; have s35 : SB w26 w35 := SB.step (by assumption) q35; obtain ⟨hcl35, hfr35⟩ := bcell q35; have z35 := q35.size; (try simp only [World.size_alloc, World.size_drew] at z35); (try simp only [World.size_alloc, World.size_drew] at hcl35); (try simp only [World.size_alloc, World.size_drew] at hfr35); have y35 := s35.below.size; (try have u35_0 := SB.step (by first | exact q34 | exact SB.alloc q34 _ | exact SB.drew q34 | exact SB.drew (SB.alloc q34 _) | exact SB.alloc (SB.drew q34) _) q35; obtain ⟨hcuu35_0, hfuu35_0⟩ := bcell u35_0.below; (try simp only [World.size_alloc, World.size_drew] at hcuu35_0); (try simp only [World.size_alloc, World.size_drew] at hfuu35_0)); (try have u35_1 := SB.step (by first | exact u34_0 | exact SB.alloc u34_0 _ | exact SB.drew u34_0 | exact SB.drew (SB.alloc u34_0 _) | exact SB.alloc (SB.drew u34_0) _) q35; obtain ⟨hcuu35_1, hfuu35_1⟩ := bcell u35_1.below; (try simp only [World.size_alloc, World.size_drew] at hcuu35_1); (try simp only [World.size_alloc, World.size_drew] at hfuu35_1))))
          all_goals
            go_wp2_with fail
            go_meet
            refine ⟨_, ao35, cp35, rfl, rfl, ⟨?_, ?_, ?_, ?_⟩, by (focus ((repeat (first | (with_reducible assumption) | (with_reducible refine SB.drew ?_) | (with_reducible refine SB.alloc ?_ _) | (with_reducible refine SB.setCell ?_ (by (first | omega | (simp; done) | (simp; omega))) _))); done))⟩
            · (focus ((repeat (first | (with_reducible assumption) | (with_reducible exact Bx.push _ _ [_, _, _, _]) | (with_reducible refine Bx.drew ?_) | (with_reducible refine Bx.alloc ?_ _) | (with_reducible refine Bx.set4 (a := .int .i64 0) (b := .int .i64 0) (c := .int .i64 0) (d := .slice none 0 0) ?_ _ _ _ _) | (with_reducible refine Bx.step ?_ (by assumption)))); done))
            · first | (with_reducible exact (o35.alloc _).mono (by (first | omega | (simp; done) | (simp; omega)))) | (with_reducible exact (OwnI.set4 o35 (by (first | omega | (simp; done) | (simp; omega))) _ _ _ _).mono (by (first | omega | (simp; done) | (simp; omega))))
            · omega
            · first | (with_reducible exact o35.ne (.inr (Nat.le_refl _))) | (with_reducible exact o35.ne (.inl (by (first | omega | (simp; done) | (simp; omega)))))
        case rest =>
          obtain ⟨g15, ao15, cp15, rfl, rfl, v15, sd⟩ := hcut
          clear sr Ra ka0 ka1 ka2 ka3 Rb kb0 kb1 kb2 kb3
          replace v6 := v6.step sd
          replace i10 := i10.below sd
          replace bx10 := bx10.step sd
          replace sc := sc.trans sd
          obtain ⟨v15a, v15b, v15c, v15d⟩ := v15.cells
          obtain ⟨v6a, v6b, v6c, v6d⟩ := v6.cells
          go_wp2_with fail
          clear v15a v15b v15c v15d v6a v6b v6c v6d
          refine (eqMatrix_any _ _ _ _ _ v15.isMat v6.isMat).mono ?_; rintro e w36 ⟨rfl, q36⟩
          rw [E.out]
          replace i10 := i10.below q36
          replace bx10 := bx10.step q36
          replace sc := sc.step q36
          obtain ⟨xa, xb, xc, xd⟩ := bx10.cells4
          go_wp2_with fail
          clear xa xb xc xd
          refine (heldMatrix_any _ ⟨(addMF a b).1.p, (addMF a b).1.r, (addMF a b).1.c, marked 1 (addMF a b).1.d.length⟩ 1 _ i10 (by have := N.out; simp [marked_len]; omega) (by (first | omega | (simp; done) | (simp; omega))) (by (first | omega | (simp; done) | (simp; omega)))).mono ?_; rintro e w37 ⟨rfl, q37⟩
          rw [show heldF (marked 1 (addMF a b).1.d.length) 1 = 1 + (addMF a b).1.d.length from heldF_marked _ _]
          replace sc := sc.step q37
          go_wp2_with fail
          go_ret
          exact ⟨rfl, H0.out.trans (sc.below.mono (by omega))⟩
    · have z1 : szF a.d.length 1048576 = 1048576 - a.d.length := by unfold szF; rw [if_neg (by omega)]
      have z2 : szF b.d.length (1048576 - a.d.length) = -1 := by unfold szF; rw [if_pos (by omega)]
      have Z := hid (And.intro z1 z2); clear z1 z2
      go_enter Try.func5, Try.ntmps5
      go_upto_region 1 with fail
      rw [← HW.out]
      go_wp2_with fail
      refine (szMatrix_any _ a 1048576 _ (HA.out _ S0) (by omega) (by omega)).mono ?_; rintro e w1 ⟨rfl, c1⟩
      rw [Z.out.1]
      have s1 := S0.step c1
      go_wp2_with fail
      refine (szMatrix_any _ b (1048576 - a.d.length) _ (HB.out _ s1) (by omega) (by omega)).mono ?_; rintro e w2 ⟨rfl, c2⟩
      rw [Z.out.2]
      have s2 := s1.step c2
      go_wp2_with fail
      go_ret
      exact ⟨rfl, H0.out.trans (s2.below.mono H0.out.size)⟩
  · have z1 : szF a.d.length 1048576 = -1 := by unfold szF; rw [if_pos (by omega)]
    have Z := hid z1; clear z1
    go_enter Try.func5, Try.ntmps5
    go_upto_region 1 with fail
    rw [← HW.out]
    go_wp2_with fail
    refine (szMatrix_any _ a 1048576 _ (HA.out _ S0) (by omega) (by omega)).mono ?_; rintro e w1 ⟨rfl, c1⟩
    rw [Z.out]
    have s1 := S0.step c1
    go_wp2_with fail
    go_ret
    exact ⟨rfl, H0.out.trans (s1.below.mono H0.out.size)⟩

end Go.Proofs.Ytiapoopcicjldaa
