/-
  The reference's l1Copy, l1Add and AddMatrices, by their contracts.
-/
import Derived.Test.YtbmnnbglipkidaaAdd
namespace Go.Proofs.Ytbmnnbglipkidaa
set_option linter.unusedVariables false
set_option linter.unusedSimpArgs false
open Go.RowKit
set_option maxHeartbeats 1000000 in
theorem l1Copy_any (v : Value) (m : Mat) (w : World) (h : IsMat w v m) (hs : m.d.length ≤ 1073741824) :
    Calls Try.prog 35 #[v] w fun e w' => ∃ r, e = .returned r ∧ OwnMat w' w.heap.size r m ∧ Below w.heap.size w w' := by
  obtain ⟨dv, rfl, hd⟩ := h
  obtain ⟨aoa, capa, rfl⟩ := Sl.form hd
  obtain ⟨W, hW⟩ : ∃ W, W = (w.alloc (.cells #[.int .i64 m.p, .int .i64 m.r, .int .i64 m.c, .slice aoa m.d.length capa] 41)).alloc (.cells #[.int .i64 0, .int .i64 0, .int .i64 0, .slice none 0 0] 41) := ⟨_, rfl⟩
  have hWs : W.heap.size = w.heap.size + 2 := by rw [hW]; simp
  have hb0 : Below w.heap.size w W := by rw [hW]; exact ((Below.refl w.heap.size w).alloc (Nat.le_refl _) _).alloc (by simp) _
  have x0 : Bx W w.heap.size 41 [.int .i64 m.p, .int .i64 m.r, .int .i64 m.c, .slice aoa m.d.length capa] := by rw [hW]; exact (Bx.push w _ _).alloc _
  have x1 : Bx W (w.heap.size + 1) 41 [.int .i64 0, .int .i64 0, .int .i64 0, .slice none 0 0] := by rw [hW]; exact Bx.push' _ _ _ _ (by simp)
  have HW := hid hW; clear hW
  have hda2 : ∀ w', Below (w.heap.size + 1) W w' → Ints w' (.slice aoa m.d.length capa) m.d := fun w' h => Sl.below hd (hb0.trans (h.mono (by omega)))
  have a0 : ∀ w', Below (w.heap.size + 1) W w' → w'.cell? ⟨w.heap.size, 0, none⟩ = some (.int .i64 m.p) := fun w' h => (x0.below h (by omega)).cells4.1
  have a1 : ∀ w', Below (w.heap.size + 1) W w' → w'.cell? ⟨w.heap.size, 1, none⟩ = some (.int .i64 m.r) := fun w' h => (x0.below h (by omega)).cells4.2.1
  have a2 : ∀ w', Below (w.heap.size + 1) W w' → w'.cell? ⟨w.heap.size, 2, none⟩ = some (.int .i64 m.c) := fun w' h => (x0.below h (by omega)).cells4.2.2.1
  have a3 : ∀ w', Below (w.heap.size + 1) W w' → w'.cell? ⟨w.heap.size, 3, none⟩ = some (.slice aoa m.d.length capa) := fun w' h => (x0.below h (by omega)).cells4.2.2.2
  have r0 : ∀ w', Below W.heap.size W w' → w'.cell? ⟨w.heap.size + 1, 0, none⟩ = some (.int .i64 0) := fun w' h => (x1.below h x1.lt).cells4.1
  have r1 : ∀ w', Below W.heap.size W w' → w'.cell? ⟨w.heap.size + 1, 1, none⟩ = some (.int .i64 0) := fun w' h => (x1.below h x1.lt).cells4.2.1
  have r2 : ∀ w', Below W.heap.size W w' → w'.cell? ⟨w.heap.size + 1, 2, none⟩ = some (.int .i64 0) := fun w' h => (x1.below h x1.lt).cells4.2.2.1
  have r3 : ∀ w', Below W.heap.size W w' → w'.cell? ⟨w.heap.size + 1, 3, none⟩ = some (.slice none 0 0) := fun w' h => (x1.below h x1.lt).cells4.2.2.2
  have rf : ∀ w' o, Below W.heap.size W w' → w'.frozen? ⟨w.heap.size + 1, o, none⟩ = false := fun w' o h => (x1.below h x1.lt).free o
  have HWs := hid hWs
  clear hWs x0 x1
  go_enter Try.func35, Try.ntmps35
  go_upto_region 1 with fail
  rw [← HW.out]
  go_region_held3 (fun w' => Below (w.heap.size + 1) W w')
    (first | assumption | exact (Below.refl _ _).drew | exact Below.setCell (Below.setCell (Below.setCell (Below.setCell (by assumption) (by simp) _) (by simp) _) (by simp) _) (by simp) _)
    ((go_at_call 55; refine (l1Ints_any _ _ _ (hda2 _ (by assumption)) hs).mono ?_; rintro e w1 ⟨r, rfl, hown, hbz⟩; obtain ⟨aor, capr, rfl⟩ := hown.form; have hnew : Below W.heap.size W w1 := Below.trans (Below.refl _ _).drew hbz; have hnew2 : Below (w.heap.size + 1) W w1 := hnew.mono (by have := HWs.out; omega)))
  go_wp2_with fail
  refine bodyPost_ret (v := .agg #[.int .i64 m.p, .int .i64 m.r, .int .i64 m.c, .slice aor m.d.length capr]) (by simp [results, Try.results35, go_sem, r0 _ hnew, r1 _ hnew, r2 _ hnew, r3 _ hnew]) rfl ?_
  have hsz := HWs.out
  refine ⟨_, rfl, ⟨_, rfl, ?_⟩, Below.setCell (Below.setCell (Below.setCell (Below.setCell (hb0.trans (hnew.mono (by omega))) (by simp) _) (by simp) _) (by simp) _) (by simp) _⟩
  exact ((((hown.setB (by simp; omega)).setB (by simp; omega)).setB (by simp; omega)).setB (by simp; omega)).mono (by simp; omega)
set_option maxRecDepth 100000 in
set_option maxHeartbeats 1000000 in
theorem l1Add_any (va vb : Value) (a b : Mat) (w : World) (ha : IsMat w va a) (hb : IsMat w vb b) (sa : Small a) (sb : Small b) (hl : b.d.length = a.d.length) :
    Calls Try.prog 39 #[va, vb] w fun e w' => ∃ r, e = .returned r ∧ OwnMat w' w.heap.size r (plusF a 1 b) ∧ Below w.heap.size w w' := by
  obtain ⟨da, rfl, hda⟩ := ha
  obtain ⟨db, rfl, hdb⟩ := hb
  obtain ⟨aoa, capa, rfl⟩ := Sl.form hda
  obtain ⟨aob, capb, rfl⟩ := Sl.form hdb
  obtain ⟨p0, p1, la, ea⟩ := sa
  obtain ⟨_, _, lb, eb⟩ := sb
  obtain ⟨W, hW, F⟩ := W2F.mk' w a (.slice aoa a.d.length capa) b (.slice aob b.d.length capb)
  have HW := hid hW; clear hW
  have hA : ∀ w', Below W.heap.size W w' → IsMat w' (.agg #[.int .i64 a.p, .int .i64 a.r, .int .i64 a.c, .slice aoa a.d.length capa]) a := fun w' h => ⟨_, rfl, Sl.below hda (F.below.trans (h.mono F.below.size))⟩
  have a0 : ∀ w', Below W.heap.size W w' → w'.cell? ⟨w.heap.size, 0, none⟩ = some (.int .i64 a.p) := fun w' h => (F.a.below h F.a.lt).cells4.1
  have a1 : ∀ w', Below W.heap.size W w' → w'.cell? ⟨w.heap.size, 1, none⟩ = some (.int .i64 a.r) := fun w' h => (F.a.below h F.a.lt).cells4.2.1
  have a2 : ∀ w', Below W.heap.size W w' → w'.cell? ⟨w.heap.size, 2, none⟩ = some (.int .i64 a.c) := fun w' h => (F.a.below h F.a.lt).cells4.2.2.1
  have a3 : ∀ w', Below W.heap.size W w' → w'.cell? ⟨w.heap.size, 3, none⟩ = some (.slice aoa a.d.length capa) := fun w' h => (F.a.below h F.a.lt).cells4.2.2.2
  have b0 : ∀ w', Below W.heap.size W w' → w'.cell? ⟨w.heap.size + 1, 0, none⟩ = some (.int .i64 b.p) := fun w' h => (F.b.below h F.b.lt).cells4.1
  have b1 : ∀ w', Below W.heap.size W w' → w'.cell? ⟨w.heap.size + 1, 1, none⟩ = some (.int .i64 b.r) := fun w' h => (F.b.below h F.b.lt).cells4.2.1
  have b2 : ∀ w', Below W.heap.size W w' → w'.cell? ⟨w.heap.size + 1, 2, none⟩ = some (.int .i64 b.c) := fun w' h => (F.b.below h F.b.lt).cells4.2.2.1
  have b3 : ∀ w', Below W.heap.size W w' → w'.cell? ⟨w.heap.size + 1, 3, none⟩ = some (.slice aob b.d.length capb) := fun w' h => (F.b.below h F.b.lt).cells4.2.2.2
  have r0 : ∀ w', Below W.heap.size W w' → w'.cell? ⟨w.heap.size + 1 + 1, 0, none⟩ = some (.int .i64 0) := fun w' h => (F.r.below h F.r.lt).cells4.1
  have r1 : ∀ w', Below W.heap.size W w' → w'.cell? ⟨w.heap.size + 1 + 1, 1, none⟩ = some (.int .i64 0) := fun w' h => (F.r.below h F.r.lt).cells4.2.1
  have r2 : ∀ w', Below W.heap.size W w' → w'.cell? ⟨w.heap.size + 1 + 1, 2, none⟩ = some (.int .i64 0) := fun w' h => (F.r.below h F.r.lt).cells4.2.2.1
  have r3 : ∀ w', Below W.heap.size W w' → w'.cell? ⟨w.heap.size + 1 + 1, 3, none⟩ = some (.slice none 0 0) := fun w' h => (F.r.below h F.r.lt).cells4.2.2.2
  have rf : ∀ w' o, Below W.heap.size W w' → w'.frozen? ⟨w.heap.size + 1 + 1, o, none⟩ = false := fun w' o h => (F.r.below h F.r.lt).free o
  have HE := hid (And.intro ea eb)
  have HL := hid hl
  clear ea eb hl
  have hbc : Below W.heap.size W W := Below.refl _ _
  go_enter Try.func39, Try.ntmps39
  go_upto_region 1 with fail
  rw [← HW.out]
  go_wp2_with fail
  refine (l1Copy_any _ a _ (hA _ hbc) la).mono ?_; rintro e w1 ⟨r, rfl, hr, hb1⟩
  obtain ⟨dv, rfl, hO⟩ := hr
  obtain ⟨aor, capr, rfl⟩ := hO.form
  have HO := hid hO; clear hO
  have HA := hid hA; clear hA
  go_wp2_with fail
  have hs1 := hb1.size
  have hFs := F.size
  have xg : Bx (w1.alloc (.cells #[.int .i64 a.p, .int .i64 a.r, .int .i64 a.c, .slice aor a.d.length capr] 41)) w1.heap.size 41 [.int .i64 a.p, .int .i64 a.r, .int .i64 a.c, .slice aor a.d.length capr] := Bx.push _ _ _
  have hO1 := Own.below HO.out (Below.allocs (.cells #[.int .i64 a.p, .int .i64 a.r, .int .i64 a.c, .slice aor a.d.length capr] 41))
  have hne := HO.out.ne (g := w1.heap.size) (.inr (Nat.le_refl _))
  have hb2 : Below W.heap.size W (w1.alloc (.cells #[.int .i64 a.p, .int .i64 a.r, .int .i64 a.c, .slice aor a.d.length capr] 41)) := hb1.alloc hs1 _
  have X := hid (And.intro xg (And.intro hO1 (And.intro hne hb2)))
  obtain ⟨g, hg⟩ : ∃ g, g = w1.heap.size := ⟨_, rfl⟩
  obtain ⟨n, hn⟩ : ∃ n, n = a.d.length := ⟨_, rfl⟩
  have hgW : W.heap.size ≤ g := by omega
  rw [← hg, ← hn] at X ⊢
  rw [← hn] at a3 la
  have HN := hid (And.intro hg (And.intro hn HL.out))
  obtain ⟨adb, hlb, hib, hcb, hbb⟩ := hdb.facts etI
  have HI := hid (And.intro hib (And.intro hcb hbb))
  have hbl : b.d.length = n := HN.out.2.2.trans HN.out.2.1.symm
  rw [hbl] at lb hlb hib hcb hbb b3
  have hdb' : ∀ w', Below W.heap.size W w' → ∀ k, k < n → w'.cell? (adb k) = some (.int .i64 (b.d.getD k 0)) := fun w' h k hk => ((F.below.trans (h.mono F.below.size)).cell (hbb k hk)).trans (hcb k hk)
  have HFs := hid hFs
  clear HO HA hO1 hne hb2 hs1 xg hbl hcb hg hn HL hbb hFs
  go_loopw [6] (fun i wr => ∃ k : Nat, k ≤ n ∧ i = .int .i64 k ∧ Own wr W.heap.size 3 1 (.slice aor n capr) n ((addF 1 a.p a.d (b.d.take k)).map (Value.int .i64)) ∧ Bx wr g 41 [.int .i64 a.p, .int .i64 a.r, .int .i64 a.c, .slice aor n capr] ∧ Below W.heap.size W wr) (fun i _ => n - (intOf i).toNat)
  case atStart =>
    refine ⟨0, by omega, rfl, ?_, X.out.1, X.out.2.2.2⟩
    have := X.out.2.1
    simpa [addF_nil] using this
  case round =>
    obtain ⟨k, hk, rfl, hO, hX, hB⟩ := hrel
    obtain ⟨x0, x1, x2, x3⟩ := hX.cells4
    by_cases hlt : k < n
    · obtain ⟨ad', hi', hc', hf', hb', hst⟩ := hO.store etI (by omega)
      have hstep := addF_step 1 a.p a.d b.d k (by have := HN.out; omega) (by have := HN.out; omega)
      have q0 := hc' k hlt
      rw [getD_map_int _ _ (by rw [addF_len]; have := HN.out; omega), hstep.1] at q0
      have q1 := hf' k hlt
      have q2 := hst k (.int .i64 ((a.d.getD k 0 + 1 * b.d.getD k 0) % a.p)) hlt
      rw [← List.map_set, hstep.2, Int.one_mul] at q2
      have gb := hdb' wr hB k hlt
      have hX1 := HE.out.1 (a.d.getD k 0) (by simp [List.getD, show k < a.d.length by have := HN.out; omega])
      have hY1 := HE.out.2 (b.d.getD k 0) (by simp [List.getD, show k < b.d.length by have := HN.out; omega])
      have Q := hid (And.intro q2 (And.intro hX (And.intro hB hb')))
      clear hstep hst hc' hf' q2 hX hO hb' hdb'
      generalize a.d.getD k 0 = X' at q0 Q hX1
      generalize b.d.getD k 0 = Y' at gb Q hY1
      obtain ⟨m0, m1⟩ := hX1
      obtain ⟨m2, m3⟩ := hY1
      have w1e : IntKind.i64.wrap (X' + Y') = X' + Y' := IntWalk.i64_in _ (by omega)
      have w2e : (X' + Y').tmod a.p = (X' + Y') % a.p := Int.tmod_eq_emod_of_nonneg (by omega)
      have r0e : 0 ≤ (X' + Y') % a.p := Int.emod_nonneg _ (by omega)
      have r1e : (X' + Y') % a.p < a.p := Int.emod_lt_of_pos _ (by omega)
      have w3e : IntKind.i64.wrap ((X' + Y') % a.p) = (X' + Y') % a.p := IntWalk.i64_in _ (by omega)
      have pne : (a.p == 0) = false := by rw [beq_eq_false_iff_ne]; omega
      have pne' : a.p ≠ 0 := by omega
      go_wp2
      refine wp_region_still_tail 18 (by kernel_rfl) (by kernel_rfl) ?_
      simp only [List.take_succ_cons, List.take_zero, List.drop_succ_cons, List.drop_zero]
      change wpStill _ _ (World.drew wr) _ _ _
      repeat still_step
      refine wpStill_nil ?_
      change wpList _ _ _ _ _ wr.drew
      go_wp2
      go_roundw
      case rel =>
        refine ⟨k + 1, by omega, by go_num, Q.out.1.1, ?_, (Q.out.2.2.1.setCell (Q.out.2.2.2 k) _).drew⟩
        refine Bx.grown Q.out.2.1 (row := (Value.slice aor n capr).ownBlock) ?_ X.out.2.2.1
        exact ⟨Q.out.1.2.os, Q.out.1.2.tape, Q.out.1.2.output, Q.out.1.2.size, Q.out.1.2.block⟩
      case measure => simp [intOf]; omega
    · have hkn := hid (show k = n by omega)
      have Q := hid (And.intro hO hB)
      clear hO
      go_wp2
      refine bodyPost_ret (v := .agg #[.int .i64 a.p, .int .i64 a.r, .int .i64 a.c, .slice aor n capr]) (by simp [results, Try.results39, go_sem, r0 _ hB, r1 _ hB, r2 _ hB, r3 _ hB]) rfl ?_
      have hO' := Q.out.1
      rw [hkn.out, List.take_of_length_le (by have := HN.out; omega)] at hO'
      have hlen : (plusF a 1 b).d.length = n := by simp [plusF, addF_len, HN.out.2.1]
      have hFs := F.size
      refine ⟨_, rfl, ⟨_, rfl, ?_⟩, Below.setCell (Below.setCell (Below.setCell (Below.setCell (F.below.trans (hB.mono (by omega))) (by simp; omega) _) (by simp; omega) _) (by simp; omega) _) (by simp; omega) _⟩
      have hI : OwnI wr W.heap.size 3 (.slice aor n capr) (plusF a 1 b).d := by unfold OwnI; rw [hlen]; exact hO'
      exact ((((hI.setB (by simp; omega)).setB (by simp; omega)).setB (by simp; omega)).setB (by simp; omega)).mono (by omega)
end Go.Proofs.Ytbmnnbglipkidaa
