/-
  Further functions of the library at this seat's program: that it bears what their contracts ask (printed by a program out of the library's own command).
-/
import Derived.Test.YtgelkakjmbiibaaGreatDoorLay
import Derived.Shelf.Strings.Search3
import Derived.Shelf.Slices.Reverse
import Derived.Shelf.Spec.SlicesInsertGrow
import Derived.Test.YtgelkakjmbiibaaGreatDoorZ12
import Derived.Shelf.Bits.Mul64
import Derived.Laws.CopyRow
namespace Go.Proofs
set_option linter.unusedVariables false
set_option linter.unusedSimpArgs false
open Go.Shelf
def Tryz.l112_ren : Go.Shelf.Ren := ⟨fun | 112 => 77 | n => n, fun | 28 => 22 | 3 => 3 | 4 => 4 | 0 => 0 | n => n, fun | n => n⟩
theorem Tryz.l112 : Go.Proofs.Lays.n112 Tryz.prog Tryz.l112_ren := {
  mixed := by kernel_rfl,
  f112 := Tryz.func77.trans (congrArg some (by kernel_rfl)),
  t0 := Tryz.underlying0,
  a0 := Tryz.isAgg0,
  z0 := Tryz.sizeOf0,
  v0 := Tryz.zeroValue0,
  t3 := Tryz.underlying3,
  a3 := Tryz.isAgg3,
  z3 := Tryz.sizeOf3,
  v3 := Tryz.zeroValue3,
  t4 := Tryz.underlying4,
  a4 := Tryz.isAgg4,
  z4 := Tryz.sizeOf4,
  v4 := Tryz.zeroValue4,
  t28 := Tryz.underlying22,
  a28 := Tryz.isAgg22,
  z28 := Tryz.sizeOf22,
  v28 := Tryz.zeroValue22 }
end Go.Proofs

namespace Go.Proofs.YtgelkakjmbiibaaGreatDoor
set_option linter.unusedVariables false
set_option linter.unusedSimpArgs false
open Go.RowKit
section
variable {P : Program} {n : Nat} {env : List (Nat × Value)} {W : World} {own : List Asn} {o : Oper}
theorem put_row {w : World} {i e sz m q : Nat} {v : Value} {cs us : List Value} (hs : St W w own) (hi : own[i]? = some (row e sz v m cs)) (hm : 0 < m) (hq : q + us.length ≤ m * sz) :
    ∃ g cap cur, v = .slice (some ⟨g, 0, none⟩) m cap ∧ w.heap[g]? = some (.cells cur e (0, 0)) ∧ q + us.length ≤ cur.size ∧ St W (w.setRow g (cur.toList.take q ++ us ++ cur.toList.drop (q + us.length)).toArray) (own.set i (row e sz v m (cs.take q ++ us ++ cs.drop (q + us.length)))) := by
  obtain ⟨F1, ⟨f0, f1⟩, f2, f3⟩ := hs.upd hi
  rcases f0 with ⟨h, _⟩ | ⟨h0, g, cap, cur, rfl, hb, hg, hnc, hmm, hsz, ht⟩
  · omega
  · have hsz' : m * sz ≤ cur.size := by
      have := Nat.mul_le_mul_right sz hnc
      omega
    have hcl : cs.length = m * sz := h0
    have hlen : (cur.toList.take q ++ us ++ cur.toList.drop (q + us.length)).length = cur.size := by simp; omega
    refine ⟨g, cap, cur, rfl, hg, by omega, f3 _ _ (fun k => k = g) rfl rfl rfl (by simp) ⟨.inr ⟨by simp; omega, g, cap, _, rfl, hb, setRow_heap w g _ _ e _ hg, hnc, hmm, by simpa using hlen.trans hsz, ?_⟩, fun k => by simp [Value.ownBlock, eq_comm]⟩ (fun k _ hk => setRow_other w g k _ fun e => hk ((f1 k).2 (by simp [Value.ownBlock, e]))) fun k hk => ?_⟩
    · have e1 : (cur.toList.take q ++ us ++ cur.toList.drop (q + us.length)).take (m * sz) = cs.take q ++ us ++ cs.drop (q + us.length) := by
        rw [← ht, List.take_append, List.take_append]
        simp only [List.take_take, List.length_append, List.length_take, Array.length_toList, Nat.min_eq_right (show q ≤ m * sz by omega), Nat.min_eq_left (show q ≤ m * sz by omega), Nat.min_eq_left (show q ≤ cur.size by omega), List.drop_take]
        rw [List.take_of_length_le (show us.length ≤ m * sz - q by omega)]
      simpa using e1
    · subst hk
      have hF := (f1 k).2 (by simp [Value.ownBlock])
      exact ⟨.inl hF, by have := f2 _ hF; simpa using this⟩
theorem OD.copyInts {c : Call} {t : TypeId} {e i l h : Nat} {x y : Operand} {v vy : Value} {xs ys : List Int} (hop : o.op = .call c) (hc : c = { callee := .builtin .copy, args := #[x, y], argTypes := #[t, t] }) (et : ET P t e 1 8 (.int .i64 0))
    (hx : ∀ g cap, v = .slice (some ⟨g, 0, none⟩) xs.length cap → ∃ cap', ev env x = some (.slice (some ⟨g, l, none⟩) (h - l) cap')) (hi : own[i]? = some (ints e v xs)) (hlh : l < h ∧ h ≤ xs.length) (hy : ev env y = some vy) (hv : Ent own fun w => Ints w vy ys) (hys : 0 < ys.length) :
    OD P o n env W own (.int .i64 ((Min.min ys.length (h - l) : Nat) : Int)) (own.set i (ints e v (xs.take l ++ ys.take (Min.min ys.length (h - l)) ++ xs.drop (l + Min.min ys.length (h - l))))) := fun a w next Q hf hs hk => by
  obtain ⟨_, ao, cap2, rfl, h1, h2, h3, h4⟩ := hv W w hs
  obtain ⟨b, off, rfl, hb, hcell⟩ := h4 hys
  have hkk : ((ys.take (Min.min ys.length (h - l))).map (Value.int .i64)).length = Min.min ys.length (h - l) := by simp
  obtain ⟨g, cap, cur, rfl, hg, hfit, hst⟩ := put_row (q := l) (us := (ys.take (Min.min ys.length (h - l))).map (Value.int .i64)) hs hi (by omega) (by rw [hkk]; omega)
  obtain ⟨cap', hxx⟩ := hx g cap rfl
  obtain ⟨inf, hinf, hz0, hz1, hz2⟩ := info_parts et.hi
  have hr0 := run_copy_row (P := P) w t t o.type e g l (h - l) cap' ⟨b, off, none⟩ ys.length cap2 cur e ((ys.take (Min.min ys.length (h - l))).map (Value.int .i64)) et.ht (by rw [hinf]; simp [hz1]) hg (by rw [hkk]) (fun j u hj => by
      have hjl : j < Min.min ys.length (h - l) := by have := (List.getElem?_eq_some_iff.1 hj).1; rw [hkk] at this; exact this
      have := hcell j (by omega)
      rw [Addr.add_lit, this]
      rw [List.getElem?_map, List.getElem?_take_of_lt hjl] at hj
      have hjy : j < ys.length := by omega
      rw [List.getElem?_eq_getElem hjy] at hj
      simp only [Option.map_some, Option.some.injEq] at hj
      simp [List.getD, hjy, ← hj]) hfit (fun u hu => by
      obtain ⟨q, _, rfl⟩ := List.mem_map.1 hu
      rfl)
  rw [hkk] at hr0
  have hr : (execOp a.eval o).run P w = .ok (.value (.int .i64 ((Min.min ys.length (h - l) : Nat) : Int))) (w.setRow g (cur.toList.take l ++ (ys.take (Min.min ys.length (h - l))).map (Value.int .i64) ++ cur.toList.drop (l + Min.min ys.length (h - l))).toArray) := by
    subst hc
    simp only [execOp, hop, resolve, invoke, builtin, hf.ev hxx, hf.ev hy]
    simpa [hf.ev hxx, hf.ev hy, goInt] using run_val hr0
  unfold Oper.wp
  rw [hr]
  rw [hkk] at hst
  refine hk _ _ _ ⟨rfl, rfl⟩ ?_
  have e1 : ints e (.slice (some ⟨g, 0, none⟩) xs.length cap) (xs.take l ++ ys.take (Min.min ys.length (h - l)) ++ xs.drop (l + Min.min ys.length (h - l))) = row e 1 (.slice (some ⟨g, 0, none⟩) xs.length cap) xs.length ((xs.map (Value.int .i64)).take l ++ (ys.take (Min.min ys.length (h - l))).map (Value.int .i64) ++ (xs.map (Value.int .i64)).drop (l + Min.min ys.length (h - l))) := by
    unfold ints
    congr 1
    · simp
      omega
    · simp [List.map_take, List.map_drop]
  rw [e1]
  exact hst
theorem copy_whole {v : Value} {x : Operand} {m : Nat} (hx : ev env x = some v) : ∀ g cap, v = .slice (some ⟨g, 0, none⟩) m cap → ∃ cap', ev env x = some (.slice (some ⟨g, 0, none⟩) (m - 0) cap') := fun g cap hv => ⟨cap, by rw [hx, hv]; rfl⟩
theorem copy_part {v : Value} {x : Operand} {m l : Nat} (hx : ev env x = some (subV 1 v l m)) (hl : l < m) (hm : ∀ ao cap, v = .slice ao m cap → m ≤ cap) : ∀ g cap, v = .slice (some ⟨g, 0, none⟩) m cap → ∃ cap', ev env x = some (.slice (some ⟨g, l, none⟩) (m - l) cap') := fun g cap hv => by
  have := hm _ _ hv
  refine ⟨cap - l, ?_⟩
  rw [hx, hv]
  simp only [subV]
  rw [if_neg (by omega)]
  simp only [Option.map_some, Addr.add, Nat.mul_one]
  split <;> simp_all
theorem row_cap {i e : Nat} {v : Value} {xs : List Int} (h : own[i]? = some (ints e v xs)) : Ent own fun _ => ∀ ao cap, v = .slice ao xs.length cap → xs.length ≤ cap := fun W w hs ao cap hv => by
  obtain ⟨_, ao', cap', e', h1, _⟩ := Ent.ints h W w hs
  rw [hv] at e'
  simp only [Value.slice.injEq] at e'
  omega
end
theorem mul_w {W : World} {own : List Asn} {x y : Nat} (hx : x ≤ 9223372036854775807) (hy : y ≤ 9223372036854775807) (hxy : x * y ≤ 9223372036854775807) : Spec Tryz.prog 166 [.int .u64 (x : Int), .int .u64 (y : Int)] W own fun v ow => v = .tuple #[.int .u64 0, .int .u64 ((x * y : Nat) : Int)] ∧ ow = own :=
  Spec.same fun w _ => (Any.bits_Mul (P := Tryz.prog) (ρ := Tryz.l212_ren) Tryz.l212 x y (by omega) (by omega) w).mono fun e w' ⟨he, hw⟩ => by
    refine ⟨?_, hw.symm⟩
    rw [he, Nat.div_eq_of_lt (by omega), Nat.mod_eq_of_lt (by omega)]
    rfl
theorem put_row_eq {w : World} {g e n : Nat} {cur : Array Value} {R : List Int} (hg : w.heap[g]? = some (.cells cur e (0, 0))) (hR : R.length ≤ cur.size) :
    Sort.putRow (Value.int .i64) (Sort.ahead w n) g 0 R.toArray = (w.setRow g (cur.toList.take 0 ++ R.map (Value.int .i64) ++ cur.toList.drop (0 + (R.map (Value.int .i64)).length)).toArray).drewN n := by
  unfold Sort.putRow Sort.mapBlock Sort.ahead World.setRow World.drewN
  simp only
  congr 1
  apply Array.ext_getElem?
  intro i
  rw [Array.getElem?_modify, Array.getElem?_modify]
  by_cases hi : g = i
  · subst hi
    rw [if_pos rfl, if_pos rfl, hg]
    simp only [Option.map_some, Sort.onCells]
    congr 2
    apply Array.ext_getElem?
    intro k
    simp only [Sort.putCells, Array.getElem?_mapIdx, List.take_zero, List.nil_append, Nat.zero_add, List.length_map, List.getElem?_toArray, Nat.zero_le, true_and, Nat.sub_zero, List.size_toArray]
    by_cases hk : k < R.length
    · rw [List.getElem?_append_left (by simpa using hk), List.getElem?_map, List.getElem?_eq_getElem hk, Array.getElem?_eq_getElem (by omega : k < cur.size)]
      simp [hk]
    · rw [List.getElem?_append_right (by simpa using Nat.le_of_not_lt hk), List.length_map, List.getElem?_drop, show R.length + (k - R.length) = k by omega, Array.getElem?_toList]
      cases hc : cur[k]? with
      | none => rfl
      | some c => simp [hk]
  · rw [if_neg hi, if_neg hi]
theorem holds_of {w : World} {g e : Nat} {cur : Array Value} {x : List Int} (hg : w.heap[g]? = some (.cells cur e (0, 0))) (hc : ∀ k, k < x.length → w.cell? ⟨g, 0 + k, none⟩ = some ((x.map (Value.int .i64)).getD k undef)) : Sort.Holds (Value.int .i64) w g 0 x.toArray := fun j hj => by
  have hj' : j < x.length := by simpa using hj
  refine ⟨?_, by simp [World.frozen?, hg]⟩
  rw [hc j hj', getElem!_pos _ j hj]
  simp [List.getD, hj']
theorem reverse_w {W : World} {own : List Asn} {vx : Value} {x : List Int} (sx : IsS vx) (hl : x.length ≤ 1073741824) : Spec Tryz.prog 77 [vx] W (ints 3 vx x :: own) fun v ow => v = .tuple #[] ∧ ow = ints 3 vx x.reverse :: own := fun w hs => by
  have hE := Ent.ints (i := 0) (own := ints 3 vx x :: own) rfl W w hs
  cases x with
  | nil =>
    obtain ⟨_, ao, cap, rfl, _⟩ := hE
    exact (Any.slices_Reverse_int_empty Tryz.l112 ao cap w).mono fun e w' ⟨he, hw⟩ => ⟨_, _, he, ⟨rfl, rfl⟩, by rw [hw]; exact hs⟩
  | cons a t =>
    obtain ⟨g, cap, cur, rfl, hg, hfit, hst⟩ := put_row (q := 0) (i := 0) (us := (a :: t).reverse.map (Value.int .i64)) hs rfl (by simp) (by simp)
    obtain ⟨_, ao, cap2, e1, _, _, _, h4⟩ := hE
    obtain ⟨b, off, rfl, hb, hc⟩ := h4 (by simp)
    simp only [Value.slice.injEq, Option.some.injEq, Addr.mk.injEq] at e1
    obtain ⟨⟨rfl, rfl, _⟩, _, rfl⟩ := e1
    have hH : Sort.Holds (Value.int .i64) w g 0 (a :: t).toArray := holds_of hg fun k hk => hc k (by omega)
    refine (Any.slices_Reverse_int Tryz.l112 g 0 cap (a :: t) w hH (by omega)).mono fun e w' ⟨he, n, hw⟩ => ⟨_, _, he, ⟨rfl, rfl⟩, ?_⟩
    rw [hw, put_row_eq hg (by simpa using hfit)]
    have h2 : St W ((w.setRow g (cur.toList.take 0 ++ (a :: t).reverse.map (Value.int .i64) ++ cur.toList.drop (0 + ((a :: t).reverse.map (Value.int .i64)).length)).toArray).drewN n) _ := hst.below (below_drewN (Below.refl _ _) n)
    have e3 : (List.map (Value.int IntKind.i64) (a :: t)).drop (0 + ((a :: t).reverse.map (Value.int .i64)).length) = [] := by simp
    simp only [List.take_zero, List.nil_append, e3, List.append_nil] at h2 ⊢
    simpa [ints] using h2
end Go.Proofs.YtgelkakjmbiibaaGreatDoor
