/-
  Further laws of operations in the words of XSep: the least of two, fields of elements, stores of structs into elements.
-/
import Derived.Test.YtgelkakjmbiibaaGreatDoorZ23
import Derived.Lib.FrozenHead
import Derived.Test.YtgelkakjmbiibaaGreatDoorRts
import Derived.Test.YtgelkakjmbiibaaGreatDoorZ14
import Derived.Test.YtgelkakjmbiibaaGreatDoorZ20
import Derived.Shelf.Bits.Mul64
import Derived.Laws.CopyRow
import Derived.Shelf.Strings.Search3
import Derived.Shelf.Slices.Reverse
import Derived.Shelf.Spec.SlicesInsertGrow
namespace Go.Proofs.YtgelkakjmbiibaaGreatDoor
set_option linter.unusedVariables false
set_option linter.unusedSimpArgs false
open Go.RowKit
section
variable {P : Program} {n : Nat} {env : List (Nat × Value)} {W : World} {own : List Asn} {o : Oper}
theorem OD.min {c : Call} {x y : Operand} {k : IntKind} {i j : Int} {ts : Array TypeId} (hop : o.op = .call c) (hc : c = { callee := .builtin .min, args := #[x, y], argTypes := ts }) (hx : ev env x = some (.int k i)) (hy : ev env y = some (.int k j)) : OD P o n env W own (.int k (Min.min i j)) own :=
  .of fun a w hf _ => by
    subst hc
    have e : (if j < i then j else i) = Min.min i j := by
      by_cases h : j < i
      · rw [if_pos h, Int.min_eq_right (by omega)]
      · rw [if_neg h, Int.min_eq_left (by omega)]
    have h := run_min_int2 (P := P) (w := w) ts o.type k k i j
    rw [e] at h
    simp only [execOp, hop, resolve, invoke, builtin, hf.ev hx, hf.ev hy]
    simpa [hf.ev hx, hf.ev hy] using run_val h
section
variable {e sz m : Nat} {x : Operand} {v u zero : Value} {cs us : List Value} {pl : List (Nat × Nat)} {j d i : Nat}
end
end
end Go.Proofs.YtgelkakjmbiibaaGreatDoor

namespace Go.Proofs.YtgelkakjmbiibaaGreatDoor
set_option linter.unusedVariables false
set_option linter.unusedSimpArgs false
open Go.RowKit
section
variable {P : Program} {n : Nat} {env : List (Nat × Value)} {W : World} {own : List Asn}
theorem Ent.len {v : Value} {m k sz : Nat} {cs : List Value} (h : Ent own fun w => Sl w v m sz cs) (e : m = k) : Ent own fun w => Sl w v k sz cs := e ▸ h
theorem AllS.part {us : List Value} (h : AllS us) (l m : Nat) : AllS ((us.drop l).take m) := fun u hu => h u (List.mem_of_mem_drop (List.mem_of_mem_take hu))
theorem AllS.app {us vs : List Value} (h : AllS us) (k : AllS vs) : AllS (us ++ vs) := fun u hu => by
  rcases List.mem_append.1 hu with hu | hu
  · exact h u hu
  · exact k u hu
theorem zipWith_zip {α : Type} (A : Value → α → Asn) : ∀ (vs : List Value) (xs : List α), List.zipWith A vs xs = (vs.zip xs).map fun p => A p.1 p.2
  | [], _ => rfl
  | _ :: _, [] => rfl
  | v :: vs, x :: xs => by simp [zipWith_zip A vs xs]
theorem St.manyPerm {w : World} {α : Type} {A : Value → α → Asn} {vs us : List Value} {xs ys : List α} (h : St W w (many A vs xs :: own)) (hp : (vs.zip xs).Perm (us.zip ys)) : St W w (many A us ys :: own) := by
  refine St.pack ?_
  have h1 := St.unpack h
  rw [zipWith_zip] at h1 ⊢
  exact h1.perm ((hp.map _).append_right _)
theorem GE.manyPerm {α : Type} {A : Value → α → Asn} {vs us : List Value} {xs ys : List α} (hp : (vs.zip xs).Perm (us.zip ys)) {e : Exit} {Q : Exit → Act → World → Prop} (h : GE e Q n env W (many A us ys :: own)) : GE e Q n env W (many A vs xs :: own) := fun a w hf hs => h a w hf (hs.manyPerm hp)
end
theorem takeD_snoc {α : Type} {L : List α} {p : Nat} {d : α} (hp : p < L.length) : L.take (p + 1) = L.take p ++ [L.getD p d] := by
  rw [List.take_succ_eq_append_getElem hp]
  simp [List.getD, hp]
theorem unitL_set {m i : Nat} (h : i < m) : (List.replicate m (0 : Int)).set i 1 = unitL m i := by
  refine ext_getD (by simp [unitL]) fun k hk => ?_
  have hk' : k < m := by simpa using hk
  have hu : (unitL m i).getD k 0 = if k = i then 1 else 0 := by simp [unitL, List.getD, hk']
  rw [hu]
  by_cases e : k = i
  · subst e
    rw [set_getD_eq (by simpa using hk'), if_pos rfl]
  · rw [set_getD_ne (fun h => e h.symm), if_neg e]
    simp [List.getD, hk']
theorem units_next {m i : Nat} : (List.range i).map (unitL m) ++ [unitL m i] = (List.range (i + 1)).map (unitL m) := by rw [List.range_succ, List.map_append]; rfl
theorem unitL_len (m i : Nat) : (unitL m i).length = m := by simp [unitL]
theorem RtOk.first {n : Int} {d : List Int} (h : RtOk n d) {i : Nat} (hi : n.toNat ≤ i) (hi2 : i ≤ n.toNat) : rC n d 40 ((List.range i).map (unitL n.toNat)) 0 = some (rFd n d) := by
  have e : i = n.toNat := by omega
  subst e
  exact h.run
theorem RtOk.inner {n : Int} {d : List Int} (h : RtOk n d) {fs gs : List (List Int)} {k i : Nat} (hpre : ∀ i, i ≤ n.toNat → Pre ((List.range i).foldl (rOne n d (fs.getD k [])) fs) (rFd n d)) (hk : k < fs.length) (hi : i ≤ n.toNat) (hg : gs = (List.range i).foldl (rOne n d (fs.getD k [])) fs) :
    k < gs.length ∧ gs.getD k [] = fs.getD k [] ∧ gs.length ≤ 30 ∧ (gs.getD k []).length = n.toNat ∧ (∀ j, 0 ≤ (gs.getD k []).getD j 0 ∧ (gs.getD k []).getD j 0 ≤ 10) ∧ (∀ j, j < gs.length → (gs.getD j []).length = n.toNat) := by
  have h1 : Pre gs (rFd n d) := by rw [hg]; exact hpre i hi
  have h2 : Pre fs gs := by rw [hg]; exact rIn_pre (i := 0) (Nat.zero_le _)
  have h3 := h2.len
  have h4 := h.fget h1 (show k < gs.length by omega)
  exact ⟨by omega, h2.get hk, Nat.le_trans h1.len h.few, h4.1, h4.2, fun j hj => (h.fget h1 hj).1⟩
theorem RtOk.arI {n : Int} {d : List Int} (h : RtOk n d) {x y : List Int} {i : Nat} (e : x = y) (hl : x.length = n.toNat) (hb : ∀ j, 0 ≤ x.getD j 0 ∧ x.getD j 0 ≤ 10) (hi : i < n.toNat) : arI n d (i : Int) x = rStep n d y i := by
  subst e
  exact arI_step h.mat (fun k _ => by have := hb k; omega) hl h.rk (by simpa using hi)
end Go.Proofs.YtgelkakjmbiibaaGreatDoor

namespace Go.Proofs.YtgelkakjmbiibaaGreatDoor
set_option linter.unusedVariables false
set_option linter.unusedSimpArgs false
open Go.RowKit
section
variable {P : Program} {n : Nat} {env : List (Nat × Value)} {W : World} {own : List Asn} {o : Oper}
theorem put_row {w : World} {i e sz m q : Nat} {v : Value} {cs us : List Value} (hs : St W w own) (hi : own[i]? = some (row e sz v m cs)) (hm : 0 < m) (hq : q + us.length ≤ m * sz) :
    ∃ g cap cur, v = .slice (some ⟨g, 0, none⟩) m cap ∧ w.heap[g]? = some (.cells cur e (0, 0)) ∧ q + us.length ≤ cur.size ∧ St W (w.setRow g (cur.toList.take q ++ us ++ cur.toList.drop (q + us.length)).toArray) (own.set i (row e sz v m (cs.take q ++ us ++ cs.drop (q + us.length)))) := by
  obtain ⟨F1, ⟨f0, f1⟩, f2, f3⟩ := hs.upd hi
  rcases f0 with ⟨h, _⟩ | ⟨h0, g, cap, cur, rfl, hb, hg, hnc, hmm, hsz, ht⟩
  · omega
  · have hsz' : m * sz ≤ cur.size := by
      have := Nat.mul_le_mul_right sz hnc
      omega
    have hcl : cs.length = m * sz := h0
    have hlen : (cur.toList.take q ++ us ++ cur.toList.drop (q + us.length)).length = cur.size := by simp; omega
    refine ⟨g, cap, cur, rfl, hg, by omega, f3 _ _ (fun k => k = g) rfl rfl rfl (by simp) ⟨.inr ⟨by simp; omega, g, cap, _, rfl, hb, setRow_heap w g _ _ e _ hg, hnc, hmm, by simpa using hlen.trans hsz, ?_⟩, fun k => by simp [Value.ownBlock, eq_comm]⟩ (fun k _ hk => setRow_other w g k _ fun e => hk ((f1 k).2 (by simp [Value.ownBlock, e]))) fun k hk => ?_⟩
    · have e1 : (cur.toList.take q ++ us ++ cur.toList.drop (q + us.length)).take (m * sz) = cs.take q ++ us ++ cs.drop (q + us.length) := by
        rw [← ht, List.take_append, List.take_append]
        simp only [List.take_take, List.length_append, List.length_take, Array.length_toList, Nat.min_eq_right (show q ≤ m * sz by omega), Nat.min_eq_left (show q ≤ m * sz by omega), Nat.min_eq_left (show q ≤ cur.size by omega), List.drop_take]
        rw [List.take_of_length_le (show us.length ≤ m * sz - q by omega)]
      simpa using e1
    · subst hk
      have hF := (f1 k).2 (by simp [Value.ownBlock])
      exact ⟨.inl hF, by have := f2 _ hF; simpa using this⟩
theorem OD.copyInts {c : Call} {t : TypeId} {e i l h : Nat} {x y : Operand} {v vy : Value} {xs ys : List Int} (hop : o.op = .call c) (hc : c = { callee := .builtin .copy, args := #[x, y], argTypes := #[t, t] }) (et : ET P t e 1 8 (.int .i64 0))
    (hx : ∀ g cap, v = .slice (some ⟨g, 0, none⟩) xs.length cap → ∃ cap', ev env x = some (.slice (some ⟨g, l, none⟩) (h - l) cap')) (hi : own[i]? = some (ints e v xs)) (hlh : l < h ∧ h ≤ xs.length) (hy : ev env y = some vy) (hv : Ent own fun w => Ints w vy ys) (hys : 0 < ys.length) :
    OD P o n env W own (.int .i64 ((Min.min ys.length (h - l) : Nat) : Int)) (own.set i (ints e v (xs.take l ++ ys.take (Min.min ys.length (h - l)) ++ xs.drop (l + Min.min ys.length (h - l))))) := fun a w next Q hf hs hk => by
  obtain ⟨_, ao, cap2, rfl, h1, h2, h3, h4⟩ := hv W w hs
  obtain ⟨b, off, rfl, hb, hcell⟩ := h4 hys
  have hkk : ((ys.take (Min.min ys.length (h - l))).map (Value.int .i64)).length = Min.min ys.length (h - l) := by simp
  obtain ⟨g, cap, cur, rfl, hg, hfit, hst⟩ := put_row (q := l) (us := (ys.take (Min.min ys.length (h - l))).map (Value.int .i64)) hs hi (by omega) (by rw [hkk]; omega)
  obtain ⟨cap', hxx⟩ := hx g cap rfl
  obtain ⟨inf, hinf, hz0, hz1, hz2⟩ := info_parts et.hi
  have hr0 := run_copy_row (P := P) w t t o.type e g l (h - l) cap' ⟨b, off, none⟩ ys.length cap2 cur e ((ys.take (Min.min ys.length (h - l))).map (Value.int .i64)) et.ht (by rw [hinf]; simp [hz1]) hg (by rw [hkk]) (fun j u hj => by
      have hjl : j < Min.min ys.length (h - l) := by have := (List.getElem?_eq_some_iff.1 hj).1; rw [hkk] at this; exact this
      have := hcell j (by omega)
      rw [Addr.add_lit, this]
      rw [List.getElem?_map, List.getElem?_take_of_lt hjl] at hj
      have hjy : j < ys.length := by omega
      rw [List.getElem?_eq_getElem hjy] at hj
      simp only [Option.map_some, Option.some.injEq] at hj
      simp [List.getD, hjy, ← hj]) hfit (fun u hu => by
      obtain ⟨q, _, rfl⟩ := List.mem_map.1 hu
      rfl)
  rw [hkk] at hr0
  have hr : (execOp a.eval o).run P w = .ok (.value (.int .i64 ((Min.min ys.length (h - l) : Nat) : Int))) (w.setRow g (cur.toList.take l ++ (ys.take (Min.min ys.length (h - l))).map (Value.int .i64) ++ cur.toList.drop (l + Min.min ys.length (h - l))).toArray) := by
    subst hc
    simp only [execOp, hop, resolve, invoke, builtin, hf.ev hxx, hf.ev hy]
    simpa [hf.ev hxx, hf.ev hy, goInt] using run_val hr0
  unfold Oper.wp
  rw [hr]
  rw [hkk] at hst
  refine hk _ _ _ ⟨rfl, rfl⟩ ?_
  have e1 : ints e (.slice (some ⟨g, 0, none⟩) xs.length cap) (xs.take l ++ ys.take (Min.min ys.length (h - l)) ++ xs.drop (l + Min.min ys.length (h - l))) = row e 1 (.slice (some ⟨g, 0, none⟩) xs.length cap) xs.length ((xs.map (Value.int .i64)).take l ++ (ys.take (Min.min ys.length (h - l))).map (Value.int .i64) ++ (xs.map (Value.int .i64)).drop (l + Min.min ys.length (h - l))) := by
    unfold ints
    congr 1
    · simp
      omega
    · simp [List.map_take, List.map_drop]
  rw [e1]
  exact hst
theorem copy_whole {v : Value} {x : Operand} {m : Nat} (hx : ev env x = some v) : ∀ g cap, v = .slice (some ⟨g, 0, none⟩) m cap → ∃ cap', ev env x = some (.slice (some ⟨g, 0, none⟩) (m - 0) cap') := fun g cap hv => ⟨cap, by rw [hx, hv]; rfl⟩
theorem copy_part {v : Value} {x : Operand} {m l : Nat} (hx : ev env x = some (subV 1 v l m)) (hl : l < m) (hm : ∀ ao cap, v = .slice ao m cap → m ≤ cap) : ∀ g cap, v = .slice (some ⟨g, 0, none⟩) m cap → ∃ cap', ev env x = some (.slice (some ⟨g, l, none⟩) (m - l) cap') := fun g cap hv => by
  have := hm _ _ hv
  refine ⟨cap - l, ?_⟩
  rw [hx, hv]
  simp only [subV]
  rw [if_neg (by omega)]
  simp only [Option.map_some, Addr.add, Nat.mul_one]
  split <;> simp_all
theorem row_cap {i e : Nat} {v : Value} {xs : List Int} (h : own[i]? = some (ints e v xs)) : Ent own fun _ => ∀ ao cap, v = .slice ao xs.length cap → xs.length ≤ cap := fun W w hs ao cap hv => by
  obtain ⟨_, ao', cap', e', h1, _⟩ := Ent.ints h W w hs
  rw [hv] at e'
  simp only [Value.slice.injEq] at e'
  omega
end
theorem mul_w {W : World} {own : List Asn} {x y : Nat} (hx : x ≤ 9223372036854775807) (hy : y ≤ 9223372036854775807) (hxy : x * y ≤ 9223372036854775807) : Spec Tryz.prog 166 [.int .u64 (x : Int), .int .u64 (y : Int)] W own fun v ow => v = .tuple #[.int .u64 0, .int .u64 ((x * y : Nat) : Int)] ∧ ow = own :=
  Spec.same fun w _ => (Any.bits_Mul (P := Tryz.prog) (ρ := Tryz.l212_ren) Tryz.l212 x y (by omega) (by omega) w).mono fun e w' ⟨he, hw⟩ => by
    refine ⟨?_, hw.symm⟩
    rw [he, Nat.div_eq_of_lt (by omega), Nat.mod_eq_of_lt (by omega)]
    rfl
end Go.Proofs.YtgelkakjmbiibaaGreatDoor
