/-
  Plain facts for the walks through the two texts that tell the parts of a matrix; no program is spoken of.
-/
import Derived.Test.YtgelkakjmbiibaaGreatDoorCarQ
import Derived.Test.YtgelkakjmbiibaaGreatDoorCartL
import Derived.Lib.FrozenHead
import Derived.Test.YtgelkakjmbiibaaGreatDoorZ21
import Derived.Shelf.Strings.Search3
import Derived.Shelf.Slices.Reverse
import Derived.Shelf.Spec.SlicesInsertGrow
import Derived.Shelf.Bits.Mul64
import Derived.Laws.CopyRow
namespace Go.Proofs.YtgelkakjmbiibaaGreatDoor
set_option linter.unusedVariables false
set_option linter.unusedSimpArgs false
def psN (o : Option (List Nat)) : List ByteArray := match o with | some ks => ks.map nameB | none => []
theorem okI_of {n : Int} {d : List Int} (h1 : inB n 1 4 = true) (h2 : (d.length : Int) = n * n) : okI n d = true := by simp [okI, h1, h2]
theorem okI_no {n : Int} {d : List Int} (h : inB n 1 4 = false ∨ (d.length : Int) ≠ n * n) : okI n d = false := by
  unfold okI
  rcases h with h | h <;> simp [h]
def tyN (o : Option (List Nat)) : ByteArray := joinP (psN o)
theorem sqr_bd {x : Int} (h : 1 ≤ x ∧ x ≤ 4) : -9223372036854775808 ≤ x * x ∧ x * x ≤ 9223372036854775807 := by
  have h1 : 0 ≤ x * x := Int.mul_nonneg (by omega) (by omega)
  have h2 : x * x ≤ 4 * 4 := Int.mul_le_mul (by omega) (by omega) (by omega) (by omega)
  omega
end Go.Proofs.YtgelkakjmbiibaaGreatDoor

namespace Go.Proofs.YtgelkakjmbiibaaGreatDoor
set_option linter.unusedVariables false
set_option linter.unusedSimpArgs false
def tyG (f : Nat) (r : Int) (i : Nat) : List (List Nat) := if r.toNat < rk i then [] else (typesF f (r.toNat - rk i) i).map (i :: ·)
theorem typesF_pos {f : Nat} {r a : Int} (h : 0 < r) : typesF (f + 1) r.toNat a.toNat = (List.range' a.toNat (12 - a.toNat)).flatMap (tyG f r) := by
  rw [typesF, if_neg (by omega)]
  rfl
theorem typesF_zero {f : Nat} {r a : Int} (h : r = 0) : typesF (f + 1) r.toNat a.toNat = [[]] := by
  rw [typesF, if_pos (by omega)]
theorem range_app {α : Type} (g : Nat → List α) (a p : Nat) : (List.range' a (p + 1)).flatMap g = (List.range' a p).flatMap g ++ g (a + p) := by
  rw [List.range'_concat, List.flatMap_append]
  simp
theorem ty_skip {f p : Nat} {r a : Int} {T : List (List Nat)} (ha : 0 ≤ a) (hT : T = (List.range' a.toNat p).flatMap (tyG f r)) (h : r < (rk (a + (p : Int)).toNat : Int)) (hr : 0 ≤ r) : T = (List.range' a.toNat (p + 1)).flatMap (tyG f r) := by
  have e : (a + (p : Int)).toNat = a.toNat + p := by omega
  rw [e] at h
  have : tyG f r (a.toNat + p) = [] := by
    unfold tyG
    rw [if_pos (by omega)]
  rw [range_app, ← hT, this, List.append_nil]
theorem ty_add {f p : Nat} {r a : Int} {T T2 : List (List Nat)} {j : Nat} (ha : 0 ≤ a) (hT : T = (List.range' a.toNat p).flatMap (tyG f r)) (h : ¬ r < (rk (a + (p : Int)).toNat : Int))
    (hT2 : T2 = T ++ ((typesF f (r - (rk (a + (p : Int)).toNat : Int)).toNat (a + (p : Int)).toNat).take j).map ((a + (p : Int)).toNat :: ·)) (hj : (typesF f (r - (rk (a + (p : Int)).toNat : Int)).toNat (a + (p : Int)).toNat).length ≤ j) :
    T2 = (List.range' a.toNat (p + 1)).flatMap (tyG f r) := by
  rw [List.take_of_length_le hj] at hT2
  have e : (a + (p : Int)).toNat = a.toNat + p := by omega
  have e2 : (r - (rk (a.toNat + p) : Int)).toNat = r.toNat - rk (a.toNat + p) := by omega
  rw [e] at h
  have : tyG f r (a.toNat + p) = (typesF f (r - (rk (a + (p : Int)).toNat : Int)).toNat (a + (p : Int)).toNat).map ((a + (p : Int)).toNat :: ·) := by
    unfold tyG
    rw [if_neg (by omega), e, e2]
  rw [range_app, ← hT, this]
  exact hT2
theorem ty_push {T2 D : List (List Nat)} {X j : Nat} (hj : j < D.length) : T2.map (·.map nameB) ++ [[nameL.getD X ⟨#[]⟩] ++ (D.map (·.map nameB)).getD j []] = (T2 ++ [X :: D.getD j []]).map (·.map nameB) := by
  rw [List.map_append]
  congr 1
  simp [List.getD, hj, nameB, nameL]
theorem ty_take {T D T2 : List (List Nat)} {X j : Nat} (hT2 : T2 = T ++ (D.take j).map (X :: ·)) (hj : j < D.length) : T2 ++ [X :: D.getD j []] = T ++ (D.take (j + 1)).map (X :: ·) := by
  have e : D.take (j + 1) = D.take j ++ [D.getD j []] := by
    rw [List.take_add_one, List.getElem?_eq_getElem hj]
    simp [List.getD, hj]
  rw [e, hT2]
  simp
set_option maxRecDepth 100000 in
theorem typesF_len : ∀ f, f < 6 → ∀ r, r < 5 → ∀ a, a < 13 → (typesF f r a).length ≤ 20 := by decide +kernel
set_option maxRecDepth 100000 in
theorem typesF_all : ∀ f, f < 6 → ∀ r, r < 5 → ∀ a, a < 13 → (typesF f r a).all (fun ks => Nat.ble ks.length 4) = true := by decide +kernel
theorem typesF_el (f : Nat) (hf : f < 6) (r : Nat) (hr : r < 5) (a : Nat) (ha : a < 13) (j : Nat) : (((typesF f r a).map (·.map nameB)).getD j []).length ≤ 4 := by
  by_cases hj : j < (typesF f r a).length
  · have h := List.all_eq_true.1 (typesF_all f hf r hr a ha) ((typesF f r a)[j]) (List.getElem_mem hj)
    have := Nat.le_of_ble_eq_true h
    simpa [List.getD, hj] using this
  · simp [List.getD, List.getElem?_eq_none (Nat.le_of_not_lt hj)]
theorem nm_rk' {a : Int} {p : Nat} (h : 0 ≤ a ∧ a + p < 12) : IntKind.u8.wrap (bAt (nameL.getD (a + (p : Int)).toNat ⟨#[]⟩) 1 - 48) = (rk (a + (p : Int)).toNat : Int) := nm_rk _ (by omega)
def tyOk (n : Nat) (ks : List Nat) : Bool := (scanL 6 [] (joinP (ks.map nameB)).data.toList == some ks) && Nat.beq (rkS ks) n && Nat.ble (joinP (ks.map nameB)).size 20 && Nat.ble ks.length 4
set_option maxRecDepth 100000 in
theorem tyOk_all : ∀ n, 1 ≤ n → n ≤ 4 → (typesF 5 n 0).all (tyOk n) = true := fun n h1 h4 => four (P := fun n => (typesF 5 n 0).all (tyOk n) = true) (by decide +kernel) (by decide +kernel) (by decide +kernel) (by decide +kernel) h1 h4
theorem ty_at {cr : Int} {ks : List Nat} (h : 1 ≤ cr ∧ cr ≤ 4) (hk : ks ∈ typesF 5 cr.toNat 0) : cF (joinP (ks.map nameB)) = some ks ∧ (rkS ks : Int) = cr ∧ (joinP (ks.map nameB)).size ≤ 20 ∧ ks.length ≤ 4 := by
  have := List.all_eq_true.1 (tyOk_all cr.toNat (by omega) (by omega)) ks hk
  simp only [tyOk, Bool.and_eq_true, beq_iff_eq] at this
  obtain ⟨⟨⟨h1, h2⟩, h3⟩, h4⟩ := this
  have e := Nat.eq_of_beq_eq_true h2
  exact ⟨h1, by omega, Nat.le_of_ble_eq_true h3, Nat.le_of_ble_eq_true h4⟩
theorem ty_mem {T : List (List Nat)} {i : Nat} (h : i < T.length) : T.getD i [] ∈ T := by
  have e : T.getD i [] = T[i] := by simp [List.getD, h]
  rw [e]
  exact List.getElem_mem h
theorem map_at {T : List (List Nat)} {i : Nat} (h : i < T.length) : (T.map (·.map nameB)).getD i [] = (T.getD i []).map nameB := by simp [List.getD, h]
theorem find_at {α : Type} {p : α → Bool} {T : List α} {i : Nat} {d : α} (h : i < T.length) (hn : (T.take i).any p = false) (hp : p (T.getD i d) = true) : T.find? p = some (T.getD i d) := by
  have e : T.getD i d = T[i] := by simp [List.getD, h]
  rw [e] at hp ⊢
  rw [List.find?_eq_some_iff_getElem]
  refine ⟨hp, i, h, rfl, fun j hj => ?_⟩
  have := List.any_eq_false.1 hn (T[j]'(by omega)) (List.mem_take_iff_getElem.2 ⟨j, by omega, rfl⟩)
  simpa using this
theorem find_no {α : Type} {p : α → Bool} {T : List α} (hn : T.any p = false) : T.find? p = none := by
  rw [List.find?_eq_none]
  exact fun x hx => by simpa using List.any_eq_false.1 hn x hx
theorem tyI_no {n : Int} {d : List Int} (h : okI n d = false) : tyI n d = none := by
  rw [tyI, h]
  rfl
theorem tyI_eq {n : Int} {d : List Int} (h : okI n d = true) : tyI n d = (typesF 5 n.toNat 0).find? fun ks => reordF n d (matOf ks).2 5 [] := by
  rw [tyI, h]
  rfl
theorem tyN_no {o : Option (List Nat)} (h : o = none) : tyN o = ⟨#[]⟩ := by
  rw [h]
  rfl
theorem tyN_at {o : Option (List Nat)} {ks : List Nat} (h : o = some ks) : tyN o = joinP (ks.map nameB) := by
  rw [h]
  rfl
def tyNe (n : Nat) (ks : List Nat) : Bool := !((joinP (ks.map nameB)).data.toList == [])
set_option maxRecDepth 100000 in
theorem tyNe_all : ∀ n, 1 ≤ n → n ≤ 4 → (typesF 5 n 0).all (tyNe n) = true := fun n h1 h4 => four (P := fun n => (typesF 5 n 0).all (tyNe n) = true) (by decide +kernel) (by decide +kernel) (by decide +kernel) (by decide +kernel) h1 h4
theorem tyN_empty (n : Int) (d : List Int) : (!strEq (tyN (tyS n d)) ⟨#[]⟩) = (tyS n d).isSome := by
  rw [tyS_tyI]
  cases h : tyI n d with
  | none =>
    simp only [strEq, toList_data]
    rfl
  | some ks =>
    have hk : ∃ m : Nat, n = m ∧ 1 ≤ m ∧ m ≤ 4 ∧ ks ∈ typesF 5 m 0 := by
      unfold tyI at h
      split at h
      · rename_i hok
        obtain ⟨m, rfl, h1, h4, _⟩ := okI_nat hok
        exact ⟨m, rfl, h1, h4, by simpa using List.mem_of_find?_eq_some h⟩
      · simp at h
    obtain ⟨m, rfl, h1, h4, hm⟩ := hk
    have := List.all_eq_true.1 (tyNe_all m h1 h4) ks hm
    simp only [tyN, psN, strEq, toList_data, Option.isSome_some]
    exact this
end Go.Proofs.YtgelkakjmbiibaaGreatDoor

namespace Go.Proofs.YtgelkakjmbiibaaGreatDoor
set_option linter.unusedVariables false
set_option linter.unusedSimpArgs false
def wtOk (n : Int) (x : List Int) : Bool := ((x.length : Int) == n) && !(x.any fun y => !(inB y (-1000) 1000))
def wdOk (n : Int) (x : List Int) : Bool := decide ((x.length : Int) ≤ 60) && !(x.any fun y => !(inB y 0 (n - 1)))
theorem wtOk_len {n : Int} {x : List Int} (h : wtOk n x = true) : (x.length : Int) = n := by
  simp only [wtOk, Bool.and_eq_true, beq_iff_eq] at h
  exact h.1
theorem wdOk_rng {n : Int} {x : List Int} (h : wdOk n x = true) : x.length ≤ 60 ∧ ∀ y ∈ x, 0 ≤ y ∧ y < n := by
  simp only [wdOk, Bool.and_eq_true, decide_eq_true_eq, Bool.not_eq_true'] at h
  refine ⟨by omega, fun y hy => ?_⟩
  have h1 := List.any_eq_false.1 h.2 y hy
  have h2 : inB y 0 (n - 1) = true := by simpa using h1
  have := inB_true h2
  omega
theorem tyS_ok {n : Int} {d : List Int} (h : (tyS n d).isSome = true) : (1 ≤ n ∧ n ≤ 4) ∧ (d.length : Int) = n * n := by
  obtain ⟨ks, hk⟩ := Option.isSome_iff_exists.1 h
  unfold tyS at hk
  split at hk
  · rename_i hok
    simp only [okI, Bool.and_eq_true, decide_eq_true_eq] at hok
    exact ⟨inB_true hok.1, hok.2⟩
  · simp at hk
def wordB (n : Int) (d x : List Int) : Bool := (tyS n d).isSome && wdOk n x
theorem wordB_ok {n : Int} {d x : List Int} (h : wordB n d x = true) : ((1 ≤ n ∧ n ≤ 4) ∧ (d.length : Int) = n * n) ∧ x.length ≤ 60 ∧ ∀ y ∈ x, 0 ≤ y ∧ y < n := by
  simp only [wordB, Bool.and_eq_true] at h
  exact ⟨tyS_ok h.1, wdOk_rng h.2⟩
def wtI (n : Int) (d x : List Int) (o : List Int) (i : Nat) : List Int := (List.range x.length).foldl (fun (o : List Int) (j : Nat) => o.set i (IntKind.i64.wrap (o.getD i 0 + IntKind.i64.wrap (atI n d i j * x.getD j 0)))) o
def wtF (n : Int) (d x : List Int) : List Int := (List.range n.toNat).foldl (wtI n d x) (List.replicate n.toNat 0)
theorem len_fold {f : List Int → Nat → List Int} (hf : ∀ o i, (f o i).length = o.length) : ∀ (l : List Nat) (o : List Int), (l.foldl f o).length = o.length
  | [], _ => rfl
  | x :: l, o => by rw [List.foldl_cons, len_fold hf l, hf]
theorem wtF_len (n : Int) (d x : List Int) : (wtF n d x).length = n.toNat := by
  unfold wtF
  rw [len_fold (f := wtI n d x) (fun o i => len_fold (fun o j => by simp) _ _), List.length_replicate]
def rfI (n : Int) (d : List Int) (i : Int) (w o : List Int) (k : Nat) : List Int := o.set k (IntKind.i64.wrap (o.getD k 0 - IntKind.i64.wrap (w.getD i.toNat 0 * atI n d k i)))
def rfF (n : Int) (d : List Int) (i : Int) (w : List Int) : List Int := (List.range w.length).foldl (rfI n d i w) w
theorem rfF_len (n : Int) (d : List Int) (i : Int) (w : List Int) : (rfF n d i w).length = w.length := len_fold (fun o k => by simp [rfI]) _ _
def actF (n : Int) (d word w : List Int) : List Int := word.foldr (fun i o => rfF n d i o) w
theorem actF_len (n : Int) (d w : List Int) : ∀ word : List Int, (actF n d word w).length = w.length
  | [] => rfl
  | i :: t => by
    unfold actF
    rw [List.foldr_cons, rfF_len]
    exact actF_len n d w t
theorem drop_getD {xs : List Int} {q : Nat} (h : q < xs.length) : xs.drop q = xs.getD q 0 :: xs.drop (q + 1) := by
  rw [List.drop_eq_getElem_cons h]
  simp [List.getD, h]
theorem actF_step {n : Int} {d word w : List Int} {q : Nat} (h : q < word.length) : actF n d (word.drop q) w = rfF n d (word.getD q 0) (actF n d (word.drop (q + 1)) w) := by
  rw [drop_getD h]
  rfl
def arI (n : Int) (d : List Int) (i : Int) (o : List Int) : List Int := o.set i.toNat (IntKind.i64.wrap (o.getD i.toNat 0 - (wtF n d o).getD i.toNat 0))
def arF (n : Int) (d word x : List Int) : List Int := word.foldr (fun i o => arI n d i o) x
theorem arF_len (n : Int) (d x : List Int) : ∀ word : List Int, (arF n d word x).length = x.length
  | [] => rfl
  | i :: t => by
    unfold arF
    rw [List.foldr_cons]
    simp only [arI, List.length_set]
    exact arF_len n d x t
theorem arF_step {n : Int} {d word x : List Int} {q : Nat} (h : q < word.length) : arF n d (word.drop q) x = arI n d (word.getD q 0) (arF n d (word.drop (q + 1)) x) := by
  rw [drop_getD h]
  rfl
theorem set_getD_ne {o : List Int} {k t : Nat} {v : Int} (h : k ≠ t) : (o.set k v).getD t 0 = o.getD t 0 := by simp [List.getD, h]
def wtOf (n : Int) (d x : List Int) : List Int := if (tyS n d).isSome && wtOk n x then wtF n d x else []
def actOf (n : Int) (d word w : List Int) : List Int := if wordB n d word && wtOk n w then actF n d word w else []
def arOf (n : Int) (d word x : List Int) : List Int := if wordB n d word && wtOk n x then arF n d word x else []
end Go.Proofs.YtgelkakjmbiibaaGreatDoor

namespace Go.Proofs.YtgelkakjmbiibaaGreatDoor
set_option linter.unusedVariables false
set_option linter.unusedSimpArgs false
abbrev lnV (n : Int) (d o : List Int) (r : Int) (j : Nat) : Int := IntKind.i64.wrap ((IntKind.i64.wrap (o.getD r.toNat 0 * atI n d r j)).tdiv (atI n d j r))
def lsJ (n : Int) (d : List Int) (r : Int) : Nat → Nat → List Int → Option (List Int)
  | 0, _, o => some o
  | m + 1, j, o => if o.getD j 0 == 0 && atI n d r j != 0 then (if atI n d j r == 0 then none else lsJ n d r m (j + 1) (o.set j (lnV n d o r j))) else lsJ n d r m (j + 1) o
def lsM (o : List Int) (r a : Int) : Int := if o.getD r.toNat 0 < a then o.getD r.toNat 0 else a
def lsK (n : Int) (d rows : List Int) : Nat → Nat → List Int → Int → Option (List Int × Int)
  | 0, _, o, a => some (o, a)
  | m + 1, k, o, a => (lsJ n d (rows.getD k 0) n.toNat 0 o).bind fun o2 => lsK n d rows m (k + 1) o2 (lsM o2 (rows.getD k 0) a)
def dvL (p : List Int) (a : Int) : Nat → Nat → List Int → Option (List Int)
  | 0, _, o => some o
  | m + 1, k, o => if a == 0 then none else dvL p a m (k + 1) (o.set (p.getD k 0).toNat (IntKind.i64.wrap ((o.getD (p.getD k 0).toNat 0).tdiv a)))
def lsO (n : Int) (d : List Int) : Nat → Nat → List Int → Option (List Int)
  | 0, _, o => some o
  | m + 1, i, o => if o.getD i 0 != 0 then lsO n d m (i + 1) o else (lsK n d (partF n d i) (partF n d i).length 0 (o.set i 6) 6).bind fun x => (dvL (partF n d i) x.2 (partF n d i).length 0 x.1).bind fun o3 => lsO n d m (i + 1) o3
def lenF (n : Int) (d : List Int) : List Int := (lsO n d n.toNat 0 (List.replicate n.toNat 0)).getD []
def lenOf (n : Int) (d : List Int) : List Int := if (tyS n d).isSome then lenF n d else []
def inF (n : Int) (d x y : List Int) : Int := (List.range x.length).foldl (fun (s : Int) (i : Nat) => IntKind.i64.wrap (s + IntKind.i64.wrap (IntKind.i64.wrap (x.getD i 0 * (lenF n d).getD i 0) * (wtF n d y).getD i 0))) 0
end Go.Proofs.YtgelkakjmbiibaaGreatDoor

namespace Go.Proofs.YtgelkakjmbiibaaGreatDoor
set_option linter.unusedVariables false
set_option linter.unusedSimpArgs false
theorem cd_small {n : Int} {d : List Int} (h : (tyS n d).isSome = true) : d.length ≤ 16 := by
  obtain ⟨h1, h2⟩ := tyS_ok h
  rcases (by omega : n = 1 ∨ n = 2 ∨ n = 3 ∨ n = 4) with rfl | rfl | rfl | rfl <;> omega
end Go.Proofs.YtgelkakjmbiibaaGreatDoor

namespace Go.Proofs.YtgelkakjmbiibaaGreatDoor
set_option linter.unusedVariables false
set_option linter.unusedSimpArgs false
open Go.RowKit
section
variable {P : Program} {n : Nat} {env : List (Nat × Value)} {W : World} {own : List Asn} {o : Oper}
theorem OD.min {c : Call} {x y : Operand} {k : IntKind} {i j : Int} {ts : Array TypeId} (hop : o.op = .call c) (hc : c = { callee := .builtin .min, args := #[x, y], argTypes := ts }) (hx : ev env x = some (.int k i)) (hy : ev env y = some (.int k j)) : OD P o n env W own (.int k (Min.min i j)) own :=
  .of fun a w hf _ => by
    subst hc
    have e : (if j < i then j else i) = Min.min i j := by
      by_cases h : j < i
      · rw [if_pos h, Int.min_eq_right (by omega)]
      · rw [if_neg h, Int.min_eq_left (by omega)]
    have h := run_min_int2 (P := P) (w := w) ts o.type k k i j
    rw [e] at h
    simp only [execOp, hop, resolve, invoke, builtin, hf.ev hx, hf.ev hy]
    simpa [hf.ev hx, hf.ev hy] using run_val h
section
variable {e sz m : Nat} {x : Operand} {v u zero : Value} {cs us : List Value} {pl : List (Nat × Nat)} {j d i : Nat}
end
end
end Go.Proofs.YtgelkakjmbiibaaGreatDoor

namespace Go.Proofs
set_option linter.unusedVariables false
set_option linter.unusedSimpArgs false
open Go.Shelf
def Tryz.l112_ren : Go.Shelf.Ren := ⟨fun | 112 => 77 | n => n, fun | 28 => 22 | 3 => 3 | 4 => 4 | 0 => 0 | n => n, fun | n => n⟩
theorem Tryz.l112 : Go.Proofs.Lays.n112 Tryz.prog Tryz.l112_ren := {
  mixed := by kernel_rfl,
  f112 := Tryz.func77.trans (congrArg some (by kernel_rfl)),
  t0 := Tryz.underlying0,
  a0 := Tryz.isAgg0,
  z0 := Tryz.sizeOf0,
  v0 := Tryz.zeroValue0,
  t3 := Tryz.underlying3,
  a3 := Tryz.isAgg3,
  z3 := Tryz.sizeOf3,
  v3 := Tryz.zeroValue3,
  t4 := Tryz.underlying4,
  a4 := Tryz.isAgg4,
  z4 := Tryz.sizeOf4,
  v4 := Tryz.zeroValue4,
  t28 := Tryz.underlying22,
  a28 := Tryz.isAgg22,
  z28 := Tryz.sizeOf22,
  v28 := Tryz.zeroValue22 }
end Go.Proofs

namespace Go.Proofs.YtgelkakjmbiibaaGreatDoor
set_option linter.unusedVariables false
set_option linter.unusedSimpArgs false
open Go.RowKit
section
variable {P : Program} {n : Nat} {env : List (Nat × Value)} {W : World} {own : List Asn} {o : Oper}
theorem put_row {w : World} {i e sz m q : Nat} {v : Value} {cs us : List Value} (hs : St W w own) (hi : own[i]? = some (row e sz v m cs)) (hm : 0 < m) (hq : q + us.length ≤ m * sz) :
    ∃ g cap cur, v = .slice (some ⟨g, 0, none⟩) m cap ∧ w.heap[g]? = some (.cells cur e (0, 0)) ∧ q + us.length ≤ cur.size ∧ St W (w.setRow g (cur.toList.take q ++ us ++ cur.toList.drop (q + us.length)).toArray) (own.set i (row e sz v m (cs.take q ++ us ++ cs.drop (q + us.length)))) := by
  obtain ⟨F1, ⟨f0, f1⟩, f2, f3⟩ := hs.upd hi
  rcases f0 with ⟨h, _⟩ | ⟨h0, g, cap, cur, rfl, hb, hg, hnc, hmm, hsz, ht⟩
  · omega
  · have hsz' : m * sz ≤ cur.size := by
      have := Nat.mul_le_mul_right sz hnc
      omega
    have hcl : cs.length = m * sz := h0
    have hlen : (cur.toList.take q ++ us ++ cur.toList.drop (q + us.length)).length = cur.size := by simp; omega
    refine ⟨g, cap, cur, rfl, hg, by omega, f3 _ _ (fun k => k = g) rfl rfl rfl (by simp) ⟨.inr ⟨by simp; omega, g, cap, _, rfl, hb, setRow_heap w g _ _ e _ hg, hnc, hmm, by simpa using hlen.trans hsz, ?_⟩, fun k => by simp [Value.ownBlock, eq_comm]⟩ (fun k _ hk => setRow_other w g k _ fun e => hk ((f1 k).2 (by simp [Value.ownBlock, e]))) fun k hk => ?_⟩
    · have e1 : (cur.toList.take q ++ us ++ cur.toList.drop (q + us.length)).take (m * sz) = cs.take q ++ us ++ cs.drop (q + us.length) := by
        rw [← ht, List.take_append, List.take_append]
        simp only [List.take_take, List.length_append, List.length_take, Array.length_toList, Nat.min_eq_right (show q ≤ m * sz by omega), Nat.min_eq_left (show q ≤ m * sz by omega), Nat.min_eq_left (show q ≤ cur.size by omega), List.drop_take]
        rw [List.take_of_length_le (show us.length ≤ m * sz - q by omega)]
      simpa using e1
    · subst hk
      have hF := (f1 k).2 (by simp [Value.ownBlock])
      exact ⟨.inl hF, by have := f2 _ hF; simpa using this⟩
theorem OD.copyInts {c : Call} {t : TypeId} {e i l h : Nat} {x y : Operand} {v vy : Value} {xs ys : List Int} (hop : o.op = .call c) (hc : c = { callee := .builtin .copy, args := #[x, y], argTypes := #[t, t] }) (et : ET P t e 1 8 (.int .i64 0))
    (hx : ∀ g cap, v = .slice (some ⟨g, 0, none⟩) xs.length cap → ∃ cap', ev env x = some (.slice (some ⟨g, l, none⟩) (h - l) cap')) (hi : own[i]? = some (ints e v xs)) (hlh : l < h ∧ h ≤ xs.length) (hy : ev env y = some vy) (hv : Ent own fun w => Ints w vy ys) (hys : 0 < ys.length) :
    OD P o n env W own (.int .i64 ((Min.min ys.length (h - l) : Nat) : Int)) (own.set i (ints e v (xs.take l ++ ys.take (Min.min ys.length (h - l)) ++ xs.drop (l + Min.min ys.length (h - l))))) := fun a w next Q hf hs hk => by
  obtain ⟨_, ao, cap2, rfl, h1, h2, h3, h4⟩ := hv W w hs
  obtain ⟨b, off, rfl, hb, hcell⟩ := h4 hys
  have hkk : ((ys.take (Min.min ys.length (h - l))).map (Value.int .i64)).length = Min.min ys.length (h - l) := by simp
  obtain ⟨g, cap, cur, rfl, hg, hfit, hst⟩ := put_row (q := l) (us := (ys.take (Min.min ys.length (h - l))).map (Value.int .i64)) hs hi (by omega) (by rw [hkk]; omega)
  obtain ⟨cap', hxx⟩ := hx g cap rfl
  obtain ⟨inf, hinf, hz0, hz1, hz2⟩ := info_parts et.hi
  have hr0 := run_copy_row (P := P) w t t o.type e g l (h - l) cap' ⟨b, off, none⟩ ys.length cap2 cur e ((ys.take (Min.min ys.length (h - l))).map (Value.int .i64)) et.ht (by rw [hinf]; simp [hz1]) hg (by rw [hkk]) (fun j u hj => by
      have hjl : j < Min.min ys.length (h - l) := by have := (List.getElem?_eq_some_iff.1 hj).1; rw [hkk] at this; exact this
      have := hcell j (by omega)
      rw [Addr.add_lit, this]
      rw [List.getElem?_map, List.getElem?_take_of_lt hjl] at hj
      have hjy : j < ys.length := by omega
      rw [List.getElem?_eq_getElem hjy] at hj
      simp only [Option.map_some, Option.some.injEq] at hj
      simp [List.getD, hjy, ← hj]) hfit (fun u hu => by
      obtain ⟨q, _, rfl⟩ := List.mem_map.1 hu
      rfl)
  rw [hkk] at hr0
  have hr : (execOp a.eval o).run P w = .ok (.value (.int .i64 ((Min.min ys.length (h - l) : Nat) : Int))) (w.setRow g (cur.toList.take l ++ (ys.take (Min.min ys.length (h - l))).map (Value.int .i64) ++ cur.toList.drop (l + Min.min ys.length (h - l))).toArray) := by
    subst hc
    simp only [execOp, hop, resolve, invoke, builtin, hf.ev hxx, hf.ev hy]
    simpa [hf.ev hxx, hf.ev hy, goInt] using run_val hr0
  unfold Oper.wp
  rw [hr]
  rw [hkk] at hst
  refine hk _ _ _ ⟨rfl, rfl⟩ ?_
  have e1 : ints e (.slice (some ⟨g, 0, none⟩) xs.length cap) (xs.take l ++ ys.take (Min.min ys.length (h - l)) ++ xs.drop (l + Min.min ys.length (h - l))) = row e 1 (.slice (some ⟨g, 0, none⟩) xs.length cap) xs.length ((xs.map (Value.int .i64)).take l ++ (ys.take (Min.min ys.length (h - l))).map (Value.int .i64) ++ (xs.map (Value.int .i64)).drop (l + Min.min ys.length (h - l))) := by
    unfold ints
    congr 1
    · simp
      omega
    · simp [List.map_take, List.map_drop]
  rw [e1]
  exact hst
theorem copy_whole {v : Value} {x : Operand} {m : Nat} (hx : ev env x = some v) : ∀ g cap, v = .slice (some ⟨g, 0, none⟩) m cap → ∃ cap', ev env x = some (.slice (some ⟨g, 0, none⟩) (m - 0) cap') := fun g cap hv => ⟨cap, by rw [hx, hv]; rfl⟩
theorem copy_part {v : Value} {x : Operand} {m l : Nat} (hx : ev env x = some (subV 1 v l m)) (hl : l < m) (hm : ∀ ao cap, v = .slice ao m cap → m ≤ cap) : ∀ g cap, v = .slice (some ⟨g, 0, none⟩) m cap → ∃ cap', ev env x = some (.slice (some ⟨g, l, none⟩) (m - l) cap') := fun g cap hv => by
  have := hm _ _ hv
  refine ⟨cap - l, ?_⟩
  rw [hx, hv]
  simp only [subV]
  rw [if_neg (by omega)]
  simp only [Option.map_some, Addr.add, Nat.mul_one]
  split <;> simp_all
theorem row_cap {i e : Nat} {v : Value} {xs : List Int} (h : own[i]? = some (ints e v xs)) : Ent own fun _ => ∀ ao cap, v = .slice ao xs.length cap → xs.length ≤ cap := fun W w hs ao cap hv => by
  obtain ⟨_, ao', cap', e', h1, _⟩ := Ent.ints h W w hs
  rw [hv] at e'
  simp only [Value.slice.injEq] at e'
  omega
end
theorem mul_w {W : World} {own : List Asn} {x y : Nat} (hx : x ≤ 9223372036854775807) (hy : y ≤ 9223372036854775807) (hxy : x * y ≤ 9223372036854775807) : Spec Tryz.prog 166 [.int .u64 (x : Int), .int .u64 (y : Int)] W own fun v ow => v = .tuple #[.int .u64 0, .int .u64 ((x * y : Nat) : Int)] ∧ ow = own :=
  Spec.same fun w _ => (Any.bits_Mul (P := Tryz.prog) (ρ := Tryz.l212_ren) Tryz.l212 x y (by omega) (by omega) w).mono fun e w' ⟨he, hw⟩ => by
    refine ⟨?_, hw.symm⟩
    rw [he, Nat.div_eq_of_lt (by omega), Nat.mod_eq_of_lt (by omega)]
    rfl
theorem put_row_eq {w : World} {g e n : Nat} {cur : Array Value} {R : List Int} (hg : w.heap[g]? = some (.cells cur e (0, 0))) (hR : R.length ≤ cur.size) :
    Sort.putRow (Value.int .i64) (Sort.ahead w n) g 0 R.toArray = (w.setRow g (cur.toList.take 0 ++ R.map (Value.int .i64) ++ cur.toList.drop (0 + (R.map (Value.int .i64)).length)).toArray).drewN n := by
  unfold Sort.putRow Sort.mapBlock Sort.ahead World.setRow World.drewN
  simp only
  congr 1
  apply Array.ext_getElem?
  intro i
  rw [Array.getElem?_modify, Array.getElem?_modify]
  by_cases hi : g = i
  · subst hi
    rw [if_pos rfl, if_pos rfl, hg]
    simp only [Option.map_some, Sort.onCells]
    congr 2
    apply Array.ext_getElem?
    intro k
    simp only [Sort.putCells, Array.getElem?_mapIdx, List.take_zero, List.nil_append, Nat.zero_add, List.length_map, List.getElem?_toArray, Nat.zero_le, true_and, Nat.sub_zero, List.size_toArray]
    by_cases hk : k < R.length
    · rw [List.getElem?_append_left (by simpa using hk), List.getElem?_map, List.getElem?_eq_getElem hk, Array.getElem?_eq_getElem (by omega : k < cur.size)]
      simp [hk]
    · rw [List.getElem?_append_right (by simpa using Nat.le_of_not_lt hk), List.length_map, List.getElem?_drop, show R.length + (k - R.length) = k by omega, Array.getElem?_toList]
      cases hc : cur[k]? with
      | none => rfl
      | some c => simp [hk]
  · rw [if_neg hi, if_neg hi]
theorem holds_of {w : World} {g e : Nat} {cur : Array Value} {x : List Int} (hg : w.heap[g]? = some (.cells cur e (0, 0))) (hc : ∀ k, k < x.length → w.cell? ⟨g, 0 + k, none⟩ = some ((x.map (Value.int .i64)).getD k undef)) : Sort.Holds (Value.int .i64) w g 0 x.toArray := fun j hj => by
  have hj' : j < x.length := by simpa using hj
  refine ⟨?_, by simp [World.frozen?, hg]⟩
  rw [hc j hj', getElem!_pos _ j hj]
  simp [List.getD, hj']
theorem reverse_w {W : World} {own : List Asn} {vx : Value} {x : List Int} (sx : IsS vx) (hl : x.length ≤ 1073741824) : Spec Tryz.prog 77 [vx] W (ints 3 vx x :: own) fun v ow => v = .tuple #[] ∧ ow = ints 3 vx x.reverse :: own := fun w hs => by
  have hE := Ent.ints (i := 0) (own := ints 3 vx x :: own) rfl W w hs
  cases x with
  | nil =>
    obtain ⟨_, ao, cap, rfl, _⟩ := hE
    exact (Any.slices_Reverse_int_empty Tryz.l112 ao cap w).mono fun e w' ⟨he, hw⟩ => ⟨_, _, he, ⟨rfl, rfl⟩, by rw [hw]; exact hs⟩
  | cons a t =>
    obtain ⟨g, cap, cur, rfl, hg, hfit, hst⟩ := put_row (q := 0) (i := 0) (us := (a :: t).reverse.map (Value.int .i64)) hs rfl (by simp) (by simp)
    obtain ⟨_, ao, cap2, e1, _, _, _, h4⟩ := hE
    obtain ⟨b, off, rfl, hb, hc⟩ := h4 (by simp)
    simp only [Value.slice.injEq, Option.some.injEq, Addr.mk.injEq] at e1
    obtain ⟨⟨rfl, rfl, _⟩, _, rfl⟩ := e1
    have hH : Sort.Holds (Value.int .i64) w g 0 (a :: t).toArray := holds_of hg fun k hk => hc k (by omega)
    refine (Any.slices_Reverse_int Tryz.l112 g 0 cap (a :: t) w hH (by omega)).mono fun e w' ⟨he, n, hw⟩ => ⟨_, _, he, ⟨rfl, rfl⟩, ?_⟩
    rw [hw, put_row_eq hg (by simpa using hfit)]
    have h2 : St W ((w.setRow g (cur.toList.take 0 ++ (a :: t).reverse.map (Value.int .i64) ++ cur.toList.drop (0 + ((a :: t).reverse.map (Value.int .i64)).length)).toArray).drewN n) _ := hst.below (below_drewN (Below.refl _ _) n)
    have e3 : (List.map (Value.int IntKind.i64) (a :: t)).drop (0 + ((a :: t).reverse.map (Value.int .i64)).length) = [] := by simp
    simp only [List.take_zero, List.nil_append, e3, List.append_nil] at h2 ⊢
    simpa [ints] using h2
end Go.Proofs.YtgelkakjmbiibaaGreatDoor
