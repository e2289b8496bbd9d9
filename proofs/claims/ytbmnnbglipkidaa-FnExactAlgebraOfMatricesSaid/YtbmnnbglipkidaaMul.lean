/-
  A part of a slice of numbers that is owned is written in place; products of matrices: the plain functions and their ranges.
-/
import Derived.Test.YtbmnnbglipkidaaMx
import Derived.Test.YtbmnnbglipkidaaOps2
namespace Go.Proofs.Ytbmnnbglipkidaa
set_option linter.unusedVariables false
set_option linter.unusedSimpArgs false
open Go.RowKit
section
variable {P : Program} {n : Nat} {env : List (Nat × Value)} {W : World} {own : List Asn} {o : Oper}
theorem OD.indexSub {t : TypeId} {x y : Operand} {e bytes l h : Nat} {v z : Value} {xs : List Int} {k : Int} (hop : o.op = .indexAddr t x y) (et : ET P t e 1 bytes z) (hx : ev env x = some (subV 1 v l h)) (hv : Ent own fun w => Ints w v xs) (hb : l ≤ h ∧ h ≤ xs.length) (hy : ev env y = some (.int .i64 k)) (hk : 0 ≤ k ∧ k < ((h - l : Nat) : Int)) :
    OD P o n env W own (elemPtr v 1 (l + k.toNat)) own := fun a w next Q hf hs hkk => by
  have e : elemPtr (subV 1 v l h) 1 k.toNat = elemPtr v 1 (l + k.toNat) := by
    obtain ⟨_, ao, cap, rfl, h1, _, _, h4⟩ := hv W w hs
    obtain ⟨b, off, rfl, _, _⟩ := h4 (by omega)
    simp only [subV, elemPtr]
    rw [if_neg (by omega)]
    simp only [Option.map_some, Addr.add_lit, Nat.mul_one, Nat.add_assoc]
  have h0 := OD.indexAddr (P := P) (n := n) (W := W) hop et hx (Ent.subInts hv hb) hy (by simp; omega)
  rw [e] at h0
  exact h0 a w next Q hf hs hkk
end
theorem foldl_sn {α : Type} (f : α → Nat → α) (a : α) (k : Nat) : (List.range (k + 1)).foldl f a = f ((List.range k).foldl f a) k := by
  rw [List.range_succ, List.foldl_append]
  rfl
theorem fold_nx {α : Type} {f : α → Nat → α} {a x y : α} {k : Nat} (h : x = (List.range k).foldl f a) (hy : y = f x k) : y = (List.range (k + 1)).foldl f a := by
  rw [foldl_sn, ← h]
  exact hy
theorem fold_inv {α : Type} {f : α → Nat → α} {a : α} (I : α → Prop) (n : Nat) (h0 : I a) (hs : ∀ x k, k < n → I x → I (f x k)) : I ((List.range n).foldl f a) := by
  induction n with
  | zero => exact h0
  | succ n ih =>
    rw [foldl_sn]
    exact hs _ _ (Nat.lt_succ_self n) (ih fun x k hk => hs x k (Nat.lt_succ_of_lt hk))
def addR (x : List Int) (l : Nat) (k p : Int) (y : List Int) : List Int := (List.range y.length).foldl (fun (o : List Int) (i : Nat) => o.set (l + i) ((IntKind.i64.wrap (o.getD (l + i) 0 + IntKind.i64.wrap (k * y.getD i 0))).tmod p)) x
theorem addR_len (x : List Int) (l : Nat) (k p : Int) (y : List Int) : (addR x l k p y).length = x.length := fold_inv (fun o : List Int => o.length = x.length) _ rfl fun o i _ h => by rw [List.length_set]; exact h
def rowY (bc : Int) (bd : List Int) (k : Nat) : List Int := (bd.drop ((k : Int) * bc).toNat).take ((((k : Int) + 1) * bc).toNat - ((k : Int) * bc).toNat)
def mulE (p ac bc : Int) (ad bd : List Int) (i : Nat) (o : List Int) (k : Nat) : List Int := if ad.getD ((i : Int) * ac + (k : Int)).toNat 0 = 0 then o else addR o ((i : Int) * bc).toNat (ad.getD ((i : Int) * ac + (k : Int)).toNat 0) p (rowY bc bd k)
def mulRow (p ac bc : Int) (ad bd : List Int) (i : Nat) (o : List Int) : List Int := (List.range ac.toNat).foldl (mulE p ac bc ad bd i) o
def mulF (p ar ac bc : Int) (ad bd : List Int) : List Int := (List.range ar.toNat).foldl (fun (o : List Int) (i : Nat) => mulRow p ac bc ad bd i o) (List.replicate (ar * bc).toNat 0)
theorem mulE_len (p ac bc : Int) (ad bd : List Int) (i : Nat) (o : List Int) (k : Nat) : (mulE p ac bc ad bd i o k).length = o.length := by
  unfold mulE
  split
  · rfl
  · exact addR_len _ _ _ _ _
theorem mulRow_len (p ac bc : Int) (ad bd : List Int) (i : Nat) (o : List Int) : (mulRow p ac bc ad bd i o).length = o.length := fold_inv (fun x : List Int => x.length = o.length) _ rfl fun x k _ h => (mulE_len ..).trans h
theorem mulF_len (p ar ac bc : Int) (ad bd : List Int) : (mulF p ar ac bc ad bd).length = (ar * bc).toNat := fold_inv (fun x : List Int => x.length = (ar * bc).toNat) _ (by simp) fun x k _ h => (mulRow_len ..).trans h
theorem part_bd {n c : Int} {i : Nat} (hc : 0 ≤ c) (hi : (i : Int) < n) : 0 ≤ (i : Int) * c ∧ ((i : Int) + 1) * c = (i : Int) * c + c ∧ ((i : Int) + 1) * c ≤ n * c := by
  refine ⟨Int.mul_nonneg (by omega) hc, by rw [Int.add_mul, Int.one_mul], Int.mul_le_mul_of_nonneg_right (by omega) hc⟩
theorem rowY_len {c : Int} {bd : List Int} {k : Nat} (hc : 0 ≤ c) : (rowY c bd k).length ≤ c.toNat := by
  obtain ⟨h1, h2, _⟩ := part_bd (n := (k : Int) + 1) (i := k) hc (by omega)
  unfold rowY
  rw [List.length_take]
  omega
theorem rowY_full {n c : Int} {bd : List Int} {k : Nat} (hc : 0 ≤ c) (hk : (k : Int) < n) (hl : (bd.length : Int) = n * c) : (rowY c bd k).length = c.toNat := by
  obtain ⟨h1, h2, h3⟩ := part_bd hc hk
  unfold rowY
  rw [List.length_take, List.length_drop]
  omega
theorem rowY_get {c : Int} {bd : List Int} {k j : Nat} (hc : 0 ≤ c) (hj : (j : Int) < c) : (rowY c bd k).getD j 0 = bd.getD ((k : Int) * c + (j : Int)).toNat 0 := by
  obtain ⟨h1, h2, _⟩ := part_bd (n := (k : Int) + 1) (i := k) hc (by omega)
  unfold rowY
  simp only [List.getD]
  rw [List.getElem?_take_of_lt (by omega), List.getElem?_drop]
  congr 2
  omega
theorem mul_step {c x p : Int} {ys bd : List Int} {i k j : Nat} (hc : 0 ≤ c) (hj : (j : Int) < c) : ys.set ((i : Int) * c + (j : Int)).toNat ((IntKind.i64.wrap (ys.getD ((i : Int) * c + (j : Int)).toNat 0 + IntKind.i64.wrap (x * bd.getD ((k : Int) * c + (j : Int)).toNat 0))).tmod p) = ys.set (((i : Int) * c).toNat + j) ((IntKind.i64.wrap (ys.getD (((i : Int) * c).toNat + j) 0 + IntKind.i64.wrap (x * (rowY c bd k).getD j 0))).tmod p) := by
  obtain ⟨h1, _, _⟩ := part_bd (n := (i : Int) + 1) (i := i) hc (by omega)
  rw [rowY_get hc hj, show ((i : Int) * c + (j : Int)).toNat = ((i : Int) * c).toNat + j by omega]
def Rg (p : Int) (xs : List Int) : Prop := ∀ i, 0 ≤ xs.getD i 0 ∧ xs.getD i 0 < p
theorem Rg.set {p x : Int} {xs : List Int} (h : Rg p xs) (hx : 0 ≤ x ∧ x < p) (k : Nat) : Rg p (xs.set k x) := fun i => by
  simp only [List.getD, List.getElem?_set]
  split
  · split
    · exact hx
    · have := h i
      simp only [List.getD] at this
      simp
      omega
  · exact h i
theorem Rg.rep {p : Int} (hp : 0 < p) (n : Nat) : Rg p (List.replicate n 0) := fun i => by
  simp only [List.getD, List.getElem?_replicate]
  split <;> simp <;> omega
theorem Rg.mem {p x : Int} {xs : List Int} (h : Rg p xs) (hx : x ∈ xs) : 0 ≤ x ∧ x < p := by
  obtain ⟨i, hi, e⟩ := List.getElem_of_mem hx
  have := h i
  simp only [List.getD, List.getElem?_eq_getElem hi, e] at this
  exact this
theorem Rg.of {p : Int} (hp : 0 < p) {xs : List Int} (h : ∀ x ∈ xs, 0 ≤ x ∧ x < p) : Rg p xs := fun i => by
  by_cases hi : i < xs.length
  · have := h xs[i] (List.getElem_mem hi)
    simpa [List.getD, hi] using this
  · simp [List.getD, List.getElem?_eq_none (Nat.le_of_not_lt hi)]
    omega
theorem Rg.row {p c : Int} {bd : List Int} {k : Nat} (hp : 0 < p) (h : Rg p bd) : Rg p (rowY c bd k) := Rg.of hp fun x hx => h.mem (List.mem_of_mem_drop (List.mem_of_mem_take hx))
theorem addV {p k a b : Int} (hp : 0 < p ∧ p ≤ 10007) (hk : 0 ≤ k ∧ k ≤ 20000) (ha : 0 ≤ a ∧ a < p) (hb : 0 ≤ b ∧ b < p) : IntKind.i64.wrap (a + IntKind.i64.wrap (k * b)) = a + k * b := by
  have hm := mulBd (A := 20000) (B := 10007) (a := k) (b := b) hk (by omega)
  rw [wrap_in (x := k * b) (by omega) (by omega), wrap_in (by omega) (by omega)]
theorem addR_rg {p k : Int} {x y : List Int} {l : Nat} (hp : 0 < p ∧ p ≤ 10007) (hk : 0 ≤ k ∧ k ≤ 20000) (hx : Rg p x) (hy : Rg p y) : Rg p (addR x l k p y) := fold_inv (fun o => Rg p o) _ hx fun o i _ ho => by
  refine ho.set ?_ _
  rw [addV hp hk (ho _) (hy _)]
  have hm := mulBd (A := 20000) (B := 10007) (a := k) (b := y.getD i 0) hk (by have := hy i; omega)
  have := ho (l + i)
  exact ⟨Int.tmod_nonneg _ (by omega), Int.tmod_lt_of_pos _ (by omega)⟩
theorem mulF_rg {p ar ac bc : Int} {ad bd : List Int} (hp : 0 < p ∧ p ≤ 10007) (ha : Rg p ad) (hb : Rg p bd) : Rg p (mulF p ar ac bc ad bd) := fold_inv (fun o => Rg p o) _ (Rg.rep hp.1 _) fun o i _ ho => fold_inv (fun o => Rg p o) _ ho fun o k _ ho => by
  show Rg p (mulE p ac bc ad bd i o k)
  unfold mulE
  split
  · exact ho
  · exact addR_rg hp (by have := ha ((i : Int) * ac + (k : Int)).toNat; omega) ho (hb.row hp.1)
theorem mulE_end {p ac bc n : Int} {ad bd us zs : List Int} {i k j : Nat} (hc : 0 ≤ bc) (hk : (k : Int) < n) (hl : (bd.length : Int) = n * bc) (hj : (j : Int) ≤ bc)
    (hu : us = (List.range j).foldl (fun (o : List Int) (j : Nat) => o.set (((i : Int) * bc).toNat + j) ((IntKind.i64.wrap (o.getD (((i : Int) * bc).toNat + j) 0 + IntKind.i64.wrap (ad.getD ((i : Int) * ac + (k : Int)).toNat 0 * (rowY bc bd k).getD j 0))).tmod p)) zs)
    (h0 : ad.getD ((i : Int) * ac + (k : Int)).toNat 0 = 0 → j = 0) (he : ad.getD ((i : Int) * ac + (k : Int)).toNat 0 ≠ 0 → ¬ (j : Int) < bc) : us = mulE p ac bc ad bd i zs k := by
  unfold mulE
  split
  · rename_i h
    rw [hu, h0 h]
    rfl
  · rename_i h
    have := he h
    rw [hu]
    unfold addR
    rw [rowY_full hc hk hl, show bc.toNat = j by omega]
theorem neg_mul_mod {p a b : Int} (hp : 0 < p) (hb : 0 ≤ b) : (a + (p - 1) * b) % p = (a + 1 * ((b * ((-1) % p)).tmod p)) % p := by
  have e1 : (-1 : Int) % p = p - 1 := by
    have h : (-1 : Int) % p = (-1 + p * 1) % p := by rw [Int.add_mul_emod_self_left]
    rw [h, Int.emod_eq_of_lt (by omega) (by omega)]
    omega
  rw [e1, Int.tmod_eq_emod_of_nonneg (Int.mul_nonneg hb (by omega)), Int.one_mul, Int.mul_comm (p - 1) b]
  first | exact (Int.add_emod_emod _ _ _).symm | simp
theorem addF_neg {p : Int} (hp : 0 < p) : ∀ (u v : List Int), Rg p v → addF (p - 1) p u v = addF 1 p u (v.map fun x => (x * ((-1) % p)).tmod p)
  | [], [], _ => rfl
  | [], _ :: _, _ => rfl
  | _ :: _, [], _ => rfl
  | a :: u, b :: v, h => by
    have hb := h 0
    simp only [List.getD, List.getElem?_cons_zero, Option.getD_some] at hb
    have ih := addF_neg hp u v fun i => by
      have := h (i + 1)
      simpa [List.getD] using this
    simp only [addF, List.map_cons, ih]
    rw [neg_mul_mod hp hb.1]
def commOk (a b : Mat) : Bool := matOkB a && (matOkB b && (a.p == b.p && (a.r == a.c && (b.r == a.r && b.c == a.c))))
def commF (a b : Mat) : Mat := if commOk a b then ⟨a.p, a.r, b.c, addF (a.p - 1) a.p (mulF a.p a.r a.c b.c a.d b.d) (mulF b.p b.r b.c a.c b.d a.d)⟩ else mat0
theorem commOk_t {a b : Mat} (h1 : matOkB a = true) (h2 : matOkB b = true) (h3 : a.p = b.p) (h4 : a.r = a.c) (h5 : b.r = a.r) (h6 : b.c = a.c) : commOk a b = true := by
  simp [commOk, h1, h2, h3, h4, h5, h6]
theorem matOk_rg {m : Mat} (h : matOkB m = true) : Rg m.p m.d := Rg.of (by have := (matOk_of h).p0; omega) (matOk_of h).res
theorem matOk_dim {m : Mat} (h : matOkB m = true) : (0 ≤ m.r ∧ m.r ≤ 40) ∧ (0 ≤ m.c ∧ m.c ≤ 40) ∧ (m.d.length : Int) = m.r * m.c ∧ 1 ≤ m.p ∧ m.p ≤ 10007 := by
  have h3 := matOk_three h
  have ok := matOk_of h
  have a := inB_true h3.2.1
  have b := inB_true h3.2.2
  have hm := mulBd (A := 40) (B := 40) a b
  have hl := ok.len
  have := ok.p0
  have := ok.p1
  exact ⟨a, b, by omega, by omega, by omega⟩
theorem small_of {p r c : Int} {d : List Int} (hp : 1 ≤ p ∧ p ≤ 10007) (hl : d.length ≤ 1600) (h : Rg p d) : Small ⟨p, r, c, d⟩ :=
  ⟨hp.1, by show p ≤ 20000; omega, by show d.length ≤ 1073741824; omega, fun x hx => by have := h.mem hx; omega⟩
theorem comm_d {a b : Mat} (h : commOk a b = true) : addF 1 a.p (mulF a.p a.r a.c b.c a.d b.d) ((mulF b.p b.r b.c a.c b.d a.d).map fun x => (x * ((-1) % b.p)).tmod b.p) = (commF a b).d := by
  have hh := h
  simp only [commOk, Bool.and_eq_true, beq_iff_eq] at hh
  obtain ⟨h1, h2, h3, _, _, _⟩ := hh
  have hp := matOk_dim h1
  have hg := matOk_rg h2
  rw [← h3] at hg
  rw [commF, if_pos h, ← h3]
  exact (addF_neg (by omega) _ _ (mulF_rg ⟨by omega, by omega⟩ hg (matOk_rg h1))).symm
theorem map_neg_rg {p : Int} (hp : 0 < p) {v : List Int} (h : Rg p v) : Rg p (v.map fun x => (x * ((-1) % p)).tmod p) := Rg.of hp fun x hx => by
  obtain ⟨y, hy, rfl⟩ := List.mem_map.1 hx
  have := h.mem hy
  exact ⟨Int.tmod_nonneg _ (Int.mul_nonneg this.1 (Int.emod_nonneg _ (by omega))), Int.tmod_lt_of_pos _ hp⟩
end Go.Proofs.Ytbmnnbglipkidaa
