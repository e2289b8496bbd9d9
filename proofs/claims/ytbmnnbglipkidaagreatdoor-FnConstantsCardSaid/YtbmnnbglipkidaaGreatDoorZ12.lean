/-
  The numbers that make a Cartan matrix symmetric, as both texts compute them: told as the work that is left from a place on; that both give the same is checked by the kernel over all Cartan matrices.
-/
import Derived.Test.YtbmnnbglipkidaaGreatDoorZ08
import Derived.Lib.FrozenHead
import Derived.Test.YtbmnnbglipkidaaGreatDoorCarQ
namespace Go.Proofs.YtbmnnbglipkidaaGreatDoor
set_option linter.unusedVariables false
set_option linter.unusedSimpArgs false
abbrev lnV (n : Int) (d o : List Int) (r : Int) (j : Nat) : Int := IntKind.i64.wrap ((IntKind.i64.wrap (o.getD r.toNat 0 * atI n d r j)).tdiv (atI n d j r))
def lsJ (n : Int) (d : List Int) (r : Int) : Nat → Nat → List Int → Option (List Int)
  | 0, _, o => some o
  | m + 1, j, o => if o.getD j 0 == 0 && atI n d r j != 0 then (if atI n d j r == 0 then none else lsJ n d r m (j + 1) (o.set j (lnV n d o r j))) else lsJ n d r m (j + 1) o
def liJ (n : Int) (d : List Int) (k : Nat) : Nat → Nat → List Int → List Int → Option (List Int × List Int)
  | 0, _, o, p => some (o, p)
  | m + 1, j, o, p => if o.getD j 0 == 0 && atI n d (p.getD k 0) j != 0 then (if atI n d j (p.getD k 0) == 0 then none else liJ n d k m (j + 1) (o.set j (lnV n d o (p.getD k 0) j)) (p ++ [(j : Int)])) else liJ n d k m (j + 1) o p
theorem sub_one {a b : Nat} (h : b < a) : a - b = (a - (b + 1)) + 1 := by omega
theorem liJ_end {n : Int} {d : List Int} {k N j : Nat} {o p : List Int} {x : List Int × List Int} (h : liJ n d k (N - j) j o p = some x) (hj : N ≤ j) : (o, p) = x := by
  rw [show N - j = 0 by omega] at h
  simpa [liJ] using h
theorem liJ_no {n : Int} {d : List Int} {k N j : Nat} {o p : List Int} {x : List Int × List Int} (h : liJ n d k (N - j) j o p = some x) (hj : j < N) (hc : (o.getD j 0 == 0 && atI n d (p.getD k 0) j != 0) = false) : liJ n d k (N - (j + 1)) (j + 1) o p = some x := by
  rw [sub_one hj, liJ, hc] at h
  simpa using h
theorem liJ_yes {n : Int} {d : List Int} {k N j : Nat} {o p : List Int} {x : List Int × List Int} (h : liJ n d k (N - j) j o p = some x) (hj : j < N) (h1 : o.getD j 0 = 0) (h2 : atI n d (p.getD k 0) j ≠ 0) : atI n d j (p.getD k 0) ≠ 0 ∧ liJ n d k (N - (j + 1)) (j + 1) (o.set j (lnV n d o (p.getD k 0) j)) (p ++ [(j : Int)]) = some x := by
  rw [sub_one hj, liJ, if_pos (by rw [h1, bne_iff_ne.2 h2]; rfl)] at h
  split at h
  · cases h
  · rename_i hz
    exact ⟨fun e => hz (by rw [e]; rfl), h⟩
theorem and_no1 {a b : Bool} (h : a = false) : (a && b) = false := by rw [h]; rfl
theorem and_no2 {a : Bool} {x : Int} (h : x = 0) : (a && (x != 0)) = false := by rw [h]; simp
def lsM (o : List Int) (r a : Int) : Int := if o.getD r.toNat 0 < a then o.getD r.toNat 0 else a
def lsK (n : Int) (d rows : List Int) : Nat → Nat → List Int → Int → Option (List Int × Int)
  | 0, _, o, a => some (o, a)
  | m + 1, k, o, a => (lsJ n d (rows.getD k 0) n.toNat 0 o).bind fun o2 => lsK n d rows m (k + 1) o2 (lsM o2 (rows.getD k 0) a)
def liK (n : Int) (d : List Int) : Nat → Nat → List Int → List Int → Option (List Int × List Int)
  | 0, _, _, _ => none
  | f + 1, k, o, p => if k < p.length then (liJ n d k n.toNat 0 o p).bind fun x => liK n d f (k + 1) x.1 x.2 else some (o, p)
theorem liK_end {n : Int} {d : List Int} {f k : Nat} {o p : List Int} {x : List Int × List Int} (h : liK n d f k o p = some x) (hk : p.length ≤ k) : (o, p) = x := by
  cases f with
  | zero => cases h
  | succ f =>
    rw [liK, if_neg (by omega)] at h
    simpa using h
theorem liK_step {n : Int} {d : List Int} {f k : Nat} {o p : List Int} {x : List Int × List Int} (h : liK n d f k o p = some x) (hk : k < p.length) : ∃ g y q, f = g + 1 ∧ liJ n d k (n.toNat - 0) 0 o p = some (y, q) ∧ liK n d g (k + 1) y q = some x := by
  cases f with
  | zero => cases h
  | succ f =>
    rw [liK, if_pos hk] at h
    obtain ⟨y, h1, h2⟩ := Option.bind_eq_some_iff.1 h
    exact ⟨f, y.1, y.2, rfl, h1, h2⟩
def liM (o p : List Int) (a : Int) (m : Nat) : Int := (List.range m).foldl (fun (a : Int) (t : Nat) => min a (o.getD (p.getD t 0).toNat 0)) a
def dvL (p : List Int) (a : Int) : Nat → Nat → List Int → Option (List Int)
  | 0, _, o => some o
  | m + 1, k, o => if a == 0 then none else dvL p a m (k + 1) (o.set (p.getD k 0).toNat (IntKind.i64.wrap ((o.getD (p.getD k 0).toNat 0).tdiv a)))
theorem dvL_end {p : List Int} {a : Int} {N k : Nat} {o x : List Int} (h : dvL p a (N - k) k o = some x) (hj : N ≤ k) : o = x := by
  rw [show N - k = 0 by omega] at h
  simpa [dvL] using h
theorem dvL_step {p : List Int} {a : Int} {N k : Nat} {o x : List Int} (h : dvL p a (N - k) k o = some x) (hj : k < N) : a ≠ 0 ∧ dvL p a (N - (k + 1)) (k + 1) (o.set (p.getD k 0).toNat (IntKind.i64.wrap ((o.getD (p.getD k 0).toNat 0).tdiv a))) = some x := by
  rw [sub_one hj, dvL] at h
  split at h
  · cases h
  · rename_i hz
    exact ⟨fun e => hz (by rw [e]; rfl), h⟩
def lsO (n : Int) (d : List Int) : Nat → Nat → List Int → Option (List Int)
  | 0, _, o => some o
  | m + 1, i, o => if o.getD i 0 != 0 then lsO n d m (i + 1) o else (lsK n d (partF n d i) (partF n d i).length 0 (o.set i 6) 6).bind fun x => (dvL (partF n d i) x.2 (partF n d i).length 0 x.1).bind fun o3 => lsO n d m (i + 1) o3
def liO (n : Int) (d : List Int) : Nat → Nat → List Int → Option (List Int)
  | 0, _, o => some o
  | m + 1, i, o => if o.getD i 0 != 0 then liO n d m (i + 1) o else (liK n d 6 0 (o.set i 36) [(i : Int)]).bind fun x => (dvL x.2 (liM x.1 x.2 (x.1.getD i 0) x.2.length) x.2.length 0 x.1).bind fun o3 => liO n d m (i + 1) o3
theorem liO_end {n : Int} {d : List Int} {N i : Nat} {o x : List Int} (h : liO n d (N - i) i o = some x) (hj : N ≤ i) : o = x := by
  rw [show N - i = 0 by omega] at h
  simpa [liO] using h
theorem liO_no {n : Int} {d : List Int} {N i : Nat} {o x : List Int} (h : liO n d (N - i) i o = some x) (hj : i < N) (hc : o.getD i 0 ≠ 0) : liO n d (N - (i + 1)) (i + 1) o = some x := by
  rw [sub_one hj, liO, if_pos (bne_iff_ne.2 hc)] at h
  exact h
theorem liO_yes {n : Int} {d : List Int} {N i : Nat} {o x : List Int} (h : liO n d (N - i) i o = some x) (hj : i < N) (hc : o.getD i 0 = 0) :
    ∃ y q z, liK n d 6 0 (o.set i 36) [(i : Int)] = some (y, q) ∧ dvL q (liM y q (y.getD i 0) q.length) (q.length - 0) 0 y = some z ∧ liO n d (N - (i + 1)) (i + 1) z = some x := by
  rw [sub_one hj, liO, if_neg (by rw [hc]; simp)] at h
  obtain ⟨y, h1, h2⟩ := Option.bind_eq_some_iff.1 h
  obtain ⟨z, h3, h4⟩ := Option.bind_eq_some_iff.1 h2
  exact ⟨y.1, y.2, z, h1, h3, h4⟩
def lenF (n : Int) (d : List Int) : List Int := (lsO n d n.toNat 0 (List.replicate n.toNat 0)).getD []
def chkL (n : Nat) : Bool := (candL n).all fun d => (lsO n d n 0 (List.replicate n 0) == some (lenF n d)) && (liO n d n 0 (List.replicate n 0) == some (lenF n d)) && ((lenF n d).length == n)
set_option maxRecDepth 100000 in
theorem chkL_all {m : Nat} : 1 ≤ m → m ≤ 4 → chkL m = true := four (P := fun m => chkL m = true) (by decide +kernel) (by decide +kernel) (by decide +kernel) (by decide +kernel)
theorem len_ok {n : Int} {d : List Int} (h : (tyS n d).isSome = true) : lsO n d (n.toNat - 0) 0 (List.replicate n.toNat 0) = some (lenF n d) ∧ liO n d (n.toNat - 0) 0 (List.replicate n.toNat 0) = some (lenF n d) ∧ (lenF n d).length = n.toNat := by
  obtain ⟨ks, hk⟩ := Option.isSome_iff_exists.1 h
  obtain ⟨m, rfl, h1, h4, hd⟩ := tyS_cand hk
  have := chkL_all h1 h4
  simp only [chkL, List.all_eq_true] at this
  have := this d hd
  simp only [Bool.and_eq_true, beq_iff_eq] at this
  exact ⟨this.1.1, this.1.2, this.2⟩
def lenOf (n : Int) (d : List Int) : List Int := if (tyS n d).isSome then lenF n d else []
def inF (n : Int) (d x y : List Int) : Int := (List.range x.length).foldl (fun (s : Int) (i : Nat) => IntKind.i64.wrap (s + IntKind.i64.wrap (IntKind.i64.wrap (x.getD i 0 * (lenF n d).getD i 0) * (wtF n d y).getD i 0))) 0
def inOf (n : Int) (d x y : List Int) : Int := if (tyS n d).isSome && wtOk n x && wtOk n y then inF n d x y else 0
def subR (n : Int) (d rows : List Int) (i : Nat) (o : List Int) (j : Nat) : List Int := o ++ [atI n d (rows.getD i 0) (rows.getD j 0)]
def subD (n : Int) (d rows : List Int) : List Int := (List.range rows.length).foldl (fun (o : List Int) (i : Nat) => (List.range rows.length).foldl (subR n d rows i) o) []
end Go.Proofs.YtbmnnbglipkidaaGreatDoor

namespace Go.Proofs.YtbmnnbglipkidaaGreatDoor
set_option linter.unusedVariables false
set_option linter.unusedSimpArgs false
open Go.RowKit
section
variable {P : Program} {n : Nat} {env : List (Nat × Value)} {W : World} {own : List Asn} {o : Oper}
theorem OD.min {c : Call} {x y : Operand} {k : IntKind} {i j : Int} {ts : Array TypeId} (hop : o.op = .call c) (hc : c = { callee := .builtin .min, args := #[x, y], argTypes := ts }) (hx : ev env x = some (.int k i)) (hy : ev env y = some (.int k j)) : OD P o n env W own (.int k (Min.min i j)) own :=
  .of fun a w hf _ => by
    subst hc
    have e : (if j < i then j else i) = Min.min i j := by
      by_cases h : j < i
      · rw [if_pos h, Int.min_eq_right (by omega)]
      · rw [if_neg h, Int.min_eq_left (by omega)]
    have h := run_min_int2 (P := P) (w := w) ts o.type k k i j
    rw [e] at h
    simp only [execOp, hop, resolve, invoke, builtin, hf.ev hx, hf.ev hy]
    simpa [hf.ev hx, hf.ev hy] using run_val h
section
variable {e sz m : Nat} {x : Operand} {v u zero : Value} {cs us : List Value} {pl : List (Nat × Nat)} {j d i : Nat}
end
end
end Go.Proofs.YtbmnnbglipkidaaGreatDoor

namespace Go.Proofs.YtbmnnbglipkidaaGreatDoor
set_option linter.unusedVariables false
set_option linter.unusedSimpArgs false
def ordP : Nat → List (List Int)
  | 0 => [[]]
  | i + 1 => (ordP i).flatMap fun o => (List.range (i + 1)).map fun k => o.take k ++ [(i : Int)] ++ o.drop k
theorem ordP_step {i k : Nat} {o : List Int} (ho : o ∈ ordP i) (hk : k ≤ i) : o.take k ++ [(i : Int)] ++ o.drop k ∈ ordP (i + 1) := by
  rw [ordP, List.mem_flatMap]
  exact ⟨o, ho, List.mem_map.2 ⟨k, List.mem_range.2 (by omega), rfl⟩⟩
theorem ordP_len : ∀ {i : Nat} {o : List Int}, o ∈ ordP i → o.length = i ∧ ∀ y ∈ o, 0 ≤ y ∧ y < i
  | 0, o, h => by
    rw [ordP, List.mem_singleton] at h
    subst h
    simp
  | i + 1, o, h => by
    rw [ordP, List.mem_flatMap] at h
    obtain ⟨p, hp, h2⟩ := h
    obtain ⟨k, hk, rfl⟩ := List.mem_map.1 h2
    obtain ⟨h3, h4⟩ := ordP_len hp
    have hk2 := List.mem_range.1 hk
    refine ⟨by simp; omega, fun y hy => ?_⟩
    rcases List.mem_append.1 hy with hy | hy
    · rcases List.mem_append.1 hy with hy | hy
      · have := h4 y (List.mem_of_mem_take hy); omega
      · rw [List.mem_singleton.1 hy]; omega
    · have := h4 y (List.mem_of_mem_drop hy); omega
def tpL : List ByteArray := [⟨#[65, 49]⟩, ⟨#[65, 50]⟩, ⟨#[65, 51]⟩, ⟨#[66, 50]⟩, ⟨#[66, 51]⟩, ⟨#[67, 51]⟩, ⟨#[71, 50]⟩, ⟨#[65, 49, 43, 65, 49]⟩, ⟨#[65, 49, 43, 65, 50]⟩, ⟨#[65, 49, 43, 66, 50]⟩, ⟨#[68, 52]⟩, ⟨#[65, 52]⟩, ⟨#[65, 49, 43, 71, 50]⟩, ⟨#[66, 50, 43, 66, 50]⟩, ⟨#[65, 49, 43, 65, 49, 43, 65, 49]⟩, ⟨#[65, 50, 43, 65, 50]⟩, ⟨#[67, 52]⟩, ⟨#[66, 52]⟩, ⟨#[70, 52]⟩]
def tpNm (k : Nat) : ByteArray := tpL.getD k ⟨#[]⟩
def tpKs : Nat → List Nat
  | 0 => [0]
  | 1 => [1]
  | 2 => [2]
  | 3 => [4]
  | 4 => [5]
  | 5 => [7]
  | 6 => [11]
  | 7 => [0, 0]
  | 8 => [0, 1]
  | 9 => [0, 4]
  | 10 => [9]
  | 11 => [3]
  | 12 => [0, 11]
  | 13 => [4, 4]
  | 14 => [0, 0, 0]
  | 15 => [1, 1]
  | 16 => [8]
  | 17 => [6]
  | _ => [10]
def tpN (k : Nat) : Int := (rkS (tpKs k) : Nat)
def tpD (k : Nat) : List Int := (matOf (tpKs k)).2
def chkTp (k : Nat) : Bool := cF (tpNm k) == some (tpKs k) && decide (1 ≤ tpN k) && decide (tpN k ≤ 4) && ((tpD k).length == ((tpN k) * (tpN k)).toNat) && (tyS (tpN k) (tpD k)).isSome && (ordP (tpN k).toNat).all fun o => tyS (tpN k) (subD (tpN k) (tpD k) o) == tyS (tpN k) (tpD k)
set_option maxRecDepth 100000 in
theorem chkTp_a : (List.range 10).all chkTp = true := by decide +kernel
set_option maxRecDepth 100000 in
theorem chkTp_b : (List.range 3).all (fun k => chkTp (k + 10)) = true := by decide +kernel
set_option maxRecDepth 100000 in
theorem chkTp_c : (List.range 3).all (fun k => chkTp (k + 13)) = true := by decide +kernel
set_option maxRecDepth 100000 in
theorem chkTp_d : (List.range 3).all (fun k => chkTp (k + 16)) = true := by decide +kernel
theorem tpOk {k : Nat} (hk : k < 19) : cR (tpNm k) = tpN k ∧ cD (tpNm k) = tpD k ∧ cF (tpNm k) = some (tpKs k) ∧ (1 ≤ tpN k ∧ tpN k ≤ 4) ∧ (tyS (tpN k) (tpD k)).isSome = true ∧ ∀ o ∈ ordP (tpN k).toNat, tyS (tpN k) (subD (tpN k) (tpD k) o) = tyS (tpN k) (tpD k) := by
  have h : chkTp k = true := by
    rcases (by omega : k < 10 ∨ (10 ≤ k ∧ k < 13) ∨ (13 ≤ k ∧ k < 16) ∨ (16 ≤ k ∧ k < 19)) with h | h | h | h
    · exact List.all_eq_true.1 chkTp_a k (List.mem_range.2 h)
    · have := List.all_eq_true.1 chkTp_b (k - 10) (List.mem_range.2 (by omega)); rwa [show k - 10 + 10 = k by omega] at this
    · have := List.all_eq_true.1 chkTp_c (k - 13) (List.mem_range.2 (by omega)); rwa [show k - 13 + 13 = k by omega] at this
    · have := List.all_eq_true.1 chkTp_d (k - 16) (List.mem_range.2 (by omega)); rwa [show k - 16 + 16 = k by omega] at this
  simp only [chkTp, Bool.and_eq_true, beq_iff_eq, decide_eq_true_eq, List.all_eq_true] at h
  obtain ⟨⟨⟨⟨⟨a, b⟩, c⟩, e⟩, f⟩, g⟩ := h
  exact ⟨by rw [cR, a]; rfl, by rw [cD, a]; rfl, a, ⟨b, c⟩, f, g⟩
theorem tpNm_all : (List.range 19).all (fun k => Nat.ble (tpNm k).size 20) = true := by decide +kernel
theorem tpNm_sz {k : Nat} (hk : k < 19) : (tpNm k).size ≤ 20 := Nat.le_of_ble_eq_true (List.all_eq_true.1 tpNm_all k (List.mem_range.2 hk))
theorem cd_small {n : Int} {d : List Int} (h : (tyS n d).isSome = true) : d.length ≤ 16 := by
  obtain ⟨h1, h2⟩ := tyS_ok h
  rcases (by omega : n = 1 ∨ n = 2 ∨ n = 3 ∨ n = 4) with rfl | rfl | rfl | rfl <;> omega
theorem ordP_next {a k : Nat} {os : List Int} (ho : os ∈ ordP a) (hl : os.length = a) (hk : k ≤ a) : (((os.drop 0).take (k - 0)) ++ [(a : Int)]) ++ ((os.drop k).take (os.length - k)) ∈ ordP (a + 1) := by
  rw [List.drop_zero, Nat.sub_zero, show (os.drop k).take (os.length - k) = os.drop k from List.take_of_length_le (by rw [List.length_drop]; omega)]
  exact ordP_step ho hk
end Go.Proofs.YtbmnnbglipkidaaGreatDoor
