/-
  Slices of structs of a slice of whole numbers and a whole number: how they are made, filled and read, in the words of XSep.
-/
import Derived.Test.YtmckgdekblphoaaDoorOps3
namespace Go.Proofs.YtmckgdekblphoaaDoor
set_option linter.unusedVariables false
set_option linter.unusedSimpArgs false
open Go.RowKit

def recI (e : Nat) (u : Value) (r : Rec) : Asn := ints e u r.1
def recs (e : Nat) (v : Value) (us : List Value) (xs : List Rec) : Asn := row e 2 v xs.length (recR us xs).flatten
def zrow : List Value := [.slice none 0 0, .int .i64 0]
def recp (e : Nat) (v : Value) (us : List Value) (xs : List Rec) (n : Nat) : Asn := row e 2 v n (recR us xs ++ List.replicate (n - xs.length) zrow).flatten
abbrev Recs (w : World) (v : Value) (us : List Value) (xs : List Rec) : Prop := Sl w v xs.length 2 (recR us xs).flatten
theorem recR_nil : recR [] [] = [] := rfl
theorem recR_snoc {us : List Value} {xs : List Rec} {u : Value} {r : Rec} (h : us.length = xs.length) : recR (us ++ [u]) (xs ++ [r]) = recR us xs ++ [[u, .int .i64 r.2]] := by
  simp only [recR, List.length_append, List.length_singleton, List.range_succ, List.map_append, List.map_cons, List.map_nil]
  congr 1
  · refine List.map_congr_left fun k hk => ?_
    simp only [List.mem_range] at hk
    simp [List.getD, List.getElem?_append_left, hk, h]
  · simp [List.getD, h]
theorem recp_full {e : Nat} {v : Value} {us : List Value} {xs : List Rec} {n : Nat} (h : xs.length = n) : recp e v us xs n = recs e v us xs := by
  subst h
  simp [recp, recs]
theorem madeCells_two (a b : Value) (m : Nat) : (madeCells #[a, b] (m * 2)).toList = (List.replicate m [a, b]).flatten := by
  induction m with
  | zero => simp [madeCells]
  | succ m ih =>
    rw [List.replicate_succ', List.flatten_append, ← ih, Nat.add_mul, Nat.one_mul]
    simp only [madeCells, Array.toList_map, Array.toList_range, List.range_succ, List.map_append, List.map_cons, List.map_nil, List.append_assoc]
    congr 1
    have h0 : m * 2 % 2 = 0 := by omega
    have h1 : (m * 2 + 1) % 2 = 1 := by omega
    simp [h0, h1]

section
variable {P : Program} {n : Nat} {env : List (Nat × Value)} {W : World} {own : List Asn} {o : Oper}
theorem Ent.recs {i e : Nat} {v : Value} {us : List Value} {xs : List Rec} (h : own[i]? = some (recs e v us xs)) : Ent own fun w => Recs w v us xs := Ent.row h
theorem Ent.recp {i e m : Nat} {v : Value} {us : List Value} {xs : List Rec} (h : own[i]? = some (recp e v us xs m)) : Ent own fun w => Sl w v m 2 (recR us xs ++ List.replicate (m - xs.length) zrow).flatten := Ent.row h
theorem Ent.manyRec {vs : List Value} {xs : List Rec} {i k e : Nat} (h : own[i]? = some (Proofs.YtmckgdekblphoaaDoor.many (recI e) vs xs)) (hk : k < vs.length ∧ k < xs.length) : Ent own fun w => Ints w (vs.getD k undef) (xs.getD k ([], 0)).1 := Ent.many (d := ([], 0)) h hk.1 hk.2 fun _ _ hp => hp.1.toSl
theorem Ent.nilRecs : Ent own fun w => Recs w (.slice none 0 0) [] [] := fun _ w _ => Sl.nil w 2
theorem OG.makeRecs {t : TypeId} {e bytes : Nat} {x c : Operand} (hop : o.op = .makeSlice t x c) (et : ET P t e 2 bytes (.agg #[.slice none 0 0, .int .i64 0])) {q : Int} (hx : ev env x = some (.int .i64 q)) (hc : ev env c = some (.int .i64 q)) (hq : 0 ≤ q) (hb : bytes * q.toNat ≤ 281474976710656) (hm : q.toNat ≤ maxLen) :
    OG P o n env W own fun v own' => IsS v ∧ own' = recp e v [] [] q.toNat :: own := fun a w next Q hf hs hk => by
  refine OG.make (P := P) hop et hx hc hq hb hm a w next Q hf hs fun v w' own' ⟨h1, h2⟩ hs' => hk v w' own' ⟨h1, ?_⟩ hs'
  rw [h2]
  show row e 2 v q.toNat (madeCells #[.slice none 0 0, .int .i64 0] (q.toNat * 2)).toList :: own = _
  rw [madeCells_two]
  rfl
theorem flat_len2 {rs : List (List Value)} (h : ∀ r ∈ rs, r.length = 2) : rs.flatten.length = rs.length * 2 := by
  induction rs with
  | nil => rfl
  | cons r rs ih =>
    rw [List.flatten_cons, List.length_append, ih fun r hr => h r (by simp [hr]), h r (by simp), List.length_cons]
    omega
theorem OD.storeRec {e m j : Nat} {x y : Operand} {v u : Value} {k : Int} {us : List Value} {xs : List Rec} {pl : List (Nat × Nat)} {zero : Value} {i : Nat} (wd : List Int) (hop : o.op = .store e x y) (ti : TI P e true 2 zero pl) (hx : ev env x = some (elemPtr v 2 j)) (hy : ev env y = some (.agg #[u, .int .i64 k])) (hu : IsS u)
    (hi : own[i]? = some (recp e v us xs m)) (hj : j = xs.length) (hjm : j < m) (hl : us.length = xs.length) : OD P o n env W own undef (own.set i (recp e v (us ++ [u]) (xs ++ [(wd, k)]) m)) := by
  have hR : (recR us xs).length = j := by rw [recR_len, hj]
  have hF : (recR us xs).flatten.length = j * 2 := by rw [flat_len2 (recR_wf _ _), hR]
  have h := store_cells (P := P) (n := n) (W := W) (us := [u, .int .i64 k]) (q := j * 2) hop ti (fun g cap hv => by
    subst hv
    rw [hx]
    simp only [elemPtr, Addr.add]
    split <;> simp_all) hy rfl rfl (by rw [List.all_cons, hu.one]; rfl) hi (by omega) (by omega)
  have hm : m - xs.length = (m - (xs.length + 1)) + 1 := by omega
  have e1 : recp e v (us ++ [u]) (xs ++ [(wd, k)]) m = row e 2 v m ((recR us xs ++ List.replicate (m - xs.length) zrow).flatten.take (j * 2) ++ [u, .int .i64 k] ++ (recR us xs ++ List.replicate (m - xs.length) zrow).flatten.drop (j * 2 + 2)) := by
    unfold recp
    have a1 : (recR (us ++ [u]) (xs ++ [(wd, k)]) ++ List.replicate (m - (xs ++ [(wd, k)]).length) zrow).flatten = (recR us xs).flatten ++ [u, .int .i64 k] ++ (List.replicate (m - (xs.length + 1)) zrow).flatten := by
      rw [recR_snoc hl, show (xs ++ [(wd, k)]).length = xs.length + 1 by simp]
      simp [List.flatten_append]
    have a2 : (recR us xs ++ List.replicate (m - xs.length) zrow).flatten = (recR us xs).flatten ++ (zrow ++ (List.replicate (m - (xs.length + 1)) zrow).flatten) := by
      rw [hm, List.replicate_succ]
      simp [List.flatten_append]
    rw [a1, a2, List.take_left' hF]
    congr 2
    rw [← List.append_assoc, List.drop_left' (by simp [hF, zrow])]
  rw [e1]
  exact h
theorem OD.loadRec {e : Nat} {x : Operand} {v : Value} {us : List Value} {xs : List Rec} {pl : List (Nat × Nat)} {zero : Value} {j : Nat} (hop : o.op = .load e x) (ti : TI P e true 2 zero pl) (hx : ev env x = some (elemPtr v 2 j)) (hv : Ent own fun w => Recs w v us xs) (hj : j < xs.length) : OD P o n env W own (.agg #[us.getD j undef, .int .i64 (xs.getD j ([], 0)).2]) own :=
  OD.loadAggElem (us := [us.getD j undef, .int .i64 (xs.getD j ([], 0)).2]) hop ti hx hv hj ((flat_get (recR_wf us xs) (by rw [recR_len]; exact hj)).trans (recR_get hj)) rfl
end

/-! Sizes -/
def szL : List Rec → Int → Int
  | [], q => q
  | r :: rs, q => if szG r.1.length q < 0 then -1 else szL rs (szG r.1.length q)
def szR (xs : List Rec) (q : Int) : Int := if q - xs.length < 0 then -1 else szL xs (q - xs.length)
theorem szL_step {xs : List Rec} {k : Nat} {q c : Int} (hk : k < xs.length) (h : szL (xs.drop k) c = q) : (szG (xs.getD k ([], 0)).1.length c < 0 → q = -1) ∧ (¬ szG (xs.getD k ([], 0)).1.length c < 0 → szL (xs.drop (k + 1)) (szG (xs.getD k ([], 0)).1.length c) = q) := by
  have e : xs.drop k = xs.getD k ([], 0) :: xs.drop (k + 1) := by
    rw [List.drop_eq_getElem_cons hk]
    simp [List.getD, hk]
  rw [e, szL] at h
  constructor
  · intro hn
    rw [if_pos hn] at h
    exact h.symm
  · intro hn
    rw [if_neg hn] at h
    exact h
theorem szL_end {xs : List Rec} {k : Nat} {q c : Int} (hk : xs.length ≤ k) (h : szL (xs.drop k) c = q) : c = q := by
  rw [List.drop_eq_nil_of_le hk] at h
  exact h
theorem szL_ok : ∀ {xs : List Rec} {q : Int}, 0 ≤ q → ¬ szL xs q < 0 → szL xs q ≤ q ∧ ∀ r ∈ xs, (r.1.length : Int) ≤ q
  | [], q, _, _ => ⟨Int.le_refl _, fun r hr => by simp at hr⟩
  | r :: rs, q, h0, h => by
    rw [szL] at h ⊢
    split at h
    · omega
    · rename_i h1
      rw [if_neg h1]
      have h2 := szG_ok h1
      have h3 := szL_ok (xs := rs) (q := szG r.1.length q) (by omega) h
      refine ⟨by omega, fun x hx => ?_⟩
      rcases List.mem_cons.1 hx with hx | hx
      · subst hx
        omega
      · have := h3.2 x hx
        omega
theorem szR_ok {xs : List Rec} {q : Int} (h : ¬ szR xs q < 0) : (xs.length : Int) ≤ q ∧ ∀ r ∈ xs, (r.1.length : Int) ≤ q := by
  unfold szR at h
  split at h
  · omega
  · rename_i h1
    have h2 := szL_ok (by omega) h
    refine ⟨by omega, fun r hr => ?_⟩
    have := h2.2 r hr
    omega
theorem recD_mem {xs : List Rec} {k : Nat} (h : k < xs.length) : xs.getD k ([], 0) ∈ xs := by
  have : xs.getD k ([], 0) = xs[k] := by simp [List.getD, h]
  rw [this]
  exact List.getElem_mem h
theorem rec_le {xs : List Rec} {k : Nat} (h : ∀ r ∈ xs, r.1.length ≤ 1073741824) (hk : k < xs.length) : (xs.getD k ([], 0)).1.length ≤ 9223372036854775807 := Nat.le_trans (h _ (recD_mem hk)) (by decide)
theorem rec_take {xs : List Rec} {k : Nat} (h : k < xs.length) : xs.take (k + 1) = xs.take k ++ [xs.getD k ([], 0)] := by
  rw [List.take_add_one, List.getElem?_eq_getElem h]
  simp [List.getD, h]

/-! Paths and characters -/
def pthBad (n : Int) (p : List Rec) (i : Nat) : Bool := !(wtOk n (p.getD i ([], 0)).1) || (!(inB (p.getD i ([], 0)).2 1 83160) || (decide (0 < (i : Int)) && samB (p.getD ((i : Int) - 1).toNat ([], 0)).1 (p.getD i ([], 0)).1))
def totF (p : List Rec) (m : Nat) : Int := (List.range m).foldl (fun (s : Int) (i : Nat) => IntKind.i64.wrap (s + (p.getD i ([], 0)).2)) 0
def pthOk (n : Int) (d : List Int) (p : List Rec) : Bool := (tyS n d).isSome && (decide ((p.length : Int) ≤ 60) && (!((List.range p.length).any (pthBad n p)) && ((totF p p.length).tmod 27720 == 0 && decide (totF p p.length ≤ 83160))))
def pthOk9 (n : Int) (p : List Rec) : Bool := decide ((p.length : Int) ≤ 60) && (!((List.range p.length).any (pthBad n p)) && ((totF p p.length).tmod 27720 == 0 && decide (totF p p.length ≤ 83160)))
theorem pthOk_9 (n : Int) (d : List Int) (p : List Rec) : pthOk n d p = ((tyS n d).isSome && pthOk9 n p) := rfl
theorem any_hit' {p : Nat → Bool} {k n : Nat} (hk : k < n) (hp : p k = true) : (!((List.range n).any p)) = false := by rw [any_hit hk hp]; rfl

end Go.Proofs.YtmckgdekblphoaaDoor
