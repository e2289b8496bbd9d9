/-
  Slices of structs of three whole numbers and a slice of whole numbers: how they are made, filled, read and changed, in the words of XSep.
-/
import Derived.Test.YtbmnnbglipkidaaMan
namespace Go.Proofs.Ytbmnnbglipkidaa
set_option linter.unusedVariables false
set_option linter.unusedSimpArgs false
open Go.RowKit
abbrev Hd := Int × Int × Int
def hd0 : Hd := (0, 0, 0)
def hdC (u : Value) (h : Hd) : List Value := [.int .i64 h.1, .int .i64 h.2.1, .int .i64 h.2.2, u]
def hdR (us : List Value) (hs : List Hd) : List (List Value) := (List.range hs.length).map fun k => hdC (us.getD k undef) (hs.getD k hd0)
def hds (e : Nat) (v : Value) (us : List Value) (hs : List Hd) : Asn := row e 4 v hs.length (hdR us hs).flatten
def zrow4 : List Value := [.int .i64 0, .int .i64 0, .int .i64 0, .slice none 0 0]
def hdp (e : Nat) (v : Value) (us : List Value) (hs : List Hd) (n : Nat) : Asn := row e 4 v n (hdR us hs ++ List.replicate (n - hs.length) zrow4).flatten
abbrev Hds (w : World) (v : Value) (us : List Value) (hs : List Hd) : Prop := Sl w v hs.length 4 (hdR us hs).flatten
theorem hdR_len (us : List Value) (hs : List Hd) : (hdR us hs).length = hs.length := by simp [hdR]
theorem hdR_wf (us : List Value) (hs : List Hd) : ∀ r ∈ hdR us hs, r.length = 4 := by
  intro r hr
  obtain ⟨k, _, rfl⟩ := List.mem_map.1 hr
  rfl
theorem hdR_get {us : List Value} {hs : List Hd} {k : Nat} (h : k < hs.length) : (hdR us hs).getD k [] = hdC (us.getD k undef) (hs.getD k hd0) := by simp [hdR, List.getD, h]
theorem flat4_get {rs : List (List Value)} (hw : ∀ r ∈ rs, r.length = 4) {k d : Nat} (hk : k < rs.length) (hd : d < 4) : rs.flatten.getD (k * 4 + d) undef = (rs.getD k []).getD d undef := by
  have h := flat_get hw hk
  rw [← h]
  simp [List.getD, List.getElem?_take, List.getElem?_drop, hd]
theorem hdR_at {us : List Value} {hs : List Hd} {k : Nat} (h : k < hs.length) (d : Nat) (hd : d < 4) : (hdR us hs).flatten.getD (k * 4 + d) undef = (hdC (us.getD k undef) (hs.getD k hd0)).getD d undef := by
  rw [flat4_get (hdR_wf _ _) (by rw [hdR_len]; exact h) hd, hdR_get h]
theorem hdR_f0 {us : List Value} {hs : List Hd} {k : Nat} (h : k < hs.length) : (hdR us hs).flatten.getD (k * 4 + 0) undef = .int .i64 (hs.getD k hd0).1 := hdR_at h 0 (by omega)
theorem hdR_f1 {us : List Value} {hs : List Hd} {k : Nat} (h : k < hs.length) : (hdR us hs).flatten.getD (k * 4 + 1) undef = .int .i64 (hs.getD k hd0).2.1 := hdR_at h 1 (by omega)
theorem hdR_f2 {us : List Value} {hs : List Hd} {k : Nat} (h : k < hs.length) : (hdR us hs).flatten.getD (k * 4 + 2) undef = .int .i64 (hs.getD k hd0).2.2 := hdR_at h 2 (by omega)
theorem hdR_f3 {us : List Value} {hs : List Hd} {k : Nat} (h : k < hs.length) : (hdR us hs).flatten.getD (k * 4 + 3) undef = us.getD k undef := hdR_at h 3 (by omega)
theorem AllS.take {us : List Value} (h : AllS us) (k : Nat) : AllS (us.take k) := fun u hu => h u (List.mem_of_mem_take hu)
theorem us_take {us : List Value} {k : Nat} (h : k < us.length) : us.take (k + 1) = us.take k ++ [us.getD k undef] := by
  rw [List.take_succ_eq_append_getElem h]
  simp [List.getD, h]
theorem hdR_snoc {us : List Value} {hs : List Hd} {u : Value} {r : Hd} (h : us.length = hs.length) : hdR (us ++ [u]) (hs ++ [r]) = hdR us hs ++ [hdC u r] := by
  simp only [hdR, List.length_append, List.length_singleton, List.range_succ, List.map_append, List.map_cons, List.map_nil]
  congr 1
  · refine List.map_congr_left fun k hk => ?_
    simp only [List.mem_range] at hk
    simp [List.getD, List.getElem?_append_left, hk, h]
  · simp [List.getD, h]
theorem hdp_full {e : Nat} {v : Value} {us : List Value} {hs : List Hd} {n : Nat} (h : hs.length = n) : hdp e v us hs n = hds e v us hs := by
  subst h
  simp [hdp, hds]
theorem madeCells_four (a b c d : Value) (m : Nat) : (madeCells #[a, b, c, d] (m * 4)).toList = (List.replicate m [a, b, c, d]).flatten := by
  induction m with
  | zero => simp [madeCells]
  | succ m ih =>
    rw [List.replicate_succ', List.flatten_append, ← ih, Nat.add_mul, Nat.one_mul]
    simp only [madeCells, Array.toList_map, Array.toList_range, List.range_succ, List.map_append, List.map_cons, List.map_nil, List.append_assoc]
    congr 1
    have h0 : m * 4 % 4 = 0 := by omega
    have h1 : (m * 4 + 1) % 4 = 1 := by omega
    have h2 : (m * 4 + 2) % 4 = 2 := by omega
    have h3 : (m * 4 + 3) % 4 = 3 := by omega
    simp [h0, h1, h2, h3]
theorem flat_len4 {rs : List (List Value)} (h : ∀ r ∈ rs, r.length = 4) : rs.flatten.length = rs.length * 4 := by
  induction rs with
  | nil => rfl
  | cons r rs ih =>
    rw [List.flatten_cons, List.length_append, ih fun r hr => h r (by simp [hr]), h r (by simp), List.length_cons]
    omega
def hdSet (h : Hd) (d : Nat) (a : Int) : Hd := match d with | 0 => (a, h.2.1, h.2.2) | 1 => (h.1, a, h.2.2) | _ => (h.1, h.2.1, a)
theorem hdC_set {u : Value} {h : Hd} {d : Nat} {a : Int} (hd : d < 3) : hdC u (hdSet h d a) = (hdC u h).set d (.int .i64 a) := by
  match d, hd with
  | 0, _ => rfl
  | 1, _ => rfl
  | 2, _ => rfl
theorem flat_set4 {b : Value} : ∀ {rs : List (List Value)}, (∀ r ∈ rs, r.length = 4) → ∀ {k d : Nat}, k < rs.length → d < 4 → rs.flatten.set (k * 4 + d) b = (rs.set k ((rs.getD k []).set d b)).flatten
  | [], _, _, _, h, _ => by simp at h
  | r :: rs, hw, 0, d, _, hd => by
    have hr := hw r (by simp)
    simp only [Nat.zero_mul, Nat.zero_add, List.flatten_cons, List.set_cons_zero, List.getD_cons_zero]
    rw [List.set_append_left _ _ (by omega)]
  | r :: rs, hw, k + 1, d, h, hd => by
    have hr := hw r (by simp)
    have ih := flat_set4 (b := b) (rs := rs) (fun x hx => hw x (by simp [hx])) (k := k) (d := d) (by simpa using h) hd
    simp only [List.flatten_cons, List.set_cons_succ, List.getD_cons_succ]
    rw [List.set_append_right _ _ (by omega), ← ih]
    congr 2
    omega
theorem hdR_set {us : List Value} {hs : List Hd} {k d : Nat} {a : Int} (hk : k < hs.length) (hd : d < 3) : (hdR us (hs.set k (hdSet (hs.getD k hd0) d a))).flatten = (hdR us hs).flatten.set (k * 4 + d) (.int .i64 a) := by
  rw [flat_set4 (hdR_wf us hs) (by rw [hdR_len]; exact hk) (by omega), hdR_get hk, ← hdC_set hd]
  congr 1
  refine List.ext_getElem (by simp [hdR]) fun j h1 h2 => ?_
  simp only [hdR, List.getElem_map, List.getElem_range, List.getElem_set]
  by_cases e : k = j
  · subst e
    simp [List.getD, hk]
  · simp [e, List.getD, List.getElem?_set]
section
variable {P : Program} {n : Nat} {env : List (Nat × Value)} {W : World} {own : List Asn} {o : Oper}
theorem Ent.hds {i e : Nat} {v : Value} {us : List Value} {hs : List Hd} (h : own[i]? = some (hds e v us hs)) : Ent own fun w => Hds w v us hs := Ent.row h
theorem Ent.hdp {i e m : Nat} {v : Value} {us : List Value} {hs : List Hd} (h : own[i]? = some (hdp e v us hs m)) : Ent own fun w => Sl w v m 4 (hdR us hs ++ List.replicate (m - hs.length) zrow4).flatten := Ent.row h
theorem OG.makeHds {t : TypeId} {e bytes : Nat} {x c : Operand} (hop : o.op = .makeSlice t x c) (et : ET P t e 4 bytes (.agg #[.int .i64 0, .int .i64 0, .int .i64 0, .slice none 0 0])) {q : Int} (hx : ev env x = some (.int .i64 q)) (hc : ev env c = some (.int .i64 q)) (hq : 0 ≤ q) (hb : bytes * q.toNat ≤ 281474976710656) (hm : q.toNat ≤ maxLen) :
    OG P o n env W own fun v own' => IsS v ∧ own' = hdp e v [] [] q.toNat :: own := fun a w next Q hf hs hk => by
  refine OG.make (P := P) hop et hx hc hq hb hm a w next Q hf hs fun v w' own' ⟨h1, h2⟩ hs' => hk v w' own' ⟨h1, ?_⟩ hs'
  rw [h2]
  show row e 4 v q.toNat (madeCells #[.int .i64 0, .int .i64 0, .int .i64 0, .slice none 0 0] (q.toNat * 4)).toList :: own = _
  rw [madeCells_four]
  rfl
theorem OD.storeHd {e m j : Nat} {x y : Operand} {v u : Value} {r : Hd} {us : List Value} {hs : List Hd} {pl : List (Nat × Nat)} {zero : Value} {i : Nat} (hop : o.op = .store e x y) (ti : TI P e true 4 zero pl) (hx : ev env x = some (elemPtr v 4 j)) (hy : ev env y = some (.agg (hdC u r).toArray)) (hu : IsS u)
    (hi : own[i]? = some (Proofs.Ytbmnnbglipkidaa.hdp e v us hs m)) (hj : j = hs.length) (hjm : j < m) (hl : us.length = hs.length) : OD P o n env W own undef (own.set i (Proofs.Ytbmnnbglipkidaa.hdp e v (us ++ [u]) (hs ++ [r]) m)) := by
  have hR : (hdR us hs).length = j := by rw [hdR_len, hj]
  have hF : (hdR us hs).flatten.length = j * 4 := by rw [flat_len4 (hdR_wf _ _), hR]
  have h := store_cells (P := P) (n := n) (W := W) (us := hdC u r) (q := j * 4) hop ti (fun g cap hv => by
    subst hv
    rw [hx]
    simp only [elemPtr, Addr.add]
    split <;> simp_all) hy rfl rfl (by simp only [hdC, List.all_cons, List.all_nil, hu.one]; rfl) hi (by omega) (by omega)
  have hm : m - hs.length = (m - (hs.length + 1)) + 1 := by omega
  have e1 : Proofs.Ytbmnnbglipkidaa.hdp e v (us ++ [u]) (hs ++ [r]) m = row e 4 v m ((hdR us hs ++ List.replicate (m - hs.length) zrow4).flatten.take (j * 4) ++ hdC u r ++ (hdR us hs ++ List.replicate (m - hs.length) zrow4).flatten.drop (j * 4 + 4)) := by
    unfold Proofs.Ytbmnnbglipkidaa.hdp
    have a1 : (hdR (us ++ [u]) (hs ++ [r]) ++ List.replicate (m - (hs ++ [r]).length) zrow4).flatten = (hdR us hs).flatten ++ hdC u r ++ (List.replicate (m - (hs.length + 1)) zrow4).flatten := by
      rw [hdR_snoc hl, show (hs ++ [r]).length = hs.length + 1 by simp]
      simp [List.flatten_append]
    have a2 : (hdR us hs ++ List.replicate (m - hs.length) zrow4).flatten = (hdR us hs).flatten ++ (zrow4 ++ (List.replicate (m - (hs.length + 1)) zrow4).flatten) := by
      rw [hm, List.replicate_succ]
      simp [List.flatten_append]
    rw [a1, a2, List.take_left' hF]
    congr 2
    rw [← List.append_assoc, List.drop_left' (by simp [hF, zrow4])]
  rw [e1]
  exact h
theorem OD.loadHd {e : Nat} {x : Operand} {v : Value} {us : List Value} {hs : List Hd} {pl : List (Nat × Nat)} {zero : Value} {j : Nat} (hop : o.op = .load e x) (ti : TI P e true 4 zero pl) (hx : ev env x = some (elemPtr v 4 j)) (hv : Ent own fun w => Hds w v us hs) (hj : j < hs.length) : OD P o n env W own (.agg #[.int .i64 (hs.getD j hd0).1, .int .i64 (hs.getD j hd0).2.1, .int .i64 (hs.getD j hd0).2.2, us.getD j undef]) own :=
  OD.loadAggElem (us := hdC (us.getD j undef) (hs.getD j hd0)) hop ti hx hv hj ((flat_get (hdR_wf us hs) (by rw [hdR_len]; exact hj)).trans (hdR_get hj)) rfl
theorem OD.storeHdF {e i d j t : Nat} {x y : Operand} {v z : Value} {us : List Value} {hs : List Hd} {a : Int} {pl : List (Nat × Nat)} (hop : o.op = .store t x y) (ti : TI P t false 1 z pl) (hx : ev env x = some (elemPtrF v 4 j d)) (hy : ev env y = some (.int .i64 a))
    (hi : own[i]? = some (Proofs.Ytbmnnbglipkidaa.hds e v us hs)) (hj : j < hs.length) (hd : d < 3) : OD P o n env W own undef (own.set i (Proofs.Ytbmnnbglipkidaa.hds e v us (hs.set j (hdSet (hs.getD j hd0) d a)))) := by
  have hF : (hdR us hs).flatten.length = hs.length * 4 := by rw [flat_len4 (hdR_wf _ _), hdR_len]
  have h := store_cells (P := P) (n := n) (W := W) (us := [.int .i64 a]) (q := j * 4 + d) hop ti (fun g cap hv => by
    subst hv
    rw [hx]
    simp only [elemPtrF, elemPtr, Addr.add]
    split <;> simp_all) hy rfl rfl rfl hi (by omega) (by omega)
  have e1 : Proofs.Ytbmnnbglipkidaa.hds e v us (hs.set j (hdSet (hs.getD j hd0) d a)) = row e 4 v hs.length ((hdR us hs).flatten.take (j * 4 + d) ++ [.int .i64 a] ++ (hdR us hs).flatten.drop (j * 4 + d + 1)) := by
    unfold Proofs.Ytbmnnbglipkidaa.hds
    rw [hdR_set hj hd, List.length_set, List.set_eq_take_append_cons_drop, if_pos (by omega)]
    simp
  rw [e1]
  exact h
end
def szD : List (List Int) → Int → Int
  | [], q => q
  | r :: rs, q => if szG r.length q < 0 then -1 else szD rs (szG r.length q)
def szM (ds : List (List Int)) (q : Int) : Int := if q - ds.length < 0 then -1 else szD ds (q - ds.length)
theorem szD_step {xs : List (List Int)} {k : Nat} {q c : Int} (hk : k < xs.length) (h : szD (xs.drop k) c = q) : (szG (xs.getD k []).length c < 0 → q = -1) ∧ (¬ szG (xs.getD k []).length c < 0 → szD (xs.drop (k + 1)) (szG (xs.getD k []).length c) = q) := by
  have e : xs.drop k = xs.getD k [] :: xs.drop (k + 1) := by
    rw [List.drop_eq_getElem_cons hk]
    simp [List.getD, hk]
  rw [e, szD] at h
  constructor
  · intro hn
    rw [if_pos hn] at h
    exact h.symm
  · intro hn
    rw [if_neg hn] at h
    exact h
theorem szD_end {xs : List (List Int)} {k : Nat} {q c : Int} (hk : xs.length ≤ k) (h : szD (xs.drop k) c = q) : c = q := by
  rw [List.drop_eq_nil_of_le hk] at h
  exact h
def sumL (ds : List (List Int)) (k : Nat) : Nat := ((ds.take k).map List.length).sum
theorem szD_ok : ∀ {xs : List (List Int)} {q : Int}, 0 ≤ q → ¬ szD xs q < 0 → szD xs q ≤ q ∧ ((xs.map List.length).sum : Int) ≤ q ∧ ∀ r ∈ xs, (r.length : Int) ≤ q
  | [], q, h0, _ => ⟨Int.le_refl _, by simpa using h0, fun r hr => by simp at hr⟩
  | r :: rs, q, h0, h => by
    rw [szD] at h ⊢
    split at h
    · omega
    · rename_i h1
      rw [if_neg h1]
      have h2 := szG_ok h1
      have h3 := szD_ok (xs := rs) (q := szG r.length q) (by omega) h
      have h4 : szG r.length q + r.length ≤ q := by
        unfold szG at h1 ⊢
        split at h1
        · omega
        · rename_i h5
          rw [if_neg h5]
          omega
      refine ⟨by omega, by rw [List.map_cons, List.sum_cons]; omega, fun x hx => ?_⟩
      rcases List.mem_cons.1 hx with hx | hx
      · subst hx
        omega
      · have := h3.2.2 x hx
        omega
theorem szM_ok {xs : List (List Int)} {q : Int} (h : ¬ szM xs q < 0) : (xs.length : Int) ≤ q ∧ ((xs.map List.length).sum : Int) ≤ q ∧ ∀ k, k < xs.length → ((xs.getD k []).length : Int) ≤ q := by
  unfold szM at h
  split at h
  · omega
  · rename_i h1
    have h2 := szD_ok (by omega) h
    refine ⟨by omega, by omega, fun k hk => ?_⟩
    have := h2.2.2 (xs.getD k []) (by simp [List.getD, hk])
    omega
theorem sumL_succ {ds : List (List Int)} {k : Nat} (h : k < ds.length) : sumL ds (k + 1) = sumL ds k + (ds.getD k []).length := by
  rw [sumL, List.take_succ_eq_append_getElem h, List.map_append, List.sum_append]
  simp [sumL, List.getD, h]
theorem sumL_le {ds : List (List Int)} : ∀ (k : Nat), sumL ds k ≤ (ds.map List.length).sum := fun k => by
  have h : (ds.map List.length).sum = ((ds.take k).map List.length).sum + ((ds.drop k).map List.length).sum := by
    rw [← List.sum_append, ← List.map_append, List.take_append_drop]
  rw [sumL]
  omega
def mkN (ds : List (List Int)) (k : Nat) : Nat := 3 * k + sumL ds k
theorem mkN_zero (ds : List (List Int)) : mkN ds 0 = 0 := by simp [mkN, sumL]
theorem mkN_succ {ds : List (List Int)} {k : Nat} (h : k < ds.length) : mkN ds (k + 1) = mkN ds k + 3 + (ds.getD k []).length := by
  rw [mkN, mkN, sumL_succ h]
  omega
theorem mkN_bd {ds : List (List Int)} {k : Nat} (h1 : ds.length ≤ 1048576) (h2 : (ds.map List.length).sum ≤ 1048576) (hk : k ≤ ds.length) : mkN ds k ≤ 4194304 := by
  have := sumL_le (ds := ds) k
  rw [mkN]
  omega
theorem hd_take {hs : List Hd} {k : Nat} (h : k < hs.length) : hs.take (k + 1) = hs.take k ++ [hs.getD k hd0] := by
  rw [List.take_succ_eq_append_getElem h]
  simp [List.getD, h]
theorem li_take {ds : List (List Int)} {k : Nat} (h : k < ds.length) : ds.take (k + 1) = ds.take k ++ [ds.getD k []] := by
  rw [List.take_succ_eq_append_getElem h]
  simp [List.getD, h]
end Go.Proofs.Ytbmnnbglipkidaa
