/-
  Further laws of operations in the words of XSep: the least of two, fields of elements, stores of structs into elements.
-/
import Derived.Test.YtbmnnbglipkidaaOps2
import Derived.Lib.FrozenHead
namespace Go.Proofs.Ytbmnnbglipkidaa
set_option linter.unusedVariables false
set_option linter.unusedSimpArgs false
open Go.RowKit
section
variable {P : Program} {n : Nat} {env : List (Nat × Value)} {W : World} {own : List Asn} {o : Oper}
theorem OD.min {c : Call} {x y : Operand} {k : IntKind} {i j : Int} {ts : Array TypeId} (hop : o.op = .call c) (hc : c = { callee := .builtin .min, args := #[x, y], argTypes := ts }) (hx : ev env x = some (.int k i)) (hy : ev env y = some (.int k j)) : OD P o n env W own (.int k (Min.min i j)) own :=
  .of fun a w hf _ => by
    subst hc
    have e : (if j < i then j else i) = Min.min i j := by
      by_cases h : j < i
      · rw [if_pos h, Int.min_eq_right (by omega)]
      · rw [if_neg h, Int.min_eq_left (by omega)]
    have h := run_min_int2 (P := P) (w := w) ts o.type k k i j
    rw [e] at h
    simp only [execOp, hop, resolve, invoke, builtin, hf.ev hx, hf.ev hy]
    simpa [hf.ev hx, hf.ev hy] using run_val h
def elemPtrF (v : Value) (sz k d : Nat) : Value := match elemPtr v sz k with
  | .pointer (some a) => .pointer (some ⟨a.block, a.off + d, a.spot⟩)
  | _ => undef
section
variable {e sz m : Nat} {x : Operand} {v u zero : Value} {cs us : List Value} {pl : List (Nat × Nat)} {j d i : Nat}
theorem OD.fieldAddrE {s f : Nat} (hop : o.op = .fieldAddr s x f) (hx : ev env x = some (elemPtr v sz j)) (hv : Ent own fun w => Sl w v m sz cs) (hj : j < m) (hfd : ∀ (b k : Nat) w, (Instr.fieldAt s (.pointer (some ⟨b, k, none⟩)) f).run P w = .ok (.pointer (some ⟨b, k + d, none⟩)) w) :
    OD P o n env W own (elemPtrF v sz j d) own :=
  .of fun a w hf hs => by
    obtain ⟨b, off, h1, _⟩ := elemPtr_form (hv W w hs) hj
    simp only [execOp, hop, hf.ev hx, elemPtrF, h1]
    exact run_val (hfd _ _ _)
theorem OD.loadField (hop : o.op = .load e x) (ti : TI P e false 1 zero pl) (hx : ev env x = some (elemPtrF v sz j d)) (hv : Ent own fun w => Sl w v m sz cs) (hj : j < m) (hd : d < sz) (hu : cs.getD (j * sz + d) undef = u) : OD P o n env W own u own :=
  .of fun a w hf hs => by
    obtain ⟨b, off, h1, h2⟩ := elemPtr_form (hv W w hs) hj
    have hmul : j * sz + sz ≤ m * sz := by
      rw [← Nat.succ_mul]
      exact Nat.mul_le_mul_right _ hj
    have hcell := h2 (j * sz + d) (by omega)
    rw [← Nat.add_assoc] at hcell
    simp only [execOp, hop, hf.ev hx, elemPtrF, h1]
    refine run_val ?_
    simp only [Instr.loadAt, Instr.sureAddr, Sem.run_bind, Sem.run_pure, Result.andThen_ok, loadVar, ti.ag]
    simp [run_load, hcell, ← hu]
theorem store_cells {y : Operand} {agg : Bool} {t q k : Nat} (hop : o.op = .store t x y) (ti : TI P t agg k zero pl) (hp : ∀ g cap, v = .slice (some ⟨g, 0, none⟩) m cap → ev env x = some (.pointer (some ⟨g, q, none⟩))) (hy : ev env y = some u) (hu : u.cells = us.toArray) (hl : us.length = k) (h1 : us.all (·.oneCell') = true)
    (hi : own[i]? = some (row e sz v m cs)) (hm : 0 < m) (hq : q + k ≤ m * sz) : OD P o n env W own undef (own.set i (row e sz v m (cs.take q ++ us ++ cs.drop (q + k)))) := fun a w next Q hf hs hk => by
  obtain ⟨F1, ⟨f0, f1⟩, f2, f3⟩ := hs.upd hi
  rcases f0 with ⟨h, _⟩ | ⟨h0, g, cap, cur, rfl, hb, hg, hnc, hmm, hsz, ht⟩
  · omega
  · have hsz' : m * sz ≤ cur.size := by
      have := Nat.mul_le_mul_right sz hnc
      omega
    have hst := run_storeCells_at P g q e us 0 cur w hg (by omega) fun v hv => by simpa using List.all_eq_true.1 h1 v hv
    have hr : (execOp a.eval o).run P w = .ok .skip (w.setRow g (cur.toList.take q ++ us ++ cur.toList.drop (q + k)).toArray) := by
      simp only [Nat.add_zero, hl] at hst
      simp [execOp, hop, hf.ev (hp g cap rfl), hf.ev hy, Instr.storeAt, Instr.sureAddr, storeVar, ti.size, hu, hl, hst]
    unfold Oper.wp
    rw [hr]
    have hcl : cs.length = m * sz := h0
    have hlen : (cur.toList.take q ++ us ++ cur.toList.drop (q + k)).length = cur.size := by simp; omega
    refine hk _ _ _ ⟨rfl, rfl⟩ (f3 _ _ (fun k => k = g) rfl rfl rfl (by simp) ⟨.inr ⟨by simp; omega, g, cap, _, rfl, hb, setRow_heap w g _ _ e _ hg, hnc, hmm, by simpa using hlen.trans hsz, ?_⟩, fun k => by simp [Value.ownBlock, eq_comm]⟩ (fun k _ hk => setRow_other w g k _ fun e => hk ((f1 k).2 (by simp [Value.ownBlock, e]))) fun k hk => ?_)
    · have e1 : (cur.toList.take q ++ us ++ cur.toList.drop (q + k)).take (m * sz) = cs.take q ++ us ++ cs.drop (q + k) := by
        rw [← ht, List.take_append, List.take_append]
        simp only [List.take_take, List.length_append, List.length_take, Array.length_toList, Nat.min_eq_right (show q ≤ m * sz by omega), Nat.min_eq_left (show q ≤ m * sz by omega), Nat.min_eq_left (show q ≤ cur.size by omega), hl, List.drop_take]
        rw [List.take_of_length_le (show us.length ≤ m * sz - q by omega)]
      simpa using e1
    · subst hk
      have hF := (f1 k).2 (by simp [Value.ownBlock])
      exact ⟨.inl hF, by have := f2 _ hF; simpa using this⟩
end
end
end Go.Proofs.Ytbmnnbglipkidaa
