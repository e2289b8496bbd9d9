/-
  Further laws of operations in the words of XSep: strings, slices of strings, parts of slices, slices of structs, slices of slices.
-/
import Derived.Test.YtbmnnbglipkidaaZ03
namespace Go.Proofs.Ytbmnnbglipkidaa
set_option linter.unusedVariables false
set_option linter.unusedSimpArgs false
open Go.RowKit
section
variable {P : Program} {n : Nat} {env : List (Nat × Value)} {W : World} {own : List Asn} {o : Oper}
theorem OD.conv {s d : TypeId} {x : Operand} {k k' : IntKind} {i : Int} (hop : o.op = .convert s d x) (hc : ∀ i w, (convert s d (.int k i)).run P w = .ok (.int k' (k'.wrap i)) w) (hx : ev env x = some (.int k i)) : OD P o n env W own (.int k' (k'.wrap i)) own :=
  .of fun a w hf _ => by
    simp only [execOp, hop, hf.ev hx]
    exact run_val (hc i w)
section
variable {t : TypeId} {x y : Operand} {i e sz bytes m : Nat} {v z : Value} {cs : List Value} {xs ys : List ByteArray} {k : Int}
end
def subV (sz : Nat) (v : Value) (l h : Nat) : Value := match v with
  | .slice a _ cap => .slice (if cap = l then a else a.map (·.add (l * sz))) (h - l) (cap - l)
  | _ => undef
theorem subV_isS {sz l h : Nat} {v : Value} (hv : IsS v) : IsS (subV sz v l h) := by
  obtain ⟨a, m, cap, rfl⟩ := hv
  exact ⟨_, _, _, rfl⟩
theorem Sl.sub {w : World} {v : Value} {m sz l h : Nat} {cs : List Value} (hv : Sl w v m sz cs) (hb : l ≤ h ∧ h ≤ m) : Sl w (subV sz v l h) (h - l) sz ((cs.drop (l * sz)).take ((h - l) * sz)) := by
  obtain ⟨hl, ao, cap, rfl, h1, h2, h3, h4⟩ := hv
  have hmul : l * sz + (h - l) * sz ≤ m * sz := by
    rw [← Nat.add_mul]
    exact Nat.mul_le_mul_right _ (by omega)
  refine ⟨by simp [hl]; omega, _, _, rfl, by omega, by omega, fun hn => ?_, fun hpos => ?_⟩
  · split at hn
    · rename_i e
      omega
    · cases ao with
      | none => have := h3 rfl; omega
      | some a => simp at hn
  · obtain ⟨b, off, rfl, hb', hc⟩ := h4 (by omega)
    have hne : ¬ cap = l := by omega
    refine ⟨b, off + l * sz, by simp only [if_neg hne, Option.map_some, Addr.add]; split <;> simp_all, hb', fun k hk => ?_⟩
    rw [Nat.add_assoc, hc _ (by omega)]
    simp [List.getD, hk, List.getElem?_drop]
theorem OD.sliceSl {t : TypeId} {x y z : Operand} {e sz bytes m : Nat} {v zv : Value} {cs : List Value} {l h : Int} (hop : o.op = .slice t x (some y) (some z) none) (et : ET P t e sz bytes zv) (hx : ev env x = some v) (hy : ev env y = some (.int .i64 l)) (hz : ev env z = some (.int .i64 h)) (hv : Ent own fun w => Sl w v m sz cs) (hb : 0 ≤ l ∧ l ≤ h ∧ h ≤ (m : Nat)) :
    OD P o n env W own (subV sz v l.toNat h.toNat) own :=
  .of fun a w hf hs => by
    obtain ⟨_, ao, cap, rfl, hcap, _⟩ := hv W w hs
    obtain ⟨i, hi, hz0, hz1, hz2⟩ := info_parts et.hi
    simp only [execOp, hop, hf.ev hx, hf.ev hy, hf.ev hz, Option.map_some, Option.map_none]
    refine run_val ?_
    have h1 : 0 ≤ h ∧ h ≤ (cap : Nat) := ⟨by omega, by omega⟩
    have h3 : (h.toNat : Int) = h := by omega
    have hso : (sizeOf e).run P w = .ok sz w := by simp [sizeOf, typeInfo, hi, hz1]
    simp [Instr.sliceAt, Instr.slice, run_underlying et.ht, Instr.sliceBounds, Instr.sliceBound, asIntOf, h1, hb.1, h3, hb.2.1, hso, subV]
theorem OD.sliceTo {t : TypeId} {x z : Operand} {e sz bytes m : Nat} {v zv : Value} {cs : List Value} {h : Int} (hop : o.op = .slice t x none (some z) none) (et : ET P t e sz bytes zv) (hx : ev env x = some v) (hz : ev env z = some (.int .i64 h)) (hv : Ent own fun w => Sl w v m sz cs) (hb : 0 ≤ h ∧ h ≤ (m : Nat)) :
    OD P o n env W own (subV sz v 0 h.toNat) own :=
  .of fun a w hf hs => by
    obtain ⟨_, ao, cap, rfl, hcap, _⟩ := hv W w hs
    obtain ⟨i, hi, hz0, hz1, hz2⟩ := info_parts et.hi
    simp only [execOp, hop, hf.ev hx, hf.ev hz, Option.map_some, Option.map_none]
    refine run_val ?_
    have h1 : 0 ≤ h ∧ h ≤ (cap : Nat) := ⟨by omega, by omega⟩
    have hso : (sizeOf e).run P w = .ok sz w := by simp [sizeOf, typeInfo, hi, hz1]
    simp [Instr.sliceAt, Instr.slice, run_underlying et.ht, Instr.sliceBounds, Instr.sliceBound, asIntOf, h1, hso, subV]
theorem OD.sliceFrom {t : TypeId} {x y : Operand} {e sz bytes m : Nat} {v zv : Value} {cs : List Value} {l : Int} (hop : o.op = .slice t x (some y) none none) (et : ET P t e sz bytes zv) (hx : ev env x = some v) (hy : ev env y = some (.int .i64 l)) (hv : Ent own fun w => Sl w v m sz cs) (hb : 0 ≤ l ∧ l ≤ (m : Nat)) :
    OD P o n env W own (subV sz v l.toNat m) own :=
  .of fun a w hf hs => by
    obtain ⟨_, ao, cap, rfl, hcap, _⟩ := hv W w hs
    obtain ⟨i, hi, hz0, hz1, hz2⟩ := info_parts et.hi
    simp only [execOp, hop, hf.ev hx, hf.ev hy, Option.map_some, Option.map_none]
    refine run_val ?_
    have hso : (sizeOf e).run P w = .ok sz w := by simp [sizeOf, typeInfo, hi, hz1]
    simp [Instr.sliceAt, Instr.slice, run_underlying et.ht, Instr.sliceBounds, Instr.sliceBound, asIntOf, hb.1, hb.2, hso, subV]
theorem Ent.subInts {v : Value} {xs : List Int} {l h : Nat} (hv : Ent own fun w => Ints w v xs) (hb : l ≤ h ∧ h ≤ xs.length) : Ent own fun w => Ints w (subV 1 v l h) ((xs.drop l).take (h - l)) := fun W w hs => by
  have := Sl.sub (hv W w hs) hb
  have hl : ((xs.drop l).take (h - l)).length = h - l := by simp; omega
  unfold Ints
  rw [hl]
  simpa [List.map_take, List.map_drop] using this
theorem Held.app : ∀ {L M : List Asn} {F : Nat → Prop} {w : World}, Held (L ++ M) F w → ∃ F1 F2 : Nat → Prop, (∀ g, F g ↔ F1 g ∨ F2 g) ∧ (∀ g, F1 g → ¬ F2 g) ∧ Held L F1 w ∧ Held M F2 w
  | [], M, F, w, h => ⟨fun _ => False, F, fun g => by simp, fun _ h => h.elim, fun _ h => h, h⟩
  | A :: L, M, F, w, ⟨F1, F2, h1, h2, h3, h4⟩ => by
    obtain ⟨G1, G2, g1, g2, g3, g4⟩ := Held.app h4
    refine ⟨fun g => F1 g ∨ G1 g, G2, fun g => by rw [h1, g1, or_assoc], fun g hg hG => ?_, ⟨F1, G1, fun _ => Iff.rfl, fun g hg hG => h2 g hg ((g1 g).2 (.inl hG)), h3, g3⟩, g4⟩
    rcases hg with hg | hg
    · exact h2 g hg ((g1 g).2 (.inr hG))
    · exact g2 g hg hG
theorem Held.of_app : ∀ {L M : List Asn} {F F1 F2 : Nat → Prop} {w : World}, (∀ g, F g ↔ F1 g ∨ F2 g) → (∀ g, F1 g → ¬ F2 g) → Held L F1 w → Held M F2 w → Held (L ++ M) F w
  | [], M, F, F1, F2, w, h1, h2, h3, h4 => h4.congr fun g => by rw [h1]; exact ⟨fun h => h.resolve_left (h3 g), .inr⟩
  | A :: L, M, F, F1, F2, w, h1, h2, ⟨G1, G2, g1, g2, g3, g4⟩, h4 => by
    refine ⟨G1, fun g => G2 g ∨ F2 g, fun g => by rw [h1, g1, or_assoc], fun g hg hG => ?_, g3, Held.of_app (fun _ => Iff.rfl) (fun g hg => h2 g ((g1 g).2 (.inr hg))) g4 h4⟩
    rcases hG with hG | hG
    · exact g2 g hg hG
    · exact h2 g ((g1 g).2 (.inl hg)) hG
def pack (L : List Asn) : Asn where
  p F w := Held L F w
  loc h hw := h.loc hw
theorem St.pack {w : World} {L : List Asn} (h : St W w (L ++ own)) : St W w (pack L :: own) := by
  obtain ⟨h1, h2, h3, F, h4, h5⟩ := h
  obtain ⟨F1, F2, f1, f2, f3, f4⟩ := h5.app
  exact ⟨h1, h2, h3, F, h4, F1, F2, f1, f2, f3, f4⟩
theorem St.unpack {w : World} {L : List Asn} (h : St W w (Proofs.Ytbmnnbglipkidaa.pack L :: own)) : St W w (L ++ own) := by
  obtain ⟨h1, h2, h3, F, h4, F1, F2, f1, f2, f3, f4⟩ := h
  exact ⟨h1, h2, h3, F, h4, Held.of_app f1 f2 f3 f4⟩
def many {α : Type} (A : Value → α → Asn) (vs : List Value) (xs : List α) : Asn := pack (List.zipWith A vs xs)
theorem St.many0 {α : Type} (A : Value → α → Asn) {w : World} (h : St W w own) : St W w (many A [] [] :: own) := St.pack h
theorem St.manyPush {α : Type} {A : Value → α → Asn} {vs : List Value} {xs : List α} {u : Value} {x : α} {w : World} (hl : vs.length = xs.length) (h : St W w (A u x :: many A vs xs :: own)) : St W w (many A (vs ++ [u]) (xs ++ [x]) :: own) := by
  refine St.pack ?_
  rw [List.zipWith_append hl]
  have h1 : St W w (many A vs xs :: A u x :: own) := h.perm (List.Perm.swap _ _ _)
  have h2 := St.unpack h1
  simpa using h2
theorem G.many0 {α : Type} (A : Value → α → Asn) {ops : Array Oper} {Q : Exit → Act → World → Prop} {rest : List Oper} (h : G P ops Q rest n env W (many A [] [] :: own)) : G P ops Q rest n env W own := fun a w hf hs => h a w hf (hs.many0 A)
theorem GC.many0 {α : Type} (A : Value → α → Asn) {c : Code} {Q : Exit → Act → World → Prop} (h : GC P c Q n env W (many A [] [] :: own)) : GC P c Q n env W own := fun a w hf hs => h a w hf (hs.many0 A)
theorem GE.many0 {α : Type} (A : Value → α → Asn) {x : Exit} {Q : Exit → Act → World → Prop} (h : GE x Q n env W (many A [] [] :: own)) : GE x Q n env W own := fun a w hf hs => h a w hf (hs.many0 A)
theorem G.manyPush {α : Type} {A : Value → α → Asn} {vs : List Value} {xs : List α} {u : Value} {x : α} (hl : vs.length = xs.length) {ops : Array Oper} {Q : Exit → Act → World → Prop} {rest : List Oper} (h : G P ops Q rest n env W (many A (vs ++ [u]) (xs ++ [x]) :: own)) : G P ops Q rest n env W (A u x :: many A vs xs :: own) := fun a w hf hs => h a w hf (hs.manyPush hl)
theorem GC.manyPush {α : Type} {A : Value → α → Asn} {vs : List Value} {xs : List α} {u : Value} {x : α} (hl : vs.length = xs.length) {c : Code} {Q : Exit → Act → World → Prop} (h : GC P c Q n env W (many A (vs ++ [u]) (xs ++ [x]) :: own)) : GC P c Q n env W (A u x :: many A vs xs :: own) := fun a w hf hs => h a w hf (hs.manyPush hl)
theorem GE.manyPush {α : Type} {A : Value → α → Asn} {vs : List Value} {xs : List α} {u : Value} {x : α} (hl : vs.length = xs.length) {e : Exit} {Q : Exit → Act → World → Prop} (h : GE e Q n env W (many A (vs ++ [u]) (xs ++ [x]) :: own)) : GE e Q n env W (A u x :: many A vs xs :: own) := fun a w hf hs => h a w hf (hs.manyPush hl)
theorem Ent.many {α : Type} {A : Value → α → Asn} {vs : List Value} {xs : List α} {i k : Nat} {V : World → Prop} {d : α} (h : own[i]? = some (many A vs xs)) (h1 : k < vs.length) (h2 : k < xs.length) (hA : ∀ F w, (A (vs.getD k undef) (xs.getD k d)).p F w → V w) : Ent own V := by
  rintro W w ⟨_, _, _, F, _, hH⟩
  obtain ⟨F1, _, h3⟩ := hH.get h
  obtain ⟨F2, _, h4⟩ := Held.get (L := List.zipWith A vs xs) h3 (i := k) (A := A (vs.getD k undef) (xs.getD k d)) (by simp [List.getElem?_zipWith, List.getD, h1, h2])
  exact hA _ _ h4
theorem Ent.manyInts {vs : List Value} {xs : List (List Int)} {i k e : Nat} (h : own[i]? = some (Proofs.Ytbmnnbglipkidaa.many (Proofs.Ytbmnnbglipkidaa.ints e) vs xs)) (hk : k < vs.length ∧ k < xs.length) : Ent own fun w => Ints w (vs.getD k undef) (xs.getD k []) := Ent.many (d := []) h hk.1 hk.2 fun _ _ hp => hp.1.toSl
def AllS (vs : List Value) : Prop := ∀ u ∈ vs, IsS u
theorem AllS.get {vs : List Value} (h : AllS vs) {k : Nat} (hk : k < vs.length) : IsS (vs.getD k undef) := by
  have : vs.getD k undef = vs[k] := by simp [List.getD, hk]
  rw [this]
  exact h _ (List.getElem_mem hk)
theorem AllS.nil : AllS [] := fun _ h => by simp at h
theorem AllS.snoc {vs : List Value} {u : Value} (h : AllS vs) (hu : IsS u) : AllS (vs ++ [u]) := fun x hx => by
  rcases List.mem_append.1 hx with hx | hx
  · exact h x hx
  · simp at hx
    exact hx ▸ hu
theorem AllS.one {vs : List Value} (h : AllS vs) : ∀ u ∈ vs, u.oneCell' = true := fun u hu => (h u hu).one
theorem flat_get {rows : List (List Value)} {sz j : Nat} (h : ∀ r ∈ rows, r.length = sz) (hj : j < rows.length) : (rows.flatten.drop (j * sz)).take sz = rows.getD j [] := by
  induction rows generalizing j with
  | nil => simp at hj
  | cons r rows ih =>
    have hr := h r (by simp)
    cases j with
    | zero => simp [hr]
    | succ j =>
      have := ih (j := j) (fun r hr => h r (by simp [hr])) (by simpa using hj)
      rw [List.flatten_cons, Nat.add_mul, Nat.one_mul, Nat.add_comm, ← List.drop_drop, List.drop_left' (by omega), this]
      simp
theorem OD.loadAggElem {e sz m : Nat} {x : Operand} {v : Value} {cs us : List Value} {pl : List (Nat × Nat)} {zero : Value} {j : Nat} (hop : o.op = .load e x) (ti : TI P e true sz zero pl) (hx : ev env x = some (elemPtr v sz j)) (hv : Ent own fun w => Sl w v m sz cs) (hj : j < m) (hu : (cs.drop (j * sz)).take sz = us) (hl : us.length = sz) : OD P o n env W own (.agg us.toArray) own :=
  .of fun a w hf hs => by
    have hsl := hv W w hs
    have hcl := hsl.1
    obtain ⟨b, off, h1, h2⟩ := elemPtr_form hsl hj
    have hmul : j * sz + sz ≤ m * sz := by
      rw [← Nat.succ_mul]
      exact Nat.mul_le_mul_right _ hj
    have hlo : (loadCells ⟨b, off + j * sz, none⟩ us.length).run P w = .ok us.toArray w := by
      refine run_loadCells_list w _ us fun k u hk => ?_
      have hkl : k < us.length := (List.getElem?_eq_some_iff.1 hk).1
      rw [Addr.add_lit, Nat.add_assoc, h2 _ (by omega)]
      rw [← hu, List.getElem?_take_of_lt (by omega), List.getElem?_drop] at hk
      simp [List.getD, hk]
    rw [hl] at hlo
    simp only [execOp, hop, hf.ev hx, h1]
    refine run_val ?_
    simp only [Instr.loadAt, Instr.sureAddr, Sem.run_bind, Sem.run_pure, Result.andThen_ok, loadVar, ti.ag, ti.size, hlo, if_true]
def lst (e : Nat) (v : Value) (us : List Value) : Asn := row e 1 v us.length us
theorem Ent.lst {i e : Nat} {v : Value} {us : List Value} (h : own[i]? = some (lst e v us)) : Ent own fun w => Sl w v us.length 1 us := Ent.row h
theorem OG.buildLst {t : TypeId} {e m : Nat} {bytes : Nat} {z : Value} {xs : List Operand} {us : List Value} (hop : o.op = .buildSlice t m ((List.range' 0 m).zip xs).toArray) (et : ET P t e 1 bytes z) (hl : xs.length = m) (hm : Nat.ble m 1000 = true) (hx : Proofs.Ytbmnnbglipkidaa.evs env xs = some us) (h1 : us.all (·.oneCell') = true) (hi : us.length = m) :
    OG P o n env W own fun v own' => IsS v ∧ own' = Proofs.Ytbmnnbglipkidaa.lst e v us :: own := by
  have h := OG.buildRow (P := P) (n := n) (W := W) (own := own) hop et hl hm hx h1
  rw [← hi] at h
  exact h
theorem OG.appendLst (i : Nat) {c : Call} {t : TypeId} {x y : Operand} {e bytes : Nat} {v vx z : Value} {us news : List Value} (hop : o.op = .call c) (hc : c = { callee := .builtin .append, args := #[x, y], argTypes := #[t, t] }) (et : ET P t e 1 bytes z)
    (hx : ev env x = some v) (hy : ev env y = some vx) (hi : own[i]? = some (Proofs.Ytbmnnbglipkidaa.lst e v us)) (hv : Ent own fun w => Sl w vx news.length 1 news) (h1 : news.all (·.oneCell') = true) (hb : (us.length + news.length) * bytes ≤ 140737488355328 ∧ us.length + news.length ≤ maxLen) :
    OG P o n env W own fun v' own' => IsS v' ∧ own' = own.set i (Proofs.Ytbmnnbglipkidaa.lst e v' (us ++ news)) := by
  have h := OG.append (P := P) (n := n) (W := W) i hop hc et hx hy hi hv (fun u hu => by simpa using List.all_eq_true.1 h1 u hu) hb
  simp only [Proofs.Ytbmnnbglipkidaa.lst, List.length_append]
  exact h
theorem G.nilLst {ops : Array Oper} {Q : Exit → Act → World → Prop} {rest : List Oper} (e : Nat) (h : G P ops Q rest n env W (Proofs.Ytbmnnbglipkidaa.lst e (.slice none 0 0) [] :: own)) : G P ops Q rest n env W own := fun a w hf hs => h a w hf (hs.nilRow e 1)
theorem GE.nilLst {x : Exit} {Q : Exit → Act → World → Prop} (e : Nat) (h : GE x Q n env W (Proofs.Ytbmnnbglipkidaa.lst e (.slice none 0 0) [] :: own)) : GE x Q n env W own := fun a w hf hs => h a w hf (hs.nilRow e 1)
section
variable {t yt : TypeId} {x y : Operand} {a b : ByteArray}
end
end
end Go.Proofs.Ytbmnnbglipkidaa
