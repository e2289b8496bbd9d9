/-
  What is owned and keeps some of what it holds to itself; slices of truth values; pairs of lists as keys of maps.
-/
import Derived.Test.YtbmnnbglipkidaaGreatDoorNewA
import Derived.Test.YtbmnnbglipkidaaGreatDoorMap
namespace Go.Proofs.YtbmnnbglipkidaaGreatDoor
set_option linter.unusedVariables false
set_option linter.unusedSimpArgs false
open Go.RowKit
def hdn {ι : Type} (φ : ι → Prop) (L : ι → List Asn) : Asn where
  p F w := ∃ j, φ j ∧ (pack (L j)).p F w
  loc h hw := let ⟨j, h1, h2⟩ := h; ⟨j, h1, (pack (L j)).loc h2 hw⟩
section
variable {ι : Type} {φ : ι → Prop} {L : ι → List Asn} {W w : World} {own : List Asn} {P : Program} {n : Nat} {env : List (Nat × Value)}
theorem St.hdnClose {j : ι} (hj : φ j) (h : St W w (L j ++ own)) : St W w (Proofs.YtbmnnbglipkidaaGreatDoor.hdn φ L :: own) := by
  obtain ⟨h1, h2, h3, F, h4, F1, F2, a1, a2, a3, a4⟩ := St.pack h
  exact ⟨h1, h2, h3, F, h4, F1, F2, a1, a2, ⟨j, hj, a3⟩, a4⟩
theorem St.hdnOpen (h : St W w (Proofs.YtbmnnbglipkidaaGreatDoor.hdn φ L :: own)) : ∃ j, φ j ∧ St W w (L j ++ own) := by
  obtain ⟨h1, h2, h3, F, h4, F1, F2, a1, a2, ⟨j, hj, a3⟩, a4⟩ := h
  exact ⟨j, hj, St.unpack ⟨h1, h2, h3, F, h4, F1, F2, a1, a2, a3, a4⟩⟩
theorem GC.hdnOpen {c : Code} {Q : Exit → Act → World → Prop} (h : ∀ j, φ j → GC P c Q n env W (L j ++ own)) : GC P c Q n env W (Proofs.YtbmnnbglipkidaaGreatDoor.hdn φ L :: own) := fun a w hf hs => by
  obtain ⟨j, h1, h2⟩ := hs.hdnOpen
  exact h j h1 a w hf h2
theorem GC.hdnClose {c : Code} {Q : Exit → Act → World → Prop} (j : ι) (hj : φ j) (h : GC P c Q n env W (Proofs.YtbmnnbglipkidaaGreatDoor.hdn φ L :: own)) : GC P c Q n env W (L j ++ own) := fun a w hf hs => h a w hf (hs.hdnClose hj)
theorem G.hdnOpen {ops : Array Oper} {Q : Exit → Act → World → Prop} {rest : List Oper} (h : ∀ j, φ j → G P ops Q rest n env W (L j ++ own)) : G P ops Q rest n env W (Proofs.YtbmnnbglipkidaaGreatDoor.hdn φ L :: own) := fun a w hf hs => by
  obtain ⟨j, h1, h2⟩ := hs.hdnOpen
  exact h j h1 a w hf h2
theorem G.hdnClose {ops : Array Oper} {Q : Exit → Act → World → Prop} {rest : List Oper} (j : ι) (hj : φ j) (h : G P ops Q rest n env W (Proofs.YtbmnnbglipkidaaGreatDoor.hdn φ L :: own)) : G P ops Q rest n env W (L j ++ own) := fun a w hf hs => h a w hf (hs.hdnClose hj)
theorem GE.hdnClose {e : Exit} {Q : Exit → Act → World → Prop} (j : ι) (hj : φ j) (h : GE e Q n env W (Proofs.YtbmnnbglipkidaaGreatDoor.hdn φ L :: own)) : GE e Q n env W (L j ++ own) := fun a w hf hs => h a w hf (hs.hdnClose hj)
theorem Spec.atIdx {f : FuncId} {vs : List Value} {A : Asn} {i : Nat} {r : Value} (h : own[i]? = some A) (hs : Spec P f vs W (A :: own.eraseIdx i) fun v ow => v = r ∧ ow = A :: own.eraseIdx i) : Spec P f vs W own fun v ow => v = r ∧ ow = own := fun w hst => by
  refine (hs w (hst.perm (perm_front h))).mono ?_
  rintro e w2 ⟨v, ow, he, ⟨hv, rfl⟩, hs2⟩
  exact ⟨v, own, he, ⟨hv, rfl⟩, hs2.perm (perm_front h).symm⟩
theorem Spec.atIdx2 {f : FuncId} {vs : List Value} {A B : Asn} {i j : Nat} {r : Value} (h : own[i]? = some A) (h2 : (own.eraseIdx i)[j]? = some B) (hs : Spec P f vs W (A :: B :: (own.eraseIdx i).eraseIdx j) fun v ow => v = r ∧ ow = A :: B :: (own.eraseIdx i).eraseIdx j) : Spec P f vs W own fun v ow => v = r ∧ ow = own := fun w hst => by
  have p1 := perm_front h
  have p2 := (perm_front h2).cons A
  refine (hs w ((hst.perm p1).perm p2)).mono ?_
  rintro e w2 ⟨v, ow, he, ⟨hv, rfl⟩, hs2⟩
  exact ⟨v, own, he, ⟨hv, rfl⟩, (hs2.perm p2.symm).perm p1.symm⟩
def bls (e : Nat) (v : Value) (xs : List Bool) : Asn := row e 1 v xs.length (xs.map Value.bool)
variable {o : Oper} {e t bytes : Nat} {x y : Operand} {v : Value} {xs : List Bool} {i j : Nat}
theorem Ent.bls (h : own[i]? = some (Proofs.YtbmnnbglipkidaaGreatDoor.bls e v xs)) : Ent own fun w => Sl w v xs.length 1 (xs.map Value.bool) := Ent.row h
theorem OD.loadBool {pl : List (Nat × Nat)} {zero : Value} (hop : o.op = .load e x) (ti : TI P e false 1 zero pl) (hx : ev env x = some (elemPtr v 1 j)) (hv : Ent own fun w => Sl w v xs.length 1 (xs.map Value.bool)) (hj : j < xs.length) : OD P o n env W own (.bool (xs.getD j false)) own :=
  OD.loadElem hop ti hx hv hj (by simp [List.getD, hj])
theorem OD.storeBool {pl : List (Nat × Nat)} {zero : Value} {q : Bool} (hop : o.op = .store e x y) (ti : TI P e false 1 zero pl) (hx : ev env x = some (elemPtr v 1 j)) (hy : ev env y = some (.bool q))
    (hi : own[i]? = some (Proofs.YtbmnnbglipkidaaGreatDoor.bls e v xs)) (hj : j < xs.length) : OD P o n env W own undef (own.set i (Proofs.YtbmnnbglipkidaaGreatDoor.bls e v (xs.set j q))) := by
  have h := OD.storeElem (P := P) (n := n) (W := W) hop ti hx hy rfl hi hj
  have e1 : (xs.map Value.bool).set j (.bool q) = (xs.set j q).map Value.bool := by simp [List.map_set]
  rw [e1] at h
  simpa [Proofs.YtbmnnbglipkidaaGreatDoor.bls] using h
theorem OG.makeBools {c : Operand} (hop : o.op = .makeSlice t x c) (et : ET P t e 1 1 (.bool false)) {q : Int} (hx : ev env x = some (.int .i64 q)) (hc : ev env c = some (.int .i64 q)) (hq : 0 ≤ q ∧ q ≤ 1099511627776) :
    OG P o n env W own fun v own' => IsS v ∧ own' = Proofs.YtbmnnbglipkidaaGreatDoor.bls e v (List.replicate q.toNat false) :: own := fun a w next Q hf hs hk => by
  refine OG.make (P := P) hop et hx hc hq.1 (by omega) (by simp [maxLen]; omega) a w next Q hf hs fun v w' own' ⟨h1, h2⟩ hs' => hk v w' own' ⟨h1, ?_⟩ hs'
  rw [h2, Nat.mul_one]
  show row e 1 v q.toNat (madeCells #[Value.bool false] q.toNat).toList :: own = _
  rw [toList_madeCells_one]
  simp [Proofs.YtbmnnbglipkidaaGreatDoor.bls]
end
def prB (p : List Int × List Int) : ByteArray := (fmtB p.1 ++ ⟨#[44]⟩) ++ fmtB p.2
def keyP (p : List Int × List Int) : Value := .string (prB p)
theorem fmtL_no44 (xs : List Int) : ∀ b ∈ fmtL xs, b ≠ 44 := by
  have tail : ∀ xs : List Int, ∀ b ∈ Lib.joinTail [32] (xs.map Lib.itoa), b ≠ 44 := by
    intro xs
    induction xs with
    | nil => intro b hb; simp [Lib.joinTail] at hb
    | cons x xs ih =>
      intro b hb
      have hb' : b ∈ [(32 : UInt8)] ++ (Lib.itoa x ++ Lib.joinTail [32] (xs.map Lib.itoa)) := by simpa [Lib.joinTail] using hb
      rcases List.mem_append.1 hb' with h | h
      · rw [List.mem_singleton.1 h]; decide
      · rcases List.mem_append.1 h with h | h
        · intro e
          exact (itoa_rng x b h).2 (by rw [e]; rfl)
        · exact ih b h
  intro b hb
  cases xs with
  | nil => simp [fmtL, Lib.join] at hb
  | cons x xs =>
    have e : fmtL (x :: xs) = Lib.itoa x ++ Lib.joinTail [32] (xs.map Lib.itoa) := by rw [fmtL, List.map_cons, Lib.join_cons]
    rw [e] at hb
    rcases List.mem_append.1 hb with h | h
    · intro e
      exact (itoa_rng x b h).2 (by rw [e]; rfl)
    · exact tail xs b h
theorem prB_inj {p q : List Int × List Int} (h : prB p = prB q) : p = q := by
  have h1 : fmtL p.1 ++ 44 :: fmtL p.2 = fmtL q.1 ++ 44 :: fmtL q.2 := by
    have := congrArg (fun b : ByteArray => b.data.toList) h
    simpa [prB, fmtB, ByteArray.data_append] using this
  obtain ⟨e1, e2⟩ := cut_eq (c := 44) (fmtL_no44 _) (fmtL_no44 _) (.inr ⟨_, rfl⟩) (.inr ⟨_, rfl⟩) h1
  have e3 := fmtL_inj e1
  have e4 := fmtL_inj (List.cons.inj e2).2
  cases p
  cases q
  simp_all
theorem prB_eq (p q : List Int × List Int) : prB p = prB q ↔ p = q := ⟨prB_inj, fun h => by rw [h]⟩
theorem keyP_E {P : Program} {kt : TypeId} (h : P.underlying kt = some .string) : KeyE P kt keyP :=
  ⟨⟨_, h, fun _ => trivial, fun a b => by
    show some (prB a == prB b) = _
    rw [ba_beq]
    exact congrArg some (decide_eq_decide.2 (prB_eq a b))⟩, fun a => by
    show (prB a == prB a) = true
    rw [ba_beq, decide_eq_true rfl]⟩
end Go.Proofs.YtbmnnbglipkidaaGreatDoor
