/-
  The first text's roots in plain words: where each stands, as a map tells it.
-/
import Derived.Test.YtgelkakjmbiibaaGreatDoorZ12
import Derived.Test.YtgelkakjmbiibaaGreatDoorZ21
namespace Go.Proofs.YtgelkakjmbiibaaGreatDoor
set_option linter.unusedVariables false
set_option linter.unusedSimpArgs false
open Go.RowKit
def kzL : Nat → List (List Int) → List (List Int × Int)
  | _, [] => []
  | n, x :: t => (x, (n : Int)) :: kzL (n + 1) t
theorem alu_kz (x : List Int) : ∀ (L : List (List Int)) (n : Nat), (alu x (kzL n L)).isSome = L.contains x
  | [], n => rfl
  | y :: t, n => by
    rw [kzL, alu, List.contains_cons]
    by_cases h : x = y
    · rw [if_pos h]
      simp [h]
    · rw [if_neg h, alu_kz x t (n + 1)]
      simp [h]
def rPl (os : List (List Int)) (p : Nat) (l : List (List Int × Int)) : List (List Int × Int) := (List.range p).foldl (fun l i => aup (os.getD i []) (i : Int) l) l
def rKvs (n : Int) (d : List Int) : List (List Int × Int) := rPl (rSt n d) (rSt n d).length (kzL 0 (rFd n d))
theorem rPl_succ (os : List (List Int)) (p : Nat) (l : List (List Int × Int)) : rPl os (p + 1) l = aup (os.getD p []) (p : Int) (rPl os p l) := by rw [rPl, foldl_succ]; rfl
def plO (L : List (List Int)) (x : List Int) : Option Int := if L.contains x then some (plF L x) else none
theorem samB_eq {x y : List Int} : samB y x = decide (x = y) := by
  unfold samB
  exact decide_eq_decide.2 eq_comm
theorem plF_nodup {L : List (List Int)} (h : L.Nodup) {p : Nat} (hp : p < L.length) : plF L (L.getD p []) = p := by
  refine posF_at (d := []) hp ?_ (by rw [samB_eq]; exact decide_eq_true rfl)
  rw [List.any_eq_false]
  intro y hy hs
  rw [samB_eq] at hs
  have e := of_decide_eq_true hs
  obtain ⟨j, hj, rfl⟩ := List.mem_iff_getElem.1 hy
  have hjp : j < p := by simp at hj; omega
  have hjl : j < L.length := by omega
  rw [List.getElem_take] at e
  have e2 : L.getD p [] = L[p] := by simp [List.getD, hp]
  rw [e2] at e
  exact List.pairwise_iff_getElem.1 h j p hjl hp hjp e.symm
theorem alu_rPl {os : List (List Int)} (h : os.Nodup) (x : List Int) (l : List (List Int × Int)) : ∀ {p : Nat}, p ≤ os.length → alu x (rPl os p l) = if (os.take p).contains x then some (plF os x) else alu x l
  | 0, _ => by simp [rPl]
  | p + 1, hp => by
    rw [rPl_succ, alu_aup, alu_rPl h x l (by omega), takeD_snoc (d := []) (by omega)]
    by_cases e : x = os.getD p []
    · rw [if_pos e, if_pos (by simp [e])]
      rw [e, plF_nodup h (by omega)]
    · rw [if_neg e]
      have e2 : (os.take p ++ [os.getD p []]).contains x = (os.take p).contains x := by
        rw [Bool.eq_iff_iff]
        simp only [List.contains_iff_mem, List.mem_append, List.mem_singleton]
        exact ⟨fun h => h.resolve_right e, .inl⟩
      rw [e2]
theorem RtOk.snod {n : Int} {d : List Int} (h : RtOk n d) : (rSt n d).Nodup := h.perm.nodup_iff.2 h.nod
theorem RtOk.look {n : Int} {d : List Int} (h : RtOk n d) (x : List Int) : alu x (rKvs n d) = plO (rSt n d) x := by
  rw [rKvs, alu_rPl h.snod x _ (Nat.le_refl _), List.take_length, plO]
  by_cases hc : (rSt n d).contains x
  · rw [if_pos hc, if_pos hc]
  · rw [if_neg hc, if_neg hc]
    have h1 := alu_kz x (rFd n d) 0
    have h2 : (rFd n d).contains x = false := by
      cases e : (rFd n d).contains x with
      | false => rfl
      | true =>
        rw [List.contains_iff_mem, ← h.perm.mem_iff, ← List.contains_iff_mem] at e
        exact absurd e hc
    rw [h2] at h1
    exact Option.isNone_iff_eq_none.1 (Option.isSome_eq_false_iff.1 h1)
theorem RtOk.pos {n : Int} {d : List Int} (h : RtOk n d) : n.toNat ≤ (rFd n d).length := by
  have := (rC_pre h.run).len
  simpa [units] using this
theorem plO_some {L : List (List Int)} {x : List Int} : (plO L x).isSome = L.contains x := by
  unfold plO
  split
  · rename_i h; rw [h]; rfl
  · rename_i h; simpa using h
theorem unitL_get {m i k : Nat} (hk : k < m) : (unitL m i).getD k 0 = if k = i then 1 else 0 := by simp [unitL, List.getD, hk]
def ngF (x : List Int) : List Int := lpF (List.replicate x.length 0) (-1) x
def fdB (n : Int) (kv : List (List Int × Int)) (x : List Int) : Bool := decide ((x.length : Int) = n) && ((alu x kv).isSome || (alu (ngF x) kv).isSome)
theorem fold_all64 {g : Nat → List Int → Int} (hg : ∀ i o, I64 (g i o)) : ∀ (m : Nat) (x : List Int), All64 x → All64 ((List.range m).foldl (fun (o : List Int) (i : Nat) => o.set i (g i o)) x)
  | 0, x, h => h
  | m + 1, x, h => by
    rw [foldl_succ]
    intro y hy
    rcases List.mem_or_eq_of_mem_set hy with hy | rfl
    · exact fold_all64 hg m x h y hy
    · exact hg _ _
theorem wrap_I64 (i : Int) : I64 (IntKind.i64.wrap i) := by
  unfold I64
  rw [IntKind.wrap_i64]
  omega
section
variable {P : Program} {n : Nat} {env : List (Nat × Value)} {W : World} {own : List Asn} {o : Oper}
structure FD (P : Program) (T f off : Nat) : Prop where
  run : ∀ (a : Array Value) (v : Value) w, a[off]? = some v → (Instr.field T (.agg a) f).run P w = .ok v w
theorem OD.field {T f off : Nat} {x : Operand} {us : List Value} {v : Value} (hop : o.op = .field T x f) (fd : FD P T f off) (hx : ev env x = some (.agg us.toArray)) (hv : us[off]? = some v) : OD P o n env W own v own :=
  .of fun a w hf _ => by
    simp only [execOp, hop, hf.ev hx]
    exact run_val (fd.run _ _ _ (by simpa using hv))
end
end Go.Proofs.YtgelkakjmbiibaaGreatDoor
namespace Go.Proofs.YtgelkakjmbiibaaGreatDoor
set_option linter.unusedVariables false
set_option linter.unusedSimpArgs false
theorem wtOk_of {n : Int} {x : List Int} (hl : (x.length : Int) = n) (hb : ∀ k, k < x.length → -1000 ≤ x.getD k 0 ∧ x.getD k 0 ≤ 1000) : wtOk n x = true := by
  have h2 : (x.any fun y => !(inB y (-1000) 1000)) = false := by
    rw [List.any_eq_false]
    intro y hy
    obtain ⟨k, hk, rfl⟩ := List.mem_iff_getElem.1 hy
    have h := hb k hk
    have e : x.getD k 0 = x[k] := by simp [List.getD, hk]
    rw [e] at h
    simp [inB, h.1, h.2]
  rw [wtOk, h2, beq_iff_eq.2 hl]
  rfl
theorem RtOk.fd {n : Int} {d : List Int} (h : RtOk n d) (x : List Int) : fdB n (rKvs n d) x = (decide ((x.length : Int) = n) && ((rSt n d).contains x || (rSt n d).contains (ngF x))) := by
  rw [fdB, h.look, h.look, plO_some, plO_some]
end Go.Proofs.YtgelkakjmbiibaaGreatDoor
namespace Go.Proofs.YtgelkakjmbiibaaGreatDoor
set_option linter.unusedVariables false
set_option linter.unusedSimpArgs false
def ipl (n : Int) (d l : List Int) (x : List Int) : Int := dotN (fun i => x.getD i 0 * l.getD i 0) (fun i => dotN (fun k => atI n d i k) (x.getD · 0) n.toNat) n.toNat
structure RnOk (n : Int) (d : List Int) : Prop where
  pos : ∀ x ∈ rSt n d, 2 ≤ ipl n d (lenF n d) x
  nz : ∀ x ∈ rSt n d, ∃ k, k < x.length ∧ 1 ≤ x.getD k 0
  len : ∀ k, 0 ≤ (lenF n d).getD k 0 ∧ (lenF n d).getD k 0 ≤ 36
end Go.Proofs.YtgelkakjmbiibaaGreatDoor
