/-
  The first text's roots in plain words: where each stands, as a map tells it.
-/
import Derived.Test.YtgelkakjmbiibaaGreatDoorZ11
import Derived.Test.YtgelkakjmbiibaaGreatDoorZ14
namespace Go.Proofs.YtgelkakjmbiibaaGreatDoor
set_option linter.unusedVariables false
set_option linter.unusedSimpArgs false
open Go.RowKit
theorem cong2 {α β γ : Type} (F : α → β → γ) {a a' : α} {b b' : β} (h1 : a = a') (h2 : b = b') : F a b = F a' b' := by rw [h1, h2]
def usOf : Value → List Value
  | .agg a => a.toList
  | _ => []
def kzL : Nat → List (List Int) → List (List Int × Int)
  | _, [] => []
  | n, x :: t => (x, (n : Int)) :: kzL (n + 1) t
theorem kzL_app : ∀ (L : List (List Int)) (n : Nat) (y : List Int), kzL n (L ++ [y]) = kzL n L ++ [(y, ((n + L.length : Nat) : Int))]
  | [], n, y => by simp [kzL]
  | x :: t, n, y => by
    rw [List.cons_append, kzL, kzL, kzL_app t (n + 1) y]
    simp only [List.cons_append, List.length_cons]
    rw [show n + 1 + t.length = n + (t.length + 1) by omega]
theorem alu_kz (x : List Int) : ∀ (L : List (List Int)) (n : Nat), (alu x (kzL n L)).isSome = L.contains x
  | [], n => rfl
  | y :: t, n => by
    rw [kzL, alu, List.contains_cons]
    by_cases h : x = y
    · rw [if_pos h]
      simp [h]
    · rw [if_neg h, alu_kz x t (n + 1)]
      simp [h]
theorem aup_none {α β : Type} [DecidableEq α] {k : α} {v : β} : ∀ {l : List (α × β)}, alu k l = none → aup k v l = l ++ [(k, v)]
  | [], _ => rfl
  | (a, b) :: t, h => by
    rw [alu] at h
    split at h
    · cases h
    · rename_i hn
      rw [aup, if_neg hn, aup_none h]
      rfl
theorem aup_kz {L : List (List Int)} {y : List Int} (h : L.contains y = false) : aup y (L.length : Int) (kzL 0 L) = kzL 0 (L ++ [y]) := by
  have h1 := alu_kz y L 0
  rw [h] at h1
  rw [aup_none (Option.isSome_eq_false_iff.1 h1 |> Option.isNone_iff_eq_none.1), kzL_app, Nat.zero_add]
theorem unit_new {m i : Nat} (hi : i < m) : ((List.range i).map (unitL m)).contains (unitL m i) = false := by
  cases e : ((List.range i).map (unitL m)).contains (unitL m i) with
  | false => rfl
  | true =>
    exfalso
    rw [List.contains_iff_mem] at e
    obtain ⟨j, hj, hu⟩ := List.mem_map.1 e
    have hji : j < i := by simpa using hj
    have h1 : (unitL m j).getD i 0 = if i = j then 1 else 0 := by simp [unitL, List.getD, hi]
    have h2 : (unitL m i).getD i 0 = if i = i then 1 else 0 := by simp [unitL, List.getD, hi]
    rw [hu, h2, if_pos rfl, if_neg (by omega)] at h1
    omega
theorem aup_unit {m i : Nat} (hi : i < m) : aup (unitL m i) (i : Int) (kzL 0 ((List.range i).map (unitL m))) = kzL 0 ((List.range (i + 1)).map (unitL m)) := by
  have h := aup_kz (unit_new hi)
  rw [units_next] at h
  simpa using h
def rPl (os : List (List Int)) (p : Nat) (l : List (List Int × Int)) : List (List Int × Int) := (List.range p).foldl (fun l i => aup (os.getD i []) (i : Int) l) l
def rKvs (n : Int) (d : List Int) : List (List Int × Int) := rPl (rSt n d) (rSt n d).length (kzL 0 (rFd n d))
theorem rPl_succ (os : List (List Int)) (p : Nat) (l : List (List Int × Int)) : rPl os (p + 1) l = aup (os.getD p []) (p : Int) (rPl os p l) := by rw [rPl, foldl_succ]; rfl
def plO (L : List (List Int)) (x : List Int) : Option Int := if L.contains x then some (plF L x) else none
theorem samB_eq {x y : List Int} : samB y x = decide (x = y) := by
  unfold samB
  exact decide_eq_decide.2 eq_comm
theorem plF_nodup {L : List (List Int)} (h : L.Nodup) {p : Nat} (hp : p < L.length) : plF L (L.getD p []) = p := by
  refine posF_at (d := []) hp ?_ (by rw [samB_eq]; exact decide_eq_true rfl)
  rw [List.any_eq_false]
  intro y hy hs
  rw [samB_eq] at hs
  have e := of_decide_eq_true hs
  obtain ⟨j, hj, rfl⟩ := List.mem_iff_getElem.1 hy
  have hjp : j < p := by simp at hj; omega
  have hjl : j < L.length := by omega
  rw [List.getElem_take] at e
  have e2 : L.getD p [] = L[p] := by simp [List.getD, hp]
  rw [e2] at e
  exact List.pairwise_iff_getElem.1 h j p hjl hp hjp e.symm
theorem alu_rPl {os : List (List Int)} (h : os.Nodup) (x : List Int) (l : List (List Int × Int)) : ∀ {p : Nat}, p ≤ os.length → alu x (rPl os p l) = if (os.take p).contains x then some (plF os x) else alu x l
  | 0, _ => by simp [rPl]
  | p + 1, hp => by
    rw [rPl_succ, alu_aup, alu_rPl h x l (by omega), takeD_snoc (d := []) (by omega)]
    by_cases e : x = os.getD p []
    · rw [if_pos e, if_pos (by simp [e])]
      rw [e, plF_nodup h (by omega)]
    · rw [if_neg e]
      have e2 : (os.take p ++ [os.getD p []]).contains x = (os.take p).contains x := by
        rw [Bool.eq_iff_iff]
        simp only [List.contains_iff_mem, List.mem_append, List.mem_singleton]
        exact ⟨fun h => h.resolve_right e, .inl⟩
      rw [e2]
theorem RtOk.snod {n : Int} {d : List Int} (h : RtOk n d) : (rSt n d).Nodup := h.perm.nodup_iff.2 h.nod
theorem RtOk.look {n : Int} {d : List Int} (h : RtOk n d) (x : List Int) : alu x (rKvs n d) = plO (rSt n d) x := by
  rw [rKvs, alu_rPl h.snod x _ (Nat.le_refl _), List.take_length, plO]
  by_cases hc : (rSt n d).contains x
  · rw [if_pos hc, if_pos hc]
  · rw [if_neg hc, if_neg hc]
    have h1 := alu_kz x (rFd n d) 0
    have h2 : (rFd n d).contains x = false := by
      cases e : (rFd n d).contains x with
      | false => rfl
      | true =>
        rw [List.contains_iff_mem, ← h.perm.mem_iff, ← List.contains_iff_mem] at e
        exact absurd e hc
    rw [h2] at h1
    exact Option.isNone_iff_eq_none.1 (Option.isSome_eq_false_iff.1 h1)
theorem RtOk.pos {n : Int} {d : List Int} (h : RtOk n d) : n.toNat ≤ (rFd n d).length := by
  have := (rC_pre h.run).len
  simpa [units] using this
theorem plO_some {L : List (List Int)} {x : List Int} : (plO L x).isSome = L.contains x := by
  unfold plO
  split
  · rename_i h; rw [h]; rfl
  · rename_i h; simpa using h
theorem all64_of {x : List Int} (h : ∀ k, k < x.length → -100000 ≤ x.getD k 0 ∧ x.getD k 0 ≤ 100000) : All64 x := fun y hy => by
  obtain ⟨k, hk, rfl⟩ := List.mem_iff_getElem.1 hy
  have h1 := h k hk
  have e : x.getD k 0 = x[k] := by simp [List.getD, hk]
  rw [e] at h1
  exact ⟨by omega, by omega⟩
theorem unitL_get {m i k : Nat} (hk : k < m) : (unitL m i).getD k 0 = if k = i then 1 else 0 := by simp [unitL, List.getD, hk]
theorem all64_unit (m i : Nat) : All64 (unitL m i) := all64_of fun k hk => by
  rw [unitL_len] at hk
  rw [unitL_get hk]
  split <;> omega
theorem units_get {m i : Nat} : ((List.range (i + 1)).map (unitL m)).getD i [] = unitL m i := by simp [List.getD]
theorem RtOk.nxt {n : Int} {d : List Int} (h : RtOk n d) {x : List Int} {i : Nat} (hl : x.length = n.toNat) (hb : ∀ j, 0 ≤ x.getD j 0 ∧ x.getD j 0 ≤ 10) (hi : i < n.toNat) :
    (-12000 ≤ (wtF n d x).getD i 0 ∧ (wtF n d x).getD i 0 ≤ 12000) ∧ lpF x (0 - (wtF n d x).getD i 0) (unitL n.toNat i) = rStep n d x i ∧ (rStep n d x i).length = n.toNat ∧ All64 (rStep n d x i) := by
  have hx : ∀ k, k < x.length → -1000 ≤ x.getD k 0 ∧ x.getD k 0 ≤ 1000 := fun k _ => by have := hb k; omega
  obtain ⟨h1, h2⟩ := wtF_at h.mat hx hl h.rk hi
  refine ⟨h2, lpF_step h.mat hx hl h.rk hi, by rw [rStep_len]; exact hl, all64_of fun k hk => ?_⟩
  rw [rStep_len] at hk
  have hbk := hb k
  by_cases e : k = i
  · subst e
    rw [rStep, set_getD_eq hk, ← h1]
    omega
  · rw [rStep, set_getD_ne (fun he => e he.symm)]
    omega
theorem rOne_k1 {n : Int} {d x : List Int} {L : List (List Int)} {i : Nat} (h : (alu (rStep n d x i) (kzL 0 L)).isSome = true) : L = rOne n d x L i := by
  rw [alu_kz] at h
  rw [rOne, h]
  simp
theorem rOne_k2 {n : Int} {d x : List Int} {L : List (List Int)} {i : Nat} (hx : ∀ j, 0 ≤ x.getD j 0) (hi : i < x.length) (h : ¬ 0 ≤ (rStep n d x i).getD i 0) : L = rOne n d x L i := by
  rw [rOne, posL_step hx hi, decide_eq_false h]
  rfl
theorem rOne_k3 {n : Int} {d x : List Int} {L : List (List Int)} {i : Nat} (hx : ∀ j, 0 ≤ x.getD j 0) (hi : i < x.length) (h : (alu (rStep n d x i) (kzL 0 L)).isSome = false) (h2 : 0 ≤ (rStep n d x i).getD i 0) : L ++ [rStep n d x i] = rOne n d x L i := by
  rw [alu_kz] at h
  rw [rOne, posL_step hx hi, decide_eq_true h2, h]
  rfl
theorem aup_new {n : Int} {d x : List Int} {L : List (List Int)} {i m : Nat} (h : (alu (rStep n d x i) (kzL 0 L)).isSome = false) (hm : m = L.length) : aup (rStep n d x i) (m : Int) (kzL 0 L) = kzL 0 (L ++ [rStep n d x i]) := by
  rw [alu_kz] at h
  rw [hm]
  exact aup_kz h
def ngF (x : List Int) : List Int := lpF (List.replicate x.length 0) (-1) x
def fdB (n : Int) (kv : List (List Int × Int)) (x : List Int) : Bool := decide ((x.length : Int) = n) && ((alu x kv).isSome || (alu (ngF x) kv).isSome)
theorem fold_all64 {g : Nat → List Int → Int} (hg : ∀ i o, I64 (g i o)) : ∀ (m : Nat) (x : List Int), All64 x → All64 ((List.range m).foldl (fun (o : List Int) (i : Nat) => o.set i (g i o)) x)
  | 0, x, h => h
  | m + 1, x, h => by
    rw [foldl_succ]
    intro y hy
    rcases List.mem_or_eq_of_mem_set hy with hy | rfl
    · exact fold_all64 hg m x h y hy
    · exact hg _ _
theorem wrap_I64 (i : Int) : I64 (IntKind.i64.wrap i) := by
  unfold I64
  rw [IntKind.wrap_i64]
  omega
section
variable {P : Program} {n : Nat} {env : List (Nat × Value)} {W : World} {own : List Asn} {o : Oper}
theorem GC.nilLst {c : Code} {Q : Exit → Act → World → Prop} (e : Nat) (h : GC P c Q n env W (Proofs.YtgelkakjmbiibaaGreatDoor.lst e (.slice none 0 0) [] :: own)) : GC P c Q n env W own := fun a w hf hs => h a w hf (hs.nilRow e 1)
structure FD (P : Program) (T f off : Nat) : Prop where
  run : ∀ (a : Array Value) (v : Value) w, a[off]? = some v → (Instr.field T (.agg a) f).run P w = .ok v w
theorem fd_of {P : Program} {T f : Nat} {fs : Array Field} {fl : Field} (h : P.underlying T = some (.struct fs)) (hf : fs[f]? = some fl) (ha : ∀ w, (isAgg fl.type).run P w = .ok false w) : FD P T f fl.offset :=
  ⟨fun a v w hv => by simp [Instr.field, run_underlying h, hf, asAgg, part, ha, hv]⟩
theorem OD.field {T f off : Nat} {x : Operand} {us : List Value} {v : Value} (hop : o.op = .field T x f) (fd : FD P T f off) (hx : ev env x = some (.agg us.toArray)) (hv : us[off]? = some v) : OD P o n env W own v own :=
  .of fun a w hf _ => by
    simp only [execOp, hop, hf.ev hx]
    exact run_val (fd.run _ _ _ (by simpa using hv))
end
end Go.Proofs.YtgelkakjmbiibaaGreatDoor
namespace Go.Proofs.YtgelkakjmbiibaaGreatDoor
set_option linter.unusedVariables false
set_option linter.unusedSimpArgs false
theorem wtOk_of {n : Int} {x : List Int} (hl : (x.length : Int) = n) (hb : ∀ k, k < x.length → -1000 ≤ x.getD k 0 ∧ x.getD k 0 ≤ 1000) : wtOk n x = true := by
  have h2 : (x.any fun y => !(inB y (-1000) 1000)) = false := by
    rw [List.any_eq_false]
    intro y hy
    obtain ⟨k, hk, rfl⟩ := List.mem_iff_getElem.1 hy
    have h := hb k hk
    have e : x.getD k 0 = x[k] := by simp [List.getD, hk]
    rw [e] at h
    simp [inB, h.1, h.2]
  rw [wtOk, h2, beq_iff_eq.2 hl]
  rfl
theorem RtOk.fd {n : Int} {d : List Int} (h : RtOk n d) (x : List Int) : fdB n (rKvs n d) x = (decide ((x.length : Int) = n) && ((rSt n d).contains x || (rSt n d).contains (ngF x))) := by
  rw [fdB, h.look, h.look, plO_some, plO_some]
end Go.Proofs.YtgelkakjmbiibaaGreatDoor
namespace Go.Proofs.YtgelkakjmbiibaaGreatDoor
set_option linter.unusedVariables false
set_option linter.unusedSimpArgs false
def ipl (n : Int) (d l : List Int) (x : List Int) : Int := dotN (fun i => x.getD i 0 * l.getD i 0) (fun i => dotN (fun k => atI n d i k) (x.getD · 0) n.toNat) n.toNat
structure RnOk (n : Int) (d : List Int) : Prop where
  pos : ∀ x ∈ rSt n d, 2 ≤ ipl n d (lenF n d) x
  nz : ∀ x ∈ rSt n d, ∃ k, k < x.length ∧ 1 ≤ x.getD k 0
  len : ∀ k, 0 ≤ (lenF n d).getD k 0 ∧ (lenF n d).getD k 0 ≤ 36
theorem mul_abs {a b A B : Int} (ha : -A ≤ a ∧ a ≤ A) (hb : -B ≤ b ∧ b ≤ B) : -(A * B) ≤ a * b ∧ a * b ≤ A * B := by
  have h1 := Int.mul_nonneg (show 0 ≤ A - a by omega) (show 0 ≤ B - b by omega)
  have h2 := Int.mul_nonneg (show 0 ≤ A + a by omega) (show 0 ≤ B + b by omega)
  have h3 := Int.mul_nonneg (show 0 ≤ A - a by omega) (show 0 ≤ B + b by omega)
  have h4 := Int.mul_nonneg (show 0 ≤ A + a by omega) (show 0 ≤ B - b by omega)
  simp only [Int.sub_mul, Int.mul_sub, Int.add_mul, Int.mul_add] at h1 h2 h3 h4
  omega
end Go.Proofs.YtgelkakjmbiibaaGreatDoor
