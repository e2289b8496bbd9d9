/-
  slices.Collect(maps.Values(m)) on a map of lists that a call owns: the values come, each once, in some order.
-/
import Derived.Test.YtgelkakjmbiibaaGreatDoorZ14
import Derived.Test.YtgelkakjmbiibaaGreatDoorOps2
import Derived.Shelf.SlIter.Collect
import Derived.RangeFuncMany
import Derived.RangeFuncLeaves
import Derived.RangeFuncGives
import Derived.Maps.AppendAt
import Derived.Maps.RangeRun
import Derived.WalkKit
import Derived.OwnWalkIn
import Derived.TacticsInMore
import Derived.RegionIn
import Derived.LoopNIn
import Derived.LoopIn
import Derived.Shelf.Abstract
import Derived.Shelf.AbstractIn
import Derived.Sort.MapsRangeIn
namespace Go.Proofs.YtgelkakjmbiibaaGreatDoor
set_option linter.unusedVariables false
set_option linter.unusedSimpArgs false
open Go.RowKit Go.Maps Go.Sort Go.Shelf Go.MapKept Go.ChangeMaps
abbrev SlV : Type := { v : Value // IsS v }
theorem cqInfo : (Tryz.prog.info? 22).map (fun i => (i.zero, i.size, i.bytes)) = some (some (.slice none 0 0), 1, 24) := by kernel_rfl
def cqAssign : Code := (Code.region 2 #[{ dst := some 5, op := Op.assign (Operand.tmp 7), type := 22, pos := "iter.go:51", after := #[], guard := none }] false)
def cqBody : Code := (Code.block 1 (Code.region 3 #[{ dst := some 8, op := Op.load 39 (Operand.tmp 2), type := 39, pos := "iter.go:52", after := #[], guard := none }, { dst := some 9, op := Op.move (Operand.tmp 5), type := 22, pos := "iter.go:52", after := #[], guard := none }, { dst := some 10, op := Op.buildSlice 39 1 #[(0, Operand.tmp 9)], type := 39, pos := "iter.go:52", after := #[{ on := 1, ground := Ground.data }], guard := none }, { dst := some 11, op := Op.call { callee := Callee.builtin Builtin.append, args := #[Operand.tmp 8, Operand.tmp 10], argTypes := #[39, 39] }, type := 39, pos := "iter.go:52", after := #[{ on := 0, ground := Ground.data }, { on := 2, ground := Ground.data }], guard := none }, { dst := none, op := Op.store 39 (Operand.tmp 2) (Operand.tmp 11), type := 0, pos := "iter.go:52", after := #[{ on := 3, ground := Ground.data }, { on := 3, ground := Ground.chain }, { on := 0, ground := Ground.phase }, { on := 1, ground := Ground.phase }, { on := 2, ground := Ground.phase }, { on := 3, ground := Ground.phase }], guard := none }] false))
def cqRec (fn : FuncId) (sv : Value) (Bs D : Nat) (st : LoopState) (pend : Option Code) : Loop :=
  { state := st, pending := pend, fn, tmps := #[.slice none 0 0, sv, .pointer (some ⟨Bs, 0, none⟩), undef, .slice none 0 0, undef, sv, undef, undef, undef, undef, undef, undef], params := #[7], assign := cqAssign, body := cqBody, defers := D }
structure CqAt (w0 : World) (fn : FuncId) (sv : Value) (Bs l D : Nat) (ss : List SlV) (W : World) : Prop where
  box : ∃ v, W.heap[Bs]? = some (.cells #[v] 39 (0, 0)) ∧ W.ownsRow w0.heap.size 22 1 v ss.length (ss.map Subtype.val) ∧ (v = .slice none 0 0 ↔ ss = [])
  L : W.heap[l]? = some (.loop (cqRec fn sv Bs D .ready none))
  K : W.heap[D]? = some (.deferred (some []))
  below : Below w0.heap.size w0 W
theorem cq_abides (w0 : World) (fn : FuncId) (sv : Value) (Bs l D B : Nat) (hB : w0.heap.size ≤ B) : AbidesFrom B (CqAt w0 fn sv Bs l D) := fun s W W' row h hg hrow => by
  have hrow' : ∀ r, row = some r → ∃ o : Obj, W.heap[r]? = some o ∧ o.isWalk = true := fun r e => (hrow r e).2
  obtain ⟨v, hv, hr, hn⟩ := h.box
  exact ⟨⟨v, (grownBy_keeps hg hrow' hv rfl).trans hv, ownsRow_abides_a hr hg hrow', hn⟩, (grownBy_keeps hg hrow' h.L rfl).trans h.L, (grownBy_keeps hg hrow' h.K rfl).trans h.K,
    h.below.grown hg h.below.size (fun k e => Nat.le_trans hB (hrow k e).1)⟩
set_option maxRecDepth 100000 in
set_option maxHeartbeats 2000000 in
theorem cqYield (F : Fence) (m : Nat) (w0 : World) (fn : FuncId) (hfn : F.fn fn) (sv : Value) (Bs l D : Nat) (hBl : Bs ≠ l) (hDl : D ≠ l) (hDB : D ≠ Bs) (h0B : w0.heap.size ≤ Bs) (h0l : w0.heap.size ≤ l)
    (N : Nat) (hN : N ≤ maxLen) (hNb : N * 24 ≤ 140737488355328) (ss : List SlV) (x : SlV) (W : World) (h : CqAt w0 fn sv Bs l D ss W) (hlen : ss.length < N) :
    YieldAt F m Tryz.prog l #[x.1] W fun e W' => e = .returned (.bool true) ∧ CqAt w0 fn sv Bs l D (ss ++ [x]) W' ∧ KeepsWalks W W' := by
  obtain ⟨_, ao, xn, xc, rfl⟩ := x
  show YieldAt F m Tryz.prog l #[.slice ao xn xc] W fun e W' => e = .returned (.bool true) ∧ CqAt w0 fn sv Bs l D (ss ++ [⟨.slice ao xn xc, ao, xn, xc, rfl⟩]) W' ∧ KeepsWalks W W'
  have hne : (39 : Nat) ≠ 22 := by decide
  obtain ⟨i0, hi, hz0, hz1, hz2⟩ := info_parts cqInfo
  obtain ⟨v, hv, hrow, _⟩ := h.box
  refine ⟨fn, #[.slice none 0 0, sv, .pointer (some ⟨Bs, 0, none⟩), undef, .slice none 0 0, undef, sv, (.slice ao xn xc), undef, undef, undef, undef, undef], cqAssign, cqBody, by simpa [cqRec] using run_yield (P := Tryz.prog) (args := #[(.slice ao xn xc)]) h.L rfl, roundIn_of_wpIn hfn ?_⟩
  have hl : l < W.heap.size := (Array.getElem?_eq_some_iff.1 h.L).1
  have hbr := run_beginRound (P := Tryz.prog) h.L rfl
  obtain ⟨W2, hW2⟩ : ∃ W2, W.putObj l (.loop { cqRec fn sv Bs D .ready none with state := .busy }) = W2 := ⟨_, rfl⟩
  rw [hW2] at hbr
  have hg2 : W.grownBy W2 (some l) := by rw [← hW2]; exact grownBy_putObj_a _ _ _
  have hk2 : KeepsWalks W W2 := by rw [← hW2]; exact KeepsWalks.putObj _ h.L rfl
  have hv2 : W2.heap[Bs]? = some (.cells #[v] 39 (0, 0)) := by rw [← hW2]; exact (World.putObj_heap_other hBl).trans hv
  have hK2 : W2.heap[D]? = some (.deferred (some [])) := by rw [← hW2]; exact (World.putObj_heap_other hDl).trans h.K
  have hL2 : W2.heap[l]? = some (.loop { cqRec fn sv Bs D .ready none with state := .busy }) := by rw [← hW2]; exact World.putObj_heap_same hl
  have hrow2 : W2.ownsRow w0.heap.size 22 1 v ss.length (ss.map Subtype.val) := hrow.kept hg2 (ownsRow_ne_a hrow h.L (fun cur e => by first | cases e | exact hne (Obj.cells.inj e).2.1))
  have hb2 : Below w0.heap.size w0 W2 := h.below.grown hg2 h.below.size (fun k e => by cases e; exact h0l)
  obtain ⟨hc2, hf2⟩ := cell_of_box_a hv2
  have hBlt : Bs < W2.heap.size := (Array.getElem?_eq_some_iff.1 hv2).1
  have hl2 : l < W2.heap.size := (Array.getElem?_eq_some_iff.1 hL2).1
  have hDlt : D < W2.heap.size := (Array.getElem?_eq_some_iff.1 hK2).1
  have ne_of : ∀ {j : Nat} {o : Obj}, W2.heap[j]? = some o → (∀ cur, o ≠ .cells cur 22 (0, 0)) → some j ≠ v.ownBlock := fun hj hno => by
    rcases ownsRow_ne_a hrow2 hj hno with e | e
    · rw [e]; simp
    · exact fun e' => e e'.symm
  clear hW2
  unfold cqAssign
  gi_wp2_with gi_round_op_a
  unfold cqBody
  gi_wp2_with (first
    | (gi_at_builtin; refine wpListIn_append_own _ rfl _ _ 39 rfl w0.heap.size 22 i0 (.slice none 0 0) 1 24 Tryz.underlying39 hi hz0 hz1 hz2 rfl (by decide) _ _ _ rfl (hrow2.alloc _) ⟨W2.heap.size, 0, none⟩ 1 1 [(.slice ao xn xc)] rfl rfl (cell_one_new _ _ _) (by simp [Value.oneCell']) (by omega) (by omega) (by have := hb2.size; simp; omega) ?_; intro v' w3 hown' hg3 hnil3
       have hv3 : w3.heap[Bs]? = some (.cells #[v] 39 (0, 0)) := (hg3.block Bs (by simp; omega) (ne_of hv2 (fun cur e => by first | cases e | exact hne (Obj.cells.inj e).2.1))).trans ((Below.heap_alloc _ _ Bs hBlt).trans hv2)
       obtain ⟨hc3, hf3⟩ := cell_of_box_a hv3
       obtain ⟨g', cap', cur', rfl, hbase', hgb', hr1, hr2, hr3, hr4⟩ : ∃ g' cap' cur', v' = .slice (some ⟨g', 0, none⟩) (ss.length + 1) cap' ∧ w0.heap.size ≤ g' ∧ w3.heap[g']? = some (.cells cur' 22 (0, 0)) ∧ ss.length + 1 ≤ cap' ∧ cap' ≤ maxLen ∧ cur'.size = cap' * 1 ∧ cur'.toList.take ((ss.length + 1) * 1) = ss.map Subtype.val ++ [(.slice ao xn xc)] := by
         rcases hown'.2 with ⟨_, h0⟩ | h'
         · exact absurd h0 (by omega)
         · exact h'
       go_frame)
    | gi_round_op_a)
  have hg3' : (W2.alloc (.cells #[(.slice ao xn xc)] 22)).grownBy w3 v.ownBlock := hg3
  have hL3 : w3.heap[l]? = some (.loop { cqRec fn sv Bs D .ready none with state := .busy }) := (hg3'.block l (by simp; omega) (ne_of hL2 (fun cur e => by first | cases e | exact hne (Obj.cells.inj e).2.1))).trans ((Below.heap_alloc _ _ l hl2).trans hL2)
  have hK3 : w3.heap[D]? = some (.deferred (some [])) := (hg3'.block D (by simp; omega) (ne_of hK2 (fun cur e => by first | cases e | exact hne (Obj.cells.inj e).2.1))).trans ((Below.heap_alloc _ _ D hDlt).trans hK2)
  obtain ⟨w4, hw4⟩ : ∃ w4, w3.setCell ⟨Bs, 0, none⟩ (.slice (some ⟨g', 0, none⟩) (ss.length + 1) cap') = w4 := ⟨_, rfl⟩
  rw [hw4]
  have hg4 : w3.grownBy w4 (some Bs) := by rw [← hw4]; exact grownBy_setCell0_a _ _ _
  have hv4 : w4.heap[Bs]? = some (.cells #[.slice (some ⟨g', 0, none⟩) (ss.length + 1) cap'] 39 (0, 0)) := by rw [← hw4]; exact heap_setCell_box_a _ hv3
  have hL4 : w4.heap[l]? = some (.loop { cqRec fn sv Bs D .ready none with state := .busy }) := (hg4.block l (Array.getElem?_eq_some_iff.1 hL3).1 (fun e => hBl (by cases e; rfl))).trans hL3
  have hK4 : w4.heap[D]? = some (.deferred (some [])) := (hg4.block D (Array.getElem?_eq_some_iff.1 hK3).1 (fun e => hDB (by cases e; rfl))).trans hK3
  have hrow4 := hown'.kept hg4 (ownsRow_ne_a hown' hv3 (fun cur e => by first | cases e | exact hne (Obj.cells.inj e).2.1))
  have hl4 : l < w4.heap.size := (Array.getElem?_eq_some_iff.1 hL4).1
  have hb3 : Below w0.heap.size w0 w3 := (hb2.alloc hb2.size _).grown hg3' (by have := hb2.size; simp; omega) (fun k e => (hrow2.lt k e).1)
  have hb4 : Below w0.heap.size w0 w4 := hb3.grown hg4 hb3.size (fun k e => by cases e; exact h0B)
  have hk4 : KeepsWalks W w4 := ((hk2.trans (KeepsWalks.alloc _ _)).trans (KeepsWalks.of_grownBy hg3' (ownsRow_not_walk_a (hrow2.alloc _)))).trans (by rw [← hw4]; exact KeepsWalks.setCell _ _ _)
  clear hw4
  refine ⟨_, _, run_endRound none hL4, rfl, ⟨⟨_, (World.putObj_heap_other hBl).trans hv4, ?_, by simp⟩, World.putObj_heap_same hl4, (World.putObj_heap_other hDl).trans hK4, hb4.grown (grownBy_putObj_a _ _ _) hb4.size (fun k e => by cases e; exact h0l)⟩, hk4.trans (KeepsWalks.putObj _ hL4 rfl)⟩
  have := hrow4.kept (grownBy_putObj_a w4 l (.loop { { cqRec fn sv Bs D .ready none with state := .busy } with state := if (none : Option Code).isNone then .ready else .done, pending := none })) (ownsRow_ne_a hrow4 hL4 (fun cur e => by first | cases e | exact hne (Obj.cells.inj e).2.1))
  simpa using this
set_option maxRecDepth 100000 in
set_option maxHeartbeats 2000000 in
theorem clAppend_in (F : Fence) (n : Nat) (h11 : F.fn 123) (hro : F.round = none) (hn : 2 ≤ n) (g : Nat) (lb : Array Value) (hFg : F.fn g) (eg : ∀ args w, (callFunc g args).run Tryz.prog w = .ok (.enter g args) w)
    (S : List SlV → Prop) (N : Nat) (hN : N ≤ maxLen) (hNb : N * 24 ≤ 140737488355328) (w : World) (hseq : SeqGives F (n - 1) Tryz.prog g lb (Subtype.val : SlV → Value) S N w) :
    CallsIn F n Tryz.prog 123 #[.slice none 0 0, .func (.func g) #[] lb] w fun e w' => ∃ (v : Value) (ss : List SlV), e = .returned v ∧ S ss ∧ w'.ownsRow w.heap.size 22 1 v ss.length (ss.map Subtype.val) ∧ (v = .slice none 0 0 ↔ ss = []) ∧ Below w.heap.size w w' := by
  have h1 : 1 ≤ n := by omega
  have hne : (39 : Nat) ≠ 22 := by decide
  have FG := Tryz.func123
  refine callsIn_of_wp_marks FG rfl h11 ?_ hro
  simp only [Tryz.ntmps123, List.size_toArray, List.length_cons, List.length_nil, Nat.reduceAdd, Nat.reduceSub, Array.replicate_succ, Array.replicate_zero, List.push_toArray, List.append_toArray, List.nil_append, List.cons_append]
  gi_wp2
  refine wpIn_rangeFunc ?_
  intro fn hfn
  rw [hro]
  obtain ⟨W0, hW0⟩ : ∃ W0, w.alloc (.cells #[.slice none 0 0] 39) = W0 := ⟨_, rfl⟩
  have hs0 : W0.heap.size = w.heap.size + 1 := by rw [← hW0]; simp
  have hv0 : W0.heap[w.heap.size]? = some (.cells #[.slice none 0 0] 39 (0, 0)) := by rw [← hW0]; exact World.alloc_heap_new w _
  have hb0 : Below w.heap.size w W0 := by rw [← hW0]; exact (Below.refl _ w).alloc (Nat.le_refl _) _
  rw [hW0]
  obtain ⟨W1, hW1⟩ : ∃ W1, (W0.alloc (.deferred (some []))).alloc (.loop (cqRec fn (.func (.func g) #[] lb) w.heap.size W0.heap.size .ready none)) = W1 := ⟨_, rfl⟩
  have hold : ∀ k, k < W0.heap.size → W1.heap[k]? = W0.heap[k]? := fun k hk => by
    rw [← hW1]; exact (Below.heap_alloc _ _ k (by simp; omega)).trans (Below.heap_alloc _ _ k hk)
  have hb1 : Below w.heap.size w W1 := by rw [← hW1]; exact (hb0.alloc hb0.size _).alloc (by have := hb0.size; simp; omega) _
  have hs1 : W1.heap.size = W0.heap.size + 2 := by rw [← hW1]; simp
  have hM : CqAt w fn (.func (.func g) #[] lb) w.heap.size (W0.heap.size + 1) W0.heap.size [] W1 :=
    ⟨⟨_, (hold w.heap.size (by omega)).trans hv0, ⟨rfl, .inl ⟨rfl, rfl⟩⟩, by simp⟩,
     by rw [← hW1]; have := World.alloc_heap_new (W0.alloc (.deferred (some []))) (.loop (cqRec fn (.func (.func g) #[] lb) w.heap.size W0.heap.size .ready none)); rwa [World.size_alloc] at this,
     by rw [← hW1]; exact (Below.heap_alloc _ _ _ (by simp)).trans (World.alloc_heap_new W0 _), hb1⟩
  refine ⟨W0.heap.size + 1, [{ target := .collected W0.heap.size, args := #[] }], W1, { target := .fn (.func g) lb, args := #[.func (.yield (W0.heap.size + 1)) #[] #[]] }, W1, g,
    #[.func (.yield (W0.heap.size + 1)) #[] #[]] ++ lb, W1, ?_, ?_, ?_, ?_, fun _ => h1, ?_⟩
  · rw [← hW1]; exact run_enterLoop_outer _ _ _ _ _
  · simp [resolve, go_sem]
  · intro f' hf'; simp [Target.leads] at hf'; subst hf'; exact hFg
  · simp [invoke, go_sem, eg]
  · refine (hseq (W0.heap.size + 1) (CqAt w fn (.func (.func g) #[] lb) w.heap.size (W0.heap.size + 1) W0.heap.size) W1 hb1 (cq_abides _ _ _ _ _ _ _ hb1.size)
      (fun pre x W hJ hl => cqYield F (n - 1 - 1) w fn hfn _ w.heap.size (W0.heap.size + 1) W0.heap.size (by omega) (by omega) (by omega) (Nat.le_refl _) (by omega) N hN hNb pre x W hJ hl) hM).mono ?_
    rintro e W2 ⟨⟨v0, rfl⟩, ss, hS, h2⟩
    obtain ⟨v, hv, hrow, hnil⟩ := h2.box
    have hend := run_endLoop (P := Tryz.prog) h2.L (by simp [cqRec])
    obtain ⟨W3, hW3⟩ : ∃ W3, W2.putObj (W0.heap.size + 1) (.loop { cqRec fn (.func (.func g) #[] lb) w.heap.size W0.heap.size .ready none with state := .exhausted }) = W3 := ⟨_, rfl⟩
    rw [hW3] at hend
    have hg3 : W2.grownBy W3 (some (W0.heap.size + 1)) := by rw [← hW3]; exact grownBy_putObj_a _ _ _
    have hv3 : W3.heap[w.heap.size]? = some (.cells #[v] 39 (0, 0)) := by rw [← hW3]; exact (World.putObj_heap_other (by omega)).trans hv
    have hK3 : W3.heap[W0.heap.size]? = some (.deferred (some [])) := by rw [← hW3]; exact (World.putObj_heap_other (by omega)).trans h2.K
    have hrow3 := hrow.kept hg3 (ownsRow_ne_a hrow h2.L (fun cur e => by first | cases e | exact hne (Obj.cells.inj e).2.1))
    have hb3 : Below w.heap.size w W3 := h2.below.grown hg3 h2.below.size (fun k e => by cases e; omega)
    obtain ⟨hc3, hf3⟩ := cell_of_box_a hv3
    clear hW3
    refine ⟨none, W3, hend, ?_⟩
    gi_wp2
    rw [← hs0]
    refine ⟨by simp, .inl ⟨_, _, rfl, run_takeDeferred hK3, ?_⟩⟩
    exact ⟨_, results_tmp rfl _ _ _, v, ss, rfl, hS, hrow3.kept (grownBy_putObj_a _ _ _) (ownsRow_ne_a hrow3 hK3 (fun cur e => by first | cases e | exact hne (Obj.cells.inj e).2.1)), hnil, hb3.grown (grownBy_putObj_a _ _ _) hb3.size (fun k e => by cases e; omega)⟩
set_option maxHeartbeats 1000000 in
theorem cqcollect_in (F : Fence) (n : Nat) (h8 : F.fn 65) (h11 : F.fn 123) (hro : F.round = none) (hn : 3 ≤ n) (g : Nat) (lb : Array Value) (hFg : F.fn g) (eg : ∀ args w, (callFunc g args).run Tryz.prog w = .ok (.enter g args) w)
    (S : List SlV → Prop) (N : Nat) (hN : N ≤ maxLen) (hNb : N * 24 ≤ 140737488355328) (w : World) (hseq : SeqGives F (n - 1 - 1) Tryz.prog g lb (Subtype.val : SlV → Value) S N w) :
    CallsIn F n Tryz.prog 65 #[.func (.func g) #[] lb] w fun e w' => ∃ (v : Value) (ss : List SlV), e = .returned v ∧ S ss ∧ w'.ownsRow w.heap.size 22 1 v ss.length (ss.map Subtype.val) ∧ (v = .slice none 0 0 ↔ ss = []) ∧ Below w.heap.size w w' := by
  have h1 : 1 ≤ n := by omega
  have e11 : ∀ args w, (callFunc 123 args).run Tryz.prog w = .ok (.enter 123 args) w := enters_of Tryz.func123 (by kernel_rfl) rfl
  have FG := Tryz.func65
  refine callsIn_of_wp FG rfl h8 ?_ hro
  simp only [Tryz.ntmps65, List.size_toArray, List.length_cons, List.length_nil, Nat.reduceAdd, Nat.reduceSub, Array.replicate_succ, Array.replicate_zero, List.push_toArray, List.append_toArray, List.nil_append, List.cons_append]
  gi_wp2_with (gi_at_call 123; refine (clAppend_in F (n - 1) h11 hro (by omega) g lb hFg eg S N hN hNb _ hseq).mono ?_; rintro e w' ⟨v, ss, rfl, hS, hrow, hnil, hb⟩)
  go_ret
  exact ⟨v, ss, rfl, hS, hrow, hnil, hb⟩
section
variable {α β : Type} {kE : α → Value} {vE : β → Value}
theorem mEnt_mem {e : MapEntry} : ∀ {l : List (α × β)} {n : Nat}, e ∈ mEnt kE vE n l → ∃ i p, l[i]? = some p ∧ e = ⟨kE p.1, vE p.2, n + i⟩
  | [], _, h => by cases h
  | (a, b) :: t, n, h => by
    rw [mEnt, List.mem_cons] at h
    rcases h with rfl | h
    · exact ⟨0, (a, b), rfl, rfl⟩
    · obtain ⟨i, p, h1, h2⟩ := mEnt_mem h
      exact ⟨i + 1, p, by simpa using h1, by rw [h2]; congr 1; omega⟩
theorem mEnt_at {p : α × β} : ∀ {l : List (α × β)} {n i : Nat}, l[i]? = some p → (⟨kE p.1, vE p.2, n + i⟩ : MapEntry) ∈ mEnt kE vE n l
  | [], _, _, h => by simp at h
  | (a, b) :: t, n, 0, h => by
    simp at h
    subst h
    rw [mEnt]
    exact List.mem_cons_self
  | (a, b) :: t, n, i + 1, h => by
    rw [mEnt]
    refine List.mem_cons_of_mem _ ?_
    have := mEnt_at (l := t) (n := n + 1) (i := i) (by simpa using h)
    rwa [show n + 1 + i = n + (i + 1) by omega] at this
theorem mEnt_born : ∀ (l : List (α × β)) (n : Nat), (mEnt kE vE n l).map (·.born) = List.range' n l.length
  | [], _ => rfl
  | (a, b) :: t, n => by rw [mEnt, List.map_cons, mEnt_born t (n + 1)]; rfl
end
def atPl (l : List (List Int × Value)) (is : List Nat) : List Value := is.map fun i => (l.getD i ([], undef)).2
structure RngV (W : World) (b r : Nat) (l : List (List Int × Value)) (is : List Nat) : Prop where
  hb : W.heap[b]? = some (.map (mEnt keyL valV 0 l).toArray l.length)
  hr : W.heap[r]? = some (.mapIter (some b) l.length is.toArray l.length)
  nod : is.Nodup
  lt : ∀ i ∈ is, i < l.length
theorem RngV.len {W : World} {b r : Nat} {l : List (List Int × Value)} {is : List Nat} (h : RngV W b r l is) : is.length ≤ l.length := by
  have := nodup_sub' h.nod (M := List.range l.length) fun x hx => List.mem_range.2 (h.lt x hx)
  simpa using this
where
  nodup_sub' {α : Type} [DecidableEq α] : ∀ {L M : List α}, L.Nodup → (∀ x ∈ L, x ∈ M) → L.length ≤ M.length
    | [], _, _, _ => Nat.zero_le _
    | x :: L, M, hn, hs => by
      have hx := hs x List.mem_cons_self
      obtain ⟨h1, h2⟩ := List.nodup_cons.1 hn
      have := nodup_sub' (M := M.erase x) h2 fun y hy => (List.mem_erase_of_ne (fun e => h1 (by rw [← e]; exact hy))).2 (hs y (List.mem_cons_of_mem _ hy))
      rw [List.length_erase_of_mem hx] at this
      have hp := List.length_pos_of_mem hx
      rw [List.length_cons]
      omega
theorem RngV.walks {W W' : World} {b r : Nat} {l : List (List Int × Value)} {is : List Nat} (h : RngV W b r l is) (hk : KeepsWalks W W') : RngV W' b r l is :=
  ⟨hk.same _ _ h.hb rfl, hk.same _ _ h.hr rfl, h.nod, h.lt⟩
theorem left_iff {l : List (List Int × Value)} {is : List Nat} {e : MapEntry} : e ∈ (leftOf (mEnt keyL valV 0 l).toArray is.toArray).toList ↔ e ∈ mEnt keyL valV 0 l ∧ e.born ∉ is := by
  simp [leftOf, List.mem_filter]
section
variable {F : Fence} {n : Nat} {P : Program} (w : World) {ops : Array Oper} {rest : List Oper} {o : Oper} {a : Act} {Q : Exit → Act → World → Prop}
theorem wpListIn_rangeV (hg : o.guard = none) (m : Operand) (t : TypeId) (hop : o.op = Op.range t m) (k e : TypeId) (ht : P.underlying t = some (.map k e)) (b : Nat) (l : List (List Int × Value))
    (hm : a.eval m = .map (some b)) (hown : MapIs keyL valV b l w)
    (hK : ∀ w', RngV w' b w.heap.size l [] → w.grownBy w' none → w'.heap.size = w.heap.size + 1 → wpListIn F n P ops Q rest (a.put o.dst (.pointer (some ⟨w.heap.size, 0, none⟩))) w') :
    wpListIn F n P ops Q (o :: rest) a w := by
  refine wpListIn_plain hg fun K' hK' => ?_
  have hlt : b < w.heap.size := (Array.getElem?_eq_some_iff.1 hown).1
  have hrun := run_range_map (P := P) w t k e b _ _ ht hown
  unfold Oper.wpIn
  refine ⟨?_, ?_⟩
  · simp [Oper.about, hop]
  · rw [Oper.semAt_plain F _ _ (by rw [hop]; intro c hc'; cases hc')]
    simp [execOp, hop, hm, hrun, Result.andThen]
    exact hK' _ _ (hK _ ⟨((MapKept.heap_alloc w _).2 b hlt).trans hown, (MapKept.heap_alloc w _).1, List.nodup_nil, fun i hi => by cases hi⟩ (World.grownBy_alloc w _ none) (by simp))
theorem wpListIn_nextV (hg : o.guard = none) (it : Operand) (hop : o.op = Op.next it false) (b r : Nat) (l : List (List Int × Value)) (is : List Nat)
    (hit : a.eval it = .pointer (some ⟨r, 0, none⟩)) (h : RngV w b r l is)
    (hDone : is.Perm (List.range l.length) → wpListIn F n P ops Q rest (a.put o.dst (.tuple #[.bool false])) w)
    (hMore : ∀ (i : Nat) (k : List Int) (u : Value) (w' : World), l[i]? = some (k, u) → i ∉ is → RngV w' b r l (is ++ [i]) →
      w.grownBy w' (some r) → w'.heap.size = w.heap.size → (Instr.entry (.pointer (some ⟨r, 0, none⟩))).run P w' = .ok (.tuple #[keyL k, u]) w' → wpListIn F n P ops Q rest (a.put o.dst (.tuple #[.bool true, keyL k, u])) w') :
    wpListIn F n P ops Q (o :: rest) a w := by
  refine wpListIn_plain hg fun K' hK' => ?_
  unfold Oper.wpIn
  refine ⟨by simp [Oper.about, hop], ?_⟩
  rw [Oper.semAt_plain F _ _ (by rw [hop]; intro c hc'; cases hc')]
  have hne : r ≠ b := fun e => by
    have h1 := h.hr
    rw [e, h.hb] at h1
    cases h1
  have hold : ∀ x ∈ (mEnt keyL valV 0 l).toArray.toList, x.born < l.length := fun x hx => by
    obtain ⟨i, p, h1, rfl⟩ := mEnt_mem (by simpa using hx)
    have := (List.getElem?_eq_some_iff.1 h1).1
    simpa using this
  rcases run_next_at (P := P) w o.type r b l.length l.length is.toArray _ _ h.hr h.hb hold (Nat.le_refl _) with ⟨h0, hrun⟩ | ⟨e, he, w1, hal, hrun⟩
  · simp [execOp, hop, hit, hrun, Result.andThen]
    refine hK' _ _ (hDone ?_)
    refine (List.perm_ext_iff_of_nodup h.nod List.nodup_range).2 fun i => ⟨fun hi => List.mem_range.2 (h.lt i hi), fun hi => ?_⟩
    apply Classical.byContradiction
    intro hni
    have hi2 := List.mem_range.1 hi
    have hm := mEnt_at (kE := keyL) (vE := valV) (n := 0) (List.getElem?_eq_getElem hi2)
    have hin := left_iff.2 ⟨hm, (by simpa using hni : (⟨keyL (l[i]).1, valV (l[i]).2, 0 + i⟩ : MapEntry).born ∉ is)⟩
    have : (leftOf (mEnt keyL valV 0 l).toArray is.toArray).toList = [] := by
      rw [Array.toList_eq_nil_iff]
      exact Array.eq_empty_of_size_eq_zero h0
    rw [this] at hin
    cases hin
  · obtain ⟨hem, hes⟩ := left_iff.1 he
    obtain ⟨i, p, hp, rfl⟩ := mEnt_mem hem
    have hil := (List.getElem?_eq_some_iff.1 hp).1
    simp only [Nat.zero_add] at hes hrun hem
    have hr1 : w1.heap[r]? = some (.mapIter (some b) l.length is.toArray l.length) := by rcases hal with rfl | rfl <;> exact h.hr
    have hb1 : w1.heap[b]? = some (.map (mEnt keyL valV 0 l).toArray l.length) := by rcases hal with rfl | rfl <;> exact h.hb
    have epush : is.toArray.push i = (is ++ [i]).toArray := by simp
    rw [epush] at hrun
    have hset := heap_set (o' := .mapIter (some b) l.length (is ++ [i]).toArray l.length) hr1
    have hb' : (setBlock w1 r (.mapIter (some b) l.length (is ++ [i]).toArray l.length)).heap[b]? = some (.map (mEnt keyL valV 0 l).toArray l.length) := (hset.2 b (fun e1 => hne e1.symm)).trans hb1
    have hent := run_entry_at (P := P) (setBlock w1 r (.mapIter (some b) l.length (is ++ [i]).toArray l.length)) r b l.length is.toArray _ _ (⟨keyL p.1, valV p.2, i⟩ : MapEntry) (by rw [epush]; exact hset.1) hb' (by simpa using hem) (by rw [List.toList_toArray, mEnt_born]; exact List.nodup_range')
    simp [execOp, hop, hit, hrun, Result.andThen]
    refine hK' _ _ (hMore i p.1 p.2 _ hp hes ⟨hb', hset.1, ?_, fun j hj => ?_⟩ ?_ ?_ hent)
    · rw [List.nodup_append]
      exact ⟨h.nod, by simp, fun x hx y hy => by rw [List.mem_singleton.1 hy]; exact fun e => hes (e ▸ hx)⟩
    · rcases List.mem_append.1 hj with hj | hj
      · exact h.lt j hj
      · rw [List.mem_singleton.1 hj]; exact hil
    · rcases hal with rfl | rfl <;> exact ⟨rfl, rfl, rfl, by simp [setBlock], fun i _ hi => hset.2 i (fun e1 => hi (by rw [e1]))⟩
    · rcases hal with rfl | rfl <;> simp [setBlock]
end
theorem iter_walk {W : World} {b r : Nat} {l : List (List Int × Value)} {is : List Nat} (h : RngV W b r l is) : ∃ o : Obj, W.heap[r]? = some o ∧ o.isWalk = true := ⟨_, h.hr, rfl⟩
def leftV (n : Nat) (W : World) (r : Nat) : Nat := match W.heap[r]? with
  | some (.mapIter _ _ seen _) => n - seen.size
  | _ => 0
theorem RngV.left {W : World} {b r : Nat} {l : List (List Int × Value)} {is : List Nat} (h : RngV W b r l is) : leftV l.length W r = l.length - is.length := by simp [leftV, h.hr]
set_option maxRecDepth 100000 in
set_option maxHeartbeats 2000000 in
theorem values1_in (F : Fence) (n : Nat) (h8 : F.fn 124) (hro : F.round = none) (hn : 1 ≤ n) (lY Bm b : Nat) (l : List (List Int × Value)) (hl : ∀ p ∈ l, IsS p.2) (J : List SlV → World → Prop)
    (hY : ∀ pre x W, J pre W → pre.length < l.length → YieldAt F (n - 1) Tryz.prog lY #[x.1] W fun e W' => e = .returned (.bool true) ∧ J (pre ++ [x]) W' ∧ KeepsWalks W W')
    (W : World) (hJ : AbidesFrom W.heap.size J) (hm : W.cell? ⟨Bm, 0, none⟩ = some (.map (some b))) (hown : MapIs keyL valV b l W) (h0 : J [] W) :
    CallsIn F n Tryz.prog 124 #[.func (.yield lY) #[] #[], .pointer (some ⟨Bm, 0, none⟩)] W fun e W' => (∃ v, e = .returned v) ∧ ∃ us, (∃ is : List Nat, is.Perm (List.range l.length) ∧ us.map Subtype.val = atPl l is) ∧ J us W' := by
  refine callsIn_of_wp Tryz.func124 rfl h8 ?_ hro
  simp only [Tryz.ntmps124, List.size_toArray, List.length_cons, List.length_nil, Nat.reduceAdd, Nat.reduceSub, Array.replicate_succ, Array.replicate_zero, List.push_toArray, List.append_toArray, List.nil_append, List.cons_append]
  gi_wp2_with (first
    | (gi_at_range; refine wpListIn_rangeV _ rfl _ 64 rfl 9 22 Tryz.underlying64 b l rfl hown ?_; intro w0 hrg0 hg0 hs0)
    | gi_in)
  go_frame
  gi_loopw [4] (fun _ wr => ∃ (is : List Nat) (us : List SlV), RngV wr b W.heap.size l is ∧ us.map Subtype.val = atPl l is ∧ J us wr)
    (fun _ wr => leftV l.length wr W.heap.size)
  case atStart =>
    exact ⟨[], [], hrg0, rfl, hJ [] W w0 none h0 hg0 (fun r e => by cases e)⟩
  case round =>
    obtain ⟨is, us, hrg, hus, hJs⟩ := hrel
    have hul : us.length = is.length := by have := congrArg List.length hus; rw [List.length_map, atPl, List.length_map] at this; exact this
    gi_wp2_with (first
      | (gi_at_next; refine wpListIn_nextV _ rfl _ rfl b W.heap.size l is rfl hrg ?_ ?_)
      | gi_in)
    · intro hperm
      gi_wp2
      go_end0
      exact ⟨⟨_, rfl⟩, us, ⟨is, hperm, hus⟩, hJs⟩
    · intro i k u w2 hp hni hrg2 hg2 hs2 hen
      have hJ2 : J us w2 := hJ us wr w2 (some W.heap.size) hJs hg2 (fun r e => by cases e; exact ⟨Nat.le_refl _, iter_walk hrg⟩)
      have hlen2 := hrg2.len
      rw [List.length_append, List.length_singleton] at hlen2
      have hS : IsS u := hl (k, u) (List.mem_of_getElem? hp)
      obtain ⟨fn, tmps, assign, body, hy, hR⟩ := hY us ⟨u, hS⟩ w2 hJ2 (by omega)
      clear hs2
      gi_wp2
      refine hR.mono ?_
      rintro e W3 ⟨rfl, hJ3, hk3⟩
      gi_wp2
      have hrg3 := hrg2.walks hk3
      go_roundw
      case rel => exact ⟨is ++ [i], us ++ [⟨u, hS⟩], hrg3, by rw [List.map_append, hus]; simp [atPl, List.getD, hp], hJ3⟩
      case measure => rw [hrg3.left, hrg.left, List.length_append, List.length_singleton]; omega
set_option maxHeartbeats 1000000 in
theorem values_in (F : Fence) (n : Nat) (hf : F.fn 66) (hro : F.round = none) (mb : Option Nat) (w : World) :
    CallsIn F n Tryz.prog 66 #[.map mb] w fun e w' => e = .returned (.func (.func 124) #[] #[.pointer (some ⟨w.heap.size, 0, none⟩)]) ∧ w' = w.alloc (.cells #[.map mb] 64) := by
  refine callsIn_of_wp Tryz.func66 rfl hf ?_ hro
  simp only [Tryz.ntmps66, List.size_toArray, List.length_cons, List.length_nil, Nat.reduceAdd, Nat.reduceSub, Array.replicate_succ, Array.replicate_zero, List.push_toArray, List.append_toArray, List.nil_append, List.cons_append]
  gi_wp2
  go_ret
  exact ⟨rfl, rfl⟩
theorem values_w {W : World} {own : List Asn} {g : Nat} : Spec Tryz.prog 66 [.map (some g)] W own fun v ow => ∃ q, v = .func (.func 124) #[] #[.pointer (some ⟨q, 0, none⟩)] ∧ ow = box q 64 [.map (some g)] :: own := fun w hst =>
  (callsIn_wide.1 (values_in Fence.wide 1 trivial rfl (some g) w)).mono fun e w' ⟨he, hw⟩ => ⟨_, _, he, ⟨w.heap.size, rfl, rfl⟩, by
    subst hw
    exact hst.push ((Below.refl _ _).alloc (Nat.le_refl _) _) (Proofs.YtgelkakjmbiibaaGreatDoor.box w.heap.size 64 [.map (some g)]) (fun k => k = w.heap.size) ⟨fun _ => Iff.rfl, heap_alloc_new w _⟩ fun k hk => by subst hk; simp⟩
theorem St.cellOf {W w : World} {own : List Asn} {i q T : Nat} {u : Value} (h : St W w own) (hi : own[i]? = some (Proofs.YtgelkakjmbiibaaGreatDoor.box q T [u])) : w.cell? ⟨q, 0, none⟩ = some u := by
  obtain ⟨_, _, _, F, _, hH⟩ := h
  obtain ⟨F1, _, h1⟩ := hH.get hi
  simp [World.cell?, h1.2]
theorem collect_w {W : World} {own : List Asn} {q g i j : Nat} {l : List (List Int × Value)} (hi : own[i]? = some (box q 64 [.map (some g)])) (hj : own[j]? = some (mapA keyL valV g l)) (hl : ∀ p ∈ l, IsS p.2) (hN : l.length ≤ 1048576) :
    Spec Tryz.prog 65 [.func (.func 124) #[] #[.pointer (some ⟨q, 0, none⟩)]] W own fun v ow => ∃ (r : Value) (is : List Nat), v = r ∧ IsS r ∧ AllS (atPl l is) ∧ is.Perm (List.range l.length) ∧ ow = lst 22 r (atPl l is) :: own := fun w hst => by
  have hm := hst.map hj
  have hc := hst.cellOf hi
  have hql : q < w.heap.size := by
    simp only [World.cell?] at hc
    cases h : w.heap[q]? with
    | none => simp [h] at hc
    | some o => exact (Array.getElem?_eq_some_iff.1 h).1
  have hgl : g < w.heap.size := (Array.getElem?_eq_some_iff.1 hm).1
  have hseq : SeqGives Fence.wide (5 - 1 - 1) Tryz.prog 124 #[.pointer (some ⟨q, 0, none⟩)] (Subtype.val : SlV → Value) (fun us => ∃ is : List Nat, is.Perm (List.range l.length) ∧ us.map Subtype.val = atPl l is) l.length w := fun lY J W1 hW hJ hY h0 =>
    values1_in Fence.wide (5 - 1 - 1) trivial rfl (by decide) lY q g l hl J hY W1 hJ ((hW.cell (p := ⟨q, 0, none⟩) hql).trans hc) ((hW.block g hgl).trans hm) h0
  refine (callsIn_wide.1 (cqcollect_in Fence.wide 5 trivial trivial rfl (by decide) 124 #[.pointer (some ⟨q, 0, none⟩)] trivial (enters_of Tryz.func124 (by kernel_rfl) rfl) _ l.length (by simp only [maxLen]; omega) (by omega) w hseq)).mono ?_
  rintro e w' ⟨v, ss, rfl, ⟨is, hperm, hss⟩, hrow, hnil, hb⟩
  refine ⟨_, _, rfl, ⟨v, is, rfl, ?_, fun u hu => ?_, hperm, rfl⟩, ?_⟩
  · rcases hrow.2 with ⟨rfl, _⟩ | ⟨g', cap, cur, rfl, _⟩
    · exact IsS.nil
    · exact ⟨_, _, _, rfl⟩
  · rw [← hss] at hu
    obtain ⟨x, _, rfl⟩ := List.mem_map.1 hu
    exact x.2
  · have h1 := Own.of_row hrow
    have h2 := row_push hst h1 hb
    have h3 : ss.length = (atPl l is).length := by rw [← hss, List.length_map]
    rw [h3, hss] at h2
    exact h2
end Go.Proofs.YtgelkakjmbiibaaGreatDoor
