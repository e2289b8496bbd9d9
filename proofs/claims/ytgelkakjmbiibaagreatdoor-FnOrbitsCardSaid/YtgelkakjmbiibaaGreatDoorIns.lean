/-
  One number put in front of an owned slice of whole numbers by the library's Insert, in the words of XSep.
-/
import Derived.Test.YtgelkakjmbiibaaGreatDoorZ21
import Derived.Test.YtgelkakjmbiibaaGreatDoorZ16
import Derived.Shelf.Spec.SlicesInsert
import Derived.Shelf.Spec.SlicesInsertGrow
namespace Go.Proofs.YtgelkakjmbiibaaGreatDoor
set_option linter.unusedVariables false
set_option linter.unusedSimpArgs false
open Go.RowKit
theorem cong2 {α β γ : Type} (F : α → β → γ) {a a' : α} {b b' : β} (h1 : a = a') (h2 : b = b') : F a b = F a' b' := by rw [h1, h2]
theorem bx_setCells {g e : Nat} : ∀ (us : List Value) (o : Nat) (w : World) (cs : List Value), Bx w g e cs → o + us.length ≤ cs.length → Bx (w.setCells g o us) g e (cs.take o ++ us ++ cs.drop (o + us.length))
  | [], o, w, cs, h, _ => by
    simp only [List.length_nil, Nat.add_zero, List.append_nil, List.take_append_drop]
    exact h
  | u :: us, o, w, cs, h, hl => by
    simp only [List.length_cons] at hl
    have h2 := bx_setCells us (o + 1) (w.setCell ⟨g, o, none⟩ u) (cs.set o u) (h.set o u) (by rw [List.length_set]; omega)
    rw [set_mid (show o < cs.length by omega)] at h2
    exact h2
theorem kept_setCells {g : Nat} : ∀ (us : List Value) (o : Nat) (w : World), (w.setCells g o us).os = w.os ∧ (w.setCells g o us).tape = w.tape ∧ (w.setCells g o us).output = w.output ∧ (w.setCells g o us).heap.size = w.heap.size ∧ ∀ k, k ≠ g → (w.setCells g o us).heap[k]? = w.heap[k]?
  | [], _, _ => ⟨rfl, rfl, rfl, rfl, fun _ _ => rfl⟩
  | u :: us, o, w => by
    obtain ⟨h1, h2, h3, h4, h5⟩ := kept_setCells us (o + 1) (w.setCell ⟨g, o, none⟩ u)
    exact ⟨h1, h2, h3, h4.trans (by simp [World.setCell]), fun k hk => (h5 k hk).trans (Below.heap_setCell w ⟨g, o, none⟩ u k hk)⟩
theorem below_setCells {B g : Nat} {a w : World} (h : Below B a w) (hg : B ≤ g) (us : List Value) (o : Nat) : Below B a (w.setCells g o us) := by
  obtain ⟨h1, h2, h3, h4, h5⟩ := kept_setCells (g := g) us o w
  exact h.trans ⟨h1, h2, h3, by rw [h4]; exact Nat.le_refl _, fun k hk => h5 k (by omega)⟩
theorem alloc_size (w : World) (o : Obj) : (w.alloc o).heap.size = w.heap.size + 1 := Array.size_push ..
theorem own_of_bx {w : World} {e g n cap : Nat} {cur cs : List Value} (h : Bx w g e cur) (hn : n ≤ cap) (hm : cap ≤ maxLen) (hc : cur.length = cap) (ht : cur.take n = cs) : Own w 0 e 1 (.slice (some ⟨g, 0, none⟩) n cap) n cs :=
  .inr ⟨by rw [← ht, List.length_take]; omega, g, cap, cur.toArray, rfl, Nat.zero_le _, h, hn, hm, by simp [hc], by simpa using ht⟩
theorem insert_w {W : World} {own : List Asn} {vx vy : Value} {x : List Int} {a : Int} (hl : x.length ≤ 1073741824) :
    Spec Tryz.prog 91 [vx, .int .i64 0, vy] W (ints 3 vx x :: ints 3 vy [a] :: own) fun v ow => ∃ r, v = r ∧ IsS r ∧ ow = ints 3 r (a :: x) :: own := by
  intro w hs
  have hs0 := hs
  obtain ⟨F1, ⟨k3, k4⟩, f2, f3⟩ := hs.upd (i := 0) rfl
  obtain ⟨_, _, _, F, _, A1, A2, _, a2, ⟨_, a4⟩, G1, G2, g1, _, ⟨g3, g4⟩, _⟩ := hs0
  have sub2 : ∀ {w' : World} {A : Asn}, St W w' ((ints 3 vx x :: ints 3 vy [a] :: own).set 0 A) → St W w' (A :: own) := fun h => h.sub (List.Sublist.cons_cons _ (List.sublist_cons_self _ _))
  have sub1 : St W w own := hs.drop 2
  rcases g3 with ⟨h, _⟩ | ⟨_, vb, vcap, vcur, rfl, _, hvg, hvn, hvm, hvs, hvt⟩
  · cases h
  have hv1 : ∀ j v, [Value.int .i64 a][j]? = some v → w.cell? ⟨vb, 0 + j, none⟩ = some v := fun j v hj => by
    rw [cell_of_row w vb (0 + j) vcur _ (0, 0) hvg]
    have hj0 : j = 0 := by have := (List.getElem?_eq_some_iff.1 hj).1; simpa using this
    subst hj0
    have h0 : vcur.toList[0]? = some (.int .i64 a) := by
      have := congrArg (fun l : List Value => l[0]?) hvt
      simpa [List.getElem?_take] using this
    rw [← hj]
    simpa using h0
  have h1v : ∀ v ∈ [Value.int .i64 a], v.oneCell' = true := fun v hv => by simp at hv; subst hv; rfl
  have e2 : (a :: x).map (Value.int .i64) = [Value.int .i64 a] ++ x.map (Value.int .i64) := rfl
  rcases k3 with ⟨hn0, hcs, rfl⟩ | ⟨h0, g, cap, cur, rfl, hb, hg, hnc, hmm, hsz, ht⟩
  · -- nil
    have hx0 : x = [] := List.eq_nil_of_length_eq_zero hn0
    subst hx0
    refine (Any2.slices_Insert_int_end_grow Tryz.l21 none 0 0 vb 0 1 vcap [] [.int .i64 a] w (by omega) (by omega) (by omega) (by omega) rfl rfl (fun _ => rfl) (fun _ h => by cases h) hv1 h1v).mono fun e w' ⟨he, hw⟩ => ⟨_, _, he, ⟨_, rfl, ⟨_, _, _, rfl⟩, rfl⟩, ?_⟩
    have hge := grownCap_ge w (0 + 1) 0 (Tryz.l21_ren.t 3)
    have hmx := grownCap_le_maxLen w (0 + 1) 0 (Tryz.l21_ren.t 3) (by simp [maxLen])
    obtain ⟨Z, hZ⟩ : ∃ Z : List Value, Z = (Builtin.zeroCells (Value.int .i64 0).cells (grownCap w (0 + 1) 0 (Tryz.l21_ren.t 3) - (0 + 1))).toList := ⟨_, rfl⟩
    have hZl : Z.length = grownCap w (0 + 1) 0 (Tryz.l21_ren.t 3) - 1 := by
      rw [hZ, Array.length_toList, size_zeroCells]
      simp [Value.cells]
    have hz' : ([] ++ [Value.int .i64 a]).toArray ++ Builtin.zeroCells (Value.int .i64 0).cells (grownCap w (0 + 1) 0 (Tryz.l21_ren.t 3) - (0 + 1)) = (Value.int .i64 a :: Z).toArray := by
      rw [hZ]
      simp
    rw [hw, hz']
    refine sub1.push ?_ _ (fun k => k = w.heap.size) ⟨own_of_bx (cur := Value.int .i64 a :: Z) (heap_alloc_new w.drew _) hge hmx ?_ ?_, fun k => by simp [Value.ownBlock, eq_comm]⟩ (fun k hk => by subst hk; exact ⟨Nat.le_refl _, by rw [alloc_size]; exact Nat.lt_succ_self _⟩)
    · exact ((Below.refl _ _).drew).alloc (Nat.le_refl _) _
    · rw [List.length_cons, hZl]
      omega
    · simp
  · have hvb : vb ≠ g := fun e => by
      have h1 : G1 vb := (g4 vb).2 rfl
      have h2 : A1 vb := (a4 vb).2 (by rw [e]; rfl)
      exact a2 vb h2 ((g1 vb).2 (.inl h1))
    have hbx : Bx w g 3 cur.toList := by simpa [Bx] using hg
    have hlt := hbx.lt
    have hcl : (x.map (Value.int .i64)).length = x.length := by simp
    have hcz : cur.toList.length = cap := by simpa using hsz
    have htk : cur.toList.take x.length = x.map (Value.int .i64) := by simpa using ht
    have hcell : ∀ j v, (x.map (Value.int .i64))[j]? = some v → w.cell? ⟨g, 0 + j, none⟩ = some v := fun j v hj => by
      rw [hbx.cell, Nat.zero_add]
      have hjl : j < x.length := by have := (List.getElem?_eq_some_iff.1 hj).1; simpa using this
      rw [← htk, List.getElem?_take_of_lt hjl] at hj
      exact hj
    have hown : ∀ k, F1 k ↔ k = g := fun k => (k4 k).trans (by simp [Value.ownBlock, eq_comm])
    have inplace : ∀ (w' : World) (n' : Nat), w'.os = w.os → w'.tape = w.tape → w'.output = w.output → w'.heap.size = w.heap.size → (∀ k, k ≠ g → w'.heap[k]? = w.heap[k]?) → ∀ cur' : List Value, Bx w' g 3 cur' → cur'.length = cap → n' = x.length + 1 → n' ≤ cap → cur'.take n' = (a :: x).map (Value.int .i64) → St W w' (ints 3 (.slice (some ⟨g, 0, none⟩) n' cap) (a :: x) :: own) := fun w' n' e1 e2 e3 e4 e5 cur' hb' hc' hn' hnc' ht' => by
      subst hn'
      refine sub2 (f3 w' _ (fun k => k = g) e1 e2 e3 (by rw [e4]; exact Nat.le_refl _) ⟨own_of_bx hb' hnc' hmm hc' ht', fun k => by simp [Value.ownBlock, eq_comm]⟩ (fun k _ hk => e5 k fun e => hk ((hown k).2 e)) fun k hk => ?_)
      subst hk
      exact ⟨.inl ((hown k).2 rfl), by rw [e4]; exact hlt⟩
    have fresh : ∀ (w' : World) (n' cap' : Nat), Below w.heap.size w w' → w.heap.size < w'.heap.size → ∀ cur' : List Value, Bx w' w.heap.size 3 cur' → cur'.length = cap' → n' = x.length + 1 → n' ≤ cap' → cap' ≤ maxLen → cur'.take n' = (a :: x).map (Value.int .i64) → St W w' (ints 3 (.slice (some ⟨w.heap.size, 0, none⟩) n' cap') (a :: x) :: own) := fun w' n' cap' hb1 hs1 cur' hb' hc' hn' hnc' hm' ht' => by
      subst hn'
      exact sub1.push hb1 _ (fun k => k = w.heap.size) ⟨own_of_bx hb' hnc' hm' hc' ht', fun k => by simp [Value.ownBlock, eq_comm]⟩ fun k hk => by subst hk; exact ⟨Nat.le_refl _, hs1⟩
    by_cases hx0 : x.length = 0
    · have hx1 : x = [] := List.eq_nil_of_length_eq_zero hx0
      subst hx1
      by_cases hc0 : cap = 0
      · subst hc0
        refine (Any2.slices_Insert_int_end_grow Tryz.l21 (some ⟨g, 0, none⟩) 0 0 vb 0 1 vcap [] [.int .i64 a] w (by omega) (by omega) (by omega) (by omega) rfl rfl (fun _ => rfl) (fun _ _ j v h => by simp at h) hv1 h1v).mono fun e w' ⟨he, hw⟩ => ⟨_, _, he, ⟨_, rfl, ⟨_, _, _, rfl⟩, rfl⟩, ?_⟩
        have hge := grownCap_ge w (0 + 1) 0 (Tryz.l21_ren.t 3)
        have hmx := grownCap_le_maxLen w (0 + 1) 0 (Tryz.l21_ren.t 3) (by simp [maxLen])
        obtain ⟨Z, hZ⟩ : ∃ Z : List Value, Z = (Builtin.zeroCells (Value.int .i64 0).cells (grownCap w (0 + 1) 0 (Tryz.l21_ren.t 3) - (0 + 1))).toList := ⟨_, rfl⟩
        have hZl : Z.length = grownCap w (0 + 1) 0 (Tryz.l21_ren.t 3) - 1 := by
          rw [hZ, Array.length_toList, size_zeroCells]
          simp [Value.cells]
        have hz' : ([] ++ [Value.int .i64 a]).toArray ++ Builtin.zeroCells (Value.int .i64 0).cells (grownCap w (0 + 1) 0 (Tryz.l21_ren.t 3) - (0 + 1)) = (Value.int .i64 a :: Z).toArray := by
          rw [hZ]
          simp
        rw [hw, hz']
        refine fresh _ _ _ (((Below.refl _ _).drew).alloc (Nat.le_refl _) _) (by rw [alloc_size]; exact Nat.lt_succ_self _) (Value.int .i64 a :: Z) (heap_alloc_new w.drew _) ?_ rfl hge hmx ?_
        · rw [List.length_cons, hZl]
          omega
        · simp
      · refine (Any2.slices_Insert_int_end_room Tryz.l21 g 0 0 cap vb 0 1 vcap [.int .i64 a] w (by omega) (by omega) (by simp only [maxLen] at hmm; omega) rfl (fun j hj => ?_) (fun j hj => hbx.free _) hv1 h1v).mono fun e w' ⟨he, hw⟩ => ⟨_, _, he, ⟨_, rfl, ⟨_, _, _, rfl⟩, rfl⟩, ?_⟩
        · rw [hbx.cell, List.getElem?_eq_getElem (by omega)]
          rfl
        · obtain ⟨q1, q2, q3, q4, q5⟩ := kept_setCells (g := g) [Value.int .i64 a] (0 + 0) w
          rw [hw]
          refine inplace _ _ q1 q2 q3 q4 q5 _ (bx_setCells _ _ _ _ hbx (by simp; omega)) ?_ rfl (by simp; omega) ?_
          · simp
            omega
          · simp
    · by_cases hroom : x.length + 1 ≤ cap
      · refine (Any2.slices_Insert_int_shift Tryz.l21 g 0 x.length cap 0 vb 0 1 vcap (x.map (Value.int .i64)) [.int .i64 a] w (by omega) (by omega) hroom (by simp only [maxLen] at hmm; omega) hvb hcl rfl hcell (fun j hj => ?_) (fun j hj => hbx.free _) hv1 (oneCell_ints _) h1v 3 3 vcur.size cur.size (by simp [World.shape?, hvg]) (by simp [World.shape?, hg]) (by rw [hsz]; omega) (by simp [World.frozen?, hvg]) (by simp [World.frozen?, hvg])).mono fun e w' ⟨he, hw⟩ => ⟨_, _, he, ⟨_, rfl, ⟨_, _, _, rfl⟩, rfl⟩, ?_⟩
        · rw [hbx.cell, List.getElem?_eq_getElem (by omega)]
          rfl
        · have b1 := bx_setCells ((x.map (Value.int .i64)).drop 0) (0 + (0 + 1)) w.drew cur.toList (show Bx w.drew g _ _ from hbx) (by simp; omega)
          have b2 := bx_setCells [Value.int .i64 a] (0 + 0) _ _ b1 (by simp; omega)
          obtain ⟨q1, q2, q3, q4, q5⟩ := kept_setCells (g := g) ((x.map (Value.int .i64)).drop 0) (0 + (0 + 1)) w.drew
          obtain ⟨r1, r2, r3, r4, r5⟩ := kept_setCells (g := g) [Value.int .i64 a] (0 + 0) (w.drew.setCells g (0 + (0 + 1)) ((x.map (Value.int .i64)).drop 0))
          rw [hw]
          refine inplace _ _ (r1.trans q1) (r2.trans q2) (r3.trans q3) (r4.trans q4) (fun k hk => (r5 k hk).trans (q5 k hk)) _ b2 ?_ rfl hroom ?_
          · simp
            omega
          · have hd : 1 ≤ cur.toList.length := by omega
            match cur.toList, hd with
            | c0 :: cr, _ => simp [List.take_append, List.take_of_length_le]
      · refine (Any2.slices_Insert_int_grow Tryz.l21 g 0 x.length cap 0 vb 0 1 vcap (x.map (Value.int .i64)) [.int .i64 a] w (by omega) (by omega) hnc (by omega) (by omega) hcl rfl hcell hv1 (oneCell_ints _) h1v).mono fun e w' ⟨he, hw⟩ => ⟨_, _, he, ⟨_, rfl, ⟨_, _, _, rfl⟩, rfl⟩, ?_⟩
        have hge := grownCap_ge w (x.length + 1) cap (Tryz.l21_ren.t 3)
        have hmx := grownCap_le_maxLen w (x.length + 1) cap (Tryz.l21_ren.t 3) (by simp [maxLen]; omega)
        obtain ⟨Z, hZ⟩ : ∃ Z : List Value, Z = ((((x.map (Value.int .i64)).take 0).toArray ++ Builtin.zeroCells (Value.int .i64 0).cells (x.length + 1 - 0)) ++ Builtin.zeroCells (Value.int .i64 0).cells (grownCap w (x.length + 1) cap (Tryz.l21_ren.t 3) - (x.length + 1))).toList := ⟨_, rfl⟩
        have hZl : Z.length = grownCap w (x.length + 1) cap (Tryz.l21_ren.t 3) := by
          rw [hZ, Array.length_toList, Array.size_append, Array.size_append, size_zeroCells, size_zeroCells]
          simp [Value.cells]
          omega
        have b0 : Bx (w.alloc (.cells Z.toArray (Tryz.l21_ren.t 3))) w.heap.size 3 Z := heap_alloc_new w _
        have b1 := bx_setCells [Value.int .i64 a] 0 _ _ (show Bx (w.alloc (.cells Z.toArray (Tryz.l21_ren.t 3))).drew _ _ _ from b0) (by simp; omega)
        have b2 := bx_setCells ((x.map (Value.int .i64)).drop 0) (0 + 1) _ _ (show Bx ((w.alloc (.cells Z.toArray (Tryz.l21_ren.t 3))).drew.setCells w.heap.size 0 [Value.int .i64 a]).drew _ _ _ from b1) (by simp; omega)
        rw [hw]
        have hz' : (Z.toArray : Array Value) = (((x.map (Value.int .i64)).take 0).toArray ++ Builtin.zeroCells (Value.int .i64 0).cells (x.length + 1 - 0)) ++ Builtin.zeroCells (Value.int .i64 0).cells (grownCap w (x.length + 1) cap (Tryz.l21_ren.t 3) - (x.length + 1)) := by rw [hZ]
        rw [← hz']
        have hbl : Below w.heap.size w (((w.alloc (.cells Z.toArray (Tryz.l21_ren.t 3))).drew.setCells w.heap.size 0 [Value.int .i64 a]).drew.setCells w.heap.size (0 + 1) ((x.map (Value.int .i64)).drop 0)) :=
          below_setCells (below_setCells (((Below.refl _ _).alloc (Nat.le_refl _) _).drew) (Nat.le_refl _) _ _).drew (Nat.le_refl _) _ _
        refine fresh _ _ _ hbl ?_ _ b2 ?_ rfl hge hmx ?_
        · obtain ⟨_, _, _, q4, _⟩ := kept_setCells (g := w.heap.size) ((x.map (Value.int .i64)).drop 0) (0 + 1) ((w.alloc (.cells Z.toArray (Tryz.l21_ren.t 3))).drew.setCells w.heap.size 0 [Value.int .i64 a]).drew
          obtain ⟨_, _, _, r4, _⟩ := kept_setCells (g := w.heap.size) [Value.int .i64 a] 0 (w.alloc (.cells Z.toArray (Tryz.l21_ren.t 3))).drew
          rw [q4]
          show w.heap.size < ((w.alloc (.cells Z.toArray (Tryz.l21_ren.t 3))).drew.setCells w.heap.size 0 [Value.int .i64 a]).heap.size
          rw [r4]
          show w.heap.size < (w.alloc (.cells Z.toArray (Tryz.l21_ren.t 3))).heap.size
          rw [alloc_size]
          exact Nat.lt_succ_self _
        · simp
          omega
        · have hd : 1 ≤ Z.length := by omega
          match Z, hd with
          | c0 :: cr, _ => simp [List.take_append, List.take_of_length_le]
end Go.Proofs.YtgelkakjmbiibaaGreatDoor
