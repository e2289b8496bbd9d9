/-
  Small laws for walks through the laws on matrices: how facts travel step by step.
-/
import Derived.Test.YtiapoopcicjldaaL1Add
namespace Go.Proofs.Ytiapoopcicjldaa
open Go.RowKit

/-- All that lies in W is as it was. (A name of its own, so that the steps' own 'Below' are told from it.) -/
def SB (W w' : World) : Prop := Below W.heap.size W w'
theorem SB.refl (W : World) : SB W W := Below.refl _ _
theorem SB.drew {W w : World} (h : SB W w) : SB W w.drew := Below.drew h
theorem SB.alloc {W w : World} (h : SB W w) (o : Obj) : SB W (w.alloc o) := Below.alloc h (Below.size h) o
theorem SB.step {W w w' : World} (h : SB W w) (hb : Below w.heap.size w w') : SB W w' := Below.trans h (hb.mono (Below.size h))
theorem SB.setCell {W w : World} (h : SB W w) {a : Addr} (ha : W.heap.size ≤ a.block) (v : Value) : SB W (w.setCell a v) := Below.setCell h ha v
theorem SB.grown {W w w' : World} {row : Option Nat} (h : SB W w) (hg : w.grownBy w' row) (hr : ∀ k, row = some k → W.heap.size ≤ k) : SB W w' := Below.grown h hg (Below.size h) hr
theorem SB.below {W w : World} (h : SB W w) : Below W.heap.size W w := h

theorem IsMat.alloc {w : World} {v : Value} {m : Mat} (h : IsMat w v m) (o : Obj) : IsMat (w.alloc o) v m := h.below (Below.allocs o)
theorem IsMat.drew {w : World} {v : Value} {m : Mat} (h : IsMat w v m) : IsMat w.drew v m := h
theorem Bx.step {w w' : World} {g e : Nat} {cs : List Value} (h : Bx w g e cs) (hb : Below w.heap.size w w') : Bx w' g e cs := h.below hb h.lt
theorem Ints.step {w w' : World} {v : Value} {xs : List Int} (h : Ints w v xs) (hb : Below w.heap.size w w') : Ints w' v xs := Sl.below h hb
theorem Ints.alloc {w : World} {v : Value} {xs : List Int} (h : Ints w v xs) (o : Obj) : Ints (w.alloc o) v xs := Sl.below h (Below.allocs o)
theorem OwnI.step {w w' : World} {B e : Nat} {v : Value} {xs : List Int} (h : OwnI w B e v xs) (hb : Below w.heap.size w w') : OwnI w' B e v xs := Own.below h hb
theorem OwnI.alloc {w : World} {B e : Nat} {v : Value} {xs : List Int} (h : OwnI w B e v xs) (o : Obj) : OwnI (w.alloc o) B e v xs := Own.below h (Below.allocs o)
theorem OwnI.grown {w w' : World} {B e : Nat} {v : Value} {xs : List Int} {row : Option Nat} (h : OwnI w B e v xs) (hg : w.grownBy w' row) (hne : v.ownBlock = none ∨ v.ownBlock ≠ row) : OwnI w' B e v xs := Own.grown h hg hne
theorem Ints.grown {w w' : World} {v : Value} {xs : List Int} {row : Option Nat} (h : Ints w v xs) (hg : w.grownBy w' row) (hne : v.ownBlock = none ∨ v.ownBlock ≠ row) : Ints w' v xs := Sl.grown h hg hne

theorem Bx.set4 {w : World} {g e : Nat} {a b c d : Value} (h : Bx w g e [a, b, c, d]) (a' b' c' d' : Value) :
    Bx ((((w.setCell ⟨g, 0, none⟩ a').setCell ⟨g, 1, none⟩ b').setCell ⟨g, 2, none⟩ c').setCell ⟨g, 3, none⟩ d') g e [a', b', c', d'] := (((h.set 0 a').set 1 b').set 2 c').set 3 d'
theorem OwnI.set4 {w : World} {B e g : Nat} {v : Value} {xs : List Int} (h : OwnI w B e v xs) (hg : g < B) (a' b' c' d' : Value) :
    OwnI ((((w.setCell ⟨g, 0, none⟩ a').setCell ⟨g, 1, none⟩ b').setCell ⟨g, 2, none⟩ c').setCell ⟨g, 3, none⟩ d') B e v xs := (((h.setB hg).setB hg).setB hg).setB hg
theorem SB.trans {W w w' : World} (h : SB W w) (h' : SB w w') : SB W w' := h.step h'
/-- A variable of type Matrix at block g whose data the call owns. -/
structure VarM (w : World) (B g : Nat) (ao : Option Addr) (cap : Nat) (m : Mat) : Prop where
  box : Bx w g 35 [.int .i64 m.p, .int .i64 m.r, .int .i64 m.c, .slice ao m.d.length cap]
  own : OwnI w B 3 (.slice ao m.d.length cap) m.d
  hB : B ≤ g
  ne : (Value.slice ao m.d.length cap).ownBlock ≠ some g
theorem VarM.step {w w' : World} {B g : Nat} {ao : Option Addr} {cap : Nat} {m : Mat} (h : VarM w B g ao cap m) (hb : Below w.heap.size w w') : VarM w' B g ao cap m :=
  ⟨h.box.step hb, h.own.step hb, h.hB, h.ne⟩
theorem VarM.alloc {w : World} {B g : Nat} {ao : Option Addr} {cap : Nat} {m : Mat} (h : VarM w B g ao cap m) (o : Obj) : VarM (w.alloc o) B g ao cap m := h.step (Below.allocs o)
theorem VarM.drewN {w : World} {B g : Nat} {ao : Option Addr} {cap : Nat} {m : Mat} (h : VarM w B g ao cap m) (n : Nat) : VarM (w.drewN n) B g ao cap m := h.step (below_drewN (Below.refl _ _) n)
theorem VarM.grown {w w' : World} {B g : Nat} {ao : Option Addr} {cap : Nat} {m : Mat} {row : Option Nat} (h : VarM w B g ao cap m) (hg : w.grownBy w' row) (h1 : row ≠ some g) (h2 : (Value.slice ao m.d.length cap).ownBlock = none ∨ (Value.slice ao m.d.length cap).ownBlock ≠ row) : VarM w' B g ao cap m :=
  ⟨h.box.grown hg h1, h.own.grown hg h2, h.hB, h.ne⟩
theorem VarM.cells {w : World} {B g : Nat} {ao : Option Addr} {cap : Nat} {m : Mat} (h : VarM w B g ao cap m) :
    w.cell? ⟨g, 0, none⟩ = some (.int .i64 m.p) ∧ w.cell? ⟨g, 1, none⟩ = some (.int .i64 m.r) ∧ w.cell? ⟨g, 2, none⟩ = some (.int .i64 m.c) ∧ w.cell? ⟨g, 3, none⟩ = some (.slice ao m.d.length cap) := h.box.cells4
theorem VarM.isMat {w : World} {B g : Nat} {ao : Option Addr} {cap : Nat} {m : Mat} (h : VarM w B g ao cap m) : IsMat w (.agg #[.int .i64 m.p, .int .i64 m.r, .int .i64 m.c, .slice ao m.d.length cap]) m := ⟨_, rfl, h.own.ints⟩
theorem VarM.new {w : World} {B : Nat} {ao : Option Addr} {cap : Nat} {m : Mat} (h : OwnI w B 3 (.slice ao m.d.length cap) m.d) (hB : B ≤ w.heap.size) :
    VarM (w.alloc (.cells #[.int .i64 m.p, .int .i64 m.r, .int .i64 m.c, .slice ao m.d.length cap] 35)) B w.heap.size ao cap m :=
  ⟨Bx.push _ _ _, h.alloc _, hB, h.ne (.inr (Nat.le_refl _))⟩
theorem VarM.rules {w : World} {B g : Nat} {ao : Option Addr} {cap : Nat} {m : Mat} (h : VarM w B g ao cap m) :
    (∀ w', SB w w' → w'.cell? ⟨g, 0, none⟩ = some (.int .i64 m.p)) ∧ (∀ w', SB w w' → w'.cell? ⟨g, 1, none⟩ = some (.int .i64 m.r)) ∧ (∀ w', SB w w' → w'.cell? ⟨g, 2, none⟩ = some (.int .i64 m.c)) ∧ (∀ w', SB w w' → w'.cell? ⟨g, 3, none⟩ = some (.slice ao m.d.length cap)) :=
  ⟨fun _ h' => (h.step h').cells.1, fun _ h' => (h.step h').cells.2.1, fun _ h' => (h.step h').cells.2.2.1, fun _ h' => (h.step h').cells.2.2.2⟩
/-- What is owned of late does not meet what is owned since before. -/
theorem OwnI.apart {w w' : World} {B B' e e' : Nat} {v v' : Value} {xs xs' : List Int} (h : OwnI w B e v xs) (h' : OwnI w' B' e' v' xs') (hB : w.heap.size ≤ B') : v.ownBlock = none ∨ v.ownBlock ≠ v'.ownBlock := by
  rcases h.blk with h1 | ⟨g, h1, _, h3⟩
  · exact .inl h1
  · right
    rcases h'.blk with h2 | ⟨g', h2, h4, _⟩ <;> rw [h1, h2]
    · simp
    · intro e
      have := Option.some.inj e
      omega
theorem sep_symm {x y : Option Nat} (h : x = none ∨ x ≠ y) : y = none ∨ y ≠ x := by
  rcases h with h | h
  · subst h
    cases y <;> simp
  · exact .inr fun e => h e.symm
theorem OwnI.rowB {w : World} {B e : Nat} {v : Value} {xs : List Int} (h : OwnI w B e v xs) : ∀ k, v.ownBlock = some k → B ≤ k := by
  intro k hk
  rcases h.blk with h1 | ⟨g, h1, h2, _⟩ <;> rw [h1] at hk
  · simp at hk
  · have := Option.some.inj hk
    omega
theorem eqMF_self (m : Mat) : eqMF m m = true := by simp [eqMF]
theorem heldF_marked (q : Int) (n : Nat) : heldF (marked q n) q = q + n := by simp [heldF, marked_len]
theorem SB.ofBelow {W w : World} (h : Below W.heap.size W w) : SB W w := h



end Go.Proofs.Ytiapoopcicjldaa
