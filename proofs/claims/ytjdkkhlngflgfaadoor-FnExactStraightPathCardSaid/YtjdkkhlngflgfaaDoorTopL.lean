/-
  The top of a claim whose row lists package-level variables: the world's shape is handed to the contract, and the listed variables are laid in the witness.
-/
import Derived.Test.YtjdkkhlngflgfaaDoorTop
import Derived.Test.YtjdkkhlngflgfaaDoorLib
import Derived.Test.YtjdkkhlngflgfaaDoorTie
import Derived.Test.YtjdkkhlngflgfaaDoorCards
import Derived.ChangeMaps5
import Derived.LaidMore
import Derived.Lay
import Derived.SevenTiedAt
import Derived.Stop.Joined
namespace Go.Proofs.YtjdkkhlngflgfaaDoor
set_option linter.unusedVariables false
set_option linter.unusedSimpArgs false
open Go.ChangeShapes Go.WideShapes Go.ChangeAt Go.RowKit Go.Deep Go.Joins

theorem handed_shaped {C : Checked} {os : Os} {f : FuncId} {fn : Func} {s : ChangeSpec} {apart : Bool} {X : World → Prop} {H : Type} {enc : TypeId × Value → H}
    (own : ownKnob C.prog.godebug = none) (started : os.Started) (noInit : C.prog.inits.idxOf? f = none) (hfn : C.prog.funcs[f]? = some fn)
    (witness : ∃ (w : World) (tape : Tape) (i : Input), w.os = os ∧ (w.forCall tape i).Shaped C.prog ∧ i.vars = [] ∧ Input.okWide C.prog (w.forCall tape i) .any w.heap.size f i ∧
      ((s.pre enc C.prog fn [] apart (w.forCall tape i).memory i.args ∧ X (w.forCall tape i).memory) ∧ sizedMet enc C.prog fn (OpenSpec.ofChange s) apart (w.forCall tape i).memory i.args) ∧ ({} : Assume).holds C.prog (lone (Frame.enter C.prog f i.args .normal) [] (w.forCall tape i)))
    (contract : ∀ (W : World) (base : Nat) (args : Array Value) (ds gs : List (DataW H)) (before : List MemPlace), (∀ (j : Nat) t v, fn.params[j]? = some t → args[j]? = some v → Value.okWide C.prog W .any base t v) →
      DataW.Whole enc C.prog fn.params.toList s.vars apart W args.toList ds gs before → W.ShapedOpen C.prog → Calls C.prog f args W fun e W' => ∃ v, e = .returned v ∧ s.post enc C.prog fn apart true false false W args v W') :
    ReturnsInHanded {} C os f .any (fun w args => (s.pre enc C.prog fn [] apart w args ∧ X w) ∧ sizedMet enc C.prog fn (OpenSpec.ofChange s) apart w args) (s.post enc C.prog fn apart true false false) :=
  returnsInHanded_of_calls own started noInit witness fun w tape i _ hsh _ hok hpre _ => by
    obtain ⟨_, _, _, fn', hfn', _, _, _, _, hval⟩ := hok
    cases Option.some.inj (hfn'.symm.trans hfn)
    obtain ⟨⟨⟨ds, gs, before, hw, _⟩, _⟩, _⟩ := hpre
    refine (contract _ _ i.args ds gs before hval (DataW.Whole.of_heap (w' := w.forCall tape i) (by rfl) hw) hsh).mono ?_
    rintro _ W' ⟨v, rfl, hp⟩
    exact ChangeSpec.post_blind hp

theorem ent_cell {W0 : World} {a : Addr} {v : Value} (h : W0.cell? a = some v) : Ent [frozen W0] fun w => w.cell? a = some v := fun W w hs => by
  have hf := (frozen_blocks hs).2
  rw [← h]
  have hlt : a.block < W0.heap.size := by
    rcases Nat.lt_or_ge a.block W0.heap.size with h1 | h1
    · exact h1
    · have hn : W0.heap[a.block]? = none := by simp [h1]
      simp [World.cell?, hn] at h
  simp only [World.cell?, hf a.block hlt]
theorem ent_maxLen {W0 : World} (h : W0.ShapedOpen Tryd.prog) : Ent [frozen W0] fun w => ∃ m, w.cell? ⟨Tryd.l146_ren.g 1, 0, none⟩ = some (.int .i64 m) := fun W w hs => by
  obtain ⟨m, hm⟩ := Tryd.l146.s1_3 W0 h
  exact ⟨m, ent_cell hm W w hs⟩

end Go.Proofs.YtjdkkhlngflgfaaDoor
