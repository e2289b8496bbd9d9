/-
  DERIVED. GIVEN WITH THE SEED: THE CARDS: each row of YtjdkkhlngflgfaaDoorRows.lean that lists a variable, with what it lists TIED to the program's text (the seventh form; the later family's looks); each row that meets fmt, with fmt's text TOLD by the authors' own Lean function (tested against real Go, not proved from fmt's source: count such statements apart). THE CARD IS WHAT COUNTS. Prove the row's statement (the work); the ties are given (YtjdkkhlngflgfaaDoorTie.lean); close each card by the builder's one call (the guide's Derived/Test/ToyasCard.lean, 'card_holds'). Laid BY PROGRAM, IN A SANDBOX (cutbox-door.mjs). By AI agents, Wed Nov 11 2026. No macro, syntax, notation, axiom, sorry.
-/
import Derived.Test.YtjdkkhlngflgfaaDoorRows
import GoSem.ClaimSeven
namespace Go.Proofs.YtjdkkhlngflgfaaDoor
namespace Rows

/-- THE TIED CARD OF 'laws.FnExactStraightPath'. -/
def fnExactStraightPathCard : Claim7 := { stood := { row := fnExactStraightPathRow, standIns := [], harness := (true, "015b29110ad60708a6cb7a391520faf735919f2506e990aad93f97aeef1303c7"), looks := false }, kinds := [], alts := [], laidByText := true, laidKinds := [.data, .pinned], laidTests := true, laidLooks := .later }
def FnExactStraightPathCardSaid : Prop := Claim7.holds Tryd.pinned (.plain (OpenSpec.ofChange fnExactStraightPathSpec)) fnExactStraightPathCard

/-- THE SECOND FORM's CARD OF 'laws.FnExactStraightPath'. -/
def fnExactStraightPathUptoCard : Claim7 := { stood := { row := fnExactStraightPathUptoRow, standIns := [], harness := (true, "015b29110ad60708a6cb7a391520faf735919f2506e990aad93f97aeef1303c7"), looks := false }, kinds := [], alts := [], laidByText := true, laidKinds := [.data, .pinned], laidTests := true, laidLooks := .later }
def FnExactStraightPathUptoCardSaid : Prop := Claim7.holds Tryd.pinned (.plain (OpenSpec.upto fnExactStraightPathSpec)) fnExactStraightPathUptoCard
end Rows
end Go.Proofs.YtjdkkhlngflgfaaDoor
