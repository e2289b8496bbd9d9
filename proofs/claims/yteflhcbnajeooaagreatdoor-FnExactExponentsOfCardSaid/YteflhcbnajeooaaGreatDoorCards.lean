/-
  DERIVED. GIVEN WITH THE SEED: THE CARDS: each row of YteflhcbnajeooaaGreatDoorRows.lean that lists a variable, with what it lists TIED to the program's text (the seventh form; the later family's looks); each row that meets fmt, with fmt's text TOLD by the authors' own Lean function (tested against real Go, not proved from fmt's source: count such statements apart). THE CARD IS WHAT COUNTS. Prove the row's statement (the work); the ties are given (YteflhcbnajeooaaGreatDoorTie.lean); close each card by the builder's one call (the guide's Derived/Test/ToyasCard.lean, 'card_holds'). Laid BY PROGRAM, IN A SANDBOX (cutbox-door.mjs). By AI agents, Wed Nov 11 2026. No macro, syntax, notation, axiom, sorry.
-/
import Derived.Test.YteflhcbnajeooaaGreatDoorRows
import GoSem.ClaimSeven
namespace Go.Proofs.YteflhcbnajeooaaGreatDoor
namespace Rows

/-- THE TIED CARD OF 'laws.FnExactHighestRoot'. -/
def fnExactHighestRootCard : Claim7 := { stood := { row := fnExactHighestRootRow, standIns := [], harness := (true, "8780e4e67a208e17dad3352c87e911eca22e85d5f55cef92c2242e872dcd7b61"), looks := false }, kinds := [], alts := [], laidByText := true, laidKinds := [.data, .data, .data, .data, .pinned], laidTests := true, laidLooks := .later }
def FnExactHighestRootCardSaid : Prop := Claim7.holds Tryz.pinned (.plain (OpenSpec.ofChange fnExactHighestRootSpec)) fnExactHighestRootCard

/-- THE TIED CARD OF 'laws.FnExactIsRoot'. -/
def fnExactIsRootCard : Claim7 := { stood := { row := fnExactIsRootRow, standIns := [], harness := (true, "8780e4e67a208e17dad3352c87e911eca22e85d5f55cef92c2242e872dcd7b61"), looks := false }, kinds := [], alts := [], laidByText := true, laidKinds := [.data, .data, .data, .data, .pinned], laidTests := true, laidLooks := .later }
def FnExactIsRootCardSaid : Prop := Claim7.holds Tryz.pinned (.plain (OpenSpec.ofChange fnExactIsRootSpec)) fnExactIsRootCard

/-- THE TIED CARD OF 'laws.FnExactExponentsOf'. -/
def fnExactExponentsOfCard : Claim7 := { stood := { row := fnExactExponentsOfRow, standIns := [], harness := (true, "8780e4e67a208e17dad3352c87e911eca22e85d5f55cef92c2242e872dcd7b61"), looks := false }, kinds := [], alts := [], laidByText := true, laidKinds := [.data, .data, .data, .data, .pinned], laidTests := true, laidLooks := .later }
def FnExactExponentsOfCardSaid : Prop := Claim7.holds Tryz.pinned (.plain (OpenSpec.ofChange fnExactExponentsOfSpec)) fnExactExponentsOfCard

/-- THE TIED CARD OF 'laws.FnExactRootIndex'. -/
def fnExactRootIndexCard : Claim7 := { stood := { row := fnExactRootIndexRow, standIns := [], harness := (true, "8780e4e67a208e17dad3352c87e911eca22e85d5f55cef92c2242e872dcd7b61"), looks := false }, kinds := [], alts := [], laidByText := true, laidKinds := [.data, .data, .data, .data, .pinned], laidTests := true, laidLooks := .later }
def FnExactRootIndexCardSaid : Prop := Claim7.holds Tryz.pinned (.plain (OpenSpec.ofChange fnExactRootIndexSpec)) fnExactRootIndexCard

/-- THE TIED CARD OF 'laws.FnExactRootString'. -/
def fnExactRootStringCard : Claim7 := { stood := { row := fnExactRootStringRow, standIns := [], harness := (true, "8780e4e67a208e17dad3352c87e911eca22e85d5f55cef92c2242e872dcd7b61"), looks := false }, kinds := [], alts := [], laidByText := true, laidKinds := [.data, .data, .data, .data, .pinned], laidTests := true, laidLooks := .later }
def FnExactRootStringCardSaid : Prop := Claim7.holds Tryz.pinned (.plain (OpenSpec.ofChange fnExactRootStringSpec)) fnExactRootStringCard

/-- THE TIED CARD OF 'laws.FnExactPairOf'. -/
def fnExactPairOfCard : Claim7 := { stood := { row := fnExactPairOfRow, standIns := [], harness := (true, "8780e4e67a208e17dad3352c87e911eca22e85d5f55cef92c2242e872dcd7b61"), looks := false }, kinds := [], alts := [], laidByText := true, laidKinds := [.data, .data, .data, .data, .pinned], laidTests := true, laidLooks := .later }
def FnExactPairOfCardSaid : Prop := Claim7.holds Tryz.pinned (.plain (OpenSpec.ofChange fnExactPairOfSpec)) fnExactPairOfCard

/-- THE TIED CARD OF 'laws.FnExactCorootOf'. -/
def fnExactCorootOfCard : Claim7 := { stood := { row := fnExactCorootOfRow, standIns := [], harness := (true, "8780e4e67a208e17dad3352c87e911eca22e85d5f55cef92c2242e872dcd7b61"), looks := false }, kinds := [], alts := [], laidByText := true, laidKinds := [.data, .data, .data, .data, .pinned], laidTests := true, laidLooks := .later }
def FnExactCorootOfCardSaid : Prop := Claim7.holds Tryz.pinned (.plain (OpenSpec.ofChange fnExactCorootOfSpec)) fnExactCorootOfCard

/-- THE TIED CARD OF 'laws.FnExactReflectBy'. -/
def fnExactReflectByCard : Claim7 := { stood := { row := fnExactReflectByRow, standIns := [], harness := (true, "8780e4e67a208e17dad3352c87e911eca22e85d5f55cef92c2242e872dcd7b61"), looks := false }, kinds := [], alts := [], laidByText := true, laidKinds := [.data, .data, .data, .data, .pinned], laidTests := true, laidLooks := .later }
def FnExactReflectByCardSaid : Prop := Claim7.holds Tryz.pinned (.plain (OpenSpec.ofChange fnExactReflectBySpec)) fnExactReflectByCard

/-- THE SECOND FORM's CARD OF 'laws.FnExactHighestRoot'. -/
def fnExactHighestRootUptoCard : Claim7 := { stood := { row := fnExactHighestRootUptoRow, standIns := [], harness := (true, "8780e4e67a208e17dad3352c87e911eca22e85d5f55cef92c2242e872dcd7b61"), looks := false }, kinds := [], alts := [], laidByText := true, laidKinds := [.data, .data, .data, .data, .pinned], laidTests := true, laidLooks := .later }
def FnExactHighestRootUptoCardSaid : Prop := Claim7.holds Tryz.pinned (.plain (OpenSpec.upto fnExactHighestRootSpec)) fnExactHighestRootUptoCard

/-- THE SECOND FORM's CARD OF 'laws.FnExactIsRoot'. -/
def fnExactIsRootUptoCard : Claim7 := { stood := { row := fnExactIsRootUptoRow, standIns := [], harness := (true, "8780e4e67a208e17dad3352c87e911eca22e85d5f55cef92c2242e872dcd7b61"), looks := false }, kinds := [], alts := [], laidByText := true, laidKinds := [.data, .data, .data, .data, .pinned], laidTests := true, laidLooks := .later }
def FnExactIsRootUptoCardSaid : Prop := Claim7.holds Tryz.pinned (.plain (OpenSpec.upto fnExactIsRootSpec)) fnExactIsRootUptoCard

/-- THE SECOND FORM's CARD OF 'laws.FnExactExponentsOf'. -/
def fnExactExponentsOfUptoCard : Claim7 := { stood := { row := fnExactExponentsOfUptoRow, standIns := [], harness := (true, "8780e4e67a208e17dad3352c87e911eca22e85d5f55cef92c2242e872dcd7b61"), looks := false }, kinds := [], alts := [], laidByText := true, laidKinds := [.data, .data, .data, .data, .pinned], laidTests := true, laidLooks := .later }
def FnExactExponentsOfUptoCardSaid : Prop := Claim7.holds Tryz.pinned (.plain (OpenSpec.upto fnExactExponentsOfSpec)) fnExactExponentsOfUptoCard

/-- THE SECOND FORM's CARD OF 'laws.FnExactRootIndex'. -/
def fnExactRootIndexUptoCard : Claim7 := { stood := { row := fnExactRootIndexUptoRow, standIns := [], harness := (true, "8780e4e67a208e17dad3352c87e911eca22e85d5f55cef92c2242e872dcd7b61"), looks := false }, kinds := [], alts := [], laidByText := true, laidKinds := [.data, .data, .data, .data, .pinned], laidTests := true, laidLooks := .later }
def FnExactRootIndexUptoCardSaid : Prop := Claim7.holds Tryz.pinned (.plain (OpenSpec.upto fnExactRootIndexSpec)) fnExactRootIndexUptoCard

/-- THE SECOND FORM's CARD OF 'laws.FnExactRootString'. -/
def fnExactRootStringUptoCard : Claim7 := { stood := { row := fnExactRootStringUptoRow, standIns := [], harness := (true, "8780e4e67a208e17dad3352c87e911eca22e85d5f55cef92c2242e872dcd7b61"), looks := false }, kinds := [], alts := [], laidByText := true, laidKinds := [.data, .data, .data, .data, .pinned], laidTests := true, laidLooks := .later }
def FnExactRootStringUptoCardSaid : Prop := Claim7.holds Tryz.pinned (.plain (OpenSpec.upto fnExactRootStringSpec)) fnExactRootStringUptoCard

/-- THE SECOND FORM's CARD OF 'laws.FnExactPairOf'. -/
def fnExactPairOfUptoCard : Claim7 := { stood := { row := fnExactPairOfUptoRow, standIns := [], harness := (true, "8780e4e67a208e17dad3352c87e911eca22e85d5f55cef92c2242e872dcd7b61"), looks := false }, kinds := [], alts := [], laidByText := true, laidKinds := [.data, .data, .data, .data, .pinned], laidTests := true, laidLooks := .later }
def FnExactPairOfUptoCardSaid : Prop := Claim7.holds Tryz.pinned (.plain (OpenSpec.upto fnExactPairOfSpec)) fnExactPairOfUptoCard

/-- THE SECOND FORM's CARD OF 'laws.FnExactCorootOf'. -/
def fnExactCorootOfUptoCard : Claim7 := { stood := { row := fnExactCorootOfUptoRow, standIns := [], harness := (true, "8780e4e67a208e17dad3352c87e911eca22e85d5f55cef92c2242e872dcd7b61"), looks := false }, kinds := [], alts := [], laidByText := true, laidKinds := [.data, .data, .data, .data, .pinned], laidTests := true, laidLooks := .later }
def FnExactCorootOfUptoCardSaid : Prop := Claim7.holds Tryz.pinned (.plain (OpenSpec.upto fnExactCorootOfSpec)) fnExactCorootOfUptoCard

/-- THE SECOND FORM's CARD OF 'laws.FnExactReflectBy'. -/
def fnExactReflectByUptoCard : Claim7 := { stood := { row := fnExactReflectByUptoRow, standIns := [], harness := (true, "8780e4e67a208e17dad3352c87e911eca22e85d5f55cef92c2242e872dcd7b61"), looks := false }, kinds := [], alts := [], laidByText := true, laidKinds := [.data, .data, .data, .data, .pinned], laidTests := true, laidLooks := .later }
def FnExactReflectByUptoCardSaid : Prop := Claim7.holds Tryz.pinned (.plain (OpenSpec.upto fnExactReflectBySpec)) fnExactReflectByUptoCard
end Rows
end Go.Proofs.YteflhcbnajeooaaGreatDoor
