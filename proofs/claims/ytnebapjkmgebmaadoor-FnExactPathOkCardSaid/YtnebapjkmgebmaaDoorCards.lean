/-
  DERIVED. GIVEN WITH THE SEED: THE CARDS: each row of YtnebapjkmgebmaaDoorRows.lean that lists a variable, with what it lists TIED to the program's text (the seventh form; the later family's looks); each row that meets fmt, with fmt's text TOLD by the authors' own Lean function (tested against real Go, not proved from fmt's source: count such statements apart). THE CARD IS WHAT COUNTS. Prove the row's statement (the work); the ties are given (YtnebapjkmgebmaaDoorTie.lean); close each card by the builder's one call (the guide's Derived/Test/ToyasCard.lean, 'card_holds'). Laid BY PROGRAM, IN A SANDBOX (cutbox-door.mjs). By AI agents, Wed Nov 11 2026. No macro, syntax, notation, axiom, sorry.
-/
import Derived.Test.YtnebapjkmgebmaaDoorRows
import GoSem.ClaimSeven
namespace Go.Proofs.YtnebapjkmgebmaaDoor
namespace Rows

/-- THE TIED CARD OF 'laws.FnExactCartanOf'. -/
def fnExactCartanOfCard : Claim7 := { stood := { row := fnExactCartanOfRow, standIns := [], harness := (true, "5635ecef60ac4637a06b129ce40504028c020fdefd94da037ed58c2a321edecd"), looks := false }, kinds := [], alts := [], laidByText := true, laidKinds := [.data, .pinned], laidTests := true, laidLooks := .later }
def FnExactCartanOfCardSaid : Prop := Claim7.holds Tryd.pinned (.plain (OpenSpec.ofChange fnExactCartanOfSpec)) fnExactCartanOfCard

/-- THE TIED CARD OF 'laws.FnExactIsCartan'. -/
def fnExactIsCartanCard : Claim7 := { stood := { row := fnExactIsCartanRow, standIns := [], harness := (true, "5635ecef60ac4637a06b129ce40504028c020fdefd94da037ed58c2a321edecd"), looks := false }, kinds := [], alts := [], laidByText := true, laidKinds := [.data, .pinned], laidTests := true, laidLooks := .later }
def FnExactIsCartanCardSaid : Prop := Claim7.holds Tryd.pinned (.plain (OpenSpec.ofChange fnExactIsCartanSpec)) fnExactIsCartanCard

/-- THE TIED CARD OF 'laws.FnExactTypeOf'. -/
def fnExactTypeOfCard : Claim7 := { stood := { row := fnExactTypeOfRow, standIns := [], harness := (true, "5635ecef60ac4637a06b129ce40504028c020fdefd94da037ed58c2a321edecd"), looks := false }, kinds := [], alts := [], laidByText := true, laidKinds := [.data, .pinned], laidTests := true, laidLooks := .later }
def FnExactTypeOfCardSaid : Prop := Claim7.holds Tryd.pinned (.plain (OpenSpec.ofChange fnExactTypeOfSpec)) fnExactTypeOfCard

/-- THE TIED CARD OF 'laws.FnExactWordOk'. -/
def fnExactWordOkCard : Claim7 := { stood := { row := fnExactWordOkRow, standIns := [], harness := (true, "5635ecef60ac4637a06b129ce40504028c020fdefd94da037ed58c2a321edecd"), looks := false }, kinds := [], alts := [], laidByText := true, laidKinds := [.data, .pinned], laidTests := true, laidLooks := .later }
def FnExactWordOkCardSaid : Prop := Claim7.holds Tryd.pinned (.plain (OpenSpec.ofChange fnExactWordOkSpec)) fnExactWordOkCard

/-- THE TIED CARD OF 'laws.FnExactSubCartan'. -/
def fnExactSubCartanCard : Claim7 := { stood := { row := fnExactSubCartanRow, standIns := [], harness := (true, "5635ecef60ac4637a06b129ce40504028c020fdefd94da037ed58c2a321edecd"), looks := false }, kinds := [], alts := [], laidByText := true, laidKinds := [.data, .pinned], laidTests := true, laidLooks := .later }
def FnExactSubCartanCardSaid : Prop := Claim7.holds Tryd.pinned (.plain (OpenSpec.ofChange fnExactSubCartanSpec)) fnExactSubCartanCard

/-- THE TIED CARD OF 'laws.FnExactWeightOf'. -/
def fnExactWeightOfCard : Claim7 := { stood := { row := fnExactWeightOfRow, standIns := [], harness := (true, "5635ecef60ac4637a06b129ce40504028c020fdefd94da037ed58c2a321edecd"), looks := false }, kinds := [], alts := [], laidByText := true, laidKinds := [.data, .pinned], laidTests := true, laidLooks := .later }
def FnExactWeightOfCardSaid : Prop := Claim7.holds Tryd.pinned (.plain (OpenSpec.ofChange fnExactWeightOfSpec)) fnExactWeightOfCard

/-- THE TIED CARD OF 'laws.FnExactLengthsOf'. -/
def fnExactLengthsOfCard : Claim7 := { stood := { row := fnExactLengthsOfRow, standIns := [], harness := (true, "5635ecef60ac4637a06b129ce40504028c020fdefd94da037ed58c2a321edecd"), looks := false }, kinds := [], alts := [], laidByText := true, laidKinds := [.data, .pinned], laidTests := true, laidLooks := .later }
def FnExactLengthsOfCardSaid : Prop := Claim7.holds Tryd.pinned (.plain (OpenSpec.ofChange fnExactLengthsOfSpec)) fnExactLengthsOfCard

/-- THE TIED CARD OF 'laws.FnExactStraightPath'. -/
def fnExactStraightPathCard : Claim7 := { stood := { row := fnExactStraightPathRow, standIns := [], harness := (true, "5635ecef60ac4637a06b129ce40504028c020fdefd94da037ed58c2a321edecd"), looks := false }, kinds := [], alts := [], laidByText := true, laidKinds := [.data, .pinned], laidTests := true, laidLooks := .later }
def FnExactStraightPathCardSaid : Prop := Claim7.holds Tryd.pinned (.plain (OpenSpec.ofChange fnExactStraightPathSpec)) fnExactStraightPathCard

/-- THE TIED CARD OF 'laws.FnExactActWeight'. -/
def fnExactActWeightCard : Claim7 := { stood := { row := fnExactActWeightRow, standIns := [], harness := (true, "5635ecef60ac4637a06b129ce40504028c020fdefd94da037ed58c2a321edecd"), looks := false }, kinds := [], alts := [], laidByText := true, laidKinds := [.data, .pinned], laidTests := true, laidLooks := .later }
def FnExactActWeightCardSaid : Prop := Claim7.holds Tryd.pinned (.plain (OpenSpec.ofChange fnExactActWeightSpec)) fnExactActWeightCard

/-- THE TIED CARD OF 'laws.FnExactActRoot'. -/
def fnExactActRootCard : Claim7 := { stood := { row := fnExactActRootRow, standIns := [], harness := (true, "5635ecef60ac4637a06b129ce40504028c020fdefd94da037ed58c2a321edecd"), looks := false }, kinds := [], alts := [], laidByText := true, laidKinds := [.data, .pinned], laidTests := true, laidLooks := .later }
def FnExactActRootCardSaid : Prop := Claim7.holds Tryd.pinned (.plain (OpenSpec.ofChange fnExactActRootSpec)) fnExactActRootCard

/-- THE TIED CARD OF 'laws.FnExactInnerOf'. -/
def fnExactInnerOfCard : Claim7 := { stood := { row := fnExactInnerOfRow, standIns := [], harness := (true, "5635ecef60ac4637a06b129ce40504028c020fdefd94da037ed58c2a321edecd"), looks := false }, kinds := [], alts := [], laidByText := true, laidKinds := [.data, .pinned], laidTests := true, laidLooks := .later }
def FnExactInnerOfCardSaid : Prop := Claim7.holds Tryd.pinned (.plain (OpenSpec.ofChange fnExactInnerOfSpec)) fnExactInnerOfCard

/-- THE TIED CARD OF 'laws.FnExactPathOk'. -/
def fnExactPathOkCard : Claim7 := { stood := { row := fnExactPathOkRow, standIns := [], harness := (true, "5635ecef60ac4637a06b129ce40504028c020fdefd94da037ed58c2a321edecd"), looks := false }, kinds := [], alts := [], laidByText := true, laidKinds := [.data, .pinned], laidTests := true, laidLooks := .later }
def FnExactPathOkCardSaid : Prop := Claim7.holds Tryd.pinned (.plain (OpenSpec.ofChange fnExactPathOkSpec)) fnExactPathOkCard

/-- THE SECOND FORM's CARD OF 'laws.FnExactCartanOf'. -/
def fnExactCartanOfUptoCard : Claim7 := { stood := { row := fnExactCartanOfUptoRow, standIns := [], harness := (true, "5635ecef60ac4637a06b129ce40504028c020fdefd94da037ed58c2a321edecd"), looks := false }, kinds := [], alts := [], laidByText := true, laidKinds := [.data, .pinned], laidTests := true, laidLooks := .later }
def FnExactCartanOfUptoCardSaid : Prop := Claim7.holds Tryd.pinned (.plain (OpenSpec.upto fnExactCartanOfSpec)) fnExactCartanOfUptoCard

/-- THE SECOND FORM's CARD OF 'laws.FnExactIsCartan'. -/
def fnExactIsCartanUptoCard : Claim7 := { stood := { row := fnExactIsCartanUptoRow, standIns := [], harness := (true, "5635ecef60ac4637a06b129ce40504028c020fdefd94da037ed58c2a321edecd"), looks := false }, kinds := [], alts := [], laidByText := true, laidKinds := [.data, .pinned], laidTests := true, laidLooks := .later }
def FnExactIsCartanUptoCardSaid : Prop := Claim7.holds Tryd.pinned (.plain (OpenSpec.upto fnExactIsCartanSpec)) fnExactIsCartanUptoCard

/-- THE SECOND FORM's CARD OF 'laws.FnExactTypeOf'. -/
def fnExactTypeOfUptoCard : Claim7 := { stood := { row := fnExactTypeOfUptoRow, standIns := [], harness := (true, "5635ecef60ac4637a06b129ce40504028c020fdefd94da037ed58c2a321edecd"), looks := false }, kinds := [], alts := [], laidByText := true, laidKinds := [.data, .pinned], laidTests := true, laidLooks := .later }
def FnExactTypeOfUptoCardSaid : Prop := Claim7.holds Tryd.pinned (.plain (OpenSpec.upto fnExactTypeOfSpec)) fnExactTypeOfUptoCard

/-- THE SECOND FORM's CARD OF 'laws.FnExactWordOk'. -/
def fnExactWordOkUptoCard : Claim7 := { stood := { row := fnExactWordOkUptoRow, standIns := [], harness := (true, "5635ecef60ac4637a06b129ce40504028c020fdefd94da037ed58c2a321edecd"), looks := false }, kinds := [], alts := [], laidByText := true, laidKinds := [.data, .pinned], laidTests := true, laidLooks := .later }
def FnExactWordOkUptoCardSaid : Prop := Claim7.holds Tryd.pinned (.plain (OpenSpec.upto fnExactWordOkSpec)) fnExactWordOkUptoCard

/-- THE SECOND FORM's CARD OF 'laws.FnExactSubCartan'. -/
def fnExactSubCartanUptoCard : Claim7 := { stood := { row := fnExactSubCartanUptoRow, standIns := [], harness := (true, "5635ecef60ac4637a06b129ce40504028c020fdefd94da037ed58c2a321edecd"), looks := false }, kinds := [], alts := [], laidByText := true, laidKinds := [.data, .pinned], laidTests := true, laidLooks := .later }
def FnExactSubCartanUptoCardSaid : Prop := Claim7.holds Tryd.pinned (.plain (OpenSpec.upto fnExactSubCartanSpec)) fnExactSubCartanUptoCard

/-- THE SECOND FORM's CARD OF 'laws.FnExactWeightOf'. -/
def fnExactWeightOfUptoCard : Claim7 := { stood := { row := fnExactWeightOfUptoRow, standIns := [], harness := (true, "5635ecef60ac4637a06b129ce40504028c020fdefd94da037ed58c2a321edecd"), looks := false }, kinds := [], alts := [], laidByText := true, laidKinds := [.data, .pinned], laidTests := true, laidLooks := .later }
def FnExactWeightOfUptoCardSaid : Prop := Claim7.holds Tryd.pinned (.plain (OpenSpec.upto fnExactWeightOfSpec)) fnExactWeightOfUptoCard

/-- THE SECOND FORM's CARD OF 'laws.FnExactLengthsOf'. -/
def fnExactLengthsOfUptoCard : Claim7 := { stood := { row := fnExactLengthsOfUptoRow, standIns := [], harness := (true, "5635ecef60ac4637a06b129ce40504028c020fdefd94da037ed58c2a321edecd"), looks := false }, kinds := [], alts := [], laidByText := true, laidKinds := [.data, .pinned], laidTests := true, laidLooks := .later }
def FnExactLengthsOfUptoCardSaid : Prop := Claim7.holds Tryd.pinned (.plain (OpenSpec.upto fnExactLengthsOfSpec)) fnExactLengthsOfUptoCard

/-- THE SECOND FORM's CARD OF 'laws.FnExactStraightPath'. -/
def fnExactStraightPathUptoCard : Claim7 := { stood := { row := fnExactStraightPathUptoRow, standIns := [], harness := (true, "5635ecef60ac4637a06b129ce40504028c020fdefd94da037ed58c2a321edecd"), looks := false }, kinds := [], alts := [], laidByText := true, laidKinds := [.data, .pinned], laidTests := true, laidLooks := .later }
def FnExactStraightPathUptoCardSaid : Prop := Claim7.holds Tryd.pinned (.plain (OpenSpec.upto fnExactStraightPathSpec)) fnExactStraightPathUptoCard

/-- THE SECOND FORM's CARD OF 'laws.FnExactActWeight'. -/
def fnExactActWeightUptoCard : Claim7 := { stood := { row := fnExactActWeightUptoRow, standIns := [], harness := (true, "5635ecef60ac4637a06b129ce40504028c020fdefd94da037ed58c2a321edecd"), looks := false }, kinds := [], alts := [], laidByText := true, laidKinds := [.data, .pinned], laidTests := true, laidLooks := .later }
def FnExactActWeightUptoCardSaid : Prop := Claim7.holds Tryd.pinned (.plain (OpenSpec.upto fnExactActWeightSpec)) fnExactActWeightUptoCard

/-- THE SECOND FORM's CARD OF 'laws.FnExactActRoot'. -/
def fnExactActRootUptoCard : Claim7 := { stood := { row := fnExactActRootUptoRow, standIns := [], harness := (true, "5635ecef60ac4637a06b129ce40504028c020fdefd94da037ed58c2a321edecd"), looks := false }, kinds := [], alts := [], laidByText := true, laidKinds := [.data, .pinned], laidTests := true, laidLooks := .later }
def FnExactActRootUptoCardSaid : Prop := Claim7.holds Tryd.pinned (.plain (OpenSpec.upto fnExactActRootSpec)) fnExactActRootUptoCard

/-- THE SECOND FORM's CARD OF 'laws.FnExactInnerOf'. -/
def fnExactInnerOfUptoCard : Claim7 := { stood := { row := fnExactInnerOfUptoRow, standIns := [], harness := (true, "5635ecef60ac4637a06b129ce40504028c020fdefd94da037ed58c2a321edecd"), looks := false }, kinds := [], alts := [], laidByText := true, laidKinds := [.data, .pinned], laidTests := true, laidLooks := .later }
def FnExactInnerOfUptoCardSaid : Prop := Claim7.holds Tryd.pinned (.plain (OpenSpec.upto fnExactInnerOfSpec)) fnExactInnerOfUptoCard

/-- THE SECOND FORM's CARD OF 'laws.FnExactPathOk'. -/
def fnExactPathOkUptoCard : Claim7 := { stood := { row := fnExactPathOkUptoRow, standIns := [], harness := (true, "5635ecef60ac4637a06b129ce40504028c020fdefd94da037ed58c2a321edecd"), looks := false }, kinds := [], alts := [], laidByText := true, laidKinds := [.data, .pinned], laidTests := true, laidLooks := .later }
def FnExactPathOkUptoCardSaid : Prop := Claim7.holds Tryd.pinned (.plain (OpenSpec.upto fnExactPathOkSpec)) fnExactPathOkUptoCard
end Rows
end Go.Proofs.YtnebapjkmgebmaaDoor
