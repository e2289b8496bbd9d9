/-
  DERIVED. GIVEN WITH THE SEED: THE CARDS: each row of YtmckgdekblphoaaGreatDoorRows.lean that lists a variable, with what it lists TIED to the program's text (the seventh form; the later family's looks); each row that meets fmt, with fmt's text TOLD by the authors' own Lean function (tested against real Go, not proved from fmt's source: count such statements apart). THE CARD IS WHAT COUNTS. Prove the row's statement (the work); the ties are given (YtmckgdekblphoaaGreatDoorTie.lean); close each card by the builder's one call (the guide's Derived/Test/ToyasCard.lean, 'card_holds'). Laid BY PROGRAM, IN A SANDBOX (cutbox-door.mjs). By AI agents, Wed Nov 11 2026. No macro, syntax, notation, axiom, sorry.
-/
import Derived.Test.YtmckgdekblphoaaGreatDoorRows
import GoSem.ClaimSeven
namespace Go.Proofs.YtmckgdekblphoaaGreatDoor
namespace Rows

/-- THE TIED CARD OF 'laws.FnExactPositiveRoots'. -/
def fnExactPositiveRootsCard : Claim7 := { stood := { row := fnExactPositiveRootsRow, standIns := [], harness := (true, "f017ca86dc629c6b2b967a45fd130ab7b0f799d749f52ff46b014e155d2d2d5d"), looks := false }, kinds := [], alts := [], laidByText := true, laidKinds := [.data, .data, .data, .data, .pinned], laidTests := true, laidLooks := .later }
def FnExactPositiveRootsCardSaid : Prop := Claim7.holds Tryz.pinned (.plain (OpenSpec.ofChange fnExactPositiveRootsSpec)) fnExactPositiveRootsCard

/-- THE TIED CARD OF 'laws.FnExactInversionsOf'. -/
def fnExactInversionsOfCard : Claim7 := { stood := { row := fnExactInversionsOfRow, standIns := [], harness := (true, "f017ca86dc629c6b2b967a45fd130ab7b0f799d749f52ff46b014e155d2d2d5d"), looks := false }, kinds := [], alts := [], laidByText := true, laidKinds := [.data, .data, .data, .data, .pinned], laidTests := true, laidLooks := .later }
def FnExactInversionsOfCardSaid : Prop := Claim7.holds Tryz.pinned (.plain (OpenSpec.ofChange fnExactInversionsOfSpec)) fnExactInversionsOfCard

/-- THE TIED CARD OF 'laws.FnExactLevelOf'. -/
def fnExactLevelOfCard : Claim7 := { stood := { row := fnExactLevelOfRow, standIns := [], harness := (true, "f017ca86dc629c6b2b967a45fd130ab7b0f799d749f52ff46b014e155d2d2d5d"), looks := false }, kinds := [], alts := [], laidByText := true, laidKinds := [.data, .data, .data, .data, .pinned], laidTests := true, laidLooks := .later }
def FnExactLevelOfCardSaid : Prop := Claim7.holds Tryz.pinned (.plain (OpenSpec.ofChange fnExactLevelOfSpec)) fnExactLevelOfCard

/-- THE TIED CARD OF 'laws.FnExactOrbitOf'. -/
def fnExactOrbitOfCard : Claim7 := { stood := { row := fnExactOrbitOfRow, standIns := [], harness := (true, "f017ca86dc629c6b2b967a45fd130ab7b0f799d749f52ff46b014e155d2d2d5d"), looks := false }, kinds := [], alts := [], laidByText := true, laidKinds := [.data, .data, .data, .data, .pinned], laidTests := true, laidLooks := .later }
def FnExactOrbitOfCardSaid : Prop := Claim7.holds Tryz.pinned (.plain (OpenSpec.ofChange fnExactOrbitOfSpec)) fnExactOrbitOfCard

/-- THE TIED CARD OF 'laws.FnExactLengthCounts'. -/
def fnExactLengthCountsCard : Claim7 := { stood := { row := fnExactLengthCountsRow, standIns := [], harness := (true, "f017ca86dc629c6b2b967a45fd130ab7b0f799d749f52ff46b014e155d2d2d5d"), looks := false }, kinds := [], alts := [], laidByText := true, laidKinds := [.data, .data, .data, .data, .pinned], laidTests := true, laidLooks := .later }
def FnExactLengthCountsCardSaid : Prop := Claim7.holds Tryz.pinned (.plain (OpenSpec.ofChange fnExactLengthCountsSpec)) fnExactLengthCountsCard

/-- THE TIED CARD OF 'laws.FnExactStabilizerOrder'. -/
def fnExactStabilizerOrderCard : Claim7 := { stood := { row := fnExactStabilizerOrderRow, standIns := [], harness := (true, "f017ca86dc629c6b2b967a45fd130ab7b0f799d749f52ff46b014e155d2d2d5d"), looks := false }, kinds := [], alts := [], laidByText := true, laidKinds := [.data, .data, .data, .data, .pinned], laidTests := true, laidLooks := .later }
def FnExactStabilizerOrderCardSaid : Prop := Claim7.holds Tryz.pinned (.plain (OpenSpec.ofChange fnExactStabilizerOrderSpec)) fnExactStabilizerOrderCard

/-- THE TIED CARD OF 'laws.FnExactElementsOf'. -/
def fnExactElementsOfCard : Claim7 := { stood := { row := fnExactElementsOfRow, standIns := [], harness := (true, "f017ca86dc629c6b2b967a45fd130ab7b0f799d749f52ff46b014e155d2d2d5d"), looks := false }, kinds := [], alts := [], laidByText := true, laidKinds := [.data, .data, .data, .data, .pinned], laidTests := true, laidLooks := .later }
def FnExactElementsOfCardSaid : Prop := Claim7.holds Tryz.pinned (.plain (OpenSpec.ofChange fnExactElementsOfSpec)) fnExactElementsOfCard

/-- THE SECOND FORM's CARD OF 'laws.FnExactPositiveRoots'. -/
def fnExactPositiveRootsUptoCard : Claim7 := { stood := { row := fnExactPositiveRootsUptoRow, standIns := [], harness := (true, "f017ca86dc629c6b2b967a45fd130ab7b0f799d749f52ff46b014e155d2d2d5d"), looks := false }, kinds := [], alts := [], laidByText := true, laidKinds := [.data, .data, .data, .data, .pinned], laidTests := true, laidLooks := .later }
def FnExactPositiveRootsUptoCardSaid : Prop := Claim7.holds Tryz.pinned (.plain (OpenSpec.upto fnExactPositiveRootsSpec)) fnExactPositiveRootsUptoCard

/-- THE SECOND FORM's CARD OF 'laws.FnExactInversionsOf'. -/
def fnExactInversionsOfUptoCard : Claim7 := { stood := { row := fnExactInversionsOfUptoRow, standIns := [], harness := (true, "f017ca86dc629c6b2b967a45fd130ab7b0f799d749f52ff46b014e155d2d2d5d"), looks := false }, kinds := [], alts := [], laidByText := true, laidKinds := [.data, .data, .data, .data, .pinned], laidTests := true, laidLooks := .later }
def FnExactInversionsOfUptoCardSaid : Prop := Claim7.holds Tryz.pinned (.plain (OpenSpec.upto fnExactInversionsOfSpec)) fnExactInversionsOfUptoCard

/-- THE SECOND FORM's CARD OF 'laws.FnExactLevelOf'. -/
def fnExactLevelOfUptoCard : Claim7 := { stood := { row := fnExactLevelOfUptoRow, standIns := [], harness := (true, "f017ca86dc629c6b2b967a45fd130ab7b0f799d749f52ff46b014e155d2d2d5d"), looks := false }, kinds := [], alts := [], laidByText := true, laidKinds := [.data, .data, .data, .data, .pinned], laidTests := true, laidLooks := .later }
def FnExactLevelOfUptoCardSaid : Prop := Claim7.holds Tryz.pinned (.plain (OpenSpec.upto fnExactLevelOfSpec)) fnExactLevelOfUptoCard

/-- THE SECOND FORM's CARD OF 'laws.FnExactOrbitOf'. -/
def fnExactOrbitOfUptoCard : Claim7 := { stood := { row := fnExactOrbitOfUptoRow, standIns := [], harness := (true, "f017ca86dc629c6b2b967a45fd130ab7b0f799d749f52ff46b014e155d2d2d5d"), looks := false }, kinds := [], alts := [], laidByText := true, laidKinds := [.data, .data, .data, .data, .pinned], laidTests := true, laidLooks := .later }
def FnExactOrbitOfUptoCardSaid : Prop := Claim7.holds Tryz.pinned (.plain (OpenSpec.upto fnExactOrbitOfSpec)) fnExactOrbitOfUptoCard

/-- THE SECOND FORM's CARD OF 'laws.FnExactLengthCounts'. -/
def fnExactLengthCountsUptoCard : Claim7 := { stood := { row := fnExactLengthCountsUptoRow, standIns := [], harness := (true, "f017ca86dc629c6b2b967a45fd130ab7b0f799d749f52ff46b014e155d2d2d5d"), looks := false }, kinds := [], alts := [], laidByText := true, laidKinds := [.data, .data, .data, .data, .pinned], laidTests := true, laidLooks := .later }
def FnExactLengthCountsUptoCardSaid : Prop := Claim7.holds Tryz.pinned (.plain (OpenSpec.upto fnExactLengthCountsSpec)) fnExactLengthCountsUptoCard

/-- THE SECOND FORM's CARD OF 'laws.FnExactStabilizerOrder'. -/
def fnExactStabilizerOrderUptoCard : Claim7 := { stood := { row := fnExactStabilizerOrderUptoRow, standIns := [], harness := (true, "f017ca86dc629c6b2b967a45fd130ab7b0f799d749f52ff46b014e155d2d2d5d"), looks := false }, kinds := [], alts := [], laidByText := true, laidKinds := [.data, .data, .data, .data, .pinned], laidTests := true, laidLooks := .later }
def FnExactStabilizerOrderUptoCardSaid : Prop := Claim7.holds Tryz.pinned (.plain (OpenSpec.upto fnExactStabilizerOrderSpec)) fnExactStabilizerOrderUptoCard

/-- THE SECOND FORM's CARD OF 'laws.FnExactElementsOf'. -/
def fnExactElementsOfUptoCard : Claim7 := { stood := { row := fnExactElementsOfUptoRow, standIns := [], harness := (true, "f017ca86dc629c6b2b967a45fd130ab7b0f799d749f52ff46b014e155d2d2d5d"), looks := false }, kinds := [], alts := [], laidByText := true, laidKinds := [.data, .data, .data, .data, .pinned], laidTests := true, laidLooks := .later }
def FnExactElementsOfUptoCardSaid : Prop := Claim7.holds Tryz.pinned (.plain (OpenSpec.upto fnExactElementsOfSpec)) fnExactElementsOfUptoCard
end Rows
end Go.Proofs.YtmckgdekblphoaaGreatDoor
