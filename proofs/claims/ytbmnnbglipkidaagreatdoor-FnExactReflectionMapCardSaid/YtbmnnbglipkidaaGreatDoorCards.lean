/-
  DERIVED. GIVEN WITH THE SEED: THE CARDS: each row of YtbmnnbglipkidaaGreatDoorRows.lean that lists a variable, with what it lists TIED to the program's text (the seventh form; the later family's looks); each row that meets fmt, with fmt's text TOLD by the authors' own Lean function (tested against real Go, not proved from fmt's source: count such statements apart). THE CARD IS WHAT COUNTS. Prove the row's statement (the work); the ties are given (YtbmnnbglipkidaaGreatDoorTie.lean); close each card by the builder's one call (the guide's Derived/Test/ToyasCard.lean, 'card_holds'). Laid BY PROGRAM, IN A SANDBOX (cutbox-door.mjs). By AI agents, Wed Nov 11 2026. No macro, syntax, notation, axiom, sorry.
-/
import Derived.Test.YtbmnnbglipkidaaGreatDoorRows
import GoSem.ClaimSeven
namespace Go.Proofs.YtbmnnbglipkidaaGreatDoor
namespace Rows

/-- THE TIED CARD OF 'laws.FnExactConstantOf'. -/
def fnExactConstantOfCard : Claim7 := { stood := { row := fnExactConstantOfRow, standIns := [], harness := (true, "8c7d1d4f670b197619611d184bb6b516a59e0d01d28a8c54194c92c555ea14e5"), looks := false }, kinds := [], alts := [], laidByText := true, laidKinds := [.data, .data, .data, .data, .pinned], laidTests := true, laidLooks := .later }
def FnExactConstantOfCardSaid : Prop := Claim7.holds Tryz.pinned (.plain (OpenSpec.ofChange fnExactConstantOfSpec)) fnExactConstantOfCard

/-- THE TIED CARD OF 'laws.FnConstants'. -/
def fnConstantsCard : Claim7 := { stood := { row := fnConstantsRow, standIns := [], harness := (true, "8c7d1d4f670b197619611d184bb6b516a59e0d01d28a8c54194c92c555ea14e5"), looks := false }, kinds := [], alts := [], laidByText := true, laidKinds := [.data, .data, .data, .data, .pinned], laidTests := true, laidLooks := .later }
def FnConstantsCardSaid : Prop := Claim7.holds Tryz.pinned (.plain (OpenSpec.ofChange fnConstantsSpec)) fnConstantsCard

/-- THE TIED CARD OF 'laws.FnExactSimpleTable'. -/
def fnExactSimpleTableCard : Claim7 := { stood := { row := fnExactSimpleTableRow, standIns := [], harness := (true, "8c7d1d4f670b197619611d184bb6b516a59e0d01d28a8c54194c92c555ea14e5"), looks := false }, kinds := [], alts := [], laidByText := true, laidKinds := [.data, .data, .data, .data, .pinned], laidTests := true, laidLooks := .later }
def FnExactSimpleTableCardSaid : Prop := Claim7.holds Tryz.pinned (.plain (OpenSpec.ofChange fnExactSimpleTableSpec)) fnExactSimpleTableCard

/-- THE TIED CARD OF 'laws.FnExactCartanSpace'. -/
def fnExactCartanSpaceCard : Claim7 := { stood := { row := fnExactCartanSpaceRow, standIns := [], harness := (true, "8c7d1d4f670b197619611d184bb6b516a59e0d01d28a8c54194c92c555ea14e5"), looks := false }, kinds := [], alts := [], laidByText := true, laidKinds := [.data, .data, .data, .data, .pinned], laidTests := true, laidLooks := .later }
def FnExactCartanSpaceCardSaid : Prop := Claim7.holds Tryz.pinned (.plain (OpenSpec.ofChange fnExactCartanSpaceSpec)) fnExactCartanSpaceCard

/-- THE TIED CARD OF 'laws.FnExactReflectionMap'. -/
def fnExactReflectionMapCard : Claim7 := { stood := { row := fnExactReflectionMapRow, standIns := [], harness := (true, "8c7d1d4f670b197619611d184bb6b516a59e0d01d28a8c54194c92c555ea14e5"), looks := false }, kinds := [], alts := [], laidByText := true, laidKinds := [.data, .data, .data, .data, .pinned], laidTests := true, laidLooks := .later }
def FnExactReflectionMapCardSaid : Prop := Claim7.holds Tryz.pinned (.plain (OpenSpec.ofChange fnExactReflectionMapSpec)) fnExactReflectionMapCard

/-- THE SECOND FORM's CARD OF 'laws.FnExactConstantOf'. -/
def fnExactConstantOfUptoCard : Claim7 := { stood := { row := fnExactConstantOfUptoRow, standIns := [], harness := (true, "8c7d1d4f670b197619611d184bb6b516a59e0d01d28a8c54194c92c555ea14e5"), looks := false }, kinds := [], alts := [], laidByText := true, laidKinds := [.data, .data, .data, .data, .pinned], laidTests := true, laidLooks := .later }
def FnExactConstantOfUptoCardSaid : Prop := Claim7.holds Tryz.pinned (.plain (OpenSpec.upto fnExactConstantOfSpec)) fnExactConstantOfUptoCard

/-- THE SECOND FORM's CARD OF 'laws.FnConstants'. -/
def fnConstantsUptoCard : Claim7 := { stood := { row := fnConstantsUptoRow, standIns := [], harness := (true, "8c7d1d4f670b197619611d184bb6b516a59e0d01d28a8c54194c92c555ea14e5"), looks := false }, kinds := [], alts := [], laidByText := true, laidKinds := [.data, .data, .data, .data, .pinned], laidTests := true, laidLooks := .later }
def FnConstantsUptoCardSaid : Prop := Claim7.holds Tryz.pinned (.plain (OpenSpec.upto fnConstantsSpec)) fnConstantsUptoCard

/-- THE SECOND FORM's CARD OF 'laws.FnExactSimpleTable'. -/
def fnExactSimpleTableUptoCard : Claim7 := { stood := { row := fnExactSimpleTableUptoRow, standIns := [], harness := (true, "8c7d1d4f670b197619611d184bb6b516a59e0d01d28a8c54194c92c555ea14e5"), looks := false }, kinds := [], alts := [], laidByText := true, laidKinds := [.data, .data, .data, .data, .pinned], laidTests := true, laidLooks := .later }
def FnExactSimpleTableUptoCardSaid : Prop := Claim7.holds Tryz.pinned (.plain (OpenSpec.upto fnExactSimpleTableSpec)) fnExactSimpleTableUptoCard

/-- THE SECOND FORM's CARD OF 'laws.FnExactCartanSpace'. -/
def fnExactCartanSpaceUptoCard : Claim7 := { stood := { row := fnExactCartanSpaceUptoRow, standIns := [], harness := (true, "8c7d1d4f670b197619611d184bb6b516a59e0d01d28a8c54194c92c555ea14e5"), looks := false }, kinds := [], alts := [], laidByText := true, laidKinds := [.data, .data, .data, .data, .pinned], laidTests := true, laidLooks := .later }
def FnExactCartanSpaceUptoCardSaid : Prop := Claim7.holds Tryz.pinned (.plain (OpenSpec.upto fnExactCartanSpaceSpec)) fnExactCartanSpaceUptoCard

/-- THE SECOND FORM's CARD OF 'laws.FnExactReflectionMap'. -/
def fnExactReflectionMapUptoCard : Claim7 := { stood := { row := fnExactReflectionMapUptoRow, standIns := [], harness := (true, "8c7d1d4f670b197619611d184bb6b516a59e0d01d28a8c54194c92c555ea14e5"), looks := false }, kinds := [], alts := [], laidByText := true, laidKinds := [.data, .data, .data, .data, .pinned], laidTests := true, laidLooks := .later }
def FnExactReflectionMapUptoCardSaid : Prop := Claim7.holds Tryz.pinned (.plain (OpenSpec.upto fnExactReflectionMapSpec)) fnExactReflectionMapUptoCard
end Rows
end Go.Proofs.YtbmnnbglipkidaaGreatDoor
