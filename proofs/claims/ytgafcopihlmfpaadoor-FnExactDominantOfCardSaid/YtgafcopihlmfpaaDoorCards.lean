/-
  DERIVED. GIVEN WITH THE SEED: THE CARDS: each row of YtgafcopihlmfpaaDoorRows.lean that lists a variable, with what it lists TIED to the program's text (the seventh form; the later family's looks); each row that meets fmt, with fmt's text TOLD by the authors' own Lean function (tested against real Go, not proved from fmt's source: count such statements apart). THE CARD IS WHAT COUNTS. Prove the row's statement (the work); the ties are given (YtgafcopihlmfpaaDoorTie.lean); close each card by the builder's one call (the guide's Derived/Test/ToyasCard.lean, 'card_holds'). Laid BY PROGRAM, IN A SANDBOX (cutbox-door.mjs). By AI agents, Wed Nov 11 2026. No macro, syntax, notation, axiom, sorry.
-/
import Derived.Test.YtgafcopihlmfpaaDoorRows
import GoSem.ClaimSeven
namespace Go.Proofs.YtgafcopihlmfpaaDoor
namespace Rows

/-- THE TIED CARD OF 'laws.FnExactSameElement'. -/
def fnExactSameElementCard : Claim7 := { stood := { row := fnExactSameElementRow, standIns := [], harness := (true, "327d73aca9b268eb813c3a2f6f95b35af8e58254bf246a9b2ffa68cd734089fe"), looks := false }, kinds := [], alts := [], laidByText := true, laidKinds := [.data, .pinned], laidTests := true, laidLooks := .later }
def FnExactSameElementCardSaid : Prop := Claim7.holds Tryd.pinned (.plain (OpenSpec.ofChange fnExactSameElementSpec)) fnExactSameElementCard

/-- THE TIED CARD OF 'laws.FnExactCharacterOk'. -/
def fnExactCharacterOkCard : Claim7 := { stood := { row := fnExactCharacterOkRow, standIns := [], harness := (true, "327d73aca9b268eb813c3a2f6f95b35af8e58254bf246a9b2ffa68cd734089fe"), looks := false }, kinds := [], alts := [], laidByText := true, laidKinds := [.data, .pinned], laidTests := true, laidLooks := .later }
def FnExactCharacterOkCardSaid : Prop := Claim7.holds Tryd.pinned (.plain (OpenSpec.ofChange fnExactCharacterOkSpec)) fnExactCharacterOkCard

/-- THE TIED CARD OF 'laws.FnExactLongestWord'. -/
def fnExactLongestWordCard : Claim7 := { stood := { row := fnExactLongestWordRow, standIns := [], harness := (true, "327d73aca9b268eb813c3a2f6f95b35af8e58254bf246a9b2ffa68cd734089fe"), looks := false }, kinds := [], alts := [], laidByText := true, laidKinds := [.data, .pinned], laidTests := true, laidLooks := .later }
def FnExactLongestWordCardSaid : Prop := Claim7.holds Tryd.pinned (.plain (OpenSpec.ofChange fnExactLongestWordSpec)) fnExactLongestWordCard

/-- THE TIED CARD OF 'laws.FnExactDimensionOf'. -/
def fnExactDimensionOfCard : Claim7 := { stood := { row := fnExactDimensionOfRow, standIns := [], harness := (true, "327d73aca9b268eb813c3a2f6f95b35af8e58254bf246a9b2ffa68cd734089fe"), looks := false }, kinds := [], alts := [], laidByText := true, laidKinds := [.data, .pinned], laidTests := true, laidLooks := .later }
def FnExactDimensionOfCardSaid : Prop := Claim7.holds Tryd.pinned (.plain (OpenSpec.ofChange fnExactDimensionOfSpec)) fnExactDimensionOfCard

/-- THE TIED CARD OF 'laws.FnExactNormalWord'. -/
def fnExactNormalWordCard : Claim7 := { stood := { row := fnExactNormalWordRow, standIns := [], harness := (true, "327d73aca9b268eb813c3a2f6f95b35af8e58254bf246a9b2ffa68cd734089fe"), looks := false }, kinds := [], alts := [], laidByText := true, laidKinds := [.data, .pinned], laidTests := true, laidLooks := .later }
def FnExactNormalWordCardSaid : Prop := Claim7.holds Tryd.pinned (.plain (OpenSpec.ofChange fnExactNormalWordSpec)) fnExactNormalWordCard

/-- THE TIED CARD OF 'laws.FnExactDualWeight'. -/
def fnExactDualWeightCard : Claim7 := { stood := { row := fnExactDualWeightRow, standIns := [], harness := (true, "327d73aca9b268eb813c3a2f6f95b35af8e58254bf246a9b2ffa68cd734089fe"), looks := false }, kinds := [], alts := [], laidByText := true, laidKinds := [.data, .pinned], laidTests := true, laidLooks := .later }
def FnExactDualWeightCardSaid : Prop := Claim7.holds Tryd.pinned (.plain (OpenSpec.ofChange fnExactDualWeightSpec)) fnExactDualWeightCard

/-- THE TIED CARD OF 'laws.FnExactInverseWord'. -/
def fnExactInverseWordCard : Claim7 := { stood := { row := fnExactInverseWordRow, standIns := [], harness := (true, "327d73aca9b268eb813c3a2f6f95b35af8e58254bf246a9b2ffa68cd734089fe"), looks := false }, kinds := [], alts := [], laidByText := true, laidKinds := [.data, .pinned], laidTests := true, laidLooks := .later }
def FnExactInverseWordCardSaid : Prop := Claim7.holds Tryd.pinned (.plain (OpenSpec.ofChange fnExactInverseWordSpec)) fnExactInverseWordCard

/-- THE TIED CARD OF 'laws.FnExactDominantOf'. -/
def fnExactDominantOfCard : Claim7 := { stood := { row := fnExactDominantOfRow, standIns := [], harness := (true, "327d73aca9b268eb813c3a2f6f95b35af8e58254bf246a9b2ffa68cd734089fe"), looks := false }, kinds := [], alts := [], laidByText := true, laidKinds := [.data, .pinned], laidTests := true, laidLooks := .later }
def FnExactDominantOfCardSaid : Prop := Claim7.holds Tryd.pinned (.plain (OpenSpec.ofChange fnExactDominantOfSpec)) fnExactDominantOfCard

/-- THE TIED CARD OF 'laws.FnExactWeylOrder'. -/
def fnExactWeylOrderCard : Claim7 := { stood := { row := fnExactWeylOrderRow, standIns := [], harness := (true, "327d73aca9b268eb813c3a2f6f95b35af8e58254bf246a9b2ffa68cd734089fe"), looks := false }, kinds := [], alts := [], laidByText := true, laidKinds := [.data, .data, .data, .data, .pinned], laidTests := true, laidLooks := .later }
def FnExactWeylOrderCardSaid : Prop := Claim7.holds Tryd.pinned (.plain (OpenSpec.ofChange fnExactWeylOrderSpec)) fnExactWeylOrderCard

/-- THE SECOND FORM's CARD OF 'laws.FnExactSameElement'. -/
def fnExactSameElementUptoCard : Claim7 := { stood := { row := fnExactSameElementUptoRow, standIns := [], harness := (true, "327d73aca9b268eb813c3a2f6f95b35af8e58254bf246a9b2ffa68cd734089fe"), looks := false }, kinds := [], alts := [], laidByText := true, laidKinds := [.data, .pinned], laidTests := true, laidLooks := .later }
def FnExactSameElementUptoCardSaid : Prop := Claim7.holds Tryd.pinned (.plain (OpenSpec.upto fnExactSameElementSpec)) fnExactSameElementUptoCard

/-- THE SECOND FORM's CARD OF 'laws.FnExactCharacterOk'. -/
def fnExactCharacterOkUptoCard : Claim7 := { stood := { row := fnExactCharacterOkUptoRow, standIns := [], harness := (true, "327d73aca9b268eb813c3a2f6f95b35af8e58254bf246a9b2ffa68cd734089fe"), looks := false }, kinds := [], alts := [], laidByText := true, laidKinds := [.data, .pinned], laidTests := true, laidLooks := .later }
def FnExactCharacterOkUptoCardSaid : Prop := Claim7.holds Tryd.pinned (.plain (OpenSpec.upto fnExactCharacterOkSpec)) fnExactCharacterOkUptoCard

/-- THE SECOND FORM's CARD OF 'laws.FnExactLongestWord'. -/
def fnExactLongestWordUptoCard : Claim7 := { stood := { row := fnExactLongestWordUptoRow, standIns := [], harness := (true, "327d73aca9b268eb813c3a2f6f95b35af8e58254bf246a9b2ffa68cd734089fe"), looks := false }, kinds := [], alts := [], laidByText := true, laidKinds := [.data, .pinned], laidTests := true, laidLooks := .later }
def FnExactLongestWordUptoCardSaid : Prop := Claim7.holds Tryd.pinned (.plain (OpenSpec.upto fnExactLongestWordSpec)) fnExactLongestWordUptoCard

/-- THE SECOND FORM's CARD OF 'laws.FnExactDimensionOf'. -/
def fnExactDimensionOfUptoCard : Claim7 := { stood := { row := fnExactDimensionOfUptoRow, standIns := [], harness := (true, "327d73aca9b268eb813c3a2f6f95b35af8e58254bf246a9b2ffa68cd734089fe"), looks := false }, kinds := [], alts := [], laidByText := true, laidKinds := [.data, .pinned], laidTests := true, laidLooks := .later }
def FnExactDimensionOfUptoCardSaid : Prop := Claim7.holds Tryd.pinned (.plain (OpenSpec.upto fnExactDimensionOfSpec)) fnExactDimensionOfUptoCard

/-- THE SECOND FORM's CARD OF 'laws.FnExactNormalWord'. -/
def fnExactNormalWordUptoCard : Claim7 := { stood := { row := fnExactNormalWordUptoRow, standIns := [], harness := (true, "327d73aca9b268eb813c3a2f6f95b35af8e58254bf246a9b2ffa68cd734089fe"), looks := false }, kinds := [], alts := [], laidByText := true, laidKinds := [.data, .pinned], laidTests := true, laidLooks := .later }
def FnExactNormalWordUptoCardSaid : Prop := Claim7.holds Tryd.pinned (.plain (OpenSpec.upto fnExactNormalWordSpec)) fnExactNormalWordUptoCard

/-- THE SECOND FORM's CARD OF 'laws.FnExactDualWeight'. -/
def fnExactDualWeightUptoCard : Claim7 := { stood := { row := fnExactDualWeightUptoRow, standIns := [], harness := (true, "327d73aca9b268eb813c3a2f6f95b35af8e58254bf246a9b2ffa68cd734089fe"), looks := false }, kinds := [], alts := [], laidByText := true, laidKinds := [.data, .pinned], laidTests := true, laidLooks := .later }
def FnExactDualWeightUptoCardSaid : Prop := Claim7.holds Tryd.pinned (.plain (OpenSpec.upto fnExactDualWeightSpec)) fnExactDualWeightUptoCard

/-- THE SECOND FORM's CARD OF 'laws.FnExactInverseWord'. -/
def fnExactInverseWordUptoCard : Claim7 := { stood := { row := fnExactInverseWordUptoRow, standIns := [], harness := (true, "327d73aca9b268eb813c3a2f6f95b35af8e58254bf246a9b2ffa68cd734089fe"), looks := false }, kinds := [], alts := [], laidByText := true, laidKinds := [.data, .pinned], laidTests := true, laidLooks := .later }
def FnExactInverseWordUptoCardSaid : Prop := Claim7.holds Tryd.pinned (.plain (OpenSpec.upto fnExactInverseWordSpec)) fnExactInverseWordUptoCard

/-- THE SECOND FORM's CARD OF 'laws.FnExactDominantOf'. -/
def fnExactDominantOfUptoCard : Claim7 := { stood := { row := fnExactDominantOfUptoRow, standIns := [], harness := (true, "327d73aca9b268eb813c3a2f6f95b35af8e58254bf246a9b2ffa68cd734089fe"), looks := false }, kinds := [], alts := [], laidByText := true, laidKinds := [.data, .pinned], laidTests := true, laidLooks := .later }
def FnExactDominantOfUptoCardSaid : Prop := Claim7.holds Tryd.pinned (.plain (OpenSpec.upto fnExactDominantOfSpec)) fnExactDominantOfUptoCard

/-- THE SECOND FORM's CARD OF 'laws.FnExactWeylOrder'. -/
def fnExactWeylOrderUptoCard : Claim7 := { stood := { row := fnExactWeylOrderUptoRow, standIns := [], harness := (true, "327d73aca9b268eb813c3a2f6f95b35af8e58254bf246a9b2ffa68cd734089fe"), looks := false }, kinds := [], alts := [], laidByText := true, laidKinds := [.data, .data, .data, .data, .pinned], laidTests := true, laidLooks := .later }
def FnExactWeylOrderUptoCardSaid : Prop := Claim7.holds Tryd.pinned (.plain (OpenSpec.upto fnExactWeylOrderSpec)) fnExactWeylOrderUptoCard
end Rows
end Go.Proofs.YtgafcopihlmfpaaDoor
