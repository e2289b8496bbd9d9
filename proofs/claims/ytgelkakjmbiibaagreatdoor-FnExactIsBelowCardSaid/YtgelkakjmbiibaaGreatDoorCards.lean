/-
  DERIVED. GIVEN WITH THE SEED: THE CARDS: each row of YtgelkakjmbiibaaGreatDoorRows.lean that lists a variable, with what it lists TIED to the program's text (the seventh form; the later family's looks); each row that meets fmt, with fmt's text TOLD by the authors' own Lean function (tested against real Go, not proved from fmt's source: count such statements apart). THE CARD IS WHAT COUNTS. Prove the row's statement (the work); the ties are given (YtgelkakjmbiibaaGreatDoorTie.lean); close each card by the builder's one call (the guide's Derived/Test/ToyasCard.lean, 'card_holds'). Laid BY PROGRAM, IN A SANDBOX (cutbox-door.mjs). By AI agents, Wed Nov 11 2026. No macro, syntax, notation, axiom, sorry.
-/
import Derived.Test.YtgelkakjmbiibaaGreatDoorRows
import GoSem.ClaimSeven
namespace Go.Proofs.YtgelkakjmbiibaaGreatDoor
namespace Rows

/-- THE TIED CARD OF 'laws.FnExactIsBelow'. -/
def fnExactIsBelowCard : Claim7 := { stood := { row := fnExactIsBelowRow, standIns := [], harness := (true, "df134c771ab6a493b60f653f0fb39de27e18c601d6190ca21174d85c85e0c42e"), looks := false }, kinds := [], alts := [], laidByText := true, laidKinds := [.data, .data, .data, .data, .pinned], laidTests := true, laidLooks := .later }
def FnExactIsBelowCardSaid : Prop := Claim7.holds Tryz.pinned (.plain (OpenSpec.ofChange fnExactIsBelowSpec)) fnExactIsBelowCard

/-- THE TIED CARD OF 'laws.FnBelow'. -/
def fnBelowCard : Claim7 := { stood := { row := fnBelowRow, standIns := [], harness := (true, "df134c771ab6a493b60f653f0fb39de27e18c601d6190ca21174d85c85e0c42e"), looks := false }, kinds := [], alts := [], laidByText := true, laidKinds := [.data, .data, .data, .data, .pinned], laidTests := true, laidLooks := .later }
def FnBelowCardSaid : Prop := Claim7.holds Tryz.pinned (.plain (OpenSpec.ofChange fnBelowSpec)) fnBelowCard

/-- THE TIED CARD OF 'laws.FnWords'. -/
def fnWordsCard : Claim7 := { stood := { row := fnWordsRow, standIns := [], harness := (true, "df134c771ab6a493b60f653f0fb39de27e18c601d6190ca21174d85c85e0c42e"), looks := false }, kinds := [], alts := [], laidByText := true, laidKinds := [.data, .data, .data, .data, .pinned], laidTests := true, laidLooks := .later }
def FnWordsCardSaid : Prop := Claim7.holds Tryz.pinned (.plain (OpenSpec.ofChange fnWordsSpec)) fnWordsCard

/-- THE TIED CARD OF 'laws.FnOrbits'. -/
def fnOrbitsCard : Claim7 := { stood := { row := fnOrbitsRow, standIns := [], harness := (true, "df134c771ab6a493b60f653f0fb39de27e18c601d6190ca21174d85c85e0c42e"), looks := false }, kinds := [], alts := [], laidByText := true, laidKinds := [.data, .data, .data, .data, .pinned], laidTests := true, laidLooks := .later }
def FnOrbitsCardSaid : Prop := Claim7.holds Tryz.pinned (.plain (OpenSpec.ofChange fnOrbitsSpec)) fnOrbitsCard

/-- THE TIED CARD OF 'laws.FnLongest'. -/
def fnLongestCard : Claim7 := { stood := { row := fnLongestRow, standIns := [], harness := (true, "df134c771ab6a493b60f653f0fb39de27e18c601d6190ca21174d85c85e0c42e"), looks := false }, kinds := [], alts := [], laidByText := true, laidKinds := [.data, .data, .data, .data, .pinned], laidTests := true, laidLooks := .later }
def FnLongestCardSaid : Prop := Claim7.holds Tryz.pinned (.plain (OpenSpec.ofChange fnLongestSpec)) fnLongestCard

/-- THE TIED CARD OF 'laws.FnHighest'. -/
def fnHighestCard : Claim7 := { stood := { row := fnHighestRow, standIns := [], harness := (true, "df134c771ab6a493b60f653f0fb39de27e18c601d6190ca21174d85c85e0c42e"), looks := false }, kinds := [], alts := [], laidByText := true, laidKinds := [.data, .data, .data, .data, .pinned], laidTests := true, laidLooks := .later }
def FnHighestCardSaid : Prop := Claim7.holds Tryz.pinned (.plain (OpenSpec.ofChange fnHighestSpec)) fnHighestCard

/-- THE TIED CARD OF 'laws.FnCartanNamed'. -/
def fnCartanNamedCard : Claim7 := { stood := { row := fnCartanNamedRow, standIns := [], harness := (true, "df134c771ab6a493b60f653f0fb39de27e18c601d6190ca21174d85c85e0c42e"), looks := false }, kinds := [], alts := [], laidByText := true, laidKinds := [.data, .data, .data, .data, .pinned], laidTests := true, laidLooks := .later }
def FnCartanNamedCardSaid : Prop := Claim7.holds Tryz.pinned (.plain (OpenSpec.ofChange fnCartanNamedSpec)) fnCartanNamedCard

/-- THE TIED CARD OF 'laws.FnExponents'. -/
def fnExponentsCard : Claim7 := { stood := { row := fnExponentsRow, standIns := [], harness := (true, "df134c771ab6a493b60f653f0fb39de27e18c601d6190ca21174d85c85e0c42e"), looks := false }, kinds := [], alts := [], laidByText := true, laidKinds := [.data, .data, .data, .data, .pinned], laidTests := true, laidLooks := .later }
def FnExponentsCardSaid : Prop := Claim7.holds Tryz.pinned (.plain (OpenSpec.ofChange fnExponentsSpec)) fnExponentsCard

/-- THE TIED CARD OF 'laws.FnRootsClosed'. -/
def fnRootsClosedCard : Claim7 := { stood := { row := fnRootsClosedRow, standIns := [], harness := (true, "df134c771ab6a493b60f653f0fb39de27e18c601d6190ca21174d85c85e0c42e"), looks := false }, kinds := [], alts := [], laidByText := true, laidKinds := [.data, .data, .data, .data, .pinned], laidTests := true, laidLooks := .later }
def FnRootsClosedCardSaid : Prop := Claim7.holds Tryz.pinned (.plain (OpenSpec.ofChange fnRootsClosedSpec)) fnRootsClosedCard

/-- THE SECOND FORM's CARD OF 'laws.FnExactIsBelow'. -/
def fnExactIsBelowUptoCard : Claim7 := { stood := { row := fnExactIsBelowUptoRow, standIns := [], harness := (true, "df134c771ab6a493b60f653f0fb39de27e18c601d6190ca21174d85c85e0c42e"), looks := false }, kinds := [], alts := [], laidByText := true, laidKinds := [.data, .data, .data, .data, .pinned], laidTests := true, laidLooks := .later }
def FnExactIsBelowUptoCardSaid : Prop := Claim7.holds Tryz.pinned (.plain (OpenSpec.upto fnExactIsBelowSpec)) fnExactIsBelowUptoCard

/-- THE SECOND FORM's CARD OF 'laws.FnBelow'. -/
def fnBelowUptoCard : Claim7 := { stood := { row := fnBelowUptoRow, standIns := [], harness := (true, "df134c771ab6a493b60f653f0fb39de27e18c601d6190ca21174d85c85e0c42e"), looks := false }, kinds := [], alts := [], laidByText := true, laidKinds := [.data, .data, .data, .data, .pinned], laidTests := true, laidLooks := .later }
def FnBelowUptoCardSaid : Prop := Claim7.holds Tryz.pinned (.plain (OpenSpec.upto fnBelowSpec)) fnBelowUptoCard

/-- THE SECOND FORM's CARD OF 'laws.FnWords'. -/
def fnWordsUptoCard : Claim7 := { stood := { row := fnWordsUptoRow, standIns := [], harness := (true, "df134c771ab6a493b60f653f0fb39de27e18c601d6190ca21174d85c85e0c42e"), looks := false }, kinds := [], alts := [], laidByText := true, laidKinds := [.data, .data, .data, .data, .pinned], laidTests := true, laidLooks := .later }
def FnWordsUptoCardSaid : Prop := Claim7.holds Tryz.pinned (.plain (OpenSpec.upto fnWordsSpec)) fnWordsUptoCard

/-- THE SECOND FORM's CARD OF 'laws.FnOrbits'. -/
def fnOrbitsUptoCard : Claim7 := { stood := { row := fnOrbitsUptoRow, standIns := [], harness := (true, "df134c771ab6a493b60f653f0fb39de27e18c601d6190ca21174d85c85e0c42e"), looks := false }, kinds := [], alts := [], laidByText := true, laidKinds := [.data, .data, .data, .data, .pinned], laidTests := true, laidLooks := .later }
def FnOrbitsUptoCardSaid : Prop := Claim7.holds Tryz.pinned (.plain (OpenSpec.upto fnOrbitsSpec)) fnOrbitsUptoCard

/-- THE SECOND FORM's CARD OF 'laws.FnLongest'. -/
def fnLongestUptoCard : Claim7 := { stood := { row := fnLongestUptoRow, standIns := [], harness := (true, "df134c771ab6a493b60f653f0fb39de27e18c601d6190ca21174d85c85e0c42e"), looks := false }, kinds := [], alts := [], laidByText := true, laidKinds := [.data, .data, .data, .data, .pinned], laidTests := true, laidLooks := .later }
def FnLongestUptoCardSaid : Prop := Claim7.holds Tryz.pinned (.plain (OpenSpec.upto fnLongestSpec)) fnLongestUptoCard

/-- THE SECOND FORM's CARD OF 'laws.FnHighest'. -/
def fnHighestUptoCard : Claim7 := { stood := { row := fnHighestUptoRow, standIns := [], harness := (true, "df134c771ab6a493b60f653f0fb39de27e18c601d6190ca21174d85c85e0c42e"), looks := false }, kinds := [], alts := [], laidByText := true, laidKinds := [.data, .data, .data, .data, .pinned], laidTests := true, laidLooks := .later }
def FnHighestUptoCardSaid : Prop := Claim7.holds Tryz.pinned (.plain (OpenSpec.upto fnHighestSpec)) fnHighestUptoCard

/-- THE SECOND FORM's CARD OF 'laws.FnCartanNamed'. -/
def fnCartanNamedUptoCard : Claim7 := { stood := { row := fnCartanNamedUptoRow, standIns := [], harness := (true, "df134c771ab6a493b60f653f0fb39de27e18c601d6190ca21174d85c85e0c42e"), looks := false }, kinds := [], alts := [], laidByText := true, laidKinds := [.data, .data, .data, .data, .pinned], laidTests := true, laidLooks := .later }
def FnCartanNamedUptoCardSaid : Prop := Claim7.holds Tryz.pinned (.plain (OpenSpec.upto fnCartanNamedSpec)) fnCartanNamedUptoCard

/-- THE SECOND FORM's CARD OF 'laws.FnExponents'. -/
def fnExponentsUptoCard : Claim7 := { stood := { row := fnExponentsUptoRow, standIns := [], harness := (true, "df134c771ab6a493b60f653f0fb39de27e18c601d6190ca21174d85c85e0c42e"), looks := false }, kinds := [], alts := [], laidByText := true, laidKinds := [.data, .data, .data, .data, .pinned], laidTests := true, laidLooks := .later }
def FnExponentsUptoCardSaid : Prop := Claim7.holds Tryz.pinned (.plain (OpenSpec.upto fnExponentsSpec)) fnExponentsUptoCard

/-- THE SECOND FORM's CARD OF 'laws.FnRootsClosed'. -/
def fnRootsClosedUptoCard : Claim7 := { stood := { row := fnRootsClosedUptoRow, standIns := [], harness := (true, "df134c771ab6a493b60f653f0fb39de27e18c601d6190ca21174d85c85e0c42e"), looks := false }, kinds := [], alts := [], laidByText := true, laidKinds := [.data, .data, .data, .data, .pinned], laidTests := true, laidLooks := .later }
def FnRootsClosedUptoCardSaid : Prop := Claim7.holds Tryz.pinned (.plain (OpenSpec.upto fnRootsClosedSpec)) fnRootsClosedUptoCard
end Rows
end Go.Proofs.YtgelkakjmbiibaaGreatDoor
