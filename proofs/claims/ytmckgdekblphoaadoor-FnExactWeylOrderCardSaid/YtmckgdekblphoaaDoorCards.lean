/-
  DERIVED. GIVEN WITH THE SEED: THE CARDS: each row of YtmckgdekblphoaaDoorRows.lean that lists a variable, with what it lists TIED to the program's text (the seventh form; the later family's looks); each row that meets fmt, with fmt's text TOLD by the authors' own Lean function (tested against real Go, not proved from fmt's source: count such statements apart). THE CARD IS WHAT COUNTS. Prove the row's statement (the work); the ties are given (YtmckgdekblphoaaDoorTie.lean); close each card by the builder's one call (the guide's Derived/Test/ToyasCard.lean, 'card_holds'). Laid BY PROGRAM, IN A SANDBOX (cutbox-door.mjs). By AI agents, Wed Nov 11 2026. No macro, syntax, notation, axiom, sorry.
-/
import Derived.Test.YtmckgdekblphoaaDoorRows
import GoSem.ClaimSeven
namespace Go.Proofs.YtmckgdekblphoaaDoor
namespace Rows

/-- THE TIED CARD OF 'laws.FnExactWeylOrder'. -/
def fnExactWeylOrderCard : Claim7 := { stood := { row := fnExactWeylOrderRow, standIns := [], harness := (true, "ca7647024cf5160774d314a96be09ad116e9b4cb51bbd2aa6195bef26604b52f"), looks := false }, kinds := [], alts := [], laidByText := true, laidKinds := [.data, .data, .data, .data, .pinned], laidTests := true, laidLooks := .later }
def FnExactWeylOrderCardSaid : Prop := Claim7.holds Tryd.pinned (.plain (OpenSpec.ofChange fnExactWeylOrderSpec)) fnExactWeylOrderCard

/-- THE SECOND FORM's CARD OF 'laws.FnExactWeylOrder'. -/
def fnExactWeylOrderUptoCard : Claim7 := { stood := { row := fnExactWeylOrderUptoRow, standIns := [], harness := (true, "ca7647024cf5160774d314a96be09ad116e9b4cb51bbd2aa6195bef26604b52f"), looks := false }, kinds := [], alts := [], laidByText := true, laidKinds := [.data, .data, .data, .data, .pinned], laidTests := true, laidLooks := .later }
def FnExactWeylOrderUptoCardSaid : Prop := Claim7.holds Tryd.pinned (.plain (OpenSpec.upto fnExactWeylOrderSpec)) fnExactWeylOrderUptoCard
end Rows
end Go.Proofs.YtmckgdekblphoaaDoor
