/-
  DERIVED. GIVEN WITH THE SEED: THE CARDS: each row of YtjnbmkoekngljaaGreatDoorRows.lean that lists a variable, with what it lists TIED to the program's text (the seventh form; the later family's looks); each row that meets fmt, with fmt's text TOLD by the authors' own Lean function (tested against real Go, not proved from fmt's source: count such statements apart). THE CARD IS WHAT COUNTS. Prove the row's statement (the work); the ties are given (YtjnbmkoekngljaaGreatDoorTie.lean); close each card by the builder's one call (the guide's Derived/Test/ToyasCard.lean, 'card_holds'). Laid BY PROGRAM, IN A SANDBOX (cutbox-door.mjs). By AI agents, Wed Nov 11 2026. No macro, syntax, notation, axiom, sorry.
-/
import Derived.Test.YtjnbmkoekngljaaGreatDoorRows
import GoSem.ClaimSeven
namespace Go.Proofs.YtjnbmkoekngljaaGreatDoor
namespace Rows

/-- THE TIED CARD OF 'cipherplanlaw09.EndpointWrites'. -/
def endpointWritesCard : Claim7 := { stood := { row := endpointWritesRow, standIns := [], harness := (true, "40973eb6fde68411a72cca1aa42905d625f10e36357dfa4e6f6d9145d83daaf7"), looks := true }, kinds := [], alts := [], laidByText := true, laidKinds := [.data, .data, .data, .data, .sentinel, .sentinel, .pinned], laidTests := true, laidLooks := .later }
def EndpointWritesCardSaid : Prop := Claim7.holds Tryz.pinned (.plain (OpenSpec.ofChange endpointWritesSpec)) endpointWritesCard

/-- THE SECOND FORM's CARD OF 'cipherplanlaw09.EndpointWrites'. -/
def endpointWritesUptoCard : Claim7 := { stood := { row := endpointWritesUptoRow, standIns := [], harness := (true, "40973eb6fde68411a72cca1aa42905d625f10e36357dfa4e6f6d9145d83daaf7"), looks := true }, kinds := [], alts := [], laidByText := true, laidKinds := [.data, .data, .data, .data, .sentinel, .sentinel, .pinned], laidTests := true, laidLooks := .later }
def EndpointWritesUptoCardSaid : Prop := Claim7.holds Tryz.pinned (.plain (OpenSpec.upto endpointWritesSpec)) endpointWritesUptoCard
end Rows
end Go.Proofs.YtjnbmkoekngljaaGreatDoor
