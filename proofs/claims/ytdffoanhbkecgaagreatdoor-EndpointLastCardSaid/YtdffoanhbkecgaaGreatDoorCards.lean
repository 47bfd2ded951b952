/-
  DERIVED. GIVEN WITH THE SEED: THE CARDS: each row of YtdffoanhbkecgaaGreatDoorRows.lean that lists a variable, with what it lists TIED to the program's text (the seventh form; the later family's looks); each row that meets fmt, with fmt's text TOLD by the authors' own Lean function (tested against real Go, not proved from fmt's source: count such statements apart). THE CARD IS WHAT COUNTS. Prove the row's statement (the work); the ties are given (YtdffoanhbkecgaaGreatDoorTie.lean); close each card by the builder's one call (the guide's Derived/Test/ToyasCard.lean, 'card_holds'). Laid BY PROGRAM, IN A SANDBOX (cutbox-door.mjs). By AI agents, Wed Nov 11 2026. No macro, syntax, notation, axiom, sorry.
-/
import Derived.Test.YtdffoanhbkecgaaGreatDoorRows
import GoSem.ClaimSeven
namespace Go.Proofs.YtdffoanhbkecgaaGreatDoor
namespace Rows

/-- THE TIED CARD OF 'cipherplanlaw09.EndpointLast'. -/
def endpointLastCard : Claim7 := { stood := { row := endpointLastRow, standIns := [], harness := (true, "919f2c687c606ecaba8d1af54a3ab629dbc14a8376931621bb7634950a4d364b"), looks := true }, kinds := [], alts := [], laidByText := true, laidKinds := [.data, .data, .data, .data, .sentinel, .sentinel, .pinned], laidTests := true, laidLooks := .later }
def EndpointLastCardSaid : Prop := Claim7.holds Tryz.pinned (.plain (OpenSpec.ofChange endpointLastSpec)) endpointLastCard

/-- THE SECOND FORM's CARD OF 'cipherplanlaw09.EndpointLast'. -/
def endpointLastUptoCard : Claim7 := { stood := { row := endpointLastUptoRow, standIns := [], harness := (true, "919f2c687c606ecaba8d1af54a3ab629dbc14a8376931621bb7634950a4d364b"), looks := true }, kinds := [], alts := [], laidByText := true, laidKinds := [.data, .data, .data, .data, .sentinel, .sentinel, .pinned], laidTests := true, laidLooks := .later }
def EndpointLastUptoCardSaid : Prop := Claim7.holds Tryz.pinned (.plain (OpenSpec.upto endpointLastSpec)) endpointLastUptoCard
end Rows
end Go.Proofs.YtdffoanhbkecgaaGreatDoor
