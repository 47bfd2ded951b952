/-
  DERIVED. GIVEN WITH THE SEED: THE CARDS: each row of YtajbkpjbnooblaaGreatDoorRows.lean that lists a variable, with what it lists TIED to the program's text (the seventh form; the later family's looks); each row that meets fmt, with fmt's text TOLD by the authors' own Lean function (tested against real Go, not proved from fmt's source: count such statements apart). THE CARD IS WHAT COUNTS. Prove the row's statement (the work); the ties are given (YtajbkpjbnooblaaGreatDoorTie.lean); close each card by the builder's one call (the guide's Derived/Test/ToyasCard.lean, 'card_holds'). Laid BY PROGRAM, IN A SANDBOX (cutbox-door.mjs). By AI agents, Wed Nov 11 2026. No macro, syntax, notation, axiom, sorry.
-/
import Derived.Test.YtajbkpjbnooblaaGreatDoorRows
import GoSem.ClaimSeven
namespace Go.Proofs.YtajbkpjbnooblaaGreatDoor
namespace Rows

/-- THE TIED CARD OF 'cipherplanlaw09.EndpointRaw'. -/
def endpointRawCard : Claim7 := { stood := { row := endpointRawRow, standIns := [], harness := (true, "cecc5f665ea6ba4feb4209390df2d2ff11dcf4917772e706c5e981468760329d"), looks := true }, kinds := [], alts := [], laidByText := true, laidKinds := [.data, .data, .data, .data, .sentinel, .sentinel, .pinned], laidTests := true, laidLooks := .later }
def EndpointRawCardSaid : Prop := Claim7.holds Tryz.pinned (.plain (OpenSpec.ofChange endpointRawSpec)) endpointRawCard

/-- THE SECOND FORM's CARD OF 'cipherplanlaw09.EndpointRaw'. -/
def endpointRawUptoCard : Claim7 := { stood := { row := endpointRawUptoRow, standIns := [], harness := (true, "cecc5f665ea6ba4feb4209390df2d2ff11dcf4917772e706c5e981468760329d"), looks := true }, kinds := [], alts := [], laidByText := true, laidKinds := [.data, .data, .data, .data, .sentinel, .sentinel, .pinned], laidTests := true, laidLooks := .later }
def EndpointRawUptoCardSaid : Prop := Claim7.holds Tryz.pinned (.plain (OpenSpec.upto endpointRawSpec)) endpointRawUptoCard
end Rows
end Go.Proofs.YtajbkpjbnooblaaGreatDoor
