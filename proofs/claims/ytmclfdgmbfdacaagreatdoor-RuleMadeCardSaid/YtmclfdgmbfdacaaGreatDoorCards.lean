/-
  DERIVED. GIVEN WITH THE SEED: THE CARDS: each row of YtmclfdgmbfdacaaGreatDoorRows.lean that lists a variable, with what it lists TIED to the program's text (the seventh form; the later family's looks); each row that meets fmt, with fmt's text TOLD by the authors' own Lean function (tested against real Go, not proved from fmt's source: count such statements apart). THE CARD IS WHAT COUNTS. Prove the row's statement (the work); the ties are given (YtmclfdgmbfdacaaGreatDoorTie.lean); close each card by the builder's one call (the guide's Derived/Test/ToyasCard.lean, 'card_holds'). Laid BY PROGRAM, IN A SANDBOX (cutbox-door.mjs). By AI agents, Wed Nov 11 2026. No macro, syntax, notation, axiom, sorry.
-/
import Derived.Test.YtmclfdgmbfdacaaGreatDoorRows
import GoSem.ClaimSeven
namespace Go.Proofs.YtmclfdgmbfdacaaGreatDoor
namespace Rows

/-- THE TIED CARD OF 'cipherplanlaw17.RuleMade'. -/
def ruleMadeCard : Claim7 := { stood := { row := ruleMadeRow, standIns := [], harness := (true, "dcb0782ce8e1a08edaa4fd82e4c400babf9266fa52751eb458ac5c36bb916809"), looks := true }, kinds := [], alts := [], laidByText := true, laidKinds := [.data, .data, .data, .data, .sentinel, .sentinel, .pinned], laidTests := true, laidLooks := .later }
def RuleMadeCardSaid : Prop := Claim7.holds Tryz.pinned (.plain (OpenSpec.ofChange ruleMadeSpec)) ruleMadeCard

/-- THE SECOND FORM's CARD OF 'cipherplanlaw17.RuleMade'. -/
def ruleMadeUptoCard : Claim7 := { stood := { row := ruleMadeUptoRow, standIns := [], harness := (true, "dcb0782ce8e1a08edaa4fd82e4c400babf9266fa52751eb458ac5c36bb916809"), looks := true }, kinds := [], alts := [], laidByText := true, laidKinds := [.data, .data, .data, .data, .sentinel, .sentinel, .pinned], laidTests := true, laidLooks := .later }
def RuleMadeUptoCardSaid : Prop := Claim7.holds Tryz.pinned (.plain (OpenSpec.upto ruleMadeSpec)) ruleMadeUptoCard
end Rows
end Go.Proofs.YtmclfdgmbfdacaaGreatDoor
