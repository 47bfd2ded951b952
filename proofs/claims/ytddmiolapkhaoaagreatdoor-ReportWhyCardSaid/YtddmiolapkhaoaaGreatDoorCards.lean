/-
  DERIVED. GIVEN WITH THE SEED: THE CARDS: each row of YtddmiolapkhaoaaGreatDoorRows.lean that lists a variable, with what it lists TIED to the program's text (the seventh form; the later family's looks); each row that meets fmt, with fmt's text TOLD by the authors' own Lean function (tested against real Go, not proved from fmt's source: count such statements apart). THE CARD IS WHAT COUNTS. Prove the row's statement (the work); the ties are given (YtddmiolapkhaoaaGreatDoorTie.lean); close each card by the builder's one call (the guide's Derived/Test/ToyasCard.lean, 'card_holds'). Laid BY PROGRAM, IN A SANDBOX (cutbox-door.mjs). By AI agents, Wed Nov 11 2026. No macro, syntax, notation, axiom, sorry.
-/
import Derived.Test.YtddmiolapkhaoaaGreatDoorRows
import GoSem.ClaimSeven
namespace Go.Proofs.YtddmiolapkhaoaaGreatDoor
namespace Rows

/-- THE TIED CARD OF 'cipherplanlaw43.ReportWhy'. -/
def reportWhyCard : Claim7 := { stood := { row := reportWhyRow, standIns := [], harness := (true, "f392f974e386e594a6f0dc60961096d9f7de995c011f176b00040a5dc1905598"), looks := false }, kinds := [], alts := [], laidByText := true, laidKinds := [.data, .data, .data, .listed, .data], laidTests := true, laidLooks := .later }
def ReportWhyCardSaid : Prop := Claim7.holds Tryz.pinned (.plain (OpenSpec.ofChange reportWhySpec)) reportWhyCard

/-- THE SECOND FORM's CARD OF 'cipherplanlaw43.ReportWhy'. -/
def reportWhyUptoCard : Claim7 := { stood := { row := reportWhyUptoRow, standIns := [], harness := (true, "f392f974e386e594a6f0dc60961096d9f7de995c011f176b00040a5dc1905598"), looks := false }, kinds := [], alts := [], laidByText := true, laidKinds := [.data, .data, .data, .listed, .data], laidTests := true, laidLooks := .later }
def ReportWhyUptoCardSaid : Prop := Claim7.holds Tryz.pinned (.plain (OpenSpec.upto reportWhySpec)) reportWhyUptoCard
end Rows
end Go.Proofs.YtddmiolapkhaoaaGreatDoor
