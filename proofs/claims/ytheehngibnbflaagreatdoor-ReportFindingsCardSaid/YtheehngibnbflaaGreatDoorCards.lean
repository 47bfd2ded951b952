/-
  DERIVED. GIVEN WITH THE SEED: THE CARDS: each row of YtheehngibnbflaaGreatDoorRows.lean that lists a variable, with what it lists TIED to the program's text (the seventh form; the later family's looks); each row that meets fmt, with fmt's text TOLD by the authors' own Lean function (tested against real Go, not proved from fmt's source: count such statements apart). THE CARD IS WHAT COUNTS. Prove the row's statement (the work); the ties are given (YtheehngibnbflaaGreatDoorTie.lean); close each card by the builder's one call (the guide's Derived/Test/ToyasCard.lean, 'card_holds'). Laid BY PROGRAM, IN A SANDBOX (cutbox-door.mjs). By AI agents, Wed Nov 11 2026. No macro, syntax, notation, axiom, sorry.
-/
import Derived.Test.YtheehngibnbflaaGreatDoorRows
import GoSem.ClaimSeven
namespace Go.Proofs.YtheehngibnbflaaGreatDoor
namespace Rows

/-- THE TIED CARD OF 'cipherplanlaw43.ReportFindings'. -/
def reportFindingsCard : Claim7 := { stood := { row := reportFindingsRow, standIns := [], harness := (true, "121ec6410c2f88384f838e01de1a5b0cdc4f2fdf4ea5551741f47d7a857f32aa"), looks := false }, kinds := [], alts := [], laidByText := true, laidKinds := [.data, .data, .data, .data, .listed, .data, .pinned], laidTests := true, laidLooks := .later }
def ReportFindingsCardSaid : Prop := Claim7.holds Tryz.pinned (.plain (OpenSpec.ofChange reportFindingsSpec)) reportFindingsCard

/-- THE SECOND FORM's CARD OF 'cipherplanlaw43.ReportFindings'. -/
def reportFindingsUptoCard : Claim7 := { stood := { row := reportFindingsUptoRow, standIns := [], harness := (true, "121ec6410c2f88384f838e01de1a5b0cdc4f2fdf4ea5551741f47d7a857f32aa"), looks := false }, kinds := [], alts := [], laidByText := true, laidKinds := [.data, .data, .data, .data, .listed, .data, .pinned], laidTests := true, laidLooks := .later }
def ReportFindingsUptoCardSaid : Prop := Claim7.holds Tryz.pinned (.plain (OpenSpec.upto reportFindingsSpec)) reportFindingsUptoCard
end Rows
end Go.Proofs.YtheehngibnbflaaGreatDoor
