/-
  DERIVED. GIVEN WITH THE SEED: THE CARDS: each row of YtalpffbofjlfgaaDoorRows.lean that lists a variable, with what it lists TIED to the program's text (the seventh form; the later family's looks); each row that meets fmt, with fmt's text TOLD by the authors' own Lean function (tested against real Go, not proved from fmt's source: count such statements apart). THE CARD IS WHAT COUNTS. Prove the row's statement (the work); the ties are given (YtalpffbofjlfgaaDoorTie.lean); close each card by the builder's one call (the guide's Derived/Test/ToyasCard.lean, 'card_holds'). Laid BY PROGRAM, IN A SANDBOX (cutbox-door.mjs). By AI agents, Wed Nov 11 2026. No macro, syntax, notation, axiom, sorry.
-/
import Derived.Test.YtalpffbofjlfgaaDoorRows
import GoSem.ClaimSeven
namespace Go.Proofs.YtalpffbofjlfgaaDoor
namespace Rows

/-- THE TIED CARD OF 'cipherplanlaw12.PackagesMissing'. -/
def packagesMissingCard : Claim7 := { stood := { row := packagesMissingRow, standIns := [], harness := (true, "3c74eb75a3743282e4978e7baa2fe316445351c6edc5d1abc55d753d6d1b7fec"), looks := true }, kinds := [], alts := [], laidByText := true, laidKinds := [.data, .data, .data, .data, .sentinel, .sentinel, .pinned], laidTests := true, laidLooks := .later }
def PackagesMissingCardSaid : Prop := Claim7.holds Tryd.pinned (.plain (OpenSpec.ofChange packagesMissingSpec)) packagesMissingCard

/-- THE SECOND FORM's CARD OF 'cipherplanlaw12.PackagesMissing'. -/
def packagesMissingUptoCard : Claim7 := { stood := { row := packagesMissingUptoRow, standIns := [], harness := (true, "3c74eb75a3743282e4978e7baa2fe316445351c6edc5d1abc55d753d6d1b7fec"), looks := true }, kinds := [], alts := [], laidByText := true, laidKinds := [.data, .data, .data, .data, .sentinel, .sentinel, .pinned], laidTests := true, laidLooks := .later }
def PackagesMissingUptoCardSaid : Prop := Claim7.holds Tryd.pinned (.plain (OpenSpec.upto packagesMissingSpec)) packagesMissingUptoCard
end Rows
end Go.Proofs.YtalpffbofjlfgaaDoor
