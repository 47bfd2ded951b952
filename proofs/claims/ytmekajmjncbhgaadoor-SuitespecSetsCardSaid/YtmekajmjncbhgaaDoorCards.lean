/-
  DERIVED. GIVEN WITH THE SEED: THE CARDS: each row of YtmekajmjncbhgaaDoorRows.lean that lists a variable, with what it lists TIED to the program's text (the seventh form; the later family's looks); each row that meets fmt, with fmt's text TOLD by the authors' own Lean function (tested against real Go, not proved from fmt's source: count such statements apart). THE CARD IS WHAT COUNTS. Prove the row's statement (the work); the ties are given (YtmekajmjncbhgaaDoorTie.lean); close each card by the builder's one call (the guide's Derived/Test/ToyasCard.lean, 'card_holds'). Laid BY PROGRAM, IN A SANDBOX (cutbox-door.mjs). By AI agents, Wed Nov 11 2026. No macro, syntax, notation, axiom, sorry.
-/
import Derived.Test.YtmekajmjncbhgaaDoorRows
import GoSem.ClaimSeven
namespace Go.Proofs.YtmekajmjncbhgaaDoor
namespace Rows

/-- THE TIED CARD OF 'cipherplanlaw08.SuitespecSets'. -/
def suitespecSetsCard : Claim7 := { stood := { row := suitespecSetsRow, standIns := [], harness := (true, "32f5679b8101ca2fe166f34fda2a0c4b802ea38ae5593a8d40f6dccd12581aca"), looks := false }, kinds := [], alts := [], laidByText := true, laidKinds := [.data, .pinned], laidTests := true, laidLooks := .later }
def SuitespecSetsCardSaid : Prop := Claim7.holds Tryd.pinned (.plain (OpenSpec.ofChange suitespecSetsSpec)) suitespecSetsCard

/-- THE SECOND FORM's CARD OF 'cipherplanlaw08.SuitespecSets'. -/
def suitespecSetsUptoCard : Claim7 := { stood := { row := suitespecSetsUptoRow, standIns := [], harness := (true, "32f5679b8101ca2fe166f34fda2a0c4b802ea38ae5593a8d40f6dccd12581aca"), looks := false }, kinds := [], alts := [], laidByText := true, laidKinds := [.data, .pinned], laidTests := true, laidLooks := .later }
def SuitespecSetsUptoCardSaid : Prop := Claim7.holds Tryd.pinned (.plain (OpenSpec.upto suitespecSetsSpec)) suitespecSetsUptoCard
end Rows
end Go.Proofs.YtmekajmjncbhgaaDoor
