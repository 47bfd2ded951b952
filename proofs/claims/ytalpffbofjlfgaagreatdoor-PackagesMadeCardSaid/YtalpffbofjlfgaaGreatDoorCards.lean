/-
  DERIVED. GIVEN WITH THE SEED: THE CARDS: each row of YtalpffbofjlfgaaGreatDoorRows.lean that lists a variable, with what it lists TIED to the program's text (the seventh form; the later family's looks); each row that meets fmt, with fmt's text TOLD by the authors' own Lean function (tested against real Go, not proved from fmt's source: count such statements apart). THE CARD IS WHAT COUNTS. Prove the row's statement (the work); the ties are given (YtalpffbofjlfgaaGreatDoorTie.lean); close each card by the builder's one call (the guide's Derived/Test/ToyasCard.lean, 'card_holds'). Laid BY PROGRAM, IN A SANDBOX (cutbox-door.mjs). By AI agents, Wed Nov 11 2026. No macro, syntax, notation, axiom, sorry.
-/
import Derived.Test.YtalpffbofjlfgaaGreatDoorRows
import GoSem.ClaimSeven
namespace Go.Proofs.YtalpffbofjlfgaaGreatDoor
namespace Rows

/-- THE TIED CARD OF 'cipherplanlaw12.PackagesReach'. -/
def packagesReachCard : Claim7 := { stood := { row := packagesReachRow, standIns := [], harness := (true, "8753e5862a72c8e58a9171d5e55daea90b8f6699036fd0dc6fea06a5c6ec0ad2"), looks := true }, kinds := [], alts := [], laidByText := true, laidKinds := [.data, .data, .data, .data, .sentinel, .sentinel, .pinned], laidTests := true, laidLooks := .later }
def PackagesReachCardSaid : Prop := Claim7.holds Tryz.pinned (.plain (OpenSpec.ofChange packagesReachSpec)) packagesReachCard

/-- THE TIED CARD OF 'cipherplanlaw12.PackagesMade'. -/
def packagesMadeCard : Claim7 := { stood := { row := packagesMadeRow, standIns := [], harness := (true, "8753e5862a72c8e58a9171d5e55daea90b8f6699036fd0dc6fea06a5c6ec0ad2"), looks := true }, kinds := [], alts := [], laidByText := true, laidKinds := [.data, .data, .data, .data, .sentinel, .sentinel, .pinned], laidTests := true, laidLooks := .later }
def PackagesMadeCardSaid : Prop := Claim7.holds Tryz.pinned (.plain (OpenSpec.ofChange packagesMadeSpec)) packagesMadeCard

/-- THE SECOND FORM's CARD OF 'cipherplanlaw12.PackagesReach'. -/
def packagesReachUptoCard : Claim7 := { stood := { row := packagesReachUptoRow, standIns := [], harness := (true, "8753e5862a72c8e58a9171d5e55daea90b8f6699036fd0dc6fea06a5c6ec0ad2"), looks := true }, kinds := [], alts := [], laidByText := true, laidKinds := [.data, .data, .data, .data, .sentinel, .sentinel, .pinned], laidTests := true, laidLooks := .later }
def PackagesReachUptoCardSaid : Prop := Claim7.holds Tryz.pinned (.plain (OpenSpec.upto packagesReachSpec)) packagesReachUptoCard

/-- THE SECOND FORM's CARD OF 'cipherplanlaw12.PackagesMade'. -/
def packagesMadeUptoCard : Claim7 := { stood := { row := packagesMadeUptoRow, standIns := [], harness := (true, "8753e5862a72c8e58a9171d5e55daea90b8f6699036fd0dc6fea06a5c6ec0ad2"), looks := true }, kinds := [], alts := [], laidByText := true, laidKinds := [.data, .data, .data, .data, .sentinel, .sentinel, .pinned], laidTests := true, laidLooks := .later }
def PackagesMadeUptoCardSaid : Prop := Claim7.holds Tryz.pinned (.plain (OpenSpec.upto packagesMadeSpec)) packagesMadeUptoCard
end Rows
end Go.Proofs.YtalpffbofjlfgaaGreatDoor
