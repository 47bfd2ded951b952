/-
  DERIVED. GIVEN WITH THE SEED: THE CARDS: each row of YtkaibdnlbdjhfaaDoorRows.lean that lists a variable, with what it lists TIED to the program's text (the seventh form; the later family's looks); each row that meets fmt, with fmt's text TOLD by the authors' own Lean function (tested against real Go, not proved from fmt's source: count such statements apart). THE CARD IS WHAT COUNTS. Prove the row's statement (the work); the ties are given (YtkaibdnlbdjhfaaDoorTie.lean); close each card by the builder's one call (the guide's Derived/Test/ToyasCard.lean, 'card_holds'). Laid BY PROGRAM, IN A SANDBOX (cutbox-door.mjs). By AI agents, Wed Nov 11 2026. No macro, syntax, notation, axiom, sorry.
-/
import Derived.Test.YtkaibdnlbdjhfaaDoorRows
import GoSem.ClaimSeven
namespace Go.Proofs.YtkaibdnlbdjhfaaDoor
namespace Rows

/-- THE TIED CARD OF 'cipherplanlaw12.PackagesVersions'. -/
def packagesVersionsCard : Claim7 := { stood := { row := packagesVersionsRow, standIns := [], harness := (true, "ef6de6ee2d2874060fbad6a7487f5586ab3ba069353cf6f88157c84ae949769d"), looks := true }, kinds := [], alts := [], laidByText := true, laidKinds := [.data, .data, .data, .data, .sentinel, .sentinel, .pinned], laidTests := true, laidLooks := .later }
def PackagesVersionsCardSaid : Prop := Claim7.holds Tryd.pinned (.plain (OpenSpec.ofChange packagesVersionsSpec)) packagesVersionsCard

/-- THE TIED CARD OF 'cipherplanlaw12.PackagesOrder'. -/
def packagesOrderCard : Claim7 := { stood := { row := packagesOrderRow, standIns := [], harness := (true, "ef6de6ee2d2874060fbad6a7487f5586ab3ba069353cf6f88157c84ae949769d"), looks := true }, kinds := [], alts := [], laidByText := true, laidKinds := [.data, .data, .data, .data, .sentinel, .sentinel, .pinned], laidTests := true, laidLooks := .later }
def PackagesOrderCardSaid : Prop := Claim7.holds Tryd.pinned (.plain (OpenSpec.ofChange packagesOrderSpec)) packagesOrderCard

/-- THE SECOND FORM's CARD OF 'cipherplanlaw12.PackagesVersions'. -/
def packagesVersionsUptoCard : Claim7 := { stood := { row := packagesVersionsUptoRow, standIns := [], harness := (true, "ef6de6ee2d2874060fbad6a7487f5586ab3ba069353cf6f88157c84ae949769d"), looks := true }, kinds := [], alts := [], laidByText := true, laidKinds := [.data, .data, .data, .data, .sentinel, .sentinel, .pinned], laidTests := true, laidLooks := .later }
def PackagesVersionsUptoCardSaid : Prop := Claim7.holds Tryd.pinned (.plain (OpenSpec.upto packagesVersionsSpec)) packagesVersionsUptoCard

/-- THE SECOND FORM's CARD OF 'cipherplanlaw12.PackagesOrder'. -/
def packagesOrderUptoCard : Claim7 := { stood := { row := packagesOrderUptoRow, standIns := [], harness := (true, "ef6de6ee2d2874060fbad6a7487f5586ab3ba069353cf6f88157c84ae949769d"), looks := true }, kinds := [], alts := [], laidByText := true, laidKinds := [.data, .data, .data, .data, .sentinel, .sentinel, .pinned], laidTests := true, laidLooks := .later }
def PackagesOrderUptoCardSaid : Prop := Claim7.holds Tryd.pinned (.plain (OpenSpec.upto packagesOrderSpec)) packagesOrderUptoCard
end Rows
end Go.Proofs.YtkaibdnlbdjhfaaDoor
