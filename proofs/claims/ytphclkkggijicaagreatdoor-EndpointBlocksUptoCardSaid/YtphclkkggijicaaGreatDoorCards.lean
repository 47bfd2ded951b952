/-
  DERIVED. GIVEN WITH THE SEED: THE CARDS: each row of YtphclkkggijicaaGreatDoorRows.lean that lists a variable, with what it lists TIED to the program's text (the seventh form; the later family's looks); each row that meets fmt, with fmt's text TOLD by the authors' own Lean function (tested against real Go, not proved from fmt's source: count such statements apart). THE CARD IS WHAT COUNTS. Prove the row's statement (the work); the ties are given (YtphclkkggijicaaGreatDoorTie.lean); close each card by the builder's one call (the guide's Derived/Test/ToyasCard.lean, 'card_holds'). Laid BY PROGRAM, IN A SANDBOX (cutbox-door.mjs). By AI agents, Wed Nov 11 2026. No macro, syntax, notation, axiom, sorry.
-/
import Derived.Test.YtphclkkggijicaaGreatDoorRows
import GoSem.ClaimSeven
namespace Go.Proofs.YtphclkkggijicaaGreatDoor
namespace Rows

/-- THE TIED CARD OF 'cipherplanlaw09.EndpointSettings'. -/
def endpointSettingsCard : Claim7 := { stood := { row := endpointSettingsRow, standIns := [], harness := (true, "8637a9dba78b3d7e8e00d2e393a0fe64c05a2819328cabc8039f142139f354e9"), looks := true }, kinds := [], alts := [], laidByText := true, laidKinds := [.data, .data, .data, .data, .sentinel, .sentinel, .pinned], laidTests := true, laidLooks := .later }
def EndpointSettingsCardSaid : Prop := Claim7.holds Tryz.pinned (.plain (OpenSpec.ofChange endpointSettingsSpec)) endpointSettingsCard

/-- THE TIED CARD OF 'cipherplanlaw09.EndpointBlocks'. -/
def endpointBlocksCard : Claim7 := { stood := { row := endpointBlocksRow, standIns := [], harness := (true, "8637a9dba78b3d7e8e00d2e393a0fe64c05a2819328cabc8039f142139f354e9"), looks := true }, kinds := [], alts := [], laidByText := true, laidKinds := [.data, .data, .data, .data, .sentinel, .sentinel, .pinned], laidTests := true, laidLooks := .later }
def EndpointBlocksCardSaid : Prop := Claim7.holds Tryz.pinned (.plain (OpenSpec.ofChange endpointBlocksSpec)) endpointBlocksCard

/-- THE TIED CARD OF 'cipherplanlaw09.EndpointBack'. -/
def endpointBackCard : Claim7 := { stood := { row := endpointBackRow, standIns := [], harness := (true, "8637a9dba78b3d7e8e00d2e393a0fe64c05a2819328cabc8039f142139f354e9"), looks := true }, kinds := [], alts := [], laidByText := true, laidKinds := [.data, .data, .data, .data, .sentinel, .sentinel, .pinned], laidTests := true, laidLooks := .later }
def EndpointBackCardSaid : Prop := Claim7.holds Tryz.pinned (.plain (OpenSpec.ofChange endpointBackSpec)) endpointBackCard

/-- THE SECOND FORM's CARD OF 'cipherplanlaw09.EndpointSettings'. -/
def endpointSettingsUptoCard : Claim7 := { stood := { row := endpointSettingsUptoRow, standIns := [], harness := (true, "8637a9dba78b3d7e8e00d2e393a0fe64c05a2819328cabc8039f142139f354e9"), looks := true }, kinds := [], alts := [], laidByText := true, laidKinds := [.data, .data, .data, .data, .sentinel, .sentinel, .pinned], laidTests := true, laidLooks := .later }
def EndpointSettingsUptoCardSaid : Prop := Claim7.holds Tryz.pinned (.plain (OpenSpec.upto endpointSettingsSpec)) endpointSettingsUptoCard

/-- THE SECOND FORM's CARD OF 'cipherplanlaw09.EndpointBlocks'. -/
def endpointBlocksUptoCard : Claim7 := { stood := { row := endpointBlocksUptoRow, standIns := [], harness := (true, "8637a9dba78b3d7e8e00d2e393a0fe64c05a2819328cabc8039f142139f354e9"), looks := true }, kinds := [], alts := [], laidByText := true, laidKinds := [.data, .data, .data, .data, .sentinel, .sentinel, .pinned], laidTests := true, laidLooks := .later }
def EndpointBlocksUptoCardSaid : Prop := Claim7.holds Tryz.pinned (.plain (OpenSpec.upto endpointBlocksSpec)) endpointBlocksUptoCard

/-- THE SECOND FORM's CARD OF 'cipherplanlaw09.EndpointBack'. -/
def endpointBackUptoCard : Claim7 := { stood := { row := endpointBackUptoRow, standIns := [], harness := (true, "8637a9dba78b3d7e8e00d2e393a0fe64c05a2819328cabc8039f142139f354e9"), looks := true }, kinds := [], alts := [], laidByText := true, laidKinds := [.data, .data, .data, .data, .sentinel, .sentinel, .pinned], laidTests := true, laidLooks := .later }
def EndpointBackUptoCardSaid : Prop := Claim7.holds Tryz.pinned (.plain (OpenSpec.upto endpointBackSpec)) endpointBackUptoCard
end Rows
end Go.Proofs.YtphclkkggijicaaGreatDoor
