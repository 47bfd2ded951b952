/-
  DERIVED. GIVEN WITH THE SEED: THE CARDS: each row of YtjobognfgjobfaaGreatDoorRows.lean that lists a variable, with what it lists TIED to the program's text (the seventh form; the later family's looks); each row that meets fmt, with fmt's text TOLD by the authors' own Lean function (tested against real Go, not proved from fmt's source: count such statements apart). THE CARD IS WHAT COUNTS. Prove the row's statement (the work); the ties are given (YtjobognfgjobfaaGreatDoorTie.lean); close each card by the builder's one call (the guide's Derived/Test/ToyasCard.lean, 'card_holds'). Laid BY PROGRAM, IN A SANDBOX (cutbox-door.mjs). By AI agents, Wed Nov 11 2026. No macro, syntax, notation, axiom, sorry.
-/
import Derived.Test.YtjobognfgjobfaaGreatDoorRows
import GoSem.ClaimSeven
namespace Go.Proofs.YtjobognfgjobfaaGreatDoor
namespace Rows

/-- THE TIED CARD OF 'cipherplantop.TopExplains'. -/
def topExplainsCard : Claim7 := { stood := { row := topExplainsRow, standIns := [], harness := (true, "36212147ad4672a5a671bb89788508ea39fc888fbda131cd9a4bef1f90bd5f92"), looks := true }, kinds := [], alts := [], laidByText := true, laidKinds := [.data, .data, .data, .data, .sentinel, .sentinel, .pinned], laidTests := true, laidLooks := .later }
def TopExplainsCardSaid : Prop := Claim7.holds Tryz.pinned (.plain (OpenSpec.ofChange topExplainsSpec)) topExplainsCard

/-- THE SECOND FORM's CARD OF 'cipherplantop.TopExplains'. -/
def topExplainsUptoCard : Claim7 := { stood := { row := topExplainsUptoRow, standIns := [], harness := (true, "36212147ad4672a5a671bb89788508ea39fc888fbda131cd9a4bef1f90bd5f92"), looks := true }, kinds := [], alts := [], laidByText := true, laidKinds := [.data, .data, .data, .data, .sentinel, .sentinel, .pinned], laidTests := true, laidLooks := .later }
def TopExplainsUptoCardSaid : Prop := Claim7.holds Tryz.pinned (.plain (OpenSpec.upto topExplainsSpec)) topExplainsUptoCard
end Rows
end Go.Proofs.YtjobognfgjobfaaGreatDoor
