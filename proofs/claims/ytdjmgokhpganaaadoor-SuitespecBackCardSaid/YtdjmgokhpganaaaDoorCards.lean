/-
  DERIVED. GIVEN WITH THE SEED: THE CARDS: each row of YtdjmgokhpganaaaDoorRows.lean that lists a variable, with what it lists TIED to the program's text (the seventh form; the later family's looks); each row that meets fmt, with fmt's text TOLD by the authors' own Lean function (tested against real Go, not proved from fmt's source: count such statements apart). THE CARD IS WHAT COUNTS. Prove the row's statement (the work); the ties are given (YtdjmgokhpganaaaDoorTie.lean); close each card by the builder's one call (the guide's Derived/Test/ToyasCard.lean, 'card_holds'). Laid BY PROGRAM, IN A SANDBOX (cutbox-door.mjs). By AI agents, Wed Nov 11 2026. No macro, syntax, notation, axiom, sorry.
-/
import Derived.Test.YtdjmgokhpganaaaDoorRows
import GoSem.ClaimSeven
namespace Go.Proofs.YtdjmgokhpganaaaDoor
namespace Rows

/-- THE TIED CARD OF 'cipherplanlaw08.SuitespecTexts'. -/
def suitespecTextsCard : Claim7 := { stood := { row := suitespecTextsRow, standIns := [], harness := (true, "89777e4cd8e7b23e94fe87244865969eb1081972b1796485f89b3715c7b38b7d"), looks := true }, kinds := [], alts := [], laidByText := true, laidKinds := [.data, .pinned], laidTests := true, laidLooks := .later }
def SuitespecTextsCardSaid : Prop := Claim7.holds Tryd.pinned (.plain (OpenSpec.ofChange suitespecTextsSpec)) suitespecTextsCard

/-- THE TIED CARD OF 'cipherplanlaw08.SuitespecLong'. -/
def suitespecLongCard : Claim7 := { stood := { row := suitespecLongRow, standIns := [], harness := (true, "89777e4cd8e7b23e94fe87244865969eb1081972b1796485f89b3715c7b38b7d"), looks := true }, kinds := [], alts := [], laidByText := true, laidKinds := [.data, .pinned], laidTests := true, laidLooks := .later }
def SuitespecLongCardSaid : Prop := Claim7.holds Tryd.pinned (.plain (OpenSpec.ofChange suitespecLongSpec)) suitespecLongCard

/-- THE TIED CARD OF 'cipherplanlaw08.SuitespecKills'. -/
def suitespecKillsCard : Claim7 := { stood := { row := suitespecKillsRow, standIns := [], harness := (true, "89777e4cd8e7b23e94fe87244865969eb1081972b1796485f89b3715c7b38b7d"), looks := true }, kinds := [], alts := [], laidByText := true, laidKinds := [.data, .pinned], laidTests := true, laidLooks := .later }
def SuitespecKillsCardSaid : Prop := Claim7.holds Tryd.pinned (.plain (OpenSpec.ofChange suitespecKillsSpec)) suitespecKillsCard

/-- THE TIED CARD OF 'cipherplanlaw08.SuitespecMoves'. -/
def suitespecMovesCard : Claim7 := { stood := { row := suitespecMovesRow, standIns := [], harness := (true, "89777e4cd8e7b23e94fe87244865969eb1081972b1796485f89b3715c7b38b7d"), looks := true }, kinds := [], alts := [], laidByText := true, laidKinds := [.data, .pinned], laidTests := true, laidLooks := .later }
def SuitespecMovesCardSaid : Prop := Claim7.holds Tryd.pinned (.plain (OpenSpec.ofChange suitespecMovesSpec)) suitespecMovesCard

/-- THE TIED CARD OF 'cipherplanlaw08.SuitespecSets'. -/
def suitespecSetsCard : Claim7 := { stood := { row := suitespecSetsRow, standIns := [], harness := (true, "89777e4cd8e7b23e94fe87244865969eb1081972b1796485f89b3715c7b38b7d"), looks := true }, kinds := [], alts := [], laidByText := true, laidKinds := [.data, .pinned], laidTests := true, laidLooks := .later }
def SuitespecSetsCardSaid : Prop := Claim7.holds Tryd.pinned (.plain (OpenSpec.ofChange suitespecSetsSpec)) suitespecSetsCard

/-- THE TIED CARD OF 'cipherplanlaw08.SuitespecBack'. -/
def suitespecBackCard : Claim7 := { stood := { row := suitespecBackRow, standIns := [], harness := (true, "89777e4cd8e7b23e94fe87244865969eb1081972b1796485f89b3715c7b38b7d"), looks := true }, kinds := [], alts := [], laidByText := true, laidKinds := [.data, .pinned], laidTests := true, laidLooks := .later }
def SuitespecBackCardSaid : Prop := Claim7.holds Tryd.pinned (.plain (OpenSpec.ofChange suitespecBackSpec)) suitespecBackCard

/-- THE TIED CARD OF 'cipherplanlaw02.CatalogTexts'. -/
def catalogTextsCard : Claim7 := { stood := { row := catalogTextsRow, standIns := [], harness := (true, "89777e4cd8e7b23e94fe87244865969eb1081972b1796485f89b3715c7b38b7d"), looks := true }, kinds := [], alts := [], laidByText := true, laidKinds := [.data, .data, .data, .sentinel, .sentinel], laidTests := true, laidLooks := .later }
def CatalogTextsCardSaid : Prop := Claim7.holds Tryd.pinned (.plain (OpenSpec.ofChange catalogTextsSpec)) catalogTextsCard

/-- THE TIED CARD OF 'cipherplanlaw02.CatalogGrows'. -/
def catalogGrowsCard : Claim7 := { stood := { row := catalogGrowsRow, standIns := [], harness := (true, "89777e4cd8e7b23e94fe87244865969eb1081972b1796485f89b3715c7b38b7d"), looks := true }, kinds := [], alts := [], laidByText := true, laidKinds := [.data, .data, .data, .sentinel, .sentinel], laidTests := true, laidLooks := .later }
def CatalogGrowsCardSaid : Prop := Claim7.holds Tryd.pinned (.plain (OpenSpec.ofChange catalogGrowsSpec)) catalogGrowsCard

/-- THE TIED CARD OF 'cipherplanlaw02.CatalogTable'. -/
def catalogTableCard : Claim7 := { stood := { row := catalogTableRow, standIns := [], harness := (true, "89777e4cd8e7b23e94fe87244865969eb1081972b1796485f89b3715c7b38b7d"), looks := true }, kinds := [], alts := [], laidByText := true, laidKinds := [.data, .data, .data, .sentinel, .sentinel], laidTests := true, laidLooks := .later }
def CatalogTableCardSaid : Prop := Claim7.holds Tryd.pinned (.plain (OpenSpec.ofChange catalogTableSpec)) catalogTableCard

/-- THE TIED CARD OF 'cipherplanlaw02.CatalogRaw'. -/
def catalogRawCard : Claim7 := { stood := { row := catalogRawRow, standIns := [], harness := (true, "89777e4cd8e7b23e94fe87244865969eb1081972b1796485f89b3715c7b38b7d"), looks := true }, kinds := [], alts := [], laidByText := true, laidKinds := [.data, .data, .data, .sentinel, .sentinel], laidTests := true, laidLooks := .later }
def CatalogRawCardSaid : Prop := Claim7.holds Tryd.pinned (.plain (OpenSpec.ofChange catalogRawSpec)) catalogRawCard

/-- THE TIED CARD OF 'cipherplanlaw02.CatalogBack'. -/
def catalogBackCard : Claim7 := { stood := { row := catalogBackRow, standIns := [], harness := (true, "89777e4cd8e7b23e94fe87244865969eb1081972b1796485f89b3715c7b38b7d"), looks := true }, kinds := [], alts := [], laidByText := true, laidKinds := [.data, .data, .data, .sentinel, .sentinel], laidTests := true, laidLooks := .later }
def CatalogBackCardSaid : Prop := Claim7.holds Tryd.pinned (.plain (OpenSpec.ofChange catalogBackSpec)) catalogBackCard

/-- THE SECOND FORM's CARD OF 'cipherplanlaw08.SuitespecTexts'. -/
def suitespecTextsUptoCard : Claim7 := { stood := { row := suitespecTextsUptoRow, standIns := [], harness := (true, "89777e4cd8e7b23e94fe87244865969eb1081972b1796485f89b3715c7b38b7d"), looks := true }, kinds := [], alts := [], laidByText := true, laidKinds := [.data, .pinned], laidTests := true, laidLooks := .later }
def SuitespecTextsUptoCardSaid : Prop := Claim7.holds Tryd.pinned (.plain (OpenSpec.upto suitespecTextsSpec)) suitespecTextsUptoCard

/-- THE SECOND FORM's CARD OF 'cipherplanlaw08.SuitespecLong'. -/
def suitespecLongUptoCard : Claim7 := { stood := { row := suitespecLongUptoRow, standIns := [], harness := (true, "89777e4cd8e7b23e94fe87244865969eb1081972b1796485f89b3715c7b38b7d"), looks := true }, kinds := [], alts := [], laidByText := true, laidKinds := [.data, .pinned], laidTests := true, laidLooks := .later }
def SuitespecLongUptoCardSaid : Prop := Claim7.holds Tryd.pinned (.plain (OpenSpec.upto suitespecLongSpec)) suitespecLongUptoCard

/-- THE SECOND FORM's CARD OF 'cipherplanlaw08.SuitespecKills'. -/
def suitespecKillsUptoCard : Claim7 := { stood := { row := suitespecKillsUptoRow, standIns := [], harness := (true, "89777e4cd8e7b23e94fe87244865969eb1081972b1796485f89b3715c7b38b7d"), looks := true }, kinds := [], alts := [], laidByText := true, laidKinds := [.data, .pinned], laidTests := true, laidLooks := .later }
def SuitespecKillsUptoCardSaid : Prop := Claim7.holds Tryd.pinned (.plain (OpenSpec.upto suitespecKillsSpec)) suitespecKillsUptoCard

/-- THE SECOND FORM's CARD OF 'cipherplanlaw08.SuitespecMoves'. -/
def suitespecMovesUptoCard : Claim7 := { stood := { row := suitespecMovesUptoRow, standIns := [], harness := (true, "89777e4cd8e7b23e94fe87244865969eb1081972b1796485f89b3715c7b38b7d"), looks := true }, kinds := [], alts := [], laidByText := true, laidKinds := [.data, .pinned], laidTests := true, laidLooks := .later }
def SuitespecMovesUptoCardSaid : Prop := Claim7.holds Tryd.pinned (.plain (OpenSpec.upto suitespecMovesSpec)) suitespecMovesUptoCard

/-- THE SECOND FORM's CARD OF 'cipherplanlaw08.SuitespecSets'. -/
def suitespecSetsUptoCard : Claim7 := { stood := { row := suitespecSetsUptoRow, standIns := [], harness := (true, "89777e4cd8e7b23e94fe87244865969eb1081972b1796485f89b3715c7b38b7d"), looks := true }, kinds := [], alts := [], laidByText := true, laidKinds := [.data, .pinned], laidTests := true, laidLooks := .later }
def SuitespecSetsUptoCardSaid : Prop := Claim7.holds Tryd.pinned (.plain (OpenSpec.upto suitespecSetsSpec)) suitespecSetsUptoCard

/-- THE SECOND FORM's CARD OF 'cipherplanlaw08.SuitespecBack'. -/
def suitespecBackUptoCard : Claim7 := { stood := { row := suitespecBackUptoRow, standIns := [], harness := (true, "89777e4cd8e7b23e94fe87244865969eb1081972b1796485f89b3715c7b38b7d"), looks := true }, kinds := [], alts := [], laidByText := true, laidKinds := [.data, .pinned], laidTests := true, laidLooks := .later }
def SuitespecBackUptoCardSaid : Prop := Claim7.holds Tryd.pinned (.plain (OpenSpec.upto suitespecBackSpec)) suitespecBackUptoCard

/-- THE SECOND FORM's CARD OF 'cipherplanlaw02.CatalogTexts'. -/
def catalogTextsUptoCard : Claim7 := { stood := { row := catalogTextsUptoRow, standIns := [], harness := (true, "89777e4cd8e7b23e94fe87244865969eb1081972b1796485f89b3715c7b38b7d"), looks := true }, kinds := [], alts := [], laidByText := true, laidKinds := [.data, .data, .data, .sentinel, .sentinel], laidTests := true, laidLooks := .later }
def CatalogTextsUptoCardSaid : Prop := Claim7.holds Tryd.pinned (.plain (OpenSpec.upto catalogTextsSpec)) catalogTextsUptoCard

/-- THE SECOND FORM's CARD OF 'cipherplanlaw02.CatalogGrows'. -/
def catalogGrowsUptoCard : Claim7 := { stood := { row := catalogGrowsUptoRow, standIns := [], harness := (true, "89777e4cd8e7b23e94fe87244865969eb1081972b1796485f89b3715c7b38b7d"), looks := true }, kinds := [], alts := [], laidByText := true, laidKinds := [.data, .data, .data, .sentinel, .sentinel], laidTests := true, laidLooks := .later }
def CatalogGrowsUptoCardSaid : Prop := Claim7.holds Tryd.pinned (.plain (OpenSpec.upto catalogGrowsSpec)) catalogGrowsUptoCard

/-- THE SECOND FORM's CARD OF 'cipherplanlaw02.CatalogTable'. -/
def catalogTableUptoCard : Claim7 := { stood := { row := catalogTableUptoRow, standIns := [], harness := (true, "89777e4cd8e7b23e94fe87244865969eb1081972b1796485f89b3715c7b38b7d"), looks := true }, kinds := [], alts := [], laidByText := true, laidKinds := [.data, .data, .data, .sentinel, .sentinel], laidTests := true, laidLooks := .later }
def CatalogTableUptoCardSaid : Prop := Claim7.holds Tryd.pinned (.plain (OpenSpec.upto catalogTableSpec)) catalogTableUptoCard

/-- THE SECOND FORM's CARD OF 'cipherplanlaw02.CatalogRaw'. -/
def catalogRawUptoCard : Claim7 := { stood := { row := catalogRawUptoRow, standIns := [], harness := (true, "89777e4cd8e7b23e94fe87244865969eb1081972b1796485f89b3715c7b38b7d"), looks := true }, kinds := [], alts := [], laidByText := true, laidKinds := [.data, .data, .data, .sentinel, .sentinel], laidTests := true, laidLooks := .later }
def CatalogRawUptoCardSaid : Prop := Claim7.holds Tryd.pinned (.plain (OpenSpec.upto catalogRawSpec)) catalogRawUptoCard

/-- THE SECOND FORM's CARD OF 'cipherplanlaw02.CatalogBack'. -/
def catalogBackUptoCard : Claim7 := { stood := { row := catalogBackUptoRow, standIns := [], harness := (true, "89777e4cd8e7b23e94fe87244865969eb1081972b1796485f89b3715c7b38b7d"), looks := true }, kinds := [], alts := [], laidByText := true, laidKinds := [.data, .data, .data, .sentinel, .sentinel], laidTests := true, laidLooks := .later }
def CatalogBackUptoCardSaid : Prop := Claim7.holds Tryd.pinned (.plain (OpenSpec.upto catalogBackSpec)) catalogBackUptoCard
end Rows
end Go.Proofs.YtdjmgokhpganaaaDoor
