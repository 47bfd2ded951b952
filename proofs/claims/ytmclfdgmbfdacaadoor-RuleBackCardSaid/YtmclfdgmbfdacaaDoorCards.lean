/-
  DERIVED. GIVEN WITH THE SEED: THE CARDS: each row of YtmclfdgmbfdacaaDoorRows.lean that lists a variable, with what it lists TIED to the program's text (the seventh form; the later family's looks); each row that meets fmt, with fmt's text TOLD by the authors' own Lean function (tested against real Go, not proved from fmt's source: count such statements apart). THE CARD IS WHAT COUNTS. Prove the row's statement (the work); the ties are given (YtmclfdgmbfdacaaDoorTie.lean); close each card by the builder's one call (the guide's Derived/Test/ToyasCard.lean, 'card_holds'). Laid BY PROGRAM, IN A SANDBOX (cutbox-door.mjs). By AI agents, Wed Nov 11 2026. No macro, syntax, notation, axiom, sorry.
-/
import Derived.Test.YtmclfdgmbfdacaaDoorRows
import GoSem.ClaimSeven
namespace Go.Proofs.YtmclfdgmbfdacaaDoor
namespace Rows

/-- THE TIED CARD OF 'cipherplanlaw17.RuleTexts'. -/
def ruleTextsCard : Claim7 := { stood := { row := ruleTextsRow, standIns := [], harness := (true, "ce0fd0949d49f68fdfc50b860ebdf434a47cea6cddde52524e2a0a3551c5fa0a"), looks := true }, kinds := [], alts := [], laidByText := true, laidKinds := [.data, .data, .data, .data, .sentinel, .sentinel, .pinned], laidTests := true, laidLooks := .later }
def RuleTextsCardSaid : Prop := Claim7.holds Tryd.pinned (.plain (OpenSpec.ofChange ruleTextsSpec)) ruleTextsCard

/-- THE TIED CARD OF 'cipherplanlaw17.RuleLong'. -/
def ruleLongCard : Claim7 := { stood := { row := ruleLongRow, standIns := [], harness := (true, "ce0fd0949d49f68fdfc50b860ebdf434a47cea6cddde52524e2a0a3551c5fa0a"), looks := true }, kinds := [], alts := [], laidByText := true, laidKinds := [.data, .data, .data, .data, .sentinel, .sentinel, .pinned], laidTests := true, laidLooks := .later }
def RuleLongCardSaid : Prop := Claim7.holds Tryd.pinned (.plain (OpenSpec.ofChange ruleLongSpec)) ruleLongCard

/-- THE TIED CARD OF 'cipherplanlaw17.RuleBack'. -/
def ruleBackCard : Claim7 := { stood := { row := ruleBackRow, standIns := [], harness := (true, "ce0fd0949d49f68fdfc50b860ebdf434a47cea6cddde52524e2a0a3551c5fa0a"), looks := true }, kinds := [], alts := [], laidByText := true, laidKinds := [.data, .data, .data, .data, .sentinel, .sentinel, .pinned], laidTests := true, laidLooks := .later }
def RuleBackCardSaid : Prop := Claim7.holds Tryd.pinned (.plain (OpenSpec.ofChange ruleBackSpec)) ruleBackCard

/-- THE TIED CARD OF 'cipherplanlaw17.RuleJoins'. -/
def ruleJoinsCard : Claim7 := { stood := { row := ruleJoinsRow, standIns := [], harness := (true, "ce0fd0949d49f68fdfc50b860ebdf434a47cea6cddde52524e2a0a3551c5fa0a"), looks := true }, kinds := [], alts := [], laidByText := true, laidKinds := [.data, .data, .data, .data, .sentinel, .sentinel, .pinned], laidTests := true, laidLooks := .later }
def RuleJoinsCardSaid : Prop := Claim7.holds Tryd.pinned (.plain (OpenSpec.ofChange ruleJoinsSpec)) ruleJoinsCard

/-- THE SECOND FORM's CARD OF 'cipherplanlaw17.RuleTexts'. -/
def ruleTextsUptoCard : Claim7 := { stood := { row := ruleTextsUptoRow, standIns := [], harness := (true, "ce0fd0949d49f68fdfc50b860ebdf434a47cea6cddde52524e2a0a3551c5fa0a"), looks := true }, kinds := [], alts := [], laidByText := true, laidKinds := [.data, .data, .data, .data, .sentinel, .sentinel, .pinned], laidTests := true, laidLooks := .later }
def RuleTextsUptoCardSaid : Prop := Claim7.holds Tryd.pinned (.plain (OpenSpec.upto ruleTextsSpec)) ruleTextsUptoCard

/-- THE SECOND FORM's CARD OF 'cipherplanlaw17.RuleLong'. -/
def ruleLongUptoCard : Claim7 := { stood := { row := ruleLongUptoRow, standIns := [], harness := (true, "ce0fd0949d49f68fdfc50b860ebdf434a47cea6cddde52524e2a0a3551c5fa0a"), looks := true }, kinds := [], alts := [], laidByText := true, laidKinds := [.data, .data, .data, .data, .sentinel, .sentinel, .pinned], laidTests := true, laidLooks := .later }
def RuleLongUptoCardSaid : Prop := Claim7.holds Tryd.pinned (.plain (OpenSpec.upto ruleLongSpec)) ruleLongUptoCard

/-- THE SECOND FORM's CARD OF 'cipherplanlaw17.RuleBack'. -/
def ruleBackUptoCard : Claim7 := { stood := { row := ruleBackUptoRow, standIns := [], harness := (true, "ce0fd0949d49f68fdfc50b860ebdf434a47cea6cddde52524e2a0a3551c5fa0a"), looks := true }, kinds := [], alts := [], laidByText := true, laidKinds := [.data, .data, .data, .data, .sentinel, .sentinel, .pinned], laidTests := true, laidLooks := .later }
def RuleBackUptoCardSaid : Prop := Claim7.holds Tryd.pinned (.plain (OpenSpec.upto ruleBackSpec)) ruleBackUptoCard

/-- THE SECOND FORM's CARD OF 'cipherplanlaw17.RuleJoins'. -/
def ruleJoinsUptoCard : Claim7 := { stood := { row := ruleJoinsUptoRow, standIns := [], harness := (true, "ce0fd0949d49f68fdfc50b860ebdf434a47cea6cddde52524e2a0a3551c5fa0a"), looks := true }, kinds := [], alts := [], laidByText := true, laidKinds := [.data, .data, .data, .data, .sentinel, .sentinel, .pinned], laidTests := true, laidLooks := .later }
def RuleJoinsUptoCardSaid : Prop := Claim7.holds Tryd.pinned (.plain (OpenSpec.upto ruleJoinsSpec)) ruleJoinsUptoCard
end Rows
end Go.Proofs.YtmclfdgmbfdacaaDoor
