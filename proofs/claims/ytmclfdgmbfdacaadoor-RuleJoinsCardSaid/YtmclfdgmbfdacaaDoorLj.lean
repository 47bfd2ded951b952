/- The functions of the program that the law reaches: their contracts at this seat. -/
import Derived.Test.YtmclfdgmbfdacaaDoorLc
import Derived.Test.YtmclfdgmbfdacaaDoorWj
import Derived.KernelRfl
set_option linter.unusedVariables false
set_option linter.unusedSimpArgs false
section
namespace Go.Proofs.YtmclfdgmbfdacaaDoor
open Go Av Go.RowKit
set_option maxRecDepth 100000
set_option linter.unusedVariables false
theorem has_law17_RuleJoins : Has Tryd.prog 6 80 (c_law17_RuleJoins 7 8 9 15 16 17 18) r_law17_RuleJoins := ⟨Tryd.f6, _, Tryd.func6, by decide, rfl, rfl, by kernel_rfl, by kernel_rfl⟩
theorem E_law17_RuleJoins (W : World) (hW : WOK W) : CE_law17_RuleJoins (envW Tryd.prog W) 6 := ev_law17_RuleJoins (Γ := envW Tryd.prog W) has_law17_RuleJoins (E_make_Light W hW) (E_law17_awake W hW) (E_make_Roll W hW) (E_make_Policy W hW) (E_rule_Print W hW) (E_rule_Parse W hW) (E_rule_Same W hW)
end Go.Proofs.YtmclfdgmbfdacaaDoor
end
