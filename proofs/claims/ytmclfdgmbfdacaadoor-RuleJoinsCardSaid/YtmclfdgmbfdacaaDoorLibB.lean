/- strings.Builder at the rules' seat. -/
import Derived.Test.YtmclfdgmbfdacaaDoorLib
import Derived.Test.YtmclfdgmbfdacaaDoorBld
import Derived.Test.YtmclfdgmbfdacaaDoorShelfB
import Derived.Test.YtmclfdgmbfdacaaDoorRe
import Derived.KernelRfl
set_option linter.unusedVariables false
set_option linter.unusedSimpArgs false
section
namespace Go.Proofs.YtmclfdgmbfdacaaDoor
open Go Av Go.RowKit
set_option maxRecDepth 100000
theorem own49 : Own Tryd.prog 49 := ⟨Tryd.f49, Tryd.func49, by decide, _, rfl⟩
theorem own28 : Own Tryd.prog 28 := ⟨Tryd.f28, Tryd.func28, by decide, _, rfl⟩
theorem bld57 : bldT Tryd.prog = 57 := by kernel_rfl
theorem byt5 : bytT Tryd.prog = 5 := by kernel_rfl
theorem E_strings_Builder__copyCheck (W : World) (_hW : WOK W) : CE_strings_Builder__copyCheck (envW Tryd.prog W) 49 :=
  ⟨bcf_of (ρ := Tryd.lays240_ren) Tryd.lays240 Tryd.Builder_X72_240 bld57 own49, fun l => bcu_of (ρ := Tryd.lays240_ren) Tryd.lays240 Tryd.Builder_X72_240 own49 l⟩
theorem E_strings_Builder__String (W : World) (_hW : WOK W) : CE_strings_Builder__String (envW Tryd.prog W) 28 :=
  ⟨bsf_of (ρ := Tryd.lays169_ren) Tryd.lays169 Tryd.Builder_Extra_169 bld57 own28, fun l h0 hn => bsu_of (ρ := Tryd.lays169_ren) Tryd.lays169 Tryd.Builder_Extra_169 bld57 byt5 own28 l h0 hn⟩
end Go.Proofs.YtmclfdgmbfdacaaDoor
end
