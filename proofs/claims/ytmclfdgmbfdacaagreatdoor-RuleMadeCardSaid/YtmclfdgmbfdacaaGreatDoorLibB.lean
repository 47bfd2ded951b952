/- strings.Builder at the rules' seat. -/
import Derived.Test.YtmclfdgmbfdacaaGreatDoorLib
import Derived.Test.YtmclfdgmbfdacaaGreatDoorBld
import Derived.Test.YtmclfdgmbfdacaaGreatDoorShelfB
import Derived.Test.YtmclfdgmbfdacaaGreatDoorRe
import Derived.KernelRfl
set_option linter.unusedVariables false
set_option linter.unusedSimpArgs false
section
namespace Go.Proofs.YtmclfdgmbfdacaaGreatDoor
open Go Av Go.RowKit
set_option maxRecDepth 100000
theorem aio : Own Tryz.prog 44 := ⟨Tryz.f44, Tryz.func44, by decide, _, rfl⟩
theorem aip : Own Tryz.prog 26 := ⟨Tryz.f26, Tryz.func26, by decide, _, rfl⟩
theorem ahZ : ahp Tryz.prog = 56 := by kernel_rfl
theorem ajI : aiJ Tryz.prog = 5 := by kernel_rfl
theorem Kk (W : World) (_hW : WOK W) : Wu (Xn Tryz.prog W) 44 :=
  ⟨aiO (ρ := Tryz.lays240_ren) Tryz.lays240 Tryz.Builder_X72_240 ahZ aio, fun l => aiN (ρ := Tryz.lays240_ren) Tryz.lays240 Tryz.Builder_X72_240 aio l⟩
theorem qC (W : World) (_hW : WOK W) : W8 (Xn Tryz.prog W) 26 :=
  ⟨aiL (ρ := Tryz.lays169_ren) Tryz.lays169 Tryz.Builder_Extra_169 ahZ aip, fun l h0 hn => aiK (ρ := Tryz.lays169_ren) Tryz.lays169 Tryz.Builder_Extra_169 ahZ ajI aip l h0 hn⟩
end Go.Proofs.YtmclfdgmbfdacaaGreatDoor
end
