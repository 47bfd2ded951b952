/- Tab -/
import Derived.Test.YtmclfdgmbfdacaaGreatDoorPars
set_option linter.unusedVariables false
set_option linter.unusedSimpArgs false
section
set_option linter.unusedSimpArgs false
set_option linter.unusedVariables false
set_option maxRecDepth 10000
set_option maxHeartbeats 4000000
namespace Av
open Go
attribute [local irreducible] AWp XV WG WJ awS awC VK awQ V4 Jq Xf VH awR Xk awB okR XT ris
def ag4 : KI := ⟨0, [], 0, 0, 0, 0, 0, 0, 0, 0, 0, 0⟩
def afa (c : Int) : KI := if 1 ≤ c ∧ c ≤ 16 then xz.getD (c - 1).toNat ag4 else ag4
end Av
end
section
set_option linter.unusedSimpArgs false
set_option linter.unusedVariables false
set_option maxRecDepth 10000
set_option maxHeartbeats 4000000
namespace Av
open Go
attribute [local irreducible] AWp XV WG WJ awS awC VK awQ V4 Jq Xf VH awR Xk awB okR XT ris
def ada {α : Type} (p : α → Bool) : Nat → List α → Int
  | _, [] => -1
  | k, x :: r => if p x = true then k else ada p (k + 1) r
def ajl (n : List UInt8) : Int := ada (fun s : KI => s.name == n) 0 xz + 1
end Av
end
