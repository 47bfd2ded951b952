/- Sc -/
import Derived.Test.YtmclfdgmbfdacaaGreatDoorSb
set_option linter.unusedVariables false
set_option linter.unusedSimpArgs false
section
set_option linter.unusedSimpArgs false
set_option linter.unusedVariables false
set_option maxRecDepth 10000
set_option maxHeartbeats 4000000
namespace Av
open Go
attribute [local irreducible] AWp XV WG WJ awS awC VK awQ V4 Jq Xf VH awR Xk awB okR XT ris
def Kc (Γ : Env) (f : Nat) : Prop := ∀ (s : List UInt8) (c : UInt8) (hs : s.length < 4294967281), EvC Γ f [V.str s, V.str [c]] (.sl 1 ((Y8 c s).map V.str))
def jR (Γ : Env) (f : Nat) : Prop := ∀ (s : List UInt8) (c : UInt8) (hs : s.length < 4294967281), EvN Γ f [V.str s, V.str [c]] (V.int ((((Y8 c s).length - 1 : Nat)) : Int))
end Av
end
section
set_option linter.unusedSimpArgs false
set_option linter.unusedVariables false
set_option maxRecDepth 10000
set_option maxHeartbeats 4000000
namespace Av
open Go
attribute [local irreducible] AWp XV WG WJ awS awC VK awQ V4 Jq Xf VH awR Xk awB okR XT ris
end Av
end
section
set_option linter.unusedSimpArgs false
set_option linter.unusedVariables false
set_option maxRecDepth 10000
set_option maxHeartbeats 4000000
namespace Av
open Go
attribute [local irreducible] AWp XV WG WJ awS awC VK awQ V4 Jq Xf VH awR Xk awB okR XT ris
end Av
end
section
set_option linter.unusedSimpArgs false
set_option linter.unusedVariables false
set_option maxRecDepth 10000
set_option maxHeartbeats 4000000
namespace Av
open Go
attribute [local irreducible] AWp XV WG WJ awS awC VK awQ V4 Jq Xf VH awR Xk awB okR XT ris
end Av
end
section
set_option linter.unusedSimpArgs false
set_option linter.unusedVariables false
set_option maxRecDepth 10000
set_option maxHeartbeats 4000000
namespace Av
open Go
attribute [local irreducible] AWp XV WG WJ awS awC VK awQ V4 Jq Xf VH awR Xk awB okR XT ris
end Av
end
