/- Sc -/
import Derived.Test.YtmclfdgmbfdacaaDoorSb
set_option linter.unusedVariables false
set_option linter.unusedSimpArgs false
section
set_option linter.unusedSimpArgs false
set_option linter.unusedVariables false
set_option maxRecDepth 10000
set_option maxHeartbeats 4000000
namespace Av
open Go
attribute [local irreducible] AWp runO runP runG awS awC awCv awQ awRd awCallR awCvR awQR awR awRdR awB okR plan ris
def CE_strings_Split (Γ : Env) (f : Nat) : Prop := ∀ (s : List UInt8) (c : UInt8) (hs : s.length < 4294967281), EvC Γ f [V.str s, V.str [c]] (.sl 1 ((splitL c s).map V.str))
def CE_strings_Count (Γ : Env) (f : Nat) : Prop := ∀ (s : List UInt8) (c : UInt8) (hs : s.length < 4294967281), EvN Γ f [V.str s, V.str [c]] (V.int ((((splitL c s).length - 1 : Nat)) : Int))
end Av
end
section
set_option linter.unusedSimpArgs false
set_option linter.unusedVariables false
set_option maxRecDepth 10000
set_option maxHeartbeats 4000000
namespace Av
open Go
attribute [local irreducible] AWp runO runP runG awS awC awCv awQ awRd awCallR awCvR awQR awR awRdR awB okR plan ris
end Av
end
section
set_option linter.unusedSimpArgs false
set_option linter.unusedVariables false
set_option maxRecDepth 10000
set_option maxHeartbeats 4000000
namespace Av
open Go
attribute [local irreducible] AWp runO runP runG awS awC awCv awQ awRd awCallR awCvR awQR awR awRdR awB okR plan ris
end Av
end
section
set_option linter.unusedSimpArgs false
set_option linter.unusedVariables false
set_option maxRecDepth 10000
set_option maxHeartbeats 4000000
namespace Av
open Go
attribute [local irreducible] AWp runO runP runG awS awC awCv awQ awRd awCallR awCvR awQR awR awRdR awB okR plan ris
end Av
end
section
set_option linter.unusedSimpArgs false
set_option linter.unusedVariables false
set_option maxRecDepth 10000
set_option maxHeartbeats 4000000
namespace Av
open Go
attribute [local irreducible] AWp runO runP runG awS awC awCv awQ awRd awCallR awCvR awQR awR awRdR awB okR plan ris
end Av
end
