/- Sc -/
import Derived.Test.YtheehngibnbflaaGreatDoorSb
set_option linter.unusedVariables false
set_option linter.unusedSimpArgs false
section
set_option linter.unusedSimpArgs false
set_option linter.unusedVariables false
set_option maxRecDepth 10000
set_option maxHeartbeats 4000000
namespace Av
open Go
attribute [local irreducible] AWp Yd Yy YK awS awC XQ awQ XW Qr Jj XP awR Jk awB okR Yk ris
def VN (Γ : Env) (f : Nat) : Prop := ∀ (s : List UInt8) (c : UInt8) (hs : s.length < 4294967281), EvC Γ f [V.str s, V.str [c]] (.sl 1 ((Ys c s).map V.str))
end Av
end
section
set_option linter.unusedSimpArgs false
set_option linter.unusedVariables false
set_option maxRecDepth 10000
set_option maxHeartbeats 4000000
namespace Av
open Go
attribute [local irreducible] AWp Yd Yy YK awS awC XQ awQ XW Qr Jj XP awR Jk awB okR Yk ris
end Av
end
section
set_option linter.unusedSimpArgs false
set_option linter.unusedVariables false
set_option maxRecDepth 10000
set_option maxHeartbeats 4000000
namespace Av
open Go
attribute [local irreducible] AWp Yd Yy YK awS awC XQ awQ XW Qr Jj XP awR Jk awB okR Yk ris
end Av
end
section
set_option linter.unusedSimpArgs false
set_option linter.unusedVariables false
set_option maxRecDepth 10000
set_option maxHeartbeats 4000000
namespace Av
open Go
attribute [local irreducible] AWp Yd Yy YK awS awC XQ awQ XW Qr Jj XP awR Jk awB okR Yk ris
end Av
end
section
set_option linter.unusedSimpArgs false
set_option linter.unusedVariables false
set_option maxRecDepth 10000
set_option maxHeartbeats 4000000
namespace Av
open Go
attribute [local irreducible] AWp Yd Yy YK awS awC XQ awQ XW Qr Jj XP awR Jk awB okR Yk ris
end Av
end
