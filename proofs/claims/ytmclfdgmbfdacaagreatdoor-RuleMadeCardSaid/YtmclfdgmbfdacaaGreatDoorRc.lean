/- Rc -/
import Derived.Test.YtmclfdgmbfdacaaGreatDoorRb
set_option linter.unusedVariables false
set_option linter.unusedSimpArgs false
section
set_option linter.unusedSimpArgs false
set_option linter.unusedVariables false
set_option maxRecDepth 10000
set_option maxHeartbeats 4000000
namespace Av
open Go
attribute [local irreducible] AWp XV WG WJ awS awC VK awQ V4 Jq Xf VH awR Xk awB okR XT ris
end Av
end
section
set_option linter.unusedSimpArgs false
set_option linter.unusedVariables false
set_option maxRecDepth 10000
set_option maxHeartbeats 4000000
namespace Av
open Go
attribute [local irreducible] AWp XV WG WJ awS awC VK awQ V4 Jq Xf VH awR Xk awB okR XT ris
end Av
end
section
set_option linter.unusedSimpArgs false
set_option linter.unusedVariables false
set_option maxRecDepth 10000
set_option maxHeartbeats 4000000
namespace Av
open Go
attribute [local irreducible] AWp XV WG WJ awS awC VK awQ V4 Jq Xf VH awR Xk awB okR XT ris
end Av
end
