/- K17 -/
import Derived.Test.YtjolhibbihejgaaGreatK16
import Derived.Test.YtjolhibbihejgaaGreatK12
set_option linter.unusedVariables false
set_option linter.unusedSimpArgs false
noncomputable section
set_option maxRecDepth 10000
set_option maxHeartbeats 4000000
namespace Av
open Go
attribute [local irreducible] AWp UY qH yr awS awC aaT awQ abS Q1 Ub aaE awR Ux awB okR ym ris
end Av
end
