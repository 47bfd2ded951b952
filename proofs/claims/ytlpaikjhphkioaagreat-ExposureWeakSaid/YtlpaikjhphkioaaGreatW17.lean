/- W17 -/
import Derived.Test.YtlpaikjhphkioaaGreatW16
import Derived.Test.YtlpaikjhphkioaaGreatW12
set_option linter.unusedVariables false
set_option linter.unusedSimpArgs false
noncomputable section
set_option maxRecDepth 10000
set_option maxHeartbeats 4000000
namespace Av
open Go
attribute [local irreducible] AWp Vy K7 jE awS awC aaG awQ abg QW Uc vZ awR Uj awB okR jt ris
end Av
end
