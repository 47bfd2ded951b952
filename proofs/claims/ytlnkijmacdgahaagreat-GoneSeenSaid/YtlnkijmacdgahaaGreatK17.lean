/- K17 -/
import Derived.Test.YtlnkijmacdgahaaGreatK16
import Derived.Test.YtlnkijmacdgahaaGreatK12
set_option linter.unusedVariables false
set_option linter.unusedSimpArgs false
noncomputable section
set_option maxRecDepth 10000
set_option maxHeartbeats 4000000
namespace Av
open Go
attribute [local irreducible] AWp VA K4 jR awS awC aa9 awQ abD QZ V9 aay awR Ug awB okR jL ris
end Av
end
