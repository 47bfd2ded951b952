/- K17 -/
import Derived.Test.YtlpaikjhphkioaaGreatK16
import Derived.Test.YtlpaikjhphkioaaGreatK12
set_option linter.unusedVariables false
set_option linter.unusedSimpArgs false
noncomputable section
set_option maxRecDepth 10000
set_option maxHeartbeats 4000000
namespace Av
open Go
attribute [local irreducible] AWp Uv qW xf awS awC abB awQ acd QZ UL aa2 awR Kc awB okR yu ris
theorem aql {n:Int} (h0:0≤n) (h1:n < 256):IntKind.u8.wrap n = n:=by
 have e1:IntKind.u8.bits = 8:=rfl
 have e2:IntKind.u8.signed = false:=rfl
 simp only [IntKind.wrap,e1,e2,zy]
 simp;omega
end Av
end
