/- Sa -/
import Derived.Test.YtmclfdgmbfdacaaDoorTab
import Derived.Test.YtmclfdgmbfdacaaDoorAvM
set_option linter.unusedVariables false
set_option linter.unusedSimpArgs false
section
set_option linter.unusedSimpArgs false
set_option linter.unusedVariables false
set_option maxRecDepth 10000
set_option maxHeartbeats 4000000
namespace Av
open Go
attribute [local irreducible] AWp runO runP runG awS awC awCv awQ awRd awCallR awCvR awQR awR awRdR awB okR plan ris
def groupsS : List (List UInt8) := [[97, 108, 108], [104, 105, 103, 104], [109, 101, 100, 105, 117, 109], [108, 111, 119], [118, 49], [118, 50], [118, 51], [118, 52]]
def knownS (n : List UInt8) : Bool := groupsS.contains n || decide (findR n 0 rowsL > 0) || decide (codeN n > 0)
end Av
end
section
set_option linter.unusedSimpArgs false
set_option linter.unusedVariables false
set_option maxRecDepth 10000
set_option maxHeartbeats 4000000
namespace Av
open Go
attribute [local irreducible] AWp runO runP runG awS awC awCv awQ awRd awCallR awCvR awQR awR awRdR awB okR plan ris
end Av
end
section
set_option linter.unusedSimpArgs false
set_option linter.unusedVariables false
set_option maxRecDepth 10000
set_option maxHeartbeats 4000000
namespace Av
open Go
attribute [local irreducible] AWp runO runP runG awS awC awCv awQ awRd awCallR awCvR awQR awR awRdR awB okR plan ris
end Av
end
section
set_option linter.unusedSimpArgs false
set_option linter.unusedVariables false
set_option maxRecDepth 10000
set_option maxHeartbeats 4000000
namespace Av
open Go
attribute [local irreducible] AWp runO runP runG awS awC awCv awQ awRd awCallR awCvR awQR awR awRdR awB okR plan ris
def splitA (c : UInt8) : List UInt8 → List UInt8 → List (List UInt8)
  | cur, [] => [cur]
  | cur, x :: r => if x = c then cur :: splitA c [] r else splitA c (cur ++ [x]) r
def splitL (c : UInt8) (s : List UInt8) : List (List UInt8) := splitA c [] s
theorem splitA_ne (c : UInt8) : ∀ (r cur : List UInt8), splitA c cur r ≠ []
  | [], cur => by simp [splitA]
  | x :: r, cur => by
    rw [splitA]; split
    · simp
    · exact splitA_ne c r _
end Av
end
section
set_option linter.unusedSimpArgs false
set_option linter.unusedVariables false
set_option maxRecDepth 10000
set_option maxHeartbeats 4000000
namespace Av
open Go
attribute [local irreducible] AWp runO runP runG awS awC awCv awQ awRd awCallR awCvR awQR awR awRdR awB okR plan ris
theorem splitA_len (c : UInt8) : ∀ (r cur : List UInt8), (splitA c cur r).length ≤ r.length + 1
  | [], cur => by simp [splitA]
  | x :: r, cur => by
    rw [splitA]; split
    · have := splitA_len c r []; simp; omega
    · have := splitA_len c r (cur ++ [x]); simp; omega
theorem splitL_len (c : UInt8) (s : List UInt8) : (splitL c s).length ≤ s.length + 1 := splitA_len c s []
end Av
end
