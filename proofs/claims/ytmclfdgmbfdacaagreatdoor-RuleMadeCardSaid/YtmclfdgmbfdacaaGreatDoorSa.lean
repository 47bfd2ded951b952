/- Sa -/
import Derived.Test.YtmclfdgmbfdacaaGreatDoorTab
import Derived.Test.YtmclfdgmbfdacaaGreatDoorAvM
set_option linter.unusedVariables false
set_option linter.unusedSimpArgs false
section
set_option linter.unusedSimpArgs false
set_option linter.unusedVariables false
set_option maxRecDepth 10000
set_option maxHeartbeats 4000000
namespace Av
open Go
attribute [local irreducible] AWp XV WG WJ awS awC VK awQ V4 Jq Xf VH awR Xk awB okR XT ris
def ajA (c : Int) : Int := if 1 ≤ c ∧ c ≤ 16 then afb (afa c).ci1 (afa c).ci2 else 0
def ahK : List (List UInt8) := [[97, 108, 108], [104, 105, 103, 104], [109, 101, 100, 105, 117, 109], [108, 111, 119], [118, 49], [118, 50], [118, 51], [118, 52]]
def adS (n : List UInt8) : Bool := ahK.contains n || decide (xl n 0 Vq > 0) || decide (ajl n > 0)
def aiv (n : List UInt8) (st lo up : Int) : Option Bool :=
  if n = [97, 108, 108] then some true else if n = [104, 105, 103, 104] then some (decide (st ≥ 128)) else if n = [109, 101, 100, 105, 117, 109] then some (decide (st ≥ 112) && decide (st < 128))
  else if n = [108, 111, 119] then some (decide (st < 112)) else if n = [118, 49] then some (decide (lo ≤ 1) && decide (1 ≤ up)) else if n = [118, 50] then some (decide (lo ≤ 2) && decide (2 ≤ up))
  else if n = [118, 51] then some (decide (lo ≤ 3) && decide (3 ≤ up)) else if n = [118, 52] then some (decide (lo ≤ 4) && decide (4 ≤ up)) else none
def ait (n : List UInt8) (s : KI) : Bool :=
  match aiv n (ajA s.code) s.lo s.hi with
  | some b => b
  | none => (decide (xl n 0 Vq > 0) && (s.kx1 == xl n 0 Vq || s.sg1 == xl n 0 Vq || s.ci1 == xl n 0 Vq || s.mc1 == xl n 0 Vq)) || s.name == n
end Av
end
section
set_option linter.unusedSimpArgs false
set_option linter.unusedVariables false
set_option maxRecDepth 10000
set_option maxHeartbeats 4000000
namespace Av
open Go
attribute [local irreducible] AWp XV WG WJ awS awC VK awQ V4 Jq Xf VH awR Xk awB okR XT ris
end Av
end
section
set_option linter.unusedSimpArgs false
set_option linter.unusedVariables false
set_option maxRecDepth 10000
set_option maxHeartbeats 4000000
namespace Av
open Go
attribute [local irreducible] AWp XV WG WJ awS awC VK awQ V4 Jq Xf VH awR Xk awB okR XT ris
end Av
end
section
set_option linter.unusedSimpArgs false
set_option linter.unusedVariables false
set_option maxRecDepth 10000
set_option maxHeartbeats 4000000
namespace Av
open Go
attribute [local irreducible] AWp XV WG WJ awS awC VK awQ V4 Jq Xf VH awR Xk awB okR XT ris
def X2 (c : UInt8) : List UInt8 → List UInt8 → List (List UInt8)
  | cur, [] => [cur]
  | cur, x :: r => if x = c then cur :: X2 c [] r else X2 c (cur ++ [x]) r
def Y8 (c : UInt8) (s : List UInt8) : List (List UInt8) := X2 c [] s
theorem abQ (c : UInt8) : ∀ (r cur : List UInt8), X2 c cur r ≠ []
  | [], cur => by simp [X2]
  | x :: r, cur => by
    rw [X2]; split
    · simp
    · exact abQ c r _
end Av
end
section
set_option linter.unusedSimpArgs false
set_option linter.unusedVariables false
set_option maxRecDepth 10000
set_option maxHeartbeats 4000000
namespace Av
open Go
attribute [local irreducible] AWp XV WG WJ awS awC VK awQ V4 Jq Xf VH awR Xk awB okR XT ris
theorem xE (c : UInt8) : ∀ (r cur : List UInt8), (X2 c cur r).length ≤ r.length + 1
  | [], cur => by simp [X2]
  | x :: r, cur => by
    rw [X2]; split
    · have := xE c r []; simp; omega
    · have := xE c r (cur ++ [x]); simp; omega
theorem aeh (c : UInt8) (s : List UInt8) : (Y8 c s).length ≤ s.length + 1 := xE c s []
def ajd (L : List (List UInt8)) (x : KI) : Bool := L.all fun n => ait n x
def ahT (L : List (List UInt8)) (xs : List KI) : List Int := (xs.filter (ajd L)).map KI.code
def ai4 (s : List UInt8) : List Int × Bool := if (Y8 43 s).all adS then (ahT (Y8 43 s) xz, true) else ([], false)
end Av
end
