/- Functions that answer a buffer of their own, whose elements show no memory. -/
import Derived.Test.YtalpffbofjlfgaaDoorK12
import Derived.Lib.IndexLaws
import Derived.Lib.AtoiAllCases
set_option linter.unusedVariables false
set_option linter.unusedSimpArgs false
section
set_option linter.unusedSimpArgs false
set_option linter.unusedVariables false
set_option maxRecDepth 10000
namespace Av
open Go
attribute [local irreducible] AWp Y0 Xe Xo awS awC Wo awQ Wp QS JT Wm awR JV awB okR Y6 ris
end Av
end
section
set_option linter.unusedSimpArgs false
set_option linter.unusedVariables false
set_option maxRecDepth 10000
set_option maxHeartbeats 4000000
namespace Av
open Go
attribute [local irreducible] AWp Y0 Xe Xo awS awC Wo awQ Wp QS JT Wm awR JV awB okR Y6 ris
def acE : Vh := ⟨0, [], 0, 0, 0, 0, 0, 0, 0, 0, 0, 0⟩
def aaD (c : Int) : Vh := if 1 ≤ c ∧ c ≤ 16 then qo.getD (c - 1).toNat acE else acE
end Av
end
section
set_option linter.unusedSimpArgs false
set_option linter.unusedVariables false
set_option maxRecDepth 10000
set_option maxHeartbeats 4000000
namespace Av
open Go
attribute [local irreducible] AWp Y0 Xe Xo awS awC Wo awQ Wp QS JT Wm awR JV awB okR Y6 ris
def yP {α : Type} (p : α → Bool) : Nat → List α → Int
  | _, [] => -1
  | k, x :: r => if p x = true then k else yP p (k + 1) r
def aeE (n : List UInt8) : Int := yP (fun s : Vh => s.name == n) 0 qo + 1
end Av
end
section
set_option linter.unusedSimpArgs false
set_option linter.unusedVariables false
set_option maxRecDepth 10000
set_option maxHeartbeats 4000000
namespace Av
open Go
attribute [local irreducible] AWp Y0 Xe Xo awS awC Wo awQ Wp QS JT Wm awR JV awB okR Y6 ris
def aeQ (c : Int) : Int := if 1 ≤ c ∧ c ≤ 16 then aaE (aaD c).ci1 (aaD c).ci2 else 0
def adf : List (List UInt8) := [[97, 108, 108], [104, 105, 103, 104], [109, 101, 100, 105, 117, 109], [108, 111, 119], [118, 49], [118, 50], [118, 51], [118, 52]]
def vm (n : List UInt8) : Bool := adf.contains n || decide (wM n 0 wz > 0) || decide (aeE n > 0)
def adR (n : List UInt8) (st lo up : Int) : Option Bool :=
  if n = [97, 108, 108] then some true else if n = [104, 105, 103, 104] then some (decide (st ≥ 128)) else if n = [109, 101, 100, 105, 117, 109] then some (decide (st ≥ 112) && decide (st < 128))
  else if n = [108, 111, 119] then some (decide (st < 112)) else if n = [118, 49] then some (decide (lo ≤ 1) && decide (1 ≤ up)) else if n = [118, 50] then some (decide (lo ≤ 2) && decide (2 ≤ up))
  else if n = [118, 51] then some (decide (lo ≤ 3) && decide (3 ≤ up)) else if n = [118, 52] then some (decide (lo ≤ 4) && decide (4 ≤ up)) else none
def adQ (n : List UInt8) (s : Vh) : Bool :=
  match adR n (aeQ s.code) s.lo s.hi with
  | some b => b
  | none => (decide (wM n 0 wz > 0) && (s.kx1 == wM n 0 wz || s.sg1 == wM n 0 wz || s.ci1 == wM n 0 wz || s.mc1 == wM n 0 wz)) || s.name == n
end Av
end
section
set_option linter.unusedSimpArgs false
set_option linter.unusedVariables false
set_option maxRecDepth 10000
set_option maxHeartbeats 4000000
namespace Av
open Go
attribute [local irreducible] AWp Y0 Xe Xo awS awC Wo awQ Wp QS JT Wm awR JV awB okR Y6 ris
end Av
end
section
set_option linter.unusedSimpArgs false
set_option linter.unusedVariables false
set_option maxRecDepth 10000
set_option maxHeartbeats 4000000
namespace Av
open Go
attribute [local irreducible] AWp Y0 Xe Xo awS awC Wo awQ Wp QS JT Wm awR JV awB okR Y6 ris
end Av
end
section
set_option linter.unusedSimpArgs false
set_option linter.unusedVariables false
set_option maxRecDepth 10000
set_option maxHeartbeats 4000000
namespace Av
open Go
attribute [local irreducible] AWp Y0 Xe Xo awS awC Wo awQ Wp QS JT Wm awR JV awB okR Y6 ris
def YF (c : UInt8) : List UInt8 → List UInt8 → List (List UInt8)
  | cur, [] => [cur]
  | cur, x :: r => if x = c then cur :: YF c [] r else YF c (cur ++ [x]) r
def YT (c : UInt8) (s : List UInt8) : List (List UInt8) := YF c [] s
end Av
end
section
set_option linter.unusedSimpArgs false
set_option linter.unusedVariables false
set_option maxRecDepth 10000
set_option maxHeartbeats 4000000
namespace Av
open Go
attribute [local irreducible] AWp Y0 Xe Xo awS awC Wo awQ Wp QS JT Wm awR JV awB okR Y6 ris
theorem qu (c : UInt8) : ∀ (r cur : List UInt8), (YF c cur r).length ≤ r.length + 1
  | [], cur => by simp [YF]
  | x :: r, cur => by
    rw [YF]; split
    · have := qu c r []; simp; omega
    · have := qu c r (cur ++ [x]); simp; omega
theorem vK (c : UInt8) (s : List UInt8) : (YT c s).length ≤ s.length + 1 := qu c s []
def aew (L : List (List UInt8)) (x : Vh) : Bool := L.all fun n => adQ n x
def adk (L : List (List UInt8)) (xs : List Vh) : List Int := (xs.filter (aew L)).map Vh.code
def aen (s : List UInt8) : List Int × Bool := if (YT 43 s).all vm then (adk (YT 43 s) qo, true) else ([], false)
end Av
end
section
namespace Av
open Go
end Av
end
section
set_option linter.unusedSimpArgs false
set_option linter.unusedVariables false
set_option maxRecDepth 10000
set_option maxHeartbeats 4000000
namespace Av
open Go
attribute [local irreducible] AWp Y0 Xe Xo awS awC Wo awQ Wp QS JT Wm awR JV awB okR Y6 ris
end Av
end
section
set_option linter.unusedSimpArgs false
set_option linter.unusedVariables false
set_option maxRecDepth 10000
set_option maxHeartbeats 4000000
namespace Av
open Go
attribute [local irreducible] AWp Y0 Xe Xo awS awC Wo awQ Wp QS JT Wm awR JV awB okR Y6 ris
end Av
end
