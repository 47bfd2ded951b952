/- Sa -/
import Derived.Test.YtheehngibnbflaaGreatDoorTab
import Derived.Test.YtheehngibnbflaaGreatDoorAvM
set_option linter.unusedVariables false
set_option linter.unusedSimpArgs false
section
set_option linter.unusedSimpArgs false
set_option linter.unusedVariables false
set_option maxRecDepth 10000
set_option maxHeartbeats 4000000
namespace Av
open Go
attribute [local irreducible] AWp Yd Yy YK awS awC XQ awQ XW Qr Jj XP awR Jk awB okR Yk ris
def adv (c : Int) : Int := if 1 ≤ c ∧ c ≤ 16 then Jx (UA c).ci1 (UA c).ci2 else 0
def abZ : List (List UInt8) := [[97, 108, 108], [104, 105, 103, 104], [109, 101, 100, 105, 117, 109], [108, 111, 119], [118, 49], [118, 50], [118, 51], [118, 52]]
def xU (n : List UInt8) : Bool := abZ.contains n || decide (xr n 0 WO > 0) || decide (adk n > 0)
def acF (n : List UInt8) (st lo up : Int) : Option Bool :=
  if n = [97, 108, 108] then some true else if n = [104, 105, 103, 104] then some (decide (st ≥ 128)) else if n = [109, 101, 100, 105, 117, 109] then some (decide (st ≥ 112) && decide (st < 128))
  else if n = [108, 111, 119] then some (decide (st < 112)) else if n = [118, 49] then some (decide (lo ≤ 1) && decide (1 ≤ up)) else if n = [118, 50] then some (decide (lo ≤ 2) && decide (2 ≤ up))
  else if n = [118, 51] then some (decide (lo ≤ 3) && decide (3 ≤ up)) else if n = [118, 52] then some (decide (lo ≤ 4) && decide (4 ≤ up)) else none
def acD (n : List UInt8) (s : Jy) : Bool :=
  match acF n (adv s.code) s.lo s.hi with
  | some b => b
  | none => (decide (xr n 0 WO > 0) && (s.kx1 == xr n 0 WO || s.sg1 == xr n 0 WO || s.ci1 == xr n 0 WO || s.mc1 == xr n 0 WO)) || s.name == n
end Av
end
section
set_option linter.unusedSimpArgs false
set_option linter.unusedVariables false
set_option maxRecDepth 10000
set_option maxHeartbeats 4000000
namespace Av
open Go
attribute [local irreducible] AWp Yd Yy YK awS awC XQ awQ XW Qr Jj XP awR Jk awB okR Yk ris
end Av
end
section
set_option linter.unusedSimpArgs false
set_option linter.unusedVariables false
set_option maxRecDepth 10000
set_option maxHeartbeats 4000000
namespace Av
open Go
attribute [local irreducible] AWp Yd Yy YK awS awC XQ awQ XW Qr Jj XP awR Jk awB okR Yk ris
end Av
end
section
set_option linter.unusedSimpArgs false
set_option linter.unusedVariables false
set_option maxRecDepth 10000
set_option maxHeartbeats 4000000
namespace Av
open Go
attribute [local irreducible] AWp Yd Yy YK awS awC XQ awQ XW Qr Jj XP awR Jk awB okR Yk ris
def Xh (c : UInt8) : List UInt8 → List UInt8 → List (List UInt8)
  | cur, [] => [cur]
  | cur, x :: r => if x = c then cur :: Xh c [] r else Xh c (cur ++ [x]) r
def Ys (c : UInt8) (s : List UInt8) : List (List UInt8) := Xh c [] s
end Av
end
section
set_option linter.unusedSimpArgs false
set_option linter.unusedVariables false
set_option maxRecDepth 10000
set_option maxHeartbeats 4000000
namespace Av
open Go
attribute [local irreducible] AWp Yd Yy YK awS awC XQ awQ XW Qr Jj XP awR Jk awB okR Yk ris
def ada (L : List (List UInt8)) (x : Jy) : Bool := L.all fun n => acD n x
def ab3 (L : List (List UInt8)) (xs : List Jy) : List Int := (xs.filter (ada L)).map Jy.code
def ac6 (s : List UInt8) : List Int × Bool := if (Ys 43 s).all xU then (ab3 (Ys 43 s) Xo, true) else ([], false)
end Av
end
