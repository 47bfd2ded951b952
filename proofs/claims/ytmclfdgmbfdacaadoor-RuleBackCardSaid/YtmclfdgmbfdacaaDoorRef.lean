/- Ref -/
import Derived.Test.YtmclfdgmbfdacaaDoorCat
set_option linter.unusedVariables false
set_option linter.unusedSimpArgs false
section
set_option linter.unusedSimpArgs false
set_option linter.unusedVariables false
set_option maxHeartbeats 4000000
set_option maxRecDepth 10000
namespace Av
open Go
attribute [local irreducible] AWp runO runP runG awS awC awCv awQ awRd awCallR awCvR awQR awR awRdR awB okR plan ris
end Av
end
section
set_option linter.unusedSimpArgs false
set_option linter.unusedVariables false
set_option maxRecDepth 10000
set_option maxHeartbeats 4000000
namespace Av
open Go
attribute [local irreducible] AWp runO runP runG awS awC awCv awQ awRd awCallR awCvR awQR awR awRdR awB okR plan ris
theorem itoa_small {n : Int} (h0 : 0 ≤ n) (h1 : n < 10) : Lib.itoa n = [UInt8.ofNat (48 + n.toNat)] := by
  rw [Lib.itoa, if_neg (by omega), Lib.decDigits_one (by omega)]
theorem itoa_big {n : Int} (h1 : 10 ≤ n) : Lib.itoa n = Lib.itoa (n / 10) ++ [UInt8.ofNat (48 + (n % 10).toNat)] := by
  have e : (n / 10).toNat = n.toNat / 10 := by omega
  have e2 : (n % 10).toNat = n.toNat % 10 := by omega
  rw [Lib.itoa, if_neg (by omega), Lib.itoa, if_neg (by omega), Lib.decDigits, dif_neg (by omega), e, e2]
def numL (acc : Int) : List UInt8 → Option Int
  | [] => some acc
  | c :: r => if c.toNat < 48 ∨ 57 < c.toNat then none else numL (acc * 10 + ((c.toNat : Int) - 48)) r
def numR (s : List UInt8) : Int × Bool :=
  if s = [] ∨ 15 < s.length ∨ (1 < s.length ∧ s[0]? = some 48) then (0, false)
  else match numL 0 s with | none => (0, false) | some n => (n, true)
def numV (p : Int × Bool) : V := .tup [V.int p.1, V.bool p.2]
theorem pow_le {k : Nat} (h : k ≤ 15) : (10 : Nat) ^ k ≤ 1000000000000000 := Nat.le_trans (Nat.pow_le_pow_right (by omega) h) (by omega)
end Av
end
