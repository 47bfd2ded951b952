/- Se -/
import Derived.Test.YtheehngibnbflaaGreatDoorSd
set_option linter.unusedVariables false
set_option linter.unusedSimpArgs false
section
set_option linter.unusedSimpArgs false
set_option linter.unusedVariables false
set_option maxRecDepth 10000
set_option maxHeartbeats 4000000
namespace Av
open Go
attribute [local irreducible] AWp Yd Yy YK awS awC XQ awQ XW Qr Jj XP awR Jk awB okR Yk ris
theorem yI (c : UInt8) : ∀ (r : List (List UInt8)) (x : List UInt8), [c].intercalate (x :: r) = x ++ (r.map fun y => c :: y).flatten
  | [], x => by simp [List.intercalate]
  | y :: r, x => by
    have := yI c r y
    simp only [List.intercalate, List.intersperse_cons_cons, List.flatten_cons] at this ⊢
    rw [this]; simp
def Uc (Γ : Env) (f : Nat) : Prop := ∀ (xs : List (List UInt8)) (sep : List UInt8) (hn : xs.length < 2 ^ 40) (hl : (sep.intercalate xs).length < 2 ^ 40), EvN Γ f [.sl 1 (xs.map V.str), V.str sep] (V.str (sep.intercalate xs))
end Av
end
