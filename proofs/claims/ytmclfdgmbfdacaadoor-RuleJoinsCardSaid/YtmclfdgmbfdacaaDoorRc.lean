/- Rc -/
import Derived.Test.YtmclfdgmbfdacaaDoorRb
set_option linter.unusedVariables false
set_option linter.unusedSimpArgs false
section
-- ALL all2.txt
set_option linter.unusedSimpArgs false
set_option linter.unusedVariables false
set_option maxRecDepth 10000
set_option maxHeartbeats 4000000
namespace Av
open Go
attribute [local irreducible] AWp runO runP runG awS awC awCv awQ awRd awCallR awCvR awQR awR awRdR awB okR plan ris
end Av
end
section
-- ALL all2.txt
set_option linter.unusedSimpArgs false
set_option linter.unusedVariables false
set_option maxRecDepth 10000
set_option maxHeartbeats 4000000
namespace Av
open Go
attribute [local irreducible] AWp runO runP runG awS awC awCv awQ awRd awCallR awCvR awQR awR awRdR awB okR plan ris
inductive Ln where
  | none
  | rule (r : PRule)
  | keep (k : PKeep)
end Av
end
section
-- ALL all2.txt
set_option linter.unusedSimpArgs false
set_option linter.unusedVariables false
set_option maxRecDepth 10000
set_option maxHeartbeats 4000000
namespace Av
open Go
attribute [local irreducible] AWp runO runP runG awS awC awCv awQ awRd awCallR awCvR awQR awR awRdR awB okR plan ris
theorem isL_cons {w x : List UInt8} {t : WS} : isL w (x :: t) = if x = w then (true, t) else (false, x :: t) := rfl
theorem headP_cons (x : List UInt8) (t : WS) : headP (x :: t) = if x = [97, 108, 108, 111, 119] ∨ x = [102, 111, 114, 98, 105, 100] then (x == [97, 108, 108, 111, 119], true, t) else (false, false, x :: t) := by
  rw [headP, isL_cons, isL_cons]
  by_cases h1 : x = [97, 108, 108, 111, 119]
  · subst h1; rfl
  · have e1 : (x == [97, 108, 108, 111, 119]) = false := by simpa using h1
    by_cases h2 : x = [102, 111, 114, 98, 105, 100]
    · subst h2; rfl
    · rw [if_neg h1, if_neg h2]; simp only [Bool.false_eq_true, if_false, h1, h2, or_self]
def lineP (ws : WS) : Ln := if (ruleP ws).2.1 = true then .rule (ruleP ws).1 else if (keepP ws).2.1 = true then .keep (keepP ws).1 else .none
theorem rule_not {x : List UInt8} {t : WS} (h : ¬ (x = [97, 108, 108, 111, 119] ∨ x = [102, 111, 114, 98, 105, 100])) : (ruleP (x :: t)).2.1 = false := by
  rw [ruleP, headP_cons, if_neg h]; rfl
theorem checkV_one (r : PRule) : checkV [r] [] = 0 ↔ ruledB r = true := by
  simp [checkV]
theorem checkV_kone (k : PKeep) : checkV [] [k] = 0 ↔ keptB k = true := by
  simp [checkV]
theorem readP_line (s : List UInt8) (rs : List PRule) (ks : List PKeep) : readP s rs ks = match lineP (splitL 32 s) with
    | .none => (false, rs, ks) | .rule x => (true, rs ++ [x], ks) | .keep k => (true, rs, ks ++ [k]) := by
  rw [readP, lineP]
  split
  · rfl
  · split <;> rfl
theorem wrongP_rule {s : List UInt8} {i w : Int} {rs : List PRule} {ks : List PKeep} {x : PRule} (h : readP s rs ks = (true, rs ++ [x], ks)) : wrongP s i w rs ks = if w = 0 ∧ ruledB x = false then i + 1 else w := by
  rw [wrongP, h]
  simp only [List.drop_left, List.drop_length]
  have := checkV_one x
  by_cases hx : ruledB x = true
  · rw [if_neg (by simp [this.2 hx]), if_neg (by simp [hx])]
  · have h2 : ruledB x = false := by simpa using hx
    have h3 : ¬ checkV [x] [] = 0 := fun h => hx (this.1 h)
    simp only [h2, h3, ne_eq, not_false_eq_true, and_true]
theorem wrongP_keep {s : List UInt8} {i w : Int} {rs : List PRule} {ks : List PKeep} {k : PKeep} (h : readP s rs ks = (true, rs, ks ++ [k])) : wrongP s i w rs ks = if w = 0 ∧ keptB k = false then i + 1 else w := by
  rw [wrongP, h]
  simp only [List.drop_left, List.drop_length]
  have := checkV_kone k
  by_cases hx : keptB k = true
  · rw [if_neg (by simp [this.2 hx]), if_neg (by simp [hx])]
  · have h2 : keptB k = false := by simpa using hx
    have h3 : ¬ checkV [] [k] = 0 := fun h => hx (this.1 h)
    simp only [h2, h3, ne_eq, not_false_eq_true, and_true]
end Av
end
