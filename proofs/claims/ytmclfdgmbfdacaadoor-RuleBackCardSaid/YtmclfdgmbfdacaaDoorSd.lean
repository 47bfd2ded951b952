/- Sd -/
import Derived.Test.YtmclfdgmbfdacaaDoorSb
import Derived.Test.YtmclfdgmbfdacaaDoorDice
import Derived.Test.YtmclfdgmbfdacaaDoorSc
import Derived.Test.YtmclfdgmbfdacaaDoorAvM
set_option linter.unusedVariables false
set_option linter.unusedSimpArgs false
section
set_option linter.unusedSimpArgs false
set_option linter.unusedVariables false
set_option maxRecDepth 10000
set_option maxHeartbeats 4000000
namespace Av
open Go
attribute [local irreducible] AWp runO runP runG awS awC awCv awQ awRd awCallR awCvR awQR awR awRdR awB okR plan ris
structure NameOk (s : List UInt8) : Prop where
  colon : (58 : UInt8) ∉ s
  known : (splitL 43 s).all knownS = true
  head : ∃ c r, s = c :: r ∧ c ≠ 45 ∧ c ≠ 33 ∧ c ≠ 43 ∧ c ≠ 64
def nameOkB (s : List UInt8) : Bool := !s.contains 58 && (splitL 43 s).all knownS && (match s with | c :: _ => c != 45 && c != 33 && c != 43 && c != 64 | [] => false)
theorem nameOk_of {s : List UInt8} (h : nameOkB s = true) : NameOk s := by
  simp only [nameOkB, Bool.and_eq_true, Bool.not_eq_true'] at h
  refine ⟨by simpa using h.1.1, h.1.2, ?_⟩
  have h3 := h.2
  cases s with
  | nil => simp at h3
  | cons c r => simp at h3; exact ⟨c, r, rfl, h3.1.1.1, h3.1.1.2, h3.1.2, h3.2⟩
theorem names2_ok : ∀ x ∈ names2, nameOkB x = true := by decide
theorem NameOk.join {s t : List UInt8} (hs : NameOk s) (ht : t ∈ names2) : NameOk (s ++ [43] ++ t) := by
  have h2 := nameOk_of (names2_ok t ht)
  refine ⟨?_, ?_, ?_⟩
  · simp only [List.mem_append, List.mem_singleton, not_or]; exact ⟨⟨hs.colon, by decide⟩, h2.colon⟩
  · rw [splitL_app, List.all_append, hs.known, h2.known]; rfl
  · obtain ⟨c, r, rfl, h⟩ := hs.head
    exact ⟨c, r ++ [43] ++ t, by simp, h⟩
end Av
end
section
set_option linter.unusedSimpArgs false
set_option linter.unusedVariables false
set_option maxRecDepth 10000
set_option maxHeartbeats 4000000
namespace Av
open Go
attribute [local irreducible] AWp runO runP runG awS awC awCv awQ awRd awCallR awCvR awQR awR awRdR awB okR plan ris
end Av
end
