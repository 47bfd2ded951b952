/- Sb -/
import Derived.Test.YtmclfdgmbfdacaaDoorSa
import Derived.Test.YtmclfdgmbfdacaaDoorAvM
set_option linter.unusedVariables false
set_option linter.unusedSimpArgs false
section
set_option linter.unusedSimpArgs false
set_option linter.unusedVariables false
set_option maxRecDepth 10000
set_option maxHeartbeats 4000000
namespace Av
open Go
attribute [local irreducible] AWp runO runP runG awS awC awCv awQ awRd awCallR awCvR awQR awR awRdR awB okR plan ris
end Av
end
section
set_option linter.unusedSimpArgs false
set_option linter.unusedVariables false
set_option maxRecDepth 10000
set_option maxHeartbeats 4000000
namespace Av
open Go
attribute [local irreducible] AWp runO runP runG awS awC awCv awQ awRd awCallR awCvR awQR awR awRdR awB okR plan ris
end Av
end
section
set_option linter.unusedSimpArgs false
set_option linter.unusedVariables false
set_option maxRecDepth 10000
set_option maxHeartbeats 4000000
namespace Av
open Go
attribute [local irreducible] AWp runO runP runG awS awC awCv awQ awRd awCallR awCvR awQR awR awRdR awB okR plan ris
end Av
end
section
set_option linter.unusedSimpArgs false
set_option linter.unusedVariables false
set_option maxRecDepth 10000
set_option maxHeartbeats 4000000
namespace Av
open Go
attribute [local irreducible] AWp runO runP runG awS awC awCv awQ awRd awCallR awCvR awQR awR awRdR awB okR plan ris
end Av
end
section
set_option linter.unusedSimpArgs false
set_option linter.unusedVariables false
set_option maxRecDepth 10000
set_option maxHeartbeats 4000000
namespace Av
open Go
attribute [local irreducible] AWp runO runP runG awS awC awCv awQ awRd awCallR awCvR awQR awR awRdR awB okR plan ris
theorem splitA_app (c : UInt8) : ∀ (s cur t : List UInt8), splitA c cur (s ++ c :: t) = splitA c cur s ++ splitA c [] t
  | [], cur, t => by simp [splitA]
  | x :: r, cur, t => by
    rw [List.cons_append, splitA, splitA]
    split
    · rw [splitA_app c r [] t]; rfl
    · exact splitA_app c r _ t
theorem splitL_app (c : UInt8) (s t : List UInt8) : splitL c (s ++ [c] ++ t) = splitL c s ++ splitL c t := by
  rw [List.append_assoc, List.singleton_append]; exact splitA_app c s [] t
theorem splitA_none (c : UInt8) : ∀ (s cur : List UInt8), c ∉ s → splitA c cur s = [cur ++ s]
  | [], cur, _ => by simp [splitA]
  | x :: r, cur, h => by
    simp only [List.mem_cons, not_or] at h
    rw [splitA, if_neg (fun e => h.1 e.symm), splitA_none c r _ h.2]; simp
theorem splitL_none {c : UInt8} {s : List UInt8} (h : c ∉ s) : splitL c s = [s] := splitA_none c s [] h
end Av
end
section
set_option linter.unusedSimpArgs false
set_option linter.unusedVariables false
set_option maxRecDepth 10000
set_option maxHeartbeats 4000000
namespace Av
open Go
attribute [local irreducible] AWp runO runP runG awS awC awCv awQ awRd awCallR awCvR awQR awR awRdR awB okR plan ris
theorem take_lm {α β : Type} (f : α → β) (l : List α) : (l.map f).take l.length = l.map f := by rw [List.take_of_length_le (by simp)]
end Av
end
section
set_option linter.unusedSimpArgs false
set_option linter.unusedVariables false
set_option maxRecDepth 10000
set_option maxHeartbeats 4000000
namespace Av
open Go
attribute [local irreducible] AWp runO runP runG awS awC awCv awQ awRd awCallR awCvR awQR awR awRdR awB okR plan ris
theorem splitA_sub (c : UInt8) : ∀ (r cur w : List UInt8), w ∈ splitA c cur r → w.length ≤ cur.length + r.length
  | [], cur, w, h => by simp only [splitA, List.mem_singleton] at h; subst h; simp
  | x :: r, cur, w, h => by
    rw [splitA] at h
    split at h
    · rcases List.mem_cons.1 h with rfl | h
      · simp
      · have := splitA_sub c r [] w h; simp at this ⊢; omega
    · have := splitA_sub c r _ w h; simp at this ⊢; omega
theorem splitL_mem {c : UInt8} {s w : List UInt8} (h : w ∈ splitL c s) : w.length ≤ s.length := by simpa using splitA_sub c s [] w h
end Av
end
