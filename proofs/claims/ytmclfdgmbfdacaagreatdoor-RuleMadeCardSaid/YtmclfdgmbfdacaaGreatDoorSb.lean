/- Sb -/
import Derived.Test.YtmclfdgmbfdacaaGreatDoorSa
import Derived.Test.YtmclfdgmbfdacaaGreatDoorAvM
set_option linter.unusedVariables false
set_option linter.unusedSimpArgs false
section
set_option linter.unusedSimpArgs false
set_option linter.unusedVariables false
set_option maxRecDepth 10000
set_option maxHeartbeats 4000000
namespace Av
open Go
attribute [local irreducible] AWp XV WG WJ awS awC VK awQ V4 Jq Xf VH awR Xk awB okR XT ris
end Av
end
section
set_option linter.unusedSimpArgs false
set_option linter.unusedVariables false
set_option maxRecDepth 10000
set_option maxHeartbeats 4000000
namespace Av
open Go
attribute [local irreducible] AWp XV WG WJ awS awC VK awQ V4 Jq Xf VH awR Xk awB okR XT ris
end Av
end
section
set_option linter.unusedSimpArgs false
set_option linter.unusedVariables false
set_option maxRecDepth 10000
set_option maxHeartbeats 4000000
namespace Av
open Go
attribute [local irreducible] AWp XV WG WJ awS awC VK awQ V4 Jq Xf VH awR Xk awB okR XT ris
end Av
end
section
set_option linter.unusedSimpArgs false
set_option linter.unusedVariables false
set_option maxRecDepth 10000
set_option maxHeartbeats 4000000
namespace Av
open Go
attribute [local irreducible] AWp XV WG WJ awS awC VK awQ V4 Jq Xf VH awR Xk awB okR XT ris
def ahu : List UInt8 → UInt8 × List UInt8
  | [] => (0, [])
  | c :: r => if c = 45 ∨ c = 33 ∨ c = 43 then (c, r) else (0, c :: r)
abbrev ajx := List Int × List Int
def ajB : List UInt8 := [64, 115, 116, 114, 101, 110, 103, 116, 104]
def wordOk (w : List UInt8) : Bool := w == ajB || (ai4 (ahu w).2).2
structure ai1 (p : ajx) : Prop where
  nd : p.1.Nodup
  rg : ∀ x ∈ p.1, 1 ≤ x ∧ x ≤ 16
  dj : ∀ x ∈ p.1, x ∉ p.2
theorem ais {l : List Int} (hn : l.Nodup) (hr : ∀ x ∈ l, 1 ≤ x ∧ x ≤ 16) : l.length ≤ 16 := by
  have hs : l ⊆ xz.map KI.code := by
    intro x hx
    have h := hr x hx
    have e : xz.map KI.code = [1, 2, 3, 4, 5, 6, 7, 8, 9, 10, 11, 12, 13, 14, 15, 16] := by decide
    rw [e]; simp; omega
  have := hn.length_le_of_subset hs
  have e : (xz.map KI.code).length = 16 := by decide
  omega
theorem ai1.len {p : ajx} (h : ai1 p) : p.1.length ≤ 16 := ais h.nd h.rg
end Av
end
section
set_option linter.unusedSimpArgs false
set_option linter.unusedVariables false
set_option maxRecDepth 10000
set_option maxHeartbeats 4000000
namespace Av
open Go
attribute [local irreducible] AWp XV WG WJ awS awC VK awQ V4 Jq Xf VH awR Xk awB okR XT ris
theorem xF (c : UInt8) : ∀ (s cur t : List UInt8), X2 c cur (s ++ c :: t) = X2 c cur s ++ X2 c [] t
  | [], cur, t => by simp [X2]
  | x :: r, cur, t => by
    rw [List.cons_append, X2, X2]
    split
    · rw [xF c r [] t]; rfl
    · exact xF c r _ t
theorem xC (c : UInt8) (s t : List UInt8) : Y8 c (s ++ [c] ++ t) = Y8 c s ++ Y8 c t := by
  rw [List.append_assoc, List.singleton_append]; exact xF c s [] t
theorem w6 (c : UInt8) : ∀ (s cur : List UInt8), c ∉ s → X2 c cur s = [cur ++ s]
  | [], cur, _ => by simp [X2]
  | x :: r, cur, h => by
    simp only [List.mem_cons, not_or] at h
    rw [X2, if_neg (fun e => h.1 e.symm), w6 c r _ h.2]; simp
end Av
end
section
set_option linter.unusedSimpArgs false
set_option linter.unusedVariables false
set_option maxRecDepth 10000
set_option maxHeartbeats 4000000
namespace Av
open Go
attribute [local irreducible] AWp XV WG WJ awS awC VK awQ V4 Jq Xf VH awR Xk awB okR XT ris
theorem ae9 {α β : Type} (f : α → β) (l : List α) : (l.map f).take l.length = l.map f := by rw [List.take_of_length_le (by simp)]
end Av
end
section
set_option linter.unusedSimpArgs false
set_option linter.unusedVariables false
set_option maxRecDepth 10000
set_option maxHeartbeats 4000000
namespace Av
open Go
attribute [local irreducible] AWp XV WG WJ awS awC VK awQ V4 Jq Xf VH awR Xk awB okR XT ris
theorem xD (c : UInt8) : ∀ (r cur w : List UInt8), w ∈ X2 c cur r → w.length ≤ cur.length + r.length
  | [], cur, w, h => by simp only [X2, List.mem_singleton] at h; subst h; simp
  | x :: r, cur, w, h => by
    rw [X2] at h
    split at h
    · rcases List.mem_cons.1 h with rfl | h
      · simp
      · have := xD c r [] w h; simp at this ⊢; omega
    · have := xD c r _ w h; simp at this ⊢; omega
theorem aaD {c : UInt8} {s w : List UInt8} (h : w ∈ Y8 c s) : w.length ≤ s.length := by simpa using xD c s [] w h
end Av
end
