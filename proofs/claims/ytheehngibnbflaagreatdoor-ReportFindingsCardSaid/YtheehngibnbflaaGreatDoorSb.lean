/- Sb -/
import Derived.Test.YtheehngibnbflaaGreatDoorSa
import Derived.Test.YtheehngibnbflaaGreatDoorAvM
set_option linter.unusedVariables false
set_option linter.unusedSimpArgs false
section
set_option linter.unusedSimpArgs false
set_option linter.unusedVariables false
set_option maxRecDepth 10000
set_option maxHeartbeats 4000000
namespace Av
open Go
attribute [local irreducible] AWp Yd Yy YK awS awC XQ awQ XW Qr Jj XP awR Jk awB okR Yk ris
end Av
end
section
set_option linter.unusedSimpArgs false
set_option linter.unusedVariables false
set_option maxRecDepth 10000
set_option maxHeartbeats 4000000
namespace Av
open Go
attribute [local irreducible] AWp Yd Yy YK awS awC XQ awQ XW Qr Jj XP awR Jk awB okR Yk ris
end Av
end
section
set_option linter.unusedSimpArgs false
set_option linter.unusedVariables false
set_option maxRecDepth 10000
set_option maxHeartbeats 4000000
namespace Av
open Go
attribute [local irreducible] AWp Yd Yy YK awS awC XQ awQ XW Qr Jj XP awR Jk awB okR Yk ris
end Av
end
section
set_option linter.unusedSimpArgs false
set_option linter.unusedVariables false
set_option maxRecDepth 10000
set_option maxHeartbeats 4000000
namespace Av
open Go
attribute [local irreducible] AWp Yd Yy YK awS awC XQ awQ XW Qr Jj XP awR Jk awB okR Yk ris
def abK : List UInt8 → UInt8 × List UInt8
  | [] => (0, [])
  | c :: r => if c = 45 ∨ c = 33 ∨ c = 43 then (c, r) else (0, c :: r)
abbrev adu := List Int × List Int
def adw : List UInt8 := [64, 115, 116, 114, 101, 110, 103, 116, 104]
def wordOk (w : List UInt8) : Bool := w == adw || (ac6 (abK w).2).2
structure ac3 (p : adu) : Prop where
  nd : p.1.Nodup
  rg : ∀ x ∈ p.1, 1 ≤ x ∧ x ≤ 16
  dj : ∀ x ∈ p.1, x ∉ p.2
theorem acC {l : List Int} (hn : l.Nodup) (hr : ∀ x ∈ l, 1 ≤ x ∧ x ≤ 16) : l.length ≤ 16 := by
  have hs : l ⊆ Xo.map Jy.code := by
    intro x hx
    have h := hr x hx
    have e : Xo.map Jy.code = [1, 2, 3, 4, 5, 6, 7, 8, 9, 10, 11, 12, 13, 14, 15, 16] := by decide
    rw [e]; simp; omega
  have := hn.length_le_of_subset hs
  have e : (Xo.map Jy.code).length = 16 := by decide
  omega
theorem ac3.len {p : adu} (h : ac3 p) : p.1.length ≤ 16 := acC h.nd h.rg
end Av
end
section
set_option linter.unusedSimpArgs false
set_option linter.unusedVariables false
set_option maxRecDepth 10000
set_option maxHeartbeats 4000000
namespace Av
open Go
attribute [local irreducible] AWp Yd Yy YK awS awC XQ awQ XW Qr Jj XP awR Jk awB okR Yk ris
theorem Kn (c : UInt8) : ∀ (s cur t : List UInt8), Xh c cur (s ++ c :: t) = Xh c cur s ++ Xh c [] t
  | [], cur, t => by simp [Xh]
  | x :: r, cur, t => by
    rw [List.cons_append, Xh, Xh]
    split
    · rw [Kn c r [] t]; rfl
    · exact Kn c r _ t
theorem Uf (c : UInt8) (s t : List UInt8) : Ys c (s ++ [c] ++ t) = Ys c s ++ Ys c t := by
  rw [List.append_assoc, List.singleton_append]; exact Kn c s [] t
theorem UB (c : UInt8) : ∀ (s cur : List UInt8), c ∉ s → Xh c cur s = [cur ++ s]
  | [], cur, _ => by simp [Xh]
  | x :: r, cur, h => by
    simp only [List.mem_cons, not_or] at h
    rw [Xh, if_neg (fun e => h.1 e.symm), UB c r _ h.2]; simp
theorem qq {c : UInt8} {s : List UInt8} (h : c ∉ s) : Ys c s = [s] := UB c s [] h
end Av
end
section
set_option linter.unusedSimpArgs false
set_option linter.unusedVariables false
set_option maxRecDepth 10000
set_option maxHeartbeats 4000000
namespace Av
open Go
attribute [local irreducible] AWp Yd Yy YK awS awC XQ awQ XW Qr Jj XP awR Jk awB okR Yk ris
end Av
end
section
set_option linter.unusedSimpArgs false
set_option linter.unusedVariables false
set_option maxRecDepth 10000
set_option maxHeartbeats 4000000
namespace Av
open Go
attribute [local irreducible] AWp Yd Yy YK awS awC XQ awQ XW Qr Jj XP awR Jk awB okR Yk ris
end Av
end
