/- Sd -/
import Derived.Test.YtheehngibnbflaaGreatDoorSb
import Derived.Test.YtheehngibnbflaaGreatDoorDice
import Derived.Test.YtheehngibnbflaaGreatDoorSc
import Derived.Test.YtheehngibnbflaaGreatDoorAvM
set_option linter.unusedVariables false
set_option linter.unusedSimpArgs false
section
set_option linter.unusedSimpArgs false
set_option linter.unusedVariables false
set_option maxRecDepth 10000
set_option maxHeartbeats 4000000
namespace Av
open Go
attribute [local irreducible] AWp Yd Yy YK awS awC XQ awQ XW Qr Jj XP awR Jk awB okR Yk ris
theorem abM (s : List UInt8) : (ac6 s).2 = (Ys 43 s).all xU := by
  unfold ac6; split
  · rename_i h; rw [h]
  · rename_i h; simpa using h
structure KZ (s : List UInt8) : Prop where
  colon : (58 : UInt8) ∉ s
  known : (Ys 43 s).all xU = true
  head : ∃ c r, s = c :: r ∧ c ≠ 45 ∧ c ≠ 33 ∧ c ≠ 43 ∧ c ≠ 64
def xm (s : List UInt8) : Bool := !s.contains 58 && (Ys 43 s).all xU && (match s with | c :: _ => c != 45 && c != 33 && c != 43 && c != 64 | [] => false)
theorem vV {s : List UInt8} (h : xm s = true) : KZ s := by
  simp only [xm, Bool.and_eq_true, Bool.not_eq_true'] at h
  refine ⟨by simpa using h.1.1, h.1.2, ?_⟩
  have h3 := h.2
  cases s with
  | nil => simp at h3
  | cons c r => simp at h3; exact ⟨c, r, rfl, h3.1.1.1, h3.1.1.2, h3.1.2, h3.2⟩
theorem vU : ∀ x ∈ abx, xm x = true := by decide
theorem KZ.join {s t : List UInt8} (hs : KZ s) (ht : t ∈ abx) : KZ (s ++ [43] ++ t) := by
  have h2 := vV (vU t ht)
  refine ⟨?_, ?_, ?_⟩
  · simp only [List.mem_append, List.mem_singleton, not_or]; exact ⟨⟨hs.colon, by decide⟩, h2.colon⟩
  · rw [Uf, List.all_append, hs.known, h2.known]; rfl
  · obtain ⟨c, r, rfl, h⟩ := hs.head
    exact ⟨c, r ++ [43] ++ t, by simp, h⟩
theorem KZ.sign {s : List UInt8} (h : KZ s) : abK s = (0, s) := by
  obtain ⟨c, r, rfl, h1, h2, h3, _⟩ := h.head
  rw [abK, if_neg (by simp [h1, h2, h3])]
theorem KZ.okW {s : List UInt8} (h : KZ s) : wordOk s = true := by rw [Av.wordOk, h.sign, abM, h.known, Bool.or_true]
structure wl (s : List UInt8) (n : Nat) : Prop where
  few : s ≠ [] → (Ys 58 s).length ≤ n
  ok : s ≠ [] → ∀ w ∈ Ys 58 s, wordOk w = true
theorem wl.app {s t : List UInt8} {n m : Nat} (hs : wl s n) (ht : wl t m) (h1 : s ≠ []) (h2 : t ≠ []) : wl (s ++ [58] ++ t) (n + m) := by
  refine ⟨fun _ => ?_, fun _ x hx => ?_⟩
  · have := hs.few h1; have := ht.few h2; rw [Uf]; simp; omega
  · rw [Uf] at hx
    rcases List.mem_append.1 hx with hx | hx
    · exact hs.ok h1 x hx
    · exact ht.ok h2 x hx
end Av
end
section
set_option linter.unusedSimpArgs false
set_option linter.unusedVariables false
set_option maxRecDepth 10000
set_option maxHeartbeats 4000000
namespace Av
open Go
attribute [local irreducible] AWp Yd Yy YK awS awC XQ awQ XW Qr Jj XP awR Jk awB okR Yk ris
end Av
end
