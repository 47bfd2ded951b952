/- Sd -/
import Derived.Test.YtmclfdgmbfdacaaGreatDoorSb
import Derived.Test.YtmclfdgmbfdacaaGreatDoorDice
import Derived.Test.YtmclfdgmbfdacaaGreatDoorSc
import Derived.Test.YtmclfdgmbfdacaaGreatDoorAvM
set_option linter.unusedVariables false
set_option linter.unusedSimpArgs false
section
set_option linter.unusedSimpArgs false
set_option linter.unusedVariables false
set_option maxRecDepth 10000
set_option maxHeartbeats 4000000
namespace Av
open Go
attribute [local irreducible] AWp XV WG WJ awS awC VK awQ V4 Jq Xf VH awR Xk awB okR XT ris
theorem ahw (s : List UInt8) : (ai4 s).2 = (Y8 43 s).all adS := by
  unfold ai4; split
  · rename_i h; rw [h]
  · rename_i h; simpa using h
structure wu (s : List UInt8) : Prop where
  colon : (58 : UInt8) ∉ s
  known : (Y8 43 s).all adS = true
  head : ∃ c r, s = c :: r ∧ c ≠ 45 ∧ c ≠ 33 ∧ c ≠ 43 ∧ c ≠ 64
def ac8 (s : List UInt8) : Bool := !s.contains 58 && (Y8 43 s).all adS && (match s with | c :: _ => c != 45 && c != 33 && c != 43 && c != 64 | [] => false)
theorem afF {s : List UInt8} (h : ac8 s = true) : wu s := by
  simp only [ac8, Bool.and_eq_true, Bool.not_eq_true'] at h
  refine ⟨by simpa using h.1.1, h.1.2, ?_⟩
  have h3 := h.2
  cases s with
  | nil => simp at h3
  | cons c r => simp at h3; exact ⟨c, r, rfl, h3.1.1.1, h3.1.1.2, h3.1.2, h3.2⟩
theorem afE : ∀ x ∈ aha, ac8 x = true := by decide
theorem wu.join {s t : List UInt8} (hs : wu s) (ht : t ∈ aha) : wu (s ++ [43] ++ t) := by
  have h2 := afF (afE t ht)
  refine ⟨?_, ?_, ?_⟩
  · simp only [List.mem_append, List.mem_singleton, not_or]; exact ⟨⟨hs.colon, by decide⟩, h2.colon⟩
  · rw [xC, List.all_append, hs.known, h2.known]; rfl
  · obtain ⟨c, r, rfl, h⟩ := hs.head
    exact ⟨c, r ++ [43] ++ t, by simp, h⟩
theorem wu.sign {s : List UInt8} (h : wu s) : ahu s = (0, s) := by
  obtain ⟨c, r, rfl, h1, h2, h3, _⟩ := h.head
  rw [ahu, if_neg (by simp [h1, h2, h3])]
theorem wu.okW {s : List UInt8} (h : wu s) : wordOk s = true := by rw [Av.wordOk, h.sign, ahw, h.known, Bool.or_true]
structure aee (s : List UInt8) (n : Nat) : Prop where
  few : s ≠ [] → (Y8 58 s).length ≤ n
  ok : s ≠ [] → ∀ w ∈ Y8 58 s, wordOk w = true
theorem aee.app {s t : List UInt8} {n m : Nat} (hs : aee s n) (ht : aee t m) (h1 : s ≠ []) (h2 : t ≠ []) : aee (s ++ [58] ++ t) (n + m) := by
  refine ⟨fun _ => ?_, fun _ x hx => ?_⟩
  · have := hs.few h1; have := ht.few h2; rw [xC]; simp; omega
  · rw [xC] at hx
    rcases List.mem_append.1 hx with hx | hx
    · exact hs.ok h1 x hx
    · exact ht.ok h2 x hx
end Av
end
section
set_option linter.unusedSimpArgs false
set_option linter.unusedVariables false
set_option maxRecDepth 10000
set_option maxHeartbeats 4000000
namespace Av
open Go
attribute [local irreducible] AWp XV WG WJ awS awC VK awQ V4 Jq Xf VH awR Xk awB okR XT ris
end Av
end
