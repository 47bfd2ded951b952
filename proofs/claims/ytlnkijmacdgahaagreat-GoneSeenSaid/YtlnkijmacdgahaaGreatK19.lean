/- K19 -/
import Derived.Test.YtlnkijmacdgahaaGreatK18
import Derived.Test.YtlnkijmacdgahaaGreatK12
import Derived.Test.YtlnkijmacdgahaaGreatK13
set_option linter.unusedVariables false
set_option linter.unusedSimpArgs false
noncomputable section
set_option maxRecDepth 10000
set_option maxHeartbeats 4000000
namespace Av
open Go
attribute [local irreducible] AWp VA K4 jR awS awC aa9 awQ abD QZ V9 aay awR Ug awB okR jL ris
def wA (c : UInt8) : List UInt8 → List UInt8 → List (List UInt8)
  | cur, [] => [cur]
  | cur, x :: r => if x = c then cur :: wA c [] r else wA c (cur ++ [x]) r
def wz (c : UInt8) (s : List UInt8) : List (List UInt8) := wA c [] s
def aq9 (L : List (List UInt8)) (x : JD) : Bool := L.all fun n => ap6 n x
def api (L : List (List UInt8)) (xs : List JD) : List Int := (xs.filter (aq9 L)).map JD.code
def aqX (s : List UInt8) : List Int × Bool := if (wz 43 s).all alm then (api (wz 43 s) WZ, true) else ([], false)
def aq8 (out : List Int) (x : Int) : Nat → Nat
  | 0 => 0
  | k + 1 => if aqV (out.getD k 0) < aqV x then aq8 out x k else k + 1
def aq7 (out : List Int) (x : Int) : List Int := out.take (aq8 out x out.length) ++ [x] ++ out.drop (aq8 out x out.length)
def aor : List UInt8 → UInt8 × List UInt8
  | [] => (0, [])
  | c :: r => if c = 45 ∨ c = 33 ∨ c = 43 then (c, r) else (0, c :: r)
abbrev arJ := List Int × List Int
def arR : List UInt8 := [64, 115, 116, 114, 101, 110, 103, 116, 104]
def wordOk (w : List UInt8) : Bool := w == arR || (aqX (aor w).2).2
structure aqH (p : arJ) : Prop where
  nd : p.1.Nodup
  rg : ∀ x ∈ p.1, 1 ≤ x ∧ x ≤ 16
  dj : ∀ x ∈ p.1, x ∉ p.2
theorem ap4 {l : List Int} (hn : l.Nodup) (hr : ∀ x ∈ l, 1 ≤ x ∧ x ≤ 16) : l.length ≤ 16 := by
  have hs : l ⊆ WZ.map JD.code := by
    intro x hx
    have h := hr x hx
    have e : WZ.map JD.code = [1, 2, 3, 4, 5, 6, 7, 8, 9, 10, 11, 12, 13, 14, 15, 16] := by decide
    rw [e]; simp; omega
  have := hn.length_le_of_subset hs
  have e : (WZ.map JD.code).length = 16 := by decide
  omega
theorem aqH.len {p : arJ} (h : aqH p) : p.1.length ≤ 16 := ap4 h.nd h.rg
theorem vY (c : UInt8) : ∀ (s cur t : List UInt8), wA c cur (s ++ c :: t) = wA c cur s ++ wA c [] t
  | [], cur, t => by simp [wA]
  | x :: r, cur, t => by
    rw [List.cons_append, wA, wA]
    split
    · rw [vY c r [] t]; rfl
    · exact vY c r _ t
theorem adL (c : UInt8) (s t : List UInt8) : wz c (s ++ [c] ++ t) = wz c s ++ wz c t := by
  rw [List.append_assoc, List.singleton_append]; exact vY c s [] t
end Av
end
