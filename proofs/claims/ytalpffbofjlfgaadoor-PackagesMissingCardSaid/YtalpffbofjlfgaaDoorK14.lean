/- A nil slice in a variable may be seen as a header of an empty buffer of one's own. -/
import Derived.Test.YtalpffbofjlfgaaDoorK13
set_option linter.unusedVariables false
set_option linter.unusedSimpArgs false
section
set_option linter.unusedSimpArgs false
set_option linter.unusedVariables false
set_option maxRecDepth 10000
set_option maxHeartbeats 4000000
namespace Av
open Go
attribute [local irreducible] AWp Y0 Xe Xo awS awC Wo awQ Wp QS JT Wm awR JV awB okR Y6 ris
end Av
end
section
namespace Av
open Go
theorem Good.adopt {C : Ctx} {w : World} {Z : Nat → Nat → Prop} {μ : Nat → Option Cn} {o : Nat → Option Ob} (h : Good C w Z μ o) {x i n sz : Nat} {wr : Bool} {cells : List V}
    (ho : o x = some (.box wr cells)) (hi : cells[i]? = some (.sc (.slice none 0 0))) (hn : μ n = none) (hm : C.m ≤ n) :
    Good C w Z (upd μ n (some { block := 0, void := true })) (upd (upd o x (some (.box wr (cells.set i (.hd n 0 0))))) n (some (.buf true sz []))) := by
  have hon := h.free hn
  have hxn : x ≠ n := by rintro rfl; rw [hon] at ho; cases ho
  have hmu := W2 (c := { block := 0, void := true }) hn
  have old : ∀ a y, a ≠ n → upd (upd o x (some (.box wr (cells.set i (.hd n 0 0))))) n (some (.buf true sz [])) a = some y → ∃ z c, o a = some z ∧ μ a = some c ∧ (y.live c ↔ z.live c) ∧ Uk w Z (upd μ n (some { block := 0, void := true })) c y ∧ (z.live c → c.block < w.heap.size ∧ (C.w0.heap.size ≤ c.block ∨ C.F c.block)) := by
    intro a y han hy
    rw [QT _ _ han] at hy
    by_cases hax : a = x
    · subst hax
      rw [Qr] at hy; cases hy
      obtain ⟨c, hc, ⟨h1, ⟨cs, ty, h2, h3, h4⟩, h5⟩, hl⟩ := h.ob _ _ ho
      refine ⟨_, c, ho, hc, Iff.rfl, ⟨h1, ⟨cs, ty, h2, by simpa using h3, fun j hj hj' => ?_⟩, h5⟩, hl⟩
      have hj2 : j < cells.length := by simpa using hj
      have h6 := h4 j hj2 hj'
      refine ⟨?_, h6.2⟩
      by_cases hji : j = i
      · subst hji
        rw [List.getElem_set_self]
        have h7 : cells[j] = .sc (.slice none 0 0) := by rw [List.getElem?_eq_getElem hj2] at hi; exact Option.some.inj hi
        have h8 := h6.1
        rw [h7] at h8
        generalize cs[j] = v at h8
        cases h8
        exact .hd (Qr _ _ _) (by simp [Hdr])
      · rw [List.getElem_set_ne (fun e => hji e.symm)]
        exact h6.1.mono (fun _ _ _ => rfl) (fun _ _ h => h) hmu
    · rw [QT _ _ hax] at hy
      obtain ⟨c, hc, hok, hl⟩ := h.ob a y hy
      exact ⟨y, c, hy, hc, Iff.rfl, hok.mono (fun _ _ _ => rfl) (fun _ _ h => h) hmu (fun _ => rfl) (fun _ _ h => h), hl⟩
  refine ⟨fun a y hy => ?_, fun a b y z c d hab hy hz hc hd lc ld => ?_, h.zlt, h.grow, h.frame, h.zsub, h.zsup, h.zkeep, fun k hk => ?_, h.oo⟩
  · by_cases han : a = n
    · subst han
      rw [Qr] at hy; cases hy
      exact ⟨_, Qr _ _ _, ⟨rfl, fun hv => by cases hv⟩, fun hl => by cases hl⟩
    · obtain ⟨z, c, h1, h2, h3, h4, h5⟩ := old a y han hy
      exact ⟨c, hmu a c h2, h4, fun hl => h5 (h3.1 hl)⟩
  · by_cases han : a = n
    · subst han
      rw [Qr] at hy hc; cases hy; cases hc; cases lc
    by_cases hbn : b = n
    · subst hbn
      rw [Qr] at hz hd; cases hz; cases hd; cases ld
    obtain ⟨y', c', h1, h2, h3, _⟩ := old a y han hy
    obtain ⟨z', d', g1, g2, g3, _⟩ := old b z hbn hz
    have e1 := hmu a c' h2; rw [hc] at e1; cases e1
    have e2 := hmu b d' g2; rw [hd] at e2; cases e2
    exact h.sep a b y' z' c d hab h1 g1 h2 g2 (h3.1 lc) (g3.1 ld)
  · rw [QT _ _ (by omega)]; exact h.fix k hk
section
variable {C : Ctx} {nt : Nat} {s : St} {K : St → Prop} {E : Nat → St → Prop} {R : St → Prop}
theorem abC {c : AC} (x i sz : Nat) {wr : Bool} {cells : List V} (ho : s.o x = some (.box wr cells)) (hi : cells[i]? = some (.sc (.slice none 0 0)))
    (h : AWp C nt c { t := s.t, o := upd (upd s.o x (some (.box wr (cells.set i (.hd s.n 0 0))))) s.n (some (.buf true sz [])), n := s.n + 1 } K E R) : AWp C nt c s K E R := by
  intro code hc a w hs
  obtain ⟨Z, μ, hg, ht, hf, hm, hd, hn⟩ := hs
  refine h code hc a w ⟨Z, _, hg.adopt ho hi (hf _ (Nat.le_refl _)) hm, fun j => (ht j).mono (fun _ _ _ => rfl) (fun _ _ h => h) (W2 (hf _ (Nat.le_refl _))), fun y hy => ?_, by show C.m ≤ s.n + 1; omega, hd, hn⟩
  have hy2 : s.n + 1 ≤ y := hy
  rw [QT _ _ (by omega)]
  exact hf y (by omega)
end
end Av
end
section
namespace Av
open Go
theorem Good.move {C : Ctx} {w : World} {Z : Nat → Nat → Prop} {μ : Nat → Option Cn} {o : Nat → Option Ob} (h : Good C w Z μ o) {x i a n off len sz : Nat} {wr wr2 : Bool} {cells xs : List V} {c : Cn}
    (ho : o x = some (.box wr cells)) (hi : cells[i]? = some (.hd a off len)) (ha : o a = some (.buf wr2 sz xs)) (hc : μ a = some c) (hn : μ n = none) (hm : C.m ≤ n) :
    Good C w Z (upd μ n (some c)) (upd (upd (upd o a (some .dead)) x (some (.box wr (cells.set i (.hd n off len))))) n (some (.buf wr2 sz xs))) := by
  have hon := h.free hn
  have hxn : x ≠ n := by rintro rfl; rw [hon] at ho; cases ho
  have han : a ≠ n := by rintro rfl; rw [hon] at ha; cases ha
  have hxa : x ≠ a := by rintro rfl; rw [ho] at ha; cases ha
  have hmu := W2 (c := c) hn
  have old : ∀ b y, upd (upd (upd o a (some .dead)) x (some (.box wr (cells.set i (.hd n off len))))) n (some (.buf wr2 sz xs)) b = some y →
      (b = a ∧ y = .dead) ∨ ∃ z d, o (if b = n then a else b) = some z ∧ μ (if b = n then a else b) = some d ∧ upd μ n (some c) b = some d ∧ (y.live d ↔ z.live d) ∧ Uk w Z (upd μ n (some c)) d y ∧ (z.live d → d.block < w.heap.size ∧ (C.w0.heap.size ≤ d.block ∨ C.F d.block)) ∧ (b ≠ a) := by
    intro b y hy
    by_cases hbn : b = n
    · subst hbn
      rw [Qr] at hy; cases hy
      obtain ⟨d, hd, hok, hl⟩ := h.ob _ _ ha
      rw [hc] at hd; cases hd
      exact .inr ⟨_, c, by rw [if_pos rfl]; exact ha, by rw [if_pos rfl]; exact hc, Qr _ _ _, Iff.rfl, hok.mono (fun _ _ _ => rfl) (fun _ _ h => h) hmu (fun _ => rfl) (fun _ _ h => h), hl, fun e => han e.symm⟩
    · rw [QT _ _ hbn] at hy
      rw [if_neg hbn, QT _ _ hbn]
      by_cases hbx : b = x
      · subst hbx
        rw [Qr] at hy; cases hy
        obtain ⟨d, hd, ⟨h1, ⟨cs, ty, h2, h3, h4⟩, h5⟩, hl⟩ := h.ob _ _ ho
        refine .inr ⟨_, d, ho, hd, hd, Iff.rfl, ⟨h1, ⟨cs, ty, h2, by simpa using h3, fun j hj hj' => ?_⟩, h5⟩, hl, hxa⟩
        have hj2 : j < cells.length := by simpa using hj
        have h6 := h4 j hj2 hj'
        refine ⟨?_, h6.2⟩
        by_cases hji : j = i
        · subst hji
          rw [List.getElem_set_self]
          have h7 : cells[j] = .hd a off len := by rw [List.getElem?_eq_getElem hj2] at hi; exact Option.some.inj hi
          have h8 := h6.1
          rw [h7] at h8
          generalize cs[j] = v at h8
          cases h8
          rename_i c' hc' hv
          rw [hc] at hc'; cases hc'
          exact .hd (Qr _ _ _) hv
        · rw [List.getElem_set_ne (fun e => hji e.symm)]
          exact h6.1.mono (fun _ _ _ => rfl) (fun _ _ h => h) hmu
      · rw [QT _ _ hbx] at hy
        by_cases hba : b = a
        · subst hba
          rw [Qr] at hy; cases hy
          exact .inl ⟨rfl, rfl⟩
        · rw [QT _ _ hba] at hy
          obtain ⟨d, hd, hok, hl⟩ := h.ob b y hy
          exact .inr ⟨y, d, hy, hd, hd, Iff.rfl, hok.mono (fun _ _ _ => rfl) (fun _ _ h => h) hmu (fun _ => rfl) (fun _ _ h => h), hl, hba⟩
  refine ⟨fun b y hy => ?_, fun b d y z e f hbd hy hz he hf lb ld => ?_, h.zlt, h.grow, h.frame, h.zsub, h.zsup, h.zkeep, fun k hk => ?_, h.oo⟩
  · rcases old b y hy with ⟨rfl, rfl⟩ | ⟨z, d, h1, h2, h3, h4, h5, h6, _⟩
    · exact ⟨c, hmu _ _ hc, trivial, fun hl => hl.elim⟩
    · exact ⟨d, h3, h5, fun hl => h6 (h4.1 hl)⟩
  · rcases old b y hy with ⟨rfl, rfl⟩ | ⟨y', e', h1, h2, h3, h4, _, _, h7⟩
    · exact lb.elim
    · rcases old d z hz with ⟨rfl, rfl⟩ | ⟨z', f', g1, g2, g3, g4, _, _, g7⟩
      · exact ld.elim
      · rw [he] at h3; cases h3
        rw [hf] at g3; cases g3
        refine h.sep _ _ y' z' _ _ ?_ h1 g1 h2 g2 (h4.1 lb) (g4.1 ld)
        by_cases hbn : b = n
        · subst hbn
          rw [if_pos rfl, if_neg (fun e => hbd e.symm)]
          exact fun e => g7 e.symm
        · rw [if_neg hbn]
          by_cases hdn : d = n
          · subst hdn; rw [if_pos rfl]; exact h7
          · rw [if_neg hdn]; exact hbd
  · rw [QT _ _ (by omega)]; exact h.fix k hk
section
variable {C : Ctx} {nt : Nat} {s : St} {K : St → Prop} {E : Nat → St → Prop} {R : St → Prop}
end
end Av
end
section
set_option linter.unusedSimpArgs false
set_option linter.unusedVariables false
set_option maxRecDepth 10000
set_option maxHeartbeats 4000000
namespace Av
open Go
attribute [local irreducible] AWp Y0 Xe Xo awS awC Wo awQ Wp QS JT Wm awR JV awB okR Y6 ris
def acY : List UInt8 → UInt8 × List UInt8
  | [] => (0, [])
  | c :: r => if c = 45 ∨ c = 33 ∨ c = 43 then (c, r) else (0, c :: r)
abbrev aeP := List Int × List Int
def aem : List UInt8 := [64, 115, 116, 114, 101, 110, 103, 116, 104]
def wordOk (w : List UInt8) : Bool := w == aem || (aen (acY w).2).2
structure aeh (p : aeP) : Prop where
  nd : p.1.Nodup
  rg : ∀ x ∈ p.1, 1 ≤ x ∧ x ≤ 16
  dj : ∀ x ∈ p.1, x ∉ p.2
theorem adP {l : List Int} (hn : l.Nodup) (hr : ∀ x ∈ l, 1 ≤ x ∧ x ≤ 16) : l.length ≤ 16 := by
  have hs : l ⊆ qo.map Vh.code := by
    intro x hx
    have h := hr x hx
    have e : qo.map Vh.code = [1, 2, 3, 4, 5, 6, 7, 8, 9, 10, 11, 12, 13, 14, 15, 16] := by decide
    rw [e]; simp; omega
  have := hn.length_le_of_subset hs
  have e : (qo.map Vh.code).length = 16 := by decide
  omega
theorem aeh.len {p : aeP} (h : aeh p) : p.1.length ≤ 16 := adP h.nd h.rg
end Av
end
section
set_option linter.unusedSimpArgs false
set_option linter.unusedVariables false
set_option maxRecDepth 10000
set_option maxHeartbeats 4000000
namespace Av
open Go
attribute [local irreducible] AWp Y0 Xe Xo awS awC Wo awQ Wp QS JT Wm awR JV awB okR Y6 ris
theorem qv (c : UInt8) : ∀ (s cur t : List UInt8), YF c cur (s ++ c :: t) = YF c cur s ++ YF c [] t
  | [], cur, t => by simp [YF]
  | x :: r, cur, t => by
    rw [List.cons_append, YF, YF]
    split
    · rw [qv c r [] t]; rfl
    · exact qv c r _ t
theorem qr (c : UInt8) (s t : List UInt8) : YT c (s ++ [c] ++ t) = YT c s ++ YT c t := by
  rw [List.append_assoc, List.singleton_append]; exact qv c s [] t
theorem jD (c : UInt8) : ∀ (s cur : List UInt8), c ∉ s → YF c cur s = [cur ++ s]
  | [], cur, _ => by simp [YF]
  | x :: r, cur, h => by
    simp only [List.mem_cons, not_or] at h
    rw [YF, if_neg (fun e => h.1 e.symm), jD c r _ h.2]; simp
end Av
end
section
namespace Av
open Go
@[go_sem] theorem adn (l : List Int) : (∀ y ∈ l.map V.int, y.cells.length = 1) = True := eq_true (by intro y hy; simp only [List.mem_map] at hy; obtain ⟨x, _, rfl⟩ := hy; rfl)
@[go_sem] theorem adm (l : List (List UInt8)) : (∀ y ∈ l.map V.str, y.cells.length = 1) = True := eq_true (by intro y hy; simp only [List.mem_map] at hy; obtain ⟨x, _, rfl⟩ := hy; rfl)
end Av
end
section
set_option linter.unusedSimpArgs false
set_option linter.unusedVariables false
set_option maxRecDepth 10000
set_option maxHeartbeats 4000000
namespace Av
open Go
attribute [local irreducible] AWp Y0 Xe Xo awS awC Wo awQ Wp QS JT Wm awR JV awB okR Y6 ris
theorem WM {α β : Type} (f : α → β) (l : List α) : (l.map f).take l.length = l.map f := by rw [List.take_of_length_le (by simp)]
end Av
end
section
set_option linter.unusedSimpArgs false
set_option linter.unusedVariables false
set_option maxRecDepth 10000
set_option maxHeartbeats 4000000
namespace Av
open Go
attribute [local irreducible] AWp Y0 Xe Xo awS awC Wo awQ Wp QS JT Wm awR JV awB okR Y6 ris
theorem qt (c : UInt8) : ∀ (r cur w : List UInt8), w ∈ YF c cur r → w.length ≤ cur.length + r.length
  | [], cur, w, h => by simp only [YF, List.mem_singleton] at h; subst h; simp
  | x :: r, cur, w, h => by
    rw [YF] at h
    split at h
    · rcases List.mem_cons.1 h with rfl | h
      · simp
      · have := qt c r [] w h; simp at this ⊢; omega
    · have := qt c r _ w h; simp at this ⊢; omega
theorem vJ {c : UInt8} {s w : List UInt8} (h : w ∈ YT c s) : w.length ≤ s.length := by simpa using qt c s [] w h
end Av
end
section
set_option linter.unusedSimpArgs false
set_option linter.unusedVariables false
set_option maxRecDepth 10000
set_option maxHeartbeats 4000000
namespace Av
open Go
attribute [local irreducible] AWp Y0 Xe Xo awS awC Wo awQ Wp QS JT Wm awR JV awB okR Y6 ris
def Uo (Γ : Env) (f : Nat) : Prop := ∀ (s : List UInt8) (c : UInt8) (hs : s.length < 4294967281), EvC Γ f [V.str s, V.str [c]] (.sl 1 ((YT c s).map V.str))
end Av
end
section
set_option linter.unusedSimpArgs false
set_option linter.unusedVariables false
set_option maxRecDepth 10000
set_option maxHeartbeats 4000000
namespace Av
open Go
attribute [local irreducible] AWp Y0 Xe Xo awS awC Wo awQ Wp QS JT Wm awR JV awB okR Y6 ris
end Av
end
section
set_option linter.unusedSimpArgs false
set_option linter.unusedVariables false
set_option maxRecDepth 10000
set_option maxHeartbeats 4000000
namespace Av
open Go
attribute [local irreducible] AWp Y0 Xe Xo awS awC Wo awQ Wp QS JT Wm awR JV awB okR Y6 ris
end Av
end
