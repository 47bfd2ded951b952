/- What the seat's first world gives, and the library's contracts there. -/
import Derived.Test.YtdjmgokhpganaaaDoorProg
import Derived.Test.YtdjmgokhpganaaaDoorShelf
import Derived.Test.YtdjmgokhpganaaaDoorAv3
import Derived.Test.YtdjmgokhpganaaaDoorCat
set_option linter.unusedVariables false
set_option linter.unusedSimpArgs false
section
namespace Go.Proofs.YtdjmgokhpganaaaDoor
open Go Av Go.RowKit
set_option maxRecDepth 100000

/-- What is known of package-level variables when the law is called. -/
structure WOK (W : World) : Prop where
  maxLen : ∃ m, W.cell? ⟨0, 0, none⟩ = some (.int .i64 m)
  pow : Lib.TabIs Tryd.prog W "internal/strconv.uint64pow10" .u64 Lib.pow10Tab
  syn : ∃ t p, W.cell? ⟨1, 0, none⟩ = some (.iface t p)
  rng : ∃ t p, W.cell? ⟨2, 0, none⟩ = some (.iface t p)

/-- The blocks of the first world are there. -/
def Keeps (W w : World) : Prop := ∀ b x, (envW Tryd.prog W).kn b = some x → w.heap[b]? = some x

theorem Keeps.cell {W w : World} (h : Keeps W w) {b i : Nat} {v : Value} (hc : W.cell? ⟨b, i, none⟩ = some v) : w.cell? ⟨b, i, none⟩ = some v := by
  unfold World.cell? at hc ⊢
  cases hb : W.heap[b]? with
  | none => simp [hb] at hc
  | some x => rw [h b x hb]; rw [hb] at hc; exact hc

theorem Keeps.tab {W w : World} (h : Keeps W w) {n : String} {k : IntKind} {zs : List Int} (ht : Lib.TabIs Tryd.prog W n k zs) : Lib.TabIs Tryd.prog w n k zs := by
  unfold Lib.TabIs World.var? at ht ⊢
  cases hg : Tryd.prog.globalNamed n with
  | none => simp [hg] at ht
  | some g =>
    simp only [hg, Option.bind_some] at ht ⊢
    cases hb : W.heap[g]? with
    | none => simp [hb] at ht
    | some x => rw [h g x hb]; rw [hb] at ht; exact ht

theorem WOK.keeps {W w : World} (hW : WOK W) (h : Keeps W w) : WOK w :=
  ⟨by obtain ⟨m, hm⟩ := hW.maxLen; exact ⟨m, h.cell hm⟩, h.tab hW.pow, by obtain ⟨t, p, hm⟩ := hW.syn; exact ⟨t, p, h.cell hm⟩, by obtain ⟨t, p, hm⟩ := hW.rng; exact ⟨t, p, h.cell hm⟩⟩

theorem own75 : Own Tryd.prog 75 := ⟨Tryd.f75, Tryd.func75, by decide, _, rfl⟩
theorem own76 : Own Tryd.prog 76 := ⟨Tryd.f76, Tryd.func76, by decide, _, rfl⟩
theorem own81 : Own Tryd.prog 81 := ⟨Tryd.f81, Tryd.func81, by decide, _, rfl⟩

theorem str_sz {s : List UInt8} : (⟨s.toArray⟩ : ByteArray).size = s.length := str_size s

theorem rep_str {w : World} {Z : Nat → Nat → Prop} {μ : Nat → Option Cn} {s : List UInt8} : Rep w Z μ (.string ⟨s.toArray⟩) (V.str s) := .sc rfl

theorem E_strings_Cut (W : World) (hW : WOK W) : CE_strings_Cut (envW Tryd.prog W) 75 := by
  intro s sep hs
  refine ⟨ev_lib (cv := [.string ⟨s.toArray⟩, .string ⟨sep.toArray⟩]) (res := .tuple #[.string ⟨(Lib.cut s sep).1.toArray⟩, .string ⟨(Lib.cut s sep).2.1.toArray⟩, .bool (Lib.cut s sep).2.2]) ?_ ?_, ?_, ?_⟩
  · intro w Z μ
    refine .tup rfl fun j h h' => ?_
    match j, h with
    | 0, _ => exact .sc rfl
    | 1, _ => exact .sc rfl
    | 2, _ => exact .sc rfl
  · intro w hk
    obtain ⟨m, hm⟩ := (hW.keeps hk).maxLen
    have := Tryd.strings_Cut ⟨s.toArray⟩ ⟨sep.toArray⟩ m w (by rw [str_sz]; exact hs) hm
    show CallsF Tryd.prog 75 _ w _
    refine (callsF_own own75 _ _ _).2 (this.mono fun e w' ⟨he, n, hw⟩ => ?_)
    subst he; subst hw
    exact ⟨by simp, Nat.le_refl _, fun _ _ => rfl, ⟨rfl, rfl, rfl⟩⟩
  · simp only [V.closed, closedL, and_self]
  · simp only [V.noSl, noSlL, and_self]

theorem E_strconv_Itoa (W : World) (hW : WOK W) : CE_strconv_Itoa (envW Tryd.prog W) 81 := by
  intro n h0 h1
  refine ⟨ev_lib (cv := [.int .i64 n]) (res := .string ⟨(Lib.itoa n).toArray⟩) (fun _ _ _ => .sc rfl) ?_, trivial, trivial⟩
  intro w hk
  have := Tryd.strconv_Itoa n h0 h1 w (hW.keeps hk).pow
  show CallsF Tryd.prog 81 _ w _
  refine (callsF_own own81 _ _ _).2 (this.mono fun e w' ⟨he, k, os, hw⟩ => ?_)
  subst he; subst hw
  refine ⟨rfl, ?_, fun b hb => ?_, ⟨rfl, rfl, rfl⟩⟩
  · simp [Go.Sort.grow]
  · have hb' : b < (w.drewN k).heap.size := hb
    simp only [Go.Sort.grow, Array.getElem?_append, if_pos hb']
    rfl

theorem below_bytes (w : World) (t : ByteArray) : Below w.heap.size w (Lib.bytesWorld w 5 t) :=
  ⟨rfl, rfl, rfl, by rw [Lib.bytesWorld_size]; omega, fun k hk => Lib.bytesWorld_at_old w 5 t k hk⟩

/-- A contract of the library whose second result is of no interest. -/
theorem ev_pair {Γ : Env} {f : FuncId} {cv : List Value} {rv : Value} {v : V} (hr : ∀ w Z μ, Rep w Z μ rv v)
    (h : ∀ w, (∀ b x, Γ.kn b = some x → w.heap[b]? = some x) → CallsF Γ.P f cv.toArray w fun e w' => (∃ x, e = .returned (.tuple #[rv, x])) ∧ Below w.heap.size w w') : Ev Γ f (cv.map .sc) [] (.tup [v, .top]) [] := by
  intro C cargs hP hm hmu hg hF hsz hrep
  subst hP
  have hargs : cargs = cv.toArray := by
    apply Array.ext
    · simpa using hsz
    · intro i h1 h2
      have := hrep i (by simpa using h2) h1
      simp only [List.getElem_map] at this
      simpa using this.scE.1
  subst hargs
  have mono : ∀ (e : Ending) (w' : World), ((∃ x, e = .returned (.tuple #[rv, x])) ∧ Below C.w0.heap.size C.w0 w') → ∃ u Z' μ', e = .returned u ∧ Rep w' Z' μ' u (.tup [v, .top]) ∧ Av.Good C w' Z' μ' (fun k => ([] : List Ob)[k]?) ∧ ∀ k, ([] : List Ob).length ≤ k → μ' k = none := by
    rintro e w' ⟨⟨x, rfl⟩, hb⟩
    refine ⟨_, C.Z0, C.μ0, rfl, .tup rfl (fun j h h' => ?_), ⟨fun a x h => by simp at h, fun a b x y c d _ h => by simp at h, fun b i h => Nat.lt_of_lt_of_le (hg.zlt b i h) hb.size, hb.size, fun b h _ => hb.block b h, fun b i h => .inl h, fun b i h => h, fun b i h => by simp [World.cell?, hb.block b (hg.zlt b i h)], fun k _ => rfl, ⟨hb.os, hb.tape, hb.output⟩⟩, fun k hk => hmu k (by simp)⟩
    match j, h with
    | 0, _ => exact hr _ _ _
    | 1, _ => exact .top
  have := h C.w0 (fun b x h => (C.hkn b x h).1)
  simp only [CallsF, Ctx.env] at this ⊢
  split at this
  · exact mono _ _ this
  · exact Calls.mono this (fun e w' h => mono e w' h)
  · exact Rows.mono this (fun v w' h => mono _ _ h)
  · exact this.elim

theorem E_strconv_Atoi (W : World) (hW : WOK W) : CE_strconv_Atoi (envW Tryd.prog W) 76 := by
  intro s hs
  have sz : (⟨s.toArray⟩ : ByteArray).size = s.length := str_size s
  refine ⟨ev_pair (cv := [.string ⟨s.toArray⟩]) (rv := .int .i64 (atoiV s)) (fun _ _ _ => .sc rfl) ?_, ?_, ?_⟩
  · intro w hk
    have hw := hW.keeps hk
    show CallsF Tryd.prog 76 _ w _
    refine (callsF_own own76 _ _ _).2 ?_
    rcases ha : Lib.atoiAll s with v | _ | _
    · skip
      have := Tryd.strconv_Atoi_ok ⟨s.toArray⟩ (by omega) v (by simpa using ha) w
      refine this.mono fun e w' ⟨he, hw'⟩ => ?_
      subst he
      refine ⟨⟨.nilIface, by simp [atoiV, ha]⟩, ?_⟩
      rcases hw' with rfl | ⟨t, rfl⟩
      · exact Below.refl _ _
      · exact below_bytes _ _
    · skip
      obtain ⟨t, p, hc⟩ := hw.syn
      have := Tryd.strconv_Atoi_syntax ⟨s.toArray⟩ (by omega) (by simpa using ha) _ w hc (.inr ⟨t, p, rfl⟩)
      refine this.mono fun e w' ⟨N, he, _, _, hb⟩ => ?_
      subst he
      exact ⟨⟨_, by simp only [atoiV, ha]; rfl⟩, hb⟩
    · skip
      obtain ⟨t, p, hc⟩ := hw.rng
      have := Tryd.strconv_Atoi_range ⟨s.toArray⟩ (by omega) (by simpa using ha) _ w hc (.inr ⟨t, p, rfl⟩)
      refine this.mono fun e w' ⟨N, he, _, _, hb⟩ => ?_
      subst he
      exact ⟨⟨_, by simp only [atoiV, ha]; rfl⟩, hb⟩
  · simp only [V.closed, closedL, and_self]
  · simp only [V.noSl, noSlL, and_self]

end Go.Proofs.YtdjmgokhpganaaaDoor
end
