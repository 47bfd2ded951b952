/- strings.Join at this seat. -/
import Derived.Test.YtmekajmjncbhgaaDoorK15
import Derived.Test.YtmekajmjncbhgaaDoorK1
import Derived.Test.YtmekajmjncbhgaaDoorK21
set_option linter.unusedVariables false
set_option linter.unusedSimpArgs false
section
namespace Go.Proofs.YtmekajmjncbhgaaDoor.S8
open Go Av Go.RowKit
set_option maxRecDepth 100000
theorem aij : Own Tryd.prog 31 := ⟨Tryd.f31, Tryd.func31, by decide, _, rfl⟩
theorem af0 {Γ : Env} {f : FuncId} {xs : List (List UInt8)} {sep r : List UInt8}
    (h : ∀ w b o c, (∀ (j : Nat) x, (xs.map fun s => (⟨s.toArray⟩ : ByteArray))[j]? = some x → w.cell? ⟨b, o + j, none⟩ = some (.string x)) → b < w.heap.size → xs.length ≤ c → xs ≠ [] →
      W7 Γ.P f #[.slice (some ⟨b, o, none⟩) xs.length c, .string ⟨sep.toArray⟩] w fun e w' => e = .returned (.string ⟨r.toArray⟩) ∧ Below w.heap.size w w')
    (h0 : xs = [] → ∀ w a c, W7 Γ.P f #[.slice a 0 c, .string ⟨sep.toArray⟩] w fun e w' => e = .returned (.string ⟨r.toArray⟩) ∧ Below w.heap.size w w') :
    Ev Γ f [.sl 1 (xs.map V.str), V.str sep] [] (V.str r) [] := by
  intro C cargs hP hm hmu hg hF hsz hrep
  subst hP
  obtain ⟨v0, v1, rfl⟩ : ∃ v0 v1, cargs = #[v0, v1] := by
    have h2 : cargs.size = 2 := by simpa using hsz
    exact ⟨cargs[0], cargs[1], by apply Array.ext; · simpa using h2
                                  · intro i h1 h3
                                    match i, h3 with
                                    | 0, _ => rfl
                                    | 1, _ => rfl⟩
  have r0 : Rep C.w0 C.Z0 C.μ0 v0 (.sl 1 (xs.map V.str)) := hrep 0 (by simp) (by simp)
  have r1 : Rep C.w0 C.Z0 C.μ0 v1 (V.str sep) := hrep 1 (by simp) (by simp)
  obtain ⟨rfl, _⟩ := r1.scE
  obtain ⟨a, cap, rfl, hcap, hrow⟩ := r0.slE
  have fin : ∀ (e : Ending) (w' : World), (e = .returned (.string ⟨r.toArray⟩) ∧ Below C.w0.heap.size C.w0 w') → ∃ u Z' μ', e = .returned u ∧ Rep w' Z' μ' u (V.str r) ∧ Av.Good C w' Z' μ' (fun k => ([] : List Ob)[k]?) ∧ ∀ k, ([] : List Ob).length ≤ k → μ' k = none := by
    rintro e w' ⟨rfl, hb⟩
    exact ⟨_, C.Z0, C.μ0, rfl, .sc rfl, ⟨fun a x h => by simp at h, fun a b x y c d _ h => by simp at h, fun b i h => Nat.lt_of_lt_of_le (hg.zlt b i h) hb.size, hb.size, fun b h _ => hb.block b h, fun b i h => .inl h, fun b i h => h, fun b i h => by simp [World.cell?, hb.block b (hg.zlt b i h)], fun k _ => rfl, ⟨hb.os, hb.tape, hb.output⟩⟩, fun k hk => hmu k (by simp)⟩
  by_cases hx : xs = []
  · subst hx
    exact (h0 rfl C.w0 a cap).mono fin
  · obtain ⟨bb, oo, rfl, hr, hz⟩ := hrow (by simpa using hx)
    have hl : (xs.map V.str).length = xs.length := by simp
    rw [hl] at hcap ⊢
    have hpos : 0 < xs.length := by cases xs with | nil => exact absurd rfl hx | cons _ _ => simp
    have hb : bb < C.w0.heap.size := hg.zlt bb _ (hz 0 (by simpa using hpos) 0 (by simp [V.cells]))
    refine (h C.w0 bb oo cap (fun j x hj => ?_) hb hcap hx).mono fin
    obtain ⟨hj1, hj2⟩ := List.getElem?_eq_some_iff.1 hj
    have hj3 : j < xs.length := by simpa using hj1
    obtain ⟨_, hc⟩ := hr j (by simpa using hj3)
    obtain ⟨v, e1, _, e3⟩ := hc 0 (by simp [V.cells])
    have e4 : Rep C.w0 C.Z0 noμ v (V.str xs[j]) := by simpa [V.cells] using e3
    obtain ⟨rfl, _⟩ := e4.scE
    have : x = ⟨(xs[j]).toArray⟩ := by rw [← hj2]; simp
    rw [this]
    simpa using e1
theorem aaG (W : World) (_hW : WOK W) : j7 (Ys Tryd.prog W) 31 := by
  intro xs sep hn hl
  refine ⟨af0 (fun w b o c hc hb hcap hx => ?_) (fun hx w a c => ?_), trivial, trivial⟩
  · have e1 : ((xs.map fun s => (⟨s.toArray⟩ : ByteArray)).map (·.data.toList)) = xs := by
      rw [List.map_map]
      conv => rhs; rw [← List.map_id xs]
      exact List.map_congr_left fun s _ => by simp
    have hjo : Lib.join ((xs.map fun s => (⟨s.toArray⟩ : ByteArray)).map (·.data.toList)) (⟨sep.toArray⟩ : ByteArray).data.toList = sep.intercalate xs := by rw [e1]; simp [Lib.join]
    have hlen : (xs.map fun s => (⟨s.toArray⟩ : ByteArray)).length = xs.length := by simp
    have := Tryd.strings_Join b o c (xs.map fun s => ⟨s.toArray⟩) ⟨sep.toArray⟩ w hc hb (by omega) (by omega) (by rw [hjo]; omega)
    rw [hjo, hlen] at this
    exact (Uh aij _ _ _).2 this
  · subst hx
    exact (Uh aij _ _ _).2 ((Tryd.strings_Join_none a c ⟨sep.toArray⟩ w).mono fun e w' ⟨he, hw⟩ => ⟨by rw [he]; simp [List.intercalate], hw ▸ Below.refl _ _⟩)
end Go.Proofs.YtmekajmjncbhgaaDoor.S8
end
