/- What the first world of the lists' rows gives, and the library's contracts there. -/
import Derived.Test.YtmekajmjncbhgaaDoorProg
import Derived.Test.YtmekajmjncbhgaaDoorK1
import Derived.Test.YtmekajmjncbhgaaDoorK10
import Derived.Test.YtmekajmjncbhgaaDoorK14
import Derived.Lib.SplitLaws
set_option linter.unusedVariables false
set_option linter.unusedSimpArgs false
section
namespace Go.Proofs.YtmekajmjncbhgaaDoor.S8
open Go Av Go.RowKit
set_option maxRecDepth 100000
structure WOK (W : World) : Prop where
  maxLen : ∃ m, W.cell? ⟨0, 0, none⟩ = some (.int .i64 m)
def ah5 (W w : World) : Prop := ∀ b x, (Ys Tryd.prog W).kn b = some x → w.heap[b]? = some x
theorem ah5.cell {W w : World} (h : ah5 W w) {b i : Nat} {v : Value} (hc : W.cell? ⟨b, i, none⟩ = some v) : w.cell? ⟨b, i, none⟩ = some v := by
  unfold World.cell? at hc ⊢
  cases hb : W.heap[b]? with
  | none => simp [hb] at hc
  | some x => rw [h b x hb]; rw [hb] at hc; exact hc
theorem WOK.keeps {W w : World} (hW : WOK W) (h : ah5 W w) : WOK w := ⟨by obtain ⟨m, hm⟩ := hW.maxLen; exact ⟨m, h.cell hm⟩⟩
theorem aiS : Own Tryd.prog 22 := ⟨Tryd.f22, Tryd.func22, by decide, _, rfl⟩
theorem aiR : Own Tryd.prog 40 := ⟨Tryd.f40, Tryd.func40, by decide, _, rfl⟩
theorem aiQ : Own Tryd.prog 65 := ⟨Tryd.f65, Tryd.func65, by decide, _, rfl⟩
theorem adS (c : UInt8) : ∀ (p t : List UInt8), c ∉ p → Lib.index (p ++ c :: t) [c] = (p.length : Int)
  | [], t, _ => by rw [List.nil_append, Lib.index]; simp [List.isPrefixOf]
  | x :: p, t, h => by
    simp only [List.mem_cons, not_or] at h
    have hp : ([c] : List UInt8).isPrefixOf (x :: (p ++ c :: t)) = false := by simp [List.isPrefixOf, h.1]
    rw [List.cons_append, Lib.index, hp, adS c p t h.2]
    have : ¬ ((p.length : Int) == -1) = true := by simp
    simp only [Bool.false_eq_true, if_false]
    rw [if_neg this]; simp
theorem aaM (c : UInt8) : ∀ (p cur t : List UInt8), c ∉ p → Xu c cur (p ++ c :: t) = (cur ++ p) :: Xu c [] t
  | [], cur, t, _ => by simp [Xu]
  | x :: p, cur, t, h => by
    simp only [List.mem_cons, not_or] at h
    rw [List.cons_append, Xu, if_neg (fun e => h.1 e.symm), aaM c p _ t h.2]; simp
theorem aaL (c : UInt8) : ∀ (n : Nat) (s : List UInt8), s.count c = n → Lib.splitK [c] 0 n s = JW c s
  | 0, s, h => by
    have hn : c ∉ s := List.count_eq_zero.1 h
    have : JW c s = [s] := by simpa [JW] using vg c s [] hn
    rw [this]; rfl
  | n + 1, s, h => by
    have hm : c ∈ s := List.count_pos_iff.1 (by omega)
    obtain ⟨p, t, rfl, hp⟩ := List.eq_append_cons_of_mem hm
    rw [Lib.splitK, adS c p t hp]
    have : ¬ ((p.length : Int) == -1) = true := by simp
    rw [if_neg this]
    have h2 : t.count c = n := by
      rw [List.count_append, List.count_cons_self, List.count_eq_zero.2 hp] at h; omega
    have e1 : (p ++ c :: t).take ((p.length : Int).toNat + 0) = p := by simp
    have e2 : (p ++ c :: t).drop ((p.length : Int).toNat + [c].length) = t := by simp
    rw [e1, e2, aaL c n t h2]
    show p :: JW c t = Xu c [] (p ++ c :: t)
    rw [aaM c p [] t hp]; rfl
theorem KM (c : UInt8) : ∀ (s cur : List UInt8), (Xu c cur s).length = s.count c + 1
  | [], cur => by simp [Xu]
  | x :: s, cur => by
    rw [Xu]; split
    · rename_i h; subst h; rw [List.length_cons, KM x s [], List.count_cons_self]
    · rename_i h; rw [KM c s, List.count_cons_of_ne (by simpa using h)]
theorem ahJ {Γ : Env} {f : FuncId} {cv : List Value} {xs : List (List UInt8)}
    (h : ∀ w, (∀ b x, Γ.kn b = some x → w.heap[b]? = some x) → W7 Γ.P f cv.toArray w fun e w' => ∃ t : TypeId, e = .returned (.slice (some ⟨w.heap.size, 0, none⟩) xs.length xs.length) ∧ w' = w.alloc (.cells ((xs.map fun s => Value.string ⟨s.toArray⟩).toArray) t)) :
    Ev Γ f (cv.map .sc) [] (.sl 1 (xs.map V.str)) [] := by
  intro C cargs hP hm hmu hg hF hsz hrep
  subst hP
  have hargs : cargs = cv.toArray := by
    apply Array.ext
    · simpa using hsz
    · intro i h1 h2
      have := hrep i (by simpa using h2) h1
      simp only [List.getElem_map] at this
      simpa using this.scE.1
  subst hargs
  refine (h C.w0 (fun b x h => (C.hkn b x h).1)).mono ?_
  rintro e w' ⟨t, rfl, rfl⟩
  have hcell : ∀ i, (hi : i < xs.length) → (C.w0.alloc (.cells ((xs.map fun s => Value.string ⟨s.toArray⟩).toArray) t)).cell? ⟨C.w0.heap.size, i, none⟩ = some (.string ⟨(xs[i]).toArray⟩) := by
    intro i hi
    rw [cell?_of_heap Av.heap_alloc_new]
    simp [hi]
  refine ⟨_, fun b i => C.Z0 b i ∨ (b = C.w0.heap.size ∧ i < xs.length), C.μ0, rfl, ?_, ⟨fun a x h => by simp at h, fun a b x y c d _ h => by simp at h, ?_, by simp, fun b hb _ => qS hb, ?_, fun b i h => .inl h, fun b i h => WB (hg.zlt b i h), fun k _ => rfl, ⟨rfl, rfl, rfl⟩⟩, fun k hk => hmu k (by simp)⟩
  · have hl : (xs.map V.str).length = xs.length := by simp
    rw [← hl]
    refine Rep.sl (fun i j => .string ⟨(xs.getD i []).toArray⟩) (Nat.le_refl _) (fun i hi => by simp [V.cells]) (fun i hi j hj => ?_) (fun i hi j hj => ?_)
    · have hi' : i < xs.length := by simpa using hi
      have hj' : j = 0 := by simp [V.cells] at hj; exact hj
      subst hj'
      refine ⟨?_, .inr ⟨rfl, by omega⟩, rfl⟩
      simp [List.getD_eq_getElem?_getD, List.getElem?_eq_getElem hi', hcell i hi']
    · have hi' : i < xs.length := by simpa using hi
      have hj' : j = 0 := by simp [V.cells] at hj; exact hj
      subst hj'
      simp only [List.getElem_map, V.cells, List.getElem_cons_zero]
      simp only [List.getD_eq_getElem?_getD, List.getElem?_eq_getElem hi', Option.getD_some]
      exact .sc rfl
  · intro b i h
    rcases h with h | ⟨rfl, _⟩
    · have := hg.zlt b i h; simp; omega
    · simp
  · intro b i h
    rcases h with h | ⟨rfl, _⟩
    · exact .inl h
    · exact .inr (.inl (Nat.le_refl _))
theorem j4 (W : World) (hW : WOK W) : UT (Ys Tryd.prog W) 22 := by
  intro s c hs
  refine ⟨ahJ (cv := [.string ⟨s.toArray⟩, .string ⟨[c].toArray⟩]) (xs := JW c s) ?_, by simp only [V.closed]⟩
  intro w hk
  obtain ⟨m, hm⟩ := (hW.keeps hk).maxLen
  have := Tryd.strings_Split ⟨s.toArray⟩ ⟨[c].toArray⟩ m w (by rw [abj]; exact hs) hm (by simp [ByteArray.size])
  show W7 Tryd.prog 22 _ w _
  refine (Uh aiS _ _ _).2 (this.mono fun e w' ⟨he, hw⟩ => ⟨9, ?_, ?_⟩)
  · have h1 : Lib.countB ⟨s.toArray⟩ ⟨[c].toArray⟩ = s.count c := by
      show Lib.count _ _ = _
      simp [Lib.count_one]
    have h2 : (JW c s).length = s.count c + 1 := KM c s []
    rw [he, h1, h2]
  · have h1 : Lib.countB ⟨s.toArray⟩ ⟨[c].toArray⟩ = s.count c := by
      show Lib.count _ _ = _
      simp [Lib.count_one]
    have h3 := Lib.splitB_data ⟨[c].toArray⟩ 0 (s.count c) ⟨s.toArray⟩
    have h4 : Lib.splitK [c] 0 (s.count c) s = JW c s := aaL c _ s rfl
    have h5 : (Lib.splitB ⟨[c].toArray⟩ 0 (s.count c) ⟨s.toArray⟩).map Value.string = (JW c s).map fun s => Value.string ⟨s.toArray⟩ := by
      have h6 : (Lib.splitB ⟨[c].toArray⟩ 0 (s.count c) ⟨s.toArray⟩).map (·.data.toList) = JW c s := by rw [h3]; simpa using h4
      rw [← h6, List.map_map]
      refine List.map_congr_left fun x _ => ?_
      simp
    rw [hw, h1, h5]
theorem aac (W : World) (hW : WOK W) : jD (Ys Tryd.prog W) 40 := by
  intro s c hs
  refine ⟨ahg (cv := [.string ⟨s.toArray⟩, .string ⟨[c].toArray⟩]) (res := .int .i64 (((JW c s).length - 1 : Nat) : Int)) (fun _ _ _ => .sc rfl) ?_, trivial, trivial⟩
  intro w hk
  have := Tryd.strings_Count_one ⟨s.toArray⟩ c w
  show W7 Tryd.prog 40 _ w _
  refine (Uh aiR _ _ _).2 (this.mono fun e w' ⟨he, hw⟩ => ?_)
  subst he; subst hw
  have h2 : (JW c s).length = s.count c + 1 := KM c s []
  refine ⟨?_, Nat.le_refl _, fun _ _ => rfl, ⟨rfl, rfl, rfl⟩⟩
  rw [h2]; rfl
theorem yV (W : World) (hW : WOK W) : U0 (Ys Tryd.prog W) 65 := by
  intro s c
  refine ⟨ahg (cv := [.string ⟨s.toArray⟩, .int .u8 c.toNat]) (res := .int .i64 (Lib.indexByte s c)) (fun _ _ _ => .sc rfl) ?_, trivial, trivial⟩
  intro w hk
  have := Tryd.strings_IndexByte ⟨s.toArray⟩ c.toNat w
  show W7 Tryd.prog 65 _ w _
  refine (Uh aiQ _ _ _).2 (this.mono fun e w' ⟨he, hw⟩ => ?_)
  subst he; subst hw
  refine ⟨?_, Nat.le_refl _, fun _ _ => rfl, ⟨rfl, rfl, rfl⟩⟩
  simp
end Go.Proofs.YtmekajmjncbhgaaDoor.S8
end
