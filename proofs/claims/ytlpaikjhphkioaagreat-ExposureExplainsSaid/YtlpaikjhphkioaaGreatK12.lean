/- Functions that are lent two buffers: the first is spent, a new one is answered, the second stays as it is (slices.Insert). -/
import Derived.Test.YtlpaikjhphkioaaGreatK10
import Derived.Shelf.Spec.SlicesInsertGrow
set_option linter.unusedVariables false
set_option linter.unusedSimpArgs false
section
namespace Av
open Go
structure asB (Γ : Env) (f : FuncId) (v : V) (sx : Nat) (xs vs ys : List V) : Prop where
  ev : Ev Γ f [.hd 0 0 xs.length, v, .hd 1 0 vs.length] [.buf true sx xs, .buf true sx vs] (.hd 2 0 ys.length) [.dead, .buf true sx vs, .buf true sx ys]
section
variable {Γ : Env} {b : Nat} {r : List AO} {s : St} {d : Option Nat} {f : FuncId} {args : List V} {okf : Option (List Nat) → Prop} {K : St → Prop} {a a2 n n2 sx : Nat} {xs vs ys : List V} {i : Int}
theorem agQ (ha : s.o a = some (.buf true sx xs)) (ha2 : s.o a2 = some (.buf true sx vs)) (h : asB Γ f (V.int i) sx xs vs ys) (hd : decide (a ≠ a2 ∧ a < b ∧ a2 < b) = true) (hn : n = xs.length) (hn2 : n2 = vs.length)
    (hk : wL Γ (b + KK) r { t := (s.put d (.hd b 0 ys.length)).t, o := upd (upd (upd s.o b (some (.buf true sx ys))) a2 (some (.buf true sx vs))) a (some .dead), n := s.n } K) : ak5 Γ b r s d f [.hd a 0 n, V.int i, .hd a2 0 n2] args okf K := by
  intro _ _
  subst hn; subst hn2
  obtain ⟨e1, e2, e3⟩ := of_decide_eq_true hd
  refine XV ⟨_, _, _, _, [a, a2], some [], h.ev, ⟨by simp [conv], by simp [conv], by simp [conv], trivial⟩, ⟨⟨_, ha, rfl, rfl⟩, ⟨_, ha2, rfl, rfl⟩, trivial⟩, by simpa using e1, ?_, by simp, by simp [KK], fun h => by simp at h, ?_⟩
  · intro y hy
    simp only [List.mem_cons, List.not_mem_nil, or_false] at hy
    rcases hy with rfl | rfl <;> assumption
  · simp only [X7, X6, Ob.ren, V.ren, sig, asu]
    exact hk
end
end Av
end
section
namespace Av
open Go
theorem ap1 {w : World} {Z : Nat → Nat → Prop} {μ : Nat → Option Cn} {g : Nat → Option Value} {ys : List Value} (h : ∀ (j : Nat) (u : Value), ys[j]? = some u → g j = some u) (h1 : ∀ u ∈ ys, u.oneCell' = true) : Row w Z μ g 1 (ys.map V.sc) := by
  intro i hi
  have hi' : i < ys.length := by simpa using hi
  have e : (ys.map V.sc)[i] = V.sc ys[i] := by simp
  refine ⟨by rw [e]; rfl, fun j hj => ?_⟩
  have hj' : j = 0 := by
    have := hj; rw [show ((ys.map V.sc)[i]).cells = [V.sc ys[i]] by rw [e]; rfl] at this
    simpa using this
  subst hj'
  refine ⟨ys[i], by rw [Nat.mul_one, Nat.add_zero]; exact h i _ (List.getElem?_eq_getElem hi'), h1 _ (List.getElem_mem hi'), ?_⟩
  have e2 : ((ys.map V.sc)[i]).cells[0] = V.sc ys[i] := by simp [V.cells]
  rw [e2]; exact .sc (h1 _ (List.getElem_mem hi'))
theorem arW {C : Ctx} {w w' : World} {Z : Nat → Nat → Prop} {μ : Nat → Option Cn} {o : Nat → Option Ob} {x cap : Nat} {ys : List Value} {cs : Array Value} {t : TypeId} (hg : Q3 C w Z μ o) (hf : ∀ y, x ≤ y → μ y = none) (hm : C.m ≤ x)
    (hs : w'.heap.size = w.heap.size + 1) (hk : ∀ k, k < w.heap.size → w'.heap[k]? = w.heap[k]?) (hn : w'.heap[w.heap.size]? = some (.cells cs t (0, 0))) (hl : ys.length ≤ cap ∧ cap < 2 ^ 63) (hc : cap ≤ cs.size)
    (hy : ∀ (j : Nat) (u : Value), ys[j]? = some u → cs[j]? = some u) (h1 : ∀ u ∈ ys, u.oneCell' = true) (ho : KP w w') :
    ∃ μ', Q3 C w' Z μ' (upd o x (some (.buf true 1 (ys.map V.sc)))) ∧ Rep w' Z μ' (.slice (some ⟨w.heap.size, 0, none⟩) ys.length cap) (.hd x 0 ys.length) ∧ (∀ y, y ≠ x → μ' y = μ y) := by
  have hheap : w'.heap = (w.alloc (.cells cs t (0, 0))).heap := by
    apply Array.ext_getElem?
    intro k
    rcases Nat.lt_trichotomy k w.heap.size with h | h | h
    · rw [hk k h, Vr h]
    · subst h; rw [hn, QT]
    · rw [Array.getElem?_eq_none (by omega), Array.getElem?_eq_none (by rw [World.size_alloc]; omega)]
  obtain ⟨g1, g2, g3⟩ := aaY (xs := ys.map V.sc) (sz := 1) (cap := cap) (fr := (0, 0)) (e := t) (cells := cs) (wr := true) hg (fun y h _ => hf y h) hm (w1 := w) rfl (fun k _ => by omega) (ap1 hy h1) ⟨by simpa using hl.1, fun _ => hl.2⟩ (by simpa using hc)
  simp only [List.length_map] at g1 g2 g3
  refine ⟨_, g2.heap hheap ⟨ho.1, ho.2.1, ho.2.2⟩, g1.mono (fun b i _ => by simp [World.cell?, hheap]) (fun _ _ h => h) (fun _ _ h => h), fun y hy => QO _ _ hy⟩
theorem UL (b : Nat) : ∀ (vs : List Value) (o : Nat) (w : World) (cs : Array Value) (t : TypeId) (fr : Nat × Nat), w.heap[b]? = some (.cells cs t fr) →
    ∃ cs', (w.setCells b o vs).heap[b]? = some (.cells cs' t fr) ∧ cs'.size = cs.size ∧ (∀ k, k ≠ b → (w.setCells b o vs).heap[k]? = w.heap[k]?) ∧ (w.setCells b o vs).heap.size = w.heap.size ∧ KP w (w.setCells b o vs)
  | [], o, w, cs, t, fr, h => ⟨cs, h, rfl, fun _ _ => rfl, rfl, KP.refl _⟩
  | v :: r, o, w, cs, t, fr, h => by
    have hlt : b < w.heap.size := (Array.getElem?_eq_some_iff.1 h).1
    have h1 : (w.setCell ⟨b, o, none⟩ v).heap[b]? = some (.cells (cs.setIfInBounds o v) t fr) := by
      simp only [World.setCell, Array.getElem?_modify, if_true, h]; rfl
    obtain ⟨cs', e1, e2, e3, e4, e5⟩ := UL b r (o + 1) _ _ t fr h1
    refine ⟨cs', e1, by rw [e2]; simp, fun k hk => (e3 k hk).trans ?_, by rw [World.setCells, e4]; simp [World.setCell], ⟨e5.1, e5.2.1, e5.2.2⟩⟩
    simp only [World.setCell, Array.getElem?_modify, if_neg (Ne.symm hk)]
structure aoP (C : Ctx) (k : Nat) (ls : List Value) (s : Value) (c : Cn) (cs : Array Value) (t : TypeId) (fr : Nat × Nat) : Prop where
  mu : C.μ0 k = some c
  vd : c.void = false
  s1 : c.sz = 1
  n : c.n = ls.length
  le : c.n ≤ c.cap
  cp : c.cap < 2 ^ 63
  s : s = .slice (some ⟨c.block, c.base, none⟩) ls.length c.cap
  hp : C.w0.heap[c.block]? = some (.cells cs t fr)
  sz : c.base + c.cap ≤ cs.size
  fz : ∀ o, ¬ (fr.1 ≤ o ∧ o < fr.2)
  z : ∀ o, ¬ C.Z0 c.block o
  el : ∀ (j : Nat) (u : Value), ls[j]? = some u → cs[c.base + j]? = some u
theorem ajo {C : Ctx} {o : Nat → Option Ob} (hg : Q3 C C.w0 C.Z0 C.μ0 o) {k : Nat} {ls : List Value} (ho : o k = some (.buf true 1 (ls.map V.sc))) {s : Value} (hr : Rep C.w0 C.Z0 C.μ0 s (.hd k 0 ls.length)) (hpos : 0 < ls.length) :
    ∃ c cs t fr, aoP C k ls s c cs t fr := by
  obtain ⟨c, hmu, hok, hlv⟩ := hg.ob k _ ho
  cases hr with
  | hd h hv =>
    rw [hmu] at h; cases h
    have hvd : c.void = false := by
      cases hc : c.void with
      | false => rfl
      | true => have := (aa3 hv hc).2.2; omega
    obtain ⟨ad, h1, h2, h3, h4⟩ := aa4 hv hvd
    obtain ⟨k1, k2⟩ := hok
    obtain ⟨q0, q1, q2, q3, q4, cs, t, fr, q5, q6, q7, q8⟩ := k2 hvd
    rw [List.length_map] at k1
    have had := h4 (by omega)
    rw [Nat.zero_mul, Nat.add_zero] at had
    subst had
    refine ⟨c, cs, t, fr, hmu, hvd, q0, k1.symm, q1.1, q1.2 rfl, by rw [h1, Nat.sub_zero], q5, by rw [q0] at q6; omega, fun o => q7 o (.inr rfl), q2 rfl, fun j u hu => ?_⟩
    obtain ⟨hj, rfl⟩ := List.getElem?_eq_some_iff.1 hu
    have hj' : j < (ls.map V.sc).length := by simpa using hj
    have e : (ls.map V.sc)[j] = V.sc ls[j] := by simp
    obtain ⟨v, e1, e2, e3⟩ := q8 j hj' 0 (by rw [e]; exact Nat.zero_lt_one)
    have e4 : ((ls.map V.sc)[j]).cells[0]'(by rw [e]; exact Nat.zero_lt_one) = V.sc ls[j] := by simp [V.cells]
    rw [e4] at e3
    have := e3.scE.1
    subst this
    rw [q0, Nat.mul_one, Nat.add_zero] at e1
    exact e1
theorem aoP.cell {C : Ctx} {k : Nat} {ls : List Value} {s : Value} {c : Cn} {cs : Array Value} {t : TypeId} {fr : Nat × Nat} (h : aoP C k ls s c cs t fr) : ∀ (j : Nat) (u : Value), ls[j]? = some u → C.w0.cell? ⟨c.block, c.base + j, none⟩ = some u := fun j u hu => by
  rw [cell?_of_heap h.hp]; exact h.el j u hu
theorem aoP.frozen {C : Ctx} {k : Nat} {ls : List Value} {s : Value} {c : Cn} {cs : Array Value} {t : TypeId} {fr : Nat × Nat} (h : aoP C k ls s c cs t fr) (o : Nat) : C.w0.frozen? ⟨c.block, o, none⟩ = false := by
  rw [frozen?_of_heap h.hp]
  have := h.fz o
  simp only [Bool.and_eq_false_iff, decide_eq_false_iff_not]
  omega
theorem aoP.some {C : Ctx} {k : Nat} {ls : List Value} {s : Value} {c : Cn} {cs : Array Value} {t : TypeId} {fr : Nat × Nat} (h : aoP C k ls s c cs t fr) {j : Nat} (hj : j < c.cap) : (C.w0.cell? ⟨c.block, c.base + j, none⟩).isSome = true := by
  rw [cell?_of_heap h.hp, Array.getElem?_eq_getElem (by have := h.sz; omega)]; rfl
theorem aoP.shape {C : Ctx} {k : Nat} {ls : List Value} {s : Value} {c : Cn} {cs : Array Value} {t : TypeId} {fr : Nat × Nat} (h : aoP C k ls s c cs t fr) : C.w0.shape? c.block = Option.some (t, cs.size) := by
  unfold World.shape?; rw [h.hp]
theorem arI {C : Ctx} {o : Nat → Option Ob} {w' : World} {ls ys : List Value} {s : Value} {c : Cn} {cs cs' : Array Value} {t : TypeId} {fr : Nat × Nat} {x : Nat} (hg : Q3 C C.w0 C.Z0 C.μ0 o) (ho : o 0 = some (.buf true 1 (ls.map V.sc))) (h : aoP C 0 ls s c cs t fr)
    (hx : C.μ0 x = none) (hm : C.m ≤ x) (hp : w'.heap[c.block]? = some (.cells cs' t fr)) (hsz : cs'.size = cs.size) (hk : ∀ k, k ≠ c.block → w'.heap[k]? = C.w0.heap[k]?) (hs : w'.heap.size = C.w0.heap.size) (hso : KP C.w0 w')
    (hl : ys.length ≤ c.cap) (hy : ∀ (j : Nat) (u : Value), ys[j]? = some u → w'.cell? ⟨c.block, c.base + j, none⟩ = some u) (h1 : ∀ u ∈ ys, u.oneCell' = true) :
    Q3 C w' C.Z0 (upd C.μ0 x (some { c with n := ys.length })) (upd (upd o 0 (some .dead)) x (some (.buf true 1 (ys.map V.sc)))) ∧ Rep w' C.Z0 (upd C.μ0 x (some { c with n := ys.length })) (.slice (some ⟨c.block, c.base, none⟩) ys.length c.cap) (.hd x 0 ys.length) := by
  have hcell : ∀ b i, C.Z0 b i → w'.cell? ⟨b, i, none⟩ = C.w0.cell? ⟨b, i, none⟩ := fun b i hz => by
    have : b ≠ c.block := by rintro rfl; exact h.z i hz
    simp only [World.cell?, hk b this]
  have hrow : Row w' C.Z0 noμ (fun k => cs'[c.base + k]?) 1 (ys.map V.sc) := ap1 (fun j u hu => by rw [← cell?_of_heap hp]; exact hy j u hu) h1
  have hob : vS w' C.Z0 (upd C.μ0 x (some { c with n := ys.length })) { c with n := ys.length } (.buf true 1 (ys.map V.sc)) := by
    refine ⟨by simp, fun _ => ⟨h.s1, ⟨hl, fun _ => h.cp⟩, fun _ => h.z, fun i hz => (h.z i hz).elim, fun i hi => (hrow i hi).1, cs', t, fr, hp, ?_, fun o _ => h.fz o, fun i hi j hj => ?_⟩⟩
    · have := h.sz; simp only [h.s1]; omega
    · obtain ⟨u, e1, e2, e3⟩ := (hrow i hi).2 j hj
      exact ⟨u, by simpa [h.s1] using e1, e2, e3⟩
  refine ⟨hg.pass (c := c) ho h.mu h.vd hx hm rfl hk hs (fun i hz => (h.z i hz).elim) hob hso, .hd (Qm _ _ _) ?_⟩
  simp [Hdr, h.vd]
structure asA (P : Program) (f : FuncId) (t : TypeId) (z : Value) : Prop where
  shift : ∀ (b off n c i vb voff vc : Nat) (cs : List Value) (u : Value) (w : World) (tA tB : TypeId) (kA kB : Nat), i < n → n + 1 ≤ c → c ≤ 9223372036854775807 → vb ≠ b → cs.length = n →
    (∀ (j : Nat) v, cs[j]? = some v → w.cell? ⟨b, off + j, none⟩ = some v) → (∀ j, j < n + 1 → (w.cell? ⟨b, off + j, none⟩).isSome = true) → (∀ j, j < n + 1 → w.frozen? ⟨b, off + j, none⟩ = false) → w.cell? ⟨vb, voff, none⟩ = some u →
    (∀ v ∈ cs, v.oneCell' = true) → u.oneCell' = true → w.shape? vb = some (tA, kA) → w.shape? b = some (tB, kB) → kB ≠ 0 → w.frozen? ⟨vb, voff, none⟩ = false → w.frozen? ⟨vb, kA, none⟩ = false →
    Calls P f #[.slice (some ⟨b, off, none⟩) n c, .int .i64 i, .slice (some ⟨vb, voff, none⟩) 1 vc] w fun e w' => e = .returned (.slice (some ⟨b, off, none⟩) (n + 1) c) ∧ w' = (w.drew.setCells b (off + (i + 1)) (cs.drop i)).setCells b (off + i) [u]
  endRoom : ∀ (b off n c vb voff vc : Nat) (u : Value) (w : World), n + 1 ≤ c → c ≤ 9223372036854775807 → (w.cell? ⟨b, off + n, none⟩).isSome = true → w.frozen? ⟨b, off + n, none⟩ = false → w.cell? ⟨vb, voff, none⟩ = some u → u.oneCell' = true →
    Calls P f #[.slice (some ⟨b, off, none⟩) n c, .int .i64 n, .slice (some ⟨vb, voff, none⟩) 1 vc] w fun e w' => e = .returned (.slice (some ⟨b, off, none⟩) (n + 1) c) ∧ w' = w.setCells b (off + n) [u]
  endGrow : ∀ (base : Option Addr) (n c vb voff vc : Nat) (cs : List Value) (u : Value) (w : World), n ≤ c → c < n + 1 → n < 2 ^ 31 → cs.length = n → (base = none → n = 0) → (∀ a, base = some a → ∀ (j : Nat) v, cs[j]? = some v → w.cell? (a.add j) = some v) → w.cell? ⟨vb, voff, none⟩ = some u → u.oneCell' = true →
    Calls P f #[.slice base n c, .int .i64 n, .slice (some ⟨vb, voff, none⟩) 1 vc] w fun e w' => ∃ cap, (n + 1 ≤ cap ∧ cap < 2 ^ 63) ∧ e = .returned (.slice (some ⟨w.heap.size, 0, none⟩) (n + 1) cap) ∧ w' = w.drew.alloc (.cells ((cs ++ [u]).toArray ++ Builtin.zeroCells #[z] (cap - (n + 1))) t)
  grow : ∀ (b off n c i vb voff vc : Nat) (cs : List Value) (u : Value) (w : World), i < n → n ≤ c → c < n + 1 → n < 2 ^ 31 → cs.length = n → (∀ (j : Nat) v, cs[j]? = some v → w.cell? ⟨b, off + j, none⟩ = some v) → w.cell? ⟨vb, voff, none⟩ = some u → (∀ v ∈ cs, v.oneCell' = true) → u.oneCell' = true →
    Calls P f #[.slice (some ⟨b, off, none⟩) n c, .int .i64 i, .slice (some ⟨vb, voff, none⟩) 1 vc] w fun e w' => ∃ cap R, (n + 1 ≤ cap ∧ cap < 2 ^ 63) ∧ R.size = cap ∧ (∀ (j : Nat) (v : Value), j < i → cs[j]? = some v → R[j]? = some v) ∧ e = .returned (.slice (some ⟨w.heap.size, 0, none⟩) (n + 1) cap) ∧ w' = (((w.alloc (.cells R t)).drew.setCells w.heap.size i [u]).drew).setCells w.heap.size (i + 1) (cs.drop i)
theorem akF {i : Nat} {ls : List Value} {u : Value} (hi : i ≤ ls.length) {j : Nat} {x : Value} (h : (ls.take i ++ u :: ls.drop i)[j]? = some x) : (j < i ∧ ls[j]? = some x) ∨ (j = i ∧ x = u) ∨ (i < j ∧ (ls.drop i)[j - (i + 1)]? = some x) := by
  have hl : (ls.take i).length = i := by rw [List.length_take]; omega
  rcases Nat.lt_trichotomy j i with h1 | h1 | h1
  · rw [List.getElem?_append_left (by omega), List.getElem?_take, if_pos h1] at h
    exact .inl ⟨h1, h⟩
  · rw [List.getElem?_append_right (by omega), hl, h1, Nat.sub_self] at h
    exact .inr (.inl ⟨h1, by simpa using h.symm⟩)
  · rw [List.getElem?_append_right (by omega), hl, show j - i = (j - (i + 1)) + 1 by omega, List.getElem?_cons_succ] at h
    exact .inr (.inr ⟨h1, h⟩)
theorem atm {o : Nat → Option Ob} {x y z : Ob} (h : o = fun k => [x, y][k]?) : upd (upd o 0 (some .dead)) 2 (some z) = fun k => [Ob.dead, y, z][k]? := by
  subst h; funext k
  match k with
  | 0 | 1 | 2 => rfl
  | k + 3 => simp [upd]
theorem asD {o : Nat → Option Ob} {x y z : Ob} (h : o = fun k => [x, y][k]?) : upd (upd o 2 (some z)) 0 (some .dead) = fun k => [Ob.dead, y, z][k]? := by
  subst h; funext k
  match k with
  | 0 | 1 | 2 => rfl
  | k + 3 => simp [upd]
theorem alO {Γ : Env} {f : FuncId} {t : TypeId} {z : Value} (L : asA Γ.P f t z) (own : Own Γ.P f) {i : Nat} {ls : List Value} {u : Value} (hi : i ≤ ls.length) (hp : 0 < ls.length) (hl31 : ls.length < 2 ^ 31) (h1 : ∀ v ∈ ls, v.oneCell' = true) (hu : u.oneCell' = true) :
    asB Γ f (V.int i) 1 (ls.map V.sc) [V.sc u] ((ls.take i ++ u :: ls.drop i).map V.sc) := by
  refine ⟨fun C cargs hP hm hmu hg hF hsz hrep => ?_⟩
  subst hP
  have hm : C.m = 2 := hm
  have hmu : ∀ k, 2 ≤ k → C.μ0 k = none := hmu
  have hsz : cargs.size = 3 := hsz
  obtain ⟨s, iv, v, rfl⟩ : ∃ s iv v, cargs = #[s, iv, v] := ⟨cargs[0], cargs[1], cargs[2], by
    apply Array.ext
    · simpa using hsz
    · intro k a1 a2
      match k, a2 with
      | 0, _ | 1, _ | 2, _ => rfl⟩
  have r0 : Rep C.w0 C.Z0 C.μ0 s (.hd 0 0 (ls.map V.sc).length) := hrep 0 (by simp) (by simp)
  have r1 : Rep C.w0 C.Z0 C.μ0 iv (V.int i) := hrep 1 (by simp) (by simp)
  have r2 : Rep C.w0 C.Z0 C.μ0 v (.hd 1 0 [V.sc u].length) := hrep 2 (by simp) (by simp)
  rw [List.length_map] at r0
  have e1 := r1.scE.1
  subst e1
  obtain ⟨c0, cs0, t0, f0, A⟩ := ajo hg (k := 0) (ls := ls) rfl r0 hp
  obtain ⟨c1, cs1, t1, f1, B⟩ := ajo hg (k := 1) (ls := [u]) rfl r2 (by simp)
  have hne : c1.block ≠ c0.block := hg.sep 1 0 _ _ c1 c0 (by decide) rfl rfl B.mu A.mu B.vd A.vd
  have es := A.s
  have ev := B.s
  subst es; subst ev
  rw [KZ own]
  have uc := B.cell 0 u rfl
  rw [Nat.add_zero] at uc
  have yl : (ls.take i ++ u :: ls.drop i).length = ls.length + 1 := by simp; omega
  have y1 : ∀ x ∈ ls.take i ++ u :: ls.drop i, x.oneCell' = true := fun x hx => by
    rcases List.mem_append.1 hx with h | h
    · exact h1 x (List.mem_of_mem_take h)
    · rcases List.mem_cons.1 h with rfl | h
      · exact hu
      · exact h1 x (List.mem_of_mem_drop h)
  have hcp := A.cp
  have hkB : cs0.size ≠ 0 := by have := A.sz; have := A.le; have := A.n; omega
  have fin : ∀ (w' : World) (cs' : Array Value) (e : Ending), e = .returned (.slice (some ⟨c0.block, c0.base, none⟩) (ls.length + 1) c0.cap) → ls.length + 1 ≤ c0.cap → w'.heap[c0.block]? = some (.cells cs' t0 f0) → cs'.size = cs0.size → (∀ k, k ≠ c0.block → w'.heap[k]? = C.w0.heap[k]?) → w'.heap.size = C.w0.heap.size → KP C.w0 w' →
      (∀ (j : Nat) (x : Value), (ls.take i ++ u :: ls.drop i)[j]? = some x → w'.cell? ⟨c0.block, c0.base + j, none⟩ = some x) →
      ∃ v Z' μ', e = .returned v ∧ Rep w' Z' μ' v (.hd 2 0 ((ls.take i ++ u :: ls.drop i).map V.sc).length) ∧ Q3 C w' Z' μ' (fun k => [Ob.dead, .buf true 1 [V.sc u], .buf true 1 ((ls.take i ++ u :: ls.drop i).map V.sc)][k]?) ∧ ∀ k, 3 ≤ k → μ' k = none := by
    intro w' cs' e he hroom q1 q2 q3 q4 q5 q6
    obtain ⟨g1, g2⟩ := arI (x := 2) hg rfl A (hmu 2 (Nat.le_refl _)) (by omega) q1 q2 q3 q4 q5 (by rw [yl]; exact hroom) q6 y1
    rw [yl] at g1 g2
    rw [List.length_map, yl]
    exact ⟨_, _, _, he, g2, by rw [atm rfl] at g1; exact g1, fun k hk => by rw [QO _ _ (by omega)]; exact hmu k (by omega)⟩
  have fin2 : ∀ (w' : World) (cap : Nat) (cs' : Array Value) (e : Ending), (ls.length + 1 ≤ cap ∧ cap < 2 ^ 63) → e = .returned (.slice (some ⟨C.w0.heap.size, 0, none⟩) (ls.length + 1) cap) → w'.heap[C.w0.heap.size]? = some (.cells cs' t (0, 0)) → cap ≤ cs'.size → (∀ k, k < C.w0.heap.size → w'.heap[k]? = C.w0.heap[k]?) → w'.heap.size = C.w0.heap.size + 1 → KP C.w0 w' →
      (∀ (j : Nat) (x : Value), (ls.take i ++ u :: ls.drop i)[j]? = some x → cs'[j]? = some x) →
      ∃ v Z' μ', e = .returned v ∧ Rep w' Z' μ' v (.hd 2 0 ((ls.take i ++ u :: ls.drop i).map V.sc).length) ∧ Q3 C w' Z' μ' (fun k => [Ob.dead, .buf true 1 [V.sc u], .buf true 1 ((ls.take i ++ u :: ls.drop i).map V.sc)][k]?) ∧ ∀ k, 3 ≤ k → μ' k = none := by
    intro w' cap cs' e hcap he q1 q2 q3 q4 q5 q6
    obtain ⟨μ', g1, g2, g3⟩ := arW (x := 2) (cap := cap) hg hmu (by omega) q4 q3 q1 (by rw [yl]; exact hcap) q2 q6 y1 q5
    rw [List.length_map, yl]
    rw [yl] at g2
    have g4 := g1.kill (a := 0) (x := .buf true 1 (ls.map V.sc)) (by rw [QO _ _ (by decide)]; rfl)
    exact ⟨_, _, _, he, g2, by rw [asD rfl] at g4; exact g4, fun k hk => by rw [g3 k (by omega)]; exact hmu k (by omega)⟩
  by_cases hroom : ls.length + 1 ≤ c0.cap
  · by_cases hin : i < ls.length
    · refine (L.shift c0.block c0.base ls.length c0.cap i c1.block c1.base c1.cap ls u C.w0 t1 t0 cs1.size cs0.size hin hroom (by omega) hne rfl A.cell (fun j hj => A.some (by omega)) (fun j _ => A.frozen _) uc h1 hu B.shape A.shape hkB (B.frozen _) (B.frozen _)).mono ?_
      rintro e w' ⟨he, rfl⟩
      obtain ⟨ca, p1, p2, p3, p4, p5⟩ := UL c0.block (ls.drop i) (c0.base + (i + 1)) C.w0.drew cs0 t0 f0 A.hp
      obtain ⟨cb, k1, k2, k3, k4, k5⟩ := UL c0.block [u] (c0.base + i) _ ca t0 f0 p1
      have dl : (ls.drop i).length = ls.length - i := List.length_drop
      have hsome : ∀ j, j < (ls.drop i).length → (C.w0.drew.cell? ⟨c0.block, c0.base + (i + 1) + j, none⟩).isSome = true := fun j hj => by
        have := A.some (j := i + 1 + j) (by omega)
        rw [show c0.base + (i + 1) + j = c0.base + (i + 1 + j) by omega]; exact this
      refine fin _ cb e he hroom k1 (k2.trans p2) (fun k hk => (k3 k hk).trans (p3 k hk)) (k4.trans p4) (p5.trans k5) fun j x hx => ?_
      rcases akF hi hx with ⟨a1, a2⟩ | ⟨a1, a2⟩ | ⟨a1, a2⟩
      · rw [World.cell?_setCells_out _ _ _ _ _ (fun _ _ => by simp; omega), World.cell?_setCells_out _ _ _ _ _ (fun _ _ => by simp; omega)]
        exact A.cell j x a2
      · subst a1; subst a2
        have := World.cell?_setCells_in c0.block [x] (c0.base + j) (C.w0.drew.setCells c0.block (c0.base + (j + 1)) (ls.drop j)) (fun q hq => by
          have hq0 : q = 0 := by simpa using hq
          subst hq0
          rw [Nat.add_zero, World.cell?_setCells_out _ _ _ _ _ (fun _ _ => by simp <;> omega)]
          exact A.some (j := j) (by omega)) 0 (by simp)
        simpa using this
      · rw [World.cell?_setCells_out _ _ _ _ _ (fun _ _ => by simp; omega)]
        obtain ⟨a3, a4⟩ := List.getElem?_eq_some_iff.1 a2
        have := World.cell?_setCells_in c0.block (ls.drop i) (c0.base + (i + 1)) C.w0.drew hsome (j - (i + 1)) a3
        rw [show c0.base + (i + 1) + (j - (i + 1)) = c0.base + j by omega, a4] at this
        exact this
    · obtain rfl : i = ls.length := by omega
      have hs0 := A.some (j := ls.length) (by omega)
      refine (L.endRoom c0.block c0.base ls.length c0.cap c1.block c1.base c1.cap u C.w0 hroom (by omega) hs0 (A.frozen _) uc hu).mono ?_
      rintro e w' ⟨he, rfl⟩
      obtain ⟨cb, k1, k2, k3, k4, k5⟩ := UL c0.block [u] (c0.base + ls.length) C.w0 cs0 t0 f0 A.hp
      refine fin _ cb e he hroom k1 k2 k3 k4 k5 fun j x hx => ?_
      rcases akF hi hx with ⟨a1, a2⟩ | ⟨a1, a2⟩ | ⟨a1, a2⟩
      · rw [World.cell?_setCells_out _ _ _ _ _ (fun _ _ => by simp; omega)]
        exact A.cell j x a2
      · subst a2
        have := World.cell?_setCells_in c0.block [x] (c0.base + ls.length) C.w0 (fun q hq => by
          have hq0 : q = 0 := by simpa using hq
          subst hq0; exact hs0) 0 (by simp)
        rw [a1]; simpa using this
      · simp at a2
  · have hcap := A.le
    have hcn := A.n
    by_cases hin : i < ls.length
    · refine (L.grow c0.block c0.base ls.length c0.cap i c1.block c1.base c1.cap ls u C.w0 hin (by omega) (by omega) hl31 rfl A.cell uc h1 hu).mono ?_
      rintro e w' ⟨cap, R, hcb, hR, hRv, he, rfl⟩
      have hn0 : ((C.w0.alloc (.cells R t)).drew).heap[C.w0.heap.size]? = some (.cells R t (0, 0)) := QT
      obtain ⟨ca, p1, p2, p3, p4, p5⟩ := UL C.w0.heap.size [u] i (C.w0.alloc (.cells R t)).drew R t (0, 0) hn0
      obtain ⟨cb, k1, k2, k3, k4, k5⟩ := UL C.w0.heap.size (ls.drop i) (i + 1) (((C.w0.alloc (.cells R t)).drew.setCells C.w0.heap.size i [u]).drew) ca t (0, 0) p1
      have dl : (ls.drop i).length = ls.length - i := List.length_drop
      have hRs : ∀ j, j < cap → ((C.w0.alloc (.cells R t)).drew.cell? ⟨C.w0.heap.size, j, none⟩).isSome = true := fun j hj => by
        rw [cell?_of_heap hn0, Array.getElem?_eq_getElem (by omega)]; rfl
      have hsome : ∀ j, j < (ls.drop i).length → ((((C.w0.alloc (.cells R t)).drew.setCells C.w0.heap.size i [u]).drew).cell? ⟨C.w0.heap.size, (i + 1) + j, none⟩).isSome = true := fun j hj => by
        have : ((C.w0.alloc (.cells R t)).drew.setCells C.w0.heap.size i [u]).cell? ⟨C.w0.heap.size, (i + 1) + j, none⟩ = _ := World.cell?_setCells_out _ _ _ _ _ (fun _ _ => by simp <;> omega)
        exact (congrArg Option.isSome this).trans (hRs _ (by omega))
      refine fin2 _ cap cb e hcb he k1 (by omega) (fun k hk => (k3 k (by omega)).trans ((p3 k (by omega)).trans (Vr hk))) (k4.trans (p4.trans (World.size_alloc _ _))) (KP.trans (KP.trans ⟨rfl, rfl, rfl⟩ p5) k5) fun j x hx => ?_
      rw [← cell?_of_heap k1]
      rcases akF hi hx with ⟨a1, a2⟩ | ⟨a1, a2⟩ | ⟨a1, a2⟩
      · rw [World.cell?_setCells_out _ _ _ _ _ (fun _ _ => by simp; omega)]
        refine (World.cell?_setCells_out _ _ _ _ _ (fun _ _ => by simp; omega)).trans ?_
        rw [cell?_of_heap hn0]; exact hRv j x a1 a2
      · subst a1; subst a2
        have := World.cell?_setCells_in C.w0.heap.size [x] j ((C.w0.alloc (.cells R t)).drew) (fun q hq => by
          have hq0 : q = 0 := by simpa using hq
          subst hq0; exact hRs j (by omega)) 0 (by simp)
        rw [World.cell?_setCells_out _ _ _ _ _ (fun _ _ => by simp <;> omega)]
        exact this
      · obtain ⟨a3, a4⟩ := List.getElem?_eq_some_iff.1 a2
        have := World.cell?_setCells_in C.w0.heap.size (ls.drop i) (i + 1) _ hsome (j - (i + 1)) a3
        rw [show (i + 1) + (j - (i + 1)) = j by omega, a4] at this
        exact this
    · obtain rfl : i = ls.length := by omega
      refine (L.endGrow (some ⟨c0.block, c0.base, none⟩) ls.length c0.cap c1.block c1.base c1.cap ls u C.w0 (by omega) (by omega) hl31 rfl (fun h => by cases h) (fun a ha j x hx => by cases ha; rw [UA]; exact A.cell j x hx) uc hu).mono ?_
      rintro e w' ⟨cap, hcb, he, rfl⟩
      have hn0 : (C.w0.drew.alloc (.cells ((ls ++ [u]).toArray ++ Builtin.zeroCells #[z] (cap - (ls.length + 1))) t)).heap[C.w0.heap.size]? = some (.cells ((ls ++ [u]).toArray ++ Builtin.zeroCells #[z] (cap - (ls.length + 1))) t (0, 0)) := QT (w := C.w0.drew)
      refine fin2 _ cap _ e hcb he hn0 (by rw [Array.size_append, Yl]; simp; omega) (fun k hk => Vr (w := C.w0.drew) hk) (World.size_alloc _ _) ⟨rfl, rfl, rfl⟩ fun j x hx => ?_
      rw [List.take_length, List.drop_length] at hx
      have hj := (List.getElem?_eq_some_iff.1 hx).1
      rw [Array.getElem?_append_left (by simpa using hj)]
      simpa using hx
theorem alN {Γ : Env} {f : FuncId} {t : TypeId} {z : Value} (L : asA Γ.P f t z) (own : Own Γ.P f) {u : Value} (hu : u.oneCell' = true) (hn : (V.sc u).noSl) : EvW Γ f [aeT, V.int 0, .sl 1 [V.sc u]] 1 [V.sc u] := by
  refine ⟨fun C cargs hP hm hmu hg hF hsz hrep => ?_, by simpa using hn⟩
  subst hP
  have hm : C.m = 0 := hm
  have hsz : cargs.size = 3 := hsz
  obtain ⟨s, iv, v, rfl⟩ : ∃ s iv v, cargs = #[s, iv, v] := ⟨cargs[0], cargs[1], cargs[2], by
    apply Array.ext
    · simpa using hsz
    · intro k a1 a2
      match k, a2 with
      | 0, _ | 1, _ | 2, _ => rfl⟩
  have r0 : Rep C.w0 C.Z0 C.μ0 s aeT := hrep 0 (by simp) (by simp)
  have r1 : Rep C.w0 C.Z0 C.μ0 iv (V.int 0) := hrep 1 (by simp) (by simp)
  have r2 : Rep C.w0 C.Z0 C.μ0 v (.sl 1 [V.sc u]) := hrep 2 (by simp) (by simp)
  have e0 := r0.scE.1
  have e1 := r1.scE.1
  obtain ⟨a, cp, e2, _, hr⟩ := r2.slE
  obtain ⟨bb, oo, rfl, hrow, _⟩ := hr (by simp)
  subst e0; subst e1; subst e2
  obtain ⟨x, c1, c2, c3⟩ := (hrow 0 (by simp)).2 0 (by simp [V.cells])
  have c3' : Rep C.w0 C.Z0 noμ x (V.sc u) := by simpa [V.cells] using c3
  have := c3'.scE.1
  subst this
  rw [KZ own]
  refine (L.endGrow none 0 0 bb oo cp [] x C.w0 (Nat.le_refl _) (by omega) (by omega) rfl (fun _ => rfl) (fun a h => by cases h) (by simpa using c1) hu).mono ?_
  rintro e w' ⟨cap, hcb, he, rfl⟩
  subst he
  obtain ⟨μ', g1, g2, g3⟩ := arW (x := 0) (cap := cap) (ys := [x]) (t := t) hg (fun y _ => hmu y (Nat.zero_le _)) (by omega) (w' := C.w0.drew.alloc (.cells (([] ++ [x]).toArray ++ Builtin.zeroCells #[z] (cap - (0 + 1))) t)) (World.size_alloc _ _) (fun k hk => Vr (w := C.w0.drew) hk) (QT (w := C.w0.drew)) (by simpa using hcb) (by rw [Array.size_append, Yl]; simp; omega) (fun j u hj => by
    have := (List.getElem?_eq_some_iff.1 hj).1
    rw [Array.getElem?_append_left (by simpa using this)]; simpa using hj) (by simpa using hu) ⟨rfl, rfl, rfl⟩
  refine ⟨_, _, _, rfl, g2, ?_, fun k hk => by rw [g3 k (by simp at hk; omega)]; exact hmu k (Nat.zero_le _)⟩
  have e : upd (fun k => ([] : List Ob)[k]?) 0 (some (.buf true 1 [V.sc x])) = fun k => [Ob.buf true 1 [V.sc x]][k]? := by
    funext k
    match k with
    | 0 => rfl
    | k + 1 => simp [upd]
  rw [← e]; exact g1
structure asp (P : Program) (f : FuncId) (t : TypeId) (sz : Nat) : Prop where
  room : ∀ w : World, Calls P f #[.slice none 0 0, .int .i64 0] w fun e w' => e = .returned (.slice none 0 0) ∧ w' = w
  grow : ∀ (n : Nat) (w : World), 0 < n → n < 2 ^ 30 → Calls P f #[.slice none 0 0, .int .i64 n] w fun e w' => ∃ cap cells, cap < 2 ^ 63 ∧ cap * sz ≤ cells.size ∧ e = .returned (.slice (some ⟨w.heap.size, 0, none⟩) 0 cap) ∧ w' = w.drew.alloc (.cells cells t)
theorem apy {Γ : Env} {f : FuncId} {t : TypeId} {sz : Nat} (L : asp Γ.P f t sz) (own : Own Γ.P f) {n : Nat} (hn : n < 2 ^ 30) : EvW Γ f [.sc (.slice none 0 0), V.int n] sz [] := by
  refine ⟨fun C cargs hP hm hmu hg hF hsz hrep => ?_, by simp⟩
  subst hP
  have hm : C.m = 0 := hm
  have hsz : cargs.size = 2 := hsz
  obtain ⟨s, iv, rfl⟩ : ∃ s iv, cargs = #[s, iv] := ⟨cargs[0], cargs[1], by
    apply Array.ext
    · simpa using hsz
    · intro k a1 a2
      match k, a2 with
      | 0, _ | 1, _ => rfl⟩
  have r0 : Rep C.w0 C.Z0 C.μ0 s aeT := hrep 0 (by simp) (by simp)
  have r1 : Rep C.w0 C.Z0 C.μ0 iv (V.int n) := hrep 1 (by simp) (by simp)
  have e0 := r0.scE.1
  have e1 := r1.scE.1
  subst e0; subst e1
  have e : ∀ z : Ob, upd (fun k => ([] : List Ob)[k]?) 0 (some z) = fun k => [z][k]? := fun z => by
    funext k
    match k with
    | 0 => rfl
    | k + 1 => simp [upd]
  rw [KZ own]
  cases n with
  | zero =>
    refine (L.room C.w0).mono ?_
    rintro e' w' ⟨rfl, rfl⟩
    have g := Q3.nil (sz := sz) hg (hmu 0 (Nat.le_refl _)) (by omega)
    rw [e] at g
    exact ⟨_, _, _, rfl, .hd (Qm _ _ _) (by simp [Hdr]), g, fun k hk => by rw [QO _ _ (by simp at hk; omega)]; exact hmu k (Nat.zero_le _)⟩
  | succ n =>
    refine (L.grow (n + 1) C.w0 (by omega) hn).mono ?_
    rintro e' w' ⟨cap, cells, h1, h2, rfl, rfl⟩
    obtain ⟨g1, g2, g3⟩ := aaY (b := 0) (xs := []) (sz := sz) (cap := cap) (fr := (0, 0)) (e := t) (cells := cells) (wr := true) hg (fun y _ _ => hmu y (Nat.zero_le _)) (by omega) (w1 := C.w0.drew) rfl (fun k _ => by omega) (fun i hi => by simp at hi) ⟨by simp, fun _ => h1⟩ h2
    rw [e] at g2
    exact ⟨_, _, _, rfl, g1, g2, fun k hk => by rw [QO _ _ (by simp at hk; omega)]; exact hmu k (Nat.zero_le _)⟩
end Av
end
section
set_option maxRecDepth 10000
set_option maxHeartbeats 4000000
namespace Av
open Go
attribute [local irreducible] AWp wL adG afG awS awC am3 awQ anb Y2 aeq alZ awR afC awB okR ag6 ris
structure Qa where
  src : Int
  host : List UInt8
  mach : Int
  day : Int
  conf : Int
  kind : Int
  subj : List UInt8
  alg : Int
  bits : Int
  num : Int
  text : List UInt8
  deriving DecidableEq
def Qa.cells (f : Qa) : List V := [V.int f.src, V.str f.host, V.int f.mach, V.int f.day, V.int f.conf, V.int f.kind, V.str f.subj, V.int f.alg, V.int f.bits, V.int f.num, V.str f.text]
def Qa.v (f : Qa) : V := .agg f.cells
def U4 (x y : Int) : Int := if x < y then -1 else if x > y then 1 else 0
def aaX (x y : List UInt8) : Int := if Op.bytesLess x y then -1 else if Op.bytesLess y x then 1 else 0
def YP : List Int → Int
  | [] => 0
  | x :: r => if x ≠ 0 then x else YP r
def arB (a b : Qa) : List Int := [aaX a.host b.host, U4 a.mach b.mach, U4 a.day b.day, aaX a.subj b.subj, U4 a.kind b.kind, U4 a.alg b.alg, U4 a.bits b.bits, U4 a.num b.num, aaX a.text b.text, U4 a.src b.src, U4 a.conf b.conf]
def ahI (a b : Qa) : Int := YP (arB a b)
def Kt (Γ : Env) (f : Nat) : Prop := ∀ (a b : List UInt8), EvN Γ f [V.str a, V.str b] (V.int (aaX a b))
def yA : AC := Qb [0] (.reg [mc 2 (V.bool false)]) (Qb [2] (.reg [mv 3 0, mv 4 0, bn 5 .neq 3 4, mv 2 5]) .ret) def r_cmp_isNaN_int : List Jf := [.tmp 2]
def Uo (Γ : Env) (f : Nat) : Prop := ∀ (x : Int), EvN Γ f [V.int x] (V.bool false)
theorem afx {Γ : Env} {f : Nat} (h : Has Γ.P f 6 yA r_cmp_isNaN_int)  : Uo Γ f := by
  intro x
  refine Qd h zsi zcl zcl fun C hC hm => ?_
  subst hC
  unfold yA
  refine zgo ?_; repeat' first | exact zt | apply zan | intro hc
  all_goals first | exact zr | (refine Qv _ rfl ?_; simp only [go_sem, Nat.reduceEqDiff, Nat.reduceAdd, reduceIte, reduceCtorEq]; simp; done) | trace_state
def qo (Jt : Nat) : AC := Qb [0, 1] (.reg [mc 4 (V.int 0)]) (Qb [0, 1, 5] (.reg [mv 7 0, cl 8 Jt [7], mv 5 8]) (Qb [0, 1, 5, 6] (.reg [mv 9 1, cl 10 Jt [9], mv 6 10]) (Qb [0, 1, 6] (Qb [0, 1, 6, 11] (.reg [mv 11 5]) (.cond (.t 11) (Qb [] (Qb [12] (.reg [mv 12 6]) (.cond (.t 12) (Qb [4] (.reg [mc 4 (V.int 0)]) .ret) .skip)) (Qb [4] (.reg [mc 4 (V.int (-1))]) .ret)) .skip)) (Qb [0, 1] (Qb [0, 1, 13] (.reg [mv 13 6]) (.cond (.t 13) (Qb [4] (.reg [mc 4 (V.int 1)]) .ret) .skip)) (Qb [0, 1] (Qb [0, 1, 16] (.reg [mv 14 0, mv 15 1, bn 16 .lss 14 15]) (.cond (.t 16) (Qb [4] (.reg [mc 4 (V.int (-1))]) .ret) .skip)) (Qb [] (Qb [19] (.reg [mv 17 0, mv 18 1, bn 19 .gtr 17 18]) (.cond (.t 19) (Qb [4] (.reg [mc 4 (V.int 1)]) .ret) .skip)) (Qb [4] (.reg [mc 4 (V.int 0)]) .ret))))))) def r_cmp_Compare_int : List Jf := [.tmp 4]
def XW (Γ : Env) (f : Nat) : Prop := ∀ (x y : Int), EvN Γ f [V.int x, V.int y] (V.int (U4 x y))
theorem adn {Γ : Env} {f Jt : Nat} (h : Has Γ.P f 20 (qo Jt) r_cmp_Compare_int) (z0 : Uo Γ Jt) : XW Γ f := by
  intro x y
  refine Qd h zsi zcl zcl fun C hC hm => ?_
  subst hC
  unfold qo
  by_cases h1 : x < y
  · have e1 : decide (x < y) = true := decide_eq_true h1
    rw [U4, if_pos h1]
    (have zx := e1); exact zg
  · have e1 : decide (x < y) = false := decide_eq_false h1
    by_cases h2 : x > y
    · have e2 : decide (x > y) = true := decide_eq_true h2
      rw [U4, if_neg h1, if_pos h2]
      (have zx := And.intro e1 e2); exact zg
    · have e2 : decide (x > y) = false := decide_eq_false h2
      rw [U4, if_neg h1, if_neg h2]
      (have zx := And.intro e1 e2); exact zg
def qT (Qc : Nat) : List AO := [ld 4 1 0, xo 5 (.load true 11 (.t 1)), xo 6 (.callv (.t 4) [(.t 5)]), ld 7 1 0, xo 8 (.load true 11 (.t 2)), xo 9 (.callv (.t 7) [(.t 8)]), cl 10 Qc [6, 9], mv 3 10]
def ja : List (List Nat) := [[], [], [0, 1], [], [], [3, 4, 2], [2, 5, 5], [6, 6, 0, 1, 2, 3, 4, 5, 6]]
def qJ : OT := .one 0 (.one 1 (.one 2 (.one 3 (.one 4 (.one 5 (.one 6 (.one 7 .done)))))))
@[go_sem] def qO (Qc : Nat) : OP := oN 0 (ld 4 1 0) (oN 1 (xo 5 (.load true 11 (.t 1))) (.one 2 true [] (xo 6 (.callv (.t 4) [(.t 5)])) (oN 3 (ld 7 1 0) (oN 4 (xo 8 (.load true 11 (.t 2))) (.one 5 true [] (xo 9 (.callv (.t 7) [(.t 8)])) (.one 6 false [5, 2] (cl 10 Qc [6, 9]) (oN 7 (mv 3 10) .done)))))))
instance (Qc : Nat) : RG [2, 5] qJ (qO Qc) (qT Qc) ja 8 (fun _ => true) := ⟨rfl, by kernel_rfl, by kernel_rfl⟩
def Uz (Qc : Nat) : AC := Qb [0, 1, 2] (.reg [mc 3 (V.int 0)]) (Qb [3] (wP [2, 5] qJ (qO Qc) (qT Qc) ja) .ret) def r_finding_Order_1_1 : List Jf := [.tmp 3]
def X5 (Γ : Env) (f : Nat) : Prop := ∀ (a b : Qa) (g : Nat) (p : Qa → Int) (hg : ∀ x : Qa, EvN Γ g [x.v] (V.int (p x))), EvN Γ f [.ro [.clo (.n g) []] 0, .ro a.cells 0, .ro b.cells 0] (V.int (U4 (p a) (p b)))
theorem abm {Γ : Env} {f Qc : Nat} (h : Has Γ.P f 11 (Uz Qc) r_finding_Order_1_1) (z0 : XW Γ Qc) : X5 Γ f := by
  intro a b g p hg
  refine Qd h zsi zcl zcl fun C hC hm => ?_
  subst hC
  unfold Uz
  have g1 := (hg a).b
  have g2 := (hg b).b
  have g3 := (z0 (p a) (p b)).b
  simp only [Qa.v, Qa.cells] at g1 g2 ⊢
  exact zg
def qS (Qj : Nat) : List AO := [ld 4 1 0, xo 5 (.load true 11 (.t 1)), xo 6 (.callv (.t 4) [(.t 5)]), ld 7 1 0, xo 8 (.load true 11 (.t 2)), xo 9 (.callv (.t 7) [(.t 8)]), cl 10 Qj [6, 9], mv 3 10]
def q9 : List (List Nat) := [[], [], [0, 1], [], [], [3, 4, 2], [2, 5, 5], [6, 6, 0, 1, 2, 3, 4, 5, 6]]
def qI : OT := .one 0 (.one 1 (.one 2 (.one 3 (.one 4 (.one 5 (.one 6 (.one 7 .done)))))))
@[go_sem] def qN (Qj : Nat) : OP := oN 0 (ld 4 1 0) (oN 1 (xo 5 (.load true 11 (.t 1))) (.one 2 true [] (xo 6 (.callv (.t 4) [(.t 5)])) (oN 3 (ld 7 1 0) (oN 4 (xo 8 (.load true 11 (.t 2))) (.one 5 true [] (xo 9 (.callv (.t 7) [(.t 8)])) (.one 6 false [5, 2] (cl 10 Qj [6, 9]) (oN 7 (mv 3 10) .done)))))))
instance (Qj : Nat) : RG [2, 5] qI (qN Qj) (qS Qj) q9 8 (fun _ => true) := ⟨rfl, by kernel_rfl, by kernel_rfl⟩
def Uy (Qj : Nat) : AC := Qb [0, 1, 2] (.reg [mc 3 (V.int 0)]) (Qb [3] (wP [2, 5] qI (qN Qj) (qS Qj) q9) .ret) def r_finding_Order_2_1 : List Jf := [.tmp 3]
def X4 (Γ : Env) (f : Nat) : Prop := ∀ (a b : Qa) (g : Nat) (p : Qa → List UInt8) (hg : ∀ x : Qa, EvN Γ g [x.v] (V.str (p x))), EvN Γ f [.ro [.clo (.n g) []] 0, .ro a.cells 0, .ro b.cells 0] (V.int (aaX (p a) (p b)))
theorem abl {Γ : Env} {f Qj : Nat} (h : Has Γ.P f 11 (Uy Qj) r_finding_Order_2_1) (z0 : Kt Γ Qj) : X4 Γ f := by
  intro a b g p hg
  refine Qd h zsi zcl zcl fun C hC hm => ?_
  subst hC
  unfold Uy
  have g1 := (hg a).b
  have g2 := (hg b).b
  have g3 := (z0 (p a) (p b)).b
  simp only [Qa.v, Qa.cells] at g1 g2 ⊢
  exact zg
def qk (Xz : Nat) : AC := Qb [1, 2, 3] (.reg [xo 3 (.box false 1 (.t 0)), mc 4 (.sc .nilFunc)]) (Qb [4] (.reg [xo 5 (.mkfn Xz [(.t 3), (.t 1), (.t 2)]), mv 4 5]) .ret) def r_finding_Order_1 : List Jf := [.tmp 4]
def KH (Γ : Env) (f : Nat) : Prop := (∃ g1 : Nat, X5 Γ g1 ∧ ∀ (a b : Qa) (g : Nat), EvC Γ f [.clo (.n g) [], .ro a.cells 0, .ro b.cells 0] (.clo (.n g1) [.ro [.clo (.n g) []] 0, .ro a.cells 0, .ro b.cells 0]))
theorem adj {Γ : Env} {f Xz : Nat} (h : Has Γ.P f 6 (qk Xz) r_finding_Order_1) (z0 : X5 Γ Xz) : KH Γ f := by
  refine ⟨Xz, z0, fun a b g => ?_⟩
  refine Y8 h (by simp) (by simp only [V.closed, Qh, and_self]) fun C hC hm => ?_
  subst hC
  unfold qk
  simp only [Qa.cells]
  exact zg
def qj (Xy : Nat) : AC := Qb [1, 2, 3] (.reg [xo 3 (.box false 1 (.t 0)), mc 4 (.sc .nilFunc)]) (Qb [4] (.reg [xo 5 (.mkfn Xy [(.t 3), (.t 1), (.t 2)]), mv 4 5]) .ret) def r_finding_Order_2 : List Jf := [.tmp 4]
def KG (Γ : Env) (f : Nat) : Prop := (∃ g1 : Nat, X4 Γ g1 ∧ ∀ (a b : Qa) (g : Nat), EvC Γ f [.clo (.n g) [], .ro a.cells 0, .ro b.cells 0] (.clo (.n g1) [.ro [.clo (.n g) []] 0, .ro a.cells 0, .ro b.cells 0]))
theorem adi {Γ : Env} {f Xy : Nat} (h : Has Γ.P f 6 (qj Xy) r_finding_Order_2) (z0 : X4 Γ Xy) : KG Γ f := by
  refine ⟨Xy, z0, fun a b g => ?_⟩
  refine Y8 h (by simp) (by simp only [V.closed, Qh, and_self]) fun C hC hm => ?_
  subst hC
  unfold qj
  simp only [Qa.cells]
  exact zg
def qi : AC := Qb [1] (.reg [xo 1 (.box true 11 (.t 0)), mc 2 (V.str [])]) (Qb [2] (.reg [fa 3 1 1, ld 4 1 3, mv 2 4]) .ret) def r_finding_Order_3 : List Jf := [.tmp 2]
def KF (Γ : Env) (f : Nat) : Prop := ∀ (x : Qa), EvN Γ f [x.v] (V.str x.host)
theorem adh {Γ : Env} {f : Nat} (h : Has Γ.P f 5 qi r_finding_Order_3)  : KF Γ f := by
  intro x
  refine Qd h zsi zcl zcl fun C hC hm => ?_
  subst hC
  unfold qi
  simp only [Qa.v, Qa.cells]
  exact zg
def qh : AC := Qb [1] (.reg [xo 1 (.box true 11 (.t 0)), mc 2 (V.int 0)]) (Qb [2] (.reg [fa 3 2 1, ld 4 1 3, mv 2 4]) .ret) def r_finding_Order_4 : List Jf := [.tmp 2]
def KE (Γ : Env) (f : Nat) : Prop := ∀ (x : Qa), EvN Γ f [x.v] (V.int x.mach)
theorem adg {Γ : Env} {f : Nat} (h : Has Γ.P f 5 qh r_finding_Order_4)  : KE Γ f := by
  intro x
  refine Qd h zsi zcl zcl fun C hC hm => ?_
  subst hC
  unfold qh
  simp only [Qa.v, Qa.cells]
  exact zg
def qg : AC := Qb [1] (.reg [xo 1 (.box true 11 (.t 0)), mc 2 (V.int 0)]) (Qb [2] (.reg [fa 3 3 1, ld 4 1 3, mv 2 4]) .ret) def r_finding_Order_5 : List Jf := [.tmp 2]
def KD (Γ : Env) (f : Nat) : Prop := ∀ (x : Qa), EvN Γ f [x.v] (V.int x.day)
theorem adf {Γ : Env} {f : Nat} (h : Has Γ.P f 5 qg r_finding_Order_5)  : KD Γ f := by
  intro x
  refine Qd h zsi zcl zcl fun C hC hm => ?_
  subst hC
  unfold qg
  simp only [Qa.v, Qa.cells]
  exact zg
def qe : AC := Qb [1] (.reg [xo 1 (.box true 11 (.t 0)), mc 2 (V.str [])]) (Qb [2] (.reg [fa 3 6 1, ld 4 1 3, mv 2 4]) .ret) def r_finding_Order_6 : List Jf := [.tmp 2]
def KC (Γ : Env) (f : Nat) : Prop := ∀ (x : Qa), EvN Γ f [x.v] (V.str x.subj)
theorem ade {Γ : Env} {f : Nat} (h : Has Γ.P f 5 qe r_finding_Order_6)  : KC Γ f := by
  intro x
  refine Qd h zsi zcl zcl fun C hC hm => ?_
  subst hC
  unfold qe
  simp only [Qa.v, Qa.cells]
  exact zg
def qd : AC := Qb [1] (.reg [xo 1 (.box true 11 (.t 0)), mc 2 (V.int 0)]) (Qb [2] (.reg [fa 3 5 1, ld 4 1 3, mv 2 4]) .ret) def r_finding_Order_7 : List Jf := [.tmp 2]
def KB (Γ : Env) (f : Nat) : Prop := ∀ (x : Qa), EvN Γ f [x.v] (V.int x.kind)
theorem adc {Γ : Env} {f : Nat} (h : Has Γ.P f 5 qd r_finding_Order_7)  : KB Γ f := by
  intro x
  refine Qd h zsi zcl zcl fun C hC hm => ?_
  subst hC
  unfold qd
  simp only [Qa.v, Qa.cells]
  exact zg
def qc : AC := Qb [1] (.reg [xo 1 (.box true 11 (.t 0)), mc 2 (V.int 0)]) (Qb [2] (.reg [fa 3 7 1, fa 4 0 3, ld 5 1 4, mv 2 5]) .ret) def r_finding_Order_8 : List Jf := [.tmp 2]
def KA (Γ : Env) (f : Nat) : Prop := ∀ (x : Qa), EvN Γ f [x.v] (V.int x.alg)
theorem adb {Γ : Env} {f : Nat} (h : Has Γ.P f 6 qc r_finding_Order_8)  : KA Γ f := by
  intro x
  refine Qd h zsi zcl zcl fun C hC hm => ?_
  subst hC
  unfold qc
  simp only [Qa.v, Qa.cells]
  exact zg
def K9 : AC := Qb [1] (.reg [xo 1 (.box true 11 (.t 0)), mc 2 (V.int 0)]) (Qb [2] (.reg [fa 3 7 1, fa 4 1 3, ld 5 1 4, mv 2 5]) .ret) def r_finding_Order_9 : List Jf := [.tmp 2]
def Kz (Γ : Env) (f : Nat) : Prop := ∀ (x : Qa), EvN Γ f [x.v] (V.int x.bits)
theorem ada {Γ : Env} {f : Nat} (h : Has Γ.P f 6 K9 r_finding_Order_9)  : Kz Γ f := by
  intro x
  refine Qd h zsi zcl zcl fun C hC hm => ?_
  subst hC
  unfold K9
  simp only [Qa.v, Qa.cells]
  exact zg
def Ki : AC := Qb [1] (.reg [xo 1 (.box true 11 (.t 0)), mc 2 (V.int 0)]) (Qb [2] (.reg [fa 3 9 1, ld 4 1 3, mv 2 4]) .ret) def r_finding_Order_10 : List Jf := [.tmp 2]
def UH (Γ : Env) (f : Nat) : Prop := ∀ (x : Qa), EvN Γ f [x.v] (V.int x.num)
theorem aca {Γ : Env} {f : Nat} (h : Has Γ.P f 5 Ki r_finding_Order_10)  : UH Γ f := by
  intro x
  refine Qd h zsi zcl zcl fun C hC hm => ?_
  subst hC
  unfold Ki
  simp only [Qa.v, Qa.cells]
  exact zg
def Kh : AC := Qb [1] (.reg [xo 1 (.box true 11 (.t 0)), mc 2 (V.str [])]) (Qb [2] (.reg [fa 3 10 1, ld 4 1 3, mv 2 4]) .ret) def r_finding_Order_11 : List Jf := [.tmp 2]
def UG (Γ : Env) (f : Nat) : Prop := ∀ (x : Qa), EvN Γ f [x.v] (V.str x.text)
theorem ab9 {Γ : Env} {f : Nat} (h : Has Γ.P f 5 Kh r_finding_Order_11)  : UG Γ f := by
  intro x
  refine Qd h zsi zcl zcl fun C hC hm => ?_
  subst hC
  unfold Kh
  simp only [Qa.v, Qa.cells]
  exact zg
def Kg : AC := Qb [1] (.reg [xo 1 (.box true 11 (.t 0)), mc 2 (V.int 0)]) (Qb [2] (.reg [fa 3 0 1, ld 4 1 3, mv 2 4]) .ret) def r_finding_Order_12 : List Jf := [.tmp 2]
def UF (Γ : Env) (f : Nat) : Prop := ∀ (x : Qa), EvN Γ f [x.v] (V.int x.src)
theorem ab8 {Γ : Env} {f : Nat} (h : Has Γ.P f 5 Kg r_finding_Order_12)  : UF Γ f := by
  intro x
  refine Qd h zsi zcl zcl fun C hC hm => ?_
  subst hC
  unfold Kg
  simp only [Qa.v, Qa.cells]
  exact zg
def Kf : AC := Qb [1] (.reg [xo 1 (.box true 11 (.t 0)), mc 2 (V.int 0)]) (Qb [2] (.reg [fa 3 4 1, ld 4 1 3, mv 2 4]) .ret) def r_finding_Order_13 : List Jf := [.tmp 2]
def UE (Γ : Env) (f : Nat) : Prop := ∀ (x : Qa), EvN Γ f [x.v] (V.int x.conf)
theorem ab7 {Γ : Env} {f : Nat} (h : Has Γ.P f 5 Kf r_finding_Order_13)  : UE Γ f := by
  intro x
  refine Qd h zsi zcl zcl fun C hC hm => ?_
  subst hC
  unfold Kf
  simp only [Qa.v, Qa.cells]
  exact zg
def clC (a b : Qa) (q g : Nat) : V := .clo (.n q) [.ro [.clo (.n g) []] 0, .ro a.cells 0, .ro b.cells 0]
def arK (a b : Qa) (g1 g2 f3 f4 f5 f6 f7 f8 f9 f10 f11 f12 f13 : Nat) : List V := [clC a b g2 f3, clC a b g1 f4, clC a b g1 f5, clC a b g2 f6, clC a b g1 f7, clC a b g1 f8, clC a b g1 f9, clC a b g1 f10, clC a b g2 f11, clC a b g1 f12, clC a b g1 f13]
theorem yo (a b : Qa) (g : Nat) : Qh [.ro [.clo (.n g) []] 0, .ro a.cells 0, .ro b.cells 0] := by simp only [V.closed, Qh, and_self]
theorem agu {l : List Int} {k : Nat} {v : Int} (h : l[k]? = some v) : YP (l.drop k) = if v ≠ 0 then v else YP (l.drop (k + 1)) := by
  obtain ⟨hk, he⟩ := List.getElem?_eq_some_iff.1 h
  rw [List.drop_eq_getElem_cons hk, he, YP]
def yw (VA Vz JJ JI JH JG JF JE JD Jn Jm Jl Jk : Nat) : AC := Qb [2, 3] (.reg [xo 2 (.box true 11 (.t 0)), xo 3 (.box true 11 (.t 1)), mc 4 (V.int 0)]) (Qb [2, 3, 5] (.reg [xo 10 (.mkfn VA [(.t 2), (.t 3)]), mv 5 10]) (Qb [5, 6] (.reg [xo 11 (.mkfn Vz [(.t 2), (.t 3)]), mv 6 11]) (Qb [] (Qb [34, 35, 36] (.reg [mv 12 6, xo 13 (.callv (.t 12) [(.c (.clo JJ []))]), mv 14 5, xo 15 (.callv (.t 14) [(.c (.clo JI []))]), mv 16 5, xo 17 (.callv (.t 16) [(.c (.clo JH []))]), mv 18 6, xo 19 (.callv (.t 18) [(.c (.clo JG []))]), mv 20 5, xo 21 (.callv (.t 20) [(.c (.clo JF []))]), mv 22 5, xo 23 (.callv (.t 22) [(.c (.clo JE []))]), mv 24 5, xo 25 (.callv (.t 24) [(.c (.clo JD []))]), mv 26 5, xo 27 (.callv (.t 26) [(.c (.clo Jn []))]), mv 28 6, xo 29 (.callv (.t 28) [(.c (.clo Jm []))]), mv 30 5, xo 31 (.callv (.t 30) [(.c (.clo Jl []))]), mv 32 5, xo 33 (.callv (.t 32) [(.c (.clo Jk []))]), xo 34 (.bslice 11 1 false [.nilFunc] [(0, (.t 13)), (1, (.t 15)), (2, (.t 17)), (3, (.t 19)), (4, (.t 21)), (5, (.t 23)), (6, (.t 25)), (7, (.t 27)), (8, (.t 29)), (9, (.t 31)), (10, (.t 33))]), ln 35 34, mc 36 (V.int 0)]) (.block 0 (Y6 [34, 35, 36] (Qb [34, 35, 36, 37] (.reg [bn 37 .lss 36 35]) (Qb [34, 35, 36] (.cond (.t 37) .skip (.exit 0)) (Qb [34, 35, 36] (.block 1 (Qb [8, 34, 35, 36] (.reg [ia 38 1 34 36, ld 39 1 38, mv 8 39]) (Qb [9, 34, 35, 36] (.reg [mv 40 8, xo 41 (.callv (.t 40) []), mv 9 41]) (Qb [9, 34, 35, 36, 43] (.reg [mv 42 9, bc 43 .neq 42 (V.int 0)]) (.cond (.t 43) (Qb [4] (.reg [mv 44 9, mv 4 44]) .ret) .skip))))) (.reg [bc 45 .add 36 (V.int 1), mv 36 45]))))))) (Qb [4] (.reg [mc 4 (V.int 0)]) .ret)))) def r_finding_Order : List Jf := [.tmp 4]
def jr (Γ : Env) (f : Nat) : Prop := ∀ (a b : Qa), EvN Γ f [a.v, b.v] (V.int (ahI a b))
attribute [local go_sem] Wo in
theorem aft {Γ : Env} {f VA Vz JJ JI JH JG JF JE JD Jn Jm Jl Jk : Nat} (h : Has Γ.P f 46 (yw VA Vz JJ JI JH JG JF JE JD Jn Jm Jl Jk) r_finding_Order) (z0 : KH Γ VA) (z1 : KG Γ Vz) (z2 : KF Γ JJ) (z3 : KE Γ JI) (z4 : KD Γ JH) (z5 : KC Γ JG) (z6 : KB Γ JF) (z7 : KA Γ JE) (z8 : Kz Γ JD) (z9 : UH Γ Jn) (z10 : UG Γ Jm) (z11 : UF Γ Jl) (z12 : UE Γ Jk) : jr Γ f := by
  intro a b
  refine Qd h zsi zcl zcl fun C hC hm => ?_
  subst hC
  unfold yw
  obtain ⟨g1, c1, hO1⟩ := z0
  obtain ⟨g2, c2, hO2⟩ := z1
  have y3 := hO2 a b JJ
  have y4 := hO1 a b JI
  have y5 := hO1 a b JH
  have y6 := hO2 a b JG
  have y7 := hO1 a b JF
  have y8 := hO1 a b JE
  have y9 := hO1 a b JD
  have y10 := hO1 a b Jn
  have y11 := hO2 a b Jm
  have y12 := hO1 a b Jl
  have y13 := hO1 a b Jk
  have hel : ∀ k, k < 11 → ∃ (g : Nat) (cap : List V) (v : Int), (arK a b g1 g2 JJ JI JH JG JF JE JD Jn Jm Jl Jk)[k]? = some (.clo (.n g) cap) ∧ Qh cap ∧ (arB a b)[k]? = some v ∧ EvN C.env g cap (V.int v) := fun k hk => by
    match k, hk with
    | 0, _ => exact ⟨_, _, _, rfl, yo a b _, rfl, c2 a b _ (fun x => x.host) z2⟩
    | 1, _ => exact ⟨_, _, _, rfl, yo a b _, rfl, c1 a b _ (fun x => x.mach) z3⟩
    | 2, _ => exact ⟨_, _, _, rfl, yo a b _, rfl, c1 a b _ (fun x => x.day) z4⟩
    | 3, _ => exact ⟨_, _, _, rfl, yo a b _, rfl, c2 a b _ (fun x => x.subj) z5⟩
    | 4, _ => exact ⟨_, _, _, rfl, yo a b _, rfl, c1 a b _ (fun x => x.kind) z6⟩
    | 5, _ => exact ⟨_, _, _, rfl, yo a b _, rfl, c1 a b _ (fun x => x.alg) z7⟩
    | 6, _ => exact ⟨_, _, _, rfl, yo a b _, rfl, c1 a b _ (fun x => x.bits) z8⟩
    | 7, _ => exact ⟨_, _, _, rfl, yo a b _, rfl, c1 a b _ (fun x => x.num) z9⟩
    | 8, _ => exact ⟨_, _, _, rfl, yo a b _, rfl, c2 a b _ (fun x => x.text) z10⟩
    | 9, _ => exact ⟨_, _, _, rfl, yo a b _, rfl, c1 a b _ (fun x => x.src) z11⟩
    | 10, _ => exact ⟨_, _, _, rfl, yo a b _, rfl, c1 a b _ (fun x => x.conf) z12⟩
  have hlen : (arK a b g1 g2 JJ JI JH JG JF JE JD Jn Jm Jl Jk).length = 11 := rfl
  have hoL : (arB a b).length = 11 := rfl
  have hoF : ahI a b = YP (arB a b) := rfl
  simp only [Qa.v, Qa.cells] at y3 y4 y5 y6 y7 y8 y9 y10 y11 y12 y13 ⊢
  repeat' (first | (refine zsk ?_; intro K' hK) | refine zsp ?_ | (refine zsc ?_ ?_ <;> intro hc <;> first | exact znh | try simp only [znz] at hc) | simp (maxSteps := 1000000) only [go_sem, Nat.reduceAdd, Nat.reduceMul, Nat.reduceEqDiff, Nat.reduceLeDiff, Nat.reduceLT, Nat.reduceSub, Int.reduceEq, Int.reduceBEq, Int.reduceLT, Int.reduceLE, Int.reduceAdd, Int.reduceToNat, reduceIte, reduceCtorEq] | (refine hK _ ?_; clear hK K') | apply zan | (apply aoI; (focus first | exact y3 | exact y4 | exact y5 | exact y6 | exact y7 | exact y8 | exact y9 | exact y10 | exact y11 | exact y12 | exact y13)) | (apply QS; (focus first | exact (z2 _).b | exact (z3 _).b | exact (z4 _).b | exact (z5 _).b | exact (z6 _).b | exact (z7 _).b | exact (z8 _).b | exact (z9 _).b | exact (z10 _).b | exact (z11 _).b | exact (z12 _).b)) | exact zsq | fail)
  clear y3 y4 y5 y6 y7 y8 y9 y10 y11 y12 y13
  refine QH (ι := Nat) (fun k => k ≤ 11 ∧ YP ((arB a b).drop k) = ahI a b) (fun k => Wo [(34, .hd 0 0 11), (35, V.int 11), (36, V.int k)] [(0, .buf true 1 (arK a b g1 g2 JJ JI JH JG JF JE JD Jn Jm Jl Jk))] 1) (fun k => 11 - k) 0 ⟨by omega, rfl⟩ (Ql [(0, 29000)]) (Qu [(0, 29000)] zwa (by simp only [go_sem, zwl, Nat.reduceAdd, Nat.reduceMul, Nat.reduceEqDiff, Nat.reduceLT, Int.reduceToNat, reduceIte, reduceCtorEq, arK, clC, Qa.cells] <;> exact zcc) (by simp) (by simp; omega) (by omega)) fun k hk K' hL => ?_
  obtain ⟨hk, hinv⟩ := hk
  generalize (arK a b g1 g2 JJ JI JH JG JF JE JD Jn Jm Jl Jk) = els at *
  by_cases hkk : k < 11
  · obtain ⟨g, cap, v, e1, e2, e3, e4⟩ := hel k hkk
    have s1 : ∀ o, Y4 o cap = cap := fun o => XU o cap e2
    have s2 : ∀ o B, QB o B cap = True := fun o B => eq_true (YT o B cap e2)
    have hw := Qr (k := k) (by omega)
    have e5 : decide ((k : Int) < 11) = true := decide_eq_true (by omega)
    have e6 := agu e3
    rw [hinv] at e6
    by_cases hv : v = 0
    · subst hv
      rw [if_neg (by simp)] at e6
      (have zy0 := e4.b; have zx := And.intro e5 (And.intro e1 (And.intro s1 (And.intro s2 hw)))); refine zgo ?_; repeat' first | exact zt | apply zan | intro hc
      all_goals first | exact hL _ (k + 1) (Ql [(0, 0)]) ⟨by omega, e6.symm⟩ (by omega) (zwg [(0, 0)]) | trace_state
    · rw [if_pos hv] at e6
      have e7 : (v != 0) = true := by simpa using hv
      rw [e6]
      (have zy0 := e4.b; have zx := And.intro e5 (And.intro e1 (And.intro s1 (And.intro s2 (And.intro hw e7))))); exact zg
  · have e5 : decide ((k : Int) < 11) = false := decide_eq_false (by omega)
    have hk2 : k = 11 := by omega
    subst hk2
    have e6 : ahI a b = 0 := by rw [← hinv]; rfl
    rw [e6]
    (have zx := e5); exact zg
def aq4 (f : Qa) : Prop := 0 ≤ f.day ∧ f.day ≤ 40000
def ajR (a b : Qa) : Int := if a.day - b.day < b.day - a.day then b.day - a.day else a.day - b.day
def Uw : AC := Qb [2, 3] (.reg [xo 2 (.box true 11 (.t 0)), xo 3 (.box true 11 (.t 1)), mc 4 (V.int 0)]) (Qb [4] (.reg [fa 5 3 2, ld 6 1 5, fa 7 3 3, ld 8 1 7, bn 9 .sub 6 8, fa 10 3 3, ld 11 1 10, fa 12 3 2, ld 13 1 12, bn 14 .sub 11 13, xo 15 (.mm true [(.t 9), (.t 14)]), mv 4 15]) .ret) def r_identity_distance : List Jf := [.tmp 4]
def X3 (Γ : Env) (f : Nat) : Prop := ∀ (a b : Qa) (ha : aq4 a) (hb : aq4 b), EvN Γ f [a.v, b.v] (V.int (ajR a b))
theorem abj {Γ : Env} {f : Nat} (h : Has Γ.P f 16 Uw r_identity_distance)  : X3 Γ f := by
  intro a b ha hb
  refine Qd h zsi zcl zcl fun C hC hm => ?_
  subst hC
  unfold Uw
  obtain ⟨a1, a2⟩ := ha
  obtain ⟨b1, b2⟩ := hb
  have w1 : IntKind.i64.wrap (a.day - b.day) = a.day - b.day := Ym (by omega) (by omega)
  have w2 : IntKind.i64.wrap (b.day - a.day) = b.day - a.day := Ym (by omega) (by omega)
  simp only [Qa.v, Qa.cells, ajR]
  (have zx := And.intro w1 w2); refine zgo ?_; repeat' first | exact zt | apply zan | intro hc
  all_goals first | exact zr | (refine Qv _ rfl ?_; simp only [go_sem, Nat.reduceEqDiff, Nat.reduceAdd, reduceIte, reduceCtorEq]; simp; done) | trace_state
def aaG : AC := Qb [0] (.reg [mc 2 (V.int 0)]) (Qb [0, 3] (.reg [mc 3 (V.int 0)]) (Qb [3] (Qb [3, 6, 7, 8] (.reg [mv 6 0, ln 7 6, mc 8 (V.int 0)]) (.block 0 (Y6 [3, 6, 7, 8] (Qb [3, 6, 7, 8, 9] (.reg [bn 9 .lss 8 7]) (Qb [3, 6, 7, 8] (.cond (.t 9) .skip (.exit 0)) (Qb [3, 6, 7, 8] (.block 1 (Qb [3, 5, 6, 7, 8] (.reg [ia 10 1 6 8, ld 11 1 10, mv 5 11]) (Qb [3, 5, 6, 7, 8, 14] (.reg [mv 12 5, mv 13 3, bn 14 .neq 12 13]) (.cond (.t 14) (Qb [2] (.reg [mv 15 5, mv 2 15]) .ret) .skip)))) (.reg [bc 16 .add 8 (V.int 1), mv 8 16]))))))) (Qb [2] (.reg [mv 17 3, mv 2 17]) .ret))) def r_cmp_Or_int : List Jf := [.tmp 2]
def jS (Γ : Env) (f : Nat) : Prop := ∀ (l : List Int) (hl : l.length < 2 ^ 60), EvN Γ f [.sl 1 (l.map V.int)] (V.int (YP l))
theorem aiD {Γ : Env} {f : Nat} (h : Has Γ.P f 18 aaG r_cmp_Or_int)  : jS Γ f := by
  intro l hl
  refine Qd h zsi zcl zcl fun C hC hm => ?_
  subst hC
  unfold aaG
  refine zgo ?_; repeat' first | exact zt | apply zan | intro hc
  refine Y1 (ι := Nat) (fun k => k ≤ l.length ∧ YP (l.drop k) = YP l) (fun k => [(8, V.int k)]) (fun k => l.length - k) 0 (by omega) ⟨Nat.zero_le _, rfl⟩ (by repeat' first | exact X2 | refine WM (by omega) (by simp only [Ob.lt, ltL, V.lt, and_self, and_true]; try omega) ?_) (fun i hi => by simp only [ovT, X0, Nat.reduceEqDiff, reduceIte]; (repeat' first | exact Ve | refine XO ?_ ?_ | simp only [V.lt, ltL, and_self, and_true] | omega)) zet fun k hk K' hL => ?_
  obtain ⟨hk, hinv⟩ := hk
  simp only [ovT, X0, Nat.reduceEqDiff, reduceIte]
  rcases hd : l.drop k with _ | ⟨x, r⟩
  · have hkl := Je hd
    have e1 : decide ((k : Int) < (((l.map V.int).length : Nat) : Int)) = false := by simp; omega
    rw [hd] at hinv
    have e8 : YP l = 0 := by rw [← hinv]; rfl
    rw [e8]
    (have zx := e1); exact zg
  · obtain ⟨hk', hget, hr⟩ := QJ hd
    have hw := Qr (k := k) (by omega)
    have e1 : decide ((k : Int) < (((l.map V.int).length : Nat) : Int)) = true := by simp; omega
    have e6 := agu hget
    rw [hinv] at e6
    by_cases hx : x = 0
    · subst hx
      rw [if_neg (by simp)] at e6
      (have zx := And.intro e1 (And.intro hw hget)); refine zgo ?_; repeat' first | exact zt | apply zan | intro hc
      all_goals first | exact hL _ (k + 1) zet ⟨by omega, e6.symm⟩ (by omega) (fun a ha => by simp only [u32, u33, u34, u35, u36, u37, u38, u39]; repeat rw [if_neg (by omega)]) | trace_state
    · have e7 : (x != 0) = true := by simpa using hx
      rw [if_pos hx] at e6
      rw [e6]
      (have zx := And.intro e1 (And.intro hw (And.intro hget e7))); exact zg
def wT (l : List Qa) (f : Qa) (gap best : Int) (i : Nat) : Int :=
  match l[i]? with
  | none => best
  | some g => if g.mach = 0 ∨ g.host ≠ f.host ∨ ajR f g > gap then best else if best < 0 then (i : Int) else
    match l[best.toNat]? with
    | none => best
    | some h => if YP [U4 (ajR f g) (ajR f h), U4 g.day h.day, U4 g.mach h.mach] < 0 then (i : Int) else best
def abv (l : List Qa) (f : Qa) (gap : Int) (k : Nat) : Int := (List.range k).foldl (wT l f gap) (-1)
def aig (l : List Qa) (f : Qa) (gap : Int) : Int := abv l f gap l.length
theorem af7 (l : List Qa) (f : Qa) (gap : Int) (k : Nat) : abv l f gap (k + 1) = wT l f gap (abv l f gap k) k := by
  rw [abv, List.range_succ, List.foldl_append]; rfl
theorem ajl {l : List Qa} {f : Qa} {gap best : Int} {k : Nat} (h : best = -1 ∨ (0 ≤ best ∧ best < k)) : wT l f gap best k = -1 ∨ (0 ≤ wT l f gap best k ∧ wT l f gap best k < (k + 1 : Nat)) := by
  unfold wT
  split
  · omega
  · split
    · omega
    · split
      · omega
      · split
        · omega
        · split <;> omega
theorem adR (l : List Qa) (f : Qa) (gap : Int) : ∀ k, abv l f gap k = -1 ∨ (0 ≤ abv l f gap k ∧ abv l f gap k < (k : Int))
  | 0 => .inl rfl
  | k + 1 => by rw [af7]; exact ajl (adR l f gap k)
def jD (Qg Qc Qx : Nat) : List AO := [mv 34 7, bc 35 .lss 34 (V.int 0), mv 36 35, xg 37 (.load true 11 (.t 4)) 36 false, xg 38 (.load true 11 (.t 9)) 36 false, xg 39 (.call Qg [(.t 37), (.t 38)]) 36 false, xg 40 (.load true 11 (.t 4)) 36 false, mg 41 0 36 false, mg 42 7 36 false, xg 43 (.iaddr 11 (.t 41) (.t 42)) 36 false, xg 44 (.load true 11 (.t 43)) 36 false, xg 45 (.call Qg [(.t 40), (.t 44)]) 36 false, xg 46 (.call Qc [(.t 39), (.t 45)]) 36 false, xg 47 (.faddr 3 (.t 9)) 36 false, xg 48 (.load false 1 (.t 47)) 36 false, mg 49 0 36 false, mg 50 7 36 false, xg 51 (.iaddr 11 (.t 49) (.t 50)) 36 false, xg 52 (.faddr 3 (.t 51)) 36 false, xg 53 (.load false 1 (.t 52)) 36 false, xg 54 (.call Qc [(.t 48), (.t 53)]) 36 false, xg 55 (.faddr 2 (.t 9)) 36 false, xg 56 (.load false 1 (.t 55)) 36 false, mg 57 0 36 false, mg 58 7 36 false, xg 59 (.iaddr 11 (.t 57) (.t 58)) 36 false, xg 60 (.faddr 2 (.t 59)) 36 false, xg 61 (.load false 1 (.t 60)) 36 false, xg 62 (.call Qc [(.t 56), (.t 61)]) 36 false, xg 63 (.bslice 3 1 false [vi0] [(0, (.t 46)), (1, (.t 54)), (2, (.t 62))]) 36 false, xg 64 (.call Qx [(.t 63)]) 36 false, xg 65 (.bin .lss (.t 64) (.c (V.int 0))) 36 false, xo 66 (.pick (.t 36) (.c (V.bool true)) (.t 65))]
def jF : List (List Nat) := [[], [0], [1], [2], [2], [3, 4, 2, 2], [2], [2], [2], [7, 8, 2], [9, 2], [6, 10, 5, 2], [5, 11, 11, 2], [2], [13, 2], [2], [2], [15, 16, 2], [17, 2], [18, 2], [14, 19, 12, 2], [2], [21, 2], [2], [2], [23, 24, 2], [25, 2], [26, 2], [22, 27, 20, 2], [12, 20, 28, 2], [29, 28, 2], [30, 2], [2, 31]]
def jy : OT := .one 0 (.one 1 (.one 2 (.one 3 (.one 4 (.one 5 (.one 6 (.one 7 (.one 8 (.one 9 (.one 10 (.one 11 (.one 12 (.one 13 (.one 14 (.one 15 (.one 16 (.one 17 (.one 18 (.one 19 (.one 20 (.one 21 (.one 22 (.one 23 (.one 24 (.one 25 (.one 26 (.one 27 (.one 28 (.one 29 (.one 30 (.one 31 (.one 32 .done))))))))))))))))))))))))))))))))
@[go_sem] def jB (Qg Qc Qx : Nat) : OP := oN 0 (mv 34 7) (oN 1 (bc 35 .lss 34 (V.int 0)) (oN 2 (mv 36 35) (oN 3 (xg 37 (.load true 11 (.t 4)) 36 false) (oN 4 (xg 38 (.load true 11 (.t 9)) 36 false) (oN 5 (xg 39 (.call Qg [(.t 37), (.t 38)]) 36 false) (oN 6 (xg 40 (.load true 11 (.t 4)) 36 false) (oN 7 (mg 41 0 36 false) (oN 8 (mg 42 7 36 false) (oN 9 (xg 43 (.iaddr 11 (.t 41) (.t 42)) 36 false) (oN 10 (xg 44 (.load true 11 (.t 43)) 36 false) (oN 11 (xg 45 (.call Qg [(.t 40), (.t 44)]) 36 false) (.one 12 false [11, 5] (xg 46 (.call Qc [(.t 39), (.t 45)]) 36 false) (oN 13 (xg 47 (.faddr 3 (.t 9)) 36 false) (oN 14 (xg 48 (.load false 1 (.t 47)) 36 false) (oN 15 (mg 49 0 36 false) (oN 16 (mg 50 7 36 false) (oN 17 (xg 51 (.iaddr 11 (.t 49) (.t 50)) 36 false) (oN 18 (xg 52 (.faddr 3 (.t 51)) 36 false) (oN 19 (xg 53 (.load false 1 (.t 52)) 36 false) (oN 20 (xg 54 (.call Qc [(.t 48), (.t 53)]) 36 false) (oN 21 (xg 55 (.faddr 2 (.t 9)) 36 false) (oN 22 (xg 56 (.load false 1 (.t 55)) 36 false) (oN 23 (mg 57 0 36 false) (oN 24 (mg 58 7 36 false) (oN 25 (xg 59 (.iaddr 11 (.t 57) (.t 58)) 36 false) (oN 26 (xg 60 (.faddr 2 (.t 59)) 36 false) (oN 27 (xg 61 (.load false 1 (.t 60)) 36 false) (oN 28 (xg 62 (.call Qc [(.t 56), (.t 61)]) 36 false) (.one 29 false [28, 20, 12, 11, 5] (xg 63 (.bslice 3 1 false [vi0] [(0, (.t 46)), (1, (.t 54)), (2, (.t 62))]) 36 false) (.one 30 false [29, 28, 20, 12, 11, 5] (xg 64 (.call Qx [(.t 63)]) 36 false) (oN 31 (xg 65 (.bin .lss (.t 64) (.c (V.int 0))) 36 false) (oN 32 (xo 66 (.pick (.t 36) (.c (V.bool true)) (.t 65))) .done))))))))))))))))))))))))))))))))
instance (Qg Qc Qx : Nat) : RG [] jy (jB Qg Qc Qx) (jD Qg Qc Qx) jF 33 (fun _ => true) := ⟨rfl, by kernel_rfl, by kernel_rfl⟩
def Ke (Qg Qc Qx : Nat) : AC := Qb [0, 2, 4] (.reg [xo 4 (.box true 11 (.t 1)), mc 6 (V.int 0)]) (Qb [0, 2, 4, 7] (.reg [mc 7 (V.int (-1))]) (Qb [7] (Qb [0, 2, 4, 7, 10, 11, 12] (.reg [mv 10 0, ln 11 10, mc 12 (V.int 0)]) (.block 0 (Y6 [0, 2, 4, 7, 10, 11, 12] (Qb [0, 2, 4, 7, 10, 11, 12, 13] (.reg [bn 13 .lss 12 11]) (Qb [0, 2, 4, 7, 10, 11, 12] (.cond (.t 13) .skip (.exit 0)) (Qb [0, 2, 4, 7, 10, 11, 12] (.block 1 (Qb [0, 2, 4, 7, 8, 9, 10, 11, 12] (.reg [mv 14 12, ia 15 11 10 12, xo 16 (.load true 11 (.t 15)), xo 9 (.alloc [.val vi0, .val vs0, .val vi0, .val vi0, .val vi0, .val vi0, .val vs0, .val vi0, .val vi0, .val vi0, .val vs0]), mv 8 14, xs 11 9 16]) (Qb [0, 2, 4, 7, 8, 9, 10, 11, 12] (Qb [0, 2, 4, 7, 8, 9, 10, 11, 12, 33] (.reg [fa 17 2 9, ld 18 1 17, bc 19 .eql 18 (V.int 0), mv 20 19, xg 21 (.faddr 1 (.t 9)) 20 false, xg 22 (.load false 1 (.t 21)) 20 false, xg 23 (.faddr 1 (.t 4)) 20 false, xg 24 (.load false 1 (.t 23)) 20 false, xg 25 (.bin .neq (.t 22) (.t 24)) 20 false, xo 26 (.pick (.t 20) (.c (V.bool true)) (.t 25)), mv 27 26, xg 28 (.load true 11 (.t 4)) 27 false, xg 29 (.load true 11 (.t 9)) 27 false, xg 30 (.call Qg [(.t 28), (.t 29)]) 27 false, mg 31 2 27 false, xg 32 (.bin .gtr (.t 30) (.t 31)) 27 false, xo 33 (.pick (.t 27) (.c (V.bool true)) (.t 32))]) (.cond (.t 33) (.exit 1) .skip)) (Qb [0, 2, 4, 7, 8, 10, 11, 12, 66] (wP [] jy (jB Qg Qc Qx) (jD Qg Qc Qx) jF) (.cond (.t 66) (.reg [mv 67 8, mv 7 67]) .skip))))) (.reg [bc 68 .add 12 (V.int 1), mv 12 68]))))))) (Qb [6] (.reg [mv 69 7, mv 6 69]) .ret))) def r_identity_nearest : List Jf := [.tmp 6]
def UD (Γ : Env) (f : Nat) : Prop := ∀ (l : List Qa) (f0 : Qa) (gap : Int) (hl : l.length < 2 ^ 40) (hd : ∀ x ∈ l, aq4 x) (hf : aq4 f0), EvN Γ f [.sl 11 (l.map Qa.v), f0.v, V.int gap] (V.int (aig l f0 gap))
attribute [local go_sem] Qa.cells Qa.v Wo in
theorem ab6 {Γ : Env} {f Qg Qc Qx : Nat} (h : Has Γ.P f 70 (Ke Qg Qc Qx) r_identity_nearest) (z0 : X3 Γ Qg) (z1 : XW Γ Qc) (z2 : jS Γ Qx) : UD Γ f := by
  intro l f0 gap hl hd hf
  refine Qd h zsi zcl zcl fun C hC hm => ?_
  subst hC
  unfold Ke
  simp only [Qa.v, Qa.cells]
  refine zgo ?_; repeat' first | exact zt | apply zan | intro hc
  refine QH (ι := Nat) (fun k => k ≤ l.length) (fun k => Wo [(0, .sl 11 (l.map Qa.v)), (2, V.int gap), (4, .ptr 0 0), (7, V.int (abv l f0 gap k)), (10, .sl 11 (l.map Qa.v)), (11, V.int l.length), (12, V.int k)] [(0, .box true f0.cells)] 1) (fun k => l.length - k) 0 (Nat.zero_le _) (Ql []) (Qu [] (by simp only [go_sem, zwl, Nat.reduceAdd, Nat.reduceMul, Nat.reduceEqDiff, Nat.reduceLT, Int.reduceToNat, reduceIte, reduceCtorEq, List.length_map] <;> exact zcc) (by simp only [go_sem, zwl, Nat.reduceAdd, Nat.reduceMul, Nat.reduceEqDiff, Nat.reduceLT, Int.reduceToNat, reduceIte, reduceCtorEq, Qa.cells] <;> exact zcc) (by simp) (by simp) (by omega)) fun k hk K' hL => ?_
  have hrng := adR l f0 gap k
  have hsuc := af7 l f0 gap k
  have hN : aig l f0 gap = abv l f0 gap l.length := rfl
  rcases hdr : l.drop k with _ | ⟨g, r⟩
  · have hkl := Je hdr
    have e1 : decide ((k : Int) < (l.length : Int)) = false := by simp; omega
    obtain rfl : k = l.length := by omega
    rw [hN]
    (have zx := e1); exact zg
  · obtain ⟨hk', hget, hr⟩ := QJ hdr
    have hw := Qr (k := k) (by omega)
    have e1 : decide ((k : Int) < (l.length : Int)) = true := by simp; omega
    have hg := hd g (List.mem_of_getElem? hget)
    have p1 := (z0 f0 g hf hg).b
    rw [wT, hget] at hsuc
    simp only at hsuc
    clear hN
    generalize abv l f0 gap k = best at *
    generalize ajR f0 g = dg at *
    simp only [Qa.v, Qa.cells] at p1 hL ⊢
    by_cases c1 : g.mach = 0
    · rw [if_pos (.inl c1)] at hsuc
      have e2 : (g.mach == 0) = true := by simpa using c1
      (have zx := And.intro e1 (And.intro e2 (And.intro hw hget))); refine zgo ?_; repeat' first | exact zt | apply zan | intro hc
      all_goals first | exact hL _ (k + 1) (Ql []) (by omega) (by omega) (by rw [hsuc]; exact Qu [] zwa (by simp only [go_sem, zwl, Nat.reduceAdd, Nat.reduceMul, Nat.reduceEqDiff, Nat.reduceLT, Int.reduceToNat, reduceIte, reduceCtorEq, Qa.cells] <;> exact zcc) (by simp) (by simp) (by omega)) | trace_state
    have e2 : (g.mach == 0) = false := by simpa using c1
    by_cases c2 : g.host = f0.host
    · by_cases c3 : dg > gap
      · rw [if_pos (.inr (.inr c3))] at hsuc
        have e3 : (g.host == f0.host) = true := by simpa using c2
        have e4 : decide (dg > gap) = true := decide_eq_true c3
        (have zx := And.intro e1 (And.intro e2 (And.intro e3 (And.intro e4 (And.intro hw hget))))); refine zgo ?_; repeat' first | exact zt | apply zan | intro hc
        all_goals first | exact hL _ (k + 1) (Ql []) (by omega) (by omega) (by rw [hsuc]; exact Qu [] zwa (by simp only [go_sem, zwl, Nat.reduceAdd, Nat.reduceMul, Nat.reduceEqDiff, Nat.reduceLT, Int.reduceToNat, reduceIte, reduceCtorEq, Qa.cells] <;> exact zcc) (by simp) (by simp) (by omega)) | trace_state
      have e3 : (g.host == f0.host) = true := by simpa using c2
      have e4 : decide (dg > gap) = false := decide_eq_false c3
      rw [if_neg (by simp only [not_or, Decidable.not_not]; exact ⟨c1, c2, c3⟩)] at hsuc
      by_cases c4 : best < 0
      · rw [if_pos c4] at hsuc
        have e5 : decide (best < 0) = true := decide_eq_true c4
        (have zx := And.intro e1 (And.intro e2 (And.intro e3 (And.intro e4 (And.intro e5 (And.intro hw hget)))))); refine zgo ?_; repeat' first | exact zt | apply zan | intro hc
        all_goals first | exact hL _ (k + 1) (Ql []) (by omega) (by omega) (by rw [hsuc]; exact Qu [] zwa (by simp only [go_sem, zwl, Nat.reduceAdd, Nat.reduceMul, Nat.reduceEqDiff, Nat.reduceLT, Int.reduceToNat, reduceIte, reduceCtorEq, Qa.cells] <;> exact zcc) (by simp) (by simp) (by omega)) | trace_state
      · rw [if_neg c4] at hsuc
        have e5 : decide (best < 0) = false := decide_eq_false c4
        obtain ⟨j, rfl⟩ : ∃ j : Nat, best = j := ⟨best.toNat, by omega⟩
        have hj : j < l.length := by omega
        obtain ⟨q, hgq⟩ : ∃ q, l[j]? = some q := ⟨_, List.getElem?_eq_getElem hj⟩
        rw [Int.toNat_natCast, hgq] at hsuc
        simp only at hsuc
        have p2 := (z0 f0 q hf (hd q (List.mem_of_getElem? hgq))).b
        generalize ajR f0 q = dq at *
        have p3 := (z1 dg dq).b
        have p4 := (z1 g.day q.day).b
        have p5 := (z1 g.mach q.mach).b
        have p6 := (z2 [U4 dg dq, U4 g.day q.day, U4 g.mach q.mach] (by simp)).b
        generalize YP [U4 dg dq, U4 g.day q.day, U4 g.mach q.mach] = ff at *
        simp only [Qa.v, Qa.cells, List.map_cons, List.map_nil] at p2 p6
        by_cases c5 : ff < 0
        · rw [if_pos c5] at hsuc
          have e6 : decide (ff < 0) = true := decide_eq_true c5
          (have zx := And.intro e1 (And.intro e2 (And.intro e3 (And.intro e4 (And.intro e5 (And.intro e6 (And.intro hw (And.intro hget hgq)))))))); refine zgo ?_; repeat' first | exact zt | apply zan | intro hc
          all_goals first | exact hL _ (k + 1) (Ql []) (by omega) (by omega) (by rw [hsuc]; exact Qu [] zwa (by simp only [go_sem, zwl, Nat.reduceAdd, Nat.reduceMul, Nat.reduceEqDiff, Nat.reduceLT, Int.reduceToNat, reduceIte, reduceCtorEq, Qa.cells] <;> exact zcc) (by simp) (by simp) (by omega)) | trace_state
        · rw [if_neg c5] at hsuc
          have e6 : decide (ff < 0) = false := decide_eq_false c5
          (have zx := And.intro e1 (And.intro e2 (And.intro e3 (And.intro e4 (And.intro e5 (And.intro e6 (And.intro hw (And.intro hget hgq)))))))); refine zgo ?_; repeat' first | exact zt | apply zan | intro hc
          all_goals first | exact hL _ (k + 1) (Ql []) (by omega) (by omega) (by rw [hsuc]; exact Qu [] zwa (by simp only [go_sem, zwl, Nat.reduceAdd, Nat.reduceMul, Nat.reduceEqDiff, Nat.reduceLT, Int.reduceToNat, reduceIte, reduceCtorEq, Qa.cells] <;> exact zcc) (by simp) (by simp) (by omega)) | trace_state
    · rw [if_pos (.inr (.inl c2))] at hsuc
      have e3 : (g.host == f0.host) = false := by simpa using c2
      (have zx := And.intro e1 (And.intro e2 (And.intro e3 (And.intro hw hget)))); refine zgo ?_; repeat' first | exact zt | apply zan | intro hc
      all_goals first | exact hL _ (k + 1) (Ql []) (by omega) (by omega) (by rw [hsuc]; exact Qu [] zwa (by simp only [go_sem, zwl, Nat.reduceAdd, Nat.reduceMul, Nat.reduceEqDiff, Nat.reduceLT, Int.reduceToNat, reduceIte, reduceCtorEq, Qa.cells] <;> exact zcc) (by simp) (by simp) (by omega)) | trace_state
def QG (p : List Nat) : List V := p.map fun n : Nat => V.int (n : Int)
structure PW (p : List Nat) : Prop where
  len : p.length = 400
  le : ∀ i j : Nat, p[i]? = some j → j ≤ i
theorem X8 (p : List Nat) : (QG p).length = p.length := by simp [QG]
theorem WC {p : List Nat} {i j : Nat} (h : p[i]? = some j) : (QG p)[i]? = some (V.int j) := by simp [QG, h]
theorem XN (p : List Nat) : Qh (QG p) := by
  unfold QG
  induction p with
  | nil => trivial
  | cons x r ih => exact ⟨trivial, ih⟩
theorem QD (τ : Nat → Nat) (p : List Nat) : yU τ (QG p) = QG p := JR _ _ (XN p)
theorem QU (n : Nat) (p : List Nat) : ltL n (QG p) := Wd _ _ (XN p)
theorem af0 (p : List Nat) (i j : Nat) : (QG p).set i (V.int j) = QG (p.set i j) := by simp [QG, List.map_set]
theorem ajg {p : List Nat} {i : Nat} (h : i < p.length) (j : Nat) : List.take i (QG p) ++ [V.int (j : Int)] ++ List.drop (i + 1) (QG p) = QG (p.set i j) := by
  rw [← af0, List.set_eq_take_append_cons_drop, if_pos (by rw [X8]; exact h), List.append_assoc]; rfl
theorem PW.get {p : List Nat} (h : PW p) {i : Nat} (hi : i < 400) : ∃ j, p[i]? = some j ∧ j ≤ i := by
  have : i < p.length := by rw [h.len]; exact hi
  exact ⟨p[i], List.getElem?_eq_getElem this, h.le i _ (List.getElem?_eq_getElem this)⟩
theorem PW.set {p : List Nat} (h : PW p) {i j : Nat} (hj : j ≤ i) : PW (p.set i j) := ⟨by rw [List.length_set]; exact h.len, fun a b e => by
  rw [List.getElem?_set] at e
  split at e
  · split at e
    · rename_i e1 _; cases e; rw [← e1]; exact hj
    · cases e
  · exact h.le a b e⟩
def ai7 (p : List Nat) : Nat → Nat → Nat
  | 0, i => i
  | n + 1, i => match p[i]? with
    | some j => if j = i then i else ai7 p n j
    | none => i
def Ub (p : List Nat) (i : Nat) : Nat := ai7 p (i + 1) i
theorem ahC {p : List Nat} (h : PW p) : ∀ (n i m : Nat), i < n → i < m → ai7 p n i = ai7 p m i
  | 0, i, m, h1, _ => absurd h1 (Nat.not_lt_zero _)
  | n + 1, i, 0, _, h2 => absurd h2 (Nat.not_lt_zero _)
  | n + 1, i, m + 1, h1, h2 => by
    simp only [ai7]
    rcases e : p[i]? with _ | j
    · rfl
    · simp only
      split
      · rfl
      · rename_i hne
        have := h.le i j e
        exact ahC h n j m (by omega) (by omega)
theorem aaV {p : List Nat} (h : PW p) {i j : Nat} (e : p[i]? = some j) : Ub p i = if j = i then i else Ub p j := by
  rw [Ub, ai7, e]
  simp only
  split
  · rfl
  · rename_i hne
    have := h.le i j e
    exact ahC h _ _ _ (by omega) (by omega)
theorem afH {p : List Nat} (h : PW p) : ∀ i, Ub p i ≤ i := by
  intro i
  induction i using Nat.strongRecOn with
  | _ i ih =>
    rcases e : p[i]? with _ | j
    · rw [Ub, ai7, e]; exact Nat.le_refl _
    · rw [aaV h e]
      have := h.le i j e
      split
      · exact Nat.le_refl _
      · rename_i hne
        have := ih j (by omega)
        omega
def Wh : AC := Qb [0, 1] (.reg [mc 4 (V.int 0)]) (Qb [1] (.block 0 (Y6 [0, 1] (Qb [0, 1] (Qb [0, 1, 11] (.reg [mv 5 0, mv 6 1, nk 7 5, xo 8 (.iaddrA 400 1 (.t 7) (.t 6)), ld 9 1 8, mv 10 1, bn 11 .neq 9 10]) (.cond (.t 11) .skip (.exit 0))) (.block 1 (.reg [mv 12 0, mv 13 1, nk 14 12, xo 15 (.iaddrA 400 1 (.t 14) (.t 13)), ld 16 1 15, mv 1 16]))))) (Qb [4] (.reg [mv 17 1, mv 4 17]) .ret)) def r_identity_parents__root : List Jf := [.tmp 4]
def YW (Γ : Env) (f : Nat) : Prop := ∀ (p : List Nat) (i : Nat) (hp : PW p) (hi : i < 400), EvD Γ f [V.int i] (QG p) (V.int (Ub p i)) (QG p)
attribute [local go_sem] Nat.mul_one Nat.zero_add Wo in
theorem xR {Γ : Env} {f : Nat} (h : Has Γ.P f 18 Wh r_identity_parents__root)  : YW Γ f := by
  intro p i hp hi
  refine Uv h zsi (by first | exact XN _ | simp only [V.closed, Qh, and_self]) zc3 zc3 fun C hC hm => ?_
  subst hC
  unfold Wh
  have hpc := X8 p
  have hl4 := hp.len
  refine zgo ?_; repeat' first | exact zt | apply zan | intro hc
  refine QH (ι := Nat) (fun k => k ≤ i ∧ Ub p k = Ub p i) (fun k => Wo [(0, .ptr 0 0), (1, V.int k)] [(0, .box true (QG p))] 1) (fun k => k) i ⟨Nat.le_refl _, rfl⟩ (Ql []) (Qu [] zwa (by simp only [go_sem, zwl, Nat.reduceAdd, Nat.reduceMul, Nat.reduceEqDiff, Nat.reduceLT, Int.reduceToNat, reduceIte, reduceCtorEq, QD, QU] <;> exact zcc) (by simp) (by simp) (by omega)) fun k hk K' hL => ?_
  obtain ⟨hk, hinv⟩ := hk
  obtain ⟨j, hg, hj⟩ := hp.get (i := k) (by omega)
  have hgc := WC hg
  have hst := aaV hp hg
  rw [hinv] at hst
  have e0 : decide ((0 : Int) ≤ (k : Int)) = true := by simp
  by_cases hjk : j = k
  · subst hjk
    rw [if_pos rfl] at hst
    rw [hst]
    have e1 : ((j : Int) != (j : Int)) = false := by simp
    (have zx := And.intro hgc (And.intro hpc (And.intro hl4 e1))); refine zgo ?_; repeat' first | exact zt | apply zan | intro hc
    all_goals first | (refine aeX _ rfl rfl (XN p) ?_; simp only [go_sem, Nat.reduceEqDiff, Nat.reduceAdd, reduceIte, reduceCtorEq]; done) | trace_state
  · rw [if_neg hjk] at hst
    have e1 : ((j : Int) != (k : Int)) = true := by simp; omega
    (have zx := And.intro hgc (And.intro hpc (And.intro hl4 e1))); refine zgo ?_; repeat' first | exact zt | apply zan | intro hc
    all_goals first | exact hL _ j (Ql []) ⟨by omega, hst.symm⟩ (by omega) (Qu [] zwa (by simp only [go_sem, zwl, Nat.reduceAdd, Nat.reduceMul, Nat.reduceEqDiff, Nat.reduceLT, Int.reduceToNat, reduceIte, reduceCtorEq, QD, QU] <;> exact zcc) (by simp) (by simp) (by omega)) | trace_state
def amB (p : List Nat) (i k : Nat) : List Nat := p.set (max (Ub p i) (Ub p k)) (min (Ub p i) (Ub p k))
theorem aik {p : List Nat} (h : PW p) (i k : Nat) : PW (amB p i k) := h.set (by omega)
theorem arV (a b : Nat) : (if (a : Int) < (b : Int) then (b : Int) else (a : Int)) = ((max a b : Nat) : Int) := by
  split <;> omega
theorem arT (a b : Nat) : (if (b : Int) < (a : Int) then (b : Int) else (a : Int)) = ((min a b : Nat) : Int) := by
  split <;> omega
def Wi (QA : Nat) : AC := Qb [0, 6, 7] (.reg [mv 8 0, mv 9 1, cl 10 QA [8, 9], mv 11 0, mv 12 2, cl 13 QA [11, 12], mv 6 10, mv 7 13]) (.reg [mv 14 0, mv 15 6, mv 16 7, xo 17 (.mm true [(.t 15), (.t 16)]), mv 18 6, mv 19 7, xo 20 (.mm false [(.t 18), (.t 19)]), nk 21 14, xo 22 (.iaddrA 400 1 (.t 21) (.t 17)), xs 1 22 20]) def r_identity_parents__join : List Jf := []
def XX (Γ : Env) (f : Nat) : Prop := ∀ (p : List Nat) (i k : Nat) (hp : PW p) (hi : i < 400) (hk : k < 400), EvD Γ f [V.int i, V.int k] (QG p) (.tup []) (QG (amB p i k))
attribute [local go_sem] Nat.mul_one Nat.zero_add in
theorem xS {Γ : Env} {f QA : Nat} (h : Has Γ.P f 23 (Wi QA) r_identity_parents__join) (z0 : YW Γ QA) : XX Γ f := by
  intro p i k hp hi hk
  refine Uv h zsi (by first | exact XN _ | simp only [V.closed, Qh, and_self]) zc3 zc3 fun C hC hm => ?_
  subst hC
  unfold Wi
  have n1 := z0 p i hp hi
  have n2 := z0 p k hp hk
  have r1 := afH hp i
  have r2 := afH hp k
  have hpc := X8 p
  have hl4 := hp.len
  unfold amB
  generalize Ub p i = a at *
  generalize Ub p k = b at *
  have m1 := arV a b
  have m2 := arT a b
  have m3 : max a b < 400 := by omega
  have hs := ajg (p := p) (i := max a b) (by omega) (min a b)
  (have zx := And.intro hpc (And.intro hl4 (And.intro m1 (And.intro m2 hs)))); refine zgo ?_; repeat' first | exact zt | apply zan | intro hc
  all_goals first | (refine aeX _ rfl rfl (XN _) ?_; simp only [go_sem, Nat.reduceEqDiff, Nat.reduceAdd, reduceIte, reduceCtorEq]; done) | trace_state
def aqc (k : Int) : List Int → Nat → Option Nat
  | [], _ => none
  | e :: r, i => if k = e then some i else aqc k r (i + 1)
theorem ahV (k : Int) : ∀ (ks : List Int) (i : Nat), xA false [0] (V.int k) (ks.map V.int) i = some (aqc k ks i)
  | [], _ => rfl
  | e :: r, i => by
    have h : yk false [0] (V.int k) (V.int e) = some (k == e) := by simp [yk, Yg]
    rw [List.map_cons, xA, h]
    by_cases hk : k = e
    · subst hk; simp [aqc]
    · have : (k == e) = false := by simpa using hk
      rw [this]; simp only [aqc, if_neg hk]
      exact ahV k r (i + 1)
theorem aob {k : Int} : ∀ {ks : List Int} {i a : Nat}, aqc k ks i = some a → i ≤ a ∧ a < i + ks.length
  | [], _, _, h => by cases h
  | e :: r, i, a, h => by
    rw [aqc] at h
    split at h
    · cases h; simp
    · have := aob h
      simp only [List.length_cons]; omega
theorem agH (k : Int) : yk false [0] (V.int k) (V.int k) = some true := by simp [yk, Yg]
structure JS where
  p : List Nat
  ks : List Int
  vs : List Nat
  loose : Int
structure JW (k : Nat) (s : JS) : Prop where
  pw : PW s.p
  len : s.ks.length = s.vs.length
  vlt : ∀ v ∈ s.vs, v < k
  lo : s.loose = -1 ∨ (0 ≤ s.loose ∧ s.loose < (k : Int))
def anS (l : List Qa) (f : Qa) (gap loose : Int) : Bool :=
  decide (loose ≥ 0) && match l[loose.toNat]? with
    | some g => g.host == f.host && decide (ajR f g ≤ gap)
    | none => false
def amA (l : List Qa) (gap : Int) (s : JS) (i : Nat) (f : Qa) : JS :=
  if f.mach = 0 then
    if aig l f gap ≥ 0 then { s with p := amB s.p i (aig l f gap).toNat }
    else { s with p := if anS l f gap s.loose = true then amB s.p i s.loose.toNat else s.p, loose := i }
  else match aqc f.mach s.ks 0 with
    | some a => { s with p := amB s.p i (s.vs.getD a 0), vs := s.vs.set a i }
    | none => { s with ks := s.ks ++ [f.mach], vs := s.vs ++ [i] }
def xz (l : List Qa) (gap : Int) : Nat → JS
  | 0 => ⟨List.range 400, [], [], -1⟩
  | k + 1 => match l[k]? with
    | some f => amA l gap (xz l gap k) k f
    | none => xz l gap k
def amC (l : List Qa) (gap : Int) : List Nat := (xz l gap l.length).p
theorem aoW : PW (List.range 400) := ⟨List.length_range, fun i j h => by
  obtain ⟨h1, h2⟩ := List.getElem?_eq_some_iff.1 h
  rw [List.getElem_range] at h2; omega⟩
theorem anT (l : List Qa) (f : Qa) (gap : Int) : aig l f gap = -1 ∨ (0 ≤ aig l f gap ∧ aig l f gap < (l.length : Int)) := adR l f gap l.length
theorem apn {l : List Qa} {gap : Int} {s : JS} {i : Nat} {f : Qa} (h : JW i s) : JW (i + 1) (amA l gap s i f) := by
  obtain ⟨h1, h2, h3, h4⟩ := h
  have h3' : ∀ v ∈ s.vs, v < i + 1 := fun v hv => Nat.lt_succ_of_lt (h3 v hv)
  unfold amA
  split
  · split
    · exact ⟨aik h1 _ _, h2, h3', by simp only; omega⟩
    · refine ⟨?_, h2, h3', .inr (by simp only; omega)⟩
      simp only
      split
      · exact aik h1 _ _
      · exact h1
  · split
    · refine ⟨aik h1 _ _, by simpa using h2, fun v hv => ?_, by simp only; omega⟩
      rcases List.mem_or_eq_of_mem_set hv with hv | hv
      · exact h3' v hv
      · omega
    · refine ⟨h1, by simp [h2], fun v hv => ?_, by simp only; omega⟩
      rcases List.mem_append.1 hv with hv | hv
      · exact h3' v hv
      · rw [List.mem_singleton.1 hv]; omega
theorem agc (l : List Qa) (gap : Int) : ∀ k, JW k (xz l gap k)
  | 0 => ⟨aoW, rfl, by simp [xz], .inl rfl⟩
  | k + 1 => by
    have ih := agc l gap k
    rw [xz]
    split
    · exact apn ih
    · exact ⟨ih.pw, ih.len, fun v hv => Nat.lt_succ_of_lt (ih.vlt v hv), by have := ih.lo; omega⟩
theorem ail (l : List Qa) (gap : Int) : PW (amC l gap) := (agc l gap l.length).pw
def ipP (k : Nat) : List Nat := (List.range 400).map fun j => if j < k then j else 0
theorem aqB (n i : Nat) (v : Value) (h : i < (arA n v).length) : (arA n v)[i] = v := by simp [arA]
theorem aqA (n : Nat) (v : Value) : (arA n v).length = n := List.length_replicate
theorem apo : (arA 400 (.int .i64 0)).map V.ofV = QG (ipP 0) := by
  apply List.ext_getElem
  · rw [List.length_map, aqA, X8, ipP, List.length_map, List.length_range]
  · intro i h1 h2; rw [List.getElem_map, aqB]; simp only [QG, ipP, List.getElem_map, Nat.not_lt_zero, if_false]; rfl
theorem an7 (k : Nat) : (ipP k).length = 400 := by simp [ipP]
theorem aqW (k : Nat) : (ipP k).set k k = ipP (k + 1) := by
  apply List.ext_getElem
  · simp [ipP]
  · intro i h1 h2
    simp only [ipP, List.getElem_set, List.getElem_map, List.getElem_range]
    split
    · rename_i e; subst e; simp
    · rename_i e
      by_cases hi : i < k
      · rw [if_pos hi, if_pos (by omega)]
      · rw [if_neg hi, if_neg (by omega)]
theorem aqX : ipP 400 = List.range 400 := by
  apply List.ext_getElem
  · simp [ipP]
  · intro i h1 h2
    simp only [ipP, List.length_map, List.length_range] at h1
    simp [ipP, h1]
def jSt (l : List Qa) (gap : Int) (k : Nat) (s : JS) : St := Wo [(0, .sl 11 (l.map Qa.v)), (1, V.int gap), (5, .ptr 0 0), (7, .mp 1), (8, V.int s.loose), (26, .sl 11 (l.map Qa.v)), (27, V.int l.length), (28, V.int k)] [(0, .box true (QG s.p)), (1, .map (s.ks.map V.int) (QG s.vs) 0)] 2
theorem wo (p : List Nat) (i : Nat) : QG p ++ [V.int (i : Int)] = QG (p ++ [i]) := by simp [QG]
theorem akE {l : List Qa} {gap : Int} {k : Nat} {f : Qa} (h : l[k]? = some f) : xz l gap (k + 1) = amA l gap (xz l gap k) k f := by rw [xz, h]
def yc (Qg : Nat) : List AO := [mv 62 8, bc 63 .geq 62 (V.int 0), mv 64 63, mg 65 0 64 true, mg 66 8 64 true, xg 67 (.iaddr 11 (.t 65) (.t 66)) 64 true, xg 68 (.faddr 1 (.t 67)) 64 true, xg 69 (.load false 1 (.t 68)) 64 true, xg 70 (.faddr 1 (.t 10)) 64 true, xg 71 (.load false 1 (.t 70)) 64 true, xg 72 (.bin .eql (.t 69) (.t 71)) 64 true, xo 73 (.pick (.t 64) (.t 72) (.c (V.bool false))), mv 74 73, xg 75 (.load true 11 (.t 10)) 74 true, mg 76 0 74 true, mg 77 8 74 true, xg 78 (.iaddr 11 (.t 76) (.t 77)) 74 true, xg 79 (.load true 11 (.t 78)) 74 true, xg 80 (.call Qg [(.t 75), (.t 79)]) 74 true, mg 81 1 74 true, xg 82 (.bin .leq (.t 80) (.t 81)) 74 true, xo 83 (.pick (.t 74) (.t 82) (.c (V.bool false)))]
def yJ : List (List Nat) := [[], [0], [1], [2], [2], [3, 4, 2], [5, 2], [6, 2], [2], [8, 2], [7, 9, 2], [2, 10], [11, 2], [12], [12], [12], [14, 15, 12], [16, 12], [13, 17, 12, 12], [12], [18, 19, 12], [12, 20]]
def jX : OT := .one 0 (.one 1 (.one 2 (.one 3 (.one 4 (.one 5 (.one 6 (.one 7 (.one 8 (.one 9 (.one 10 (.one 11 (.one 12 (.one 13 (.one 14 (.one 15 (.one 16 (.one 17 (.one 18 (.one 19 (.one 20 (.one 21 .done)))))))))))))))))))))
@[go_sem] def j7 (Qg : Nat) : OP := oN 0 (mv 62 8) (oN 1 (bc 63 .geq 62 (V.int 0)) (oN 2 (mv 64 63) (oN 3 (mg 65 0 64 true) (oN 4 (mg 66 8 64 true) (oN 5 (xg 67 (.iaddr 11 (.t 65) (.t 66)) 64 true) (oN 6 (xg 68 (.faddr 1 (.t 67)) 64 true) (oN 7 (xg 69 (.load false 1 (.t 68)) 64 true) (oN 8 (xg 70 (.faddr 1 (.t 10)) 64 true) (oN 9 (xg 71 (.load false 1 (.t 70)) 64 true) (oN 10 (xg 72 (.bin .eql (.t 69) (.t 71)) 64 true) (oN 11 (xo 73 (.pick (.t 64) (.t 72) (.c (V.bool false)))) (oN 12 (mv 74 73) (oN 13 (xg 75 (.load true 11 (.t 10)) 74 true) (oN 14 (mg 76 0 74 true) (oN 15 (mg 77 8 74 true) (oN 16 (xg 78 (.iaddr 11 (.t 76) (.t 77)) 74 true) (oN 17 (xg 79 (.load true 11 (.t 78)) 74 true) (oN 18 (xg 80 (.call Qg [(.t 75), (.t 79)]) 74 true) (oN 19 (mg 81 1 74 true) (oN 20 (xg 82 (.bin .leq (.t 80) (.t 81)) 74 true) (oN 21 (xo 83 (.pick (.t 74) (.t 82) (.c (V.bool false)))) .done)))))))))))))))))))))
instance (Qg : Nat) : RG [] jX (j7 Qg) (yc Qg) yJ 22 (fun _ => true) := ⟨rfl, by kernel_rfl, by kernel_rfl⟩
def K7 (Jr W4 Qg : Nat) : AC := Qb [0, 1] (.reg [mc 4 (.sc (.pointer none))]) (Qb [0, 1, 5] (.reg [xo 14 (.build (arA 400 vi0) []), xo 15 (.box true 400 (.t 14)), mv 5 15]) (Qb [0, 1, 5] (Qb [0, 1, 5, 16] (.reg [mc 16 (V.int 0)]) (.block 0 (Y6 [0, 1, 5, 16] (Qb [0, 1, 5, 16, 17] (.reg [bc 17 .lss 16 (V.int 400)]) (Qb [0, 1, 5, 16] (.cond (.t 17) .skip (.exit 0)) (Qb [0, 1, 5, 16] (.block 1 (Qb [0, 1, 5, 6, 16] (.reg [mv 18 16, mv 6 18]) (.reg [mv 19 5, mv 20 6, mv 21 6, nk 22 19, xo 23 (.iaddrA 400 1 (.t 22) (.t 20)), xs 1 23 21]))) (.reg [bc 24 .add 16 (V.int 1), mv 16 24]))))))) (Qb [0, 1, 5, 7] (.reg [xo 25 (.mkmap), mv 7 25]) (Qb [0, 1, 5, 7, 8] (.reg [mc 8 (V.int (-1))]) (Qb [5] (Qb [0, 1, 5, 7, 8, 26, 27, 28] (.reg [mv 26 0, ln 27 26, mc 28 (V.int 0)]) (.block 2 (Y6 [0, 1, 5, 7, 8, 26, 27, 28] (Qb [0, 1, 5, 7, 8, 26, 27, 28, 29] (.reg [bn 29 .lss 28 27]) (Qb [0, 1, 5, 7, 8, 26, 27, 28] (.cond (.t 29) .skip (.exit 2)) (Qb [0, 1, 5, 7, 8, 26, 27, 28] (.block 3 (Qb [0, 1, 5, 7, 8, 9, 10, 26, 27, 28] (.reg [mv 30 28, ia 31 11 26 28, xo 32 (.load true 11 (.t 31)), xo 10 (.alloc [.val vi0, .val vs0, .val vi0, .val vi0, .val vi0, .val vi0, .val vs0, .val vi0, .val vi0, .val vi0, .val vs0]), mv 9 30, xs 11 10 32]) (Qb [0, 1, 5, 7, 8, 9, 10, 26, 27, 28] (Qb [0, 1, 5, 7, 8, 9, 10, 26, 27, 28, 35] (.reg [fa 33 2 10, ld 34 1 33, bc 35 .neq 34 (V.int 0)]) (.cond (.t 35) (Qb [0, 1, 5, 7, 8, 9, 10, 26, 27, 28] (Qb [0, 1, 5, 7, 8, 9, 10, 11, 12, 26, 27, 28] (.reg [mv 37 7, fa 38 2 10, ld 39 1 38, xo 40 (.mapget true false [vi0] false [0] (.t 37) (.t 39)), mv 36 40, ex 41 36 0, ex 42 36 1, mv 11 41, mv 12 42]) (Qb [0, 1, 5, 7, 8, 9, 10, 11, 26, 27, 28, 43] (.reg [mv 43 12]) (.cond (.t 43) (.reg [mv 44 5, mv 45 9, mv 46 11, cl 47 Jr [44, 45, 46]]) .skip))) (Qb [0, 1, 5, 7, 8, 26, 27, 28] (.reg [mv 48 7, fa 49 2 10, ld 50 1 49, mv 51 9, ⟨none, .mapset false [0] (.t 48) (.t 50) (.t 51), none⟩]) (.exit 3))) .skip)) (Qb [0, 1, 5, 7, 8, 9, 10, 26, 27, 28] (Qb [0, 1, 5, 7, 8, 9, 10, 13, 26, 27, 28] (.reg [mv 52 0, xo 53 (.load true 11 (.t 10)), mv 54 1, cl 55 W4 [52, 53, 54], mv 13 55]) (Qb [0, 1, 5, 7, 8, 9, 10, 13, 26, 27, 28, 57] (.reg [mv 56 13, bc 57 .geq 56 (V.int 0)]) (.cond (.t 57) (Qb [0, 1, 5, 7, 8, 26, 27, 28] (.reg [mv 58 5, mv 59 9, mv 60 13, cl 61 Jr [58, 59, 60]]) (.exit 3)) .skip))) (Qb [0, 1, 5, 7, 9, 26, 27, 28] (Qb [0, 1, 5, 7, 8, 9, 26, 27, 28, 83] (wP [] jX (j7 Qg) (yc Qg) yJ) (.cond (.t 83) (.reg [mv 84 5, mv 85 9, mv 86 8, cl 87 Jr [84, 85, 86]]) .skip)) (.reg [mv 88 9, mv 8 88])))))) (.reg [bc 89 .add 28 (V.int 1), mv 28 89]))))))) (Qb [4] (.reg [mv 90 5, mv 4 90]) .ret)))))) def r_identity_joined : List Jf := [.tmp 4]
def Kx (Γ : Env) (f : Nat) : Prop := ∀ (l : List Qa) (gap : Int) (hl : l.length ≤ 400) (hd : ∀ x ∈ l, aq4 x), EvR Γ f [.sl 11 (l.map Qa.v), V.int gap] ((QG (amC l gap)))
attribute [local go_sem] Nat.mul_one Nat.zero_add Qa.cells Qa.v jSt Wo in
theorem ac8 {Γ : Env} {f Jr W4 Qg : Nat} (h : Has Γ.P f 91 (K7 Jr W4 Qg) r_identity_joined) (z0 : XX Γ Jr) (z1 : UD Γ W4) (z2 : X3 Γ Qg) : Kx Γ f := by
  intro l gap hl hd
  refine agE h (by simp) (XN _) fun C hC hm => ?_
  subst hC
  unfold K7
  have z4 := apo
  have hpc := X8
  have hip := an7
  (have zx := And.intro z4 (And.intro hpc hip)); refine zgo ?_; repeat' first | exact zt | apply zan | intro hc
  refine QH (ι := Nat) (fun k => k ≤ 400) (fun k => Wo [(0, .sl 11 (l.map Qa.v)), (1, V.int gap), (5, .ptr 0 0), (16, V.int k)] [(0, .box true (QG (ipP k)))] 1) (fun k => 400 - k) 0 (Nat.zero_le _) (Ql [(0, 2000)]) (Qu [(0, 2000)] zwa (by simp only [go_sem, zwl, Nat.reduceAdd, Nat.reduceMul, Nat.reduceEqDiff, Nat.reduceLT, Int.reduceToNat, reduceIte, reduceCtorEq, QD, QU] <;> exact zcc) (by simp) (by simp; omega) (by omega)) fun k hk K' hL => ?_
  by_cases hk4 : k < 400
  · have e1 : decide ((k : Int) < 400) = true := decide_eq_true (by omega)
    have hw := Qr (k := k) (by omega)
    have hs := ajg (p := ipP k) (i := k) (by rw [an7]; exact hk4) k
    rw [aqW] at hs
    (have zx := And.intro e1 (And.intro hw (And.intro hpc (And.intro hip hs)))); refine zgo ?_; repeat' first | exact zt | apply zan | intro hc
    all_goals first | exact hL _ (k + 1) (Ql []) (by omega) (by omega) (Qu [] zwa (by simp only [go_sem, zwl, Nat.reduceAdd, Nat.reduceMul, Nat.reduceEqDiff, Nat.reduceLT, Int.reduceToNat, reduceIte, reduceCtorEq, QD, QU] <;> exact zcc) (by simp) (by simp) (by omega)) | trace_state
  have e1 : decide ((k : Int) < 400) = false := decide_eq_false (by omega)
  obtain rfl : k = 400 := by omega
  clear hL
  rw [aqX]
  have e0 : decide (((400 : Nat) : Int) < 400) = false := by decide
  (have zx := e0); refine zgo ?_; repeat' first | exact zt | apply zan | intro hc
  refine QH (ι := Nat) (fun k => k ≤ l.length) (fun k => jSt l gap k (xz l gap k)) (fun k => l.length - k) 0 (Nat.zero_le _) (Ql [(1, 1001)]) (Qu [(1, 1001)] (by simp only [go_sem, zwl, Nat.reduceAdd, Nat.reduceMul, Nat.reduceEqDiff, Nat.reduceLT, Int.reduceToNat, reduceIte, reduceCtorEq, jSt, xz, List.length_map] <;> exact zcc) (by simp only [go_sem, zwl, Nat.reduceAdd, Nat.reduceMul, Nat.reduceEqDiff, Nat.reduceLT, Int.reduceToNat, reduceIte, reduceCtorEq, jSt, xz, QD, QU] <;> exact zcc) (by simp [jSt, Ql]) (by simp [jSt]; omega) (by omega)) fun k hk K' hL => ?_
  have hJ := agc l gap k
  rcases hdr : l.drop k with _ | ⟨g, r⟩
  · have hkl := Je hdr
    have e1 : decide ((k : Int) < (l.length : Int)) = false := by simp; omega
    obtain rfl : k = l.length := by omega
    have hjf : amC l gap = (xz l gap l.length).p := rfl
    rw [hjf]
    (have zx := e1); refine zgo ?_; repeat' first | exact zt | apply zan | intro hc
    all_goals first | (refine aqf _ rfl rfl (XN _); done) | trace_state
  obtain ⟨hk', hget, hr⟩ := QJ hdr
  have hw := Qr (k := k) (by omega)
  have e1 : decide ((k : Int) < (l.length : Int)) = true := by simp; omega
  have hsu := akE (gap := gap) hget
  have hgd := hd g (List.mem_of_getElem? hget)
  generalize xz l gap k = s at *
  obtain ⟨p, ks, vs, lo⟩ := s
  obtain ⟨j1, j2, j3, j4⟩ := hJ
  simp only at j1 j2 j3 j4
  have hgv : l.map Qa.v = l.map Qa.v := rfl
  simp only [jSt]
  by_cases c1 : g.mach = 0
  · have e2 : (g.mach != 0) = false := by simpa using c1
    have p1 := (z1 l g gap (by omega) hd hgd).b
    rw [amA, if_pos c1] at hsu
    simp only [Qa.v, Qa.cells] at p1
    rcases anT l g gap with c2 | ⟨c2, c3⟩
    · rw [if_neg (by omega)] at hsu
      rw [c2] at p1
      have e3 : decide ((-1 : Int) ≥ 0) = false := by decide
      rcases hq : anS l g gap lo with _ | _
      · rw [hq, if_neg (by decide)] at hsu
        by_cases c4 : lo ≥ 0
        · obtain ⟨n, rfl⟩ : ∃ n : Nat, lo = n := ⟨lo.toNat, by omega⟩
          have e4 : decide ((n : Int) ≥ 0) = true := decide_eq_true (by omega)
          obtain ⟨q, hgq⟩ : ∃ q, l[n]? = some q := ⟨_, List.getElem?_eq_getElem (by omega)⟩
          rw [anS, e4, Bool.true_and, Int.toNat_natCast, hgq] at hq
          simp only at hq
          have p2 := (z2 g q hgd (hd q (List.mem_of_getElem? hgq))).b
          simp only [Qa.v, Qa.cells] at p2
          rcases c5 : q.host == g.host with _ | _
          · (have zx := And.intro e1 (And.intro e2 (And.intro e3 (And.intro e4 (And.intro c5 (And.intro hw (And.intro hget hgq))))))); refine zgo ?_; repeat' first | exact zt | apply zan | intro hc
            all_goals first | exact hL _ (k + 1) (Ql []) (by omega) (by omega) (by rw [hsu]; exact Qu [] (by simp only [go_sem, zwl, Nat.reduceAdd, Nat.reduceMul, Nat.reduceEqDiff, Nat.reduceLT, Int.reduceToNat, reduceIte, reduceCtorEq, jSt, List.length_map] <;> exact zcc) (by simp only [go_sem, zwl, Nat.reduceAdd, Nat.reduceMul, Nat.reduceEqDiff, Nat.reduceLT, Int.reduceToNat, reduceIte, reduceCtorEq, jSt, QD, QU] <;> exact zcc) (by simp [jSt, Ql]) (by simp [jSt]) (by omega)) | trace_state
          · rw [c5, Bool.true_and] at hq
            (have zx := And.intro e1 (And.intro e2 (And.intro e3 (And.intro e4 (And.intro c5 (And.intro hq (And.intro hw (And.intro hget hgq)))))))); refine zgo ?_; repeat' first | exact zt | apply zan | intro hc
            all_goals first | exact hL _ (k + 1) (Ql []) (by omega) (by omega) (by rw [hsu]; exact Qu [] (by simp only [go_sem, zwl, Nat.reduceAdd, Nat.reduceMul, Nat.reduceEqDiff, Nat.reduceLT, Int.reduceToNat, reduceIte, reduceCtorEq, jSt, List.length_map] <;> exact zcc) (by simp only [go_sem, zwl, Nat.reduceAdd, Nat.reduceMul, Nat.reduceEqDiff, Nat.reduceLT, Int.reduceToNat, reduceIte, reduceCtorEq, jSt, QD, QU] <;> exact zcc) (by simp [jSt, Ql]) (by simp [jSt]) (by omega)) | trace_state
        · have e4 : decide (lo ≥ 0) = false := decide_eq_false c4
          (have zx := And.intro e1 (And.intro e2 (And.intro e3 (And.intro e4 (And.intro hw hget))))); refine zgo ?_; repeat' first | exact zt | apply zan | intro hc
          all_goals first | exact hL _ (k + 1) (Ql []) (by omega) (by omega) (by rw [hsu]; exact Qu [] (by simp only [go_sem, zwl, Nat.reduceAdd, Nat.reduceMul, Nat.reduceEqDiff, Nat.reduceLT, Int.reduceToNat, reduceIte, reduceCtorEq, jSt, List.length_map] <;> exact zcc) (by simp only [go_sem, zwl, Nat.reduceAdd, Nat.reduceMul, Nat.reduceEqDiff, Nat.reduceLT, Int.reduceToNat, reduceIte, reduceCtorEq, jSt, QD, QU] <;> exact zcc) (by simp [jSt, Ql]) (by simp [jSt]) (by omega)) | trace_state
      · rw [hq, if_pos rfl] at hsu
        have c4 : lo ≥ 0 := by
          rw [anS] at hq
          simp only [Bool.and_eq_true, decide_eq_true_eq] at hq
          exact hq.1
        obtain ⟨n, rfl⟩ : ∃ n : Nat, lo = n := ⟨lo.toNat, by omega⟩
        have e4 : decide ((n : Int) ≥ 0) = true := decide_eq_true (by omega)
        obtain ⟨q, hgq⟩ : ∃ q, l[n]? = some q := ⟨_, List.getElem?_eq_getElem (by omega)⟩
        rw [anS, e4, Bool.true_and, Int.toNat_natCast, hgq] at hq
        rw [Int.toNat_natCast] at hsu
        simp only [Bool.and_eq_true] at hq
        obtain ⟨c5, c6⟩ := hq
        have p2 := (z2 g q hgd (hd q (List.mem_of_getElem? hgq))).b
        have n1 := z0 p k n j1 (by omega) (by omega)
        simp only [Qa.v, Qa.cells] at p2
        (have zx := And.intro e1 (And.intro e2 (And.intro e3 (And.intro e4 (And.intro c5 (And.intro c6 (And.intro hw (And.intro hget hgq)))))))); refine zgo ?_; repeat' first | exact zt | apply zan | intro hc
        all_goals first | exact hL _ (k + 1) (Ql []) (by omega) (by omega) (by rw [hsu]; exact Qu [] (by simp only [go_sem, zwl, Nat.reduceAdd, Nat.reduceMul, Nat.reduceEqDiff, Nat.reduceLT, Int.reduceToNat, reduceIte, reduceCtorEq, jSt, List.length_map] <;> exact zcc) (by simp only [go_sem, zwl, Nat.reduceAdd, Nat.reduceMul, Nat.reduceEqDiff, Nat.reduceLT, Int.reduceToNat, reduceIte, reduceCtorEq, jSt, QD, QU] <;> exact zcc) (by simp [jSt, Ql]) (by simp [jSt]) (by omega)) | trace_state
    · rw [if_pos c2] at hsu
      obtain ⟨n, hn⟩ : ∃ n : Nat, aig l g gap = n := ⟨(aig l g gap).toNat, by omega⟩
      rw [hn] at hsu c3 p1
      rw [Int.toNat_natCast] at hsu
      have e3 : decide ((n : Int) ≥ 0) = true := decide_eq_true (by omega)
      have n1 := z0 p k n j1 (by omega) (by omega)
      (have zx := And.intro e1 (And.intro e2 (And.intro e3 (And.intro hw hget)))); refine zgo ?_; repeat' first | exact zt | apply zan | intro hc
      all_goals first | exact hL _ (k + 1) (Ql []) (by omega) (by omega) (by rw [hsu]; exact Qu [] (by simp only [go_sem, zwl, Nat.reduceAdd, Nat.reduceMul, Nat.reduceEqDiff, Nat.reduceLT, Int.reduceToNat, reduceIte, reduceCtorEq, jSt, List.length_map] <;> exact zcc) (by simp only [go_sem, zwl, Nat.reduceAdd, Nat.reduceMul, Nat.reduceEqDiff, Nat.reduceLT, Int.reduceToNat, reduceIte, reduceCtorEq, jSt, QD, QU] <;> exact zcc) (by simp [jSt, Ql]) (by simp [jSt]) (by omega)) | trace_state
  · have e2 : (g.mach != 0) = true := by simpa using c1
    rw [amA, if_neg c1] at hsu
    have hfk := ahV g.mach ks 0
    have hek := agH g.mach
    rcases hix : aqc g.mach ks 0 with _ | a
    · rw [hix] at hsu hfk
      have hm1 : ks.map V.int ++ [V.int g.mach] = (ks ++ [g.mach]).map V.int := by simp
      have hm2 := wo vs k
      (have zx := And.intro e1 (And.intro e2 (And.intro hw (And.intro hfk (And.intro hek (And.intro hm1 (And.intro hm2 hget))))))); refine zgo ?_; repeat' first | exact zt | apply zan | intro hc
      all_goals first | exact hL _ (k + 1) (Ql []) (by omega) (by omega) (by rw [hsu]; exact Qu [] (by simp only [go_sem, zwl, Nat.reduceAdd, Nat.reduceMul, Nat.reduceEqDiff, Nat.reduceLT, Int.reduceToNat, reduceIte, reduceCtorEq, jSt, List.length_map] <;> exact zcc) (by simp only [go_sem, zwl, Nat.reduceAdd, Nat.reduceMul, Nat.reduceEqDiff, Nat.reduceLT, Int.reduceToNat, reduceIte, reduceCtorEq, jSt, QD, QU] <;> exact zcc) (by simp [jSt, Ql]) (by simp [jSt]) (by omega)) | trace_state
    · rw [hix] at hsu hfk
      have ha := (aob hix).2
      obtain ⟨v, hv⟩ : ∃ v, vs[a]? = some v := ⟨_, List.getElem?_eq_getElem (by omega)⟩
      have hvk := j3 v (List.mem_of_getElem? hv)
      have hvd : vs.getD a 0 = v := by rw [List.getD_eq_getElem?_getD, hv]; rfl
      simp only [hvd] at hsu
      have hvc := WC hv
      have n1 := z0 p k v j1 (by omega) (by omega)
      have hm1 := af0 vs a k
      (have zx := And.intro e1 (And.intro e2 (And.intro hw (And.intro hfk (And.intro hek (And.intro hm1 (And.intro hvc hget))))))); refine zgo ?_; repeat' first | exact zt | apply zan | intro hc
      all_goals first | exact hL _ (k + 1) (Ql []) (by omega) (by omega) (by rw [hsu]; exact Qu [] (by simp only [go_sem, zwl, Nat.reduceAdd, Nat.reduceMul, Nat.reduceEqDiff, Nat.reduceLT, Int.reduceToNat, reduceIte, reduceCtorEq, jSt, List.length_map] <;> exact zcc) (by simp only [go_sem, zwl, Nat.reduceAdd, Nat.reduceMul, Nat.reduceEqDiff, Nat.reduceLT, Int.reduceToNat, reduceIte, reduceCtorEq, jSt, QD, QU] <;> exact zcc) (by simp [jSt, Ql]) (by simp [jSt]) (by omega)) | trace_state
def am1 {α : Type} (lt : α → α → Bool) (l : List α) (x : α) : Nat → Nat → Nat → Nat
  | 0, i, _ => i
  | n + 1, i, j => if i < j then (match l[(i + j) / 2]? with
    | some y => if lt y x = true then am1 lt l x n ((i + j) / 2 + 1) j else am1 lt l x n i ((i + j) / 2)
    | none => i) else i
def bsI {α : Type} (lt : α → α → Bool) (l : List α) (x : α) : Nat := am1 lt l x l.length 0 l.length
theorem ak3 {α : Type} {lt : α → α → Bool} {l : List α} {x : α} : ∀ (n i j : Nat), i ≤ j → j ≤ l.length → am1 lt l x n i j ≤ l.length
  | 0, i, j, h1, h2 => by rw [am1]; omega
  | n + 1, i, j, h1, h2 => by
    rw [am1]
    split
    · split
      · split
        · exact ak3 n _ _ (by omega) h2
        · exact ak3 n _ _ (by omega) (by omega)
      · omega
    · omega
theorem aj2 {α : Type} {lt : α → α → Bool} {l : List α} {x : α} : bsI lt l x ≤ l.length := ak3 _ _ _ (Nat.zero_le _) (Nat.le_refl _)
theorem ahS {a b : Nat} (h : a + b < 2 ^ 36) : IntKind.i64.wrap ((IntKind.u64.wrap (IntKind.i64.wrap ((a : Int) + (b : Int)))).fdiv (2 ^ 1)) = (((a + b) / 2 : Nat) : Int) := by
  have e1 : IntKind.i64.wrap ((a : Int) + (b : Int)) = ((a + b : Nat) : Int) := by rw [Ym (by omega) (by omega)]; omega
  have e2 : IntKind.u64.wrap ((a + b : Nat) : Int) = ((a + b : Nat) : Int) := by
    unfold IntKind.wrap; simp [IntKind.signed, IntKind.bits]; omega
  rw [e1, e2, Int.fdiv_eq_ediv_of_nonneg _ (by decide), show (2 : Int) ^ 1 = 2 from rfl, Ym (by omega) (by omega)]; omega
def Vo : AC := Qb [0] (.reg [mc 2 (V.bool false)]) (Qb [2] (.reg [mv 3 0, mv 4 0, bn 5 .neq 3 4, mv 2 5]) .ret) def r_slices_isNaN_string : List Jf := [.tmp 2]
def WT (Γ : Env) (f : Nat) : Prop := ∀ (s : List UInt8), EvN Γ f [V.str s] (V.bool false)
theorem v5 {Γ : Env} {f : Nat} (h : Has Γ.P f 6 Vo r_slices_isNaN_string)  : WT Γ f := by
  intro s
  refine Qd h zsi zcl zcl fun C hC hm => ?_
  subst hC
  unfold Vo
  refine zgo ?_; repeat' first | exact zt | apply zan | intro hc
  all_goals first | exact zr | (refine Qv _ rfl ?_; simp only [go_sem, Nat.reduceEqDiff, Nat.reduceAdd, reduceIte, reduceCtorEq]; simp; done) | trace_state
def Kk : AC := Qb [0] (.reg [mc 2 (V.bool false)]) (Qb [2] (.reg [mv 3 0, mv 4 0, bn 5 .neq 3 4, mv 2 5]) .ret) def r_cmp_isNaN_string : List Jf := [.tmp 2]
def UI (Γ : Env) (f : Nat) : Prop := ∀ (s : List UInt8), EvN Γ f [V.str s] (V.bool false)
theorem acd {Γ : Env} {f : Nat} (h : Has Γ.P f 6 Kk r_cmp_isNaN_string)  : UI Γ f := by
  intro s
  refine Qd h zsi zcl zcl fun C hC hm => ?_
  subst hC
  unfold Kk
  refine zgo ?_; repeat' first | exact zt | apply zan | intro hc
  all_goals first | exact zr | (refine Qv _ rfl ?_; simp only [go_sem, Nat.reduceEqDiff, Nat.reduceAdd, reduceIte, reduceCtorEq]; simp; done) | trace_state
def qn (XS : Nat) : AC := Qb [0, 1] (.reg [mc 4 (V.bool false)]) (Qb [4] (.reg [mv 5 0, cl 6 XS [5], mv 7 6, mg 8 1 7 true, xg 9 (.call XS [(.t 8)]) 7 true, xg 10 (.un .not (.t 9)) 7 true, xo 11 (.pick (.t 7) (.t 10) (.c (V.bool false))), mv 12 11, mg 13 0 12 false, mg 14 1 12 false, xg 15 (.bin .lss (.t 13) (.t 14)) 12 false, xo 16 (.pick (.t 12) (.c (V.bool true)) (.t 15)), mv 4 16]) .ret) def r_cmp_Less_string : List Jf := [.tmp 4]
def KL (Γ : Env) (f : Nat) : Prop := ∀ (a b : List UInt8), EvN Γ f [V.str a, V.str b] (V.bool (Op.bytesLess a b))
theorem adm {Γ : Env} {f XS : Nat} (h : Has Γ.P f 17 (qn XS) r_cmp_Less_string) (z0 : UI Γ XS) : KL Γ f := by
  intro a b
  refine Qd h zsi zcl zcl fun C hC hm => ?_
  subst hC
  unfold qn
  have p1 := (z0 a).b
  exact zg
def UM {α : Type} [BEq α] (l : List α) (i : Nat) (x : α) : Bool := match l[i]? with | some y => y == x | none => false
def JU (VB YX : Nat) : AC := Qb [0, 1] (.reg [mc 4 (V.int 0), mc 5 (V.bool false)]) (Qb [0, 1, 6] (.reg [mv 10 0, ln 11 10, mv 6 11]) (Qb [0, 1, 6, 7, 8] (.reg [mv 12 6, mc 7 (V.int 0), mv 8 12]) (Qb [0, 1, 6, 7] (.block 0 (Y6 [0, 1, 6, 7, 8] (Qb [0, 1, 6, 7, 8] (Qb [0, 1, 6, 7, 8, 15] (.reg [mv 13 7, mv 14 8, bn 15 .lss 13 14]) (.cond (.t 15) .skip (.exit 0))) (.block 1 (Qb [0, 1, 6, 7, 8, 9] (.reg [mv 16 7, mv 17 8, bn 18 .add 16 17, xo 19 (.convI .u64 (.t 18)), bc 20 .shr 19 (.sc (.int .u64 1)), xo 21 (.convI .i64 (.t 20)), mv 9 21]) (Qb [0, 1, 6, 7, 8, 9, 27] (.reg [mv 22 0, mv 23 9, ia 24 1 22 23, ld 25 1 24, mv 26 1, cl 27 VB [25, 26]]) (.cond (.t 27) (.reg [mv 28 9, bc 29 .add 28 (V.int 1), mv 7 29]) (.reg [mv 30 9, mv 8 30])))))))) (Qb [4, 5] (.reg [mv 31 7, mv 32 7, mv 33 6, bn 34 .lss 32 33, mv 35 34, mg 36 0 35 true, mg 37 7 35 true, xg 38 (.iaddr 1 (.t 36) (.t 37)) 35 true, xg 39 (.load false 1 (.t 38)) 35 true, mg 40 1 35 true, xg 41 (.bin .eql (.t 39) (.t 40)) 35 true, mg 42 41 35 true, mg 43 0 42 false, mg 44 7 42 false, xg 45 (.iaddr 1 (.t 43) (.t 44)) 42 false, xg 46 (.load false 1 (.t 45)) 42 false, xg 47 (.call YX [(.t 46)]) 42 false, mg 48 47 42 false, mg 49 1 48 true, xg 50 (.call YX [(.t 49)]) 48 true, xg 51 (.pick (.t 48) (.t 50) (.c (V.bool false))) 42 false, xg 52 (.pick (.t 42) (.c (V.bool true)) (.t 51)) 35 true, xo 53 (.pick (.t 35) (.t 52) (.c (V.bool false))), mv 4 31, mv 5 53]) .ret)))) def r_slices_BinarySearch___string_string : List Jf := [.tmp 4, .tmp 5]
def JP (Γ : Env) (f : Nat) : Prop := ∀ (l : List (List UInt8)) (x : List UInt8) (hl : l.length < 2 ^ 34), EvN Γ f [.sl 1 (l.map V.str), V.str x] (.tup [V.int (bsI Op.bytesLess l x : Nat), V.bool (UM l (bsI Op.bytesLess l x) x)])
attribute [local go_sem] Wo in
theorem VE {Γ : Env} {f VB YX : Nat} (h : Has Γ.P f 54 (JU VB YX) r_slices_BinarySearch___string_string) (z0 : KL Γ VB) (z1 : WT Γ YX) : JP Γ f := by
  intro l x hl
  refine Qd h zsi zcl zcl fun C hC hm => ?_
  subst hC
  unfold JU
  refine zgo ?_; repeat' first | exact zt | apply zan | intro hc
  refine QH (ι := Nat × Nat × Nat) (fun q => q.2.1 ≤ q.2.2 ∧ q.2.2 ≤ l.length ∧ q.2.2 - q.2.1 ≤ q.1 ∧ am1 Op.bytesLess l x q.1 q.2.1 q.2.2 = bsI Op.bytesLess l x) (fun q => Wo [(0, .sl 1 (l.map V.str)), (1, V.str x), (6, V.int l.length), (7, V.int q.2.1), (8, V.int q.2.2)] [] 0) (fun q => q.2.2 - q.2.1) (l.length, 0, l.length) ⟨Nat.zero_le _, Nat.le_refl _, by simp, rfl⟩ (Ql []) (Qu [] (by simp only [go_sem, zwl, Nat.reduceAdd, Nat.reduceMul, Nat.reduceEqDiff, Nat.reduceLT, Int.reduceToNat, reduceIte, reduceCtorEq, List.length_map] <;> exact zcc) zwa (by simp) (by simp) (by omega)) fun q hq K' hL => ?_
  obtain ⟨n, i, j⟩ := q
  simp only at hq hL ⊢
  obtain ⟨h1, h2, h3, h4⟩ := hq
  have hb : bsI Op.bytesLess l x ≤ l.length := aj2
  by_cases hij : i < j
  · obtain ⟨n, rfl⟩ : ∃ m, n = m + 1 := ⟨n - 1, by omega⟩
    have e1 : decide ((i : Int) < (j : Int)) = true := decide_eq_true (by omega)
    have hh := ahS (a := i) (b := j) (by omega)
    rw [am1, if_pos hij] at h4
    have r1 : i ≤ (i + j) / 2 := by omega
    have r2 : (i + j) / 2 < j := by omega
    generalize (i + j) / 2 = r at *
    obtain ⟨y, hy⟩ : ∃ y, l[r]? = some y := ⟨_, List.getElem?_eq_getElem (by omega)⟩
    rw [hy] at h4
    simp only at h4
    have p1 := (z0 y x).b
    have hwr := Qr (k := r) (by omega)
    rcases hlt : Op.bytesLess y x with _ | _
    · rw [hlt] at p1 h4
      rw [if_neg (by decide)] at h4
      (have zx := And.intro e1 (And.intro hh (And.intro hwr hy))); refine zgo ?_; repeat' first | exact zt | apply zan | intro hc
      all_goals first | exact hL _ (n, i, r) (Ql []) ⟨by simp only; omega, by simp only; omega, by simp only; omega, h4⟩ (by simp only; omega) (zwg []) | trace_state
    · rw [hlt] at p1 h4
      rw [if_pos rfl] at h4
      (have zx := And.intro e1 (And.intro hh (And.intro hwr hy))); refine zgo ?_; repeat' first | exact zt | apply zan | intro hc
      all_goals first | exact hL _ (n, r + 1, j) (Ql []) ⟨by simp only; omega, by simp only; omega, by simp only; omega, h4⟩ (by simp only; omega) (zwg []) | trace_state
  · have e1 : decide ((i : Int) < (j : Int)) = false := decide_eq_false (by omega)
    have hbi : bsI Op.bytesLess l x = i := by
      rw [← h4]
      rcases n with _ | n
      · rfl
      · rw [am1, if_neg hij]
    rw [hbi]
    by_cases hil : i < l.length
    · have e2 : decide ((i : Int) < (l.length : Int)) = true := decide_eq_true (by omega)
      obtain ⟨y, hy⟩ : ∃ y, l[i]? = some y := ⟨_, List.getElem?_eq_getElem hil⟩
      have hf : UM l i x = (y == x) := by simp only [UM, hy]
      have p2 := (z1 y).b
      rw [hf]
      rcases hyx : y == x with _ | _
      · (have zx := And.intro e1 (And.intro e2 (And.intro hyx hy))); exact zg
      · (have zx := And.intro e1 (And.intro e2 (And.intro hyx hy))); exact zg
    · have e2 : decide ((i : Int) < (l.length : Int)) = false := decide_eq_false (by omega)
      have hf : UM l i x = false := by rw [UM, List.getElem?_eq_none (by omega)]
      rw [hf]
      (have zx := And.intro e1 e2); exact zg
def ltJ (x y : Int) : Bool := decide (x < y)
def agh {α : Type} [BEq α] (lt : α → α → Bool) (l : List α) (x : α) : List α :=
  if UM l (bsI lt l x) x = true then l else l.take (bsI lt l x) ++ x :: l.drop (bsI lt l x)
def XZ (Γ : Env) (f : Nat) : Prop := ((∀ (xs : List (List UInt8)) (i : Nat) (x : List UInt8), i ≤ xs.length → 0 < xs.length → xs.length < 2 ^ 30 → asB Γ f (V.int i) 1 (xs.map V.str) [V.str x] ((xs.take i ++ x :: xs.drop i).map V.str)) ∧ (∀ x : List UInt8, EvW Γ f [aeT, V.int 0, .sl 1 [V.str x]] 1 [V.str x]))
def Yb (QZ JB : Nat) : AC := Qb [0, 1] (.reg [xo 4 (.mknil 1)]) (Qb [0, 1, 5, 6] (.reg [mv 8 0, mv 9 1, cl 10 QZ [8, 9], mv 7 10, ex 11 7 0, ex 12 7 1, mv 5 11, mv 6 12]) (Qb [0, 1, 5] (Qb [0, 1, 5, 13] (.reg [mv 13 6]) (.cond (.t 13) (Qb [4] (.reg [mv 14 0, mv 4 14]) .ret) .skip)) (Qb [4] (.reg [mv 15 0, mv 16 5, mv 17 1, xo 18 (.bslice 1 1 false [vs0] [(0, (.t 17))]), cl 19 JB [15, 16, 18], mv 4 19]) .ret))) def r_identity_insert_string : List Jf := [.tmp 4]
def XY (Γ : Env) (f : Nat) : Prop := ((∀ (xs : List (List UInt8)) (x : List UInt8), 0 < xs.length → xs.length < 2 ^ 30 → UM xs (bsI Op.bytesLess xs x) x = true → EvX Γ f [V.str x] 1 (xs.map V.str)) ∧ (∀ (xs : List (List UInt8)) (x : List UInt8), 0 < xs.length → xs.length < 2 ^ 30 → UM xs (bsI Op.bytesLess xs x) x = false → EvI Γ f [V.str x] 1 (xs.map V.str) ((agh Op.bytesLess xs x).map V.str)) ∧ (∀ x : List UInt8, EvW Γ f [aeT, V.str x] 1 [V.str x]))
theorem xT {Γ : Env} {f QZ JB : Nat} (h : Has Γ.P f 20 (Yb QZ JB) r_identity_insert_string) (z0 : JP Γ QZ) (z1 : XZ Γ JB) : XY Γ f := by
  obtain ⟨hI, hW⟩ := z1
  refine ⟨fun xs x h0 hl hf => ?_, fun xs x h0 hl hf => ?_, fun x => ?_⟩
  · refine acf h (by simp) fun C hC hm => ?_
    subst hC
    unfold Yb
    have hb := (z0 xs x (by omega)).b
    rw [hf] at hb
    have ht : List.take (xs.map V.str).length (xs.map V.str) = xs.map V.str := List.take_length
    (have zx := ht); refine zgo ?_; repeat' first | exact zt | apply zan | intro hc
    all_goals first | (refine aoo _ rfl rfl rfl ?_; first | rfl | (simp; done)) | trace_state
  · refine agF h (by simp) fun C hC hm => ?_
    subst hC
    unfold Yb
    have hb := (z0 xs x (by omega)).b
    have hi := hI xs (bsI Op.bytesLess xs x) x aj2 h0 hl
    rw [agh, if_neg (by rw [hf]; decide)]
    rw [hf] at hb
    have ht : List.take (xs.map V.str).length (xs.map V.str) = xs.map V.str := List.take_length
    generalize bsI Op.bytesLess xs x = i at *
    repeat' (first | (refine zsk ?_; intro K' hK) | refine zsp ?_ | (refine zsc ?_ ?_ <;> intro hc <;> first | exact znh | try simp only [znz] at hc) | simp (maxSteps := 1000000) only [go_sem, Nat.reduceAdd, Nat.reduceMul, Nat.reduceEqDiff, Nat.reduceLeDiff, Nat.reduceLT, Nat.reduceSub, Int.reduceEq, Int.reduceBEq, Int.reduceLT, Int.reduceLE, Int.reduceAdd, Int.reduceToNat, reduceIte, reduceCtorEq, ht] | (refine hK _ ?_; clear hK K') | apply zan | (apply aj6; (focus exact rfl); (focus first | exact hi); (focus exact rfl); (focus exact rfl); (focus (first | exact rfl | (simp; done)))) | (apply agQ; (focus exact rfl); (focus exact rfl); (focus first | exact hi); (focus exact rfl); (focus (first | exact rfl | (simp; done))); (focus (first | exact rfl | (simp; done)))) | (apply QS; (focus first | exact hb | exact (z0 _ _ zsd).b)) | exact zsq | fail)
    all_goals first | (refine aqg _ _ rfl ⟨_, rfl⟩ rfl (by omega) rfl ?_; first | rfl | (simp; done)) | trace_state
  · refine KX h (by simp) (by intro y hy; rw [List.mem_singleton.1 hy]; simp only [V.noSl]) fun C hC hm => ?_
    subst hC
    unfold Yb
    have hb := (z0 [] x (by simp)).b
    have hw := hW x
    simp only [List.map_nil] at hb
    have hb := hb.le2 (LeV.nil 1) (LeV.refl _)
    refine zgo ?_; repeat' first | exact zt | apply zan | intro hc
    all_goals first | (refine ads (xs := [V.str x]) _ _ rfl ?_ ?_ <;> first | rfl | (simp; done)) | trace_state
end Av
end
