/- Contracts of library functions that answer scalars and leave the heap as it is. -/
import Derived.Test.YtmclfdgmbfdacaaGreatDoorAv2
import Derived.Laws.Strings
import Derived.Below
import Derived.Handed
set_option linter.unusedVariables false
set_option linter.unusedSimpArgs false
section
namespace Av
open Go
theorem ahk {Γ : Env} {f : FuncId} {cv : List Value} {res : Value} {rv : V} (hr : ∀ w Z μ, Rep w Z μ res rv)
    (h : ∀ w, (∀ b x, Γ.kn b = some x → w.heap[b]? = some x) → Wt Γ.P f cv.toArray w fun e w' => e = .returned res ∧ w.heap.size ≤ w'.heap.size ∧ (∀ b, b < w.heap.size → w'.heap[b]? = w.heap[b]?) ∧ jA w w') : Ev Γ f (cv.map .sc) [] rv [] := by
  intro C cargs hP hm hmu hg hF hsz hrep
  subst hP
  have hargs : cargs = cv.toArray := by
    apply Array.ext
    · simpa using hsz
    · intro i h1 h2
      have := hrep i (by simpa using h2) h1
      simp only [List.getElem_map] at this
      simpa using this.scE.1
  subst hargs
  have hk : ∀ b x, C.env.kn b = some x → C.w0.heap[b]? = some x := fun b x h => (C.hkn b x h).1
  have mono : ∀ (e : Ending) (w' : World), (e = .returned res ∧ C.w0.heap.size ≤ w'.heap.size ∧ (∀ b, b < C.w0.heap.size → w'.heap[b]? = C.w0.heap[b]?) ∧ jA C.w0 w') → ∃ v Z' μ', e = .returned v ∧ Rep w' Z' μ' v rv ∧ Good C w' Z' μ' (fun k => ([] : List Ob)[k]?) ∧ ∀ k, ([] : List Ob).length ≤ k → μ' k = none := by
    rintro e w' ⟨rfl, hsz, hw, hoo⟩
    refine ⟨res, C.Z0, C.μ0, rfl, hr _ _ _, ⟨fun a x h => by simp at h, fun a b x y c d _ h => by simp at h, fun b i h => Nat.lt_of_lt_of_le (hg.zlt b i h) hsz, hsz, fun b hb _ => hw b hb, fun b i h => .inl h, fun b i h => h, fun b i h => by simp [World.cell?, hw b (hg.zlt b i h)], fun k _ => rfl, hoo⟩, fun k hk => hmu k (by simp)⟩
  have := h C.w0 hk
  simp only [Wt, Ctx.env] at this ⊢
  split at this
  · exact mono _ _ this
  · exact Calls.mono this (fun e w' h => mono e w' h)
  · exact Rows.mono this (fun v w' h => mono _ _ h)
  · exact this.elim
end Av
end
section
namespace Av
open Go
abbrev QR (_ks : List Nat) (a b : AC) : AC := .seq a b
abbrev Kv (_ks : List Nat) (a : AC) : AC := .loop a
abbrev yO (_L : List Nat) (_ot : OT) (_p : OP) (ops : List AO) (ahead : List (List Nat)) : AC := .regD ops ahead
def St.keep (ks : List Nat) (s : St) : St := { t := je (ks.map fun k => (k, s.t k)), o := s.o, n := s.n }
section
variable {C : Ctx} {nt : Nat} {s : St} {K : St → Prop} {E : Nat → St → Prop} {R : St → Prop}
theorem aaR (t : Nat → V) : ∀ (ks : List Nat) (i : Nat), je (ks.map fun k => (k, t k)) i = .top ∨ je (ks.map fun k => (k, t k)) i = t i
  | [], _ => .inl rfl
  | k :: ks, i => by
    simp only [List.map_cons, je]
    split
    · rename_i h; subst h; exact .inr rfl
    · exact aaR t ks i
theorem Sim.keep {n : Nat} {a : Act} {w : World} (h : Sim C nt n s a w) (ks : List Nat) : Sim C nt n (s.keep ks) a w := by
  obtain ⟨Z, μ, hg, ht, hf, hm, hd, hn⟩ := h
  refine ⟨Z, μ, hg, fun i => ?_, hf, hm, hd, hn⟩
  rcases aaR s.t ks i with h | h
  · simp only [St.keep, h]; exact .top
  · simp only [St.keep, h]; exact ht i
theorem agW {c : AC} (ks : List Nat) (h : AWp C nt c (s.keep ks) K E R) : AWp C nt c s K E R :=
  fun code hc a w hs => h code hc a w (hs.keep ks)
theorem Qg {ks : List Nat} {x y : AC} (h : AWp C nt x s (fun s' => AWp C nt y (s'.keep ks) K E R) E R) : AWp C nt (QR ks x y) s K E R :=
  ah7 (ad9 h (fun _ h => agW ks h) (fun _ _ h => h) (fun _ h => h))
theorem ad8 {L : List Nat} {ot : OT} {p : OP} {ops : List AO} {ahead : List (List Nat)} (fz : Nat → Bool) (hc : okR ops ahead L ot = true) (hp : XT (ris ops ahead L) ot = p)
    (h : awP C.env fz s.n (fun s' => K (s'.wn (s.n + ops.length * KK))) p s) : AWp C nt (yO L ot p ops ahead) s K E R :=
  agU L fz ot p hc hp h
end
mutual
def V.shut0 (o : Nat → Option Ob) : V → V
  | .hd a off len => match o a with | some (.buf _ s xs) => .sl s ((xs.drop off).take len) | _ => .top
  | .ptr a off => match o a with | some (.box _ cs) => .ro cs off | _ => .top
  | .ept _ _ _ => .top
  | .agg cs => .agg (jL o cs)
  | .tup cs => .tup (jL o cs)
  | .clo f cs => .clo f (jL o cs)
  | v => v
def jL (o : Nat → Option Ob) : List V → List V
  | [] => []
  | v :: r => v.shut0 o :: jL o r
end
mutual
def V.shutOk0 (o : Nat → Option Ob) (B : Option (List Nat)) : V → Prop
  | .hd a _ _ => okB B a ∧ ∃ wr s xs, o a = some (.buf wr s xs)
  | .ptr a _ => okB B a ∧ ∃ wr cs, o a = some (.box wr cs) ∧ Qq cs
  | .ept _ _ _ => True
  | .agg cs => KT o B cs
  | .tup cs => KT o B cs
  | .clo _ cs => KT o B cs
  | _ => True
def KT (o : Nat → Option Ob) (B : Option (List Nat)) : List V → Prop
  | [] => True
  | v :: r => v.shutOk0 o B ∧ KT o B r
end
mutual
theorem aeH (o : Nat → Option Ob) (B : Option (List Nat)) : ∀ v : V, v.shutOk0 o B → conv o [] B v (v.shut0 o)
  | .top, _ => by simp [V.shut0, conv]
  | .sc _, _ => by simp [V.shut0, conv]
  | .nn, _ => by simp [V.shut0, conv]
  | .sl _ _, _ => by simp [V.shut0, conv]
  | .ro _ _, _ => by simp [V.shut0, conv]
  | .ept _ _ _, _ => by simp [V.shut0, conv]
  | .hd a off len, h => by
    obtain ⟨h1, wr, s, xs, h2⟩ := h
    simp only [V.shut0, h2, conv]
    exact ⟨h1, by simp, .inl ⟨wr, xs, rfl, rfl⟩⟩
  | .ptr a off, h => by
    obtain ⟨h1, wr, cs, h2, h3⟩ := h
    simp only [V.shut0, h2, conv]
    exact ⟨h1, by simp, trivial, h3, wr, cs, rfl, J1 _ _ _ _ h3⟩
  | .agg cs, h => by simp only [V.shut0, conv]; exact Kx o B cs h
  | .tup cs, h => by simp only [V.shut0, conv]; exact Kx o B cs h
  | .clo f cs, h => by simp only [V.shut0, conv]; exact ⟨trivial, Kx o B cs h⟩
theorem Kx (o : Nat → Option Ob) (B : Option (List Nat)) : ∀ cs : List V, KT o B cs → Yo o [] B cs (jL o cs)
  | [], _ => trivial
  | v :: r, h => ⟨aeH o B v h.1, Kx o B r h.2⟩
end
mutual
theorem acC (o : Nat → Option Ob) : ∀ v : V, (v.shut0 o).closed
  | .top => by simp only [V.shut0, V.closed]
  | .sc _ => by simp only [V.shut0, V.closed]
  | .nn => by simp only [V.shut0, V.closed]
  | .sl _ _ => by simp only [V.shut0, V.closed]
  | .ro _ _ => by simp only [V.shut0, V.closed]
  | .ept _ _ _ => by simp only [V.shut0, V.closed]
  | .hd a off len => by simp only [V.shut0]; split <;> simp only [V.closed]
  | .ptr a off => by simp only [V.shut0]; split <;> simp only [V.closed]
  | .agg cs => by simp only [V.shut0, V.closed]; exact W4 o cs
  | .tup cs => by simp only [V.shut0, V.closed]; exact W4 o cs
  | .clo f cs => by simp only [V.shut0, V.closed]; exact W4 o cs
theorem W4 (o : Nat → Option Ob) : ∀ cs : List V, Qq (jL o cs)
  | [] => trivial
  | v :: r => ⟨acC o v, W4 o r⟩
end
mutual
def V.shut (o : Nat → Option Ob) : V → V
  | .hd a off len => match o a with | some (.buf _ s xs) => .sl s ((xs.drop off).take len) | some (.obuf _ s xs) => .sl s (jL o ((xs.drop off).take len)) | _ => .top
  | .ptr a off => match o a with | some (.box _ cs) => .ro cs off | _ => .top
  | .ept _ _ _ => .top
  | .agg cs => .agg (X7 o cs)
  | .tup cs => .tup (X7 o cs)
  | .clo f cs => .clo f (X7 o cs)
  | v => v
def X7 (o : Nat → Option Ob) : List V → List V
  | [] => []
  | v :: r => v.shut o :: X7 o r
end
def aic (o : Nat → Option Ob) (B : Option (List Nat)) (off len : Nat) : Option Ob → Prop
  | some (.buf _ _ _) => True
  | some (.obuf _ _ xs) => KT o B ((xs.drop off).take len) ∧ ntL (jL o ((xs.drop off).take len))
  | _ => False
mutual
def V.shutOk (o : Nat → Option Ob) (B : Option (List Nat)) : V → Prop
  | .hd a off len => okB B a ∧ aic o B off len (o a)
  | .ptr a _ => okB B a ∧ ∃ wr cs, o a = some (.box wr cs) ∧ Qq cs
  | .ept _ _ _ => True
  | .agg cs => Yp o B cs
  | .tup cs => Yp o B cs
  | .clo _ cs => Yp o B cs
  | _ => True
def Yp (o : Nat → Option Ob) (B : Option (List Nat)) : List V → Prop
  | [] => True
  | v :: r => v.shutOk o B ∧ Yp o B r
end
mutual
theorem afT (o : Nat → Option Ob) (B : Option (List Nat)) : ∀ v : V, v.shutOk o B → conv o [] B v (v.shut o)
  | .top, _ => by simp [V.shut, conv]
  | .sc _, _ => by simp [V.shut, conv]
  | .nn, _ => by simp [V.shut, conv]
  | .sl _ _, _ => by simp [V.shut, conv]
  | .ro _ _, _ => by simp [V.shut, conv]
  | .ept _ _ _, _ => by simp [V.shut, conv]
  | .hd a off len, h => by
    obtain ⟨h1, h2⟩ := h
    unfold aic at h2
    split at h2
    · rename_i wr s xs h3
      simp only [V.shut, h3, conv]
      exact ⟨h1, by simp, .inl ⟨wr, xs, rfl, rfl⟩⟩
    · rename_i wr s xs h3
      simp only [V.shut, h3, conv]
      exact ⟨h1, by simp, .inr ⟨wr, xs, rfl, Kx _ _ _ h2.1, h2.2, W4 _ _⟩⟩
    · exact h2.elim
  | .ptr a off, h => by
    obtain ⟨h1, wr, cs, h2, h3⟩ := h
    simp only [V.shut, h2, conv]
    exact ⟨h1, by simp, trivial, h3, wr, cs, rfl, J1 _ _ _ _ h3⟩
  | .agg cs, h => by simp only [V.shut, conv]; exact X9 o B cs h
  | .tup cs, h => by simp only [V.shut, conv]; exact X9 o B cs h
  | .clo f cs, h => by simp only [V.shut, conv]; exact ⟨trivial, X9 o B cs h⟩
theorem X9 (o : Nat → Option Ob) (B : Option (List Nat)) : ∀ cs : List V, Yp o B cs → Yo o [] B cs (X7 o cs)
  | [], _ => trivial
  | v :: r, h => ⟨afT o B v h.1, X9 o B r h.2⟩
end
section
variable {Γ : Env} {b : Nat} {s : St} {d : Option Nat} {f : FuncId} {acts args : List V} {res : V} {K : St → Prop}
theorem aiH (h : Ev Γ f args [] res []) (ha : X7 s.o acts = args) (hc : Yp s.o none acts) (hr : res.closed) (hn : res.noSl)
    (hk : K { t := (s.put d res).t, o := s.o, n := s.n }) : yI Γ b s d f acts K :=
  aeR h (ha ▸ X9 _ _ _ hc) hr hn hk
theorem aiI (h : Ev Γ f args [] res []) (ha : X7 s.o acts = args) (hc : Yp s.o (some []) acts) (hr : res.closed)
    (hk : K { t := (s.put d res).t, o := s.o, n := s.n }) : yI Γ b s d f acts K :=
  aeQ [] h (ha ▸ X9 _ _ _ hc) hr (by rw [adX]; exact hk)
theorem ahW {A W : Nat → Bool} (h : Ev Γ f args [] res []) (ha : X7 (XF A s.o) acts = args) (hc : Yp (XF A s.o) none acts) (hr : res.closed) (hn : res.noSl)
    (hk : K { t := (s.put d res).t, o := s.o, n := s.n }) : Jq Γ A W b s d f acts K :=
  adv h (ha ▸ X9 _ _ _ hc) (Qm _ _ hr) hn hk
theorem ahX {A W : Nat → Bool} (h : Ev Γ f args [] res []) (ha : X7 (XF A s.o) acts = args) (hc : Yp (XF A s.o) (some []) acts) (hr : res.closed)
    (hk : K { t := (s.put d res).t, o := s.o, n := s.n }) : Jq Γ A W b s d f acts K :=
  afX h (ha ▸ X9 _ _ _ hc) (Qm _ _ hr) hk
end
end Av
end
section
namespace Av
open Go
def awS (Γ : Env) (b : Nat) (r : List AO) (s : St) (d : Option Nat) (K : St → Prop) (m : AM E) : Prop := m.wp s.o fun e => jv Γ (b + KK) r (s.eff d e) K
def awC (Γ : Env) (b : Nat) (r : List AO) (s : St) (d : Option Nat) (f : FuncId) (acts : List V) (K : St → Prop) : Prop := yI Γ b s d f acts fun s' => jv Γ (b + KK) r s' K
def awQ (Γ : Env) (b : Nat) (r : List AO) (s : St) (x : AO) (g : Nat) (want : Bool) (v : V) (K : St → Prop) : Prop :=
  match v with
  | .sc (.bool q) => (q = want → jv Γ b ({ d := x.d, op := x.op } :: r) (s.put (some g) (.bool want)) K) ∧ (q = !want → jv Γ (b + KK) r ((s.put (some g) (.bool !want)).put x.d V.und) K)
  | .tup [] => jv Γ (b + KK) r (s.put x.d V.und) K
  | _ => False
section
variable {Γ : Env} {b : Nat} {r : List AO} {s : St} {d : Option Nat} {K : St → Prop}
theorem KV {g : Nat} {v : V} (h : s.t g = v) : s.put (some g) v = s := by
  have : upd s.t g v = s.t := by
    funext i
    by_cases hi : i = g
    · subst hi; rw [Ja, h]
    · rw [Yn _ _ hi]
  simp only [St.put, this]
theorem ajD {x : AO} {g : Nat} {want : Bool} (hx : x.g = some (g, want)) (h : awQ Γ b r s x g want (s.t g) K) : jv Γ b (x :: r) s K := by
  simp only [jv, hx]
  unfold awQ at h
  split at h
  · rename_i q hq
    refine ⟨some q, hq, fun e => ?_, fun e => ?_⟩
    · cases e
      have := h.1 rfl
      rw [KV hq] at this
      exact this
    · have e' : q = !want := by cases q <;> cases want <;> simp_all
      have := h.2 e'
      rw [KV (by rw [hq, e'])] at this
      exact this
  · rename_i hq
    exact ⟨none, hq, (fun e => by cases e), fun _ => h⟩
  · exact h.elim
def XV (Γ : Env) (b : Nat) (l : List AO) (s : St) (K : St → Prop) : Prop := jv Γ b l s K
def VK (Γ : Env) (b : Nat) (r : List AO) (s : St) (d : Option Nat) (v : V) (acts : List V) (K : St → Prop) : Prop :=
  match v with
  | .clo f cap => awC Γ b r s d f.f (f.args acts cap) K
  | _ => False
theorem aen {x : Opd} {as : List Opd} : XV Γ b (⟨d, .callv x as, none⟩ :: r) s K ↔ VK Γ b r s d (s.ev x) (as.map s.ev) K := by
  simp only [XV, jv, aea, VK]
  cases s.ev x <;> rfl
theorem aih {aop : AOp} {g : Nat} {want : Bool} : XV Γ b (⟨d, aop, some (g, want)⟩ :: r) s K ↔ awQ Γ b r s ⟨d, aop, none⟩ g want (s.t g) K := by
  refine ⟨fun h => ?_, fun h => ajD (x := ⟨d, aop, some (g, want)⟩) rfl h⟩
  simp only [XV, jv] at h
  obtain ⟨q, hq, h1, h2⟩ := h
  unfold awQ
  rcases q with _ | q
  · have hq : s.t g = .tup [] := hq
    rw [hq]
    exact h2 (by simp)
  · have hq : s.t g = .bool q := hq
    rw [hq]
    refine ⟨fun e => ?_, fun e => ?_⟩
    · rw [KV (by rw [hq, e])]; exact h1 (by rw [e])
    · rw [KV (by rw [hq, e])]
      exact h2 (by rw [e]; cases want <;> simp)
end
section
variable {Γ : Env} {b : Nat} {r : List AO} {s : St} {d : Option Nat} {K : St → Prop}
def V4 (Γ : Env) (b : Nat) (r : List AO) (s : St) (d : Option Nat) (K : St → Prop) (k : Ob → AM E) (x : Option Ob) : Prop :=
  match x with
  | some ob => awS Γ b r s d K (k ob)
  | none => False
theorem aiP {a : Nat} {k : Ob → AM E} : awS Γ b r s d K (.rd a k) ↔ V4 Γ b r s d K k (s.o a) := by
  unfold V4
  cases h : s.o a with
  | none => simp [awS, AM.wp, h]
  | some ob => simp [awS, AM.wp, h]
end
section
variable {C : Ctx} {nt : Nat} {s : St} {K : St → Prop} {E : Nat → St → Prop} {R : St → Prop}
theorem Qf {ks : List Nat} {ops : List AO} {y : AC} (h : ∀ K' : St → Prop, (∀ s', AWp C nt y s' K E R → K' s') → XV C.env s.n ops s (fun s' => K' (s'.keep ks))) : AWp C nt (QR ks (.reg ops) y) s K E R :=
  Qg (af0 (h _ fun _ h => h))
theorem Qi {ops : List AO} (h : ∀ K' : St → Prop, (∀ s', K s' → K' s') → XV C.env s.n ops s K') : AWp C nt (.reg ops) s K E R :=
  af0 (h _ fun _ h => h)
end
end Av
end
section
namespace Av
open Go
def EvC (Γ : Env) (f : FuncId) (args : List V) (res : V) : Prop := Ev Γ f args [] res [] ∧ res.closed
def EvN (Γ : Env) (f : FuncId) (args : List V) (res : V) : Prop := Ev Γ f args [] res [] ∧ res.closed ∧ res.noSl
theorem EvN.c {Γ : Env} {f : FuncId} {args : List V} {res : V} (h : EvN Γ f args res) : EvC Γ f args res := ⟨h.1, h.2.1⟩
section
variable {Γ : Env} {b : Nat} {r : List AO} {s : St} {d : Option Nat} {f : FuncId} {acts : List V} {res : V} {K : St → Prop}
theorem ajq (hc : Yp s.o none acts) (h : EvN Γ f (X7 s.o acts) res) (hk : XV Γ (b + KK) r { t := (s.put d res).t, o := s.o, n := s.n } K) : awC Γ b r s d f acts K :=
  aiH h.1 rfl hc h.2.1 h.2.2 hk
theorem ajt (hc : Yp s.o (some []) acts) (h : EvC Γ f (X7 s.o acts) res) (hk : XV Γ (b + KK) r { t := (s.put d res).t, o := s.o, n := s.n } K) : awC Γ b r s d f acts K :=
  aiI h.1 rfl hc h.2 hk
end
theorem jo {Γ : Env} {f : FuncId} {nt : Nat} {ac : AC} {rs : List XY} (hb : Has Γ.P f nt ac rs) {args : List V} {res : V} (ha : args.length ≤ nt) (hr : res.closed)
    (h : ∀ C : Ctx, C.env = Γ → C.m = 0 → AWp C nt ac (Wn args []) (yC 0 rs res []) (fun _ _ => False) (yC 0 rs res [])) : EvC Γ f args res :=
  ⟨X0 hb ha h, hr⟩
theorem JD {Γ : Env} {f : FuncId} {nt : Nat} {ac : AC} {rs : List XY} (hb : Has Γ.P f nt ac rs) {args : List V} {res : V} (ha : args.length ≤ nt) (hr : res.closed) (hn : res.noSl)
    (h : ∀ C : Ctx, C.env = Γ → C.m = 0 → AWp C nt ac (Wn args []) (yC 0 rs res []) (fun _ _ => False) (yC 0 rs res [])) : EvN Γ f args res :=
  ⟨X0 hb ha h, hr, hn⟩
section
variable {C : Ctx} {nt : Nat} {s : St} {K : St → Prop} {E : Nat → St → Prop} {R : St → Prop}
theorem Wa {ks : List Nat} {x : AC} {ι : Type} (good : ι → Prop) (inv : ι → St) (msr : ι → Nat) (i0 : ι) (h0 : good i0) (τ : Nat → Nat) (hw : aga C.m τ s (inv i0))
    (h : ∀ i, good i → ∀ K' : St → Prop, (∀ s' i' τ, good i' → msr i' < msr i → aga C.m τ s' (inv i') → K' s') → AWp C nt x (inv i) K' E R) : AWp C nt (Kv ks x) s K E R :=
  af1 good inv msr ⟨i0, τ, h0, hw⟩ fun i hi => h i hi _ fun _ i' τ h1 h2 h3 => ⟨i', τ, h1, h2, h3⟩
theorem Y7 {ks : List Nat} {x y : AC} {ι : Type} (good : ι → Prop) (mid : ι → St) (h : ∀ K' : St → Prop, (∀ s' i τ, good i → aga C.m τ (s'.keep ks) (mid i) → K' s') → AWp C nt x s K' E R) (h' : ∀ i, good i → AWp C nt y (mid i) K E R) : AWp C nt (QR ks x y) s K E R :=
  Qg (h _ fun _ i _ h1 h2 => ad7 h2 (h' i h1))
end
theorem JK {m n : Nat} {s : St} (tau : List (Nat × Nat)) {ts : List (Nat × V)} {os : List (Nat × Ob)}
    (ht : ∀ p ∈ ts, s.t p.1 = p.2.ren (QZ tau) ∧ p.2.lt n)
    (ho : ∀ p ∈ os, p.1 < n ∧ ∃ x, s.o (QZ tau p.1) = some x ∧ x.weak (QZ tau) n p.2)
    (hn : (os.map fun p => QZ tau p.1).Nodup) (hf : ∀ p ∈ tau, m ≤ p.1) (hm : m ≤ n) : aga m (QZ tau) s (JJ ts os n) := ahq tau ht ho hn hf hm
def ajf (s : St) : XY → Option V
  | .tmp t => some (s.t t)
  | .cell a g sz => match s.t a with
    | .ptr n off => (match s.o n with
      | some (.box _ cells) => if g then (if off + sz ≤ cells.length then some (.agg ((cells.drop off).take sz)) else none) else cells[off]?
      | _ => none)
    | _ => none
def xk (s : St) : List XY → Option (List V)
  | [] => some []
  | r :: rs => match ajf s r, xk s rs with | some v, some vs => some (v :: vs) | _, _ => none
theorem VY {s : St} : ∀ (rs : List XY) (vs : List V) (K : List V → Prop), xk s rs = some vs → K vs → acG s rs K
  | [], vs, K, h, hk => by simp [xk] at h; subst h; exact hk
  | r :: rs, vs, K, h, hk => by
    simp only [xk] at h
    split at h
    · rename_i v vs' h1 h2
      simp only [Option.some.injEq] at h; subst h
      have ih := VY rs vs' (fun vs => K (v :: vs)) h2 hk
      simp only [acG]
      cases r with
      | tmp t => simp only [ajf, Option.some.injEq] at h1; subst h1; exact ih
      | cell a g sz =>
        simp only [ajf] at h1
        split at h1
        · rename_i n off hp
          split at h1
          · rename_i wr cells ho
            simp only [XY.val, hp, AM.cellsAt, AM.wp]
            refine ⟨_, ho, ?_⟩
            cases g
            · simp only [Bool.false_eq_true, if_false] at h1 ⊢
              rw [h1]; exact ih
            · simp only [if_true] at h1 ⊢
              split at h1
              · rename_i hle
                simp only [Option.some.injEq] at h1; subst h1
                exact ⟨hle, ih⟩
              · cases h1
          · cases h1
        · cases h1
    · cases h
theorem QQ {rs : List XY} {res : V} {s : St} (vs : List V) (h : xk s rs = some vs) (hc : conv s.o [] none (acU vs) res) : yC 0 rs res [] s :=
  aeF (VY rs vs _ h hc)
theorem aiB (o : Nat → Option Ob) (br : List Nat) (B : Option (List Nat)) (v : V) : conv o br B v .top ↔ True := by cases v <;> simp [conv]
theorem ajh (o : Nat → Option Ob) (br : List Nat) (B : Option (List Nat)) (v u : Value) : conv o br B (.sc v) (.sc u) ↔ v = u := by simp [conv]
theorem aiD (o : Nat → Option Ob) (br : List Nat) (B : Option (List Nat)) (s : Nat) (ys : List V) : conv o br B (.sc (.slice none 0 0)) (.sl s ys) ↔ ys = [] := by simp [conv]
theorem ajg (o : Nat → Option Ob) (br : List Nat) (B : Option (List Nat)) (s s' : Nat) (xs ys : List V) : conv o br B (.sl s xs) (.sl s' ys) ↔ s = s' ∧ xs = ys := by simp [conv]
theorem ajk (o : Nat → Option Ob) (br : List Nat) (B : Option (List Nat)) (a off len s : Nat) (ys : List V) : conv o br B (.hd a off len) (.sl s ys) ↔ okB B a ∧ a ∉ br ∧ ((∃ wr xs, o a = some (.buf wr s xs) ∧ ys = (xs.drop off).take len) ∨ (∃ wr xs, o a = some (.obuf wr s xs) ∧ Yo o br B ((xs.drop off).take len) ys ∧ ntL ys ∧ Qq ys)) := by simp [conv]
theorem aiC (o : Nat → Option Ob) (br : List Nat) (B : Option (List Nat)) (a off off' : Nat) (es : List V) : conv o br B (.ptr a off) (.ro es off') ↔ okB B a ∧ a ∉ br ∧ off' = off ∧ Qq es ∧ ∃ wr cs, o a = some (.box wr cs) ∧ Yo o br B cs es := by simp [conv]
theorem aji (o : Nat → Option Ob) (br : List Nat) (B : Option (List Nat)) (off off' : Nat) (cs es : List V) : conv o br B (.ro cs off) (.ro es off') ↔ cs = es ∧ off' = off := by simp [conv]
theorem aiG (o : Nat → Option Ob) (br : List Nat) (B : Option (List Nat)) (cs es : List V) : conv o br B (.agg cs) (.agg es) ↔ Yo o br B cs es := by simp [conv]
theorem aiA (o : Nat → Option Ob) (br : List Nat) (B : Option (List Nat)) (cs es : List V) : conv o br B (.tup cs) (.tup es) ↔ Yo o br B cs es := by simp [conv]
theorem aiF (o : Nat → Option Ob) (br : List Nat) (B : Option (List Nat)) (f g : FK) (cs es : List V) : conv o br B (.clo f cs) (.clo g es) ↔ f = g ∧ Yo o br B cs es := by simp [conv]
theorem ajj (o : Nat → Option Ob) (br : List Nat) (B : Option (List Nat)) : conv o br B .nn .nn ↔ True := by simp [conv]
theorem ahS (o : Nat → Option Ob) (br : List Nat) (B : Option (List Nat)) : Yo o br B [] [] ↔ True := by simp [Yo]
theorem agQ (o : Nat → Option Ob) (br : List Nat) (B : Option (List Nat)) (v e : V) (r r' : List V) : Yo o br B (v :: r) (e :: r') ↔ conv o br B v e ∧ Yo o br B r r' := by simp [Yo]
theorem agx (a : Nat) : okB none a ↔ True := by simp [okB]
theorem agw (l : List Nat) (a : Nat) : okB (some l) a ↔ a ∈ l := by simp [okB]
theorem aeD {wr0 : Bool} {s0 s : Nat} {xs0 : List V} {p : List V → Prop} : (∃ wr xs, some (Ob.buf wr0 s0 xs0) = some (Ob.buf wr s xs) ∧ p xs) ↔ s0 = s ∧ p xs0 := by
  constructor
  · rintro ⟨wr, xs, h, hp⟩; cases h; exact ⟨rfl, hp⟩
  · rintro ⟨rfl, hp⟩; exact ⟨_, _, rfl, hp⟩
theorem aeE {wr0 : Bool} {cs0 : List V} {p : List V → Prop} : (∃ wr cs, some (Ob.box wr0 cs0) = some (Ob.box wr cs) ∧ p cs) ↔ p cs0 := by
  constructor
  · rintro ⟨wr, xs, h, hp⟩; cases h; exact hp
  · intro h; exact ⟨_, _, rfl, h⟩
theorem adh {wr0 : Bool} {s0 s : Nat} {xs0 : List V} {p : List V → Prop} : (∃ wr xs, Ob.buf wr0 s0 xs0 = Ob.buf wr s xs ∧ p xs) ↔ s0 = s ∧ p xs0 := by
  constructor
  · rintro ⟨wr, xs, h, hp⟩; cases h; exact ⟨rfl, hp⟩
  · rintro ⟨rfl, hp⟩; exact ⟨_, _, rfl, hp⟩
theorem adi {wr0 : Bool} {cs0 : List V} {p : List V → Prop} : (∃ wr cs, Ob.box wr0 cs0 = Ob.box wr cs ∧ p cs) ↔ p cs0 := by
  constructor
  · rintro ⟨wr, xs, h, hp⟩; cases h; exact hp
  · intro h; exact ⟨_, _, rfl, h⟩
end Av
end
section
namespace Av
open Go
theorem wS (l : List UInt8) : (⟨l.toArray⟩ : ByteArray).size = l.length := by simp [ByteArray.size]
theorem aht (a b : List UInt8) : (⟨a.toArray⟩ : ByteArray) ++ ⟨b.toArray⟩ = ⟨(a ++ b).toArray⟩ := by
  apply ByteArray.ext
  simp
theorem yw (l : List UInt8) : (⟨l.toArray⟩ : ByteArray).toList = l := by
  exact ByteArray.toList_mk l
theorem ahs (l : List UInt8) (a b : Nat) : (⟨l.toArray⟩ : ByteArray).extract a b = ⟨((l.drop a).take (b - a)).toArray⟩ := by
  apply ByteArray.ext
  simp [List.extract_eq_take_drop]
theorem ah6 (a b : List UInt8) : wq .add ⟨a.toArray⟩ ⟨b.toArray⟩ = .asrt (a.length + b.length < 2 ^ 62) (.ret { v := V.str (a ++ b) }) := by
  simp only [wq, wS, aht]
theorem ah5 (a b : List UInt8) : wq .eql ⟨a.toArray⟩ ⟨b.toArray⟩ = .ret { v := .bool (a == b) } := by
  simp only [wq, yw]
theorem ah0 (a b : List UInt8) : wq .neq ⟨a.toArray⟩ ⟨b.toArray⟩ = .ret { v := .bool (!(a == b)) } := by
  simp only [wq, yw]
theorem ah1 (a b : List UInt8) : wq .lss ⟨a.toArray⟩ ⟨b.toArray⟩ = .ret { v := .bool (Op.bytesLess a b) } := by
  simp only [wq, yw]
theorem ah2 (a b : List UInt8) : wq .leq ⟨a.toArray⟩ ⟨b.toArray⟩ = .ret { v := .bool (Op.bytesLess a b || a == b) } := by
  simp only [wq, yw]
theorem ah3 (a b : List UInt8) : wq .gtr ⟨a.toArray⟩ ⟨b.toArray⟩ = .ret { v := .bool (!(Op.bytesLess a b || a == b)) } := by
  simp only [wq, yw]
theorem ah4 (a b : List UInt8) : wq .geq ⟨a.toArray⟩ ⟨b.toArray⟩ = .ret { v := .bool (!(Op.bytesLess a b)) } := by
  simp only [wq, yw]
theorem aeN {l : List V} (h : ∀ v ∈ l, v.closed) : Qq l := by
  induction l with
  | nil => trivial
  | cons v l ih => exact ⟨h v (by simp), ih fun u hu => h u (by simp [hu])⟩
end Av
end
section
namespace Av
open Go
theorem Xq {α : Type} {l : List α} {k : Nat} {y : α} {r : List α} (h : l.drop k = y :: r) : k < l.length ∧ l[k]? = some y ∧ l.drop (k + 1) = r := by
  have hk : k < l.length := by
    rcases Nat.lt_or_ge k l.length with h' | h'
    · exact h'
    · rw [List.drop_of_length_le h'] at h; cases h
  rw [List.drop_eq_getElem_cons hk] at h
  simp only [List.cons.injEq] at h
  exact ⟨hk, by rw [List.getElem?_eq_getElem hk, h.1], h.2⟩
theorem XU {α : Type} {l : List α} {k : Nat} (h : l.drop k = []) : l.length ≤ k := by simpa using h
theorem Xh {k : Nat} (h : k < 2 ^ 62) : IntKind.i64.wrap ((k : Int) + 1) = ((k + 1 : Nat) : Int) := by
  rw [VL (by omega) (by omega)]; omega
def XS : List (Nat × V) → Nat → V → V
  | [], _, v => v
  | (j, u) :: r, k, v => if k = j then u else XS r k v
def ovT (ts : List (Nat × V)) : List (Nat × V) → List (Nat × V)
  | [] => []
  | (k, v) :: r => (k, XS ts k v) :: ovT ts r
def ltO (n : Nat) (o : Nat → Option Ob) : Prop := ∀ a x, o a = some x → a < n ∧ x.lt n
theorem qm {n : Nat} {o : Nat → Option Ob} {a : Nat} {x : Ob} (h1 : a < n) (h2 : x.lt n) (h : ltO n o) : ltO n (upd o a (some x)) := by
  intro b y hb
  by_cases e : b = a
  · subst e; rw [Ja] at hb; cases hb; exact ⟨h1, h2⟩
  · rw [Yn _ _ e] at hb; exact h b y hb
theorem Uu {n : Nat} : ltO n (fun _ => none) := by intro a x h; cases h
def ltT (n : Nat) (l : List (Nat × V)) : Prop := ∀ p ∈ l, p.2.lt n
theorem ql {n : Nat} : ltT n [] := by intro p hp; cases hp
theorem Ut {n k : Nat} {v : V} {r : List (Nat × V)} (h1 : v.lt n) (h : ltT n r) : ltT n ((k, v) :: r) := by
  intro p hp
  rcases List.mem_cons.1 hp with rfl | hp
  · exact h1
  · exact h p hp
def eqT (t : Nat → V) (τ : Nat → Nat) (l : List (Nat × V)) : Prop := ∀ p ∈ l, t p.1 = p.2.ren τ
theorem XB {t : Nat → V} {τ : Nat → Nat} : eqT t τ [] := by intro p hp; cases hp
theorem YW {t : Nat → V} {τ : Nat → Nat} {k : Nat} {v : V} {r : List (Nat × V)} : eqT t τ ((k, v) :: r) ↔ t k = v.ren τ ∧ eqT t τ r := by
  constructor
  · intro h; exact ⟨h (k, v) (by simp), fun p hp => h p (by simp [hp])⟩
  · rintro ⟨h1, h2⟩ p hp
    rcases List.mem_cons.1 hp with rfl | hp
    · exact h1
    · exact h2 p hp
def okN (n m : Nat) (rn : List (Nat × Nat)) : Prop := (∀ p ∈ rn, n ≤ p.2 ∧ m ≤ p.1) ∧ (rn.map (·.2)).Nodup
theorem jf : ∀ (rn : List (Nat × Nat)) (a : Nat), (QZ rn a = a ∧ ∀ p ∈ rn, p.1 ≠ a) ∨ (a, QZ rn a) ∈ rn
  | [], a => .inl ⟨rfl, by simp⟩
  | (k, v) :: r, a => by
    simp only [QZ]
    split
    · rename_i h; subst h; exact .inr (by simp)
    · rename_i h
      rcases jf r a with ⟨h1, h2⟩ | h'
      · refine .inl ⟨h1, fun p hp => ?_⟩
        rcases List.mem_cons.1 hp with rfl | hp
        · exact fun e => h e.symm
        · exact h2 p hp
      · exact .inr (by simp [h'])
theorem afH {n m : Nat} {rn : List (Nat × Nat)} (h : okN n m rn) {a b : Nat} (ha : a < n) (hb : b < n) (e : QZ rn a = QZ rn b) : a = b := by
  rcases jf rn a with ⟨h1, _⟩ | h1 <;> rcases jf rn b with ⟨h2, _⟩ | h2
  · omega
  · have := (h.1 _ h2).1; simp only at this; omega
  · have := (h.1 _ h1).1; simp only at this; omega
  · have := ja h.2 h1 h2 e
    simpa using congrArg Prod.fst this
theorem afI {n m : Nat} {rn : List (Nat × Nat)} (h : okN n m rn) {k : Nat} (hk : k < m) : QZ rn k = k := by
  rcases jf rn k with ⟨h1, _⟩ | h1
  · exact h1
  · have := (h.1 _ h1).2; simp only at this; omega
theorem ae4 (τ : Nat → Nat) (n : Nat) (x : Ob) (h : x.lt n) : (x.ren τ).weak τ n x := by
  induction x with
  | dead => trivial
  | typ T x ih => exact ⟨rfl, ih h⟩
  | box wr cs => exact ⟨fun h => h, rfl, h⟩
  | buf wr s xs => exact ⟨fun h => h, rfl, rfl⟩
  | obuf wr s xs => exact ⟨fun h => h, rfl, rfl, h⟩
theorem ag3 {m n : Nat} {s : St} {l : List (Nat × V)} {o : Nat → Option Ob} (rn : List (Nat × Nat)) (hn : okN n m rn) (hm : m ≤ n) (hl : ltT n l) (hlo : ltO n o)
    (ht : eqT s.t (QZ rn) l) (ho : ∀ a, a < n → s.o (QZ rn a) = (o a).map (Ob.ren (QZ rn))) : aga m (QZ rn) s { t := je l, o := o, n := n } := by
  refine ⟨fun i => ?_, fun a y h => ?_, fun a b ha hb e => ?_, fun k hk => afI hn hk, hm⟩
  · rcases vp l i with h | h
    · exact .inl h
    · exact .inr ⟨ht _ h, hl _ h⟩
  · obtain ⟨h1, h2⟩ := hlo a y h
    refine ⟨h1, _, ?_, ae4 (QZ rn) n y h2⟩
    have := ho a h1
    simp only at h
    rw [h] at this
    exact this
  · obtain ⟨x, hx⟩ := Option.ne_none_iff_exists'.1 ha
    obtain ⟨y, hy⟩ := Option.ne_none_iff_exists'.1 hb
    exact afH hn (hlo a x hx).1 (hlo b y hy).1 e
section
variable {C : Ctx} {nt : Nat} {K : St → Prop} {E : Nat → St → Prop} {R : St → Prop}
theorem aik : ∀ (k : Nat) (v : V), SizeOf.sizeOf v ≤ k → v.ren (fun a => a) = v := by
  intro k
  induction k with
  | zero => intro v h; cases v <;> simp at h
  | succ k ih =>
    intro v h
    have list : ∀ cs : List V, SizeOf.sizeOf cs ≤ k → KR (fun a => a) cs = cs := by
      intro cs
      induction cs with
      | nil => intro _; rfl
      | cons u r ihr => intro hs; simp at hs; simp only [KR]; rw [ih u (by omega), ihr (by omega)]
    cases v <;> simp only [V.ren] <;> simp at h
    all_goals (rw [list _ (by omega)])
theorem xJ (v : V) : v.ren (fun a => a) = v := aik _ v (Nat.le_refl _)
theorem ai6 (cs : List V) : KR (fun a => a) cs = cs := by induction cs with
  | nil => rfl
  | cons v r ih => simp only [KR, xJ, ih]
theorem ai5 (x : Ob) : x.ren (fun a => a) = x := by induction x <;> simp_all [Ob.ren, ai6]
theorem vq : QZ [] = fun a => a := by funext a; rfl
theorem Vk {ks : List Nat} {x : AC} {base : List (Nat × V)} {o0 : Nat → Option Ob} {n0 : Nat} {ι : Type} (good : ι → Prop) (ts : ι → List (Nat × V)) (msr : ι → Nat) (i0 : ι)
    (hm : C.m ≤ n0) (h0 : good i0) (hlo : ltO n0 o0) (hl : ∀ i, good i → ltT n0 (ovT (ts i) base)) (ht : eqT (je base) (fun a => a) (ovT (ts i0) base))
    (h : ∀ i, good i → ∀ K' : St → Prop, (∀ s' i', eqT s'.t (fun a => a) (ovT (ts i') base) → good i' → msr i' < msr i → (∀ a, a < n0 → s'.o a = o0 a) → K' s') →
      AWp C nt x { t := je (ovT (ts i) base), o := o0, n := n0 } K' E R) : AWp C nt (Kv ks x) { t := je base, o := o0, n := n0 } K E R := by
  have hn : okN n0 C.m [] := ⟨by simp, by simp⟩
  have ren0 : ∀ oo : Nat → Option Ob, ∀ a, (oo a).map (Ob.ren (QZ [])) = oo a := by
    intro oo a
    rw [vq]
    cases oo a with
    | none => rfl
    | some x => simp [ai5]
  refine Wa good (fun i => { t := je (ovT (ts i) base), o := o0, n := n0 }) msr i0 h0 (QZ []) (ag3 [] hn hm (hl i0 h0) hlo (by rw [vq]; exact ht) (fun a _ => (ren0 o0 a).symm)) ?_
  intro i hi K' hK
  exact h i hi K' fun s' i' h1 h2 h3 h4 => hK s' i' (QZ []) h2 h3 (ag3 [] hn hm (hl i' h2) hlo (by rw [vq]; exact h1) (fun a ha => (h4 a ha).trans (ren0 o0 a).symm))
end
end Av
end
section
namespace Av
open Go
def awR (A W : Nat → Bool) (b : Nat) (s : St) (d : Option Nat) (J : St → Prop) (m : AM E) : Prop := m.wp (XF A s.o) fun e => okW W b e.os ∧ J (s.eff d e)
def Xk (A W : Nat → Bool) (b : Nat) (s : St) (d : Option Nat) (J : St → Prop) (k : Ob → AM E) (x : Option Ob) : Prop :=
  match x with
  | some ob => awR A W b s d J (k ob)
  | none => False
def WJ (Γ : Env) (A W : Nat → Bool) (b : Nat) (s : St) (x : AO) (J : St → Prop) : Prop := awG Γ A W b s x J
def WG (Γ : Env) (fz : Nat → Bool) (b0 : Nat) (K : St → Prop) (t : OP) (s : St) : Prop := awP Γ fz b0 K t s
def va (Γ : Env) (fz : Nat → Bool) (b0 : Nat) (K : St → Prop) (t : OP) (s : St) : Prop := ah8 Γ fz b0 K t s
def VH (Γ : Env) (A W : Nat → Bool) (b : Nat) (s : St) (x : AO) (g : Nat) (want : Bool) (v : V) (J : St → Prop) : Prop :=
  match v with
  | .sc (.bool q) => (q = want → WJ Γ A W b (s.put (some g) (.bool want)) { d := x.d, op := x.op } J) ∧ (q = !want → J ((s.put (some g) (.bool !want)).put x.d V.und))
  | .tup [] => J (s.put x.d V.und)
  | _ => False
def Xf (Γ : Env) (A W : Nat → Bool) (b : Nat) (s : St) (d : Option Nat) (v : V) (acts : List V) (J : St → Prop) : Prop :=
  match v with
  | .clo f cap => Jq Γ A W b s d f.f (f.args acts cap) J
  | _ => False
section
variable {Γ : Env} {A W : Nat → Bool} {fz : Nat → Bool} {b b0 : Nat} {s : St} {d : Option Nat} {J K : St → Prop}
theorem afg : WG Γ fz b0 K .done s ↔ K s := by simp only [WG, awP]
theorem age {j : Nat} {X : Bool} {acl : List Nat} {x : AO} {t : OP} : WG Γ fz b0 K (.one j X acl x t) s ↔ WJ Γ (rA X acl fz b0) (rW X acl fz b0) (b0 + j * KK) s x (WG Γ fz b0 K t) := by
  simp only [WG, awP, WJ]; exact Iff.rfl
theorem ahx {j : Nat} {X : Bool} {acl : List Nat} {x : AO} {t r : OP} : WG Γ fz b0 K (.or j X acl x t r) s ↔ WJ Γ (rA X acl fz b0) (rW X acl fz b0) (b0 + j * KK) s x (WG Γ fz b0 K t) ∧ va Γ fz b0 K r s := by
  simp only [WG, va, awP, WJ]; exact Iff.rfl
theorem agf {j : Nat} {X : Bool} {acl : List Nat} {x : AO} {t r : OP} : va Γ fz b0 K (.or j X acl x t r) s ↔ WJ Γ (rA X acl fz b0) (rW X acl fz b0) (b0 + j * KK) s x (WG Γ fz b0 K t) ∧ va Γ fz b0 K r s := by
  simp only [WG, va, ah8, WJ]; exact Iff.rfl
theorem aem : va Γ fz b0 K .done s ↔ True := by simp only [va, ah8]
theorem aeo {x : Opd} {as : List Opd} : WJ Γ A W b s ⟨d, .callv x as, none⟩ J ↔ Xf Γ A W b s d (s.ev x) (as.map s.ev) J := by
  simp only [WJ, awG, af2, Xf]
  cases s.ev x <;> rfl
theorem aii {aop : AOp} {g : Nat} {want : Bool} : WJ Γ A W b s ⟨d, aop, some (g, want)⟩ J ↔ VH Γ A W b s ⟨d, aop, none⟩ g want (s.t g) J := by
  simp only [WJ, awG]
  constructor
  · rintro ⟨q, hq, h1, h2⟩
    unfold VH
    rcases q with _ | q
    · have hq : s.t g = .tup [] := hq
      rw [hq]
      exact h2 (by simp)
    · have hq : s.t g = .bool q := hq
      rw [hq]
      refine ⟨fun e => ?_, fun e => ?_⟩
      · rw [KV (by rw [hq, e])]; exact h1 (by rw [e])
      · rw [KV (by rw [hq, e])]
        exact h2 (by rw [e]; cases want <;> simp)
  · intro h
    unfold VH at h
    split at h
    · rename_i q hq
      refine ⟨some q, hq, fun e => ?_, fun e => ?_⟩
      · cases e
        have := h.1 rfl
        rw [KV hq] at this
        exact this
      · have e' : q = !want := by cases q <;> cases want <;> simp_all
        have := h.2 e'
        rw [KV (by rw [hq, e'])] at this
        exact this
    · rename_i hq
      exact ⟨none, hq, (fun e => by cases e), fun _ => h⟩
    · exact h.elim
theorem aiQ {a : Nat} {k : Ob → AM E} : awR A W b s d J (.rd a k) ↔ Xk A W b s d J k (XF A s.o a) := by
  unfold Xk
  cases h : XF A s.o a with
  | none => simp [awR, AM.wp, h]
  | some ob => simp [awR, AM.wp, h]
theorem aaH (A : Nat → Bool) (o : Nat → Option Ob) (a : Nat) : XF A o a = if A a = true then o a else none := rfl
theorem ahG : okW W b [] ↔ True := by simp [okW]
theorem agv {q : Nat × Ob} {r : List (Nat × Ob)} : okW W b (q :: r) ↔ (W q.1 || (decide (b ≤ q.1) && decide (q.1 < b + KK))) = true ∧ okW W b r := by simp [okW]
theorem aiU {f : FuncId} {acts : List V} {res : V} (hc : Yp (XF A s.o) none acts) (h : EvN Γ f (X7 (XF A s.o) acts) res) (hk : J { t := (s.put d res).t, o := s.o, n := s.n }) : Jq Γ A W b s d f acts J :=
  ahW h.1 rfl hc h.2.1 h.2.2 hk
theorem aiW {f : FuncId} {acts : List V} {res : V} (hc : Yp (XF A s.o) (some []) acts) (h : EvC Γ f (X7 (XF A s.o) acts) res) (hk : J { t := (s.put d res).t, o := s.o, n := s.n }) : Jq Γ A W b s d f acts J :=
  ahX h.1 rfl hc h.2 hk
end
section
variable {C : Ctx} {nt : Nat} {s : St} {K : St → Prop} {E : Nat → St → Prop} {R : St → Prop}
theorem Qb {ks L : List Nat} {ot : OT} {p : OP} {ops : List AO} {ahead : List (List Nat)} {y : AC} (N : Nat) (fz : Nat → Bool) (hN : ops.length = N) (hc : okR ops ahead L ot = true) (hp : XT (ris ops ahead L) ot = p)
    (h : ∀ K' : St → Prop, (∀ s', AWp C nt y s' K E R → K' s') → WG C.env fz s.n (fun s' => K' ((s'.wn (s.n + N * KK)).keep ks)) p s) : AWp C nt (QR ks (yO L ot p ops ahead) y) s K E R := by
  subst hN
  exact Qg (ad8 fz hc hp (h _ fun _ h => h))
theorem Qc {L : List Nat} {ot : OT} {p : OP} {ops : List AO} {ahead : List (List Nat)} (N : Nat) (fz : Nat → Bool) (hN : ops.length = N) (hc : okR ops ahead L ot = true) (hp : XT (ris ops ahead L) ot = p)
    (h : ∀ K' : St → Prop, (∀ s', K s' → K' s') → WG C.env fz s.n (fun s' => K' (s'.wn (s.n + N * KK))) p s) : AWp C nt (yO L ot p ops ahead) s K E R := by
  subst hN
  exact ad8 fz hc hp (h _ fun _ h => h)
end
end Av
end
section
set_option linter.unusedVariables false
namespace Av
open Go
def ai3 (o : Nat → Option Ob) (off len : Nat) : Option Ob → V
  | some (.buf _ s xs) => .sl s ((xs.drop off).take len)
  | some (.obuf _ s xs) => .sl s (jL o ((xs.drop off).take len))
  | _ => .top
def hdC (o : Nat → Option Ob) (br : List Nat) (B : Option (List Nat)) (off len s : Nat) (ys : List V) : Option Ob → Prop
  | some (.buf _ s1 xs) => s1 = s ∧ ys = (xs.drop off).take len
  | some (.obuf _ s1 xs) => s1 = s ∧ Yo o br B ((xs.drop off).take len) ys ∧ ntL ys ∧ Qq ys
  | _ => False
theorem aiE (o : Nat → Option Ob) (br : List Nat) (B : Option (List Nat)) (a off len s : Nat) (ys : List V) : conv o br B (.hd a off len) (.sl s ys) ↔ okB B a ∧ a ∉ br ∧ hdC o br B off len s ys (o a) := by
  rw [ajk]; unfold hdC; constructor
  · rintro ⟨h1, h2, ⟨wr, xs, h3, h4⟩ | ⟨wr, xs, h3, h4⟩⟩ <;> rw [h3] <;> exact ⟨h1, h2, rfl, h4⟩
  · rintro ⟨h1, h2, h3⟩; split at h3
    · rename_i wr s1 xs e; obtain ⟨rfl, h4⟩ := h3; exact ⟨h1, h2, .inl ⟨wr, xs, e, h4⟩⟩
    · rename_i wr s1 xs e; obtain ⟨rfl, h4⟩ := h3; exact ⟨h1, h2, .inr ⟨wr, xs, e, h4⟩⟩
    · exact h3.elim
def ahv (off : Nat) : Option Ob → V
  | some (.box _ cs) => .ro cs off
  | _ => .top
def awB (q want : Bool) (A B : Prop) : Prop := (q = want → A) ∧ (q = !want → B)
@[congr] theorem aiY {q q2 want : Bool} {A B : Prop} (h : q = q2) : awB q want A B = awB q2 want A B := by rw [h]
@[go_sem ↓] theorem ajN {A B : Prop} : awB true true A B = A := by simp [awB]
@[go_sem ↓] theorem ajM {A B : Prop} : awB false true A B = B := by simp [awB]
@[go_sem ↓] theorem ajL {A B : Prop} : awB true false A B = B := by simp [awB]
@[go_sem ↓] theorem ajK {A B : Prop} : awB false false A B = A := by simp [awB]
theorem QM {q : Bool} {A B : Prop} (h1 : q = true → A) (h2 : q = false → B) : awB q true A B := ⟨h1, h2⟩
theorem QN {q : Bool} {A B : Prop} (h1 : q = false → A) (h2 : q = true → B) : awB q false A B := ⟨h1, h2⟩
section
variable {Γ : Env} {A W : Nat → Bool} {fz : Nat → Bool} {b b0 : Nat} {r : List AO} {s : St} {d : Option Nat} {J K : St → Prop} {o : Nat → Option Ob} {br : List Nat} {B : Option (List Nat)}
@[go_sem] theorem u1 : XV Γ b [] s K = K { t := s.t, o := s.o, n := b } := propext Iff.rfl
@[go_sem] theorem u2 {x : AO} : XV Γ b (x :: r) s K = (match x.g with | none => (match x.op with | .call f as => awC Γ b r s x.d f (as.map s.ev) K | .callv y as => VK Γ b r s x.d (s.ev y) (as.map s.ev) K | op => awS Γ b r s x.d K (sem b s.ev op)) | some (g, want) => awQ Γ b r s ⟨x.d, x.op, none⟩ g want (s.t g) K) := by
  obtain ⟨d, op, g⟩ := x
  cases g with
  | some p => obtain ⟨g, want⟩ := p; exact propext aih
  | none =>
    cases op
    case callv y as => exact propext aen
    all_goals rfl
@[go_sem] theorem u3 {f : FuncId} {cap acts : List V} : VK Γ b r s d (.clo (.n f) cap) acts K = awC Γ b r s d f (acts ++ cap) K := propext Iff.rfl
@[go_sem] theorem u4 {x : AO} {g : Nat} {want q : Bool} : awQ Γ b r s x g want (.sc (.bool q)) K = awB q want (XV Γ b (⟨x.d, x.op, none⟩ :: r) (s.put (some g) (.bool want)) K) (XV Γ (b + KK) r ((s.put (some g) (.bool !want)).put x.d V.und) K) := propext Iff.rfl
@[go_sem] theorem u5 {x : AO} {g : Nat} {want : Bool} : awQ Γ b r s x g want (.tup []) K = XV Γ (b + KK) r (s.put x.d V.und) K := propext Iff.rfl
@[go_sem] theorem u6 {e : E} : awS Γ b r s d K (.ret e) = XV Γ (b + KK) r (s.eff d e) K := propext Iff.rfl
@[go_sem] theorem u7 {p : Prop} {m : AM E} : awS Γ b r s d K (.asrt p m) = (p ∧ awS Γ b r s d K m) := propext Iff.rfl
@[go_sem] theorem u8 {a : Nat} {k : Ob → AM E} : awS Γ b r s d K (.rd a k) = V4 Γ b r s d K k (s.o a) := propext aiP
@[go_sem] theorem u9 {k : Bool → AM E} : awS Γ b r s d K (.any k) = ∀ t, awS Γ b r s d K (k t) := propext Iff.rfl
@[go_sem] theorem u10 : awS Γ b r s d K .no = False := propext Iff.rfl
@[go_sem] theorem u11 {k : Ob → AM E} {ob : Ob} : V4 Γ b r s d K k (some ob) = awS Γ b r s d K (k ob) := propext Iff.rfl
@[go_sem] theorem u12 : WG Γ fz b0 K .done s = K s := propext afg
@[go_sem] theorem u13 {j : Nat} {X : Bool} {acl : List Nat} {x : AO} {t r : OP} : WG Γ fz b0 K (.or j X acl x t r) s = (WJ Γ (rA X acl fz b0) (rW X acl fz b0) (b0 + j * KK) s x (WG Γ fz b0 K t) ∧ va Γ fz b0 K r s) := propext ahx
@[go_sem] theorem u14 {j : Nat} {X : Bool} {acl : List Nat} {x : AO} {t r : OP} : va Γ fz b0 K (.or j X acl x t r) s = (WJ Γ (rA X acl fz b0) (rW X acl fz b0) (b0 + j * KK) s x (WG Γ fz b0 K t) ∧ va Γ fz b0 K r s) := propext agf
@[go_sem] theorem u15 {j : Nat} {X : Bool} {acl : List Nat} {x : AO} {t : OP} : WG Γ fz b0 K (.one j X acl x t) s = WJ Γ (rA X acl fz b0) (rW X acl fz b0) (b0 + j * KK) s x (WG Γ fz b0 K t) := propext age
@[go_sem] theorem u16 : va Γ fz b0 K .done s = True := propext aem
@[go_sem] theorem u17 {x : AO} : WJ Γ A W b s x J = (match x.g with | none => (match x.op with | .call f as => Jq Γ A W b s x.d f (as.map s.ev) J | .callv y as => Xf Γ A W b s x.d (s.ev y) (as.map s.ev) J | op => awR A W b s x.d J (sem b s.ev op)) | some (g, want) => VH Γ A W b s ⟨x.d, x.op, none⟩ g want (s.t g) J) := by
  obtain ⟨d, op, g⟩ := x
  cases g with
  | some p => obtain ⟨g, want⟩ := p; exact propext aii
  | none =>
    cases op
    case callv y as => exact propext aeo
    all_goals rfl
@[go_sem] theorem u18 {f : FuncId} {cap acts : List V} : Xf Γ A W b s d (.clo (.n f) cap) acts J = Jq Γ A W b s d f (acts ++ cap) J := propext Iff.rfl
@[go_sem] theorem u19 {x : AO} {g : Nat} {want q : Bool} : VH Γ A W b s x g want (.sc (.bool q)) J = awB q want (WJ Γ A W b (s.put (some g) (.bool want)) ⟨x.d, x.op, none⟩ J) (J ((s.put (some g) (.bool !want)).put x.d V.und)) := propext Iff.rfl
@[go_sem] theorem u20 {x : AO} {g : Nat} {want : Bool} : VH Γ A W b s x g want (.tup []) J = J (s.put x.d V.und) := propext Iff.rfl
@[go_sem] theorem u21 : awR A W b s d J .no = False := propext Iff.rfl
@[go_sem] theorem u22 {e : E} : awR A W b s d J (.ret e) = (okW W b e.os ∧ J (s.eff d e)) := propext Iff.rfl
@[go_sem] theorem u23 {p : Prop} {m : AM E} : awR A W b s d J (.asrt p m) = (p ∧ awR A W b s d J m) := propext Iff.rfl
@[go_sem] theorem u24 {a : Nat} {k : Ob → AM E} : awR A W b s d J (.rd a k) = Xk A W b s d J k (XF A s.o a) := propext aiQ
@[go_sem] theorem u25 {k : Ob → AM E} {ob : Ob} : Xk A W b s d J k (some ob) = awR A W b s d J (k ob) := propext Iff.rfl
@[go_sem] theorem u26 {A : Nat → Bool} {o : Nat → Option Ob} {a : Nat} : XF A o a = if A a = true then o a else none := rfl
@[go_sem] theorem u27 {W : Nat → Bool} {b : Nat} : okW W b [] = True := propext ahG
@[go_sem] theorem u28 {W : Nat → Bool} {b : Nat} {q : Nat × Ob} {r : List (Nat × Ob)} : okW W b (q :: r) = ((W q.1 || (decide (b ≤ q.1) && decide (q.1 < b + KK))) = true ∧ okW W b r) := propext agv
@[go_sem] theorem u29 {X : Bool} {acl : List Nat} {fz : Nat → Bool} {b0 a : Nat} : rA X acl fz b0 a = ((decide (a < b0) && (X || fz a)) || acl.any fun i => decide (b0 + i * KK ≤ a) && decide (a < b0 + i * KK + KK)) := rfl
@[go_sem] theorem u30 {X : Bool} {acl : List Nat} {fz : Nat → Bool} {b0 a : Nat} : rW X acl fz b0 a = (X && ((decide (a < b0) && !fz a) || acl.any fun i => decide (b0 + i * KK ≤ a) && decide (a < b0 + i * KK + KK))) := rfl
@[go_sem] theorem u31 {s : St} {n : Nat} : s.wn n = { t := s.t, o := s.o, n := n } := rfl
@[go_sem] theorem u32 {ks : List Nat} {s : St} : s.keep ks = { t := je (ks.map fun k => (k, s.t k)), o := s.o, n := s.n } := rfl
@[go_sem] theorem u33 {α : Type} {f : Nat → α} {a : Nat} {v : α} {i : Nat} : upd f a v i = if i = a then v else f i := rfl
@[go_sem] theorem u34 {k : Nat} {v : V} {r : List (Nat × V)} {i : Nat} : je ((k, v) :: r) i = if i = k then v else je r i := rfl
@[go_sem] theorem u35 {i : Nat} : je [] i = .top := rfl
@[go_sem] theorem u36 {k : Nat} {v : Ob} {r : List (Nat × Ob)} {i : Nat} : wx ((k, v) :: r) i = if i = k then some v else wx r i := rfl
@[go_sem] theorem u37 {i : Nat} : wx [] i = none := rfl
@[go_sem] theorem u38 {args : List V} {ins : List Ob} : Wn args ins = { t := fun i => (args[i]?).getD .top, o := fun k => ins[k]?, n := ins.length } := rfl
@[go_sem] theorem u39 {ts : List (Nat × V)} {os : List (Nat × Ob)} {n : Nat} : JJ ts os n = { t := je ts, o := wx os, n := n } := rfl
@[go_sem] theorem u40 {α : Type} : ([] : List α).length = 0 := rfl
@[go_sem] theorem u41 {α : Type} {a : α} {l : List α} : (a :: l).length = l.length + 1 := rfl
@[go_sem] theorem u42 {α : Type} {a : α} {l : List α} : (a :: l)[0]? = some a := rfl
@[go_sem] theorem u43 {α : Type} {a : α} {l : List α} {i : Nat} : (a :: l)[i + 1]? = l[i]? := rfl
@[go_sem] theorem u44 {α : Type} {a b : α} : (some a).getD b = a := rfl
@[go_sem] theorem u45 {α : Type} {b : α} : (none : Option α).getD b = b := rfl
@[go_sem] theorem u46 {α β : Type} {f : α → β} : (none : Option α).map f = none := rfl
@[go_sem] theorem u47 {α β : Type} {f : α → β} {a : α} : (some a).map f = some (f a) := rfl
@[go_sem] theorem u48 {α β : Type} {f : α → β} : ([] : List α).map f = [] := rfl
@[go_sem] theorem u49 {α β : Type} {f : α → β} {a : α} {l : List α} : (a :: l).map f = f a :: l.map f := rfl
@[go_sem] theorem u50 {α : Type} {l : List α} : [] ++ l = l := rfl
@[go_sem] theorem u51 {α : Type} {a : α} {l r : List α} : (a :: l) ++ r = a :: (l ++ r) := rfl
@[go_sem] theorem u52 {α : Type} {l : List α} : l.take 0 = [] := rfl
@[go_sem] theorem u53 {α : Type} {a : α} {l : List α} {n : Nat} : (a :: l).take (n + 1) = a :: l.take n := rfl
@[go_sem] theorem u54 {α : Type} {l : List α} : l.drop 0 = l := rfl
@[go_sem] theorem u55 {α : Type} {a : α} {l : List α} {n : Nat} : (a :: l).drop (n + 1) = l.drop n := rfl
@[go_sem] theorem u56 {α : Type} {p : α → Bool} : ([] : List α).any p = false := rfl
@[go_sem] theorem u57 {α : Type} {p : α → Bool} {a : α} {l : List α} : (a :: l).any p = (p a || l.any p) := rfl
@[go_sem] theorem u58 {α β : Type} {f : β → α → β} {b : β} : ([] : List α).foldl f b = b := rfl
@[go_sem] theorem u59 {α β : Type} {f : β → α → β} {b : β} {a : α} {l : List α} : (a :: l).foldl f b = l.foldl f (f b a) := rfl
@[go_sem] theorem u60 {α : Type} {a : α} : List.replicate 0 a = [] := rfl
@[go_sem] theorem u61 {α : Type} {n : Nat} {a : α} : List.replicate (n + 1) a = a :: List.replicate n a := rfl
@[go_sem] theorem u62 {α : Type} {a b : α} {l : List α} : (a :: l).set 0 b = b :: l := rfl
@[go_sem] theorem u63 {α : Type} {a b : α} {l : List α} {n : Nat} : (a :: l).set (n + 1) b = a :: l.set n b := rfl
@[go_sem] theorem u64 {n : Nat} : n + 0 = n := rfl
@[go_sem] theorem u65 {n : Nat} : (n : Int).toNat = n := rfl
@[go_sem] theorem u66 {α : Type} {i : Nat} : ([] : List α)[i]? = none := by simp
@[go_sem] theorem u67 {α : Type} {l : List α} : l ++ [] = l := by simp
@[go_sem] theorem u68 {α : Type} {n : Nat} : ([] : List α).take n = [] := by simp
@[go_sem] theorem u69 {α : Type} {n : Nat} : ([] : List α).drop n = [] := by simp
@[go_sem] theorem u70 {n : Nat} : 0 + n = n := by simp
@[go_sem] theorem u71 {n : Nat} : (0 ≤ (n : Int)) = True := by simp
@[go_sem] theorem u72 {n : Nat} : (n ≤ n) = True := by simp
@[go_sem] theorem u73 {α : Type} {p : α → Prop} {a : α} {l : List α} : (∀ x ∈ a :: l, p x) = (p a ∧ ∀ x ∈ l, p x) := by simp
@[go_sem] theorem u74 {α : Type} {p : α → Prop} : (∀ x ∈ ([] : List α), p x) = True := by simp
@[go_sem] theorem u75 {α : Type} {a : α} : (a ∈ ([] : List α)) = False := by simp
@[go_sem] theorem u76 {p : Prop} : (True ∧ p) = p := by simp
@[go_sem] theorem u77 {p : Prop} : (p ∧ True) = p := by simp
@[go_sem] theorem u78 {p : Prop} : (False ∧ p) = False := by simp
@[go_sem] theorem u79 {p : Prop} : (True ∨ p) = True := by simp
@[go_sem] theorem u80 {p : Prop} : (p ∨ True) = True := by simp
@[go_sem] theorem u81 {p : Prop} : (False ∨ p) = p := by simp
@[go_sem] theorem u82 {p : Prop} : (p ∨ False) = p := by simp
@[go_sem] theorem u83 : (¬ True) = False := by simp
@[go_sem] theorem u84 : (¬ False) = True := by simp
@[go_sem] theorem u85 {p : Prop} : (False → p) = True := by simp
@[go_sem] theorem u86 {p : Prop} : (True → p) = p := by simp
@[go_sem] theorem u87 {α : Type} : (α → True) = True := by simp
@[go_sem] theorem u88 {p : Prop} : (p → True) = True := by simp
@[go_sem] theorem u89 : (false = true) = False := by simp
@[go_sem] theorem u90 : (true = false) = False := by simp
@[go_sem] theorem u91 {α : Type} {a b : α} : (some a = some b) = (a = b) := by simp
@[go_sem] theorem u92 {α : Type} {a : α} : (a = a) = True := by simp
@[go_sem] theorem u93 : decide True = true := by simp
@[go_sem] theorem u94 : decide False = false := by simp
@[go_sem] theorem u95 : (!true) = false := rfl
@[go_sem] theorem u96 : (!false) = true := rfl
@[go_sem] theorem u97 {b : Bool} : (true && b) = b := rfl
@[go_sem] theorem u98 {b : Bool} : (false && b) = false := rfl
@[go_sem] theorem u99 {b : Bool} : (true || b) = true := rfl
@[go_sem] theorem alp {b : Bool} : (false || b) = b := rfl
@[go_sem] theorem alo {α : Type} {a b : α} : (a ≠ b) = ¬ (a = b) := rfl
@[go_sem] theorem aln {b : Bool} : (b && true) = b := by simp
@[go_sem] theorem alm {b : Bool} : (b && false) = false := by simp
@[go_sem] theorem alk {b : Bool} : (b || true) = true := by simp
@[go_sem] theorem alj {b : Bool} : (b || false) = b := by simp
@[go_sem] theorem ali {v : V} : conv o br B v .top = True := propext (by apply aiB)
@[go_sem] theorem alh {v u : Value} : conv o br B (.sc v) (.sc u) = (v = u) := propext (by apply ajh)
@[go_sem] theorem alf {s : Nat} {ys : List V} : conv o br B (.sc (.slice none 0 0)) (.sl s ys) = (ys = []) := propext (by apply aiD)
@[go_sem] theorem ale {s s' : Nat} {xs ys : List V} : conv o br B (.sl s xs) (.sl s' ys) = (s = s' ∧ xs = ys) := propext (by apply ajg)
@[go_sem] theorem ald {a off len s : Nat} {ys : List V} : conv o br B (.hd a off len) (.sl s ys) = (okB B a ∧ a ∉ br ∧ hdC o br B off len s ys (o a)) := propext (by apply aiE)
@[go_sem] theorem alc {a off off' : Nat} {es : List V} : conv o br B (.ptr a off) (.ro es off') = (okB B a ∧ a ∉ br ∧ off' = off ∧ Qq es ∧ ∃ wr cs, o a = some (.box wr cs) ∧ Yo o br B cs es) := propext (by apply aiC)
@[go_sem] theorem alb {off off' : Nat} {cs es : List V} : conv o br B (.ro cs off) (.ro es off') = (cs = es ∧ off' = off) := propext (by apply aji)
@[go_sem] theorem ala {cs es : List V} : conv o br B (.agg cs) (.agg es) = Yo o br B cs es := propext (by apply aiG)
@[go_sem] theorem ak9 {cs es : List V} : conv o br B (.tup cs) (.tup es) = Yo o br B cs es := propext (by apply aiA)
@[go_sem] theorem ak8 {f g : FK} {cs es : List V} : conv o br B (.clo f cs) (.clo g es) = (f = g ∧ Yo o br B cs es) := propext (by apply aiF)
@[go_sem] theorem ak7  : conv o br B .nn .nn = True := propext (by apply ajj)
@[go_sem] theorem ak6 : Yo o br B [] [] = True := propext (ahS _ _ _)
@[go_sem] theorem ak5 {v e : V} {r r' : List V} : Yo o br B (v :: r) (e :: r') = (conv o br B v e ∧ Yo o br B r r') := propext (agQ _ _ _ _ _ _ _)
@[go_sem] theorem ak4 {a : Nat} : okB none a = True := propext (agx _)
@[go_sem] theorem ak3 {l : List Nat} {a : Nat} : okB (some l) a = (a ∈ l) := propext (agw _ _)
@[go_sem] theorem ak2 {wr0 : Bool} {s0 s : Nat} {xs0 : List V} {p : List V → Prop} : (∃ wr xs, some (Ob.buf wr0 s0 xs0) = some (Ob.buf wr s xs) ∧ p xs) = (s0 = s ∧ p xs0) := propext aeD
@[go_sem] theorem ak1 {wr0 : Bool} {s0 s : Nat} {xs0 : List V} {p : List V → Prop} : (∃ wr xs, Ob.buf wr0 s0 xs0 = Ob.buf wr s xs ∧ p xs) = (s0 = s ∧ p xs0) := propext adh
@[go_sem] theorem ak0 {wr0 : Bool} {cs0 : List V} {p : List V → Prop} : (∃ wr cs, some (Ob.box wr0 cs0) = some (Ob.box wr cs) ∧ p cs) = p cs0 := propext aeE
@[go_sem] theorem akZ {wr0 : Bool} {cs0 : List V} {p : List V → Prop} : (∃ wr cs, Ob.box wr0 cs0 = Ob.box wr cs ∧ p cs) = p cs0 := propext adi
@[go_sem] theorem akY {wr0 : Bool} {s0 : Nat} {xs0 : List V} : (∃ wr s xs, some (Ob.buf wr0 s0 xs0) = some (Ob.buf wr s xs)) = True := eq_true ⟨wr0, s0, xs0, rfl⟩
@[go_sem] theorem akX {wr0 : Bool} {s0 : Nat} {xs0 : List V} : (∃ wr s xs, Ob.buf wr0 s0 xs0 = Ob.buf wr s xs) = True := eq_true ⟨wr0, s0, xs0, rfl⟩
@[go_sem] theorem ajy {k : IntKind} {a b : Int} : (Value.int k a = Value.int k b) = (a = b) := by simp
@[go_sem] theorem akW {a b : Bool} : (Value.bool a = Value.bool b) = (a = b) := by simp
@[go_sem] theorem akV {l : List UInt8} : (⟨l.toArray⟩ : ByteArray).size = l.length := wS l
@[go_sem] theorem akU {l : List UInt8} : l.toArray.toList = l := by simp
@[go_sem] theorem akT {l : List UInt8} {a b : Nat} : (⟨l.toArray⟩ : ByteArray).extract a b = ⟨((l.drop a).take (b - a)).toArray⟩ := ahs l a b
@[go_sem] theorem akS {a b : List UInt8} : wq .add ⟨a.toArray⟩ ⟨b.toArray⟩ = .asrt (a.length + b.length < 2 ^ 62) (.ret { v := V.str (a ++ b) }) := ah6 a b
@[go_sem] theorem akR {a b : List UInt8} : wq .eql ⟨a.toArray⟩ ⟨b.toArray⟩ = .ret { v := .bool (a == b) } := ah5 a b
@[go_sem] theorem akQ {a b : List UInt8} : wq .neq ⟨a.toArray⟩ ⟨b.toArray⟩ = .ret { v := .bool (!(a == b)) } := ah0 a b
@[go_sem] theorem akP {a b : List UInt8} : wq .lss ⟨a.toArray⟩ ⟨b.toArray⟩ = .ret { v := .bool (Op.bytesLess a b) } := ah1 a b
@[go_sem] theorem akO {a b : List UInt8} : wq .leq ⟨a.toArray⟩ ⟨b.toArray⟩ = .ret { v := .bool (Op.bytesLess a b || a == b) } := ah2 a b
@[go_sem] theorem akN {a b : List UInt8} : wq .gtr ⟨a.toArray⟩ ⟨b.toArray⟩ = .ret { v := .bool (!(Op.bytesLess a b || a == b)) } := ah3 a b
@[go_sem] theorem akM {a b : List UInt8} : wq .geq ⟨a.toArray⟩ ⟨b.toArray⟩ = .ret { v := .bool (!(Op.bytesLess a b)) } := ah4 a b
@[go_sem] theorem akL {a b : List UInt8} : (Value.string ⟨a.toArray⟩ = Value.string ⟨b.toArray⟩) = (a = b) := by simp
@[go_sem] theorem akK {v : Value} : V.shut o (.sc v) = .sc v := by simp only [V.shut]
@[go_sem] theorem akJ  : V.shut o .nn = .nn := by simp only [V.shut]
@[go_sem] theorem akI  : V.shut o .top = .top := by simp only [V.shut]
@[go_sem] theorem akH {k : Nat} {xs : List V} : V.shut o (.sl k xs) = .sl k xs := by simp only [V.shut]
@[go_sem] theorem akG {cs : List V} {k : Nat} : V.shut o (.ro cs k) = .ro cs k := by simp only [V.shut]
@[go_sem] theorem akF {cs : List V} : V.shut o (.agg cs) = .agg (X7 o cs) := by simp only [V.shut]
@[go_sem] theorem akE {cs : List V} : V.shut o (.tup cs) = .tup (X7 o cs) := by simp only [V.shut]
@[go_sem] theorem akD {f : FK} {cs : List V} : V.shut o (.clo f cs) = .clo f (X7 o cs) := by simp only [V.shut]
@[go_sem] theorem akC {a off len : Nat} : V.shut o (.hd a off len) = ai3 o off len (o a) := by simp only [V.shut, ai3] <;> rfl
@[go_sem] theorem akB {a off : Nat} : V.shut o (.ptr a off) = ahv off (o a) := by simp only [V.shut, ahv] <;> rfl
@[go_sem] theorem akA {off len s : Nat} {wr : Bool} {xs : List V} : ai3 o off len (some (.buf wr s xs)) = .sl s ((xs.drop off).take len) := rfl
@[go_sem] theorem akz {off : Nat} {wr : Bool} {cs : List V} : ahv off (some (.box wr cs)) = .ro cs off := rfl
@[go_sem] theorem aky : X7 o [] = [] := by simp only [X7]
@[go_sem] theorem akx {v : V} {cs : List V} : X7 o (v :: cs) = v.shut o :: X7 o cs := by simp only [X7]
@[go_sem] theorem akw {v : Value} : V.shutOk o B (.sc v) = True := by simp only [V.shutOk]
@[go_sem] theorem akv  : V.shutOk o B .nn = True := by simp only [V.shutOk]
@[go_sem] theorem aku  : V.shutOk o B .top = True := by simp only [V.shutOk]
@[go_sem] theorem akt {k : Nat} {xs : List V} : V.shutOk o B (.sl k xs) = True := by simp only [V.shutOk]
@[go_sem] theorem aks {cs : List V} {k : Nat} : V.shutOk o B (.ro cs k) = True := by simp only [V.shutOk]
@[go_sem] theorem akr {a off len : Nat} : V.shutOk o B (.hd a off len) = (okB B a ∧ aic o B off len (o a)) := by simp only [V.shutOk]
@[go_sem] theorem akq {a off : Nat} : V.shutOk o B (.ptr a off) = (okB B a ∧ ∃ wr cs, o a = some (.box wr cs) ∧ Qq cs) := by simp only [V.shutOk]
@[go_sem] theorem akp {cs : List V} : V.shutOk o B (.agg cs) = Yp o B cs := by simp only [V.shutOk]
@[go_sem] theorem ako {cs : List V} : V.shutOk o B (.tup cs) = Yp o B cs := by simp only [V.shutOk]
@[go_sem] theorem akn {f : FK} {cs : List V} : V.shutOk o B (.clo f cs) = Yp o B cs := by simp only [V.shutOk]
@[go_sem] theorem akm : Yp o B [] = True := by simp only [Yp]
@[go_sem] theorem akl {v : V} {cs : List V} : Yp o B (v :: cs) = (v.shutOk o B ∧ Yp o B cs) := by simp only [Yp]
@[go_sem] theorem akk {v : Value} : V.closed (.sc v) = True := by simp only [V.closed]
@[go_sem] theorem akj  : V.closed .nn = True := by simp only [V.closed]
@[go_sem] theorem aki  : V.closed .top = True := by simp only [V.closed]
@[go_sem] theorem akh {k : Nat} {xs : List V} : V.closed (.sl k xs) = True := by simp only [V.closed]
@[go_sem] theorem akg {cs : List V} {k : Nat} : V.closed (.ro cs k) = True := by simp only [V.closed]
@[go_sem] theorem akf {cs : List V} : V.closed (.agg cs) = Qq cs := by simp only [V.closed]
@[go_sem] theorem ake {cs : List V} : V.closed (.tup cs) = Qq cs := by simp only [V.closed]
@[go_sem] theorem akd {f : FK} {cs : List V} : V.closed (.clo f cs) = Qq cs := by simp only [V.closed]
@[go_sem] theorem akc : Qq [] = True := by simp only [Qq]
@[go_sem] theorem akb {v : V} {cs : List V} : Qq (v :: cs) = (v.closed ∧ Qq cs) := by simp only [Qq]
@[go_sem] theorem aka {v : Value} : V.cells (.sc v) = [.sc v] := by simp only [V.cells]
@[go_sem] theorem aj9 {k : Nat} {xs : List V} : V.cells (.sl k xs) = [.sl k xs] := by simp only [V.cells]
@[go_sem] theorem aj8 {a off len : Nat} : V.cells (.hd a off len) = [.hd a off len] := by simp only [V.cells]
@[go_sem] theorem aj7 {a off : Nat} : V.cells (.ptr a off) = [.ptr a off] := by simp only [V.cells]
@[go_sem] theorem aj6 {cs : List V} {k : Nat} : V.cells (.ro cs k) = [.ro cs k] := by simp only [V.cells]
@[go_sem] theorem aj5 {cs : List V} : V.cells (.agg cs) = cs := by simp only [V.cells]
@[go_sem] theorem aj4 {f : FK} {cs : List V} : V.cells (.clo f cs) = [.clo f cs] := by simp only [V.cells]
@[go_sem] theorem aj3  : V.cells .nn = [.nn] := by simp only [V.cells]
@[go_sem] theorem aj2 : WB [] [] [] = some true := by simp only [WB]
@[go_sem] theorem aj1 {ks : List Nat} {k k' : IntKind} {a b : Int} {xs ys : List V} : WB (0 :: ks) (.sc (.int k a) :: xs) (.sc (.int k' b) :: ys) = if k = k' then (WB ks xs ys).map ((a == b) && ·) else none := by simp only [WB]
@[go_sem] theorem aj0 {ks : List Nat} {a b : List UInt8} {xs ys : List V} : WB (1 :: ks) (.sc (.string ⟨a.toArray⟩) :: xs) (.sc (.string ⟨b.toArray⟩) :: ys) = (WB ks xs ys).map ((a == b) && ·) := by simp only [WB]; congr; funext t; congr 1; rw [Bool.eq_iff_iff]; simp; show (a.toArray == b.toArray) = true ↔ a = b; simp
@[go_sem] theorem ajZ {ks : List Nat} {a b : Bool} {xs ys : List V} : WB (2 :: ks) (.sc (.bool a) :: xs) (.sc (.bool b) :: ys) = (WB ks xs ys).map ((a == b) && ·) := by simp only [WB]
@[go_sem] theorem ajY {l : List UInt8} : (l == l) = true := by simp
@[go_sem] theorem ajX {n : Int} : (n == n) = true := by simp
@[go_sem] theorem ajW {k : IntKind} : (k == k) = true := by cases k <;> rfl
@[go_sem] theorem ajV {f : FuncId} {cap acts : List V} : VK Γ b r s d (.clo (.m f) cap) acts K = awC Γ b r s d f (cap ++ acts) K := propext Iff.rfl
@[go_sem] theorem ajU {f : FuncId} {cap acts : List V} : Xf Γ A W b s d (.clo (.m f) cap) acts J = Jq Γ A W b s d f (cap ++ acts) J := propext Iff.rfl
@[go_sem] theorem ajT {off len s : Nat} {ys : List V} {wr : Bool} {s1 : Nat} {xs : List V} : hdC o br B off len s ys (some (.buf wr s1 xs)) = (s1 = s ∧ ys = (xs.drop off).take len) := rfl
@[go_sem] theorem ajS {off len s : Nat} {ys : List V} {wr : Bool} {s1 : Nat} {xs : List V} : hdC o br B off len s ys (some (.obuf wr s1 xs)) = (s1 = s ∧ Yo o br B ((xs.drop off).take len) ys ∧ ntL ys ∧ Qq ys) := rfl
@[go_sem] theorem ajR {off len s : Nat} {wr : Bool} {xs : List V} : ai3 o off len (some (.obuf wr s xs)) = .sl s (jL o ((xs.drop off).take len)) := rfl
@[go_sem] theorem ajQ {off len s : Nat} {wr : Bool} {xs : List V} : aic o B off len (some (.buf wr s xs)) = True := rfl
@[go_sem] theorem ajP {off len s : Nat} {wr : Bool} {xs : List V} : aic o B off len (some (.obuf wr s xs)) = (KT o B ((xs.drop off).take len) ∧ ntL (jL o ((xs.drop off).take len))) := rfl
end
attribute [go_sem] KK sem AM.int AM.str AM.slice AM.sliceK ahY AM.cellsAt aif St.eff St.put St.ev yx V.ofV ZC.v jK aib splice abo V.mk j5 V.small Kw acU qU ab7 Int.cast_ofNat_Int V.und
end Av
end
section
namespace Av
open Go
theorem adg {α : Type} {p : α → Prop} {a : α} {l : List α} : (∀ x ∈ a :: l, p x) ↔ (p a ∧ ∀ x ∈ l, p x) := by simp
theorem aeC {α : Type} {p : α → Prop} : (∀ x ∈ ([] : List α), p x) ↔ True := by simp
theorem zsd {p : Prop} (h : p := by first | assumption | omega | (simp; done)) : p := h
theorem zlo {p : Prop} (h : p := by simp only [List.length_append, List.length_cons, List.length_nil, List.length_map, Nat.reducePow, Nat.reduceAdd]; omega) : p := h
theorem zms {α : Type} {a : α} : a ∈ [a] := List.mem_singleton_self _
theorem znf {p : Prop} (h : p := by first | (exfalso; simp only [List.length_map] at hc; omega) | (exfalso; omega)) : p := h
theorem znz : (∀ {p : Prop} [Decidable p], (decide p = true) = p) ∧ (∀ {p : Prop} [Decidable p], (decide p = false) = ¬ p) ∧ (∀ {α : Type} [BEq α] [LawfulBEq α] {a b : α}, ((a == b) = true) = (a = b)) ∧
    (∀ {α : Type} [BEq α] [LawfulBEq α] {a b : α}, ((a == b) = false) = ¬ (a = b)) ∧ (∀ {α : Type} {a b : α}, (a ≠ b) = ¬ (a = b)) ∧ (∀ {b : Bool}, ((!b) = true) = (b = false)) ∧ (∀ {b : Bool}, ((!b) = false) = (b = true)) :=
  ⟨propext decide_eq_true_iff, propext decide_eq_false_iff_not, propext beq_iff_eq, propext beq_eq_false_iff_ne, rfl, Bool.not_eq_true' _, Bool.not_eq_false' _⟩
structure EvB (Γ : Env) (f : FuncId) (args : List V) (res : V) (B : Option (List Nat)) : Prop where
  ev : Ev Γ f args [] res []
  cl : res.closed
  sh : (B = none ∧ res.noSl) ∨ B = some []
theorem EvN.b {Γ : Env} {f : FuncId} {args : List V} {res : V} (h : EvN Γ f args res) : EvB Γ f args res none := ⟨h.1, h.2.1, .inl ⟨rfl, h.2.2⟩⟩
theorem EvC.b {Γ : Env} {f : FuncId} {args : List V} {res : V} (h : EvC Γ f args res) : EvB Γ f args res (some []) := ⟨h.1, h.2, .inr rfl⟩
section
variable {Γ : Env} {A W : Nat → Bool} {b : Nat} {r : List AO} {s : St} {d : Option Nat} {f : FuncId} {acts : List V} {res : V} {J K : St → Prop} {B : Option (List Nat)}
theorem aju (h : EvB Γ f (X7 s.o acts) res B) (hc : Yp s.o B acts) (hk : XV Γ (b + KK) r { t := (s.put d res).t, o := s.o, n := s.n } K) : awC Γ b r s d f acts K := by
  obtain ⟨h1, h2, ⟨rfl, h3⟩ | rfl⟩ := h
  · exact ajq hc ⟨h1, h2, h3⟩ hk
  · exact ajt hc ⟨h1, h2⟩ hk
theorem aiX (h : EvB Γ f (X7 (XF A s.o) acts) res B) (hc : Yp (XF A s.o) B acts) (hk : J { t := (s.put d res).t, o := s.o, n := s.n }) : Jq Γ A W b s d f acts J := by
  obtain ⟨h1, h2, ⟨rfl, h3⟩ | rfl⟩ := h
  · exact aiU hc ⟨h1, h2, h3⟩ hk
  · exact aiW hc ⟨h1, h2⟩ hk
def acV (Γ : Env) (b : Nat) (r : List AO) (s : St) (d : Option Nat) (f : FuncId) (acts args : List V) (okf : Option (List Nat) → Prop) (K : St → Prop) : Prop :=
  args = X7 s.o acts → okf = (fun B => Yp s.o B acts) → awC Γ b r s d f acts K
def adx (Γ : Env) (A W : Nat → Bool) (b : Nat) (s : St) (d : Option Nat) (f : FuncId) (acts args : List V) (okf : Option (List Nat) → Prop) (J : St → Prop) : Prop :=
  args = X7 (XF A s.o) acts → okf = (fun B => Yp (XF A s.o) B acts) → Jq Γ A W b s d f acts J
@[go_sem] theorem ajJ : awC Γ b r s d f acts K = acV Γ b r s d f acts (X7 s.o acts) (fun B => Yp s.o B acts) K := propext ⟨fun h _ _ => h, fun h => h rfl rfl⟩
@[go_sem] theorem ajw : Jq Γ A W b s d f acts J = adx Γ A W b s d f acts (X7 (XF A s.o) acts) (fun B => Yp (XF A s.o) B acts) J := propext ⟨fun h _ _ => h, fun h => h rfl rfl⟩
theorem QS {args : List V} {okf : Option (List Nat) → Prop} (h : EvB Γ f args res B) (hc : okf B) (hk : XV Γ (b + KK) r { t := (s.put d res).t, o := s.o, n := s.n } K) : acV Γ b r s d f acts args okf K := by
  rintro rfl rfl; exact aju h hc hk
theorem QT {args : List V} {okf : Option (List Nat) → Prop} (h : EvB Γ f args res B) (hc : okf B) (hk : J { t := (s.put d res).t, o := s.o, n := s.n }) : adx Γ A W b s d f acts args okf J := by
  rintro rfl rfl; exact aiX h hc hk
end
mutual
theorem adt (o : Nat → Option Ob) : ∀ v : V, v.closed → v.shut o = v
  | .top, _ => by simp only [V.shut]
  | .sc _, _ => by simp only [V.shut]
  | .nn, _ => by simp only [V.shut]
  | .sl _ _, _ => by simp only [V.shut]
  | .hd _ _ _, h => h.elim
  | .ptr _ _, h => h.elim
  | .ept _ _ _, h => h.elim
  | .ro _ _, _ => by simp only [V.shut]
  | .agg cs, h => by simp only [V.shut]; rw [qa o cs h]
  | .tup cs, h => by simp only [V.shut]; rw [qa o cs h]
  | .clo _ cs, h => by simp only [V.shut]; rw [qa o cs h]
theorem qa (o : Nat → Option Ob) : ∀ cs : List V, Qq cs → X7 o cs = cs
  | [], _ => by simp only [X7]
  | v :: r, h => by simp only [X7]; rw [adt o v h.1, qa o r h.2]
end
mutual
theorem abE (o : Nat → Option Ob) (B : Option (List Nat)) : ∀ v : V, v.closed → v.shutOk o B
  | .top, _ => by simp only [V.shutOk]
  | .sc _, _ => by simp only [V.shutOk]
  | .nn, _ => by simp only [V.shutOk]
  | .sl _ _, _ => by simp only [V.shutOk]
  | .hd _ _ _, h => h.elim
  | .ptr _ _, h => h.elim
  | .ept _ _ _, h => h.elim
  | .ro _ _, _ => by simp only [V.shutOk]
  | .agg cs, h => by simp only [V.shutOk]; exact Uz o B cs h
  | .tup cs, h => by simp only [V.shutOk]; exact Uz o B cs h
  | .clo _ cs, h => by simp only [V.shutOk]; exact Uz o B cs h
theorem Uz (o : Nat → Option Ob) (B : Option (List Nat)) : ∀ cs : List V, Qq cs → Yp o B cs
  | [], _ => by simp only [Yp]
  | v :: r, h => by simp only [Yp]; exact ⟨abE o B v h.1, Uz o B r h.2⟩
end
@[go_sem] def mv (d x : Nat) : AO := ⟨some d, .mov (.t x), none⟩
@[go_sem] def mc (d : Nat) (v : V) : AO := ⟨some d, .mov (.c v), none⟩
@[go_sem] def mg (d x g : Nat) (q : Bool) : AO := ⟨some d, .mov (.t x), some (g, q)⟩
@[go_sem] def ld (d s x : Nat) : AO := ⟨some d, .load false s (.t x), none⟩
@[go_sem] def ia (d s x i : Nat) : AO := ⟨some d, .iaddr s (.t x) (.t i), none⟩
@[go_sem] def fa (d o x : Nat) : AO := ⟨some d, .faddr o (.t x), none⟩
@[go_sem] def nk (d x : Nat) : AO := ⟨some d, .nilck (.t x), none⟩
@[go_sem] def ex (d x i : Nat) : AO := ⟨some d, .ext (.t x) i, none⟩
@[go_sem] def ln (d x : Nat) : AO := ⟨some d, .lenL (.t x), none⟩
@[go_sem] def bn (d : Nat) (op : BinOp) (x y : Nat) : AO := ⟨some d, .bin op (.t x) (.t y), none⟩
@[go_sem] def bc (d : Nat) (op : BinOp) (x : Nat) (v : V) : AO := ⟨some d, .bin op (.t x) (.c v), none⟩
@[go_sem] def cl (d f : Nat) (ts : List Nat) : AO := ⟨some d, .call f (ts.map .t), none⟩
@[go_sem] def xo (d : Nat) (op : AOp) : AO := ⟨some d, op, none⟩
@[go_sem] def xg (d : Nat) (op : AOp) (g : Nat) (q : Bool) : AO := ⟨some d, op, some (g, q)⟩
@[go_sem] def xs (s a x : Nat) : AO := ⟨none, .store s (.t a) (.t x), none⟩
attribute [go_sem] adg aeC V.ren KR QZ V.lt ltL Ob.weak KK
end Av
end
section
namespace Av
open Go Go.RowKit
def Xn (P : Program) (W : World) : Env := ⟨P, fun b => W.heap[b]?⟩
def af9 (W : World) (b _i : Nat) : Prop := b < W.heap.size
theorem adu {P : Program} (mix : P.follows .mixedOrders = true) {f : FuncId} (own : Own P f) {W : World} {args : List V} {cargs : Array Value} {b : Bool}
    (h : EvN (Xn P W) f args (V.bool b)) (hsz : cargs.size = args.length) (hrep : ∀ i (h : i < args.length) (h' : i < cargs.size), Rep W (af9 W) noμ cargs[i] args[i]) :
    Calls P f cargs W fun e W' => e = .returned (.bool b) ∧ Below W.heap.size W W' := by
  let C : Ctx := { P := P, w0 := W, Z0 := af9 W, F := fun _ => False, m := 0, μ0 := noμ, kn := fun b => W.heap[b]?, mix := mix, hkn := fun b x h => ⟨h, fun h => h⟩ }
  have hg : Good C W (af9 W) noμ (fun k => ([] : List Ob)[k]?) := by
    refine ⟨fun a x h => by simp at h, fun a b x y c d _ h => by simp at h, fun b i h => h, Nat.le_refl _, fun _ _ _ => rfl, fun b i h => .inl h, fun b i h => h, fun _ _ _ => rfl, fun k hk => (by cases hk), jA.refl _⟩
  have := h.1 C cargs rfl rfl (fun k _ => rfl) hg (fun b hb => hb.elim) hsz hrep
  rw [show (Xn P W).P = P from rfl, show C.w0 = W from rfl, X1 own] at this
  refine Calls.mono this ?_
  rintro e w' ⟨v, Z', μ', rfl, hr, hgd, _⟩
  refine ⟨by rw [hr.scE.1], ⟨hgd.oo.1, hgd.oo.2.1, hgd.oo.2.2, hgd.grow, fun k hk => hgd.frame k hk (fun h => h)⟩⟩
theorem Vb {H : Type} {enc : TypeId × Value → H} {a : Assume} {C : Checked} {os : Os} {f : FuncId} {fn : Func} {s : ChangeSpec} {conds : List PathCond} {apart fresh handsOn again : Bool} {X : World → Array Value → Prop}
    (hX : ∀ (w w' : World) (args : Array Value), w.heap = w'.heap → X w args → X w' args)
    (own : ownKnob C.prog.godebug = none) (started : os.Started) (noInit : C.prog.inits.idxOf? f = none) (hfn : C.prog.funcs[f]? = some fn)
    (witness : ∃ (w : World) (tape : Tape) (i : Input), w.os = os ∧ (w.forCall tape i).Shaped C.prog ∧ i.vars = [] ∧ Input.okWide C.prog (w.forCall tape i) .any w.heap.size f i ∧
      ((s.pre enc C.prog fn conds apart (w.forCall tape i).memory i.args ∧ X (w.forCall tape i).memory i.args) ∧ sizedMet enc C.prog fn (OpenSpec.ofChange s) apart (w.forCall tape i).memory i.args) ∧ a.holds C.prog (lone (Frame.enter C.prog f i.args .normal) [] (w.forCall tape i)))
    (contract : ∀ (W : World) (base : Nat) (args : Array Value) (ds gs : List (DataW H)) (before : List MemPlace),
      (∀ (j : Nat) t v, fn.params[j]? = some t → args[j]? = some v → Value.okWide C.prog W .any base t v) →
      DataW.Whole enc C.prog fn.params.toList s.vars apart W args.toList ds gs before →
      (DataW.weightsEach C.prog (fn.params.toList ++ s.plain.varTypes C.prog) (ds ++ gs)).all (· ≤ reachBytes) = true → X W args → W.ShapedOpen C.prog →
      Calls C.prog f args W fun e W' => ∃ v, e = .returned v ∧ s.post enc C.prog fn apart fresh handsOn again W args v W') :
    ReturnsInHanded a C os f .any (fun w args => (s.pre enc C.prog fn conds apart w args ∧ X w args) ∧ sizedMet enc C.prog fn (OpenSpec.ofChange s) apart w args) (s.post enc C.prog fn apart fresh handsOn again) := by
  refine returnsInHanded_of_calls own started noInit witness ?_
  intro w tape i _ hsh _ hok hpre hholds
  obtain ⟨_, _, _, fn', hfn', _, _, _, _, hval⟩ := hok
  have e : fn' = fn := Option.some.inj (hfn'.symm.trans hfn)
  subst e
  obtain ⟨⟨⟨ds, gs, before, hw, hc⟩, hx⟩, hz⟩ := hpre
  have hw' := DataW.Whole.of_heap (w' := w.forCall tape i) (by rfl) hw
  refine (contract (w.forCall tape i) w.heap.size i.args ds gs before hval hw' (hz.weights hw) (hX _ _ _ (by rfl) hx) hsh).mono fun e W' ⟨v, he, hp⟩ => ?_
  subst he
  exact ChangeSpec.post_blind hp
end Av
end
