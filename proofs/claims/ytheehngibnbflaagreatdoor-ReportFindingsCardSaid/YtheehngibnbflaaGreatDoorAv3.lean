/- Contracts of library functions that answer scalars and leave the heap as it is. -/
import Derived.Test.YtheehngibnbflaaGreatDoorAv2
import Derived.Laws.Strings
import Derived.Below
import Derived.Handed
set_option linter.unusedVariables false
set_option linter.unusedSimpArgs false
section
namespace Av
open Go
theorem aaf {Γ : Env} {f : FuncId} {cv : List Value} {res : Value} {rv : V} (hr : ∀ w Z μ, Rep w Z μ res rv)
    (h : ∀ w, (∀ b x, Γ.kn b = some x → w.heap[b]? = some x) → Yp Γ.P f cv.toArray w fun e w' => e = .returned res ∧ w.heap.size ≤ w'.heap.size ∧ (∀ b, b < w.heap.size → w'.heap[b]? = w.heap[b]?) ∧ V7 w w') : Ev Γ f (cv.map .sc) [] rv [] := by
  intro C cargs hP hm hmu hg hF hsz hrep
  subst hP
  have hargs : cargs = cv.toArray := by
    apply Array.ext
    · simpa using hsz
    · intro i h1 h2
      have := hrep i (by simpa using h2) h1
      simp only [List.getElem_map] at this
      simpa using this.scE.1
  subst hargs
  have hk : ∀ b x, C.env.kn b = some x → C.w0.heap[b]? = some x := fun b x h => (C.hkn b x h).1
  have mono : ∀ (e : Ending) (w' : World), (e = .returned res ∧ C.w0.heap.size ≤ w'.heap.size ∧ (∀ b, b < C.w0.heap.size → w'.heap[b]? = C.w0.heap[b]?) ∧ V7 C.w0 w') → ∃ v Z' μ', e = .returned v ∧ Rep w' Z' μ' v rv ∧ Good C w' Z' μ' (fun k => ([] : List Ob)[k]?) ∧ ∀ k, ([] : List Ob).length ≤ k → μ' k = none := by
    rintro e w' ⟨rfl, hsz, hw, hoo⟩
    refine ⟨res, C.Z0, C.μ0, rfl, hr _ _ _, ⟨fun a x h => by simp at h, fun a b x y c d _ h => by simp at h, fun b i h => Nat.lt_of_lt_of_le (hg.zlt b i h) hsz, hsz, fun b hb _ => hw b hb, fun b i h => .inl h, fun b i h => h, fun b i h => by simp [World.cell?, hw b (hg.zlt b i h)], fun k _ => rfl, hoo⟩, fun k hk => hmu k (by simp)⟩
  have := h C.w0 hk
  simp only [Yp, Ctx.env] at this ⊢
  split at this
  · exact mono _ _ this
  · exact Calls.mono this (fun e w' h => mono e w' h)
  · exact Rows.mono this (fun v w' h => mono _ _ h)
  · exact this.elim
end Av
end
section
namespace Av
open Go
abbrev Qt (_ks : List Nat) (a b : AC) : AC := .seq a b
abbrev jj (_ks : List Nat) (a : AC) : AC := .loop a
abbrev ww (_L : List Nat) (_ot : OT) (_p : OP) (ops : List AO) (ahead : List (List Nat)) : AC := .regD ops ahead
def St.keep (ks : List Nat) (s : St) : St := { t := Vn (ks.map fun k => (k, s.t k)), o := s.o, n := s.n }
section
variable {C : Ctx} {nt : Nat} {s : St} {K : St → Prop} {E : Nat → St → Prop} {R : St → Prop}
theorem jL (t : Nat → V) : ∀ (ks : List Nat) (i : Nat), Vn (ks.map fun k => (k, t k)) i = .top ∨ Vn (ks.map fun k => (k, t k)) i = t i
  | [], _ => .inl rfl
  | k :: ks, i => by
    simp only [List.map_cons, Vn]
    split
    · rename_i h; subst h; exact .inr rfl
    · exact jL t ks i
theorem Sim.keep {n : Nat} {a : Act} {w : World} (h : Sim C nt n s a w) (ks : List Nat) : Sim C nt n (s.keep ks) a w := by
  obtain ⟨Z, μ, hg, ht, hf, hm, hd, hn⟩ := h
  refine ⟨Z, μ, hg, fun i => ?_, hf, hm, hd, hn⟩
  rcases jL s.t ks i with h | h
  · simp only [St.keep, h]; exact .top
  · simp only [St.keep, h]; exact ht i
theorem abl {c : AC} (ks : List Nat) (h : AWp C nt c (s.keep ks) K E R) : AWp C nt c s K E R :=
  fun code hc a w hs => h code hc a w (hs.keep ks)
theorem Qj {ks : List Nat} {x y : AC} (h : AWp C nt x s (fun s' => AWp C nt y (s'.keep ks) K E R) E R) : AWp C nt (Qt ks x y) s K E R :=
  ach (yj h (fun _ h => abl ks h) (fun _ _ h => h) (fun _ h => h))
theorem wg {L : List Nat} {ot : OT} {p : OP} {ops : List AO} {ahead : List (List Nat)} (fz : Nat → Bool) (hc : okR ops ahead L ot = true) (hp : Yk (ris ops ahead L) ot = p)
    (h : awP C.env fz s.n (fun s' => K (s'.wn (s.n + ops.length * KK))) p s) : AWp C nt (ww L ot p ops ahead) s K E R :=
  abj L fz ot p hc hp h
end
mutual
def V.shut0 (o : Nat → Option Ob) : V → V
  | .hd a off len => match o a with | some (.buf _ s xs) => .sl s ((xs.drop off).take len) | _ => .top
  | .ptr a off => match o a with | some (.box _ cs) => .ro cs off | _ => .top
  | .ept _ _ _ => .top
  | .agg cs => .agg (VG o cs)
  | .tup cs => .tup (VG o cs)
  | .clo f cs => .clo f (VG o cs)
  | v => v
def VG (o : Nat → Option Ob) : List V → List V
  | [] => []
  | v :: r => v.shut0 o :: VG o r
end
mutual
def V.shutOk0 (o : Nat → Option Ob) (B : Option (List Nat)) : V → Prop
  | .hd a _ _ => okB B a ∧ ∃ wr s xs, o a = some (.buf wr s xs)
  | .ptr a _ => okB B a ∧ ∃ wr cs, o a = some (.box wr cs) ∧ Qc cs
  | .ept _ _ _ => True
  | .agg cs => WQ o B cs
  | .tup cs => WQ o B cs
  | .clo _ cs => WQ o B cs
  | _ => True
def WQ (o : Nat → Option Ob) (B : Option (List Nat)) : List V → Prop
  | [] => True
  | v :: r => v.shutOk0 o B ∧ WQ o B r
end
mutual
theorem wU (o : Nat → Option Ob) (B : Option (List Nat)) : ∀ v : V, v.shutOk0 o B → conv o [] B v (v.shut0 o)
  | .top, _ => by simp [V.shut0, conv]
  | .sc _, _ => by simp [V.shut0, conv]
  | .nn, _ => by simp [V.shut0, conv]
  | .sl _ _, _ => by simp [V.shut0, conv]
  | .ro _ _, _ => by simp [V.shut0, conv]
  | .ept _ _ _, _ => by simp [V.shut0, conv]
  | .hd a off len, h => by
    obtain ⟨h1, wr, s, xs, h2⟩ := h
    simp only [V.shut0, h2, conv]
    exact ⟨h1, by simp, .inl ⟨wr, xs, rfl, rfl⟩⟩
  | .ptr a off, h => by
    obtain ⟨h1, wr, cs, h2, h3⟩ := h
    simp only [V.shut0, h2, conv]
    exact ⟨h1, by simp, trivial, h3, wr, cs, rfl, Jd _ _ _ _ h3⟩
  | .agg cs, h => by simp only [V.shut0, conv]; exact Wz o B cs h
  | .tup cs, h => by simp only [V.shut0, conv]; exact Wz o B cs h
  | .clo f cs, h => by simp only [V.shut0, conv]; exact ⟨trivial, Wz o B cs h⟩
theorem Wz (o : Nat → Option Ob) (B : Option (List Nat)) : ∀ cs : List V, WQ o B cs → Jc o [] B cs (VG o cs)
  | [], _ => trivial
  | v :: r, h => ⟨wU o B v h.1, Wz o B r h.2⟩
end
mutual
theorem yX (o : Nat → Option Ob) : ∀ v : V, (v.shut0 o).closed
  | .top => by simp only [V.shut0, V.closed]
  | .sc _ => by simp only [V.shut0, V.closed]
  | .nn => by simp only [V.shut0, V.closed]
  | .sl _ _ => by simp only [V.shut0, V.closed]
  | .ro _ _ => by simp only [V.shut0, V.closed]
  | .ept _ _ _ => by simp only [V.shut0, V.closed]
  | .hd a off len => by simp only [V.shut0]; split <;> simp only [V.closed]
  | .ptr a off => by simp only [V.shut0]; split <;> simp only [V.closed]
  | .agg cs => by simp only [V.shut0, V.closed]; exact YF o cs
  | .tup cs => by simp only [V.shut0, V.closed]; exact YF o cs
  | .clo f cs => by simp only [V.shut0, V.closed]; exact YF o cs
theorem YF (o : Nat → Option Ob) : ∀ cs : List V, Qc (VG o cs)
  | [] => trivial
  | v :: r => ⟨yX o v, YF o r⟩
end
mutual
def V.shut (o : Nat → Option Ob) : V → V
  | .hd a off len => match o a with | some (.buf _ s xs) => .sl s ((xs.drop off).take len) | some (.obuf _ s xs) => .sl s (VG o ((xs.drop off).take len)) | _ => .top
  | .ptr a off => match o a with | some (.box _ cs) => .ro cs off | _ => .top
  | .ept _ _ _ => .top
  | .agg cs => .agg (JW o cs)
  | .tup cs => .tup (JW o cs)
  | .clo f cs => .clo f (JW o cs)
  | v => v
def JW (o : Nat → Option Ob) : List V → List V
  | [] => []
  | v :: r => v.shut o :: JW o r
end
def acm (o : Nat → Option Ob) (B : Option (List Nat)) (off len : Nat) : Option Ob → Prop
  | some (.buf _ _ _) => True
  | some (.obuf _ _ xs) => WQ o B ((xs.drop off).take len) ∧ ntL (VG o ((xs.drop off).take len))
  | _ => False
mutual
def V.shutOk (o : Nat → Option Ob) (B : Option (List Nat)) : V → Prop
  | .hd a off len => okB B a ∧ acm o B off len (o a)
  | .ptr a _ => okB B a ∧ ∃ wr cs, o a = some (.box wr cs) ∧ Qc cs
  | .ept _ _ _ => True
  | .agg cs => QP o B cs
  | .tup cs => QP o B cs
  | .clo _ cs => QP o B cs
  | _ => True
def QP (o : Nat → Option Ob) (B : Option (List Nat)) : List V → Prop
  | [] => True
  | v :: r => v.shutOk o B ∧ QP o B r
end
mutual
theorem aaj (o : Nat → Option Ob) (B : Option (List Nat)) : ∀ v : V, v.shutOk o B → conv o [] B v (v.shut o)
  | .top, _ => by simp [V.shut, conv]
  | .sc _, _ => by simp [V.shut, conv]
  | .nn, _ => by simp [V.shut, conv]
  | .sl _ _, _ => by simp [V.shut, conv]
  | .ro _ _, _ => by simp [V.shut, conv]
  | .ept _ _ _, _ => by simp [V.shut, conv]
  | .hd a off len, h => by
    obtain ⟨h1, h2⟩ := h
    unfold acm at h2
    split at h2
    · rename_i wr s xs h3
      simp only [V.shut, h3, conv]
      exact ⟨h1, by simp, .inl ⟨wr, xs, rfl, rfl⟩⟩
    · rename_i wr s xs h3
      simp only [V.shut, h3, conv]
      exact ⟨h1, by simp, .inr ⟨wr, xs, rfl, Wz _ _ _ h2.1, h2.2, YF _ _⟩⟩
    · exact h2.elim
  | .ptr a off, h => by
    obtain ⟨h1, wr, cs, h2, h3⟩ := h
    simp only [V.shut, h2, conv]
    exact ⟨h1, by simp, trivial, h3, wr, cs, rfl, Jd _ _ _ _ h3⟩
  | .agg cs, h => by simp only [V.shut, conv]; exact JJ o B cs h
  | .tup cs, h => by simp only [V.shut, conv]; exact JJ o B cs h
  | .clo f cs, h => by simp only [V.shut, conv]; exact ⟨trivial, JJ o B cs h⟩
theorem JJ (o : Nat → Option Ob) (B : Option (List Nat)) : ∀ cs : List V, QP o B cs → Jc o [] B cs (JW o cs)
  | [], _ => trivial
  | v :: r, h => ⟨aaj o B v h.1, JJ o B r h.2⟩
end
section
variable {Γ : Env} {b : Nat} {s : St} {d : Option Nat} {f : FuncId} {acts args : List V} {res : V} {K : St → Prop}
theorem acR (h : Ev Γ f args [] res []) (ha : JW s.o acts = args) (hc : QP s.o none acts) (hr : res.closed) (hn : res.noSl)
    (hk : K { t := (s.put d res).t, o := s.o, n := s.n }) : Uw Γ b s d f acts K :=
  ve h (ha ▸ JJ _ _ _ hc) hr hn hk
theorem acS (h : Ev Γ f args [] res []) (ha : JW s.o acts = args) (hc : QP s.o (some []) acts) (hr : res.closed)
    (hk : K { t := (s.put d res).t, o := s.o, n := s.n }) : Uw Γ b s d f acts K :=
  vd [] h (ha ▸ JJ _ _ _ hc) hr (by rw [xZ]; exact hk)
theorem ab6 {A W : Nat → Bool} (h : Ev Γ f args [] res []) (ha : JW (Jp A s.o) acts = args) (hc : QP (Jp A s.o) none acts) (hr : res.closed) (hn : res.noSl)
    (hk : K { t := (s.put d res).t, o := s.o, n := s.n }) : Qr Γ A W b s d f acts K :=
  xG h (ha ▸ JJ _ _ _ hc) (Jg _ _ hr) hn hk
theorem ab7 {A W : Nat → Bool} (h : Ev Γ f args [] res []) (ha : JW (Jp A s.o) acts = args) (hc : QP (Jp A s.o) (some []) acts) (hr : res.closed)
    (hk : K { t := (s.put d res).t, o := s.o, n := s.n }) : Qr Γ A W b s d f acts K :=
  aao h (ha ▸ JJ _ _ _ hc) (Jg _ _ hr) hk
end
end Av
end
section
namespace Av
open Go
def awS (Γ : Env) (b : Nat) (r : List AO) (s : St) (d : Option Nat) (K : St → Prop) (m : AM E) : Prop := m.wp s.o fun e => VD Γ (b + KK) r (s.eff d e) K
def awC (Γ : Env) (b : Nat) (r : List AO) (s : St) (d : Option Nat) (f : FuncId) (acts : List V) (K : St → Prop) : Prop := Uw Γ b s d f acts fun s' => VD Γ (b + KK) r s' K
def awQ (Γ : Env) (b : Nat) (r : List AO) (s : St) (x : AO) (g : Nat) (want : Bool) (v : V) (K : St → Prop) : Prop :=
  match v with
  | .sc (.bool q) => (q = want → VD Γ b ({ d := x.d, op := x.op } :: r) (s.put (some g) (.bool want)) K) ∧ (q = !want → VD Γ (b + KK) r ((s.put (some g) (.bool !want)).put x.d V.und) K)
  | .tup [] => VD Γ (b + KK) r (s.put x.d V.und) K
  | _ => False
section
variable {Γ : Env} {b : Nat} {r : List AO} {s : St} {d : Option Nat} {K : St → Prop}
theorem WS {g : Nat} {v : V} (h : s.t g = v) : s.put (some g) v = s := by
  have : upd s.t g v = s.t := by
    funext i
    by_cases hi : i = g
    · subst hi; rw [Qh, h]
    · rw [QI _ _ hi]
  simp only [St.put, this]
theorem adx {x : AO} {g : Nat} {want : Bool} (hx : x.g = some (g, want)) (h : awQ Γ b r s x g want (s.t g) K) : VD Γ b (x :: r) s K := by
  simp only [VD, hx]
  unfold awQ at h
  split at h
  · rename_i q hq
    refine ⟨some q, hq, fun e => ?_, fun e => ?_⟩
    · cases e
      have := h.1 rfl
      rw [WS hq] at this
      exact this
    · have e' : q = !want := by cases q <;> cases want <;> simp_all
      have := h.2 e'
      rw [WS (by rw [hq, e'])] at this
      exact this
  · rename_i hq
    exact ⟨none, hq, (fun e => by cases e), fun _ => h⟩
  · exact h.elim
def Yd (Γ : Env) (b : Nat) (l : List AO) (s : St) (K : St → Prop) : Prop := VD Γ b l s K
def XQ (Γ : Env) (b : Nat) (r : List AO) (s : St) (d : Option Nat) (v : V) (acts : List V) (K : St → Prop) : Prop :=
  match v with
  | .clo f cap => awC Γ b r s d f.f (f.args acts cap) K
  | _ => False
theorem wu {x : Opd} {as : List Opd} : Yd Γ b (⟨d, .callv x as, none⟩ :: r) s K ↔ XQ Γ b r s d (s.ev x) (as.map s.ev) K := by
  simp only [Yd, VD, wi, XQ]
  cases s.ev x <;> rfl
theorem acs {aop : AOp} {g : Nat} {want : Bool} : Yd Γ b (⟨d, aop, some (g, want)⟩ :: r) s K ↔ awQ Γ b r s ⟨d, aop, none⟩ g want (s.t g) K := by
  refine ⟨fun h => ?_, fun h => adx (x := ⟨d, aop, some (g, want)⟩) rfl h⟩
  simp only [Yd, VD] at h
  obtain ⟨q, hq, h1, h2⟩ := h
  unfold awQ
  rcases q with _ | q
  · have hq : s.t g = .tup [] := hq
    rw [hq]
    exact h2 (by simp)
  · have hq : s.t g = .bool q := hq
    rw [hq]
    refine ⟨fun e => ?_, fun e => ?_⟩
    · rw [WS (by rw [hq, e])]; exact h1 (by rw [e])
    · rw [WS (by rw [hq, e])]
      exact h2 (by rw [e]; cases want <;> simp)
end
section
variable {Γ : Env} {b : Nat} {r : List AO} {s : St} {d : Option Nat} {K : St → Prop}
def XW (Γ : Env) (b : Nat) (r : List AO) (s : St) (d : Option Nat) (K : St → Prop) (k : Ob → AM E) (x : Option Ob) : Prop :=
  match x with
  | some ob => awS Γ b r s d K (k ob)
  | none => False
theorem acT {a : Nat} {k : Ob → AM E} : awS Γ b r s d K (.rd a k) ↔ XW Γ b r s d K k (s.o a) := by
  unfold XW
  cases h : s.o a with
  | none => simp [awS, AM.wp, h]
  | some ob => simp [awS, AM.wp, h]
end
section
variable {C : Ctx} {nt : Nat} {s : St} {K : St → Prop} {E : Nat → St → Prop} {R : St → Prop}
theorem Qi {ks : List Nat} {ops : List AO} {y : AC} (h : ∀ K' : St → Prop, (∀ s', AWp C nt y s' K E R → K' s') → Yd C.env s.n ops s (fun s' => K' (s'.keep ks))) : AWp C nt (Qt ks (.reg ops) y) s K E R :=
  Qj (aar (h _ fun _ h => h))
theorem Ql {ops : List AO} (h : ∀ K' : St → Prop, (∀ s', K s' → K' s') → Yd C.env s.n ops s K') : AWp C nt (.reg ops) s K E R :=
  aar (h _ fun _ h => h)
end
end Av
end
section
namespace Av
open Go
def EvC (Γ : Env) (f : FuncId) (args : List V) (res : V) : Prop := Ev Γ f args [] res [] ∧ res.closed
def EvN (Γ : Env) (f : FuncId) (args : List V) (res : V) : Prop := Ev Γ f args [] res [] ∧ res.closed ∧ res.noSl
theorem EvN.c {Γ : Env} {f : FuncId} {args : List V} {res : V} (h : EvN Γ f args res) : EvC Γ f args res := ⟨h.1, h.2.1⟩
section
variable {Γ : Env} {b : Nat} {r : List AO} {s : St} {d : Option Nat} {f : FuncId} {acts : List V} {res : V} {K : St → Prop}
theorem adn (hc : QP s.o none acts) (h : EvN Γ f (JW s.o acts) res) (hk : Yd Γ (b + KK) r { t := (s.put d res).t, o := s.o, n := s.n } K) : awC Γ b r s d f acts K :=
  acR h.1 rfl hc h.2.1 h.2.2 hk
theorem adp (hc : QP s.o (some []) acts) (h : EvC Γ f (JW s.o acts) res) (hk : Yd Γ (b + KK) r { t := (s.put d res).t, o := s.o, n := s.n } K) : awC Γ b r s d f acts K :=
  acS h.1 rfl hc h.2 hk
end
theorem Vx {Γ : Env} {f : FuncId} {nt : Nat} {ac : AC} {rs : List YJ} (hb : Has Γ.P f nt ac rs) {args : List V} {res : V} (ha : args.length ≤ nt) (hr : res.closed)
    (h : ∀ C : Ctx, C.env = Γ → C.m = 0 → AWp C nt ac (Y9 args []) (jt 0 rs res []) (fun _ _ => False) (jt 0 rs res [])) : EvC Γ f args res :=
  ⟨Wo hb ha h, hr⟩
theorem QA {Γ : Env} {f : FuncId} {nt : Nat} {ac : AC} {rs : List YJ} (hb : Has Γ.P f nt ac rs) {args : List V} {res : V} (ha : args.length ≤ nt) (hr : res.closed) (hn : res.noSl)
    (h : ∀ C : Ctx, C.env = Γ → C.m = 0 → AWp C nt ac (Y9 args []) (jt 0 rs res []) (fun _ _ => False) (jt 0 rs res [])) : EvN Γ f args res :=
  ⟨Wo hb ha h, hr, hn⟩
section
variable {C : Ctx} {nt : Nat} {s : St} {K : St → Prop} {E : Nat → St → Prop} {R : St → Prop}
theorem q9 {ks : List Nat} {x : AC} {ι : Type} (good : ι → Prop) (inv : ι → St) (msr : ι → Nat) (i0 : ι) (h0 : good i0) (τ : Nat → Nat) (hw : abp C.m τ s (inv i0))
    (h : ∀ i, good i → ∀ K' : St → Prop, (∀ s' i' τ, good i' → msr i' < msr i → abp C.m τ s' (inv i') → K' s') → AWp C nt x (inv i) K' E R) : AWp C nt (jj ks x) s K E R :=
  aas good inv msr ⟨i0, τ, h0, hw⟩ fun i hi => h i hi _ fun _ i' τ h1 h2 h3 => ⟨i', τ, h1, h2, h3⟩
end
theorem xJ {m n : Nat} {s : St} (tau : List (Nat × Nat)) {ts : List (Nat × V)} {os : List (Nat × Ob)}
    (ht : ∀ p ∈ ts, s.t p.1 = p.2.ren (Yq tau) ∧ p.2.lt n)
    (ho : ∀ p ∈ os, p.1 < n ∧ ∃ x, s.o (Yq tau p.1) = some x ∧ x.weak (Yq tau) n p.2)
    (hn : (os.map fun p => Yq tau p.1).Nodup) (hf : ∀ p ∈ tau, m ≤ p.1) (hm : m ≤ n) : abp m (Yq tau) s (wJ ts os n) := abF tau ht ho hn hf hm
def adc (s : St) : YJ → Option V
  | .tmp t => some (s.t t)
  | .cell a g sz => match s.t a with
    | .ptr n off => (match s.o n with
      | some (.box _ cells) => if g then (if off + sz ≤ cells.length then some (.agg ((cells.drop off).take sz)) else none) else cells[off]?
      | _ => none)
    | _ => none
def j9 (s : St) : List YJ → Option (List V)
  | [] => some []
  | r :: rs => match adc s r, j9 s rs with | some v, some vs => some (v :: vs) | _, _ => none
theorem Uk {s : St} : ∀ (rs : List YJ) (vs : List V) (K : List V → Prop), j9 s rs = some vs → K vs → y1 s rs K
  | [], vs, K, h, hk => by simp [j9] at h; subst h; exact hk
  | r :: rs, vs, K, h, hk => by
    simp only [j9] at h
    split at h
    · rename_i v vs' h1 h2
      simp only [Option.some.injEq] at h; subst h
      have ih := Uk rs vs' (fun vs => K (v :: vs)) h2 hk
      simp only [y1]
      cases r with
      | tmp t => simp only [adc, Option.some.injEq] at h1; subst h1; exact ih
      | cell a g sz =>
        simp only [adc] at h1
        split at h1
        · rename_i n off hp
          split at h1
          · rename_i wr cells ho
            simp only [YJ.val, hp, AM.cellsAt, AM.wp]
            refine ⟨_, ho, ?_⟩
            cases g
            · simp only [Bool.false_eq_true, if_false] at h1 ⊢
              rw [h1]; exact ih
            · simp only [if_true] at h1 ⊢
              split at h1
              · rename_i hle
                simp only [Option.some.injEq] at h1; subst h1
                exact ⟨hle, ih⟩
              · cases h1
          · cases h1
        · cases h1
    · cases h
theorem QF {rs : List YJ} {res : V} {s : St} (vs : List V) (h : j9 s rs = some vs) (hc : conv s.o [] none (aac vs) res) : jt 0 rs res [] s :=
  wS (Uk rs vs _ h hc)
theorem acL (o : Nat → Option Ob) (br : List Nat) (B : Option (List Nat)) (v : V) : conv o br B v .top ↔ True := by cases v <;> simp [conv]
theorem adg (o : Nat → Option Ob) (br : List Nat) (B : Option (List Nat)) (v u : Value) : conv o br B (.sc v) (.sc u) ↔ v = u := by simp [conv]
theorem acN (o : Nat → Option Ob) (br : List Nat) (B : Option (List Nat)) (s : Nat) (ys : List V) : conv o br B (.sc (.slice none 0 0)) (.sl s ys) ↔ ys = [] := by simp [conv]
theorem adf (o : Nat → Option Ob) (br : List Nat) (B : Option (List Nat)) (s s' : Nat) (xs ys : List V) : conv o br B (.sl s xs) (.sl s' ys) ↔ s = s' ∧ xs = ys := by simp [conv]
theorem adj (o : Nat → Option Ob) (br : List Nat) (B : Option (List Nat)) (a off len s : Nat) (ys : List V) : conv o br B (.hd a off len) (.sl s ys) ↔ okB B a ∧ a ∉ br ∧ ((∃ wr xs, o a = some (.buf wr s xs) ∧ ys = (xs.drop off).take len) ∨ (∃ wr xs, o a = some (.obuf wr s xs) ∧ Jc o br B ((xs.drop off).take len) ys ∧ ntL ys ∧ Qc ys)) := by simp [conv]
theorem acM (o : Nat → Option Ob) (br : List Nat) (B : Option (List Nat)) (a off off' : Nat) (es : List V) : conv o br B (.ptr a off) (.ro es off') ↔ okB B a ∧ a ∉ br ∧ off' = off ∧ Qc es ∧ ∃ wr cs, o a = some (.box wr cs) ∧ Jc o br B cs es := by simp [conv]
theorem adh (o : Nat → Option Ob) (br : List Nat) (B : Option (List Nat)) (off off' : Nat) (cs es : List V) : conv o br B (.ro cs off) (.ro es off') ↔ cs = es ∧ off' = off := by simp [conv]
theorem acQ (o : Nat → Option Ob) (br : List Nat) (B : Option (List Nat)) (cs es : List V) : conv o br B (.agg cs) (.agg es) ↔ Jc o br B cs es := by simp [conv]
theorem acK (o : Nat → Option Ob) (br : List Nat) (B : Option (List Nat)) (cs es : List V) : conv o br B (.tup cs) (.tup es) ↔ Jc o br B cs es := by simp [conv]
theorem acP (o : Nat → Option Ob) (br : List Nat) (B : Option (List Nat)) (f g : FK) (cs es : List V) : conv o br B (.clo f cs) (.clo g es) ↔ f = g ∧ Jc o br B cs es := by simp [conv]
theorem adi (o : Nat → Option Ob) (br : List Nat) (B : Option (List Nat)) : conv o br B .nn .nn ↔ True := by simp [conv]
theorem ab1 (o : Nat → Option Ob) (br : List Nat) (B : Option (List Nat)) : Jc o br B [] [] ↔ True := by simp [Jc]
theorem abf (o : Nat → Option Ob) (br : List Nat) (B : Option (List Nat)) (v e : V) (r r' : List V) : Jc o br B (v :: r) (e :: r') ↔ conv o br B v e ∧ Jc o br B r r' := by simp [Jc]
theorem aa0 (a : Nat) : okB none a ↔ True := by simp [okB]
theorem aaZ (l : List Nat) (a : Nat) : okB (some l) a ↔ a ∈ l := by simp [okB]
theorem wP {wr0 : Bool} {s0 s : Nat} {xs0 : List V} {p : List V → Prop} : (∃ wr xs, some (Ob.buf wr0 s0 xs0) = some (Ob.buf wr s xs) ∧ p xs) ↔ s0 = s ∧ p xs0 := by
  constructor
  · rintro ⟨wr, xs, h, hp⟩; cases h; exact ⟨rfl, hp⟩
  · rintro ⟨rfl, hp⟩; exact ⟨_, _, rfl, hp⟩
theorem wQ {wr0 : Bool} {cs0 : List V} {p : List V → Prop} : (∃ wr cs, some (Ob.box wr0 cs0) = some (Ob.box wr cs) ∧ p cs) ↔ p cs0 := by
  constructor
  · rintro ⟨wr, xs, h, hp⟩; cases h; exact hp
  · intro h; exact ⟨_, _, rfl, h⟩
theorem xu {wr0 : Bool} {s0 s : Nat} {xs0 : List V} {p : List V → Prop} : (∃ wr xs, Ob.buf wr0 s0 xs0 = Ob.buf wr s xs ∧ p xs) ↔ s0 = s ∧ p xs0 := by
  constructor
  · rintro ⟨wr, xs, h, hp⟩; cases h; exact ⟨rfl, hp⟩
  · rintro ⟨rfl, hp⟩; exact ⟨_, _, rfl, hp⟩
theorem xv {wr0 : Bool} {cs0 : List V} {p : List V → Prop} : (∃ wr cs, Ob.box wr0 cs0 = Ob.box wr cs ∧ p cs) ↔ p cs0 := by
  constructor
  · rintro ⟨wr, xs, h, hp⟩; cases h; exact hp
  · intro h; exact ⟨_, _, rfl, h⟩
end Av
end
section
namespace Av
open Go
theorem jY (l : List UInt8) : (⟨l.toArray⟩ : ByteArray).size = l.length := by simp [ByteArray.size]
theorem abJ (a b : List UInt8) : (⟨a.toArray⟩ : ByteArray) ++ ⟨b.toArray⟩ = ⟨(a ++ b).toArray⟩ := by
  apply ByteArray.ext
  simp
theorem Ue (l : List UInt8) : (⟨l.toArray⟩ : ByteArray).toList = l := by
  exact ByteArray.toList_mk l
theorem abI (l : List UInt8) (a b : Nat) : (⟨l.toArray⟩ : ByteArray).extract a b = ⟨((l.drop a).take (b - a)).toArray⟩ := by
  apply ByteArray.ext
  simp [List.extract_eq_take_drop]
theorem acg (a b : List UInt8) : KX .add ⟨a.toArray⟩ ⟨b.toArray⟩ = .asrt (a.length + b.length < 2 ^ 62) (.ret { v := V.str (a ++ b) }) := by
  simp only [KX, jY, abJ]
theorem acf (a b : List UInt8) : KX .eql ⟨a.toArray⟩ ⟨b.toArray⟩ = .ret { v := .bool (a == b) } := by
  simp only [KX, Ue]
theorem ab9 (a b : List UInt8) : KX .neq ⟨a.toArray⟩ ⟨b.toArray⟩ = .ret { v := .bool (!(a == b)) } := by
  simp only [KX, Ue]
theorem aca (a b : List UInt8) : KX .lss ⟨a.toArray⟩ ⟨b.toArray⟩ = .ret { v := .bool (Op.bytesLess a b) } := by
  simp only [KX, Ue]
theorem acb (a b : List UInt8) : KX .leq ⟨a.toArray⟩ ⟨b.toArray⟩ = .ret { v := .bool (Op.bytesLess a b || a == b) } := by
  simp only [KX, Ue]
theorem acd (a b : List UInt8) : KX .gtr ⟨a.toArray⟩ ⟨b.toArray⟩ = .ret { v := .bool (!(Op.bytesLess a b || a == b)) } := by
  simp only [KX, Ue]
theorem ace (a b : List UInt8) : KX .geq ⟨a.toArray⟩ ⟨b.toArray⟩ = .ret { v := .bool (!(Op.bytesLess a b)) } := by
  simp only [KX, Ue]
theorem va {l : List V} (h : ∀ v ∈ l, v.closed) : Qc l := by
  induction l with
  | nil => trivial
  | cons v l ih => exact ⟨h v (by simp), ih fun u hu => h u (by simp [hu])⟩
end Av
end
section
namespace Av
open Go
theorem yT {α : Type} {l : List α} {k : Nat} {y : α} {r : List α} (h : l.drop k = y :: r) : k < l.length ∧ l[k]? = some y ∧ l.drop (k + 1) = r := by
  have hk : k < l.length := by
    rcases Nat.lt_or_ge k l.length with h' | h'
    · exact h'
    · rw [List.drop_of_length_le h'] at h; cases h
  rw [List.drop_eq_getElem_cons hk] at h
  simp only [List.cons.injEq] at h
  exact ⟨hk, by rw [List.getElem?_eq_getElem hk, h.1], h.2⟩
theorem wc {α : Type} {l : List α} {k : Nat} (h : l.drop k = []) : l.length ≤ k := by simpa using h
theorem UW {k : Nat} (h : k < 2 ^ 62) : IntKind.i64.wrap ((k : Int) + 1) = ((k + 1 : Nat) : Int) := by
  rw [Wp (by omega) (by omega)]; omega
def U3 : List (Nat × V) → Nat → V → V
  | [], _, v => v
  | (j, u) :: r, k, v => if k = j then u else U3 r k v
def ovT (ts : List (Nat × V)) : List (Nat × V) → List (Nat × V)
  | [] => []
  | (k, v) :: r => (k, U3 ts k v) :: ovT ts r
def ltO (n : Nat) (o : Nat → Option Ob) : Prop := ∀ a x, o a = some x → a < n ∧ x.lt n
theorem vY {n : Nat} {o : Nat → Option Ob} {a : Nat} {x : Ob} (h1 : a < n) (h2 : x.lt n) (h : ltO n o) : ltO n (upd o a (some x)) := by
  intro b y hb
  by_cases e : b = a
  · subst e; rw [Qh] at hb; cases hb; exact ⟨h1, h2⟩
  · rw [QI _ _ e] at hb; exact h b y hb
theorem xT {n : Nat} : ltO n (fun _ => none) := by intro a x h; cases h
def ltT (n : Nat) (l : List (Nat × V)) : Prop := ∀ p ∈ l, p.2.lt n
theorem vX {n : Nat} : ltT n [] := by intro p hp; cases hp
theorem xS {n k : Nat} {v : V} {r : List (Nat × V)} (h1 : v.lt n) (h : ltT n r) : ltT n ((k, v) :: r) := by
  intro p hp
  rcases List.mem_cons.1 hp with rfl | hp
  · exact h1
  · exact h p hp
def eqT (t : Nat → V) (τ : Nat → Nat) (l : List (Nat × V)) : Prop := ∀ p ∈ l, t p.1 = p.2.ren τ
theorem V1 {t : Nat → V} {τ : Nat → Nat} : eqT t τ [] := by intro p hp; cases hp
theorem WU {t : Nat → V} {τ : Nat → Nat} {k : Nat} {v : V} {r : List (Nat × V)} : eqT t τ ((k, v) :: r) ↔ t k = v.ren τ ∧ eqT t τ r := by
  constructor
  · intro h; exact ⟨h (k, v) (by simp), fun p hp => h p (by simp [hp])⟩
  · rintro ⟨h1, h2⟩ p hp
    rcases List.mem_cons.1 hp with rfl | hp
    · exact h1
    · exact h2 p hp
def okN (n m : Nat) (rn : List (Nat × Nat)) : Prop := (∀ p ∈ rn, n ≤ p.2 ∧ m ≤ p.1) ∧ (rn.map (·.2)).Nodup
theorem Vo : ∀ (rn : List (Nat × Nat)) (a : Nat), (Yq rn a = a ∧ ∀ p ∈ rn, p.1 ≠ a) ∨ (a, Yq rn a) ∈ rn
  | [], a => .inl ⟨rfl, by simp⟩
  | (k, v) :: r, a => by
    simp only [Yq]
    split
    · rename_i h; subst h; exact .inr (by simp)
    · rename_i h
      rcases Vo r a with ⟨h1, h2⟩ | h'
      · refine .inl ⟨h1, fun p hp => ?_⟩
        rcases List.mem_cons.1 hp with rfl | hp
        · exact fun e => h e.symm
        · exact h2 p hp
      · exact .inr (by simp [h'])
theorem v6 {n m : Nat} {rn : List (Nat × Nat)} (h : okN n m rn) {a b : Nat} (ha : a < n) (hb : b < n) (e : Yq rn a = Yq rn b) : a = b := by
  rcases Vo rn a with ⟨h1, _⟩ | h1 <;> rcases Vo rn b with ⟨h2, _⟩ | h2
  · omega
  · have := (h.1 _ h2).1; simp only at this; omega
  · have := (h.1 _ h1).1; simp only at this; omega
  · have := Vj h.2 h1 h2 e
    simpa using congrArg Prod.fst this
theorem v7 {n m : Nat} {rn : List (Nat × Nat)} (h : okN n m rn) {k : Nat} (hk : k < m) : Yq rn k = k := by
  rcases Vo rn k with ⟨h1, _⟩ | h1
  · exact h1
  · have := (h.1 _ h1).2; simp only at this; omega
theorem vn (τ : Nat → Nat) (n : Nat) (x : Ob) (h : x.lt n) : (x.ren τ).weak τ n x := by
  induction x with
  | dead => trivial
  | typ T x ih => exact ⟨rfl, ih h⟩
  | box wr cs => exact ⟨fun h => h, rfl, h⟩
  | buf wr s xs => exact ⟨fun h => h, rfl, rfl⟩
  | obuf wr s xs => exact ⟨fun h => h, rfl, rfl, h⟩
theorem abs {m n : Nat} {s : St} {l : List (Nat × V)} {o : Nat → Option Ob} (rn : List (Nat × Nat)) (hn : okN n m rn) (hm : m ≤ n) (hl : ltT n l) (hlo : ltO n o)
    (ht : eqT s.t (Yq rn) l) (ho : ∀ a, a < n → s.o (Yq rn a) = (o a).map (Ob.ren (Yq rn))) : abp m (Yq rn) s { t := Vn l, o := o, n := n } := by
  refine ⟨fun i => ?_, fun a y h => ?_, fun a b ha hb e => ?_, fun k hk => v7 hn hk, hm⟩
  · rcases qG l i with h | h
    · exact .inl h
    · exact .inr ⟨ht _ h, hl _ h⟩
  · obtain ⟨h1, h2⟩ := hlo a y h
    refine ⟨h1, _, ?_, vn (Yq rn) n y h2⟩
    have := ho a h1
    simp only at h
    rw [h] at this
    exact this
  · obtain ⟨x, hx⟩ := Option.ne_none_iff_exists'.1 ha
    obtain ⟨y, hy⟩ := Option.ne_none_iff_exists'.1 hb
    exact v6 hn (hlo a x hx).1 (hlo b y hy).1 e
section
variable {C : Ctx} {nt : Nat} {K : St → Prop} {E : Nat → St → Prop} {R : St → Prop}
theorem acx : ∀ (k : Nat) (v : V), SizeOf.sizeOf v ≤ k → v.ren (fun a => a) = v := by
  intro k
  induction k with
  | zero => intro v h; cases v <;> simp at h
  | succ k ih =>
    intro v h
    have list : ∀ cs : List V, SizeOf.sizeOf cs ≤ k → VH (fun a => a) cs = cs := by
      intro cs
      induction cs with
      | nil => intro _; rfl
      | cons u r ihr => intro hs; simp at hs; simp only [VH]; rw [ih u (by omega), ihr (by omega)]
    cases v <;> simp only [V.ren] <;> simp at h
    all_goals (rw [list _ (by omega)])
theorem aaJ (v : V) : v.ren (fun a => a) = v := acx _ v (Nat.le_refl _)
theorem ac8 (cs : List V) : VH (fun a => a) cs = cs := by induction cs with
  | nil => rfl
  | cons v r ih => simp only [VH, aaJ, ih]
theorem ac7 (x : Ob) : x.ren (fun a => a) = x := by induction x <;> simp_all [Ob.ren, ac8]
theorem qH : Yq [] = fun a => a := by funext a; rfl
theorem y0 {ks : List Nat} {x : AC} {base : List (Nat × V)} {o0 : Nat → Option Ob} {n0 : Nat} {ι : Type} (good : ι → Prop) (ts : ι → List (Nat × V)) (msr : ι → Nat) (i0 : ι)
    (hm : C.m ≤ n0) (h0 : good i0) (hlo : ltO n0 o0) (hl : ∀ i, good i → ltT n0 (ovT (ts i) base)) (ht : eqT (Vn base) (fun a => a) (ovT (ts i0) base))
    (h : ∀ i, good i → ∀ K' : St → Prop, (∀ s' i', eqT s'.t (fun a => a) (ovT (ts i') base) → good i' → msr i' < msr i → (∀ a, a < n0 → s'.o a = o0 a) → K' s') →
      AWp C nt x { t := Vn (ovT (ts i) base), o := o0, n := n0 } K' E R) : AWp C nt (jj ks x) { t := Vn base, o := o0, n := n0 } K E R := by
  have hn : okN n0 C.m [] := ⟨by simp, by simp⟩
  have ren0 : ∀ oo : Nat → Option Ob, ∀ a, (oo a).map (Ob.ren (Yq [])) = oo a := by
    intro oo a
    rw [qH]
    cases oo a with
    | none => rfl
    | some x => simp [ac7]
  refine q9 good (fun i => { t := Vn (ovT (ts i) base), o := o0, n := n0 }) msr i0 h0 (Yq []) (abs [] hn hm (hl i0 h0) hlo (by rw [qH]; exact ht) (fun a _ => (ren0 o0 a).symm)) ?_
  intro i hi K' hK
  exact h i hi K' fun s' i' h1 h2 h3 h4 => hK s' i' (Yq []) h2 h3 (abs [] hn hm (hl i' h2) hlo (by rw [qH]; exact h1) (fun a ha => (h4 a ha).trans (ren0 o0 a).symm))
end
end Av
end
section
namespace Av
open Go
def awR (A W : Nat → Bool) (b : Nat) (s : St) (d : Option Nat) (J : St → Prop) (m : AM E) : Prop := m.wp (Jp A s.o) fun e => okW W b e.os ∧ J (s.eff d e)
def Jk (A W : Nat → Bool) (b : Nat) (s : St) (d : Option Nat) (J : St → Prop) (k : Ob → AM E) (x : Option Ob) : Prop :=
  match x with
  | some ob => awR A W b s d J (k ob)
  | none => False
def YK (Γ : Env) (A W : Nat → Bool) (b : Nat) (s : St) (x : AO) (J : St → Prop) : Prop := awG Γ A W b s x J
def Yy (Γ : Env) (fz : Nat → Bool) (b0 : Nat) (K : St → Prop) (t : OP) (s : St) : Prop := awP Γ fz b0 K t s
def qv (Γ : Env) (fz : Nat → Bool) (b0 : Nat) (K : St → Prop) (t : OP) (s : St) : Prop := aci Γ fz b0 K t s
def XP (Γ : Env) (A W : Nat → Bool) (b : Nat) (s : St) (x : AO) (g : Nat) (want : Bool) (v : V) (J : St → Prop) : Prop :=
  match v with
  | .sc (.bool q) => (q = want → YK Γ A W b (s.put (some g) (.bool want)) { d := x.d, op := x.op } J) ∧ (q = !want → J ((s.put (some g) (.bool !want)).put x.d V.und))
  | .tup [] => J (s.put x.d V.und)
  | _ => False
def Jj (Γ : Env) (A W : Nat → Bool) (b : Nat) (s : St) (d : Option Nat) (v : V) (acts : List V) (J : St → Prop) : Prop :=
  match v with
  | .clo f cap => Qr Γ A W b s d f.f (f.args acts cap) J
  | _ => False
section
variable {Γ : Env} {A W : Nat → Bool} {fz : Nat → Bool} {b b0 : Nat} {s : St} {d : Option Nat} {J K : St → Prop}
theorem vw : Yy Γ fz b0 K .done s ↔ K s := by simp only [Yy, awP]
theorem aaH {j : Nat} {X : Bool} {acl : List Nat} {x : AO} {t : OP} : Yy Γ fz b0 K (.one j X acl x t) s ↔ YK Γ (rA X acl fz b0) (rW X acl fz b0) (b0 + j * KK) s x (Yy Γ fz b0 K t) := by
  simp only [Yy, awP, YK]; exact Iff.rfl
theorem abN {j : Nat} {X : Bool} {acl : List Nat} {x : AO} {t r : OP} : Yy Γ fz b0 K (.or j X acl x t r) s ↔ YK Γ (rA X acl fz b0) (rW X acl fz b0) (b0 + j * KK) s x (Yy Γ fz b0 K t) ∧ qv Γ fz b0 K r s := by
  simp only [Yy, qv, awP, YK]; exact Iff.rfl
theorem aaI {j : Nat} {X : Bool} {acl : List Nat} {x : AO} {t r : OP} : qv Γ fz b0 K (.or j X acl x t r) s ↔ YK Γ (rA X acl fz b0) (rW X acl fz b0) (b0 + j * KK) s x (Yy Γ fz b0 K t) ∧ qv Γ fz b0 K r s := by
  simp only [Yy, qv, aci, YK]; exact Iff.rfl
theorem wt : qv Γ fz b0 K .done s ↔ True := by simp only [qv, aci]
theorem wv {x : Opd} {as : List Opd} : YK Γ A W b s ⟨d, .callv x as, none⟩ J ↔ Jj Γ A W b s d (s.ev x) (as.map s.ev) J := by
  simp only [YK, awG, aau, Jj]
  cases s.ev x <;> rfl
theorem acu {aop : AOp} {g : Nat} {want : Bool} : YK Γ A W b s ⟨d, aop, some (g, want)⟩ J ↔ XP Γ A W b s ⟨d, aop, none⟩ g want (s.t g) J := by
  simp only [YK, awG]
  constructor
  · rintro ⟨q, hq, h1, h2⟩
    unfold XP
    rcases q with _ | q
    · have hq : s.t g = .tup [] := hq
      rw [hq]
      exact h2 (by simp)
    · have hq : s.t g = .bool q := hq
      rw [hq]
      refine ⟨fun e => ?_, fun e => ?_⟩
      · rw [WS (by rw [hq, e])]; exact h1 (by rw [e])
      · rw [WS (by rw [hq, e])]
        exact h2 (by rw [e]; cases want <;> simp)
  · intro h
    unfold XP at h
    split at h
    · rename_i q hq
      refine ⟨some q, hq, fun e => ?_, fun e => ?_⟩
      · cases e
        have := h.1 rfl
        rw [WS hq] at this
        exact this
      · have e' : q = !want := by cases q <;> cases want <;> simp_all
        have := h.2 e'
        rw [WS (by rw [hq, e'])] at this
        exact this
    · rename_i hq
      exact ⟨none, hq, (fun e => by cases e), fun _ => h⟩
    · exact h.elim
theorem acU {a : Nat} {k : Ob → AM E} : awR A W b s d J (.rd a k) ↔ Jk A W b s d J k (Jp A s.o a) := by
  unfold Jk
  cases h : Jp A s.o a with
  | none => simp [awR, AM.wp, h]
  | some ob => simp [awR, AM.wp, h]
theorem Kq (A : Nat → Bool) (o : Nat → Option Ob) (a : Nat) : Jp A o a = if A a = true then o a else none := rfl
theorem abX : okW W b [] ↔ True := by simp [okW]
theorem aaY {q : Nat × Ob} {r : List (Nat × Ob)} : okW W b (q :: r) ↔ (W q.1 || (decide (b ≤ q.1) && decide (q.1 < b + KK))) = true ∧ okW W b r := by simp [okW]
theorem acW {f : FuncId} {acts : List V} {res : V} (hc : QP (Jp A s.o) none acts) (h : EvN Γ f (JW (Jp A s.o) acts) res) (hk : J { t := (s.put d res).t, o := s.o, n := s.n }) : Qr Γ A W b s d f acts J :=
  ab6 h.1 rfl hc h.2.1 h.2.2 hk
theorem acY {f : FuncId} {acts : List V} {res : V} (hc : QP (Jp A s.o) (some []) acts) (h : EvC Γ f (JW (Jp A s.o) acts) res) (hk : J { t := (s.put d res).t, o := s.o, n := s.n }) : Qr Γ A W b s d f acts J :=
  ab7 h.1 rfl hc h.2 hk
end
section
variable {C : Ctx} {nt : Nat} {s : St} {K : St → Prop} {E : Nat → St → Prop} {R : St → Prop}
theorem QZ {ks L : List Nat} {ot : OT} {p : OP} {ops : List AO} {ahead : List (List Nat)} {y : AC} (N : Nat) (fz : Nat → Bool) (hN : ops.length = N) (hc : okR ops ahead L ot = true) (hp : Yk (ris ops ahead L) ot = p)
    (h : ∀ K' : St → Prop, (∀ s', AWp C nt y s' K E R → K' s') → Yy C.env fz s.n (fun s' => K' ((s'.wn (s.n + N * KK)).keep ks)) p s) : AWp C nt (Qt ks (ww L ot p ops ahead) y) s K E R := by
  subst hN
  exact Qj (wg fz hc hp (h _ fun _ h => h))
theorem Q0 {L : List Nat} {ot : OT} {p : OP} {ops : List AO} {ahead : List (List Nat)} (N : Nat) (fz : Nat → Bool) (hN : ops.length = N) (hc : okR ops ahead L ot = true) (hp : Yk (ris ops ahead L) ot = p)
    (h : ∀ K' : St → Prop, (∀ s', K s' → K' s') → Yy C.env fz s.n (fun s' => K' (s'.wn (s.n + N * KK))) p s) : AWp C nt (ww L ot p ops ahead) s K E R := by
  subst hN
  exact wg fz hc hp (h _ fun _ h => h)
end
end Av
end
section
set_option linter.unusedVariables false
namespace Av
open Go
def ac5 (o : Nat → Option Ob) (off len : Nat) : Option Ob → V
  | some (.buf _ s xs) => .sl s ((xs.drop off).take len)
  | some (.obuf _ s xs) => .sl s (VG o ((xs.drop off).take len))
  | _ => .top
def hdC (o : Nat → Option Ob) (br : List Nat) (B : Option (List Nat)) (off len s : Nat) (ys : List V) : Option Ob → Prop
  | some (.buf _ s1 xs) => s1 = s ∧ ys = (xs.drop off).take len
  | some (.obuf _ s1 xs) => s1 = s ∧ Jc o br B ((xs.drop off).take len) ys ∧ ntL ys ∧ Qc ys
  | _ => False
theorem acO (o : Nat → Option Ob) (br : List Nat) (B : Option (List Nat)) (a off len s : Nat) (ys : List V) : conv o br B (.hd a off len) (.sl s ys) ↔ okB B a ∧ a ∉ br ∧ hdC o br B off len s ys (o a) := by
  rw [adj]; unfold hdC; constructor
  · rintro ⟨h1, h2, ⟨wr, xs, h3, h4⟩ | ⟨wr, xs, h3, h4⟩⟩ <;> rw [h3] <;> exact ⟨h1, h2, rfl, h4⟩
  · rintro ⟨h1, h2, h3⟩; split at h3
    · rename_i wr s1 xs e; obtain ⟨rfl, h4⟩ := h3; exact ⟨h1, h2, .inl ⟨wr, xs, e, h4⟩⟩
    · rename_i wr s1 xs e; obtain ⟨rfl, h4⟩ := h3; exact ⟨h1, h2, .inr ⟨wr, xs, e, h4⟩⟩
    · exact h3.elim
def abL (off : Nat) : Option Ob → V
  | some (.box _ cs) => .ro cs off
  | _ => .top
def awB (q want : Bool) (A B : Prop) : Prop := (q = want → A) ∧ (q = !want → B)
@[congr] theorem ac0 {q q2 want : Bool} {A B : Prop} (h : q = q2) : awB q want A B = awB q2 want A B := by rw [h]
@[go_sem ↓] theorem adD {A B : Prop} : awB true true A B = A := by simp [awB]
@[go_sem ↓] theorem adC {A B : Prop} : awB false true A B = B := by simp [awB]
@[go_sem ↓] theorem adB {A B : Prop} : awB true false A B = B := by simp [awB]
@[go_sem ↓] theorem adA {A B : Prop} : awB false false A B = A := by simp [awB]
theorem QV {q : Bool} {A B : Prop} (h1 : q = true → A) (h2 : q = false → B) : awB q true A B := ⟨h1, h2⟩
theorem QW {q : Bool} {A B : Prop} (h1 : q = false → A) (h2 : q = true → B) : awB q false A B := ⟨h1, h2⟩
section
variable {Γ : Env} {A W : Nat → Bool} {fz : Nat → Bool} {b b0 : Nat} {r : List AO} {s : St} {d : Option Nat} {J K : St → Prop} {o : Nat → Option Ob} {br : List Nat} {B : Option (List Nat)}
@[go_sem] theorem u1 : Yd Γ b [] s K = K { t := s.t, o := s.o, n := b } := propext Iff.rfl
@[go_sem] theorem u2 {x : AO} : Yd Γ b (x :: r) s K = (match x.g with | none => (match x.op with | .call f as => awC Γ b r s x.d f (as.map s.ev) K | .callv y as => XQ Γ b r s x.d (s.ev y) (as.map s.ev) K | op => awS Γ b r s x.d K (sem b s.ev op)) | some (g, want) => awQ Γ b r s ⟨x.d, x.op, none⟩ g want (s.t g) K) := by
  obtain ⟨d, op, g⟩ := x
  cases g with
  | some p => obtain ⟨g, want⟩ := p; exact propext acs
  | none =>
    cases op
    case callv y as => exact propext wu
    all_goals rfl
@[go_sem] theorem u3 {f : FuncId} {cap acts : List V} : XQ Γ b r s d (.clo (.n f) cap) acts K = awC Γ b r s d f (acts ++ cap) K := propext Iff.rfl
@[go_sem] theorem u4 {x : AO} {g : Nat} {want q : Bool} : awQ Γ b r s x g want (.sc (.bool q)) K = awB q want (Yd Γ b (⟨x.d, x.op, none⟩ :: r) (s.put (some g) (.bool want)) K) (Yd Γ (b + KK) r ((s.put (some g) (.bool !want)).put x.d V.und) K) := propext Iff.rfl
@[go_sem] theorem u5 {x : AO} {g : Nat} {want : Bool} : awQ Γ b r s x g want (.tup []) K = Yd Γ (b + KK) r (s.put x.d V.und) K := propext Iff.rfl
@[go_sem] theorem u6 {e : E} : awS Γ b r s d K (.ret e) = Yd Γ (b + KK) r (s.eff d e) K := propext Iff.rfl
@[go_sem] theorem u7 {p : Prop} {m : AM E} : awS Γ b r s d K (.asrt p m) = (p ∧ awS Γ b r s d K m) := propext Iff.rfl
@[go_sem] theorem u8 {a : Nat} {k : Ob → AM E} : awS Γ b r s d K (.rd a k) = XW Γ b r s d K k (s.o a) := propext acT
@[go_sem] theorem u9 {k : Bool → AM E} : awS Γ b r s d K (.any k) = ∀ t, awS Γ b r s d K (k t) := propext Iff.rfl
@[go_sem] theorem u10 : awS Γ b r s d K .no = False := propext Iff.rfl
@[go_sem] theorem u11 {k : Ob → AM E} {ob : Ob} : XW Γ b r s d K k (some ob) = awS Γ b r s d K (k ob) := propext Iff.rfl
@[go_sem] theorem u12 : Yy Γ fz b0 K .done s = K s := propext vw
@[go_sem] theorem u13 {j : Nat} {X : Bool} {acl : List Nat} {x : AO} {t r : OP} : Yy Γ fz b0 K (.or j X acl x t r) s = (YK Γ (rA X acl fz b0) (rW X acl fz b0) (b0 + j * KK) s x (Yy Γ fz b0 K t) ∧ qv Γ fz b0 K r s) := propext abN
@[go_sem] theorem u14 {j : Nat} {X : Bool} {acl : List Nat} {x : AO} {t r : OP} : qv Γ fz b0 K (.or j X acl x t r) s = (YK Γ (rA X acl fz b0) (rW X acl fz b0) (b0 + j * KK) s x (Yy Γ fz b0 K t) ∧ qv Γ fz b0 K r s) := propext aaI
@[go_sem] theorem u15 {j : Nat} {X : Bool} {acl : List Nat} {x : AO} {t : OP} : Yy Γ fz b0 K (.one j X acl x t) s = YK Γ (rA X acl fz b0) (rW X acl fz b0) (b0 + j * KK) s x (Yy Γ fz b0 K t) := propext aaH
@[go_sem] theorem u16 : qv Γ fz b0 K .done s = True := propext wt
@[go_sem] theorem u17 {x : AO} : YK Γ A W b s x J = (match x.g with | none => (match x.op with | .call f as => Qr Γ A W b s x.d f (as.map s.ev) J | .callv y as => Jj Γ A W b s x.d (s.ev y) (as.map s.ev) J | op => awR A W b s x.d J (sem b s.ev op)) | some (g, want) => XP Γ A W b s ⟨x.d, x.op, none⟩ g want (s.t g) J) := by
  obtain ⟨d, op, g⟩ := x
  cases g with
  | some p => obtain ⟨g, want⟩ := p; exact propext acu
  | none =>
    cases op
    case callv y as => exact propext wv
    all_goals rfl
@[go_sem] theorem u18 {f : FuncId} {cap acts : List V} : Jj Γ A W b s d (.clo (.n f) cap) acts J = Qr Γ A W b s d f (acts ++ cap) J := propext Iff.rfl
@[go_sem] theorem u19 {x : AO} {g : Nat} {want q : Bool} : XP Γ A W b s x g want (.sc (.bool q)) J = awB q want (YK Γ A W b (s.put (some g) (.bool want)) ⟨x.d, x.op, none⟩ J) (J ((s.put (some g) (.bool !want)).put x.d V.und)) := propext Iff.rfl
@[go_sem] theorem u20 {x : AO} {g : Nat} {want : Bool} : XP Γ A W b s x g want (.tup []) J = J (s.put x.d V.und) := propext Iff.rfl
@[go_sem] theorem u21 : awR A W b s d J .no = False := propext Iff.rfl
@[go_sem] theorem u22 {e : E} : awR A W b s d J (.ret e) = (okW W b e.os ∧ J (s.eff d e)) := propext Iff.rfl
@[go_sem] theorem u23 {p : Prop} {m : AM E} : awR A W b s d J (.asrt p m) = (p ∧ awR A W b s d J m) := propext Iff.rfl
@[go_sem] theorem u24 {a : Nat} {k : Ob → AM E} : awR A W b s d J (.rd a k) = Jk A W b s d J k (Jp A s.o a) := propext acU
@[go_sem] theorem u25 {k : Ob → AM E} {ob : Ob} : Jk A W b s d J k (some ob) = awR A W b s d J (k ob) := propext Iff.rfl
@[go_sem] theorem u26 {A : Nat → Bool} {o : Nat → Option Ob} {a : Nat} : Jp A o a = if A a = true then o a else none := rfl
@[go_sem] theorem u27 {W : Nat → Bool} {b : Nat} : okW W b [] = True := propext abX
@[go_sem] theorem u28 {W : Nat → Bool} {b : Nat} {q : Nat × Ob} {r : List (Nat × Ob)} : okW W b (q :: r) = ((W q.1 || (decide (b ≤ q.1) && decide (q.1 < b + KK))) = true ∧ okW W b r) := propext aaY
@[go_sem] theorem u29 {X : Bool} {acl : List Nat} {fz : Nat → Bool} {b0 a : Nat} : rA X acl fz b0 a = ((decide (a < b0) && (X || fz a)) || acl.any fun i => decide (b0 + i * KK ≤ a) && decide (a < b0 + i * KK + KK)) := rfl
@[go_sem] theorem u30 {X : Bool} {acl : List Nat} {fz : Nat → Bool} {b0 a : Nat} : rW X acl fz b0 a = (X && ((decide (a < b0) && !fz a) || acl.any fun i => decide (b0 + i * KK ≤ a) && decide (a < b0 + i * KK + KK))) := rfl
@[go_sem] theorem u31 {s : St} {n : Nat} : s.wn n = { t := s.t, o := s.o, n := n } := rfl
@[go_sem] theorem u32 {ks : List Nat} {s : St} : s.keep ks = { t := Vn (ks.map fun k => (k, s.t k)), o := s.o, n := s.n } := rfl
@[go_sem] theorem u33 {α : Type} {f : Nat → α} {a : Nat} {v : α} {i : Nat} : upd f a v i = if i = a then v else f i := rfl
@[go_sem] theorem u34 {k : Nat} {v : V} {r : List (Nat × V)} {i : Nat} : Vn ((k, v) :: r) i = if i = k then v else Vn r i := rfl
@[go_sem] theorem u35 {i : Nat} : Vn [] i = .top := rfl
@[go_sem] theorem u36 {k : Nat} {v : Ob} {r : List (Nat × Ob)} {i : Nat} : jk ((k, v) :: r) i = if i = k then some v else jk r i := rfl
@[go_sem] theorem u37 {i : Nat} : jk [] i = none := rfl
@[go_sem] theorem u38 {args : List V} {ins : List Ob} : Y9 args ins = { t := fun i => (args[i]?).getD .top, o := fun k => ins[k]?, n := ins.length } := rfl
@[go_sem] theorem u39 {ts : List (Nat × V)} {os : List (Nat × Ob)} {n : Nat} : wJ ts os n = { t := Vn ts, o := jk os, n := n } := rfl
@[go_sem] theorem u40 {α : Type} : ([] : List α).length = 0 := rfl
@[go_sem] theorem u41 {α : Type} {a : α} {l : List α} : (a :: l).length = l.length + 1 := rfl
@[go_sem] theorem u42 {α : Type} {a : α} {l : List α} : (a :: l)[0]? = some a := rfl
@[go_sem] theorem u43 {α : Type} {a : α} {l : List α} {i : Nat} : (a :: l)[i + 1]? = l[i]? := rfl
@[go_sem] theorem u44 {α : Type} {a b : α} : (some a).getD b = a := rfl
@[go_sem] theorem u45 {α : Type} {b : α} : (none : Option α).getD b = b := rfl
@[go_sem] theorem u46 {α β : Type} {f : α → β} : (none : Option α).map f = none := rfl
@[go_sem] theorem u47 {α β : Type} {f : α → β} {a : α} : (some a).map f = some (f a) := rfl
@[go_sem] theorem u48 {α β : Type} {f : α → β} : ([] : List α).map f = [] := rfl
@[go_sem] theorem u49 {α β : Type} {f : α → β} {a : α} {l : List α} : (a :: l).map f = f a :: l.map f := rfl
@[go_sem] theorem u50 {α : Type} {l : List α} : [] ++ l = l := rfl
@[go_sem] theorem u51 {α : Type} {a : α} {l r : List α} : (a :: l) ++ r = a :: (l ++ r) := rfl
@[go_sem] theorem u52 {α : Type} {l : List α} : l.take 0 = [] := rfl
@[go_sem] theorem u53 {α : Type} {a : α} {l : List α} {n : Nat} : (a :: l).take (n + 1) = a :: l.take n := rfl
@[go_sem] theorem u54 {α : Type} {l : List α} : l.drop 0 = l := rfl
@[go_sem] theorem u55 {α : Type} {a : α} {l : List α} {n : Nat} : (a :: l).drop (n + 1) = l.drop n := rfl
@[go_sem] theorem u56 {α : Type} {p : α → Bool} : ([] : List α).any p = false := rfl
@[go_sem] theorem u57 {α : Type} {p : α → Bool} {a : α} {l : List α} : (a :: l).any p = (p a || l.any p) := rfl
@[go_sem] theorem u58 {α β : Type} {f : β → α → β} {b : β} : ([] : List α).foldl f b = b := rfl
@[go_sem] theorem u59 {α β : Type} {f : β → α → β} {b : β} {a : α} {l : List α} : (a :: l).foldl f b = l.foldl f (f b a) := rfl
@[go_sem] theorem u60 {α : Type} {a : α} : List.replicate 0 a = [] := rfl
@[go_sem] theorem u61 {α : Type} {n : Nat} {a : α} : List.replicate (n + 1) a = a :: List.replicate n a := rfl
@[go_sem] theorem u62 {α : Type} {a b : α} {l : List α} : (a :: l).set 0 b = b :: l := rfl
@[go_sem] theorem u63 {α : Type} {a b : α} {l : List α} {n : Nat} : (a :: l).set (n + 1) b = a :: l.set n b := rfl
@[go_sem] theorem u64 {n : Nat} : n + 0 = n := rfl
@[go_sem] theorem u65 {n : Nat} : (n : Int).toNat = n := rfl
@[go_sem] theorem u66 {α : Type} {i : Nat} : ([] : List α)[i]? = none := by simp
@[go_sem] theorem u67 {α : Type} {l : List α} : l ++ [] = l := by simp
@[go_sem] theorem u68 {α : Type} {n : Nat} : ([] : List α).take n = [] := by simp
@[go_sem] theorem u69 {α : Type} {n : Nat} : ([] : List α).drop n = [] := by simp
@[go_sem] theorem u70 {n : Nat} : 0 + n = n := by simp
@[go_sem] theorem u71 {n : Nat} : (0 ≤ (n : Int)) = True := by simp
@[go_sem] theorem u72 {n : Nat} : (n ≤ n) = True := by simp
@[go_sem] theorem u73 {α : Type} {p : α → Prop} {a : α} {l : List α} : (∀ x ∈ a :: l, p x) = (p a ∧ ∀ x ∈ l, p x) := by simp
@[go_sem] theorem u74 {α : Type} {p : α → Prop} : (∀ x ∈ ([] : List α), p x) = True := by simp
@[go_sem] theorem u75 {α : Type} {a : α} : (a ∈ ([] : List α)) = False := by simp
@[go_sem] theorem u76 {p : Prop} : (True ∧ p) = p := by simp
@[go_sem] theorem u77 {p : Prop} : (p ∧ True) = p := by simp
@[go_sem] theorem u78 {p : Prop} : (False ∧ p) = False := by simp
@[go_sem] theorem u79 {p : Prop} : (True ∨ p) = True := by simp
@[go_sem] theorem u80 {p : Prop} : (p ∨ True) = True := by simp
@[go_sem] theorem u81 {p : Prop} : (False ∨ p) = p := by simp
@[go_sem] theorem u82 {p : Prop} : (p ∨ False) = p := by simp
@[go_sem] theorem u83 : (¬ True) = False := by simp
@[go_sem] theorem u84 : (¬ False) = True := by simp
@[go_sem] theorem u85 {p : Prop} : (False → p) = True := by simp
@[go_sem] theorem u86 {p : Prop} : (True → p) = p := by simp
@[go_sem] theorem u87 {α : Type} : (α → True) = True := by simp
@[go_sem] theorem u88 {p : Prop} : (p → True) = True := by simp
@[go_sem] theorem u89 : (false = true) = False := by simp
@[go_sem] theorem u90 : (true = false) = False := by simp
@[go_sem] theorem u91 {α : Type} {a b : α} : (some a = some b) = (a = b) := by simp
@[go_sem] theorem u92 {α : Type} {a : α} : (a = a) = True := by simp
@[go_sem] theorem u93 : decide True = true := by simp
@[go_sem] theorem u94 : decide False = false := by simp
@[go_sem] theorem u95 : (!true) = false := rfl
@[go_sem] theorem u96 : (!false) = true := rfl
@[go_sem] theorem u97 {b : Bool} : (true && b) = b := rfl
@[go_sem] theorem u98 {b : Bool} : (false && b) = false := rfl
@[go_sem] theorem u99 {b : Bool} : (true || b) = true := rfl
@[go_sem] theorem afd {b : Bool} : (false || b) = b := rfl
@[go_sem] theorem afc {α : Type} {a b : α} : (a ≠ b) = ¬ (a = b) := rfl
@[go_sem] theorem afb {b : Bool} : (b && true) = b := by simp
@[go_sem] theorem afa {b : Bool} : (b && false) = false := by simp
@[go_sem] theorem ae9 {b : Bool} : (b || true) = true := by simp
@[go_sem] theorem ae8 {b : Bool} : (b || false) = b := by simp
@[go_sem] theorem ae7 {v : V} : conv o br B v .top = True := propext (by apply acL)
@[go_sem] theorem ae6 {v u : Value} : conv o br B (.sc v) (.sc u) = (v = u) := propext (by apply adg)
@[go_sem] theorem ae5 {s : Nat} {ys : List V} : conv o br B (.sc (.slice none 0 0)) (.sl s ys) = (ys = []) := propext (by apply acN)
@[go_sem] theorem ae4 {s s' : Nat} {xs ys : List V} : conv o br B (.sl s xs) (.sl s' ys) = (s = s' ∧ xs = ys) := propext (by apply adf)
@[go_sem] theorem ae3 {a off len s : Nat} {ys : List V} : conv o br B (.hd a off len) (.sl s ys) = (okB B a ∧ a ∉ br ∧ hdC o br B off len s ys (o a)) := propext (by apply acO)
@[go_sem] theorem ae2 {a off off' : Nat} {es : List V} : conv o br B (.ptr a off) (.ro es off') = (okB B a ∧ a ∉ br ∧ off' = off ∧ Qc es ∧ ∃ wr cs, o a = some (.box wr cs) ∧ Jc o br B cs es) := propext (by apply acM)
@[go_sem] theorem ae1 {off off' : Nat} {cs es : List V} : conv o br B (.ro cs off) (.ro es off') = (cs = es ∧ off' = off) := propext (by apply adh)
@[go_sem] theorem ae0 {cs es : List V} : conv o br B (.agg cs) (.agg es) = Jc o br B cs es := propext (by apply acQ)
@[go_sem] theorem aeZ {cs es : List V} : conv o br B (.tup cs) (.tup es) = Jc o br B cs es := propext (by apply acK)
@[go_sem] theorem aeY {f g : FK} {cs es : List V} : conv o br B (.clo f cs) (.clo g es) = (f = g ∧ Jc o br B cs es) := propext (by apply acP)
@[go_sem] theorem aeX  : conv o br B .nn .nn = True := propext (by apply adi)
@[go_sem] theorem aeW : Jc o br B [] [] = True := propext (ab1 _ _ _)
@[go_sem] theorem aeV {v e : V} {r r' : List V} : Jc o br B (v :: r) (e :: r') = (conv o br B v e ∧ Jc o br B r r') := propext (abf _ _ _ _ _ _ _)
@[go_sem] theorem aeU {a : Nat} : okB none a = True := propext (aa0 _)
@[go_sem] theorem aeT {l : List Nat} {a : Nat} : okB (some l) a = (a ∈ l) := propext (aaZ _ _)
@[go_sem] theorem aeS {wr0 : Bool} {s0 s : Nat} {xs0 : List V} {p : List V → Prop} : (∃ wr xs, some (Ob.buf wr0 s0 xs0) = some (Ob.buf wr s xs) ∧ p xs) = (s0 = s ∧ p xs0) := propext wP
@[go_sem] theorem aeR {wr0 : Bool} {s0 s : Nat} {xs0 : List V} {p : List V → Prop} : (∃ wr xs, Ob.buf wr0 s0 xs0 = Ob.buf wr s xs ∧ p xs) = (s0 = s ∧ p xs0) := propext xu
@[go_sem] theorem aeQ {wr0 : Bool} {cs0 : List V} {p : List V → Prop} : (∃ wr cs, some (Ob.box wr0 cs0) = some (Ob.box wr cs) ∧ p cs) = p cs0 := propext wQ
@[go_sem] theorem aeP {wr0 : Bool} {cs0 : List V} {p : List V → Prop} : (∃ wr cs, Ob.box wr0 cs0 = Ob.box wr cs ∧ p cs) = p cs0 := propext xv
@[go_sem] theorem aeO {wr0 : Bool} {s0 : Nat} {xs0 : List V} : (∃ wr s xs, some (Ob.buf wr0 s0 xs0) = some (Ob.buf wr s xs)) = True := eq_true ⟨wr0, s0, xs0, rfl⟩
@[go_sem] theorem aeN {wr0 : Bool} {s0 : Nat} {xs0 : List V} : (∃ wr s xs, Ob.buf wr0 s0 xs0 = Ob.buf wr s xs) = True := eq_true ⟨wr0, s0, xs0, rfl⟩
@[go_sem] theorem aeM {k : IntKind} {a b : Int} : (Value.int k a = Value.int k b) = (a = b) := by simp
@[go_sem] theorem aeL {a b : Bool} : (Value.bool a = Value.bool b) = (a = b) := by simp
@[go_sem] theorem aeK {l : List UInt8} : (⟨l.toArray⟩ : ByteArray).size = l.length := jY l
@[go_sem] theorem aeJ {l : List UInt8} : l.toArray.toList = l := by simp
@[go_sem] theorem aeI {l : List UInt8} {a b : Nat} : (⟨l.toArray⟩ : ByteArray).extract a b = ⟨((l.drop a).take (b - a)).toArray⟩ := abI l a b
@[go_sem] theorem aeH {a b : List UInt8} : KX .add ⟨a.toArray⟩ ⟨b.toArray⟩ = .asrt (a.length + b.length < 2 ^ 62) (.ret { v := V.str (a ++ b) }) := acg a b
@[go_sem] theorem aeG {a b : List UInt8} : KX .eql ⟨a.toArray⟩ ⟨b.toArray⟩ = .ret { v := .bool (a == b) } := acf a b
@[go_sem] theorem aeF {a b : List UInt8} : KX .neq ⟨a.toArray⟩ ⟨b.toArray⟩ = .ret { v := .bool (!(a == b)) } := ab9 a b
@[go_sem] theorem aeE {a b : List UInt8} : KX .lss ⟨a.toArray⟩ ⟨b.toArray⟩ = .ret { v := .bool (Op.bytesLess a b) } := aca a b
@[go_sem] theorem aeD {a b : List UInt8} : KX .leq ⟨a.toArray⟩ ⟨b.toArray⟩ = .ret { v := .bool (Op.bytesLess a b || a == b) } := acb a b
@[go_sem] theorem aeC {a b : List UInt8} : KX .gtr ⟨a.toArray⟩ ⟨b.toArray⟩ = .ret { v := .bool (!(Op.bytesLess a b || a == b)) } := acd a b
@[go_sem] theorem aeB {a b : List UInt8} : KX .geq ⟨a.toArray⟩ ⟨b.toArray⟩ = .ret { v := .bool (!(Op.bytesLess a b)) } := ace a b
@[go_sem] theorem aeA {a b : List UInt8} : (Value.string ⟨a.toArray⟩ = Value.string ⟨b.toArray⟩) = (a = b) := by simp
@[go_sem] theorem aez {v : Value} : V.shut o (.sc v) = .sc v := by simp only [V.shut]
@[go_sem] theorem aey  : V.shut o .nn = .nn := by simp only [V.shut]
@[go_sem] theorem aex  : V.shut o .top = .top := by simp only [V.shut]
@[go_sem] theorem aew {k : Nat} {xs : List V} : V.shut o (.sl k xs) = .sl k xs := by simp only [V.shut]
@[go_sem] theorem aev {cs : List V} {k : Nat} : V.shut o (.ro cs k) = .ro cs k := by simp only [V.shut]
@[go_sem] theorem aeu {cs : List V} : V.shut o (.agg cs) = .agg (JW o cs) := by simp only [V.shut]
@[go_sem] theorem aet {cs : List V} : V.shut o (.tup cs) = .tup (JW o cs) := by simp only [V.shut]
@[go_sem] theorem aes {f : FK} {cs : List V} : V.shut o (.clo f cs) = .clo f (JW o cs) := by simp only [V.shut]
@[go_sem] theorem aer {a off len : Nat} : V.shut o (.hd a off len) = ac5 o off len (o a) := by simp only [V.shut, ac5] <;> rfl
@[go_sem] theorem aeq {a off : Nat} : V.shut o (.ptr a off) = abL off (o a) := by simp only [V.shut, abL] <;> rfl
@[go_sem] theorem aep {off len s : Nat} {wr : Bool} {xs : List V} : ac5 o off len (some (.buf wr s xs)) = .sl s ((xs.drop off).take len) := rfl
@[go_sem] theorem aeo {off : Nat} {wr : Bool} {cs : List V} : abL off (some (.box wr cs)) = .ro cs off := rfl
@[go_sem] theorem aen : JW o [] = [] := by simp only [JW]
@[go_sem] theorem aem {v : V} {cs : List V} : JW o (v :: cs) = v.shut o :: JW o cs := by simp only [JW]
@[go_sem] theorem ael {v : Value} : V.shutOk o B (.sc v) = True := by simp only [V.shutOk]
@[go_sem] theorem aek  : V.shutOk o B .nn = True := by simp only [V.shutOk]
@[go_sem] theorem aej  : V.shutOk o B .top = True := by simp only [V.shutOk]
@[go_sem] theorem aei {k : Nat} {xs : List V} : V.shutOk o B (.sl k xs) = True := by simp only [V.shutOk]
@[go_sem] theorem aeh {cs : List V} {k : Nat} : V.shutOk o B (.ro cs k) = True := by simp only [V.shutOk]
@[go_sem] theorem aeg {a off len : Nat} : V.shutOk o B (.hd a off len) = (okB B a ∧ acm o B off len (o a)) := by simp only [V.shutOk]
@[go_sem] theorem aef {a off : Nat} : V.shutOk o B (.ptr a off) = (okB B a ∧ ∃ wr cs, o a = some (.box wr cs) ∧ Qc cs) := by simp only [V.shutOk]
@[go_sem] theorem aee {cs : List V} : V.shutOk o B (.agg cs) = QP o B cs := by simp only [V.shutOk]
@[go_sem] theorem aed {cs : List V} : V.shutOk o B (.tup cs) = QP o B cs := by simp only [V.shutOk]
@[go_sem] theorem aec {f : FK} {cs : List V} : V.shutOk o B (.clo f cs) = QP o B cs := by simp only [V.shutOk]
@[go_sem] theorem aeb : QP o B [] = True := by simp only [QP]
@[go_sem] theorem aea {v : V} {cs : List V} : QP o B (v :: cs) = (v.shutOk o B ∧ QP o B cs) := by simp only [QP]
@[go_sem] theorem ad9 {v : Value} : V.closed (.sc v) = True := by simp only [V.closed]
@[go_sem] theorem ad8  : V.closed .nn = True := by simp only [V.closed]
@[go_sem] theorem ad7  : V.closed .top = True := by simp only [V.closed]
@[go_sem] theorem ad6 {k : Nat} {xs : List V} : V.closed (.sl k xs) = True := by simp only [V.closed]
@[go_sem] theorem ad5 {cs : List V} {k : Nat} : V.closed (.ro cs k) = True := by simp only [V.closed]
@[go_sem] theorem ad4 {cs : List V} : V.closed (.agg cs) = Qc cs := by simp only [V.closed]
@[go_sem] theorem ad3 {cs : List V} : V.closed (.tup cs) = Qc cs := by simp only [V.closed]
@[go_sem] theorem ad2 {f : FK} {cs : List V} : V.closed (.clo f cs) = Qc cs := by simp only [V.closed]
@[go_sem] theorem ad1 : Qc [] = True := by simp only [Qc]
@[go_sem] theorem ad0 {v : V} {cs : List V} : Qc (v :: cs) = (v.closed ∧ Qc cs) := by simp only [Qc]
@[go_sem] theorem adZ {v : Value} : V.cells (.sc v) = [.sc v] := by simp only [V.cells]
@[go_sem] theorem adY {k : Nat} {xs : List V} : V.cells (.sl k xs) = [.sl k xs] := by simp only [V.cells]
@[go_sem] theorem adX {a off len : Nat} : V.cells (.hd a off len) = [.hd a off len] := by simp only [V.cells]
@[go_sem] theorem adW {a off : Nat} : V.cells (.ptr a off) = [.ptr a off] := by simp only [V.cells]
@[go_sem] theorem adV {cs : List V} {k : Nat} : V.cells (.ro cs k) = [.ro cs k] := by simp only [V.cells]
@[go_sem] theorem adU {cs : List V} : V.cells (.agg cs) = cs := by simp only [V.cells]
@[go_sem] theorem adT {f : FK} {cs : List V} : V.cells (.clo f cs) = [.clo f cs] := by simp only [V.cells]
@[go_sem] theorem adS  : V.cells .nn = [.nn] := by simp only [V.cells]
@[go_sem] theorem adR : Yf [] [] [] = some true := by simp only [Yf]
@[go_sem] theorem adQ {ks : List Nat} {k k' : IntKind} {a b : Int} {xs ys : List V} : Yf (0 :: ks) (.sc (.int k a) :: xs) (.sc (.int k' b) :: ys) = if k = k' then (Yf ks xs ys).map ((a == b) && ·) else none := by simp only [Yf]
@[go_sem] theorem adP {ks : List Nat} {a b : List UInt8} {xs ys : List V} : Yf (1 :: ks) (.sc (.string ⟨a.toArray⟩) :: xs) (.sc (.string ⟨b.toArray⟩) :: ys) = (Yf ks xs ys).map ((a == b) && ·) := by simp only [Yf]; congr; funext t; congr 1; rw [Bool.eq_iff_iff]; simp; show (a.toArray == b.toArray) = true ↔ a = b; simp
@[go_sem] theorem adO {ks : List Nat} {a b : Bool} {xs ys : List V} : Yf (2 :: ks) (.sc (.bool a) :: xs) (.sc (.bool b) :: ys) = (Yf ks xs ys).map ((a == b) && ·) := by simp only [Yf]
@[go_sem] theorem adN {l : List UInt8} : (l == l) = true := by simp
@[go_sem] theorem adM {n : Int} : (n == n) = true := by simp
@[go_sem] theorem adL {k : IntKind} : (k == k) = true := by cases k <;> rfl
@[go_sem] theorem adK {f : FuncId} {cap acts : List V} : XQ Γ b r s d (.clo (.m f) cap) acts K = awC Γ b r s d f (cap ++ acts) K := propext Iff.rfl
@[go_sem] theorem adJ {f : FuncId} {cap acts : List V} : Jj Γ A W b s d (.clo (.m f) cap) acts J = Qr Γ A W b s d f (cap ++ acts) J := propext Iff.rfl
@[go_sem] theorem adI {off len s : Nat} {ys : List V} {wr : Bool} {s1 : Nat} {xs : List V} : hdC o br B off len s ys (some (.buf wr s1 xs)) = (s1 = s ∧ ys = (xs.drop off).take len) := rfl
@[go_sem] theorem adH {off len s : Nat} {ys : List V} {wr : Bool} {s1 : Nat} {xs : List V} : hdC o br B off len s ys (some (.obuf wr s1 xs)) = (s1 = s ∧ Jc o br B ((xs.drop off).take len) ys ∧ ntL ys ∧ Qc ys) := rfl
@[go_sem] theorem adG {off len s : Nat} {wr : Bool} {xs : List V} : ac5 o off len (some (.obuf wr s xs)) = .sl s (VG o ((xs.drop off).take len)) := rfl
@[go_sem] theorem adF {off len s : Nat} {wr : Bool} {xs : List V} : acm o B off len (some (.buf wr s xs)) = True := rfl
@[go_sem] theorem adE {off len s : Nat} {wr : Bool} {xs : List V} : acm o B off len (some (.obuf wr s xs)) = (WQ o B ((xs.drop off).take len) ∧ ntL (VG o ((xs.drop off).take len))) := rfl
end
attribute [go_sem] KK sem AM.int AM.str AM.slice AM.sliceK ab8 AM.cellsAt acp St.eff St.put St.ev Uh V.ofV ZC.v VF ack splice yb V.mk V2 V.small Wy aac Ug yE Int.cast_ofNat_Int V.und
end Av
end
section
namespace Av
open Go
theorem xq {α : Type} {p : α → Prop} {a : α} {l : List α} : (∀ x ∈ a :: l, p x) ↔ (p a ∧ ∀ x ∈ l, p x) := by simp
theorem wN {α : Type} {p : α → Prop} : (∀ x ∈ ([] : List α), p x) ↔ True := by simp
theorem zsd {p : Prop} (h : p := by first | assumption | omega | (simp; done)) : p := h
theorem zlo {p : Prop} (h : p := by simp only [List.length_append, List.length_cons, List.length_nil, List.length_map, Nat.reducePow, Nat.reduceAdd]; omega) : p := h
theorem zms {α : Type} {a : α} : a ∈ [a] := List.mem_singleton_self _
theorem znf {p : Prop} (h : p := by first | (exfalso; simp only [List.length_map] at hc; omega) | (exfalso; omega)) : p := h
theorem znz : (∀ {p : Prop} [Decidable p], (decide p = true) = p) ∧ (∀ {p : Prop} [Decidable p], (decide p = false) = ¬ p) ∧ (∀ {α : Type} [BEq α] [LawfulBEq α] {a b : α}, ((a == b) = true) = (a = b)) ∧
    (∀ {α : Type} [BEq α] [LawfulBEq α] {a b : α}, ((a == b) = false) = ¬ (a = b)) ∧ (∀ {α : Type} {a b : α}, (a ≠ b) = ¬ (a = b)) ∧ (∀ {b : Bool}, ((!b) = true) = (b = false)) ∧ (∀ {b : Bool}, ((!b) = false) = (b = true)) :=
  ⟨propext decide_eq_true_iff, propext decide_eq_false_iff_not, propext beq_iff_eq, propext beq_eq_false_iff_ne, rfl, Bool.not_eq_true' _, Bool.not_eq_false' _⟩
structure EvB (Γ : Env) (f : FuncId) (args : List V) (res : V) (B : Option (List Nat)) : Prop where
  ev : Ev Γ f args [] res []
  cl : res.closed
  sh : (B = none ∧ res.noSl) ∨ B = some []
theorem EvN.b {Γ : Env} {f : FuncId} {args : List V} {res : V} (h : EvN Γ f args res) : EvB Γ f args res none := ⟨h.1, h.2.1, .inl ⟨rfl, h.2.2⟩⟩
theorem EvC.b {Γ : Env} {f : FuncId} {args : List V} {res : V} (h : EvC Γ f args res) : EvB Γ f args res (some []) := ⟨h.1, h.2, .inr rfl⟩
section
variable {Γ : Env} {A W : Nat → Bool} {b : Nat} {r : List AO} {s : St} {d : Option Nat} {f : FuncId} {acts : List V} {res : V} {J K : St → Prop} {B : Option (List Nat)}
theorem adq (h : EvB Γ f (JW s.o acts) res B) (hc : QP s.o B acts) (hk : Yd Γ (b + KK) r { t := (s.put d res).t, o := s.o, n := s.n } K) : awC Γ b r s d f acts K := by
  obtain ⟨h1, h2, ⟨rfl, h3⟩ | rfl⟩ := h
  · exact adn hc ⟨h1, h2, h3⟩ hk
  · exact adp hc ⟨h1, h2⟩ hk
theorem acZ (h : EvB Γ f (JW (Jp A s.o) acts) res B) (hc : QP (Jp A s.o) B acts) (hk : J { t := (s.put d res).t, o := s.o, n := s.n }) : Qr Γ A W b s d f acts J := by
  obtain ⟨h1, h2, ⟨rfl, h3⟩ | rfl⟩ := h
  · exact acW hc ⟨h1, h2, h3⟩ hk
  · exact acY hc ⟨h1, h2⟩ hk
def acq (Γ : Env) (b : Nat) (r : List AO) (s : St) (d : Option Nat) (f : FuncId) (acts args : List V) (okf : Option (List Nat) → Prop) (K : St → Prop) : Prop :=
  args = JW s.o acts → okf = (fun B => QP s.o B acts) → awC Γ b r s d f acts K
def vj (Γ : Env) (A W : Nat → Bool) (b : Nat) (s : St) (d : Option Nat) (f : FuncId) (acts args : List V) (okf : Option (List Nat) → Prop) (J : St → Prop) : Prop :=
  args = JW (Jp A s.o) acts → okf = (fun B => QP (Jp A s.o) B acts) → Qr Γ A W b s d f acts J
@[go_sem] theorem adz : awC Γ b r s d f acts K = acq Γ b r s d f acts (JW s.o acts) (fun B => QP s.o B acts) K := propext ⟨fun h _ _ => h, fun h => h rfl rfl⟩
@[go_sem] theorem adt : Qr Γ A W b s d f acts J = vj Γ A W b s d f acts (JW (Jp A s.o) acts) (fun B => QP (Jp A s.o) B acts) J := propext ⟨fun h _ _ => h, fun h => h rfl rfl⟩
theorem QY {args : List V} {okf : Option (List Nat) → Prop} (h : EvB Γ f args res B) (hc : okf B) (hk : Yd Γ (b + KK) r { t := (s.put d res).t, o := s.o, n := s.n } K) : acq Γ b r s d f acts args okf K := by
  rintro rfl rfl; exact adq h hc hk
theorem Yg {args : List V} {okf : Option (List Nat) → Prop} (h : EvB Γ f args res B) (hc : okf B) (hk : J { t := (s.put d res).t, o := s.o, n := s.n }) : vj Γ A W b s d f acts args okf J := by
  rintro rfl rfl; exact acZ h hc hk
end
mutual
theorem xD (o : Nat → Option Ob) : ∀ v : V, v.closed → v.shut o = v
  | .top, _ => by simp only [V.shut]
  | .sc _, _ => by simp only [V.shut]
  | .nn, _ => by simp only [V.shut]
  | .sl _ _, _ => by simp only [V.shut]
  | .hd _ _ _, h => h.elim
  | .ptr _ _, h => h.elim
  | .ept _ _ _, h => h.elim
  | .ro _ _, _ => by simp only [V.shut]
  | .agg cs, h => by simp only [V.shut]; rw [WW o cs h]
  | .tup cs, h => by simp only [V.shut]; rw [WW o cs h]
  | .clo _ cs, h => by simp only [V.shut]; rw [WW o cs h]
theorem WW (o : Nat → Option Ob) : ∀ cs : List V, Qc cs → JW o cs = cs
  | [], _ => by simp only [JW]
  | v :: r, h => by simp only [JW]; rw [xD o v h.1, WW o r h.2]
end
mutual
theorem yh (o : Nat → Option Ob) (B : Option (List Nat)) : ∀ v : V, v.closed → v.shutOk o B
  | .top, _ => by simp only [V.shutOk]
  | .sc _, _ => by simp only [V.shutOk]
  | .nn, _ => by simp only [V.shutOk]
  | .sl _ _, _ => by simp only [V.shutOk]
  | .hd _ _ _, h => h.elim
  | .ptr _ _, h => h.elim
  | .ept _ _ _, h => h.elim
  | .ro _ _, _ => by simp only [V.shutOk]
  | .agg cs, h => by simp only [V.shutOk]; exact X7 o B cs h
  | .tup cs, h => by simp only [V.shutOk]; exact X7 o B cs h
  | .clo _ cs, h => by simp only [V.shutOk]; exact X7 o B cs h
theorem X7 (o : Nat → Option Ob) (B : Option (List Nat)) : ∀ cs : List V, Qc cs → QP o B cs
  | [], _ => by simp only [QP]
  | v :: r, h => by simp only [QP]; exact ⟨yh o B v h.1, X7 o B r h.2⟩
end
@[go_sem] def mv (d x : Nat) : AO := ⟨some d, .mov (.t x), none⟩
@[go_sem] def mc (d : Nat) (v : V) : AO := ⟨some d, .mov (.c v), none⟩
@[go_sem] def mg (d x g : Nat) (q : Bool) : AO := ⟨some d, .mov (.t x), some (g, q)⟩
@[go_sem] def ld (d s x : Nat) : AO := ⟨some d, .load false s (.t x), none⟩
@[go_sem] def ia (d s x i : Nat) : AO := ⟨some d, .iaddr s (.t x) (.t i), none⟩
@[go_sem] def fa (d o x : Nat) : AO := ⟨some d, .faddr o (.t x), none⟩
@[go_sem] def nk (d x : Nat) : AO := ⟨some d, .nilck (.t x), none⟩
@[go_sem] def ex (d x i : Nat) : AO := ⟨some d, .ext (.t x) i, none⟩
@[go_sem] def ln (d x : Nat) : AO := ⟨some d, .lenL (.t x), none⟩
@[go_sem] def bn (d : Nat) (op : BinOp) (x y : Nat) : AO := ⟨some d, .bin op (.t x) (.t y), none⟩
@[go_sem] def bc (d : Nat) (op : BinOp) (x : Nat) (v : V) : AO := ⟨some d, .bin op (.t x) (.c v), none⟩
@[go_sem] def cl (d f : Nat) (ts : List Nat) : AO := ⟨some d, .call f (ts.map .t), none⟩
@[go_sem] def xo (d : Nat) (op : AOp) : AO := ⟨some d, op, none⟩
@[go_sem] def xg (d : Nat) (op : AOp) (g : Nat) (q : Bool) : AO := ⟨some d, op, some (g, q)⟩
@[go_sem] def xs (s a x : Nat) : AO := ⟨none, .store s (.t a) (.t x), none⟩
attribute [go_sem] xq wN V.ren VH Yq V.lt ltL Ob.weak KK
end Av
end
section
namespace Av
open Go Go.RowKit
def JO (P : Program) (W : World) : Env := ⟨P, fun b => W.heap[b]?⟩
def acB (W : World) (b _i : Nat) : Prop := b < W.heap.size
theorem xF {P : Program} (mix : P.follows .mixedOrders = true) {f : FuncId} (own : Own P f) {W : World} {args : List V} {cargs : Array Value} {b : Bool}
    (h : EvN (JO P W) f args (V.bool b)) (hsz : cargs.size = args.length) (hrep : ∀ i (h : i < args.length) (h' : i < cargs.size), Rep W (acB W) noμ cargs[i] args[i]) :
    Calls P f cargs W fun e W' => e = .returned (.bool b) ∧ Below W.heap.size W W' := by
  let C : Ctx := { P := P, w0 := W, Z0 := acB W, F := fun _ => False, m := 0, μ0 := noμ, kn := fun b => W.heap[b]?, mix := mix, hkn := fun b x h => ⟨h, fun h => h⟩ }
  have hg : Good C W (acB W) noμ (fun k => ([] : List Ob)[k]?) := by
    refine ⟨fun a x h => by simp at h, fun a b x y c d _ h => by simp at h, fun b i h => h, Nat.le_refl _, fun _ _ _ => rfl, fun b i h => .inl h, fun b i h => h, fun _ _ _ => rfl, fun k hk => (by cases hk), V7.refl _⟩
  have := h.1 C cargs rfl rfl (fun k _ => rfl) hg (fun b hb => hb.elim) hsz hrep
  rw [show (JO P W).P = P from rfl, show C.w0 = W from rfl, YG own] at this
  refine Calls.mono this ?_
  rintro e w' ⟨v, Z', μ', rfl, hr, hgd, _⟩
  refine ⟨by rw [hr.scE.1], ⟨hgd.oo.1, hgd.oo.2.1, hgd.oo.2.2, hgd.grow, fun k hk => hgd.frame k hk (fun h => h)⟩⟩
theorem YO {H : Type} {enc : TypeId × Value → H} {a : Assume} {C : Checked} {os : Os} {f : FuncId} {fn : Func} {s : ChangeSpec} {conds : List PathCond} {apart fresh handsOn again : Bool} {X : World → Array Value → Prop}
    (hX : ∀ (w w' : World) (args : Array Value), w.heap = w'.heap → X w args → X w' args)
    (own : ownKnob C.prog.godebug = none) (started : os.Started) (noInit : C.prog.inits.idxOf? f = none) (hfn : C.prog.funcs[f]? = some fn)
    (witness : ∃ (w : World) (tape : Tape) (i : Input), w.os = os ∧ (w.forCall tape i).Shaped C.prog ∧ i.vars = [] ∧ Input.okWide C.prog (w.forCall tape i) .any w.heap.size f i ∧
      ((s.pre enc C.prog fn conds apart (w.forCall tape i).memory i.args ∧ X (w.forCall tape i).memory i.args) ∧ sizedMet enc C.prog fn (OpenSpec.ofChange s) apart (w.forCall tape i).memory i.args) ∧ a.holds C.prog (lone (Frame.enter C.prog f i.args .normal) [] (w.forCall tape i)))
    (contract : ∀ (W : World) (base : Nat) (args : Array Value) (ds gs : List (DataW H)) (before : List MemPlace),
      (∀ (j : Nat) t v, fn.params[j]? = some t → args[j]? = some v → Value.okWide C.prog W .any base t v) →
      DataW.Whole enc C.prog fn.params.toList s.vars apart W args.toList ds gs before →
      (DataW.weightsEach C.prog (fn.params.toList ++ s.plain.varTypes C.prog) (ds ++ gs)).all (· ≤ reachBytes) = true → X W args → W.ShapedOpen C.prog →
      Calls C.prog f args W fun e W' => ∃ v, e = .returned v ∧ s.post enc C.prog fn apart fresh handsOn again W args v W') :
    ReturnsInHanded a C os f .any (fun w args => (s.pre enc C.prog fn conds apart w args ∧ X w args) ∧ sizedMet enc C.prog fn (OpenSpec.ofChange s) apart w args) (s.post enc C.prog fn apart fresh handsOn again) := by
  refine returnsInHanded_of_calls own started noInit witness ?_
  intro w tape i _ hsh _ hok hpre hholds
  obtain ⟨_, _, _, fn', hfn', _, _, _, _, hval⟩ := hok
  have e : fn' = fn := Option.some.inj (hfn'.symm.trans hfn)
  subst e
  obtain ⟨⟨⟨ds, gs, before, hw, hc⟩, hx⟩, hz⟩ := hpre
  have hw' := DataW.Whole.of_heap (w' := w.forCall tape i) (by rfl) hw
  refine (contract (w.forCall tape i) w.heap.size i.args ds gs before hval hw' (hz.weights hw) (hX _ _ _ (by rfl) hx) hsh).mono fun e W' ⟨v, he, hp⟩ => ?_
  subst he
  exact ChangeSpec.post_blind hp
end Av
end
