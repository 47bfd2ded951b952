/- Contracts of library functions that answer scalars and leave the heap as it is. -/
import Derived.Test.YtmclfdgmbfdacaaDoorAv2
import Derived.Laws.Strings
import Derived.Below
import Derived.Handed
set_option linter.unusedVariables false
set_option linter.unusedSimpArgs false
section
namespace Av
open Go

theorem ev_lib {Γ : Env} {f : FuncId} {cv : List Value} {res : Value} {rv : V} (hr : ∀ w Z μ, Rep w Z μ res rv)
    (h : ∀ w, (∀ b x, Γ.kn b = some x → w.heap[b]? = some x) → CallsF Γ.P f cv.toArray w fun e w' => e = .returned res ∧ w.heap.size ≤ w'.heap.size ∧ (∀ b, b < w.heap.size → w'.heap[b]? = w.heap[b]?) ∧ SameO w w') : Ev Γ f (cv.map .sc) [] rv [] := by
  intro C cargs hP hm hmu hg hF hsz hrep
  subst hP
  have hargs : cargs = cv.toArray := by
    apply Array.ext
    · simpa using hsz
    · intro i h1 h2
      have := hrep i (by simpa using h2) h1
      simp only [List.getElem_map] at this
      simpa using this.scE.1
  subst hargs
  have hk : ∀ b x, C.env.kn b = some x → C.w0.heap[b]? = some x := fun b x h => (C.hkn b x h).1
  have mono : ∀ (e : Ending) (w' : World), (e = .returned res ∧ C.w0.heap.size ≤ w'.heap.size ∧ (∀ b, b < C.w0.heap.size → w'.heap[b]? = C.w0.heap[b]?) ∧ SameO C.w0 w') → ∃ v Z' μ', e = .returned v ∧ Rep w' Z' μ' v rv ∧ Good C w' Z' μ' (fun k => ([] : List Ob)[k]?) ∧ ∀ k, ([] : List Ob).length ≤ k → μ' k = none := by
    rintro e w' ⟨rfl, hsz, hw, hoo⟩
    refine ⟨res, C.Z0, C.μ0, rfl, hr _ _ _, ⟨fun a x h => by simp at h, fun a b x y c d _ h => by simp at h, fun b i h => Nat.lt_of_lt_of_le (hg.zlt b i h) hsz, hsz, fun b hb _ => hw b hb, fun b i h => .inl h, fun b i h => h, fun b i h => by simp [World.cell?, hw b (hg.zlt b i h)], fun k _ => rfl, hoo⟩, fun k hk => hmu k (by simp)⟩
  have := h C.w0 hk
  simp only [CallsF, Ctx.env] at this ⊢
  split at this
  · exact mono _ _ this
  · exact Calls.mono this (fun e w' h => mono e w' h)
  · exact Rows.mono this (fun v w' h => mono _ _ h)
  · exact this.elim
end Av
end

section
namespace Av
open Go

/-- A sequence, with the slots that are still needed behind its first part. -/
abbrev seqK (_ks : List Nat) (a b : AC) : AC := .seq a b

/-- A loop, with the slots that are needed at its head. -/
abbrev loopK (_ks : List Nat) (a : AC) : AC := .loop a

/-- A region of open order, with the orders that stand for all. -/
abbrev regK (_L : List Nat) (_ot : OT) (_p : OP) (ops : List AO) (ahead : List (List Nat)) : AC := .regD ops ahead

def St.keep (ks : List Nat) (s : St) : St := { t := lookT (ks.map fun k => (k, s.t k)), o := s.o, n := s.n }

section
variable {C : Ctx} {nt : Nat} {s : St} {K : St → Prop} {E : Nat → St → Prop} {R : St → Prop}

theorem lookT_keep (t : Nat → V) : ∀ (ks : List Nat) (i : Nat), lookT (ks.map fun k => (k, t k)) i = .top ∨ lookT (ks.map fun k => (k, t k)) i = t i
  | [], _ => .inl rfl
  | k :: ks, i => by
    simp only [List.map_cons, lookT]
    split
    · rename_i h; subst h; exact .inr rfl
    · exact lookT_keep t ks i

theorem Sim.keep {n : Nat} {a : Act} {w : World} (h : Sim C nt n s a w) (ks : List Nat) : Sim C nt n (s.keep ks) a w := by
  obtain ⟨Z, μ, hg, ht, hf, hm, hd, hn⟩ := h
  refine ⟨Z, μ, hg, fun i => ?_, hf, hm, hd, hn⟩
  rcases lookT_keep s.t ks i with h | h
  · simp only [St.keep, h]; exact .top
  · simp only [St.keep, h]; exact ht i

theorem awp_keep {c : AC} (ks : List Nat) (h : AWp C nt c (s.keep ks) K E R) : AWp C nt c s K E R :=
  fun code hc a w hs => h code hc a w (hs.keep ks)

theorem awp_seqK {ks : List Nat} {x y : AC} (h : AWp C nt x s (fun s' => AWp C nt y (s'.keep ks) K E R) E R) : AWp C nt (seqK ks x y) s K E R :=
  awp_seq (awp_mono h (fun _ h => awp_keep ks h) (fun _ _ h => h) (fun _ h => h))

theorem awp_regK {L : List Nat} {ot : OT} {p : OP} {ops : List AO} {ahead : List (List Nat)} (fz : Nat → Bool) (hc : okR ops ahead L ot = true) (hp : plan (ris ops ahead L) ot = p)
    (h : awP C.env fz s.n (fun s' => K (s'.wn (s.n + ops.length * KK))) p s) : AWp C nt (regK L ot p ops ahead) s K E R :=
  awp_regD L fz ot p hc hp h
end

mutual
/-- What a value shows, the objects that it refers to read. -/
def V.shut (o : Nat → Option Ob) : V → V
  | .hd a off len => match o a with | some (.buf _ s xs) => .sl s ((xs.drop off).take len) | _ => .top
  | .ptr a off => match o a with | some (.box _ cs) => .ro cs off | _ => .top
  | .ept _ _ _ => .top
  | .agg cs => .agg (shutL o cs)
  | .tup cs => .tup (shutL o cs)
  | .clo f cs => .clo f (shutL o cs)
  | v => v
def shutL (o : Nat → Option Ob) : List V → List V
  | [] => []
  | v :: r => v.shut o :: shutL o r
end

mutual
/-- The objects that 'shut' reads, all there, variables closed. 'B' says which may be shown. -/
def V.shutOk (o : Nat → Option Ob) (B : Option (List Nat)) : V → Prop
  | .hd a _ _ => okB B a ∧ ∃ wr s xs, o a = some (.buf wr s xs)
  | .ptr a _ => okB B a ∧ ∃ wr cs, o a = some (.box wr cs) ∧ closedL cs
  | .ept _ _ _ => True
  | .agg cs => shutOkL o B cs
  | .tup cs => shutOkL o B cs
  | .clo _ cs => shutOkL o B cs
  | _ => True
def shutOkL (o : Nat → Option Ob) (B : Option (List Nat)) : List V → Prop
  | [] => True
  | v :: r => v.shutOk o B ∧ shutOkL o B r
end

mutual
theorem conv_shut (o : Nat → Option Ob) (B : Option (List Nat)) : ∀ v : V, v.shutOk o B → conv o [] B v (v.shut o)
  | .top, _ => by simp [V.shut, conv]
  | .sc _, _ => by simp [V.shut, conv]
  | .nn, _ => by simp [V.shut, conv]
  | .sl _ _, _ => by simp [V.shut, conv]
  | .ro _ _, _ => by simp [V.shut, conv]
  | .ept _ _ _, _ => by simp [V.shut, conv]
  | .hd a off len, h => by
    obtain ⟨h1, wr, s, xs, h2⟩ := h
    simp only [V.shut, h2, conv]
    exact ⟨h1, by simp, wr, xs, rfl, rfl⟩
  | .ptr a off, h => by
    obtain ⟨h1, wr, cs, h2, h3⟩ := h
    simp only [V.shut, h2, conv]
    exact ⟨h1, by simp, trivial, h3, wr, cs, rfl, convL_closed _ _ _ _ h3⟩
  | .agg cs, h => by simp only [V.shut, conv]; exact convL_shut o B cs h
  | .tup cs, h => by simp only [V.shut, conv]; exact convL_shut o B cs h
  | .clo f cs, h => by simp only [V.shut, conv]; exact ⟨trivial, convL_shut o B cs h⟩
theorem convL_shut (o : Nat → Option Ob) (B : Option (List Nat)) : ∀ cs : List V, shutOkL o B cs → convL o [] B cs (shutL o cs)
  | [], _ => trivial
  | v :: r, h => ⟨conv_shut o B v h.1, convL_shut o B r h.2⟩
end

section
variable {Γ : Env} {b : Nat} {s : St} {d : Option Nat} {f : FuncId} {acts args : List V} {res : V} {K : St → Prop}

/-- A call that lends nothing, whose result is closed and shows no memory. -/
theorem call_n (h : Ev Γ f args [] res []) (ha : shutL s.o acts = args) (hc : shutOkL s.o none acts) (hr : res.closed) (hn : res.noSl)
    (hk : K { t := (s.put d res).t, o := s.o, n := s.n }) : awCall Γ b s d f acts K :=
  call_plain h (ha ▸ convL_shut _ _ _ hc) hr hn hk

/-- A call that lends nothing, whose result may show the objects 'l'. -/
theorem call_s (l : List Nat) (h : Ev Γ f args [] res []) (ha : shutL s.o acts = args) (hc : shutOkL s.o (some l) acts) (hr : res.closed)
    (hk : K { t := (s.put d res).t, o := frzO (some l) [] s.o, n := s.n }) : awCall Γ b s d f acts K :=
  call_shown l h (ha ▸ convL_shut _ _ _ hc) hr hk

/-- A call that lends nothing and shows nothing. -/
theorem call_c (h : Ev Γ f args [] res []) (ha : shutL s.o acts = args) (hc : shutOkL s.o (some []) acts) (hr : res.closed)
    (hk : K { t := (s.put d res).t, o := s.o, n := s.n }) : awCall Γ b s d f acts K :=
  call_shown [] h (ha ▸ convL_shut _ _ _ hc) hr (by rw [frzO_nil]; exact hk)

theorem callR_n {A W : Nat → Bool} (h : Ev Γ f args [] res []) (ha : shutL (restrB A s.o) acts = args) (hc : shutOkL (restrB A s.o) none acts) (hr : res.closed) (hn : res.noSl)
    (hk : K { t := (s.put d res).t, o := s.o, n := s.n }) : awCallR Γ A W b s d f acts K :=
  callR_plain h (ha ▸ convL_shut _ _ _ hc) (closed_ren _ _ hr) hn hk

theorem callR_c {A W : Nat → Bool} (h : Ev Γ f args [] res []) (ha : shutL (restrB A s.o) acts = args) (hc : shutOkL (restrB A s.o) (some []) acts) (hr : res.closed)
    (hk : K { t := (s.put d res).t, o := s.o, n := s.n }) : awCallR Γ A W b s d f acts K :=
  callR_new h (ha ▸ convL_shut _ _ _ hc) (closed_ren _ _ hr) hk

/-- Nothing is lent; the result shows what it refers to. -/
theorem ends_v {rs : List ARes} (h : awRes s rs fun vs => (finV vs).shutOk s.o none ∧ (finV vs).shut s.o = res) : Ends 0 rs res [] s :=
  ends_shown (awRes_mono rs (fun vs => (finV vs).shutOk s.o none ∧ (finV vs).shut s.o = res) _ (fun _ hvs => hvs.2 ▸ conv_shut _ _ _ hvs.1) h)
end
end Av
end

section
namespace Av
open Go

/-- One operation's outcome, and the operations that follow. -/
def awS (Γ : Env) (b : Nat) (r : List AO) (s : St) (d : Option Nat) (K : St → Prop) (m : AM E) : Prop := m.wp s.o fun e => awOps Γ (b + KK) r (s.eff d e) K

/-- A call, and the operations that follow. -/
def awC (Γ : Env) (b : Nat) (r : List AO) (s : St) (d : Option Nat) (f : FuncId) (acts : List V) (K : St → Prop) : Prop := awCall Γ b s d f acts fun s' => awOps Γ (b + KK) r s' K

/-- A guarded operation: 'v' is the guard's value. -/
def awQ (Γ : Env) (b : Nat) (r : List AO) (s : St) (x : AO) (g : Nat) (want : Bool) (v : V) (K : St → Prop) : Prop :=
  match v with
  | .sc (.bool q) => (q = want → awOps Γ b ({ d := x.d, op := x.op } :: r) (s.put (some g) (.bool want)) K) ∧ (q = !want → awOps Γ (b + KK) r ((s.put (some g) (.bool !want)).put x.d V.und) K)
  | .tup [] => awOps Γ (b + KK) r (s.put x.d V.und) K
  | _ => False

section
variable {Γ : Env} {b : Nat} {r : List AO} {s : St} {d : Option Nat} {K : St → Prop}

theorem put_self {g : Nat} {v : V} (h : s.t g = v) : s.put (some g) v = s := by
  have : upd s.t g v = s.t := by
    funext i
    by_cases hi : i = g
    · subst hi; rw [upd_same, h]
    · rw [upd_ne _ _ hi]
  simp only [St.put, this]

theorem opsNil : awOps Γ b [] s K = K { t := s.t, o := s.o, n := b } := rfl
theorem opsQ {x : AO} {g : Nat} {want : Bool} (hx : x.g = some (g, want)) (h : awQ Γ b r s x g want (s.t g) K) : awOps Γ b (x :: r) s K := by
  simp only [awOps, hx]
  unfold awQ at h
  split at h
  · rename_i q hq
    refine ⟨some q, hq, fun e => ?_, fun e => ?_⟩
    · cases e
      have := h.1 rfl
      rw [put_self hq] at this
      exact this
    · have e' : q = !want := by cases q <;> cases want <;> simp_all
      have := h.2 e'
      rw [put_self (by rw [hq, e'])] at this
      exact this
  · rename_i hq
    exact ⟨none, hq, (fun e => by cases e), fun _ => h⟩
  · exact h.elim

/-- The operations of a region, evaluated. -/
def runO (Γ : Env) (b : Nat) (l : List AO) (s : St) (K : St → Prop) : Prop := awOps Γ b l s K

theorem runO_nil : runO Γ b [] s K ↔ K { t := s.t, o := s.o, n := b } := Iff.rfl
theorem runO_call {f : FuncId} {as : List Opd} : runO Γ b (⟨d, .call f as, none⟩ :: r) s K ↔ awC Γ b r s d f (as.map s.ev) K := Iff.rfl

/-- A call of a function value. -/
def awCv (Γ : Env) (b : Nat) (r : List AO) (s : St) (d : Option Nat) (v : V) (acts : List V) (K : St → Prop) : Prop :=
  match v with
  | .clo f cap => awC Γ b r s d f.f (f.args acts cap) K
  | _ => False

theorem awCv_clo {f : FuncId} {cap acts : List V} : awCv Γ b r s d (.clo (.n f) cap) acts K ↔ awC Γ b r s d f (acts ++ cap) K := Iff.rfl
theorem awCv_clm {f : FuncId} {cap acts : List V} : awCv Γ b r s d (.clo (.m f) cap) acts K ↔ awC Γ b r s d f (cap ++ acts) K := Iff.rfl
theorem runO_callv {x : Opd} {as : List Opd} : runO Γ b (⟨d, .callv x as, none⟩ :: r) s K ↔ awCv Γ b r s d (s.ev x) (as.map s.ev) K := by
  simp only [runO, awOps, awOp, awCv]
  cases s.ev x <;> rfl

theorem runO_q {aop : AOp} {g : Nat} {want : Bool} : runO Γ b (⟨d, aop, some (g, want)⟩ :: r) s K ↔ awQ Γ b r s ⟨d, aop, none⟩ g want (s.t g) K := by
  refine ⟨fun h => ?_, fun h => opsQ (x := ⟨d, aop, some (g, want)⟩) rfl h⟩
  simp only [runO, awOps] at h
  obtain ⟨q, hq, h1, h2⟩ := h
  unfold awQ
  rcases q with _ | q
  · have hq : s.t g = .tup [] := hq
    rw [hq]
    exact h2 (by simp)
  · have hq : s.t g = .bool q := hq
    rw [hq]
    refine ⟨fun e => ?_, fun e => ?_⟩
    · rw [put_self (by rw [hq, e])]; exact h1 (by rw [e])
    · rw [put_self (by rw [hq, e])]
      exact h2 (by rw [e]; cases want <;> simp)

theorem awQ_bool {x : AO} {g : Nat} {want q : Bool} : awQ Γ b r s x g want (.sc (.bool q)) K ↔ (q = want → runO Γ b (⟨x.d, x.op, none⟩ :: r) (s.put (some g) (.bool want)) K) ∧ (q = !want → runO Γ (b + KK) r ((s.put (some g) (.bool !want)).put x.d V.und) K) := Iff.rfl
theorem awQ_und {x : AO} {g : Nat} {want : Bool} : awQ Γ b r s x g want (.tup []) K ↔ runO Γ (b + KK) r (s.put x.d V.und) K := Iff.rfl
end

/-- Is it no call? -/
def AOp.noCall : AOp → Bool
  | .call .. | .callv .. => false
  | _ => true

section
variable {Γ : Env} {b : Nat} {r : List AO} {s : St} {d : Option Nat} {K : St → Prop}

theorem runO_op {aop : AOp} (h : aop.noCall = true) : runO Γ b (⟨d, aop, none⟩ :: r) s K ↔ awS Γ b r s d K (sem b s.ev aop) := by
  cases aop <;> first | exact Iff.rfl | simp [AOp.noCall] at h

theorem awS_no : awS Γ b r s d K .no ↔ False := Iff.rfl
theorem awS_ret {e : E} : awS Γ b r s d K (.ret e) ↔ runO Γ (b + KK) r (s.eff d e) K := Iff.rfl
theorem awS_asrt {p : Prop} {m : AM E} : awS Γ b r s d K (.asrt p m) ↔ p ∧ awS Γ b r s d K m := Iff.rfl
/-- An object that is looked at. -/
def awRd (Γ : Env) (b : Nat) (r : List AO) (s : St) (d : Option Nat) (K : St → Prop) (k : Ob → AM E) (x : Option Ob) : Prop :=
  match x with
  | some ob => awS Γ b r s d K (k ob)
  | none => False
theorem awRd_some {k : Ob → AM E} {ob : Ob} : awRd Γ b r s d K k (some ob) ↔ awS Γ b r s d K (k ob) := Iff.rfl
theorem awS_rd {a : Nat} {k : Ob → AM E} : awS Γ b r s d K (.rd a k) ↔ awRd Γ b r s d K k (s.o a) := by
  unfold awRd
  cases h : s.o a with
  | none => simp [awS, AM.wp, h]
  | some ob => simp [awS, AM.wp, h]
theorem awS_any {k : Bool → AM E} : awS Γ b r s d K (.any k) ↔ ∀ t, awS Γ b r s d K (k t) := Iff.rfl
end

section
variable {C : Ctx} {nt : Nat} {s : St} {K : St → Prop} {E : Nat → St → Prop} {R : St → Prop}

theorem awp_seqR {ks : List Nat} {ops : List AO} {y : AC} (h : ∀ K' : St → Prop, (∀ s', AWp C nt y s' K E R → K' s') → runO C.env s.n ops s (fun s' => K' (s'.keep ks))) : AWp C nt (seqK ks (.reg ops) y) s K E R :=
  awp_seqK (awp_reg (h _ fun _ h => h))

theorem awp_regR {ops : List AO} (h : ∀ K' : St → Prop, (∀ s', K s' → K' s') → runO C.env s.n ops s K') : AWp C nt (.reg ops) s K E R :=
  awp_reg (h _ fun _ h => h)
end

theorem lookT_app (k : Nat) (v : V) (r : List (Nat × V)) (i : Nat) : lookT ((k, v) :: r) i = if i = k then v else lookT r i := rfl
theorem lookT_none (i : Nat) : lookT [] i = .top := rfl
theorem lookO_app (k : Nat) (v : Ob) (r : List (Nat × Ob)) (i : Nat) : lookO ((k, v) :: r) i = if i = k then some v else lookO r i := rfl
theorem lookO_none (i : Nat) : lookO [] i = none := rfl
theorem upd_app {α : Type} (f : Nat → α) (a : Nat) (v : α) (i : Nat) : upd f a v i = if i = a then v else f i := rfl
theorem keep_eq (ks : List Nat) (s : St) : s.keep ks = { t := lookT (ks.map fun k => (k, s.t k)), o := s.o, n := s.n } := rfl
theorem entry_eq (args : List V) (ins : List Ob) : entrySt args ins = { t := fun i => (args[i]?).getD .top, o := fun k => ins[k]?, n := ins.length } := rfl
theorem mkSt_eq (ts : List (Nat × V)) (os : List (Nat × Ob)) (n : Nat) : mkSt ts os n = { t := lookT ts, o := lookO os, n := n } := rfl

end Av
end

section
namespace Av
open Go

/-- A contract that lends nothing; the result names no object. -/
def EvC (Γ : Env) (f : FuncId) (args : List V) (res : V) : Prop := Ev Γ f args [] res [] ∧ res.closed

/-- .. and shows no memory. -/
def EvN (Γ : Env) (f : FuncId) (args : List V) (res : V) : Prop := Ev Γ f args [] res [] ∧ res.closed ∧ res.noSl

theorem EvN.c {Γ : Env} {f : FuncId} {args : List V} {res : V} (h : EvN Γ f args res) : EvC Γ f args res := ⟨h.1, h.2.1⟩

section
variable {Γ : Env} {b : Nat} {r : List AO} {s : St} {d : Option Nat} {f : FuncId} {acts : List V} {res : V} {K : St → Prop}

theorem awC_N (hc : shutOkL s.o none acts) (h : EvN Γ f (shutL s.o acts) res) (hk : runO Γ (b + KK) r { t := (s.put d res).t, o := s.o, n := s.n } K) : awC Γ b r s d f acts K :=
  call_n h.1 rfl hc h.2.1 h.2.2 hk

theorem awC_C (hc : shutOkL s.o (some []) acts) (h : EvC Γ f (shutL s.o acts) res) (hk : runO Γ (b + KK) r { t := (s.put d res).t, o := s.o, n := s.n } K) : awC Γ b r s d f acts K :=
  call_c h.1 rfl hc h.2 hk

theorem awC_S (l : List Nat) (hc : shutOkL s.o (some l) acts) (h : EvC Γ f (shutL s.o acts) res) (hk : runO Γ (b + KK) r { t := (s.put d res).t, o := frzO (some l) [] s.o, n := s.n } K) : awC Γ b r s d f acts K :=
  call_s l h.1 rfl hc h.2 hk

theorem frzO_some (l : List Nat) (o : Nat → Option Ob) (a : Nat) : frzO (some l) [] o a = if a ∈ l then (o a).map Ob.frz else o a := by
  simp [frzO]
end

theorem evC_of_body {Γ : Env} {f : FuncId} {nt : Nat} {ac : AC} {rs : List ARes} (hb : Has Γ.P f nt ac rs) {args : List V} {res : V} (ha : args.length ≤ nt) (hr : res.closed)
    (h : ∀ C : Ctx, C.env = Γ → C.m = 0 → AWp C nt ac (entrySt args []) (Ends 0 rs res []) (fun _ _ => False) (Ends 0 rs res [])) : EvC Γ f args res :=
  ⟨ev_of_body hb ha h, hr⟩

theorem evN_of_body {Γ : Env} {f : FuncId} {nt : Nat} {ac : AC} {rs : List ARes} (hb : Has Γ.P f nt ac rs) {args : List V} {res : V} (ha : args.length ≤ nt) (hr : res.closed) (hn : res.noSl)
    (h : ∀ C : Ctx, C.env = Γ → C.m = 0 → AWp C nt ac (entrySt args []) (Ends 0 rs res []) (fun _ _ => False) (Ends 0 rs res [])) : EvN Γ f args res :=
  ⟨ev_of_body hb ha h, hr, hn⟩

theorem ends_c {rs : List ARes} {res : V} {s : St} (h : awRes s rs fun vs => conv s.o [] none (finV vs) res) : Ends 0 rs res [] s := ends_shown h

section
variable {C : Ctx} {nt : Nat} {s : St} {K : St → Prop} {E : Nat → St → Prop} {R : St → Prop}

/-- A loop: 'inv' at its head, a measure that goes down. -/
theorem awp_loopV {ks : List Nat} {x : AC} {ι : Type} (good : ι → Prop) (inv : ι → St) (msr : ι → Nat) (i0 : ι) (h0 : good i0) (τ : Nat → Nat) (hw : Weak C.m τ s (inv i0))
    (h : ∀ i, good i → ∀ K' : St → Prop, (∀ s' i' τ, good i' → msr i' < msr i → Weak C.m τ s' (inv i') → K' s') → AWp C nt x (inv i) K' E R) : AWp C nt (loopK ks x) s K E R :=
  awp_loopW good inv msr ⟨i0, τ, h0, hw⟩ fun i hi => h i hi _ fun _ i' τ h1 h2 h3 => ⟨i', τ, h1, h2, h3⟩

/-- A join behind the first part. -/
theorem awp_cutK {ks : List Nat} {x y : AC} {ι : Type} (good : ι → Prop) (mid : ι → St) (h : ∀ K' : St → Prop, (∀ s' i τ, good i → Weak C.m τ (s'.keep ks) (mid i) → K' s') → AWp C nt x s K' E R) (h' : ∀ i, good i → AWp C nt y (mid i) K E R) : AWp C nt (seqK ks x y) s K E R :=
  awp_seqK (h _ fun _ i _ h1 h2 => awp_weak h2 (h' i h1))
end

theorem weak_c {m n : Nat} {s : St} {ts : List (Nat × V)} (ht : ∀ p ∈ ts, s.t p.1 = p.2 ∧ p.2.closed) (hm : m ≤ n) : Weak m id s (mkSt ts [] n) := by
  refine ⟨fun i => ?_, fun a y h => by simp [mkSt, lookO] at h, fun a b ha => by simp [mkSt, lookO] at ha, fun _ _ => rfl, hm⟩
  rcases lookT_mem ts i with h | h
  · exact .inl h
  · obtain ⟨h1, h2⟩ := ht _ h
    exact .inr ⟨by show s.t i = (lookT ts i).ren id; rw [closed_ren id (lookT ts i) h2]; exact h1, closed_lt n (lookT ts i) h2⟩

theorem weak_g {m n : Nat} {s : St} (tau : List (Nat × Nat)) {ts : List (Nat × V)} {os : List (Nat × Ob)}
    (ht : ∀ p ∈ ts, s.t p.1 = p.2.ren (lookN tau) ∧ p.2.lt n)
    (ho : ∀ p ∈ os, p.1 < n ∧ ∃ x, s.o (lookN tau p.1) = some x ∧ x.weak (lookN tau) n p.2)
    (hn : (os.map fun p => lookN tau p.1).Nodup) (hf : ∀ p ∈ tau, m ≤ p.1) (hm : m ≤ n) : Weak m (lookN tau) s (mkSt ts os n) := weak_mk tau ht ho hn hf hm

theorem mem_nil_all {α : Type} (p : α → Prop) : (∀ x ∈ ([] : List α), p x) ↔ True := by simp

def getR (s : St) : ARes → Option V
  | .tmp t => some (s.t t)
  | .cell a g sz => match s.t a with
    | .ptr n off => (match s.o n with
      | some (.box _ cells) => if g then (if off + sz ≤ cells.length then some (.agg ((cells.drop off).take sz)) else none) else cells[off]?
      | _ => none)
    | _ => none

def getRs (s : St) : List ARes → Option (List V)
  | [] => some []
  | r :: rs => match getR s r, getRs s rs with | some v, some vs => some (v :: vs) | _, _ => none

theorem getRs_aw {s : St} : ∀ (rs : List ARes) (vs : List V) (K : List V → Prop), getRs s rs = some vs → K vs → awRes s rs K
  | [], vs, K, h, hk => by simp [getRs] at h; subst h; exact hk
  | r :: rs, vs, K, h, hk => by
    simp only [getRs] at h
    split at h
    · rename_i v vs' h1 h2
      simp only [Option.some.injEq] at h; subst h
      have ih := getRs_aw rs vs' (fun vs => K (v :: vs)) h2 hk
      simp only [awRes]
      cases r with
      | tmp t => simp only [getR, Option.some.injEq] at h1; subst h1; exact ih
      | cell a g sz =>
        simp only [getR] at h1
        split at h1
        · rename_i n off hp
          split at h1
          · rename_i wr cells ho
            simp only [ARes.val, hp, AM.cellsAt, AM.wp]
            refine ⟨_, ho, ?_⟩
            cases g
            · simp only [Bool.false_eq_true, if_false] at h1 ⊢
              rw [h1]; exact ih
            · simp only [if_true] at h1 ⊢
              split at h1
              · rename_i hle
                simp only [Option.some.injEq] at h1; subst h1
                exact ⟨hle, ih⟩
              · cases h1
          · cases h1
        · cases h1
    · cases h

/-- The end of a function that lends nothing: its results read, and what they show. -/
theorem ends_r {rs : List ARes} {res : V} {s : St} (vs : List V) (h : getRs s rs = some vs) (hc : conv s.o [] none (finV vs) res) : Ends 0 rs res [] s :=
  ends_shown (getRs_aw rs vs _ h hc)

theorem cv_top (o : Nat → Option Ob) (br : List Nat) (B : Option (List Nat)) (v : V) : conv o br B v .top ↔ True := by cases v <;> simp [conv]
theorem cv_sc (o : Nat → Option Ob) (br : List Nat) (B : Option (List Nat)) (v u : Value) : conv o br B (.sc v) (.sc u) ↔ v = u := by simp [conv]
theorem cv_nil (o : Nat → Option Ob) (br : List Nat) (B : Option (List Nat)) (s : Nat) (ys : List V) : conv o br B (.sc (.slice none 0 0)) (.sl s ys) ↔ ys = [] := by simp [conv]
theorem cv_sl (o : Nat → Option Ob) (br : List Nat) (B : Option (List Nat)) (s s' : Nat) (xs ys : List V) : conv o br B (.sl s xs) (.sl s' ys) ↔ s = s' ∧ xs = ys := by simp [conv]
theorem cv_hd (o : Nat → Option Ob) (br : List Nat) (B : Option (List Nat)) (a off len s : Nat) (ys : List V) : conv o br B (.hd a off len) (.sl s ys) ↔ okB B a ∧ a ∉ br ∧ ∃ wr xs, o a = some (.buf wr s xs) ∧ ys = (xs.drop off).take len := by simp [conv]
theorem cv_ptr (o : Nat → Option Ob) (br : List Nat) (B : Option (List Nat)) (a off off' : Nat) (es : List V) : conv o br B (.ptr a off) (.ro es off') ↔ okB B a ∧ a ∉ br ∧ off' = off ∧ closedL es ∧ ∃ wr cs, o a = some (.box wr cs) ∧ convL o br B cs es := by simp [conv]
theorem cv_ro (o : Nat → Option Ob) (br : List Nat) (B : Option (List Nat)) (off off' : Nat) (cs es : List V) : conv o br B (.ro cs off) (.ro es off') ↔ cs = es ∧ off' = off := by simp [conv]
theorem cv_agg (o : Nat → Option Ob) (br : List Nat) (B : Option (List Nat)) (cs es : List V) : conv o br B (.agg cs) (.agg es) ↔ convL o br B cs es := by simp [conv]
theorem cv_tup (o : Nat → Option Ob) (br : List Nat) (B : Option (List Nat)) (cs es : List V) : conv o br B (.tup cs) (.tup es) ↔ convL o br B cs es := by simp [conv]
theorem cv_clo (o : Nat → Option Ob) (br : List Nat) (B : Option (List Nat)) (f g : FK) (cs es : List V) : conv o br B (.clo f cs) (.clo g es) ↔ f = g ∧ convL o br B cs es := by simp [conv]
theorem cv_nn (o : Nat → Option Ob) (br : List Nat) (B : Option (List Nat)) : conv o br B .nn .nn ↔ True := by simp [conv]
theorem cvL_nil (o : Nat → Option Ob) (br : List Nat) (B : Option (List Nat)) : convL o br B [] [] ↔ True := by simp [convL]
theorem cvL_cons (o : Nat → Option Ob) (br : List Nat) (B : Option (List Nat)) (v e : V) (r r' : List V) : convL o br B (v :: r) (e :: r') ↔ conv o br B v e ∧ convL o br B r r' := by simp [convL]
theorem okB_none (a : Nat) : okB none a ↔ True := by simp [okB]
theorem okB_some (l : List Nat) (a : Nat) : okB (some l) a ↔ a ∈ l := by simp [okB]
theorem exists_buf {wr0 : Bool} {s0 s : Nat} {xs0 : List V} {p : List V → Prop} : (∃ wr xs, some (Ob.buf wr0 s0 xs0) = some (Ob.buf wr s xs) ∧ p xs) ↔ s0 = s ∧ p xs0 := by
  constructor
  · rintro ⟨wr, xs, h, hp⟩; cases h; exact ⟨rfl, hp⟩
  · rintro ⟨rfl, hp⟩; exact ⟨_, _, rfl, hp⟩
theorem exists_box {wr0 : Bool} {cs0 : List V} {p : List V → Prop} : (∃ wr cs, some (Ob.box wr0 cs0) = some (Ob.box wr cs) ∧ p cs) ↔ p cs0 := by
  constructor
  · rintro ⟨wr, xs, h, hp⟩; cases h; exact hp
  · intro h; exact ⟨_, _, rfl, h⟩

theorem exists_buf' {wr0 : Bool} {s0 s : Nat} {xs0 : List V} {p : List V → Prop} : (∃ wr xs, Ob.buf wr0 s0 xs0 = Ob.buf wr s xs ∧ p xs) ↔ s0 = s ∧ p xs0 := by
  constructor
  · rintro ⟨wr, xs, h, hp⟩; cases h; exact ⟨rfl, hp⟩
  · rintro ⟨rfl, hp⟩; exact ⟨_, _, rfl, hp⟩
theorem exists_box' {wr0 : Bool} {cs0 : List V} {p : List V → Prop} : (∃ wr cs, Ob.box wr0 cs0 = Ob.box wr cs ∧ p cs) ↔ p cs0 := by
  constructor
  · rintro ⟨wr, xs, h, hp⟩; cases h; exact hp
  · intro h; exact ⟨_, _, rfl, h⟩

end Av
end

section
namespace Av
open Go

theorem str_size (l : List UInt8) : (⟨l.toArray⟩ : ByteArray).size = l.length := by simp [ByteArray.size]
theorem str_data (l : List UInt8) : (⟨l.toArray⟩ : ByteArray).data.toList = l := by simp
theorem str_app (a b : List UInt8) : (⟨a.toArray⟩ : ByteArray) ++ ⟨b.toArray⟩ = ⟨(a ++ b).toArray⟩ := by
  apply ByteArray.ext
  simp
theorem str_list (l : List UInt8) : (⟨l.toArray⟩ : ByteArray).toList = l := by
  exact ByteArray.toList_mk l
theorem str_cut (l : List UInt8) (a b : Nat) : (⟨l.toArray⟩ : ByteArray).extract a b = ⟨((l.drop a).take (b - a)).toArray⟩ := by
  apply ByteArray.ext
  simp [List.extract_eq_take_drop]
theorem V.of_string (s : ByteArray) : V.sc (.string s) = V.str s.data.toList := by simp [V.str]

theorem bin_add (a b : List UInt8) : binS .add ⟨a.toArray⟩ ⟨b.toArray⟩ = .asrt (a.length + b.length < 2 ^ 62) (.ret { v := V.str (a ++ b) }) := by
  simp only [binS, str_size, str_app]
theorem bin_eql (a b : List UInt8) : binS .eql ⟨a.toArray⟩ ⟨b.toArray⟩ = .ret { v := .bool (a == b) } := by
  simp only [binS, str_list]
theorem bin_neq (a b : List UInt8) : binS .neq ⟨a.toArray⟩ ⟨b.toArray⟩ = .ret { v := .bool (!(a == b)) } := by
  simp only [binS, str_list]
theorem bin_lss (a b : List UInt8) : binS .lss ⟨a.toArray⟩ ⟨b.toArray⟩ = .ret { v := .bool (Op.bytesLess a b) } := by
  simp only [binS, str_list]
theorem bin_leq (a b : List UInt8) : binS .leq ⟨a.toArray⟩ ⟨b.toArray⟩ = .ret { v := .bool (Op.bytesLess a b || a == b) } := by
  simp only [binS, str_list]
theorem bin_gtr (a b : List UInt8) : binS .gtr ⟨a.toArray⟩ ⟨b.toArray⟩ = .ret { v := .bool (!(Op.bytesLess a b || a == b)) } := by
  simp only [binS, str_list]
theorem bin_geq (a b : List UInt8) : binS .geq ⟨a.toArray⟩ ⟨b.toArray⟩ = .ret { v := .bool (!(Op.bytesLess a b)) } := by
  simp only [binS, str_list]

/-- The laws of strings, for the simp set. -/
theorem RUNS :
    (∀ l : List UInt8, (⟨l.toArray⟩ : ByteArray).size = l.length) ∧ (∀ l : List UInt8, l.toArray.toList = l) ∧
    (∀ (l : List UInt8) (a b : Nat), (⟨l.toArray⟩ : ByteArray).extract a b = ⟨((l.drop a).take (b - a)).toArray⟩) ∧
    (∀ a b : List UInt8, binS .add ⟨a.toArray⟩ ⟨b.toArray⟩ = .asrt (a.length + b.length < 2 ^ 62) (.ret { v := V.str (a ++ b) })) ∧
    (∀ a b : List UInt8, binS .eql ⟨a.toArray⟩ ⟨b.toArray⟩ = .ret { v := .bool (a == b) }) ∧
    (∀ a b : List UInt8, binS .neq ⟨a.toArray⟩ ⟨b.toArray⟩ = .ret { v := .bool (!(a == b)) }) ∧
    (∀ a b : List UInt8, binS .lss ⟨a.toArray⟩ ⟨b.toArray⟩ = .ret { v := .bool (Op.bytesLess a b) }) ∧
    (∀ a b : List UInt8, binS .leq ⟨a.toArray⟩ ⟨b.toArray⟩ = .ret { v := .bool (Op.bytesLess a b || a == b) }) ∧
    (∀ a b : List UInt8, binS .gtr ⟨a.toArray⟩ ⟨b.toArray⟩ = .ret { v := .bool (!(Op.bytesLess a b || a == b)) }) ∧
    (∀ a b : List UInt8, binS .geq ⟨a.toArray⟩ ⟨b.toArray⟩ = .ret { v := .bool (!(Op.bytesLess a b)) }) :=
  ⟨str_size, fun l => by simp, str_cut, bin_add, bin_eql, bin_neq, bin_lss, bin_leq, bin_gtr, bin_geq⟩

theorem closedL_ints (l : List Int) : closedL (l.map V.int) := by induction l <;> simp_all [closedL, V.closed]
theorem closedL_strs (l : List (List UInt8)) : closedL (l.map V.str) := by induction l <;> simp_all [closedL, V.closed]
theorem closedL_of {l : List V} (h : ∀ v ∈ l, v.closed) : closedL l := by
  induction l with
  | nil => trivial
  | cons v l ih => exact ⟨h v (by simp), ih fun u hu => h u (by simp [hu])⟩
theorem closedL_map {α : Type} {f : α → V} (h : ∀ x, (f x).closed) (l : List α) : closedL (l.map f) := closedL_of (by simp only [List.mem_map]; rintro v ⟨x, _, rfl⟩; exact h x)

theorem V.int_inj {a b : Int} : V.int a = V.int b ↔ a = b := by simp
theorem V.str_inj {a b : List UInt8} : V.str a = V.str b ↔ a = b := by simp
theorem V.bool_inj {a b : Bool} : V.bool a = V.bool b ↔ a = b := by simp

end Av
end

section
namespace Av
open Go

theorem drop_cons {α : Type} {l : List α} {k : Nat} {y : α} {r : List α} (h : l.drop k = y :: r) : k < l.length ∧ l[k]? = some y ∧ l.drop (k + 1) = r := by
  have hk : k < l.length := by
    rcases Nat.lt_or_ge k l.length with h' | h'
    · exact h'
    · rw [List.drop_of_length_le h'] at h; cases h
  rw [List.drop_eq_getElem_cons hk] at h
  simp only [List.cons.injEq] at h
  exact ⟨hk, by rw [List.getElem?_eq_getElem hk, h.1], h.2⟩
theorem drop_nil {α : Type} {l : List α} {k : Nat} (h : l.drop k = []) : l.length ≤ k := by simpa using h

theorem wrap_succ {k : Nat} (h : k < 2 ^ 62) : IntKind.i64.wrap ((k : Int) + 1) = ((k + 1 : Nat) : Int) := by
  rw [wrap_id (by omega) (by omega)]; omega

def lookD : List (Nat × V) → Nat → V → V
  | [], _, v => v
  | (j, u) :: r, k, v => if k = j then u else lookD r k v

/-- The slots of 'base', some of them with other values. -/
def ovT (ts : List (Nat × V)) : List (Nat × V) → List (Nat × V)
  | [] => []
  | (k, v) :: r => (k, lookD ts k v) :: ovT ts r

def ovO : List (Nat × Ob) → (Nat → Option Ob) → Nat → Option Ob
  | [], o => o
  | (a, x) :: r, o => upd (ovO r o) a (some x)

/-- All objects and the names in them are below 'n'. -/
def ltO (n : Nat) (o : Nat → Option Ob) : Prop := ∀ a x, o a = some x → a < n ∧ x.lt n

theorem ltO_upd {n : Nat} {o : Nat → Option Ob} {a : Nat} {x : Ob} (h1 : a < n) (h2 : x.lt n) (h : ltO n o) : ltO n (upd o a (some x)) := by
  intro b y hb
  by_cases e : b = a
  · subst e; rw [upd_same] at hb; cases hb; exact ⟨h1, h2⟩
  · rw [upd_ne _ _ e] at hb; exact h b y hb

theorem ltO_none {n : Nat} : ltO n (fun _ => none) := by intro a x h; cases h

/-- .. the values of slots, too. -/
def ltT (n : Nat) (l : List (Nat × V)) : Prop := ∀ p ∈ l, p.2.lt n

theorem ltT_nil {n : Nat} : ltT n [] := by intro p hp; cases hp
theorem ltT_cons {n k : Nat} {v : V} {r : List (Nat × V)} (h1 : v.lt n) (h : ltT n r) : ltT n ((k, v) :: r) := by
  intro p hp
  rcases List.mem_cons.1 hp with rfl | hp
  · exact h1
  · exact h p hp

/-- The slots hold what the list says. -/
def eqT (t : Nat → V) (τ : Nat → Nat) (l : List (Nat × V)) : Prop := ∀ p ∈ l, t p.1 = p.2.ren τ

theorem eqT_nil {t : Nat → V} {τ : Nat → Nat} : eqT t τ [] := by intro p hp; cases hp
theorem eqT_cons {t : Nat → V} {τ : Nat → Nat} {k : Nat} {v : V} {r : List (Nat × V)} : eqT t τ ((k, v) :: r) ↔ t k = v.ren τ ∧ eqT t τ r := by
  constructor
  · intro h; exact ⟨h (k, v) (by simp), fun p hp => h p (by simp [hp])⟩
  · rintro ⟨h1, h2⟩ p hp
    rcases List.mem_cons.1 hp with rfl | hp
    · exact h1
    · exact h2 p hp

/-- New places for names: from 'n' on, each once. -/
def okN (n m : Nat) (rn : List (Nat × Nat)) : Prop := (∀ p ∈ rn, n ≤ p.2 ∧ m ≤ p.1) ∧ (rn.map (·.2)).Nodup

theorem lookN_cases : ∀ (rn : List (Nat × Nat)) (a : Nat), (lookN rn a = a ∧ ∀ p ∈ rn, p.1 ≠ a) ∨ (a, lookN rn a) ∈ rn
  | [], a => .inl ⟨rfl, by simp⟩
  | (k, v) :: r, a => by
    simp only [lookN]
    split
    · rename_i h; subst h; exact .inr (by simp)
    · rename_i h
      rcases lookN_cases r a with ⟨h1, h2⟩ | h'
      · refine .inl ⟨h1, fun p hp => ?_⟩
        rcases List.mem_cons.1 hp with rfl | hp
        · exact fun e => h e.symm
        · exact h2 p hp
      · exact .inr (by simp [h'])

theorem lookN_inj {n m : Nat} {rn : List (Nat × Nat)} (h : okN n m rn) {a b : Nat} (ha : a < n) (hb : b < n) (e : lookN rn a = lookN rn b) : a = b := by
  rcases lookN_cases rn a with ⟨h1, _⟩ | h1 <;> rcases lookN_cases rn b with ⟨h2, _⟩ | h2
  · omega
  · have := (h.1 _ h2).1; simp only at this; omega
  · have := (h.1 _ h1).1; simp only at this; omega
  · have := nodup_map_inj h.2 h1 h2 e
    simpa using congrArg Prod.fst this

theorem lookN_fix {n m : Nat} {rn : List (Nat × Nat)} (h : okN n m rn) {k : Nat} (hk : k < m) : lookN rn k = k := by
  rcases lookN_cases rn k with ⟨h1, _⟩ | h1
  · exact h1
  · have := (h.1 _ h1).2; simp only at this; omega

theorem weak_self (τ : Nat → Nat) (n : Nat) (x : Ob) (h : x.lt n) : (x.ren τ).weak τ n x := by
  induction x with
  | dead => trivial
  | typ T x ih => exact ⟨rfl, ih h⟩
  | box wr cs => exact ⟨fun h => h, rfl, h⟩
  | buf wr s xs => exact ⟨fun h => h, rfl, rfl⟩

theorem weak_u {m n : Nat} {s : St} {l : List (Nat × V)} {o : Nat → Option Ob} (rn : List (Nat × Nat)) (hn : okN n m rn) (hm : m ≤ n) (hl : ltT n l) (hlo : ltO n o)
    (ht : eqT s.t (lookN rn) l) (ho : ∀ a, a < n → s.o (lookN rn a) = (o a).map (Ob.ren (lookN rn))) : Weak m (lookN rn) s { t := lookT l, o := o, n := n } := by
  refine ⟨fun i => ?_, fun a y h => ?_, fun a b ha hb e => ?_, fun k hk => lookN_fix hn hk, hm⟩
  · rcases lookT_mem l i with h | h
    · exact .inl h
    · exact .inr ⟨ht _ h, hl _ h⟩
  · obtain ⟨h1, h2⟩ := hlo a y h
    refine ⟨h1, _, ?_, weak_self (lookN rn) n y h2⟩
    have := ho a h1
    simp only at h
    rw [h] at this
    exact this
  · obtain ⟨x, hx⟩ := Option.ne_none_iff_exists'.1 ha
    obtain ⟨y, hy⟩ := Option.ne_none_iff_exists'.1 hb
    exact lookN_inj hn (hlo a x hx).1 (hlo b y hy).1 e

section
variable {C : Ctx} {nt : Nat} {K : St → Prop} {E : Nat → St → Prop} {R : St → Prop}

theorem renI_V : ∀ (k : Nat) (v : V), SizeOf.sizeOf v ≤ k → v.ren (fun a => a) = v := by
  intro k
  induction k with
  | zero => intro v h; cases v <;> simp at h
  | succ k ih =>
    intro v h
    have list : ∀ cs : List V, SizeOf.sizeOf cs ≤ k → renL (fun a => a) cs = cs := by
      intro cs
      induction cs with
      | nil => intro _; rfl
      | cons u r ihr => intro hs; simp at hs; simp only [renL]; rw [ih u (by omega), ihr (by omega)]
    cases v <;> simp only [V.ren] <;> simp at h
    all_goals (rw [list _ (by omega)])

theorem renI (v : V) : v.ren (fun a => a) = v := renI_V _ v (Nat.le_refl _)
theorem renLI (cs : List V) : renL (fun a => a) cs = cs := by induction cs with
  | nil => rfl
  | cons v r ih => simp only [renL, renI, ih]
theorem renOI (x : Ob) : x.ren (fun a => a) = x := by induction x <;> simp_all [Ob.ren, renLI]
theorem lookN_nil : lookN [] = fun a => a := by funext a; rfl

/-- A loop whose rounds change some slots, no object that was there. -/
theorem awp_loopP {ks : List Nat} {x : AC} {base : List (Nat × V)} {o0 : Nat → Option Ob} {n0 : Nat} {ι : Type} (good : ι → Prop) (ts : ι → List (Nat × V)) (msr : ι → Nat) (i0 : ι)
    (hm : C.m ≤ n0) (h0 : good i0) (hlo : ltO n0 o0) (hl : ∀ i, good i → ltT n0 (ovT (ts i) base)) (ht : eqT (lookT base) (fun a => a) (ovT (ts i0) base))
    (h : ∀ i, good i → ∀ K' : St → Prop, (∀ s' i', eqT s'.t (fun a => a) (ovT (ts i') base) → good i' → msr i' < msr i → (∀ a, a < n0 → s'.o a = o0 a) → K' s') →
      AWp C nt x { t := lookT (ovT (ts i) base), o := o0, n := n0 } K' E R) : AWp C nt (loopK ks x) { t := lookT base, o := o0, n := n0 } K E R := by
  have hn : okN n0 C.m [] := ⟨by simp, by simp⟩
  have ren0 : ∀ oo : Nat → Option Ob, ∀ a, (oo a).map (Ob.ren (lookN [])) = oo a := by
    intro oo a
    rw [lookN_nil]
    cases oo a with
    | none => rfl
    | some x => simp [renOI]
  refine awp_loopV good (fun i => { t := lookT (ovT (ts i) base), o := o0, n := n0 }) msr i0 h0 (lookN []) (weak_u [] hn hm (hl i0 h0) hlo (by rw [lookN_nil]; exact ht) (fun a _ => (ren0 o0 a).symm)) ?_
  intro i hi K' hK
  exact h i hi K' fun s' i' h1 h2 h3 h4 => hK s' i' (lookN []) h2 h3 (weak_u [] hn hm (hl i' h2) hlo (by rw [lookN_nil]; exact h1) (fun a ha => (h4 a ha).trans (ren0 o0 a).symm))

/-- A loop whose rounds change some slots and some objects, and make objects anew in the place of others. -/
theorem awp_loopU {ks : List Nat} {x : AC} {base : List (Nat × V)} {o0 : Nat → Option Ob} {n0 : Nat} {ι : Type} (good : ι → Prop) (ts : ι → List (Nat × V)) (os : ι → List (Nat × Ob)) (msr : ι → Nat) (i0 : ι)
    (hm : C.m ≤ n0) (h0 : good i0) (hlo : ∀ i, good i → ltO n0 (ovO (os i) o0)) (hl : ∀ i, good i → ltT n0 (ovT (ts i) base)) (ht : eqT (lookT base) (fun a => a) (ovT (ts i0) base)) (ho : ∀ a, a < n0 → o0 a = ovO (os i0) o0 a)
    (h : ∀ i, good i → ∀ K' : St → Prop, (∀ s' i' rn, eqT s'.t (lookN rn) (ovT (ts i') base) → good i' → msr i' < msr i → (∀ a, a < n0 → s'.o (lookN rn a) = (ovO (os i') o0 a).map (Ob.ren (lookN rn))) → okN n0 C.m rn → K' s') →
      AWp C nt x { t := lookT (ovT (ts i) base), o := ovO (os i) o0, n := n0 } K' E R) : AWp C nt (loopK ks x) { t := lookT base, o := o0, n := n0 } K E R := by
  have hn : okN n0 C.m [] := ⟨by simp, by simp⟩
  have ren0 : ∀ oo : Nat → Option Ob, ∀ a, (oo a).map (Ob.ren (lookN [])) = oo a := by
    intro oo a
    rw [lookN_nil]
    cases oo a with
    | none => rfl
    | some x => simp [renOI]
  refine awp_loopV good (fun i => { t := lookT (ovT (ts i) base), o := ovO (os i) o0, n := n0 }) msr i0 h0 (lookN []) (weak_u [] hn hm (hl i0 h0) (hlo i0 h0) (by rw [lookN_nil]; exact ht) (fun a ha => (ho a ha).trans (ren0 _ a).symm)) ?_
  intro i hi K' hK
  exact h i hi K' fun s' i' rn h1 h2 h3 h4 h5 => hK s' i' (lookN rn) h2 h3 (weak_u rn h5 hm (hl i' h2) (hlo i' h2) h1 h4)
end
end Av
end

section
namespace Av
open Go

/-- One operation's outcome, and what follows. -/
def awR (A W : Nat → Bool) (b : Nat) (s : St) (d : Option Nat) (J : St → Prop) (m : AM E) : Prop := m.wp (restrB A s.o) fun e => okW W b e.os ∧ J (s.eff d e)

def awRdR (A W : Nat → Bool) (b : Nat) (s : St) (d : Option Nat) (J : St → Prop) (k : Ob → AM E) (x : Option Ob) : Prop :=
  match x with
  | some ob => awR A W b s d J (k ob)
  | none => False

/-- One operation at its place, guard and all. -/
def runG (Γ : Env) (A W : Nat → Bool) (b : Nat) (s : St) (x : AO) (J : St → Prop) : Prop := awG Γ A W b s x J

/-- The rest of a region: a tree of orders. -/
def runP (Γ : Env) (fz : Nat → Bool) (b0 : Nat) (K : St → Prop) (t : OP) (s : St) : Prop := awP Γ fz b0 K t s
def runP' (Γ : Env) (fz : Nat → Bool) (b0 : Nat) (K : St → Prop) (t : OP) (s : St) : Prop := awP' Γ fz b0 K t s

def awQR (Γ : Env) (A W : Nat → Bool) (b : Nat) (s : St) (x : AO) (g : Nat) (want : Bool) (v : V) (J : St → Prop) : Prop :=
  match v with
  | .sc (.bool q) => (q = want → runG Γ A W b (s.put (some g) (.bool want)) { d := x.d, op := x.op } J) ∧ (q = !want → J ((s.put (some g) (.bool !want)).put x.d V.und))
  | .tup [] => J (s.put x.d V.und)
  | _ => False

def awCvR (Γ : Env) (A W : Nat → Bool) (b : Nat) (s : St) (d : Option Nat) (v : V) (acts : List V) (J : St → Prop) : Prop :=
  match v with
  | .clo f cap => awCallR Γ A W b s d f.f (f.args acts cap) J
  | _ => False

section
variable {Γ : Env} {A W : Nat → Bool} {fz : Nat → Bool} {b b0 : Nat} {s : St} {d : Option Nat} {J K : St → Prop}

theorem runP_done : runP Γ fz b0 K .done s ↔ K s := by simp only [runP, awP]
theorem runP_one {j : Nat} {X : Bool} {acl : List Nat} {x : AO} {t : OP} : runP Γ fz b0 K (.one j X acl x t) s ↔ runG Γ (rA X acl fz b0) (rW X acl fz b0) (b0 + j * KK) s x (runP Γ fz b0 K t) := by
  simp only [runP, awP, runG]; exact Iff.rfl
theorem runP_or {j : Nat} {X : Bool} {acl : List Nat} {x : AO} {t r : OP} : runP Γ fz b0 K (.or j X acl x t r) s ↔ runG Γ (rA X acl fz b0) (rW X acl fz b0) (b0 + j * KK) s x (runP Γ fz b0 K t) ∧ runP' Γ fz b0 K r s := by
  simp only [runP, runP', awP, runG]; exact Iff.rfl
theorem runP'_or {j : Nat} {X : Bool} {acl : List Nat} {x : AO} {t r : OP} : runP' Γ fz b0 K (.or j X acl x t r) s ↔ runG Γ (rA X acl fz b0) (rW X acl fz b0) (b0 + j * KK) s x (runP Γ fz b0 K t) ∧ runP' Γ fz b0 K r s := by
  simp only [runP, runP', awP', runG]; exact Iff.rfl
theorem runP'_done : runP' Γ fz b0 K .done s ↔ True := by simp only [runP', awP']
theorem runG_call {f : FuncId} {as : List Opd} : runG Γ A W b s ⟨d, .call f as, none⟩ J ↔ awCallR Γ A W b s d f (as.map s.ev) J := Iff.rfl
theorem runG_callv {x : Opd} {as : List Opd} : runG Γ A W b s ⟨d, .callv x as, none⟩ J ↔ awCvR Γ A W b s d (s.ev x) (as.map s.ev) J := by
  simp only [runG, awG, awOpR, awCvR]
  cases s.ev x <;> rfl
theorem awCvR_clo {f : FuncId} {cap acts : List V} : awCvR Γ A W b s d (.clo (.n f) cap) acts J ↔ awCallR Γ A W b s d f (acts ++ cap) J := Iff.rfl
theorem runG_q {aop : AOp} {g : Nat} {want : Bool} : runG Γ A W b s ⟨d, aop, some (g, want)⟩ J ↔ awQR Γ A W b s ⟨d, aop, none⟩ g want (s.t g) J := by
  simp only [runG, awG]
  constructor
  · rintro ⟨q, hq, h1, h2⟩
    unfold awQR
    rcases q with _ | q
    · have hq : s.t g = .tup [] := hq
      rw [hq]
      exact h2 (by simp)
    · have hq : s.t g = .bool q := hq
      rw [hq]
      refine ⟨fun e => ?_, fun e => ?_⟩
      · rw [put_self (by rw [hq, e])]; exact h1 (by rw [e])
      · rw [put_self (by rw [hq, e])]
        exact h2 (by rw [e]; cases want <;> simp)
  · intro h
    unfold awQR at h
    split at h
    · rename_i q hq
      refine ⟨some q, hq, fun e => ?_, fun e => ?_⟩
      · cases e
        have := h.1 rfl
        rw [put_self hq] at this
        exact this
      · have e' : q = !want := by cases q <;> cases want <;> simp_all
        have := h.2 e'
        rw [put_self (by rw [hq, e'])] at this
        exact this
    · rename_i hq
      exact ⟨none, hq, (fun e => by cases e), fun _ => h⟩
    · exact h.elim
theorem awQR_bool {x : AO} {g : Nat} {want q : Bool} : awQR Γ A W b s x g want (.sc (.bool q)) J ↔ (q = want → runG Γ A W b (s.put (some g) (.bool want)) ⟨x.d, x.op, none⟩ J) ∧ (q = !want → J ((s.put (some g) (.bool !want)).put x.d V.und)) := Iff.rfl
theorem awQR_und {x : AO} {g : Nat} {want : Bool} : awQR Γ A W b s x g want (.tup []) J ↔ J (s.put x.d V.und) := Iff.rfl
theorem awR_no : awR A W b s d J .no ↔ False := Iff.rfl
theorem awR_ret {e : E} : awR A W b s d J (.ret e) ↔ okW W b e.os ∧ J (s.eff d e) := Iff.rfl
theorem awR_asrt {p : Prop} {m : AM E} : awR A W b s d J (.asrt p m) ↔ p ∧ awR A W b s d J m := Iff.rfl
theorem awRdR_some {k : Ob → AM E} {ob : Ob} : awRdR A W b s d J k (some ob) ↔ awR A W b s d J (k ob) := Iff.rfl
theorem awR_rd {a : Nat} {k : Ob → AM E} : awR A W b s d J (.rd a k) ↔ awRdR A W b s d J k (restrB A s.o a) := by
  unfold awRdR
  cases h : restrB A s.o a with
  | none => simp [awR, AM.wp, h]
  | some ob => simp [awR, AM.wp, h]
theorem restrB_app (A : Nat → Bool) (o : Nat → Option Ob) (a : Nat) : restrB A o a = if A a = true then o a else none := rfl
theorem okW_nil : okW W b [] ↔ True := by simp [okW]
theorem okW_cons {q : Nat × Ob} {r : List (Nat × Ob)} : okW W b (q :: r) ↔ (W q.1 || (decide (b ≤ q.1) && decide (q.1 < b + KK))) = true ∧ okW W b r := by simp [okW]
theorem rA_app (X : Bool) (acl : List Nat) (fz : Nat → Bool) (b0 a : Nat) : rA X acl fz b0 a = ((decide (a < b0) && (X || fz a)) || acl.any fun i => decide (b0 + i * KK ≤ a) && decide (a < b0 + i * KK + KK)) := rfl
theorem rW_app (X : Bool) (acl : List Nat) (fz : Nat → Bool) (b0 a : Nat) : rW X acl fz b0 a = (X && ((decide (a < b0) && !fz a) || acl.any fun i => decide (b0 + i * KK ≤ a) && decide (a < b0 + i * KK + KK))) := rfl

theorem awCR_N {f : FuncId} {acts : List V} {res : V} (hc : shutOkL (restrB A s.o) none acts) (h : EvN Γ f (shutL (restrB A s.o) acts) res) (hk : J { t := (s.put d res).t, o := s.o, n := s.n }) : awCallR Γ A W b s d f acts J :=
  callR_n h.1 rfl hc h.2.1 h.2.2 hk
theorem awCR_C {f : FuncId} {acts : List V} {res : V} (hc : shutOkL (restrB A s.o) (some []) acts) (h : EvC Γ f (shutL (restrB A s.o) acts) res) (hk : J { t := (s.put d res).t, o := s.o, n := s.n }) : awCallR Γ A W b s d f acts J :=
  callR_c h.1 rfl hc h.2 hk
end

section
variable {C : Ctx} {nt : Nat} {s : St} {K : St → Prop} {E : Nat → St → Prop} {R : St → Prop}
theorem awp_seqP {ks L : List Nat} {ot : OT} {p : OP} {ops : List AO} {ahead : List (List Nat)} {y : AC} (N : Nat) (fz : Nat → Bool) (hN : ops.length = N) (hc : okR ops ahead L ot = true) (hp : plan (ris ops ahead L) ot = p)
    (h : ∀ K' : St → Prop, (∀ s', AWp C nt y s' K E R → K' s') → runP C.env fz s.n (fun s' => K' ((s'.wn (s.n + N * KK)).keep ks)) p s) : AWp C nt (seqK ks (regK L ot p ops ahead) y) s K E R := by
  subst hN
  exact awp_seqK (awp_regK fz hc hp (h _ fun _ h => h))
theorem awp_regP {L : List Nat} {ot : OT} {p : OP} {ops : List AO} {ahead : List (List Nat)} (N : Nat) (fz : Nat → Bool) (hN : ops.length = N) (hc : okR ops ahead L ot = true) (hp : plan (ris ops ahead L) ot = p)
    (h : ∀ K' : St → Prop, (∀ s', K s' → K' s') → runP C.env fz s.n (fun s' => K' (s'.wn (s.n + N * KK))) p s) : AWp C nt (regK L ot p ops ahead) s K E R := by
  subst hN
  exact awp_regK fz hc hp (h _ fun _ h => h)
end

end Av
end

section
set_option linter.unusedVariables false
namespace Av
open Go
def shHd (off len : Nat) : Option Ob → V
  | some (.buf _ s xs) => .sl s ((xs.drop off).take len)
  | _ => .top
def shPtr (off : Nat) : Option Ob → V
  | some (.box _ cs) => .ro cs off
  | _ => .top
/-- Two ways, by a test. -/
def awB (q want : Bool) (A B : Prop) : Prop := (q = want → A) ∧ (q = !want → B)
@[congr] theorem awB_congr {q q2 want : Bool} {A B : Prop} (h : q = q2) : awB q want A B = awB q2 want A B := by rw [h]
@[go_sem ↓] theorem awB_1 {A B : Prop} : awB true true A B = A := by simp [awB]
@[go_sem ↓] theorem awB_2 {A B : Prop} : awB false true A B = B := by simp [awB]
@[go_sem ↓] theorem awB_3 {A B : Prop} : awB true false A B = B := by simp [awB]
@[go_sem ↓] theorem awB_4 {A B : Prop} : awB false false A B = A := by simp [awB]
theorem awB_t {q : Bool} {A B : Prop} (h1 : q = true → A) (h2 : q = false → B) : awB q true A B := ⟨h1, h2⟩
theorem awB_f {q : Bool} {A B : Prop} (h1 : q = false → A) (h2 : q = true → B) : awB q false A B := ⟨h1, h2⟩
section
variable {Γ : Env} {A W : Nat → Bool} {fz : Nat → Bool} {b b0 : Nat} {r : List AO} {s : St} {d : Option Nat} {J K : St → Prop} {o : Nat → Option Ob} {br : List Nat} {B : Option (List Nat)}
@[go_sem] theorem u1 : runO Γ b [] s K = K { t := s.t, o := s.o, n := b } := propext Iff.rfl
@[go_sem] theorem u2 {x : AO} : runO Γ b (x :: r) s K = (match x.g with | none => (match x.op with | .call f as => awC Γ b r s x.d f (as.map s.ev) K | .callv y as => awCv Γ b r s x.d (s.ev y) (as.map s.ev) K | op => awS Γ b r s x.d K (sem b s.ev op)) | some (g, want) => awQ Γ b r s ⟨x.d, x.op, none⟩ g want (s.t g) K) := by
  obtain ⟨d, op, g⟩ := x
  cases g with
  | some p => obtain ⟨g, want⟩ := p; exact propext runO_q
  | none =>
    cases op
    case callv y as => exact propext runO_callv
    all_goals rfl
@[go_sem] theorem u3 {f : FuncId} {cap acts : List V} : awCv Γ b r s d (.clo (.n f) cap) acts K = awC Γ b r s d f (acts ++ cap) K := propext Iff.rfl
@[go_sem] theorem u4 {x : AO} {g : Nat} {want q : Bool} : awQ Γ b r s x g want (.sc (.bool q)) K = awB q want (runO Γ b (⟨x.d, x.op, none⟩ :: r) (s.put (some g) (.bool want)) K) (runO Γ (b + KK) r ((s.put (some g) (.bool !want)).put x.d V.und) K) := propext Iff.rfl
@[go_sem] theorem u5 {x : AO} {g : Nat} {want : Bool} : awQ Γ b r s x g want (.tup []) K = runO Γ (b + KK) r (s.put x.d V.und) K := propext Iff.rfl
@[go_sem] theorem u6 {e : E} : awS Γ b r s d K (.ret e) = runO Γ (b + KK) r (s.eff d e) K := propext Iff.rfl
@[go_sem] theorem u7 {p : Prop} {m : AM E} : awS Γ b r s d K (.asrt p m) = (p ∧ awS Γ b r s d K m) := propext Iff.rfl
@[go_sem] theorem u8 {a : Nat} {k : Ob → AM E} : awS Γ b r s d K (.rd a k) = awRd Γ b r s d K k (s.o a) := propext awS_rd
@[go_sem] theorem u9 {k : Bool → AM E} : awS Γ b r s d K (.any k) = ∀ t, awS Γ b r s d K (k t) := propext Iff.rfl
@[go_sem] theorem u10 : awS Γ b r s d K .no = False := propext Iff.rfl
@[go_sem] theorem u11 {k : Ob → AM E} {ob : Ob} : awRd Γ b r s d K k (some ob) = awS Γ b r s d K (k ob) := propext Iff.rfl
@[go_sem] theorem u12 : runP Γ fz b0 K .done s = K s := propext runP_done
@[go_sem] theorem u13 {j : Nat} {X : Bool} {acl : List Nat} {x : AO} {t r : OP} : runP Γ fz b0 K (.or j X acl x t r) s = (runG Γ (rA X acl fz b0) (rW X acl fz b0) (b0 + j * KK) s x (runP Γ fz b0 K t) ∧ runP' Γ fz b0 K r s) := propext runP_or
@[go_sem] theorem u14 {j : Nat} {X : Bool} {acl : List Nat} {x : AO} {t r : OP} : runP' Γ fz b0 K (.or j X acl x t r) s = (runG Γ (rA X acl fz b0) (rW X acl fz b0) (b0 + j * KK) s x (runP Γ fz b0 K t) ∧ runP' Γ fz b0 K r s) := propext runP'_or
@[go_sem] theorem u15 {j : Nat} {X : Bool} {acl : List Nat} {x : AO} {t : OP} : runP Γ fz b0 K (.one j X acl x t) s = runG Γ (rA X acl fz b0) (rW X acl fz b0) (b0 + j * KK) s x (runP Γ fz b0 K t) := propext runP_one
@[go_sem] theorem u16 : runP' Γ fz b0 K .done s = True := propext runP'_done
@[go_sem] theorem u17 {x : AO} : runG Γ A W b s x J = (match x.g with | none => (match x.op with | .call f as => awCallR Γ A W b s x.d f (as.map s.ev) J | .callv y as => awCvR Γ A W b s x.d (s.ev y) (as.map s.ev) J | op => awR A W b s x.d J (sem b s.ev op)) | some (g, want) => awQR Γ A W b s ⟨x.d, x.op, none⟩ g want (s.t g) J) := by
  obtain ⟨d, op, g⟩ := x
  cases g with
  | some p => obtain ⟨g, want⟩ := p; exact propext runG_q
  | none =>
    cases op
    case callv y as => exact propext runG_callv
    all_goals rfl
@[go_sem] theorem u18 {f : FuncId} {cap acts : List V} : awCvR Γ A W b s d (.clo (.n f) cap) acts J = awCallR Γ A W b s d f (acts ++ cap) J := propext Iff.rfl
@[go_sem] theorem u19 {x : AO} {g : Nat} {want q : Bool} : awQR Γ A W b s x g want (.sc (.bool q)) J = awB q want (runG Γ A W b (s.put (some g) (.bool want)) ⟨x.d, x.op, none⟩ J) (J ((s.put (some g) (.bool !want)).put x.d V.und)) := propext Iff.rfl
@[go_sem] theorem u20 {x : AO} {g : Nat} {want : Bool} : awQR Γ A W b s x g want (.tup []) J = J (s.put x.d V.und) := propext Iff.rfl
@[go_sem] theorem u21 : awR A W b s d J .no = False := propext Iff.rfl
@[go_sem] theorem u22 {e : E} : awR A W b s d J (.ret e) = (okW W b e.os ∧ J (s.eff d e)) := propext Iff.rfl
@[go_sem] theorem u23 {p : Prop} {m : AM E} : awR A W b s d J (.asrt p m) = (p ∧ awR A W b s d J m) := propext Iff.rfl
@[go_sem] theorem u24 {a : Nat} {k : Ob → AM E} : awR A W b s d J (.rd a k) = awRdR A W b s d J k (restrB A s.o a) := propext awR_rd
@[go_sem] theorem u25 {k : Ob → AM E} {ob : Ob} : awRdR A W b s d J k (some ob) = awR A W b s d J (k ob) := propext Iff.rfl
@[go_sem] theorem u26 {A : Nat → Bool} {o : Nat → Option Ob} {a : Nat} : restrB A o a = if A a = true then o a else none := rfl
@[go_sem] theorem u27 {W : Nat → Bool} {b : Nat} : okW W b [] = True := propext okW_nil
@[go_sem] theorem u28 {W : Nat → Bool} {b : Nat} {q : Nat × Ob} {r : List (Nat × Ob)} : okW W b (q :: r) = ((W q.1 || (decide (b ≤ q.1) && decide (q.1 < b + KK))) = true ∧ okW W b r) := propext okW_cons
@[go_sem] theorem u29 {X : Bool} {acl : List Nat} {fz : Nat → Bool} {b0 a : Nat} : rA X acl fz b0 a = ((decide (a < b0) && (X || fz a)) || acl.any fun i => decide (b0 + i * KK ≤ a) && decide (a < b0 + i * KK + KK)) := rfl
@[go_sem] theorem u30 {X : Bool} {acl : List Nat} {fz : Nat → Bool} {b0 a : Nat} : rW X acl fz b0 a = (X && ((decide (a < b0) && !fz a) || acl.any fun i => decide (b0 + i * KK ≤ a) && decide (a < b0 + i * KK + KK))) := rfl
@[go_sem] theorem u31 {s : St} {n : Nat} : s.wn n = { t := s.t, o := s.o, n := n } := rfl
@[go_sem] theorem u32 {ks : List Nat} {s : St} : s.keep ks = { t := lookT (ks.map fun k => (k, s.t k)), o := s.o, n := s.n } := rfl
@[go_sem] theorem u33 {α : Type} {f : Nat → α} {a : Nat} {v : α} {i : Nat} : upd f a v i = if i = a then v else f i := rfl
@[go_sem] theorem u34 {k : Nat} {v : V} {r : List (Nat × V)} {i : Nat} : lookT ((k, v) :: r) i = if i = k then v else lookT r i := rfl
@[go_sem] theorem u35 {i : Nat} : lookT [] i = .top := rfl
@[go_sem] theorem u36 {k : Nat} {v : Ob} {r : List (Nat × Ob)} {i : Nat} : lookO ((k, v) :: r) i = if i = k then some v else lookO r i := rfl
@[go_sem] theorem u37 {i : Nat} : lookO [] i = none := rfl
@[go_sem] theorem u38 {args : List V} {ins : List Ob} : entrySt args ins = { t := fun i => (args[i]?).getD .top, o := fun k => ins[k]?, n := ins.length } := rfl
@[go_sem] theorem u39 {ts : List (Nat × V)} {os : List (Nat × Ob)} {n : Nat} : mkSt ts os n = { t := lookT ts, o := lookO os, n := n } := rfl
@[go_sem] theorem u40 {α : Type} : ([] : List α).length = 0 := rfl
@[go_sem] theorem u41 {α : Type} {a : α} {l : List α} : (a :: l).length = l.length + 1 := rfl
@[go_sem] theorem u42 {α : Type} {a : α} {l : List α} : (a :: l)[0]? = some a := rfl
@[go_sem] theorem u43 {α : Type} {a : α} {l : List α} {i : Nat} : (a :: l)[i + 1]? = l[i]? := rfl
@[go_sem] theorem u44 {α : Type} {a b : α} : (some a).getD b = a := rfl
@[go_sem] theorem u45 {α : Type} {b : α} : (none : Option α).getD b = b := rfl
@[go_sem] theorem u46 {α β : Type} {f : α → β} : (none : Option α).map f = none := rfl
@[go_sem] theorem u47 {α β : Type} {f : α → β} {a : α} : (some a).map f = some (f a) := rfl
@[go_sem] theorem u48 {α β : Type} {f : α → β} : ([] : List α).map f = [] := rfl
@[go_sem] theorem u49 {α β : Type} {f : α → β} {a : α} {l : List α} : (a :: l).map f = f a :: l.map f := rfl
@[go_sem] theorem u50 {α : Type} {l : List α} : [] ++ l = l := rfl
@[go_sem] theorem u51 {α : Type} {a : α} {l r : List α} : (a :: l) ++ r = a :: (l ++ r) := rfl
@[go_sem] theorem u52 {α : Type} {l : List α} : l.take 0 = [] := rfl
@[go_sem] theorem u53 {α : Type} {a : α} {l : List α} {n : Nat} : (a :: l).take (n + 1) = a :: l.take n := rfl
@[go_sem] theorem u54 {α : Type} {l : List α} : l.drop 0 = l := rfl
@[go_sem] theorem u55 {α : Type} {a : α} {l : List α} {n : Nat} : (a :: l).drop (n + 1) = l.drop n := rfl
@[go_sem] theorem u56 {α : Type} {p : α → Bool} : ([] : List α).any p = false := rfl
@[go_sem] theorem u57 {α : Type} {p : α → Bool} {a : α} {l : List α} : (a :: l).any p = (p a || l.any p) := rfl
@[go_sem] theorem u58 {α β : Type} {f : β → α → β} {b : β} : ([] : List α).foldl f b = b := rfl
@[go_sem] theorem u59 {α β : Type} {f : β → α → β} {b : β} {a : α} {l : List α} : (a :: l).foldl f b = l.foldl f (f b a) := rfl
@[go_sem] theorem u60 {α : Type} {a : α} : List.replicate 0 a = [] := rfl
@[go_sem] theorem u61 {α : Type} {n : Nat} {a : α} : List.replicate (n + 1) a = a :: List.replicate n a := rfl
@[go_sem] theorem u62 {α : Type} {a b : α} {l : List α} : (a :: l).set 0 b = b :: l := rfl
@[go_sem] theorem u63 {α : Type} {a b : α} {l : List α} {n : Nat} : (a :: l).set (n + 1) b = a :: l.set n b := rfl
@[go_sem] theorem u64 {n : Nat} : n + 0 = n := rfl
@[go_sem] theorem u65 {n : Nat} : (n : Int).toNat = n := rfl
@[go_sem] theorem u66 {α : Type} {i : Nat} : ([] : List α)[i]? = none := by simp
@[go_sem] theorem u67 {α : Type} {l : List α} : l ++ [] = l := by simp
@[go_sem] theorem u68 {α : Type} {n : Nat} : ([] : List α).take n = [] := by simp
@[go_sem] theorem u69 {α : Type} {n : Nat} : ([] : List α).drop n = [] := by simp
@[go_sem] theorem u70 {n : Nat} : 0 + n = n := by simp
@[go_sem] theorem u71 {n : Nat} : (0 ≤ (n : Int)) = True := by simp
@[go_sem] theorem u72 {n : Nat} : (n ≤ n) = True := by simp
@[go_sem] theorem u73 {α : Type} {p : α → Prop} {a : α} {l : List α} : (∀ x ∈ a :: l, p x) = (p a ∧ ∀ x ∈ l, p x) := by simp
@[go_sem] theorem u74 {α : Type} {p : α → Prop} : (∀ x ∈ ([] : List α), p x) = True := by simp
@[go_sem] theorem u75 {α : Type} {a : α} : (a ∈ ([] : List α)) = False := by simp
@[go_sem] theorem u76 {p : Prop} : (True ∧ p) = p := by simp
@[go_sem] theorem u77 {p : Prop} : (p ∧ True) = p := by simp
@[go_sem] theorem u78 {p : Prop} : (False ∧ p) = False := by simp
@[go_sem] theorem u79 {p : Prop} : (True ∨ p) = True := by simp
@[go_sem] theorem u80 {p : Prop} : (p ∨ True) = True := by simp
@[go_sem] theorem u81 {p : Prop} : (False ∨ p) = p := by simp
@[go_sem] theorem u82 {p : Prop} : (p ∨ False) = p := by simp
@[go_sem] theorem u83 : (¬ True) = False := by simp
@[go_sem] theorem u84 : (¬ False) = True := by simp
@[go_sem] theorem u85 {p : Prop} : (False → p) = True := by simp
@[go_sem] theorem u86 {p : Prop} : (True → p) = p := by simp
@[go_sem] theorem u87 {α : Type} : (α → True) = True := by simp
@[go_sem] theorem u88 {p : Prop} : (p → True) = True := by simp
@[go_sem] theorem u89 : (false = true) = False := by simp
@[go_sem] theorem u90 : (true = false) = False := by simp
@[go_sem] theorem u91 {α : Type} {a b : α} : (some a = some b) = (a = b) := by simp
@[go_sem] theorem u92 {α : Type} {a : α} : (a = a) = True := by simp
@[go_sem] theorem u93 : decide True = true := by simp
@[go_sem] theorem u94 : decide False = false := by simp
@[go_sem] theorem u95 : (!true) = false := rfl
@[go_sem] theorem u96 : (!false) = true := rfl
@[go_sem] theorem u97 {b : Bool} : (true && b) = b := rfl
@[go_sem] theorem u98 {b : Bool} : (false && b) = false := rfl
@[go_sem] theorem u99 {b : Bool} : (true || b) = true := rfl
@[go_sem] theorem u100 {b : Bool} : (false || b) = b := rfl
@[go_sem] theorem u101 {α : Type} {a b : α} : (a ≠ b) = ¬ (a = b) := rfl
@[go_sem] theorem u102 {b : Bool} : (b && true) = b := by simp
@[go_sem] theorem u103 {b : Bool} : (b && false) = false := by simp
@[go_sem] theorem u104 {b : Bool} : (b || true) = true := by simp
@[go_sem] theorem u105 {b : Bool} : (b || false) = b := by simp
@[go_sem] theorem u106 {v : V} : conv o br B v .top = True := propext (by apply cv_top)
@[go_sem] theorem u107 {v u : Value} : conv o br B (.sc v) (.sc u) = (v = u) := propext (by apply cv_sc)
@[go_sem] theorem u108 {s : Nat} {ys : List V} : conv o br B (.sc (.slice none 0 0)) (.sl s ys) = (ys = []) := propext (by apply cv_nil)
@[go_sem] theorem u109 {s s' : Nat} {xs ys : List V} : conv o br B (.sl s xs) (.sl s' ys) = (s = s' ∧ xs = ys) := propext (by apply cv_sl)
@[go_sem] theorem u110 {a off len s : Nat} {ys : List V} : conv o br B (.hd a off len) (.sl s ys) = (okB B a ∧ a ∉ br ∧ ∃ wr xs, o a = some (.buf wr s xs) ∧ ys = (xs.drop off).take len) := propext (by apply cv_hd)
@[go_sem] theorem u111 {a off off' : Nat} {es : List V} : conv o br B (.ptr a off) (.ro es off') = (okB B a ∧ a ∉ br ∧ off' = off ∧ closedL es ∧ ∃ wr cs, o a = some (.box wr cs) ∧ convL o br B cs es) := propext (by apply cv_ptr)
@[go_sem] theorem u112 {off off' : Nat} {cs es : List V} : conv o br B (.ro cs off) (.ro es off') = (cs = es ∧ off' = off) := propext (by apply cv_ro)
@[go_sem] theorem u113 {cs es : List V} : conv o br B (.agg cs) (.agg es) = convL o br B cs es := propext (by apply cv_agg)
@[go_sem] theorem u114 {cs es : List V} : conv o br B (.tup cs) (.tup es) = convL o br B cs es := propext (by apply cv_tup)
@[go_sem] theorem u115 {f g : FK} {cs es : List V} : conv o br B (.clo f cs) (.clo g es) = (f = g ∧ convL o br B cs es) := propext (by apply cv_clo)
@[go_sem] theorem u116  : conv o br B .nn .nn = True := propext (by apply cv_nn)
@[go_sem] theorem u117 : convL o br B [] [] = True := propext (cvL_nil _ _ _)
@[go_sem] theorem u118 {v e : V} {r r' : List V} : convL o br B (v :: r) (e :: r') = (conv o br B v e ∧ convL o br B r r') := propext (cvL_cons _ _ _ _ _ _ _)
@[go_sem] theorem u119 {a : Nat} : okB none a = True := propext (okB_none _)
@[go_sem] theorem u120 {l : List Nat} {a : Nat} : okB (some l) a = (a ∈ l) := propext (okB_some _ _)
@[go_sem] theorem u121 {wr0 : Bool} {s0 s : Nat} {xs0 : List V} {p : List V → Prop} : (∃ wr xs, some (Ob.buf wr0 s0 xs0) = some (Ob.buf wr s xs) ∧ p xs) = (s0 = s ∧ p xs0) := propext exists_buf
@[go_sem] theorem u122 {wr0 : Bool} {s0 s : Nat} {xs0 : List V} {p : List V → Prop} : (∃ wr xs, Ob.buf wr0 s0 xs0 = Ob.buf wr s xs ∧ p xs) = (s0 = s ∧ p xs0) := propext exists_buf'
@[go_sem] theorem u123 {wr0 : Bool} {cs0 : List V} {p : List V → Prop} : (∃ wr cs, some (Ob.box wr0 cs0) = some (Ob.box wr cs) ∧ p cs) = p cs0 := propext exists_box
@[go_sem] theorem u124 {wr0 : Bool} {cs0 : List V} {p : List V → Prop} : (∃ wr cs, Ob.box wr0 cs0 = Ob.box wr cs ∧ p cs) = p cs0 := propext exists_box'
@[go_sem] theorem u125 {wr0 : Bool} {s0 : Nat} {xs0 : List V} : (∃ wr s xs, some (Ob.buf wr0 s0 xs0) = some (Ob.buf wr s xs)) = True := eq_true ⟨wr0, s0, xs0, rfl⟩
@[go_sem] theorem u126 {wr0 : Bool} {s0 : Nat} {xs0 : List V} : (∃ wr s xs, Ob.buf wr0 s0 xs0 = Ob.buf wr s xs) = True := eq_true ⟨wr0, s0, xs0, rfl⟩
@[go_sem] theorem u127 {k : IntKind} {a b : Int} : (Value.int k a = Value.int k b) = (a = b) := by simp
@[go_sem] theorem u128 {a b : Bool} : (Value.bool a = Value.bool b) = (a = b) := by simp
@[go_sem] theorem u129 {l : List UInt8} : (⟨l.toArray⟩ : ByteArray).size = l.length := str_size l
@[go_sem] theorem u130 {l : List UInt8} : l.toArray.toList = l := by simp
@[go_sem] theorem u131 {l : List UInt8} {a b : Nat} : (⟨l.toArray⟩ : ByteArray).extract a b = ⟨((l.drop a).take (b - a)).toArray⟩ := str_cut l a b
@[go_sem] theorem u132 {a b : List UInt8} : binS .add ⟨a.toArray⟩ ⟨b.toArray⟩ = .asrt (a.length + b.length < 2 ^ 62) (.ret { v := V.str (a ++ b) }) := bin_add a b
@[go_sem] theorem u133 {a b : List UInt8} : binS .eql ⟨a.toArray⟩ ⟨b.toArray⟩ = .ret { v := .bool (a == b) } := bin_eql a b
@[go_sem] theorem u134 {a b : List UInt8} : binS .neq ⟨a.toArray⟩ ⟨b.toArray⟩ = .ret { v := .bool (!(a == b)) } := bin_neq a b
@[go_sem] theorem u135 {a b : List UInt8} : binS .lss ⟨a.toArray⟩ ⟨b.toArray⟩ = .ret { v := .bool (Op.bytesLess a b) } := bin_lss a b
@[go_sem] theorem u136 {a b : List UInt8} : binS .leq ⟨a.toArray⟩ ⟨b.toArray⟩ = .ret { v := .bool (Op.bytesLess a b || a == b) } := bin_leq a b
@[go_sem] theorem u137 {a b : List UInt8} : binS .gtr ⟨a.toArray⟩ ⟨b.toArray⟩ = .ret { v := .bool (!(Op.bytesLess a b || a == b)) } := bin_gtr a b
@[go_sem] theorem u138 {a b : List UInt8} : binS .geq ⟨a.toArray⟩ ⟨b.toArray⟩ = .ret { v := .bool (!(Op.bytesLess a b)) } := bin_geq a b
@[go_sem] theorem u139 {a b : List UInt8} : (Value.string ⟨a.toArray⟩ = Value.string ⟨b.toArray⟩) = (a = b) := by simp
@[go_sem] theorem u140 {v : Value} : V.shut o (.sc v) = .sc v := by simp only [V.shut]
@[go_sem] theorem u141  : V.shut o .nn = .nn := by simp only [V.shut]
@[go_sem] theorem u142  : V.shut o .top = .top := by simp only [V.shut]
@[go_sem] theorem u143 {k : Nat} {xs : List V} : V.shut o (.sl k xs) = .sl k xs := by simp only [V.shut]
@[go_sem] theorem u144 {cs : List V} {k : Nat} : V.shut o (.ro cs k) = .ro cs k := by simp only [V.shut]
@[go_sem] theorem u145 {cs : List V} : V.shut o (.agg cs) = .agg (shutL o cs) := by simp only [V.shut]
@[go_sem] theorem u146 {cs : List V} : V.shut o (.tup cs) = .tup (shutL o cs) := by simp only [V.shut]
@[go_sem] theorem u147 {f : FK} {cs : List V} : V.shut o (.clo f cs) = .clo f (shutL o cs) := by simp only [V.shut]
@[go_sem] theorem u148 {a off len : Nat} : V.shut o (.hd a off len) = shHd off len (o a) := by simp only [V.shut, shHd] <;> rfl
@[go_sem] theorem u149 {a off : Nat} : V.shut o (.ptr a off) = shPtr off (o a) := by simp only [V.shut, shPtr] <;> rfl
@[go_sem] theorem u150 {off len s : Nat} {wr : Bool} {xs : List V} : shHd off len (some (.buf wr s xs)) = .sl s ((xs.drop off).take len) := rfl
@[go_sem] theorem u151 {off : Nat} {wr : Bool} {cs : List V} : shPtr off (some (.box wr cs)) = .ro cs off := rfl
@[go_sem] theorem u152 : shutL o [] = [] := by simp only [shutL]
@[go_sem] theorem u153 {v : V} {cs : List V} : shutL o (v :: cs) = v.shut o :: shutL o cs := by simp only [shutL]
@[go_sem] theorem u154 {v : Value} : V.shutOk o B (.sc v) = True := by simp only [V.shutOk]
@[go_sem] theorem u155  : V.shutOk o B .nn = True := by simp only [V.shutOk]
@[go_sem] theorem u156  : V.shutOk o B .top = True := by simp only [V.shutOk]
@[go_sem] theorem u157 {k : Nat} {xs : List V} : V.shutOk o B (.sl k xs) = True := by simp only [V.shutOk]
@[go_sem] theorem u158 {cs : List V} {k : Nat} : V.shutOk o B (.ro cs k) = True := by simp only [V.shutOk]
@[go_sem] theorem u159 {a off len : Nat} : V.shutOk o B (.hd a off len) = (okB B a ∧ ∃ wr s xs, o a = some (.buf wr s xs)) := by simp only [V.shutOk]
@[go_sem] theorem u160 {a off : Nat} : V.shutOk o B (.ptr a off) = (okB B a ∧ ∃ wr cs, o a = some (.box wr cs) ∧ closedL cs) := by simp only [V.shutOk]
@[go_sem] theorem u161 {cs : List V} : V.shutOk o B (.agg cs) = shutOkL o B cs := by simp only [V.shutOk]
@[go_sem] theorem u162 {cs : List V} : V.shutOk o B (.tup cs) = shutOkL o B cs := by simp only [V.shutOk]
@[go_sem] theorem u163 {f : FK} {cs : List V} : V.shutOk o B (.clo f cs) = shutOkL o B cs := by simp only [V.shutOk]
@[go_sem] theorem u164 : shutOkL o B [] = True := by simp only [shutOkL]
@[go_sem] theorem u165 {v : V} {cs : List V} : shutOkL o B (v :: cs) = (v.shutOk o B ∧ shutOkL o B cs) := by simp only [shutOkL]
@[go_sem] theorem u166 {v : Value} : V.closed (.sc v) = True := by simp only [V.closed]
@[go_sem] theorem u167  : V.closed .nn = True := by simp only [V.closed]
@[go_sem] theorem u168  : V.closed .top = True := by simp only [V.closed]
@[go_sem] theorem u169 {k : Nat} {xs : List V} : V.closed (.sl k xs) = True := by simp only [V.closed]
@[go_sem] theorem u170 {cs : List V} {k : Nat} : V.closed (.ro cs k) = True := by simp only [V.closed]
@[go_sem] theorem u171 {cs : List V} : V.closed (.agg cs) = closedL cs := by simp only [V.closed]
@[go_sem] theorem u172 {cs : List V} : V.closed (.tup cs) = closedL cs := by simp only [V.closed]
@[go_sem] theorem u173 {f : FK} {cs : List V} : V.closed (.clo f cs) = closedL cs := by simp only [V.closed]
@[go_sem] theorem u174 : closedL [] = True := by simp only [closedL]
@[go_sem] theorem u175 {v : V} {cs : List V} : closedL (v :: cs) = (v.closed ∧ closedL cs) := by simp only [closedL]
@[go_sem] theorem u176 {v : Value} : V.cells (.sc v) = [.sc v] := by simp only [V.cells]
@[go_sem] theorem u177 {k : Nat} {xs : List V} : V.cells (.sl k xs) = [.sl k xs] := by simp only [V.cells]
@[go_sem] theorem u178 {a off len : Nat} : V.cells (.hd a off len) = [.hd a off len] := by simp only [V.cells]
@[go_sem] theorem u179 {a off : Nat} : V.cells (.ptr a off) = [.ptr a off] := by simp only [V.cells]
@[go_sem] theorem u180 {cs : List V} {k : Nat} : V.cells (.ro cs k) = [.ro cs k] := by simp only [V.cells]
@[go_sem] theorem u181 {cs : List V} : V.cells (.agg cs) = cs := by simp only [V.cells]
@[go_sem] theorem u182 {f : FK} {cs : List V} : V.cells (.clo f cs) = [.clo f cs] := by simp only [V.cells]
@[go_sem] theorem u183  : V.cells .nn = [.nn] := by simp only [V.cells]
@[go_sem] theorem u184 : eqCells [] [] [] = some true := by simp only [eqCells]
@[go_sem] theorem u185 {ks : List Nat} {k k' : IntKind} {a b : Int} {xs ys : List V} : eqCells (0 :: ks) (.sc (.int k a) :: xs) (.sc (.int k' b) :: ys) = if k = k' then (eqCells ks xs ys).map ((a == b) && ·) else none := by simp only [eqCells]
@[go_sem] theorem u186 {ks : List Nat} {a b : List UInt8} {xs ys : List V} : eqCells (1 :: ks) (.sc (.string ⟨a.toArray⟩) :: xs) (.sc (.string ⟨b.toArray⟩) :: ys) = (eqCells ks xs ys).map ((a == b) && ·) := by simp only [eqCells]; congr; funext t; congr 1; rw [Bool.eq_iff_iff]; simp; show (a.toArray == b.toArray) = true ↔ a = b; simp
@[go_sem] theorem u187 {ks : List Nat} {a b : Bool} {xs ys : List V} : eqCells (2 :: ks) (.sc (.bool a) :: xs) (.sc (.bool b) :: ys) = (eqCells ks xs ys).map ((a == b) && ·) := by simp only [eqCells]
@[go_sem] theorem u188 {l : List UInt8} : (l == l) = true := by simp
@[go_sem] theorem u189 {n : Int} : (n == n) = true := by simp
@[go_sem] theorem u190 {k : IntKind} : (k == k) = true := by cases k <;> rfl
@[go_sem] theorem u191 {f : FuncId} {cap acts : List V} : awCv Γ b r s d (.clo (.m f) cap) acts K = awC Γ b r s d f (cap ++ acts) K := propext Iff.rfl
@[go_sem] theorem u192 {f : FuncId} {cap acts : List V} : awCvR Γ A W b s d (.clo (.m f) cap) acts J = awCallR Γ A W b s d f (cap ++ acts) J := propext Iff.rfl
end
attribute [go_sem] KK sem AM.int AM.str AM.slice AM.cellsAt binI St.eff St.put St.ev putO V.ofV ZC.v zcells zobs splice fillV V.mk elemOk V.small elemsOf finV sameKind mmStep Int.cast_ofNat_Int V.und
end Av
end

section
namespace Av
open Go

theorem forall_cons {α : Type} {p : α → Prop} {a : α} {l : List α} : (∀ x ∈ a :: l, p x) ↔ (p a ∧ ∀ x ∈ l, p x) := by simp
theorem forall_nil {α : Type} {p : α → Prop} : (∀ x ∈ ([] : List α), p x) ↔ True := by simp

/-- A contract, and what a call by it may show: any object that may be read (none), or nothing (some []). -/
structure EvB (Γ : Env) (f : FuncId) (args : List V) (res : V) (B : Option (List Nat)) : Prop where
  ev : Ev Γ f args [] res []
  cl : res.closed
  sh : (B = none ∧ res.noSl) ∨ B = some []

theorem EvN.b {Γ : Env} {f : FuncId} {args : List V} {res : V} (h : EvN Γ f args res) : EvB Γ f args res none := ⟨h.1, h.2.1, .inl ⟨rfl, h.2.2⟩⟩
theorem EvC.b {Γ : Env} {f : FuncId} {args : List V} {res : V} (h : EvC Γ f args res) : EvB Γ f args res (some []) := ⟨h.1, h.2, .inr rfl⟩

section
variable {Γ : Env} {A W : Nat → Bool} {b : Nat} {r : List AO} {s : St} {d : Option Nat} {f : FuncId} {acts : List V} {res : V} {J K : St → Prop} {B : Option (List Nat)}
theorem awC_A (h : EvB Γ f (shutL s.o acts) res B) (hc : shutOkL s.o B acts) (hk : runO Γ (b + KK) r { t := (s.put d res).t, o := s.o, n := s.n } K) : awC Γ b r s d f acts K := by
  obtain ⟨h1, h2, ⟨rfl, h3⟩ | rfl⟩ := h
  · exact awC_N hc ⟨h1, h2, h3⟩ hk
  · exact awC_C hc ⟨h1, h2⟩ hk
theorem awCR_A (h : EvB Γ f (shutL (restrB A s.o) acts) res B) (hc : shutOkL (restrB A s.o) B acts) (hk : J { t := (s.put d res).t, o := s.o, n := s.n }) : awCallR Γ A W b s d f acts J := by
  obtain ⟨h1, h2, ⟨rfl, h3⟩ | rfl⟩ := h
  · exact awCR_N hc ⟨h1, h2, h3⟩ hk
  · exact awCR_C hc ⟨h1, h2⟩ hk
/-- A call, its arguments as the callee sees them beside it. -/
def awCs (Γ : Env) (b : Nat) (r : List AO) (s : St) (d : Option Nat) (f : FuncId) (acts args : List V) (okf : Option (List Nat) → Prop) (K : St → Prop) : Prop :=
  args = shutL s.o acts → okf = (fun B => shutOkL s.o B acts) → awC Γ b r s d f acts K
def awCRs (Γ : Env) (A W : Nat → Bool) (b : Nat) (s : St) (d : Option Nat) (f : FuncId) (acts args : List V) (okf : Option (List Nat) → Prop) (J : St → Prop) : Prop :=
  args = shutL (restrB A s.o) acts → okf = (fun B => shutOkL (restrB A s.o) B acts) → awCallR Γ A W b s d f acts J
@[go_sem] theorem awC_s : awC Γ b r s d f acts K = awCs Γ b r s d f acts (shutL s.o acts) (fun B => shutOkL s.o B acts) K := propext ⟨fun h _ _ => h, fun h => h rfl rfl⟩
@[go_sem] theorem awCR_s : awCallR Γ A W b s d f acts J = awCRs Γ A W b s d f acts (shutL (restrB A s.o) acts) (fun B => shutOkL (restrB A s.o) B acts) J := propext ⟨fun h _ _ => h, fun h => h rfl rfl⟩
theorem awCs_A {args : List V} {okf : Option (List Nat) → Prop} (h : EvB Γ f args res B) (hc : okf B) (hk : runO Γ (b + KK) r { t := (s.put d res).t, o := s.o, n := s.n } K) : awCs Γ b r s d f acts args okf K := by
  rintro rfl rfl; exact awC_A h hc hk
theorem awCRs_A {args : List V} {okf : Option (List Nat) → Prop} (h : EvB Γ f args res B) (hc : okf B) (hk : J { t := (s.put d res).t, o := s.o, n := s.n }) : awCRs Γ A W b s d f acts args okf J := by
  rintro rfl rfl; exact awCR_A h hc hk
end

mutual
theorem closed_shut (o : Nat → Option Ob) : ∀ v : V, v.closed → v.shut o = v
  | .top, _ => by simp only [V.shut]
  | .sc _, _ => by simp only [V.shut]
  | .nn, _ => by simp only [V.shut]
  | .sl _ _, _ => by simp only [V.shut]
  | .hd _ _ _, h => h.elim
  | .ptr _ _, h => h.elim
  | .ept _ _ _, h => h.elim
  | .ro _ _, _ => by simp only [V.shut]
  | .agg cs, h => by simp only [V.shut]; rw [closedL_shut o cs h]
  | .tup cs, h => by simp only [V.shut]; rw [closedL_shut o cs h]
  | .clo _ cs, h => by simp only [V.shut]; rw [closedL_shut o cs h]
theorem closedL_shut (o : Nat → Option Ob) : ∀ cs : List V, closedL cs → shutL o cs = cs
  | [], _ => by simp only [shutL]
  | v :: r, h => by simp only [shutL]; rw [closed_shut o v h.1, closedL_shut o r h.2]
end
mutual
theorem closed_shutOk (o : Nat → Option Ob) (B : Option (List Nat)) : ∀ v : V, v.closed → v.shutOk o B
  | .top, _ => by simp only [V.shutOk]
  | .sc _, _ => by simp only [V.shutOk]
  | .nn, _ => by simp only [V.shutOk]
  | .sl _ _, _ => by simp only [V.shutOk]
  | .hd _ _ _, h => h.elim
  | .ptr _ _, h => h.elim
  | .ept _ _ _, h => h.elim
  | .ro _ _, _ => by simp only [V.shutOk]
  | .agg cs, h => by simp only [V.shutOk]; exact closedL_shutOk o B cs h
  | .tup cs, h => by simp only [V.shutOk]; exact closedL_shutOk o B cs h
  | .clo _ cs, h => by simp only [V.shutOk]; exact closedL_shutOk o B cs h
theorem closedL_shutOk (o : Nat → Option Ob) (B : Option (List Nat)) : ∀ cs : List V, closedL cs → shutOkL o B cs
  | [], _ => by simp only [shutOkL]
  | v :: r, h => by simp only [shutOkL]; exact ⟨closed_shutOk o B v h.1, closedL_shutOk o B r h.2⟩
end
/-! Short words for operations. -/
@[go_sem] def mv (d x : Nat) : AO := ⟨some d, .mov (.t x), none⟩
@[go_sem] def mc (d : Nat) (v : V) : AO := ⟨some d, .mov (.c v), none⟩
@[go_sem] def mg (d x g : Nat) (q : Bool) : AO := ⟨some d, .mov (.t x), some (g, q)⟩
@[go_sem] def ld (d s x : Nat) : AO := ⟨some d, .load false s (.t x), none⟩
@[go_sem] def ia (d s x i : Nat) : AO := ⟨some d, .iaddr s (.t x) (.t i), none⟩
@[go_sem] def fa (d o x : Nat) : AO := ⟨some d, .faddr o (.t x), none⟩
@[go_sem] def nk (d x : Nat) : AO := ⟨some d, .nilck (.t x), none⟩
@[go_sem] def ex (d x i : Nat) : AO := ⟨some d, .ext (.t x) i, none⟩
@[go_sem] def ln (d x : Nat) : AO := ⟨some d, .lenL (.t x), none⟩
@[go_sem] def bn (d : Nat) (op : BinOp) (x y : Nat) : AO := ⟨some d, .bin op (.t x) (.t y), none⟩
@[go_sem] def bc (d : Nat) (op : BinOp) (x : Nat) (v : V) : AO := ⟨some d, .bin op (.t x) (.c v), none⟩
@[go_sem] def cl (d f : Nat) (ts : List Nat) : AO := ⟨some d, .call f (ts.map .t), none⟩
@[go_sem] def xo (d : Nat) (op : AOp) : AO := ⟨some d, op, none⟩
@[go_sem] def xg (d : Nat) (op : AOp) (g : Nat) (q : Bool) : AO := ⟨some d, op, some (g, q)⟩
@[go_sem] def xs (s a x : Nat) : AO := ⟨none, .store s (.t a) (.t x), none⟩
attribute [go_sem] forall_cons forall_nil V.ren renL lookN V.lt ltL Ob.weak KK
end Av
end

section
namespace Av
open Go Go.RowKit

/-- What is known at the call's first world: all of its blocks. -/
def envW (P : Program) (W : World) : Env := ⟨P, fun b => W.heap[b]?⟩

/-- The cells that were there. -/
def oldZ (W : World) (b _i : Nat) : Prop := b < W.heap.size

theorem calls_of_ev {P : Program} (mix : P.follows .mixedOrders = true) {f : FuncId} (own : Own P f) {W : World} {args : List V} {cargs : Array Value} {b : Bool}
    (h : EvN (envW P W) f args (V.bool b)) (hsz : cargs.size = args.length) (hrep : ∀ i (h : i < args.length) (h' : i < cargs.size), Rep W (oldZ W) noμ cargs[i] args[i]) :
    Calls P f cargs W fun e W' => e = .returned (.bool b) ∧ Below W.heap.size W W' := by
  let C : Ctx := { P := P, w0 := W, Z0 := oldZ W, F := fun _ => False, m := 0, μ0 := noμ, kn := fun b => W.heap[b]?, mix := mix, hkn := fun b x h => ⟨h, fun h => h⟩ }
  have hg : Good C W (oldZ W) noμ (fun k => ([] : List Ob)[k]?) := by
    refine ⟨fun a x h => by simp at h, fun a b x y c d _ h => by simp at h, fun b i h => h, Nat.le_refl _, fun _ _ _ => rfl, fun b i h => .inl h, fun b i h => h, fun _ _ _ => rfl, fun k hk => (by cases hk), SameO.refl _⟩
  have := h.1 C cargs rfl rfl (fun k _ => rfl) hg (fun b hb => hb.elim) hsz hrep
  rw [show (envW P W).P = P from rfl, show C.w0 = W from rfl, callsF_own own] at this
  refine Calls.mono this ?_
  rintro e w' ⟨v, Z', μ', rfl, hr, hgd, _⟩
  refine ⟨by rw [hr.scE.1], ⟨hgd.oo.1, hgd.oo.2.1, hgd.oo.2.2, hgd.grow, fun k hk => hgd.frame k hk (fun h => h)⟩⟩

/-- Rows whose first world is known to be shaped, with a condition of their own. -/
theorem returnsInHanded_of_change_and_shaped {H : Type} {enc : TypeId × Value → H} {a : Assume} {C : Checked} {os : Os} {f : FuncId} {fn : Func} {s : ChangeSpec} {conds : List PathCond} {apart fresh handsOn again : Bool} {X : World → Array Value → Prop}
    (hX : ∀ (w w' : World) (args : Array Value), w.heap = w'.heap → X w args → X w' args)
    (own : ownKnob C.prog.godebug = none) (started : os.Started) (noInit : C.prog.inits.idxOf? f = none) (hfn : C.prog.funcs[f]? = some fn)
    (witness : ∃ (w : World) (tape : Tape) (i : Input), w.os = os ∧ (w.forCall tape i).Shaped C.prog ∧ i.vars = [] ∧ Input.okWide C.prog (w.forCall tape i) .any w.heap.size f i ∧
      ((s.pre enc C.prog fn conds apart (w.forCall tape i).memory i.args ∧ X (w.forCall tape i).memory i.args) ∧ sizedMet enc C.prog fn (OpenSpec.ofChange s) apart (w.forCall tape i).memory i.args) ∧ a.holds C.prog (lone (Frame.enter C.prog f i.args .normal) [] (w.forCall tape i)))
    (contract : ∀ (W : World) (base : Nat) (args : Array Value) (ds gs : List (DataW H)) (before : List MemPlace),
      (∀ (j : Nat) t v, fn.params[j]? = some t → args[j]? = some v → Value.okWide C.prog W .any base t v) →
      DataW.Whole enc C.prog fn.params.toList s.vars apart W args.toList ds gs before →
      (DataW.weightsEach C.prog (fn.params.toList ++ s.plain.varTypes C.prog) (ds ++ gs)).all (· ≤ reachBytes) = true → X W args → W.ShapedOpen C.prog →
      Calls C.prog f args W fun e W' => ∃ v, e = .returned v ∧ s.post enc C.prog fn apart fresh handsOn again W args v W') :
    ReturnsInHanded a C os f .any (fun w args => (s.pre enc C.prog fn conds apart w args ∧ X w args) ∧ sizedMet enc C.prog fn (OpenSpec.ofChange s) apart w args) (s.post enc C.prog fn apart fresh handsOn again) := by
  refine returnsInHanded_of_calls own started noInit witness ?_
  intro w tape i _ hsh _ hok hpre hholds
  obtain ⟨_, _, _, fn', hfn', _, _, _, _, hval⟩ := hok
  have e : fn' = fn := Option.some.inj (hfn'.symm.trans hfn)
  subst e
  obtain ⟨⟨⟨ds, gs, before, hw, hc⟩, hx⟩, hz⟩ := hpre
  have hw' := DataW.Whole.of_heap (w' := w.forCall tape i) (by rfl) hw
  refine (contract (w.forCall tape i) w.heap.size i.args ds gs before hval hw' (hz.weights hw) (hX _ _ _ (by rfl) hx) hsh).mono fun e W' ⟨v, he, hp⟩ => ?_
  subst he
  exact ChangeSpec.post_blind hp

end Av
end
