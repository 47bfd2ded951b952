/- From a law's contract to the row's step. -/
import Derived.Test.YtlpaikjhphkioaaGreatK9
import Derived.Below
import Derived.Handed
set_option linter.unusedVariables false
set_option linter.unusedSimpArgs false
section
namespace Av
open Go Go.RowKit
def J6 (P : Program) (W : World) : Env := ⟨P, fun b => W.heap[b]?⟩
def arN (W : World) (b _i : Nat) : Prop := b < W.heap.size
theorem agP {P : Program} (mix : P.follows .mixedOrders = true) {f : FuncId} (own : Own P f) {W : World} {args : List V} {cargs : Array Value} {b : Bool}
    (h : EvN (J6 P W) f args (V.bool b)) (hsz : cargs.size = args.length) (hrep : ∀ i (h : i < args.length) (h' : i < cargs.size), Rep W (arN W) noμ cargs[i] args[i]) :
    Calls P f cargs W fun e W' => e = .returned (.bool b) ∧ Below W.heap.size W W' := by
  let C : Ctx := { P := P, w0 := W, Z0 := arN W, F := fun _ => False, m := 0, μ0 := noμ, kn := fun b => W.heap[b]?, mix := mix, hkn := fun b x h => ⟨h, fun h => h⟩ }
  have hg : Q3 C W (arN W) noμ (fun k => ([] : List Ob)[k]?) := by
    refine ⟨fun a x h => by simp at h, fun a b x y c d _ h => by simp at h, fun b i h => h, Nat.le_refl _, fun _ _ _ => rfl, fun b i h => .inl h, fun b i h => h, fun _ _ _ => rfl, fun k hk => (by cases hk), KP.refl _⟩
  have := h.1 C cargs rfl rfl (fun k _ => rfl) hg (fun b hb => hb.elim) hsz hrep
  rw [show (J6 P W).P = P from rfl, show C.w0 = W from rfl, KZ own] at this
  refine Calls.mono this ?_
  rintro e w' ⟨v, Z', μ', rfl, hr, hgd, _⟩
  refine ⟨by rw [hr.scE.1], ⟨hgd.oo.1, hgd.oo.2.1, hgd.oo.2.2, hgd.grow, fun k hk => hgd.frame k hk (fun h => h)⟩⟩
theorem Uc {H : Type} {enc : TypeId × Value → H} {a : Assume} {C : Checked} {os : Os} {f : FuncId} {fn : Func} {s : ChangeSpec} {conds : List PathCond} {apart fresh handsOn again : Bool} {X : World → Array Value → Prop}
    (hX : ∀ (w w' : World) (args : Array Value), w.heap = w'.heap → X w args → X w' args)
    (own : ownKnob C.prog.godebug = none) (started : os.Started) (noInit : C.prog.inits.idxOf? f = none) (hfn : C.prog.funcs[f]? = some fn)
    (witness : ∃ (w : World) (tape : Tape) (i : Input), w.os = os ∧ (w.forCall tape i).Shaped C.prog ∧ i.vars = [] ∧ Input.okWide C.prog (w.forCall tape i) .any w.heap.size f i ∧
      ((s.pre enc C.prog fn conds apart (w.forCall tape i).memory i.args ∧ X (w.forCall tape i).memory i.args) ∧ sizedMet enc C.prog fn (OpenSpec.ofChange s) apart (w.forCall tape i).memory i.args) ∧ a.holds C.prog (lone (Frame.enter C.prog f i.args .normal) [] (w.forCall tape i)))
    (contract : ∀ (W : World) (base : Nat) (args : Array Value) (ds gs : List (DataW H)) (before : List MemPlace),
      (∀ (j : Nat) t v, fn.params[j]? = some t → args[j]? = some v → Value.okWide C.prog W .any base t v) →
      DataW.Whole enc C.prog fn.params.toList s.vars apart W args.toList ds gs before →
      (DataW.weightsEach C.prog (fn.params.toList ++ s.plain.varTypes C.prog) (ds ++ gs)).all (· ≤ reachBytes) = true → X W args → W.ShapedOpen C.prog →
      Calls C.prog f args W fun e W' => ∃ v, e = .returned v ∧ s.post enc C.prog fn apart fresh handsOn again W args v W') :
    ReturnsInHanded a C os f .any (fun w args => (s.pre enc C.prog fn conds apart w args ∧ X w args) ∧ sizedMet enc C.prog fn (OpenSpec.ofChange s) apart w args) (s.post enc C.prog fn apart fresh handsOn again) := by
  refine returnsInHanded_of_calls own started noInit witness ?_
  intro w tape i _ hsh _ hok hpre hholds
  obtain ⟨_, _, _, fn', hfn', _, _, _, _, hval⟩ := hok
  have e : fn' = fn := Option.some.inj (hfn'.symm.trans hfn)
  subst e
  obtain ⟨⟨⟨ds, gs, before, hw, hc⟩, hx⟩, hz⟩ := hpre
  have hw' := DataW.Whole.of_heap (w' := w.forCall tape i) (by rfl) hw
  refine (contract (w.forCall tape i) w.heap.size i.args ds gs before hval hw' (hz.weights hw) (hX _ _ _ (by rfl) hx) hsh).mono fun e W' ⟨v, he, hp⟩ => ?_
  subst he
  exact ChangeSpec.post_blind hp
end Av
end
section
namespace Av
open Go
structure EvD (Γ : Env) (f : FuncId) (args : List V) (cs : List V) (res : V) (cs2 : List V) : Prop where
  ev : Ev Γ f (.ptr 0 0 :: args) [.box true cs] res [.box true cs2]
  cl : res.closed
  c1 : Qh cs
  c2 : Qh cs2
def Jq : List V → List Nat
  | [] => []
  | .hd a _ _ :: r => a :: Jq r
  | .ptr a _ :: r => a :: Jq r
  | _ :: r => Jq r
mutual
theorem akW (o : Nat → Option Ob) (br l : List Nat) (hb : ∀ x ∈ l, x ∉ br) : ∀ v : V, v.shutOk0 o (some l) → conv o br (some l) v (v.shut0 o)
  | .top, _ => by simp [V.shut0, conv]
  | .sc _, _ => by simp [V.shut0, conv]
  | .nn, _ => by simp [V.shut0, conv]
  | .sl _ _, _ => by simp [V.shut0, conv]
  | .ro _ _, _ => by simp [V.shut0, conv]
  | .ept _ _ _, _ => by simp [V.shut0, conv]
  | .mp _, _ => by simp [V.shut0, conv]
  | .hd a off len, h => by
    obtain ⟨h1, wr, s, xs, h2⟩ := h
    simp only [V.shut0, h2, conv]
    exact ⟨h1, hb a h1, .inl ⟨wr, xs, rfl, rfl⟩⟩
  | .ptr a off, h => by
    obtain ⟨h1, wr, cs, h2, h3⟩ := h
    simp only [V.shut0, h2, conv]
    exact ⟨h1, hb a h1, trivial, h3, wr, cs, rfl, J9 _ _ _ _ h3⟩
  | .agg cs, h => by simp only [V.shut0, conv]; exact qW o br l hb cs h
  | .tup cs, h => by simp only [V.shut0, conv]; exact qW o br l hb cs h
  | .clo f cs, h => by simp only [V.shut0, conv]; exact ⟨trivial, qW o br l hb cs h⟩
theorem qW (o : Nat → Option Ob) (br l : List Nat) (hb : ∀ x ∈ l, x ∉ br) : ∀ cs : List V, xk o (some l) cs → Ya o br (some l) cs (vO o cs)
  | [], _ => trivial
  | v :: r, h => ⟨akW o br l hb v h.1, qW o br l hb r h.2⟩
end
mutual
theorem amO (o : Nat → Option Ob) (br l : List Nat) (hb : ∀ x ∈ l, x ∉ br) : ∀ v : V, v.shutOk o (some l) → conv o br (some l) v (v.shut o)
  | .top, _ => by simp [V.shut, conv]
  | .sc _, _ => by simp [V.shut, conv]
  | .nn, _ => by simp [V.shut, conv]
  | .sl _ _, _ => by simp [V.shut, conv]
  | .ro _ _, _ => by simp [V.shut, conv]
  | .ept _ _ _, _ => by simp [V.shut, conv]
  | .mp _, _ => by simp [V.shut, conv]
  | .hd a off len, h => by
    obtain ⟨h1, h2⟩ := h
    unfold arz at h2
    split at h2
    · rename_i wr s xs h3
      simp only [V.shut, h3, conv]
      exact ⟨h1, hb a h1, .inl ⟨wr, xs, rfl, rfl⟩⟩
    · rename_i wr s xs h3
      simp only [V.shut, h3, conv]
      exact ⟨h1, hb a h1, .inr ⟨wr, xs, rfl, qW _ _ _ hb _ h2.1, h2.2, VH _ _⟩⟩
    · exact h2.elim
  | .ptr a off, h => by
    obtain ⟨h1, wr, cs, h2, h3⟩ := h
    simp only [V.shut, h2, conv]
    exact ⟨h1, hb a h1, trivial, h3, wr, cs, rfl, J9 _ _ _ _ h3⟩
  | .agg cs, h => by simp only [V.shut, conv]; exact YG o br l hb cs h
  | .tup cs, h => by simp only [V.shut, conv]; exact YG o br l hb cs h
  | .clo f cs, h => by simp only [V.shut, conv]; exact ⟨trivial, YG o br l hb cs h⟩
theorem YG (o : Nat → Option Ob) (br l : List Nat) (hb : ∀ x ∈ l, x ∉ br) : ∀ cs : List V, QB o (some l) cs → Ya o br (some l) cs (Y4 o cs)
  | [], _ => trivial
  | v :: r, h => ⟨amO o br l hb v h.1, YG o br l hb r h.2⟩
end
section
variable {Γ : Env} {b : Nat} {r : List AO} {s : St} {d : Option Nat} {f : FuncId} {acts : List V} {res : V} {K : St → Prop} {cs cs2 : List V} {a : Nat}
theorem atc (l : List Nat) (ha : s.o a = some (.box true cs)) (h : EvD Γ f (Y4 s.o acts) cs res cs2) (hc : QB s.o (some l) acts) (hal : a ∉ l) (hab : a < b)
    (hk : wL Γ (b + KK) r { t := (s.put d res).t, o := upd (wN (some l) [a] s.o) a (some (.box true cs2)), n := s.n } K) : awC Γ b r s d f (.ptr a 0 :: acts) K := by
  refine XV ⟨_, _, _, _, [a], some l, h.ev, ⟨?_, YG s.o [a] l ?_ acts hc⟩, ⟨⟨_, ha, J9 _ _ _ _ h.c1⟩, trivial⟩, by simp, by simpa using hab, Nat.le_refl _, by simp [KK], fun h => by simp at h, ?_⟩
  · simp [conv]
  · intro x hx hxa
    simp only [List.mem_singleton] at hxa
    subst hxa; exact hal hx
  · rw [Wc _ _ h.cl]
    simp only [X7, X6, Ob.ren, JR _ _ h.c2]
    exact hk
theorem asf (ha : s.o a = some (.box true cs)) (h : EvD Γ f (Y4 s.o acts) cs res cs2) (hc : QB s.o (some (Jq acts)) acts) (hal : a ∉ Jq acts) (hab : a < b)
    (hk : wL Γ (b + KK) r { t := (s.put d res).t, o := upd (wN (some (Jq acts)) [a] s.o) a (some (.box true cs2)), n := s.n } K) : awC Γ b r s d f (.ptr a 0 :: acts) K := atc _ ha h hc hal hab hk
theorem KS {x : V} {args : List V} {okf : Option (List Nat) → Prop} (ha : s.o a = some (.box true cs)) (h : EvD Γ f args cs res cs2) (hal : (Jq acts).contains a = false) (hab : decide (a < b) = true) (hc : QB s.o (some (Jq acts)) acts)
    (hk : wL Γ (b + KK) r { t := (s.put d res).t, o := upd (wN (some (Jq acts)) [a] s.o) a (some (.box true cs2)), n := s.n } K) : ak5 Γ b r s d f (.ptr a 0 :: acts) (x :: args) okf K := by
  intro h1 _
  simp only [Y4, List.cons.injEq] at h1
  obtain ⟨_, rfl⟩ := h1
  exact asf ha h hc (by simpa using hal) (of_decide_eq_true hab) hk
theorem asu {br : List Nat} {o : Nat → Option Ob} : wN (some []) br o = o := by
  funext n; simp [wN]
theorem atx {x a n : Nat} {o : Nat → Option Ob} : wN (some [x]) [a] o n = if n = x then (if x = a then o n else (o n).map Ob.frz) else o n := by
  simp only [wN, List.mem_singleton]
  by_cases h1 : n = x
  · subst h1
    by_cases h2 : n = a <;> simp [h2]
  · simp [h1]
end
theorem Uv {Γ : Env} {f : FuncId} {nt : Nat} {ac : AC} {rs : List Jf} (hb : Has Γ.P f nt ac rs) {args cs cs2 : List V} {res : V} (ha : args.length + 1 ≤ nt) (hr : res.closed) (h1 : Qh cs) (h2 : Qh cs2)
    (h : ∀ C : Ctx, C.env = Γ → C.m = 1 → AWp C nt ac (WO (.ptr 0 0 :: args) [.box true cs]) (acs 1 rs res [.box true cs2]) (fun _ _ => False) (acs 1 rs res [.box true cs2])) : EvD Γ f args cs res cs2 :=
  ⟨VF hb (by simpa using ha) h, hr, h1, h2⟩
theorem aeX {rs : List Jf} {res : V} {s : St} {cs2 : List V} (vs : List V) (h : afm s rs = some vs) (ho : s.o 0 = some (.box true cs2)) (h2 : Qh cs2) (hc : conv s.o [0] none (aiY vs) res) : acs 1 rs res [.box true cs2] s :=
  jI rs vs _ h ⟨[0], none, hc, ⟨⟨_, ho, fun h => h, J9 _ _ _ _ h2⟩, trivial⟩, by simp, rfl⟩
structure EvR (Γ : Env) (f : FuncId) (args : List V) (cs : List V) : Prop where
  ev : Ev Γ f args [] (.ptr 0 0) [.box true cs]
  c1 : Qh cs
theorem as9 {Γ : Env} {b : Nat} {r : List AO} {s : St} {d : Option Nat} {f : FuncId} {acts cs : List V} {K : St → Prop} (h : EvR Γ f (Y4 s.o acts) cs) (hc : QB s.o (some (Jq acts)) acts)
    (hk : wL Γ (b + KK) r { t := (s.put d (.ptr b 0)).t, o := upd (wN (some (Jq acts)) [] s.o) b (some (.box true cs)), n := s.n } K) : awC Γ b r s d f acts K := by
  refine XV ⟨_, _, _, _, [], some (Jq acts), h.ev, Y5 _ _ _ hc, trivial, List.nodup_nil, fun x hx => by simp at hx, by simp, by simp [KK], fun h => by simp at h, ?_⟩
  simp only [X7, X6, Ob.ren, JR _ _ h.c1, V.ren, sig]
  exact hk
theorem KR {Γ : Env} {b : Nat} {r : List AO} {s : St} {d : Option Nat} {f : FuncId} {acts args cs : List V} {K : St → Prop} {okf : Option (List Nat) → Prop} (h : EvR Γ f args cs) (hc : okf (some (Jq acts)))
    (hk : wL Γ (b + KK) r { t := (s.put d (.ptr b 0)).t, o := upd (wN (some (Jq acts)) [] s.o) b (some (.box true cs)), n := s.n } K) : ak5 Γ b r s d f acts args okf K := by
  rintro rfl rfl; exact as9 h hc hk
theorem agE {Γ : Env} {f : FuncId} {nt : Nat} {ac : AC} {rs : List Jf} (hb : Has Γ.P f nt ac rs) {args cs : List V} (ha : args.length ≤ nt) (h1 : Qh cs)
    (h : ∀ C : Ctx, C.env = Γ → C.m = 0 → AWp C nt ac (WO args []) (acs 0 rs (.ptr 0 0) [.box true cs]) (fun _ _ => False) (acs 0 rs (.ptr 0 0) [.box true cs])) : EvR Γ f args cs :=
  ⟨VF hb ha h, h1⟩
theorem aqf {rs : List Jf} {s : St} {cs : List V} (a : Nat) (h : afm s rs = some [.ptr a 0]) (ho : s.o a = some (.box true cs)) (h2 : Qh cs) : acs 0 rs (.ptr 0 0) [.box true cs] s :=
  jI rs _ _ h ⟨[a], none, by simp [aiY, conv], ⟨⟨_, ho, fun h => h, J9 _ _ _ _ h2⟩, trivial⟩, by simp, rfl⟩
attribute [go_sem] asu atx Jq Ob.frz
end Av
end
section
namespace Av
open Go
structure EvW (Γ : Env) (f : FuncId) (args : List V) (sz : Nat) (xs : List V) : Prop where
  ev : Ev Γ f args [] (.hd 0 0 xs.length) [.buf true sz xs]
  ns : ∀ x ∈ xs, x.noSl
theorem agd (l : List Int) : ∀ x ∈ l.map V.int, x.noSl := by
  intro x hx; simp only [List.mem_map] at hx; obtain ⟨y, _, rfl⟩ := hx; simp only [V.noSl]
theorem afT (l : List (List UInt8)) : ∀ x ∈ l.map V.str, x.noSl := by
  intro x hx; simp only [List.mem_map] at hx; obtain ⟨y, _, rfl⟩ := hx; simp only [V.noSl]
theorem as8 {Γ : Env} {b : Nat} {r : List AO} {s : St} {d : Option Nat} {f : FuncId} {acts xs : List V} {sz : Nat} {K : St → Prop} (h : EvW Γ f (Y4 s.o acts) sz xs) (hc : QB s.o none acts)
    (hk : wL Γ (b + KK) r { t := (s.put d (.hd b 0 xs.length)).t, o := upd s.o b (some (.buf true sz xs)), n := s.n } K) : awC Γ b r s d f acts K := by
  refine XV ⟨_, _, _, _, [], none, h.ev, Y5 _ _ _ hc, trivial, List.nodup_nil, fun x hx => by simp at hx, by simp, by simp [KK], fun _ => ⟨by simp only [V.noSl], fun x hx => ?_⟩, ?_⟩
  · simp only [List.mem_singleton] at hx; subst hx; exact h.ns
  · simp only [X7, X6, Ob.ren, V.ren, sig]
    exact hk
theorem asg {Γ : Env} {A W : Nat → Bool} {b : Nat} {s : St} {d : Option Nat} {f : FuncId} {acts xs : List V} {sz : Nat} {J : St → Prop} (h : EvW Γ f (Y4 (Yw A s.o) acts) sz xs) (hc : QB (Yw A s.o) none acts)
    (hk : J { t := (s.put d (.hd b 0 xs.length)).t, o := upd s.o b (some (.buf true sz xs)), n := s.n }) : Y2 Γ A W b s d f acts J := by
  refine ⟨_, _, _, _, [], none, h.ev, Y5 _ _ _ hc, trivial, List.nodup_nil, fun x hx => by simp at hx, by simp, by simp [KK], fun _ => ⟨by simp only [V.noSl], fun x hx => ?_⟩, fun l h => by simp at h, ?_⟩
  · simp only [List.mem_singleton] at hx; subst hx; exact h.ns
  · simp only [X7, X6, Ob.ren, V.ren, sig]
    exact hk
theorem ae4 {Γ : Env} {b : Nat} {r : List AO} {s : St} {d : Option Nat} {f : FuncId} {acts args xs : List V} {sz : Nat} {K : St → Prop} {okf : Option (List Nat) → Prop} (h : EvW Γ f args sz xs) (hc : okf none)
    (hk : wL Γ (b + KK) r { t := (s.put d (.hd b 0 xs.length)).t, o := upd s.o b (some (.buf true sz xs)), n := s.n } K) : ak5 Γ b r s d f acts args okf K := by
  rintro rfl rfl; exact as8 h hc hk
theorem aaI {Γ : Env} {A W : Nat → Bool} {b : Nat} {s : St} {d : Option Nat} {f : FuncId} {acts args xs : List V} {sz : Nat} {J : St → Prop} {okf : Option (List Nat) → Prop} (h : EvW Γ f args sz xs) (hc : okf none)
    (hk : J { t := (s.put d (.hd b 0 xs.length)).t, o := upd s.o b (some (.buf true sz xs)), n := s.n }) : aiO Γ A W b s d f acts args okf J := by
  rintro rfl rfl; exact asg h hc hk
theorem KX {Γ : Env} {f : FuncId} {nt : Nat} {ac : AC} {rs : List Jf} (hb : Has Γ.P f nt ac rs) {args xs : List V} {sz : Nat} (ha : args.length ≤ nt) (hn : ∀ x ∈ xs, x.noSl)
    (h : ∀ C : Ctx, C.env = Γ → C.m = 0 → AWp C nt ac (WO args []) (acs 0 rs (.hd 0 0 xs.length) [.buf true sz xs]) (fun _ _ => False) (acs 0 rs (.hd 0 0 xs.length) [.buf true sz xs])) : EvW Γ f args sz xs :=
  ⟨VF hb ha h, hn⟩
theorem ads {rs : List Jf} {s : St} {xs : List V} {sz : Nat} (a n : Nat) (h : afm s rs = some [.hd a 0 n]) (hn : n = xs.length) (ho : s.o a = some (.buf true sz xs)) : acs 0 rs (.hd 0 0 xs.length) [.buf true sz xs] s := by
  subst hn
  exact jI rs _ _ h ⟨[a], none, by simp [aiY, conv], ⟨⟨_, ho, fun h => h, rfl, rfl⟩, trivial⟩, by simp, rfl⟩
end Av
end
section
namespace Av
open Go
section
variable {C : Ctx} {nt : Nat} {s : St} {K : St → Prop} {E : Nat → St → Prop} {R : St → Prop}
end
end Av
end
section
namespace Av
open Go
theorem Q3.move {C : Ctx} {w : World} {Z : Nat → Nat → Prop} {μ : Nat → Option Cn} {o : Nat → Option Ob} (h : Q3 C w Z μ o) {x i a n off len sz : Nat} {wr wr2 : Bool} {cells xs : List V} {c : Cn}
    (ho : o x = some (.box wr cells)) (hi : cells[i]? = some (.hd a off len)) (ha : o a = some (.buf wr2 sz xs)) (hc : μ a = some c) (hn : μ n = none) (hm : C.m ≤ n) :
    Q3 C w Z (upd μ n (some c)) (upd (upd (upd o a (some .dead)) x (some (.box wr (cells.set i (.hd n off len))))) n (some (.buf wr2 sz xs))) := by
  have hon := h.free hn
  have hxn : x ≠ n := by rintro rfl; rw [hon] at ho; cases ho
  have han : a ≠ n := by rintro rfl; rw [hon] at ha; cases ha
  have hxa : x ≠ a := by rintro rfl; rw [ho] at ha; cases ha
  have hmu := wj (c := c) hn
  have old : ∀ b y, upd (upd (upd o a (some .dead)) x (some (.box wr (cells.set i (.hd n off len))))) n (some (.buf wr2 sz xs)) b = some y →
      (b = a ∧ y = .dead) ∨ ∃ z d, o (if b = n then a else b) = some z ∧ μ (if b = n then a else b) = some d ∧ upd μ n (some c) b = some d ∧ (y.live d ↔ z.live d) ∧ vS w Z (upd μ n (some c)) d y ∧ (z.live d → d.block < w.heap.size ∧ (C.w0.heap.size ≤ d.block ∨ C.F d.block)) ∧ (b ≠ a) := by
    intro b y hy
    by_cases hbn : b = n
    · subst hbn
      rw [Qm] at hy; cases hy
      obtain ⟨d, hd, hok, hl⟩ := h.ob _ _ ha
      rw [hc] at hd; cases hd
      exact .inr ⟨_, c, by rw [if_pos rfl]; exact ha, by rw [if_pos rfl]; exact hc, Qm _ _ _, Iff.rfl, hok.mono (fun _ _ _ => rfl) (fun _ _ h => h) hmu (fun _ => rfl) (fun _ _ h => h), hl, fun e => han e.symm⟩
    · rw [QO _ _ hbn] at hy
      rw [if_neg hbn, QO _ _ hbn]
      by_cases hbx : b = x
      · subst hbx
        rw [Qm] at hy; cases hy
        obtain ⟨d, hd, ⟨h1, ⟨cs, ty, h2, h3, h4⟩, h5⟩, hl⟩ := h.ob _ _ ho
        refine .inr ⟨_, d, ho, hd, hd, Iff.rfl, ⟨h1, ⟨cs, ty, h2, by simpa using h3, fun j hj hj' => ?_⟩, h5⟩, hl, hxa⟩
        have hj2 : j < cells.length := by simpa using hj
        have h6 := h4 j hj2 hj'
        refine ⟨?_, h6.2⟩
        by_cases hji : j = i
        · subst hji
          rw [List.getElem_set_self]
          have h7 : cells[j] = .hd a off len := by rw [List.getElem?_eq_getElem hj2] at hi; exact Option.some.inj hi
          have h8 := h6.1
          rw [h7] at h8
          generalize cs[j] = v at h8
          cases h8
          rename_i c' hc' hv
          rw [hc] at hc'; cases hc'
          exact .hd (Qm _ _ _) hv
        · rw [List.getElem_set_ne (fun e => hji e.symm)]
          exact h6.1.mono (fun _ _ _ => rfl) (fun _ _ h => h) hmu
      · rw [QO _ _ hbx] at hy
        by_cases hba : b = a
        · subst hba
          rw [Qm] at hy; cases hy
          exact .inl ⟨rfl, rfl⟩
        · rw [QO _ _ hba] at hy
          obtain ⟨d, hd, hok, hl⟩ := h.ob b y hy
          exact .inr ⟨y, d, hy, hd, hd, Iff.rfl, hok.mono (fun _ _ _ => rfl) (fun _ _ h => h) hmu (fun _ => rfl) (fun _ _ h => h), hl, hba⟩
  refine ⟨fun b y hy => ?_, fun b d y z e f hbd hy hz he hf lb ld => ?_, h.zlt, h.grow, h.frame, h.zsub, h.zsup, h.zkeep, fun k hk => ?_, h.oo⟩
  · rcases old b y hy with ⟨rfl, rfl⟩ | ⟨z, d, h1, h2, h3, h4, h5, h6, _⟩
    · exact ⟨c, hmu _ _ hc, trivial, fun hl => hl.elim⟩
    · exact ⟨d, h3, h5, fun hl => h6 (h4.1 hl)⟩
  · rcases old b y hy with ⟨rfl, rfl⟩ | ⟨y', e', h1, h2, h3, h4, _, _, h7⟩
    · exact lb.elim
    · rcases old d z hz with ⟨rfl, rfl⟩ | ⟨z', f', g1, g2, g3, g4, _, _, g7⟩
      · exact ld.elim
      · rw [he] at h3; cases h3
        rw [hf] at g3; cases g3
        refine h.sep _ _ y' z' _ _ ?_ h1 g1 h2 g2 (h4.1 lb) (g4.1 ld)
        by_cases hbn : b = n
        · subst hbn
          rw [if_pos rfl, if_neg (fun e => hbd e.symm)]
          exact fun e => g7 e.symm
        · rw [if_neg hbn]
          by_cases hdn : d = n
          · subst hdn; rw [if_pos rfl]; exact h7
          · rw [if_neg hdn]; exact hbd
  · rw [QO _ _ (by omega)]; exact h.fix k hk
section
variable {C : Ctx} {nt : Nat} {s : St} {K : St → Prop} {E : Nat → St → Prop} {R : St → Prop}
end
end Av
end
section
namespace Av
open Go
structure EvL (Γ : Env) (f : FuncId) (args : List V) (sz : Nat) (xs : List V) (res : V) (ys : List V) : Prop where
  ev : Ev Γ f (.hd 0 0 xs.length :: args) [.buf true sz xs] res [.buf true sz ys]
  cl : res.closed
theorem atb {Γ : Env} {b : Nat} {r : List AO} {s : St} {d : Option Nat} {f : FuncId} {acts : List V} {res : V} {K : St → Prop} {a sz n : Nat} {xs ys : List V}
    (ha : s.o a = some (.buf true sz xs)) (h : EvL Γ f (Y4 s.o acts) sz xs res ys) (hn : n = xs.length) (hc : QB s.o (some []) acts) (hab : a < b)
    (hk : wL Γ (b + KK) r { t := (s.put d res).t, o := upd s.o a (some (.buf true sz ys)), n := s.n } K) : awC Γ b r s d f (.hd a 0 n :: acts) K := by
  subst hn
  refine XV ⟨_, _, _, _, [a], some [], h.ev, ⟨?_, YG s.o [a] [] (fun x hx => by cases hx) acts hc⟩, ⟨⟨_, ha, rfl, rfl⟩, trivial⟩, by simp, ?_, by simp, by simp [KK], fun h => by simp at h, ?_⟩
  · simp [conv]
  · intro x hx
    simp only [List.mem_singleton] at hx
    subst hx; exact hab
  · rw [Wc _ _ h.cl]
    simp only [X7, X6, Ob.ren, asu]
    exact hk
theorem qX {Γ : Env} {b : Nat} {r : List AO} {s : St} {d : Option Nat} {f : FuncId} {x : V} {acts args : List V} {okf : Option (List Nat) → Prop} {res : V} {K : St → Prop} {a sz n : Nat} {xs ys : List V}
    (ha : s.o a = some (.buf true sz xs)) (h : EvL Γ f args sz xs res ys) (hab : decide (a < b) = true) (hn : n = xs.length) (hc : QB s.o (some []) acts)
    (hk : wL Γ (b + KK) r { t := (s.put d res).t, o := upd s.o a (some (.buf true sz ys)), n := s.n } K) : ak5 Γ b r s d f (.hd a 0 n :: acts) (x :: args) okf K := by
  intro h1 _
  simp only [Y4, List.cons.injEq] at h1
  obtain ⟨_, rfl⟩ := h1
  exact atb ha h hn hc (of_decide_eq_true hab) hk
theorem KY {Γ : Env} {f : FuncId} {nt : Nat} {ac : AC} {rs : List Jf} (hb : Has Γ.P f nt ac rs) {args xs ys : List V} {sz : Nat} {res : V} (ha : args.length + 1 ≤ nt) (hr : res.closed)
    (h : ∀ C : Ctx, C.env = Γ → C.m = 1 → AWp C nt ac { t := (WO (.hd 0 0 xs.length :: args) []).t, o := afe [(0, .buf true sz xs)], n := 1 } (acs 1 rs res [.buf true sz ys]) (fun _ _ => False) (acs 1 rs res [.buf true sz ys])) : EvL Γ f args sz xs res ys := by
  refine ⟨VF hb (by simpa using ha) fun C hC hm => ?_, hr⟩
  refine (congrArg (fun s => AWp C nt ac s _ _ _) ?_).mp (h C hC hm)
  simp only [WO]
  congr 1
  funext k
  match k with
  | 0 => rfl
  | k + 1 => simp [afe]
theorem xF {rs : List Jf} {res : V} {s : St} {xs ys : List V} {sz : Nat} (vs : List V) (h : afm s rs = some vs) (ho : s.o 0 = some (.buf true sz xs)) (hc : conv s.o [0] none (aiY vs) res) (hx : xs = ys) : acs 1 rs res [.buf true sz ys] s := by
  subst hx
  exact jI rs vs _ h ⟨[0], none, hc, ⟨⟨_, ho, fun h => h, rfl, rfl⟩, trivial⟩, by simp, rfl⟩
@[go_sem] theorem ara (l : List Int) : (∀ y ∈ l.map V.int, y.cells.length = 1) = True := eq_true (by intro y hy; simp only [List.mem_map] at hy; obtain ⟨x, _, rfl⟩ := hy; rfl)
@[go_sem] theorem aq9 (l : List (List UInt8)) : (∀ y ∈ l.map V.str, y.cells.length = 1) = True := eq_true (by intro y hy; simp only [List.mem_map] at hy; obtain ⟨x, _, rfl⟩ := hy; rfl)
end Av
end
section
namespace Av
open Go
end Av
end
section
namespace Av
open Go
def LeV (x y : V) : Prop := ∀ (w : World) (Z : Nat → Nat → Prop) (μ : Nat → Option Cn) (v : Value), Rep w Z μ v x → Rep w Z μ v y
theorem LeV.refl (x : V) : LeV x x := fun _ _ _ _ h => h
theorem LeV.nil (sz : Nat) : LeV (.sc (.slice none 0 0)) (.sl sz []) := fun _ _ _ _ h => by cases h; exact .sl0
theorem LeV.agg {xs ys : List V} (hl : xs.length = ys.length) (h : ∀ j (h1 : j < xs.length) (h2 : j < ys.length), LeV xs[j] ys[j]) : LeV (.agg xs) (.agg ys) := fun w Z μ v hv => by
  cases hv with
  | agg h1 h2 h3 => exact .agg (h1.trans hl) h2 fun j hj hj' => h j (by omega) hj _ _ _ _ (h3 j (by omega) hj')
theorem LeV.agg2 {a b c d : V} (h1 : LeV a c) (h2 : LeV b d) : LeV (.agg [a, b]) (.agg [c, d]) := .agg rfl fun j hj hj' => by
  match j, hj with
  | 0, _ => exact h1
  | 1, _ => exact h2
theorem EvB.le {Γ : Env} {f : FuncId} {args args' : List V} {res : V} {B : Option (List Nat)} (h : EvB Γ f args res B) (hl : args'.length = args.length)
    (hr : ∀ i (h1 : i < args'.length) (h2 : i < args.length), LeV args'[i] args[i]) : EvB Γ f args' res B :=
  ⟨fun C cargs h1 h2 h3 h4 h5 h6 h7 => h.ev C cargs h1 h2 h3 h4 h5 (h6.trans hl) fun i hi hi' => hr i (by omega) hi _ _ _ _ (h7 i (by omega) hi'), h.cl, h.sh⟩
theorem EvB.le2 {Γ : Env} {f : FuncId} {x y x' y' : V} {res : V} {B : Option (List Nat)} (h : EvB Γ f [x, y] res B) (h1 : LeV x' x) (h2 : LeV y' y) : EvB Γ f [x', y'] res B :=
  h.le rfl fun i hi hi' => by
    match i, hi with
    | 0, _ => exact h1
    | 1, _ => exact h2
section
variable {Γ : Env} {A W : Nat → Bool} {b : Nat} {s : St} {d : Option Nat} {f : FuncId} {acts : List V} {res : V} {J : St → Prop} {cs cs2 : List V} {a : Nat}
theorem asi (l : List Nat) (hA : A a = true) (hW : W a = true) (ha : s.o a = some (.box true cs)) (h : EvD Γ f (Y4 (Yw A s.o) acts) cs res cs2) (hc : QB (Yw A s.o) (some l) acts) (hal : a ∉ l) (hl : ∀ x ∈ l, A x = true ∧ W x = true) (hab : a < b)
    (hk : J { t := (s.put d res).t, o := upd (wN (some l) [a] s.o) a (some (.box true cs2)), n := s.n }) : Y2 Γ A W b s d f (.ptr a 0 :: acts) J := by
  have hra : Yw A s.o a = some (.box true cs) := by rw [adM, if_pos hA, ha]
  refine ⟨_, _, _, _, [a], some l, h.ev, ⟨?_, YG _ [a] l ?_ acts hc⟩, ⟨⟨_, hra, J9 _ _ _ _ h.c1⟩, trivial⟩, by simp, by simpa using ⟨hab, hW⟩, Nat.le_refl _, by simp [KK], fun h => by simp at h, fun l' hl' => by cases hl'; exact hl, ?_⟩
  · simp [conv]
  · intro x hx hxa
    simp only [List.mem_singleton] at hxa
    subst hxa; exact hal hx
  · rw [Wc _ _ h.cl]
    simp only [X7, X6, Ob.ren, JR _ _ h.c2]
    exact hk
theorem V6 {x : V} {args : List V} {okf : Option (List Nat) → Prop} (ha : s.o a = some (.box true cs)) (hA : A a = true) (hW : W a = true) (h : EvD Γ f args cs res cs2) (hal : (Jq acts).contains a = false) (hab : decide (a < b) = true) (hl : ((Jq acts).all fun x => A x && W x) = true) (hc : QB (Yw A s.o) (some (Jq acts)) acts)
    (hk : J { t := (s.put d res).t, o := upd (wN (some (Jq acts)) [a] s.o) a (some (.box true cs2)), n := s.n }) : aiO Γ A W b s d f (.ptr a 0 :: acts) (x :: args) okf J := by
  intro h1 _
  simp only [Y4, List.cons.injEq] at h1
  obtain ⟨_, rfl⟩ := h1
  exact asi _ hA hW ha h hc (by simpa using hal) (fun x hx => by simpa using List.all_eq_true.1 hl x hx) (of_decide_eq_true hab) hk
end
end Av
end
section
namespace Av
open Go
section
variable {Γ : Env} {b : Nat} {r : List AO} {s : St} {d : Option Nat} {f g : FuncId} {acts args : List V} {okf : Option (List Nat) → Prop} {res x : V} {K : St → Prop} {cs cs2 ds ds2 : List V} {a e off : Nat}
end
section
variable {Γ : Env} {b : Nat} {r : List AO} {s : St} {d : Option Nat} {f : FuncId} {acts args : List V} {okf : Option (List Nat) → Prop} {res : V} {K : St → Prop} {xs ys : List V} {a p n sz : Nat}
end
end Av
end
section
namespace Av
open Go
abbrev aeT : V := .sc (.slice none 0 0)
section
variable {Γ : Env} {A W : Nat → Bool} {b : Nat} {r : List AO} {s : St} {d : Option Nat} {f : FuncId} {args : List V} {okf : Option (List Nat) → Prop} {J K : St → Prop} {a p n : Nat} {l t : List UInt8}
end
end Av
end
section
namespace Av
open Go
theorem Ev.shut {Γ : Env} {f : FuncId} {args : List V} {ins : List Ob} {res res2 : V} {outs outs2 : List Ob} {br : List Nat} {B : Option (List Nat)} (h : Ev Γ f args ins res outs)
    (hc : conv (fun k => outs[k]?) br B res res2) (hl : aqy (fun k => outs[k]?) br B br outs2) (hn : br.Nodup) (hf : br.take ins.length = List.range ins.length) : Ev Γ f args ins res2 outs2 := by
  intro C cargs hP hm hmu hg hF hsz hrep
  refine (h C cargs hP hm hmu hg hF hsz hrep).mono ?_
  rintro e w' ⟨v, Z', μ', rfl, hr, hg', hmu'⟩
  obtain ⟨g2, h2, _⟩ := hg'.close hn hl (by rw [hm]; exact hf)
  exact ⟨v, _, _, rfl, qE hg' br B _ _ _ _ (Nat.le_refl _) hr hc, g2, h2⟩
structure EvO (Γ : Env) (f : FuncId) (args cs : List V) (s1 s2 : Nat) (xs ys cs2 : List V) : Prop where
  ev : Ev Γ f (.ptr 0 0 :: args) [.box true cs] (.agg [.hd 1 0 xs.length, .hd 2 0 ys.length]) [.box true cs2, .buf true s1 xs, .buf true s2 ys]
  c1 : Qh cs
  c2 : Qh cs2
  ca : Qh args
theorem EvO.d {Γ : Env} {f : FuncId} {args cs : List V} {s1 s2 : Nat} {xs ys cs2 : List V} (h : EvO Γ f args cs s1 s2 xs ys cs2) : EvD Γ f args cs (.agg [.sl s1 xs, .sl s2 ys]) cs2 := by
  refine ⟨h.ev.shut (br := [0]) (B := none) ?_ ⟨⟨_, rfl, fun h => h, J9 _ _ _ _ h.c2⟩, trivial⟩ (by simp) rfl, ?_, h.c1, h.c2⟩
  · simp [conv, Ya, okB]
  · simp only [V.closed, Qh, and_self]
section
variable {Γ : Env} {b : Nat} {r : List AO} {s : St} {d : Option Nat} {f : FuncId} {args acts : List V} {cs cs2 xs ys : List V} {s1 s2 : Nat} {K : St → Prop} {okf : Option (List Nat) → Prop} {a : Nat}
end
end Av
end
section
namespace Av
open Go
end Av
end
section
namespace Av
open Go
def atp (a : Nat) : V → V
  | .ptr _ _ => .ptr a 0
  | v => v
attribute [go_sem] atp
section
variable {Γ : Env} {A W : Nat → Bool} {b : Nat} {s : St} {d : Option Nat} {f : FuncId} {acts args : List V} {okf : Option (List Nat) → Prop} {J : St → Prop} {a p n : Nat}
theorem V5 {cs : List V} (h : EvR Γ f args cs) (hl : ((Jq acts).all fun x => A x && W x) = true) (hc : QB (Yw A s.o) (some (Jq acts)) acts)
    (hk : J { t := (s.put d (.ptr b 0)).t, o := upd (wN (some (Jq acts)) [] s.o) b (some (.box true cs)), n := s.n }) : aiO Γ A W b s d f acts args okf J := by
  rintro rfl _
  refine ⟨_, _, _, _, [], some (Jq acts), h.ev, Y5 _ _ _ hc, trivial, List.nodup_nil, fun x hx => by simp at hx, by simp, by simp [KK], fun h => by simp at h, fun l h x hx => (by cases h; simpa using List.all_eq_true.1 hl x hx), ?_⟩
  simp only [X7, X6, Ob.ren, JR _ _ h.c1]
  exact hk
end
section
variable {Γ : Env} {A W : Nat → Bool} {b : Nat} {r : List AO} {s : St} {d : Option Nat} {f : FuncId} {acts args : List V} {okf : Option (List Nat) → Prop} {J K : St → Prop} {sx : Nat} {xs : List V}
end
theorem alW {C : Ctx} {nt : Nat} {s : St} {K : St → Prop} {E : Nat → St → Prop} {R : St → Prop} {ks : List Nat} {x : AC} (h : AWp C nt x s (fun _ => False) E R) : AWp C nt (Y6 ks x) s K E R :=
  alX (fun k s' => k = 0 ∧ s' = s) ⟨0, rfl, rfl⟩ (by rintro k s' ⟨rfl, rfl⟩; exact aiL h (fun _ h => h.elim) (fun _ _ h => h) (fun _ h => h))
end Av
end
section
namespace Av
open Go
def leL : List V → List V → Prop
  | [], [] => True
  | x :: r, y :: r' => LeV x y ∧ leL r r'
  | _, _ => False
def leC : List V → List V → Prop
  | [], [] => True
  | x :: r, y :: r' => leL x.cells y.cells ∧ leC r r'
  | _, _ => False
theorem aij : ∀ {xs ys : List V}, leL xs ys → xs.length = ys.length ∧ ∀ i (h : i < xs.length) (h' : i < ys.length), LeV xs[i] ys[i]
  | [], [], _ => ⟨rfl, fun i h => by simp at h⟩
  | x :: r, y :: r', h => by
    obtain ⟨h1, h2⟩ := aij h.2
    refine ⟨by simp [h1], fun i hi hi' => ?_⟩
    cases i with
    | zero => exact h.1
    | succ i => exact h2 i (by simpa using hi) (by simpa using hi')
theorem an3 : ∀ {xs ys : List V}, leC xs ys → xs.length = ys.length ∧ ∀ i (h : i < xs.length) (h' : i < ys.length), leL xs[i].cells ys[i].cells
  | [], [], _ => ⟨rfl, fun i h => by simp at h⟩
  | x :: r, y :: r', h => by
    obtain ⟨h1, h2⟩ := an3 h.2
    refine ⟨by simp [h1], fun i hi hi' => ?_⟩
    cases i with
    | zero => exact h.1
    | succ i => exact h2 i (by simpa using hi) (by simpa using hi')
theorem aii : ∀ xs : List V, leL xs xs
  | [] => trivial
  | x :: r => ⟨LeV.refl x, aii r⟩
theorem alt : ∀ xs : List V, leC xs xs
  | [] => trivial
  | x :: r => ⟨aii _, alt r⟩
theorem BOk.le {w : World} {Z : Nat → Nat → Prop} {ν : Nat → Option Cn} {c : Cn} {wr : Bool} {sz : Nat} {xs ys : List V} (h : BOk w Z ν c wr sz xs) (hl : leC xs ys) : BOk w Z ν c wr sz ys := by
  obtain ⟨l1, l2⟩ := an3 hl
  refine ⟨by rw [← l1]; exact h.1, fun hv => ?_⟩
  obtain ⟨h0, h1, h2, h3, h4, cs, ty, fr, hh, h5, h6, h7⟩ := h.2 hv
  refine ⟨h0, h1, h2, h3, fun i hi => ?_, cs, ty, fr, hh, h5, h6, fun i hi j hj => ?_⟩
  · rw [← (aij (l2 i (by omega) hi)).1]; exact h4 i (by omega)
  · obtain ⟨m1, m2⟩ := aij (l2 i (by omega) hi)
    obtain ⟨v, e1, e2, e3⟩ := h7 i (by omega) j (by omega)
    exact ⟨v, e1, e2, m2 j (by omega) hj _ _ _ _ e3⟩
section
variable {C : Ctx} {nt n : Nat} {s : St} {K : St → Prop} {E : Nat → St → Prop} {R : St → Prop}
end
def LeO : Ob → Ob → Prop
  | .buf wr s xs, .buf wr' s' ys => wr = wr' ∧ s = s' ∧ leC xs ys
  | .obuf wr s xs, .obuf wr' s' ys => wr = wr' ∧ s = s' ∧ leC xs ys
  | .box wr xs, .box wr' ys => wr = wr' ∧ leL xs ys
  | x, y => x = y
theorem LeO.refl (x : Ob) : LeO x x := by
  cases x <;> first | exact rfl | exact ⟨rfl, rfl, alt _⟩ | exact ⟨rfl, aii _⟩
theorem LeO.ok {w : World} {Z : Nat → Nat → Prop} {μ : Nat → Option Cn} {c : Cn} {x y : Ob} (h : LeO x y) (hk : vS w Z μ c x) : vS w Z μ c y ∧ (y.live c → x.live c) := by
  cases x <;> cases y <;> first
    | (cases h; done)
    | (cases h; exact ⟨hk, fun h => h⟩)
    | (obtain ⟨rfl, rfl, hl⟩ := h; exact ⟨BOk.le hk hl, fun h => h⟩)
    | (obtain ⟨rfl, hl⟩ := h
       obtain ⟨hv, ⟨cs, ty, hh, hs, hr⟩, hz⟩ := hk
       obtain ⟨l1, l2⟩ := aij hl
       exact ⟨⟨hv, ⟨cs, ty, hh, by omega, fun j h h' => ⟨l2 j (by omega) h _ _ _ _ (hr j (by omega) h').1, (hr j (by omega) h').2⟩⟩, hz⟩, fun h => h⟩)
structure Le (s s2 : St) : Prop where
  t : ∀ i, LeV (s.t i) (s2.t i)
  o : ∀ a y, s2.o a = some y → ∃ x, s.o a = some x ∧ LeO x y
  n : s.n = s2.n
theorem Le.refl (s : St) : Le s s := ⟨fun _ => LeV.refl _, fun a y h => ⟨y, h, LeO.refl y⟩, rfl⟩
theorem Le.trans {s s2 s3 : St} (h : Le s s2) (h' : Le s2 s3) (hO : ∀ x y z, LeO x y → LeO y z → LeO x z) : Le s s3 :=
  ⟨fun i w Z μ v hv => h'.t i _ _ _ _ (h.t i _ _ _ _ hv), fun a y hy => let ⟨x, h1, h2⟩ := h'.o a y hy; let ⟨z, h3, h4⟩ := h.o a x h1; ⟨z, h3, hO _ _ _ h4 h2⟩, h.n.trans h'.n⟩
theorem Le.objs {t : Nat → V} {o o2 : Nat → Option Ob} {n : Nat} (h : ∀ a y, o2 a = some y → ∃ x, o a = some x ∧ LeO x y) : Le { t := t, o := o, n := n } { t := t, o := o2, n := n } := ⟨fun _ => LeV.refl _, h, rfl⟩
theorem Le.upd {t : Nat → V} {o : Nat → Option Ob} {n a : Nat} {x y : Ob} (ho : o a = some x) (h : LeO x y) : Le { t := t, o := o, n := n } { t := t, o := upd o a (some y), n := n } :=
  Le.objs fun b z hz => by
    by_cases hb : b = a
    · subst hb; rw [Qm] at hz; cases hz; exact ⟨x, ho, h⟩
    · rw [QO _ _ hb] at hz; exact ⟨z, hz, LeO.refl z⟩
theorem Sim.le {C : Ctx} {nt n : Nat} {s s2 : St} {a : Act} {w : World} (h : Sim C nt n s a w) (hl : Le s s2) : Sim C nt n s2 a w := by
  obtain ⟨Z, μ, hg, ht, hf, hm, hd, hn⟩ := h
  refine ⟨Z, μ, ⟨fun b y hb => ?_, fun b d p q e f hbd hp hq he hf lp lq => ?_, hg.zlt, hg.grow, hg.frame, hg.zsub, hg.zsup, hg.zkeep, hg.fix, hg.oo⟩, fun i => hl.t i _ _ _ _ (ht i), hf, hm, hd, hn⟩
  · obtain ⟨x, h1, h2⟩ := hl.o b y hb
    obtain ⟨c, hm, hk, hv⟩ := hg.ob b x h1
    obtain ⟨k1, k2⟩ := h2.ok hk
    exact ⟨c, hm, k1, fun hy => hv (k2 hy)⟩
  · obtain ⟨x, h1, h2⟩ := hl.o b p hp
    obtain ⟨x', h1', h2'⟩ := hl.o d q hq
    obtain ⟨c, hm, hk, _⟩ := hg.ob b x h1
    obtain ⟨c', hm', hk', _⟩ := hg.ob d x' h1'
    have e1 : c = e := by rw [hm] at he; cases he; rfl
    have e2 : c' = f := by rw [hm'] at hf; cases hf; rfl
    subst e1; subst e2
    exact hg.sep b d x x' _ _ hbd h1 h1' hm hm' ((h2.ok hk).2 lp) ((h2'.ok hk').2 lq)
section
variable {C : Ctx} {nt : Nat} {s : St} {K : St → Prop} {E : Nat → St → Prop} {R : St → Prop}
end
end Av
end
section
namespace Av
open Go
theorem EvP.shut {Γ : Env} {f : FuncId} {args : List V} {ins : List Ob} {Q Q2 : V → List Ob → Prop} (h : EvP Γ f args ins Q)
    (hq : ∀ res outs, Q res outs → ∃ res2 outs2 br B, Q2 res2 outs2 ∧ conv (fun k => outs[k]?) br B res res2 ∧ aqy (fun k => outs[k]?) br B br outs2 ∧ br.Nodup ∧ br.take ins.length = List.range ins.length) : EvP Γ f args ins Q2 := by
  intro C cargs hP hm hmu hg hF hsz hrep
  refine (h C cargs hP hm hmu hg hF hsz hrep).mono ?_
  rintro e w' ⟨res, outs, hQ, v, Z', μ', rfl, hr, hg', hmu'⟩
  obtain ⟨res2, outs2, br, B, h2, hc, hl, hn, hf⟩ := hq res outs hQ
  obtain ⟨g2, h3, _⟩ := hg'.close hn hl (by rw [hm]; exact hf)
  exact ⟨res2, outs2, h2, v, _, _, rfl, qE hg' br B _ _ _ _ (Nat.le_refl _) hr hc, g2, h3⟩
structure EvK (Γ : Env) (f : FuncId) (args cs : List V) (Q : V → List V → Prop) : Prop where
  ev : EvP Γ f (.ptr 0 0 :: args) [.box true cs] (fun r o => ∃ cs2, o = [.box true cs2] ∧ Q r cs2)
  c1 : Qh cs
  cq : ∀ r cs2, Q r cs2 → r.closed ∧ Qh cs2
theorem EvD.k {Γ : Env} {f : FuncId} {args cs cs2 : List V} {res : V} {Q : V → List V → Prop} (h : EvD Γ f args cs res cs2) (hq : Q res cs2) (hc : ∀ r cs2, Q r cs2 → r.closed ∧ Qh cs2) : EvK Γ f args cs Q :=
  ⟨h.ev.p.weaken fun r o ⟨h1, h2⟩ => ⟨cs2, h2, h1 ▸ hq⟩, h.c1, hc⟩
theorem EvK.weaken {Γ : Env} {f : FuncId} {args cs : List V} {Q Q' : V → List V → Prop} (h : EvK Γ f args cs Q) (hq : ∀ r c, Q r c → Q' r c) (hc : ∀ r cs2, Q' r cs2 → r.closed ∧ Qh cs2) : EvK Γ f args cs Q' :=
  ⟨h.ev.weaken fun r o ⟨c, h1, h2⟩ => ⟨c, h1, hq _ _ h2⟩, h.c1, hc⟩
section
variable {Γ : Env} {b : Nat} {r : List AO} {s : St} {d : Option Nat} {f : FuncId} {acts cs : List V} {Q : V → List V → Prop} {K : St → Prop} {a : Nat}
end
section
variable {Γ : Env} {b : Nat} {r : List AO} {s : St} {d : Option Nat} {f : FuncId} {acts args cs : List V} {Q : V → List Ob → Prop} {K : St → Prop} {okf : Option (List Nat) → Prop} {a : Nat}
end
section
variable {C : Ctx} {nt : Nat} {s : St} {K : St → Prop} {E : Nat → St → Prop} {R : St → Prop}
end
structure EvZ (Γ : Env) (f : FuncId) (args : List V) (sz : Nat) (xs : List V) (m : Nat) (ys : List V) : Prop where
  ev : Ev Γ f (.hd 0 0 xs.length :: args) [.buf true sz xs] (.hd 0 0 m) [.buf true sz ys]
theorem aj5 {Γ : Env} {b : Nat} {r : List AO} {s : St} {d : Option Nat} {f : FuncId} {x : V} {acts args : List V} {okf : Option (List Nat) → Prop} {K : St → Prop} {a sz n m : Nat} {xs ys : List V}
    (ha : s.o a = some (.buf true sz xs)) (h : EvZ Γ f args sz xs m ys) (hab : decide (a < b) = true) (hn : n = xs.length) (hc : QB s.o (some []) acts)
    (hk : wL Γ (b + KK) r { t := (s.put d (.hd a 0 m)).t, o := upd s.o a (some (.buf true sz ys)), n := s.n } K) : ak5 Γ b r s d f (.hd a 0 n :: acts) (x :: args) okf K := by
  intro h1 _
  simp only [Y4, List.cons.injEq] at h1
  obtain ⟨_, rfl⟩ := h1
  subst hn
  refine XV ⟨_, _, _, _, [a], some [], h.ev, ⟨?_, YG s.o [a] [] (fun x hx => by cases hx) acts hc⟩, ⟨⟨_, ha, rfl, rfl⟩, trivial⟩, by simp, ?_, by simp, by simp [KK], fun h => by simp at h, ?_⟩
  · simp [conv]
  · intro x hx
    simp only [List.mem_singleton] at hx
    subst hx; exact of_decide_eq_true hab
  · simp only [X7, X6, Ob.ren, asu, V.ren, sig, List.getElem?_cons_zero, Option.getD_some]
    exact hk
theorem agD {Γ : Env} {f : FuncId} {nt : Nat} {ac : AC} {rs : List Jf} (hb : Has Γ.P f nt ac rs) {args xs ys : List V} {sz m : Nat} (ha : args.length + 1 ≤ nt)
    (h : ∀ C : Ctx, C.env = Γ → C.m = 1 → AWp C nt ac { t := (WO (.hd 0 0 xs.length :: args) []).t, o := afe [(0, .buf true sz xs)], n := 1 } (acs 1 rs (.hd 0 0 m) [.buf true sz ys]) (fun _ _ => False) (acs 1 rs (.hd 0 0 m) [.buf true sz ys])) : EvZ Γ f args sz xs m ys := by
  refine ⟨VF hb (by simpa using ha) fun C hC hm => ?_⟩
  refine (congrArg (fun s => AWp C nt ac s _ _ _) ?_).mp (h C hC hm)
  simp only [WO]
  congr 1
  funext k
  match k with
  | 0 => rfl
  | k + 1 => simp [afe]
theorem ajP {rs : List Jf} {s : St} {xs ys : List V} {sz m n : Nat} (vs : List V) (h : afm s rs = some vs) (ho : s.o 0 = some (.buf true sz xs)) (hc : aiY vs = .hd 0 0 n) (hn : n = m) (hx : xs = ys) : acs 1 rs (.hd 0 0 m) [.buf true sz ys] s := by
  subst hx; subst hn
  exact jI rs vs _ h ⟨[0], none, by rw [hc]; simp [conv], ⟨⟨_, ho, fun h => h, rfl, rfl⟩, trivial⟩, by simp, rfl⟩
end Av
end
section
namespace Av
open Go
section
variable {Γ : Env} {A W : Nat → Bool} {b : Nat} {r : List AO} {s : St} {d : Option Nat} {f : FuncId} {acts args : List V} {okf : Option (List Nat) → Prop} {x y z res : V} {J K : St → Prop} {cs cs2 ks vs : List V} {a p off c0 : Nat}
theorem atw {x a p n : Nat} {o : Nat → Option Ob} : wN (some [x]) [a, p] o n = if n = x then (if x = a then o n else if x = p then o n else (o n).map Ob.frz) else o n := by
  simp only [wN, List.mem_singleton, List.mem_cons, List.not_mem_nil, or_false]
  by_cases h1 : n = x
  · subst h1
    by_cases h2 : n = a <;> by_cases h3 : n = p <;> simp [h2, h3]
  · simp [h1]
theorem atv {x n : Nat} {o : Nat → Option Ob} : wN (some [x]) [] o n = if n = x then (o n).map Ob.frz else o n := by
  simp only [wN, List.mem_cons, List.not_mem_nil, or_false, not_false_eq_true, and_true]
attribute [go_sem] atw atv
theorem aoI {args : List V} (h : EvC Γ f args res) (hc : okf (some (Jq acts))) (hk : wL Γ (b + KK) r { t := (s.put d res).t, o := wN (some (Jq acts)) [] s.o, n := s.n } K) : ak5 Γ b r s d f acts args okf K := by
  rintro rfl rfl
  refine XV ⟨_, _, _, _, [], some (Jq acts), h.1, Y5 _ _ _ hc, trivial, List.nodup_nil, fun x hx => by simp at hx, by simp, by simp [KK], fun h => by simp at h, ?_⟩
  simp only [X7, X6, Wc _ _ h.2]
  exact hk
end
section
variable {Γ : Env} {A W : Nat → Bool} {b : Nat} {s : St} {d : Option Nat} {f : FuncId} {acts args : List V} {okf : Option (List Nat) → Prop} {res : V} {J : St → Prop}
end
end Av
end
section
namespace Av
open Go
mutual
def V.deep : V → List Nat
  | .hd a _ _ => [a]
  | .ptr a _ => [a]
  | .agg cs => ajS cs
  | .tup cs => ajS cs
  | .clo _ cs => ajS cs
  | .top => []
  | .sc _ => []
  | .nn => []
  | .sl _ _ => []
  | .ept _ _ _ => []
  | .mp _ => []
  | .ro _ _ => []
def ajS : List V → List Nat
  | [] => []
  | v :: r => v.deep ++ ajS r
end
attribute [go_sem] V.deep ajS List.nil_append List.append_nil List.cons_append
section
variable {Γ : Env} {b : Nat} {r : List AO} {s : St} {d : Option Nat} {f : FuncId} {acts args : List V} {res : V} {K : St → Prop} {okf : Option (List Nat) → Prop}
theorem ase (h : EvC Γ f args res) (hc : okf (some (ajS acts))) (hk : wL Γ (b + KK) r { t := (s.put d res).t, o := wN (some (ajS acts)) [] s.o, n := s.n } K) : ak5 Γ b r s d f acts args okf K := by
  rintro rfl rfl
  refine XV ⟨_, _, _, _, [], some (ajS acts), h.1, Y5 _ _ _ hc, trivial, List.nodup_nil, fun x hx => by simp at hx, by simp, by simp [KK], fun h => by simp at h, ?_⟩
  simp only [X7, X6, Wc _ _ h.2]
  exact hk
end
end Av
end
section
namespace Av
open Go
structure EvI (Γ : Env) (f : FuncId) (args : List V) (sx : Nat) (xs ys : List V) : Prop where
  ev : Ev Γ f (.hd 0 0 xs.length :: args) [.buf true sx xs] (.hd 1 0 ys.length) [.dead, .buf true sx ys]
structure EvX (Γ : Env) (f : FuncId) (args : List V) (sx : Nat) (xs : List V) : Prop where
  ev : Ev Γ f (.hd 0 0 xs.length :: args) [.buf true sx xs] (.hd 0 0 xs.length) [.buf true sx xs]
section
variable {Γ : Env} {A W : Nat → Bool} {b : Nat} {r : List AO} {s : St} {d : Option Nat} {f : FuncId} {acts args : List V} {okf : Option (List Nat) → Prop} {J K : St → Prop} {a n sx : Nat} {xs ys : List V} {x : V}
theorem aj6 (ha : s.o a = some (.buf true sx xs)) (h : EvI Γ f args sx xs ys) (hal : (Jq acts).contains a = false) (hd : decide (a < b) = true) (hn : n = xs.length) (hc : QB s.o (some (Jq acts)) acts)
    (hk : wL Γ (b + KK) r { t := (s.put d (.hd b 0 ys.length)).t, o := upd (upd (wN (some (Jq acts)) [a] s.o) b (some (.buf true sx ys))) a (some .dead), n := s.n } K) : ak5 Γ b r s d f (.hd a 0 n :: acts) (x :: args) okf K := by
  intro h1 _
  simp only [Y4, List.cons.injEq] at h1
  obtain ⟨_, rfl⟩ := h1
  subst hn
  have hal' : a ∉ Jq acts := by simpa using hal
  refine XV ⟨_, _, _, _, [a], some (Jq acts), h.ev, ⟨?_, YG s.o [a] _ (fun y hy => ?_) acts hc⟩, ⟨⟨_, ha, rfl, rfl⟩, trivial⟩, by simp, by simpa using of_decide_eq_true hd, by simp, by simp [KK], fun h => by simp at h, ?_⟩
  · simp [conv]
  · intro e
    rw [List.mem_singleton.1 e] at hy
    exact hal' hy
  · simp only [X7, X6, Ob.ren, V.ren, sig]
    exact hk
theorem al1 (ha : s.o a = some (.buf true sx xs)) (h : EvX Γ f args sx xs) (hal : (Jq acts).contains a = false) (hd : decide (a < b) = true) (hn : n = xs.length) (hc : QB s.o (some (Jq acts)) acts)
    (hk : wL Γ (b + KK) r { t := (s.put d (.hd a 0 n)).t, o := upd (wN (some (Jq acts)) [a] s.o) a (some (.buf true sx xs)), n := s.n } K) : ak5 Γ b r s d f (.hd a 0 n :: acts) (x :: args) okf K := by
  intro h1 _
  simp only [Y4, List.cons.injEq] at h1
  obtain ⟨_, rfl⟩ := h1
  subst hn
  have hal' : a ∉ Jq acts := by simpa using hal
  refine XV ⟨_, _, _, _, [a], some (Jq acts), h.ev, ⟨?_, YG s.o [a] _ (fun y hy => ?_) acts hc⟩, ⟨⟨_, ha, rfl, rfl⟩, trivial⟩, by simp, by simpa using of_decide_eq_true hd, by simp, by simp [KK], fun h => by simp at h, ?_⟩
  · simp [conv]
  · intro e
    rw [List.mem_singleton.1 e] at hy
    exact hal' hy
  · simp only [X7, X6, Ob.ren, V.ren, sig]
    exact hk
theorem agF {nt : Nat} {ac : AC} {rs : List Jf} (hb : Has Γ.P f nt ac rs) (ha : args.length + 1 ≤ nt)
    (h : ∀ C : Ctx, C.env = Γ → C.m = 1 → AWp C nt ac (WO (.hd 0 0 xs.length :: args) [.buf true sx xs]) (acs 1 rs (.hd 1 0 ys.length) [.dead, .buf true sx ys]) (fun _ _ => False) (acs 1 rs (.hd 1 0 ys.length) [.dead, .buf true sx ys])) : EvI Γ f args sx xs ys :=
  ⟨VF hb (by simpa using ha) fun C hC hm => h C hC hm⟩
theorem acf {nt : Nat} {ac : AC} {rs : List Jf} (hb : Has Γ.P f nt ac rs) (ha : args.length + 1 ≤ nt)
    (h : ∀ C : Ctx, C.env = Γ → C.m = 1 → AWp C nt ac (WO (.hd 0 0 xs.length :: args) [.buf true sx xs]) (acs 1 rs (.hd 0 0 xs.length) [.buf true sx xs]) (fun _ _ => False) (acs 1 rs (.hd 0 0 xs.length) [.buf true sx xs])) : EvX Γ f args sx xs :=
  ⟨VF hb (by simpa using ha) fun C hC hm => h C hC hm⟩
end
def arA (n : Nat) (v : Value) : List Value := List.replicate n v
theorem atu {x y n : Nat} {o : Nat → Option Ob} : wN (some [x, y]) [] o n = if n = x then (o n).map Ob.frz else if n = y then (o n).map Ob.frz else o n := by
  simp only [wN, List.mem_cons, List.not_mem_nil, or_false, not_false_eq_true, and_true]
  by_cases h1 : n = x <;> by_cases h2 : n = y <;> simp [h1, h2]
theorem att {x y : Nat} : (x ∈ [x, y]) = True := by simp
theorem ats {x y : Nat} : (y ∈ [x, y]) = True := by simp
theorem atE {n : Int} : ([V.sc (Value.int IntKind.i64 n)].all (xl IntKind.i64) = true) = True := by simp [xl]
attribute [go_sem] atu att ats atE
theorem aqg {rs : List Jf} {s : St} {xs' ys : List V} {sx : Nat} (i n : Nat) (h : afm s rs = some [.hd i 0 n]) (h0 : ∃ x, s.o 0 = some x) (hi : s.o i = some (.buf true sx xs')) (hi1 : 1 ≤ i) (hx : xs' = ys) (hn : n = ys.length) :
    acs 1 rs (.hd 1 0 ys.length) [.dead, .buf true sx ys] s := by
  subst hn; subst hx
  obtain ⟨x0, e0⟩ := h0
  refine jI rs _ _ h ⟨[0, i], none, by simp [aiY, conv], ⟨⟨_, e0, ?_⟩, ⟨_, hi, fun h => h, rfl, rfl⟩, trivial⟩, ?_, rfl⟩
  · simp [aqx]
  · simp; omega
theorem aoo {rs : List Jf} {s : St} {xs' ys : List V} {sx : Nat} (n : Nat) (h : afm s rs = some [.hd 0 0 n]) (hi : s.o 0 = some (.buf true sx xs')) (hx : xs' = ys) (hn : n = ys.length) :
    acs 1 rs (.hd 0 0 ys.length) [.buf true sx ys] s := by
  subst hn; subst hx
  exact jI rs _ _ h ⟨[0], none, by simp [aiY, conv], ⟨⟨_, hi, fun h => h, rfl, rfl⟩, trivial⟩, by simp, rfl⟩
end Av
end
section
namespace Av
open Go
section
variable {Γ : Env} {A W : Nat → Bool} {b : Nat} {s : St} {d : Option Nat} {f : FuncId} {acts args : List V} {okf : Option (List Nat) → Prop} {J : St → Prop} {a n sx : Nat} {xs ys : List V} {x : V}
theorem ak7 (ha : s.o a = some (.buf true sx xs)) (hA : A a = true) (hW : W a = true) (h : EvI Γ f args sx xs ys) (hal : (Jq acts).contains a = false) (hd : decide (a < b) = true) (hn : n = xs.length) (hl : ((Jq acts).all fun x => A x && W x) = true) (hc : QB (Yw A s.o) (some (Jq acts)) acts)
    (hk : J { t := (s.put d (.hd b 0 ys.length)).t, o := upd (upd (wN (some (Jq acts)) [a] s.o) b (some (.buf true sx ys))) a (some .dead), n := s.n }) : aiO Γ A W b s d f (.hd a 0 n :: acts) (x :: args) okf J := by
  intro h1 _
  simp only [Y4, List.cons.injEq] at h1
  obtain ⟨_, rfl⟩ := h1
  subst hn
  have hal' : a ∉ Jq acts := by simpa using hal
  have hra : Yw A s.o a = some (.buf true sx xs) := by rw [adM, if_pos hA, ha]
  refine ⟨_, _, _, _, [a], some (Jq acts), h.ev, ⟨?_, YG _ [a] _ (fun y hy => ?_) acts hc⟩, ⟨⟨_, hra, rfl, rfl⟩, trivial⟩, by simp, ?_, by simp, by simp [KK], fun h => by simp at h, fun l h x hx => (by cases h; simpa using List.all_eq_true.1 hl x hx), ?_⟩
  · simp [conv]
  · intro e
    rw [List.mem_singleton.1 e] at hy
    exact hal' hy
  · intro y hy
    rw [List.mem_singleton.1 hy]
    exact ⟨of_decide_eq_true hd, hW⟩
  · simp only [X7, X6, Ob.ren, V.ren, sig]
    exact hk
theorem ak6 (ha : s.o a = some (.buf true sx xs)) (hA : A a = true) (hW : W a = true) (h : EvX Γ f args sx xs) (hal : (Jq acts).contains a = false) (hd : decide (a < b) = true) (hn : n = xs.length) (hl : ((Jq acts).all fun x => A x && W x) = true) (hc : QB (Yw A s.o) (some (Jq acts)) acts)
    (hk : J { t := (s.put d (.hd a 0 n)).t, o := upd (wN (some (Jq acts)) [a] s.o) a (some (.buf true sx xs)), n := s.n }) : aiO Γ A W b s d f (.hd a 0 n :: acts) (x :: args) okf J := by
  intro h1 _
  simp only [Y4, List.cons.injEq] at h1
  obtain ⟨_, rfl⟩ := h1
  subst hn
  have hal' : a ∉ Jq acts := by simpa using hal
  have hra : Yw A s.o a = some (.buf true sx xs) := by rw [adM, if_pos hA, ha]
  refine ⟨_, _, _, _, [a], some (Jq acts), h.ev, ⟨?_, YG _ [a] _ (fun y hy => ?_) acts hc⟩, ⟨⟨_, hra, rfl, rfl⟩, trivial⟩, by simp, ?_, by simp, by simp [KK], fun h => by simp at h, fun l h x hx => (by cases h; simpa using List.all_eq_true.1 hl x hx), ?_⟩
  · simp [conv]
  · intro e
    rw [List.mem_singleton.1 e] at hy
    exact hal' hy
  · intro y hy
    rw [List.mem_singleton.1 hy]
    exact ⟨of_decide_eq_true hd, hW⟩
  · simp only [X7, X6, Ob.ren, V.ren, sig]
    exact hk
end
end Av
end
section
set_option linter.unusedSimpArgs false
set_option linter.unusedVariables false
set_option maxRecDepth 10000
set_option maxHeartbeats 4000000
namespace Av
open Go
theorem ak4 {Γ : Env} {b : Nat} {r : List AO} {s : St} {d : Option Nat} {f : FuncId} {x : V} {g : FK} {off : Nat} {wr : Bool} {cs : List V} {args : List V} {okf : Option (List Nat) → Prop} {K : St → Prop} {a c sz n m : Nat} {xs ys : List V}
    (ha : s.o a = some (.buf true sz xs)) (h : EvZ Γ f args sz xs m ys) (hab : decide (a < b) = true) (hn : n = xs.length) (ho : s.o c = some (.box wr cs)) (hca : decide (c ≠ a) = true) (hcl : Qh cs)
    (hk : wL Γ (b + KK) r { t := (s.put d (.hd a 0 m)).t, o := upd (wN (some [c]) [a] s.o) a (some (.buf true sz ys)), n := s.n } K) : ak5 Γ b r s d f (.hd a 0 n :: [.clo g [.ptr c off]]) (x :: args) okf K := by
  have hc : QB s.o (some [c]) [.clo g [.ptr c off]] := by
    simp only [QB, V.shutOk, and_true, okB, List.mem_singleton, true_and]
    exact ⟨wr, cs, ho, hcl⟩
  intro h1 _
  simp only [Y4, List.cons.injEq] at h1
  obtain ⟨_, rfl⟩ := h1
  subst hn
  refine XV ⟨_, _, _, _, [a], some [c], h.ev, ⟨?_, YG s.o [a] [c] (fun x hx => by
    have := of_decide_eq_true hca
    simp only [List.mem_singleton] at hx ⊢
    subst hx; exact this) _ hc⟩, ⟨⟨_, ha, rfl, rfl⟩, trivial⟩, by simp, ?_, by simp, by simp [KK], fun h => by simp at h, ?_⟩
  · simp [conv]
  · intro x hx
    simp only [List.mem_singleton] at hx
    subst hx; exact of_decide_eq_true hab
  · simp only [X7, X6, Ob.ren, V.ren, sig, List.getElem?_cons_zero, Option.getD_some]
    exact hk
end Av
end
