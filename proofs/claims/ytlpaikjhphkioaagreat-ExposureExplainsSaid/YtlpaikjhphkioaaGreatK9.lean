/- From a law's contract to the row's step. -/
import Derived.Test.YtlpaikjhphkioaaGreatK8
import Derived.Below
import Derived.Handed
set_option linter.unusedVariables false
set_option linter.unusedSimpArgs false
section
namespace Av
open Go Go.RowKit
def J6 (P : Program) (W : World) : Env := ⟨P, fun b => W.heap[b]?⟩
def arL (W : World) (b _i : Nat) : Prop := b < W.heap.size
theorem agO {P : Program} (mix : P.follows .mixedOrders = true) {f : FuncId} (own : Own P f) {W : World} {args : List V} {cargs : Array Value} {b : Bool}
    (h : EvN (J6 P W) f args (V.bool b)) (hsz : cargs.size = args.length) (hrep : ∀ i (h : i < args.length) (h' : i < cargs.size), Rep W (arL W) noμ cargs[i] args[i]) :
    Calls P f cargs W fun e W' => e = .returned (.bool b) ∧ Below W.heap.size W W' := by
  let C : Ctx := { P := P, w0 := W, Z0 := arL W, F := fun _ => False, m := 0, μ0 := noμ, kn := fun b => W.heap[b]?, mix := mix, hkn := fun b x h => ⟨h, fun h => h⟩ }
  have hg : Q3 C W (arL W) noμ (fun k => ([] : List Ob)[k]?) := by
    refine ⟨fun a x h => by simp at h, fun a b x y c d _ h => by simp at h, fun b i h => h, Nat.le_refl _, fun _ _ _ => rfl, fun b i h => .inl h, fun b i h => h, fun _ _ _ => rfl, fun k hk => (by cases hk), KP.refl _⟩
  have := h.1 C cargs rfl rfl (fun k _ => rfl) hg (fun b hb => hb.elim) hsz hrep
  rw [show (J6 P W).P = P from rfl, show C.w0 = W from rfl, KZ own] at this
  refine Calls.mono this ?_
  rintro e w' ⟨v, Z', μ', rfl, hr, hgd, _⟩
  refine ⟨by rw [hr.scE.1], ⟨hgd.oo.1, hgd.oo.2.1, hgd.oo.2.2, hgd.grow, fun k hk => hgd.frame k hk (fun h => h)⟩⟩
theorem Uc {H : Type} {enc : TypeId × Value → H} {a : Assume} {C : Checked} {os : Os} {f : FuncId} {fn : Func} {s : ChangeSpec} {conds : List PathCond} {apart fresh handsOn again : Bool} {X : World → Array Value → Prop}
    (hX : ∀ (w w' : World) (args : Array Value), w.heap = w'.heap → X w args → X w' args)
    (own : ownKnob C.prog.godebug = none) (started : os.Started) (noInit : C.prog.inits.idxOf? f = none) (hfn : C.prog.funcs[f]? = some fn)
    (witness : ∃ (w : World) (tape : Tape) (i : Input), w.os = os ∧ (w.forCall tape i).Shaped C.prog ∧ i.vars = [] ∧ Input.okWide C.prog (w.forCall tape i) .any w.heap.size f i ∧
      ((s.pre enc C.prog fn conds apart (w.forCall tape i).memory i.args ∧ X (w.forCall tape i).memory i.args) ∧ sizedMet enc C.prog fn (OpenSpec.ofChange s) apart (w.forCall tape i).memory i.args) ∧ a.holds C.prog (lone (Frame.enter C.prog f i.args .normal) [] (w.forCall tape i)))
    (contract : ∀ (W : World) (base : Nat) (args : Array Value) (ds gs : List (DataW H)) (before : List MemPlace),
      (∀ (j : Nat) t v, fn.params[j]? = some t → args[j]? = some v → Value.okWide C.prog W .any base t v) →
      DataW.Whole enc C.prog fn.params.toList s.vars apart W args.toList ds gs before →
      (DataW.weightsEach C.prog (fn.params.toList ++ s.plain.varTypes C.prog) (ds ++ gs)).all (· ≤ reachBytes) = true → X W args → W.ShapedOpen C.prog →
      Calls C.prog f args W fun e W' => ∃ v, e = .returned v ∧ s.post enc C.prog fn apart fresh handsOn again W args v W') :
    ReturnsInHanded a C os f .any (fun w args => (s.pre enc C.prog fn conds apart w args ∧ X w args) ∧ sizedMet enc C.prog fn (OpenSpec.ofChange s) apart w args) (s.post enc C.prog fn apart fresh handsOn again) := by
  refine returnsInHanded_of_calls own started noInit witness ?_
  intro w tape i _ hsh _ hok hpre hholds
  obtain ⟨_, _, _, fn', hfn', _, _, _, _, hval⟩ := hok
  have e : fn' = fn := Option.some.inj (hfn'.symm.trans hfn)
  subst e
  obtain ⟨⟨⟨ds, gs, before, hw, hc⟩, hx⟩, hz⟩ := hpre
  have hw' := DataW.Whole.of_heap (w' := w.forCall tape i) (by rfl) hw
  refine (contract (w.forCall tape i) w.heap.size i.args ds gs before hval hw' (hz.weights hw) (hX _ _ _ (by rfl) hx) hsh).mono fun e W' ⟨v, he, hp⟩ => ?_
  subst he
  exact ChangeSpec.post_blind hp
end Av
end
section
namespace Av
open Go
structure EvD (Γ : Env) (f : FuncId) (args : List V) (cs : List V) (res : V) (cs2 : List V) : Prop where
  ev : Ev Γ f (.ptr 0 0 :: args) [.box true cs] res [.box true cs2]
  cl : res.closed
  c1 : Qh cs
  c2 : Qh cs2
def Jq : List V → List Nat
  | [] => []
  | .hd a _ _ :: r => a :: Jq r
  | .ptr a _ :: r => a :: Jq r
  | _ :: r => Jq r
mutual
theorem akV (o : Nat → Option Ob) (br l : List Nat) (hb : ∀ x ∈ l, x ∉ br) : ∀ v : V, v.shutOk0 o (some l) → conv o br (some l) v (v.shut0 o)
  | .top, _ => by simp [V.shut0, conv]
  | .sc _, _ => by simp [V.shut0, conv]
  | .nn, _ => by simp [V.shut0, conv]
  | .sl _ _, _ => by simp [V.shut0, conv]
  | .ro _ _, _ => by simp [V.shut0, conv]
  | .ept _ _ _, _ => by simp [V.shut0, conv]
  | .mp _, _ => by simp [V.shut0, conv]
  | .hd a off len, h => by
    obtain ⟨h1, wr, s, xs, h2⟩ := h
    simp only [V.shut0, h2, conv]
    exact ⟨h1, hb a h1, .inl ⟨wr, xs, rfl, rfl⟩⟩
  | .ptr a off, h => by
    obtain ⟨h1, wr, cs, h2, h3⟩ := h
    simp only [V.shut0, h2, conv]
    exact ⟨h1, hb a h1, trivial, h3, wr, cs, rfl, J9 _ _ _ _ h3⟩
  | .agg cs, h => by simp only [V.shut0, conv]; exact qW o br l hb cs h
  | .tup cs, h => by simp only [V.shut0, conv]; exact qW o br l hb cs h
  | .clo f cs, h => by simp only [V.shut0, conv]; exact ⟨trivial, qW o br l hb cs h⟩
theorem qW (o : Nat → Option Ob) (br l : List Nat) (hb : ∀ x ∈ l, x ∉ br) : ∀ cs : List V, xk o (some l) cs → Ya o br (some l) cs (vN o cs)
  | [], _ => trivial
  | v :: r, h => ⟨akV o br l hb v h.1, qW o br l hb r h.2⟩
end
mutual
theorem amO (o : Nat → Option Ob) (br l : List Nat) (hb : ∀ x ∈ l, x ∉ br) : ∀ v : V, v.shutOk o (some l) → conv o br (some l) v (v.shut o)
  | .top, _ => by simp [V.shut, conv]
  | .sc _, _ => by simp [V.shut, conv]
  | .nn, _ => by simp [V.shut, conv]
  | .sl _ _, _ => by simp [V.shut, conv]
  | .ro _ _, _ => by simp [V.shut, conv]
  | .ept _ _ _, _ => by simp [V.shut, conv]
  | .mp _, _ => by simp [V.shut, conv]
  | .hd a off len, h => by
    obtain ⟨h1, h2⟩ := h
    unfold arx at h2
    split at h2
    · rename_i wr s xs h3
      simp only [V.shut, h3, conv]
      exact ⟨h1, hb a h1, .inl ⟨wr, xs, rfl, rfl⟩⟩
    · rename_i wr s xs h3
      simp only [V.shut, h3, conv]
      exact ⟨h1, hb a h1, .inr ⟨wr, xs, rfl, qW _ _ _ hb _ h2.1, h2.2, VH _ _⟩⟩
    · exact h2.elim
  | .ptr a off, h => by
    obtain ⟨h1, wr, cs, h2, h3⟩ := h
    simp only [V.shut, h2, conv]
    exact ⟨h1, hb a h1, trivial, h3, wr, cs, rfl, J9 _ _ _ _ h3⟩
  | .agg cs, h => by simp only [V.shut, conv]; exact YG o br l hb cs h
  | .tup cs, h => by simp only [V.shut, conv]; exact YG o br l hb cs h
  | .clo f cs, h => by simp only [V.shut, conv]; exact ⟨trivial, YG o br l hb cs h⟩
theorem YG (o : Nat → Option Ob) (br l : List Nat) (hb : ∀ x ∈ l, x ∉ br) : ∀ cs : List V, QB o (some l) cs → Ya o br (some l) cs (Y4 o cs)
  | [], _ => trivial
  | v :: r, h => ⟨amO o br l hb v h.1, YG o br l hb r h.2⟩
end
section
variable {Γ : Env} {b : Nat} {r : List AO} {s : St} {d : Option Nat} {f : FuncId} {acts : List V} {res : V} {K : St → Prop} {cs cs2 : List V} {a : Nat}
theorem ata (l : List Nat) (ha : s.o a = some (.box true cs)) (h : EvD Γ f (Y4 s.o acts) cs res cs2) (hc : QB s.o (some l) acts) (hal : a ∉ l) (hab : a < b)
    (hk : wo Γ (b + KK) r { t := (s.put d res).t, o := upd (wN (some l) [a] s.o) a (some (.box true cs2)), n := s.n } K) : awC Γ b r s d f (.ptr a 0 :: acts) K := by
  refine XV ⟨_, _, _, _, [a], some l, h.ev, ⟨?_, YG s.o [a] l ?_ acts hc⟩, ⟨⟨_, ha, J9 _ _ _ _ h.c1⟩, trivial⟩, by simp, by simpa using hab, Nat.le_refl _, by simp [KK], fun h => by simp at h, ?_⟩
  · simp [conv]
  · intro x hx hxa
    simp only [List.mem_singleton] at hxa
    subst hxa; exact hal hx
  · rw [Wc _ _ h.cl]
    simp only [X7, X6, Ob.ren, JR _ _ h.c2]
    exact hk
theorem asd (ha : s.o a = some (.box true cs)) (h : EvD Γ f (Y4 s.o acts) cs res cs2) (hc : QB s.o (some (Jq acts)) acts) (hal : a ∉ Jq acts) (hab : a < b)
    (hk : wo Γ (b + KK) r { t := (s.put d res).t, o := upd (wN (some (Jq acts)) [a] s.o) a (some (.box true cs2)), n := s.n } K) : awC Γ b r s d f (.ptr a 0 :: acts) K := ata _ ha h hc hal hab hk
theorem KS {x : V} {args : List V} {okf : Option (List Nat) → Prop} (ha : s.o a = some (.box true cs)) (h : EvD Γ f args cs res cs2) (hal : (Jq acts).contains a = false) (hab : decide (a < b) = true) (hc : QB s.o (some (Jq acts)) acts)
    (hk : wo Γ (b + KK) r { t := (s.put d res).t, o := upd (wN (some (Jq acts)) [a] s.o) a (some (.box true cs2)), n := s.n } K) : ak5 Γ b r s d f (.ptr a 0 :: acts) (x :: args) okf K := by
  intro h1 _
  simp only [Y4, List.cons.injEq] at h1
  obtain ⟨_, rfl⟩ := h1
  exact asd ha h hc (by simpa using hal) (of_decide_eq_true hab) hk
theorem ass {br : List Nat} {o : Nat → Option Ob} : wN (some []) br o = o := by
  funext n; simp [wN]
theorem atv {x a n : Nat} {o : Nat → Option Ob} : wN (some [x]) [a] o n = if n = x then (if x = a then o n else (o n).map Ob.frz) else o n := by
  simp only [wN, List.mem_singleton]
  by_cases h1 : n = x
  · subst h1
    by_cases h2 : n = a <;> simp [h2]
  · simp [h1]
end
theorem Uv {Γ : Env} {f : FuncId} {nt : Nat} {ac : AC} {rs : List Jf} (hb : Has Γ.P f nt ac rs) {args cs cs2 : List V} {res : V} (ha : args.length + 1 ≤ nt) (hr : res.closed) (h1 : Qh cs) (h2 : Qh cs2)
    (h : ∀ C : Ctx, C.env = Γ → C.m = 1 → AWp C nt ac (WO (.ptr 0 0 :: args) [.box true cs]) (acr 1 rs res [.box true cs2]) (fun _ _ => False) (acr 1 rs res [.box true cs2])) : EvD Γ f args cs res cs2 :=
  ⟨VF hb (by simpa using ha) h, hr, h1, h2⟩
theorem aeX {rs : List Jf} {res : V} {s : St} {cs2 : List V} (vs : List V) (h : afn s rs = some vs) (ho : s.o 0 = some (.box true cs2)) (h2 : Qh cs2) (hc : conv s.o [0] none (aiX vs) res) : acr 1 rs res [.box true cs2] s :=
  jI rs vs _ h ⟨[0], none, hc, ⟨⟨_, ho, fun h => h, J9 _ _ _ _ h2⟩, trivial⟩, by simp, rfl⟩
structure EvR (Γ : Env) (f : FuncId) (args : List V) (cs : List V) : Prop where
  ev : Ev Γ f args [] (.ptr 0 0) [.box true cs]
  c1 : Qh cs
theorem as7 {Γ : Env} {b : Nat} {r : List AO} {s : St} {d : Option Nat} {f : FuncId} {acts cs : List V} {K : St → Prop} (h : EvR Γ f (Y4 s.o acts) cs) (hc : QB s.o (some (Jq acts)) acts)
    (hk : wo Γ (b + KK) r { t := (s.put d (.ptr b 0)).t, o := upd (wN (some (Jq acts)) [] s.o) b (some (.box true cs)), n := s.n } K) : awC Γ b r s d f acts K := by
  refine XV ⟨_, _, _, _, [], some (Jq acts), h.ev, Y5 _ _ _ hc, trivial, List.nodup_nil, fun x hx => by simp at hx, by simp, by simp [KK], fun h => by simp at h, ?_⟩
  simp only [X7, X6, Ob.ren, JR _ _ h.c1, V.ren, sig]
  exact hk
theorem KR {Γ : Env} {b : Nat} {r : List AO} {s : St} {d : Option Nat} {f : FuncId} {acts args cs : List V} {K : St → Prop} {okf : Option (List Nat) → Prop} (h : EvR Γ f args cs) (hc : okf (some (Jq acts)))
    (hk : wo Γ (b + KK) r { t := (s.put d (.ptr b 0)).t, o := upd (wN (some (Jq acts)) [] s.o) b (some (.box true cs)), n := s.n } K) : ak5 Γ b r s d f acts args okf K := by
  rintro rfl rfl; exact as7 h hc hk
theorem agD {Γ : Env} {f : FuncId} {nt : Nat} {ac : AC} {rs : List Jf} (hb : Has Γ.P f nt ac rs) {args cs : List V} (ha : args.length ≤ nt) (h1 : Qh cs)
    (h : ∀ C : Ctx, C.env = Γ → C.m = 0 → AWp C nt ac (WO args []) (acr 0 rs (.ptr 0 0) [.box true cs]) (fun _ _ => False) (acr 0 rs (.ptr 0 0) [.box true cs])) : EvR Γ f args cs :=
  ⟨VF hb ha h, h1⟩
theorem aqe {rs : List Jf} {s : St} {cs : List V} (a : Nat) (h : afn s rs = some [.ptr a 0]) (ho : s.o a = some (.box true cs)) (h2 : Qh cs) : acr 0 rs (.ptr 0 0) [.box true cs] s :=
  jI rs _ _ h ⟨[a], none, by simp [aiX, conv], ⟨⟨_, ho, fun h => h, J9 _ _ _ _ h2⟩, trivial⟩, by simp, rfl⟩
attribute [go_sem] ass atv Jq Ob.frz
end Av
end
section
namespace Av
open Go
structure EvW (Γ : Env) (f : FuncId) (args : List V) (sz : Nat) (xs : List V) : Prop where
  ev : Ev Γ f args [] (.hd 0 0 xs.length) [.buf true sz xs]
  ns : ∀ x ∈ xs, x.noSl
theorem agc (l : List Int) : ∀ x ∈ l.map V.int, x.noSl := by
  intro x hx; simp only [List.mem_map] at hx; obtain ⟨y, _, rfl⟩ := hx; simp only [V.noSl]
theorem afS (l : List (List UInt8)) : ∀ x ∈ l.map V.str, x.noSl := by
  intro x hx; simp only [List.mem_map] at hx; obtain ⟨y, _, rfl⟩ := hx; simp only [V.noSl]
theorem as6 {Γ : Env} {b : Nat} {r : List AO} {s : St} {d : Option Nat} {f : FuncId} {acts xs : List V} {sz : Nat} {K : St → Prop} (h : EvW Γ f (Y4 s.o acts) sz xs) (hc : QB s.o none acts)
    (hk : wo Γ (b + KK) r { t := (s.put d (.hd b 0 xs.length)).t, o := upd s.o b (some (.buf true sz xs)), n := s.n } K) : awC Γ b r s d f acts K := by
  refine XV ⟨_, _, _, _, [], none, h.ev, Y5 _ _ _ hc, trivial, List.nodup_nil, fun x hx => by simp at hx, by simp, by simp [KK], fun _ => ⟨by simp only [V.noSl], fun x hx => ?_⟩, ?_⟩
  · simp only [List.mem_singleton] at hx; subst hx; exact h.ns
  · simp only [X7, X6, Ob.ren, V.ren, sig]
    exact hk
theorem ase {Γ : Env} {A W : Nat → Bool} {b : Nat} {s : St} {d : Option Nat} {f : FuncId} {acts xs : List V} {sz : Nat} {J : St → Prop} (h : EvW Γ f (Y4 (Yw A s.o) acts) sz xs) (hc : QB (Yw A s.o) none acts)
    (hk : J { t := (s.put d (.hd b 0 xs.length)).t, o := upd s.o b (some (.buf true sz xs)), n := s.n }) : YI Γ A W b s d f acts J := by
  refine ⟨_, _, _, _, [], none, h.ev, Y5 _ _ _ hc, trivial, List.nodup_nil, fun x hx => by simp at hx, by simp, by simp [KK], fun _ => ⟨by simp only [V.noSl], fun x hx => ?_⟩, fun l h => by simp at h, ?_⟩
  · simp only [List.mem_singleton] at hx; subst hx; exact h.ns
  · simp only [X7, X6, Ob.ren, V.ren, sig]
    exact hk
theorem ae4 {Γ : Env} {b : Nat} {r : List AO} {s : St} {d : Option Nat} {f : FuncId} {acts args xs : List V} {sz : Nat} {K : St → Prop} {okf : Option (List Nat) → Prop} (h : EvW Γ f args sz xs) (hc : okf none)
    (hk : wo Γ (b + KK) r { t := (s.put d (.hd b 0 xs.length)).t, o := upd s.o b (some (.buf true sz xs)), n := s.n } K) : ak5 Γ b r s d f acts args okf K := by
  rintro rfl rfl; exact as6 h hc hk
theorem aaG {Γ : Env} {A W : Nat → Bool} {b : Nat} {s : St} {d : Option Nat} {f : FuncId} {acts args xs : List V} {sz : Nat} {J : St → Prop} {okf : Option (List Nat) → Prop} (h : EvW Γ f args sz xs) (hc : okf none)
    (hk : J { t := (s.put d (.hd b 0 xs.length)).t, o := upd s.o b (some (.buf true sz xs)), n := s.n }) : aiN Γ A W b s d f acts args okf J := by
  rintro rfl rfl; exact ase h hc hk
theorem KX {Γ : Env} {f : FuncId} {nt : Nat} {ac : AC} {rs : List Jf} (hb : Has Γ.P f nt ac rs) {args xs : List V} {sz : Nat} (ha : args.length ≤ nt) (hn : ∀ x ∈ xs, x.noSl)
    (h : ∀ C : Ctx, C.env = Γ → C.m = 0 → AWp C nt ac (WO args []) (acr 0 rs (.hd 0 0 xs.length) [.buf true sz xs]) (fun _ _ => False) (acr 0 rs (.hd 0 0 xs.length) [.buf true sz xs])) : EvW Γ f args sz xs :=
  ⟨VF hb ha h, hn⟩
theorem ads {rs : List Jf} {s : St} {xs : List V} {sz : Nat} (a n : Nat) (h : afn s rs = some [.hd a 0 n]) (hn : n = xs.length) (ho : s.o a = some (.buf true sz xs)) : acr 0 rs (.hd 0 0 xs.length) [.buf true sz xs] s := by
  subst hn
  exact jI rs _ _ h ⟨[a], none, by simp [aiX, conv], ⟨⟨_, ho, fun h => h, rfl, rfl⟩, trivial⟩, by simp, rfl⟩
end Av
end
section
namespace Av
open Go
section
variable {C : Ctx} {nt : Nat} {s : St} {K : St → Prop} {E : Nat → St → Prop} {R : St → Prop}
end
end Av
end
section
namespace Av
open Go
theorem Q3.move {C : Ctx} {w : World} {Z : Nat → Nat → Prop} {μ : Nat → Option Cn} {o : Nat → Option Ob} (h : Q3 C w Z μ o) {x i a n off len sz : Nat} {wr wr2 : Bool} {cells xs : List V} {c : Cn}
    (ho : o x = some (.box wr cells)) (hi : cells[i]? = some (.hd a off len)) (ha : o a = some (.buf wr2 sz xs)) (hc : μ a = some c) (hn : μ n = none) (hm : C.m ≤ n) :
    Q3 C w Z (upd μ n (some c)) (upd (upd (upd o a (some .dead)) x (some (.box wr (cells.set i (.hd n off len))))) n (some (.buf wr2 sz xs))) := by
  have hon := h.free hn
  have hxn : x ≠ n := by rintro rfl; rw [hon] at ho; cases ho
  have han : a ≠ n := by rintro rfl; rw [hon] at ha; cases ha
  have hxa : x ≠ a := by rintro rfl; rw [ho] at ha; cases ha
  have hmu := wj (c := c) hn
  have old : ∀ b y, upd (upd (upd o a (some .dead)) x (some (.box wr (cells.set i (.hd n off len))))) n (some (.buf wr2 sz xs)) b = some y →
      (b = a ∧ y = .dead) ∨ ∃ z d, o (if b = n then a else b) = some z ∧ μ (if b = n then a else b) = some d ∧ upd μ n (some c) b = some d ∧ (y.live d ↔ z.live d) ∧ vR w Z (upd μ n (some c)) d y ∧ (z.live d → d.block < w.heap.size ∧ (C.w0.heap.size ≤ d.block ∨ C.F d.block)) ∧ (b ≠ a) := by
    intro b y hy
    by_cases hbn : b = n
    · subst hbn
      rw [Qm] at hy; cases hy
      obtain ⟨d, hd, hok, hl⟩ := h.ob _ _ ha
      rw [hc] at hd; cases hd
      exact .inr ⟨_, c, by rw [if_pos rfl]; exact ha, by rw [if_pos rfl]; exact hc, Qm _ _ _, Iff.rfl, hok.mono (fun _ _ _ => rfl) (fun _ _ h => h) hmu (fun _ => rfl) (fun _ _ h => h), hl, fun e => han e.symm⟩
    · rw [QO _ _ hbn] at hy
      rw [if_neg hbn, QO _ _ hbn]
      by_cases hbx : b = x
      · subst hbx
        rw [Qm] at hy; cases hy
        obtain ⟨d, hd, ⟨h1, ⟨cs, ty, h2, h3, h4⟩, h5⟩, hl⟩ := h.ob _ _ ho
        refine .inr ⟨_, d, ho, hd, hd, Iff.rfl, ⟨h1, ⟨cs, ty, h2, by simpa using h3, fun j hj hj' => ?_⟩, h5⟩, hl, hxa⟩
        have hj2 : j < cells.length := by simpa using hj
        have h6 := h4 j hj2 hj'
        refine ⟨?_, h6.2⟩
        by_cases hji : j = i
        · subst hji
          rw [List.getElem_set_self]
          have h7 : cells[j] = .hd a off len := by rw [List.getElem?_eq_getElem hj2] at hi; exact Option.some.inj hi
          have h8 := h6.1
          rw [h7] at h8
          generalize cs[j] = v at h8
          cases h8
          rename_i c' hc' hv
          rw [hc] at hc'; cases hc'
          exact .hd (Qm _ _ _) hv
        · rw [List.getElem_set_ne (fun e => hji e.symm)]
          exact h6.1.mono (fun _ _ _ => rfl) (fun _ _ h => h) hmu
      · rw [QO _ _ hbx] at hy
        by_cases hba : b = a
        · subst hba
          rw [Qm] at hy; cases hy
          exact .inl ⟨rfl, rfl⟩
        · rw [QO _ _ hba] at hy
          obtain ⟨d, hd, hok, hl⟩ := h.ob b y hy
          exact .inr ⟨y, d, hy, hd, hd, Iff.rfl, hok.mono (fun _ _ _ => rfl) (fun _ _ h => h) hmu (fun _ => rfl) (fun _ _ h => h), hl, hba⟩
  refine ⟨fun b y hy => ?_, fun b d y z e f hbd hy hz he hf lb ld => ?_, h.zlt, h.grow, h.frame, h.zsub, h.zsup, h.zkeep, fun k hk => ?_, h.oo⟩
  · rcases old b y hy with ⟨rfl, rfl⟩ | ⟨z, d, h1, h2, h3, h4, h5, h6, _⟩
    · exact ⟨c, hmu _ _ hc, trivial, fun hl => hl.elim⟩
    · exact ⟨d, h3, h5, fun hl => h6 (h4.1 hl)⟩
  · rcases old b y hy with ⟨rfl, rfl⟩ | ⟨y', e', h1, h2, h3, h4, _, _, h7⟩
    · exact lb.elim
    · rcases old d z hz with ⟨rfl, rfl⟩ | ⟨z', f', g1, g2, g3, g4, _, _, g7⟩
      · exact ld.elim
      · rw [he] at h3; cases h3
        rw [hf] at g3; cases g3
        refine h.sep _ _ y' z' _ _ ?_ h1 g1 h2 g2 (h4.1 lb) (g4.1 ld)
        by_cases hbn : b = n
        · subst hbn
          rw [if_pos rfl, if_neg (fun e => hbd e.symm)]
          exact fun e => g7 e.symm
        · rw [if_neg hbn]
          by_cases hdn : d = n
          · subst hdn; rw [if_pos rfl]; exact h7
          · rw [if_neg hdn]; exact hbd
  · rw [QO _ _ (by omega)]; exact h.fix k hk
section
variable {C : Ctx} {nt : Nat} {s : St} {K : St → Prop} {E : Nat → St → Prop} {R : St → Prop}
end
end Av
end
section
namespace Av
open Go
structure EvL (Γ : Env) (f : FuncId) (args : List V) (sz : Nat) (xs : List V) (res : V) (ys : List V) : Prop where
  ev : Ev Γ f (.hd 0 0 xs.length :: args) [.buf true sz xs] res [.buf true sz ys]
  cl : res.closed
theorem as9 {Γ : Env} {b : Nat} {r : List AO} {s : St} {d : Option Nat} {f : FuncId} {acts : List V} {res : V} {K : St → Prop} {a sz n : Nat} {xs ys : List V}
    (ha : s.o a = some (.buf true sz xs)) (h : EvL Γ f (Y4 s.o acts) sz xs res ys) (hn : n = xs.length) (hc : QB s.o (some []) acts) (hab : a < b)
    (hk : wo Γ (b + KK) r { t := (s.put d res).t, o := upd s.o a (some (.buf true sz ys)), n := s.n } K) : awC Γ b r s d f (.hd a 0 n :: acts) K := by
  subst hn
  refine XV ⟨_, _, _, _, [a], some [], h.ev, ⟨?_, YG s.o [a] [] (fun x hx => by cases hx) acts hc⟩, ⟨⟨_, ha, rfl, rfl⟩, trivial⟩, by simp, ?_, by simp, by simp [KK], fun h => by simp at h, ?_⟩
  · simp [conv]
  · intro x hx
    simp only [List.mem_singleton] at hx
    subst hx; exact hab
  · rw [Wc _ _ h.cl]
    simp only [X7, X6, Ob.ren, ass]
    exact hk
theorem qX {Γ : Env} {b : Nat} {r : List AO} {s : St} {d : Option Nat} {f : FuncId} {x : V} {acts args : List V} {okf : Option (List Nat) → Prop} {res : V} {K : St → Prop} {a sz n : Nat} {xs ys : List V}
    (ha : s.o a = some (.buf true sz xs)) (h : EvL Γ f args sz xs res ys) (hab : decide (a < b) = true) (hn : n = xs.length) (hc : QB s.o (some []) acts)
    (hk : wo Γ (b + KK) r { t := (s.put d res).t, o := upd s.o a (some (.buf true sz ys)), n := s.n } K) : ak5 Γ b r s d f (.hd a 0 n :: acts) (x :: args) okf K := by
  intro h1 _
  simp only [Y4, List.cons.injEq] at h1
  obtain ⟨_, rfl⟩ := h1
  exact as9 ha h hn hc (of_decide_eq_true hab) hk
theorem KY {Γ : Env} {f : FuncId} {nt : Nat} {ac : AC} {rs : List Jf} (hb : Has Γ.P f nt ac rs) {args xs ys : List V} {sz : Nat} {res : V} (ha : args.length + 1 ≤ nt) (hr : res.closed)
    (h : ∀ C : Ctx, C.env = Γ → C.m = 1 → AWp C nt ac { t := (WO (.hd 0 0 xs.length :: args) []).t, o := aff [(0, .buf true sz xs)], n := 1 } (acr 1 rs res [.buf true sz ys]) (fun _ _ => False) (acr 1 rs res [.buf true sz ys])) : EvL Γ f args sz xs res ys := by
  refine ⟨VF hb (by simpa using ha) fun C hC hm => ?_, hr⟩
  refine (congrArg (fun s => AWp C nt ac s _ _ _) ?_).mp (h C hC hm)
  simp only [WO]
  congr 1
  funext k
  match k with
  | 0 => rfl
  | k + 1 => simp [aff]
theorem xF {rs : List Jf} {res : V} {s : St} {xs ys : List V} {sz : Nat} (vs : List V) (h : afn s rs = some vs) (ho : s.o 0 = some (.buf true sz xs)) (hc : conv s.o [0] none (aiX vs) res) (hx : xs = ys) : acr 1 rs res [.buf true sz ys] s := by
  subst hx
  exact jI rs vs _ h ⟨[0], none, hc, ⟨⟨_, ho, fun h => h, rfl, rfl⟩, trivial⟩, by simp, rfl⟩
@[go_sem] theorem aq9 (l : List Int) : (∀ y ∈ l.map V.int, y.cells.length = 1) = True := eq_true (by intro y hy; simp only [List.mem_map] at hy; obtain ⟨x, _, rfl⟩ := hy; rfl)
@[go_sem] theorem aq8 (l : List (List UInt8)) : (∀ y ∈ l.map V.str, y.cells.length = 1) = True := eq_true (by intro y hy; simp only [List.mem_map] at hy; obtain ⟨x, _, rfl⟩ := hy; rfl)
end Av
end
section
namespace Av
open Go
end Av
end
section
namespace Av
open Go
def LeV (x y : V) : Prop := ∀ (w : World) (Z : Nat → Nat → Prop) (μ : Nat → Option Cn) (v : Value), Rep w Z μ v x → Rep w Z μ v y
theorem LeV.refl (x : V) : LeV x x := fun _ _ _ _ h => h
theorem LeV.nil (sz : Nat) : LeV (.sc (.slice none 0 0)) (.sl sz []) := fun _ _ _ _ h => by cases h; exact .sl0
theorem LeV.agg {xs ys : List V} (hl : xs.length = ys.length) (h : ∀ j (h1 : j < xs.length) (h2 : j < ys.length), LeV xs[j] ys[j]) : LeV (.agg xs) (.agg ys) := fun w Z μ v hv => by
  cases hv with
  | agg h1 h2 h3 => exact .agg (h1.trans hl) h2 fun j hj hj' => h j (by omega) hj _ _ _ _ (h3 j (by omega) hj')
theorem LeV.agg2 {a b c d : V} (h1 : LeV a c) (h2 : LeV b d) : LeV (.agg [a, b]) (.agg [c, d]) := .agg rfl fun j hj hj' => by
  match j, hj with
  | 0, _ => exact h1
  | 1, _ => exact h2
theorem EvB.le {Γ : Env} {f : FuncId} {args args' : List V} {res : V} {B : Option (List Nat)} (h : EvB Γ f args res B) (hl : args'.length = args.length)
    (hr : ∀ i (h1 : i < args'.length) (h2 : i < args.length), LeV args'[i] args[i]) : EvB Γ f args' res B :=
  ⟨fun C cargs h1 h2 h3 h4 h5 h6 h7 => h.ev C cargs h1 h2 h3 h4 h5 (h6.trans hl) fun i hi hi' => hr i (by omega) hi _ _ _ _ (h7 i (by omega) hi'), h.cl, h.sh⟩
theorem EvB.le2 {Γ : Env} {f : FuncId} {x y x' y' : V} {res : V} {B : Option (List Nat)} (h : EvB Γ f [x, y] res B) (h1 : LeV x' x) (h2 : LeV y' y) : EvB Γ f [x', y'] res B :=
  h.le rfl fun i hi hi' => by
    match i, hi with
    | 0, _ => exact h1
    | 1, _ => exact h2
section
variable {Γ : Env} {A W : Nat → Bool} {b : Nat} {s : St} {d : Option Nat} {f : FuncId} {acts : List V} {res : V} {J : St → Prop} {cs cs2 : List V} {a : Nat}
theorem asg (l : List Nat) (hA : A a = true) (hW : W a = true) (ha : s.o a = some (.box true cs)) (h : EvD Γ f (Y4 (Yw A s.o) acts) cs res cs2) (hc : QB (Yw A s.o) (some l) acts) (hal : a ∉ l) (hl : ∀ x ∈ l, A x = true ∧ W x = true) (hab : a < b)
    (hk : J { t := (s.put d res).t, o := upd (wN (some l) [a] s.o) a (some (.box true cs2)), n := s.n }) : YI Γ A W b s d f (.ptr a 0 :: acts) J := by
  have hra : Yw A s.o a = some (.box true cs) := by rw [adM, if_pos hA, ha]
  refine ⟨_, _, _, _, [a], some l, h.ev, ⟨?_, YG _ [a] l ?_ acts hc⟩, ⟨⟨_, hra, J9 _ _ _ _ h.c1⟩, trivial⟩, by simp, by simpa using ⟨hab, hW⟩, Nat.le_refl _, by simp [KK], fun h => by simp at h, fun l' hl' => by cases hl'; exact hl, ?_⟩
  · simp [conv]
  · intro x hx hxa
    simp only [List.mem_singleton] at hxa
    subst hxa; exact hal hx
  · rw [Wc _ _ h.cl]
    simp only [X7, X6, Ob.ren, JR _ _ h.c2]
    exact hk
theorem V6 {x : V} {args : List V} {okf : Option (List Nat) → Prop} (ha : s.o a = some (.box true cs)) (hA : A a = true) (hW : W a = true) (h : EvD Γ f args cs res cs2) (hal : (Jq acts).contains a = false) (hab : decide (a < b) = true) (hl : ((Jq acts).all fun x => A x && W x) = true) (hc : QB (Yw A s.o) (some (Jq acts)) acts)
    (hk : J { t := (s.put d res).t, o := upd (wN (some (Jq acts)) [a] s.o) a (some (.box true cs2)), n := s.n }) : aiN Γ A W b s d f (.ptr a 0 :: acts) (x :: args) okf J := by
  intro h1 _
  simp only [Y4, List.cons.injEq] at h1
  obtain ⟨_, rfl⟩ := h1
  exact asg _ hA hW ha h hc (by simpa using hal) (fun x hx => by simpa using List.all_eq_true.1 hl x hx) (of_decide_eq_true hab) hk
end
end Av
end
section
namespace Av
open Go
section
variable {Γ : Env} {b : Nat} {r : List AO} {s : St} {d : Option Nat} {f g : FuncId} {acts args : List V} {okf : Option (List Nat) → Prop} {res x : V} {K : St → Prop} {cs cs2 ds ds2 : List V} {a e off : Nat}
end
section
variable {Γ : Env} {b : Nat} {r : List AO} {s : St} {d : Option Nat} {f : FuncId} {acts args : List V} {okf : Option (List Nat) → Prop} {res : V} {K : St → Prop} {xs ys : List V} {a p n sz : Nat}
end
end Av
end
section
namespace Av
open Go
abbrev aeT : V := .sc (.slice none 0 0)
section
variable {Γ : Env} {A W : Nat → Bool} {b : Nat} {r : List AO} {s : St} {d : Option Nat} {f : FuncId} {args : List V} {okf : Option (List Nat) → Prop} {J K : St → Prop} {a p n : Nat} {l t : List UInt8}
end
end Av
end
section
namespace Av
open Go
theorem Ev.shut {Γ : Env} {f : FuncId} {args : List V} {ins : List Ob} {res res2 : V} {outs outs2 : List Ob} {br : List Nat} {B : Option (List Nat)} (h : Ev Γ f args ins res outs)
    (hc : conv (fun k => outs[k]?) br B res res2) (hl : aqx (fun k => outs[k]?) br B br outs2) (hn : br.Nodup) (hf : br.take ins.length = List.range ins.length) : Ev Γ f args ins res2 outs2 := by
  intro C cargs hP hm hmu hg hF hsz hrep
  refine (h C cargs hP hm hmu hg hF hsz hrep).mono ?_
  rintro e w' ⟨v, Z', μ', rfl, hr, hg', hmu'⟩
  obtain ⟨g2, h2, _⟩ := hg'.close hn hl (by rw [hm]; exact hf)
  exact ⟨v, _, _, rfl, qE hg' br B _ _ _ _ (Nat.le_refl _) hr hc, g2, h2⟩
structure EvO (Γ : Env) (f : FuncId) (args cs : List V) (s1 s2 : Nat) (xs ys cs2 : List V) : Prop where
  ev : Ev Γ f (.ptr 0 0 :: args) [.box true cs] (.agg [.hd 1 0 xs.length, .hd 2 0 ys.length]) [.box true cs2, .buf true s1 xs, .buf true s2 ys]
  c1 : Qh cs
  c2 : Qh cs2
  ca : Qh args
theorem EvO.d {Γ : Env} {f : FuncId} {args cs : List V} {s1 s2 : Nat} {xs ys cs2 : List V} (h : EvO Γ f args cs s1 s2 xs ys cs2) : EvD Γ f args cs (.agg [.sl s1 xs, .sl s2 ys]) cs2 := by
  refine ⟨h.ev.shut (br := [0]) (B := none) ?_ ⟨⟨_, rfl, fun h => h, J9 _ _ _ _ h.c2⟩, trivial⟩ (by simp) rfl, ?_, h.c1, h.c2⟩
  · simp [conv, Ya, okB]
  · simp only [V.closed, Qh, and_self]
section
variable {Γ : Env} {b : Nat} {r : List AO} {s : St} {d : Option Nat} {f : FuncId} {args acts : List V} {cs cs2 xs ys : List V} {s1 s2 : Nat} {K : St → Prop} {okf : Option (List Nat) → Prop} {a : Nat}
end
end Av
end
section
namespace Av
open Go
end Av
end
section
namespace Av
open Go
def atn (a : Nat) : V → V
  | .ptr _ _ => .ptr a 0
  | v => v
attribute [go_sem] atn
section
variable {Γ : Env} {A W : Nat → Bool} {b : Nat} {s : St} {d : Option Nat} {f : FuncId} {acts args : List V} {okf : Option (List Nat) → Prop} {J : St → Prop} {a p n : Nat}
theorem V5 {cs : List V} (h : EvR Γ f args cs) (hl : ((Jq acts).all fun x => A x && W x) = true) (hc : QB (Yw A s.o) (some (Jq acts)) acts)
    (hk : J { t := (s.put d (.ptr b 0)).t, o := upd (wN (some (Jq acts)) [] s.o) b (some (.box true cs)), n := s.n }) : aiN Γ A W b s d f acts args okf J := by
  rintro rfl _
  refine ⟨_, _, _, _, [], some (Jq acts), h.ev, Y5 _ _ _ hc, trivial, List.nodup_nil, fun x hx => by simp at hx, by simp, by simp [KK], fun h => by simp at h, fun l h x hx => (by cases h; simpa using List.all_eq_true.1 hl x hx), ?_⟩
  simp only [X7, X6, Ob.ren, JR _ _ h.c1]
  exact hk
end
section
variable {Γ : Env} {A W : Nat → Bool} {b : Nat} {r : List AO} {s : St} {d : Option Nat} {f : FuncId} {acts args : List V} {okf : Option (List Nat) → Prop} {J K : St → Prop} {sx : Nat} {xs : List V}
end
theorem alW {C : Ctx} {nt : Nat} {s : St} {K : St → Prop} {E : Nat → St → Prop} {R : St → Prop} {ks : List Nat} {x : AC} (h : AWp C nt x s (fun _ => False) E R) : AWp C nt (Y6 ks x) s K E R :=
  alX (fun k s' => k = 0 ∧ s' = s) ⟨0, rfl, rfl⟩ (by rintro k s' ⟨rfl, rfl⟩; exact aiK h (fun _ h => h.elim) (fun _ _ h => h) (fun _ h => h))
end Av
end
section
namespace Av
open Go
def leL : List V → List V → Prop
  | [], [] => True
  | x :: r, y :: r' => LeV x y ∧ leL r r'
  | _, _ => False
def leC : List V → List V → Prop
  | [], [] => True
  | x :: r, y :: r' => leL x.cells y.cells ∧ leC r r'
  | _, _ => False
theorem aih : ∀ {xs ys : List V}, leL xs ys → xs.length = ys.length ∧ ∀ i (h : i < xs.length) (h' : i < ys.length), LeV xs[i] ys[i]
  | [], [], _ => ⟨rfl, fun i h => by simp at h⟩
  | x :: r, y :: r', h => by
    obtain ⟨h1, h2⟩ := aih h.2
    refine ⟨by simp [h1], fun i hi hi' => ?_⟩
    cases i with
    | zero => exact h.1
    | succ i => exact h2 i (by simpa using hi) (by simpa using hi')
theorem an2 : ∀ {xs ys : List V}, leC xs ys → xs.length = ys.length ∧ ∀ i (h : i < xs.length) (h' : i < ys.length), leL xs[i].cells ys[i].cells
  | [], [], _ => ⟨rfl, fun i h => by simp at h⟩
  | x :: r, y :: r', h => by
    obtain ⟨h1, h2⟩ := an2 h.2
    refine ⟨by simp [h1], fun i hi hi' => ?_⟩
    cases i with
    | zero => exact h.1
    | succ i => exact h2 i (by simpa using hi) (by simpa using hi')
theorem aig : ∀ xs : List V, leL xs xs
  | [] => trivial
  | x :: r => ⟨LeV.refl x, aig r⟩
theorem alt : ∀ xs : List V, leC xs xs
  | [] => trivial
  | x :: r => ⟨aig _, alt r⟩
theorem BOk.le {w : World} {Z : Nat → Nat → Prop} {ν : Nat → Option Cn} {c : Cn} {wr : Bool} {sz : Nat} {xs ys : List V} (h : BOk w Z ν c wr sz xs) (hl : leC xs ys) : BOk w Z ν c wr sz ys := by
  obtain ⟨l1, l2⟩ := an2 hl
  refine ⟨by rw [← l1]; exact h.1, fun hv => ?_⟩
  obtain ⟨h0, h1, h2, h3, h4, cs, ty, fr, hh, h5, h6, h7⟩ := h.2 hv
  refine ⟨h0, h1, h2, h3, fun i hi => ?_, cs, ty, fr, hh, h5, h6, fun i hi j hj => ?_⟩
  · rw [← (aih (l2 i (by omega) hi)).1]; exact h4 i (by omega)
  · obtain ⟨m1, m2⟩ := aih (l2 i (by omega) hi)
    obtain ⟨v, e1, e2, e3⟩ := h7 i (by omega) j (by omega)
    exact ⟨v, e1, e2, m2 j (by omega) hj _ _ _ _ e3⟩
section
variable {C : Ctx} {nt n : Nat} {s : St} {K : St → Prop} {E : Nat → St → Prop} {R : St → Prop}
end
def LeO : Ob → Ob → Prop
  | .buf wr s xs, .buf wr' s' ys => wr = wr' ∧ s = s' ∧ leC xs ys
  | .obuf wr s xs, .obuf wr' s' ys => wr = wr' ∧ s = s' ∧ leC xs ys
  | .box wr xs, .box wr' ys => wr = wr' ∧ leL xs ys
  | x, y => x = y
theorem LeO.refl (x : Ob) : LeO x x := by
  cases x <;> first | exact rfl | exact ⟨rfl, rfl, alt _⟩ | exact ⟨rfl, aig _⟩
theorem LeO.ok {w : World} {Z : Nat → Nat → Prop} {μ : Nat → Option Cn} {c : Cn} {x y : Ob} (h : LeO x y) (hk : vR w Z μ c x) : vR w Z μ c y ∧ (y.live c → x.live c) := by
  cases x <;> cases y <;> first
    | (cases h; done)
    | (cases h; exact ⟨hk, fun h => h⟩)
    | (obtain ⟨rfl, rfl, hl⟩ := h; exact ⟨BOk.le hk hl, fun h => h⟩)
    | (obtain ⟨rfl, hl⟩ := h
       obtain ⟨hv, ⟨cs, ty, hh, hs, hr⟩, hz⟩ := hk
       obtain ⟨l1, l2⟩ := aih hl
       exact ⟨⟨hv, ⟨cs, ty, hh, by omega, fun j h h' => ⟨l2 j (by omega) h _ _ _ _ (hr j (by omega) h').1, (hr j (by omega) h').2⟩⟩, hz⟩, fun h => h⟩)
structure Le (s s2 : St) : Prop where
  t : ∀ i, LeV (s.t i) (s2.t i)
  o : ∀ a y, s2.o a = some y → ∃ x, s.o a = some x ∧ LeO x y
  n : s.n = s2.n
theorem Le.refl (s : St) : Le s s := ⟨fun _ => LeV.refl _, fun a y h => ⟨y, h, LeO.refl y⟩, rfl⟩
theorem Le.trans {s s2 s3 : St} (h : Le s s2) (h' : Le s2 s3) (hO : ∀ x y z, LeO x y → LeO y z → LeO x z) : Le s s3 :=
  ⟨fun i w Z μ v hv => h'.t i _ _ _ _ (h.t i _ _ _ _ hv), fun a y hy => let ⟨x, h1, h2⟩ := h'.o a y hy; let ⟨z, h3, h4⟩ := h.o a x h1; ⟨z, h3, hO _ _ _ h4 h2⟩, h.n.trans h'.n⟩
theorem Le.objs {t : Nat → V} {o o2 : Nat → Option Ob} {n : Nat} (h : ∀ a y, o2 a = some y → ∃ x, o a = some x ∧ LeO x y) : Le { t := t, o := o, n := n } { t := t, o := o2, n := n } := ⟨fun _ => LeV.refl _, h, rfl⟩
theorem Le.upd {t : Nat → V} {o : Nat → Option Ob} {n a : Nat} {x y : Ob} (ho : o a = some x) (h : LeO x y) : Le { t := t, o := o, n := n } { t := t, o := upd o a (some y), n := n } :=
  Le.objs fun b z hz => by
    by_cases hb : b = a
    · subst hb; rw [Qm] at hz; cases hz; exact ⟨x, ho, h⟩
    · rw [QO _ _ hb] at hz; exact ⟨z, hz, LeO.refl z⟩
theorem Sim.le {C : Ctx} {nt n : Nat} {s s2 : St} {a : Act} {w : World} (h : Sim C nt n s a w) (hl : Le s s2) : Sim C nt n s2 a w := by
  obtain ⟨Z, μ, hg, ht, hf, hm, hd, hn⟩ := h
  refine ⟨Z, μ, ⟨fun b y hb => ?_, fun b d p q e f hbd hp hq he hf lp lq => ?_, hg.zlt, hg.grow, hg.frame, hg.zsub, hg.zsup, hg.zkeep, hg.fix, hg.oo⟩, fun i => hl.t i _ _ _ _ (ht i), hf, hm, hd, hn⟩
  · obtain ⟨x, h1, h2⟩ := hl.o b y hb
    obtain ⟨c, hm, hk, hv⟩ := hg.ob b x h1
    obtain ⟨k1, k2⟩ := h2.ok hk
    exact ⟨c, hm, k1, fun hy => hv (k2 hy)⟩
  · obtain ⟨x, h1, h2⟩ := hl.o b p hp
    obtain ⟨x', h1', h2'⟩ := hl.o d q hq
    obtain ⟨c, hm, hk, _⟩ := hg.ob b x h1
    obtain ⟨c', hm', hk', _⟩ := hg.ob d x' h1'
    have e1 : c = e := by rw [hm] at he; cases he; rfl
    have e2 : c' = f := by rw [hm'] at hf; cases hf; rfl
    subst e1; subst e2
    exact hg.sep b d x x' _ _ hbd h1 h1' hm hm' ((h2.ok hk).2 lp) ((h2'.ok hk').2 lq)
section
variable {C : Ctx} {nt : Nat} {s : St} {K : St → Prop} {E : Nat → St → Prop} {R : St → Prop}
end
end Av
end
section
namespace Av
open Go
theorem EvP.shut {Γ : Env} {f : FuncId} {args : List V} {ins : List Ob} {Q Q2 : V → List Ob → Prop} (h : EvP Γ f args ins Q)
    (hq : ∀ res outs, Q res outs → ∃ res2 outs2 br B, Q2 res2 outs2 ∧ conv (fun k => outs[k]?) br B res res2 ∧ aqx (fun k => outs[k]?) br B br outs2 ∧ br.Nodup ∧ br.take ins.length = List.range ins.length) : EvP Γ f args ins Q2 := by
  intro C cargs hP hm hmu hg hF hsz hrep
  refine (h C cargs hP hm hmu hg hF hsz hrep).mono ?_
  rintro e w' ⟨res, outs, hQ, v, Z', μ', rfl, hr, hg', hmu'⟩
  obtain ⟨res2, outs2, br, B, h2, hc, hl, hn, hf⟩ := hq res outs hQ
  obtain ⟨g2, h3, _⟩ := hg'.close hn hl (by rw [hm]; exact hf)
  exact ⟨res2, outs2, h2, v, _, _, rfl, qE hg' br B _ _ _ _ (Nat.le_refl _) hr hc, g2, h3⟩
structure EvK (Γ : Env) (f : FuncId) (args cs : List V) (Q : V → List V → Prop) : Prop where
  ev : EvP Γ f (.ptr 0 0 :: args) [.box true cs] (fun r o => ∃ cs2, o = [.box true cs2] ∧ Q r cs2)
  c1 : Qh cs
  cq : ∀ r cs2, Q r cs2 → r.closed ∧ Qh cs2
theorem EvD.k {Γ : Env} {f : FuncId} {args cs cs2 : List V} {res : V} {Q : V → List V → Prop} (h : EvD Γ f args cs res cs2) (hq : Q res cs2) (hc : ∀ r cs2, Q r cs2 → r.closed ∧ Qh cs2) : EvK Γ f args cs Q :=
  ⟨h.ev.p.weaken fun r o ⟨h1, h2⟩ => ⟨cs2, h2, h1 ▸ hq⟩, h.c1, hc⟩
theorem EvK.weaken {Γ : Env} {f : FuncId} {args cs : List V} {Q Q' : V → List V → Prop} (h : EvK Γ f args cs Q) (hq : ∀ r c, Q r c → Q' r c) (hc : ∀ r cs2, Q' r cs2 → r.closed ∧ Qh cs2) : EvK Γ f args cs Q' :=
  ⟨h.ev.weaken fun r o ⟨c, h1, h2⟩ => ⟨c, h1, hq _ _ h2⟩, h.c1, hc⟩
section
variable {Γ : Env} {b : Nat} {r : List AO} {s : St} {d : Option Nat} {f : FuncId} {acts cs : List V} {Q : V → List V → Prop} {K : St → Prop} {a : Nat}
end
section
variable {Γ : Env} {b : Nat} {r : List AO} {s : St} {d : Option Nat} {f : FuncId} {acts args cs : List V} {Q : V → List Ob → Prop} {K : St → Prop} {okf : Option (List Nat) → Prop} {a : Nat}
end
section
variable {C : Ctx} {nt : Nat} {s : St} {K : St → Prop} {E : Nat → St → Prop} {R : St → Prop}
end
structure EvZ (Γ : Env) (f : FuncId) (args : List V) (sz : Nat) (xs : List V) (m : Nat) (ys : List V) : Prop where
  ev : Ev Γ f (.hd 0 0 xs.length :: args) [.buf true sz xs] (.hd 0 0 m) [.buf true sz ys]
theorem aj4 {Γ : Env} {b : Nat} {r : List AO} {s : St} {d : Option Nat} {f : FuncId} {x : V} {acts args : List V} {okf : Option (List Nat) → Prop} {K : St → Prop} {a sz n m : Nat} {xs ys : List V}
    (ha : s.o a = some (.buf true sz xs)) (h : EvZ Γ f args sz xs m ys) (hab : decide (a < b) = true) (hn : n = xs.length) (hc : QB s.o (some []) acts)
    (hk : wo Γ (b + KK) r { t := (s.put d (.hd a 0 m)).t, o := upd s.o a (some (.buf true sz ys)), n := s.n } K) : ak5 Γ b r s d f (.hd a 0 n :: acts) (x :: args) okf K := by
  intro h1 _
  simp only [Y4, List.cons.injEq] at h1
  obtain ⟨_, rfl⟩ := h1
  subst hn
  refine XV ⟨_, _, _, _, [a], some [], h.ev, ⟨?_, YG s.o [a] [] (fun x hx => by cases hx) acts hc⟩, ⟨⟨_, ha, rfl, rfl⟩, trivial⟩, by simp, ?_, by simp, by simp [KK], fun h => by simp at h, ?_⟩
  · simp [conv]
  · intro x hx
    simp only [List.mem_singleton] at hx
    subst hx; exact of_decide_eq_true hab
  · simp only [X7, X6, Ob.ren, ass, V.ren, sig, List.getElem?_cons_zero, Option.getD_some]
    exact hk
theorem agC {Γ : Env} {f : FuncId} {nt : Nat} {ac : AC} {rs : List Jf} (hb : Has Γ.P f nt ac rs) {args xs ys : List V} {sz m : Nat} (ha : args.length + 1 ≤ nt)
    (h : ∀ C : Ctx, C.env = Γ → C.m = 1 → AWp C nt ac { t := (WO (.hd 0 0 xs.length :: args) []).t, o := aff [(0, .buf true sz xs)], n := 1 } (acr 1 rs (.hd 0 0 m) [.buf true sz ys]) (fun _ _ => False) (acr 1 rs (.hd 0 0 m) [.buf true sz ys])) : EvZ Γ f args sz xs m ys := by
  refine ⟨VF hb (by simpa using ha) fun C hC hm => ?_⟩
  refine (congrArg (fun s => AWp C nt ac s _ _ _) ?_).mp (h C hC hm)
  simp only [WO]
  congr 1
  funext k
  match k with
  | 0 => rfl
  | k + 1 => simp [aff]
theorem ajO {rs : List Jf} {s : St} {xs ys : List V} {sz m n : Nat} (vs : List V) (h : afn s rs = some vs) (ho : s.o 0 = some (.buf true sz xs)) (hc : aiX vs = .hd 0 0 n) (hn : n = m) (hx : xs = ys) : acr 1 rs (.hd 0 0 m) [.buf true sz ys] s := by
  subst hx; subst hn
  exact jI rs vs _ h ⟨[0], none, by rw [hc]; simp [conv], ⟨⟨_, ho, fun h => h, rfl, rfl⟩, trivial⟩, by simp, rfl⟩
end Av
end
section
namespace Av
open Go
section
variable {Γ : Env} {A W : Nat → Bool} {b : Nat} {r : List AO} {s : St} {d : Option Nat} {f : FuncId} {acts args : List V} {okf : Option (List Nat) → Prop} {x y z res : V} {J K : St → Prop} {cs cs2 ks vs : List V} {a p off c0 : Nat}
theorem atu {x a p n : Nat} {o : Nat → Option Ob} : wN (some [x]) [a, p] o n = if n = x then (if x = a then o n else if x = p then o n else (o n).map Ob.frz) else o n := by
  simp only [wN, List.mem_singleton, List.mem_cons, List.not_mem_nil, or_false]
  by_cases h1 : n = x
  · subst h1
    by_cases h2 : n = a <;> by_cases h3 : n = p <;> simp [h2, h3]
  · simp [h1]
theorem att {x n : Nat} {o : Nat → Option Ob} : wN (some [x]) [] o n = if n = x then (o n).map Ob.frz else o n := by
  simp only [wN, List.mem_cons, List.not_mem_nil, or_false, not_false_eq_true, and_true]
attribute [go_sem] atu att
theorem aoH {args : List V} (h : EvC Γ f args res) (hc : okf (some (Jq acts))) (hk : wo Γ (b + KK) r { t := (s.put d res).t, o := wN (some (Jq acts)) [] s.o, n := s.n } K) : ak5 Γ b r s d f acts args okf K := by
  rintro rfl rfl
  refine XV ⟨_, _, _, _, [], some (Jq acts), h.1, Y5 _ _ _ hc, trivial, List.nodup_nil, fun x hx => by simp at hx, by simp, by simp [KK], fun h => by simp at h, ?_⟩
  simp only [X7, X6, Wc _ _ h.2]
  exact hk
end
section
variable {Γ : Env} {A W : Nat → Bool} {b : Nat} {s : St} {d : Option Nat} {f : FuncId} {acts args : List V} {okf : Option (List Nat) → Prop} {res : V} {J : St → Prop}
end
end Av
end
section
namespace Av
open Go
mutual
def V.deep : V → List Nat
  | .hd a _ _ => [a]
  | .ptr a _ => [a]
  | .agg cs => ajR cs
  | .tup cs => ajR cs
  | .clo _ cs => ajR cs
  | .top => []
  | .sc _ => []
  | .nn => []
  | .sl _ _ => []
  | .ept _ _ _ => []
  | .mp _ => []
  | .ro _ _ => []
def ajR : List V → List Nat
  | [] => []
  | v :: r => v.deep ++ ajR r
end
attribute [go_sem] V.deep ajR List.nil_append List.append_nil List.cons_append
section
variable {Γ : Env} {b : Nat} {r : List AO} {s : St} {d : Option Nat} {f : FuncId} {acts args : List V} {res : V} {K : St → Prop} {okf : Option (List Nat) → Prop}
theorem asb (h : EvC Γ f args res) (hc : okf (some (ajR acts))) (hk : wo Γ (b + KK) r { t := (s.put d res).t, o := wN (some (ajR acts)) [] s.o, n := s.n } K) : ak5 Γ b r s d f acts args okf K := by
  rintro rfl rfl
  refine XV ⟨_, _, _, _, [], some (ajR acts), h.1, Y5 _ _ _ hc, trivial, List.nodup_nil, fun x hx => by simp at hx, by simp, by simp [KK], fun h => by simp at h, ?_⟩
  simp only [X7, X6, Wc _ _ h.2]
  exact hk
end
end Av
end
section
namespace Av
open Go
structure EvI (Γ : Env) (f : FuncId) (args : List V) (sx : Nat) (xs ys : List V) : Prop where
  ev : Ev Γ f (.hd 0 0 xs.length :: args) [.buf true sx xs] (.hd 1 0 ys.length) [.dead, .buf true sx ys]
structure EvX (Γ : Env) (f : FuncId) (args : List V) (sx : Nat) (xs : List V) : Prop where
  ev : Ev Γ f (.hd 0 0 xs.length :: args) [.buf true sx xs] (.hd 0 0 xs.length) [.buf true sx xs]
section
variable {Γ : Env} {A W : Nat → Bool} {b : Nat} {r : List AO} {s : St} {d : Option Nat} {f : FuncId} {acts args : List V} {okf : Option (List Nat) → Prop} {J K : St → Prop} {a n sx : Nat} {xs ys : List V} {x : V}
theorem aj5 (ha : s.o a = some (.buf true sx xs)) (h : EvI Γ f args sx xs ys) (hal : (Jq acts).contains a = false) (hd : decide (a < b) = true) (hn : n = xs.length) (hc : QB s.o (some (Jq acts)) acts)
    (hk : wo Γ (b + KK) r { t := (s.put d (.hd b 0 ys.length)).t, o := upd (upd (wN (some (Jq acts)) [a] s.o) b (some (.buf true sx ys))) a (some .dead), n := s.n } K) : ak5 Γ b r s d f (.hd a 0 n :: acts) (x :: args) okf K := by
  intro h1 _
  simp only [Y4, List.cons.injEq] at h1
  obtain ⟨_, rfl⟩ := h1
  subst hn
  have hal' : a ∉ Jq acts := by simpa using hal
  refine XV ⟨_, _, _, _, [a], some (Jq acts), h.ev, ⟨?_, YG s.o [a] _ (fun y hy => ?_) acts hc⟩, ⟨⟨_, ha, rfl, rfl⟩, trivial⟩, by simp, by simpa using of_decide_eq_true hd, by simp, by simp [KK], fun h => by simp at h, ?_⟩
  · simp [conv]
  · intro e
    rw [List.mem_singleton.1 e] at hy
    exact hal' hy
  · simp only [X7, X6, Ob.ren, V.ren, sig]
    exact hk
theorem al1 (ha : s.o a = some (.buf true sx xs)) (h : EvX Γ f args sx xs) (hal : (Jq acts).contains a = false) (hd : decide (a < b) = true) (hn : n = xs.length) (hc : QB s.o (some (Jq acts)) acts)
    (hk : wo Γ (b + KK) r { t := (s.put d (.hd a 0 n)).t, o := upd (wN (some (Jq acts)) [a] s.o) a (some (.buf true sx xs)), n := s.n } K) : ak5 Γ b r s d f (.hd a 0 n :: acts) (x :: args) okf K := by
  intro h1 _
  simp only [Y4, List.cons.injEq] at h1
  obtain ⟨_, rfl⟩ := h1
  subst hn
  have hal' : a ∉ Jq acts := by simpa using hal
  refine XV ⟨_, _, _, _, [a], some (Jq acts), h.ev, ⟨?_, YG s.o [a] _ (fun y hy => ?_) acts hc⟩, ⟨⟨_, ha, rfl, rfl⟩, trivial⟩, by simp, by simpa using of_decide_eq_true hd, by simp, by simp [KK], fun h => by simp at h, ?_⟩
  · simp [conv]
  · intro e
    rw [List.mem_singleton.1 e] at hy
    exact hal' hy
  · simp only [X7, X6, Ob.ren, V.ren, sig]
    exact hk
theorem agE {nt : Nat} {ac : AC} {rs : List Jf} (hb : Has Γ.P f nt ac rs) (ha : args.length + 1 ≤ nt)
    (h : ∀ C : Ctx, C.env = Γ → C.m = 1 → AWp C nt ac (WO (.hd 0 0 xs.length :: args) [.buf true sx xs]) (acr 1 rs (.hd 1 0 ys.length) [.dead, .buf true sx ys]) (fun _ _ => False) (acr 1 rs (.hd 1 0 ys.length) [.dead, .buf true sx ys])) : EvI Γ f args sx xs ys :=
  ⟨VF hb (by simpa using ha) fun C hC hm => h C hC hm⟩
theorem ace {nt : Nat} {ac : AC} {rs : List Jf} (hb : Has Γ.P f nt ac rs) (ha : args.length + 1 ≤ nt)
    (h : ∀ C : Ctx, C.env = Γ → C.m = 1 → AWp C nt ac (WO (.hd 0 0 xs.length :: args) [.buf true sx xs]) (acr 1 rs (.hd 0 0 xs.length) [.buf true sx xs]) (fun _ _ => False) (acr 1 rs (.hd 0 0 xs.length) [.buf true sx xs])) : EvX Γ f args sx xs :=
  ⟨VF hb (by simpa using ha) fun C hC hm => h C hC hm⟩
end
def ary (n : Nat) (v : Value) : List Value := List.replicate n v
theorem ats {x y n : Nat} {o : Nat → Option Ob} : wN (some [x, y]) [] o n = if n = x then (o n).map Ob.frz else if n = y then (o n).map Ob.frz else o n := by
  simp only [wN, List.mem_cons, List.not_mem_nil, or_false, not_false_eq_true, and_true]
  by_cases h1 : n = x <;> by_cases h2 : n = y <;> simp [h1, h2]
theorem atr {x y : Nat} : (x ∈ [x, y]) = True := by simp
theorem atq {x y : Nat} : (y ∈ [x, y]) = True := by simp
theorem atC {n : Int} : ([V.sc (Value.int IntKind.i64 n)].all (xl IntKind.i64) = true) = True := by simp [xl]
attribute [go_sem] ats atr atq atC
theorem aqf {rs : List Jf} {s : St} {xs' ys : List V} {sx : Nat} (i n : Nat) (h : afn s rs = some [.hd i 0 n]) (h0 : ∃ x, s.o 0 = some x) (hi : s.o i = some (.buf true sx xs')) (hi1 : 1 ≤ i) (hx : xs' = ys) (hn : n = ys.length) :
    acr 1 rs (.hd 1 0 ys.length) [.dead, .buf true sx ys] s := by
  subst hn; subst hx
  obtain ⟨x0, e0⟩ := h0
  refine jI rs _ _ h ⟨[0, i], none, by simp [aiX, conv], ⟨⟨_, e0, ?_⟩, ⟨_, hi, fun h => h, rfl, rfl⟩, trivial⟩, ?_, rfl⟩
  · simp [aqw]
  · simp; omega
theorem aon {rs : List Jf} {s : St} {xs' ys : List V} {sx : Nat} (n : Nat) (h : afn s rs = some [.hd 0 0 n]) (hi : s.o 0 = some (.buf true sx xs')) (hx : xs' = ys) (hn : n = ys.length) :
    acr 1 rs (.hd 0 0 ys.length) [.buf true sx ys] s := by
  subst hn; subst hx
  exact jI rs _ _ h ⟨[0], none, by simp [aiX, conv], ⟨⟨_, hi, fun h => h, rfl, rfl⟩, trivial⟩, by simp, rfl⟩
end Av
end
section
set_option maxRecDepth 10000
set_option maxHeartbeats 4000000
namespace Av
open Go
attribute [local irreducible] AWp wo acE afd awS awC al0 awQ am3 YI adu ak3 awR aeq awB okR afY ris
structure Qa where
  src : Int
  host : List UInt8
  mach : Int
  day : Int
  conf : Int
  kind : Int
  subj : List UInt8
  alg : Int
  bits : Int
  num : Int
  text : List UInt8
  deriving DecidableEq
def Qa.cells (f : Qa) : List V := [V.int f.src, V.str f.host, V.int f.mach, V.int f.day, V.int f.conf, V.int f.kind, V.str f.subj, V.int f.alg, V.int f.bits, V.int f.num, V.str f.text]
def Qa.v (f : Qa) : V := .agg f.cells
def U4 (x y : Int) : Int := if x < y then -1 else if x > y then 1 else 0
def aaW (x y : List UInt8) : Int := if Op.bytesLess x y then -1 else if Op.bytesLess y x then 1 else 0
def YQ : List Int → Int
  | [] => 0
  | x :: r => if x ≠ 0 then x else YQ r
def arz (a b : Qa) : List Int := [aaW a.host b.host, U4 a.mach b.mach, U4 a.day b.day, aaW a.subj b.subj, U4 a.kind b.kind, U4 a.alg b.alg, U4 a.bits b.bits, U4 a.num b.num, aaW a.text b.text, U4 a.src b.src, U4 a.conf b.conf]
def ahG (a b : Qa) : Int := YQ (arz a b)
def Kt (Γ : Env) (f : Nat) : Prop := ∀ (a b : List UInt8), EvN Γ f [V.str a, V.str b] (V.int (aaW a b))
def yA : AC := Qb [0] (.reg [mc 2 (V.bool false)]) (Qb [2] (.reg [mv 3 0, mv 4 0, bn 5 .neq 3 4, mv 2 5]) .ret) def r_cmp_isNaN_int : List Jf := [.tmp 2]
def Uo (Γ : Env) (f : Nat) : Prop := ∀ (x : Int), EvN Γ f [V.int x] (V.bool false)
theorem afy {Γ : Env} {f : Nat} (h : Has Γ.P f 6 yA r_cmp_isNaN_int)  : Uo Γ f := by
  intro x
  refine Qd h zsi zcl zcl fun C hC hm => ?_
  subst hC
  unfold yA
  refine zgo ?_; repeat' first | exact zt | apply zan | intro hc
  all_goals first | exact zr | (refine Qv _ rfl ?_; simp only [go_sem, Nat.reduceEqDiff, Nat.reduceAdd, reduceIte, reduceCtorEq]; simp; done) | trace_state
def qo (Jt : Nat) : AC := Qb [0, 1] (.reg [mc 4 (V.int 0)]) (Qb [0, 1, 5] (.reg [mv 7 0, cl 8 Jt [7], mv 5 8]) (Qb [0, 1, 5, 6] (.reg [mv 9 1, cl 10 Jt [9], mv 6 10]) (Qb [0, 1, 6] (Qb [0, 1, 6, 11] (.reg [mv 11 5]) (.cond (.t 11) (Qb [] (Qb [12] (.reg [mv 12 6]) (.cond (.t 12) (Qb [4] (.reg [mc 4 (V.int 0)]) .ret) .skip)) (Qb [4] (.reg [mc 4 (V.int (-1))]) .ret)) .skip)) (Qb [0, 1] (Qb [0, 1, 13] (.reg [mv 13 6]) (.cond (.t 13) (Qb [4] (.reg [mc 4 (V.int 1)]) .ret) .skip)) (Qb [0, 1] (Qb [0, 1, 16] (.reg [mv 14 0, mv 15 1, bn 16 .lss 14 15]) (.cond (.t 16) (Qb [4] (.reg [mc 4 (V.int (-1))]) .ret) .skip)) (Qb [] (Qb [19] (.reg [mv 17 0, mv 18 1, bn 19 .gtr 17 18]) (.cond (.t 19) (Qb [4] (.reg [mc 4 (V.int 1)]) .ret) .skip)) (Qb [4] (.reg [mc 4 (V.int 0)]) .ret))))))) def r_cmp_Compare_int : List Jf := [.tmp 4]
def XW (Γ : Env) (f : Nat) : Prop := ∀ (x y : Int), EvN Γ f [V.int x, V.int y] (V.int (U4 x y))
theorem adn {Γ : Env} {f Jt : Nat} (h : Has Γ.P f 20 (qo Jt) r_cmp_Compare_int) (z0 : Uo Γ Jt) : XW Γ f := by
  intro x y
  refine Qd h zsi zcl zcl fun C hC hm => ?_
  subst hC
  unfold qo
  by_cases h1 : x < y
  · have e1 : decide (x < y) = true := decide_eq_true h1
    rw [U4, if_pos h1]
    (have zx := e1); exact zg
  · have e1 : decide (x < y) = false := decide_eq_false h1
    by_cases h2 : x > y
    · have e2 : decide (x > y) = true := decide_eq_true h2
      rw [U4, if_neg h1, if_pos h2]
      (have zx := And.intro e1 e2); exact zg
    · have e2 : decide (x > y) = false := decide_eq_false h2
      rw [U4, if_neg h1, if_neg h2]
      (have zx := And.intro e1 e2); exact zg
def qT (Qc : Nat) : List AO := [ld 4 1 0, xo 5 (.load true 11 (.t 1)), xo 6 (.callv (.t 4) [(.t 5)]), ld 7 1 0, xo 8 (.load true 11 (.t 2)), xo 9 (.callv (.t 7) [(.t 8)]), cl 10 Qc [6, 9], mv 3 10]
def ja : List (List Nat) := [[], [], [0, 1], [], [], [3, 4, 2], [2, 5, 5], [6, 6, 0, 1, 2, 3, 4, 5, 6]]
def qJ : OT := .one 0 (.one 1 (.one 2 (.one 3 (.one 4 (.one 5 (.one 6 (.one 7 .done)))))))
@[go_sem] def qO (Qc : Nat) : OP := oN 0 (ld 4 1 0) (oN 1 (xo 5 (.load true 11 (.t 1))) (.one 2 true [] (xo 6 (.callv (.t 4) [(.t 5)])) (oN 3 (ld 7 1 0) (oN 4 (xo 8 (.load true 11 (.t 2))) (.one 5 true [] (xo 9 (.callv (.t 7) [(.t 8)])) (.one 6 false [5, 2] (cl 10 Qc [6, 9]) (oN 7 (mv 3 10) .done)))))))
instance (Qc : Nat) : RG [2, 5] qJ (qO Qc) (qT Qc) ja 8 (fun _ => true) := ⟨rfl, by kernel_rfl, by kernel_rfl⟩
def Uz (Qc : Nat) : AC := Qb [0, 1, 2] (.reg [mc 3 (V.int 0)]) (Qb [3] (wP [2, 5] qJ (qO Qc) (qT Qc) ja) .ret) def r_finding_Order_1_1 : List Jf := [.tmp 3]
def X5 (Γ : Env) (f : Nat) : Prop := ∀ (a b : Qa) (g : Nat) (p : Qa → Int) (hg : ∀ x : Qa, EvN Γ g [x.v] (V.int (p x))), EvN Γ f [.ro [.clo (.n g) []] 0, .ro a.cells 0, .ro b.cells 0] (V.int (U4 (p a) (p b)))
theorem abl {Γ : Env} {f Qc : Nat} (h : Has Γ.P f 11 (Uz Qc) r_finding_Order_1_1) (z0 : XW Γ Qc) : X5 Γ f := by
  intro a b g p hg
  refine Qd h zsi zcl zcl fun C hC hm => ?_
  subst hC
  unfold Uz
  have g1 := (hg a).b
  have g2 := (hg b).b
  have g3 := (z0 (p a) (p b)).b
  simp only [Qa.v, Qa.cells] at g1 g2 ⊢
  exact zg
def qS (Qj : Nat) : List AO := [ld 4 1 0, xo 5 (.load true 11 (.t 1)), xo 6 (.callv (.t 4) [(.t 5)]), ld 7 1 0, xo 8 (.load true 11 (.t 2)), xo 9 (.callv (.t 7) [(.t 8)]), cl 10 Qj [6, 9], mv 3 10]
def q9 : List (List Nat) := [[], [], [0, 1], [], [], [3, 4, 2], [2, 5, 5], [6, 6, 0, 1, 2, 3, 4, 5, 6]]
def qI : OT := .one 0 (.one 1 (.one 2 (.one 3 (.one 4 (.one 5 (.one 6 (.one 7 .done)))))))
@[go_sem] def qN (Qj : Nat) : OP := oN 0 (ld 4 1 0) (oN 1 (xo 5 (.load true 11 (.t 1))) (.one 2 true [] (xo 6 (.callv (.t 4) [(.t 5)])) (oN 3 (ld 7 1 0) (oN 4 (xo 8 (.load true 11 (.t 2))) (.one 5 true [] (xo 9 (.callv (.t 7) [(.t 8)])) (.one 6 false [5, 2] (cl 10 Qj [6, 9]) (oN 7 (mv 3 10) .done)))))))
instance (Qj : Nat) : RG [2, 5] qI (qN Qj) (qS Qj) q9 8 (fun _ => true) := ⟨rfl, by kernel_rfl, by kernel_rfl⟩
def Uy (Qj : Nat) : AC := Qb [0, 1, 2] (.reg [mc 3 (V.int 0)]) (Qb [3] (wP [2, 5] qI (qN Qj) (qS Qj) q9) .ret) def r_finding_Order_2_1 : List Jf := [.tmp 3]
def X4 (Γ : Env) (f : Nat) : Prop := ∀ (a b : Qa) (g : Nat) (p : Qa → List UInt8) (hg : ∀ x : Qa, EvN Γ g [x.v] (V.str (p x))), EvN Γ f [.ro [.clo (.n g) []] 0, .ro a.cells 0, .ro b.cells 0] (V.int (aaW (p a) (p b)))
theorem abk {Γ : Env} {f Qj : Nat} (h : Has Γ.P f 11 (Uy Qj) r_finding_Order_2_1) (z0 : Kt Γ Qj) : X4 Γ f := by
  intro a b g p hg
  refine Qd h zsi zcl zcl fun C hC hm => ?_
  subst hC
  unfold Uy
  have g1 := (hg a).b
  have g2 := (hg b).b
  have g3 := (z0 (p a) (p b)).b
  simp only [Qa.v, Qa.cells] at g1 g2 ⊢
  exact zg
def qk (Xz : Nat) : AC := Qb [1, 2, 3] (.reg [xo 3 (.box false 1 (.t 0)), mc 4 (.sc .nilFunc)]) (Qb [4] (.reg [xo 5 (.mkfn Xz [(.t 3), (.t 1), (.t 2)]), mv 4 5]) .ret) def r_finding_Order_1 : List Jf := [.tmp 4]
def KH (Γ : Env) (f : Nat) : Prop := (∃ g1 : Nat, X5 Γ g1 ∧ ∀ (a b : Qa) (g : Nat), EvC Γ f [.clo (.n g) [], .ro a.cells 0, .ro b.cells 0] (.clo (.n g1) [.ro [.clo (.n g) []] 0, .ro a.cells 0, .ro b.cells 0]))
theorem adj {Γ : Env} {f Xz : Nat} (h : Has Γ.P f 6 (qk Xz) r_finding_Order_1) (z0 : X5 Γ Xz) : KH Γ f := by
  refine ⟨Xz, z0, fun a b g => ?_⟩
  refine Y8 h (by simp) (by simp only [V.closed, Qh, and_self]) fun C hC hm => ?_
  subst hC
  unfold qk
  simp only [Qa.cells]
  exact zg
def qj (Xy : Nat) : AC := Qb [1, 2, 3] (.reg [xo 3 (.box false 1 (.t 0)), mc 4 (.sc .nilFunc)]) (Qb [4] (.reg [xo 5 (.mkfn Xy [(.t 3), (.t 1), (.t 2)]), mv 4 5]) .ret) def r_finding_Order_2 : List Jf := [.tmp 4]
def KG (Γ : Env) (f : Nat) : Prop := (∃ g1 : Nat, X4 Γ g1 ∧ ∀ (a b : Qa) (g : Nat), EvC Γ f [.clo (.n g) [], .ro a.cells 0, .ro b.cells 0] (.clo (.n g1) [.ro [.clo (.n g) []] 0, .ro a.cells 0, .ro b.cells 0]))
theorem adi {Γ : Env} {f Xy : Nat} (h : Has Γ.P f 6 (qj Xy) r_finding_Order_2) (z0 : X4 Γ Xy) : KG Γ f := by
  refine ⟨Xy, z0, fun a b g => ?_⟩
  refine Y8 h (by simp) (by simp only [V.closed, Qh, and_self]) fun C hC hm => ?_
  subst hC
  unfold qj
  simp only [Qa.cells]
  exact zg
def qi : AC := Qb [1] (.reg [xo 1 (.box true 11 (.t 0)), mc 2 (V.str [])]) (Qb [2] (.reg [fa 3 1 1, ld 4 1 3, mv 2 4]) .ret) def r_finding_Order_3 : List Jf := [.tmp 2]
def KF (Γ : Env) (f : Nat) : Prop := ∀ (x : Qa), EvN Γ f [x.v] (V.str x.host)
theorem adh {Γ : Env} {f : Nat} (h : Has Γ.P f 5 qi r_finding_Order_3)  : KF Γ f := by
  intro x
  refine Qd h zsi zcl zcl fun C hC hm => ?_
  subst hC
  unfold qi
  simp only [Qa.v, Qa.cells]
  exact zg
def qh : AC := Qb [1] (.reg [xo 1 (.box true 11 (.t 0)), mc 2 (V.int 0)]) (Qb [2] (.reg [fa 3 2 1, ld 4 1 3, mv 2 4]) .ret) def r_finding_Order_4 : List Jf := [.tmp 2]
def KE (Γ : Env) (f : Nat) : Prop := ∀ (x : Qa), EvN Γ f [x.v] (V.int x.mach)
theorem adg {Γ : Env} {f : Nat} (h : Has Γ.P f 5 qh r_finding_Order_4)  : KE Γ f := by
  intro x
  refine Qd h zsi zcl zcl fun C hC hm => ?_
  subst hC
  unfold qh
  simp only [Qa.v, Qa.cells]
  exact zg
def qg : AC := Qb [1] (.reg [xo 1 (.box true 11 (.t 0)), mc 2 (V.int 0)]) (Qb [2] (.reg [fa 3 3 1, ld 4 1 3, mv 2 4]) .ret) def r_finding_Order_5 : List Jf := [.tmp 2]
def KD (Γ : Env) (f : Nat) : Prop := ∀ (x : Qa), EvN Γ f [x.v] (V.int x.day)
theorem adf {Γ : Env} {f : Nat} (h : Has Γ.P f 5 qg r_finding_Order_5)  : KD Γ f := by
  intro x
  refine Qd h zsi zcl zcl fun C hC hm => ?_
  subst hC
  unfold qg
  simp only [Qa.v, Qa.cells]
  exact zg
def qe : AC := Qb [1] (.reg [xo 1 (.box true 11 (.t 0)), mc 2 (V.str [])]) (Qb [2] (.reg [fa 3 6 1, ld 4 1 3, mv 2 4]) .ret) def r_finding_Order_6 : List Jf := [.tmp 2]
def KC (Γ : Env) (f : Nat) : Prop := ∀ (x : Qa), EvN Γ f [x.v] (V.str x.subj)
theorem ade {Γ : Env} {f : Nat} (h : Has Γ.P f 5 qe r_finding_Order_6)  : KC Γ f := by
  intro x
  refine Qd h zsi zcl zcl fun C hC hm => ?_
  subst hC
  unfold qe
  simp only [Qa.v, Qa.cells]
  exact zg
def qd : AC := Qb [1] (.reg [xo 1 (.box true 11 (.t 0)), mc 2 (V.int 0)]) (Qb [2] (.reg [fa 3 5 1, ld 4 1 3, mv 2 4]) .ret) def r_finding_Order_7 : List Jf := [.tmp 2]
def KB (Γ : Env) (f : Nat) : Prop := ∀ (x : Qa), EvN Γ f [x.v] (V.int x.kind)
theorem adc {Γ : Env} {f : Nat} (h : Has Γ.P f 5 qd r_finding_Order_7)  : KB Γ f := by
  intro x
  refine Qd h zsi zcl zcl fun C hC hm => ?_
  subst hC
  unfold qd
  simp only [Qa.v, Qa.cells]
  exact zg
def qc : AC := Qb [1] (.reg [xo 1 (.box true 11 (.t 0)), mc 2 (V.int 0)]) (Qb [2] (.reg [fa 3 7 1, fa 4 0 3, ld 5 1 4, mv 2 5]) .ret) def r_finding_Order_8 : List Jf := [.tmp 2]
def KA (Γ : Env) (f : Nat) : Prop := ∀ (x : Qa), EvN Γ f [x.v] (V.int x.alg)
theorem adb {Γ : Env} {f : Nat} (h : Has Γ.P f 6 qc r_finding_Order_8)  : KA Γ f := by
  intro x
  refine Qd h zsi zcl zcl fun C hC hm => ?_
  subst hC
  unfold qc
  simp only [Qa.v, Qa.cells]
  exact zg
def K9 : AC := Qb [1] (.reg [xo 1 (.box true 11 (.t 0)), mc 2 (V.int 0)]) (Qb [2] (.reg [fa 3 7 1, fa 4 1 3, ld 5 1 4, mv 2 5]) .ret) def r_finding_Order_9 : List Jf := [.tmp 2]
def Kz (Γ : Env) (f : Nat) : Prop := ∀ (x : Qa), EvN Γ f [x.v] (V.int x.bits)
theorem ada {Γ : Env} {f : Nat} (h : Has Γ.P f 6 K9 r_finding_Order_9)  : Kz Γ f := by
  intro x
  refine Qd h zsi zcl zcl fun C hC hm => ?_
  subst hC
  unfold K9
  simp only [Qa.v, Qa.cells]
  exact zg
def Ki : AC := Qb [1] (.reg [xo 1 (.box true 11 (.t 0)), mc 2 (V.int 0)]) (Qb [2] (.reg [fa 3 9 1, ld 4 1 3, mv 2 4]) .ret) def r_finding_Order_10 : List Jf := [.tmp 2]
def UH (Γ : Env) (f : Nat) : Prop := ∀ (x : Qa), EvN Γ f [x.v] (V.int x.num)
theorem ab9 {Γ : Env} {f : Nat} (h : Has Γ.P f 5 Ki r_finding_Order_10)  : UH Γ f := by
  intro x
  refine Qd h zsi zcl zcl fun C hC hm => ?_
  subst hC
  unfold Ki
  simp only [Qa.v, Qa.cells]
  exact zg
def Kh : AC := Qb [1] (.reg [xo 1 (.box true 11 (.t 0)), mc 2 (V.str [])]) (Qb [2] (.reg [fa 3 10 1, ld 4 1 3, mv 2 4]) .ret) def r_finding_Order_11 : List Jf := [.tmp 2]
def UG (Γ : Env) (f : Nat) : Prop := ∀ (x : Qa), EvN Γ f [x.v] (V.str x.text)
theorem ab8 {Γ : Env} {f : Nat} (h : Has Γ.P f 5 Kh r_finding_Order_11)  : UG Γ f := by
  intro x
  refine Qd h zsi zcl zcl fun C hC hm => ?_
  subst hC
  unfold Kh
  simp only [Qa.v, Qa.cells]
  exact zg
def Kg : AC := Qb [1] (.reg [xo 1 (.box true 11 (.t 0)), mc 2 (V.int 0)]) (Qb [2] (.reg [fa 3 0 1, ld 4 1 3, mv 2 4]) .ret) def r_finding_Order_12 : List Jf := [.tmp 2]
def UF (Γ : Env) (f : Nat) : Prop := ∀ (x : Qa), EvN Γ f [x.v] (V.int x.src)
theorem ab7 {Γ : Env} {f : Nat} (h : Has Γ.P f 5 Kg r_finding_Order_12)  : UF Γ f := by
  intro x
  refine Qd h zsi zcl zcl fun C hC hm => ?_
  subst hC
  unfold Kg
  simp only [Qa.v, Qa.cells]
  exact zg
def Kf : AC := Qb [1] (.reg [xo 1 (.box true 11 (.t 0)), mc 2 (V.int 0)]) (Qb [2] (.reg [fa 3 4 1, ld 4 1 3, mv 2 4]) .ret) def r_finding_Order_13 : List Jf := [.tmp 2]
def UE (Γ : Env) (f : Nat) : Prop := ∀ (x : Qa), EvN Γ f [x.v] (V.int x.conf)
theorem ab6 {Γ : Env} {f : Nat} (h : Has Γ.P f 5 Kf r_finding_Order_13)  : UE Γ f := by
  intro x
  refine Qd h zsi zcl zcl fun C hC hm => ?_
  subst hC
  unfold Kf
  simp only [Qa.v, Qa.cells]
  exact zg
def clC (a b : Qa) (q g : Nat) : V := .clo (.n q) [.ro [.clo (.n g) []] 0, .ro a.cells 0, .ro b.cells 0]
def arI (a b : Qa) (g1 g2 f3 f4 f5 f6 f7 f8 f9 f10 f11 f12 f13 : Nat) : List V := [clC a b g2 f3, clC a b g1 f4, clC a b g1 f5, clC a b g2 f6, clC a b g1 f7, clC a b g1 f8, clC a b g1 f9, clC a b g1 f10, clC a b g2 f11, clC a b g1 f12, clC a b g1 f13]
theorem yo (a b : Qa) (g : Nat) : Qh [.ro [.clo (.n g) []] 0, .ro a.cells 0, .ro b.cells 0] := by simp only [V.closed, Qh, and_self]
theorem agt {l : List Int} {k : Nat} {v : Int} (h : l[k]? = some v) : YQ (l.drop k) = if v ≠ 0 then v else YQ (l.drop (k + 1)) := by
  obtain ⟨hk, he⟩ := List.getElem?_eq_some_iff.1 h
  rw [List.drop_eq_getElem_cons hk, he, YQ]
def yw (VA Vz JJ JI JH JG JF JE JD Jn Jm Jl Jk : Nat) : AC := Qb [2, 3] (.reg [xo 2 (.box true 11 (.t 0)), xo 3 (.box true 11 (.t 1)), mc 4 (V.int 0)]) (Qb [2, 3, 5] (.reg [xo 10 (.mkfn VA [(.t 2), (.t 3)]), mv 5 10]) (Qb [5, 6] (.reg [xo 11 (.mkfn Vz [(.t 2), (.t 3)]), mv 6 11]) (Qb [] (Qb [34, 35, 36] (.reg [mv 12 6, xo 13 (.callv (.t 12) [(.c (.clo JJ []))]), mv 14 5, xo 15 (.callv (.t 14) [(.c (.clo JI []))]), mv 16 5, xo 17 (.callv (.t 16) [(.c (.clo JH []))]), mv 18 6, xo 19 (.callv (.t 18) [(.c (.clo JG []))]), mv 20 5, xo 21 (.callv (.t 20) [(.c (.clo JF []))]), mv 22 5, xo 23 (.callv (.t 22) [(.c (.clo JE []))]), mv 24 5, xo 25 (.callv (.t 24) [(.c (.clo JD []))]), mv 26 5, xo 27 (.callv (.t 26) [(.c (.clo Jn []))]), mv 28 6, xo 29 (.callv (.t 28) [(.c (.clo Jm []))]), mv 30 5, xo 31 (.callv (.t 30) [(.c (.clo Jl []))]), mv 32 5, xo 33 (.callv (.t 32) [(.c (.clo Jk []))]), xo 34 (.bslice 11 1 false [.nilFunc] [(0, (.t 13)), (1, (.t 15)), (2, (.t 17)), (3, (.t 19)), (4, (.t 21)), (5, (.t 23)), (6, (.t 25)), (7, (.t 27)), (8, (.t 29)), (9, (.t 31)), (10, (.t 33))]), ln 35 34, mc 36 (V.int 0)]) (.block 0 (Y6 [34, 35, 36] (Qb [34, 35, 36, 37] (.reg [bn 37 .lss 36 35]) (Qb [34, 35, 36] (.cond (.t 37) .skip (.exit 0)) (Qb [34, 35, 36] (.block 1 (Qb [8, 34, 35, 36] (.reg [ia 38 1 34 36, ld 39 1 38, mv 8 39]) (Qb [9, 34, 35, 36] (.reg [mv 40 8, xo 41 (.callv (.t 40) []), mv 9 41]) (Qb [9, 34, 35, 36, 43] (.reg [mv 42 9, bc 43 .neq 42 (V.int 0)]) (.cond (.t 43) (Qb [4] (.reg [mv 44 9, mv 4 44]) .ret) .skip))))) (.reg [bc 45 .add 36 (V.int 1), mv 36 45]))))))) (Qb [4] (.reg [mc 4 (V.int 0)]) .ret)))) def r_finding_Order : List Jf := [.tmp 4]
def jr (Γ : Env) (f : Nat) : Prop := ∀ (a b : Qa), EvN Γ f [a.v, b.v] (V.int (ahG a b))
attribute [local go_sem] Wo in
theorem afu {Γ : Env} {f VA Vz JJ JI JH JG JF JE JD Jn Jm Jl Jk : Nat} (h : Has Γ.P f 46 (yw VA Vz JJ JI JH JG JF JE JD Jn Jm Jl Jk) r_finding_Order) (z0 : KH Γ VA) (z1 : KG Γ Vz) (z2 : KF Γ JJ) (z3 : KE Γ JI) (z4 : KD Γ JH) (z5 : KC Γ JG) (z6 : KB Γ JF) (z7 : KA Γ JE) (z8 : Kz Γ JD) (z9 : UH Γ Jn) (z10 : UG Γ Jm) (z11 : UF Γ Jl) (z12 : UE Γ Jk) : jr Γ f := by
  intro a b
  refine Qd h zsi zcl zcl fun C hC hm => ?_
  subst hC
  unfold yw
  obtain ⟨g1, c1, hO1⟩ := z0
  obtain ⟨g2, c2, hO2⟩ := z1
  have y3 := hO2 a b JJ
  have y4 := hO1 a b JI
  have y5 := hO1 a b JH
  have y6 := hO2 a b JG
  have y7 := hO1 a b JF
  have y8 := hO1 a b JE
  have y9 := hO1 a b JD
  have y10 := hO1 a b Jn
  have y11 := hO2 a b Jm
  have y12 := hO1 a b Jl
  have y13 := hO1 a b Jk
  have hel : ∀ k, k < 11 → ∃ (g : Nat) (cap : List V) (v : Int), (arI a b g1 g2 JJ JI JH JG JF JE JD Jn Jm Jl Jk)[k]? = some (.clo (.n g) cap) ∧ Qh cap ∧ (arz a b)[k]? = some v ∧ EvN C.env g cap (V.int v) := fun k hk => by
    match k, hk with
    | 0, _ => exact ⟨_, _, _, rfl, yo a b _, rfl, c2 a b _ (fun x => x.host) z2⟩
    | 1, _ => exact ⟨_, _, _, rfl, yo a b _, rfl, c1 a b _ (fun x => x.mach) z3⟩
    | 2, _ => exact ⟨_, _, _, rfl, yo a b _, rfl, c1 a b _ (fun x => x.day) z4⟩
    | 3, _ => exact ⟨_, _, _, rfl, yo a b _, rfl, c2 a b _ (fun x => x.subj) z5⟩
    | 4, _ => exact ⟨_, _, _, rfl, yo a b _, rfl, c1 a b _ (fun x => x.kind) z6⟩
    | 5, _ => exact ⟨_, _, _, rfl, yo a b _, rfl, c1 a b _ (fun x => x.alg) z7⟩
    | 6, _ => exact ⟨_, _, _, rfl, yo a b _, rfl, c1 a b _ (fun x => x.bits) z8⟩
    | 7, _ => exact ⟨_, _, _, rfl, yo a b _, rfl, c1 a b _ (fun x => x.num) z9⟩
    | 8, _ => exact ⟨_, _, _, rfl, yo a b _, rfl, c2 a b _ (fun x => x.text) z10⟩
    | 9, _ => exact ⟨_, _, _, rfl, yo a b _, rfl, c1 a b _ (fun x => x.src) z11⟩
    | 10, _ => exact ⟨_, _, _, rfl, yo a b _, rfl, c1 a b _ (fun x => x.conf) z12⟩
  have hlen : (arI a b g1 g2 JJ JI JH JG JF JE JD Jn Jm Jl Jk).length = 11 := rfl
  have hoL : (arz a b).length = 11 := rfl
  have hoF : ahG a b = YQ (arz a b) := rfl
  simp only [Qa.v, Qa.cells] at y3 y4 y5 y6 y7 y8 y9 y10 y11 y12 y13 ⊢
  repeat' (first | (refine zsk ?_; intro K' hK) | refine zsp ?_ | (refine zsc ?_ ?_ <;> intro hc <;> first | exact znh | try simp only [znz] at hc) | simp (maxSteps := 1000000) only [go_sem, Nat.reduceAdd, Nat.reduceMul, Nat.reduceEqDiff, Nat.reduceLeDiff, Nat.reduceLT, Nat.reduceSub, Int.reduceEq, Int.reduceBEq, Int.reduceLT, Int.reduceLE, Int.reduceAdd, Int.reduceToNat, reduceIte, reduceCtorEq] | (refine hK _ ?_; clear hK K') | apply zan | (apply aoH; (focus first | exact y3 | exact y4 | exact y5 | exact y6 | exact y7 | exact y8 | exact y9 | exact y10 | exact y11 | exact y12 | exact y13)) | (apply QS; (focus first | exact (z2 _).b | exact (z3 _).b | exact (z4 _).b | exact (z5 _).b | exact (z6 _).b | exact (z7 _).b | exact (z8 _).b | exact (z9 _).b | exact (z10 _).b | exact (z11 _).b | exact (z12 _).b)) | exact zsq | fail)
  clear y3 y4 y5 y6 y7 y8 y9 y10 y11 y12 y13
  refine QH (ι := Nat) (fun k => k ≤ 11 ∧ YQ ((arz a b).drop k) = ahG a b) (fun k => Wo [(34, .hd 0 0 11), (35, V.int 11), (36, V.int k)] [(0, .buf true 1 (arI a b g1 g2 JJ JI JH JG JF JE JD Jn Jm Jl Jk))] 1) (fun k => 11 - k) 0 ⟨by omega, rfl⟩ (Ql [(0, 29000)]) (Qu [(0, 29000)] zwa (by simp only [go_sem, zwl, Nat.reduceAdd, Nat.reduceMul, Nat.reduceEqDiff, Nat.reduceLT, Int.reduceToNat, reduceIte, reduceCtorEq, arI, clC, Qa.cells] <;> exact zcc) (by simp) (by simp; omega) (by omega)) fun k hk K' hL => ?_
  obtain ⟨hk, hinv⟩ := hk
  generalize (arI a b g1 g2 JJ JI JH JG JF JE JD Jn Jm Jl Jk) = els at *
  by_cases hkk : k < 11
  · obtain ⟨g, cap, v, e1, e2, e3, e4⟩ := hel k hkk
    have s1 : ∀ o, Y4 o cap = cap := fun o => XU o cap e2
    have s2 : ∀ o B, QB o B cap = True := fun o B => eq_true (YU o B cap e2)
    have hw := Qr (k := k) (by omega)
    have e5 : decide ((k : Int) < 11) = true := decide_eq_true (by omega)
    have e6 := agt e3
    rw [hinv] at e6
    by_cases hv : v = 0
    · subst hv
      rw [if_neg (by simp)] at e6
      (have zy0 := e4.b; have zx := And.intro e5 (And.intro e1 (And.intro s1 (And.intro s2 hw)))); refine zgo ?_; repeat' first | exact zt | apply zan | intro hc
      all_goals first | exact hL _ (k + 1) (Ql [(0, 0)]) ⟨by omega, e6.symm⟩ (by omega) (zwg [(0, 0)]) | trace_state
    · rw [if_pos hv] at e6
      have e7 : (v != 0) = true := by simpa using hv
      rw [e6]
      (have zy0 := e4.b; have zx := And.intro e5 (And.intro e1 (And.intro s1 (And.intro s2 (And.intro hw e7))))); exact zg
  · have e5 : decide ((k : Int) < 11) = false := decide_eq_false (by omega)
    have hk2 : k = 11 := by omega
    subst hk2
    have e6 : ahG a b = 0 := by rw [← hinv]; rfl
    rw [e6]
    (have zx := e5); exact zg
def aq3 (f : Qa) : Prop := 0 ≤ f.day ∧ f.day ≤ 40000
def ajQ (a b : Qa) : Int := if a.day - b.day < b.day - a.day then b.day - a.day else a.day - b.day
def Uw : AC := Qb [2, 3] (.reg [xo 2 (.box true 11 (.t 0)), xo 3 (.box true 11 (.t 1)), mc 4 (V.int 0)]) (Qb [4] (.reg [fa 5 3 2, ld 6 1 5, fa 7 3 3, ld 8 1 7, bn 9 .sub 6 8, fa 10 3 3, ld 11 1 10, fa 12 3 2, ld 13 1 12, bn 14 .sub 11 13, xo 15 (.mm true [(.t 9), (.t 14)]), mv 4 15]) .ret) def r_identity_distance : List Jf := [.tmp 4]
def X3 (Γ : Env) (f : Nat) : Prop := ∀ (a b : Qa) (ha : aq3 a) (hb : aq3 b), EvN Γ f [a.v, b.v] (V.int (ajQ a b))
theorem abi {Γ : Env} {f : Nat} (h : Has Γ.P f 16 Uw r_identity_distance)  : X3 Γ f := by
  intro a b ha hb
  refine Qd h zsi zcl zcl fun C hC hm => ?_
  subst hC
  unfold Uw
  obtain ⟨a1, a2⟩ := ha
  obtain ⟨b1, b2⟩ := hb
  have w1 : IntKind.i64.wrap (a.day - b.day) = a.day - b.day := Ym (by omega) (by omega)
  have w2 : IntKind.i64.wrap (b.day - a.day) = b.day - a.day := Ym (by omega) (by omega)
  simp only [Qa.v, Qa.cells, ajQ]
  (have zx := And.intro w1 w2); refine zgo ?_; repeat' first | exact zt | apply zan | intro hc
  all_goals first | exact zr | (refine Qv _ rfl ?_; simp only [go_sem, Nat.reduceEqDiff, Nat.reduceAdd, reduceIte, reduceCtorEq]; simp; done) | trace_state
def aaE : AC := Qb [0] (.reg [mc 2 (V.int 0)]) (Qb [0, 3] (.reg [mc 3 (V.int 0)]) (Qb [3] (Qb [3, 6, 7, 8] (.reg [mv 6 0, ln 7 6, mc 8 (V.int 0)]) (.block 0 (Y6 [3, 6, 7, 8] (Qb [3, 6, 7, 8, 9] (.reg [bn 9 .lss 8 7]) (Qb [3, 6, 7, 8] (.cond (.t 9) .skip (.exit 0)) (Qb [3, 6, 7, 8] (.block 1 (Qb [3, 5, 6, 7, 8] (.reg [ia 10 1 6 8, ld 11 1 10, mv 5 11]) (Qb [3, 5, 6, 7, 8, 14] (.reg [mv 12 5, mv 13 3, bn 14 .neq 12 13]) (.cond (.t 14) (Qb [2] (.reg [mv 15 5, mv 2 15]) .ret) .skip)))) (.reg [bc 16 .add 8 (V.int 1), mv 8 16]))))))) (Qb [2] (.reg [mv 17 3, mv 2 17]) .ret))) def r_cmp_Or_int : List Jf := [.tmp 2]
def jS (Γ : Env) (f : Nat) : Prop := ∀ (l : List Int) (hl : l.length < 2 ^ 60), EvN Γ f [.sl 1 (l.map V.int)] (V.int (YQ l))
theorem aiB {Γ : Env} {f : Nat} (h : Has Γ.P f 18 aaE r_cmp_Or_int)  : jS Γ f := by
  intro l hl
  refine Qd h zsi zcl zcl fun C hC hm => ?_
  subst hC
  unfold aaE
  refine zgo ?_; repeat' first | exact zt | apply zan | intro hc
  refine Y2 (ι := Nat) (fun k => k ≤ l.length ∧ YQ (l.drop k) = YQ l) (fun k => [(8, V.int k)]) (fun k => l.length - k) 0 (by omega) ⟨Nat.zero_le _, rfl⟩ (by repeat' first | exact X2 | refine WM (by omega) (by simp only [Ob.lt, ltL, V.lt, and_self, and_true]; try omega) ?_) (fun i hi => by simp only [ovT, X0, Nat.reduceEqDiff, reduceIte]; (repeat' first | exact Ve | refine XO ?_ ?_ | simp only [V.lt, ltL, and_self, and_true] | omega)) zet fun k hk K' hL => ?_
  obtain ⟨hk, hinv⟩ := hk
  simp only [ovT, X0, Nat.reduceEqDiff, reduceIte]
  rcases hd : l.drop k with _ | ⟨x, r⟩
  · have hkl := Je hd
    have e1 : decide ((k : Int) < (((l.map V.int).length : Nat) : Int)) = false := by simp; omega
    rw [hd] at hinv
    have e8 : YQ l = 0 := by rw [← hinv]; rfl
    rw [e8]
    (have zx := e1); exact zg
  · obtain ⟨hk', hget, hr⟩ := QJ hd
    have hw := Qr (k := k) (by omega)
    have e1 : decide ((k : Int) < (((l.map V.int).length : Nat) : Int)) = true := by simp; omega
    have e6 := agt hget
    rw [hinv] at e6
    by_cases hx : x = 0
    · subst hx
      rw [if_neg (by simp)] at e6
      (have zx := And.intro e1 (And.intro hw hget)); refine zgo ?_; repeat' first | exact zt | apply zan | intro hc
      all_goals first | exact hL _ (k + 1) zet ⟨by omega, e6.symm⟩ (by omega) (fun a ha => by simp only [u32, u33, u34, u35, u36, u37, u38, u39]; repeat rw [if_neg (by omega)]) | trace_state
    · have e7 : (x != 0) = true := by simpa using hx
      rw [if_pos hx] at e6
      rw [e6]
      (have zx := And.intro e1 (And.intro hw (And.intro hget e7))); exact zg
def wT (l : List Qa) (f : Qa) (gap best : Int) (i : Nat) : Int :=
  match l[i]? with
  | none => best
  | some g => if g.mach = 0 ∨ g.host ≠ f.host ∨ ajQ f g > gap then best else if best < 0 then (i : Int) else
    match l[best.toNat]? with
    | none => best
    | some h => if YQ [U4 (ajQ f g) (ajQ f h), U4 g.day h.day, U4 g.mach h.mach] < 0 then (i : Int) else best
def abu (l : List Qa) (f : Qa) (gap : Int) (k : Nat) : Int := (List.range k).foldl (wT l f gap) (-1)
def aie (l : List Qa) (f : Qa) (gap : Int) : Int := abu l f gap l.length
theorem af6 (l : List Qa) (f : Qa) (gap : Int) (k : Nat) : abu l f gap (k + 1) = wT l f gap (abu l f gap k) k := by
  rw [abu, List.range_succ, List.foldl_append]; rfl
theorem ajk {l : List Qa} {f : Qa} {gap best : Int} {k : Nat} (h : best = -1 ∨ (0 ≤ best ∧ best < k)) : wT l f gap best k = -1 ∨ (0 ≤ wT l f gap best k ∧ wT l f gap best k < (k + 1 : Nat)) := by
  unfold wT
  split
  · omega
  · split
    · omega
    · split
      · omega
      · split
        · omega
        · split <;> omega
theorem adR (l : List Qa) (f : Qa) (gap : Int) : ∀ k, abu l f gap k = -1 ∨ (0 ≤ abu l f gap k ∧ abu l f gap k < (k : Int))
  | 0 => .inl rfl
  | k + 1 => by rw [af6]; exact ajk (adR l f gap k)
def jD (Qg Qc Qx : Nat) : List AO := [mv 34 7, bc 35 .lss 34 (V.int 0), mv 36 35, xg 37 (.load true 11 (.t 4)) 36 false, xg 38 (.load true 11 (.t 9)) 36 false, xg 39 (.call Qg [(.t 37), (.t 38)]) 36 false, xg 40 (.load true 11 (.t 4)) 36 false, mg 41 0 36 false, mg 42 7 36 false, xg 43 (.iaddr 11 (.t 41) (.t 42)) 36 false, xg 44 (.load true 11 (.t 43)) 36 false, xg 45 (.call Qg [(.t 40), (.t 44)]) 36 false, xg 46 (.call Qc [(.t 39), (.t 45)]) 36 false, xg 47 (.faddr 3 (.t 9)) 36 false, xg 48 (.load false 1 (.t 47)) 36 false, mg 49 0 36 false, mg 50 7 36 false, xg 51 (.iaddr 11 (.t 49) (.t 50)) 36 false, xg 52 (.faddr 3 (.t 51)) 36 false, xg 53 (.load false 1 (.t 52)) 36 false, xg 54 (.call Qc [(.t 48), (.t 53)]) 36 false, xg 55 (.faddr 2 (.t 9)) 36 false, xg 56 (.load false 1 (.t 55)) 36 false, mg 57 0 36 false, mg 58 7 36 false, xg 59 (.iaddr 11 (.t 57) (.t 58)) 36 false, xg 60 (.faddr 2 (.t 59)) 36 false, xg 61 (.load false 1 (.t 60)) 36 false, xg 62 (.call Qc [(.t 56), (.t 61)]) 36 false, xg 63 (.bslice 3 1 false [vi0] [(0, (.t 46)), (1, (.t 54)), (2, (.t 62))]) 36 false, xg 64 (.call Qx [(.t 63)]) 36 false, xg 65 (.bin .lss (.t 64) (.c (V.int 0))) 36 false, xo 66 (.pick (.t 36) (.c (V.bool true)) (.t 65))]
def jF : List (List Nat) := [[], [0], [1], [2], [2], [3, 4, 2, 2], [2], [2], [2], [7, 8, 2], [9, 2], [6, 10, 5, 2], [5, 11, 11, 2], [2], [13, 2], [2], [2], [15, 16, 2], [17, 2], [18, 2], [14, 19, 12, 2], [2], [21, 2], [2], [2], [23, 24, 2], [25, 2], [26, 2], [22, 27, 20, 2], [12, 20, 28, 2], [29, 28, 2], [30, 2], [2, 31]]
def jy : OT := .one 0 (.one 1 (.one 2 (.one 3 (.one 4 (.one 5 (.one 6 (.one 7 (.one 8 (.one 9 (.one 10 (.one 11 (.one 12 (.one 13 (.one 14 (.one 15 (.one 16 (.one 17 (.one 18 (.one 19 (.one 20 (.one 21 (.one 22 (.one 23 (.one 24 (.one 25 (.one 26 (.one 27 (.one 28 (.one 29 (.one 30 (.one 31 (.one 32 .done))))))))))))))))))))))))))))))))
@[go_sem] def jB (Qg Qc Qx : Nat) : OP := oN 0 (mv 34 7) (oN 1 (bc 35 .lss 34 (V.int 0)) (oN 2 (mv 36 35) (oN 3 (xg 37 (.load true 11 (.t 4)) 36 false) (oN 4 (xg 38 (.load true 11 (.t 9)) 36 false) (oN 5 (xg 39 (.call Qg [(.t 37), (.t 38)]) 36 false) (oN 6 (xg 40 (.load true 11 (.t 4)) 36 false) (oN 7 (mg 41 0 36 false) (oN 8 (mg 42 7 36 false) (oN 9 (xg 43 (.iaddr 11 (.t 41) (.t 42)) 36 false) (oN 10 (xg 44 (.load true 11 (.t 43)) 36 false) (oN 11 (xg 45 (.call Qg [(.t 40), (.t 44)]) 36 false) (.one 12 false [11, 5] (xg 46 (.call Qc [(.t 39), (.t 45)]) 36 false) (oN 13 (xg 47 (.faddr 3 (.t 9)) 36 false) (oN 14 (xg 48 (.load false 1 (.t 47)) 36 false) (oN 15 (mg 49 0 36 false) (oN 16 (mg 50 7 36 false) (oN 17 (xg 51 (.iaddr 11 (.t 49) (.t 50)) 36 false) (oN 18 (xg 52 (.faddr 3 (.t 51)) 36 false) (oN 19 (xg 53 (.load false 1 (.t 52)) 36 false) (oN 20 (xg 54 (.call Qc [(.t 48), (.t 53)]) 36 false) (oN 21 (xg 55 (.faddr 2 (.t 9)) 36 false) (oN 22 (xg 56 (.load false 1 (.t 55)) 36 false) (oN 23 (mg 57 0 36 false) (oN 24 (mg 58 7 36 false) (oN 25 (xg 59 (.iaddr 11 (.t 57) (.t 58)) 36 false) (oN 26 (xg 60 (.faddr 2 (.t 59)) 36 false) (oN 27 (xg 61 (.load false 1 (.t 60)) 36 false) (oN 28 (xg 62 (.call Qc [(.t 56), (.t 61)]) 36 false) (.one 29 false [28, 20, 12, 11, 5] (xg 63 (.bslice 3 1 false [vi0] [(0, (.t 46)), (1, (.t 54)), (2, (.t 62))]) 36 false) (.one 30 false [29, 28, 20, 12, 11, 5] (xg 64 (.call Qx [(.t 63)]) 36 false) (oN 31 (xg 65 (.bin .lss (.t 64) (.c (V.int 0))) 36 false) (oN 32 (xo 66 (.pick (.t 36) (.c (V.bool true)) (.t 65))) .done))))))))))))))))))))))))))))))))
instance (Qg Qc Qx : Nat) : RG [] jy (jB Qg Qc Qx) (jD Qg Qc Qx) jF 33 (fun _ => true) := ⟨rfl, by kernel_rfl, by kernel_rfl⟩
def Ke (Qg Qc Qx : Nat) : AC := Qb [0, 2, 4] (.reg [xo 4 (.box true 11 (.t 1)), mc 6 (V.int 0)]) (Qb [0, 2, 4, 7] (.reg [mc 7 (V.int (-1))]) (Qb [7] (Qb [0, 2, 4, 7, 10, 11, 12] (.reg [mv 10 0, ln 11 10, mc 12 (V.int 0)]) (.block 0 (Y6 [0, 2, 4, 7, 10, 11, 12] (Qb [0, 2, 4, 7, 10, 11, 12, 13] (.reg [bn 13 .lss 12 11]) (Qb [0, 2, 4, 7, 10, 11, 12] (.cond (.t 13) .skip (.exit 0)) (Qb [0, 2, 4, 7, 10, 11, 12] (.block 1 (Qb [0, 2, 4, 7, 8, 9, 10, 11, 12] (.reg [mv 14 12, ia 15 11 10 12, xo 16 (.load true 11 (.t 15)), xo 9 (.alloc [.val vi0, .val vs0, .val vi0, .val vi0, .val vi0, .val vi0, .val vs0, .val vi0, .val vi0, .val vi0, .val vs0]), mv 8 14, xs 11 9 16]) (Qb [0, 2, 4, 7, 8, 9, 10, 11, 12] (Qb [0, 2, 4, 7, 8, 9, 10, 11, 12, 33] (.reg [fa 17 2 9, ld 18 1 17, bc 19 .eql 18 (V.int 0), mv 20 19, xg 21 (.faddr 1 (.t 9)) 20 false, xg 22 (.load false 1 (.t 21)) 20 false, xg 23 (.faddr 1 (.t 4)) 20 false, xg 24 (.load false 1 (.t 23)) 20 false, xg 25 (.bin .neq (.t 22) (.t 24)) 20 false, xo 26 (.pick (.t 20) (.c (V.bool true)) (.t 25)), mv 27 26, xg 28 (.load true 11 (.t 4)) 27 false, xg 29 (.load true 11 (.t 9)) 27 false, xg 30 (.call Qg [(.t 28), (.t 29)]) 27 false, mg 31 2 27 false, xg 32 (.bin .gtr (.t 30) (.t 31)) 27 false, xo 33 (.pick (.t 27) (.c (V.bool true)) (.t 32))]) (.cond (.t 33) (.exit 1) .skip)) (Qb [0, 2, 4, 7, 8, 10, 11, 12, 66] (wP [] jy (jB Qg Qc Qx) (jD Qg Qc Qx) jF) (.cond (.t 66) (.reg [mv 67 8, mv 7 67]) .skip))))) (.reg [bc 68 .add 12 (V.int 1), mv 12 68]))))))) (Qb [6] (.reg [mv 69 7, mv 6 69]) .ret))) def r_identity_nearest : List Jf := [.tmp 6]
def UD (Γ : Env) (f : Nat) : Prop := ∀ (l : List Qa) (f0 : Qa) (gap : Int) (hl : l.length < 2 ^ 40) (hd : ∀ x ∈ l, aq3 x) (hf : aq3 f0), EvN Γ f [.sl 11 (l.map Qa.v), f0.v, V.int gap] (V.int (aie l f0 gap))
attribute [local go_sem] Qa.cells Qa.v Wo in
theorem ab5 {Γ : Env} {f Qg Qc Qx : Nat} (h : Has Γ.P f 70 (Ke Qg Qc Qx) r_identity_nearest) (z0 : X3 Γ Qg) (z1 : XW Γ Qc) (z2 : jS Γ Qx) : UD Γ f := by
  intro l f0 gap hl hd hf
  refine Qd h zsi zcl zcl fun C hC hm => ?_
  subst hC
  unfold Ke
  simp only [Qa.v, Qa.cells]
  refine zgo ?_; repeat' first | exact zt | apply zan | intro hc
  refine QH (ι := Nat) (fun k => k ≤ l.length) (fun k => Wo [(0, .sl 11 (l.map Qa.v)), (2, V.int gap), (4, .ptr 0 0), (7, V.int (abu l f0 gap k)), (10, .sl 11 (l.map Qa.v)), (11, V.int l.length), (12, V.int k)] [(0, .box true f0.cells)] 1) (fun k => l.length - k) 0 (Nat.zero_le _) (Ql []) (Qu [] (by simp only [go_sem, zwl, Nat.reduceAdd, Nat.reduceMul, Nat.reduceEqDiff, Nat.reduceLT, Int.reduceToNat, reduceIte, reduceCtorEq, List.length_map] <;> exact zcc) (by simp only [go_sem, zwl, Nat.reduceAdd, Nat.reduceMul, Nat.reduceEqDiff, Nat.reduceLT, Int.reduceToNat, reduceIte, reduceCtorEq, Qa.cells] <;> exact zcc) (by simp) (by simp) (by omega)) fun k hk K' hL => ?_
  have hrng := adR l f0 gap k
  have hsuc := af6 l f0 gap k
  have hN : aie l f0 gap = abu l f0 gap l.length := rfl
  rcases hdr : l.drop k with _ | ⟨g, r⟩
  · have hkl := Je hdr
    have e1 : decide ((k : Int) < (l.length : Int)) = false := by simp; omega
    obtain rfl : k = l.length := by omega
    rw [hN]
    (have zx := e1); exact zg
  · obtain ⟨hk', hget, hr⟩ := QJ hdr
    have hw := Qr (k := k) (by omega)
    have e1 : decide ((k : Int) < (l.length : Int)) = true := by simp; omega
    have hg := hd g (List.mem_of_getElem? hget)
    have p1 := (z0 f0 g hf hg).b
    rw [wT, hget] at hsuc
    simp only at hsuc
    clear hN
    generalize abu l f0 gap k = best at *
    generalize ajQ f0 g = dg at *
    simp only [Qa.v, Qa.cells] at p1 hL ⊢
    by_cases c1 : g.mach = 0
    · rw [if_pos (.inl c1)] at hsuc
      have e2 : (g.mach == 0) = true := by simpa using c1
      (have zx := And.intro e1 (And.intro e2 (And.intro hw hget))); refine zgo ?_; repeat' first | exact zt | apply zan | intro hc
      all_goals first | exact hL _ (k + 1) (Ql []) (by omega) (by omega) (by rw [hsuc]; exact Qu [] zwa (by simp only [go_sem, zwl, Nat.reduceAdd, Nat.reduceMul, Nat.reduceEqDiff, Nat.reduceLT, Int.reduceToNat, reduceIte, reduceCtorEq, Qa.cells] <;> exact zcc) (by simp) (by simp) (by omega)) | trace_state
    have e2 : (g.mach == 0) = false := by simpa using c1
    by_cases c2 : g.host = f0.host
    · by_cases c3 : dg > gap
      · rw [if_pos (.inr (.inr c3))] at hsuc
        have e3 : (g.host == f0.host) = true := by simpa using c2
        have e4 : decide (dg > gap) = true := decide_eq_true c3
        (have zx := And.intro e1 (And.intro e2 (And.intro e3 (And.intro e4 (And.intro hw hget))))); refine zgo ?_; repeat' first | exact zt | apply zan | intro hc
        all_goals first | exact hL _ (k + 1) (Ql []) (by omega) (by omega) (by rw [hsuc]; exact Qu [] zwa (by simp only [go_sem, zwl, Nat.reduceAdd, Nat.reduceMul, Nat.reduceEqDiff, Nat.reduceLT, Int.reduceToNat, reduceIte, reduceCtorEq, Qa.cells] <;> exact zcc) (by simp) (by simp) (by omega)) | trace_state
      have e3 : (g.host == f0.host) = true := by simpa using c2
      have e4 : decide (dg > gap) = false := decide_eq_false c3
      rw [if_neg (by simp only [not_or, Decidable.not_not]; exact ⟨c1, c2, c3⟩)] at hsuc
      by_cases c4 : best < 0
      · rw [if_pos c4] at hsuc
        have e5 : decide (best < 0) = true := decide_eq_true c4
        (have zx := And.intro e1 (And.intro e2 (And.intro e3 (And.intro e4 (And.intro e5 (And.intro hw hget)))))); refine zgo ?_; repeat' first | exact zt | apply zan | intro hc
        all_goals first | exact hL _ (k + 1) (Ql []) (by omega) (by omega) (by rw [hsuc]; exact Qu [] zwa (by simp only [go_sem, zwl, Nat.reduceAdd, Nat.reduceMul, Nat.reduceEqDiff, Nat.reduceLT, Int.reduceToNat, reduceIte, reduceCtorEq, Qa.cells] <;> exact zcc) (by simp) (by simp) (by omega)) | trace_state
      · rw [if_neg c4] at hsuc
        have e5 : decide (best < 0) = false := decide_eq_false c4
        obtain ⟨j, rfl⟩ : ∃ j : Nat, best = j := ⟨best.toNat, by omega⟩
        have hj : j < l.length := by omega
        obtain ⟨q, hgq⟩ : ∃ q, l[j]? = some q := ⟨_, List.getElem?_eq_getElem hj⟩
        rw [Int.toNat_natCast, hgq] at hsuc
        simp only at hsuc
        have p2 := (z0 f0 q hf (hd q (List.mem_of_getElem? hgq))).b
        generalize ajQ f0 q = dq at *
        have p3 := (z1 dg dq).b
        have p4 := (z1 g.day q.day).b
        have p5 := (z1 g.mach q.mach).b
        have p6 := (z2 [U4 dg dq, U4 g.day q.day, U4 g.mach q.mach] (by simp)).b
        generalize YQ [U4 dg dq, U4 g.day q.day, U4 g.mach q.mach] = ff at *
        simp only [Qa.v, Qa.cells, List.map_cons, List.map_nil] at p2 p6
        by_cases c5 : ff < 0
        · rw [if_pos c5] at hsuc
          have e6 : decide (ff < 0) = true := decide_eq_true c5
          (have zx := And.intro e1 (And.intro e2 (And.intro e3 (And.intro e4 (And.intro e5 (And.intro e6 (And.intro hw (And.intro hget hgq)))))))); refine zgo ?_; repeat' first | exact zt | apply zan | intro hc
          all_goals first | exact hL _ (k + 1) (Ql []) (by omega) (by omega) (by rw [hsuc]; exact Qu [] zwa (by simp only [go_sem, zwl, Nat.reduceAdd, Nat.reduceMul, Nat.reduceEqDiff, Nat.reduceLT, Int.reduceToNat, reduceIte, reduceCtorEq, Qa.cells] <;> exact zcc) (by simp) (by simp) (by omega)) | trace_state
        · rw [if_neg c5] at hsuc
          have e6 : decide (ff < 0) = false := decide_eq_false c5
          (have zx := And.intro e1 (And.intro e2 (And.intro e3 (And.intro e4 (And.intro e5 (And.intro e6 (And.intro hw (And.intro hget hgq)))))))); refine zgo ?_; repeat' first | exact zt | apply zan | intro hc
          all_goals first | exact hL _ (k + 1) (Ql []) (by omega) (by omega) (by rw [hsuc]; exact Qu [] zwa (by simp only [go_sem, zwl, Nat.reduceAdd, Nat.reduceMul, Nat.reduceEqDiff, Nat.reduceLT, Int.reduceToNat, reduceIte, reduceCtorEq, Qa.cells] <;> exact zcc) (by simp) (by simp) (by omega)) | trace_state
    · rw [if_pos (.inr (.inl c2))] at hsuc
      have e3 : (g.host == f0.host) = false := by simpa using c2
      (have zx := And.intro e1 (And.intro e2 (And.intro e3 (And.intro hw hget)))); refine zgo ?_; repeat' first | exact zt | apply zan | intro hc
      all_goals first | exact hL _ (k + 1) (Ql []) (by omega) (by omega) (by rw [hsuc]; exact Qu [] zwa (by simp only [go_sem, zwl, Nat.reduceAdd, Nat.reduceMul, Nat.reduceEqDiff, Nat.reduceLT, Int.reduceToNat, reduceIte, reduceCtorEq, Qa.cells] <;> exact zcc) (by simp) (by simp) (by omega)) | trace_state
def QG (p : List Nat) : List V := p.map fun n : Nat => V.int (n : Int)
structure PW (p : List Nat) : Prop where
  len : p.length = 400
  le : ∀ i j : Nat, p[i]? = some j → j ≤ i
theorem X8 (p : List Nat) : (QG p).length = p.length := by simp [QG]
theorem WC {p : List Nat} {i j : Nat} (h : p[i]? = some j) : (QG p)[i]? = some (V.int j) := by simp [QG, h]
theorem XN (p : List Nat) : Qh (QG p) := by
  unfold QG
  induction p with
  | nil => trivial
  | cons x r ih => exact ⟨trivial, ih⟩
theorem QD (τ : Nat → Nat) (p : List Nat) : yU τ (QG p) = QG p := JR _ _ (XN p)
theorem QU (n : Nat) (p : List Nat) : ltL n (QG p) := Wd _ _ (XN p)
theorem afZ (p : List Nat) (i j : Nat) : (QG p).set i (V.int j) = QG (p.set i j) := by simp [QG, List.map_set]
theorem ajf {p : List Nat} {i : Nat} (h : i < p.length) (j : Nat) : List.take i (QG p) ++ [V.int (j : Int)] ++ List.drop (i + 1) (QG p) = QG (p.set i j) := by
  rw [← afZ, List.set_eq_take_append_cons_drop, if_pos (by rw [X8]; exact h), List.append_assoc]; rfl
theorem PW.get {p : List Nat} (h : PW p) {i : Nat} (hi : i < 400) : ∃ j, p[i]? = some j ∧ j ≤ i := by
  have : i < p.length := by rw [h.len]; exact hi
  exact ⟨p[i], List.getElem?_eq_getElem this, h.le i _ (List.getElem?_eq_getElem this)⟩
theorem PW.set {p : List Nat} (h : PW p) {i j : Nat} (hj : j ≤ i) : PW (p.set i j) := ⟨by rw [List.length_set]; exact h.len, fun a b e => by
  rw [List.getElem?_set] at e
  split at e
  · split at e
    · rename_i e1 _; cases e; rw [← e1]; exact hj
    · cases e
  · exact h.le a b e⟩
def ai6 (p : List Nat) : Nat → Nat → Nat
  | 0, i => i
  | n + 1, i => match p[i]? with
    | some j => if j = i then i else ai6 p n j
    | none => i
def Ub (p : List Nat) (i : Nat) : Nat := ai6 p (i + 1) i
theorem ahA {p : List Nat} (h : PW p) : ∀ (n i m : Nat), i < n → i < m → ai6 p n i = ai6 p m i
  | 0, i, m, h1, _ => absurd h1 (Nat.not_lt_zero _)
  | n + 1, i, 0, _, h2 => absurd h2 (Nat.not_lt_zero _)
  | n + 1, i, m + 1, h1, h2 => by
    simp only [ai6]
    rcases e : p[i]? with _ | j
    · rfl
    · simp only
      split
      · rfl
      · rename_i hne
        have := h.le i j e
        exact ahA h n j m (by omega) (by omega)
theorem aaT {p : List Nat} (h : PW p) {i j : Nat} (e : p[i]? = some j) : Ub p i = if j = i then i else Ub p j := by
  rw [Ub, ai6, e]
  simp only
  split
  · rfl
  · rename_i hne
    have := h.le i j e
    exact ahA h _ _ _ (by omega) (by omega)
theorem afG {p : List Nat} (h : PW p) : ∀ i, Ub p i ≤ i := by
  intro i
  induction i using Nat.strongRecOn with
  | _ i ih =>
    rcases e : p[i]? with _ | j
    · rw [Ub, ai6, e]; exact Nat.le_refl _
    · rw [aaT h e]
      have := h.le i j e
      split
      · exact Nat.le_refl _
      · rename_i hne
        have := ih j (by omega)
        omega
def Wh : AC := Qb [0, 1] (.reg [mc 4 (V.int 0)]) (Qb [1] (.block 0 (Y6 [0, 1] (Qb [0, 1] (Qb [0, 1, 11] (.reg [mv 5 0, mv 6 1, nk 7 5, xo 8 (.iaddrA 400 1 (.t 7) (.t 6)), ld 9 1 8, mv 10 1, bn 11 .neq 9 10]) (.cond (.t 11) .skip (.exit 0))) (.block 1 (.reg [mv 12 0, mv 13 1, nk 14 12, xo 15 (.iaddrA 400 1 (.t 14) (.t 13)), ld 16 1 15, mv 1 16]))))) (Qb [4] (.reg [mv 17 1, mv 4 17]) .ret)) def r_identity_parents__root : List Jf := [.tmp 4]
def YX (Γ : Env) (f : Nat) : Prop := ∀ (p : List Nat) (i : Nat) (hp : PW p) (hi : i < 400), EvD Γ f [V.int i] (QG p) (V.int (Ub p i)) (QG p)
attribute [local go_sem] Nat.mul_one Nat.zero_add Wo in
theorem xR {Γ : Env} {f : Nat} (h : Has Γ.P f 18 Wh r_identity_parents__root)  : YX Γ f := by
  intro p i hp hi
  refine Uv h zsi (by first | exact XN _ | simp only [V.closed, Qh, and_self]) zc3 zc3 fun C hC hm => ?_
  subst hC
  unfold Wh
  have hpc := X8 p
  have hl4 := hp.len
  refine zgo ?_; repeat' first | exact zt | apply zan | intro hc
  refine QH (ι := Nat) (fun k => k ≤ i ∧ Ub p k = Ub p i) (fun k => Wo [(0, .ptr 0 0), (1, V.int k)] [(0, .box true (QG p))] 1) (fun k => k) i ⟨Nat.le_refl _, rfl⟩ (Ql []) (Qu [] zwa (by simp only [go_sem, zwl, Nat.reduceAdd, Nat.reduceMul, Nat.reduceEqDiff, Nat.reduceLT, Int.reduceToNat, reduceIte, reduceCtorEq, QD, QU] <;> exact zcc) (by simp) (by simp) (by omega)) fun k hk K' hL => ?_
  obtain ⟨hk, hinv⟩ := hk
  obtain ⟨j, hg, hj⟩ := hp.get (i := k) (by omega)
  have hgc := WC hg
  have hst := aaT hp hg
  rw [hinv] at hst
  have e0 : decide ((0 : Int) ≤ (k : Int)) = true := by simp
  by_cases hjk : j = k
  · subst hjk
    rw [if_pos rfl] at hst
    rw [hst]
    have e1 : ((j : Int) != (j : Int)) = false := by simp
    (have zx := And.intro hgc (And.intro hpc (And.intro hl4 e1))); refine zgo ?_; repeat' first | exact zt | apply zan | intro hc
    all_goals first | (refine aeX _ rfl rfl (XN p) ?_; simp only [go_sem, Nat.reduceEqDiff, Nat.reduceAdd, reduceIte, reduceCtorEq]; done) | trace_state
  · rw [if_neg hjk] at hst
    have e1 : ((j : Int) != (k : Int)) = true := by simp; omega
    (have zx := And.intro hgc (And.intro hpc (And.intro hl4 e1))); refine zgo ?_; repeat' first | exact zt | apply zan | intro hc
    all_goals first | exact hL _ j (Ql []) ⟨by omega, hst.symm⟩ (by omega) (Qu [] zwa (by simp only [go_sem, zwl, Nat.reduceAdd, Nat.reduceMul, Nat.reduceEqDiff, Nat.reduceLT, Int.reduceToNat, reduceIte, reduceCtorEq, QD, QU] <;> exact zcc) (by simp) (by simp) (by omega)) | trace_state
def amB (p : List Nat) (i k : Nat) : List Nat := p.set (max (Ub p i) (Ub p k)) (min (Ub p i) (Ub p k))
theorem aii {p : List Nat} (h : PW p) (i k : Nat) : PW (amB p i k) := h.set (by omega)
theorem arT (a b : Nat) : (if (a : Int) < (b : Int) then (b : Int) else (a : Int)) = ((max a b : Nat) : Int) := by
  split <;> omega
theorem arR (a b : Nat) : (if (b : Int) < (a : Int) then (b : Int) else (a : Int)) = ((min a b : Nat) : Int) := by
  split <;> omega
def Wi (QA : Nat) : AC := Qb [0, 6, 7] (.reg [mv 8 0, mv 9 1, cl 10 QA [8, 9], mv 11 0, mv 12 2, cl 13 QA [11, 12], mv 6 10, mv 7 13]) (.reg [mv 14 0, mv 15 6, mv 16 7, xo 17 (.mm true [(.t 15), (.t 16)]), mv 18 6, mv 19 7, xo 20 (.mm false [(.t 18), (.t 19)]), nk 21 14, xo 22 (.iaddrA 400 1 (.t 21) (.t 17)), xs 1 22 20]) def r_identity_parents__join : List Jf := []
def XX (Γ : Env) (f : Nat) : Prop := ∀ (p : List Nat) (i k : Nat) (hp : PW p) (hi : i < 400) (hk : k < 400), EvD Γ f [V.int i, V.int k] (QG p) (.tup []) (QG (amB p i k))
attribute [local go_sem] Nat.mul_one Nat.zero_add in
theorem xS {Γ : Env} {f QA : Nat} (h : Has Γ.P f 23 (Wi QA) r_identity_parents__join) (z0 : YX Γ QA) : XX Γ f := by
  intro p i k hp hi hk
  refine Uv h zsi (by first | exact XN _ | simp only [V.closed, Qh, and_self]) zc3 zc3 fun C hC hm => ?_
  subst hC
  unfold Wi
  have n1 := z0 p i hp hi
  have n2 := z0 p k hp hk
  have r1 := afG hp i
  have r2 := afG hp k
  have hpc := X8 p
  have hl4 := hp.len
  unfold amB
  generalize Ub p i = a at *
  generalize Ub p k = b at *
  have m1 := arT a b
  have m2 := arR a b
  have m3 : max a b < 400 := by omega
  have hs := ajf (p := p) (i := max a b) (by omega) (min a b)
  (have zx := And.intro hpc (And.intro hl4 (And.intro m1 (And.intro m2 hs)))); refine zgo ?_; repeat' first | exact zt | apply zan | intro hc
  all_goals first | (refine aeX _ rfl rfl (XN _) ?_; simp only [go_sem, Nat.reduceEqDiff, Nat.reduceAdd, reduceIte, reduceCtorEq]; done) | trace_state
def aqb (k : Int) : List Int → Nat → Option Nat
  | [], _ => none
  | e :: r, i => if k = e then some i else aqb k r (i + 1)
theorem ahT (k : Int) : ∀ (ks : List Int) (i : Nat), xA false [0] (V.int k) (ks.map V.int) i = some (aqb k ks i)
  | [], _ => rfl
  | e :: r, i => by
    have h : yk false [0] (V.int k) (V.int e) = some (k == e) := by simp [yk, Yg]
    rw [List.map_cons, xA, h]
    by_cases hk : k = e
    · subst hk; simp [aqb]
    · have : (k == e) = false := by simpa using hk
      rw [this]; simp only [aqb, if_neg hk]
      exact ahT k r (i + 1)
theorem aoa {k : Int} : ∀ {ks : List Int} {i a : Nat}, aqb k ks i = some a → i ≤ a ∧ a < i + ks.length
  | [], _, _, h => by cases h
  | e :: r, i, a, h => by
    rw [aqb] at h
    split at h
    · cases h; simp
    · have := aoa h
      simp only [List.length_cons]; omega
theorem agG (k : Int) : yk false [0] (V.int k) (V.int k) = some true := by simp [yk, Yg]
structure JS where
  p : List Nat
  ks : List Int
  vs : List Nat
  loose : Int
structure JW (k : Nat) (s : JS) : Prop where
  pw : PW s.p
  len : s.ks.length = s.vs.length
  vlt : ∀ v ∈ s.vs, v < k
  lo : s.loose = -1 ∨ (0 ≤ s.loose ∧ s.loose < (k : Int))
def anR (l : List Qa) (f : Qa) (gap loose : Int) : Bool :=
  decide (loose ≥ 0) && match l[loose.toNat]? with
    | some g => g.host == f.host && decide (ajQ f g ≤ gap)
    | none => false
def amA (l : List Qa) (gap : Int) (s : JS) (i : Nat) (f : Qa) : JS :=
  if f.mach = 0 then
    if aie l f gap ≥ 0 then { s with p := amB s.p i (aie l f gap).toNat }
    else { s with p := if anR l f gap s.loose = true then amB s.p i s.loose.toNat else s.p, loose := i }
  else match aqb f.mach s.ks 0 with
    | some a => { s with p := amB s.p i (s.vs.getD a 0), vs := s.vs.set a i }
    | none => { s with ks := s.ks ++ [f.mach], vs := s.vs ++ [i] }
def xz (l : List Qa) (gap : Int) : Nat → JS
  | 0 => ⟨List.range 400, [], [], -1⟩
  | k + 1 => match l[k]? with
    | some f => amA l gap (xz l gap k) k f
    | none => xz l gap k
def amC (l : List Qa) (gap : Int) : List Nat := (xz l gap l.length).p
theorem aoV : PW (List.range 400) := ⟨List.length_range, fun i j h => by
  obtain ⟨h1, h2⟩ := List.getElem?_eq_some_iff.1 h
  rw [List.getElem_range] at h2; omega⟩
theorem anS (l : List Qa) (f : Qa) (gap : Int) : aie l f gap = -1 ∨ (0 ≤ aie l f gap ∧ aie l f gap < (l.length : Int)) := adR l f gap l.length
theorem apm {l : List Qa} {gap : Int} {s : JS} {i : Nat} {f : Qa} (h : JW i s) : JW (i + 1) (amA l gap s i f) := by
  obtain ⟨h1, h2, h3, h4⟩ := h
  have h3' : ∀ v ∈ s.vs, v < i + 1 := fun v hv => Nat.lt_succ_of_lt (h3 v hv)
  unfold amA
  split
  · split
    · exact ⟨aii h1 _ _, h2, h3', by simp only; omega⟩
    · refine ⟨?_, h2, h3', .inr (by simp only; omega)⟩
      simp only
      split
      · exact aii h1 _ _
      · exact h1
  · split
    · refine ⟨aii h1 _ _, by simpa using h2, fun v hv => ?_, by simp only; omega⟩
      rcases List.mem_or_eq_of_mem_set hv with hv | hv
      · exact h3' v hv
      · omega
    · refine ⟨h1, by simp [h2], fun v hv => ?_, by simp only; omega⟩
      rcases List.mem_append.1 hv with hv | hv
      · exact h3' v hv
      · rw [List.mem_singleton.1 hv]; omega
theorem agb (l : List Qa) (gap : Int) : ∀ k, JW k (xz l gap k)
  | 0 => ⟨aoV, rfl, by simp [xz], .inl rfl⟩
  | k + 1 => by
    have ih := agb l gap k
    rw [xz]
    split
    · exact apm ih
    · exact ⟨ih.pw, ih.len, fun v hv => Nat.lt_succ_of_lt (ih.vlt v hv), by have := ih.lo; omega⟩
theorem aij (l : List Qa) (gap : Int) : PW (amC l gap) := (agb l gap l.length).pw
def ipP (k : Nat) : List Nat := (List.range 400).map fun j => if j < k then j else 0
theorem aqA (n i : Nat) (v : Value) (h : i < (ary n v).length) : (ary n v)[i] = v := by simp [ary]
theorem aqz (n : Nat) (v : Value) : (ary n v).length = n := List.length_replicate
theorem apn : (ary 400 (.int .i64 0)).map V.ofV = QG (ipP 0) := by
  apply List.ext_getElem
  · rw [List.length_map, aqz, X8, ipP, List.length_map, List.length_range]
  · intro i h1 h2; rw [List.getElem_map, aqA]; simp only [QG, ipP, List.getElem_map, Nat.not_lt_zero, if_false]; rfl
theorem an6 (k : Nat) : (ipP k).length = 400 := by simp [ipP]
theorem aqV (k : Nat) : (ipP k).set k k = ipP (k + 1) := by
  apply List.ext_getElem
  · simp [ipP]
  · intro i h1 h2
    simp only [ipP, List.getElem_set, List.getElem_map, List.getElem_range]
    split
    · rename_i e; subst e; simp
    · rename_i e
      by_cases hi : i < k
      · rw [if_pos hi, if_pos (by omega)]
      · rw [if_neg hi, if_neg (by omega)]
theorem aqW : ipP 400 = List.range 400 := by
  apply List.ext_getElem
  · simp [ipP]
  · intro i h1 h2
    simp only [ipP, List.length_map, List.length_range] at h1
    simp [ipP, h1]
def jSt (l : List Qa) (gap : Int) (k : Nat) (s : JS) : St := Wo [(0, .sl 11 (l.map Qa.v)), (1, V.int gap), (5, .ptr 0 0), (7, .mp 1), (8, V.int s.loose), (26, .sl 11 (l.map Qa.v)), (27, V.int l.length), (28, V.int k)] [(0, .box true (QG s.p)), (1, .map (s.ks.map V.int) (QG s.vs) 0)] 2
theorem wq (p : List Nat) (i : Nat) : QG p ++ [V.int (i : Int)] = QG (p ++ [i]) := by simp [QG]
theorem akD {l : List Qa} {gap : Int} {k : Nat} {f : Qa} (h : l[k]? = some f) : xz l gap (k + 1) = amA l gap (xz l gap k) k f := by rw [xz, h]
def yc (Qg : Nat) : List AO := [mv 62 8, bc 63 .geq 62 (V.int 0), mv 64 63, mg 65 0 64 true, mg 66 8 64 true, xg 67 (.iaddr 11 (.t 65) (.t 66)) 64 true, xg 68 (.faddr 1 (.t 67)) 64 true, xg 69 (.load false 1 (.t 68)) 64 true, xg 70 (.faddr 1 (.t 10)) 64 true, xg 71 (.load false 1 (.t 70)) 64 true, xg 72 (.bin .eql (.t 69) (.t 71)) 64 true, xo 73 (.pick (.t 64) (.t 72) (.c (V.bool false))), mv 74 73, xg 75 (.load true 11 (.t 10)) 74 true, mg 76 0 74 true, mg 77 8 74 true, xg 78 (.iaddr 11 (.t 76) (.t 77)) 74 true, xg 79 (.load true 11 (.t 78)) 74 true, xg 80 (.call Qg [(.t 75), (.t 79)]) 74 true, mg 81 1 74 true, xg 82 (.bin .leq (.t 80) (.t 81)) 74 true, xo 83 (.pick (.t 74) (.t 82) (.c (V.bool false)))]
def yJ : List (List Nat) := [[], [0], [1], [2], [2], [3, 4, 2], [5, 2], [6, 2], [2], [8, 2], [7, 9, 2], [2, 10], [11, 2], [12], [12], [12], [14, 15, 12], [16, 12], [13, 17, 12, 12], [12], [18, 19, 12], [12, 20]]
def jX : OT := .one 0 (.one 1 (.one 2 (.one 3 (.one 4 (.one 5 (.one 6 (.one 7 (.one 8 (.one 9 (.one 10 (.one 11 (.one 12 (.one 13 (.one 14 (.one 15 (.one 16 (.one 17 (.one 18 (.one 19 (.one 20 (.one 21 .done)))))))))))))))))))))
@[go_sem] def j7 (Qg : Nat) : OP := oN 0 (mv 62 8) (oN 1 (bc 63 .geq 62 (V.int 0)) (oN 2 (mv 64 63) (oN 3 (mg 65 0 64 true) (oN 4 (mg 66 8 64 true) (oN 5 (xg 67 (.iaddr 11 (.t 65) (.t 66)) 64 true) (oN 6 (xg 68 (.faddr 1 (.t 67)) 64 true) (oN 7 (xg 69 (.load false 1 (.t 68)) 64 true) (oN 8 (xg 70 (.faddr 1 (.t 10)) 64 true) (oN 9 (xg 71 (.load false 1 (.t 70)) 64 true) (oN 10 (xg 72 (.bin .eql (.t 69) (.t 71)) 64 true) (oN 11 (xo 73 (.pick (.t 64) (.t 72) (.c (V.bool false)))) (oN 12 (mv 74 73) (oN 13 (xg 75 (.load true 11 (.t 10)) 74 true) (oN 14 (mg 76 0 74 true) (oN 15 (mg 77 8 74 true) (oN 16 (xg 78 (.iaddr 11 (.t 76) (.t 77)) 74 true) (oN 17 (xg 79 (.load true 11 (.t 78)) 74 true) (oN 18 (xg 80 (.call Qg [(.t 75), (.t 79)]) 74 true) (oN 19 (mg 81 1 74 true) (oN 20 (xg 82 (.bin .leq (.t 80) (.t 81)) 74 true) (oN 21 (xo 83 (.pick (.t 74) (.t 82) (.c (V.bool false)))) .done)))))))))))))))))))))
instance (Qg : Nat) : RG [] jX (j7 Qg) (yc Qg) yJ 22 (fun _ => true) := ⟨rfl, by kernel_rfl, by kernel_rfl⟩
def K7 (Jr W4 Qg : Nat) : AC := Qb [0, 1] (.reg [mc 4 (.sc (.pointer none))]) (Qb [0, 1, 5] (.reg [xo 14 (.build (ary 400 vi0) []), xo 15 (.box true 400 (.t 14)), mv 5 15]) (Qb [0, 1, 5] (Qb [0, 1, 5, 16] (.reg [mc 16 (V.int 0)]) (.block 0 (Y6 [0, 1, 5, 16] (Qb [0, 1, 5, 16, 17] (.reg [bc 17 .lss 16 (V.int 400)]) (Qb [0, 1, 5, 16] (.cond (.t 17) .skip (.exit 0)) (Qb [0, 1, 5, 16] (.block 1 (Qb [0, 1, 5, 6, 16] (.reg [mv 18 16, mv 6 18]) (.reg [mv 19 5, mv 20 6, mv 21 6, nk 22 19, xo 23 (.iaddrA 400 1 (.t 22) (.t 20)), xs 1 23 21]))) (.reg [bc 24 .add 16 (V.int 1), mv 16 24]))))))) (Qb [0, 1, 5, 7] (.reg [xo 25 (.mkmap), mv 7 25]) (Qb [0, 1, 5, 7, 8] (.reg [mc 8 (V.int (-1))]) (Qb [5] (Qb [0, 1, 5, 7, 8, 26, 27, 28] (.reg [mv 26 0, ln 27 26, mc 28 (V.int 0)]) (.block 2 (Y6 [0, 1, 5, 7, 8, 26, 27, 28] (Qb [0, 1, 5, 7, 8, 26, 27, 28, 29] (.reg [bn 29 .lss 28 27]) (Qb [0, 1, 5, 7, 8, 26, 27, 28] (.cond (.t 29) .skip (.exit 2)) (Qb [0, 1, 5, 7, 8, 26, 27, 28] (.block 3 (Qb [0, 1, 5, 7, 8, 9, 10, 26, 27, 28] (.reg [mv 30 28, ia 31 11 26 28, xo 32 (.load true 11 (.t 31)), xo 10 (.alloc [.val vi0, .val vs0, .val vi0, .val vi0, .val vi0, .val vi0, .val vs0, .val vi0, .val vi0, .val vi0, .val vs0]), mv 9 30, xs 11 10 32]) (Qb [0, 1, 5, 7, 8, 9, 10, 26, 27, 28] (Qb [0, 1, 5, 7, 8, 9, 10, 26, 27, 28, 35] (.reg [fa 33 2 10, ld 34 1 33, bc 35 .neq 34 (V.int 0)]) (.cond (.t 35) (Qb [0, 1, 5, 7, 8, 9, 10, 26, 27, 28] (Qb [0, 1, 5, 7, 8, 9, 10, 11, 12, 26, 27, 28] (.reg [mv 37 7, fa 38 2 10, ld 39 1 38, xo 40 (.mapget true false [vi0] false [0] (.t 37) (.t 39)), mv 36 40, ex 41 36 0, ex 42 36 1, mv 11 41, mv 12 42]) (Qb [0, 1, 5, 7, 8, 9, 10, 11, 26, 27, 28, 43] (.reg [mv 43 12]) (.cond (.t 43) (.reg [mv 44 5, mv 45 9, mv 46 11, cl 47 Jr [44, 45, 46]]) .skip))) (Qb [0, 1, 5, 7, 8, 26, 27, 28] (.reg [mv 48 7, fa 49 2 10, ld 50 1 49, mv 51 9, ⟨none, .mapset false [0] (.t 48) (.t 50) (.t 51), none⟩]) (.exit 3))) .skip)) (Qb [0, 1, 5, 7, 8, 9, 10, 26, 27, 28] (Qb [0, 1, 5, 7, 8, 9, 10, 13, 26, 27, 28] (.reg [mv 52 0, xo 53 (.load true 11 (.t 10)), mv 54 1, cl 55 W4 [52, 53, 54], mv 13 55]) (Qb [0, 1, 5, 7, 8, 9, 10, 13, 26, 27, 28, 57] (.reg [mv 56 13, bc 57 .geq 56 (V.int 0)]) (.cond (.t 57) (Qb [0, 1, 5, 7, 8, 26, 27, 28] (.reg [mv 58 5, mv 59 9, mv 60 13, cl 61 Jr [58, 59, 60]]) (.exit 3)) .skip))) (Qb [0, 1, 5, 7, 9, 26, 27, 28] (Qb [0, 1, 5, 7, 8, 9, 26, 27, 28, 83] (wP [] jX (j7 Qg) (yc Qg) yJ) (.cond (.t 83) (.reg [mv 84 5, mv 85 9, mv 86 8, cl 87 Jr [84, 85, 86]]) .skip)) (.reg [mv 88 9, mv 8 88])))))) (.reg [bc 89 .add 28 (V.int 1), mv 28 89]))))))) (Qb [4] (.reg [mv 90 5, mv 4 90]) .ret)))))) def r_identity_joined : List Jf := [.tmp 4]
def Kx (Γ : Env) (f : Nat) : Prop := ∀ (l : List Qa) (gap : Int) (hl : l.length ≤ 400) (hd : ∀ x ∈ l, aq3 x), EvR Γ f [.sl 11 (l.map Qa.v), V.int gap] ((QG (amC l gap)))
attribute [local go_sem] Nat.mul_one Nat.zero_add Qa.cells Qa.v jSt Wo in
theorem ac8 {Γ : Env} {f Jr W4 Qg : Nat} (h : Has Γ.P f 91 (K7 Jr W4 Qg) r_identity_joined) (z0 : XX Γ Jr) (z1 : UD Γ W4) (z2 : X3 Γ Qg) : Kx Γ f := by
  intro l gap hl hd
  refine agD h (by simp) (XN _) fun C hC hm => ?_
  subst hC
  unfold K7
  have z4 := apn
  have hpc := X8
  have hip := an6
  (have zx := And.intro z4 (And.intro hpc hip)); refine zgo ?_; repeat' first | exact zt | apply zan | intro hc
  refine QH (ι := Nat) (fun k => k ≤ 400) (fun k => Wo [(0, .sl 11 (l.map Qa.v)), (1, V.int gap), (5, .ptr 0 0), (16, V.int k)] [(0, .box true (QG (ipP k)))] 1) (fun k => 400 - k) 0 (Nat.zero_le _) (Ql [(0, 2000)]) (Qu [(0, 2000)] zwa (by simp only [go_sem, zwl, Nat.reduceAdd, Nat.reduceMul, Nat.reduceEqDiff, Nat.reduceLT, Int.reduceToNat, reduceIte, reduceCtorEq, QD, QU] <;> exact zcc) (by simp) (by simp; omega) (by omega)) fun k hk K' hL => ?_
  by_cases hk4 : k < 400
  · have e1 : decide ((k : Int) < 400) = true := decide_eq_true (by omega)
    have hw := Qr (k := k) (by omega)
    have hs := ajf (p := ipP k) (i := k) (by rw [an6]; exact hk4) k
    rw [aqV] at hs
    (have zx := And.intro e1 (And.intro hw (And.intro hpc (And.intro hip hs)))); refine zgo ?_; repeat' first | exact zt | apply zan | intro hc
    all_goals first | exact hL _ (k + 1) (Ql []) (by omega) (by omega) (Qu [] zwa (by simp only [go_sem, zwl, Nat.reduceAdd, Nat.reduceMul, Nat.reduceEqDiff, Nat.reduceLT, Int.reduceToNat, reduceIte, reduceCtorEq, QD, QU] <;> exact zcc) (by simp) (by simp) (by omega)) | trace_state
  have e1 : decide ((k : Int) < 400) = false := decide_eq_false (by omega)
  obtain rfl : k = 400 := by omega
  clear hL
  rw [aqW]
  have e0 : decide (((400 : Nat) : Int) < 400) = false := by decide
  (have zx := e0); refine zgo ?_; repeat' first | exact zt | apply zan | intro hc
  refine QH (ι := Nat) (fun k => k ≤ l.length) (fun k => jSt l gap k (xz l gap k)) (fun k => l.length - k) 0 (Nat.zero_le _) (Ql [(1, 1001)]) (Qu [(1, 1001)] (by simp only [go_sem, zwl, Nat.reduceAdd, Nat.reduceMul, Nat.reduceEqDiff, Nat.reduceLT, Int.reduceToNat, reduceIte, reduceCtorEq, jSt, xz, List.length_map] <;> exact zcc) (by simp only [go_sem, zwl, Nat.reduceAdd, Nat.reduceMul, Nat.reduceEqDiff, Nat.reduceLT, Int.reduceToNat, reduceIte, reduceCtorEq, jSt, xz, QD, QU] <;> exact zcc) (by simp [jSt, Ql]) (by simp [jSt]; omega) (by omega)) fun k hk K' hL => ?_
  have hJ := agb l gap k
  rcases hdr : l.drop k with _ | ⟨g, r⟩
  · have hkl := Je hdr
    have e1 : decide ((k : Int) < (l.length : Int)) = false := by simp; omega
    obtain rfl : k = l.length := by omega
    have hjf : amC l gap = (xz l gap l.length).p := rfl
    rw [hjf]
    (have zx := e1); refine zgo ?_; repeat' first | exact zt | apply zan | intro hc
    all_goals first | (refine aqe _ rfl rfl (XN _); done) | trace_state
  obtain ⟨hk', hget, hr⟩ := QJ hdr
  have hw := Qr (k := k) (by omega)
  have e1 : decide ((k : Int) < (l.length : Int)) = true := by simp; omega
  have hsu := akD (gap := gap) hget
  have hgd := hd g (List.mem_of_getElem? hget)
  generalize xz l gap k = s at *
  obtain ⟨p, ks, vs, lo⟩ := s
  obtain ⟨j1, j2, j3, j4⟩ := hJ
  simp only at j1 j2 j3 j4
  have hgv : l.map Qa.v = l.map Qa.v := rfl
  simp only [jSt]
  by_cases c1 : g.mach = 0
  · have e2 : (g.mach != 0) = false := by simpa using c1
    have p1 := (z1 l g gap (by omega) hd hgd).b
    rw [amA, if_pos c1] at hsu
    simp only [Qa.v, Qa.cells] at p1
    rcases anS l g gap with c2 | ⟨c2, c3⟩
    · rw [if_neg (by omega)] at hsu
      rw [c2] at p1
      have e3 : decide ((-1 : Int) ≥ 0) = false := by decide
      rcases hq : anR l g gap lo with _ | _
      · rw [hq, if_neg (by decide)] at hsu
        by_cases c4 : lo ≥ 0
        · obtain ⟨n, rfl⟩ : ∃ n : Nat, lo = n := ⟨lo.toNat, by omega⟩
          have e4 : decide ((n : Int) ≥ 0) = true := decide_eq_true (by omega)
          obtain ⟨q, hgq⟩ : ∃ q, l[n]? = some q := ⟨_, List.getElem?_eq_getElem (by omega)⟩
          rw [anR, e4, Bool.true_and, Int.toNat_natCast, hgq] at hq
          simp only at hq
          have p2 := (z2 g q hgd (hd q (List.mem_of_getElem? hgq))).b
          simp only [Qa.v, Qa.cells] at p2
          rcases c5 : q.host == g.host with _ | _
          · (have zx := And.intro e1 (And.intro e2 (And.intro e3 (And.intro e4 (And.intro c5 (And.intro hw (And.intro hget hgq))))))); refine zgo ?_; repeat' first | exact zt | apply zan | intro hc
            all_goals first | exact hL _ (k + 1) (Ql []) (by omega) (by omega) (by rw [hsu]; exact Qu [] (by simp only [go_sem, zwl, Nat.reduceAdd, Nat.reduceMul, Nat.reduceEqDiff, Nat.reduceLT, Int.reduceToNat, reduceIte, reduceCtorEq, jSt, List.length_map] <;> exact zcc) (by simp only [go_sem, zwl, Nat.reduceAdd, Nat.reduceMul, Nat.reduceEqDiff, Nat.reduceLT, Int.reduceToNat, reduceIte, reduceCtorEq, jSt, QD, QU] <;> exact zcc) (by simp [jSt, Ql]) (by simp [jSt]) (by omega)) | trace_state
          · rw [c5, Bool.true_and] at hq
            (have zx := And.intro e1 (And.intro e2 (And.intro e3 (And.intro e4 (And.intro c5 (And.intro hq (And.intro hw (And.intro hget hgq)))))))); refine zgo ?_; repeat' first | exact zt | apply zan | intro hc
            all_goals first | exact hL _ (k + 1) (Ql []) (by omega) (by omega) (by rw [hsu]; exact Qu [] (by simp only [go_sem, zwl, Nat.reduceAdd, Nat.reduceMul, Nat.reduceEqDiff, Nat.reduceLT, Int.reduceToNat, reduceIte, reduceCtorEq, jSt, List.length_map] <;> exact zcc) (by simp only [go_sem, zwl, Nat.reduceAdd, Nat.reduceMul, Nat.reduceEqDiff, Nat.reduceLT, Int.reduceToNat, reduceIte, reduceCtorEq, jSt, QD, QU] <;> exact zcc) (by simp [jSt, Ql]) (by simp [jSt]) (by omega)) | trace_state
        · have e4 : decide (lo ≥ 0) = false := decide_eq_false c4
          (have zx := And.intro e1 (And.intro e2 (And.intro e3 (And.intro e4 (And.intro hw hget))))); refine zgo ?_; repeat' first | exact zt | apply zan | intro hc
          all_goals first | exact hL _ (k + 1) (Ql []) (by omega) (by omega) (by rw [hsu]; exact Qu [] (by simp only [go_sem, zwl, Nat.reduceAdd, Nat.reduceMul, Nat.reduceEqDiff, Nat.reduceLT, Int.reduceToNat, reduceIte, reduceCtorEq, jSt, List.length_map] <;> exact zcc) (by simp only [go_sem, zwl, Nat.reduceAdd, Nat.reduceMul, Nat.reduceEqDiff, Nat.reduceLT, Int.reduceToNat, reduceIte, reduceCtorEq, jSt, QD, QU] <;> exact zcc) (by simp [jSt, Ql]) (by simp [jSt]) (by omega)) | trace_state
      · rw [hq, if_pos rfl] at hsu
        have c4 : lo ≥ 0 := by
          rw [anR] at hq
          simp only [Bool.and_eq_true, decide_eq_true_eq] at hq
          exact hq.1
        obtain ⟨n, rfl⟩ : ∃ n : Nat, lo = n := ⟨lo.toNat, by omega⟩
        have e4 : decide ((n : Int) ≥ 0) = true := decide_eq_true (by omega)
        obtain ⟨q, hgq⟩ : ∃ q, l[n]? = some q := ⟨_, List.getElem?_eq_getElem (by omega)⟩
        rw [anR, e4, Bool.true_and, Int.toNat_natCast, hgq] at hq
        rw [Int.toNat_natCast] at hsu
        simp only [Bool.and_eq_true] at hq
        obtain ⟨c5, c6⟩ := hq
        have p2 := (z2 g q hgd (hd q (List.mem_of_getElem? hgq))).b
        have n1 := z0 p k n j1 (by omega) (by omega)
        simp only [Qa.v, Qa.cells] at p2
        (have zx := And.intro e1 (And.intro e2 (And.intro e3 (And.intro e4 (And.intro c5 (And.intro c6 (And.intro hw (And.intro hget hgq)))))))); refine zgo ?_; repeat' first | exact zt | apply zan | intro hc
        all_goals first | exact hL _ (k + 1) (Ql []) (by omega) (by omega) (by rw [hsu]; exact Qu [] (by simp only [go_sem, zwl, Nat.reduceAdd, Nat.reduceMul, Nat.reduceEqDiff, Nat.reduceLT, Int.reduceToNat, reduceIte, reduceCtorEq, jSt, List.length_map] <;> exact zcc) (by simp only [go_sem, zwl, Nat.reduceAdd, Nat.reduceMul, Nat.reduceEqDiff, Nat.reduceLT, Int.reduceToNat, reduceIte, reduceCtorEq, jSt, QD, QU] <;> exact zcc) (by simp [jSt, Ql]) (by simp [jSt]) (by omega)) | trace_state
    · rw [if_pos c2] at hsu
      obtain ⟨n, hn⟩ : ∃ n : Nat, aie l g gap = n := ⟨(aie l g gap).toNat, by omega⟩
      rw [hn] at hsu c3 p1
      rw [Int.toNat_natCast] at hsu
      have e3 : decide ((n : Int) ≥ 0) = true := decide_eq_true (by omega)
      have n1 := z0 p k n j1 (by omega) (by omega)
      (have zx := And.intro e1 (And.intro e2 (And.intro e3 (And.intro hw hget)))); refine zgo ?_; repeat' first | exact zt | apply zan | intro hc
      all_goals first | exact hL _ (k + 1) (Ql []) (by omega) (by omega) (by rw [hsu]; exact Qu [] (by simp only [go_sem, zwl, Nat.reduceAdd, Nat.reduceMul, Nat.reduceEqDiff, Nat.reduceLT, Int.reduceToNat, reduceIte, reduceCtorEq, jSt, List.length_map] <;> exact zcc) (by simp only [go_sem, zwl, Nat.reduceAdd, Nat.reduceMul, Nat.reduceEqDiff, Nat.reduceLT, Int.reduceToNat, reduceIte, reduceCtorEq, jSt, QD, QU] <;> exact zcc) (by simp [jSt, Ql]) (by simp [jSt]) (by omega)) | trace_state
  · have e2 : (g.mach != 0) = true := by simpa using c1
    rw [amA, if_neg c1] at hsu
    have hfk := ahT g.mach ks 0
    have hek := agG g.mach
    rcases hix : aqb g.mach ks 0 with _ | a
    · rw [hix] at hsu hfk
      have hm1 : ks.map V.int ++ [V.int g.mach] = (ks ++ [g.mach]).map V.int := by simp
      have hm2 := wq vs k
      (have zx := And.intro e1 (And.intro e2 (And.intro hw (And.intro hfk (And.intro hek (And.intro hm1 (And.intro hm2 hget))))))); refine zgo ?_; repeat' first | exact zt | apply zan | intro hc
      all_goals first | exact hL _ (k + 1) (Ql []) (by omega) (by omega) (by rw [hsu]; exact Qu [] (by simp only [go_sem, zwl, Nat.reduceAdd, Nat.reduceMul, Nat.reduceEqDiff, Nat.reduceLT, Int.reduceToNat, reduceIte, reduceCtorEq, jSt, List.length_map] <;> exact zcc) (by simp only [go_sem, zwl, Nat.reduceAdd, Nat.reduceMul, Nat.reduceEqDiff, Nat.reduceLT, Int.reduceToNat, reduceIte, reduceCtorEq, jSt, QD, QU] <;> exact zcc) (by simp [jSt, Ql]) (by simp [jSt]) (by omega)) | trace_state
    · rw [hix] at hsu hfk
      have ha := (aoa hix).2
      obtain ⟨v, hv⟩ : ∃ v, vs[a]? = some v := ⟨_, List.getElem?_eq_getElem (by omega)⟩
      have hvk := j3 v (List.mem_of_getElem? hv)
      have hvd : vs.getD a 0 = v := by rw [List.getD_eq_getElem?_getD, hv]; rfl
      simp only [hvd] at hsu
      have hvc := WC hv
      have n1 := z0 p k v j1 (by omega) (by omega)
      have hm1 := afZ vs a k
      (have zx := And.intro e1 (And.intro e2 (And.intro hw (And.intro hfk (And.intro hek (And.intro hm1 (And.intro hvc hget))))))); refine zgo ?_; repeat' first | exact zt | apply zan | intro hc
      all_goals first | exact hL _ (k + 1) (Ql []) (by omega) (by omega) (by rw [hsu]; exact Qu [] (by simp only [go_sem, zwl, Nat.reduceAdd, Nat.reduceMul, Nat.reduceEqDiff, Nat.reduceLT, Int.reduceToNat, reduceIte, reduceCtorEq, jSt, List.length_map] <;> exact zcc) (by simp only [go_sem, zwl, Nat.reduceAdd, Nat.reduceMul, Nat.reduceEqDiff, Nat.reduceLT, Int.reduceToNat, reduceIte, reduceCtorEq, jSt, QD, QU] <;> exact zcc) (by simp [jSt, Ql]) (by simp [jSt]) (by omega)) | trace_state
end Av
end
section
namespace Av
open Go
section
variable {Γ : Env} {A W : Nat → Bool} {b : Nat} {s : St} {d : Option Nat} {f : FuncId} {acts args : List V} {okf : Option (List Nat) → Prop} {J : St → Prop} {a n sx : Nat} {xs ys : List V} {x : V}
theorem ak7 (ha : s.o a = some (.buf true sx xs)) (hA : A a = true) (hW : W a = true) (h : EvI Γ f args sx xs ys) (hal : (Jq acts).contains a = false) (hd : decide (a < b) = true) (hn : n = xs.length) (hl : ((Jq acts).all fun x => A x && W x) = true) (hc : QB (Yw A s.o) (some (Jq acts)) acts)
    (hk : J { t := (s.put d (.hd b 0 ys.length)).t, o := upd (upd (wN (some (Jq acts)) [a] s.o) b (some (.buf true sx ys))) a (some .dead), n := s.n }) : aiN Γ A W b s d f (.hd a 0 n :: acts) (x :: args) okf J := by
  intro h1 _
  simp only [Y4, List.cons.injEq] at h1
  obtain ⟨_, rfl⟩ := h1
  subst hn
  have hal' : a ∉ Jq acts := by simpa using hal
  have hra : Yw A s.o a = some (.buf true sx xs) := by rw [adM, if_pos hA, ha]
  refine ⟨_, _, _, _, [a], some (Jq acts), h.ev, ⟨?_, YG _ [a] _ (fun y hy => ?_) acts hc⟩, ⟨⟨_, hra, rfl, rfl⟩, trivial⟩, by simp, ?_, by simp, by simp [KK], fun h => by simp at h, fun l h x hx => (by cases h; simpa using List.all_eq_true.1 hl x hx), ?_⟩
  · simp [conv]
  · intro e
    rw [List.mem_singleton.1 e] at hy
    exact hal' hy
  · intro y hy
    rw [List.mem_singleton.1 hy]
    exact ⟨of_decide_eq_true hd, hW⟩
  · simp only [X7, X6, Ob.ren, V.ren, sig]
    exact hk
theorem ak6 (ha : s.o a = some (.buf true sx xs)) (hA : A a = true) (hW : W a = true) (h : EvX Γ f args sx xs) (hal : (Jq acts).contains a = false) (hd : decide (a < b) = true) (hn : n = xs.length) (hl : ((Jq acts).all fun x => A x && W x) = true) (hc : QB (Yw A s.o) (some (Jq acts)) acts)
    (hk : J { t := (s.put d (.hd a 0 n)).t, o := upd (wN (some (Jq acts)) [a] s.o) a (some (.buf true sx xs)), n := s.n }) : aiN Γ A W b s d f (.hd a 0 n :: acts) (x :: args) okf J := by
  intro h1 _
  simp only [Y4, List.cons.injEq] at h1
  obtain ⟨_, rfl⟩ := h1
  subst hn
  have hal' : a ∉ Jq acts := by simpa using hal
  have hra : Yw A s.o a = some (.buf true sx xs) := by rw [adM, if_pos hA, ha]
  refine ⟨_, _, _, _, [a], some (Jq acts), h.ev, ⟨?_, YG _ [a] _ (fun y hy => ?_) acts hc⟩, ⟨⟨_, hra, rfl, rfl⟩, trivial⟩, by simp, ?_, by simp, by simp [KK], fun h => by simp at h, fun l h x hx => (by cases h; simpa using List.all_eq_true.1 hl x hx), ?_⟩
  · simp [conv]
  · intro e
    rw [List.mem_singleton.1 e] at hy
    exact hal' hy
  · intro y hy
    rw [List.mem_singleton.1 hy]
    exact ⟨of_decide_eq_true hd, hW⟩
  · simp only [X7, X6, Ob.ren, V.ren, sig]
    exact hk
end
end Av
end
section
set_option linter.unusedSimpArgs false
set_option linter.unusedVariables false
set_option maxRecDepth 10000
set_option maxHeartbeats 4000000
namespace Av
open Go
theorem ak4 {Γ : Env} {b : Nat} {r : List AO} {s : St} {d : Option Nat} {f : FuncId} {x : V} {g : FK} {off : Nat} {wr : Bool} {cs : List V} {args : List V} {okf : Option (List Nat) → Prop} {K : St → Prop} {a c sz n m : Nat} {xs ys : List V}
    (ha : s.o a = some (.buf true sz xs)) (h : EvZ Γ f args sz xs m ys) (hab : decide (a < b) = true) (hn : n = xs.length) (ho : s.o c = some (.box wr cs)) (hca : decide (c ≠ a) = true) (hcl : Qh cs)
    (hk : wo Γ (b + KK) r { t := (s.put d (.hd a 0 m)).t, o := upd (wN (some [c]) [a] s.o) a (some (.buf true sz ys)), n := s.n } K) : ak5 Γ b r s d f (.hd a 0 n :: [.clo g [.ptr c off]]) (x :: args) okf K := by
  have hc : QB s.o (some [c]) [.clo g [.ptr c off]] := by
    simp only [QB, V.shutOk, and_true, okB, List.mem_singleton, true_and]
    exact ⟨wr, cs, ho, hcl⟩
  intro h1 _
  simp only [Y4, List.cons.injEq] at h1
  obtain ⟨_, rfl⟩ := h1
  subst hn
  refine XV ⟨_, _, _, _, [a], some [c], h.ev, ⟨?_, YG s.o [a] [c] (fun x hx => by
    have := of_decide_eq_true hca
    simp only [List.mem_singleton] at hx ⊢
    subst hx; exact this) _ hc⟩, ⟨⟨_, ha, rfl, rfl⟩, trivial⟩, by simp, ?_, by simp, by simp [KK], fun h => by simp at h, ?_⟩
  · simp [conv]
  · intro x hx
    simp only [List.mem_singleton] at hx
    subst hx; exact of_decide_eq_true hab
  · simp only [X7, X6, Ob.ren, V.ren, sig, List.getElem?_cons_zero, Option.getD_some]
    exact hk
end Av
end
section
namespace Av
open Go
structure asz (Γ : Env) (f : FuncId) (v : V) (sx : Nat) (xs vs ys : List V) : Prop where
  ev : Ev Γ f [.hd 0 0 xs.length, v, .hd 1 0 vs.length] [.buf true sx xs, .buf true sx vs] (.hd 2 0 ys.length) [.dead, .buf true sx vs, .buf true sx ys]
section
variable {Γ : Env} {b : Nat} {r : List AO} {s : St} {d : Option Nat} {f : FuncId} {args : List V} {okf : Option (List Nat) → Prop} {K : St → Prop} {a a2 n n2 sx : Nat} {xs vs ys : List V} {i : Int}
theorem agP (ha : s.o a = some (.buf true sx xs)) (ha2 : s.o a2 = some (.buf true sx vs)) (h : asz Γ f (V.int i) sx xs vs ys) (hd : decide (a ≠ a2 ∧ a < b ∧ a2 < b) = true) (hn : n = xs.length) (hn2 : n2 = vs.length)
    (hk : wo Γ (b + KK) r { t := (s.put d (.hd b 0 ys.length)).t, o := upd (upd (upd s.o b (some (.buf true sx ys))) a2 (some (.buf true sx vs))) a (some .dead), n := s.n } K) : ak5 Γ b r s d f [.hd a 0 n, V.int i, .hd a2 0 n2] args okf K := by
  intro _ _
  subst hn; subst hn2
  obtain ⟨e1, e2, e3⟩ := of_decide_eq_true hd
  refine XV ⟨_, _, _, _, [a, a2], some [], h.ev, ⟨by simp [conv], by simp [conv], by simp [conv], trivial⟩, ⟨⟨_, ha, rfl, rfl⟩, ⟨_, ha2, rfl, rfl⟩, trivial⟩, by simpa using e1, ?_, by simp, by simp [KK], fun h => by simp at h, ?_⟩
  · intro y hy
    simp only [List.mem_cons, List.not_mem_nil, or_false] at hy
    rcases hy with rfl | rfl <;> assumption
  · simp only [X7, X6, Ob.ren, V.ren, sig, ass]
    exact hk
end
end Av
end
section
set_option maxRecDepth 10000
set_option maxHeartbeats 4000000
namespace Av
open Go
attribute [local irreducible] AWp wo acE afd awS awC al0 awQ am3 YI adu ak3 awR aeq awB okR afY ris
def am1 {α : Type} (lt : α → α → Bool) (l : List α) (x : α) : Nat → Nat → Nat → Nat
  | 0, i, _ => i
  | n + 1, i, j => if i < j then (match l[(i + j) / 2]? with
    | some y => if lt y x = true then am1 lt l x n ((i + j) / 2 + 1) j else am1 lt l x n i ((i + j) / 2)
    | none => i) else i
def bsI {α : Type} (lt : α → α → Bool) (l : List α) (x : α) : Nat := am1 lt l x l.length 0 l.length
theorem ak2 {α : Type} {lt : α → α → Bool} {l : List α} {x : α} : ∀ (n i j : Nat), i ≤ j → j ≤ l.length → am1 lt l x n i j ≤ l.length
  | 0, i, j, h1, h2 => by rw [am1]; omega
  | n + 1, i, j, h1, h2 => by
    rw [am1]
    split
    · split
      · split
        · exact ak2 n _ _ (by omega) h2
        · exact ak2 n _ _ (by omega) (by omega)
      · omega
    · omega
theorem aj1 {α : Type} {lt : α → α → Bool} {l : List α} {x : α} : bsI lt l x ≤ l.length := ak2 _ _ _ (Nat.zero_le _) (Nat.le_refl _)
theorem ahQ {a b : Nat} (h : a + b < 2 ^ 36) : IntKind.i64.wrap ((IntKind.u64.wrap (IntKind.i64.wrap ((a : Int) + (b : Int)))).fdiv (2 ^ 1)) = (((a + b) / 2 : Nat) : Int) := by
  have e1 : IntKind.i64.wrap ((a : Int) + (b : Int)) = ((a + b : Nat) : Int) := by rw [Ym (by omega) (by omega)]; omega
  have e2 : IntKind.u64.wrap ((a + b : Nat) : Int) = ((a + b : Nat) : Int) := by
    unfold IntKind.wrap; simp [IntKind.signed, IntKind.bits]; omega
  rw [e1, e2, Int.fdiv_eq_ediv_of_nonneg _ (by decide), show (2 : Int) ^ 1 = 2 from rfl, Ym (by omega) (by omega)]; omega
def Vo : AC := Qb [0] (.reg [mc 2 (V.bool false)]) (Qb [2] (.reg [mv 3 0, mv 4 0, bn 5 .neq 3 4, mv 2 5]) .ret) def r_slices_isNaN_string : List Jf := [.tmp 2]
def WT (Γ : Env) (f : Nat) : Prop := ∀ (s : List UInt8), EvN Γ f [V.str s] (V.bool false)
theorem vZ {Γ : Env} {f : Nat} (h : Has Γ.P f 6 Vo r_slices_isNaN_string)  : WT Γ f := by
  intro s
  refine Qd h zsi zcl zcl fun C hC hm => ?_
  subst hC
  unfold Vo
  refine zgo ?_; repeat' first | exact zt | apply zan | intro hc
  all_goals first | exact zr | (refine Qv _ rfl ?_; simp only [go_sem, Nat.reduceEqDiff, Nat.reduceAdd, reduceIte, reduceCtorEq]; simp; done) | trace_state
def Kk : AC := Qb [0] (.reg [mc 2 (V.bool false)]) (Qb [2] (.reg [mv 3 0, mv 4 0, bn 5 .neq 3 4, mv 2 5]) .ret) def r_cmp_isNaN_string : List Jf := [.tmp 2]
def UI (Γ : Env) (f : Nat) : Prop := ∀ (s : List UInt8), EvN Γ f [V.str s] (V.bool false)
theorem acb {Γ : Env} {f : Nat} (h : Has Γ.P f 6 Kk r_cmp_isNaN_string)  : UI Γ f := by
  intro s
  refine Qd h zsi zcl zcl fun C hC hm => ?_
  subst hC
  unfold Kk
  refine zgo ?_; repeat' first | exact zt | apply zan | intro hc
  all_goals first | exact zr | (refine Qv _ rfl ?_; simp only [go_sem, Nat.reduceEqDiff, Nat.reduceAdd, reduceIte, reduceCtorEq]; simp; done) | trace_state
def qn (XS : Nat) : AC := Qb [0, 1] (.reg [mc 4 (V.bool false)]) (Qb [4] (.reg [mv 5 0, cl 6 XS [5], mv 7 6, mg 8 1 7 true, xg 9 (.call XS [(.t 8)]) 7 true, xg 10 (.un .not (.t 9)) 7 true, xo 11 (.pick (.t 7) (.t 10) (.c (V.bool false))), mv 12 11, mg 13 0 12 false, mg 14 1 12 false, xg 15 (.bin .lss (.t 13) (.t 14)) 12 false, xo 16 (.pick (.t 12) (.c (V.bool true)) (.t 15)), mv 4 16]) .ret) def r_cmp_Less_string : List Jf := [.tmp 4]
def KL (Γ : Env) (f : Nat) : Prop := ∀ (a b : List UInt8), EvN Γ f [V.str a, V.str b] (V.bool (Op.bytesLess a b))
theorem adm {Γ : Env} {f XS : Nat} (h : Has Γ.P f 17 (qn XS) r_cmp_Less_string) (z0 : UI Γ XS) : KL Γ f := by
  intro a b
  refine Qd h zsi zcl zcl fun C hC hm => ?_
  subst hC
  unfold qn
  have p1 := (z0 a).b
  exact zg
def UM {α : Type} [BEq α] (l : List α) (i : Nat) (x : α) : Bool := match l[i]? with | some y => y == x | none => false
def JU (VB YY : Nat) : AC := Qb [0, 1] (.reg [mc 4 (V.int 0), mc 5 (V.bool false)]) (Qb [0, 1, 6] (.reg [mv 10 0, ln 11 10, mv 6 11]) (Qb [0, 1, 6, 7, 8] (.reg [mv 12 6, mc 7 (V.int 0), mv 8 12]) (Qb [0, 1, 6, 7] (.block 0 (Y6 [0, 1, 6, 7, 8] (Qb [0, 1, 6, 7, 8] (Qb [0, 1, 6, 7, 8, 15] (.reg [mv 13 7, mv 14 8, bn 15 .lss 13 14]) (.cond (.t 15) .skip (.exit 0))) (.block 1 (Qb [0, 1, 6, 7, 8, 9] (.reg [mv 16 7, mv 17 8, bn 18 .add 16 17, xo 19 (.convI .u64 (.t 18)), bc 20 .shr 19 (.sc (.int .u64 1)), xo 21 (.convI .i64 (.t 20)), mv 9 21]) (Qb [0, 1, 6, 7, 8, 9, 27] (.reg [mv 22 0, mv 23 9, ia 24 1 22 23, ld 25 1 24, mv 26 1, cl 27 VB [25, 26]]) (.cond (.t 27) (.reg [mv 28 9, bc 29 .add 28 (V.int 1), mv 7 29]) (.reg [mv 30 9, mv 8 30])))))))) (Qb [4, 5] (.reg [mv 31 7, mv 32 7, mv 33 6, bn 34 .lss 32 33, mv 35 34, mg 36 0 35 true, mg 37 7 35 true, xg 38 (.iaddr 1 (.t 36) (.t 37)) 35 true, xg 39 (.load false 1 (.t 38)) 35 true, mg 40 1 35 true, xg 41 (.bin .eql (.t 39) (.t 40)) 35 true, mg 42 41 35 true, mg 43 0 42 false, mg 44 7 42 false, xg 45 (.iaddr 1 (.t 43) (.t 44)) 42 false, xg 46 (.load false 1 (.t 45)) 42 false, xg 47 (.call YY [(.t 46)]) 42 false, mg 48 47 42 false, mg 49 1 48 true, xg 50 (.call YY [(.t 49)]) 48 true, xg 51 (.pick (.t 48) (.t 50) (.c (V.bool false))) 42 false, xg 52 (.pick (.t 42) (.c (V.bool true)) (.t 51)) 35 true, xo 53 (.pick (.t 35) (.t 52) (.c (V.bool false))), mv 4 31, mv 5 53]) .ret)))) def r_slices_BinarySearch___string_string : List Jf := [.tmp 4, .tmp 5]
def JP (Γ : Env) (f : Nat) : Prop := ∀ (l : List (List UInt8)) (x : List UInt8) (hl : l.length < 2 ^ 34), EvN Γ f [.sl 1 (l.map V.str), V.str x] (.tup [V.int (bsI Op.bytesLess l x : Nat), V.bool (UM l (bsI Op.bytesLess l x) x)])
attribute [local go_sem] Wo in
theorem VE {Γ : Env} {f VB YY : Nat} (h : Has Γ.P f 54 (JU VB YY) r_slices_BinarySearch___string_string) (z0 : KL Γ VB) (z1 : WT Γ YY) : JP Γ f := by
  intro l x hl
  refine Qd h zsi zcl zcl fun C hC hm => ?_
  subst hC
  unfold JU
  refine zgo ?_; repeat' first | exact zt | apply zan | intro hc
  refine QH (ι := Nat × Nat × Nat) (fun q => q.2.1 ≤ q.2.2 ∧ q.2.2 ≤ l.length ∧ q.2.2 - q.2.1 ≤ q.1 ∧ am1 Op.bytesLess l x q.1 q.2.1 q.2.2 = bsI Op.bytesLess l x) (fun q => Wo [(0, .sl 1 (l.map V.str)), (1, V.str x), (6, V.int l.length), (7, V.int q.2.1), (8, V.int q.2.2)] [] 0) (fun q => q.2.2 - q.2.1) (l.length, 0, l.length) ⟨Nat.zero_le _, Nat.le_refl _, by simp, rfl⟩ (Ql []) (Qu [] (by simp only [go_sem, zwl, Nat.reduceAdd, Nat.reduceMul, Nat.reduceEqDiff, Nat.reduceLT, Int.reduceToNat, reduceIte, reduceCtorEq, List.length_map] <;> exact zcc) zwa (by simp) (by simp) (by omega)) fun q hq K' hL => ?_
  obtain ⟨n, i, j⟩ := q
  simp only at hq hL ⊢
  obtain ⟨h1, h2, h3, h4⟩ := hq
  have hb : bsI Op.bytesLess l x ≤ l.length := aj1
  by_cases hij : i < j
  · obtain ⟨n, rfl⟩ : ∃ m, n = m + 1 := ⟨n - 1, by omega⟩
    have e1 : decide ((i : Int) < (j : Int)) = true := decide_eq_true (by omega)
    have hh := ahQ (a := i) (b := j) (by omega)
    rw [am1, if_pos hij] at h4
    have r1 : i ≤ (i + j) / 2 := by omega
    have r2 : (i + j) / 2 < j := by omega
    generalize (i + j) / 2 = r at *
    obtain ⟨y, hy⟩ : ∃ y, l[r]? = some y := ⟨_, List.getElem?_eq_getElem (by omega)⟩
    rw [hy] at h4
    simp only at h4
    have p1 := (z0 y x).b
    have hwr := Qr (k := r) (by omega)
    rcases hlt : Op.bytesLess y x with _ | _
    · rw [hlt] at p1 h4
      rw [if_neg (by decide)] at h4
      (have zx := And.intro e1 (And.intro hh (And.intro hwr hy))); refine zgo ?_; repeat' first | exact zt | apply zan | intro hc
      all_goals first | exact hL _ (n, i, r) (Ql []) ⟨by simp only; omega, by simp only; omega, by simp only; omega, h4⟩ (by simp only; omega) (zwg []) | trace_state
    · rw [hlt] at p1 h4
      rw [if_pos rfl] at h4
      (have zx := And.intro e1 (And.intro hh (And.intro hwr hy))); refine zgo ?_; repeat' first | exact zt | apply zan | intro hc
      all_goals first | exact hL _ (n, r + 1, j) (Ql []) ⟨by simp only; omega, by simp only; omega, by simp only; omega, h4⟩ (by simp only; omega) (zwg []) | trace_state
  · have e1 : decide ((i : Int) < (j : Int)) = false := decide_eq_false (by omega)
    have hbi : bsI Op.bytesLess l x = i := by
      rw [← h4]
      rcases n with _ | n
      · rfl
      · rw [am1, if_neg hij]
    rw [hbi]
    by_cases hil : i < l.length
    · have e2 : decide ((i : Int) < (l.length : Int)) = true := decide_eq_true (by omega)
      obtain ⟨y, hy⟩ : ∃ y, l[i]? = some y := ⟨_, List.getElem?_eq_getElem hil⟩
      have hf : UM l i x = (y == x) := by simp only [UM, hy]
      have p2 := (z1 y).b
      rw [hf]
      rcases hyx : y == x with _ | _
      · (have zx := And.intro e1 (And.intro e2 (And.intro hyx hy))); exact zg
      · (have zx := And.intro e1 (And.intro e2 (And.intro hyx hy))); exact zg
    · have e2 : decide ((i : Int) < (l.length : Int)) = false := decide_eq_false (by omega)
      have hf : UM l i x = false := by rw [UM, List.getElem?_eq_none (by omega)]
      rw [hf]
      (have zx := And.intro e1 e2); exact zg
def ltJ (x y : Int) : Bool := decide (x < y)
def agf {α : Type} [BEq α] (lt : α → α → Bool) (l : List α) (x : α) : List α :=
  if UM l (bsI lt l x) x = true then l else l.take (bsI lt l x) ++ x :: l.drop (bsI lt l x)
def XZ (Γ : Env) (f : Nat) : Prop := ((∀ (xs : List (List UInt8)) (i : Nat) (x : List UInt8), i ≤ xs.length → 0 < xs.length → xs.length < 2 ^ 30 → asz Γ f (V.int i) 1 (xs.map V.str) [V.str x] ((xs.take i ++ x :: xs.drop i).map V.str)) ∧ (∀ x : List UInt8, EvW Γ f [aeT, V.int 0, .sl 1 [V.str x]] 1 [V.str x]))
def Yb (QZ JB : Nat) : AC := Qb [0, 1] (.reg [xo 4 (.mknil 1)]) (Qb [0, 1, 5, 6] (.reg [mv 8 0, mv 9 1, cl 10 QZ [8, 9], mv 7 10, ex 11 7 0, ex 12 7 1, mv 5 11, mv 6 12]) (Qb [0, 1, 5] (Qb [0, 1, 5, 13] (.reg [mv 13 6]) (.cond (.t 13) (Qb [4] (.reg [mv 14 0, mv 4 14]) .ret) .skip)) (Qb [4] (.reg [mv 15 0, mv 16 5, mv 17 1, xo 18 (.bslice 1 1 false [vs0] [(0, (.t 17))]), cl 19 JB [15, 16, 18], mv 4 19]) .ret))) def r_identity_insert_string : List Jf := [.tmp 4]
def XY (Γ : Env) (f : Nat) : Prop := ((∀ (xs : List (List UInt8)) (x : List UInt8), 0 < xs.length → xs.length < 2 ^ 30 → UM xs (bsI Op.bytesLess xs x) x = true → EvX Γ f [V.str x] 1 (xs.map V.str)) ∧ (∀ (xs : List (List UInt8)) (x : List UInt8), 0 < xs.length → xs.length < 2 ^ 30 → UM xs (bsI Op.bytesLess xs x) x = false → EvI Γ f [V.str x] 1 (xs.map V.str) ((agf Op.bytesLess xs x).map V.str)) ∧ (∀ x : List UInt8, EvW Γ f [aeT, V.str x] 1 [V.str x]))
theorem xT {Γ : Env} {f QZ JB : Nat} (h : Has Γ.P f 20 (Yb QZ JB) r_identity_insert_string) (z0 : JP Γ QZ) (z1 : XZ Γ JB) : XY Γ f := by
  obtain ⟨hI, hW⟩ := z1
  refine ⟨fun xs x h0 hl hf => ?_, fun xs x h0 hl hf => ?_, fun x => ?_⟩
  · refine ace h (by simp) fun C hC hm => ?_
    subst hC
    unfold Yb
    have hb := (z0 xs x (by omega)).b
    rw [hf] at hb
    have ht : List.take (xs.map V.str).length (xs.map V.str) = xs.map V.str := List.take_length
    (have zx := ht); refine zgo ?_; repeat' first | exact zt | apply zan | intro hc
    all_goals first | (refine aon _ rfl rfl rfl ?_; first | rfl | (simp; done)) | trace_state
  · refine agE h (by simp) fun C hC hm => ?_
    subst hC
    unfold Yb
    have hb := (z0 xs x (by omega)).b
    have hi := hI xs (bsI Op.bytesLess xs x) x aj1 h0 hl
    rw [agf, if_neg (by rw [hf]; decide)]
    rw [hf] at hb
    have ht : List.take (xs.map V.str).length (xs.map V.str) = xs.map V.str := List.take_length
    generalize bsI Op.bytesLess xs x = i at *
    repeat' (first | (refine zsk ?_; intro K' hK) | refine zsp ?_ | (refine zsc ?_ ?_ <;> intro hc <;> first | exact znh | try simp only [znz] at hc) | simp (maxSteps := 1000000) only [go_sem, Nat.reduceAdd, Nat.reduceMul, Nat.reduceEqDiff, Nat.reduceLeDiff, Nat.reduceLT, Nat.reduceSub, Int.reduceEq, Int.reduceBEq, Int.reduceLT, Int.reduceLE, Int.reduceAdd, Int.reduceToNat, reduceIte, reduceCtorEq, ht] | (refine hK _ ?_; clear hK K') | apply zan | (apply aj5; (focus exact rfl); (focus first | exact hi); (focus exact rfl); (focus exact rfl); (focus (first | exact rfl | (simp; done)))) | (apply agP; (focus exact rfl); (focus exact rfl); (focus first | exact hi); (focus exact rfl); (focus (first | exact rfl | (simp; done))); (focus (first | exact rfl | (simp; done)))) | (apply QS; (focus first | exact hb | exact (z0 _ _ zsd).b)) | exact zsq | fail)
    all_goals first | (refine aqf _ _ rfl ⟨_, rfl⟩ rfl (by omega) rfl ?_; first | rfl | (simp; done)) | trace_state
  · refine KX h (by simp) (by intro y hy; rw [List.mem_singleton.1 hy]; simp only [V.noSl]) fun C hC hm => ?_
    subst hC
    unfold Yb
    have hb := (z0 [] x (by simp)).b
    have hw := hW x
    simp only [List.map_nil] at hb
    have hb := hb.le2 (LeV.nil 1) (LeV.refl _)
    refine zgo ?_; repeat' first | exact zt | apply zan | intro hc
    all_goals first | (refine ads (xs := [V.str x]) _ _ rfl ?_ ?_ <;> first | rfl | (simp; done)) | trace_state
end Av
end
