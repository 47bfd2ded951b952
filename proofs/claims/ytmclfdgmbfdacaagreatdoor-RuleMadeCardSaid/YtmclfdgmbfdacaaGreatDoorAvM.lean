/- Functions that are lent one variable: their contracts, calls by them, their ends. -/
import Derived.Test.YtmclfdgmbfdacaaGreatDoorAv3
set_option linter.unusedVariables false
set_option linter.unusedSimpArgs false
section
namespace Av
open Go
structure EvD (Γ : Env) (f : FuncId) (args : List V) (cs : List V) (res : V) (cs2 : List V) : Prop where
  ev : Ev Γ f (.ptr 0 0 :: args) [.box true cs] res [.box true cs2]
  cl : res.closed
  c1 : Qq cs
  c2 : Qq cs2
def VQ : List V → List Nat
  | [] => []
  | .hd a _ _ :: r => a :: VQ r
  | .ptr a _ :: r => a :: VQ r
  | _ :: r => VQ r
mutual
theorem ads (o : Nat → Option Ob) (br l : List Nat) (hb : ∀ x ∈ l, x ∉ br) : ∀ v : V, v.shutOk0 o (some l) → conv o br (some l) v (v.shut0 o)
  | .top, _ => by simp [V.shut0, conv]
  | .sc _, _ => by simp [V.shut0, conv]
  | .nn, _ => by simp [V.shut0, conv]
  | .sl _ _, _ => by simp [V.shut0, conv]
  | .ro _ _, _ => by simp [V.shut0, conv]
  | .ept _ _ _, _ => by simp [V.shut0, conv]
  | .hd a off len, h => by
    obtain ⟨h1, wr, s, xs, h2⟩ := h
    simp only [V.shut0, h2, conv]
    exact ⟨h1, hb a h1, .inl ⟨wr, xs, rfl, rfl⟩⟩
  | .ptr a off, h => by
    obtain ⟨h1, wr, cs, h2, h3⟩ := h
    simp only [V.shut0, h2, conv]
    exact ⟨h1, hb a h1, trivial, h3, wr, cs, rfl, J1 _ _ _ _ h3⟩
  | .agg cs, h => by simp only [V.shut0, conv]; exact UG o br l hb cs h
  | .tup cs, h => by simp only [V.shut0, conv]; exact UG o br l hb cs h
  | .clo f cs, h => by simp only [V.shut0, conv]; exact ⟨trivial, UG o br l hb cs h⟩
theorem UG (o : Nat → Option Ob) (br l : List Nat) (hb : ∀ x ∈ l, x ∉ br) : ∀ cs : List V, KT o (some l) cs → Yo o br (some l) cs (jL o cs)
  | [], _ => trivial
  | v :: r, h => ⟨ads o br l hb v h.1, UG o br l hb r h.2⟩
end
mutual
theorem aeI (o : Nat → Option Ob) (br l : List Nat) (hb : ∀ x ∈ l, x ∉ br) : ∀ v : V, v.shutOk o (some l) → conv o br (some l) v (v.shut o)
  | .top, _ => by simp [V.shut, conv]
  | .sc _, _ => by simp [V.shut, conv]
  | .nn, _ => by simp [V.shut, conv]
  | .sl _ _, _ => by simp [V.shut, conv]
  | .ro _ _, _ => by simp [V.shut, conv]
  | .ept _ _ _, _ => by simp [V.shut, conv]
  | .hd a off len, h => by
    obtain ⟨h1, h2⟩ := h
    unfold aic at h2
    split at h2
    · rename_i wr s xs h3
      simp only [V.shut, h3, conv]
      exact ⟨h1, hb a h1, .inl ⟨wr, xs, rfl, rfl⟩⟩
    · rename_i wr s xs h3
      simp only [V.shut, h3, conv]
      exact ⟨h1, hb a h1, .inr ⟨wr, xs, rfl, UG _ _ _ hb _ h2.1, h2.2, W4 _ _⟩⟩
    · exact h2.elim
  | .ptr a off, h => by
    obtain ⟨h1, wr, cs, h2, h3⟩ := h
    simp only [V.shut, h2, conv]
    exact ⟨h1, hb a h1, trivial, h3, wr, cs, rfl, J1 _ _ _ _ h3⟩
  | .agg cs, h => by simp only [V.shut, conv]; exact VA o br l hb cs h
  | .tup cs, h => by simp only [V.shut, conv]; exact VA o br l hb cs h
  | .clo f cs, h => by simp only [V.shut, conv]; exact ⟨trivial, VA o br l hb cs h⟩
theorem VA (o : Nat → Option Ob) (br l : List Nat) (hb : ∀ x ∈ l, x ∉ br) : ∀ cs : List V, Yp o (some l) cs → Yo o br (some l) cs (X7 o cs)
  | [], _ => trivial
  | v :: r, h => ⟨aeI o br l hb v h.1, VA o br l hb r h.2⟩
end
section
variable {Γ : Env} {b : Nat} {r : List AO} {s : St} {d : Option Nat} {f : FuncId} {acts : List V} {res : V} {K : St → Prop} {cs cs2 : List V} {a : Nat}
theorem ajs (l : List Nat) (ha : s.o a = some (.box true cs)) (h : EvD Γ f (X7 s.o acts) cs res cs2) (hc : Yp s.o (some l) acts) (hal : a ∉ l) (hab : a < b)
    (hk : XV Γ (b + KK) r { t := (s.put d res).t, o := upd (wl (some l) [a] s.o) a (some (.box true cs2)), n := s.n } K) : awC Γ b r s d f (.ptr a 0 :: acts) K := by
  refine XE ⟨_, _, _, _, [a], some l, h.ev, ⟨?_, VA s.o [a] l ?_ acts hc⟩, ⟨⟨_, ha, J1 _ _ _ _ h.c1⟩, trivial⟩, by simp, by simpa using hab, Nat.le_refl _, by simp [KK], fun h => by simp at h, ?_⟩
  · simp [conv]
  · intro x hx hxa
    simp only [List.mem_singleton] at hxa
    subst hxa; exact hal hx
  · rw [Qm _ _ h.cl]
    simp only [X4, XX, Ob.ren, Qd _ _ h.c2]
    exact hk
theorem aiR (ha : s.o a = some (.box true cs)) (h : EvD Γ f (X7 s.o acts) cs res cs2) (hc : Yp s.o (some (VQ acts)) acts) (hal : a ∉ VQ acts) (hab : a < b)
    (hk : XV Γ (b + KK) r { t := (s.put d res).t, o := upd (wl (some (VQ acts)) [a] s.o) a (some (.box true cs2)), n := s.n } K) : awC Γ b r s d f (.ptr a 0 :: acts) K := ajs _ ha h hc hal hab hk
theorem Yd {x : V} {args : List V} {okf : Option (List Nat) → Prop} (ha : s.o a = some (.box true cs)) (h : EvD Γ f args cs res cs2) (hal : (VQ acts).contains a = false) (hab : decide (a < b) = true) (hc : Yp s.o (some (VQ acts)) acts)
    (hk : XV Γ (b + KK) r { t := (s.put d res).t, o := upd (wl (some (VQ acts)) [a] s.o) a (some (.box true cs2)), n := s.n } K) : acV Γ b r s d f (.ptr a 0 :: acts) (x :: args) okf K := by
  intro h1 _
  simp only [X7, List.cons.injEq] at h1
  obtain ⟨_, rfl⟩ := h1
  exact aiR ha h hc (by simpa using hal) (of_decide_eq_true hab) hk
theorem adb {br : List Nat} {o : Nat → Option Ob} : wl (some []) br o = o := by
  funext n; simp [wl]
theorem ajF {x a n : Nat} {o : Nat → Option Ob} : wl (some [x]) [a] o n = if n = x then (if x = a then o n else (o n).map Ob.frz) else o n := by
  simp only [wl, List.mem_singleton]
  by_cases h1 : n = x
  · subst h1
    by_cases h2 : n = a <;> simp [h2]
  · simp [h1]
end
theorem WO {Γ : Env} {f : FuncId} {nt : Nat} {ac : AC} {rs : List XY} (hb : Has Γ.P f nt ac rs) {args cs cs2 : List V} {res : V} (ha : args.length + 1 ≤ nt) (hr : res.closed) (h1 : Qq cs) (h2 : Qq cs2)
    (h : ∀ C : Ctx, C.env = Γ → C.m = 1 → AWp C nt ac (Wn (.ptr 0 0 :: args) [.box true cs]) (yC 1 rs res [.box true cs2]) (fun _ _ => False) (yC 1 rs res [.box true cs2])) : EvD Γ f args cs res cs2 :=
  ⟨X0 hb (by simpa using ha) h, hr, h1, h2⟩
theorem WP {rs : List XY} {res : V} {s : St} {cs2 : List V} (vs : List V) (h : xk s rs = some vs) (ho : s.o 0 = some (.box true cs2)) (h2 : Qq cs2) (hc : conv s.o [0] none (acU vs) res) : yC 1 rs res [.box true cs2] s :=
  VY rs vs _ h ⟨[0], none, hc, ⟨⟨_, ho, fun h => h, J1 _ _ _ _ h2⟩, trivial⟩, by simp, rfl⟩
structure EvR (Γ : Env) (f : FuncId) (args : List V) (cs : List V) : Prop where
  ev : Ev Γ f args [] (.ptr 0 0) [.box true cs]
  c1 : Qq cs
theorem ajo {Γ : Env} {b : Nat} {r : List AO} {s : St} {d : Option Nat} {f : FuncId} {acts cs : List V} {K : St → Prop} (h : EvR Γ f (X7 s.o acts) cs) (hc : Yp s.o (some (VQ acts)) acts)
    (hk : XV Γ (b + KK) r { t := (s.put d (.ptr b 0)).t, o := upd (wl (some (VQ acts)) [] s.o) b (some (.box true cs)), n := s.n } K) : awC Γ b r s d f acts K := by
  refine XE ⟨_, _, _, _, [], some (VQ acts), h.ev, X9 _ _ _ hc, trivial, List.nodup_nil, fun x hx => by simp at hx, by simp, by simp [KK], fun h => by simp at h, ?_⟩
  simp only [X4, XX, Ob.ren, Qd _ _ h.c1, V.ren, sig]
  exact hk
theorem VF {Γ : Env} {b : Nat} {r : List AO} {s : St} {d : Option Nat} {f : FuncId} {acts args cs : List V} {K : St → Prop} {okf : Option (List Nat) → Prop} (h : EvR Γ f args cs) (hc : okf (some (VQ acts)))
    (hk : XV Γ (b + KK) r { t := (s.put d (.ptr b 0)).t, o := upd (wl (some (VQ acts)) [] s.o) b (some (.box true cs)), n := s.n } K) : acV Γ b r s d f acts args okf K := by
  rintro rfl rfl; exact ajo h hc hk
theorem adl {Γ : Env} {f : FuncId} {nt : Nat} {ac : AC} {rs : List XY} (hb : Has Γ.P f nt ac rs) {args cs : List V} (ha : args.length ≤ nt) (h1 : Qq cs)
    (h : ∀ C : Ctx, C.env = Γ → C.m = 0 → AWp C nt ac (Wn args []) (yC 0 rs (.ptr 0 0) [.box true cs]) (fun _ _ => False) (yC 0 rs (.ptr 0 0) [.box true cs])) : EvR Γ f args cs :=
  ⟨X0 hb ha h, h1⟩
theorem aiz {rs : List XY} {s : St} {cs : List V} (a : Nat) (h : xk s rs = some [.ptr a 0]) (ho : s.o a = some (.box true cs)) (h2 : Qq cs) : yC 0 rs (.ptr 0 0) [.box true cs] s :=
  VY rs _ _ h ⟨[a], none, by simp [acU, conv], ⟨⟨_, ho, fun h => h, J1 _ _ _ _ h2⟩, trivial⟩, by simp, rfl⟩
attribute [go_sem] adb ajF VQ Ob.frz
end Av
end
section
namespace Av
open Go
structure EvW (Γ : Env) (f : FuncId) (args : List V) (sz : Nat) (xs : List V) : Prop where
  ev : Ev Γ f args [] (.hd 0 0 xs.length) [.buf true sz xs]
  ns : ∀ x ∈ xs, x.noSl
theorem acf (l : List Int) : ∀ x ∈ l.map V.int, x.noSl := by
  intro x hx; simp only [List.mem_map] at hx; obtain ⟨y, _, rfl⟩ := hx; simp only [V.noSl]
theorem abO (l : List (List UInt8)) : ∀ x ∈ l.map V.str, x.noSl := by
  intro x hx; simp only [List.mem_map] at hx; obtain ⟨y, _, rfl⟩ := hx; simp only [V.noSl]
theorem ajm {Γ : Env} {b : Nat} {r : List AO} {s : St} {d : Option Nat} {f : FuncId} {acts xs : List V} {sz : Nat} {K : St → Prop} (h : EvW Γ f (X7 s.o acts) sz xs) (hc : Yp s.o none acts)
    (hk : XV Γ (b + KK) r { t := (s.put d (.hd b 0 xs.length)).t, o := upd s.o b (some (.buf true sz xs)), n := s.n } K) : awC Γ b r s d f acts K := by
  refine XE ⟨_, _, _, _, [], none, h.ev, X9 _ _ _ hc, trivial, List.nodup_nil, fun x hx => by simp at hx, by simp, by simp [KK], fun _ => ⟨by simp only [V.noSl], fun x hx => ?_⟩, ?_⟩
  · simp only [List.mem_singleton] at hx; subst hx; exact h.ns
  · simp only [X4, XX, Ob.ren, V.ren, sig]
    exact hk
theorem aiT {Γ : Env} {A W : Nat → Bool} {b : Nat} {s : St} {d : Option Nat} {f : FuncId} {acts xs : List V} {sz : Nat} {J : St → Prop} (h : EvW Γ f (X7 (XF A s.o) acts) sz xs) (hc : Yp (XF A s.o) none acts)
    (hk : J { t := (s.put d (.hd b 0 xs.length)).t, o := upd s.o b (some (.buf true sz xs)), n := s.n }) : Jq Γ A W b s d f acts J := by
  refine ⟨_, _, _, _, [], none, h.ev, X9 _ _ _ hc, trivial, List.nodup_nil, fun x hx => by simp at hx, by simp, by simp [KK], fun _ => ⟨by simp only [V.noSl], fun x hx => ?_⟩, fun l h => by simp at h, ?_⟩
  · simp only [List.mem_singleton] at hx; subst hx; exact h.ns
  · simp only [X4, XX, Ob.ren, V.ren, sig]
    exact hk
theorem YR {Γ : Env} {b : Nat} {r : List AO} {s : St} {d : Option Nat} {f : FuncId} {acts args xs : List V} {sz : Nat} {K : St → Prop} {okf : Option (List Nat) → Prop} (h : EvW Γ f args sz xs) (hc : okf none)
    (hk : XV Γ (b + KK) r { t := (s.put d (.hd b 0 xs.length)).t, o := upd s.o b (some (.buf true sz xs)), n := s.n } K) : acV Γ b r s d f acts args okf K := by
  rintro rfl rfl; exact ajm h hc hk
theorem Ys {Γ : Env} {A W : Nat → Bool} {b : Nat} {s : St} {d : Option Nat} {f : FuncId} {acts args xs : List V} {sz : Nat} {J : St → Prop} {okf : Option (List Nat) → Prop} (h : EvW Γ f args sz xs) (hc : okf none)
    (hk : J { t := (s.put d (.hd b 0 xs.length)).t, o := upd s.o b (some (.buf true sz xs)), n := s.n }) : adx Γ A W b s d f acts args okf J := by
  rintro rfl rfl; exact aiT h hc hk
theorem vL {Γ : Env} {f : FuncId} {nt : Nat} {ac : AC} {rs : List XY} (hb : Has Γ.P f nt ac rs) {args xs : List V} {sz : Nat} (ha : args.length ≤ nt) (hn : ∀ x ∈ xs, x.noSl)
    (h : ∀ C : Ctx, C.env = Γ → C.m = 0 → AWp C nt ac (Wn args []) (yC 0 rs (.hd 0 0 xs.length) [.buf true sz xs]) (fun _ _ => False) (yC 0 rs (.hd 0 0 xs.length) [.buf true sz xs])) : EvW Γ f args sz xs :=
  ⟨X0 hb ha h, hn⟩
theorem ahm {rs : List XY} {s : St} {xs : List V} {sz : Nat} (a n : Nat) (h : xk s rs = some [.hd a 0 n]) (hn : n = xs.length) (ho : s.o a = some (.buf true sz xs)) : yC 0 rs (.hd 0 0 xs.length) [.buf true sz xs] s := by
  subst hn
  exact VY rs _ _ h ⟨[a], none, by simp [acU, conv], ⟨⟨_, ho, fun h => h, rfl, rfl⟩, trivial⟩, by simp, rfl⟩
end Av
end
section
namespace Av
open Go
section
variable {C : Ctx} {nt : Nat} {s : St} {K : St → Prop} {E : Nat → St → Prop} {R : St → Prop}
end
end Av
end
section
namespace Av
open Go
theorem Good.move {C : Ctx} {w : World} {Z : Nat → Nat → Prop} {μ : Nat → Option Cn} {o : Nat → Option Ob} (h : Good C w Z μ o) {x i a n off len sz : Nat} {wr wr2 : Bool} {cells xs : List V} {c : Cn}
    (ho : o x = some (.box wr cells)) (hi : cells[i]? = some (.hd a off len)) (ha : o a = some (.buf wr2 sz xs)) (hc : μ a = some c) (hn : μ n = none) (hm : C.m ≤ n) :
    Good C w Z (upd μ n (some c)) (upd (upd (upd o a (some .dead)) x (some (.box wr (cells.set i (.hd n off len))))) n (some (.buf wr2 sz xs))) := by
  have hon := h.free hn
  have hxn : x ≠ n := by rintro rfl; rw [hon] at ho; cases ho
  have han : a ≠ n := by rintro rfl; rw [hon] at ha; cases ha
  have hxa : x ≠ a := by rintro rfl; rw [ho] at ha; cases ha
  have hmu := qI (c := c) hn
  have old : ∀ b y, upd (upd (upd o a (some .dead)) x (some (.box wr (cells.set i (.hd n off len))))) n (some (.buf wr2 sz xs)) b = some y →
      (b = a ∧ y = .dead) ∨ ∃ z d, o (if b = n then a else b) = some z ∧ μ (if b = n then a else b) = some d ∧ upd μ n (some c) b = some d ∧ (y.live d ↔ z.live d) ∧ yD w Z (upd μ n (some c)) d y ∧ (z.live d → d.block < w.heap.size ∧ (C.w0.heap.size ≤ d.block ∨ C.F d.block)) ∧ (b ≠ a) := by
    intro b y hy
    by_cases hbn : b = n
    · subst hbn
      rw [Ja] at hy; cases hy
      obtain ⟨d, hd, hok, hl⟩ := h.ob _ _ ha
      rw [hc] at hd; cases hd
      exact .inr ⟨_, c, by rw [if_pos rfl]; exact ha, by rw [if_pos rfl]; exact hc, Ja _ _ _, Iff.rfl, hok.mono (fun _ _ _ => rfl) (fun _ _ h => h) hmu (fun _ => rfl) (fun _ _ h => h), hl, fun e => han e.symm⟩
    · rw [Yn _ _ hbn] at hy
      rw [if_neg hbn, Yn _ _ hbn]
      by_cases hbx : b = x
      · subst hbx
        rw [Ja] at hy; cases hy
        obtain ⟨d, hd, ⟨h1, ⟨cs, ty, h2, h3, h4⟩, h5⟩, hl⟩ := h.ob _ _ ho
        refine .inr ⟨_, d, ho, hd, hd, Iff.rfl, ⟨h1, ⟨cs, ty, h2, by simpa using h3, fun j hj hj' => ?_⟩, h5⟩, hl, hxa⟩
        have hj2 : j < cells.length := by simpa using hj
        have h6 := h4 j hj2 hj'
        refine ⟨?_, h6.2⟩
        by_cases hji : j = i
        · subst hji
          rw [List.getElem_set_self]
          have h7 : cells[j] = .hd a off len := by rw [List.getElem?_eq_getElem hj2] at hi; exact Option.some.inj hi
          have h8 := h6.1
          rw [h7] at h8
          generalize cs[j] = v at h8
          cases h8
          rename_i c' hc' hv
          rw [hc] at hc'; cases hc'
          exact .hd (Ja _ _ _) hv
        · rw [List.getElem_set_ne (fun e => hji e.symm)]
          exact h6.1.mono (fun _ _ _ => rfl) (fun _ _ h => h) hmu
      · rw [Yn _ _ hbx] at hy
        by_cases hba : b = a
        · subst hba
          rw [Ja] at hy; cases hy
          exact .inl ⟨rfl, rfl⟩
        · rw [Yn _ _ hba] at hy
          obtain ⟨d, hd, hok, hl⟩ := h.ob b y hy
          exact .inr ⟨y, d, hy, hd, hd, Iff.rfl, hok.mono (fun _ _ _ => rfl) (fun _ _ h => h) hmu (fun _ => rfl) (fun _ _ h => h), hl, hba⟩
  refine ⟨fun b y hy => ?_, fun b d y z e f hbd hy hz he hf lb ld => ?_, h.zlt, h.grow, h.frame, h.zsub, h.zsup, h.zkeep, fun k hk => ?_, h.oo⟩
  · rcases old b y hy with ⟨rfl, rfl⟩ | ⟨z, d, h1, h2, h3, h4, h5, h6, _⟩
    · exact ⟨c, hmu _ _ hc, trivial, fun hl => hl.elim⟩
    · exact ⟨d, h3, h5, fun hl => h6 (h4.1 hl)⟩
  · rcases old b y hy with ⟨rfl, rfl⟩ | ⟨y', e', h1, h2, h3, h4, _, _, h7⟩
    · exact lb.elim
    · rcases old d z hz with ⟨rfl, rfl⟩ | ⟨z', f', g1, g2, g3, g4, _, _, g7⟩
      · exact ld.elim
      · rw [he] at h3; cases h3
        rw [hf] at g3; cases g3
        refine h.sep _ _ y' z' _ _ ?_ h1 g1 h2 g2 (h4.1 lb) (g4.1 ld)
        by_cases hbn : b = n
        · subst hbn
          rw [if_pos rfl, if_neg (fun e => hbd e.symm)]
          exact fun e => g7 e.symm
        · rw [if_neg hbn]
          by_cases hdn : d = n
          · subst hdn; rw [if_pos rfl]; exact h7
          · rw [if_neg hdn]; exact hbd
  · rw [Yn _ _ (by omega)]; exact h.fix k hk
section
variable {C : Ctx} {nt : Nat} {s : St} {K : St → Prop} {E : Nat → St → Prop} {R : St → Prop}
theorem abG {c : AC} (x i a : Nat) {off len sz : Nat} {wr wr2 : Bool} {cells xs : List V} (ho : s.o x = some (.box wr cells)) (hi : cells[i]? = some (.hd a off len)) (ha : s.o a = some (.buf wr2 sz xs))
    (h : AWp C nt c { t := s.t, o := upd (upd (upd s.o a (some .dead)) x (some (.box wr (cells.set i (.hd s.n off len))))) s.n (some (.buf wr2 sz xs)), n := s.n + 1 } K E R) : AWp C nt c s K E R := by
  intro code hc u w hs
  obtain ⟨Z, μ, hg, ht, hf, hm, hd, hn⟩ := hs
  obtain ⟨d, hmu, _⟩ := hg.ob _ _ ha
  refine h code hc u w ⟨Z, _, hg.move ho hi ha hmu (hf _ (Nat.le_refl _)) hm, fun j => (ht j).mono (fun _ _ _ => rfl) (fun _ _ h => h) (qI (hf _ (Nat.le_refl _))), fun y hy => ?_, by show C.m ≤ s.n + 1; omega, hd, hn⟩
  have hy2 : s.n + 1 ≤ y := hy
  rw [Yn _ _ (by omega)]
  exact hf y (by omega)
end
def aie (i j : Nat) (xs ys : List V) : Ob := .box true [.hd i 0 xs.length, .hd j 0 ys.length]
structure EvT (Γ : Env) (f : FuncId) (args : List V) (sx sy : Nat) (xs ys : List V) (res : V) (xs2 ys2 : List V) : Prop where
  ev : Ev Γ f (.ptr 0 0 :: args) [aie 1 2 xs ys, .buf true sx xs, .buf true sy ys] res [aie 3 4 xs2 ys2, .dead, .dead, .buf true sx xs2, .buf true sy ys2]
  cl : res.closed
theorem ajn {Γ : Env} {b : Nat} {r : List AO} {s : St} {d : Option Nat} {f : FuncId} {acts : List V} {res : V} {K : St → Prop} {a p q sx sy n m : Nat} {xs ys xs2 ys2 : List V}
    (ha : s.o a = some (.box true [.hd p 0 n, .hd q 0 m])) (hp : s.o p = some (.buf true sx xs)) (hq : s.o q = some (.buf true sy ys))
    (h : EvT Γ f (X7 s.o acts) sx sy xs ys res xs2 ys2) (hn : n = xs.length) (hm : m = ys.length) (hc : Yp s.o (some []) acts) (h1 : a ≠ p) (h2 : a ≠ q) (h3 : p ≠ q) (hab : a < b) (hpb : p < b) (hqb : q < b)
    (hk : XV Γ (b + KK) r { t := (s.put d res).t, o := upd (upd (upd (upd (upd s.o (b + 1) (some (.buf true sy ys2))) b (some (.buf true sx xs2))) q (some .dead)) p (some .dead)) a (some (.box true [.hd b 0 xs2.length, .hd (b + 1) 0 ys2.length])), n := s.n } K) : awC Γ b r s d f (.ptr a 0 :: acts) K := by
  subst hn; subst hm
  refine XE ⟨_, _, _, _, [a, p, q], some [], h.ev, ⟨?_, VA s.o [a, p, q] [] (fun x hx => by cases hx) acts hc⟩, ⟨⟨_, ha, ?_⟩, ⟨_, hp, rfl, rfl⟩, ⟨_, hq, rfl, rfl⟩, trivial⟩, by simp [h1, h2, h3], ?_, by simp, by simp [KK], fun h => by simp at h, ?_⟩
  · simp [conv]
  · show Yo _ _ _ _ _
    simp [Yo, conv]
  · intro x hx
    simp only [List.mem_cons, List.not_mem_nil, or_false] at hx
    rcases hx with rfl | rfl | rfl <;> assumption
  · rw [Qm _ _ h.cl]
    simp only [X4, XX, Ob.ren, aie, KR, V.ren, sig, adb]
    exact hk
theorem qN {Γ : Env} {b : Nat} {r : List AO} {s : St} {d : Option Nat} {f : FuncId} {x : V} {acts args : List V} {okf : Option (List Nat) → Prop} {res : V} {K : St → Prop} {a p q sx sy n m : Nat} {xs ys xs2 ys2 : List V}
    (ha : s.o a = some (.box true [.hd p 0 n, .hd q 0 m])) (hp : s.o p = some (.buf true sx xs)) (hq : s.o q = some (.buf true sy ys)) (h : EvT Γ f args sx sy xs ys res xs2 ys2)
    (hd : (decide (a ≠ p ∧ a ≠ q ∧ p ≠ q ∧ a < b ∧ p < b ∧ q < b)) = true) (hn : n = xs.length) (hm : m = ys.length) (hc : Yp s.o (some []) acts)
    (hk : XV Γ (b + KK) r { t := (s.put d res).t, o := upd (upd (upd (upd (upd s.o (b + 1) (some (.buf true sy ys2))) b (some (.buf true sx xs2))) q (some .dead)) p (some .dead)) a (some (.box true [.hd b 0 xs2.length, .hd (b + 1) 0 ys2.length])), n := s.n } K) : acV Γ b r s d f (.ptr a 0 :: acts) (x :: args) okf K := by
  intro h1 _
  simp only [X7, List.cons.injEq] at h1
  obtain ⟨_, rfl⟩ := h1
  obtain ⟨e1, e2, e3, e4, e5, e6⟩ := of_decide_eq_true hd
  exact ajn ha hp hq h hn hm hc e1 e2 e3 e4 e5 e6 hk
theorem adk {Γ : Env} {f : FuncId} {nt : Nat} {ac : AC} {rs : List XY} (hb : Has Γ.P f nt ac rs) {args xs ys xs2 ys2 : List V} {sx sy : Nat} {res : V} (ha : args.length + 1 ≤ nt) (hr : res.closed)
    (h : ∀ C : Ctx, C.env = Γ → C.m = 3 → AWp C nt ac { t := (Wn (.ptr 0 0 :: args) []).t, o := wx [(0, .box true [.hd 3 0 xs.length, .hd 4 0 ys.length]), (1, .dead), (2, .dead), (3, .buf true sx xs), (4, .buf true sy ys)], n := 5 }
      (yC 3 rs res [aie 3 4 xs2 ys2, .dead, .dead, .buf true sx xs2, .buf true sy ys2]) (fun _ _ => False) (yC 3 rs res [aie 3 4 xs2 ys2, .dead, .dead, .buf true sx xs2, .buf true sy ys2])) : EvT Γ f args sx sy xs ys res xs2 ys2 := by
  refine ⟨X0 hb (by simpa using ha) fun C hC hm => ?_, hr⟩
  refine abG 0 0 1 (by rfl) (by rfl) (by rfl) ?_
  refine abG 0 1 2 (by rfl) (by rfl) (by rfl) ?_
  have e := h C hC hm
  refine (congrArg (fun s => AWp C nt ac s _ _ _) ?_).mp e
  congr 1
  funext k
  match k with
  | 0 => rfl
  | 1 => rfl
  | 2 => rfl
  | 3 => rfl
  | 4 => rfl
  | k + 5 => simp [upd, wx, Wn]
theorem afQ {rs : List XY} {res : V} {s : St} {xs ys xs' ys' : List V} {sx sy : Nat} (i j n m : Nat) (vs : List V) (h : xk s rs = some vs) (hc : conv s.o [0, 1, 2, i, j] none (acU vs) res)
    (h0 : s.o 0 = some (.box true [.hd i 0 n, .hd j 0 m])) (hi : s.o i = some (.buf true sx xs')) (hj : s.o j = some (.buf true sy ys'))
    (hi3 : 3 ≤ i) (hj3 : 3 ≤ j) (hij : i ≠ j) (h1 : ∃ x, s.o 1 = some x) (h2 : ∃ x, s.o 2 = some x) (hx : xs' = xs) (hy : ys' = ys) (hn : n = xs.length) (hm : m = ys.length) : yC 3 rs res [aie 3 4 xs ys, .dead, .dead, .buf true sx xs, .buf true sy ys] s := by
  subst hn; subst hm; subst hx; subst hy
  obtain ⟨x1, e1⟩ := h1
  obtain ⟨x2, e2⟩ := h2
  refine VY rs vs _ h ⟨[0, 1, 2, i, j], none, hc, ⟨⟨_, h0, fun h => h, ?_⟩, ⟨_, e1, ?_⟩, ⟨_, e2, ?_⟩, ⟨_, hi, fun h => h, rfl, rfl⟩, ⟨_, hj, fun h => h, rfl, rfl⟩, trivial⟩, ?_, rfl⟩
  · simp [Yo, conv]
  · simp [af8]
  · simp [af8]
  · simp; omega
end Av
end
section
namespace Av
open Go
@[go_sem] theorem ahV (l : List Int) : (∀ y ∈ l.map V.int, y.cells.length = 1) = True := eq_true (by intro y hy; simp only [List.mem_map] at hy; obtain ⟨x, _, rfl⟩ := hy; rfl)
@[go_sem] theorem ahU (l : List (List UInt8)) : (∀ y ∈ l.map V.str, y.cells.length = 1) = True := eq_true (by intro y hy; simp only [List.mem_map] at hy; obtain ⟨x, _, rfl⟩ := hy; rfl)
end Av
end
section
namespace Av
open Go
end Av
end
section
namespace Av
open Go
def LeV (x y : V) : Prop := ∀ (w : World) (Z : Nat → Nat → Prop) (μ : Nat → Option Cn) (v : Value), Rep w Z μ v x → Rep w Z μ v y
theorem LeV.refl (x : V) : LeV x x := fun _ _ _ _ h => h
theorem LeV.nil (sz : Nat) : LeV (.sc (.slice none 0 0)) (.sl sz []) := fun _ _ _ _ h => by cases h; exact .sl0
theorem LeV.agg {xs ys : List V} (hl : xs.length = ys.length) (h : ∀ j (h1 : j < xs.length) (h2 : j < ys.length), LeV xs[j] ys[j]) : LeV (.agg xs) (.agg ys) := fun w Z μ v hv => by
  cases hv with
  | agg h1 h2 h3 => exact .agg (h1.trans hl) h2 fun j hj hj' => h j (by omega) hj _ _ _ _ (h3 j (by omega) hj')
theorem EvB.le {Γ : Env} {f : FuncId} {args args' : List V} {res : V} {B : Option (List Nat)} (h : EvB Γ f args res B) (hl : args'.length = args.length)
    (hr : ∀ i (h1 : i < args'.length) (h2 : i < args.length), LeV args'[i] args[i]) : EvB Γ f args' res B :=
  ⟨fun C cargs h1 h2 h3 h4 h5 h6 h7 => h.ev C cargs h1 h2 h3 h4 h5 (h6.trans hl) fun i hi hi' => hr i (by omega) hi _ _ _ _ (h7 i (by omega) hi'), h.cl, h.sh⟩
section
variable {Γ : Env} {A W : Nat → Bool} {b : Nat} {s : St} {d : Option Nat} {f : FuncId} {acts : List V} {res : V} {J : St → Prop} {cs cs2 : List V} {a : Nat}
theorem aiV (l : List Nat) (hA : A a = true) (hW : W a = true) (ha : s.o a = some (.box true cs)) (h : EvD Γ f (X7 (XF A s.o) acts) cs res cs2) (hc : Yp (XF A s.o) (some l) acts) (hal : a ∉ l) (hl : ∀ x ∈ l, A x = true ∧ W x = true) (hab : a < b)
    (hk : J { t := (s.put d res).t, o := upd (wl (some l) [a] s.o) a (some (.box true cs2)), n := s.n }) : Jq Γ A W b s d f (.ptr a 0 :: acts) J := by
  have hra : XF A s.o a = some (.box true cs) := by rw [aaH, if_pos hA, ha]
  refine ⟨_, _, _, _, [a], some l, h.ev, ⟨?_, VA _ [a] l ?_ acts hc⟩, ⟨⟨_, hra, J1 _ _ _ _ h.c1⟩, trivial⟩, by simp, by simpa using ⟨hab, hW⟩, Nat.le_refl _, by simp [KK], fun h => by simp at h, fun l' hl' => by cases hl'; exact hl, ?_⟩
  · simp [conv]
  · intro x hx hxa
    simp only [List.mem_singleton] at hxa
    subst hxa; exact hal hx
  · rw [Qm _ _ h.cl]
    simp only [X4, XX, Ob.ren, Qd _ _ h.c2]
    exact hk
theorem JP {x : V} {args : List V} {okf : Option (List Nat) → Prop} (ha : s.o a = some (.box true cs)) (hA : A a = true) (hW : W a = true) (h : EvD Γ f args cs res cs2) (hal : (VQ acts).contains a = false) (hab : decide (a < b) = true) (hl : ((VQ acts).all fun x => A x && W x) = true) (hc : Yp (XF A s.o) (some (VQ acts)) acts)
    (hk : J { t := (s.put d res).t, o := upd (wl (some (VQ acts)) [a] s.o) a (some (.box true cs2)), n := s.n }) : adx Γ A W b s d f (.ptr a 0 :: acts) (x :: args) okf J := by
  intro h1 _
  simp only [X7, List.cons.injEq] at h1
  obtain ⟨_, rfl⟩ := h1
  exact aiV _ hA hW ha h hc (by simpa using hal) (fun x hx => by simpa using List.all_eq_true.1 hl x hx) (of_decide_eq_true hab) hk
end
end Av
end
section
namespace Av
open Go
structure EvM (Γ : Env) (f g : FuncId) (cs : List V) (res : V) (cs2 : List V) : Prop where
  ev : Ev Γ f [.clo (.m g) [.ptr 0 0]] [.box true cs] res [.box true cs2]
  cl : res.closed
  c1 : Qq cs
  c2 : Qq cs2
structure EvQ (Γ : Env) (f : FuncId) (x : V) (off : Nat) (g : FuncId) (cs ds : List V) (res : V) (cs2 ds2 : List V) : Prop where
  ev : Ev Γ f [.ptr 0 0, x, .ptr 1 off, .clo (.n g) []] [.box true cs, .box true ds] res [.box true cs2, .box true ds2]
  cl : res.closed
  hx : x.closed
  c1 : Qq cs
  d1 : Qq ds
  c2 : Qq cs2
  d2 : Qq ds2
section
variable {Γ : Env} {b : Nat} {r : List AO} {s : St} {d : Option Nat} {f g : FuncId} {acts args : List V} {okf : Option (List Nat) → Prop} {res x : V} {K : St → Prop} {cs cs2 ds ds2 : List V} {a e off : Nat}
theorem ajr (ha : s.o a = some (.box true cs)) (h : EvM Γ f g cs res cs2) (hab : a < b)
    (hk : XV Γ (b + KK) r { t := (s.put d res).t, o := upd s.o a (some (.box true cs2)), n := s.n } K) : awC Γ b r s d f [.clo (.m g) [.ptr a 0]] K := by
  refine XE ⟨_, _, _, _, [a], some [], h.ev, ⟨?_, trivial⟩, ⟨⟨_, ha, J1 _ _ _ _ h.c1⟩, trivial⟩, by simp, by simpa using hab, Nat.le_refl _, by simp [KK], fun h => by simp at h, ?_⟩
  · simp [conv, Yo]
  · rw [Qm _ _ h.cl]
    simp only [X4, XX, Ob.ren, Qd _ _ h.c2, adb]
    exact hk
theorem UH (ha : s.o a = some (.box true cs)) (h : EvM Γ f g cs res cs2) (hab : decide (a < b) = true)
    (hk : XV Γ (b + KK) r { t := (s.put d res).t, o := upd s.o a (some (.box true cs2)), n := s.n } K) : acV Γ b r s d f [.clo (.m g) [.ptr a 0]] args okf K :=
  fun _ _ => ajr ha h (of_decide_eq_true hab) hk
theorem ajp (ha : s.o a = some (.box true cs)) (he : s.o e = some (.box true ds)) (h : EvQ Γ f x off g cs ds res cs2 ds2) (hae : a ≠ e) (hab : a < b) (heb : e < b)
    (hk : XV Γ (b + KK) r { t := (s.put d res).t, o := upd (upd s.o e (some (.box true ds2))) a (some (.box true cs2)), n := s.n } K) : awC Γ b r s d f [.ptr a 0, x, .ptr e off, .clo (.n g) []] K := by
  refine XE ⟨_, _, _, _, [a, e], some [], h.ev, ⟨?_, vN _ _ _ _ h.hx, ?_, ?_, trivial⟩, ⟨⟨_, ha, J1 _ _ _ _ h.c1⟩, ⟨_, he, J1 _ _ _ _ h.d1⟩, trivial⟩, by simpa using hae, ?_, Nat.le_refl _, by simp [KK], fun h => by simp at h, ?_⟩
  · simp [conv]
  · simp [conv]
  · simp [conv, Yo]
  · intro y hy
    simp only [List.mem_cons, List.not_mem_nil, or_false] at hy
    rcases hy with rfl | rfl <;> assumption
  · rw [Qm _ _ h.cl]
    simp only [X4, XX, Ob.ren, Qd _ _ h.c2, Qd _ _ h.d2, adb]
    exact hk
theorem jP (ha : s.o a = some (.box true cs)) (he : s.o e = some (.box true ds)) (h : EvQ Γ f x off g cs ds res cs2 ds2) (hd : decide (a ≠ e ∧ a < b ∧ e < b) = true)
    (hk : XV Γ (b + KK) r { t := (s.put d res).t, o := upd (upd s.o e (some (.box true ds2))) a (some (.box true cs2)), n := s.n } K) : acV Γ b r s d f [.ptr a 0, x, .ptr e off, .clo (.n g) []] args okf K :=
  fun _ _ => by obtain ⟨e1, e2, e3⟩ := of_decide_eq_true hd; exact ajp ha he h e1 e2 e3 hk
theorem vM {nt : Nat} {ac : AC} {rs : List XY} (hb : Has Γ.P f nt ac rs) (ha : 1 ≤ nt) (hr : res.closed) (h1 : Qq cs) (h2 : Qq cs2)
    (h : ∀ C : Ctx, C.env = Γ → C.m = 1 → AWp C nt ac (Wn [.clo (.m g) [.ptr 0 0]] [.box true cs]) (yC 1 rs res [.box true cs2]) (fun _ _ => False) (yC 1 rs res [.box true cs2])) : EvM Γ f g cs res cs2 :=
  ⟨X0 hb (by simpa using ha) h, hr, h1, h2⟩
theorem adm {nt : Nat} {ac : AC} {rs : List XY} (hb : Has Γ.P f nt ac rs) (ha : 4 ≤ nt) (hr : res.closed) (hx : x.closed) (h1 : Qq cs) (h2 : Qq ds) (h3 : Qq cs2) (h4 : Qq ds2)
    (h : ∀ C : Ctx, C.env = Γ → C.m = 2 → AWp C nt ac (Wn [.ptr 0 0, x, .ptr 1 off, .clo (.n g) []] [.box true cs, .box true ds]) (yC 2 rs res [.box true cs2, .box true ds2]) (fun _ _ => False) (yC 2 rs res [.box true cs2, .box true ds2])) : EvQ Γ f x off g cs ds res cs2 ds2 :=
  ⟨X0 hb (by simpa using ha) h, hr, hx, h1, h2, h3, h4⟩
theorem ahn {rs : List XY} (vs : List V) (h : xk s rs = some vs) (h0 : s.o 0 = some (.box true cs2)) (h1 : s.o 1 = some (.box true ds2)) (hc2 : Qq cs2) (hd2 : Qq ds2) (hc : conv s.o [0, 1] none (acU vs) res) : yC 2 rs res [.box true cs2, .box true ds2] s :=
  VY rs vs _ h ⟨[0, 1], none, hc, ⟨⟨_, h0, fun h => h, J1 _ _ _ _ hc2⟩, ⟨_, h1, fun h => h, J1 _ _ _ _ hd2⟩, trivial⟩, by simp, rfl⟩
end
structure EvA (Γ : Env) (f : FuncId) (args : List V) (sz : Nat) (xs : List V) (res : V) (ys : List V) : Prop where
  ev : Ev Γ f (args ++ [.ptr 0 0]) [.box true [.hd 1 0 xs.length], .buf true sz xs] res [.box true [.hd 2 0 ys.length], .dead, .buf true sz ys]
  cl : res.closed
  ca : Qq args
theorem vO {o : Nat → Option Ob} {br : List Nat} {B : Option (List Nat)} : ∀ {xs ys us vs : List V}, Yo o br B xs us → Yo o br B ys vs → Yo o br B (xs ++ ys) (us ++ vs)
  | [], _, [], _, _, h => h
  | [], _, _ :: _, _, h, _ => by simp [Yo] at h
  | _ :: _, _, [], _, h, _ => by simp [Yo] at h
  | x :: xs, ys, u :: us, vs, h, h' => by
    simp only [Yo] at h
    simp only [List.cons_append, Yo]
    exact ⟨h.1, vO h.2 h'⟩
section
variable {Γ : Env} {b : Nat} {r : List AO} {s : St} {d : Option Nat} {f : FuncId} {acts args : List V} {okf : Option (List Nat) → Prop} {res : V} {K : St → Prop} {xs ys : List V} {a p n sz : Nat}
theorem aiS (ha : s.o a = some (.box true [.hd p 0 n])) (hp : s.o p = some (.buf true sz xs)) (h : EvA Γ f acts sz xs res ys) (hn : n = xs.length) (h1 : a ≠ p) (hab : a < b) (hpb : p < b)
    (hk : XV Γ (b + KK) r { t := (s.put d res).t, o := upd (upd (upd s.o b (some (.buf true sz ys))) p (some .dead)) a (some (.box true [.hd b 0 ys.length])), n := s.n } K) : awC Γ b r s d f (acts ++ [.ptr a 0]) K := by
  subst hn
  refine XE ⟨_, _, _, _, [a, p], some [], h.ev, vO (J1 _ _ _ _ h.ca) ⟨?_, trivial⟩, ⟨⟨_, ha, ?_⟩, ⟨_, hp, rfl, rfl⟩, trivial⟩, by simpa using h1, ?_, by simp, by simp [KK], fun h => by simp at h, ?_⟩
  · simp [conv]
  · show Yo _ _ _ _ _
    simp [Yo, conv]
  · intro y hy
    simp only [List.mem_cons, List.not_mem_nil, or_false] at hy
    rcases hy with rfl | rfl <;> assumption
  · rw [Qm _ _ h.cl]
    simp only [X4, XX, Ob.ren, KR, V.ren, sig, adb]
    exact hk
theorem vV {x y z : V} (ha : s.o a = some (.box true [.hd p 0 n])) (hp : s.o p = some (.buf true sz xs)) (h : EvA Γ f [x, y, z] sz xs res ys) (hd : decide (a ≠ p ∧ a < b ∧ p < b) = true) (hn : n = xs.length)
    (hk : XV Γ (b + KK) r { t := (s.put d res).t, o := upd (upd (upd s.o b (some (.buf true sz ys))) p (some .dead)) a (some (.box true [.hd b 0 ys.length])), n := s.n } K) : acV Γ b r s d f [x, y, z, .ptr a 0] args okf K :=
  fun _ _ => by obtain ⟨e1, e2, e3⟩ := of_decide_eq_true hd; exact aiS (acts := [x, y, z]) ha hp h hn e1 e2 e3 hk
theorem adp {nt : Nat} {ac : AC} {rs : List XY} (hb : Has Γ.P f nt ac rs) (hl : args.length + 1 ≤ nt) (hr : res.closed) (hc : Qq args)
    (h : ∀ C : Ctx, C.env = Γ → C.m = 2 → AWp C nt ac { t := (Wn (args ++ [.ptr 0 0]) []).t, o := wx [(0, .box true [.hd 2 0 xs.length]), (1, .dead), (2, .buf true sz xs)], n := 3 }
      (yC 2 rs res [.box true [.hd 2 0 ys.length], .dead, .buf true sz ys]) (fun _ _ => False) (yC 2 rs res [.box true [.hd 2 0 ys.length], .dead, .buf true sz ys])) : EvA Γ f args sz xs res ys := by
  refine ⟨X0 hb (by simpa using hl) fun C hC hm => ?_, hr, hc⟩
  refine abG 0 0 1 (by rfl) (by rfl) (by rfl) ?_
  have e := h C hC hm
  refine (congrArg (fun s => AWp C nt ac s _ _ _) ?_).mp e
  congr 1
  funext k
  match k with
  | 0 => rfl
  | 1 => rfl
  | 2 => rfl
  | k + 3 => simp [upd, wx, Wn]
theorem aho {rs : List XY} {xs' : List V} (i n : Nat) (vs : List V) (h : xk s rs = some vs) (hc : conv s.o [0, 1, i] none (acU vs) res)
    (h0 : s.o 0 = some (.box true [.hd i 0 n])) (hi : s.o i = some (.buf true sz xs')) (hi2 : 2 ≤ i) (h1 : ∃ x, s.o 1 = some x) (hx : xs' = ys) (hn : n = ys.length) : yC 2 rs res [.box true [.hd 2 0 ys.length], .dead, .buf true sz ys] s := by
  subst hn; subst hx
  obtain ⟨x1, e1⟩ := h1
  refine VY rs vs _ h ⟨[0, 1, i], none, hc, ⟨⟨_, h0, fun h => h, ?_⟩, ⟨_, e1, ?_⟩, ⟨_, hi, fun h => h, rfl, rfl⟩, trivial⟩, ?_, rfl⟩
  · simp [Yo, conv]
  · simp [af8]
  · simp; omega
end
end Av
end
section
namespace Av
open Go
abbrev byV (l : List UInt8) : List V := l.map fun c => V.sc (.int .u8 c.toNat)
abbrev aey : V := .sc (.pointer none)
abbrev acT : V := .sc (.slice none 0 0)
abbrev bX (Γ : Env) (a0 x : V) : Ob := .typ (ahp Γ.P) (.box true [a0, x])
abbrev bB (Γ : Env) (l : List UInt8) : Ob := .typ (aiJ Γ.P) (.buf true 1 (byV l))
structure BCF (Γ : Env) (f : FuncId) : Prop where
  ev : Ev Γ f [.ptr 0 0] [bX Γ aey acT] (.tup []) [bX Γ (.ptr 0 0) acT]
structure BCU (Γ : Env) (f : FuncId) (l : List UInt8) : Prop where
  ev : Ev Γ f [.ptr 0 0] [bX Γ (.ptr 0 0) (.hd 1 0 l.length), bB Γ l] (.tup []) [bX Γ (.ptr 0 0) (.hd 1 0 l.length), bB Γ l]
structure BWF (Γ : Env) (f : FuncId) (s : List UInt8) : Prop where
  ev : Ev Γ f [.ptr 0 0, V.str s] [bX Γ aey acT] (.tup [V.int s.length, .sc .nilIface]) [bX Γ (.ptr 0 0) (.hd 1 0 s.length), bB Γ s]
structure BWU (Γ : Env) (f : FuncId) (l s : List UInt8) : Prop where
  ev : Ev Γ f [.ptr 0 0, V.str s] [bX Γ (.ptr 0 0) (.hd 1 0 l.length), bB Γ l] (.tup [V.int s.length, .sc .nilIface]) [bX Γ (.ptr 0 0) (.hd 2 0 (l ++ s).length), .dead, bB Γ (l ++ s)]
structure BSF (Γ : Env) (f : FuncId) : Prop where
  ev : Ev Γ f [.ptr 0 0] [bX Γ aey acT] (V.str []) [.dead]
structure BSU (Γ : Env) (f : FuncId) (l : List UInt8) : Prop where
  ev : Ev Γ f [.ptr 0 0] [bX Γ (.ptr 0 0) (.hd 1 0 l.length), bB Γ l] (V.str l) [.dead, .dead]
section
variable {Γ : Env} {A W : Nat → Bool} {b : Nat} {r : List AO} {s : St} {d : Option Nat} {f : FuncId} {args : List V} {okf : Option (List Nat) → Prop} {J K : St → Prop} {a p n : Nat} {l t : List UInt8}
theorem agD {o : Nat → Option Ob} {br : List Nat} {B : Option (List Nat)} (ha : o a = some (bX Γ aey acT)) : ∃ x, o a = some x ∧ abD o br B x (bX Γ aey acT) := ⟨_, ha, rfl, by show Yo _ _ _ _ _; simp [Yo, conv]⟩
theorem agC {o : Nat → Option Ob} {B : Option (List Nat)} (ha : o a = some (bX Γ (.ptr a 0) (.hd p 0 n))) : ∃ x, o a = some x ∧ abD o [a, p] B x (bX Γ (.ptr 0 0) (.hd 1 0 n)) := ⟨_, ha, rfl, by show Yo _ _ _ _ _; simp [Yo, conv]⟩
theorem agE {o : Nat → Option Ob} {br : List Nat} {B : Option (List Nat)} (ha : o p = some (bB Γ l)) : ∃ x, o p = some x ∧ abD o br B x (bB Γ l) := ⟨_, ha, rfl, rfl, rfl⟩
theorem U5 (ha : s.o a = some (bX Γ aey acT)) (h : BCF Γ f) (hab : decide (a < b) = true)
    (hk : XV Γ (b + KK) r { t := (s.put d (.tup [])).t, o := upd s.o a (some (bX Γ (.ptr a 0) acT)), n := s.n } K) : acV Γ b r s d f [.ptr a 0] args okf K := fun _ _ => by
  refine XE ⟨_, _, _, _, [a], some [], h.ev, ⟨by simp [conv], trivial⟩, ⟨agD ha, trivial⟩, by simp, by simpa using of_decide_eq_true hab, by simp, by simp [KK], fun h => by simp at h, ?_⟩
  simp only [X4, XX, Ob.ren, KR, V.ren, sig, adb]
  exact hk
theorem U4 (ha : s.o a = some (bX Γ (.ptr a 0) (.hd p 0 n))) (hp : s.o p = some (bB Γ l)) (h : BCU Γ f l) (hd : decide (a ≠ p ∧ a < b ∧ p < b) = true) (hn : n = l.length)
    (hk : XV Γ (b + KK) r { t := (s.put d (.tup [])).t, o := upd (upd s.o p (some (bB Γ l))) a (some (bX Γ (.ptr a 0) (.hd p 0 n))), n := s.n } K) : acV Γ b r s d f [.ptr a 0] args okf K := fun _ _ => by
  subst hn
  obtain ⟨e1, e2, e3⟩ := of_decide_eq_true hd
  refine XE ⟨_, _, _, _, [a, p], some [], h.ev, ⟨by simp [conv], trivial⟩, ⟨agC ha, agE hp, trivial⟩, by simpa using e1, ?_, by simp, by simp [KK], fun h => by simp at h, ?_⟩
  · intro y hy
    simp only [List.mem_cons, List.not_mem_nil, or_false] at hy
    rcases hy with rfl | rfl <;> assumption
  simp only [X4, XX, Ob.ren, KR, V.ren, sig, adb]
  exact hk
theorem U1 (ha : s.o a = some (bX Γ aey acT)) (h : BWF Γ f t) (hab : decide (a < b) = true)
    (hk : XV Γ (b + KK) r { t := (s.put d (.tup [V.int t.length, .sc .nilIface])).t, o := upd (upd s.o b (some (bB Γ t))) a (some (bX Γ (.ptr a 0) (.hd b 0 t.length))), n := s.n } K) : acV Γ b r s d f [.ptr a 0, V.str t] args okf K := fun _ _ => by
  refine XE ⟨_, _, _, _, [a], some [], h.ev, ⟨by simp [conv], by simp [conv], trivial⟩, ⟨agD ha, trivial⟩, by simp, by simpa using of_decide_eq_true hab, by simp, by simp [KK], fun h => by simp at h, ?_⟩
  simp only [X4, XX, Ob.ren, KR, V.ren, sig, adb]
  exact hk
theorem U0 (ha : s.o a = some (bX Γ (.ptr a 0) (.hd p 0 n))) (hp : s.o p = some (bB Γ l)) (h : BWU Γ f l t) (hd : decide (a ≠ p ∧ a < b ∧ p < b) = true) (hn : n = l.length)
    (hk : XV Γ (b + KK) r { t := (s.put d (.tup [V.int t.length, .sc .nilIface])).t, o := upd (upd (upd s.o b (some (bB Γ (l ++ t)))) p (some .dead)) a (some (bX Γ (.ptr a 0) (.hd b 0 (l ++ t).length))), n := s.n } K) : acV Γ b r s d f [.ptr a 0, V.str t] args okf K := fun _ _ => by
  subst hn
  obtain ⟨e1, e2, e3⟩ := of_decide_eq_true hd
  refine XE ⟨_, _, _, _, [a, p], some [], h.ev, ⟨by simp [conv], by simp [conv], trivial⟩, ⟨agC ha, agE hp, trivial⟩, by simpa using e1, ?_, by simp, by simp [KK], fun h => by simp at h, ?_⟩
  · intro y hy
    simp only [List.mem_cons, List.not_mem_nil, or_false] at hy
    rcases hy with rfl | rfl <;> assumption
  simp only [X4, XX, Ob.ren, KR, V.ren, sig, adb]
  exact hk
theorem U3 (ha : s.o a = some (bX Γ aey acT)) (h : BSF Γ f) (hab : decide (a < b) = true)
    (hk : XV Γ (b + KK) r { t := (s.put d (V.str [])).t, o := upd s.o a (some .dead), n := s.n } K) : acV Γ b r s d f [.ptr a 0] args okf K := fun _ _ => by
  refine XE ⟨_, _, _, _, [a], some [], h.ev, ⟨by simp [conv], trivial⟩, ⟨agD ha, trivial⟩, by simp, by simpa using of_decide_eq_true hab, by simp, by simp [KK], fun h => by simp at h, ?_⟩
  simp only [X4, XX, Ob.ren, KR, V.ren, sig, adb]
  exact hk
theorem U2 (ha : s.o a = some (bX Γ (.ptr a 0) (.hd p 0 n))) (hp : s.o p = some (bB Γ l)) (h : BSU Γ f l) (hd : decide (a ≠ p ∧ a < b ∧ p < b) = true) (hn : n = l.length)
    (hk : XV Γ (b + KK) r { t := (s.put d (V.str l)).t, o := upd (upd s.o p (some .dead)) a (some .dead), n := s.n } K) : acV Γ b r s d f [.ptr a 0] args okf K := fun _ _ => by
  subst hn
  obtain ⟨e1, e2, e3⟩ := of_decide_eq_true hd
  refine XE ⟨_, _, _, _, [a, p], some [], h.ev, ⟨by simp [conv], trivial⟩, ⟨agC ha, agE hp, trivial⟩, by simpa using e1, ?_, by simp, by simp [KK], fun h => by simp at h, ?_⟩
  · intro y hy
    simp only [List.mem_cons, List.not_mem_nil, or_false] at hy
    rcases hy with rfl | rfl <;> assumption
  simp only [X4, XX, Ob.ren, KR, V.ren, sig, adb]
  exact hk
theorem xb {o : Nat → Option Ob} {x : Ob} (ha : o a = some x) (hA : A a = true) : XF A o a = some x := by rw [aaH, if_pos hA, ha]
theorem UB (ha : s.o a = some (bX Γ aey acT)) (hA : A a = true) (hW : W a = true) (h : BWF Γ f t) (hab : decide (a < b) = true)
    (hk : J { t := (s.put d (.tup [V.int t.length, .sc .nilIface])).t, o := upd (upd s.o b (some (bB Γ t))) a (some (bX Γ (.ptr a 0) (.hd b 0 t.length))), n := s.n }) : adx Γ A W b s d f [.ptr a 0, V.str t] args okf J := fun _ _ => by
  refine ⟨_, _, _, _, [a], some [], h.ev, ⟨by simp [conv], by simp [conv], trivial⟩, ⟨agD (xb ha hA), trivial⟩, by simp, by simpa using ⟨of_decide_eq_true hab, hW⟩, by simp, by simp [KK], fun h => by simp at h, fun l h x hx => (by cases h; cases hx), ?_⟩
  simp only [X4, XX, Ob.ren, KR, V.ren, sig, adb]
  exact hk
theorem UA (ha : s.o a = some (bX Γ (.ptr a 0) (.hd p 0 n))) (hp : s.o p = some (bB Γ l)) (hA : (A a && A p) = true) (hW : (W a && W p) = true) (h : BWU Γ f l t) (hd : decide (a ≠ p ∧ a < b ∧ p < b) = true) (hn : n = l.length)
    (hk : J { t := (s.put d (.tup [V.int t.length, .sc .nilIface])).t, o := upd (upd (upd s.o b (some (bB Γ (l ++ t)))) p (some .dead)) a (some (bX Γ (.ptr a 0) (.hd b 0 (l ++ t).length))), n := s.n }) : adx Γ A W b s d f [.ptr a 0, V.str t] args okf J := fun _ _ => by
  subst hn
  obtain ⟨e1, e2, e3⟩ := of_decide_eq_true hd
  simp only [Bool.and_eq_true] at hA hW
  refine ⟨_, _, _, _, [a, p], some [], h.ev, ⟨by simp [conv], by simp [conv], trivial⟩, ⟨agC (xb ha hA.1), agE (xb hp hA.2), trivial⟩, by simpa using e1, ?_, by simp, by simp [KK], fun h => by simp at h, fun l h x hx => (by cases h; cases hx), ?_⟩
  · intro y hy
    simp only [List.mem_cons, List.not_mem_nil, or_false] at hy
    rcases hy with rfl | rfl
    · exact ⟨e2, hW.1⟩
    · exact ⟨e3, hW.2⟩
  simp only [X4, XX, Ob.ren, KR, V.ren, sig, adb]
  exact hk
theorem xu {x y z res : V} {xs ys : List V} {sz : Nat} (ha : s.o a = some (.box true [.hd p 0 n])) (hp : s.o p = some (.buf true sz xs)) (hA : (A a && A p) = true) (hW : (W a && W p) = true) (h : EvA Γ f [x, y, z] sz xs res ys) (hd : decide (a ≠ p ∧ a < b ∧ p < b) = true) (hn : n = xs.length)
    (hk : J { t := (s.put d res).t, o := upd (upd (upd s.o b (some (.buf true sz ys))) p (some .dead)) a (some (.box true [.hd b 0 ys.length])), n := s.n }) : adx Γ A W b s d f [x, y, z, .ptr a 0] args okf J := fun _ _ => by
  subst hn
  obtain ⟨e1, e2, e3⟩ := of_decide_eq_true hd
  simp only [Bool.and_eq_true] at hA hW
  refine ⟨_, _, _, _, [a, p], some [], h.ev, vO (xs := [x, y, z]) (us := [x, y, z]) (J1 _ _ _ _ h.ca) ⟨?_, trivial⟩, ⟨⟨_, xb ha hA.1, ?_⟩, ⟨_, xb hp hA.2, rfl, rfl⟩, trivial⟩, by simpa using e1, ?_, by simp, by simp [KK], fun h => by simp at h, fun l h x hx => (by cases h; cases hx), ?_⟩
  · simp [conv]
  · show Yo _ _ _ _ _
    simp [Yo, conv]
  · intro y hy
    simp only [List.mem_cons, List.not_mem_nil, or_false] at hy
    rcases hy with rfl | rfl
    · exact ⟨e2, hW.1⟩
    · exact ⟨e3, hW.2⟩
  · rw [Qm _ _ h.cl]
    simp only [X4, XX, Ob.ren, KR, V.ren, sig, adb]
    exact hk
end
theorem ahO {Γ : Env} {rs : List XY} {res : V} {s : St} {l l2 : List UInt8} (i : Nat) (vs : List V) {n : Nat} (h : xk s rs = some vs) (hc : conv s.o [0, i] none (acU vs) res)
    (h0 : s.o 0 = some (bX Γ (.ptr 0 0) (.hd i 0 n))) (hi : s.o i = some (bB Γ l2)) (hi2 : decide (1 ≤ i) = true) (hl : l2 = l) (hn : n = l.length) : yC 1 rs res [bX Γ (.ptr 0 0) (.hd 1 0 l.length), bB Γ l] s := by
  subst hn; subst hl
  have := of_decide_eq_true hi2
  exact VY rs vs _ h ⟨[0, i], none, hc, ⟨⟨_, h0, rfl, fun h => h, by show Yo _ _ _ _ _; simp [Yo, conv]⟩, ⟨_, hi, rfl, fun h => h, rfl, rfl⟩, trivial⟩, by simp; omega, rfl⟩
theorem ahN {Γ : Env} {rs : List XY} {res : V} {s : St} {l l2 : List UInt8} (i : Nat) (vs : List V) {n : Nat} (h : xk s rs = some vs) (hc : conv s.o [0, 1, i] none (acU vs) res)
    (h0 : s.o 0 = some (bX Γ (.ptr 0 0) (.hd i 0 n))) (h1 : ∃ x, s.o 1 = some x) (hi : s.o i = some (bB Γ l2)) (hi2 : decide (2 ≤ i) = true) (hl : l2 = l) (hn : n = l.length) : yC 2 rs res [bX Γ (.ptr 0 0) (.hd 2 0 l.length), .dead, bB Γ l] s := by
  subst hn; subst hl
  obtain ⟨x1, e1⟩ := h1
  have := of_decide_eq_true hi2
  exact VY rs vs _ h ⟨[0, 1, i], none, hc, ⟨⟨_, h0, rfl, fun h => h, by show Yo _ _ _ _ _; simp [Yo, conv]⟩, ⟨_, e1, by simp [af8]⟩, ⟨_, hi, rfl, fun h => h, rfl, rfl⟩, trivial⟩, by simp; omega, rfl⟩
end Av
end
section
namespace Av
open Go
theorem Ev.shut {Γ : Env} {f : FuncId} {args : List V} {ins : List Ob} {res res2 : V} {outs outs2 : List Ob} {br : List Nat} {B : Option (List Nat)} (h : Ev Γ f args ins res outs)
    (hc : conv (fun k => outs[k]?) br B res res2) (hl : aid (fun k => outs[k]?) br B br outs2) (hn : br.Nodup) (hf : br.take ins.length = List.range ins.length) : Ev Γ f args ins res2 outs2 := by
  intro C cargs hP hm hmu hg hF hsz hrep
  refine (h C cargs hP hm hmu hg hF hsz hrep).mono ?_
  rintro e w' ⟨v, Z', μ', rfl, hr, hg', hmu'⟩
  obtain ⟨g2, h2, _⟩ := hg'.close hn hl (by rw [hm]; exact hf)
  exact ⟨v, _, _, rfl, K9 hg' br B _ _ _ _ (Nat.le_refl _) hr hc, g2, h2⟩
structure EvO (Γ : Env) (f : FuncId) (args cs : List V) (s1 s2 : Nat) (xs ys cs2 : List V) : Prop where
  ev : Ev Γ f (.ptr 0 0 :: args) [.box true cs] (.agg [.hd 1 0 xs.length, .hd 2 0 ys.length]) [.box true cs2, .buf true s1 xs, .buf true s2 ys]
  c1 : Qq cs
  c2 : Qq cs2
  ca : Qq args
theorem EvO.d {Γ : Env} {f : FuncId} {args cs : List V} {s1 s2 : Nat} {xs ys cs2 : List V} (h : EvO Γ f args cs s1 s2 xs ys cs2) : EvD Γ f args cs (.agg [.sl s1 xs, .sl s2 ys]) cs2 := by
  refine ⟨h.ev.shut (br := [0]) (B := none) ?_ ⟨⟨_, rfl, fun h => h, J1 _ _ _ _ h.c2⟩, trivial⟩ (by simp) rfl, ?_, h.c1, h.c2⟩
  · simp [conv, Yo, okB]
  · simp only [V.closed, Qq, and_self]
section
variable {Γ : Env} {b : Nat} {r : List AO} {s : St} {d : Option Nat} {f : FuncId} {args acts : List V} {cs cs2 xs ys : List V} {s1 s2 : Nat} {K : St → Prop} {okf : Option (List Nat) → Prop} {a : Nat}
theorem VG (ha : s.o a = some (.box true cs)) (h : EvO Γ f [] cs s1 s2 xs ys cs2) (hab : decide (a < b) = true)
    (hk : XV Γ (b + KK) r { t := (s.put d (.agg [.hd b 0 xs.length, .hd (b + 1) 0 ys.length])).t, o := upd (upd (upd s.o (b + 1) (some (.buf true s2 ys))) b (some (.buf true s1 xs))) a (some (.box true cs2)), n := s.n } K) : acV Γ b r s d f [.ptr a 0] args okf K := fun _ _ => by
  refine XE ⟨_, _, _, _, [a], some [], h.ev, ⟨by simp [conv], trivial⟩, ⟨⟨_, ha, J1 _ _ _ _ h.c1⟩, trivial⟩, by simp, by simpa using of_decide_eq_true hab, by simp, by simp [KK], fun h => by simp at h, ?_⟩
  simp only [X4, XX, Ob.ren, KR, V.ren, sig, adb, Qd _ _ h.c2]
  exact hk
end
theorem ado {Γ : Env} {f : FuncId} {nt : Nat} {ac : AC} {rs : List XY} (hb : Has Γ.P f nt ac rs) {args cs cs2 xs ys : List V} {s1 s2 : Nat} (hl : args.length + 1 ≤ nt) (h1 : Qq cs) (h2 : Qq cs2) (hc : Qq args)
    (h : ∀ C : Ctx, C.env = Γ → C.m = 1 → AWp C nt ac (Wn (.ptr 0 0 :: args) [.box true cs]) (yC 1 rs (.agg [.hd 1 0 xs.length, .hd 2 0 ys.length]) [.box true cs2, .buf true s1 xs, .buf true s2 ys]) (fun _ _ => False) (yC 1 rs (.agg [.hd 1 0 xs.length, .hd 2 0 ys.length]) [.box true cs2, .buf true s1 xs, .buf true s2 ys])) : EvO Γ f args cs s1 s2 xs ys cs2 :=
  ⟨X0 hb (by simpa using hl) fun C hC hm => h C hC hm, h1, h2, hc⟩
theorem aiy {rs : List XY} {s : St} {cs2 xs ys : List V} {s1 s2 : Nat} (i j : Nat) (vs : List V) {n m : Nat} (h : xk s rs = some vs) (hv : acU vs = .agg [.hd i 0 n, .hd j 0 m]) (h0 : s.o 0 = some (.box true cs2)) (hi : s.o i = some (.buf true s1 xs)) (hj : s.o j = some (.buf true s2 ys))
    (hij : decide (1 ≤ i ∧ 1 ≤ j ∧ i ≠ j) = true) (h2 : Qq cs2) (hn : n = xs.length) (hm : m = ys.length) : yC 1 rs (.agg [.hd 1 0 xs.length, .hd 2 0 ys.length]) [.box true cs2, .buf true s1 xs, .buf true s2 ys] s := by
  subst hn; subst hm
  obtain ⟨e1, e2, e3⟩ := of_decide_eq_true hij
  exact VY rs vs _ h ⟨[0, i, j], none, by rw [hv]; simp [conv, Yo], ⟨⟨_, h0, fun h => h, J1 _ _ _ _ h2⟩, ⟨_, hi, fun h => h, rfl, rfl⟩, ⟨_, hj, fun h => h, rfl, rfl⟩, trivial⟩, by simp; omega, rfl⟩
end Av
end
