/- Functions that are lent one variable: their contracts, calls by them, their ends. -/
import Derived.Test.YtmclfdgmbfdacaaDoorAv3
set_option linter.unusedVariables false
set_option linter.unusedSimpArgs false
section
namespace Av
open Go

/-- The contract of a function whose first argument points to a variable of the caller's: what the variable holds ahead and behind. -/
structure EvD (Γ : Env) (f : FuncId) (args : List V) (cs : List V) (res : V) (cs2 : List V) : Prop where
  ev : Ev Γ f (.ptr 0 0 :: args) [.box true cs] res [.box true cs2]
  cl : res.closed
  c1 : closedL cs
  c2 : closedL cs2

/-- The objects that arguments name. -/
def shownL : List V → List Nat
  | [] => []
  | .hd a _ _ :: r => a :: shownL r
  | .ptr a _ :: r => a :: shownL r
  | _ :: r => shownL r

mutual
theorem conv_shutB (o : Nat → Option Ob) (br l : List Nat) (hb : ∀ x ∈ l, x ∉ br) : ∀ v : V, v.shutOk o (some l) → conv o br (some l) v (v.shut o)
  | .top, _ => by simp [V.shut, conv]
  | .sc _, _ => by simp [V.shut, conv]
  | .nn, _ => by simp [V.shut, conv]
  | .sl _ _, _ => by simp [V.shut, conv]
  | .ro _ _, _ => by simp [V.shut, conv]
  | .ept _ _ _, _ => by simp [V.shut, conv]
  | .hd a off len, h => by
    obtain ⟨h1, wr, s, xs, h2⟩ := h
    simp only [V.shut, h2, conv]
    exact ⟨h1, hb a h1, wr, xs, rfl, rfl⟩
  | .ptr a off, h => by
    obtain ⟨h1, wr, cs, h2, h3⟩ := h
    simp only [V.shut, h2, conv]
    exact ⟨h1, hb a h1, trivial, h3, wr, cs, rfl, convL_closed _ _ _ _ h3⟩
  | .agg cs, h => by simp only [V.shut, conv]; exact convL_shutB o br l hb cs h
  | .tup cs, h => by simp only [V.shut, conv]; exact convL_shutB o br l hb cs h
  | .clo f cs, h => by simp only [V.shut, conv]; exact ⟨trivial, convL_shutB o br l hb cs h⟩
theorem convL_shutB (o : Nat → Option Ob) (br l : List Nat) (hb : ∀ x ∈ l, x ∉ br) : ∀ cs : List V, shutOkL o (some l) cs → convL o br (some l) cs (shutL o cs)
  | [], _ => trivial
  | v :: r, h => ⟨conv_shutB o br l hb v h.1, convL_shutB o br l hb r h.2⟩
end

section
variable {Γ : Env} {b : Nat} {r : List AO} {s : St} {d : Option Nat} {f : FuncId} {acts : List V} {res : V} {K : St → Prop} {cs cs2 : List V} {a : Nat}

theorem awC_D (l : List Nat) (ha : s.o a = some (.box true cs)) (h : EvD Γ f (shutL s.o acts) cs res cs2) (hc : shutOkL s.o (some l) acts) (hal : a ∉ l) (hab : a < b)
    (hk : runO Γ (b + KK) r { t := (s.put d res).t, o := upd (frzO (some l) [a] s.o) a (some (.box true cs2)), n := s.n } K) : awC Γ b r s d f (.ptr a 0 :: acts) K := by
  refine awCall_of ⟨_, _, _, _, [a], some l, h.ev, ⟨?_, convL_shutB s.o [a] l ?_ acts hc⟩, ⟨⟨_, ha, convL_closed _ _ _ _ h.c1⟩, trivial⟩, by simp, by simpa using hab, Nat.le_refl _, by simp [KK], fun h => by simp at h, ?_⟩
  · simp [conv]
  · intro x hx hxa
    simp only [List.mem_singleton] at hxa
    subst hxa; exact hal hx
  · rw [closed_ren _ _ h.cl]
    simp only [putBr, putNew, Ob.ren, closedL_ren _ _ h.c2]
    exact hk

theorem awC_D1 (ha : s.o a = some (.box true cs)) (h : EvD Γ f (shutL s.o acts) cs res cs2) (hc : shutOkL s.o (some (shownL acts)) acts) (hal : a ∉ shownL acts) (hab : a < b)
    (hk : runO Γ (b + KK) r { t := (s.put d res).t, o := upd (frzO (some (shownL acts)) [a] s.o) a (some (.box true cs2)), n := s.n } K) : awC Γ b r s d f (.ptr a 0 :: acts) K := awC_D _ ha h hc hal hab hk

theorem awCs_D {x : V} {args : List V} {okf : Option (List Nat) → Prop} (ha : s.o a = some (.box true cs)) (h : EvD Γ f args cs res cs2) (hal : (shownL acts).contains a = false) (hab : decide (a < b) = true) (hc : shutOkL s.o (some (shownL acts)) acts)
    (hk : runO Γ (b + KK) r { t := (s.put d res).t, o := upd (frzO (some (shownL acts)) [a] s.o) a (some (.box true cs2)), n := s.n } K) : awCs Γ b r s d f (.ptr a 0 :: acts) (x :: args) okf K := by
  intro h1 _
  simp only [shutL, List.cons.injEq] at h1
  obtain ⟨_, rfl⟩ := h1
  exact awC_D1 ha h hc (by simpa using hal) (of_decide_eq_true hab) hk

theorem frz0 {br : List Nat} {o : Nat → Option Ob} : frzO (some []) br o = o := by
  funext n; simp [frzO]
theorem frz1 {x a n : Nat} {o : Nat → Option Ob} : frzO (some [x]) [a] o n = if n = x then (if x = a then o n else (o n).map Ob.frz) else o n := by
  simp only [frzO, List.mem_singleton]
  by_cases h1 : n = x
  · subst h1
    by_cases h2 : n = a <;> simp [h2]
  · simp [h1]
end

theorem evD_of_body {Γ : Env} {f : FuncId} {nt : Nat} {ac : AC} {rs : List ARes} (hb : Has Γ.P f nt ac rs) {args cs cs2 : List V} {res : V} (ha : args.length + 1 ≤ nt) (hr : res.closed) (h1 : closedL cs) (h2 : closedL cs2)
    (h : ∀ C : Ctx, C.env = Γ → C.m = 1 → AWp C nt ac (entrySt (.ptr 0 0 :: args) [.box true cs]) (Ends 1 rs res [.box true cs2]) (fun _ _ => False) (Ends 1 rs res [.box true cs2])) : EvD Γ f args cs res cs2 :=
  ⟨ev_of_body hb (by simpa using ha) h, hr, h1, h2⟩

theorem ends_d {rs : List ARes} {res : V} {s : St} {cs2 : List V} (vs : List V) (h : getRs s rs = some vs) (ho : s.o 0 = some (.box true cs2)) (h2 : closedL cs2) (hc : conv s.o [0] none (finV vs) res) : Ends 1 rs res [.box true cs2] s :=
  getRs_aw rs vs _ h ⟨[0], none, hc, ⟨⟨_, ho, fun h => h, convL_closed _ _ _ _ h2⟩, trivial⟩, by simp, rfl⟩

/-- The contract of a function that makes one variable and answers a pointer to it. -/
structure EvR (Γ : Env) (f : FuncId) (args : List V) (cs : List V) : Prop where
  ev : Ev Γ f args [] (.ptr 0 0) [.box true cs]
  c1 : closedL cs

theorem awC_R {Γ : Env} {b : Nat} {r : List AO} {s : St} {d : Option Nat} {f : FuncId} {acts cs : List V} {K : St → Prop} (h : EvR Γ f (shutL s.o acts) cs) (hc : shutOkL s.o (some (shownL acts)) acts)
    (hk : runO Γ (b + KK) r { t := (s.put d (.ptr b 0)).t, o := upd (frzO (some (shownL acts)) [] s.o) b (some (.box true cs)), n := s.n } K) : awC Γ b r s d f acts K := by
  refine awCall_of ⟨_, _, _, _, [], some (shownL acts), h.ev, convL_shut _ _ _ hc, trivial, List.nodup_nil, fun x hx => by simp at hx, by simp, by simp [KK], fun h => by simp at h, ?_⟩
  simp only [putBr, putNew, Ob.ren, closedL_ren _ _ h.c1, V.ren, sig]
  exact hk

theorem awCs_R {Γ : Env} {b : Nat} {r : List AO} {s : St} {d : Option Nat} {f : FuncId} {acts args cs : List V} {K : St → Prop} {okf : Option (List Nat) → Prop} (h : EvR Γ f args cs) (hc : okf (some (shownL acts)))
    (hk : runO Γ (b + KK) r { t := (s.put d (.ptr b 0)).t, o := upd (frzO (some (shownL acts)) [] s.o) b (some (.box true cs)), n := s.n } K) : awCs Γ b r s d f acts args okf K := by
  rintro rfl rfl; exact awC_R h hc hk

theorem evR_of_body {Γ : Env} {f : FuncId} {nt : Nat} {ac : AC} {rs : List ARes} (hb : Has Γ.P f nt ac rs) {args cs : List V} (ha : args.length ≤ nt) (h1 : closedL cs)
    (h : ∀ C : Ctx, C.env = Γ → C.m = 0 → AWp C nt ac (entrySt args []) (Ends 0 rs (.ptr 0 0) [.box true cs]) (fun _ _ => False) (Ends 0 rs (.ptr 0 0) [.box true cs])) : EvR Γ f args cs :=
  ⟨ev_of_body hb ha h, h1⟩

theorem ends_n {rs : List ARes} {s : St} {cs : List V} (a : Nat) (h : getRs s rs = some [.ptr a 0]) (ho : s.o a = some (.box true cs)) (h2 : closedL cs) : Ends 0 rs (.ptr 0 0) [.box true cs] s :=
  getRs_aw rs _ _ h ⟨[a], none, by simp [finV, conv], ⟨⟨_, ho, fun h => h, convL_closed _ _ _ _ h2⟩, trivial⟩, by simp, rfl⟩

attribute [go_sem] frz0 frz1 shownL Ob.frz
end Av
end

section
namespace Av
open Go

/-- The contract of a function that answers a slice of its own: what is in it. -/
structure EvW (Γ : Env) (f : FuncId) (args : List V) (sz : Nat) (xs : List V) : Prop where
  ev : Ev Γ f args [] (.hd 0 0 xs.length) [.buf true sz xs]
  ns : ∀ x ∈ xs, x.noSl

theorem ints_noSl (l : List Int) : ∀ x ∈ l.map V.int, x.noSl := by
  intro x hx; simp only [List.mem_map] at hx; obtain ⟨y, _, rfl⟩ := hx; simp only [V.noSl]
theorem strs_noSl (l : List (List UInt8)) : ∀ x ∈ l.map V.str, x.noSl := by
  intro x hx; simp only [List.mem_map] at hx; obtain ⟨y, _, rfl⟩ := hx; simp only [V.noSl]

theorem awC_W {Γ : Env} {b : Nat} {r : List AO} {s : St} {d : Option Nat} {f : FuncId} {acts xs : List V} {sz : Nat} {K : St → Prop} (h : EvW Γ f (shutL s.o acts) sz xs) (hc : shutOkL s.o none acts)
    (hk : runO Γ (b + KK) r { t := (s.put d (.hd b 0 xs.length)).t, o := upd s.o b (some (.buf true sz xs)), n := s.n } K) : awC Γ b r s d f acts K := by
  refine awCall_of ⟨_, _, _, _, [], none, h.ev, convL_shut _ _ _ hc, trivial, List.nodup_nil, fun x hx => by simp at hx, by simp, by simp [KK], fun _ => ⟨by simp only [V.noSl], fun x hx => ?_⟩, ?_⟩
  · simp only [List.mem_singleton] at hx; subst hx; exact h.ns
  · simp only [putBr, putNew, Ob.ren, V.ren, sig]
    exact hk

theorem awCR_W {Γ : Env} {A W : Nat → Bool} {b : Nat} {s : St} {d : Option Nat} {f : FuncId} {acts xs : List V} {sz : Nat} {J : St → Prop} (h : EvW Γ f (shutL (restrB A s.o) acts) sz xs) (hc : shutOkL (restrB A s.o) none acts)
    (hk : J { t := (s.put d (.hd b 0 xs.length)).t, o := upd s.o b (some (.buf true sz xs)), n := s.n }) : awCallR Γ A W b s d f acts J := by
  refine ⟨_, _, _, _, [], none, h.ev, convL_shut _ _ _ hc, trivial, List.nodup_nil, fun x hx => by simp at hx, by simp, by simp [KK], fun _ => ⟨by simp only [V.noSl], fun x hx => ?_⟩, fun l h => by simp at h, ?_⟩
  · simp only [List.mem_singleton] at hx; subst hx; exact h.ns
  · simp only [putBr, putNew, Ob.ren, V.ren, sig]
    exact hk

theorem awCs_W {Γ : Env} {b : Nat} {r : List AO} {s : St} {d : Option Nat} {f : FuncId} {acts args xs : List V} {sz : Nat} {K : St → Prop} {okf : Option (List Nat) → Prop} (h : EvW Γ f args sz xs) (hc : okf none)
    (hk : runO Γ (b + KK) r { t := (s.put d (.hd b 0 xs.length)).t, o := upd s.o b (some (.buf true sz xs)), n := s.n } K) : awCs Γ b r s d f acts args okf K := by
  rintro rfl rfl; exact awC_W h hc hk
theorem awCRs_W {Γ : Env} {A W : Nat → Bool} {b : Nat} {s : St} {d : Option Nat} {f : FuncId} {acts args xs : List V} {sz : Nat} {J : St → Prop} {okf : Option (List Nat) → Prop} (h : EvW Γ f args sz xs) (hc : okf none)
    (hk : J { t := (s.put d (.hd b 0 xs.length)).t, o := upd s.o b (some (.buf true sz xs)), n := s.n }) : awCRs Γ A W b s d f acts args okf J := by
  rintro rfl rfl; exact awCR_W h hc hk

theorem evW_of_body {Γ : Env} {f : FuncId} {nt : Nat} {ac : AC} {rs : List ARes} (hb : Has Γ.P f nt ac rs) {args xs : List V} {sz : Nat} (ha : args.length ≤ nt) (hn : ∀ x ∈ xs, x.noSl)
    (h : ∀ C : Ctx, C.env = Γ → C.m = 0 → AWp C nt ac (entrySt args []) (Ends 0 rs (.hd 0 0 xs.length) [.buf true sz xs]) (fun _ _ => False) (Ends 0 rs (.hd 0 0 xs.length) [.buf true sz xs])) : EvW Γ f args sz xs :=
  ⟨ev_of_body hb ha h, hn⟩

theorem ends_w {rs : List ARes} {s : St} {xs : List V} {sz : Nat} (a n : Nat) (h : getRs s rs = some [.hd a 0 n]) (hn : n = xs.length) (ho : s.o a = some (.buf true sz xs)) : Ends 0 rs (.hd 0 0 xs.length) [.buf true sz xs] s := by
  subst hn
  exact getRs_aw rs _ _ h ⟨[a], none, by simp [finV, conv], ⟨⟨_, ho, fun h => h, rfl, rfl⟩, trivial⟩, by simp, rfl⟩
end Av
end

section
namespace Av
open Go

theorem Good.adopt {C : Ctx} {w : World} {Z : Nat → Nat → Prop} {μ : Nat → Option Cn} {o : Nat → Option Ob} (h : Good C w Z μ o) {x i n sz : Nat} {wr : Bool} {cells : List V}
    (ho : o x = some (.box wr cells)) (hi : cells[i]? = some (.sc (.slice none 0 0))) (hn : μ n = none) (hm : C.m ≤ n) :
    Good C w Z (upd μ n (some { block := 0, void := true })) (upd (upd o x (some (.box wr (cells.set i (.hd n 0 0))))) n (some (.buf true sz []))) := by
  have hon := h.free hn
  have hxn : x ≠ n := by rintro rfl; rw [hon] at ho; cases ho
  have hmu := upd_mu (c := { block := 0, void := true }) hn
  have old : ∀ a y, a ≠ n → upd (upd o x (some (.box wr (cells.set i (.hd n 0 0))))) n (some (.buf true sz [])) a = some y → ∃ z c, o a = some z ∧ μ a = some c ∧ (y.live c ↔ z.live c) ∧ ObOk w Z (upd μ n (some { block := 0, void := true })) c y ∧ (z.live c → c.block < w.heap.size ∧ (C.w0.heap.size ≤ c.block ∨ C.F c.block)) := by
    intro a y han hy
    rw [upd_ne _ _ han] at hy
    by_cases hax : a = x
    · subst hax
      rw [upd_same] at hy; cases hy
      obtain ⟨c, hc, ⟨h1, ⟨cs, ty, h2, h3, h4⟩, h5⟩, hl⟩ := h.ob _ _ ho
      refine ⟨_, c, ho, hc, Iff.rfl, ⟨h1, ⟨cs, ty, h2, by simpa using h3, fun j hj hj' => ?_⟩, h5⟩, hl⟩
      have hj2 : j < cells.length := by simpa using hj
      have h6 := h4 j hj2 hj'
      refine ⟨?_, h6.2⟩
      by_cases hji : j = i
      · subst hji
        rw [List.getElem_set_self]
        have h7 : cells[j] = .sc (.slice none 0 0) := by rw [List.getElem?_eq_getElem hj2] at hi; exact Option.some.inj hi
        have h8 := h6.1
        rw [h7] at h8
        generalize cs[j] = v at h8
        cases h8
        exact .hd (upd_same _ _ _) (by simp [Hdr])
      · rw [List.getElem_set_ne (fun e => hji e.symm)]
        exact h6.1.mono (fun _ _ _ => rfl) (fun _ _ h => h) hmu
    · rw [upd_ne _ _ hax] at hy
      obtain ⟨c, hc, hok, hl⟩ := h.ob a y hy
      exact ⟨y, c, hy, hc, Iff.rfl, hok.mono (fun _ _ _ => rfl) (fun _ _ h => h) hmu (fun _ => rfl) (fun _ _ h => h), hl⟩
  refine ⟨fun a y hy => ?_, fun a b y z c d hab hy hz hc hd lc ld => ?_, h.zlt, h.grow, h.frame, h.zsub, h.zsup, h.zkeep, fun k hk => ?_, h.oo⟩
  · by_cases han : a = n
    · subst han
      rw [upd_same] at hy; cases hy
      exact ⟨_, upd_same _ _ _, ⟨rfl, fun hv => by cases hv⟩, fun hl => by cases hl⟩
    · obtain ⟨z, c, h1, h2, h3, h4, h5⟩ := old a y han hy
      exact ⟨c, hmu a c h2, h4, fun hl => h5 (h3.1 hl)⟩
  · by_cases han : a = n
    · subst han
      rw [upd_same] at hy hc; cases hy; cases hc; cases lc
    by_cases hbn : b = n
    · subst hbn
      rw [upd_same] at hz hd; cases hz; cases hd; cases ld
    obtain ⟨y', c', h1, h2, h3, _⟩ := old a y han hy
    obtain ⟨z', d', g1, g2, g3, _⟩ := old b z hbn hz
    have e1 := hmu a c' h2; rw [hc] at e1; cases e1
    have e2 := hmu b d' g2; rw [hd] at e2; cases e2
    exact h.sep a b y' z' c d hab h1 g1 h2 g2 (h3.1 lc) (g3.1 ld)
  · rw [upd_ne _ _ (by omega)]; exact h.fix k hk

section
variable {C : Ctx} {nt : Nat} {s : St} {K : St → Prop} {E : Nat → St → Prop} {R : St → Prop}
theorem awp_adopt {c : AC} (x i sz : Nat) {wr : Bool} {cells : List V} (ho : s.o x = some (.box wr cells)) (hi : cells[i]? = some (.sc (.slice none 0 0)))
    (h : AWp C nt c { t := s.t, o := upd (upd s.o x (some (.box wr (cells.set i (.hd s.n 0 0))))) s.n (some (.buf true sz [])), n := s.n + 1 } K E R) : AWp C nt c s K E R := by
  intro code hc a w hs
  obtain ⟨Z, μ, hg, ht, hf, hm, hd, hn⟩ := hs
  refine h code hc a w ⟨Z, _, hg.adopt ho hi (hf _ (Nat.le_refl _)) hm, fun j => (ht j).mono (fun _ _ _ => rfl) (fun _ _ h => h) (upd_mu (hf _ (Nat.le_refl _))), fun y hy => ?_, by show C.m ≤ s.n + 1; omega, hd, hn⟩
  have hy2 : s.n + 1 ≤ y := hy
  rw [upd_ne _ _ (by omega)]
  exact hf y (by omega)
end
end Av
end

section
namespace Av
open Go

theorem Good.move {C : Ctx} {w : World} {Z : Nat → Nat → Prop} {μ : Nat → Option Cn} {o : Nat → Option Ob} (h : Good C w Z μ o) {x i a n off len sz : Nat} {wr wr2 : Bool} {cells xs : List V} {c : Cn}
    (ho : o x = some (.box wr cells)) (hi : cells[i]? = some (.hd a off len)) (ha : o a = some (.buf wr2 sz xs)) (hc : μ a = some c) (hn : μ n = none) (hm : C.m ≤ n) :
    Good C w Z (upd μ n (some c)) (upd (upd (upd o a (some .dead)) x (some (.box wr (cells.set i (.hd n off len))))) n (some (.buf wr2 sz xs))) := by
  have hon := h.free hn
  have hxn : x ≠ n := by rintro rfl; rw [hon] at ho; cases ho
  have han : a ≠ n := by rintro rfl; rw [hon] at ha; cases ha
  have hxa : x ≠ a := by rintro rfl; rw [ho] at ha; cases ha
  have hmu := upd_mu (c := c) hn
  have old : ∀ b y, upd (upd (upd o a (some .dead)) x (some (.box wr (cells.set i (.hd n off len))))) n (some (.buf wr2 sz xs)) b = some y →
      (b = a ∧ y = .dead) ∨ ∃ z d, o (if b = n then a else b) = some z ∧ μ (if b = n then a else b) = some d ∧ upd μ n (some c) b = some d ∧ (y.live d ↔ z.live d) ∧ ObOk w Z (upd μ n (some c)) d y ∧ (z.live d → d.block < w.heap.size ∧ (C.w0.heap.size ≤ d.block ∨ C.F d.block)) ∧ (b ≠ a) := by
    intro b y hy
    by_cases hbn : b = n
    · subst hbn
      rw [upd_same] at hy; cases hy
      obtain ⟨d, hd, hok, hl⟩ := h.ob _ _ ha
      rw [hc] at hd; cases hd
      exact .inr ⟨_, c, by rw [if_pos rfl]; exact ha, by rw [if_pos rfl]; exact hc, upd_same _ _ _, Iff.rfl, hok.mono (fun _ _ _ => rfl) (fun _ _ h => h) hmu (fun _ => rfl) (fun _ _ h => h), hl, fun e => han e.symm⟩
    · rw [upd_ne _ _ hbn] at hy
      rw [if_neg hbn, upd_ne _ _ hbn]
      by_cases hbx : b = x
      · subst hbx
        rw [upd_same] at hy; cases hy
        obtain ⟨d, hd, ⟨h1, ⟨cs, ty, h2, h3, h4⟩, h5⟩, hl⟩ := h.ob _ _ ho
        refine .inr ⟨_, d, ho, hd, hd, Iff.rfl, ⟨h1, ⟨cs, ty, h2, by simpa using h3, fun j hj hj' => ?_⟩, h5⟩, hl, hxa⟩
        have hj2 : j < cells.length := by simpa using hj
        have h6 := h4 j hj2 hj'
        refine ⟨?_, h6.2⟩
        by_cases hji : j = i
        · subst hji
          rw [List.getElem_set_self]
          have h7 : cells[j] = .hd a off len := by rw [List.getElem?_eq_getElem hj2] at hi; exact Option.some.inj hi
          have h8 := h6.1
          rw [h7] at h8
          generalize cs[j] = v at h8
          cases h8
          rename_i c' hc' hv
          rw [hc] at hc'; cases hc'
          exact .hd (upd_same _ _ _) hv
        · rw [List.getElem_set_ne (fun e => hji e.symm)]
          exact h6.1.mono (fun _ _ _ => rfl) (fun _ _ h => h) hmu
      · rw [upd_ne _ _ hbx] at hy
        by_cases hba : b = a
        · subst hba
          rw [upd_same] at hy; cases hy
          exact .inl ⟨rfl, rfl⟩
        · rw [upd_ne _ _ hba] at hy
          obtain ⟨d, hd, hok, hl⟩ := h.ob b y hy
          exact .inr ⟨y, d, hy, hd, hd, Iff.rfl, hok.mono (fun _ _ _ => rfl) (fun _ _ h => h) hmu (fun _ => rfl) (fun _ _ h => h), hl, hba⟩
  refine ⟨fun b y hy => ?_, fun b d y z e f hbd hy hz he hf lb ld => ?_, h.zlt, h.grow, h.frame, h.zsub, h.zsup, h.zkeep, fun k hk => ?_, h.oo⟩
  · rcases old b y hy with ⟨rfl, rfl⟩ | ⟨z, d, h1, h2, h3, h4, h5, h6, _⟩
    · exact ⟨c, hmu _ _ hc, trivial, fun hl => hl.elim⟩
    · exact ⟨d, h3, h5, fun hl => h6 (h4.1 hl)⟩
  · rcases old b y hy with ⟨rfl, rfl⟩ | ⟨y', e', h1, h2, h3, h4, _, _, h7⟩
    · exact lb.elim
    · rcases old d z hz with ⟨rfl, rfl⟩ | ⟨z', f', g1, g2, g3, g4, _, _, g7⟩
      · exact ld.elim
      · rw [he] at h3; cases h3
        rw [hf] at g3; cases g3
        refine h.sep _ _ y' z' _ _ ?_ h1 g1 h2 g2 (h4.1 lb) (g4.1 ld)
        by_cases hbn : b = n
        · subst hbn
          rw [if_pos rfl, if_neg (fun e => hbd e.symm)]
          exact fun e => g7 e.symm
        · rw [if_neg hbn]
          by_cases hdn : d = n
          · subst hdn; rw [if_pos rfl]; exact h7
          · rw [if_neg hdn]; exact hbd
  · rw [upd_ne _ _ (by omega)]; exact h.fix k hk

section
variable {C : Ctx} {nt : Nat} {s : St} {K : St → Prop} {E : Nat → St → Prop} {R : St → Prop}
theorem awp_move {c : AC} (x i a : Nat) {off len sz : Nat} {wr wr2 : Bool} {cells xs : List V} (ho : s.o x = some (.box wr cells)) (hi : cells[i]? = some (.hd a off len)) (ha : s.o a = some (.buf wr2 sz xs))
    (h : AWp C nt c { t := s.t, o := upd (upd (upd s.o a (some .dead)) x (some (.box wr (cells.set i (.hd s.n off len))))) s.n (some (.buf wr2 sz xs)), n := s.n + 1 } K E R) : AWp C nt c s K E R := by
  intro code hc u w hs
  obtain ⟨Z, μ, hg, ht, hf, hm, hd, hn⟩ := hs
  obtain ⟨d, hmu, _⟩ := hg.ob _ _ ha
  refine h code hc u w ⟨Z, _, hg.move ho hi ha hmu (hf _ (Nat.le_refl _)) hm, fun j => (ht j).mono (fun _ _ _ => rfl) (fun _ _ h => h) (upd_mu (hf _ (Nat.le_refl _))), fun y hy => ?_, by show C.m ≤ s.n + 1; omega, hd, hn⟩
  have hy2 : s.n + 1 ≤ y := hy
  rw [upd_ne _ _ (by omega)]
  exact hf y (by omega)
end

def boxT (i j : Nat) (xs ys : List V) : Ob := .box true [.hd i 0 xs.length, .hd j 0 ys.length]

/-- The contract of a function whose first argument points to a variable of two slices of its own. -/
structure EvT (Γ : Env) (f : FuncId) (args : List V) (sx sy : Nat) (xs ys : List V) (res : V) (xs2 ys2 : List V) : Prop where
  ev : Ev Γ f (.ptr 0 0 :: args) [boxT 1 2 xs ys, .buf true sx xs, .buf true sy ys] res [boxT 3 4 xs2 ys2, .dead, .dead, .buf true sx xs2, .buf true sy ys2]
  cl : res.closed

theorem awC_T {Γ : Env} {b : Nat} {r : List AO} {s : St} {d : Option Nat} {f : FuncId} {acts : List V} {res : V} {K : St → Prop} {a p q sx sy n m : Nat} {xs ys xs2 ys2 : List V}
    (ha : s.o a = some (.box true [.hd p 0 n, .hd q 0 m])) (hp : s.o p = some (.buf true sx xs)) (hq : s.o q = some (.buf true sy ys))
    (h : EvT Γ f (shutL s.o acts) sx sy xs ys res xs2 ys2) (hn : n = xs.length) (hm : m = ys.length) (hc : shutOkL s.o (some []) acts) (h1 : a ≠ p) (h2 : a ≠ q) (h3 : p ≠ q) (hab : a < b) (hpb : p < b) (hqb : q < b)
    (hk : runO Γ (b + KK) r { t := (s.put d res).t, o := upd (upd (upd (upd (upd s.o (b + 1) (some (.buf true sy ys2))) b (some (.buf true sx xs2))) q (some .dead)) p (some .dead)) a (some (.box true [.hd b 0 xs2.length, .hd (b + 1) 0 ys2.length])), n := s.n } K) : awC Γ b r s d f (.ptr a 0 :: acts) K := by
  subst hn; subst hm
  refine awCall_of ⟨_, _, _, _, [a, p, q], some [], h.ev, ⟨?_, convL_shutB s.o [a, p, q] [] (fun x hx => by cases hx) acts hc⟩, ⟨⟨_, ha, ?_⟩, ⟨_, hp, rfl, rfl⟩, ⟨_, hq, rfl, rfl⟩, trivial⟩, by simp [h1, h2, h3], ?_, by simp, by simp [KK], fun h => by simp at h, ?_⟩
  · simp [conv]
  · show convL _ _ _ _ _
    simp [convL, conv]
  · intro x hx
    simp only [List.mem_cons, List.not_mem_nil, or_false] at hx
    rcases hx with rfl | rfl | rfl <;> assumption
  · rw [closed_ren _ _ h.cl]
    simp only [putBr, putNew, Ob.ren, boxT, renL, V.ren, sig, frz0]
    exact hk

theorem awCs_T {Γ : Env} {b : Nat} {r : List AO} {s : St} {d : Option Nat} {f : FuncId} {x : V} {acts args : List V} {okf : Option (List Nat) → Prop} {res : V} {K : St → Prop} {a p q sx sy n m : Nat} {xs ys xs2 ys2 : List V}
    (ha : s.o a = some (.box true [.hd p 0 n, .hd q 0 m])) (hp : s.o p = some (.buf true sx xs)) (hq : s.o q = some (.buf true sy ys)) (h : EvT Γ f args sx sy xs ys res xs2 ys2)
    (hd : (decide (a ≠ p ∧ a ≠ q ∧ p ≠ q ∧ a < b ∧ p < b ∧ q < b)) = true) (hn : n = xs.length) (hm : m = ys.length) (hc : shutOkL s.o (some []) acts)
    (hk : runO Γ (b + KK) r { t := (s.put d res).t, o := upd (upd (upd (upd (upd s.o (b + 1) (some (.buf true sy ys2))) b (some (.buf true sx xs2))) q (some .dead)) p (some .dead)) a (some (.box true [.hd b 0 xs2.length, .hd (b + 1) 0 ys2.length])), n := s.n } K) : awCs Γ b r s d f (.ptr a 0 :: acts) (x :: args) okf K := by
  intro h1 _
  simp only [shutL, List.cons.injEq] at h1
  obtain ⟨_, rfl⟩ := h1
  obtain ⟨e1, e2, e3, e4, e5, e6⟩ := of_decide_eq_true hd
  exact awC_T ha hp hq h hn hm hc e1 e2 e3 e4 e5 e6 hk

theorem evT_of_body {Γ : Env} {f : FuncId} {nt : Nat} {ac : AC} {rs : List ARes} (hb : Has Γ.P f nt ac rs) {args xs ys xs2 ys2 : List V} {sx sy : Nat} {res : V} (ha : args.length + 1 ≤ nt) (hr : res.closed)
    (h : ∀ C : Ctx, C.env = Γ → C.m = 3 → AWp C nt ac { t := (entrySt (.ptr 0 0 :: args) []).t, o := lookO [(0, .box true [.hd 3 0 xs.length, .hd 4 0 ys.length]), (1, .dead), (2, .dead), (3, .buf true sx xs), (4, .buf true sy ys)], n := 5 }
      (Ends 3 rs res [boxT 3 4 xs2 ys2, .dead, .dead, .buf true sx xs2, .buf true sy ys2]) (fun _ _ => False) (Ends 3 rs res [boxT 3 4 xs2 ys2, .dead, .dead, .buf true sx xs2, .buf true sy ys2])) : EvT Γ f args sx sy xs ys res xs2 ys2 := by
  refine ⟨ev_of_body hb (by simpa using ha) fun C hC hm => ?_, hr⟩
  refine awp_move 0 0 1 (by rfl) (by rfl) (by rfl) ?_
  refine awp_move 0 1 2 (by rfl) (by rfl) (by rfl) ?_
  have e := h C hC hm
  refine (congrArg (fun s => AWp C nt ac s _ _ _) ?_).mp e
  congr 1
  funext k
  match k with
  | 0 => rfl
  | 1 => rfl
  | 2 => rfl
  | 3 => rfl
  | 4 => rfl
  | k + 5 => simp [upd, lookO, entrySt]

theorem ends_t {rs : List ARes} {res : V} {s : St} {xs ys xs' ys' : List V} {sx sy : Nat} (i j n m : Nat) (vs : List V) (h : getRs s rs = some vs) (hc : conv s.o [0, 1, 2, i, j] none (finV vs) res)
    (h0 : s.o 0 = some (.box true [.hd i 0 n, .hd j 0 m])) (hi : s.o i = some (.buf true sx xs')) (hj : s.o j = some (.buf true sy ys'))
    (hi3 : 3 ≤ i) (hj3 : 3 ≤ j) (hij : i ≠ j) (h1 : ∃ x, s.o 1 = some x) (h2 : ∃ x, s.o 2 = some x) (hx : xs' = xs) (hy : ys' = ys) (hn : n = xs.length) (hm : m = ys.length) : Ends 3 rs res [boxT 3 4 xs ys, .dead, .dead, .buf true sx xs, .buf true sy ys] s := by
  subst hn; subst hm; subst hx; subst hy
  obtain ⟨x1, e1⟩ := h1
  obtain ⟨x2, e2⟩ := h2
  refine getRs_aw rs vs _ h ⟨[0, 1, 2, i, j], none, hc, ⟨⟨_, h0, fun h => h, ?_⟩, ⟨_, e1, ?_⟩, ⟨_, e2, ?_⟩, ⟨_, hi, fun h => h, rfl, rfl⟩, ⟨_, hj, fun h => h, rfl, rfl⟩, trivial⟩, ?_, rfl⟩
  · simp [convL, conv]
  · simp [retO]
  · simp [retO]
  · simp; omega
end Av
end

section
namespace Av
open Go

/-- The contract of a function whose first argument is a slice of the caller's own, whole: what is in it ahead and behind. -/
structure EvL (Γ : Env) (f : FuncId) (args : List V) (sz : Nat) (xs : List V) (res : V) (ys : List V) : Prop where
  ev : Ev Γ f (.hd 0 0 xs.length :: args) [.buf true sz xs] res [.buf true sz ys]
  cl : res.closed

theorem awC_L {Γ : Env} {b : Nat} {r : List AO} {s : St} {d : Option Nat} {f : FuncId} {acts : List V} {res : V} {K : St → Prop} {a sz n : Nat} {xs ys : List V}
    (ha : s.o a = some (.buf true sz xs)) (h : EvL Γ f (shutL s.o acts) sz xs res ys) (hn : n = xs.length) (hc : shutOkL s.o (some []) acts) (hab : a < b)
    (hk : runO Γ (b + KK) r { t := (s.put d res).t, o := upd s.o a (some (.buf true sz ys)), n := s.n } K) : awC Γ b r s d f (.hd a 0 n :: acts) K := by
  subst hn
  refine awCall_of ⟨_, _, _, _, [a], some [], h.ev, ⟨?_, convL_shutB s.o [a] [] (fun x hx => by cases hx) acts hc⟩, ⟨⟨_, ha, rfl, rfl⟩, trivial⟩, by simp, ?_, by simp, by simp [KK], fun h => by simp at h, ?_⟩
  · simp [conv]
  · intro x hx
    simp only [List.mem_singleton] at hx
    subst hx; exact hab
  · rw [closed_ren _ _ h.cl]
    simp only [putBr, putNew, Ob.ren, frz0]
    exact hk

theorem awCs_L {Γ : Env} {b : Nat} {r : List AO} {s : St} {d : Option Nat} {f : FuncId} {x : V} {acts args : List V} {okf : Option (List Nat) → Prop} {res : V} {K : St → Prop} {a sz n : Nat} {xs ys : List V}
    (ha : s.o a = some (.buf true sz xs)) (h : EvL Γ f args sz xs res ys) (hab : decide (a < b) = true) (hn : n = xs.length) (hc : shutOkL s.o (some []) acts)
    (hk : runO Γ (b + KK) r { t := (s.put d res).t, o := upd s.o a (some (.buf true sz ys)), n := s.n } K) : awCs Γ b r s d f (.hd a 0 n :: acts) (x :: args) okf K := by
  intro h1 _
  simp only [shutL, List.cons.injEq] at h1
  obtain ⟨_, rfl⟩ := h1
  exact awC_L ha h hn hc (of_decide_eq_true hab) hk

theorem evL_of_body {Γ : Env} {f : FuncId} {nt : Nat} {ac : AC} {rs : List ARes} (hb : Has Γ.P f nt ac rs) {args xs ys : List V} {sz : Nat} {res : V} (ha : args.length + 1 ≤ nt) (hr : res.closed)
    (h : ∀ C : Ctx, C.env = Γ → C.m = 1 → AWp C nt ac { t := (entrySt (.hd 0 0 xs.length :: args) []).t, o := lookO [(0, .buf true sz xs)], n := 1 } (Ends 1 rs res [.buf true sz ys]) (fun _ _ => False) (Ends 1 rs res [.buf true sz ys])) : EvL Γ f args sz xs res ys := by
  refine ⟨ev_of_body hb (by simpa using ha) fun C hC hm => ?_, hr⟩
  refine (congrArg (fun s => AWp C nt ac s _ _ _) ?_).mp (h C hC hm)
  simp only [entrySt]
  congr 1
  funext k
  match k with
  | 0 => rfl
  | k + 1 => simp [lookO]

theorem ends_l {rs : List ARes} {res : V} {s : St} {xs ys : List V} {sz : Nat} (vs : List V) (h : getRs s rs = some vs) (ho : s.o 0 = some (.buf true sz xs)) (hc : conv s.o [0] none (finV vs) res) (hx : xs = ys) : Ends 1 rs res [.buf true sz ys] s := by
  subst hx
  exact getRs_aw rs vs _ h ⟨[0], none, hc, ⟨⟨_, ho, fun h => h, rfl, rfl⟩, trivial⟩, by simp, rfl⟩
@[go_sem] theorem cells_intsT (l : List Int) : (∀ y ∈ l.map V.int, y.cells.length = 1) = True := eq_true (by intro y hy; simp only [List.mem_map] at hy; obtain ⟨x, _, rfl⟩ := hy; rfl)
@[go_sem] theorem cells_strsT (l : List (List UInt8)) : (∀ y ∈ l.map V.str, y.cells.length = 1) = True := eq_true (by intro y hy; simp only [List.mem_map] at hy; obtain ⟨x, _, rfl⟩ := hy; rfl)
end Av
end

section
namespace Av
open Go
abbrev u8V (c : UInt8) : V := V.sc (.int .u8 c.toNat)
theorem ex_bytes (s : List UInt8) : (∃ l : List UInt8, (s.map fun c => V.sc (.int .u8 c.toNat)) = l.map fun c => .sc (.int .u8 c.toNat)) = True := eq_true ⟨s, rfl⟩
theorem back_bytes (s : List UInt8) : (s.map fun c => V.sc (.int .u8 c.toNat)).map byteOf = s := by
  rw [List.map_map]
  conv => rhs; rw [← List.map_id s]
  apply List.map_congr_left
  intro c _; simp [byteOf]
theorem set_bytes (s : List UInt8) (j : Nat) (c : UInt8) : (s.map fun c => V.sc (.int .u8 c.toNat)).set j (V.sc (.int .u8 c.toNat)) = (s.set j c).map fun c => V.sc (.int .u8 c.toNat) := List.map_set.symm
theorem take_bytes (s : List UInt8) (j : Nat) : (s.map fun c => V.sc (.int .u8 c.toNat)).take j = (s.take j).map fun c => V.sc (.int .u8 c.toNat) := List.map_take.symm
theorem drop_bytes (s : List UInt8) (j : Nat) : (s.map fun c => V.sc (.int .u8 c.toNat)).drop j = (s.drop j).map fun c => V.sc (.int .u8 c.toNat) := List.map_drop.symm
theorem app_bytes (s t : List UInt8) : (s.map fun c => V.sc (.int .u8 c.toNat)) ++ (t.map fun c => V.sc (.int .u8 c.toNat)) = (s ++ t).map fun c => V.sc (.int .u8 c.toNat) := List.map_append.symm
theorem cells_bytes (s : List UInt8) : (∀ y ∈ s.map (fun c => V.sc (.int .u8 c.toNat)), y.cells.length = 1) = True := eq_true (by simp [V.cells])
theorem one_byteV (c : UInt8) : [V.sc (.int .u8 c.toNat)] = [c].map fun c => V.sc (.int .u8 c.toNat) := rfl
theorem app_one (s : List UInt8) (c : UInt8) : (s.map fun c => V.sc (.int .u8 c.toNat)) ++ [V.sc (.int .u8 c.toNat)] = (s ++ [c]).map fun c => V.sc (.int .u8 c.toNat) := by simp
theorem u8_of {w : Int} (h0 : 0 ≤ w) (h1 : w ≤ 255) : ∃ c : UInt8, w = (c.toNat : Int) := ⟨UInt8.ofNat w.toNat, by rw [UInt8.toNat_ofNat']; omega⟩
end Av
end

section
namespace Av
open Go

def LeV (x y : V) : Prop := ∀ (w : World) (Z : Nat → Nat → Prop) (μ : Nat → Option Cn) (v : Value), Rep w Z μ v x → Rep w Z μ v y
theorem LeV.refl (x : V) : LeV x x := fun _ _ _ _ h => h
theorem LeV.nil (sz : Nat) : LeV (.sc (.slice none 0 0)) (.sl sz []) := fun _ _ _ _ h => by cases h; exact .sl0
theorem LeV.agg {xs ys : List V} (hl : xs.length = ys.length) (h : ∀ j (h1 : j < xs.length) (h2 : j < ys.length), LeV xs[j] ys[j]) : LeV (.agg xs) (.agg ys) := fun w Z μ v hv => by
  cases hv with
  | agg h1 h2 h3 => exact .agg (h1.trans hl) h2 fun j hj hj' => h j (by omega) hj _ _ _ _ (h3 j (by omega) hj')
theorem LeV.agg2 {a b c d : V} (h1 : LeV a c) (h2 : LeV b d) : LeV (.agg [a, b]) (.agg [c, d]) := .agg rfl fun j hj hj' => by
  match j, hj with
  | 0, _ => exact h1
  | 1, _ => exact h2
theorem EvB.le {Γ : Env} {f : FuncId} {args args' : List V} {res : V} {B : Option (List Nat)} (h : EvB Γ f args res B) (hl : args'.length = args.length)
    (hr : ∀ i (h1 : i < args'.length) (h2 : i < args.length), LeV args'[i] args[i]) : EvB Γ f args' res B :=
  ⟨fun C cargs h1 h2 h3 h4 h5 h6 h7 => h.ev C cargs h1 h2 h3 h4 h5 (h6.trans hl) fun i hi hi' => hr i (by omega) hi _ _ _ _ (h7 i (by omega) hi'), h.cl, h.sh⟩
theorem EvB.le2 {Γ : Env} {f : FuncId} {x y x' y' : V} {res : V} {B : Option (List Nat)} (h : EvB Γ f [x, y] res B) (h1 : LeV x' x) (h2 : LeV y' y) : EvB Γ f [x', y'] res B :=
  h.le rfl fun i hi hi' => by
    match i, hi with
    | 0, _ => exact h1
    | 1, _ => exact h2

section
variable {Γ : Env} {A W : Nat → Bool} {b : Nat} {s : St} {d : Option Nat} {f : FuncId} {acts : List V} {res : V} {J : St → Prop} {cs cs2 : List V} {a : Nat}
/-- A call in a region of open order that is lent a variable. -/
theorem awCR_D (l : List Nat) (hA : A a = true) (hW : W a = true) (ha : s.o a = some (.box true cs)) (h : EvD Γ f (shutL (restrB A s.o) acts) cs res cs2) (hc : shutOkL (restrB A s.o) (some l) acts) (hal : a ∉ l) (hl : ∀ x ∈ l, A x = true ∧ W x = true) (hab : a < b)
    (hk : J { t := (s.put d res).t, o := upd (frzO (some l) [a] s.o) a (some (.box true cs2)), n := s.n }) : awCallR Γ A W b s d f (.ptr a 0 :: acts) J := by
  have hra : restrB A s.o a = some (.box true cs) := by rw [restrB_app, if_pos hA, ha]
  refine ⟨_, _, _, _, [a], some l, h.ev, ⟨?_, convL_shutB _ [a] l ?_ acts hc⟩, ⟨⟨_, hra, convL_closed _ _ _ _ h.c1⟩, trivial⟩, by simp, by simpa using ⟨hab, hW⟩, Nat.le_refl _, by simp [KK], fun h => by simp at h, fun l' hl' => by cases hl'; exact hl, ?_⟩
  · simp [conv]
  · intro x hx hxa
    simp only [List.mem_singleton] at hxa
    subst hxa; exact hal hx
  · rw [closed_ren _ _ h.cl]
    simp only [putBr, putNew, Ob.ren, closedL_ren _ _ h.c2]
    exact hk
theorem awCRs_D {x : V} {args : List V} {okf : Option (List Nat) → Prop} (ha : s.o a = some (.box true cs)) (hA : A a = true) (hW : W a = true) (h : EvD Γ f args cs res cs2) (hal : (shownL acts).contains a = false) (hab : decide (a < b) = true) (hl : ((shownL acts).all fun x => A x && W x) = true) (hc : shutOkL (restrB A s.o) (some (shownL acts)) acts)
    (hk : J { t := (s.put d res).t, o := upd (frzO (some (shownL acts)) [a] s.o) a (some (.box true cs2)), n := s.n }) : awCRs Γ A W b s d f (.ptr a 0 :: acts) (x :: args) okf J := by
  intro h1 _
  simp only [shutL, List.cons.injEq] at h1
  obtain ⟨_, rfl⟩ := h1
  exact awCR_D _ hA hW ha h hc (by simpa using hal) (fun x hx => by simpa using List.all_eq_true.1 hl x hx) (of_decide_eq_true hab) hk
end
end Av
end

section
namespace Av
open Go

/-- The contract of a function whose argument is a method value bound to a variable of the caller's. -/
structure EvM (Γ : Env) (f g : FuncId) (cs : List V) (res : V) (cs2 : List V) : Prop where
  ev : Ev Γ f [.clo (.m g) [.ptr 0 0]] [.box true cs] res [.box true cs2]
  cl : res.closed
  c1 : closedL cs
  c2 : closedL cs2

/-- The contract of a function that is lent two variables and handed a function. -/
structure EvQ (Γ : Env) (f : FuncId) (x : V) (off : Nat) (g : FuncId) (cs ds : List V) (res : V) (cs2 ds2 : List V) : Prop where
  ev : Ev Γ f [.ptr 0 0, x, .ptr 1 off, .clo (.n g) []] [.box true cs, .box true ds] res [.box true cs2, .box true ds2]
  cl : res.closed
  hx : x.closed
  c1 : closedL cs
  d1 : closedL ds
  c2 : closedL cs2
  d2 : closedL ds2

section
variable {Γ : Env} {b : Nat} {r : List AO} {s : St} {d : Option Nat} {f g : FuncId} {acts args : List V} {okf : Option (List Nat) → Prop} {res x : V} {K : St → Prop} {cs cs2 ds ds2 : List V} {a e off : Nat}

theorem awC_M (ha : s.o a = some (.box true cs)) (h : EvM Γ f g cs res cs2) (hab : a < b)
    (hk : runO Γ (b + KK) r { t := (s.put d res).t, o := upd s.o a (some (.box true cs2)), n := s.n } K) : awC Γ b r s d f [.clo (.m g) [.ptr a 0]] K := by
  refine awCall_of ⟨_, _, _, _, [a], some [], h.ev, ⟨?_, trivial⟩, ⟨⟨_, ha, convL_closed _ _ _ _ h.c1⟩, trivial⟩, by simp, by simpa using hab, Nat.le_refl _, by simp [KK], fun h => by simp at h, ?_⟩
  · simp [conv, convL]
  · rw [closed_ren _ _ h.cl]
    simp only [putBr, putNew, Ob.ren, closedL_ren _ _ h.c2, frz0]
    exact hk
theorem awCs_M (ha : s.o a = some (.box true cs)) (h : EvM Γ f g cs res cs2) (hab : decide (a < b) = true)
    (hk : runO Γ (b + KK) r { t := (s.put d res).t, o := upd s.o a (some (.box true cs2)), n := s.n } K) : awCs Γ b r s d f [.clo (.m g) [.ptr a 0]] args okf K :=
  fun _ _ => awC_M ha h (of_decide_eq_true hab) hk

theorem awC_Q (ha : s.o a = some (.box true cs)) (he : s.o e = some (.box true ds)) (h : EvQ Γ f x off g cs ds res cs2 ds2) (hae : a ≠ e) (hab : a < b) (heb : e < b)
    (hk : runO Γ (b + KK) r { t := (s.put d res).t, o := upd (upd s.o e (some (.box true ds2))) a (some (.box true cs2)), n := s.n } K) : awC Γ b r s d f [.ptr a 0, x, .ptr e off, .clo (.n g) []] K := by
  refine awCall_of ⟨_, _, _, _, [a, e], some [], h.ev, ⟨?_, conv_closed _ _ _ _ h.hx, ?_, ?_, trivial⟩, ⟨⟨_, ha, convL_closed _ _ _ _ h.c1⟩, ⟨_, he, convL_closed _ _ _ _ h.d1⟩, trivial⟩, by simpa using hae, ?_, Nat.le_refl _, by simp [KK], fun h => by simp at h, ?_⟩
  · simp [conv]
  · simp [conv]
  · simp [conv, convL]
  · intro y hy
    simp only [List.mem_cons, List.not_mem_nil, or_false] at hy
    rcases hy with rfl | rfl <;> assumption
  · rw [closed_ren _ _ h.cl]
    simp only [putBr, putNew, Ob.ren, closedL_ren _ _ h.c2, closedL_ren _ _ h.d2, frz0]
    exact hk
theorem awCs_Q (ha : s.o a = some (.box true cs)) (he : s.o e = some (.box true ds)) (h : EvQ Γ f x off g cs ds res cs2 ds2) (hd : decide (a ≠ e ∧ a < b ∧ e < b) = true)
    (hk : runO Γ (b + KK) r { t := (s.put d res).t, o := upd (upd s.o e (some (.box true ds2))) a (some (.box true cs2)), n := s.n } K) : awCs Γ b r s d f [.ptr a 0, x, .ptr e off, .clo (.n g) []] args okf K :=
  fun _ _ => by obtain ⟨e1, e2, e3⟩ := of_decide_eq_true hd; exact awC_Q ha he h e1 e2 e3 hk

theorem evM_of_body {nt : Nat} {ac : AC} {rs : List ARes} (hb : Has Γ.P f nt ac rs) (ha : 1 ≤ nt) (hr : res.closed) (h1 : closedL cs) (h2 : closedL cs2)
    (h : ∀ C : Ctx, C.env = Γ → C.m = 1 → AWp C nt ac (entrySt [.clo (.m g) [.ptr 0 0]] [.box true cs]) (Ends 1 rs res [.box true cs2]) (fun _ _ => False) (Ends 1 rs res [.box true cs2])) : EvM Γ f g cs res cs2 :=
  ⟨ev_of_body hb (by simpa using ha) h, hr, h1, h2⟩

theorem evQ_of_body {nt : Nat} {ac : AC} {rs : List ARes} (hb : Has Γ.P f nt ac rs) (ha : 4 ≤ nt) (hr : res.closed) (hx : x.closed) (h1 : closedL cs) (h2 : closedL ds) (h3 : closedL cs2) (h4 : closedL ds2)
    (h : ∀ C : Ctx, C.env = Γ → C.m = 2 → AWp C nt ac (entrySt [.ptr 0 0, x, .ptr 1 off, .clo (.n g) []] [.box true cs, .box true ds]) (Ends 2 rs res [.box true cs2, .box true ds2]) (fun _ _ => False) (Ends 2 rs res [.box true cs2, .box true ds2])) : EvQ Γ f x off g cs ds res cs2 ds2 :=
  ⟨ev_of_body hb (by simpa using ha) h, hr, hx, h1, h2, h3, h4⟩

theorem ends_q {rs : List ARes} (vs : List V) (h : getRs s rs = some vs) (h0 : s.o 0 = some (.box true cs2)) (h1 : s.o 1 = some (.box true ds2)) (hc2 : closedL cs2) (hd2 : closedL ds2) (hc : conv s.o [0, 1] none (finV vs) res) : Ends 2 rs res [.box true cs2, .box true ds2] s :=
  getRs_aw rs vs _ h ⟨[0, 1], none, hc, ⟨⟨_, h0, fun h => h, convL_closed _ _ _ _ hc2⟩, ⟨_, h1, fun h => h, convL_closed _ _ _ _ hd2⟩, trivial⟩, by simp, rfl⟩
end

/-- The contract of a closure whose last argument is a captured variable that holds a slice of its own, to which it appends. -/
structure EvA (Γ : Env) (f : FuncId) (args : List V) (sz : Nat) (xs : List V) (res : V) (ys : List V) : Prop where
  ev : Ev Γ f (args ++ [.ptr 0 0]) [.box true [.hd 1 0 xs.length], .buf true sz xs] res [.box true [.hd 2 0 ys.length], .dead, .buf true sz ys]
  cl : res.closed
  ca : closedL args

theorem convL_app {o : Nat → Option Ob} {br : List Nat} {B : Option (List Nat)} : ∀ {xs ys us vs : List V}, convL o br B xs us → convL o br B ys vs → convL o br B (xs ++ ys) (us ++ vs)
  | [], _, [], _, _, h => h
  | [], _, _ :: _, _, h, _ => by simp [convL] at h
  | _ :: _, _, [], _, h, _ => by simp [convL] at h
  | x :: xs, ys, u :: us, vs, h, h' => by
    simp only [convL] at h
    simp only [List.cons_append, convL]
    exact ⟨h.1, convL_app h.2 h'⟩

section
variable {Γ : Env} {b : Nat} {r : List AO} {s : St} {d : Option Nat} {f : FuncId} {acts args : List V} {okf : Option (List Nat) → Prop} {res : V} {K : St → Prop} {xs ys : List V} {a p n sz : Nat}
theorem awC_Ap (ha : s.o a = some (.box true [.hd p 0 n])) (hp : s.o p = some (.buf true sz xs)) (h : EvA Γ f acts sz xs res ys) (hn : n = xs.length) (h1 : a ≠ p) (hab : a < b) (hpb : p < b)
    (hk : runO Γ (b + KK) r { t := (s.put d res).t, o := upd (upd (upd s.o b (some (.buf true sz ys))) p (some .dead)) a (some (.box true [.hd b 0 ys.length])), n := s.n } K) : awC Γ b r s d f (acts ++ [.ptr a 0]) K := by
  subst hn
  refine awCall_of ⟨_, _, _, _, [a, p], some [], h.ev, convL_app (convL_closed _ _ _ _ h.ca) ⟨?_, trivial⟩, ⟨⟨_, ha, ?_⟩, ⟨_, hp, rfl, rfl⟩, trivial⟩, by simpa using h1, ?_, by simp, by simp [KK], fun h => by simp at h, ?_⟩
  · simp [conv]
  · show convL _ _ _ _ _
    simp [convL, conv]
  · intro y hy
    simp only [List.mem_cons, List.not_mem_nil, or_false] at hy
    rcases hy with rfl | rfl <;> assumption
  · rw [closed_ren _ _ h.cl]
    simp only [putBr, putNew, Ob.ren, renL, V.ren, sig, frz0]
    exact hk
theorem awCs_Ap {x y z : V} (ha : s.o a = some (.box true [.hd p 0 n])) (hp : s.o p = some (.buf true sz xs)) (h : EvA Γ f [x, y, z] sz xs res ys) (hd : decide (a ≠ p ∧ a < b ∧ p < b) = true) (hn : n = xs.length)
    (hk : runO Γ (b + KK) r { t := (s.put d res).t, o := upd (upd (upd s.o b (some (.buf true sz ys))) p (some .dead)) a (some (.box true [.hd b 0 ys.length])), n := s.n } K) : awCs Γ b r s d f [x, y, z, .ptr a 0] args okf K :=
  fun _ _ => by obtain ⟨e1, e2, e3⟩ := of_decide_eq_true hd; exact awC_Ap (acts := [x, y, z]) ha hp h hn e1 e2 e3 hk

theorem evA_of_body {nt : Nat} {ac : AC} {rs : List ARes} (hb : Has Γ.P f nt ac rs) (hl : args.length + 1 ≤ nt) (hr : res.closed) (hc : closedL args)
    (h : ∀ C : Ctx, C.env = Γ → C.m = 2 → AWp C nt ac { t := (entrySt (args ++ [.ptr 0 0]) []).t, o := lookO [(0, .box true [.hd 2 0 xs.length]), (1, .dead), (2, .buf true sz xs)], n := 3 }
      (Ends 2 rs res [.box true [.hd 2 0 ys.length], .dead, .buf true sz ys]) (fun _ _ => False) (Ends 2 rs res [.box true [.hd 2 0 ys.length], .dead, .buf true sz ys])) : EvA Γ f args sz xs res ys := by
  refine ⟨ev_of_body hb (by simpa using hl) fun C hC hm => ?_, hr, hc⟩
  refine awp_move 0 0 1 (by rfl) (by rfl) (by rfl) ?_
  have e := h C hC hm
  refine (congrArg (fun s => AWp C nt ac s _ _ _) ?_).mp e
  congr 1
  funext k
  match k with
  | 0 => rfl
  | 1 => rfl
  | 2 => rfl
  | k + 3 => simp [upd, lookO, entrySt]

theorem ends_a {rs : List ARes} {xs' : List V} (i n : Nat) (vs : List V) (h : getRs s rs = some vs) (hc : conv s.o [0, 1, i] none (finV vs) res)
    (h0 : s.o 0 = some (.box true [.hd i 0 n])) (hi : s.o i = some (.buf true sz xs')) (hi2 : 2 ≤ i) (h1 : ∃ x, s.o 1 = some x) (hx : xs' = ys) (hn : n = ys.length) : Ends 2 rs res [.box true [.hd 2 0 ys.length], .dead, .buf true sz ys] s := by
  subst hn; subst hx
  obtain ⟨x1, e1⟩ := h1
  refine getRs_aw rs vs _ h ⟨[0, 1, i], none, hc, ⟨⟨_, h0, fun h => h, ?_⟩, ⟨_, e1, ?_⟩, ⟨_, hi, fun h => h, rfl, rfl⟩, trivial⟩, ?_, rfl⟩
  · simp [convL, conv]
  · simp [retO]
  · simp; omega
end
end Av
end

section
namespace Av
open Go

abbrev byV (l : List UInt8) : List V := l.map fun c => V.sc (.int .u8 c.toNat)
abbrev nilP : V := .sc (.pointer none)
abbrev nilS : V := .sc (.slice none 0 0)
abbrev bX (Γ : Env) (a0 x : V) : Ob := .typ (bldT Γ.P) (.box true [a0, x])
abbrev bB (Γ : Env) (l : List UInt8) : Ob := .typ (bytT Γ.P) (.buf true 1 (byV l))

/-! Contracts: copyCheck at a fresh builder and at one that was written, WriteString, String. -/
structure BCF (Γ : Env) (f : FuncId) : Prop where
  ev : Ev Γ f [.ptr 0 0] [bX Γ nilP nilS] (.tup []) [bX Γ (.ptr 0 0) nilS]
structure BCU (Γ : Env) (f : FuncId) (l : List UInt8) : Prop where
  ev : Ev Γ f [.ptr 0 0] [bX Γ (.ptr 0 0) (.hd 1 0 l.length), bB Γ l] (.tup []) [bX Γ (.ptr 0 0) (.hd 1 0 l.length), bB Γ l]
structure BWF (Γ : Env) (f : FuncId) (s : List UInt8) : Prop where
  ev : Ev Γ f [.ptr 0 0, V.str s] [bX Γ nilP nilS] (.tup [V.int s.length, .sc .nilIface]) [bX Γ (.ptr 0 0) (.hd 1 0 s.length), bB Γ s]
structure BWU (Γ : Env) (f : FuncId) (l s : List UInt8) : Prop where
  ev : Ev Γ f [.ptr 0 0, V.str s] [bX Γ (.ptr 0 0) (.hd 1 0 l.length), bB Γ l] (.tup [V.int s.length, .sc .nilIface]) [bX Γ (.ptr 0 0) (.hd 2 0 (l ++ s).length), .dead, bB Γ (l ++ s)]
structure BSF (Γ : Env) (f : FuncId) : Prop where
  ev : Ev Γ f [.ptr 0 0] [bX Γ nilP nilS] (V.str []) [.dead]
structure BSU (Γ : Env) (f : FuncId) (l : List UInt8) : Prop where
  ev : Ev Γ f [.ptr 0 0] [bX Γ (.ptr 0 0) (.hd 1 0 l.length), bB Γ l] (V.str l) [.dead, .dead]

section
variable {Γ : Env} {A W : Nat → Bool} {b : Nat} {r : List AO} {s : St} {d : Option Nat} {f : FuncId} {args : List V} {okf : Option (List Nat) → Prop} {J K : St → Prop} {a p n : Nat} {l t : List UInt8}

theorem lentF {o : Nat → Option Ob} {br : List Nat} {B : Option (List Nat)} (ha : o a = some (bX Γ nilP nilS)) : ∃ x, o a = some x ∧ convO o br B x (bX Γ nilP nilS) := ⟨_, ha, rfl, by show convL _ _ _ _ _; simp [convL, conv]⟩
theorem lentU {o : Nat → Option Ob} {B : Option (List Nat)} (ha : o a = some (bX Γ (.ptr a 0) (.hd p 0 n))) : ∃ x, o a = some x ∧ convO o [a, p] B x (bX Γ (.ptr 0 0) (.hd 1 0 n)) := ⟨_, ha, rfl, by show convL _ _ _ _ _; simp [convL, conv]⟩
theorem lentB {o : Nat → Option Ob} {br : List Nat} {B : Option (List Nat)} (ha : o p = some (bB Γ l)) : ∃ x, o p = some x ∧ convO o br B x (bB Γ l) := ⟨_, ha, rfl, rfl, rfl⟩

theorem awCs_CF (ha : s.o a = some (bX Γ nilP nilS)) (h : BCF Γ f) (hab : decide (a < b) = true)
    (hk : runO Γ (b + KK) r { t := (s.put d (.tup [])).t, o := upd s.o a (some (bX Γ (.ptr a 0) nilS)), n := s.n } K) : awCs Γ b r s d f [.ptr a 0] args okf K := fun _ _ => by
  refine awCall_of ⟨_, _, _, _, [a], some [], h.ev, ⟨by simp [conv], trivial⟩, ⟨lentF ha, trivial⟩, by simp, by simpa using of_decide_eq_true hab, by simp, by simp [KK], fun h => by simp at h, ?_⟩
  simp only [putBr, putNew, Ob.ren, renL, V.ren, sig, frz0]
  exact hk

theorem awCs_CU (ha : s.o a = some (bX Γ (.ptr a 0) (.hd p 0 n))) (hp : s.o p = some (bB Γ l)) (h : BCU Γ f l) (hd : decide (a ≠ p ∧ a < b ∧ p < b) = true) (hn : n = l.length)
    (hk : runO Γ (b + KK) r { t := (s.put d (.tup [])).t, o := upd (upd s.o p (some (bB Γ l))) a (some (bX Γ (.ptr a 0) (.hd p 0 n))), n := s.n } K) : awCs Γ b r s d f [.ptr a 0] args okf K := fun _ _ => by
  subst hn
  obtain ⟨e1, e2, e3⟩ := of_decide_eq_true hd
  refine awCall_of ⟨_, _, _, _, [a, p], some [], h.ev, ⟨by simp [conv], trivial⟩, ⟨lentU ha, lentB hp, trivial⟩, by simpa using e1, ?_, by simp, by simp [KK], fun h => by simp at h, ?_⟩
  · intro y hy
    simp only [List.mem_cons, List.not_mem_nil, or_false] at hy
    rcases hy with rfl | rfl <;> assumption
  simp only [putBr, putNew, Ob.ren, renL, V.ren, sig, frz0]
  exact hk

theorem awCs_WF (ha : s.o a = some (bX Γ nilP nilS)) (h : BWF Γ f t) (hab : decide (a < b) = true)
    (hk : runO Γ (b + KK) r { t := (s.put d (.tup [V.int t.length, .sc .nilIface])).t, o := upd (upd s.o b (some (bB Γ t))) a (some (bX Γ (.ptr a 0) (.hd b 0 t.length))), n := s.n } K) : awCs Γ b r s d f [.ptr a 0, V.str t] args okf K := fun _ _ => by
  refine awCall_of ⟨_, _, _, _, [a], some [], h.ev, ⟨by simp [conv], by simp [conv], trivial⟩, ⟨lentF ha, trivial⟩, by simp, by simpa using of_decide_eq_true hab, by simp, by simp [KK], fun h => by simp at h, ?_⟩
  simp only [putBr, putNew, Ob.ren, renL, V.ren, sig, frz0]
  exact hk

theorem awCs_WU (ha : s.o a = some (bX Γ (.ptr a 0) (.hd p 0 n))) (hp : s.o p = some (bB Γ l)) (h : BWU Γ f l t) (hd : decide (a ≠ p ∧ a < b ∧ p < b) = true) (hn : n = l.length)
    (hk : runO Γ (b + KK) r { t := (s.put d (.tup [V.int t.length, .sc .nilIface])).t, o := upd (upd (upd s.o b (some (bB Γ (l ++ t)))) p (some .dead)) a (some (bX Γ (.ptr a 0) (.hd b 0 (l ++ t).length))), n := s.n } K) : awCs Γ b r s d f [.ptr a 0, V.str t] args okf K := fun _ _ => by
  subst hn
  obtain ⟨e1, e2, e3⟩ := of_decide_eq_true hd
  refine awCall_of ⟨_, _, _, _, [a, p], some [], h.ev, ⟨by simp [conv], by simp [conv], trivial⟩, ⟨lentU ha, lentB hp, trivial⟩, by simpa using e1, ?_, by simp, by simp [KK], fun h => by simp at h, ?_⟩
  · intro y hy
    simp only [List.mem_cons, List.not_mem_nil, or_false] at hy
    rcases hy with rfl | rfl <;> assumption
  simp only [putBr, putNew, Ob.ren, renL, V.ren, sig, frz0]
  exact hk

theorem awCs_SF (ha : s.o a = some (bX Γ nilP nilS)) (h : BSF Γ f) (hab : decide (a < b) = true)
    (hk : runO Γ (b + KK) r { t := (s.put d (V.str [])).t, o := upd s.o a (some .dead), n := s.n } K) : awCs Γ b r s d f [.ptr a 0] args okf K := fun _ _ => by
  refine awCall_of ⟨_, _, _, _, [a], some [], h.ev, ⟨by simp [conv], trivial⟩, ⟨lentF ha, trivial⟩, by simp, by simpa using of_decide_eq_true hab, by simp, by simp [KK], fun h => by simp at h, ?_⟩
  simp only [putBr, putNew, Ob.ren, renL, V.ren, sig, frz0]
  exact hk

theorem awCs_SU (ha : s.o a = some (bX Γ (.ptr a 0) (.hd p 0 n))) (hp : s.o p = some (bB Γ l)) (h : BSU Γ f l) (hd : decide (a ≠ p ∧ a < b ∧ p < b) = true) (hn : n = l.length)
    (hk : runO Γ (b + KK) r { t := (s.put d (V.str l)).t, o := upd (upd s.o p (some .dead)) a (some .dead), n := s.n } K) : awCs Γ b r s d f [.ptr a 0] args okf K := fun _ _ => by
  subst hn
  obtain ⟨e1, e2, e3⟩ := of_decide_eq_true hd
  refine awCall_of ⟨_, _, _, _, [a, p], some [], h.ev, ⟨by simp [conv], trivial⟩, ⟨lentU ha, lentB hp, trivial⟩, by simpa using e1, ?_, by simp, by simp [KK], fun h => by simp at h, ?_⟩
  · intro y hy
    simp only [List.mem_cons, List.not_mem_nil, or_false] at hy
    rcases hy with rfl | rfl <;> assumption
  simp only [putBr, putNew, Ob.ren, renL, V.ren, sig, frz0]
  exact hk

/-! In regions of open order. -/
theorem restr_at {o : Nat → Option Ob} {x : Ob} (ha : o a = some x) (hA : A a = true) : restrB A o a = some x := by rw [restrB_app, if_pos hA, ha]

theorem awCRs_WF (ha : s.o a = some (bX Γ nilP nilS)) (hA : A a = true) (hW : W a = true) (h : BWF Γ f t) (hab : decide (a < b) = true)
    (hk : J { t := (s.put d (.tup [V.int t.length, .sc .nilIface])).t, o := upd (upd s.o b (some (bB Γ t))) a (some (bX Γ (.ptr a 0) (.hd b 0 t.length))), n := s.n }) : awCRs Γ A W b s d f [.ptr a 0, V.str t] args okf J := fun _ _ => by
  refine ⟨_, _, _, _, [a], some [], h.ev, ⟨by simp [conv], by simp [conv], trivial⟩, ⟨lentF (restr_at ha hA), trivial⟩, by simp, by simpa using ⟨of_decide_eq_true hab, hW⟩, by simp, by simp [KK], fun h => by simp at h, fun l h x hx => (by cases h; cases hx), ?_⟩
  simp only [putBr, putNew, Ob.ren, renL, V.ren, sig, frz0]
  exact hk

theorem awCRs_WU (ha : s.o a = some (bX Γ (.ptr a 0) (.hd p 0 n))) (hp : s.o p = some (bB Γ l)) (hA : (A a && A p) = true) (hW : (W a && W p) = true) (h : BWU Γ f l t) (hd : decide (a ≠ p ∧ a < b ∧ p < b) = true) (hn : n = l.length)
    (hk : J { t := (s.put d (.tup [V.int t.length, .sc .nilIface])).t, o := upd (upd (upd s.o b (some (bB Γ (l ++ t)))) p (some .dead)) a (some (bX Γ (.ptr a 0) (.hd b 0 (l ++ t).length))), n := s.n }) : awCRs Γ A W b s d f [.ptr a 0, V.str t] args okf J := fun _ _ => by
  subst hn
  obtain ⟨e1, e2, e3⟩ := of_decide_eq_true hd
  simp only [Bool.and_eq_true] at hA hW
  refine ⟨_, _, _, _, [a, p], some [], h.ev, ⟨by simp [conv], by simp [conv], trivial⟩, ⟨lentU (restr_at ha hA.1), lentB (restr_at hp hA.2), trivial⟩, by simpa using e1, ?_, by simp, by simp [KK], fun h => by simp at h, fun l h x hx => (by cases h; cases hx), ?_⟩
  · intro y hy
    simp only [List.mem_cons, List.not_mem_nil, or_false] at hy
    rcases hy with rfl | rfl
    · exact ⟨e2, hW.1⟩
    · exact ⟨e3, hW.2⟩
  simp only [putBr, putNew, Ob.ren, renL, V.ren, sig, frz0]
  exact hk

/-- A call of a closure that appends to a captured slice, in a region of open order. -/
theorem awCRs_Ap {x y z res : V} {xs ys : List V} {sz : Nat} (ha : s.o a = some (.box true [.hd p 0 n])) (hp : s.o p = some (.buf true sz xs)) (hA : (A a && A p) = true) (hW : (W a && W p) = true) (h : EvA Γ f [x, y, z] sz xs res ys) (hd : decide (a ≠ p ∧ a < b ∧ p < b) = true) (hn : n = xs.length)
    (hk : J { t := (s.put d res).t, o := upd (upd (upd s.o b (some (.buf true sz ys))) p (some .dead)) a (some (.box true [.hd b 0 ys.length])), n := s.n }) : awCRs Γ A W b s d f [x, y, z, .ptr a 0] args okf J := fun _ _ => by
  subst hn
  obtain ⟨e1, e2, e3⟩ := of_decide_eq_true hd
  simp only [Bool.and_eq_true] at hA hW
  refine ⟨_, _, _, _, [a, p], some [], h.ev, convL_app (xs := [x, y, z]) (us := [x, y, z]) (convL_closed _ _ _ _ h.ca) ⟨?_, trivial⟩, ⟨⟨_, restr_at ha hA.1, ?_⟩, ⟨_, restr_at hp hA.2, rfl, rfl⟩, trivial⟩, by simpa using e1, ?_, by simp, by simp [KK], fun h => by simp at h, fun l h x hx => (by cases h; cases hx), ?_⟩
  · simp [conv]
  · show convL _ _ _ _ _
    simp [convL, conv]
  · intro y hy
    simp only [List.mem_cons, List.not_mem_nil, or_false] at hy
    rcases hy with rfl | rfl
    · exact ⟨e2, hW.1⟩
    · exact ⟨e3, hW.2⟩
  · rw [closed_ren _ _ h.cl]
    simp only [putBr, putNew, Ob.ren, renL, V.ren, sig, frz0]
    exact hk
end

theorem ends_wf {Γ : Env} {rs : List ARes} {res : V} {s : St} {l l2 : List UInt8} (i : Nat) (vs : List V) {n : Nat} (h : getRs s rs = some vs) (hc : conv s.o [0, i] none (finV vs) res)
    (h0 : s.o 0 = some (bX Γ (.ptr 0 0) (.hd i 0 n))) (hi : s.o i = some (bB Γ l2)) (hi2 : decide (1 ≤ i) = true) (hl : l2 = l) (hn : n = l.length) : Ends 1 rs res [bX Γ (.ptr 0 0) (.hd 1 0 l.length), bB Γ l] s := by
  subst hn; subst hl
  have := of_decide_eq_true hi2
  exact getRs_aw rs vs _ h ⟨[0, i], none, hc, ⟨⟨_, h0, rfl, fun h => h, by show convL _ _ _ _ _; simp [convL, conv]⟩, ⟨_, hi, rfl, fun h => h, rfl, rfl⟩, trivial⟩, by simp; omega, rfl⟩
theorem ends_wu {Γ : Env} {rs : List ARes} {res : V} {s : St} {l l2 : List UInt8} (i : Nat) (vs : List V) {n : Nat} (h : getRs s rs = some vs) (hc : conv s.o [0, 1, i] none (finV vs) res)
    (h0 : s.o 0 = some (bX Γ (.ptr 0 0) (.hd i 0 n))) (h1 : ∃ x, s.o 1 = some x) (hi : s.o i = some (bB Γ l2)) (hi2 : decide (2 ≤ i) = true) (hl : l2 = l) (hn : n = l.length) : Ends 2 rs res [bX Γ (.ptr 0 0) (.hd 2 0 l.length), .dead, bB Γ l] s := by
  subst hn; subst hl
  obtain ⟨x1, e1⟩ := h1
  have := of_decide_eq_true hi2
  exact getRs_aw rs vs _ h ⟨[0, 1, i], none, hc, ⟨⟨_, h0, rfl, fun h => h, by show convL _ _ _ _ _; simp [convL, conv]⟩, ⟨_, e1, by simp [retO]⟩, ⟨_, hi, rfl, fun h => h, rfl, rfl⟩, trivial⟩, by simp; omega, rfl⟩
end Av
end
