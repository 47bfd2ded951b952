/- Functions that are lent one variable: their contracts, calls by them, their ends. -/
import Derived.Test.YtdjmgokhpganaaaDoorAv3
set_option linter.unusedVariables false
set_option linter.unusedSimpArgs false
section
namespace Av
open Go

/-- The contract of a function whose first argument points to a variable of the caller's: what the variable holds ahead and behind. -/
structure EvD (Γ : Env) (f : FuncId) (args : List V) (cs : List V) (res : V) (cs2 : List V) : Prop where
  ev : Ev Γ f (.ptr 0 0 :: args) [.box true cs] res [.box true cs2]
  cl : res.closed
  c1 : closedL cs
  c2 : closedL cs2

/-- The objects that arguments name. -/
def shownL : List V → List Nat
  | [] => []
  | .hd a _ _ :: r => a :: shownL r
  | .ptr a _ :: r => a :: shownL r
  | _ :: r => shownL r

mutual
theorem conv_shutB (o : Nat → Option Ob) (br l : List Nat) (hb : ∀ x ∈ l, x ∉ br) : ∀ v : V, v.shutOk o (some l) → conv o br (some l) v (v.shut o)
  | .top, _ => by simp [V.shut, conv]
  | .sc _, _ => by simp [V.shut, conv]
  | .nn, _ => by simp [V.shut, conv]
  | .sl _ _, _ => by simp [V.shut, conv]
  | .ro _ _, _ => by simp [V.shut, conv]
  | .ept _ _ _, _ => by simp [V.shut, conv]
  | .hd a off len, h => by
    obtain ⟨h1, wr, s, xs, h2⟩ := h
    simp only [V.shut, h2, conv]
    exact ⟨h1, hb a h1, wr, xs, rfl, rfl⟩
  | .ptr a off, h => by
    obtain ⟨h1, wr, cs, h2, h3⟩ := h
    simp only [V.shut, h2, conv]
    exact ⟨h1, hb a h1, trivial, h3, wr, cs, rfl, convL_closed _ _ _ _ h3⟩
  | .agg cs, h => by simp only [V.shut, conv]; exact convL_shutB o br l hb cs h
  | .tup cs, h => by simp only [V.shut, conv]; exact convL_shutB o br l hb cs h
  | .clo f cs, h => by simp only [V.shut, conv]; exact ⟨trivial, convL_shutB o br l hb cs h⟩
theorem convL_shutB (o : Nat → Option Ob) (br l : List Nat) (hb : ∀ x ∈ l, x ∉ br) : ∀ cs : List V, shutOkL o (some l) cs → convL o br (some l) cs (shutL o cs)
  | [], _ => trivial
  | v :: r, h => ⟨conv_shutB o br l hb v h.1, convL_shutB o br l hb r h.2⟩
end

section
variable {Γ : Env} {b : Nat} {r : List AO} {s : St} {d : Option Nat} {f : FuncId} {acts : List V} {res : V} {K : St → Prop} {cs cs2 : List V} {a : Nat}

theorem awC_D (l : List Nat) (ha : s.o a = some (.box true cs)) (h : EvD Γ f (shutL s.o acts) cs res cs2) (hc : shutOkL s.o (some l) acts) (hal : a ∉ l) (hab : a < b)
    (hk : runO Γ (b + KK) r { t := (s.put d res).t, o := upd (frzO (some l) [a] s.o) a (some (.box true cs2)), n := s.n } K) : awC Γ b r s d f (.ptr a 0 :: acts) K := by
  refine ⟨_, _, _, _, [a], some l, h.ev, ⟨?_, convL_shutB s.o [a] l ?_ acts hc⟩, ⟨⟨_, ha, convL_closed _ _ _ _ h.c1⟩, trivial⟩, by simp, by simpa using hab, Nat.le_refl _, by simp [KK], fun h => by simp at h, ?_⟩
  · simp [conv]
  · intro x hx hxa
    simp only [List.mem_singleton] at hxa
    subst hxa; exact hal hx
  · rw [closed_ren _ _ h.cl]
    simp only [putBr, putNew, Ob.ren, closedL_ren _ _ h.c2]
    exact hk

theorem awC_D1 (ha : s.o a = some (.box true cs)) (h : EvD Γ f (shutL s.o acts) cs res cs2) (hc : shutOkL s.o (some (shownL acts)) acts) (hal : a ∉ shownL acts) (hab : a < b)
    (hk : runO Γ (b + KK) r { t := (s.put d res).t, o := upd (frzO (some (shownL acts)) [a] s.o) a (some (.box true cs2)), n := s.n } K) : awC Γ b r s d f (.ptr a 0 :: acts) K := awC_D _ ha h hc hal hab hk

theorem frz0 {br : List Nat} {o : Nat → Option Ob} : frzO (some []) br o = o := by
  funext n; simp [frzO]
theorem frz1 {x a n : Nat} {o : Nat → Option Ob} : frzO (some [x]) [a] o n = if n = x then (if x = a then o n else (o n).map Ob.frz) else o n := by
  simp only [frzO, List.mem_singleton]
  by_cases h1 : n = x
  · subst h1
    by_cases h2 : n = a <;> simp [h2]
  · simp [h1]
end

theorem evD_of_body {Γ : Env} {f : FuncId} {nt : Nat} {ac : AC} {rs : List ARes} (hb : Has Γ.P f nt ac rs) {args cs cs2 : List V} {res : V} (ha : args.length + 1 ≤ nt) (hr : res.closed) (h1 : closedL cs) (h2 : closedL cs2)
    (h : ∀ C : Ctx, C.env = Γ → C.m = 1 → AWp C nt ac (entrySt (.ptr 0 0 :: args) [.box true cs]) (Ends 1 rs res [.box true cs2]) (fun _ _ => False) (Ends 1 rs res [.box true cs2])) : EvD Γ f args cs res cs2 :=
  ⟨ev_of_body hb (by simpa using ha) h, hr, h1, h2⟩

theorem ends_d {rs : List ARes} {res : V} {s : St} {cs2 : List V} (vs : List V) (h : getRs s rs = some vs) (ho : s.o 0 = some (.box true cs2)) (h2 : closedL cs2) (hc : conv s.o [0] none (finV vs) res) : Ends 1 rs res [.box true cs2] s :=
  getRs_aw rs vs _ h ⟨[0], none, hc, ⟨⟨_, ho, fun h => h, convL_closed _ _ _ _ h2⟩, trivial⟩, by simp, rfl⟩

/-- The contract of a function that makes one variable and answers a pointer to it. -/
structure EvR (Γ : Env) (f : FuncId) (args : List V) (cs : List V) : Prop where
  ev : Ev Γ f args [] (.ptr 0 0) [.box true cs]
  c1 : closedL cs

theorem awC_R {Γ : Env} {b : Nat} {r : List AO} {s : St} {d : Option Nat} {f : FuncId} {acts cs : List V} {K : St → Prop} (h : EvR Γ f (shutL s.o acts) cs) (hc : shutOkL s.o (some (shownL acts)) acts)
    (hk : runO Γ (b + KK) r { t := (s.put d (.ptr b 0)).t, o := upd (frzO (some (shownL acts)) [] s.o) b (some (.box true cs)), n := s.n } K) : awC Γ b r s d f acts K := by
  refine ⟨_, _, _, _, [], some (shownL acts), h.ev, convL_shut _ _ _ hc, trivial, List.nodup_nil, fun x hx => by simp at hx, by simp, by simp [KK], fun h => by simp at h, ?_⟩
  simp only [putBr, putNew, Ob.ren, closedL_ren _ _ h.c1, V.ren, sig]
  exact hk

theorem evR_of_body {Γ : Env} {f : FuncId} {nt : Nat} {ac : AC} {rs : List ARes} (hb : Has Γ.P f nt ac rs) {args cs : List V} (ha : args.length ≤ nt) (h1 : closedL cs)
    (h : ∀ C : Ctx, C.env = Γ → C.m = 0 → AWp C nt ac (entrySt args []) (Ends 0 rs (.ptr 0 0) [.box true cs]) (fun _ _ => False) (Ends 0 rs (.ptr 0 0) [.box true cs])) : EvR Γ f args cs :=
  ⟨ev_of_body hb ha h, h1⟩

theorem ends_n {rs : List ARes} {s : St} {cs : List V} (a : Nat) (h : getRs s rs = some [.ptr a 0]) (ho : s.o a = some (.box true cs)) (h2 : closedL cs) : Ends 0 rs (.ptr 0 0) [.box true cs] s :=
  getRs_aw rs _ _ h ⟨[a], none, by simp [finV, conv], ⟨⟨_, ho, fun h => h, convL_closed _ _ _ _ h2⟩, trivial⟩, by simp, rfl⟩

attribute [go_sem] frz0 frz1 shownL Ob.frz
end Av
end
