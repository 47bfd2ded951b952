/- Functions that are lent one variable: their contracts, calls by them, their ends. -/
import Derived.Test.YtalpffbofjlfgaaDoorK11
import Derived.Lib.ItoaLen
import Derived.Lib.IndexMore
import Derived.Lib.AtoiAll
import Derived.Test.YtalpffbofjlfgaaDoorK10
set_option linter.unusedVariables false
set_option linter.unusedSimpArgs false
section
set_option linter.unusedSimpArgs false
set_option linter.unusedVariables false
set_option maxRecDepth 10000
namespace Av
open Go
attribute [local irreducible] AWp Y0 Xe Xo awS awC Wo awQ Wp QS JT Wm awR JV awB okR Y6 ris
def WA (s : List UInt8) : Int := match Lib.atoiAll s with | .ok v => v | .range => Lib.atoiSat s | _ => 0
def abo (s : List UInt8) : V := match Lib.atoiAll s with | .ok _ => .sc .nilIface | _ => .nn
def UP (Γ : Env) (f : Nat) : Prop := ∀ (s : List UInt8) (hs : s.length < 4294967281), EvN Γ f [V.str s] (.tup [V.int (WA s), abo s])
def Vi (Γ : Env) (f : Nat) : Prop := ∀ (n : Int) (h0 : -9223372036854775808 ≤ n) (h1 : n ≤ 9223372036854775807), EvN Γ f [V.int n] (V.str (Lib.itoa n))
def wM (name : List UInt8) : Nat → List acA → Int
  | _, [] => 0
  | k, r :: rs => if 0 < k ∧ r.name = name then k else wM name (k + 1) rs
end Av
end
section
namespace Av
open Go
structure EvD (Γ : Env) (f : FuncId) (args : List V) (cs : List V) (res : V) (cs2 : List V) : Prop where
  ev : Ev Γ f (.ptr 0 0 :: args) [.box true cs] res [.box true cs2]
  cl : res.closed
  c1 : Qg cs
  c2 : Qg cs2
def Y8 : List V → List Nat
  | [] => []
  | .hd a _ _ :: r => a :: Y8 r
  | .ptr a _ :: r => a :: Y8 r
  | _ :: r => Y8 r
mutual
theorem wS (o : Nat → Option Ob) (br l : List Nat) (hb : ∀ x ∈ l, x ∉ br) : ∀ v : V, v.shutOk0 o (some l) → conv o br (some l) v (v.shut0 o)
  | .top, _ => by simp [V.shut0, conv]
  | .sc _, _ => by simp [V.shut0, conv]
  | .nn, _ => by simp [V.shut0, conv]
  | .sl _ _, _ => by simp [V.shut0, conv]
  | .ro _ _, _ => by simp [V.shut0, conv]
  | .ept _ _ _, _ => by simp [V.shut0, conv]
  | .mp _, _ => by simp [V.shut0, conv]
  | .hd a off len, h => by
    obtain ⟨h1, wr, s, xs, h2⟩ := h
    simp only [V.shut0, h2, conv]
    exact ⟨h1, hb a h1, .inl ⟨wr, xs, rfl, rfl⟩⟩
  | .ptr a off, h => by
    obtain ⟨h1, wr, cs, h2, h3⟩ := h
    simp only [V.shut0, h2, conv]
    exact ⟨h1, hb a h1, trivial, h3, wr, cs, rfl, Ju _ _ _ _ h3⟩
  | .agg cs, h => by simp only [V.shut0, conv]; exact WL o br l hb cs h
  | .tup cs, h => by simp only [V.shut0, conv]; exact WL o br l hb cs h
  | .clo f cs, h => by simp only [V.shut0, conv]; exact ⟨trivial, WL o br l hb cs h⟩
theorem WL (o : Nat → Option Ob) (br l : List Nat) (hb : ∀ x ∈ l, x ∉ br) : ∀ cs : List V, Xx o (some l) cs → JL o br (some l) cs (WI o cs)
  | [], _ => trivial
  | v :: r, h => ⟨wS o br l hb v h.1, WL o br l hb r h.2⟩
end
mutual
theorem aaj (o : Nat → Option Ob) (br l : List Nat) (hb : ∀ x ∈ l, x ∉ br) : ∀ v : V, v.shutOk o (some l) → conv o br (some l) v (v.shut o)
  | .top, _ => by simp [V.shut, conv]
  | .sc _, _ => by simp [V.shut, conv]
  | .nn, _ => by simp [V.shut, conv]
  | .sl _ _, _ => by simp [V.shut, conv]
  | .ro _ _, _ => by simp [V.shut, conv]
  | .ept _ _ _, _ => by simp [V.shut, conv]
  | .mp _, _ => by simp [V.shut, conv]
  | .hd a off len, h => by
    obtain ⟨h1, h2⟩ := h
    unfold adC at h2
    split at h2
    · rename_i wr s xs h3
      simp only [V.shut, h3, conv]
      exact ⟨h1, hb a h1, .inl ⟨wr, xs, rfl, rfl⟩⟩
    · rename_i wr s xs h3
      simp only [V.shut, h3, conv]
      exact ⟨h1, hb a h1, .inr ⟨wr, xs, rfl, WL _ _ _ hb _ h2.1, h2.2, Xk _ _⟩⟩
    · exact h2.elim
  | .ptr a off, h => by
    obtain ⟨h1, wr, cs, h2, h3⟩ := h
    simp only [V.shut, h2, conv]
    exact ⟨h1, hb a h1, trivial, h3, wr, cs, rfl, Ju _ _ _ _ h3⟩
  | .agg cs, h => by simp only [V.shut, conv]; exact Wu o br l hb cs h
  | .tup cs, h => by simp only [V.shut, conv]; exact Wu o br l hb cs h
  | .clo f cs, h => by simp only [V.shut, conv]; exact ⟨trivial, Wu o br l hb cs h⟩
theorem Wu (o : Nat → Option Ob) (br l : List Nat) (hb : ∀ x ∈ l, x ∉ br) : ∀ cs : List V, Jf o (some l) cs → JL o br (some l) cs (Yc o cs)
  | [], _ => trivial
  | v :: r, h => ⟨aaj o br l hb v h.1, Wu o br l hb r h.2⟩
end
section
variable {Γ : Env} {b : Nat} {r : List AO} {s : St} {d : Option Nat} {f : FuncId} {acts : List V} {res : V} {K : St → Prop} {cs cs2 : List V} {a : Nat}
theorem aeI (l : List Nat) (ha : s.o a = some (.box true cs)) (h : EvD Γ f (Yc s.o acts) cs res cs2) (hc : Jf s.o (some l) acts) (hal : a ∉ l) (hab : a < b)
    (hk : Y0 Γ (b + KK) r { t := (s.put d res).t, o := upd (KY (some l) [a] s.o) a (some (.box true cs2)), n := s.n } K) : awC Γ b r s d f (.ptr a 0 :: acts) K := by
  refine UJ ⟨_, _, _, _, [a], some l, h.ev, ⟨?_, Wu s.o [a] l ?_ acts hc⟩, ⟨⟨_, ha, Ju _ _ _ _ h.c1⟩, trivial⟩, by simp, by simpa using hab, Nat.le_refl _, by simp [KK], fun h => by simp at h, ?_⟩
  · simp [conv]
  · intro x hx hxa
    simp only [List.mem_singleton] at hxa
    subst hxa; exact hal hx
  · rw [QU _ _ h.cl]
    simp only [Xf, XT, Ob.ren, QJ _ _ h.c2]
    exact hk
theorem ad9 (ha : s.o a = some (.box true cs)) (h : EvD Γ f (Yc s.o acts) cs res cs2) (hc : Jf s.o (some (Y8 acts)) acts) (hal : a ∉ Y8 acts) (hab : a < b)
    (hk : Y0 Γ (b + KK) r { t := (s.put d res).t, o := upd (KY (some (Y8 acts)) [a] s.o) a (some (.box true cs2)), n := s.n } K) : awC Γ b r s d f (.ptr a 0 :: acts) K := aeI _ ha h hc hal hab hk
theorem YX {x : V} {args : List V} {okf : Option (List Nat) → Prop} (ha : s.o a = some (.box true cs)) (h : EvD Γ f args cs res cs2) (hal : (Y8 acts).contains a = false) (hab : decide (a < b) = true) (hc : Jf s.o (some (Y8 acts)) acts)
    (hk : Y0 Γ (b + KK) r { t := (s.put d res).t, o := upd (KY (some (Y8 acts)) [a] s.o) a (some (.box true cs2)), n := s.n } K) : ad8 Γ b r s d f (.ptr a 0 :: acts) (x :: args) okf K := by
  intro h1 _
  simp only [Yc, List.cons.injEq] at h1
  obtain ⟨_, rfl⟩ := h1
  exact ad9 ha h hc (by simpa using hal) (of_decide_eq_true hab) hk
theorem aeN {br : List Nat} {o : Nat → Option Ob} : KY (some []) br o = o := by
  funext n; simp [KY]
theorem aeU {x a n : Nat} {o : Nat → Option Ob} : KY (some [x]) [a] o n = if n = x then (if x = a then o n else (o n).map Ob.frz) else o n := by
  simp only [KY, List.mem_singleton]
  by_cases h1 : n = x
  · subst h1
    by_cases h2 : n = a <;> simp [h2]
  · simp [h1]
end
theorem Ws {Γ : Env} {f : FuncId} {nt : Nat} {ac : AC} {rs : List Xq} (hb : Has Γ.P f nt ac rs) {args cs cs2 : List V} {res : V} (ha : args.length + 1 ≤ nt) (hr : res.closed) (h1 : Qg cs) (h2 : Qg cs2)
    (h : ∀ C : Ctx, C.env = Γ → C.m = 1 → AWp C nt ac (W7 (.ptr 0 0 :: args) [.box true cs]) (wY 1 rs res [.box true cs2]) (fun _ _ => False) (wY 1 rs res [.box true cs2])) : EvD Γ f args cs res cs2 :=
  ⟨UX hb (by simpa using ha) h, hr, h1, h2⟩
theorem Kf {rs : List Xq} {res : V} {s : St} {cs2 : List V} (vs : List V) (h : wK s rs = some vs) (ho : s.o 0 = some (.box true cs2)) (h2 : Qg cs2) (hc : conv s.o [0] none (acf vs) res) : wY 1 rs res [.box true cs2] s :=
  jv rs vs _ h ⟨[0], none, hc, ⟨⟨_, ho, fun h => h, Ju _ _ _ _ h2⟩, trivial⟩, by simp, rfl⟩
structure EvR (Γ : Env) (f : FuncId) (args : List V) (cs : List V) : Prop where
  ev : Ev Γ f args [] (.ptr 0 0) [.box true cs]
  c1 : Qg cs
theorem aeG {Γ : Env} {b : Nat} {r : List AO} {s : St} {d : Option Nat} {f : FuncId} {acts cs : List V} {K : St → Prop} (h : EvR Γ f (Yc s.o acts) cs) (hc : Jf s.o (some (Y8 acts)) acts)
    (hk : Y0 Γ (b + KK) r { t := (s.put d (.ptr b 0)).t, o := upd (KY (some (Y8 acts)) [] s.o) b (some (.box true cs)), n := s.n } K) : awC Γ b r s d f acts K := by
  refine UJ ⟨_, _, _, _, [], some (Y8 acts), h.ev, YZ _ _ _ hc, trivial, List.nodup_nil, fun x hx => by simp at hx, by simp, by simp [KK], fun h => by simp at h, ?_⟩
  simp only [Xf, XT, Ob.ren, QJ _ _ h.c1, V.ren, sig]
  exact hk
theorem Vg {Γ : Env} {b : Nat} {r : List AO} {s : St} {d : Option Nat} {f : FuncId} {acts args cs : List V} {K : St → Prop} {okf : Option (List Nat) → Prop} (h : EvR Γ f args cs) (hc : okf (some (Y8 acts)))
    (hk : Y0 Γ (b + KK) r { t := (s.put d (.ptr b 0)).t, o := upd (KY (some (Y8 acts)) [] s.o) b (some (.box true cs)), n := s.n } K) : ad8 Γ b r s d f acts args okf K := by
  rintro rfl rfl; exact aeG h hc hk
theorem wQ {Γ : Env} {f : FuncId} {nt : Nat} {ac : AC} {rs : List Xq} (hb : Has Γ.P f nt ac rs) {args cs : List V} (ha : args.length ≤ nt) (h1 : Qg cs)
    (h : ∀ C : Ctx, C.env = Γ → C.m = 0 → AWp C nt ac (W7 args []) (wY 0 rs (.ptr 0 0) [.box true cs]) (fun _ _ => False) (wY 0 rs (.ptr 0 0) [.box true cs])) : EvR Γ f args cs :=
  ⟨UX hb ha h, h1⟩
theorem adT {rs : List Xq} {s : St} {cs : List V} (a : Nat) (h : wK s rs = some [.ptr a 0]) (ho : s.o a = some (.box true cs)) (h2 : Qg cs) : wY 0 rs (.ptr 0 0) [.box true cs] s :=
  jv rs _ _ h ⟨[a], none, by simp [acf, conv], ⟨⟨_, ho, fun h => h, Ju _ _ _ _ h2⟩, trivial⟩, by simp, rfl⟩
attribute [go_sem] aeN aeU Y8 Ob.frz
end Av
end
section
set_option linter.unusedSimpArgs false
set_option linter.unusedVariables false
set_option maxRecDepth 10000
namespace Av
open Go
attribute [local irreducible] AWp Y0 Xe Xo awS awC Wo awQ Wp QS JT Wm awR JV awB okR Y6 ris
structure Vh where
  code : Int
  name : List UInt8
  kx1 : Int
  kx2 : Int
  sg1 : Int
  sg2 : Int
  ci1 : Int
  ci2 : Int
  mc1 : Int
  mc2 : Int
  lo : Int
  hi : Int
  deriving DecidableEq
def Vh.cells (s : Vh) : List V := [V.int s.code, V.str s.name, V.int s.kx1, V.int s.kx2, V.int s.sg1, V.int s.sg2, V.int s.ci1, V.int s.ci2, V.int s.mc1, V.int s.mc2, V.int s.lo, V.int s.hi]
def Vh.v (s : Vh) : V := .agg s.cells
def qo : List Vh := [⟨1, [114, 115, 97, 45, 114, 99, 52, 45, 109, 100, 53], 10, 0, 5, 0, 14, 128, 19, 0, 1, 2⟩, ⟨2, [114, 115, 97, 45, 114, 99, 52, 45, 115, 104, 97], 10, 0, 5, 0, 14, 128, 20, 0, 1, 3⟩, ⟨3, [114, 115, 97, 45, 100, 101, 115, 51, 45, 115, 104, 97], 10, 0, 5, 0, 15, 168, 20, 0, 1, 3⟩, ⟨4, [100, 104, 101, 45, 100, 115, 97, 45, 100, 101, 115, 51, 45, 115, 104, 97], 11, 1024, 6, 0, 15, 168, 20, 0, 1, 3⟩, ⟨5, [100, 104, 101, 45, 114, 115, 97, 45, 100, 101, 115, 51, 45, 115, 104, 97], 11, 1024, 5, 0, 15, 168, 20, 0, 1, 3⟩, ⟨6, [114, 115, 97, 45, 97, 101, 115, 49, 50, 56, 45, 115, 104, 97], 10, 0, 5, 0, 16, 128, 20, 0, 1, 3⟩, ⟨7, [100, 104, 101, 45, 114, 115, 97, 45, 97, 101, 115, 49, 50, 56, 45, 115, 104, 97], 11, 2048, 5, 0, 16, 128, 20, 0, 1, 3⟩, ⟨8, [101, 99, 100, 104, 101, 45, 114, 115, 97, 45, 97, 101, 115, 49, 50, 56, 45, 115, 104, 97], 12, 256, 5, 0, 16, 128, 20, 0, 1, 3⟩, ⟨9, [101, 99, 100, 104, 101, 45, 101, 99, 100, 115, 97, 45, 97, 101, 115, 50, 53, 54, 45, 115, 104, 97, 50, 53, 54], 12, 256, 7, 0, 16, 256, 21, 0, 3, 3⟩, ⟨10, [101, 99, 100, 104, 101, 45, 114, 115, 97, 45, 97, 101, 115, 49, 50, 56, 45, 103, 99, 109], 12, 256, 5, 0, 17, 128, 22, 0, 3, 3⟩, ⟨11, [101, 99, 100, 104, 101, 45, 101, 99, 100, 115, 97, 45, 97, 101, 115, 50, 53, 54, 45, 103, 99, 109], 12, 384, 7, 0, 17, 256, 22, 0, 3, 3⟩, ⟨12, [101, 99, 100, 104, 101, 45, 114, 115, 97, 45, 99, 104, 97, 99, 104, 97], 12, 256, 5, 0, 18, 0, 22, 0, 3, 3⟩, ⟨13, [114, 115, 97, 45, 97, 101, 115, 50, 53, 54, 45, 103, 99, 109], 10, 0, 5, 0, 17, 256, 22, 0, 3, 3⟩, ⟨14, [97, 101, 115, 49, 50, 56, 45, 103, 99, 109], 12, 256, 0, 0, 17, 128, 22, 0, 4, 4⟩, ⟨15, [99, 104, 97, 99, 104, 97], 12, 256, 0, 0, 18, 0, 22, 0, 4, 4⟩, ⟨16, [109, 108, 107, 101, 109, 45, 97, 101, 115, 50, 53, 54, 45, 103, 99, 109], 13, 768, 0, 0, 17, 256, 22, 0, 4, 4⟩]
end Av
end
section
set_option linter.unusedSimpArgs false
set_option linter.unusedVariables false
set_option maxRecDepth 10000
namespace Av
open Go
attribute [local irreducible] AWp Y0 Xe Xo awS awC Wo awQ Wp QS JT Wm awR JV awB okR Y6 ris
end Av
end
section
set_option linter.unusedSimpArgs false
set_option linter.unusedVariables false
set_option maxRecDepth 10000
set_option maxHeartbeats 4000000
namespace Av
open Go
attribute [local irreducible] AWp Y0 Xe Xo awS awC Wo awQ Wp QS JT Wm awR JV awB okR Y6 ris
end Av
end
section
set_option linter.unusedSimpArgs false
set_option linter.unusedVariables false
set_option maxHeartbeats 4000000
set_option maxRecDepth 10000
namespace Av
open Go
attribute [local irreducible] AWp Y0 Xe Xo awS awC Wo awQ Wp QS JT Wm awR JV awB okR Y6 ris
end Av
end
section
set_option linter.unusedSimpArgs false
set_option linter.unusedVariables false
set_option maxRecDepth 10000
set_option maxHeartbeats 4000000
namespace Av
open Go
attribute [local irreducible] AWp Y0 Xe Xo awS awC Wo awQ Wp QS JT Wm awR JV awB okR Y6 ris
end Av
end
