/- Functions that are lent one variable: their contracts, calls by them, their ends. -/
import Derived.Test.YtalpffbofjlfgaaGreatDoorK11
import Derived.Lib.ItoaLen
import Derived.Lib.IndexMore
import Derived.Lib.AtoiAll
import Derived.Test.YtalpffbofjlfgaaGreatDoorK10
set_option linter.unusedVariables false
set_option linter.unusedSimpArgs false
section
set_option linter.unusedSimpArgs false
set_option linter.unusedVariables false
set_option maxRecDepth 10000
namespace Av
open Go
attribute [local irreducible] AWp Wz WQ W4 awS awC V1 awQ Ue Jc YR VY awR YY awB okR Wt ris
def K6 (s : List UInt8) : Int := match Lib.atoiAll s with | .ok v => v | .range => Lib.atoiSat s | _ => 0
def aix (s : List UInt8) : V := match Lib.atoiAll s with | .ok _ => .sc .nilIface | _ => .nn
def xk (Γ : Env) (f : Nat) : Prop := ∀ (s : List UInt8) (hs : s.length < 4294967281), EvN Γ f [V.str s] (.tup [V.int (K6 s), aix s])
def jh (Γ : Env) (f : Nat) : Prop := ∀ (n : Int) (h0 : -9223372036854775808 ≤ n) (h1 : n ≤ 9223372036854775807), EvN Γ f [V.int n] (V.str (Lib.itoa n))
def jc (VF : Nat) : AC := Qr [1] (.reg [xo 1 (.box true 2 (.t 0)), mc 2 (V.bool false)]) (Qr [2] (.reg [xo 3 (.load true 2 (.t 1)), cl 4 VF [3], bc 5 .gtr 4 (V.int 0), mv 2 5]) (.ret)) def r_catalog_Valid : List Wc := [.tmp 2]
def qJ (Γ : Env) (f : Nat) : Prop := ∀ (a b : Int), EvN Γ f [.agg [V.int a, V.int b]] (V.bool (decide (Ka a b > 0)))
theorem abj {Γ : Env} {f VF : Nat} (h : Has Γ.P f 6 (jc VF) r_catalog_Valid) (vl : U2 Γ VF) : qJ Γ f := by
  intro a b
  refine QV h (by simp) (by simp only [V.closed, Qj, V.noSl, Jy, and_self, and_true, true_and]) (by simp only [V.closed, Qj, V.noSl, Jy, and_self, and_true, true_and]) fun C hC hm => ?_
  subst hC
  unfold jc
  repeat' (first | refine Qb fun K' hK => ?_ | refine Qe fun K' hK => ?_ | refine Qc ?_ | refine Qd ?_ | refine Qa ?_ | ((first | refine Qg ⟨_, rfl, fun hc => ?_, fun hc => ?_⟩ | refine QL (fun hc => ?_) (fun hc => ?_) | refine QM (fun hc => ?_) (fun hc => ?_)) <;> first | exact Bool.noConfusion hc | ((try simp only [znz] at hc); first | exact znf | skip)) | refine Qi ?_ | refine Qf ?_ | simp (maxSteps := 1000000) only [go_sem, Nat.reduceAdd, Nat.reduceMul, Nat.reduceEqDiff, Nat.reduceLeDiff, Nat.reduceLT, Nat.reduceSub, Int.reduceEq, Int.reduceBEq, Int.reduceLT, Int.reduceLE, Int.reduceAdd, Int.reduceToNat, reduceIte, reduceCtorEq] | (refine hK _ ?_; clear hK; clear K') | refine And.intro ?_ ?_ | (apply QX; (focus first | exact (vl _ _).b)) | exact zlo | omega | exact zms)
  refine Jb _ rfl ?_; simp only [go_sem, Nat.reduceEqDiff, Nat.reduceAdd, reduceIte, reduceCtorEq]
def afk (name : List UInt8) : Nat → List acm → Int
  | _, [] => 0
  | k, r :: rs => if 0 < k ∧ r.name = name then k else afk name (k + 1) rs
end Av
end
section
namespace Av
open Go
structure EvD (Γ : Env) (f : FuncId) (args : List V) (cs : List V) (res : V) (cs2 : List V) : Prop where
  ev : Ev Γ f (.ptr 0 0 :: args) [.box true cs] res [.box true cs2]
  cl : res.closed
  c1 : Qj cs
  c2 : Qj cs2
def Uj : List V → List Nat
  | [] => []
  | .hd a _ _ :: r => a :: Uj r
  | .ptr a _ :: r => a :: Uj r
  | _ :: r => Uj r
mutual
theorem afv (o : Nat → Option Ob) (br l : List Nat) (hb : ∀ x ∈ l, x ∉ br) : ∀ v : V, v.shutOk0 o (some l) → conv o br (some l) v (v.shut0 o)
  | .top, _ => by simp [V.shut0, conv]
  | .sc _, _ => by simp [V.shut0, conv]
  | .nn, _ => by simp [V.shut0, conv]
  | .sl _ _, _ => by simp [V.shut0, conv]
  | .ro _ _, _ => by simp [V.shut0, conv]
  | .ept _ _ _, _ => by simp [V.shut0, conv]
  | .mp _, _ => by simp [V.shut0, conv]
  | .hd a off len, h => by
    obtain ⟨h1, wr, s, xs, h2⟩ := h
    simp only [V.shut0, h2, conv]
    exact ⟨h1, hb a h1, .inl ⟨wr, xs, rfl, rfl⟩⟩
  | .ptr a off, h => by
    obtain ⟨h1, wr, cs, h2, h3⟩ := h
    simp only [V.shut0, h2, conv]
    exact ⟨h1, hb a h1, trivial, h3, wr, cs, rfl, Yi _ _ _ _ h3⟩
  | .agg cs, h => by simp only [V.shut0, conv]; exact ql o br l hb cs h
  | .tup cs, h => by simp only [V.shut0, conv]; exact ql o br l hb cs h
  | .clo f cs, h => by simp only [V.shut0, conv]; exact ⟨trivial, ql o br l hb cs h⟩
theorem ql (o : Nat → Option Ob) (br l : List Nat) (hb : ∀ x ∈ l, x ∉ br) : ∀ cs : List V, jr o (some l) cs → Xx o br (some l) cs (yF o cs)
  | [], _ => trivial
  | v :: r, h => ⟨afv o br l hb v h.1, ql o br l hb r h.2⟩
end
mutual
theorem ag5 (o : Nat → Option Ob) (br l : List Nat) (hb : ∀ x ∈ l, x ∉ br) : ∀ v : V, v.shutOk o (some l) → conv o br (some l) v (v.shut o)
  | .top, _ => by simp [V.shut, conv]
  | .sc _, _ => by simp [V.shut, conv]
  | .nn, _ => by simp [V.shut, conv]
  | .sl _ _, _ => by simp [V.shut, conv]
  | .ro _ _, _ => by simp [V.shut, conv]
  | .ept _ _ _, _ => by simp [V.shut, conv]
  | .mp _, _ => by simp [V.shut, conv]
  | .hd a off len, h => by
    obtain ⟨h1, h2⟩ := h
    unfold akS at h2
    split at h2
    · rename_i wr s xs h3
      simp only [V.shut, h3, conv]
      exact ⟨h1, hb a h1, .inl ⟨wr, xs, rfl, rfl⟩⟩
    · rename_i wr s xs h3
      simp only [V.shut, h3, conv]
      exact ⟨h1, hb a h1, .inr ⟨wr, xs, rfl, ql _ _ _ hb _ h2.1, h2.2, Ud _ _⟩⟩
    · exact h2.elim
  | .ptr a off, h => by
    obtain ⟨h1, wr, cs, h2, h3⟩ := h
    simp only [V.shut, h2, conv]
    exact ⟨h1, hb a h1, trivial, h3, wr, cs, rfl, Yi _ _ _ _ h3⟩
  | .agg cs, h => by simp only [V.shut, conv]; exact Vh o br l hb cs h
  | .tup cs, h => by simp only [V.shut, conv]; exact Vh o br l hb cs h
  | .clo f cs, h => by simp only [V.shut, conv]; exact ⟨trivial, Vh o br l hb cs h⟩
theorem Vh (o : Nat → Option Ob) (br l : List Nat) (hb : ∀ x ∈ l, x ∉ br) : ∀ cs : List V, JB o (some l) cs → Xx o br (some l) cs (XY o cs)
  | [], _ => trivial
  | v :: r, h => ⟨ag5 o br l hb v h.1, Vh o br l hb r h.2⟩
end
section
variable {Γ : Env} {b : Nat} {r : List AO} {s : St} {d : Option Nat} {f : FuncId} {acts : List V} {res : V} {K : St → Prop} {cs cs2 : List V} {a : Nat}
theorem al9 (l : List Nat) (ha : s.o a = some (.box true cs)) (h : EvD Γ f (XY s.o acts) cs res cs2) (hc : JB s.o (some l) acts) (hal : a ∉ l) (hab : a < b)
    (hk : Wz Γ (b + KK) r { t := (s.put d res).t, o := upd (wN (some l) [a] s.o) a (some (.box true cs2)), n := s.n } K) : awC Γ b r s d f (.ptr a 0 :: acts) K := by
  refine qm ⟨_, _, _, _, [a], some l, h.ev, ⟨?_, Vh s.o [a] l ?_ acts hc⟩, ⟨⟨_, ha, Yi _ _ _ _ h.c1⟩, trivial⟩, by simp, by simpa using hab, Nat.le_refl _, by simp [KK], fun h => by simp at h, ?_⟩
  · simp [conv]
  · intro x hx hxa
    simp only [List.mem_singleton] at hxa
    subst hxa; exact hal hx
  · rw [Qo _ _ h.cl]
    simp only [Ur, KG, Ob.ren, Qk _ _ h.c2]
    exact hk
theorem alu (ha : s.o a = some (.box true cs)) (h : EvD Γ f (XY s.o acts) cs res cs2) (hc : JB s.o (some (Uj acts)) acts) (hal : a ∉ Uj acts) (hab : a < b)
    (hk : Wz Γ (b + KK) r { t := (s.put d res).t, o := upd (wN (some (Uj acts)) [a] s.o) a (some (.box true cs2)), n := s.n } K) : awC Γ b r s d f (.ptr a 0 :: acts) K := al9 _ ha h hc hal hab hk
theorem XS {x : V} {args : List V} {okf : Option (List Nat) → Prop} (ha : s.o a = some (.box true cs)) (h : EvD Γ f args cs res cs2) (hal : (Uj acts).contains a = false) (hab : decide (a < b) = true) (hc : JB s.o (some (Uj acts)) acts)
    (hk : Wz Γ (b + KK) r { t := (s.put d res).t, o := upd (wN (some (Uj acts)) [a] s.o) a (some (.box true cs2)), n := s.n } K) : ajZ Γ b r s d f (.ptr a 0 :: acts) (x :: args) okf K := by
  intro h1 _
  simp only [XY, List.cons.injEq] at h1
  obtain ⟨_, rfl⟩ := h1
  exact alu ha h hc (by simpa using hal) (of_decide_eq_true hab) hk
theorem alY {br : List Nat} {o : Nat → Option Ob} : wN (some []) br o = o := by
  funext n; simp [wN]
theorem amj {x a n : Nat} {o : Nat → Option Ob} : wN (some [x]) [a] o n = if n = x then (if x = a then o n else (o n).map Ob.frz) else o n := by
  simp only [wN, List.mem_singleton]
  by_cases h1 : n = x
  · subst h1
    by_cases h2 : n = a <;> simp [h2]
  · simp [h1]
end
theorem VU {Γ : Env} {f : FuncId} {nt : Nat} {ac : AC} {rs : List Wc} (hb : Has Γ.P f nt ac rs) {args cs cs2 : List V} {res : V} (ha : args.length + 1 ≤ nt) (hr : res.closed) (h1 : Qj cs) (h2 : Qj cs2)
    (h : ∀ C : Ctx, C.env = Γ → C.m = 1 → AWp C nt ac (VW (.ptr 0 0 :: args) [.box true cs]) (abv 1 rs res [.box true cs2]) (fun _ _ => False) (abv 1 rs res [.box true cs2])) : EvD Γ f args cs res cs2 :=
  ⟨KP hb (by simpa using ha) h, hr, h1, h2⟩
theorem jA {rs : List Wc} {res : V} {s : St} {cs2 : List V} (vs : List V) (h : aba s rs = some vs) (ho : s.o 0 = some (.box true cs2)) (h2 : Qj cs2) (hc : conv s.o [0] none (age vs) res) : abv 1 rs res [.box true cs2] s :=
  yi rs vs _ h ⟨[0], none, hc, ⟨⟨_, ho, fun h => h, Yi _ _ _ _ h2⟩, trivial⟩, by simp, rfl⟩
structure EvR (Γ : Env) (f : FuncId) (args : List V) (cs : List V) : Prop where
  ev : Ev Γ f args [] (.ptr 0 0) [.box true cs]
  c1 : Qj cs
theorem al5 {Γ : Env} {b : Nat} {r : List AO} {s : St} {d : Option Nat} {f : FuncId} {acts cs : List V} {K : St → Prop} (h : EvR Γ f (XY s.o acts) cs) (hc : JB s.o (some (Uj acts)) acts)
    (hk : Wz Γ (b + KK) r { t := (s.put d (.ptr b 0)).t, o := upd (wN (some (Uj acts)) [] s.o) b (some (.box true cs)), n := s.n } K) : awC Γ b r s d f acts K := by
  refine qm ⟨_, _, _, _, [], some (Uj acts), h.ev, VA _ _ _ hc, trivial, List.nodup_nil, fun x hx => by simp at hx, by simp, by simp [KK], fun h => by simp at h, ?_⟩
  simp only [Ur, KG, Ob.ren, Qk _ _ h.c1, V.ren, sig]
  exact hk
theorem yI {Γ : Env} {b : Nat} {r : List AO} {s : St} {d : Option Nat} {f : FuncId} {acts args cs : List V} {K : St → Prop} {okf : Option (List Nat) → Prop} (h : EvR Γ f args cs) (hc : okf (some (Uj acts)))
    (hk : Wz Γ (b + KK) r { t := (s.put d (.ptr b 0)).t, o := upd (wN (some (Uj acts)) [] s.o) b (some (.box true cs)), n := s.n } K) : ajZ Γ b r s d f acts args okf K := by
  rintro rfl rfl; exact al5 h hc hk
theorem afr {Γ : Env} {f : FuncId} {nt : Nat} {ac : AC} {rs : List Wc} (hb : Has Γ.P f nt ac rs) {args cs : List V} (ha : args.length ≤ nt) (h1 : Qj cs)
    (h : ∀ C : Ctx, C.env = Γ → C.m = 0 → AWp C nt ac (VW args []) (abv 0 rs (.ptr 0 0) [.box true cs]) (fun _ _ => False) (abv 0 rs (.ptr 0 0) [.box true cs])) : EvR Γ f args cs :=
  ⟨KP hb ha h, h1⟩
theorem ald {rs : List Wc} {s : St} {cs : List V} (a : Nat) (h : aba s rs = some [.ptr a 0]) (ho : s.o a = some (.box true cs)) (h2 : Qj cs) : abv 0 rs (.ptr 0 0) [.box true cs] s :=
  yi rs _ _ h ⟨[a], none, by simp [age, conv], ⟨⟨_, ho, fun h => h, Yi _ _ _ _ h2⟩, trivial⟩, by simp, rfl⟩
attribute [go_sem] alY amj Uj Ob.frz
end Av
end
section
set_option linter.unusedSimpArgs false
set_option linter.unusedVariables false
set_option maxRecDepth 10000
namespace Av
open Go
attribute [local irreducible] AWp Wz WQ W4 awS awC V1 awQ Ue Jc YR VY awR YY awB okR Wt ris
structure jg where
  code : Int
  name : List UInt8
  kx1 : Int
  kx2 : Int
  sg1 : Int
  sg2 : Int
  ci1 : Int
  ci2 : Int
  mc1 : Int
  mc2 : Int
  lo : Int
  hi : Int
  deriving DecidableEq
def jg.cells (s : jg) : List V := [V.int s.code, V.str s.name, V.int s.kx1, V.int s.kx2, V.int s.sg1, V.int s.sg2, V.int s.ci1, V.int s.ci2, V.int s.mc1, V.int s.mc2, V.int s.lo, V.int s.hi]
def jg.v (s : jg) : V := .agg s.cells
def vW : List jg := [⟨1, [114, 115, 97, 45, 114, 99, 52, 45, 109, 100, 53], 10, 0, 5, 0, 14, 128, 19, 0, 1, 2⟩, ⟨2, [114, 115, 97, 45, 114, 99, 52, 45, 115, 104, 97], 10, 0, 5, 0, 14, 128, 20, 0, 1, 3⟩, ⟨3, [114, 115, 97, 45, 100, 101, 115, 51, 45, 115, 104, 97], 10, 0, 5, 0, 15, 168, 20, 0, 1, 3⟩, ⟨4, [100, 104, 101, 45, 100, 115, 97, 45, 100, 101, 115, 51, 45, 115, 104, 97], 11, 1024, 6, 0, 15, 168, 20, 0, 1, 3⟩, ⟨5, [100, 104, 101, 45, 114, 115, 97, 45, 100, 101, 115, 51, 45, 115, 104, 97], 11, 1024, 5, 0, 15, 168, 20, 0, 1, 3⟩, ⟨6, [114, 115, 97, 45, 97, 101, 115, 49, 50, 56, 45, 115, 104, 97], 10, 0, 5, 0, 16, 128, 20, 0, 1, 3⟩, ⟨7, [100, 104, 101, 45, 114, 115, 97, 45, 97, 101, 115, 49, 50, 56, 45, 115, 104, 97], 11, 2048, 5, 0, 16, 128, 20, 0, 1, 3⟩, ⟨8, [101, 99, 100, 104, 101, 45, 114, 115, 97, 45, 97, 101, 115, 49, 50, 56, 45, 115, 104, 97], 12, 256, 5, 0, 16, 128, 20, 0, 1, 3⟩, ⟨9, [101, 99, 100, 104, 101, 45, 101, 99, 100, 115, 97, 45, 97, 101, 115, 50, 53, 54, 45, 115, 104, 97, 50, 53, 54], 12, 256, 7, 0, 16, 256, 21, 0, 3, 3⟩, ⟨10, [101, 99, 100, 104, 101, 45, 114, 115, 97, 45, 97, 101, 115, 49, 50, 56, 45, 103, 99, 109], 12, 256, 5, 0, 17, 128, 22, 0, 3, 3⟩, ⟨11, [101, 99, 100, 104, 101, 45, 101, 99, 100, 115, 97, 45, 97, 101, 115, 50, 53, 54, 45, 103, 99, 109], 12, 384, 7, 0, 17, 256, 22, 0, 3, 3⟩, ⟨12, [101, 99, 100, 104, 101, 45, 114, 115, 97, 45, 99, 104, 97, 99, 104, 97], 12, 256, 5, 0, 18, 0, 22, 0, 3, 3⟩, ⟨13, [114, 115, 97, 45, 97, 101, 115, 50, 53, 54, 45, 103, 99, 109], 10, 0, 5, 0, 17, 256, 22, 0, 3, 3⟩, ⟨14, [97, 101, 115, 49, 50, 56, 45, 103, 99, 109], 12, 256, 0, 0, 17, 128, 22, 0, 4, 4⟩, ⟨15, [99, 104, 97, 99, 104, 97], 12, 256, 0, 0, 18, 0, 22, 0, 4, 4⟩, ⟨16, [109, 108, 107, 101, 109, 45, 97, 101, 115, 50, 53, 54, 45, 103, 99, 109], 13, 768, 0, 0, 17, 256, 22, 0, 4, 4⟩]
end Av
end
section
set_option linter.unusedSimpArgs false
set_option linter.unusedVariables false
set_option maxRecDepth 10000
namespace Av
open Go
attribute [local irreducible] AWp Wz WQ W4 awS awC V1 awQ Ue Jc YR VY awR YY awB okR Wt ris
end Av
end
section
set_option linter.unusedSimpArgs false
set_option linter.unusedVariables false
set_option maxRecDepth 10000
set_option maxHeartbeats 4000000
namespace Av
open Go
attribute [local irreducible] AWp Wz WQ W4 awS awC V1 awQ Ue Jc YR VY awR YY awB okR Wt ris
end Av
end
section
set_option linter.unusedSimpArgs false
set_option linter.unusedVariables false
set_option maxHeartbeats 4000000
set_option maxRecDepth 10000
namespace Av
open Go
attribute [local irreducible] AWp Wz WQ W4 awS awC V1 awQ Ue Jc YR VY awR YY awB okR Wt ris
end Av
end
section
set_option linter.unusedSimpArgs false
set_option linter.unusedVariables false
set_option maxRecDepth 10000
set_option maxHeartbeats 4000000
namespace Av
open Go
attribute [local irreducible] AWp Wz WQ W4 awS awC V1 awQ Ue Jc YR VY awR YY awB okR Wt ris
theorem aj1 {n : Int} (h0 : 0 ≤ n) (h1 : n < 256) : IntKind.u8.wrap n = n := by
  have e1 : IntKind.u8.bits = 8 := rfl
  have e2 : IntKind.u8.signed = false := rfl
  simp only [IntKind.wrap, e1, e2, Bool.false_and]
  simp; omega
end Av
end
