/- Functions that answer a buffer of their own, whose elements show no memory. -/
import Derived.Test.YtalpffbofjlfgaaGreatDoorK12
import Derived.Lib.IndexLaws
import Derived.Lib.AtoiAllCases
set_option linter.unusedVariables false
set_option linter.unusedSimpArgs false
section
set_option linter.unusedSimpArgs false
set_option linter.unusedVariables false
set_option maxRecDepth 10000
namespace Av
open Go
attribute [local irreducible] AWp Wz WQ W4 awS awC V1 awQ Ue Jc YR VY awR YY awB okR Wt ris
end Av
end
section
set_option linter.unusedSimpArgs false
set_option linter.unusedVariables false
set_option maxRecDepth 10000
set_option maxHeartbeats 4000000
namespace Av
open Go
attribute [local irreducible] AWp Wz WQ W4 awS awC V1 awQ Ue Jc YR VY awR YY awB okR Wt ris
def ajK : jg := ⟨0, [], 0, 0, 0, 0, 0, 0, 0, 0, 0, 0⟩
def ahy (c : Int) : jg := if 1 ≤ c ∧ c ≤ 16 then vW.getD (c - 1).toNat ajK else ajK
end Av
end
section
set_option linter.unusedSimpArgs false
set_option linter.unusedVariables false
set_option maxRecDepth 10000
set_option maxHeartbeats 4000000
namespace Av
open Go
attribute [local irreducible] AWp Wz WQ W4 awS awC V1 awQ Ue Jc YR VY awR YY awB okR Wt ris
def wM {α : Type} (p : α → Bool) : Nat → List α → Int
  | _, [] => -1
  | k, x :: r => if p x = true then k else wM p (k + 1) r
def al3 (n : List UInt8) : Int := wM (fun s : jg => s.name == n) 0 vW + 1
end Av
end
section
set_option linter.unusedSimpArgs false
set_option linter.unusedVariables false
set_option maxRecDepth 10000
set_option maxHeartbeats 4000000
namespace Av
open Go
attribute [local irreducible] AWp Wz WQ W4 awS awC V1 awQ Ue Jc YR VY awR YY awB okR Wt ris
def amg (c : Int) : Int := if 1 ≤ c ∧ c ≤ 16 then Ka (ahy c).ci1 (ahy c).ci2 else 0
def aks : List (List UInt8) := [[97, 108, 108], [104, 105, 103, 104], [109, 101, 100, 105, 117, 109], [108, 111, 119], [118, 49], [118, 50], [118, 51], [118, 52]]
def af2 (n : List UInt8) : Bool := aks.contains n || decide (afk n 0 xC > 0) || decide (al3 n > 0)
def ala (n : List UInt8) (st lo up : Int) : Option Bool :=
  if n = [97, 108, 108] then some true else if n = [104, 105, 103, 104] then some (decide (st ≥ 128)) else if n = [109, 101, 100, 105, 117, 109] then some (decide (st ≥ 112) && decide (st < 128))
  else if n = [108, 111, 119] then some (decide (st < 112)) else if n = [118, 49] then some (decide (lo ≤ 1) && decide (1 ≤ up)) else if n = [118, 50] then some (decide (lo ≤ 2) && decide (2 ≤ up))
  else if n = [118, 51] then some (decide (lo ≤ 3) && decide (3 ≤ up)) else if n = [118, 52] then some (decide (lo ≤ 4) && decide (4 ≤ up)) else none
def ak8 (n : List UInt8) (s : jg) : Bool :=
  match ala n (amg s.code) s.lo s.hi with
  | some b => b
  | none => (decide (afk n 0 xC > 0) && (s.kx1 == afk n 0 xC || s.sg1 == afk n 0 xC || s.ci1 == afk n 0 xC || s.mc1 == afk n 0 xC)) || s.name == n
end Av
end
section
set_option linter.unusedSimpArgs false
set_option linter.unusedVariables false
set_option maxRecDepth 10000
set_option maxHeartbeats 4000000
namespace Av
open Go
attribute [local irreducible] AWp Wz WQ W4 awS awC V1 awQ Ue Jc YR VY awR YY awB okR Wt ris
end Av
end
section
set_option linter.unusedSimpArgs false
set_option linter.unusedVariables false
set_option maxRecDepth 10000
set_option maxHeartbeats 4000000
namespace Av
open Go
attribute [local irreducible] AWp Wz WQ W4 awS awC V1 awQ Ue Jc YR VY awR YY awB okR Wt ris
end Av
end
section
set_option linter.unusedSimpArgs false
set_option linter.unusedVariables false
set_option maxRecDepth 10000
set_option maxHeartbeats 4000000
namespace Av
open Go
attribute [local irreducible] AWp Wz WQ W4 awS awC V1 awQ Ue Jc YR VY awR YY awB okR Wt ris
def W7 (c : UInt8) : List UInt8 → List UInt8 → List (List UInt8)
  | cur, [] => [cur]
  | cur, x :: r => if x = c then cur :: W7 c [] r else W7 c (cur ++ [x]) r
def Vo (c : UInt8) (s : List UInt8) : List (List UInt8) := W7 c [] s
end Av
end
section
set_option linter.unusedSimpArgs false
set_option linter.unusedVariables false
set_option maxRecDepth 10000
set_option maxHeartbeats 4000000
namespace Av
open Go
attribute [local irreducible] AWp Wz WQ W4 awS awC V1 awQ Ue Jc YR VY awR YY awB okR Wt ris
theorem v7 (c : UInt8) : ∀ (r cur : List UInt8), (W7 c cur r).length ≤ r.length + 1
  | [], cur => by simp [W7]
  | x :: r, cur => by
    rw [W7]; split
    · have := v7 c r []; simp; omega
    · have := v7 c r (cur ++ [x]); simp; omega
theorem agw (c : UInt8) (s : List UInt8) : (Vo c s).length ≤ s.length + 1 := v7 c s []
def alU (L : List (List UInt8)) (x : jg) : Bool := L.all fun n => ak8 n x
def akA (L : List (List UInt8)) (xs : List jg) : List Int := (xs.filter (alU L)).map jg.code
def alJ (s : List UInt8) : List Int × Bool := if (Vo 43 s).all af2 then (akA (Vo 43 s) vW, true) else ([], false)
end Av
end
section
namespace Av
open Go
structure EvW (Γ : Env) (f : FuncId) (args : List V) (sz : Nat) (xs : List V) : Prop where
  ev : Ev Γ f args [] (.hd 0 0 xs.length) [.buf true sz xs]
  ns : ∀ x ∈ xs, x.noSl
theorem aii (l : List Int) : ∀ x ∈ l.map V.int, x.noSl := by
  intro x hx; simp only [List.mem_map] at hx; obtain ⟨y, _, rfl⟩ := hx; simp only [V.noSl]
theorem ahz (l : List (List UInt8)) : ∀ x ∈ l.map V.str, x.noSl := by
  intro x hx; simp only [List.mem_map] at hx; obtain ⟨y, _, rfl⟩ := hx; simp only [V.noSl]
theorem al4 {Γ : Env} {b : Nat} {r : List AO} {s : St} {d : Option Nat} {f : FuncId} {acts xs : List V} {sz : Nat} {K : St → Prop} (h : EvW Γ f (XY s.o acts) sz xs) (hc : JB s.o none acts)
    (hk : Wz Γ (b + KK) r { t := (s.put d (.hd b 0 xs.length)).t, o := upd s.o b (some (.buf true sz xs)), n := s.n } K) : awC Γ b r s d f acts K := by
  refine qm ⟨_, _, _, _, [], none, h.ev, VA _ _ _ hc, trivial, List.nodup_nil, fun x hx => by simp at hx, by simp, by simp [KK], fun _ => ⟨by simp only [V.noSl], fun x hx => ?_⟩, ?_⟩
  · simp only [List.mem_singleton] at hx; subst hx; exact h.ns
  · simp only [Ur, KG, Ob.ren, V.ren, sig]
    exact hk
theorem vM {Γ : Env} {b : Nat} {r : List AO} {s : St} {d : Option Nat} {f : FuncId} {acts args xs : List V} {sz : Nat} {K : St → Prop} {okf : Option (List Nat) → Prop} (h : EvW Γ f args sz xs) (hc : okf none)
    (hk : Wz Γ (b + KK) r { t := (s.put d (.hd b 0 xs.length)).t, o := upd s.o b (some (.buf true sz xs)), n := s.n } K) : ajZ Γ b r s d f acts args okf K := by
  rintro rfl rfl; exact al4 h hc hk
theorem afq {Γ : Env} {f : FuncId} {nt : Nat} {ac : AC} {rs : List Wc} (hb : Has Γ.P f nt ac rs) {args xs : List V} {sz : Nat} (ha : args.length ≤ nt) (hn : ∀ x ∈ xs, x.noSl)
    (h : ∀ C : Ctx, C.env = Γ → C.m = 0 → AWp C nt ac (VW args []) (abv 0 rs (.hd 0 0 xs.length) [.buf true sz xs]) (fun _ _ => False) (abv 0 rs (.hd 0 0 xs.length) [.buf true sz xs])) : EvW Γ f args sz xs :=
  ⟨KP hb ha h, hn⟩
theorem aiz {rs : List Wc} {s : St} {xs : List V} {sz : Nat} (a n : Nat) (h : aba s rs = some [.hd a 0 n]) (hn : n = xs.length) (ho : s.o a = some (.buf true sz xs)) : abv 0 rs (.hd 0 0 xs.length) [.buf true sz xs] s := by
  subst hn
  exact yi rs _ _ h ⟨[a], none, by simp [age, conv], ⟨⟨_, ho, fun h => h, rfl, rfl⟩, trivial⟩, by simp, rfl⟩
end Av
end
section
set_option linter.unusedSimpArgs false
set_option linter.unusedVariables false
set_option maxRecDepth 10000
set_option maxHeartbeats 4000000
namespace Av
open Go
attribute [local irreducible] AWp Wz WQ W4 awS awC V1 awQ Ue Jc YR VY awR YY awB okR Wt ris
end Av
end
section
set_option linter.unusedSimpArgs false
set_option linter.unusedVariables false
set_option maxRecDepth 10000
set_option maxHeartbeats 4000000
namespace Av
open Go
attribute [local irreducible] AWp Wz WQ W4 awS awC V1 awQ Ue Jc YR VY awR YY awB okR Wt ris
end Av
end
