/- Functions that answer a buffer of their own, whose elements show no memory. -/
import Derived.Test.YtalpffbofjlfgaaGreatDoorK12
import Derived.Lib.IndexLaws
import Derived.Lib.AtoiAllCases
set_option linter.unusedVariables false
set_option linter.unusedSimpArgs false
section
set_option linter.unusedSimpArgs false
set_option linter.unusedVariables false
set_option maxRecDepth 10000
namespace Av
open Go
attribute [local irreducible] AWp WY Vp Vq awS awC V1 awQ Uh Q9 YQ VZ awR YT awB okR Ww ris
end Av
end
section
set_option linter.unusedSimpArgs false
set_option linter.unusedVariables false
set_option maxRecDepth 10000
set_option maxHeartbeats 4000000
namespace Av
open Go
attribute [local irreducible] AWp WY Vp Vq awS awC V1 awQ Uh Q9 YQ VZ awR YT awB okR Ww ris
def anI:yT:=⟨0,[],0,0,0,0,0,0,0,0,0,0⟩
def ak9 (c:Int):yT:=if 1≤c∧c≤16 then ack.getD (c - 1).toNat anI else anI
end Av
end
section
set_option linter.unusedSimpArgs false
set_option linter.unusedVariables false
set_option maxRecDepth 10000
set_option maxHeartbeats 4000000
namespace Av
open Go
attribute [local irreducible] AWp WY Vp Vq awS awC V1 awQ Uh Q9 YQ VZ awR YT awB okR Ww ris
def abi {α:Type} (p:α→Bool):Nat→List α→Int
  | _,[]=>-1
  | k,x :: r=>if p x = true then k else abi p (k + 1) r
def aqc (n:List UInt8):Int:=abi (fun s:yT=>s.name == n) 0 ack + 1
end Av
end
section
set_option linter.unusedSimpArgs false
set_option linter.unusedVariables false
set_option maxRecDepth 10000
set_option maxHeartbeats 4000000
namespace Av
open Go
attribute [local irreducible] AWp WY Vp Vq awS awC V1 awQ Uh Q9 YQ VZ awR YT awB okR Ww ris
def aqo (c:Int):Int:=if 1≤c∧c≤16 then Vf (ak9 c).ci1 (ak9 c).ci2 else 0
def aov:List (List UInt8):=[[97,108,108],[104,105,103,104],[109,101,100,105,117,109],[108,111,119],[118,49],[118,50],[118,51],[118,52]]
def ajp (n:List UInt8):Bool:=aov.contains n || decide (aiD n 0 vo > 0) || decide (aqc n > 0)
def apl (n:List UInt8) (st lo up:Int):Option Bool :=
  if n = [97,108,108] then some true else if n = [104,105,103,104] then some (decide (st≥128)) else if n = [109,101,100,105,117,109] then some (decide (st≥112) && decide (st < 128))
  else if n = [108,111,119] then some (decide (st < 112)) else if n = [118,49] then some (decide (lo≤1) && decide (1≤up)) else if n = [118,50] then some (decide (lo≤2) && decide (2≤up))
  else if n = [118,51] then some (decide (lo≤3) && decide (3≤up)) else if n = [118,52] then some (decide (lo≤4) && decide (4≤up)) else none
def api (n:List UInt8) (s:yT):Bool :=
  match apl n (aqo s.code) s.lo s.hi with
  | some b=>b
  | none=>(decide (aiD n 0 vo > 0) && (s.kx1 == aiD n 0 vo || s.sg1 == aiD n 0 vo || s.ci1 == aiD n 0 vo || s.mc1 == aiD n 0 vo)) || s.name == n
end Av
end
section
set_option linter.unusedSimpArgs false
set_option linter.unusedVariables false
set_option maxRecDepth 10000
set_option maxHeartbeats 4000000
namespace Av
open Go
attribute [local irreducible] AWp WY Vp Vq awS awC V1 awQ Uh Q9 YQ VZ awR YT awB okR Ww ris
end Av
end
section
set_option linter.unusedSimpArgs false
set_option linter.unusedVariables false
set_option maxRecDepth 10000
set_option maxHeartbeats 4000000
namespace Av
open Go
attribute [local irreducible] AWp WY Vp Vq awS awC V1 awQ Uh Q9 YQ VZ awR YT awB okR Ww ris
end Av
end
section
set_option linter.unusedSimpArgs false
set_option linter.unusedVariables false
set_option maxRecDepth 10000
set_option maxHeartbeats 4000000
namespace Av
open Go
attribute [local irreducible] AWp WY Vp Vq awS awC V1 awQ Uh Q9 YQ VZ awR YT awB okR Ww ris
def V0 (c:UInt8):List UInt8→List UInt8→List (List UInt8)
  | cur,[]=>[cur]
  | cur,x :: r=>if x = c then cur :: V0 c [] r else V0 c (cur++[x]) r
def Uk (c:UInt8) (s:List UInt8):List (List UInt8):=V0 c [] s
end Av
end
section
set_option linter.unusedSimpArgs false
set_option linter.unusedVariables false
set_option maxRecDepth 10000
set_option maxHeartbeats 4000000
namespace Av
open Go
attribute [local irreducible] AWp WY Vp Vq awS awC V1 awQ Uh Q9 YQ VZ awR YT awB okR Ww ris
theorem acq (c:UInt8):∀ (r cur:List UInt8),(V0 c cur r).length≤r.length + 1
  | [],cur=>by simp [V0]
  | x :: r,cur=>by
    rw [V0];split
    · have:=acq c r [];simp;omega
    · have:=acq c r (cur++[x]);simp;omega
theorem ajW (c:UInt8) (s:List UInt8):(Uk c s).length≤s.length + 1:=acq c s []
def ap3 (L:List (List UInt8)) (x:yT):Bool:=L.all fun n=>api n x
def aoE (L:List (List UInt8)) (xs:List yT):List Int:=(xs.filter (ap3 L)).map yT.code
def apS (s:List UInt8):List Int×Bool:=if (Uk 43 s).all ajp then (aoE (Uk 43 s) ack,true) else ([],false)
end Av
end
section
namespace Av
open Go
structure EvW (Γ:Env) (f:FuncId) (args:List V) (sz:Nat) (xs:List V):Prop where
  ev:Ev Γ f args [] (.hd 0 0 xs.length) [.buf true sz xs]
  ns:∀ x∈xs,x.noSl
theorem al0 (l:List Int):∀ x∈l.map V.int,x.noSl:=by
  intro x hx;simp only [List.mem_map] at hx;obtain ⟨y,_,rfl⟩:=hx;simp only [V.noSl]
theorem ala (l:List (List UInt8)):∀ x∈l.map V.str,x.noSl:=by
  intro x hx;simp only [List.mem_map] at hx;obtain ⟨y,_,rfl⟩:=hx;simp only [V.noSl]
theorem aqd {Γ:Env} {b:Nat} {r:List AO} {s:St} {d:Option Nat} {f:FuncId} {acts xs:List V} {sz:Nat} {K:St→Prop} (h:EvW Γ f (Wy s.o acts) sz xs) (hc:JU s.o none acts)
    (hk:WY Γ (b + KK) r { t:=(s.put d (.hd b 0 xs.length)).t,o:=upd s.o b (some (.buf true sz xs)),n:=s.n } K):awC Γ b r s d f acts K:=by
  refine jN ⟨_,_,_,_,[],none,h.ev,Ux _ _ _ hc,trivial,List.nodup_nil,fun x hx=>by simp at hx,by simp,by simp [KK],fun _=>⟨by simp only [V.noSl],fun x hx=>?_⟩,?_⟩
  · simp only [List.mem_singleton] at hx;subst hx;exact h.ns
  · simp only [Kl,qW,Ob.ren,V.ren,sig]
    exact hk
theorem ab4 {Γ:Env} {b:Nat} {r:List AO} {s:St} {d:Option Nat} {f:FuncId} {acts args xs:List V} {sz:Nat} {K:St→Prop} {okf:Option (List Nat)→Prop} (h:EvW Γ f args sz xs) (hc:okf none)
    (hk:WY Γ (b + KK) r { t:=(s.put d (.hd b 0 xs.length)).t,o:=upd s.o b (some (.buf true sz xs)),n:=s.n } K):anW Γ b r s d f acts args okf K:=by
  rintro rfl rfl;exact aqd h hc hk
theorem aiK {Γ:Env} {f:FuncId} {nt:Nat} {ac:AC} {rs:List X0} (hb:Has Γ.P f nt ac rs) {args xs:List V} {sz:Nat} (ha:args.length≤nt) (hn:∀ x∈xs,x.noSl)
    (h:∀ C:Ctx,C.env = Γ→C.m = 0→AWp C nt ac (UW args []) (ad8 0 rs (.hd 0 0 xs.length) [.buf true sz xs]) (fun _ _=>False) (ad8 0 rs (.hd 0 0 xs.length) [.buf true sz xs])):EvW Γ f args sz xs :=
  ⟨jc hb ha h,hn⟩
theorem ami {rs:List X0} {s:St} {xs:List V} {sz:Nat} (a n:Nat) (h:adH s rs = some [.hd a 0 n]) (hn:n = xs.length) (ho:s.o a = some (.buf true sz xs)):ad8 0 rs (.hd 0 0 xs.length) [.buf true sz xs] s:=by
  subst hn
  exact wt rs _ _ h ⟨[a],none,by simp [ajB,conv],⟨⟨_,ho,fun h=>h,rfl,rfl⟩,trivial⟩,by simp,rfl⟩
end Av
end
section
set_option linter.unusedSimpArgs false
set_option linter.unusedVariables false
set_option maxRecDepth 10000
set_option maxHeartbeats 4000000
namespace Av
open Go
attribute [local irreducible] AWp WY Vp Vq awS awC V1 awQ Uh Q9 YQ VZ awR YT awB okR Ww ris
end Av
end
section
set_option linter.unusedSimpArgs false
set_option linter.unusedVariables false
set_option maxRecDepth 10000
set_option maxHeartbeats 4000000
namespace Av
open Go
attribute [local irreducible] AWp WY Vp Vq awS awC V1 awQ Uh Q9 YQ VZ awR YT awB okR Ww ris
end Av
end
