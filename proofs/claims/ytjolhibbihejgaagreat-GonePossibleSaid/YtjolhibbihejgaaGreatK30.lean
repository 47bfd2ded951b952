/- A box whose slices are shown for good: its headers become rows that may be read. -/
import Derived.Test.YtjolhibbihejgaaGreatK29
import Derived.Test.YtjolhibbihejgaaGreatK12
import Derived.Test.YtjolhibbihejgaaGreatK24
import Derived.Test.YtjolhibbihejgaaGreatK21
import Derived.Test.YtjolhibbihejgaaGreatK16
set_option linter.unusedVariables false
set_option linter.unusedSimpArgs false
noncomputable section
set_option maxRecDepth 10000
set_option maxHeartbeats 4000000
namespace Av
open Go
attribute [local irreducible] AWp UY qH yr awS awC aaT awQ abS Q1 Ub aaE awR Ux awB okR ym ris
end Av
end
section
namespace Av
open Go
section
variable {C:Ctx} {nt:Nat} {s:St} {K:St→Prop} {E:Nat→St→Prop} {R:St→Prop}
end
end Av
end
section
namespace Av
open Go
structure EvE (Γ:Env) (f:FuncId) (args:List V) (sz:Nat) (xs:List V):Prop where
 ev:Ev Γ f args [] (.tup [.hd 0 0 xs.length,V.int 0]) [.buf true sz xs]
 ns:∀ x∈xs,x.noSl
theorem EvE.c {Γ:Env} {f:FuncId} {args xs:List V} {sz:Nat} (h:EvE Γ f args sz xs):EvC Γ f args (.tup [.sl sz xs,V.int 0]) :=
 ⟨h.ev.shut (br:=[]) (B:=none) (by simp [conv,Qu,okB]) trivial (by simp) rfl,by simp only [V.closed,Qd,and_self]⟩
section
variable {Γ:Env} {b:Nat} {r:List AO} {s:St} {d:Option Nat} {f:FuncId} {acts args xs cs cs2:List V} {sz:Nat} {K:St→Prop} {okf:Option (List Nat)→Prop} {a:Nat}
end
structure auy (Γ:Env) (f:FuncId) (args cs:List V) (sz:Nat) (xs cs2:List V):Prop where
 ev:Ev Γ f (.ptr 0 0 :: args) [.box true cs] (.hd 1 0 xs.length) [.box true cs2,.buf true sz xs]
 c1:Qd cs
 c2:Qd cs2
 ca:Qd args
theorem auy.d {Γ:Env} {f:FuncId} {args cs:List V} {sz:Nat} {xs cs2:List V} (h:auy Γ f args cs sz xs cs2):EvD Γ f args cs (.sl sz xs) cs2:=by
 refine ⟨h.ev.shut (br:=[0]) (B:=none) ?_ ⟨⟨_,rfl,fun h=>h,Qe _ _ _ _ h.c2⟩,trivial⟩ (by simp) rfl,?_,h.c1,h.c2⟩
 ·simp [conv,Qu,okB]
 ·simp only [V.closed,Qd,and_self]
section
variable {Γ:Env} {b:Nat} {r:List AO} {s:St} {d:Option Nat} {f:FuncId} {args acts:List V} {cs cs2 xs:List V} {sz:Nat} {K:St→Prop} {okf:Option (List Nat)→Prop} {a:Nat}
end
end Av
end
noncomputable section
set_option maxRecDepth 10000
set_option maxHeartbeats 4000000
namespace Av
open Go
attribute [local irreducible] AWp UY qH yr awS awC aaT awQ abS Q1 Ub aaE awR Ux awB okR ym ris
end Av
end
