/- W19 -/
import Derived.Test.YtlpaikjhphkioaaGreatW18
import Derived.Test.YtlpaikjhphkioaaGreatW12
import Derived.Test.YtlpaikjhphkioaaGreatW13
set_option linter.unusedVariables false
set_option linter.unusedSimpArgs false
noncomputable section
set_option maxRecDepth 10000
set_option maxHeartbeats 4000000
namespace Av
open Go
attribute [local irreducible] AWp Vy K7 jE awS awC aaG awQ abg QW Uc vZ awR Uj awB okR jt ris
def aqV (L:List (List UInt8)) (x:Kt):Bool:=L.all fun n=>apS n x
def ao4 (L:List (List UInt8)) (xs:List Kt):List Int:=(xs.filter (aqV L)).map Kt.code
def aqI (s:List UInt8):List Int×Bool:=if (xF 43 s).all ak8 then (ao4 (xF 43 s) wZ,true) else ([],false)
def aqU (out:List Int) (x:Int):Nat→Nat
 | 0=>0
 | k + 1=>if aqG (out.getD k 0) < aqG x then aqU out x k else k + 1
def aqT (out:List Int) (x:Int):List Int:=out.take (aqU out x out.length)++[x]++out.drop (aqU out x out.length)
def aok:List UInt8→UInt8×List UInt8
 | []=>(0,[])
 | c :: r=>if c = 45∨c = 33∨c = 43 then (c,r) else (0,c :: r)
abbrev art:=List Int×List Int
def arA:List UInt8:=[64,115,116,114,101,110,103,116,104]
def wordOk (w:List UInt8):Bool:=w == arA || (aqI (aok w).2).2
structure aqr (p:art):Prop where
 nd:p.1.Nodup
 rg:∀ x∈p.1,1≤x∧x≤16
 dj:∀ x∈p.1,x ∉ p.2
theorem apQ {l:List Int} (hn:l.Nodup) (hr:∀ x∈l,1≤x∧x≤16):l.length≤16:=by
 have hs:l ⊆ wZ.map Kt.code:=by
  intro x hx
  have h:=hr x hx
  have e:wZ.map Kt.code = [1,2,3,4,5,6,7,8,9,10,11,12,13,14,15,16]:=by decide
  rw [e];simp;omega
 have:=hn.length_le_of_subset hs
 have e:(wZ.map Kt.code).length = 16:=by decide
 omega
theorem aqr.len {p:art} (h:aqr p):p.1.length≤16:=apQ h.nd h.rg
theorem w9 (c:UInt8):∀ (s cur t:List UInt8),xG c cur (s++c :: t) = xG c cur s++xG c [] t
 | [],cur,t=>by simp [xG]
 | x :: r,cur,t=>by
   rw [List.cons_append,xG,xG]
   split
   ·rw [w9 c r [] t];rfl
   ·exact w9 c r _ t
theorem adE (c:UInt8) (s t:List UInt8):xF c (s++[c]++t) = xF c s++xF c t:=by
 rw [Za,List.singleton_append];exact w9 c s [] t
theorem akg {α β:Type} (f:α→β) (l:List α):(l.map f).take l.length = l.map f:=by rw [zl (by simp)]
end Av
end
