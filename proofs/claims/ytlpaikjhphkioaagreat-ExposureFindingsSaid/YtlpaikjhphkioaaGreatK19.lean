/- K19 -/
import Derived.Test.YtlpaikjhphkioaaGreatK18
import Derived.Test.YtlpaikjhphkioaaGreatK12
import Derived.Test.YtlpaikjhphkioaaGreatK13
set_option linter.unusedVariables false
set_option linter.unusedSimpArgs false
noncomputable section
set_option maxRecDepth 10000
set_option maxHeartbeats 4000000
namespace Av
open Go
attribute [local irreducible] AWp Uv qW xf awS awC abB awQ acd QZ UL aa2 awR Kc awB okR yu ris
def as9 (L:List (List UInt8)) (x:qF):Bool:=L.all fun n=>ar5 n x
def arg (L:List (List UInt8)) (xs:List qF):List Int:=(xs.filter (as9 L)).map qF.code
def asW (s:List UInt8):List Int×Bool:=if (vX 43 s).all anm then (arg (vX 43 s) aa4,true) else ([],false)
def as8 (out:List Int) (x:Int):Nat→Nat
 | 0=>0
 | k + 1=>if asU (out.getD k 0) < asU x then as8 out x k else k + 1
def as7 (out:List Int) (x:Int):List Int:=out.take (as8 out x out.length)++[x]++out.drop (as8 out x out.length)
def aqx:List UInt8→UInt8×List UInt8
 | []=>(0,[])
 | c :: r=>if c = 45∨c = 33∨c = 43 then (c,r) else (0,c :: r)
abbrev atB:=List Int×List Int
def atI:List UInt8:=[64,115,116,114,101,110,103,116,104]
def wordOk (w:List UInt8):Bool:=w == atI || (asW (aqx w).2).2
structure asG (p:atB):Prop where
 nd:p.1.Nodup
 rg:∀ x∈p.1,1≤x∧x≤16
 dj:∀ x∈p.1,x ∉ p.2
theorem ar3 {l:List Int} (hn:l.Nodup) (hr:∀ x∈l,1≤x∧x≤16):l.length≤16:=by
 have hs:l ⊆ aa4.map qF.code:=by
  intro x hx
  have h:=hr x hx
  have e:aa4.map qF.code = [1,2,3,4,5,6,7,8,9,10,11,12,13,14,15,16]:=by decide
  rw [e];simp;omega
 have:=hn.length_le_of_subset hs
 have e:(aa4.map qF.code).length = 16:=by decide
 omega
theorem asG.len {p:atB} (h:asG p):p.1.length≤16:=ar3 h.nd h.rg
theorem aa5 (c:UInt8):∀ (s cur t:List UInt8),vY c cur (s++c :: t) = vY c cur s++vY c [] t
 | [],cur,t=>by simp [vY]
 | x :: r,cur,t=>by
   rw [List.cons_append,vY,vY]
   split
   ·rw [aa5 c r [] t];rfl
   ·exact aa5 c r _ t
theorem afg (c:UInt8) (s t:List UInt8):vX c (s++[c]++t) = vX c s++vX c t:=by
 rw [kE,List.singleton_append];exact aa5 c s [] t
theorem amn {α β:Type} (f:α→β) (l:List α):(l.map f).take l.length = l.map f:=by rw [zh (by simp)]
end Av
end
