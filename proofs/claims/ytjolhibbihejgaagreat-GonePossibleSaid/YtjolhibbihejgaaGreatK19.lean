/- K19 -/
import Derived.Test.YtjolhibbihejgaaGreatK18
import Derived.Test.YtjolhibbihejgaaGreatK12
import Derived.Test.YtjolhibbihejgaaGreatK13
set_option linter.unusedVariables false
set_option linter.unusedSimpArgs false
noncomputable section
set_option maxRecDepth 10000
set_option maxHeartbeats 4000000
namespace Av
open Go
attribute [local irreducible] AWp UY qH yr awS awC aaT awQ abS Q1 Ub aaE awR Ux awB okR ym ris
theorem ais (x:Int):∀ (l:List Int) (k:Nat),0≤Wd x k l↔x∈l
 | [],k=>by simp [Wd]
 | y :: r,k=>by
   by_cases hy:y = x
   ·subst hy;simp [Wd]
   ·have:=ais x r (k + 1)
    have e:Wd x k (y :: r) = Wd x (k + 1) r:=by rw [Wd,if_neg (fun h=>hy h.symm)]
    rw [e,this,zo]
    exact ⟨Or.inr,fun h=>h.elim (fun h=>absurd h.symm hy) id⟩
def aa2 (c:UInt8):List UInt8→List UInt8→List (List UInt8)
 | cur,[]=>[cur]
 | cur,x :: r=>if x = c then cur :: aa2 c [] r else aa2 c (cur++[x]) r
def aa1 (c:UInt8) (s:List UInt8):List (List UInt8):=aa2 c [] s
def at4 (L:List (List UInt8)) (x:QQ):Bool:=L.all fun n=>asS n x
def arU (L:List (List UInt8)) (xs:List QQ):List Int:=(xs.filter (at4 L)).map QQ.code
def atR (s:List UInt8):List Int×Bool:=if (aa1 43 s).all an1 then (arU (aa1 43 s) Ud,true) else ([],false)
def at3 (out:List Int) (x:Int):Nat→Nat
 | 0=>0
 | k + 1=>if atL (out.getD k 0) < atL x then at3 out x k else k + 1
def at2 (out:List Int) (x:Int):List Int:=out.take (at3 out x out.length)++[x]++out.drop (at3 out x out.length)
def aqQ (c:Int):Bool:=decide (c < 1) || decide (c > 16)
def aq6:List UInt8→UInt8×List UInt8
 | []=>(0,[])
 | c :: r=>if c = 45∨c = 33∨c = 43 then (c,r) else (0,c :: r)
abbrev aux:=List Int×List Int
def auE:List UInt8:=[64,115,116,114,101,110,103,116,104]
def wordOk (w:List UInt8):Bool:=w == auE || (atR (aq6 w).2).2
structure aty (p:aux):Prop where
 nd:p.1.Nodup
 rg:∀ x∈p.1,1≤x∧x≤16
 dj:∀ x∈p.1,x ∉ p.2
theorem asR {l:List Int} (hn:l.Nodup) (hr:∀ x∈l,1≤x∧x≤16):l.length≤16:=by
 have hs:l ⊆ Ud.map QQ.code:=by
  intro x hx
  have h:=hr x hx
  have e:Ud.map QQ.code = [1,2,3,4,5,6,7,8,9,10,11,12,13,14,15,16]:=by decide
  rw [e];simp;omega
 have:=hn.length_le_of_subset hs
 have e:(Ud.map QQ.code).length = 16:=by decide
 omega
theorem aty.len {p:aux} (h:aty p):p.1.length≤16:=asR h.nd h.rg
theorem acf (c:UInt8):∀ (s cur t:List UInt8),aa2 c cur (s++c :: t) = aa2 c cur s++aa2 c [] t
 | [],cur,t=>by simp [aa2]
 | x :: r,cur,t=>by
   rw [List.cons_append,aa2,aa2]
   split
   ·rw [acf c r [] t];rfl
   ·exact acf c r _ t
theorem af0 (c:UInt8) (s t:List UInt8):aa1 c (s++[c]++t) = aa1 c s++aa1 c t:=by
 rw [ko,List.singleton_append];exact acf c s [] t
end Av
end
