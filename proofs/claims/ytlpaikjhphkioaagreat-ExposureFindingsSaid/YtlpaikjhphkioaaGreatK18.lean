/- K18 -/
import Derived.Test.YtlpaikjhphkioaaGreatK17
import Derived.Lib.IndexLaws
import Derived.Lib.AtoiAllCases
import Derived.Test.YtlpaikjhphkioaaGreatK12
import Derived.Test.YtlpaikjhphkioaaGreatK13
set_option linter.unusedVariables false
set_option linter.unusedSimpArgs false
noncomputable section
set_option maxRecDepth 10000
set_option maxHeartbeats 4000000
namespace Av
open Go
attribute [local irreducible] AWp Uv qW xf awS awC abB awQ acd QZ UL aa2 awR Kc awB okR yu ris
def apR:qF:=⟨0,[],0,0,0,0,0,0,0,0,0,0⟩
def amo (c:Int):qF:=if 1≤c∧c≤16 then aa4.getD (c - 1).toNat apR else apR
def wG {α:Type} (p:α→Bool):Nat→List α→Int
 | _,[]=>-1
 | k,x :: r=>if p x = true then k else wG p (k + 1) r
def atk (n:List UInt8):Int:=wG (fun s:qF=>s.name == n) 0 aa4 + 1
def W2:=qd Proofs.Tryz.f21 [zhn 9]
def WC (Γ:Env) (f:Nat):Prop:=∀ (a b:List Int) (hl:a.length < 2 ^ 62),EvN Γ f [.sl 1 (a.map V.int),.sl 1 (b.map V.int)] (V.bool (a == b))
theorem abq {Γ:Env} {f:Nat} (h:Has Γ.P f 26 W2.1.1.ac W2.1.2) :WC Γ f:=by
 intro a b hl
 refine Qb h zsi zcl zcl fun C hC hm=>?_
 subst hC
 simp only [W2,qd,DC.ac]
 by_cases hlen:a.length = b.length
 ·have e0:((((a.map V.int).length:Nat):Int) != (((b.map V.int).length:Nat):Int)) = false:=by simp [hlen]
  (have zx:=e0);refine zgo ?_;repeat' first|exact zt|apply zan|intro hc
  refine Qx (ι:=Nat) (fun k=>k≤a.length∧(a.drop k == b.drop k) = (a == b)) (fun k=>[(5,V.int k)]) (fun k=>a.length - k) 0 (by omega) ⟨by simp,by simp⟩ zol zlt (by simp only [Nat.reduceAdd,ovT,JQ,Nat.reduceEqDiff,reduceIte,Yy,Xg,afl,u32,u33,u34,u35,u36,u37,u38,u39,and_self,and_true,true_and]<;>rfl) fun k hk K' hL=>?_
  obtain ⟨hk,hinv⟩:=hk
  simp only [ovT,JQ,Nat.reduceEqDiff,reduceIte]
  rcases hd:a.drop k with _|⟨y,r⟩
  ·have:=Qs hd
   have hd2:b.drop k = []:=Zv (by omega)
   rw [hd,hd2] at hinv
   refine zgo ?_;repeat' first|exact zt|apply zan|intro hc
   all_goals (refine Qk _ rfl ?_;simp only [go_sem];rw [← hinv];rfl)
  ·obtain ⟨hk',hget,hr⟩:=Ql hd
   rcases hd2:b.drop k with _|⟨z,r2⟩
   ·have:=Qs hd2;omega
   ·obtain ⟨hk2,hget2,hr2⟩:=Ql hd2
    rw [hd,hd2] at hinv
    have hw:=Qf (k:=k) (by omega)
    by_cases hyz:y = z
    ·have e2:(y != z) = false:=by simp [hyz]
     (have zx:=za hget (za hget2 (za hw e2)));refine zgo ?_;repeat' first|exact zt|apply zan|intro hc
     refine hL _ (k + 1) zet ⟨by omega,?_⟩ (by omega) zoe
     rw [hr,hr2,← hinv];simp [hyz]
    ·have e2:(y != z) = true:=by simp [hyz]
     (have zx:=za hget (za hget2 (za hw e2)));refine zgo ?_;repeat' first|exact zt|apply zan|intro hc
     all_goals (refine Qk _ rfl ?_;simp only [go_sem];rw [← hinv];simp [hyz])
 ·have e0:((((a.map V.int).length:Nat):Int) != (((b.map V.int).length:Nat):Int)) = true:=by simp;omega
  have e1:(a == b) = false:=by
   simp only [kI,ne_eq]
   intro h;exact hlen (by rw [h])
  (have zx:=e0);refine zgo ?_;repeat' first|exact zt|apply zan|intro hc
  all_goals (refine Qk _ rfl ?_;simp only [go_sem];rw [e1])
def asU (c:Int):Int:=if 1≤c∧c≤16 then QL (amo c).ci1 (amo c).ci2 else 0
def aq1:List (List UInt8):=[[97,108,108],[104,105,103,104],[109,101,100,105,117,109],[108,111,119],[118,49],[118,50],[118,51],[118,52]]
def anm (n:List UInt8):Bool:=aq1.contains n || decide (ajn n 0 qP > 0) || decide (atk n > 0)
def asd (n:List UInt8) (st lo up:Int):Option Bool :=
 if n = [97,108,108] then some true else if n = [104,105,103,104] then some (decide (st≥128)) else if n = [109,101,100,105,117,109] then some (decide (st≥112) && decide (st < 128))
 else if n = [108,111,119] then some (decide (st < 112)) else if n = [118,49] then some (decide (lo≤1) && decide (1≤up)) else if n = [118,50] then some (decide (lo≤2) && decide (2≤up))
 else if n = [118,51] then some (decide (lo≤3) && decide (3≤up)) else if n = [118,52] then some (decide (lo≤4) && decide (4≤up)) else none
def ar5 (n:List UInt8) (s:qF):Bool :=
 match asd n (asU s.code) s.lo s.hi with
 | some b=>b
 | none=>(decide (ajn n 0 qP > 0) && (s.kx1 == ajn n 0 qP || s.sg1 == ajn n 0 qP || s.ci1 == ajn n 0 qP || s.mc1 == ajn n 0 qP)) || s.name == n
def vY (c:UInt8):List UInt8→List UInt8→List (List UInt8)
 | cur,[]=>[cur]
 | cur,x :: r=>if x = c then cur :: vY c [] r else vY c (cur++[x]) r
def vX (c:UInt8) (s:List UInt8):List (List UInt8):=vY c [] s
end Av
end
