/- W18 -/
import Derived.Test.YtlpaikjhphkioaaGreatW17
import Derived.Lib.IndexLaws
import Derived.Lib.AtoiAllCases
import Derived.Test.YtlpaikjhphkioaaGreatW12
import Derived.Test.YtlpaikjhphkioaaGreatW13
set_option linter.unusedVariables false
set_option linter.unusedSimpArgs false
noncomputable section
set_option maxRecDepth 10000
set_option maxHeartbeats 4000000
namespace Av
open Go
attribute [local irreducible] AWp Vy K7 jE awS awC aaG awQ abg QW Uc vZ awR Uj awB okR jt ris
def anH:Kt:=⟨0,[],0,0,0,0,0,0,0,0,0,0⟩
def akh (c:Int):Kt:=if 1≤c∧c≤16 then wZ.getD (c - 1).toNat anH else anH
def yF {α:Type} (p:α→Bool):Nat→List α→Int
 | _,[]=>-1
 | k,x :: r=>if p x = true then k else yF p (k + 1) r
def aq7 (n:List UInt8):Int:=yF (fun s:Kt=>s.name == n) 0 wZ + 1
def X3:=qd Proofs.Tryz.f21 [zhn 9]
def VQ (Γ:Env) (f:Nat):Prop:=∀ (a b:List Int) (hl:a.length < 2 ^ 62),EvN Γ f [.sl 1 (a.map V.int),.sl 1 (b.map V.int)] (V.bool (a == b))
theorem vP {Γ:Env} {f:Nat} (h:Has Γ.P f 26 X3.1.1.ac X3.1.2) :VQ Γ f:=by
 intro a b hl
 refine Qb h zsi zcl zcl fun C hC hm=>?_
 subst hC
 simp only [X3,qd,DC.ac]
 by_cases hlen:a.length = b.length
 ·have e0:((((a.map V.int).length:Nat):Int) != (((b.map V.int).length:Nat):Int)) = false:=by simp [hlen]
  (have zx:=e0);refine zgo ?_;repeat' first|exact zt|apply zan|intro hc
  refine Qz (ι:=Nat) (fun k=>k≤a.length∧(a.drop k == b.drop k) = (a == b)) (fun k=>[(5,V.int k)]) (fun k=>a.length - k) 0 (by omega) ⟨by simp,by simp⟩ zol zlt (by simp only [Nat.reduceAdd,ovT,JE,Nat.reduceEqDiff,reduceIte,J3,YB,adI,u32,u33,u34,u35,u36,u37,u38,u39,and_self,and_true,true_and]<;>rfl) fun k hk K' hL=>?_
  obtain ⟨hk,hinv⟩:=hk
  simp only [ovT,JE,Nat.reduceEqDiff,reduceIte]
  rcases hd:a.drop k with _|⟨y,r⟩
  ·have:=Qt hd
   have hd2:b.drop k = []:=Z5 (by omega)
   rw [hd,hd2] at hinv
   refine zgo ?_;repeat' first|exact zt|apply zan|intro hc
   all_goals (refine Ql _ rfl ?_;simp only [go_sem];rw [← hinv];rfl)
  ·obtain ⟨hk',hget,hr⟩:=Qm hd
   rcases hd2:b.drop k with _|⟨z,r2⟩
   ·have:=Qt hd2;omega
   ·obtain ⟨hk2,hget2,hr2⟩:=Qm hd2
    rw [hd,hd2] at hinv
    have hw:=Qg (k:=k) (by omega)
    by_cases hyz:y = z
    ·have e2:(y != z) = false:=by simp [hyz]
     (have zx:=za hget (za hget2 (za hw e2)));refine zgo ?_;repeat' first|exact zt|apply zan|intro hc
     refine hL _ (k + 1) zet ⟨by omega,?_⟩ (by omega) zoe
     rw [hr,hr2,← hinv];simp [hyz]
    ·have e2:(y != z) = true:=by simp [hyz]
     (have zx:=za hget (za hget2 (za hw e2)));refine zgo ?_;repeat' first|exact zt|apply zan|intro hc
     all_goals (refine Ql _ rfl ?_;simp only [go_sem];rw [← hinv];simp [hyz])
 ·have e0:((((a.map V.int).length:Nat):Int) != (((b.map V.int).length:Nat):Int)) = true:=by simp;omega
  have e1:(a == b) = false:=by
   simp only [kE,ne_eq]
   intro h;exact hlen (by rw [h])
  (have zx:=e0);refine zgo ?_;repeat' first|exact zt|apply zan|intro hc
  all_goals (refine Ql _ rfl ?_;simp only [go_sem];rw [e1])
def aqG (c:Int):Int:=if 1≤c∧c≤16 then QE (akh c).ci1 (akh c).ci2 else 0
def aoR:List (List UInt8):=[[97,108,108],[104,105,103,104],[109,101,100,105,117,109],[108,111,119],[118,49],[118,50],[118,51],[118,52]]
def ak8 (n:List UInt8):Bool:=aoR.contains n || decide (ahu n 0 KE > 0) || decide (aq7 n > 0)
def apY (n:List UInt8) (st lo up:Int):Option Bool :=
 if n = [97,108,108] then some true else if n = [104,105,103,104] then some (decide (st≥128)) else if n = [109,101,100,105,117,109] then some (decide (st≥112) && decide (st < 128))
 else if n = [108,111,119] then some (decide (st < 112)) else if n = [118,49] then some (decide (lo≤1) && decide (1≤up)) else if n = [118,50] then some (decide (lo≤2) && decide (2≤up))
 else if n = [118,51] then some (decide (lo≤3) && decide (3≤up)) else if n = [118,52] then some (decide (lo≤4) && decide (4≤up)) else none
def apS (n:List UInt8) (s:Kt):Bool :=
 match apY n (aqG s.code) s.lo s.hi with
 | some b=>b
 | none=>(decide (ahu n 0 KE > 0) && (s.kx1 == ahu n 0 KE || s.sg1 == ahu n 0 KE || s.ci1 == ahu n 0 KE || s.mc1 == ahu n 0 KE)) || s.name == n
def xG (c:UInt8):List UInt8→List UInt8→List (List UInt8)
 | cur,[]=>[cur]
 | cur,x :: r=>if x = c then cur :: xG c [] r else xG c (cur++[x]) r
def xF (c:UInt8) (s:List UInt8):List (List UInt8):=xG c [] s
end Av
end
