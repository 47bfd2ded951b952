/- K15 -/
import Derived.Test.YtphclkkggijicaaGreatDoorK14
import Derived.Test.YtphclkkggijicaaGreatDoorK12
set_option linter.unusedVariables false
set_option linter.unusedSimpArgs false
noncomputable section
set_option maxRecDepth 10000
set_option maxHeartbeats 4000000
namespace Av
open Go
attribute [local irreducible] AWp Vo Ky jA awS awC aad awQ aaN QL Vq vQ awR Vz awB okR js ris
theorem aoQ {n:Int} (h0:0≤n) (h1:n < 256):IntKind.u8.wrap n = n:=by
 have e1:IntKind.u8.bits = 8:=rfl
 have e2:IntKind.u8.signed = false:=rfl
 simp only [IntKind.wrap,e1,e2,zB]
 simp;omega
def aab (acc:Int):List UInt8→Option Int
 | []=>some acc
 | c :: r=>if c.toNat < 48∨57 < c.toNat then none else aab (acc * 10 + ((c.toNat:Int) - 48)) r
def jF (s:List UInt8):Int×Bool :=
 if s = []∨15 < s.length∨(1 < s.length∧s[0]? = some 48) then (0,false)
 else match aab 0 s with|none=>(0,false)|some n=>(n,true)
def alF (p:Int×Bool):V:=.tup [V.int p.1,V.bool p.2]
theorem aot {k:Nat} (h:k≤15):(10:Nat) ^ k≤1000000000000000:=kB (Nat.pow_le_pow_right (by omega) h) (by omega)
theorem ahK (c:UInt8) (h:(c.toNat:Int) = 48):c = 48:=by
 apply UInt8.toNat_inj.1;simp;omega
def VU:=qd Proofs.Tryz.f160 []
def Ve (Γ:Env) (f:Nat):Prop:=∀ (s:List UInt8),EvN Γ f [V.str s] (alF (jF s))
attribute [local go_sem] Int.toNat_zero in
theorem acA {Γ:Env} {f:Nat} (h:Has Γ.P f 49 VU.1.1.ac VU.1.2) :Ve Γ f:=by
 intro s
 refine Qb h zsi (by simp only [alF,V.closed,Qa,V.noSl,Um,and_self]) (by simp only [alF,V.closed,Qa,V.noSl,Um,and_self]) fun C hC hm=>?_
 subst hC
 simp only [VU,qd,DC.ac]
 by_cases hbad:s = []∨15 < s.length∨(1 < s.length∧s[0]? = some 48)
 ·have hr:jF s = (0,false):=by rw [jF,if_pos hbad]
  rw [hr]
  rcases s with _|⟨c,r⟩
  ·refine zgo ?_;repeat' first|exact zt|apply zan|intro hc
   all_goals (simp only [alF];refine Qd _ rfl ?_;simp only [go_sem];done)
  ·have hl3:((((r.length + 1:Nat):Int)) == 0) = false:=by simp;omega
   by_cases hl:15 < (c :: r).length
   ·have hl4:decide ((((r.length + 1:Nat):Int)) > 15) = true:=by simp at hl ⊢;omega
    (have zx:=za hl3 hl4);refine zgo ?_;repeat' first|exact zt|apply zan|intro hc
    all_goals (simp only [alF];refine Qd _ rfl ?_;simp only [go_sem];done)
   ·have hc:1 < (c :: r).length∧c = 48:=by
     rcases hbad with h|h|h
     ·simp at h
     ·omega
     ·simpa using h
    obtain ⟨hc1,rfl⟩:=hc
    have hl4:decide ((((r.length + 1:Nat):Int)) > 15) = false:=by simp at hl ⊢;omega
    have hl5:decide ((((r.length + 1:Nat):Int)) > 1) = true:=by simp at hc1 ⊢;omega
    have hl6:((((48:UInt8).toNat:Int)) == 48) = true:=rfl
    (have zx:=za hl3 (za hl4 (za hl5 hl6)));refine zgo ?_;repeat' first|exact zt|apply zan|intro hc
    all_goals first
     | (exfalso;exact hc rfl)
     | (simp only [alF];refine Qd _ rfl ?_;simp only [go_sem])
 ·obtain ⟨c0,r0,hs0⟩:∃ c r,s = c :: r:=by
   rcases s with _|⟨c,r⟩
   ·simp at hbad
   ·exact ⟨_,_,rfl⟩
  have hl3:((s.length:Int) == 0) = false:=by rw [hs0];simp;omega
  have hl15:s.length≤15:=by omega
  have hl4:decide ((s.length:Int) > 15) = false:=by simp;omega
  have hg0:s[0]? = some c0:=by rw [hs0];rfl
  have hl6:1 < s.length→(c0.toNat:Int)≠48:=fun h1 h=>hbad (.inr (.inr ⟨h1,by rw [hg0,ahK c0 h]⟩))
  have hr:jF s = (match aab 0 s with|none=>(0,false)|some n=>(n,true)):=by rw [jF,if_neg hbad]
  rw [hr]
  (have zx:=za hl3 (za hl4 hg0));refine zgo ?_;repeat' first|exact zt|apply zan|intro hc
  all_goals first
   | (exfalso;have:=hl6 (by omega);omega)
   | skip
  all_goals
   refine Qp (ι:=Nat×Int) (fun p=>p.1≤s.length∧0≤p.2∧p.2 < ((10 ^ p.1:Nat):Int)∧aab p.2 (s.drop p.1) = aab 0 s) (fun p=>[(5,V.int p.1),(4,V.int p.2)]) (fun p=>s.length - p.1) (0,0) (by omega) ⟨by simp,by simp,by simp,by simp⟩ zol zlt zet fun p hk K' hL=>?_
   obtain ⟨k,n⟩:=p
   obtain ⟨hk,hn0,hn1,hinv⟩:=hk
   simp only [ovT,Je,Nat.reduceEqDiff,reduceIte] at *
  all_goals
   rcases hd:s.drop k with _|⟨c,r⟩
   ·have hk':=Qj hd
    rw [hd] at hinv
    refine zgo ?_;repeat' first|exact zt|apply zan|intro hc
    rw [← hinv]
    simp only [aab,alF]
    refine Qd _ rfl ?_;simp only [go_sem]
   ·obtain ⟨hk',hget,hrd⟩:=Qf hd
    rw [hd] at hinv
    have hw:=Qc (k:=k) (by omega)
    have hp:=aot (k:=k) (by omega)
    have hps:(10:Nat) ^ (k + 1) = 10 ^ k * 10:=Nat.pow_succ ..
    by_cases hdig:48≤c.toNat∧c.toNat≤57
    ·have e1:IntKind.i64.wrap (n * 10) = n * 10:=Q9 (by omega) (by omega)
     have e2:IntKind.u8.wrap ((c.toNat:Int) - 48) = (c.toNat:Int) - 48:=aoQ (by omega) (by omega)
     have e3:IntKind.i64.wrap ((c.toNat:Int) - 48) = (c.toNat:Int) - 48:=Q9 (by omega) (by omega)
     have e4:IntKind.i64.wrap (n * 10 + ((c.toNat:Int) - 48)) = n * 10 + ((c.toNat:Int) - 48):=Q9 (by omega) (by omega)
     have e5:decide ((c.toNat:Int) < 48) = false:=by simp;omega
     have e6:decide ((c.toNat:Int) > 57) = false:=by simp;omega
     (have zx:=za hget (za hw (za e1 (za e2 (za e3 (za e4 (za e5 e6)))))));refine zgo ?_;repeat' first|exact zt|apply zan|intro hc
     refine hL _ (k + 1,n * 10 + ((c.toNat:Int) - 48)) zet ⟨by omega,by omega,?_,?_⟩ (by omega) zoe
     ·show n * 10 + ((c.toNat:Int) - 48) < ((10 ^ (k + 1):Nat):Int)
      rw [hps];omega
     ·show aab (n * 10 + ((c.toNat:Int) - 48)) (s.drop (k + 1)) = aab 0 s
      rw [hrd,← hinv,aab,if_neg (by omega)]
    ·have hno:aab n (c :: r) = none:=by rw [aab,if_pos (by omega)]
     rw [hno] at hinv
     by_cases e5:c.toNat < 48
     ·have e6:decide ((c.toNat:Int) < 48) = true:=by simp;omega
      (have zx:=za hget (za hw e6));refine zgo ?_;repeat' first|exact zt|apply zan|intro hc
      all_goals (rw [← hinv];simp only [alF];refine Qd _ rfl ?_;simp only [go_sem])
     ·have e6:decide ((c.toNat:Int) < 48) = false:=by simp;omega
      have e7:decide ((c.toNat:Int) > 57) = true:=by simp;omega
      (have zx:=za hget (za hw (za e6 e7)));refine zgo ?_;repeat' first|exact zt|apply zan|intro hc
      all_goals (rw [← hinv];simp only [alF];refine Qd _ rfl ?_;simp only [go_sem])
end Av
end
