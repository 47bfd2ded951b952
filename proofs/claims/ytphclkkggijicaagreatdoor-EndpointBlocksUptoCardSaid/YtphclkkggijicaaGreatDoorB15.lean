/- B15 -/
import Derived.Test.YtphclkkggijicaaGreatDoorB14
import Derived.Test.YtphclkkggijicaaGreatDoorB12
set_option linter.unusedVariables false
set_option linter.unusedSimpArgs false
noncomputable section
set_option maxRecDepth 10000
set_option maxHeartbeats 4000000
namespace Av
open Go
attribute [local irreducible] AWp W7 Kx jy awS awC vE awQ aay QP W6 vu awR Vn awB okR jx ris
theorem apu {n:Int} (h0:0≤n) (h1:n < 256):IntKind.u8.wrap n = n:=by
 have e1:IntKind.u8.bits = 8:=rfl
 have e2:IntKind.u8.signed = false:=rfl
 simp only [IntKind.wrap,e1,e2,zD]
 simp;omega
def aaK (acc:Int):List UInt8→Option Int
 | []=>some acc
 | c :: r=>if c.toNat < 48∨57 < c.toNat then none else aaK (acc * 10 + ((c.toNat:Int) - 48)) r
def jV (s:List UInt8):Int×Bool :=
 if s = []∨15 < s.length∨(1 < s.length∧s[0]? = some 48) then (0,false)
 else match aaK 0 s with|none=>(0,false)|some n=>(n,true)
def amf (p:Int×Bool):V:=.tup [V.int p.1,V.bool p.2]
theorem ao8 {k:Nat} (h:k≤15):(10:Nat) ^ k≤1000000000000000:=kD (Nat.pow_le_pow_right (by omega) h) (by omega)
theorem aik (c:UInt8) (h:(c.toNat:Int) = 48):c = 48:=by
 apply UInt8.toNat_inj.1;simp;omega
def Um:=qd Proofs.Tryz.f160 []
def VD (Γ:Env) (f:Nat):Prop:=∀ (s:List UInt8),EvN Γ f [V.str s] (amf (jV s))
attribute [local go_sem] Int.toNat_zero in
theorem ac3 {Γ:Env} {f:Nat} (h:Has Γ.P f 49 Um.1.1.ac Um.1.2) :VD Γ f:=by
 intro s
 refine Qb h zsi (by simp only [amf,V.closed,Qa,V.noSl,UJ,and_self]) (by simp only [amf,V.closed,Qa,V.noSl,UJ,and_self]) fun C hC hm=>?_
 subst hC
 simp only [Um,qd,DC.ac]
 by_cases hbad:s = []∨15 < s.length∨(1 < s.length∧s[0]? = some 48)
 ·have hr:jV s = (0,false):=by rw [jV,if_pos hbad]
  rw [hr]
  rcases s with _|⟨c,r⟩
  ·refine zgo ?_;repeat' first|exact zt|apply zan|intro hc
   all_goals (simp only [amf];refine Qf _ rfl ?_;simp only [go_sem];done)
  ·have hl3:((((r.length + 1:Nat):Int)) == 0) = false:=by simp;omega
   by_cases hl:15 < (c :: r).length
   ·have hl4:decide ((((r.length + 1:Nat):Int)) > 15) = true:=by simp at hl ⊢;omega
    (have zx:=za hl3 hl4);refine zgo ?_;repeat' first|exact zt|apply zan|intro hc
    all_goals (simp only [amf];refine Qf _ rfl ?_;simp only [go_sem];done)
   ·have hc:1 < (c :: r).length∧c = 48:=by
     rcases hbad with h|h|h
     ·simp at h
     ·omega
     ·simpa using h
    obtain ⟨hc1,rfl⟩:=hc
    have hl4:decide ((((r.length + 1:Nat):Int)) > 15) = false:=by simp at hl ⊢;omega
    have hl5:decide ((((r.length + 1:Nat):Int)) > 1) = true:=by simp at hc1 ⊢;omega
    have hl6:((((48:UInt8).toNat:Int)) == 48) = true:=rfl
    (have zx:=za hl3 (za hl4 (za hl5 hl6)));refine zgo ?_;repeat' first|exact zt|apply zan|intro hc
    all_goals first
     | (exfalso;exact hc rfl)
     | (simp only [amf];refine Qf _ rfl ?_;simp only [go_sem])
 ·obtain ⟨c0,r0,hs0⟩:∃ c r,s = c :: r:=by
   rcases s with _|⟨c,r⟩
   ·simp at hbad
   ·exact ⟨_,_,rfl⟩
  have hl3:((s.length:Int) == 0) = false:=by rw [hs0];simp;omega
  have hl15:s.length≤15:=by omega
  have hl4:decide ((s.length:Int) > 15) = false:=by simp;omega
  have hg0:s[0]? = some c0:=by rw [hs0];rfl
  have hl6:1 < s.length→(c0.toNat:Int)≠48:=fun h1 h=>hbad (.inr (.inr ⟨h1,by rw [hg0,aik c0 h]⟩))
  have hr:jV s = (match aaK 0 s with|none=>(0,false)|some n=>(n,true)):=by rw [jV,if_neg hbad]
  rw [hr]
  (have zx:=za hl3 (za hl4 hg0));refine zgo ?_;repeat' first|exact zt|apply zan|intro hc
  all_goals first
   | (exfalso;have:=hl6 (by omega);omega)
   | skip
  all_goals
   refine Qt (ι:=Nat×Int) (fun p=>p.1≤s.length∧0≤p.2∧p.2 < ((10 ^ p.1:Nat):Int)∧aaK p.2 (s.drop p.1) = aaK 0 s) (fun p=>[(5,V.int p.1),(4,V.int p.2)]) (fun p=>s.length - p.1) (0,0) (by omega) ⟨by simp,by simp,by simp,by simp⟩ zol zlt zet fun p hk K' hL=>?_
   obtain ⟨k,n⟩:=p
   obtain ⟨hk,hn0,hn1,hinv⟩:=hk
   simp only [ovT,Jn,Nat.reduceEqDiff,reduceIte] at *
  all_goals
   rcases hd:s.drop k with _|⟨c,r⟩
   ·have hk':=Qj hd
    rw [hd] at hinv
    refine zgo ?_;repeat' first|exact zt|apply zan|intro hc
    rw [← hinv]
    simp only [aaK,amf]
    refine Qf _ rfl ?_;simp only [go_sem]
   ·obtain ⟨hk',hget,hrd⟩:=Qe hd
    rw [hd] at hinv
    have hw:=Qd (k:=k) (by omega)
    have hp:=ao8 (k:=k) (by omega)
    have hps:(10:Nat) ^ (k + 1) = 10 ^ k * 10:=Nat.pow_succ ..
    by_cases hdig:48≤c.toNat∧c.toNat≤57
    ·have e1:IntKind.i64.wrap (n * 10) = n * 10:=Jc (by omega) (by omega)
     have e2:IntKind.u8.wrap ((c.toNat:Int) - 48) = (c.toNat:Int) - 48:=apu (by omega) (by omega)
     have e3:IntKind.i64.wrap ((c.toNat:Int) - 48) = (c.toNat:Int) - 48:=Jc (by omega) (by omega)
     have e4:IntKind.i64.wrap (n * 10 + ((c.toNat:Int) - 48)) = n * 10 + ((c.toNat:Int) - 48):=Jc (by omega) (by omega)
     have e5:decide ((c.toNat:Int) < 48) = false:=by simp;omega
     have e6:decide ((c.toNat:Int) > 57) = false:=by simp;omega
     (have zx:=za hget (za hw (za e1 (za e2 (za e3 (za e4 (za e5 e6)))))));refine zgo ?_;repeat' first|exact zt|apply zan|intro hc
     refine hL _ (k + 1,n * 10 + ((c.toNat:Int) - 48)) zet ⟨by omega,by omega,?_,?_⟩ (by omega) zoe
     ·show n * 10 + ((c.toNat:Int) - 48) < ((10 ^ (k + 1):Nat):Int)
      rw [hps];omega
     ·show aaK (n * 10 + ((c.toNat:Int) - 48)) (s.drop (k + 1)) = aaK 0 s
      rw [hrd,← hinv,aaK,if_neg (by omega)]
    ·have hno:aaK n (c :: r) = none:=by rw [aaK,if_pos (by omega)]
     rw [hno] at hinv
     by_cases e5:c.toNat < 48
     ·have e6:decide ((c.toNat:Int) < 48) = true:=by simp;omega
      (have zx:=za hget (za hw e6));refine zgo ?_;repeat' first|exact zt|apply zan|intro hc
      all_goals (rw [← hinv];simp only [amf];refine Qf _ rfl ?_;simp only [go_sem])
     ·have e6:decide ((c.toNat:Int) < 48) = false:=by simp;omega
      have e7:decide ((c.toNat:Int) > 57) = true:=by simp;omega
      (have zx:=za hget (za hw (za e6 e7)));refine zgo ?_;repeat' first|exact zt|apply zan|intro hc
      all_goals (rw [← hinv];simp only [amf];refine Qf _ rfl ?_;simp only [go_sem])
end Av
end
