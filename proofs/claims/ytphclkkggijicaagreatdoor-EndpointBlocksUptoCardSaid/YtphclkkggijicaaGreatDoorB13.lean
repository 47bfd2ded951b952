/- B13 -/
import Derived.Test.YtphclkkggijicaaGreatDoorB12
import Derived.Lib.ItoaLen
import Derived.Lib.IndexMore
import Derived.Lib.AtoiAll
set_option linter.unusedVariables false
set_option linter.unusedSimpArgs false
noncomputable section
set_option maxRecDepth 10000
set_option maxHeartbeats 4000000
namespace Av
open Go
attribute [local irreducible] AWp W7 Kx jy awS awC vE awQ aay QP W6 vu awR Vn awB okR jx ris
def XI (s:List UInt8):Int:=match Lib.atoiAll s with|.ok v=>v|.range=>Lib.atoiSat s|_=>0
def amN (s:List UInt8):V:=match Lib.atoiAll s with|.ok _=>.sc .nilIface|_=>.nn
def xY (Γ:Env) (f:Nat):Prop:=∀ (s:List UInt8) (hs:s.length < 4294967281),EvN Γ f [V.str s] (.tup [V.int (XI s),amN s])
def xX (Γ:Env) (f:Nat):Prop:=∀ (n:Int) (h0:-9223372036854775808≤n) (h1:n≤9223372036854775807),EvN Γ f [V.int n] (V.str (Lib.itoa n))
def Vk:=qd Proofs.Tryz.f118 []
def WI (Γ:Env) (f:Nat):Prop:=∀ (a b:Int),EvN Γ f [.agg [V.int a,V.int b]] (V.bool (decide (QL a b > 0)))
theorem ab6 {Γ:Env} {f:Nat} (h:Has Γ.P f 6 Vk.1.1.ac Vk.1.2) (z0:Yg Γ 164):WI Γ f:=by
 intro a b
 refine Qb h zsi zcl zcl fun C hC hm=>?_
 subst hC
 simp only [Vk,qd,DC.ac]
 refine zgo ?_;repeat' first|exact zt|apply zan|intro hc
 refine Qf _ rfl ?_;simp only [go_sem]
theorem ahm (x:Int):∀ (l:List Int) (k:Nat),0≤XO x k l→x∈l
 | [],k,h=>by simp [XO] at h
 | y :: r,k,h=>by
   unfold XO at h
   split at h
   ·rename_i e;simp [e]
   ·exact kx _ (ahm x r (k + 1) h)
def J2 (name:List UInt8):Nat→List abM→Int
 | _,[]=>0
 | k,r :: rs=>if 0 < k∧r.name = name then k else J2 name (k + 1) rs
theorem alQ (k:Nat) (h:k < 23) {r:abM} (hr:Q1[k]? = some r):(afd.drop (k * 5)).take 5 = r.v:=by
 have hk:k < Q1.length:=h
 rw [afd,aaY (f:=abM.v) (n:=5) (fun _=>rfl) Q1 k hk]
 rw [zf hk] at hr
 cases hr;rfl
def Ut:=qd Proofs.Tryz.f154 []
def VO (Γ:Env) (f:Nat):Prop:=∀ (s:List UInt8),EvN Γ f [V.str s] (V.int (J2 s 0 Q1))
attribute [local go_sem] abM.v agK in
theorem adc {Γ:Env} {f:Nat} (h:Has Γ.P f 20 Ut.1.1.ac Ut.1.2) (z0:VM Γ 192):VO Γ f:=by
 intro s
 refine Qb h zsi zcl zcl fun C hC hm=>?_
 subst hC
 simp only [Ut,qd,DC.ac]
 refine zgo ?_;repeat' first|exact zt|apply zan|intro hc
 refine Qt (ι:=Nat) (fun k=>k≤23∧J2 s k (Q1.drop k) = J2 s 0 Q1) (fun k=>[(6,V.int k)]) (fun k=>23 - k) 0 (by omega) ⟨by simp,by simp⟩ zol (fun i hi=>by simp only [ovT,Jn,Nat.reduceEqDiff,reduceIte];(repeat' first|exact wX|refine jZ ?_ ?_|simp only [V.lt,ltL,and_self,and_true]|omega);exact Xc _ _ adl) zet fun k hk K' hL=>?_
 obtain ⟨hk,hinv⟩:=hk
 simp only [ovT,Jn,Nat.reduceEqDiff,reduceIte]
 rcases hd:Q1.drop k with _|⟨r,rs⟩
 ·have hk':=Qj hd
  have hl:Q1.length = 23:=rfl
  rw [hd] at hinv
  refine zgo ?_;repeat' first|exact zt|apply zan|intro hc
  refine Qf _ rfl ?_;simp only [go_sem]
  rw [← hinv];rfl
 ·obtain ⟨hk',hget,hr⟩:=Qe hd
  have hl:Q1.length = 23:=rfl
  rw [hd] at hinv
  have hw:=Qd (k:=k) (by omega)
  have hrow:=alQ k (by omega) hget
  (have zx:=za hrow hw);refine zgo ?_;repeat' first|exact zt|apply zan|intro hc
  all_goals first
   | (refine Qf _ rfl ?_;simp only [go_sem];rw [← hinv];simp [J2,hc];omega)
   | (refine hL _ (k + 1) zet ⟨by omega,?_⟩ (by omega) zoe;rw [hr,← hinv,J2,if_neg (by first|omega|simp [hc])])
def Km:=qd Proofs.Tryz.f180 []
def jv (Γ:Env) (f:Nat):Prop:=∀ (a b:Int),EvN Γ f [V.int a,V.int b] (.agg [V.int a,V.int b])
theorem aea {Γ:Env} {f:Nat} (h:Has Γ.P f 8 Km.1.1.ac Km.1.2) :jv Γ f:=by
 intro a b
 refine Qb h zsi zcl zcl fun C hC hm=>?_
 subst hC
 simp only [Km,qd,DC.ac]
 refine zgo ?_;repeat' first|exact zt|apply zan|intro hc
 refine Qf _ rfl ?_;simp only [go_sem]
end Av
end
