/- K13 -/
import Derived.Test.YtphclkkggijicaaGreatDoorK12
import Derived.Lib.ItoaLen
import Derived.Lib.IndexMore
import Derived.Lib.AtoiAll
set_option linter.unusedVariables false
set_option linter.unusedSimpArgs false
noncomputable section
set_option maxRecDepth 10000
set_option maxHeartbeats 4000000
namespace Av
open Go
attribute [local irreducible] AWp Vo Ky jA awS awC aad awQ aaN QL Vq vQ awR Vz awB okR js ris
def Xo (s:List UInt8):Int:=match Lib.atoiAll s with|.ok v=>v|.range=>Lib.atoiSat s|_=>0
def amd (s:List UInt8):V:=match Lib.atoiAll s with|.ok _=>.sc .nilIface|_=>.nn
def xr (Γ:Env) (f:Nat):Prop:=∀ (s:List UInt8) (hs:s.length < 4294967281),EvN Γ f [V.str s] (.tup [V.int (Xo s),amd s])
def xq (Γ:Env) (f:Nat):Prop:=∀ (n:Int) (h0:-9223372036854775808≤n) (h1:n≤9223372036854775807),EvN Γ f [V.int n] (V.str (Lib.itoa n))
def WV:=qd Proofs.Tryz.f118 []
def Ws (Γ:Env) (f:Nat):Prop:=∀ (a b:Int),EvN Γ f [.agg [V.int a,V.int b]] (V.bool (decide (QG a b > 0)))
theorem abG {Γ:Env} {f:Nat} (h:Has Γ.P f 6 WV.1.1.ac WV.1.2) (z0:J9 Γ 164):Ws Γ f:=by
 intro a b
 refine Qb h zsi zcl zcl fun C hC hm=>?_
 subst hC
 simp only [WV,qd,DC.ac]
 refine zgo ?_;repeat' first|exact zt|apply zan|intro hc
 refine Qd _ rfl ?_;simp only [go_sem]
theorem agS (x:Int):∀ (l:List Int) (k:Nat),0≤Xu x k l→x∈l
 | [],k,h=>by simp [Xu] at h
 | y :: r,k,h=>by
   unfold Xu at h
   split at h
   ·rename_i e;simp [e]
   ·exact kc _ (agS x r (k + 1) h)
def JR (name:List UInt8):Nat→List abm→Int
 | _,[]=>0
 | k,r :: rs=>if 0 < k∧r.name = name then k else JR name (k + 1) rs
theorem alf (k:Nat) (h:k < 23) {r:abm} (hr:QR[k]? = some r):(aeL.drop (k * 5)).take 5 = r.v:=by
 have hk:k < QR.length:=h
 rw [aeL,aau (f:=abm.v) (n:=5) (fun _=>rfl) QR k hk]
 rw [ze hk] at hr
 cases hr;rfl
def V1:=qd Proofs.Tryz.f154 []
def Vn (Γ:Env) (f:Nat):Prop:=∀ (s:List UInt8),EvN Γ f [V.str s] (V.int (JR s 0 QR))
attribute [local go_sem] abm.v age in
theorem acJ {Γ:Env} {f:Nat} (h:Has Γ.P f 20 V1.1.1.ac V1.1.2) (z0:Vl Γ 192):Vn Γ f:=by
 intro s
 refine Qb h zsi zcl zcl fun C hC hm=>?_
 subst hC
 simp only [V1,qd,DC.ac]
 refine zgo ?_;repeat' first|exact zt|apply zan|intro hc
 refine Qp (ι:=Nat) (fun k=>k≤23∧JR s k (QR.drop k) = JR s 0 QR) (fun k=>[(6,V.int k)]) (fun k=>23 - k) 0 (by omega) ⟨by simp,by simp⟩ zol (fun i hi=>by simp only [ovT,Je,Nat.reduceEqDiff,reduceIte];(repeat' first|exact aar|refine xG ?_ ?_|simp only [V.lt,ltL,and_self,and_true]|omega);exact Xy _ _ acR) zet fun k hk K' hL=>?_
 obtain ⟨hk,hinv⟩:=hk
 simp only [ovT,Je,Nat.reduceEqDiff,reduceIte]
 rcases hd:QR.drop k with _|⟨r,rs⟩
 ·have hk':=Qj hd
  have hl:QR.length = 23:=rfl
  rw [hd] at hinv
  refine zgo ?_;repeat' first|exact zt|apply zan|intro hc
  refine Qd _ rfl ?_;simp only [go_sem]
  rw [← hinv];rfl
 ·obtain ⟨hk',hget,hr⟩:=Qf hd
  have hl:QR.length = 23:=rfl
  rw [hd] at hinv
  have hw:=Qc (k:=k) (by omega)
  have hrow:=alf k (by omega) hget
  (have zx:=za hrow hw);refine zgo ?_;repeat' first|exact zt|apply zan|intro hc
  all_goals first
   | (refine Qd _ rfl ?_;simp only [go_sem];rw [← hinv];simp [JR,hc];omega)
   | (refine hL _ (k + 1) zet ⟨by omega,?_⟩ (by omega) zoe;rw [hr,← hinv,JR,if_neg (by first|omega|simp [hc])])
def UY:=qd Proofs.Tryz.f180 []
def ja (Γ:Env) (f:Nat):Prop:=∀ (a b:Int),EvN Γ f [V.int a,V.int b] (.agg [V.int a,V.int b])
theorem adE {Γ:Env} {f:Nat} (h:Has Γ.P f 8 UY.1.1.ac UY.1.2) :ja Γ f:=by
 intro a b
 refine Qb h zsi zcl zcl fun C hC hm=>?_
 subst hC
 simp only [UY,qd,DC.ac]
 refine zgo ?_;repeat' first|exact zt|apply zan|intro hc
 refine Qd _ rfl ?_;simp only [go_sem]
end Av
end
