/- K16 -/
import Derived.Test.YtlpaikjhphkioaaGreatK15
import Derived.Lib.ItoaLen
import Derived.Lib.IndexMore
import Derived.Lib.AtoiAll
import Derived.Test.YtlpaikjhphkioaaGreatK12
import Derived.Test.YtlpaikjhphkioaaGreatK13
set_option linter.unusedVariables false
set_option linter.unusedSimpArgs false
noncomputable section
set_option maxRecDepth 10000
set_option maxHeartbeats 4000000
namespace Av
open Go
attribute [local irreducible] AWp Uv qW xf awS awC abB awQ acd QZ UL aa2 awR Kc awB okR yu ris
def V0:=qd Proofs.Tryz.f95 []
def Vd (Γ:Env) (f:Nat):Prop:=∀ (a b:Int),EvN Γ f [.agg [V.int a,V.int b]] (V.bool (decide (QL a b > 0)))
theorem acP {Γ:Env} {f:Nat} (h:Has Γ.P f 6 V0.1.1.ac V0.1.2) (z0:Vu Γ 121):Vd Γ f:=by
 intro a b
 refine Qb h zsi zcl zcl fun C hC hm=>?_
 subst hC
 simp only [V0,qd,DC.ac]
 refine zgo ?_;repeat' first|exact zt|apply zan|intro hc
 refine Qk _ rfl ?_;simp only [go_sem]
def ajn (name:List UInt8):Nat→List aeF→Int
 | _,[]=>0
 | k,r :: rs=>if 0 < k∧r.name = name then k else ajn name (k + 1) rs
structure qF where
 code:Int
 name:List UInt8
 kx1:Int
 kx2:Int
 sg1:Int
 sg2:Int
 ci1:Int
 ci2:Int
 mc1:Int
 mc2:Int
 lo:Int
 hi:Int
 deriving DecidableEq
def qF.cells (s:qF):List V:=[V.int s.code,V.str s.name,V.int s.kx1,V.int s.kx2,V.int s.sg1,V.int s.sg2,V.int s.ci1,V.int s.ci2,V.int s.mc1,V.int s.mc2,V.int s.lo,V.int s.hi]
def qF.v (s:qF):V:=.agg s.cells
def aa4:List qF:=[⟨1,[114,115,97,45,114,99,52,45,109,100,53],10,0,5,0,14,128,19,0,1,2⟩,⟨2,[114,115,97,45,114,99,52,45,115,104,97],10,0,5,0,14,128,20,0,1,3⟩,⟨3,[114,115,97,45,100,101,115,51,45,115,104,97],10,0,5,0,15,168,20,0,1,3⟩,⟨4,[100,104,101,45,100,115,97,45,100,101,115,51,45,115,104,97],11,1024,6,0,15,168,20,0,1,3⟩,⟨5,[100,104,101,45,114,115,97,45,100,101,115,51,45,115,104,97],11,1024,5,0,15,168,20,0,1,3⟩,⟨6,[114,115,97,45,97,101,115,49,50,56,45,115,104,97],10,0,5,0,16,128,20,0,1,3⟩,⟨7,[100,104,101,45,114,115,97,45,97,101,115,49,50,56,45,115,104,97],11,2048,5,0,16,128,20,0,1,3⟩,⟨8,[101,99,100,104,101,45,114,115,97,45,97,101,115,49,50,56,45,115,104,97],12,256,5,0,16,128,20,0,1,3⟩,⟨9,[101,99,100,104,101,45,101,99,100,115,97,45,97,101,115,50,53,54,45,115,104,97,50,53,54],12,256,7,0,16,256,21,0,3,3⟩,⟨10,[101,99,100,104,101,45,114,115,97,45,97,101,115,49,50,56,45,103,99,109],12,256,5,0,17,128,22,0,3,3⟩,⟨11,[101,99,100,104,101,45,101,99,100,115,97,45,97,101,115,50,53,54,45,103,99,109],12,384,7,0,17,256,22,0,3,3⟩,⟨12,[101,99,100,104,101,45,114,115,97,45,99,104,97,99,104,97],12,256,5,0,18,0,22,0,3,3⟩,⟨13,[114,115,97,45,97,101,115,50,53,54,45,103,99,109],10,0,5,0,17,256,22,0,3,3⟩,⟨14,[97,101,115,49,50,56,45,103,99,109],12,256,0,0,17,128,22,0,4,4⟩,⟨15,[99,104,97,99,104,97],12,256,0,0,18,0,22,0,4,4⟩,⟨16,[109,108,107,101,109,45,97,101,115,50,53,54,45,103,99,109],13,768,0,0,17,256,22,0,4,4⟩]
def amF (r:aeF):V:=.agg [V.str r.name,V.int r.kind]
def aiY:List V:=qP.map amF
theorem aiX {k:Nat} {r:aeF} (h:qP[k]? = some r):aiY[k]? = some (amF r):=by
 rw [aiY,zf,h];rfl
theorem alK {a:Int} (ha:1≤a∧a≤22):qP[a.toNat]? = some (WT a):=by
 have hl:qP.length = 23:=rfl
 have hk:a.toNat < qP.length:=by omega
 rw [WT,if_pos ha,zJ,zd hk,Option.getD_some]
def jr:=qd Proofs.Tryz.f126 []
def yZ (Γ:Env) (f:Nat):Prop:=EvC Γ f [] (.sl 2 aiY)
theorem agx {Γ:Env} {f:Nat} (h:Has Γ.P f 25 jr.1.1.ac jr.1.2) :yZ Γ f:=by
 refine Jy h zsi (by simp only [V.closed]) fun C hC hm=>?_
 subst hC
 simp only [jr,qd,DC.ac]
 refine zgo ?_;repeat' first|exact zt|apply zan|intro hc
 refine Qk _ rfl ?_;simp only [go_sem]
 rfl
def jt:=qd Proofs.Tryz.f104 []
def xb (Γ:Env) (f:Nat):Prop:=∀ (a:Int),EvN Γ f [V.int a] (V.int (WT a).kind)
attribute [local go_sem] amF in
theorem agy {Γ:Env} {f:Nat} (h:Has Γ.P f 14 jt.1.1.ac jt.1.2) (z0:yZ Γ 126):xb Γ f:=by
 intro a
 refine Qb h zsi zcl zcl fun C hC hm=>?_
 subst hC
 simp only [jt,qd,DC.ac]
 by_cases ha:1≤a∧a≤22
 ·have hg:=aiX (alK ha)
  (have zx:=hg);refine zgo ?_;repeat' first|exact zt|apply zan|intro hc
  all_goals first|(refine Qk _ rfl ?_;simp only [go_sem];done)|(refine Qk _ rfl ?_;simp only [go_sem];simp [*];done)|(subst hc;refine Qk _ rfl ?_;simp only [go_sem];simp [*];done)
 ·have hc0:WT a = aor:=by rw [WT,if_neg ha]
  refine zgo ?_;repeat' first|exact zt|apply zan|intro hc
  all_goals first|(refine Qk _ rfl ?_;simp only [go_sem];done)|(refine Qk _ rfl ?_;simp only [go_sem];simp [hc0,aor, *];done)|(subst hc;refine Qk _ rfl ?_;simp only [go_sem];simp [hc0,aor, *];done)
def qz (b:Int):List Int→List Int→Int
 | x :: xs,y :: ys=>if x = b then y else qz b xs ys
 | _,_=>0
def KY:=qd Proofs.Tryz.f124 []
def jT (Γ:Env) (f:Nat):Prop:=∀ (b:Int) (xs ys:List Int) (hs:xs.length≤ys.length) (h2:xs.length < 2 ^ 62),EvN Γ f [V.int b,.sl 1 (xs.map V.int),.sl 1 (ys.map V.int)] (V.int (qz b xs ys))
theorem ae0 {Γ:Env} {f:Nat} (h:Has Γ.P f 24 KY.1.1.ac KY.1.2) :jT Γ f:=by
 intro b xs ys hs h2
 refine Qb h zsi zcl zcl fun C hC hm=>?_
 subst hC
 simp only [KY,qd,DC.ac]
 refine zgo ?_;repeat' first|exact zt|apply zan|intro hc
 refine Qx (ι:=Nat) (fun k=>k≤xs.length∧qz b (xs.drop k) (ys.drop k) = qz b xs ys) (fun k=>[(7,V.int k)]) (fun k=>xs.length - k) 0 (by omega) ⟨by simp,by simp⟩ zol zlt zet fun k hk K' hL=>?_
 obtain ⟨hk,hinv⟩:=hk
 simp only [ovT,JQ,Nat.reduceEqDiff,reduceIte]
 rcases hd:xs.drop k with _|⟨x,r⟩
 ·have:=Qs hd
  rw [hd] at hinv
  refine zgo ?_;repeat' first|exact zt|apply zan|intro hc
  refine Qk _ rfl ?_;simp only [go_sem]
  rw [← hinv];simp [qz]
 ·obtain ⟨hk',hget,hr⟩:=Ql hd
  rcases hd2:ys.drop k with _|⟨y,r2⟩
  ·have:=Qs hd2;omega
  ·obtain ⟨hk2,hget2,hr2⟩:=Ql hd2
   rw [hd,hd2] at hinv
   have hw:=Qf (k:=k) (by omega)
   (have zx:=za hget (za hget2 hw));refine zgo ?_;repeat' first|exact zt|apply zan|intro hc
   ·refine Qk _ rfl ?_;simp only [go_sem]
    rw [← hinv];simp [qz,hc]
   ·refine hL _ (k + 1) zet ⟨by omega,?_⟩ (by omega) zoe
    rw [hr,hr2,← hinv,qz,if_neg hc]
def wU (a:Int):Int:=if a = 1 then 18 else if a = 2 then 60 else if a = 3∨a = 8∨a = 21 then 128 else if a = 4 then 192 else if a = 18∨a = 22 then 256 else if a = 19 then 64 else if a = 20 then 80 else 0
def asL (b:Int):Int:=if b < 512∨16384 < b then 0 else alw b ama
def U0:=qd Proofs.Tryz.f125 []
def qK (Γ:Env) (f:Nat):Prop:=∀ (a:Int),EvN Γ f [V.int a] (V.int (wU a))
theorem adY {Γ:Env} {f:Nat} (h:Has Γ.P f 21 U0.1.1.ac U0.1.2) :qK Γ f:=by
 intro a
 refine Qb h zsi zcl zcl fun C hC hm=>?_
 subst hC
 simp only [U0,qd,DC.ac]
 refine zgo ?_;repeat' first|exact zt|apply zan|intro hc
 all_goals (refine Qk _ rfl ?_;simp only [go_sem];simp [wU, *])
def VR:=qd Proofs.Tryz.f123 []
def Kq (Γ:Env) (f:Nat):Prop:=∀ (b:Int),EvN Γ f [V.int b] (V.int (asL b))
theorem acG {Γ:Env} {f:Nat} (h:Has Γ.P f 25 VR.1.1.ac VR.1.2) :Kq Γ f:=by
 intro b
 refine Qb h zsi zcl zcl fun C hC hm=>?_
 subst hC
 simp only [VR,qd,DC.ac]
 refine zgo ?_;repeat' first|exact zt|apply zan|intro hc
 all_goals (refine Qk _ rfl ?_;simp only [go_sem];simp only [asL,alw,ama];repeat' split)<;>omega
def yr (a b:Int):Int :=
 if a = 5∨a = 6∨a = 10∨a = 11 then asL b
 else if a = 7∨a = 12 then (if b = 160∨b = 224∨b = 256∨b = 384∨b = 521 then IntKind.i64.wrap (b.tdiv 2) else 0)
 else if a = 9 then qz b [44,65,87] [128,192,256]
 else if a = 13 then qz b [512,768,1024] [128,192,256]
 else if a = 14 then qz b [40,128] [40,60]
 else if a = 15 then qz b [112,168] [80,112]
 else if a = 16∨a = 17 then qz b [128,256] [128,256]
 else qz b [0] [wU a]
theorem ak6 (a:Int) (ha:¬ (1≤a∧a≤22)):wU a = 0:=by
 simp only [wU];repeat' split
 all_goals omega
theorem aeJ (a b:Int):yr a b = QL a b:=by
 by_cases ha:1≤a∧a≤22
 ·rcases (by omega:a = 1∨a = 2∨a = 3∨a = 4∨a = 5∨a = 6∨a = 7∨a = 8∨a = 9∨a = 10∨a = 11∨a = 12∨a = 13∨a = 14∨a = 15∨a = 16∨a = 17∨a = 18∨a = 19∨a = 20∨a = 21∨a = 22) with rfl|rfl|rfl|rfl|rfl|rfl|rfl|rfl|rfl|rfl|rfl|rfl|rfl|rfl|rfl|rfl|rfl|rfl|rfl|rfl|rfl|rfl
  all_goals simp [yr,QL,qj,WT,qP,qz,wU,xx,asL]
  all_goals (repeat' split)<;>first|omega|rfl|simp_all
 ·have hs:=ak6 a ha
  rw [QL,qj,if_pos (by simp [ha])]
  simp only [yr]
  rw [if_neg (by omega),if_neg (by omega),if_neg (by omega),if_neg (by omega),if_neg (by omega),if_neg (by omega),if_neg (by omega),hs]
  simp [qz]
def W1:=qd Proofs.Tryz.f99 []
def UQ (Γ:Env) (f:Nat):Prop:=∀ (a b:Int),EvN Γ f [.agg [V.int a,V.int b]] (V.int (QL a b))
theorem abp {Γ:Env} {f:Nat} (h:Has Γ.P f 76 W1.1.1.ac W1.1.2) (z0:Kq Γ 123) (z1:jT Γ 124) (z2:qK Γ 125):UQ Γ f:=by
 intro a b
 refine Qb h zsi zcl zcl fun C hC hm=>?_
 subst hC
 simp only [W1,qd,DC.ac]
 rw [← aeJ]
 have k1:=z1 b [44,65,87] [128,192,256] (by simp) (by simp)
 have k2:=z1 b [512,768,1024] [128,192,256] (by simp) (by simp)
 have k3:=z1 b [40,128] [40,60] (by simp) (by simp)
 have k4:=z1 b [112,168] [80,112] (by simp) (by simp)
 have k5:=z1 b [128,256] [128,256] (by simp) (by simp)
 have k6:=z1 b [0] [wU a] (by simp) (by simp)
 (have zy0:=k1.b;have zy1:=k2.b;have zy2:=k3.b;have zy3:=k4.b;have zy4:=k5.b;have zy5:=k6.b);refine zgo ?_;repeat' first|exact zt|apply zan|intro hc
 all_goals (refine Qk _ rfl ?_;simp only [go_sem];simp [yr, *])
def KZ:=qd Proofs.Tryz.f76 []
def WW (Γ:Env) (f:Nat):Prop:=∀ (a b:Int),EvN Γ f [.agg [V.int a,V.int b]] (V.bool (decide (QL a b > 0)))
theorem ae1 {Γ:Env} {f:Nat} (h:Has Γ.P f 6 KZ.1.1.ac KZ.1.2) (z0:UQ Γ 99):WW Γ f:=by
 intro a b
 refine Qb h zsi zcl zcl fun C hC hm=>?_
 subst hC
 simp only [KZ,qd,DC.ac]
 refine zgo ?_;repeat' first|exact zt|apply zan|intro hc
 refine Qk _ rfl ?_;simp only [go_sem]
end Av
end
