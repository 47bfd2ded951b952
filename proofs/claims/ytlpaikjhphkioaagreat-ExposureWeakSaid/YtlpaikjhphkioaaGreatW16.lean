/- W16 -/
import Derived.Test.YtlpaikjhphkioaaGreatW15
import Derived.Lib.ItoaLen
import Derived.Lib.IndexMore
import Derived.Lib.AtoiAll
import Derived.Test.YtlpaikjhphkioaaGreatW12
import Derived.Test.YtlpaikjhphkioaaGreatW13
set_option linter.unusedVariables false
set_option linter.unusedSimpArgs false
noncomputable section
set_option maxRecDepth 10000
set_option maxHeartbeats 4000000
namespace Av
open Go
attribute [local irreducible] AWp Vy K7 jE awS awC aaG awQ abg QW Uc vZ awR Uj awB okR jt ris
def W4:=qd Proofs.Tryz.f95 []
def We (Γ:Env) (f:Nat):Prop:=∀ (a b:Int),EvN Γ f [.agg [V.int a,V.int b]] (V.bool (decide (QE a b > 0)))
theorem abb {Γ:Env} {f:Nat} (h:Has Γ.P f 6 W4.1.1.ac W4.1.2) (z0:Ww Γ 121):We Γ f:=by
 intro a b
 refine Qb h zsi zcl zcl fun C hC hm=>?_
 subst hC
 simp only [W4,qd,DC.ac]
 refine zgo ?_;repeat' first|exact zt|apply zan|intro hc
 refine Ql _ rfl ?_;simp only [go_sem]
def ahu (name:List UInt8):Nat→List ac1→Int
 | _,[]=>0
 | k,r :: rs=>if 0 < k∧r.name = name then k else ahu name (k + 1) rs
structure Kt where
 code:Int
 name:List UInt8
 kx1:Int
 kx2:Int
 sg1:Int
 sg2:Int
 ci1:Int
 ci2:Int
 mc1:Int
 mc2:Int
 lo:Int
 hi:Int
 deriving DecidableEq
def Kt.cells (s:Kt):List V:=[V.int s.code,V.str s.name,V.int s.kx1,V.int s.kx2,V.int s.sg1,V.int s.sg2,V.int s.ci1,V.int s.ci2,V.int s.mc1,V.int s.mc2,V.int s.lo,V.int s.hi]
def Kt.v (s:Kt):V:=.agg s.cells
def wZ:List Kt:=[⟨1,[114,115,97,45,114,99,52,45,109,100,53],10,0,5,0,14,128,19,0,1,2⟩,⟨2,[114,115,97,45,114,99,52,45,115,104,97],10,0,5,0,14,128,20,0,1,3⟩,⟨3,[114,115,97,45,100,101,115,51,45,115,104,97],10,0,5,0,15,168,20,0,1,3⟩,⟨4,[100,104,101,45,100,115,97,45,100,101,115,51,45,115,104,97],11,1024,6,0,15,168,20,0,1,3⟩,⟨5,[100,104,101,45,114,115,97,45,100,101,115,51,45,115,104,97],11,1024,5,0,15,168,20,0,1,3⟩,⟨6,[114,115,97,45,97,101,115,49,50,56,45,115,104,97],10,0,5,0,16,128,20,0,1,3⟩,⟨7,[100,104,101,45,114,115,97,45,97,101,115,49,50,56,45,115,104,97],11,2048,5,0,16,128,20,0,1,3⟩,⟨8,[101,99,100,104,101,45,114,115,97,45,97,101,115,49,50,56,45,115,104,97],12,256,5,0,16,128,20,0,1,3⟩,⟨9,[101,99,100,104,101,45,101,99,100,115,97,45,97,101,115,50,53,54,45,115,104,97,50,53,54],12,256,7,0,16,256,21,0,3,3⟩,⟨10,[101,99,100,104,101,45,114,115,97,45,97,101,115,49,50,56,45,103,99,109],12,256,5,0,17,128,22,0,3,3⟩,⟨11,[101,99,100,104,101,45,101,99,100,115,97,45,97,101,115,50,53,54,45,103,99,109],12,384,7,0,17,256,22,0,3,3⟩,⟨12,[101,99,100,104,101,45,114,115,97,45,99,104,97,99,104,97],12,256,5,0,18,0,22,0,3,3⟩,⟨13,[114,115,97,45,97,101,115,50,53,54,45,103,99,109],10,0,5,0,17,256,22,0,3,3⟩,⟨14,[97,101,115,49,50,56,45,103,99,109],12,256,0,0,17,128,22,0,4,4⟩,⟨15,[99,104,97,99,104,97],12,256,0,0,18,0,22,0,4,4⟩,⟨16,[109,108,107,101,109,45,97,101,115,50,53,54,45,103,99,109],13,768,0,0,17,256,22,0,4,4⟩]
def akv (r:ac1):V:=.agg [V.str r.name,V.int r.kind]
def ag4:List V:=KE.map akv
theorem ag3 {k:Nat} {r:ac1} (h:KE[k]? = some r):ag4[k]? = some (akv r):=by
 rw [ag4,zi,h];rfl
theorem ajH {a:Int} (ha:1≤a∧a≤22):KE[a.toNat]? = some (XY a):=by
 have hl:KE.length = 23:=rfl
 have hk:a.toNat < KE.length:=by omega
 rw [XY,if_pos ha,zK,zd hk,Option.getD_some]
def K0:=qd Proofs.Tryz.f126 []
def jn (Γ:Env) (f:Nat):Prop:=EvC Γ f [] (.sl 2 ag4)
theorem aeM {Γ:Env} {f:Nat} (h:Has Γ.P f 25 K0.1.1.ac K0.1.2) :jn Γ f:=by
 refine Jt h zsi (by simp only [V.closed]) fun C hC hm=>?_
 subst hC
 simp only [K0,qd,DC.ac]
 refine zgo ?_;repeat' first|exact zt|apply zan|intro hc
 refine Ql _ rfl ?_;simp only [go_sem]
 rfl
def K1:=qd Proofs.Tryz.f104 []
def jo (Γ:Env) (f:Nat):Prop:=∀ (a:Int),EvN Γ f [V.int a] (V.int (XY a).kind)
attribute [local go_sem] akv in
theorem aeN {Γ:Env} {f:Nat} (h:Has Γ.P f 14 K1.1.1.ac K1.1.2) (z0:jn Γ 126):jo Γ f:=by
 intro a
 refine Qb h zsi zcl zcl fun C hC hm=>?_
 subst hC
 simp only [K1,qd,DC.ac]
 by_cases ha:1≤a∧a≤22
 ·have hg:=ag3 (ajH ha)
  (have zx:=hg);refine zgo ?_;repeat' first|exact zt|apply zan|intro hc
  all_goals first|(refine Ql _ rfl ?_;simp only [go_sem];done)|(refine Ql _ rfl ?_;simp only [go_sem];simp [*];done)|(subst hc;refine Ql _ rfl ?_;simp only [go_sem];simp [*];done)
 ·have hc0:XY a = ame:=by rw [XY,if_neg ha]
  refine zgo ?_;repeat' first|exact zt|apply zan|intro hc
  all_goals first|(refine Ql _ rfl ?_;simp only [go_sem];done)|(refine Ql _ rfl ?_;simp only [go_sem];simp [hc0,ame, *];done)|(subst hc;refine Ql _ rfl ?_;simp only [go_sem];simp [hc0,ame, *];done)
def Kp (b:Int):List Int→List Int→Int
 | x :: xs,y :: ys=>if x = b then y else Kp b xs ys
 | _,_=>0
def UU:=qd Proofs.Tryz.f124 []
def qt (Γ:Env) (f:Nat):Prop:=∀ (b:Int) (xs ys:List Int) (hs:xs.length≤ys.length) (h2:xs.length < 2 ^ 62),EvN Γ f [V.int b,.sl 1 (xs.map V.int),.sl 1 (ys.map V.int)] (V.int (Kp b xs ys))
theorem adm {Γ:Env} {f:Nat} (h:Has Γ.P f 24 UU.1.1.ac UU.1.2) :qt Γ f:=by
 intro b xs ys hs h2
 refine Qb h zsi zcl zcl fun C hC hm=>?_
 subst hC
 simp only [UU,qd,DC.ac]
 refine zgo ?_;repeat' first|exact zt|apply zan|intro hc
 refine Qz (ι:=Nat) (fun k=>k≤xs.length∧Kp b (xs.drop k) (ys.drop k) = Kp b xs ys) (fun k=>[(7,V.int k)]) (fun k=>xs.length - k) 0 (by omega) ⟨by simp,by simp⟩ zol zlt zet fun k hk K' hL=>?_
 obtain ⟨hk,hinv⟩:=hk
 simp only [ovT,JE,Nat.reduceEqDiff,reduceIte]
 rcases hd:xs.drop k with _|⟨x,r⟩
 ·have:=Qt hd
  rw [hd] at hinv
  refine zgo ?_;repeat' first|exact zt|apply zan|intro hc
  refine Ql _ rfl ?_;simp only [go_sem]
  rw [← hinv];simp [Kp]
 ·obtain ⟨hk',hget,hr⟩:=Qm hd
  rcases hd2:ys.drop k with _|⟨y,r2⟩
  ·have:=Qt hd2;omega
  ·obtain ⟨hk2,hget2,hr2⟩:=Qm hd2
   rw [hd,hd2] at hinv
   have hw:=Qg (k:=k) (by omega)
   (have zx:=za hget (za hget2 hw));refine zgo ?_;repeat' first|exact zt|apply zan|intro hc
   ·refine Ql _ rfl ?_;simp only [go_sem]
    rw [← hinv];simp [Kp,hc]
   ·refine hL _ (k + 1) zet ⟨by omega,?_⟩ (by omega) zoe
    rw [hr,hr2,← hinv,Kp,if_neg hc]
def yQ (a:Int):Int:=if a = 1 then 18 else if a = 2 then 60 else if a = 3∨a = 8∨a = 21 then 128 else if a = 4 then 192 else if a = 18∨a = 22 then 256 else if a = 19 then 64 else if a = 20 then 80 else 0
def aqv (b:Int):Int:=if b < 512∨16384 < b then 0 else ajs b aj4
def V2:=qd Proofs.Tryz.f125 []
def Ky (Γ:Env) (f:Nat):Prop:=∀ (a:Int),EvN Γ f [V.int a] (V.int (yQ a))
theorem acm {Γ:Env} {f:Nat} (h:Has Γ.P f 21 V2.1.1.ac V2.1.2) :Ky Γ f:=by
 intro a
 refine Qb h zsi zcl zcl fun C hC hm=>?_
 subst hC
 simp only [V2,qd,DC.ac]
 refine zgo ?_;repeat' first|exact zt|apply zan|intro hc
 all_goals (refine Ql _ rfl ?_;simp only [go_sem];simp [yQ, *])
def WU:=qd Proofs.Tryz.f123 []
def Ur (Γ:Env) (f:Nat):Prop:=∀ (b:Int),EvN Γ f [V.int b] (V.int (aqv b))
theorem aa3 {Γ:Env} {f:Nat} (h:Has Γ.P f 25 WU.1.1.ac WU.1.2) :Ur Γ f:=by
 intro b
 refine Qb h zsi zcl zcl fun C hC hm=>?_
 subst hC
 simp only [WU,qd,DC.ac]
 refine zgo ?_;repeat' first|exact zt|apply zan|intro hc
 all_goals (refine Ql _ rfl ?_;simp only [go_sem];simp only [aqv,ajs,aj4];repeat' split)<;>omega
def qR (a b:Int):Int :=
 if a = 5∨a = 6∨a = 10∨a = 11 then aqv b
 else if a = 7∨a = 12 then (if b = 160∨b = 224∨b = 256∨b = 384∨b = 521 then IntKind.i64.wrap (b.tdiv 2) else 0)
 else if a = 9 then Kp b [44,65,87] [128,192,256]
 else if a = 13 then Kp b [512,768,1024] [128,192,256]
 else if a = 14 then Kp b [40,128] [40,60]
 else if a = 15 then Kp b [112,168] [80,112]
 else if a = 16∨a = 17 then Kp b [128,256] [128,256]
 else Kp b [0] [yQ a]
theorem ai4 (a:Int) (ha:¬ (1≤a∧a≤22)):yQ a = 0:=by
 simp only [yQ];repeat' split
 all_goals omega
theorem ac5 (a b:Int):qR a b = QE a b:=by
 by_cases ha:1≤a∧a≤22
 ·rcases (by omega:a = 1∨a = 2∨a = 3∨a = 4∨a = 5∨a = 6∨a = 7∨a = 8∨a = 9∨a = 10∨a = 11∨a = 12∨a = 13∨a = 14∨a = 15∨a = 16∨a = 17∨a = 18∨a = 19∨a = 20∨a = 21∨a = 22) with rfl|rfl|rfl|rfl|rfl|rfl|rfl|rfl|rfl|rfl|rfl|rfl|rfl|rfl|rfl|rfl|rfl|rfl|rfl|rfl|rfl|rfl
  all_goals simp [qR,QE,Ka,XY,KE,Kp,yQ,jG,aqv]
  all_goals (repeat' split)<;>first|omega|rfl|simp_all
 ·have hs:=ai4 a ha
  rw [QE,Ka,if_pos (by simp [ha])]
  simp only [qR]
  rw [if_neg (by omega),if_neg (by omega),if_neg (by omega),if_neg (by omega),if_neg (by omega),if_neg (by omega),if_neg (by omega),hs]
  simp [Kp]
def X2:=qd Proofs.Tryz.f99 []
def VP (Γ:Env) (f:Nat):Prop:=∀ (a b:Int),EvN Γ f [.agg [V.int a,V.int b]] (V.int (QE a b))
theorem vO {Γ:Env} {f:Nat} (h:Has Γ.P f 76 X2.1.1.ac X2.1.2) (z0:Ur Γ 123) (z1:qt Γ 124) (z2:Ky Γ 125):VP Γ f:=by
 intro a b
 refine Qb h zsi zcl zcl fun C hC hm=>?_
 subst hC
 simp only [X2,qd,DC.ac]
 rw [← ac5]
 have k1:=z1 b [44,65,87] [128,192,256] (by simp) (by simp)
 have k2:=z1 b [512,768,1024] [128,192,256] (by simp) (by simp)
 have k3:=z1 b [40,128] [40,60] (by simp) (by simp)
 have k4:=z1 b [112,168] [80,112] (by simp) (by simp)
 have k5:=z1 b [128,256] [128,256] (by simp) (by simp)
 have k6:=z1 b [0] [yQ a] (by simp) (by simp)
 (have zy0:=k1.b;have zy1:=k2.b;have zy2:=k3.b;have zy3:=k4.b;have zy4:=k5.b;have zy5:=k6.b);refine zgo ?_;repeat' first|exact zt|apply zan|intro hc
 all_goals (refine Ql _ rfl ?_;simp only [go_sem];simp [qR, *])
def UV:=qd Proofs.Tryz.f76 []
def X0 (Γ:Env) (f:Nat):Prop:=∀ (a b:Int),EvN Γ f [.agg [V.int a,V.int b]] (V.bool (decide (QE a b > 0)))
theorem adn {Γ:Env} {f:Nat} (h:Has Γ.P f 6 UV.1.1.ac UV.1.2) (z0:VP Γ 99):X0 Γ f:=by
 intro a b
 refine Qb h zsi zcl zcl fun C hC hm=>?_
 subst hC
 simp only [UV,qd,DC.ac]
 refine zgo ?_;repeat' first|exact zt|apply zan|intro hc
 refine Ql _ rfl ?_;simp only [go_sem]
end Av
end
