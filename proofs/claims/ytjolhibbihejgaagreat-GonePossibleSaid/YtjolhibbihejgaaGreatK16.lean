/- K16 -/
import Derived.Test.YtjolhibbihejgaaGreatK15
import Derived.Lib.ItoaLen
import Derived.Lib.IndexMore
import Derived.Lib.AtoiAll
import Derived.Test.YtjolhibbihejgaaGreatK12
import Derived.Test.YtjolhibbihejgaaGreatK13
set_option linter.unusedVariables false
set_option linter.unusedSimpArgs false
noncomputable section
set_option maxRecDepth 10000
set_option maxHeartbeats 4000000
namespace Av
open Go
attribute [local irreducible] AWp UY qH yr awS awC aaT awQ abS Q1 Ub aaE awR Ux awB okR ym ris
def Us:=qd Proofs.Tryz.f67 []
def Yl (Γ:Env) (f:Nat):Prop:=∀ (a b:Int),EvN Γ f [.agg [V.int a,V.int b]] (V.bool (decide (Qv a b > 0)))
theorem adL {Γ:Env} {f:Nat} (h:Has Γ.P f 6 Us.1.1.ac Us.1.2) (z0:V0 Γ 99):Yl Γ f:=by
 intro a b
 refine Qa h zsi zcl zcl fun C hC hm=>?_
 subst hC
 simp only [Us,qd,DC.ac]
 refine zgo ?_;repeat' first|exact zt|apply zan|intro hc
 refine Qi _ rfl ?_;simp only [go_sem]
def ajY (name:List UInt8):Nat→List afp→Int
 | _,[]=>0
 | k,r :: rs=>if 0 < k∧r.name = name then k else ajY name (k + 1) rs
def ql:=qd Proofs.Tryz.f100 []
def yg (Γ:Env) (f:Nat):Prop:=∀ (a b:Int),EvN Γ f [V.int a,V.int b] (.agg [V.int a,V.int b])
theorem afH {Γ:Env} {f:Nat} (h:Has Γ.P f 8 ql.1.1.ac ql.1.2) :yg Γ f:=by
 intro a b
 refine Qa h zsi zcl zcl fun C hC hm=>?_
 subst hC
 simp only [ql,qd,DC.ac]
 refine zgo ?_;repeat' first|exact zt|apply zan|intro hc
 refine Qi _ rfl ?_;simp only [go_sem]
structure QQ where
 code:Int
 name:List UInt8
 kx1:Int
 kx2:Int
 sg1:Int
 sg2:Int
 ci1:Int
 ci2:Int
 mc1:Int
 mc2:Int
 lo:Int
 hi:Int
 deriving DecidableEq
def QQ.cells (s:QQ):List V:=[V.int s.code,V.str s.name,V.int s.kx1,V.int s.kx2,V.int s.sg1,V.int s.sg2,V.int s.ci1,V.int s.ci2,V.int s.mc1,V.int s.mc2,V.int s.lo,V.int s.hi]
def QQ.v (s:QQ):V:=.agg s.cells
def Ud:List QQ:=[⟨1,[114,115,97,45,114,99,52,45,109,100,53],10,0,5,0,14,128,19,0,1,2⟩,⟨2,[114,115,97,45,114,99,52,45,115,104,97],10,0,5,0,14,128,20,0,1,3⟩,⟨3,[114,115,97,45,100,101,115,51,45,115,104,97],10,0,5,0,15,168,20,0,1,3⟩,⟨4,[100,104,101,45,100,115,97,45,100,101,115,51,45,115,104,97],11,1024,6,0,15,168,20,0,1,3⟩,⟨5,[100,104,101,45,114,115,97,45,100,101,115,51,45,115,104,97],11,1024,5,0,15,168,20,0,1,3⟩,⟨6,[114,115,97,45,97,101,115,49,50,56,45,115,104,97],10,0,5,0,16,128,20,0,1,3⟩,⟨7,[100,104,101,45,114,115,97,45,97,101,115,49,50,56,45,115,104,97],11,2048,5,0,16,128,20,0,1,3⟩,⟨8,[101,99,100,104,101,45,114,115,97,45,97,101,115,49,50,56,45,115,104,97],12,256,5,0,16,128,20,0,1,3⟩,⟨9,[101,99,100,104,101,45,101,99,100,115,97,45,97,101,115,50,53,54,45,115,104,97,50,53,54],12,256,7,0,16,256,21,0,3,3⟩,⟨10,[101,99,100,104,101,45,114,115,97,45,97,101,115,49,50,56,45,103,99,109],12,256,5,0,17,128,22,0,3,3⟩,⟨11,[101,99,100,104,101,45,101,99,100,115,97,45,97,101,115,50,53,54,45,103,99,109],12,384,7,0,17,256,22,0,3,3⟩,⟨12,[101,99,100,104,101,45,114,115,97,45,99,104,97,99,104,97],12,256,5,0,18,0,22,0,3,3⟩,⟨13,[114,115,97,45,97,101,115,50,53,54,45,103,99,109],10,0,5,0,17,256,22,0,3,3⟩,⟨14,[97,101,115,49,50,56,45,103,99,109],12,256,0,0,17,128,22,0,4,4⟩,⟨15,[99,104,97,99,104,97],12,256,0,0,18,0,22,0,4,4⟩,⟨16,[109,108,107,101,109,45,97,101,115,50,53,54,45,103,99,109],13,768,0,0,17,256,22,0,4,4⟩]
def agC (k:Nat):List V:=(Ud.take k).map QQ.v++(Ud.drop k).map fun s=>QQ.v { s with code:=0 }
theorem ajq (k:Nat) (h:k < 16):∃ cs,(agC k)[k]? = some (.agg (V.int 0 :: cs))∧cs.length = 11∧(agC k).set k (.agg (V.int ((k + 1:Nat):Int) :: cs)) = agC (k + 1):=by
 rcases (by omega:k = 0∨k = 1∨k = 2∨k = 3∨k = 4∨k = 5∨k = 6∨k = 7∨k = 8∨k = 9∨k = 10∨k = 11∨k = 12∨k = 13∨k = 14∨k = 15) with rfl|rfl|rfl|rfl|rfl|rfl|rfl|rfl|rfl|rfl|rfl|rfl|rfl|rfl|rfl|rfl
 all_goals exact ⟨_,rfl,rfl,rfl⟩
def VC:=qd Proofs.Tryz.f68 [zhn 82]
def Kj (Γ:Env) (f:Nat):Prop:=EvC Γ f [] (.sl 12 (Ud.map QQ.v))
theorem acF {Γ:Env} {f:Nat} (h:Has Γ.P f 125 VC.1.1.ac VC.1.2) (z0:yg Γ 100):Kj Γ f:=by
 refine Ql h zsi (by simp only [V.closed]) fun C hC hm=>?_
 subst hC
 simp only [VC,qd,DC.ac]
 repeat' (first|(refine zsk ?_;intro K' hK)|(refine zrg ?_;intro K' hK)|refine zsp ?_|(refine zsc ?_ ?_<;>intro hc<;>first|exact znh|try simp only [znz] at hc)|simp (maxSteps:=1000000) only [go_sem]|(refine hK _ ?_;clear hK K')|apply zan|((first|apply QJ|apply Jn);(focus first|exact (z0 _ _).b))|exact zsq|fail)
 refine Qs (ι:=Nat) (fun k=>k≤16) (fun k=>Yh [(15,.hd 0 0 16),(113,V.int 16),(114,V.int k)] [(0,.buf true 12 (agC k))] 1) (fun k=>16 - k) 0 (by omega) (Qf [(0,123000)]) (Qo _ zwa zwa (by simp) (by simp;omega) (by omega)) fun k hk K' hL=>?_
 by_cases hk':k < 16
 ·obtain ⟨cs,hget,hcs,hset⟩:=ajq k hk'
  have hw:=Qg (k:=k) (by omega)
  have hs:(1:Int)≤1:=by omega
  repeat' (first|(refine zsk ?_;intro K' hK)|(refine zrg ?_;intro K' hK)|refine zsp ?_|(refine zsc ?_ ?_<;>intro hc<;>first|exact znh|try simp only [znz] at hc)|simp (maxSteps:=1000000) only [go_sem,Yh,hget,hw]|(refine hK _ ?_;clear hK K')|apply zan|((first|apply QJ|apply Jn);(focus first|exact (z0 _ _).b))|exact zsq|fail)
  refine hL _ (k + 1) (Qf []) (by omega) (by omega) (Qo [] zwa (by simp only [go_sem,zwl];(try simp only [zT,Int.toNat_natCast,List.take_zero,List.nil_append,hset]);(repeat' (first|rfl|apply za|omega|exact fun h=>h|exact Exists.intro _ rfl))) (by simp) (by simp) (by omega))
 ·obtain rfl:k = 16:=by omega
  repeat' (first|(refine zsk ?_;intro K' hK)|(refine zrg ?_;intro K' hK)|refine zsp ?_|(refine zsc ?_ ?_<;>intro hc<;>first|exact znh|try simp only [znz] at hc)|simp (maxSteps:=1000000) only [go_sem,Yh]|(refine hK _ ?_;clear hK K')|apply zan|((first|apply QJ|apply Jn);(focus first|exact (z0 _ _).b))|exact zsq|fail)
  refine Qi _ rfl ?_;simp only [go_sem]
  rfl
def anm (r:afp):V:=.agg [V.str r.name,V.int r.kind]
def ajC:List V:=ji.map anm
theorem ajB {k:Nat} {r:afp} (h:ji[k]? = some r):ajC[k]? = some (anm r):=by
 rw [ajC,zk,h];rfl
theorem amq {a:Int} (ha:1≤a∧a≤22):ji[a.toNat]? = some (Wh a):=by
 have hl:ji.length = 23:=rfl
 have hk:a.toNat < ji.length:=by omega
 rw [Wh,if_pos ha,zK,zd hk,Option.getD_some]
def jB:=qd Proofs.Tryz.f125 []
def xG (Γ:Env) (f:Nat):Prop:=EvC Γ f [] (.sl 2 ajC)
theorem ag8 {Γ:Env} {f:Nat} (h:Has Γ.P f 25 jB.1.1.ac jB.1.2) :xG Γ f:=by
 refine Ql h zsi (by simp only [V.closed]) fun C hC hm=>?_
 subst hC
 simp only [jB,qd,DC.ac]
 refine zgo ?_;repeat' first|exact zt|apply zan|intro hc
 refine Qi _ rfl ?_;simp only [go_sem]
 rfl
def jC:=qd Proofs.Tryz.f93 []
def qt (Γ:Env) (f:Nat):Prop:=∀ (a:Int),EvN Γ f [V.int a] (V.int (Wh a).kind)
attribute [local go_sem] anm in
theorem ag9 {Γ:Env} {f:Nat} (h:Has Γ.P f 14 jC.1.1.ac jC.1.2) (z0:xG Γ 125):qt Γ f:=by
 intro a
 refine Qa h zsi zcl zcl fun C hC hm=>?_
 subst hC
 simp only [jC,qd,DC.ac]
 by_cases ha:1≤a∧a≤22
 ·have hg:=ajB (amq ha)
  (have zx:=hg);refine zgo ?_;repeat' first|exact zt|apply zan|intro hc
  all_goals first|(refine Qi _ rfl ?_;simp only [go_sem];done)|(refine Qi _ rfl ?_;simp only [go_sem];simp [*];done)|(subst hc;refine Qi _ rfl ?_;simp only [go_sem];simp [*];done)
 ·have hc0:Wh a = apl:=by rw [Wh,if_neg ha]
  refine zgo ?_;repeat' first|exact zt|apply zan|intro hc
  all_goals first|(refine Qi _ rfl ?_;simp only [go_sem];done)|(refine Qi _ rfl ?_;simp only [go_sem];simp [hc0,apl, *];done)|(subst hc;refine Qi _ rfl ?_;simp only [go_sem];simp [hc0,apl, *];done)
def qU (b:Int):List Int→List Int→Int
 | x :: xs,y :: ys=>if x = b then y else qU b xs ys
 | _,_=>0
def qh:=qd Proofs.Tryz.f175 []
def j9 (Γ:Env) (f:Nat):Prop:=∀ (b:Int) (xs ys:List Int) (hs:xs.length≤ys.length) (h2:xs.length < 2 ^ 62),EvN Γ f [V.int b,.sl 1 (xs.map V.int),.sl 1 (ys.map V.int)] (V.int (qU b xs ys))
theorem afC {Γ:Env} {f:Nat} (h:Has Γ.P f 24 qh.1.1.ac qh.1.2) :j9 Γ f:=by
 intro b xs ys hs h2
 refine Qa h zsi zcl zcl fun C hC hm=>?_
 subst hC
 simp only [qh,qd,DC.ac]
 refine zgo ?_;repeat' first|exact zt|apply zan|intro hc
 refine Jg (ι:=Nat) (fun k=>k≤xs.length∧qU b (xs.drop k) (ys.drop k) = qU b xs ys) (fun k=>[(7,V.int k)]) (fun k=>xs.length - k) 0 (by omega) ⟨by simp,by simp⟩ zol zlt zet fun k hk K' hL=>?_
 obtain ⟨hk,hinv⟩:=hk
 simp only [ovT,Yr,Nat.reduceEqDiff,reduceIte]
 rcases hd:xs.drop k with _|⟨x,r⟩
 ·have:=Qr hd
  rw [hd] at hinv
  refine zgo ?_;repeat' first|exact zt|apply zan|intro hc
  refine Qi _ rfl ?_;simp only [go_sem]
  rw [← hinv];simp [qU]
 ·obtain ⟨hk',hget,hr⟩:=Qk hd
  rcases hd2:ys.drop k with _|⟨y,r2⟩
  ·have:=Qr hd2;omega
  ·obtain ⟨hk2,hget2,hr2⟩:=Qk hd2
   rw [hd,hd2] at hinv
   have hw:=Qg (k:=k) (by omega)
   (have zx:=za hget (za hget2 hw));refine zgo ?_;repeat' first|exact zt|apply zan|intro hc
   ·refine Qi _ rfl ?_;simp only [go_sem]
    rw [← hinv];simp [qU,hc]
   ·refine hL _ (k + 1) zet ⟨by omega,?_⟩ (by omega) zoe
    rw [hr,hr2,← hinv,qU,if_neg hc]
def aab (a:Int):Int:=if a = 1 then 18 else if a = 2 then 60 else if a = 3∨a = 8∨a = 21 then 128 else if a = 4 then 192 else if a = 18∨a = 22 then 256 else if a = 19 then 64 else if a = 20 then 80 else 0
def atB (b:Int):Int:=if b < 512∨16384 < b then 0 else ama b amR
def Ks:=qd Proofs.Tryz.f176 []
def qX (Γ:Env) (f:Nat):Prop:=∀ (a:Int),EvN Γ f [V.int a] (V.int (aab a))
theorem aeT {Γ:Env} {f:Nat} (h:Has Γ.P f 21 Ks.1.1.ac Ks.1.2) :qX Γ f:=by
 intro a
 refine Qa h zsi zcl zcl fun C hC hm=>?_
 subst hC
 simp only [Ks,qd,DC.ac]
 refine zgo ?_;repeat' first|exact zt|apply zan|intro hc
 all_goals (refine Qi _ rfl ?_;simp only [go_sem];simp [aab, *])
def Uk:=qd Proofs.Tryz.f174 []
def KT (Γ:Env) (f:Nat):Prop:=∀ (b:Int),EvN Γ f [V.int b] (V.int (atB b))
theorem adE {Γ:Env} {f:Nat} (h:Has Γ.P f 25 Uk.1.1.ac Uk.1.2) :KT Γ f:=by
 intro b
 refine Qa h zsi zcl zcl fun C hC hm=>?_
 subst hC
 simp only [Uk,qd,DC.ac]
 refine zgo ?_;repeat' first|exact zt|apply zan|intro hc
 all_goals (refine Qi _ rfl ?_;simp only [go_sem];simp only [atB,ama,amR];repeat' split)<;>omega
def yJ (a b:Int):Int :=
 if a = 5∨a = 6∨a = 10∨a = 11 then atB b
 else if a = 7∨a = 12 then (if b = 160∨b = 224∨b = 256∨b = 384∨b = 521 then IntKind.i64.wrap (b.tdiv 2) else 0)
 else if a = 9 then qU b [44,65,87] [128,192,256]
 else if a = 13 then qU b [512,768,1024] [128,192,256]
 else if a = 14 then qU b [40,128] [40,60]
 else if a = 15 then qU b [112,168] [80,112]
 else if a = 16∨a = 17 then qU b [128,256] [128,256]
 else qU b [0] [aab a]
theorem alM (a:Int) (ha:¬ (1≤a∧a≤22)):aab a = 0:=by
 simp only [aab];repeat' split
 all_goals omega
theorem aft (a b:Int):yJ a b = Qv a b:=by
 by_cases ha:1≤a∧a≤22
 ·rcases (by omega:a = 1∨a = 2∨a = 3∨a = 4∨a = 5∨a = 6∨a = 7∨a = 8∨a = 9∨a = 10∨a = 11∨a = 12∨a = 13∨a = 14∨a = 15∨a = 16∨a = 17∨a = 18∨a = 19∨a = 20∨a = 21∨a = 22) with rfl|rfl|rfl|rfl|rfl|rfl|rfl|rfl|rfl|rfl|rfl|rfl|rfl|rfl|rfl|rfl|rfl|rfl|rfl|rfl|rfl|rfl
  all_goals simp [yJ,Qv,qD,Wh,ji,qU,aab,Wd,atB]
  all_goals (repeat' split)<;>first|omega|rfl|simp_all
 ·have hs:=alM a ha
  rw [Qv,qD,if_pos (by simp [ha])]
  simp only [yJ]
  rw [if_neg (by omega),if_neg (by omega),if_neg (by omega),if_neg (by omega),if_neg (by omega),if_neg (by omega),if_neg (by omega),hs]
  simp [qU]
def Vs:=qd Proofs.Tryz.f124 []
def Kc (Γ:Env) (f:Nat):Prop:=∀ (a b:Int),EvN Γ f [.agg [V.int a,V.int b]] (V.int (Qv a b))
theorem acv {Γ:Env} {f:Nat} (h:Has Γ.P f 76 Vs.1.1.ac Vs.1.2) (z0:KT Γ 174) (z1:j9 Γ 175) (z2:qX Γ 176):Kc Γ f:=by
 intro a b
 refine Qa h zsi zcl zcl fun C hC hm=>?_
 subst hC
 simp only [Vs,qd,DC.ac]
 rw [← aft]
 have k1:=z1 b [44,65,87] [128,192,256] (by simp) (by simp)
 have k2:=z1 b [512,768,1024] [128,192,256] (by simp) (by simp)
 have k3:=z1 b [40,128] [40,60] (by simp) (by simp)
 have k4:=z1 b [112,168] [80,112] (by simp) (by simp)
 have k5:=z1 b [128,256] [128,256] (by simp) (by simp)
 have k6:=z1 b [0] [aab a] (by simp) (by simp)
 (have zy0:=k1.b;have zy1:=k2.b;have zy2:=k3.b;have zy3:=k4.b;have zy4:=k5.b;have zy5:=k6.b);refine zgo ?_;repeat' first|exact zt|apply zan|intro hc
 all_goals (refine Qi _ rfl ?_;simp only [go_sem];simp [yJ, *])
def qj:=qd Proofs.Tryz.f92 []
def KB (Γ:Env) (f:Nat):Prop:=∀ (a b:Int),EvN Γ f [.agg [V.int a,V.int b]] (V.bool (decide (Qv a b > 0)))
theorem afD {Γ:Env} {f:Nat} (h:Has Γ.P f 6 qj.1.1.ac qj.1.2) (z0:Kc Γ 124):KB Γ f:=by
 intro a b
 refine Qa h zsi zcl zcl fun C hC hm=>?_
 subst hC
 simp only [qj,qd,DC.ac]
 refine zgo ?_;repeat' first|exact zt|apply zan|intro hc
 refine Qi _ rfl ?_;simp only [go_sem]
end Av
end
