/- W15 -/
import Derived.Test.YtlpaikjhphkioaaGreatW12
import Derived.KernelRfl
set_option linter.unusedVariables false
set_option linter.unusedSimpArgs false
noncomputable section
set_option maxRecDepth 10000
set_option maxHeartbeats 4000000
namespace Av
open Go
attribute [local irreducible] AWp Vy K7 jE awS awC aaG awQ abg QW Uc vZ awR Uj awB okR jt ris
def anR (a n:Int):Int:=if n < 1 then 0 else (IntKind.i64.wrap (a.tmod n + n)).tmod n
def yC:=qd Proofs.Tryz.f27 []
def xz (Γ:Env) (f:Nat):Prop:=∀ (a n:Int),EvN Γ f [V.int a,V.int n] (V.int (anR a n))
theorem ahA {Γ:Env} {f:Nat} (h:Has Γ.P f 14 yC.1.1.ac yC.1.2) :xz Γ f:=by
 intro a n
 refine Qb h zsi zcl zcl fun C hC hm=>?_
 subst hC
 simp only [yC,qd,DC.ac]
 refine zgo ?_;repeat' first|exact zt|apply zan|intro hc
 ·refine Ql _ rfl ?_
  simp only [go_sem]
  simp [anR,hc]
 ·refine Ql _ rfl ?_
  simp only [go_sem]
  simp [anR,hc]
def jG (x:Int):Nat→List Int→Int
 | _,[]=>-1
 | k,y :: r=>if x = y then k else jG x (k + 1) r
def JR:=qd Proofs.Tryz.f168 []
def JL (Γ:Env) (f:Nat):Prop:=∀ (l:List Int) (x:Int) (hl:l.length < 2 ^ 62),EvN Γ f [.sl 1 (l.map V.int),V.int x] (V.int (jG x 0 l))
theorem K8 {Γ:Env} {f:Nat} (h:Has Γ.P f 19 JR.1.1.ac JR.1.2) :JL Γ f:=by
 intro l x hl
 refine Qb h zsi zcl zcl fun C hC hm=>?_
 subst hC
 simp only [JR,qd,DC.ac]
 refine zgo ?_;repeat' first|exact zt|apply zan|intro hc
 refine Qz (ι:=Nat) (fun k=>k≤l.length∧jG x k (l.drop k) = jG x 0 l) (fun k=>[(8,V.int k)]) (fun k=>l.length - k) 0 (by omega) ⟨by simp,by simp⟩ zol zlt zet fun k hk K' hL=>?_
 obtain ⟨hk,hinv⟩:=hk
 simp only [ovT,JE,Nat.reduceEqDiff,reduceIte]
 rcases hd:l.drop k with _|⟨y,r⟩
 ·have:=Qt hd
  rw [hd] at hinv
  refine zgo ?_;repeat' first|exact zt|apply zan|intro hc
  refine Ql _ rfl ?_
  simp only [go_sem]
  rw [← hinv];rfl
 ·obtain ⟨hk,hget,hr⟩:=Qm hd
  rw [hd] at hinv
  have hw:=Qg (k:=k) (by omega)
  (have zx:=za hget hw);refine zgo ?_;repeat' first|exact zt|apply zan|intro hc
  ·refine Ql _ rfl ?_
   simp only [go_sem]
   rw [← hinv];simp [jG,hc]
  ·refine hL _ (k + 1) zet ⟨by omega,?_⟩ (by omega) (fun a ha=>rfl)
   rw [hr,← hinv];simp [jG,hc]
def Ju:=qd Proofs.Tryz.f167 []
def J4 (Γ:Env) (f:Nat):Prop:=∀ (l:List Int) (x:Int) (hl:l.length < 2 ^ 62),EvN Γ f [.sl 1 (l.map V.int),V.int x] (V.bool (decide (jG x 0 l≥0)))
theorem UE {Γ:Env} {f:Nat} (h:Has Γ.P f 9 Ju.1.1.ac Ju.1.2) (z0:JL Γ 168):J4 Γ f:=by
 intro l x hl
 refine Qb h zsi zcl zcl fun C hC hm=>?_
 subst hC
 simp only [Ju,qd,DC.ac]
 refine zgo ?_;repeat' first|exact zt|apply zan|intro hc
 refine Ql _ rfl ?_
 simp only [go_sem]
structure ac1 where
 name:List UInt8
 kind:Int
 way:Int
 sizes:List Int
 strengths:List Int
 deriving DecidableEq
def ac1.v (r:ac1):List V:=[V.str r.name,V.int r.kind,V.int r.way,.sl 1 (r.sizes.map V.int),.sl 1 (r.strengths.map V.int)]
def ame:ac1:=⟨[],0,0,[],[]⟩
def KE:List ac1:=[ame,⟨[109,100,53],1,0,[],[18]⟩,⟨[115,104,97,49],1,0,[],[60]⟩,⟨[115,104,97,50,53,54],1,0,[],[128]⟩,⟨[115,104,97,51,56,52],1,0,[],[192]⟩,⟨[114,115,97],2,1,[],[]⟩,⟨[100,115,97],2,1,[],[]⟩,⟨[101,99,100,115,97],2,2,[],[]⟩,⟨[101,100,50,53,53,49,57],2,0,[],[128]⟩,⟨[109,108,100,115,97],2,3,[44,65,87],[128,192,256]⟩,⟨[114,115,97,107,120],3,1,[],[]⟩,⟨[100,104,101],3,1,[],[]⟩,⟨[101,99,100,104,101],3,2,[],[]⟩,⟨[109,108,107,101,109],3,3,[512,768,1024],[128,192,256]⟩,⟨[114,99,52],4,3,[40,128],[40,60]⟩,⟨[100,101,115,51],4,3,[112,168],[80,112]⟩,⟨[97,101,115,99,98,99],4,3,[128,256],[128,256]⟩,⟨[97,101,115,103,99,109],4,3,[128,256],[128,256]⟩,⟨[99,104,97,99,104,97],4,0,[],[256]⟩,⟨[104,109,97,99,109,100,53],5,0,[],[64]⟩,⟨[104,109,97,99,115,104,97,49],5,0,[],[80]⟩,⟨[104,109,97,99,115,104,97,50,53,54],5,0,[],[128]⟩,⟨[97,101,97,100],5,0,[],[256]⟩]
def agZ:List V:=KE.flatMap ac1.v
def XY (a:Int):ac1:=if 1≤a∧a≤22 then KE.getD a.toNat ame else ame
theorem adY {α β:Type} {f:α→List β} {n:Nat} (h:∀ x,(f x).length = n):∀ (l:List α) (k:Nat) (hk:k < l.length),((l.flatMap f).drop (k * n)).take n = f l[k]
 | [],k,hk=>by simp at hk
 | x :: l,0,_=>by simp [List.take_append_of_le_length,h x]
 | x :: l,k + 1,hk=>by
   have e:(k + 1) * n = (f x).length + k * n:=by rw [h x,kc];omega
   rw [List.flatMap_cons,e,← Zg,List.drop_left]
   exact adY h l k (by simpa using hk)
theorem akq:agZ.length = 115:=rfl
theorem ahZ (a:Int) (h1:1≤a) (h2:a≤22):(agZ.drop (a.toNat * 5)).take 5 = (XY a).v:=by
 have hl:KE.length = 23:=rfl
 have hk:a.toNat < KE.length:=by omega
 rw [agZ,adY (f:=ac1.v) (n:=5) (fun _=>rfl) KE a.toNat hk,XY,if_pos ⟨h1,h2⟩,zK,zd hk,Option.getD_some]
theorem ajP (r:ac1):Qc r.v:=by simp [ac1.v,Qc,V.closed]
theorem ahK:Qc agZ:=ajQ (by
 simp only [agZ,List.mem_flatMap]
 rintro v ⟨r,_,hr⟩
 simp [ac1.v] at hr
 rcases hr with rfl|rfl|rfl|rfl|rfl<;>trivial)
def V5:=qd Proofs.Tryz.f187 []
def KB (Γ:Env) (f:Nat):Prop:=EvC Γ f [] (.agg agZ)
theorem acp {Γ:Env} {f:Nat} (h:Has Γ.P f 46 V5.1.1.ac V5.1.2) :KB Γ f:=by
 refine Jt h zsi (ahK) fun C hC hm=>?_
 subst hC
 simp only [V5,qd,DC.ac]
 refine zgo ?_;repeat' first|exact zt|apply zan|intro hc
 refine Ql _ rfl ?_
 simp only [agZ,KE,ame,ac1.v,List.flatMap_cons,List.flatMap_nil,go_sem,Nat.reduceAdd,Nat.reduceMul,Nat.reduceEqDiff,Nat.reduceLeDiff,Nat.reduceLT,Nat.reduceSub,Int.reduceEq,Int.reduceBEq,Int.reduceLT,Int.reduceLE,Int.reduceAdd,Int.reduceToNat,reduceIte,reduceCtorEq]
def K5:=qd Proofs.Tryz.f165 []
def U4 (Γ:Env) (f:Nat):Prop:=∀ (a:Int),EvC Γ f [V.int a] (.tup [.agg (XY a).v,V.bool (decide (1≤a∧a≤22))])
theorem aeQ {Γ:Env} {f:Nat} (h:Has Γ.P f 14 K5.1.1.ac K5.1.2) (z0:KB Γ 187):U4 Γ f:=by
 intro a
 refine Jt h zsi (⟨ajP _,trivial,trivial⟩) fun C hC hm=>?_
 subst hC
 simp only [K5,qd,DC.ac]
 repeat' (first|(refine zsk ?_;intro K' hK)|refine zsp ?_|(refine zsc ?_ ?_<;>intro hc<;>first|exact znh|try simp only [znz] at hc)|simp (maxSteps:=1000000) only [go_sem]|(refine hK _ ?_;clear hK K')|apply zan|(apply Qr;(focus first|exact EvC.b z0))|exact zsq|fail)
 ·refine Ql _ rfl ?_
  rw [XY,if_neg (by omega)]
  simp only [go_sem,ac1.v,ame,zL,and_self]
  simp;omega
 ·rw [akq];omega
 ·rw [ahZ a (by omega) (by omega)];rfl
 ·rw [ahZ a (by omega) (by omega)]
  refine Ql _ rfl ?_
  simp only [go_sem,ac1.v,List.length_cons,List.length_nil,go_sem]
  simp;omega
 ·refine Ql _ rfl ?_
  rw [XY,if_neg (by omega)]
  simp only [go_sem,ac1.v,ame,zL,and_self]
  simp;omega
def ajs (b:Int):List (Int×Int)→Int
 | []=>256
 | (x,y) :: r=>if b < x then y else ajs b r
def aj4:List (Int×Int):=[(1024,56),(2048,80),(3072,112),(7680,128),(15360,192)]
def XH:=qd Proofs.Tryz.f166 []
def Vw (Γ:Env) (f:Nat):Prop:=∀ (b:Int),EvN Γ f [V.int b] (V.int (ajs b aj4))
attribute [local go_sem] Int.reduceLE Int.reduceLT Int.reduceToNat in
theorem wA {Γ:Env} {f:Nat} (h:Has Γ.P f 21 XH.1.1.ac XH.1.2) :Vw Γ f:=by
 intro b
 refine Qb h zsi zcl zcl fun C hC hm=>?_
 subst hC
 simp only [XH,qd,DC.ac]
 refine zgo ?_;repeat' first|exact zt|apply zan|intro hc
 refine Qz (ι:=Int) (fun k=>0≤k∧k≤5∧ajs b (aj4.drop k.toNat) = ajs b aj4) (fun k=>[(11,V.int k)]) (fun k=>(5 - k).toNat) 0 (by omega) ⟨by simp,by simp,rfl⟩ zol zlt zet fun k hk K' hL=>?_
 obtain ⟨hk0,hk,hinv⟩:=hk
 simp only [ovT,JE,Nat.reduceEqDiff,reduceIte]
 rcases (by omega:k = 0∨k = 1∨k = 2∨k = 3∨k = 4∨k = 5) with rfl|rfl|rfl|rfl|rfl|rfl
 all_goals refine zgo ?_;repeat' first|exact zt|apply zan|intro hc
 all_goals first
  | (refine Ql _ rfl ?_;simp only [go_sem];rw [← hinv];first|rfl|simp [aj4,ajs,hc])
  | (refine hL _ 1 zet ⟨by omega,by omega,?_⟩ (by decide) zoe;rw [← hinv];simp [aj4,ajs,hc])
  | (refine hL _ 2 zet ⟨by omega,by omega,?_⟩ (by decide) zoe;rw [← hinv];simp [aj4,ajs,hc])
  | (refine hL _ 3 zet ⟨by omega,by omega,?_⟩ (by decide) zoe;rw [← hinv];simp [aj4,ajs,hc])
  | (refine hL _ 4 zet ⟨by omega,by omega,?_⟩ (by decide) zoe;rw [← hinv];simp [aj4,ajs,hc])
  | (refine hL _ 5 zet ⟨by omega,by omega,?_⟩ (by decide) zoe;rw [← hinv];simp [aj4,ajs,hc])
def V6:=qd Proofs.Tryz.f180 []
def KC (Γ:Env) (f:Nat):Prop:=∀ (a:Int),EvN Γ f [V.int a] (V.int (XY a).kind)
attribute [local go_sem] ac1.v in
theorem acq {Γ:Env} {f:Nat} (h:Has Γ.P f 12 V6.1.1.ac V6.1.2) (z0:U4 Γ 165):KC Γ f:=by
 intro a
 refine Qb h zsi zcl zcl fun C hC hm=>?_
 subst hC
 simp only [V6,qd,DC.ac]
 refine zgo ?_;repeat' first|exact zt|apply zan|intro hc
 refine Ql _ rfl ?_;simp only [go_sem]
def Ka (R:ac1) (ok:Bool) (b:Int):Int :=
 if ok = false then 0
 else if R.way = 0 then (if b = 0 then R.strengths.headD 0 else 0)
 else if R.way = 1 then (if 512≤b∧b≤16384 then ajs b aj4 else 0)
 else if R.way = 2 then (if jG b 0 [160,224,256,384,521]≥0 then IntKind.i64.wrap (b.tdiv 2) else 0)
 else if R.way = 3 then (if jG b 0 R.sizes≥0 then R.strengths.getD (jG b 0 R.sizes).toNat 0 else 0)
 else 0
def QE (a b:Int):Int:=Ka (XY a) (decide (1≤a∧a≤22)) b
def ac1.ok (r:ac1):Bool:=(r.way != 0 || !r.strengths.isEmpty) && (r.way != 3 || r.sizes.length == r.strengths.length) && decide (r.sizes.length < 10)
theorem ao3 (a:Int) (ha:1≤a∧a≤22):(XY a).ok = true:=by
 have h:∀ r∈KE.drop 1,r.ok = true:=by decide
 have hl:KE.length = 23:=rfl
 have hk:a.toNat < KE.length:=by omega
 rw [XY,if_pos ha,zK,zd hk,Option.getD_some]
 have hk':a.toNat - 1 < (KE.drop 1).length:=by simp;omega
 have:=h _ (zZ hk')
 rw [List.getElem_drop] at this
 have e:1 + (a.toNat - 1) = a.toNat:=by omega
 simp only [e] at this
 exact this
theorem aiA (x:Int):∀ (l:List Int) (k:Nat),jG x k l = -1∨(k≤jG x k l∧jG x k l < k + l.length)
 | [],k=>.inl rfl
 | y :: r,k=>by
   unfold jG
   split
   ·right;simp;omega
   ·rcases aiA x r (k + 1) with h|⟨h1,h2⟩
    ·exact .inl h
    ·right;simp only [List.length_cons];omega
def Y5:=qd Proofs.Tryz.f121 []
def Ww (Γ:Env) (f:Nat):Prop:=∀ (a b:Int),EvN Γ f [.agg [V.int a,V.int b]] (V.int (QE a b))
attribute [local go_sem] ac1.v in
theorem xm {Γ:Env} {f:Nat} (h:Has Γ.P f 61 Y5.1.1.ac Y5.1.2) (z0:U4 Γ 165) (z1:Vw Γ 166) (z2:J4 Γ 167) (z3:JL Γ 168):Ww Γ f:=by
 intro a b
 refine Qb h zsi zcl zcl fun C hC hm=>?_
 subst hC
 simp only [Y5,qd,DC.ac]
 have hc5:=z2 [160,224,256,384,521] b (by simp)
 by_cases ha:1≤a∧a≤22
 ·have hd:decide (1≤a∧a≤22) = true:=by simp [ha]
  have ok:=ao3 a ha
  have fl:=aiA b (XY a).sizes 0
  rcases hR:XY a with ⟨nm,kd,wy,sz,st⟩
  rw [hR] at ok fl
  simp only [ac1.ok,zw,kG,zy,bne_iff_ne,kF] at ok
  rcases st with _|⟨x,st⟩
  ·(have zy0:=hc5.b;have zx:=za hR hd);refine zgo ?_;repeat' first|exact zt|apply zan|intro hc
   all_goals first
    | (refine Ql _ rfl ?_;simp only [go_sem];simp [QE,Ka,hR, *];done)
    | (exfalso;simp only [ZQ,List.length_cons,List.length_nil,List.isEmpty_nil] at hst fl ok;omega)
    | (exfalso;simp only [List.length_nil] at fl ok;omega)
    | (exfalso;simp_all;done)
  ·rcases hst:(x :: st)[(jG b 0 sz).toNat]? with _|v
   ·have hs2:(V.int x :: List.map V.int st)[(jG b 0 sz).toNat]? = none:=by rw [← zN,zi,hst];rfl
    (have zy0:=hc5.b;have zx:=za hR (za hd hs2));refine zgo ?_;repeat' first|exact zt|apply zan|intro hc
    all_goals first
     | (refine Ql _ rfl ?_;simp only [go_sem];simp [QE,Ka,hR, *];done)
     | (exfalso;simp only [ZQ,List.length_cons,List.length_nil,List.isEmpty_nil] at hst fl ok;omega)
     | (exfalso;simp_all;done)
   ·have hs2:(V.int x :: List.map V.int st)[(jG b 0 sz).toNat]? = some (V.int v):=by rw [← zN,zi,hst];rfl
    (have zy0:=hc5.b;have zx:=za hR (za hd hs2));refine zgo ?_;repeat' first|exact zt|apply zan|intro hc
    all_goals first
     | (refine Ql _ rfl ?_;simp only [go_sem];simp [QE,Ka,hR, *];done)
     | (exfalso;simp only [ZQ,List.length_cons,List.length_nil,List.isEmpty_nil] at hst fl ok;omega)
     | (exfalso;simp_all;done)
 ·have hd:decide (1≤a∧a≤22) = false:=by simp [ha]
  (have zx:=hd);refine zgo ?_;repeat' first|exact zt|apply zan|intro hc
  refine Ql _ rfl ?_;simp only [go_sem]
  simp [QE,Ka,hd]
end Av
end
