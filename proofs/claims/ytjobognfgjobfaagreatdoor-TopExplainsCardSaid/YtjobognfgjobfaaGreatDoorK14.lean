/- K14 -/
import Derived.Test.YtjobognfgjobfaaGreatDoorK13
import Derived.KernelRfl
import Derived.Test.YtjobognfgjobfaaGreatDoorK12
set_option linter.unusedVariables false
set_option linter.unusedSimpArgs false
noncomputable section
set_option maxRecDepth 10000
set_option maxHeartbeats 4000000
namespace Av
open Go
attribute [local irreducible] AWp WC wb aai awS awC aeM awQ afz Jk qV aes awR jj awB okR aaf ris
structure agl where
 name:List UInt8
 kind:Int
 way:Int
 sizes:List Int
 strengths:List Int
 deriving DecidableEq
def agl.v (r:agl):List V:=[V.str r.name,V.int r.kind,V.int r.way,.sl 1 (r.sizes.map V.int),.sl 1 (r.strengths.map V.int)]
def aq7:agl:=⟨[],0,0,[],[]⟩
def Y3:List agl:=[aq7,⟨[109,100,53],1,0,[],[18]⟩,⟨[115,104,97,49],1,0,[],[60]⟩,⟨[115,104,97,50,53,54],1,0,[],[128]⟩,⟨[115,104,97,51,56,52],1,0,[],[192]⟩,⟨[114,115,97],2,1,[],[]⟩,⟨[100,115,97],2,1,[],[]⟩,⟨[101,99,100,115,97],2,2,[],[]⟩,⟨[101,100,50,53,53,49,57],2,0,[],[128]⟩,⟨[109,108,100,115,97],2,3,[44,65,87],[128,192,256]⟩,⟨[114,115,97,107,120],3,1,[],[]⟩,⟨[100,104,101],3,1,[],[]⟩,⟨[101,99,100,104,101],3,2,[],[]⟩,⟨[109,108,107,101,109],3,3,[512,768,1024],[128,192,256]⟩,⟨[114,99,52],4,3,[40,128],[40,60]⟩,⟨[100,101,115,51],4,3,[112,168],[80,112]⟩,⟨[97,101,115,99,98,99],4,3,[128,256],[128,256]⟩,⟨[97,101,115,103,99,109],4,3,[128,256],[128,256]⟩,⟨[99,104,97,99,104,97],4,0,[],[256]⟩,⟨[104,109,97,99,109,100,53],5,0,[],[64]⟩,⟨[104,109,97,99,115,104,97,49],5,0,[],[80]⟩,⟨[104,109,97,99,115,104,97,50,53,54],5,0,[],[128]⟩,⟨[97,101,97,100],5,0,[],[256]⟩]
def aj8:List V:=Y3.flatMap agl.v
def XK (a:Int):agl:=if 1≤a∧a≤22 then Y3.getD a.toNat aq7 else aq7
theorem ae8 {α β:Type} {f:α→List β} {n:Nat} (h:∀ x,(f x).length = n):∀ (l:List α) (k:Nat) (hk:k < l.length),((l.flatMap f).drop (k * n)).take n = f l[k]
 | [],k,hk=>by simp at hk
 | x :: l,0,_=>by simp [ZL,h x]
 | x :: l,k + 1,hk=>by
   have e:(k + 1) * n = (f x).length + k * n:=by rw [h x,zW];omega
   rw [Z9,e,← kQ,List.drop_left]
   exact ae8 h l k (by simpa using hk)
theorem alh:aj8.length = 115:=rfl
theorem aoe (a:Int) (h1:1≤a) (h2:a≤22):(aj8.drop (a.toNat * 5)).take 5 = (XK a).v:=by
 have hl:Y3.length = 23:=rfl
 have hk:a.toNat < Y3.length:=by omega
 rw [aj8,ae8 (f:=agl.v) (n:=5) (fun _=>rfl) Y3 a.toNat hk,XK,if_pos ⟨h1,h2⟩,zI,zd hk,Option.getD_some]
theorem aqj (r:agl):Qb r.v:=by simp [agl.v,Qb,V.closed]
theorem aiq:Qb aj8:=aqk (by
 simp only [aj8,List.mem_flatMap]
 rintro v ⟨r,_,hr⟩
 simp [agl.v] at hr
 rcases hr with rfl|rfl|rfl|rfl|rfl<;>trivial)
def jX:=qd Proofs.Tryz.f242 []
def qM (Γ:Env) (f:Nat):Prop:=EvC Γ f [] (.agg aj8)
theorem aib {Γ:Env} {f:Nat} (h:Has Γ.P f 46 jX.1.1.ac jX.1.2) :qM Γ f:=by
 refine Q0 h zsi (aiq) fun C hC hm=>?_
 subst hC
 simp only [jX,qd,DC.ac]
 refine zgo ?_;repeat' first|exact zt|apply zan|intro hc
 refine Qg _ rfl ?_
 simp only [aj8,Y3,aq7,agl.v,Z9,List.flatMap_nil,go_sem,Nat.reduceAdd,Nat.reduceMul,Nat.reduceEqDiff,Nat.reduceLeDiff,Nat.reduceLT,Nat.reduceSub,Int.reduceEq,Int.reduceBEq,Int.reduceLT,Int.reduceLE,Int.reduceAdd,Int.reduceToNat,reduceIte,reduceCtorEq]
def wP:=qd Proofs.Tryz.f250 []
def xj (Γ:Env) (f:Nat):Prop:=∀ (a:Int),EvC Γ f [V.int a] (.tup [.agg (XK a).v,V.bool (decide (1≤a∧a≤22))])
theorem akF {Γ:Env} {f:Nat} (h:Has Γ.P f 14 wP.1.1.ac wP.1.2) (z0:qM Γ 242):xj Γ f:=by
 intro a
 refine Q0 h zsi (⟨aqj _,trivial,trivial⟩) fun C hC hm=>?_
 subst hC
 simp only [wP,qd,DC.ac]
 repeat' (first|(refine zsk ?_;intro K' hK)|refine zsp ?_|(refine zsc ?_ ?_<;>intro hc<;>first|exact znh|try simp only [znz] at hc)|simp (maxSteps:=1000000) only [go_sem]|(refine hK _ ?_;clear hK K')|apply zan|(apply QA;(focus first|exact EvC.b z0))|exact zsq|fail)
 ·refine Qg _ rfl ?_
  rw [XK,if_neg (by omega)]
  simp only [go_sem,agl.v,aq7,zH,and_self]
  simp;omega
 ·rw [alh];omega
 ·rw [aoe a (by omega) (by omega)];rfl
 ·rw [aoe a (by omega) (by omega)]
  refine Qg _ rfl ?_
  simp only [go_sem,agl.v,List.length_cons,List.length_nil,go_sem]
  simp;omega
 ·refine Qg _ rfl ?_
  rw [XK,if_neg (by omega)]
  simp only [go_sem,agl.v,aq7,zH,and_self]
  simp;omega
def amN (b:Int):List (Int×Int)→Int
 | []=>256
 | (x,y) :: r=>if b < x then y else amN b r
def ani:List (Int×Int):=[(1024,56),(2048,80),(3072,112),(7680,128),(15360,192)]
def Ua:=qd Proofs.Tryz.f251 []
def qN (Γ:Env) (f:Nat):Prop:=∀ (b:Int),EvN Γ f [V.int b] (V.int (amN b ani))
attribute [local go_sem] Int.reduceLE Int.reduceLT Int.reduceToNat in
theorem ael {Γ:Env} {f:Nat} (h:Has Γ.P f 21 Ua.1.1.ac Ua.1.2) :qN Γ f:=by
 intro b
 refine Qc h zsi zcl zcl fun C hC hm=>?_
 subst hC
 simp only [Ua,qd,DC.ac]
 refine zgo ?_;repeat' first|exact zt|apply zan|intro hc
 refine Ji (ι:=Int) (fun k=>0≤k∧k≤5∧amN b (ani.drop k.toNat) = amN b ani) (fun k=>[(11,V.int k)]) (fun k=>(5 - k).toNat) 0 (by omega) ⟨by simp,by simp,rfl⟩ zol zlt zet fun k hk K' hL=>?_
 obtain ⟨hk0,hk,hinv⟩:=hk
 simp only [ovT,Xs,Nat.reduceEqDiff,reduceIte]
 rcases (by omega:k = 0∨k = 1∨k = 2∨k = 3∨k = 4∨k = 5) with rfl|rfl|rfl|rfl|rfl|rfl
 all_goals refine zgo ?_;repeat' first|exact zt|apply zan|intro hc
 all_goals first
  | (refine Qg _ rfl ?_;simp only [go_sem];rw [← hinv];first|rfl|simp [ani,amN,hc])
  | (refine hL _ 1 zet ⟨by omega,by omega,?_⟩ (by decide) zoe;rw [← hinv];simp [ani,amN,hc])
  | (refine hL _ 2 zet ⟨by omega,by omega,?_⟩ (by decide) zoe;rw [← hinv];simp [ani,amN,hc])
  | (refine hL _ 3 zet ⟨by omega,by omega,?_⟩ (by decide) zoe;rw [← hinv];simp [ani,amN,hc])
  | (refine hL _ 4 zet ⟨by omega,by omega,?_⟩ (by decide) zoe;rw [← hinv];simp [ani,amN,hc])
  | (refine hL _ 5 zet ⟨by omega,by omega,?_⟩ (by decide) zoe;rw [← hinv];simp [ani,amN,hc])
def jY:=qd Proofs.Tryz.f195 []
def Wg (Γ:Env) (f:Nat):Prop:=∀ (a:Int),EvN Γ f [V.int a] (V.int (XK a).kind)
attribute [local go_sem] agl.v in
theorem aic {Γ:Env} {f:Nat} (h:Has Γ.P f 12 jY.1.1.ac jY.1.2) (z0:xj Γ 250):Wg Γ f:=by
 intro a
 refine Qc h zsi zcl zcl fun C hC hm=>?_
 subst hC
 simp only [jY,qd,DC.ac]
 refine zgo ?_;repeat' first|exact zt|apply zan|intro hc
 refine Qg _ rfl ?_;simp only [go_sem]
def yb (R:agl) (ok:Bool) (b:Int):Int :=
 if ok = false then 0
 else if R.way = 0 then (if b = 0 then R.strengths.headD 0 else 0)
 else if R.way = 1 then (if 512≤b∧b≤16384 then amN b ani else 0)
 else if R.way = 2 then (if VB b 0 [160,224,256,384,521]≥0 then IntKind.i64.wrap (b.tdiv 2) else 0)
 else if R.way = 3 then (if VB b 0 R.sizes≥0 then R.strengths.getD (VB b 0 R.sizes).toNat 0 else 0)
 else 0
def Qx (a b:Int):Int:=yb (XK a) (decide (1≤a∧a≤22)) b
def agl.ok (r:agl):Bool:=(r.way != 0 || !r.strengths.isEmpty) && (r.way != 3 || r.sizes.length == r.strengths.length) && decide (r.sizes.length < 10)
theorem awn (a:Int) (ha:1≤a∧a≤22):(XK a).ok = true:=by
 have h:∀ r∈Y3.drop 1,r.ok = true:=by decide
 have hl:Y3.length = 23:=rfl
 have hk:a.toNat < Y3.length:=by omega
 rw [XK,if_pos ha,zI,zd hk,Option.getD_some]
 have hk':a.toNat - 1 < (Y3.drop 1).length:=by simp;omega
 have:=h _ (zV hk')
 rw [List.getElem_drop] at this
 have e:1 + (a.toNat - 1) = a.toNat:=by omega
 simp only [e] at this
 exact this
theorem aoN (x:Int):∀ (l:List Int) (k:Nat),VB x k l = -1∨(k≤VB x k l∧VB x k l < k + l.length)
 | [],k=>.inl rfl
 | y :: r,k=>by
   unfold VB
   split
   ·right;simp;omega
   ·rcases aoN x r (k + 1) with h|⟨h1,h2⟩
    ·exact .inl h
    ·right;simp only [List.length_cons];omega
def Vk:=qd Proofs.Tryz.f192 []
def Xo (Γ:Env) (f:Nat):Prop:=∀ (a b:Int),EvN Γ f [.agg [V.int a,V.int b]] (V.int (Qx a b))
attribute [local go_sem] agl.v in
theorem ac2 {Γ:Env} {f:Nat} (h:Has Γ.P f 61 Vk.1.1.ac Vk.1.2) (z0:xj Γ 250) (z1:qN Γ 251) (z2:QN Γ 182) (z3:YP Γ 240):Xo Γ f:=by
 intro a b
 refine Qc h zsi zcl zcl fun C hC hm=>?_
 subst hC
 simp only [Vk,qd,DC.ac]
 have hc5:=z2 [160,224,256,384,521] b (by simp)
 by_cases ha:1≤a∧a≤22
 ·have hd:decide (1≤a∧a≤22) = true:=by simp [ha]
  have ok:=awn a ha
  have fl:=aoN b (XK a).sizes 0
  rcases hR:XK a with ⟨nm,kd,wy,sz,st⟩
  rw [hR] at ok fl
  simp only [agl.ok,zA,kC,zC,bne_iff_ne,kx] at ok
  rcases st with _|⟨x,st⟩
  ·(have zy0:=hc5.b;have zx:=za hR hd);refine zgo ?_;repeat' first|exact zt|apply zan|intro hc
   all_goals first
    | (refine Qg _ rfl ?_;simp only [go_sem];simp [Qx,yb,hR, *];done)
    | (exfalso;simp only [ZY,List.length_cons,List.length_nil,List.isEmpty_nil] at hst fl ok;omega)
    | (exfalso;simp only [List.length_nil] at fl ok;omega)
    | (exfalso;simp_all;done)
  ·rcases hst:(x :: st)[(VB b 0 sz).toNat]? with _|v
   ·have hs2:(V.int x :: List.map V.int st)[(VB b 0 sz).toNat]? = none:=by rw [← zE,zo,hst];rfl
    (have zy0:=hc5.b;have zx:=za hR (za hd hs2));refine zgo ?_;repeat' first|exact zt|apply zan|intro hc
    all_goals first
     | (refine Qg _ rfl ?_;simp only [go_sem];simp [Qx,yb,hR, *];done)
     | (exfalso;simp only [ZY,List.length_cons,List.length_nil,List.isEmpty_nil] at hst fl ok;omega)
     | (exfalso;simp_all;done)
   ·have hs2:(V.int x :: List.map V.int st)[(VB b 0 sz).toNat]? = some (V.int v):=by rw [← zE,zo,hst];rfl
    (have zy0:=hc5.b;have zx:=za hR (za hd hs2));refine zgo ?_;repeat' first|exact zt|apply zan|intro hc
    all_goals first
     | (refine Qg _ rfl ?_;simp only [go_sem];simp [Qx,yb,hR, *];done)
     | (exfalso;simp only [ZY,List.length_cons,List.length_nil,List.isEmpty_nil] at hst fl ok;omega)
     | (exfalso;simp_all;done)
 ·have hd:decide (1≤a∧a≤22) = false:=by simp [ha]
  (have zx:=hd);refine zgo ?_;repeat' first|exact zt|apply zan|intro hc
  refine Qg _ rfl ?_;simp only [go_sem]
  simp [Qx,yb,hd]
end Av
end
