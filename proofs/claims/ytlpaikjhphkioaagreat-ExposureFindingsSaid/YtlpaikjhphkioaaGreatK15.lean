/- K15 -/
import Derived.Test.YtlpaikjhphkioaaGreatK12
import Derived.KernelRfl
set_option linter.unusedVariables false
set_option linter.unusedSimpArgs false
noncomputable section
set_option maxRecDepth 10000
set_option maxHeartbeats 4000000
namespace Av
open Go
attribute [local irreducible] AWp Uv qW xf awS awC abB awQ acd QZ UL aa2 awR Kc awB okR yu ris
def ap4 (a n:Int):Int:=if n < 1 then 0 else (IntKind.i64.wrap (a.tmod n + n)).tmod n
def wB:=qd Proofs.Tryz.f27 []
def vS (Γ:Env) (f:Nat):Prop:=∀ (a n:Int),EvN Γ f [V.int a,V.int n] (V.int (ap4 a n))
theorem ajt {Γ:Env} {f:Nat} (h:Has Γ.P f 14 wB.1.1.ac wB.1.2) :vS Γ f:=by
 intro a n
 refine Qb h zsi zcl zcl fun C hC hm=>?_
 subst hC
 simp only [wB,qd,DC.ac]
 refine zgo ?_;repeat' first|exact zt|apply zan|intro hc
 ·refine Qk _ rfl ?_
  simp only [go_sem]
  simp [ap4,hc]
 ·refine Qk _ rfl ?_
  simp only [go_sem]
  simp [ap4,hc]
def xx (x:Int):Nat→List Int→Int
 | _,[]=>-1
 | k,y :: r=>if x = y then k else xx x (k + 1) r
def Yn:=qd Proofs.Tryz.f168 []
def Yf (Γ:Env) (f:Nat):Prop:=∀ (l:List Int) (x:Int) (hl:l.length < 2 ^ 62),EvN Γ f [.sl 1 (l.map V.int),V.int x] (V.int (xx x 0 l))
theorem jC {Γ:Env} {f:Nat} (h:Has Γ.P f 19 Yn.1.1.ac Yn.1.2) :Yf Γ f:=by
 intro l x hl
 refine Qb h zsi zcl zcl fun C hC hm=>?_
 subst hC
 simp only [Yn,qd,DC.ac]
 refine zgo ?_;repeat' first|exact zt|apply zan|intro hc
 refine Qx (ι:=Nat) (fun k=>k≤l.length∧xx x k (l.drop k) = xx x 0 l) (fun k=>[(8,V.int k)]) (fun k=>l.length - k) 0 (by omega) ⟨by simp,by simp⟩ zol zlt zet fun k hk K' hL=>?_
 obtain ⟨hk,hinv⟩:=hk
 simp only [ovT,JQ,Nat.reduceEqDiff,reduceIte]
 rcases hd:l.drop k with _|⟨y,r⟩
 ·have:=Qs hd
  rw [hd] at hinv
  refine zgo ?_;repeat' first|exact zt|apply zan|intro hc
  refine Qk _ rfl ?_
  simp only [go_sem]
  rw [← hinv];rfl
 ·obtain ⟨hk,hget,hr⟩:=Ql hd
  rw [hd] at hinv
  have hw:=Qf (k:=k) (by omega)
  (have zx:=za hget hw);refine zgo ?_;repeat' first|exact zt|apply zan|intro hc
  ·refine Qk _ rfl ?_
   simp only [go_sem]
   rw [← hinv];simp [xx,hc]
  ·refine hL _ (k + 1) zet ⟨by omega,?_⟩ (by omega) (fun a ha=>rfl)
   rw [hr,← hinv];simp [xx,hc]
def JX:=qd Proofs.Tryz.f167 []
def YB (Γ:Env) (f:Nat):Prop:=∀ (l:List Int) (x:Int) (hl:l.length < 2 ^ 62),EvN Γ f [.sl 1 (l.map V.int),V.int x] (V.bool (decide (xx x 0 l≥0)))
theorem KG {Γ:Env} {f:Nat} (h:Has Γ.P f 9 JX.1.1.ac JX.1.2) (z0:Yf Γ 168):YB Γ f:=by
 intro l x hl
 refine Qb h zsi zcl zcl fun C hC hm=>?_
 subst hC
 simp only [JX,qd,DC.ac]
 refine zgo ?_;repeat' first|exact zt|apply zan|intro hc
 refine Qk _ rfl ?_
 simp only [go_sem]
structure aeF where
 name:List UInt8
 kind:Int
 way:Int
 sizes:List Int
 strengths:List Int
 deriving DecidableEq
def aeF.v (r:aeF):List V:=[V.str r.name,V.int r.kind,V.int r.way,.sl 1 (r.sizes.map V.int),.sl 1 (r.strengths.map V.int)]
def aor:aeF:=⟨[],0,0,[],[]⟩
def qP:List aeF:=[aor,⟨[109,100,53],1,0,[],[18]⟩,⟨[115,104,97,49],1,0,[],[60]⟩,⟨[115,104,97,50,53,54],1,0,[],[128]⟩,⟨[115,104,97,51,56,52],1,0,[],[192]⟩,⟨[114,115,97],2,1,[],[]⟩,⟨[100,115,97],2,1,[],[]⟩,⟨[101,99,100,115,97],2,2,[],[]⟩,⟨[101,100,50,53,53,49,57],2,0,[],[128]⟩,⟨[109,108,100,115,97],2,3,[44,65,87],[128,192,256]⟩,⟨[114,115,97,107,120],3,1,[],[]⟩,⟨[100,104,101],3,1,[],[]⟩,⟨[101,99,100,104,101],3,2,[],[]⟩,⟨[109,108,107,101,109],3,3,[512,768,1024],[128,192,256]⟩,⟨[114,99,52],4,3,[40,128],[40,60]⟩,⟨[100,101,115,51],4,3,[112,168],[80,112]⟩,⟨[97,101,115,99,98,99],4,3,[128,256],[128,256]⟩,⟨[97,101,115,103,99,109],4,3,[128,256],[128,256]⟩,⟨[99,104,97,99,104,97],4,0,[],[256]⟩,⟨[104,109,97,99,109,100,53],5,0,[],[64]⟩,⟨[104,109,97,99,115,104,97,49],5,0,[],[80]⟩,⟨[104,109,97,99,115,104,97,50,53,54],5,0,[],[128]⟩,⟨[97,101,97,100],5,0,[],[256]⟩]
def aiS:List V:=qP.flatMap aeF.v
def WT (a:Int):aeF:=if 1≤a∧a≤22 then qP.getD a.toNat aor else aor
theorem afB {α β:Type} {f:α→List β} {n:Nat} (h:∀ x,(f x).length = n):∀ (l:List α) (k:Nat) (hk:k < l.length),((l.flatMap f).drop (k * n)).take n = f l[k]
 | [],k,hk=>by simp at hk
 | x :: l,0,_=>by simp [List.take_append_of_le_length,h x]
 | x :: l,k + 1,hk=>by
   have e:(k + 1) * n = (f x).length + k * n:=by rw [h x,ke];omega
   rw [List.flatMap_cons,e,← Zh,List.drop_left]
   exact afB h l k (by simpa using hk)
theorem amA:aiS.length = 115:=rfl
theorem ajV (a:Int) (h1:1≤a) (h2:a≤22):(aiS.drop (a.toNat * 5)).take 5 = (WT a).v:=by
 have hl:qP.length = 23:=rfl
 have hk:a.toNat < qP.length:=by omega
 rw [aiS,afB (f:=aeF.v) (n:=5) (fun _=>rfl) qP a.toNat hk,WT,if_pos ⟨h1,h2⟩,zJ,zd hk,Option.getD_some]
theorem alR (r:aeF):Qd r.v:=by simp [aeF.v,Qd,V.closed]
theorem ajF:Qd aiS:=alS (by
 simp only [aiS,List.mem_flatMap]
 rintro v ⟨r,_,hr⟩
 simp [aeF.v] at hr
 rcases hr with rfl|rfl|rfl|rfl|rfl<;>trivial)
def U3:=qd Proofs.Tryz.f187 []
def qM (Γ:Env) (f:Nat):Prop:=EvC Γ f [] (.agg aiS)
theorem ad1 {Γ:Env} {f:Nat} (h:Has Γ.P f 46 U3.1.1.ac U3.1.2) :qM Γ f:=by
 refine Jy h zsi (ajF) fun C hC hm=>?_
 subst hC
 simp only [U3,qd,DC.ac]
 refine zgo ?_;repeat' first|exact zt|apply zan|intro hc
 refine Qk _ rfl ?_
 simp only [aiS,qP,aor,aeF.v,List.flatMap_cons,List.flatMap_nil,go_sem,Nat.reduceAdd,Nat.reduceMul,Nat.reduceEqDiff,Nat.reduceLeDiff,Nat.reduceLT,Nat.reduceSub,Int.reduceEq,Int.reduceBEq,Int.reduceLT,Int.reduceLE,Int.reduceAdd,Int.reduceToNat,reduceIte,reduceCtorEq]
def jx:=qd Proofs.Tryz.f165 []
def qc (Γ:Env) (f:Nat):Prop:=∀ (a:Int),EvC Γ f [V.int a] (.tup [.agg (WT a).v,V.bool (decide (1≤a∧a≤22))])
theorem agB {Γ:Env} {f:Nat} (h:Has Γ.P f 14 jx.1.1.ac jx.1.2) (z0:qM Γ 187):qc Γ f:=by
 intro a
 refine Jy h zsi (⟨alR _,trivial,trivial⟩) fun C hC hm=>?_
 subst hC
 simp only [jx,qd,DC.ac]
 repeat' (first|(refine zsk ?_;intro K' hK)|refine zsp ?_|(refine zsc ?_ ?_<;>intro hc<;>first|exact znh|try simp only [znz] at hc)|simp (maxSteps:=1000000) only [go_sem]|(refine hK _ ?_;clear hK K')|apply zan|(apply QF;(focus first|exact EvC.b z0))|exact zsq|fail)
 ·refine Qk _ rfl ?_
  rw [WT,if_neg (by omega)]
  simp only [go_sem,aeF.v,aor,zK,and_self]
  simp;omega
 ·rw [amA];omega
 ·rw [ajV a (by omega) (by omega)];rfl
 ·rw [ajV a (by omega) (by omega)]
  refine Qk _ rfl ?_
  simp only [go_sem,aeF.v,List.length_cons,List.length_nil,go_sem]
  simp;omega
 ·refine Qk _ rfl ?_
  rw [WT,if_neg (by omega)]
  simp only [go_sem,aeF.v,aor,zK,and_self]
  simp;omega
def alw (b:Int):List (Int×Int)→Int
 | []=>256
 | (x,y) :: r=>if b < x then y else alw b r
def ama:List (Int×Int):=[(1024,56),(2048,80),(3072,112),(7680,128),(15360,192)]
def Wv:=qd Proofs.Tryz.f166 []
def Uu (Γ:Env) (f:Nat):Prop:=∀ (b:Int),EvN Γ f [V.int b] (V.int (alw b ama))
attribute [local go_sem] Int.reduceLE Int.reduceLT Int.reduceToNat in
theorem aaK {Γ:Env} {f:Nat} (h:Has Γ.P f 21 Wv.1.1.ac Wv.1.2) :Uu Γ f:=by
 intro b
 refine Qb h zsi zcl zcl fun C hC hm=>?_
 subst hC
 simp only [Wv,qd,DC.ac]
 refine zgo ?_;repeat' first|exact zt|apply zan|intro hc
 refine Qx (ι:=Int) (fun k=>0≤k∧k≤5∧alw b (ama.drop k.toNat) = alw b ama) (fun k=>[(11,V.int k)]) (fun k=>(5 - k).toNat) 0 (by omega) ⟨by simp,by simp,rfl⟩ zol zlt zet fun k hk K' hL=>?_
 obtain ⟨hk0,hk,hinv⟩:=hk
 simp only [ovT,JQ,Nat.reduceEqDiff,reduceIte]
 rcases (by omega:k = 0∨k = 1∨k = 2∨k = 3∨k = 4∨k = 5) with rfl|rfl|rfl|rfl|rfl|rfl
 all_goals refine zgo ?_;repeat' first|exact zt|apply zan|intro hc
 all_goals first
  | (refine Qk _ rfl ?_;simp only [go_sem];rw [← hinv];first|rfl|simp [ama,alw,hc])
  | (refine hL _ 1 zet ⟨by omega,by omega,?_⟩ (by decide) zoe;rw [← hinv];simp [ama,alw,hc])
  | (refine hL _ 2 zet ⟨by omega,by omega,?_⟩ (by decide) zoe;rw [← hinv];simp [ama,alw,hc])
  | (refine hL _ 3 zet ⟨by omega,by omega,?_⟩ (by decide) zoe;rw [← hinv];simp [ama,alw,hc])
  | (refine hL _ 4 zet ⟨by omega,by omega,?_⟩ (by decide) zoe;rw [← hinv];simp [ama,alw,hc])
  | (refine hL _ 5 zet ⟨by omega,by omega,?_⟩ (by decide) zoe;rw [← hinv];simp [ama,alw,hc])
def U4:=qd Proofs.Tryz.f180 []
def qN (Γ:Env) (f:Nat):Prop:=∀ (a:Int),EvN Γ f [V.int a] (V.int (WT a).kind)
attribute [local go_sem] aeF.v in
theorem ad2 {Γ:Env} {f:Nat} (h:Has Γ.P f 12 U4.1.1.ac U4.1.2) (z0:qc Γ 165):qN Γ f:=by
 intro a
 refine Qb h zsi zcl zcl fun C hC hm=>?_
 subst hC
 simp only [U4,qd,DC.ac]
 refine zgo ?_;repeat' first|exact zt|apply zan|intro hc
 refine Qk _ rfl ?_;simp only [go_sem]
def qj (R:aeF) (ok:Bool) (b:Int):Int :=
 if ok = false then 0
 else if R.way = 0 then (if b = 0 then R.strengths.headD 0 else 0)
 else if R.way = 1 then (if 512≤b∧b≤16384 then alw b ama else 0)
 else if R.way = 2 then (if xx b 0 [160,224,256,384,521]≥0 then IntKind.i64.wrap (b.tdiv 2) else 0)
 else if R.way = 3 then (if xx b 0 R.sizes≥0 then R.strengths.getD (xx b 0 R.sizes).toNat 0 else 0)
 else 0
def QL (a b:Int):Int:=qj (WT a) (decide (1≤a∧a≤22)) b
def aeF.ok (r:aeF):Bool:=(r.way != 0 || !r.strengths.isEmpty) && (r.way != 3 || r.sizes.length == r.strengths.length) && decide (r.sizes.length < 10)
theorem arf (a:Int) (ha:1≤a∧a≤22):(WT a).ok = true:=by
 have h:∀ r∈qP.drop 1,r.ok = true:=by decide
 have hl:qP.length = 23:=rfl
 have hk:a.toNat < qP.length:=by omega
 rw [WT,if_pos ha,zJ,zd hk,Option.getD_some]
 have hk':a.toNat - 1 < (qP.drop 1).length:=by simp;omega
 have:=h _ (zZ hk')
 rw [List.getElem_drop] at this
 have e:1 + (a.toNat - 1) = a.toNat:=by omega
 simp only [e] at this
 exact this
theorem akx (x:Int):∀ (l:List Int) (k:Nat),xx x k l = -1∨(k≤xx x k l∧xx x k l < k + l.length)
 | [],k=>.inl rfl
 | y :: r,k=>by
   unfold xx
   split
   ·right;simp;omega
   ·rcases akx x r (k + 1) with h|⟨h1,h2⟩
    ·exact .inl h
    ·right;simp only [List.length_cons];omega
def XN:=qd Proofs.Tryz.f121 []
def Vu (Γ:Env) (f:Nat):Prop:=∀ (a b:Int),EvN Γ f [.agg [V.int a,V.int b]] (V.int (QL a b))
attribute [local go_sem] aeF.v in
theorem vH {Γ:Env} {f:Nat} (h:Has Γ.P f 61 XN.1.1.ac XN.1.2) (z0:qc Γ 165) (z1:Uu Γ 166) (z2:YB Γ 167) (z3:Yf Γ 168):Vu Γ f:=by
 intro a b
 refine Qb h zsi zcl zcl fun C hC hm=>?_
 subst hC
 simp only [XN,qd,DC.ac]
 have hc5:=z2 [160,224,256,384,521] b (by simp)
 by_cases ha:1≤a∧a≤22
 ·have hd:decide (1≤a∧a≤22) = true:=by simp [ha]
  have ok:=arf a ha
  have fl:=akx b (WT a).sizes 0
  rcases hR:WT a with ⟨nm,kd,wy,sz,st⟩
  rw [hR] at ok fl
  simp only [aeF.ok,zw,kN,zA,bne_iff_ne,ky] at ok
  rcases st with _|⟨x,st⟩
  ·(have zy0:=hc5.b;have zx:=za hR hd);refine zgo ?_;repeat' first|exact zt|apply zan|intro hc
   all_goals first
    | (refine Qk _ rfl ?_;simp only [go_sem];simp [QL,qj,hR, *];done)
    | (exfalso;simp only [Z3,List.length_cons,List.length_nil,List.isEmpty_nil] at hst fl ok;omega)
    | (exfalso;simp only [List.length_nil] at fl ok;omega)
    | (exfalso;simp_all;done)
  ·rcases hst:(x :: st)[(xx b 0 sz).toNat]? with _|v
   ·have hs2:(V.int x :: List.map V.int st)[(xx b 0 sz).toNat]? = none:=by rw [← zL,zf,hst];rfl
    (have zy0:=hc5.b;have zx:=za hR (za hd hs2));refine zgo ?_;repeat' first|exact zt|apply zan|intro hc
    all_goals first
     | (refine Qk _ rfl ?_;simp only [go_sem];simp [QL,qj,hR, *];done)
     | (exfalso;simp only [Z3,List.length_cons,List.length_nil,List.isEmpty_nil] at hst fl ok;omega)
     | (exfalso;simp_all;done)
   ·have hs2:(V.int x :: List.map V.int st)[(xx b 0 sz).toNat]? = some (V.int v):=by rw [← zL,zf,hst];rfl
    (have zy0:=hc5.b;have zx:=za hR (za hd hs2));refine zgo ?_;repeat' first|exact zt|apply zan|intro hc
    all_goals first
     | (refine Qk _ rfl ?_;simp only [go_sem];simp [QL,qj,hR, *];done)
     | (exfalso;simp only [Z3,List.length_cons,List.length_nil,List.isEmpty_nil] at hst fl ok;omega)
     | (exfalso;simp_all;done)
 ·have hd:decide (1≤a∧a≤22) = false:=by simp [ha]
  (have zx:=hd);refine zgo ?_;repeat' first|exact zt|apply zan|intro hc
  refine Qk _ rfl ?_;simp only [go_sem]
  simp [QL,qj,hd]
end Av
end
