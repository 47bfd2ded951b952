/- K27 -/
import Derived.Test.YtjolhibbihejgaaGreatK21
import Derived.Test.YtjolhibbihejgaaGreatK12
import Derived.Test.YtjolhibbihejgaaGreatK26
import Derived.Test.YtjolhibbihejgaaGreatK23
import Derived.Test.YtjolhibbihejgaaGreatK24
import Derived.Test.YtjolhibbihejgaaGreatK25
import Derived.Test.YtjolhibbihejgaaGreatK20
set_option linter.unusedVariables false
set_option linter.unusedSimpArgs false
noncomputable section
set_option maxRecDepth 10000
set_option maxHeartbeats 4000000
namespace Av
open Go
attribute [local irreducible] AWp UY qH yr awS awC aaT awQ abS Q1 Ub aaE awR Ux awB okR ym ris
structure agx where
 name:List UInt8
 least:Int
 most:Int
 suites:List Int
 own:Bool
 fall:Bool
def agx.cells (d:agx):List V:=[V.str d.name,V.int d.least,V.int d.most,.sl 1 (d.suites.map V.int),V.bool d.own,.sc (.slice none 0 0),.sc (.slice none 0 0),.sc (.slice none 0 0),V.bool d.fall,.sc (.slice none 0 0)]
theorem agx.cells_closed (d:agx):Qd d.cells:=by simp [agx.cells,V.closed,Qd]
theorem aik {α:Type} (p:α→Bool):∀ (xs:List α) (k:Nat),decide (UX p k xs≥0) = xs.any p
 | [],k=>by simp [UX]
 | x :: r,k=>by
   have ih:=aik p r (k + 1)
   rw [UX,List.any_cons]
   by_cases h:p x = true
   ·rw [if_pos h,h];simp
   ·have h2:p x = false:=by simpa using h
    rw [if_neg h,h2,ih];rfl
structure atE where
 sec:List UInt8
 name:List UInt8
 val:List UInt8
 line:Int
def atE.cells (x:atE):List V:=[V.str x.sec,V.str x.name,V.str x.val,V.int x.line]
def atE.v (x:atE):V:=.agg x.cells
structure Jz where
 kalg:Int
 kbits:Int
 kid:Int
 chain:List Jl
def Jz.cells (x:Jz):List V:=[V.int x.kalg,V.int x.kbits,V.int x.kid,.sl 15 (x.chain.map Jl.v)]
def Jz.v (x:Jz):V:=.agg x.cells
structure Jz.Sm (x:Jz):Prop where
 hl:x.chain.length < 2 ^ 60
 hc:∀ c∈x.chain,c.Sm
structure JG where
 name:List UInt8
 least:Int
 most:Int
 suites:List Int
 own:Bool
 idents:List Jz
 anchors:List Int
 hashes:List Int
 fall:Bool
def JG.cells (e:JG):List V:=[V.str e.name,V.int e.least,V.int e.most,.sl 1 (e.suites.map V.int),V.bool e.own,.sl 4 (e.idents.map Jz.v),.sl 1 (e.anchors.map V.int),.sl 1 (e.hashes.map V.int),V.bool e.fall]
def JG.v (e:JG):V:=.agg e.cells
structure JG.Sm (e:JG):Prop where
 hn:e.name.length < 2 ^ 30
 hs:e.suites.length < 2 ^ 30
 hi:e.idents.length < 2 ^ 30
 hx:∀ x∈e.idents,x.Sm
 ha:e.anchors.length < 2 ^ 30
 hh:e.hashes.length < 2 ^ 30
def ltI (a b:Int):Bool:=decide (a < b)
def yes {α:Type} (_:α):Bool:=true
def jO (l:List Int):Bool:=(!l.any aqQ) && decide l.Nodup
def aqm (l:List Int):Bool:=okP yes ltI l l.length
def ajV (n:Int):Bool:=(Wh n).kind == 1
def Jz.ok (x:Jz):Bool:=aa4 x.kalg x.kbits x.kid x.chain
def aqP (e:JG):Bool:=ahK e.name && (decide (e.least≥1) && (decide (e.least≤e.most) && (decide (e.most≤4) && jO e.suites)))
def arW (e:JG):Bool:=decide ((e.idents.length:Int)≤4) && (decide ((e.anchors.length:Int)≤16) && (aqm e.anchors && aqm e.hashes))
def ate (e:JG):Bool:=e.idents.all Jz.ok
def aqO (e:JG):Bool:=e.anchors.all ahF && e.hashes.all ajV
def J6 (e:JG):Bool:=aqP e && (arW e && (ate e && aqO e))
theorem ajr {l:List Int} {x:Int} (h:x∈l) (hx:aqQ x = true):jO l = false:=by
 have:l.any aqQ = true:=Ze.2 ⟨x,h,hx⟩
 simp [jO,this]
theorem agD {l:List Int} (h:¬ l.Nodup):jO l = false:=by simp [jO,h]
def WR:=qd Proofs.Tryz.f58 []
def US (Γ:Env) (f:Nat):Prop:=∀ (l:List Int) (hl:l.length < 2 ^ 30),EvN Γ f [.sl 1 (l.map V.int)] (V.bool (jO l))
theorem abC {Γ:Env} {f:Nat} (h:Has Γ.P f 29 WR.1.1.ac WR.1.2) (z0:Ym Γ 36) (z1:Q6 Γ 74):US Γ f:=by
 intro l hl
 refine Qa h zsi zcl zcl fun C hC hm=>?_
 subst hC
 simp only [WR,qd,DC.ac]
 refine zgo ?_;repeat' first|exact zt|apply zan|intro hc
 refine Jg (ι:=Nat) (fun k=>k≤l.length∧(l.take k).any aqQ = false∧(l.take k).Nodup) (fun k=>[(9,V.int k)]) (fun k=>l.length - k) 0 (by omega) ⟨zA _,rfl,ki⟩ zol zlt zet fun k hk K' hL=>?_
 obtain ⟨hk,hg,hnd⟩:=hk
 simp only [ovT,Yr,Nat.reduceEqDiff,reduceIte]
 rcases hd:l.drop k with _|⟨x,r⟩
 ·have hkl:=Qr hd
  have e1:decide ((k:Int) < (((l.map V.int).length:Nat):Int)) = false:=by simp;omega
  rw [zi hkl] at hg hnd
  have hf:jO l = true:=by simp [jO,hg,hnd]
  rw [hf]
  (have zx:=e1);exact zg
 ·obtain ⟨hk',hget,hr⟩:=Qk hd
  have hw:=Qg (k:=k) (by omega)
  have e1:decide ((k:Int) < (((l.map V.int).length:Nat):Int)) = true:=by simp;omega
  have hsu:=(z0 x).b
  have hA:List.take (k - 0) (l.map V.int) = (l.take k).map V.int:=by rw [Nat.sub_zero,List.map_take]
  have hc1:=(z1 (l.take k) x (by rw [zV];omega)).b
  have hfi:=ais x (l.take k) 0
  by_cases hx:1≤x∧x≤16
  ·have hsv:KC x = .tup [(J4 x).v,V.int 0]:=by rw [KC,if_pos hx]
   rw [hsv] at hsu
   simp only [QQ.v,QQ.cells] at hsu
   by_cases hin:x∈l.take k
   ·rw [zv (hfi.2 hin)] at hc1
    rw [agD fun h=>ah7 h hget hin]
    (have zx:=za e1 (za hw (za hget hA)));exact zg
   ·rw [zp (fun h=>hin (hfi.1 h))] at hc1
    have hg2:(l.take (k + 1)).any aqQ = false:=by
     rw [zJ,hget,List.any_append,hg];simp [aqQ];omega
    have hnd2:(l.take (k + 1)).Nodup:=by
     rw [zJ,hget]
     exact kM.2 ⟨hnd,by simp,fun a ha b hb e=>by simp at hb;subst hb;subst e;exact hin ha⟩
    (have zx:=za e1 (za hw (za hget hA)));refine zgo ?_;repeat' first|exact zt|apply zan|intro hc
    all_goals exact hL _ (k + 1) zet ⟨by omega,hg2,hnd2⟩ (by omega) zoe
  ·have hbx:aqQ x = true:=by simp [aqQ];omega
   rw [ajr (zq hget) hbx]
   have hsv:KC x = .tup [aek.v,V.int 8]:=by rw [KC,if_neg hx,J4,if_neg hx]
   rw [hsv] at hsu
   simp only [QQ.v,QQ.cells,aek] at hsu
   (have zx:=za e1 (za hw (za hget hA)));exact zg
def X3:=qd Proofs.Tryz.f59 [zhn 14]
def VX (Γ:Env) (f:Nat):Prop:=∀ (l:List Int) (hl:l.length < 2 ^ 30),EvN Γ f [.sl 1 (l.map V.int)] (V.bool (aqm l))
theorem aat {Γ:Env} {f:Nat} (h:Has Γ.P f 24 X3.1.1.ac X3.1.2) :VX Γ f:=by
 intro l hl
 refine Qa h zsi zcl zcl fun C hC hm=>?_
 subst hC
 simp only [X3,qd,DC.ac]
 have hlm:(l.map V.int).length = l.length:=zb _
 (have zx:=hlm);refine zgo ?_;repeat' first|exact zt|apply zan|intro hc
 refine Jg (ι:=Nat) (fun k=>k≤l.length∧okP yes ltI l k = true) (fun k=>[(6,V.int k)]) (fun k=>l.length - k) 0 (by omega) ⟨zA _,rfl⟩ zol zlt zet fun k hk K' hL=>?_
 obtain ⟨hk,hinv⟩:=hk
 simp only [ovT,Yr,Nat.reduceEqDiff,reduceIte]
 rcases hd:l.drop k with _|⟨x,r⟩
 ·have hkl:=Qr hd
  have e1:decide ((k:Int) < ((l.length:Nat):Int)) = false:=by simp;omega
  have hkk:k = l.length:=by omega
  subst hkk
  rw [show aqm l = true from hinv]
  (have zx:=e1);exact zg
 ·obtain ⟨hk',hget,hr⟩:=Qk hd
  have hw:=Qg (k:=k) (by omega)
  have e1:decide ((k:Int) < ((l.length:Nat):Int)) = true:=by simp;omega
  rcases k with _|k
  ·have hw0:IntKind.i64.wrap 1 = ((1:Nat):Int):=by decide
   have hg1:okP yes ltI l (0 + 1) = true:=by rw [agN hget];rfl
   have e2:decide (((0:Nat):Int) > 0) = false:=rfl
   (have zx:=za e1 (za e2 (za hw (za hw0 hget))));refine zgo ?_;repeat' first|exact zt|apply zan|intro hc
   all_goals exact hL _ 1 zet ⟨by omega,hg1⟩ (by omega) zoe
  ·have e2:decide (((k + 1:Nat):Int) > 0) = true:=zv (by omega)
   have hw2:IntKind.i64.wrap (((k + 1:Nat):Int) - 1) = (k:Int):=by rw [Q9 (by omega) (by omega)];omega
   obtain ⟨y,hgy⟩:∃ y,l[k]? = some y:=⟨_,zd (by omega)⟩
   have hnext:=ad2 (p:=yes) (q:=ltI) hget hgy
   rw [hinv] at hnext
   by_cases hb:y < x
   ·have e3:decide (y≥x) = false:=zp (by omega)
    (have zx:=za e1 (za e2 (za e3 (za hw (za hw2 (za hget hgy))))));refine zgo ?_;repeat' first|exact zt|apply zan|intro hc
    all_goals exact hL _ (k + 2) zet ⟨by omega,by rw [hnext];simp [yes,ltI,hb]⟩ (by omega) zoe
   ·have e3:decide (y≥x) = true:=zv (by omega)
    have hf:aqm l = false:=agO (k:=k + 2) (by rw [hnext];simp [ltI,hb]) (by omega)
    rw [hf]
    (have zx:=za e1 (za e2 (za e3 (za hw (za hw2 (za hget hgy))))));exact zg
def Uq:=qd Proofs.Tryz.f64 []
def KW (Γ:Env) (f:Nat):Prop:=∀ (n:Int),EvN Γ f [V.int n] (V.bool (ajV n))
theorem adJ {Γ:Env} {f:Nat} (h:Has Γ.P f 6 Uq.1.1.ac Uq.1.2) (z0:Xo Γ 97):KW Γ f:=by
 intro n
 refine Qa h zsi zcl zcl fun C hC hm=>?_
 subst hC
 simp only [Uq,qd,DC.ac]
 unfold ajV
 exact zg
def Y8:=qd Proofs.Tryz.f62 []
def YM (Γ:Env) (f:Nat):Prop:=∀ (k:Nat) (p:Int→Bool) (x:Int) (hp:EvN Γ k [V.int x] (V.bool (p x))),EvN Γ f [V.int x,.ro [.clo (.n k) []] 0] (V.bool (!p x))
theorem wu {Γ:Env} {f:Nat} (h:Has Γ.P f 8 Y8.1.1.ac Y8.1.2) :YM Γ f:=by
 intro k p x hp
 refine Qa h zsi zcl zcl fun C hC hm=>?_
 subst hC
 simp only [Y8,qd,DC.ac]
 have hq:=hp.b
 exact zg
def X4:=qd Proofs.Tryz.f61 []
def VY (Γ:Env) (f:Nat):Prop:=(∃ g:Nat,YM Γ g∧∀ k:Nat,EvC Γ f [.clo (.n k) []] (.clo (.n g) [.ro [.clo (.n k) []] 0]))
theorem aau {Γ:Env} {f:Nat} (h:Has Γ.P f 4 X4.1.1.ac X4.1.2) (z0:YM Γ 62):VY Γ f:=by
 refine ⟨62,z0,fun k=>?_⟩
 refine Ql h (by simp) (by simp only [V.closed,Qd,and_self]) fun C hC hm=>?_
 subst hC
 simp only [X4,qd,DC.ac]
 exact zg
def JK:=qd Proofs.Tryz.f80 []
def Yj (Γ:Env) (f:Nat):Prop:=∀ (xs:List Int) (g:Nat) (cap:List V) (p:Int→Bool) (hp:∀ x∈xs,EvN Γ g (V.int x :: cap) (V.bool (p x))) (hcap:Qd cap) (hl:xs.length < 2 ^ 62),EvN Γ f [.sl 1 (xs.map V.int),.clo g cap] (V.int (UX p 0 xs))
attribute [local go_sem] zw in
theorem KP {Γ:Env} {f:Nat} (h:Has Γ.P f 19 JK.1.1.ac JK.1.2) :Yj Γ f:=by
 intro xs g cap p hp hcap hl
 refine Qa h zsi zcl zcl fun C hC hm=>?_
 subst hC
 simp only [JK,qd,DC.ac]
 have s1:∀ o,JD o cap = cap:=fun o=>QC o cap hcap
 have s2:∀ o B,Qp o B cap = True:=fun o B=>eq_true (Qq o B cap hcap)
 refine zgo ?_;repeat' first|exact zt|apply zan|intro hc
 refine Jg (ι:=Nat) (fun k=>k≤xs.length∧UX p k (xs.drop k) = UX p 0 xs) (fun k=>[(8,V.int k)]) (fun k=>xs.length - k) 0 (by omega) ⟨by simp,by simp⟩ zol (fun i hi=>by simp only [ovT,Yr,Nat.reduceEqDiff,reduceIte];(repeat' first|exact jT|refine Kn ?_ ?_|simp only [V.lt,ltL,and_self,and_true]|omega);exact JC _ _ hcap) (by simp only [Nat.reduceAdd,ovT,Yr,Nat.reduceEqDiff,reduceIte,Ui,qP,amQ,u32,u33,u34,u35,u36,u37,u38,u39,and_self,and_true,true_and];first|rfl|exact QL _ _ hcap) fun k hk K' hL=>?_
 obtain ⟨hk,hinv⟩:=hk
 simp only [ovT,Yr,Nat.reduceEqDiff,reduceIte]
 rcases hd:xs.drop k with _|⟨y,r⟩
 ·have:=Qr hd
  rw [hd] at hinv
  have e1:decide ((k:Int) < (((xs.map V.int).length:Nat):Int)) = false:=by simp;omega
  (have zx:=e1);refine zgo ?_;repeat' first|exact zt|apply zan|intro hc
  refine Qi _ rfl ?_
  simp only [go_sem]
  rw [← hinv];rfl
 ·obtain ⟨hk,hget,hr⟩:=Qk hd
  rw [hd] at hinv
  have hw:=Qg (k:=k) (by omega)
  have e1:decide ((k:Int) < (((xs.map V.int).length:Nat):Int)) = true:=by simp;omega
  have hpy:=hp y (zq hget)
  by_cases hy:p y = true
  ·rw [hy] at hpy
   (have zy0:=hpy.b;have zx:=za hget (za hw (za e1 (za s1 s2))));refine zgo ?_;repeat' first|exact zt|apply zan|intro hc
   refine Qi _ rfl ?_;simp only [go_sem]
   rw [← hinv];simp [UX,hy]
  ·have hy':p y = false:=by simpa using hy
   rw [hy'] at hpy
   (have zy0:=hpy.b;have zx:=za hget (za hw (za e1 (za s1 s2))));refine zgo ?_;repeat' first|exact zt|apply zan|intro hc
   refine hL _ (k + 1) zet ⟨by omega,?_⟩ (by omega) zoe
   rw [hr,← hinv,UX,if_neg hy]
def Jv:=qd Proofs.Tryz.f45 []
def Jq (Γ:Env) (f:Nat):Prop:=∀ (xs:List Int) (g:Nat) (cap:List V) (p:Int→Bool) (hp:∀ x∈xs,EvN Γ g (V.int x :: cap) (V.bool (p x))) (hcap:Qd cap) (hl:xs.length < 2 ^ 62),EvN Γ f [.sl 1 (xs.map V.int),.clo g cap] (V.bool (xs.any p))
theorem UZ {Γ:Env} {f:Nat} (h:Has Γ.P f 9 Jv.1.1.ac Jv.1.2) (z0:Yj Γ 80):Jq Γ f:=by
 intro xs g cap p hp hcap hl
 refine Qa h zsi zcl zcl fun C hC hm=>?_
 subst hC
 simp only [Jv,qd,DC.ac]
 have s1:∀ o,JD o cap = cap:=fun o=>QC o cap hcap
 have s2:∀ o B,Qp o B cap = True:=fun o B=>eq_true (Qq o B cap hcap)
 have hi:=(z0 xs g cap p hp hcap hl).b
 have e1:=aik p xs 0
 (have zx:=za s1 (za s2 e1));exact zg
def VA:=qd Proofs.Tryz.f31 [⟨fun _=>true,[3,9],.one 0 (.one 1 (.one 2 (.one 3 (.one 4 (.one 5 (.one 6 (.one 8 (.or 7 (.one 9 (.one 10 (.one 11 (.done)))) (.or 9 (.one 7 (.one 10 (.one 11 (.done)))) (.done))))))))))⟩]
def Xn (Γ:Env) (f:Nat):Prop:=∀ (e:JG) (sm:e.Sm),EvN Γ f [e.v] (V.int (if J6 e = true then 0 else 19))
attribute [local go_sem] Jz.cells Jz.v in
theorem acD {Γ:Env} {f:Nat} (h:Has Γ.P f 83 VA.1.1.ac VA.1.2) (z0:KS Γ 57) (z1:US Γ 58) (z2:VX Γ 59) (z3:Kg Γ 60) (z4:VY Γ 61) (z5:Yg Γ 63) (z6:Jq Γ 45) (z7:KW Γ 64):Xn Γ f:=by
 intro e sm
 refine Qa h zsi zcl zcl fun C hC hm=>?_
 subst hC
 simp only [VA,qd,DC.ac]
 have hw:=(z0 e.name sm.hn).b
 have hsu:=(z1 e.suites sm.hs).b
 have ha1:=(z2 e.anchors sm.ha).b
 have ha2:=(z2 e.hashes sm.hh).b
 obtain ⟨g,hg1,hg⟩:=z4
 have g1:=(hg 63).b
 have g2:=(hg 64).b
 have k1:=(z6 e.anchors g [.ro [.clo (.n 63) []] 0] (fun x=>!ahF x) (fun x _=>hg1 63 ahF x (z5 x)) (by simp [V.closed,Qd]) (by have:=sm.ha;omega)).b
 have k2:=(z6 e.hashes g [.ro [.clo (.n 64) []] 0] (fun x=>!ajV x) (fun x _=>hg1 64 ajV x (z7 x)) (by simp [V.closed,Qd]) (by have:=sm.hh;omega)).b
 have no1:aqP e = false→(if J6 e = true then (0:Int) else 19) = 19:=fun h=>by simp [J6,h]
 have no2:arW e = false→(if J6 e = true then (0:Int) else 19) = 19:=fun h=>by simp [J6,h]
 have no3:ate e = false→(if J6 e = true then (0:Int) else 19) = 19:=fun h=>by simp [J6,h]
 have no4:aqO e = false→(if J6 e = true then (0:Int) else 19) = 19:=fun h=>by simp [J6,h]
 have lm1:(e.idents.map Jz.v).length = e.idents.length:=zb _
 have lm2:(e.anchors.map V.int).length = e.anchors.length:=zb _
 have lm3:(e.hashes.map V.int).length = e.hashes.length:=zb _
 simp only [JG.v,JG.cells]
 rcases q1:aqP e with _|_
 ·rw [no1 q1]
  rcases b1:ahK e.name with _|_
  ·rw [b1] at hw
   exact zg
  rw [b1] at hw
  by_cases b2:e.least < 1
  ·have e2:decide (e.least < 1) = true:=zv b2
   (have zx:=e2);exact zg
  have e2:decide (e.least < 1) = false:=zp b2
  by_cases b3:e.least > e.most
  ·have e3:decide (e.least > e.most) = true:=zv b3
   (have zx:=za e2 e3);exact zg
  have e3:decide (e.least > e.most) = false:=zp b3
  by_cases b4:e.most > 4
  ·have e4:decide (e.most > 4) = true:=zv b4
   (have zx:=za e2 (za e3 e4));exact zg
  have e4:decide (e.most > 4) = false:=zp b4
  have b5:jO e.suites = false:=by
   rw [aqP,b1,zv (by omega:e.least≥1),zv (by omega:e.least≤e.most),zv (by omega:e.most≤4)] at q1
   simpa using q1
  rw [b5] at hsu
  (have zx:=za e2 (za e3 e4));exact zg
 have p1:=q1
 simp only [aqP,zC,zO] at p1
 obtain ⟨b1,b2,b3,b4,b5⟩:=p1
 rw [b1] at hw
 rw [b5] at hsu
 have e2:decide (e.least < 1) = false:=zp (by omega)
 have e3:decide (e.least > e.most) = false:=zp (by omega)
 have e4:decide (e.most > 4) = false:=zp (by omega)
 rcases q2:arW e with _|_
 ·rw [no2 q2]
  by_cases c1:(e.idents.length:Int) > 4
  ·have f1:decide ((e.idents.length:Int) > 4) = true:=zv c1
   (have zx:=za e2 (za e3 (za e4 (za lm1 f1))));exact zg
  have f1:decide ((e.idents.length:Int) > 4) = false:=zp c1
  by_cases c2:(e.anchors.length:Int) > 16
  ·have f2:decide ((e.anchors.length:Int) > 16) = true:=zv c2
   (have zx:=za e2 (za e3 (za e4 (za lm1 (za lm2 (za f1 f2))))));exact zg
  have f2:decide ((e.anchors.length:Int) > 16) = false:=zp c2
  rcases c3:aqm e.anchors with _|_
  ·rw [c3] at ha1
   (have zx:=za e2 (za e3 (za e4 (za lm1 (za lm2 (za f1 f2))))));exact zg
  rw [c3] at ha1
  have c4:aqm e.hashes = false:=by
   rw [arW,c3,zv (by omega:(e.idents.length:Int)≤4),zv (by omega:(e.anchors.length:Int)≤16)] at q2
   simpa using q2
  rw [c4] at ha2
  (have zx:=za e2 (za e3 (za e4 (za lm1 (za lm2 (za f1 f2))))));exact zg
 have p2:=q2
 simp only [arW,zC,zO] at p2
 obtain ⟨c1,c2,c3,c4⟩:=p2
 rw [c3] at ha1
 rw [c4] at ha2
 have f1:decide ((e.idents.length:Int) > 4) = false:=zp (by omega)
 have f2:decide ((e.anchors.length:Int) > 16) = false:=zp (by omega)
 (have zx:=za e2 (za e3 (za e4 (za lm1 (za lm2 (za f1 f2))))));refine zgo ?_;repeat' first|exact zt|apply zan|intro hc
 refine Jg (ι:=Nat) (fun k=>k≤e.idents.length∧(e.idents.take k).all Jz.ok = true) (fun k=>[(58,V.int k)]) (fun k=>e.idents.length - k) 0 (by omega) ⟨zA _,rfl⟩ zol zlt zet fun k hk K' hL=>?_
 obtain ⟨hk,hinv⟩:=hk
 simp only [ovT,Yr,Nat.reduceEqDiff,reduceIte]
 rcases hd:e.idents.drop k with _|⟨x,r⟩
 ·have hkl:=Qr hd
  have e5:decide ((k:Int) < ((e.idents.length:Nat):Int)) = false:=by simp;omega
  have q3:ate e = true:=by rw [zi hkl] at hinv;exact hinv
  rcases d1:e.anchors.any (fun x=>!ahF x) with _|_
  ·rw [d1] at k1
   rcases d2:e.hashes.any (fun x=>!ajV x) with _|_
   ·rw [d2] at k2
    have q4:aqO e = true:=by
     rw [aqO,zC,kw,kw]
     rw [ZR] at d1 d2
     exact ⟨fun x hx=>by simpa using d1 x hx,fun x hx=>by simpa using d2 x hx⟩
    have hc:J6 e = true:=by rw [J6,q1,q2,q3,q4];rfl
    rw [if_pos hc]
    clear hc
    (have zx:=za e5 lm1);exact zg
   ·rw [d2] at k2
    obtain ⟨x,hx,hx2⟩:=Ze.1 d2
    rw [no4 (by rw [aqO,Zo.2 ⟨x,hx,by simpa using hx2⟩,Zh])]
    (have zx:=za e5 lm1);exact zg
  ·rw [d1] at k1
   obtain ⟨x,hx,hx2⟩:=Ze.1 d1
   rw [no4 (by rw [aqO,Zo.2 ⟨x,hx,by simpa using hx2⟩,zY])]
   (have zx:=za e5 lm1);exact zg
 ·obtain ⟨hk',hget,hrr⟩:=Qk hd
  have hwk:=Qg (k:=k) (by omega)
  have e5:decide ((k:Int) < ((e.idents.length:Nat):Int)) = true:=by simp;omega
  have hm:=zq hget
  have hsh:=(z3 x.kalg x.kbits x.kid x.chain (sm.hx x hm).hl (sm.hx x hm).hc).b
  rcases hcb:Jz.ok x with _|_
  ·have hcc:aa4 x.kalg x.kbits x.kid x.chain = false:=hcb
   rw [hcc] at hsh
   rw [no3 (Zo.2 ⟨x,hm,by simp [hcb]⟩)]
   (have zx:=za e5 (za hwk (za lm1 hget)));exact zg
  ·have hcc:aa4 x.kalg x.kbits x.kid x.chain = true:=hcb
   rw [hcc] at hsh
   (have zx:=za e5 (za hwk (za lm1 hget)));refine zgo ?_;repeat' first|exact zt|apply zan|intro hc
   all_goals exact hL _ (k + 1) zet ⟨by omega,alF hget hinv hcb⟩ (by omega) zoe
def wA (d:Int):Bool:=decide (d < 0) || decide (d > 40000)
def YB:=qd Proofs.Tryz.f46 []
def XG (Γ:Env) (f:Nat):Prop:=∀ (d:Int),EvN Γ f [V.int d] (V.bool (wA d))
theorem yY {Γ:Env} {f:Nat} (h:Has Γ.P f 9 YB.1.1.ac YB.1.2) :XG Γ f:=by
 intro d
 refine Qa h zsi zcl zcl fun C hC hm=>?_
 subst hC
 simp only [YB,qd,DC.ac]
 rcases d1:decide (d < 0) with _|_
 ·have e:wA d = decide (d > 40000):=by rw [wA,d1,Z4]
  rw [e]
  (have zx:=d1);exact zg
 ·have e:wA d = true:=by rw [wA,d1,kZ]
  rw [e]
  (have zx:=d1);exact zg
def YA:=qd Proofs.Tryz.f48 []
def XF (Γ:Env) (f:Nat):Prop:=∀ (x:JM) (hn:x.ep.length < 2 ^ 60),EvN Γ f [x.v] (V.bool (!aiv x))
theorem yX {Γ:Env} {f:Nat} (h:Has Γ.P f 6 YA.1.1.ac YA.1.2) (z0:X9 Γ 49):XF Γ f:=by
 intro x hn
 refine Qa h zsi zcl zcl fun C hC hm=>?_
 subst hC
 simp only [YA,qd,DC.ac]
 have g:=(z0 x hn).b
 rw [ag1] at g
 rcases hk:aiv x with _|_
 ·rw [hk,if_neg (by decide)] at g
  have h26:((26:Int) != 0) = true:=rfl
  simp only [JM.v,JM.cells] at *
  (have zx:=h26);exact zg
 ·rw [hk,if_pos rfl] at g
  have h26:((0:Int) != 0) = false:=rfl
  simp only [JM.v,JM.cells] at *
  (have zx:=h26);exact zg
def ahI (l:List Qc) (gap age alg:Int) (xs:List JM) (days:List Int):Int:=if Wg l gap≠0 then Wg l gap else if (decide (age < 0) || (decide (age > 4000) || days.any wA)) = true then 2 else if (decide (alg < 1) || decide (alg > 22)) = true then 7 else if xs.any (fun x=>!aiv x) = true then 26 else 0
def Y5:=qd Proofs.Tryz.f27 []
def Wk (Γ:Env) (f:Nat):Prop:=∀ (l:List Qc) (gap day age alg:Int) (xs:List JM) (keys:List Int) (need:Int) (days:List Int) (hl:l.length < 2 ^ 40) (hz:∀ x∈l,x.Sz) (hx:xs.length < 2 ^ 62) (hxz:∀ x∈xs,x.Sz) (hdl:days.length < 2 ^ 62),EvN Γ f [.agg (srC gap day age alg xs keys need (.sl 11 (l.map Qc.v))),.sl 1 (days.map V.int)] (V.int (ahI l gap age alg xs days))
theorem wq {Γ:Env} {f:Nat} (h:Has Γ.P f 51 Y5.1.1.ac Y5.1.2) (z0:Xa Γ 44) (z1:Jq Γ 45) (z2:XG Γ 46) (z3:Qt Γ 47) (z4:XF Γ 48):Wk Γ f:=by
 intro l gap day age alg xs keys need days hl hz hx hxz hdl
 refine Qa h zsi zcl zcl fun C hC hm=>?_
 subst hC
 simp only [Y5,qd,DC.ac]
 have gE:=(z0 l gap hl hz).b
 have gD:=(z1 days 46 [] wA (fun d _=>z2 d) trivial hdl).b
 have gX:=(z3 xs 48 [] (fun x=>!aiv x) (fun x hm=>z4 x (hxz x hm).e) trivial hx).b
 rw [asr] at gE
 rw [ahI]
 simp only [srC] at *
 by_cases he:Wg l gap = 0
 rotate_left
 ·rw [if_neg he] at gE
  rw [if_pos he]
  have hb:(Wg l gap != 0) = true:=by simpa using he
  generalize Wg l gap = e at *
  (have zx:=hb);exact zg
 rw [if_pos he] at gE
 rw [if_neg (by simpa using he)]
 rcases d1:decide (age < 0) with _|_
 rotate_left
 ·rw [kZ,if_pos rfl]
  (have zx:=d1);exact zg
 rcases d2:decide (age > 4000) with _|_
 rotate_left
 ·rw [kZ,kY,if_pos rfl]
  (have zx:=za d1 d2);exact zg
 rcases d3:days.any wA with _|_
 rotate_left
 ·rw [d3] at gD
  rw [kY,kY,if_pos rfl]
  (have zx:=za d1 d2);exact zg
 rw [d3] at gD
 rw [if_neg (by decide)]
 rcases d4:decide (alg < 1) with _|_
 rotate_left
 ·rw [kZ,if_pos rfl]
  (have zx:=za d1 (za d2 d4));exact zg
 rcases d5:decide (alg > 22) with _|_
 rotate_left
 ·rw [kY,if_pos rfl]
  (have zx:=za d1 (za d2 (za d4 d5)));exact zg
 rw [if_neg (by decide)]
 rcases d6:xs.any (fun x=>!aiv x) with _|_
 ·rw [d6] at gX
  rw [if_neg (by decide)]
  (have zx:=za d1 (za d2 (za d4 d5)));exact zg
 ·rw [d6] at gX
  rw [if_pos rfl]
  (have zx:=za d1 (za d2 (za d4 d5)));exact zg
structure Cm {α:Type} (c:α→α→Int):Prop where
 neg:∀ a b,c b a = - c a b
 tr:∀ a b d,c a b≤0→c b d≤0→c a d≤0
 ze:∀ a b d,c a b≤0→c b d≤0→c a d = 0→c a b = 0
def Ye (Γ:Env) (f:Nat):Prop:=∀ (xs:List JF) (g:Nat) (c:JF→JF→Int) (hg:Own Γ.P g) (hcmp:∀ x y,EvN Γ.T g [JF.v x,JF.v y] (V.int (c x y))) (hc:Cm c) (hd:∀ a∈xs,∀ b∈xs,c a b = 0→a = b) (hx:xs.length < 2 ^ 40),EvL Γ f [.clo g []] 8 (xs.map JF.v) (.tup []) (((jj (fun x y=>decide (c x y < 0)) xs).map JF.v))
def Y6:=qd Proofs.Tryz.f88 []
def Wl (Γ:Env) (f:Nat):Prop:=Own Γ.P f∧∀ G:Env,G.P = Γ.P→∀ a b:Int×Bool,EvN G f [evV a,evV b] (V.int (yu a.1 b.1))
theorem ws {Γ:Env} {f:Nat} (h:Has Γ.P f 10 Y6.1.1.ac Y6.1.2) (z0:Yf Γ 89):Wl Γ f:=by
 refine ⟨h.own,fun G hG a b=>?_⟩
 have p:=z0 G hG a.1 b.1
 rw [← hG] at h
 refine Qa h (by simp) (by simp only [V.closed]) (by simp only [V.noSl]) fun C hC hm=>?_
 subst hC;simp only [Y6,qd,DC.ac]
 have p:=p.b
 simp only [evV]
 exact zg
def Jb:=qd Proofs.Tryz.f38 []
def JA (Γ:Env) (f:Nat):Prop:=∀ (xs:List (Int×Int)) (g:Nat) (cap:List V) (p:Int×Int→Bool) (hp:∀ x∈xs,EvN Γ g (QK x :: cap) (V.bool (p x))) (hcap:Qd cap) (hl:xs.length < 2 ^ 62),EvN Γ f [.sl 2 (xs.map QK),.clo g cap] (V.int (UX p 0 xs))
attribute [local go_sem] QK in
theorem W9 {Γ:Env} {f:Nat} (h:Has Γ.P f 19 Jb.1.1.ac Jb.1.2) :JA Γ f:=by
 intro xs g cap p hp hcap hl
 refine Qa h zsi zcl zcl fun C hC hm=>?_
 subst hC
 simp only [Jb,qd,DC.ac]
 have s1:∀ o,JD o cap = cap:=fun o=>QC o cap hcap
 have s2:∀ o B,Qp o B cap = True:=fun o B=>eq_true (Qq o B cap hcap)
 refine zgo ?_;repeat' first|exact zt|apply zan|intro hc
 refine Jg (ι:=Nat) (fun k=>k≤xs.length∧UX p k (xs.drop k) = UX p 0 xs) (fun k=>[(8,V.int k)]) (fun k=>xs.length - k) 0 (by omega) ⟨by simp,by simp⟩ zol (fun i hi=>by simp only [ovT,Yr,Nat.reduceEqDiff,reduceIte];(repeat' first|exact jT|refine Kn ?_ ?_|simp only [V.lt,ltL,and_self,and_true]|omega);exact JC _ _ hcap) (by simp only [Nat.reduceAdd,ovT,Yr,Nat.reduceEqDiff,reduceIte,Ui,qP,amQ,u32,u33,u34,u35,u36,u37,u38,u39,and_self,and_true,true_and];first|rfl|exact QL _ _ hcap) fun k hk K' hL=>?_
 obtain ⟨hk,hinv⟩:=hk
 simp only [ovT,Yr,Nat.reduceEqDiff,reduceIte]
 rcases hd:xs.drop k with _|⟨y,r⟩
 ·have:=Qr hd
  rw [hd] at hinv
  have e1:decide ((k:Int) < (((xs.map QK).length:Nat):Int)) = false:=by simp;omega
  (have zx:=e1);refine zgo ?_;repeat' first|exact zt|apply zan|intro hc
  refine Qi _ rfl ?_
  simp only [go_sem]
  rw [← hinv];rfl
 ·obtain ⟨hk,hget,hr⟩:=Qk hd
  rw [hd] at hinv
  have hw:=Qg (k:=k) (by omega)
  have e1:decide ((k:Int) < (((xs.map QK).length:Nat):Int)) = true:=by simp;omega
  have hpy:=hp y (zq hget)
  simp only [QK] at hpy
  obtain ⟨ya,yb⟩:=y
  by_cases hy:p (ya,yb) = true
  ·rw [hy] at hpy
   (have zy0:=hpy.b;have zx:=za hget (za hw (za e1 (za s1 s2))));refine zgo ?_;repeat' first|exact zt|apply zan|intro hc
   refine Qi _ rfl ?_;simp only [go_sem]
   rw [← hinv];simp [UX,hy]
  ·have hy':p (ya,yb) = false:=by simpa using hy
   rw [hy'] at hpy
   (have zy0:=hpy.b;have zx:=za hget (za hw (za e1 (za s1 s2))));refine zgo ?_;repeat' first|exact zt|apply zan|intro hc
   refine hL _ (k + 1) zet ⟨by omega,?_⟩ (by omega) zoe
   rw [hr,← hinv,UX,if_neg hy]
def QY:=qd Proofs.Tryz.f23 []
def QS (Γ:Env) (f:Nat):Prop:=∀ (xs:List (Int×Int)) (g:Nat) (cap:List V) (p:Int×Int→Bool) (hp:∀ x∈xs,EvN Γ g (QK x :: cap) (V.bool (p x))) (hcap:Qd cap) (hl:xs.length < 2 ^ 62),EvN Γ f [.sl 2 (xs.map QK),.clo g cap] (V.bool (xs.any p))
theorem Wa {Γ:Env} {f:Nat} (h:Has Γ.P f 9 QY.1.1.ac QY.1.2) (z0:JA Γ 38):QS Γ f:=by
 intro xs g cap p hp hcap hl
 refine Qa h zsi zcl zcl fun C hC hm=>?_
 subst hC
 simp only [QY,qd,DC.ac]
 have s1:∀ o,JD o cap = cap:=fun o=>QC o cap hcap
 have s2:∀ o B,Qp o B cap = True:=fun o B=>eq_true (Qq o B cap hcap)
 have hi:=(z0 xs g cap p hp hcap hl).b
 have e1:=jt p xs 0
 (have zx:=za s1 (za s2 e1));exact zg
def JH (Γ:Env) (f:Nat):Prop:=∀ (xs:List (Int×Bool)) (g:Nat) (c:Int×Bool→Int×Bool→Int) (hg:Own Γ.P g) (hcmp:∀ x y,EvN Γ.T g [evV x,evV y] (V.int (c x y))) (hc:Cm c) (hd:∀ a∈xs,∀ b∈xs,c a b = 0→a = b) (hx:xs.length < 2 ^ 40),EvL Γ f [.clo g []] 2 (xs.map evV) (.tup []) (((jj (fun x y=>decide (c x y < 0)) xs).map evV))
def Ua (Γ:Env) (f:Nat):Prop:=∀ (xs:List Int) (hx:xs.length < 2 ^ 40),EvL Γ f [] 1 (xs.map V.int) (.tup []) (((jj (fun x y:Int=>decide (x < y)) xs).map V.int))
section
variable {α:Type}
def aeN (eq:α→α→Bool):α→List α→List α
 | _,[]=>[]
 | p,x :: r=>if eq x p = true then aeN eq x r else x :: aeN eq x r
def aeO (eq:α→α→Bool):List α→List α
 | []=>[]
 | x :: r=>x :: aeN eq x r
end
def JY:=qd Proofs.Tryz.f160 [zhn 10,zhn 10]
def Yw (Γ:Env) (f:Nat):Prop:=∀ (xs:List Int) (hx:xs.length < 2 ^ 34),EvZ Γ f [] 1 (xs.map V.int) ((aeO (fun x y:Int ↦ x == y) xs).length) ((aeO (fun x y:Int ↦ x == y) xs).map V.int++List.replicate (xs.length - (aeO (fun x y:Int ↦ x == y) xs).length) (V.int 0))
theorem qL {Γ:Env} {f:Nat} (h:Has Γ.P f 61 JY.1.1.ac JY.1.2) :Yw Γ f:=by
 intro xs hx
 refine aj9 h (by simp) fun C hC hm=>?_
 subst hC
 simp only [JY,qd,DC.ac]
 have hlen:(xs.map V.int).length = xs.length:=zb _
 generalize heq:(fun x y:Int=>x == y) = eq
 have heq2:∀ x y:Int,(x == y) = eq x y:=fun x y=>by rw [← heq]
 by_cases h2:xs.length < 2
 ·have e1:decide (((xs.map V.int).length:Int) < 2) = true:=zv (by rw [hlen];omega)
  have hg:aeO eq xs = xs:=by
   match xs,h2 with
   | [],_=>rfl
   | [x],_=>rfl
  rw [hg,kX]
  repeat' (first|(refine zsk ?_;intro K' hK)|(refine zrg ?_;intro K' hK)|refine zsp ?_|(refine zsc ?_ ?_<;>intro hc<;>first|exact znh|try simp only [znz] at hc)|simp (maxSteps:=1000000) only [go_sem,e1]|(refine hK _ ?_;clear hK K')|apply zan|exact zsq|fail)
  all_goals first|(refine aom _ rfl rfl rfl ?_ ?_<;>first|rfl|(simp;done))
 ·have e1:decide (((xs.map V.int).length:Int) < 2) = false:=zp (by rw [hlen];omega)
  repeat' (first|(refine zsk ?_;intro K' hK)|(refine zrg ?_;intro K' hK)|refine zsp ?_|(refine zsc ?_ ?_<;>intro hc<;>first|exact znh|try simp only [znz] at hc)|simp (maxSteps:=1000000) only [go_sem,e1]|(refine hK _ ?_;clear hK K')|apply zan|exact zsq|fail)
  refine Jg (ι:=Nat) (fun k=>1≤k∧k≤xs.length∧∃ p,xs[k - 1]? = some p∧aeO eq xs = xs.take k++aeN eq p (xs.drop k)) (fun k=>[(3,V.int k)]) (fun k=>xs.length - k) 1 (by omega) ⟨by omega,by omega,?_⟩ zol zlt zet fun k hk K' hL=>?_
  ·match xs,h2 with
   | x :: r,_=>exact ⟨x,rfl,rfl⟩
   | [],h2=>exact absurd (by simp) h2
  obtain ⟨hk1,hk2,p,hp,hinv⟩:=hk
  simp only [ovT,Yr,Nat.reduceEqDiff,reduceIte]
  by_cases hke:k = xs.length
  ·have e2:decide ((k:Int) < ((xs.map V.int).length:Int)) = false:=zp (by rw [hlen];omega)
   have hg:aeO eq xs = xs:=by rw [hinv,hke,zN,List.drop_length];simp [aeN]
   rw [hg,kX]
   repeat' (first|(refine zsk ?_;intro K' hK)|(refine zrg ?_;intro K' hK)|refine zsp ?_|(refine zsc ?_ ?_<;>intro hc<;>first|exact znh|try simp only [znz] at hc)|simp (maxSteps:=1000000) only [go_sem,e2]|(refine hK _ ?_;clear hK K')|apply zan|exact zsq|fail)
   all_goals first|(refine aom _ rfl rfl rfl ?_ ?_<;>first|rfl|(simp;done))
  ·have e2:decide ((k:Int) < ((xs.map V.int).length:Int)) = true:=zv (by rw [hlen];omega)
   obtain ⟨y,hy⟩:∃ y,xs[k]? = some y:=⟨_,zd (by omega)⟩
   have hdy:xs.drop k = y :: xs.drop (k + 1):=by
    obtain ⟨h1,h2⟩:=zj.1 hy
    rw [kq h1,h2]
   rw [hdy,aeN] at hinv
   have hw:=Qg (k:=k) (by omega)
   have hwm:IntKind.i64.wrap ((k:Int) - 1) = ((k - 1:Nat):Int):=by rw [Q9 (by omega) (by omega)];omega
   have vy:(xs.map V.int)[k]? = some (V.int y):=by rw [zk,hy];rfl
   have vp:(xs.map V.int)[k - 1]? = some (V.int p):=by rw [zk,hp];rfl
   skip
   have hq:=heq2 y p
   have r1:((k:Int) < ((xs.map V.int).length:Int)) = True:=eq_true (by rw [hlen];omega)
   have r2:((k - 1:Nat):Int) < ((xs.map V.int).length:Int):=by rw [hlen];omega
   rcases hb:eq y p with _|_
   ·rw [hb] at hq
    simp only [hb,zD,if_false] at hinv
    repeat' (first|(refine zsk ?_;intro K' hK)|(refine zrg ?_;intro K' hK)|refine zsp ?_|(refine zsc ?_ ?_<;>intro hc<;>first|exact znh|try simp only [znz] at hc)|simp (maxSteps:=1000000) only [go_sem,e2,hw,hwm,Int.toNat_natCast,vy,vp,hq]|(refine hK _ ?_;clear hK K')|apply zan|exact zsq|fail)
    all_goals first
     | exact hL _ (k + 1) zet ⟨by omega,by omega,y,by rw [Nat.add_sub_cancel];exact hy,by rw [hinv,zJ,hy];simp⟩ (by omega) zoe
     | exact r2
   ·rw [hb] at hq
    simp only [hb,if_true] at hinv
    repeat' (first|(refine zsk ?_;intro K' hK)|(refine zrg ?_;intro K' hK)|refine zsp ?_|(refine zsc ?_ ?_<;>intro hc<;>first|exact znh|try simp only [znz] at hc)|simp (maxSteps:=1000000) only [go_sem,e2,hw,hwm,Int.toNat_natCast,vy,vp,hq]|(refine hK _ ?_;clear hK K')|apply zan|exact zsq|fail)
    all_goals first
     | exact r2
     | skip
    refine Qs (ι:=List Int×Nat×Nat) (fun q=>q.1.length = xs.length∧1≤q.2.2∧k + q.2.2≤xs.length∧k≤q.2.1∧q.2.1≤k + q.2.2 - 1∧q.1.drop (k + q.2.2 - 1) = xs.drop (k + q.2.2 - 1)∧∃ z,xs[k + q.2.2 - 1]? = some z∧aeO eq xs = q.1.take q.2.1++aeN eq z (xs.drop (k + q.2.2)))
     (fun q=>Yh [(0,.hd 0 0 (xs.map V.int).length),(3,V.int q.2.1),(4,.hd 0 k (xs.length - k)),(5,V.int q.2.2)] [(0,.buf true 1 (q.1.map V.int))] 1) (fun q=>xs.length - q.2.2) (xs,k,1)
     ⟨rfl,by simp only;omega,by simp only;omega,by simp only;omega,by simp only;omega,rfl,y,by simp only [Nat.add_sub_cancel];exact hy,by rw [hinv]⟩ (Qf []) (Qo [] (by simp only [go_sem,zwl];first|done|(simp only [zb];(repeat' (first|rfl|apply za|omega|exact fun h=>h|exact Exists.intro _ rfl)))|(repeat' (first|rfl|apply za|omega|exact fun h=>h|exact Exists.intro _ rfl))) zwa (by simp) (by simp) (by omega)) fun q hq K2 hL2=>?_
    obtain ⟨B,w,j⟩:=q
    obtain ⟨hB,hj1,hj2,hw1,hw2,hdr,z,hz,hinv2⟩:=hq
    dsimp only at hB hj1 hj2 hw1 hw2 hdr hz hinv2
    have hBl:(B.map V.int).length = xs.length:=by rw [zb,hB]
    have hwj:=Qg (k:=j) (by omega)
    have hww:=Qg (k:=w) (by omega)
    by_cases hje:k + j = xs.length
    ·have e3:decide ((j:Int) < ((xs.length - k:Nat):Int)) = false:=zp (by omega)
     have hg:aeO eq xs = B.take w:=by rw [hinv2,hje,List.drop_length];simp [aeN]
     have hgl:(aeO eq xs).length = w:=by rw [hg,zV,hB];omega
     have r3:((w:Int)≤((xs.map V.int).length:Int)) = True:=eq_true (by rw [hlen];omega)
     rw [hgl,hg]
     repeat' (first|(refine zsk ?_;intro K' hK)|(refine zrg ?_;intro K' hK)|refine zsp ?_|(refine zsc ?_ ?_<;>intro hc<;>first|exact znh|try simp only [znz] at hc)|simp (maxSteps:=1000000) only [go_sem,Yh,e3,Int.toNat_natCast]|(refine hK _ ?_;clear hK K')|apply zan|exact zsq|fail)
     all_goals first
      | (rw [hlen];omega)
      | (refine aom _ rfl rfl rfl ?_ ?_<;>first|rfl|(rw [List.drop_eq_nil_of_le (by rw [hBl,hlen];omega),zW,List.map_take,hlen];first|done|rfl)|(simp;done))
    ·have e3:decide ((j:Int) < ((xs.length - k:Nat):Int)) = true:=zv (by omega)
     obtain ⟨u,hu⟩:∃ u,xs[k + j]? = some u:=⟨_,zd (by omega)⟩
     have hdu:xs.drop (k + j) = u :: xs.drop (k + j + 1):=by
      obtain ⟨h1,h2⟩:=zj.1 hu
      rw [kq h1,h2]
     rw [hdu,aeN] at hinv2
     have bz:B[k + (j - 1)]? = some z:=by
      have:(B.drop (k + j - 1))[0]? = (xs.drop (k + j - 1))[0]?:=by rw [hdr]
      rw [Zi,Zi,Nat.add_zero,hz] at this
      rw [← this];congr 1;omega
     have bu:B[k + j]? = some u:=by
      have:(B.drop (k + j - 1))[1]? = (xs.drop (k + j - 1))[1]?:=by rw [hdr]
      rw [Zi,Zi,show k + j - 1 + 1 = k + j by omega,hu] at this
      exact this
     have vz:(B.map V.int)[k + (j - 1)]? = some (V.int z):=by rw [zk,bz];rfl
     have vu:(B.map V.int)[k + j]? = some (V.int u):=by rw [zk,bu];rfl
     have bw:∃ t,B[w]? = some t:=⟨_,zd (by omega)⟩
     obtain ⟨t,bw⟩:=bw
     have vt:(B.map V.int)[w]? = some (V.int t):=by rw [zk,bw];rfl
     have hset:(B.map V.int).set w (V.int u) = (B.set w u).map V.int:=Z6.symm
     have hwm2:IntKind.i64.wrap ((j:Int) - 1) = ((j - 1:Nat):Int):=by rw [Q9 (by omega) (by omega)];omega
     skip
     have hq:=heq2 u z
     have r4:(((w:Int)) < ((xs.map V.int).length:Int)) = True:=eq_true (by rw [hlen];omega)
     have r5:((j:Int) < ((xs.length - k:Nat):Int)) = True:=eq_true (by omega)
     have r6:((((j - 1:Nat):Int)) < ((xs.length - k:Nat):Int)) = True:=eq_true (by omega)
     rcases hb2:eq u z with _|_
     ·rw [hb2] at hq
      simp only [hb2,zD,if_false] at hinv2
      repeat' (first|(refine zsk ?_;intro K' hK)|(refine zrg ?_;intro K' hK)|refine zsp ?_|(refine zsc ?_ ?_<;>intro hc<;>first|exact znh|try simp only [znz] at hc)|simp (maxSteps:=1000000) only [go_sem,Yh,e3,hwj,hww,hwm2,Int.toNat_natCast,vz,vu,vt,hset,hq,r4,r5,r6,bne]|(refine hK _ ?_;clear hK K')|apply zan|exact zsq|fail)
      all_goals first
       | exact hL2 _ (B.set w u,w + 1,j + 1) (Qf []) ⟨by simp only [zF];exact hB,by simp only;omega,by simp only;omega,by simp only;omega,by simp only;omega,by
          simp only
          rw [List.drop_set_of_lt (by omega),show k + (j + 1) - 1 = (k + j - 1) + 1 by omega,← Zf,hdr,Zf],u,by simp only;rw [show k + (j + 1) - 1 = k + j by omega];exact hu,by
          simp only
          rw [hinv2,show k + (j + 1) = k + j + 1 by omega,zJ,List.getElem?_set_self (by omega),List.take_set_of_le (zm _)];simp⟩ (by simp only;omega) (zwg [])
       | (rw [hlen];omega)
     ·rw [hb2] at hq
      simp only [hb2,if_true] at hinv2
      repeat' (first|(refine zsk ?_;intro K' hK)|(refine zrg ?_;intro K' hK)|refine zsp ?_|(refine zsc ?_ ?_<;>intro hc<;>first|exact znh|try simp only [znz] at hc)|simp (maxSteps:=1000000) only [go_sem,Yh,e3,hwj,hww,hwm2,Int.toNat_natCast,vz,vu,vt,hset,hq,r4,r5,r6,bne]|(refine hK _ ?_;clear hK K')|apply zan|exact zsq|fail)
      all_goals first
       | exact hL2 _ (B,w,j + 1) (Qf []) ⟨hB,by simp only;omega,by simp only;omega,by simp only;omega,by simp only;omega,by
          simp only
          rw [show k + (j + 1) - 1 = (k + j - 1) + 1 by omega,← Zf,hdr,Zf],u,by simp only;rw [show k + (j + 1) - 1 = k + j by omega];exact hu,by simp only;rw [hinv2,show k + (j + 1) = k + j + 1 by omega]⟩ (by simp only;omega) (zwg [])
theorem aq0 {fs:List Nat} (h:fs.Pairwise (· < ·)):jj (fun x y:Int=>decide (x < y)) (fs.map fun n:Nat=>(n:Int)) = fs.map fun n:Nat=>(n:Int):=by
 have h1:=abe (lt:=fun x y:Int=>decide (x < y)) (fun x y z h h'=>by simp at *;omega) (fun x y h=>by simp at *;omega) (fs.map fun n:Nat=>(n:Int))
 refine Zr (le:=fun x y:Int=>x≤y) (fun a b _ _ h1 h2=>by omega) (h1.imp fun {a b} h=>?_) ?_ Wp
 ·simp at h;omega
 ·rw [List.pairwise_map];exact h.imp fun {a b} h=>by omega
theorem akG:∀ (r:List Nat) (p:Nat),(p :: r).Pairwise (· < ·)→aeN (fun x y:Int=>x == y) (p:Int) (r.map fun n:Nat=>(n:Int)) = r.map fun n:Nat=>(n:Int)
 | [],_,_=>rfl
 | x :: r,p,h=>by
   have h1:p < x:=(Zt.1 h).1 x kD
   have h2:=(Zt.1 h).2
   have e:((x:Int) == (p:Int)) = false:=by rw [Zb];omega
   rw [zy,aeN]
   simp only [e,zD,if_false]
   rw [akG r x h2]
theorem aqa {fs:List Nat} (h:fs.Pairwise (· < ·)):aeO (fun x y:Int=>x == y) (fs.map fun n:Nat=>(n:Int)) = fs.map fun n:Nat=>(n:Int):=by
 rcases fs with _|⟨p,r⟩
 ·rfl
 ·rw [zy,aeO,akG r p h]
theorem ano (fs:List Nat):(fs.map fun n:Nat=>(n:Int)).map V.int = Jc fs:=by
 rw [List.map_map];rfl
def Uv:=qd Proofs.Tryz.f113 [zhn 23]
def KX (Γ:Env) (f:Nat):Prop:=∀ (l:List Qc) (e:Jp) (ha:e.finds.Pairwise (· < ·)) (hb:∀ i∈e.finds,i < l.length) (hn:e.finds.length < 2 ^ 30),EvC Γ f [.sl 11 (l.map Qc.v),e.v] (.tup [.sl 1 (Jc e.finds),V.bool true])
attribute [local go_sem] zb in
theorem adO {Γ:Env} {f:Nat} (h:Has Γ.P f 35 Uv.1.1.ac Uv.1.2) (z0:YS Γ 159) (z1:Ua Γ 72) (z2:Yw Γ 160):KX Γ f:=by
 intro l e ha hb hn
 refine Ql h zsi (by simp only [V.closed,Qd,and_self]) fun C hC hm=>?_
 subst hC
 simp only [Uv,qd,DC.ac]
 obtain ⟨num,hosts,machs,fs⟩:=e
 dsimp only at ha hb hn
 simp only [Jp.v]
 have gC:=z0 (fs.map fun n:Nat=>(n:Int)) (by rw [zb];omega)
 have gS:=z1 (fs.map fun n:Nat=>(n:Int)) (by rw [zb];omega)
 have gZ:=z2 (fs.map fun n:Nat=>(n:Int)) (by rw [zb];omega)
 rw [aq0 ha] at gS
 rw [aqa ha] at gZ
 simp only [ano,zb,kX,List.replicate_zero,zW] at gC gS gZ
 have hl:(Jc fs).length = fs.length:=zb _
 have htk:List.take fs.length (Jc fs) = Jc fs:=zi (by omega)
 by_cases hf:fs = []
 ·subst hf
  have hp0:Jc [] = []:=rfl
  simp only [hp0,List.length_nil,List.take_nil] at *
  (have zx:=htk);exact zg
 ·have hpos:0 < fs.length:=kK.2 hf
  obtain ⟨p,hp0⟩:∃ p,fs[0]? = some p:=⟨_,zd hpos⟩
  obtain ⟨z,hz0⟩:∃ p,fs[fs.length - 1]? = some p:=⟨_,zd (by omega)⟩
  have hlt:=hb _ (zq hz0)
  have vl:(Jc fs)[fs.length - 1]? = some (V.int (z:Nat)):=by rw [Jc,zk,hz0];rfl
  have v0:(Jc fs)[0]? = some (V.int (p:Nat)):=by rw [Jc,zk,hp0];rfl
  have e0:((fs.length:Int) == 0) = false:=by rw [Zb];omega
  have e1:decide ((p:Int)≥0) = true:=zv (by omega)
  have e2:decide ((z:Int) < (l.length:Int)) = true:=zv (by omega)
  have hw:IntKind.i64.wrap ((fs.length:Int) - 1) = ((fs.length - 1:Nat):Int):=by rw [Q9 (by omega) (by omega)];omega
  (have zx:=za htk (za hl (za v0 (za vl (za e0 (za e1 (za e2 hw)))))));refine zgo ?_;repeat' first|exact zt|apply zan|intro hc
  all_goals first|(refine Qi _ rfl ?_;simp only [go_sem];rw [htk];done)|(refine Qi _ rfl ?_;simp only [go_sem];rw [htk];first|done|exact ⟨_,_,rfl⟩)
end Av
end
