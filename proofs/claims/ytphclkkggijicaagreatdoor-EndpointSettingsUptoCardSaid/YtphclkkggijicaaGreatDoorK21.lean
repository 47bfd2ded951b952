/- K21 -/
import Derived.Test.YtphclkkggijicaaGreatDoorK20
import Derived.Test.YtphclkkggijicaaGreatDoorK12
import Derived.KernelRfl
set_option linter.unusedVariables false
set_option linter.unusedSimpArgs false
noncomputable section
set_option maxRecDepth 10000
set_option maxHeartbeats 4000000
namespace Av
open Go
attribute [local irreducible] AWp Vo Ky jA awS awC aad awQ aaN QL Vq vQ awR Vz awB okR js ris
def XF:=qd Proofs.Tryz.f123 []
def Xg (Γ:Env) (f:Nat):Prop:=∀ (a b:Int),EvN Γ f [.agg [V.int a,V.int b]] (V.bool (afV a b 2))
theorem vu {Γ:Env} {f:Nat} (h:Has Γ.P f 11 XF.1.1.ac XF.1.2) (z0:V6 Γ 169) (z1:XW Γ 61):Xg Γ f:=by
 intro a b
 refine Qb h zsi zcl zcl fun C hC hm=>?_
 subst hC
 simp only [XF,qd,DC.ac]
 unfold afV
 rcases hq:decide (QG a b > 0) with _|_
 ·(have zx:=hq);refine zgo ?_;repeat' first|exact zt|apply zan|intro hc
  all_goals first|exact zr|(refine Qd _ rfl ?_;simp only [go_sem];simp [*];done)
 ·(have zx:=hq);refine zgo ?_;repeat' first|exact zt|apply zan|intro hc
  all_goals first|exact zr|(refine Qd _ rfl ?_;simp only [go_sem];simp [*];done)
def UR:=qd Proofs.Tryz.f124 [zhn 25]
def X9 (Γ:Env) (f:Nat):Prop:=∀ (c:Qi) (h1:c.issuer.length < 2 ^ 60) (h2:c.subject.length < 2 ^ 60) (h3:c.names.length < 2 ^ 60) (h4:∀ x∈c.names,x.length < 2 ^ 60),EvN Γ f [c.v] (V.int (if WI c = true then 0 else 9))
theorem adw {Γ:Env} {f:Nat} (h:Has Γ.P f 146 UR.1.1.ac UR.1.2) (z0:U1 Γ 73) (z1:Xg Γ 123) (z2:V6 Γ 169) (z3:XW Γ 61):X9 Γ f:=by
 intro c h1 h2 h3 h4
 refine Qb h zsi zcl zcl fun C hC hm=>?_
 subst hC
 simp only [UR,qd,DC.ac]
 have ha:=(z0 c.issuer h1).b
 have hb:=(z0 c.subject h2).b
 have nlen:c.names.length > 8→yC c.names = false:=fun h=>by simp [yC];intro _;omega
 have no1:afz c = true→(if WI c = true then (0:Int) else 9) = 9:=fun h=>by simp [WI,h]
 have no2:ahc c = true→(if WI c = true then (0:Int) else 9) = 9:=fun h=>by simp [WI,h]
 have no3:akz c = true→(if WI c = true then (0:Int) else 9) = 9:=fun h=>by simp [WI,h]
 have no4:ahb c = false→(if WI c = true then (0:Int) else 9) = 9:=fun h=>by simp [WI,h]
 have hlm:(c.names.map V.str).length = c.names.length:=zh _
 simp only [Qi.v,Qi.cells]
 (have zx:=hlm);refine zgo ?_;repeat' first|exact zt|apply zan|intro hc
 all_goals (try simp only [bne_eq_false_iff_eq,bne_iff_ne,ne_eq] at *)
 all_goals first|(rw [no1]<;>first|(have q:=nlen (by omega);simp [afz,q];done)|exact zr)|(rw [no1]<;>first|(simp [afz,yC, *];done)|exact zr)|(rw [no2]<;>first|(simp [ahc,wc,aqa, *];done)|exact zr)|(rw [no2]<;>first|(simp [ahc,afV, *];done)|exact zr)|(rw [no3]<;>first|(simp [akz, *];done)|exact zr)|(rw [no4]<;>first|(simp [ahb, *];done)|(simp [ahb];intros;omega)|exact zr)|skip
 all_goals
  have hu:afV c.halg c.hbits 1 = true:=by simp [afV, *]
  refine Qp (ι:=Nat) (fun k=>k≤c.names.length∧okP QJ Op.bytesLess c.names k = true) (fun k=>[(3,V.int k)]) (fun k=>c.names.length - k) 0 (by omega) ⟨zu _,rfl⟩ zol zlt zet fun k hk K' hL=>?_
  obtain ⟨hk,hinv⟩:=hk
  simp only [ovT,Je,Nat.reduceEqDiff,reduceIte]
  rcases hd:c.names.drop k with _|⟨x,r⟩
  ·have hkl:=Qj hd
   have e1:decide ((k:Int) < ((c.names.length:Nat):Int)) = false:=by simp;omega
   have hkk:k = c.names.length:=by omega
   subst hkk
   have hN:okP QJ Op.bytesLess c.names c.names.length = true:=hinv
   (have zx:=za e1 hlm);refine zgo ?_;repeat' first|exact zt|apply zan|intro hc
   all_goals (try simp only [bne_eq_false_iff_eq,bne_iff_ne,ne_eq] at *)
   all_goals first|(rw [no1]<;>first|(have q:=nlen (by omega);simp [afz,q];done)|exact zr)|(rw [no1]<;>first|(simp [afz,yC, *];done)|exact zr)|(rw [no2]<;>first|(simp [ahc,wc,aqa, *];done)|exact zr)|(rw [no2]<;>first|(simp [ahc,afV, *];done)|exact zr)|(rw [no3]<;>first|(simp [akz, *];done)|exact zr)|(rw [no4]<;>first|(simp [ahb, *];done)|(simp [ahb];intros;omega)|exact zr)|(refine Qd _ rfl ?_;simp only [go_sem];simp [WI,afz,ahc,akz,ahb,wc,aqa,yC, *];done)
  ·obtain ⟨hk',hget,hr⟩:=Qf hd
   have hw:=Qc (k:=k) (by omega)
   have e1:decide ((k:Int) < ((c.names.length:Nat):Int)) = true:=by simp;omega
   have hnx:=(z0 x (h4 x (zk hget))).b
   have hbad:okP QJ Op.bytesLess c.names (k + 1) = false→(if WI c = true then (0:Int) else 9) = 9:=fun h=>by
    have:yC c.names = false:=by rw [yC,wo h (by omega),zB]
    simp [WI,afz,this]
   rcases hx:QJ x with _|_
   ·have hb:okP QJ Op.bytesLess c.names (k + 1) = false:=by rw [VM,hget];simp [hx]
    rw [hbad hb]
    rw [hx] at hnx
    (have zx:=za e1 (za hw (za hlm hget)));exact zg
   ·rw [hx] at hnx
    rcases k with _|k
    ·have hw0:IntKind.i64.wrap 1 = ((1:Nat):Int):=by decide
     have hg1:okP QJ Op.bytesLess c.names (0 + 1) = true:=by rw [wm hget,hx]
     have e2:decide (((0:Nat):Int) > 0) = false:=rfl
     (have zx:=za e1 (za e2 (za hw (za hw0 (za hlm hget)))));refine zgo ?_;repeat' first|exact zt|apply zan|intro hc
     all_goals exact hL _ 1 zet ⟨by omega,hg1⟩ (by omega) zoe
    ·have e2:decide (((k + 1:Nat):Int) > 0) = true:=zl (by omega)
     have hw2:IntKind.i64.wrap (((k + 1:Nat):Int) - 1) = (k:Int):=by rw [Q9 (by omega) (by omega)];omega
     obtain ⟨y,hgy⟩:∃ y,c.names[k]? = some y:=⟨_,ze (by omega)⟩
     have hnext:=jE (p:=QJ) (q:=Op.bytesLess) hget hgy
     rw [hinv,hx] at hnext
     rcases hb:Op.bytesLess y x with _|_
     ·rw [hbad (by rw [hnext,hb];rfl)]
      (have zx:=za e1 (za e2 (za hw (za hw2 (za hlm (za hget (za hgy hb)))))));exact zg
     ·(have zx:=za e1 (za e2 (za hw (za hw2 (za hlm (za hget (za hgy hb)))))));refine zgo ?_;repeat' first|exact zt|apply zan|intro hc
      all_goals exact hL _ (k + 2) zet ⟨by omega,by rw [hnext,hb];rfl⟩ (by omega) zoe
structure Qi.Sm (c:Qi):Prop where
 h1:c.issuer.length < 2 ^ 60
 h2:c.subject.length < 2 ^ 60
 h3:c.names.length < 2 ^ 60
 h4:∀ x∈c.names,x.length < 2 ^ 60
def aie (a b id:Int) (l:List Qi):Bool:=match l with|[]=>true|c :: _=>((c.kalg == a && c.kbits == b) && (c.kid == id))
def X7 (a b id:Int) (l:List Qi):Bool:=afV a b 2 && (wc id && (decide ((l.length:Int)≤8) && (l.all WI && aie a b id l)))
theorem agd {a b id:Int} {l:List Qi} {c:Qi} (h:c∈l) (hc:WI c = false):X7 a b id l = false:=by
 have:l.all WI = false:=ko.2 ⟨c,h,by simp [hc]⟩
 simp [X7,this]
theorem vR {α:Type} {p:α→Bool} {l:List α} {k:Nat} {x:α} (h:l[k]? = some x) (hp:(l.take k).all p = true) (hx:p x = true):(l.take (k + 1)).all p = true:=by
 rw [zy,h,Zq,hp];simp [hx]
def Wh:=qd Proofs.Tryz.f51 [zhn 20]
def XX (Γ:Env) (f:Nat):Prop:=∀ (a b id:Int) (l:List Qi) (hl:l.length < 2 ^ 60) (hs:∀ c∈l,c.Sm),EvN Γ f [.agg [V.int a,V.int b],V.int id,.sl 15 (l.map Qi.v)] (V.bool (X7 a b id l))
attribute [local go_sem] List.getElem?_cons_zero zp Qi.cells Qi.v in
theorem aaB {Γ:Env} {f:Nat} (h:Has Γ.P f 57 Wh.1.1.ac Wh.1.2) (z0:Ws Γ 118) (z1:Xt Γ 119) (z2:JQ Γ 55) (z3:X5 Γ 120):XX Γ f:=by
 intro a b id l hl hs
 refine Qb h zsi zcl zcl fun C hC hm=>?_
 subst hC
 simp only [Wh,qd,DC.ac]
 have hlm:(l.map Qi.v).length = l.length:=zh _
 have no0:afV a b 2 = false→X7 a b id l = false:=fun h=>by simp [X7,h]
 have no1:wc id = false→X7 a b id l = false:=fun h=>by simp [X7,h]
 have no2:l.length > 8→X7 a b id l = false:=fun h=>by
  have:decide ((l.length:Int)≤8) = false:=by simp;omega
  simp [X7,this]
 rcases hu:afV a b 2 with _|_
 ·rw [no0 hu]
  unfold afV at hu
  rcases hq:decide (QG a b > 0) with _|_
  ·(have zx:=hq);exact zg
  ·rw [hq,zA] at hu
   have hu2:((J5 a).kind != 2) = true:=by simpa using hu
   (have zx:=za hq hu2);exact zg
 have hq:decide (QG a b > 0) = true:=by unfold afV at hu;simp at hu;simpa using hu.1
 have hu2:((J5 a).kind != 2) = false:=by unfold afV at hu;simp at hu;simpa using hu.2
 have hk:=(z2 id).b
 rcases hk1:wc id with _|_
 ·rw [no1 hk1]
  rw [hk1] at hk
  (have zx:=za hq hu2);exact zg
 rw [hk1] at hk
 by_cases h8:l.length > 8
 ·have e8:decide ((l.length:Int) > 8) = true:=by simp;omega
  rw [no2 h8]
  (have zx:=za hq (za hu2 (za hlm e8)));exact zg
 have e8:decide ((l.length:Int) > 8) = false:=by simp;omega
 have e8':decide ((l.length:Int)≤8) = true:=by simp;omega
 (have zx:=za hq (za hu2 (za hlm e8)));refine zgo ?_;repeat' first|exact zt|apply zan|intro hc
 refine Qp (ι:=Nat) (fun k=>k≤l.length∧(l.take k).all WI = true) (fun k=>[(30,V.int k)]) (fun k=>l.length - k) 0 (by omega) ⟨zu _,rfl⟩ zol zlt zet fun k hk K' hL=>?_
 obtain ⟨hk,hinv⟩:=hk
 simp only [ovT,Je,Nat.reduceEqDiff,reduceIte]
 rcases hd:l.drop k with _|⟨c,r⟩
 ·have hkl:=Qj hd
  have e1:decide ((k:Int) < ((l.length:Nat):Int)) = false:=by simp;omega
  have hall:l.all WI = true:=by rwa [zb hkl] at hinv
  have hfin:X7 a b id l = aie a b id l:=by rw [X7,hu,hk1,e8',hall];rfl
  rw [hfin]
  clear hfin
  rcases l with _|⟨c,r⟩
  ·rw [show aie a b id [] = true from rfl]
   (have zx:=za e1 hlm);exact zg
  ·have e9:((((c :: r).length:Nat):Int) == 0) = false:=by simp;omega
   have e1b:decide ((k:Int) < ((r.length + 1:Nat):Int)) = false:=e1
   have e9b:(((r.length + 1:Nat):Int) == 0) = false:=e9
   rw [aie]
   (have zx:=za e1 (za e1b (za hlm (za e9 e9b))));refine zgo ?_;repeat' first|exact zt|apply zan|intro hc
   all_goals first|exact zr|(refine Qd _ rfl ?_;simp only [go_sem];simp [*];done)
 ·obtain ⟨hk',hget,hr⟩:=Qf hd
  have hw:=Qc (k:=k) (by omega)
  have e1:decide ((k:Int) < ((l.length:Nat):Int)) = true:=by simp;omega
  have hm:=zk hget
  have sm:=hs c hm
  have hce:=(z3 c sm.h1 sm.h2 sm.h3 sm.h4).b
  simp only [Qi.v,Qi.cells] at hce
  rcases hcb:WI c with _|_
  ·rw [agd hm hcb]
   rw [hcb,if_neg (by decide)] at hce
   (have zx:=za e1 (za hw (za hlm hget)));exact zg
  ·rw [hcb,if_pos rfl] at hce
   (have zx:=za e1 (za hw (za hlm hget)));refine zgo ?_;repeat' first|exact zt|apply zan|intro hc
   all_goals exact hL _ (k + 1) zet ⟨by omega,vR hget hinv hcb⟩ (by omega) zoe
def UP:=qd Proofs.Tryz.f60 [zhn 20]
def V5 (Γ:Env) (f:Nat):Prop:=∀ (a b id:Int) (l:List Qi) (hl:l.length < 2 ^ 60) (hs:∀ c∈l,c.Sm),EvN Γ f [.agg [V.int a,V.int b],V.int id,.sl 15 (l.map Qi.v)] (V.bool (X7 a b id l))
attribute [local go_sem] List.getElem?_cons_zero List.length_cons zh zp Qi.cells Qi.v in
theorem adu {Γ:Env} {f:Nat} (h:Has Γ.P f 55 UP.1.1.ac UP.1.2) (z0:Xg Γ 123) (z1:X9 Γ 124):V5 Γ f:=by
 intro a b id l hl hs
 refine Qb h zsi zcl zcl fun C hC hm=>?_
 subst hC
 simp only [UP,qd,DC.ac]
 have hlm:(l.map Qi.v).length = l.length:=zh _
 have no0:afV a b 2 = false→X7 a b id l = false:=fun h=>by simp [X7,h]
 have no1:wc id = false→X7 a b id l = false:=fun h=>by simp [X7,h]
 have no2:l.length > 8→X7 a b id l = false:=fun h=>by
  have:decide ((l.length:Int)≤8) = false:=by simp;omega
  simp [X7,this]
 have hsi:=(z0 a b).b
 rcases hu:afV a b 2 with _|_
 ·rw [no0 hu]
  rw [hu] at hsi
  exact zg
 rw [hu] at hsi
 by_cases k1:id < 0
 ·have e1:decide (id < 0) = true:=zl k1
  rw [no1 (by unfold wc;rw [zm (by omega)];rfl)]
  (have zx:=e1);exact zg
 have e1:decide (id < 0) = false:=zm k1
 by_cases k2:id > 2147483648
 ·have e2:decide (id > 2147483648) = true:=zl k2
  rw [no1 (by unfold wc;rw [zm (by omega:¬ id≤2147483648),zG])]
  (have zx:=za e1 e2);exact zg
 have e2:decide (id > 2147483648) = false:=zm k2
 have hk1:wc id = true:=by unfold wc;rw [zl (by omega:id≥0),zl (by omega:id≤2147483648)];rfl
 by_cases h8:l.length > 8
 ·have e8:decide ((l.length:Int) > 8) = true:=by simp;omega
  rw [no2 h8]
  (have zx:=za e1 (za e2 (za hlm e8)));exact zg
 have e8:decide ((l.length:Int) > 8) = false:=by simp;omega
 have e8':decide ((l.length:Int)≤8) = true:=by simp;omega
 (have zx:=za e1 (za e2 (za hlm e8)));refine zgo ?_;repeat' first|exact zt|apply zan|intro hc
 refine Qp (ι:=Nat) (fun k=>k≤l.length∧(l.take k).all WI = true) (fun k=>[(7,V.int k)]) (fun k=>l.length - k) 0 (by omega) ⟨zu _,rfl⟩ zol zlt zet fun k hk K' hL=>?_
 obtain ⟨hk,hinv⟩:=hk
 simp only [ovT,Je,Nat.reduceEqDiff,reduceIte]
 rcases hd:l.drop k with _|⟨c,r⟩
 ·have hkl:=Qj hd
  have e4:decide ((k:Int) < ((l.length:Nat):Int)) = false:=by simp;omega
  have hall:l.all WI = true:=by rwa [zb hkl] at hinv
  have hfin:X7 a b id l = aie a b id l:=by rw [X7,hu,hk1,e8',hall];rfl
  rw [hfin]
  clear hfin
  rcases l with _|⟨c,r⟩
  ·rw [show aie a b id [] = true from rfl]
   (have zx:=za e4 hlm);exact zg
  ·have e9:((((c :: r).length:Nat):Int) == 0) = false:=by simp;omega
   have e4b:decide ((k:Int) < ((r.length + 1:Nat):Int)) = false:=e4
   have e9b:(((r.length + 1:Nat):Int) == 0) = false:=e9
   rw [aie]
   (have zx:=za e4 (za e4b (za hlm (za e9 e9b))));refine zgo ?_;repeat' first|exact zt|apply zan|intro hc
   all_goals first|exact zr|(refine Qd _ rfl ?_;simp only [go_sem];simp [*];done)
 ·obtain ⟨hk',hget,hr⟩:=Qf hd
  have hw:=Qc (k:=k) (by omega)
  have e4:decide ((k:Int) < ((l.length:Nat):Int)) = true:=by simp;omega
  have hm:=zk hget
  have sm:=hs c hm
  have hce:=(z1 c sm.h1 sm.h2 sm.h3 sm.h4).b
  simp only [Qi.v,Qi.cells] at hce
  rcases hcb:WI c with _|_
  ·rw [agd hm hcb]
   rw [hcb,if_neg (by decide)] at hce
   (have zx:=za e4 (za hw (za hlm hget)));exact zg
  ·rw [hcb,if_pos rfl] at hce
   (have zx:=za e4 (za hw (za hlm hget)));refine zgo ?_;repeat' first|exact zt|apply zan|intro hc
   all_goals exact hL _ (k + 1) zet ⟨by omega,vR hget hinv hcb⟩ (by omega) zoe
def amY (s:List UInt8):Bool:=aaK s && (decide (Xo s≥1) && decide (Xo s≤4))
theorem acq {α:Type} (p:α→Bool):∀ (xs:List α) (k:Nat),decide (KA p k xs≥0) = xs.any p
 | [],k=>by simp [KA]
 | x :: r,k=>by
   have ih:=acq p r (k + 1)
   rw [KA,List.any_cons]
   by_cases h:p x = true
   ·rw [if_pos h,h];simp
   ·have h2:p x = false:=by simpa using h
    rw [if_neg h,h2,ih];rfl
structure JU where
 sec:List UInt8
 name:List UInt8
 val:List UInt8
 line:Int
def JU.cells (x:JU):List V:=[V.str x.sec,V.str x.name,V.str x.val,V.int x.line]
def JU.v (x:JU):V:=.agg x.cells
def ao4 (s:List UInt8):Bool:=s == [107,101,121,115] || (s == [97,110,99,104,111,114,115] || s == [104,97,115,104,101,115])
def Y7:=qd Proofs.Tryz.f108 []
def Wz (Γ:Env) (f:Nat):Prop:=∀ (s:List UInt8),EvN Γ f [V.str s] (V.bool (ao4 s))
theorem wA {Γ:Env} {f:Nat} (h:Has Γ.P f 13 Y7.1.1.ac Y7.1.2) :Wz Γ f:=by
 intro s
 refine Qb h zsi zcl zcl fun C hC hm=>?_
 subst hC
 simp only [Y7,qd,DC.ac]
 have e:ao4 s = (s == [107,101,121,115] || (s == [97,110,99,104,111,114,115] || s == [104,97,115,104,101,115])):=rfl
 rw [e]
 rcases h1:s == [107,101,121,115] with _|_<;>rcases h2:s == [97,110,99,104,111,114,115] with _|_
 all_goals
  (have zx:=za h1 h2);exact zg
def JD:=qd Proofs.Tryz.f38 []
def Yg (Γ:Env) (f:Nat):Prop:=∀ (y x:JU),EvN Γ f [y.v,.ro x.cells 0] (V.bool (y.name == x.name))
theorem KH {Γ:Env} {f:Nat} (h:Has Γ.P f 9 JD.1.1.ac JD.1.2) :Yg Γ f:=by
 intro y x
 refine Qb h zsi zcl zcl fun C hC hm=>?_
 subst hC
 simp only [JD,qd,DC.ac]
 simp only [JU.v,JU.cells]
 exact zg
def Qx:=qd Proofs.Tryz.f107 []
def QN (Γ:Env) (f:Nat):Prop:=∀ (xs:List JU) (g:Nat) (cap:List V) (p:JU→Bool) (hp:∀ x∈xs,EvN Γ g (JU.v x :: cap) (V.bool (p x))) (hcap:Qa cap) (hl:xs.length < 2 ^ 62),EvN Γ f [.sl 4 (xs.map JU.v),.clo g cap] (V.int (KA p 0 xs))
attribute [local go_sem] JU.cells JU.v in
theorem YC {Γ:Env} {f:Nat} (h:Has Γ.P f 19 Qx.1.1.ac Qx.1.2) :QN Γ f:=by
 intro xs g cap p hp hcap hl
 refine Qb h zsi zcl zcl fun C hC hm=>?_
 subst hC
 simp only [Qx,qd,DC.ac]
 have s1:∀ o,JI o cap = cap:=fun o=>J1 o cap hcap
 have s2:∀ o B,Qu o B cap = True:=fun o B=>eq_true (Jk o B cap hcap)
 refine zgo ?_;repeat' first|exact zt|apply zan|intro hc
 refine Qp (ι:=Nat) (fun k=>k≤xs.length∧KA p k (xs.drop k) = KA p 0 xs) (fun k=>[(8,V.int k)]) (fun k=>xs.length - k) 0 (by omega) ⟨by simp,by simp⟩ zol (fun i hi=>by simp only [ovT,Je,Nat.reduceEqDiff,reduceIte];(repeat' first|exact aar|refine xG ?_ ?_|simp only [V.lt,ltL,and_self,and_true]|omega);exact Xy _ _ hcap) (by simp only [Nat.reduceAdd,ovT,Je,Nat.reduceEqDiff,reduceIte,Xv,Vx,aiQ,u32,u33,u34,u35,u36,u37,u38,u39,and_self,and_true,true_and];first|rfl|exact QU _ _ hcap) fun k hk K' hL=>?_
 obtain ⟨hk,hinv⟩:=hk
 simp only [ovT,Je,Nat.reduceEqDiff,reduceIte]
 rcases hd:xs.drop k with _|⟨y,r⟩
 ·have:=Qj hd
  rw [hd] at hinv
  have e1:decide ((k:Int) < (((xs.map JU.v).length:Nat):Int)) = false:=by simp;omega
  (have zx:=e1);refine zgo ?_;repeat' first|exact zt|apply zan|intro hc
  refine Qd _ rfl ?_
  simp only [go_sem]
  rw [← hinv];rfl
 ·obtain ⟨hk,hget,hr⟩:=Qf hd
  rw [hd] at hinv
  have hw:=Qc (k:=k) (by omega)
  have e1:decide ((k:Int) < (((xs.map JU.v).length:Nat):Int)) = true:=by simp;omega
  have hpy:=hp y (zk hget)
  by_cases hy:p y = true
  ·rw [hy] at hpy
   (have zy0:=hpy.b;have zx:=za hget (za hw (za e1 (za s1 s2))));refine zgo ?_;repeat' first|exact zt|apply zan|intro hc
   refine Qd _ rfl ?_;simp only [go_sem]
   rw [← hinv];simp [KA,hy]
  ·have hy':p y = false:=by simpa using hy
   rw [hy'] at hpy
   (have zy0:=hpy.b;have zx:=za hget (za hw (za e1 (za s1 s2))));refine zgo ?_;repeat' first|exact zt|apply zan|intro hc
   refine hL _ (k + 1) zet ⟨by omega,?_⟩ (by omega) zoe
   rw [hr,← hinv,KA,if_neg hy]
def Qv:=qd Proofs.Tryz.f39 []
def QH (Γ:Env) (f:Nat):Prop:=∀ (xs:List JU) (g:Nat) (cap:List V) (p:JU→Bool) (hp:∀ x∈xs,EvN Γ g (JU.v x :: cap) (V.bool (p x))) (hcap:Qa cap) (hl:xs.length < 2 ^ 62),EvN Γ f [.sl 4 (xs.map JU.v),.clo g cap] (V.bool (xs.any p))
theorem Yi {Γ:Env} {f:Nat} (h:Has Γ.P f 9 Qv.1.1.ac Qv.1.2) (z0:QN Γ 107):QH Γ f:=by
 intro xs g cap p hp hcap hl
 refine Qb h zsi zcl zcl fun C hC hm=>?_
 subst hC
 simp only [Qv,qd,DC.ac]
 have s1:∀ o,JI o cap = cap:=fun o=>J1 o cap hcap
 have s2:∀ o B,Qu o B cap = True:=fun o B=>eq_true (Jk o B cap hcap)
 have hi:=(z0 xs g cap p hp hcap hl).b
 have e1:=acq p xs 0
 (have zx:=za s1 (za s2 e1));exact zg
structure Qy where
 kalg:Int
 kbits:Int
 kid:Int
 chain:List Qi
def Qy.cells (x:Qy):List V:=[V.int x.kalg,V.int x.kbits,V.int x.kid,.sl 15 (x.chain.map Qi.v)]
def Qy.v (x:Qy):V:=.agg x.cells
structure Qy.Sm (x:Qy):Prop where
 hl:x.chain.length < 2 ^ 60
 hc:∀ c∈x.chain,c.Sm
structure QI where
 name:List UInt8
 least:Int
 most:Int
 suites:List Int
 own:Bool
 idents:List Qy
 anchors:List Int
 hashes:List Int
 fall:Bool
def QI.cells (e:QI):List V:=[V.str e.name,V.int e.least,V.int e.most,.sl 1 (e.suites.map V.int),V.bool e.own,.sl 4 (e.idents.map Qy.v),.sl 1 (e.anchors.map V.int),.sl 1 (e.hashes.map V.int),V.bool e.fall]
def QI.v (e:QI):V:=.agg e.cells
structure QI.Sm (e:QI):Prop where
 hn:e.name.length < 2 ^ 30
 hs:e.suites.length < 2 ^ 30
 hi:e.idents.length < 2 ^ 30
 hx:∀ x∈e.idents,x.Sm
 ha:e.anchors.length < 2 ^ 30
 hh:e.hashes.length < 2 ^ 30
def ltI (a b:Int):Bool:=decide (a < b)
def yes {α:Type} (_:α):Bool:=true
def Xl (l:List Int):Bool:=(!l.any ajv) && decide l.Nodup
def amJ (l:List Int):Bool:=okP yes ltI l l.length
def Un (n:Int):Bool:=(J5 n).kind == 1
def Qy.ok (x:Qy):Bool:=X7 x.kalg x.kbits x.kid x.chain
def akS (e:QI):Bool:=jb e.name && (decide (e.least≥1) && (decide (e.least≤e.most) && (decide (e.most≤4) && Xl e.suites)))
def ait (e:QI):Bool:=decide ((e.idents.length:Int)≤4) && (decide ((e.anchors.length:Int)≤16) && (amJ e.anchors && amJ e.hashes))
def aqP (e:QI):Bool:=e.idents.all Qy.ok
def akR (e:QI):Bool:=e.anchors.all wc && e.hashes.all Un
def JT (e:QI):Bool:=akS e && (ait e && (aqP e && akR e))
theorem ab1 {l:List Int} {x:Int} (h:x∈l) (hx:ajv x = true):Xl l = false:=by
 have:l.any ajv = true:=kN.2 ⟨x,h,hx⟩
 simp [Xl,this]
theorem w9 {l:List Int} (h:¬ l.Nodup):Xl l = false:=by simp [Xl,h]
def XN:=qd Proofs.Tryz.f49 []
def Vi (Γ:Env) (f:Nat):Prop:=∀ (l:List Int) (hl:l.length < 2 ^ 30),EvN Γ f [.sl 1 (l.map V.int)] (V.bool (Xl l))
theorem vC {Γ:Env} {f:Nat} (h:Has Γ.P f 29 XN.1.1.ac XN.1.2) (z0:Wt Γ 116) (z1:Qt Γ 117):Vi Γ f:=by
 intro l hl
 refine Qb h zsi zcl zcl fun C hC hm=>?_
 subst hC
 simp only [XN,qd,DC.ac]
 refine zgo ?_;repeat' first|exact zt|apply zan|intro hc
 refine Qp (ι:=Nat) (fun k=>k≤l.length∧(l.take k).any ajv = false∧(l.take k).Nodup) (fun k=>[(9,V.int k)]) (fun k=>l.length - k) 0 (by omega) ⟨zu _,rfl,zT⟩ zol zlt zet fun k hk K' hL=>?_
 obtain ⟨hk,hg,hnd⟩:=hk
 simp only [ovT,Je,Nat.reduceEqDiff,reduceIte]
 rcases hd:l.drop k with _|⟨x,r⟩
 ·have hkl:=Qj hd
  have e1:decide ((k:Int) < (((l.map V.int).length:Nat):Int)) = false:=by simp;omega
  rw [zb hkl] at hg hnd
  have hf:Xl l = true:=by simp [Xl,hg,hnd]
  rw [hf]
  (have zx:=e1);exact zg
 ·obtain ⟨hk',hget,hr⟩:=Qf hd
  have hw:=Qc (k:=k) (by omega)
  have e1:decide ((k:Int) < (((l.map V.int).length:Nat):Int)) = true:=by simp;omega
  have hsu:=(z0 x).b
  have hA:List.take (k - 0) (l.map V.int) = (l.take k).map V.int:=by rw [Nat.sub_zero,List.map_take]
  have hc1:=(z1 (l.take k) x (by rw [zJ];omega)).b
  have hfi:=Kc x (l.take k) 0
  by_cases hx:1≤x∧x≤16
  ·have hsv:Yq x = .tup [(YK x).v,V.int 0]:=by rw [Yq,if_pos hx]
   rw [hsv] at hsu
   simp only [Qm.v,Qm.cells] at hsu
   by_cases hin:x∈l.take k
   ·rw [zl (hfi.2 hin)] at hc1
    rw [w9 fun h=>aa2 h hget hin]
    (have zx:=za e1 (za hw (za hget hA)));exact zg
   ·rw [zm (fun h=>hin (hfi.1 h))] at hc1
    have hg2:(l.take (k + 1)).any ajv = false:=by
     rw [zy,hget,List.any_append,hg];simp [ajv];omega
    have hnd2:(l.take (k + 1)).Nodup:=by
     rw [zy,hget]
     exact kj.2 ⟨hnd,by simp,fun a ha b hb e=>by simp at hb;subst hb;subst e;exact hin ha⟩
    (have zx:=za e1 (za hw (za hget hA)));refine zgo ?_;repeat' first|exact zt|apply zan|intro hc
    all_goals exact hL _ (k + 1) zet ⟨by omega,hg2,hnd2⟩ (by omega) zoe
  ·have hbx:ajv x = true:=by simp [ajv];omega
   rw [ab1 (zk hget) hbx]
   have hsv:Yq x = .tup [yW.v,V.int 8]:=by rw [Yq,if_neg hx,YK,if_neg hx]
   rw [hsv] at hsu
   simp only [Qm.v,Qm.cells,yW] at hsu
   (have zx:=za e1 (za hw (za hget hA)));exact zg
def Y9:=qd Proofs.Tryz.f50 [zhn 14]
def WA (Γ:Env) (f:Nat):Prop:=∀ (l:List Int) (hl:l.length < 2 ^ 30),EvN Γ f [.sl 1 (l.map V.int)] (V.bool (amJ l))
theorem wC {Γ:Env} {f:Nat} (h:Has Γ.P f 24 Y9.1.1.ac Y9.1.2) :WA Γ f:=by
 intro l hl
 refine Qb h zsi zcl zcl fun C hC hm=>?_
 subst hC
 simp only [Y9,qd,DC.ac]
 have hlm:(l.map V.int).length = l.length:=zh _
 (have zx:=hlm);refine zgo ?_;repeat' first|exact zt|apply zan|intro hc
 refine Qp (ι:=Nat) (fun k=>k≤l.length∧okP yes ltI l k = true) (fun k=>[(6,V.int k)]) (fun k=>l.length - k) 0 (by omega) ⟨zu _,rfl⟩ zol zlt zet fun k hk K' hL=>?_
 obtain ⟨hk,hinv⟩:=hk
 simp only [ovT,Je,Nat.reduceEqDiff,reduceIte]
 rcases hd:l.drop k with _|⟨x,r⟩
 ·have hkl:=Qj hd
  have e1:decide ((k:Int) < ((l.length:Nat):Int)) = false:=by simp;omega
  have hkk:k = l.length:=by omega
  subst hkk
  rw [show amJ l = true from hinv]
  (have zx:=e1);exact zg
 ·obtain ⟨hk',hget,hr⟩:=Qf hd
  have hw:=Qc (k:=k) (by omega)
  have e1:decide ((k:Int) < ((l.length:Nat):Int)) = true:=by simp;omega
  rcases k with _|k
  ·have hw0:IntKind.i64.wrap 1 = ((1:Nat):Int):=by decide
   have hg1:okP yes ltI l (0 + 1) = true:=by rw [wm hget];rfl
   have e2:decide (((0:Nat):Int) > 0) = false:=rfl
   (have zx:=za e1 (za e2 (za hw (za hw0 hget))));refine zgo ?_;repeat' first|exact zt|apply zan|intro hc
   all_goals exact hL _ 1 zet ⟨by omega,hg1⟩ (by omega) zoe
  ·have e2:decide (((k + 1:Nat):Int) > 0) = true:=zl (by omega)
   have hw2:IntKind.i64.wrap (((k + 1:Nat):Int) - 1) = (k:Int):=by rw [Q9 (by omega) (by omega)];omega
   obtain ⟨y,hgy⟩:∃ y,l[k]? = some y:=⟨_,ze (by omega)⟩
   have hnext:=jE (p:=yes) (q:=ltI) hget hgy
   rw [hinv] at hnext
   by_cases hb:y < x
   ·have e3:decide (y≥x) = false:=zm (by omega)
    (have zx:=za e1 (za e2 (za e3 (za hw (za hw2 (za hget hgy))))));refine zgo ?_;repeat' first|exact zt|apply zan|intro hc
    all_goals exact hL _ (k + 2) zet ⟨by omega,by rw [hnext];simp [yes,ltI,hb]⟩ (by omega) zoe
   ·have e3:decide (y≥x) = true:=zl (by omega)
    have hf:amJ l = false:=wo (k:=k + 2) (by rw [hnext];simp [ltI,hb]) (by omega)
    rw [hf]
    (have zx:=za e1 (za e2 (za e3 (za hw (za hw2 (za hget hgy))))));exact zg
def WU:=qd Proofs.Tryz.f56 []
def Wr (Γ:Env) (f:Nat):Prop:=∀ (n:Int),EvN Γ f [V.int n] (V.bool (Un n))
theorem abF {Γ:Env} {f:Nat} (h:Has Γ.P f 6 WU.1.1.ac WU.1.2) (z0:Xt Γ 119):Wr Γ f:=by
 intro n
 refine Qb h zsi zcl zcl fun C hC hm=>?_
 subst hC
 simp only [WU,qd,DC.ac]
 unfold Un
 exact zg
def Yy:=qd Proofs.Tryz.f53 []
def Ym (Γ:Env) (f:Nat):Prop:=∀ (k:Nat) (p:Int→Bool) (x:Int) (hp:EvN Γ k [V.int x] (V.bool (p x))),EvN Γ f [V.int x,.ro [.clo (.n k) []] 0] (V.bool (!p x))
theorem y9 {Γ:Env} {f:Nat} (h:Has Γ.P f 8 Yy.1.1.ac Yy.1.2) :Ym Γ f:=by
 intro k p x hp
 refine Qb h zsi zcl zcl fun C hC hm=>?_
 subst hC
 simp only [Yy,qd,DC.ac]
 have hq:=hp.b
 exact zg
def Xa:=qd Proofs.Tryz.f52 []
def WB (Γ:Env) (f:Nat):Prop:=(∃ g:Nat,Ym Γ g∧∀ k:Nat,EvC Γ f [.clo (.n k) []] (.clo (.n g) [.ro [.clo (.n k) []] 0]))
theorem wD {Γ:Env} {f:Nat} (h:Has Γ.P f 4 Xa.1.1.ac Xa.1.2) (z0:Ym Γ 53):WB Γ f:=by
 refine ⟨53,z0,fun k=>?_⟩
 refine Qn h (by simp) (by simp only [V.closed,Qa,and_self]) fun C hC hm=>?_
 subst hC
 simp only [Xa,qd,DC.ac]
 exact zg
def Jg:=qd Proofs.Tryz.f121 []
def JS (Γ:Env) (f:Nat):Prop:=∀ (xs:List Int) (g:Nat) (cap:List V) (p:Int→Bool) (hp:∀ x∈xs,EvN Γ g (V.int x :: cap) (V.bool (p x))) (hcap:Qa cap) (hl:xs.length < 2 ^ 62),EvN Γ f [.sl 1 (xs.map V.int),.clo g cap] (V.int (KA p 0 xs))
attribute [local go_sem] zo in
theorem Uo {Γ:Env} {f:Nat} (h:Has Γ.P f 19 Jg.1.1.ac Jg.1.2) :JS Γ f:=by
 intro xs g cap p hp hcap hl
 refine Qb h zsi zcl zcl fun C hC hm=>?_
 subst hC
 simp only [Jg,qd,DC.ac]
 have s1:∀ o,JI o cap = cap:=fun o=>J1 o cap hcap
 have s2:∀ o B,Qu o B cap = True:=fun o B=>eq_true (Jk o B cap hcap)
 refine zgo ?_;repeat' first|exact zt|apply zan|intro hc
 refine Qp (ι:=Nat) (fun k=>k≤xs.length∧KA p k (xs.drop k) = KA p 0 xs) (fun k=>[(8,V.int k)]) (fun k=>xs.length - k) 0 (by omega) ⟨by simp,by simp⟩ zol (fun i hi=>by simp only [ovT,Je,Nat.reduceEqDiff,reduceIte];(repeat' first|exact aar|refine xG ?_ ?_|simp only [V.lt,ltL,and_self,and_true]|omega);exact Xy _ _ hcap) (by simp only [Nat.reduceAdd,ovT,Je,Nat.reduceEqDiff,reduceIte,Xv,Vx,aiQ,u32,u33,u34,u35,u36,u37,u38,u39,and_self,and_true,true_and];first|rfl|exact QU _ _ hcap) fun k hk K' hL=>?_
 obtain ⟨hk,hinv⟩:=hk
 simp only [ovT,Je,Nat.reduceEqDiff,reduceIte]
 rcases hd:xs.drop k with _|⟨y,r⟩
 ·have:=Qj hd
  rw [hd] at hinv
  have e1:decide ((k:Int) < (((xs.map V.int).length:Nat):Int)) = false:=by simp;omega
  (have zx:=e1);refine zgo ?_;repeat' first|exact zt|apply zan|intro hc
  refine Qd _ rfl ?_
  simp only [go_sem]
  rw [← hinv];rfl
 ·obtain ⟨hk,hget,hr⟩:=Qf hd
  rw [hd] at hinv
  have hw:=Qc (k:=k) (by omega)
  have e1:decide ((k:Int) < (((xs.map V.int).length:Nat):Int)) = true:=by simp;omega
  have hpy:=hp y (zk hget)
  by_cases hy:p y = true
  ·rw [hy] at hpy
   (have zy0:=hpy.b;have zx:=za hget (za hw (za e1 (za s1 s2))));refine zgo ?_;repeat' first|exact zt|apply zan|intro hc
   refine Qd _ rfl ?_;simp only [go_sem]
   rw [← hinv];simp [KA,hy]
  ·have hy':p y = false:=by simpa using hy
   rw [hy'] at hpy
   (have zy0:=hpy.b;have zx:=za hget (za hw (za e1 (za s1 s2))));refine zgo ?_;repeat' first|exact zt|apply zan|intro hc
   refine hL _ (k + 1) zet ⟨by omega,?_⟩ (by omega) zoe
   rw [hr,← hinv,KA,if_neg hy]
def Q1:=qd Proofs.Tryz.f54 []
def Js (Γ:Env) (f:Nat):Prop:=∀ (xs:List Int) (g:Nat) (cap:List V) (p:Int→Bool) (hp:∀ x∈xs,EvN Γ g (V.int x :: cap) (V.bool (p x))) (hcap:Qa cap) (hl:xs.length < 2 ^ 62),EvN Γ f [.sl 1 (xs.map V.int),.clo g cap] (V.bool (xs.any p))
theorem Vp {Γ:Env} {f:Nat} (h:Has Γ.P f 9 Q1.1.1.ac Q1.1.2) (z0:JS Γ 121):Js Γ f:=by
 intro xs g cap p hp hcap hl
 refine Qb h zsi zcl zcl fun C hC hm=>?_
 subst hC
 simp only [Q1,qd,DC.ac]
 have s1:∀ o,JI o cap = cap:=fun o=>J1 o cap hcap
 have s2:∀ o B,Qu o B cap = True:=fun o B=>eq_true (Jk o B cap hcap)
 have hi:=(z0 xs g cap p hp hcap hl).b
 have e1:=acq p xs 0
 (have zx:=za s1 (za s2 e1));exact zg
def Wl:=qd Proofs.Tryz.f19 [⟨fun _=>true,[3,9],.one 0 (.one 1 (.one 2 (.one 3 (.one 4 (.one 5 (.one 6 (.one 8 (.or 7 (.one 9 (.one 10 (.one 11 (.done)))) (.or 9 (.one 7 (.one 10 (.one 11 (.done)))) (.done))))))))))⟩]
def XY (Γ:Env) (f:Nat):Prop:=∀ (e:QI) (sm:e.Sm),EvN Γ f [e.v] (V.int (if JT e = true then 0 else 19))
attribute [local go_sem] Qy.cells Qy.v in
theorem aaF {Γ:Env} {f:Nat} (h:Has Γ.P f 83 Wl.1.1.ac Wl.1.2) (z0:Wq Γ 48) (z1:Vi Γ 49) (z2:WA Γ 50) (z3:XX Γ 51) (z4:WB Γ 52) (z5:JQ Γ 55) (z6:Js Γ 54) (z7:Wr Γ 56):XY Γ f:=by
 intro e sm
 refine Qb h zsi zcl zcl fun C hC hm=>?_
 subst hC
 simp only [Wl,qd,DC.ac]
 have hw:=(z0 e.name sm.hn).b
 have hsu:=(z1 e.suites sm.hs).b
 have ha1:=(z2 e.anchors sm.ha).b
 have ha2:=(z2 e.hashes sm.hh).b
 obtain ⟨g,hg1,hg⟩:=z4
 have g1:=(hg 55).b
 have g2:=(hg 56).b
 have k1:=(z6 e.anchors g [.ro [.clo (.n 55) []] 0] (fun x=>!wc x) (fun x _=>hg1 55 wc x (z5 x)) (by simp [V.closed,Qa]) (by have:=sm.ha;omega)).b
 have k2:=(z6 e.hashes g [.ro [.clo (.n 56) []] 0] (fun x=>!Un x) (fun x _=>hg1 56 Un x (z7 x)) (by simp [V.closed,Qa]) (by have:=sm.hh;omega)).b
 have no1:akS e = false→(if JT e = true then (0:Int) else 19) = 19:=fun h=>by simp [JT,h]
 have no2:ait e = false→(if JT e = true then (0:Int) else 19) = 19:=fun h=>by simp [JT,h]
 have no3:aqP e = false→(if JT e = true then (0:Int) else 19) = 19:=fun h=>by simp [JT,h]
 have no4:akR e = false→(if JT e = true then (0:Int) else 19) = 19:=fun h=>by simp [JT,h]
 have lm1:(e.idents.map Qy.v).length = e.idents.length:=zh _
 have lm2:(e.anchors.map V.int).length = e.anchors.length:=zh _
 have lm3:(e.hashes.map V.int).length = e.hashes.length:=zh _
 simp only [QI.v,QI.cells]
 rcases q1:akS e with _|_
 ·rw [no1 q1]
  rcases b1:jb e.name with _|_
  ·rw [b1] at hw
   exact zg
  rw [b1] at hw
  by_cases b2:e.least < 1
  ·have e2:decide (e.least < 1) = true:=zl b2
   (have zx:=e2);exact zg
  have e2:decide (e.least < 1) = false:=zm b2
  by_cases b3:e.least > e.most
  ·have e3:decide (e.least > e.most) = true:=zl b3
   (have zx:=za e2 e3);exact zg
  have e3:decide (e.least > e.most) = false:=zm b3
  by_cases b4:e.most > 4
  ·have e4:decide (e.most > 4) = true:=zl b4
   (have zx:=za e2 (za e3 e4));exact zg
  have e4:decide (e.most > 4) = false:=zm b4
  have b5:Xl e.suites = false:=by
   rw [akS,b1,zl (by omega:e.least≥1),zl (by omega:e.least≤e.most),zl (by omega:e.most≤4)] at q1
   simpa using q1
  rw [b5] at hsu
  (have zx:=za e2 (za e3 e4));exact zg
 have p1:=q1
 simp only [akS,zv,zL] at p1
 obtain ⟨b1,b2,b3,b4,b5⟩:=p1
 rw [b1] at hw
 rw [b5] at hsu
 have e2:decide (e.least < 1) = false:=zm (by omega)
 have e3:decide (e.least > e.most) = false:=zm (by omega)
 have e4:decide (e.most > 4) = false:=zm (by omega)
 rcases q2:ait e with _|_
 ·rw [no2 q2]
  by_cases c1:(e.idents.length:Int) > 4
  ·have f1:decide ((e.idents.length:Int) > 4) = true:=zl c1
   (have zx:=za e2 (za e3 (za e4 (za lm1 f1))));exact zg
  have f1:decide ((e.idents.length:Int) > 4) = false:=zm c1
  by_cases c2:(e.anchors.length:Int) > 16
  ·have f2:decide ((e.anchors.length:Int) > 16) = true:=zl c2
   (have zx:=za e2 (za e3 (za e4 (za lm1 (za lm2 (za f1 f2))))));exact zg
  have f2:decide ((e.anchors.length:Int) > 16) = false:=zm c2
  rcases c3:amJ e.anchors with _|_
  ·rw [c3] at ha1
   (have zx:=za e2 (za e3 (za e4 (za lm1 (za lm2 (za f1 f2))))));exact zg
  rw [c3] at ha1
  have c4:amJ e.hashes = false:=by
   rw [ait,c3,zl (by omega:(e.idents.length:Int)≤4),zl (by omega:(e.anchors.length:Int)≤16)] at q2
   simpa using q2
  rw [c4] at ha2
  (have zx:=za e2 (za e3 (za e4 (za lm1 (za lm2 (za f1 f2))))));exact zg
 have p2:=q2
 simp only [ait,zv,zL] at p2
 obtain ⟨c1,c2,c3,c4⟩:=p2
 rw [c3] at ha1
 rw [c4] at ha2
 have f1:decide ((e.idents.length:Int) > 4) = false:=zm (by omega)
 have f2:decide ((e.anchors.length:Int) > 16) = false:=zm (by omega)
 (have zx:=za e2 (za e3 (za e4 (za lm1 (za lm2 (za f1 f2))))));refine zgo ?_;repeat' first|exact zt|apply zan|intro hc
 refine Qp (ι:=Nat) (fun k=>k≤e.idents.length∧(e.idents.take k).all Qy.ok = true) (fun k=>[(58,V.int k)]) (fun k=>e.idents.length - k) 0 (by omega) ⟨zu _,rfl⟩ zol zlt zet fun k hk K' hL=>?_
 obtain ⟨hk,hinv⟩:=hk
 simp only [ovT,Je,Nat.reduceEqDiff,reduceIte]
 rcases hd:e.idents.drop k with _|⟨x,r⟩
 ·have hkl:=Qj hd
  have e5:decide ((k:Int) < ((e.idents.length:Nat):Int)) = false:=by simp;omega
  have q3:aqP e = true:=by rw [zb hkl] at hinv;exact hinv
  rcases d1:e.anchors.any (fun x=>!wc x) with _|_
  ·rw [d1] at k1
   rcases d2:e.hashes.any (fun x=>!Un x) with _|_
   ·rw [d2] at k2
    have q4:akR e = true:=by
     rw [akR,zv,kz,kz]
     rw [List.any_eq_false] at d1 d2
     exact ⟨fun x hx=>by simpa using d1 x hx,fun x hx=>by simpa using d2 x hx⟩
    have hc:JT e = true:=by rw [JT,q1,q2,q3,q4];rfl
    rw [if_pos hc]
    clear hc
    (have zx:=za e5 lm1);exact zg
   ·rw [d2] at k2
    obtain ⟨x,hx,hx2⟩:=kN.1 d2
    rw [no4 (by rw [akR,ko.2 ⟨x,hx,by simpa using hx2⟩,zG])]
    (have zx:=za e5 lm1);exact zg
  ·rw [d1] at k1
   obtain ⟨x,hx,hx2⟩:=kN.1 d1
   rw [no4 (by rw [akR,ko.2 ⟨x,hx,by simpa using hx2⟩,zB])]
   (have zx:=za e5 lm1);exact zg
 ·obtain ⟨hk',hget,hrr⟩:=Qf hd
  have hwk:=Qc (k:=k) (by omega)
  have e5:decide ((k:Int) < ((e.idents.length:Nat):Int)) = true:=by simp;omega
  have hm:=zk hget
  have hsh:=(z3 x.kalg x.kbits x.kid x.chain (sm.hx x hm).hl (sm.hx x hm).hc).b
  rcases hcb:Qy.ok x with _|_
  ·have hcc:X7 x.kalg x.kbits x.kid x.chain = false:=hcb
   rw [hcc] at hsh
   rw [no3 (ko.2 ⟨x,hm,by simp [hcb]⟩)]
   (have zx:=za e5 (za hwk (za lm1 hget)));exact zg
  ·have hcc:X7 x.kalg x.kbits x.kid x.chain = true:=hcb
   rw [hcc] at hsh
   (have zx:=za e5 (za hwk (za lm1 hget)));refine zgo ?_;repeat' first|exact zt|apply zan|intro hc
   all_goals exact hL _ (k + 1) zet ⟨by omega,vR hget hinv hcb⟩ (by omega) zoe
inductive QQ where
 | mk (tag:Int) (bytes:List UInt8) (nest:Bool) (els:List QQ)
abbrev jk (b:List UInt8):List V:=b.map fun c=>V.sc (.int .u8 c.toNat)
mutual
def QQ.v:QQ→V
 | .mk t b n es=>.agg [V.int t,.sl 1 (jk b),V.bool n,.sl 4 (amZ es)]
def amZ:List QQ→List V
 | []=>[]
 | x :: r=>x.v :: amZ r
end
theorem af2:∀ es,amZ es = es.map QQ.v
 | []=>rfl
 | x :: r=>by rw [amZ,af2 r];rfl
theorem QQ.v_eq (t:Int) (b:List UInt8) (n:Bool) (es:List QQ):(QQ.mk t b n es).v = .agg [V.int t,.sl 1 (jk b),V.bool n,.sl 4 (es.map QQ.v)]:=by rw [QQ.v,af2]
theorem QQ.v_agg:∀ x:QQ,∃ cs,x.v = .agg cs∧cs.length = 4∧Qa cs∧x.v.cells = cs
 | .mk t b n es=>⟨_,QQ.v_eq t b n es,rfl,⟨trivial,trivial,trivial,trivial,trivial⟩,by rw [QQ.v_eq];rfl⟩
theorem QQ.v_closed (x:QQ):x.v.closed:=by cases x;rw [QQ.v_eq];simp only [V.closed,Qa,and_self]
def u8i (x:Int):UInt8:=UInt8.ofNat (x % 256).toNat
theorem aeE (x:Int):IntKind.u8.wrap x = ((u8i x).toNat:Int):=by
 have e1:IntKind.u8.bits = 8:=rfl
 have e2:IntKind.u8.signed = false:=rfl
 simp only [IntKind.wrap,e1,e2,zB,u8i]
 simp [UInt8.toNat_ofNat'];omega
def ah6 (x:Int) (b:List UInt8):Bool:=(!(x == 0) && !(x == -1)) || ((x == 0 && decide ((128:Int)≤((b.headD 0).toNat:Int))) || (x == -1 && decide (((b.headD 0).toNat:Int) < 128)))
def agF:Nat→Int→List UInt8→List UInt8
 | 0,_,b=>b
 | k + 1,x,b=>if ah6 x b then agF k (x.fdiv 256) (u8i x :: b) else b
def ard (n:Int):List UInt8:=agF 9 (n.fdiv 256) [u8i n]
def yU (n:Int):QQ:=.mk 2 (ard n) false []
theorem ang {j:Nat} {x:Int} (h1:-(256:Int) ^ (j + 1)≤x) (h2:x < (256:Int) ^ (j + 1)):-(256:Int) ^ j≤x.fdiv 256∧x.fdiv 256 < (256:Int) ^ j:=by
 rw [kH _ (by decide)]
 rw [Int.pow_succ] at h1 h2
 generalize (256:Int) ^ j = P at *
 constructor<;>omega
def alY (n:Int) (j:Nat) (x:Int) (b:List UInt8):Prop :=
 b≠[]∧b.length≤10 - j∧j≤9∧agF j x b = ard n∧(-9223372036854775808≤x∧x < 9223372036854775808)∧(j = 0→ah6 x b = false)∧(∀ i,j = i + 1→-(256:Int) ^ i≤x∧x < (256:Int) ^ i)
theorem aic {n:Int} (h0:-9223372036854775808≤n) (h1:n < 9223372036854775808):alY n 9 (n.fdiv 256) [u8i n]:=by
 have h2:-(256:Int) ^ 8≤n.fdiv 256∧n.fdiv 256 < (256:Int) ^ 8:=by
  rw [kH _ (by decide)]
  have:(256:Int) ^ 8 = 18446744073709551616:=by decide
  rw [this];constructor<;>omega
 refine ⟨by simp,by simp,by omega,rfl,?_,by omega,fun i hi=>?_⟩
 ·rw [kH _ (by decide)];constructor<;>omega
 ·obtain rfl:i = 8:=by omega
  exact h2
theorem akd {n:Int} {j:Nat} {x:Int} {b:List UInt8} (h:alY n j x b) (hm:ah6 x b = true):∃ i,j = i + 1∧alY n i (x.fdiv 256) (u8i x :: b):=by
 obtain ⟨h1,h2,h3,h4,h5,h6,h7⟩:=h
 rcases j with _|i
 ·rw [h6 rfl] at hm;cases hm
 refine ⟨i,rfl,by simp,by simp;omega,by omega,?_,?_,fun hi=>?_,fun k hk=>?_⟩
 ·rw [← h4,agF,if_pos hm]
 ·rw [kH _ (by decide)];constructor<;>omega
 ·subst hi
  have:=h7 0 rfl
  simp only [Int.pow_zero] at this
  have hx:x = 0∨x = -1:=by omega
  rcases hx with rfl|rfl<;>rfl
 ·subst hk
  exact ang (h7 _ rfl).1 (h7 _ rfl).2
theorem alX {n:Int} {j:Nat} {x:Int} {b:List UInt8} (h:alY n j x b) (hm:ah6 x b = false):b = ard n:=by
 obtain ⟨h1,h2,h3,h4,h5,h6,h7⟩:=h
 rw [← h4]
 cases j with
 | zero=>rfl
 | succ i=>rw [agF,if_neg (by rw [hm];decide)]
theorem agt {x:Int} {c:UInt8} {t:List UInt8} {p q r:Bool} (hp:(x == 0) = p) (hq:(x == -1) = q) (hr:decide ((c.toNat:Int) < 128) = r):ah6 x (c :: t) = ((!p && !q) || ((p && !r) || (q && r))):=by
 have h2:(decide ((128:Int)≤(c.toNat:Int))) = !r:=by rw [← hr];by_cases h:(c.toNat:Int) < 128<;>simp [h]<;>omega
 unfold ah6
 rw [hp,hq]
 show ((!p && !q) || ((p && decide ((128:Int)≤(c.toNat:Int))) || (q && decide ((c.toNat:Int) < 128)))) = _
 rw [h2,hr]
theorem ajc {c:UInt8} {r:Bool} (hr:decide ((c.toNat:Int) < 128) = r):decide ((c.toNat:Int)≥128) = !r:=by rw [← hr];by_cases h:(c.toNat:Int) < 128<;>simp [h]<;>omega
def j2:=qd Proofs.Tryz.f270 []
def qt (Γ:Env) (f:Nat):Prop:=∀ (n:Int) (h0:-9223372036854775808≤n) (h1:n < 9223372036854775808),EvC Γ f [V.int n] ((yU n).v)
attribute [local go_sem] jT Yd aeE in
theorem ag1 {Γ:Env} {f:Nat} (h:Has Γ.P f 45 j2.1.1.ac j2.1.2) :qt Γ f:=by
 intro n h0 h1
 refine Qn h zsi (QQ.v_closed _) fun C hC hm=>?_
 subst hC
 simp only [j2,qd,DC.ac]
 simp only [yU,QQ.v_eq]
 have s8:(8:Int).toNat≤IntKind.i64.bits:=by decide
 have s9:(2:Int) ^ 8 = 256:=by decide
 (have zx:=za s8 s9);refine zgo ?_;repeat' first|exact zt|apply zan|intro hc
 refine QA (ι:=Nat×Int×List UInt8) (fun q=>alY n q.1 q.2.1 q.2.2) (fun q=>Yd [(2,.ptr 0 0),(3,.hd 1 0 q.2.2.length),(4,V.int q.2.1)] [(0,.box true [V.int 0,.hd 2 0 0,V.bool false,.hd 3 0 0]),(1,.buf true 1 (jk q.2.2)),(2,.buf true 1 []),(3,.buf true 4 [])] 4) (fun q=>q.1) (9,n.fdiv 256,[u8i n]) (aic h0 h1) (Qo [(1,3000),(3,4)]) (JZ [(1,3000),(3,4)] (by simp only [go_sem,zwl,jk,zp,zo,List.length_cons,List.length_nil]<;>exact zcc) (by simp only [go_sem,zwl,jk,zp,zo,List.length_cons,List.length_nil]<;>exact zcc) (by simp [Qo]) (by simp;omega) (by omega)) fun q hq K' hL=>?_
 obtain ⟨j,x,b⟩:=q
 simp only at hq hL ⊢
 rcases b with _|⟨c,t⟩
 ·exact absurd rfl hq.1
 have hlen:=hq.2.1
 rw [List.length_cons] at hlen
 have htl:t.length≤10:=by omega
 have hbnd:=hq.2.2.2.2.1
 have tk:List.take t.length (t.map fun c=>V.sc (.int .u8 c.toNat)) = t.map fun c=>V.sc (.int .u8 c.toNat):=zb (by simp)
 have hgo:=hq.2.2.2.1
 rcases hmm:ah6 x (c :: t) with _|_
 ·have hbe:=alX hq hmm
  rcases hp:(x == 0) with _|_<;>rcases hv:(x == -1) with _|_<;>rcases hr:decide ((c.toNat:Int) < 128) with _|_
  all_goals
   have hm:=agt (t:=t) hp hv hr
   have hge:=ajc hr
   have hp2:(x != 0) = !(x == 0):=rfl
   have hv2:(x != -1) = !(x == -1):=rfl
   rw [hp] at hp2
   rw [hv] at hv2
   rw [hmm] at hm
   simp only [kR,kE,zS,zG,kP,Zm,kf,Zt,Bool.true_eq_false,zj] at hm hge hp2 hv2
  all_goals
   (have zx:=za s8 (za s9 (za hge (za hr (za hp (za hv (za hp2 (za hv2 tk))))))));refine zgo ?_;repeat' first|exact zt|apply zan|intro hc
  all_goals first|(rw [← hbe];refine Qd _ rfl ?_;simp only [go_sem,jk,zp,List.take_succ_cons,ku,tk];done)|(rw [← hbe];refine Qd _ rfl ?_;simp only [go_sem,jk,zp,List.take_succ_cons,ku,tk];trace_state)
 ·obtain ⟨i,rfl,hn⟩:=akd hq hmm
  rcases hp:(x == 0) with _|_<;>rcases hv:(x == -1) with _|_<;>rcases hr:decide ((c.toNat:Int) < 128) with _|_
  all_goals
   have hm:=agt (t:=t) hp hv hr
   have hge:=ajc hr
   have hp2:(x != 0) = !(x == 0):=rfl
   have hv2:(x != -1) = !(x == -1):=rfl
   rw [hp] at hp2
   rw [hv] at hv2
   rw [hmm] at hm
   simp only [kR,kE,zS,zG,kP,Zm,kf,Zt,Bool.true_eq_false,zj] at hm hge hp2 hv2
  all_goals
   (have zx:=za s8 (za s9 (za hge (za hr (za hp (za hv (za hp2 (za hv2 tk))))))));refine zgo ?_;repeat' first|exact zt|apply zan|intro hc
  all_goals exact hL _ (i,x.fdiv 256,u8i x :: c :: t) (Qo [(1,30004)]) hn (kw _) (JZ [(1,30004)] (by simp only [go_sem,zwl,jk,zp,List.length_cons,zh,Zu 1]<;>exact zcc) (by simp only [go_sem,zwl,jk,zp]<;>exact zcc) (by simp [Qo]) (by simp;omega) (by omega))
mutual
def QQ.siz:QQ→Nat
 | .mk _ b _ es=>1 + b.length + x9 es
def x9:List QQ→Nat
 | []=>0
 | x :: r=>x.siz + x9 r
end
mutual
def QQ.dep:QQ→Nat
 | .mk _ _ _ es=>amj es + 1
def amj:List QQ→Nat
 | []=>0
 | x :: r=>max x.dep (amj r)
end
theorem ao1:∀ x:QQ,1≤x.siz
 | .mk _ _ _ _=>by rw [QQ.siz];omega
theorem ab6:∀ es:List QQ,es.length≤x9 es
 | []=>zi _
 | x :: r=>by have:=ab6 r;have:=ao1 x;rw [x9,List.length_cons];omega
theorem aeI {es:List QQ} {x:QQ}:∀ {k:Nat},es[k]? = some x→x.siz≤x9 es:=by
 induction es with
 | nil=>intro k h;simp at h
 | cons y r ih =>
   intro k h
   rw [x9]
   cases k with
   | zero=>simp at h;subst h;omega
   | succ k=>have:=ih (k:=k) (by simpa using h);omega
mutual
theorem apE:∀ x:QQ,x.dep≤x.siz
 | .mk _ b _ es=>by have:=afv es;rw [QQ.dep,QQ.siz];omega
theorem afv:∀ es:List QQ,amj es≤x9 es
 | []=>zi _
 | x :: r=>by have:=apE x;have:=afv r;rw [amj,x9];omega
end
def aoU (n:Int):Bool:=decide (n≥1) && (decide (n≤255) && (n.tmod 32 != 31))
def j0:=qd Proofs.Tryz.f286 []
def xz (Γ:Env) (f:Nat):Prop:=∀ (n:Int),EvN Γ f [V.int n] (V.bool (aoU n))
theorem agZ {Γ:Env} {f:Nat} (h:Has Γ.P f 14 j0.1.1.ac j0.1.2) :xz Γ f:=by
 intro n
 refine Qb h zsi zcl zcl fun C hC hm=>?_
 subst hC
 simp only [j0,qd,DC.ac]
 rcases h1:decide (n≥1) with _|_<;>rcases h2:decide (n≤255) with _|_
 all_goals
  have e:aoU n = (decide (n≥1) && (decide (n≤255) && (n.tmod 32 != 31))):=rfl
  rw [h1,h2] at e
  simp only [zB,zA] at e
  rw [e]
  (have zx:=za h1 h2);exact zg
def j1 (ae3:Nat):AC:=Kw [1] (.reg [xo 1 (.box true 4 (.t 0)),mc 2 (V.int 0)]) (Kw [1,3] (.reg [mc 3 (V.int 0)]) (Kw [3] (Kw [1,3,4] (.reg [mc 4 (V.int 0)]) (.block 0 (agw [1,3,4] (Kw [1,3,4] (Kw [1,3,4,9] (.reg [mv 5 4,fa 6 3 1,ld 7 1 6,ln 8 7,bn 9 .lss 5 8]) (.cond (.t 9) .skip (.exit 0))) (Kw [1,3,4] (.block 1 (.reg [mv 12 3,fa 13 3 1,ld 14 1 13,mv 15 4,ia 16 4 14 15,xo 17 (.load true 4 (.t 16)),cl 18 ae3 [17],xo 19 (.mm true [(.t 12),(.t 18)]),mv 3 19])) (.reg [mv 10 4,bc 11 .add 10 (V.int 1),mv 4 11])))))) (Kw [2] (.reg [mv 20 3,bc 21 .add 20 (V.int 1),mv 2 21]) .ret))) def Zv:List V8:=[.tmp 2]
def q8 (Γ:Env) (f:Nat):Prop:=∀ (x:QQ) (hx:x.siz < 2 ^ 40),EvN Γ f [x.v] (V.int x.dep)
attribute [local go_sem] QQ.v_eq in
theorem adC {Γ:Env} {f:Nat} (h:Has Γ.P f 22 (j1 f) Zv) :q8 Γ f:=by
 suffices H:∀ (kk:Nat),∀ (x:QQ) (hx:x.siz < 2 ^ 40),x.siz < kk→EvN Γ f [x.v] (V.int x.dep) from fun x hx=>H _ x hx (kw _)
 intro kk;induction kk with
 | zero=>intros;rename_i hk;exact absurd hk (Zr _)
 | succ kk ih =>
 intro x hx hk
 refine Qb h zsi zcl zcl fun C hC hm=>?_
 subst hC
 unfold j1
 obtain ⟨t,b,n,es⟩:=x
 simp only [QQ.v_eq,QQ.dep]
 have hsz:x9 es < (QQ.mk t b n es).siz:=by rw [QQ.siz];omega
 have hle:=ab6 es
 have hdl:=afv es
 have hwe:IntKind.i64.wrap ((amj es:Int) + 1) = ((amj es + 1:Nat):Int):=Qc (by omega)
 refine zgo ?_;repeat' first|exact zt|apply zan|intro hc
 refine Qp (ι:=Nat×Nat) (fun q=>q.1≤es.length∧max q.2 (amj (es.drop q.1)) = amj es) (fun q=>[(3,V.int q.2),(4,V.int q.1)]) (fun q=>es.length - q.1) (0,0) (by omega) ⟨zu _,by simp⟩ zol zlt zet fun q hq K' hL=>?_
 obtain ⟨k,d⟩:=q
 simp only at hq hL ⊢
 obtain ⟨hk,hinv⟩:=hq
 simp only [ovT,Je,Nat.reduceEqDiff,reduceIte]
 rcases hd:es.drop k with _|⟨y,r⟩
 ·have hkl:=Qj hd
  have e1:decide ((k:Int) < (((es.map QQ.v).length:Nat):Int)) = false:=by simp;omega
  rw [hd] at hinv
  have hde:d = amj es:=by rw [← hinv,amj];omega
  subst hde
  (have zx:=za e1 hwe);exact zg
 ·obtain ⟨hk',hget,hr⟩:=Qf hd
  rw [hd] at hinv
  have hw:=Qc (k:=k) (by omega)
  have e1:decide ((k:Int) < (((es.map QQ.v).length:Nat):Int)) = true:=by simp;omega
  have hys:=aeI hget
  obtain ⟨yt,yb,yn,ye⟩:=y
  have hi:=(ih (.mk yt yb yn ye) (by omega) (by omega)).b
  rw [QQ.v_eq] at hi
  have hmx:(if (d:Int) < (((QQ.mk yt yb yn ye).dep:Nat):Int) then (((QQ.mk yt yb yn ye).dep:Nat):Int) else (d:Int)) = ((max d (QQ.mk yt yb yn ye).dep:Nat):Int):=by split<;>omega
  have hsk:([V.int ((QQ.mk yt yb yn ye).dep:Nat)].all (UB IntKind.i64)) = true:=rfl
  (have zx:=za e1 (za hw (za hget (za hmx hsk))));refine zgo ?_;repeat' first|exact zt|apply zan|intro hc
  all_goals exact hL _ (k + 1,max d (QQ.mk yt yb yn ye).dep) zet ⟨hk',by rw [hr,← hinv];simp only [amj];omega⟩ (by simp only;omega) zoe
def hdB (t:Int) (b:List UInt8) (n:Bool) (es:List QQ):Bool:=aoU t && (!(n != ((t.tdiv 32).tmod 2 == 1)) && (!(n && decide ((b.length:Int) > 0)) && !(!n && decide ((es.length:Int) > 0))))
mutual
def QQ.fB:QQ→Bool
 | .mk t b n es=>hdB t b n es && fL es
def fL:List QQ→Bool
 | []=>true
 | x :: r=>x.fB && fL r
end
theorem aoT {t:Int} (h:aoU t = true):1≤t∧t≤255:=by
 simp only [aoU,zv,zL] at h
 exact ⟨h.1,h.2.1⟩
theorem afC (b:List UInt8):(jk b).length = b.length:=zh _
theorem apy {es:List QQ} {k:Nat} {y:QQ} (h:es[k]? = some y) (hf:y.fB = false):fL es = false:=by
 induction es generalizing k with
 | nil=>simp at h
 | cons x r ih =>
   rw [fL]
   cases k with
   | zero=>simp at h;subst h;rw [hf];rfl
   | succ k=>rw [ih (k:=k) (by simpa using h),zG]
def qE (jN adj:Nat):AC:=Kw [1] (.reg [xo 1 (.box true 4 (.t 0)),mc 2 (V.bool false)]) (Kw [1] (Kw [1,38] (.reg [fa 4 0 1,ld 5 1 4,cl 6 jN [5],xo 7 (.un .not (.t 6)),mv 8 7,xg 9 (.faddr 2 (.t 1)) 8 false,xg 10 (.load false 1 (.t 9)) 8 false,xg 11 (.faddr 0 (.t 1)) 8 false,xg 12 (.load false 1 (.t 11)) 8 false,xg 13 (.bin .quo (.t 12) (.c (V.int 32))) 8 false,xg 14 (.bin .rem (.t 13) (.c (V.int 2))) 8 false,xg 15 (.bin .eql (.t 14) (.c (V.int 1))) 8 false,xg 16 (.eqb true (.t 10) (.t 15)) 8 false,xo 17 (.pick (.t 8) (.c (V.bool true)) (.t 16)),mv 18 17,xg 19 (.faddr 2 (.t 1)) 18 false,xg 20 (.load false 1 (.t 19)) 18 false,mg 21 20 18 false,xg 22 (.faddr 1 (.t 1)) 21 true,xg 23 (.load false 1 (.t 22)) 21 true,xg 24 (.lenL (.t 23)) 21 true,xg 25 (.bin .gtr (.t 24) (.c (V.int 0))) 21 true,xg 26 (.pick (.t 21) (.t 25) (.c (V.bool false))) 18 false,xo 27 (.pick (.t 18) (.c (V.bool true)) (.t 26)),mv 28 27,xg 29 (.faddr 2 (.t 1)) 28 false,xg 30 (.load false 1 (.t 29)) 28 false,xg 31 (.un .not (.t 30)) 28 false,mg 32 31 28 false,xg 33 (.faddr 3 (.t 1)) 32 true,xg 34 (.load false 1 (.t 33)) 32 true,xg 35 (.lenL (.t 34)) 32 true,xg 36 (.bin .gtr (.t 35) (.c (V.int 0))) 32 true,xg 37 (.pick (.t 32) (.t 36) (.c (V.bool false))) 28 false,xo 38 (.pick (.t 28) (.c (V.bool true)) (.t 37))]) (.cond (.t 38) (Kw [2] (.reg [mc 2 (V.bool false)]) .ret) .skip)) (Kw [] (Kw [1,3] (.reg [mc 3 (V.int 0)]) (.block 0 (agw [1,3] (Kw [1,3] (Kw [1,3,43] (.reg [mv 39 3,fa 40 3 1,ld 41 1 40,ln 42 41,bn 43 .lss 39 42]) (.cond (.t 43) .skip (.exit 0))) (Kw [1,3] (.block 1 (Kw [1,3,52] (.reg [fa 46 3 1,ld 47 1 46,mv 48 3,ia 49 4 47 48,xo 50 (.load true 4 (.t 49)),cl 51 adj [50],xo 52 (.un .not (.t 51))]) (.cond (.t 52) (Kw [2] (.reg [mc 2 (V.bool false)]) .ret) .skip))) (.reg [mv 44 3,bc 45 .add 44 (V.int 1),mv 3 45])))))) (Kw [2] (.reg [mc 2 (V.bool true)]) .ret))) def Zw:List V8:=[.tmp 2]
def Kq (Γ:Env) (f:Nat):Prop:=∀ (x:QQ) (hx:x.siz < 2 ^ 40),EvN Γ f [x.v] (V.bool x.fB)
attribute [local go_sem] QQ.v_eq in
theorem acC {Γ:Env} {f jN:Nat} (h:Has Γ.P f 53 (qE jN f) Zw) (z0:xz Γ jN):Kq Γ f:=by
 suffices H:∀ (kk:Nat),∀ (x:QQ) (hx:x.siz < 2 ^ 40),x.siz < kk→EvN Γ f [x.v] (V.bool x.fB) from fun x hx=>H _ x hx (kw _)
 intro kk;induction kk with
 | zero=>intros;rename_i hk;exact absurd hk (Zr _)
 | succ kk ih =>
 intro x hx hk
 refine Qb h zsi zcl zcl fun C hC hm=>?_
 subst hC
 unfold qE
 obtain ⟨t,b,n,es⟩:=x
 simp only [QQ.v_eq,QQ.fB]
 have hsz:x9 es < (QQ.mk t b n es).siz:=by rw [QQ.siz];omega
 have hle:=ab6 es
 have htg:=(z0 t).b
 have hlb:((jk b).length:Int) = (b.length:Int):=by rw [afC]
 have hle2:((es.map QQ.v).length:Int) = (es.length:Int):=by rw [zh]
 have hdl:hdB t b n es = (aoU t && (!(n != ((t.tdiv 32).tmod 2 == 1)) && (!(n && decide ((b.length:Int) > 0)) && !(!n && decide ((es.length:Int) > 0))))):=rfl
 refine xN fun K' hK=>?_
 simp (maxSteps:=1000000) only [go_sem]
 refine hK _ ?_
 clear hK
 clear K'
 (try simp only [go_sem])
 refine xO (ι:=Unit) (fun _=>hdB t b n es = true) (fun _=>Yd [(1,.ptr 0 0)] [(0,.box true [V.int t,.sl 1 (jk b),V.bool n,.sl 4 (es.map QQ.v)])] 1) (fun K' hK'=>?_) (fun _ hgood=>?_)
 ·rcases h1:aoU t with _|_
  ·have hf:hdB t b n es = false:=by rw [hdl,h1];rfl
   rw [hf]
   rw [h1] at htg
   exact zg
  ·rw [h1] at htg
   have htb:=aoT h1
   have hwq:IntKind.i64.wrap (t.tdiv 32) = t.tdiv 32:=by
    rw [Int.tdiv_eq_ediv_of_nonneg (by omega)];exact Q9 (by omega) (by omega)
   rcases n with _|_<;>rcases h3:((t.tdiv 32).tmod 2 == 1) with _|_<;>rcases h4:decide ((b.length:Int) > 0) with _|_<;>rcases h5:decide ((es.length:Int) > 0) with _|_
   all_goals
    rw [h1,h3,h4,h5] at hdl
    simp only [kR,kE,zS,zG,zA,zB,Bool.bne_true,Bool.bne_false,Bool.true_bne,Bool.false_bne,bne_self_eq_false] at hdl
    (have zx:=za hlb (za hle2 (za hwq (za h3 (za h4 h5)))));refine zgo ?_;repeat' first|exact zt|apply zan|intro hc
   all_goals first|(rw [hdl];refine Qd _ rfl ?_;simp only [go_sem];done)|exact hK' _ () (Qo []) hdl (zwg [])
 ·rw [hgood,zA]
  simp only [Yd]
  refine zgo ?_;repeat' first|exact zt|apply zan|intro hc
  refine Qp (ι:=Nat) (fun k=>k≤es.length∧fL (es.drop k) = fL es) (fun k=>[(3,V.int k)]) (fun k=>es.length - k) 0 (by omega) ⟨zu _,by simp⟩ zol zlt zet fun k hk K' hL=>?_
  obtain ⟨hk,hinv⟩:=hk
  simp only [ovT,Je,Nat.reduceEqDiff,reduceIte]
  rcases hd:es.drop k with _|⟨y,r⟩
  ·have hkl:=Qj hd
   have e1:decide ((k:Int) < (((es.map QQ.v).length:Nat):Int)) = false:=by simp;omega
   rw [hd] at hinv
   rw [← hinv,fL]
   (have zx:=e1);exact zg
  ·obtain ⟨hk',hget,hr⟩:=Qf hd
   rw [hd,fL] at hinv
   have hw:=Qc (k:=k) (by omega)
   have e1:decide ((k:Int) < (((es.map QQ.v).length:Nat):Int)) = true:=by simp;omega
   have hys:=aeI hget
   obtain ⟨yt,yb,yn,ye⟩:=y
   have hi:=(ih (.mk yt yb yn ye) (by omega) (by omega)).b
   rw [QQ.v_eq] at hi
   rcases hy:(QQ.mk yt yb yn ye).fB with _|_
   ·rw [hy] at hi
    rw [apy hget hy]
    (have zx:=za e1 (za hw hget));exact zg
   ·rw [hy,zA] at hinv
    rw [hy] at hi
    (have zx:=za e1 (za hw hget));refine zgo ?_;repeat' first|exact zt|apply zan|intro hc
    all_goals exact hL _ (k + 1) zet ⟨hk',by rw [hr,← hinv]⟩ (by omega) zoe
end Av
end
