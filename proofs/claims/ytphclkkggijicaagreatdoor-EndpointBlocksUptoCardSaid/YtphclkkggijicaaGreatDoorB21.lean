/- B21 -/
import Derived.Test.YtphclkkggijicaaGreatDoorB20
import Derived.Test.YtphclkkggijicaaGreatDoorB12
import Derived.KernelRfl
set_option linter.unusedVariables false
set_option linter.unusedSimpArgs false
noncomputable section
set_option maxRecDepth 10000
set_option maxHeartbeats 4000000
namespace Av
open Go
attribute [local irreducible] AWp W7 Kx jy awS awC vE awQ aay QP W6 vu awR Vn awB okR jx ris
def XX:=qd Proofs.Tryz.f123 []
def Xy (Γ:Env) (f:Nat):Prop:=∀ (a b:Int),EvN Γ f [.agg [V.int a,V.int b]] (V.bool (ags a b 2))
theorem aaa {Γ:Env} {f:Nat} (h:Has Γ.P f 11 XX.1.1.ac XX.1.2) (z0:Ux Γ 169) (z1:VE Γ 61):Xy Γ f:=by
 intro a b
 refine Qb h zsi zcl zcl fun C hC hm=>?_
 subst hC
 simp only [XX,qd,DC.ac]
 unfold ags
 rcases hq:decide (QL a b > 0) with _|_
 ·(have zx:=hq);refine zgo ?_;repeat' first|exact zt|apply zan|intro hc
  all_goals first|exact zr|(refine Qf _ rfl ?_;simp only [go_sem];simp [*];done)
 ·(have zx:=hq);refine zgo ?_;repeat' first|exact zt|apply zan|intro hc
  all_goals first|exact zr|(refine Qf _ rfl ?_;simp only [go_sem];simp [*];done)
def Kf:=qd Proofs.Tryz.f124 [zhn 25]
def Wq (Γ:Env) (f:Nat):Prop:=∀ (c:Qk) (h1:c.issuer.length < 2 ^ 60) (h2:c.subject.length < 2 ^ 60) (h3:c.names.length < 2 ^ 60) (h4:∀ x∈c.names,x.length < 2 ^ 60),EvN Γ f [c.v] (V.int (if W5 c = true then 0 else 9))
theorem ad2 {Γ:Env} {f:Nat} (h:Has Γ.P f 146 Kf.1.1.ac Kf.1.2) (z0:Ko Γ 73) (z1:Xy Γ 123) (z2:Ux Γ 169) (z3:VE Γ 61):Wq Γ f:=by
 intro c h1 h2 h3 h4
 refine Qb h zsi zcl zcl fun C hC hm=>?_
 subst hC
 simp only [Kf,qd,DC.ac]
 have ha:=(z0 c.issuer h1).b
 have hb:=(z0 c.subject h2).b
 have nlen:c.names.length > 8→yV c.names = false:=fun h=>by simp [yV];intro _;omega
 have no1:af0 c = true→(if W5 c = true then (0:Int) else 9) = 9:=fun h=>by simp [W5,h]
 have no2:ahG c = true→(if W5 c = true then (0:Int) else 9) = 9:=fun h=>by simp [W5,h]
 have no3:ak8 c = true→(if W5 c = true then (0:Int) else 9) = 9:=fun h=>by simp [W5,h]
 have no4:ahF c = false→(if W5 c = true then (0:Int) else 9) = 9:=fun h=>by simp [W5,h]
 have hlm:(c.names.map V.str).length = c.names.length:=zh _
 simp only [Qk.v,Qk.cells]
 (have zx:=hlm);refine zgo ?_;repeat' first|exact zt|apply zan|intro hc
 all_goals (try simp only [bne_eq_false_iff_eq,bne_iff_ne,ne_eq] at *)
 all_goals first|(rw [no1]<;>first|(have q:=nlen (by omega);simp [af0,q];done)|exact zr)|(rw [no1]<;>first|(simp [af0,yV, *];done)|exact zr)|(rw [no2]<;>first|(simp [ahG,adE,aqP, *];done)|exact zr)|(rw [no2]<;>first|(simp [ahG,ags, *];done)|exact zr)|(rw [no3]<;>first|(simp [ak8, *];done)|exact zr)|(rw [no4]<;>first|(simp [ahF, *];done)|(simp [ahF];intros;omega)|exact zr)|skip
 all_goals
  have hu:ags c.halg c.hbits 1 = true:=by simp [ags, *]
  refine Qt (ι:=Nat) (fun k=>k≤c.names.length∧okP QT Op.bytesLess c.names k = true) (fun k=>[(3,V.int k)]) (fun k=>c.names.length - k) 0 (by omega) ⟨zw _,rfl⟩ zol zlt zet fun k hk K' hL=>?_
  obtain ⟨hk,hinv⟩:=hk
  simp only [ovT,Jn,Nat.reduceEqDiff,reduceIte]
  rcases hd:c.names.drop k with _|⟨x,r⟩
  ·have hkl:=Qj hd
   have e1:decide ((k:Int) < ((c.names.length:Nat):Int)) = false:=by simp;omega
   have hkk:k = c.names.length:=by omega
   subst hkk
   have hN:okP QT Op.bytesLess c.names c.names.length = true:=hinv
   (have zx:=za e1 hlm);refine zgo ?_;repeat' first|exact zt|apply zan|intro hc
   all_goals (try simp only [bne_eq_false_iff_eq,bne_iff_ne,ne_eq] at *)
   all_goals first|(rw [no1]<;>first|(have q:=nlen (by omega);simp [af0,q];done)|exact zr)|(rw [no1]<;>first|(simp [af0,yV, *];done)|exact zr)|(rw [no2]<;>first|(simp [ahG,adE,aqP, *];done)|exact zr)|(rw [no2]<;>first|(simp [ahG,ags, *];done)|exact zr)|(rw [no3]<;>first|(simp [ak8, *];done)|exact zr)|(rw [no4]<;>first|(simp [ahF, *];done)|(simp [ahF];intros;omega)|exact zr)|(refine Qf _ rfl ?_;simp only [go_sem];simp [W5,af0,ahG,ak8,ahF,adE,aqP,yV, *];done)
  ·obtain ⟨hk',hget,hr⟩:=Qe hd
   have hw:=Qd (k:=k) (by omega)
   have e1:decide ((k:Int) < ((c.names.length:Nat):Int)) = true:=by simp;omega
   have hnx:=(z0 x (h4 x (zj hget))).b
   have hbad:okP QT Op.bytesLess c.names (k + 1) = false→(if W5 c = true then (0:Int) else 9) = 9:=fun h=>by
    have:yV c.names = false:=by rw [yV,acR h (by omega),zD]
    simp [W5,af0,this]
   rcases hx:QT x with _|_
   ·have hb:okP QT Op.bytesLess c.names (k + 1) = false:=by rw [wh,hget];simp [hx]
    rw [hbad hb]
    rw [hx] at hnx
    (have zx:=za e1 (za hw (za hlm hget)));exact zg
   ·rw [hx] at hnx
    rcases k with _|k
    ·have hw0:IntKind.i64.wrap 1 = ((1:Nat):Int):=by decide
     have hg1:okP QT Op.bytesLess c.names (0 + 1) = true:=by rw [acQ hget,hx]
     have e2:decide (((0:Nat):Int) > 0) = false:=rfl
     (have zx:=za e1 (za e2 (za hw (za hw0 (za hlm hget)))));refine zgo ?_;repeat' first|exact zt|apply zan|intro hc
     all_goals exact hL _ 1 zet ⟨by omega,hg1⟩ (by omega) zoe
    ·have e2:decide (((k + 1:Nat):Int) > 0) = true:=zu (by omega)
     have hw2:IntKind.i64.wrap (((k + 1:Nat):Int) - 1) = (k:Int):=by rw [Jc (by omega) (by omega)];omega
     obtain ⟨y,hgy⟩:∃ y,c.names[k]? = some y:=⟨_,zf (by omega)⟩
     have hnext:=vS (p:=QT) (q:=Op.bytesLess) hget hgy
     rw [hinv,hx] at hnext
     rcases hb:Op.bytesLess y x with _|_
     ·rw [hbad (by rw [hnext,hb];rfl)]
      (have zx:=za e1 (za e2 (za hw (za hw2 (za hlm (za hget (za hgy hb)))))));exact zg
     ·(have zx:=za e1 (za e2 (za hw (za hw2 (za hlm (za hget (za hgy hb)))))));refine zgo ?_;repeat' first|exact zt|apply zan|intro hc
      all_goals exact hL _ (k + 2) zet ⟨by omega,by rw [hnext,hb];rfl⟩ (by omega) zoe
structure Qk.Sm (c:Qk):Prop where
 h1:c.issuer.length < 2 ^ 60
 h2:c.subject.length < 2 ^ 60
 h3:c.names.length < 2 ^ 60
 h4:∀ x∈c.names,x.length < 2 ^ 60
def aiQ (a b id:Int) (l:List Qk):Bool:=match l with|[]=>true|c :: _=>((c.kalg == a && c.kbits == b) && (c.kid == id))
def W0 (a b id:Int) (l:List Qk):Bool:=ags a b 2 && (adE id && (decide ((l.length:Int)≤8) && (l.all W5 && aiQ a b id l)))
theorem agJ {a b id:Int} {l:List Qk} {c:Qk} (h:c∈l) (hc:W5 c = false):W0 a b id l = false:=by
 have:l.all W5 = false:=ky.2 ⟨c,h,by simp [hc]⟩
 simp [W0,this]
theorem acq {α:Type} {p:α→Bool} {l:List α} {k:Nat} {x:α} (h:l[k]? = some x) (hp:(l.take k).all p = true) (hx:p x = true):(l.take (k + 1)).all p = true:=by
 rw [zB,h,List.all_append,hp];simp [hx]
def Wx:=qd Proofs.Tryz.f51 [zhn 20]
def We (Γ:Env) (f:Nat):Prop:=∀ (a b id:Int) (l:List Qk) (hl:l.length < 2 ^ 60) (hs:∀ c∈l,c.Sm),EvN Γ f [.agg [V.int a,V.int b],V.int id,.sl 15 (l.map Qk.v)] (V.bool (W0 a b id l))
attribute [local go_sem] List.getElem?_cons_zero zm Qk.cells Qk.v in
theorem aa5 {Γ:Env} {f:Nat} (h:Has Γ.P f 57 Wx.1.1.ac Wx.1.2) (z0:WI Γ 118) (z1:XM Γ 119) (z2:J1 Γ 55) (z3:Wn Γ 120):We Γ f:=by
 intro a b id l hl hs
 refine Qb h zsi zcl zcl fun C hC hm=>?_
 subst hC
 simp only [Wx,qd,DC.ac]
 have hlm:(l.map Qk.v).length = l.length:=zh _
 have no0:ags a b 2 = false→W0 a b id l = false:=fun h=>by simp [W0,h]
 have no1:adE id = false→W0 a b id l = false:=fun h=>by simp [W0,h]
 have no2:l.length > 8→W0 a b id l = false:=fun h=>by
  have:decide ((l.length:Int)≤8) = false:=by simp;omega
  simp [W0,this]
 rcases hu:ags a b 2 with _|_
 ·rw [no0 hu]
  unfold ags at hu
  rcases hq:decide (QL a b > 0) with _|_
  ·(have zx:=hq);exact zg
  ·rw [hq,zC] at hu
   have hu2:((Yu a).kind != 2) = true:=by simpa using hu
   (have zx:=za hq hu2);exact zg
 have hq:decide (QL a b > 0) = true:=by unfold ags at hu;simp at hu;simpa using hu.1
 have hu2:((Yu a).kind != 2) = false:=by unfold ags at hu;simp at hu;simpa using hu.2
 have hk:=(z2 id).b
 rcases hk1:adE id with _|_
 ·rw [no1 hk1]
  rw [hk1] at hk
  (have zx:=za hq hu2);exact zg
 rw [hk1] at hk
 by_cases h8:l.length > 8
 ·have e8:decide ((l.length:Int) > 8) = true:=by simp;omega
  rw [no2 h8]
  (have zx:=za hq (za hu2 (za hlm e8)));exact zg
 have e8:decide ((l.length:Int) > 8) = false:=by simp;omega
 have e8':decide ((l.length:Int)≤8) = true:=by simp;omega
 (have zx:=za hq (za hu2 (za hlm e8)));refine zgo ?_;repeat' first|exact zt|apply zan|intro hc
 refine Qt (ι:=Nat) (fun k=>k≤l.length∧(l.take k).all W5 = true) (fun k=>[(30,V.int k)]) (fun k=>l.length - k) 0 (by omega) ⟨zw _,rfl⟩ zol zlt zet fun k hk K' hL=>?_
 obtain ⟨hk,hinv⟩:=hk
 simp only [ovT,Jn,Nat.reduceEqDiff,reduceIte]
 rcases hd:l.drop k with _|⟨c,r⟩
 ·have hkl:=Qj hd
  have e1:decide ((k:Int) < ((l.length:Nat):Int)) = false:=by simp;omega
  have hall:l.all W5 = true:=by rwa [zb hkl] at hinv
  have hfin:W0 a b id l = aiQ a b id l:=by rw [W0,hu,hk1,e8',hall];rfl
  rw [hfin]
  clear hfin
  rcases l with _|⟨c,r⟩
  ·rw [show aiQ a b id [] = true from rfl]
   (have zx:=za e1 hlm);exact zg
  ·have e9:((((c :: r).length:Nat):Int) == 0) = false:=by simp;omega
   have e1b:decide ((k:Int) < ((r.length + 1:Nat):Int)) = false:=e1
   have e9b:(((r.length + 1:Nat):Int) == 0) = false:=e9
   rw [aiQ]
   (have zx:=za e1 (za e1b (za hlm (za e9 e9b))));refine zgo ?_;repeat' first|exact zt|apply zan|intro hc
   all_goals first|exact zr|(refine Qf _ rfl ?_;simp only [go_sem];simp [*];done)
 ·obtain ⟨hk',hget,hr⟩:=Qe hd
  have hw:=Qd (k:=k) (by omega)
  have e1:decide ((k:Int) < ((l.length:Nat):Int)) = true:=by simp;omega
  have hm:=zj hget
  have sm:=hs c hm
  have hce:=(z3 c sm.h1 sm.h2 sm.h3 sm.h4).b
  simp only [Qk.v,Qk.cells] at hce
  rcases hcb:W5 c with _|_
  ·rw [agJ hm hcb]
   rw [hcb,if_neg (by decide)] at hce
   (have zx:=za e1 (za hw (za hlm hget)));exact zg
  ·rw [hcb,if_pos rfl] at hce
   (have zx:=za e1 (za hw (za hlm hget)));refine zgo ?_;repeat' first|exact zt|apply zan|intro hc
   all_goals exact hL _ (k + 1) zet ⟨by omega,acq hget hinv hcb⟩ (by omega) zoe
def Kd:=qd Proofs.Tryz.f60 [zhn 20]
def jn (Γ:Env) (f:Nat):Prop:=∀ (a b id:Int) (l:List Qk) (hl:l.length < 2 ^ 60) (hs:∀ c∈l,c.Sm),EvN Γ f [.agg [V.int a,V.int b],V.int id,.sl 15 (l.map Qk.v)] (V.bool (W0 a b id l))
attribute [local go_sem] List.getElem?_cons_zero List.length_cons zh zm Qk.cells Qk.v in
theorem ad0 {Γ:Env} {f:Nat} (h:Has Γ.P f 55 Kd.1.1.ac Kd.1.2) (z0:Xy Γ 123) (z1:Wq Γ 124):jn Γ f:=by
 intro a b id l hl hs
 refine Qb h zsi zcl zcl fun C hC hm=>?_
 subst hC
 simp only [Kd,qd,DC.ac]
 have hlm:(l.map Qk.v).length = l.length:=zh _
 have no0:ags a b 2 = false→W0 a b id l = false:=fun h=>by simp [W0,h]
 have no1:adE id = false→W0 a b id l = false:=fun h=>by simp [W0,h]
 have no2:l.length > 8→W0 a b id l = false:=fun h=>by
  have:decide ((l.length:Int)≤8) = false:=by simp;omega
  simp [W0,this]
 have hsi:=(z0 a b).b
 rcases hu:ags a b 2 with _|_
 ·rw [no0 hu]
  rw [hu] at hsi
  exact zg
 rw [hu] at hsi
 by_cases k1:id < 0
 ·have e1:decide (id < 0) = true:=zu k1
  rw [no1 (by unfold adE;rw [zv (by omega)];rfl)]
  (have zx:=e1);exact zg
 have e1:decide (id < 0) = false:=zv k1
 by_cases k2:id > 2147483648
 ·have e2:decide (id > 2147483648) = true:=zu k2
  rw [no1 (by unfold adE;rw [zv (by omega:¬ id≤2147483648),zI])]
  (have zx:=za e1 e2);exact zg
 have e2:decide (id > 2147483648) = false:=zv k2
 have hk1:adE id = true:=by unfold adE;rw [zu (by omega:id≥0),zu (by omega:id≤2147483648)];rfl
 by_cases h8:l.length > 8
 ·have e8:decide ((l.length:Int) > 8) = true:=by simp;omega
  rw [no2 h8]
  (have zx:=za e1 (za e2 (za hlm e8)));exact zg
 have e8:decide ((l.length:Int) > 8) = false:=by simp;omega
 have e8':decide ((l.length:Int)≤8) = true:=by simp;omega
 (have zx:=za e1 (za e2 (za hlm e8)));refine zgo ?_;repeat' first|exact zt|apply zan|intro hc
 refine Qt (ι:=Nat) (fun k=>k≤l.length∧(l.take k).all W5 = true) (fun k=>[(7,V.int k)]) (fun k=>l.length - k) 0 (by omega) ⟨zw _,rfl⟩ zol zlt zet fun k hk K' hL=>?_
 obtain ⟨hk,hinv⟩:=hk
 simp only [ovT,Jn,Nat.reduceEqDiff,reduceIte]
 rcases hd:l.drop k with _|⟨c,r⟩
 ·have hkl:=Qj hd
  have e4:decide ((k:Int) < ((l.length:Nat):Int)) = false:=by simp;omega
  have hall:l.all W5 = true:=by rwa [zb hkl] at hinv
  have hfin:W0 a b id l = aiQ a b id l:=by rw [W0,hu,hk1,e8',hall];rfl
  rw [hfin]
  clear hfin
  rcases l with _|⟨c,r⟩
  ·rw [show aiQ a b id [] = true from rfl]
   (have zx:=za e4 hlm);exact zg
  ·have e9:((((c :: r).length:Nat):Int) == 0) = false:=by simp;omega
   have e4b:decide ((k:Int) < ((r.length + 1:Nat):Int)) = false:=e4
   have e9b:(((r.length + 1:Nat):Int) == 0) = false:=e9
   rw [aiQ]
   (have zx:=za e4 (za e4b (za hlm (za e9 e9b))));refine zgo ?_;repeat' first|exact zt|apply zan|intro hc
   all_goals first|exact zr|(refine Qf _ rfl ?_;simp only [go_sem];simp [*];done)
 ·obtain ⟨hk',hget,hr⟩:=Qe hd
  have hw:=Qd (k:=k) (by omega)
  have e4:decide ((k:Int) < ((l.length:Nat):Int)) = true:=by simp;omega
  have hm:=zj hget
  have sm:=hs c hm
  have hce:=(z1 c sm.h1 sm.h2 sm.h3 sm.h4).b
  simp only [Qk.v,Qk.cells] at hce
  rcases hcb:W5 c with _|_
  ·rw [agJ hm hcb]
   rw [hcb,if_neg (by decide)] at hce
   (have zx:=za e4 (za hw (za hlm hget)));exact zg
  ·rw [hcb,if_pos rfl] at hce
   (have zx:=za e4 (za hw (za hlm hget)));refine zgo ?_;repeat' first|exact zt|apply zan|intro hc
   all_goals exact hL _ (k + 1) zet ⟨by omega,acq hget hinv hcb⟩ (by omega) zoe
def anv (s:List UInt8):Bool:=abg s && (decide (XI s≥1) && decide (XI s≤4))
theorem vW {α:Type} (p:α→Bool):∀ (xs:List α) (k:Nat),decide (VS p k xs≥0) = xs.any p
 | [],k=>by simp [VS]
 | x :: r,k=>by
   have ih:=vW p r (k + 1)
   rw [VS,List.any_cons]
   by_cases h:p x = true
   ·rw [if_pos h,h];simp
   ·have h2:p x = false:=by simpa using h
    rw [if_neg h,h2,ih];rfl
structure WO where
 sec:List UInt8
 name:List UInt8
 val:List UInt8
 line:Int
def WO.cells (x:WO):List V:=[V.str x.sec,V.str x.name,V.str x.val,V.int x.line]
def WO.v (x:WO):V:=.agg x.cells
def arS (s:List UInt8):Bool:=s == [107,101,121,115] || (s == [97,110,99,104,111,114,115] || s == [104,97,115,104,101,115])
def Xq:=qd Proofs.Tryz.f108 []
def WS (Γ:Env) (f:Nat):Prop:=∀ (s:List UInt8),EvN Γ f [V.str s] (V.bool (arS s))
theorem vf {Γ:Env} {f:Nat} (h:Has Γ.P f 13 Xq.1.1.ac Xq.1.2) :WS Γ f:=by
 intro s
 refine Qb h zsi zcl zcl fun C hC hm=>?_
 subst hC
 simp only [Xq,qd,DC.ac]
 have e:arS s = (s == [107,101,121,115] || (s == [97,110,99,104,111,114,115] || s == [104,97,115,104,101,115])):=rfl
 rw [e]
 rcases h1:s == [107,101,121,115] with _|_<;>rcases h2:s == [97,110,99,104,111,114,115] with _|_
 all_goals
  (have zx:=za h1 h2);exact zg
def JO:=qd Proofs.Tryz.f38 []
def Yq (Γ:Env) (f:Nat):Prop:=∀ (y x:WO),EvN Γ f [y.v,.ro x.cells 0] (V.bool (y.name == x.name))
theorem K0 {Γ:Env} {f:Nat} (h:Has Γ.P f 9 JO.1.1.ac JO.1.2) :Yq Γ f:=by
 intro y x
 refine Qb h zsi zcl zcl fun C hC hm=>?_
 subst hC
 simp only [JO,qd,DC.ac]
 simp only [WO.v,WO.cells]
 exact zg
def QA:=qd Proofs.Tryz.f107 []
def QW (Γ:Env) (f:Nat):Prop:=∀ (xs:List WO) (g:Nat) (cap:List V) (p:WO→Bool) (hp:∀ x∈xs,EvN Γ g (WO.v x :: cap) (V.bool (p x))) (hcap:Qa cap) (hl:xs.length < 2 ^ 62),EvN Γ f [.sl 4 (xs.map WO.v),.clo g cap] (V.int (VS p 0 xs))
attribute [local go_sem] WO.cells WO.v in
theorem YL {Γ:Env} {f:Nat} (h:Has Γ.P f 19 QA.1.1.ac QA.1.2) :QW Γ f:=by
 intro xs g cap p hp hcap hl
 refine Qb h zsi zcl zcl fun C hC hm=>?_
 subst hC
 simp only [QA,qd,DC.ac]
 have s1:∀ o,JH o cap = cap:=fun o=>Jz o cap hcap
 have s2:∀ o B,Qu o B cap = True:=fun o B=>eq_true (Jb o B cap hcap)
 refine zgo ?_;repeat' first|exact zt|apply zan|intro hc
 refine Qt (ι:=Nat) (fun k=>k≤xs.length∧VS p k (xs.drop k) = VS p 0 xs) (fun k=>[(8,V.int k)]) (fun k=>xs.length - k) 0 (by omega) ⟨by simp,by simp⟩ zol (fun i hi=>by simp only [ovT,Jn,Nat.reduceEqDiff,reduceIte];(repeat' first|exact wX|refine jZ ?_ ?_|simp only [V.lt,ltL,and_self,and_true]|omega);exact Xc _ _ hcap) (by simp only [Nat.reduceAdd,ovT,Jn,Nat.reduceEqDiff,reduceIte,Xk,W8,aiv,u32,u33,u34,u35,u36,u37,u38,u39,and_self,and_true,true_and];first|rfl|exact Q0 _ _ hcap) fun k hk K' hL=>?_
 obtain ⟨hk,hinv⟩:=hk
 simp only [ovT,Jn,Nat.reduceEqDiff,reduceIte]
 rcases hd:xs.drop k with _|⟨y,r⟩
 ·have:=Qj hd
  rw [hd] at hinv
  have e1:decide ((k:Int) < (((xs.map WO.v).length:Nat):Int)) = false:=by simp;omega
  (have zx:=e1);refine zgo ?_;repeat' first|exact zt|apply zan|intro hc
  refine Qf _ rfl ?_
  simp only [go_sem]
  rw [← hinv];rfl
 ·obtain ⟨hk,hget,hr⟩:=Qe hd
  rw [hd] at hinv
  have hw:=Qd (k:=k) (by omega)
  have e1:decide ((k:Int) < (((xs.map WO.v).length:Nat):Int)) = true:=by simp;omega
  have hpy:=hp y (zj hget)
  by_cases hy:p y = true
  ·rw [hy] at hpy
   (have zy0:=hpy.b;have zx:=za hget (za hw (za e1 (za s1 s2))));refine zgo ?_;repeat' first|exact zt|apply zan|intro hc
   refine Qf _ rfl ?_;simp only [go_sem]
   rw [← hinv];simp [VS,hy]
  ·have hy':p y = false:=by simpa using hy
   rw [hy'] at hpy
   (have zy0:=hpy.b;have zx:=za hget (za hw (za e1 (za s1 s2))));refine zgo ?_;repeat' first|exact zt|apply zan|intro hc
   refine hL _ (k + 1) zet ⟨by omega,?_⟩ (by omega) zoe
   rw [hr,← hinv,VS,if_neg hy]
def Qx:=qd Proofs.Tryz.f39 []
def QN (Γ:Env) (f:Nat):Prop:=∀ (xs:List WO) (g:Nat) (cap:List V) (p:WO→Bool) (hp:∀ x∈xs,EvN Γ g (WO.v x :: cap) (V.bool (p x))) (hcap:Qa cap) (hl:xs.length < 2 ^ 62),EvN Γ f [.sl 4 (xs.map WO.v),.clo g cap] (V.bool (xs.any p))
theorem Yt {Γ:Env} {f:Nat} (h:Has Γ.P f 9 Qx.1.1.ac Qx.1.2) (z0:QW Γ 107):QN Γ f:=by
 intro xs g cap p hp hcap hl
 refine Qb h zsi zcl zcl fun C hC hm=>?_
 subst hC
 simp only [Qx,qd,DC.ac]
 have s1:∀ o,JH o cap = cap:=fun o=>Jz o cap hcap
 have s2:∀ o B,Qu o B cap = True:=fun o B=>eq_true (Jb o B cap hcap)
 have hi:=(z0 xs g cap p hp hcap hl).b
 have e1:=vW p xs 0
 (have zx:=za s1 (za s2 e1));exact zg
structure QO where
 kalg:Int
 kbits:Int
 kid:Int
 chain:List Qk
def QO.cells (x:QO):List V:=[V.int x.kalg,V.int x.kbits,V.int x.kid,.sl 15 (x.chain.map Qk.v)]
def QO.v (x:QO):V:=.agg x.cells
structure QO.Sm (x:QO):Prop where
 hl:x.chain.length < 2 ^ 60
 hc:∀ c∈x.chain,c.Sm
structure QM where
 name:List UInt8
 least:Int
 most:Int
 suites:List Int
 own:Bool
 idents:List QO
 anchors:List Int
 hashes:List Int
 fall:Bool
def QM.cells (e:QM):List V:=[V.str e.name,V.int e.least,V.int e.most,.sl 1 (e.suites.map V.int),V.bool e.own,.sl 4 (e.idents.map QO.v),.sl 1 (e.anchors.map V.int),.sl 1 (e.hashes.map V.int),V.bool e.fall]
def QM.v (e:QM):V:=.agg e.cells
structure QM.Sm (e:QM):Prop where
 hn:e.name.length < 2 ^ 30
 hs:e.suites.length < 2 ^ 30
 hi:e.idents.length < 2 ^ 30
 hx:∀ x∈e.idents,x.Sm
 ha:e.anchors.length < 2 ^ 30
 hh:e.hashes.length < 2 ^ 30
def ltI (a b:Int):Bool:=decide (a < b)
def yes {α:Type} (_:α):Bool:=true
def jM (l:List Int):Bool:=(!l.any apo) && decide l.Nodup
def aqH (l:List Int):Bool:=okP yes ltI l l.length
def wx (n:Int):Bool:=(Yu n).kind == 1
def QO.ok (x:QO):Bool:=W0 x.kalg x.kbits x.kid x.chain
def arx (e:QM):Bool:=xn e.name && (decide (e.least≥1) && (decide (e.least≤e.most) && (decide (e.most≤4) && jM e.suites)))
def arw (e:QM):Bool:=decide ((e.idents.length:Int)≤4) && (decide ((e.anchors.length:Int)≤16) && (aqH e.anchors && aqH e.hashes))
def asj (e:QM):Bool:=e.idents.all QO.ok
def aqT (e:QM):Bool:=e.anchors.all adE && e.hashes.all wx
def xJ (e:QM):Bool:=arx e && (arw e && (asj e && aqT e))
theorem ain {l:List Int} {x:Int} (h:x∈l) (hx:apo x = true):jM l = false:=by
 have:l.any apo = true:=kG.2 ⟨x,h,hx⟩
 simp [jM,this]
theorem ae9 {l:List Int} (h:¬ l.Nodup):jM l = false:=by simp [jM,h]
def X5:=qd Proofs.Tryz.f49 []
def VJ (Γ:Env) (f:Nat):Prop:=∀ (l:List Int) (hl:l.length < 2 ^ 30),EvN Γ f [.sl 1 (l.map V.int)] (V.bool (jM l))
theorem aai {Γ:Env} {f:Nat} (h:Has Γ.P f 29 X5.1.1.ac X5.1.2) (z0:WJ Γ 116) (z1:Qw Γ 117):VJ Γ f:=by
 intro l hl
 refine Qb h zsi zcl zcl fun C hC hm=>?_
 subst hC
 simp only [X5,qd,DC.ac]
 refine zgo ?_;repeat' first|exact zt|apply zan|intro hc
 refine Qt (ι:=Nat) (fun k=>k≤l.length∧(l.take k).any apo = false∧(l.take k).Nodup) (fun k=>[(9,V.int k)]) (fun k=>l.length - k) 0 (by omega) ⟨zw _,rfl,zV⟩ zol zlt zet fun k hk K' hL=>?_
 obtain ⟨hk,hg,hnd⟩:=hk
 simp only [ovT,Jn,Nat.reduceEqDiff,reduceIte]
 rcases hd:l.drop k with _|⟨x,r⟩
 ·have hkl:=Qj hd
  have e1:decide ((k:Int) < (((l.map V.int).length:Nat):Int)) = false:=by simp;omega
  rw [zb hkl] at hg hnd
  have hf:jM l = true:=by simp [jM,hg,hnd]
  rw [hf]
  (have zx:=e1);exact zg
 ·obtain ⟨hk',hget,hr⟩:=Qe hd
  have hw:=Qd (k:=k) (by omega)
  have e1:decide ((k:Int) < (((l.map V.int).length:Nat):Int)) = true:=by simp;omega
  have hsu:=(z0 x).b
  have hA:List.take (k - 0) (l.map V.int) = (l.take k).map V.int:=by rw [Nat.sub_zero,List.map_take]
  have hc1:=(z1 (l.take k) x (by rw [zM];omega)).b
  have hfi:=Kz x (l.take k) 0
  by_cases hx:1≤x∧x≤16
  ·have hsv:Xj x = .tup [(XD x).v,V.int 0]:=by rw [Xj,if_pos hx]
   rw [hsv] at hsu
   simp only [Qo.v,Qo.cells] at hsu
   by_cases hin:x∈l.take k
   ·rw [zu (hfi.2 hin)] at hc1
    rw [ae9 fun h=>agX h hget hin]
    (have zx:=za e1 (za hw (za hget hA)));exact zg
   ·rw [zv (fun h=>hin (hfi.1 h))] at hc1
    have hg2:(l.take (k + 1)).any apo = false:=by
     rw [zB,hget,List.any_append,hg];simp [apo];omega
    have hnd2:(l.take (k + 1)).Nodup:=by
     rw [zB,hget]
     exact kp.2 ⟨hnd,by simp,fun a ha b hb e=>by simp at hb;subst hb;subst e;exact hin ha⟩
    (have zx:=za e1 (za hw (za hget hA)));refine zgo ?_;repeat' first|exact zt|apply zan|intro hc
    all_goals exact hL _ (k + 1) zet ⟨by omega,hg2,hnd2⟩ (by omega) zoe
  ·have hbx:apo x = true:=by simp [apo];omega
   rw [ain (zj hget) hbx]
   have hsv:Xj x = .tup [vK.v,V.int 8]:=by rw [Xj,if_neg hx,XD,if_neg hx]
   rw [hsv] at hsu
   simp only [Qo.v,Qo.cells,vK] at hsu
   (have zx:=za e1 (za hw (za hget hA)));exact zg
def Xs:=qd Proofs.Tryz.f50 [zhn 14]
def WT (Γ:Env) (f:Nat):Prop:=∀ (l:List Int) (hl:l.length < 2 ^ 30),EvN Γ f [.sl 1 (l.map V.int)] (V.bool (aqH l))
theorem vh {Γ:Env} {f:Nat} (h:Has Γ.P f 24 Xs.1.1.ac Xs.1.2) :WT Γ f:=by
 intro l hl
 refine Qb h zsi zcl zcl fun C hC hm=>?_
 subst hC
 simp only [Xs,qd,DC.ac]
 have hlm:(l.map V.int).length = l.length:=zh _
 (have zx:=hlm);refine zgo ?_;repeat' first|exact zt|apply zan|intro hc
 refine Qt (ι:=Nat) (fun k=>k≤l.length∧okP yes ltI l k = true) (fun k=>[(6,V.int k)]) (fun k=>l.length - k) 0 (by omega) ⟨zw _,rfl⟩ zol zlt zet fun k hk K' hL=>?_
 obtain ⟨hk,hinv⟩:=hk
 simp only [ovT,Jn,Nat.reduceEqDiff,reduceIte]
 rcases hd:l.drop k with _|⟨x,r⟩
 ·have hkl:=Qj hd
  have e1:decide ((k:Int) < ((l.length:Nat):Int)) = false:=by simp;omega
  have hkk:k = l.length:=by omega
  subst hkk
  rw [show aqH l = true from hinv]
  (have zx:=e1);exact zg
 ·obtain ⟨hk',hget,hr⟩:=Qe hd
  have hw:=Qd (k:=k) (by omega)
  have e1:decide ((k:Int) < ((l.length:Nat):Int)) = true:=by simp;omega
  rcases k with _|k
  ·have hw0:IntKind.i64.wrap 1 = ((1:Nat):Int):=by decide
   have hg1:okP yes ltI l (0 + 1) = true:=by rw [acQ hget];rfl
   have e2:decide (((0:Nat):Int) > 0) = false:=rfl
   (have zx:=za e1 (za e2 (za hw (za hw0 hget))));refine zgo ?_;repeat' first|exact zt|apply zan|intro hc
   all_goals exact hL _ 1 zet ⟨by omega,hg1⟩ (by omega) zoe
  ·have e2:decide (((k + 1:Nat):Int) > 0) = true:=zu (by omega)
   have hw2:IntKind.i64.wrap (((k + 1:Nat):Int) - 1) = (k:Int):=by rw [Jc (by omega) (by omega)];omega
   obtain ⟨y,hgy⟩:∃ y,l[k]? = some y:=⟨_,zf (by omega)⟩
   have hnext:=vS (p:=yes) (q:=ltI) hget hgy
   rw [hinv] at hnext
   by_cases hb:y < x
   ·have e3:decide (y≥x) = false:=zv (by omega)
    (have zx:=za e1 (za e2 (za e3 (za hw (za hw2 (za hget hgy))))));refine zgo ?_;repeat' first|exact zt|apply zan|intro hc
    all_goals exact hL _ (k + 2) zet ⟨by omega,by rw [hnext];simp [yes,ltI,hb]⟩ (by omega) zoe
   ·have e3:decide (y≥x) = true:=zu (by omega)
    have hf:aqH l = false:=acR (k:=k + 2) (by rw [hnext];simp [ltI,hb]) (by omega)
    rw [hf]
    (have zx:=za e1 (za e2 (za e3 (za hw (za hw2 (za hget hgy))))));exact zg
def Vj:=qd Proofs.Tryz.f56 []
def WH (Γ:Env) (f:Nat):Prop:=∀ (n:Int),EvN Γ f [V.int n] (V.bool (wx n))
theorem ab5 {Γ:Env} {f:Nat} (h:Has Γ.P f 6 Vj.1.1.ac Vj.1.2) (z0:XM Γ 119):WH Γ f:=by
 intro n
 refine Qb h zsi zcl zcl fun C hC hm=>?_
 subst hC
 simp only [Vj,qd,DC.ac]
 unfold wx
 exact zg
def YI:=qd Proofs.Tryz.f53 []
def Yz (Γ:Env) (f:Nat):Prop:=∀ (k:Nat) (p:Int→Bool) (x:Int) (hp:EvN Γ k [V.int x] (V.bool (p x))),EvN Γ f [V.int x,.ro [.clo (.n k) []] 0] (V.bool (!p x))
theorem xE {Γ:Env} {f:Nat} (h:Has Γ.P f 8 YI.1.1.ac YI.1.2) :Yz Γ f:=by
 intro k p x hp
 refine Qb h zsi zcl zcl fun C hC hm=>?_
 subst hC
 simp only [YI,qd,DC.ac]
 have hq:=hp.b
 exact zg
def Xt:=qd Proofs.Tryz.f52 []
def WU (Γ:Env) (f:Nat):Prop:=(∃ g:Nat,Yz Γ g∧∀ k:Nat,EvC Γ f [.clo (.n k) []] (.clo (.n g) [.ro [.clo (.n k) []] 0]))
theorem vi {Γ:Env} {f:Nat} (h:Has Γ.P f 4 Xt.1.1.ac Xt.1.2) (z0:Yz Γ 53):WU Γ f:=by
 refine ⟨53,z0,fun k=>?_⟩
 refine Qn h (by simp) (by simp only [V.closed,Qa,and_self]) fun C hC hm=>?_
 subst hC
 simp only [Xt,qd,DC.ac]
 exact zg
def Jp:=qd Proofs.Tryz.f121 []
def J3 (Γ:Env) (f:Nat):Prop:=∀ (xs:List Int) (g:Nat) (cap:List V) (p:Int→Bool) (hp:∀ x∈xs,EvN Γ g (V.int x :: cap) (V.bool (p x))) (hcap:Qa cap) (hl:xs.length < 2 ^ 62),EvN Γ f [.sl 1 (xs.map V.int),.clo g cap] (V.int (VS p 0 xs))
attribute [local go_sem] zl in
theorem UK {Γ:Env} {f:Nat} (h:Has Γ.P f 19 Jp.1.1.ac Jp.1.2) :J3 Γ f:=by
 intro xs g cap p hp hcap hl
 refine Qb h zsi zcl zcl fun C hC hm=>?_
 subst hC
 simp only [Jp,qd,DC.ac]
 have s1:∀ o,JH o cap = cap:=fun o=>Jz o cap hcap
 have s2:∀ o B,Qu o B cap = True:=fun o B=>eq_true (Jb o B cap hcap)
 refine zgo ?_;repeat' first|exact zt|apply zan|intro hc
 refine Qt (ι:=Nat) (fun k=>k≤xs.length∧VS p k (xs.drop k) = VS p 0 xs) (fun k=>[(8,V.int k)]) (fun k=>xs.length - k) 0 (by omega) ⟨by simp,by simp⟩ zol (fun i hi=>by simp only [ovT,Jn,Nat.reduceEqDiff,reduceIte];(repeat' first|exact wX|refine jZ ?_ ?_|simp only [V.lt,ltL,and_self,and_true]|omega);exact Xc _ _ hcap) (by simp only [Nat.reduceAdd,ovT,Jn,Nat.reduceEqDiff,reduceIte,Xk,W8,aiv,u32,u33,u34,u35,u36,u37,u38,u39,and_self,and_true,true_and];first|rfl|exact Q0 _ _ hcap) fun k hk K' hL=>?_
 obtain ⟨hk,hinv⟩:=hk
 simp only [ovT,Jn,Nat.reduceEqDiff,reduceIte]
 rcases hd:xs.drop k with _|⟨y,r⟩
 ·have:=Qj hd
  rw [hd] at hinv
  have e1:decide ((k:Int) < (((xs.map V.int).length:Nat):Int)) = false:=by simp;omega
  (have zx:=e1);refine zgo ?_;repeat' first|exact zt|apply zan|intro hc
  refine Qf _ rfl ?_
  simp only [go_sem]
  rw [← hinv];rfl
 ·obtain ⟨hk,hget,hr⟩:=Qe hd
  rw [hd] at hinv
  have hw:=Qd (k:=k) (by omega)
  have e1:decide ((k:Int) < (((xs.map V.int).length:Nat):Int)) = true:=by simp;omega
  have hpy:=hp y (zj hget)
  by_cases hy:p y = true
  ·rw [hy] at hpy
   (have zy0:=hpy.b;have zx:=za hget (za hw (za e1 (za s1 s2))));refine zgo ?_;repeat' first|exact zt|apply zan|intro hc
   refine Qf _ rfl ?_;simp only [go_sem]
   rw [← hinv];simp [VS,hy]
  ·have hy':p y = false:=by simpa using hy
   rw [hy'] at hpy
   (have zy0:=hpy.b;have zx:=za hget (za hw (za e1 (za s1 s2))));refine zgo ?_;repeat' first|exact zt|apply zan|intro hc
   refine hL _ (k + 1) zet ⟨by omega,?_⟩ (by omega) zoe
   rw [hr,← hinv,VS,if_neg hy]
def Jd:=qd Proofs.Tryz.f54 []
def JA (Γ:Env) (f:Nat):Prop:=∀ (xs:List Int) (g:Nat) (cap:List V) (p:Int→Bool) (hp:∀ x∈xs,EvN Γ g (V.int x :: cap) (V.bool (p x))) (hcap:Qa cap) (hl:xs.length < 2 ^ 62),EvN Γ f [.sl 1 (xs.map V.int),.clo g cap] (V.bool (xs.any p))
theorem VP {Γ:Env} {f:Nat} (h:Has Γ.P f 9 Jd.1.1.ac Jd.1.2) (z0:J3 Γ 121):JA Γ f:=by
 intro xs g cap p hp hcap hl
 refine Qb h zsi zcl zcl fun C hC hm=>?_
 subst hC
 simp only [Jd,qd,DC.ac]
 have s1:∀ o,JH o cap = cap:=fun o=>Jz o cap hcap
 have s2:∀ o B,Qu o B cap = True:=fun o B=>eq_true (Jb o B cap hcap)
 have hi:=(z0 xs g cap p hp hcap hl).b
 have e1:=vW p xs 0
 (have zx:=za s1 (za s2 e1));exact zg
def WB:=qd Proofs.Tryz.f19 [⟨fun _=>true,[3,9],.one 0 (.one 1 (.one 2 (.one 3 (.one 4 (.one 5 (.one 6 (.one 8 (.or 7 (.one 9 (.one 10 (.one 11 (.done)))) (.or 9 (.one 7 (.one 10 (.one 11 (.done)))) (.done))))))))))⟩]
def V9 (Γ:Env) (f:Nat):Prop:=∀ (e:QM) (sm:e.Sm),EvN Γ f [e.v] (V.int (if xJ e = true then 0 else 19))
attribute [local go_sem] QO.cells QO.v in
theorem aa9 {Γ:Env} {f:Nat} (h:Has Γ.P f 83 WB.1.1.ac WB.1.2) (z0:WG Γ 48) (z1:VJ Γ 49) (z2:WT Γ 50) (z3:We Γ 51) (z4:WU Γ 52) (z5:J1 Γ 55) (z6:JA Γ 54) (z7:WH Γ 56):V9 Γ f:=by
 intro e sm
 refine Qb h zsi zcl zcl fun C hC hm=>?_
 subst hC
 simp only [WB,qd,DC.ac]
 have hw:=(z0 e.name sm.hn).b
 have hsu:=(z1 e.suites sm.hs).b
 have ha1:=(z2 e.anchors sm.ha).b
 have ha2:=(z2 e.hashes sm.hh).b
 obtain ⟨g,hg1,hg⟩:=z4
 have g1:=(hg 55).b
 have g2:=(hg 56).b
 have k1:=(z6 e.anchors g [.ro [.clo (.n 55) []] 0] (fun x=>!adE x) (fun x _=>hg1 55 adE x (z5 x)) (by simp [V.closed,Qa]) (by have:=sm.ha;omega)).b
 have k2:=(z6 e.hashes g [.ro [.clo (.n 56) []] 0] (fun x=>!wx x) (fun x _=>hg1 56 wx x (z7 x)) (by simp [V.closed,Qa]) (by have:=sm.hh;omega)).b
 have no1:arx e = false→(if xJ e = true then (0:Int) else 19) = 19:=fun h=>by simp [xJ,h]
 have no2:arw e = false→(if xJ e = true then (0:Int) else 19) = 19:=fun h=>by simp [xJ,h]
 have no3:asj e = false→(if xJ e = true then (0:Int) else 19) = 19:=fun h=>by simp [xJ,h]
 have no4:aqT e = false→(if xJ e = true then (0:Int) else 19) = 19:=fun h=>by simp [xJ,h]
 have lm1:(e.idents.map QO.v).length = e.idents.length:=zh _
 have lm2:(e.anchors.map V.int).length = e.anchors.length:=zh _
 have lm3:(e.hashes.map V.int).length = e.hashes.length:=zh _
 simp only [QM.v,QM.cells]
 rcases q1:arx e with _|_
 ·rw [no1 q1]
  rcases b1:xn e.name with _|_
  ·rw [b1] at hw
   exact zg
  rw [b1] at hw
  by_cases b2:e.least < 1
  ·have e2:decide (e.least < 1) = true:=zu b2
   (have zx:=e2);exact zg
  have e2:decide (e.least < 1) = false:=zv b2
  by_cases b3:e.least > e.most
  ·have e3:decide (e.least > e.most) = true:=zu b3
   (have zx:=za e2 e3);exact zg
  have e3:decide (e.least > e.most) = false:=zv b3
  by_cases b4:e.most > 4
  ·have e4:decide (e.most > 4) = true:=zu b4
   (have zx:=za e2 (za e3 e4));exact zg
  have e4:decide (e.most > 4) = false:=zv b4
  have b5:jM e.suites = false:=by
   rw [arx,b1,zu (by omega:e.least≥1),zu (by omega:e.least≤e.most),zu (by omega:e.most≤4)] at q1
   simpa using q1
  rw [b5] at hsu
  (have zx:=za e2 (za e3 e4));exact zg
 have p1:=q1
 simp only [arx,zA,zS] at p1
 obtain ⟨b1,b2,b3,b4,b5⟩:=p1
 rw [b1] at hw
 rw [b5] at hsu
 have e2:decide (e.least < 1) = false:=zv (by omega)
 have e3:decide (e.least > e.most) = false:=zv (by omega)
 have e4:decide (e.most > 4) = false:=zv (by omega)
 rcases q2:arw e with _|_
 ·rw [no2 q2]
  by_cases c1:(e.idents.length:Int) > 4
  ·have f1:decide ((e.idents.length:Int) > 4) = true:=zu c1
   (have zx:=za e2 (za e3 (za e4 (za lm1 f1))));exact zg
  have f1:decide ((e.idents.length:Int) > 4) = false:=zv c1
  by_cases c2:(e.anchors.length:Int) > 16
  ·have f2:decide ((e.anchors.length:Int) > 16) = true:=zu c2
   (have zx:=za e2 (za e3 (za e4 (za lm1 (za lm2 (za f1 f2))))));exact zg
  have f2:decide ((e.anchors.length:Int) > 16) = false:=zv c2
  rcases c3:aqH e.anchors with _|_
  ·rw [c3] at ha1
   (have zx:=za e2 (za e3 (za e4 (za lm1 (za lm2 (za f1 f2))))));exact zg
  rw [c3] at ha1
  have c4:aqH e.hashes = false:=by
   rw [arw,c3,zu (by omega:(e.idents.length:Int)≤4),zu (by omega:(e.anchors.length:Int)≤16)] at q2
   simpa using q2
  rw [c4] at ha2
  (have zx:=za e2 (za e3 (za e4 (za lm1 (za lm2 (za f1 f2))))));exact zg
 have p2:=q2
 simp only [arw,zA,zS] at p2
 obtain ⟨c1,c2,c3,c4⟩:=p2
 rw [c3] at ha1
 rw [c4] at ha2
 have f1:decide ((e.idents.length:Int) > 4) = false:=zv (by omega)
 have f2:decide ((e.anchors.length:Int) > 16) = false:=zv (by omega)
 (have zx:=za e2 (za e3 (za e4 (za lm1 (za lm2 (za f1 f2))))));refine zgo ?_;repeat' first|exact zt|apply zan|intro hc
 refine Qt (ι:=Nat) (fun k=>k≤e.idents.length∧(e.idents.take k).all QO.ok = true) (fun k=>[(58,V.int k)]) (fun k=>e.idents.length - k) 0 (by omega) ⟨zw _,rfl⟩ zol zlt zet fun k hk K' hL=>?_
 obtain ⟨hk,hinv⟩:=hk
 simp only [ovT,Jn,Nat.reduceEqDiff,reduceIte]
 rcases hd:e.idents.drop k with _|⟨x,r⟩
 ·have hkl:=Qj hd
  have e5:decide ((k:Int) < ((e.idents.length:Nat):Int)) = false:=by simp;omega
  have q3:asj e = true:=by rw [zb hkl] at hinv;exact hinv
  rcases d1:e.anchors.any (fun x=>!adE x) with _|_
  ·rw [d1] at k1
   rcases d2:e.hashes.any (fun x=>!wx x) with _|_
   ·rw [d2] at k2
    have q4:aqT e = true:=by
     rw [aqT,zA,kB,kB]
     rw [List.any_eq_false] at d1 d2
     exact ⟨fun x hx=>by simpa using d1 x hx,fun x hx=>by simpa using d2 x hx⟩
    have hc:xJ e = true:=by rw [xJ,q1,q2,q3,q4];rfl
    rw [if_pos hc]
    clear hc
    (have zx:=za e5 lm1);exact zg
   ·rw [d2] at k2
    obtain ⟨x,hx,hx2⟩:=kG.1 d2
    rw [no4 (by rw [aqT,ky.2 ⟨x,hx,by simpa using hx2⟩,zI])]
    (have zx:=za e5 lm1);exact zg
  ·rw [d1] at k1
   obtain ⟨x,hx,hx2⟩:=kG.1 d1
   rw [no4 (by rw [aqT,ky.2 ⟨x,hx,by simpa using hx2⟩,zD])]
   (have zx:=za e5 lm1);exact zg
 ·obtain ⟨hk',hget,hrr⟩:=Qe hd
  have hwk:=Qd (k:=k) (by omega)
  have e5:decide ((k:Int) < ((e.idents.length:Nat):Int)) = true:=by simp;omega
  have hm:=zj hget
  have hsh:=(z3 x.kalg x.kbits x.kid x.chain (sm.hx x hm).hl (sm.hx x hm).hc).b
  rcases hcb:QO.ok x with _|_
  ·have hcc:W0 x.kalg x.kbits x.kid x.chain = false:=hcb
   rw [hcc] at hsh
   rw [no3 (ky.2 ⟨x,hm,by simp [hcb]⟩)]
   (have zx:=za e5 (za hwk (za lm1 hget)));exact zg
  ·have hcc:W0 x.kalg x.kbits x.kid x.chain = true:=hcb
   rw [hcc] at hsh
   (have zx:=za e5 (za hwk (za lm1 hget)));refine zgo ?_;repeat' first|exact zt|apply zan|intro hc
   all_goals exact hL _ (k + 1) zet ⟨by omega,acq hget hinv hcb⟩ (by omega) zoe
inductive QY where
 | mk (tag:Int) (bytes:List UInt8) (nest:Bool) (els:List QY)
abbrev jF (b:List UInt8):List V:=b.map fun c=>V.sc (.int .u8 c.toNat)
mutual
def QY.v:QY→V
 | .mk t b n es=>.agg [V.int t,.sl 1 (jF b),V.bool n,.sl 4 (anw es)]
def anw:List QY→List V
 | []=>[]
 | x :: r=>x.v :: anw r
end
theorem agy:∀ es,anw es = es.map QY.v
 | []=>rfl
 | x :: r=>by rw [anw,agy r];rfl
theorem QY.v_eq (t:Int) (b:List UInt8) (n:Bool) (es:List QY):(QY.mk t b n es).v = .agg [V.int t,.sl 1 (jF b),V.bool n,.sl 4 (es.map QY.v)]:=by rw [QY.v,agy]
theorem QY.v_agg:∀ x:QY,∃ cs,x.v = .agg cs∧cs.length = 4∧Qa cs∧x.v.cells = cs
 | .mk t b n es=>⟨_,QY.v_eq t b n es,rfl,⟨trivial,trivial,trivial,trivial,trivial⟩,by rw [QY.v_eq];rfl⟩
theorem QY.v_closed (x:QY):x.v.closed:=by cases x;rw [QY.v_eq];simp only [V.closed,Qa,and_self]
def u8i (x:Int):UInt8:=UInt8.ofNat (x % 256).toNat
theorem ae6 (x:Int):IntKind.u8.wrap x = ((u8i x).toNat:Int):=by
 have e1:IntKind.u8.bits = 8:=rfl
 have e2:IntKind.u8.signed = false:=rfl
 simp only [IntKind.wrap,e1,e2,zD,u8i]
 simp [UInt8.toNat_ofNat'];omega
def aiI (x:Int) (b:List UInt8):Bool:=(!(x == 0) && !(x == -1)) || ((x == 0 && decide ((128:Int)≤((b.headD 0).toNat:Int))) || (x == -1 && decide (((b.headD 0).toNat:Int) < 128)))
def ag9:Nat→Int→List UInt8→List UInt8
 | 0,_,b=>b
 | k + 1,x,b=>if aiI x b then ag9 k (x.fdiv 256) (u8i x :: b) else b
def arW (n:Int):List UInt8:=ag9 9 (n.fdiv 256) [u8i n]
def xm (n:Int):QY:=.mk 2 (arW n) false []
theorem anO {j:Nat} {x:Int} (h1:-(256:Int) ^ (j + 1)≤x) (h2:x < (256:Int) ^ (j + 1)):-(256:Int) ^ j≤x.fdiv 256∧x.fdiv 256 < (256:Int) ^ j:=by
 rw [kK _ (by decide)]
 rw [Int.pow_succ] at h1 h2
 generalize (256:Int) ^ j = P at *
 constructor<;>omega
def amw (n:Int) (j:Nat) (x:Int) (b:List UInt8):Prop :=
 b≠[]∧b.length≤10 - j∧j≤9∧ag9 j x b = arW n∧(-9223372036854775808≤x∧x < 9223372036854775808)∧(j = 0→aiI x b = false)∧(∀ i,j = i + 1→-(256:Int) ^ i≤x∧x < (256:Int) ^ i)
theorem aiO {n:Int} (h0:-9223372036854775808≤n) (h1:n < 9223372036854775808):amw n 9 (n.fdiv 256) [u8i n]:=by
 have h2:-(256:Int) ^ 8≤n.fdiv 256∧n.fdiv 256 < (256:Int) ^ 8:=by
  rw [kK _ (by decide)]
  have:(256:Int) ^ 8 = 18446744073709551616:=by decide
  rw [this];constructor<;>omega
 refine ⟨by simp,by simp,by omega,rfl,?_,by omega,fun i hi=>?_⟩
 ·rw [kK _ (by decide)];constructor<;>omega
 ·obtain rfl:i = 8:=by omega
  exact h2
theorem akM {n:Int} {j:Nat} {x:Int} {b:List UInt8} (h:amw n j x b) (hm:aiI x b = true):∃ i,j = i + 1∧amw n i (x.fdiv 256) (u8i x :: b):=by
 obtain ⟨h1,h2,h3,h4,h5,h6,h7⟩:=h
 rcases j with _|i
 ·rw [h6 rfl] at hm;cases hm
 refine ⟨i,rfl,by simp,by simp;omega,by omega,?_,?_,fun hi=>?_,fun k hk=>?_⟩
 ·rw [← h4,ag9,if_pos hm]
 ·rw [kK _ (by decide)];constructor<;>omega
 ·subst hi
  have:=h7 0 rfl
  simp only [Int.pow_zero] at this
  have hx:x = 0∨x = -1:=by omega
  rcases hx with rfl|rfl<;>rfl
 ·subst hk
  exact anO (h7 _ rfl).1 (h7 _ rfl).2
theorem amv {n:Int} {j:Nat} {x:Int} {b:List UInt8} (h:amw n j x b) (hm:aiI x b = false):b = arW n:=by
 obtain ⟨h1,h2,h3,h4,h5,h6,h7⟩:=h
 rw [← h4]
 cases j with
 | zero=>rfl
 | succ i=>rw [ag9,if_neg (by rw [hm];decide)]
theorem ag0 {x:Int} {c:UInt8} {t:List UInt8} {p q r:Bool} (hp:(x == 0) = p) (hq:(x == -1) = q) (hr:decide ((c.toNat:Int) < 128) = r):aiI x (c :: t) = ((!p && !q) || ((p && !r) || (q && r))):=by
 have h2:(decide ((128:Int)≤(c.toNat:Int))) = !r:=by rw [← hr];by_cases h:(c.toNat:Int) < 128<;>simp [h]<;>omega
 unfold aiI
 rw [hp,hq]
 show ((!p && !q) || ((p && decide ((128:Int)≤(c.toNat:Int))) || (q && decide ((c.toNat:Int) < 128)))) = _
 rw [h2,hr]
theorem ajM {c:UInt8} {r:Bool} (hr:decide ((c.toNat:Int) < 128) = r):decide ((c.toNat:Int)≥128) = !r:=by rw [← hr];by_cases h:(c.toNat:Int) < 128<;>simp [h]<;>omega
def yl:=qd Proofs.Tryz.f270 []
def qK (Γ:Env) (f:Nat):Prop:=∀ (n:Int) (h0:-9223372036854775808≤n) (h1:n < 9223372036854775808),EvC Γ f [V.int n] ((xm n).v)
attribute [local go_sem] j9 Yo ae6 in
theorem ahv {Γ:Env} {f:Nat} (h:Has Γ.P f 45 yl.1.1.ac yl.1.2) :qK Γ f:=by
 intro n h0 h1
 refine Qn h zsi (QY.v_closed _) fun C hC hm=>?_
 subst hC
 simp only [yl,qd,DC.ac]
 simp only [xm,QY.v_eq]
 have s8:(8:Int).toNat≤IntKind.i64.bits:=by decide
 have s9:(2:Int) ^ 8 = 256:=by decide
 (have zx:=za s8 s9);refine zgo ?_;repeat' first|exact zt|apply zan|intro hc
 refine Qz (ι:=Nat×Int×List UInt8) (fun q=>amw n q.1 q.2.1 q.2.2) (fun q=>Yo [(2,.ptr 0 0),(3,.hd 1 0 q.2.2.length),(4,V.int q.2.1)] [(0,.box true [V.int 0,.hd 2 0 0,V.bool false,.hd 3 0 0]),(1,.buf true 1 (jF q.2.2)),(2,.buf true 1 []),(3,.buf true 4 [])] 4) (fun q=>q.1) (9,n.fdiv 256,[u8i n]) (aiO h0 h1) (Qp [(1,3000),(3,4)]) (JS [(1,3000),(3,4)] (by simp only [go_sem,zwl,jF,zm,zl,List.length_cons,List.length_nil]<;>exact zcc) (by simp only [go_sem,zwl,jF,zm,zl,List.length_cons,List.length_nil]<;>exact zcc) (by simp [Qp]) (by simp;omega) (by omega)) fun q hq K' hL=>?_
 obtain ⟨j,x,b⟩:=q
 simp only at hq hL ⊢
 rcases b with _|⟨c,t⟩
 ·exact absurd rfl hq.1
 have hlen:=hq.2.1
 rw [List.length_cons] at hlen
 have htl:t.length≤10:=by omega
 have hbnd:=hq.2.2.2.2.1
 have tk:List.take t.length (t.map fun c=>V.sc (.int .u8 c.toNat)) = t.map fun c=>V.sc (.int .u8 c.toNat):=zb (by simp)
 have hgo:=hq.2.2.2.1
 rcases hmm:aiI x (c :: t) with _|_
 ·have hbe:=amv hq hmm
  rcases hp:(x == 0) with _|_<;>rcases hv:(x == -1) with _|_<;>rcases hr:decide ((c.toNat:Int) < 128) with _|_
  all_goals
   have hm:=ag0 (t:=t) hp hv hr
   have hge:=ajM hr
   have hp2:(x != 0) = !(x == 0):=rfl
   have hv2:(x != -1) = !(x == -1):=rfl
   rw [hp] at hp2
   rw [hv] at hv2
   rw [hmm] at hm
   simp only [kW,kH,zT,zI,kR,Zr,kh,Zu,Bool.true_eq_false,zk] at hm hge hp2 hv2
  all_goals
   (have zx:=za s8 (za s9 (za hge (za hr (za hp (za hv (za hp2 (za hv2 tk))))))));refine zgo ?_;repeat' first|exact zt|apply zan|intro hc
  all_goals first|(rw [← hbe];refine Qf _ rfl ?_;simp only [go_sem,jF,zm,List.take_succ_cons,ku,tk];done)|(rw [← hbe];refine Qf _ rfl ?_;simp only [go_sem,jF,zm,List.take_succ_cons,ku,tk];trace_state)
 ·obtain ⟨i,rfl,hn⟩:=akM hq hmm
  rcases hp:(x == 0) with _|_<;>rcases hv:(x == -1) with _|_<;>rcases hr:decide ((c.toNat:Int) < 128) with _|_
  all_goals
   have hm:=ag0 (t:=t) hp hv hr
   have hge:=ajM hr
   have hp2:(x != 0) = !(x == 0):=rfl
   have hv2:(x != -1) = !(x == -1):=rfl
   rw [hp] at hp2
   rw [hv] at hv2
   rw [hmm] at hm
   simp only [kW,kH,zT,zI,kR,Zr,kh,Zu,Bool.true_eq_false,zk] at hm hge hp2 hv2
  all_goals
   (have zx:=za s8 (za s9 (za hge (za hr (za hp (za hv (za hp2 (za hv2 tk))))))));refine zgo ?_;repeat' first|exact zt|apply zan|intro hc
  all_goals exact hL _ (i,x.fdiv 256,u8i x :: c :: t) (Qp [(1,30004)]) hn (kf _) (JS [(1,30004)] (by simp only [go_sem,zwl,jF,zm,List.length_cons,zh,Zk 1]<;>exact zcc) (by simp only [go_sem,zwl,jF,zm]<;>exact zcc) (by simp [Qp]) (by simp;omega) (by omega))
mutual
def QY.siz:QY→Nat
 | .mk _ b _ es=>1 + b.length + wK es
def wK:List QY→Nat
 | []=>0
 | x :: r=>x.siz + wK r
end
mutual
def QY.dep:QY→Nat
 | .mk _ _ _ es=>amT es + 1
def amT:List QY→Nat
 | []=>0
 | x :: r=>max x.dep (amT r)
end
theorem apG:∀ x:QY,1≤x.siz
 | .mk _ _ _ _=>by rw [QY.siz];omega
theorem acA:∀ es:List QY,es.length≤wK es
 | []=>zi _
 | x :: r=>by have:=acA r;have:=apG x;rw [wK,List.length_cons];omega
theorem afb {es:List QY} {x:QY}:∀ {k:Nat},es[k]? = some x→x.siz≤wK es:=by
 induction es with
 | nil=>intro k h;simp at h
 | cons y r ih =>
   intro k h
   rw [wK]
   cases k with
   | zero=>simp at h;subst h;omega
   | succ k=>have:=ih (k:=k) (by simpa using h);omega
mutual
theorem aqh:∀ x:QY,x.dep≤x.siz
 | .mk _ b _ es=>by have:=afW es;rw [QY.dep,QY.siz];omega
theorem afW:∀ es:List QY,amT es≤wK es
 | []=>zi _
 | x :: r=>by have:=aqh x;have:=afW r;rw [amT,wK];omega
end
def apz (n:Int):Bool:=decide (n≥1) && (decide (n≤255) && (n.tmod 32 != 31))
def yj:=qd Proofs.Tryz.f286 []
def wa (Γ:Env) (f:Nat):Prop:=∀ (n:Int),EvN Γ f [V.int n] (V.bool (apz n))
theorem aht {Γ:Env} {f:Nat} (h:Has Γ.P f 14 yj.1.1.ac yj.1.2) :wa Γ f:=by
 intro n
 refine Qb h zsi zcl zcl fun C hC hm=>?_
 subst hC
 simp only [yj,qd,DC.ac]
 rcases h1:decide (n≥1) with _|_<;>rcases h2:decide (n≤255) with _|_
 all_goals
  have e:apz n = (decide (n≥1) && (decide (n≤255) && (n.tmod 32 != 31))):=rfl
  rw [h1,h2] at e
  simp only [zD,zC] at e
  rw [e]
  (have zx:=za h1 h2);exact zg
def yk (afu:Nat):AC:=Ue [1] (.reg [xo 1 (.box true 4 (.t 0)),mc 2 (V.int 0)]) (Ue [1,3] (.reg [mc 3 (V.int 0)]) (Ue [3] (Ue [1,3,4] (.reg [mc 4 (V.int 0)]) (.block 0 (afn [1,3,4] (Ue [1,3,4] (Ue [1,3,4,9] (.reg [mv 5 4,fa 6 3 1,ld 7 1 6,ln 8 7,bn 9 .lss 5 8]) (.cond (.t 9) .skip (.exit 0))) (Ue [1,3,4] (.block 1 (.reg [mv 12 3,fa 13 3 1,ld 14 1 13,mv 15 4,ia 16 4 14 15,xo 17 (.load true 4 (.t 16)),cl 18 afu [17],xo 19 (.mm true [(.t 12),(.t 18)]),mv 3 19])) (.reg [mv 10 4,bc 11 .add 10 (V.int 1),mv 4 11])))))) (Ue [2] (.reg [mv 20 3,bc 21 .add 20 (V.int 1),mv 2 21]) .ret))) def Zv:List Uc:=[.tmp 2]
def jt (Γ:Env) (f:Nat):Prop:=∀ (x:QY) (hx:x.siz < 2 ^ 40),EvN Γ f [x.v] (V.int x.dep)
attribute [local go_sem] QY.v_eq in
theorem ad8 {Γ:Env} {f:Nat} (h:Has Γ.P f 22 (yk f) Zv) :jt Γ f:=by
 suffices H:∀ (kk:Nat),∀ (x:QY) (hx:x.siz < 2 ^ 40),x.siz < kk→EvN Γ f [x.v] (V.int x.dep) from fun x hx=>H _ x hx (kf _)
 intro kk;induction kk with
 | zero=>intros;rename_i hk;exact absurd hk (kV _)
 | succ kk ih =>
 intro x hx hk
 refine Qb h zsi zcl zcl fun C hC hm=>?_
 subst hC
 unfold yk
 obtain ⟨t,b,n,es⟩:=x
 simp only [QY.v_eq,QY.dep]
 have hsz:wK es < (QY.mk t b n es).siz:=by rw [QY.siz];omega
 have hle:=acA es
 have hdl:=afW es
 have hwe:IntKind.i64.wrap ((amT es:Int) + 1) = ((amT es + 1:Nat):Int):=Qd (by omega)
 refine zgo ?_;repeat' first|exact zt|apply zan|intro hc
 refine Qt (ι:=Nat×Nat) (fun q=>q.1≤es.length∧max q.2 (amT (es.drop q.1)) = amT es) (fun q=>[(3,V.int q.2),(4,V.int q.1)]) (fun q=>es.length - q.1) (0,0) (by omega) ⟨zw _,by simp⟩ zol zlt zet fun q hq K' hL=>?_
 obtain ⟨k,d⟩:=q
 simp only at hq hL ⊢
 obtain ⟨hk,hinv⟩:=hq
 simp only [ovT,Jn,Nat.reduceEqDiff,reduceIte]
 rcases hd:es.drop k with _|⟨y,r⟩
 ·have hkl:=Qj hd
  have e1:decide ((k:Int) < (((es.map QY.v).length:Nat):Int)) = false:=by simp;omega
  rw [hd] at hinv
  have hde:d = amT es:=by rw [← hinv,amT];omega
  subst hde
  (have zx:=za e1 hwe);exact zg
 ·obtain ⟨hk',hget,hr⟩:=Qe hd
  rw [hd] at hinv
  have hw:=Qd (k:=k) (by omega)
  have e1:decide ((k:Int) < (((es.map QY.v).length:Nat):Int)) = true:=by simp;omega
  have hys:=afb hget
  obtain ⟨yt,yb,yn,ye⟩:=y
  have hi:=(ih (.mk yt yb yn ye) (by omega) (by omega)).b
  rw [QY.v_eq] at hi
  have hmx:(if (d:Int) < (((QY.mk yt yb yn ye).dep:Nat):Int) then (((QY.mk yt yb yn ye).dep:Nat):Int) else (d:Int)) = ((max d (QY.mk yt yb yn ye).dep:Nat):Int):=by split<;>omega
  have hsk:([V.int ((QY.mk yt yb yn ye).dep:Nat)].all (UZ IntKind.i64)) = true:=rfl
  (have zx:=za e1 (za hw (za hget (za hmx hsk))));refine zgo ?_;repeat' first|exact zt|apply zan|intro hc
  all_goals exact hL _ (k + 1,max d (QY.mk yt yb yn ye).dep) zet ⟨hk',by rw [hr,← hinv];simp only [amT];omega⟩ (by simp only;omega) zoe
def hdB (t:Int) (b:List UInt8) (n:Bool) (es:List QY):Bool:=apz t && (!(n != ((t.tdiv 32).tmod 2 == 1)) && (!(n && decide ((b.length:Int) > 0)) && !(!n && decide ((es.length:Int) > 0))))
mutual
def QY.fB:QY→Bool
 | .mk t b n es=>hdB t b n es && fL es
def fL:List QY→Bool
 | []=>true
 | x :: r=>x.fB && fL r
end
theorem apy {t:Int} (h:apz t = true):1≤t∧t≤255:=by
 simp only [apz,zA,zS] at h
 exact ⟨h.1,h.2.1⟩
theorem af3 (b:List UInt8):(jF b).length = b.length:=zh _
theorem aqb {es:List QY} {k:Nat} {y:QY} (h:es[k]? = some y) (hf:y.fB = false):fL es = false:=by
 induction es generalizing k with
 | nil=>simp at h
 | cons x r ih =>
   rw [fL]
   cases k with
   | zero=>simp at h;subst h;rw [hf];rfl
   | succ k=>rw [ih (k:=k) (by simpa using h),zI]
def qU (j4 adP:Nat):AC:=Ue [1] (.reg [xo 1 (.box true 4 (.t 0)),mc 2 (V.bool false)]) (Ue [1] (Ue [1,38] (.reg [fa 4 0 1,ld 5 1 4,cl 6 j4 [5],xo 7 (.un .not (.t 6)),mv 8 7,xg 9 (.faddr 2 (.t 1)) 8 false,xg 10 (.load false 1 (.t 9)) 8 false,xg 11 (.faddr 0 (.t 1)) 8 false,xg 12 (.load false 1 (.t 11)) 8 false,xg 13 (.bin .quo (.t 12) (.c (V.int 32))) 8 false,xg 14 (.bin .rem (.t 13) (.c (V.int 2))) 8 false,xg 15 (.bin .eql (.t 14) (.c (V.int 1))) 8 false,xg 16 (.eqb true (.t 10) (.t 15)) 8 false,xo 17 (.pick (.t 8) (.c (V.bool true)) (.t 16)),mv 18 17,xg 19 (.faddr 2 (.t 1)) 18 false,xg 20 (.load false 1 (.t 19)) 18 false,mg 21 20 18 false,xg 22 (.faddr 1 (.t 1)) 21 true,xg 23 (.load false 1 (.t 22)) 21 true,xg 24 (.lenL (.t 23)) 21 true,xg 25 (.bin .gtr (.t 24) (.c (V.int 0))) 21 true,xg 26 (.pick (.t 21) (.t 25) (.c (V.bool false))) 18 false,xo 27 (.pick (.t 18) (.c (V.bool true)) (.t 26)),mv 28 27,xg 29 (.faddr 2 (.t 1)) 28 false,xg 30 (.load false 1 (.t 29)) 28 false,xg 31 (.un .not (.t 30)) 28 false,mg 32 31 28 false,xg 33 (.faddr 3 (.t 1)) 32 true,xg 34 (.load false 1 (.t 33)) 32 true,xg 35 (.lenL (.t 34)) 32 true,xg 36 (.bin .gtr (.t 35) (.c (V.int 0))) 32 true,xg 37 (.pick (.t 32) (.t 36) (.c (V.bool false))) 28 false,xo 38 (.pick (.t 28) (.c (V.bool true)) (.t 37))]) (.cond (.t 38) (Ue [2] (.reg [mc 2 (V.bool false)]) .ret) .skip)) (Ue [] (Ue [1,3] (.reg [mc 3 (V.int 0)]) (.block 0 (afn [1,3] (Ue [1,3] (Ue [1,3,43] (.reg [mv 39 3,fa 40 3 1,ld 41 1 40,ln 42 41,bn 43 .lss 39 42]) (.cond (.t 43) .skip (.exit 0))) (Ue [1,3] (.block 1 (Ue [1,3,52] (.reg [fa 46 3 1,ld 47 1 46,mv 48 3,ia 49 4 47 48,xo 50 (.load true 4 (.t 49)),cl 51 adP [50],xo 52 (.un .not (.t 51))]) (.cond (.t 52) (Ue [2] (.reg [mc 2 (V.bool false)]) .ret) .skip))) (.reg [mv 44 3,bc 45 .add 44 (V.int 1),mv 3 45])))))) (Ue [2] (.reg [mc 2 (V.bool true)]) .ret))) def Zw:List Uc:=[.tmp 2]
def KM (Γ:Env) (f:Nat):Prop:=∀ (x:QY) (hx:x.siz < 2 ^ 40),EvN Γ f [x.v] (V.bool x.fB)
attribute [local go_sem] QY.v_eq in
theorem ac5 {Γ:Env} {f j4:Nat} (h:Has Γ.P f 53 (qU j4 f) Zw) (z0:wa Γ j4):KM Γ f:=by
 suffices H:∀ (kk:Nat),∀ (x:QY) (hx:x.siz < 2 ^ 40),x.siz < kk→EvN Γ f [x.v] (V.bool x.fB) from fun x hx=>H _ x hx (kf _)
 intro kk;induction kk with
 | zero=>intros;rename_i hk;exact absurd hk (kV _)
 | succ kk ih =>
 intro x hx hk
 refine Qb h zsi zcl zcl fun C hC hm=>?_
 subst hC
 unfold qU
 obtain ⟨t,b,n,es⟩:=x
 simp only [QY.v_eq,QY.fB]
 have hsz:wK es < (QY.mk t b n es).siz:=by rw [QY.siz];omega
 have hle:=acA es
 have htg:=(z0 t).b
 have hlb:((jF b).length:Int) = (b.length:Int):=by rw [af3]
 have hle2:((es.map QY.v).length:Int) = (es.length:Int):=by rw [zh]
 have hdl:hdB t b n es = (apz t && (!(n != ((t.tdiv 32).tmod 2 == 1)) && (!(n && decide ((b.length:Int) > 0)) && !(!n && decide ((es.length:Int) > 0))))):=rfl
 refine aaw fun K' hK=>?_
 simp (maxSteps:=1000000) only [go_sem]
 refine hK _ ?_
 clear hK
 clear K'
 (try simp only [go_sem])
 refine akc (ι:=Unit) (fun _=>hdB t b n es = true) (fun _=>Yo [(1,.ptr 0 0)] [(0,.box true [V.int t,.sl 1 (jF b),V.bool n,.sl 4 (es.map QY.v)])] 1) (fun K' hK'=>?_) (fun _ hgood=>?_)
 ·rcases h1:apz t with _|_
  ·have hf:hdB t b n es = false:=by rw [hdl,h1];rfl
   rw [hf]
   rw [h1] at htg
   exact zg
  ·rw [h1] at htg
   have htb:=apy h1
   have hwq:IntKind.i64.wrap (t.tdiv 32) = t.tdiv 32:=by
    rw [Int.tdiv_eq_ediv_of_nonneg (by omega)];exact Jc (by omega) (by omega)
   rcases n with _|_<;>rcases h3:((t.tdiv 32).tmod 2 == 1) with _|_<;>rcases h4:decide ((b.length:Int) > 0) with _|_<;>rcases h5:decide ((es.length:Int) > 0) with _|_
   all_goals
    rw [h1,h3,h4,h5] at hdl
    simp only [kW,kH,zT,zI,zC,zD,Bool.bne_true,Bool.bne_false,Bool.true_bne,Bool.false_bne,bne_self_eq_false] at hdl
    (have zx:=za hlb (za hle2 (za hwq (za h3 (za h4 h5)))));refine zgo ?_;repeat' first|exact zt|apply zan|intro hc
   all_goals first|(rw [hdl];refine Qf _ rfl ?_;simp only [go_sem];done)|exact hK' _ () (Qp []) hdl (zwg [])
 ·rw [hgood,zC]
  simp only [Yo]
  refine zgo ?_;repeat' first|exact zt|apply zan|intro hc
  refine Qt (ι:=Nat) (fun k=>k≤es.length∧fL (es.drop k) = fL es) (fun k=>[(3,V.int k)]) (fun k=>es.length - k) 0 (by omega) ⟨zw _,by simp⟩ zol zlt zet fun k hk K' hL=>?_
  obtain ⟨hk,hinv⟩:=hk
  simp only [ovT,Jn,Nat.reduceEqDiff,reduceIte]
  rcases hd:es.drop k with _|⟨y,r⟩
  ·have hkl:=Qj hd
   have e1:decide ((k:Int) < (((es.map QY.v).length:Nat):Int)) = false:=by simp;omega
   rw [hd] at hinv
   rw [← hinv,fL]
   (have zx:=e1);exact zg
  ·obtain ⟨hk',hget,hr⟩:=Qe hd
   rw [hd,fL] at hinv
   have hw:=Qd (k:=k) (by omega)
   have e1:decide ((k:Int) < (((es.map QY.v).length:Nat):Int)) = true:=by simp;omega
   have hys:=afb hget
   obtain ⟨yt,yb,yn,ye⟩:=y
   have hi:=(ih (.mk yt yb yn ye) (by omega) (by omega)).b
   rw [QY.v_eq] at hi
   rcases hy:(QY.mk yt yb yn ye).fB with _|_
   ·rw [hy] at hi
    rw [aqb hget hy]
    (have zx:=za e1 (za hw hget));exact zg
   ·rw [hy,zC] at hinv
    rw [hy] at hi
    (have zx:=za e1 (za hw hget));refine zgo ?_;repeat' first|exact zt|apply zan|intro hc
    all_goals exact hL _ (k + 1) zet ⟨hk',by rw [hr,← hinv]⟩ (by omega) zoe
end Av
end
