/- W22 -/
import Derived.Test.YtlpaikjhphkioaaGreatW21
import Derived.Test.YtlpaikjhphkioaaGreatW12
import Derived.Test.YtlpaikjhphkioaaGreatW14
set_option linter.unusedVariables false
set_option linter.unusedSimpArgs false
noncomputable section
set_option maxRecDepth 10000
set_option maxHeartbeats 4000000
namespace Av
open Go
attribute [local irreducible] AWp Vy K7 jE awS awC aaG awQ abg QW Uc vZ awR Uj awB okR jt ris
theorem ajY {α:Type} {p:α→Bool} {l r:List α} {k:Nat} {x:α} (h:l.drop k = x :: r):(l.drop k).any p = (p x || (l.drop (k + 1)).any p):=by
 obtain ⟨_,_,hr⟩:=Qm h
 rw [h,List.any_cons,hr]
def Uy (c:UInt8):Bool:=decide ((c.toNat:Int)≤32) || decide ((c.toNat:Int) > 126)
def QT (s:List UInt8):Bool:=!s.any Uy && (decide ((s.length:Int)≥1) && decide ((s.length:Int)≤32))
def KZ:=qd Proofs.Tryz.f81 []
def jm (Γ:Env) (f:Nat):Prop:=∀ (s:List UInt8) (hs:s.length < 2 ^ 60),EvN Γ f [V.str s] (V.bool (QT s))
theorem aeL {Γ:Env} {f:Nat} (h:Has Γ.P f 28 KZ.1.1.ac KZ.1.2) :jm Γ f:=by
 intro s hs
 refine Qb h zsi zcl zcl fun C hC hm=>?_
 subst hC
 simp only [KZ,qd,DC.ac]
 by_cases h0:s.length < 1
 ·have e1:decide ((s.length:Int) < 1) = true:=zo (by omega)
  have e2:QT s = false:=by unfold QT;rw [zp (by omega:¬ (s.length:Int)≥1)];simp
  rw [e2]
  (have zx:=e1);exact zg
 have e1:decide ((s.length:Int) < 1) = false:=zp (by omega)
 by_cases h1:s.length > 32
 ·have e3:decide ((s.length:Int) > 32) = true:=zo (by omega)
  have e2:QT s = false:=by unfold QT;rw [zp (by omega:¬ (s.length:Int)≤32)];simp
  rw [e2]
  (have zx:=za e1 e3);exact zg
 have e3:decide ((s.length:Int) > 32) = false:=zp (by omega)
 have e2:QT s = !s.any Uy:=by unfold QT;rw [zo (by omega:(s.length:Int)≤32),zo (by omega:(s.length:Int)≥1)];simp
 rw [e2]
 (have zx:=za e1 e3);refine zgo ?_;repeat' first|exact zt|apply zan|intro hc
 refine Qz (ι:=Nat) (fun k=>k≤s.length∧(s.drop k).any Uy = s.any Uy) (fun k=>[(3,V.int k)]) (fun k=>s.length - k) 0 (by omega) ⟨by simp,by simp⟩ zol zlt zet fun k hk K' hL=>?_
 obtain ⟨hk,hinv⟩:=hk
 simp only [ovT,JE,Nat.reduceEqDiff,reduceIte]
 rcases hd:s.drop k with _|⟨c,r⟩
 ·have:=Qt hd
  rw [hd] at hinv
  have e4:decide ((k:Int) < ((s.length:Nat):Int)) = false:=by simp;omega
  rw [← hinv]
  (have zx:=e4);refine zgo ?_;repeat' first|exact zt|apply zan|intro hc
  all_goals first|exact zr|(refine Ql _ rfl ?_;simp only [go_sem];simp;done)
 ·obtain ⟨hk',hget,hr⟩:=Qm hd
  have hst:=ajY (p:=Uy) hd
  rw [hinv] at hst
  have hw:=Qg (k:=k) (by omega)
  have e4:decide ((k:Int) < ((s.length:Nat):Int)) = true:=by simp;omega
  have e5:decide ((c.toNat:Int) < 33) = decide ((c.toNat:Int)≤32):=decide_eq_decide.2 (by omega)
  rcases h2:decide ((c.toNat:Int)≤32) with _|_
  ·rcases h3:decide ((c.toNat:Int) > 126) with _|_
   ·have hb:Uy c = false:=by unfold Uy;rw [h2,h3];rfl
    rw [hb,ZS] at hst
    (have zx:=za e4 (za hw (za hget (za e5 (za h2 h3)))));refine zgo ?_;repeat' first|exact zt|apply zan|intro hc
    all_goals first
     | exact hL _ (k + 1) zet ⟨by omega,hst.symm⟩ (by omega) zoe
   ·have hb:Uy c = true:=by unfold Uy;rw [h3,ZO]
    rw [hb,Zl] at hst
    rw [hst]
    (have zx:=za e4 (za hw (za hget (za e5 (za h2 h3)))));exact zg
  ·have hb:Uy c = true:=by unfold Uy;rw [h2,Zl]
   rw [hb,Zl] at hst
   rw [hst]
   (have zx:=za e4 (za hw (za hget (za e5 h2))));exact zg
def okP {α:Type} (p:α→Bool) (q:α→α→Bool) (l:List α) (k:Nat):Bool:=(List.range k).all fun i=>match l[i]? with|some x=>p x && (i == 0 || match l[i - 1]? with|some y=>q y x|none=>false)|none=>false
theorem aif {α:Type} (p:α→Bool) (q:α→α→Bool) (l:List α):okP p q l 0 = true:=rfl
theorem abn {α:Type} (p:α→Bool) (q:α→α→Bool) (l:List α) (k:Nat):okP p q l (k + 1) = (okP p q l k && match l[k]? with|some x=>p x && (k == 0 || match l[k - 1]? with|some y=>q y x|none=>false)|none=>false):=by
 rw [okP,okP,ZG,List.all_append];simp
theorem akR {α:Type} {p:α→Bool} {q:α→α→Bool} {l:List α} {k n:Nat} (h:okP p q l k = false) (hk:k≤n):okP p q l n = false:=by
 rw [okP,List.all_eq_false] at h ⊢
 obtain ⟨i,hi,h⟩:=h
 exact ⟨i,Zh.2 (k9 (Zh.1 hi) hk),h⟩
theorem akP {α:Type} {p:α→Bool} {q:α→α→Bool} {l:List α} {x:α} (h:l[0]? = some x):okP p q l 1 = p x:=by
 rw [abn,aif,h];simp
theorem aig {α:Type} {p:α→Bool} {q:α→α→Bool} {l:List α} {k:Nat} {x y:α} (h:l[k + 1]? = some x) (h':l[k]? = some y):okP p q l (k + 2) = (okP p q l (k + 1) && (p x && q y x)):=by
 rw [abn,h];simp [h']
def aoc (a b k:Int):Bool:=decide (QE a b > 0) && ((XY a).kind == k)
def aqS (n:Int):Bool:=decide (n≥0) && decide (n≤2147483648)
def arz (n:Int):Bool:=decide (n≥0) && decide (n < 4294967296)
def apR (l:List (List UInt8)):Bool:=okP QT Op.bytesLess l l.length && decide ((l.length:Int)≤8)
structure v7 where
 serial:Int
 issuer:List UInt8
 subject:List UInt8
 kalg:Int
 kbits:Int
 kid:Int
 halg:Int
 hbits:Int
 from_:Int
 to_:Int
 auth:Bool
 path:Int
 names:List (List UInt8)
 skey:Int
 ssum:Int
def v7.cells (c:v7):List V:=[V.int c.serial,V.str c.issuer,V.str c.subject,V.int c.kalg,V.int c.kbits,V.int c.kid,V.int c.halg,V.int c.hbits,V.int c.from_,V.int c.to_,V.bool c.auth,V.int c.path,.sl 1 (c.names.map V.str),V.int c.skey,V.int c.ssum]
def v7.v (c:v7):V:=.agg c.cells
def ard (c:v7):Bool:=decide (c.serial < 0) || (decide (c.serial > 1099511627776) || (!QT c.issuer || (!QT c.subject || !apR c.names)))
def arc (c:v7):Bool:=!aoc c.kalg c.kbits 2 || (!aqS c.kid || (!aoc c.halg c.hbits 1 || (!aqS c.skey || !arz c.ssum)))
def arb (c:v7):Bool:=decide (c.from_ < 0) || (decide (c.from_ > c.to_) || decide (c.to_ > 40000))
def ara (c:v7):Bool:=decide (c.path≥0) && (decide (c.path≤8) && (c.auth || (c.path == 0)))
def aq9 (c:v7):Bool:=!ard c && (!arc c && (!arb c && ara c))
def W5:=qd Proofs.Tryz.f136 []
def Wf (Γ:Env) (f:Nat):Prop:=∀ (s:List UInt8) (hs:s.length < 2 ^ 60),EvN Γ f [V.str s] (V.bool (QT s))
attribute [local go_sem] Jk in
theorem abc {Γ:Env} {f:Nat} (h:Has Γ.P f 27 W5.1.1.ac W5.1.2) :Wf Γ f:=by
 intro s hs
 refine Qb h zsi zcl zcl fun C hC hm=>?_
 subst hC
 simp only [W5,qd,DC.ac]
 refine zgo ?_;repeat' first|exact zt|apply zan|intro hc
 refine Qp (ι:=Nat) (fun k=>k≤s.length∧(s.drop k).any Uy = s.any Uy) (fun k=>Jk [(0,V.str s),(6,.hd 0 0 s.length),(7,V.int s.length),(8,V.int k)] [(0,.buf false 1 (s.map fun c=>V.sc (.int .u8 c.toNat)))] 1) (fun k=>s.length - k) 0 ⟨by omega,by simp⟩ (Qd [(0,2000)]) (zwg [(0,2000)]) fun k hk K' hL=>?_
 obtain ⟨hk,hinv⟩:=hk
 rcases hd:s.drop k with _|⟨c,r⟩
 ·have hkl:=Qt hd
  rw [hd] at hinv
  have e1:decide ((k:Int) < ((s.length:Nat):Int)) = false:=by simp;omega
  have hok:QT s = (decide ((s.length:Int)≥1) && decide ((s.length:Int)≤32)):=by rw [QT,← hinv];rfl
  rw [hok]
  rcases hq:decide ((s.length:Int)≥1) with _|_
  ·(have zx:=za e1 hq);exact zg
  ·(have zx:=za e1 hq);refine zgo ?_;repeat' first|exact zt|apply zan|intro hc
   all_goals first|exact zr|(refine Ql _ rfl ?_;simp only [go_sem];simp;done)
 ·obtain ⟨hk',hget,hr⟩:=Qm hd
  rw [hd] at hinv
  have hw:=Qg (k:=k) (by omega)
  have e1:decide ((k:Int) < ((s.length:Nat):Int)) = true:=by simp;omega
  rcases h1:decide ((c.toNat:Int)≤32) with _|_
  ·rcases h2:decide ((c.toNat:Int) > 126) with _|_
   ·(have zx:=za e1 (za hw (za hget (za h1 h2))));refine zgo ?_;repeat' first|exact zt|apply zan|intro hc
    all_goals first
     | exact hL _ (k + 1) (Qd [(0,0)]) ⟨by omega,by rw [hr,← hinv];simp only [List.any_cons,Uy,h1,h2,Bool.or_self,ZS]⟩ (by omega) (zwg [(0,0)])
   ·have hok:QT s = false:=by rw [QT,← hinv];simp only [List.any_cons,Uy,h2,ZO,Zl,Bool.not_true,zE]
    rw [hok]
    (have zx:=za e1 (za hw (za hget (za h1 h2))));exact zg
  ·have hok:QT s = false:=by rw [QT,← hinv];simp only [List.any_cons,Uy,h1,ZO,Zl,Bool.not_true,zE]
   rw [hok]
   (have zx:=za e1 (za hw (za hget h1)));exact zg
def Xq:=qd Proofs.Tryz.f82 []
def Vg (Γ:Env) (f:Nat):Prop:=∀ (a b:Int),EvN Γ f [.agg [V.int a,V.int b]] (V.bool (aoc a b 2))
theorem wb {Γ:Env} {f:Nat} (h:Has Γ.P f 11 Xq.1.1.ac Xq.1.2) (z0:X0 Γ 76) (z1:jo Γ 104):Vg Γ f:=by
 intro a b
 refine Qb h zsi zcl zcl fun C hC hm=>?_
 subst hC
 simp only [Xq,qd,DC.ac]
 unfold aoc
 rcases hq:decide (QE a b > 0) with _|_
 ·(have zx:=hq);refine zgo ?_;repeat' first|exact zt|apply zan|intro hc
  all_goals first|exact zr|(refine Ql _ rfl ?_;simp only [go_sem];simp [*];done)
 ·(have zx:=hq);refine zgo ?_;repeat' first|exact zt|apply zan|intro hc
  all_goals first|exact zr|(refine Ql _ rfl ?_;simp only [go_sem];simp [*];done)
def ahe (f:Qa):Bool:=f.alg == 0 && f.bits == 0
def UH (f:Qa):Bool :=
 if f.kind = 1∨f.kind = 8 then decide (QE f.alg f.bits > 0) && f.num == 0 && f.text == []
 else if f.kind = 2 then ahe f && f.text == [] && decide (f.num≥0) && decide (f.num≤65535)
 else if f.kind = 3 then decide (QE f.alg f.bits > 0) && (XY f.alg).kind == 2 && decide (f.num≥0) && decide (f.num≤2147483648) && f.text == []
 else if f.kind = 4∨f.kind = 5 then ahe f && f.text == [] && decide (f.num≥1) && decide (f.num≤4)
 else if f.kind = 6 then ahe f && f.text == [] && decide (f.num≥0) && decide (f.num≤2147483648)
 else if f.kind = 7 then ahe f && f.num == 0 && QT f.text
 else false
def JD (f:Qa):Bool:=QT f.host && QT f.subj && decide (f.mach≥0) && decide (f.mach≤1099511627776) && (decide (f.day≥0) && decide (f.day≤40000) && decide (f.conf≥1) && decide (f.conf≤100)) && !decide (f.src < 1) && !decide (f.src > 7) && UH f
def Xt:=qd Proofs.Tryz.f137 []
def Vj (Γ:Env) (f:Nat):Prop:=∀ (f0:Qa) (ht:f0.text.length < 2 ^ 60),EvN Γ f [f0.v] (V.bool (UH f0))
theorem wg {Γ:Env} {f:Nat} (h:Has Γ.P f 114 Xt.1.1.ac Xt.1.2) (z0:We Γ 95) (z1:KC Γ 180) (z2:Wf Γ 136):Vj Γ f:=by
 intro f0 ht
 refine Qb h zsi zcl zcl fun C hC hm=>?_
 subst hC
 simp only [Xt,qd,DC.ac]
 obtain ⟨src,host,mach,day,conf,kind,subj,alg,bits,num,text⟩:=f0
 have hN:=(z2 text ht).b
 simp only [UH,ahe,Qa.v,Qa.cells] at *
 generalize hv:decide (QE alg bits > 0) = vv
 generalize hk:(XY alg).kind = kk
 generalize hkb:(kk == 2) = kb
 generalize hd0:decide (num≥0) = d0
 generalize hd1:decide (num≤65535) = d1
 generalize hd2:decide (num≤2147483648) = d2
 generalize hd3:decide (num≥1) = d3
 generalize hd4:decide (num≤4) = d4
 generalize hnn:QT text = nn at *
 generalize ha:(alg == 0) = a0
 generalize hb:(bits == 0) = b0
 generalize htx:(text == []) = t0
 generalize hnm:(num == 0) = n0
 have E:∀ n:Int,kind≠n→(kind == n) = false:=fun n h=>by simpa using h
 by_cases k1:kind = 1
 ·subst k1
  repeat' (first|(refine zsk ?_;intro K' hK)|refine zsp ?_|(refine zsc ?_ ?_<;>intro hc<;>first|exact znh|try simp only [znz] at hc)|simp (maxSteps:=1000000) only [go_sem,hv,hk,hkb,ha,hb,htx,hnm,hd0,hd1,hd2,hd3,hd4]|(refine hK _ ?_;clear hK K')|apply zan|(apply Qr;(focus first|exact (z0 _ _).b|exact (z1 _).b|exact (z2 _ zsd).b))|exact zsq|fail)
  all_goals (refine Ql _ rfl ?_;simp only [go_sem];simp_all;done)
 by_cases k8:kind = 8
 ·subst k8
  (have zx:=za hv (za hk (za hkb (za ha (za hb (za htx (za hnm (za hd0 (za hd1 (za hd2 (za hd3 hd4)))))))))));refine zgo ?_;repeat' first|exact zt|apply zan|intro hc
  all_goals (refine Ql _ rfl ?_;simp only [go_sem];simp_all;done)
 by_cases k2:kind = 2
 ·subst k2
  (have zx:=za hv (za hk (za hkb (za ha (za hb (za htx (za hnm (za hd0 (za hd1 (za hd2 (za hd3 hd4)))))))))));refine zgo ?_;repeat' first|exact zt|apply zan|intro hc
  all_goals (refine Ql _ rfl ?_;simp only [go_sem];simp_all;done)
 by_cases k3:kind = 3
 ·subst k3
  (have zx:=za hv (za hk (za hkb (za ha (za hb (za htx (za hnm (za hd0 (za hd1 (za hd2 (za hd3 hd4)))))))))));refine zgo ?_;repeat' first|exact zt|apply zan|intro hc
  all_goals (refine Ql _ rfl ?_;simp only [go_sem];simp_all;done)
 by_cases k4:kind = 4
 ·subst k4
  (have zx:=za hv (za hk (za hkb (za ha (za hb (za htx (za hnm (za hd0 (za hd1 (za hd2 (za hd3 hd4)))))))))));refine zgo ?_;repeat' first|exact zt|apply zan|intro hc
  all_goals (refine Ql _ rfl ?_;simp only [go_sem];simp_all;done)
 by_cases k5:kind = 5
 ·subst k5
  (have zx:=za hv (za hk (za hkb (za ha (za hb (za htx (za hnm (za hd0 (za hd1 (za hd2 (za hd3 hd4)))))))))));refine zgo ?_;repeat' first|exact zt|apply zan|intro hc
  all_goals (refine Ql _ rfl ?_;simp only [go_sem];simp_all;done)
 by_cases k6:kind = 6
 ·subst k6
  (have zx:=za hv (za hk (za hkb (za ha (za hb (za htx (za hnm (za hd0 (za hd1 (za hd2 (za hd3 hd4)))))))))));refine zgo ?_;repeat' first|exact zt|apply zan|intro hc
  all_goals (refine Ql _ rfl ?_;simp only [go_sem];simp_all;done)
 by_cases k7:kind = 7
 ·subst k7
  (have zx:=za hv (za hk (za hkb (za ha (za hb (za htx (za hnm (za hd0 (za hd1 (za hd2 (za hd3 hd4)))))))))));refine zgo ?_;repeat' first|exact zt|apply zan|intro hc
  all_goals (refine Ql _ rfl ?_;simp only [go_sem];simp_all;done)
 repeat' (first|(refine zsk ?_;intro K' hK)|refine zsp ?_|(refine zsc ?_ ?_<;>intro hc<;>first|exact znh|try simp only [znz] at hc)|simp (maxSteps:=1000000) only [go_sem,hv,hk,hkb,ha,hb,htx,hnm,hd0,hd1,hd2,hd3,hd4,E 1 k1,E 8 k8,E 2 k2,E 3 k3,E 4 k4,E 5 k5,E 6 k6,E 7 k7]|(refine hK _ ?_;clear hK K')|apply zan|(apply Qr;(focus first|exact (z0 _ _).b|exact (z1 _).b|exact (z2 _ zsd).b))|exact zsq|fail)
 all_goals (refine Ql _ rfl ?_;simp only [go_sem];simp [*];done)
def WY:=qd Proofs.Tryz.f114 []
def Uu (Γ:Env) (f:Nat):Prop:=∀ (f0:Qa) (hh:f0.host.length < 2 ^ 60) (hs:f0.subj.length < 2 ^ 60) (ht:f0.text.length < 2 ^ 60),EvN Γ f [f0.v] (V.int (bif JD f0 then 0 else 24))
theorem aa7 {Γ:Env} {f:Nat} (h:Has Γ.P f 62 WY.1.1.ac WY.1.2) (z0:Wf Γ 136) (z1:Vj Γ 137):Uu Γ f:=by
 intro f0 hh hs ht
 refine Qb h zsi zcl zcl fun C hC hm=>?_
 subst hC
 simp only [WY,qd,DC.ac]
 obtain ⟨src,host,mach,day,conf,kind,subj,alg,bits,num,text⟩:=f0
 have hN1:=(z0 host hh).b
 have hN2:=(z0 subj hs).b
 have hC:=(z1 ⟨src,host,mach,day,conf,kind,subj,alg,bits,num,text⟩ ht).b
 simp only [JD,Qa.v,Qa.cells] at *
 generalize hd1:decide (mach≥0) = d1
 generalize hd2:decide (mach≤1099511627776) = d2
 generalize hd3:decide (day≥0) = d3
 generalize hd4:decide (day≤40000) = d4
 generalize hd5:decide (conf≥1) = d5
 generalize hd6:decide (conf≤100) = d6
 generalize hd7:decide (src < 1) = d7
 generalize hd8:decide (src > 7) = d8
 generalize UH ⟨src,host,mach,day,conf,kind,subj,alg,bits,num,text⟩ = cc at *
 generalize QT host = n1 at *
 generalize QT subj = n2 at *
 (have zx:=za hd1 (za hd2 (za hd3 (za hd4 (za hd5 (za hd6 (za hd7 hd8)))))));refine zgo ?_;repeat' first|exact zt|apply zan|intro hc
 all_goals (refine Ql _ rfl ?_;simp only [go_sem];simp_all;done)
def Qa.Sz (f:Qa):Prop:=f.host.length < 2 ^ 60∧f.subj.length < 2 ^ 60∧f.text.length < 2 ^ 60
def ltF (a b:Qa):Bool:=decide (aaS a b < 0)
def afO (l:List Qa):Bool:=okP JD ltF l l.length
def YL (l:List Qa):Bool:=afO l && decide ((l.length:Int)≤400)
theorem ao5 (b:Bool):((bif b then (0:Int) else 24) != 0) = !b:=by cases b<;>rfl
def X6:=qd Proofs.Tryz.f89 [zhn 17]
def XL (Γ:Env) (f:Nat):Prop:=∀ (l:List Qa) (hl:l.length < 2 ^ 40) (hz:∀ x∈l,x.Sz),EvN Γ f [.sl 11 (l.map Qa.v)] (V.bool (YL l))
attribute [local go_sem] zb Qa.cells Qa.v Jk in
theorem vS {Γ:Env} {f:Nat} (h:Has Γ.P f 33 X6.1.1.ac X6.1.2) (z0:Uu Γ 114) (z1:Ut Γ 115):XL Γ f:=by
 intro l hl hz
 refine Qb h zsi zcl zcl fun C hC hm=>?_
 subst hC
 simp only [X6,qd,DC.ac]
 refine zgo ?_;repeat' first|exact zt|apply zan|intro hc
 refine Qp (ι:=Nat) (fun k=>k≤l.length∧okP JD ltF l k = true) (fun k=>Jk [(0,.sl 11 (l.map Qa.v)),(5,.sl 11 (l.map Qa.v)),(6,V.int l.length),(7,V.int k)] [] 0) (fun k=>l.length - k) 0 ⟨zG _,rfl⟩ (Qd []) (Qh [] (by simp only [go_sem,zwl,zb]<;>exact zcc) zwa (by simp) (by simp) (by omega)) fun k hk K' hL=>?_
 obtain ⟨hk,hinv⟩:=hk
 rcases hd:l.drop k with _|⟨x,r⟩
 ·have hkl:=Qt hd
  have e1:decide ((k:Int) < (l.length:Int)) = false:=by simp;omega
  have hkk:k = l.length:=by omega
  subst hkk
  have hn:YL l = decide ((l.length:Int)≤400):=by rw [YL,afO,hinv,zH]
  rw [hn]
  (have zx:=e1);exact zg
 ·obtain ⟨hk',hget,hr⟩:=Qm hd
  have hw:=Qg (k:=k) (by omega)
  have e1:decide ((k:Int) < (l.length:Int)) = true:=by simp;omega
  have hxz:=hz x (zq hget)
  have hnx:=(z0 x hxz.1 hxz.2.1 hxz.2.2).b
  have hbad:okP JD ltF l (k + 1) = false→YL l = false:=fun h=>by rw [YL,afO,akR h (by omega),zE]
  have hce:=ao5 (JD x)
  simp only [Qa.v,Qa.cells] at hnx
  rcases hx:JD x with _|_
  ·have hb:okP JD ltF l (k + 1) = false:=by rw [abn,hget];simp [hx]
   rw [hbad hb]
   rw [hx] at hce hnx
   (have zx:=za e1 (za hw (za hce hget)));exact zg
  ·rw [hx] at hce hnx
   rcases k with _|k
   ·have hw0:IntKind.i64.wrap 1 = ((1:Nat):Int):=by decide
    have hg1:okP JD ltF l (0 + 1) = true:=by rw [akP hget,hx]
    have e2:decide (((0:Nat):Int) > 0) = false:=rfl
    (have zx:=za e1 (za e2 (za hw (za hw0 (za hce hget)))));refine zgo ?_;repeat' first|exact zt|apply zan|intro hc
    all_goals exact hL _ 1 (Qd []) ⟨by omega,hg1⟩ (by omega) (zwg [])
   ·have e2:decide (((k + 1:Nat):Int) > 0) = true:=zo (by omega)
    have hw2:IntKind.i64.wrap (((k + 1:Nat):Int) - 1) = (k:Int):=by rw [QP (by omega) (by omega)];omega
    obtain ⟨y,hgy⟩:∃ y,l[k]? = some y:=⟨_,zd (by omega)⟩
    have hnext:=aig (p:=JD) (q:=ltF) hget hgy
    rw [hinv,hx] at hnext
    have ho:=(z1 y x).b
    simp only [Qa.v,Qa.cells] at ho
    rcases hb:ltF y x with _|_
    ·have e3:decide (aaS y x≥0) = true:=by
      rw [ltF,zA] at hb
      exact zo (by omega)
     rw [hbad (by rw [hnext,hb];rfl)]
     generalize aaS y x = oo at *
     (have zx:=za e1 (za e2 (za e3 (za hw (za hw2 (za hce (za hget hgy)))))));exact zg
    ·have e3:decide (aaS y x≥0) = false:=by
      rw [ltF,decide_eq_true_iff] at hb
      exact zp (by omega)
     have hg2:okP JD ltF l (k + 2) = true:=by rw [hnext,hb];rfl
     generalize aaS y x = oo at *
     (have zx:=za e1 (za e2 (za e3 (za hw (za hw2 (za hce (za hget hgy)))))));refine zgo ?_;repeat' first|exact zt|apply zan|intro hc
     all_goals exact hL _ (k + 2) (Qd []) ⟨by omega,hg2⟩ (by omega) (zwg [])
def J0 (l:List Qa) (gap:Int):Int:=if YL l = true then (if gap < 0∨gap > 4000 then 2 else 0) else 24
theorem aoF {α:Type} {p:α→Bool} {q:α→α→Bool} {l:List α} {k i:Nat} {x:α} (h:okP p q l k = true) (hi:i < k) (hx:l[i]? = some x):p x = true:=by
 rw [okP,kU] at h
 have:=h i (Zh.2 hi)
 rw [hx] at this
 simp only [zw] at this
 exact this.1
theorem qz {l:List Qa} (h:YL l = true):l.length≤400∧∀ x∈l,JD x = true:=by
 rw [YL,zw,decide_eq_true_iff] at h
 refine ⟨by omega,fun x hx=>?_⟩
 obtain ⟨i,hi,rfl⟩:=kx hx
 exact aoF h.1 hi (zd hi)
theorem acF {x:Qa} (h:JD x = true):aiL x:=by
 simp only [JD,zw,decide_eq_true_iff] at h
 exact ⟨by omega,by omega⟩
theorem am9 {l:List Qa} {gap:Int} (h:J0 l gap = 0):l.length≤400∧∀ x∈l,aiL x:=by
 unfold J0 at h
 split at h
 ·rename_i hn
  exact ⟨(qz hn).1,fun x hx=>acF ((qz hn).2 x hx)⟩
 ·cases h
def X5:=qd Proofs.Tryz.f83 []
def VS (Γ:Env) (f:Nat):Prop:=∀ (l:List Qa) (gap:Int) (hl:l.length < 2 ^ 40) (hz:∀ x∈l,x.Sz),EvN Γ f [.sl 11 (l.map Qa.v),V.int gap] (V.int (J0 l gap))
theorem vR {Γ:Env} {f:Nat} (h:Has Γ.P f 16 X5.1.1.ac X5.1.2) (z0:XL Γ 89):VS Γ f:=by
 intro l gap hl hz
 refine Qb h zsi zcl zcl fun C hC hm=>?_
 subst hC
 simp only [X5,qd,DC.ac]
 have hn:=(z0 l hl hz).b
 unfold J0
 rcases hb:YL l with _|_
 ·rw [hb] at hn
  rw [if_neg (by decide)]
  exact zg
 ·rw [hb] at hn
  rw [if_pos rfl]
  by_cases g1:gap < 0
  ·have e1:decide (gap < 0) = true:=zo g1
   rw [if_pos (.inl g1)]
   (have zx:=e1);exact zg
  ·have e1:decide (gap < 0) = false:=zp g1
   by_cases g2:gap > 4000
   ·have e2:decide (gap > 4000) = true:=zo g2
    rw [if_pos (.inr g2)]
    (have zx:=za e1 e2);exact zg
   ·have e2:decide (gap > 4000) = false:=zp g2
    rw [if_neg (by omega)]
    (have zx:=za e1 e2);exact zg
structure QR where
 num:Nat
 hosts:List (List UInt8)
 machs:List Int
 finds:List Nat
def mhd (a:Nat) (ms:List Int):V:=if ms = [] then wW else .hd a 0 ms.length
def QR.own (e:QR) (a:Nat):V:=.agg [V.int e.num,.hd a 0 e.hosts.length,mhd (a + 1) e.machs,.hd (a + 2) 0 e.finds.length]
def V9:Nat→List QR→List V
 | _,[]=>[]
 | n,e :: r=>e.own n :: V9 (n + 3) r
theorem Wi:∀ (es:List QR) (n:Nat),(V9 n es).length = es.length
 | [],_=>rfl
 | e :: r,n=>by simp only [V9,List.length_cons,Wi r]
theorem WI:∀ (es:List QR) (n j:Nat),(V9 n es)[j]? = (es[j]?).map fun e=>e.own (n + 3 * j)
 | [],n,j=>by simp [V9]
 | e :: r,n,0=>by simp [V9]
 | e :: r,n,j + 1=>by
   simp only [V9,List.getElem?_cons_succ]
   rw [WI r (n + 3) j,show n + 3 + 3 * j = n + 3 * (j + 1) by omega]
def mob (ms:List Int):Ob:=if ms = [] then .dead else .buf true 1 (ms.map V.int)
def aat:List QR→List Ob
 | []=>[]
 | e :: r=>.buf true 1 (e.hosts.map V.str) :: mob e.machs :: .buf true 1 (Qv e.finds) :: aat r
theorem yR:∀ es:List QR,(aat es).length = 3 * es.length
 | []=>rfl
 | e :: r=>by simp only [aat,List.length_cons,yR r];omega
theorem YK:∀ (es:List QR) (j:Nat),(aat es)[3 * j]? = (es[j]?).map fun e=>.buf true 1 (e.hosts.map V.str)
 | [],j=>by simp [aat]
 | e :: r,0=>by simp [aat]
 | e :: r,j + 1=>by
   rw [show 3 * (j + 1) = 3 * j + 1 + 1 + 1 by omega]
   simp only [aat,List.getElem?_cons_succ,YK r j]
theorem WH:∀ (es:List QR) (j:Nat),(aat es)[3 * j + 1]? = (es[j]?).map fun e=>mob e.machs
 | [],j=>by simp [aat]
 | e :: r,0=>by simp [aat]
 | e :: r,j + 1=>by
   rw [show 3 * (j + 1) + 1 = (3 * j + 1) + 1 + 1 + 1 by omega]
   simp only [aat,List.getElem?_cons_succ,WH r j]
theorem YJ:∀ (es:List QR) (j:Nat),(aat es)[3 * j + 2]? = (es[j]?).map fun e=>.buf true 1 (Qv e.finds)
 | [],j=>by simp [aat]
 | e :: r,0=>by simp [aat]
 | e :: r,j + 1=>by
   rw [show 3 * (j + 1) + 2 = (3 * j + 2) + 1 + 1 + 1 by omega]
   simp only [aat,List.getElem?_cons_succ,YJ r j]
theorem ah1:∀ a b:List QR,aat (a++b) = aat a++aat b
 | [],b=>rfl
 | e :: r,b=>by simp only [List.cons_append,aat,ah1 r b]
def aau (x:List Nat) (nm:Nat→Nat) (k:Nat):Nat:=match x[k]? with|some a=>a|none=>nm (k - x.length)
def eO (p K W:List Nat) (fx:List Ob) (es:List QR):List Ob:=.box true (Qv p) :: .map (Qv K) (Qv W) 0 :: .obuf true 4 (V9 (3 + fx.length) es) :: (fx++aat es)
theorem acA (p K W:List Nat) (fx:List Ob) (es:List QR):(eO p K W fx es).length = 3 + fx.length + 3 * es.length:=by
 simp only [eO,List.length_cons,zv,yR];omega
theorem jY (p K W:List Nat) (fx:List Ob) (es:List QR) (q:Nat):(eO p K W fx es)[3 + fx.length + q]? = (aat es)[q]?:=by
 rw [show 3 + fx.length + q = fx.length + q + 1 + 1 + 1 by omega]
 simp only [eO,List.getElem?_cons_succ]
 rw [ki (by omega)];congr 1;omega
theorem aoK (τ:Nat→Nat) (a:Nat) (ms:List Int):(mhd a ms).ren τ = mhd (τ a) ms:=by
 unfold mhd;split<;>rfl
theorem apV {a n:Nat} (ms:List Int) (h:a < n):(mhd a ms).lt n:=by
 unfold mhd;split
 ·simp only [V.lt]
 ·exact h
theorem aib {τ:Nat→Nat}:∀ (es:List QR) (n j:Nat),(U6 τ (V9 n es))[j]? = (es[j]?).map fun e=>.agg [V.int (e.num:Nat),.hd (τ (n + 3 * j)) 0 e.hosts.length,mhd (τ (n + 3 * j + 1)) e.machs,.hd (τ (n + 3 * j + 2)) 0 e.finds.length]
 | [],n,j=>by simp [V9,U6]
 | e :: r,n,0=>by simp [V9,U6,QR.own,V.ren,aoK]
 | e :: r,n,j + 1=>by
   simp only [V9,U6,List.getElem?_cons_succ]
   rw [aib r (n + 3) j,show n + 3 + 3 * j = n + 3 * (j + 1) by omega]
theorem akB:∀ (es:List QR) (n m:Nat),n + 3 * es.length≤m→ltL m (V9 n es)
 | [],_,_,_=>trivial
 | e :: r,n,m,h=>by
   simp only [List.length_cons] at h
   refine ⟨⟨trivial,?_,apV _ (by omega),?_,trivial⟩,akB r (n + 3) m (by omega)⟩
   ·show n < m;omega
   ·show n + 2 < m;omega
theorem KN {x:List Nat} {nm:Nat→Nat} {k:Nat} (h:x.length≤k):aau x nm k = nm (k - x.length):=by
 rw [aau,zW h]
theorem xM {x:List Nat} {nm:Nat→Nat} {k:Nat} (h:k < x.length):aau x nm k = x[k]:=by
 rw [aau,zd h]
theorem xL {x:List Nat} {nm:Nat→Nat} {k:Nat} (h:k < x.length):aau x nm k = x.getD k 0:=by
 rw [xM h,zK,zd h];rfl
theorem ajc {p:List Nat} {τ:Nat→Nat} {n:Nat} {c:Bool}:(Ob.box c (Qv p)).weak τ n (.box c (Qv p)):=⟨id,(Qu _ _).symm,QJ _ _⟩
theorem ahU {s:St} {ts:List (Nat×V)} {p K W:List Nat} {fx:List Ob} {es:List QR} {n:Nat} (hnn:3 + fx.length + 3 * es.length≤n) (x:List Nat) (nm:Nat→Nat) (els:List V) (hx:x.length = 3 + fx.length)
  (ht:∀ q∈ts,s.t q.1 = q.2.ren (aau x nm)∧q.2.lt n)
  (h0:s.o (x.getD 0 0) = some (.box true (Qv p))) (h1:s.o (x.getD 1 0) = some (.map (Qv K) (Qv W) 0)) (h2:s.o (x.getD 2 0) = some (.obuf true 4 els)∨(es = []∧s.o (x.getD 2 0) = some (.buf true 4 [])))
  (hfx:∀ k y,fx[k]? = some y→∃ z,s.o (x.getD (3 + k) 0) = some z∧z.weak (aau x nm) n y)
  (hel:∀ j:Nat,els[j]? = (es[j]?).map fun e=>.agg [V.int e.num,.hd (nm (3 * j)) 0 e.hosts.length,mhd (nm (3 * j + 1)) e.machs,.hd (nm (3 * j + 2)) 0 e.finds.length])
  (hr:∀ (j:Nat) (e:QR),es[j]? = some e→s.o (nm (3 * j)) = some (.buf true 1 (e.hosts.map V.str))∧(∃ y,s.o (nm (3 * j + 1)) = some y∧(e.machs≠[]→y = .buf true 1 (e.machs.map V.int)))∧s.o (nm (3 * j + 2)) = some (.buf true 1 (Qv e.finds)))
  (hn:x.Nodup) (hnx:∀ q,q < 3 * es.length→nm q ∉ x) (hni:∀ a b,a < 3 * es.length→b < 3 * es.length→nm a = nm b→a = b):ahQ 0 (aau x nm) s { t:=UC ts,o:=fun k=>(eO p K W fx es)[k]?,n:=n }:=by
 have hxl:3≤x.length:=by omega
 refine ⟨fun i=>?_,fun a y hy=>?_,fun a b ha hb hab=>?_,fun k hk=>absurd hk (kZ _),zG _⟩
 ·rcases jQ ts i with h|h
  ·exact .inl h
  ·right;exact ht _ h
 ·have hy:(eO p K W fx es)[a]? = some y:=hy
  obtain ⟨ha,_⟩:=zn.1 hy
  rw [acA] at ha
  refine ⟨by show a < n;omega,?_⟩
  match a,ha,hy with
  | 0,_,hy =>
    rw [xL (by omega)]
    simp only [eO,List.getElem?_cons_zero,zf] at hy
    subst hy
    exact ⟨_,h0,ajc⟩
  | 1,_,hy =>
    rw [xL (by omega)]
    simp only [eO,List.getElem?_cons_succ,List.getElem?_cons_zero,zf] at hy
    subst hy
    exact ⟨_,h1,rfl,rfl,(Qu _ _).symm,QJ _ _⟩
  | 2,_,hy =>
    rw [xL (by omega)]
    simp only [eO,List.getElem?_cons_succ,List.getElem?_cons_zero,zf] at hy
    subst hy
    rcases h2.symm with ⟨he0,h2'⟩|h2'
    ·subst he0;exact ⟨_,h2',id,rfl,rfl⟩
    refine ⟨_,h2',id,rfl,?_,akB _ _ _ (by show _≤n;omega)⟩
    apply Zw
    intro j
    rw [hel,aib]
    cases es[j]? with
    | none=>rfl
    | some e =>
      simp only [Option.map_some]
      rw [KN (by omega),KN (by omega),KN (by omega),hx]
      rw [show 3 + fx.length + 3 * j - (3 + fx.length) = 3 * j by omega,show 3 + fx.length + 3 * j + 1 - (3 + fx.length) = 3 * j + 1 by omega,show 3 + fx.length + 3 * j + 2 - (3 + fx.length) = 3 * j + 2 by omega]
  | a + 3,ha,hy =>
    by_cases hfa:a < fx.length
    ·rw [xL (by omega),show a + 3 = 3 + a by omega]
     simp only [eO,List.getElem?_cons_succ] at hy
     rw [ka hfa] at hy
     exact hfx a y hy
    ·obtain ⟨q,rfl⟩:∃ q,a = fx.length + q:=⟨a - fx.length,by omega⟩
     rw [show fx.length + q + 3 = 3 + fx.length + q by omega] at hy ⊢
     rw [jY] at hy
     rw [KN (by omega),hx,show 3 + fx.length + q - (3 + fx.length) = q by omega]
     obtain ⟨j,hq⟩:∃ j,q = 3 * j∨q = 3 * j + 1∨q = 3 * j + 2:=⟨q / 3,by omega⟩
     rcases hq with rfl|rfl|rfl
     ·rw [YK] at hy
      simp only [zj] at hy
      obtain ⟨e,he,rfl⟩:=hy
      exact ⟨_,(hr j e he).1,id,rfl,rfl⟩
     ·rw [WH] at hy
      simp only [zj] at hy
      obtain ⟨e,he,rfl⟩:=hy
      obtain ⟨y,hy1,hy2⟩:=(hr j e he).2.1
      refine ⟨y,hy1,?_⟩
      unfold mob
      split
      ·cases y<;>trivial
      ·rename_i hne
       rw [hy2 hne]
       exact ⟨id,rfl,rfl⟩
     ·rw [YJ] at hy
      simp only [zj] at hy
      obtain ⟨e,he,rfl⟩:=hy
      exact ⟨_,(hr j e he).2.2,id,rfl,rfl⟩
 ·have la:a < 3 + fx.length + 3 * es.length:=by
   rw [← acA p K W fx es]
   exact Nat.lt_of_not_le fun h=>ha (zW h)
  have lb:b < 3 + fx.length + 3 * es.length:=by
   rw [← acA p K W fx es]
   exact Nat.lt_of_not_le fun h=>hb (zW h)
  by_cases h1:a < x.length<;>by_cases h2:b < x.length
  ·rw [xM h1,xM h2] at hab
   exact (List.getElem_inj hn).1 hab
  ·rw [xM h1,KN (by omega)] at hab
   exact (hnx (b - x.length) (by omega) (hab ▸ zZ h1)).elim
  ·rw [xM h2,KN (by omega)] at hab
   exact (hnx (a - x.length) (by omega) (hab.symm ▸ zZ h2)).elim
  ·rw [KN (by omega),KN (by omega)] at hab
   have:=hni _ _ (by omega) (by omega) hab
   omega
def aex (k:Nat):List Nat→Nat→Option Nat
 | [],_=>none
 | e :: r,i=>if k = e then some i else aex k r (i + 1)
theorem yz (k:Nat):∀ (ks:List Nat) (i:Nat),KO false [0] (V.int (k:Int)) (Qv ks) i = some (aex k ks i)
 | [],_=>rfl
 | e :: r,i=>by
   have h:Ki false [0] (V.int (k:Int)) (V.int (e:Int)) = some ((k:Int) == (e:Int)):=by simp [Ki,Ji]
   rw [Qv,zN,KO,h]
   by_cases hk:k = e
   ·subst hk;simp [aex]
   ·have:((k:Int) == (e:Int)) = false:=by simp;omega
    rw [this];simp only [aex,if_neg hk]
    exact yz k r (i + 1)
theorem ahp {k:Nat}:∀ {ks:List Nat} {i a:Nat},aex k ks i = some a→i≤a∧a < i + ks.length∧ks[a - i]? = some k
 | [],_,_,h=>by cases h
 | e :: r,i,a,h=>by
   rw [aex] at h
   split at h
   ·rename_i he;cases h;subst he;simp
   ·have:=ahp h
    simp only [List.length_cons]
    refine ⟨by omega,by omega,?_⟩
    rw [show a - i = (a - (i + 1)) + 1 by omega,List.getElem?_cons_succ]
    exact this.2.2
theorem aiq {k:Nat}:∀ {ks:List Nat} {i a:Nat} (r:List Nat),aex k ks i = some a→aex k (ks++r) i = some a
 | [],_,_,_,h=>by cases h
 | e :: t,i,a,r,h=>by
   rw [aex] at h
   rw [List.cons_append,aex]
   split at h
   ·rename_i he;rw [if_pos he];exact h
   ·rename_i he;rw [if_neg he];exact aiq r h
theorem aew {k:Nat}:∀ {ks:List Nat} {i:Nat},(∀ x∈ks,x≠k)→aex k (ks++[k]) i = some (i + ks.length)
 | [],i,_=>by simp [aex]
 | e :: t,i,h=>by
   have h1:=h e (kQ ..)
   rw [List.cons_append,aex,if_neg (fun x=>h1 x.symm),aew fun x hx=>h x (kR _ hx),List.length_cons]
   congr 1;omega
theorem afZ {k:Nat}:∀ {ks:List Nat} {i:Nat},(∀ x∈ks,x≠k)→aex k ks i = none
 | [],i,_=>rfl
 | e :: t,i,h=>by
   rw [aex,if_neg (fun x=>h e (kQ ..) x.symm)]
   exact afZ fun x hx=>h x (kR _ hx)
theorem U5 {p:List Nat} (h:PW p):∀ i,Qn p (Qn p i) = Qn p i:=by
 intro i
 induction i using Nat.strongRecOn with
 | _ i ih =>
   rcases e:p[i]? with _|j
   ·have:Qn p i = i:=by rw [Qn,abF,e]
    rw [this,this]
   ·rw [Wy h e]
    have:=h.le i j e
    split
    ·rename_i hj;rw [Wy h e,if_pos hj]
    ·exact ih j (by omega)
def QU (i:Nat) (f:Qa) (e:QR):QR:={ e with hosts:=aaU Op.bytesLess e.hosts f.host,finds:=e.finds++[i] }
def YW (i:Nat) (f:Qa) (e:QR):QR:={ QU i f e with machs:=if f.mach = 0 then e.machs else aaU ltJ e.machs f.mach }
def aeR (p:List Nat) (es:List QR) (i:Nat) (f:Qa):List QR :=
 if Qn p i = i then es++[YW i f ⟨i,[],[],[]⟩] else
 match aex (Qn p i) (es.map QR.num) 0 with
 | some a=>(match es[a]? with|some e=>es.set a (YW i f e)|none=>es)
 | none=>es
def Yl (l:List Qa) (p:List Nat):Nat→List QR
 | 0=>[]
 | k + 1=>match l[k]? with
   | some f=>aeR p (Yl l p k) k f
   | none=>Yl l p k
def JJ (l:List Qa) (gap:Int):List QR:=Yl l (xS l gap) l.length
structure ESz (k:Nat) (e:QR):Prop where
 num:e.num < k
 h0:0 < e.hosts.length
 h1:e.hosts.length≤k
 f0:0 < e.finds.length
 f1:e.finds.length≤k
 m1:e.machs.length≤k
 fl:∀ i∈e.finds,i < k
structure EI (p:List Nat) (k:Nat) (es:List QR):Prop where
 sz:∀ e∈es,ESz k e
 len:es.length≤k
 has:∀ j,j < k→Qn p j = j→∃ a,aex j (es.map QR.num) 0 = some a
theorem vJ {α:Type} [BEq α] {lt:α→α→Bool} (l:List α) (x:α):(aaU lt l x).length≤l.length + 1∧0 < (aaU lt l x).length:=by
 unfold aaU
 split
 ·rename_i h
  refine ⟨by omega,?_⟩
  unfold Jw at h
  split at h
  ·rename_i y hy
   have:=(zn.1 hy).1
   omega
  ·cases h
 ·have:=agA (lt:=lt) (l:=l) (x:=x)
  simp only [zv,List.length_cons,zT,kq]
  omega
theorem abq {α:Type} [BEq α] {lt:α→α→Bool} (x:α):aaU lt [] x = [x]:=by
 simp [aaU,Jw,bsI,agS]
theorem ESz.upd {k:Nat} {e:QR} {f:Qa} (h:ESz k e):ESz (k + 1) (YW k f e):=by
 obtain ⟨a1,a2,a3,a4,a5,a6,a7⟩:=h
 have g1:=vJ (lt:=Op.bytesLess) e.hosts f.host
 have g2:=vJ (lt:=ltJ) e.machs f.mach
 refine ⟨by simp only [YW,QU];omega,by simp only [YW,QU];omega,by simp only [YW,QU];omega,by simp only [YW,QU,zv,List.length_singleton];omega,by simp only [YW,QU,zv,List.length_singleton];omega,?_,fun i hi=>?_⟩
 ·simp only [YW,QU];split<;>omega
 ·simp only [YW,QU,zY,zu] at hi
  rcases hi with hi|hi
  ·have:=a7 i hi;omega
  ·omega
theorem ESz.new {k:Nat} {f:Qa}:ESz (k + 1) (YW k f ⟨k,[],[],[]⟩):=by
 have g1:=vJ (lt:=Op.bytesLess) [] f.host
 have g2:=vJ (lt:=ltJ) [] f.mach
 simp only [List.length_nil] at g1 g2
 refine ⟨by simp only [YW,QU];omega,by simp only [YW,QU];omega,by simp only [YW,QU];omega,by simp [YW,QU],by simp [YW,QU],?_,fun i hi=>?_⟩
 ·simp only [YW,QU];split
  ·simp
  ·omega
 ·simp only [YW,QU,List.nil_append,zu] at hi;omega
theorem ESz.mono {k:Nat} {e:QR} (h:ESz k e):ESz (k + 1) e:=⟨Z4 h.num,h.h0,Zj h.h1,h.f0,Zj h.f1,Zj h.m1,fun i hi=>Z4 (h.fl i hi)⟩
theorem EI.find {p:List Nat} {k:Nat} {es:List QR} (hp:PW p) (h:EI p k es) (hk:Qn p k≠k):∃ a e,aex (Qn p k) (es.map QR.num) 0 = some a∧es[a]? = some e∧e.num = Qn p k:=by
 have h1:=KL hp k
 obtain ⟨a,ha⟩:=h.has _ (by omega) (U5 hp k)
 obtain ⟨_,h2,h3⟩:=ahp ha
 rw [Nat.sub_zero,zi,zj] at h3
 obtain ⟨e,he,hn⟩:=h3
 exact ⟨a,e,ha,he,hn⟩
theorem K6 {es:List QR} {a:Nat} {e e1:QR} (h:es[a]? = some e) (hn:e1.num = e.num):(es.set a e1).map QR.num = es.map QR.num:=by
 rw [Z3]
 apply Zw
 intro j
 rw [ke]
 split
 ·rename_i hj;subst hj
  rw [zb,if_pos (zn.1 h).1,zi,h,hn];rfl
 ·rfl
theorem EI.step {p:List Nat} {k:Nat} {es:List QR} {f:Qa} (hp:PW p) (h:EI p k es):EI p (k + 1) (aeR p es k f):=by
 obtain ⟨s1,s2,s3⟩:=h
 by_cases hk:Qn p k = k
 ·rw [aeR,if_pos hk]
  refine ⟨fun e he=>?_,by rw [zv,List.length_singleton];omega,fun j hj hjr=>?_⟩
  ·rcases zY.1 he with he|he
   ·exact (s1 e he).mono
   ·rw [zu.1 he];exact ESz.new
  ·rw [kz]
   rcases Nat.lt_or_eq_of_le (Nat.le_of_lt_succ hj) with hj|rfl
   ·obtain ⟨a,ha⟩:=s3 j hj hjr
    exact ⟨a,aiq _ ha⟩
   ·refine ⟨_,aew fun x hx=>?_⟩
    obtain ⟨e,he,rfl⟩:=zD.1 hx
    have:=(s1 e he).num
    omega
 ·obtain ⟨a,e,ha,he,hn⟩:=EI.find hp ⟨s1,s2,s3⟩ hk
  rw [aeR,if_neg hk,ha]
  simp only [he]
  have hm:(es.set a (YW k f e)).map QR.num = es.map QR.num:=by
   rw [Z3]
   apply Zw
   intro j
   rw [ke]
   split
   ·rename_i hj;subst hj
    rw [zb,if_pos (zn.1 he).1,zi,he];rfl
   ·rfl
  refine ⟨fun y hy=>?_,by rw [zP];omega,fun j hj hjr=>?_⟩
  ·rcases ZP hy with hy|rfl
   ·exact (s1 y hy).mono
   ·exact (s1 e (zq he)).upd
  ·rw [hm]
   rcases Nat.lt_or_eq_of_le (Nat.le_of_lt_succ hj) with hj|rfl
   ·exact s3 j hj hjr
   ·exact (hk hjr).elim
theorem qG {l:List Qa} {p:List Nat} (hp:PW p):∀ k,k≤l.length→EI p k (Yl l p k)
 | 0,_=>⟨by simp [Yl],zh _,fun j hj=>absurd hj (kZ _)⟩
 | k + 1,hk=>by
   have ih:=qG (l:=l) hp k (by omega)
   rw [Yl,zd (by omega)]
   exact ih.step hp
theorem acy {l:List Qa} {p:List Nat} {k:Nat} {f:Qa} (h:l[k]? = some f):Yl l p (k + 1) = aeR p (Yl l p k) k f:=by rw [Yl,h]
def QR.v (e:QR):V:=.agg [V.int e.num,.sl 1 (e.hosts.map V.str),.sl 1 (e.machs.map V.int),.sl 1 (Qv e.finds)]
end Av
end
