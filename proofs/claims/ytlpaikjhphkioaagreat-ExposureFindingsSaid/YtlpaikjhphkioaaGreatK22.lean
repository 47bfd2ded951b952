/- K22 -/
import Derived.Test.YtlpaikjhphkioaaGreatK21
import Derived.Test.YtlpaikjhphkioaaGreatK12
import Derived.Test.YtlpaikjhphkioaaGreatK14
set_option linter.unusedVariables false
set_option linter.unusedSimpArgs false
noncomputable section
set_option maxRecDepth 10000
set_option maxHeartbeats 4000000
namespace Av
open Go
attribute [local irreducible] AWp Uv qW xf awS awC abB awQ acd QZ UL aa2 awR Kc awB okR yu ris
theorem al3 {α:Type} {p:α→Bool} {l r:List α} {k:Nat} {x:α} (h:l.drop k = x :: r):(l.drop k).any p = (p x || (l.drop (k + 1)).any p):=by
 obtain ⟨_,_,hr⟩:=Ql h
 rw [h,List.any_cons,hr]
def Ky (c:UInt8):Bool:=decide ((c.toNat:Int)≤32) || decide ((c.toNat:Int) > 126)
def Q0 (s:List UInt8):Bool:=!s.any Ky && (decide ((s.length:Int)≥1) && decide ((s.length:Int)≤32))
def jq:=qd Proofs.Tryz.f81 []
def yY (Γ:Env) (f:Nat):Prop:=∀ (s:List UInt8) (hs:s.length < 2 ^ 60),EvN Γ f [V.str s] (V.bool (Q0 s))
theorem agw {Γ:Env} {f:Nat} (h:Has Γ.P f 28 jq.1.1.ac jq.1.2) :yY Γ f:=by
 intro s hs
 refine Qb h zsi zcl zcl fun C hC hm=>?_
 subst hC
 simp only [jq,qd,DC.ac]
 by_cases h0:s.length < 1
 ·have e1:decide ((s.length:Int) < 1) = true:=zo (by omega)
  have e2:Q0 s = false:=by unfold Q0;rw [zp (by omega:¬ (s.length:Int)≥1)];simp
  rw [e2]
  (have zx:=e1);exact zg
 have e1:decide ((s.length:Int) < 1) = false:=zp (by omega)
 by_cases h1:s.length > 32
 ·have e3:decide ((s.length:Int) > 32) = true:=zo (by omega)
  have e2:Q0 s = false:=by unfold Q0;rw [zp (by omega:¬ (s.length:Int)≤32)];simp
  rw [e2]
  (have zx:=za e1 e3);exact zg
 have e3:decide ((s.length:Int) > 32) = false:=zp (by omega)
 have e2:Q0 s = !s.any Ky:=by unfold Q0;rw [zo (by omega:(s.length:Int)≤32),zo (by omega:(s.length:Int)≥1)];simp
 rw [e2]
 (have zx:=za e1 e3);refine zgo ?_;repeat' first|exact zt|apply zan|intro hc
 refine Qx (ι:=Nat) (fun k=>k≤s.length∧(s.drop k).any Ky = s.any Ky) (fun k=>[(3,V.int k)]) (fun k=>s.length - k) 0 (by omega) ⟨by simp,by simp⟩ zol zlt zet fun k hk K' hL=>?_
 obtain ⟨hk,hinv⟩:=hk
 simp only [ovT,JQ,Nat.reduceEqDiff,reduceIte]
 rcases hd:s.drop k with _|⟨c,r⟩
 ·have:=Qs hd
  rw [hd] at hinv
  have e4:decide ((k:Int) < ((s.length:Nat):Int)) = false:=by simp;omega
  rw [← hinv]
  (have zx:=e4);refine zgo ?_;repeat' first|exact zt|apply zan|intro hc
  all_goals first|exact zr|(refine Qk _ rfl ?_;simp only [go_sem];simp;done)
 ·obtain ⟨hk',hget,hr⟩:=Ql hd
  have hst:=al3 (p:=Ky) hd
  rw [hinv] at hst
  have hw:=Qf (k:=k) (by omega)
  have e4:decide ((k:Int) < ((s.length:Nat):Int)) = true:=by simp;omega
  have e5:decide ((c.toNat:Int) < 33) = decide ((c.toNat:Int)≤32):=decide_eq_decide.2 (by omega)
  rcases h2:decide ((c.toNat:Int)≤32) with _|_
  ·rcases h3:decide ((c.toNat:Int) > 126) with _|_
   ·have hb:Ky c = false:=by unfold Ky;rw [h2,h3];rfl
    rw [hb,kD] at hst
    (have zx:=za e4 (za hw (za hget (za e5 (za h2 h3)))));refine zgo ?_;repeat' first|exact zt|apply zan|intro hc
    all_goals first
     | exact hL _ (k + 1) zet ⟨by omega,hst.symm⟩ (by omega) zoe
   ·have hb:Ky c = true:=by unfold Ky;rw [h3,ZV]
    rw [hb,kq] at hst
    rw [hst]
    (have zx:=za e4 (za hw (za hget (za e5 (za h2 h3)))));exact zg
  ·have hb:Ky c = true:=by unfold Ky;rw [h2,kq]
   rw [hb,kq] at hst
   rw [hst]
   (have zx:=za e4 (za hw (za hget (za e5 h2))));exact zg
def okP {α:Type} (p:α→Bool) (q:α→α→Bool) (l:List α) (k:Nat):Bool:=(List.range k).all fun i=>match l[i]? with|some x=>p x && (i == 0 || match l[i - 1]? with|some y=>q y x|none=>false)|none=>false
theorem akb {α:Type} (p:α→Bool) (q:α→α→Bool) (l:List α):okP p q l 0 = true:=rfl
theorem acY {α:Type} (p:α→Bool) (q:α→α→Bool) (l:List α) (k:Nat):okP p q l (k + 1) = (okP p q l k && match l[k]? with|some x=>p x && (k == 0 || match l[k - 1]? with|some y=>q y x|none=>false)|none=>false):=by
 rw [okP,okP,ZB,List.all_append];simp
theorem am2 {α:Type} {p:α→Bool} {q:α→α→Bool} {l:List α} {k n:Nat} (h:okP p q l k = false) (hk:k≤n):okP p q l n = false:=by
 rw [okP,List.all_eq_false] at h ⊢
 obtain ⟨i,hi,h⟩:=h
 exact ⟨i,kW.2 (ZK (kW.1 hi) hk),h⟩
theorem am0 {α:Type} {p:α→Bool} {q:α→α→Bool} {l:List α} {x:α} (h:l[0]? = some x):okP p q l 1 = p x:=by
 rw [acY,akb,h];simp
theorem akc {α:Type} {p:α→Bool} {q:α→α→Bool} {l:List α} {k:Nat} {x y:α} (h:l[k + 1]? = some x) (h':l[k]? = some y):okP p q l (k + 2) = (okP p q l (k + 1) && (p x && q y x)):=by
 rw [acY,h];simp [h']
def aqp (a b k:Int):Bool:=decide (QL a b > 0) && ((WT a).kind == k)
def as6 (n:Int):Bool:=decide (n≥0) && decide (n≤2147483648)
def atH (n:Int):Bool:=decide (n≥0) && decide (n < 4294967296)
def ar4 (l:List (List UInt8)):Bool:=okP Q0 Op.bytesLess l l.length && decide ((l.length:Int)≤8)
structure abD where
 serial:Int
 issuer:List UInt8
 subject:List UInt8
 kalg:Int
 kbits:Int
 kid:Int
 halg:Int
 hbits:Int
 from_:Int
 to_:Int
 auth:Bool
 path:Int
 names:List (List UInt8)
 skey:Int
 ssum:Int
def abD.cells (c:abD):List V:=[V.int c.serial,V.str c.issuer,V.str c.subject,V.int c.kalg,V.int c.kbits,V.int c.kid,V.int c.halg,V.int c.hbits,V.int c.from_,V.int c.to_,V.bool c.auth,V.int c.path,.sl 1 (c.names.map V.str),V.int c.skey,V.int c.ssum]
def abD.v (c:abD):V:=.agg c.cells
def atp (c:abD):Bool:=decide (c.serial < 0) || (decide (c.serial > 1099511627776) || (!Q0 c.issuer || (!Q0 c.subject || !ar4 c.names)))
def ato (c:abD):Bool:=!aqp c.kalg c.kbits 2 || (!as6 c.kid || (!aqp c.halg c.hbits 1 || (!as6 c.skey || !atH c.ssum)))
def atn (c:abD):Bool:=decide (c.from_ < 0) || (decide (c.from_ > c.to_) || decide (c.to_ > 40000))
def atm (c:abD):Bool:=decide (c.path≥0) && (decide (c.path≤8) && (c.auth || (c.path == 0)))
def atl (c:abD):Bool:=!atp c && (!ato c && (!atn c && atm c))
def V1:=qd Proofs.Tryz.f136 []
def Ve (Γ:Env) (f:Nat):Prop:=∀ (s:List UInt8) (hs:s.length < 2 ^ 60),EvN Γ f [V.str s] (V.bool (Q0 s))
attribute [local go_sem] Ju in
theorem acQ {Γ:Env} {f:Nat} (h:Has Γ.P f 27 V1.1.1.ac V1.1.2) :Ve Γ f:=by
 intro s hs
 refine Qb h zsi zcl zcl fun C hC hm=>?_
 subst hC
 simp only [V1,qd,DC.ac]
 refine zgo ?_;repeat' first|exact zt|apply zan|intro hc
 refine Qo (ι:=Nat) (fun k=>k≤s.length∧(s.drop k).any Ky = s.any Ky) (fun k=>Ju [(0,V.str s),(6,.hd 0 0 s.length),(7,V.int s.length),(8,V.int k)] [(0,.buf false 1 (s.map fun c=>V.sc (.int .u8 c.toNat)))] 1) (fun k=>s.length - k) 0 ⟨by omega,by simp⟩ (Qe [(0,2000)]) (zwg [(0,2000)]) fun k hk K' hL=>?_
 obtain ⟨hk,hinv⟩:=hk
 rcases hd:s.drop k with _|⟨c,r⟩
 ·have hkl:=Qs hd
  rw [hd] at hinv
  have e1:decide ((k:Int) < ((s.length:Nat):Int)) = false:=by simp;omega
  have hok:Q0 s = (decide ((s.length:Int)≥1) && decide ((s.length:Int)≤32)):=by rw [Q0,← hinv];rfl
  rw [hok]
  rcases hq:decide ((s.length:Int)≥1) with _|_
  ·(have zx:=za e1 hq);exact zg
  ·(have zx:=za e1 hq);refine zgo ?_;repeat' first|exact zt|apply zan|intro hc
   all_goals first|exact zr|(refine Qk _ rfl ?_;simp only [go_sem];simp;done)
 ·obtain ⟨hk',hget,hr⟩:=Ql hd
  rw [hd] at hinv
  have hw:=Qf (k:=k) (by omega)
  have e1:decide ((k:Int) < ((s.length:Nat):Int)) = true:=by simp;omega
  rcases h1:decide ((c.toNat:Int)≤32) with _|_
  ·rcases h2:decide ((c.toNat:Int) > 126) with _|_
   ·(have zx:=za e1 (za hw (za hget (za h1 h2))));refine zgo ?_;repeat' first|exact zt|apply zan|intro hc
    all_goals first
     | exact hL _ (k + 1) (Qe [(0,0)]) ⟨by omega,by rw [hr,← hinv];simp only [List.any_cons,Ky,h1,h2,Bool.or_self,kD]⟩ (by omega) (zwg [(0,0)])
   ·have hok:Q0 s = false:=by rw [Q0,← hinv];simp only [List.any_cons,Ky,h2,ZV,kq,bl,zy]
    rw [hok]
    (have zx:=za e1 (za hw (za hget (za h1 h2))));exact zg
  ·have hok:Q0 s = false:=by rw [Q0,← hinv];simp only [List.any_cons,Ky,h1,ZV,kq,bl,zy]
   rw [hok]
   (have zx:=za e1 (za hw (za hget h1)));exact zg
def We:=qd Proofs.Tryz.f82 []
def Ud (Γ:Env) (f:Nat):Prop:=∀ (a b:Int),EvN Γ f [.agg [V.int a,V.int b]] (V.bool (aqp a b 2))
theorem aar {Γ:Env} {f:Nat} (h:Has Γ.P f 11 We.1.1.ac We.1.2) (z0:WW Γ 76) (z1:xb Γ 104):Ud Γ f:=by
 intro a b
 refine Qb h zsi zcl zcl fun C hC hm=>?_
 subst hC
 simp only [We,qd,DC.ac]
 unfold aqp
 rcases hq:decide (QL a b > 0) with _|_
 ·(have zx:=hq);refine zgo ?_;repeat' first|exact zt|apply zan|intro hc
  all_goals first|exact zr|(refine Qk _ rfl ?_;simp only [go_sem];simp [*];done)
 ·(have zx:=hq);refine zgo ?_;repeat' first|exact zt|apply zan|intro hc
  all_goals first|exact zr|(refine Qk _ rfl ?_;simp only [go_sem];simp [*];done)
def ai8 (f:Qa):Bool:=f.alg == 0 && f.bits == 0
def KJ (f:Qa):Bool :=
 if f.kind = 1∨f.kind = 8 then decide (QL f.alg f.bits > 0) && f.num == 0 && f.text == []
 else if f.kind = 2 then ai8 f && f.text == [] && decide (f.num≥0) && decide (f.num≤65535)
 else if f.kind = 3 then decide (QL f.alg f.bits > 0) && (WT f.alg).kind == 2 && decide (f.num≥0) && decide (f.num≤2147483648) && f.text == []
 else if f.kind = 4∨f.kind = 5 then ai8 f && f.text == [] && decide (f.num≥1) && decide (f.num≤4)
 else if f.kind = 6 then ai8 f && f.text == [] && decide (f.num≥0) && decide (f.num≤2147483648)
 else if f.kind = 7 then ai8 f && f.num == 0 && Q0 f.text
 else false
def JC (f:Qa):Bool:=Q0 f.host && Q0 f.subj && decide (f.mach≥0) && decide (f.mach≤1099511627776) && (decide (f.day≥0) && decide (f.day≤40000) && decide (f.conf≥1) && decide (f.conf≤100)) && !decide (f.src < 1) && !decide (f.src > 7) && KJ f
def Wh:=qd Proofs.Tryz.f137 []
def Ug (Γ:Env) (f:Nat):Prop:=∀ (f0:Qa) (ht:f0.text.length < 2 ^ 60),EvN Γ f [f0.v] (V.bool (KJ f0))
theorem aaw {Γ:Env} {f:Nat} (h:Has Γ.P f 114 Wh.1.1.ac Wh.1.2) (z0:Vd Γ 95) (z1:qN Γ 180) (z2:Ve Γ 136):Ug Γ f:=by
 intro f0 ht
 refine Qb h zsi zcl zcl fun C hC hm=>?_
 subst hC
 simp only [Wh,qd,DC.ac]
 obtain ⟨src,host,mach,day,conf,kind,subj,alg,bits,num,text⟩:=f0
 have hN:=(z2 text ht).b
 simp only [KJ,ai8,Qa.v,Qa.cells] at *
 generalize hv:decide (QL alg bits > 0) = vv
 generalize hk:(WT alg).kind = kk
 generalize hkb:(kk == 2) = kb
 generalize hd0:decide (num≥0) = d0
 generalize hd1:decide (num≤65535) = d1
 generalize hd2:decide (num≤2147483648) = d2
 generalize hd3:decide (num≥1) = d3
 generalize hd4:decide (num≤4) = d4
 generalize hnn:Q0 text = nn at *
 generalize ha:(alg == 0) = a0
 generalize hb:(bits == 0) = b0
 generalize htx:(text == []) = t0
 generalize hnm:(num == 0) = n0
 have E:∀ n:Int,kind≠n→(kind == n) = false:=fun n h=>by simpa using h
 by_cases k1:kind = 1
 ·subst k1
  repeat' (first|(refine zsk ?_;intro K' hK)|refine zsp ?_|(refine zsc ?_ ?_<;>intro hc<;>first|exact znh|try simp only [znz] at hc)|simp (maxSteps:=1000000) only [go_sem,hv,hk,hkb,ha,hb,htx,hnm,hd0,hd1,hd2,hd3,hd4]|(refine hK _ ?_;clear hK K')|apply zan|(apply QF;(focus first|exact (z0 _ _).b|exact (z1 _).b|exact (z2 _ zsd).b))|exact zsq|fail)
  all_goals (refine Qk _ rfl ?_;simp only [go_sem];simp_all;done)
 by_cases k8:kind = 8
 ·subst k8
  (have zx:=za hv (za hk (za hkb (za ha (za hb (za htx (za hnm (za hd0 (za hd1 (za hd2 (za hd3 hd4)))))))))));refine zgo ?_;repeat' first|exact zt|apply zan|intro hc
  all_goals (refine Qk _ rfl ?_;simp only [go_sem];simp_all;done)
 by_cases k2:kind = 2
 ·subst k2
  (have zx:=za hv (za hk (za hkb (za ha (za hb (za htx (za hnm (za hd0 (za hd1 (za hd2 (za hd3 hd4)))))))))));refine zgo ?_;repeat' first|exact zt|apply zan|intro hc
  all_goals (refine Qk _ rfl ?_;simp only [go_sem];simp_all;done)
 by_cases k3:kind = 3
 ·subst k3
  (have zx:=za hv (za hk (za hkb (za ha (za hb (za htx (za hnm (za hd0 (za hd1 (za hd2 (za hd3 hd4)))))))))));refine zgo ?_;repeat' first|exact zt|apply zan|intro hc
  all_goals (refine Qk _ rfl ?_;simp only [go_sem];simp_all;done)
 by_cases k4:kind = 4
 ·subst k4
  (have zx:=za hv (za hk (za hkb (za ha (za hb (za htx (za hnm (za hd0 (za hd1 (za hd2 (za hd3 hd4)))))))))));refine zgo ?_;repeat' first|exact zt|apply zan|intro hc
  all_goals (refine Qk _ rfl ?_;simp only [go_sem];simp_all;done)
 by_cases k5:kind = 5
 ·subst k5
  (have zx:=za hv (za hk (za hkb (za ha (za hb (za htx (za hnm (za hd0 (za hd1 (za hd2 (za hd3 hd4)))))))))));refine zgo ?_;repeat' first|exact zt|apply zan|intro hc
  all_goals (refine Qk _ rfl ?_;simp only [go_sem];simp_all;done)
 by_cases k6:kind = 6
 ·subst k6
  (have zx:=za hv (za hk (za hkb (za ha (za hb (za htx (za hnm (za hd0 (za hd1 (za hd2 (za hd3 hd4)))))))))));refine zgo ?_;repeat' first|exact zt|apply zan|intro hc
  all_goals (refine Qk _ rfl ?_;simp only [go_sem];simp_all;done)
 by_cases k7:kind = 7
 ·subst k7
  (have zx:=za hv (za hk (za hkb (za ha (za hb (za htx (za hnm (za hd0 (za hd1 (za hd2 (za hd3 hd4)))))))))));refine zgo ?_;repeat' first|exact zt|apply zan|intro hc
  all_goals (refine Qk _ rfl ?_;simp only [go_sem];simp_all;done)
 repeat' (first|(refine zsk ?_;intro K' hK)|refine zsp ?_|(refine zsc ?_ ?_<;>intro hc<;>first|exact znh|try simp only [znz] at hc)|simp (maxSteps:=1000000) only [go_sem,hv,hk,hkb,ha,hb,htx,hnm,hd0,hd1,hd2,hd3,hd4,E 1 k1,E 8 k8,E 2 k2,E 3 k3,E 4 k4,E 5 k5,E 6 k6,E 7 k7]|(refine hK _ ?_;clear hK K')|apply zan|(apply QF;(focus first|exact (z0 _ _).b|exact (z1 _).b|exact (z2 _ zsd).b))|exact zsq|fail)
 all_goals (refine Qk _ rfl ?_;simp only [go_sem];simp [*];done)
def VW:=qd Proofs.Tryz.f114 []
def Kt (Γ:Env) (f:Nat):Prop:=∀ (f0:Qa) (hh:f0.host.length < 2 ^ 60) (hs:f0.subj.length < 2 ^ 60) (ht:f0.text.length < 2 ^ 60),EvN Γ f [f0.v] (V.int (bif JC f0 then 0 else 24))
theorem acL {Γ:Env} {f:Nat} (h:Has Γ.P f 62 VW.1.1.ac VW.1.2) (z0:Ve Γ 136) (z1:Ug Γ 137):Kt Γ f:=by
 intro f0 hh hs ht
 refine Qb h zsi zcl zcl fun C hC hm=>?_
 subst hC
 simp only [VW,qd,DC.ac]
 obtain ⟨src,host,mach,day,conf,kind,subj,alg,bits,num,text⟩:=f0
 have hN1:=(z0 host hh).b
 have hN2:=(z0 subj hs).b
 have hC:=(z1 ⟨src,host,mach,day,conf,kind,subj,alg,bits,num,text⟩ ht).b
 simp only [JC,Qa.v,Qa.cells] at *
 generalize hd1:decide (mach≥0) = d1
 generalize hd2:decide (mach≤1099511627776) = d2
 generalize hd3:decide (day≥0) = d3
 generalize hd4:decide (day≤40000) = d4
 generalize hd5:decide (conf≥1) = d5
 generalize hd6:decide (conf≤100) = d6
 generalize hd7:decide (src < 1) = d7
 generalize hd8:decide (src > 7) = d8
 generalize KJ ⟨src,host,mach,day,conf,kind,subj,alg,bits,num,text⟩ = cc at *
 generalize Q0 host = n1 at *
 generalize Q0 subj = n2 at *
 (have zx:=za hd1 (za hd2 (za hd3 (za hd4 (za hd5 (za hd6 (za hd7 hd8)))))));refine zgo ?_;repeat' first|exact zt|apply zan|intro hc
 all_goals (refine Qk _ rfl ?_;simp only [go_sem];simp_all;done)
def Qa.Sz (f:Qa):Prop:=f.host.length < 2 ^ 60∧f.subj.length < 2 ^ 60∧f.text.length < 2 ^ 60
def ltF (a b:Qa):Bool:=decide (acs a b < 0)
def ahw (l:List Qa):Bool:=okP JC ltF l l.length
def Y1 (l:List Qa):Bool:=ahw l && decide ((l.length:Int)≤400)
theorem arh (b:Bool):((bif b then (0:Int) else 24) != 0) = !b:=by cases b<;>rfl
def W6:=qd Proofs.Tryz.f89 [zhn 17]
def WD (Γ:Env) (f:Nat):Prop:=∀ (l:List Qa) (hl:l.length < 2 ^ 40) (hz:∀ x∈l,x.Sz),EvN Γ f [.sl 11 (l.map Qa.v)] (V.bool (Y1 l))
attribute [local go_sem] zb Qa.cells Qa.v Ju in
theorem abt {Γ:Env} {f:Nat} (h:Has Γ.P f 33 W6.1.1.ac W6.1.2) (z0:Kt Γ 114) (z1:Ks Γ 115):WD Γ f:=by
 intro l hl hz
 refine Qb h zsi zcl zcl fun C hC hm=>?_
 subst hC
 simp only [W6,qd,DC.ac]
 refine zgo ?_;repeat' first|exact zt|apply zan|intro hc
 refine Qo (ι:=Nat) (fun k=>k≤l.length∧okP JC ltF l k = true) (fun k=>Ju [(0,.sl 11 (l.map Qa.v)),(5,.sl 11 (l.map Qa.v)),(6,V.int l.length),(7,V.int k)] [] 0) (fun k=>l.length - k) 0 ⟨zH _,rfl⟩ (Qe []) (Qg [] (by simp only [go_sem,zwl,zb]<;>exact zcc) zwa (by simp) (by simp) (by omega)) fun k hk K' hL=>?_
 obtain ⟨hk,hinv⟩:=hk
 rcases hd:l.drop k with _|⟨x,r⟩
 ·have hkl:=Qs hd
  have e1:decide ((k:Int) < (l.length:Int)) = false:=by simp;omega
  have hkk:k = l.length:=by omega
  subst hkk
  have hn:Y1 l = decide ((l.length:Int)≤400):=by rw [Y1,ahw,hinv,zC]
  rw [hn]
  (have zx:=e1);exact zg
 ·obtain ⟨hk',hget,hr⟩:=Ql hd
  have hw:=Qf (k:=k) (by omega)
  have e1:decide ((k:Int) < (l.length:Int)) = true:=by simp;omega
  have hxz:=hz x (zu hget)
  have hnx:=(z0 x hxz.1 hxz.2.1 hxz.2.2).b
  have hbad:okP JC ltF l (k + 1) = false→Y1 l = false:=fun h=>by rw [Y1,ahw,am2 h (by omega),zy]
  have hce:=arh (JC x)
  simp only [Qa.v,Qa.cells] at hnx
  rcases hx:JC x with _|_
  ·have hb:okP JC ltF l (k + 1) = false:=by rw [acY,hget];simp [hx]
   rw [hbad hb]
   rw [hx] at hce hnx
   (have zx:=za e1 (za hw (za hce hget)));exact zg
  ·rw [hx] at hce hnx
   rcases k with _|k
   ·have hw0:IntKind.i64.wrap 1 = ((1:Nat):Int):=by decide
    have hg1:okP JC ltF l (0 + 1) = true:=by rw [am0 hget,hx]
    have e2:decide (((0:Nat):Int) > 0) = false:=rfl
    (have zx:=za e1 (za e2 (za hw (za hw0 (za hce hget)))));refine zgo ?_;repeat' first|exact zt|apply zan|intro hc
    all_goals exact hL _ 1 (Qe []) ⟨by omega,hg1⟩ (by omega) (zwg [])
   ·have e2:decide (((k + 1:Nat):Int) > 0) = true:=zo (by omega)
    have hw2:IntKind.i64.wrap (((k + 1:Nat):Int) - 1) = (k:Int):=by rw [QG (by omega) (by omega)];omega
    obtain ⟨y,hgy⟩:∃ y,l[k]? = some y:=⟨_,zd (by omega)⟩
    have hnext:=akc (p:=JC) (q:=ltF) hget hgy
    rw [hinv,hx] at hnext
    have ho:=(z1 y x).b
    simp only [Qa.v,Qa.cells] at ho
    rcases hb:ltF y x with _|_
    ·have e3:decide (acs y x≥0) = true:=by
      rw [ltF,zP] at hb
      exact zo (by omega)
     rw [hbad (by rw [hnext,hb];rfl)]
     generalize acs y x = oo at *
     (have zx:=za e1 (za e2 (za e3 (za hw (za hw2 (za hce (za hget hgy)))))));exact zg
    ·have e3:decide (acs y x≥0) = false:=by
      rw [ltF,decide_eq_true_iff] at hb
      exact zp (by omega)
     have hg2:okP JC ltF l (k + 2) = true:=by rw [hnext,hb];rfl
     generalize acs y x = oo at *
     (have zx:=za e1 (za e2 (za e3 (za hw (za hw2 (za hce (za hget hgy)))))));refine zgo ?_;repeat' first|exact zt|apply zan|intro hc
     all_goals exact hL _ (k + 2) (Qe []) ⟨by omega,hg2⟩ (by omega) (zwg [])
def J8 (l:List Qa) (gap:Int):Int:=if Y1 l = true then (if gap < 0∨gap > 4000 then 2 else 0) else 24
theorem aqS {α:Type} {p:α→Bool} {q:α→α→Bool} {l:List α} {k i:Nat} {x:α} (h:okP p q l k = true) (hi:i < k) (hx:l[i]? = some x):p x = true:=by
 rw [okP,kS] at h
 have:=h i (kW.2 hi)
 rw [hx] at this
 simp only [zw] at this
 exact this.1
theorem Vx {l:List Qa} (h:Y1 l = true):l.length≤400∧∀ x∈l,JC x = true:=by
 rw [Y1,zw,decide_eq_true_iff] at h
 refine ⟨by omega,fun x hx=>?_⟩
 obtain ⟨i,hi,rfl⟩:=kz hx
 exact aqS h.1 hi (zd hi)
theorem aeh {x:Qa} (h:JC x = true):akL x:=by
 simp only [JC,zw,decide_eq_true_iff] at h
 exact ⟨by omega,by omega⟩
theorem apl {l:List Qa} {gap:Int} (h:J8 l gap = 0):l.length≤400∧∀ x∈l,akL x:=by
 unfold J8 at h
 split at h
 ·rename_i hn
  exact ⟨(Vx hn).1,fun x hx=>aeh ((Vx hn).2 x hx)⟩
 ·cases h
def W5:=qd Proofs.Tryz.f83 []
def US (Γ:Env) (f:Nat):Prop:=∀ (l:List Qa) (gap:Int) (hl:l.length < 2 ^ 40) (hz:∀ x∈l,x.Sz),EvN Γ f [.sl 11 (l.map Qa.v),V.int gap] (V.int (J8 l gap))
theorem abs {Γ:Env} {f:Nat} (h:Has Γ.P f 16 W5.1.1.ac W5.1.2) (z0:WD Γ 89):US Γ f:=by
 intro l gap hl hz
 refine Qb h zsi zcl zcl fun C hC hm=>?_
 subst hC
 simp only [W5,qd,DC.ac]
 have hn:=(z0 l hl hz).b
 unfold J8
 rcases hb:Y1 l with _|_
 ·rw [hb] at hn
  rw [if_neg (by decide)]
  exact zg
 ·rw [hb] at hn
  rw [if_pos rfl]
  by_cases g1:gap < 0
  ·have e1:decide (gap < 0) = true:=zo g1
   rw [if_pos (.inl g1)]
   (have zx:=e1);exact zg
  ·have e1:decide (gap < 0) = false:=zp g1
   by_cases g2:gap > 4000
   ·have e2:decide (gap > 4000) = true:=zo g2
    rw [if_pos (.inr g2)]
    (have zx:=za e1 e2);exact zg
   ·have e2:decide (gap > 4000) = false:=zp g2
    rw [if_neg (by omega)]
    (have zx:=za e1 e2);exact zg
structure QT where
 num:Nat
 hosts:List (List UInt8)
 machs:List Int
 finds:List Nat
def mhd (a:Nat) (ms:List Int):V:=if ms = [] then aa1 else .hd a 0 ms.length
def QT.own (e:QT) (a:Nat):V:=.agg [V.int e.num,.hd a 0 e.hosts.length,mhd (a + 1) e.machs,.hd (a + 2) 0 e.finds.length]
def U9:Nat→List QT→List V
 | _,[]=>[]
 | n,e :: r=>e.own n :: U9 (n + 3) r
theorem Vh:∀ (es:List QT) (n:Nat),(U9 n es).length = es.length
 | [],_=>rfl
 | e :: r,n=>by simp only [U9,List.length_cons,Vh r]
theorem VG:∀ (es:List QT) (n j:Nat),(U9 n es)[j]? = (es[j]?).map fun e=>e.own (n + 3 * j)
 | [],n,j=>by simp [U9]
 | e :: r,n,0=>by simp [U9]
 | e :: r,n,j + 1=>by
   simp only [U9,List.getElem?_cons_succ]
   rw [VG r (n + 3) j,show n + 3 + 3 * j = n + 3 * (j + 1) by omega]
def mob (ms:List Int):Ob:=if ms = [] then .dead else .buf true 1 (ms.map V.int)
def abY:List QT→List Ob
 | []=>[]
 | e :: r=>.buf true 1 (e.hosts.map V.str) :: mob e.machs :: .buf true 1 (Qt e.finds) :: abY r
theorem wV:∀ es:List QT,(abY es).length = 3 * es.length
 | []=>rfl
 | e :: r=>by simp only [abY,List.length_cons,wV r];omega
theorem Xp:∀ (es:List QT) (j:Nat),(abY es)[3 * j]? = (es[j]?).map fun e=>.buf true 1 (e.hosts.map V.str)
 | [],j=>by simp [abY]
 | e :: r,0=>by simp [abY]
 | e :: r,j + 1=>by
   rw [show 3 * (j + 1) = 3 * j + 1 + 1 + 1 by omega]
   simp only [abY,List.getElem?_cons_succ,Xp r j]
theorem VF:∀ (es:List QT) (j:Nat),(abY es)[3 * j + 1]? = (es[j]?).map fun e=>mob e.machs
 | [],j=>by simp [abY]
 | e :: r,0=>by simp [abY]
 | e :: r,j + 1=>by
   rw [show 3 * (j + 1) + 1 = (3 * j + 1) + 1 + 1 + 1 by omega]
   simp only [abY,List.getElem?_cons_succ,VF r j]
theorem Xo:∀ (es:List QT) (j:Nat),(abY es)[3 * j + 2]? = (es[j]?).map fun e=>.buf true 1 (Qt e.finds)
 | [],j=>by simp [abY]
 | e :: r,0=>by simp [abY]
 | e :: r,j + 1=>by
   rw [show 3 * (j + 1) + 2 = (3 * j + 2) + 1 + 1 + 1 by omega]
   simp only [abY,List.getElem?_cons_succ,Xo r j]
theorem ajX:∀ a b:List QT,abY (a++b) = abY a++abY b
 | [],b=>rfl
 | e :: r,b=>by simp only [List.cons_append,abY,ajX r b]
def abZ (x:List Nat) (nm:Nat→Nat) (k:Nat):Nat:=match x[k]? with|some a=>a|none=>nm (k - x.length)
def eO (p K W:List Nat) (fx:List Ob) (es:List QT):List Ob:=.box true (Qt p) :: .map (Qt K) (Qt W) 0 :: .obuf true 4 (U9 (3 + fx.length) es) :: (fx++abY es)
theorem aea (p K W:List Nat) (fx:List Ob) (es:List QT):(eO p K W fx es).length = 3 + fx.length + 3 * es.length:=by
 simp only [eO,List.length_cons,zq,wV];omega
theorem xN (p K W:List Nat) (fx:List Ob) (es:List QT) (q:Nat):(eO p K W fx es)[3 + fx.length + q]? = (abY es)[q]?:=by
 rw [show 3 + fx.length + q = fx.length + q + 1 + 1 + 1 by omega]
 simp only [eO,List.getElem?_cons_succ]
 rw [zY (by omega)];congr 1;omega
theorem aqX (τ:Nat→Nat) (a:Nat) (ms:List Int):(mhd a ms).ren τ = mhd (τ a) ms:=by
 unfold mhd;split<;>rfl
theorem ar8 {a n:Nat} (ms:List Int) (h:a < n):(mhd a ms).lt n:=by
 unfold mhd;split
 ·simp only [V.lt]
 ·exact h
theorem aj7 {τ:Nat→Nat}:∀ (es:List QT) (n j:Nat),(KC τ (U9 n es))[j]? = (es[j]?).map fun e=>.agg [V.int (e.num:Nat),.hd (τ (n + 3 * j)) 0 e.hosts.length,mhd (τ (n + 3 * j + 1)) e.machs,.hd (τ (n + 3 * j + 2)) 0 e.finds.length]
 | [],n,j=>by simp [U9,KC]
 | e :: r,n,0=>by simp [U9,KC,QT.own,V.ren,aqX]
 | e :: r,n,j + 1=>by
   simp only [U9,KC,List.getElem?_cons_succ]
   rw [aj7 r (n + 3) j,show n + 3 + 3 * j = n + 3 * (j + 1) by omega]
theorem amM:∀ (es:List QT) (n m:Nat),n + 3 * es.length≤m→ltL m (U9 n es)
 | [],_,_,_=>trivial
 | e :: r,n,m,h=>by
   simp only [List.length_cons] at h
   refine ⟨⟨trivial,?_,ar8 _ (by omega),?_,trivial⟩,amM r (n + 3) m (by omega)⟩
   ·show n < m;omega
   ·show n + 2 < m;omega
theorem qZ {x:List Nat} {nm:Nat→Nat} {k:Nat} (h:x.length≤k):abZ x nm k = nm (k - x.length):=by
 rw [abZ,zX h]
theorem aaa {x:List Nat} {nm:Nat→Nat} {k:Nat} (h:k < x.length):abZ x nm k = x[k]:=by
 rw [abZ,zd h]
theorem v8 {x:List Nat} {nm:Nat→Nat} {k:Nat} (h:k < x.length):abZ x nm k = x.getD k 0:=by
 rw [aaa h,zJ,zd h];rfl
theorem ale {p:List Nat} {τ:Nat→Nat} {n:Nat} {c:Bool}:(Ob.box c (Qt p)).weak τ n (.box c (Qt p)):=⟨id,(Qq _ _).symm,Qy _ _⟩
theorem ajR {s:St} {ts:List (Nat×V)} {p K W:List Nat} {fx:List Ob} {es:List QT} {n:Nat} (hnn:3 + fx.length + 3 * es.length≤n) (x:List Nat) (nm:Nat→Nat) (els:List V) (hx:x.length = 3 + fx.length)
  (ht:∀ q∈ts,s.t q.1 = q.2.ren (abZ x nm)∧q.2.lt n)
  (h0:s.o (x.getD 0 0) = some (.box true (Qt p))) (h1:s.o (x.getD 1 0) = some (.map (Qt K) (Qt W) 0)) (h2:s.o (x.getD 2 0) = some (.obuf true 4 els)∨(es = []∧s.o (x.getD 2 0) = some (.buf true 4 [])))
  (hfx:∀ k y,fx[k]? = some y→∃ z,s.o (x.getD (3 + k) 0) = some z∧z.weak (abZ x nm) n y)
  (hel:∀ j:Nat,els[j]? = (es[j]?).map fun e=>.agg [V.int e.num,.hd (nm (3 * j)) 0 e.hosts.length,mhd (nm (3 * j + 1)) e.machs,.hd (nm (3 * j + 2)) 0 e.finds.length])
  (hr:∀ (j:Nat) (e:QT),es[j]? = some e→s.o (nm (3 * j)) = some (.buf true 1 (e.hosts.map V.str))∧(∃ y,s.o (nm (3 * j + 1)) = some y∧(e.machs≠[]→y = .buf true 1 (e.machs.map V.int)))∧s.o (nm (3 * j + 2)) = some (.buf true 1 (Qt e.finds)))
  (hn:x.Nodup) (hnx:∀ q,q < 3 * es.length→nm q ∉ x) (hni:∀ a b,a < 3 * es.length→b < 3 * es.length→nm a = nm b→a = b):ajL 0 (abZ x nm) s { t:=KD ts,o:=fun k=>(eO p K W fx es)[k]?,n:=n }:=by
 have hxl:3≤x.length:=by omega
 refine ⟨fun i=>?_,fun a y hy=>?_,fun a b ha hb hab=>?_,fun k hk=>absurd hk (Zf _),zH _⟩
 ·rcases xG ts i with h|h
  ·exact .inl h
  ·right;exact ht _ h
 ·have hy:(eO p K W fx es)[a]? = some y:=hy
  obtain ⟨ha,_⟩:=zn.1 hy
  rw [aea] at ha
  refine ⟨by show a < n;omega,?_⟩
  match a,ha,hy with
  | 0,_,hy =>
    rw [v8 (by omega)]
    simp only [eO,List.getElem?_cons_zero,zi] at hy
    subst hy
    exact ⟨_,h0,ale⟩
  | 1,_,hy =>
    rw [v8 (by omega)]
    simp only [eO,List.getElem?_cons_succ,List.getElem?_cons_zero,zi] at hy
    subst hy
    exact ⟨_,h1,rfl,rfl,(Qq _ _).symm,Qy _ _⟩
  | 2,_,hy =>
    rw [v8 (by omega)]
    simp only [eO,List.getElem?_cons_succ,List.getElem?_cons_zero,zi] at hy
    subst hy
    rcases h2.symm with ⟨he0,h2'⟩|h2'
    ·subst he0;exact ⟨_,h2',id,rfl,rfl⟩
    refine ⟨_,h2',id,rfl,?_,amM _ _ _ (by show _≤n;omega)⟩
    apply ZG
    intro j
    rw [hel,aj7]
    cases es[j]? with
    | none=>rfl
    | some e =>
      simp only [Option.map_some]
      rw [qZ (by omega),qZ (by omega),qZ (by omega),hx]
      rw [show 3 + fx.length + 3 * j - (3 + fx.length) = 3 * j by omega,show 3 + fx.length + 3 * j + 1 - (3 + fx.length) = 3 * j + 1 by omega,show 3 + fx.length + 3 * j + 2 - (3 + fx.length) = 3 * j + 2 by omega]
  | a + 3,ha,hy =>
    by_cases hfa:a < fx.length
    ·rw [v8 (by omega),show a + 3 = 3 + a by omega]
     simp only [eO,List.getElem?_cons_succ] at hy
     rw [zW hfa] at hy
     exact hfx a y hy
    ·obtain ⟨q,rfl⟩:∃ q,a = fx.length + q:=⟨a - fx.length,by omega⟩
     rw [show fx.length + q + 3 = 3 + fx.length + q by omega] at hy ⊢
     rw [xN] at hy
     rw [qZ (by omega),hx,show 3 + fx.length + q - (3 + fx.length) = q by omega]
     obtain ⟨j,hq⟩:∃ j,q = 3 * j∨q = 3 * j + 1∨q = 3 * j + 2:=⟨q / 3,by omega⟩
     rcases hq with rfl|rfl|rfl
     ·rw [Xp] at hy
      simp only [zl] at hy
      obtain ⟨e,he,rfl⟩:=hy
      exact ⟨_,(hr j e he).1,id,rfl,rfl⟩
     ·rw [VF] at hy
      simp only [zl] at hy
      obtain ⟨e,he,rfl⟩:=hy
      obtain ⟨y,hy1,hy2⟩:=(hr j e he).2.1
      refine ⟨y,hy1,?_⟩
      unfold mob
      split
      ·cases y<;>trivial
      ·rename_i hne
       rw [hy2 hne]
       exact ⟨id,rfl,rfl⟩
     ·rw [Xo] at hy
      simp only [zl] at hy
      obtain ⟨e,he,rfl⟩:=hy
      exact ⟨_,(hr j e he).2.2,id,rfl,rfl⟩
 ·have la:a < 3 + fx.length + 3 * es.length:=by
   rw [← aea p K W fx es]
   exact Nat.lt_of_not_le fun h=>ha (zX h)
  have lb:b < 3 + fx.length + 3 * es.length:=by
   rw [← aea p K W fx es]
   exact Nat.lt_of_not_le fun h=>hb (zX h)
  by_cases h1:a < x.length<;>by_cases h2:b < x.length
  ·rw [aaa h1,aaa h2] at hab
   exact (List.getElem_inj hn).1 hab
  ·rw [aaa h1,qZ (by omega)] at hab
   exact (hnx (b - x.length) (by omega) (hab ▸ zZ h1)).elim
  ·rw [aaa h2,qZ (by omega)] at hab
   exact (hnx (a - x.length) (by omega) (hab.symm ▸ zZ h2)).elim
  ·rw [qZ (by omega),qZ (by omega)] at hab
   have:=hni _ _ (by omega) (by omega) hab
   omega
def agb (k:Nat):List Nat→Nat→Option Nat
 | [],_=>none
 | e :: r,i=>if k = e then some i else agb k r (i + 1)
theorem wu (k:Nat):∀ (ks:List Nat) (i:Nat),ja false [0] (V.int (k:Int)) (Qt ks) i = some (agb k ks i)
 | [],_=>rfl
 | e :: r,i=>by
   have h:qt false [0] (V.int (k:Int)) (V.int (e:Int)) = some ((k:Int) == (e:Int)):=by simp [qt,Jp]
   rw [Qt,zL,ja,h]
   by_cases hk:k = e
   ·subst hk;simp [agb]
   ·have:((k:Int) == (e:Int)) = false:=by simp;omega
    rw [this];simp only [agb,if_neg hk]
    exact wu k r (i + 1)
theorem aji {k:Nat}:∀ {ks:List Nat} {i a:Nat},agb k ks i = some a→i≤a∧a < i + ks.length∧ks[a - i]? = some k
 | [],_,_,h=>by cases h
 | e :: r,i,a,h=>by
   rw [agb] at h
   split at h
   ·rename_i he;cases h;subst he;simp
   ·have:=aji h
    simp only [List.length_cons]
    refine ⟨by omega,by omega,?_⟩
    rw [show a - i = (a - (i + 1)) + 1 by omega,List.getElem?_cons_succ]
    exact this.2.2
theorem akl {k:Nat}:∀ {ks:List Nat} {i a:Nat} (r:List Nat),agb k ks i = some a→agb k (ks++r) i = some a
 | [],_,_,_,h=>by cases h
 | e :: t,i,a,r,h=>by
   rw [agb] at h
   rw [List.cons_append,agb]
   split at h
   ·rename_i he;rw [if_pos he];exact h
   ·rename_i he;rw [if_neg he];exact akl r h
theorem aga {k:Nat}:∀ {ks:List Nat} {i:Nat},(∀ x∈ks,x≠k)→agb k (ks++[k]) i = some (i + ks.length)
 | [],i,_=>by simp [agb]
 | e :: t,i,h=>by
   have h1:=h e (kG ..)
   rw [List.cons_append,agb,if_neg (fun x=>h1 x.symm),aga fun x hx=>h x (kL _ hx),List.length_cons]
   congr 1;omega
theorem ahJ {k:Nat}:∀ {ks:List Nat} {i:Nat},(∀ x∈ks,x≠k)→agb k ks i = none
 | [],i,_=>rfl
 | e :: t,i,h=>by
   rw [agb,if_neg (fun x=>h e (kG ..) x.symm)]
   exact ahJ fun x hx=>h x (kL _ hx)
theorem qe {p:List Nat} (h:PW p):∀ i,Qp p (Qp p i) = Qp p i:=by
 intro i
 induction i using Nat.strongRecOn with
 | _ i ih =>
   rcases e:p[i]? with _|j
   ·have:Qp p i = i:=by rw [Qp,adh,e]
    rw [this,this]
   ·rw [Vw h e]
    have:=h.le i j e
    split
    ·rename_i hj;rw [Vw h e,if_pos hj]
    ·exact ih j (by omega)
def Q1 (i:Nat) (f:Qa) (e:QT):QT:={ e with hosts:=acx Op.bytesLess e.hosts f.host,finds:=e.finds++[i] }
def XE (i:Nat) (f:Qa) (e:QT):QT:={ Q1 i f e with machs:=if f.mach = 0 then e.machs else acx ltJ e.machs f.mach }
def agC (p:List Nat) (es:List QT) (i:Nat) (f:Qa):List QT :=
 if Qp p i = i then es++[XE i f ⟨i,[],[],[]⟩] else
 match agb (Qp p i) (es.map QT.num) 0 with
 | some a=>(match es[a]? with|some e=>es.set a (XE i f e)|none=>es)
 | none=>es
def YZ (l:List Qa) (p:List Nat):Nat→List QT
 | 0=>[]
 | k + 1=>match l[k]? with
   | some f=>agC p (YZ l p k) k f
   | none=>YZ l p k
def Jv (l:List Qa) (gap:Int):List QT:=YZ l (aah l gap) l.length
structure ESz (k:Nat) (e:QT):Prop where
 num:e.num < k
 h0:0 < e.hosts.length
 h1:e.hosts.length≤k
 f0:0 < e.finds.length
 f1:e.finds.length≤k
 m1:e.machs.length≤k
 fl:∀ i∈e.finds,i < k
structure EI (p:List Nat) (k:Nat) (es:List QT):Prop where
 sz:∀ e∈es,ESz k e
 len:es.length≤k
 has:∀ j,j < k→Qp p j = j→∃ a,agb j (es.map QT.num) 0 = some a
theorem abk {α:Type} [BEq α] {lt:α→α→Bool} (l:List α) (x:α):(acx lt l x).length≤l.length + 1∧0 < (acx lt l x).length:=by
 unfold acx
 split
 ·rename_i h
  refine ⟨by omega,?_⟩
  unfold J0 at h
  split at h
  ·rename_i y hy
   have:=(zn.1 hy).1
   omega
  ·cases h
 ·have:=aip (lt:=lt) (l:=l) (x:=x)
  simp only [zq,List.length_cons,zQ,kf]
  omega
theorem ac1 {α:Type} [BEq α] {lt:α→α→Bool} (x:α):acx lt [] x = [x]:=by
 simp [acx,J0,bsI,aiJ]
theorem ESz.upd {k:Nat} {e:QT} {f:Qa} (h:ESz k e):ESz (k + 1) (XE k f e):=by
 obtain ⟨a1,a2,a3,a4,a5,a6,a7⟩:=h
 have g1:=abk (lt:=Op.bytesLess) e.hosts f.host
 have g2:=abk (lt:=ltJ) e.machs f.mach
 refine ⟨by simp only [XE,Q1];omega,by simp only [XE,Q1];omega,by simp only [XE,Q1];omega,by simp only [XE,Q1,zq,List.length_singleton];omega,by simp only [XE,Q1,zq,List.length_singleton];omega,?_,fun i hi=>?_⟩
 ·simp only [XE,Q1];split<;>omega
 ·simp only [XE,Q1,zT,zv] at hi
  rcases hi with hi|hi
  ·have:=a7 i hi;omega
  ·omega
theorem ESz.new {k:Nat} {f:Qa}:ESz (k + 1) (XE k f ⟨k,[],[],[]⟩):=by
 have g1:=abk (lt:=Op.bytesLess) [] f.host
 have g2:=abk (lt:=ltJ) [] f.mach
 simp only [List.length_nil] at g1 g2
 refine ⟨by simp only [XE,Q1];omega,by simp only [XE,Q1];omega,by simp only [XE,Q1];omega,by simp [XE,Q1],by simp [XE,Q1],?_,fun i hi=>?_⟩
 ·simp only [XE,Q1];split
  ·simp
  ·omega
 ·simp only [XE,Q1,List.nil_append,zv] at hi;omega
theorem ESz.mono {k:Nat} {e:QT} (h:ESz k e):ESz (k + 1) e:=⟨Z8 h.num,h.h0,Zp h.h1,h.f0,Zp h.f1,Zp h.m1,fun i hi=>Z8 (h.fl i hi)⟩
theorem EI.find {p:List Nat} {k:Nat} {es:List QT} (hp:PW p) (h:EI p k es) (hk:Qp p k≠k):∃ a e,agb (Qp p k) (es.map QT.num) 0 = some a∧es[a]? = some e∧e.num = Qp p k:=by
 have h1:=qX hp k
 obtain ⟨a,ha⟩:=h.has _ (by omega) (qe hp k)
 obtain ⟨_,h2,h3⟩:=aji ha
 rw [Nat.sub_zero,zf,zl] at h3
 obtain ⟨e,he,hn⟩:=h3
 exact ⟨a,e,ha,he,hn⟩
theorem jB {es:List QT} {a:Nat} {e e1:QT} (h:es[a]? = some e) (hn:e1.num = e.num):(es.set a e1).map QT.num = es.map QT.num:=by
 rw [Zu]
 apply ZG
 intro j
 rw [ka]
 split
 ·rename_i hj;subst hj
  rw [zb,if_pos (zn.1 h).1,zf,h,hn];rfl
 ·rfl
theorem EI.step {p:List Nat} {k:Nat} {es:List QT} {f:Qa} (hp:PW p) (h:EI p k es):EI p (k + 1) (agC p es k f):=by
 obtain ⟨s1,s2,s3⟩:=h
 by_cases hk:Qp p k = k
 ·rw [agC,if_pos hk]
  refine ⟨fun e he=>?_,by rw [zq,List.length_singleton];omega,fun j hj hjr=>?_⟩
  ·rcases zT.1 he with he|he
   ·exact (s1 e he).mono
   ·rw [zv.1 he];exact ESz.new
  ·rw [km]
   rcases Nat.lt_or_eq_of_le (Nat.le_of_lt_succ hj) with hj|rfl
   ·obtain ⟨a,ha⟩:=s3 j hj hjr
    exact ⟨a,akl _ ha⟩
   ·refine ⟨_,aga fun x hx=>?_⟩
    obtain ⟨e,he,rfl⟩:=zE.1 hx
    have:=(s1 e he).num
    omega
 ·obtain ⟨a,e,ha,he,hn⟩:=EI.find hp ⟨s1,s2,s3⟩ hk
  rw [agC,if_neg hk,ha]
  simp only [he]
  have hm:(es.set a (XE k f e)).map QT.num = es.map QT.num:=by
   rw [Zu]
   apply ZG
   intro j
   rw [ka]
   split
   ·rename_i hj;subst hj
    rw [zb,if_pos (zn.1 he).1,zf,he];rfl
   ·rfl
  refine ⟨fun y hy=>?_,by rw [zU];omega,fun j hj hjr=>?_⟩
  ·rcases ZZ hy with hy|rfl
   ·exact (s1 y hy).mono
   ·exact (s1 e (zu he)).upd
  ·rw [hm]
   rcases Nat.lt_or_eq_of_le (Nat.le_of_lt_succ hj) with hj|rfl
   ·exact s3 j hj hjr
   ·exact (hk hjr).elim
theorem yb {l:List Qa} {p:List Nat} (hp:PW p):∀ k,k≤l.length→EI p k (YZ l p k)
 | 0,_=>⟨by simp [YZ],zj _,fun j hj=>absurd hj (Zf _)⟩
 | k + 1,hk=>by
   have ih:=yb (l:=l) hp k (by omega)
   rw [YZ,zd (by omega)]
   exact ih.step hp
theorem ad8 {l:List Qa} {p:List Nat} {k:Nat} {f:Qa} (h:l[k]? = some f):YZ l p (k + 1) = agC p (YZ l p k) k f:=by rw [YZ,h]
def QT.v (e:QT):V:=.agg [V.int e.num,.sl 1 (e.hosts.map V.str),.sl 1 (e.machs.map V.int),.sl 1 (Qt e.finds)]
end Av
end
