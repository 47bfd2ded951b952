/- K25 -/
import Derived.Test.YtjolhibbihejgaaGreatK24
import Derived.Test.YtjolhibbihejgaaGreatK23
import Derived.Test.YtjolhibbihejgaaGreatK12
import Derived.Test.YtjolhibbihejgaaGreatK14
set_option linter.unusedVariables false
set_option linter.unusedSimpArgs false
noncomputable section
set_option maxRecDepth 10000
set_option maxHeartbeats 4000000
namespace Av
open Go
attribute [local irreducible] AWp UY qH yr awS awC aaT awQ abS Q1 Ub aaE awR Ux awB okR ym ris
def anP (f:Qc):Bool:=f.alg == 0 && f.bits == 0
def vA (f:Qc):Bool :=
 if f.kind = 1∨f.kind = 8 then decide (Qv f.alg f.bits > 0) && f.num == 0 && f.text == []
 else if f.kind = 2 then anP f && f.text == [] && decide (f.num≥0) && decide (f.num≤65535)
 else if f.kind = 3 then decide (Qv f.alg f.bits > 0) && (Wh f.alg).kind == 2 && decide (f.num≥0) && decide (f.num≤2147483648) && f.text == []
 else if f.kind = 4∨f.kind = 5 then anP f && f.text == [] && decide (f.num≥1) && decide (f.num≤4)
 else if f.kind = 6 then anP f && f.text == [] && decide (f.num≥0) && decide (f.num≤2147483648)
 else if f.kind = 7 then anP f && f.num == 0 && Qw f.text
 else false
def KJ (f:Qc):Bool:=Qw f.host && Qw f.subj && decide (f.mach≥0) && decide (f.mach≤1099511627776) && (decide (f.day≥0) && decide (f.day≤40000) && decide (f.conf≥1) && decide (f.conf≤100)) && !decide (f.src < 1) && !decide (f.src > 7) && vA f
def WC:=qd Proofs.Tryz.f190 []
def UF (Γ:Env) (f:Nat):Prop:=∀ (f0:Qc) (ht:f0.text.length < 2 ^ 60),EvN Γ f [f0.v] (V.bool (vA f0))
theorem abo {Γ:Env} {f:Nat} (h:Has Γ.P f 114 WC.1.1.ac WC.1.2) (z0:Yl Γ 67) (z1:Xo Γ 97) (z2:JU Γ 66):UF Γ f:=by
 intro f0 ht
 refine Qa h zsi zcl zcl fun C hC hm=>?_
 subst hC
 simp only [WC,qd,DC.ac]
 obtain ⟨src,host,mach,day,conf,kind,subj,alg,bits,num,text⟩:=f0
 have hN:=(z2 text ht).b
 simp only [vA,anP,Qc.v,Qc.cells] at *
 generalize hv:decide (Qv alg bits > 0) = vv
 generalize hk:(Wh alg).kind = kk
 generalize hkb:(kk == 2) = kb
 generalize hd0:decide (num≥0) = d0
 generalize hd1:decide (num≤65535) = d1
 generalize hd2:decide (num≤2147483648) = d2
 generalize hd3:decide (num≥1) = d3
 generalize hd4:decide (num≤4) = d4
 generalize hnn:Qw text = nn at *
 generalize ha:(alg == 0) = a0
 generalize hb:(bits == 0) = b0
 generalize htx:(text == []) = t0
 generalize hnm:(num == 0) = n0
 have E:∀ n:Int,kind≠n→(kind == n) = false:=fun n h=>by simpa using h
 by_cases k1:kind = 1
 ·subst k1
  repeat' (first|(refine zsk ?_;intro K' hK)|refine zsp ?_|(refine zsc ?_ ?_<;>intro hc<;>first|exact znh|try simp only [znz] at hc)|simp (maxSteps:=1000000) only [go_sem,hv,hk,hkb,ha,hb,htx,hnm,hd0,hd1,hd2,hd3,hd4]|(refine hK _ ?_;clear hK K')|apply zan|(apply QJ;(focus first|exact (z0 _ _).b|exact (z1 _).b|exact (z2 _ zsd).b))|exact zsq|fail)
  all_goals (refine Qi _ rfl ?_;simp only [go_sem];simp_all;done)
 by_cases k8:kind = 8
 ·subst k8
  (have zx:=za hv (za hk (za hkb (za ha (za hb (za htx (za hnm (za hd0 (za hd1 (za hd2 (za hd3 hd4)))))))))));refine zgo ?_;repeat' first|exact zt|apply zan|intro hc
  all_goals (refine Qi _ rfl ?_;simp only [go_sem];simp_all;done)
 by_cases k2:kind = 2
 ·subst k2
  (have zx:=za hv (za hk (za hkb (za ha (za hb (za htx (za hnm (za hd0 (za hd1 (za hd2 (za hd3 hd4)))))))))));refine zgo ?_;repeat' first|exact zt|apply zan|intro hc
  all_goals (refine Qi _ rfl ?_;simp only [go_sem];simp_all;done)
 by_cases k3:kind = 3
 ·subst k3
  (have zx:=za hv (za hk (za hkb (za ha (za hb (za htx (za hnm (za hd0 (za hd1 (za hd2 (za hd3 hd4)))))))))));refine zgo ?_;repeat' first|exact zt|apply zan|intro hc
  all_goals (refine Qi _ rfl ?_;simp only [go_sem];simp_all;done)
 by_cases k4:kind = 4
 ·subst k4
  (have zx:=za hv (za hk (za hkb (za ha (za hb (za htx (za hnm (za hd0 (za hd1 (za hd2 (za hd3 hd4)))))))))));refine zgo ?_;repeat' first|exact zt|apply zan|intro hc
  all_goals (refine Qi _ rfl ?_;simp only [go_sem];simp_all;done)
 by_cases k5:kind = 5
 ·subst k5
  (have zx:=za hv (za hk (za hkb (za ha (za hb (za htx (za hnm (za hd0 (za hd1 (za hd2 (za hd3 hd4)))))))))));refine zgo ?_;repeat' first|exact zt|apply zan|intro hc
  all_goals (refine Qi _ rfl ?_;simp only [go_sem];simp_all;done)
 by_cases k6:kind = 6
 ·subst k6
  (have zx:=za hv (za hk (za hkb (za ha (za hb (za htx (za hnm (za hd0 (za hd1 (za hd2 (za hd3 hd4)))))))))));refine zgo ?_;repeat' first|exact zt|apply zan|intro hc
  all_goals (refine Qi _ rfl ?_;simp only [go_sem];simp_all;done)
 by_cases k7:kind = 7
 ·subst k7
  (have zx:=za hv (za hk (za hkb (za ha (za hb (za htx (za hnm (za hd0 (za hd1 (za hd2 (za hd3 hd4)))))))))));refine zgo ?_;repeat' first|exact zt|apply zan|intro hc
  all_goals (refine Qi _ rfl ?_;simp only [go_sem];simp_all;done)
 repeat' (first|(refine zsk ?_;intro K' hK)|refine zsp ?_|(refine zsc ?_ ?_<;>intro hc<;>first|exact znh|try simp only [znz] at hc)|simp (maxSteps:=1000000) only [go_sem,hv,hk,hkb,ha,hb,htx,hnm,hd0,hd1,hd2,hd3,hd4,E 1 k1,E 8 k8,E 2 k2,E 3 k3,E 4 k4,E 5 k5,E 6 k6,E 7 k7]|(refine hK _ ?_;clear hK K')|apply zan|(apply QJ;(focus first|exact (z0 _ _).b|exact (z1 _).b|exact (z2 _ zsd).b))|exact zsq|fail)
 all_goals (refine Qi _ rfl ?_;simp only [go_sem];simp [*];done)
def Up:=qd Proofs.Tryz.f149 []
def KV (Γ:Env) (f:Nat):Prop:=∀ (f0:Qc) (hh:f0.host.length < 2 ^ 60) (hs:f0.subj.length < 2 ^ 60) (ht:f0.text.length < 2 ^ 60),EvN Γ f [f0.v] (V.int (bif KJ f0 then 0 else 24))
theorem adI {Γ:Env} {f:Nat} (h:Has Γ.P f 62 Up.1.1.ac Up.1.2) (z0:JU Γ 66) (z1:UF Γ 190):KV Γ f:=by
 intro f0 hh hs ht
 refine Qa h zsi zcl zcl fun C hC hm=>?_
 subst hC
 simp only [Up,qd,DC.ac]
 obtain ⟨src,host,mach,day,conf,kind,subj,alg,bits,num,text⟩:=f0
 have hN1:=(z0 host hh).b
 have hN2:=(z0 subj hs).b
 have hC:=(z1 ⟨src,host,mach,day,conf,kind,subj,alg,bits,num,text⟩ ht).b
 simp only [KJ,Qc.v,Qc.cells] at *
 generalize hd1:decide (mach≥0) = d1
 generalize hd2:decide (mach≤1099511627776) = d2
 generalize hd3:decide (day≥0) = d3
 generalize hd4:decide (day≤40000) = d4
 generalize hd5:decide (conf≥1) = d5
 generalize hd6:decide (conf≤100) = d6
 generalize hd7:decide (src < 1) = d7
 generalize hd8:decide (src > 7) = d8
 generalize vA ⟨src,host,mach,day,conf,kind,subj,alg,bits,num,text⟩ = cc at *
 generalize Qw host = n1 at *
 generalize Qw subj = n2 at *
 (have zx:=za hd1 (za hd2 (za hd3 (za hd4 (za hd5 (za hd6 (za hd7 hd8)))))));refine zgo ?_;repeat' first|exact zt|apply zan|intro hc
 all_goals (refine Qi _ rfl ?_;simp only [go_sem];simp_all;done)
def Qc.Sz (f:Qc):Prop:=f.host.length < 2 ^ 60∧f.subj.length < 2 ^ 60∧f.text.length < 2 ^ 60
def ltF (a b:Qc):Bool:=decide (anx a b < 0)
def anO (l:List Qc):Bool:=okP KJ ltF l l.length
def vG (l:List Qc):Bool:=anO l && decide ((l.length:Int)≤400)
theorem arV (b:Bool):((bif b then (0:Int) else 24) != 0) = !b:=by cases b<;>rfl
def Vy:=qd Proofs.Tryz.f105 [zhn 17]
def W5 (Γ:Env) (f:Nat):Prop:=∀ (l:List Qc) (hl:l.length < 2 ^ 40) (hz:∀ x∈l,x.Sz),EvN Γ f [.sl 11 (l.map Qc.v)] (V.bool (vG l))
attribute [local go_sem] zb Qc.cells Qc.v Yh in
theorem acB {Γ:Env} {f:Nat} (h:Has Γ.P f 33 Vy.1.1.ac Vy.1.2) (z0:KV Γ 149) (z1:KU Γ 150):W5 Γ f:=by
 intro l hl hz
 refine Qa h zsi zcl zcl fun C hC hm=>?_
 subst hC
 simp only [Vy,qd,DC.ac]
 refine zgo ?_;repeat' first|exact zt|apply zan|intro hc
 refine Qs (ι:=Nat) (fun k=>k≤l.length∧okP KJ ltF l k = true) (fun k=>Yh [(0,.sl 11 (l.map Qc.v)),(5,.sl 11 (l.map Qc.v)),(6,V.int l.length),(7,V.int k)] [] 0) (fun k=>l.length - k) 0 ⟨zA _,rfl⟩ (Qf []) (Qo [] (by simp only [go_sem,zwl,zb]<;>exact zcc) zwa (by simp) (by simp) (by omega)) fun k hk K' hL=>?_
 obtain ⟨hk,hinv⟩:=hk
 rcases hd:l.drop k with _|⟨x,r⟩
 ·have hkl:=Qr hd
  have e1:decide ((k:Int) < (l.length:Int)) = false:=by simp;omega
  have hkk:k = l.length:=by omega
  subst hkk
  have hn:vG l = decide ((l.length:Int)≤400):=by rw [vG,anO,hinv,zP]
  rw [hn]
  (have zx:=e1);exact zg
 ·obtain ⟨hk',hget,hr⟩:=Qk hd
  have hw:=Qg (k:=k) (by omega)
  have e1:decide ((k:Int) < (l.length:Int)) = true:=by simp;omega
  have hxz:=hz x (zq hget)
  have hnx:=(z0 x hxz.1 hxz.2.1 hxz.2.2).b
  have hbad:okP KJ ltF l (k + 1) = false→vG l = false:=fun h=>by rw [vG,anO,agO h (by omega),zY]
  have hce:=arV (KJ x)
  simp only [Qc.v,Qc.cells] at hnx
  rcases hx:KJ x with _|_
  ·have hb:okP KJ ltF l (k + 1) = false:=by rw [vi,hget];simp [hx]
   rw [hbad hb]
   rw [hx] at hce hnx
   (have zx:=za e1 (za hw (za hce hget)));exact zg
  ·rw [hx] at hce hnx
   rcases k with _|k
   ·have hw0:IntKind.i64.wrap 1 = ((1:Nat):Int):=by decide
    have hg1:okP KJ ltF l (0 + 1) = true:=by rw [agN hget,hx]
    have e2:decide (((0:Nat):Int) > 0) = false:=rfl
    (have zx:=za e1 (za e2 (za hw (za hw0 (za hce hget)))));refine zgo ?_;repeat' first|exact zt|apply zan|intro hc
    all_goals exact hL _ 1 (Qf []) ⟨by omega,hg1⟩ (by omega) (zwg [])
   ·have e2:decide (((k + 1:Nat):Int) > 0) = true:=zv (by omega)
    have hw2:IntKind.i64.wrap (((k + 1:Nat):Int) - 1) = (k:Int):=by rw [Q9 (by omega) (by omega)];omega
    obtain ⟨y,hgy⟩:∃ y,l[k]? = some y:=⟨_,zd (by omega)⟩
    have hnext:=ad2 (p:=KJ) (q:=ltF) hget hgy
    rw [hinv,hx] at hnext
    have ho:=(z1 y x).b
    simp only [Qc.v,Qc.cells] at ho
    rcases hb:ltF y x with _|_
    ·have e3:decide (anx y x≥0) = true:=by
      rw [ltF,zB] at hb
      exact zv (by omega)
     rw [hbad (by rw [hnext,hb];rfl)]
     generalize anx y x = oo at *
     (have zx:=za e1 (za e2 (za e3 (za hw (za hw2 (za hce (za hget hgy)))))));exact zg
    ·have e3:decide (anx y x≥0) = false:=by
      rw [ltF,decide_eq_true_iff] at hb
      exact zp (by omega)
     have hg2:okP KJ ltF l (k + 2) = true:=by rw [hnext,hb];rfl
     generalize anx y x = oo at *
     (have zx:=za e1 (za e2 (za e3 (za hw (za hw2 (za hce (za hget hgy)))))));refine zgo ?_;repeat' first|exact zt|apply zan|intro hc
     all_goals exact hL _ (k + 2) (Qf []) ⟨by omega,hg2⟩ (by omega) (zwg [])
def Wg (l:List Qc) (gap:Int):Int:=if vG l = true then (if gap < 0∨gap > 4000 then 2 else 0) else 24
theorem ars {α:Type} {p:α→Bool} {q:α→α→Bool} {l:List α} {k i:Nat} {x:α} (h:okP p q l k = true) (hi:i < k) (hx:l[i]? = some x):p x = true:=by
 rw [okP,kw] at h
 have:=h i (Zj.2 hi)
 rw [hx] at this
 simp only [zC] at this
 exact this.1
theorem agf {l:List Qc} (h:vG l = true):l.length≤400∧∀ x∈l,KJ x = true:=by
 rw [vG,zC,decide_eq_true_iff] at h
 refine ⟨by omega,fun x hx=>?_⟩
 obtain ⟨i,hi,rfl⟩:=Za hx
 exact ars h.1 hi (zd hi)
theorem aoD {x:Qc} (h:KJ x = true):arQ x:=by
 simp only [KJ,zC,decide_eq_true_iff] at h
 exact ⟨by omega,by omega⟩
theorem ap5 {l:List Qc} {gap:Int} (h:Wg l gap = 0):l.length≤400∧∀ x∈l,arQ x:=by
 unfold Wg at h
 split at h
 ·rename_i hn
  exact ⟨(agf hn).1,fun x hx=>aoD ((agf hn).2 x hx)⟩
 ·cases h
def Vx:=qd Proofs.Tryz.f75 []
def Kh (Γ:Env) (f:Nat):Prop:=∀ (l:List Qc) (gap:Int) (hl:l.length < 2 ^ 40) (hz:∀ x∈l,x.Sz),EvN Γ f [.sl 11 (l.map Qc.v),V.int gap] (V.int (Wg l gap))
theorem acA {Γ:Env} {f:Nat} (h:Has Γ.P f 16 Vx.1.1.ac Vx.1.2) (z0:W5 Γ 105):Kh Γ f:=by
 intro l gap hl hz
 refine Qa h zsi zcl zcl fun C hC hm=>?_
 subst hC
 simp only [Vx,qd,DC.ac]
 have hn:=(z0 l hl hz).b
 unfold Wg
 rcases hb:vG l with _|_
 ·rw [hb] at hn
  rw [if_neg (by decide)]
  exact zg
 ·rw [hb] at hn
  rw [if_pos rfl]
  by_cases g1:gap < 0
  ·have e1:decide (gap < 0) = true:=zv g1
   rw [if_pos (.inl g1)]
   (have zx:=e1);exact zg
  ·have e1:decide (gap < 0) = false:=zp g1
   by_cases g2:gap > 4000
   ·have e2:decide (gap > 4000) = true:=zv g2
    rw [if_pos (.inr g2)]
    (have zx:=za e1 e2);exact zg
   ·have e2:decide (gap > 4000) = false:=zp g2
    rw [if_neg (by omega)]
    (have zx:=za e1 e2);exact zg
structure Jp where
 num:Nat
 hosts:List (List UInt8)
 machs:List Int
 finds:List Nat
def mhd (a:Nat) (ms:List Int):V:=if ms = [] then jR else .hd a 0 ms.length
def Jp.own (e:Jp) (a:Nat):V:=.agg [V.int e.num,.hd a 0 e.hosts.length,mhd (a + 1) e.machs,.hd (a + 2) 0 e.finds.length]
def KG:Nat→List Jp→List V
 | _,[]=>[]
 | n,e :: r=>e.own n :: KG (n + 3) r
theorem VI:∀ (es:List Jp) (n:Nat),(KG n es).length = es.length
 | [],_=>rfl
 | e :: r,n=>by simp only [KG,List.length_cons,VI r]
theorem Ug:∀ (es:List Jp) (n j:Nat),(KG n es)[j]? = (es[j]?).map fun e=>e.own (n + 3 * j)
 | [],n,j=>by simp [KG]
 | e :: r,n,0=>by simp [KG]
 | e :: r,n,j + 1=>by
   simp only [KG,List.getElem?_cons_succ]
   rw [Ug r (n + 3) j,show n + 3 + 3 * j = n + 3 * (j + 1) by omega]
def mob (ms:List Int):Ob:=if ms = [] then .dead else .buf true 1 (ms.map V.int)
def adb:List Jp→List Ob
 | []=>[]
 | e :: r=>.buf true 1 (e.hosts.map V.str) :: mob e.machs :: .buf true 1 (Jc e.finds) :: adb r
theorem aac:∀ es:List Jp,(adb es).length = 3 * es.length
 | []=>rfl
 | e :: r=>by simp only [adb,List.length_cons,aac r];omega
theorem XI:∀ (es:List Jp) (j:Nat),(adb es)[3 * j]? = (es[j]?).map fun e=>.buf true 1 (e.hosts.map V.str)
 | [],j=>by simp [adb]
 | e :: r,0=>by simp [adb]
 | e :: r,j + 1=>by
   rw [show 3 * (j + 1) = 3 * j + 1 + 1 + 1 by omega]
   simp only [adb,List.getElem?_cons_succ,XI r j]
theorem Uf:∀ (es:List Jp) (j:Nat),(adb es)[3 * j + 1]? = (es[j]?).map fun e=>mob e.machs
 | [],j=>by simp [adb]
 | e :: r,0=>by simp [adb]
 | e :: r,j + 1=>by
   rw [show 3 * (j + 1) + 1 = (3 * j + 1) + 1 + 1 + 1 by omega]
   simp only [adb,List.getElem?_cons_succ,Uf r j]
theorem XH:∀ (es:List Jp) (j:Nat),(adb es)[3 * j + 2]? = (es[j]?).map fun e=>.buf true 1 (Jc e.finds)
 | [],j=>by simp [adb]
 | e :: r,0=>by simp [adb]
 | e :: r,j + 1=>by
   rw [show 3 * (j + 1) + 2 = (3 * j + 2) + 1 + 1 + 1 by omega]
   simp only [adb,List.getElem?_cons_succ,XH r j]
theorem akL:∀ a b:List Jp,adb (a++b) = adb a++adb b
 | [],b=>rfl
 | e :: r,b=>by simp only [List.cons_append,adb,akL r b]
def adc (x:List Nat) (nm:Nat→Nat) (k:Nat):Nat:=match x[k]? with|some a=>a|none=>nm (k - x.length)
def eO (p K W:List Nat) (fx:List Ob) (es:List Jp):List Ob:=.box true (Jc p) :: .map (Jc K) (Jc W) 0 :: .obuf true 4 (KG (3 + fx.length) es) :: (fx++adb es)
theorem ae9 (p K W:List Nat) (fx:List Ob) (es:List Jp):(eO p K W fx es).length = 3 + fx.length + 3 * es.length:=by
 simp only [eO,List.length_cons,zn,aac];omega
theorem wz (p K W:List Nat) (fx:List Ob) (es:List Jp) (q:Nat):(eO p K W fx es)[3 + fx.length + q]? = (adb es)[q]?:=by
 rw [show 3 + fx.length + q = fx.length + q + 1 + 1 + 1 by omega]
 simp only [eO,List.getElem?_cons_succ]
 rw [kF (by omega)];congr 1;omega
theorem arw (τ:Nat→Nat) (a:Nat) (ms:List Int):(mhd a ms).ren τ = mhd (τ a) ms:=by
 unfold mhd;split<;>rfl
theorem asU {a n:Nat} (ms:List Int) (h:a < n):(mhd a ms).lt n:=by
 unfold mhd;split
 ·simp only [V.lt]
 ·exact h
theorem akR {τ:Nat→Nat}:∀ (es:List Jp) (n j:Nat),(jg τ (KG n es))[j]? = (es[j]?).map fun e=>.agg [V.int (e.num:Nat),.hd (τ (n + 3 * j)) 0 e.hosts.length,mhd (τ (n + 3 * j + 1)) e.machs,.hd (τ (n + 3 * j + 2)) 0 e.finds.length]
 | [],n,j=>by simp [KG,jg]
 | e :: r,n,0=>by simp [KG,jg,Jp.own,V.ren,arw]
 | e :: r,n,j + 1=>by
   simp only [KG,jg,List.getElem?_cons_succ]
   rw [akR r (n + 3) j,show n + 3 + 3 * j = n + 3 * (j + 1) by omega]
theorem anq:∀ (es:List Jp) (n m:Nat),n + 3 * es.length≤m→ltL m (KG n es)
 | [],_,_,_=>trivial
 | e :: r,n,m,h=>by
   simp only [List.length_cons] at h
   refine ⟨⟨trivial,?_,asU _ (by omega),?_,trivial⟩,anq r (n + 3) m (by omega)⟩
   ·show n < m;omega
   ·show n + 2 < m;omega
theorem jr {x:List Nat} {nm:Nat→Nat} {k:Nat} (h:x.length≤k):adc x nm k = nm (k - x.length):=by
 rw [adc,zX h]
theorem aa9 {x:List Nat} {nm:Nat→Nat} {k:Nat} (h:k < x.length):adc x nm k = x[k]:=by
 rw [adc,zd h]
theorem aa8 {x:List Nat} {nm:Nat→Nat} {k:Nat} (h:k < x.length):adc x nm k = x.getD k 0:=by
 rw [aa9 h,zK,zd h];rfl
theorem alV {p:List Nat} {τ:Nat→Nat} {n:Nat} {c:Bool}:(Ob.box c (Jc p)).weak τ n (.box c (Jc p)):=⟨id,(QP _ _).symm,Jj _ _⟩
theorem akD {s:St} {ts:List (Nat×V)} {p K W:List Nat} {fx:List Ob} {es:List Jp} {n:Nat} (hnn:3 + fx.length + 3 * es.length≤n) (x:List Nat) (nm:Nat→Nat) (els:List V) (hx:x.length = 3 + fx.length)
  (ht:∀ q∈ts,s.t q.1 = q.2.ren (adc x nm)∧q.2.lt n)
  (h0:s.o (x.getD 0 0) = some (.box true (Jc p))) (h1:s.o (x.getD 1 0) = some (.map (Jc K) (Jc W) 0)) (h2:s.o (x.getD 2 0) = some (.obuf true 4 els)∨(es = []∧s.o (x.getD 2 0) = some (.buf true 4 [])))
  (hfx:∀ k y,fx[k]? = some y→∃ z,s.o (x.getD (3 + k) 0) = some z∧z.weak (adc x nm) n y)
  (hel:∀ j:Nat,els[j]? = (es[j]?).map fun e=>.agg [V.int e.num,.hd (nm (3 * j)) 0 e.hosts.length,mhd (nm (3 * j + 1)) e.machs,.hd (nm (3 * j + 2)) 0 e.finds.length])
  (hr:∀ (j:Nat) (e:Jp),es[j]? = some e→s.o (nm (3 * j)) = some (.buf true 1 (e.hosts.map V.str))∧(∃ y,s.o (nm (3 * j + 1)) = some y∧(e.machs≠[]→y = .buf true 1 (e.machs.map V.int)))∧s.o (nm (3 * j + 2)) = some (.buf true 1 (Jc e.finds)))
  (hn:x.Nodup) (hnx:∀ q,q < 3 * es.length→nm q ∉ x) (hni:∀ a b,a < 3 * es.length→b < 3 * es.length→nm a = nm b→a = b):akt 0 (adc x nm) s { t:=K6 ts,o:=fun k=>(eO p K W fx es)[k]?,n:=n }:=by
 have hxl:3≤x.length:=by omega
 refine ⟨fun i=>?_,fun a y hy=>?_,fun a b ha hb hab=>?_,fun k hk=>absurd hk (kI _),zA _⟩
 ·rcases wh ts i with h|h
  ·exact .inl h
  ·right;exact ht _ h
 ·have hy:(eO p K W fx es)[a]? = some y:=hy
  obtain ⟨ha,_⟩:=zj.1 hy
  rw [ae9] at ha
  refine ⟨by show a < n;omega,?_⟩
  match a,ha,hy with
  | 0,_,hy =>
    rw [aa8 (by omega)]
    simp only [eO,List.getElem?_cons_zero,zf] at hy
    subst hy
    exact ⟨_,h0,alV⟩
  | 1,_,hy =>
    rw [aa8 (by omega)]
    simp only [eO,List.getElem?_cons_succ,List.getElem?_cons_zero,zf] at hy
    subst hy
    exact ⟨_,h1,rfl,rfl,(QP _ _).symm,Jj _ _⟩
  | 2,_,hy =>
    rw [aa8 (by omega)]
    simp only [eO,List.getElem?_cons_succ,List.getElem?_cons_zero,zf] at hy
    subst hy
    rcases h2.symm with ⟨he0,h2'⟩|h2'
    ·subst he0;exact ⟨_,h2',id,rfl,rfl⟩
    refine ⟨_,h2',id,rfl,?_,anq _ _ _ (by show _≤n;omega)⟩
    apply ZB
    intro j
    rw [hel,akR]
    cases es[j]? with
    | none=>rfl
    | some e =>
      simp only [Option.map_some]
      rw [jr (by omega),jr (by omega),jr (by omega),hx]
      rw [show 3 + fx.length + 3 * j - (3 + fx.length) = 3 * j by omega,show 3 + fx.length + 3 * j + 1 - (3 + fx.length) = 3 * j + 1 by omega,show 3 + fx.length + 3 * j + 2 - (3 + fx.length) = 3 * j + 2 by omega]
  | a + 3,ha,hy =>
    by_cases hfa:a < fx.length
    ·rw [aa8 (by omega),show a + 3 = 3 + a by omega]
     simp only [eO,List.getElem?_cons_succ] at hy
     rw [kf hfa] at hy
     exact hfx a y hy
    ·obtain ⟨q,rfl⟩:∃ q,a = fx.length + q:=⟨a - fx.length,by omega⟩
     rw [show fx.length + q + 3 = 3 + fx.length + q by omega] at hy ⊢
     rw [wz] at hy
     rw [jr (by omega),hx,show 3 + fx.length + q - (3 + fx.length) = q by omega]
     obtain ⟨j,hq⟩:∃ j,q = 3 * j∨q = 3 * j + 1∨q = 3 * j + 2:=⟨q / 3,by omega⟩
     rcases hq with rfl|rfl|rfl
     ·rw [XI] at hy
      simp only [zh] at hy
      obtain ⟨e,he,rfl⟩:=hy
      exact ⟨_,(hr j e he).1,id,rfl,rfl⟩
     ·rw [Uf] at hy
      simp only [zh] at hy
      obtain ⟨e,he,rfl⟩:=hy
      obtain ⟨y,hy1,hy2⟩:=(hr j e he).2.1
      refine ⟨y,hy1,?_⟩
      unfold mob
      split
      ·cases y<;>trivial
      ·rename_i hne
       rw [hy2 hne]
       exact ⟨id,rfl,rfl⟩
     ·rw [XH] at hy
      simp only [zh] at hy
      obtain ⟨e,he,rfl⟩:=hy
      exact ⟨_,(hr j e he).2.2,id,rfl,rfl⟩
 ·have la:a < 3 + fx.length + 3 * es.length:=by
   rw [← ae9 p K W fx es]
   exact Nat.lt_of_not_le fun h=>ha (zX h)
  have lb:b < 3 + fx.length + 3 * es.length:=by
   rw [← ae9 p K W fx es]
   exact Nat.lt_of_not_le fun h=>hb (zX h)
  by_cases h1:a < x.length<;>by_cases h2:b < x.length
  ·rw [aa9 h1,aa9 h2] at hab
   exact (List.getElem_inj hn).1 hab
  ·rw [aa9 h1,jr (by omega)] at hab
   exact (hnx (b - x.length) (by omega) (hab ▸ zM h1)).elim
  ·rw [aa9 h2,jr (by omega)] at hab
   exact (hnx (a - x.length) (by omega) (hab.symm ▸ zM h2)).elim
  ·rw [jr (by omega),jr (by omega)] at hab
   have:=hni _ _ (by omega) (by omega) hab
   omega
def afw (k:Nat):List Nat→Nat→Option Nat
 | [],_=>none
 | e :: r,i=>if k = e then some i else afw k r (i + 1)
theorem vr (k:Nat):∀ (ks:List Nat) (i:Nat),K0 false [0] (V.int (k:Int)) (Jc ks) i = some (afw k ks i)
 | [],_=>rfl
 | e :: r,i=>by
   have h:U6 false [0] (V.int (k:Int)) (V.int (e:Int)) = some ((k:Int) == (e:Int)):=by simp [U6,JE]
   rw [Jc,zy,K0,h]
   by_cases hk:k = e
   ·subst hk;simp [afw]
   ·have:((k:Int) == (e:Int)) = false:=by simp;omega
    rw [this];simp only [afw,if_neg hk]
    exact vr k r (i + 1)
theorem ajU {k:Nat}:∀ {ks:List Nat} {i a:Nat},afw k ks i = some a→i≤a∧a < i + ks.length∧ks[a - i]? = some k
 | [],_,_,h=>by cases h
 | e :: r,i,a,h=>by
   rw [afw] at h
   split at h
   ·rename_i he;cases h;subst he;simp
   ·have:=ajU h
    simp only [List.length_cons]
    refine ⟨by omega,by omega,?_⟩
    rw [show a - i = (a - (i + 1)) + 1 by omega,List.getElem?_cons_succ]
    exact this.2.2
theorem ak5 {k:Nat}:∀ {ks:List Nat} {i a:Nat} (r:List Nat),afw k ks i = some a→afw k (ks++r) i = some a
 | [],_,_,_,h=>by cases h
 | e :: t,i,a,r,h=>by
   rw [afw] at h
   rw [List.cons_append,afw]
   split at h
   ·rename_i he;rw [if_pos he];exact h
   ·rename_i he;rw [if_neg he];exact ak5 r h
theorem agV {k:Nat}:∀ {ks:List Nat} {i:Nat},(∀ x∈ks,x≠k)→afw k (ks++[k]) i = some (i + ks.length)
 | [],i,_=>by simp [afw]
 | e :: t,i,h=>by
   have h1:=h e (kD ..)
   rw [List.cons_append,afw,if_neg (fun x=>h1 x.symm),agV fun x hx=>h x (kE _ hx),List.length_cons]
   congr 1;omega
theorem aij {k:Nat}:∀ {ks:List Nat} {i:Nat},(∀ x∈ks,x≠k)→afw k ks i = none
 | [],i,_=>rfl
 | e :: t,i,h=>by
   rw [afw,if_neg (fun x=>h e (kD ..) x.symm)]
   exact aij fun x hx=>h x (kE _ hx)
theorem alT {p:List Nat} (h:PW p):∀ i,Xs p (Xs p i) = Xs p i:=by
 intro i
 induction i using Nat.strongRecOn with
 | _ i ih =>
   rcases e:p[i]? with _|j
   ·have:Xs p i = i:=by rw [Xs,ahW,e]
    rw [this,this]
   ·rw [vg h e]
    have:=h.le i j e
    split
    ·rename_i hj;rw [vg h e,if_pos hj]
    ·exact ih j (by omega)
def QX (i:Nat) (f:Qc) (e:Jp):Jp:={ e with hosts:=acs Op.bytesLess e.hosts f.host,finds:=e.finds++[i] }
def YW (i:Nat) (f:Qc) (e:Jp):Jp:={ QX i f e with machs:=if f.mach = 0 then e.machs else acs ltJ e.machs f.mach }
def afK (p:List Nat) (es:List Jp) (i:Nat) (f:Qc):List Jp :=
 if Xs p i = i then es++[YW i f ⟨i,[],[],[]⟩] else
 match afw (Xs p i) (es.map Jp.num) 0 with
 | some a=>(match es[a]? with|some e=>es.set a (YW i f e)|none=>es)
 | none=>es
def J8 (l:List Qc) (p:List Nat):Nat→List Jp
 | 0=>[]
 | k + 1=>match l[k]? with
   | some f=>afK p (J8 l p k) k f
   | none=>J8 l p k
def Wb (l:List Qc) (gap:Int):List Jp:=J8 l (aig l gap) l.length
structure ESz (k:Nat) (e:Jp):Prop where
 num:e.num < k
 h0:0 < e.hosts.length
 h1:e.hosts.length≤k
 f0:0 < e.finds.length
 f1:e.finds.length≤k
 m1:e.machs.length≤k
 fl:∀ i∈e.finds,i < k
structure EI (p:List Nat) (k:Nat) (es:List Jp):Prop where
 sz:∀ e∈es,ESz k e
 len:es.length≤k
 has:∀ j,j < k→Xs p j = j→∃ a,afw j (es.map Jp.num) 0 = some a
theorem acr {α:Type} [BEq α] {lt:α→α→Bool} (l:List α) (x:α):(acs lt l x).length≤l.length + 1∧0 < (acs lt l x).length:=by
 unfold acs
 split
 ·rename_i h
  refine ⟨by omega,?_⟩
  unfold V3 at h
  split at h
  ·rename_i y hy
   have:=(zj.1 hy).1
   omega
  ·cases h
 ·have:=ai1 (lt:=lt) (l:=l) (x:=x)
  simp only [zn,List.length_cons,zV,kV]
  omega
theorem ad7 {α:Type} [BEq α] {lt:α→α→Bool} (x:α):acs lt [] x = [x]:=by
 simp [acs,V3,bsI,amH]
theorem ESz.upd {k:Nat} {e:Jp} {f:Qc} (h:ESz k e):ESz (k + 1) (YW k f e):=by
 obtain ⟨a1,a2,a3,a4,a5,a6,a7⟩:=h
 have g1:=acr (lt:=Op.bytesLess) e.hosts f.host
 have g2:=acr (lt:=ltJ) e.machs f.mach
 refine ⟨by simp only [YW,QX];omega,by simp only [YW,QX];omega,by simp only [YW,QX];omega,by simp only [YW,QX,zn,List.length_singleton];omega,by simp only [YW,QX,zn,List.length_singleton];omega,?_,fun i hi=>?_⟩
 ·simp only [YW,QX];split<;>omega
 ·simp only [YW,QX,zU,zu] at hi
  rcases hi with hi|hi
  ·have:=a7 i hi;omega
  ·omega
theorem ESz.new {k:Nat} {f:Qc}:ESz (k + 1) (YW k f ⟨k,[],[],[]⟩):=by
 have g1:=acr (lt:=Op.bytesLess) [] f.host
 have g2:=acr (lt:=ltJ) [] f.mach
 simp only [List.length_nil] at g1 g2
 refine ⟨by simp only [YW,QX];omega,by simp only [YW,QX];omega,by simp only [YW,QX];omega,by simp [YW,QX],by simp [YW,QX],?_,fun i hi=>?_⟩
 ·simp only [YW,QX];split
  ·simp
  ·omega
 ·simp only [YW,QX,List.nil_append,zu] at hi;omega
theorem ESz.mono {k:Nat} {e:Jp} (h:ESz k e):ESz (k + 1) e:=⟨ZQ h.num,h.h0,ZE h.h1,h.f0,ZE h.f1,ZE h.m1,fun i hi=>ZQ (h.fl i hi)⟩
theorem EI.find {p:List Nat} {k:Nat} {es:List Jp} (hp:PW p) (h:EI p k es) (hk:Xs p k≠k):∃ a e,afw (Xs p k) (es.map Jp.num) 0 = some a∧es[a]? = some e∧e.num = Xs p k:=by
 have h1:=ad1 hp k
 obtain ⟨a,ha⟩:=h.has _ (by omega) (alT hp k)
 obtain ⟨_,h2,h3⟩:=ajU ha
 rw [Nat.sub_zero,zk,zh] at h3
 obtain ⟨e,he,hn⟩:=h3
 exact ⟨a,e,ha,he,hn⟩
theorem jQ {es:List Jp} {a:Nat} {e e1:Jp} (h:es[a]? = some e) (hn:e1.num = e.num):(es.set a e1).map Jp.num = es.map Jp.num:=by
 rw [Z6]
 apply ZB
 intro j
 rw [ka]
 split
 ·rename_i hj;subst hj
  rw [zb,if_pos (zj.1 h).1,zk,h,hn];rfl
 ·rfl
theorem EI.step {p:List Nat} {k:Nat} {es:List Jp} {f:Qc} (hp:PW p) (h:EI p k es):EI p (k + 1) (afK p es k f):=by
 obtain ⟨s1,s2,s3⟩:=h
 by_cases hk:Xs p k = k
 ·rw [afK,if_pos hk]
  refine ⟨fun e he=>?_,by rw [zn,List.length_singleton];omega,fun j hj hjr=>?_⟩
  ·rcases zU.1 he with he|he
   ·exact (s1 e he).mono
   ·rw [zu.1 he];exact ESz.new
  ·rw [kc]
   rcases Nat.lt_or_eq_of_le (Nat.le_of_lt_succ hj) with hj|rfl
   ·obtain ⟨a,ha⟩:=s3 j hj hjr
    exact ⟨a,ak5 _ ha⟩
   ·refine ⟨_,agV fun x hx=>?_⟩
    obtain ⟨e,he,rfl⟩:=kO.1 hx
    have:=(s1 e he).num
    omega
 ·obtain ⟨a,e,ha,he,hn⟩:=EI.find hp ⟨s1,s2,s3⟩ hk
  rw [afK,if_neg hk,ha]
  simp only [he]
  have hm:(es.set a (YW k f e)).map Jp.num = es.map Jp.num:=by
   rw [Z6]
   apply ZB
   intro j
   rw [ka]
   split
   ·rename_i hj;subst hj
    rw [zb,if_pos (zj.1 he).1,zk,he];rfl
   ·rfl
  refine ⟨fun y hy=>?_,by rw [zF];omega,fun j hj hjr=>?_⟩
  ·rcases kU hy with hy|rfl
   ·exact (s1 y hy).mono
   ·exact (s1 e (zq he)).upd
  ·rw [hm]
   rcases Nat.lt_or_eq_of_le (Nat.le_of_lt_succ hj) with hj|rfl
   ·exact s3 j hj hjr
   ·exact (hk hjr).elim
theorem yx {l:List Qc} {p:List Nat} (hp:PW p):∀ k,k≤l.length→EI p k (J8 l p k)
 | 0,_=>⟨by simp [J8],zm _,fun j hj=>absurd hj (kI _)⟩
 | k + 1,hk=>by
   have ih:=yx (l:=l) hp k (by omega)
   rw [J8,zd (by omega)]
   exact ih.step hp
theorem akb {l:List Qc} {p:List Nat} {k:Nat} {f:Qc} (h:l[k]? = some f):J8 l p (k + 1) = afK p (J8 l p k) k f:=by rw [J8,h]
def Jp.v (e:Jp):V:=.agg [V.int e.num,.sl 1 (e.hosts.map V.str),.sl 1 (e.machs.map V.int),.sl 1 (Jc e.finds)]
end Av
end
