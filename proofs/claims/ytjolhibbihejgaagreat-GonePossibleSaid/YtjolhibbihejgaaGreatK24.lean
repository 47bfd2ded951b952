/- Functions that are lent two buffers: the first is spent, a new one is answered, the second stays as it is (slices.Insert). -/
import Derived.Test.YtjolhibbihejgaaGreatK23
import Derived.Test.YtjolhibbihejgaaGreatK12
import Derived.Test.YtjolhibbihejgaaGreatK14
import Derived.Test.YtjolhibbihejgaaGreatK13
import Derived.Test.YtjolhibbihejgaaGreatK20
import Derived.Test.YtjolhibbihejgaaGreatK22
set_option linter.unusedVariables false
set_option linter.unusedSimpArgs false
noncomputable section
set_option maxRecDepth 10000
set_option maxHeartbeats 4000000
namespace Av
open Go
attribute [local irreducible] AWp UY qH yr awS awC aaT awQ abS Q1 Ub aaE awR Ux awB okR ym ris
def Jc (p:List Nat):List V:=p.map fun n:Nat=>V.int (n:Int)
structure PW (p:List Nat):Prop where
 len:p.length = 400
 le:∀ i j:Nat,p[i]? = some j→j≤i
theorem KE (p:List Nat):(Jc p).length = p.length:=by simp [Jc]
theorem KF {p:List Nat} {i j:Nat} (h:p[i]? = some j):(Jc p)[i]? = some (V.int j):=by simp [Jc,h]
theorem YG (p:List Nat):Qd (Jc p):=by
 unfold Jc
 induction p with
 | nil=>trivial
 | cons x r ih=>exact ⟨trivial,ih⟩
theorem QP (τ:Nat→Nat) (p:List Nat):jg τ (Jc p) = Jc p:=QL _ _ (YG p)
theorem Jj (n:Nat) (p:List Nat):ltL n (Jc p):=JC _ _ (YG p)
theorem aet (p:List Nat) (i j:Nat):(Jc p).set i (V.int j) = Jc (p.set i j):=by simp [Jc,Z6]
theorem ah5 {p:List Nat} {i:Nat} (h:i < p.length) (j:Nat):List.take i (Jc p)++[V.int (j:Int)]++List.drop (i + 1) (Jc p) = Jc (p.set i j):=by
 rw [← aet,List.set_eq_take_append_cons_drop,if_pos (by rw [KE];exact h),ko];rfl
theorem PW.get {p:List Nat} (h:PW p) {i:Nat} (hi:i < 400):∃ j,p[i]? = some j∧j≤i:=by
 have:i < p.length:=by rw [h.len];exact hi
 exact ⟨p[i],zd this,h.le i _ (zd this)⟩
theorem PW.set {p:List Nat} (h:PW p) {i j:Nat} (hj:j≤i):PW (p.set i j):=⟨by rw [zF];exact h.len,fun a b e=>by
 rw [ka] at e
 split at e
 ·split at e
  ·rename_i e1 _;cases e;rw [← e1];exact hj
  ·cases e
 ·exact h.le a b e⟩
def ahW (p:List Nat):Nat→Nat→Nat
 | 0,i=>i
 | n + 1,i=>match p[i]? with
   | some j=>if j = i then i else ahW p n j
   | none=>i
def Xs (p:List Nat) (i:Nat):Nat:=ahW p (i + 1) i
theorem af6 {p:List Nat} (h:PW p):∀ (n i m:Nat),i < n→i < m→ahW p n i = ahW p m i
 | 0,i,m,h1,_=>absurd h1 (kI _)
 | n + 1,i,0,_,h2=>absurd h2 (kI _)
 | n + 1,i,m + 1,h1,h2=>by
   simp only [ahW]
   rcases e:p[i]? with _|j
   ·rfl
   ·simp only
    split
    ·rfl
    ·rename_i hne
     have:=h.le i j e
     exact af6 h n j m (by omega) (by omega)
theorem vg {p:List Nat} (h:PW p) {i j:Nat} (e:p[i]? = some j):Xs p i = if j = i then i else Xs p j:=by
 rw [Xs,ahW,e]
 simp only
 split
 ·rfl
 ·rename_i hne
  have:=h.le i j e
  exact af6 h _ _ _ (by omega) (by omega)
theorem ad1 {p:List Nat} (h:PW p):∀ i,Xs p i≤i:=by
 intro i
 induction i using Nat.strongRecOn with
 | _ i ih =>
   rcases e:p[i]? with _|j
   ·rw [Xs,ahW,e];exact zm _
   ·rw [vg h e]
    have:=h.le i j e
    split
    ·exact zm _
    ·rename_i hne
     have:=ih j (by omega)
     omega
def Yb:=qd Proofs.Tryz.f77 []
def J3 (Γ:Env) (f:Nat):Prop:=∀ (p:List Nat) (i:Nat) (hp:PW p) (hi:i < 400),EvD Γ f [V.int i] (Jc p) (V.int (Xs p i)) (Jc p)
attribute [local go_sem] ZI zT Yh in
theorem jW {Γ:Env} {f:Nat} (h:Has Γ.P f 18 Yb.1.1.ac Yb.1.2) :J3 Γ f:=by
 intro p i hp hi
 refine Wf h zsi (by first|exact YG _|simp only [V.closed,Qd,and_self]) zc3 zc3 fun C hC hm=>?_
 subst hC
 simp only [Yb,qd,DC.ac]
 have hpc:=KE p
 have hl4:=hp.len
 refine zgo ?_;repeat' first|exact zt|apply zan|intro hc
 refine Qs (ι:=Nat) (fun k=>k≤i∧Xs p k = Xs p i) (fun k=>Yh [(0,.ptr 0 0),(1,V.int k)] [(0,.box true (Jc p))] 1) (fun k=>k) i ⟨zm _,rfl⟩ (Qf []) (Qo [] zwa (by simp only [go_sem,zwl,QP,Jj]<;>exact zcc) (by simp) (by simp) (by omega)) fun k hk K' hL=>?_
 obtain ⟨hk,hinv⟩:=hk
 obtain ⟨j,hg,hj⟩:=hp.get (i:=k) (by omega)
 have hgc:=KF hg
 have hst:=vg hp hg
 rw [hinv] at hst
 have e0:decide ((0:Int)≤(k:Int)) = true:=by simp
 by_cases hjk:j = k
 ·subst hjk
  rw [if_pos rfl] at hst
  rw [hst]
  have e1:((j:Int) != (j:Int)) = false:=by simp
  (have zx:=za hgc (za hpc (za hl4 e1)));refine zgo ?_;repeat' first|exact zt|apply zan|intro hc
  all_goals (refine v8 _ rfl rfl (YG p) ?_;simp only [go_sem];done)
 ·rw [if_neg hjk] at hst
  have e1:((j:Int) != (k:Int)) = true:=by simp;omega
  (have zx:=za hgc (za hpc (za hl4 e1)));refine zgo ?_;repeat' first|exact zt|apply zan|intro hc
  all_goals exact hL _ j (Qf []) ⟨by omega,hst.symm⟩ (by omega) (Qo [] zwa (by simp only [go_sem,zwl,QP,Jj]<;>exact zcc) (by simp) (by simp) (by omega))
def ajR (p:List Nat) (i k:Nat):List Nat:=p.set (max (Xs p i) (Xs p k)) (min (Xs p i) (Xs p k))
theorem agU {p:List Nat} (h:PW p) (i k:Nat):PW (ajR p i k):=h.set (by omega)
theorem asV (a b:Nat):(if (a:Int) < (b:Int) then (b:Int) else (a:Int)) = ((max a b:Nat):Int):=by
 split<;>omega
theorem asT (a b:Nat):(if (b:Int) < (a:Int) then (b:Int) else (a:Int)) = ((min a b:Nat):Int):=by
 split<;>omega
def Yc:=qd Proofs.Tryz.f106 []
def YT (Γ:Env) (f:Nat):Prop:=∀ (p:List Nat) (i k:Nat) (hp:PW p) (hi:i < 400) (hk:k < 400),EvD Γ f [V.int i,V.int k] (Jc p) (.tup []) (Jc (ajR p i k))
attribute [local go_sem] ZI zT in
theorem jX {Γ:Env} {f:Nat} (h:Has Γ.P f 23 Yc.1.1.ac Yc.1.2) (z0:J3 Γ 77):YT Γ f:=by
 intro p i k hp hi hk
 refine Wf h zsi (by first|exact YG _|simp only [V.closed,Qd,and_self]) zc3 zc3 fun C hC hm=>?_
 subst hC
 simp only [Yc,qd,DC.ac]
 have n1:=z0 p i hp hi
 have n2:=z0 p k hp hk
 have r1:=ad1 hp i
 have r2:=ad1 hp k
 have hpc:=KE p
 have hl4:=hp.len
 unfold ajR
 generalize Xs p i = a at *
 generalize Xs p k = b at *
 have m1:=asV a b
 have m2:=asT a b
 have m3:max a b < 400:=by omega
 have hs:=ah5 (p:=p) (i:=max a b) (by omega) (min a b)
 (have zx:=za hpc (za hl4 (za m1 (za m2 hs))));refine zgo ?_;repeat' first|exact zt|apply zan|intro hc
 all_goals (refine v8 _ rfl rfl (YG _) ?_;simp only [go_sem];done)
def ao4 (k:Int):List Int→Nat→Option Nat
 | [],_=>none
 | e :: r,i=>if k = e then some i else ao4 k r (i + 1)
theorem agm (k:Int):∀ (ks:List Int) (i:Nat),K0 false [0] (V.int k) (ks.map V.int) i = some (ao4 k ks i)
 | [],_=>rfl
 | e :: r,i=>by
   have h:U6 false [0] (V.int k) (V.int e) = some (k == e):=by simp [U6,JE]
   rw [zy,K0,h]
   by_cases hk:k = e
   ·subst hk;simp [ao4]
   ·have:(k == e) = false:=by simpa using hk
    rw [this];simp only [ao4,if_neg hk]
    exact agm k r (i + 1)
theorem an8 {k:Int}:∀ {ks:List Int} {i a:Nat},ao4 k ks i = some a→i≤a∧a < i + ks.length
 | [],_,_,h=>by cases h
 | e :: r,i,a,h=>by
   rw [ao4] at h
   split at h
   ·cases h;simp
   ·have:=an8 h
    simp only [List.length_cons];omega
theorem ae7 (k:Int):U6 false [0] (V.int k) (V.int k) = some true:=by simp [U6,JE]
structure JS where
 p:List Nat
 ks:List Int
 vs:List Nat
 loose:Int
structure JW (k:Nat) (s:JS):Prop where
 pw:PW s.p
 len:s.ks.length = s.vs.length
 vlt:∀ v∈s.vs,v < k
 lo:s.loose = -1∨(0≤s.loose∧s.loose < (k:Int))
def anS (l:List Qc) (f:Qc) (gap loose:Int):Bool :=
 decide (loose≥0) && match l[loose.toNat]? with
  | some g=>g.host == f.host && decide (aiO f g≤gap)
  | none=>false
def ajP (l:List Qc) (gap:Int) (s:JS) (i:Nat) (f:Qc):JS :=
 if f.mach = 0 then
  if agR l f gap≥0 then { s with p:=ajR s.p i (agR l f gap).toNat }
  else { s with p:=if anS l f gap s.loose = true then ajR s.p i s.loose.toNat else s.p,loose:=i }
 else match ao4 f.mach s.ks 0 with
  | some a=>{ s with p:=ajR s.p i (s.vs.getD a 0),vs:=s.vs.set a i }
  | none=>{ s with ks:=s.ks++[f.mach],vs:=s.vs++[i] }
def KH (l:List Qc) (gap:Int):Nat→JS
 | 0=>⟨List.range 400,[],[],-1⟩
 | k + 1=>match l[k]? with
   | some f=>ajP l gap (KH l gap k) k f
   | none=>KH l gap k
def aig (l:List Qc) (gap:Int):List Nat:=(KH l gap l.length).p
theorem apn:PW (List.range 400):=⟨Zp,fun i j h=>by
 obtain ⟨h1,h2⟩:=zj.1 h
 rw [List.getElem_range] at h2;omega⟩
theorem anT (l:List Qc) (f:Qc) (gap:Int):agR l f gap = -1∨(0≤agR l f gap∧agR l f gap < (l.length:Int)):=acp l f gap l.length
theorem apN {l:List Qc} {gap:Int} {s:JS} {i:Nat} {f:Qc} (h:JW i s):JW (i + 1) (ajP l gap s i f):=by
 obtain ⟨h1,h2,h3,h4⟩:=h
 have h3':∀ v∈s.vs,v < i + 1:=fun v hv=>ZQ (h3 v hv)
 unfold ajP
 split
 ·split
  ·exact ⟨agU h1 _ _,h2,h3',by simp only;omega⟩
  ·refine ⟨?_,h2,h3',.inr (by simp only;omega)⟩
   simp only
   split
   ·exact agU h1 _ _
   ·exact h1
 ·split
  ·refine ⟨agU h1 _ _,by simpa using h2,fun v hv=>?_,by simp only;omega⟩
   rcases kU hv with hv|hv
   ·exact h3' v hv
   ·omega
  ·refine ⟨h1,by simp [h2],fun v hv=>?_,by simp only;omega⟩
   rcases zU.1 hv with hv|hv
   ·exact h3' v hv
   ·rw [zu.1 hv];omega
theorem aeJ (l:List Qc) (gap:Int):∀ k,JW k (KH l gap k)
 | 0=>⟨apn,rfl,by simp [KH],.inl rfl⟩
 | k + 1=>by
   have ih:=aeJ l gap k
   rw [KH]
   split
   ·exact apN ih
   ·exact ⟨ih.pw,ih.len,fun v hv=>ZQ (ih.vlt v hv),by have:=ih.lo;omega⟩
theorem ad6 (l:List Qc) (gap:Int):PW (aig l gap):=(aeJ l gap l.length).pw
def ipP (k:Nat):List Nat:=(List.range 400).map fun j=>if j < k then j else 0
theorem arc (n i:Nat) (v:Value) (h:i < (asG n v).length):(asG n v)[i] = v:=by simp [asG]
theorem arb (n:Nat) (v:Value):(asG n v).length = n:=List.length_replicate
theorem apP:(asG 400 (.int .i64 0)).map V.ofV = Jc (ipP 0):=by
 apply List.ext_getElem
 ·rw [zb,arb,KE,ipP,zb,Zp]
 ·intro i h1 h2;rw [zQ,arc];simp only [Jc,ipP,zQ,kI,if_false];rfl
theorem an3 (k:Nat):(ipP k).length = 400:=by simp [ipP]
theorem arz (k:Nat):(ipP k).set k k = ipP (k + 1):=by
 apply List.ext_getElem
 ·simp [ipP]
 ·intro i h1 h2
  simp only [ipP,List.getElem_set,zQ,List.getElem_range]
  split
  ·rename_i e;subst e;simp
  ·rename_i e
   by_cases hi:i < k
   ·rw [if_pos hi,if_pos (by omega)]
   ·rw [if_neg hi,if_neg (by omega)]
theorem arA:ipP 400 = List.range 400:=by
 apply List.ext_getElem
 ·simp [ipP]
 ·intro i h1 h2
  simp only [ipP,zb,Zp] at h1
  simp [ipP,h1]
def jSt (l:List Qc) (gap:Int) (k:Nat) (s:JS):St:=Yh [(0,.sl 11 (l.map Qc.v)),(1,V.int gap),(5,.ptr 0 0),(7,.mp 1),(8,V.int s.loose),(26,.sl 11 (l.map Qc.v)),(27,V.int l.length),(28,V.int k)] [(0,.box true (Jc s.p)),(1,.map (s.ks.map V.int) (Jc s.vs) 0)] 2
theorem wd (p:List Nat) (i:Nat):Jc p++[V.int (i:Int)] = Jc (p++[i]):=by simp [Jc]
theorem ajQ {l:List Qc} {gap:Int} {k:Nat} {f:Qc} (h:l[k]? = some f):KH l gap (k + 1) = ajP l gap (KH l gap k) k f:=by rw [KH,h]
def WA:=qd Proofs.Tryz.f76 [zhn 22]
def UD (Γ:Env) (f:Nat):Prop:=∀ (l:List Qc) (gap:Int) (hl:l.length≤400) (hd:∀ x∈l,arQ x),EvR Γ f [.sl 11 (l.map Qc.v),V.int gap] ((Jc (aig l gap)))
attribute [local go_sem] ZI zT Qc.cells Qc.v jSt Yh in
theorem abm {Γ:Env} {f:Nat} (h:Has Γ.P f 91 WA.1.1.ac WA.1.2) (z0:YT Γ 106) (z1:VP Γ 107) (z2:Y9 Γ 108):UD Γ f:=by
 intro l gap hl hd
 refine ae5 h (by simp) (YG _) fun C hC hm=>?_
 subst hC
 simp only [WA,qd,DC.ac]
 have z4:=apP
 have hpc:=KE
 have hip:=an3
 (have zx:=za z4 (za hpc hip));refine zgo ?_;repeat' first|exact zt|apply zan|intro hc
 refine Qs (ι:=Nat) (fun k=>k≤400) (fun k=>Yh [(0,.sl 11 (l.map Qc.v)),(1,V.int gap),(5,.ptr 0 0),(16,V.int k)] [(0,.box true (Jc (ipP k)))] 1) (fun k=>400 - k) 0 (zA _) (Qf [(0,2000)]) (Qo [(0,2000)] zwa (by simp only [go_sem,zwl,QP,Jj]<;>exact zcc) (by simp) (by simp;omega) (by omega)) fun k hk K' hL=>?_
 by_cases hk4:k < 400
 ·have e1:decide ((k:Int) < 400) = true:=zv (by omega)
  have hw:=Qg (k:=k) (by omega)
  have hs:=ah5 (p:=ipP k) (i:=k) (by rw [an3];exact hk4) k
  rw [arz] at hs
  (have zx:=za e1 (za hw (za hpc (za hip hs))));refine zgo ?_;repeat' first|exact zt|apply zan|intro hc
  all_goals exact hL _ (k + 1) (Qf []) (by omega) (by omega) (Qo [] zwa (by simp only [go_sem,zwl,QP,Jj]<;>exact zcc) (by simp) (by simp) (by omega))
 have e1:decide ((k:Int) < 400) = false:=zp (by omega)
 obtain rfl:k = 400:=by omega
 clear hL
 rw [arA]
 have e0:decide (((400:Nat):Int) < 400) = false:=by decide
 (have zx:=e0);refine zgo ?_;repeat' first|exact zt|apply zan|intro hc
 refine Qs (ι:=Nat) (fun k=>k≤l.length) (fun k=>jSt l gap k (KH l gap k)) (fun k=>l.length - k) 0 (zA _) (Qf [(1,1001)]) (Qo [(1,1001)] (by simp only [go_sem,zwl,jSt,KH,zb]<;>exact zcc) (by simp only [go_sem,zwl,jSt,KH,QP,Jj]<;>exact zcc) (by simp [jSt,Qf]) (by simp [jSt];omega) (by omega)) fun k hk K' hL=>?_
 have hJ:=aeJ l gap k
 rcases hdr:l.drop k with _|⟨g,r⟩
 ·have hkl:=Qr hdr
  have e1:decide ((k:Int) < (l.length:Int)) = false:=by simp;omega
  obtain rfl:k = l.length:=by omega
  have hjf:aig l gap = (KH l gap l.length).p:=rfl
  rw [hjf]
  (have zx:=e1);refine zgo ?_;repeat' first|exact zt|apply zan|intro hc
  all_goals (refine aqN _ rfl rfl (YG _);done)
 obtain ⟨hk',hget,hr⟩:=Qk hdr
 have hw:=Qg (k:=k) (by omega)
 have e1:decide ((k:Int) < (l.length:Int)) = true:=by simp;omega
 have hsu:=ajQ (gap:=gap) hget
 have hgd:=hd g (zq hget)
 generalize KH l gap k = s at *
 obtain ⟨p,ks,vs,lo⟩:=s
 obtain ⟨j1,j2,j3,j4⟩:=hJ
 simp only at j1 j2 j3 j4
 have hgv:l.map Qc.v = l.map Qc.v:=rfl
 simp only [jSt]
 by_cases c1:g.mach = 0
 ·have e2:(g.mach != 0) = false:=by simpa using c1
  have p1:=(z1 l g gap (by omega) hd hgd).b
  rw [ajP,if_pos c1] at hsu
  simp only [Qc.v,Qc.cells] at p1
  rcases anT l g gap with c2|⟨c2,c3⟩
  ·rw [if_neg (by omega)] at hsu
   rw [c2] at p1
   have e3:decide ((-1:Int)≥0) = false:=by decide
   rcases hq:anS l g gap lo with _|_
   ·rw [hq,if_neg (by decide)] at hsu
    by_cases c4:lo≥0
    ·obtain ⟨n,rfl⟩:∃ n:Nat,lo = n:=⟨lo.toNat,by omega⟩
     have e4:decide ((n:Int)≥0) = true:=zv (by omega)
     obtain ⟨q,hgq⟩:∃ q,l[n]? = some q:=⟨_,zd (by omega)⟩
     rw [anS,e4,zP,Int.toNat_natCast,hgq] at hq
     simp only at hq
     have p2:=(z2 g q hgd (hd q (zq hgq))).b
     simp only [Qc.v,Qc.cells] at p2
     rcases c5:q.host == g.host with _|_
     ·(have zx:=za e1 (za e2 (za e3 (za e4 (za c5 (za hw (za hget hgq)))))));refine zgo ?_;repeat' first|exact zt|apply zan|intro hc
      all_goals exact hL _ (k + 1) (Qf []) (by omega) (by omega) (by rw [hsu];exact Qo [] (by simp only [go_sem,zwl,jSt,zb]<;>exact zcc) (by simp only [go_sem,zwl,jSt,QP,Jj]<;>exact zcc) (by simp [jSt,Qf]) (by simp [jSt]) (by omega))
     ·rw [c5,zP] at hq
      (have zx:=za e1 (za e2 (za e3 (za e4 (za c5 (za hq (za hw (za hget hgq))))))));refine zgo ?_;repeat' first|exact zt|apply zan|intro hc
      all_goals exact hL _ (k + 1) (Qf []) (by omega) (by omega) (by rw [hsu];exact Qo [] (by simp only [go_sem,zwl,jSt,zb]<;>exact zcc) (by simp only [go_sem,zwl,jSt,QP,Jj]<;>exact zcc) (by simp [jSt,Qf]) (by simp [jSt]) (by omega))
    ·have e4:decide (lo≥0) = false:=zp c4
     (have zx:=za e1 (za e2 (za e3 (za e4 (za hw hget)))));refine zgo ?_;repeat' first|exact zt|apply zan|intro hc
     all_goals exact hL _ (k + 1) (Qf []) (by omega) (by omega) (by rw [hsu];exact Qo [] (by simp only [go_sem,zwl,jSt,zb]<;>exact zcc) (by simp only [go_sem,zwl,jSt,QP,Jj]<;>exact zcc) (by simp [jSt,Qf]) (by simp [jSt]) (by omega))
   ·rw [hq,if_pos rfl] at hsu
    have c4:lo≥0:=by
     rw [anS] at hq
     simp only [zC,zO] at hq
     exact hq.1
    obtain ⟨n,rfl⟩:∃ n:Nat,lo = n:=⟨lo.toNat,by omega⟩
    have e4:decide ((n:Int)≥0) = true:=zv (by omega)
    obtain ⟨q,hgq⟩:∃ q,l[n]? = some q:=⟨_,zd (by omega)⟩
    rw [anS,e4,zP,Int.toNat_natCast,hgq] at hq
    rw [Int.toNat_natCast] at hsu
    simp only [zC] at hq
    obtain ⟨c5,c6⟩:=hq
    have p2:=(z2 g q hgd (hd q (zq hgq))).b
    have n1:=z0 p k n j1 (by omega) (by omega)
    simp only [Qc.v,Qc.cells] at p2
    (have zx:=za e1 (za e2 (za e3 (za e4 (za c5 (za c6 (za hw (za hget hgq))))))));refine zgo ?_;repeat' first|exact zt|apply zan|intro hc
    all_goals exact hL _ (k + 1) (Qf []) (by omega) (by omega) (by rw [hsu];exact Qo [] (by simp only [go_sem,zwl,jSt,zb]<;>exact zcc) (by simp only [go_sem,zwl,jSt,QP,Jj]<;>exact zcc) (by simp [jSt,Qf]) (by simp [jSt]) (by omega))
  ·rw [if_pos c2] at hsu
   obtain ⟨n,hn⟩:∃ n:Nat,agR l g gap = n:=⟨(agR l g gap).toNat,by omega⟩
   rw [hn] at hsu c3 p1
   rw [Int.toNat_natCast] at hsu
   have e3:decide ((n:Int)≥0) = true:=zv (by omega)
   have n1:=z0 p k n j1 (by omega) (by omega)
   (have zx:=za e1 (za e2 (za e3 (za hw hget))));refine zgo ?_;repeat' first|exact zt|apply zan|intro hc
   all_goals exact hL _ (k + 1) (Qf []) (by omega) (by omega) (by rw [hsu];exact Qo [] (by simp only [go_sem,zwl,jSt,zb]<;>exact zcc) (by simp only [go_sem,zwl,jSt,QP,Jj]<;>exact zcc) (by simp [jSt,Qf]) (by simp [jSt]) (by omega))
 ·have e2:(g.mach != 0) = true:=by simpa using c1
  rw [ajP,if_neg c1] at hsu
  have hfk:=agm g.mach ks 0
  have hek:=ae7 g.mach
  rcases hix:ao4 g.mach ks 0 with _|a
  ·rw [hix] at hsu hfk
   have hm1:ks.map V.int++[V.int g.mach] = (ks++[g.mach]).map V.int:=by simp
   have hm2:=wd vs k
   (have zx:=za e1 (za e2 (za hw (za hfk (za hek (za hm1 (za hm2 hget)))))));refine zgo ?_;repeat' first|exact zt|apply zan|intro hc
   all_goals exact hL _ (k + 1) (Qf []) (by omega) (by omega) (by rw [hsu];exact Qo [] (by simp only [go_sem,zwl,jSt,zb]<;>exact zcc) (by simp only [go_sem,zwl,jSt,QP,Jj]<;>exact zcc) (by simp [jSt,Qf]) (by simp [jSt]) (by omega))
  ·rw [hix] at hsu hfk
   have ha:=(an8 hix).2
   obtain ⟨v,hv⟩:∃ v,vs[a]? = some v:=⟨_,zd (by omega)⟩
   have hvk:=j3 v (zq hv)
   have hvd:vs.getD a 0 = v:=by rw [zK,hv];rfl
   simp only [hvd] at hsu
   have hvc:=KF hv
   have n1:=z0 p k v j1 (by omega) (by omega)
   have hm1:=aet vs a k
   (have zx:=za e1 (za e2 (za hw (za hfk (za hek (za hm1 (za hvc hget)))))));refine zgo ?_;repeat' first|exact zt|apply zan|intro hc
   all_goals exact hL _ (k + 1) (Qf []) (by omega) (by omega) (by rw [hsu];exact Qo [] (by simp only [go_sem,zwl,jSt,zb]<;>exact zcc) (by simp only [go_sem,zwl,jSt,QP,Jj]<;>exact zcc) (by simp [jSt,Qf]) (by simp [jSt]) (by omega))
end Av
end
section
set_option linter.unusedSimpArgs false
set_option linter.unusedVariables false
set_option maxRecDepth 10000
set_option maxHeartbeats 4000000
namespace Av
open Go
end Av
end
section
namespace Av
open Go
structure atH (Γ:Env) (f:FuncId) (v:V) (sx:Nat) (xs vs ys:List V):Prop where
 ev:Ev Γ f [.hd 0 0 xs.length,v,.hd 1 0 vs.length] [.buf true sx xs,.buf true sx vs] (.hd 2 0 ys.length) [.dead,.buf true sx vs,.buf true sx ys]
section
variable {Γ:Env} {b:Nat} {r:List AO} {s:St} {d:Option Nat} {f:FuncId} {args:List V} {okf:Option (List Nat)→Prop} {K:St→Prop} {a a2 n n2 sx:Nat} {xs vs ys:List V} {i:Int}
theorem wE (ha:s.o a = some (.buf true sx xs)) (ha2:s.o a2 = some (.buf true sx vs)) (h:atH Γ f (V.int i) sx xs vs ys) (hd:decide (a≠a2∧a < b∧a2 < b) = true) (hn:n = xs.length) (hn2:n2 = vs.length)
  (hk:UY Γ (b + KK) r { t:=(s.put d (.hd b 0 ys.length)).t,o:=upd (upd (upd s.o b (some (.buf true sx ys))) a2 (some (.buf true sx vs))) a (some .dead),n:=s.n } K):ako Γ b r s d f [.hd a 0 n,V.int i,.hd a2 0 n2] args okf K:=by
 intro _ _
 subst hn;subst hn2
 obtain ⟨e1,e2,e3⟩:=kh hd
 refine Xi ⟨_,_,_,_,[a,a2],some [],h.ev,⟨by simp [conv],by simp [conv],by simp [conv],trivial⟩,⟨⟨_,ha,rfl,rfl⟩,⟨_,ha2,rfl,rfl⟩,trivial⟩,by simpa using e1,?_,by simp,by simp [KK],fun h=>by simp at h,?_⟩
 ·intro y hy
  simp only [zo,zl,or_false] at hy
  rcases hy with rfl|rfl<;>assumption
 ·simp only [YY,Xd,Ob.ren,V.ren,sig,as2]
  exact hk
end
end Av
end
noncomputable section
set_option maxRecDepth 10000
set_option maxHeartbeats 4000000
namespace Av
open Go
attribute [local irreducible] AWp UY qH yr awS awC aaT awQ abS Q1 Ub aaE awR Ux awB okR ym ris
def amH {α:Type} (lt:α→α→Bool) (l:List α) (x:α):Nat→Nat→Nat→Nat
 | 0,i,_=>i
 | n + 1,i,j=>if i < j then (match l[(i + j) / 2]? with
   | some y=>if lt y x = true then amH lt l x n ((i + j) / 2 + 1) j else amH lt l x n i ((i + j) / 2)
   | none=>i) else i
def bsI {α:Type} (lt:α→α→Bool) (l:List α) (x:α):Nat:=amH lt l x l.length 0 l.length
theorem akm {α:Type} {lt:α→α→Bool} {l:List α} {x:α}:∀ (n i j:Nat),i≤j→j≤l.length→amH lt l x n i j≤l.length
 | 0,i,j,h1,h2=>by rw [amH];omega
 | n + 1,i,j,h1,h2=>by
   rw [amH]
   split
   ·split
    ·split
     ·exact akm n _ _ (by omega) h2
     ·exact akm n _ _ (by omega) (by omega)
    ·omega
   ·omega
theorem ai1 {α:Type} {lt:α→α→Bool} {l:List α} {x:α}:bsI lt l x≤l.length:=akm _ _ _ (zA _) (zm _)
theorem agj {a b:Nat} (h:a + b < 2 ^ 36):IntKind.i64.wrap ((IntKind.u64.wrap (IntKind.i64.wrap ((a:Int) + (b:Int)))).fdiv (2 ^ 1)) = (((a + b) / 2:Nat):Int):=by
 have e1:IntKind.i64.wrap ((a:Int) + (b:Int)) = ((a + b:Nat):Int):=by rw [Q9 (by omega) (by omega)];omega
 have e2:IntKind.u64.wrap ((a + b:Nat):Int) = ((a + b:Nat):Int):=by
  unfold IntKind.wrap;simp [IntKind.signed,IntKind.bits];omega
 rw [e1,e2,zS _ (by decide),show (2:Int) ^ 1 = 2 from rfl,Q9 (by omega) (by omega)];omega
def YI:=qd Proofs.Tryz.f153 []
def XO (Γ:Env) (f:Nat):Prop:=∀ (s:List UInt8),EvN Γ f [V.str s] (V.bool false)
theorem xX {Γ:Env} {f:Nat} (h:Has Γ.P f 6 YI.1.1.ac YI.1.2) :XO Γ f:=by
 intro s
 refine Qa h zsi zcl zcl fun C hC hm=>?_
 subst hC
 simp only [YI,qd,DC.ac]
 refine zgo ?_;repeat' first|exact zt|apply zan|intro hc
 all_goals first|exact zr|(refine Qi _ rfl ?_;simp only [go_sem];simp;done)
def X5:=qd Proofs.Tryz.f206 []
def VZ (Γ:Env) (f:Nat):Prop:=∀ (s:List UInt8),EvN Γ f [V.str s] (V.bool false)
theorem aav {Γ:Env} {f:Nat} (h:Has Γ.P f 6 X5.1.1.ac X5.1.2) :VZ Γ f:=by
 intro s
 refine Qa h zsi zcl zcl fun C hC hm=>?_
 subst hC
 simp only [X5,qd,DC.ac]
 refine zgo ?_;repeat' first|exact zt|apply zan|intro hc
 all_goals first|exact zr|(refine Qi _ rfl ?_;simp only [go_sem];simp;done)
def WS:=qd Proofs.Tryz.f152 []
def UT (Γ:Env) (f:Nat):Prop:=∀ (a b:List UInt8),EvN Γ f [V.str a,V.str b] (V.bool (Op.bytesLess a b))
theorem abD {Γ:Env} {f:Nat} (h:Has Γ.P f 17 WS.1.1.ac WS.1.2) (z0:VZ Γ 206):UT Γ f:=by
 intro a b
 refine Qa h zsi zcl zcl fun C hC hm=>?_
 subst hC
 simp only [WS,qd,DC.ac]
 have p1:=(z0 a).b
 exact zg
def V3 {α:Type} [BEq α] (l:List α) (i:Nat) (x:α):Bool:=match l[i]? with|some y=>y == x|none=>false
def Q8:=qd Proofs.Tryz.f109 []
def Jy (Γ:Env) (f:Nat):Prop:=∀ (l:List (List UInt8)) (x:List UInt8) (hl:l.length < 2 ^ 34),EvN Γ f [.sl 1 (l.map V.str),V.str x] (.tup [V.int (bsI Op.bytesLess l x:Nat),V.bool (V3 l (bsI Op.bytesLess l x) x)])
attribute [local go_sem] Yh in
theorem Wr {Γ:Env} {f:Nat} (h:Has Γ.P f 54 Q8.1.1.ac Q8.1.2) (z0:UT Γ 152) (z1:XO Γ 153):Jy Γ f:=by
 intro l x hl
 refine Qa h zsi zcl zcl fun C hC hm=>?_
 subst hC
 simp only [Q8,qd,DC.ac]
 refine zgo ?_;repeat' first|exact zt|apply zan|intro hc
 refine Qs (ι:=Nat×Nat×Nat) (fun q=>q.2.1≤q.2.2∧q.2.2≤l.length∧q.2.2 - q.2.1≤q.1∧amH Op.bytesLess l x q.1 q.2.1 q.2.2 = bsI Op.bytesLess l x) (fun q=>Yh [(0,.sl 1 (l.map V.str)),(1,V.str x),(6,V.int l.length),(7,V.int q.2.1),(8,V.int q.2.2)] [] 0) (fun q=>q.2.2 - q.2.1) (l.length,0,l.length) ⟨zA _,zm _,by simp,rfl⟩ (Qf []) (Qo [] (by simp only [go_sem,zwl,zb]<;>exact zcc) zwa (by simp) (by simp) (by omega)) fun q hq K' hL=>?_
 obtain ⟨n,i,j⟩:=q
 simp only at hq hL ⊢
 obtain ⟨h1,h2,h3,h4⟩:=hq
 have hb:bsI Op.bytesLess l x≤l.length:=ai1
 by_cases hij:i < j
 ·obtain ⟨n,rfl⟩:∃ m,n = m + 1:=⟨n - 1,by omega⟩
  have e1:decide ((i:Int) < (j:Int)) = true:=zv (by omega)
  have hh:=agj (a:=i) (b:=j) (by omega)
  rw [amH,if_pos hij] at h4
  have r1:i≤(i + j) / 2:=by omega
  have r2:(i + j) / 2 < j:=by omega
  generalize (i + j) / 2 = r at *
  obtain ⟨y,hy⟩:∃ y,l[r]? = some y:=⟨_,zd (by omega)⟩
  rw [hy] at h4
  simp only at h4
  have p1:=(z0 y x).b
  have hwr:=Qg (k:=r) (by omega)
  rcases hlt:Op.bytesLess y x with _|_
  ·rw [hlt] at p1 h4
   rw [if_neg (by decide)] at h4
   (have zx:=za e1 (za hh (za hwr hy)));refine zgo ?_;repeat' first|exact zt|apply zan|intro hc
   all_goals exact hL _ (n,i,r) (Qf []) ⟨by simp only;omega,by simp only;omega,by simp only;omega,h4⟩ (by simp only;omega) (zwg [])
  ·rw [hlt] at p1 h4
   rw [if_pos rfl] at h4
   (have zx:=za e1 (za hh (za hwr hy)));refine zgo ?_;repeat' first|exact zt|apply zan|intro hc
   all_goals exact hL _ (n,r + 1,j) (Qf []) ⟨by simp only;omega,by simp only;omega,by simp only;omega,h4⟩ (by simp only;omega) (zwg [])
 ·have e1:decide ((i:Int) < (j:Int)) = false:=zp (by omega)
  have hbi:bsI Op.bytesLess l x = i:=by
   rw [← h4]
   rcases n with _|n
   ·rfl
   ·rw [amH,if_neg hij]
  rw [hbi]
  by_cases hil:i < l.length
  ·have e2:decide ((i:Int) < (l.length:Int)) = true:=zv (by omega)
   obtain ⟨y,hy⟩:∃ y,l[i]? = some y:=⟨_,zd hil⟩
   have hf:V3 l i x = (y == x):=by simp only [V3,hy]
   have p2:=(z1 y).b
   rw [hf]
   rcases hyx:y == x with _|_
   ·(have zx:=za e1 (za e2 (za hyx hy)));exact zg
   ·(have zx:=za e1 (za e2 (za hyx hy)));exact zg
  ·have e2:decide ((i:Int) < (l.length:Int)) = false:=zp (by omega)
   have hf:V3 l i x = false:=by rw [V3,zX (by omega)]
   rw [hf]
   (have zx:=za e1 e2);exact zg
def ltJ (x y:Int):Bool:=decide (x < y)
def acs {α:Type} [BEq α] (lt:α→α→Bool) (l:List α) (x:α):List α :=
 if V3 l (bsI lt l x) x = true then l else l.take (bsI lt l x)++x :: l.drop (bsI lt l x)
def YX (Γ:Env) (f:Nat):Prop:=((∀ (xs:List (List UInt8)) (i:Nat) (x:List UInt8),i≤xs.length→0 < xs.length→xs.length < 2 ^ 30→atH Γ f (V.int i) 1 (xs.map V.str) [V.str x] ((xs.take i++x :: xs.drop i).map V.str))∧(∀ x:List UInt8,EvW Γ f [jR,V.int 0,.sl 1 [V.str x]] 1 [V.str x]))
def Jo:=qd Proofs.Tryz.f78 []
def YU (Γ:Env) (f:Nat):Prop:=((∀ (xs:List (List UInt8)) (x:List UInt8),0 < xs.length→xs.length < 2 ^ 30→V3 xs (bsI Op.bytesLess xs x) x = true→EvX Γ f [V.str x] 1 (xs.map V.str))∧(∀ (xs:List (List UInt8)) (x:List UInt8),0 < xs.length→xs.length < 2 ^ 30→V3 xs (bsI Op.bytesLess xs x) x = false→EvI Γ f [V.str x] 1 (xs.map V.str) ((acs Op.bytesLess xs x).map V.str))∧(∀ x:List UInt8,EvW Γ f [jR,V.str x] 1 [V.str x]))
theorem jY {Γ:Env} {f:Nat} (h:Has Γ.P f 20 Jo.1.1.ac Jo.1.2) (z0:Jy Γ 109) (z1:YX Γ 110):YU Γ f:=by
 obtain ⟨hI,hW⟩:=z1
 refine ⟨fun xs x h0 hl hf=>?_,fun xs x h0 hl hf=>?_,fun x=>?_⟩
 ·refine ae4 h (by simp) fun C hC hm=>?_
  subst hC
  simp only [Jo,qd,DC.ac]
  have hb:=(z0 xs x (by omega)).b
  rw [hf] at hb
  have ht:List.take (xs.map V.str).length (xs.map V.str) = xs.map V.str:=zN
  (have zx:=ht);refine zgo ?_;repeat' first|exact zt|apply zan|intro hc
  all_goals first|(refine aqM _ rfl rfl rfl ?_;first|rfl|(simp;done))
 ·refine yZ h (by simp) fun C hC hm=>?_
  subst hC
  simp only [Jo,qd,DC.ac]
  have hb:=(z0 xs x (by omega)).b
  have hi:=hI xs (bsI Op.bytesLess xs x) x ai1 h0 hl
  rw [acs,if_neg (by rw [hf];decide)]
  rw [hf] at hb
  have ht:List.take (xs.map V.str).length (xs.map V.str) = xs.map V.str:=zN
  generalize bsI Op.bytesLess xs x = i at *
  repeat' (first|(refine zsk ?_;intro K' hK)|refine zsp ?_|(refine zsc ?_ ?_<;>intro hc<;>first|exact znh|try simp only [znz] at hc)|simp (maxSteps:=1000000) only [go_sem,ht]|(refine hK _ ?_;clear hK K')|apply zan|(apply ado;(focus exact rfl);(focus first|exact hi);(focus exact rfl);(focus exact rfl);(focus (first|exact rfl|(simp;done))))|(apply wE;(focus exact rfl);(focus exact rfl);(focus first|exact hi);(focus exact rfl);(focus (first|exact rfl|(simp;done)));(focus (first|exact rfl|(simp;done))))|(apply QJ;(focus first|exact hb|exact (z0 _ _ zsd).b))|exact zsq|fail)
  all_goals first|(refine aiK _ _ rfl ⟨_,rfl⟩ rfl (by omega) rfl ?_;first|rfl|(simp;done))
 ·refine qO h (by simp) (by intro y hy;rw [zu.1 hy];simp only [V.noSl]) fun C hC hm=>?_
  subst hC
  simp only [Jo,qd,DC.ac]
  have hb:=(z0 [] x (by simp)).b
  have hw:=hW x
  simp only [zw] at hb
  have hb:=hb.le2 (LeV.nil 1) (LeV.refl _)
  refine zgo ?_;repeat' first|exact zt|apply zan|intro hc
  all_goals first|(refine abL (xs:=[V.str x]) _ _ rfl ?_ ?_<;>first|rfl|(simp;done))
section
variable {α:Type}
def gK (lt:α→α→Bool) (out:List α) (x:α):Nat→Nat
 | 0=>0
 | k + 1=>if (match out[k]? with|some y=>lt x y|none=>false) = true then gK lt out x k else k + 1
theorem arF (lt:α→α→Bool) (out:List α) (x:α):∀ k,gK lt out x k≤k
 | 0=>zm _
 | k + 1=>by
   rw [gK]
   by_cases h:(match out[k]? with|some y=>lt x y|none=>false) = true
   ·rw [if_pos h];exact ZE (arF lt out x k)
   ·rw [if_neg h];exact zm _
def amT (lt:α→α→Bool) (out:List α) (x:α):List α:=out.take (gK lt out x out.length)++[x]++out.drop (gK lt out x out.length)
def jj (lt:α→α→Bool) (l:List α):List α:=l.foldl (amT lt) []
theorem apX (lt:α→α→Bool) (out:List α) (x:α):(amT lt out x).length = out.length + 1:=by
 have:=arF lt out x out.length
 simp [amT];omega
theorem aio (lt:α→α→Bool):∀ (l out:List α),(l.foldl (amT lt) out).length = out.length + l.length
 | [],out=>by simp
 | x :: r,out=>by rw [List.foldl_cons,aio lt r,apX];simp;omega
theorem qK (lt:α→α→Bool) (l:List α):(jj lt l).length = l.length:=by rw [jj,aio];simp
theorem aip (lt:α→α→Bool) (x:α):jj lt [x] = [x]:=by simp [jj,amT,gK]
theorem aoc {lt:α→α→Bool} {out:List α} {x:α}:(amT lt out x).Perm (x :: out):=by
 have h:(out.take (gK lt out x out.length)++out.drop (gK lt out x out.length)).Perm out:=by rw [Zy]
 rw [amT,ko,List.singleton_append]
 exact List.perm_middle.trans (h.cons x)
theorem agk {lt:α→α→Bool}:∀ (l out:List α),(l.foldl (amT lt) out).Perm (l++out)
 | [],out=>by simp
 | x :: r,out=>by
   rw [List.foldl_cons,List.cons_append]
   exact ((agk r (amT lt out x)).trans (List.Perm.append_left r aoc)).trans List.perm_middle
theorem Wp {lt:α→α→Bool} {l:List α}:(jj lt l).Perm l:=by have:=agk (lt:=lt) l [];rwa [zW] at this
def Ord (lt:α→α→Bool) (l:List α):Prop:=l.Pairwise fun x y=>lt y x = false
theorem aob {lt:α→α→Bool} {out:List α} {x:α}:∀ k,k≤out.length→(∀ j,gK lt out x k≤j→j < k→∀ y,out[j]? = some y→lt x y = true)∧(0 < gK lt out x k→∀ y,out[gK lt out x k - 1]? = some y→lt x y = false)
 | 0,_=>⟨fun j h1 h2=>by omega,fun h=>by simp [gK] at h⟩
 | k + 1,hk=>by
   obtain ⟨i1,i2⟩:=aob (lt:=lt) (out:=out) (x:=x) k (by omega)
   have hy:out[k]? = some out[k]:=zd (by omega)
   simp only [gK,hy]
   split
   ·rename_i h
    refine ⟨fun j h1 h2 y e=>?_,i2⟩
    by_cases hj:j = k
    ·subst hj;rw [hy] at e;cases e;exact h
    ·exact i1 j h1 (by omega) y e
   ·rename_i h
    refine ⟨fun j h1 h2=>by omega,fun _ y e=>?_⟩
    rw [Nat.add_sub_cancel,hy] at e;cases e
    simpa using h
theorem apW {lt:α→α→Bool} (htr:∀ x y z,lt y x = false→lt z y = false→lt z x = false) (has:∀ x y,lt x y = true→lt y x = false) {out:List α} {x:α} (h:Ord lt out):Ord lt (amT lt out x):=by
 obtain ⟨h1,h2⟩:=aob (lt:=lt) (out:=out) (x:=x) out.length (zm _)
 have hle:=arF lt out x out.length
 unfold Ord amT at *
 generalize gK lt out x out.length = k at *
 have hto:(out.take k).Pairwise fun x y=>lt y x = false:=h.sublist (List.take_sublist _ _)
 have hdr:(out.drop k).Pairwise fun x y=>lt y x = false:=h.sublist (List.drop_sublist _ _)
 have hcr:∀ a∈out.take k,∀ b∈out.drop k,lt b a = false:=by
  have:=h
  rw [← Zy k out,kP] at this
  exact this.2.2
 have hx1:∀ a∈out.take k,lt x a = false:=by
  intro a ha
  rcases ZM k with hk|hk
  ·subst hk;simp at ha
  ·have hlast:out[k - 1]? = some out[k - 1]:=zd (by omega)
   have hxl:=h2 hk _ hlast
   obtain ⟨i,hi,rfl⟩:=Za ha
   simp only [zV] at hi
   rw [List.getElem_take]
   by_cases e:i = k - 1
   ·subst e;exact hxl
   ·have:=(ke.1 h) i (k - 1) (by omega) (by omega) (by omega)
    exact htr _ _ _ this hxl
 have hx2:∀ b∈out.drop k,lt b x = false:=by
  intro b hb
  obtain ⟨i,hi,rfl⟩:=Za hb
  rw [List.getElem_drop]
  simp only [kV] at hi
  exact has _ _ (h1 (k + i) (by omega) (by omega) _ (zd (by omega)))
 rw [ko,List.singleton_append,kP]
 refine ⟨hto,Zt.2 ⟨hx2,hdr⟩,fun a ha b hb=>?_⟩
 rcases zo.1 hb with rfl|hb
 ·exact hx1 a ha
 ·exact hcr a ha b hb
theorem ain {lt:α→α→Bool} (htr:∀ x y z,lt y x = false→lt z y = false→lt z x = false) (has:∀ x y,lt x y = true→lt y x = false):∀ (l out:List α),Ord lt out→Ord lt (l.foldl (amT lt) out)
 | [],_,h=>h
 | x :: r,out,h=>ain htr has r _ (apW htr has h)
theorem abe {lt:α→α→Bool} (htr:∀ x y z,lt y x = false→lt z y = false→lt z x = false) (has:∀ x y,lt x y = true→lt y x = false) (l:List α):Ord lt (jj lt l):=ain htr has l [] List.Pairwise.nil
end
abbrev V.u64 (n:Int):V:=.sc (.int .u64 n)
def XT:=qd Proofs.Tryz.f156 []
def VN (Γ:Env) (f:Nat):Prop:=∀ (n:Int),EvN Γ f [V.int n] (V.bool false)
theorem aaj {Γ:Env} {f:Nat} (h:Has Γ.P f 6 XT.1.1.ac XT.1.2) :VN Γ f:=by
 intro n
 refine Qa h zsi zcl zcl fun C hC hm=>?_
 subst hC
 simp only [XT,qd,DC.ac]
 have e:(n != n) = false:=by simp
 (have zx:=e);exact zg
def Kw:=qd Proofs.Tryz.f144 []
def je (Γ:Env) (f:Nat):Prop:=∀ (a b:Int),EvN Γ f [V.int a,V.int b] (V.bool (decide (a < b)))
theorem ae1 {Γ:Env} {f:Nat} (h:Has Γ.P f 17 Kw.1.1.ac Kw.1.2) (z0:VF Γ 123):je Γ f:=by
 intro a b
 refine Qa h zsi zcl zcl fun C hC hm=>?_
 subst hC
 simp only [Kw,qd,DC.ac]
 have n1:=(z0 _ rfl a).b
 have n2:=(z0 _ rfl b).b
 repeat' (first|(refine zsk ?_;intro K' hK)|refine zsp ?_|(refine zsc ?_ ?_<;>intro hc<;>first|exact znh|try simp only [znz] at hc)|simp (maxSteps:=1000000) only [go_sem]|(refine hK _ ?_;clear hK K')|apply zan|(apply QJ;(focus first|exact n1|exact n2))|exact zsq|fail)
 all_goals exact zr
def Jw:=qd Proofs.Tryz.f111 []
def JV (Γ:Env) (f:Nat):Prop:=∀ (l:List Int) (x:Int) (hl:l.length < 2 ^ 34),EvN Γ f [.sl 1 (l.map V.int),V.int x] (.tup [V.int (bsI ltJ l x:Nat),V.bool (V3 l (bsI ltJ l x) x)])
attribute [local go_sem] Yh in
theorem U0 {Γ:Env} {f:Nat} (h:Has Γ.P f 54 Jw.1.1.ac Jw.1.2) (z0:je Γ 144) (z1:VN Γ 156):JV Γ f:=by
 intro l x hl
 refine Qa h zsi zcl zcl fun C hC hm=>?_
 subst hC
 simp only [Jw,qd,DC.ac]
 refine zgo ?_;repeat' first|exact zt|apply zan|intro hc
 refine Qs (ι:=Nat×Nat×Nat) (fun q=>q.2.1≤q.2.2∧q.2.2≤l.length∧q.2.2 - q.2.1≤q.1∧amH ltJ l x q.1 q.2.1 q.2.2 = bsI ltJ l x) (fun q=>Yh [(0,.sl 1 (l.map V.int)),(1,V.int x),(6,V.int l.length),(7,V.int q.2.1),(8,V.int q.2.2)] [] 0) (fun q=>q.2.2 - q.2.1) (l.length,0,l.length) ⟨zA _,zm _,by simp,rfl⟩ (Qf []) (Qo [] (by simp only [go_sem,zwl,zb]<;>exact zcc) zwa (by simp) (by simp) (by omega)) fun q hq K' hL=>?_
 obtain ⟨n,i,j⟩:=q
 simp only at hq hL ⊢
 obtain ⟨h1,h2,h3,h4⟩:=hq
 have hb:bsI ltJ l x≤l.length:=ai1
 by_cases hij:i < j
 ·obtain ⟨n,rfl⟩:∃ m,n = m + 1:=⟨n - 1,by omega⟩
  have e1:decide ((i:Int) < (j:Int)) = true:=zv (by omega)
  have hh:=agj (a:=i) (b:=j) (by omega)
  rw [amH,if_pos hij] at h4
  have r1:i≤(i + j) / 2:=by omega
  have r2:(i + j) / 2 < j:=by omega
  generalize (i + j) / 2 = r at *
  obtain ⟨y,hy⟩:∃ y,l[r]? = some y:=⟨_,zd (by omega)⟩
  rw [hy] at h4
  simp only at h4
  have p1:EvB C.env 144 [V.int y,V.int x] (V.bool (ltJ y x)) none:=(z0 y x).b
  have hwr:=Qg (k:=r) (by omega)
  rcases hlt:ltJ y x with _|_
  ·rw [hlt] at p1 h4
   rw [if_neg (by decide)] at h4
   (have zx:=za e1 (za hh (za hwr hy)));refine zgo ?_;repeat' first|exact zt|apply zan|intro hc
   all_goals exact hL _ (n,i,r) (Qf []) ⟨by simp only;omega,by simp only;omega,by simp only;omega,h4⟩ (by simp only;omega) (zwg [])
  ·rw [hlt] at p1 h4
   rw [if_pos rfl] at h4
   (have zx:=za e1 (za hh (za hwr hy)));refine zgo ?_;repeat' first|exact zt|apply zan|intro hc
   all_goals exact hL _ (n,r + 1,j) (Qf []) ⟨by simp only;omega,by simp only;omega,by simp only;omega,h4⟩ (by simp only;omega) (zwg [])
 ·have e1:decide ((i:Int) < (j:Int)) = false:=zp (by omega)
  have hbi:bsI ltJ l x = i:=by
   rw [← h4]
   rcases n with _|n
   ·rfl
   ·rw [amH,if_neg hij]
  rw [hbi]
  by_cases hil:i < l.length
  ·have e2:decide ((i:Int) < (l.length:Int)) = true:=zv (by omega)
   obtain ⟨y,hy⟩:∃ y,l[i]? = some y:=⟨_,zd hil⟩
   have hf:V3 l i x = (y == x):=by simp only [V3,hy]
   have p2:=(z1 y).b
   rw [hf]
   rcases hyx:y == x with _|_
   ·(have zx:=za e1 (za e2 (za hyx hy)));exact zg
   ·(have zx:=za e1 (za e2 (za hyx hy)));exact zg
  ·have e2:decide ((i:Int) < (l.length:Int)) = false:=zp (by omega)
   have hf:V3 l i x = false:=by rw [V3,zX (by omega)]
   rw [hf]
   (have zx:=za e1 e2);exact zg
def W8 (Γ:Env) (f:Nat):Prop:=((∀ (xs:List Int) (i:Nat) (x:Int),i≤xs.length→0 < xs.length→xs.length < 2 ^ 30→atH Γ f (V.int i) 1 (xs.map V.int) [V.int x] ((xs.take i++x :: xs.drop i).map V.int))∧(∀ x:Int,EvW Γ f [jR,V.int 0,.sl 1 [V.int x]] 1 [V.int x]))
def JJ:=qd Proofs.Tryz.f79 []
def XP (Γ:Env) (f:Nat):Prop:=((∀ (xs:List Int) (x:Int),0 < xs.length→xs.length < 2 ^ 30→V3 xs (bsI ltJ xs x) x = true→EvX Γ f [V.int x] 1 (xs.map V.int))∧(∀ (xs:List Int) (x:Int),0 < xs.length→xs.length < 2 ^ 30→V3 xs (bsI ltJ xs x) x = false→EvI Γ f [V.int x] 1 (xs.map V.int) ((acs ltJ xs x).map V.int))∧(∀ x:Int,EvW Γ f [jR,V.int x] 1 [V.int x]))
theorem xY {Γ:Env} {f:Nat} (h:Has Γ.P f 20 JJ.1.1.ac JJ.1.2) (z0:JV Γ 111) (z1:W8 Γ 112):XP Γ f:=by
 obtain ⟨hI,hW⟩:=z1
 refine ⟨fun xs x h0 hl hf=>?_,fun xs x h0 hl hf=>?_,fun x=>?_⟩
 ·refine ae4 h (by simp) fun C hC hm=>?_
  subst hC
  simp only [JJ,qd,DC.ac]
  have hb:=(z0 xs x (by omega)).b
  rw [hf] at hb
  have ht:List.take (xs.map V.int).length (xs.map V.int) = xs.map V.int:=zN
  (have zx:=ht);refine zgo ?_;repeat' first|exact zt|apply zan|intro hc
  all_goals first|(refine aqM _ rfl rfl rfl ?_;first|rfl|(simp;done))
 ·refine yZ h (by simp) fun C hC hm=>?_
  subst hC
  simp only [JJ,qd,DC.ac]
  have hb:=(z0 xs x (by omega)).b
  have hi:=hI xs (bsI ltJ xs x) x ai1 h0 hl
  rw [acs,if_neg (by rw [hf];decide)]
  rw [hf] at hb
  have ht:List.take (xs.map V.int).length (xs.map V.int) = xs.map V.int:=zN
  generalize bsI ltJ xs x = i at *
  repeat' (first|(refine zsk ?_;intro K' hK)|refine zsp ?_|(refine zsc ?_ ?_<;>intro hc<;>first|exact znh|try simp only [znz] at hc)|simp (maxSteps:=1000000) only [go_sem,ht]|(refine hK _ ?_;clear hK K')|apply zan|(apply ado;(focus exact rfl);(focus first|exact hi);(focus exact rfl);(focus exact rfl);(focus (first|exact rfl|(simp;done))))|(apply wE;(focus exact rfl);(focus exact rfl);(focus first|exact hi);(focus exact rfl);(focus (first|exact rfl|(simp;done)));(focus (first|exact rfl|(simp;done))))|(apply QJ;(focus first|exact hb|exact (z0 _ _ zsd).b))|exact zsq|fail)
  all_goals first|(refine aiK _ _ rfl ⟨_,rfl⟩ rfl (by omega) rfl ?_;first|rfl|(simp;done))
 ·refine qO h (by simp) (by intro y hy;rw [zu.1 hy];simp only [V.noSl]) fun C hC hm=>?_
  subst hC
  simp only [JJ,qd,DC.ac]
  have hb:=(z0 [] x (by simp)).b
  have hw:=hW x
  simp only [zw] at hb
  have hb:=hb.le2 (LeV.nil 1) (LeV.refl _)
  refine zgo ?_;repeat' first|exact zt|apply zan|intro hc
  all_goals first|(refine abL (xs:=[V.int x]) _ _ rfl ?_ ?_<;>first|rfl|(simp;done))
def Ww:=qd Proofs.Tryz.f91 []
def UA (Γ:Env) (f:Nat):Prop:=∀ (a b:Int),EvN Γ f [.agg [V.int a,V.int b]] (V.bool (ajj a b 2))
theorem abi {Γ:Env} {f:Nat} (h:Has Γ.P f 11 Ww.1.1.ac Ww.1.2) (z0:KB Γ 92) (z1:qt Γ 93):UA Γ f:=by
 intro a b
 refine Qa h zsi zcl zcl fun C hC hm=>?_
 subst hC
 simp only [Ww,qd,DC.ac]
 unfold ajj
 rcases hq:decide (Qv a b > 0) with _|_
 ·(have zx:=hq);refine zgo ?_;repeat' first|exact zt|apply zan|intro hc
  all_goals first|exact zr|(refine Qi _ rfl ?_;simp only [go_sem];simp [*];done)
 ·(have zx:=hq);refine zgo ?_;repeat' first|exact zt|apply zan|intro hc
  all_goals first|exact zr|(refine Qi _ rfl ?_;simp only [go_sem];simp [*];done)
def qf:=qd Proofs.Tryz.f54 [zhn 25]
def KA (Γ:Env) (f:Nat):Prop:=∀ (c:Jl) (h1:c.issuer.length < 2 ^ 60) (h2:c.subject.length < 2 ^ 60) (h3:c.names.length < 2 ^ 60) (h4:∀ x∈c.names,x.length < 2 ^ 60),EvN Γ f [c.v] (V.int (if U8 c = true then 0 else 9))
theorem afA {Γ:Env} {f:Nat} (h:Has Γ.P f 146 qf.1.1.ac qf.1.2) (z0:xE Γ 90) (z1:UA Γ 91) (z2:KB Γ 92) (z3:qt Γ 93):KA Γ f:=by
 intro c h1 h2 h3 h4
 refine Qa h zsi zcl zcl fun C hC hm=>?_
 subst hC
 simp only [qf,qd,DC.ac]
 have ha:=(z0 c.issuer h1).b
 have hb:=(z0 c.subject h2).b
 have nlen:c.names.length > 8→xQ c.names = false:=fun h=>by simp [xQ];intro _;omega
 have no1:aht c = true→(if U8 c = true then (0:Int) else 9) = 9:=fun h=>by simp [U8,h]
 have no2:aiX c = true→(if U8 c = true then (0:Int) else 9) = 9:=fun h=>by simp [U8,h]
 have no3:amB c = true→(if U8 c = true then (0:Int) else 9) = 9:=fun h=>by simp [U8,h]
 have no4:aiW c = false→(if U8 c = true then (0:Int) else 9) = 9:=fun h=>by simp [U8,h]
 have hlm:(c.names.map V.str).length = c.names.length:=zb _
 simp only [Jl.v,Jl.cells]
 (have zx:=hlm);refine zgo ?_;repeat' first|exact zt|apply zan|intro hc
 all_goals (try simp only [bne_eq_false_iff_eq,bne_iff_ne,ne_eq] at *)
 all_goals first|(rw [no1]<;>first|(have q:=nlen (by omega);simp [aht,q];done)|exact zr)|(rw [no1]<;>first|(simp [aht,xQ, *];done)|exact zr)|(rw [no2]<;>first|(simp [aiX,ahF,asl, *];done)|exact zr)|(rw [no2]<;>first|(simp [aiX,ajj, *];done)|exact zr)|(rw [no3]<;>first|(simp [amB, *];done)|exact zr)|(rw [no4]<;>first|(simp [aiW, *];done)|(simp [aiW];intros;omega)|exact zr)|skip
 all_goals
  have hu:ajj c.halg c.hbits 1 = true:=by simp [ajj, *]
  refine Jg (ι:=Nat) (fun k=>k≤c.names.length∧okP Qw Op.bytesLess c.names k = true) (fun k=>[(3,V.int k)]) (fun k=>c.names.length - k) 0 (by omega) ⟨zA _,rfl⟩ zol zlt zet fun k hk K' hL=>?_
  obtain ⟨hk,hinv⟩:=hk
  simp only [ovT,Yr,Nat.reduceEqDiff,reduceIte]
  rcases hd:c.names.drop k with _|⟨x,r⟩
  ·have hkl:=Qr hd
   have e1:decide ((k:Int) < ((c.names.length:Nat):Int)) = false:=by simp;omega
   have hkk:k = c.names.length:=by omega
   subst hkk
   have hN:okP Qw Op.bytesLess c.names c.names.length = true:=hinv
   (have zx:=za e1 hlm);refine zgo ?_;repeat' first|exact zt|apply zan|intro hc
   all_goals (try simp only [bne_eq_false_iff_eq,bne_iff_ne,ne_eq] at *)
   all_goals first|(rw [no1]<;>first|(have q:=nlen (by omega);simp [aht,q];done)|exact zr)|(rw [no1]<;>first|(simp [aht,xQ, *];done)|exact zr)|(rw [no2]<;>first|(simp [aiX,ahF,asl, *];done)|exact zr)|(rw [no2]<;>first|(simp [aiX,ajj, *];done)|exact zr)|(rw [no3]<;>first|(simp [amB, *];done)|exact zr)|(rw [no4]<;>first|(simp [aiW, *];done)|(simp [aiW];intros;omega)|exact zr)|(refine Qi _ rfl ?_;simp only [go_sem];simp [U8,aht,aiX,amB,aiW,ahF,asl,xQ, *];done)
  ·obtain ⟨hk',hget,hr⟩:=Qk hd
   have hw:=Qg (k:=k) (by omega)
   have e1:decide ((k:Int) < ((c.names.length:Nat):Int)) = true:=by simp;omega
   have hnx:=(z0 x (h4 x (zq hget))).b
   have hbad:okP Qw Op.bytesLess c.names (k + 1) = false→(if U8 c = true then (0:Int) else 9) = 9:=fun h=>by
    have:xQ c.names = false:=by rw [xQ,agO h (by omega),zY]
    simp [U8,aht,this]
   rcases hx:Qw x with _|_
   ·have hb:okP Qw Op.bytesLess c.names (k + 1) = false:=by rw [vi,hget];simp [hx]
    rw [hbad hb]
    rw [hx] at hnx
    (have zx:=za e1 (za hw (za hlm hget)));exact zg
   ·rw [hx] at hnx
    rcases k with _|k
    ·have hw0:IntKind.i64.wrap 1 = ((1:Nat):Int):=by decide
     have hg1:okP Qw Op.bytesLess c.names (0 + 1) = true:=by rw [agN hget,hx]
     have e2:decide (((0:Nat):Int) > 0) = false:=rfl
     (have zx:=za e1 (za e2 (za hw (za hw0 (za hlm hget)))));refine zgo ?_;repeat' first|exact zt|apply zan|intro hc
     all_goals exact hL _ 1 zet ⟨by omega,hg1⟩ (by omega) zoe
    ·have e2:decide (((k + 1:Nat):Int) > 0) = true:=zv (by omega)
     have hw2:IntKind.i64.wrap (((k + 1:Nat):Int) - 1) = (k:Int):=by rw [Q9 (by omega) (by omega)];omega
     obtain ⟨y,hgy⟩:∃ y,c.names[k]? = some y:=⟨_,zd (by omega)⟩
     have hnext:=ad2 (p:=Qw) (q:=Op.bytesLess) hget hgy
     rw [hinv,hx] at hnext
     rcases hb:Op.bytesLess y x with _|_
     ·rw [hbad (by rw [hnext,hb];rfl)]
      (have zx:=za e1 (za e2 (za hw (za hw2 (za hlm (za hget (za hgy hb)))))));exact zg
     ·(have zx:=za e1 (za e2 (za hw (za hw2 (za hlm (za hget (za hgy hb)))))));refine zgo ?_;repeat' first|exact zt|apply zan|intro hc
      all_goals exact hL _ (k + 2) zet ⟨by omega,by rw [hnext,hb];rfl⟩ (by omega) zoe
end Av
end
