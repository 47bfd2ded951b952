/- K32 -/
import Derived.Test.YtlpaikjhphkioaaGreatK31
import Derived.Test.YtlpaikjhphkioaaGreatK25
import Derived.Test.YtlpaikjhphkioaaGreatK12
import Derived.Test.YtlpaikjhphkioaaGreatK26
set_option linter.unusedVariables false
set_option linter.unusedSimpArgs false
noncomputable section
set_option maxRecDepth 10000
set_option maxHeartbeats 4000000
namespace Av
open Go
attribute [local irreducible] AWp Uv qW xf awS awC abB awQ acd QZ UL aa2 awR Kc awB okR yu ris
def aiI (f:Qa):Qa :=
 if f.kind = 1∨f.kind = 8 then ⟨0,[],0,0,0,1,f.subj,f.alg,f.bits,0,[]⟩
 else if f.kind = 2∨f.kind = 6 then ⟨0,[],0,0,0,f.kind,f.subj,0,0,f.num,[]⟩
 else if f.kind = 7 then ⟨0,[],0,0,0,f.kind,f.subj,0,0,0,f.text⟩
 else ⟨0,[],0,0,0,f.kind,f.subj,0,0,0,[]⟩
def ajI (a b:Nat) (f g:Qa):Bool:=if f.day≠g.day then decide (f.day > g.day) else if f.conf≠g.conf then decide (f.conf > g.conf) else decide (a < b)
def KS:=qd Proofs.Tryz.f50 [⟨fun _=>false,[1],.one 0 (.one 2 (.or 1 (.one 3 (.one 4 (.one 5 (.done)))) (.or 3 (.one 1 (.one 4 (.one 5 (.done)))) (.done))))⟩]
def jQ (Γ:Env) (f:Nat):Prop:=∀ (f0:Qa),EvN Γ f [f0.v] ((aiI f0).v)
theorem aeU {Γ:Env} {f:Nat} (h:Has Γ.P f 30 KS.1.1.ac KS.1.2) :jQ Γ f:=by
 intro f0
 refine Qb h zsi (by unfold aiI;(repeat' split)<;>simp only [Qa.v,Qa.cells,V.closed,Qd,V.noSl,WP,and_self]) (by unfold aiI;(repeat' split)<;>simp only [Qa.v,Qa.cells,V.closed,Qd,V.noSl,WP,and_self]) fun C hC hm=>?_
 subst hC
 simp only [KS,qd,DC.ac]
 obtain ⟨src,host,mach,day,conf,kind,subj,alg,bits,num,text⟩:=f0
 simp only [Qa.v,Qa.cells,aiI]
 have E:∀ n:Int,kind≠n→(kind == n) = false:=fun n h=>by simpa using h
 by_cases k1:kind = 1
 ·subst k1
  rw [if_pos (.inl rfl)]
  exact zg
 by_cases k8:kind = 8
 ·subst k8
  rw [if_pos (.inr rfl)]
  exact zg
 rw [if_neg (by simp [k1,k8])]
 by_cases k2:kind = 2
 ·subst k2
  rw [if_pos (.inl rfl)]
  exact zg
 by_cases k6:kind = 6
 ·subst k6
  rw [if_pos (.inr rfl)]
  exact zg
 rw [if_neg (by simp [k2,k6])]
 have e1:=E 1 k1
 have e8:=E 8 k8
 have e2:=E 2 k2
 have e6:=E 6 k6
 by_cases k7:kind = 7
 ·subst k7
  rw [if_pos rfl]
  exact zg
 rw [if_neg k7]
 have e7:=E 7 k7
 (have zx:=za e1 (za e8 (za e2 (za e6 e7))));exact zg
def UX:=qd Proofs.Tryz.f51 [zhn 12,zhn 11,zhn 12,zhn 11]
def qI (Γ:Env) (f:Nat):Prop:=∀ (l:List Qa) (a b:Nat) (f0 g0:Qa) (ha:l[a]? = some f0) (hb:l[b]? = some g0),EvN Γ f [.sl 11 (l.map Qa.v),V.int a,V.int b] (V.bool (ajI a b f0 g0))
theorem adV {Γ:Env} {f:Nat} (h:Has Γ.P f 54 UX.1.1.ac UX.1.2) :qI Γ f:=by
 intro l a b f0 g0 ha hb
 refine Qb h zsi zcl zcl fun C hC hm=>?_
 subst hC
 simp only [UX,qd,DC.ac]
 have va:(l.map Qa.v)[a]? = some f0.v:=by rw [zf,ha];rfl
 have vb:(l.map Qa.v)[b]? = some g0.v:=by rw [zf,hb];rfl
 simp only [Qa.v,Qa.cells] at va vb
 rw [ajI]
 rcases c1:(f0.day != g0.day) with _|_
 rotate_left
 ·rw [if_pos (by simpa using c1)]
  (have zx:=za va (za vb c1));exact zg
 rw [if_neg (by simpa using c1)]
 rcases c2:(f0.conf != g0.conf) with _|_
 rotate_left
 ·rw [if_pos (by simpa using c2)]
  (have zx:=za va (za vb (za c1 c2)));exact zg
 rw [if_neg (by simpa using c2)]
 have hab:decide ((a:Int) < (b:Int)) = decide (a < b):=by simp
 (have zx:=za va (za vb (za c1 (za c2 hab))));exact zg
def KR:=qd Proofs.Tryz.f49 []
def jP (Γ:Env) (f:Nat):Prop:=∀ (l:List Qa) (e:QT) (he:∀ i∈e.finds,i < l.length) (hl:l.length < 2 ^ 40) (hf:e.finds.length < 2 ^ 40),EvN Γ f [.sl 11 (l.map Qa.v),e.v] (V.int 0)
attribute [local go_sem] Ju in
theorem aeT {Γ:Env} {f:Nat} (h:Has Γ.P f 29 KR.1.1.ac KR.1.2) :jP Γ f:=by
 intro l e he hl hf
 refine Qb h zsi zcl zcl fun C hC hm=>?_
 subst hC
 simp only [KR,qd,DC.ac]
 have hal:(l.map Qa.v).length = l.length:=zb _
 have hpl:=Jh e.finds
 simp only [QT.v]
 (have zx:=hpl);refine zgo ?_;repeat' first|exact zt|apply zan|intro hc
 refine Qo (ι:=Nat) (fun k=>k≤e.finds.length) (fun k=>Ju [(0,.sl 11 (l.map Qa.v)),(3,.ptr 0 0),(5,V.int k)] [(0,.box true [V.int e.num,.sl 1 (e.hosts.map V.str),.sl 1 (e.machs.map V.int),.sl 1 (Qt e.finds)])] 1) (fun k=>e.finds.length - k) 0 (zH _) (Qe [(0,0)]) (zwg [(0,0)]) fun k hk K' hL=>?_
 rcases hd:e.finds.drop k with _|⟨x,r⟩
 ·have hkl:=Qs hd
  have e1:decide ((k:Int) < (e.finds.length:Int)) = false:=by simp;omega
  (have zx:=za e1 hpl);exact zg
 ·obtain ⟨hk',hget,hr⟩:=Ql hd
  have hw:=Qf (k:=k) (by omega)
  have e1:decide ((k:Int) < (e.finds.length:Int)) = true:=by simp;omega
  have vx:=YE hget
  have hx:=he x (zu hget)
  have e2:decide ((x:Int) < 0) = false:=by simp
  have e3:decide ((x:Int)≥(l.length:Int)) = false:=by simp;omega
  (have zx:=za e1 (za e2 (za e3 (za hal (za hpl (za hw vx))))));refine zgo ?_;repeat' first|exact zt|apply zan|intro hc
  all_goals exact hL _ (k + 1) (Qe []) (by omega) (by omega) (zwg [])
def KQ:=qd Proofs.Tryz.f52 [zhn 9]
def jO (Γ:Env) (f:Nat):Prop:=∀ (fs:List Nat) (i:Nat) (hi:i < fs.length) (hn:fs.Nodup) (hl:fs.length < 2 ^ 40),EvN Γ f [.sl 1 (Qt fs),V.int i] (V.bool false)
theorem aeS {Γ:Env} {f:Nat} (h:Has Γ.P f 20 KQ.1.1.ac KQ.1.2) :jO Γ f:=by
 intro fs i hi hn hl
 refine Qb h zsi zcl zcl fun C hC hm=>?_
 subst hC
 simp only [KQ,qd,DC.ac]
 have hpl:=Jh fs
 obtain ⟨y,hy⟩:∃ y,fs[i]? = some y:=⟨_,zd hi⟩
 have vy:=YE hy
 (have zx:=hpl);refine zgo ?_;repeat' first|exact zt|apply zan|intro hc
 refine Qx (ι:=Nat) (fun k=>k≤i) (fun k=>[(5,V.int k)]) (fun k=>i - k) 0 (by omega) (zH _) zol zlt zet fun k hk K' hL=>?_
 simp only [ovT,JQ,Nat.reduceEqDiff,reduceIte]
 by_cases hlt:k < i
 rotate_left
 ·have e1:decide ((k:Int) < (i:Int)) = false:=by simp;omega
  (have zx:=e1);exact zg
 have e1:decide ((k:Int) < (i:Int)) = true:=by simp;omega
 have hw:=Qf (k:=k) (by omega)
 obtain ⟨x,hx⟩:∃ x,fs[k]? = some x:=⟨_,zd (by omega)⟩
 have vx:=YE hx
 have hne:x≠y:=fun e=>by
  obtain ⟨h1,rfl⟩:=zn.1 hx
  obtain ⟨h2,rfl⟩:=zn.1 hy
  exact kr.1 hn k i h1 h2 hlt e
 have e2:((x:Int) == (y:Int)) = false:=by simp;omega
 (have zx:=za e1 (za e2 (za hpl (za hw (za vx vy)))));refine zgo ?_;repeat' first|exact zt|apply zan|intro hc
 all_goals exact hL _ (k + 1) zet (by omega) (by omega) zoe
theorem aqI (a b:List UInt8):yp a b < 0↔Op.bytesLess a b = true:=by
 unfold yp
 rcases h1:Op.bytesLess a b with _|_
 ·rcases h2:Op.bytesLess b a with _|_<;>simp
 ·simp
theorem arX (a b:List UInt8):yp a b = 0↔a = b:=⟨afX,fun h=>by rw [h];exact aht _⟩
theorem ajl (x:Int) (r:List Int):Q7 (x :: r) < 0↔x < 0∨(x = 0∧Q7 r < 0):=by
 rw [Q7];split<;>omega
theorem alx (a b:Qc):aeK a b = if (a.subj == b.subj) = false then Op.bytesLess a.subj b.subj else if (a.kind != b.kind) = true then decide (a.kind < b.kind) else if (a.alg != b.alg) = true then decide (a.alg < b.alg) else if (a.bits != b.bits) = true then decide (a.bits < b.bits) else if (a.num != b.num) = true then decide (a.num < b.num) else Op.bytesLess a.text b.text:=by
 have z:Q7 ([]:List Int) = 0:=rfl
 rw [kZ]
 simp only [aeK,zA,af0,ajl,z,aqI,afY,arX,ab0]
 by_cases h1:a.subj = b.subj
 ·rw [if_neg (by simpa using h1)]
  simp only [h1,jZ,true_and,zB,false_or]
  by_cases h2:a.kind = b.kind
  ·rw [if_neg (by simpa using h2)]
   simp only [h2,Int.lt_irrefl,true_and,false_or]
   by_cases h3:a.alg = b.alg
   ·rw [if_neg (by simpa using h3)]
    simp only [h3,Int.lt_irrefl,true_and,false_or]
    by_cases h4:a.bits = b.bits
    ·rw [if_neg (by simpa using h4)]
     simp only [h4,Int.lt_irrefl,true_and,false_or]
     by_cases h5:a.num = b.num
     ·rw [if_neg (by simpa using h5)]
      simp [h5]
     ·rw [if_pos (by simpa using h5)]
      simp [h5]
    ·rw [if_pos (by simpa using h4)]
     simp [h4]
   ·rw [if_pos (by simpa using h3)]
    simp [h3]
  ·rw [if_pos (by simpa using h2)]
   simp [h2]
 ·rw [if_pos (by simpa using h1)]
  simp [h1]
def jj:=qd Proofs.Tryz.f54 []
def yT (Γ:Env) (f:Nat):Prop:=∀ (a b:Qc),EvN Γ f [a.v,b.v] (V.bool (aeK a b))
theorem agp {Γ:Env} {f:Nat} (h:Has Γ.P f 68 jj.1.1.ac jj.1.2) :yT Γ f:=by
 intro a b
 refine Qb h zsi zcl zcl fun C hC hm=>?_
 subst hC
 simp only [jj,qd,DC.ac]
 rw [alx]
 simp only [Qc.v,Qc.cells]
 rcases c1:(a.subj == b.subj) with _|_
 ·rw [if_pos rfl]
  (have zx:=c1);exact zg
 rw [if_neg (by simp)]
 rcases c2:(a.kind != b.kind) with _|_
 rotate_left
 ·rw [if_pos rfl]
  (have zx:=za c1 c2);exact zg
 rw [if_neg (by simp)]
 rcases c3:(a.alg != b.alg) with _|_
 rotate_left
 ·rw [if_pos rfl]
  (have zx:=za c1 (za c2 c3));exact zg
 rw [if_neg (by simp)]
 rcases c4:(a.bits != b.bits) with _|_
 rotate_left
 ·rw [if_pos rfl]
  (have zx:=za c1 (za c2 (za c3 c4)));exact zg
 rw [if_neg (by simp)]
 rcases c5:(a.num != b.num) with _|_
 rotate_left
 ·rw [if_pos rfl]
  (have zx:=za c1 (za c2 (za c3 (za c4 c5))));exact zg
 rw [if_neg (by simp)]
 (have zx:=za c1 (za c2 (za c3 (za c4 c5))));exact zg
def jk:=qd Proofs.Tryz.f53 [zhw 29]
def yU (Γ:Env) (f:Nat):Prop:=∀ (l:List Qa) (ent:Int) (i:Nat) (f0:Qa) (hi:l[i]? = some f0),EvN Γ f [.sl 11 (l.map Qa.v),V.int ent,V.int i] ((J7 ent i f0).v)
theorem agq {Γ:Env} {f:Nat} (h:Has Γ.P f 35 jk.1.1.ac jk.1.2) :yU Γ f:=by
 intro l ent i f0 hi
 refine Qb h zsi (by simp only [J7,Qc.v,Qc.cells,V.closed,Qd,V.noSl,WP,and_self]) (by simp only [J7,Qc.v,Qc.cells,V.closed,Qd,V.noSl,WP,and_self]) fun C hC hm=>?_
 subst hC
 simp only [jk,qd,DC.ac]
 have vi:(l.map Qa.v)[i]? = some f0.v:=by rw [zf,hi];rfl
 simp only [Qa.v,Qa.cells] at vi
 simp only [J7,Qc.v,Qc.cells]
 (have zx:=vi);exact zg
def al8 (day age:Int) (f:Qa):Bool:=decide (f.day≤day) && decide (f.day≥day - age)
def wP (l:List Qa) (day age:Int) (a:Nat) (fa:Qa) (b:Nat):Bool:=match l[b]? with
 | some g=>al8 day age g && (decide (aiI g = aiI fa) && ajI b a g fa)
 | none=>false
def amJ (l:List Qc) (x:Qc):Nat→Nat
 | 0=>0
 | k + 1=>match l[k]? with
   | some y=>if aeK x y = true then amJ l x k else k + 1
   | none=>k + 1
def ao4 (l:List Qc) (x:Qc):List Qc:=l.take (amJ l x l.length)++x :: l.drop (amJ l x l.length)
def ahc (l:List Qa) (num day age:Int) (fs:List Nat) (out:List Qc) (a:Nat):List Qc:=match l[a]? with
 | some f=>if (decide (f.day > day) || (decide (f.day < day - age) || f.kind == 8)) = true then out else if fs.any (wP l day age a f) = true then out else ao4 out (J7 num a f)
 | none=>out
def JT (l:List Qa) (num:Int) (fs:List Nat) (day age:Int) (k:Nat):List Qc:=(fs.take k).foldl (ahc l num day age fs) []
theorem amI (l:List Qc) (x:Qc):∀ k,amJ l x k≤k
 | 0=>zj _
 | k + 1=>by
   rw [amJ]
   split
   ·split
    ·exact Zp (amI l x k)
    ·exact zj _
   ·exact zj _
theorem ao3 (l:List Qc) (x:Qc):(ao4 l x).length = l.length + 1:=by
 have:=amI l x l.length
 simp [ao4];omega
theorem ams (l:List Qa) (num day age:Int) (fs:List Nat) (out:List Qc) (a:Nat):(ahc l num day age fs out a).length≤out.length + 1:=by
 unfold ahc
 split
 ·split
  ·omega
  ·split
   ·omega
   ·rw [ao3];exact zj _
 ·omega
theorem adS {l:List Qa} {num day age:Int} {fs:List Nat} {k a:Nat} (h:fs[k]? = some a):JT l num fs day age (k + 1) = ahc l num day age fs (JT l num fs day age k) a:=by
 rw [JT,JT,zO,h,Option.toList_some,Zo];rfl
theorem ww (l:List Qa) (num day age:Int) (fs:List Nat):∀ k,(JT l num fs day age k).length≤k
 | 0=>by simp [JT]
 | k + 1=>by
   have ih:=ww l num day age fs k
   rcases h:fs[k]? with _|a
   ·have:JT l num fs day age (k + 1) = JT l num fs day age k:=by
     rw [JT,JT,zO,h,Option.toList_none,ki]
    rw [this];omega
   ·rw [adS h]
    have:=ams l num day age fs (JT l num fs day age k) a
    omega
theorem atT (p q:Qa):Jp [0,1,0,0,0,0,1,0,0,0,1] p.cells q.cells = some (decide (p = q)):=by
 obtain ⟨a1,a2,a3,a4,a5,a6,a7,a8,a9,a10,a11⟩:=p
 obtain ⟨b1,b2,b3,b4,b5,b6,b7,b8,b9,b10,b11⟩:=q
 have hs:∀ x y:List UInt8,((⟨x.toArray⟩:ByteArray) == ⟨y.toArray⟩) = decide (x = y):=fun x y=>by
  rw [kZ,ael];simp
 simp only [Qa.cells,V.str,V.int,Jp,hs,if_true,Option.map_some,Qa.mk.injEq]
 congr 1
 rw [kZ]
 simp
def frS (l:List Qa) (e:QT) (day age:Int) (out:List Qc) (k:Nat):St:=Ju [(0,.sl 11 (l.map Qa.v)),(2,V.int day),(3,V.int age),(5,.ptr 0 0),(11,.hd 1 0 out.length),(12,V.int k)] [(0,.box true (fcE e)),(1,.buf true 8 (out.map Qc.v))] 2
noncomputable def zdC (fn:Func):Option (AC×List Kx):=match fn.body.bind (xA Proofs.Tryz.prog fn.ntmps),afJ Proofs.Tryz.prog fn.results.toList with
 | some ac,some rs=>some (ac,rs)
 | _,_=>none
noncomputable def zdD (x:AC×List Kx) (hs:List RH):DC×List Kx:=((ame (x.2.flatMap arT) (fun _=>[]) x.1 (x.2.flatMap arT) hs).1,x.2)
theorem zdE {fn:Func} {hs:List RH} {x d} (h1:zdC fn = some x) (h2:zdD x hs = d):dF Proofs.Tryz.prog fn hs = some d:=by
 subst h2
 unfold zdC at h1
 unfold dF
 split at h1
 ·rename_i a b c e
  cases h1
  rw [c,e]
  rfl
 ·cases h1
noncomputable def zdQ (fn:Func) (hs:List RH) {x:AC×List Kx} {d:DC×List Kx} (h1:zdC fn = some x:=by cbv) (h2:zdD x hs = d:=by cbv):QD Proofs.Tryz.prog fn hs:=⟨d,zdE h1 h2⟩
def KT:=zdQ Proofs.Tryz.f24 [zhn 13,zhn 11,zhn 37]
def U6 (Γ:Env) (f:Nat):Prop:=∀ (l:List Qa) (e:QT) (day age:Int) (hl:l.length < 2 ^ 40) (hz:∀ x∈l,x.Sz) (hnm:Y1 l = true) (hdy:0≤day∧day≤40000) (hag:0≤age∧age≤4000) (hb:∀ i∈e.finds,i < l.length) (hnd:e.finds.Nodup) (hf:e.finds.length≤400),EvC Γ f [.sl 11 (l.map Qa.v),e.v,V.int day,V.int age] (.tup [.sl 8 ((JT l e.num e.finds day age e.finds.length).map Qc.v),V.int 0])
attribute [local go_sem] Ju in
theorem aeV {Γ:Env} {f:Nat} (h:Has Γ.P f 170 KT.1.1.ac KT.1.2) (z0:X0 Γ 45) (z1:jP Γ 49) (z2:jQ Γ 50) (z3:qI Γ 51) (z4:jO Γ 52) (z5:yU Γ 53) (z6:yT Γ 54):U6 Γ f:=by
 intro l e day age hl hz hnm hdy hag hb hnd hf
 refine Jy h zsi (by simp only [V.closed,Qd,and_self]) fun C hC hm=>?_
 subst hC
 simp only [KT,zdQ,DC.ac]
 have hal:(l.map Qa.v).length = l.length:=zb _
 have hpl:=Jh e.finds
 obtain ⟨hl4,hq⟩:=Vx hnm
 have hd:∀ x∈l,akL x:=fun x hx=>aeh (hq x hx)
 have p0:=(z0 l hl hz hq).b
 rw [hnm] at p0
 have p1:=(z1 l e hb hl (by omega)).b
 have d1:decide (day < 0) = false:=zp (by omega)
 have d2:decide (day > 40000) = false:=zp (by omega)
 have d3:decide (age < 0) = false:=zp (by omega)
 have d4:decide (age > 4000) = false:=zp (by omega)
 have n0:((0:Int) != 0) = false:=by decide
 simp only [QT.v] at p1 ⊢
 (have zx:=za d1 (za d2 (za d3 (za d4 n0))));refine zgo ?_;repeat' first|exact zt|apply zan|intro hc
 refine Qo (ι:=Nat) (fun k=>k≤e.finds.length) (fun k=>frS l e day age (JT l e.num e.finds day age k) k) (fun k=>e.finds.length - k) 0 (zH _) (Qe [(0,0),(1,26000)]) (Qg [(0,0),(1,26000)] (by simp only [go_sem,zwl,frS,JT,List.take_zero,List.foldl_nil,List.length_nil]<;>exact zcc) (by simp only [go_sem,zwl,frS,fcE,JT,List.take_zero,List.foldl_nil,zK]<;>exact zcc) (by simp [frS,Qe]) (by simp [frS];omega) (by omega)) fun k hk K' hL=>?_
 have hol:=ww l e.num day age e.finds k
 rcases hdr:e.finds.drop k with _|⟨a,r⟩
 ·have hkl:=Qs hdr
  have e1:decide ((k:Int) < (e.finds.length:Int)) = false:=by simp;omega
  obtain rfl:k = e.finds.length:=by omega
  simp only [frS,fcE]
  have htl:List.take (JT l e.num e.finds day age e.finds.length).length ((JT l e.num e.finds day age e.finds.length).map Qc.v) = (JT l e.num e.finds day age e.finds.length).map Qc.v:=zh (by simp)
  (have zx:=za e1 (za hpl htl));refine zgo ?_;repeat' first|exact zt|apply zan|intro hc
  all_goals first|exact zr|(refine Qk _ rfl ?_;simp only [go_sem];simp [zh];done)
 obtain ⟨hk',hget,hr⟩:=Ql hdr
 have hw:=Qf (k:=k) (by omega)
 have e1:decide ((k:Int) < (e.finds.length:Int)) = true:=by simp;omega
 have va:=YE hget
 have hal2:=hb a (zu hget)
 obtain ⟨f0,hf0⟩:∃ f,l[a]? = some f:=⟨_,zd hal2⟩
 have vf:(l.map Qa.v)[a]? = some f0.v:=by rw [zf,hf0];rfl
 have hfd:=hd f0 (zu hf0)
 have hws:IntKind.i64.wrap (day - age) = day - age:=QG (by omega) (by omega)
 have hsu:=adS (l:=l) (num:=e.num) (day:=day) (age:=age) hget
 rw [ahc,hf0] at hsu
 simp only at hsu
 generalize JT l e.num e.finds day age k = out at *
 simp only [Qa.v,Qa.cells] at vf
 rcases c1:decide (f0.day > day) with _|_
 rotate_left
 ·rw [c1] at hsu
  simp only [kq,if_true] at hsu
  simp only [frS,fcE]
  (have zx:=za e1 (za c1 (za hal (za hpl (za hw (za va (za vf hws)))))));refine zgo ?_;repeat' first|exact zt|apply zan|intro hc
  all_goals exact hL _ (k + 1) (Qe []) (by omega) (by omega) (by rw [hsu];exact Qg [] (by simp only [go_sem,zwl,frS]<;>exact zcc) (by simp only [go_sem,zwl,frS,fcE]<;>exact zcc) (by simp [frS,Qe]) (by simp [frS]) (by omega))
 rcases c2:decide (f0.day < day - age) with _|_
 rotate_left
 ·rw [c1,c2] at hsu
  simp only [kq,kD,if_true] at hsu
  simp only [frS,fcE]
  (have zx:=za e1 (za c1 (za c2 (za hal (za hpl (za hw (za va (za vf hws))))))));refine zgo ?_;repeat' first|exact zt|apply zan|intro hc
  all_goals exact hL _ (k + 1) (Qe []) (by omega) (by omega) (by rw [hsu];exact Qg [] (by simp only [go_sem,zwl,frS]<;>exact zcc) (by simp only [go_sem,zwl,frS,fcE]<;>exact zcc) (by simp [frS,Qe]) (by simp [frS]) (by omega))
 rcases c3:(f0.kind == 8) with _|_
 rotate_left
 ·rw [c1,c2,c3] at hsu
  simp only [ZV,kD,if_true] at hsu
  simp only [frS,fcE]
  (have zx:=za e1 (za c1 (za c2 (za c3 (za hal (za hpl (za hw (za va (za vf hws)))))))));refine zgo ?_;repeat' first|exact zt|apply zan|intro hc
  all_goals exact hL _ (k + 1) (Qe []) (by omega) (by omega) (by rw [hsu];exact Qg [] (by simp only [go_sem,zwl,frS]<;>exact zcc) (by simp only [go_sem,zwl,frS,fcE]<;>exact zcc) (by simp [frS,Qe]) (by simp [frS]) (by omega))
 rw [c1,c2,c3] at hsu
 simp only [Z5,zB,if_false] at hsu
 simp only [frS,fcE]
 (have zx:=za e1 (za c1 (za c2 (za c3 (za hal (za hpl (za hw (za va (za vf hws)))))))));refine zgo ?_;repeat' first|exact zt|apply zan|intro hc
 refine Qx (ι:=Nat) (fun j=>j≤e.finds.length) (fun j=>[(14,V.bool (!((e.finds.take j).any (wP l day age a f0)))),(15,V.int j)]) (fun j=>e.finds.length - j) 0 (by omega) (zH _) zol zlt (by simp only [Nat.reduceAdd,ovT,JQ,Nat.reduceEqDiff,reduceIte,Yy,Xg,afl,u32,u33,u34,u35,u36,u37,u38,u39,and_self,and_true,true_and];first|exact ⟨rfl,rfl⟩|done|rfl) fun j hj K2 hL2=>?_
 simp only [ovT,JQ,Nat.reduceEqDiff,reduceIte]
 by_cases hjl:j < e.finds.length
 ·have f1:decide ((j:Int) < (e.finds.length:Int)) = true:=by simp;omega
  have hwj:=Qf (k:=j) (by omega)
  obtain ⟨b,hbj⟩:∃ b,e.finds[j]? = some b:=⟨_,zd hjl⟩
  have vb:=YE hbj
  obtain ⟨g0,hg0⟩:∃ g,l[b]? = some g:=⟨_,zd (hb b (zu hbj))⟩
  have vg:(l.map Qa.v)[b]? = some g0.v:=by rw [zf,hg0];rfl
  have p3:=(z2 g0).b
  have p4:=(z2 f0).b
  have p5:=(z3 l b a g0 f0 hg0 hf0).b
  have hq1:=atT (aiI g0) (aiI f0)
  have htk:(e.finds.take (j + 1)).any (wP l day age a f0) = ((e.finds.take j).any (wP l day age a f0) || wP l day age a f0 b):=by
   rw [zO,hbj,Option.toList_some,List.any_append];simp
  rw [wP,hg0] at htk
  simp only [al8] at htk
  simp only [Qa.v] at vg p3 p4
  simp only [show g0.cells = [V.int g0.src,V.str g0.host,V.int g0.mach,V.int g0.day,V.int g0.conf,V.int g0.kind,V.str g0.subj,V.int g0.alg,V.int g0.bits,V.int g0.num,V.str g0.text] from rfl,show f0.cells = [V.int f0.src,V.str f0.host,V.int f0.mach,V.int f0.day,V.int f0.conf,V.int f0.kind,V.str f0.subj,V.int f0.alg,V.int f0.bits,V.int f0.num,V.str f0.text] from rfl] at vg p3 p4
  generalize (aiI g0).cells = q1 at *
  generalize (aiI f0).cells = q2 at *
  generalize decide (aiI g0 = aiI f0) = b3 at *
  generalize ajI b a g0 f0 = b4 at *
  generalize (e.finds.take j).any (wP l day age a f0) = b0 at *
  rcases b1:decide (g0.day≤day) with _|_
  ·rw [b1] at htk
   simp only [zy,Z5] at htk
   (have zx:=za f1 (za b1 (za hal (za hpl (za hwj (za vb (za vg (za vf hws))))))));refine zgo ?_;repeat' first|exact zt|apply zan|intro hc
   all_goals exact hL2 _ (j + 1) (by rw [htk];simp only [Nat.reduceAdd,ovT,JQ,Nat.reduceEqDiff,reduceIte,Yy,Xg,afl,u32,u33,u34,u35,u36,u37,u38,u39,and_self,and_true,true_and]) (by omega) (by omega) zoe
  rcases b2:decide (g0.day≥day - age) with _|_
  ·rw [b1,b2] at htk
   simp only [zy,zI,Z5] at htk
   (have zx:=za f1 (za b1 (za b2 (za hal (za hpl (za hwj (za vb (za vg (za vf hws)))))))));refine zgo ?_;repeat' first|exact zt|apply zan|intro hc
   all_goals exact hL2 _ (j + 1) (by rw [htk];simp only [Nat.reduceAdd,ovT,JQ,Nat.reduceEqDiff,reduceIte,Yy,Xg,afl,u32,u33,u34,u35,u36,u37,u38,u39,and_self,and_true,true_and]) (by omega) (by omega) zoe
  rcases b3 with _|_
  ·rw [b1,b2] at htk
   simp only [zy,zI,Z5,zC] at htk
   (have zx:=za f1 (za b1 (za b2 (za hq1 (za hal (za hpl (za hwj (za vb (za vg (za vf hws))))))))));refine zgo ?_;repeat' first|exact zt|apply zan|intro hc
   all_goals exact hL2 _ (j + 1) (by rw [htk];simp only [Nat.reduceAdd,ovT,JQ,Nat.reduceEqDiff,reduceIte,Yy,Xg,afl,u32,u33,u34,u35,u36,u37,u38,u39,and_self,and_true,true_and]) (by omega) (by omega) zoe
  rcases b4 with _|_
  ·rw [b1,b2] at htk
   simp only [zy,zI,Z5,zC] at htk
   (have zx:=za f1 (za b1 (za b2 (za hq1 (za hal (za hpl (za hwj (za vb (za vg (za vf hws))))))))));refine zgo ?_;repeat' first|exact zt|apply zan|intro hc
   all_goals exact hL2 _ (j + 1) (by rw [htk];simp only [Nat.reduceAdd,ovT,JQ,Nat.reduceEqDiff,reduceIte,Yy,Xg,afl,u32,u33,u34,u35,u36,u37,u38,u39,and_self,and_true,true_and]) (by omega) (by omega) zoe
  ·rw [b1,b2] at htk
   simp only [zN,ZV,zC] at htk
   repeat' (first|(refine zsk ?_;intro K' hK)|(refine zrg ?_;intro K' hK)|refine zsp ?_|(refine zsc ?_ ?_<;>intro hc<;>first|exact znh|try simp only [znz] at hc)|simp (maxSteps:=1000000) only [go_sem,f1,b1,b2,hq1,hal,hpl,hwj,vb,vg,vf,hws,Int.toNat_natCast]|(refine hK _ ?_;clear hK K')|apply zan|((first|apply QF|apply QC);(focus first|exact p3|exact p4|exact p5|exact (z0 _ zsd zsd zsd).b|exact (z1 _ _ zsd zsd zsd).b|exact (z2 _).b|exact (z3 _ _ _ _ _ zsd zsd).b|exact (z4 _ _ zsd zsd zsd).b|exact (z5 _ _ _ _ zsd).b|exact (z6 _ _).b))|exact zsq|fail)
   all_goals exact hL2 _ (j + 1) (by rw [htk];simp only [Nat.reduceAdd,ovT,JQ,Nat.reduceEqDiff,reduceIte,Yy,Xg,afl,u32,u33,u34,u35,u36,u37,u38,u39,and_self,and_true,true_and];rfl) (by omega) (by omega) zoe
 have f1:decide ((j:Int) < (e.finds.length:Int)) = false:=by simp;omega
 obtain rfl:j = e.finds.length:=by omega
 rw [zR]
 clear hL2
 have f2:decide (((e.finds.length:Nat):Int) < (e.finds.length:Int)) = false:=by simp
 generalize e.finds.any (wP l day age a f0) = bt at *
 rcases bt with _|_
 rotate_left
 ·simp only [if_true] at hsu
  repeat' (first|(refine zsk ?_;intro K' hK)|(refine zrg ?_;intro K' hK)|refine zsp ?_|(refine zsc ?_ ?_<;>intro hc<;>first|exact znh|try simp only [znz] at hc)|simp (maxSteps:=1000000) only [go_sem,f1,f2,hpl,hw]|(refine hK _ ?_;clear hK K')|apply zan|((first|apply QF|apply QC);(focus first|exact (z0 _ zsd zsd zsd).b|exact (z1 _ _ zsd zsd zsd).b|exact (z2 _).b|exact (z3 _ _ _ _ _ zsd zsd).b|exact (z4 _ _ zsd zsd zsd).b|exact (z5 _ _ _ _ zsd).b|exact (z6 _ _).b))|exact zsq|fail)
  all_goals exact hL _ (k + 1) (Qe []) (by omega) (by omega) (by rw [hsu];exact Qg [] (by simp only [go_sem,zwl,frS]<;>exact zcc) (by simp only [go_sem,zwl,frS,fcE]<;>exact zcc) (by simp [frS,Qe]) (by simp [frS]) (by omega))
 simp only [zB,if_false] at hsu
 have p6:=(z4 e.finds k hk' hnd (by omega)).b
 have p7:=(z5 l e.num a f0 hf0).b
 have hoL:(out.map Qc.v).length = out.length:=zb _
 have htl:List.take out.length (out.map Qc.v) = out.map Qc.v:=zh (by simp)
 simp only [Qc.v,J7,Qc.cells] at p7
 repeat' (first|(refine zsk ?_;intro K' hK)|(refine zrg ?_;intro K' hK)|refine zsp ?_|(refine zsc ?_ ?_<;>intro hc<;>first|exact znh|try simp only [znz] at hc)|simp (maxSteps:=1000000) only [go_sem,f1,f2,hpl,hoL,htl]|(refine hK _ ?_;clear hK K')|apply zan|((first|apply QF|apply QC);(focus first|exact p6|exact p7|exact (z0 _ zsd zsd zsd).b|exact (z1 _ _ zsd zsd zsd).b|exact (z2 _).b|exact (z3 _ _ _ _ _ zsd zsd).b|exact (z4 _ _ zsd zsd zsd).b|exact (z5 _ _ _ _ zsd).b|exact (z6 _ _).b))|exact zsq|fail)
 refine Qx (ι:=Nat) (fun j=>j≤out.length∧amJ out (J7 e.num a f0) j = amJ out (J7 e.num a f0) out.length) (fun j=>[(18,V.int j)]) (fun j=>j) out.length (by omega) ⟨zj _,rfl⟩ zol zlt zet fun j hj K2 hL2=>?_
 obtain ⟨hj,hinv⟩:=hj
 simp only [ovT,JQ,Nat.reduceEqDiff,reduceIte]
 rcases j with _|j
 ·have g1:decide (((0:Nat):Int) > 0) = false:=by decide
  rw [amJ] at hinv
  have hin:ao4 out (J7 e.num a f0) = J7 e.num a f0 :: out:=by rw [ao4,← hinv];rfl
  rw [hin] at hsu
  clear hL2
  have hlen:(J7 e.num a f0 :: out).length = 1 + out.length:=by simp;omega
  have hmp:(J7 e.num a f0 :: out).map Qc.v = (J7 e.num a f0).v :: out.map Qc.v:=rfl
  simp only [Qc.v,J7,Qc.cells] at hmp
  repeat' (first|(refine zsk ?_;intro K' hK)|(refine zrg ?_;intro K' hK)|refine zsp ?_|(refine zsc ?_ ?_<;>intro hc<;>first|exact znh|try simp only [znz] at hc)|simp (maxSteps:=1000000) only [go_sem,g1,hoL,htl,hw,Nat.sub_zero,Int.toNat_natCast]|(refine hK _ ?_;clear hK K')|apply zan|((first|apply QF|apply QC);(focus first|exact (z0 _ zsd zsd zsd).b|exact (z1 _ _ zsd zsd zsd).b|exact (z2 _).b|exact (z3 _ _ _ _ _ zsd zsd).b|exact (z4 _ _ zsd zsd zsd).b|exact (z5 _ _ _ _ zsd).b|exact (z6 _ _).b))|exact zsq|fail)
  all_goals first|(intro z hz;obtain ⟨w,_,rfl⟩:=zE.1 hz;rfl)|(intro z hz;obtain ⟨w,_,rfl⟩:=zE.1 (zD hz);rfl)|(intro z hz;obtain ⟨w,_,rfl⟩:=zE.1 (zG hz);rfl)|(intro z hz;obtain ⟨w,_,rfl⟩:=zE.1 (zG (zD hz));rfl)|(intro z hz;obtain ⟨w,_,rfl⟩:=zE.1 (zD (zG hz));rfl)|(simp only [zq,zQ,kf,zb,List.length_cons,List.length_nil];omega)|exact hL _ (k + 1) (Qe [(0,0),(1,84002)]) (by omega) (by omega) (by rw [hsu];exact Qg [(0,0),(1,84002)] (by simp only [go_sem,zwl,frS,hlen,hmp,J7,Qc.v,Qc.cells,zL,List.length_cons,Nat.add_comm]<;>exact zcc) (by simp only [go_sem,zwl,frS,fcE,hlen,hmp,J7,Qc.v,Qc.cells,zL,List.length_cons,Nat.add_comm]<;>exact zcc) (by simp [frS,Qe]) (by simp [frS];omega) (by omega))
 have g1:decide (((j + 1:Nat):Int) > 0) = true:=zo (by omega)
 have hwk:IntKind.i64.wrap (((j + 1:Nat):Int) - 1) = (j:Int):=by rw [QG (by omega) (by omega)];omega
 obtain ⟨y,hy⟩:∃ y,out[j]? = some y:=⟨_,zd (by omega)⟩
 have vy:(out.map Qc.v)[j]? = some y.v:=by rw [zf,hy];rfl
 have p8:=(z6 (J7 e.num a f0) y).b
 rw [amJ,hy] at hinv
 simp only at hinv
 simp only [Qc.v,J7,Qc.cells] at vy p8
 rcases c5:aeK (J7 e.num a f0) y with _|_
 rotate_left
 ·rw [c5] at hinv
  simp only [J7] at c5
  rw [c5] at p8
  simp only [if_true] at hinv
  repeat' (first|(refine zsk ?_;intro K' hK)|(refine zrg ?_;intro K' hK)|refine zsp ?_|(refine zsc ?_ ?_<;>intro hc<;>first|exact znh|try simp only [znz] at hc)|simp (maxSteps:=1000000) only [go_sem,g1,hwk,vy,hoL,hpl,Int.toNat_natCast]|(refine hK _ ?_;clear hK K')|apply zan|((first|apply QF|apply QC);(focus first|exact p8|exact (z0 _ zsd zsd zsd).b|exact (z1 _ _ zsd zsd zsd).b|exact (z2 _).b|exact (z3 _ _ _ _ _ zsd zsd).b|exact (z4 _ _ zsd zsd zsd).b|exact (z5 _ _ _ _ zsd).b|exact (z6 _ _).b))|exact zsq|fail)
  all_goals exact hL2 _ j zet ⟨by omega,hinv⟩ (by omega) zoe
 rw [c5] at hinv
 simp only [zB,if_false] at hinv
 have hin:ao4 out (J7 e.num a f0) = out.take (j + 1)++J7 e.num a f0 :: out.drop (j + 1):=by rw [ao4,← hinv]
 rw [hin] at hsu
 simp only [J7] at c5
 rw [c5] at p8
 clear hL2
 have ltk:(List.take (j + 1) (out.map Qc.v)).length = j + 1:=by rw [zQ];simp;omega
 have ld:(List.drop (j + 1) (out.map Qc.v)).length = out.length - (j + 1):=by rw [kf];simp
 have tt:List.take (out.length - (j + 1)) (List.drop (j + 1) (out.map Qc.v)) = List.drop (j + 1) (out.map Qc.v):=zh (by rw [ld];exact zj _)
 have ttk:List.take (j + 1) (List.take (j + 1) (out.map Qc.v)) = List.take (j + 1) (out.map Qc.v):=zh (by rw [ltk];exact zj _)
 have tx:∀ z:V,List.take (j + 1 + 1) (List.take (j + 1) (out.map Qc.v)++[z]) = List.take (j + 1) (out.map Qc.v)++[z]:=fun z=>zh (by rw [zq,ltk];exact zj _)
 have hlen2:(List.take (j + 1) out++J7 e.num a f0 :: List.drop (j + 1) out).length = j + 1 + 1 + (out.length - (j + 1)):=by simp;omega
 have hmp2:(List.take (j + 1) out++J7 e.num a f0 :: List.drop (j + 1) out).map Qc.v = List.take (j + 1) (out.map Qc.v)++[(J7 e.num a f0).v]++List.drop (j + 1) (out.map Qc.v):=by simp [kp,kw]
 simp only [show (J7 e.num a f0).v = V.agg [V.int e.num,V.str f0.subj,V.int f0.kind,V.int f0.alg,V.int f0.bits,V.int f0.num,V.str f0.text,V.int a] from rfl] at hmp2
 generalize hxs:List.take (j + 1) out++J7 e.num a f0 :: List.drop (j + 1) out = xs at *
 repeat' (first|(refine zsk ?_;intro K' hK)|(refine zrg ?_;intro K' hK)|refine zsp ?_|(refine zsc ?_ ?_<;>intro hc<;>first|exact znh|try simp only [znz] at hc)|simp (maxSteps:=1000000) only [go_sem,g1,hwk,vy,hoL,htl,hw,ltk,ld,tt,ttk,tx,Nat.sub_zero,Int.toNat_natCast]|(refine hK _ ?_;clear hK K')|apply zan|((first|apply QF|apply QC);(focus first|exact p8|exact (z0 _ zsd zsd zsd).b|exact (z1 _ _ zsd zsd zsd).b|exact (z2 _).b|exact (z3 _ _ _ _ _ zsd zsd).b|exact (z4 _ _ zsd zsd zsd).b|exact (z5 _ _ _ _ zsd).b|exact (z6 _ _).b))|exact zsq|fail)
 all_goals first|(intro z hz;obtain ⟨w,_,rfl⟩:=zE.1 hz;rfl)|(intro z hz;obtain ⟨w,_,rfl⟩:=zE.1 (zD hz);rfl)|(intro z hz;obtain ⟨w,_,rfl⟩:=zE.1 (zG hz);rfl)|(intro z hz;obtain ⟨w,_,rfl⟩:=zE.1 (zG (zD hz));rfl)|(intro z hz;obtain ⟨w,_,rfl⟩:=zE.1 (zD (zG hz));rfl)|(simp only [zq,zQ,kf,zb,List.length_cons,List.length_nil];omega)|exact hL _ (k + 1) (Qe [(0,0),(1,84002)]) (by omega) (by omega) (by rw [hsu];exact Qg [(0,0),(1,84002)] (by simp only [go_sem,zwl,frS,hlen2,ltk,ld]<;>exact zcc) (by simp only [go_sem,zwl,frS,fcE,hmp2]<;>exact zcc) (by simp [frS,Qe]) (by simp [frS];omega) (by omega))
def KL:=qd Proofs.Tryz.f33 []
def WV (Γ:Env) (f:Nat):Prop:=∀ (l:List Qa) (gap day age:Int) (hl:l.length < 2 ^ 40) (hz:∀ x∈l,x.Sz) (hq:∀ x∈l,JC x = true),EvN Γ f [.sl 11 (l.map Qa.v),V.int gap,V.int day,V.int age] (V.int (JF l gap day age))
theorem aeN {Γ:Env} {f:Nat} (h:Has Γ.P f 34 KL.1.1.ac KL.1.2) (z0:X0 Γ 45):WV Γ f:=by
 intro l gap day age hl hz hq
 refine Qb h zsi zcl zcl fun C hC hm=>?_
 subst hC
 simp only [KL,qd,DC.ac]
 have p0:=(z0 l hl hz hq).b
 unfold JF
 rcases hb:Y1 l with _|_
 ·rw [hb] at p0
  rw [if_neg (by decide)]
  exact zg
 rw [hb] at p0
 rw [if_pos rfl]
 rw [aqC,aiU]
 rcases c1:decide (gap < 0) with _|_
 rotate_left
 ·(have zx:=c1);refine zgo ?_;repeat' first|exact zt|apply zan|intro hc
  all_goals first|exact zr|(refine Qk _ rfl ?_;simp only [go_sem];simp;done)
 rcases c2:decide (gap > 4000) with _|_
 rotate_left
 ·(have zx:=za c1 c2);refine zgo ?_;repeat' first|exact zt|apply zan|intro hc
  all_goals first|exact zr|(refine Qk _ rfl ?_;simp only [go_sem];simp;done)
 rcases c3:decide (day < 0) with _|_
 rotate_left
 ·(have zx:=za c1 (za c2 c3));refine zgo ?_;repeat' first|exact zt|apply zan|intro hc
  all_goals first|exact zr|(refine Qk _ rfl ?_;simp only [go_sem];simp;done)
 rcases c4:decide (day > 40000) with _|_
 rotate_left
 ·(have zx:=za c1 (za c2 (za c3 c4)));refine zgo ?_;repeat' first|exact zt|apply zan|intro hc
  all_goals first|exact zr|(refine Qk _ rfl ?_;simp only [go_sem];simp;done)
 rcases c5:decide (age < 0) with _|_
 rotate_left
 ·(have zx:=za c1 (za c2 (za c3 (za c4 c5))));refine zgo ?_;repeat' first|exact zt|apply zan|intro hc
  all_goals first|exact zr|(refine Qk _ rfl ?_;simp only [go_sem];simp;done)
 rcases c6:decide (age > 4000) with _|_
 ·(have zx:=za c1 (za c2 (za c3 (za c4 (za c5 c6)))));refine zgo ?_;repeat' first|exact zt|apply zan|intro hc
  all_goals first|exact zr|(refine Qk _ rfl ?_;simp only [go_sem];simp;done)
 ·(have zx:=za c1 (za c2 (za c3 (za c4 (za c5 c6)))));refine zgo ?_;repeat' first|exact zt|apply zan|intro hc
  all_goals first|exact zr|(refine Qk _ rfl ?_;simp only [go_sem];simp;done)
def jg:=qd Proofs.Tryz.f74 []
def yQ (Γ:Env) (f:Nat):Prop:=∀ (l:List (List UInt8)) (x:List UInt8) (hl:l.length < 2 ^ 40),EvN Γ f [.sl 1 (l.map V.str),V.str x] (V.bool (l.any fun y=>y == x))
theorem agm {Γ:Env} {f:Nat} (h:Has Γ.P f 18 jg.1.1.ac jg.1.2) :yQ Γ f:=by
 intro l x hl
 refine Qb h zsi zcl zcl fun C hC hm=>?_
 subst hC
 simp only [jg,qd,DC.ac]
 have hal:(l.map V.str).length = l.length:=zb _
 refine zgo ?_;repeat' first|exact zt|apply zan|intro hc
 refine Qx (ι:=Nat) (fun k=>k≤l.length∧(l.drop k).any (fun y=>y == x) = l.any (fun y=>y == x)) (fun k=>[(5,V.int k)]) (fun k=>l.length - k) 0 (by omega) ⟨zH _,rfl⟩ zol zlt zet fun k hk K' hL=>?_
 obtain ⟨hk,hinv⟩:=hk
 simp only [ovT,JQ,Nat.reduceEqDiff,reduceIte]
 rcases hd:l.drop k with _|⟨y,r⟩
 ·have hkl:=Qs hd
  have e1:decide ((k:Int) < (l.length:Int)) = false:=by simp;omega
  rw [hd] at hinv
  rw [← hinv]
  (have zx:=za e1 hal);exact zg
 ·obtain ⟨hk',hget,hr⟩:=Ql hd
  have hw:=Qf (k:=k) (by omega)
  have e1:decide ((k:Int) < (l.length:Int)) = true:=by simp;omega
  have vy:(l.map V.str)[k]? = some (V.str y):=by rw [zf,hget];rfl
  rw [hd,List.any_cons] at hinv
  rcases c1:(y == x) with _|_
  ·rw [c1,kD,← hr] at hinv
   (have zx:=za e1 (za c1 (za hal (za hw vy))));refine zgo ?_;repeat' first|exact zt|apply zan|intro hc
   all_goals exact hL _ (k + 1) zet ⟨by omega,hinv⟩ (by omega) zoe
  ·rw [c1,kq] at hinv
   rw [← hinv]
   (have zx:=za e1 (za c1 (za hal (za hw vy))));exact zg
def al9 (l:List Qa) (day age:Int) (f:Qc) (e:QT):Bool:=(f.text == [] || e.hosts.any fun y=>y == f.text) && (JT l e.num e.finds day age e.finds.length).any (wD f)
def arK (l:List Qa) (gap day age:Int) (f:Qc):Bool:=(Jv l gap).any (al9 l day age f)
def syS (l:List Qa) (gap day age:Int) (f:Qc) (k:Nat):St:=Ju [(0,.sl 11 (l.map Qa.v)),(2,V.int day),(3,V.int age),(9,.ptr 0 0),(11,.sl 4 ((Jv l gap).map QT.v)),(13,V.int k)] [(0,.box true f.cells)] 1
def jf:=qd Proofs.Tryz.f37 [zhn 38,zhn 14]
def K6 (Γ:Env) (f:Nat):Prop:=∀ (l:List Qa) (gap day age:Int) (f0:Qc) (hz:∀ x∈l,x.Sz) (hnm:Y1 l = true) (hg:0≤gap∧gap≤4000) (hdy:0≤day∧day≤40000) (hag:0≤age∧age≤4000),EvN Γ f [.sl 11 (l.map Qa.v),V.int gap,V.int day,V.int age,f0.v] (V.bool (arK l gap day age f0))
attribute [local go_sem] Ju in
theorem agl {Γ:Env} {f:Nat} (h:Has Γ.P f 98 jf.1.1.ac jf.1.2) (z0:WB Γ 23) (z1:yQ Γ 74) (z2:U6 Γ 24):K6 Γ f:=by
 intro l gap day age f0 hz hnm hg hdy hag
 refine Qb h zsi zcl zcl fun C hC hm=>?_
 subst hC
 simp only [jf,qd,DC.ac]
 obtain ⟨hl4,hq⟩:=Vx hnm
 have p0:=(z0 l gap (by omega) hz hq).b
 rw [akF,aog,show J8 l gap = 0 by rw [J8,if_pos hnm,if_neg (by omega)],if_pos rfl] at p0
 have hel:=wx l gap
 simp only [Qc.v,Qc.cells]
 refine zgo ?_;repeat' first|exact zt|apply zan|intro hc
 refine Qo (ι:=Nat) (fun k=>k≤(Jv l gap).length∧((Jv l gap).drop k).any (al9 l day age f0) = arK l gap day age f0) (fun k=>syS l gap day age f0 k) (fun k=>(Jv l gap).length - k) 0 ⟨zH _,rfl⟩ (Qe [(0,0)]) (Qg [(0,0)] (by simp only [go_sem,zwl,syS]<;>exact zcc) (by simp only [go_sem,zwl,syS,Qc.cells]<;>exact zcc) (by simp [syS,Qe]) (by simp [syS];omega) (by omega)) fun k hk K' hL=>?_
 obtain ⟨hk,hinv⟩:=hk
 have heL:((Jv l gap).map QT.v).length = (Jv l gap).length:=zb _
 rcases hdr:(Jv l gap).drop k with _|⟨e,r⟩
 ·have hkl:=Qs hdr
  have e1:decide ((k:Int) < ((Jv l gap).length:Int)) = false:=by simp;omega
  rw [hdr] at hinv
  rw [← hinv]
  simp only [syS]
  (have zx:=za e1 heL);exact zg
 obtain ⟨hk',hget,hr⟩:=Ql hdr
 have hw:=Qf (k:=k) (by omega)
 have e1:decide ((k:Int) < ((Jv l gap).length:Int)) = true:=by simp;omega
 have ve:((Jv l gap).map QT.v)[k]? = some e.v:=by rw [zf,hget];rfl
 obtain ⟨o1,o2,o3,o4⟩:=vI (zu hget)
 have ph:=(z1 e.hosts f0.text (by omega)).b
 have pf:=(z2 l e day age (by omega) hz hnm hdy hag o2 (o1.imp fun h=>Nat.ne_of_lt h) (by omega)).b
 rw [hdr,List.any_cons,← hr] at hinv
 simp only [QT.v] at ve pf
 simp only [syS,Qc.cells]
 rcases t1:(f0.text == []) with _|_
 ·rcases t2:(e.hosts.any fun y=>y == f0.text) with _|_
  ·rw [t2] at ph
   rw [show al9 l day age f0 e = false by rw [al9,t1,t2];rfl,kD] at hinv
   (have zx:=za e1 (za t1 (za heL (za hw ve))));refine zgo ?_;repeat' first|exact zt|apply zan|intro hc
   all_goals exact hL _ (k + 1) (Qe []) ⟨by omega,hinv⟩ (by omega) (Qg [] (by simp only [go_sem,zwl,syS]<;>exact zcc) (by simp only [go_sem,zwl,syS,Qc.cells]<;>exact zcc) (by simp [syS,Qe]) (by simp [syS]) (by omega))
  ·rw [t2] at ph
   (have zx:=za e1 (za t1 (za heL (za hw ve))));refine zgo ?_;repeat' first|exact zt|apply zan|intro hc
   refine Qx (ι:=Nat) (fun j=>j≤(JT l e.num e.finds day age e.finds.length).length∧((JT l e.num e.finds day age e.finds.length).drop j).any (wD f0) = (JT l e.num e.finds day age e.finds.length).any (wD f0)) (fun j=>[(16,V.int j)]) (fun j=>(JT l e.num e.finds day age e.finds.length).length - j) 0 (by omega) ⟨zH _,rfl⟩ zol zlt zet fun j hj K2 hL2=>?_
   obtain ⟨hj,hjv⟩:=hj
   simp only [ovT,JQ,Nat.reduceEqDiff,reduceIte]
   have hsE:al9 l day age f0 e = (JT l e.num e.finds day age e.finds.length).any (wD f0):=by rw [al9,t1];first|(rw [t2];rfl)|rfl
   have hfl:((JT l e.num e.finds day age e.finds.length).map Qc.v).length = (JT l e.num e.finds day age e.finds.length).length:=zb _
   have hfn:=ww l e.num day age e.finds e.finds.length
   rw [hsE] at hinv
   generalize JT l e.num e.finds day age e.finds.length = fl at *
   rcases hdj:fl.drop j with _|⟨x,q⟩
   ·have hkl:=Qs hdj
    have g1:decide ((j:Int) < (fl.length:Int)) = false:=by simp;omega
    rw [hdj] at hjv
    rw [← hjv] at hinv
    have hinv:((Jv l gap).drop (k + 1)).any (al9 l day age f0) = arK l gap day age f0:=by simpa using hinv
    (have zx:=za g1 (za hfl hw));refine zgo ?_;repeat' first|exact zt|apply zan|intro hc
    all_goals exact hL _ (k + 1) (Qe []) ⟨by omega,hinv⟩ (by omega) (Qg [] (by simp only [go_sem,zwl,syS]<;>exact zcc) (by simp only [go_sem,zwl,syS,Qc.cells]<;>exact zcc) (by simp [syS,Qe]) (by simp [syS]) (by omega))
   obtain ⟨hj',hgj,hqr⟩:=Ql hdj
   have hwj:=Qf (k:=j) (by omega)
   have g1:decide ((j:Int) < (fl.length:Int)) = true:=by simp;omega
   have vx:(fl.map Qc.v)[j]? = some x.v:=by rw [zf,hgj];rfl
   simp only [Qc.v,Qc.cells] at vx
   rw [hdj,List.any_cons,← hqr] at hjv
   rw [wD] at hjv
   rcases c1:(x.subj == f0.subj) with _|_
   ·rw [c1] at hjv
    simp only [zy,zC,zI,zN,kD,kq] at hjv
    (have zx:=za g1 (za c1 (za hfl (za hwj vx))));refine zgo ?_;repeat' first|exact zt|apply zan|intro hc
    all_goals exact hL2 _ (j + 1) zet ⟨by omega,hjv⟩ (by omega) zoe
   rcases c2:(x.kind == f0.kind) with _|_
   ·rw [c1,c2] at hjv
    simp only [zy,zC,zI,zN,kD,kq] at hjv
    (have zx:=za g1 (za c1 (za c2 (za hfl (za hwj vx)))));refine zgo ?_;repeat' first|exact zt|apply zan|intro hc
    all_goals exact hL2 _ (j + 1) zet ⟨by omega,hjv⟩ (by omega) zoe
   rcases c3:(x.alg == f0.alg) with _|_
   ·rw [c1,c2,c3] at hjv
    simp only [zy,zC,zI,zN,kD,kq] at hjv
    (have zx:=za g1 (za c1 (za c2 (za c3 (za hfl (za hwj vx))))));refine zgo ?_;repeat' first|exact zt|apply zan|intro hc
    all_goals exact hL2 _ (j + 1) zet ⟨by omega,hjv⟩ (by omega) zoe
   rcases c4:(x.bits == f0.bits) with _|_
   ·rw [c1,c2,c3,c4] at hjv
    simp only [zy,zC,zI,zN,kD,kq] at hjv
    (have zx:=za g1 (za c1 (za c2 (za c3 (za c4 (za hfl (za hwj vx)))))));refine zgo ?_;repeat' first|exact zt|apply zan|intro hc
    all_goals exact hL2 _ (j + 1) zet ⟨by omega,hjv⟩ (by omega) zoe
   rcases c5:(x.num == f0.num) with _|_
   ·rw [c1,c2,c3,c4,c5] at hjv
    simp only [zy,zC,zI,zN,kD,kq] at hjv
    (have zx:=za g1 (za c1 (za c2 (za c3 (za c4 (za c5 (za hfl (za hwj vx))))))));refine zgo ?_;repeat' first|exact zt|apply zan|intro hc
    all_goals exact hL2 _ (j + 1) zet ⟨by omega,hjv⟩ (by omega) zoe
   rw [c1,c2,c3,c4,c5] at hjv
   simp only [zC,zN,kq] at hjv
   rw [← hjv,kq] at hinv
   rw [← hinv]
   (have zx:=za g1 (za c1 (za c2 (za c3 (za c4 (za c5 (za hfl (za hwj vx))))))));exact zg
 ·(have zx:=za e1 (za t1 (za heL (za hw ve))));refine zgo ?_;repeat' first|exact zt|apply zan|intro hc
  refine Qx (ι:=Nat) (fun j=>j≤(JT l e.num e.finds day age e.finds.length).length∧((JT l e.num e.finds day age e.finds.length).drop j).any (wD f0) = (JT l e.num e.finds day age e.finds.length).any (wD f0)) (fun j=>[(16,V.int j)]) (fun j=>(JT l e.num e.finds day age e.finds.length).length - j) 0 (by omega) ⟨zH _,rfl⟩ zol zlt zet fun j hj K2 hL2=>?_
  obtain ⟨hj,hjv⟩:=hj
  simp only [ovT,JQ,Nat.reduceEqDiff,reduceIte]
  have hsE:al9 l day age f0 e = (JT l e.num e.finds day age e.finds.length).any (wD f0):=by rw [al9,t1];first|(rw [t2];rfl)|rfl
  have hfl:((JT l e.num e.finds day age e.finds.length).map Qc.v).length = (JT l e.num e.finds day age e.finds.length).length:=zb _
  have hfn:=ww l e.num day age e.finds e.finds.length
  rw [hsE] at hinv
  generalize JT l e.num e.finds day age e.finds.length = fl at *
  rcases hdj:fl.drop j with _|⟨x,q⟩
  ·have hkl:=Qs hdj
   have g1:decide ((j:Int) < (fl.length:Int)) = false:=by simp;omega
   rw [hdj] at hjv
   rw [← hjv] at hinv
   have hinv:((Jv l gap).drop (k + 1)).any (al9 l day age f0) = arK l gap day age f0:=by simpa using hinv
   (have zx:=za g1 (za hfl hw));refine zgo ?_;repeat' first|exact zt|apply zan|intro hc
   all_goals exact hL _ (k + 1) (Qe []) ⟨by omega,hinv⟩ (by omega) (Qg [] (by simp only [go_sem,zwl,syS]<;>exact zcc) (by simp only [go_sem,zwl,syS,Qc.cells]<;>exact zcc) (by simp [syS,Qe]) (by simp [syS]) (by omega))
  obtain ⟨hj',hgj,hqr⟩:=Ql hdj
  have hwj:=Qf (k:=j) (by omega)
  have g1:decide ((j:Int) < (fl.length:Int)) = true:=by simp;omega
  have vx:(fl.map Qc.v)[j]? = some x.v:=by rw [zf,hgj];rfl
  simp only [Qc.v,Qc.cells] at vx
  rw [hdj,List.any_cons,← hqr] at hjv
  rw [wD] at hjv
  rcases c1:(x.subj == f0.subj) with _|_
  ·rw [c1] at hjv
   simp only [zy,zC,zI,zN,kD,kq] at hjv
   (have zx:=za g1 (za c1 (za hfl (za hwj vx))));refine zgo ?_;repeat' first|exact zt|apply zan|intro hc
   all_goals exact hL2 _ (j + 1) zet ⟨by omega,hjv⟩ (by omega) zoe
  rcases c2:(x.kind == f0.kind) with _|_
  ·rw [c1,c2] at hjv
   simp only [zy,zC,zI,zN,kD,kq] at hjv
   (have zx:=za g1 (za c1 (za c2 (za hfl (za hwj vx)))));refine zgo ?_;repeat' first|exact zt|apply zan|intro hc
   all_goals exact hL2 _ (j + 1) zet ⟨by omega,hjv⟩ (by omega) zoe
  rcases c3:(x.alg == f0.alg) with _|_
  ·rw [c1,c2,c3] at hjv
   simp only [zy,zC,zI,zN,kD,kq] at hjv
   (have zx:=za g1 (za c1 (za c2 (za c3 (za hfl (za hwj vx))))));refine zgo ?_;repeat' first|exact zt|apply zan|intro hc
   all_goals exact hL2 _ (j + 1) zet ⟨by omega,hjv⟩ (by omega) zoe
  rcases c4:(x.bits == f0.bits) with _|_
  ·rw [c1,c2,c3,c4] at hjv
   simp only [zy,zC,zI,zN,kD,kq] at hjv
   (have zx:=za g1 (za c1 (za c2 (za c3 (za c4 (za hfl (za hwj vx)))))));refine zgo ?_;repeat' first|exact zt|apply zan|intro hc
   all_goals exact hL2 _ (j + 1) zet ⟨by omega,hjv⟩ (by omega) zoe
  rcases c5:(x.num == f0.num) with _|_
  ·rw [c1,c2,c3,c4,c5] at hjv
   simp only [zy,zC,zI,zN,kD,kq] at hjv
   (have zx:=za g1 (za c1 (za c2 (za c3 (za c4 (za c5 (za hfl (za hwj vx))))))));refine zgo ?_;repeat' first|exact zt|apply zan|intro hc
   all_goals exact hL2 _ (j + 1) zet ⟨by omega,hjv⟩ (by omega) zoe
  rw [c1,c2,c3,c4,c5] at hjv
  simp only [zC,zN,kq] at hjv
  rw [← hjv,kq] at hinv
  rw [← hinv]
  (have zx:=za g1 (za c1 (za c2 (za c3 (za c4 (za c5 (za hfl (za hwj vx))))))));exact zg
end Av
end
