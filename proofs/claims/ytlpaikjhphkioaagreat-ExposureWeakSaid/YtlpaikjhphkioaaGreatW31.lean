/- W31 -/
import Derived.Test.YtlpaikjhphkioaaGreatW30
import Derived.Test.YtlpaikjhphkioaaGreatW24
import Derived.Test.YtlpaikjhphkioaaGreatW12
import Derived.Test.YtlpaikjhphkioaaGreatW25
set_option linter.unusedVariables false
set_option linter.unusedSimpArgs false
noncomputable section
set_option maxRecDepth 10000
set_option maxHeartbeats 4000000
namespace Av
open Go
attribute [local irreducible] AWp Vy K7 jE awS awC aaG awQ abg QW Uc vZ awR Uj awB okR jt ris
def agQ (f:Qa):Qa :=
 if f.kind = 1∨f.kind = 8 then ⟨0,[],0,0,0,1,f.subj,f.alg,f.bits,0,[]⟩
 else if f.kind = 2∨f.kind = 6 then ⟨0,[],0,0,0,f.kind,f.subj,0,0,f.num,[]⟩
 else if f.kind = 7 then ⟨0,[],0,0,0,f.kind,f.subj,0,0,0,f.text⟩
 else ⟨0,[],0,0,0,f.kind,f.subj,0,0,0,[]⟩
def ahN (a b:Nat) (f g:Qa):Bool:=if f.day≠g.day then decide (f.day > g.day) else if f.conf≠g.conf then decide (f.conf > g.conf) else decide (a < b)
def UO:=qd Proofs.Tryz.f50 [⟨fun _=>false,[1],.one 0 (.one 2 (.or 1 (.one 3 (.one 4 (.one 5 (.done)))) (.or 3 (.one 1 (.one 4 (.one 5 (.done)))) (.done))))⟩]
def qo (Γ:Env) (f:Nat):Prop:=∀ (f0:Qa),EvN Γ f [f0.v] ((agQ f0).v)
theorem adg {Γ:Env} {f:Nat} (h:Has Γ.P f 30 UO.1.1.ac UO.1.2) :qo Γ f:=by
 intro f0
 refine Qb h zsi (by unfold agQ;(repeat' split)<;>simp only [Qa.v,Qa.cells,V.closed,Qc,V.noSl,UB,and_self]) (by unfold agQ;(repeat' split)<;>simp only [Qa.v,Qa.cells,V.closed,Qc,V.noSl,UB,and_self]) fun C hC hm=>?_
 subst hC
 simp only [UO,qd,DC.ac]
 obtain ⟨src,host,mach,day,conf,kind,subj,alg,bits,num,text⟩:=f0
 simp only [Qa.v,Qa.cells,agQ]
 have E:∀ n:Int,kind≠n→(kind == n) = false:=fun n h=>by simpa using h
 by_cases k1:kind = 1
 ·subst k1
  rw [if_pos (.inl rfl)]
  exact zg
 by_cases k8:kind = 8
 ·subst k8
  rw [if_pos (.inr rfl)]
  exact zg
 rw [if_neg (by simp [k1,k8])]
 by_cases k2:kind = 2
 ·subst k2
  rw [if_pos (.inl rfl)]
  exact zg
 by_cases k6:kind = 6
 ·subst k6
  rw [if_pos (.inr rfl)]
  exact zg
 rw [if_neg (by simp [k2,k6])]
 have e1:=E 1 k1
 have e8:=E 8 k8
 have e2:=E 2 k2
 have e6:=E 6 k6
 by_cases k7:kind = 7
 ·subst k7
  rw [if_pos rfl]
  exact zg
 rw [if_neg k7]
 have e7:=E 7 k7
 (have zx:=za e1 (za e8 (za e2 (za e6 e7))));exact zg
def VZ:=qd Proofs.Tryz.f51 [zhn 12,zhn 11,zhn 12,zhn 11]
def Kw (Γ:Env) (f:Nat):Prop:=∀ (l:List Qa) (a b:Nat) (f0 g0:Qa) (ha:l[a]? = some f0) (hb:l[b]? = some g0),EvN Γ f [.sl 11 (l.map Qa.v),V.int a,V.int b] (V.bool (ahN a b f0 g0))
theorem aci {Γ:Env} {f:Nat} (h:Has Γ.P f 54 VZ.1.1.ac VZ.1.2) :Kw Γ f:=by
 intro l a b f0 g0 ha hb
 refine Qb h zsi zcl zcl fun C hC hm=>?_
 subst hC
 simp only [VZ,qd,DC.ac]
 have va:(l.map Qa.v)[a]? = some f0.v:=by rw [zi,ha];rfl
 have vb:(l.map Qa.v)[b]? = some g0.v:=by rw [zi,hb];rfl
 simp only [Qa.v,Qa.cells] at va vb
 rw [ahN]
 rcases c1:(f0.day != g0.day) with _|_
 rotate_left
 ·rw [if_pos (by simpa using c1)]
  (have zx:=za va (za vb c1));exact zg
 rw [if_neg (by simpa using c1)]
 rcases c2:(f0.conf != g0.conf) with _|_
 rotate_left
 ·rw [if_pos (by simpa using c2)]
  (have zx:=za va (za vb (za c1 c2)));exact zg
 rw [if_neg (by simpa using c2)]
 have hab:decide ((a:Int) < (b:Int)) = decide (a < b):=by simp
 (have zx:=za va (za vb (za c1 (za c2 hab))));exact zg
def UN:=qd Proofs.Tryz.f49 []
def qn (Γ:Env) (f:Nat):Prop:=∀ (l:List Qa) (e:QR) (he:∀ i∈e.finds,i < l.length) (hl:l.length < 2 ^ 40) (hf:e.finds.length < 2 ^ 40),EvN Γ f [.sl 11 (l.map Qa.v),e.v] (V.int 0)
attribute [local go_sem] Jk in
theorem adf {Γ:Env} {f:Nat} (h:Has Γ.P f 29 UN.1.1.ac UN.1.2) :qn Γ f:=by
 intro l e he hl hf
 refine Qb h zsi zcl zcl fun C hC hm=>?_
 subst hC
 simp only [UN,qd,DC.ac]
 have hal:(l.map Qa.v).length = l.length:=zb _
 have hpl:=Jr e.finds
 simp only [QR.v]
 (have zx:=hpl);refine zgo ?_;repeat' first|exact zt|apply zan|intro hc
 refine Qp (ι:=Nat) (fun k=>k≤e.finds.length) (fun k=>Jk [(0,.sl 11 (l.map Qa.v)),(3,.ptr 0 0),(5,V.int k)] [(0,.box true [V.int e.num,.sl 1 (e.hosts.map V.str),.sl 1 (e.machs.map V.int),.sl 1 (Qv e.finds)])] 1) (fun k=>e.finds.length - k) 0 (zG _) (Qd [(0,0)]) (zwg [(0,0)]) fun k hk K' hL=>?_
 rcases hd:e.finds.drop k with _|⟨x,r⟩
 ·have hkl:=Qt hd
  have e1:decide ((k:Int) < (e.finds.length:Int)) = false:=by simp;omega
  (have zx:=za e1 hpl);exact zg
 ·obtain ⟨hk',hget,hr⟩:=Qm hd
  have hw:=Qg (k:=k) (by omega)
  have e1:decide ((k:Int) < (e.finds.length:Int)) = true:=by simp;omega
  have vx:=J6 hget
  have hx:=he x (zq hget)
  have e2:decide ((x:Int) < 0) = false:=by simp
  have e3:decide ((x:Int)≥(l.length:Int)) = false:=by simp;omega
  (have zx:=za e1 (za e2 (za e3 (za hal (za hpl (za hw vx))))));refine zgo ?_;repeat' first|exact zt|apply zan|intro hc
  all_goals exact hL _ (k + 1) (Qd []) (by omega) (by omega) (zwg [])
def UM:=qd Proofs.Tryz.f52 [zhn 9]
def qm (Γ:Env) (f:Nat):Prop:=∀ (fs:List Nat) (i:Nat) (hi:i < fs.length) (hn:fs.Nodup) (hl:fs.length < 2 ^ 40),EvN Γ f [.sl 1 (Qv fs),V.int i] (V.bool false)
theorem ade {Γ:Env} {f:Nat} (h:Has Γ.P f 20 UM.1.1.ac UM.1.2) :qm Γ f:=by
 intro fs i hi hn hl
 refine Qb h zsi zcl zcl fun C hC hm=>?_
 subst hC
 simp only [UM,qd,DC.ac]
 have hpl:=Jr fs
 obtain ⟨y,hy⟩:∃ y,fs[i]? = some y:=⟨_,zd hi⟩
 have vy:=J6 hy
 (have zx:=hpl);refine zgo ?_;repeat' first|exact zt|apply zan|intro hc
 refine Qz (ι:=Nat) (fun k=>k≤i) (fun k=>[(5,V.int k)]) (fun k=>i - k) 0 (by omega) (zG _) zol zlt zet fun k hk K' hL=>?_
 simp only [ovT,JE,Nat.reduceEqDiff,reduceIte]
 by_cases hlt:k < i
 rotate_left
 ·have e1:decide ((k:Int) < (i:Int)) = false:=by simp;omega
  (have zx:=e1);exact zg
 have e1:decide ((k:Int) < (i:Int)) = true:=by simp;omega
 have hw:=Qg (k:=k) (by omega)
 obtain ⟨x,hx⟩:∃ x,fs[k]? = some x:=⟨_,zd (by omega)⟩
 have vx:=J6 hx
 have hne:x≠y:=fun e=>by
  obtain ⟨h1,rfl⟩:=zn.1 hx
  obtain ⟨h2,rfl⟩:=zn.1 hy
  exact kj.1 hn k i h1 h2 hlt e
 have e2:((x:Int) == (y:Int)) = false:=by simp;omega
 (have zx:=za e1 (za e2 (za hpl (za hw (za vx vy)))));refine zgo ?_;repeat' first|exact zt|apply zan|intro hc
 all_goals exact hL _ (k + 1) zet (by omega) (by omega) zoe
theorem aov (a b:List UInt8):qP a b < 0↔Op.bytesLess a b = true:=by
 unfold qP
 rcases h1:Op.bytesLess a b with _|_
 ·rcases h2:Op.bytesLess b a with _|_<;>simp
 ·simp
theorem apK (a b:List UInt8):qP a b = 0↔a = b:=⟨ael,fun h=>by rw [h];exact afL _⟩
theorem ahs (x:Int) (r:List Int):Q0 (x :: r) < 0↔x < 0∨(x = 0∧Q0 r < 0):=by
 rw [Q0];split<;>omega
theorem ajt (a b:Qe):ac8 a b = if (a.subj == b.subj) = false then Op.bytesLess a.subj b.subj else if (a.kind != b.kind) = true then decide (a.kind < b.kind) else if (a.alg != b.alg) = true then decide (a.alg < b.alg) else if (a.bits != b.bits) = true then decide (a.bits < b.bits) else if (a.num != b.num) = true then decide (a.num < b.num) else Op.bytesLess a.text b.text:=by
 have z:Q0 ([]:List Int) = 0:=rfl
 rw [Zv]
 simp only [ac8,zy,ac6,ahs,z,aov,aem,apK,aav]
 by_cases h1:a.subj = b.subj
 ·rw [if_neg (by simpa using h1)]
  simp only [h1,qC,true_and,zB,false_or]
  by_cases h2:a.kind = b.kind
  ·rw [if_neg (by simpa using h2)]
   simp only [h2,Int.lt_irrefl,true_and,false_or]
   by_cases h3:a.alg = b.alg
   ·rw [if_neg (by simpa using h3)]
    simp only [h3,Int.lt_irrefl,true_and,false_or]
    by_cases h4:a.bits = b.bits
    ·rw [if_neg (by simpa using h4)]
     simp only [h4,Int.lt_irrefl,true_and,false_or]
     by_cases h5:a.num = b.num
     ·rw [if_neg (by simpa using h5)]
      simp [h5]
     ·rw [if_pos (by simpa using h5)]
      simp [h5]
    ·rw [if_pos (by simpa using h4)]
     simp [h4]
   ·rw [if_pos (by simpa using h3)]
    simp [h3]
  ·rw [if_pos (by simpa using h2)]
   simp [h2]
 ·rw [if_pos (by simpa using h1)]
  simp [h1]
def KT:=qd Proofs.Tryz.f54 []
def ji (Γ:Env) (f:Nat):Prop:=∀ (a b:Qe),EvN Γ f [a.v,b.v] (V.bool (ac8 a b))
theorem aeF {Γ:Env} {f:Nat} (h:Has Γ.P f 68 KT.1.1.ac KT.1.2) :ji Γ f:=by
 intro a b
 refine Qb h zsi zcl zcl fun C hC hm=>?_
 subst hC
 simp only [KT,qd,DC.ac]
 rw [ajt]
 simp only [Qe.v,Qe.cells]
 rcases c1:(a.subj == b.subj) with _|_
 ·rw [if_pos rfl]
  (have zx:=c1);exact zg
 rw [if_neg (by simp)]
 rcases c2:(a.kind != b.kind) with _|_
 rotate_left
 ·rw [if_pos rfl]
  (have zx:=za c1 c2);exact zg
 rw [if_neg (by simp)]
 rcases c3:(a.alg != b.alg) with _|_
 rotate_left
 ·rw [if_pos rfl]
  (have zx:=za c1 (za c2 c3));exact zg
 rw [if_neg (by simp)]
 rcases c4:(a.bits != b.bits) with _|_
 rotate_left
 ·rw [if_pos rfl]
  (have zx:=za c1 (za c2 (za c3 c4)));exact zg
 rw [if_neg (by simp)]
 rcases c5:(a.num != b.num) with _|_
 rotate_left
 ·rw [if_pos rfl]
  (have zx:=za c1 (za c2 (za c3 (za c4 c5))));exact zg
 rw [if_neg (by simp)]
 (have zx:=za c1 (za c2 (za c3 (za c4 c5))));exact zg
def KU:=qd Proofs.Tryz.f53 [zhw 29]
def jj (Γ:Env) (f:Nat):Prop:=∀ (l:List Qa) (ent:Int) (i:Nat) (f0:Qa) (hi:l[i]? = some f0),EvN Γ f [.sl 11 (l.map Qa.v),V.int ent,V.int i] ((JC ent i f0).v)
theorem aeG {Γ:Env} {f:Nat} (h:Has Γ.P f 35 KU.1.1.ac KU.1.2) :jj Γ f:=by
 intro l ent i f0 hi
 refine Qb h zsi (by simp only [JC,Qe.v,Qe.cells,V.closed,Qc,V.noSl,UB,and_self]) (by simp only [JC,Qe.v,Qe.cells,V.closed,Qc,V.noSl,UB,and_self]) fun C hC hm=>?_
 subst hC
 simp only [KU,qd,DC.ac]
 have vi:(l.map Qa.v)[i]? = some f0.v:=by rw [zi,hi];rfl
 simp only [Qa.v,Qa.cells] at vi
 simp only [JC,Qe.v,Qe.cells]
 (have zx:=vi);exact zg
def aj3 (day age:Int) (f:Qa):Bool:=decide (f.day≤day) && decide (f.day≥day - age)
def yL (l:List Qa) (day age:Int) (a:Nat) (fa:Qa) (b:Nat):Bool:=match l[b]? with
 | some g=>aj3 day age g && (decide (agQ g = agQ fa) && ahN b a g fa)
 | none=>false
def aky (l:List Qe) (x:Qe):Nat→Nat
 | 0=>0
 | k + 1=>match l[k]? with
   | some y=>if ac8 x y = true then aky l x k else k + 1
   | none=>k + 1
def amQ (l:List Qe) (x:Qe):List Qe:=l.take (aky l x l.length)++x :: l.drop (aky l x l.length)
def afs (l:List Qa) (num day age:Int) (fs:List Nat) (out:List Qe) (a:Nat):List Qe:=match l[a]? with
 | some f=>if (decide (f.day > day) || (decide (f.day < day - age) || f.kind == 8)) = true then out else if fs.any (yL l day age a f) = true then out else amQ out (JC num a f)
 | none=>out
def XO (l:List Qa) (num:Int) (fs:List Nat) (day age:Int) (k:Nat):List Qe:=(fs.take k).foldl (afs l num day age fs) []
theorem akx (l:List Qe) (x:Qe):∀ k,aky l x k≤k
 | 0=>zh _
 | k + 1=>by
   rw [aky]
   split
   ·split
    ·exact Zj (akx l x k)
    ·exact zh _
   ·exact zh _
theorem amP (l:List Qe) (x:Qe):(amQ l x).length = l.length + 1:=by
 have:=akx l x l.length
 simp [amQ];omega
theorem akk (l:List Qa) (num day age:Int) (fs:List Nat) (out:List Qe) (a:Nat):(afs l num day age fs out a).length≤out.length + 1:=by
 unfold afs
 split
 ·split
  ·omega
  ·split
   ·omega
   ·rw [amP];exact zh _
 ·omega
theorem acf {l:List Qa} {num day age:Int} {fs:List Nat} {k a:Nat} (h:fs[k]? = some a):XO l num fs day age (k + 1) = afs l num day age fs (XO l num fs day age k) a:=by
 rw [XO,XO,zR,h,Option.toList_some,ZK];rfl
theorem ad1 (l:List Qa) (num day age:Int) (fs:List Nat):∀ k,(XO l num fs day age k).length≤k
 | 0=>by simp [XO]
 | k + 1=>by
   have ih:=ad1 l num day age fs k
   rcases h:fs[k]? with _|a
   ·have:XO l num fs day age (k + 1) = XO l num fs day age k:=by
     rw [XO,XO,zR,h,Option.toList_none,km]
    rw [this];omega
   ·rw [acf h]
    have:=akk l num day age fs (XO l num fs day age k) a
    omega
theorem arK (p q:Qa):Ji [0,1,0,0,0,0,1,0,0,0,1] p.cells q.cells = some (decide (p = q)):=by
 obtain ⟨a1,a2,a3,a4,a5,a6,a7,a8,a9,a10,a11⟩:=p
 obtain ⟨b1,b2,b3,b4,b5,b6,b7,b8,b9,b10,b11⟩:=q
 have hs:∀ x y:List UInt8,((⟨x.toArray⟩:ByteArray) == ⟨y.toArray⟩) = decide (x = y):=fun x y=>by
  rw [Zv,aec];simp
 simp only [Qa.cells,V.str,V.int,Ji,hs,if_true,Option.map_some,Qa.mk.injEq]
 congr 1
 rw [Zv]
 simp
def frS (l:List Qa) (e:QR) (day age:Int) (out:List Qe) (k:Nat):St:=Jk [(0,.sl 11 (l.map Qa.v)),(2,V.int day),(3,V.int age),(5,.ptr 0 0),(11,.hd 1 0 out.length),(12,V.int k)] [(0,.box true (fcE e)),(1,.buf true 8 (out.map Qe.v))] 2
def UP:=qd Proofs.Tryz.f24 [zhn 13,zhn 11,zhn 37]
def qp (Γ:Env) (f:Nat):Prop:=∀ (l:List Qa) (e:QR) (day age:Int) (hl:l.length < 2 ^ 40) (hz:∀ x∈l,x.Sz) (hnm:YL l = true) (hdy:0≤day∧day≤40000) (hag:0≤age∧age≤4000) (hb:∀ i∈e.finds,i < l.length) (hnd:e.finds.Nodup) (hf:e.finds.length≤400),EvC Γ f [.sl 11 (l.map Qa.v),e.v,V.int day,V.int age] (.tup [.sl 8 ((XO l e.num e.finds day age e.finds.length).map Qe.v),V.int 0])
attribute [local go_sem] Jk in
theorem adh {Γ:Env} {f:Nat} (h:Has Γ.P f 170 UP.1.1.ac UP.1.2) (z0:Vf Γ 45) (z1:qn Γ 49) (z2:qo Γ 50) (z3:Kw Γ 51) (z4:qm Γ 52) (z5:jj Γ 53) (z6:ji Γ 54):qp Γ f:=by
 intro l e day age hl hz hnm hdy hag hb hnd hf
 refine Jt h zsi (by simp only [V.closed,Qc,and_self]) fun C hC hm=>?_
 subst hC
 simp only [UP,qd,DC.ac]
 have hal:(l.map Qa.v).length = l.length:=zb _
 have hpl:=Jr e.finds
 obtain ⟨hl4,hq⟩:=qz hnm
 have hd:∀ x∈l,aiL x:=fun x hx=>acF (hq x hx)
 have p0:=(z0 l hl hz hq).b
 rw [hnm] at p0
 have p1:=(z1 l e hb hl (by omega)).b
 have d1:decide (day < 0) = false:=zp (by omega)
 have d2:decide (day > 40000) = false:=zp (by omega)
 have d3:decide (age < 0) = false:=zp (by omega)
 have d4:decide (age > 4000) = false:=zp (by omega)
 have n0:((0:Int) != 0) = false:=by decide
 simp only [QR.v] at p1 ⊢
 (have zx:=za d1 (za d2 (za d3 (za d4 n0))));refine zgo ?_;repeat' first|exact zt|apply zan|intro hc
 refine Qp (ι:=Nat) (fun k=>k≤e.finds.length) (fun k=>frS l e day age (XO l e.num e.finds day age k) k) (fun k=>e.finds.length - k) 0 (zG _) (Qd [(0,0),(1,26000)]) (Qh [(0,0),(1,26000)] (by simp only [go_sem,zwl,frS,XO,List.take_zero,List.foldl_nil,List.length_nil]<;>exact zcc) (by simp only [go_sem,zwl,frS,fcE,XO,List.take_zero,List.foldl_nil,zL]<;>exact zcc) (by simp [frS,Qd]) (by simp [frS];omega) (by omega)) fun k hk K' hL=>?_
 have hol:=ad1 l e.num day age e.finds k
 rcases hdr:e.finds.drop k with _|⟨a,r⟩
 ·have hkl:=Qt hdr
  have e1:decide ((k:Int) < (e.finds.length:Int)) = false:=by simp;omega
  obtain rfl:k = e.finds.length:=by omega
  simp only [frS,fcE]
  have htl:List.take (XO l e.num e.finds day age e.finds.length).length ((XO l e.num e.finds day age e.finds.length).map Qe.v) = (XO l e.num e.finds day age e.finds.length).map Qe.v:=zl (by simp)
  (have zx:=za e1 (za hpl htl));refine zgo ?_;repeat' first|exact zt|apply zan|intro hc
  all_goals first|exact zr|(refine Ql _ rfl ?_;simp only [go_sem];simp [zl];done)
 obtain ⟨hk',hget,hr⟩:=Qm hdr
 have hw:=Qg (k:=k) (by omega)
 have e1:decide ((k:Int) < (e.finds.length:Int)) = true:=by simp;omega
 have va:=J6 hget
 have hal2:=hb a (zq hget)
 obtain ⟨f0,hf0⟩:∃ f,l[a]? = some f:=⟨_,zd hal2⟩
 have vf:(l.map Qa.v)[a]? = some f0.v:=by rw [zi,hf0];rfl
 have hfd:=hd f0 (zq hf0)
 have hws:IntKind.i64.wrap (day - age) = day - age:=QP (by omega) (by omega)
 have hsu:=acf (l:=l) (num:=e.num) (day:=day) (age:=age) hget
 rw [afs,hf0] at hsu
 simp only at hsu
 generalize XO l e.num e.finds day age k = out at *
 simp only [Qa.v,Qa.cells] at vf
 rcases c1:decide (f0.day > day) with _|_
 rotate_left
 ·rw [c1] at hsu
  simp only [Zl,if_true] at hsu
  simp only [frS,fcE]
  (have zx:=za e1 (za c1 (za hal (za hpl (za hw (za va (za vf hws)))))));refine zgo ?_;repeat' first|exact zt|apply zan|intro hc
  all_goals exact hL _ (k + 1) (Qd []) (by omega) (by omega) (by rw [hsu];exact Qh [] (by simp only [go_sem,zwl,frS]<;>exact zcc) (by simp only [go_sem,zwl,frS,fcE]<;>exact zcc) (by simp [frS,Qd]) (by simp [frS]) (by omega))
 rcases c2:decide (f0.day < day - age) with _|_
 rotate_left
 ·rw [c1,c2] at hsu
  simp only [Zl,ZS,if_true] at hsu
  simp only [frS,fcE]
  (have zx:=za e1 (za c1 (za c2 (za hal (za hpl (za hw (za va (za vf hws))))))));refine zgo ?_;repeat' first|exact zt|apply zan|intro hc
  all_goals exact hL _ (k + 1) (Qd []) (by omega) (by omega) (by rw [hsu];exact Qh [] (by simp only [go_sem,zwl,frS]<;>exact zcc) (by simp only [go_sem,zwl,frS,fcE]<;>exact zcc) (by simp [frS,Qd]) (by simp [frS]) (by omega))
 rcases c3:(f0.kind == 8) with _|_
 rotate_left
 ·rw [c1,c2,c3] at hsu
  simp only [ZO,ZS,if_true] at hsu
  simp only [frS,fcE]
  (have zx:=za e1 (za c1 (za c2 (za c3 (za hal (za hpl (za hw (za va (za vf hws)))))))));refine zgo ?_;repeat' first|exact zt|apply zan|intro hc
  all_goals exact hL _ (k + 1) (Qd []) (by omega) (by omega) (by rw [hsu];exact Qh [] (by simp only [go_sem,zwl,frS]<;>exact zcc) (by simp only [go_sem,zwl,frS,fcE]<;>exact zcc) (by simp [frS,Qd]) (by simp [frS]) (by omega))
 rw [c1,c2,c3] at hsu
 simp only [ZT,zB,if_false] at hsu
 simp only [frS,fcE]
 (have zx:=za e1 (za c1 (za c2 (za c3 (za hal (za hpl (za hw (za va (za vf hws)))))))));refine zgo ?_;repeat' first|exact zt|apply zan|intro hc
 refine Qz (ι:=Nat) (fun j=>j≤e.finds.length) (fun j=>[(14,V.bool (!((e.finds.take j).any (yL l day age a f0)))),(15,V.int j)]) (fun j=>e.finds.length - j) 0 (by omega) (zG _) zol zlt (by simp only [Nat.reduceAdd,ovT,JE,Nat.reduceEqDiff,reduceIte,J3,YB,adI,u32,u33,u34,u35,u36,u37,u38,u39,and_self,and_true,true_and];first|exact ⟨rfl,rfl⟩|done|rfl) fun j hj K2 hL2=>?_
 simp only [ovT,JE,Nat.reduceEqDiff,reduceIte]
 by_cases hjl:j < e.finds.length
 ·have f1:decide ((j:Int) < (e.finds.length:Int)) = true:=by simp;omega
  have hwj:=Qg (k:=j) (by omega)
  obtain ⟨b,hbj⟩:∃ b,e.finds[j]? = some b:=⟨_,zd hjl⟩
  have vb:=J6 hbj
  obtain ⟨g0,hg0⟩:∃ g,l[b]? = some g:=⟨_,zd (hb b (zq hbj))⟩
  have vg:(l.map Qa.v)[b]? = some g0.v:=by rw [zi,hg0];rfl
  have p3:=(z2 g0).b
  have p4:=(z2 f0).b
  have p5:=(z3 l b a g0 f0 hg0 hf0).b
  have hq1:=arK (agQ g0) (agQ f0)
  have htk:(e.finds.take (j + 1)).any (yL l day age a f0) = ((e.finds.take j).any (yL l day age a f0) || yL l day age a f0 b):=by
   rw [zR,hbj,Option.toList_some,List.any_append];simp
  rw [yL,hg0] at htk
  simp only [aj3] at htk
  simp only [Qa.v] at vg p3 p4
  simp only [show g0.cells = [V.int g0.src,V.str g0.host,V.int g0.mach,V.int g0.day,V.int g0.conf,V.int g0.kind,V.str g0.subj,V.int g0.alg,V.int g0.bits,V.int g0.num,V.str g0.text] from rfl,show f0.cells = [V.int f0.src,V.str f0.host,V.int f0.mach,V.int f0.day,V.int f0.conf,V.int f0.kind,V.str f0.subj,V.int f0.alg,V.int f0.bits,V.int f0.num,V.str f0.text] from rfl] at vg p3 p4
  generalize (agQ g0).cells = q1 at *
  generalize (agQ f0).cells = q2 at *
  generalize decide (agQ g0 = agQ f0) = b3 at *
  generalize ahN b a g0 f0 = b4 at *
  generalize (e.finds.take j).any (yL l day age a f0) = b0 at *
  rcases b1:decide (g0.day≤day) with _|_
  ·rw [b1] at htk
   simp only [zE,ZT] at htk
   (have zx:=za f1 (za b1 (za hal (za hpl (za hwj (za vb (za vg (za vf hws))))))));refine zgo ?_;repeat' first|exact zt|apply zan|intro hc
   all_goals exact hL2 _ (j + 1) (by rw [htk];simp only [Nat.reduceAdd,ovT,JE,Nat.reduceEqDiff,reduceIte,J3,YB,adI,u32,u33,u34,u35,u36,u37,u38,u39,and_self,and_true,true_and]) (by omega) (by omega) zoe
  rcases b2:decide (g0.day≥day - age) with _|_
  ·rw [b1,b2] at htk
   simp only [zE,zO,ZT] at htk
   (have zx:=za f1 (za b1 (za b2 (za hal (za hpl (za hwj (za vb (za vg (za vf hws)))))))));refine zgo ?_;repeat' first|exact zt|apply zan|intro hc
   all_goals exact hL2 _ (j + 1) (by rw [htk];simp only [Nat.reduceAdd,ovT,JE,Nat.reduceEqDiff,reduceIte,J3,YB,adI,u32,u33,u34,u35,u36,u37,u38,u39,and_self,and_true,true_and]) (by omega) (by omega) zoe
  rcases b3 with _|_
  ·rw [b1,b2] at htk
   simp only [zE,zO,ZT,zH] at htk
   (have zx:=za f1 (za b1 (za b2 (za hq1 (za hal (za hpl (za hwj (za vb (za vg (za vf hws))))))))));refine zgo ?_;repeat' first|exact zt|apply zan|intro hc
   all_goals exact hL2 _ (j + 1) (by rw [htk];simp only [Nat.reduceAdd,ovT,JE,Nat.reduceEqDiff,reduceIte,J3,YB,adI,u32,u33,u34,u35,u36,u37,u38,u39,and_self,and_true,true_and]) (by omega) (by omega) zoe
  rcases b4 with _|_
  ·rw [b1,b2] at htk
   simp only [zE,zO,ZT,zH] at htk
   (have zx:=za f1 (za b1 (za b2 (za hq1 (za hal (za hpl (za hwj (za vb (za vg (za vf hws))))))))));refine zgo ?_;repeat' first|exact zt|apply zan|intro hc
   all_goals exact hL2 _ (j + 1) (by rw [htk];simp only [Nat.reduceAdd,ovT,JE,Nat.reduceEqDiff,reduceIte,J3,YB,adI,u32,u33,u34,u35,u36,u37,u38,u39,and_self,and_true,true_and]) (by omega) (by omega) zoe
  ·rw [b1,b2] at htk
   simp only [zX,ZO,zH] at htk
   repeat' (first|(refine zsk ?_;intro K' hK)|(refine zrg ?_;intro K' hK)|refine zsp ?_|(refine zsc ?_ ?_<;>intro hc<;>first|exact znh|try simp only [znz] at hc)|simp (maxSteps:=1000000) only [go_sem,f1,b1,b2,hq1,hal,hpl,hwj,vb,vg,vf,hws,Int.toNat_natCast]|(refine hK _ ?_;clear hK K')|apply zan|((first|apply Qr|apply Qy);(focus first|exact p3|exact p4|exact p5|exact (z0 _ zsd zsd zsd).b|exact (z1 _ _ zsd zsd zsd).b|exact (z2 _).b|exact (z3 _ _ _ _ _ zsd zsd).b|exact (z4 _ _ zsd zsd zsd).b|exact (z5 _ _ _ _ zsd).b|exact (z6 _ _).b))|exact zsq|fail)
   all_goals exact hL2 _ (j + 1) (by rw [htk];simp only [Nat.reduceAdd,ovT,JE,Nat.reduceEqDiff,reduceIte,J3,YB,adI,u32,u33,u34,u35,u36,u37,u38,u39,and_self,and_true,true_and];rfl) (by omega) (by omega) zoe
 have f1:decide ((j:Int) < (e.finds.length:Int)) = false:=by simp;omega
 obtain rfl:j = e.finds.length:=by omega
 rw [zQ]
 clear hL2
 have f2:decide (((e.finds.length:Nat):Int) < (e.finds.length:Int)) = false:=by simp
 generalize e.finds.any (yL l day age a f0) = bt at *
 rcases bt with _|_
 rotate_left
 ·simp only [if_true] at hsu
  repeat' (first|(refine zsk ?_;intro K' hK)|(refine zrg ?_;intro K' hK)|refine zsp ?_|(refine zsc ?_ ?_<;>intro hc<;>first|exact znh|try simp only [znz] at hc)|simp (maxSteps:=1000000) only [go_sem,f1,f2,hpl,hw]|(refine hK _ ?_;clear hK K')|apply zan|((first|apply Qr|apply Qy);(focus first|exact (z0 _ zsd zsd zsd).b|exact (z1 _ _ zsd zsd zsd).b|exact (z2 _).b|exact (z3 _ _ _ _ _ zsd zsd).b|exact (z4 _ _ zsd zsd zsd).b|exact (z5 _ _ _ _ zsd).b|exact (z6 _ _).b))|exact zsq|fail)
  all_goals exact hL _ (k + 1) (Qd []) (by omega) (by omega) (by rw [hsu];exact Qh [] (by simp only [go_sem,zwl,frS]<;>exact zcc) (by simp only [go_sem,zwl,frS,fcE]<;>exact zcc) (by simp [frS,Qd]) (by simp [frS]) (by omega))
 simp only [zB,if_false] at hsu
 have p6:=(z4 e.finds k hk' hnd (by omega)).b
 have p7:=(z5 l e.num a f0 hf0).b
 have hoL:(out.map Qe.v).length = out.length:=zb _
 have htl:List.take out.length (out.map Qe.v) = out.map Qe.v:=zl (by simp)
 simp only [Qe.v,JC,Qe.cells] at p7
 repeat' (first|(refine zsk ?_;intro K' hK)|(refine zrg ?_;intro K' hK)|refine zsp ?_|(refine zsc ?_ ?_<;>intro hc<;>first|exact znh|try simp only [znz] at hc)|simp (maxSteps:=1000000) only [go_sem,f1,f2,hpl,hoL,htl]|(refine hK _ ?_;clear hK K')|apply zan|((first|apply Qr|apply Qy);(focus first|exact p6|exact p7|exact (z0 _ zsd zsd zsd).b|exact (z1 _ _ zsd zsd zsd).b|exact (z2 _).b|exact (z3 _ _ _ _ _ zsd zsd).b|exact (z4 _ _ zsd zsd zsd).b|exact (z5 _ _ _ _ zsd).b|exact (z6 _ _).b))|exact zsq|fail)
 refine Qz (ι:=Nat) (fun j=>j≤out.length∧aky out (JC e.num a f0) j = aky out (JC e.num a f0) out.length) (fun j=>[(18,V.int j)]) (fun j=>j) out.length (by omega) ⟨zh _,rfl⟩ zol zlt zet fun j hj K2 hL2=>?_
 obtain ⟨hj,hinv⟩:=hj
 simp only [ovT,JE,Nat.reduceEqDiff,reduceIte]
 rcases j with _|j
 ·have g1:decide (((0:Nat):Int) > 0) = false:=by decide
  rw [aky] at hinv
  have hin:amQ out (JC e.num a f0) = JC e.num a f0 :: out:=by rw [amQ,← hinv];rfl
  rw [hin] at hsu
  clear hL2
  have hlen:(JC e.num a f0 :: out).length = 1 + out.length:=by simp;omega
  have hmp:(JC e.num a f0 :: out).map Qe.v = (JC e.num a f0).v :: out.map Qe.v:=rfl
  simp only [Qe.v,JC,Qe.cells] at hmp
  repeat' (first|(refine zsk ?_;intro K' hK)|(refine zrg ?_;intro K' hK)|refine zsp ?_|(refine zsc ?_ ?_<;>intro hc<;>first|exact znh|try simp only [znz] at hc)|simp (maxSteps:=1000000) only [go_sem,g1,hoL,htl,hw,Nat.sub_zero,Int.toNat_natCast]|(refine hK _ ?_;clear hK K')|apply zan|((first|apply Qr|apply Qy);(focus first|exact (z0 _ zsd zsd zsd).b|exact (z1 _ _ zsd zsd zsd).b|exact (z2 _).b|exact (z3 _ _ _ _ _ zsd zsd).b|exact (z4 _ _ zsd zsd zsd).b|exact (z5 _ _ _ _ zsd).b|exact (z6 _ _).b))|exact zsq|fail)
  all_goals first|(intro z hz;obtain ⟨w,_,rfl⟩:=zD.1 hz;rfl)|(intro z hz;obtain ⟨w,_,rfl⟩:=zD.1 (zF hz);rfl)|(intro z hz;obtain ⟨w,_,rfl⟩:=zD.1 (zJ hz);rfl)|(intro z hz;obtain ⟨w,_,rfl⟩:=zD.1 (zJ (zF hz));rfl)|(intro z hz;obtain ⟨w,_,rfl⟩:=zD.1 (zF (zJ hz));rfl)|(simp only [zv,zT,kq,zb,List.length_cons,List.length_nil];omega)|exact hL _ (k + 1) (Qd [(0,0),(1,84002)]) (by omega) (by omega) (by rw [hsu];exact Qh [(0,0),(1,84002)] (by simp only [go_sem,zwl,frS,hlen,hmp,JC,Qe.v,Qe.cells,zN,List.length_cons,Nat.add_comm]<;>exact zcc) (by simp only [go_sem,zwl,frS,fcE,hlen,hmp,JC,Qe.v,Qe.cells,zN,List.length_cons,Nat.add_comm]<;>exact zcc) (by simp [frS,Qd]) (by simp [frS];omega) (by omega))
 have g1:decide (((j + 1:Nat):Int) > 0) = true:=zo (by omega)
 have hwk:IntKind.i64.wrap (((j + 1:Nat):Int) - 1) = (j:Int):=by rw [QP (by omega) (by omega)];omega
 obtain ⟨y,hy⟩:∃ y,out[j]? = some y:=⟨_,zd (by omega)⟩
 have vy:(out.map Qe.v)[j]? = some y.v:=by rw [zi,hy];rfl
 have p8:=(z6 (JC e.num a f0) y).b
 rw [aky,hy] at hinv
 simp only at hinv
 simp only [Qe.v,JC,Qe.cells] at vy p8
 rcases c5:ac8 (JC e.num a f0) y with _|_
 rotate_left
 ·rw [c5] at hinv
  simp only [JC] at c5
  rw [c5] at p8
  simp only [if_true] at hinv
  repeat' (first|(refine zsk ?_;intro K' hK)|(refine zrg ?_;intro K' hK)|refine zsp ?_|(refine zsc ?_ ?_<;>intro hc<;>first|exact znh|try simp only [znz] at hc)|simp (maxSteps:=1000000) only [go_sem,g1,hwk,vy,hoL,hpl,Int.toNat_natCast]|(refine hK _ ?_;clear hK K')|apply zan|((first|apply Qr|apply Qy);(focus first|exact p8|exact (z0 _ zsd zsd zsd).b|exact (z1 _ _ zsd zsd zsd).b|exact (z2 _).b|exact (z3 _ _ _ _ _ zsd zsd).b|exact (z4 _ _ zsd zsd zsd).b|exact (z5 _ _ _ _ zsd).b|exact (z6 _ _).b))|exact zsq|fail)
  all_goals exact hL2 _ j zet ⟨by omega,hinv⟩ (by omega) zoe
 rw [c5] at hinv
 simp only [zB,if_false] at hinv
 have hin:amQ out (JC e.num a f0) = out.take (j + 1)++JC e.num a f0 :: out.drop (j + 1):=by rw [amQ,← hinv]
 rw [hin] at hsu
 simp only [JC] at c5
 rw [c5] at p8
 clear hL2
 have ltk:(List.take (j + 1) (out.map Qe.v)).length = j + 1:=by rw [zT];simp;omega
 have ld:(List.drop (j + 1) (out.map Qe.v)).length = out.length - (j + 1):=by rw [kq];simp
 have tt:List.take (out.length - (j + 1)) (List.drop (j + 1) (out.map Qe.v)) = List.drop (j + 1) (out.map Qe.v):=zl (by rw [ld];exact zh _)
 have ttk:List.take (j + 1) (List.take (j + 1) (out.map Qe.v)) = List.take (j + 1) (out.map Qe.v):=zl (by rw [ltk];exact zh _)
 have tx:∀ z:V,List.take (j + 1 + 1) (List.take (j + 1) (out.map Qe.v)++[z]) = List.take (j + 1) (out.map Qe.v)++[z]:=fun z=>zl (by rw [zv,ltk];exact zh _)
 have hlen2:(List.take (j + 1) out++JC e.num a f0 :: List.drop (j + 1) out).length = j + 1 + 1 + (out.length - (j + 1)):=by simp;omega
 have hmp2:(List.take (j + 1) out++JC e.num a f0 :: List.drop (j + 1) out).map Qe.v = List.take (j + 1) (out.map Qe.v)++[(JC e.num a f0).v]++List.drop (j + 1) (out.map Qe.v):=by simp [kp,ku]
 simp only [show (JC e.num a f0).v = V.agg [V.int e.num,V.str f0.subj,V.int f0.kind,V.int f0.alg,V.int f0.bits,V.int f0.num,V.str f0.text,V.int a] from rfl] at hmp2
 generalize hxs:List.take (j + 1) out++JC e.num a f0 :: List.drop (j + 1) out = xs at *
 repeat' (first|(refine zsk ?_;intro K' hK)|(refine zrg ?_;intro K' hK)|refine zsp ?_|(refine zsc ?_ ?_<;>intro hc<;>first|exact znh|try simp only [znz] at hc)|simp (maxSteps:=1000000) only [go_sem,g1,hwk,vy,hoL,htl,hw,ltk,ld,tt,ttk,tx,Nat.sub_zero,Int.toNat_natCast]|(refine hK _ ?_;clear hK K')|apply zan|((first|apply Qr|apply Qy);(focus first|exact p8|exact (z0 _ zsd zsd zsd).b|exact (z1 _ _ zsd zsd zsd).b|exact (z2 _).b|exact (z3 _ _ _ _ _ zsd zsd).b|exact (z4 _ _ zsd zsd zsd).b|exact (z5 _ _ _ _ zsd).b|exact (z6 _ _).b))|exact zsq|fail)
 all_goals first|(intro z hz;obtain ⟨w,_,rfl⟩:=zD.1 hz;rfl)|(intro z hz;obtain ⟨w,_,rfl⟩:=zD.1 (zF hz);rfl)|(intro z hz;obtain ⟨w,_,rfl⟩:=zD.1 (zJ hz);rfl)|(intro z hz;obtain ⟨w,_,rfl⟩:=zD.1 (zJ (zF hz));rfl)|(intro z hz;obtain ⟨w,_,rfl⟩:=zD.1 (zF (zJ hz));rfl)|(simp only [zv,zT,kq,zb,List.length_cons,List.length_nil];omega)|exact hL _ (k + 1) (Qd [(0,0),(1,84002)]) (by omega) (by omega) (by rw [hsu];exact Qh [(0,0),(1,84002)] (by simp only [go_sem,zwl,frS,hlen2,ltk,ld]<;>exact zcc) (by simp only [go_sem,zwl,frS,fcE,hmp2]<;>exact zcc) (by simp [frS,Qd]) (by simp [frS];omega) (by omega))
end Av
end
