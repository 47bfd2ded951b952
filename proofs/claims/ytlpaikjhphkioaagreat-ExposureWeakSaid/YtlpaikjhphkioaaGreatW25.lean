/- W25 -/
import Derived.Test.YtlpaikjhphkioaaGreatW21
import Derived.Test.YtlpaikjhphkioaaGreatW12
import Derived.Test.YtlpaikjhphkioaaGreatW19
import Derived.Test.YtlpaikjhphkioaaGreatW18
import Derived.Test.YtlpaikjhphkioaaGreatW13
import Derived.Test.YtlpaikjhphkioaaGreatW24
import Derived.Test.YtlpaikjhphkioaaGreatW22
set_option linter.unusedVariables false
set_option linter.unusedSimpArgs false
noncomputable section
set_option maxRecDepth 10000
set_option maxHeartbeats 4000000
namespace Av
open Go
attribute [local irreducible] AWp Vy K7 jE awS awC aaG awQ abg QW Uc vZ awR Uj awB okR jt ris
structure aee where
 name:List UInt8
 least:Int
 most:Int
 suites:List Int
 own:Bool
 fall:Bool
def aee.cells (d:aee):List V:=[V.str d.name,V.int d.least,V.int d.most,.sl 1 (d.suites.map V.int),V.bool d.own,.sc (.slice none 0 0),.sc (.slice none 0 0),.sc (.slice none 0 0),V.bool d.fall,.sc (.slice none 0 0)]
theorem aee.cells_closed (d:aee):Qc d.cells:=by simp [aee.cells,V.closed,Qc]
theorem ab5 {α:Type} (p:α→Bool):∀ (xs:List α) (k:Nat),decide (yF p k xs≥0) = xs.any p
 | [],k=>by simp [yF]
 | x :: r,k=>by
   have ih:=ab5 p r (k + 1)
   rw [yF,List.any_cons]
   by_cases h:p x = true
   ·rw [if_pos h,h];simp
   ·have h2:p x = false:=by simpa using h
    rw [if_neg h,h2,ih];rfl
structure aqz where
 sec:List UInt8
 name:List UInt8
 val:List UInt8
 line:Int
def aqz.cells (x:aqz):List V:=[V.str x.sec,V.str x.name,V.str x.val,V.int x.line]
def aqz.v (x:aqz):V:=.agg x.cells
abbrev WS:=List (List UInt8)
def jS (x:List UInt8):Nat→WS→Int
 | _,[]=>-1
 | k,y :: r=>if x = y then k else jS x (k + 1) r
def Jh:=qd Proofs.Tryz.f71 []
def JI (Γ:Env) (f:Nat):Prop:=∀ (l:WS) (x:List UInt8) (hl:l.length < 2 ^ 62),EvN Γ f [.sl 1 (l.map V.str),V.str x] (V.int (jS x 0 l))
theorem VG {Γ:Env} {f:Nat} (h:Has Γ.P f 19 Jh.1.1.ac Jh.1.2) :JI Γ f:=by
 intro l x hl
 refine Qb h zsi zcl zcl fun C hC hm=>?_
 subst hC
 simp only [Jh,qd,DC.ac]
 refine zgo ?_;repeat' first|exact zt|apply zan|intro hc
 refine Qz (ι:=Nat) (fun k=>k≤l.length∧jS x k (l.drop k) = jS x 0 l) (fun k=>[(8,V.int k)]) (fun k=>l.length - k) 0 (by omega) ⟨by simp,by simp⟩ zol zlt zet fun k hk K' hL=>?_
 obtain ⟨hk,hinv⟩:=hk
 simp only [ovT,JE,Nat.reduceEqDiff,reduceIte]
 rcases hd:l.drop k with _|⟨y,r⟩
 ·have:=Qt hd
  rw [hd] at hinv
  refine zgo ?_;repeat' first|exact zt|apply zan|intro hc
  refine Ql _ rfl ?_
  simp only [go_sem]
  rw [← hinv];rfl
 ·obtain ⟨hk,hget,hr⟩:=Qm hd
  rw [hd] at hinv
  have hw:=Qg (k:=k) (by omega)
  (have zx:=za hget hw);refine zgo ?_;repeat' first|exact zt|apply zan|intro hc
  ·refine Ql _ rfl ?_
   simp only [go_sem]
   rw [← hinv];simp [jS,hc]
  ·refine hL _ (k + 1) zet ⟨by omega,?_⟩ (by omega) (fun a ha=>rfl)
   rw [hr,← hinv];simp [jS,hc]
def QM:=qd Proofs.Tryz.f98 []
def Jb (Γ:Env) (f:Nat):Prop:=∀ (xs:List Qe) (g:Nat) (cap:List V) (p:Qe→Bool) (hp:∀ x∈xs,EvN Γ g (Qe.v x :: cap) (V.bool (p x))) (hcap:Qc cap) (hl:xs.length < 2 ^ 62),EvN Γ f [.sl 8 (xs.map Qe.v),.clo g cap] (V.int (yF p 0 xs))
attribute [local go_sem] Qe.cells Qe.v in
theorem Xb {Γ:Env} {f:Nat} (h:Has Γ.P f 19 QM.1.1.ac QM.1.2) :Jb Γ f:=by
 intro xs g cap p hp hcap hl
 refine Qb h zsi zcl zcl fun C hC hm=>?_
 subst hC
 simp only [QM,qd,DC.ac]
 have s1:∀ o,JP o cap = cap:=fun o=>Yf o cap hcap
 have s2:∀ o B,Qq o B cap = True:=fun o B=>eq_true (JK o B cap hcap)
 refine zgo ?_;repeat' first|exact zt|apply zan|intro hc
 refine Qz (ι:=Nat) (fun k=>k≤xs.length∧yF p k (xs.drop k) = yF p 0 xs) (fun k=>[(8,V.int k)]) (fun k=>xs.length - k) 0 (by omega) ⟨by simp,by simp⟩ zol (fun i hi=>by simp only [ovT,JE,Nat.reduceEqDiff,reduceIte];(repeat' first|exact ahj|refine aeq ?_ ?_|simp only [V.lt,ltL,and_self,and_true]|omega);exact Yw _ _ hcap) (by simp only [Nat.reduceAdd,ovT,JE,Nat.reduceEqDiff,reduceIte,J3,YB,adI,u32,u33,u34,u35,u36,u37,u38,u39,and_self,and_true,true_and];first|rfl|exact Q8 _ _ hcap) fun k hk K' hL=>?_
 obtain ⟨hk,hinv⟩:=hk
 simp only [ovT,JE,Nat.reduceEqDiff,reduceIte]
 rcases hd:xs.drop k with _|⟨y,r⟩
 ·have:=Qt hd
  rw [hd] at hinv
  have e1:decide ((k:Int) < (((xs.map Qe.v).length:Nat):Int)) = false:=by simp;omega
  (have zx:=e1);refine zgo ?_;repeat' first|exact zt|apply zan|intro hc
  refine Ql _ rfl ?_
  simp only [go_sem]
  rw [← hinv];rfl
 ·obtain ⟨hk,hget,hr⟩:=Qm hd
  rw [hd] at hinv
  have hw:=Qg (k:=k) (by omega)
  have e1:decide ((k:Int) < (((xs.map Qe.v).length:Nat):Int)) = true:=by simp;omega
  have hpy:=hp y (zq hget)
  by_cases hy:p y = true
  ·rw [hy] at hpy
   (have zy0:=hpy.b;have zx:=za hget (za hw (za e1 (za s1 s2))));refine zgo ?_;repeat' first|exact zt|apply zan|intro hc
   refine Ql _ rfl ?_;simp only [go_sem]
   rw [← hinv];simp [yF,hy]
  ·have hy':p y = false:=by simpa using hy
   rw [hy'] at hpy
   (have zy0:=hpy.b;have zx:=za hget (za hw (za e1 (za s1 s2))));refine zgo ?_;repeat' first|exact zt|apply zan|intro hc
   refine hL _ (k + 1) zet ⟨by omega,?_⟩ (by omega) zoe
   rw [hr,← hinv,yF,if_neg hy]
def QC:=qd Proofs.Tryz.f72 []
def QZ (Γ:Env) (f:Nat):Prop:=∀ (xs:List Qe) (g:Nat) (cap:List V) (p:Qe→Bool) (hp:∀ x∈xs,EvN Γ g (Qe.v x :: cap) (V.bool (p x))) (hcap:Qc cap) (hl:xs.length < 2 ^ 62),EvN Γ f [.sl 8 (xs.map Qe.v),.clo g cap] (V.bool (xs.any p))
theorem YO {Γ:Env} {f:Nat} (h:Has Γ.P f 9 QC.1.1.ac QC.1.2) (z0:Jb Γ 98):QZ Γ f:=by
 intro xs g cap p hp hcap hl
 refine Qb h zsi zcl zcl fun C hC hm=>?_
 subst hC
 simp only [QC,qd,DC.ac]
 have s1:∀ o,JP o cap = cap:=fun o=>Yf o cap hcap
 have s2:∀ o B,Qq o B cap = True:=fun o B=>eq_true (JK o B cap hcap)
 have hi:=(z0 xs g cap p hp hcap hl).b
 have e1:=ab5 p xs 0
 (have zx:=za s1 (za s2 e1));exact zg
theorem ad0 (x:List UInt8):∀ (l:List (List UInt8)) (k:Nat),jS x k l = yF (fun y=>decide (x = y)) k l
 | [],_=>rfl
 | y :: r,k=>by
   rw [jS,yF,ad0 x r]
   by_cases h:x = y<;>simp [h]
def Q1:=qd Proofs.Tryz.f35 []
def Jo (Γ:Env) (f:Nat):Prop:=∀ (l:List (List UInt8)) (x:List UInt8) (hl:l.length < 2 ^ 62),EvN Γ f [.sl 1 (l.map V.str),V.str x] (V.bool (l.any fun y=>decide (x = y)))
theorem WF {Γ:Env} {f:Nat} (h:Has Γ.P f 9 Q1.1.1.ac Q1.1.2) (z0:JI Γ 71):Jo Γ f:=by
 intro l x hl
 refine Qb h zsi zcl zcl fun C hC hm=>?_
 subst hC
 simp only [Q1,qd,DC.ac]
 have hi:=(z0 l x hl).b
 rw [ad0] at hi
 have e1:=ab5 (fun y=>decide (x = y)) l 0
 (have zx:=e1);exact zg
def afA (f x:Qe):Bool:=x.subj == f.subj && (x.kind == f.kind && ((x.alg == f.alg && x.bits == f.bits) && x.num == f.num))
def XD:=qd Proofs.Tryz.f73 []
def Vt (Γ:Env) (f:Nat):Prop:=∀ (x f0:Qe),EvN Γ f [x.v,.ro f0.cells 0] (V.bool (afA f0 x))
theorem wv {Γ:Env} {f:Nat} (h:Has Γ.P f 30 XD.1.1.ac XD.1.2) :Vt Γ f:=by
 intro x f0
 refine Qb h zsi zcl zcl fun C hC hm=>?_
 subst hC
 simp only [XD,qd,DC.ac]
 obtain ⟨a1,a2,a3,a4,a5,a6,a7,a8⟩:=x
 obtain ⟨b1,b2,b3,b4,b5,b6,b7,b8⟩:=f0
 simp only [afA,Qe.v,Qe.cells]
 rcases c1:a2 == b2 with _|_<;>rcases c2:a3 == b3 with _|_<;>rcases c3:a4 == b4 with _|_<;>rcases c4:a5 == b5 with _|_<;>rcases c5:a6 == b6 with _|_
 all_goals
  (have zx:=za c1 (za c2 (za c3 (za c4 c5))));exact zg
def WZ:=qd Proofs.Tryz.f36 []
def Uv (Γ:Env) (f:Nat):Prop:=∀ (l:List Qe) (f0:Qe) (hl:l.length < 2 ^ 62),EvN Γ f [.sl 8 (l.map Qe.v),f0.v] (V.bool (l.any (afA f0)))
theorem aa8 {Γ:Env} {f:Nat} (h:Has Γ.P f 8 WZ.1.1.ac WZ.1.2) (z0:Vt Γ 73) (z1:QZ Γ 72):Uv Γ f:=by
 intro l f0 hl
 refine Qb h zsi zcl zcl fun C hC hm=>?_
 subst hC
 simp only [WZ,qd,DC.ac]
 have hi:=(z1 l 73 [.ro f0.cells 0] (afA f0) (fun x _=>z0 x f0) (by simp only [Qe.cells,V.closed,Qc,and_self]) hl).b
 simp only [Qe.v,Qe.cells] at hi ⊢
 exact zg
theorem vM (l:List Qa) (num:Int) (fs:List Nat) (day age:Int):(Y8 l num fs day age).length≤fs.length:=by
 have hok:=vW l day age fs fs.length (zh _)
 rw [zQ] at hok
 rw [Y8,ab7]
 have h1:=List.length_filterMap_le (UD l num) (ac3 l day age fs).2
 have h2:=hok.len
 have h3:=hok.le
 omega
def Jc (l:List Qa) (fs:List Nat):List Qa:=fs.filterMap fun i=>l[i]?
theorem vX {l:List Qa}:∀ {fs:List Nat},(∀ i∈fs,i < l.length)→(Jc l fs).length = fs.length
 | [],_=>rfl
 | i :: r,h=>by
   have ih:=vX (fs:=r) fun j hj=>h j (kR _ hj)
   have hi:=h i kQ
   rw [Jc,List.filterMap_cons,zd hi,List.length_cons,List.length_cons]
   rw [Jc] at ih
   omega
def chS (l:List Qa) (fs:List Nat) (k:Nat):St:=Jk [(0,.sl 11 (l.map Qa.v)),(5,.hd 0 0 k),(8,.sl 1 (Qv fs)),(9,V.int fs.length),(10,V.int k)] [(0,.buf true 11 ((Jc l (fs.take k)).map Qa.v))] 1
def XE:=qd Proofs.Tryz.f41 []
def Vu (Γ:Env) (f:Nat):Prop:=∀ (l:List Qa) (fs:List Nat) (hb:∀ i∈fs,i < l.length) (hn:fs.length < 2 ^ 30),EvW Γ f [.sl 11 (l.map Qa.v),.sl 1 (Qv fs)] 11 ((Jc l fs).map Qa.v)
theorem ww {Γ:Env} {f:Nat} (h:Has Γ.P f 23 XE.1.1.ac XE.1.2) :Vu Γ f:=by
 intro l fs hb hn
 refine Xc h (by simp) (by first|exact ab2 _|exact abB _|(intro x hx;obtain ⟨y,_,rfl⟩:=zD.1 hx;simp only [Qa.v,Qa.cells,V.noSl,UB,and_self])) fun C hC hm=>?_
 subst hC
 simp only [XE,qd,DC.ac]
 have hpc:(Qv fs).length = fs.length:=zb _
 repeat' (first|(refine zsk ?_;intro K' hK)|refine zsp ?_|(refine zsc ?_ ?_<;>intro hc<;>first|exact znh|try simp only [znz] at hc)|simp (maxSteps:=1000000) only [go_sem,hpc]|(refine hK _ ?_;clear hK K')|apply zan|exact zsq|fail)
 refine Qp (ι:=Nat) (fun k=>k≤fs.length) (fun k=>chS l fs k) (fun k=>fs.length - k) 0 (zG _) (Qd [(0,1000)]) (Qh [(0,1000)] (by simp only [go_sem,zwl,chS,zb]<;>exact zcc) (by simp only [go_sem,zwl,chS,Jc,List.take_zero,List.filterMap_nil,zL]<;>exact zcc) (by simp [chS,Qd]) (by simp [chS];omega) (by omega)) fun k hk K' hL=>?_
 have hck:=vX (l:=l) (fs:=fs.take k) fun i hi=>hb i (zF hi)
 rw [zT,kJ hk] at hck
 rcases hdr:fs.drop k with _|⟨i,r⟩
 ·have hkl:=Qt hdr
  have e1:decide ((k:Int) < (fs.length:Int)) = false:=by simp;omega
  obtain rfl:k = fs.length:=by omega
  have htk:fs.take fs.length = fs:=zQ
  simp only [chS,htk] at hck ⊢
  have htl:List.take fs.length ((Jc l fs).map Qa.v) = (Jc l fs).map Qa.v:=zl (by simp;omega)
  repeat' (first|(refine zsk ?_;intro K' hK)|refine zsp ?_|(refine zsc ?_ ?_<;>intro hc<;>first|exact znh|try simp only [znz] at hc)|simp (maxSteps:=1000000) only [go_sem,Jk,e1]|(refine hK _ ?_;clear hK K')|apply zan|exact zsq|fail)
  have hcl:fs.length = ((Jc l fs).map Qa.v).length:=by rw [zb,hck]
  all_goals first|(refine qH (xs:=(Jc l fs).map Qa.v) _ _ rfl ?_ ?_<;>first|exact hcl|exact hcl.symm|rfl|(simp;done))
 obtain ⟨hk',hget,hr⟩:=Qm hdr
 have hw:=Qg (k:=k) (by omega)
 have e1:decide ((k:Int) < (fs.length:Int)) = true:=by simp;omega
 obtain ⟨f,hf⟩:∃ f,l[i]? = some f:=⟨_,zd (hb i (zq hget))⟩
 have hvi:=J6 hget
 have vf:(l.map Qa.v)[i]? = some f.v:=by rw [zi,hf];rfl
 have hnx:Jc l (fs.take (k + 1)) = Jc l (fs.take k)++[f]:=by
  rw [Jc,zR,hget,List.filterMap_append]
  simp [Jc,hf]
 simp only [chS]
 generalize Jc l (fs.take k) = out at *
 have hol:(out.map Qa.v).length = k:=by rw [zb,hck]
 have htl:List.take k (out.map Qa.v) = out.map Qa.v:=zl (by omega)
 simp only [Qa.v,Qa.cells] at vf
 repeat' (first|(refine zsk ?_;intro K' hK)|refine zsp ?_|(refine zsc ?_ ?_<;>intro hc<;>first|exact znh|try simp only [znz] at hc)|simp (maxSteps:=1000000) only [go_sem,Jk,e1,hw,hvi,vf,hol,htl,Int.toNat_natCast,zb]|(refine hK _ ?_;clear hK K')|apply zan|exact zsq|fail)
 all_goals exact hL _ (k + 1) (Qd [(0,10001)]) (by omega) (by omega) (Qh [(0,10001)] (by simp only [go_sem,zwl,chS,zb]<;>exact zcc) (by simp only [go_sem,zwl,chS,hnx,kz,zN,zL,Qa.v,Qa.cells]<;>exact zcc) (by simp [chS,Qd]) (by simp [chS];omega) (by omega))
def ahq (l:List Qa) (day age:Int) (f:Qe) (e:QR):Bool:=(f.text == [] || e.hosts.any fun y=>decide (f.text = y)) && (Y8 l e.num e.finds day age).any (afA f)
def qF (l:List Qa) (gap day age:Int) (f:Qe):Bool:=(JJ l gap).any (ahq l day age f)
def xU (l:List Qa) (gap day age:Int) (f:Qe):V:=if Yk l gap day age = 0 then .tup [V.bool (qF l gap day age f),V.int 0] else .tup [V.bool false,V.int (Yk l gap day age)]
def hoS (l:List Qa) (gap day age:Int) (f:Qe) (k:Nat):St:=Jk [(9,.ptr 0 0),(13,.sl 1 ((Q5 l gap day age).map fcv)),(29,.sl 4 ((JJ l gap).map QR.v)),(30,V.int (JJ l gap).length),(31,V.int k)] [(0,.box true f.cells)] 1
def X8:=qd Proofs.Tryz.f16 [zhn 18]
def XN (Γ:Env) (f:Nat):Prop:=∀ (l:List Qa) (gap day age:Int) (f0:Qe) (hl:l.length < 2 ^ 30) (hz:∀ x∈l,x.Sz),EvN Γ f [.sl 11 (l.map Qa.v),V.int gap,V.int day,V.int age,f0.v] (xU l gap day age f0)
attribute [local go_sem] Jk in
theorem vU {Γ:Env} {f:Nat} (h:Has Γ.P f 55 X8.1.1.ac X8.1.2) (z0:XM Γ 29) (z1:Jo Γ 35) (z2:Uv Γ 36):XN Γ f:=by
 intro l gap day age f0 hl hz
 refine Qb h zsi (by unfold xU;split<;>simp only [V.closed,Qc,V.noSl,UB,and_self]) (by unfold xU;split<;>simp only [V.closed,Qc,V.noSl,UB,and_self]) fun C hC hm=>?_
 subst hC
 simp only [X8,qd,DC.ac]
 have g0:=(z0 l gap day age hl hz).b
 by_cases hE:Yk l gap day age = 0
 rotate_left
 ·rw [xU,if_neg hE]
  rw [xZ,if_neg hE] at g0
  have e01:(Yk l gap day age != 0) = true:=by simpa using hE
  generalize Yk l gap day age = er at *
  simp only [Qe.v,Qe.cells]
  (have zx:=e01);exact zg
 rw [xU,if_pos hE]
 rw [xZ,if_pos hE] at g0
 have e00:((0:Int) != 0) = false:=by decide
 have hel:((JJ l gap).map QR.v).length = (JJ l gap).length:=zb _
 have hok:=fun e (he:e∈JJ l gap)=>acx he
 have hen:=wD l gap
 have hfl:(Q5 l gap day age).length = (JJ l gap).length:=zb _
 simp only [Qe.v,Qe.cells]
 (have zx:=za e00 hel);refine zgo ?_;repeat' first|exact zt|apply zan|intro hc
 refine Qp (ι:=Nat) (fun k=>k≤(JJ l gap).length∧((JJ l gap).take k).any (ahq l day age f0) = false) (fun k=>hoS l gap day age f0 k) (fun k=>(JJ l gap).length - k) 0 ⟨zG _,rfl⟩ (Qd []) (Qh [] (by simp only [go_sem,zwl,hoS,zb]<;>exact zcc) (by simp only [go_sem,zwl,hoS,Qe.cells]<;>exact zcc) (by simp [hoS,Qd]) (by simp [hoS]) (by omega)) fun k hk K' hL=>?_
 obtain ⟨hk,hno⟩:=hk
 rcases hdr:(JJ l gap).drop k with _|⟨e,r⟩
 ·have hkl:=Qt hdr
  have e1:decide ((k:Int) < ((JJ l gap).length:Int)) = false:=by simp;omega
  rw [zl hkl] at hno
  rw [qF,hno]
  simp only [hoS]
  (have zx:=e1);exact zg
 obtain ⟨hk',hget,hr⟩:=Qm hdr
 have hw:=Qg (k:=k) (by omega)
 have e1:decide ((k:Int) < ((JJ l gap).length:Int)) = true:=by simp;omega
 obtain ⟨o1,o2,o3,o4⟩:=hok e (zq hget)
 have hfs:=vM l e.num e.finds day age
 have p1:=(z2 (Y8 l e.num e.finds day age) f0 (by omega)).b
 have p2:=(z1 e.hosts f0.text (by omega)).b
 have vx:((JJ l gap).map QR.v)[k]? = some e.v:=by rw [zi,hget];rfl
 have vf:((Q5 l gap day age).map fcv)[k]? = some (.sl 8 ((Y8 l e.num e.finds day age).map Qe.v)):=by rw [zi,Q5,zi,hget];rfl
 have hnx:ahq l day age f0 e = false→((JJ l gap).take (k + 1)).any (ahq l day age f0) = false:=fun h=>by
  rw [zR,hget,List.any_append,hno];simp [h]
 have hys:ahq l day age f0 e = true→qF l gap day age f0 = true:=fun h=>Zp.2 ⟨e,zq hget,h⟩
 rw [ahq] at hnx hys
 simp only [hoS,Qe.cells]
 simp only [QR.v,Qe.v,Qe.cells] at vx p1
 rcases c1:(f0.text == []) with _|_
 ·rcases c2:(e.hosts.any fun y=>decide (f0.text = y)) with _|_
  ·rw [c1,c2] at hnx
   rw [c2] at p2
   (have zx:=za e1 (za hw (za c1 (za vx vf))));refine zgo ?_;repeat' first|exact zt|apply zan|intro hc
   all_goals exact hL _ (k + 1) (Qd []) ⟨by omega,hnx rfl⟩ (by omega) (Qh [] (by simp only [go_sem,zwl,hoS,zb]<;>exact zcc) (by simp only [go_sem,zwl,hoS,Qe.cells]<;>exact zcc) (by simp [hoS,Qd]) (by simp [hoS]) (by omega))
  ·rw [c1,c2] at hnx hys
   rw [c2] at p2
   rcases c3:((Y8 l e.num e.finds day age).any (afA f0)) with _|_
   ·rw [c3] at hnx p1
    (have zx:=za e1 (za hw (za c1 (za vx vf))));refine zgo ?_;repeat' first|exact zt|apply zan|intro hc
    all_goals exact hL _ (k + 1) (Qd []) ⟨by omega,hnx rfl⟩ (by omega) (Qh [] (by simp only [go_sem,zwl,hoS,zb]<;>exact zcc) (by simp only [go_sem,zwl,hoS,Qe.cells]<;>exact zcc) (by simp [hoS,Qd]) (by simp [hoS]) (by omega))
   ·rw [c3] at hys p1
    rw [hys rfl]
    (have zx:=za e1 (za hw (za c1 (za vx vf))));exact zg
 ·rw [c1] at hnx hys
  rcases c3:((Y8 l e.num e.finds day age).any (afA f0)) with _|_
  ·rw [c3] at hnx p1
   (have zx:=za e1 (za hw (za c1 (za vx vf))));refine zgo ?_;repeat' first|exact zt|apply zan|intro hc
   all_goals exact hL _ (k + 1) (Qd []) ⟨by omega,hnx rfl⟩ (by omega) (Qh [] (by simp only [go_sem,zwl,hoS,zb]<;>exact zcc) (by simp only [go_sem,zwl,hoS,Qe.cells]<;>exact zcc) (by simp [hoS,Qd]) (by simp [hoS]) (by omega))
  ·rw [c3] at hys p1
   rw [hys rfl]
   (have zx:=za e1 (za hw (za c1 (za vx vf))));exact zg
def aqW (a b id:Int) (l:List v7):Bool:=match l with|[]=>true|c :: _=>((c.kalg == a && c.kbits == b) && (c.kid == id))
def aqH (a b id:Int) (l:List v7):Bool:=aoc a b 2 && (aqS id && (decide ((l.length:Int)≤8) && (l.all aq9 && aqW a b id l)))
end Av
end
