/- K26 -/
import Derived.Test.YtlpaikjhphkioaaGreatK19
import Derived.Test.YtlpaikjhphkioaaGreatK18
import Derived.Test.YtlpaikjhphkioaaGreatK13
import Derived.Test.YtlpaikjhphkioaaGreatK12
import Derived.Test.YtlpaikjhphkioaaGreatK25
import Derived.Test.YtlpaikjhphkioaaGreatK22
set_option linter.unusedVariables false
set_option linter.unusedSimpArgs false
noncomputable section
set_option maxRecDepth 10000
set_option maxHeartbeats 4000000
namespace Av
open Go
attribute [local irreducible] AWp Uv qW xf awS awC abB awQ acd QZ UL aa2 awR Kc awB okR yu ris
abbrev WS:=List (List UInt8)
def xI (x:List UInt8):Nat→WS→Int
 | _,[]=>-1
 | k,y :: r=>if x = y then k else xI x (k + 1) r
def JA:=qd Proofs.Tryz.f71 []
def Yd (Γ:Env) (f:Nat):Prop:=∀ (l:WS) (x:List UInt8) (hl:l.length < 2 ^ 62),EvN Γ f [.sl 1 (l.map V.str),V.str x] (V.int (xI x 0 l))
theorem UF {Γ:Env} {f:Nat} (h:Has Γ.P f 19 JA.1.1.ac JA.1.2) :Yd Γ f:=by
 intro l x hl
 refine Qb h zsi zcl zcl fun C hC hm=>?_
 subst hC
 simp only [JA,qd,DC.ac]
 refine zgo ?_;repeat' first|exact zt|apply zan|intro hc
 refine Qx (ι:=Nat) (fun k=>k≤l.length∧xI x k (l.drop k) = xI x 0 l) (fun k=>[(8,V.int k)]) (fun k=>l.length - k) 0 (by omega) ⟨by simp,by simp⟩ zol zlt zet fun k hk K' hL=>?_
 obtain ⟨hk,hinv⟩:=hk
 simp only [ovT,JQ,Nat.reduceEqDiff,reduceIte]
 rcases hd:l.drop k with _|⟨y,r⟩
 ·have:=Qs hd
  rw [hd] at hinv
  refine zgo ?_;repeat' first|exact zt|apply zan|intro hc
  refine Qk _ rfl ?_
  simp only [go_sem]
  rw [← hinv];rfl
 ·obtain ⟨hk,hget,hr⟩:=Ql hd
  rw [hd] at hinv
  have hw:=Qf (k:=k) (by omega)
  (have zx:=za hget hw);refine zgo ?_;repeat' first|exact zt|apply zan|intro hc
  ·refine Qk _ rfl ?_
   simp only [go_sem]
   rw [← hinv];simp [xI,hc]
  ·refine hL _ (k + 1) zet ⟨by omega,?_⟩ (by omega) (fun a ha=>rfl)
   rw [hr,← hinv];simp [xI,hc]
def QR:=qd Proofs.Tryz.f98 []
def Jm (Γ:Env) (f:Nat):Prop:=∀ (xs:List Qc) (g:Nat) (cap:List V) (p:Qc→Bool) (hp:∀ x∈xs,EvN Γ g (Qc.v x :: cap) (V.bool (p x))) (hcap:Qd cap) (hl:xs.length < 2 ^ 62),EvN Γ f [.sl 8 (xs.map Qc.v),.clo g cap] (V.int (wG p 0 xs))
attribute [local go_sem] Qc.cells Qc.v in
theorem XW {Γ:Env} {f:Nat} (h:Has Γ.P f 19 QR.1.1.ac QR.1.2) :Jm Γ f:=by
 intro xs g cap p hp hcap hl
 refine Qb h zsi zcl zcl fun C hC hm=>?_
 subst hC
 simp only [QR,qd,DC.ac]
 have s1:∀ o,Yk o cap = cap:=fun o=>YR o cap hcap
 have s2:∀ o B,Qu o B cap = True:=fun o B=>eq_true (Ye o B cap hcap)
 refine zgo ?_;repeat' first|exact zt|apply zan|intro hc
 refine Qx (ι:=Nat) (fun k=>k≤xs.length∧wG p k (xs.drop k) = wG p 0 xs) (fun k=>[(8,V.int k)]) (fun k=>xs.length - k) 0 (by omega) ⟨by simp,by simp⟩ zol (fun i hi=>by simp only [ovT,JQ,Nat.reduceEqDiff,reduceIte];(repeat' first|exact ajc|refine af3 ?_ ?_|simp only [V.lt,ltL,and_self,and_true]|omega);exact Y9 _ _ hcap) (by simp only [Nat.reduceAdd,ovT,JQ,Nat.reduceEqDiff,reduceIte,Yy,Xg,afl,u32,u33,u34,u35,u36,u37,u38,u39,and_self,and_true,true_and];first|rfl|exact Q8 _ _ hcap) fun k hk K' hL=>?_
 obtain ⟨hk,hinv⟩:=hk
 simp only [ovT,JQ,Nat.reduceEqDiff,reduceIte]
 rcases hd:xs.drop k with _|⟨y,r⟩
 ·have:=Qs hd
  rw [hd] at hinv
  have e1:decide ((k:Int) < (((xs.map Qc.v).length:Nat):Int)) = false:=by simp;omega
  (have zx:=e1);refine zgo ?_;repeat' first|exact zt|apply zan|intro hc
  refine Qk _ rfl ?_
  simp only [go_sem]
  rw [← hinv];rfl
 ·obtain ⟨hk,hget,hr⟩:=Ql hd
  rw [hd] at hinv
  have hw:=Qf (k:=k) (by omega)
  have e1:decide ((k:Int) < (((xs.map Qc.v).length:Nat):Int)) = true:=by simp;omega
  have hpy:=hp y (zu hget)
  by_cases hy:p y = true
  ·rw [hy] at hpy
   (have zy0:=hpy.b;have zx:=za hget (za hw (za e1 (za s1 s2))));refine zgo ?_;repeat' first|exact zt|apply zan|intro hc
   refine Qk _ rfl ?_;simp only [go_sem]
   rw [← hinv];simp [wG,hy]
  ·have hy':p y = false:=by simpa using hy
   rw [hy'] at hpy
   (have zy0:=hpy.b;have zx:=za hget (za hw (za e1 (za s1 s2))));refine zgo ?_;repeat' first|exact zt|apply zan|intro hc
   refine hL _ (k + 1) zet ⟨by omega,?_⟩ (by omega) zoe
   rw [hr,← hinv,wG,if_neg hy]
def QK:=qd Proofs.Tryz.f72 []
def Q6 (Γ:Env) (f:Nat):Prop:=∀ (xs:List Qc) (g:Nat) (cap:List V) (p:Qc→Bool) (hp:∀ x∈xs,EvN Γ g (Qc.v x :: cap) (V.bool (p x))) (hcap:Qd cap) (hl:xs.length < 2 ^ 62),EvN Γ f [.sl 8 (xs.map Qc.v),.clo g cap] (V.bool (xs.any p))
theorem Xt {Γ:Env} {f:Nat} (h:Has Γ.P f 9 QK.1.1.ac QK.1.2) (z0:Jm Γ 98):Q6 Γ f:=by
 intro xs g cap p hp hcap hl
 refine Qb h zsi zcl zcl fun C hC hm=>?_
 subst hC
 simp only [QK,qd,DC.ac]
 have s1:∀ o,Yk o cap = cap:=fun o=>YR o cap hcap
 have s2:∀ o B,Qu o B cap = True:=fun o B=>eq_true (Ye o B cap hcap)
 have hi:=(z0 xs g cap p hp hcap hl).b
 have e1:=adI p xs 0
 (have zx:=za s1 (za s2 e1));exact zg
theorem afD (x:List UInt8):∀ (l:List (List UInt8)) (k:Nat),xI x k l = wG (fun y=>decide (x = y)) k l
 | [],_=>rfl
 | y :: r,k=>by
   rw [xI,wG,afD x r]
   by_cases h:x = y<;>simp [h]
def Jb:=qd Proofs.Tryz.f35 []
def JM (Γ:Env) (f:Nat):Prop:=∀ (l:List (List UInt8)) (x:List UInt8) (hl:l.length < 2 ^ 62),EvN Γ f [.sl 1 (l.map V.str),V.str x] (V.bool (l.any fun y=>decide (x = y)))
theorem VD {Γ:Env} {f:Nat} (h:Has Γ.P f 9 Jb.1.1.ac Jb.1.2) (z0:Yd Γ 71):JM Γ f:=by
 intro l x hl
 refine Qb h zsi zcl zcl fun C hC hm=>?_
 subst hC
 simp only [Jb,qd,DC.ac]
 have hi:=(z0 l x hl).b
 rw [afD] at hi
 have e1:=adI (fun y=>decide (x = y)) l 0
 (have zx:=e1);exact zg
def wD (f x:Qc):Bool:=x.subj == f.subj && (x.kind == f.kind && ((x.alg == f.alg && x.bits == f.bits) && x.num == f.num))
def Wr:=qd Proofs.Tryz.f73 []
def Ur (Γ:Env) (f:Nat):Prop:=∀ (x f0:Qc),EvN Γ f [x.v,.ro f0.cells 0] (V.bool (wD f0 x))
theorem aaG {Γ:Env} {f:Nat} (h:Has Γ.P f 30 Wr.1.1.ac Wr.1.2) :Ur Γ f:=by
 intro x f0
 refine Qb h zsi zcl zcl fun C hC hm=>?_
 subst hC
 simp only [Wr,qd,DC.ac]
 obtain ⟨a1,a2,a3,a4,a5,a6,a7,a8⟩:=x
 obtain ⟨b1,b2,b3,b4,b5,b6,b7,b8⟩:=f0
 simp only [wD,Qc.v,Qc.cells]
 rcases c1:a2 == b2 with _|_<;>rcases c2:a3 == b3 with _|_<;>rcases c3:a4 == b4 with _|_<;>rcases c4:a5 == b5 with _|_<;>rcases c5:a6 == b6 with _|_
 all_goals
  (have zx:=za c1 (za c2 (za c3 (za c4 c5))));exact zg
def VX:=qd Proofs.Tryz.f36 []
def Ku (Γ:Env) (f:Nat):Prop:=∀ (l:List Qc) (f0:Qc) (hl:l.length < 2 ^ 62),EvN Γ f [.sl 8 (l.map Qc.v),f0.v] (V.bool (l.any (wD f0)))
theorem acM {Γ:Env} {f:Nat} (h:Has Γ.P f 8 VX.1.1.ac VX.1.2) (z0:Ur Γ 73) (z1:Q6 Γ 72):Ku Γ f:=by
 intro l f0 hl
 refine Qb h zsi zcl zcl fun C hC hm=>?_
 subst hC
 simp only [VX,qd,DC.ac]
 have hi:=(z1 l 73 [.ro f0.cells 0] (wD f0) (fun x _=>z0 x f0) (by simp only [Qc.cells,V.closed,Qd,and_self]) hl).b
 simp only [Qc.v,Qc.cells] at hi ⊢
 exact zg
theorem abn (l:List Qa) (num:Int) (fs:List Nat) (day age:Int):(XR l num fs day age).length≤fs.length:=by
 have hok:=abx l day age fs fs.length (zj _)
 rw [zR] at hok
 rw [XR,aaj]
 have h1:=List.length_filterMap_le (KE l num) (agH l day age fs).2
 have h2:=hok.len
 have h3:=hok.le
 omega
def Qn (l:List Qa) (fs:List Nat):List Qa:=fs.filterMap fun i=>l[i]?
theorem wA {l:List Qa}:∀ {fs:List Nat},(∀ i∈fs,i < l.length)→(Qn l fs).length = fs.length
 | [],_=>rfl
 | i :: r,h=>by
   have ih:=wA (fs:=r) fun j hj=>h j (kL _ hj)
   have hi:=h i kG
   rw [Qn,List.filterMap_cons,zd hi,List.length_cons,List.length_cons]
   rw [Qn] at ih
   omega
def chS (l:List Qa) (fs:List Nat) (k:Nat):St:=Ju [(0,.sl 11 (l.map Qa.v)),(5,.hd 0 0 k),(8,.sl 1 (Qt fs)),(9,V.int fs.length),(10,V.int k)] [(0,.buf true 11 ((Qn l (fs.take k)).map Qa.v))] 1
def Ws:=qd Proofs.Tryz.f41 []
def Us (Γ:Env) (f:Nat):Prop:=∀ (l:List Qa) (fs:List Nat) (hb:∀ i∈fs,i < l.length) (hn:fs.length < 2 ^ 30),EvW Γ f [.sl 11 (l.map Qa.v),.sl 1 (Qt fs)] 11 ((Qn l fs).map Qa.v)
theorem aaH {Γ:Env} {f:Nat} (h:Has Γ.P f 23 Ws.1.1.ac Ws.1.2) :Us Γ f:=by
 intro l fs hb hn
 refine XX h (by simp) (by first|exact adF _|exact adb _|(intro x hx;obtain ⟨y,_,rfl⟩:=zE.1 hx;simp only [Qa.v,Qa.cells,V.noSl,WP,and_self])) fun C hC hm=>?_
 subst hC
 simp only [Ws,qd,DC.ac]
 have hpc:(Qt fs).length = fs.length:=zb _
 repeat' (first|(refine zsk ?_;intro K' hK)|refine zsp ?_|(refine zsc ?_ ?_<;>intro hc<;>first|exact znh|try simp only [znz] at hc)|simp (maxSteps:=1000000) only [go_sem,hpc]|(refine hK _ ?_;clear hK K')|apply zan|exact zsq|fail)
 refine Qo (ι:=Nat) (fun k=>k≤fs.length) (fun k=>chS l fs k) (fun k=>fs.length - k) 0 (zH _) (Qe [(0,1000)]) (Qg [(0,1000)] (by simp only [go_sem,zwl,chS,zb]<;>exact zcc) (by simp only [go_sem,zwl,chS,Qn,List.take_zero,List.filterMap_nil,zK]<;>exact zcc) (by simp [chS,Qe]) (by simp [chS];omega) (by omega)) fun k hk K' hL=>?_
 have hck:=wA (l:=l) (fs:=fs.take k) fun i hi=>hb i (zD hi)
 rw [zQ,kQ hk] at hck
 rcases hdr:fs.drop k with _|⟨i,r⟩
 ·have hkl:=Qs hdr
  have e1:decide ((k:Int) < (fs.length:Int)) = false:=by simp;omega
  obtain rfl:k = fs.length:=by omega
  have htk:fs.take fs.length = fs:=zR
  simp only [chS,htk] at hck ⊢
  have htl:List.take fs.length ((Qn l fs).map Qa.v) = (Qn l fs).map Qa.v:=zh (by simp;omega)
  repeat' (first|(refine zsk ?_;intro K' hK)|refine zsp ?_|(refine zsc ?_ ?_<;>intro hc<;>first|exact znh|try simp only [znz] at hc)|simp (maxSteps:=1000000) only [go_sem,Ju,e1]|(refine hK _ ?_;clear hK K')|apply zan|exact zsq|fail)
  have hcl:fs.length = ((Qn l fs).map Qa.v).length:=by rw [zb,hck]
  all_goals first|(refine yc (xs:=(Qn l fs).map Qa.v) _ _ rfl ?_ ?_<;>first|exact hcl|exact hcl.symm|rfl|(simp;done))
 obtain ⟨hk',hget,hr⟩:=Ql hdr
 have hw:=Qf (k:=k) (by omega)
 have e1:decide ((k:Int) < (fs.length:Int)) = true:=by simp;omega
 obtain ⟨f,hf⟩:∃ f,l[i]? = some f:=⟨_,zd (hb i (zu hget))⟩
 have hvi:=YE hget
 have vf:(l.map Qa.v)[i]? = some f.v:=by rw [zf,hf];rfl
 have hnx:Qn l (fs.take (k + 1)) = Qn l (fs.take k)++[f]:=by
  rw [Qn,zO,hget,ZQ]
  simp [Qn,hf]
 simp only [chS]
 generalize Qn l (fs.take k) = out at *
 have hol:(out.map Qa.v).length = k:=by rw [zb,hck]
 have htl:List.take k (out.map Qa.v) = out.map Qa.v:=zh (by omega)
 simp only [Qa.v,Qa.cells] at vf
 repeat' (first|(refine zsk ?_;intro K' hK)|refine zsp ?_|(refine zsc ?_ ?_<;>intro hc<;>first|exact znh|try simp only [znz] at hc)|simp (maxSteps:=1000000) only [go_sem,Ju,e1,hw,hvi,vf,hol,htl,Int.toNat_natCast,zb]|(refine hK _ ?_;clear hK K')|apply zan|exact zsq|fail)
 all_goals exact hL _ (k + 1) (Qe [(0,10001)]) (by omega) (by omega) (Qg [(0,10001)] (by simp only [go_sem,zwl,chS,zb]<;>exact zcc) (by simp only [go_sem,zwl,chS,hnx,km,zL,zK,Qa.v,Qa.cells]<;>exact zcc) (by simp [chS,Qe]) (by simp [chS];omega) (by omega))
def ahK (l:List Qa) (day age:Int) (f:Qc) (e:QT):Bool:=(f.text == [] || e.hosts.any fun y=>decide (f.text = y)) && (XR l e.num e.finds day age).any (wD f)
def KB (l:List Qa) (gap day age:Int) (f:Qc):Bool:=(Jv l gap).any (ahK l day age f)
def q9 (l:List Qa) (gap day age:Int) (f:Qc):V:=if JF l gap day age = 0 then .tup [V.bool (KB l gap day age f),V.int 0] else .tup [V.bool false,V.int (JF l gap day age)]
def hoS (l:List Qa) (gap day age:Int) (f:Qc) (k:Nat):St:=Ju [(9,.ptr 0 0),(13,.sl 1 ((Q9 l gap day age).map fcv)),(29,.sl 4 ((Jv l gap).map QT.v)),(30,V.int (Jv l gap).length),(31,V.int k)] [(0,.box true f.cells)] 1
def W8:=qd Proofs.Tryz.f16 [zhn 18]
def WF (Γ:Env) (f:Nat):Prop:=∀ (l:List Qa) (gap day age:Int) (f0:Qc) (hl:l.length≤12) (hz:∀ x∈l,x.Sz),EvN Γ f [.sl 11 (l.map Qa.v),V.int gap,V.int day,V.int age,f0.v] (q9 l gap day age f0)
attribute [local go_sem] Ju in
theorem abv {Γ:Env} {f:Nat} (h:Has Γ.P f 55 W8.1.1.ac W8.1.2) (z0:WE Γ 29) (z1:JM Γ 35) (z2:Ku Γ 36):WF Γ f:=by
 intro l gap day age f0 hl hz
 refine Qb h zsi (by unfold q9;split<;>simp only [V.closed,Qd,V.noSl,WP,and_self]) (by unfold q9;split<;>simp only [V.closed,Qd,V.noSl,WP,and_self]) fun C hC hm=>?_
 subst hC
 simp only [W8,qd,DC.ac]
 have g0:=(z0 l gap day age hl hz).b
 by_cases hE:JF l gap day age = 0
 rotate_left
 ·rw [q9,if_neg hE]
  rw [aan,if_neg hE] at g0
  have e01:(JF l gap day age != 0) = true:=by simpa using hE
  generalize JF l gap day age = er at *
  simp only [Qc.v,Qc.cells]
  (have zx:=e01);exact zg
 rw [q9,if_pos hE]
 rw [aan,if_pos hE] at g0
 have e00:((0:Int) != 0) = false:=by decide
 have hel:((Jv l gap).map QT.v).length = (Jv l gap).length:=zb _
 have hok:=fun e (he:e∈Jv l gap)=>vI he
 have hen:=wx l gap
 have hfl:(Q9 l gap day age).length = (Jv l gap).length:=zb _
 simp only [Qc.v,Qc.cells]
 (have zx:=za e00 hel);refine zgo ?_;repeat' first|exact zt|apply zan|intro hc
 refine Qo (ι:=Nat) (fun k=>k≤(Jv l gap).length∧((Jv l gap).take k).any (ahK l day age f0) = false) (fun k=>hoS l gap day age f0 k) (fun k=>(Jv l gap).length - k) 0 ⟨zH _,rfl⟩ (Qe []) (Qg [] (by simp only [go_sem,zwl,hoS,zb]<;>exact zcc) (by simp only [go_sem,zwl,hoS,Qc.cells]<;>exact zcc) (by simp [hoS,Qe]) (by simp [hoS]) (by omega)) fun k hk K' hL=>?_
 obtain ⟨hk,hno⟩:=hk
 rcases hdr:(Jv l gap).drop k with _|⟨e,r⟩
 ·have hkl:=Qs hdr
  have e1:decide ((k:Int) < ((Jv l gap).length:Int)) = false:=by simp;omega
  rw [zh hkl] at hno
  rw [KB,hno]
  simp only [hoS]
  (have zx:=e1);exact zg
 obtain ⟨hk',hget,hr⟩:=Ql hdr
 have hw:=Qf (k:=k) (by omega)
 have e1:decide ((k:Int) < ((Jv l gap).length:Int)) = true:=by simp;omega
 obtain ⟨o1,o2,o3,o4⟩:=hok e (zu hget)
 have hfs:=abn l e.num e.finds day age
 have p1:=(z2 (XR l e.num e.finds day age) f0 (by omega)).b
 have p2:=(z1 e.hosts f0.text (by omega)).b
 have vx:((Jv l gap).map QT.v)[k]? = some e.v:=by rw [zf,hget];rfl
 have vf:((Q9 l gap day age).map fcv)[k]? = some (.sl 8 ((XR l e.num e.finds day age).map Qc.v)):=by rw [zf,Q9,zf,hget];rfl
 have hnx:ahK l day age f0 e = false→((Jv l gap).take (k + 1)).any (ahK l day age f0) = false:=fun h=>by
  rw [zO,hget,List.any_append,hno];simp [h]
 have hys:ahK l day age f0 e = true→KB l gap day age f0 = true:=fun h=>Zx.2 ⟨e,zu hget,h⟩
 rw [ahK] at hnx hys
 simp only [hoS,Qc.cells]
 simp only [QT.v,Qc.v,Qc.cells] at vx p1
 rcases c1:(f0.text == []) with _|_
 ·rcases c2:(e.hosts.any fun y=>decide (f0.text = y)) with _|_
  ·rw [c1,c2] at hnx
   rw [c2] at p2
   (have zx:=za e1 (za hw (za c1 (za vx vf))));refine zgo ?_;repeat' first|exact zt|apply zan|intro hc
   all_goals exact hL _ (k + 1) (Qe []) ⟨by omega,hnx rfl⟩ (by omega) (Qg [] (by simp only [go_sem,zwl,hoS,zb]<;>exact zcc) (by simp only [go_sem,zwl,hoS,Qc.cells]<;>exact zcc) (by simp [hoS,Qe]) (by simp [hoS]) (by omega))
  ·rw [c1,c2] at hnx hys
   rw [c2] at p2
   rcases c3:((XR l e.num e.finds day age).any (wD f0)) with _|_
   ·rw [c3] at hnx p1
    (have zx:=za e1 (za hw (za c1 (za vx vf))));refine zgo ?_;repeat' first|exact zt|apply zan|intro hc
    all_goals exact hL _ (k + 1) (Qe []) ⟨by omega,hnx rfl⟩ (by omega) (Qg [] (by simp only [go_sem,zwl,hoS,zb]<;>exact zcc) (by simp only [go_sem,zwl,hoS,Qc.cells]<;>exact zcc) (by simp [hoS,Qe]) (by simp [hoS]) (by omega))
   ·rw [c3] at hys p1
    rw [hys rfl]
    (have zx:=za e1 (za hw (za c1 (za vx vf))));exact zg
 ·rw [c1] at hnx hys
  rcases c3:((XR l e.num e.finds day age).any (wD f0)) with _|_
  ·rw [c3] at hnx p1
   (have zx:=za e1 (za hw (za c1 (za vx vf))));refine zgo ?_;repeat' first|exact zt|apply zan|intro hc
   all_goals exact hL _ (k + 1) (Qe []) ⟨by omega,hnx rfl⟩ (by omega) (Qg [] (by simp only [go_sem,zwl,hoS,zb]<;>exact zcc) (by simp only [go_sem,zwl,hoS,Qc.cells]<;>exact zcc) (by simp [hoS,Qe]) (by simp [hoS]) (by omega))
  ·rw [c3] at hys p1
   rw [hys rfl]
   (have zx:=za e1 (za hw (za c1 (za vx vf))));exact zg
def ata (a b id:Int) (l:List abD):Bool:=match l with|[]=>true|c :: _=>((c.kalg == a && c.kbits == b) && (c.kid == id))
def asV (a b id:Int) (l:List abD):Bool:=aqp a b 2 && (as6 id && (decide ((l.length:Int)≤8) && (l.all atl && ata a b id l)))
end Av
end
