/- K17 -/
import Derived.Test.YtddmiolapkhaoaaGreatDoorK16
import Derived.Test.YtddmiolapkhaoaaGreatDoorK14
import Derived.Test.YtddmiolapkhaoaaGreatDoorK15
import Derived.Test.YtddmiolapkhaoaaGreatDoorK13
import Derived.Test.YtddmiolapkhaoaaGreatDoorK11
set_option linter.unusedVariables false
set_option linter.unusedSimpArgs false
section
set_option maxRecDepth 10000
set_option maxHeartbeats 4000000
namespace Av
open Go
attribute [local irreducible] AWp U3 abh acE awS awC ajc awQ ajv Jo jG aiB awR yv awB okR ad1 ris
theorem asz (l:List Qa) (num:Int) (fs:List Nat) (day age:Int):(je l num fs day age).length≤fs.length:=by
 have hok:=ahx l day age fs fs.length (zl _)
 rw [zJ] at hok
 rw [je,af0]
 have h1:=List.length_filterMap_le (xc l num) (anh l day age fs).2
 have h2:=hok.len
 have h3:=hok.le
 omega
def Qx (l:List Qa) (fs:List Nat):List Qa:=fs.filterMap fun i=>l[i]?
theorem aee {l:List Qa}:∀ {fs:List Nat},(∀ i∈fs,i < l.length)→(Qx l fs).length = fs.length
 | [],_=>rfl
 | i :: r,h=>by
   have ih:=aee (fs:=r) fun j hj=>h j (kJ _ hj)
   have hi:=h i kL
   rw [Qx,List.filterMap_cons,zb hi,List.length_cons,List.length_cons]
   rw [Qx] at ih
   omega
def chS (l:List Qa) (fs:List Nat) (k:Nat):St:=Y1 [(0,.sl 11 (l.map Qa.v)),(5,.hd 0 0 k),(8,.sl 1 (QF fs)),(9,V.int fs.length),(10,V.int k)] [(0,.buf true 11 ((Qx l (fs.take k)).map Qa.v))] 1
def aaW:AC:=Qb [0,1] (.reg [xo 4 (.mknil 11)]) (Qb [0,1,5] (.reg [xo 5 (.mknil 11)]) (Qb [5] (Qb [0,5,8,9,10] (.reg [mv 8 1,ln 9 8,mc 10 (V.int 0)]) (.block 0 (JG [0,5,8,9,10] (Qb [0,5,8,9,10,11] (.reg [bn 11 .lss 10 9]) (Qb [0,5,8,9,10] (.cond (.t 11) .skip (.exit 0)) (Qb [0,5,8,9,10] (.block 1 (Qb [0,5,7,8,9,10] (.reg [ia 12 1 8 10,ld 13 1 12,mv 7 13]) (.reg [mv 14 5,mv 15 0,mv 16 7,ia 17 11 15 16,xo 18 (.load true 11 (.t 17)),xo 19 (.bslice 1 11 true [vi0,vs0,vi0,vi0,vi0,vi0,vs0,vi0,vi0,vi0,vs0] [(0,(.t 18))]),xo 20 (.append 11 112 [vi0,vs0,vi0,vi0,vi0,vi0,vs0,vi0,vi0,vi0,vs0] (.t 14) (.t 19)),mv 5 20]))) (.reg [bc 21 .add 10 (V.int 1),mv 10 21]))))))) (Qb [4] (.reg [mv 22 5,mv 4 22]) .ret))) def dW:List Q0:=[.tmp 4]
def KY (Γ:Env) (f:Nat):Prop:=∀ (l:List Qa) (fs:List Nat) (hb:∀ i∈fs,i < l.length) (hn:fs.length < 2 ^ 30),EvW Γ f [.sl 11 (l.map Qa.v),.sl 1 (QF fs)] 11 ((Qx l fs).map Qa.v)
theorem agp {Γ:Env} {f:Nat} (h:Has Γ.P f 23 aaW dW) :KY Γ f:=by
 intro l fs hb hn
 refine UD h (by simp) (by first|exact aos _|exact anP _|(intro x hx;obtain ⟨y,_,rfl⟩:=zE.1 hx;simp only [Qa.v,Qa.cells,V.noSl,Ue,and_self])) fun C hC hm=>?_
 subst hC
 unfold aaW
 have hpc:(QF fs).length = fs.length:=zd _
 repeat' (first|(refine zsk ?_;intro K' hK)|refine zsp ?_|(refine zsc ?_ ?_<;>intro hc<;>first|exact znh|try simp only [znz] at hc)|simp (maxSteps:=1000000) only [go_sem,hpc]|(refine hK _ ?_;clear hK K')|apply zan|exact zsq|fail)
 refine QC (ι:=Nat) (fun k=>k≤fs.length) (fun k=>chS l fs k) (fun k=>fs.length - k) 0 (zG _) (Qi [(0,1000)]) (Qv [(0,1000)] (by simp only [go_sem,zwl,chS,zd]<;>exact zcc) (by simp only [go_sem,zwl,chS,Qx,List.take_zero,List.filterMap_nil,zO]<;>exact zcc) (by simp [chS,Qi]) (by simp [chS];omega) (by omega)) fun k hk K' hL=>?_
 have hck:=aee (l:=l) (fs:=fs.take k) fun i hi=>hb i (zD hi)
 rw [zM,kV hk] at hck
 rcases hdr:fs.drop k with _|⟨i,r⟩
 ·have hkl:=QY hdr
  have e1:decide ((k:Int) < (fs.length:Int)) = false:=by simp;omega
  obtain rfl:k = fs.length:=by omega
  have htk:fs.take fs.length = fs:=zJ
  simp only [chS,htk] at hck ⊢
  have htl:List.take fs.length ((Qx l fs).map Qa.v) = (Qx l fs).map Qa.v:=zj (by simp;omega)
  repeat' (first|(refine zsk ?_;intro K' hK)|refine zsp ?_|(refine zsc ?_ ?_<;>intro hc<;>first|exact znh|try simp only [znz] at hc)|simp (maxSteps:=1000000) only [go_sem,Y1,e1]|(refine hK _ ?_;clear hK K')|apply zan|exact zsq|fail)
  have hcl:fs.length = ((Qx l fs).map Qa.v).length:=by rw [zd,hck]
  all_goals first|(refine acb (xs:=(Qx l fs).map Qa.v) _ _ rfl ?_ ?_<;>first|exact hcl|exact hcl.symm|rfl|(simp;done))
 obtain ⟨hk',hget,hr⟩:=QJ hdr
 have hw:=Qq (k:=k) (by omega)
 have e1:decide ((k:Int) < (fs.length:Int)) = true:=by simp;omega
 obtain ⟨f,hf⟩:∃ f,l[i]? = some f:=⟨_,zb (hb i (zm hget))⟩
 have hvi:=Xm hget
 have vf:(l.map Qa.v)[i]? = some f.v:=by rw [zi,hf];rfl
 have hnx:Qx l (fs.take (k + 1)) = Qx l (fs.take k)++[f]:=by
  rw [Qx,zP,hget,ZD]
  simp [Qx,hf]
 simp only [chS]
 generalize Qx l (fs.take k) = out at *
 have hol:(out.map Qa.v).length = k:=by rw [zd,hck]
 have htl:List.take k (out.map Qa.v) = out.map Qa.v:=zj (by omega)
 simp only [Qa.v,Qa.cells] at vf
 repeat' (first|(refine zsk ?_;intro K' hK)|refine zsp ?_|(refine zsc ?_ ?_<;>intro hc<;>first|exact znh|try simp only [znz] at hc)|simp (maxSteps:=1000000) only [go_sem,Y1,e1,hw,hvi,vf,hol,htl,Int.toNat_natCast,zd]|(refine hK _ ?_;clear hK K')|apply zan|exact zsq|fail)
 all_goals exact hL _ (k + 1) (Qi [(0,10001)]) (by omega) (by omega) (Qv [(0,10001)] (by simp only [go_sem,zwl,chS,zd]<;>exact zcc) (by simp only [go_sem,zwl,chS,hnx,kN,zI,zO,Qa.v,Qa.cells]<;>exact zcc) (by simp [chS,Qi]) (by simp [chS];omega) (by omega))
def aow (l:List Qa) (day age:Int) (f:Qg) (e:Ji):Bool:=(f.text == [] || e.hosts.any fun y=>decide (f.text = y)) && (je l e.num e.finds day age).any (aef f)
def Vh (l:List Qa) (gap day age:Int) (f:Qg):Bool:=(Y4 l gap).any (aow l day age f)
def aia (l:List Qa) (gap day age:Int) (f:Qg):V:=if YS l gap = 0 then .tup [V.bool (Vh l gap day age f),V.int 0] else .tup [V.bool false,V.int (YS l gap)]
def hoS (l:List Qa) (gap day age:Int) (f:Qg) (k:Nat):St:=Y1 [(9,.ptr 0 0),(13,.sl 1 ((V0 l gap day age).map fcv)),(29,.sl 4 ((Y4 l gap).map Ji.v)),(30,V.int (Y4 l gap).length),(31,V.int k)] [(0,.box true f.cells)] 1
def wV:List (List Nat):=[[],[0],[1],[2],[3],[4,3],[3],[6,3],[5,7,3,3],[3,8],[9,8],[10],[10],[11,12,10],[13,10],[10],[14,15,10,10],[10,16]]
def xV:OT:=och 0 18
@[go_sem] def Ki (Qo Jl:Nat):OP:=oN 0 (fa 36 6 9) (oN 1 (ld 37 1 36) (oN 2 (bc 38 .eql 37 (V.str [])) (oN 3 (mv 39 38) (oN 4 (xg 40 (.faddr 1 (.t 16)) 39 false) (oN 5 (xg 41 (.load false 1 (.t 40)) 39 false) (oN 6 (xg 42 (.faddr 6 (.t 9)) 39 false) (oN 7 (xg 43 (.load false 1 (.t 42)) 39 false) (oN 8 (xg 44 (.call Qo [(.t 41),(.t 43)]) 39 false) (oN 9 (xo 45 (.pick (.t 39) (.c (V.bool true)) (.t 44))) (oN 10 (mv 46 45) (oN 11 (mg 47 13 46 true) (oN 12 (mg 48 15 46 true) (.one 13 false [8] (xg 49 (.iaddr 1 (.t 47) (.t 48)) 46 true) (.one 14 false [8] (xg 50 (.load false 1 (.t 49)) 46 true) (.one 15 false [8] (xg 51 (.load true 8 (.t 9)) 46 true) (.one 16 false [8] (xg 52 (.call Jl [(.t 50),(.t 51)]) 46 true) (oN 17 (xo 53 (.pick (.t 46) (.t 52) (.c (V.bool false)))) .done)))))))))))))))))
def wm (Qo Jl:Nat):List AO:=aoO (Ki Qo Jl)
instance (Qo Jl:Nat):RG [] xV (Ki Qo Jl) (wm Qo Jl) wV 18 (fun _=>true):=⟨rfl,by kernel_rfl,by kernel_rfl⟩
def ack (Un Qo Jl:Nat):AC:=Qb [0,1,2,3,9] (.reg [xo 9 (.box true 8 (.t 4)),mc 10 (V.bool false),mc 11 (V.int 0)]) (Qb [9,12,13,14] (.reg [mv 18 0,mv 19 1,mv 20 2,mv 21 3,cl 22 Un [18,19,20,21],mv 17 22,ex 23 17 0,ex 24 17 1,ex 25 17 2,mv 12 23,mv 13 24,mv 14 25]) (Qb [9,12,13] (Qb [9,12,13,14,27] (.reg [mv 26 14,bc 27 .neq 26 (V.int 0)]) (.cond (.t 27) (Qb [10,11] (.reg [mv 28 14,mc 10 (V.bool false),mv 11 28]) .ret) .skip)) (Qb [] (Qb [9,13,29,30,31] (.reg [mv 29 12,ln 30 29,mc 31 (V.int 0)]) (.block 0 (JG [9,13,29,30,31] (Qb [9,13,29,30,31,32] (.reg [bn 32 .lss 31 30]) (Qb [9,13,29,30,31] (.cond (.t 32) .skip (.exit 0)) (Qb [9,13,29,30,31] (.block 1 (Qb [9,13,15,16,29,30,31] (.reg [mv 33 31,ia 34 4 29 31,xo 35 (.load true 4 (.t 34)),xo 16 (.alloc [.val vi0,.nil 1,.nil 1,.nil 1]),mv 15 33,xs 4 16 35]) (Qb [9,13,29,30,31,53] (VD [] xV (Ki Qo Jl) (wm Qo Jl) wV) (.cond (.t 53) (Qb [10,11] (.reg [mc 10 (V.bool true),mc 11 (V.int 0)]) .ret) .skip)))) (.reg [bc 54 .add 31 (V.int 1),mv 31 54]))))))) (Qb [10,11] (.reg [mc 10 (V.bool false),mc 11 (V.int 0)]) .ret)))) def dX:List Q0:=[.tmp 10,.tmp 11]
def qH (Γ:Env) (f:Nat):Prop:=∀ (l:List Qa) (gap day age:Int) (f0:Qg) (hl:l.length≤12) (hz:∀ x∈l,x.Sz) (hdy:0≤day∧day≤40000) (hag:0≤age∧age≤4000),EvN Γ f [.sl 11 (l.map Qa.v),V.int gap,V.int day,V.int age,f0.v] (aia l gap day age f0)
attribute [local go_sem] Y1 in
theorem aht {Γ:Env} {f Un Qo Jl:Nat} (h:Has Γ.P f 55 (ack Un Qo Jl) dX) (z0:qG Γ Un) (z1:Yx Γ Qo) (z2:jQ Γ Jl):qH Γ f:=by
 intro l gap day age f0 hl hz hdy hag
 refine Qc h zsi (by unfold aia;split<;>simp only [V.closed,Qh,V.noSl,Ue,and_self]) (by unfold aia;split<;>simp only [V.closed,Qh,V.noSl,Ue,and_self]) fun C hC hm=>?_
 subst hC
 unfold ack
 have g0:=(z0 l gap day age hl hz hdy hag).b
 by_cases hE:YS l gap = 0
 rotate_left
 ·rw [aia,if_neg hE]
  rw [al5,if_neg hE] at g0
  have e01:(YS l gap != 0) = true:=by simpa using hE
  generalize YS l gap = er at *
  simp only [Qg.v,Qg.cells]
  (have zx:=e01);exact zg
 rw [aia,if_pos hE]
 rw [al5,if_pos hE] at g0
 have e00:((0:Int) != 0) = false:=by decide
 have hel:((Y4 l gap).map Ji.v).length = (Y4 l gap).length:=zd _
 have hok:=fun e (he:e∈Y4 l gap)=>anf he
 have hen:=aju l gap
 have hfl:(V0 l gap day age).length = (Y4 l gap).length:=zd _
 simp only [Qg.v,Qg.cells]
 (have zx:=za e00 hel);refine zgo ?_;repeat' first|exact zt|apply zan|intro hc
 refine QC (ι:=Nat) (fun k=>k≤(Y4 l gap).length∧((Y4 l gap).take k).any (aow l day age f0) = false) (fun k=>hoS l gap day age f0 k) (fun k=>(Y4 l gap).length - k) 0 ⟨zG _,rfl⟩ (Qi []) (Qv [] (by simp only [go_sem,zwl,hoS,zd]<;>exact zcc) (by simp only [go_sem,zwl,hoS,Qg.cells]<;>exact zcc) (by simp [hoS,Qi]) (by simp [hoS]) (by omega)) fun k hk K' hL=>?_
 obtain ⟨hk,hno⟩:=hk
 rcases hdr:(Y4 l gap).drop k with _|⟨e,r⟩
 ·have hkl:=QY hdr
  have e1:decide ((k:Int) < ((Y4 l gap).length:Int)) = false:=by simp;omega
  rw [zj hkl] at hno
  rw [Vh,hno]
  simp only [hoS]
  (have zx:=e1);exact zg
 obtain ⟨hk',hget,hr⟩:=QJ hdr
 have hw:=Qq (k:=k) (by omega)
 have e1:decide ((k:Int) < ((Y4 l gap).length:Int)) = true:=by simp;omega
 obtain ⟨o1,o2,o3,o4⟩:=hok e (zm hget)
 have hfs:=asz l e.num e.finds day age
 have p1:=(z2 (je l e.num e.finds day age) f0 (by omega)).b
 have p2:=(z1 e.hosts f0.text (by omega)).b
 have vx:((Y4 l gap).map Ji.v)[k]? = some e.v:=by rw [zi,hget];rfl
 have vf:((V0 l gap day age).map fcv)[k]? = some (.sl 8 ((je l e.num e.finds day age).map Qg.v)):=by rw [zi,V0,zi,hget];rfl
 have hnx:aow l day age f0 e = false→((Y4 l gap).take (k + 1)).any (aow l day age f0) = false:=fun h=>by
  rw [zP,hget,List.any_append,hno];simp [h]
 have hys:aow l day age f0 e = true→Vh l gap day age f0 = true:=fun h=>Zx.2 ⟨e,zm hget,h⟩
 rw [aow] at hnx hys
 simp only [hoS,Qg.cells]
 simp only [Ji.v,Qg.v,Qg.cells] at vx p1
 rcases c1:(f0.text == []) with _|_
 ·rcases c2:(e.hosts.any fun y=>decide (f0.text = y)) with _|_
  ·rw [c1,c2] at hnx
   rw [c2] at p2
   (have zx:=za e1 (za hw (za c1 (za vx vf))));refine zgo ?_;repeat' first|exact zt|apply zan|intro hc
   all_goals exact hL _ (k + 1) (Qi []) ⟨by omega,hnx rfl⟩ (by omega) (Qv [] (by simp only [go_sem,zwl,hoS,zd]<;>exact zcc) (by simp only [go_sem,zwl,hoS,Qg.cells]<;>exact zcc) (by simp [hoS,Qi]) (by simp [hoS]) (by omega))
  ·rw [c1,c2] at hnx hys
   rw [c2] at p2
   rcases c3:((je l e.num e.finds day age).any (aef f0)) with _|_
   ·rw [c3] at hnx p1
    (have zx:=za e1 (za hw (za c1 (za vx vf))));refine zgo ?_;repeat' first|exact zt|apply zan|intro hc
    all_goals exact hL _ (k + 1) (Qi []) ⟨by omega,hnx rfl⟩ (by omega) (Qv [] (by simp only [go_sem,zwl,hoS,zd]<;>exact zcc) (by simp only [go_sem,zwl,hoS,Qg.cells]<;>exact zcc) (by simp [hoS,Qi]) (by simp [hoS]) (by omega))
   ·rw [c3] at hys p1
    rw [hys rfl]
    (have zx:=za e1 (za hw (za c1 (za vx vf))));exact zg
 ·rw [c1] at hnx hys
  rcases c3:((je l e.num e.finds day age).any (aef f0)) with _|_
  ·rw [c3] at hnx p1
   (have zx:=za e1 (za hw (za c1 (za vx vf))));refine zgo ?_;repeat' first|exact zt|apply zan|intro hc
   all_goals exact hL _ (k + 1) (Qi []) ⟨by omega,hnx rfl⟩ (by omega) (Qv [] (by simp only [go_sem,zwl,hoS,zd]<;>exact zcc) (by simp only [go_sem,zwl,hoS,Qg.cells]<;>exact zcc) (by simp [hoS,Qi]) (by simp [hoS]) (by omega))
  ·rw [c3] at hys p1
   rw [hys rfl]
   (have zx:=za e1 (za hw (za c1 (za vx vf))));exact zg
def azF (a b id:Int) (l:List ahD):Bool:=match l with|[]=>true|c :: _=>((c.kalg == a && c.kbits == b) && (c.kid == id))
def azs (a b id:Int) (l:List ahD):Bool:=aw8 a b 2 && (azB id && (decide ((l.length:Int)≤8) && (l.all azO && azF a b id l)))
structure aiF where
 kalg:Int
 kbits:Int
 kid:Int
 chain:List ahD
def aiF.cells (x:aiF):List V:=[V.int x.kalg,V.int x.kbits,V.int x.kid,.sl 15 (x.chain.map ahD.v)]
def aiF.v (x:aiF):V:=.agg x.cells
structure azm where
 name:List UInt8
 least:Int
 most:Int
 suites:List Int
 own:Bool
 idents:List aiF
 anchors:List Int
 hashes:List Int
 fall:Bool
def azm.cells (e:azm):List V:=[V.str e.name,V.int e.least,V.int e.most,.sl 1 (e.suites.map V.int),V.bool e.own,.sl 4 (e.idents.map aiF.v),.sl 1 (e.anchors.map V.int),.sl 1 (e.hashes.map V.int),V.bool e.fall]
def azm.v (e:azm):V:=.agg e.cells
def aiF.ok (x:aiF):Bool:=azs x.kalg x.kbits x.kid x.chain
def Vm:AC:=Qb [0,1] (.reg [mc 4 (V.int 0)]) (Qb [] (Qb [0,1,7,8] (.reg [mv 6 0,ln 7 6,mc 8 (V.int 0)]) (.block 0 (JG [0,1,7,8] (Qb [0,1,7,8,9] (.reg [bn 9 .lss 8 7]) (Qb [0,1,7,8] (.cond (.t 9) .skip (.exit 0)) (Qb [0,1,7,8] (.block 1 (Qb [0,1,5,7,8] (.reg [mv 10 8,mv 5 10]) (Qb [0,1,5,7,8,16] (.reg [mv 11 1,mv 12 0,mv 13 5,ia 14 1 12 13,ld 15 1 14,xo 16 (.callv (.t 11) [(.t 15)])]) (.cond (.t 16) (Qb [4] (.reg [mv 17 5,mv 4 17]) .ret) .skip)))) (.reg [bc 18 .add 8 (V.int 1),mv 8 18]))))))) (Qb [4] (.reg [mc 4 (V.int (-1))]) .ret)) def dY:List Q0:=[.tmp 4]
def Xy (Γ:Env) (f:Nat):Prop:=∀ (xs:List Int) (g:Nat) (cap:List V) (p:Int→Bool) (hp:∀ x∈xs,EvN Γ g (V.int x :: cap) (V.bool (p x))) (hcap:Qh cap) (hl:xs.length < 2 ^ 62),EvN Γ f [.sl 1 (xs.map V.int),.clo g cap] (V.int (alZ p 0 xs))
attribute [local go_sem] zO in
theorem jE {Γ:Env} {f:Nat} (h:Has Γ.P f 19 Vm dY) :Xy Γ f:=by
 intro xs g cap p hp hcap hl
 refine Qc h zsi zcl zcl fun C hC hm=>?_
 subst hC
 unfold Vm
 have s1:∀ o,Y2 o cap = cap:=fun o=>Wo o cap hcap
 have s2:∀ o B,QL o B cap = True:=fun o B=>eq_true (Xi o B cap hcap)
 refine zgo ?_;repeat' first|exact zt|apply zan|intro hc
 refine Jc (ι:=Nat) (fun k=>k≤xs.length∧alZ p k (xs.drop k) = alZ p 0 xs) (fun k=>[(8,V.int k)]) (fun k=>xs.length - k) 0 (by omega) ⟨by simp,by simp⟩ zol (fun i hi=>by simp only [ovT,Xr,Nat.reduceEqDiff,reduceIte];(repeat' first|exact apZ|refine amE ?_ ?_|simp only [V.lt,ltL,and_self,and_true]|omega);exact WD _ _ hcap) (by simp only [Nat.reduceAdd,ovT,Xr,Nat.reduceEqDiff,reduceIte,XQ,WQ,alK,u32,u33,u34,u35,u36,u37,u38,u39,and_self,and_true,true_and];first|rfl|exact J7 _ _ hcap) fun k hk K' hL=>?_
 obtain ⟨hk,hinv⟩:=hk
 simp only [ovT,Xr,Nat.reduceEqDiff,reduceIte]
 rcases hd:xs.drop k with _|⟨y,r⟩
 ·have:=QY hd
  rw [hd] at hinv
  have e1:decide ((k:Int) < (((xs.map V.int).length:Nat):Int)) = false:=by simp;omega
  (have zx:=e1);refine zgo ?_;repeat' first|exact zt|apply zan|intro hc
  refine Qr _ rfl ?_
  simp only [go_sem]
  rw [← hinv];rfl
 ·obtain ⟨hk,hget,hr⟩:=QJ hd
  rw [hd] at hinv
  have hw:=Qq (k:=k) (by omega)
  have e1:decide ((k:Int) < (((xs.map V.int).length:Nat):Int)) = true:=by simp;omega
  have hpy:=hp y (zm hget)
  by_cases hy:p y = true
  ·rw [hy] at hpy
   (have zy0:=hpy.b;have zx:=za hget (za hw (za e1 (za s1 s2))));refine zgo ?_;repeat' first|exact zt|apply zan|intro hc
   refine Qr _ rfl ?_;simp only [go_sem]
   rw [← hinv];simp [alZ,hy]
  ·have hy':p y = false:=by simpa using hy
   rw [hy'] at hpy
   (have zy0:=hpy.b;have zx:=za hget (za hw (za e1 (za s1 s2))));refine zgo ?_;repeat' first|exact zt|apply zan|intro hc
   refine hL _ (k + 1) zet ⟨by omega,?_⟩ (by omega) zoe
   rw [hr,← hinv,alZ,if_neg hy]
theorem ari (p:Int→Bool):∀ (xs:List Int) (k:Nat),(alZ p k xs = -1∧∀ y∈xs,p y = false)∨∃ i y,alZ p k xs = ((k + i:Nat):Int)∧xs[i]? = some y∧p y = true∧∀ z∈xs.take i,p z = false
 | [],k=>.inl ⟨rfl,by simp⟩
 | x :: r,k=>by
   rw [alZ]
   by_cases h:p x = true
   ·rw [if_pos h];exact .inr ⟨0,x,rfl,rfl,h,by simp⟩
   ·rw [if_neg h]
    have h2:p x = false:=by simpa using h
    rcases ari p r (k + 1) with ⟨h3,h4⟩|⟨i,y,h3,h4,h5,h6⟩
    ·exact .inl ⟨h3,fun y hy=>by
      rcases zy.1 hy with rfl|hy
      ·exact h2
      ·exact h4 y hy⟩
    ·refine .inr ⟨i + 1,y,by rw [h3];congr 1;omega,by simpa using h4,h5,fun z hz=>?_⟩
     rw [List.take_succ_cons] at hz
     rcases zy.1 hz with rfl|hz
     ·exact h2
     ·exact h6 z hz
theorem arv {p:Int→Bool} {xs:List Int} (h:∀ y∈xs,p y = false):xs.filter (fun x=>!p x) = xs:=by
 rw [List.filter_eq_self];intro y hy;rw [h y hy];rfl
def W2 (Ys:Nat):AC:=Qb [0,1] (.reg [xo 4 (.mknil 1)]) (Qb [0,1,5] (.reg [mv 8 0,mv 9 1,cl 10 Ys [8,9],mv 5 10]) (Qb [0,1,5] (Qb [0,1,5,12] (.reg [mv 11 5,bc 12 .eql 11 (V.int (-1))]) (.cond (.t 12) (Qb [4] (.reg [mv 13 0,mv 4 13]) .ret) .skip)) (Qb [0,5] (Qb [0,1,5,6] (.reg [mv 14 5,bc 15 .add 14 (V.int 1),mv 6 15]) (.block 0 (JG [0,1,5,6] (Qb [0,1,5,6] (Qb [0,1,5,6,19] (.reg [mv 16 6,mv 17 0,ln 18 17,bn 19 .lss 16 18]) (.cond (.t 19) .skip (.exit 0))) (Qb [0,1,5,6] (.block 1 (Qb [0,1,5,6,7] (.reg [mv 22 0,mv 23 6,ia 24 1 22 23,ld 25 1 24,mv 7 25]) (Qb [0,1,5,6,7,29] (.reg [mv 26 1,mv 27 7,xo 28 (.callv (.t 26) [(.t 27)]),xo 29 (.un .not (.t 28))]) (.cond (.t 29) (Qb [0,1,5,6] (.reg [mv 30 0,mv 31 5,mv 32 7,ia 33 1 30 31,xs 1 33 32]) (.reg [mv 34 5,bc 35 .add 34 (V.int 1),mv 5 35])) .skip)))) (.reg [mv 20 6,bc 21 .add 20 (V.int 1),mv 6 21])))))) (Qb [0,5] (.reg [mv 36 0,mv 37 5,xo 38 (.slsl 1 (.t 36) (some (.t 37)) none),⟨none,.clrS 1 false [vi0] (.t 38),none⟩]) (Qb [4] (.reg [mv 39 0,mv 40 5,xo 41 (.slsl 1 (.t 39) none (some (.t 40))),mv 4 41]) .ret))))) def dZ:List Q0:=[.tmp 4]
def Xq (Γ:Env) (f:Nat):Prop:=∀ (xs:List Int) (g:Nat) (cap:List V) (p:Int→Bool) (hp:∀ x∈xs,EvN Γ g (V.int x :: cap) (V.bool (p x))) (hcap:Qh cap) (hl:xs.length < 2 ^ 34),EvZ Γ f [.clo g cap] 1 (xs.map V.int) ((xs.filter fun x ↦ !p x).length) ((xs.filter fun x ↦ !p x).map V.int++List.replicate (xs.length - (xs.filter fun x ↦ !p x).length) (V.int 0))
attribute [local go_sem] Y1 in
theorem jg {Γ:Env} {f Ys:Nat} (h:Has Γ.P f 42 (W2 Ys) dZ) (z0:Xy Γ Ys):Xq Γ f:=by
 intro xs g cap p hp hcap hl
 refine aks h (by simp) fun C hC hm=>?_
 subst hC
 unfold W2
 have s1:∀ o,Y2 o cap = cap:=fun o=>Wo o cap hcap
 have s2:∀ o B,QL o B cap = True:=fun o B=>eq_true (Xi o B cap hcap)
 have s3:∀ τ,K3 τ cap = cap:=fun τ=>J7 τ cap hcap
 have s4:∀ n,ltL n cap:=fun n=>WD n cap hcap
 have hlen:(xs.map V.int).length = xs.length:=zd _
 have htk:List.take xs.length (xs.map V.int) = xs.map V.int:=zj (by omega)
 have hi:=(z0 xs g cap p hp hcap (by omega)).b
 rcases ari p xs 0 with ⟨hx,hall⟩|⟨i,y,hx,hy,hpy,hall⟩
 ·rw [arv hall,kF]
  rw [hx] at hi
  have e1:((-1:Int) == -1) = true:=by decide
  (have zx:=za e1 (za s1 (za s2 (za hlen htk))));refine zgo ?_;repeat' first|exact zt|apply zan|intro hc
  all_goals first|(refine aoW _ rfl rfl rfl ?_ ?_<;>first|rfl|(simp;done))
 rw [kp] at hx
 rw [hx] at hi
 have hil:=(zh.1 hy).1
 have e1:((i:Int) == -1) = false:=by rw [kM];omega
 have hwi:=Qq (k:=i) (by omega)
 (have zx:=za e1 (za s1 (za s2 (za hlen (za htk hwi)))));refine zgo ?_;repeat' first|exact zt|apply zan|intro hc
 refine QC (ι:=List Int×Nat×Nat) (fun q=>q.1.length = xs.length∧q.2.1 < q.2.2∧q.2.2≤xs.length∧q.1.take q.2.1 = (xs.take q.2.2).filter (fun x=>!p x)∧q.1.drop q.2.2 = xs.drop q.2.2)
  (fun q=>Y1 [(0,.hd 0 0 (xs.map V.int).length),(1,.clo g cap),(5,V.int q.2.1),(6,V.int q.2.2)] [(0,.buf true 1 (q.1.map V.int))] 1) (fun q=>xs.length - q.2.2) (xs,i,i + 1)
  ⟨rfl,by simp only;omega,by simp only;omega,?_,rfl⟩ (Qi []) (Qv [] (by simp only [go_sem,zwl,s3,s4,hlen]<;>exact zcc) zwa (by simp) (by simp) (by omega)) fun q hq K' hL=>?_
 ·dsimp only
  rw [zP,hy,List.filter_append,arv hall]
  simp [hpy]
 obtain ⟨B,n,j⟩:=q
 obtain ⟨hB,hnj,hj,ht,hd⟩:=hq
 dsimp only at hB hnj hj ht hd
 have hBl:(B.map V.int).length = xs.length:=by rw [zd,hB]
 have hwj:=Qq (k:=j) (by omega)
 have hwn:=Qq (k:=n) (by omega)
 by_cases hje:j = xs.length
 ·have e3:decide ((j:Int) < (xs.length:Int)) = false:=zv (by omega)
  rw [hje,zJ] at ht
  have hgl:(xs.filter fun x=>!p x).length = n:=by rw [← ht,zM,hB];omega
  rw [hgl,← ht]
  (have zx:=za e3 hlen);refine zgo ?_;repeat' first|exact zt|apply zan|intro hc
  all_goals first
   | (rw [hlen];omega)
   | omega
   | (refine aoW _ rfl rfl rfl ?_ ?_<;>first|rfl|(rw [bo (by rw [hBl];omega),kD,kj];first|done|rfl)|(simp;done))
 have e3:decide ((j:Int) < (xs.length:Int)) = true:=zn (by omega)
 obtain ⟨u,hu⟩:∃ u,xs[j]? = some u:=⟨_,zb (by omega)⟩
 have hpu:=hp u (zm hu)
 have bu:B[j]? = some u:=by
  have:(B.drop j)[0]? = (xs.drop j)[0]?:=by rw [hd]
  rw [Zd,Zd,Nat.add_zero,hu] at this
  exact this
 have vu:(B.map V.int)[j]? = some (V.int u):=by rw [zi,bu];rfl
 have hd2:B.drop (j + 1) = xs.drop (j + 1):=by rw [← Zg,← Zg,hd]
 have hset:(B.map V.int).set n (V.int u) = (B.set n u).map V.int:=Zv.symm
 have ht2:(xs.take (j + 1)).filter (fun x=>!p x) = B.take n++(if p u = true then [] else [u]):=by
  rw [zP,hu,List.filter_append,ht]
  rcases hb0:p u with _|_<;>simp [hb0]
 rcases hb:p u with _|_
 ·rw [hb] at hpu ht2
  obtain ⟨t,bt⟩:∃ t,B[n]? = some t:=⟨_,zb (by omega)⟩
  have vt:(B.map V.int)[n]? = some (V.int t):=by rw [zi,bt];rfl
  (have zy0:=hpu.b;have zx:=za e3 (za hlen (za hwj (za hwn (za vu (za vt (za hset (za s1 s2))))))));refine zgo ?_;repeat' first|exact zt|apply zan|intro hc
  all_goals first
   | exact hL _ (B.set n u,n + 1,j + 1) (Qi []) ⟨by simp [hB],by simp only;omega,by simp only;omega,by
      dsimp only
      rw [ht2,zP,ZK (by omega),List.take_set_of_le (by omega)];rfl,by
      dsimp only
      rw [List.drop_set_of_lt (by omega)];exact hd2⟩ (by simp only;omega) (Qv [] (by simp only [go_sem,zwl,s3,s4,hlen]<;>exact zcc) zwa (by simp) (by simp) (by omega))
 ·rw [hb] at hpu ht2
  (have zy0:=hpu.b;have zx:=za e3 (za hlen (za hwj (za hwn (za vu (za s1 s2))))));refine zgo ?_;repeat' first|exact zt|apply zan|intro hc
  all_goals first
   | exact hL _ (B,n,j + 1) (Qi []) ⟨hB,by simp only;omega,by simp only;omega,by dsimp only;rw [ht2];simp,hd2⟩ (by simp only;omega) (Qv [] (by simp only [go_sem,zwl,s3,s4,hlen]<;>exact zcc) zwa (by simp) (by simp) (by omega))
def yd:AC:=Qb [0,1] (.reg [mc 3 (V.bool false)]) (Qb [3] (.reg [mv 4 0,ld 5 1 1,bn 6 .eql 4 5,mv 3 6]) .ret) def d9:List Q0:=[.tmp 3]
def VB (Γ:Env) (f:Nat):Prop:=∀ (x i:Int),EvN Γ f [V.int x,.ro [V.int i] 0] (V.bool (x == i))
theorem ac8 {Γ:Env} {f:Nat} (h:Has Γ.P f 7 yd d9) :VB Γ f:=by
 intro x i
 refine Qc h zsi zcl zcl fun C hC hm=>?_
 subst hC
 unfold yd
 exact zg
def aj5 (l:List Qa) (gap day age:Int) (f:Qg) (fs:List Nat):Bool:=decide (YS (Qx l fs) gap = 0) && Vh (Qx l fs) gap day age f
def Wk (i:Nat) (fs:List Nat):List Nat:=fs.filter fun x=>!(x == i)
def aak (h:List Nat→Bool):List Nat→List Nat→Bool→List Nat×Bool
 | [],fs,b=>(fs,b)
 | i :: r,fs,b=>if h (Wk i fs) = true then aak h r (Wk i fs) true else aak h r fs b
def aiS (h:List Nat→Bool):Nat→List Nat→List Nat
 | 0,fs=>fs
 | n + 1,fs=>if (aak h fs fs false).2 = true then aiS h n (aak h fs fs false).1 else (aak h fs fs false).1
theorem avO (i:Nat) (fs:List Nat):(Wk i fs).length≤fs.length:=List.length_filter_le ..
theorem axF {i:Nat} {fs:List Nat} (h:i∈fs):(Wk i fs).length < fs.length:=by
 rw [Wk,List.length_filter_lt_length_iff_exists]
 exact ⟨i,h,by simp⟩
theorem amH (i:Nat) (fs:List Nat):(Wk i fs).Sublist fs:=List.filter_sublist
theorem afN {h:List Nat→Bool}:∀ (r fs:List Nat) (b:Bool),(aak h r fs b).1.Sublist fs
 | [],fs,b=>Zt _
 | i :: r,fs,b=>by
   rw [aak]
   split
   ·exact (afN r _ _).trans (amH i fs)
   ·exact afN r _ _
theorem apQ {h:List Nat→Bool}:∀ (r fs:List Nat),r.Nodup→(∀ i∈r,i∈fs)→(aak h r fs false).2 = true→(aak h r fs false).1.length < fs.length
 | [],fs,_,_,hb=>by cases hb
 | i :: r,fs,hn,hs,hb=>by
   rw [aak] at hb ⊢
   split
   ·exact Nat.lt_of_le_of_lt (afN r _ _).length_le (axF (hs i kL))
   ·rename_i hh
    rw [if_neg hh] at hb
    exact apQ r fs (ZE.1 hn).2 (fun j hj=>hs j (kJ _ hj)) hb
theorem afO {h:List Nat→Bool}:∀ (r fs:List Nat) (b:Bool),h fs = true→h (aak h r fs b).1 = true
 | [],fs,b,hh=>hh
 | i :: r,fs,b,hh=>by
   rw [aak]
   split
   ·rename_i h2;exact afO r _ _ h2
   ·exact afO r _ _ hh
theorem amR {h:List Nat→Bool}:∀ (n:Nat) (fs:List Nat),(aiS h n fs).Sublist fs
 | 0,fs=>Zt _
 | n + 1,fs=>by
   rw [aiS]
   split
   ·exact (amR n _).trans (afN fs fs false)
   ·exact afN fs fs false
theorem aoP {h:List Nat→Bool}:∀ (n:Nat) (fs:List Nat),h fs = true→h (aiS h n fs) = true
 | 0,fs,hh=>hh
 | n + 1,fs,hh=>by
   rw [aiS]
   split
   ·exact aoP n _ (afO fs fs false hh)
   ·exact afO fs fs false hh
def aej (l:List Qa) (gap day age:Int) (f:Qg):List Nat:=aiS (aj5 l gap day age f) (l.length + 1) (List.range l.length)
def auy (l:List Qa) (gap day age:Int) (f:Qg):V :=
 if YS l gap = 0 then (if Vh l gap day age f = true then .tup [.sl 1 (QF (aej l gap day age f)),V.int 0] else .tup [.sl 1 [],V.int 4]) else .tup [.sl 1 [],V.int (YS l gap)]
def zrs (z:Nat):List V:=List.replicate z (V.int 0)
theorem arW (z:Nat):Qh (zrs z):=by
 induction z with
 | zero=>trivial
 | succ z ih=>exact ⟨trivial,ih⟩
def lfc (fs:List Nat) (z:Nat):List V:=QF fs++zrs z
theorem alY (fs:List Nat) (z:Nat):Qh (lfc fs z):=by
 rw [lfc]
 induction fs with
 | nil=>exact arW z
 | cons i r ih=>exact ⟨by simp only [V.closed],ih⟩
theorem ahh (σ:Nat→Nat) (fs:List Nat) (z:Nat):K3 σ (lfc fs z) = lfc fs z:=J7 _ _ (alY fs z)
theorem alX (n:Nat) (fs:List Nat) (z:Nat):ltL n (lfc fs z):=WD _ _ (alY fs z)
theorem avM (fs:List Nat):lfc fs 0 = QF fs:=kD _
theorem amG (fs:List Nat) (z:Nat):(lfc fs z).take fs.length = QF fs:=by
 rw [lfc,List.take_append_of_le_length (by rw [JF];exact zl _),zj (by rw [JF];exact zl _)]
theorem ap1 (fs:List Nat) (z:Nat):(lfc fs z).length = fs.length + z:=by simp [lfc,zrs,QF]
theorem avN (i:Nat) (fs:List Nat):((fs.map fun n:Nat=>(n:Int)).filter fun x=>!(x == (i:Int))) = (Wk i fs).map fun n:Nat=>(n:Int):=by
 rw [Wk,List.filter_map]
 congr 1
 apply List.filter_congr
 intro x _
 simp only [Function.comp]
 congr 1
 rw [Zi]
 simp
 omega
theorem ao8 {l:List Qa} {fs:List Nat} (h:∀ x∈l,x.Sz):∀ x∈Qx l fs,x.Sz:=fun x hx=>by
 rw [Qx,bf] at hx
 obtain ⟨i,_,hi⟩:=hx
 exact h x (zm hi)
def exT (l:List Qa) (gap day age:Int):List (Nat×V):=[(0,.sl 11 (l.map Qa.v)),(1,V.int gap),(2,V.int day),(3,V.int age),(9,.ptr 0 0)]
def auz (l:List Qa) (gap day age:Int) (f:Qg) (k:Nat):St:=Y1 (exT l gap day age++[(14,.hd 1 0 k),(39,V.int l.length),(40,V.int k)]) [(0,.box true f.cells),(1,.buf true 1 (QF (List.range k)))] 2
def aqj (l:List Qa) (gap day age:Int) (f:Qg) (fs:List Nat) (z:Nat) (b:Bool):St:=Y1 (exT l gap day age++[(14,.hd 1 0 fs.length),(16,V.bool b)]) [(0,.box true f.cells),(1,.buf true 1 (lfc fs z))] 2
def amS (l:List Qa) (gap day age:Int) (f:Qg) (fs gs:List Nat) (z:Nat) (b:Bool) (k:Nat):St:=Y1 (exT l gap day age++[(14,.hd 1 0 gs.length),(16,V.bool b),(50,.hd 2 0 fs.length),(51,V.int fs.length),(52,V.int k)]) [(0,.box true f.cells),(1,.buf true 1 (lfc gs z)),(2,.buf true 1 (QF fs))] 3
def yf:List (List Nat):=[[],[],[0,1],[],[],[],[],[2,3,4,5,6,2],[7],[8],[8],[9,7,0,1,2,3,4,5,6,7,8,9],[10,11,0,1,2,3,4,5,6,7,8,9,10,11]]
def jY:OT:=och 0 13
@[go_sem] def V6 (Q5 Q6:Nat):OP:=oN 0 (mv 61 0) (oN 1 (mv 62 19) (oN 2 (cl 63 Q5 [61,62]) (oN 3 (mv 64 1) (oN 4 (mv 65 2) (oN 5 (mv 66 3) (oN 6 (xo 67 (.load true 8 (.t 9))) (.one 7 false [2] (cl 68 Q6 [63,64,65,66,67]) (oN 8 (mv 60 68) (oN 9 (ex 69 60 0) (oN 10 (ex 70 60 1) (oN 11 (mv 20 69) (oN 12 (mv 21 70) .done))))))))))))
def j9 (Q5 Q6:Nat):List AO:=aoO (V6 Q5 Q6)
instance (Q5 Q6:Nat):RG [] jY (V6 Q5 Q6) (j9 Q5 Q6) yf 13 (fun _=>true):=⟨rfl,by kernel_rfl,by kernel_rfl⟩
def wN (Q6 QN XE Yh Q5:Nat):AC:=Qb [0,1,2,3,9] (.reg [xo 9 (.box true 8 (.t 4)),xo 10 (.mknil 1),mc 11 (V.int 0)]) (Qb [0,1,2,3,9,12,13] (.reg [mv 23 0,mv 24 1,mv 25 2,mv 26 3,xo 27 (.load true 8 (.t 9)),cl 28 Q6 [23,24,25,26,27],mv 22 28,ex 29 22 0,ex 30 22 1,mv 12 29,mv 13 30]) (Qb [0,1,2,3,9] (.block 0 (Qb [0,1,2,3,9,12,13,31] (.reg [mv 32 13,bc 33 .neq 32 (V.int 0),mv 31 33]) (.cond (.t 31) (Qb [10,11] (.reg [mv 34 13,xo 10 (.mknil 1),mv 11 34]) .ret) (Qb [0,1,2,3,9,35] (.reg [mv 36 12,xo 37 (.un .not (.t 36)),mv 35 37]) (.cond (.t 35) (Qb [10,11] (.reg [xo 10 (.mknil 1),mc 11 (V.int 4)]) .ret) .skip))))) (Qb [0,1,2,3,9,14] (.reg [xo 14 (.mknil 1)]) (Qb [0,1,2,3,9,14] (Qb [0,1,2,3,9,14,39,40] (.reg [mv 38 0,ln 39 38,mc 40 (V.int 0)]) (.block 1 (JG [0,1,2,3,9,14,39,40] (Qb [0,1,2,3,9,14,39,40,41] (.reg [bn 41 .lss 40 39]) (Qb [0,1,2,3,9,14,39,40] (.cond (.t 41) .skip (.exit 1)) (Qb [0,1,2,3,9,14,39,40] (.block 2 (Qb [0,1,2,3,9,14,15,39,40] (.reg [mv 42 40,mv 15 42]) (.reg [mv 43 14,mv 44 15,xo 45 (.bslice 1 1 false [vi0] [(0,(.t 44))]),xo 46 (.append 1 8 [vi0] (.t 43) (.t 45)),mv 14 46]))) (.reg [bc 47 .add 40 (V.int 1),mv 40 47]))))))) (Qb [14] (Qb [0,1,2,3,9,14,16] (.reg [mc 16 (V.bool true)]) (.block 3 (JG [0,1,2,3,9,14,16] (Qb [0,1,2,3,9,14] (Qb [0,1,2,3,9,14,48] (.reg [mv 48 16]) (.cond (.t 48) .skip (.exit 3))) (.block 4 (Qb [0,1,2,3,9,14,16] (.reg [mc 16 (V.bool false)]) (Qb [0,1,2,3,9,14,16,50,51,52] (.reg [mv 49 14,cl 50 QN [49],ln 51 50,mc 52 (V.int 0)]) (.block 5 (JG [0,1,2,3,9,14,16,50,51,52] (Qb [0,1,2,3,9,14,16,50,51,52,53] (.reg [bn 53 .lss 52 51]) (Qb [0,1,2,3,9,14,16,50,51,52] (.cond (.t 53) .skip (.exit 5)) (Qb [0,1,2,3,9,14,16,50,51,52] (.block 6 (Qb [0,1,2,3,9,14,16,18,50,51,52] (.reg [ia 54 1 50 52,ld 55 1 54,xo 18 (.alloc [.val vi0]),xs 1 18 55]) (Qb [0,1,2,3,9,14,16,19,50,51,52] (.reg [mv 56 14,cl 57 QN [56],xo 58 (.mkfn XE [(.t 18)]),cl 59 Yh [57,58],mv 19 59]) (Qb [0,1,2,3,9,14,16,19,20,21,50,51,52] (VD [] jY (V6 Q5 Q6) (j9 Q5 Q6) yf) (Qb [0,1,2,3,9,14,16,19,50,51,52,75] (.reg [mv 71 21,bc 72 .eql 71 (V.int 0),mv 73 72,mg 74 20 73 true,xo 75 (.pick (.t 73) (.t 74) (.c (V.bool false)))]) (.cond (.t 75) (.reg [mv 76 19,mv 14 76,mc 16 (V.bool true)]) .skip)))))) (.reg [bc 77 .add 52 (V.int 1),mv 52 77]))))))))))))) (Qb [10,11] (.reg [mv 78 14,mv 10 78,mc 11 (V.int 0)]) .ret)))))) def ec:List Q0:=[.tmp 10,.tmp 11]
def UN (Γ:Env) (f:Nat):Prop:=∀ (l:List Qa) (gap day age:Int) (f0:Qg) (hl:l.length≤12) (hz:∀ x∈l,x.Sz) (hdy:0≤day∧day≤40000) (hag:0≤age∧age≤4000),EvC Γ f [.sl 11 (l.map Qa.v),V.int gap,V.int day,V.int age,f0.v] (auy l gap day age f0)
attribute [local go_sem] Y1 in
theorem afj {Γ:Env} {f Q6 QN XE Yh Q5:Nat} (h:Has Γ.P f 79 (wN Q6 QN XE Yh Q5) ec) (z0:qH Γ Q6) (z1:Xk Γ QN) (z3:VB Γ XE) (z4:Xq Γ Yh) (z5:KY Γ Q5):UN Γ f:=by
 intro l gap day age f0 hl hz hdy hag
 refine Ju h zsi (by unfold auy;(repeat' split)<;>simp only [V.closed,Qh,and_self]) fun C hC hm=>?_
 subst hC
 unfold wN
 have g0:=(z0 l gap day age f0 hl hz hdy hag).b
 simp only [Qg.v,Qg.cells] at g0 ⊢
 by_cases hE:YS l gap = 0
 rotate_left
 ·rw [auy,if_neg hE]
  rw [aia,if_neg hE] at g0
  have e01:(YS l gap != 0) = true:=by simpa using hE
  generalize YS l gap = er at *
  (have zx:=e01);exact zg
 rw [auy,if_pos hE]
 rw [aia,if_pos hE] at g0
 have e00:((0:Int) != 0) = false:=by decide
 rcases hH:Vh l gap day age f0 with _|_
 ·rw [if_neg (by decide)]
  rw [hH] at g0
  (have zx:=e00);exact zg
 rw [if_pos rfl]
 rw [hH] at g0
 have hgv:(l.map Qa.v).length = l.length:=zd _
 (have zx:=za e00 hgv);refine zgo ?_;repeat' first|exact zt|apply zan|intro hc
 refine QC (ι:=Nat) (fun k=>k≤l.length) (fun k=>auz l gap day age f0 k) (fun k=>l.length - k) 0 (zG _) (Qi [(1,20000)]) (Qv [(1,20000)] (by simp only [go_sem,zwl,auz,exT,List.cons_append,List.nil_append]<;>exact zcc) (by simp only [go_sem,zwl,auz,exT,Qg.cells,QB,QT]<;>exact zcc) (by simp [auz,Qi]) (by simp [auz];omega) (by omega)) fun k hk K' hL=>?_
 rcases kI k l.length with hk'|hkl
 ·have hw:=Qq (k:=k) (by omega)
  have e1:decide ((k:Int) < (l.length:Int)) = true:=zn (by omega)
  have hjn:=aeF k
  have hol:(QF (List.range k)).length = k:=by rw [JF,kX]
  have htl:List.take k (QF (List.range k)) = QF (List.range k):=zj (by omega)
  simp only [auz,exT,Qg.cells,List.cons_append,List.nil_append]
  (have zx:=za e1 (za hw (za hjn (za hol htl))));refine zgo ?_;repeat' first|exact zt|apply zan|intro hc
  all_goals exact hL _ (k + 1) (Qi [(1,6002)]) (by omega) (by omega) (Qv [(1,6002)] (by simp only [go_sem,zwl,auz,exT,List.cons_append,List.nil_append]<;>exact zcc) (by simp only [go_sem,zwl,auz,exT,Qg.cells,QB,QT]<;>exact zcc) (by simp [auz,Qi]) (by simp [auz];omega) (by omega))
 obtain rfl:k = l.length:=by omega
 clear hL
 have e1:decide ((l.length:Int) < (l.length:Int)) = false:=by simp
 simp only [auz,exT,Qg.cells,List.cons_append,List.nil_append]
 (have zx:=e1);refine zgo ?_;repeat' first|exact zt|apply zan|intro hc
 have hrl:(List.range l.length).length = l.length:=kX
 have hz0:=avM (List.range l.length)
 generalize hhh:aj5 l gap day age f0 = hh at *
 generalize hfin:aiS hh (l.length + 1) (List.range l.length) = fin at *
 have hfo:aej l gap day age f0 = fin:=by rw [aej,hhh,hfin]
 rw [hfo]
 refine QC (ι:=List Nat×Nat×Bool×Nat) (fun q=>q.1.Sublist (List.range l.length)∧if q.2.2.1 = true then q.1.length < q.2.2.2∧aiS hh q.2.2.2 q.1 = fin else q.1 = fin) (fun q=>aqj l gap day age f0 q.1 q.2.1 q.2.2.1) (fun q=>if q.2.2.1 = true then q.2.2.2 else 0) (List.range l.length,0,true,l.length + 1) ⟨Zt _,by dsimp only;rw [if_pos rfl];exact ⟨by omega,hfin⟩⟩ (Qi []) (Qv [] (by simp only [go_sem,zwl,aqj,exT,hrl,List.cons_append,List.nil_append]<;>exact zcc) (by simp only [go_sem,zwl,aqj,exT,hz0,Qg.cells,QB,QT]<;>exact zcc) (by simp [aqj,Qi]) (by simp [aqj]) (by omega)) fun q hq K' hL=>?_
 obtain ⟨fs,z,b,n⟩:=q
 obtain ⟨hsb,hif⟩:=hq
 dsimp only at hsb hif
 have hfl:=hsb.length_le
 rw [hrl] at hfl
 have hft:=amG fs z
 have hll:=ap1 fs z
 have hmem:∀ gs:List Nat,gs.Sublist fs→∀ i∈gs,i < l.length:=fun gs h1 i h2=>k9.1 (hsb.subset (h1.subset h2))
 rcases b with _|_
 ·rw [if_neg (by decide)] at hif
  subst hif
  simp only [aqj,exT,Qg.cells,List.cons_append,List.nil_append]
  (have zx:=hft);refine zgo ?_;repeat' first|exact zt|apply zan|intro hc
  all_goals (refine Qr _ rfl ?_;simp only [go_sem];rw [hft];done)
 rw [if_pos rfl] at hif
 obtain ⟨hn,hex⟩:=hif
 obtain ⟨n,rfl⟩:∃ m,n = m + 1:=⟨n - 1,by omega⟩
 rw [aiS] at hex
 have gC:=z1 (fs.map fun n:Nat=>(n:Int)) (by rw [zd];omega)
 simp only [ajO] at gC
 have hpl:(QF fs).length = fs.length:=JF fs
 simp only [aqj,exT,Qg.cells,List.cons_append,List.nil_append]
 (have zx:=za hft hpl);refine zgo ?_;repeat' first|exact zt|apply zan|intro hc
 refine QC (ι:=List Nat×Nat×Bool×Nat) (fun q=>q.2.2.2≤fs.length∧q.1.Sublist fs∧aak hh (fs.drop q.2.2.2) q.1 q.2.2.1 = aak hh fs fs false) (fun q=>amS l gap day age f0 fs q.1 q.2.1 q.2.2.1 q.2.2.2) (fun q=>fs.length - q.2.2.2) (fs,z,false,0) ⟨zG _,Zt _,by rw [kr]⟩ (Qi [(2,3002)]) (Qv [(2,3002)] (by simp only [go_sem,zwl,amS,exT,List.cons_append,List.nil_append]<;>exact zcc) (by simp only [go_sem,zwl,amS,exT,Qg.cells,ahh,alX,QB,QT]<;>exact zcc) (by simp [amS,Qi]) (by simp [amS];omega) (by omega)) fun q hq K2 hL2=>?_
 obtain ⟨gs,z2,b2,k⟩:=q
 obtain ⟨hk,hgs,hps⟩:=hq
 dsimp only at hk hgs hps
 have hgl:=hgs.length_le
 have hft2:=amG gs z2
 have hll2:=ap1 gs z2
 rcases hdr:fs.drop k with _|⟨i,r⟩
 ·have hkl:=QY hdr
  have e2:decide ((k:Int) < (fs.length:Int)) = false:=zv (by omega)
  rw [hdr,aak] at hps
  have hlt:=apQ (h:=hh) fs fs (bs.sublist hsb) (fun i hi=>hi)
  rw [← hps] at hex hlt
  dsimp only at hex hlt
  simp only [amS,exT,Qg.cells,List.cons_append,List.nil_append]
  rcases b2 with _|_
  ·rw [if_neg (by decide)] at hex
   (have zx:=e2);refine zgo ?_;repeat' first|exact zt|apply zan|intro hc
   all_goals exact hL _ (gs,z2,false,0) (Qi []) ⟨hgs.trans hsb,by dsimp only;rw [if_neg (by decide)];exact hex⟩ (by simp) (Qv [] (by simp only [go_sem,zwl,aqj,exT,List.cons_append,List.nil_append]<;>exact zcc) (by simp only [go_sem,zwl,aqj,exT,Qg.cells,ahh,alX]<;>exact zcc) (by simp [aqj,Qi]) (by simp [aqj]) (by omega))
  ·rw [if_pos rfl] at hex
   have hlt2:=hlt rfl
   (have zx:=e2);refine zgo ?_;repeat' first|exact zt|apply zan|intro hc
   all_goals exact hL _ (gs,z2,true,n) (Qi []) ⟨hgs.trans hsb,by dsimp only;rw [if_pos rfl];exact ⟨by omega,hex⟩⟩ (by simp) (Qv [] (by simp only [go_sem,zwl,aqj,exT,List.cons_append,List.nil_append]<;>exact zcc) (by simp only [go_sem,zwl,aqj,exT,Qg.cells,ahh,alX]<;>exact zcc) (by simp [aqj,Qi]) (by simp [aqj]) (by omega))
 obtain ⟨hk',hget,hr⟩:=QJ hdr
 have hw:=Qq (k:=k) (by omega)
 have e2:decide ((k:Int) < (fs.length:Int)) = true:=zn (by omega)
 have vi:=Xm hget
 have gC2:=z1 (gs.map fun n:Nat=>(n:Int)) (by rw [zd];omega)
 have gZ:=z4 (gs.map fun n:Nat=>(n:Int)) XE [.ro [V.int (i:Int)] 0] (fun x=>x == (i:Int)) (fun x _=>z3 x i) (by simp only [V.closed,Qh,and_self]) (by rw [zd];omega)
 have hlf:QF (Wk i gs)++List.replicate (gs.length - (Wk i gs).length) (V.int 0) = lfc (Wk i gs) (gs.length - (Wk i gs).length):=rfl
 simp only [ajO,avN,zd,hlf] at gC2 gZ
 have hls:=amH i gs
 have hle:=avO i gs
 have hft3:=amG (Wk i gs) (gs.length - (Wk i gs).length)
 have hll3:=ap1 (Wk i gs) (gs.length - (Wk i gs).length)
 have hcb:=hmem (Wk i gs) (hls.trans hgs)
 have hcl:=aee hcb
 have p1:=z5 l (Wk i gs) hcb (by omega)
 have hct:List.take (Qx l (Wk i gs)).length ((Qx l (Wk i gs)).map Qa.v) = (Qx l (Wk i gs)).map Qa.v:=zj (by simp)
 have hcm:((Qx l (Wk i gs)).map Qa.v).length = (Qx l (Wk i gs)).length:=zd _
 have p2:=(z0 (Qx l (Wk i gs)) gap day age f0 (by omega) (ao8 hz) hdy hag).b
 simp only [Qg.v,Qg.cells] at p2
 have hh1:hh (Wk i gs) = (decide (YS (Qx l (Wk i gs)) gap = 0) && Vh (Qx l (Wk i gs)) gap day age f0):=by rw [← hhh,aj5]
 rw [hdr,aak,hh1,← hr] at hps
 clear hh1
 have hgp:(QF gs).length = gs.length:=JF gs
 simp only [amS,exT,Qg.cells,List.cons_append,List.nil_append]
 rw [aia] at p2
 generalize Wk i gs = ls at *
 by_cases h1:YS (Qx l ls) gap = 0
 ·rw [if_pos h1] at p2
  rw [zn h1,kh] at hps
  have e3:((0:Int) == 0) = true:=by decide
  rcases h2:Vh (Qx l ls) gap day age f0 with _|_
  ·rw [h2,if_neg (by decide)] at hps
   rw [h2] at p2
   repeat' (first|(refine zsk ?_;intro K' hK)|(refine zrg ?_;intro K' hK)|refine zsp ?_|(refine zsc ?_ ?_<;>intro hc<;>first|exact znh|try simp only [znz] at hc)|simp (maxSteps:=1000000) only [go_sem,Y1,e2,e3,hw,vi,hft2,hft3,hgp,hct,hcm,Int.toNat_natCast]|(refine hK _ ?_;clear hK K')|apply zan|(apply aqA;(focus exact rfl);(focus first|exact gZ);(focus exact rfl);(focus (first|exact rfl|(simp;done)|omega|(simp only [zd];omega)));(focus exact rfl);(focus first|exact rfl|decide);(focus (simp only [V.closed,Qh,and_self])))|((first|apply aiD|apply adx);(focus first|exact gC2|exact p1|exact (z1 _ zsd)))|(apply ape;(focus exact rfl);(focus first|exact (z4 _ _ _ _ zsd zsd zsd));(focus exact rfl);(focus (first|(simp;done)|omega|(simp only [zd];omega))))|((first|apply QR|apply QG);(focus first|exact p2|exact (z3 _ _).b))|exact zsq|fail)
   all_goals exact hL2 _ (gs,z2,b2,k + 1) (Qi []) ⟨by simp only;omega,hgs,hps⟩ (by simp only;omega) (Qv [] (by simp only [go_sem,zwl,amS,exT,List.cons_append,List.nil_append]<;>exact zcc) (by simp only [go_sem,zwl,amS,exT,Qg.cells,ahh,alX,QB,QT]<;>exact zcc) (by simp [amS,Qi]) (by simp [amS]) (by omega))
  ·rw [h2,if_pos rfl] at hps
   rw [h2] at p2
   repeat' (first|(refine zsk ?_;intro K' hK)|(refine zrg ?_;intro K' hK)|refine zsp ?_|(refine zsc ?_ ?_<;>intro hc<;>first|exact znh|try simp only [znz] at hc)|simp (maxSteps:=1000000) only [go_sem,Y1,e2,e3,hw,vi,hft2,hft3,hgp,hct,hcm,Int.toNat_natCast]|(refine hK _ ?_;clear hK K')|apply zan|(apply aqA;(focus exact rfl);(focus first|exact gZ);(focus exact rfl);(focus (first|exact rfl|(simp;done)|omega|(simp only [zd];omega)));(focus exact rfl);(focus first|exact rfl|decide);(focus (simp only [V.closed,Qh,and_self])))|((first|apply aiD|apply adx);(focus first|exact gC2|exact p1|exact (z1 _ zsd)))|(apply ape;(focus exact rfl);(focus first|exact (z4 _ _ _ _ zsd zsd zsd));(focus exact rfl);(focus (first|(simp;done)|omega|(simp only [zd];omega))))|((first|apply QR|apply QG);(focus first|exact p2|exact (z3 _ _).b))|exact zsq|fail)
   all_goals exact hL2 _ (ls,gs.length - ls.length,true,k + 1) (Qi [(1,6003)]) ⟨by simp only;omega,hls.trans hgs,hps⟩ (by simp only;omega) (Qv [(1,6003)] (by simp only [go_sem,zwl,amS,exT,List.cons_append,List.nil_append]<;>exact zcc) (by simp only [go_sem,zwl,amS,exT,Qg.cells,ahh,alX,QB,QT]<;>exact zcc) (by simp [amS,Qi]) (by simp [amS];omega) (by omega))
 ·rw [if_neg h1] at p2
  rw [zv h1,ke,if_neg (by decide)] at hps
  have e3:(YS (Qx l ls) gap == 0) = false:=by rw [kM];exact h1
  repeat' (first|(refine zsk ?_;intro K' hK)|(refine zrg ?_;intro K' hK)|refine zsp ?_|(refine zsc ?_ ?_<;>intro hc<;>first|exact znh|try simp only [znz] at hc)|simp (maxSteps:=1000000) only [go_sem,Y1,e2,e3,hw,vi,hft2,hft3,hgp,hct,hcm,Int.toNat_natCast]|(refine hK _ ?_;clear hK K')|apply zan|(apply aqA;(focus exact rfl);(focus first|exact gZ);(focus exact rfl);(focus (first|exact rfl|(simp;done)|omega|(simp only [zd];omega)));(focus exact rfl);(focus first|exact rfl|decide);(focus (simp only [V.closed,Qh,and_self])))|((first|apply aiD|apply adx);(focus first|exact gC2|exact p1|exact (z1 _ zsd)))|(apply ape;(focus exact rfl);(focus first|exact (z4 _ _ _ _ zsd zsd zsd));(focus exact rfl);(focus (first|(simp;done)|omega|(simp only [zd];omega))))|((first|apply QR|apply QG);(focus first|exact p2|exact (z3 _ _).b))|exact zsq|fail)
  all_goals exact hL2 _ (gs,z2,b2,k + 1) (Qi []) ⟨by simp only;omega,hgs,hps⟩ (by simp only;omega) (Qv [] (by simp only [go_sem,zwl,amS,exT,List.cons_append,List.nil_append]<;>exact zcc) (by simp only [go_sem,zwl,amS,exT,Qg.cells,ahh,alX,QB,QT]<;>exact zcc) (by simp [amS,Qi]) (by simp [amS]) (by omega))
def ayi (c:Int):Int×Int:=if c = 0 then (1,0) else if c = 1 then (2,0) else if c = 2 then (5,1024) else (14,128)
theorem avi {c:Int} (h:0≤c∧c < 4):([.agg [V.int 1,V.int 0],.agg [V.int 2,V.int 0],.agg [V.int 5,V.int 1024],.agg [V.int 14,V.int 128]]:List V)[c.toNat]? = some (.agg [V.int (ayi c).1,V.int (ayi c).2]):=by
 obtain rfl|rfl|rfl|rfl:c = 0∨c = 1∨c = 2∨c = 3:=by omega
 all_goals rfl
def auw (l:List Int) (f:Qa) (k:Nat):Qa×Nat :=
 if f.kind = 1∨f.kind = 8 then ({ f with alg:=(ayi (YA l k 4).1).1,bits:=(ayi (YA l k 4).1).2 },(YA l k 4).2)
 else if f.kind = 2 then ({ f with num:=1 + (YA l k 5).1 },(YA l k 5).2)
 else if f.kind = 3 then ({ f with alg:=5,bits:=(ofD l k [1024,2048]).1,num:=100 + (YA l (ofD l k [1024,2048]).2 3).1 },(YA l (ofD l k [1024,2048]).2 3).2)
 else if f.kind = 4∨f.kind = 5 then ({ f with num:=1 + (YA l k 4).1 },(YA l k 4).2)
 else if f.kind = 6 then ({ f with num:=(YA l k 3).1 },(YA l k 3).2)
 else ({ f with text:=(acz l k [[97],[98]]).1 },(acz l k [[97],[98]]).2)
def YB (l:List Int) (k:Nat):Qa×Nat :=
 let n1:=YA l k 7
 let w1:=acz l n1.2 [[97],[98],[99]]
 let o1:=ofD l w1.2 [0,1,2,0,3]
 let n2:=YA l o1.2 12
 let o2:=ofD l n2.2 [90,50,100,1]
 let n3:=YA l o2.2 8
 let w2:=acz l n3.2 [[115],[116]]
 (⟨1 + n1.1,w1.1,o1.1,n2.1,o2.1,1 + n3.1,w2.1,0,0,0,[]⟩,w2.2)
def afb (l:List Int) (k:Nat):Qa×Nat:=auw l (YB l k).1 (YB l k).2
def aeM (Ql XV WB:Nat):AC:=Qb [0,2] (.reg [xo 2 (.alloc [.val vi0,.val vs0,.val vi0,.val vi0,.val vi0,.val vi0,.val vs0,.val vi0,.val vi0,.val vi0,.val vs0])]) (Qb [0,2,3] (.reg [mv 4 0,xo 5 (.call Ql [(.t 4),(.c (V.int 7))]),xo 6 (.bin .add (.c (V.int 1)) (.t 5)),mv 7 0,xo 8 (.bslice 3 1 false [vs0] [(0,(.c (V.str [97]))),(1,(.c (V.str [98]))),(2,(.c (V.str [99])))]),cl 9 XV [7,8],mv 10 0,xo 11 (.bslice 5 1 false [vi0] [(0,(.c (V.int 0))),(1,(.c (V.int 1))),(2,(.c (V.int 2))),(3,(.c (V.int 0))),(4,(.c (V.int 3)))]),cl 12 WB [10,11],mv 13 0,xo 14 (.call Ql [(.t 13),(.c (V.int 12))]),mv 15 0,xo 16 (.bslice 4 1 false [vi0] [(0,(.c (V.int 90))),(1,(.c (V.int 50))),(2,(.c (V.int 100))),(3,(.c (V.int 1)))]),cl 17 WB [15,16],mv 18 0,xo 19 (.call Ql [(.t 18),(.c (V.int 8))]),xo 20 (.bin .add (.c (V.int 1)) (.t 19)),mv 21 0,xo 22 (.bslice 2 1 false [vs0] [(0,(.c (V.str [115]))),(1,(.c (V.str [116])))]),cl 23 XV [21,22],xo 24 (.build [vi0,vs0,vi0,vi0,vi0,vi0,vs0,vi0,vi0,vi0,vs0] [(0,1,(.t 6)),(1,1,(.t 9)),(2,1,(.t 12)),(3,1,(.t 14)),(4,1,(.t 17)),(5,1,(.t 20)),(6,1,(.t 23))]),xo 3 (.alloc [.val vi0,.val vs0,.val vi0,.val vi0,.val vi0,.val vi0,.val vs0,.val vi0,.val vi0,.val vi0,.val vs0]),xs 11 3 24]) (Qb [2,3] (Qb [0,2,3,26] (.reg [fa 25 5 3,ld 26 1 25]) (.block 0 (Qb [0,2,3,26,27] (Qb [0,2,3,26,27] (.reg [bc 28 .eql 26 (V.int 1),mv 27 28]) (.cond (.t 27) .skip (.reg [bc 29 .eql 26 (V.int 8),mv 27 29]))) (.cond (.t 27) (.reg [xo 30 (.build [vi0,vi0] [(0,1,(.c (V.int 1)))]),xo 31 (.build [vi0,vi0] [(0,1,(.c (V.int 2)))]),xo 32 (.build [vi0,vi0] [(0,1,(.c (V.int 5))),(1,1,(.c (V.int 1024)))]),xo 33 (.build [vi0,vi0] [(0,1,(.c (V.int 14))),(1,1,(.c (V.int 128)))]),xo 34 (.bslice 4 2 true [vi0,vi0] [(0,(.t 30)),(1,(.t 31)),(2,(.t 32)),(3,(.t 33))]),mv 35 0,xo 36 (.call Ql [(.t 35),(.c (V.int 4))]),ia 37 2 34 36,xo 38 (.load true 2 (.t 37)),fa 39 7 3,xs 2 39 38]) (Qb [0,2,3,26,40] (.reg [bc 41 .eql 26 (V.int 2),mv 40 41]) (.cond (.t 40) (.reg [mv 42 0,xo 43 (.call Ql [(.t 42),(.c (V.int 5))]),xo 44 (.bin .add (.c (V.int 1)) (.t 43)),fa 45 9 3,xs 1 45 44]) (Qb [0,2,3,26,46] (.reg [bc 47 .eql 26 (V.int 3),mv 46 47]) (.cond (.t 46) (.reg [mv 48 0,xo 49 (.bslice 2 1 false [vi0] [(0,(.c (V.int 1024))),(1,(.c (V.int 2048)))]),cl 50 WB [48,49],xo 51 (.build [vi0,vi0] [(0,1,(.c (V.int 5))),(1,1,(.t 50))]),mv 52 0,xo 53 (.call Ql [(.t 52),(.c (V.int 3))]),xo 54 (.bin .add (.c (V.int 100)) (.t 53)),fa 55 7 3,xs 2 55 51,fa 56 9 3,xs 1 56 54]) (Qb [0,2,3,26,57] (Qb [0,2,3,26,57] (.reg [bc 58 .eql 26 (V.int 4),mv 57 58]) (.cond (.t 57) .skip (.reg [bc 59 .eql 26 (V.int 5),mv 57 59]))) (.cond (.t 57) (.reg [mv 60 0,xo 61 (.call Ql [(.t 60),(.c (V.int 4))]),xo 62 (.bin .add (.c (V.int 1)) (.t 61)),fa 63 9 3,xs 1 63 62]) (Qb [0,2,3,26,64] (.reg [bc 65 .eql 26 (V.int 6),mv 64 65]) (.cond (.t 64) (.reg [mv 66 0,xo 67 (.call Ql [(.t 66),(.c (V.int 3))]),fa 68 9 3,xs 1 68 67]) (Qb [0,2,3,69] (.reg [bc 70 .eql 26 (V.int 7),mv 69 70]) (.cond (.t 69) (.reg [mv 71 0,xo 72 (.bslice 2 1 false [vs0] [(0,(.c (V.str [97]))),(1,(.c (V.str [98])))]),cl 73 XV [71,72],fa 74 10 3,xs 1 74 73]) .skip)))))))))))))) (Qb [2] (.reg [xo 75 (.load true 11 (.t 3)),xs 11 2 75]) .ret))) def ed:List Q0:=[.cell 2 true 11]
def xI (Γ:Env) (f:Nat):Prop:=∀ (l:List Int) (k:Nat) (hl:l.length≤400) (hk:k≤l.length),EvD Γ f [] (Vx l k) ((afb l k).1.v) (Vx l (afb l k).2)
attribute [local go_sem] Vx in
theorem akm {Γ:Env} {f Ql XV WB:Nat} (h:Has Γ.P f 76 (aeM Ql XV WB) ed) (z0:YI Γ Ql) (z1:KJ Γ XV) (z2:jO Γ WB):xI Γ f:=by
 intro l k hl hk
 refine UE h zsi (by first|exact aig _ _|simp only [Qa.v,Qa.cells,V.closed,Qh,and_self,and_true]) zc3 zc3 fun C hC hm=>?_
 subst hC
 unfold aeM
 have n1:=z0 l k 7 hl hk
 have r1:=Jf (l:=l) (k:=k) (n:=7) (by omega) (by omega)
 have k1:=Uh (n:=7) hk
 simp only [afb,YB]
 generalize YA l k 7 = x1 at *
 obtain ⟨a1,q1⟩:=x1
 simp only at n1 r1 k1 ⊢
 have n2:=z1 l q1 [[97],[98],[99]] hl k1 (by decide) (by decide)
 have k2:=afz (xs:=[[97],[98],[99]]) k1
 generalize acz l q1 [[97],[98],[99]] = x2 at *
 obtain ⟨a2,q2⟩:=x2
 simp only at n2 k2 ⊢
 have n3:=z2 l q2 [0,1,2,0,3] hl k2 (by decide) (by decide)
 have k3:=alT (xs:=[0,1,2,0,3]) k2
 generalize ofD l q2 [0,1,2,0,3] = x3 at *
 obtain ⟨a3,q3⟩:=x3
 simp only at n3 k3 ⊢
 have n4:=z0 l q3 12 hl k3
 have k4:=Uh (n:=12) k3
 generalize YA l q3 12 = x4 at *
 obtain ⟨a4,q4⟩:=x4
 simp only at n4 k4 ⊢
 have n5:=z2 l q4 [90,50,100,1] hl k4 (by decide) (by decide)
 have k5:=alT (xs:=[90,50,100,1]) k4
 generalize ofD l q4 [90,50,100,1] = x5 at *
 obtain ⟨a5,q5⟩:=x5
 simp only at n5 k5 ⊢
 have n6:=z0 l q5 8 hl k5
 have r6:=Jf (l:=l) (k:=q5) (n:=8) (by omega) (by omega)
 have k6:=Uh (n:=8) k5
 generalize YA l q5 8 = x6 at *
 obtain ⟨a6,q6⟩:=x6
 simp only at n6 r6 k6 ⊢
 have n7:=z1 l q6 [[115],[116]] hl k6 (by decide) (by decide)
 have k7:=afz (xs:=[[115],[116]]) k6
 generalize acz l q6 [[115],[116]] = x7 at *
 obtain ⟨a7,q7⟩:=x7
 simp only at n7 k7 ⊢
 have e1:IntKind.i64.wrap (1 + a1) = 1 + a1:=Q7 (by omega) (by omega)
 have m4:=z0 l q7 4 hl k7
 have s4:=Jf (l:=l) (k:=q7) (n:=4) (by omega) (by omega)
 have g4:=avi s4
 have e4:IntKind.i64.wrap (1 + (YA l q7 4).1) = 1 + (YA l q7 4).1:=Q7 (by omega) (by omega)
 have m5:=z0 l q7 5 hl k7
 have s5:=Jf (l:=l) (k:=q7) (n:=5) (by omega) (by omega)
 have e5:IntKind.i64.wrap (1 + (YA l q7 5).1) = 1 + (YA l q7 5).1:=Q7 (by omega) (by omega)
 have mo:=z2 l q7 [1024,2048] hl k7 (by decide) (by decide)
 have ko:=alT (xs:=[1024,2048]) k7
 have mp:=z0 l (ofD l q7 [1024,2048]).2 3 hl ko
 have sp:=Jf (l:=l) (k:=(ofD l q7 [1024,2048]).2) (n:=3) (by omega) (by omega)
 have ep:IntKind.i64.wrap (100 + (YA l (ofD l q7 [1024,2048]).2 3).1) = 100 + (YA l (ofD l q7 [1024,2048]).2 3).1:=Q7 (by omega) (by omega)
 have m3:=z0 l q7 3 hl k7
 have mw:=z1 l q7 [[97],[98]] hl k7 (by decide) (by decide)
 have w1:IntKind.i64.wrap 1 = 1:=by decide
 have w2:IntKind.i64.wrap 2 = 2:=by decide
 have w3:IntKind.i64.wrap 3 = 3:=by decide
 have w4:IntKind.i64.wrap 4 = 4:=by decide
 have w5:IntKind.i64.wrap 5 = 5:=by decide
 have w6:IntKind.i64.wrap 6 = 6:=by decide
 have w7:IntKind.i64.wrap 7 = 7:=by decide
 have w8:IntKind.i64.wrap 8 = 8:=by decide
 simp only [Vx,zI,zO] at n1 n2 n3 n4 n5 n6 n7 m4 m5 mo mp m3 mw
 obtain rfl|rfl|rfl|rfl|rfl|rfl|rfl|rfl:a6 = 0∨a6 = 1∨a6 = 2∨a6 = 3∨a6 = 4∨a6 = 5∨a6 = 6∨a6 = 7:=by omega
 all_goals
  simp only [auw,Int.reduceAdd,Int.reduceEq,or_true,true_or,or_self,if_true,if_false,Qa.v,Qa.cells]
  (have zx:=za e1 (za e4 (za e5 (za ep (za g4 (za w1 (za w2 (za w3 (za w4 (za w5 (za w6 (za w7 w8))))))))))));refine zgo ?_;repeat' first|exact zt|apply zan|intro hc
 all_goals (refine aie _ rfl rfl zcd ?_;simp only [go_sem];done)
theorem aud (a b:List UInt8):(!(Op.bytesLess a b || a == b)) = Op.bytesLess b a:=by
 rcases h1:Op.bytesLess a b with _|_
 ·rcases h2:Op.bytesLess b a with _|_
  ·have:=aaw a b h1 h2
   subst this;simp
  ·have:a≠b:=fun h=>by subst h;rw [h1] at h2;cases h2
   simp [this]
 ·rcases h2:Op.bytesLess b a with _|_
  ·simp
  ·have:=qo a b a h1 h2
   rw [aax] at this;cases this
theorem asy (x:Int):Jt [x] = x:=by
 simp only [Jt];split<;>omega
def agG:AC:=Qb [0,1] (.reg [mc 4 (V.int 0)]) (Qb [0,1] (Qb [0,1,7] (.reg [mv 5 0,mv 6 1,bn 7 .lss 5 6]) (.cond (.t 7) (Qb [4] (.reg [mc 4 (V.int (-1))]) .ret) .skip)) (Qb [] (Qb [10] (.reg [mv 8 0,mv 9 1,bn 10 .gtr 8 9]) (.cond (.t 10) (Qb [4] (.reg [mc 4 (V.int 1)]) .ret) .skip)) (Qb [4] (.reg [mc 4 (V.int 0)]) .ret))) def ee:List Q0:=[.tmp 4]
def vW (Γ:Env) (f:Nat):Prop:=∀ (a b:List UInt8),EvN Γ f [V.str a,V.str b] (V.int (abi a b))
theorem aln {Γ:Env} {f:Nat} (h:Has Γ.P f 11 agG ee) :vW Γ f:=by
 intro a b
 refine Qc h zsi zcl zcl fun C hC hm=>?_
 subst hC
 unfold agG
 have hg:=aud a b
 unfold abi
 rcases h1:Op.bytesLess a b with _|_
 ·rw [h1] at hg
  by_cases he:a = b
  ·subst he
   rw [h1]
   (have zx:=h1);exact zg
  ·have h2:(a == b) = false:=by simpa using he
   rw [h2] at hg
   rw [← hg]
   (have zx:=za h1 h2);exact zg
 ·(have zx:=h1);exact zg
def aeY:List (List Nat):=[[],[],[0,1],[2],[],[],[4,5],[6],[3,7]]
def aew:OT:=och 0 9
@[go_sem] def vw:OP:=oN 0 (mv 12 0) (oN 1 (mv 13 5) (oN 2 (ia 14 1 12 13) (oN 3 (ld 15 1 14) (oN 4 (mv 16 1) (oN 5 (mv 17 5) (oN 6 (ia 18 1 16 17) (oN 7 (ld 19 1 18) (oN 8 (bn 20 .lss 15 19) .done))))))))
def aeD:List AO:=aoO (vw)
instance:RG [] aew (vw) (aeD) aeY 9 (fun _=>true):=⟨rfl,by kernel_rfl,by kernel_rfl⟩
def aeX:List (List Nat):=[[],[],[0,1],[2],[],[],[4,5],[6],[3,7]]
def aev:OT:=och 0 9
@[go_sem] def vn:OP:=oN 0 (mv 21 0) (oN 1 (mv 22 5) (oN 2 (ia 23 1 21 22) (oN 3 (ld 24 1 23) (oN 4 (mv 25 1) (oN 5 (mv 26 5) (oN 6 (ia 27 1 25 26) (oN 7 (ld 28 1 27) (oN 8 (bn 29 .gtr 24 28) .done))))))))
def aeC:List AO:=aoO (vn)
instance:RG [] aev (vn) (aeC) aeX 9 (fun _=>true):=⟨rfl,by kernel_rfl,by kernel_rfl⟩
def aip:AC:=Qb [0,1] (.reg [mc 4 (V.int 0)]) (Qb [] (Qb [0,1,5] (.reg [mc 5 (V.int 0)]) (.block 0 (JG [0,1,5] (Qb [0,1,5] (Qb [0,1,5,9] (.reg [mv 6 5,mv 7 0,ln 8 7,bn 9 .lss 6 8]) (.cond (.t 9) .skip (.exit 0))) (Qb [0,1,5] (.block 1 (Qb [0,1,5] (Qb [0,1,5,20] (VD [] aew (vw) (aeD) aeY) (.cond (.t 20) (Qb [4] (.reg [mc 4 (V.int (-1))]) .ret) .skip)) (Qb [0,1,5,29] (VD [] aev (vn) (aeC) aeX) (.cond (.t 29) (Qb [4] (.reg [mc 4 (V.int 1)]) .ret) .skip)))) (.reg [mv 10 5,bc 11 .add 10 (V.int 1),mv 5 11])))))) (Qb [4] (.reg [mc 4 (V.int 0)]) .ret)) def ef:List Q0:=[.tmp 4]
def abN (Γ:Env) (f:Nat):Prop:=∀ (a b:List Int) (hab:a.length = b.length) (hl:a.length < 2 ^ 40),EvN Γ f [.sl 1 (a.map V.int),.sl 1 (b.map V.int)] (V.int (Jt (List.zipWith WN a b)))
theorem am2 {Γ:Env} {f:Nat} (h:Has Γ.P f 30 aip ef) :abN Γ f:=by
 intro a b hab hl
 refine Qc h zsi zcl zcl fun C hC hm=>?_
 subst hC
 unfold aip
 refine zgo ?_;repeat' first|exact zt|apply zan|intro hc
 refine Jc (ι:=Nat) (fun k=>k≤a.length∧Jt (List.zipWith WN (a.drop k) (b.drop k)) = Jt (List.zipWith WN a b)) (fun k=>[(5,V.int k)]) (fun k=>a.length - k) 0 (by omega) ⟨by simp,by simp⟩ zol zlt zet fun k hk K' hL=>?_
 obtain ⟨hk,hinv⟩:=hk
 simp only [ovT,Xr,Nat.reduceEqDiff,reduceIte]
 have hal:(a.map V.int).length = a.length:=zd _
 rcases hd:a.drop k with _|⟨y,r⟩
 ·have hkl:=QY hd
  rw [hd] at hinv
  have e1:decide ((k:Int) < (a.length:Int)) = false:=by simp;omega
  rw [← hinv]
  (have zx:=za e1 hal);refine zgo ?_;repeat' first|exact zt|apply zan|intro hc
  all_goals first|exact zr|(refine Qr _ rfl ?_;simp only [go_sem];rfl)
 ·obtain ⟨hk,hget,hr⟩:=QJ hd
  obtain ⟨z,hz⟩:∃ z,b[k]? = some z:=⟨_,zb (by omega)⟩
  have hdb:b.drop k = z :: b.drop (k + 1):=by
   obtain ⟨h1,h2⟩:=zh.1 hz
   rw [ka h1,h2]
  rw [hd,hdb,List.zipWith_cons_cons,Jt,← hr] at hinv
  have hw:=Qq (k:=k) (by omega)
  have e1:decide ((k:Int) < (a.length:Int)) = true:=by simp;omega
  have va:(a.map V.int)[k]? = some (V.int y):=by rw [zi,hget];rfl
  have vb:(b.map V.int)[k]? = some (V.int z):=by rw [zi,hz];rfl
  rcases h1:decide (y < z) with _|_
  ·rcases h2:decide (y > z) with _|_
   ·have hyz:WN y z = 0:=by simp at h1 h2;unfold WN;rw [if_neg (by omega),if_neg (by omega)]
    rw [hyz,if_neg (by decide)] at hinv
    (have zx:=za e1 (za hal (za va (za vb (za h1 (za h2 hw))))));refine zgo ?_;repeat' first|exact zt|apply zan|intro hc
    all_goals exact hL _ (k + 1) zet ⟨by omega,hinv⟩ (by omega) zoe
   ·have hyz:WN y z = 1:=by simp at h1 h2;unfold WN;rw [if_neg (by omega),if_pos (by omega)]
    rw [hyz,if_pos (by decide)] at hinv
    rw [← hinv]
    (have zx:=za e1 (za hal (za va (za vb (za h1 (za h2 hw))))));exact zg
  ·have hyz:WN y z = -1:=by simp at h1;unfold WN;rw [if_pos (by omega)]
   rw [hyz,if_pos (by decide)] at hinv
   rw [← hinv]
   (have zx:=za e1 (za hal (za va (za vb (za h1 hw)))));exact zg
theorem avs (a b:Qa):aiP a b = Jt [abi a.host b.host,Jt [WN a.mach b.mach,WN a.day b.day],abi a.subj b.subj,Jt [WN a.kind b.kind,WN a.alg b.alg,WN a.bits b.bits,WN a.num b.num],abi a.text b.text,Jt [WN a.src b.src,WN a.conf b.conf]]:=by
 simp only [aiP,axp,Jt]
 repeat' split
 all_goals first|rfl|omega|simp_all
def agH (VH UT:Nat):AC:=Qb [2,3] (.reg [xo 2 (.box true 11 (.t 0)),xo 3 (.box true 11 (.t 1)),mc 4 (V.int 0)]) (Qb [2,3] (Qb [2,3,5] (.reg [fa 10 1 2,ld 11 1 10,fa 12 1 3,ld 13 1 12,cl 14 VH [11,13],mv 5 14]) (Qb [2,3,5,16] (.reg [mv 15 5,bc 16 .neq 15 (V.int 0)]) (.cond (.t 16) (Qb [4] (.reg [mv 17 5,mv 4 17]) .ret) .skip))) (Qb [2,3] (Qb [2,3,6] (.reg [fa 18 2 2,ld 19 1 18,fa 20 3 2,ld 21 1 20,xo 22 (.bslice 2 1 false [vi0] [(0,(.t 19)),(1,(.t 21))]),fa 23 2 3,ld 24 1 23,fa 25 3 3,ld 26 1 25,xo 27 (.bslice 2 1 false [vi0] [(0,(.t 24)),(1,(.t 26))]),cl 28 UT [22,27],mv 6 28]) (Qb [2,3,6,30] (.reg [mv 29 6,bc 30 .neq 29 (V.int 0)]) (.cond (.t 30) (Qb [4] (.reg [mv 31 6,mv 4 31]) .ret) .skip))) (Qb [2,3] (Qb [2,3,7] (.reg [fa 32 6 2,ld 33 1 32,fa 34 6 3,ld 35 1 34,cl 36 VH [33,35],mv 7 36]) (Qb [2,3,7,38] (.reg [mv 37 7,bc 38 .neq 37 (V.int 0)]) (.cond (.t 38) (Qb [4] (.reg [mv 39 7,mv 4 39]) .ret) .skip))) (Qb [2,3] (Qb [2,3,8] (.reg [fa 40 5 2,ld 41 1 40,fa 42 7 2,fa 43 0 42,ld 44 1 43,fa 45 7 2,fa 46 1 45,ld 47 1 46,fa 48 9 2,ld 49 1 48,xo 50 (.bslice 4 1 false [vi0] [(0,(.t 41)),(1,(.t 44)),(2,(.t 47)),(3,(.t 49))]),fa 51 5 3,ld 52 1 51,fa 53 7 3,fa 54 0 53,ld 55 1 54,fa 56 7 3,fa 57 1 56,ld 58 1 57,fa 59 9 3,ld 60 1 59,xo 61 (.bslice 4 1 false [vi0] [(0,(.t 52)),(1,(.t 55)),(2,(.t 58)),(3,(.t 60))]),cl 62 UT [50,61],mv 8 62]) (Qb [2,3,8,64] (.reg [mv 63 8,bc 64 .neq 63 (V.int 0)]) (.cond (.t 64) (Qb [4] (.reg [mv 65 8,mv 4 65]) .ret) .skip))) (Qb [2,3] (Qb [2,3,9] (.reg [fa 66 10 2,ld 67 1 66,fa 68 10 3,ld 69 1 68,cl 70 VH [67,69],mv 9 70]) (Qb [2,3,9,72] (.reg [mv 71 9,bc 72 .neq 71 (V.int 0)]) (.cond (.t 72) (Qb [4] (.reg [mv 73 9,mv 4 73]) .ret) .skip))) (Qb [4] (.reg [fa 74 0 2,ld 75 1 74,fa 76 4 2,ld 77 1 76,xo 78 (.bslice 2 1 false [vi0] [(0,(.t 75)),(1,(.t 77))]),fa 79 0 3,ld 80 1 79,fa 81 4 3,ld 82 1 81,xo 83 (.bslice 2 1 false [vi0] [(0,(.t 80)),(1,(.t 82))]),cl 84 UT [78,83],mv 4 84]) .ret)))))) def eg:List Q0:=[.tmp 4]
def qS (Γ:Env) (f:Nat):Prop:=∀ (a b:Qa),EvN Γ f [a.v,b.v] (V.int (aiP a b))
theorem alo {Γ:Env} {f VH UT:Nat} (h:Has Γ.P f 85 (agH VH UT) eg) (z0:vW Γ VH) (z1:abN Γ UT):qS Γ f:=by
 intro a b
 refine Qc h zsi zcl zcl fun C hC hm=>?_
 subst hC
 unfold agH
 have p1:=(z0 a.host b.host).b
 have p2:=(z1 [a.mach,a.day] [b.mach,b.day] rfl (by simp)).b
 have p3:=(z0 a.subj b.subj).b
 have p4:=(z1 [a.kind,a.alg,a.bits,a.num] [b.kind,b.alg,b.bits,b.num] rfl (by simp)).b
 have p5:=(z0 a.text b.text).b
 have p6:=(z1 [a.src,a.conf] [b.src,b.conf] rfl (by simp)).b
 simp only [zI,zO,List.zipWith_cons_cons,List.zipWith_nil_left] at p2 p4 p6
 rw [avs]
 generalize abi a.host b.host = o1 at *
 generalize Jt [WN a.mach b.mach,WN a.day b.day] = o2 at *
 generalize abi a.subj b.subj = o3 at *
 generalize Jt [WN a.kind b.kind,WN a.alg b.alg,WN a.bits b.bits,WN a.num b.num] = o4 at *
 generalize abi a.text b.text = o5 at *
 generalize Jt [WN a.src b.src,WN a.conf b.conf] = o6 at *
 simp only [Qa.v,Qa.cells]
 have F:∀ (x:Int) (r:List Int),x≠0→Jt (x :: r) = x:=fun x r h=>by rw [Jt,if_pos h]
 have N:∀ (x:Int) (r:List Int),x = 0→Jt (x :: r) = Jt r:=fun x r h=>by rw [Jt,if_neg (by simpa using h)]
 by_cases h1:o1 = 0
 rotate_left
 ·have c1:(o1 != 0) = true:=by simpa using h1
  rw [F _ _ h1]
  (have zx:=c1);exact zg
 have c1:(o1 != 0) = false:=by simpa using h1
 rw [N _ _ h1]
 by_cases h2:o2 = 0
 rotate_left
 ·have c2:(o2 != 0) = true:=by simpa using h2
  rw [F _ _ h2]
  (have zx:=za c1 c2);exact zg
 have c2:(o2 != 0) = false:=by simpa using h2
 rw [N _ _ h2]
 by_cases h3:o3 = 0
 rotate_left
 ·have c3:(o3 != 0) = true:=by simpa using h3
  rw [F _ _ h3]
  (have zx:=za c1 (za c2 c3));exact zg
 have c3:(o3 != 0) = false:=by simpa using h3
 rw [N _ _ h3]
 by_cases h4:o4 = 0
 rotate_left
 ·have c4:(o4 != 0) = true:=by simpa using h4
  rw [F _ _ h4]
  (have zx:=za c1 (za c2 (za c3 c4)));exact zg
 have c4:(o4 != 0) = false:=by simpa using h4
 rw [N _ _ h4]
 by_cases h5:o5 = 0
 rotate_left
 ·have c5:(o5 != 0) = true:=by simpa using h5
  rw [F _ _ h5]
  (have zx:=za c1 (za c2 (za c3 (za c4 c5))));exact zg
 have c5:(o5 != 0) = false:=by simpa using h5
 rw [N _ _ h5,asy]
 (have zx:=za c1 (za c2 (za c3 (za c4 c5))));exact zg
def adG:List (List Nat):=[[],[0],[],[1,2],[],[4],[5],[],[7],[8],[3,0,1,2,3],[6,10,0,1,2,3,4,5,6,10],[9,11,0,1,2,3,4,5,6,7,8,9,10,11]]
def acN:OT:=och 0 13
@[go_sem] def yS:OP:=oN 0 (fa 57 7 1) (oN 1 (xo 58 (.load true 2 (.t 57))) (oN 2 (xo 59 (.build [vi0,vi0] [])) (oN 3 (xo 60 (.eqagg false [0,0] (.t 58) (.t 59))) (oN 4 (fa 61 9 1) (oN 5 (ld 62 1 61) (oN 6 (bc 63 .eql 62 (V.int 0)) (oN 7 (fa 64 10 1) (oN 8 (ld 65 1 64) (oN 9 (bc 66 .eql 65 (V.str [])) (oN 10 (mv 3 60) (oN 11 (mv 4 63) (oN 12 (mv 5 66) .done))))))))))))
def ac3:List AO:=aoO (yS)
instance:RG [] acN (yS) (ac3) adG 13 (fun _=>true):=⟨rfl,by kernel_rfl,by kernel_rfl⟩
def agI (UU Jw VI:Nat):AC:=Qb [1] (.reg [xo 1 (.box true 11 (.t 0)),mc 2 (V.int 0)]) (Qb [1] (Qb [1,56] (.reg [fa 7 0 1,ld 8 1 7,bc 9 .lss 8 (V.int 1),mv 10 9,xg 11 (.faddr 0 (.t 1)) 10 false,xg 12 (.load false 1 (.t 11)) 10 false,xg 13 (.bin .gtr (.t 12) (.c (V.int 7))) 10 false,xo 14 (.pick (.t 10) (.c (V.bool true)) (.t 13)),mv 15 14,xg 16 (.faddr 1 (.t 1)) 15 false,xg 17 (.load false 1 (.t 16)) 15 false,xg 18 (.call UU [(.t 17)]) 15 false,xg 19 (.un .not (.t 18)) 15 false,xo 20 (.pick (.t 15) (.c (V.bool true)) (.t 19)),mv 21 20,xg 22 (.faddr 2 (.t 1)) 21 false,xg 23 (.load false 1 (.t 22)) 21 false,xg 24 (.bin .lss (.t 23) (.c (V.int 0))) 21 false,xo 25 (.pick (.t 21) (.c (V.bool true)) (.t 24)),mv 26 25,xg 27 (.faddr 2 (.t 1)) 26 false,xg 28 (.load false 1 (.t 27)) 26 false,xg 29 (.bin .gtr (.t 28) (.c (V.int 1099511627776))) 26 false,xo 30 (.pick (.t 26) (.c (V.bool true)) (.t 29)),mv 31 30,xg 32 (.faddr 3 (.t 1)) 31 false,xg 33 (.load false 1 (.t 32)) 31 false,xg 34 (.bin .lss (.t 33) (.c (V.int 0))) 31 false,xo 35 (.pick (.t 31) (.c (V.bool true)) (.t 34)),mv 36 35,xg 37 (.faddr 3 (.t 1)) 36 false,xg 38 (.load false 1 (.t 37)) 36 false,xg 39 (.bin .gtr (.t 38) (.c (V.int 40000))) 36 false,xo 40 (.pick (.t 36) (.c (V.bool true)) (.t 39)),mv 41 40,xg 42 (.faddr 4 (.t 1)) 41 false,xg 43 (.load false 1 (.t 42)) 41 false,xg 44 (.bin .lss (.t 43) (.c (V.int 1))) 41 false,xo 45 (.pick (.t 41) (.c (V.bool true)) (.t 44)),mv 46 45,xg 47 (.faddr 4 (.t 1)) 46 false,xg 48 (.load false 1 (.t 47)) 46 false,xg 49 (.bin .gtr (.t 48) (.c (V.int 100))) 46 false,xo 50 (.pick (.t 46) (.c (V.bool true)) (.t 49)),mv 51 50,xg 52 (.faddr 6 (.t 1)) 51 false,xg 53 (.load false 1 (.t 52)) 51 false,xg 54 (.call UU [(.t 53)]) 51 false,xg 55 (.un .not (.t 54)) 51 false,xo 56 (.pick (.t 51) (.c (V.bool true)) (.t 55))]) (.cond (.t 56) (Qb [2] (.reg [mc 2 (V.int 24)]) .ret) .skip)) (Qb [1,3,4,5] (VD [] acN (yS) (ac3) adG) (Qb [1,3,4,5,6] (.reg [mc 6 (V.bool false)]) (Qb [6] (Qb [1,3,4,5,6,68] (.reg [fa 67 5 1,ld 68 1 67]) (.block 0 (Qb [1,3,4,5,6,68,69] (Qb [1,3,4,5,6,68,69] (.reg [bc 70 .eql 68 (V.int 1),mv 69 70]) (.cond (.t 69) .skip (.reg [bc 71 .eql 68 (V.int 8),mv 69 71]))) (.cond (.t 69) (.reg [fa 72 7 1,xo 73 (.load true 2 (.t 72)),cl 74 Jw [73],mv 75 74,mg 76 4 75 true,xo 77 (.pick (.t 75) (.t 76) (.c (V.bool false))),mv 78 77,mg 79 5 78 true,xo 80 (.pick (.t 78) (.t 79) (.c (V.bool false))),mv 6 80]) (Qb [1,3,4,5,6,68,81] (.reg [bc 82 .eql 68 (V.int 2),mv 81 82]) (.cond (.t 81) (.reg [mv 83 3,mv 84 83,xg 85 (.faddr 9 (.t 1)) 84 true,xg 86 (.load false 1 (.t 85)) 84 true,xg 87 (.bin .geq (.t 86) (.c (V.int 0))) 84 true,xo 88 (.pick (.t 84) (.t 87) (.c (V.bool false))),mv 89 88,xg 90 (.faddr 9 (.t 1)) 89 true,xg 91 (.load false 1 (.t 90)) 89 true,xg 92 (.bin .leq (.t 91) (.c (V.int 65535))) 89 true,xo 93 (.pick (.t 89) (.t 92) (.c (V.bool false))),mv 94 93,mg 95 5 94 true,xo 96 (.pick (.t 94) (.t 95) (.c (V.bool false))),mv 6 96]) (Qb [1,3,4,5,6,68,97] (.reg [bc 98 .eql 68 (V.int 3),mv 97 98]) (.cond (.t 97) (.reg [fa 99 7 1,xo 100 (.load true 2 (.t 99)),cl 101 VI [100],mv 102 101,xg 103 (.faddr 9 (.t 1)) 102 true,xg 104 (.load false 1 (.t 103)) 102 true,xg 105 (.bin .geq (.t 104) (.c (V.int 0))) 102 true,xo 106 (.pick (.t 102) (.t 105) (.c (V.bool false))),mv 107 106,xg 108 (.faddr 9 (.t 1)) 107 true,xg 109 (.load false 1 (.t 108)) 107 true,xg 110 (.bin .leq (.t 109) (.c (V.int 2147483648))) 107 true,xo 111 (.pick (.t 107) (.t 110) (.c (V.bool false))),mv 112 111,mg 113 5 112 true,xo 114 (.pick (.t 112) (.t 113) (.c (V.bool false))),mv 6 114]) (Qb [1,3,4,5,6,68,115] (Qb [1,3,4,5,6,68,115] (.reg [bc 116 .eql 68 (V.int 4),mv 115 116]) (.cond (.t 115) .skip (.reg [bc 117 .eql 68 (V.int 5),mv 115 117]))) (.cond (.t 115) (.reg [mv 118 3,mv 119 118,xg 120 (.faddr 9 (.t 1)) 119 true,xg 121 (.load false 1 (.t 120)) 119 true,xg 122 (.bin .geq (.t 121) (.c (V.int 1))) 119 true,xo 123 (.pick (.t 119) (.t 122) (.c (V.bool false))),mv 124 123,xg 125 (.faddr 9 (.t 1)) 124 true,xg 126 (.load false 1 (.t 125)) 124 true,xg 127 (.bin .leq (.t 126) (.c (V.int 4))) 124 true,xo 128 (.pick (.t 124) (.t 127) (.c (V.bool false))),mv 129 128,mg 130 5 129 true,xo 131 (.pick (.t 129) (.t 130) (.c (V.bool false))),mv 6 131]) (Qb [1,3,4,5,6,68,132] (.reg [bc 133 .eql 68 (V.int 6),mv 132 133]) (.cond (.t 132) (.reg [mv 134 3,mv 135 134,xg 136 (.faddr 9 (.t 1)) 135 true,xg 137 (.load false 1 (.t 136)) 135 true,xg 138 (.bin .geq (.t 137) (.c (V.int 0))) 135 true,xo 139 (.pick (.t 135) (.t 138) (.c (V.bool false))),mv 140 139,xg 141 (.faddr 9 (.t 1)) 140 true,xg 142 (.load false 1 (.t 141)) 140 true,xg 143 (.bin .leq (.t 142) (.c (V.int 2147483648))) 140 true,xo 144 (.pick (.t 140) (.t 143) (.c (V.bool false))),mv 145 144,mg 146 5 145 true,xo 147 (.pick (.t 145) (.t 146) (.c (V.bool false))),mv 6 147]) (Qb [1,3,4,6,148] (.reg [bc 149 .eql 68 (V.int 7),mv 148 149]) (.cond (.t 148) (.reg [mv 150 3,mv 151 150,mg 152 4 151 true,xo 153 (.pick (.t 151) (.t 152) (.c (V.bool false))),mv 154 153,xg 155 (.faddr 10 (.t 1)) 154 true,xg 156 (.load false 1 (.t 155)) 154 true,xg 157 (.call UU [(.t 156)]) 154 true,xo 158 (.pick (.t 154) (.t 157) (.c (V.bool false))),mv 6 158]) .skip)))))))))))))) (Qb [] (Qb [160] (.reg [mv 159 6,xo 160 (.un .not (.t 159))]) (.cond (.t 160) (Qb [2] (.reg [mc 2 (V.int 24)]) .ret) .skip)) (Qb [2] (.reg [mc 2 (V.int 0)]) .ret)))))) def eh:List Q0:=[.tmp 2]
def Uf (Γ:Env) (f:Nat):Prop:=∀ (f0:Qa) (hz:f0.Sz) (hc0:Yg f0 = true),EvN Γ f [f0.v] (V.int 0)
theorem alp {Γ:Env} {f UU Jw VI:Nat} (h:Has Γ.P f 161 (agI UU Jw VI) eh) (z0:abP Γ UU) (z4:Ug Γ Jw) (z5:KH Γ VI):Uf Γ f:=by
 intro f0 hz hc0
 refine Qc h zsi zcl zcl fun C hC hm=>?_
 subst hC
 unfold agI
 obtain ⟨src,host,mach,day,conf,kind,subj,alg,bits,num,text⟩:=f0
 obtain ⟨z1,z2,z3⟩:=hz
 have p1:=(z0 host z1).b
 have p2:=(z0 subj z2).b
 have p3:=(z0 text z3).b
 have p4:=(z4 alg bits).b
 have p5:=(z5 alg bits).b
 simp only [Yg,zo,Zh,zu,zH] at hc0
 obtain ⟨⟨⟨⟨⟨⟨⟨n1,n2⟩,m1⟩,m2⟩,⟨⟨⟨m3,m4⟩,m5⟩,m6⟩⟩,m7⟩,m8⟩,hcont⟩:=hc0
 rw [n1] at p1
 rw [n2] at p2
 have d1:decide (src < 1) = false:=zv (by omega)
 have d2:decide (src > 7) = false:=zv (by omega)
 have d3:decide (mach < 0) = false:=zv (by omega)
 have d4:decide (mach > 1099511627776) = false:=zv (by omega)
 have d5:decide (day < 0) = false:=zv (by omega)
 have d6:decide (day > 40000) = false:=zv (by omega)
 have d7:decide (conf < 1) = false:=zv (by omega)
 have d8:decide (conf > 100) = false:=zv (by omega)
 simp only [Qa.v,Qa.cells]
 have n0:((0:Int) == 0) = true:=by decide
 have E:∀ n:Int,kind≠n→(kind == n) = false:=fun n h=>by simpa using h
 rw [Ky] at hcont
 dsimp only at hcont
 simp only [amB] at hcont
 by_cases k1:kind = 1
 ·subst k1
  simp only [true_or,if_true,zo,ki] at hcont
  obtain ⟨⟨q1,rfl⟩,rfl⟩:=hcont
  rw [q1] at p4
  (have zx:=za d1 (za d2 (za d3 (za d4 (za d5 (za d6 (za d7 (za d8 n0))))))));exact zg
 by_cases k8:kind = 8
 ·subst k8
  simp only [or_true,if_true,zo,ki] at hcont
  obtain ⟨⟨q1,rfl⟩,rfl⟩:=hcont
  rw [q1] at p4
  (have zx:=za d1 (za d2 (za d3 (za d4 (za d5 (za d6 (za d7 (za d8 n0))))))));exact zg
 rw [if_neg (by simp [k1,k8])] at hcont
 by_cases k2:kind = 2
 ·subst k2
  simp only [if_true,zo,ki,zu] at hcont
  obtain ⟨⟨⟨⟨rfl,rfl⟩,rfl⟩,q1⟩,q2⟩:=hcont
  have g1:decide (num≥0) = true:=zn q1
  have g2:decide (num≤65535) = true:=zn q2
  (have zx:=za d1 (za d2 (za d3 (za d4 (za d5 (za d6 (za d7 (za d8 (za n0 (za g1 g2))))))))));exact zg
 rw [if_neg k2] at hcont
 by_cases k3:kind = 3
 ·subst k3
  simp only [if_true,zo,ki,zu] at hcont
  obtain ⟨⟨⟨⟨q0,q3⟩,q1⟩,q2⟩,rfl⟩:=hcont
  have hu:aw8 alg bits 2 = true:=by rw [aw8,q3,zn q0];rfl
  rw [hu] at p5
  have g1:decide (num≥0) = true:=zn q1
  have g2:decide (num≤2147483648) = true:=zn q2
  (have zx:=za d1 (za d2 (za d3 (za d4 (za d5 (za d6 (za d7 (za d8 (za n0 (za g1 g2))))))))));exact zg
 rw [if_neg k3] at hcont
 by_cases k4:kind = 4
 ·subst k4
  simp only [true_or,if_true,zo,ki,zu] at hcont
  obtain ⟨⟨⟨⟨rfl,rfl⟩,rfl⟩,q1⟩,q2⟩:=hcont
  have g1:decide (num≥1) = true:=zn q1
  have g2:decide (num≤4) = true:=zn q2
  (have zx:=za d1 (za d2 (za d3 (za d4 (za d5 (za d6 (za d7 (za d8 (za n0 (za g1 g2))))))))));exact zg
 by_cases k5:kind = 5
 ·subst k5
  simp only [or_true,if_true,zo,ki,zu] at hcont
  obtain ⟨⟨⟨⟨rfl,rfl⟩,rfl⟩,q1⟩,q2⟩:=hcont
  have g1:decide (num≥1) = true:=zn q1
  have g2:decide (num≤4) = true:=zn q2
  (have zx:=za d1 (za d2 (za d3 (za d4 (za d5 (za d6 (za d7 (za d8 (za n0 (za g1 g2))))))))));exact zg
 rw [if_neg (by simp [k4,k5])] at hcont
 by_cases k6:kind = 6
 ·subst k6
  simp only [if_true,zo,ki,zu] at hcont
  obtain ⟨⟨⟨⟨rfl,rfl⟩,rfl⟩,q1⟩,q2⟩:=hcont
  have g1:decide (num≥0) = true:=zn q1
  have g2:decide (num≤2147483648) = true:=zn q2
  (have zx:=za d1 (za d2 (za d3 (za d4 (za d5 (za d6 (za d7 (za d8 (za n0 (za g1 g2))))))))));exact zg
 rw [if_neg k6] at hcont
 by_cases k7:kind = 7
 ·subst k7
  simp only [if_true,zo,ki,zu] at hcont
  obtain ⟨⟨⟨rfl,rfl⟩,rfl⟩,q1⟩:=hcont
  rw [q1] at p3
  (have zx:=za d1 (za d2 (za d3 (za d4 (za d5 (za d6 (za d7 (za d8 n0))))))));exact zg
 rw [if_neg k7] at hcont
 cases hcont
theorem anM (a b:Int) (h:0 < Q4 a b):(jr a b).length≤40:=by
 have hn:=akB a
 have hb:=abk a b h
 have hi:=Lib.itoa_length_le b (by omega) (by omega)
 rw [jr,if_pos h]
 split
 ·omega
 ·simp;omega
theorem auh:∀ ws:List (List UInt8),(∀ w∈ws,w.length≤40)→(([32]:List UInt8).intercalate ws).length≤41 * ws.length
 | [],_=>by simp [List.intercalate]
 | x :: r,h=>by
   rw [show ([32]:List UInt8).intercalate (x :: r) = x++(r.map fun y=>32 :: y).flatten from aoq 32 r x]
   have hx:=h x (by simp)
   have hr:∀ r:List (List UInt8),(∀ w∈r,w.length≤40)→((r.map fun y=>(32:UInt8) :: y).flatten).length≤41 * r.length:=by
    intro r
    induction r with
    | nil=>intro _;simp
    | cons y t ih =>
      intro h
      have h1:=h y (by simp)
      have h2:=ih fun w hw=>h w (by simp [hw])
      simp only [zI,List.flatten_cons,zp,List.length_cons]
      omega
   have:=hr r fun w hw=>h w (by simp [hw])
   simp only [zp,List.length_cons]
   omega
theorem ahf {s:List UInt8} (h:Q8 s = true):s.length≤40:=by
 simp only [Q8,zo,zu] at h
 omega
theorem asu (k:Int) (h:1≤k∧k≤8):(Km WZ k).length≤40:=by
 obtain rfl|rfl|rfl|rfl|rfl|rfl|rfl|rfl:k = 1∨k = 2∨k = 3∨k = 4∨k = 5∨k = 6∨k = 7∨k = 8:=by omega
 all_goals decide
theorem alW {f:Qa} (h:Yg f = true):∀ w∈aok f,w.length≤40:=by
 obtain ⟨r1,r2,r3,hco,n1,n2⟩:=akH h
 obtain ⟨r4,r5⟩:=afo hco
 have b1:=ahf n1
 have b2:=ahf n2
 have b3:=asu f.kind r4
 have i1:(Lib.itoa f.day).length≤40:=ZH (Lib.itoa_length_le f.day (by omega) (by omega)) (by decide)
 have i2:(Lib.itoa f.mach).length≤40:=ZH (Lib.itoa_length_le f.mach (by omega) (by omega)) (by decide)
 have i3:(Lib.itoa f.conf).length≤40:=ZH (Lib.itoa_length_le f.conf (by omega) (by omega)) (by decide)
 have i4:(Lib.itoa f.num).length≤40:=ZH (Lib.itoa_length_le f.num (by omega) (by omega)) (by decide)
 have hb:∀ w∈asW f,w.length≤40:=by
  unfold Ky amB at hco
  unfold asW
  split
  ·rename_i hk
   rw [if_pos hk] at hco
   simp only [zo,zu] at hco
   intro w hw
   rw [zq.1 hw]
   exact anM _ _ (by omega)
  rename_i hk
  rw [if_neg hk] at hco
  split
  ·rename_i h3
   rw [if_neg (by omega),if_pos h3] at hco
   simp only [zo,zu] at hco
   intro w hw
   simp only [zy,zC,or_false] at hw
   rcases hw with rfl|rfl
   ·exact anM _ _ (by omega)
   ·exact i4
  split
  ·rename_i h7
   rw [if_neg (by omega),if_neg (by omega),if_neg (by omega),if_neg (by omega),if_pos h7] at hco
   simp only [zo] at hco
   intro w hw
   rw [zq.1 hw]
   exact ahf hco.2
  ·intro w hw
   rw [zq.1 hw]
   exact i4
 intro w hw
 simp only [aok,zW,zy,zC,or_false] at hw
 rcases hw with ((rfl|rfl|rfl|rfl|rfl)|hw)|rfl
 ·exact i1
 ·exact b1
 ·exact i2
 ·exact b2
 ·exact b3
 ·exact hb w hw
 ·exact i3
theorem aoj {f:Qa} (h:Yg f = true):(aei f).length≤400:=by
 have h1:=auh (aok f) (alW h)
 have h2:(aok f).length≤8:=by
  unfold aok asW
  split
  ·simp
  split
  ·simp
  split<;>simp
 unfold aei
 simp only [zp,List.length_singleton]
 omega
def agy:AC:=Qb [] (.reg [xo 0 (.mknil 1)]) (Qb [0] (.reg [xo 1 (.bslice 8 1 false [vs0] [(0,(.c (V.str [117,115,101]))),(1,(.c (V.str [115,117,105,116,101]))),(2,(.c (V.str [107,101,121]))),(3,(.c (V.str [109,111,115,116]))),(4,(.c (V.str [108,101,97,115,116]))),(5,(.c (V.str [116,114,117,115,116]))),(6,(.c (V.str [112,101,101,114]))),(7,(.c (V.str [111,102,102])))]),mv 0 1]) .ret) def ei:List Q0:=[.tmp 0]
def vP (Γ:Env) (f:Nat):Prop:=EvC Γ f [] (.sl 1 (WZ.map V.str))
theorem ald {Γ:Env} {f:Nat} (h:Has Γ.P f 2 agy ei) :vP Γ f:=by
 refine Ju h zsi (by simp only [WZ,zI,zO,V.closed,Qh,and_self]) fun C hC hm=>?_
 subst hC
 unfold agy
 simp only [WZ,zI,zO]
 exact zg
def aii:AC:=Qb [0,1] (.reg [mc 4 (V.str [])]) (Qb [0,1] (Qb [0,1,12] (.reg [mv 5 1,bc 6 .lss 5 (V.int 1),mv 7 6,mg 8 1 7 false,mg 9 0 7 false,xg 10 (.lenL (.t 9)) 7 false,xg 11 (.bin .gtr (.t 8) (.t 10)) 7 false,xo 12 (.pick (.t 7) (.c (V.bool true)) (.t 11))]) (.cond (.t 12) (Qb [4] (.reg [mc 4 (V.str [])]) .ret) .skip)) (Qb [4] (.reg [mv 13 0,mv 14 1,bc 15 .sub 14 (V.int 1),ia 16 1 13 15,ld 17 1 16,mv 4 17]) .ret)) def en:List Q0:=[.tmp 4]
def abI (Γ:Env) (f:Nat):Prop:=∀ (ws:List (List UInt8)) (k:Int) (hw:ws.length < 2 ^ 40) (hk:-9223372036854775808≤k),EvN Γ f [.sl 1 (ws.map V.str),V.int k] (V.str (Km ws k))
theorem amV {Γ:Env} {f:Nat} (h:Has Γ.P f 18 aii en) :abI Γ f:=by
 intro ws k hw hk
 refine Qc h zsi zcl zcl fun C hC hm=>?_
 subst hC
 unfold aii
 by_cases h1:k < 1
 ·have e1:decide (k < 1) = true:=zn h1
  have e3:Km ws k = []:=by unfold Km;rw [if_pos (.inl h1)]
  rw [e3]
  (have zx:=e1);exact zg
 ·have e1:decide (k < 1) = false:=zv h1
  by_cases h2:k > ws.length
  ·have e4:decide (k > (((ws.map V.str).length:Nat):Int)) = true:=zn (by simp;omega)
   have e3:Km ws k = []:=by unfold Km;rw [if_pos (.inr h2)]
   rw [e3]
   (have zx:=za e1 e4);exact zg
  ·have e4:decide (k > (((ws.map V.str).length:Nat):Int)) = false:=zv (by simp;omega)
   have hw:IntKind.i64.wrap (k - 1) = k - 1:=Q7 (by omega) (by omega)
   have hlt:(k - 1).toNat < ws.length:=by omega
   have hget:ws[(k - 1).toNat]? = some (Km ws k):=by
    unfold Km;rw [if_neg (by omega),zB,zb hlt];rfl
   (have zx:=za e1 (za e4 (za hw hget)));refine zgo ?_;repeat' first|exact zt|apply zan|intro hc
   all_goals first|exact zr|omega
def aa3:List (List Nat):=[[],[0],[1],[2],[],[4],[3,5],[6],[],[8],[9,2],[7,10],[11],[],[13],[12,14],[15],[10],[],[18],[17,19,17],[16,20],[21],[22,20,0,1,2,3,4,5,6,7,8,9,10,11,12,13,14,15,16,17,18,19,20,21,22]]
def aab:OT:=och 0 24
@[go_sem] def qf (Qj Yj YP:Nat):OP:=oN 0 (fa 8 3 1) (oN 1 (ld 9 1 8) (oN 2 (cl 10 Qj [9]) (oN 3 (bc 11 .add 10 (V.str [32])) (oN 4 (fa 12 1 1) (oN 5 (ld 13 1 12) (oN 6 (bn 14 .add 11 13) (oN 7 (bc 15 .add 14 (V.str [32])) (oN 8 (fa 16 2 1) (oN 9 (ld 17 1 16) (oN 10 (cl 18 Qj [17]) (oN 11 (bn 19 .add 15 18) (oN 12 (bc 20 .add 19 (V.str [32])) (oN 13 (fa 21 6 1) (oN 14 (ld 22 1 21) (oN 15 (bn 23 .add 20 22) (oN 16 (bc 24 .add 23 (V.str [32])) (oN 17 (cl 25 Yj []) (oN 18 (fa 26 5 1) (oN 19 (ld 27 1 26) (.one 20 false [17] (cl 28 YP [25,27]) (oN 21 (bn 29 .add 24 28) (oN 22 (bc 30 .add 29 (V.str [32])) (oN 23 (mv 4 30) .done)))))))))))))))))))))))
def aam (Qj Yj YP:Nat):List AO:=aoO (qf Qj Yj YP)
instance (Qj Yj YP:Nat):RG [] aab (qf Qj Yj YP) (aam Qj Yj YP) aa3 24 (fun _=>true):=⟨rfl,by kernel_rfl,by kernel_rfl⟩
def aa2:List (List Nat):=[[],[],[1],[2],[3],[],[5],[6,3],[4,7],[0,8],[9,7,0,1,2,3,4,5,6,7,8,9]]
def aaa:OT:=och 0 11
@[go_sem] def qe (Yo Qj:Nat):OP:=oN 0 (mv 48 4) (oN 1 (fa 49 7 1) (oN 2 (xo 50 (.load true 2 (.t 49))) (oN 3 (cl 51 Yo [50]) (oN 4 (bc 52 .add 51 (V.str [32])) (oN 5 (fa 53 9 1) (oN 6 (ld 54 1 53) (oN 7 (cl 55 Qj [54]) (oN 8 (bn 56 .add 52 55) (oN 9 (bn 57 .add 48 56) (oN 10 (mv 4 57) .done))))))))))
def aal (Yo Qj:Nat):List AO:=aoO (qe Yo Qj)
instance (Yo Qj:Nat):RG [] aaa (qe Yo Qj) (aal Yo Qj) aa2 11 (fun _=>true):=⟨rfl,by kernel_rfl,by kernel_rfl⟩
def adi (QP Qj Yj YP Yo:Nat):AC:=Qb [1] (.reg [xo 1 (.box true 11 (.t 0)),mc 2 (V.str []),mc 3 (V.int 0)]) (Qb [1] (Qb [1,7] (.reg [xo 5 (.load true 11 (.t 1)),cl 6 QP [5],bc 7 .neq 6 (V.int 0)]) (.cond (.t 7) (Qb [2,3] (.reg [mc 2 (V.str []),mc 3 (V.int 24)]) .ret) .skip)) (Qb [1,4] (VD [] aab (qf Qj Yj YP) (aam Qj Yj YP) aa3) (Qb [1,4] (Qb [1,4,32] (.reg [fa 31 5 1,ld 32 1 31]) (.block 0 (Qb [1,4,32,38] (Qb [1,4,32,38] (.reg [bc 39 .eql 32 (V.int 1),mv 38 39]) (.cond (.t 38) .skip (.reg [bc 40 .eql 32 (V.int 8),mv 38 40]))) (.cond (.t 38) (.reg [mv 41 4,fa 42 7 1,xo 43 (.load true 2 (.t 42)),cl 44 Yo [43],bn 45 .add 41 44,mv 4 45]) (Qb [1,4,32,46] (.reg [bc 47 .eql 32 (V.int 3),mv 46 47]) (.cond (.t 46) (VD [] aaa (qe Yo Qj) (aal Yo Qj) aa2) (Qb [1,4,58] (.reg [bc 59 .eql 32 (V.int 7),mv 58 59]) (.cond (.t 58) (.reg [mv 60 4,fa 61 10 1,ld 62 1 61,bn 63 .add 60 62,mv 4 63]) (.reg [mv 33 4,fa 34 9 1,ld 35 1 34,cl 36 Qj [35],bn 37 .add 33 36,mv 4 37]))))))))) (Qb [2,3] (.reg [mv 64 4,bc 65 .add 64 (V.str [32]),fa 66 4 1,ld 67 1 66,cl 68 Qj [67],bn 69 .add 65 68,bc 70 .add 69 (V.str [10]),mv 2 70,mc 3 (V.int 0)]) .ret)))) def eo:List Q0:=[.tmp 2,.tmp 3]
def jI (Γ:Env) (f:Nat):Prop:=∀ (f0:Qa) (hz:f0.Sz) (hc0:Yg f0 = true),EvN Γ f [f0.v] (.tup [V.str (aei f0),V.int 0])
theorem aiT {Γ:Env} {f QP Qj Yj YP Yo:Nat} (h:Has Γ.P f 71 (adi QP Qj Yj YP Yo) eo) (z0:Uf Γ QP) (z1:KD Γ Qj) (z2:vP Γ Yj) (z3:abI Γ YP) (z4:abQ Γ Yo):jI Γ f:=by
 intro f0 hz hc0
 refine Qc h zsi zcl zcl fun C hC hm=>?_
 subst hC
 unfold adi
 have p0:=(z0 f0 hz hc0).b
 obtain ⟨r1,r2,r3,hco,-,-⟩:=akH hc0
 obtain ⟨r4,r5⟩:=afo hco
 have i1:=(z1 f0.day (by omega) (by omega)).b
 have i2:=(z1 f0.mach (by omega) (by omega)).b
 have i3:=(z1 f0.conf (by omega) (by omega)).b
 have i4:=(z1 f0.num (by omega) (by omega)).b
 have pF:=z2
 have pW:=(z3 WZ f0.kind (by decide) (by omega)).b
 have pT:=(z4 f0.alg f0.bits).b
 have hW:=alW hc0
 clear hco hc0
 obtain ⟨src,host,mach,day,conf,kind,subj,alg,bits,num,text⟩:=f0
 simp only [Qa.v,Qa.cells,aei,aok,asW] at *
 have pF:=pF.b
 generalize Km WZ kind = kw at *
 generalize Lib.itoa day = sd at *
 generalize Lib.itoa mach = sm at *
 generalize Lib.itoa conf = sc at *
 generalize Lib.itoa num = sn at *
 generalize jr alg bits = st at *
 generalize WZ.map V.str = kws at *
 have E:∀ n:Int,kind≠n→(kind == n) = false:=fun n h=>by simpa using h
 have J:∀ (a b c d e f g:List UInt8),([32]:List UInt8).intercalate ([a,b,c,d,e]++[f]++[g]) = a++[32]++b++[32]++c++[32]++d++[32]++e++[32]++f++[32]++g:=fun a b c d e f g=>by simp [List.intercalate]
 have J2:∀ (a b c d e f f2 g:List UInt8),([32]:List UInt8).intercalate ([a,b,c,d,e]++[f,f2]++[g]) = a++[32]++b++[32]++c++[32]++d++[32]++e++[32]++f++[32]++f2++[32]++g:=fun a b c d e f f2 g=>by simp [List.intercalate]
 by_cases k1:kind = 1
 ·subst k1
  simp only [Int.reduceEq,or_true,true_or,or_false,false_or,if_true,if_false] at hW ⊢
  simp only [List.cons_append,List.nil_append,zy,zC,or_false,forall_eq_or_imp,forall_eq] at hW
  simp only [J]
  repeat' (first|(refine zsk ?_;intro K' hK)|(refine zrg ?_;intro K' hK)|refine zsp ?_|(refine zsc ?_ ?_<;>intro hc<;>first|exact znh|try simp only [znz] at hc)|simp (maxSteps:=1000000) only [go_sem]|(refine hK _ ?_;clear hK K')|apply zan|((first|apply QR|apply QG);(focus first|exact p0|exact i1|exact i2|exact i3|exact i4|exact pF|exact pW|exact pT|exact (z0 _ zsd zsd).b|exact (z1 _ zsd zsd).b|exact EvC.b z2|exact (z3 _ _ zsd zsd).b|exact (z4 _ _).b))|exact zsq|fail)
  all_goals first|exact zr|(simp only [zp,List.length_cons,List.length_nil];omega)|(refine Qr _ rfl ?_;simp only [go_sem];simp only [kf];done)|(refine Qr _ rfl ?_;simp only [go_sem];simp;done)
 by_cases k8:kind = 8
 ·subst k8
  simp only [Int.reduceEq,or_true,true_or,or_false,false_or,if_true,if_false] at hW ⊢
  simp only [List.cons_append,List.nil_append,zy,zC,or_false,forall_eq_or_imp,forall_eq] at hW
  simp only [J]
  refine zgo ?_;repeat' first|exact zt|apply zan|intro hc
  all_goals first|exact zr|(simp only [zp,List.length_cons,List.length_nil];omega)|(refine Qr _ rfl ?_;simp only [go_sem];simp only [kf];done)|(refine Qr _ rfl ?_;simp only [go_sem];simp;done)
 by_cases k3:kind = 3
 ·subst k3
  simp only [Int.reduceEq,or_self,if_true,if_false] at hW ⊢
  simp only [List.cons_append,List.nil_append,zy,zC,or_false,forall_eq_or_imp,forall_eq] at hW
  simp only [J2]
  refine zgo ?_;repeat' first|exact zt|apply zan|intro hc
  all_goals first|exact zr|(simp only [zp,List.length_cons,List.length_nil];omega)|(refine Qr _ rfl ?_;simp only [go_sem];simp only [kf];done)|(refine Qr _ rfl ?_;simp only [go_sem];simp;done)
 by_cases k7:kind = 7
 ·subst k7
  simp only [Int.reduceEq,or_self,if_true,if_false] at hW ⊢
  simp only [List.cons_append,List.nil_append,zy,zC,or_false,forall_eq_or_imp,forall_eq] at hW
  simp only [J]
  refine zgo ?_;repeat' first|exact zt|apply zan|intro hc
  all_goals first|exact zr|(simp only [zp,List.length_cons,List.length_nil];omega)|(refine Qr _ rfl ?_;simp only [go_sem];simp only [kf];done)|(refine Qr _ rfl ?_;simp only [go_sem];simp;done)
 rw [if_neg (by omega),if_neg (by omega),if_neg (by omega)] at hW ⊢
 simp only [List.cons_append,List.nil_append,zy,zC,or_false,forall_eq_or_imp,forall_eq] at hW
 rw [J]
 repeat' (first|(refine zsk ?_;intro K' hK)|(refine zrg ?_;intro K' hK)|refine zsp ?_|(refine zsc ?_ ?_<;>intro hc<;>first|exact znh|try simp only [znz] at hc)|simp (maxSteps:=1000000) only [go_sem,E 1 k1,E 8 k8,E 3 k3,E 7 k7]|(refine hK _ ?_;clear hK K')|apply zan|((first|apply QR|apply QG);(focus first|exact p0|exact i1|exact i2|exact i3|exact i4|exact pF|exact pW|exact pT|exact (z0 _ zsd zsd).b|exact (z1 _ zsd zsd).b|exact EvC.b z2|exact (z3 _ _ zsd zsd).b|exact (z4 _ _).b))|exact zsq|fail)
 all_goals first|exact zr|(simp only [zp,List.length_cons,List.length_nil];omega)|(refine Qr _ rfl ?_;simp only [go_sem];simp only [kf];done)|(refine Qr _ rfl ?_;simp only [go_sem];simp;done)
def anH (l:List Qa) (x:Qa):Nat→Nat
 | 0=>0
 | k + 1=>match l[k]? with
   | some y=>if aiP y x > 0 then anH l x k else k + 1
   | none=>k + 1
theorem apP (l:List Qa) (x:Qa):∀ k,anH l x k≤k
 | 0=>zl _
 | k + 1=>by
   rw [anH]
   split
   ·split
    ·exact Zr (apP l x k)
    ·exact zl _
   ·exact zl _
def ave (l:List Qa) (x:Qa):Bool:=match anH l x l.length with
 | 0=>false
 | k + 1=>match l[k]? with
   | some y=>aiP y x == 0
   | none=>false
def aj2 (l:List Qa) (x:Qa):List Qa:=l.take (anH l x l.length)++x :: l.drop (anH l x l.length)
theorem av8 (l:List Qa) (n:Nat):ltO (n + 1) fun k=>[Ob.buf true 11 (l.map Qa.v)][k]?:=fun a x h=>by
 match a,h with
 | 0,h=>cases h;exact ⟨Nat.succ_pos _,trivial⟩
 | a + 1,h=>simp at h
theorem aty (l:List Qa) (x:Qa) (k:Nat):(l.take k).map Qa.v++[x.v]++(l.drop k).map Qa.v = (l.take k++x :: l.drop k).map Qa.v:=by simp
def agS:List (List Nat):=[[],[0],[1],[2],[2],[4,2],[3,5,2],[6,2],[2],[7,8,2,2],[9,2],[2,10]]
def afE:OT:=och 0 12
@[go_sem] def abp (Qt:Nat):OP:=oN 0 (mv 8 5) (oN 1 (bc 9 .gtr 8 (V.int 0)) (oN 2 (mv 10 9) (oN 3 (mg 11 0 10 true) (oN 4 (mg 12 5 10 true) (oN 5 (xg 13 (.bin .sub (.t 12) (.c (V.int 1))) 10 true) (oN 6 (xg 14 (.iaddr 11 (.t 11) (.t 13)) 10 true) (oN 7 (xg 15 (.load true 11 (.t 14)) 10 true) (oN 8 (xg 16 (.load true 11 (.t 3)) 10 true) (oN 9 (xg 17 (.call Qt [(.t 15),(.t 16)]) 10 true) (oN 10 (xg 18 (.bin .gtr (.t 17) (.c (V.int 0))) 10 true) (oN 11 (xo 19 (.pick (.t 10) (.t 18) (.c (V.bool false)))) .done)))))))))))
def afR (Qt:Nat):List AO:=aoO (abp Qt)
instance (Qt:Nat):RG [] afE (abp Qt) (afR Qt) agS 12 (fun _=>true):=⟨rfl,by kernel_rfl,by kernel_rfl⟩
def agR:List (List Nat):=[[],[0],[1],[2],[2],[4,2],[3,5,2],[6,2],[2],[7,8,2,2],[9,2],[2,10]]
def afD:OT:=och 0 12
@[go_sem] def abo (Qt:Nat):OP:=oN 0 (mv 22 5) (oN 1 (bc 23 .gtr 22 (V.int 0)) (oN 2 (mv 24 23) (oN 3 (mg 25 0 24 true) (oN 4 (mg 26 5 24 true) (oN 5 (xg 27 (.bin .sub (.t 26) (.c (V.int 1))) 24 true) (oN 6 (xg 28 (.iaddr 11 (.t 25) (.t 27)) 24 true) (oN 7 (xg 29 (.load true 11 (.t 28)) 24 true) (oN 8 (xg 30 (.load true 11 (.t 3)) 24 true) (oN 9 (xg 31 (.call Qt [(.t 29),(.t 30)]) 24 true) (oN 10 (xg 32 (.bin .eql (.t 31) (.c (V.int 0))) 24 true) (oN 11 (xo 33 (.pick (.t 24) (.t 32) (.c (V.bool false)))) .done)))))))))))
def afQ (Qt:Nat):List AO:=aoO (abo Qt)
instance (Qt:Nat):RG [] afD (abo Qt) (afQ Qt) agR 12 (fun _=>true):=⟨rfl,by kernel_rfl,by kernel_rfl⟩
def agQ:List (List Nat):=[[],[],[],[1,2],[0,3],[],[5],[4,6,4],[],[],[8,9],[7,10,7],[11,11,0,1,2,3,4,5,6,7,8,9,10,11]]
def afC:OT:=och 0 13
@[go_sem] def abn:OP:=oN 0 (xo 35 (.bslice 0 11 true [vi0,vs0,vi0,vi0,vi0,vi0,vs0,vi0,vi0,vi0,vs0] [])) (oN 1 (mv 36 0) (oN 2 (mv 37 5) (oN 3 (xo 38 (.slsl 11 (.t 36) none (some (.t 37)))) (.one 4 true [0] (xo 39 (.append 11 112 [vi0,vs0,vi0,vi0,vi0,vi0,vs0,vi0,vi0,vi0,vs0] (.t 35) (.t 38))) (oN 5 (xo 40 (.load true 11 (.t 3))) (oN 6 (xo 41 (.bslice 1 11 true [vi0,vs0,vi0,vi0,vi0,vi0,vs0,vi0,vi0,vi0,vs0] [(0,(.t 40))])) (.one 7 true [6,4,0] (xo 42 (.append 11 112 [vi0,vs0,vi0,vi0,vi0,vi0,vs0,vi0,vi0,vi0,vs0] (.t 39) (.t 41))) (oN 8 (mv 43 0) (oN 9 (mv 44 5) (oN 10 (xo 45 (.slsl 11 (.t 43) (some (.t 44)) none)) (.one 11 true [7,6,4,0] (xo 46 (.append 11 112 [vi0,vs0,vi0,vi0,vi0,vi0,vs0,vi0,vi0,vi0,vs0] (.t 42) (.t 45))) (oN 12 (mv 4 46) .done))))))))))))
def afP:List AO:=aoO (abn)
instance:RG [] afC (abn) (afP) agQ 13 (fun _=>true):=⟨rfl,by kernel_rfl,by kernel_rfl⟩
def afq (Qt:Nat):AC:=Qb [0,3] (.reg [xo 3 (.box true 11 (.t 1)),xo 4 (.mknil 11)]) (Qb [0,3,5] (.reg [mv 6 0,ln 7 6,mv 5 7]) (Qb [0,3,5] (.block 0 (JG [0,3,5] (Qb [0,3,5] (Qb [0,3,5,19] (VD [] afE (abp Qt) (afR Qt) agS) (.cond (.t 19) .skip (.exit 0))) (.block 1 (.reg [mv 20 5,bc 21 .sub 20 (V.int 1),mv 5 21]))))) (Qb [0,3,5] (Qb [0,3,5,33] (VD [] afD (abo Qt) (afQ Qt) agR) (.cond (.t 33) (Qb [4] (.reg [mv 34 0,mv 4 34]) .ret) .skip)) (Qb [4] (VD [] afC (abn) (afP) agQ) .ret)))) def et:List Q0:=[.tmp 4]
def adV (Γ:Env) (f:Nat):Prop:=((∀ (l:List Qa) (x:Qa),l.length < 2 ^ 30→ave l x = true→EvX Γ f [x.v] 11 (l.map Qa.v))∧(∀ (l:List Qa) (x:Qa),l.length < 2 ^ 30→ave l x = false→EvW Γ f [.sl 11 (l.map Qa.v),x.v] 11 ((aj2 l x).map Qa.v)))
theorem aoR {Γ:Env} {f Qt:Nat} (h:Has Γ.P f 47 (afq Qt) et) (z0:qS Γ Qt):adV Γ f:=by
 refine ⟨fun l x hl hdp=>?_,fun l x hl hdp=>?_⟩
 ·refine xf h (by simp) fun C hC hm=>?_
  subst hC
  unfold afq
  have hal:(l.map Qa.v).length = l.length:=zd _
  have ht:List.take (l.map Qa.v).length (l.map Qa.v) = l.map Qa.v:=zJ
  simp only [Qa.v,Qa.cells]
  repeat' (first|(refine zsk ?_;intro K' hK)|(refine zrg ?_;intro K' hK)|refine zsp ?_|(refine zsc ?_ ?_<;>intro hc<;>first|exact znh|try simp only [znz] at hc)|simp (maxSteps:=1000000) only [go_sem,hal]|(refine hK _ ?_;clear hK K')|apply zan|((first|apply QR|apply QG);(focus first|exact (z0 _ _).b))|exact zsq|fail)
  refine Jc (ι:=Nat) (fun k=>k≤l.length∧anH l x k = anH l x l.length) (fun k=>[(5,V.int k)]) (fun k=>k) l.length (by omega) ⟨zl _,rfl⟩ (by refine ajX (by decide) ?_ (ajX (by decide) ?_ (av8 l 5000))<;>simp [Ob.lt,ltL,V.lt,V.str,V.int]) zlt zet fun k hk K' hL=>?_
  obtain ⟨hk,hinv⟩:=hk
  simp only [ovT,Xr,Nat.reduceEqDiff,reduceIte]
  rcases k with _|k
  ·have e1:decide (((0:Nat):Int) > 0) = false:=by decide
   rw [anH] at hinv
   rw [ave,← hinv] at hdp
   cases hdp
  ·have e1:decide (((k + 1:Nat):Int) > 0) = true:=zn (by omega)
   obtain ⟨y,hy⟩:∃ y,l[k]? = some y:=⟨_,zb (by omega)⟩
   have vy:(l.map Qa.v)[k]? = some y.v:=by rw [zi,hy];rfl
   have po:=(z0 y x).b
   have hwk:IntKind.i64.wrap (((k + 1:Nat):Int) - 1) = (k:Int):=by rw [Q7 (by omega) (by omega)];omega
   simp only [Qa.v,Qa.cells] at vy po
   rw [anH,hy] at hinv
   dsimp only at hinv
   rcases h1:decide (aiP y x > 0) with _|_
   ·rw [if_neg (by simp at h1;omega)] at hinv
    rw [ave,← hinv] at hdp
    dsimp only at hdp
    rw [hy] at hdp
    dsimp only at hdp
    repeat' (first|(refine zsk ?_;intro K' hK)|(refine zrg ?_;intro K' hK)|refine zsp ?_|(refine zsc ?_ ?_<;>intro hc<;>first|exact znh|try simp only [znz] at hc)|simp (maxSteps:=1000000) only [go_sem,e1,hal,hwk,vy,h1,hdp,ht,Int.toNat_natCast]|(refine hK _ ?_;clear hK K')|apply zan|((first|apply QR|apply QG);(focus first|exact po|exact (z0 _ _).b))|exact zsq|fail)
    all_goals first|(rw [← hal];refine aoX _ rfl rfl rfl ?_;first|rfl|(simp;done))
   ·rw [if_pos (by simpa using h1)] at hinv
    repeat' (first|(refine zsk ?_;intro K' hK)|(refine zrg ?_;intro K' hK)|refine zsp ?_|(refine zsc ?_ ?_<;>intro hc<;>first|exact znh|try simp only [znz] at hc)|simp (maxSteps:=1000000) only [go_sem,e1,hal,hwk,vy,h1,Int.toNat_natCast]|(refine hK _ ?_;clear hK K')|apply zan|((first|apply QR|apply QG);(focus first|exact po|exact (z0 _ _).b))|exact zsq|fail)
    all_goals exact hL _ k zet ⟨by omega,hinv⟩ (by omega) zoe
 ·refine UD h (by simp) (by intro z hx;obtain ⟨y,_,rfl⟩:=zE.1 hx;simp only [Qa.v,Qa.cells,V.noSl,Ue,and_self]) fun C hC hm=>?_
  subst hC
  unfold afq
  have hal:(l.map Qa.v).length = l.length:=zd _
  have ht:List.take (l.map Qa.v).length (l.map Qa.v) = l.map Qa.v:=zJ
  simp only [Qa.v,Qa.cells]
  repeat' (first|(refine zsk ?_;intro K' hK)|(refine zrg ?_;intro K' hK)|refine zsp ?_|(refine zsc ?_ ?_<;>intro hc<;>first|exact znh|try simp only [znz] at hc)|simp (maxSteps:=1000000) only [go_sem,hal]|(refine hK _ ?_;clear hK K')|apply zan|((first|apply QR|apply QG);(focus first|exact (z0 _ _).b))|exact zsq|fail)
  refine Jc (ι:=Nat) (fun k=>k≤l.length∧anH l x k = anH l x l.length) (fun k=>[(5,V.int k)]) (fun k=>k) l.length (by omega) ⟨zl _,rfl⟩ zol zlt zet fun k hk K' hL=>?_
  obtain ⟨hk,hinv⟩:=hk
  simp only [ovT,Xr,Nat.reduceEqDiff,reduceIte]
  rcases k with _|k
  ·have e1:decide (((0:Nat):Int) > 0) = false:=by decide
   rw [anH] at hinv
   rw [ave,← hinv] at hdp
   have hj0:List.take 0 (l.map Qa.v) = []:=rfl
   repeat' (first|(refine zsk ?_;intro K' hK)|(refine zrg ?_;intro K' hK)|refine zsp ?_|(refine zsc ?_ ?_<;>intro hc<;>first|exact znh|try simp only [znz] at hc)|simp (maxSteps:=1000000) only [go_sem,e1,hal,Int.toNat_natCast]|(refine hK _ ?_;clear hK K')|apply zan|((first|apply QR|apply QG);(focus first|exact (z0 _ _).b))|exact zsq|fail)
   all_goals first|(intro z hz;obtain ⟨w,_,rfl⟩:=zE.1 (zD hz);rfl)|(intro z hz;obtain ⟨w,_,rfl⟩:=zE.1 (zF hz);rfl)|(intro z hz;obtain ⟨w,_,rfl⟩:=zE.1 (zF (zD hz));rfl)|(intro z hz;obtain ⟨w,_,rfl⟩:=zE.1 (zD (zF hz));rfl)|(simp only [zp,zM,zZ,zd,List.length_cons,List.length_nil];omega)|(refine acb (xs:=(aj2 l x).map Qa.v) _ _ rfl ?_ ?_<;>first|(rw [aj2,← hinv];simp [afy,Qa.v,Qa.cells,kj,kx];done)|(rw [aj2,← hinv];simp [Qa.v,Qa.cells];omega)|(rw [aj2,← hinv,← aty];simp only [upd_self,Nat.sub_zero,List.take_zero,List.nil_append,kr,zO,kj,kx];rw [zj (by simp)];simp [upd,Qa.v,Qa.cells,kj,kx];done)|(rw [aj2,← hinv];simp [upd,Qa.v,Qa.cells,kj,kx,zj,afy];done)|trace_state)
  ·have e1:decide (((k + 1:Nat):Int) > 0) = true:=zn (by omega)
   obtain ⟨y,hy⟩:∃ y,l[k]? = some y:=⟨_,zb (by omega)⟩
   have vy:(l.map Qa.v)[k]? = some y.v:=by rw [zi,hy];rfl
   have po:=(z0 y x).b
   have hwk:IntKind.i64.wrap (((k + 1:Nat):Int) - 1) = (k:Int):=by rw [Q7 (by omega) (by omega)];omega
   simp only [Qa.v,Qa.cells] at vy po
   rw [anH,hy] at hinv
   dsimp only at hinv
   rcases h1:decide (aiP y x > 0) with _|_
   ·rw [if_neg (by simp at h1;omega)] at hinv
    rw [ave,← hinv] at hdp
    dsimp only at hdp
    rw [hy] at hdp
    dsimp only at hdp
    repeat' (first|(refine zsk ?_;intro K' hK)|(refine zrg ?_;intro K' hK)|refine zsp ?_|(refine zsc ?_ ?_<;>intro hc<;>first|exact znh|try simp only [znz] at hc)|simp (maxSteps:=1000000) only [go_sem,e1,hal,hwk,vy,h1,hdp,Int.toNat_natCast]|(refine hK _ ?_;clear hK K')|apply zan|((first|apply QR|apply QG);(focus first|exact po|exact (z0 _ _).b))|exact zsq|fail)
    all_goals first|(intro z hz;obtain ⟨w,_,rfl⟩:=zE.1 (zD hz);rfl)|(intro z hz;obtain ⟨w,_,rfl⟩:=zE.1 (zF hz);rfl)|(intro z hz;obtain ⟨w,_,rfl⟩:=zE.1 (zF (zD hz));rfl)|(intro z hz;obtain ⟨w,_,rfl⟩:=zE.1 (zD (zF hz));rfl)|(simp only [zp,zM,zZ,zd,List.length_cons,List.length_nil];omega)|(refine acb (xs:=(aj2 l x).map Qa.v) _ _ rfl ?_ ?_<;>first|(rw [aj2,← hinv];simp [afy,Qa.v,Qa.cells,kj,kx];done)|(rw [aj2,← hinv];simp [Qa.v,Qa.cells];omega)|(rw [aj2,← hinv,← aty];simp only [upd_self,Nat.sub_zero,List.take_zero,List.nil_append,kr,zO,kj,kx];rw [zj (by simp)];simp [upd,Qa.v,Qa.cells,kj,kx];done)|(rw [aj2,← hinv];simp [upd,Qa.v,Qa.cells,kj,kx,zj,afy];done)|trace_state)
   ·rw [if_pos (by simpa using h1)] at hinv
    repeat' (first|(refine zsk ?_;intro K' hK)|(refine zrg ?_;intro K' hK)|refine zsp ?_|(refine zsc ?_ ?_<;>intro hc<;>first|exact znh|try simp only [znz] at hc)|simp (maxSteps:=1000000) only [go_sem,e1,hal,hwk,vy,h1,Int.toNat_natCast]|(refine hK _ ?_;clear hK K')|apply zan|((first|apply QR|apply QG);(focus first|exact po|exact (z0 _ _).b))|exact zsq|fail)
    all_goals exact hL _ k zet ⟨by omega,hinv⟩ (by omega) zoe
def aiL (out:List Qa) (x:Qa):List Qa:=if ave out x = true then out else aj2 out x
def WI (l:List Qa):List Qa:=l.foldl aiL []
theorem arc (l:List Qa) (x:Qa):(aj2 l x).length = l.length + 1:=by
 have:=apP l x l.length
 simp [aj2];omega
theorem anS (l:List Qa) (x:Qa):(aiL l x).length≤l.length + 1:=by
 unfold aiL;split
 ·omega
 ·rw [arc];exact zl _
theorem aoK:∀ (l out:List Qa),(l.foldl aiL out).length≤out.length + l.length
 | [],out=>by simp
 | x :: r,out=>by
   have h1:=aoK r (aiL out x)
   have h2:=anS out x
   simp only [List.foldl_cons,List.length_cons];omega
theorem ajU (l:List Qa):(WI l).length≤l.length:=by simpa [WI] using aoK l []
theorem ask {l:List Qa} {k:Nat} {x:Qa} (h:l[k]? = some x):WI (l.take (k + 1)) = aiL (WI (l.take k)) x:=by
 rw [WI,WI,zP,h,Option.toList_some,Zq];rfl
def noS (l out:List Qa) (k:Nat):St:=Y1 [(0,.sl 11 (l.map Qa.v)),(6,.hd 0 0 out.length),(7,V.int k)] [(0,.buf true 11 (out.map Qa.v))] 1
def aiq (QP abx:Nat):AC:=Qb [0] (.reg [xo 2 (.mknil 11),mc 3 (V.int 0)]) (Qb [0] (Qb [0,4] (.reg [mc 4 (V.int 0)]) (.block 0 (JG [0,4] (Qb [0,4] (Qb [0,4,11] (.reg [mv 8 4,mv 9 0,ln 10 9,bn 11 .lss 8 10]) (.cond (.t 11) .skip (.exit 0))) (Qb [0,4] (.block 1 (Qb [0,4,5] (.reg [mv 14 0,mv 15 4,ia 16 11 14 15,xo 17 (.load true 11 (.t 16)),cl 18 QP [17],mv 5 18]) (Qb [0,4,5,20] (.reg [mv 19 5,bc 20 .neq 19 (V.int 0)]) (.cond (.t 20) (Qb [2,3] (.reg [mv 21 5,xo 2 (.mknil 11),mv 3 21]) .ret) .skip)))) (.reg [mv 12 4,bc 13 .add 12 (V.int 1),mv 4 13])))))) (Qb [0,6] (.reg [xo 6 (.mknil 11)]) (Qb [6] (Qb [0,6,7] (.reg [mc 7 (V.int 0)]) (.block 2 (JG [0,6,7] (Qb [0,6,7] (Qb [0,6,7,25] (.reg [mv 22 7,mv 23 0,ln 24 23,bn 25 .lss 22 24]) (.cond (.t 25) .skip (.exit 2))) (Qb [0,6,7] (.block 3 (Qb [0,6,7] (.reg [mv 28 6,mv 29 0,mv 30 7,ia 31 11 29 30,xo 32 (.load true 11 (.t 31)),cl 33 abx [28,32],mv 6 33]) (Qb [0,6,7,36] (.reg [mv 34 6,ln 35 34,bc 36 .gtr 35 (V.int 400)]) (.cond (.t 36) (Qb [2,3] (.reg [xo 2 (.mknil 11),mc 3 (V.int 3)]) .ret) .skip)))) (.reg [mv 26 7,bc 27 .add 26 (V.int 1),mv 7 27])))))) (Qb [2,3] (.reg [mv 37 6,mv 2 37,mc 3 (V.int 0)]) .ret)))) def eu:List Q0:=[.tmp 2,.tmp 3]
def abO (Γ:Env) (f:Nat):Prop:=∀ (l:List Qa) (hl:l.length≤400) (hz:∀ x∈l,x.Sz) (hq:∀ x∈l,Yg x = true),EvC Γ f [.sl 11 (l.map Qa.v)] (.tup [.sl 11 ((WI l).map Qa.v),V.int 0])
attribute [local go_sem] Y1 in
theorem am3 {Γ:Env} {f QP abx:Nat} (h:Has Γ.P f 38 (aiq QP abx) eu) (z0:Uf Γ QP) (z1:adV Γ abx):abO Γ f:=by
 intro l hl hz hq
 refine Ju h zsi zcl fun C hC hm=>?_
 subst hC
 unfold aiq
 have hal:(l.map Qa.v).length = l.length:=zd _
 refine zgo ?_;repeat' first|exact zt|apply zan|intro hc
 refine Jc (ι:=Nat) (fun k=>k≤l.length) (fun k=>[(4,V.int k)]) (fun k=>l.length - k) 0 (by omega) (zG _) zol zlt zet fun k hk K' hL=>?_
 simp only [ovT,Xr,Nat.reduceEqDiff,reduceIte]
 rcases hdr:l.drop k with _|⟨x,r⟩
 rotate_left
 ·obtain ⟨hk',hget,hr⟩:=QJ hdr
  have hw:=Qq (k:=k) (by omega)
  have e1:decide ((k:Int) < (l.length:Int)) = true:=by simp;omega
  have vx:(l.map Qa.v)[k]? = some x.v:=by rw [zi,hget];rfl
  have hm:=zm hget
  have p1:=(z0 x (hz x hm) (hq x hm)).b
  have n0:((0:Int) != 0) = false:=by decide
  simp only [Qa.v,Qa.cells] at vx p1
  (have zx:=za e1 (za hal (za hw (za vx n0))));refine zgo ?_;repeat' first|exact zt|apply zan|intro hc
  all_goals exact hL _ (k + 1) zet (by omega) (by omega) zoe
 have hkl:=QY hdr
 have e1:decide ((k:Int) < (l.length:Int)) = false:=by simp;omega
 clear hL
 (have zx:=za e1 hal);refine zgo ?_;repeat' first|exact zt|apply zan|intro hc
 refine QC (ι:=Nat) (fun k=>k≤l.length) (fun k=>noS l (WI (l.take k)) k) (fun k=>l.length - k) 0 (zG _) (Qi [(0,7000)]) (Qv [(0,7000)] (by simp only [go_sem,zwl,noS,WI,List.take_zero,List.foldl_nil,List.length_nil]<;>exact zcc) (by simp only [go_sem,zwl,noS,WI,List.take_zero,List.foldl_nil,zO]<;>exact zcc) (by simp [noS,Qi]) (by simp [noS];omega) (by omega)) fun k hk K' hL=>?_
 have hnk:=ajU (l.take k)
 rw [zM,kV hk] at hnk
 rcases hdr:l.drop k with _|⟨x,r⟩
 ·have hkl:=QY hdr
  have e1:decide ((k:Int) < (l.length:Int)) = false:=by simp;omega
  obtain rfl:k = l.length:=by omega
  rw [zJ] at hnk ⊢
  simp only [noS]
  have htl:List.take (WI l).length ((WI l).map Qa.v) = (WI l).map Qa.v:=zj (by simp)
  (have zx:=za e1 (za hal htl));refine zgo ?_;repeat' first|exact zt|apply zan|intro hc
  all_goals first|exact zr|(refine Qr _ rfl ?_;simp only [go_sem];simp [zj];done)
 obtain ⟨hk',hget,hr⟩:=QJ hdr
 have hw:=Qq (k:=k) (by omega)
 have e1:decide ((k:Int) < (l.length:Int)) = true:=by simp;omega
 have vx:(l.map Qa.v)[k]? = some x.v:=by rw [zi,hget];rfl
 have hsu:=ask hget
 have hsl:=anS (WI (l.take k)) x
 simp only [noS]
 rcases hd:ave (WI (l.take k)) x with _|_
 ·have gW:=z1.2 (WI (l.take k)) x (by omega) hd
  have hst:WI (l.take (k + 1)) = aj2 (WI (l.take k)) x:=by rw [hsu,aiL,hd];rfl
  have hil:=arc (WI (l.take k)) x
  have e2:decide ((((aj2 (WI (l.take k)) x).length:Nat):Int) > 400) = false:=by simp;omega
  have hml:((aj2 (WI (l.take k)) x).map Qa.v).length = (aj2 (WI (l.take k)) x).length:=zd _
  have hol:((WI (l.take k)).map Qa.v).length = (WI (l.take k)).length:=zd _
  have htl:List.take (WI (l.take k)).length ((WI (l.take k)).map Qa.v) = (WI (l.take k)).map Qa.v:=zj (by simp)
  generalize aj2 (WI (l.take k)) x = ins at *
  generalize WI (l.take k) = out at *
  simp only [Qa.v,Qa.cells] at vx gW
  (have zx:=za e1 (za e2 (za hal (za hw (za vx (za hml (za hol htl)))))));refine zgo ?_;repeat' first|exact zt|apply zan|intro hc
  all_goals exact hL _ (k + 1) (Qi [(0,9001)]) (by omega) (by omega) (Qv [(0,9001)] (by simp only [go_sem,zwl,noS,hst,hal]<;>exact zcc) (by simp only [go_sem,zwl,noS,hst]<;>exact zcc) (by simp [noS,Qi]) (by simp [noS];omega) (by omega))
 ·have gX:=z1.1 (WI (l.take k)) x (by omega) hd
  have hst:WI (l.take (k + 1)) = WI (l.take k):=by rw [hsu,aiL,hd];rfl
  have e2:decide ((((WI (l.take k)).length:Nat):Int) > 400) = false:=by simp;omega
  have hol:((WI (l.take k)).map Qa.v).length = (WI (l.take k)).length:=zd _
  generalize WI (l.take k) = out at *
  simp only [Qa.v,Qa.cells] at vx gX
  repeat' (first|(refine zsk ?_;intro K' hK)|refine zsp ?_|(refine zsc ?_ ?_<;>intro hc<;>first|exact znh|try simp only [znz] at hc)|simp (maxSteps:=1000000) only [go_sem,Y1,e1,e2,hal,hw,vx,hol,Int.toNat_natCast]|(refine hK _ ?_;clear hK K')|apply zan|(apply aiC;(focus exact rfl);(focus first|exact gX);(focus exact rfl);(focus exact rfl);(focus (first|exact rfl|(simp;done))))|(apply QR;(focus first|exact (z0 _ zsd zsd).b))|exact zsq|fail)
  all_goals exact hL _ (k + 1) (Qi []) (by omega) (by omega) (Qv [] (by simp only [go_sem,zwl,noS,hst,hal]<;>exact zcc) (by simp only [go_sem,zwl,noS,hst]<;>exact zcc) (by simp [noS,Qi]) (by simp [noS]) (by omega))
def acu:List (List Nat):=[[],[],[0,1],[2],[3],[4],[5,4],[6],[7,6],[8,6,6],[9],[9],[11,9],[10,12,9],[13,9],[9],[9],[15,16,9],[17,9],[14,18,9,9],[19,9],[9,20,6],[6,21]]
def ab0:OT:=och 0 23
@[go_sem] def jB (QP Qt:Nat):OP:=oN 0 (mv 13 0) (oN 1 (mv 14 3) (oN 2 (ia 15 11 13 14) (oN 3 (xo 16 (.load true 11 (.t 15))) (oN 4 (cl 17 QP [16]) (oN 5 (bc 18 .neq 17 (V.int 0)) (oN 6 (mv 19 18) (oN 7 (mg 20 3 19 false) (oN 8 (xg 21 (.bin .gtr (.t 20) (.c (V.int 0))) 19 false) (oN 9 (mg 22 21 19 false) (oN 10 (mg 23 0 22 true) (oN 11 (mg 24 3 22 true) (oN 12 (xg 25 (.bin .sub (.t 24) (.c (V.int 1))) 22 true) (.one 13 false [4] (xg 26 (.iaddr 11 (.t 23) (.t 25)) 22 true) (.one 14 false [4] (xg 27 (.load true 11 (.t 26)) 22 true) (oN 15 (mg 28 0 22 true) (oN 16 (mg 29 3 22 true) (.one 17 false [4] (xg 30 (.iaddr 11 (.t 28) (.t 29)) 22 true) (.one 18 false [4] (xg 31 (.load true 11 (.t 30)) 22 true) (.one 19 false [4] (xg 32 (.call Qt [(.t 27),(.t 31)]) 22 true) (oN 20 (xg 33 (.bin .geq (.t 32) (.c (V.int 0))) 22 true) (oN 21 (xg 34 (.pick (.t 22) (.t 33) (.c (V.bool false))) 19 false) (oN 22 (xo 35 (.pick (.t 19) (.c (V.bool true)) (.t 34))) .done))))))))))))))))))))))
def ab8 (QP Qt:Nat):List AO:=aoO (jB QP Qt)
instance (QP Qt:Nat):RG [] ab0 (jB QP Qt) (ab8 QP Qt) acu 23 (fun _=>true):=⟨rfl,by kernel_rfl,by kernel_rfl⟩
def aeK (QP Qt:Nat):AC:=Qb [0] (.reg [mc 2 (V.bool false)]) (Qb [0] (Qb [0,6] (.reg [mv 4 0,ln 5 4,bc 6 .gtr 5 (V.int 400)]) (.cond (.t 6) (Qb [2] (.reg [mc 2 (V.bool false)]) .ret) .skip)) (Qb [] (Qb [0,3] (.reg [mc 3 (V.int 0)]) (.block 0 (JG [0,3] (Qb [0,3] (Qb [0,3,10] (.reg [mv 7 3,mv 8 0,ln 9 8,bn 10 .lss 7 9]) (.cond (.t 10) .skip (.exit 0))) (Qb [0,3] (.block 1 (Qb [0,3,35] (VD [] ab0 (jB QP Qt) (ab8 QP Qt) acu) (.cond (.t 35) (Qb [2] (.reg [mc 2 (V.bool false)]) .ret) .skip))) (.reg [mv 11 3,bc 12 .add 11 (V.int 1),mv 3 12])))))) (Qb [2] (.reg [mc 2 (V.bool true)]) .ret))) def ew:List Q0:=[.tmp 2]
def VA (Γ:Env) (f:Nat):Prop:=∀ (l:List Qa) (hl:l.length < 2 ^ 40) (hz:∀ x∈l,x.Sz) (hq:∀ x∈l,Yg x = true),EvN Γ f [.sl 11 (l.map Qa.v)] (V.bool (WJ l))
theorem akk {Γ:Env} {f QP Qt:Nat} (h:Has Γ.P f 36 (aeK QP Qt) ew) (z0:Uf Γ QP) (z1:qS Γ Qt):VA Γ f:=by
 intro l hl hz hq
 refine Qc h zsi zcl zcl fun C hC hm=>?_
 subst hC
 unfold aeK
 have hal:(l.map Qa.v).length = l.length:=zd _
 rcases h4:decide ((l.length:Int) > 400) with _|_
 rotate_left
 ·have hn:WJ l = false:=by rw [WJ];simp at h4;simp;omega
  rw [hn]
  (have zx:=za hal h4);exact zg
 have hn4:WJ l = aoc l:=by rw [WJ];simp at h4;simp;omega
 (have zx:=za hal h4);refine zgo ?_;repeat' first|exact zt|apply zan|intro hc
 refine Jc (ι:=Nat) (fun k=>k≤l.length∧okP Yg ltF l k = true) (fun k=>[(3,V.int k)]) (fun k=>l.length - k) 0 (by omega) ⟨zG _,rfl⟩ zol zlt zet fun k hk K' hL=>?_
 obtain ⟨hk,hinv⟩:=hk
 simp only [ovT,Xr,Nat.reduceEqDiff,reduceIte]
 rcases hd:l.drop k with _|⟨x,r⟩
 ·have hkl:=QY hd
  have e1:decide ((k:Int) < (l.length:Int)) = false:=by simp;omega
  obtain rfl:k = l.length:=by omega
  rw [hn4,aoc,hinv]
  (have zx:=za e1 hal);exact zg
 ·obtain ⟨hk',hget,hr⟩:=QJ hd
  have hw:=Qq (k:=k) (by omega)
  have e1:decide ((k:Int) < (l.length:Int)) = true:=by simp;omega
  have hm:=zm hget
  have p1:=(z0 x (hz x hm) (hq x hm)).b
  have n0:((0:Int) != 0) = false:=by decide
  have vx:(l.map Qa.v)[k]? = some x.v:=by rw [zi,hget];rfl
  have hbad:okP Yg ltF l (k + 1) = false→WJ l = false:=fun h=>by rw [hn4,aoc,atW h (by omega)]
  simp only [Qa.v,Qa.cells] at vx p1
  rcases k with _|k
  ·have hw0:IntKind.i64.wrap 1 = ((1:Nat):Int):=by decide
   have hg1:okP Yg ltF l (0 + 1) = true:=by rw [atU hget,hq x hm]
   have e2:decide (((0:Nat):Int) > 0) = false:=rfl
   (have zx:=za e1 (za e2 (za hal (za hw (za hw0 (za vx n0))))));refine zgo ?_;repeat' first|exact zt|apply zan|intro hc
   all_goals exact hL _ 1 zet ⟨by omega,hg1⟩ (by omega) zoe
  ·have e2:decide (((k + 1:Nat):Int) > 0) = true:=zn (by omega)
   have hw2:IntKind.i64.wrap (((k + 1:Nat):Int) - 1) = (k:Int):=by rw [Q7 (by omega) (by omega)];omega
   obtain ⟨y,hgy⟩:∃ y,l[k]? = some y:=⟨_,zb (by omega)⟩
   have vy:(l.map Qa.v)[k]? = some y.v:=by rw [zi,hgy];rfl
   have hnext:=aq6 (p:=Yg) (q:=ltF) hget hgy
   rw [hinv,hq x hm] at hnext
   have ho:=(z1 y x).b
   simp only [Qa.v,Qa.cells] at ho vy
   rcases hb:ltF y x with _|_
   ·have e3:decide (aiP y x≥0) = true:=by
     rw [ltF,zH] at hb
     exact zn (by omega)
    rw [hbad (by rw [hnext,hb];rfl)]
    generalize aiP y x = oo at *
    (have zx:=za e1 (za e2 (za e3 (za hal (za hw (za hw2 (za vx (za vy n0))))))));exact zg
   ·have e3:decide (aiP y x≥0) = false:=by
     rw [ltF,decide_eq_true_iff] at hb
     exact zv (by omega)
    have hg2:okP Yg ltF l (k + 2) = true:=by rw [hnext,hb];rfl
    generalize aiP y x = oo at *
    (have zx:=za e1 (za e2 (za e3 (za hal (za hw (za hw2 (za vx (za vy n0))))))));refine zgo ?_;repeat' first|exact zt|apply zan|intro hc
    all_goals exact hL _ (k + 2) zet ⟨by omega,hg2⟩ (by omega) zoe
def awI (a b:Int):Int:=if a - b < b - a then b - a else a - b
theorem awu (a b:Int):awI a b = awI b a:=by unfold awI;split<;>split<;>omega
theorem awe (f g:Qa):ajb f g = awI f.day g.day:=rfl
def aio:AC:=Qb [0,1] (.reg [mc 4 (V.int 0)]) (Qb [4] (.reg [mv 5 0,mv 6 1,bn 7 .sub 5 6,mv 8 1,mv 9 0,bn 10 .sub 8 9,xo 11 (.mm true [(.t 7),(.t 10)]),mv 4 11]) .ret) def ey:List Q0:=[.tmp 4]
def yz (Γ:Env) (f:Nat):Prop:=∀ (a b:Int) (ha:0≤a∧a≤40000) (hb:0≤b∧b≤40000),EvN Γ f [V.int a,V.int b] (V.int (awI a b))
theorem am1 {Γ:Env} {f:Nat} (h:Has Γ.P f 12 aio ey) :yz Γ f:=by
 intro a b ha hb
 refine Qc h zsi zcl zcl fun C hC hm=>?_
 subst hC
 unfold aio
 obtain ⟨a1,a2⟩:=ha
 obtain ⟨b1,b2⟩:=hb
 have w1:IntKind.i64.wrap (a - b) = a - b:=Q7 (by omega) (by omega)
 have w2:IntKind.i64.wrap (b - a) = b - a:=Q7 (by omega) (by omega)
 rw [awI]
 (have zx:=za w1 w2);refine zgo ?_;repeat' first|exact zt|apply zan|intro hc
 all_goals first|exact zr|(refine Qr _ rfl ?_;simp only [go_sem];simp;done)
def nrB (a b:Qa) (day:Int):Bool:=decide (Jt [WN (awI a.day day) (awI b.day day),WN a.day b.day,WN a.mach b.mach] < 0)
theorem amw (a b:Int):WN a b < 0↔a < b:=by unfold WN;split<;>(try split)<;>omega
theorem ah6 (a b:Int):WN a b = 0↔a = b:=by unfold WN;split<;>(try split)<;>omega
def acs:List (List Nat):=[[],[0],[],[1,2],[],[4],[],[5,6,3],[3,7,0,1,2,3],[7,8,0,1,2,3,4,5,6,7,8]]
def abZ:OT:=och 0 10
@[go_sem] def jA (QH:Nat):OP:=oN 0 (fa 9 3 3) (oN 1 (ld 10 1 9) (oN 2 (mv 11 2) (oN 3 (cl 12 QH [10,11]) (oN 4 (fa 13 3 4) (oN 5 (ld 14 1 13) (oN 6 (mv 15 2) (oN 7 (cl 16 QH [14,15]) (oN 8 (mv 7 12) (oN 9 (mv 8 16) .done)))))))))
def ab7 (QH:Nat):List AO:=aoO (jA QH)
instance (QH:Nat):RG [] abZ (jA QH) (ab7 QH) acs 10 (fun _=>true):=⟨rfl,by kernel_rfl,by kernel_rfl⟩
def aeJ (QH:Nat):AC:=Qb [2,3,4] (.reg [xo 3 (.box true 11 (.t 0)),xo 4 (.box true 11 (.t 1)),mc 6 (V.bool false)]) (Qb [3,4] (Qb [3,4,7,8] (VD [] abZ (jA QH) (ab7 QH) acs) (Qb [3,4,7,8,19] (.reg [mv 17 7,mv 18 8,bn 19 .neq 17 18]) (.cond (.t 19) (Qb [6] (.reg [mv 20 7,mv 21 8,bn 22 .lss 20 21,mv 6 22]) .ret) .skip))) (Qb [3,4] (Qb [3,4,27] (.reg [fa 23 3 3,ld 24 1 23,fa 25 3 4,ld 26 1 25,bn 27 .neq 24 26]) (.cond (.t 27) (Qb [6] (.reg [fa 28 3 3,ld 29 1 28,fa 30 3 4,ld 31 1 30,bn 32 .lss 29 31,mv 6 32]) .ret) .skip)) (Qb [6] (.reg [fa 33 2 3,ld 34 1 33,fa 35 2 4,ld 36 1 35,bn 37 .lss 34 36,mv 6 37]) .ret))) def ez:List Q0:=[.tmp 6]
def xG (Γ:Env) (f:Nat):Prop:=∀ (a b:Qa) (day:Int) (ha:arG a) (hb:arG b) (hd:0≤day∧day≤40000),EvN Γ f [a.v,b.v,V.int day] (V.bool (nrB a b day))
theorem akj {Γ:Env} {f QH:Nat} (h:Has Γ.P f 38 (aeJ QH) ez) (z0:yz Γ QH):xG Γ f:=by
 intro a b day ha hb hd
 refine Qc h zsi zcl zcl fun C hC hm=>?_
 subst hC
 unfold aeJ
 have p1:=(z0 a.day day ha hd).b
 have p2:=(z0 b.day day hb hd).b
 simp only [Qa.v,Qa.cells,nrB]
 generalize awI a.day day = x at *
 generalize awI b.day day = y at *
 by_cases c1:x = y
 ·subst c1
  have e1:(x != x) = false:=by simp
  by_cases c2:a.day = b.day
  ·have e2:(a.day != b.day) = false:=by simpa using c2
   have hr:decide (Jt [WN x x,WN a.day b.day,WN a.mach b.mach] < 0) = decide (a.mach < b.mach):=by
    rw [decide_eq_decide]
    simp only [Jt,(ah6 x x).2 rfl,(ah6 _ _).2 c2]
    rw [if_neg (by simp),if_neg (by simp)]
    split
    ·exact amw _ _
    ·rename_i h;have h':=(ah6 _ _).1 (by simpa using h);omega
   rw [hr]
   (have zx:=za e1 e2);exact zg
  ·have e2:(a.day != b.day) = true:=by simpa using c2
   have hr:decide (Jt [WN x x,WN a.day b.day,WN a.mach b.mach] < 0) = decide (a.day < b.day):=by
    rw [decide_eq_decide]
    have c3:WN a.day b.day≠0:=fun h=>c2 ((ah6 _ _).1 h)
    simp only [Jt,(ah6 x x).2 rfl]
    rw [if_neg (by simp),if_pos c3]
    exact amw _ _
   rw [hr]
   (have zx:=za e1 e2);exact zg
 ·have e1:(x != y) = true:=by simpa using c1
  have hr:decide (Jt [WN x y,WN a.day b.day,WN a.mach b.mach] < 0) = decide (x < y):=by
   rw [decide_eq_decide]
   have c3:WN x y≠0:=fun h=>c1 ((ah6 _ _).1 h)
   simp only [Jt]
   rw [if_pos c3]
   exact amw _ _
  rw [hr]
  (have zx:=e1);exact zg
theorem ah9 {l:List Qa} {f g:Qa} {gap best:Int} {k:Nat} (hg:l[k]? = some g):qK l f gap best k = if (g.mach == 0) || ((g.host != f.host) || decide (awI g.day f.day > gap)) then best else if best < 0 then (k:Int) else
  match l[best.toNat]? with
  | none=>best
  | some h=>if nrB g h f.day then (k:Int) else best:=by
 rw [qK,hg]
 simp only [awe,nrB,awu f.day,zu,kG,ki,bne_iff_ne]
 rfl
def aa8:List (List Nat):=[[],[],[0,1],[2],[3],[4],[5],[6],[6],[7,8,6],[9,6],[10,6],[6],[6],[12,13,6],[14,6],[15,6],[11,16,6],[6,17],[18,6],[19],[19],[20,21,19],[22,19],[23,19],[19],[19],[25,26,19],[27,19],[28,19],[24,29,19,19],[19],[30,31,19],[19,32]]
def aag:OT:=och 0 34
@[go_sem] def qk (QH:Nat):OP:=oN 0 (mv 15 0) (oN 1 (mv 16 8) (oN 2 (ia 17 11 15 16) (oN 3 (fa 18 2 17) (oN 4 (ld 19 1 18) (oN 5 (bc 20 .eql 19 (V.int 0)) (oN 6 (mv 21 20) (oN 7 (mg 22 0 21 false) (oN 8 (mg 23 8 21 false) (oN 9 (xg 24 (.iaddr 11 (.t 22) (.t 23)) 21 false) (oN 10 (xg 25 (.faddr 1 (.t 24)) 21 false) (oN 11 (xg 26 (.load false 1 (.t 25)) 21 false) (oN 12 (mg 27 0 21 false) (oN 13 (mg 28 1 21 false) (oN 14 (xg 29 (.iaddr 11 (.t 27) (.t 28)) 21 false) (oN 15 (xg 30 (.faddr 1 (.t 29)) 21 false) (oN 16 (xg 31 (.load false 1 (.t 30)) 21 false) (oN 17 (xg 32 (.bin .neq (.t 26) (.t 31)) 21 false) (oN 18 (xo 33 (.pick (.t 21) (.c (V.bool true)) (.t 32))) (oN 19 (mv 34 33) (oN 20 (mg 35 0 34 false) (oN 21 (mg 36 8 34 false) (oN 22 (xg 37 (.iaddr 11 (.t 35) (.t 36)) 34 false) (oN 23 (xg 38 (.faddr 3 (.t 37)) 34 false) (oN 24 (xg 39 (.load false 1 (.t 38)) 34 false) (oN 25 (mg 40 0 34 false) (oN 26 (mg 41 1 34 false) (oN 27 (xg 42 (.iaddr 11 (.t 40) (.t 41)) 34 false) (oN 28 (xg 43 (.faddr 3 (.t 42)) 34 false) (oN 29 (xg 44 (.load false 1 (.t 43)) 34 false) (oN 30 (xg 45 (.call QH [(.t 39),(.t 44)]) 34 false) (oN 31 (mg 46 2 34 false) (oN 32 (xg 47 (.bin .gtr (.t 45) (.t 46)) 34 false) (oN 33 (xo 48 (.pick (.t 34) (.c (V.bool true)) (.t 47))) .done)))))))))))))))))))))))))))))))))
def aar (QH:Nat):List AO:=aoO (qk QH)
instance (QH:Nat):RG [] aag (qk QH) (aar QH) aa8 34 (fun _=>true):=⟨rfl,by kernel_rfl,by kernel_rfl⟩
def aa7:List (List Nat):=[[],[0],[1],[2],[2],[3,4,2],[5,2],[2],[2],[7,8,2],[9,2],[2],[2],[11,12,2],[13,2],[14,2],[6,10,15,2,2],[2,16]]
def aaf:OT:=och 0 18
@[go_sem] def qj (JN:Nat):OP:=oN 0 (mv 49 7) (oN 1 (bc 50 .lss 49 (V.int 0)) (oN 2 (mv 51 50) (oN 3 (mg 52 0 51 false) (oN 4 (mg 53 8 51 false) (oN 5 (xg 54 (.iaddr 11 (.t 52) (.t 53)) 51 false) (oN 6 (xg 55 (.load true 11 (.t 54)) 51 false) (oN 7 (mg 56 0 51 false) (oN 8 (mg 57 7 51 false) (oN 9 (xg 58 (.iaddr 11 (.t 56) (.t 57)) 51 false) (oN 10 (xg 59 (.load true 11 (.t 58)) 51 false) (oN 11 (mg 60 0 51 false) (oN 12 (mg 61 1 51 false) (oN 13 (xg 62 (.iaddr 11 (.t 60) (.t 61)) 51 false) (oN 14 (xg 63 (.faddr 3 (.t 62)) 51 false) (oN 15 (xg 64 (.load false 1 (.t 63)) 51 false) (oN 16 (xg 65 (.call JN [(.t 55),(.t 59),(.t 64)]) 51 false) (oN 17 (xo 66 (.pick (.t 51) (.c (V.bool true)) (.t 65))) .done)))))))))))))))))
def aaq (JN:Nat):List AO:=aoO (qj JN)
instance (JN:Nat):RG [] aaf (qj JN) (aaq JN) aa7 18 (fun _=>true):=⟨rfl,by kernel_rfl,by kernel_rfl⟩
def adk (QH JN:Nat):AC:=Qb [0,1,2] (.reg [mc 6 (V.int 0)]) (Qb [0,1,2,7] (.reg [mc 7 (V.int (-1))]) (Qb [7] (Qb [0,1,2,7,8] (.reg [mc 8 (V.int 0)]) (.block 0 (JG [0,1,2,7,8] (Qb [0,1,2,7,8] (Qb [0,1,2,7,8,12] (.reg [mv 9 8,mv 10 0,ln 11 10,bn 12 .lss 9 11]) (.cond (.t 12) .skip (.exit 0))) (Qb [0,1,2,7,8] (.block 1 (Qb [0,1,2,7,8] (Qb [0,1,2,7,8,48] (VD [] aag (qk QH) (aar QH) aa8) (.cond (.t 48) (.exit 1) .skip)) (Qb [0,1,2,7,8,66] (VD [] aaf (qj JN) (aaq JN) aa7) (.cond (.t 66) (.reg [mv 67 8,mv 7 67]) .skip)))) (.reg [mv 13 8,bc 14 .add 13 (V.int 1),mv 8 14])))))) (Qb [6] (.reg [mv 68 7,mv 6 68]) .ret))) def eA:List Q0:=[.tmp 6]
def Uq (Γ:Env) (f:Nat):Prop:=∀ (l:List Qa) (i:Nat) (f0:Qa) (gap:Int) (hl:l.length < 2 ^ 40) (hd:∀ x∈l,arG x) (hi:l[i]? = some f0),EvN Γ f [.sl 11 (l.map Qa.v),V.int i,V.int gap] (V.int (VE l f0 gap))
theorem aiW {Γ:Env} {f QH JN:Nat} (h:Has Γ.P f 69 (adk QH JN) eA) (z0:yz Γ QH) (z1:xG Γ JN):Uq Γ f:=by
 intro l i f0 gap hl hd hi
 refine Qc h zsi zcl zcl fun C hC hm=>?_
 subst hC
 unfold adk
 have hal:(l.map Qa.v).length = l.length:=zd _
 have v0:(l.map Qa.v)[i]? = some f0.v:=by rw [zi,hi];rfl
 have hf0:=hd f0 (zm hi)
 simp only [Qa.v,Qa.cells] at v0
 refine zgo ?_;repeat' first|exact zt|apply zan|intro hc
 refine Jc (ι:=Nat) (fun k=>k≤l.length) (fun k=>[(7,V.int (yb l f0 gap k)),(8,V.int k)]) (fun k=>l.length - k) 0 (by omega) (zG _) zol zlt (by simp only [Nat.reduceAdd,ovT,Xr,Nat.reduceEqDiff,reduceIte,XQ,WQ,alK,u32,u33,u34,u35,u36,u37,u38,u39,and_self,and_true,true_and];exact ⟨rfl,rfl⟩) fun k hk K' hL=>?_
 simp only [ovT,Xr,Nat.reduceEqDiff,reduceIte]
 have hrng:=aav l f0 gap k
 have hsuc:=abr l f0 gap k
 have hN:VE l f0 gap = yb l f0 gap l.length:=rfl
 rcases hdr:l.drop k with _|⟨g,r⟩
 ·have hkl:=QY hdr
  have e1:decide ((k:Int) < (l.length:Int)) = false:=by simp;omega
  obtain rfl:k = l.length:=by omega
  rw [hN]
  (have zx:=za e1 hal);exact zg
 ·obtain ⟨hk',hget,hr⟩:=QJ hdr
  have hw:=Qq (k:=k) (by omega)
  have e1:decide ((k:Int) < (l.length:Int)) = true:=by simp;omega
  have hg:=hd g (zm hget)
  have vg:(l.map Qa.v)[k]? = some g.v:=by rw [zi,hget];rfl
  have p1:=(z0 g.day f0.day hg hf0).b
  rw [ah9 hget] at hsuc
  clear hN
  generalize yb l f0 gap k = best at *
  generalize awI g.day f0.day = dg at *
  simp only [Qa.v,Qa.cells] at vg
  rcases c1:(g.mach == 0) with _|_
  rotate_left
  ·rw [c1] at hsuc
   simp only [kl,if_true] at hsuc
   (have zx:=za e1 (za c1 (za hal (za hw (za vg v0)))));refine zgo ?_;repeat' first|exact zt|apply zan|intro hc
   all_goals exact hL _ (k + 1) (by rw [hsuc];simp only [Nat.reduceAdd,ovT,Xr,Nat.reduceEqDiff,reduceIte,XQ,WQ,alK,u32,u33,u34,u35,u36,u37,u38,u39,and_self,and_true,true_and]) (by omega) (by omega) zoe
  rcases c2:(g.host != f0.host) with _|_
  rotate_left
  ·have c2':(g.host == f0.host) = false:=by simpa using c2
   rw [c1,c2] at hsuc
   simp only [kl,kC,if_true] at hsuc
   (have zx:=za e1 (za c1 (za c2' (za hal (za hw (za vg v0))))));refine zgo ?_;repeat' first|exact zt|apply zan|intro hc
   all_goals exact hL _ (k + 1) (by rw [hsuc];simp only [Nat.reduceAdd,ovT,Xr,Nat.reduceEqDiff,reduceIte,XQ,WQ,alK,u32,u33,u34,u35,u36,u37,u38,u39,and_self,and_true,true_and]) (by omega) (by omega) zoe
  have c2':(g.host == f0.host) = true:=by simpa using c2
  rcases c3:decide (dg > gap) with _|_
  rotate_left
  ·rw [c1,c2,c3] at hsuc
   simp only [ZY,kC,if_true] at hsuc
   (have zx:=za e1 (za c1 (za c2' (za c3 (za hal (za hw (za vg v0)))))));refine zgo ?_;repeat' first|exact zt|apply zan|intro hc
   all_goals exact hL _ (k + 1) (by rw [hsuc];simp only [Nat.reduceAdd,ovT,Xr,Nat.reduceEqDiff,reduceIte,XQ,WQ,alK,u32,u33,u34,u35,u36,u37,u38,u39,and_self,and_true,true_and]) (by omega) (by omega) zoe
  rw [c1,c2,c3] at hsuc
  simp only [ba,zw,if_false] at hsuc
  by_cases c4:best < 0
  ·rw [if_pos c4] at hsuc
   have e5:decide (best < 0) = true:=zn c4
   (have zx:=za e1 (za c1 (za c2' (za c3 (za e5 (za hal (za hw (za vg v0))))))));refine zgo ?_;repeat' first|exact zt|apply zan|intro hc
   all_goals exact hL _ (k + 1) (by rw [hsuc];simp only [Nat.reduceAdd,ovT,Xr,Nat.reduceEqDiff,reduceIte,XQ,WQ,alK,u32,u33,u34,u35,u36,u37,u38,u39,and_self,and_true,true_and]) (by omega) (by omega) zoe
  ·rw [if_neg c4] at hsuc
   have e5:decide (best < 0) = false:=zv c4
   obtain ⟨j,rfl⟩:∃ j:Nat,best = j:=⟨best.toNat,by omega⟩
   have hj:j < l.length:=by omega
   obtain ⟨q,hgq⟩:∃ q,l[j]? = some q:=⟨_,zb hj⟩
   have vq:(l.map Qa.v)[j]? = some q.v:=by rw [zi,hgq];rfl
   rw [Int.toNat_natCast,hgq] at hsuc
   simp only at hsuc
   have p2:=(z1 g q f0.day hg (hd q (zm hgq)) hf0).b
   simp only [Qa.v,Qa.cells] at vq p2
   rcases c5:nrB g q f0.day with _|_
   ·rw [c5] at p2 hsuc
    simp only [zw,if_false] at hsuc
    (have zx:=za e1 (za c1 (za c2' (za c3 (za e5 (za hal (za hw (za vg (za v0 vq)))))))));refine zgo ?_;repeat' first|exact zt|apply zan|intro hc
    all_goals exact hL _ (k + 1) (by rw [hsuc];simp only [Nat.reduceAdd,ovT,Xr,Nat.reduceEqDiff,reduceIte,XQ,WQ,alK,u32,u33,u34,u35,u36,u37,u38,u39,and_self,and_true,true_and]) (by omega) (by omega) zoe
   ·rw [c5] at p2 hsuc
    simp only [if_true] at hsuc
    (have zx:=za e1 (za c1 (za c2' (za c3 (za e5 (za hal (za hw (za vg (za v0 vq)))))))));refine zgo ?_;repeat' first|exact zt|apply zan|intro hc
    all_goals exact hL _ (k + 1) (by rw [hsuc];simp only [Nat.reduceAdd,ovT,Xr,Nat.reduceEqDiff,reduceIte,XQ,WQ,alK,u32,u33,u34,u35,u36,u37,u38,u39,and_self,and_true,true_and]) (by omega) (by omega) zoe
end Av
end
