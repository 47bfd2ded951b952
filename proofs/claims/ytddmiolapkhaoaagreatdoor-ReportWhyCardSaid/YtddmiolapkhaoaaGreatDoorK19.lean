/- K19 -/
import Derived.Test.YtddmiolapkhaoaaGreatDoorK18
import Derived.Test.YtddmiolapkhaoaaGreatDoorK16
import Derived.Test.YtddmiolapkhaoaaGreatDoorK17
import Derived.Test.YtddmiolapkhaoaaGreatDoorK13
set_option linter.unusedVariables false
set_option linter.unusedSimpArgs false
section
set_option maxRecDepth 10000
set_option maxHeartbeats 4000000
namespace Av
open Go
attribute [local irreducible] AWp U3 abh acE awS awC ajc awQ ajv Jo jG aiB awR yv awB okR ad1 ris
def azj (gap day age:Int):Bool:=decide (gap < 0) || (decide (gap > 4000) || (decide (day < 0) || (decide (day > 40000) || (decide (age < 0) || decide (age > 4000)))))
def wt (l:List Qa) (gap day age:Int):Int:=if WJ l = true then (if azj gap day age = true then 2 else 0) else 24
def agz (Jh:Nat):AC:=Qb [0,1,2,3] (.reg [mc 8 (V.int 0)]) (Qb [1,2,3] (Qb [1,2,3,11] (.reg [mv 9 0,cl 10 Jh [9],xo 11 (.un .not (.t 10))]) (.cond (.t 11) (Qb [8] (.reg [mc 8 (V.int 24)]) .ret) .skip)) (Qb [] (Qb [33] (.reg [mv 12 1,bc 13 .lss 12 (V.int 0),mv 14 13,mg 15 1 14 false,xg 16 (.bin .gtr (.t 15) (.c (V.int 4000))) 14 false,xo 17 (.pick (.t 14) (.c (V.bool true)) (.t 16)),mv 18 17,mg 19 2 18 false,xg 20 (.bin .lss (.t 19) (.c (V.int 0))) 18 false,xo 21 (.pick (.t 18) (.c (V.bool true)) (.t 20)),mv 22 21,mg 23 2 22 false,xg 24 (.bin .gtr (.t 23) (.c (V.int 40000))) 22 false,xo 25 (.pick (.t 22) (.c (V.bool true)) (.t 24)),mv 26 25,mg 27 3 26 false,xg 28 (.bin .lss (.t 27) (.c (V.int 0))) 26 false,xo 29 (.pick (.t 26) (.c (V.bool true)) (.t 28)),mv 30 29,mg 31 3 30 false,xg 32 (.bin .gtr (.t 31) (.c (V.int 4000))) 30 false,xo 33 (.pick (.t 30) (.c (V.bool true)) (.t 32))]) (.cond (.t 33) (Qb [8] (.reg [mc 8 (V.int 2)]) .ret) .skip)) (Qb [8] (.reg [mc 8 (V.int 0)]) .ret))) def eP:List Q0:=[.tmp 8]
def qR (Γ:Env) (f:Nat):Prop:=∀ (l:List Qa) (gap day age:Int) (hl:l.length < 2 ^ 40) (hz:∀ x∈l,x.Sz) (hq:∀ x∈l,Yg x = true),EvN Γ f [.sl 11 (l.map Qa.v),V.int gap,V.int day,V.int age] (V.int (wt l gap day age))
theorem ale {Γ:Env} {f Jh:Nat} (h:Has Γ.P f 34 (agz Jh) eP) (z0:VA Γ Jh):qR Γ f:=by
 intro l gap day age hl hz hq
 refine Qc h zsi zcl zcl fun C hC hm=>?_
 subst hC
 unfold agz
 have p0:=(z0 l hl hz hq).b
 unfold wt
 rcases hb:WJ l with _|_
 ·rw [hb] at p0
  rw [if_neg (by decide)]
  exact zg
 rw [hb] at p0
 rw [if_pos rfl]
 rw [azj]
 rcases c1:decide (gap < 0) with _|_
 rotate_left
 ·(have zx:=c1);refine zgo ?_;repeat' first|exact zt|apply zan|intro hc
  all_goals first|exact zr|(refine Qr _ rfl ?_;simp only [go_sem];simp;done)
 rcases c2:decide (gap > 4000) with _|_
 rotate_left
 ·(have zx:=za c1 c2);refine zgo ?_;repeat' first|exact zt|apply zan|intro hc
  all_goals first|exact zr|(refine Qr _ rfl ?_;simp only [go_sem];simp;done)
 rcases c3:decide (day < 0) with _|_
 rotate_left
 ·(have zx:=za c1 (za c2 c3));refine zgo ?_;repeat' first|exact zt|apply zan|intro hc
  all_goals first|exact zr|(refine Qr _ rfl ?_;simp only [go_sem];simp;done)
 rcases c4:decide (day > 40000) with _|_
 rotate_left
 ·(have zx:=za c1 (za c2 (za c3 c4)));refine zgo ?_;repeat' first|exact zt|apply zan|intro hc
  all_goals first|exact zr|(refine Qr _ rfl ?_;simp only [go_sem];simp;done)
 rcases c5:decide (age < 0) with _|_
 rotate_left
 ·(have zx:=za c1 (za c2 (za c3 (za c4 c5))));refine zgo ?_;repeat' first|exact zt|apply zan|intro hc
  all_goals first|exact zr|(refine Qr _ rfl ?_;simp only [go_sem];simp;done)
 rcases c6:decide (age > 4000) with _|_
 ·(have zx:=za c1 (za c2 (za c3 (za c4 (za c5 c6)))));refine zgo ?_;repeat' first|exact zt|apply zan|intro hc
  all_goals first|exact zr|(refine Qr _ rfl ?_;simp only [go_sem];simp;done)
 ·(have zx:=za c1 (za c2 (za c3 (za c4 (za c5 c6)))));refine zgo ?_;repeat' first|exact zt|apply zan|intro hc
  all_goals first|exact zr|(refine Qr _ rfl ?_;simp only [go_sem];simp;done)
def aik:AC:=Qb [0,1] (.reg [mc 4 (V.bool false)]) (Qb [] (Qb [0,1,5] (.reg [mc 5 (V.int 0)]) (.block 0 (JG [0,1,5] (Qb [0,1,5] (Qb [0,1,5,9] (.reg [mv 6 5,mv 7 0,ln 8 7,bn 9 .lss 6 8]) (.cond (.t 9) .skip (.exit 0))) (Qb [0,1,5] (.block 1 (Qb [0,1,5,17] (.reg [mv 12 0,mv 13 5,ia 14 1 12 13,ld 15 1 14,mv 16 1,bn 17 .eql 15 16]) (.cond (.t 17) (Qb [4] (.reg [mc 4 (V.bool true)]) .ret) .skip))) (.reg [mv 10 5,bc 11 .add 10 (V.int 1),mv 5 11])))))) (Qb [4] (.reg [mc 4 (V.bool false)]) .ret)) def eQ:List Q0:=[.tmp 4]
def abJ (Γ:Env) (f:Nat):Prop:=∀ (l:List (List UInt8)) (x:List UInt8) (hl:l.length < 2 ^ 40),EvN Γ f [.sl 1 (l.map V.str),V.str x] (V.bool (l.any fun y=>y == x))
theorem amX {Γ:Env} {f:Nat} (h:Has Γ.P f 18 aik eQ) :abJ Γ f:=by
 intro l x hl
 refine Qc h zsi zcl zcl fun C hC hm=>?_
 subst hC
 unfold aik
 have hal:(l.map V.str).length = l.length:=zd _
 refine zgo ?_;repeat' first|exact zt|apply zan|intro hc
 refine Jc (ι:=Nat) (fun k=>k≤l.length∧(l.drop k).any (fun y=>y == x) = l.any (fun y=>y == x)) (fun k=>[(5,V.int k)]) (fun k=>l.length - k) 0 (by omega) ⟨zG _,rfl⟩ zol zlt zet fun k hk K' hL=>?_
 obtain ⟨hk,hinv⟩:=hk
 simp only [ovT,Xr,Nat.reduceEqDiff,reduceIte]
 rcases hd:l.drop k with _|⟨y,r⟩
 ·have hkl:=QY hd
  have e1:decide ((k:Int) < (l.length:Int)) = false:=by simp;omega
  rw [hd] at hinv
  rw [← hinv]
  (have zx:=za e1 hal);exact zg
 ·obtain ⟨hk',hget,hr⟩:=QJ hd
  have hw:=Qq (k:=k) (by omega)
  have e1:decide ((k:Int) < (l.length:Int)) = true:=by simp;omega
  have vy:(l.map V.str)[k]? = some (V.str y):=by rw [zi,hget];rfl
  rw [hd,List.any_cons] at hinv
  rcases c1:(y == x) with _|_
  ·rw [c1,kC,← hr] at hinv
   (have zx:=za e1 (za c1 (za hal (za hw vy))));refine zgo ?_;repeat' first|exact zt|apply zan|intro hc
   all_goals exact hL _ (k + 1) zet ⟨by omega,hinv⟩ (by omega) zoe
  ·rw [c1,kl] at hinv
   rw [← hinv]
   (have zx:=za e1 (za c1 (za hal (za hw vy))));exact zg
def as4 (l:List Qa) (day age:Int) (f:Qg) (e:Ji):Bool:=(f.text == [] || e.hosts.any fun y=>y == f.text) && (YC l e.num e.finds day age e.finds.length).any (aef f)
def ayk (l:List Qa) (gap day age:Int) (f:Qg):Bool:=(Y4 l gap).any (as4 l day age f)
def syS (l:List Qa) (gap day age:Int) (f:Qg) (k:Nat):St:=Y1 [(0,.sl 11 (l.map Qa.v)),(2,V.int day),(3,V.int age),(9,.ptr 0 0),(11,.sl 4 ((Y4 l gap).map Ji.v)),(13,V.int k)] [(0,.box true f.cells)] 1
def aeV:List (List Nat):=[[],[0],[1],[2],[3],[3],[4,5,3],[6,3],[7,3],[3],[9,3],[8,10,3,3],[11,3],[3,12]]
def aet:OT:=och 0 14
@[go_sem] def vj (YQ:Nat):OP:=oN 0 (fa 29 6 9) (oN 1 (ld 30 1 29) (oN 2 (bc 31 .neq 30 (V.str [])) (oN 3 (mv 32 31) (oN 4 (mg 33 11 32 true) (oN 5 (mg 34 13 32 true) (oN 6 (xg 35 (.iaddr 4 (.t 33) (.t 34)) 32 true) (oN 7 (xg 36 (.faddr 1 (.t 35)) 32 true) (oN 8 (xg 37 (.load false 1 (.t 36)) 32 true) (oN 9 (xg 38 (.faddr 6 (.t 9)) 32 true) (oN 10 (xg 39 (.load false 1 (.t 38)) 32 true) (oN 11 (xg 40 (.call YQ [(.t 37),(.t 39)]) 32 true) (oN 12 (xg 41 (.un .not (.t 40)) 32 true) (oN 13 (xo 42 (.pick (.t 32) (.t 41) (.c (V.bool false)))) .done)))))))))))))
def aeA (YQ:Nat):List AO:=aoO (vj YQ)
instance (YQ:Nat):RG [] aet (vj YQ) (aeA YQ) aeV 14 (fun _=>true):=⟨rfl,by kernel_rfl,by kernel_rfl⟩
def aeU:List (List Nat):=[[],[],[0,1],[2],[3],[],[5],[4,6],[7],[8],[8],[9,10,8],[11,8],[12,8],[8],[14,8],[13,15,8],[8,16],[17,8],[18],[18],[19,20,18],[21,18],[22,18],[18],[24,18],[23,25,18],[18,26],[27,18],[28],[28],[29,30,28],[31,28],[32,28],[28],[34,28],[33,35,28],[28,36]]
def aes:OT:=och 0 38
@[go_sem] def vh:OP:=oN 0 (mv 60 14) (oN 1 (mv 61 16) (oN 2 (ia 62 8 60 61) (oN 3 (fa 63 1 62) (oN 4 (ld 64 1 63) (oN 5 (fa 65 1 9) (oN 6 (ld 66 1 65) (oN 7 (bn 67 .eql 64 66) (oN 8 (mv 68 67) (oN 9 (mg 69 14 68 true) (oN 10 (mg 70 16 68 true) (oN 11 (xg 71 (.iaddr 8 (.t 69) (.t 70)) 68 true) (oN 12 (xg 72 (.faddr 2 (.t 71)) 68 true) (oN 13 (xg 73 (.load false 1 (.t 72)) 68 true) (oN 14 (xg 74 (.faddr 2 (.t 9)) 68 true) (oN 15 (xg 75 (.load false 1 (.t 74)) 68 true) (oN 16 (xg 76 (.bin .eql (.t 73) (.t 75)) 68 true) (oN 17 (xo 77 (.pick (.t 68) (.t 76) (.c (V.bool false)))) (oN 18 (mv 78 77) (oN 19 (mg 79 14 78 true) (oN 20 (mg 80 16 78 true) (oN 21 (xg 81 (.iaddr 8 (.t 79) (.t 80)) 78 true) (oN 22 (xg 82 (.faddr 3 (.t 81)) 78 true) (oN 23 (xg 83 (.load true 2 (.t 82)) 78 true) (oN 24 (xg 84 (.faddr 3 (.t 9)) 78 true) (oN 25 (xg 85 (.load true 2 (.t 84)) 78 true) (oN 26 (xg 86 (.eqagg false [0,0] (.t 83) (.t 85)) 78 true) (oN 27 (xo 87 (.pick (.t 78) (.t 86) (.c (V.bool false)))) (oN 28 (mv 88 87) (oN 29 (mg 89 14 88 true) (oN 30 (mg 90 16 88 true) (oN 31 (xg 91 (.iaddr 8 (.t 89) (.t 90)) 88 true) (oN 32 (xg 92 (.faddr 5 (.t 91)) 88 true) (oN 33 (xg 93 (.load false 1 (.t 92)) 88 true) (oN 34 (xg 94 (.faddr 5 (.t 9)) 88 true) (oN 35 (xg 95 (.load false 1 (.t 94)) 88 true) (oN 36 (xg 96 (.bin .eql (.t 93) (.t 95)) 88 true) (oN 37 (xo 97 (.pick (.t 88) (.t 96) (.c (V.bool false)))) .done)))))))))))))))))))))))))))))))))))))
def aez:List AO:=aoO (vh)
instance:RG [] aes (vh) (aez) aeU 38 (fun _=>true):=⟨rfl,by kernel_rfl,by kernel_rfl⟩
def aij (Uj YQ ym:Nat):AC:=Qb [0,1,2,3,9] (.reg [xo 9 (.box true 8 (.t 4)),mc 10 (V.bool false)]) (Qb [0,2,3,9,11] (.reg [mv 18 0,mv 19 1,cl 20 Uj [18,19],mv 17 20,ex 21 17 0,ex 22 17 1,mv 11 21,mv 12 22]) (Qb [] (Qb [0,2,3,9,11,13] (.reg [mc 13 (V.int 0)]) (.block 0 (JG [0,2,3,9,11,13] (Qb [0,2,3,9,11,13] (Qb [0,2,3,9,11,13,26] (.reg [mv 23 13,mv 24 11,ln 25 24,bn 26 .lss 23 25]) (.cond (.t 26) .skip (.exit 0))) (Qb [0,2,3,9,11,13] (.block 1 (Qb [0,2,3,9,11,13] (Qb [0,2,3,9,11,13,42] (VD [] aet (vj YQ) (aeA YQ) aeV) (.cond (.t 42) (.exit 1) .skip)) (Qb [0,2,3,9,11,13,14] (.reg [mv 44 0,mv 45 11,mv 46 13,ia 47 4 45 46,xo 48 (.load true 4 (.t 47)),mv 49 2,mv 50 3,cl 51 ym [44,48,49,50],mv 43 51,ex 52 43 0,ex 53 43 1,mv 14 52,mv 15 53]) (Qb [0,2,3,9,11,13,14,16] (.reg [mc 16 (V.int 0)]) (.block 2 (JG [0,2,3,9,11,13,14,16] (Qb [0,2,3,9,11,13,14,16] (Qb [0,2,3,9,11,13,14,16,57] (.reg [mv 54 16,mv 55 14,ln 56 55,bn 57 .lss 54 56]) (.cond (.t 57) .skip (.exit 2))) (Qb [0,2,3,9,11,13,14,16] (.block 3 (Qb [0,2,3,9,11,13,14,16,97] (VD [] aes (vh) (aez) aeU) (.cond (.t 97) (Qb [10] (.reg [mc 10 (V.bool true)]) .ret) .skip))) (.reg [mv 58 16,bc 59 .add 58 (V.int 1),mv 16 59]))))))))) (.reg [mv 27 13,bc 28 .add 27 (V.int 1),mv 13 28])))))) (Qb [10] (.reg [mc 10 (V.bool false)]) .ret))) def eR:List Q0:=[.tmp 10]
def yy (Γ:Env) (f:Nat):Prop:=∀ (l:List Qa) (gap day age:Int) (f0:Qg) (hz:∀ x∈l,x.Sz) (hnm:WJ l = true) (hg:0≤gap∧gap≤4000) (hdy:0≤day∧day≤40000) (hag:0≤age∧age≤4000),EvN Γ f [.sl 11 (l.map Qa.v),V.int gap,V.int day,V.int age,f0.v] (V.bool (ayk l gap day age f0))
attribute [local go_sem] Y1 in
theorem amW {Γ:Env} {f Uj YQ ym:Nat} (h:Has Γ.P f 98 (aij Uj YQ ym) eR) (z0:qD Γ Uj) (z1:abJ Γ YQ) (z2:vU Γ ym):yy Γ f:=by
 intro l gap day age f0 hz hnm hg hdy hag
 refine Qc h zsi zcl zcl fun C hC hm=>?_
 subst hC
 unfold aij
 obtain ⟨hl4,hq⟩:=W6 hnm
 have p0:=(z0 l gap (by omega) hz hq).b
 rw [awa,av9,show YS l gap = 0 by rw [YS,if_pos hnm,if_neg (by omega)],if_pos rfl] at p0
 have hel:=aju l gap
 simp only [Qg.v,Qg.cells]
 refine zgo ?_;repeat' first|exact zt|apply zan|intro hc
 refine QC (ι:=Nat) (fun k=>k≤(Y4 l gap).length∧((Y4 l gap).drop k).any (as4 l day age f0) = ayk l gap day age f0) (fun k=>syS l gap day age f0 k) (fun k=>(Y4 l gap).length - k) 0 ⟨zG _,rfl⟩ (Qi [(0,0)]) (Qv [(0,0)] (by simp only [go_sem,zwl,syS]<;>exact zcc) (by simp only [go_sem,zwl,syS,Qg.cells]<;>exact zcc) (by simp [syS,Qi]) (by simp [syS];omega) (by omega)) fun k hk K' hL=>?_
 obtain ⟨hk,hinv⟩:=hk
 have heL:((Y4 l gap).map Ji.v).length = (Y4 l gap).length:=zd _
 rcases hdr:(Y4 l gap).drop k with _|⟨e,r⟩
 ·have hkl:=QY hdr
  have e1:decide ((k:Int) < ((Y4 l gap).length:Int)) = false:=by simp;omega
  rw [hdr] at hinv
  rw [← hinv]
  simp only [syS]
  (have zx:=za e1 heL);exact zg
 obtain ⟨hk',hget,hr⟩:=QJ hdr
 have hw:=Qq (k:=k) (by omega)
 have e1:decide ((k:Int) < ((Y4 l gap).length:Int)) = true:=by simp;omega
 have ve:((Y4 l gap).map Ji.v)[k]? = some e.v:=by rw [zi,hget];rfl
 obtain ⟨o1,o2,o3,o4⟩:=anf (zm hget)
 have ph:=(z1 e.hosts f0.text (by omega)).b
 have pf:=(z2 l e day age (by omega) hz hnm hdy hag o2 (o1.imp fun h=>Nat.ne_of_lt h) (by omega)).b
 rw [hdr,List.any_cons,← hr] at hinv
 simp only [Ji.v] at ve pf
 simp only [syS,Qg.cells]
 rcases t1:(f0.text == []) with _|_
 ·rcases t2:(e.hosts.any fun y=>y == f0.text) with _|_
  ·rw [t2] at ph
   rw [show as4 l day age f0 e = false by rw [as4,t1,t2];rfl,kC] at hinv
   (have zx:=za e1 (za t1 (za heL (za hw ve))));refine zgo ?_;repeat' first|exact zt|apply zan|intro hc
   all_goals exact hL _ (k + 1) (Qi []) ⟨by omega,hinv⟩ (by omega) (Qv [] (by simp only [go_sem,zwl,syS]<;>exact zcc) (by simp only [go_sem,zwl,syS,Qg.cells]<;>exact zcc) (by simp [syS,Qi]) (by simp [syS]) (by omega))
  ·rw [t2] at ph
   (have zx:=za e1 (za t1 (za heL (za hw ve))));refine zgo ?_;repeat' first|exact zt|apply zan|intro hc
   refine Jc (ι:=Nat) (fun j=>j≤(YC l e.num e.finds day age e.finds.length).length∧((YC l e.num e.finds day age e.finds.length).drop j).any (aef f0) = (YC l e.num e.finds day age e.finds.length).any (aef f0)) (fun j=>[(16,V.int j)]) (fun j=>(YC l e.num e.finds day age e.finds.length).length - j) 0 (by omega) ⟨zG _,rfl⟩ zol zlt zet fun j hj K2 hL2=>?_
   obtain ⟨hj,hjv⟩:=hj
   simp only [ovT,Xr,Nat.reduceEqDiff,reduceIte]
   have hsE:as4 l day age f0 e = (YC l e.num e.finds day age e.finds.length).any (aef f0):=by rw [as4,t1];first|(rw [t2];rfl)|rfl
   have hfl:((YC l e.num e.finds day age e.finds.length).map Qg.v).length = (YC l e.num e.finds day age e.finds.length).length:=zd _
   have hfn:=aec l e.num day age e.finds e.finds.length
   rw [hsE] at hinv
   generalize YC l e.num e.finds day age e.finds.length = fl at *
   rcases hdj:fl.drop j with _|⟨x,q⟩
   ·have hkl:=QY hdj
    have g1:decide ((j:Int) < (fl.length:Int)) = false:=by simp;omega
    rw [hdj] at hjv
    rw [← hjv] at hinv
    have hinv:((Y4 l gap).drop (k + 1)).any (as4 l day age f0) = ayk l gap day age f0:=by simpa using hinv
    (have zx:=za g1 (za hfl hw));refine zgo ?_;repeat' first|exact zt|apply zan|intro hc
    all_goals exact hL _ (k + 1) (Qi []) ⟨by omega,hinv⟩ (by omega) (Qv [] (by simp only [go_sem,zwl,syS]<;>exact zcc) (by simp only [go_sem,zwl,syS,Qg.cells]<;>exact zcc) (by simp [syS,Qi]) (by simp [syS]) (by omega))
   obtain ⟨hj',hgj,hqr⟩:=QJ hdj
   have hwj:=Qq (k:=j) (by omega)
   have g1:decide ((j:Int) < (fl.length:Int)) = true:=by simp;omega
   have vx:(fl.map Qg.v)[j]? = some x.v:=by rw [zi,hgj];rfl
   simp only [Qg.v,Qg.cells] at vx
   rw [hdj,List.any_cons,← hqr] at hjv
   rw [aef] at hjv
   rcases c1:(x.subj == f0.subj) with _|_
   ·rw [c1] at hjv
    simp only [ke,kh,kO,kR,kC,kl] at hjv
    (have zx:=za g1 (za c1 (za hfl (za hwj vx))));refine zgo ?_;repeat' first|exact zt|apply zan|intro hc
    all_goals exact hL2 _ (j + 1) zet ⟨by omega,hjv⟩ (by omega) zoe
   rcases c2:(x.kind == f0.kind) with _|_
   ·rw [c1,c2] at hjv
    simp only [ke,kh,kO,kR,kC,kl] at hjv
    (have zx:=za g1 (za c1 (za c2 (za hfl (za hwj vx)))));refine zgo ?_;repeat' first|exact zt|apply zan|intro hc
    all_goals exact hL2 _ (j + 1) zet ⟨by omega,hjv⟩ (by omega) zoe
   rcases c3:(x.alg == f0.alg) with _|_
   ·rw [c1,c2,c3] at hjv
    simp only [ke,kh,kO,kR,kC,kl] at hjv
    (have zx:=za g1 (za c1 (za c2 (za c3 (za hfl (za hwj vx))))));refine zgo ?_;repeat' first|exact zt|apply zan|intro hc
    all_goals exact hL2 _ (j + 1) zet ⟨by omega,hjv⟩ (by omega) zoe
   rcases c4:(x.bits == f0.bits) with _|_
   ·rw [c1,c2,c3,c4] at hjv
    simp only [ke,kh,kO,kR,kC,kl] at hjv
    (have zx:=za g1 (za c1 (za c2 (za c3 (za c4 (za hfl (za hwj vx)))))));refine zgo ?_;repeat' first|exact zt|apply zan|intro hc
    all_goals exact hL2 _ (j + 1) zet ⟨by omega,hjv⟩ (by omega) zoe
   rcases c5:(x.num == f0.num) with _|_
   ·rw [c1,c2,c3,c4,c5] at hjv
    simp only [ke,kh,kO,kR,kC,kl] at hjv
    (have zx:=za g1 (za c1 (za c2 (za c3 (za c4 (za c5 (za hfl (za hwj vx))))))));refine zgo ?_;repeat' first|exact zt|apply zan|intro hc
    all_goals exact hL2 _ (j + 1) zet ⟨by omega,hjv⟩ (by omega) zoe
   rw [c1,c2,c3,c4,c5] at hjv
   simp only [kh,kR,kl] at hjv
   rw [← hjv,kl] at hinv
   rw [← hinv]
   (have zx:=za g1 (za c1 (za c2 (za c3 (za c4 (za c5 (za hfl (za hwj vx))))))));exact zg
 ·(have zx:=za e1 (za t1 (za heL (za hw ve))));refine zgo ?_;repeat' first|exact zt|apply zan|intro hc
  refine Jc (ι:=Nat) (fun j=>j≤(YC l e.num e.finds day age e.finds.length).length∧((YC l e.num e.finds day age e.finds.length).drop j).any (aef f0) = (YC l e.num e.finds day age e.finds.length).any (aef f0)) (fun j=>[(16,V.int j)]) (fun j=>(YC l e.num e.finds day age e.finds.length).length - j) 0 (by omega) ⟨zG _,rfl⟩ zol zlt zet fun j hj K2 hL2=>?_
  obtain ⟨hj,hjv⟩:=hj
  simp only [ovT,Xr,Nat.reduceEqDiff,reduceIte]
  have hsE:as4 l day age f0 e = (YC l e.num e.finds day age e.finds.length).any (aef f0):=by rw [as4,t1];first|(rw [t2];rfl)|rfl
  have hfl:((YC l e.num e.finds day age e.finds.length).map Qg.v).length = (YC l e.num e.finds day age e.finds.length).length:=zd _
  have hfn:=aec l e.num day age e.finds e.finds.length
  rw [hsE] at hinv
  generalize YC l e.num e.finds day age e.finds.length = fl at *
  rcases hdj:fl.drop j with _|⟨x,q⟩
  ·have hkl:=QY hdj
   have g1:decide ((j:Int) < (fl.length:Int)) = false:=by simp;omega
   rw [hdj] at hjv
   rw [← hjv] at hinv
   have hinv:((Y4 l gap).drop (k + 1)).any (as4 l day age f0) = ayk l gap day age f0:=by simpa using hinv
   (have zx:=za g1 (za hfl hw));refine zgo ?_;repeat' first|exact zt|apply zan|intro hc
   all_goals exact hL _ (k + 1) (Qi []) ⟨by omega,hinv⟩ (by omega) (Qv [] (by simp only [go_sem,zwl,syS]<;>exact zcc) (by simp only [go_sem,zwl,syS,Qg.cells]<;>exact zcc) (by simp [syS,Qi]) (by simp [syS]) (by omega))
  obtain ⟨hj',hgj,hqr⟩:=QJ hdj
  have hwj:=Qq (k:=j) (by omega)
  have g1:decide ((j:Int) < (fl.length:Int)) = true:=by simp;omega
  have vx:(fl.map Qg.v)[j]? = some x.v:=by rw [zi,hgj];rfl
  simp only [Qg.v,Qg.cells] at vx
  rw [hdj,List.any_cons,← hqr] at hjv
  rw [aef] at hjv
  rcases c1:(x.subj == f0.subj) with _|_
  ·rw [c1] at hjv
   simp only [ke,kh,kO,kR,kC,kl] at hjv
   (have zx:=za g1 (za c1 (za hfl (za hwj vx))));refine zgo ?_;repeat' first|exact zt|apply zan|intro hc
   all_goals exact hL2 _ (j + 1) zet ⟨by omega,hjv⟩ (by omega) zoe
  rcases c2:(x.kind == f0.kind) with _|_
  ·rw [c1,c2] at hjv
   simp only [ke,kh,kO,kR,kC,kl] at hjv
   (have zx:=za g1 (za c1 (za c2 (za hfl (za hwj vx)))));refine zgo ?_;repeat' first|exact zt|apply zan|intro hc
   all_goals exact hL2 _ (j + 1) zet ⟨by omega,hjv⟩ (by omega) zoe
  rcases c3:(x.alg == f0.alg) with _|_
  ·rw [c1,c2,c3] at hjv
   simp only [ke,kh,kO,kR,kC,kl] at hjv
   (have zx:=za g1 (za c1 (za c2 (za c3 (za hfl (za hwj vx))))));refine zgo ?_;repeat' first|exact zt|apply zan|intro hc
   all_goals exact hL2 _ (j + 1) zet ⟨by omega,hjv⟩ (by omega) zoe
  rcases c4:(x.bits == f0.bits) with _|_
  ·rw [c1,c2,c3,c4] at hjv
   simp only [ke,kh,kO,kR,kC,kl] at hjv
   (have zx:=za g1 (za c1 (za c2 (za c3 (za c4 (za hfl (za hwj vx)))))));refine zgo ?_;repeat' first|exact zt|apply zan|intro hc
   all_goals exact hL2 _ (j + 1) zet ⟨by omega,hjv⟩ (by omega) zoe
  rcases c5:(x.num == f0.num) with _|_
  ·rw [c1,c2,c3,c4,c5] at hjv
   simp only [ke,kh,kO,kR,kC,kl] at hjv
   (have zx:=za g1 (za c1 (za c2 (za c3 (za c4 (za c5 (za hfl (za hwj vx))))))));refine zgo ?_;repeat' first|exact zt|apply zan|intro hc
   all_goals exact hL2 _ (j + 1) zet ⟨by omega,hjv⟩ (by omega) zoe
  rw [c1,c2,c3,c4,c5] at hjv
  simp only [kh,kR,kl] at hjv
  rw [← hjv,kl] at hinv
  rw [← hinv]
  (have zx:=za g1 (za c1 (za c2 (za c3 (za c4 (za c5 (za hfl (za hwj vx))))))));exact zg
def unP (p:PPl):Qa:=⟨0,[],0,0,0,p.kind,p.subj,p.alg,p.bits,p.num,p.text⟩
theorem awJ (f:Qa):apv f = unP (YY f):=by
 unfold apv YY
 split
 ·rfl
 split
 ·rfl
 split<;>rfl
theorem aw9 {p q:PPl} (h:unP p = unP q):p = q:=by
 obtain ⟨a1,a2,a3,a4,a5,a6⟩:=p
 obtain ⟨b1,b2,b3,b4,b5,b6⟩:=q
 simp only [unP,Qa.mk.injEq] at h
 simp only [PPl.mk.injEq]
 obtain ⟨-,-,-,-,-,h1,h2,h3,h4,h5,h6⟩:=h
 exact ⟨h2,h6,h1,h5,h3,h4⟩
theorem atB {f g:Qa}:apv f = apv g↔YY f = YY g:=by
 rw [awJ,awJ]
 exact ⟨aw9,fun h=>by rw [h]⟩
theorem apc {a b:Nat} {f g:Qa} (h:aqz a b f g = true):aqz b a g f = false:=by
 unfold aqz at *
 by_cases h1:f.day = g.day
 ·by_cases h2:f.conf = g.conf
  ·simp only [h1,h2,ne_eq,not_true_eq_false,if_false,zu,zH] at *;omega
  ·simp only [h1,h2,Ne.symm h2,ne_eq,not_true_eq_false,not_false_eq_true,if_false,if_true,zu,zH] at *;omega
 ·simp only [h1,Ne.symm h1,ne_eq,not_false_eq_true,if_true,zu,zH] at *;omega
theorem auS {a b:Nat} {f g:Qa} (h:as9 f g = true):aqz a b f g = true:=by
 unfold as9 at h
 unfold aqz
 simp only [kG,zo,zu,ki] at h
 split
 ·exact zn (by omega)
 ·rw [if_pos (by omega)];exact zn (by omega)
theorem aso {a b:Nat} {f g:Qa} (hab:b < a) (h:as9 f g = false):aqz b a g f = true:=by
 unfold as9 at h
 unfold aqz
 simp only [Ze,ZO,zH,kM] at h
 obtain ⟨h1,h2⟩:=h
 split
 ·exact zn (by omega)
 ·rename_i h3
  split
  ·refine zn ?_
   rcases h2 with h2|h2<;>omega
  ·exact zn hab
theorem asX {a b c:Nat} {f g k:Qa} (h:as9 f g = true) (h2:aqz b c g k = true):aqz a c f k = true:=by
 unfold as9 at h
 simp only [kG,zo,zu,ki] at h
 unfold aqz at h2 ⊢
 split at h2
 ·simp only [zu] at h2
  rw [if_pos (by omega)];exact zn (by omega)
 ·rename_i h3
  simp only [ne_eq,Decidable.not_not] at h3
  split at h2
  ·simp only [zu] at h2
   by_cases h4:f.day = k.day
   ·rw [if_neg (by simpa using h4),if_pos (by omega)];exact zn (by omega)
   ·rw [if_pos h4];exact zn (by omega)
  ·rename_i h5
   simp only [ne_eq,Decidable.not_not] at h5
   by_cases h4:f.day = k.day
   ·rw [if_neg (by simpa using h4),if_pos (by omega)];exact zn (by omega)
   ·rw [if_pos h4];exact zn (by omega)
structure ayf (l:List Qa) (day age:Int) (m:PM) (fs:List Nat):Prop where
 cov:∀ b∈fs,∀ g,l[b]? = some g→as3 day age g = true→YY g∈m.1
 opt:∀ (a i:Nat),m.2[a]? = some i→i∈fs∧∃ f,l[i]? = some f∧as3 day age f = true∧m.1[a]? = some (YY f)∧∀ b∈fs,∀ g,l[b]? = some g→as3 day age g = true→YY g = YY f→b = i∨aqz i b f g = true
theorem ayf.nil (l:List Qa) (day age:Int):ayf l day age ([],[]) []:=⟨fun b hb=>(by cases hb),fun a i h=>by simp at h⟩
theorem aml {day age:Int} {f:Qa}:as3 day age f = true↔¬(f.day > day∨f.day < day - age):=by
 unfold as3
 simp only [zo,zu]
 omega
theorem ayf.step {l:List Qa} {day age:Int} {m:PM} {fs:List Nat} {i n:Nat} (h:ayf l day age m fs) (ho:alF l m n) (hi:i < l.length) (hlt:∀ b∈fs,b < i):ayf l day age (axS l day age m i) (fs++[i]):=by
 obtain ⟨ks,vs⟩:=m
 obtain ⟨f,hf⟩:∃ f,l[i]? = some f:=⟨_,zb hi⟩
 have hlen:ks.length = vs.length:=ho.len
 have hnd:ks.Nodup:=ho.nd
 rw [axS,hf]
 dsimp only
 split
 ·rename_i hw
  have hnw:¬as3 day age f = true:=fun hx=>aml.1 hx hw
  have hex:∀ b∈fs++[i],∀ g,l[b]? = some g→as3 day age g = true→b∈fs:=fun b hb g hg hx=>by
   rcases zW.1 hb with h1|h1
   ·exact h1
   ·rw [zq.1 h1,hf] at hg;cases hg;exact absurd hx hnw
  refine ⟨fun b hb g hg hx=>h.cov b (hex b hb g hg hx) g hg hx,fun a j hj=>?_⟩
  obtain ⟨o1,f',o2,o3,o4,o5⟩:=h.opt a j hj
  exact ⟨kU _ o1,f',o2,o3,o4,fun b hb g hg hx he=>o5 b (hex b hb g hg hx) g hg hx he⟩
 ·rename_i hw
  have hwf:as3 day age f = true:=aml.2 hw
  rcases hx:as8 (YY f) ks 0 with _|a
  ·have hn:=aj3 hx
   dsimp only
   refine ⟨fun b hb g hg hx=>?_,fun a j hj=>?_⟩
   ·rcases zW.1 hb with h1|h1
    ·exact kU _ (h.cov b h1 g hg hx)
    ·rw [zq.1 h1,hf] at hg;cases hg
     exact Zl _ (zq.2 rfl)
   ·rcases Zs a vs.length with ha|ha|ha
    ·dsimp only at hj ⊢
     rw [zS ha] at hj
     obtain ⟨o1,f',o2,o3,o4,o5⟩:=h.opt a j hj
     refine ⟨kU _ o1,f',o2,o3,by rw [zS (by omega)];exact o4,fun b hb g hg hx he=>?_⟩
     rcases zW.1 hb with h1|h1
     ·exact o5 b h1 g hg hx he
     ·rw [zq.1 h1,hf] at hg;cases hg
      exact absurd (by rw [he];exact zm o4) hn
    ·subst ha
     dsimp only at hj ⊢
     rw [Zw] at hj
     cases hj
     refine ⟨Zl _ (zq.2 rfl),f,hf,hwf,by rw [← hlen,Zw],fun b hb g hg hx he=>?_⟩
     rcases zW.1 hb with h1|h1
     ·exact absurd (by rw [← he];exact h.cov b h1 g hg hx) hn
     ·exact .inl (zq.1 h1)
    ·dsimp only at hj
     rw [zU (by simp;omega)] at hj;cases hj
  ·obtain ⟨a1,a2,a3⟩:=afY hx
   rw [Nat.sub_zero] at a3
   obtain ⟨j,hj⟩:∃ j,vs[a]? = some j:=⟨_,zb (by omega)⟩
   obtain ⟨o1,f',o2,o3,o4,o5⟩:=h.opt a j hj
   have hpl:YY f' = YY f:=by dsimp only at o4;rw [a3] at o4;exact (kQ o4).symm
   have hgd:vs.getD a 0 = j:=by rw [zB,hj];rfl
   dsimp only
   rw [hgd,o2]
   dsimp only
   have huniq:∀ c,ks[c]? = some (YY f)→c = a:=fun c hc=>by
    have l1:=(zh.1 hc).1
    rw [← a3] at hc
    exact (bp l1 hnd).1 hc
   have hcv:∀ b∈fs++[i],∀ g,l[b]? = some g→as3 day age g = true→YY g∈ks:=fun b hb g hg hx=>by
    rcases zW.1 hb with h1|h1
    ·exact h.cov b h1 g hg hx
    ·rw [zq.1 h1,hf] at hg;cases hg
     exact zm a3
   rcases hbt:as9 f f' with _|_
   ·rw [if_neg (by decide)]
    refine ⟨hcv,fun c q hq=>?_⟩
    obtain ⟨q1,g',q2,q3,q4,q5⟩:=h.opt c q hq
    refine ⟨kU _ q1,g',q2,q3,q4,fun b hb g hg hx he=>?_⟩
    rcases zW.1 hb with h1|h1
    ·exact q5 b h1 g hg hx he
    ·have hbi:=zq.1 h1
     subst hbi
     rw [hf] at hg;cases hg
     have hca:c = a:=huniq c (by rw [he];exact q4)
     subst hca
     rw [hj] at hq;cases hq
     rw [o2] at q2;cases q2
     exact .inr (aso (hlt j o1) hbt)
   ·rw [if_pos rfl]
    refine ⟨hcv,fun c q hq=>?_⟩
    dsimp only at hq ⊢
    by_cases hca:c = a
    ·subst hca
     rw [ZK (by omega)] at hq
     cases hq
     refine ⟨Zl _ (zq.2 rfl),f,hf,hwf,a3,fun b hb g hg hx he=>?_⟩
     rcases zW.1 hb with h1|h1
     ·rcases o5 b h1 g hg hx (by rw [he,hpl]) with h2|h2
      ·subst h2
       rw [o2] at hg;cases hg
       exact .inr (auS hbt)
      ·exact .inr (asX hbt h2)
     ·exact .inl (zq.1 h1)
    ·rw [ZV (Ne.symm hca)] at hq
     obtain ⟨q1,g',q2,q3,q4,q5⟩:=h.opt c q hq
     refine ⟨kU _ q1,g',q2,q3,q4,fun b hb g hg hx he=>?_⟩
     rcases zW.1 hb with h1|h1
     ·exact q5 b h1 g hg hx he
     ·rw [zq.1 h1,hf] at hg;cases hg
      exact absurd (huniq c (by rw [he];exact q4)) hca
theorem ao2 {l:List Qa} {day age:Int} {fs:List Nat} (ha:fs.Pairwise (· < ·)) (hb:∀ i∈fs,i < l.length):∀ k,k≤fs.length→ayf l day age (anh l day age (fs.take k)) (fs.take k)
 | 0,_=>by rw [List.take_zero];exact ayf.nil l day age
 | k + 1,hk=>by
   have hget:fs[k]? = some (fs[k]'hk):=zb hk
   have ih:=ao2 (day:=day) (age:=age) ha hb k (by omega)
   rw [ao1 hget,zP,hget,Option.toList_some]
   refine ih.step (ahx l day age fs k (by omega)) (hb _ (zT hk)) fun b hbm=>?_
   obtain ⟨j,hj,rfl⟩:=ky hbm
   rw [zM] at hj
   rw [ZG]
   exact kq.1 ha j k (by omega) hk (by omega)
def amM (l:List Qa) (day age:Int) (fs:List Nat) (a:Nat):Bool:=match l[a]? with
 | some f=>!(decide (f.day > day) || (decide (f.day < day - age) || f.kind == 8)) && !(fs.any (aeq l day age a f))
 | none=>false
theorem aut (out:List Qg) (x:Qg):avZ out x = aj7 ak8 out x:=by
 have hk:∀ k,atA out x k = gK ak8 out x k:=fun k=>by
  induction k with
  | zero=>rfl
  | succ k ih =>
    rw [atA,gK]
    rcases out[k]? with _|y
    ·rfl
    ·dsimp only
     rw [ih]
 rw [avZ,aj7,hk];simp
theorem arY (l:List Qa) (num day age:Int) (fs:List Nat) (out:List Qg) (a:Nat):anR l num day age fs out a = match (if amM l day age fs a = true then xc l num a else none) with|some x=>aj7 ak8 out x|none=>out:=by
 unfold anR amM xc
 rcases l[a]? with _|f
 ·rfl
 dsimp only
 by_cases c1:(decide (f.day > day) || (decide (f.day < day - age) || f.kind == 8)) = true
 ·have e:(!(decide (f.day > day) || (decide (f.day < day - age) || f.kind == 8)) && !(fs.any (aeq l day age a f))) = false:=by rw [c1];rfl
  rw [if_pos c1,if_neg (by rw [e];decide)]
 ·have c1':=Bool.eq_false_iff.2 c1
  rw [if_neg c1]
  by_cases c2:fs.any (aeq l day age a f) = true
  ·have e:(!(decide (f.day > day) || (decide (f.day < day - age) || f.kind == 8)) && !(fs.any (aeq l day age a f))) = false:=by rw [c1',c2];rfl
   rw [if_pos c2,if_neg (by rw [e];decide)]
  ·have c2':=Bool.eq_false_iff.2 c2
   have e:(!(decide (f.day > day) || (decide (f.day < day - age) || f.kind == 8)) && !(fs.any (aeq l day age a f))) = true:=by rw [c1',c2'];rfl
   simp only [Ze,kM] at c1'
   rw [if_neg c2,if_pos e,if_neg c1'.2.2,aut]
theorem aoJ {l:List Qa} {num day age:Int} {fs:List Nat}:∀ (is:List Nat) (out:List Qg),is.foldl (anR l num day age fs) out = (is.filterMap fun a=>if amM l day age fs a = true then xc l num a else none).foldl (aj7 ak8) out
 | [],out=>rfl
 | a :: r,out=>by
   rw [List.foldl_cons,aoJ r,arY,List.filterMap_cons]
   rcases (if amM l day age fs a = true then xc l num a else none) with _|x<;>rfl
theorem aoM (l:List Qa) (num day age:Int) (fs:List Nat):YC l num fs day age fs.length = W7 ak8 ((fs.filter (amM l day age fs)).filterMap (xc l num)):=by
 rw [YC,zJ,aoJ,W7,List.filterMap_filter]
def ayE (l:List Qa) (i:Nat):Bool:=match l[i]? with
 | some f=>f.kind != 8
 | none=>false
theorem axA (l:List Qa) (num:Int) (vs:List Nat):vs.filterMap (xc l num) = (vs.filter (ayE l)).filterMap (xc l num):=by
 rw [List.filterMap_filter]
 congr 1
 funext i
 unfold xc ayE
 rcases l[i]? with _|f
 ·rfl
 dsimp only
 by_cases h:f.kind = 8
 ·rw [if_pos h];split<;>rfl
 ·rw [if_neg h,if_pos (by simpa using h)]
theorem auH {l:List Qa} {m:PM} {n:Nat} (h:alF l m n):m.2.Nodup:=by
 rw [List.nodup_iff_pairwise_ne,kq]
 intro i j hi hj hij he
 obtain ⟨f,f1,f2⟩:=h.pt i _ (zb hi)
 obtain ⟨g,g1,g2⟩:=h.pt j _ (zb hj)
 rw [he] at f1
 rw [f1] at g1;cases g1
 have l1:=(zh.1 f2).1
 rw [← g2] at f2
 have:=(bp l1 h.nd).1 f2
 omega
theorem awf {l:List Qa} {day age:Int} {fs:List Nat} (ha:fs.Pairwise (· < ·)) (hb:∀ i∈fs,i < l.length):(fs.filter (amM l day age fs)).Perm ((anh l day age fs).2.filter (ayE l)):=by
 have hok:=ahx l day age fs fs.length (zl _)
 have hbe:=ao2 (day:=day) (age:=age) ha hb fs.length (zl _)
 rw [zJ] at hok hbe
 have hfn:fs.Nodup:=ha.imp fun h=>Nat.ne_of_lt h
 rw [List.perm_ext_iff_of_nodup (hfn.filter _) ((auH hok).filter _)]
 intro i
 rw [ZL,ZL]
 constructor
 ·rintro ⟨hi,hk⟩
  unfold amM at hk
  rcases hf:l[i]? with _|f
  ·rw [hf] at hk;cases hk
  rw [hf] at hk
  simp only [zo,Zh,Ze,zH,kM] at hk
  obtain ⟨⟨k1,k2,k3⟩,k4⟩:=hk
  have hw:as3 day age f = true:=aml.2 (by omega)
  obtain ⟨a,ha2,hpa⟩:=ky (hbe.cov i hi f hf hw)
  obtain ⟨j,hj⟩:∃ j,(anh l day age fs).2[a]? = some j:=⟨_,zb (by have:=hok.len;omega)⟩
  obtain ⟨o1,f',o2,o3,o4,o5⟩:=hbe.opt a j hj
  have hpl:YY f' = YY f:=by
   rw [zb ha2,hpa] at o4
   exact (kQ o4).symm
  rcases o5 i hi f hf hw hpl.symm with h1|h1
  ·subst h1
   refine ⟨zm hj,?_⟩
   unfold ayE
   rw [hf]
   simpa using k3
  ·exfalso
   have:fs.any (aeq l day age i f) = true:=Zx.2 ⟨j,o1,by
    unfold aeq
    rw [o2]
    simp only [o3,kh,zo,zu]
    exact ⟨atB.2 hpl,h1⟩⟩
   rw [this] at k4;cases k4
 ·rintro ⟨hi,hk⟩
  obtain ⟨a,ha2,hpa⟩:=ky hi
  obtain ⟨o1,f,o2,o3,o4,o5⟩:=hbe.opt a i (by rw [zb ha2,hpa])
  refine ⟨o1,?_⟩
  unfold ayE at hk
  unfold amM
  rw [o2] at hk ⊢
  have hw:=aml.1 o3
  simp only [zo,Zh,Ze,zH,kM]
  refine ⟨⟨by omega,by omega,by simpa using hk⟩,?_⟩
  rw [List.any_eq_false]
  intro b hbm hbt
  unfold aeq at hbt
  rcases hg:l[b]? with _|g
  ·rw [hg] at hbt;cases hbt
  rw [hg] at hbt
  simp only [zo,zu] at hbt
  obtain ⟨t1,t2,t3⟩:=hbt
  rcases o5 b hbm g hg t1 (atB.1 t2) with h1|h1
  ·subst h1
   rw [o2] at hg;cases hg
   have:=apc t3
   rw [t3] at this;cases this
  ·have:=apc h1
   rw [t3] at this;cases this
theorem aux {l:List Qa} {num day age:Int} {fs:List Nat} (ha:fs.Pairwise (· < ·)) (hb:∀ i∈fs,i < l.length):YC l num fs day age fs.length = je l num fs day age:=by
 have hok:=ahx l day age fs fs.length (zl _)
 rw [zJ] at hok
 have hp:=awf (day:=day) (age:=age) ha hb
 rw [aoM,je,axA l num (anh l day age fs).2]
 refine anT (hp.filterMap _) fun a ha2 b hb2 h0=>?_
 obtain ⟨h1,h2,h3,h4,h5,h6⟩:=alQ h0
 have key:∀ c,c∈(fs.filter (amM l day age fs)).filterMap (xc l num)→∃ (p i:Nat) (f:Qa),(anh l day age fs).2[p]? = some i∧l[i]? = some f∧c = Xn num i f:=fun c hc=>by
  rw [bf] at hc
  obtain ⟨i,hi,hc⟩:=hc
  rw [hp.mem_iff,ZL] at hi
  obtain ⟨p,hp1,hp2⟩:=ky hi.1
  rw [xc] at hc
  rcases hf:l[i]? with _|f
  ·rw [hf] at hc;cases hc
  ·rw [hf] at hc
   dsimp only at hc
   split at hc
   ·cases hc
   ·exact ⟨p,i,f,by rw [zb hp1,hp2],hf,(kQ hc).symm⟩
 obtain ⟨p,i,f,p1,p2,rfl⟩:=key a ha2
 obtain ⟨q,j,g,q1,q2,rfl⟩:=key b hb2
 simp only [Xn] at h1 h2 h3 h4 h5 h6
 obtain ⟨f',r1,r2⟩:=hok.pt p i p1
 obtain ⟨g',s1,s2⟩:=hok.pt q j q1
 rw [p2] at r1;cases r1
 rw [q2] at s1;cases s1
 have hpl:YY f = YY g:=by
  simp only [YY]
  rw [h1,h2,h3,h4,h5,h6]
 have hpq:p = q:=by
  have l1:=(zh.1 r2).1
  rw [hpl,← s2] at r2
  exact (bp l1 hok.nd).1 r2
 subst hpq
 rw [p1] at q1;cases q1
 rw [p2] at q2;cases q2
 rfl
structure aqE where
 allow:Bool
 alg:Int
 below:Int
 purp:Int
 frm:Int
 til:Int
def aqE.cells (r:aqE):List V:=[V.bool r.allow,V.int r.alg,V.int r.below,V.int r.purp,V.int r.frm,V.int r.til]
abbrev aqE.v (r:aqE):V:=.agg r.cells
theorem aqE.cells_closed (r:aqE):Qh r.cells:=by simp only [aqE.cells,V.closed,Qh,and_self]
structure aqF where
 purp:Int
 days:Int
def aqF.cells (k:aqF):List V:=[V.int k.purp,V.int k.days]
abbrev aqF.v (k:aqF):V:=.agg k.cells
theorem aqF.cells_closed (k:aqF):Qh k.cells:=by simp only [aqF.cells,V.closed,Qh,and_self]
theorem anO {x s:List Qa} {gap:Int} (hn:WJ x = true) (hs:s.Sublist x) (hg:0≤gap∧gap≤4000):YS s gap = 0:=by
 rw [YS,if_pos (aod hn hs),if_neg (by omega)]
theorem adf:∀ (x:List Qa),Qx x (List.range x.length) = x:=by
 intro x
 have h:∀ n,n≤x.length→Qx x (List.range n) = x.take n:=by
  intro n
  induction n with
  | zero=>intro _;rfl
  | succ n ih =>
    intro hn
    rw [ZM,Qx,ZD,zP]
    have:=ih (by omega)
    rw [Qx] at this
    rw [this]
    congr 1
 rw [h _ (zl _),zJ]
theorem asO {x:List Qa} {fs:List Nat} (h:fs.Sublist (List.range x.length)):(Qx x fs).Sublist x:=by
 have:=h.filterMap (fun i=>x[i]?)
 have e:=adf x
 rw [Qx] at e ⊢
 rwa [e] at this
theorem abz {x:List Qa} {i:Nat} {r:List Nat} (h:i < x.length):Qx x (i :: r) = x[i] :: Qx x r:=by
 rw [Qx,List.filterMap_cons,zb h];rfl
theorem akF {x:List Qa}:∀ {fs:List Nat} (k:Nat),(∀ i∈fs,i < x.length)→(Qx x fs).take k = Qx x (fs.take k)
 | [],k,_=>by simp [Qx]
 | i :: r,0,_=>by simp [Qx]
 | i :: r,k + 1,h=>by
   rw [abz (h i kL),List.take_succ_cons,List.take_succ_cons,abz (h i kL),akF k fun j hj=>h j (kJ _ hj)]
theorem akG {x:List Qa}:∀ {fs:List Nat} (k:Nat),(∀ i∈fs,i < x.length)→(Qx x fs).drop k = Qx x (fs.drop k)
 | [],k,_=>by simp [Qx]
 | i :: r,0,_=>by simp
 | i :: r,k + 1,h=>by
   rw [abz (h i kL),List.drop_succ_cons,List.drop_succ_cons,akG k fun j hj=>h j (kJ _ hj)]
theorem ajZ {a:Nat}:∀ {fs:List Nat} {i:Nat},fs.Nodup→fs[i]? = some a→Wk a fs = fs.take i++fs.drop (i + 1)
 | [],_,_,h=>by simp at h
 | b :: r,0,hn,h=>by
   simp at h;subst h
   have hb:=(ZE.1 hn).1
   rw [Wk]
   simp only [List.filter_cons,beq_self_eq_true,Bool.not_true,zw,if_false,List.take_zero,List.nil_append,List.drop_succ_cons,kr]
   rw [List.filter_eq_self]
   intro y hy
   have:y≠b:=fun e=>hb (e ▸ hy)
   simp [this]
 | b :: r,i + 1,hn,h=>by
   have h':r[i]? = some a:=by simpa using h
   have hb:b≠a:=fun e=>(ZE.1 hn).1 (e ▸ zm h')
   have ih:=ajZ (ZE.1 hn).2 h'
   rw [Wk] at ih ⊢
   rw [List.filter_cons,if_pos (by simp [hb]),ih];rfl
theorem asP {x:List Qa} {fs:List Nat} {i a:Nat} (hb:∀ i∈fs,i < x.length) (hn:fs.Nodup) (h:fs[i]? = some a):(Qx x fs).take i++(Qx x fs).drop (i + 1) = Qx x (Wk a fs):=by
 rw [ajZ hn h,akF i hb,akG _ hb,Qx,Qx,Qx,ZD]
structure ayn (x:List Qa) (gap day:Int) (f:Qg) (s:List Nat):Prop where
 sub:s.Sublist (List.range x.length)
 early:YS (Qx x s) gap = 0
 hold:Vh (Qx x s) gap day 100 f = true
 less:∀ i∈s,YS (Qx x (Wk i s)) gap = 0∧Vh (Qx x (Wk i s)) gap day 100 f = false
 pos:s≠[]
theorem ayn.lt {x:List Qa} {gap day:Int} {f:Qg} {s:List Nat} (h:ayn x gap day f s):∀ i∈s,i < x.length:=fun i hi=>k9.1 (h.sub.subset hi)
theorem ayn.asc {x:List Qa} {gap day:Int} {f:Qg} {s:List Nat} (h:ayn x gap day f s):s.Pairwise (· < ·):=List.pairwise_lt_range.sublist h.sub
theorem ayn.nd {x:List Qa} {gap day:Int} {f:Qg} {s:List Nat} (h:ayn x gap day f s):s.Nodup:=h.asc.imp fun h=>Nat.ne_of_lt h
def aoN (y:Qa) (t:List UInt8):Qg:=⟨0,y.subj,y.kind,y.alg,y.bits,y.num,t,0⟩
theorem ato {l:List Qa} {gap day age:Int} {f:Qg} {e:Ji} (he:e∈Y4 l gap):as4 l day age f e = aow l day age f e:=by
 obtain ⟨o1,o2,o3,o4⟩:=anf he
 rw [as4,aow,aux o1 o2]
 have:(fun y:List UInt8=>y == f.text) = fun y=>decide (f.text = y):=by
  funext y
  rw [Zi]
  simp only [ki,zu]
  exact eq_comm
 rw [this]
theorem apG (l:List Qa) (gap day age:Int) (f:Qg):ayk l gap day age f = Vh l gap day age f:=by
 rw [ayk,Vh,Zi,Zx,Zx]
 constructor
 ·rintro ⟨e,he,h⟩;exact ⟨e,he,by rw [← ato he];exact h⟩
 ·rintro ⟨e,he,h⟩;exact ⟨e,he,by rw [ato he];exact h⟩
structure ahE (l:List Qa) (gap day age:Int):Prop where
 nm:WJ l = true
 g:0≤gap∧gap≤4000
 d:0≤day∧day≤40000
 a:0≤age∧age≤4000
theorem ad6 {l:List Qa} {gap day age:Int}:wt l gap day age = 0↔ahE l gap day age:=by
 unfold wt
 constructor
 ·intro h
  split at h
  ·rename_i h1
   split at h
   ·cases h
   ·rename_i h2
    simp only [azj,Bool.not_eq_true,Ze,zH] at h2
    exact ⟨h1,by omega,by omega,by omega⟩
  ·cases h
 ·rintro ⟨h1,h2,h3,h4⟩
  rw [if_pos h1,if_neg]
  simp only [azj,Bool.not_eq_true,Ze,zH]
  omega
def aov (l:List Qa) (gap day age:Int) (f:Qg):V:=if wt l gap day age = 0 then .tup [V.bool (Vh l gap day age f),V.int 0] else .tup [V.bool false,V.int (wt l gap day age)]
def agA (XO XU:Nat):AC:=Qb [0,1,2,3,9] (.reg [xo 9 (.box true 8 (.t 4)),mc 10 (V.bool false),mc 11 (V.int 0)]) (Qb [0,1,2,3,9] (Qb [0,1,2,3,9,12] (.reg [mv 13 0,mv 14 1,mv 15 2,mv 16 3,cl 17 XO [13,14,15,16],mv 12 17]) (Qb [0,1,2,3,9,12,19] (.reg [mv 18 12,bc 19 .neq 18 (V.int 0)]) (.cond (.t 19) (Qb [10,11] (.reg [mv 20 12,mc 10 (V.bool false),mv 11 20]) .ret) .skip))) (Qb [10,11] (.reg [mv 21 0,mv 22 1,mv 23 2,mv 24 3,xo 25 (.load true 8 (.t 9)),cl 26 XU [21,22,23,24,25],mv 10 26,mc 11 (V.int 0)]) .ret)) def eS:List Q0:=[.tmp 10,.tmp 11]
def vQ (Γ:Env) (f:Nat):Prop:=∀ (l:List Qa) (gap day age:Int) (f0:Qg) (hl:l.length < 2 ^ 40) (hz:∀ x∈l,x.Sz) (hq:∀ x∈l,Yg x = true),EvN Γ f [.sl 11 (l.map Qa.v),V.int gap,V.int day,V.int age,f0.v] (aov l gap day age f0)
theorem alf {Γ:Env} {f XO XU:Nat} (h:Has Γ.P f 27 (agA XO XU) eS) (z0:qR Γ XO) (z1:yy Γ XU):vQ Γ f:=by
 intro l gap day age f0 hl hz hq
 refine Qc h zsi (by unfold aov;split<;>simp only [V.closed,Qh,V.noSl,Ue,and_self]) (by unfold aov;split<;>simp only [V.closed,Qh,V.noSl,Ue,and_self]) fun C hC hm=>?_
 subst hC
 unfold agA
 have p0:=(z0 l gap day age hl hz hq).b
 rw [aov]
 by_cases hK:wt l gap day age = 0
 ·rw [if_pos hK]
  rw [hK] at p0
  obtain ⟨h1,h2,h3,h4⟩:=ad6.1 hK
  have p1:=(z1 l gap day age f0 hz h1 h2 h3 h4).b
  rw [apG] at p1
  have e00:((0:Int) != 0) = false:=by decide
  simp only [Qg.v,Qg.cells] at p1 ⊢
  (have zx:=e00);exact zg
 ·rw [if_neg hK]
  have e01:(wt l gap day age != 0) = true:=by simpa using hK
  generalize wt l gap day age = er at *
  simp only [Qg.v,Qg.cells]
  (have zx:=e01);exact zg
def av5 (l:List Qa) (gap day age:Int) (f:Qg):V:=if wt l gap day age = 0 then (if Vh l gap day age f = true then .tup [.sl 1 (QF (aej l gap day age f)),V.int 0] else .tup [.sl 1 [],V.int 4]) else .tup [.sl 1 [],V.int (wt l gap day age)]
theorem auc {a:Nat} {fs:List Nat} {j:Nat} (hn:fs.Nodup) (h:fs[j]? = some a):(Wk a fs).drop j = fs.drop (j + 1):=by
 have hj:=(zh.1 h).1
 rw [ajZ hn h,Zo (by rw [zM];omega),List.drop_of_length_le (by rw [zM];omega),List.nil_append]
theorem aub {a:Nat} {fs:List Nat} {j:Nat} (hn:fs.Nodup) (h:fs[j]? = some a):(Wk a fs).length = j + (fs.length - (j + 1)):=by
 have hj:=(zh.1 h).1
 rw [ajZ hn h,zp,zM,zZ];omega
theorem atC {a:Nat} {fs:List Nat} {j:Nat} (hn:fs.Nodup) (h:fs[j]? = some a):(QF fs).take j++(QF fs).drop (j + 1) = QF (Wk a fs):=by
 rw [ajZ hn h]
 simp [QF]
def erT (gap day age:Int):List (Nat×V):=[(1,V.int gap),(2,V.int day),(3,V.int age),(9,.ptr 0 0)]
def auB (l:List Qa) (gap day age:Int) (f:Qg) (k:Nat):St:=Y1 ((0,.sl 11 (l.map Qa.v)) :: erT gap day age++[(13,.hd 1 0 l.length),(14,.hd 2 0 k),(15,V.int k)]) [(0,.box true f.cells),(1,.buf true 11 (l.map Qa.v)),(2,.buf true 1 (QF (List.range k)))] 3
def aqp (l:List Qa) (gap day age:Int) (f:Qg) (fs:List Nat) (b:Bool):St:=Y1 (erT gap day age++[(13,.hd 1 0 fs.length),(14,.hd 2 0 fs.length),(16,V.bool b)]) [(0,.box true f.cells),(1,.buf true 11 ((Qx l fs).map Qa.v)),(2,.buf true 1 (QF fs))] 3
def aqo (l:List Qa) (gap day age:Int) (f:Qg) (fs:List Nat) (b:Bool) (j:Nat):St:=Y1 (erT gap day age++[(13,.hd 1 0 fs.length),(14,.hd 2 0 fs.length),(16,V.bool b),(17,V.int j)]) [(0,.box true f.cells),(1,.buf true 11 ((Qx l fs).map Qa.v)),(2,.buf true 1 (QF fs))] 3
def aa5:List (List Nat):=[[],[],[],[1,2],[0,3],[],[],[6],[5,7],[4,8,4],[9,9,0,1,2,3,4,5,6,7,8,9]]
def aad:OT:=och 0 11
@[go_sem] def qh:OP:=oN 0 (xo 52 (.bslice 0 11 true [vi0,vs0,vi0,vi0,vi0,vi0,vs0,vi0,vi0,vi0,vs0] [])) (oN 1 (mv 53 13) (oN 2 (mv 54 17) (oN 3 (xo 55 (.slsl 11 (.t 53) none (some (.t 54)))) (.one 4 true [0] (xo 56 (.append 11 112 [vi0,vs0,vi0,vi0,vi0,vi0,vs0,vi0,vi0,vi0,vs0] (.t 52) (.t 55))) (oN 5 (mv 57 13) (oN 6 (mv 58 17) (oN 7 (bc 59 .add 58 (V.int 1)) (oN 8 (xo 60 (.slsl 11 (.t 57) (some (.t 59)) none)) (.one 9 true [4,0] (xo 61 (.append 11 112 [vi0,vs0,vi0,vi0,vi0,vi0,vs0,vi0,vi0,vi0,vs0] (.t 56) (.t 60))) (oN 10 (mv 18 61) .done))))))))))
def aao:List AO:=aoO (qh)
instance:RG [] aad (qh) (aao) aa5 11 (fun _=>true):=⟨rfl,by kernel_rfl,by kernel_rfl⟩
def aa4:List (List Nat):=[[],[],[],[1,2],[0,3],[],[],[6],[5,7],[4,8,4],[9,9,0,1,2,3,4,5,6,7,8,9]]
def aac:OT:=och 0 11
@[go_sem] def qg:OP:=oN 0 (xo 72 (.bslice 0 1 false [vi0] [])) (oN 1 (mv 73 14) (oN 2 (mv 74 17) (oN 3 (xo 75 (.slsl 1 (.t 73) none (some (.t 74)))) (.one 4 true [0] (xo 76 (.append 1 8 [vi0] (.t 72) (.t 75))) (oN 5 (mv 77 14) (oN 6 (mv 78 17) (oN 7 (bc 79 .add 78 (V.int 1)) (oN 8 (xo 80 (.slsl 1 (.t 77) (some (.t 79)) none)) (.one 9 true [4,0] (xo 81 (.append 1 8 [vi0] (.t 76) (.t 80))) (oN 10 (mv 14 81) .done))))))))))
def aan:List AO:=aoO (qg)
instance:RG [] aac (qg) (aan) aa4 11 (fun _=>true):=⟨rfl,by kernel_rfl,by kernel_rfl⟩
def adj (XO XU:Nat):AC:=Qb [0,1,2,3,9] (.reg [xo 9 (.box true 8 (.t 4)),xo 10 (.mknil 1),mc 11 (V.int 0)]) (Qb [0,1,2,3,9] (Qb [0,1,2,3,9,12] (.reg [mv 19 0,mv 20 1,mv 21 2,mv 22 3,cl 23 XO [19,20,21,22],mv 12 23]) (Qb [0,1,2,3,9,12,25] (.reg [mv 24 12,bc 25 .neq 24 (V.int 0)]) (.cond (.t 25) (Qb [10,11] (.reg [mv 26 12,xo 10 (.mknil 1),mv 11 26]) .ret) .skip))) (Qb [0,1,2,3,9] (Qb [0,1,2,3,9,33] (.reg [mv 27 0,mv 28 1,mv 29 2,mv 30 3,xo 31 (.load true 8 (.t 9)),cl 32 XU [27,28,29,30,31],xo 33 (.un .not (.t 32))]) (.cond (.t 33) (Qb [10,11] (.reg [xo 10 (.mknil 1),mc 11 (V.int 4)]) .ret) .skip)) (Qb [0,1,2,3,9,13] (.reg [xo 34 (.bslice 0 11 true [vi0,vs0,vi0,vi0,vi0,vi0,vs0,vi0,vi0,vi0,vs0] []),mv 35 0,xo 36 (.append 11 112 [vi0,vs0,vi0,vi0,vi0,vi0,vs0,vi0,vi0,vi0,vs0] (.t 34) (.t 35)),mv 13 36]) (Qb [0,1,2,3,9,13,14] (.reg [xo 14 (.mknil 1)]) (Qb [1,2,3,9,13,14] (Qb [0,1,2,3,9,13,14,15] (.reg [mc 15 (V.int 0)]) (.block 0 (JG [0,1,2,3,9,13,14,15] (Qb [0,1,2,3,9,13,14,15] (Qb [0,1,2,3,9,13,14,15,40] (.reg [mv 37 15,mv 38 0,ln 39 38,bn 40 .lss 37 39]) (.cond (.t 40) .skip (.exit 0))) (Qb [0,1,2,3,9,13,14,15] (.block 1 (.reg [mv 43 14,mv 44 15,xo 45 (.bslice 1 1 false [vi0] [(0,(.t 44))]),xo 46 (.append 1 8 [vi0] (.t 43) (.t 45)),mv 14 46])) (.reg [mv 41 15,bc 42 .add 41 (V.int 1),mv 15 42])))))) (Qb [14] (Qb [1,2,3,9,13,14,16] (.reg [mc 16 (V.bool true)]) (.block 2 (JG [1,2,3,9,13,14,16] (Qb [1,2,3,9,13,14] (Qb [1,2,3,9,13,14,47] (.reg [mv 47 16]) (.cond (.t 47) .skip (.exit 2))) (.block 3 (Qb [1,2,3,9,13,14,16] (.reg [mc 16 (V.bool false)]) (Qb [1,2,3,9,13,14,16,17] (.reg [mc 17 (V.int 0)]) (.block 4 (JG [1,2,3,9,13,14,16,17] (Qb [1,2,3,9,13,14,16,17] (Qb [1,2,3,9,13,14,16,17,51] (.reg [mv 48 17,mv 49 13,ln 50 49,bn 51 .lss 48 50]) (.cond (.t 51) .skip (.exit 4))) (.block 5 (Qb [1,2,3,9,13,14,16,17,18] (VD [] aad (qh) (aao) aa5) (Qb [1,2,3,9,14,17,18] (Qb [1,2,3,9,13,14,16,17,18,68] (.reg [mv 62 18,mv 63 1,mv 64 2,mv 65 3,xo 66 (.load true 8 (.t 9)),cl 67 XU [62,63,64,65,66],xo 68 (.un .not (.t 67))]) (.cond (.t 68) (Qb [1,2,3,9,13,14,16,17] (.reg [mv 69 17,bc 70 .add 69 (V.int 1),mv 17 70]) (.exit 5)) .skip)) (Qb [1,2,3,9,13,14,16,17] (.reg [mv 71 18,mv 13 71,mc 16 (V.bool true)]) (VD [] aac (qg) (aan) aa4))))))))))))))) (Qb [10,11] (.reg [mv 82 14,mv 10 82,mc 11 (V.int 0)]) .ret))))))) def eT:List Q0:=[.tmp 10,.tmp 11]
def jJ (Γ:Env) (f:Nat):Prop:=∀ (l:List Qa) (gap day age:Int) (f0:Qg) (hl:l.length < 2 ^ 40) (hz:∀ x∈l,x.Sz) (hq:∀ x∈l,Yg x = true),EvC Γ f [.sl 11 (l.map Qa.v),V.int gap,V.int day,V.int age,f0.v] (av5 l gap day age f0)
attribute [local go_sem] Nat.sub_zero Y1 in
theorem aiU {Γ:Env} {f XO XU:Nat} (h:Has Γ.P f 83 (adj XO XU) eT) (z0:qR Γ XO) (z1:yy Γ XU):jJ Γ f:=by
 intro l gap day age f0 hl hz hq
 refine Ju h zsi (by unfold av5;(repeat' split)<;>simp only [V.closed,Qh,and_self]) fun C hC hm=>?_
 subst hC
 unfold adj
 have p0:=(z0 l gap day age hl hz hq).b
 rw [av5]
 by_cases hK:wt l gap day age = 0
 rotate_left
 ·rw [if_neg hK]
  have e01:(wt l gap day age != 0) = true:=by simpa using hK
  generalize wt l gap day age = er at *
  simp only [Qg.v,Qg.cells]
  (have zx:=e01);exact zg
 rw [if_pos hK]
 rw [hK] at p0
 obtain ⟨h1,h2,h3,h4⟩:=ad6.1 hK
 have p1:=(z1 l gap day age f0 hz h1 h2 h3 h4).b
 rw [apG] at p1
 have e00:((0:Int) != 0) = false:=by decide
 simp only [Qg.v,Qg.cells] at p1 ⊢
 rcases hH:Vh l gap day age f0 with _|_
 ·rw [if_neg (by decide)]
  rw [hH] at p1
  (have zx:=e00);exact zg
 rw [if_pos rfl]
 rw [hH] at p1
 have hgv:(l.map Qa.v).length = l.length:=zd _
 have hll:=(W6 h1).1
 have hcl0:∀ y∈l.map Qa.v,y.cells.length = 11:=by intro y hy;obtain ⟨z,_,rfl⟩:=zE.1 hy;rfl
 have hnt0:(l.map Qa.v).take l.length = l.map Qa.v:=zj (by simp)
 (have zx:=za e00 (za hgv hnt0));refine zgo ?_;repeat' first|exact zt|apply zan|intro hc
 refine QC (ι:=Nat) (fun k=>k≤l.length) (fun k=>auB l gap day age f0 k) (fun k=>l.length - k) 0 (zG _) (Qi [(1,20000),(2,22000)]) (Qv [(1,20000),(2,22000)] (by simp only [go_sem,zwl,auB,erT,List.cons_append,List.nil_append]<;>exact zcc) (by simp only [go_sem,zwl,auB,erT,Qg.cells,QB,QT]<;>exact zcc) (by simp [auB,Qi]) (by simp [auB];omega) (by omega)) fun k hk K' hL=>?_
 rcases kI k l.length with hk'|hkl
 ·have hw:=Qq (k:=k) (by omega)
  have e1:decide ((k:Int) < (l.length:Int)) = true:=zn (by omega)
  have hjn:=aeF k
  have hol:(QF (List.range k)).length = k:=by rw [JF,kX]
  have htl:List.take k (QF (List.range k)) = QF (List.range k):=zj (by omega)
  simp only [auB,erT,Qg.cells,List.cons_append,List.nil_append]
  (have zx:=za e1 (za hgv (za hw (za hjn (za hol htl)))));refine zgo ?_;repeat' first|exact zt|apply zan|intro hc
  all_goals exact hL _ (k + 1) (Qi [(2,7003)]) (by omega) (by omega) (Qv [(2,7003)] (by simp only [go_sem,zwl,auB,erT,List.cons_append,List.nil_append]<;>exact zcc) (by simp only [go_sem,zwl,auB,erT,Qg.cells,QB,QT]<;>exact zcc) (by simp [auB,Qi]) (by simp [auB];omega) (by omega))
 obtain rfl:k = l.length:=by omega
 clear hL
 have e1:decide ((l.length:Int) < (l.length:Int)) = false:=by simp
 simp only [auB,erT,Qg.cells,List.cons_append,List.nil_append]
 (have zx:=za e1 hgv);refine zgo ?_;repeat' first|exact zt|apply zan|intro hc
 have hrl:(List.range l.length).length = l.length:=kX
 have hcr:=adf l
 generalize hhh:aj5 l gap day age f0 = hh at *
 generalize hfin:aiS hh (l.length + 1) (List.range l.length) = fin at *
 have hfo:aej l gap day age f0 = fin:=by rw [aej,hhh,hfin]
 rw [hfo]
 refine QC (ι:=List Nat×Bool×Nat) (fun q=>q.1.Sublist (List.range l.length)∧if q.2.1 = true then q.1.length < q.2.2∧aiS hh q.2.2 q.1 = fin else q.1 = fin) (fun q=>aqp l gap day age f0 q.1 q.2.1) (fun q=>if q.2.1 = true then q.2.2 else 0) (List.range l.length,true,l.length + 1) ⟨Zt _,by dsimp only;rw [if_pos rfl];exact ⟨by omega,hfin⟩⟩ (Qi []) (Qv [] (by simp only [go_sem,zwl,aqp,erT,hrl,hcr,List.cons_append,List.nil_append]<;>exact zcc) (by simp only [go_sem,zwl,aqp,erT,hrl,hcr,Qg.cells,QB,QT]<;>exact zcc) (by simp [aqp,Qi]) (by simp [aqp]) (by omega)) fun q hq K' hL=>?_
 obtain ⟨fs,b,n⟩:=q
 obtain ⟨hsb,hif⟩:=hq
 dsimp only at hsb hif
 have hfl:=hsb.length_le
 rw [hrl] at hfl
 have hft:(QF fs).take fs.length = QF fs:=zj (by rw [JF];exact zl _)
 have hpl:(QF fs).length = fs.length:=JF fs
 rcases b with _|_
 ·rw [if_neg (by decide)] at hif
  subst hif
  simp only [aqp,erT,Qg.cells,List.cons_append,List.nil_append]
  (have zx:=za hft hpl);refine zgo ?_;repeat' first|exact zt|apply zan|intro hc
  all_goals first|exact zr|(refine Qr _ rfl ?_;simp only [go_sem];rw [hft];done)
 rw [if_pos rfl] at hif
 obtain ⟨hn,hex⟩:=hif
 obtain ⟨n,rfl⟩:∃ m,n = m + 1:=⟨n - 1,by omega⟩
 rw [aiS] at hex
 have hndf:fs.Nodup:=bs.sublist hsb
 simp only [aqp,erT,Qg.cells,List.cons_append,List.nil_append]
 refine zgo ?_;repeat' first|exact zt|apply zan|intro hc
 refine QC (ι:=List Nat×Bool×Nat) (fun q=>q.2.2≤q.1.length∧q.1.Sublist fs∧aak hh (q.1.drop q.2.2) q.1 q.2.1 = aak hh fs fs false) (fun q=>aqo l gap day age f0 q.1 q.2.1 q.2.2) (fun q=>q.1.length - q.2.2) (fs,false,0) ⟨zG _,Zt _,by rw [kr]⟩ (Qi []) (Qv [] (by simp only [go_sem,zwl,aqo,erT,List.cons_append,List.nil_append]<;>exact zcc) (by simp only [go_sem,zwl,aqo,erT,Qg.cells,QB,QT]<;>exact zcc) (by simp [aqo,Qi]) (by simp [aqo]) (by omega)) fun q hq K2 hL2=>?_
 obtain ⟨gs,b2,k⟩:=q
 obtain ⟨hk,hgs,hps⟩:=hq
 dsimp only at hk hgs hps
 have hgl:=hgs.length_le
 have hgb:∀ i∈gs,i < l.length:=fun i h2=>k9.1 (hsb.subset (hgs.subset h2))
 have hcg:=aee hgb
 have hcm:((Qx l gs).map Qa.v).length = gs.length:=by rw [zd,hcg]
 have hgp:(QF gs).length = gs.length:=JF gs
 rcases hdr:gs.drop k with _|⟨i,r⟩
 ·have hkl:=QY hdr
  have e2:decide ((k:Int) < (gs.length:Int)) = false:=zv (by omega)
  rw [hdr,aak] at hps
  have hlt:=apQ (h:=hh) fs fs hndf (fun i hi=>hi)
  rw [← hps] at hex hlt
  dsimp only at hex hlt
  simp only [aqo,erT,Qg.cells,List.cons_append,List.nil_append]
  rcases b2 with _|_
  ·rw [if_neg (by decide)] at hex
   (have zx:=za e2 (za hcm hgp));refine zgo ?_;repeat' first|exact zt|apply zan|intro hc
   all_goals exact hL _ (gs,false,0) (Qi []) ⟨hgs.trans hsb,by dsimp only;rw [if_neg (by decide)];exact hex⟩ (by simp) (Qv [] (by simp only [go_sem,zwl,aqp,erT,List.cons_append,List.nil_append]<;>exact zcc) (by simp only [go_sem,zwl,aqp,erT,Qg.cells,QB,QT]<;>exact zcc) (by simp [aqp,Qi]) (by simp [aqp]) (by omega))
  ·rw [if_pos rfl] at hex
   have hlt2:=hlt rfl
   (have zx:=za e2 (za hcm hgp));refine zgo ?_;repeat' first|exact zt|apply zan|intro hc
   all_goals exact hL _ (gs,true,n) (Qi []) ⟨hgs.trans hsb,by dsimp only;rw [if_pos rfl];exact ⟨by omega,hex⟩⟩ (by simp) (Qv [] (by simp only [go_sem,zwl,aqp,erT,List.cons_append,List.nil_append]<;>exact zcc) (by simp only [go_sem,zwl,aqp,erT,Qg.cells,QB,QT]<;>exact zcc) (by simp [aqp,Qi]) (by simp [aqp]) (by omega))
 obtain ⟨hk',hget,hr⟩:=QJ hdr
 have hw:=Qq (k:=k) (by omega)
 have e2:decide ((k:Int) < (gs.length:Int)) = true:=zn (by omega)
 have hngs:gs.Nodup:=hndf.sublist hgs
 have hld:=auc hngs hget
 have hln:=aub hngs hget
 have hls:=amH i gs
 have hsubl:(Qx l (Wk i gs)).Sublist l:=asO ((hls.trans hgs).trans hsb)
 have hnl:=aod h1 hsubl
 have p2:=(z1 (Qx l (Wk i gs)) gap day age f0 (ao8 hz) hnl h2 h3 h4).b
 have hh1:hh (Wk i gs) = Vh (Qx l (Wk i gs)) gap day age f0:=by rw [← hhh,aj5,anO h1 hsubl h2];rfl
 rw [apG] at p2
 rw [hdr,aak,hh1,← hr] at hps
 clear hh1
 have hcut:=asP hgb hngs hget
 have hpc:=atC hngs hget
 have hcm2:(Qx l (Wk i gs)).map Qa.v = ((Qx l gs).map Qa.v).take k++((Qx l gs).map Qa.v).drop (k + 1):=by rw [← hcut,kN,kj,kx]
 rw [hcm2] at p2
 simp only [Qg.v,Qg.cells] at p2
 have hMc:∀ y∈(Qx l gs).map Qa.v,y.cells.length = 11:=by intro y hy;obtain ⟨z,_,rfl⟩:=zE.1 hy;rfl
 have hNc:∀ y∈QF gs,y.cells.length = 1:=by intro y hy;obtain ⟨z,_,rfl⟩:=zE.1 hy;rfl
 simp only [aqo,erT,Qg.cells,List.cons_append,List.nil_append]
 generalize hMe:(Qx l gs).map Qa.v = M at *
 generalize hNe:QF gs = N at *
 have hM1:∀ y∈M.take k,y.cells.length = 11:=fun y hy=>hMc y (zD hy)
 have hM2:∀ y∈M.drop (k + 1),y.cells.length = 11:=fun y hy=>hMc y (zF hy)
 have hT:(M.take k).length = k:=by rw [zM];omega
 have hD:(M.drop (k + 1)).length = gs.length - (k + 1):=by rw [zZ,hcm]
 have hdt:(M.drop (k + 1)).take (gs.length - (k + 1)) = M.drop (k + 1):=zj (by omega)
 have hTT:(M.take k).take k = M.take k:=zj (by omega)
 have hall:(M.take k++M.drop (k + 1)).take (k + (gs.length - (k + 1))) = M.take k++M.drop (k + 1):=zj (by rw [zp,hT,hD];exact zl _)
 have hN1:∀ y∈N.take k,y.cells.length = 1:=fun y hy=>hNc y (zD hy)
 have hN2:∀ y∈N.drop (k + 1),y.cells.length = 1:=fun y hy=>hNc y (zF hy)
 have gT:(N.take k).length = k:=by rw [zM];omega
 have gD:(N.drop (k + 1)).length = gs.length - (k + 1):=by rw [zZ,hgp]
 have gdt:(N.drop (k + 1)).take (gs.length - (k + 1)) = N.drop (k + 1):=zj (by omega)
 have gTT:(N.take k).take k = N.take k:=zj (by omega)
 rcases hv:Vh (Qx l (Wk i gs)) gap day age f0 with _|_
 ·rw [hv,if_neg (by decide)] at hps
  rw [hv] at p2
  (have zx:=za e2 (za hw (za hcm (za hgp (za hT (za hD (za hdt (za hTT hall))))))));refine zgo ?_;repeat' first|exact zt|apply zan|intro hc
  all_goals exact hL2 _ (gs,b2,k + 1) (Qi []) ⟨by simp only;omega,hgs,hps⟩ (by simp only;omega) (Qv [] (by simp only [go_sem,zwl,aqo,erT,List.cons_append,List.nil_append]<;>exact zcc) (by simp only [go_sem,zwl,aqo,erT,Qg.cells,hMe,hNe,QB,QT]<;>exact zcc) (by simp [aqo,Qi]) (by simp [aqo]) (by omega))
 ·rw [hv,if_pos rfl] at hps
  rw [hv] at p2
  rw [← hld] at hps
  (have zx:=za e2 (za hw (za hcm (za hgp (za hT (za hD (za hdt (za hTT (za hall (za gT (za gD (za gdt gTT))))))))))));refine zgo ?_;repeat' first|exact zt|apply zan|intro hc
  all_goals exact hL2 _ (Wk i gs,true,k) (Qi [(1,13003),(2,34003)]) ⟨by simp only;omega,hls.trans hgs,hps⟩ (by simp only;omega) (Qv [(1,13003),(2,34003)] (by simp only [go_sem,zwl,aqo,erT,hln,List.cons_append,List.nil_append]<;>exact zcc) (by simp only [go_sem,zwl,aqo,erT,Qg.cells,hcm2,← hpc,hMe,hNe,QB,QT]<;>exact zcc) (by simp [aqo,Qi]) (by simp [aqo];omega) (by omega))
def W4 (Γ:Env) (f:Nat):Prop:=(BCF Γ f∧∀ l:List UInt8,BCU Γ f l)
def V3 (Γ:Env) (f:Nat):Prop:=(BSF Γ f∧∀ l:List UInt8,l≠[]→l.length≤2 ^ 38→BSU Γ f l)
def Xp (Yr ajr:Nat):AC:=Qb [0,1] (.reg [mc 4 (V.int 0),mc 5 (.sc .nilIface)]) (Qb [0,1] (.reg [mv 6 0,cl 7 Yr [6]]) (Qb [1] (.reg [mv 8 0,mv 9 0,nk 10 9,fa 11 1 10,ld 12 1 11,mv 13 1,xo 14 (.appendS ajr (.t 12) (.t 13)),nk 15 8,fa 16 1 15,xs 1 16 14]) (Qb [4,5] (.reg [mv 17 1,xo 18 (.lenS (.t 17)),mv 4 18,mc 5 (.sc .nilIface)]) .ret))) def eU:List Q0:=[.tmp 4,.tmp 5]
def Y5 (Γ:Env) (f:Nat):Prop:=((∀ s:List UInt8,s.length≤2 ^ 38→BWF Γ f s)∧∀ l s:List UInt8,l.length + s.length≤2 ^ 38→BWU Γ f l s)
theorem qt {Γ:Env} {f Yr ajr:Nat} (h:Has Γ.P f 19 (Xp Yr ajr) eU) (hty_byt:ayZ Γ.P = ajr) (z0:W4 Γ Yr):Y5 Γ f:=by
 subst hty_byt
 refine ⟨fun s hs=>⟨XW h (by simp) fun C hC hm=>?_⟩,fun l s hs=>⟨XW h (by simp) fun C hC hm=>?_⟩⟩
 all_goals subst hC;unfold Xp
 ·have w1:=z0.1
  refine zgo ?_;repeat' first|exact zt|apply zan|intro hc
  exact axR 10001 _ rfl (by simp only [go_sem]) rfl rfl (by decide) rfl rfl
 ·have w1:=z0.2 l
  have e1:List.take l.length (byV l)++List.map (fun c:UInt8=>V.sc (.int .u8 c.toNat)) s = byV (l++s):=by rw [zj (by simp)];exact kN.symm
  (have zx:=e1);refine zgo ?_;repeat' first|exact zt|apply zan|intro hc
  exact axQ 10002 _ rfl (by simp only [go_sem]) rfl ⟨_,rfl⟩ rfl (by decide) rfl (by simp)
def apA (l:List Qa) (s:List Nat):List UInt8:=((Qx l s).map aei).flatten
def avd (l:List Qa) (gap day age:Int) (f:Qg):V:=if Vh l gap day age f = true then .tup [V.str (apA l (aej l gap day age f)),V.int 0] else .tup [V.str [],V.int 4]
theorem aqg {l:List Qa} {gap day age:Int} {f:Qg}:∀ i∈aej l gap day age f,i < l.length:=fun i hi=>k9.1 ((amR (h:=aj5 l gap day age f) (l.length + 1) (List.range l.length)).subset hi)
theorem ary {l:List Qa} {gap day age:Int} {f:Qg}:(aej l gap day age f).length≤l.length:=by
 have:=(amR (h:=aj5 l gap day age f) (l.length + 1) (List.range l.length)).length_le
 rwa [kX] at this
theorem anJ {l:List Qa} {s:List Nat} {k i:Nat} {z:Qa} (h:s[k]? = some i) (hz:l[i]? = some z):apA l (s.take (k + 1)) = apA l (s.take k)++aei z:=by
 rw [apA,apA,Qx,zP,h,ZD]
 simp [hz,Qx]
def akL (Kp Ko:Nat):AC:=Qb [0,1,2,3,9] (.reg [xo 9 (.box true 8 (.t 4)),mc 10 (V.str []),mc 11 (V.int 0)]) (Qb [0,12,13] (.reg [mv 20 0,mv 21 1,mv 22 2,mv 23 3,xo 24 (.load true 8 (.t 9)),cl 25 Kp [20,21,22,23,24],mv 19 25,ex 26 19 0,ex 27 19 1,mv 12 26,mv 13 27]) (Qb [0,12] (Qb [0,12,13,29] (.reg [mv 28 13,bc 29 .neq 28 (V.int 0)]) (.cond (.t 29) (Qb [10,11] (.reg [mv 30 13,mc 10 (V.str []),mv 11 30]) .ret) .skip)) (Qb [0,12,14] (.reg [mc 14 (V.str [])]) (Qb [14] (Qb [0,14,31,32,33] (.reg [mv 31 12,ln 32 31,mc 33 (V.int 0)]) (.block 0 (JG [0,14,31,32,33] (Qb [0,14,31,32,33,34] (.reg [bn 34 .lss 33 32]) (Qb [0,14,31,32,33] (.cond (.t 34) .skip (.exit 0)) (Qb [0,14,31,32,33] (.block 1 (Qb [0,14,16,31,32,33] (.reg [ia 35 1 31 33,ld 36 1 35,mv 16 36]) (Qb [0,14,17,31,32,33] (.reg [mv 38 0,mv 39 16,ia 40 11 38 39,xo 41 (.load true 11 (.t 40)),cl 42 Ko [41],mv 37 42,ex 43 37 0,ex 44 37 1,mv 17 43,mv 18 44]) (.reg [mv 45 14,mv 46 17,bn 47 .add 45 46,mv 14 47])))) (.reg [bc 48 .add 33 (V.int 1),mv 33 48]))))))) (Qb [10,11] (.reg [mv 49 14,mv 10 49,mc 11 (V.int 0)]) .ret))))) def eV:List Q0:=[.tmp 10,.tmp 11]
def adU (Γ:Env) (f:Nat):Prop:=∀ (l:List Qa) (gap day age:Int) (f0:Qg) (hl:l.length≤12) (hz:∀ x∈l,x.Sz) (hK:ahE l gap day age),EvN Γ f [.sl 11 (l.map Qa.v),V.int gap,V.int day,V.int age,f0.v] (avd l gap day age f0)
theorem aoQ {Γ:Env} {f Kp Ko:Nat} (h:Has Γ.P f 50 (akL Kp Ko) eV) (z0:jJ Γ Kp) (z1:jI Γ Ko):adU Γ f:=by
 intro l gap day age f0 hl hz hK
 refine Qc h zsi (by unfold avd;split<;>simp only [V.closed,Qh,V.noSl,Ue,and_self]) (by unfold avd;split<;>simp only [V.closed,Qh,V.noSl,Ue,and_self]) fun C hC hm=>?_
 subst hC
 unfold akL
 obtain ⟨hl4,hq⟩:=W6 hK.nm
 have p0:=(z0 l gap day age f0 (by omega) hz hq).b
 rw [av5,if_pos (ad6.2 hK)] at p0
 rw [avd]
 have e00:((0:Int) != 0) = false:=by decide
 have e04:((4:Int) != 0) = true:=by decide
 rcases hH:Vh l gap day age f0 with _|_
 ·rw [hH,if_neg (by decide)] at p0
  rw [if_neg (by decide)]
  simp only [Qg.v,Qg.cells] at p0 ⊢
  (have zx:=e04);exact zg
 rw [hH,if_pos rfl] at p0
 rw [if_pos rfl]
 have hlt:=aqg (l:=l) (gap:=gap) (day:=day) (age:=age) (f:=f0)
 have hle:=ary (l:=l) (gap:=gap) (day:=day) (age:=age) (f:=f0)
 generalize aej l gap day age f0 = s at *
 have hsl:(QF s).length = s.length:=zd _
 have hxl:(l.map Qa.v).length = l.length:=zd _
 simp only [Qg.v,Qg.cells] at p0 ⊢
 (have zx:=za e00 hsl);refine zgo ?_;repeat' first|exact zt|apply zan|intro hc
 refine Jc (ι:=Nat) (fun k=>k≤s.length∧(apA l (s.take k)).length≤400 * k) (fun k=>[(14,V.str (apA l (s.take k))),(33,V.int k)]) (fun k=>s.length - k) 0 (by omega) ⟨zG _,by simp [apA,Qx]⟩ zol zlt (by simp only [Nat.reduceAdd,ovT,Xr,Nat.reduceEqDiff,reduceIte,XQ,WQ,alK,u32,u33,u34,u35,u36,u37,u38,u39,and_self,and_true,true_and];simp [apA,Qx]) fun k hk K' hL=>?_
 obtain ⟨hk,hwl⟩:=hk
 simp only [ovT,Xr,Nat.reduceEqDiff,reduceIte]
 rcases hd:s.drop k with _|⟨i,r⟩
 ·have hkl:=QY hd
  obtain rfl:k = s.length:=by omega
  have e1:decide ((s.length:Int) < (s.length:Int)) = false:=by simp
  have htk:s.take s.length = s:=zJ
  (have zx:=za e1 (za hsl htk));refine zgo ?_;repeat' first|exact zt|apply zan|intro hc
  all_goals first|exact zr|(refine Qr _ rfl ?_;simp only [go_sem];rw [zJ];done)
 ·obtain ⟨hk',hget,hr⟩:=QJ hd
  have hw:=Qq (k:=k) (by omega)
  have e1:decide ((k:Int) < (s.length:Int)) = true:=by simp;omega
  have hvi:=Xm hget
  have hil:=hlt i (zm hget)
  obtain ⟨z,hzz⟩:∃ z,l[i]? = some z:=⟨_,zb hil⟩
  have vz:(l.map Qa.v)[i]? = some z.v:=by rw [zi,hzz];rfl
  have pf:=(z1 z (hz z (zm hzz)) (hq z (zm hzz))).b
  have hsn:=anJ hget hzz
  have hlz:=aoj (hq z (zm hzz))
  simp only [Qa.v,Qa.cells] at vz pf
  (have zx:=za e1 (za hsl (za hw (za hvi (za vz hxl)))));refine zgo ?_;repeat' first|exact zt|apply zan|intro hc
  all_goals first|exact hL _ (k + 1) (by simp only [Nat.reduceAdd,ovT,Xr,Nat.reduceEqDiff,reduceIte,XQ,WQ,alK,u32,u33,u34,u35,u36,u37,u38,u39,and_self,and_true,true_and];rw [hsn]) ⟨by omega,by rw [hsn,zp];omega⟩ (by omega) zoe|omega
def azT (Γ:Env) (a p:Nat) (T:List UInt8):List (Nat×Ob):=if T = [] then [(a,bX Γ as5 v8)] else [(a,bX Γ (.ptr a 0) (.hd p 0 T.length)),(p,bB Γ T)]
theorem aeS (Γ:Env) (a p:Nat):azT Γ a p [] = [(a,bX Γ as5 v8)]:=if_pos rfl
theorem arL (Γ:Env) (a p:Nat) {T:List UInt8} (h:T≠[]):azT Γ a p T = [(a,bX Γ (.ptr a 0) (.hd p 0 T.length)),(p,bB Γ T)]:=if_neg h
def wyS (Γ:Env) (l:List Qa) (s:List Nat) (k:Nat) (T:List UInt8):St:=Y1 [(0,.sl 11 (l.map Qa.v)),(14,.ptr 0 0),(31,.sl 1 (QF s)),(32,V.int s.length),(33,V.int k)] (azT Γ 0 1 T) 2
theorem ars (f:Qa):aei f≠[]:=by rw [aei];simp
def adh (Vj ajs Yi J8 Xf:Nat):AC:=Qb [0,1,2,3,9] (.reg [xo 9 (.box true 8 (.t 4)),mc 10 (V.str []),mc 11 (V.int 0)]) (Qb [0,12,13] (.reg [mv 20 0,mv 21 1,mv 22 2,mv 23 3,xo 24 (.load true 8 (.t 9)),cl 25 Vj [20,21,22,23,24],mv 19 25,ex 26 19 0,ex 27 19 1,mv 12 26,mv 13 27]) (Qb [0,12] (Qb [0,12,13,29] (.reg [mv 28 13,bc 29 .neq 28 (V.int 0)]) (.cond (.t 29) (Qb [10,11] (.reg [mv 30 13,mc 10 (V.str []),mv 11 30]) .ret) .skip)) (Qb [0,12,14] (.reg [xo 14 (.allocT ajs [(.pointer none),vn0])]) (Qb [14] (Qb [0,14,31,32,33] (.reg [mv 31 12,ln 32 31,mc 33 (V.int 0)]) (.block 0 (JG [0,14,31,32,33] (Qb [0,14,31,32,33,34] (.reg [bn 34 .lss 33 32]) (Qb [0,14,31,32,33] (.cond (.t 34) .skip (.exit 0)) (Qb [0,14,31,32,33] (.block 1 (Qb [0,14,16,31,32,33] (.reg [ia 35 1 31 33,ld 36 1 35,mv 16 36]) (Qb [0,14,17,31,32,33] (.reg [mv 38 0,mv 39 16,ia 40 11 38 39,xo 41 (.load true 11 (.t 40)),cl 42 Yi [41],mv 37 42,ex 43 37 0,ex 44 37 1,mv 17 43,mv 18 44]) (.reg [mv 45 17,cl 46 J8 [14,45]])))) (.reg [bc 47 .add 33 (V.int 1),mv 33 47]))))))) (Qb [10,11] (.reg [cl 48 Xf [14],mv 10 48,mc 11 (V.int 0)]) .ret))))) def eW:List Q0:=[.tmp 10,.tmp 11]
def abH (Γ:Env) (f:Nat):Prop:=∀ (l:List Qa) (gap day age:Int) (f0:Qg) (hl:l.length≤12) (hz:∀ x∈l,x.Sz) (hK:ahE l gap day age),EvN Γ f [.sl 11 (l.map Qa.v),V.int gap,V.int day,V.int age,f0.v] (avd l gap day age f0)
attribute [local go_sem] aeS Y1 wyS in
theorem amU {Γ:Env} {f Vj ajs Yi J8 Xf:Nat} (h:Has Γ.P f 49 (adh Vj ajs Yi J8 Xf) eW) (hty_bld:aw4 Γ.P = ajs) (z0:UN Γ Vj) (z1:VY Γ Yi) (z2:Y5 Γ J8) (z3:V3 Γ Xf):abH Γ f:=by
 subst hty_bld
 intro l gap day age f0 hl hz hK
 refine Qc h zsi (by unfold avd;split<;>simp only [V.closed,Qh,V.noSl,Ue,and_self]) (by unfold avd;split<;>simp only [V.closed,Qh,V.noSl,Ue,and_self]) fun C hC hm=>?_
 subst hC
 unfold adh
 obtain ⟨hl4,hq⟩:=W6 hK.nm
 have p0:=(z0 l gap day age f0 hl hz hK.d hK.a).b
 rw [auy,if_pos (by rw [YS,if_pos hK.nm,if_neg (by have:=hK.g;omega)])] at p0
 rw [avd]
 have e00:((0:Int) != 0) = false:=by decide
 have e04:((4:Int) != 0) = true:=by decide
 rcases hH:Vh l gap day age f0 with _|_
 ·rw [hH,if_neg (by decide)] at p0
  rw [if_neg (by decide)]
  simp only [Qg.v,Qg.cells] at p0 ⊢
  (have zx:=e04);exact zg
 rw [hH,if_pos rfl] at p0
 rw [if_pos rfl]
 have hlt:=aqg (l:=l) (gap:=gap) (day:=day) (age:=age) (f:=f0)
 have hle:=ary (l:=l) (gap:=gap) (day:=day) (age:=age) (f:=f0)
 generalize aej l gap day age f0 = s at *
 have hsl:(QF s).length = s.length:=zd _
 have hxl:(l.map Qa.v).length = l.length:=zd _
 simp only [Qg.v,Qg.cells] at p0 ⊢
 (have zx:=za e00 hsl);refine zgo ?_;repeat' first|exact zt|apply zan|intro hc
 refine QC (ι:=Nat×List UInt8) (fun p=>p.1≤s.length∧p.2.length≤400 * p.1∧p.2 = apA l (s.take p.1)) (fun p=>wyS C.env l s p.1 p.2) (fun p=>s.length - p.1) (0,[]) ⟨by simp,by simp,by simp [apA,Qx]⟩ (Qi [(0,16000)]) (Qv [(0,16000)] (by simp only [go_sem,zwl,wyS,Y1,aeS]<;>exact zcc) (by simp only [go_sem,zwl,wyS,Y1,aeS]<;>exact zcc) (by simp [wyS,Qi,aeS]) (by simp [wyS];omega) (by omega)) fun p hp K' hL=>?_
 obtain ⟨k,T⟩:=p
 obtain ⟨h1,h2,hinv⟩:=hp
 simp only at h1 h2 hinv
 rcases hd:s.drop k with _|⟨i,r⟩
 ·have hkl:=QY hd
  obtain rfl:k = s.length:=by omega
  have e5:decide ((s.length:Int) < (s.length:Int)) = false:=by simp
  rw [zJ] at hinv
  rw [← hinv]
  by_cases hT:T = []
  ·subst hT
   have w1:=z3.1
   (have zx:=e5);exact zg
  ·have b1:=arL C.env 0 1 hT
   have w1:=z3.2 T hT (by omega)
   (have zx:=za b1 e5);exact zg
 ·obtain ⟨hk',hget,hr2⟩:=QJ hd
  have hw:=Qq (k:=k) (by omega)
  have e5:decide ((k:Int) < (s.length:Int)) = true:=by simp;omega
  have hvi:=Xm hget
  have hil:=hlt i (zm hget)
  obtain ⟨z,hzz⟩:∃ z,l[i]? = some z:=⟨_,zb hil⟩
  have vz:(l.map Qa.v)[i]? = some z.v:=by rw [zi,hzz];rfl
  have hcz:=hq z (zm hzz)
  have hlz:=aoj hcz
  have pf:=(z1 z (hz z (zm hzz)) (fun _=>by omega)).b
  rw [hcz,cond_true] at pf
  have hsn:=anJ hget hzz
  rw [← hinv] at hsn
  have hne:=ars z
  have w1:=z2.1 (aei z) (by omega)
  have w2:=z2.2 T (aei z) (by omega)
  simp only [Qa.v,Qa.cells] at vz pf
  generalize aei z = L at *
  by_cases hT:T = []
  ·subst hT
   have b1:=arL C.env 0 1 hne
   (have zx:=za e5 (za hw (za hvi (za vz (za hsl hxl)))));refine zgo ?_;repeat' first|exact zt|apply zan|intro hc
   all_goals first
    | exact hL _ (k + 1,L) (Qi [(1,15002)]) ⟨by simp only;omega,by simp only;omega,by simp only;rw [hsn];rfl⟩ (by simp only;omega) (Qv [(1,15002)] (by simp only [go_sem,zwl,wyS,Y1,aeS,b1]<;>exact zcc) (by simp only [go_sem,zwl,wyS,Y1,aeS,b1]<;>exact zcc) (by simp [wyS,Qi,aeS,b1]) (by simp [wyS];omega) (by omega))
  ·have b1:=arL C.env 0 1 hT
   have b2:=arL C.env 0 1 (T:=T++L) (by simp [hT])
   (have zx:=za b1 (za e5 (za hw (za hvi (za vz (za hsl hxl))))));refine zgo ?_;repeat' first|exact zt|apply zan|intro hc
   all_goals first
    | exact hL _ (k + 1,T++L) (Qi [(1,15002)]) ⟨by simp only;omega,by simp only [zp];omega,by simp only;rw [hsn]⟩ (by simp only;omega) (Qv [(1,15002)] (by simp only [go_sem,zwl,wyS,Y1,aeS,b2]<;>exact zcc) (by simp only [go_sem,zwl,wyS,Y1,aeS,b2]<;>exact zcc) (by simp [wyS,Qi,aeS,b2]) (by simp [wyS];omega) (by omega))
end Av
end
