/- K20 -/
import Derived.Test.YtjobognfgjobfaaGreatDoorK19
import Derived.Test.YtjobognfgjobfaaGreatDoorK12
import Derived.Test.YtjobognfgjobfaaGreatDoorK18
set_option linter.unusedVariables false
set_option linter.unusedSimpArgs false
noncomputable section
set_option maxRecDepth 10000
set_option maxHeartbeats 4000000
namespace Av
open Go
attribute [local irreducible] AWp WC wb aai awS awC aeM awQ afz Jk qV aes awR jj awB okR aaf ris
def QT:=qd Proofs.Tryz.f204 [⟨fun _=>false,[8,9,12,13,14,16],.one 0 (.one 1 (.one 2 (.one 3 (.one 4 (.one 5 (.one 6 (.one 7 (.one 10 (.one 11 (.or 8 (.or 9 (.one 12 (.one 13 (.one 14 (.one 15 (.one 16 (.one 17 (.done))))))) (.or 12 (.or 9 (.one 13 (.one 14 (.one 15 (.one 16 (.one 17 (.done)))))) (.or 13 (.one 9 (.one 14 (.one 15 (.one 16 (.one 17 (.done)))))) (.done))) (.done))) (.or 12 (.or 8 (.or 9 (.one 13 (.one 14 (.one 15 (.one 16 (.one 17 (.done)))))) (.or 13 (.one 9 (.one 14 (.one 15 (.one 16 (.one 17 (.done)))))) (.done))) (.or 13 (.one 8 (.one 9 (.one 14 (.one 15 (.one 16 (.one 17 (.done))))))) (.done))) (.done))))))))))))⟩,⟨fun _=>true,[14],zoc 0 17⟩]
def Jt (Γ:Env) (f:Nat):Prop:=∀ (xs:List Qa) (a b:Nat) (g:Nat) (c:Qa→Qa→Int) (hcmp:∀ x∈xs,∀ y∈xs,EvN Γ g [Qa.v x,Qa.v y] (V.int (c x y))) (hab:a≤b) (hb:b≤xs.length) (hx:xs.length < 2 ^ 34),EvL Γ f [V.int a,V.int b,.clo g []] 11 (xs.map Qa.v) (.tup []) ((if a = b then xs.map Qa.v else (agv (fun x y=>decide (c x y < 0)) xs a b).map Qa.v))
attribute [local go_sem] QS in
theorem WF {Γ:Env} {f:Nat} (h:Has Γ.P f 53 QT.1.1.ac QT.1.2) :Jt Γ f:=by
 intro xs a b g c hcmp hab hb hx
 refine je h (by simp) (by simp only [V.closed,Qb,V.noSl,Wi,and_self,and_true,true_and]) fun C hC hm=>?_
 subst hC
 simp only [QT,qd,DC.ac]
 have hwa:=Qe (k:=a) (by omega)
 by_cases he:a = b
 ·subst he
  rw [if_pos rfl]
  have e1:decide (((a + 1:Nat):Int) < (a:Int)) = false:=by simp;omega
  (have zx:=hwa);refine zgo ?_;repeat' first|exact zt|apply zan|intro hc
  refine Qj (ι:=Unit) (fun _=>True) (fun _=>QS [(0,.hd 0 0 (xs.map Qa.v).length),(1,V.int a),(2,V.int a),(3,.clo g []),(8,V.int (a + 1:Nat))] [(0,.buf true 11 (xs.map Qa.v))] 1) (fun _=>0) () trivial (Qd []) (zwg []) fun j hj K'' hL2=>?_
  (have zx:=e1);refine zgo ?_;repeat' first|exact zt|apply zan|intro hc
  all_goals first|(refine xC _ rfl rfl (by simp only [go_sem]) ?_<;>first|rfl|(simp;done))
 ·rw [if_neg he]
  (have zx:=hwa);refine zgo ?_;repeat' first|exact zt|apply zan|intro hc
  generalize hlt:(fun x y=>decide (c x y < 0)) = lt
  have hlt2:∀ x y,decide (c x y < 0) = lt x y:=by intro x y;rw [← hlt]
  refine Qj (ι:=Nat) (fun i=>a + 1≤i∧i≤b) (fun i=>QS [(0,.hd 0 0 (xs.map Qa.v).length),(1,V.int a),(2,V.int b),(3,.clo g []),(8,V.int i)] [(0,.buf true 11 ((agv lt xs a i).map Qa.v))] 1) (fun i=>b - i) (a + 1) ⟨by omega,by omega⟩ (Qd []) (Qh [] zwa (by rw [asd (by omega)];simp only [go_sem,zwl];(repeat' (first|rfl|apply za|omega|exact fun h=>h|exact Exists.intro _ rfl))) (by simp) (by simp) (by omega)) fun i hi K' hL=>?_
  obtain ⟨hi1,hi2⟩:=hi
  by_cases hib:i = b
  ·subst hib
   have e1:decide ((i:Int) < (i:Int)) = false:=by simp
   (have zx:=e1);refine zgo ?_;repeat' first|exact zt|apply zan|intro hc
   all_goals first|(refine xC _ rfl rfl (by simp only [go_sem]) ?_<;>first|rfl|(simp;done))
  ·have e1:decide ((i:Int) < (b:Int)) = true:=by simp;omega
   have hwi:=Qe (k:=i) (by omega)
   obtain ⟨x,hget⟩:∃ x,xs[i]? = some x:=⟨_,zd (by omega)⟩
   have hxm:x∈xs:=zq hget
   have hdx:xs.drop i = x :: xs.drop (i + 1):=by
    rw [zR (by omega)];congr 1
    rw [zd (by omega)] at hget;exact Z3 hget
   have hP:(xs.take a).length = a:=by simp;omega
   have hS:(Wo lt ((xs.take i).drop a)).length = i - a:=by rw [xw];simp;omega
   have hSm:∀ y∈Wo lt ((xs.take i).drop a),y∈xs:=fun y hy=>ky (kP (adL.1 hy))
   have hnext:agv lt xs a (i + 1) = xs.take a++(al0 lt (Wo lt ((xs.take i).drop a)) x++xs.drop (i + 1)):=by
    have:(xs.take (i + 1)).drop a = (xs.take i).drop a++[x]:=by
     rw [zB,hget,Zl (by simp;omega)];rfl
    rw [agv,this,Wo,ZE];rfl
   have hnow:agv lt xs a i = xv (xs.take a) (Wo lt ((xs.take i).drop a)) x (xs.drop (i + 1)) (i - a):=by
    rw [agv,hdx,xv,← hS,zG,Zv];rfl
   rw [hnow]
   generalize Wo lt ((xs.take i).drop a) = S at *
   have hPg:=hP
   generalize xs.take a = P at *
   have hR:(xs.drop (i + 1)).length = xs.length - (i + 1):=kF
   generalize xs.drop (i + 1) = R at *
   (have zx:=e1);refine zgo ?_;repeat' first|exact zt|apply zan|intro hc
   refine Qj (ι:=Nat) (fun q=>q≤i - a∧gK lt S x q = gK lt S x S.length) (fun q=>QS [(0,.hd 0 0 (xs.map Qa.v).length),(1,V.int a),(2,V.int b),(3,.clo g []),(8,V.int i),(9,V.int (a + q:Nat))] [(0,.buf true 11 ((xv P S x R q).map Qa.v))] 1) (fun q=>q) (i - a) ⟨by omega,by rw [hS]⟩ (Qd []) (Qh [] (by rw [show a + (i - a) = i by omega];simp only [go_sem,zwl];(repeat' (first|rfl|apply za|omega|exact fun h=>h|exact Exists.intro _ rfl))) zwa (by simp) (by simp) (by omega)) fun q hq K'' hL2=>?_
   obtain ⟨hq1,hq2⟩:=hq
   have hfin:gK lt S x S.length = q→xv P S x R q = agv lt xs a (i + 1):=by
    intro h
    rw [hnext,al0,h];simp only [xv,kq,List.singleton_append,List.cons_append,List.nil_append]
   have hlen:(xv P S x R q).length = xs.length:=by rw [asb,hP,hS,hR];omega
   have gx:=av2 (P:=P) (R:=R) (x:=x) (q:=q) (S:=S) (by omega)
   rw [hP] at gx
   rcases q with _|q
   ·have e2:decide (((a + 0:Nat):Int) > (a:Int)) = false:=by simp
    have hf:=hfin hq2.symm
    (have zx:=za e2 hwi);refine zgo ?_;repeat' first|exact zt|apply zan|intro hc
    rw [hf]
    exact hL _ (i + 1) (Qd []) ⟨by omega,by omega⟩ (by omega) (zwg [])
   ·have hqS:q < S.length:=by omega
    have e2:decide (((a + (q + 1):Nat):Int) > (a:Int)) = true:=zn (by omega)
    have hwj:IntKind.i64.wrap (((a + (q + 1):Nat):Int) - 1) = ((a + q:Nat):Int):=by rw [Jc (by omega) (by omega)];omega
    have gy:=av1 (P:=P) (R:=R) (x:=x) (q:=q) (S:=S) hqS
    rw [hP] at gy
    have hset:=asa (P:=P) (R:=R) (x:=x) (q:=q) (S:=S) hqS
    rw [hP] at hset
    have hyd:S[q]? = some S[q]:=zd hqS
    have hym:S[q]∈xs:=hSm _ (zV hqS)
    rw [gK,hyd] at hq2
    dsimp only at hq2
    generalize S[q] = y at *
    have hcc:=(hcmp x hxm y hym).b
    have hd:=hlt2 x y
    have vx:(List.map Qa.v (xv P S x R (q + 1)))[a + (q + 1)]? = some (Qa.v x):=by rw [zo,gx];rfl
    have vy:(List.map Qa.v (xv P S x R (q + 1)))[a + q]? = some (Qa.v y):=by rw [zo,gy];rfl
    have hs1:((List.map Qa.v (xv P S x R (q + 1))).set (a + (q + 1)) (Qa.v y))[a + q]? = some (Qa.v y):=by
     rw [ZG (by omega),zo,gy];rfl
    have hs2:((List.map Qa.v (xv P S x R (q + 1))).set (a + (q + 1)) (Qa.v y)).set (a + q) (Qa.v x) = List.map Qa.v (xv P S x R q):=by
     rw [← hset,Zt,Zt]
    simp only [Qa.v,Qa.cells] at vx vy hs1 hs2 hcc
    rcases hl:lt x y with _|_
    ·rw [hl] at hd
     simp only [hl,zu,if_false] at hq2
     have hf:=hfin hq2.symm
     (have zx:=za e2 (za hwi (za hwj (za vx (za vy hd)))));refine zgo ?_;repeat' first|exact zt|apply zan|intro hc
     all_goals
      rw [hf]
      exact hL _ (i + 1) (Qd []) ⟨by omega,by omega⟩ (by omega) (zwg [])
    ·rw [hl] at hd
     simp only [hl,if_true] at hq2
     (have zx:=za e2 (za hwi (za hwj (za vx (za vy (za hd (za hs1 hs2)))))));refine zgo ?_;repeat' first|exact zt|apply zan|intro hc
     all_goals exact hL2 _ q (Qd []) ⟨by omega,hq2⟩ (by omega) (zwg [])
def Y7:List (List Nat):=[[],[0],[1],[2],[2],[2],[5,2],[4,6,2],[7,2],[2],[2],[9,10,2],[11,2],[3,8,12,2,2],[13,2],[14,2],[2,15]]
def Y4:OT:=och 0 17
@[go_sem] def J1:OP:=oN 0 (mv 81 1) (oN 1 (bc 82 .gtr 81 (V.int 0)) (oN 2 (mv 83 82) (oN 3 (mg 84 4 83 true) (oN 4 (mg 85 0 83 true) (oN 5 (mg 86 1 83 true) (oN 6 (xg 87 (.bin .sub (.t 86) (.c (V.int 1))) 83 true) (oN 7 (xg 88 (.iaddr 11 (.t 85) (.t 87)) 83 true) (oN 8 (xg 89 (.load true 11 (.t 88)) 83 true) (oN 9 (mg 90 0 83 true) (oN 10 (mg 91 13 83 true) (oN 11 (xg 92 (.iaddr 11 (.t 90) (.t 91)) 83 true) (oN 12 (xg 93 (.load true 11 (.t 92)) 83 true) (.one 13 true [] (xg 94 (.callv (.t 84) [(.t 89),(.t 93)]) 83 true) (oN 14 (xg 95 (.bin .lss (.t 94) (.c (V.int 0))) 83 true) (oN 15 (xg 96 (.un .not (.t 95)) 83 true) (oN 16 (xo 97 (.pick (.t 83) (.t 96) (.c (V.bool false)))) .done))))))))))))))))
def Y5:List AO:=aoO (J1)
instance:RG [13] Y4 (J1) (Y5) Y7 17 (fun _=>true):=⟨rfl,by kernel_rfl,by kernel_rfl⟩
def Ye (QB J7 JA JK JI Q4 Js J2 Xh:Nat):AC:=qP [0,1,2,3,4,10] (.reg [mc 10 (V.bool true)]) (qP [0,1,2,3,4,10,11] (.reg [mc 11 (V.bool true)]) (.block 0 (arM [0,1,2,3,4,10,11] (.block 1 (qP [0,1,2,3,4,10,11,12] (.reg [mv 21 2,mv 22 1,bn 23 .sub 21 22,mv 12 23]) (qP [0,1,2,3,4,10,11,12] (qP [0,1,2,3,4,10,11,12,25] (.reg [mv 24 12,bc 25 .leq 24 (V.int 12)]) (.cond (.t 25) (qP [] (.reg [mv 26 0,mv 27 1,mv 28 2,mv 29 4,cl 30 QB [26,27,28,29]]) .ret) .skip)) (qP [0,1,2,3,4,10,11,12] (qP [0,1,2,3,4,10,11,12,32] (.reg [mv 31 3,bc 32 .eql 31 (V.int 0)]) (.cond (.t 32) (qP [] (.reg [mv 33 0,mv 34 1,mv 35 2,mv 36 4,cl 37 J7 [33,34,35,36]]) .ret) .skip)) (qP [0,1,2,3,4,10,11,12] (qP [0,1,2,3,4,10,11,12,39] (.reg [mv 38 10,xo 39 (.un .not (.t 38))]) (.cond (.t 39) (qP [0,1,2,3,4,10,11,12] (.reg [mv 40 0,mv 41 1,mv 42 2,mv 43 4,cl 44 JA [40,41,42,43]]) (.reg [mv 45 3,bc 46 .sub 45 (V.int 1),mv 3 46])) .skip)) (qP [0,1,2,3,4,10,11,12,13,14] (.reg [mv 48 0,mv 49 1,mv 50 2,mv 51 4,cl 52 JK [48,49,50,51],mv 47 52,ex 53 47 0,ex 54 47 1,mv 13 53,mv 14 54]) (qP [0,1,2,3,4,10,11,12,13,14] (qP [0,1,2,3,4,10,11,12,13,14,56] (.reg [mv 55 14,bc 56 .eql 55 (V.int 2)]) (.cond (.t 56) (qP [0,1,2,3,4,10,11,12,13] (.reg [mv 57 0,mv 58 1,mv 59 2,mv 60 4,cl 61 JI [57,58,59,60]]) (qP [0,1,2,3,4,10,11,12,13] (.reg [mv 62 2,bc 63 .sub 62 (V.int 1),mv 64 13,mv 65 1,bn 66 .sub 64 65,bn 67 .sub 63 66,mv 13 67]) (.reg [mc 14 (V.int 1)]))) .skip)) (qP [0,1,2,3,4,10,11,12,13] (qP [0,1,2,3,4,10,11,12,13,75] (.reg [mv 68 10,mv 69 68,mg 70 11 69 true,xo 71 (.pick (.t 69) (.t 70) (.c (V.bool false))),mv 72 71,mg 73 14 72 true,xg 74 (.bin .eql (.t 73) (.c (V.int 1))) 72 true,xo 75 (.pick (.t 72) (.t 74) (.c (V.bool false)))]) (.cond (.t 75) (qP [0,1,2,3,4,10,11,12,13,80] (.reg [mv 76 0,mv 77 1,mv 78 2,mv 79 4,cl 80 Q4 [76,77,78,79]]) (.cond (.t 80) .ret .skip)) .skip)) (qP [0,1,2,3,4,12,13] (qP [0,1,2,3,4,10,11,12,13,97] (aw0 [13] Y4 (J1) (Y5) Y7) (.cond (.t 97) (qP [0,2,3,4,10,11,15] (.reg [mv 98 0,mv 99 1,mv 100 2,mv 101 13,mv 102 4,cl 103 Js [98,99,100,101,102],mv 15 103]) (qP [0,1,2,3,4,10,11] (.reg [mv 104 15,mv 1 104]) (.exit 1))) .skip)) (qP [0,1,2,3,4,12,16,17] (.reg [mv 106 0,mv 107 1,mv 108 2,mv 109 13,mv 110 4,cl 111 J2 [106,107,108,109,110],mv 105 111,ex 112 105 0,ex 113 105 1,mv 16 112,mv 17 113]) (qP [0,1,2,3,4,11,12,16] (.reg [mv 114 17,mv 11 114]) (qP [0,1,2,3,4,11,12,16,18,19] (.reg [mv 115 16,mv 116 1,bn 117 .sub 115 116,mv 118 2,mv 119 16,bn 120 .sub 118 119,mv 18 117,mv 19 120]) (qP [0,1,2,3,4,11,16,18,19,20] (.reg [mv 121 12,bc 122 .quo 121 (V.int 8),mv 20 122]) (qP [0,1,2,3,4,11,16,18,19,20,125] (.reg [mv 123 18,mv 124 19,bn 125 .lss 123 124]) (.cond (.t 125) (qP [0,1,2,3,4,10,11,16] (.reg [mv 126 18,mv 127 20,bn 128 .geq 126 127,mv 10 128]) (qP [0,2,3,4,10,11,16] (.reg [mv 129 0,mv 130 1,mv 131 16,mv 132 3,mv 133 4,cl 134 Xh [129,130,131,132,133]]) (.reg [mv 135 16,bc 136 .add 135 (V.int 1),mv 1 136]))) (qP [0,1,2,3,4,10,11,16] (.reg [mv 137 19,mv 138 20,bn 139 .geq 137 138,mv 10 139]) (qP [0,1,3,4,10,11,16] (.reg [mv 140 0,mv 141 16,bc 142 .add 141 (V.int 1),mv 143 2,mv 144 3,mv 145 4,cl 146 Xh [140,142,143,144,145]]) (.reg [mv 147 16,mv 2 147]))))))))))))))))))))) def bq:List Uh:=[]
def J8 (Γ:Env) (f:Nat):Prop:=∀ (xs:List Qa) (lim:Int) (g:Nat) (c:Qa→Qa→Int) (hcmp:∀ x∈xs,∀ y∈xs,EvN Γ g [Qa.v x,Qa.v y] (V.int (c x y))) (hx:xs.length≤12),EvL Γ f [V.int 0,V.int xs.length,V.int lim,.clo g []] 11 (xs.map Qa.v) (.tup []) (((Wo (fun x y=>decide (c x y < 0)) xs).map Qa.v))
theorem Uy {Γ:Env} {f QB J7 JA JK JI Q4 Js J2:Nat} (h:Has Γ.P f 148 (Ye QB J7 JA JK JI Q4 Js J2 f) bq) (z0:Jt Γ QB):J8 Γ f:=by
 intro xs lim g c hcmp hx
 refine je h (by simp) (by simp only [V.closed,Qb,V.noSl,Wi,and_self,and_true,true_and]) fun C hC hm=>?_
 subst hC
 unfold Ye
 have hi:=z0 xs 0 xs.length g c hcmp (by omega) (by omega) (by omega)
 rw [atY] at hi
 have hi0:EvL C.env QB [V.int 0,V.int xs.length,.clo g []] 11 (xs.map Qa.v) (.tup []) ((Wo (fun x y=>decide (c x y < 0)) xs).map Qa.v):=hi
 have hw:IntKind.i64.wrap ((xs.length:Int) - 0) = (xs.length:Int):=by rw [Jc (by omega) (by omega)];omega
 have e1:decide ((xs.length:Int)≤12) = true:=by simp;omega
 refine zgo ?_;repeat' first|exact zt|apply zan|intro hc
 refine ab7 ?_
 (have zx:=za hw e1);refine zgo ?_;repeat' first|exact zt|apply zan|intro hc
 all_goals first|(refine xC _ rfl rfl (by simp only [go_sem]) ?_;done)|(refine xC _ rfl rfl (by simp only [go_sem]) ?_;rfl)|(refine xC _ rfl rfl (by simp only [go_sem]) ?_<;>first|rfl|(simp;done))
def QM:=qd Proofs.Tryz.f74 []
def Jo (Γ:Env) (f:Nat):Prop:=∀ (xs:List Qa) (g:Nat) (c:Qa→Qa→Int) (hcmp:∀ x∈xs,∀ y∈xs,EvN Γ g [Qa.v x,Qa.v y] (V.int (c x y))) (hx:xs.length≤12),EvL Γ f [.clo g []] 11 (xs.map Qa.v) (.tup []) (((Wo (fun x y=>decide (c x y < 0)) xs).map Qa.v))
theorem Wj {Γ:Env} {f:Nat} (h:Has Γ.P f 14 QM.1.1.ac QM.1.2) (z0:UW Γ 143) (z1:J8 Γ 142):Jo Γ f:=by
 intro xs g c hcmp hx
 refine je h (by simp) (by simp only [V.closed,Qb,V.noSl,Wi,and_self,and_true,true_and]) fun C hC hm=>?_
 subst hC
 simp only [QM,qd,DC.ac]
 obtain ⟨lim,hlim⟩:=aqs z0 xs.length hx
 have hi:=z1 xs lim g c hcmp hx
 have e:((xs.map Qa.v).length:Int) = (xs.length:Int):=by simp
 have hb:=hlim.b
 have hw:IntKind.u64.wrap (xs.length:Int) = (xs.length:Int):=as5 (by omega) (by omega)
 (have zx:=za e hw);refine zgo ?_;repeat' first|exact zt|apply zan|intro hc
 all_goals first|(refine xC _ rfl rfl (by simp only [go_sem]) ?_;done)|(refine xC _ rfl rfl (by simp only [go_sem]) ?_;rfl)
def QQ:=qd Proofs.Tryz.f76 [zhn 10,zhn 10]
def Jr (Γ:Env) (f:Nat):Prop:=∀ (xs:List Qa) (hx:xs.length < 2 ^ 34),EvZ Γ f [] 11 (xs.map Qa.v) ((qR (fun x y:Qa ↦ x.src == y.src && (x.host == y.host && (x.mach == y.mach && (x.day == y.day && (x.conf == y.conf && (x.kind == y.kind && (x.subj == y.subj && (x.alg == y.alg && (x.bits == y.bits && (x.num == y.num && (x.text == y.text))))))))))) xs).length) ((qR (fun x y:Qa ↦ x.src == y.src && (x.host == y.host && (x.mach == y.mach && (x.day == y.day && (x.conf == y.conf && (x.kind == y.kind && (x.subj == y.subj && (x.alg == y.alg && (x.bits == y.bits && (x.num == y.num && (x.text == y.text))))))))))) xs).map Qa.v++List.replicate (xs.length - (qR (fun x y:Qa ↦ x.src == y.src && (x.host == y.host && (x.mach == y.mach && (x.day == y.day && (x.conf == y.conf && (x.kind == y.kind && (x.subj == y.subj && (x.alg == y.alg && (x.bits == y.bits && (x.num == y.num && (x.text == y.text))))))))))) xs).length) (V.agg [V.int 0,V.str [],V.int 0,V.int 0,V.int 0,V.int 0,V.str [],V.int 0,V.int 0,V.int 0,V.str []]))
attribute [local go_sem] QS in
theorem Wp {Γ:Env} {f:Nat} (h:Has Γ.P f 61 QQ.1.1.ac QQ.1.2) :Jr Γ f:=by
 intro xs hx
 refine ac3 h (by simp) fun C hC hm=>?_
 subst hC
 simp only [QQ,qd,DC.ac]
 have hlen:(xs.map Qa.v).length = xs.length:=zb _
 generalize heq:(fun x y:Qa=>x.src == y.src && (x.host == y.host && (x.mach == y.mach && (x.day == y.day && (x.conf == y.conf && (x.kind == y.kind && (x.subj == y.subj && (x.alg == y.alg && (x.bits == y.bits && (x.num == y.num && (x.text == y.text))))))))))) = eq
 have heq2:∀ x y:Qa,(x.src == y.src && (x.host == y.host && (x.mach == y.mach && (x.day == y.day && (x.conf == y.conf && (x.kind == y.kind && (x.subj == y.subj && (x.alg == y.alg && (x.bits == y.bits && (x.num == y.num && (x.text == y.text))))))))))) = eq x y:=fun x y=>by rw [← heq]
 by_cases h2:xs.length < 2
 ·have e1:decide (((xs.map Qa.v).length:Int) < 2) = true:=zn (by rw [hlen];omega)
  have hg:qR eq xs = xs:=by
   match xs,h2 with
   | [],_=>rfl
   | [x],_=>rfl
  rw [hg,k9]
  (have zx:=e1);refine zgo ?_;repeat' first|exact zt|apply zan|intro hc
  all_goals first|(refine agb _ rfl rfl rfl ?_ ?_<;>first|rfl|(simp;done))
 ·have e1:decide (((xs.map Qa.v).length:Int) < 2) = false:=zp (by rw [hlen];omega)
  (have zx:=e1);refine zgo ?_;repeat' first|exact zt|apply zan|intro hc
  refine Ji (ι:=Nat) (fun k=>1≤k∧k≤xs.length∧∃ p,xs[k - 1]? = some p∧qR eq xs = xs.take k++yg eq p (xs.drop k)) (fun k=>[(3,V.int k)]) (fun k=>xs.length - k) 1 (by omega) ⟨by omega,by omega,?_⟩ zol zlt zet fun k hk K' hL=>?_
  ·match xs,h2 with
   | x :: r,_=>exact ⟨x,rfl,rfl⟩
   | [],h2=>exact absurd (by simp) h2
  obtain ⟨hk1,hk2,p,hp,hinv⟩:=hk
  simp only [ovT,Xs,Nat.reduceEqDiff,reduceIte]
  by_cases hke:k = xs.length
  ·have e2:decide ((k:Int) < ((xs.map Qa.v).length:Int)) = false:=zp (by rw [hlen];omega)
   have hg:qR eq xs = xs:=by rw [hinv,hke,zG,Zv];simp [yg]
   rw [hg,k9]
   (have zx:=e2);refine zgo ?_;repeat' first|exact zt|apply zan|intro hc
   all_goals first|(refine agb _ rfl rfl rfl ?_ ?_<;>first|rfl|(simp;done))
  ·have e2:decide ((k:Int) < ((xs.map Qa.v).length:Int)) = true:=zn (by rw [hlen];omega)
   obtain ⟨y,hy⟩:∃ y,xs[k]? = some y:=⟨_,zd (by omega)⟩
   have hdy:xs.drop k = y :: xs.drop (k + 1):=by
    obtain ⟨h1,h2⟩:=zl.1 hy
    rw [zR h1,h2]
   rw [hdy,yg] at hinv
   have hw:=Qe (k:=k) (by omega)
   have hwm:IntKind.i64.wrap ((k:Int) - 1) = ((k - 1:Nat):Int):=by rw [Jc (by omega) (by omega)];omega
   have vy:(xs.map Qa.v)[k]? = some (Qa.v y):=by rw [zo,hy];rfl
   have vp:(xs.map Qa.v)[k - 1]? = some (Qa.v p):=by rw [zo,hp];rfl
   simp only [Qa.v,Qa.cells] at vy vp
   have hq:=heq2 y p
   have r1:((k:Int) < ((xs.map Qa.v).length:Int)) = True:=eq_true (by rw [hlen];omega)
   have r2:((k - 1:Nat):Int) < ((xs.map Qa.v).length:Int):=by rw [hlen];omega
   rcases hb:eq y p with _|_
   ·rw [hb] at hq
    simp only [hb,zu,if_false] at hinv
    (have zx:=za e2 (za hw (za hwm (za vy (za vp hq)))));refine zgo ?_;repeat' first|exact zt|apply zan|intro hc
    all_goals first
     | exact hL _ (k + 1) zet ⟨by omega,by omega,y,by rw [Zx];exact hy,by rw [hinv,zB,hy];simp⟩ (by omega) zoe
     | exact r2
   ·rw [hb] at hq
    simp only [hb,if_true] at hinv
    (have zx:=za e2 (za hw (za hwm (za vy (za vp hq)))));refine zgo ?_;repeat' first|exact zt|apply zan|intro hc
    all_goals first
     | exact r2
     | skip
    refine Qj (ι:=List Qa×Nat×Nat) (fun q=>q.1.length = xs.length∧1≤q.2.2∧k + q.2.2≤xs.length∧k≤q.2.1∧q.2.1≤k + q.2.2 - 1∧q.1.drop (k + q.2.2 - 1) = xs.drop (k + q.2.2 - 1)∧∃ z,xs[k + q.2.2 - 1]? = some z∧qR eq xs = q.1.take q.2.1++yg eq z (xs.drop (k + q.2.2)))
     (fun q=>QS [(0,.hd 0 0 (xs.map Qa.v).length),(3,V.int q.2.1),(4,.hd 0 k (xs.length - k)),(5,V.int q.2.2)] [(0,.buf true 11 (q.1.map Qa.v))] 1) (fun q=>xs.length - q.2.2) (xs,k,1)
     ⟨rfl,by simp only;omega,by simp only;omega,by simp only;omega,by simp only;omega,rfl,y,by simp only [Zx];exact hy,by rw [hinv]⟩ (Qd []) (Qh [] (by simp only [go_sem,zwl];first|done|(simp only [zb];(repeat' (first|rfl|apply za|omega|exact fun h=>h|exact Exists.intro _ rfl)))|(repeat' (first|rfl|apply za|omega|exact fun h=>h|exact Exists.intro _ rfl))) zwa (by simp) (by simp) (by omega)) fun q hq K2 hL2=>?_
    obtain ⟨B,w,j⟩:=q
    obtain ⟨hB,hj1,hj2,hw1,hw2,hdr,z,hz,hinv2⟩:=hq
    dsimp only at hB hj1 hj2 hw1 hw2 hdr hz hinv2
    have hBl:(B.map Qa.v).length = xs.length:=by rw [zb,hB]
    have hwj:=Qe (k:=j) (by omega)
    have hww:=Qe (k:=w) (by omega)
    by_cases hje:k + j = xs.length
    ·have e3:decide ((j:Int) < ((xs.length - k:Nat):Int)) = false:=zp (by omega)
     have hg:qR eq xs = B.take w:=by rw [hinv2,hje,Zv];simp [yg]
     have hgl:(qR eq xs).length = w:=by rw [hg,zU,hB];omega
     have r3:((w:Int)≤((xs.map Qa.v).length:Int)) = True:=eq_true (by rw [hlen];omega)
     rw [hgl,hg]
     (have zx:=e3);refine zgo ?_;repeat' first|exact zt|apply zan|intro hc
     all_goals first
      | (rw [hlen];omega)
      | (refine agb _ rfl rfl rfl ?_ ?_<;>first|rfl|(rw [Zs (by rw [hBl,hlen];omega),ka,kO,hlen];first|done|rfl)|(simp;done))
    ·have e3:decide ((j:Int) < ((xs.length - k:Nat):Int)) = true:=zn (by omega)
     obtain ⟨u,hu⟩:∃ u,xs[k + j]? = some u:=⟨_,zd (by omega)⟩
     have hdu:xs.drop (k + j) = u :: xs.drop (k + j + 1):=by
      obtain ⟨h1,h2⟩:=zl.1 hu
      rw [zR h1,h2]
     rw [hdu,yg] at hinv2
     have bz:B[k + (j - 1)]? = some z:=by
      have:(B.drop (k + j - 1))[0]? = (xs.drop (k + j - 1))[0]?:=by rw [hdr]
      rw [kI,kI,Nat.add_zero,hz] at this
      rw [← this];congr 1;omega
     have bu:B[k + j]? = some u:=by
      have:(B.drop (k + j - 1))[1]? = (xs.drop (k + j - 1))[1]?:=by rw [hdr]
      rw [kI,kI,show k + j - 1 + 1 = k + j by omega,hu] at this
      exact this
     have vz:(B.map Qa.v)[k + (j - 1)]? = some (Qa.v z):=by rw [zo,bz];rfl
     have vu:(B.map Qa.v)[k + j]? = some (Qa.v u):=by rw [zo,bu];rfl
     have bw:∃ t,B[w]? = some t:=⟨_,zd (by omega)⟩
     obtain ⟨t,bw⟩:=bw
     have vt:(B.map Qa.v)[w]? = some (Qa.v t):=by rw [zo,bw];rfl
     have hset:(B.map Qa.v).set w (Qa.v u) = (B.set w u).map Qa.v:=Zt.symm
     have hwm2:IntKind.i64.wrap ((j:Int) - 1) = ((j - 1:Nat):Int):=by rw [Jc (by omega) (by omega)];omega
     simp only [Qa.v,Qa.cells] at vz vu vt hset
     have hq:=heq2 u z
     have r4:(((w:Int)) < ((xs.map Qa.v).length:Int)) = True:=eq_true (by rw [hlen];omega)
     have r5:((j:Int) < ((xs.length - k:Nat):Int)) = True:=eq_true (by omega)
     have r6:((((j - 1:Nat):Int)) < ((xs.length - k:Nat):Int)) = True:=eq_true (by omega)
     rcases hb2:eq u z with _|_
     ·rw [hb2] at hq
      simp only [hb2,zu,if_false] at hinv2
      (have zx:=za e3 (za hwj (za hww (za hwm2 (za vz (za vu (za vt (za hset (za hq (za r4 (za r5 r6)))))))))));refine zgo ?_;repeat' first|exact zt|apply zan|intro hc
      all_goals first
       | exact hL2 _ (B.set w u,w + 1,j + 1) (Qd []) ⟨by simp only [zN];exact hB,by simp only;omega,by simp only;omega,by simp only;omega,by simp only;omega,by
          simp only
          rw [List.drop_set_of_lt (by omega),show k + (j + 1) - 1 = (k + j - 1) + 1 by omega,← kQ,hdr,kQ],u,by simp only;rw [show k + (j + 1) - 1 = k + j by omega];exact hu,by
          simp only
          rw [hinv2,show k + (j + 1) = k + j + 1 by omega,zB,Zf (by omega),List.take_set_of_le (zj _)];simp⟩ (by simp only;omega) (zwg [])
       | (rw [hlen];omega)
     ·rw [hb2] at hq
      simp only [hb2,if_true] at hinv2
      (have zx:=za e3 (za hwj (za hww (za hwm2 (za vz (za vu (za vt (za hset (za hq (za r4 (za r5 r6)))))))))));refine zgo ?_;repeat' first|exact zt|apply zan|intro hc
      all_goals first
       | exact hL2 _ (B,w,j + 1) (Qd []) ⟨hB,by simp only;omega,by simp only;omega,by simp only;omega,by simp only;omega,by
          simp only
          rw [show k + (j + 1) - 1 = (k + j - 1) + 1 by omega,← kQ,hdr,kQ],u,by simp only;rw [show k + (j + 1) - 1 = k + j by omega];exact hu,by simp only;rw [hinv2,show k + (j + 1) = k + j + 1 by omega]⟩ (by simp only;omega) (zwg [])
def agu (lt:Int→Int→Bool) (out:List Int) (x:Int):Nat→Nat
 | 0=>0
 | k + 1=>if lt x (out.getD k 0) = true then agu lt out x k else k + 1
theorem aoC (lt:Int→Int→Bool) (out:List Int) (x:Int):∀ k,agu lt out x k≤k
 | 0=>zj _
 | k + 1=>by
   rw [agu];split
   ·exact Zb (aoC lt out x k)
   ·exact zj _
def atS (lt:Int→Int→Bool) (out:List Int) (x:Int):List Int:=out.take (agu lt out x out.length)++[x]++out.drop (agu lt out x out.length)
def xm (lt:Int→Int→Bool) (l:List Int):List Int:=l.foldl (atS lt) []
theorem atR (lt:Int→Int→Bool) (out:List Int) (x:Int):(atS lt out x).length = out.length + 1:=by
 have:=aoC lt out x out.length
 simp [atS];omega
theorem ajJ (lt:Int→Int→Bool):∀ (l out:List Int),(l.foldl (atS lt) out).length = out.length + l.length
 | [],out=>by simp
 | x :: r,out=>by rw [List.foldl_cons,ajJ lt r,atR];simp;omega
theorem ale (lt:Int→Int→Bool) (l:List Int):(xm lt l).length = l.length:=by rw [xm,ajJ];simp
theorem aqW (lt:Int→Int→Bool) (x:Int):xm lt [x] = [x]:=by simp [xm,atS,agu]
abbrev ltS (x y:Int):Bool:=decide (ag8 y < ag8 x)
theorem ar1 (out:List Int) (x:Int):∀ k,agu ltS out x k = avX out x k
 | 0=>rfl
 | k + 1=>by rw [agu,avX,ar1 out x k];simp only [ltS,zC]
theorem avn (l:List Int):xm ltS l = aj6 l:=by
 have:atS ltS = aqE:=by funext out x;rw [atS,aqE,ar1]
 rw [xm,aj6,this]
def agr (lt:Int→Int→Bool) (xs:List Int) (a i:Nat):List Int:=xs.take a++(xm lt ((xs.take i).drop a)++xs.drop i)
def YW:=qd Proofs.Tryz.f28 []
def Ya (Γ:Env) (f:Nat):Prop:=∀ (l:List Int) (hl:l.length < 2 ^ 34),EvW Γ f [.sl 1 (l.map V.int)] 1 (l.map V.int)
theorem wX {Γ:Env} {f:Nat} (h:Has Γ.P f 8 YW.1.1.ac YW.1.2) :Ya Γ f:=by
 intro l hl
 refine Xi h (by simp) (by first|exact yf _|exact j9 _) fun C hC hm=>?_
 subst hC
 simp only [YW,qd,DC.ac]
 rcases l with _|⟨x,r⟩
 ·repeat' (first|(refine zsk ?_;intro K' hK)|refine zsp ?_|(refine zsc ?_ ?_<;>intro hc<;>first|exact znh|try simp only [znz] at hc)|simp (maxSteps:=1000000) only [go_sem]|(refine hK _ ?_;clear hK K')|apply zan|exact zsq|fail)
  intro t
  rcases t with _|_
  ·repeat' (first|(refine zsk ?_;intro K' hK)|refine zsp ?_|(refine zsc ?_ ?_<;>intro hc<;>first|exact znh|try simp only [znz] at hc)|simp (maxSteps:=1000000) only [go_sem]|(refine hK _ ?_;clear hK K')|apply zan|exact zsq|fail)
   all_goals (refine yK (xs:=[]) _ _ rfl ?_ ?_<;>first|rfl|(simp;done))
  ·repeat' (first|(refine zsk ?_;intro K' hK)|refine zsp ?_|(refine zsc ?_ ?_<;>intro hc<;>first|exact znh|try simp only [znz] at hc)|simp (maxSteps:=1000000) only [go_sem]|(refine hK _ ?_;clear hK K')|apply zan|exact zsq|fail)
   all_goals (refine yK (xs:=[]) _ _ rfl ?_ ?_<;>first|rfl|(simp;done))
 ·repeat' (first|(refine zsk ?_;intro K' hK)|refine zsp ?_|(refine zsc ?_ ?_<;>intro hc<;>first|exact znh|try simp only [znz] at hc)|simp (maxSteps:=1000000) only [go_sem]|(refine hK _ ?_;clear hK K')|apply zan|exact zsq|fail)
  all_goals first
   | (simp only [zb,List.length_cons] at hl ⊢;omega)
   | (refine yK (xs:=V.int x :: List.map V.int r) _ _ rfl ?_ ?_<;>first|rfl|(simp;done))
theorem arf {lt:Int→Int→Bool} {xs:List Int} {a:Nat} (h:a < xs.length):agr lt xs a (a + 1) = xs:=by
 have e:(xs.take (a + 1)).drop a = [xs[a]]:=by
  rw [zB,zd h,Zl (by simp;omega),Zs (by simp;omega)];rfl
 rw [agr,e,aqW,List.singleton_append,← zR h,kh]
def xk (P S:List Int) (x:Int) (R:List Int) (q:Nat):List Int:=P++(S.take q++x :: (S.drop q++R))
theorem aqS {P S R:List Int} {x:Int} {q:Nat}:(xk P S x R q).length = P.length + S.length + 1 + R.length:=by
 simp only [xk,zv,List.length_cons,zU,kF];omega
theorem avi {P S R:List Int} {x:Int} {q:Nat} (h:q≤S.length):(xk P S x R q)[P.length + q]? = some x:=by
 have:(S.take q).length = q:=by simp;omega
 rw [xk,ke (by omega),ke (by omega),this]
 simp
theorem avh {P S R:List Int} {x:Int} {q:Nat} (h:q < S.length):(xk P S x R (q + 1))[P.length + q]? = some S[q]:=by
 rw [xk,ke (by omega),kf (by simp;omega),ZN]
 simp [h]
theorem aqZ (S y x:Int) (T:List Int):∀ A:List Int,((A++y :: S :: T).set (A.length + 1) y).set A.length x = A++x :: y :: T
 | []=>rfl
 | z :: A=>by
   have:=aqZ S y x T A
   simp only [List.cons_append,List.length_cons,List.set_cons_succ,this]
theorem aqR {P S R:List Int} {x:Int} {q:Nat} (h:q < S.length):((xk P S x R (q + 1)).set (P.length + (q + 1)) S[q]).set (P.length + q) x = xk P S x R q:=by
 have e1:S.take (q + 1) = S.take q++[S[q]]:=by rw [zB,zd h];rfl
 have e2:S.drop q = S[q] :: S.drop (q + 1):=zR h
 have e3:(S.take q).length = q:=by simp;omega
 have e4:xk P S x R (q + 1) = (P++S.take q)++S[q] :: x :: (S.drop (q + 1)++R):=by rw [xk,e1];simp only [kq,List.cons_append,List.nil_append]
 have e5:xk P S x R q = (P++S.take q)++x :: S[q] :: (S.drop (q + 1)++R):=by rw [xk,e2];simp only [kq,List.cons_append,List.nil_append]
 have hl:(P++S.take q).length = P.length + q:=by rw [zv,e3]
 have hl2:P.length + (q + 1) = (P++S.take q).length + 1:=by omega
 rw [e4,e5,hl2,← hl]
 exact aqZ _ _ _ _ _
def JD:=qd Proofs.Tryz.f335 [⟨fun _=>false,[8,9,12,13,14,16],.one 0 (.one 1 (.one 2 (.one 3 (.one 4 (.one 5 (.one 6 (.one 7 (.one 10 (.one 11 (.or 8 (.or 9 (.one 12 (.one 13 (.one 14 (.one 15 (.one 16 (.one 17 (.done))))))) (.or 12 (.or 9 (.one 13 (.one 14 (.one 15 (.one 16 (.one 17 (.done)))))) (.or 13 (.one 9 (.one 14 (.one 15 (.one 16 (.one 17 (.done)))))) (.done))) (.done))) (.or 12 (.or 8 (.or 9 (.one 13 (.one 14 (.one 15 (.one 16 (.one 17 (.done)))))) (.or 13 (.one 9 (.one 14 (.one 15 (.one 16 (.one 17 (.done)))))) (.done))) (.or 13 (.one 8 (.one 9 (.one 14 (.one 15 (.one 16 (.one 17 (.done))))))) (.done))) (.done))))))))))))⟩,⟨fun _=>true,[14],zoc 0 17⟩]
def Yl (Γ:Env) (f:Nat):Prop:=∀ (xs:List Int) (a b:Nat) (g:Nat) (c:Int→Int→Int) (hcmp:∀ x y,EvN Γ g [V.int x,V.int y] (V.int (c x y))) (hab:a≤b) (hb:b≤xs.length) (hx:xs.length < 2 ^ 34),EvL Γ f [V.int a,V.int b,.clo g []] 1 (xs.map V.int) (.tup []) ((if a = b then xs.map V.int else (agr (fun x y=>decide (c x y < 0)) xs a b).map V.int))
attribute [local go_sem] QS in
theorem Kt {Γ:Env} {f:Nat} (h:Has Γ.P f 53 JD.1.1.ac JD.1.2) :Yl Γ f:=by
 intro xs a b g c hcmp hab hb hx
 refine je h (by simp) (by simp only [V.closed,Qb,V.noSl,Wi,and_self,and_true,true_and]) fun C hC hm=>?_
 subst hC
 simp only [JD,qd,DC.ac]
 have hwa:=Qe (k:=a) (by omega)
 by_cases he:a = b
 ·subst he
  rw [if_pos rfl]
  have e1:decide (((a + 1:Nat):Int) < (a:Int)) = false:=by simp;omega
  (have zx:=hwa);refine zgo ?_;repeat' first|exact zt|apply zan|intro hc
  refine Qj (ι:=Unit) (fun _=>True) (fun _=>QS [(0,.hd 0 0 (xs.map V.int).length),(1,V.int a),(2,V.int a),(3,.clo g []),(8,V.int (a + 1:Nat))] [(0,.buf true 1 (xs.map V.int))] 1) (fun _=>0) () trivial (Qd []) (zwg []) fun j hj K'' hL2=>?_
  (have zx:=e1);refine zgo ?_;repeat' first|exact zt|apply zan|intro hc
  all_goals first|(refine xC _ rfl rfl (by simp only [go_sem]) ?_<;>first|rfl|(simp;done))
 ·rw [if_neg he]
  (have zx:=hwa);refine zgo ?_;repeat' first|exact zt|apply zan|intro hc
  generalize hlt:(fun x y=>decide (c x y < 0)) = lt
  have hlt2:∀ x y,decide (c x y < 0) = lt x y:=by intro x y;rw [← hlt]
  refine Qj (ι:=Nat) (fun i=>a + 1≤i∧i≤b) (fun i=>QS [(0,.hd 0 0 (xs.map V.int).length),(1,V.int a),(2,V.int b),(3,.clo g []),(8,V.int i)] [(0,.buf true 1 ((agr lt xs a i).map V.int))] 1) (fun i=>b - i) (a + 1) ⟨by omega,by omega⟩ (Qd []) (Qh [] zwa (by rw [arf (by omega)];simp only [go_sem,zwl];(repeat' (first|rfl|apply za|omega|exact fun h=>h|exact Exists.intro _ rfl))) (by simp) (by simp) (by omega)) fun i hi K' hL=>?_
  obtain ⟨hi1,hi2⟩:=hi
  by_cases hib:i = b
  ·subst hib
   have e1:decide ((i:Int) < (i:Int)) = false:=by simp
   (have zx:=e1);refine zgo ?_;repeat' first|exact zt|apply zan|intro hc
   all_goals first|(refine xC _ rfl rfl (by simp only [go_sem]) ?_<;>first|rfl|(simp;done))
  ·have e1:decide ((i:Int) < (b:Int)) = true:=by simp;omega
   have hwi:=Qe (k:=i) (by omega)
   obtain ⟨x,hget⟩:∃ x,xs[i]? = some x:=⟨_,zd (by omega)⟩
   have hdx:xs.drop i = x :: xs.drop (i + 1):=by
    rw [zR (by omega)];congr 1
    rw [zd (by omega)] at hget;exact Z3 hget
   have hP:(xs.take a).length = a:=by simp;omega
   have hS:(xm lt ((xs.take i).drop a)).length = i - a:=by rw [ale];simp;omega
   have hnext:agr lt xs a (i + 1) = xs.take a++(atS lt (xm lt ((xs.take i).drop a)) x++xs.drop (i + 1)):=by
    have:(xs.take (i + 1)).drop a = (xs.take i).drop a++[x]:=by
     rw [zB,hget,Zl (by simp;omega)];rfl
    rw [agr,this,xm,ZE];rfl
   have hnow:agr lt xs a i = xk (xs.take a) (xm lt ((xs.take i).drop a)) x (xs.drop (i + 1)) (i - a):=by
    rw [agr,hdx,xk,← hS,zG,Zv];rfl
   have hcell:∀ q,xk (xs.take a) (xm lt ((xs.take i).drop a)) x (xs.drop (i + 1)) q = xk (xs.take a) (xm lt ((xs.take i).drop a)) x (xs.drop (i + 1)) q:=fun q=>rfl
   rw [hnow]
   generalize xm lt ((xs.take i).drop a) = S at *
   have hPg:=hP
   generalize xs.take a = P at *
   have hR:(xs.drop (i + 1)).length = xs.length - (i + 1):=kF
   generalize xs.drop (i + 1) = R at *
   (have zx:=e1);refine zgo ?_;repeat' first|exact zt|apply zan|intro hc
   refine Qj (ι:=Nat) (fun q=>q≤i - a∧agu lt S x q = agu lt S x S.length) (fun q=>QS [(0,.hd 0 0 (xs.map V.int).length),(1,V.int a),(2,V.int b),(3,.clo g []),(8,V.int i),(9,V.int (a + q:Nat))] [(0,.buf true 1 ((xk P S x R q).map V.int))] 1) (fun q=>q) (i - a) ⟨by omega,by rw [hS]⟩ (Qd []) (Qh [] (by rw [show a + (i - a) = i by omega];simp only [go_sem,zwl];(repeat' (first|rfl|apply za|omega|exact fun h=>h|exact Exists.intro _ rfl))) zwa (by simp) (by simp) (by omega)) fun q hq K'' hL2=>?_
   obtain ⟨hq1,hq2⟩:=hq
   have hfin:agu lt S x S.length = q→xk P S x R q = agr lt xs a (i + 1):=by
    intro h
    rw [hnext,atS,h];simp only [xk,kq,List.singleton_append,List.cons_append,List.nil_append]
   have hlen:(xk P S x R q).length = xs.length:=by rw [aqS,hP,hS,hR];omega
   have gx:=avi (P:=P) (R:=R) (x:=x) (q:=q) (S:=S) (by omega)
   rw [hP] at gx
   rcases q with _|q
   ·have e2:decide (((a + 0:Nat):Int) > (a:Int)) = false:=by simp
    have hf:=hfin hq2.symm
    (have zx:=za e2 hwi);refine zgo ?_;repeat' first|exact zt|apply zan|intro hc
    rw [hf]
    exact hL _ (i + 1) (Qd []) ⟨by omega,by omega⟩ (by omega) (zwg [])
   ·have hqS:q < S.length:=by omega
    have e2:decide (((a + (q + 1):Nat):Int) > (a:Int)) = true:=zn (by omega)
    have hwj:IntKind.i64.wrap (((a + (q + 1):Nat):Int) - 1) = ((a + q:Nat):Int):=by rw [Jc (by omega) (by omega)];omega
    have gy:=avh (P:=P) (R:=R) (x:=x) (q:=q) (S:=S) hqS
    rw [hP] at gy
    have hset:=aqR (P:=P) (R:=R) (x:=x) (q:=q) (S:=S) hqS
    rw [hP] at hset
    have hyd:S.getD q 0 = S[q]:=by rw [zI,zd hqS];rfl
    rw [agu,hyd] at hq2
    generalize S[q] = y at *
    have hcc:=(hcmp x y).b
    have hd:=hlt2 x y
    rcases hl:lt x y with _|_
    ·rw [hl] at hq2 hd
     simp only [zu,if_false] at hq2
     have hf:=hfin hq2.symm
     (have zx:=za e2 (za hwi (za hwj (za gx (za gy hd)))));refine zgo ?_;repeat' first|exact zt|apply zan|intro hc
     all_goals
      rw [hf]
      exact hL _ (i + 1) (Qd []) ⟨by omega,by omega⟩ (by omega) (zwg [])
    ·rw [hl] at hq2 hd
     simp only [if_true] at hq2
     have hs1:((List.map V.int (xk P S x R (q + 1))).set (a + (q + 1)) (V.int y))[a + q]? = some (V.int y):=by
      rw [ZG (by omega),zo,gy];rfl
     have hs2:((List.map V.int (xk P S x R (q + 1))).set (a + (q + 1)) (V.int y)).set (a + q) (V.int x) = List.map V.int (xk P S x R q):=by
      rw [← hset,Zt,Zt]
     (have zx:=za e2 (za hwi (za hwj (za gx (za gy (za hd (za hs1 hs2)))))));refine zgo ?_;repeat' first|exact zt|apply zan|intro hc
     all_goals exact hL2 _ q (Qd []) ⟨by omega,hq2⟩ (by omega) (zwg [])
theorem arg {lt:Int→Int→Bool} (xs:List Int):agr lt xs 0 xs.length = xm lt xs:=by simp [agr]
theorem avW (lt:Int→Int→Bool) (xs:List Int):(if 0 = xs.length then xs.map V.int else (agr lt xs 0 xs.length).map V.int) = (xm lt xs).map V.int:=by
 split
 ·rename_i h
  have:xs = []:=kE h.symm
  subst this;rfl
 ·rw [arg]
def Yx:=qd Proofs.Tryz.f327 []
def Xl (Γ:Env) (f:Nat):Prop:=∀ (xs:List Int) (g:Nat) (c:Int→Int→Int) (hcmp:∀ x y,EvN Γ g [V.int x,V.int y] (V.int (c x y))) (hx:xs.length≤20),EvL Γ f [V.int xs.length,.clo g []] 1 (xs.map V.int) (.tup []) (((xm (fun x y=>decide (c x y < 0)) xs).map V.int))
attribute [local go_sem] QS in
theorem xx {Γ:Env} {f:Nat} (h:Has Γ.P f 63 Yx.1.1.ac Yx.1.2) (z0:Yl Γ 335):Xl Γ f:=by
 intro xs g c hcmp hx
 refine je h (by simp) (by simp only [V.closed,Qb,V.noSl,Wi,and_self,and_true,true_and]) fun C hC hm=>?_
 subst hC
 simp only [Yx,qd,DC.ac]
 have hi:=z0 xs 0 xs.length g c hcmp (by omega) (by omega) (by omega)
 rw [avW] at hi
 have hi0:EvL C.env 335 [V.int 0,V.int xs.length,.clo g []] 1 (xs.map V.int) (.tup []) ((xm (fun x y=>decide (c x y < 0)) xs).map V.int):=hi
 have hln:(xm (fun x y=>decide (c x y < 0)) xs).length = xs.length:=ale _ _
 have e9:decide ((20:Int) < (xs.length:Int)) = false:=by simp;omega
 by_cases h20:xs.length = 20
 ·have hj:=z0 (xm (fun x y=>decide (c x y < 0)) xs) 20 20 g c hcmp (by omega) (by omega) (by omega)
  rw [if_pos rfl] at hj
  generalize xm (fun x y=>decide (c x y < 0)) xs = ys at *
  rw [h20] at hi0 e9 ⊢
  have hj0:EvL C.env 335 [V.int 20,V.int 20,.clo g []] 1 (ys.map V.int) (.tup []) (ys.map V.int):=hj
  have e20:((20:Nat):Int) = 20:=rfl
  rw [e20] at hi0 e9 ⊢
  refine zgo ?_;repeat' first|exact zt|apply zan|intro hc
  refine Qj (ι:=Bool) (fun _=>True) (fun t=>QS [(0,.hd 0 0 (xs.map V.int).length),(1,V.int 20),(2,.clo g []),(6,V.int 20),(7,V.int (if t then 0 else 20)),(8,V.int (if t then 20 else 40))] [(0,.buf true 1 ((if t then xs else ys).map V.int))] 1) (fun t=>if t then 1 else 0) true trivial (Qd []) (zwg []) fun t ht K' hL=>?_
  rcases t with _|_
  ·simp only [zu,if_false]
   refine zgo ?_;repeat' first|exact zt|apply zan|intro hc
   refine Qj (ι:=Unit) (fun _=>True) (fun _=>QS [(0,.hd 0 0 (xs.map V.int).length),(1,V.int 20),(2,.clo g []),(6,V.int 20)] [(0,.buf true 1 (ys.map V.int))] 1) (fun _=>0) () trivial (Qd []) (zwg []) fun u hu K'' hL2=>?_
   refine zgo ?_;repeat' first|exact zt|apply zan|intro hc
   all_goals first|(refine xC _ rfl rfl (by simp only [go_sem]) ?_;done)|(refine xC _ rfl rfl (by simp only [go_sem]) ?_;rfl)
  ·simp only [if_true]
   refine zgo ?_;repeat' first|exact zt|apply zan|intro hc
   all_goals exact hL _ false (Qd []) trivial (by simp) (zwg [])
 ·generalize xm (fun x y=>decide (c x y < 0)) xs = ys at *
  have e8:decide ((20:Int)≤(xs.length:Int)) = false:=by simp;omega
  refine zgo ?_;repeat' first|exact zt|apply zan|intro hc
  refine Qj (ι:=Unit) (fun _=>True) (fun _=>QS [(0,.hd 0 0 (xs.map V.int).length),(1,V.int xs.length),(2,.clo g []),(6,V.int 20),(7,V.int 0),(8,V.int 20)] [(0,.buf true 1 (xs.map V.int))] 1) (fun _=>0) () trivial (Qd []) (zwg []) fun u hu K' hL=>?_
  (have zx:=e8);refine zgo ?_;repeat' first|exact zt|apply zan|intro hc
  refine Qj (ι:=Unit) (fun _=>True) (fun _=>QS [(0,.hd 0 0 (xs.map V.int).length),(1,V.int xs.length),(2,.clo g []),(6,V.int 20)] [(0,.buf true 1 (ys.map V.int))] 1) (fun _=>0) () trivial (Qd []) (zwg []) fun u hu K' hL=>?_
  (have zx:=e9);refine zgo ?_;repeat' first|exact zt|apply zan|intro hc
  all_goals first|(refine xC _ rfl rfl (by simp only [go_sem]) ?_;done)|(refine xC _ rfl rfl (by simp only [go_sem]) ?_;rfl)
def JE:=qd Proofs.Tryz.f312 []
def Ym (Γ:Env) (f:Nat):Prop:=∀ (xs:List Int) (g:Nat) (c:Int→Int→Int) (hcmp:∀ x y,EvN Γ g [V.int x,V.int y] (V.int (c x y))) (hx:xs.length≤20),EvL Γ f [.clo g []] 1 (xs.map V.int) (.tup []) (((xm (fun x y=>decide (c x y < 0)) xs).map V.int))
theorem Ku {Γ:Env} {f:Nat} (h:Has Γ.P f 9 JE.1.1.ac JE.1.2) (z0:Xl Γ 327):Ym Γ f:=by
 intro xs g c hcmp hx
 refine je h (by simp) (by simp only [V.closed,Qb,V.noSl,Wi,and_self,and_true,true_and]) fun C hC hm=>?_
 subst hC
 simp only [JE,qd,DC.ac]
 have hi:=z0 xs g c hcmp hx
 have e:((xs.map V.int).length:Int) = (xs.length:Int):=by simp
 (have zx:=e);refine zgo ?_;repeat' first|exact zt|apply zan|intro hc
 all_goals first|(refine xC _ rfl rfl (by simp only [go_sem]) ?_;done)|(refine xC _ rfl rfl (by simp only [go_sem]) ?_;rfl)
theorem aji (c:Int):0≤ag8 c∧ag8 c≤512:=by
 unfold ag8;split
 ·exact aiM _ _
 ·exact ⟨by omega,by omega⟩
def W5:=qd Proofs.Tryz.f313 []
def U8 (Γ:Env) (f:Nat):Prop:=∀ (x y:Int),EvN Γ f [V.int x,V.int y] (V.int (ag8 y - ag8 x))
theorem acN {Γ:Env} {f:Nat} (h:Has Γ.P f 10 W5.1.1.ac W5.1.2) (z0:Vy Γ 314):U8 Γ f:=by
 intro x y
 refine Qc h zsi zcl zcl fun C hC hm=>?_
 subst hC
 simp only [W5,qd,DC.ac]
 have h1:=aji x
 have h2:=aji y
 have hw:IntKind.i64.wrap (ag8 y - ag8 x) = ag8 y - ag8 x:=Jc (by omega) (by omega)
 (have zx:=hw);refine zgo ?_;repeat' first|exact zt|apply zan|intro hc
 all_goals (refine Qg _ rfl ?_;simp only [go_sem])
def UC:=qd Proofs.Tryz.f281 []
def ju (Γ:Env) (f:Nat):Prop:=∀ (l:List Int) (hl:l.length≤20),EvW Γ f [.sl 1 (l.map V.int)] 1 ((aj6 l).map V.int)
theorem afb {Γ:Env} {f:Nat} (h:Has Γ.P f 9 UC.1.1.ac UC.1.2) (z0:Ya Γ 28) (z1:Ym Γ 312) (z2:U8 Γ 313):ju Γ f:=by
 intro l hl
 refine Xi h (by simp) (by first|exact yf _|exact j9 _) fun C hC hm=>?_
 subst hC
 simp only [UC,qd,DC.ac]
 have hs:=z1 l 313 (fun x y=>ag8 y - ag8 x) (fun x y=>z2 x y) hl
 have e:(fun x y:Int=>decide (ag8 y - ag8 x < 0)) = ltS:=by
  funext x y;simp only [ltS];congr 1;apply propext;omega
 rw [e,avn] at hs
 have hln:=ald l
 refine zgo ?_;repeat' first|exact zt|apply zan|intro hc
 all_goals first|(refine yK _ _ rfl ?_ ?_<;>first|rfl|(simp;done)|(simp only [zb];omega))
end Av
end
