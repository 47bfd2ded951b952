/- K24 -/
import Derived.Test.YtlpaikjhphkioaaGreatK20
import Derived.Test.YtlpaikjhphkioaaGreatK23
import Derived.Test.YtlpaikjhphkioaaGreatK12
import Derived.Test.YtlpaikjhphkioaaGreatK22
set_option linter.unusedVariables false
set_option linter.unusedSimpArgs false
noncomputable section
set_option maxRecDepth 10000
set_option maxHeartbeats 4000000
namespace Av
open Go
attribute [local irreducible] AWp Uv qW xf awS awC abB awQ acd QZ UL aa2 awR Kc awB okR yu ris
def QO:=qd Proofs.Tryz.f153 [⟨fun _=>false,[8,9,12,13,14,16],.one 0 (.one 1 (.one 2 (.one 3 (.one 4 (.one 5 (.one 6 (.one 7 (.one 10 (.one 11 (.or 8 (.or 9 (.one 12 (.one 13 (.one 14 (.one 15 (.one 16 (.one 17 (.done))))))) (.or 12 (.or 9 (.one 13 (.one 14 (.one 15 (.one 16 (.one 17 (.done)))))) (.or 13 (.one 9 (.one 14 (.one 15 (.one 16 (.one 17 (.done)))))) (.done))) (.done))) (.or 12 (.or 8 (.or 9 (.one 13 (.one 14 (.one 15 (.one 16 (.one 17 (.done)))))) (.or 13 (.one 9 (.one 14 (.one 15 (.one 16 (.one 17 (.done)))))) (.done))) (.or 13 (.one 8 (.one 9 (.one 14 (.one 15 (.one 16 (.one 17 (.done))))))) (.done))) (.done))))))))))))⟩,⟨fun _=>true,[14],zoc 0 17⟩]
def Jj (Γ:Env) (f:Nat):Prop:=∀ (xs:List Qc) (a b:Nat) (g:Nat) (c:Qc→Qc→Int) (hcmp:∀ x∈xs,∀ y∈xs,EvN Γ g [Qc.v x,Qc.v y] (V.int (c x y))) (hab:a≤b) (hb:b≤xs.length) (hx:xs.length < 2 ^ 34),EvL Γ f [V.int a,V.int b,.clo g []] 8 (xs.map Qc.v) (.tup []) ((if a = b then xs.map Qc.v else (yC (fun x y=>decide (c x y < 0)) xs a b).map Qc.v))
attribute [local go_sem] Ju in
theorem XT {Γ:Env} {f:Nat} (h:Has Γ.P f 53 QO.1.1.ac QO.1.2) :Jj Γ f:=by
 intro xs a b g c hcmp hab hb hx
 refine UG h (by simp) (by simp only [V.closed,Qd,V.noSl,WP,and_self,and_true,true_and]) fun C hC hm=>?_
 subst hC
 simp only [QO,qd,DC.ac]
 have hwa:=Qf (k:=a) (by omega)
 by_cases he:a = b
 ·subst he
  rw [if_pos rfl]
  have e1:decide (((a + 1:Nat):Int) < (a:Int)) = false:=by simp;omega
  (have zx:=hwa);refine zgo ?_;repeat' first|exact zt|apply zan|intro hc
  refine Qo (ι:=Unit) (fun _=>True) (fun _=>Ju [(0,.hd 0 0 (xs.map Qc.v).length),(1,V.int a),(2,V.int a),(3,.clo g []),(8,V.int (a + 1:Nat))] [(0,.buf true 8 (xs.map Qc.v))] 1) (fun _=>0) () trivial (Qe []) (zwg []) fun j hj K'' hL2=>?_
  (have zx:=e1);refine zgo ?_;repeat' first|exact zt|apply zan|intro hc
  all_goals first|(refine jb _ rfl rfl (by simp only [go_sem]) ?_<;>first|rfl|(simp;done))
 ·rw [if_neg he]
  (have zx:=hwa);refine zgo ?_;repeat' first|exact zt|apply zan|intro hc
  generalize hlt:(fun x y=>decide (c x y < 0)) = lt
  have hlt2:∀ x y,decide (c x y < 0) = lt x y:=by intro x y;rw [← hlt]
  refine Qo (ι:=Nat) (fun i=>a + 1≤i∧i≤b) (fun i=>Ju [(0,.hd 0 0 (xs.map Qc.v).length),(1,V.int a),(2,V.int b),(3,.clo g []),(8,V.int i)] [(0,.buf true 8 ((yC lt xs a i).map Qc.v))] 1) (fun i=>b - i) (a + 1) ⟨by omega,by omega⟩ (Qe []) (Qg [] zwa (by rw [ahT (by omega)];simp only [go_sem,zwl];(repeat' (first|rfl|apply za|omega|exact fun h=>h|exact Exists.intro _ rfl))) (by simp) (by simp) (by omega)) fun i hi K' hL=>?_
  obtain ⟨hi1,hi2⟩:=hi
  by_cases hib:i = b
  ·subst hib
   have e1:decide ((i:Int) < (i:Int)) = false:=by simp
   (have zx:=e1);refine zgo ?_;repeat' first|exact zt|apply zan|intro hc
   all_goals first|(refine jb _ rfl rfl (by simp only [go_sem]) ?_<;>first|rfl|(simp;done))
  ·have e1:decide ((i:Int) < (b:Int)) = true:=by simp;omega
   have hwi:=Qf (k:=i) (by omega)
   obtain ⟨x,hget⟩:∃ x,xs[i]? = some x:=⟨_,zd (by omega)⟩
   have hxm:x∈xs:=zu hget
   have hdx:xs.drop i = x :: xs.drop (i + 1):=by
    rw [kj (by omega)];congr 1
    rw [zd (by omega)] at hget;exact ZD hget
   have hP:(xs.take a).length = a:=by simp;omega
   have hS:(Xx lt ((xs.take i).drop a)).length = i - a:=by rw [aaj];simp;omega
   have hSm:∀ y∈Xx lt ((xs.take i).drop a),y∈xs:=fun y hy=>zD (zG (adK.1 hy))
   have hnext:yC lt xs a (i + 1) = xs.take a++(adL lt (Xx lt ((xs.take i).drop a)) x++xs.drop (i + 1)):=by
    have:(xs.take (i + 1)).drop a = (xs.take i).drop a++[x]:=by
     rw [zO,hget,Zm (by simp;omega)];rfl
    rw [yC,this,Xx,Zo];rfl
   have hnow:yC lt xs a i = X6 (xs.take a) (Xx lt ((xs.take i).drop a)) x (xs.drop (i + 1)) (i - a):=by
    rw [yC,hdx,X6,← hS,zR,ZX];rfl
   rw [hnow]
   generalize Xx lt ((xs.take i).drop a) = S at *
   have hPg:=hP
   generalize xs.take a = P at *
   have hR:(xs.drop (i + 1)).length = xs.length - (i + 1):=kf
   generalize xs.drop (i + 1) = R at *
   (have zx:=e1);refine zgo ?_;repeat' first|exact zt|apply zan|intro hc
   refine Qo (ι:=Nat) (fun q=>q≤i - a∧gK lt S x q = gK lt S x S.length) (fun q=>Ju [(0,.hd 0 0 (xs.map Qc.v).length),(1,V.int a),(2,V.int b),(3,.clo g []),(8,V.int i),(9,V.int (a + q:Nat))] [(0,.buf true 8 ((X6 P S x R q).map Qc.v))] 1) (fun q=>q) (i - a) ⟨by omega,by rw [hS]⟩ (Qe []) (Qg [] (by rw [show a + (i - a) = i by omega];simp only [go_sem,zwl];(repeat' (first|rfl|apply za|omega|exact fun h=>h|exact Exists.intro _ rfl))) zwa (by simp) (by simp) (by omega)) fun q hq K'' hL2=>?_
   obtain ⟨hq1,hq2⟩:=hq
   have hfin:gK lt S x S.length = q→X6 P S x R q = yC lt xs a (i + 1):=by
    intro h
    rw [hnext,adL,h];simp only [X6,kE,List.singleton_append,List.cons_append,List.nil_append]
   have hlen:(X6 P S x R q).length = xs.length:=by rw [ahR,hP,hS,hR];omega
   have gx:=anA (P:=P) (R:=R) (x:=x) (q:=q) (S:=S) (by omega)
   rw [hP] at gx
   rcases q with _|q
   ·have e2:decide (((a + 0:Nat):Int) > (a:Int)) = false:=by simp
    have hf:=hfin hq2.symm
    (have zx:=za e2 hwi);refine zgo ?_;repeat' first|exact zt|apply zan|intro hc
    rw [hf]
    exact hL _ (i + 1) (Qe []) ⟨by omega,by omega⟩ (by omega) (zwg [])
   ·have hqS:q < S.length:=by omega
    have e2:decide (((a + (q + 1):Nat):Int) > (a:Int)) = true:=zo (by omega)
    have hwj:IntKind.i64.wrap (((a + (q + 1):Nat):Int) - 1) = ((a + q:Nat):Int):=by rw [QG (by omega) (by omega)];omega
    have gy:=anz (P:=P) (R:=R) (x:=x) (q:=q) (S:=S) hqS
    rw [hP] at gy
    have hset:=ahQ (P:=P) (R:=R) (x:=x) (q:=q) (S:=S) hqS
    rw [hP] at hset
    have hyd:S[q]? = some S[q]:=zd hqS
    have hym:S[q]∈xs:=hSm _ (zZ hqS)
    rw [gK,hyd] at hq2
    dsimp only at hq2
    generalize S[q] = y at *
    have hcc:=(hcmp x hxm y hym).b
    have hd:=hlt2 x y
    have vx:(List.map Qc.v (X6 P S x R (q + 1)))[a + (q + 1)]? = some (Qc.v x):=by rw [zf,gx];rfl
    have vy:(List.map Qc.v (X6 P S x R (q + 1)))[a + q]? = some (Qc.v y):=by rw [zf,gy];rfl
    have hs1:((List.map Qc.v (X6 P S x R (q + 1))).set (a + (q + 1)) (Qc.v y))[a + q]? = some (Qc.v y):=by
     rw [ZT (by omega),zf,gy];rfl
    have hs2:((List.map Qc.v (X6 P S x R (q + 1))).set (a + (q + 1)) (Qc.v y)).set (a + q) (Qc.v x) = List.map Qc.v (X6 P S x R q):=by
     rw [← hset,Zu,Zu]
    simp only [Qc.v,Qc.cells] at vx vy hs1 hs2 hcc
    rcases hl:lt x y with _|_
    ·rw [hl] at hd
     simp only [hl,zB,if_false] at hq2
     have hf:=hfin hq2.symm
     (have zx:=za e2 (za hwi (za hwj (za vx (za vy hd)))));refine zgo ?_;repeat' first|exact zt|apply zan|intro hc
     all_goals
      rw [hf]
      exact hL _ (i + 1) (Qe []) ⟨by omega,by omega⟩ (by omega) (zwg [])
    ·rw [hl] at hd
     simp only [hl,if_true] at hq2
     (have zx:=za e2 (za hwi (za hwj (za vx (za vy (za hd (za hs1 hs2)))))));refine zgo ?_;repeat' first|exact zt|apply zan|intro hc
     all_goals exact hL2 _ q (Qe []) ⟨by omega,hq2⟩ (by omega) (zwg [])
def YL:List (List Nat):=[[],[0],[1],[2],[2],[2],[5,2],[4,6,2],[7,2],[2],[2],[9,10,2],[11,2],[3,8,12,2,2],[13,2],[14,2],[2,15]]
def YJ:OT:=och 0 17
@[go_sem] def JI:OP:=oN 0 (mv 81 1) (oN 1 (bc 82 .gtr 81 (V.int 0)) (oN 2 (mv 83 82) (oN 3 (mg 84 4 83 true) (oN 4 (mg 85 0 83 true) (oN 5 (mg 86 1 83 true) (oN 6 (xg 87 (.bin .sub (.t 86) (.c (V.int 1))) 83 true) (oN 7 (xg 88 (.iaddr 8 (.t 85) (.t 87)) 83 true) (oN 8 (xg 89 (.load true 8 (.t 88)) 83 true) (oN 9 (mg 90 0 83 true) (oN 10 (mg 91 13 83 true) (oN 11 (xg 92 (.iaddr 8 (.t 90) (.t 91)) 83 true) (oN 12 (xg 93 (.load true 8 (.t 92)) 83 true) (.one 13 true [] (xg 94 (.callv (.t 84) [(.t 89),(.t 93)]) 83 true) (oN 14 (xg 95 (.bin .lss (.t 94) (.c (V.int 0))) 83 true) (oN 15 (xg 96 (.un .not (.t 95)) 83 true) (oN 16 (xo 97 (.pick (.t 83) (.t 96) (.c (V.bool false)))) .done))))))))))))))))
def YK:List AO:=aoO (JI)
instance:RG [13] YJ (JI) (YK) YL 17 (fun _=>true):=⟨rfl,by kernel_rfl,by kernel_rfl⟩
def J3 (Qz JU Jo JB Jw QY Ji JK YY:Nat):AC:=JN [0,1,2,3,4,10] (.reg [mc 10 (V.bool true)]) (JN [0,1,2,3,4,10,11] (.reg [mc 11 (V.bool true)]) (.block 0 (ahD [0,1,2,3,4,10,11] (.block 1 (JN [0,1,2,3,4,10,11,12] (.reg [mv 21 2,mv 22 1,bn 23 .sub 21 22,mv 12 23]) (JN [0,1,2,3,4,10,11,12] (JN [0,1,2,3,4,10,11,12,25] (.reg [mv 24 12,bc 25 .leq 24 (V.int 12)]) (.cond (.t 25) (JN [] (.reg [mv 26 0,mv 27 1,mv 28 2,mv 29 4,cl 30 Qz [26,27,28,29]]) .ret) .skip)) (JN [0,1,2,3,4,10,11,12] (JN [0,1,2,3,4,10,11,12,32] (.reg [mv 31 3,bc 32 .eql 31 (V.int 0)]) (.cond (.t 32) (JN [] (.reg [mv 33 0,mv 34 1,mv 35 2,mv 36 4,cl 37 JU [33,34,35,36]]) .ret) .skip)) (JN [0,1,2,3,4,10,11,12] (JN [0,1,2,3,4,10,11,12,39] (.reg [mv 38 10,xo 39 (.un .not (.t 38))]) (.cond (.t 39) (JN [0,1,2,3,4,10,11,12] (.reg [mv 40 0,mv 41 1,mv 42 2,mv 43 4,cl 44 Jo [40,41,42,43]]) (.reg [mv 45 3,bc 46 .sub 45 (V.int 1),mv 3 46])) .skip)) (JN [0,1,2,3,4,10,11,12,13,14] (.reg [mv 48 0,mv 49 1,mv 50 2,mv 51 4,cl 52 JB [48,49,50,51],mv 47 52,ex 53 47 0,ex 54 47 1,mv 13 53,mv 14 54]) (JN [0,1,2,3,4,10,11,12,13,14] (JN [0,1,2,3,4,10,11,12,13,14,56] (.reg [mv 55 14,bc 56 .eql 55 (V.int 2)]) (.cond (.t 56) (JN [0,1,2,3,4,10,11,12,13] (.reg [mv 57 0,mv 58 1,mv 59 2,mv 60 4,cl 61 Jw [57,58,59,60]]) (JN [0,1,2,3,4,10,11,12,13] (.reg [mv 62 2,bc 63 .sub 62 (V.int 1),mv 64 13,mv 65 1,bn 66 .sub 64 65,bn 67 .sub 63 66,mv 13 67]) (.reg [mc 14 (V.int 1)]))) .skip)) (JN [0,1,2,3,4,10,11,12,13] (JN [0,1,2,3,4,10,11,12,13,75] (.reg [mv 68 10,mv 69 68,mg 70 11 69 true,xo 71 (.pick (.t 69) (.t 70) (.c (V.bool false))),mv 72 71,mg 73 14 72 true,xg 74 (.bin .eql (.t 73) (.c (V.int 1))) 72 true,xo 75 (.pick (.t 72) (.t 74) (.c (V.bool false)))]) (.cond (.t 75) (JN [0,1,2,3,4,10,11,12,13,80] (.reg [mv 76 0,mv 77 1,mv 78 2,mv 79 4,cl 80 QY [76,77,78,79]]) (.cond (.t 80) .ret .skip)) .skip)) (JN [0,1,2,3,4,12,13] (JN [0,1,2,3,4,10,11,12,13,97] (apW [13] YJ (JI) (YK) YL) (.cond (.t 97) (JN [0,2,3,4,10,11,15] (.reg [mv 98 0,mv 99 1,mv 100 2,mv 101 13,mv 102 4,cl 103 Ji [98,99,100,101,102],mv 15 103]) (JN [0,1,2,3,4,10,11] (.reg [mv 104 15,mv 1 104]) (.exit 1))) .skip)) (JN [0,1,2,3,4,12,16,17] (.reg [mv 106 0,mv 107 1,mv 108 2,mv 109 13,mv 110 4,cl 111 JK [106,107,108,109,110],mv 105 111,ex 112 105 0,ex 113 105 1,mv 16 112,mv 17 113]) (JN [0,1,2,3,4,11,12,16] (.reg [mv 114 17,mv 11 114]) (JN [0,1,2,3,4,11,12,16,18,19] (.reg [mv 115 16,mv 116 1,bn 117 .sub 115 116,mv 118 2,mv 119 16,bn 120 .sub 118 119,mv 18 117,mv 19 120]) (JN [0,1,2,3,4,11,16,18,19,20] (.reg [mv 121 12,bc 122 .quo 121 (V.int 8),mv 20 122]) (JN [0,1,2,3,4,11,16,18,19,20,125] (.reg [mv 123 18,mv 124 19,bn 125 .lss 123 124]) (.cond (.t 125) (JN [0,1,2,3,4,10,11,16] (.reg [mv 126 18,mv 127 20,bn 128 .geq 126 127,mv 10 128]) (JN [0,2,3,4,10,11,16] (.reg [mv 129 0,mv 130 1,mv 131 16,mv 132 3,mv 133 4,cl 134 YY [129,130,131,132,133]]) (.reg [mv 135 16,bc 136 .add 135 (V.int 1),mv 1 136]))) (JN [0,1,2,3,4,10,11,16] (.reg [mv 137 19,mv 138 20,bn 139 .geq 137 138,mv 10 139]) (JN [0,1,3,4,10,11,16] (.reg [mv 140 0,mv 141 16,bc 142 .add 141 (V.int 1),mv 143 2,mv 144 3,mv 145 4,cl 146 YY [140,142,143,144,145]]) (.reg [mv 147 16,mv 2 147]))))))))))))))))))))) def bs:List Kx:=[]
def JY (Γ:Env) (f:Nat):Prop:=∀ (xs:List Qc) (lim:Int) (g:Nat) (c:Qc→Qc→Int) (hcmp:∀ x∈xs,∀ y∈xs,EvN Γ g [Qc.v x,Qc.v y] (V.int (c x y))) (hx:xs.length≤12),EvL Γ f [V.int 0,V.int xs.length,V.int lim,.clo g []] 8 (xs.map Qc.v) (.tup []) (((Xx (fun x y=>decide (c x y < 0)) xs).map Qc.v))
theorem VI {Γ:Env} {f Qz JU Jo JB Jw QY Ji JK:Nat} (h:Has Γ.P f 148 (J3 Qz JU Jo JB Jw QY Ji JK f) bs) (z0:Jj Γ Qz):JY Γ f:=by
 intro xs lim g c hcmp hx
 refine UG h (by simp) (by simp only [V.closed,Qd,V.noSl,WP,and_self,and_true,true_and]) fun C hC hm=>?_
 subst hC
 unfold J3
 have hi:=z0 xs 0 xs.length g c hcmp (by omega) (by omega) (by omega)
 rw [aks] at hi
 have hi0:EvL C.env Qz [V.int 0,V.int xs.length,.clo g []] 8 (xs.map Qc.v) (.tup []) ((Xx (fun x y=>decide (c x y < 0)) xs).map Qc.v):=hi
 have hw:IntKind.i64.wrap ((xs.length:Int) - 0) = (xs.length:Int):=by rw [QG (by omega) (by omega)];omega
 have e1:decide ((xs.length:Int)≤12) = true:=by simp;omega
 refine zgo ?_;repeat' first|exact zt|apply zan|intro hc
 refine yG ?_
 (have zx:=za hw e1);refine zgo ?_;repeat' first|exact zt|apply zan|intro hc
 all_goals first|(refine jb _ rfl rfl (by simp only [go_sem]) ?_;done)|(refine jb _ rfl rfl (by simp only [go_sem]) ?_;rfl)|(refine jb _ rfl rfl (by simp only [go_sem]) ?_<;>first|rfl|(simp;done))
def QV:=qd Proofs.Tryz.f91 []
def Js (Γ:Env) (f:Nat):Prop:=∀ (xs:List Qc) (g:Nat) (c:Qc→Qc→Int) (hcmp:∀ x∈xs,∀ y∈xs,EvN Γ g [Qc.v x,Qc.v y] (V.int (c x y))) (hx:xs.length≤12),EvL Γ f [.clo g []] 8 (xs.map Qc.v) (.tup []) (((Xx (fun x y=>decide (c x y < 0)) xs).map Qc.v))
theorem X7 {Γ:Env} {f:Nat} (h:Has Γ.P f 14 QV.1.1.ac QV.1.2) (z0:Xv Γ 117) (z1:JY Γ 116):Js Γ f:=by
 intro xs g c hcmp hx
 refine UG h (by simp) (by simp only [V.closed,Qd,V.noSl,WP,and_self,and_true,true_and]) fun C hC hm=>?_
 subst hC
 simp only [QV,qd,DC.ac]
 obtain ⟨lim,hlim⟩:=afO z0 xs.length hx
 have hi:=z1 xs lim g c hcmp hx
 have e:((xs.map Qc.v).length:Int) = (xs.length:Int):=by simp
 have hb:=hlim.b
 have hw:IntKind.u64.wrap (xs.length:Int) = (xs.length:Int):=ajQ (by omega) (by omega)
 (have zx:=za e hw);refine zgo ?_;repeat' first|exact zt|apply zan|intro hc
 all_goals first|(refine jb _ rfl rfl (by simp only [go_sem]) ?_;done)|(refine jb _ rfl rfl (by simp only [go_sem]) ?_;rfl)
def Ja:=qd Proofs.Tryz.f172 [⟨fun _=>false,[8,9,12,13,14,16],.one 0 (.one 1 (.one 2 (.one 3 (.one 4 (.one 5 (.one 6 (.one 7 (.one 10 (.one 11 (.or 8 (.or 9 (.one 12 (.one 13 (.one 14 (.one 15 (.one 16 (.one 17 (.done))))))) (.or 12 (.or 9 (.one 13 (.one 14 (.one 15 (.one 16 (.one 17 (.done)))))) (.or 13 (.one 9 (.one 14 (.one 15 (.one 16 (.one 17 (.done)))))) (.done))) (.done))) (.or 12 (.or 8 (.or 9 (.one 13 (.one 14 (.one 15 (.one 16 (.one 17 (.done)))))) (.or 13 (.one 9 (.one 14 (.one 15 (.one 16 (.one 17 (.done)))))) (.done))) (.or 13 (.one 8 (.one 9 (.one 14 (.one 15 (.one 16 (.one 17 (.done))))))) (.done))) (.done))))))))))))⟩,zhn 15]
def JL (Γ:Env) (f:Nat):Prop:=∀ (xs:List Int) (a b:Nat) (hab:a≤b) (hb:b≤xs.length) (hx:xs.length < 2 ^ 34),EvL Γ f [V.int a,V.int b] 1 (xs.map V.int) (.tup []) ((if a = b then xs.map V.int else (yC (fun x y:Int=>decide (x < y)) xs a b).map V.int))
attribute [local go_sem] Ju in
theorem VC {Γ:Env} {f:Nat} (h:Has Γ.P f 49 Ja.1.1.ac Ja.1.2) (z0:X2 Γ 131):JL Γ f:=by
 intro xs a b hab hb hx
 refine UG h (by simp) (by simp only [V.closed,Qd,V.noSl,WP,and_self,and_true,true_and]) fun C hC hm=>?_
 subst hC
 simp only [Ja,qd,DC.ac]
 have hwa:=Qf (k:=a) (by omega)
 by_cases he:a = b
 ·subst he
  rw [if_pos rfl]
  have e1:decide (((a + 1:Nat):Int) < (a:Int)) = false:=by simp;omega
  (have zx:=hwa);refine zgo ?_;repeat' first|exact zt|apply zan|intro hc
  refine Qo (ι:=Unit) (fun _=>True) (fun _=>Ju [(0,.hd 0 0 (xs.map V.int).length),(1,V.int a),(2,V.int a),(6,V.int (a + 1:Nat))] [(0,.buf true 1 (xs.map V.int))] 1) (fun _=>0) () trivial (Qe []) (zwg []) fun j hj K'' hL2=>?_
  (have zx:=e1);refine zgo ?_;repeat' first|exact zt|apply zan|intro hc
  all_goals first|(refine jb _ rfl rfl (by simp only [go_sem]) ?_<;>first|rfl|(simp;done))
 ·rw [if_neg he]
  (have zx:=hwa);refine zgo ?_;repeat' first|exact zt|apply zan|intro hc
  generalize hlt:(fun x y:Int=>decide (x < y)) = lt
  have hlt2:∀ x y:Int,decide (x < y) = lt x y:=by intro x y;rw [← hlt]
  refine Qo (ι:=Nat) (fun i=>a + 1≤i∧i≤b) (fun i=>Ju [(0,.hd 0 0 (xs.map V.int).length),(1,V.int a),(2,V.int b),(6,V.int i)] [(0,.buf true 1 ((yC lt xs a i).map V.int))] 1) (fun i=>b - i) (a + 1) ⟨by omega,by omega⟩ (Qe []) (Qg [] zwa (by rw [ahT (by omega)];simp only [go_sem,zwl];(repeat' (first|rfl|apply za|omega|exact fun h=>h|exact Exists.intro _ rfl))) (by simp) (by simp) (by omega)) fun i hi K' hL=>?_
  obtain ⟨hi1,hi2⟩:=hi
  by_cases hib:i = b
  ·subst hib
   have e1:decide ((i:Int) < (i:Int)) = false:=by simp
   (have zx:=e1);refine zgo ?_;repeat' first|exact zt|apply zan|intro hc
   all_goals first|(refine jb _ rfl rfl (by simp only [go_sem]) ?_<;>first|rfl|(simp;done))
  ·have e1:decide ((i:Int) < (b:Int)) = true:=by simp;omega
   have hwi:=Qf (k:=i) (by omega)
   obtain ⟨x,hget⟩:∃ x,xs[i]? = some x:=⟨_,zd (by omega)⟩
   have hxm:x∈xs:=zu hget
   have hdx:xs.drop i = x :: xs.drop (i + 1):=by
    rw [kj (by omega)];congr 1
    rw [zd (by omega)] at hget;exact ZD hget
   have hP:(xs.take a).length = a:=by simp;omega
   have hS:(Xx lt ((xs.take i).drop a)).length = i - a:=by rw [aaj];simp;omega
   have hSm:∀ y∈Xx lt ((xs.take i).drop a),y∈xs:=fun y hy=>zD (zG (adK.1 hy))
   have hnext:yC lt xs a (i + 1) = xs.take a++(adL lt (Xx lt ((xs.take i).drop a)) x++xs.drop (i + 1)):=by
    have:(xs.take (i + 1)).drop a = (xs.take i).drop a++[x]:=by
     rw [zO,hget,Zm (by simp;omega)];rfl
    rw [yC,this,Xx,Zo];rfl
   have hnow:yC lt xs a i = X6 (xs.take a) (Xx lt ((xs.take i).drop a)) x (xs.drop (i + 1)) (i - a):=by
    rw [yC,hdx,X6,← hS,zR,ZX];rfl
   rw [hnow]
   generalize Xx lt ((xs.take i).drop a) = S at *
   have hPg:=hP
   generalize xs.take a = P at *
   have hR:(xs.drop (i + 1)).length = xs.length - (i + 1):=kf
   generalize xs.drop (i + 1) = R at *
   (have zx:=e1);refine zgo ?_;repeat' first|exact zt|apply zan|intro hc
   refine Qo (ι:=Nat) (fun q=>q≤i - a∧gK lt S x q = gK lt S x S.length) (fun q=>Ju [(0,.hd 0 0 (xs.map V.int).length),(1,V.int a),(2,V.int b),(6,V.int i),(7,V.int (a + q:Nat))] [(0,.buf true 1 ((X6 P S x R q).map V.int))] 1) (fun q=>q) (i - a) ⟨by omega,by rw [hS]⟩ (Qe []) (Qg [] (by rw [show a + (i - a) = i by omega];simp only [go_sem,zwl];(repeat' (first|rfl|apply za|omega|exact fun h=>h|exact Exists.intro _ rfl))) zwa (by simp) (by simp) (by omega)) fun q hq K'' hL2=>?_
   obtain ⟨hq1,hq2⟩:=hq
   have hfin:gK lt S x S.length = q→X6 P S x R q = yC lt xs a (i + 1):=by
    intro h
    rw [hnext,adL,h];simp only [X6,kE,List.singleton_append,List.cons_append,List.nil_append]
   have hlen:(X6 P S x R q).length = xs.length:=by rw [ahR,hP,hS,hR];omega
   have gx:=anA (P:=P) (R:=R) (x:=x) (q:=q) (S:=S) (by omega)
   rw [hP] at gx
   rcases q with _|q
   ·have e2:decide (((a + 0:Nat):Int) > (a:Int)) = false:=by simp
    have hf:=hfin hq2.symm
    (have zx:=za e2 hwi);refine zgo ?_;repeat' first|exact zt|apply zan|intro hc
    rw [hf]
    exact hL _ (i + 1) (Qe []) ⟨by omega,by omega⟩ (by omega) (zwg [])
   ·have hqS:q < S.length:=by omega
    have e2:decide (((a + (q + 1):Nat):Int) > (a:Int)) = true:=zo (by omega)
    have hwj:IntKind.i64.wrap (((a + (q + 1):Nat):Int) - 1) = ((a + q:Nat):Int):=by rw [QG (by omega) (by omega)];omega
    have gy:=anz (P:=P) (R:=R) (x:=x) (q:=q) (S:=S) hqS
    rw [hP] at gy
    have hset:=ahQ (P:=P) (R:=R) (x:=x) (q:=q) (S:=S) hqS
    rw [hP] at hset
    have hyd:S[q]? = some S[q]:=zd hqS
    have hym:S[q]∈xs:=hSm _ (zZ hqS)
    rw [gK,hyd] at hq2
    dsimp only at hq2
    generalize S[q] = y at *
    have hcc:=(z0 x y).b
    have hd:=hlt2 x y
    have vx:(List.map V.int (X6 P S x R (q + 1)))[a + (q + 1)]? = some (V.int x):=by rw [zf,gx];rfl
    have vy:(List.map V.int (X6 P S x R (q + 1)))[a + q]? = some (V.int y):=by rw [zf,gy];rfl
    have hs1:((List.map V.int (X6 P S x R (q + 1))).set (a + (q + 1)) (V.int y))[a + q]? = some (V.int y):=by
     rw [ZT (by omega),zf,gy];rfl
    have hs2:((List.map V.int (X6 P S x R (q + 1))).set (a + (q + 1)) (V.int y)).set (a + q) (V.int x) = List.map V.int (X6 P S x R q):=by
     rw [← hset,Zu,Zu]
    rcases hl:lt x y with _|_
    ·rw [hl] at hd
     simp only [hl,zB,if_false] at hq2
     have hf:=hfin hq2.symm
     (have zx:=za e2 (za hwi (za hwj (za vx (za vy hd)))));refine zgo ?_;repeat' first|exact zt|apply zan|intro hc
     all_goals
      rw [hf]
      exact hL _ (i + 1) (Qe []) ⟨by omega,by omega⟩ (by omega) (zwg [])
    ·rw [hl] at hd
     simp only [hl,if_true] at hq2
     (have zx:=za e2 (za hwi (za hwj (za vx (za vy (za hd (za hs1 hs2)))))));refine zgo ?_;repeat' first|exact zt|apply zan|intro hc
     all_goals exact hL2 _ q (Qe []) ⟨by omega,hq2⟩ (by omega) (zwg [])
def Xu:List (List Nat):=[[],[0],[1],[2],[2],[4,2],[3,5,2],[6,2],[2],[2],[8,9,2],[10,2],[7,11,2,2],[12,2],[2,13]]
def Xn:OT:=och 0 15
@[go_sem] def Ys (Jn:Nat):OP:=oN 0 (mv 73 1) (oN 1 (bc 74 .gtr 73 (V.int 0)) (oN 2 (mv 75 74) (oN 3 (mg 76 0 75 true) (oN 4 (mg 77 1 75 true) (oN 5 (xg 78 (.bin .sub (.t 77) (.c (V.int 1))) 75 true) (oN 6 (xg 79 (.iaddr 1 (.t 76) (.t 78)) 75 true) (oN 7 (xg 80 (.load false 1 (.t 79)) 75 true) (oN 8 (mg 81 0 75 true) (oN 9 (mg 82 11 75 true) (oN 10 (xg 83 (.iaddr 1 (.t 81) (.t 82)) 75 true) (oN 11 (xg 84 (.load false 1 (.t 83)) 75 true) (oN 12 (xg 85 (.call Jn [(.t 80),(.t 84)]) 75 true) (oN 13 (xg 86 (.un .not (.t 85)) 75 true) (oN 14 (xo 87 (.pick (.t 75) (.t 86) (.c (V.bool false)))) .done))))))))))))))
def Xq (Jn:Nat):List AO:=aoO (Ys Jn)
instance (Jn:Nat):RG [] Xn (Ys Jn) (Xq Jn) Xu 15 (fun _=>true):=⟨rfl,by kernel_rfl,by kernel_rfl⟩
def YG (QM Yx JV J9 J2 Jd Jn JJ Yt XS:Nat):AC:=JN [0,1,2,3,8] (.reg [mc 8 (V.bool true)]) (JN [0,1,2,3,8,9] (.reg [mc 9 (V.bool true)]) (.block 0 (ahD [0,1,2,3,8,9] (.block 1 (JN [0,1,2,3,8,9,10] (.reg [mv 19 2,mv 20 1,bn 21 .sub 19 20,mv 10 21]) (JN [0,1,2,3,8,9,10] (JN [0,1,2,3,8,9,10,23] (.reg [mv 22 10,bc 23 .leq 22 (V.int 12)]) (.cond (.t 23) (JN [] (.reg [mv 24 0,mv 25 1,mv 26 2,cl 27 QM [24,25,26]]) .ret) .skip)) (JN [0,1,2,3,8,9,10] (JN [0,1,2,3,8,9,10,29] (.reg [mv 28 3,bc 29 .eql 28 (V.int 0)]) (.cond (.t 29) (JN [] (.reg [mv 30 0,mv 31 1,mv 32 2,cl 33 Yx [30,31,32]]) .ret) .skip)) (JN [0,1,2,3,8,9,10] (JN [0,1,2,3,8,9,10,35] (.reg [mv 34 8,xo 35 (.un .not (.t 34))]) (.cond (.t 35) (JN [0,1,2,3,8,9,10] (.reg [mv 36 0,mv 37 1,mv 38 2,cl 39 JV [36,37,38]]) (.reg [mv 40 3,bc 41 .sub 40 (V.int 1),mv 3 41])) .skip)) (JN [0,1,2,3,8,9,10,11,12] (.reg [mv 43 0,mv 44 1,mv 45 2,cl 46 J9 [43,44,45],mv 42 46,ex 47 42 0,ex 48 42 1,mv 11 47,mv 12 48]) (JN [0,1,2,3,8,9,10,11,12] (JN [0,1,2,3,8,9,10,11,12,50] (.reg [mv 49 12,bc 50 .eql 49 (V.int 2)]) (.cond (.t 50) (JN [0,1,2,3,8,9,10,11] (.reg [mv 51 0,mv 52 1,mv 53 2,cl 54 J2 [51,52,53]]) (JN [0,1,2,3,8,9,10,11] (.reg [mv 55 2,bc 56 .sub 55 (V.int 1),mv 57 11,mv 58 1,bn 59 .sub 57 58,bn 60 .sub 56 59,mv 11 60]) (.reg [mc 12 (V.int 1)]))) .skip)) (JN [0,1,2,3,8,9,10,11] (JN [0,1,2,3,8,9,10,11,68] (.reg [mv 61 8,mv 62 61,mg 63 9 62 true,xo 64 (.pick (.t 62) (.t 63) (.c (V.bool false))),mv 65 64,mg 66 12 65 true,xg 67 (.bin .eql (.t 66) (.c (V.int 1))) 65 true,xo 68 (.pick (.t 65) (.t 67) (.c (V.bool false)))]) (.cond (.t 68) (JN [0,1,2,3,8,9,10,11,72] (.reg [mv 69 0,mv 70 1,mv 71 2,cl 72 Jd [69,70,71]]) (.cond (.t 72) .ret .skip)) .skip)) (JN [0,1,2,3,10,11] (JN [0,1,2,3,8,9,10,11,87] (apW [] Xn (Ys Jn) (Xq Jn) Xu) (.cond (.t 87) (JN [0,2,3,8,9,13] (.reg [mv 88 0,mv 89 1,mv 90 2,mv 91 11,cl 92 JJ [88,89,90,91],mv 13 92]) (JN [0,1,2,3,8,9] (.reg [mv 93 13,mv 1 93]) (.exit 1))) .skip)) (JN [0,1,2,3,10,14,15] (.reg [mv 95 0,mv 96 1,mv 97 2,mv 98 11,cl 99 Yt [95,96,97,98],mv 94 99,ex 100 94 0,ex 101 94 1,mv 14 100,mv 15 101]) (JN [0,1,2,3,9,10,14] (.reg [mv 102 15,mv 9 102]) (JN [0,1,2,3,9,10,14,16,17] (.reg [mv 103 14,mv 104 1,bn 105 .sub 103 104,mv 106 2,mv 107 14,bn 108 .sub 106 107,mv 16 105,mv 17 108]) (JN [0,1,2,3,9,14,16,17,18] (.reg [mv 109 10,bc 110 .quo 109 (V.int 8),mv 18 110]) (JN [0,1,2,3,9,14,16,17,18,113] (.reg [mv 111 16,mv 112 17,bn 113 .lss 111 112]) (.cond (.t 113) (JN [0,1,2,3,8,9,14] (.reg [mv 114 16,mv 115 18,bn 116 .geq 114 115,mv 8 116]) (JN [0,2,3,8,9,14] (.reg [mv 117 0,mv 118 1,mv 119 14,mv 120 3,cl 121 XS [117,118,119,120]]) (.reg [mv 122 14,bc 123 .add 122 (V.int 1),mv 1 123]))) (JN [0,1,2,3,8,9,14] (.reg [mv 124 17,mv 125 18,bn 126 .geq 124 125,mv 8 126]) (JN [0,1,3,8,9,14] (.reg [mv 127 0,mv 128 14,bc 129 .add 128 (V.int 1),mv 130 2,mv 131 3,cl 132 XS [127,129,130,131]]) (.reg [mv 133 14,mv 2 133]))))))))))))))))))))) def bv:List Kx:=[]
def YA (Γ:Env) (f:Nat):Prop:=∀ (xs:List Int) (lim:Int) (hx:xs.length≤12),EvL Γ f [V.int 0,V.int xs.length,V.int lim] 1 (xs.map V.int) (.tup []) (((Xx (fun x y:Int=>decide (x < y)) xs).map V.int))
theorem KF {Γ:Env} {f QM Yx JV J9 J2 Jd Jn JJ Yt:Nat} (h:Has Γ.P f 134 (YG QM Yx JV J9 J2 Jd Jn JJ Yt f) bv) (z0:JL Γ QM) (z1:X2 Γ Jn):YA Γ f:=by
 intro xs lim hx
 refine UG h (by simp) (by simp only [V.closed,Qd,V.noSl,WP,and_self,and_true,true_and]) fun C hC hm=>?_
 subst hC
 unfold YG
 have hi:=z0 xs 0 xs.length (by omega) (by omega) (by omega)
 rw [aks] at hi
 have hi0:EvL C.env QM [V.int 0,V.int xs.length] 1 (xs.map V.int) (.tup []) ((Xx (fun x y:Int=>decide (x < y)) xs).map V.int):=hi
 have hw:IntKind.i64.wrap ((xs.length:Int) - 0) = (xs.length:Int):=by rw [QG (by omega) (by omega)];omega
 have e1:decide ((xs.length:Int)≤12) = true:=by simp;omega
 refine zgo ?_;repeat' first|exact zt|apply zan|intro hc
 refine yG ?_
 (have zx:=za hw e1);refine zgo ?_;repeat' first|exact zt|apply zan|intro hc
 all_goals first|(refine jb _ rfl rfl (by simp only [go_sem]) ?_;done)|(refine jb _ rfl rfl (by simp only [go_sem]) ?_;rfl)|(refine jb _ rfl rfl (by simp only [go_sem]) ?_<;>first|rfl|(simp;done))
def Yz:=qd Proofs.Tryz.f112 []
def Xc (Γ:Env) (f:Nat):Prop:=∀ (xs:List Int) (hx:xs.length≤12),EvL Γ f [] 1 (xs.map V.int) (.tup []) (((Xx (fun x y:Int=>decide (x < y)) xs).map V.int))
theorem j9 {Γ:Env} {f:Nat} (h:Has Γ.P f 11 Yz.1.1.ac Yz.1.2) (z0:Xv Γ 117) (z1:YA Γ 135):Xc Γ f:=by
 intro xs hx
 refine UG h (by simp) (by simp only [V.closed,Qd,V.noSl,WP,and_self,and_true,true_and]) fun C hC hm=>?_
 subst hC
 simp only [Yz,qd,DC.ac]
 obtain ⟨lim,hlim⟩:=afO z0 xs.length hx
 have hi:=z1 xs lim hx
 have e:((xs.map V.int).length:Int) = (xs.length:Int):=by simp
 have hb:=hlim.b
 have hw:IntKind.u64.wrap (xs.length:Int) = (xs.length:Int):=ajQ (by omega) (by omega)
 (have zx:=za e hw);refine zgo ?_;repeat' first|exact zt|apply zan|intro hc
 all_goals first|(refine jb _ rfl rfl (by simp only [go_sem]) ?_;done)|(refine jb _ rfl rfl (by simp only [go_sem]) ?_;rfl)
section
variable {α:Type}
def adJ (eq:α→α→Bool):α→List α→List α
 | _,[]=>[]
 | p,x :: r=>if eq x p = true then adJ eq x r else x :: adJ eq x r
def adM (eq:α→α→Bool):List α→List α
 | []=>[]
 | x :: r=>x :: adJ eq x r
end
def J5:=qd Proofs.Tryz.f113 [zhn 10,zhn 10]
def YH (Γ:Env) (f:Nat):Prop:=∀ (xs:List Int) (hx:xs.length < 2 ^ 34),EvZ Γ f [] 1 (xs.map V.int) ((adM (fun x y:Int ↦ x == y) xs).length) ((adM (fun x y:Int ↦ x == y) xs).map V.int++List.replicate (xs.length - (adM (fun x y:Int ↦ x == y) xs).length) (V.int 0))
theorem qq {Γ:Env} {f:Nat} (h:Has Γ.P f 61 J5.1.1.ac J5.1.2) :YH Γ f:=by
 intro xs hx
 refine ad3 h (by simp) fun C hC hm=>?_
 subst hC
 simp only [J5,qd,DC.ac]
 have hlen:(xs.map V.int).length = xs.length:=zb _
 generalize heq:(fun x y:Int=>x == y) = eq
 have heq2:∀ x y:Int,(x == y) = eq x y:=fun x y=>by rw [← heq]
 by_cases h2:xs.length < 2
 ·have e1:decide (((xs.map V.int).length:Int) < 2) = true:=zo (by rw [hlen];omega)
  have hg:adM eq xs = xs:=by
   match xs,h2 with
   | [],_=>rfl
   | [x],_=>rfl
  rw [hg,kH]
  repeat' (first|(refine zsk ?_;intro K' hK)|(refine zrg ?_;intro K' hK)|refine zsp ?_|(refine zsc ?_ ?_<;>intro hc<;>first|exact znh|try simp only [znz] at hc)|simp (maxSteps:=1000000) only [go_sem,e1]|(refine hK _ ?_;clear hK K')|apply zan|exact zsq|fail)
  all_goals first|(refine ah8 _ rfl rfl rfl ?_ ?_<;>first|rfl|(simp;done))
 ·have e1:decide (((xs.map V.int).length:Int) < 2) = false:=zp (by rw [hlen];omega)
  repeat' (first|(refine zsk ?_;intro K' hK)|(refine zrg ?_;intro K' hK)|refine zsp ?_|(refine zsc ?_ ?_<;>intro hc<;>first|exact znh|try simp only [znz] at hc)|simp (maxSteps:=1000000) only [go_sem,e1]|(refine hK _ ?_;clear hK K')|apply zan|exact zsq|fail)
  refine Qx (ι:=Nat) (fun k=>1≤k∧k≤xs.length∧∃ p,xs[k - 1]? = some p∧adM eq xs = xs.take k++adJ eq p (xs.drop k)) (fun k=>[(3,V.int k)]) (fun k=>xs.length - k) 1 (by omega) ⟨by omega,by omega,?_⟩ zol zlt zet fun k hk K' hL=>?_
  ·match xs,h2 with
   | x :: r,_=>exact ⟨x,rfl,rfl⟩
   | [],h2=>exact absurd (by simp) h2
  obtain ⟨hk1,hk2,p,hp,hinv⟩:=hk
  simp only [ovT,JQ,Nat.reduceEqDiff,reduceIte]
  by_cases hke:k = xs.length
  ·have e2:decide ((k:Int) < ((xs.map V.int).length:Int)) = false:=zp (by rw [hlen];omega)
   have hg:adM eq xs = xs:=by rw [hinv,hke,zR,ZX];simp [adJ]
   rw [hg,kH]
   repeat' (first|(refine zsk ?_;intro K' hK)|(refine zrg ?_;intro K' hK)|refine zsp ?_|(refine zsc ?_ ?_<;>intro hc<;>first|exact znh|try simp only [znz] at hc)|simp (maxSteps:=1000000) only [go_sem,e2]|(refine hK _ ?_;clear hK K')|apply zan|exact zsq|fail)
   all_goals first|(refine ah8 _ rfl rfl rfl ?_ ?_<;>first|rfl|(simp;done))
  ·have e2:decide ((k:Int) < ((xs.map V.int).length:Int)) = true:=zo (by rw [hlen];omega)
   obtain ⟨y,hy⟩:∃ y,xs[k]? = some y:=⟨_,zd (by omega)⟩
   have hdy:xs.drop k = y :: xs.drop (k + 1):=by
    obtain ⟨h1,h2⟩:=zn.1 hy
    rw [kj h1,h2]
   rw [hdy,adJ] at hinv
   have hw:=Qf (k:=k) (by omega)
   have hwm:IntKind.i64.wrap ((k:Int) - 1) = ((k - 1:Nat):Int):=by rw [QG (by omega) (by omega)];omega
   have vy:(xs.map V.int)[k]? = some (V.int y):=by rw [zf,hy];rfl
   have vp:(xs.map V.int)[k - 1]? = some (V.int p):=by rw [zf,hp];rfl
   skip
   have hq:=heq2 y p
   have r1:((k:Int) < ((xs.map V.int).length:Int)) = True:=eq_true (by rw [hlen];omega)
   have r2:((k - 1:Nat):Int) < ((xs.map V.int).length:Int):=by rw [hlen];omega
   rcases hb:eq y p with _|_
   ·rw [hb] at hq
    simp only [hb,zB,if_false] at hinv
    repeat' (first|(refine zsk ?_;intro K' hK)|(refine zrg ?_;intro K' hK)|refine zsp ?_|(refine zsc ?_ ?_<;>intro hc<;>first|exact znh|try simp only [znz] at hc)|simp (maxSteps:=1000000) only [go_sem,e2,hw,hwm,Int.toNat_natCast,vy,vp,hq]|(refine hK _ ?_;clear hK K')|apply zan|exact zsq|fail)
    all_goals first
     | exact hL _ (k + 1) zet ⟨by omega,by omega,y,by rw [Nat.add_sub_cancel];exact hy,by rw [hinv,zO,hy];simp⟩ (by omega) zoe
     | exact r2
   ·rw [hb] at hq
    simp only [hb,if_true] at hinv
    repeat' (first|(refine zsk ?_;intro K' hK)|(refine zrg ?_;intro K' hK)|refine zsp ?_|(refine zsc ?_ ?_<;>intro hc<;>first|exact znh|try simp only [znz] at hc)|simp (maxSteps:=1000000) only [go_sem,e2,hw,hwm,Int.toNat_natCast,vy,vp,hq]|(refine hK _ ?_;clear hK K')|apply zan|exact zsq|fail)
    all_goals first
     | exact r2
     | skip
    refine Qo (ι:=List Int×Nat×Nat) (fun q=>q.1.length = xs.length∧1≤q.2.2∧k + q.2.2≤xs.length∧k≤q.2.1∧q.2.1≤k + q.2.2 - 1∧q.1.drop (k + q.2.2 - 1) = xs.drop (k + q.2.2 - 1)∧∃ z,xs[k + q.2.2 - 1]? = some z∧adM eq xs = q.1.take q.2.1++adJ eq z (xs.drop (k + q.2.2)))
     (fun q=>Ju [(0,.hd 0 0 (xs.map V.int).length),(3,V.int q.2.1),(4,.hd 0 k (xs.length - k)),(5,V.int q.2.2)] [(0,.buf true 1 (q.1.map V.int))] 1) (fun q=>xs.length - q.2.2) (xs,k,1)
     ⟨rfl,by simp only;omega,by simp only;omega,by simp only;omega,by simp only;omega,rfl,y,by simp only [Nat.add_sub_cancel];exact hy,by rw [hinv]⟩ (Qe []) (Qg [] (by simp only [go_sem,zwl];first|done|(simp only [zb];(repeat' (first|rfl|apply za|omega|exact fun h=>h|exact Exists.intro _ rfl)))|(repeat' (first|rfl|apply za|omega|exact fun h=>h|exact Exists.intro _ rfl))) zwa (by simp) (by simp) (by omega)) fun q hq K2 hL2=>?_
    obtain ⟨B,w,j⟩:=q
    obtain ⟨hB,hj1,hj2,hw1,hw2,hdr,z,hz,hinv2⟩:=hq
    dsimp only at hB hj1 hj2 hw1 hw2 hdr hz hinv2
    have hBl:(B.map V.int).length = xs.length:=by rw [zb,hB]
    have hwj:=Qf (k:=j) (by omega)
    have hww:=Qf (k:=w) (by omega)
    by_cases hje:k + j = xs.length
    ·have e3:decide ((j:Int) < ((xs.length - k:Nat):Int)) = false:=zp (by omega)
     have hg:adM eq xs = B.take w:=by rw [hinv2,hje,ZX];simp [adJ]
     have hgl:(adM eq xs).length = w:=by rw [hg,zQ,hB];omega
     have r3:((w:Int)≤((xs.map V.int).length:Int)) = True:=eq_true (by rw [hlen];omega)
     rw [hgl,hg]
     repeat' (first|(refine zsk ?_;intro K' hK)|(refine zrg ?_;intro K' hK)|refine zsp ?_|(refine zsc ?_ ?_<;>intro hc<;>first|exact znh|try simp only [znz] at hc)|simp (maxSteps:=1000000) only [go_sem,Ju,e3,Int.toNat_natCast]|(refine hK _ ?_;clear hK K')|apply zan|exact zsq|fail)
     all_goals first
      | (rw [hlen];omega)
      | (refine ah8 _ rfl rfl rfl ?_ ?_<;>first|rfl|(rw [Zv (by rw [hBl,hlen];omega),ki,kp,hlen];first|done|rfl)|(simp;done))
    ·have e3:decide ((j:Int) < ((xs.length - k:Nat):Int)) = true:=zo (by omega)
     obtain ⟨u,hu⟩:∃ u,xs[k + j]? = some u:=⟨_,zd (by omega)⟩
     have hdu:xs.drop (k + j) = u :: xs.drop (k + j + 1):=by
      obtain ⟨h1,h2⟩:=zn.1 hu
      rw [kj h1,h2]
     rw [hdu,adJ] at hinv2
     have bz:B[k + (j - 1)]? = some z:=by
      have:(B.drop (k + j - 1))[0]? = (xs.drop (k + j - 1))[0]?:=by rw [hdr]
      rw [Zl,Zl,Nat.add_zero,hz] at this
      rw [← this];congr 1;omega
     have bu:B[k + j]? = some u:=by
      have:(B.drop (k + j - 1))[1]? = (xs.drop (k + j - 1))[1]?:=by rw [hdr]
      rw [Zl,Zl,show k + j - 1 + 1 = k + j by omega,hu] at this
      exact this
     have vz:(B.map V.int)[k + (j - 1)]? = some (V.int z):=by rw [zf,bz];rfl
     have vu:(B.map V.int)[k + j]? = some (V.int u):=by rw [zf,bu];rfl
     have bw:∃ t,B[w]? = some t:=⟨_,zd (by omega)⟩
     obtain ⟨t,bw⟩:=bw
     have vt:(B.map V.int)[w]? = some (V.int t):=by rw [zf,bw];rfl
     have hset:(B.map V.int).set w (V.int u) = (B.set w u).map V.int:=Zu.symm
     have hwm2:IntKind.i64.wrap ((j:Int) - 1) = ((j - 1:Nat):Int):=by rw [QG (by omega) (by omega)];omega
     skip
     have hq:=heq2 u z
     have r4:(((w:Int)) < ((xs.map V.int).length:Int)) = True:=eq_true (by rw [hlen];omega)
     have r5:((j:Int) < ((xs.length - k:Nat):Int)) = True:=eq_true (by omega)
     have r6:((((j - 1:Nat):Int)) < ((xs.length - k:Nat):Int)) = True:=eq_true (by omega)
     rcases hb2:eq u z with _|_
     ·rw [hb2] at hq
      simp only [hb2,zB,if_false] at hinv2
      repeat' (first|(refine zsk ?_;intro K' hK)|(refine zrg ?_;intro K' hK)|refine zsp ?_|(refine zsc ?_ ?_<;>intro hc<;>first|exact znh|try simp only [znz] at hc)|simp (maxSteps:=1000000) only [go_sem,Ju,e3,hwj,hww,hwm2,Int.toNat_natCast,vz,vu,vt,hset,hq,r4,r5,r6,bne]|(refine hK _ ?_;clear hK K')|apply zan|exact zsq|fail)
      all_goals first
       | exact hL2 _ (B.set w u,w + 1,j + 1) (Qe []) ⟨by simp only [zU];exact hB,by simp only;omega,by simp only;omega,by simp only;omega,by simp only;omega,by
          simp only
          rw [List.drop_set_of_lt (by omega),show k + (j + 1) - 1 = (k + j - 1) + 1 by omega,← Zh,hdr,Zh],u,by simp only;rw [show k + (j + 1) - 1 = k + j by omega];exact hu,by
          simp only
          rw [hinv2,show k + (j + 1) = k + j + 1 by omega,zO,ZM (by omega),List.take_set_of_le (zj _)];simp⟩ (by simp only;omega) (zwg [])
       | (rw [hlen];omega)
     ·rw [hb2] at hq
      simp only [hb2,if_true] at hinv2
      repeat' (first|(refine zsk ?_;intro K' hK)|(refine zrg ?_;intro K' hK)|refine zsp ?_|(refine zsc ?_ ?_<;>intro hc<;>first|exact znh|try simp only [znz] at hc)|simp (maxSteps:=1000000) only [go_sem,Ju,e3,hwj,hww,hwm2,Int.toNat_natCast,vz,vu,vt,hset,hq,r4,r5,r6,bne]|(refine hK _ ?_;clear hK K')|apply zan|exact zsq|fail)
      all_goals first
       | exact hL2 _ (B,w,j + 1) (Qe []) ⟨hB,by simp only;omega,by simp only;omega,by simp only;omega,by simp only;omega,by
          simp only
          rw [show k + (j + 1) - 1 = (k + j - 1) + 1 by omega,← Zh,hdr,Zh],u,by simp only;rw [show k + (j + 1) - 1 = k + j by omega];exact hu,by simp only;rw [hinv2,show k + (j + 1) = k + j + 1 by omega]⟩ (by simp only;omega) (zwg [])
theorem aqv {fs:List Nat} (h:fs.Pairwise (· < ·)):Xx (fun x y:Int=>decide (x < y)) (fs.map fun n:Nat=>(n:Int)) = fs.map fun n:Nat=>(n:Int):=by
 have h1:=ahS (lt:=fun x y:Int=>decide (x < y)) (fun x y z h h'=>by simp at *;omega) (fun x y h=>by simp at *;omega) (fs.map fun n:Nat=>(n:Int))
 refine List.Perm.eq_of_pairwise (le:=fun x y:Int=>x≤y) (fun a b _ _ h1 h2=>by omega) (h1.imp fun {a b} h=>?_) ?_ j8
 ·simp at h;omega
 ·rw [List.pairwise_map];exact h.imp fun {a b} h=>by omega
theorem ajS:∀ (r:List Nat) (p:Nat),(p :: r).Pairwise (· < ·)→adJ (fun x y:Int=>x == y) (p:Int) (r.map fun n:Nat=>(n:Int)) = r.map fun n:Nat=>(n:Int)
 | [],_,_=>rfl
 | x :: r,p,h=>by
   have h1:p < x:=(ZL.1 h).1 x kG
   have h2:=(ZL.1 h).2
   have e:((x:Int) == (p:Int)) = false:=by rw [kI];omega
   rw [zL,adJ]
   simp only [e,zB,if_false]
   rw [ajS r x h2]
theorem aps {fs:List Nat} (h:fs.Pairwise (· < ·)):adM (fun x y:Int=>x == y) (fs.map fun n:Nat=>(n:Int)) = fs.map fun n:Nat=>(n:Int):=by
 rcases fs with _|⟨p,r⟩
 ·rfl
 ·rw [zL,adM,ajS r p h]
theorem adp (fs:List Nat):(fs.map fun n:Nat=>(n:Int)).map V.int = Qt fs:=by
 rw [List.map_map];rfl
def V2:=qd Proofs.Tryz.f88 [zhn 23]
def Kv (Γ:Env) (f:Nat):Prop:=∀ (l:List Qa) (e:QT) (ha:e.finds.Pairwise (· < ·)) (hb:∀ i∈e.finds,i < l.length) (hn:e.finds.length≤12),EvC Γ f [.sl 11 (l.map Qa.v),e.v] (.tup [.sl 1 (Qt e.finds),V.bool true])
attribute [local go_sem] zb in
theorem acR {Γ:Env} {f:Nat} (h:Has Γ.P f 35 V2.1.1.ac V2.1.2) (z0:Yg Γ 38) (z1:Xc Γ 112) (z2:YH Γ 113):Kv Γ f:=by
 intro l e ha hb hn
 refine Jy h zsi (by simp only [V.closed,Qd,and_self]) fun C hC hm=>?_
 subst hC
 simp only [V2,qd,DC.ac]
 obtain ⟨num,hosts,machs,fs⟩:=e
 dsimp only at ha hb hn
 simp only [QT.v]
 have gC:=z0 (fs.map fun n:Nat=>(n:Int)) (by rw [zb];omega)
 have gS:=z1 (fs.map fun n:Nat=>(n:Int)) (by rw [zb];omega)
 have gZ:=z2 (fs.map fun n:Nat=>(n:Int)) (by rw [zb];omega)
 rw [aqv ha] at gS
 rw [aps ha] at gZ
 simp only [adp,zb,kH,List.replicate_zero,ki] at gC gS gZ
 have hl:(Qt fs).length = fs.length:=zb _
 have htk:List.take fs.length (Qt fs) = Qt fs:=zh (by omega)
 by_cases hf:fs = []
 ·subst hf
  have hp0:Qt [] = []:=rfl
  simp only [hp0,List.length_nil,List.take_nil] at *
  (have zx:=htk);exact zg
 ·have hpos:0 < fs.length:=Zs.2 hf
  obtain ⟨p,hp0⟩:∃ p,fs[0]? = some p:=⟨_,zd hpos⟩
  obtain ⟨z,hz0⟩:∃ p,fs[fs.length - 1]? = some p:=⟨_,zd (by omega)⟩
  have hlt:=hb _ (zu hz0)
  have vl:(Qt fs)[fs.length - 1]? = some (V.int (z:Nat)):=by rw [Qt,zf,hz0];rfl
  have v0:(Qt fs)[0]? = some (V.int (p:Nat)):=by rw [Qt,zf,hp0];rfl
  have e0:((fs.length:Int) == 0) = false:=by rw [kI];omega
  have e1:decide ((p:Int)≥0) = true:=zo (by omega)
  have e2:decide ((z:Int) < (l.length:Int)) = true:=zo (by omega)
  have hw:IntKind.i64.wrap ((fs.length:Int) - 1) = ((fs.length - 1:Nat):Int):=by rw [QG (by omega) (by omega)];omega
  (have zx:=za htk (za hl (za v0 (za vl (za e0 (za e1 (za e2 hw)))))));refine zgo ?_;repeat' first|exact zt|apply zan|intro hc
  all_goals first|(refine Qk _ rfl ?_;simp only [go_sem];rw [htk];done)|(refine Qk _ rfl ?_;simp only [go_sem];rw [htk];first|done|exact ⟨_,_,rfl⟩)
theorem jZ:∀ a:List UInt8,Op.bytesLess a a = false
 | []=>rfl
 | c :: r=>by
   rw [Op.bytesLess,jZ r]
   simp
theorem UC:∀ a b c:List UInt8,Op.bytesLess a b = true→Op.bytesLess b c = true→Op.bytesLess a c = true
 | _,[],_,h,_=>by simp [Op.bytesLess] at h
 | _,_ :: _,[],_,h=>by simp [Op.bytesLess] at h
 | [],_ :: _,_ :: _,_,_=>rfl
 | x :: a,y :: b,z :: c,h1,h2=>by
   have ih:=UC a b c
   simp only [Op.bytesLess,kN,zw,zA,ky] at h1 h2 ⊢
   rcases h1 with h1|⟨rfl,h1⟩
   ·rcases h2 with h2|⟨rfl,h2⟩
    ·exact .inl (UInt8.lt_trans h1 h2)
    ·exact .inl h1
   ·rcases h2 with h2|⟨rfl,h2⟩
    ·exact .inl h2
    ·exact .inr ⟨rfl,ih h1 h2⟩
theorem jY:∀ a b:List UInt8,Op.bytesLess a b = false→Op.bytesLess b a = false→a = b
 | [],[],_,_=>rfl
 | [],_ :: _,h,_=>by simp [Op.bytesLess] at h
 | _ :: _,[],_,h=>by simp [Op.bytesLess] at h
 | x :: a,y :: b,h1,h2=>by
   simp only [Op.bytesLess,kX,bj,zP,kI] at h1 h2
   have hxy:x = y:=by
    rcases UInt8.lt_or_eq_of_le (UInt8.not_lt.1 h1.1) with h|h
    ·exact absurd h h2.1
    ·exact h.symm
   subst hxy
   rw [jY a b (by rcases h1.2 with h|h;exact absurd rfl h;exact h) (by rcases h2.2 with h|h;exact absurd rfl h;exact h)]
structure Cm {α:Type} (c:α→α→Int):Prop where
 neg:∀ a b,c b a = - c a b
 tr:∀ a b d,c a b≤0→c b d≤0→c a d≤0
 ze:∀ a b d,c a b≤0→c b d≤0→c a d = 0→c a b = 0
theorem Cm.ze2 {α:Type} {c:α→α→Int} (h:Cm c) (a b d:α) (h1:c a b≤0) (h2:c b d≤0) (h3:c a d = 0):c b d = 0:=by
 have h4:=h.ze a b d h1 h2 h3
 have h5:=h.neg a d
 have h6:=h.neg a b
 exact h.ze b d a h2 (by omega) (by omega)
theorem xi:Cm Xf:=by
 refine ⟨fun a b=>?_,fun a b d=>?_,fun a b d=>?_⟩<;>(unfold Xf;repeat' split)<;>omega
theorem afX {a b:List UInt8}:yp a b = 0→a = b:=by
 unfold yp
 rcases h1:Op.bytesLess a b with _|_
 ·rcases h2:Op.bytesLess b a with _|_
  ·intro _;exact jY a b h1 h2
  ·simp
 ·simp
theorem afZ {a b:Int}:Xf a b = 0→a = b:=by
 unfold Xf;(repeat' split)<;>omega
theorem amO {a b:List UInt8}:yp a b≤0↔Op.bytesLess b a = false:=by
 unfold yp
 rcases h1:Op.bytesLess a b with _|_
 ·rcases h2:Op.bytesLess b a with _|_<;>simp
 ·rcases h2:Op.bytesLess b a with _|_
  ·simp
  ·have:=UC a b a h1 h2
   rw [jZ] at this;cases this
theorem aij:Cm yp:=by
 have hneg:∀ a b,yp b a = - yp a b:=fun a b=>by
  unfold yp
  rcases h1:Op.bytesLess a b with _|_<;>rcases h2:Op.bytesLess b a with _|_<;>simp
  have:=UC a b a h1 h2
  rw [jZ] at this;cases this
 have htr:∀ a b d,yp a b≤0→yp b d≤0→yp a d≤0:=fun a b d h1 h2=>by
  rw [amO] at *
  rcases h3:Op.bytesLess d a with _|_
  ·rfl
  ·rcases h4:Op.bytesLess a b with _|_
   ·have:=jY a b h4 h1
    subst this;rw [h3] at h2;cases h2
   ·have:=UC d a b h3 h4
    rw [this] at h2;cases h2
 refine ⟨hneg,htr,fun a b d h1 h2 h3=>?_⟩
 have:=afX h3
 subst this
 have:=hneg a b
 omega
theorem Cm.lex {α:Type} {c1 c2:α→α→Int} (h1:Cm c1) (h2:Cm c2):Cm fun a b=>if c1 a b≠0 then c1 a b else c2 a b:=by
 refine ⟨fun a b=>?_,fun a b d g1 g2=>?_,fun a b d g1 g2 g3=>?_⟩
 ·have:=h1.neg a b
  have:=h2.neg a b
  show (if c1 b a≠0 then c1 b a else c2 b a) = - (if c1 a b≠0 then c1 a b else c2 a b)
  split<;>split<;>omega
 ·have e1:c1 a b≤0:=by split at g1<;>omega
  have e2:c1 b d≤0:=by split at g2<;>omega
  have e3:=h1.tr a b d e1 e2
  split
  ·exact e3
  ·rename_i h
   have h:=Classical.not_not.1 h
   have z1:=h1.ze a b d e1 e2 h
   have z2:=h1.ze2 a b d e1 e2 h
   rw [if_neg (by simpa using z1)] at g1
   rw [if_neg (by simpa using z2)] at g2
   exact h2.tr a b d g1 g2
 ·have e1:c1 a b≤0:=by split at g1<;>omega
  have e2:c1 b d≤0:=by split at g2<;>omega
  have h:c1 a d = 0:=by split at g3<;>omega
  have z1:=h1.ze a b d e1 e2 h
  have z2:=h1.ze2 a b d e1 e2 h
  rw [if_neg (by simpa using z1)] at g1 ⊢
  rw [if_neg (by simpa using z2)] at g2
  rw [if_neg (by simpa using h)] at g3
  exact h2.ze a b d g1 g2 g3
theorem Cm.by {α β:Type} {c:α→α→Int} (h:Cm c) (f:β→α):Cm fun a b=>c (f a) (f b) :=
 ⟨fun a b=>h.neg _ _,fun a b d=>h.tr _ _ _,fun a b d=>h.ze _ _ _⟩
theorem aby:Cm af0:=by
 have h0:Cm fun _ _:Qc=>(0:Int):=⟨fun _ _=>rfl,fun _ _ _ _ _=>Int.le_refl _,fun _ _ _ _ _ _=>rfl⟩
 exact (aij.by Qc.subj).lex ((xi.by Qc.kind).lex ((xi.by Qc.alg).lex ((xi.by Qc.bits).lex ((xi.by Qc.num).lex ((aij.by Qc.text).lex h0)))))
theorem UE {x:Int} {r:List Int}:Q7 (x :: r) = 0→x = 0∧Q7 r = 0:=by
 rw [Q7]
 by_cases h:x≠0
 ·rw [if_pos h];intro h2;exact absurd h2 h
 ·rw [if_neg h];intro h2;exact ⟨Classical.not_not.1 h,h2⟩
theorem afr {a b:Qc} (h:af0 a b = 0):a.subj = b.subj∧a.kind = b.kind∧a.alg = b.alg∧a.bits = b.bits∧a.num = b.num∧a.text = b.text:=by
 obtain ⟨h1,h⟩:=UE h
 obtain ⟨h2,h⟩:=UE h
 obtain ⟨h3,h⟩:=UE h
 obtain ⟨h4,h⟩:=UE h
 obtain ⟨h5,h⟩:=UE h
 obtain ⟨h6,h⟩:=UE h
 exact ⟨afX h1,afZ h2,afZ h3,afZ h4,afZ h5,afX h6⟩
def aeK (a b:Qc):Bool:=decide (af0 a b < 0)
theorem ahf (l:List Qc):Ord aeK (Xx aeK l):=by
 refine ahS (fun x y z h1 h2=>?_) (fun x y h=>?_) l
 ·simp only [aeK,zP,Int.not_lt] at *
  have a1:=aby.neg y x
  have a2:=aby.neg z y
  have a3:=aby.neg z x
  have:=aby.tr x y z (by omega) (by omega)
  omega
 ·simp only [aeK,zA,zP,Int.not_lt] at *
  have a1:=aby.neg x y
  omega
theorem ahe {l r:List Qc} (h:l.Perm r) (hd:∀ a∈l,∀ b∈l,af0 a b = 0→a = b):Xx aeK l = Xx aeK r:=by
 refine List.Perm.eq_of_pairwise (le:=fun x y=>aeK y x = false) (fun a b ha hb h1 h2=>?_) (ahf l) (ahf r) (j8.trans (h.trans j8.symm))
 refine hd a (j8.mem_iff.1 ha) b (h.mem_iff.2 (j8.mem_iff.1 hb)) ?_
 simp only [aeK,zP,Int.not_lt] at *
 have a1:=aby.neg a b
 omega
abbrev PM:=List PPl×List Nat
def amf (f g:Qa):Bool:=decide (f.day > g.day) || (f.day == g.day && decide (f.conf > g.conf))
def arc (l:List Qa) (day age:Int) (m:PM) (i:Nat):PM :=
 match l[i]? with
 | none=>m
 | some f=>if f.day > day∨f.day < day - age then m else
   match amc (J6 f) m.1 0 with
   | none=>(m.1++[J6 f],m.2++[i])
   | some a=>match l[m.2.getD a 0]? with
     | none=>m
     | some g=>if amf f g = true then (m.1,m.2.set a i) else m
def agH (l:List Qa) (day age:Int) (fs:List Nat):PM:=fs.foldl (arc l day age) ([],[])
theorem aai {p:PPl}:∀ {ks:List PPl} {i a:Nat},amc p ks i = some a→i≤a∧a < i + ks.length∧ks[a - i]? = some p
 | [],i,a,h=>by cases h
 | e :: r,i,a,h=>by
   rw [amc] at h
   split at h
   ·rename_i he
    cases h
    subst he
    exact ⟨zj _,by simp,by simp⟩
   ·obtain ⟨h1,h2,h3⟩:=aai h
    refine ⟨by omega,by simp;omega,?_⟩
    rw [show a - i = (a - (i + 1)) + 1 by omega,List.getElem?_cons_succ];exact h3
theorem adH {p:PPl}:∀ {ks:List PPl} {i:Nat},amc p ks i = none→p ∉ ks
 | [],_,_=>by simp
 | e :: r,i,h=>by
   rw [amc] at h
   split at h
   ·cases h
   ·rename_i he
    have:=adH h
    simp [he,this]
structure afe (l:List Qa) (m:PM) (n:Nat):Prop where
 len:m.1.length = m.2.length
 le:m.1.length≤n
 nd:m.1.Nodup
 pt:∀ (a i:Nat),m.2[a]? = some i→∃ f,l[i]? = some f∧m.1[a]? = some (J6 f)
theorem afe.nil (l:List Qa):afe l ([],[]) 0:=⟨rfl,zj _,kF,fun a i h=>by simp at h⟩
theorem afe.step {l:List Qa} {day age:Int} {m:PM} {n i:Nat} (h:afe l m n):afe l (arc l day age m i) (n + 1):=by
 have h0:afe l m (n + 1):=⟨h.len,Zp h.le,h.nd,h.pt⟩
 obtain ⟨ks,vs⟩:=m
 rw [arc]
 rcases hf:l[i]? with _|f
 ·exact h0
 dsimp only
 split
 ·exact h0
 rcases hx:amc (J6 f) ks 0 with _|a
 ·have hn:=adH hx
  have hl:=h.len
  have hle:=h.le
  dsimp only at hl hle
  refine ⟨by simp [hl],by simp;omega,?_,fun a j hj=>?_⟩
  ·dsimp only
   rw [ba]
   exact ⟨h.nd,by simp,fun x hx y hy=>by rw [zv.1 hy];exact fun he=>hn (he ▸ hx)⟩
  ·dsimp only at *
   rcases Zq a vs.length with ha|ha|ha
   ·rw [zW ha] at hj
    obtain ⟨g,g1,g2⟩:=h.pt a j hj
    exact ⟨g,g1,by rw [zW (by omega)];exact g2⟩
   ·subst ha
    rw [Zw] at hj
    cases hj
    exact ⟨f,hf,by rw [← hl,Zw]⟩
   ·rw [zX (by simp;omega)] at hj;cases hj
 ·dsimp only
  rcases hg:l[vs.getD a 0]? with _|g
  ·exact h0
  dsimp only
  split
  ·obtain ⟨a1,a2,a3⟩:=aai hx
   have hl:=h.len
   dsimp only at hl
   refine ⟨by simp [hl],h0.le,h.nd,fun b j hj=>?_⟩
   dsimp only at *
   by_cases hb:a = b
   ·subst hb
    rw [ZM (by omega)] at hj
    cases hj
    exact ⟨f,hf,by simpa using a3⟩
   ·rw [ZT hb] at hj
    exact h.pt b j hj
  ·exact h0
theorem abx (l:List Qa) (day age:Int) (fs:List Nat) (k:Nat) (hk:k≤fs.length):afe l (agH l day age (fs.take k)) k:=by
 induction k with
 | zero=>exact afe.nil l
 | succ k ih =>
   have hlt:k < fs.length:=by omega
   rw [agH,zO,zd hlt,Zo]
   exact (ih (by omega)).step
theorem aie {l:List Qa} {day age:Int} {fs:List Nat} {k i:Nat} (h:fs[k]? = some i):agH l day age (fs.take (k + 1)) = arc l day age (agH l day age (fs.take k)) i:=by
 rw [agH,zO,h,Zo];rfl
def J7 (num:Int) (i:Nat) (f:Qa):Qc:=⟨num,f.subj,f.kind,f.alg,f.bits,f.num,f.text,i⟩
def KE (l:List Qa) (num:Int) (i:Nat):Option Qc :=
 match l[i]? with
 | none=>none
 | some f=>if f.kind = 8 then none else some (J7 num i f)
def XR (l:List Qa) (num:Int) (fs:List Nat) (day age:Int):List Qc:=Xx aeK ((agH l day age fs).2.filterMap (KE l num))
def ag4 (l:List Qa) (num:Int) (vs is:List Nat):List Qc:=is.filterMap fun a=>(vs[a]?).bind (KE l num)
theorem aha (l:List Qa) (num:Int):∀ vs:List Nat,ag4 l num vs (List.range vs.length) = vs.filterMap (KE l num)
 | []=>rfl
 | x :: r=>by
   have ih:=aha l num r
   rw [ag4] at ih ⊢
   rw [List.length_cons,List.range_succ_eq_map,List.filterMap_cons,List.filterMap_map,List.filterMap_cons]
   simp only [List.getElem?_cons_zero,Option.bind_some]
   have:(fun a=>((x :: r)[a]?).bind (KE l num)) ∘ Nat.succ = fun a=>(r[a]?).bind (KE l num):=by
    funext a;simp
   rw [this,ih]
theorem aok {l:List Qa} {num day age:Int} {fs is:List Nat} (hd:is.Nodup) (hb:∀ a∈is,a < (agH l day age fs).2.length) (he:∀ a,a < (agH l day age fs).2.length→a∈is):Xx aeK (ag4 l num (agH l day age fs).2 is) = XR l num fs day age:=by
 have hok:=abx l day age fs fs.length (zj _)
 rw [zR] at hok
 rw [XR,← aha]
 generalize agH l day age fs = m at *
 obtain ⟨ks,vs⟩:=m
 dsimp only at *
 have hp:is.Perm (List.range vs.length):=by
  rw [List.perm_ext_iff_of_nodup hd bk]
  intro a
  rw [kW]
  exact ⟨hb a,he a⟩
 refine ahe (hp.filterMap _) fun a ha b hb2 h0=>?_
 obtain ⟨h1,h2,h3,h4,h5,h6⟩:=afr h0
 have key:∀ c,c∈ag4 l num vs is→∃ (p i:Nat) (f:Qa),vs[p]? = some i∧l[i]? = some f∧f.kind≠8∧c = J7 num i f:=fun c hc=>by
  rw [ag4,Z7] at hc
  obtain ⟨p,_,hc⟩:=hc
  rcases hv:vs[p]? with _|i
  ·rw [hv] at hc;cases hc
  ·rw [hv,Option.bind_some,KE] at hc
   rcases hf:l[i]? with _|f
   ·rw [hf] at hc;cases hc
   ·rw [hf] at hc
    dsimp only at hc
    split at hc
    ·cases hc
    ·rename_i h8
     exact ⟨p,i,f,hv,hf,h8,(ZD hc).symm⟩
 obtain ⟨p,i,f,p1,p2,p3,rfl⟩:=key a ha
 obtain ⟨q,j,g,q1,q2,q3,rfl⟩:=key b hb2
 simp only [J7] at h1 h2 h3 h4 h5 h6
 obtain ⟨f',r1,r2⟩:=hok.pt p i p1
 obtain ⟨g',s1,s2⟩:=hok.pt q j q1
 rw [p2] at r1;cases r1
 rw [q2] at s1;cases s1
 have hpl:J6 f = J6 g:=by
  simp only [J6]
  rw [h1,h2,h3,h4,h5,h6]
 have hpq:p = q:=by
  have l1:=(zn.1 r2).1
  rw [hpl,← s2] at r2
  exact (bd l1 hok.nd).1 r2
 subst hpq
 rw [p1] at q1;cases q1
 rw [p2] at q2;cases q2
 rfl
end Av
end
