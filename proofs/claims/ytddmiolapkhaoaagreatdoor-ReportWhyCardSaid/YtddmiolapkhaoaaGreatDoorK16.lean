/- K16 -/
import Derived.Test.YtddmiolapkhaoaaGreatDoorK14
import Derived.Test.YtddmiolapkhaoaaGreatDoorK15
import Derived.Test.YtddmiolapkhaoaaGreatDoorK13
import Derived.Test.YtddmiolapkhaoaaGreatDoorK12
set_option linter.unusedVariables false
set_option linter.unusedSimpArgs false
section
set_option maxRecDepth 10000
set_option maxHeartbeats 4000000
namespace Av
open Go
attribute [local irreducible] AWp U3 abh acE awS awC ajc awQ ajv Jo jG aiB awR yv awB okR ad1 ris
structure Qg where
 ent:Int
 subj:List UInt8
 kind:Int
 alg:Int
 bits:Int
 num:Int
 text:List UInt8
 find:Int
 deriving DecidableEq
def Qg.cells (f:Qg):List V:=[V.int f.ent,V.str f.subj,V.int f.kind,V.int f.alg,V.int f.bits,V.int f.num,V.str f.text,V.int f.find]
def Qg.v (f:Qg):V:=.agg f.cells
structure PPl where
 subj:List UInt8
 text:List UInt8
 kind:Int
 num:Int
 alg:Int
 bits:Int
 deriving DecidableEq
def PPl.cells (p:PPl):List V:=[V.str p.subj,V.str p.text,V.int p.kind,V.int p.num,V.int p.alg,V.int p.bits]
def PPl.v (p:PPl):V:=.agg p.cells
def YY (f:Qa):PPl :=
 if f.kind = 1∨f.kind = 8 then ⟨f.subj,[],1,0,f.alg,f.bits⟩
 else if f.kind = 2∨f.kind = 6 then ⟨f.subj,[],f.kind,f.num,0,0⟩
 else if f.kind = 7 then ⟨f.subj,f.text,f.kind,0,0,0⟩
 else ⟨f.subj,[],f.kind,0,0,0⟩
def amy (a b:Qg):Int:=Jt [abi a.subj b.subj,WN a.kind b.kind,WN a.alg b.alg,WN a.bits b.bits,WN a.num b.num,abi a.text b.text]
def ah8:List AO:=[fa 14 7 1,xo 15 (.load true 2 (.t 14)),fa 16 2 3,⟨none,.store 1 (.t 16) (.c (V.int 1)),none⟩,fa 17 4 3,xs 2 17 15]
def aiE:List (List Nat):=[[],[0],[],[2],[0,1,2,3],[4,1,3,0,1,2,3]]
def ah1:OT:=.one 0 (.one 2 (.or 1 (.one 3 (.one 4 (.one 5 .done))) (.or 3 (.one 1 (.one 4 (.one 5 .done))) .done)))
@[go_sem] def ah5:OP:=oN 0 (fa 14 7 1) (oN 2 (fa 16 2 3) (.or 1 true [] (xo 15 (.load true 2 (.t 14))) (.one 3 true [] (⟨none,.store 1 (.t 16) (.c (V.int 1)),none⟩) (oN 4 (fa 17 4 3) (.one 5 true [] (xs 2 17 15) .done))) (.or 3 true [] (⟨none,.store 1 (.t 16) (.c (V.int 1)),none⟩) (.one 1 true [] (xo 15 (.load true 2 (.t 14))) (oN 4 (fa 17 4 3) (.one 5 true [] (xs 2 17 15) .done))) .done)))
instance:RG [1] ah1 (ah5) (ah8) aiE 6 (fun _=>false):=⟨rfl,by kernel_rfl,by kernel_rfl⟩
def amg:AC:=Qb [1,2] (.reg [xo 1 (.box true 11 (.t 0)),xo 2 (.alloc [.val vs0,.val vs0,.val vi0,.val vi0,.val vi0,.val vi0])]) (Qb [1,2,3] (.reg [fa 4 6 1,ld 5 1 4,fa 6 5 1,ld 7 1 6,xo 8 (.build [vs0,vs0,vi0,vi0,vi0,vi0] [(0,1,(.t 5)),(2,1,(.t 7))]),xo 3 (.alloc [.val vs0,.val vs0,.val vi0,.val vi0,.val vi0,.val vi0]),xs 6 3 8]) (Qb [2,3] (Qb [1,2,3,10] (.reg [fa 9 5 1,ld 10 1 9]) (.block 0 (Qb [1,2,3,10,11] (Qb [1,2,3,10,11] (.reg [bc 12 .eql 10 (V.int 1),mv 11 12]) (.cond (.t 11) .skip (.reg [bc 13 .eql 10 (V.int 8),mv 11 13]))) (.cond (.t 11) (VD [1] ah1 (ah5) (ah8) aiE) (Qb [1,2,3,10,18] (Qb [1,2,3,10,18] (.reg [bc 19 .eql 10 (V.int 2),mv 18 19]) (.cond (.t 18) .skip (.reg [bc 20 .eql 10 (V.int 6),mv 18 20]))) (.cond (.t 18) (.reg [fa 21 9 1,ld 22 1 21,fa 23 3 3,xs 1 23 22]) (Qb [1,2,3,24] (.reg [bc 25 .eql 10 (V.int 7),mv 24 25]) (.cond (.t 24) (.reg [fa 26 10 1,ld 27 1 26,fa 28 1 3,xs 1 28 27]) .skip)))))))) (Qb [2] (.reg [xo 29 (.load true 6 (.t 3)),xs 6 2 29]) .ret))) def dB:List Q0:=[.cell 2 true 6]
def afw (Γ:Env) (f:Nat):Prop:=∀ (f0:Qa),EvN Γ f [f0.v] ((YY f0).v)
theorem aql {Γ:Env} {f:Nat} (h:Has Γ.P f 30 amg dB) :afw Γ f:=by
 intro f0
 refine Qc h zsi (by unfold YY;(repeat' split)<;>simp only [PPl.v,PPl.cells,V.closed,Qh,V.noSl,Ue,and_self]) (by unfold YY;(repeat' split)<;>simp only [PPl.v,PPl.cells,V.closed,Qh,V.noSl,Ue,and_self]) fun C hC hm=>?_
 subst hC
 unfold amg
 obtain ⟨src,host,mach,day,conf,kind,subj,alg,bits,num,text⟩:=f0
 simp only [YY,Qa.v,Qa.cells,PPl.v,PPl.cells]
 have E:∀ n:Int,kind≠n→(kind == n) = false:=fun n h=>by simpa using h
 by_cases k1:kind = 1
 ·subst k1
  rw [if_pos (.inl rfl)]
  exact zg
 by_cases k8:kind = 8
 ·subst k8
  rw [if_pos (.inr rfl)]
  exact zg
 rw [if_neg (by simp [k1,k8])]
 by_cases k2:kind = 2
 ·subst k2
  rw [if_pos (.inl rfl)]
  exact zg
 by_cases k6:kind = 6
 ·subst k6
  rw [if_pos (.inr rfl)]
  exact zg
 rw [if_neg (by simp [k2,k6])]
 have e1:=E 1 k1
 have e8:=E 8 k8
 have e2:=E 2 k2
 have e6:=E 6 k6
 by_cases k7:kind = 7
 ·subst k7
  rw [if_pos rfl]
  exact zg
 rw [if_neg k7]
 have e7:=E 7 k7
 (have zx:=za e1 (za e8 (za e2 (za e6 e7))));exact zg
def abb:List (List Nat):=[[],[0],[],[2],[1,3],[],[5],[],[7],[6,8,4],[],[10],[11],[],[13],[14],[12,15,9],[],[17],[18],[],[20],[21],[19,22,16],[],[24],[],[26],[25,27,23],[],[29],[],[31],[30,32,28],[4,9,16,23,28,33],[34,33],[35,35,0,1,2,3,4,5,6,7,8,9,10,11,12,13,14,15,16,17,18,19,20,21,22,23,24,25,26,27,28,29,30,31,32,33,34,35]]
def aaj:OT:=och 0 37
@[go_sem] def qn (Qp Qf QK:Nat):OP:=oN 0 (fa 5 1 2) (oN 1 (ld 6 1 5) (oN 2 (fa 7 1 3) (oN 3 (ld 8 1 7) (oN 4 (cl 9 Qp [6,8]) (oN 5 (fa 10 2 2) (oN 6 (ld 11 1 10) (oN 7 (fa 12 2 3) (oN 8 (ld 13 1 12) (oN 9 (cl 14 Qf [11,13]) (oN 10 (fa 15 3 2) (oN 11 (fa 16 0 15) (oN 12 (ld 17 1 16) (oN 13 (fa 18 3 3) (oN 14 (fa 19 0 18) (oN 15 (ld 20 1 19) (oN 16 (cl 21 Qf [17,20]) (oN 17 (fa 22 3 2) (oN 18 (fa 23 1 22) (oN 19 (ld 24 1 23) (oN 20 (fa 25 3 3) (oN 21 (fa 26 1 25) (oN 22 (ld 27 1 26) (oN 23 (cl 28 Qf [24,27]) (oN 24 (fa 29 5 2) (oN 25 (ld 30 1 29) (oN 26 (fa 31 5 3) (oN 27 (ld 32 1 31) (oN 28 (cl 33 Qf [30,32]) (oN 29 (fa 34 6 2) (oN 30 (ld 35 1 34) (oN 31 (fa 36 6 3) (oN 32 (ld 37 1 36) (oN 33 (cl 38 Qp [35,37]) (.one 34 false [33,28,23,16,9,4] (xo 39 (.bslice 6 1 false [vi0] [(0,(.t 9)),(1,(.t 14)),(2,(.t 21)),(3,(.t 28)),(4,(.t 33)),(5,(.t 38))])) (.one 35 false [34,33,28,23,16,9,4] (cl 40 QK [39]) (oN 36 (mv 4 40) .done))))))))))))))))))))))))))))))))))))
def aau (Qp Qf QK:Nat):List AO:=aoO (qn Qp Qf QK)
instance (Qp Qf QK:Nat):RG [] aaj (qn Qp Qf QK) (aau Qp Qf QK) abb 37 (fun _=>true):=⟨rfl,by kernel_rfl,by kernel_rfl⟩
def adw (Qp Qf QK:Nat):AC:=Qb [2,3] (.reg [xo 2 (.box true 8 (.t 0)),xo 3 (.box true 8 (.t 1)),mc 4 (V.int 0)]) (Qb [4] (VD [] aaj (qn Qp Qf QK) (aau Qp Qf QK) abb) .ret) def dC:List Q0:=[.tmp 4]
def jT (Γ:Env) (f:Nat):Prop:=∀ (a b:Qg),EvN Γ f [a.v,b.v] (V.int (amy a b))
theorem aja {Γ:Env} {f Qp Qf QK:Nat} (h:Has Γ.P f 41 (adw Qp Qf QK) dC) (z0:KC Γ Qp) (z1:Ws Γ Qf) (z2:yB Γ QK):jT Γ f:=by
 intro a b
 refine Qc h zsi zcl zcl fun C hC hm=>?_
 subst hC
 unfold adw
 have p1:=(z0 a.subj b.subj).b
 have p2:=(z1 a.kind b.kind).b
 have p3:=(z1 a.alg b.alg).b
 have p4:=(z1 a.bits b.bits).b
 have p5:=(z1 a.num b.num).b
 have p6:=(z0 a.text b.text).b
 have p7:=(z2 [abi a.subj b.subj,WN a.kind b.kind,WN a.alg b.alg,WN a.bits b.bits,WN a.num b.num,abi a.text b.text] (by simp)).b
 simp only [Qg.v,Qg.cells,amy,zI,zO] at *
 exact zg
theorem az5 (p q:PPl):Yf [1,1,0,0,0,0] p.cells q.cells = some (decide (p = q)):=by
 obtain ⟨a1,a2,a3,a4,a5,a6⟩:=p
 obtain ⟨b1,b2,b3,b4,b5,b6⟩:=q
 have hs:∀ x y:List UInt8,((⟨x.toArray⟩:ByteArray) == ⟨y.toArray⟩) = decide (x = y):=fun x y=>by
  rw [Zi,ami];simp
 simp only [PPl.cells,V.str,V.int,Yf,hs,if_true,Option.map_some,PPl.mk.injEq]
 congr 1
 rw [Zi]
 simp
def as8 (p:PPl):List PPl→Nat→Option Nat
 | [],_=>none
 | e :: r,i=>if p = e then some i else as8 p r (i + 1)
theorem aoL (p:PPl):∀ (ks:List PPl) (i:Nat),wu true [1,1,0,0,0,0] p.v (ks.map PPl.v) i = some (as8 p ks i)
 | [],_=>rfl
 | e :: r,i=>by
   have h:xh true [1,1,0,0,0,0] p.v e.v = some (decide (p = e)):=az5 p e
   rw [zI,wu,h]
   by_cases hk:p = e
   ·subst hk;simp [as8]
   ·rw [zv hk];simp only [as8,if_neg hk]
    exact aoL p r (i + 1)
theorem av7 (p:PPl):xh true [1,1,0,0,0,0] p.v p.v = some true:=by
 have:xh true [1,1,0,0,0,0] p.v p.v = some (decide (p = p)):=az5 p p
 rw [this];simp
def Xd:List (List Nat):=[[],[],[0,1],[2],[3],[3],[3],[5,6,3],[7,3],[3],[3],[10,3],[9,11,3],[12,3],[4,8,13,3,3],[14,3],[3,15]]
def Y8:OT:=och 0 17
@[go_sem] def JB:OP:=oN 0 (mv 18 9) (oN 1 (mv 19 1) (oN 2 (bn 20 .gtr 18 19) (oN 3 (mv 21 20) (oN 4 (mg 22 3 21 true) (oN 5 (mg 23 0 21 true) (oN 6 (mg 24 9 21 true) (oN 7 (xg 25 (.iaddr 8 (.t 23) (.t 24)) 21 true) (oN 8 (xg 26 (.load true 8 (.t 25)) 21 true) (oN 9 (mg 27 0 21 true) (oN 10 (mg 28 9 21 true) (oN 11 (xg 29 (.bin .sub (.t 28) (.c (V.int 1))) 21 true) (oN 12 (xg 30 (.iaddr 8 (.t 27) (.t 29)) 21 true) (oN 13 (xg 31 (.load true 8 (.t 30)) 21 true) (.one 14 true [] (xg 32 (.callv (.t 22) [(.t 26),(.t 31)]) 21 true) (oN 15 (xg 33 (.bin .lss (.t 32) (.c (V.int 0))) 21 true) (oN 16 (xo 34 (.pick (.t 21) (.t 33) (.c (V.bool false)))) .done))))))))))))))))
def Xb:List AO:=aoO (JB)
instance:RG [14] Y8 (JB) (Xb) Xd 17 (fun _=>true):=⟨rfl,by kernel_rfl,by kernel_rfl⟩
def Xa:List AO:=[mv 37 0,mv 38 9,mv 39 0,mv 40 9,bc 41 .sub 40 (V.int 1),mv 42 0,mv 43 9,bc 44 .sub 43 (V.int 1),ia 45 8 42 44,xo 46 (.load true 8 (.t 45)),mv 47 0,mv 48 9,ia 49 8 47 48,xo 50 (.load true 8 (.t 49)),ia 51 8 37 38,xs 8 51 46,ia 52 8 39 41,xs 8 52 50]
def Xc:List (List Nat):=[[],[],[],[],[3],[],[],[6],[5,7],[8],[],[],[10,11],[12],[0,1,0,1,5,6,7,8,9,13],[14,9,0,1,5,6,7,8,9,13],[2,4,0,1,2,3,4,5,6,7,8,9,10,11,12,13,14,15],[16,13,15,0,1,2,3,4,5,6,7,8,9,10,11,12,13,14,15]]
def Y7:OT:=.one 0 (.one 1 (.one 2 (.one 3 (.one 4 (.one 5 (.one 6 (.one 7 (.one 10 (.one 11 (.or 8 (.or 9 (.one 12 (.one 13 (.one 14 (.one 15 (.one 16 (.one 17 .done)))))) (.or 12 (.or 9 (.one 13 (.one 14 (.one 15 (.one 16 (.one 17 .done))))) (.or 13 (.one 9 (.one 14 (.one 15 (.one 16 (.one 17 .done))))) .done)) .done)) (.or 12 (.or 8 (.or 9 (.one 13 (.one 14 (.one 15 (.one 16 (.one 17 .done))))) (.or 13 (.one 9 (.one 14 (.one 15 (.one 16 (.one 17 .done))))) .done)) (.or 13 (.one 8 (.one 9 (.one 14 (.one 15 (.one 16 (.one 17 .done)))))) .done)) .done)))))))))))
@[go_sem] def YN:OP:=.one 14 true [] (ia 51 8 37 38) (.one 15 true [] (xs 8 51 46) (.one 16 true [] (ia 52 8 39 41) (.one 17 true [] (xs 8 52 50) .done)))
@[go_sem] def YM:OP:=.one 13 true [] (xo 50 (.load true 8 (.t 49))) YN
@[go_sem] def YL:OP:=.one 9 true [] (xo 46 (.load true 8 (.t 45))) YN
@[go_sem] def YK:OP:=.or 9 true [] (xo 46 (.load true 8 (.t 45))) YM (.or 13 true [] (xo 50 (.load true 8 (.t 49))) YL .done)
@[go_sem] def Y9:OP:=oN 0 (mv 37 0) (oN 1 (mv 38 9) (oN 2 (mv 39 0) (oN 3 (mv 40 9) (oN 4 (bc 41 .sub 40 (V.int 1)) (oN 5 (mv 42 0) (oN 6 (mv 43 9) (oN 7 (bc 44 .sub 43 (V.int 1)) (oN 10 (mv 47 0) (oN 11 (mv 48 9) (.or 8 true [] (ia 45 8 42 44) (.or 9 true [] (xo 46 (.load true 8 (.t 45))) (.one 12 true [] (ia 49 8 47 48) YM) (.or 12 true [] (ia 49 8 47 48) YK .done)) (.or 12 true [] (ia 49 8 47 48) (.or 8 true [] (ia 45 8 42 44) YK (.or 13 true [] (xo 50 (.load true 8 (.t 49))) (.one 8 true [] (ia 45 8 42 44) YL) .done)) .done)))))))))))
instance:RG [8,9,12,13,14,16] Y7 (Y9) (Xa) Xc 18 (fun _=>false):=⟨rfl,by kernel_rfl,by kernel_rfl⟩
def Xs:AC:=Qb [0,1,2,3,8] (.reg [mv 10 1,bc 11 .add 10 (V.int 1),mv 8 11]) (.block 0 (JG [0,1,2,3,8] (Qb [0,1,2,3,8] (Qb [0,1,2,3,8,14] (.reg [mv 12 8,mv 13 2,bn 14 .lss 12 13]) (.cond (.t 14) .skip (.exit 0))) (Qb [0,1,2,3,8] (.block 1 (Qb [0,1,2,3,8,9] (.reg [mv 17 8,mv 9 17]) (.block 2 (JG [0,1,2,3,8,9] (Qb [0,1,2,3,8,9] (Qb [0,1,2,3,8,9,34] (VD [14] Y8 (JB) (Xb) Xd) (.cond (.t 34) .skip (.exit 2))) (Qb [0,1,2,3,8,9] (.block 3 (VD [8,9,12,13,14,16] Y7 (Y9) (Xa) Xc)) (.reg [mv 35 9,bc 36 .sub 35 (V.int 1),mv 9 36]))))))) (.reg [mv 15 8,bc 16 .add 15 (V.int 1),mv 8 16]))))) def dD:List Q0:=[]
def JJ (Γ:Env) (f:Nat):Prop:=∀ (xs:List Qg) (a b:Nat) (g:Nat) (c:Qg→Qg→Int) (hcmp:∀ x∈xs,∀ y∈xs,EvN Γ g [Qg.v x,Qg.v y] (V.int (c x y))) (hab:a≤b) (hb:b≤xs.length) (hx:xs.length < 2 ^ 34),EvL Γ f [V.int a,V.int b,.clo g []] 8 (xs.map Qg.v) (.tup []) ((if a = b then xs.map Qg.v else (abw (fun x y=>decide (c x y < 0)) xs a b).map Qg.v))
attribute [local go_sem] Y1 in
theorem Vt {Γ:Env} {f:Nat} (h:Has Γ.P f 53 Xs dD) :JJ Γ f:=by
 intro xs a b g c hcmp hab hb hx
 refine qv h (by simp) (by simp only [V.closed,Qh,V.noSl,Ue,and_self,and_true,true_and]) fun C hC hm=>?_
 subst hC
 unfold Xs
 have hwa:=Qq (k:=a) (by omega)
 by_cases he:a = b
 ·subst he
  rw [if_pos rfl]
  have e1:decide (((a + 1:Nat):Int) < (a:Int)) = false:=by simp;omega
  (have zx:=hwa);refine zgo ?_;repeat' first|exact zt|apply zan|intro hc
  refine QC (ι:=Unit) (fun _=>True) (fun _=>Y1 [(0,.hd 0 0 (xs.map Qg.v).length),(1,V.int a),(2,V.int a),(3,.clo g []),(8,V.int (a + 1:Nat))] [(0,.buf true 8 (xs.map Qg.v))] 1) (fun _=>0) () trivial (Qi []) (zwg []) fun j hj K'' hL2=>?_
  (have zx:=e1);refine zgo ?_;repeat' first|exact zt|apply zan|intro hc
  all_goals first|(refine wB _ rfl rfl (by simp only [go_sem]) ?_<;>first|rfl|(simp;done))
 ·rw [if_neg he]
  (have zx:=hwa);refine zgo ?_;repeat' first|exact zt|apply zan|intro hc
  generalize hlt:(fun x y=>decide (c x y < 0)) = lt
  have hlt2:∀ x y,decide (c x y < 0) = lt x y:=by intro x y;rw [← hlt]
  refine QC (ι:=Nat) (fun i=>a + 1≤i∧i≤b) (fun i=>Y1 [(0,.hd 0 0 (xs.map Qg.v).length),(1,V.int a),(2,V.int b),(3,.clo g []),(8,V.int i)] [(0,.buf true 8 ((abw lt xs a i).map Qg.v))] 1) (fun i=>b - i) (a + 1) ⟨by omega,by omega⟩ (Qi []) (Qv [] zwa (by rw [aoH (by omega)];simp only [go_sem,zwl];(repeat' (first|rfl|apply za|omega|exact fun h=>h|exact Exists.intro _ rfl))) (by simp) (by simp) (by omega)) fun i hi K' hL=>?_
  obtain ⟨hi1,hi2⟩:=hi
  by_cases hib:i = b
  ·subst hib
   have e1:decide ((i:Int) < (i:Int)) = false:=by simp
   (have zx:=e1);refine zgo ?_;repeat' first|exact zt|apply zan|intro hc
   all_goals first|(refine wB _ rfl rfl (by simp only [go_sem]) ?_<;>first|rfl|(simp;done))
  ·have e1:decide ((i:Int) < (b:Int)) = true:=by simp;omega
   have hwi:=Qq (k:=i) (by omega)
   obtain ⟨x,hget⟩:∃ x,xs[i]? = some x:=⟨_,zb (by omega)⟩
   have hxm:x∈xs:=zm hget
   have hdx:xs.drop i = x :: xs.drop (i + 1):=by
    rw [ka (by omega)];congr 1
    rw [zb (by omega)] at hget;exact kQ hget
   have hP:(xs.take a).length = a:=by simp;omega
   have hS:(W7 lt ((xs.take i).drop a)).length = i - a:=by rw [af0];simp;omega
   have hSm:∀ y∈W7 lt ((xs.take i).drop a),y∈xs:=fun y hy=>zD (zF (aoG.1 hy))
   have hnext:abw lt xs a (i + 1) = xs.take a++(aj7 lt (W7 lt ((xs.take i).drop a)) x++xs.drop (i + 1)):=by
    have:(xs.take (i + 1)).drop a = (xs.take i).drop a++[x]:=by
     rw [zP,hget,Zo (by simp;omega)];rfl
    rw [abw,this,W7,Zq];rfl
   have hnow:abw lt xs a i = VG (xs.take a) (W7 lt ((xs.take i).drop a)) x (xs.drop (i + 1)) (i - a):=by
    rw [abw,hdx,VG,← hS,zJ,ZZ];rfl
   rw [hnow]
   generalize W7 lt ((xs.take i).drop a) = S at *
   have hPg:=hP
   generalize xs.take a = P at *
   have hR:(xs.drop (i + 1)).length = xs.length - (i + 1):=zZ
   generalize xs.drop (i + 1) = R at *
   (have zx:=e1);refine zgo ?_;repeat' first|exact zt|apply zan|intro hc
   refine QC (ι:=Nat) (fun q=>q≤i - a∧gK lt S x q = gK lt S x S.length) (fun q=>Y1 [(0,.hd 0 0 (xs.map Qg.v).length),(1,V.int a),(2,V.int b),(3,.clo g []),(8,V.int i),(9,V.int (a + q:Nat))] [(0,.buf true 8 ((VG P S x R q).map Qg.v))] 1) (fun q=>q) (i - a) ⟨by omega,by rw [hS]⟩ (Qi []) (Qv [] (by rw [show a + (i - a) = i by omega];simp only [go_sem,zwl];(repeat' (first|rfl|apply za|omega|exact fun h=>h|exact Exists.intro _ rfl))) zwa (by simp) (by simp) (by omega)) fun q hq K'' hL2=>?_
   obtain ⟨hq1,hq2⟩:=hq
   have hfin:gK lt S x S.length = q→VG P S x R q = abw lt xs a (i + 1):=by
    intro h
    rw [hnext,aj7,h];simp only [VG,kf,List.singleton_append,List.cons_append,List.nil_append]
   have hlen:(VG P S x R q).length = xs.length:=by rw [aoE,hP,hS,hR];omega
   have gx:=auo (P:=P) (R:=R) (x:=x) (q:=q) (S:=S) (by omega)
   rw [hP] at gx
   rcases q with _|q
   ·have e2:decide (((a + 0:Nat):Int) > (a:Int)) = false:=by simp
    have hf:=hfin hq2.symm
    (have zx:=za e2 hwi);refine zgo ?_;repeat' first|exact zt|apply zan|intro hc
    rw [hf]
    exact hL _ (i + 1) (Qi []) ⟨by omega,by omega⟩ (by omega) (zwg [])
   ·have hqS:q < S.length:=by omega
    have e2:decide (((a + (q + 1):Nat):Int) > (a:Int)) = true:=zn (by omega)
    have hwj:IntKind.i64.wrap (((a + (q + 1):Nat):Int) - 1) = ((a + q:Nat):Int):=by rw [Q7 (by omega) (by omega)];omega
    have gy:=aun (P:=P) (R:=R) (x:=x) (q:=q) (S:=S) hqS
    rw [hP] at gy
    have hset:=aoD (P:=P) (R:=R) (x:=x) (q:=q) (S:=S) hqS
    rw [hP] at hset
    have hyd:S[q]? = some S[q]:=zb hqS
    have hym:S[q]∈xs:=hSm _ (zT hqS)
    rw [gK,hyd] at hq2
    dsimp only at hq2
    generalize S[q] = y at *
    have hcc:=(hcmp x hxm y hym).b
    have hd:=hlt2 x y
    have vx:(List.map Qg.v (VG P S x R (q + 1)))[a + (q + 1)]? = some (Qg.v x):=by rw [zi,gx];rfl
    have vy:(List.map Qg.v (VG P S x R (q + 1)))[a + q]? = some (Qg.v y):=by rw [zi,gy];rfl
    have hs1:((List.map Qg.v (VG P S x R (q + 1))).set (a + (q + 1)) (Qg.v y))[a + q]? = some (Qg.v y):=by
     rw [ZV (by omega),zi,gy];rfl
    have hs2:((List.map Qg.v (VG P S x R (q + 1))).set (a + (q + 1)) (Qg.v y)).set (a + q) (Qg.v x) = List.map Qg.v (VG P S x R q):=by
     rw [← hset,Zv,Zv]
    simp only [Qg.v,Qg.cells] at vx vy hs1 hs2 hcc
    rcases hl:lt x y with _|_
    ·rw [hl] at hd
     simp only [hl,zw,if_false] at hq2
     have hf:=hfin hq2.symm
     (have zx:=za e2 (za hwi (za hwj (za vx (za vy hd)))));refine zgo ?_;repeat' first|exact zt|apply zan|intro hc
     all_goals
      rw [hf]
      exact hL _ (i + 1) (Qi []) ⟨by omega,by omega⟩ (by omega) (zwg [])
    ·rw [hl] at hd
     simp only [hl,if_true] at hq2
     (have zx:=za e2 (za hwi (za hwj (za vx (za vy (za hd (za hs1 hs2)))))));refine zgo ?_;repeat' first|exact zt|apply zan|intro hc
     all_goals exact hL2 _ q (Qi []) ⟨by omega,hq2⟩ (by omega) (zwg [])
def We:List (List Nat):=[[],[0],[1],[2],[2],[2],[5,2],[4,6,2],[7,2],[2],[2],[9,10,2],[11,2],[3,8,12,2,2],[13,2],[14,2],[2,15]]
def Wc:OT:=och 0 17
@[go_sem] def Yt:OP:=oN 0 (mv 81 1) (oN 1 (bc 82 .gtr 81 (V.int 0)) (oN 2 (mv 83 82) (oN 3 (mg 84 4 83 true) (oN 4 (mg 85 0 83 true) (oN 5 (mg 86 1 83 true) (oN 6 (xg 87 (.bin .sub (.t 86) (.c (V.int 1))) 83 true) (oN 7 (xg 88 (.iaddr 8 (.t 85) (.t 87)) 83 true) (oN 8 (xg 89 (.load true 8 (.t 88)) 83 true) (oN 9 (mg 90 0 83 true) (oN 10 (mg 91 13 83 true) (oN 11 (xg 92 (.iaddr 8 (.t 90) (.t 91)) 83 true) (oN 12 (xg 93 (.load true 8 (.t 92)) 83 true) (.one 13 true [] (xg 94 (.callv (.t 84) [(.t 89),(.t 93)]) 83 true) (oN 14 (xg 95 (.bin .lss (.t 94) (.c (V.int 0))) 83 true) (oN 15 (xg 96 (.un .not (.t 95)) 83 true) (oN 16 (xo 97 (.pick (.t 83) (.t 96) (.c (V.bool false)))) .done))))))))))))))))
def Wd:List AO:=aoO (Yt)
instance:RG [13] Wc (Yt) (Wd) We 17 (fun _=>true):=⟨rfl,by kernel_rfl,by kernel_rfl⟩
def YV (QU YD JP Yc J6 Jg JH Yv QM:Nat):AC:=Qb [0,1,2,3,4,10] (.reg [mc 10 (V.bool true)]) (Qb [0,1,2,3,4,10,11] (.reg [mc 11 (V.bool true)]) (.block 0 (JG [0,1,2,3,4,10,11] (.block 1 (Qb [0,1,2,3,4,10,11,12] (.reg [mv 21 2,mv 22 1,bn 23 .sub 21 22,mv 12 23]) (Qb [0,1,2,3,4,10,11,12] (Qb [0,1,2,3,4,10,11,12,25] (.reg [mv 24 12,bc 25 .leq 24 (V.int 12)]) (.cond (.t 25) (Qb [] (.reg [mv 26 0,mv 27 1,mv 28 2,mv 29 4,cl 30 QU [26,27,28,29]]) .ret) .skip)) (Qb [0,1,2,3,4,10,11,12] (Qb [0,1,2,3,4,10,11,12,32] (.reg [mv 31 3,bc 32 .eql 31 (V.int 0)]) (.cond (.t 32) (Qb [] (.reg [mv 33 0,mv 34 1,mv 35 2,mv 36 4,cl 37 YD [33,34,35,36]]) .ret) .skip)) (Qb [0,1,2,3,4,10,11,12] (Qb [0,1,2,3,4,10,11,12,39] (.reg [mv 38 10,xo 39 (.un .not (.t 38))]) (.cond (.t 39) (Qb [0,1,2,3,4,10,11,12] (.reg [mv 40 0,mv 41 1,mv 42 2,mv 43 4,cl 44 JP [40,41,42,43]]) (.reg [mv 45 3,bc 46 .sub 45 (V.int 1),mv 3 46])) .skip)) (Qb [0,1,2,3,4,10,11,12,13,14] (.reg [mv 48 0,mv 49 1,mv 50 2,mv 51 4,cl 52 Yc [48,49,50,51],mv 47 52,ex 53 47 0,ex 54 47 1,mv 13 53,mv 14 54]) (Qb [0,1,2,3,4,10,11,12,13,14] (Qb [0,1,2,3,4,10,11,12,13,14,56] (.reg [mv 55 14,bc 56 .eql 55 (V.int 2)]) (.cond (.t 56) (Qb [0,1,2,3,4,10,11,12,13] (.reg [mv 57 0,mv 58 1,mv 59 2,mv 60 4,cl 61 J6 [57,58,59,60]]) (Qb [0,1,2,3,4,10,11,12,13] (.reg [mv 62 2,bc 63 .sub 62 (V.int 1),mv 64 13,mv 65 1,bn 66 .sub 64 65,bn 67 .sub 63 66,mv 13 67]) (.reg [mc 14 (V.int 1)]))) .skip)) (Qb [0,1,2,3,4,10,11,12,13] (Qb [0,1,2,3,4,10,11,12,13,75] (.reg [mv 68 10,mv 69 68,mg 70 11 69 true,xo 71 (.pick (.t 69) (.t 70) (.c (V.bool false))),mv 72 71,mg 73 14 72 true,xg 74 (.bin .eql (.t 73) (.c (V.int 1))) 72 true,xo 75 (.pick (.t 72) (.t 74) (.c (V.bool false)))]) (.cond (.t 75) (Qb [0,1,2,3,4,10,11,12,13,80] (.reg [mv 76 0,mv 77 1,mv 78 2,mv 79 4,cl 80 Jg [76,77,78,79]]) (.cond (.t 80) .ret .skip)) .skip)) (Qb [0,1,2,3,4,12,13] (Qb [0,1,2,3,4,10,11,12,13,97] (VD [13] Wc (Yt) (Wd) We) (.cond (.t 97) (Qb [0,2,3,4,10,11,15] (.reg [mv 98 0,mv 99 1,mv 100 2,mv 101 13,mv 102 4,cl 103 JH [98,99,100,101,102],mv 15 103]) (Qb [0,1,2,3,4,10,11] (.reg [mv 104 15,mv 1 104]) (.exit 1))) .skip)) (Qb [0,1,2,3,4,12,16,17] (.reg [mv 106 0,mv 107 1,mv 108 2,mv 109 13,mv 110 4,cl 111 Yv [106,107,108,109,110],mv 105 111,ex 112 105 0,ex 113 105 1,mv 16 112,mv 17 113]) (Qb [0,1,2,3,4,11,12,16] (.reg [mv 114 17,mv 11 114]) (Qb [0,1,2,3,4,11,12,16,18,19] (.reg [mv 115 16,mv 116 1,bn 117 .sub 115 116,mv 118 2,mv 119 16,bn 120 .sub 118 119,mv 18 117,mv 19 120]) (Qb [0,1,2,3,4,11,16,18,19,20] (.reg [mv 121 12,bc 122 .quo 121 (V.int 8),mv 20 122]) (Qb [0,1,2,3,4,11,16,18,19,20,125] (.reg [mv 123 18,mv 124 19,bn 125 .lss 123 124]) (.cond (.t 125) (Qb [0,1,2,3,4,10,11,16] (.reg [mv 126 18,mv 127 20,bn 128 .geq 126 127,mv 10 128]) (Qb [0,2,3,4,10,11,16] (.reg [mv 129 0,mv 130 1,mv 131 16,mv 132 3,mv 133 4,cl 134 QM [129,130,131,132,133]]) (.reg [mv 135 16,bc 136 .add 135 (V.int 1),mv 1 136]))) (Qb [0,1,2,3,4,10,11,16] (.reg [mv 137 19,mv 138 20,bn 139 .geq 137 138,mv 10 139]) (Qb [0,1,3,4,10,11,16] (.reg [mv 140 0,mv 141 16,bc 142 .add 141 (V.int 1),mv 143 2,mv 144 3,mv 145 4,cl 146 QM [140,142,143,144,145]]) (.reg [mv 147 16,mv 2 147]))))))))))))))))))))) def dE:List Q0:=[]
def YH (Γ:Env) (f:Nat):Prop:=∀ (xs:List Qg) (lim:Int) (g:Nat) (c:Qg→Qg→Int) (hcmp:∀ x∈xs,∀ y∈xs,EvN Γ g [Qg.v x,Qg.v y] (V.int (c x y))) (hx:xs.length≤12),EvL Γ f [V.int 0,V.int xs.length,V.int lim,.clo g []] 8 (xs.map Qg.v) (.tup []) (((W7 (fun x y=>decide (c x y < 0)) xs).map Qg.v))
theorem Kw {Γ:Env} {f QU YD JP Yc J6 Jg JH Yv:Nat} (h:Has Γ.P f 148 (YV QU YD JP Yc J6 Jg JH Yv f) dE) (z0:JJ Γ QU):YH Γ f:=by
 intro xs lim g c hcmp hx
 refine qv h (by simp) (by simp only [V.closed,Qh,V.noSl,Ue,and_self,and_true,true_and]) fun C hC hm=>?_
 subst hC
 unfold YV
 have hi:=z0 xs 0 xs.length g c hcmp (by omega) (by omega) (by omega)
 rw [arl] at hi
 have hi0:EvL C.env QU [V.int 0,V.int xs.length,.clo g []] 8 (xs.map Qg.v) (.tup []) ((W7 (fun x y=>decide (c x y < 0)) xs).map Qg.v):=hi
 have hw:IntKind.i64.wrap ((xs.length:Int) - 0) = (xs.length:Int):=by rw [Q7 (by omega) (by omega)];omega
 have e1:decide ((xs.length:Int)≤12) = true:=by simp;omega
 refine zgo ?_;repeat' first|exact zt|apply zan|intro hc
 refine agO ?_
 (have zx:=za hw e1);refine zgo ?_;repeat' first|exact zt|apply zan|intro hc
 all_goals first|(refine wB _ rfl rfl (by simp only [go_sem]) ?_;done)|(refine wB _ rfl rfl (by simp only [go_sem]) ?_;rfl)|(refine wB _ rfl rfl (by simp only [go_sem]) ?_<;>first|rfl|(simp;done))
def XF (YG QM:Nat):AC:=Qb [0,1,4] (.reg [mv 5 0,ln 6 5,mv 4 6]) (.reg [mv 7 0,mv 8 4,mv 9 4,xo 10 (.convI .u64 (.t 9)),cl 11 YG [10],mv 12 1,xo 13 (.call QM [(.t 7),(.c (V.int 0)),(.t 8),(.t 11),(.t 12)])]) def dF:List Q0:=[]
def J3 (Γ:Env) (f:Nat):Prop:=∀ (xs:List Qg) (g:Nat) (c:Qg→Qg→Int) (hcmp:∀ x∈xs,∀ y∈xs,EvN Γ g [Qg.v x,Qg.v y] (V.int (c x y))) (hx:xs.length≤12),EvL Γ f [.clo g []] 8 (xs.map Qg.v) (.tup []) (((W7 (fun x y=>decide (c x y < 0)) xs).map Qg.v))
theorem VR {Γ:Env} {f YG QM:Nat} (h:Has Γ.P f 14 (XF YG QM) dF) (z0:W5 Γ YG) (z1:YH Γ QM):J3 Γ f:=by
 intro xs g c hcmp hx
 refine qv h (by simp) (by simp only [V.closed,Qh,V.noSl,Ue,and_self,and_true,true_and]) fun C hC hm=>?_
 subst hC
 unfold XF
 obtain ⟨lim,hlim⟩:=amh z0 xs.length hx
 have hi:=z1 xs lim g c hcmp hx
 have e:((xs.map Qg.v).length:Int) = (xs.length:Int):=by simp
 have hb:=hlim.b
 have hw:IntKind.u64.wrap (xs.length:Int) = (xs.length:Int):=aqJ (by omega) (by omega)
 (have zx:=za e hw);refine zgo ?_;repeat' first|exact zt|apply zan|intro hc
 all_goals first|(refine wB _ rfl rfl (by simp only [go_sem]) ?_;done)|(refine wB _ rfl rfl (by simp only [go_sem]) ?_;rfl)
def Wa:List (List Nat):=[[],[],[0,1],[2],[3],[3],[4,5,3],[6,3],[3],[3],[9,3],[8,10,3],[11,3],[7,12,3,3],[3,13]]
def XZ:OT:=och 0 15
@[go_sem] def Ym (Qs:Nat):OP:=oN 0 (mv 16 7) (oN 1 (mv 17 1) (oN 2 (bn 18 .gtr 16 17) (oN 3 (mv 19 18) (oN 4 (mg 20 0 19 true) (oN 5 (mg 21 7 19 true) (oN 6 (xg 22 (.iaddr 1 (.t 20) (.t 21)) 19 true) (oN 7 (xg 23 (.load false 1 (.t 22)) 19 true) (oN 8 (mg 24 0 19 true) (oN 9 (mg 25 7 19 true) (oN 10 (xg 26 (.bin .sub (.t 25) (.c (V.int 1))) 19 true) (oN 11 (xg 27 (.iaddr 1 (.t 24) (.t 26)) 19 true) (oN 12 (xg 28 (.load false 1 (.t 27)) 19 true) (oN 13 (xg 29 (.call Qs [(.t 23),(.t 28)]) 19 true) (oN 14 (xo 30 (.pick (.t 19) (.t 29) (.c (V.bool false)))) .done))))))))))))))
def X4 (Qs:Nat):List AO:=aoO (Ym Qs)
instance (Qs:Nat):RG [] XZ (Ym Qs) (X4 Qs) Wa 15 (fun _=>true):=⟨rfl,by kernel_rfl,by kernel_rfl⟩
def X3:List AO:=[mv 33 0,mv 34 7,mv 35 0,mv 36 7,bc 37 .sub 36 (V.int 1),mv 38 0,mv 39 7,bc 40 .sub 39 (V.int 1),ia 41 1 38 40,ld 42 1 41,mv 43 0,mv 44 7,ia 45 1 43 44,ld 46 1 45,ia 47 1 33 34,xs 1 47 42,ia 48 1 35 37,xs 1 48 46]
def X9:List (List Nat):=[[],[],[],[],[3],[],[],[6],[5,7],[8],[],[],[10,11],[12],[0,1,0,1,5,6,7,8,9,13],[14,9,0,1,5,6,7,8,9,13],[2,4,0,1,2,3,4,5,6,7,8,9,10,11,12,13,14,15],[16,13,15,0,1,2,3,4,5,6,7,8,9,10,11,12,13,14,15]]
def XY:OT:=.one 0 (.one 1 (.one 2 (.one 3 (.one 4 (.one 5 (.one 6 (.one 7 (.one 10 (.one 11 (.or 8 (.or 9 (.one 12 (.one 13 (.one 14 (.one 15 (.one 16 (.one 17 .done)))))) (.or 12 (.or 9 (.one 13 (.one 14 (.one 15 (.one 16 (.one 17 .done))))) (.or 13 (.one 9 (.one 14 (.one 15 (.one 16 (.one 17 .done))))) .done)) .done)) (.or 12 (.or 8 (.or 9 (.one 13 (.one 14 (.one 15 (.one 16 (.one 17 .done))))) (.or 13 (.one 9 (.one 14 (.one 15 (.one 16 (.one 17 .done))))) .done)) (.or 13 (.one 8 (.one 9 (.one 14 (.one 15 (.one 16 (.one 17 .done)))))) .done)) .done)))))))))))
@[go_sem] def XD:OP:=.one 14 true [] (ia 47 1 33 34) (.one 15 true [] (xs 1 47 42) (.one 16 true [] (ia 48 1 35 37) (.one 17 true [] (xs 1 48 46) .done)))
@[go_sem] def XC:OP:=.one 13 true [] (ld 46 1 45) XD
@[go_sem] def XB:OP:=.one 9 true [] (ld 42 1 41) XD
@[go_sem] def XA:OP:=.or 9 true [] (ld 42 1 41) XC (.or 13 true [] (ld 46 1 45) XB .done)
@[go_sem] def X1:OP:=oN 0 (mv 33 0) (oN 1 (mv 34 7) (oN 2 (mv 35 0) (oN 3 (mv 36 7) (oN 4 (bc 37 .sub 36 (V.int 1)) (oN 5 (mv 38 0) (oN 6 (mv 39 7) (oN 7 (bc 40 .sub 39 (V.int 1)) (oN 10 (mv 43 0) (oN 11 (mv 44 7) (.or 8 true [] (ia 41 1 38 40) (.or 9 true [] (ld 42 1 41) (.one 12 true [] (ia 45 1 43 44) XC) (.or 12 true [] (ia 45 1 43 44) XA .done)) (.or 12 true [] (ia 45 1 43 44) (.or 8 true [] (ia 41 1 38 40) XA (.or 13 true [] (ld 46 1 45) (.one 8 true [] (ia 41 1 38 40) XB) .done)) .done)))))))))))
instance:RG [8,9,12,13,14,16] XY (X1) (X3) X9 18 (fun _=>false):=⟨rfl,by kernel_rfl,by kernel_rfl⟩
def Wp (Qs:Nat):AC:=Qb [0,1,2,6] (.reg [mv 8 1,bc 9 .add 8 (V.int 1),mv 6 9]) (.block 0 (JG [0,1,2,6] (Qb [0,1,2,6] (Qb [0,1,2,6,12] (.reg [mv 10 6,mv 11 2,bn 12 .lss 10 11]) (.cond (.t 12) .skip (.exit 0))) (Qb [0,1,2,6] (.block 1 (Qb [0,1,2,6,7] (.reg [mv 15 6,mv 7 15]) (.block 2 (JG [0,1,2,6,7] (Qb [0,1,2,6,7] (Qb [0,1,2,6,7,30] (VD [] XZ (Ym Qs) (X4 Qs) Wa) (.cond (.t 30) .skip (.exit 2))) (Qb [0,1,2,6,7] (.block 3 (VD [8,9,12,13,14,16] XY (X1) (X3) X9)) (.reg [mv 31 7,bc 32 .sub 31 (V.int 1),mv 7 32]))))))) (.reg [mv 13 6,bc 14 .add 13 (V.int 1),mv 6 14]))))) def dG:List Q0:=[]
def Yw (Γ:Env) (f:Nat):Prop:=∀ (xs:List Int) (a b:Nat) (hab:a≤b) (hb:b≤xs.length) (hx:xs.length < 2 ^ 34),EvL Γ f [V.int a,V.int b] 1 (xs.map V.int) (.tup []) ((if a = b then xs.map V.int else (abw (fun x y:Int=>decide (x < y)) xs a b).map V.int))
attribute [local go_sem] Y1 in
theorem U5 {Γ:Env} {f Qs:Nat} (h:Has Γ.P f 49 (Wp Qs) dG) (z0:VC Γ Qs):Yw Γ f:=by
 intro xs a b hab hb hx
 refine qv h (by simp) (by simp only [V.closed,Qh,V.noSl,Ue,and_self,and_true,true_and]) fun C hC hm=>?_
 subst hC
 unfold Wp
 have hwa:=Qq (k:=a) (by omega)
 by_cases he:a = b
 ·subst he
  rw [if_pos rfl]
  have e1:decide (((a + 1:Nat):Int) < (a:Int)) = false:=by simp;omega
  (have zx:=hwa);refine zgo ?_;repeat' first|exact zt|apply zan|intro hc
  refine QC (ι:=Unit) (fun _=>True) (fun _=>Y1 [(0,.hd 0 0 (xs.map V.int).length),(1,V.int a),(2,V.int a),(6,V.int (a + 1:Nat))] [(0,.buf true 1 (xs.map V.int))] 1) (fun _=>0) () trivial (Qi []) (zwg []) fun j hj K'' hL2=>?_
  (have zx:=e1);refine zgo ?_;repeat' first|exact zt|apply zan|intro hc
  all_goals first|(refine wB _ rfl rfl (by simp only [go_sem]) ?_<;>first|rfl|(simp;done))
 ·rw [if_neg he]
  (have zx:=hwa);refine zgo ?_;repeat' first|exact zt|apply zan|intro hc
  generalize hlt:(fun x y:Int=>decide (x < y)) = lt
  have hlt2:∀ x y:Int,decide (x < y) = lt x y:=by intro x y;rw [← hlt]
  refine QC (ι:=Nat) (fun i=>a + 1≤i∧i≤b) (fun i=>Y1 [(0,.hd 0 0 (xs.map V.int).length),(1,V.int a),(2,V.int b),(6,V.int i)] [(0,.buf true 1 ((abw lt xs a i).map V.int))] 1) (fun i=>b - i) (a + 1) ⟨by omega,by omega⟩ (Qi []) (Qv [] zwa (by rw [aoH (by omega)];simp only [go_sem,zwl];(repeat' (first|rfl|apply za|omega|exact fun h=>h|exact Exists.intro _ rfl))) (by simp) (by simp) (by omega)) fun i hi K' hL=>?_
  obtain ⟨hi1,hi2⟩:=hi
  by_cases hib:i = b
  ·subst hib
   have e1:decide ((i:Int) < (i:Int)) = false:=by simp
   (have zx:=e1);refine zgo ?_;repeat' first|exact zt|apply zan|intro hc
   all_goals first|(refine wB _ rfl rfl (by simp only [go_sem]) ?_<;>first|rfl|(simp;done))
  ·have e1:decide ((i:Int) < (b:Int)) = true:=by simp;omega
   have hwi:=Qq (k:=i) (by omega)
   obtain ⟨x,hget⟩:∃ x,xs[i]? = some x:=⟨_,zb (by omega)⟩
   have hxm:x∈xs:=zm hget
   have hdx:xs.drop i = x :: xs.drop (i + 1):=by
    rw [ka (by omega)];congr 1
    rw [zb (by omega)] at hget;exact kQ hget
   have hP:(xs.take a).length = a:=by simp;omega
   have hS:(W7 lt ((xs.take i).drop a)).length = i - a:=by rw [af0];simp;omega
   have hSm:∀ y∈W7 lt ((xs.take i).drop a),y∈xs:=fun y hy=>zD (zF (aoG.1 hy))
   have hnext:abw lt xs a (i + 1) = xs.take a++(aj7 lt (W7 lt ((xs.take i).drop a)) x++xs.drop (i + 1)):=by
    have:(xs.take (i + 1)).drop a = (xs.take i).drop a++[x]:=by
     rw [zP,hget,Zo (by simp;omega)];rfl
    rw [abw,this,W7,Zq];rfl
   have hnow:abw lt xs a i = VG (xs.take a) (W7 lt ((xs.take i).drop a)) x (xs.drop (i + 1)) (i - a):=by
    rw [abw,hdx,VG,← hS,zJ,ZZ];rfl
   rw [hnow]
   generalize W7 lt ((xs.take i).drop a) = S at *
   have hPg:=hP
   generalize xs.take a = P at *
   have hR:(xs.drop (i + 1)).length = xs.length - (i + 1):=zZ
   generalize xs.drop (i + 1) = R at *
   (have zx:=e1);refine zgo ?_;repeat' first|exact zt|apply zan|intro hc
   refine QC (ι:=Nat) (fun q=>q≤i - a∧gK lt S x q = gK lt S x S.length) (fun q=>Y1 [(0,.hd 0 0 (xs.map V.int).length),(1,V.int a),(2,V.int b),(6,V.int i),(7,V.int (a + q:Nat))] [(0,.buf true 1 ((VG P S x R q).map V.int))] 1) (fun q=>q) (i - a) ⟨by omega,by rw [hS]⟩ (Qi []) (Qv [] (by rw [show a + (i - a) = i by omega];simp only [go_sem,zwl];(repeat' (first|rfl|apply za|omega|exact fun h=>h|exact Exists.intro _ rfl))) zwa (by simp) (by simp) (by omega)) fun q hq K'' hL2=>?_
   obtain ⟨hq1,hq2⟩:=hq
   have hfin:gK lt S x S.length = q→VG P S x R q = abw lt xs a (i + 1):=by
    intro h
    rw [hnext,aj7,h];simp only [VG,kf,List.singleton_append,List.cons_append,List.nil_append]
   have hlen:(VG P S x R q).length = xs.length:=by rw [aoE,hP,hS,hR];omega
   have gx:=auo (P:=P) (R:=R) (x:=x) (q:=q) (S:=S) (by omega)
   rw [hP] at gx
   rcases q with _|q
   ·have e2:decide (((a + 0:Nat):Int) > (a:Int)) = false:=by simp
    have hf:=hfin hq2.symm
    (have zx:=za e2 hwi);refine zgo ?_;repeat' first|exact zt|apply zan|intro hc
    rw [hf]
    exact hL _ (i + 1) (Qi []) ⟨by omega,by omega⟩ (by omega) (zwg [])
   ·have hqS:q < S.length:=by omega
    have e2:decide (((a + (q + 1):Nat):Int) > (a:Int)) = true:=zn (by omega)
    have hwj:IntKind.i64.wrap (((a + (q + 1):Nat):Int) - 1) = ((a + q:Nat):Int):=by rw [Q7 (by omega) (by omega)];omega
    have gy:=aun (P:=P) (R:=R) (x:=x) (q:=q) (S:=S) hqS
    rw [hP] at gy
    have hset:=aoD (P:=P) (R:=R) (x:=x) (q:=q) (S:=S) hqS
    rw [hP] at hset
    have hyd:S[q]? = some S[q]:=zb hqS
    have hym:S[q]∈xs:=hSm _ (zT hqS)
    rw [gK,hyd] at hq2
    dsimp only at hq2
    generalize S[q] = y at *
    have hcc:=(z0 x y).b
    have hd:=hlt2 x y
    have vx:(List.map V.int (VG P S x R (q + 1)))[a + (q + 1)]? = some (V.int x):=by rw [zi,gx];rfl
    have vy:(List.map V.int (VG P S x R (q + 1)))[a + q]? = some (V.int y):=by rw [zi,gy];rfl
    have hs1:((List.map V.int (VG P S x R (q + 1))).set (a + (q + 1)) (V.int y))[a + q]? = some (V.int y):=by
     rw [ZV (by omega),zi,gy];rfl
    have hs2:((List.map V.int (VG P S x R (q + 1))).set (a + (q + 1)) (V.int y)).set (a + q) (V.int x) = List.map V.int (VG P S x R q):=by
     rw [← hset,Zv,Zv]
    rcases hl:lt x y with _|_
    ·rw [hl] at hd
     simp only [hl,zw,if_false] at hq2
     have hf:=hfin hq2.symm
     (have zx:=za e2 (za hwi (za hwj (za vx (za vy hd)))));refine zgo ?_;repeat' first|exact zt|apply zan|intro hc
     all_goals
      rw [hf]
      exact hL _ (i + 1) (Qi []) ⟨by omega,by omega⟩ (by omega) (zwg [])
    ·rw [hl] at hd
     simp only [hl,if_true] at hq2
     (have zx:=za e2 (za hwi (za hwj (za vx (za vy (za hd (za hs1 hs2)))))));refine zgo ?_;repeat' first|exact zt|apply zan|intro hc
     all_goals exact hL2 _ q (Qi []) ⟨by omega,hq2⟩ (by omega) (zwg [])
def W3:List (List Nat):=[[],[0],[1],[2],[2],[4,2],[3,5,2],[6,2],[2],[2],[8,9,2],[10,2],[7,11,2,2],[12,2],[2,13]]
def WV:OT:=och 0 15
@[go_sem] def Xw (Qs:Nat):OP:=oN 0 (mv 73 1) (oN 1 (bc 74 .gtr 73 (V.int 0)) (oN 2 (mv 75 74) (oN 3 (mg 76 0 75 true) (oN 4 (mg 77 1 75 true) (oN 5 (xg 78 (.bin .sub (.t 77) (.c (V.int 1))) 75 true) (oN 6 (xg 79 (.iaddr 1 (.t 76) (.t 78)) 75 true) (oN 7 (xg 80 (.load false 1 (.t 79)) 75 true) (oN 8 (mg 81 0 75 true) (oN 9 (mg 82 11 75 true) (oN 10 (xg 83 (.iaddr 1 (.t 81) (.t 82)) 75 true) (oN 11 (xg 84 (.load false 1 (.t 83)) 75 true) (oN 12 (xg 85 (.call Qs [(.t 80),(.t 84)]) 75 true) (oN 13 (xg 86 (.un .not (.t 85)) 75 true) (oN 14 (xo 87 (.pick (.t 75) (.t 86) (.c (V.bool false)))) .done))))))))))))))
def WY (Qs:Nat):List AO:=aoO (Xw Qs)
instance (Qs:Nat):RG [] WV (Xw Qs) (WY Qs) W3 15 (fun _=>true):=⟨rfl,by kernel_rfl,by kernel_rfl⟩
def X8 (Q9 XM YE Y3 YU JC Qs Yu Xx QZ:Nat):AC:=Qb [0,1,2,3,8] (.reg [mc 8 (V.bool true)]) (Qb [0,1,2,3,8,9] (.reg [mc 9 (V.bool true)]) (.block 0 (JG [0,1,2,3,8,9] (.block 1 (Qb [0,1,2,3,8,9,10] (.reg [mv 19 2,mv 20 1,bn 21 .sub 19 20,mv 10 21]) (Qb [0,1,2,3,8,9,10] (Qb [0,1,2,3,8,9,10,23] (.reg [mv 22 10,bc 23 .leq 22 (V.int 12)]) (.cond (.t 23) (Qb [] (.reg [mv 24 0,mv 25 1,mv 26 2,cl 27 Q9 [24,25,26]]) .ret) .skip)) (Qb [0,1,2,3,8,9,10] (Qb [0,1,2,3,8,9,10,29] (.reg [mv 28 3,bc 29 .eql 28 (V.int 0)]) (.cond (.t 29) (Qb [] (.reg [mv 30 0,mv 31 1,mv 32 2,cl 33 XM [30,31,32]]) .ret) .skip)) (Qb [0,1,2,3,8,9,10] (Qb [0,1,2,3,8,9,10,35] (.reg [mv 34 8,xo 35 (.un .not (.t 34))]) (.cond (.t 35) (Qb [0,1,2,3,8,9,10] (.reg [mv 36 0,mv 37 1,mv 38 2,cl 39 YE [36,37,38]]) (.reg [mv 40 3,bc 41 .sub 40 (V.int 1),mv 3 41])) .skip)) (Qb [0,1,2,3,8,9,10,11,12] (.reg [mv 43 0,mv 44 1,mv 45 2,cl 46 Y3 [43,44,45],mv 42 46,ex 47 42 0,ex 48 42 1,mv 11 47,mv 12 48]) (Qb [0,1,2,3,8,9,10,11,12] (Qb [0,1,2,3,8,9,10,11,12,50] (.reg [mv 49 12,bc 50 .eql 49 (V.int 2)]) (.cond (.t 50) (Qb [0,1,2,3,8,9,10,11] (.reg [mv 51 0,mv 52 1,mv 53 2,cl 54 YU [51,52,53]]) (Qb [0,1,2,3,8,9,10,11] (.reg [mv 55 2,bc 56 .sub 55 (V.int 1),mv 57 11,mv 58 1,bn 59 .sub 57 58,bn 60 .sub 56 59,mv 11 60]) (.reg [mc 12 (V.int 1)]))) .skip)) (Qb [0,1,2,3,8,9,10,11] (Qb [0,1,2,3,8,9,10,11,68] (.reg [mv 61 8,mv 62 61,mg 63 9 62 true,xo 64 (.pick (.t 62) (.t 63) (.c (V.bool false))),mv 65 64,mg 66 12 65 true,xg 67 (.bin .eql (.t 66) (.c (V.int 1))) 65 true,xo 68 (.pick (.t 65) (.t 67) (.c (V.bool false)))]) (.cond (.t 68) (Qb [0,1,2,3,8,9,10,11,72] (.reg [mv 69 0,mv 70 1,mv 71 2,cl 72 JC [69,70,71]]) (.cond (.t 72) .ret .skip)) .skip)) (Qb [0,1,2,3,10,11] (Qb [0,1,2,3,8,9,10,11,87] (VD [] WV (Xw Qs) (WY Qs) W3) (.cond (.t 87) (Qb [0,2,3,8,9,13] (.reg [mv 88 0,mv 89 1,mv 90 2,mv 91 11,cl 92 Yu [88,89,90,91],mv 13 92]) (Qb [0,1,2,3,8,9] (.reg [mv 93 13,mv 1 93]) (.exit 1))) .skip)) (Qb [0,1,2,3,10,14,15] (.reg [mv 95 0,mv 96 1,mv 97 2,mv 98 11,cl 99 Xx [95,96,97,98],mv 94 99,ex 100 94 0,ex 101 94 1,mv 14 100,mv 15 101]) (Qb [0,1,2,3,9,10,14] (.reg [mv 102 15,mv 9 102]) (Qb [0,1,2,3,9,10,14,16,17] (.reg [mv 103 14,mv 104 1,bn 105 .sub 103 104,mv 106 2,mv 107 14,bn 108 .sub 106 107,mv 16 105,mv 17 108]) (Qb [0,1,2,3,9,14,16,17,18] (.reg [mv 109 10,bc 110 .quo 109 (V.int 8),mv 18 110]) (Qb [0,1,2,3,9,14,16,17,18,113] (.reg [mv 111 16,mv 112 17,bn 113 .lss 111 112]) (.cond (.t 113) (Qb [0,1,2,3,8,9,14] (.reg [mv 114 16,mv 115 18,bn 116 .geq 114 115,mv 8 116]) (Qb [0,2,3,8,9,14] (.reg [mv 117 0,mv 118 1,mv 119 14,mv 120 3,cl 121 QZ [117,118,119,120]]) (.reg [mv 122 14,bc 123 .add 122 (V.int 1),mv 1 123]))) (Qb [0,1,2,3,8,9,14] (.reg [mv 124 17,mv 125 18,bn 126 .geq 124 125,mv 8 126]) (Qb [0,1,3,8,9,14] (.reg [mv 127 0,mv 128 14,bc 129 .add 128 (V.int 1),mv 130 2,mv 131 3,cl 132 QZ [127,129,130,131]]) (.reg [mv 133 14,mv 2 133]))))))))))))))))))))) def dI:List Q0:=[]
def XR (Γ:Env) (f:Nat):Prop:=∀ (xs:List Int) (lim:Int) (hx:xs.length≤12),EvL Γ f [V.int 0,V.int xs.length,V.int lim] 1 (xs.map V.int) (.tup []) (((W7 (fun x y:Int=>decide (x < y)) xs).map V.int))
theorem yp {Γ:Env} {f Q9 XM YE Y3 YU JC Qs Yu Xx:Nat} (h:Has Γ.P f 134 (X8 Q9 XM YE Y3 YU JC Qs Yu Xx f) dI) (z0:Yw Γ Q9) (z1:VC Γ Qs):XR Γ f:=by
 intro xs lim hx
 refine qv h (by simp) (by simp only [V.closed,Qh,V.noSl,Ue,and_self,and_true,true_and]) fun C hC hm=>?_
 subst hC
 unfold X8
 have hi:=z0 xs 0 xs.length (by omega) (by omega) (by omega)
 rw [arl] at hi
 have hi0:EvL C.env Q9 [V.int 0,V.int xs.length] 1 (xs.map V.int) (.tup []) ((W7 (fun x y:Int=>decide (x < y)) xs).map V.int):=hi
 have hw:IntKind.i64.wrap ((xs.length:Int) - 0) = (xs.length:Int):=by rw [Q7 (by omega) (by omega)];omega
 have e1:decide ((xs.length:Int)≤12) = true:=by simp;omega
 refine zgo ?_;repeat' first|exact zt|apply zan|intro hc
 refine agO ?_
 (have zx:=za hw e1);refine zgo ?_;repeat' first|exact zt|apply zan|intro hc
 all_goals first|(refine wB _ rfl rfl (by simp only [go_sem]) ?_;done)|(refine wB _ rfl rfl (by simp only [go_sem]) ?_;rfl)|(refine wB _ rfl rfl (by simp only [go_sem]) ?_<;>first|rfl|(simp;done))
def Kz (YG QZ:Nat):AC:=Qb [0,2] (.reg [mv 3 0,ln 4 3,mv 2 4]) (.reg [mv 5 0,mv 6 2,mv 7 2,xo 8 (.convI .u64 (.t 7)),cl 9 YG [8],xo 10 (.call QZ [(.t 5),(.c (V.int 0)),(.t 6),(.t 9)])]) def dJ:List Q0:=[]
def WH (Γ:Env) (f:Nat):Prop:=∀ (xs:List Int) (hx:xs.length≤12),EvL Γ f [] 1 (xs.map V.int) (.tup []) (((W7 (fun x y:Int=>decide (x < y)) xs).map V.int))
theorem aaC {Γ:Env} {f YG QZ:Nat} (h:Has Γ.P f 11 (Kz YG QZ) dJ) (z0:W5 Γ YG) (z1:XR Γ QZ):WH Γ f:=by
 intro xs hx
 refine qv h (by simp) (by simp only [V.closed,Qh,V.noSl,Ue,and_self,and_true,true_and]) fun C hC hm=>?_
 subst hC
 unfold Kz
 obtain ⟨lim,hlim⟩:=amh z0 xs.length hx
 have hi:=z1 xs lim hx
 have e:((xs.map V.int).length:Int) = (xs.length:Int):=by simp
 have hb:=hlim.b
 have hw:IntKind.u64.wrap (xs.length:Int) = (xs.length:Int):=aqJ (by omega) (by omega)
 (have zx:=za e hw);refine zgo ?_;repeat' first|exact zt|apply zan|intro hc
 all_goals first|(refine wB _ rfl rfl (by simp only [go_sem]) ?_;done)|(refine wB _ rfl rfl (by simp only [go_sem]) ?_;rfl)
section
variable {α:Type}
def aj6 (eq:α→α→Bool):α→List α→List α
 | _,[]=>[]
 | p,x :: r=>if eq x p = true then aj6 eq x r else x :: aj6 eq x r
def aj8 (eq:α→α→Bool):List α→List α
 | []=>[]
 | x :: r=>x :: aj6 eq x r
end
def Vo:List (List Nat):=[[],[],[0,1],[2],[],[],[5],[4,6],[7],[3,8]]
def Ve:OT:=och 0 10
@[go_sem] def XL:OP:=oN 0 (mv 16 0) (oN 1 (mv 17 3) (oN 2 (ia 18 1 16 17) (oN 3 (ld 19 1 18) (oN 4 (mv 20 0) (oN 5 (mv 21 3) (oN 6 (bc 22 .sub 21 (V.int 1)) (oN 7 (ia 23 1 20 22) (oN 8 (ld 24 1 23) (oN 9 (bn 25 .eql 19 24) .done)))))))))
def Vg:List AO:=aoO (XL)
instance:RG [] Ve (XL) (Vg) Vo 10 (fun _=>true):=⟨rfl,by kernel_rfl,by kernel_rfl⟩
def Vn:List (List Nat):=[[],[],[0,1],[2],[],[],[5],[4,6],[7],[3,8]]
def Vd:OT:=och 0 10
@[go_sem] def XK:OP:=oN 0 (mv 35 4) (oN 1 (mv 36 5) (oN 2 (ia 37 1 35 36) (oN 3 (ld 38 1 37) (oN 4 (mv 39 4) (oN 5 (mv 40 5) (oN 6 (bc 41 .sub 40 (V.int 1)) (oN 7 (ia 42 1 39 41) (oN 8 (ld 43 1 42) (oN 9 (bn 44 .neq 38 43) .done)))))))))
def Vf:List AO:=aoO (XK)
instance:RG [] Vd (XK) (Vf) Vn 10 (fun _=>true):=⟨rfl,by kernel_rfl,by kernel_rfl⟩
def V1:AC:=Qb [0] (.reg [xo 2 (.mknil 1)]) (Qb [0] (Qb [0,8] (.reg [mv 6 0,ln 7 6,bc 8 .lss 7 (V.int 2)]) (.cond (.t 8) (Qb [2] (.reg [mv 9 0,mv 2 9]) .ret) .skip)) (Qb [0] (Qb [0,3] (.reg [mc 3 (V.int 1)]) (.block 0 (JG [0,3] (Qb [0,3] (Qb [0,3,13] (.reg [mv 10 3,mv 11 0,ln 12 11,bn 13 .lss 10 12]) (.cond (.t 13) .skip (.exit 0))) (Qb [0,3] (.block 1 (Qb [0,3,25] (VD [] Ve (XL) (Vg) Vo) (.cond (.t 25) (Qb [0,3,4] (.reg [mv 26 0,mv 27 3,xo 28 (.slsl 1 (.t 26) (some (.t 27)) none),mv 4 28]) (Qb [0,3] (Qb [0,3,4,5] (.reg [mc 5 (V.int 1)]) (.block 2 (JG [0,3,4,5] (Qb [0,3,4,5] (Qb [0,3,4,5,32] (.reg [mv 29 5,mv 30 4,ln 31 30,bn 32 .lss 29 31]) (.cond (.t 32) .skip (.exit 2))) (Qb [0,3,4,5] (.block 3 (Qb [0,3,4,5,44] (VD [] Vd (XK) (Vf) Vn) (.cond (.t 44) (Qb [0,3,4,5] (.reg [mv 45 0,mv 46 3,mv 47 4,mv 48 5,ia 49 1 47 48,ld 50 1 49,ia 51 1 45 46,xs 1 51 50]) (.reg [mv 52 3,bc 53 .add 52 (V.int 1),mv 3 53])) .skip))) (.reg [mv 33 5,bc 34 .add 33 (V.int 1),mv 5 34])))))) (Qb [0,3] (.reg [mv 54 0,mv 55 3,xo 56 (.slsl 1 (.t 54) (some (.t 55)) none),⟨none,.clrS 1 false [vi0] (.t 56),none⟩]) (Qb [2] (.reg [mv 57 0,mv 58 3,xo 59 (.slsl 1 (.t 57) none (some (.t 58))),mv 2 59]) .ret)))) .skip))) (.reg [mv 14 3,bc 15 .add 14 (V.int 1),mv 3 15])))))) (Qb [2] (.reg [mv 60 0,mv 2 60]) .ret))) def dK:List Q0:=[.tmp 2]
def Wb (Γ:Env) (f:Nat):Prop:=∀ (xs:List Int) (hx:xs.length < 2 ^ 34),EvZ Γ f [] 1 (xs.map V.int) ((aj8 (fun x y:Int ↦ x == y) xs).length) ((aj8 (fun x y:Int ↦ x == y) xs).map V.int++List.replicate (xs.length - (aj8 (fun x y:Int ↦ x == y) xs).length) (V.int 0))
theorem xe {Γ:Env} {f:Nat} (h:Has Γ.P f 61 V1 dK) :Wb Γ f:=by
 intro xs hx
 refine aks h (by simp) fun C hC hm=>?_
 subst hC
 unfold V1
 have hlen:(xs.map V.int).length = xs.length:=zd _
 generalize heq:(fun x y:Int=>x == y) = eq
 have heq2:∀ x y:Int,(x == y) = eq x y:=fun x y=>by rw [← heq]
 by_cases h2:xs.length < 2
 ·have e1:decide (((xs.map V.int).length:Int) < 2) = true:=zn (by rw [hlen];omega)
  have hg:aj8 eq xs = xs:=by
   match xs,h2 with
   | [],_=>rfl
   | [x],_=>rfl
  rw [hg,kF]
  repeat' (first|(refine zsk ?_;intro K' hK)|(refine zrg ?_;intro K' hK)|refine zsp ?_|(refine zsc ?_ ?_<;>intro hc<;>first|exact znh|try simp only [znz] at hc)|simp (maxSteps:=1000000) only [go_sem,e1]|(refine hK _ ?_;clear hK K')|apply zan|exact zsq|fail)
  all_goals first|(refine aoW _ rfl rfl rfl ?_ ?_<;>first|rfl|(simp;done))
 ·have e1:decide (((xs.map V.int).length:Int) < 2) = false:=zv (by rw [hlen];omega)
  repeat' (first|(refine zsk ?_;intro K' hK)|(refine zrg ?_;intro K' hK)|refine zsp ?_|(refine zsc ?_ ?_<;>intro hc<;>first|exact znh|try simp only [znz] at hc)|simp (maxSteps:=1000000) only [go_sem,e1]|(refine hK _ ?_;clear hK K')|apply zan|exact zsq|fail)
  refine Jc (ι:=Nat) (fun k=>1≤k∧k≤xs.length∧∃ p,xs[k - 1]? = some p∧aj8 eq xs = xs.take k++aj6 eq p (xs.drop k)) (fun k=>[(3,V.int k)]) (fun k=>xs.length - k) 1 (by omega) ⟨by omega,by omega,?_⟩ zol zlt zet fun k hk K' hL=>?_
  ·match xs,h2 with
   | x :: r,_=>exact ⟨x,rfl,rfl⟩
   | [],h2=>exact absurd (by simp) h2
  obtain ⟨hk1,hk2,p,hp,hinv⟩:=hk
  simp only [ovT,Xr,Nat.reduceEqDiff,reduceIte]
  by_cases hke:k = xs.length
  ·have e2:decide ((k:Int) < ((xs.map V.int).length:Int)) = false:=zv (by rw [hlen];omega)
   have hg:aj8 eq xs = xs:=by rw [hinv,hke,zJ,ZZ];simp [aj6]
   rw [hg,kF]
   repeat' (first|(refine zsk ?_;intro K' hK)|(refine zrg ?_;intro K' hK)|refine zsp ?_|(refine zsc ?_ ?_<;>intro hc<;>first|exact znh|try simp only [znz] at hc)|simp (maxSteps:=1000000) only [go_sem,e2]|(refine hK _ ?_;clear hK K')|apply zan|exact zsq|fail)
   all_goals first|(refine aoW _ rfl rfl rfl ?_ ?_<;>first|rfl|(simp;done))
  ·have e2:decide ((k:Int) < ((xs.map V.int).length:Int)) = true:=zn (by rw [hlen];omega)
   obtain ⟨y,hy⟩:∃ y,xs[k]? = some y:=⟨_,zb (by omega)⟩
   have hdy:xs.drop k = y :: xs.drop (k + 1):=by
    obtain ⟨h1,h2⟩:=zh.1 hy
    rw [ka h1,h2]
   rw [hdy,aj6] at hinv
   have hw:=Qq (k:=k) (by omega)
   have hwm:IntKind.i64.wrap ((k:Int) - 1) = ((k - 1:Nat):Int):=by rw [Q7 (by omega) (by omega)];omega
   have vy:(xs.map V.int)[k]? = some (V.int y):=by rw [zi,hy];rfl
   have vp:(xs.map V.int)[k - 1]? = some (V.int p):=by rw [zi,hp];rfl
   skip
   have hq:=heq2 y p
   have r1:((k:Int) < ((xs.map V.int).length:Int)) = True:=eq_true (by rw [hlen];omega)
   have r2:((k - 1:Nat):Int) < ((xs.map V.int).length:Int):=by rw [hlen];omega
   rcases hb:eq y p with _|_
   ·rw [hb] at hq
    simp only [hb,zw,if_false] at hinv
    repeat' (first|(refine zsk ?_;intro K' hK)|(refine zrg ?_;intro K' hK)|refine zsp ?_|(refine zsc ?_ ?_<;>intro hc<;>first|exact znh|try simp only [znz] at hc)|simp (maxSteps:=1000000) only [go_sem,e2,hw,hwm,Int.toNat_natCast,vy,vp,hq]|(refine hK _ ?_;clear hK K')|apply zan|exact zsq|fail)
    all_goals first
     | exact hL _ (k + 1) zet ⟨by omega,by omega,y,by rw [Nat.add_sub_cancel];exact hy,by rw [hinv,zP,hy];simp⟩ (by omega) zoe
     | exact r2
   ·rw [hb] at hq
    simp only [hb,if_true] at hinv
    repeat' (first|(refine zsk ?_;intro K' hK)|(refine zrg ?_;intro K' hK)|refine zsp ?_|(refine zsc ?_ ?_<;>intro hc<;>first|exact znh|try simp only [znz] at hc)|simp (maxSteps:=1000000) only [go_sem,e2,hw,hwm,Int.toNat_natCast,vy,vp,hq]|(refine hK _ ?_;clear hK K')|apply zan|exact zsq|fail)
    all_goals first
     | exact r2
     | skip
    refine QC (ι:=List Int×Nat×Nat) (fun q=>q.1.length = xs.length∧1≤q.2.2∧k + q.2.2≤xs.length∧k≤q.2.1∧q.2.1≤k + q.2.2 - 1∧q.1.drop (k + q.2.2 - 1) = xs.drop (k + q.2.2 - 1)∧∃ z,xs[k + q.2.2 - 1]? = some z∧aj8 eq xs = q.1.take q.2.1++aj6 eq z (xs.drop (k + q.2.2)))
     (fun q=>Y1 [(0,.hd 0 0 (xs.map V.int).length),(3,V.int q.2.1),(4,.hd 0 k (xs.length - k)),(5,V.int q.2.2)] [(0,.buf true 1 (q.1.map V.int))] 1) (fun q=>xs.length - q.2.2) (xs,k,1)
     ⟨rfl,by simp only;omega,by simp only;omega,by simp only;omega,by simp only;omega,rfl,y,by simp only [Nat.add_sub_cancel];exact hy,by rw [hinv]⟩ (Qi []) (Qv [] (by simp only [go_sem,zwl];first|done|(simp only [zd];(repeat' (first|rfl|apply za|omega|exact fun h=>h|exact Exists.intro _ rfl)))|(repeat' (first|rfl|apply za|omega|exact fun h=>h|exact Exists.intro _ rfl))) zwa (by simp) (by simp) (by omega)) fun q hq K2 hL2=>?_
    obtain ⟨B,w,j⟩:=q
    obtain ⟨hB,hj1,hj2,hw1,hw2,hdr,z,hz,hinv2⟩:=hq
    dsimp only at hB hj1 hj2 hw1 hw2 hdr hz hinv2
    have hBl:(B.map V.int).length = xs.length:=by rw [zd,hB]
    have hwj:=Qq (k:=j) (by omega)
    have hww:=Qq (k:=w) (by omega)
    by_cases hje:k + j = xs.length
    ·have e3:decide ((j:Int) < ((xs.length - k:Nat):Int)) = false:=zv (by omega)
     have hg:aj8 eq xs = B.take w:=by rw [hinv2,hje,ZZ];simp [aj6]
     have hgl:(aj8 eq xs).length = w:=by rw [hg,zM,hB];omega
     have r3:((w:Int)≤((xs.map V.int).length:Int)) = True:=eq_true (by rw [hlen];omega)
     rw [hgl,hg]
     repeat' (first|(refine zsk ?_;intro K' hK)|(refine zrg ?_;intro K' hK)|refine zsp ?_|(refine zsc ?_ ?_<;>intro hc<;>first|exact znh|try simp only [znz] at hc)|simp (maxSteps:=1000000) only [go_sem,Y1,e3,Int.toNat_natCast]|(refine hK _ ?_;clear hK K')|apply zan|exact zsq|fail)
     all_goals first
      | (rw [hlen];omega)
      | (refine aoW _ rfl rfl rfl ?_ ?_<;>first|rfl|(rw [bo (by rw [hBl,hlen];omega),kD,kj,hlen];first|done|rfl)|(simp;done))
    ·have e3:decide ((j:Int) < ((xs.length - k:Nat):Int)) = true:=zn (by omega)
     obtain ⟨u,hu⟩:∃ u,xs[k + j]? = some u:=⟨_,zb (by omega)⟩
     have hdu:xs.drop (k + j) = u :: xs.drop (k + j + 1):=by
      obtain ⟨h1,h2⟩:=zh.1 hu
      rw [ka h1,h2]
     rw [hdu,aj6] at hinv2
     have bz:B[k + (j - 1)]? = some z:=by
      have:(B.drop (k + j - 1))[0]? = (xs.drop (k + j - 1))[0]?:=by rw [hdr]
      rw [Zd,Zd,Nat.add_zero,hz] at this
      rw [← this];congr 1;omega
     have bu:B[k + j]? = some u:=by
      have:(B.drop (k + j - 1))[1]? = (xs.drop (k + j - 1))[1]?:=by rw [hdr]
      rw [Zd,Zd,show k + j - 1 + 1 = k + j by omega,hu] at this
      exact this
     have vz:(B.map V.int)[k + (j - 1)]? = some (V.int z):=by rw [zi,bz];rfl
     have vu:(B.map V.int)[k + j]? = some (V.int u):=by rw [zi,bu];rfl
     have bw:∃ t,B[w]? = some t:=⟨_,zb (by omega)⟩
     obtain ⟨t,bw⟩:=bw
     have vt:(B.map V.int)[w]? = some (V.int t):=by rw [zi,bw];rfl
     have hset:(B.map V.int).set w (V.int u) = (B.set w u).map V.int:=Zv.symm
     have hwm2:IntKind.i64.wrap ((j:Int) - 1) = ((j - 1:Nat):Int):=by rw [Q7 (by omega) (by omega)];omega
     skip
     have hq:=heq2 u z
     have r4:(((w:Int)) < ((xs.map V.int).length:Int)) = True:=eq_true (by rw [hlen];omega)
     have r5:((j:Int) < ((xs.length - k:Nat):Int)) = True:=eq_true (by omega)
     have r6:((((j - 1:Nat):Int)) < ((xs.length - k:Nat):Int)) = True:=eq_true (by omega)
     rcases hb2:eq u z with _|_
     ·rw [hb2] at hq
      simp only [hb2,zw,if_false] at hinv2
      repeat' (first|(refine zsk ?_;intro K' hK)|(refine zrg ?_;intro K' hK)|refine zsp ?_|(refine zsc ?_ ?_<;>intro hc<;>first|exact znh|try simp only [znz] at hc)|simp (maxSteps:=1000000) only [go_sem,Y1,e3,hwj,hww,hwm2,Int.toNat_natCast,vz,vu,vt,hset,hq,r4,r5,r6,bne]|(refine hK _ ?_;clear hK K')|apply zan|exact zsq|fail)
      all_goals first
       | exact hL2 _ (B.set w u,w + 1,j + 1) (Qi []) ⟨by simp only [zN];exact hB,by simp only;omega,by simp only;omega,by simp only;omega,by simp only;omega,by
          simp only
          rw [List.drop_set_of_lt (by omega),show k + (j + 1) - 1 = (k + j - 1) + 1 by omega,← Zg,hdr,Zg],u,by simp only;rw [show k + (j + 1) - 1 = k + j by omega];exact hu,by
          simp only
          rw [hinv2,show k + (j + 1) = k + j + 1 by omega,zP,ZK (by omega),List.take_set_of_le (zl _)];simp⟩ (by simp only;omega) (zwg [])
       | (rw [hlen];omega)
     ·rw [hb2] at hq
      simp only [hb2,if_true] at hinv2
      repeat' (first|(refine zsk ?_;intro K' hK)|(refine zrg ?_;intro K' hK)|refine zsp ?_|(refine zsc ?_ ?_<;>intro hc<;>first|exact znh|try simp only [znz] at hc)|simp (maxSteps:=1000000) only [go_sem,Y1,e3,hwj,hww,hwm2,Int.toNat_natCast,vz,vu,vt,hset,hq,r4,r5,r6,bne]|(refine hK _ ?_;clear hK K')|apply zan|exact zsq|fail)
      all_goals first
       | exact hL2 _ (B,w,j + 1) (Qi []) ⟨hB,by simp only;omega,by simp only;omega,by simp only;omega,by simp only;omega,by
          simp only
          rw [show k + (j + 1) - 1 = (k + j - 1) + 1 by omega,← Zg,hdr,Zg],u,by simp only;rw [show k + (j + 1) - 1 = k + j by omega];exact hu,by simp only;rw [hinv2,show k + (j + 1) = k + j + 1 by omega]⟩ (by simp only;omega) (zwg [])
theorem axe {fs:List Nat} (h:fs.Pairwise (· < ·)):W7 (fun x y:Int=>decide (x < y)) (fs.map fun n:Nat=>(n:Int)) = fs.map fun n:Nat=>(n:Int):=by
 have h1:=aoF (lt:=fun x y:Int=>decide (x < y)) (fun x y z h h'=>by simp at *;omega) (fun x y h=>by simp at *;omega) (fs.map fun n:Nat=>(n:Int))
 refine List.Perm.eq_of_pairwise (le:=fun x y:Int=>x≤y) (fun a b _ _ h1 h2=>by omega) (h1.imp fun {a b} h=>?_) ?_ aaA
 ·simp at h;omega
 ·rw [List.pairwise_map];exact h.imp fun {a b} h=>by omega
theorem aqL:∀ (r:List Nat) (p:Nat),(p :: r).Pairwise (· < ·)→aj6 (fun x y:Int=>x == y) (p:Int) (r.map fun n:Nat=>(n:Int)) = r.map fun n:Nat=>(n:Int)
 | [],_,_=>rfl
 | x :: r,p,h=>by
   have h1:p < x:=(ZJ.1 h).1 x kL
   have h2:=(ZJ.1 h).2
   have e:((x:Int) == (p:Int)) = false:=by rw [kM];omega
   rw [zI,aj6]
   simp only [e,zw,if_false]
   rw [aqL r x h2]
theorem awh {fs:List Nat} (h:fs.Pairwise (· < ·)):aj8 (fun x y:Int=>x == y) (fs.map fun n:Nat=>(n:Int)) = fs.map fun n:Nat=>(n:Int):=by
 rcases fs with _|⟨p,r⟩
 ·rfl
 ·rw [zI,aj8,aqL r p h]
theorem ajO (fs:List Nat):(fs.map fun n:Nat=>(n:Int)).map V.int = QF fs:=by
 rw [List.map_map];rfl
def aba:List (List Nat):=[[],[],[1],[2],[3],[4],[5,4],[6,4],[7,4],[8,4,4],[9],[9],[11,9],[12,9],[10,13,9],[14,9],[9],[16,9],[15,17,9],[9,18,4],[4,19],[0,9,0],[20,21,0,1,2,3,4,5,6,7,8,9,10,11,12,13,14,15,16,17,18,19,20,21]]
def aai:OT:=och 0 23
@[go_sem] def qm:OP:=oN 0 (mv 14 6) (oN 1 (mv 15 6) (oN 2 (ln 16 15) (oN 3 (bc 17 .eql 16 (V.int 0)) (oN 4 (mv 18 17) (oN 5 (mg 19 6 18 false) (oN 6 (xg 20 (.iaddr 1 (.t 19) (.c (V.int 0))) 18 false) (oN 7 (xg 21 (.load false 1 (.t 20)) 18 false) (oN 8 (xg 22 (.bin .geq (.t 21) (.c (V.int 0))) 18 false) (oN 9 (mg 23 22 18 false) (oN 10 (mg 24 6 23 true) (oN 11 (mg 25 6 23 true) (oN 12 (xg 26 (.lenL (.t 25)) 23 true) (oN 13 (xg 27 (.bin .sub (.t 26) (.c (V.int 1))) 23 true) (oN 14 (xg 28 (.iaddr 1 (.t 24) (.t 27)) 23 true) (oN 15 (xg 29 (.load false 1 (.t 28)) 23 true) (oN 16 (mg 30 0 23 true) (oN 17 (xg 31 (.lenL (.t 30)) 23 true) (oN 18 (xg 32 (.bin .lss (.t 29) (.t 31)) 23 true) (oN 19 (xg 33 (.pick (.t 23) (.t 32) (.c (V.bool false))) 18 false) (oN 20 (xo 34 (.pick (.t 18) (.c (V.bool true)) (.t 33))) (oN 21 (mv 4 14) (oN 22 (mv 5 34) .done))))))))))))))))))))))
def aat:List AO:=aoO (qm)
instance:RG [] aai (qm) (aat) aba 23 (fun _=>true):=⟨rfl,by kernel_rfl,by kernel_rfl⟩
def adv (QN XN YX:Nat):AC:=Qb [0,3] (.reg [xo 3 (.box true 4 (.t 1)),xo 4 (.mknil 1),mc 5 (V.bool false)]) (Qb [0,6] (.reg [fa 7 3 3,ld 8 1 7,cl 9 QN [8],mv 6 9]) (Qb [0,6] (.reg [mv 10 6,cl 11 XN [10]]) (Qb [0,6] (.reg [mv 12 6,cl 13 YX [12],mv 6 13]) (Qb [4,5] (VD [] aai (qm) (aat) aba) .ret)))) def dL:List Q0:=[.tmp 4,.tmp 5]
def jS (Γ:Env) (f:Nat):Prop:=∀ (l:List Qa) (e:Ji) (ha:e.finds.Pairwise (· < ·)) (hb:∀ i∈e.finds,i < l.length) (hn:e.finds.length≤12),EvC Γ f [.sl 11 (l.map Qa.v),e.v] (.tup [.sl 1 (QF e.finds),V.bool true])
attribute [local go_sem] zd in
theorem ai9 {Γ:Env} {f QN XN YX:Nat} (h:Has Γ.P f 35 (adv QN XN YX) dL) (z0:Xk Γ QN) (z1:WH Γ XN) (z2:Wb Γ YX):jS Γ f:=by
 intro l e ha hb hn
 refine Ju h zsi (by simp only [V.closed,Qh,and_self]) fun C hC hm=>?_
 subst hC
 unfold adv
 obtain ⟨num,hosts,machs,fs⟩:=e
 dsimp only at ha hb hn
 simp only [Ji.v]
 have gC:=z0 (fs.map fun n:Nat=>(n:Int)) (by rw [zd];omega)
 have gS:=z1 (fs.map fun n:Nat=>(n:Int)) (by rw [zd];omega)
 have gZ:=z2 (fs.map fun n:Nat=>(n:Int)) (by rw [zd];omega)
 rw [axe ha] at gS
 rw [awh ha] at gZ
 simp only [ajO,zd,kF,List.replicate_zero,kD] at gC gS gZ
 have hl:(QF fs).length = fs.length:=zd _
 have htk:List.take fs.length (QF fs) = QF fs:=zj (by omega)
 by_cases hf:fs = []
 ·subst hf
  have hp0:QF [] = []:=rfl
  simp only [hp0,List.length_nil,List.take_nil] at *
  (have zx:=htk);exact zg
 ·have hpos:0 < fs.length:=ZI.2 hf
  obtain ⟨p,hp0⟩:∃ p,fs[0]? = some p:=⟨_,zb hpos⟩
  obtain ⟨z,hz0⟩:∃ p,fs[fs.length - 1]? = some p:=⟨_,zb (by omega)⟩
  have hlt:=hb _ (zm hz0)
  have vl:(QF fs)[fs.length - 1]? = some (V.int (z:Nat)):=by rw [QF,zi,hz0];rfl
  have v0:(QF fs)[0]? = some (V.int (p:Nat)):=by rw [QF,zi,hp0];rfl
  have e0:((fs.length:Int) == 0) = false:=by rw [kM];omega
  have e1:decide ((p:Int)≥0) = true:=zn (by omega)
  have e2:decide ((z:Int) < (l.length:Int)) = true:=zn (by omega)
  have hw:IntKind.i64.wrap ((fs.length:Int) - 1) = ((fs.length - 1:Nat):Int):=by rw [Q7 (by omega) (by omega)];omega
  (have zx:=za htk (za hl (za v0 (za vl (za e0 (za e1 (za e2 hw)))))));refine zgo ?_;repeat' first|exact zt|apply zan|intro hc
  all_goals first|(refine Qr _ rfl ?_;simp only [go_sem];rw [htk];done)|(refine Qr _ rfl ?_;simp only [go_sem];rw [htk];first|done|exact ⟨_,_,rfl⟩)
theorem aax:∀ a:List UInt8,Op.bytesLess a a = false
 | []=>rfl
 | c :: r=>by
   rw [Op.bytesLess,aax r]
   simp
theorem qo:∀ a b c:List UInt8,Op.bytesLess a b = true→Op.bytesLess b c = true→Op.bytesLess a c = true
 | _,[],_,h,_=>by simp [Op.bytesLess] at h
 | _,_ :: _,[],_,h=>by simp [Op.bytesLess] at h
 | [],_ :: _,_ :: _,_,_=>rfl
 | x :: a,y :: b,z :: c,h1,h2=>by
   have ih:=qo a b c
   simp only [Op.bytesLess,kG,zo,zu,ki] at h1 h2 ⊢
   rcases h1 with h1|⟨rfl,h1⟩
   ·rcases h2 with h2|⟨rfl,h2⟩
    ·exact .inl (UInt8.lt_trans h1 h2)
    ·exact .inl h1
   ·rcases h2 with h2|⟨rfl,h2⟩
    ·exact .inl h2
    ·exact .inr ⟨rfl,ih h1 h2⟩
theorem aaw:∀ a b:List UInt8,Op.bytesLess a b = false→Op.bytesLess b a = false→a = b
 | [],[],_,_=>rfl
 | [],_ :: _,h,_=>by simp [Op.bytesLess] at h
 | _ :: _,[],_,h=>by simp [Op.bytesLess] at h
 | x :: a,y :: b,h1,h2=>by
   simp only [Op.bytesLess,Ze,ZO,zH,kM] at h1 h2
   have hxy:x = y:=by
    rcases UInt8.lt_or_eq_of_le (UInt8.not_lt.1 h1.1) with h|h
    ·exact absurd h h2.1
    ·exact h.symm
   subst hxy
   rw [aaw a b (by rcases h1.2 with h|h;exact absurd rfl h;exact h) (by rcases h2.2 with h|h;exact absurd rfl h;exact h)]
structure Cm {α:Type} (c:α→α→Int):Prop where
 neg:∀ a b,c b a = - c a b
 tr:∀ a b d,c a b≤0→c b d≤0→c a d≤0
 ze:∀ a b d,c a b≤0→c b d≤0→c a d = 0→c a b = 0
theorem Cm.ze2 {α:Type} {c:α→α→Int} (h:Cm c) (a b d:α) (h1:c a b≤0) (h2:c b d≤0) (h3:c a d = 0):c b d = 0:=by
 have h4:=h.ze a b d h1 h2 h3
 have h5:=h.neg a d
 have h6:=h.neg a b
 exact h.ze b d a h2 (by omega) (by omega)
theorem acd:Cm WN:=by
 refine ⟨fun a b=>?_,fun a b d=>?_,fun a b d=>?_⟩<;>(unfold WN;repeat' split)<;>omega
theorem amv {a b:List UInt8}:abi a b = 0→a = b:=by
 unfold abi
 rcases h1:Op.bytesLess a b with _|_
 ·rcases h2:Op.bytesLess b a with _|_
  ·intro _;exact aaw a b h1 h2
  ·simp
 ·simp
theorem amx {a b:Int}:WN a b = 0→a = b:=by
 unfold WN;(repeat' split)<;>omega
theorem atG {a b:List UInt8}:abi a b≤0↔Op.bytesLess b a = false:=by
 unfold abi
 rcases h1:Op.bytesLess a b with _|_
 ·rcases h2:Op.bytesLess b a with _|_<;>simp
 ·rcases h2:Op.bytesLess b a with _|_
  ·simp
  ·have:=qo a b a h1 h2
   rw [aax] at this;cases this
theorem ao6:Cm abi:=by
 have hneg:∀ a b,abi b a = - abi a b:=fun a b=>by
  unfold abi
  rcases h1:Op.bytesLess a b with _|_<;>rcases h2:Op.bytesLess b a with _|_<;>simp
  have:=qo a b a h1 h2
  rw [aax] at this;cases this
 have htr:∀ a b d,abi a b≤0→abi b d≤0→abi a d≤0:=fun a b d h1 h2=>by
  rw [atG] at *
  rcases h3:Op.bytesLess d a with _|_
  ·rfl
  ·rcases h4:Op.bytesLess a b with _|_
   ·have:=aaw a b h4 h1
    subst this;rw [h3] at h2;cases h2
   ·have:=qo d a b h3 h4
    rw [this] at h2;cases h2
 refine ⟨hneg,htr,fun a b d h1 h2 h3=>?_⟩
 have:=amv h3
 subst this
 have:=hneg a b
 omega
theorem Cm.lex {α:Type} {c1 c2:α→α→Int} (h1:Cm c1) (h2:Cm c2):Cm fun a b=>if c1 a b≠0 then c1 a b else c2 a b:=by
 refine ⟨fun a b=>?_,fun a b d g1 g2=>?_,fun a b d g1 g2 g3=>?_⟩
 ·have:=h1.neg a b
  have:=h2.neg a b
  show (if c1 b a≠0 then c1 b a else c2 b a) = - (if c1 a b≠0 then c1 a b else c2 a b)
  split<;>split<;>omega
 ·have e1:c1 a b≤0:=by split at g1<;>omega
  have e2:c1 b d≤0:=by split at g2<;>omega
  have e3:=h1.tr a b d e1 e2
  split
  ·exact e3
  ·rename_i h
   have h:=Classical.not_not.1 h
   have z1:=h1.ze a b d e1 e2 h
   have z2:=h1.ze2 a b d e1 e2 h
   rw [if_neg (by simpa using z1)] at g1
   rw [if_neg (by simpa using z2)] at g2
   exact h2.tr a b d g1 g2
 ·have e1:c1 a b≤0:=by split at g1<;>omega
  have e2:c1 b d≤0:=by split at g2<;>omega
  have h:c1 a d = 0:=by split at g3<;>omega
  have z1:=h1.ze a b d e1 e2 h
  have z2:=h1.ze2 a b d e1 e2 h
  rw [if_neg (by simpa using z1)] at g1 ⊢
  rw [if_neg (by simpa using z2)] at g2
  rw [if_neg (by simpa using h)] at g3
  exact h2.ze a b d g1 g2 g3
theorem Cm.by {α β:Type} {c:α→α→Int} (h:Cm c) (f:β→α):Cm fun a b=>c (f a) (f b) :=
 ⟨fun a b=>h.neg _ _,fun a b d=>h.tr _ _ _,fun a b d=>h.ze _ _ _⟩
theorem ahy:Cm amy:=by
 have h0:Cm fun _ _:Qg=>(0:Int):=⟨fun _ _=>rfl,fun _ _ _ _ _=>Int.le_refl _,fun _ _ _ _ _ _=>rfl⟩
 exact (ao6.by Qg.subj).lex ((acd.by Qg.kind).lex ((acd.by Qg.alg).lex ((acd.by Qg.bits).lex ((acd.by Qg.num).lex ((ao6.by Qg.text).lex h0)))))
theorem qq {x:Int} {r:List Int}:Jt (x :: r) = 0→x = 0∧Jt r = 0:=by
 rw [Jt]
 by_cases h:x≠0
 ·rw [if_pos h];intro h2;exact absurd h2 h
 ·rw [if_neg h];intro h2;exact ⟨Classical.not_not.1 h,h2⟩
theorem alQ {a b:Qg} (h:amy a b = 0):a.subj = b.subj∧a.kind = b.kind∧a.alg = b.alg∧a.bits = b.bits∧a.num = b.num∧a.text = b.text:=by
 obtain ⟨h1,h⟩:=qq h
 obtain ⟨h2,h⟩:=qq h
 obtain ⟨h3,h⟩:=qq h
 obtain ⟨h4,h⟩:=qq h
 obtain ⟨h5,h⟩:=qq h
 obtain ⟨h6,h⟩:=qq h
 exact ⟨amv h1,amx h2,amx h3,amx h4,amx h5,amv h6⟩
def ak8 (a b:Qg):Bool:=decide (amy a b < 0)
theorem anU (l:List Qg):Ord ak8 (W7 ak8 l):=by
 refine aoF (fun x y z h1 h2=>?_) (fun x y h=>?_) l
 ·simp only [ak8,zH,Int.not_lt] at *
  have a1:=ahy.neg y x
  have a2:=ahy.neg z y
  have a3:=ahy.neg z x
  have:=ahy.tr x y z (by omega) (by omega)
  omega
 ·simp only [ak8,zu,zH,Int.not_lt] at *
  have a1:=ahy.neg x y
  omega
theorem anT {l r:List Qg} (h:l.Perm r) (hd:∀ a∈l,∀ b∈l,amy a b = 0→a = b):W7 ak8 l = W7 ak8 r:=by
 refine List.Perm.eq_of_pairwise (le:=fun x y=>ak8 y x = false) (fun a b ha hb h1 h2=>?_) (anU l) (anU r) (aaA.trans (h.trans aaA.symm))
 refine hd a (aaA.mem_iff.1 ha) b (h.mem_iff.2 (aaA.mem_iff.1 hb)) ?_
 simp only [ak8,zH,Int.not_lt] at *
 have a1:=ahy.neg a b
 omega
abbrev PM:=List PPl×List Nat
def as9 (f g:Qa):Bool:=decide (f.day > g.day) || (f.day == g.day && decide (f.conf > g.conf))
def axS (l:List Qa) (day age:Int) (m:PM) (i:Nat):PM :=
 match l[i]? with
 | none=>m
 | some f=>if f.day > day∨f.day < day - age then m else
   match as8 (YY f) m.1 0 with
   | none=>(m.1++[YY f],m.2++[i])
   | some a=>match l[m.2.getD a 0]? with
     | none=>m
     | some g=>if as9 f g = true then (m.1,m.2.set a i) else m
def anh (l:List Qa) (day age:Int) (fs:List Nat):PM:=fs.foldl (axS l day age) ([],[])
theorem afY {p:PPl}:∀ {ks:List PPl} {i a:Nat},as8 p ks i = some a→i≤a∧a < i + ks.length∧ks[a - i]? = some p
 | [],i,a,h=>by cases h
 | e :: r,i,a,h=>by
   rw [as8] at h
   split at h
   ·rename_i he
    cases h
    subst he
    exact ⟨zl _,by simp,by simp⟩
   ·obtain ⟨h1,h2,h3⟩:=afY h
    refine ⟨by omega,by simp;omega,?_⟩
    rw [show a - i = (a - (i + 1)) + 1 by omega,List.getElem?_cons_succ];exact h3
theorem aj3 {p:PPl}:∀ {ks:List PPl} {i:Nat},as8 p ks i = none→p ∉ ks
 | [],_,_=>by simp
 | e :: r,i,h=>by
   rw [as8] at h
   split at h
   ·cases h
   ·rename_i he
    have:=aj3 h
    simp [he,this]
structure alF (l:List Qa) (m:PM) (n:Nat):Prop where
 len:m.1.length = m.2.length
 le:m.1.length≤n
 nd:m.1.Nodup
 pt:∀ (a i:Nat),m.2[a]? = some i→∃ f,l[i]? = some f∧m.1[a]? = some (YY f)
theorem alF.nil (l:List Qa):alF l ([],[]) 0:=⟨rfl,zl _,kz,fun a i h=>by simp at h⟩
theorem alF.step {l:List Qa} {day age:Int} {m:PM} {n i:Nat} (h:alF l m n):alF l (axS l day age m i) (n + 1):=by
 have h0:alF l m (n + 1):=⟨h.len,Zr h.le,h.nd,h.pt⟩
 obtain ⟨ks,vs⟩:=m
 rw [axS]
 rcases hf:l[i]? with _|f
 ·exact h0
 dsimp only
 split
 ·exact h0
 rcases hx:as8 (YY f) ks 0 with _|a
 ·have hn:=aj3 hx
  have hl:=h.len
  have hle:=h.le
  dsimp only at hl hle
  refine ⟨by simp [hl],by simp;omega,?_,fun a j hj=>?_⟩
  ·dsimp only
   rw [bj]
   exact ⟨h.nd,by simp,fun x hx y hy=>by rw [zq.1 hy];exact fun he=>hn (he ▸ hx)⟩
  ·dsimp only at *
   rcases Zs a vs.length with ha|ha|ha
   ·rw [zS ha] at hj
    obtain ⟨g,g1,g2⟩:=h.pt a j hj
    exact ⟨g,g1,by rw [zS (by omega)];exact g2⟩
   ·subst ha
    rw [Zw] at hj
    cases hj
    exact ⟨f,hf,by rw [← hl,Zw]⟩
   ·rw [zU (by simp;omega)] at hj;cases hj
 ·dsimp only
  rcases hg:l[vs.getD a 0]? with _|g
  ·exact h0
  dsimp only
  split
  ·obtain ⟨a1,a2,a3⟩:=afY hx
   have hl:=h.len
   dsimp only at hl
   refine ⟨by simp [hl],h0.le,h.nd,fun b j hj=>?_⟩
   dsimp only at *
   by_cases hb:a = b
   ·subst hb
    rw [ZK (by omega)] at hj
    cases hj
    exact ⟨f,hf,by simpa using a3⟩
   ·rw [ZV hb] at hj
    exact h.pt b j hj
  ·exact h0
theorem ahx (l:List Qa) (day age:Int) (fs:List Nat) (k:Nat) (hk:k≤fs.length):alF l (anh l day age (fs.take k)) k:=by
 induction k with
 | zero=>exact alF.nil l
 | succ k ih =>
   have hlt:k < fs.length:=by omega
   rw [anh,zP,zb hlt,Zq]
   exact (ih (by omega)).step
theorem ao1 {l:List Qa} {day age:Int} {fs:List Nat} {k i:Nat} (h:fs[k]? = some i):anh l day age (fs.take (k + 1)) = axS l day age (anh l day age (fs.take k)) i:=by
 rw [anh,zP,h,Zq];rfl
def Xn (num:Int) (i:Nat) (f:Qa):Qg:=⟨num,f.subj,f.kind,f.alg,f.bits,f.num,f.text,i⟩
def xc (l:List Qa) (num:Int) (i:Nat):Option Qg :=
 match l[i]? with
 | none=>none
 | some f=>if f.kind = 8 then none else some (Xn num i f)
def je (l:List Qa) (num:Int) (fs:List Nat) (day age:Int):List Qg:=W7 ak8 ((anh l day age fs).2.filterMap (xc l num))
def anG (l:List Qa) (num:Int) (vs is:List Nat):List Qg:=is.filterMap fun a=>(vs[a]?).bind (xc l num)
theorem anL (l:List Qa) (num:Int):∀ vs:List Nat,anG l num vs (List.range vs.length) = vs.filterMap (xc l num)
 | []=>rfl
 | x :: r=>by
   have ih:=anL l num r
   rw [anG] at ih ⊢
   rw [List.length_cons,List.range_succ_eq_map,List.filterMap_cons,List.filterMap_map,List.filterMap_cons]
   simp only [List.getElem?_cons_zero,Option.bind_some]
   have:(fun a=>((x :: r)[a]?).bind (xc l num)) ∘ Nat.succ = fun a=>(r[a]?).bind (xc l num):=by
    funext a;simp
   rw [this,ih]
theorem avh {l:List Qa} {num day age:Int} {fs is:List Nat} (hd:is.Nodup) (hb:∀ a∈is,a < (anh l day age fs).2.length) (he:∀ a,a < (anh l day age fs).2.length→a∈is):W7 ak8 (anG l num (anh l day age fs).2 is) = je l num fs day age:=by
 have hok:=ahx l day age fs fs.length (zl _)
 rw [zJ] at hok
 rw [je,← anL]
 generalize anh l day age fs = m at *
 obtain ⟨ks,vs⟩:=m
 dsimp only at *
 have hp:is.Perm (List.range vs.length):=by
  rw [List.perm_ext_iff_of_nodup hd bs]
  intro a
  rw [k9]
  exact ⟨hb a,he a⟩
 refine anT (hp.filterMap _) fun a ha b hb2 h0=>?_
 obtain ⟨h1,h2,h3,h4,h5,h6⟩:=alQ h0
 have key:∀ c,c∈anG l num vs is→∃ (p i:Nat) (f:Qa),vs[p]? = some i∧l[i]? = some f∧f.kind≠8∧c = Xn num i f:=fun c hc=>by
  rw [anG,bf] at hc
  obtain ⟨p,_,hc⟩:=hc
  rcases hv:vs[p]? with _|i
  ·rw [hv] at hc;cases hc
  ·rw [hv,Option.bind_some,xc] at hc
   rcases hf:l[i]? with _|f
   ·rw [hf] at hc;cases hc
   ·rw [hf] at hc
    dsimp only at hc
    split at hc
    ·cases hc
    ·rename_i h8
     exact ⟨p,i,f,hv,hf,h8,(kQ hc).symm⟩
 obtain ⟨p,i,f,p1,p2,p3,rfl⟩:=key a ha
 obtain ⟨q,j,g,q1,q2,q3,rfl⟩:=key b hb2
 simp only [Xn] at h1 h2 h3 h4 h5 h6
 obtain ⟨f',r1,r2⟩:=hok.pt p i p1
 obtain ⟨g',s1,s2⟩:=hok.pt q j q1
 rw [p2] at r1;cases r1
 rw [q2] at s1;cases s1
 have hpl:YY f = YY g:=by
  simp only [YY]
  rw [h1,h2,h3,h4,h5,h6]
 have hpq:p = q:=by
  have l1:=(zh.1 r2).1
  rw [hpl,← s2] at r2
  exact (bp l1 hok.nd).1 r2
 subst hpq
 rw [p1] at q1;cases q1
 rw [p2] at q2;cases q2
 rfl
def fcE (e:Ji):List V:=[V.int e.num,.sl 1 (e.hosts.map V.str),.sl 1 (e.machs.map V.int),.sl 1 (QF e.finds)]
def ac7 (l:List Qa) (e:Ji) (day age:Int) (k:Nat) (m:PM):St:=Y1 [(0,.sl 11 (l.map Qa.v)),(2,V.int day),(3,V.int age),(5,.ptr 0 0),(12,.mp 1),(51,.sl 1 (QF e.finds)),(52,V.int e.finds.length),(53,V.int k)] [(0,.box true (fcE e)),(1,.map (m.1.map PPl.v) (QF m.2) 0)] 2
def ake (l:List Qa) (e:Ji) (m:PM) (is:List Nat):St:=Y1 [(0,.sl 11 (l.map Qa.v)),(5,.ptr 0 0),(18,.hd 3 0 (anG l e.num m.2 is).length),(118,.ptr 2 0)] [(0,.box true (fcE e)),(1,.map (m.1.map PPl.v) (QF m.2) 0),(2,.iter 1 m.2.length is m.2.length),(3,.buf true 8 ((anG l e.num m.2 is).map Qg.v))] 4
def adH:List (List Nat):=[[],[0],[1],[2],[3,2],[2],[2],[5,6,2],[7,2],[8,2],[4,9,2],[2,10],[11,2],[12],[13,12],[12],[12],[15,16,12],[17,12],[18,12],[14,19,12],[20,12,12],[21],[22,21],[21],[21],[24,25,21],[26,21],[27,21],[23,28,21],[21,29,12],[12,30]]
def acO:OT:=och 0 32
@[go_sem] def yT:OP:=oN 0 (mv 80 17) (oN 1 (xo 81 (.un .not (.t 80))) (oN 2 (mv 82 81) (oN 3 (xg 83 (.faddr 3 (.t 15)) 82 false) (oN 4 (xg 84 (.load false 1 (.t 83)) 82 false) (oN 5 (mg 85 0 82 false) (oN 6 (mg 86 16 82 false) (oN 7 (xg 87 (.iaddr 11 (.t 85) (.t 86)) 82 false) (oN 8 (xg 88 (.faddr 3 (.t 87)) 82 false) (oN 9 (xg 89 (.load false 1 (.t 88)) 82 false) (oN 10 (xg 90 (.bin .gtr (.t 84) (.t 89)) 82 false) (oN 11 (xo 91 (.pick (.t 82) (.c (V.bool true)) (.t 90))) (oN 12 (mv 92 91) (oN 13 (xg 93 (.faddr 3 (.t 15)) 92 false) (oN 14 (xg 94 (.load false 1 (.t 93)) 92 false) (oN 15 (mg 95 0 92 false) (oN 16 (mg 96 16 92 false) (oN 17 (xg 97 (.iaddr 11 (.t 95) (.t 96)) 92 false) (oN 18 (xg 98 (.faddr 3 (.t 97)) 92 false) (oN 19 (xg 99 (.load false 1 (.t 98)) 92 false) (oN 20 (xg 100 (.bin .eql (.t 94) (.t 99)) 92 false) (oN 21 (mg 101 100 92 false) (oN 22 (xg 102 (.faddr 4 (.t 15)) 101 true) (oN 23 (xg 103 (.load false 1 (.t 102)) 101 true) (oN 24 (mg 104 0 101 true) (oN 25 (mg 105 16 101 true) (oN 26 (xg 106 (.iaddr 11 (.t 104) (.t 105)) 101 true) (oN 27 (xg 107 (.faddr 4 (.t 106)) 101 true) (oN 28 (xg 108 (.load false 1 (.t 107)) 101 true) (oN 29 (xg 109 (.bin .gtr (.t 103) (.t 108)) 101 true) (oN 30 (xg 110 (.pick (.t 101) (.t 109) (.c (V.bool false))) 92 false) (oN 31 (xo 111 (.pick (.t 92) (.c (V.bool true)) (.t 110))) .done)))))))))))))))))))))))))))))))
def ac4:List AO:=aoO (yT)
instance:RG [] acO (yT) (ac4) adH 32 (fun _=>true):=⟨rfl,by kernel_rfl,by kernel_rfl⟩
def agN (Kv Yk aaB Jd Vs:Nat):AC:=Qb [0,2,3,5] (.reg [xo 5 (.box true 4 (.t 1)),xo 8 (.mknil 8),mc 9 (V.int 0)]) (Qb [0,2,3,5,10,11] (.reg [mv 23 0,xo 24 (.load true 4 (.t 5)),cl 25 Kv [23,24],mv 22 25,ex 26 22 0,ex 27 22 1,mv 10 26,mv 11 27]) (Qb [0,2,3,5,10] (.block 0 (Qb [0,2,3,5,10,11,28] (.reg [mv 29 0,cl 30 Yk [29],xo 31 (.un .not (.t 30)),mv 28 31]) (.cond (.t 28) (Qb [8,9] (.reg [xo 8 (.mknil 8),mc 9 (V.int 24)]) .ret) (Qb [0,2,3,5,10,11,32] (.reg [mv 33 2,bc 34 .lss 33 (V.int 0),mv 35 34,mg 36 2 35 false,xg 37 (.bin .gtr (.t 36) (.c (V.int 40000))) 35 false,xo 38 (.pick (.t 35) (.c (V.bool true)) (.t 37)),mv 39 38,mg 40 3 39 false,xg 41 (.bin .lss (.t 40) (.c (V.int 0))) 39 false,xo 42 (.pick (.t 39) (.c (V.bool true)) (.t 41)),mv 43 42,mg 44 3 43 false,xg 45 (.bin .gtr (.t 44) (.c (V.int 4000))) 43 false,xo 46 (.pick (.t 43) (.c (V.bool true)) (.t 45)),mv 32 46]) (.cond (.t 32) (Qb [8,9] (.reg [xo 8 (.mknil 8),mc 9 (V.int 2)]) .ret) (Qb [0,2,3,5,10,47] (.reg [mv 48 11,xo 49 (.un .not (.t 48)),mv 47 49]) (.cond (.t 47) (Qb [8,9] (.reg [xo 8 (.mknil 8),mc 9 (V.int 4)]) .ret) .skip))))))) (Qb [0,2,3,5,10,12] (.reg [xo 50 (.mkmap),mv 12 50]) (Qb [0,5,12] (Qb [0,2,3,5,12,51,52,53] (.reg [mv 51 10,ln 52 51,mc 53 (V.int 0)]) (.block 1 (JG [0,2,3,5,12,51,52,53] (Qb [0,2,3,5,12,51,52,53,54] (.reg [bn 54 .lss 53 52]) (Qb [0,2,3,5,12,51,52,53] (.cond (.t 54) .skip (.exit 1)) (Qb [0,2,3,5,12,51,52,53] (.block 2 (Qb [0,2,3,5,12,14,51,52,53] (.reg [ia 55 1 51 53,ld 56 1 55,mv 14 56]) (Qb [0,2,3,5,12,14,15,51,52,53] (.reg [mv 57 0,mv 58 14,ia 59 11 57 58,xo 60 (.load true 11 (.t 59)),xo 15 (.alloc [.val vi0,.val vs0,.val vi0,.val vi0,.val vi0,.val vi0,.val vs0,.val vi0,.val vi0,.val vi0,.val vs0]),xs 11 15 60]) (Qb [0,2,3,5,12,14,15,51,52,53] (Qb [0,2,3,5,12,14,15,51,52,53,72] (.reg [fa 61 3 15,ld 62 1 61,mv 63 2,bn 64 .gtr 62 63,mv 65 64,xg 66 (.faddr 3 (.t 15)) 65 false,xg 67 (.load false 1 (.t 66)) 65 false,mg 68 2 65 false,mg 69 3 65 false,xg 70 (.bin .sub (.t 68) (.t 69)) 65 false,xg 71 (.bin .lss (.t 67) (.t 70)) 65 false,xo 72 (.pick (.t 65) (.c (V.bool true)) (.t 71))]) (.cond (.t 72) (.exit 2) .skip)) (Qb [0,2,3,5,12,14,15,16,17,51,52,53] (.reg [mv 74 12,xo 75 (.load true 11 (.t 15)),cl 76 aaB [75],xo 77 (.mapget true false [vi0] true [1,1,0,0,0,0] (.t 74) (.t 76)),mv 73 77,ex 78 73 0,ex 79 73 1,mv 16 78,mv 17 79]) (Qb [0,2,3,5,12,14,15,51,52,53,111] (VD [] acO (yT) (ac4) adH) (.cond (.t 111) (.reg [mv 112 12,xo 113 (.load true 11 (.t 15)),cl 114 aaB [113],mv 115 14,⟨none,.mapset true [1,1,0,0,0,0] (.t 112) (.t 114) (.t 115),none⟩]) .skip))))))) (.reg [bc 116 .add 53 (V.int 1),mv 53 116]))))))) (Qb [0,5,12,18] (.reg [xo 18 (.mknil 8)]) (Qb [18] (Qb [0,5,18,118] (.reg [mv 117 12,xo 118 (.rng (.t 117))]) (.block 3 (JG [0,5,18,118] (Qb [0,5,18,118,120] (.reg [xo 119 (.nxt (.t 118)),ex 120 119 0]) (Qb [0,5,18,118] (.cond (.t 120) .skip (.exit 3)) (.block 4 (Qb [0,5,18,20,118] (.reg [xo 121 (.ent (.t 118)),ex 122 121 1,mv 20 122]) (Qb [0,5,18,20,21,118] (.reg [mv 123 0,mv 124 20,ia 125 11 123 124,xo 126 (.load true 11 (.t 125)),xo 21 (.alloc [.val vi0,.val vs0,.val vi0,.val vi0,.val vi0,.val vi0,.val vs0,.val vi0,.val vi0,.val vi0,.val vs0]),xs 11 21 126]) (Qb [0,5,18,20,21,118,129] (.reg [fa 127 5 21,ld 128 1 127,bc 129 .neq 128 (V.int 8)]) (.cond (.t 129) (.reg [mv 130 18,fa 131 0 5,ld 132 1 131,fa 133 6 21,ld 134 1 133,fa 135 5 21,ld 136 1 135,fa 137 7 21,xo 138 (.load true 2 (.t 137)),fa 139 9 21,ld 140 1 139,fa 141 10 21,ld 142 1 141,mv 143 20,xo 144 (.build [vi0,vs0,vi0,vi0,vi0,vi0,vs0,vi0] [(0,1,(.t 132)),(1,1,(.t 134)),(2,1,(.t 136)),(3,2,(.t 138)),(5,1,(.t 140)),(6,1,(.t 142)),(7,1,(.t 143))]),xo 145 (.bslice 1 8 true [vi0,vs0,vi0,vi0,vi0,vi0,vs0,vi0] [(0,(.t 144))]),xo 146 (.append 8 80 [vi0,vs0,vi0,vi0,vi0,vi0,vs0,vi0] (.t 130) (.t 145)),mv 18 146]) .skip)))))))))) (Qb [18] (.reg [mv 147 18,xo 148 (.call Jd [(.t 147),(.c (.clo Vs []))])]) (Qb [8,9] (.reg [mv 149 18,mv 8 149,mc 9 (V.int 0)]) .ret)))))))) def dN:List Q0:=[.tmp 8,.tmp 9]
def v6 (Γ:Env) (f:Nat):Prop:=∀ (l:List Qa) (e:Ji) (day age:Int) (hl:l.length < 2 ^ 40) (hz:∀ x∈l,x.Sz) (hnm:WJ l = true) (hdy:0≤day∧day≤40000) (hag:0≤age∧age≤4000) (ha:e.finds.Pairwise (· < ·)) (hb:∀ i∈e.finds,i < l.length) (hn:e.finds.length≤12),EvC Γ f [.sl 11 (l.map Qa.v),e.v,V.int day,V.int age] (.tup [.sl 8 ((je l e.num e.finds day age).map Qg.v),V.int 0])
theorem alu {Γ:Env} {f Kv Yk aaB Jd Vs:Nat} (h:Has Γ.P f 150 (agN Kv Yk aaB Jd Vs) dN) (z0:jS Γ Kv) (z1:VZ Γ Yk) (z2:afw Γ aaB) (z3:J3 Γ Jd) (z4:jT Γ Vs):v6 Γ f:=by
 intro l e day age hl hz hnm hdy hag ha hb hn
 refine Ju h zsi (by simp only [V.closed,Qh,and_self]) fun C hC hm=>?_
 subst hC
 unfold agN
 have gI:=z0 l e ha hb hn
 have gN:=z1 l hl hz
 rw [hnm] at gN
 have gN:=gN.b
 have d1:decide (day < 0) = false:=zv (by omega)
 have d2:decide (day > 40000) = false:=zv (by omega)
 have d3:decide (age < 0) = false:=zv (by omega)
 have d4:decide (age > 4000) = false:=zv (by omega)
 have hpc:(QF e.finds).length = e.finds.length:=zd _
 simp only [Ji.v] at gI ⊢
 repeat' (first|(refine zsk ?_;intro K' hK)|(refine zrg ?_;intro K' hK)|refine zsp ?_|(refine zsc ?_ ?_<;>intro hc<;>first|exact znh|try simp only [znz] at hc)|simp (maxSteps:=1000000) only [go_sem,d1,d2,d3,d4,hpc]|(refine hK _ ?_;clear hK K')|apply zan|(apply jk;(focus exact rfl);(focus first|exact (z3 _ _ _ zsd zsd));(focus exact rfl);(focus (first|(simp;done)|omega|(simp only [zd];omega))))|((first|apply QR|apply QG);(focus first|exact C gI|exact gN|exact (z0 _ _ zsd zsd zsd).b|exact (z1 _ zsd zsd).b|exact (z2 _).b|exact (z4 _ _).b))|exact zsq|fail)
 refine QC (ι:=Nat) (fun k=>k≤e.finds.length) (fun k=>ac7 l e day age k (anh l day age (e.finds.take k))) (fun k=>e.finds.length - k) 0 (zG _) (Qi [(1,33000)]) (Qv [(1,33000)] (by simp only [go_sem,zwl,ac7,fcE,zd]<;>exact zcc) (by simp only [go_sem,zwl,ac7,fcE,QB,QT]<;>exact zcc) (by simp [ac7,Qi]) (by simp [ac7];omega) (by omega)) fun k hk K' hL=>?_
 have hM:=ahx l day age e.finds k hk
 rcases hdr:e.finds.drop k with _|⟨i,r⟩
 ·have hkl:=QY hdr
  have e1:decide ((k:Int) < (e.finds.length:Int)) = false:=by simp;omega
  obtain rfl:k = e.finds.length:=by omega
  clear hL
  rw [zJ] at hM ⊢
  have hvs:=fun is hd hb he=>avh (l:=l) (num:=(e.num:Int)) (day:=day) (age:=age) (fs:=e.finds) (is:=is) hd hb he
  generalize anh l day age e.finds = m at *
  have hkl:m.1.length = m.2.length:=hM.len
  repeat' (first|(refine zsk ?_;intro K' hK)|(refine zrg ?_;intro K' hK)|refine zsp ?_|(refine zsc ?_ ?_<;>intro hc<;>first|exact znh|try simp only [znz] at hc)|simp (maxSteps:=1000000) only [go_sem,ac7,fcE,Y1,e1,hkl,zd,kp]|(refine hK _ ?_;clear hK K')|apply zan|(apply jk;(focus exact rfl);(focus first|exact (z3 _ _ _ zsd zsd));(focus exact rfl);(focus (first|(simp;done)|omega|(simp only [zd];omega))))|((first|apply QR|apply QG);(focus first|exact (z0 _ _ zsd zsd zsd).b|exact (z1 _ zsd zsd).b|exact (z2 _).b|exact (z4 _ _).b))|exact zsq|fail)
  have hv0:anG l e.num m.2 [] = []:=rfl
  refine QC (ι:=List Nat) (fun is=>is.Nodup∧∀ a∈is,a < m.2.length) (fun is=>ake l e m is) (fun is=>m.2.length - is.length) [] ⟨kz,by simp⟩ (Qi [(3,1002),(2,3002)]) (Qv [(3,1002),(2,3002)] (by simp only [go_sem,zwl,ake,fcE,hv0,List.length_nil,zO,zd]<;>exact zcc) (by simp only [go_sem,zwl,ake,fcE,hv0,List.length_nil,zO,QB,QT]<;>exact zcc) (by simp [ake,Qi]) (by simp [ake];omega) (by omega)) fun is his K' hL=>?_
  obtain ⟨his1,his2⟩:=his
  have hln:∀ js:List Nat,js.Nodup→(∀ a∈js,a < m.2.length)→js.length≤m.2.length:=fun js h1 h2=>by
   have:=List.Nodup.length_le_of_subset h1 (fun a ha=>k9.2 (h2 a ha))
   rwa [kX] at this
  have hvl:(anG l e.num m.2 is).length≤is.length:=List.length_filterMap_le _ _
  have hil:=hln is his1 his2
  have hml:=hM.le
  rcases hun:ajC 0 m.2.length is with _|⟨u,us⟩
  ·have hall:∀ a,a < m.2.length→a∈is:=fun a ha=>by
    by_cases hin:a∈is
    ·exact hin
    ·have:a∈ajC 0 m.2.length is:=ad2.2 ⟨ha,by rwa [kp]⟩
     rw [hun] at this;cases this
   have hsort:=hvs is his1 his2 hall
   clear hL hvs
   simp only [ake,fcE]
   generalize anG l e.num m.2 is = out at *
   have hol:out.length≤12:=by omega
   have gT:=z3 out Vs amy (fun x _ y _=>z4 x y) hol
   have d5:(fun x y:Qg=>decide (amy x y < 0)) = ak8:=rfl
   rw [d5,hsort] at gT
   have htk:List.take out.length ((je l e.num e.finds day age).map Qg.v) = (je l e.num e.finds day age).map Qg.v:=zj (by rw [zd,← hsort,af0];omega)
   repeat' (first|(refine zsk ?_;intro K' hK)|(refine zrg ?_;intro K' hK)|refine zsp ?_|(refine zsc ?_ ?_<;>intro hc<;>first|exact znh|try simp only [znz] at hc)|simp (maxSteps:=1000000) only [go_sem,Y1,hkl,zd,kp,hun,htk]|(refine hK _ ?_;clear hK K')|apply zan|(apply jk;(focus exact rfl);(focus first|exact gT|exact (z3 _ _ _ zsd zsd));(focus exact rfl);(focus (first|(simp;done)|omega|(simp only [zd];omega))))|((first|apply QR|apply QG);(focus first|exact (z0 _ _ zsd zsd zsd).b|exact (z1 _ zsd zsd).b|exact (z2 _).b|exact (z4 _ _).b))|exact zsq|fail)
   all_goals (refine Qr _ rfl ?_;simp only [go_sem];rw [htk];done)
  have hU:∀ x,x∈u :: us→x < m.2.length∧x ∉ is∧∃ i f,m.2[x]? = some i∧l[i]? = some f∧m.1[x]? = some (YY f):=fun x hx=>by
   have h1:=ad2.1 (hun ▸ hx)
   rw [kp] at h1
   obtain ⟨f,h2,h3⟩:=hM.pt x _ (zb h1.1)
   exact ⟨h1.1,h1.2,_,f,zb h1.1,h2,h3⟩
  have hvis:∀ x i,m.2[x]? = some i→anG l e.num m.2 (is++[x]) = anG l e.num m.2 is++(xc l e.num i).toList:=fun x i h=>by
   rw [anG,anG,ZD,List.filterMap_cons,h,Option.bind_some,List.filterMap_nil]
   rcases xc l e.num i with _|y<;>rfl
  clear hvs
  simp only [ake,fcE]
  repeat' (first|(refine zsk ?_;intro K' hK)|(refine zrg ?_;intro K' hK)|refine zsp ?_|(refine zsc ?_ ?_<;>intro hc<;>first|exact znh|try simp only [znz] at hc)|simp (maxSteps:=1000000) only [go_sem,Y1,hkl,zd,kp,hun]|(refine hK _ ?_;clear hK K')|apply zan|(apply jk;(focus exact rfl);(focus first|exact (z3 _ _ _ zsd zsd));(focus exact rfl);(focus (first|(simp;done)|omega|(simp only [zd];omega))))|((first|apply QR|apply QG);(focus first|exact (z0 _ _ zsd zsd zsd).b|exact (z1 _ zsd zsd).b|exact (z2 _).b|exact (z4 _ _).b))|exact zsq|fail)
  ·obtain ⟨x,hx0⟩:∃ x,x = u:=⟨u,rfl⟩
   have hx:x∈u :: us:=hx0 ▸ kL
   rw [← hx0]
   obtain ⟨hx1,hx2,i,f,hvx,hfx,hkx⟩:=hU x hx
   have vk:(m.1.map PPl.v)[x]? = some (YY f).v:=by rw [zi,hkx];rfl
   have vv:=Xm hvx
   have hv1:=hvis x i hvx
   have hnd:(is++[x]).Nodup:=by rw [bj];exact ⟨his1,by simp,fun a ha b hb=>by rw [zq.1 hb];exact fun he=>hx2 (he ▸ ha)⟩
   have hbd:∀ a∈is++[x],a < m.2.length:=fun a ha=>by
    rcases zW.1 ha with h|h
    ·exact his2 a h
    ·rw [zq.1 h];exact hx1
   have hln2:=hln _ hnd hbd
   rw [zp,List.length_singleton] at hln2
   have hms:m.2.length - (is++[x]).length < m.2.length - is.length:=by rw [zp,List.length_singleton];omega
   by_cases h8:f.kind = 8
   ·have e8:(f.kind != 8) = false:=by simpa using h8
    rw [xc,hfx] at hv1
    simp only [h8,if_true,Option.toList_none,kD] at hv1
    repeat' (first|(refine zsk ?_;intro K' hK)|(refine zrg ?_;intro K' hK)|refine zsp ?_|(refine zsc ?_ ?_<;>intro hc<;>first|exact znh|try simp only [znz] at hc)|simp (maxSteps:=1000000) only [go_sem,Y1,hkl,e8,vk,vv,hfx,Int.toNat_natCast,zi,zd,kp,ZX,Nat.sub_zero,zG,Qa.v,Qa.cells]|(refine hK _ ?_;clear hK K')|apply zan|(apply jk;(focus exact rfl);(focus first|exact (z3 _ _ _ zsd zsd));(focus exact rfl);(focus (first|(simp;done)|omega|(simp only [zd];omega))))|((first|apply QR|apply QG);(focus first|exact (z0 _ _ zsd zsd zsd).b|exact (z1 _ zsd zsd).b|exact (z2 _).b|exact (z4 _ _).b))|exact zsq|fail)
    all_goals exact hL _ (is++[x]) (Qi []) ⟨hnd,hbd⟩ hms (Qv [] (by simp only [go_sem,zwl,ake,fcE,hv1,zd]<;>exact zcc) (by simp only [go_sem,zwl,ake,fcE,hv1,QB,QT]<;>exact zcc) (by simp [ake,Qi]) (by simp [ake]) (by omega))
   ·have e8:(f.kind != 8) = true:=by simpa using h8
    rw [xc,hfx] at hv1
    simp only [h8,if_false,Option.toList_some] at hv1
    have hol:(anG l e.num m.2 is).length≤12:=by omega
    generalize anG l e.num m.2 is = out at *
    have hll:=zd Qg.v (as:=out)
    have htk:(out.map Qg.v).take out.length = out.map Qg.v:=zj (by simp)
    repeat' (first|(refine zsk ?_;intro K' hK)|(refine zrg ?_;intro K' hK)|refine zsp ?_|(refine zsc ?_ ?_<;>intro hc<;>first|exact znh|try simp only [znz] at hc)|simp (maxSteps:=1000000) only [go_sem,Y1,hkl,e8,vk,vv,hfx,htk,hll,Int.toNat_natCast,zi,zd,kp,ZX,Nat.sub_zero,zG,Qa.v,Qa.cells]|(refine hK _ ?_;clear hK K')|apply zan|(apply jk;(focus exact rfl);(focus first|exact (z3 _ _ _ zsd zsd));(focus exact rfl);(focus (first|(simp;done)|omega|(simp only [zd];omega))))|((first|apply QR|apply QG);(focus first|exact (z0 _ _ zsd zsd zsd).b|exact (z1 _ zsd zsd).b|exact (z2 _).b|exact (z4 _ _).b))|exact zsq|fail)
    all_goals exact hL _ (is++[x]) (Qi [(3,30004)]) ⟨hnd,hbd⟩ hms (Qv [(3,30004)] (by simp only [go_sem,zwl,ake,fcE,hv1,zp,List.length_singleton]<;>exact zcc) (by simp only [go_sem,zwl,ake,fcE,hv1,QB,QT,kN,zI,zO,Qg.v,Qg.cells,Xn]<;>exact zcc) (by simp [ake,Qi]) (by simp [ake];omega) (by omega))
  ·intro x hx
   have hx:x∈u :: us:=kJ _ hx
   obtain ⟨hx1,hx2,i,f,hvx,hfx,hkx⟩:=hU x hx
   have vk:(m.1.map PPl.v)[x]? = some (YY f).v:=by rw [zi,hkx];rfl
   have vv:=Xm hvx
   have hv1:=hvis x i hvx
   have hnd:(is++[x]).Nodup:=by rw [bj];exact ⟨his1,by simp,fun a ha b hb=>by rw [zq.1 hb];exact fun he=>hx2 (he ▸ ha)⟩
   have hbd:∀ a∈is++[x],a < m.2.length:=fun a ha=>by
    rcases zW.1 ha with h|h
    ·exact his2 a h
    ·rw [zq.1 h];exact hx1
   have hln2:=hln _ hnd hbd
   rw [zp,List.length_singleton] at hln2
   have hms:m.2.length - (is++[x]).length < m.2.length - is.length:=by rw [zp,List.length_singleton];omega
   by_cases h8:f.kind = 8
   ·have e8:(f.kind != 8) = false:=by simpa using h8
    rw [xc,hfx] at hv1
    simp only [h8,if_true,Option.toList_none,kD] at hv1
    repeat' (first|(refine zsk ?_;intro K' hK)|(refine zrg ?_;intro K' hK)|refine zsp ?_|(refine zsc ?_ ?_<;>intro hc<;>first|exact znh|try simp only [znz] at hc)|simp (maxSteps:=1000000) only [go_sem,Y1,hkl,e8,vk,vv,hfx,Int.toNat_natCast,zi,zd,kp,ZX,Nat.sub_zero,zG,Qa.v,Qa.cells]|(refine hK _ ?_;clear hK K')|apply zan|(apply jk;(focus exact rfl);(focus first|exact (z3 _ _ _ zsd zsd));(focus exact rfl);(focus (first|(simp;done)|omega|(simp only [zd];omega))))|((first|apply QR|apply QG);(focus first|exact (z0 _ _ zsd zsd zsd).b|exact (z1 _ zsd zsd).b|exact (z2 _).b|exact (z4 _ _).b))|exact zsq|fail)
    all_goals exact hL _ (is++[x]) (Qi []) ⟨hnd,hbd⟩ hms (Qv [] (by simp only [go_sem,zwl,ake,fcE,hv1,zd]<;>exact zcc) (by simp only [go_sem,zwl,ake,fcE,hv1,QB,QT]<;>exact zcc) (by simp [ake,Qi]) (by simp [ake]) (by omega))
   ·have e8:(f.kind != 8) = true:=by simpa using h8
    rw [xc,hfx] at hv1
    simp only [h8,if_false,Option.toList_some] at hv1
    have hol:(anG l e.num m.2 is).length≤12:=by omega
    generalize anG l e.num m.2 is = out at *
    have hll:=zd Qg.v (as:=out)
    have htk:(out.map Qg.v).take out.length = out.map Qg.v:=zj (by simp)
    repeat' (first|(refine zsk ?_;intro K' hK)|(refine zrg ?_;intro K' hK)|refine zsp ?_|(refine zsc ?_ ?_<;>intro hc<;>first|exact znh|try simp only [znz] at hc)|simp (maxSteps:=1000000) only [go_sem,Y1,hkl,e8,vk,vv,hfx,htk,hll,Int.toNat_natCast,zi,zd,kp,ZX,Nat.sub_zero,zG,Qa.v,Qa.cells]|(refine hK _ ?_;clear hK K')|apply zan|(apply jk;(focus exact rfl);(focus first|exact (z3 _ _ _ zsd zsd));(focus exact rfl);(focus (first|(simp;done)|omega|(simp only [zd];omega))))|((first|apply QR|apply QG);(focus first|exact (z0 _ _ zsd zsd zsd).b|exact (z1 _ zsd zsd).b|exact (z2 _).b|exact (z4 _ _).b))|exact zsq|fail)
    all_goals exact hL _ (is++[x]) (Qi [(3,30004)]) ⟨hnd,hbd⟩ hms (Qv [(3,30004)] (by simp only [go_sem,zwl,ake,fcE,hv1,zp,List.length_singleton]<;>exact zcc) (by simp only [go_sem,zwl,ake,fcE,hv1,QB,QT,kN,zI,zO,Qg.v,Qg.cells,Xn]<;>exact zcc) (by simp [ake,Qi]) (by simp [ake];omega) (by omega))
 obtain ⟨hk',hget,hr⟩:=QJ hdr
 have hw:=Qq (k:=k) (by omega)
 have e1:decide ((k:Int) < (e.finds.length:Int)) = true:=by simp;omega
 have hsu:=ao1 (l:=l) (day:=day) (age:=age) hget
 obtain ⟨f,hf⟩:∃ f,l[i]? = some f:=⟨_,zb (hb i (zm hget))⟩
 generalize anh l day age (e.finds.take k) = m at *
 obtain ⟨ks,vs⟩:=m
 have hvi:=Xm hget
 have hwd:IntKind.i64.wrap (day - age) = day - age:=Q7 (by omega) (by omega)
 rw [axS,hf] at hsu
 dsimp only at hsu
 simp only [ac7,fcE]
 rcases h1:decide (f.day > day) with _|_
 ·rcases h2:decide (f.day < day - age) with _|_
  ·rw [if_neg (by simp at h1 h2;omega)] at hsu
   have p1:=(z2 f).b
   have hfk:=aoL (YY f) ks 0
   have hek:=av7 (YY f)
   have hlen:=hM.len
   dsimp only at hlen
   simp only [Qa.v,Qa.cells] at p1
   rcases hix:as8 (YY f) ks 0 with _|a
   ·rw [hix] at hsu hfk
    have hm1:ks.map PPl.v++[(YY f).v] = (ks++[YY f]).map PPl.v:=by simp
    have hm2:=yK vs i
    repeat' (first|(refine zsk ?_;intro K' hK)|(refine zrg ?_;intro K' hK)|refine zsp ?_|(refine zsc ?_ ?_<;>intro hc<;>first|exact znh|try simp only [znz] at hc)|simp (maxSteps:=1000000) only [go_sem,Y1,e1,hw,hwd,h1,h2,hfk,hek,hm1,hm2,hvi,hf,Int.toNat_natCast,zi,Qa.v,Qa.cells]|(refine hK _ ?_;clear hK K')|apply zan|(apply jk;(focus exact rfl);(focus first|exact (z3 _ _ _ zsd zsd));(focus exact rfl);(focus (first|(simp;done)|omega|(simp only [zd];omega))))|((first|apply QR|apply QG);(focus first|exact p1|exact (z0 _ _ zsd zsd zsd).b|exact (z1 _ zsd zsd).b|exact (z2 _).b|exact (z4 _ _).b))|exact zsq|fail)
    all_goals exact hL _ (k + 1) (Qi []) (by omega) (by omega) (by rw [hsu];exact Qv [] (by simp only [go_sem,zwl,ac7,fcE,zd]<;>exact zcc) (by simp only [go_sem,zwl,ac7,fcE,QB,QT]<;>exact zcc) (by simp [ac7,Qi]) (by simp [ac7]) (by omega))
   ·rw [hix] at hsu hfk
    have hal:=(afY hix).2.1
    obtain ⟨v,hv⟩:∃ v,vs[a]? = some v:=⟨_,zb (by omega)⟩
    obtain ⟨g,hg,-⟩:=hM.pt a v hv
    have hvd:vs.getD a 0 = v:=by rw [zB,hv];rfl
    simp only [hvd,hg] at hsu
    have hvc:=Xm hv
    have hm1:=ajN vs a i
    rcases h3:decide (f.day > g.day) with _|_
    ·rcases h4:f.day == g.day with _|_
     ·rw [as9,h3,h4,if_neg (by simp)] at hsu
      repeat' (first|(refine zsk ?_;intro K' hK)|(refine zrg ?_;intro K' hK)|refine zsp ?_|(refine zsc ?_ ?_<;>intro hc<;>first|exact znh|try simp only [znz] at hc)|simp (maxSteps:=1000000) only [go_sem,Y1,e1,hw,hwd,h1,h2,h3,h4,hfk,hek,hm1,hvc,hvi,hf,hg,Int.toNat_natCast,zi,Qa.v,Qa.cells]|(refine hK _ ?_;clear hK K')|apply zan|(apply jk;(focus exact rfl);(focus first|exact (z3 _ _ _ zsd zsd));(focus exact rfl);(focus (first|(simp;done)|omega|(simp only [zd];omega))))|((first|apply QR|apply QG);(focus first|exact p1|exact (z0 _ _ zsd zsd zsd).b|exact (z1 _ zsd zsd).b|exact (z2 _).b|exact (z4 _ _).b))|exact zsq|fail)
      all_goals exact hL _ (k + 1) (Qi []) (by omega) (by omega) (by rw [hsu];exact Qv [] (by simp only [go_sem,zwl,ac7,fcE,zd]<;>exact zcc) (by simp only [go_sem,zwl,ac7,fcE,QB,QT]<;>exact zcc) (by simp [ac7,Qi]) (by simp [ac7]) (by omega))
     ·rcases h5:decide (f.conf > g.conf) with _|_
      ·rw [as9,h3,h4,h5,if_neg (by decide)] at hsu
       repeat' (first|(refine zsk ?_;intro K' hK)|(refine zrg ?_;intro K' hK)|refine zsp ?_|(refine zsc ?_ ?_<;>intro hc<;>first|exact znh|try simp only [znz] at hc)|simp (maxSteps:=1000000) only [go_sem,Y1,e1,hw,hwd,h1,h2,h3,h4,h5,hfk,hek,hm1,hvc,hvi,hf,hg,Int.toNat_natCast,zi,Qa.v,Qa.cells]|(refine hK _ ?_;clear hK K')|apply zan|(apply jk;(focus exact rfl);(focus first|exact (z3 _ _ _ zsd zsd));(focus exact rfl);(focus (first|(simp;done)|omega|(simp only [zd];omega))))|((first|apply QR|apply QG);(focus first|exact p1|exact (z0 _ _ zsd zsd zsd).b|exact (z1 _ zsd zsd).b|exact (z2 _).b|exact (z4 _ _).b))|exact zsq|fail)
       all_goals exact hL _ (k + 1) (Qi []) (by omega) (by omega) (by rw [hsu];exact Qv [] (by simp only [go_sem,zwl,ac7,fcE,zd]<;>exact zcc) (by simp only [go_sem,zwl,ac7,fcE,QB,QT]<;>exact zcc) (by simp [ac7,Qi]) (by simp [ac7]) (by omega))
      ·rw [as9,h3,h4,h5,if_pos (by decide)] at hsu
       repeat' (first|(refine zsk ?_;intro K' hK)|(refine zrg ?_;intro K' hK)|refine zsp ?_|(refine zsc ?_ ?_<;>intro hc<;>first|exact znh|try simp only [znz] at hc)|simp (maxSteps:=1000000) only [go_sem,Y1,e1,hw,hwd,h1,h2,h3,h4,h5,hfk,hek,hm1,hvc,hvi,hf,hg,Int.toNat_natCast,zi,Qa.v,Qa.cells]|(refine hK _ ?_;clear hK K')|apply zan|(apply jk;(focus exact rfl);(focus first|exact (z3 _ _ _ zsd zsd));(focus exact rfl);(focus (first|(simp;done)|omega|(simp only [zd];omega))))|((first|apply QR|apply QG);(focus first|exact p1|exact (z0 _ _ zsd zsd zsd).b|exact (z1 _ zsd zsd).b|exact (z2 _).b|exact (z4 _ _).b))|exact zsq|fail)
       all_goals exact hL _ (k + 1) (Qi []) (by omega) (by omega) (by rw [hsu];exact Qv [] (by simp only [go_sem,zwl,ac7,fcE,zd]<;>exact zcc) (by simp only [go_sem,zwl,ac7,fcE,QB,QT]<;>exact zcc) (by simp [ac7,Qi]) (by simp [ac7]) (by omega))
    ·rw [as9,h3,if_pos (by simp)] at hsu
     repeat' (first|(refine zsk ?_;intro K' hK)|(refine zrg ?_;intro K' hK)|refine zsp ?_|(refine zsc ?_ ?_<;>intro hc<;>first|exact znh|try simp only [znz] at hc)|simp (maxSteps:=1000000) only [go_sem,Y1,e1,hw,hwd,h1,h2,h3,hfk,hek,hm1,hvc,hvi,hf,hg,Int.toNat_natCast,zi,Qa.v,Qa.cells]|(refine hK _ ?_;clear hK K')|apply zan|(apply jk;(focus exact rfl);(focus first|exact (z3 _ _ _ zsd zsd));(focus exact rfl);(focus (first|(simp;done)|omega|(simp only [zd];omega))))|((first|apply QR|apply QG);(focus first|exact p1|exact (z0 _ _ zsd zsd zsd).b|exact (z1 _ zsd zsd).b|exact (z2 _).b|exact (z4 _ _).b))|exact zsq|fail)
     all_goals exact hL _ (k + 1) (Qi []) (by omega) (by omega) (by rw [hsu];exact Qv [] (by simp only [go_sem,zwl,ac7,fcE,zd]<;>exact zcc) (by simp only [go_sem,zwl,ac7,fcE,QB,QT]<;>exact zcc) (by simp [ac7,Qi]) (by simp [ac7]) (by omega))
  ·rw [if_pos (by simp at h1 h2;omega)] at hsu
   repeat' (first|(refine zsk ?_;intro K' hK)|(refine zrg ?_;intro K' hK)|refine zsp ?_|(refine zsc ?_ ?_<;>intro hc<;>first|exact znh|try simp only [znz] at hc)|simp (maxSteps:=1000000) only [go_sem,Y1,e1,hw,hwd,h1,h2,hvi,hf,Int.toNat_natCast,zi,Qa.v,Qa.cells]|(refine hK _ ?_;clear hK K')|apply zan|(apply jk;(focus exact rfl);(focus first|exact (z3 _ _ _ zsd zsd));(focus exact rfl);(focus (first|(simp;done)|omega|(simp only [zd];omega))))|((first|apply QR|apply QG);(focus first|exact (z0 _ _ zsd zsd zsd).b|exact (z1 _ zsd zsd).b|exact (z2 _).b|exact (z4 _ _).b))|exact zsq|fail)
   all_goals exact hL _ (k + 1) (Qi []) (by omega) (by omega) (by rw [hsu];exact Qv [] (by simp only [go_sem,zwl,ac7,fcE,zd]<;>exact zcc) (by simp only [go_sem,zwl,ac7,fcE,QB,QT]<;>exact zcc) (by simp [ac7,Qi]) (by simp [ac7]) (by omega))
 ·rw [if_pos (by simp at h1;omega)] at hsu
  repeat' (first|(refine zsk ?_;intro K' hK)|(refine zrg ?_;intro K' hK)|refine zsp ?_|(refine zsc ?_ ?_<;>intro hc<;>first|exact znh|try simp only [znz] at hc)|simp (maxSteps:=1000000) only [go_sem,Y1,e1,hw,hwd,h1,hvi,hf,Int.toNat_natCast,zi,Qa.v,Qa.cells]|(refine hK _ ?_;clear hK K')|apply zan|(apply jk;(focus exact rfl);(focus first|exact (z3 _ _ _ zsd zsd));(focus exact rfl);(focus (first|(simp;done)|omega|(simp only [zd];omega))))|((first|apply QR|apply QG);(focus first|exact (z0 _ _ zsd zsd zsd).b|exact (z1 _ zsd zsd).b|exact (z2 _).b|exact (z4 _ _).b))|exact zsq|fail)
  all_goals exact hL _ (k + 1) (Qi []) (by omega) (by omega) (by rw [hsu];exact Qv [] (by simp only [go_sem,zwl,ac7,fcE,zd]<;>exact zcc) (by simp only [go_sem,zwl,ac7,fcE,QB,QT]<;>exact zcc) (by simp [ac7,Qi]) (by simp [ac7]) (by omega))
theorem awv {fs:List Nat} {k:Nat} (h:fs.Pairwise (· < ·)) (hk:∀ i∈fs,i < k):(fs++[k]).Pairwise (· < ·):=by
 rw [kT]
 exact ⟨h,List.pairwise_singleton ..,fun a ha b hb=>by rw [zq.1 hb];exact hk a ha⟩
theorem arB {l:List Qa} {p:List Nat} (hp:PW p):∀ k,k≤l.length→∀ e∈Wv l p k,e.finds.Pairwise (· < ·)
 | 0,_,e,he=>by simp [Wv] at he
 | k + 1,hk,e,he=>by
   have ih:=arB (l:=l) hp k (by omega)
   have hI:=aaD (l:=l) hp k (by omega)
   rw [Wv,zb (by omega)] at he
   dsimp only at he
   generalize Wv l p k = es at *
   rw [anc] at he
   split at he
   ·rcases zW.1 he with he|he
    ·exact ih e he
    ·rw [zq.1 he];simp [Vl,Jj]
   ·rcases hx:amO (QA p k) (es.map Ji.num) 0 with _|a
    ·rw [hx] at he;exact ih e he
    ·rw [hx] at he
     dsimp only at he
     rcases hy:es[a]? with _|y
     ·rw [hy] at he;exact ih e he
     ·rw [hy] at he
      dsimp only at he
      have hm:=zm hy
      rcases Z5 he with he|rfl
      ·exact ih e he
      ·exact awv (ih y hm) (hI.sz y hm).fl
theorem anf {l:List Qa} {gap:Int} {e:Ji} (he:e∈Y4 l gap):e.finds.Pairwise (· < ·)∧(∀ i∈e.finds,i < l.length)∧e.finds.length≤l.length∧e.hosts.length≤l.length:=by
 have hp:=afW l gap
 have h1:=(aaD (l:=l) hp l.length (zl _)).sz e he
 exact ⟨arB hp l.length (zl _) e he,h1.fl,h1.f1,h1.h1⟩
theorem aju (l:List Qa) (gap:Int):(Y4 l gap).length≤l.length:=(aaD (l:=l) (afW l gap) l.length (zl _)).len
theorem asE {l:List Qa} {gap:Int} (h:YS l gap = 0):WJ l = true:=by
 rw [YS] at h
 split at h
 ·assumption
 ·cases h
def fcv (fl:List Qg):V:=.sl 8 (fl.map Qg.v)
def V0 (l:List Qa) (gap day age:Int):List (List Qg):=(Y4 l gap).map fun e=>je l e.num e.finds day age
def al5 (l:List Qa) (gap day age:Int):V:=if YS l gap = 0 then .tup [.sl 4 ((Y4 l gap).map Ji.v),.sl 1 ((V0 l gap day age).map fcv),V.int 0] else .tup [.sl 4 [],.sl 1 [],V.int (YS l gap)]
def obO (xs:List V):Ob:=if xs = [] then .buf true 1 [] else .obuf true 1 xs
theorem atY:obO [] = .buf true 1 []:=rfl
theorem axC (xs:List V) (x:V):obO (xs++[x]) = .obuf true 1 (xs++[x]):=by rw [obO,if_neg (by simp)]
theorem axB (x:V):obO [x] = .obuf true 1 [x]:=rfl
theorem aw0:∀ l:List (List Qg),ntL (l.map fcv)
 | []=>trivial
 | x :: r=>⟨by simp [fcv],aw0 r⟩
theorem aeb:∀ l:List (List Qg),Qh (l.map fcv)
 | []=>trivial
 | x :: r=>⟨by simp only [fcv,V.closed,Qh,and_self],aeb r⟩
theorem axM (σ:Nat→Nat) (l:List (List Qg)):K3 σ (l.map fcv) = l.map fcv:=J7 _ _ (aeb l)
theorem ayO (n:Nat) (l:List (List Qg)):ltL n (l.map fcv):=WD _ _ (aeb l)
theorem arx {o:Nat→Option Ob}:∀ l:List (List Qg),Jn o [] none (l.map fcv) (l.map fcv)
 | []=>trivial
 | x :: r=>⟨by simp [fcv,conv],arx r⟩
theorem axN {o:Nat→Option Ob} {n:Nat} {l:List (List Qg)} (h:o n = some (obO (l.map fcv))):conv o [] none (.hd n 0 l.length) (.sl 1 (l.map fcv)):=by
 rw [asF]
 rcases l with _|⟨x,r⟩
 ·exact ⟨trivial,by simp,.inl ⟨true,_,h,rfl⟩⟩
 ·refine ⟨trivial,by simp,.inr ⟨true,_,h,?_,aw0 _,aeb _⟩⟩
  rw [kr,zj (by simp)]
  exact arx _
def faS (l:List Qa) (gap day age:Int) (k:Nat):St:=Y1 [(0,.sl 11 (l.map Qa.v)),(2,V.int day),(3,V.int age),(11,.sl 4 ((Y4 l gap).map Ji.v)),(13,.hd 0 0 k),(27,.sl 4 ((Y4 l gap).map Ji.v)),(28,V.int (Y4 l gap).length),(29,V.int k)] [(0,obO (((V0 l gap day age).take k).map fcv))] 1
def acj (WP yo:Nat):AC:=Qb [0,1,2,3] (.reg [xo 8 (.mknil 4),xo 9 (.mknil 1),mc 10 (V.int 0)]) (Qb [0,2,3,11,12] (.reg [mv 19 0,mv 20 1,cl 21 WP [19,20],mv 18 21,ex 22 18 0,ex 23 18 1,mv 11 22,mv 12 23]) (Qb [0,2,3,11] (Qb [0,2,3,11,12,25] (.reg [mv 24 12,bc 25 .neq 24 (V.int 0)]) (.cond (.t 25) (Qb [8,9,10] (.reg [mv 26 12,xo 8 (.mknil 4),xo 9 (.mknil 1),mv 10 26]) .ret) .skip)) (Qb [0,2,3,11,13] (.reg [xo 13 (.mknil 1)]) (Qb [2,3,11,13] (Qb [0,2,3,11,13,27,28,29] (.reg [mv 27 11,ln 28 27,mc 29 (V.int 0)]) (.block 0 (JG [0,2,3,11,13,27,28,29] (Qb [0,2,3,11,13,27,28,29,30] (.reg [bn 30 .lss 29 28]) (Qb [0,2,3,11,13,27,28,29] (.cond (.t 30) .skip (.exit 0)) (Qb [0,2,3,11,13,27,28,29] (.block 1 (Qb [0,2,3,11,13,15,27,28,29] (.reg [ia 31 4 27 29,xo 32 (.load true 4 (.t 31)),xo 15 (.alloc [.val vi0,.nil 1,.nil 1,.nil 1]),xs 4 15 32]) (Qb [0,2,3,11,13,16,17,27,28,29] (.reg [mv 34 0,xo 35 (.load true 4 (.t 15)),mv 36 2,mv 37 3,cl 38 yo [34,35,36,37],mv 33 38,ex 39 33 0,ex 40 33 1,mv 16 39,mv 17 40]) (Qb [0,2,3,11,13,16,27,28,29] (Qb [0,2,3,11,13,16,17,27,28,29,42] (.reg [mv 41 17,bc 42 .neq 41 (V.int 0)]) (.cond (.t 42) (Qb [8,9,10] (.reg [mv 43 17,xo 8 (.mknil 4),xo 9 (.mknil 1),mv 10 43]) .ret) .skip)) (.reg [mv 44 13,mv 45 16,xo 46 (.obslice 1 1 false [vn0] [(0,(.t 45))]),xo 47 (.append 1 24 [vn0] (.t 44) (.t 46)),mv 13 47]))))) (.reg [bc 48 .add 29 (V.int 1),mv 29 48]))))))) (Qb [11,13] (Qb [11,13,62] (.reg [mv 49 2,bc 50 .lss 49 (V.int 0),mv 51 50,mg 52 2 51 false,xg 53 (.bin .gtr (.t 52) (.c (V.int 40000))) 51 false,xo 54 (.pick (.t 51) (.c (V.bool true)) (.t 53)),mv 55 54,mg 56 3 55 false,xg 57 (.bin .lss (.t 56) (.c (V.int 0))) 55 false,xo 58 (.pick (.t 55) (.c (V.bool true)) (.t 57)),mv 59 58,mg 60 3 59 false,xg 61 (.bin .gtr (.t 60) (.c (V.int 4000))) 59 false,xo 62 (.pick (.t 59) (.c (V.bool true)) (.t 61))]) (.cond (.t 62) (Qb [8,9,10] (.reg [xo 8 (.mknil 4),xo 9 (.mknil 1),mc 10 (V.int 2)]) .ret) .skip)) (Qb [8,9,10] (.reg [mv 63 11,mv 64 13,mv 8 63,mv 9 64,mc 10 (V.int 0)]) .ret)))))) def dO:List Q0:=[.tmp 8,.tmp 9,.tmp 10]
def qG (Γ:Env) (f:Nat):Prop:=∀ (l:List Qa) (gap day age:Int) (hl:l.length≤12) (hz:∀ x∈l,x.Sz) (hdy:0≤day∧day≤40000) (hag:0≤age∧age≤4000),EvC Γ f [.sl 11 (l.map Qa.v),V.int gap,V.int day,V.int age] (al5 l gap day age)
attribute [local go_sem] Y1 in
theorem ahs {Γ:Env} {f WP yo:Nat} (h:Has Γ.P f 65 (acj WP yo) dO) (z0:Ua Γ WP) (z1:v6 Γ yo):qG Γ f:=by
 intro l gap day age hl hz hdy hag
 refine Ju h zsi (by unfold al5;split<;>simp only [V.closed,Qh,and_self]) fun C hC hm=>?_
 subst hC
 unfold acj
 have g0:=(z0 l gap (by omega) hz).b
 by_cases hE:YS l gap = 0
 rotate_left
 ·rw [al5,if_neg hE]
  rw [av9,if_neg hE] at g0
  have e01:(YS l gap != 0) = true:=by simpa using hE
  generalize YS l gap = er at *
  (have zx:=e01);exact zg
 rw [al5,if_pos hE]
 rw [av9,if_pos hE] at g0
 have hN:=asE hE
 have d1:decide (day < 0) = false:=zv (by omega)
 have d2:decide (day > 40000) = false:=zv (by omega)
 have d3:decide (age < 0) = false:=zv (by omega)
 have d4:decide (age > 4000) = false:=zv (by omega)
 have e00:((0:Int) != 0) = false:=by decide
 have hel:((Y4 l gap).map Ji.v).length = (Y4 l gap).length:=zd _
 have hok:=fun e (he:e∈Y4 l gap)=>anf he
 have hen:=aju l gap
 have hfl:(V0 l gap day age).length = (Y4 l gap).length:=zd _
 (have zx:=za e00 hel);refine zgo ?_;repeat' first|exact zt|apply zan|intro hc
 refine QC (ι:=Nat) (fun k=>k≤(Y4 l gap).length) (fun k=>faS l gap day age k) (fun k=>(Y4 l gap).length - k) 0 (zG _) (Qi [(0,13000)]) (Qv [(0,13000)] (by simp only [go_sem,zwl,faS,zd]<;>exact zcc) (by simp only [go_sem,zwl,faS,List.take_zero,zO,atY]<;>exact zcc) (by simp [faS,Qi]) (by simp [faS];omega) (by omega)) fun k hk K' hL=>?_
 rcases hdr:(Y4 l gap).drop k with _|⟨e,r⟩
 ·have hkl:=QY hdr
  have e1:decide ((k:Int) < ((Y4 l gap).length:Int)) = false:=by simp;omega
  obtain rfl:k = (Y4 l gap).length:=by omega
  have htk:(V0 l gap day age).take (Y4 l gap).length = V0 l gap day age:=zj (by omega)
  simp only [faS,htk]
  (have zx:=za e1 (za d1 (za d2 (za d3 d4))));refine zgo ?_;repeat' first|exact zt|apply zan|intro hc
  all_goals
   refine Qr _ rfl ⟨?_,?_,rfl,trivial⟩
   ·show conv _ _ _ (.sl 4 ((Y4 l gap).map Ji.v)) (.sl 4 ((Y4 l gap).map Ji.v))
    simp [conv]
   show conv _ _ _ (.hd 0 0 (Y4 l gap).length) _
   rw [← hfl]
   exact axN rfl
 obtain ⟨hk',hget,hr⟩:=QJ hdr
 have hw:=Qq (k:=k) (by omega)
 have e1:decide ((k:Int) < ((Y4 l gap).length:Int)) = true:=by simp;omega
 obtain ⟨o1,o2,o3,o4⟩:=hok e (zm hget)
 have p1:=(z1 l e day age (by omega) hz hN hdy hag o1 o2 (by omega)).b
 have hnx:(V0 l gap day age).take (k + 1) = (V0 l gap day age).take k++[je l e.num e.finds day age]:=by
  rw [zP,V0,zi,hget];rfl
 have htl:((V0 l gap day age).take k).length = k:=by rw [zM];omega
 simp only [faS]
 have vx:((Y4 l gap).map Ji.v)[k]? = some e.v:=by rw [zi,hget];rfl
 simp only [Ji.v] at vx p1
 have hxl:(((V0 l gap day age).take k).map fcv).length = k:=by rw [zd,htl]
 have htk:List.take k (((V0 l gap day age).take k).map fcv) = ((V0 l gap day age).take k).map fcv:=zj (by omega)
 by_cases hk0:k = 0
 ·subst hk0
  simp only [List.take_zero,zO,atY,List.nil_append,kp] at *
  have hw1:IntKind.i64.wrap 1 = 1:=by decide
  (have zx:=za e1 (za hw (za hw1 (za vx e00))));refine zgo ?_;repeat' first|exact zt|apply zan|intro hc
  all_goals exact hL _ 1 (Qi [(0,20001)]) (by omega) (by omega) (Qv [(0,20001)] (by simp only [go_sem,zwl,faS,zd]<;>exact zcc) (by simp only [go_sem,zwl,faS,hnx,zI,zO,axB,fcv]<;>exact zcc) (by simp [faS,Qi]) (by simp [faS];omega) (by omega))
 ·have hob:obO (((V0 l gap day age).take k).map fcv) = .obuf true 1 (((V0 l gap day age).take k).map fcv):=by
   rw [obO,if_neg]
   intro h;rw [h] at hxl;simp at hxl;omega
  rw [hob]
  have hjn:((V0 l gap day age).take k).map fcv++[.sl 8 ((je l e.num e.finds day age).map Qg.v)] = ((V0 l gap day age).take (k + 1)).map fcv:=by
   rw [hnx,kN];rfl
  have hob2:obO (((V0 l gap day age).take (k + 1)).map fcv) = .obuf true 1 (((V0 l gap day age).take (k + 1)).map fcv):=by
   rw [← hjn,axC]
  (have zx:=za e1 (za hw (za vx (za e00 (za hxl (za htk hjn))))));refine zgo ?_;repeat' first|exact zt|apply zan|intro hc
  all_goals exact hL _ (k + 1) (Qi [(0,20001)]) (by omega) (by omega) (Qv [(0,20001)] (by simp only [go_sem,zwl,faS,zd]<;>exact zcc) (by simp only [go_sem,zwl,faS,hob2,axM,ayO]<;>exact zcc) (by simp [faS,Qi]) (by simp [faS];omega) (by omega))
structure amk where
 name:List UInt8
 least:Int
 most:Int
 suites:List Int
 own:Bool
 fall:Bool
def amk.cells (d:amk):List V:=[V.str d.name,V.int d.least,V.int d.most,.sl 1 (d.suites.map V.int),V.bool d.own,.sc (.slice none 0 0),.sc (.slice none 0 0),.sc (.slice none 0 0),V.bool d.fall,.sc (.slice none 0 0)]
theorem amk.cells_closed (d:amk):Qh d.cells:=by simp [amk.cells,V.closed,Qh]
theorem aj4 {α:Type} (p:α→Bool):∀ (xs:List α) (k:Nat),decide (alZ p k xs≥0) = xs.any p
 | [],k=>by simp [alZ]
 | x :: r,k=>by
   have ih:=aj4 p r (k + 1)
   rw [alZ,List.any_cons]
   by_cases h:p x = true
   ·rw [if_pos h,h];simp
   ·have h2:p x = false:=by simpa using h
    rw [if_neg h,h2,ih];rfl
structure azl where
 sec:List UInt8
 name:List UInt8
 val:List UInt8
 line:Int
def azl.cells (x:azl):List V:=[V.str x.sec,V.str x.name,V.str x.val,V.int x.line]
def azl.v (x:azl):V:=.agg x.cells
abbrev WS:=List (List UInt8)
def ac6 (x:List UInt8):Nat→WS→Int
 | _,[]=>-1
 | k,y :: r=>if x = y then k else ac6 x (k + 1) r
def WL:AC:=Qb [0,1] (.reg [mc 4 (V.int 0)]) (Qb [] (Qb [0,1,7,8] (.reg [mv 6 0,ln 7 6,mc 8 (V.int 0)]) (.block 0 (JG [0,1,7,8] (Qb [0,1,7,8,9] (.reg [bn 9 .lss 8 7]) (Qb [0,1,7,8] (.cond (.t 9) .skip (.exit 0)) (Qb [0,1,7,8] (.block 1 (Qb [0,1,5,7,8] (.reg [mv 10 8,mv 5 10]) (Qb [0,1,5,7,8,16] (.reg [mv 11 1,mv 12 0,mv 13 5,ia 14 1 12 13,ld 15 1 14,bn 16 .eql 11 15]) (.cond (.t 16) (Qb [4] (.reg [mv 17 5,mv 4 17]) .ret) .skip)))) (.reg [bc 18 .add 8 (V.int 1),mv 8 18]))))))) (Qb [4] (.reg [mc 4 (V.int (-1))]) .ret)) def dP:List Q0:=[.tmp 4]
def Y6 (Γ:Env) (f:Nat):Prop:=∀ (l:WS) (x:List UInt8) (hl:l.length < 2 ^ 62),EvN Γ f [.sl 1 (l.map V.str),V.str x] (V.int (ac6 x 0 l))
theorem qu {Γ:Env} {f:Nat} (h:Has Γ.P f 19 WL dP) :Y6 Γ f:=by
 intro l x hl
 refine Qc h zsi zcl zcl fun C hC hm=>?_
 subst hC
 unfold WL
 refine zgo ?_;repeat' first|exact zt|apply zan|intro hc
 refine Jc (ι:=Nat) (fun k=>k≤l.length∧ac6 x k (l.drop k) = ac6 x 0 l) (fun k=>[(8,V.int k)]) (fun k=>l.length - k) 0 (by omega) ⟨by simp,by simp⟩ zol zlt zet fun k hk K' hL=>?_
 obtain ⟨hk,hinv⟩:=hk
 simp only [ovT,Xr,Nat.reduceEqDiff,reduceIte]
 rcases hd:l.drop k with _|⟨y,r⟩
 ·have:=QY hd
  rw [hd] at hinv
  refine zgo ?_;repeat' first|exact zt|apply zan|intro hc
  refine Qr _ rfl ?_
  simp only [go_sem]
  rw [← hinv];rfl
 ·obtain ⟨hk,hget,hr⟩:=QJ hd
  rw [hd] at hinv
  have hw:=Qq (k:=k) (by omega)
  (have zx:=za hget hw);refine zgo ?_;repeat' first|exact zt|apply zan|intro hc
  ·refine Qr _ rfl ?_
   simp only [go_sem]
   rw [← hinv];simp [ac6,hc]
  ·refine hL _ (k + 1) zet ⟨by omega,?_⟩ (by omega) (fun a ha=>rfl)
   rw [hr,← hinv];simp [ac6,hc]
def Xu:AC:=Qb [0,1] (.reg [mc 4 (V.int 0)]) (Qb [] (Qb [0,1,7,8] (.reg [mv 6 0,ln 7 6,mc 8 (V.int 0)]) (.block 0 (JG [0,1,7,8] (Qb [0,1,7,8,9] (.reg [bn 9 .lss 8 7]) (Qb [0,1,7,8] (.cond (.t 9) .skip (.exit 0)) (Qb [0,1,7,8] (.block 1 (Qb [0,1,5,7,8] (.reg [mv 10 8,mv 5 10]) (Qb [0,1,5,7,8,16] (.reg [mv 11 1,mv 12 0,mv 13 5,ia 14 8 12 13,xo 15 (.load true 8 (.t 14)),xo 16 (.callv (.t 11) [(.t 15)])]) (.cond (.t 16) (Qb [4] (.reg [mv 17 5,mv 4 17]) .ret) .skip)))) (.reg [bc 18 .add 8 (V.int 1),mv 8 18]))))))) (Qb [4] (.reg [mc 4 (V.int (-1))]) .ret)) def dQ:List Q0:=[.tmp 4]
def JL (Γ:Env) (f:Nat):Prop:=∀ (xs:List Qg) (g:Nat) (cap:List V) (p:Qg→Bool) (hp:∀ x∈xs,EvN Γ g (Qg.v x :: cap) (V.bool (p x))) (hcap:Qh cap) (hl:xs.length < 2 ^ 62),EvN Γ f [.sl 8 (xs.map Qg.v),.clo g cap] (V.int (alZ p 0 xs))
attribute [local go_sem] Qg.cells Qg.v in
theorem Vv {Γ:Env} {f:Nat} (h:Has Γ.P f 19 Xu dQ) :JL Γ f:=by
 intro xs g cap p hp hcap hl
 refine Qc h zsi zcl zcl fun C hC hm=>?_
 subst hC
 unfold Xu
 have s1:∀ o,Y2 o cap = cap:=fun o=>Wo o cap hcap
 have s2:∀ o B,QL o B cap = True:=fun o B=>eq_true (Xi o B cap hcap)
 refine zgo ?_;repeat' first|exact zt|apply zan|intro hc
 refine Jc (ι:=Nat) (fun k=>k≤xs.length∧alZ p k (xs.drop k) = alZ p 0 xs) (fun k=>[(8,V.int k)]) (fun k=>xs.length - k) 0 (by omega) ⟨by simp,by simp⟩ zol (fun i hi=>by simp only [ovT,Xr,Nat.reduceEqDiff,reduceIte];(repeat' first|exact apZ|refine amE ?_ ?_|simp only [V.lt,ltL,and_self,and_true]|omega);exact WD _ _ hcap) (by simp only [Nat.reduceAdd,ovT,Xr,Nat.reduceEqDiff,reduceIte,XQ,WQ,alK,u32,u33,u34,u35,u36,u37,u38,u39,and_self,and_true,true_and];first|rfl|exact J7 _ _ hcap) fun k hk K' hL=>?_
 obtain ⟨hk,hinv⟩:=hk
 simp only [ovT,Xr,Nat.reduceEqDiff,reduceIte]
 rcases hd:xs.drop k with _|⟨y,r⟩
 ·have:=QY hd
  rw [hd] at hinv
  have e1:decide ((k:Int) < (((xs.map Qg.v).length:Nat):Int)) = false:=by simp;omega
  (have zx:=e1);refine zgo ?_;repeat' first|exact zt|apply zan|intro hc
  refine Qr _ rfl ?_
  simp only [go_sem]
  rw [← hinv];rfl
 ·obtain ⟨hk,hget,hr⟩:=QJ hd
  rw [hd] at hinv
  have hw:=Qq (k:=k) (by omega)
  have e1:decide ((k:Int) < (((xs.map Qg.v).length:Nat):Int)) = true:=by simp;omega
  have hpy:=hp y (zm hget)
  by_cases hy:p y = true
  ·rw [hy] at hpy
   (have zy0:=hpy.b;have zx:=za hget (za hw (za e1 (za s1 s2))));refine zgo ?_;repeat' first|exact zt|apply zan|intro hc
   refine Qr _ rfl ?_;simp only [go_sem]
   rw [← hinv];simp [alZ,hy]
  ·have hy':p y = false:=by simpa using hy
   rw [hy'] at hpy
   (have zy0:=hpy.b;have zx:=za hget (za hw (za e1 (za s1 s2))));refine zgo ?_;repeat' first|exact zt|apply zan|intro hc
   refine hL _ (k + 1) zet ⟨by omega,?_⟩ (by omega) zoe
   rw [hr,← hinv,alZ,if_neg hy]
def Y0 (Jb:Nat):AC:=Qb [0,1] (.reg [mc 4 (V.bool false)]) (Qb [4] (.reg [mv 5 0,mv 6 1,cl 7 Jb [5,6],bc 8 .geq 7 (V.int 0),mv 4 8]) .ret) def dR:List Q0:=[.tmp 4]
def Jq (Γ:Env) (f:Nat):Prop:=∀ (xs:List Qg) (g:Nat) (cap:List V) (p:Qg→Bool) (hp:∀ x∈xs,EvN Γ g (Qg.v x :: cap) (V.bool (p x))) (hcap:Qh cap) (hl:xs.length < 2 ^ 62),EvN Γ f [.sl 8 (xs.map Qg.v),.clo g cap] (V.bool (xs.any p))
theorem W1 {Γ:Env} {f Jb:Nat} (h:Has Γ.P f 9 (Y0 Jb) dR) (z0:JL Γ Jb):Jq Γ f:=by
 intro xs g cap p hp hcap hl
 refine Qc h zsi zcl zcl fun C hC hm=>?_
 subst hC
 unfold Y0
 have s1:∀ o,Y2 o cap = cap:=fun o=>Wo o cap hcap
 have s2:∀ o B,QL o B cap = True:=fun o B=>eq_true (Xi o B cap hcap)
 have hi:=(z0 xs g cap p hp hcap hl).b
 have e1:=aj4 p xs 0
 (have zx:=za s1 (za s2 e1));exact zg
theorem al4 (x:List UInt8):∀ (l:List (List UInt8)) (k:Nat),ac6 x k l = alZ (fun y=>decide (x = y)) k l
 | [],_=>rfl
 | y :: r,k=>by
   rw [ac6,alZ,al4 x r]
   by_cases h:x = y<;>simp [h]
def Wq (J9:Nat):AC:=Qb [0,1] (.reg [mc 4 (V.bool false)]) (Qb [4] (.reg [mv 5 0,mv 6 1,cl 7 J9 [5,6],bc 8 .geq 7 (V.int 0),mv 4 8]) .ret) def dS:List Q0:=[.tmp 4]
def Yx (Γ:Env) (f:Nat):Prop:=∀ (l:List (List UInt8)) (x:List UInt8) (hl:l.length < 2 ^ 62),EvN Γ f [.sl 1 (l.map V.str),V.str x] (V.bool (l.any fun y=>decide (x = y)))
theorem U6 {Γ:Env} {f J9:Nat} (h:Has Γ.P f 9 (Wq J9) dS) (z0:Y6 Γ J9):Yx Γ f:=by
 intro l x hl
 refine Qc h zsi zcl zcl fun C hC hm=>?_
 subst hC
 unfold Wq
 have hi:=(z0 l x hl).b
 rw [al4] at hi
 have e1:=aj4 (fun y=>decide (x = y)) l 0
 (have zx:=e1);exact zg
def aef (f x:Qg):Bool:=x.subj == f.subj && (x.kind == f.kind && ((x.alg == f.alg && x.bits == f.bits) && x.num == f.num))
def aaU:AC:=Qb [1,2] (.reg [xo 2 (.box true 8 (.t 0)),mc 3 (V.bool false)]) (Qb [3] (.reg [fa 4 1 2,ld 5 1 4,fa 6 1 1,ld 7 1 6,bn 8 .eql 5 7,mv 9 8,xg 10 (.faddr 2 (.t 2)) 9 true,xg 11 (.load false 1 (.t 10)) 9 true,xg 12 (.faddr 2 (.t 1)) 9 true,xg 13 (.load false 1 (.t 12)) 9 true,xg 14 (.bin .eql (.t 11) (.t 13)) 9 true,xo 15 (.pick (.t 9) (.t 14) (.c (V.bool false))),mv 16 15,xg 17 (.faddr 3 (.t 2)) 16 true,xg 18 (.load true 2 (.t 17)) 16 true,xg 19 (.faddr 3 (.t 1)) 16 true,xg 20 (.load true 2 (.t 19)) 16 true,xg 21 (.eqagg false [0,0] (.t 18) (.t 20)) 16 true,xo 22 (.pick (.t 16) (.t 21) (.c (V.bool false))),mv 23 22,xg 24 (.faddr 5 (.t 2)) 23 true,xg 25 (.load false 1 (.t 24)) 23 true,xg 26 (.faddr 5 (.t 1)) 23 true,xg 27 (.load false 1 (.t 26)) 23 true,xg 28 (.bin .eql (.t 25) (.t 27)) 23 true,xo 29 (.pick (.t 23) (.t 28) (.c (V.bool false))),mv 3 29]) .ret) def dU:List Q0:=[.tmp 3]
def KW (Γ:Env) (f:Nat):Prop:=∀ (x f0:Qg),EvN Γ f [x.v,.ro f0.cells 0] (V.bool (aef f0 x))
theorem agn {Γ:Env} {f:Nat} (h:Has Γ.P f 30 aaU dU) :KW Γ f:=by
 intro x f0
 refine Qc h zsi zcl zcl fun C hC hm=>?_
 subst hC
 unfold aaU
 obtain ⟨a1,a2,a3,a4,a5,a6,a7,a8⟩:=x
 obtain ⟨b1,b2,b3,b4,b5,b6,b7,b8⟩:=f0
 simp only [aef,Qg.v,Qg.cells]
 rcases c1:a2 == b2 with _|_<;>rcases c2:a3 == b3 with _|_<;>rcases c3:a4 == b4 with _|_<;>rcases c4:a5 == b5 with _|_<;>rcases c5:a6 == b6 with _|_
 all_goals
  (have zx:=za c1 (za c2 (za c3 (za c4 c5))));exact zg
def adq (WC Q3:Nat):AC:=Qb [0,3] (.reg [xo 3 (.box true 8 (.t 1)),mc 4 (V.bool false)]) (Qb [4] (.reg [mv 5 0,xo 6 (.mkfn WC [(.t 3)]),cl 7 Q3 [5,6],mv 4 7]) .ret) def dV:List Q0:=[.tmp 4]
def jQ (Γ:Env) (f:Nat):Prop:=∀ (l:List Qg) (f0:Qg) (hl:l.length < 2 ^ 62),EvN Γ f [.sl 8 (l.map Qg.v),f0.v] (V.bool (l.any (aef f0)))
theorem ai4 {Γ:Env} {f WC Q3:Nat} (h:Has Γ.P f 8 (adq WC Q3) dV) (z0:KW Γ WC) (z1:Jq Γ Q3):jQ Γ f:=by
 intro l f0 hl
 refine Qc h zsi zcl zcl fun C hC hm=>?_
 subst hC
 unfold adq
 have hi:=(z1 l WC [.ro f0.cells 0] (aef f0) (fun x _=>z0 x f0) (by simp only [Qg.cells,V.closed,Qh,and_self]) hl).b
 simp only [Qg.v,Qg.cells] at hi ⊢
 exact zg
end Av
end
