/- Spent buffers in regions whose order is open. -/
import Derived.Test.YtddmiolapkhaoaaGreatDoorK14
import Derived.Test.YtddmiolapkhaoaaGreatDoorK13
import Derived.Lib.Fields
import Derived.Test.YtddmiolapkhaoaaGreatDoorK12
set_option linter.unusedVariables false
set_option linter.unusedSimpArgs false
section
set_option maxRecDepth 10000
set_option maxHeartbeats 4000000
namespace Av
open Go
attribute [local irreducible] AWp U3 abh acE awS awC ajc awQ ajv Jo jG aiB awR yv awB okR ad1 ris
def aeH:AC:=Qb [] (.reg [mc 0 (.sc (.pointer none))]) (Qb [0] (.reg [xo 1 (.build [vn0] []),xo 2 (.box true 1 (.t 1)),mv 0 2]) .ret) def cS:List Q0:=[.tmp 0]
def KF (Γ:Env) (f:Nat):Prop:=EvG Γ f [] 1 ([])
theorem akh {Γ:Env} {f:Nat} (h:Has Γ.P f 3 aeH cS) :KF Γ f:=by
 refine aqn h (by simp) fun C hC hm=>?_
 subst hC
 unfold aeH
 refine anm fun K' hK=>?_
 simp (maxSteps:=1000000) only [go_sem]
 refine hK _ ?_
 clear hK
 clear K'
 (try simp only [go_sem])
 refine anm fun K' hK=>?_
 simp (maxSteps:=1000000) only [go_sem]
 refine hK _ ?_
 clear hK
 clear K'
 (try simp only [go_sem])
 refine agP 2000 0 1 rfl rfl ?_
 refine zgo ?_;repeat' first|exact zt|apply zan|intro hc
 all_goals (refine ayP 2000 _ _ _ rfl ?_ rfl rfl ?_ ?_ ?_)
 all_goals first|rfl|decide|(simp only [go_sem];simp [conv];done)
def xl:AC:=Qb [0,1] (.reg [mc 4 (.sc (.pointer none))]) (Qb [0] (.reg [mv 5 0,mv 6 0,nk 7 6,fa 8 0 7,ld 9 1 8,mv 10 1,xo 11 (.bslice 1 1 false [vs0] [(0,(.t 10))]),xo 12 (.append 1 16 [vs0] (.t 9) (.t 11)),nk 13 5,fa 14 0 13,xs 1 14 12]) (Qb [4] (.reg [mv 15 0,mv 4 15]) .ret)) def cT:List Q0:=[.tmp 4]
def XI (Γ:Env) (f:Nat):Prop:=∀ (s:List UInt8) (ws:List (List UInt8)) (hw:ws.length < 2 ^ 30),EvU Γ f [V.str s] 1 ((ws.map V.str)) (.ptr 0 0) (((ws++[s]).map V.str))
attribute [local go_sem] zd in
theorem aek {Γ:Env} {f:Nat} (h:Has Γ.P f 16 xl cT) :XI Γ f:=by
 intro s ws hw
 refine afm h (by simp) (by first|exact .inr rfl|exact .inl (by simp only [V.closed,Qh,and_self,and_true])) fun C hC hm=>?_
 subst hC
 unfold xl
 have htk:List.take ws.length (List.map V.str ws) = List.map V.str ws:=zj (by simp)
 (have zx:=htk);refine zgo ?_;repeat' first|exact zt|apply zan|intro hc
 all_goals first|((refine auE _ _ _ rfl (by first|(simp only [go_sem];done)|(simp only [go_sem];simp [conv];done)) rfl rfl (by decide) ⟨_,rfl⟩ ?_ ?_)<;>(simp;done))
def jj (Qj Qd:Nat):AC:=Qb [0,1] (.reg [mc 4 (.sc (.pointer none))]) (Qb [4] (.reg [mv 5 0,mv 6 1,cl 7 Qj [6],cl 8 Qd [5,7],mv 4 8]) .ret) def cU:List Q0:=[.tmp 4]
def Vb (Γ:Env) (f:Nat):Prop:=∀ (n:Int) (ws:List (List UInt8)) (hw:ws.length < 2 ^ 30) (h0:-9223372036854775808≤n) (h1:n≤9223372036854775807),EvU Γ f [V.int n] 1 ((ws.map V.str)) (.ptr 0 0) (((ws++[Lib.itoa n]).map V.str))
theorem acC {Γ:Env} {f Qj Qd:Nat} (h:Has Γ.P f 9 (jj Qj Qd) cU) (z0:KD Γ Qj) (z1:XI Γ Qd):Vb Γ f:=by
 intro n ws hw h0 h1
 refine afm h (by simp) (by first|exact .inr rfl|exact .inl (by simp only [V.closed,Qh,and_self,and_true])) fun C hC hm=>?_
 subst hC
 unfold jj
 have hW:=z1 (Lib.itoa n) ws hw
 refine zgo ?_;repeat' first|exact zt|apply zan|intro hc
 all_goals first|((refine auE _ _ _ rfl (by first|(simp only [go_sem];done)|(simp only [go_sem];simp [conv];done)) rfl rfl (by decide) ⟨_,rfl⟩ ?_ ?_)<;>(simp;done))
def wE (qM:Nat):AC:=Qb [0] (.reg [mc 2 (V.str [])]) (Qb [2] (.reg [mv 3 0,nk 4 3,fa 5 0 4,ld 6 1 5,xo 7 (.call qM [(.t 6),(.c (V.str [32]))]),bc 8 .add 7 (V.str [10]),mv 2 8]) .ret) def cV:List Q0:=[.tmp 2]
def WU (Γ:Env) (f:Nat):Prop:=∀ (ws:List (List UInt8)) (hw:ws.length < 2 ^ 30) (hl:([32].intercalate ws).length < 2 ^ 40),EvU Γ f [] 1 ((ws.map V.str)) (V.str ([32].intercalate ws++[10])) ((ws.map V.str))
attribute [local go_sem] zJ in
theorem afd {Γ:Env} {f qM:Nat} (h:Has Γ.P f 9 (wE qM) cV) (z0:adT Γ qM):WU Γ f:=by
 intro ws hw hl
 refine afm h (by simp) (by first|exact .inr rfl|exact .inl (by simp only [V.closed,Qh,and_self,and_true])) fun C hC hm=>?_
 subst hC
 unfold wE
 refine zgo ?_;repeat' first|exact zt|apply zan|intro hc
 all_goals first|((refine auE _ _ _ rfl (by first|(simp only [go_sem];done)|(simp only [go_sem];simp [conv];done)) rfl rfl (by decide) ⟨_,rfl⟩ ?_ ?_)<;>(simp;done))
def Km (ws:List (List UInt8)) (k:Int):List UInt8:=if k < 1∨k > ws.length then [] else ws.getD (k - 1).toNat []
def aw6 (s:List UInt8):Bool:=s.all fun b=>decide (b.toNat < 128)
def abg (Γ:Env) (f:Nat):Prop:=∀ (s:List UInt8) (hs:s.length < 2 ^ 20) (ha:aw6 s = true),EvC Γ f [V.str s] (.sl 1 ((Lib.fields s).map V.str))
def aeG (Ui:Nat):AC:=Qb [0,1] (.reg [mc 4 (V.str []),mc 5 (V.bool false)]) (Qb [1,6] (.reg [mv 7 0,cl 8 Ui [7],mv 6 8]) (Qb [1,6] (Qb [1,6,16] (.reg [mv 9 1,bc 10 .lss 9 (V.int 1),mv 11 10,mg 12 1 11 false,mg 13 6 11 false,xg 14 (.lenL (.t 13)) 11 false,xg 15 (.bin .gtr (.t 12) (.t 14)) 11 false,xo 16 (.pick (.t 11) (.c (V.bool true)) (.t 15))]) (.cond (.t 16) (Qb [4,5] (.reg [mc 4 (V.str []),mc 5 (V.bool false)]) .ret) .skip)) (Qb [4,5] (.reg [mv 17 6,mv 18 1,bc 19 .sub 18 (V.int 1),ia 20 1 17 19,ld 21 1 20,mv 4 21,mc 5 (V.bool true)]) .ret))) def cW:List Q0:=[.tmp 4,.tmp 5]
def KE (Γ:Env) (f:Nat):Prop:=∀ (s:List UInt8) (k:Int) (hs:s.length < 2 ^ 20) (ha:aw6 s = true) (hk:-9223372036854775808≤k) (hk2:k < 2 ^ 40),EvN Γ f [V.str s,V.int k] (.tup [V.str (Km (Lib.fields s) k),V.bool (decide (1≤k) && decide (k≤(Lib.fields s).length))])
theorem akg {Γ:Env} {f Ui:Nat} (h:Has Γ.P f 22 (aeG Ui) cW) (z0:abg Γ Ui):KE Γ f:=by
 intro s k hs ha hk hk2
 refine Qc h zsi zcl zcl fun C hC hm=>?_
 subst hC
 unfold aeG
 have hF:=(z0 s hs ha).b
 generalize Lib.fields s = ws at *
 by_cases h1:k < 1
 ·have e1:decide (k < 1) = true:=zn h1
  have e2:decide (1≤k) = false:=zv (by omega)
  have e3:Km ws k = []:=by unfold Km;rw [if_pos (.inl h1)]
  rw [e2,e3]
  (have zx:=e1);exact zg
 ·have e1:decide (k < 1) = false:=zv h1
  have e2:decide (1≤k) = true:=zn (by omega)
  by_cases h2:k > ws.length
  ·have e4:decide (k > (((ws.map V.str).length:Nat):Int)) = true:=zn (by simp;omega)
   have e5:decide (k≤(ws.length:Int)) = false:=zv (by omega)
   have e3:Km ws k = []:=by unfold Km;rw [if_pos (.inr h2)]
   rw [e2,e3,e5]
   (have zx:=za e1 e4);exact zg
  ·have e4:decide (k > (((ws.map V.str).length:Nat):Int)) = false:=zv (by simp;omega)
   have e5:decide (k≤(ws.length:Int)) = true:=zn (by omega)
   have hw:IntKind.i64.wrap (k - 1) = k - 1:=Q7 (by omega) (by omega)
   have hlt:(k - 1).toNat < ws.length:=by omega
   have hget:ws[(k - 1).toNat]? = some (Km ws k):=by
    unfold Km;rw [if_neg (by omega),zB,zb hlt];rfl
   rw [e2,e5]
   (have zx:=za e1 (za e4 (za hw hget)));refine zgo ?_;repeat' first|exact zt|apply zan|intro hc
   all_goals first|exact zr|omega
abbrev aym:V:=.sc (.slice none 0 0)
abbrev azI:V:=.agg [aym,aym,aym]
def xB:List (List Nat):=[[],[0],[1],[2],[2],[4,2],[3,5,2],[6,2],[7,2],[2],[9,2],[8,10,2],[11,2,2],[12],[12],[14,12],[13,15,12],[16,12],[17,12],[12],[19,12],[18,20,12],[21,12,12],[22],[22],[24,22],[23,25,22],[26,22],[27,22],[22],[29,22],[28,30,22],[22,31,12],[12,32,2],[2,33]]
def yJ:OT:=och 0 35
@[go_sem] def UA:OP:=oN 0 (mv 41 5) (oN 1 (bc 42 .gtr 41 (V.int 0)) (oN 2 (mv 43 42) (oN 3 (mg 44 0 43 true) (oN 4 (mg 45 5 43 true) (oN 5 (xg 46 (.bin .sub (.t 45) (.c (V.int 1))) 43 true) (oN 6 (xg 47 (.iaddr 2 (.t 44) (.t 46)) 43 true) (oN 7 (xg 48 (.faddr 0 (.t 47)) 43 true) (oN 8 (xg 49 (.load false 1 (.t 48)) 43 true) (oN 9 (xg 50 (.faddr 0 (.t 6)) 43 true) (oN 10 (xg 51 (.load false 1 (.t 50)) 43 true) (oN 11 (xg 52 (.bin .gtr (.t 49) (.t 51)) 43 true) (oN 12 (mg 53 52 43 true) (oN 13 (mg 54 0 53 false) (oN 14 (mg 55 5 53 false) (oN 15 (xg 56 (.bin .sub (.t 55) (.c (V.int 1))) 53 false) (oN 16 (xg 57 (.iaddr 2 (.t 54) (.t 56)) 53 false) (oN 17 (xg 58 (.faddr 0 (.t 57)) 53 false) (oN 18 (xg 59 (.load false 1 (.t 58)) 53 false) (oN 19 (xg 60 (.faddr 0 (.t 6)) 53 false) (oN 20 (xg 61 (.load false 1 (.t 60)) 53 false) (oN 21 (xg 62 (.bin .eql (.t 59) (.t 61)) 53 false) (oN 22 (mg 63 62 53 false) (oN 23 (mg 64 0 63 true) (oN 24 (mg 65 5 63 true) (oN 25 (xg 66 (.bin .sub (.t 65) (.c (V.int 1))) 63 true) (oN 26 (xg 67 (.iaddr 2 (.t 64) (.t 66)) 63 true) (oN 27 (xg 68 (.faddr 1 (.t 67)) 63 true) (oN 28 (xg 69 (.load false 1 (.t 68)) 63 true) (oN 29 (xg 70 (.faddr 1 (.t 6)) 63 true) (oN 30 (xg 71 (.load false 1 (.t 70)) 63 true) (oN 31 (xg 72 (.bin .geq (.t 69) (.t 71)) 63 true) (oN 32 (xg 73 (.pick (.t 63) (.t 72) (.c (V.bool false))) 53 false) (oN 33 (xg 74 (.pick (.t 53) (.c (V.bool true)) (.t 73)) 43 true) (oN 34 (xo 75 (.pick (.t 43) (.t 74) (.c (V.bool false)))) .done))))))))))))))))))))))))))))))))))
def yY:List AO:=aoO (UA)
instance:RG [] yJ (UA) (yY) xB 35 (fun _=>true):=⟨rfl,by kernel_rfl,by kernel_rfl⟩
def aaV:AC:=Qb [0,1] (.reg [mc 4 (V.bool false)]) (Qb [0] (Qb [0,1,7,8,9] (.reg [mv 7 0,ln 8 7,mc 9 (V.int 0)]) (.block 0 (JG [0,1,7,8,9] (Qb [0,1,7,8,9,10] (.reg [bn 10 .lss 9 8]) (Qb [0,1,7,8,9] (.cond (.t 10) .skip (.exit 0)) (Qb [0,1,7,8,9] (.block 1 (Qb [0,1,5,6,7,8,9] (.reg [mv 11 9,ia 12 2 7 9,xo 13 (.load true 2 (.t 12)),xo 6 (.alloc [.val vi0,.val vi0]),mv 5 11,xs 2 6 13]) (Qb [0,1,5,6,7,8,9] (Qb [0,1,5,6,7,8,9,40] (.reg [fa 14 0 6,ld 15 1 14,bc 16 .lss 15 (V.int 0),mv 17 16,xg 18 (.faddr 0 (.t 6)) 17 false,xg 19 (.load false 1 (.t 18)) 17 false,mg 20 1 17 false,xg 21 (.bin .geq (.t 19) (.t 20)) 17 false,xo 22 (.pick (.t 17) (.c (V.bool true)) (.t 21)),mv 23 22,xg 24 (.faddr 1 (.t 6)) 23 false,xg 25 (.load false 1 (.t 24)) 23 false,xg 26 (.bin .lss (.t 25) (.c (V.int 0))) 23 false,xo 27 (.pick (.t 23) (.c (V.bool true)) (.t 26)),mv 28 27,xg 29 (.faddr 1 (.t 6)) 28 false,xg 30 (.load false 1 (.t 29)) 28 false,mg 31 1 28 false,xg 32 (.bin .geq (.t 30) (.t 31)) 28 false,xo 33 (.pick (.t 28) (.c (V.bool true)) (.t 32)),mv 34 33,xg 35 (.faddr 0 (.t 6)) 34 false,xg 36 (.load false 1 (.t 35)) 34 false,xg 37 (.faddr 1 (.t 6)) 34 false,xg 38 (.load false 1 (.t 37)) 34 false,xg 39 (.bin .eql (.t 36) (.t 38)) 34 false,xo 40 (.pick (.t 34) (.c (V.bool true)) (.t 39))]) (.cond (.t 40) (Qb [4] (.reg [mc 4 (V.bool false)]) .ret) .skip)) (Qb [0,1,7,8,9,75] (VD [] yJ (UA) (yY) xB) (.cond (.t 75) (Qb [4] (.reg [mc 4 (V.bool false)]) .ret) .skip))))) (.reg [bc 76 .add 9 (V.int 1),mv 9 76]))))))) (Qb [4] (.reg [mv 77 0,ln 78 77,bc 79 .leq 78 (V.int 40),mv 4 79]) .ret)) def cX:List Q0:=[.tmp 4]
def KX (Γ:Env) (f:Nat):Prop:=EvN Γ f [aym,V.int 0] (V.bool true)
theorem ago {Γ:Env} {f:Nat} (h:Has Γ.P f 80 aaV cX) :KX Γ f:=by
 refine Qc h zsi zcl zcl fun C hC hm=>?_
 subst hC
 unfold aaV
 refine zgo ?_;repeat' first|exact zt|apply zan|intro hc
 refine agO ?_
 exact zg
def Xt:AC:=Qb [0,1] (.reg [mc 4 (V.int 0)]) (Qb [] (Qb [0,1,7,8] (.reg [mv 6 0,ln 7 6,mc 8 (V.int 0)]) (.block 0 (JG [0,1,7,8] (Qb [0,1,7,8,9] (.reg [bn 9 .lss 8 7]) (Qb [0,1,7,8] (.cond (.t 9) .skip (.exit 0)) (Qb [0,1,7,8] (.block 1 (Qb [0,1,5,7,8] (.reg [mv 10 8,mv 5 10]) (Qb [0,1,5,7,8,16] (.reg [mv 11 1,mv 12 0,mv 13 5,ia 14 5 12 13,xo 15 (.load true 5 (.t 14)),xo 16 (.callv (.t 11) [(.t 15)])]) (.cond (.t 16) (Qb [4] (.reg [mv 17 5,mv 4 17]) .ret) .skip)))) (.reg [bc 18 .add 8 (V.int 1),mv 8 18]))))))) (Qb [4] (.reg [mc 4 (V.int (-1))]) .ret)) def cY:List Q0:=[.tmp 4]
def JK (Γ:Env) (f:Nat):Prop:=∀ (g:Nat),EvN Γ f [aym,.clo g []] (V.int (-1))
theorem Vu {Γ:Env} {f:Nat} (h:Has Γ.P f 19 Xt cY) :JK Γ f:=by
 intro g
 refine Qc h zsi zcl zcl fun C hC hm=>?_
 subst hC
 unfold Xt
 refine zgo ?_;repeat' first|exact zt|apply zan|intro hc
 refine agO ?_
 exact zg
def YZ (Ja:Nat):AC:=Qb [0,1] (.reg [mc 4 (V.bool false)]) (Qb [4] (.reg [mv 5 0,mv 6 1,cl 7 Ja [5,6],bc 8 .geq 7 (V.int 0),mv 4 8]) .ret) def cZ:List Q0:=[.tmp 4]
def Jp (Γ:Env) (f:Nat):Prop:=∀ (g:Nat),EvN Γ f [aym,.clo g []] (V.bool false)
theorem W0 {Γ:Env} {f Ja:Nat} (h:Has Γ.P f 9 (YZ Ja) cZ) (z0:JK Γ Ja):Jp Γ f:=by
 intro g
 refine Qc h zsi zcl zcl fun C hC hm=>?_
 subst hC
 unfold YZ
 have hI:=(z0 g).b
 have e0:decide ((-1:Int)≥0) = false:=by decide
 (have zx:=e0);exact zg
def wW:List (List Nat):=[[],[0],[1],[2,1],[3],[4,3],[5,3,3],[6],[7,6],[6],[9,6],[8,10,6],[11,6],[12,6],[6],[14,6],[13,15,6],[6,16,3],[3,17]]
def xW:OT:=och 0 19
@[go_sem] def Kj (Jm:Nat):OP:=oN 0 (xo 14 (.load true 9 (.t 4))) (oN 1 (cl 15 Jm [14]) (oN 2 (bc 16 .neq 15 (V.int 0)) (oN 3 (mv 17 16) (oN 4 (mg 18 3 17 false) (oN 5 (xg 19 (.bin .gtr (.t 18) (.c (V.int 0))) 17 false) (oN 6 (mg 20 19 17 false) (oN 7 (xg 21 (.faddr 0 (.t 1)) 20 true) (.one 8 false [1] (xg 22 (.load false 1 (.t 21)) 20 true) (oN 9 (mg 23 3 20 true) (oN 10 (xg 24 (.bin .sub (.t 23) (.c (V.int 1))) 20 true) (.one 11 false [1] (xg 25 (.iaddr 9 (.t 22) (.t 24)) 20 true) (oN 12 (xg 26 (.faddr 0 (.t 25)) 20 true) (.one 13 false [1] (xg 27 (.load false 1 (.t 26)) 20 true) (oN 14 (xg 28 (.faddr 0 (.t 4)) 20 true) (.one 15 false [1] (xg 29 (.load false 1 (.t 28)) 20 true) (oN 16 (xg 30 (.bin .geq (.t 27) (.t 29)) 20 true) (oN 17 (xg 31 (.pick (.t 20) (.t 30) (.c (V.bool false))) 17 false) (oN 18 (xo 32 (.pick (.t 17) (.c (V.bool true)) (.t 31))) .done))))))))))))))))))
def wo (Jm:Nat):List AO:=aoO (Kj Jm)
instance (Jm:Nat):RG [] xW (Kj Jm) (wo Jm) wW 19 (fun _=>true):=⟨rfl,by kernel_rfl,by kernel_rfl⟩
def jF (Jm Q1 Kt VO:Nat):AC:=Qb [1] (.reg [xo 1 (.box true 3 (.t 0)),mc 2 (V.int 0)]) (Qb [1] (Qb [1,7,8,9] (.reg [fa 6 0 1,ld 7 1 6,ln 8 7,mc 9 (V.int 0)]) (.block 0 (JG [1,7,8,9] (Qb [1,7,8,9,10] (.reg [bn 10 .lss 9 8]) (Qb [1,7,8,9] (.cond (.t 10) .skip (.exit 0)) (Qb [1,7,8,9] (.block 1 (Qb [1,3,4,7,8,9] (.reg [mv 11 9,ia 12 9 7 9,xo 13 (.load true 9 (.t 12)),xo 4 (.alloc [.val vs0,.val vi0,.val vi0,.nil 1,.val (.bool false),.nil 4,.nil 1,.nil 1,.val (.bool false)]),mv 3 11,xs 9 4 13]) (Qb [1,7,8,9,32] (VD [] xW (Kj Jm) (wo Jm) wW) (.cond (.t 32) (Qb [2] (.reg [mc 2 (V.int 31)]) .ret) .skip)))) (.reg [bc 33 .add 9 (V.int 1),mv 9 33]))))))) (Qb [1,5] (.reg [fa 34 2 1,ld 35 1 34,xo 36 (.call Q1 [(.t 35),(.c (.clo Kt []))]),mv 5 36]) (Qb [] (Qb [58] (.reg [mv 37 5,mv 38 37,xg 39 (.faddr 0 (.t 1)) 38 false,xg 40 (.load false 1 (.t 39)) 38 false,xg 41 (.lenL (.t 40)) 38 false,xg 42 (.bin .gtr (.t 41) (.c (V.int 16))) 38 false,xo 43 (.pick (.t 38) (.c (V.bool true)) (.t 42)),mv 44 43,xg 45 (.faddr 2 (.t 1)) 44 false,xg 46 (.load false 1 (.t 45)) 44 false,xg 47 (.lenL (.t 46)) 44 false,xg 48 (.bin .gtr (.t 47) (.c (V.int 30))) 44 false,xo 49 (.pick (.t 44) (.c (V.bool true)) (.t 48)),mv 50 49,xg 51 (.faddr 1 (.t 1)) 50 false,xg 52 (.load false 1 (.t 51)) 50 false,xg 53 (.faddr 0 (.t 1)) 50 false,xg 54 (.load false 1 (.t 53)) 50 false,xg 55 (.lenL (.t 54)) 50 false,xg 56 (.call VO [(.t 52),(.t 55)]) 50 false,xg 57 (.un .not (.t 56)) 50 false,xo 58 (.pick (.t 50) (.c (V.bool true)) (.t 57))]) (.cond (.t 58) (Qb [2] (.reg [mc 2 (V.int 31)]) .ret) .skip)) (Qb [2] (.reg [mc 2 (V.int 0)]) .ret)))) def c7:List Q0:=[.tmp 2]
def qI (Γ:Env) (f:Nat):Prop:=EvN Γ f [azI] (V.int 0)
theorem ahu {Γ:Env} {f Jm Q1 Kt VO:Nat} (h:Has Γ.P f 59 (jF Jm Q1 Kt VO) c7) (z0:Jp Γ Q1) (z1:KX Γ VO):qI Γ f:=by
 refine Qc h zsi zcl zcl fun C hC hm=>?_
 subst hC
 unfold jF
 have hL:=z1.b
 refine zgo ?_;repeat' first|exact zt|apply zan|intro hc
 refine agO ?_
 exact zg
def ao9:AC:=Qb [0,1,4] (.reg [xo 4 (.alloc [.val vi0,.val vs0,.val vi0,.val vi0,.val vi0,.val vi0,.val vs0,.val vi0,.val vi0,.val vi0,.val vs0])]) (Qb [4] (.reg [mv 5 0,mv 6 1,xo 7 (.build [vi0,vs0,vi0,vi0,vi0,vi0,vs0,vi0,vi0,vi0,vs0] [(0,1,(.c (V.int 3))),(1,1,(.t 5)),(2,1,(.c (V.int 1))),(3,1,(.t 6)),(4,1,(.c (V.int 90))),(6,1,(.c (V.str [116,108,115]))),(5,1,(.c (V.int 4))),(9,1,(.c (V.int 1)))]),xs 11 4 7]) .ret) def c8:List Q0:=[.cell 4 true 11]
def ah0 (Γ:Env) (f:Nat):Prop:=∀ (h0:List UInt8) (d:Int),EvC Γ f [V.str h0,V.int d] ((Qa.v ⟨3,h0,1,d,90,4,[116,108,115],0,0,1,[]⟩))
theorem asC {Γ:Env} {f:Nat} (h:Has Γ.P f 8 ao9 c8) :ah0 Γ f:=by
 intro h0 d
 refine Ju h zsi (by simp only [Qa.v,Qa.cells,V.closed,Qh,and_self,and_true]) fun C hC hm=>?_
 subst hC
 unfold ao9
 simp only [Qa.v,Qa.cells]
 refine zgo ?_;repeat' first|exact zt|apply zan|intro hc
 all_goals first|(refine Qr _ rfl ?_;simp only [go_sem];first|done|exact ⟨rfl,rfl⟩|(simp;done))
theorem atv:Km (Lib.fields [98,114,111,107,101,110,32,111,112,101,110,32,100,111,119,110,32,105,116,101,109]) 1 = [98,114,111,107,101,110]:=by decide +kernel
def ady:List (List Nat):=[[],[],[1],[],[3],[2,4],[5],[6],[0,7],[],[9],[],[11],[10,12],[13],[14],[8,15,8]]
def acF:OT:=och 0 17
@[go_sem] def yL (Qd:Nat):OP:=oN 0 (mv 62 9) (oN 1 (fa 63 0 2) (oN 2 (ld 64 1 63) (oN 3 (fa 65 0 10) (oN 4 (ld 66 1 65) (oN 5 (ia 67 9 64 66) (oN 6 (fa 68 0 67) (oN 7 (ld 69 1 68) (oN 8 (cl 70 Qd [62,69]) (oN 9 (fa 71 0 2) (oN 10 (ld 72 1 71) (oN 11 (fa 73 1 10) (oN 12 (ld 74 1 73) (oN 13 (ia 75 9 72 74) (oN 14 (fa 76 0 75) (oN 15 (ld 77 1 76) (.one 16 false [8] (cl 78 Qd [70,77]) .done))))))))))))))))
def acV (Qd:Nat):List AO:=aoO (yL Qd)
instance (Qd:Nat):RG [] acF (yL Qd) (acV Qd) ady 17 (fun _=>true):=⟨rfl,by kernel_rfl,by kernel_rfl⟩
def agw (Xh QX Qd Ku Jv:Nat):AC:=Qb [2,3] (.reg [xo 2 (.box true 3 (.t 0)),xo 3 (.box true 3 (.t 1)),mc 4 (V.str []),mc 5 (V.int 0)]) (Qb [2,3,6,7] (.reg [fa 14 0 3,ld 15 1 14,xo 16 (.call Xh [(.c (V.str [98,114,111,107,101,110,32,111,112,101,110,32,100,111,119,110,32,105,116,101,109])),(.t 15)]),mv 13 16,ex 17 13 0,ex 18 13 1,mv 6 17,mv 7 18]) (Qb [2,3,6,7,8] (.reg [fa 19 1 2,ld 20 1 19,ln 21 20,mv 8 21]) (Qb [2,3,6,7,8] (Qb [2,3,6,7,8,24] (.reg [fa 22 0 3,ld 23 1 22,bc 24 .eql 23 (V.int 4)]) (.cond (.t 24) (.reg [fa 25 2 2,ld 26 1 25,ln 27 26,mv 8 27]) .skip)) (Qb [2,3,6] (Qb [2,3,6,40] (.reg [mv 28 7,xo 29 (.un .not (.t 28)),mv 30 29,xg 31 (.faddr 1 (.t 3)) 30 false,xg 32 (.load false 1 (.t 31)) 30 false,xg 33 (.bin .lss (.t 32) (.c (V.int 0))) 30 false,xo 34 (.pick (.t 30) (.c (V.bool true)) (.t 33)),mv 35 34,xg 36 (.faddr 1 (.t 3)) 35 false,xg 37 (.load false 1 (.t 36)) 35 false,mg 38 8 35 false,xg 39 (.bin .geq (.t 37) (.t 38)) 35 false,xo 40 (.pick (.t 35) (.c (V.bool true)) (.t 39))]) (.cond (.t 40) (Qb [4,5] (.reg [mc 4 (V.str []),mc 5 (V.int 2)]) .ret) .skip)) (Qb [2,3,9] (.reg [cl 41 QX [],mv 42 6,cl 43 Qd [41,42],mv 9 43]) (Qb [3,9] (Qb [2,3,9,46] (.reg [fa 44 0 3,ld 45 1 44,bc 46 .eql 45 (V.int 4)]) (.cond (.t 46) (.reg [mv 47 9,fa 48 2 2,ld 49 1 48,fa 50 1 3,ld 51 1 50,ia 52 5 49 51,fa 53 0 52,ld 54 1 53,cl 55 Qd [47,54]]) (Qb [2,3,9,10] (.reg [fa 56 1 2,ld 57 1 56,fa 58 1 3,ld 59 1 58,ia 60 2 57 59,xo 61 (.load true 2 (.t 60)),xo 10 (.alloc [.val vi0,.val vi0]),xs 2 10 61]) (VD [] acF (yL Qd) (acV Qd) ady)))) (Qb [9] (Qb [3,9,86] (.reg [fa 79 0 3,ld 80 1 79,bc 81 .eql 80 (V.int 2),mv 82 81,xg 83 (.faddr 0 (.t 3)) 82 false,xg 84 (.load false 1 (.t 83)) 82 false,xg 85 (.bin .eql (.t 84) (.c (V.int 3))) 82 false,xo 86 (.pick (.t 82) (.c (V.bool true)) (.t 85))]) (.cond (.t 86) (Qb [9,11,12] (.reg [fa 88 2 3,ld 89 1 88,cl 90 Ku [89],mv 87 90,ex 91 87 0,ex 92 87 1,xo 11 (.alloc [.val vi0,.val vs0,.val vi0,.val vi0,.val vi0,.val vi0,.val vi0,.val vi0,.val vi0,.val vi0,.val vi0,.val vi0]),xs 12 11 91,mv 12 92]) (Qb [9,11] (Qb [9,11,94] (.reg [mv 93 12,bc 94 .neq 93 (V.int 0)]) (.cond (.t 94) (Qb [4,5] (.reg [mc 4 (V.str []),mc 5 (V.int 2)]) .ret) .skip)) (.reg [mv 95 9,fa 96 1 11,ld 97 1 96,cl 98 Qd [95,97]]))) (Qb [9,101] (.reg [fa 99 2 3,ld 100 1 99,bc 101 .neq 100 (V.int 0)]) (.cond (.t 101) (Qb [4,5] (.reg [mc 4 (V.str []),mc 5 (V.int 2)]) .ret) .skip)))) (Qb [4,5] (.reg [mv 102 9,cl 103 Jv [102],mv 4 103,mc 5 (V.int 0)]) .ret)))))))) def c9:List Q0:=[.tmp 4,.tmp 5]
def vN (Γ:Env) (f:Nat):Prop:=EvN Γ f [azI,.agg [V.int 1,V.int 0,V.int 0]] (.tup [V.str [],V.int 2])
theorem alb {Γ:Env} {f Xh QX Qd Ku Jv:Nat} (h:Has Γ.P f 104 (agw Xh QX Qd Ku Jv) c9) (z0:KE Γ Xh) (z1:KF Γ QX) (z2:XI Γ Qd) (z3:jR Γ Ku) (z4:WU Γ Jv):vN Γ f:=by
 refine Qc h zsi zcl zcl fun C hC hm=>?_
 subst hC
 unfold agw
 have hN:=(z0 [98,114,111,107,101,110,32,111,112,101,110,32,100,111,119,110,32,105,116,101,109] 1 (by decide) (by decide +kernel) (by decide) (by decide)).b
 rw [atv,show (Lib.fields [98,114,111,107,101,110,32,111,112,101,110,32,100,111,119,110,32,105,116,101,109]).length = 4 by decide +kernel] at hN
 have e0:(decide ((1:Int)≤1) && decide ((1:Int)≤(4:Nat))) = true:=by decide
 rw [e0] at hN
 have e1:decide ((0:Int)≥0) = true:=by decide
 (have zx:=e1);exact zg
def agx (Uo yg:Nat):AC:=Qb [2,3] (.reg [xo 2 (.box true 3 (.t 0)),xo 3 (.box true 3 (.t 1)),mc 4 (V.str []),mc 5 (V.int 0)]) (Qb [2,3] (Qb [2,3,8] (.reg [xo 6 (.load true 3 (.t 2)),cl 7 Uo [6],bc 8 .neq 7 (V.int 0)]) (.cond (.t 8) (Qb [4,5] (.reg [mc 4 (V.str []),mc 5 (V.int 31)]) .ret) .skip)) (Qb [4,5] (.reg [xo 9 (.load true 3 (.t 2)),xo 10 (.load true 3 (.t 3)),cl 11 yg [9,10],ex 12 11 0,ex 13 11 1,mv 4 12,mv 5 13]) .ret)) def dc:List Q0:=[.tmp 4,.tmp 5]
def vO (Γ:Env) (f:Nat):Prop:=EvN Γ f [azI,.agg [V.int 1,V.int 0,V.int 0]] (.tup [V.str [],V.int 2])
theorem alc {Γ:Env} {f Uo yg:Nat} (h:Has Γ.P f 14 (agx Uo yg) dc) (z0:qI Γ Uo) (z1:vN Γ yg):vO Γ f:=by
 refine Qc h zsi zcl zcl fun C hC hm=>?_
 subst hC
 unfold agx
 have hC:=z0.b
 have hR:=z1.b
 exact zg
def amL:List UInt8:=[117,115,101,32,115,117,105,116,101,32,107,101,121,32,109,111,115,116,32,108,101,97,115,116,32,116,114,117,115,116,32,112,101,101,114,32,111,102,102]
def WZ:List (List UInt8):=[[117,115,101],[115,117,105,116,101],[107,101,121],[109,111,115,116],[108,101,97,115,116],[116,114,117,115,116],[112,101,101,114],[111,102,102]]
theorem ap2:Lib.fields amL = WZ:=by decide +kernel
def asW (f:Qa):List (List UInt8) :=
 if f.kind = 1∨f.kind = 8 then [jr f.alg f.bits] else if f.kind = 3 then [jr f.alg f.bits,Lib.itoa f.num] else if f.kind = 7 then [f.text] else [Lib.itoa f.num]
def aok (f:Qa):List (List UInt8):=[Lib.itoa f.day,f.host,Lib.itoa f.mach,f.subj,Km WZ f.kind]++asW f++[Lib.itoa f.conf]
def aei (f:Qa):List UInt8:=[32].intercalate (aok f)++[10]
def i64 (n:Int):Prop:=-9223372036854775808≤n∧n≤9223372036854775807
theorem akH {f:Qa} (h:Yg f = true):(0≤f.mach∧f.mach≤1099511627776)∧(0≤f.day∧f.day≤40000)∧(1≤f.conf∧f.conf≤100)∧Ky f = true∧Q8 f.host = true∧Q8 f.subj = true:=by
 simp only [Yg,zo,zu,Zh,zH] at h
 obtain ⟨⟨⟨⟨⟨⟨⟨a1,a2⟩,a3⟩,a4⟩,⟨⟨b1,b2⟩,b3⟩,b4⟩,_⟩,_⟩,c⟩:=h
 exact ⟨⟨a3,a4⟩,⟨b1,b2⟩,⟨b3,b4⟩,c,a1,a2⟩
theorem afo {f:Qa} (h:Ky f = true):(1≤f.kind∧f.kind≤8)∧0≤f.num∧f.num≤2147483648:=by
 unfold Ky amB at h
 split at h
 ·simp only [zo,ki] at h;omega
 split at h
 ·simp only [zo,ki,zu] at h;omega
 split at h
 ·simp only [zo,ki,zu] at h;omega
 split at h
 ·simp only [zo,ki,zu] at h;omega
 split at h
 ·simp only [zo,ki,zu] at h;omega
 split at h
 ·simp only [zo,ki,zu] at h;omega
 ·cases h
def wR:List (List Nat):=[[],[],[1],[0,2,0],[],[4],[3,5,3],[],[7],[6,8,6],[],[10],[9,11,9],[],[12,13,12],[14,14,0,1,2,3,4,5,6,7,8,9,10,11,12,13,14]]
def xR:OT:=och 0 16
@[go_sem] def Kc (QX Qk Qd:Nat):OP:=oN 0 (cl 16 QX []) (oN 1 (fa 17 3 1) (oN 2 (ld 18 1 17) (.one 3 true [0] (cl 19 Qk [16,18]) (oN 4 (fa 20 1 1) (oN 5 (ld 21 1 20) (.one 6 true [3,0] (cl 22 Qd [19,21]) (oN 7 (fa 23 2 1) (oN 8 (ld 24 1 23) (.one 9 true [6,3,0] (cl 25 Qk [22,24]) (oN 10 (fa 26 6 1) (oN 11 (ld 27 1 26) (.one 12 true [9,6,3,0] (cl 28 Qd [25,27]) (oN 13 (mv 29 4) (.one 14 true [12,9,6,3,0] (cl 30 Qd [28,29]) (oN 15 (mv 6 30) .done)))))))))))))))
def wg (QX Qk Qd:Nat):List AO:=aoO (Kc QX Qk Qd)
instance (QX Qk Qd:Nat):RG [3,6,9,12,14] xR (Kc QX Qk Qd) (wg QX Qk Qd) wR 16 (fun _=>true):=⟨rfl,by kernel_rfl,by kernel_rfl⟩
def wQ:List (List Nat):=[[],[],[1],[2],[0,3,3],[],[5],[4,6,4]]
def xQ:OT:=och 0 8
@[go_sem] def Kb (Jr Qd Qk:Nat):OP:=oN 0 (mv 47 6) (oN 1 (fa 48 7 1) (oN 2 (xo 49 (.load true 2 (.t 48))) (oN 3 (cl 50 Jr [49]) (.one 4 true [3] (cl 51 Qd [47,50]) (oN 5 (fa 52 9 1) (oN 6 (ld 53 1 52) (.one 7 true [4,3] (cl 54 Qk [51,53]) .done)))))))
def we (Jr Qd Qk:Nat):List AO:=aoO (Kb Jr Qd Qk)
instance (Jr Qd Qk:Nat):RG [4,7] xQ (Kb Jr Qd Qk) (we Jr Qd Qk) wQ 8 (fun y=>!decide (y = 14000) && !decide (y = 28000)):=⟨rfl,by kernel_rfl,by kernel_rfl⟩
def ace (QS Xh QX Qk Qd Jr Jv:Nat):AC:=Qb [1] (.reg [xo 1 (.box true 11 (.t 0)),mc 2 (V.str []),mc 3 (V.int 0)]) (Qb [1] (Qb [1,9] (.reg [xo 7 (.load true 11 (.t 1)),cl 8 QS [7],bc 9 .neq 8 (V.int 0)]) (.cond (.t 9) (Qb [2,3] (.reg [mc 2 (V.str []),mc 3 (V.int 24)]) .ret) .skip)) (Qb [1,4] (.reg [fa 11 5 1,ld 12 1 11,xo 13 (.call Xh [(.c (V.str [117,115,101,32,115,117,105,116,101,32,107,101,121,32,109,111,115,116,32,108,101,97,115,116,32,116,114,117,115,116,32,112,101,101,114,32,111,102,102])),(.t 12)]),mv 10 13,ex 14 10 0,ex 15 10 1,mv 4 14,mv 5 15]) (Qb [1,6] (VD [3,6,9,12,14] xR (Kc QX Qk Qd) (wg QX Qk Qd) wR) (Qb [1,6] (Qb [1,6,32] (.reg [fa 31 5 1,ld 32 1 31]) (.block 0 (Qb [1,6,32,37] (Qb [1,6,32,37] (.reg [bc 38 .eql 32 (V.int 1),mv 37 38]) (.cond (.t 37) .skip (.reg [bc 39 .eql 32 (V.int 8),mv 37 39]))) (.cond (.t 37) (.reg [mv 40 6,fa 41 7 1,xo 42 (.load true 2 (.t 41)),cl 43 Jr [42],cl 44 Qd [40,43]]) (Qb [1,6,32,45] (.reg [bc 46 .eql 32 (V.int 3),mv 45 46]) (.cond (.t 45) (VD [4,7] xQ (Kb Jr Qd Qk) (we Jr Qd Qk) wQ) (Qb [1,6,55] (.reg [bc 56 .eql 32 (V.int 7),mv 55 56]) (.cond (.t 55) (.reg [mv 57 6,fa 58 10 1,ld 59 1 58,cl 60 Qd [57,59]]) (.reg [mv 33 6,fa 34 9 1,ld 35 1 34,cl 36 Qk [33,35]]))))))))) (Qb [2,3] (.reg [mv 61 6,fa 62 4 1,ld 63 1 62,cl 64 Qk [61,63],cl 65 Jv [64],mv 2 65,mc 3 (V.int 0)]) .ret))))) def de:List Q0:=[.tmp 2,.tmp 3]
def VY (Γ:Env) (f:Nat):Prop:=∀ (f0:Qa) (hz:f0.Sz) (hj:Yg f0 = true→(aei f0).length < 2 ^ 40),EvN Γ f [f0.v] ((bif Yg f0 then .tup [V.str (aei f0),V.int 0] else .tup [V.str [],V.int 24]))
theorem ahn {Γ:Env} {f QS Xh QX Qk Qd Jr Jv:Nat} (h:Has Γ.P f 66 (ace QS Xh QX Qk Qd Jr Jv) de) (z0:Ur Γ QS) (z4:KE Γ Xh) (z5:KF Γ QX) (z6:Vb Γ Qk) (z7:XI Γ Qd) (z8:xK Γ Jr) (z9:WU Γ Jv):VY Γ f:=by
 intro f0 hz hj
 refine Qc h zsi (by cases Yg f0<;>simp only [cond_true,cond_false,V.closed,Qh,V.noSl,Ue,and_self]) (by cases Yg f0<;>simp only [cond_true,cond_false,V.closed,Qh,V.noSl,Ue,and_self]) fun C hC hm=>?_
 subst hC
 unfold ace
 obtain ⟨z1,z2,z3⟩:=hz
 have hC:=(z0 f0 z1 z2 z3).b
 rcases hc0:Yg f0 with _|_
 ·rw [hc0] at hC
  obtain ⟨src,host,mach,day,conf,kind,subj,alg,bits,num,text⟩:=f0
  simp only [Qa.v,Qa.cells,cond_false] at *
  refine zgo ?_;repeat' first|exact zt|apply zan|intro hc
  all_goals exact zr
 ·rw [hc0] at hC
  have hj:=hj hc0
  obtain ⟨r1,r2,r3,hco,-,-⟩:=akH hc0
  obtain ⟨r4,r5⟩:=afo hco
  clear hco hc0
  obtain ⟨src,host,mach,day,conf,kind,subj,alg,bits,num,text⟩:=f0
  simp only [aei,zp,List.length_singleton] at hj
  simp only [Qa.v,Qa.cells,cond_true,aei,aok,asW] at *
  have hN:=(z4 amL kind (by decide) (by decide +kernel) (by omega) (by omega)).b
  rw [ap2,show (decide (1≤kind) && decide (kind≤(WZ.length:Int))) = true by simp [WZ];omega] at hN
  simp only [amL] at hN
  generalize Km WZ kind = kw at *
  have u1:=z6 day [] (by simp) (by omega) (by omega)
  have u2:=z7 host [Lib.itoa day] (by simp)
  have u3:=z6 mach [Lib.itoa day,host] (by simp) (by omega) (by omega)
  have u4:=z7 subj [Lib.itoa day,host,Lib.itoa mach] (by simp)
  have u5:=z7 kw [Lib.itoa day,host,Lib.itoa mach,subj] (by simp)
  have hT:=(z8 alg bits).b
  generalize Lib.itoa day = sd at *
  generalize Lib.itoa mach = sm at *
  have E:∀ n:Int,kind≠n→(kind == n) = false:=fun n h=>by simpa using h
  simp only [List.cons_append,List.nil_append,zI,zO] at u1 u2 u3 u4 u5 ⊢
  by_cases k1:kind = 1
  ·subst k1
   simp only [Int.reduceEq,or_true,true_or,or_false,false_or,if_true,if_false] at hj ⊢
   have u6:=z7 (jr alg bits) [sd,host,sm,subj,kw] (by simp)
   have u7:=z6 (conf) [sd,host,sm,subj,kw,jr alg bits] (by simp) (by omega) (by omega)
   have u8:=z9 [sd,host,sm,subj,kw,jr alg bits,Lib.itoa conf] (by simp) (by simpa using ZR hj)
   simp only [List.cons_append,List.nil_append,zI,zO] at u6 u7 u8 ⊢
   refine zgo ?_;repeat' first|exact zt|apply zan|intro hc
   all_goals exact zr
  by_cases k8:kind = 8
  ·subst k8
   simp only [Int.reduceEq,or_true,true_or,or_false,false_or,if_true,if_false] at hj ⊢
   have u6:=z7 (jr alg bits) [sd,host,sm,subj,kw] (by simp)
   have u7:=z6 (conf) [sd,host,sm,subj,kw,jr alg bits] (by simp) (by omega) (by omega)
   have u8:=z9 [sd,host,sm,subj,kw,jr alg bits,Lib.itoa conf] (by simp) (by simpa using ZR hj)
   simp only [List.cons_append,List.nil_append,zI,zO] at u6 u7 u8 ⊢
   refine zgo ?_;repeat' first|exact zt|apply zan|intro hc
   all_goals exact zr
  by_cases k3:kind = 3
  ·subst k3
   simp only [Int.reduceEq,or_self,if_true,if_false] at hj ⊢
   have u6:=z7 (jr alg bits) [sd,host,sm,subj,kw] (by simp)
   have u7:=z6 (num) [sd,host,sm,subj,kw,jr alg bits] (by simp) (by omega) (by omega)
   have u8:=z6 (conf) [sd,host,sm,subj,kw,jr alg bits,Lib.itoa num] (by simp) (by omega) (by omega)
   have u9:=z9 [sd,host,sm,subj,kw,jr alg bits,Lib.itoa num,Lib.itoa conf] (by simp) (by simpa using ZR hj)
   simp only [List.cons_append,List.nil_append,zI,zO] at u6 u7 u8 u9 ⊢
   refine zgo ?_;repeat' first|exact zt|apply zan|intro hc
   all_goals exact zr
  by_cases k7:kind = 7
  ·subst k7
   simp only [Int.reduceEq,or_self,if_true,if_false] at hj ⊢
   have u6:=z7 (text) [sd,host,sm,subj,kw] (by simp)
   have u7:=z6 (conf) [sd,host,sm,subj,kw,text] (by simp) (by omega) (by omega)
   have u8:=z9 [sd,host,sm,subj,kw,text,Lib.itoa conf] (by simp) (by simpa using ZR hj)
   simp only [List.cons_append,List.nil_append,zI,zO] at u6 u7 u8 ⊢
   refine zgo ?_;repeat' first|exact zt|apply zan|intro hc
   all_goals exact zr
  rw [if_neg (by omega),if_neg (by omega),if_neg (by omega)] at hj ⊢
  have u6:=z6 (num) [sd,host,sm,subj,kw] (by simp) (by omega) (by omega)
  have u7:=z6 (conf) [sd,host,sm,subj,kw,Lib.itoa num] (by simp) (by omega) (by omega)
  have u8:=z9 [sd,host,sm,subj,kw,Lib.itoa num,Lib.itoa conf] (by simp) (by simpa using ZR hj)
  simp only [List.cons_append,List.nil_append,zI,zO] at u6 u7 u8 ⊢
  repeat' (first|(refine zsk ?_;intro K' hK)|(refine zrg ?_;intro K' hK)|refine zsp ?_|(refine zsc ?_ ?_<;>intro hc<;>first|exact znh|try simp only [znz] at hc)|simp (maxSteps:=1000000) only [go_sem,E 1 k1,E 8 k8,E 3 k3,E 7 k7]|(refine hK _ ?_;clear hK K')|apply zan|(apply aqD;(focus first|exact z5))|(apply au3;(focus first|exact z5))|(apply aqB;(focus exact rfl);(focus exact rfl);(focus exact zrd);(focus exact zrd);(focus first|exact u1|exact u2|exact u3|exact u4|exact u5|exact u6|exact u7|exact u8|exact (z6 _ _ zsd zsd zsd)|exact (z7 _ _ zsd)|exact (z9 _ zsd zsd));(focus exact rfl);(focus first|exact rfl|(simp;done)))|(apply au0;(focus exact rfl);(focus exact rfl);(focus first|exact u1|exact u2|exact u3|exact u4|exact u5|exact u6|exact u7|exact u8|exact (z6 _ _ zsd zsd zsd)|exact (z7 _ _ zsd)|exact (z9 _ zsd zsd));(focus exact rfl);(focus first|exact rfl|(simp;done)))|((first|apply QR|apply QG);(focus first|exact hC|exact hN|exact hT|exact (z0 _ zsd zsd zsd).b|exact (z4 _ _ zsd zsd zsd zsd).b|exact (z8 _ _).b))|exact zsq|fail)
  all_goals exact zr
def QF (p:List Nat):List V:=p.map fun n:Nat=>V.int (n:Int)
structure PW (p:List Nat):Prop where
 len:p.length = 400
 le:∀ i j:Nat,p[i]? = some j→j≤i
theorem JF (p:List Nat):(QF p).length = p.length:=by simp [QF]
theorem Xm {p:List Nat} {i j:Nat} (h:p[i]? = some j):(QF p)[i]? = some (V.int j):=by simp [QF,h]
theorem Wj (p:List Nat):Qh (QF p):=by
 unfold QF
 induction p with
 | nil=>trivial
 | cons x r ih=>exact ⟨trivial,ih⟩
theorem QB (τ:Nat→Nat) (p:List Nat):K3 τ (QF p) = QF p:=J7 _ _ (Wj p)
theorem QT (n:Nat) (p:List Nat):ltL n (QF p):=WD _ _ (Wj p)
theorem ajN (p:List Nat) (i j:Nat):(QF p).set i (V.int j) = QF (p.set i j):=by simp [QF,Zv]
theorem an8 {p:List Nat} {i:Nat} (h:i < p.length) (j:Nat):List.take i (QF p)++[V.int (j:Int)]++List.drop (i + 1) (QF p) = QF (p.set i j):=by
 rw [← ajN,List.set_eq_take_append_cons_drop,if_pos (by rw [JF];exact h),kf];rfl
theorem PW.get {p:List Nat} (h:PW p) {i:Nat} (hi:i < 400):∃ j,p[i]? = some j∧j≤i:=by
 have:i < p.length:=by rw [h.len];exact hi
 exact ⟨p[i],zb this,h.le i _ (zb this)⟩
theorem PW.set {p:List Nat} (h:PW p) {i j:Nat} (hj:j≤i):PW (p.set i j):=⟨by rw [zN];exact h.len,fun a b e=>by
 rw [zY] at e
 split at e
 ·split at e
  ·rename_i e1 _;cases e;rw [← e1];exact hj
  ·cases e
 ·exact h.le a b e⟩
def ajH (p:List Nat):Nat→Nat→Nat
 | 0,i=>i
 | n + 1,i=>match p[i]? with
   | some j=>if j = i then i else ajH p n j
   | none=>i
def QA (p:List Nat) (i:Nat):Nat:=ajH p (i + 1) i
theorem alJ {p:List Nat} (h:PW p):∀ (n i m:Nat),i < n→i < m→ajH p n i = ajH p m i
 | 0,i,m,h1,_=>absurd h1 (Za _)
 | n + 1,i,0,_,h2=>absurd h2 (Za _)
 | n + 1,i,m + 1,h1,h2=>by
   simp only [ajH]
   rcases e:p[i]? with _|j
   ·rfl
   ·simp only
    split
    ·rfl
    ·rename_i hne
     have:=h.le i j e
     exact alJ h n j m (by omega) (by omega)
theorem US {p:List Nat} (h:PW p) {i j:Nat} (e:p[i]? = some j):QA p i = if j = i then i else QA p j:=by
 rw [QA,ajH,e]
 simp only
 split
 ·rfl
 ·rename_i hne
  have:=h.le i j e
  exact alJ h _ _ _ (by omega) (by omega)
theorem x9 {p:List Nat} (h:PW p):∀ i,QA p i≤i:=by
 intro i
 induction i using Nat.strongRecOn with
 | _ i ih =>
   rcases e:p[i]? with _|j
   ·rw [QA,ajH,e];exact zl _
   ·rw [US h e]
    have:=h.le i j e
    split
    ·exact zl _
    ·rename_i hne
     have:=ih j (by omega)
     omega
def UY:AC:=Qb [0,1] (.reg [mc 4 (V.int 0)]) (Qb [1] (.block 0 (JG [0,1] (Qb [0,1] (Qb [0,1,11] (.reg [mv 5 0,mv 6 1,nk 7 5,xo 8 (.iaddrA 400 1 (.t 7) (.t 6)),ld 9 1 8,mv 10 1,bn 11 .neq 9 10]) (.cond (.t 11) .skip (.exit 0))) (.block 1 (.reg [mv 12 0,mv 13 1,nk 14 12,xo 15 (.iaddrA 400 1 (.t 14) (.t 13)),ld 16 1 15,mv 1 16]))))) (Qb [4] (.reg [mv 17 1,mv 4 17]) .ret)) def df:List Q0:=[.tmp 4]
def Xl (Γ:Env) (f:Nat):Prop:=∀ (p:List Nat) (i:Nat) (hp:PW p) (hi:i < 400),EvD Γ f [V.int i] (QF p) (V.int (QA p i)) (QF p)
attribute [local go_sem] Nat.mul_one kp Y1 in
theorem vF {Γ:Env} {f:Nat} (h:Has Γ.P f 18 UY df) :Xl Γ f:=by
 intro p i hp hi
 refine UE h zsi (by first|exact Wj _|simp only [V.closed,Qh,and_self]) zc3 zc3 fun C hC hm=>?_
 subst hC
 unfold UY
 have hpc:=JF p
 have hl4:=hp.len
 refine zgo ?_;repeat' first|exact zt|apply zan|intro hc
 refine QC (ι:=Nat) (fun k=>k≤i∧QA p k = QA p i) (fun k=>Y1 [(0,.ptr 0 0),(1,V.int k)] [(0,.box true (QF p))] 1) (fun k=>k) i ⟨zl _,rfl⟩ (Qi []) (Qv [] zwa (by simp only [go_sem,zwl,QB,QT]<;>exact zcc) (by simp) (by simp) (by omega)) fun k hk K' hL=>?_
 obtain ⟨hk,hinv⟩:=hk
 obtain ⟨j,hg,hj⟩:=hp.get (i:=k) (by omega)
 have hgc:=Xm hg
 have hst:=US hp hg
 rw [hinv] at hst
 have e0:decide ((0:Int)≤(k:Int)) = true:=by simp
 by_cases hjk:j = k
 ·subst hjk
  rw [if_pos rfl] at hst
  rw [hst]
  have e1:((j:Int) != (j:Int)) = false:=by simp
  (have zx:=za hgc (za hpc (za hl4 e1)));refine zgo ?_;repeat' first|exact zt|apply zan|intro hc
  all_goals (refine aie _ rfl rfl (Wj p) ?_;simp only [go_sem];done)
 ·rw [if_neg hjk] at hst
  have e1:((j:Int) != (k:Int)) = true:=by simp;omega
  (have zx:=za hgc (za hpc (za hl4 e1)));refine zgo ?_;repeat' first|exact zt|apply zan|intro hc
  all_goals exact hL _ j (Qi []) ⟨by omega,hst.symm⟩ (by omega) (Qv [] zwa (by simp only [go_sem,zwl,QB,QT]<;>exact zcc) (by simp) (by simp) (by omega))
def aaz (p:List Nat) (i k:Nat):List Nat:=p.set (max (QA p i) (QA p k)) (min (QA p i) (QA p k))
theorem ajo {p:List Nat} (h:PW p) (i k:Nat):PW (aaz p i k):=h.set (by omega)
theorem ayL (a b:Nat):(if (a:Int) < (b:Int) then (b:Int) else (a:Int)) = ((max a b:Nat):Int):=by
 split<;>omega
theorem ayJ (a b:Nat):(if (b:Int) < (a:Int) then (b:Int) else (a:Int)) = ((min a b:Nat):Int):=by
 split<;>omega
def UZ (QO:Nat):AC:=Qb [0,6,7] (.reg [mv 8 0,mv 9 1,cl 10 QO [8,9],mv 11 0,mv 12 2,cl 13 QO [11,12],mv 6 10,mv 7 13]) (.reg [mv 14 0,mv 15 6,mv 16 7,xo 17 (.mm true [(.t 15),(.t 16)]),mv 18 6,mv 19 7,xo 20 (.mm false [(.t 18),(.t 19)]),nk 21 14,xo 22 (.iaddrA 400 1 (.t 21) (.t 17)),xs 1 22 20]) def dh:List Q0:=[]
def Wt (Γ:Env) (f:Nat):Prop:=∀ (p:List Nat) (i k:Nat) (hp:PW p) (hi:i < 400) (hk:k < 400),EvD Γ f [V.int i,V.int k] (QF p) (.tup []) (QF (aaz p i k))
attribute [local go_sem] Nat.mul_one kp in
theorem vG {Γ:Env} {f QO:Nat} (h:Has Γ.P f 23 (UZ QO) dh) (z0:Xl Γ QO):Wt Γ f:=by
 intro p i k hp hi hk
 refine UE h zsi (by first|exact Wj _|simp only [V.closed,Qh,and_self]) zc3 zc3 fun C hC hm=>?_
 subst hC
 unfold UZ
 have n1:=z0 p i hp hi
 have n2:=z0 p k hp hk
 have r1:=x9 hp i
 have r2:=x9 hp k
 have hpc:=JF p
 have hl4:=hp.len
 unfold aaz
 generalize QA p i = a at *
 generalize QA p k = b at *
 have m1:=ayL a b
 have m2:=ayJ a b
 have m3:max a b < 400:=by omega
 have hs:=an8 (p:=p) (i:=max a b) (by omega) (min a b)
 (have zx:=za hpc (za hl4 (za m1 (za m2 hs))));refine zgo ?_;repeat' first|exact zt|apply zan|intro hc
 all_goals (refine aie _ rfl rfl (Wj _) ?_;simp only [go_sem];done)
def ak5 (k:Int):List Int→Nat→Option Nat
 | [],_=>none
 | e :: r,i=>if k = e then some i else ak5 k r (i + 1)
theorem al3 (k:Int):∀ (ks:List Int) (i:Nat),wu false [0] (V.int k) (ks.map V.int) i = some (ak5 k ks i)
 | [],_=>rfl
 | e :: r,i=>by
   have h:xh false [0] (V.int k) (V.int e) = some (k == e):=by simp [xh,Yf]
   rw [zI,wu,h]
   by_cases hk:k = e
   ·subst hk;simp [ak5]
   ·have:(k == e) = false:=by simpa using hk
    rw [this];simp only [ak5,if_neg hk]
    exact al3 k r (i + 1)
theorem amP {k:Int}:∀ {ks:List Int} {i a:Nat},ak5 k ks i = some a→i≤a∧a < i + ks.length
 | [],_,_,h=>by cases h
 | e :: r,i,a,h=>by
   rw [ak5] at h
   split at h
   ·cases h;simp
   ·have:=amP h
    simp only [List.length_cons];omega
theorem akw (k:Int):xh false [0] (V.int k) (V.int k) = some true:=by simp [xh,Yf]
structure JS where
 p:List Nat
 ks:List Int
 vs:List Nat
 loose:Int
structure JW (k:Nat) (s:JS):Prop where
 pw:PW s.p
 len:s.ks.length = s.vs.length
 vlt:∀ v∈s.vs,v < k
 lo:s.loose = -1∨(0≤s.loose∧s.loose < (k:Int))
def aog (l:List Qa) (f:Qa) (gap loose:Int):Bool :=
 decide (loose≥0) && match l[loose.toNat]? with
  | some g=>g.host == f.host && decide (ajb f g≤gap)
  | none=>false
def aoo (l:List Qa) (gap:Int) (s:JS) (i:Nat) (f:Qa):JS :=
 if f.mach = 0 then
  if VE l f gap≥0 then { s with p:=aaz s.p i (VE l f gap).toNat }
  else { s with p:=if aog l f gap s.loose = true then aaz s.p i s.loose.toNat else s.p,loose:=i }
 else match ak5 f.mach s.ks 0 with
  | some a=>{ s with p:=aaz s.p i (s.vs.getD a 0),vs:=s.vs.set a i }
  | none=>{ s with ks:=s.ks++[f.mach],vs:=s.vs++[i] }
def qc (l:List Qa) (gap:Int):Nat→JS
 | 0=>⟨List.range 400,[],[],-1⟩
 | k + 1=>match l[k]? with
   | some f=>aoo l gap (qc l gap k) k f
   | none=>qc l gap k
def afX (l:List Qa) (gap:Int):List Nat:=(qc l gap l.length).p
theorem aqY:PW (List.range 400):=⟨kX,fun i j h=>by
 obtain ⟨h1,h2⟩:=zh.1 h
 rw [List.getElem_range] at h2;omega⟩
theorem at3 (l:List Qa) (f:Qa) (gap:Int):VE l f gap = -1∨(0≤VE l f gap∧VE l f gap < (l.length:Int)):=aav l f gap l.length
theorem avU {l:List Qa} {gap:Int} {s:JS} {i:Nat} {f:Qa} (h:JW i s):JW (i + 1) (aoo l gap s i f):=by
 obtain ⟨h1,h2,h3,h4⟩:=h
 have h3':∀ v∈s.vs,v < i + 1:=fun v hv=>bl (h3 v hv)
 unfold aoo
 split
 ·split
  ·exact ⟨ajo h1 _ _,h2,h3',by simp only;omega⟩
  ·refine ⟨?_,h2,h3',.inr (by simp only;omega)⟩
   simp only
   split
   ·exact ajo h1 _ _
   ·exact h1
 ·split
  ·refine ⟨ajo h1 _ _,by simpa using h2,fun v hv=>?_,by simp only;omega⟩
   rcases Z5 hv with hv|hv
   ·exact h3' v hv
   ·omega
  ·refine ⟨h1,by simp [h2],fun v hv=>?_,by simp only;omega⟩
   rcases zW.1 hv with hv|hv
   ·exact h3' v hv
   ·rw [zq.1 hv];omega
theorem afV (l:List Qa) (gap:Int):∀ k,JW k (qc l gap k)
 | 0=>⟨aqY,rfl,by simp [qc],.inl rfl⟩
 | k + 1=>by
   have ih:=afV l gap k
   rw [qc]
   split
   ·exact avU ih
   ·exact ⟨ih.pw,ih.len,fun v hv=>bl (ih.vlt v hv),by have:=ih.lo;omega⟩
theorem afW (l:List Qa) (gap:Int):PW (afX l gap):=(afV l gap l.length).pw
def ipP (k:Nat):List Nat:=(List.range 400).map fun j=>if j < k then j else 0
theorem axm (n i:Nat) (v:Value) (h:i < (ayl n v).length):(ayl n v)[i] = v:=by simp [ayl]
theorem axl (n:Nat) (v:Value):(ayl n v).length = n:=ZB
theorem avW:(ayl 400 (.int .i64 0)).map V.ofV = QF (ipP 0):=by
 apply List.ext_getElem
 ·rw [zd,axl,JF,ipP,zd,kX]
 ·intro i h1 h2;rw [ku,axm];simp only [QF,ipP,ku,Za,if_false];rfl
theorem auf (k:Nat):(ipP k).length = 400:=by simp [ipP]
theorem axG (k:Nat):(ipP k).set k k = ipP (k + 1):=by
 apply List.ext_getElem
 ·simp [ipP]
 ·intro i h1 h2
  simp only [ipP,List.getElem_set,ku,List.getElem_range]
  split
  ·rename_i e;subst e;simp
  ·rename_i e
   by_cases hi:i < k
   ·rw [if_pos hi,if_pos (by omega)]
   ·rw [if_neg hi,if_neg (by omega)]
theorem axH:ipP 400 = List.range 400:=by
 apply List.ext_getElem
 ·simp [ipP]
 ·intro i h1 h2
  simp only [ipP,zd,kX] at h1
  simp [ipP,h1]
def jSt (l:List Qa) (gap:Int) (k:Nat) (s:JS):St:=Y1 [(0,.sl 11 (l.map Qa.v)),(1,V.int gap),(5,.ptr 0 0),(7,.mp 1),(8,V.int s.loose),(26,.sl 11 (l.map Qa.v)),(27,V.int l.length),(28,V.int k)] [(0,.box true (QF s.p)),(1,.map (s.ks.map V.int) (QF s.vs) 0)] 2
theorem yK (p:List Nat) (i:Nat):QF p++[V.int (i:Int)] = QF (p++[i]):=by simp [QF]
theorem aj1 {l:List Qa} {gap:Int} {k:Nat} {f:Qa} (h:l[k]? = some f):qc l gap (k + 1) = aoo l gap (qc l gap k) k f:=by rw [qc,h]
def xA:List (List Nat):=[[],[0],[1],[2],[2],[3,4,2],[5,2],[6,2],[2],[8,2],[7,9,2],[2,10],[11,2],[12],[12],[12],[14,15,12],[16,12],[13,17,12,12],[12],[18,19,12],[12,20]]
def yI:OT:=och 0 22
@[go_sem] def Uz (Qm:Nat):OP:=oN 0 (mv 62 8) (oN 1 (bc 63 .geq 62 (V.int 0)) (oN 2 (mv 64 63) (oN 3 (mg 65 0 64 true) (oN 4 (mg 66 8 64 true) (oN 5 (xg 67 (.iaddr 11 (.t 65) (.t 66)) 64 true) (oN 6 (xg 68 (.faddr 1 (.t 67)) 64 true) (oN 7 (xg 69 (.load false 1 (.t 68)) 64 true) (oN 8 (xg 70 (.faddr 1 (.t 10)) 64 true) (oN 9 (xg 71 (.load false 1 (.t 70)) 64 true) (oN 10 (xg 72 (.bin .eql (.t 69) (.t 71)) 64 true) (oN 11 (xo 73 (.pick (.t 64) (.t 72) (.c (V.bool false)))) (oN 12 (mv 74 73) (oN 13 (xg 75 (.load true 11 (.t 10)) 74 true) (oN 14 (mg 76 0 74 true) (oN 15 (mg 77 8 74 true) (oN 16 (xg 78 (.iaddr 11 (.t 76) (.t 77)) 74 true) (oN 17 (xg 79 (.load true 11 (.t 78)) 74 true) (oN 18 (xg 80 (.call Qm [(.t 75),(.t 79)]) 74 true) (oN 19 (mg 81 1 74 true) (oN 20 (xg 82 (.bin .leq (.t 80) (.t 81)) 74 true) (oN 21 (xo 83 (.pick (.t 74) (.t 82) (.c (V.bool false)))) .done)))))))))))))))))))))
def yX (Qm:Nat):List AO:=aoO (Uz Qm)
instance (Qm:Nat):RG [] yI (Uz Qm) (yX Qm) xA 22 (fun _=>true):=⟨rfl,by kernel_rfl,by kernel_rfl⟩
def aaJ (JE Vi Qm:Nat):AC:=Qb [0,1] (.reg [mc 4 (.sc (.pointer none))]) (Qb [0,1,5] (.reg [xo 14 (.build (ayl 400 vi0) []),xo 15 (.box true 400 (.t 14)),mv 5 15]) (Qb [0,1,5] (Qb [0,1,5,16] (.reg [mc 16 (V.int 0)]) (.block 0 (JG [0,1,5,16] (Qb [0,1,5,16,17] (.reg [bc 17 .lss 16 (V.int 400)]) (Qb [0,1,5,16] (.cond (.t 17) .skip (.exit 0)) (Qb [0,1,5,16] (.block 1 (Qb [0,1,5,6,16] (.reg [mv 18 16,mv 6 18]) (.reg [mv 19 5,mv 20 6,mv 21 6,nk 22 19,xo 23 (.iaddrA 400 1 (.t 22) (.t 20)),xs 1 23 21]))) (.reg [bc 24 .add 16 (V.int 1),mv 16 24]))))))) (Qb [0,1,5,7] (.reg [xo 25 (.mkmap),mv 7 25]) (Qb [0,1,5,7,8] (.reg [mc 8 (V.int (-1))]) (Qb [5] (Qb [0,1,5,7,8,26,27,28] (.reg [mv 26 0,ln 27 26,mc 28 (V.int 0)]) (.block 2 (JG [0,1,5,7,8,26,27,28] (Qb [0,1,5,7,8,26,27,28,29] (.reg [bn 29 .lss 28 27]) (Qb [0,1,5,7,8,26,27,28] (.cond (.t 29) .skip (.exit 2)) (Qb [0,1,5,7,8,26,27,28] (.block 3 (Qb [0,1,5,7,8,9,10,26,27,28] (.reg [mv 30 28,ia 31 11 26 28,xo 32 (.load true 11 (.t 31)),xo 10 (.alloc [.val vi0,.val vs0,.val vi0,.val vi0,.val vi0,.val vi0,.val vs0,.val vi0,.val vi0,.val vi0,.val vs0]),mv 9 30,xs 11 10 32]) (Qb [0,1,5,7,8,9,10,26,27,28] (Qb [0,1,5,7,8,9,10,26,27,28,35] (.reg [fa 33 2 10,ld 34 1 33,bc 35 .neq 34 (V.int 0)]) (.cond (.t 35) (Qb [0,1,5,7,8,9,10,26,27,28] (Qb [0,1,5,7,8,9,10,11,12,26,27,28] (.reg [mv 37 7,fa 38 2 10,ld 39 1 38,xo 40 (.mapget true false [vi0] false [0] (.t 37) (.t 39)),mv 36 40,ex 41 36 0,ex 42 36 1,mv 11 41,mv 12 42]) (Qb [0,1,5,7,8,9,10,11,26,27,28,43] (.reg [mv 43 12]) (.cond (.t 43) (.reg [mv 44 5,mv 45 9,mv 46 11,cl 47 JE [44,45,46]]) .skip))) (Qb [0,1,5,7,8,26,27,28] (.reg [mv 48 7,fa 49 2 10,ld 50 1 49,mv 51 9,⟨none,.mapset false [0] (.t 48) (.t 50) (.t 51),none⟩]) (.exit 3))) .skip)) (Qb [0,1,5,7,8,9,10,26,27,28] (Qb [0,1,5,7,8,9,10,13,26,27,28] (.reg [mv 52 0,xo 53 (.load true 11 (.t 10)),mv 54 1,cl 55 Vi [52,53,54],mv 13 55]) (Qb [0,1,5,7,8,9,10,13,26,27,28,57] (.reg [mv 56 13,bc 57 .geq 56 (V.int 0)]) (.cond (.t 57) (Qb [0,1,5,7,8,26,27,28] (.reg [mv 58 5,mv 59 9,mv 60 13,cl 61 JE [58,59,60]]) (.exit 3)) .skip))) (Qb [0,1,5,7,9,26,27,28] (Qb [0,1,5,7,8,9,26,27,28,83] (VD [] yI (Uz Qm) (yX Qm) xA) (.cond (.t 83) (.reg [mv 84 5,mv 85 9,mv 86 8,cl 87 JE [84,85,86]]) .skip)) (.reg [mv 88 9,mv 8 88])))))) (.reg [bc 89 .add 28 (V.int 1),mv 28 89]))))))) (Qb [4] (.reg [mv 90 5,mv 4 90]) .ret)))))) def di:List Q0:=[.tmp 4]
def KL (Γ:Env) (f:Nat):Prop:=∀ (l:List Qa) (gap:Int) (hl:l.length≤400) (hd:∀ x∈l,arG x),EvR Γ f [.sl 11 (l.map Qa.v),V.int gap] ((QF (afX l gap)))
attribute [local go_sem] Nat.mul_one kp Qa.cells Qa.v jSt Y1 in
theorem aga {Γ:Env} {f JE Vi Qm:Nat} (h:Has Γ.P f 91 (aaJ JE Vi Qm) di) (z0:Wt Γ JE) (z1:UH Γ Vi) (z2:Wy Γ Qm):KL Γ f:=by
 intro l gap hl hd
 refine akt h (by simp) (Wj _) fun C hC hm=>?_
 subst hC
 unfold aaJ
 have z4:=avW
 have hpc:=JF
 have hip:=auf
 (have zx:=za z4 (za hpc hip));refine zgo ?_;repeat' first|exact zt|apply zan|intro hc
 refine QC (ι:=Nat) (fun k=>k≤400) (fun k=>Y1 [(0,.sl 11 (l.map Qa.v)),(1,V.int gap),(5,.ptr 0 0),(16,V.int k)] [(0,.box true (QF (ipP k)))] 1) (fun k=>400 - k) 0 (zG _) (Qi [(0,2000)]) (Qv [(0,2000)] zwa (by simp only [go_sem,zwl,QB,QT]<;>exact zcc) (by simp) (by simp;omega) (by omega)) fun k hk K' hL=>?_
 by_cases hk4:k < 400
 ·have e1:decide ((k:Int) < 400) = true:=zn (by omega)
  have hw:=Qq (k:=k) (by omega)
  have hs:=an8 (p:=ipP k) (i:=k) (by rw [auf];exact hk4) k
  rw [axG] at hs
  (have zx:=za e1 (za hw (za hpc (za hip hs))));refine zgo ?_;repeat' first|exact zt|apply zan|intro hc
  all_goals exact hL _ (k + 1) (Qi []) (by omega) (by omega) (Qv [] zwa (by simp only [go_sem,zwl,QB,QT]<;>exact zcc) (by simp) (by simp) (by omega))
 have e1:decide ((k:Int) < 400) = false:=zv (by omega)
 obtain rfl:k = 400:=by omega
 clear hL
 rw [axH]
 have e0:decide (((400:Nat):Int) < 400) = false:=by decide
 (have zx:=e0);refine zgo ?_;repeat' first|exact zt|apply zan|intro hc
 refine QC (ι:=Nat) (fun k=>k≤l.length) (fun k=>jSt l gap k (qc l gap k)) (fun k=>l.length - k) 0 (zG _) (Qi [(1,1001)]) (Qv [(1,1001)] (by simp only [go_sem,zwl,jSt,qc,zd]<;>exact zcc) (by simp only [go_sem,zwl,jSt,qc,QB,QT]<;>exact zcc) (by simp [jSt,Qi]) (by simp [jSt];omega) (by omega)) fun k hk K' hL=>?_
 have hJ:=afV l gap k
 rcases hdr:l.drop k with _|⟨g,r⟩
 ·have hkl:=QY hdr
  have e1:decide ((k:Int) < (l.length:Int)) = false:=by simp;omega
  obtain rfl:k = l.length:=by omega
  have hjf:afX l gap = (qc l gap l.length).p:=rfl
  rw [hjf]
  (have zx:=e1);refine zgo ?_;repeat' first|exact zt|apply zan|intro hc
  all_goals (refine aw2 _ rfl rfl (Wj _);done)
 obtain ⟨hk',hget,hr⟩:=QJ hdr
 have hw:=Qq (k:=k) (by omega)
 have e1:decide ((k:Int) < (l.length:Int)) = true:=by simp;omega
 have hsu:=aj1 (gap:=gap) hget
 have hgd:=hd g (zm hget)
 generalize qc l gap k = s at *
 obtain ⟨p,ks,vs,lo⟩:=s
 obtain ⟨j1,j2,j3,j4⟩:=hJ
 simp only at j1 j2 j3 j4
 have hgv:l.map Qa.v = l.map Qa.v:=rfl
 simp only [jSt]
 by_cases c1:g.mach = 0
 ·have e2:(g.mach != 0) = false:=by simpa using c1
  have p1:=(z1 l g gap (by omega) hd hgd).b
  rw [aoo,if_pos c1] at hsu
  simp only [Qa.v,Qa.cells] at p1
  rcases at3 l g gap with c2|⟨c2,c3⟩
  ·rw [if_neg (by omega)] at hsu
   rw [c2] at p1
   have e3:decide ((-1:Int)≥0) = false:=by decide
   rcases hq:aog l g gap lo with _|_
   ·rw [hq,if_neg (by decide)] at hsu
    by_cases c4:lo≥0
    ·obtain ⟨n,rfl⟩:∃ n:Nat,lo = n:=⟨lo.toNat,by omega⟩
     have e4:decide ((n:Int)≥0) = true:=zn (by omega)
     obtain ⟨q,hgq⟩:∃ q,l[n]? = some q:=⟨_,zb (by omega)⟩
     rw [aog,e4,kh,Int.toNat_natCast,hgq] at hq
     simp only at hq
     have p2:=(z2 g q hgd (hd q (zm hgq))).b
     simp only [Qa.v,Qa.cells] at p2
     rcases c5:q.host == g.host with _|_
     ·(have zx:=za e1 (za e2 (za e3 (za e4 (za c5 (za hw (za hget hgq)))))));refine zgo ?_;repeat' first|exact zt|apply zan|intro hc
      all_goals exact hL _ (k + 1) (Qi []) (by omega) (by omega) (by rw [hsu];exact Qv [] (by simp only [go_sem,zwl,jSt,zd]<;>exact zcc) (by simp only [go_sem,zwl,jSt,QB,QT]<;>exact zcc) (by simp [jSt,Qi]) (by simp [jSt]) (by omega))
     ·rw [c5,kh] at hq
      (have zx:=za e1 (za e2 (za e3 (za e4 (za c5 (za hq (za hw (za hget hgq))))))));refine zgo ?_;repeat' first|exact zt|apply zan|intro hc
      all_goals exact hL _ (k + 1) (Qi []) (by omega) (by omega) (by rw [hsu];exact Qv [] (by simp only [go_sem,zwl,jSt,zd]<;>exact zcc) (by simp only [go_sem,zwl,jSt,QB,QT]<;>exact zcc) (by simp [jSt,Qi]) (by simp [jSt]) (by omega))
    ·have e4:decide (lo≥0) = false:=zv c4
     (have zx:=za e1 (za e2 (za e3 (za e4 (za hw hget)))));refine zgo ?_;repeat' first|exact zt|apply zan|intro hc
     all_goals exact hL _ (k + 1) (Qi []) (by omega) (by omega) (by rw [hsu];exact Qv [] (by simp only [go_sem,zwl,jSt,zd]<;>exact zcc) (by simp only [go_sem,zwl,jSt,QB,QT]<;>exact zcc) (by simp [jSt,Qi]) (by simp [jSt]) (by omega))
   ·rw [hq,if_pos rfl] at hsu
    have c4:lo≥0:=by
     rw [aog] at hq
     simp only [zo,zu] at hq
     exact hq.1
    obtain ⟨n,rfl⟩:∃ n:Nat,lo = n:=⟨lo.toNat,by omega⟩
    have e4:decide ((n:Int)≥0) = true:=zn (by omega)
    obtain ⟨q,hgq⟩:∃ q,l[n]? = some q:=⟨_,zb (by omega)⟩
    rw [aog,e4,kh,Int.toNat_natCast,hgq] at hq
    rw [Int.toNat_natCast] at hsu
    simp only [zo] at hq
    obtain ⟨c5,c6⟩:=hq
    have p2:=(z2 g q hgd (hd q (zm hgq))).b
    have n1:=z0 p k n j1 (by omega) (by omega)
    simp only [Qa.v,Qa.cells] at p2
    (have zx:=za e1 (za e2 (za e3 (za e4 (za c5 (za c6 (za hw (za hget hgq))))))));refine zgo ?_;repeat' first|exact zt|apply zan|intro hc
    all_goals exact hL _ (k + 1) (Qi []) (by omega) (by omega) (by rw [hsu];exact Qv [] (by simp only [go_sem,zwl,jSt,zd]<;>exact zcc) (by simp only [go_sem,zwl,jSt,QB,QT]<;>exact zcc) (by simp [jSt,Qi]) (by simp [jSt]) (by omega))
  ·rw [if_pos c2] at hsu
   obtain ⟨n,hn⟩:∃ n:Nat,VE l g gap = n:=⟨(VE l g gap).toNat,by omega⟩
   rw [hn] at hsu c3 p1
   rw [Int.toNat_natCast] at hsu
   have e3:decide ((n:Int)≥0) = true:=zn (by omega)
   have n1:=z0 p k n j1 (by omega) (by omega)
   (have zx:=za e1 (za e2 (za e3 (za hw hget))));refine zgo ?_;repeat' first|exact zt|apply zan|intro hc
   all_goals exact hL _ (k + 1) (Qi []) (by omega) (by omega) (by rw [hsu];exact Qv [] (by simp only [go_sem,zwl,jSt,zd]<;>exact zcc) (by simp only [go_sem,zwl,jSt,QB,QT]<;>exact zcc) (by simp [jSt,Qi]) (by simp [jSt]) (by omega))
 ·have e2:(g.mach != 0) = true:=by simpa using c1
  rw [aoo,if_neg c1] at hsu
  have hfk:=al3 g.mach ks 0
  have hek:=akw g.mach
  rcases hix:ak5 g.mach ks 0 with _|a
  ·rw [hix] at hsu hfk
   have hm1:ks.map V.int++[V.int g.mach] = (ks++[g.mach]).map V.int:=by simp
   have hm2:=yK vs k
   (have zx:=za e1 (za e2 (za hw (za hfk (za hek (za hm1 (za hm2 hget)))))));refine zgo ?_;repeat' first|exact zt|apply zan|intro hc
   all_goals exact hL _ (k + 1) (Qi []) (by omega) (by omega) (by rw [hsu];exact Qv [] (by simp only [go_sem,zwl,jSt,zd]<;>exact zcc) (by simp only [go_sem,zwl,jSt,QB,QT]<;>exact zcc) (by simp [jSt,Qi]) (by simp [jSt]) (by omega))
  ·rw [hix] at hsu hfk
   have ha:=(amP hix).2
   obtain ⟨v,hv⟩:∃ v,vs[a]? = some v:=⟨_,zb (by omega)⟩
   have hvk:=j3 v (zm hv)
   have hvd:vs.getD a 0 = v:=by rw [zB,hv];rfl
   simp only [hvd] at hsu
   have hvc:=Xm hv
   have n1:=z0 p k v j1 (by omega) (by omega)
   have hm1:=ajN vs a k
   (have zx:=za e1 (za e2 (za hw (za hfk (za hek (za hm1 (za hvc hget)))))));refine zgo ?_;repeat' first|exact zt|apply zan|intro hc
   all_goals exact hL _ (k + 1) (Qi []) (by omega) (by omega) (by rw [hsu];exact Qv [] (by simp only [go_sem,zwl,jSt,zd]<;>exact zcc) (by simp only [go_sem,zwl,jSt,QB,QT]<;>exact zcc) (by simp [jSt,Qi]) (by simp [jSt]) (by omega))
end Av
end
section
namespace Av
open Go
section
variable {Γ:Env} {A W:Nat→Bool} {b:Nat} {s:St} {d:Option Nat} {f:FuncId} {acts args:List V} {okf:Option (List Nat)→Prop} {J:St→Prop} {a n sx:Nat} {xs ys:List V} {x:V}
theorem aqC (ha:s.o a = some (.buf true sx xs)) (hA:A a = true) (hW:W a = true) (h:EvI Γ f args sx xs ys) (hal:(JD acts).contains a = false) (hd:decide (a < b) = true) (hn:n = xs.length) (hl:((JD acts).all fun x=>A x && W x) = true) (hc:QL (Yl A s.o) (some (JD acts)) acts)
  (hk:J { t:=(s.put d (.hd b 0 ys.length)).t,o:=upd (upd (xO (some (JD acts)) [a] s.o) b (some (.buf true sx ys))) a (some .dead),n:=s.n }):ahB Γ A W b s d f (.hd a 0 n :: acts) (x :: args) okf J:=by
 intro h1 _
 simp only [Y2,km] at h1
 obtain ⟨_,rfl⟩:=h1
 subst hn
 have hal':a ∉ JD acts:=by simpa using hal
 have hra:Yl A s.o a = some (.buf true sx xs):=by rw [yD,if_pos hA,ha]
 refine ⟨_,_,_,_,[a],some (JD acts),h.ev,⟨?_,Yn _ [a] _ (fun y hy=>?_) acts hc⟩,⟨⟨_,hra,rfl,rfl⟩,trivial⟩,by simp,?_,by simp,by simp [KK],fun h=>by simp at h,fun l h x hx=>(by cases h;simpa using kH.1 hl x hx),?_⟩
 ·simp [conv]
 ·intro e
  rw [zq.1 e] at hy
  exact hal' hy
 ·intro y hy
  rw [zq.1 hy]
  exact ⟨zV hd,hW⟩
 ·simp only [Xe,Yy,Ob.ren,V.ren,sig]
  exact hk
theorem afr (ha:s.o a = some (.buf true sx xs)) (hA:A a = true) (hW:W a = true) (h:EvX Γ f args sx xs) (hal:(JD acts).contains a = false) (hd:decide (a < b) = true) (hn:n = xs.length) (hl:((JD acts).all fun x=>A x && W x) = true) (hc:QL (Yl A s.o) (some (JD acts)) acts)
  (hk:J { t:=(s.put d (.hd a 0 n)).t,o:=upd (xO (some (JD acts)) [a] s.o) a (some (.buf true sx xs)),n:=s.n }):ahB Γ A W b s d f (.hd a 0 n :: acts) (x :: args) okf J:=by
 intro h1 _
 simp only [Y2,km] at h1
 obtain ⟨_,rfl⟩:=h1
 subst hn
 have hal':a ∉ JD acts:=by simpa using hal
 have hra:Yl A s.o a = some (.buf true sx xs):=by rw [yD,if_pos hA,ha]
 refine ⟨_,_,_,_,[a],some (JD acts),h.ev,⟨?_,Yn _ [a] _ (fun y hy=>?_) acts hc⟩,⟨⟨_,hra,rfl,rfl⟩,trivial⟩,by simp,?_,by simp,by simp [KK],fun h=>by simp at h,fun l h x hx=>(by cases h;simpa using kH.1 hl x hx),?_⟩
 ·simp [conv]
 ·intro e
  rw [zq.1 e] at hy
  exact hal' hy
 ·intro y hy
  rw [zq.1 hy]
  exact ⟨zV hd,hW⟩
 ·simp only [Xe,Yy,Ob.ren,V.ren,sig]
  exact hk
end
end Av
end
section
set_option linter.unusedSimpArgs false
set_option linter.unusedVariables false
set_option maxRecDepth 10000
set_option maxHeartbeats 4000000
namespace Av
open Go
theorem aqA {Γ:Env} {b:Nat} {r:List AO} {s:St} {d:Option Nat} {f:FuncId} {x:V} {g:FK} {off:Nat} {wr:Bool} {cs:List V} {args:List V} {okf:Option (List Nat)→Prop} {K:St→Prop} {a c sz n m:Nat} {xs ys:List V}
  (ha:s.o a = some (.buf true sz xs)) (h:EvZ Γ f args sz xs m ys) (hab:decide (a < b) = true) (hn:n = xs.length) (ho:s.o c = some (.box wr cs)) (hca:decide (c≠a) = true) (hcl:Qh cs)
  (hk:U3 Γ (b + KK) r { t:=(s.put d (.hd a 0 m)).t,o:=upd (xO (some [c]) [a] s.o) a (some (.buf true sz ys)),n:=s.n } K):akO Γ b r s d f (.hd a 0 n :: [.clo g [.ptr c off]]) (x :: args) okf K:=by
 have hc:QL s.o (some [c]) [.clo g [.ptr c off]]:=by
  simp only [QL,V.shutOk,and_true,okB,zq,true_and]
  exact ⟨wr,cs,ho,hcl⟩
 intro h1 _
 simp only [Y2,km] at h1
 obtain ⟨_,rfl⟩:=h1
 subst hn
 refine J5 ⟨_,_,_,_,[a],some [c],h.ev,⟨?_,Yn s.o [a] [c] (fun x hx=>by
  have:=zV hca
  simp only [zq] at hx ⊢
  subst hx;exact this) _ hc⟩,⟨⟨_,ha,rfl,rfl⟩,trivial⟩,by simp,?_,by simp,by simp [KK],fun h=>by simp at h,?_⟩
 ·simp [conv]
 ·intro x hx
  simp only [zq] at hx
  subst hx;exact zV hab
 ·simp only [Xe,Yy,Ob.ren,V.ren,sig,List.getElem?_cons_zero,Option.getD_some]
  exact hk
end Av
end
section
namespace Av
open Go
structure azo (Γ:Env) (f:FuncId) (v:V) (sx:Nat) (xs vs ys:List V):Prop where
 ev:Ev Γ f [.hd 0 0 xs.length,v,.hd 1 0 vs.length] [.buf true sx xs,.buf true sx vs] (.hd 2 0 ys.length) [.dead,.buf true sx vs,.buf true sx ys]
section
variable {Γ:Env} {b:Nat} {r:List AO} {s:St} {d:Option Nat} {f:FuncId} {args:List V} {okf:Option (List Nat)→Prop} {K:St→Prop} {a a2 n n2 sx:Nat} {xs vs ys:List V} {i:Int}
theorem akN (ha:s.o a = some (.buf true sx xs)) (ha2:s.o a2 = some (.buf true sx vs)) (h:azo Γ f (V.int i) sx xs vs ys) (hd:decide (a≠a2∧a < b∧a2 < b) = true) (hn:n = xs.length) (hn2:n2 = vs.length)
  (hk:U3 Γ (b + KK) r { t:=(s.put d (.hd b 0 ys.length)).t,o:=upd (upd (upd s.o b (some (.buf true sx ys))) a2 (some (.buf true sx vs))) a (some .dead),n:=s.n } K):akO Γ b r s d f [.hd a 0 n,V.int i,.hd a2 0 n2] args okf K:=by
 intro _ _
 subst hn;subst hn2
 obtain ⟨e1,e2,e3⟩:=zV hd
 refine J5 ⟨_,_,_,_,[a,a2],some [],h.ev,⟨by simp [conv],by simp [conv],by simp [conv],trivial⟩,⟨⟨_,ha,rfl,rfl⟩,⟨_,ha2,rfl,rfl⟩,trivial⟩,by simpa using e1,?_,by simp,by simp [KK],fun h=>by simp at h,?_⟩
 ·intro y hy
  simp only [zy,zC,or_false] at hy
  rcases hy with rfl|rfl<;>assumption
 ·simp only [Xe,Yy,Ob.ren,V.ren,sig,apw]
  exact hk
end
end Av
end
section
set_option maxRecDepth 10000
set_option maxHeartbeats 4000000
namespace Av
open Go
attribute [local irreducible] AWp U3 abh acE awS awC ajc awQ ajv Jo jG aiB awR yv awB okR ad1 ris
def apy {α:Type} (lt:α→α→Bool) (l:List α) (x:α):Nat→Nat→Nat→Nat
 | 0,i,_=>i
 | n + 1,i,j=>if i < j then (match l[(i + j) / 2]? with
   | some y=>if lt y x = true then apy lt l x n ((i + j) / 2 + 1) j else apy lt l x n i ((i + j) / 2)
   | none=>i) else i
def bsI {α:Type} (lt:α→α→Bool) (l:List α) (x:α):Nat:=apy lt l x l.length 0 l.length
theorem aqy {α:Type} {lt:α→α→Bool} {l:List α} {x:α}:∀ (n i j:Nat),i≤j→j≤l.length→apy lt l x n i j≤l.length
 | 0,i,j,h1,h2=>by rw [apy];omega
 | n + 1,i,j,h1,h2=>by
   rw [apy]
   split
   ·split
    ·split
     ·exact aqy n _ _ (by omega) h2
     ·exact aqy n _ _ (by omega) (by omega)
    ·omega
   ·omega
theorem apb {α:Type} {lt:α→α→Bool} {l:List α} {x:α}:bsI lt l x≤l.length:=aqy _ _ _ (zG _) (zl _)
theorem al0 {a b:Nat} (h:a + b < 2 ^ 36):IntKind.i64.wrap ((IntKind.u64.wrap (IntKind.i64.wrap ((a:Int) + (b:Int)))).fdiv (2 ^ 1)) = (((a + b) / 2:Nat):Int):=by
 have e1:IntKind.i64.wrap ((a:Int) + (b:Int)) = ((a + b:Nat):Int):=by rw [Q7 (by omega) (by omega)];omega
 have e2:IntKind.u64.wrap ((a + b:Nat):Int) = ((a + b:Nat):Int):=by
  unfold IntKind.wrap;simp [IntKind.signed,IntKind.bits];omega
 rw [e1,e2,Int.fdiv_eq_ediv_of_nonneg _ (by decide),show (2:Int) ^ 1 = 2 from rfl,Q7 (by omega) (by omega)];omega
def ji:AC:=Qb [0] (.reg [mc 2 (V.bool false)]) (Qb [2] (.reg [mv 3 0,mv 4 0,bn 5 .neq 3 4,mv 2 5]) .ret) def dk:List Q0:=[.tmp 2]
def Va (Γ:Env) (f:Nat):Prop:=∀ (s:List UInt8),EvN Γ f [V.str s] (V.bool false)
theorem acB {Γ:Env} {f:Nat} (h:Has Γ.P f 6 ji dk) :Va Γ f:=by
 intro s
 refine Qc h zsi zcl zcl fun C hC hm=>?_
 subst hC
 unfold ji
 refine zgo ?_;repeat' first|exact zt|apply zan|intro hc
 all_goals first|exact zr|(refine Qr _ rfl ?_;simp only [go_sem];simp;done)
def wO:AC:=Qb [0] (.reg [mc 2 (V.bool false)]) (Qb [2] (.reg [mv 3 0,mv 4 0,bn 5 .neq 3 4,mv 2 5]) .ret) def dm:List Q0:=[.tmp 2]
def UO (Γ:Env) (f:Nat):Prop:=∀ (s:List UInt8),EvN Γ f [V.str s] (V.bool false)
theorem afk {Γ:Env} {f:Nat} (h:Has Γ.P f 6 wO dm) :UO Γ f:=by
 intro s
 refine Qc h zsi zcl zcl fun C hC hm=>?_
 subst hC
 unfold wO
 refine zgo ?_;repeat' first|exact zt|apply zan|intro hc
 all_goals first|exact zr|(refine Qr _ rfl ?_;simp only [go_sem];simp;done)
def aaX (Wn:Nat):AC:=Qb [0,1] (.reg [mc 4 (V.bool false)]) (Qb [4] (.reg [mv 5 0,cl 6 Wn [5],mv 7 6,mg 8 1 7 true,xg 9 (.call Wn [(.t 8)]) 7 true,xg 10 (.un .not (.t 9)) 7 true,xo 11 (.pick (.t 7) (.t 10) (.c (V.bool false))),mv 12 11,mg 13 0 12 false,mg 14 1 12 false,xg 15 (.bin .lss (.t 13) (.t 14)) 12 false,xo 16 (.pick (.t 12) (.c (V.bool true)) (.t 15)),mv 4 16]) .ret) def dn:List Q0:=[.tmp 4]
def KZ (Γ:Env) (f:Nat):Prop:=∀ (a b:List UInt8),EvN Γ f [V.str a,V.str b] (V.bool (Op.bytesLess a b))
theorem agq {Γ:Env} {f Wn:Nat} (h:Has Γ.P f 17 (aaX Wn) dn) (z0:UO Γ Wn):KZ Γ f:=by
 intro a b
 refine Qc h zsi zcl zcl fun C hC hm=>?_
 subst hC
 unfold aaX
 have p1:=(z0 a).b
 exact zg
def YO {α:Type} [BEq α] (l:List α) (i:Nat) (x:α):Bool:=match l[i]? with|some y=>y == x|none=>false
def XG (VP Xo:Nat):AC:=Qb [0,1] (.reg [mc 4 (V.int 0),mc 5 (V.bool false)]) (Qb [0,1,6] (.reg [mv 10 0,ln 11 10,mv 6 11]) (Qb [0,1,6,7,8] (.reg [mv 12 6,mc 7 (V.int 0),mv 8 12]) (Qb [0,1,6,7] (.block 0 (JG [0,1,6,7,8] (Qb [0,1,6,7,8] (Qb [0,1,6,7,8,15] (.reg [mv 13 7,mv 14 8,bn 15 .lss 13 14]) (.cond (.t 15) .skip (.exit 0))) (.block 1 (Qb [0,1,6,7,8,9] (.reg [mv 16 7,mv 17 8,bn 18 .add 16 17,xo 19 (.convI .u64 (.t 18)),bc 20 .shr 19 (.sc (.int .u64 1)),xo 21 (.convI .i64 (.t 20)),mv 9 21]) (Qb [0,1,6,7,8,9,27] (.reg [mv 22 0,mv 23 9,ia 24 1 22 23,ld 25 1 24,mv 26 1,cl 27 VP [25,26]]) (.cond (.t 27) (.reg [mv 28 9,bc 29 .add 28 (V.int 1),mv 7 29]) (.reg [mv 30 9,mv 8 30])))))))) (Qb [4,5] (.reg [mv 31 7,mv 32 7,mv 33 6,bn 34 .lss 32 33,mv 35 34,mg 36 0 35 true,mg 37 7 35 true,xg 38 (.iaddr 1 (.t 36) (.t 37)) 35 true,xg 39 (.load false 1 (.t 38)) 35 true,mg 40 1 35 true,xg 41 (.bin .eql (.t 39) (.t 40)) 35 true,mg 42 41 35 true,mg 43 0 42 false,mg 44 7 42 false,xg 45 (.iaddr 1 (.t 43) (.t 44)) 42 false,xg 46 (.load false 1 (.t 45)) 42 false,xg 47 (.call Xo [(.t 46)]) 42 false,mg 48 47 42 false,mg 49 1 48 true,xg 50 (.call Xo [(.t 49)]) 48 true,xg 51 (.pick (.t 48) (.t 50) (.c (V.bool false))) 42 false,xg 52 (.pick (.t 42) (.c (V.bool true)) (.t 51)) 35 true,xo 53 (.pick (.t 35) (.t 52) (.c (V.bool false))),mv 4 31,mv 5 53]) .ret)))) def dp:List Q0:=[.tmp 4,.tmp 5]
def J4 (Γ:Env) (f:Nat):Prop:=∀ (l:List (List UInt8)) (x:List UInt8) (hl:l.length < 2 ^ 34),EvN Γ f [.sl 1 (l.map V.str),V.str x] (.tup [V.int (bsI Op.bytesLess l x:Nat),V.bool (YO l (bsI Op.bytesLess l x) x)])
attribute [local go_sem] Y1 in
theorem VS {Γ:Env} {f VP Xo:Nat} (h:Has Γ.P f 54 (XG VP Xo) dp) (z0:KZ Γ VP) (z1:Va Γ Xo):J4 Γ f:=by
 intro l x hl
 refine Qc h zsi zcl zcl fun C hC hm=>?_
 subst hC
 unfold XG
 refine zgo ?_;repeat' first|exact zt|apply zan|intro hc
 refine QC (ι:=Nat×Nat×Nat) (fun q=>q.2.1≤q.2.2∧q.2.2≤l.length∧q.2.2 - q.2.1≤q.1∧apy Op.bytesLess l x q.1 q.2.1 q.2.2 = bsI Op.bytesLess l x) (fun q=>Y1 [(0,.sl 1 (l.map V.str)),(1,V.str x),(6,V.int l.length),(7,V.int q.2.1),(8,V.int q.2.2)] [] 0) (fun q=>q.2.2 - q.2.1) (l.length,0,l.length) ⟨zG _,zl _,by simp,rfl⟩ (Qi []) (Qv [] (by simp only [go_sem,zwl,zd]<;>exact zcc) zwa (by simp) (by simp) (by omega)) fun q hq K' hL=>?_
 obtain ⟨n,i,j⟩:=q
 simp only at hq hL ⊢
 obtain ⟨h1,h2,h3,h4⟩:=hq
 have hb:bsI Op.bytesLess l x≤l.length:=apb
 by_cases hij:i < j
 ·obtain ⟨n,rfl⟩:∃ m,n = m + 1:=⟨n - 1,by omega⟩
  have e1:decide ((i:Int) < (j:Int)) = true:=zn (by omega)
  have hh:=al0 (a:=i) (b:=j) (by omega)
  rw [apy,if_pos hij] at h4
  have r1:i≤(i + j) / 2:=by omega
  have r2:(i + j) / 2 < j:=by omega
  generalize (i + j) / 2 = r at *
  obtain ⟨y,hy⟩:∃ y,l[r]? = some y:=⟨_,zb (by omega)⟩
  rw [hy] at h4
  simp only at h4
  have p1:=(z0 y x).b
  have hwr:=Qq (k:=r) (by omega)
  rcases hlt:Op.bytesLess y x with _|_
  ·rw [hlt] at p1 h4
   rw [if_neg (by decide)] at h4
   (have zx:=za e1 (za hh (za hwr hy)));refine zgo ?_;repeat' first|exact zt|apply zan|intro hc
   all_goals exact hL _ (n,i,r) (Qi []) ⟨by simp only;omega,by simp only;omega,by simp only;omega,h4⟩ (by simp only;omega) (zwg [])
  ·rw [hlt] at p1 h4
   rw [if_pos rfl] at h4
   (have zx:=za e1 (za hh (za hwr hy)));refine zgo ?_;repeat' first|exact zt|apply zan|intro hc
   all_goals exact hL _ (n,r + 1,j) (Qi []) ⟨by simp only;omega,by simp only;omega,by simp only;omega,h4⟩ (by simp only;omega) (zwg [])
 ·have e1:decide ((i:Int) < (j:Int)) = false:=zv (by omega)
  have hbi:bsI Op.bytesLess l x = i:=by
   rw [← h4]
   rcases n with _|n
   ·rfl
   ·rw [apy,if_neg hij]
  rw [hbi]
  by_cases hil:i < l.length
  ·have e2:decide ((i:Int) < (l.length:Int)) = true:=zn (by omega)
   obtain ⟨y,hy⟩:∃ y,l[i]? = some y:=⟨_,zb hil⟩
   have hf:YO l i x = (y == x):=by simp only [YO,hy]
   have p2:=(z1 y).b
   rw [hf]
   rcases hyx:y == x with _|_
   ·(have zx:=za e1 (za e2 (za hyx hy)));exact zg
   ·(have zx:=za e1 (za e2 (za hyx hy)));exact zg
  ·have e2:decide ((i:Int) < (l.length:Int)) = false:=zv (by omega)
   have hf:YO l i x = false:=by rw [YO,zU (by omega)]
   rw [hf]
   (have zx:=za e1 e2);exact zg
def ltJ (x y:Int):Bool:=decide (x < y)
def aiR {α:Type} [BEq α] (lt:α→α→Bool) (l:List α) (x:α):List α :=
 if YO l (bsI lt l x) x = true then l else l.take (bsI lt l x)++x :: l.drop (bsI lt l x)
def Ww (Γ:Env) (f:Nat):Prop:=((∀ (xs:List (List UInt8)) (i:Nat) (x:List UInt8),i≤xs.length→0 < xs.length→xs.length < 2 ^ 30→azo Γ f (V.int i) 1 (xs.map V.str) [V.str x] ((xs.take i++x :: xs.drop i).map V.str))∧(∀ x:List UInt8,EvW Γ f [v8,V.int 0,.sl 1 [V.str x]] 1 [V.str x]))
def Xv (Je JQ:Nat):AC:=Qb [0,1] (.reg [xo 4 (.mknil 1)]) (Qb [0,1,5,6] (.reg [mv 8 0,mv 9 1,cl 10 Je [8,9],mv 7 10,ex 11 7 0,ex 12 7 1,mv 5 11,mv 6 12]) (Qb [0,1,5] (Qb [0,1,5,13] (.reg [mv 13 6]) (.cond (.t 13) (Qb [4] (.reg [mv 14 0,mv 4 14]) .ret) .skip)) (Qb [4] (.reg [mv 15 0,mv 16 5,mv 17 1,xo 18 (.bslice 1 1 false [vs0] [(0,(.t 17))]),cl 19 JQ [15,16,18],mv 4 19]) .ret))) def dr:List Q0:=[.tmp 4]
def Wu (Γ:Env) (f:Nat):Prop:=((∀ (xs:List (List UInt8)) (x:List UInt8),0 < xs.length→xs.length < 2 ^ 30→YO xs (bsI Op.bytesLess xs x) x = true→EvX Γ f [V.str x] 1 (xs.map V.str))∧(∀ (xs:List (List UInt8)) (x:List UInt8),0 < xs.length→xs.length < 2 ^ 30→YO xs (bsI Op.bytesLess xs x) x = false→EvI Γ f [V.str x] 1 (xs.map V.str) ((aiR Op.bytesLess xs x).map V.str))∧(∀ x:List UInt8,EvW Γ f [v8,V.str x] 1 [V.str x]))
theorem vH {Γ:Env} {f Je JQ:Nat} (h:Has Γ.P f 20 (Xv Je JQ) dr) (z0:J4 Γ Je) (z1:Ww Γ JQ):Wu Γ f:=by
 obtain ⟨hI,hW⟩:=z1
 refine ⟨fun xs x h0 hl hf=>?_,fun xs x h0 hl hf=>?_,fun x=>?_⟩
 ·refine xf h (by simp) fun C hC hm=>?_
  subst hC
  unfold Xv
  have hb:=(z0 xs x (by omega)).b
  rw [hf] at hb
  have ht:List.take (xs.map V.str).length (xs.map V.str) = xs.map V.str:=zJ
  (have zx:=ht);refine zgo ?_;repeat' first|exact zt|apply zan|intro hc
  all_goals first|(refine aoX _ rfl rfl rfl ?_;first|rfl|(simp;done))
 ·refine aku h (by simp) fun C hC hm=>?_
  subst hC
  unfold Xv
  have hb:=(z0 xs x (by omega)).b
  have hi:=hI xs (bsI Op.bytesLess xs x) x apb h0 hl
  rw [aiR,if_neg (by rw [hf];decide)]
  rw [hf] at hb
  have ht:List.take (xs.map V.str).length (xs.map V.str) = xs.map V.str:=zJ
  generalize bsI Op.bytesLess xs x = i at *
  repeat' (first|(refine zsk ?_;intro K' hK)|refine zsp ?_|(refine zsc ?_ ?_<;>intro hc<;>first|exact znh|try simp only [znz] at hc)|simp (maxSteps:=1000000) only [go_sem,ht]|(refine hK _ ?_;clear hK K')|apply zan|(apply apf;(focus exact rfl);(focus first|exact hi);(focus exact rfl);(focus exact rfl);(focus (first|exact rfl|(simp;done))))|(apply akN;(focus exact rfl);(focus exact rfl);(focus first|exact hi);(focus exact rfl);(focus (first|exact rfl|(simp;done)));(focus (first|exact rfl|(simp;done))))|(apply QR;(focus first|exact hb|exact (z0 _ _ zsd).b))|exact zsq|fail)
  all_goals first|(refine aw3 _ _ rfl ⟨_,rfl⟩ rfl (by omega) rfl ?_;first|rfl|(simp;done))
 ·refine UD h (by simp) (by intro y hy;rw [zq.1 hy];simp only [V.noSl]) fun C hC hm=>?_
  subst hC
  unfold Xv
  have hb:=(z0 [] x (by simp)).b
  have hw:=hW x
  simp only [zO] at hb
  have hb:=hb.le2 (LeV.nil 1) (LeV.refl _)
  refine zgo ?_;repeat' first|exact zt|apply zan|intro hc
  all_goals first|(refine acb (xs:=[V.str x]) _ _ rfl ?_ ?_<;>first|rfl|(simp;done))
section
variable {α:Type}
def gK (lt:α→α→Bool) (out:List α) (x:α):Nat→Nat
 | 0=>0
 | k + 1=>if (match out[k]? with|some y=>lt x y|none=>false) = true then gK lt out x k else k + 1
theorem axJ (lt:α→α→Bool) (out:List α) (x:α):∀ k,gK lt out x k≤k
 | 0=>zl _
 | k + 1=>by
   rw [gK]
   by_cases h:(match out[k]? with|some y=>lt x y|none=>false) = true
   ·rw [if_pos h];exact Zr (axJ lt out x k)
   ·rw [if_neg h];exact zl _
def aj7 (lt:α→α→Bool) (out:List α) (x:α):List α:=out.take (gK lt out x out.length)++[x]++out.drop (gK lt out x out.length)
def W7 (lt:α→α→Bool) (l:List α):List α:=l.foldl (aj7 lt) []
theorem av3 (lt:α→α→Bool) (out:List α) (x:α):(aj7 lt out x).length = out.length + 1:=by
 have:=axJ lt out x out.length
 simp [aj7];omega
theorem aoC (lt:α→α→Bool):∀ (l out:List α),(l.foldl (aj7 lt) out).length = out.length + l.length
 | [],out=>by simp
 | x :: r,out=>by rw [List.foldl_cons,aoC lt r,av3];simp;omega
theorem af0 (lt:α→α→Bool) (l:List α):(W7 lt l).length = l.length:=by rw [W7,aoC];simp
theorem aup (lt:α→α→Bool) (x:α):W7 lt [x] = [x]:=by simp [W7,aj7,gK]
theorem av2 {lt:α→α→Bool} {out:List α} {x y:α}:y∈aj7 lt out x↔y = x∨y∈out:=by
 have:y∈out↔y∈out.take (gK lt out x out.length)∨y∈out.drop (gK lt out x out.length):=by
  rw [← zW,Zk]
 simp only [aj7,zW,zq,this]
 constructor
 ·rintro ((h|h)|h)
  ·exact .inr (.inl h)
  ·exact .inl h
  ·exact .inr (.inr h)
 ·rintro (h|h|h)
  ·exact .inl (.inr h)
  ·exact .inl (.inl h)
  ·exact .inr h
theorem aoB {lt:α→α→Bool} {y:α}:∀ (l out:List α),y∈l.foldl (aj7 lt) out↔y∈out∨y∈l
 | [],out=>by simp
 | x :: r,out=>by
   rw [List.foldl_cons,aoB r,av2,zy]
   constructor
   ·rintro ((h|h)|h)
    ·exact .inr (.inl h)
    ·exact .inl h
    ·exact .inr (.inr h)
   ·rintro (h|h|h)
    ·exact .inl (.inr h)
    ·exact .inl (.inl h)
    ·exact .inr h
theorem aoG {lt:α→α→Bool} {y:α} {l:List α}:y∈W7 lt l↔y∈l:=by rw [W7,aoB];simp
theorem aus {lt:α→α→Bool} {out:List α} {x:α}:(aj7 lt out x).Perm (x :: out):=by
 have h:(out.take (gK lt out x out.length)++out.drop (gK lt out x out.length)).Perm out:=by rw [Zk]
 rw [aj7,kf,List.singleton_append]
 exact List.perm_middle.trans (h.cons x)
theorem al1 {lt:α→α→Bool}:∀ (l out:List α),(l.foldl (aj7 lt) out).Perm (l++out)
 | [],out=>by simp
 | x :: r,out=>by
   rw [List.foldl_cons,List.cons_append]
   exact ((al1 r (aj7 lt out x)).trans (List.Perm.append_left r aus)).trans List.perm_middle
theorem aaA {lt:α→α→Bool} {l:List α}:(W7 lt l).Perm l:=by have:=al1 (lt:=lt) l [];rwa [kD] at this
def Ord (lt:α→α→Bool) (l:List α):Prop:=l.Pairwise fun x y=>lt y x = false
theorem aur {lt:α→α→Bool} {out:List α} {x:α}:∀ k,k≤out.length→(∀ j,gK lt out x k≤j→j < k→∀ y,out[j]? = some y→lt x y = true)∧(0 < gK lt out x k→∀ y,out[gK lt out x k - 1]? = some y→lt x y = false)
 | 0,_=>⟨fun j h1 h2=>by omega,fun h=>by simp [gK] at h⟩
 | k + 1,hk=>by
   obtain ⟨i1,i2⟩:=aur (lt:=lt) (out:=out) (x:=x) k (by omega)
   have hy:out[k]? = some out[k]:=zb (by omega)
   simp only [gK,hy]
   split
   ·rename_i h
    refine ⟨fun j h1 h2 y e=>?_,i2⟩
    by_cases hj:j = k
    ·subst hj;rw [hy] at e;cases e;exact h
    ·exact i1 j h1 (by omega) y e
   ·rename_i h
    refine ⟨fun j h1 h2=>by omega,fun _ y e=>?_⟩
    rw [Nat.add_sub_cancel,hy] at e;cases e
    simpa using h
theorem av1 {lt:α→α→Bool} (htr:∀ x y z,lt y x = false→lt z y = false→lt z x = false) (has:∀ x y,lt x y = true→lt y x = false) {out:List α} {x:α} (h:Ord lt out):Ord lt (aj7 lt out x):=by
 obtain ⟨h1,h2⟩:=aur (lt:=lt) (out:=out) (x:=x) out.length (zl _)
 have hle:=axJ lt out x out.length
 unfold Ord aj7 at *
 generalize gK lt out x out.length = k at *
 have hto:(out.take k).Pairwise fun x y=>lt y x = false:=h.sublist (bm _ _)
 have hdr:(out.drop k).Pairwise fun x y=>lt y x = false:=h.sublist (List.drop_sublist _ _)
 have hcr:∀ a∈out.take k,∀ b∈out.drop k,lt b a = false:=by
  have:=h
  rw [← Zk k out,kT] at this
  exact this.2.2
 have hx1:∀ a∈out.take k,lt x a = false:=by
  intro a ha
  rcases Zb k with hk|hk
  ·subst hk;simp at ha
  ·have hlast:out[k - 1]? = some out[k - 1]:=zb (by omega)
   have hxl:=h2 hk _ hlast
   obtain ⟨i,hi,rfl⟩:=ky ha
   simp only [zM] at hi
   rw [ZG]
   by_cases e:i = k - 1
   ·subst e;exact hxl
   ·have:=(kq.1 h) i (k - 1) (by omega) (by omega) (by omega)
    exact htr _ _ _ this hxl
 have hx2:∀ b∈out.drop k,lt b x = false:=by
  intro b hb
  obtain ⟨i,hi,rfl⟩:=ky hb
  rw [bh]
  simp only [zZ] at hi
  exact has _ _ (h1 (k + i) (by omega) (by omega) _ (zb (by omega)))
 rw [kf,List.singleton_append,kT]
 refine ⟨hto,ZJ.2 ⟨hx2,hdr⟩,fun a ha b hb=>?_⟩
 rcases zy.1 hb with rfl|hb
 ·exact hx1 a ha
 ·exact hcr a ha b hb
theorem aoA {lt:α→α→Bool} (htr:∀ x y z,lt y x = false→lt z y = false→lt z x = false) (has:∀ x y,lt x y = true→lt y x = false):∀ (l out:List α),Ord lt out→Ord lt (l.foldl (aj7 lt) out)
 | [],_,h=>h
 | x :: r,out,h=>aoA htr has r _ (av1 htr has h)
theorem aoF {lt:α→α→Bool} (htr:∀ x y z,lt y x = false→lt z y = false→lt z x = false) (has:∀ x y,lt x y = true→lt y x = false) (l:List α):Ord lt (W7 lt l):=aoA htr has l [] List.Pairwise.nil
def abw (lt:α→α→Bool) (xs:List α) (a i:Nat):List α:=xs.take a++(W7 lt ((xs.take i).drop a)++xs.drop i)
theorem aoH {lt:α→α→Bool} {xs:List α} {a:Nat} (h:a < xs.length):abw lt xs a (a + 1) = xs:=by
 have e:(xs.take (a + 1)).drop a = [xs[a]]:=by
  rw [zP,zb h,Zo (by simp;omega),bo (by simp;omega)];rfl
 rw [abw,e,aup,List.singleton_append,← ka h,Zk]
theorem auq {lt:α→α→Bool} (xs:List α):abw lt xs 0 xs.length = W7 lt xs:=by simp [abw]
def VG (P S:List α) (x:α) (R:List α) (q:Nat):List α:=P++(S.take q++x :: (S.drop q++R))
theorem aoE {P S R:List α} {x:α} {q:Nat}:(VG P S x R q).length = P.length + S.length + 1 + R.length:=by
 simp only [VG,zp,List.length_cons,zM,zZ];omega
theorem auo {P S R:List α} {x:α} {q:Nat} (h:q≤S.length):(VG P S x R q)[P.length + q]? = some x:=by
 have:(S.take q).length = q:=by simp;omega
 rw [VG,zK (by omega),zK (by omega),this]
 simp
theorem aun {P S R:List α} {x:α} {q:Nat} (h:q < S.length):(VG P S x R (q + 1))[P.length + q]? = some S[q]:=by
 rw [VG,zK (by omega),zS (by simp;omega),bd]
 simp [h]
theorem arj (S y x:α) (T:List α):∀ A:List α,((A++y :: S :: T).set (A.length + 1) y).set A.length x = A++x :: y :: T
 | []=>rfl
 | z :: A=>by
   have:=arj S y x T A
   simp only [List.cons_append,List.length_cons,List.set_cons_succ,this]
theorem aoD {P S R:List α} {x:α} {q:Nat} (h:q < S.length):((VG P S x R (q + 1)).set (P.length + (q + 1)) S[q]).set (P.length + q) x = VG P S x R q:=by
 have e1:S.take (q + 1) = S.take q++[S[q]]:=by rw [zP,zb h];rfl
 have e2:S.drop q = S[q] :: S.drop (q + 1):=ka h
 have e3:(S.take q).length = q:=by simp;omega
 have e4:VG P S x R (q + 1) = (P++S.take q)++S[q] :: x :: (S.drop (q + 1)++R):=by rw [VG,e1];simp only [kf,List.cons_append,List.nil_append]
 have e5:VG P S x R q = (P++S.take q)++x :: S[q] :: (S.drop (q + 1)++R):=by rw [VG,e2];simp only [kf,List.cons_append,List.nil_append]
 have hl:(P++S.take q).length = P.length + q:=by rw [zp,e3]
 have hl2:P.length + (q + 1) = (P++S.take q).length + 1:=by omega
 rw [e4,e5,hl2,← hl]
 exact arj _ _ _ _ _
theorem arl {lt:α→α→Bool} {f:α→V} (xs:List α):(if 0 = xs.length then xs.map f else (abw lt xs 0 xs.length).map f) = (W7 lt xs).map f:=by
 split
 ·rename_i h
  have:xs = []:=kP h.symm
  subst this;rfl
 ·rw [auq]
end
theorem aqJ {n:Int} (h0:0≤n) (h1:n < 2 ^ 64):IntKind.u64.wrap n = n:=by
 have e1:IntKind.u64.bits = 64:=rfl
 have e2:IntKind.u64.signed = false:=rfl
 simp only [IntKind.wrap,e1,e2,ke,zw,if_false]
 omega
abbrev V.u64 (n:Int):V:=.sc (.int .u64 n)
def azz:Nat→Int
 | 0=>0|1=>1|2=>2|3=>2|4=>3|5=>3|6=>3|7=>3|8=>4|9=>4|10=>4|11=>4|_=>4
def aaF:AC:=Qb [0,2] (.reg [mc 2 (V.int 0)]) (Qb [0,2] (Qb [0,2,4] (.reg [mv 3 0,bc 4 .geq 3 (.sc (.int .u64 4294967296))]) (.cond (.t 4) (Qb [0] (.reg [mv 5 0,bc 6 .shr 5 (.sc (.int .u64 32)),mv 0 6]) (.reg [mc 2 (V.int 32)])) .skip)) (Qb [0,2] (Qb [0,2,8] (.reg [mv 7 0,bc 8 .geq 7 (.sc (.int .u64 65536))]) (.cond (.t 8) (Qb [0,2] (.reg [mv 9 0,bc 10 .shr 9 (.sc (.int .u64 16)),mv 0 10]) (.reg [mv 11 2,bc 12 .add 11 (V.int 16),mv 2 12])) .skip)) (Qb [0,2] (Qb [0,2,14] (.reg [mv 13 0,bc 14 .geq 13 (.sc (.int .u64 256))]) (.cond (.t 14) (Qb [0,2] (.reg [mv 15 0,bc 16 .shr 15 (.sc (.int .u64 8)),mv 0 16]) (.reg [mv 17 2,bc 18 .add 17 (V.int 8),mv 2 18])) .skip)) (Qb [2] (.reg [mv 19 2,mv 20 0,xo 21 (.convI .u8 (.t 20)),xo 22 (.idxS (.c (V.str [0,1,2,2,3,3,3,3,4,4,4,4,4,4,4,4,5,5,5,5,5,5,5,5,5,5,5,5,5,5,5,5,6,6,6,6,6,6,6,6,6,6,6,6,6,6,6,6,6,6,6,6,6,6,6,6,6,6,6,6,6,6,6,6,7,7,7,7,7,7,7,7,7,7,7,7,7,7,7,7,7,7,7,7,7,7,7,7,7,7,7,7,7,7,7,7,7,7,7,7,7,7,7,7,7,7,7,7,7,7,7,7,7,7,7,7,7,7,7,7,7,7,7,7,7,7,7,7,8,8,8,8,8,8,8,8,8,8,8,8,8,8,8,8,8,8,8,8,8,8,8,8,8,8,8,8,8,8,8,8,8,8,8,8,8,8,8,8,8,8,8,8,8,8,8,8,8,8,8,8,8,8,8,8,8,8,8,8,8,8,8,8,8,8,8,8,8,8,8,8,8,8,8,8,8,8,8,8,8,8,8,8,8,8,8,8,8,8,8,8,8,8,8,8,8,8,8,8,8,8,8,8,8,8,8,8,8,8,8,8,8,8,8,8,8,8,8,8,8,8,8,8,8,8,8,8])) (.t 21)),xo 23 (.convI .i64 (.t 22)),bn 24 .add 19 23,mv 2 24]) .ret)))) def dt:List Q0:=[.tmp 2]
def KI (Γ:Env) (f:Nat):Prop:=∀ (n:Nat) (hn:n≤12),EvN Γ f [V.u64 n] (V.int (azz n))
theorem af6 {Γ:Env} {f:Nat} (h:Has Γ.P f 25 aaF dt) :KI Γ f:=by
 intro n hn
 refine Qc h zsi zcl zcl fun C hC hm=>?_
 subst hC
 unfold aaF
 have hn':n = 0∨n = 1∨n = 2∨n = 3∨n = 4∨n = 5∨n = 6∨n = 7∨n = 8∨n = 9∨n = 10∨n = 11∨n = 12:=by omega
 have e1:decide ((n:Int)≥4294967296) = false:=by simp;omega
 have e2:decide ((n:Int)≥65536) = false:=by simp;omega
 have e3:decide ((n:Int)≥256) = false:=by simp;omega
 have hw:IntKind.u8.wrap (n:Int) = (n:Int):=apz (by omega) (by omega)
 obtain ⟨c,hc1,hc2⟩:∃ c:UInt8,([0,1,2,2,3,3,3,3,4,4,4,4,4]:List UInt8)[n]? = some c∧(c.toNat:Int) = azz n:=by
  rcases hn' with rfl|rfl|rfl|rfl|rfl|rfl|rfl|rfl|rfl|rfl|rfl|rfl|rfl<;>exact ⟨_,rfl,rfl⟩
 have hget:∀ l:List UInt8,l.take 13 = [0,1,2,2,3,3,3,3,4,4,4,4,4]→l[n]? = some c:=fun l hl=>by
  rw [← hc1,← hl,bd,if_pos (by omega)]
 have hc3:0≤(c.toNat:Int)∧(c.toNat:Int) < 256:=by have:=c.toNat_lt;omega
 have hw2:IntKind.i64.wrap (c.toNat:Int) = (c.toNat:Int):=Q7 (by omega) (by omega)
 have hw3:IntKind.i64.wrap (0 + (c.toNat:Int)) = (c.toNat:Int):=by rw [Int.zero_add,hw2]
 rw [← hc2]
 have hg:([0,1,2,2,3,3,3,3,4,4,4,4,4,4,4,4,5,5,5,5,5,5,5,5,5,5,5,5,5,5,5,5,6,6,6,6,6,6,6,6,6,6,6,6,6,6,6,6,6,6,6,6,6,6,6,6,6,6,6,6,6,6,6,6,7,7,7,7,7,7,7,7,7,7,7,7,7,7,7,7,7,7,7,7,7,7,7,7,7,7,7,7,7,7,7,7,7,7,7,7,7,7,7,7,7,7,7,7,7,7,7,7,7,7,7,7,7,7,7,7,7,7,7,7,7,7,7,7,8,8,8,8,8,8,8,8,8,8,8,8,8,8,8,8,8,8,8,8,8,8,8,8,8,8,8,8,8,8,8,8,8,8,8,8,8,8,8,8,8,8,8,8,8,8,8,8,8,8,8,8,8,8,8,8,8,8,8,8,8,8,8,8,8,8,8,8,8,8,8,8,8,8,8,8,8,8,8,8,8,8,8,8,8,8,8,8,8,8,8,8,8,8,8,8,8,8,8,8,8,8,8,8,8,8,8,8,8,8,8,8,8,8,8,8,8,8,8,8,8,8,8,8,8,8,8,8]:List UInt8)[n]? = some c:=hget _ rfl
 (have zx:=za e1 (za e2 (za e3 (za hw (za hg (za hw2 hw3))))));exact zg
def xp (qr VJ:Nat):AC:=Qb [0] (.reg [mc 2 (V.int 0)]) (Qb [0] (.cond (.c (V.bool false)) (Qb [2] (.reg [mv 3 0,xo 4 (.convI .u32 (.t 3)),cl 5 qr [4],mv 2 5]) .ret) .skip) (Qb [2] (.reg [mv 6 0,cl 7 VJ [6],mv 2 7]) .ret)) def du:List Q0:=[.tmp 2]
def W5 (Γ:Env) (f:Nat):Prop:=∀ (n:Nat) (hn:n≤12),EvN Γ f [V.u64 n] (V.int (azz n))
theorem aiZ {Γ:Env} {f qr VJ:Nat} (h:Has Γ.P f 8 (xp qr VJ) du) (z0:KI Γ VJ):W5 Γ f:=by
 intro n hn
 refine Qc h zsi zcl zcl fun C hC hm=>?_
 subst hC
 unfold xp
 exact zg
theorem amh {Γ:Env} {f:Nat} (h:W5 Γ f) (n:Nat) (hn:n≤12):∃ lim:Int,EvN Γ f [V.u64 n] (V.int lim):=⟨_,h n hn⟩
def wD:AC:=Qb [0] (.reg [mc 2 (V.bool false)]) (Qb [2] (.reg [mv 3 0,mv 4 0,bn 5 .neq 3 4,mv 2 5]) .ret) def dv:List Q0:=[.tmp 2]
def UG (Γ:Env) (f:Nat):Prop:=∀ (n:Int),EvN Γ f [V.int n] (V.bool false)
theorem afc {Γ:Env} {f:Nat} (h:Has Γ.P f 6 wD dv) :UG Γ f:=by
 intro n
 refine Qc h zsi zcl zcl fun C hC hm=>?_
 subst hC
 unfold wD
 have e:(n != n) = false:=by simp
 (have zx:=e);exact zg
def aeN (JI:Nat):AC:=Qb [0,1] (.reg [mc 4 (V.bool false)]) (Qb [4] (.reg [mv 5 0,cl 6 JI [5],mv 7 6,mg 8 1 7 true,xg 9 (.call JI [(.t 8)]) 7 true,xg 10 (.un .not (.t 9)) 7 true,xo 11 (.pick (.t 7) (.t 10) (.c (V.bool false))),mv 12 11,mg 13 0 12 false,mg 14 1 12 false,xg 15 (.bin .lss (.t 13) (.t 14)) 12 false,xo 16 (.pick (.t 12) (.c (V.bool true)) (.t 15)),mv 4 16]) .ret) def dw:List Q0:=[.tmp 4]
def VC (Γ:Env) (f:Nat):Prop:=∀ (a b:Int),EvN Γ f [V.int a,V.int b] (V.bool (decide (a < b)))
theorem akn {Γ:Env} {f JI:Nat} (h:Has Γ.P f 17 (aeN JI) dw) (z0:Us Γ JI):VC Γ f:=by
 intro a b
 refine Qc h zsi zcl zcl fun C hC hm=>?_
 subst hC
 unfold aeN
 repeat' (first|(refine zsk ?_;intro K' hK)|refine zsp ?_|(refine zsc ?_ ?_<;>intro hc<;>first|exact znh|try simp only [znz] at hc)|simp (maxSteps:=1000000) only [go_sem]|(refine hK _ ?_;clear hK K')|apply zan|(apply QR;(focus first|exact (z0 _).b))|exact zsq|fail)
 all_goals exact zr
def WE (Qs Wl:Nat):AC:=Qb [0,1] (.reg [mc 4 (V.int 0),mc 5 (V.bool false)]) (Qb [0,1,6] (.reg [mv 10 0,ln 11 10,mv 6 11]) (Qb [0,1,6,7,8] (.reg [mv 12 6,mc 7 (V.int 0),mv 8 12]) (Qb [0,1,6,7] (.block 0 (JG [0,1,6,7,8] (Qb [0,1,6,7,8] (Qb [0,1,6,7,8,15] (.reg [mv 13 7,mv 14 8,bn 15 .lss 13 14]) (.cond (.t 15) .skip (.exit 0))) (.block 1 (Qb [0,1,6,7,8,9] (.reg [mv 16 7,mv 17 8,bn 18 .add 16 17,xo 19 (.convI .u64 (.t 18)),bc 20 .shr 19 (.sc (.int .u64 1)),xo 21 (.convI .i64 (.t 20)),mv 9 21]) (Qb [0,1,6,7,8,9,27] (.reg [mv 22 0,mv 23 9,ia 24 1 22 23,ld 25 1 24,mv 26 1,cl 27 Qs [25,26]]) (.cond (.t 27) (.reg [mv 28 9,bc 29 .add 28 (V.int 1),mv 7 29]) (.reg [mv 30 9,mv 8 30])))))))) (Qb [4,5] (.reg [mv 31 7,mv 32 7,mv 33 6,bn 34 .lss 32 33,mv 35 34,mg 36 0 35 true,mg 37 7 35 true,xg 38 (.iaddr 1 (.t 36) (.t 37)) 35 true,xg 39 (.load false 1 (.t 38)) 35 true,mg 40 1 35 true,xg 41 (.bin .eql (.t 39) (.t 40)) 35 true,mg 42 41 35 true,mg 43 0 42 false,mg 44 7 42 false,xg 45 (.iaddr 1 (.t 43) (.t 44)) 42 false,xg 46 (.load false 1 (.t 45)) 42 false,xg 47 (.call Wl [(.t 46)]) 42 false,mg 48 47 42 false,mg 49 1 48 true,xg 50 (.call Wl [(.t 49)]) 48 true,xg 51 (.pick (.t 48) (.t 50) (.c (V.bool false))) 42 false,xg 52 (.pick (.t 42) (.c (V.bool true)) (.t 51)) 35 true,xo 53 (.pick (.t 35) (.t 52) (.c (V.bool false))),mv 4 31,mv 5 53]) .ret)))) def dy:List Q0:=[.tmp 4,.tmp 5]
def YW (Γ:Env) (f:Nat):Prop:=∀ (l:List Int) (x:Int) (hl:l.length < 2 ^ 34),EvN Γ f [.sl 1 (l.map V.int),V.int x] (.tup [V.int (bsI ltJ l x:Nat),V.bool (YO l (bsI ltJ l x) x)])
attribute [local go_sem] Y1 in
theorem K6 {Γ:Env} {f Qs Wl:Nat} (h:Has Γ.P f 54 (WE Qs Wl) dy) (z0:VC Γ Qs) (z1:UG Γ Wl):YW Γ f:=by
 intro l x hl
 refine Qc h zsi zcl zcl fun C hC hm=>?_
 subst hC
 unfold WE
 refine zgo ?_;repeat' first|exact zt|apply zan|intro hc
 refine QC (ι:=Nat×Nat×Nat) (fun q=>q.2.1≤q.2.2∧q.2.2≤l.length∧q.2.2 - q.2.1≤q.1∧apy ltJ l x q.1 q.2.1 q.2.2 = bsI ltJ l x) (fun q=>Y1 [(0,.sl 1 (l.map V.int)),(1,V.int x),(6,V.int l.length),(7,V.int q.2.1),(8,V.int q.2.2)] [] 0) (fun q=>q.2.2 - q.2.1) (l.length,0,l.length) ⟨zG _,zl _,by simp,rfl⟩ (Qi []) (Qv [] (by simp only [go_sem,zwl,zd]<;>exact zcc) zwa (by simp) (by simp) (by omega)) fun q hq K' hL=>?_
 obtain ⟨n,i,j⟩:=q
 simp only at hq hL ⊢
 obtain ⟨h1,h2,h3,h4⟩:=hq
 have hb:bsI ltJ l x≤l.length:=apb
 by_cases hij:i < j
 ·obtain ⟨n,rfl⟩:∃ m,n = m + 1:=⟨n - 1,by omega⟩
  have e1:decide ((i:Int) < (j:Int)) = true:=zn (by omega)
  have hh:=al0 (a:=i) (b:=j) (by omega)
  rw [apy,if_pos hij] at h4
  have r1:i≤(i + j) / 2:=by omega
  have r2:(i + j) / 2 < j:=by omega
  generalize (i + j) / 2 = r at *
  obtain ⟨y,hy⟩:∃ y,l[r]? = some y:=⟨_,zb (by omega)⟩
  rw [hy] at h4
  simp only at h4
  have p1:EvB C.env Qs [V.int y,V.int x] (V.bool (ltJ y x)) none:=(z0 y x).b
  have hwr:=Qq (k:=r) (by omega)
  rcases hlt:ltJ y x with _|_
  ·rw [hlt] at p1 h4
   rw [if_neg (by decide)] at h4
   (have zx:=za e1 (za hh (za hwr hy)));refine zgo ?_;repeat' first|exact zt|apply zan|intro hc
   all_goals exact hL _ (n,i,r) (Qi []) ⟨by simp only;omega,by simp only;omega,by simp only;omega,h4⟩ (by simp only;omega) (zwg [])
  ·rw [hlt] at p1 h4
   rw [if_pos rfl] at h4
   (have zx:=za e1 (za hh (za hwr hy)));refine zgo ?_;repeat' first|exact zt|apply zan|intro hc
   all_goals exact hL _ (n,r + 1,j) (Qi []) ⟨by simp only;omega,by simp only;omega,by simp only;omega,h4⟩ (by simp only;omega) (zwg [])
 ·have e1:decide ((i:Int) < (j:Int)) = false:=zv (by omega)
  have hbi:bsI ltJ l x = i:=by
   rw [← h4]
   rcases n with _|n
   ·rfl
   ·rw [apy,if_neg hij]
  rw [hbi]
  by_cases hil:i < l.length
  ·have e2:decide ((i:Int) < (l.length:Int)) = true:=zn (by omega)
   obtain ⟨y,hy⟩:∃ y,l[i]? = some y:=⟨_,zb hil⟩
   have hf:YO l i x = (y == x):=by simp only [YO,hy]
   have p2:=(z1 y).b
   rw [hf]
   rcases hyx:y == x with _|_
   ·(have zx:=za e1 (za e2 (za hyx hy)));exact zg
   ·(have zx:=za e1 (za e2 (za hyx hy)));exact zg
  ·have e2:decide ((i:Int) < (l.length:Int)) = false:=zv (by omega)
   have hf:YO l i x = false:=by rw [YO,zU (by omega)]
   rw [hf]
   (have zx:=za e1 e2);exact zg
def V4 (Γ:Env) (f:Nat):Prop:=((∀ (xs:List Int) (i:Nat) (x:Int),i≤xs.length→0 < xs.length→xs.length < 2 ^ 30→azo Γ f (V.int i) 1 (xs.map V.int) [V.int x] ((xs.take i++x :: xs.drop i).map V.int))∧(∀ x:Int,EvW Γ f [v8,V.int 0,.sl 1 [V.int x]] 1 [V.int x]))
def Wr (JR Xg:Nat):AC:=Qb [0,1] (.reg [xo 4 (.mknil 1)]) (Qb [0,1,5,6] (.reg [mv 8 0,mv 9 1,cl 10 JR [8,9],mv 7 10,ex 11 7 0,ex 12 7 1,mv 5 11,mv 6 12]) (Qb [0,1,5] (Qb [0,1,5,13] (.reg [mv 13 6]) (.cond (.t 13) (Qb [4] (.reg [mv 14 0,mv 4 14]) .ret) .skip)) (Qb [4] (.reg [mv 15 0,mv 16 5,mv 17 1,xo 18 (.bslice 1 1 false [vi0] [(0,(.t 17))]),cl 19 Xg [15,16,18],mv 4 19]) .ret))) def dz:List Q0:=[.tmp 4]
def Vc (Γ:Env) (f:Nat):Prop:=((∀ (xs:List Int) (x:Int),0 < xs.length→xs.length < 2 ^ 30→YO xs (bsI ltJ xs x) x = true→EvX Γ f [V.int x] 1 (xs.map V.int))∧(∀ (xs:List Int) (x:Int),0 < xs.length→xs.length < 2 ^ 30→YO xs (bsI ltJ xs x) x = false→EvI Γ f [V.int x] 1 (xs.map V.int) ((aiR ltJ xs x).map V.int))∧(∀ x:Int,EvW Γ f [v8,V.int x] 1 [V.int x]))
theorem acD {Γ:Env} {f JR Xg:Nat} (h:Has Γ.P f 20 (Wr JR Xg) dz) (z0:YW Γ JR) (z1:V4 Γ Xg):Vc Γ f:=by
 obtain ⟨hI,hW⟩:=z1
 refine ⟨fun xs x h0 hl hf=>?_,fun xs x h0 hl hf=>?_,fun x=>?_⟩
 ·refine xf h (by simp) fun C hC hm=>?_
  subst hC
  unfold Wr
  have hb:=(z0 xs x (by omega)).b
  rw [hf] at hb
  have ht:List.take (xs.map V.int).length (xs.map V.int) = xs.map V.int:=zJ
  (have zx:=ht);refine zgo ?_;repeat' first|exact zt|apply zan|intro hc
  all_goals first|(refine aoX _ rfl rfl rfl ?_;first|rfl|(simp;done))
 ·refine aku h (by simp) fun C hC hm=>?_
  subst hC
  unfold Wr
  have hb:=(z0 xs x (by omega)).b
  have hi:=hI xs (bsI ltJ xs x) x apb h0 hl
  rw [aiR,if_neg (by rw [hf];decide)]
  rw [hf] at hb
  have ht:List.take (xs.map V.int).length (xs.map V.int) = xs.map V.int:=zJ
  generalize bsI ltJ xs x = i at *
  repeat' (first|(refine zsk ?_;intro K' hK)|refine zsp ?_|(refine zsc ?_ ?_<;>intro hc<;>first|exact znh|try simp only [znz] at hc)|simp (maxSteps:=1000000) only [go_sem,ht]|(refine hK _ ?_;clear hK K')|apply zan|(apply apf;(focus exact rfl);(focus first|exact hi);(focus exact rfl);(focus exact rfl);(focus (first|exact rfl|(simp;done))))|(apply akN;(focus exact rfl);(focus exact rfl);(focus first|exact hi);(focus exact rfl);(focus (first|exact rfl|(simp;done)));(focus (first|exact rfl|(simp;done))))|(apply QR;(focus first|exact hb|exact (z0 _ _ zsd).b))|exact zsq|fail)
  all_goals first|(refine aw3 _ _ rfl ⟨_,rfl⟩ rfl (by omega) rfl ?_;first|rfl|(simp;done))
 ·refine UD h (by simp) (by intro y hy;rw [zq.1 hy];simp only [V.noSl]) fun C hC hm=>?_
  subst hC
  unfold Wr
  have hb:=(z0 [] x (by simp)).b
  have hw:=hW x
  simp only [zO] at hb
  have hb:=hb.le2 (LeV.nil 1) (LeV.refl _)
  refine zgo ?_;repeat' first|exact zt|apply zan|intro hc
  all_goals first|(refine acb (xs:=[V.int x]) _ _ rfl ?_ ?_<;>first|rfl|(simp;done))
structure Ji where
 num:Nat
 hosts:List (List UInt8)
 machs:List Int
 finds:List Nat
def mhd (a:Nat) (ms:List Int):V:=if ms = [] then v8 else .hd a 0 ms.length
def Ji.own (e:Ji) (a:Nat):V:=.agg [V.int e.num,.hd a 0 e.hosts.length,mhd (a + 1) e.machs,.hd (a + 2) 0 e.finds.length]
def q9:Nat→List Ji→List V
 | _,[]=>[]
 | n,e :: r=>e.own n :: q9 (n + 3) r
theorem UB:∀ (es:List Ji) (n:Nat),(q9 n es).length = es.length
 | [],_=>rfl
 | e :: r,n=>by simp only [q9,List.length_cons,UB r]
theorem Kl:∀ (es:List Ji) (n j:Nat),(q9 n es)[j]? = (es[j]?).map fun e=>e.own (n + 3 * j)
 | [],n,j=>by simp [q9]
 | e :: r,n,0=>by simp [q9]
 | e :: r,n,j + 1=>by
   simp only [q9,List.getElem?_cons_succ]
   rw [Kl r (n + 3) j,show n + 3 + 3 * j = n + 3 * (j + 1) by omega]
def mob (ms:List Int):Ob:=if ms = [] then .dead else .buf true 1 (ms.map V.int)
def ah3:List Ji→List Ob
 | []=>[]
 | e :: r=>.buf true 1 (e.hosts.map V.str) :: mob e.machs :: .buf true 1 (QF e.finds) :: ah3 r
theorem ae4:∀ es:List Ji,(ah3 es).length = 3 * es.length
 | []=>rfl
 | e :: r=>by simp only [ah3,List.length_cons,ae4 r];omega
theorem WX:∀ (es:List Ji) (j:Nat),(ah3 es)[3 * j]? = (es[j]?).map fun e=>.buf true 1 (e.hosts.map V.str)
 | [],j=>by simp [ah3]
 | e :: r,0=>by simp [ah3]
 | e :: r,j + 1=>by
   rw [show 3 * (j + 1) = 3 * j + 1 + 1 + 1 by omega]
   simp only [ah3,List.getElem?_cons_succ,WX r j]
theorem Ka:∀ (es:List Ji) (j:Nat),(ah3 es)[3 * j + 1]? = (es[j]?).map fun e=>mob e.machs
 | [],j=>by simp [ah3]
 | e :: r,0=>by simp [ah3]
 | e :: r,j + 1=>by
   rw [show 3 * (j + 1) + 1 = (3 * j + 1) + 1 + 1 + 1 by omega]
   simp only [ah3,List.getElem?_cons_succ,Ka r j]
theorem WW:∀ (es:List Ji) (j:Nat),(ah3 es)[3 * j + 2]? = (es[j]?).map fun e=>.buf true 1 (QF e.finds)
 | [],j=>by simp [ah3]
 | e :: r,0=>by simp [ah3]
 | e :: r,j + 1=>by
   rw [show 3 * (j + 1) + 2 = (3 * j + 2) + 1 + 1 + 1 by omega]
   simp only [ah3,List.getElem?_cons_succ,WW r j]
theorem aqR:∀ a b:List Ji,ah3 (a++b) = ah3 a++ah3 b
 | [],b=>rfl
 | e :: r,b=>by simp only [List.cons_append,ah3,aqR r b]
def ah4 (x:List Nat) (nm:Nat→Nat) (k:Nat):Nat:=match x[k]? with|some a=>a|none=>nm (k - x.length)
def eO (p K W:List Nat) (fx:List Ob) (es:List Ji):List Ob:=.box true (QF p) :: .map (QF K) (QF W) 0 :: .obuf true 4 (q9 (3 + fx.length) es) :: (fx++ah3 es)
theorem akz (p K W:List Nat) (fx:List Ob) (es:List Ji):(eO p K W fx es).length = 3 + fx.length + 3 * es.length:=by
 simp only [eO,List.length_cons,zp,ae4];omega
theorem adb (p K W:List Nat) (fx:List Ob) (es:List Ji) (q:Nat):(eO p K W fx es)[3 + fx.length + q]? = (ah3 es)[q]?:=by
 rw [show 3 + fx.length + q = fx.length + q + 1 + 1 + 1 by omega]
 simp only [eO,List.getElem?_cons_succ]
 rw [zK (by omega)];congr 1;omega
theorem axE (τ:Nat→Nat) (a:Nat) (ms:List Int):(mhd a ms).ren τ = mhd (τ a) ms:=by
 unfold mhd;split<;>rfl
theorem ayK {a n:Nat} (ms:List Int) (h:a < n):(mhd a ms).lt n:=by
 unfold mhd;split
 ·simp only [V.lt]
 ·exact h
theorem aq1 {τ:Nat→Nat}:∀ (es:List Ji) (n j:Nat),(K3 τ (q9 n es))[j]? = (es[j]?).map fun e=>.agg [V.int (e.num:Nat),.hd (τ (n + 3 * j)) 0 e.hosts.length,mhd (τ (n + 3 * j + 1)) e.machs,.hd (τ (n + 3 * j + 2)) 0 e.finds.length]
 | [],n,j=>by simp [q9,K3]
 | e :: r,n,0=>by simp [q9,K3,Ji.own,V.ren,axE]
 | e :: r,n,j + 1=>by
   simp only [q9,K3,List.getElem?_cons_succ]
   rw [aq1 r (n + 3) j,show n + 3 + 3 * j = n + 3 * (j + 1) by omega]
theorem atD:∀ (es:List Ji) (n m:Nat),n + 3 * es.length≤m→ltL m (q9 n es)
 | [],_,_,_=>trivial
 | e :: r,n,m,h=>by
   simp only [List.length_cons] at h
   refine ⟨⟨trivial,?_,ayK _ (by omega),?_,trivial⟩,atD r (n + 3) m (by omega)⟩
   ·show n < m;omega
   ·show n + 2 < m;omega
theorem wb {x:List Nat} {nm:Nat→Nat} {k:Nat} (h:x.length≤k):ah4 x nm k = nm (k - x.length):=by
 rw [ah4,zU h]
theorem afM {x:List Nat} {nm:Nat→Nat} {k:Nat} (h:k < x.length):ah4 x nm k = x[k]:=by
 rw [ah4,zb h]
theorem afL {x:List Nat} {nm:Nat→Nat} {k:Nat} (h:k < x.length):ah4 x nm k = x.getD k 0:=by
 rw [afM h,zB,zb h];rfl
theorem ar9 {p:List Nat} {τ:Nat→Nat} {n:Nat} {c:Bool}:(Ob.box c (QF p)).weak τ n (.box c (QF p)):=⟨id,(QB _ _).symm,QT _ _⟩
theorem aqK {s:St} {ts:List (Nat×V)} {p K W:List Nat} {fx:List Ob} {es:List Ji} {n:Nat} (hnn:3 + fx.length + 3 * es.length≤n) (x:List Nat) (nm:Nat→Nat) (els:List V) (hx:x.length = 3 + fx.length)
  (ht:∀ q∈ts,s.t q.1 = q.2.ren (ah4 x nm)∧q.2.lt n)
  (h0:s.o (x.getD 0 0) = some (.box true (QF p))) (h1:s.o (x.getD 1 0) = some (.map (QF K) (QF W) 0)) (h2:s.o (x.getD 2 0) = some (.obuf true 4 els)∨(es = []∧s.o (x.getD 2 0) = some (.buf true 4 [])))
  (hfx:∀ k y,fx[k]? = some y→∃ z,s.o (x.getD (3 + k) 0) = some z∧z.weak (ah4 x nm) n y)
  (hel:∀ j:Nat,els[j]? = (es[j]?).map fun e=>.agg [V.int e.num,.hd (nm (3 * j)) 0 e.hosts.length,mhd (nm (3 * j + 1)) e.machs,.hd (nm (3 * j + 2)) 0 e.finds.length])
  (hr:∀ (j:Nat) (e:Ji),es[j]? = some e→s.o (nm (3 * j)) = some (.buf true 1 (e.hosts.map V.str))∧(∃ y,s.o (nm (3 * j + 1)) = some y∧(e.machs≠[]→y = .buf true 1 (e.machs.map V.int)))∧s.o (nm (3 * j + 2)) = some (.buf true 1 (QF e.finds)))
  (hn:x.Nodup) (hnx:∀ q,q < 3 * es.length→nm q ∉ x) (hni:∀ a b,a < 3 * es.length→b < 3 * es.length→nm a = nm b→a = b):arU 0 (ah4 x nm) s { t:=xb ts,o:=fun k=>(eO p K W fx es)[k]?,n:=n }:=by
 have hxl:3≤x.length:=by omega
 refine ⟨fun i=>?_,fun a y hy=>?_,fun a b ha hb hab=>?_,fun k hk=>absurd hk (Za _),zG _⟩
 ·rcases afS ts i with h|h
  ·exact .inl h
  ·right;exact ht _ h
 ·have hy:(eO p K W fx es)[a]? = some y:=hy
  obtain ⟨ha,_⟩:=zh.1 hy
  rw [akz] at ha
  refine ⟨by show a < n;omega,?_⟩
  match a,ha,hy with
  | 0,_,hy =>
    rw [afL (by omega)]
    simp only [eO,List.getElem?_cons_zero,zf] at hy
    subst hy
    exact ⟨_,h0,ar9⟩
  | 1,_,hy =>
    rw [afL (by omega)]
    simp only [eO,List.getElem?_cons_succ,List.getElem?_cons_zero,zf] at hy
    subst hy
    exact ⟨_,h1,rfl,rfl,(QB _ _).symm,QT _ _⟩
  | 2,_,hy =>
    rw [afL (by omega)]
    simp only [eO,List.getElem?_cons_succ,List.getElem?_cons_zero,zf] at hy
    subst hy
    rcases h2.symm with ⟨he0,h2'⟩|h2'
    ·subst he0;exact ⟨_,h2',id,rfl,rfl⟩
    refine ⟨_,h2',id,rfl,?_,atD _ _ _ (by show _≤n;omega)⟩
    apply Zp
    intro j
    rw [hel,aq1]
    cases es[j]? with
    | none=>rfl
    | some e =>
      simp only [Option.map_some]
      rw [wb (by omega),wb (by omega),wb (by omega),hx]
      rw [show 3 + fx.length + 3 * j - (3 + fx.length) = 3 * j by omega,show 3 + fx.length + 3 * j + 1 - (3 + fx.length) = 3 * j + 1 by omega,show 3 + fx.length + 3 * j + 2 - (3 + fx.length) = 3 * j + 2 by omega]
  | a + 3,ha,hy =>
    by_cases hfa:a < fx.length
    ·rw [afL (by omega),show a + 3 = 3 + a by omega]
     simp only [eO,List.getElem?_cons_succ] at hy
     rw [zS hfa] at hy
     exact hfx a y hy
    ·obtain ⟨q,rfl⟩:∃ q,a = fx.length + q:=⟨a - fx.length,by omega⟩
     rw [show fx.length + q + 3 = 3 + fx.length + q by omega] at hy ⊢
     rw [adb] at hy
     rw [wb (by omega),hx,show 3 + fx.length + q - (3 + fx.length) = q by omega]
     obtain ⟨j,hq⟩:∃ j,q = 3 * j∨q = 3 * j + 1∨q = 3 * j + 2:=⟨q / 3,by omega⟩
     rcases hq with rfl|rfl|rfl
     ·rw [WX] at hy
      simp only [zk] at hy
      obtain ⟨e,he,rfl⟩:=hy
      exact ⟨_,(hr j e he).1,id,rfl,rfl⟩
     ·rw [Ka] at hy
      simp only [zk] at hy
      obtain ⟨e,he,rfl⟩:=hy
      obtain ⟨y,hy1,hy2⟩:=(hr j e he).2.1
      refine ⟨y,hy1,?_⟩
      unfold mob
      split
      ·cases y<;>trivial
      ·rename_i hne
       rw [hy2 hne]
       exact ⟨id,rfl,rfl⟩
     ·rw [WW] at hy
      simp only [zk] at hy
      obtain ⟨e,he,rfl⟩:=hy
      exact ⟨_,(hr j e he).2.2,id,rfl,rfl⟩
 ·have la:a < 3 + fx.length + 3 * es.length:=by
   rw [← akz p K W fx es]
   exact Nat.lt_of_not_le fun h=>ha (zU h)
  have lb:b < 3 + fx.length + 3 * es.length:=by
   rw [← akz p K W fx es]
   exact Nat.lt_of_not_le fun h=>hb (zU h)
  by_cases h1:a < x.length<;>by_cases h2:b < x.length
  ·rw [afM h1,afM h2] at hab
   exact (List.getElem_inj hn).1 hab
  ·rw [afM h1,wb (by omega)] at hab
   exact (hnx (b - x.length) (by omega) (hab ▸ zT h1)).elim
  ·rw [afM h2,wb (by omega)] at hab
   exact (hnx (a - x.length) (by omega) (hab.symm ▸ zT h2)).elim
  ·rw [wb (by omega),wb (by omega)] at hab
   have:=hni _ _ (by omega) (by omega) hab
   omega
def amO (k:Nat):List Nat→Nat→Option Nat
 | [],_=>none
 | e :: r,i=>if k = e then some i else amO k r (i + 1)
theorem aea (k:Nat):∀ (ks:List Nat) (i:Nat),wu false [0] (V.int (k:Int)) (QF ks) i = some (amO k ks i)
 | [],_=>rfl
 | e :: r,i=>by
   have h:xh false [0] (V.int (k:Int)) (V.int (e:Int)) = some ((k:Int) == (e:Int)):=by simp [xh,Yf]
   rw [QF,zI,wu,h]
   by_cases hk:k = e
   ·subst hk;simp [amO]
   ·have:((k:Int) == (e:Int)) = false:=by simp;omega
    rw [this];simp only [amO,if_neg hk]
    exact aea k r (i + 1)
theorem ap6 {k:Nat}:∀ {ks:List Nat} {i a:Nat},amO k ks i = some a→i≤a∧a < i + ks.length∧ks[a - i]? = some k
 | [],_,_,h=>by cases h
 | e :: r,i,a,h=>by
   rw [amO] at h
   split at h
   ·rename_i he;cases h;subst he;simp
   ·have:=ap6 h
    simp only [List.length_cons]
    refine ⟨by omega,by omega,?_⟩
    rw [show a - i = (a - (i + 1)) + 1 by omega,List.getElem?_cons_succ]
    exact this.2.2
theorem ard {k:Nat}:∀ {ks:List Nat} {i a:Nat} (r:List Nat),amO k ks i = some a→amO k (ks++r) i = some a
 | [],_,_,_,h=>by cases h
 | e :: t,i,a,r,h=>by
   rw [amO] at h
   rw [List.cons_append,amO]
   split at h
   ·rename_i he;rw [if_pos he];exact h
   ·rename_i he;rw [if_neg he];exact ard r h
theorem amN {k:Nat}:∀ {ks:List Nat} {i:Nat},(∀ x∈ks,x≠k)→amO k (ks++[k]) i = some (i + ks.length)
 | [],i,_=>by simp [amO]
 | e :: t,i,h=>by
   have h1:=h e (kL ..)
   rw [List.cons_append,amO,if_neg (fun x=>h1 x.symm),amN fun x hx=>h x (kJ _ hx),List.length_cons]
   congr 1;omega
theorem aou {k:Nat}:∀ {ks:List Nat} {i:Nat},(∀ x∈ks,x≠k)→amO k ks i = none
 | [],i,_=>rfl
 | e :: t,i,h=>by
   rw [amO,if_neg (fun x=>h e (kL ..) x.symm)]
   exact aou fun x hx=>h x (kJ _ hx)
theorem yC {p:List Nat} (h:PW p):∀ i,QA p (QA p i) = QA p i:=by
 intro i
 induction i using Nat.strongRecOn with
 | _ i ih =>
   rcases e:p[i]? with _|j
   ·have:QA p i = i:=by rw [QA,ajH,e]
    rw [this,this]
   ·rw [US h e]
    have:=h.le i j e
    split
    ·rename_i hj;rw [US h e,if_pos hj]
    ·exact ih j (by omega)
def Jj (i:Nat) (f:Qa) (e:Ji):Ji:={ e with hosts:=aiR Op.bytesLess e.hosts f.host,finds:=e.finds++[i] }
def Vl (i:Nat) (f:Qa) (e:Ji):Ji:={ Jj i f e with machs:=if f.mach = 0 then e.machs else aiR ltJ e.machs f.mach }
def anc (p:List Nat) (es:List Ji) (i:Nat) (f:Qa):List Ji :=
 if QA p i = i then es++[Vl i f ⟨i,[],[],[]⟩] else
 match amO (QA p i) (es.map Ji.num) 0 with
 | some a=>(match es[a]? with|some e=>es.set a (Vl i f e)|none=>es)
 | none=>es
def Wv (l:List Qa) (p:List Nat):Nat→List Ji
 | 0=>[]
 | k + 1=>match l[k]? with
   | some f=>anc p (Wv l p k) k f
   | none=>Wv l p k
def Y4 (l:List Qa) (gap:Int):List Ji:=Wv l (afX l gap) l.length
structure ESz (k:Nat) (e:Ji):Prop where
 num:e.num < k
 h0:0 < e.hosts.length
 h1:e.hosts.length≤k
 f0:0 < e.finds.length
 f1:e.finds.length≤k
 m1:e.machs.length≤k
 fl:∀ i∈e.finds,i < k
structure EI (p:List Nat) (k:Nat) (es:List Ji):Prop where
 sz:∀ e∈es,ESz k e
 len:es.length≤k
 has:∀ j,j < k→QA p j = j→∃ a,amO j (es.map Ji.num) 0 = some a
theorem ahj {α:Type} [BEq α] {lt:α→α→Bool} (l:List α) (x:α):(aiR lt l x).length≤l.length + 1∧0 < (aiR lt l x).length:=by
 unfold aiR
 split
 ·rename_i h
  refine ⟨by omega,?_⟩
  unfold YO at h
  split at h
  ·rename_i y hy
   have:=(zh.1 hy).1
   omega
  ·cases h
 ·have:=apb (lt:=lt) (l:=l) (x:=x)
  simp only [zp,List.length_cons,zM,zZ]
  omega
theorem ajp {α:Type} [BEq α] {lt:α→α→Bool} (x:α):aiR lt [] x = [x]:=by
 simp [aiR,YO,bsI,apy]
theorem ESz.upd {k:Nat} {e:Ji} {f:Qa} (h:ESz k e):ESz (k + 1) (Vl k f e):=by
 obtain ⟨a1,a2,a3,a4,a5,a6,a7⟩:=h
 have g1:=ahj (lt:=Op.bytesLess) e.hosts f.host
 have g2:=ahj (lt:=ltJ) e.machs f.mach
 refine ⟨by simp only [Vl,Jj];omega,by simp only [Vl,Jj];omega,by simp only [Vl,Jj];omega,by simp only [Vl,Jj,zp,List.length_singleton];omega,by simp only [Vl,Jj,zp,List.length_singleton];omega,?_,fun i hi=>?_⟩
 ·simp only [Vl,Jj];split<;>omega
 ·simp only [Vl,Jj,zW,zq] at hi
  rcases hi with hi|hi
  ·have:=a7 i hi;omega
  ·omega
theorem ESz.new {k:Nat} {f:Qa}:ESz (k + 1) (Vl k f ⟨k,[],[],[]⟩):=by
 have g1:=ahj (lt:=Op.bytesLess) [] f.host
 have g2:=ahj (lt:=ltJ) [] f.mach
 simp only [List.length_nil] at g1 g2
 refine ⟨by simp only [Vl,Jj];omega,by simp only [Vl,Jj];omega,by simp only [Vl,Jj];omega,by simp [Vl,Jj],by simp [Vl,Jj],?_,fun i hi=>?_⟩
 ·simp only [Vl,Jj];split
  ·simp
  ·omega
 ·simp only [Vl,Jj,List.nil_append,zq] at hi;omega
theorem ESz.mono {k:Nat} {e:Ji} (h:ESz k e):ESz (k + 1) e:=⟨bl h.num,h.h0,Zr h.h1,h.f0,Zr h.f1,Zr h.m1,fun i hi=>bl (h.fl i hi)⟩
theorem EI.find {p:List Nat} {k:Nat} {es:List Ji} (hp:PW p) (h:EI p k es) (hk:QA p k≠k):∃ a e,amO (QA p k) (es.map Ji.num) 0 = some a∧es[a]? = some e∧e.num = QA p k:=by
 have h1:=x9 hp k
 obtain ⟨a,ha⟩:=h.has _ (by omega) (yC hp k)
 obtain ⟨_,h2,h3⟩:=ap6 ha
 rw [Nat.sub_zero,zi,zk] at h3
 obtain ⟨e,he,hn⟩:=h3
 exact ⟨a,e,ha,he,hn⟩
theorem w9 {es:List Ji} {a:Nat} {e e1:Ji} (h:es[a]? = some e) (hn:e1.num = e.num):(es.set a e1).map Ji.num = es.map Ji.num:=by
 rw [Zv]
 apply Zp
 intro j
 rw [zY]
 split
 ·rename_i hj;subst hj
  rw [zd,if_pos (zh.1 h).1,zi,h,hn];rfl
 ·rfl
theorem EI.step {p:List Nat} {k:Nat} {es:List Ji} {f:Qa} (hp:PW p) (h:EI p k es):EI p (k + 1) (anc p es k f):=by
 obtain ⟨s1,s2,s3⟩:=h
 by_cases hk:QA p k = k
 ·rw [anc,if_pos hk]
  refine ⟨fun e he=>?_,by rw [zp,List.length_singleton];omega,fun j hj hjr=>?_⟩
  ·rcases zW.1 he with he|he
   ·exact (s1 e he).mono
   ·rw [zq.1 he];exact ESz.new
  ·rw [kN]
   rcases Nat.lt_or_eq_of_le (Nat.le_of_lt_succ hj) with hj|rfl
   ·obtain ⟨a,ha⟩:=s3 j hj hjr
    exact ⟨a,ard _ ha⟩
   ·refine ⟨_,amN fun x hx=>?_⟩
    obtain ⟨e,he,rfl⟩:=zE.1 hx
    have:=(s1 e he).num
    omega
 ·obtain ⟨a,e,ha,he,hn⟩:=EI.find hp ⟨s1,s2,s3⟩ hk
  rw [anc,if_neg hk,ha]
  simp only [he]
  have hm:(es.set a (Vl k f e)).map Ji.num = es.map Ji.num:=by
   rw [Zv]
   apply Zp
   intro j
   rw [zY]
   split
   ·rename_i hj;subst hj
    rw [zd,if_pos (zh.1 he).1,zi,he];rfl
   ·rfl
  refine ⟨fun y hy=>?_,by rw [zN];omega,fun j hj hjr=>?_⟩
  ·rcases Z5 hy with hy|rfl
   ·exact (s1 y hy).mono
   ·exact (s1 e (zm he)).upd
  ·rw [hm]
   rcases Nat.lt_or_eq_of_le (Nat.le_of_lt_succ hj) with hj|rfl
   ·exact s3 j hj hjr
   ·exact (hk hjr).elim
theorem aaD {l:List Qa} {p:List Nat} (hp:PW p):∀ k,k≤l.length→EI p k (Wv l p k)
 | 0,_=>⟨by simp [Wv],zl _,fun j hj=>absurd hj (Za _)⟩
 | k + 1,hk=>by
   have ih:=aaD (l:=l) hp k (by omega)
   rw [Wv,zb (by omega)]
   exact ih.step hp
theorem akx {l:List Qa} {p:List Nat} {k:Nat} {f:Qa} (h:l[k]? = some f):Wv l p (k + 1) = anc p (Wv l p k) k f:=by rw [Wv,h]
def Ji.v (e:Ji):V:=.agg [V.int e.num,.sl 1 (e.hosts.map V.str),.sl 1 (e.machs.map V.int),.sl 1 (QF e.finds)]
section
variable {C:Ctx} {nt:Nat} {s:St} {K:St→Prop} {E:Nat→St→Prop} {R:St→Prop}
theorem arO {x:AC} {ι:Type} (good:ι→Prop) (mid:ι→St) (pre:St→St) (h:∀ K':St→Prop,(∀ s' i τ,good i→arU C.m τ (pre s') (mid i)→K' s')→AWp C nt x s K' E R) (h':∀ i,good i→∀ s' τ,arU C.m τ (pre s') (mid i)→K s'):AWp C nt x s K E R:=h K fun s' i τ g w=>h' i g s' τ w
end
def aep (f:Qa) (e:Ji):Ji:={ e with machs:=if f.mach = 0 then e.machs else aiR ltJ e.machs f.mach }
def az3 (l:List Qa) (p:List Nat) (k:Nat) (f:Qa) (q:List Ji×Nat×Ji):Prop:=q.1[q.2.1]? = some q.2.2∧q.1.set q.2.1 (aep f q.2.2) = Wv l p (k + 1)∧q.1.length≤400∧q.2.2.machs.length≤400
def nmS (N a H M F q:Nat):Nat:=if q = 3 * a then H else if q = 3 * a + 1 then M else if q = 3 * a + 2 then F else N + q
theorem aj0 {s:St} {ts:List (Nat×V)} {p K W:List Nat} {fx:List Ob} {es0 es1:List Ji} {e1:Ji} {N a H M F:Nat} {els:List V} (x:List Nat) (hes:es1 = es0.set a e1) (hx:x.length = 3 + fx.length) (ha:a < es0.length) (hlen:es0.length≤400)
  (ht:∀ q∈ts,s.t q.1 = q.2.ren (ah4 x (nmS N a H M F))∧q.2.lt 2000) (hfl:fx.length≤1)
  (h0:s.o (x.getD 0 0) = some (.box true (QF p))) (h1:s.o (x.getD 1 0) = some (.map (QF K) (QF W) 0)) (h2:s.o (x.getD 2 0) = some (.obuf true 4 els))
  (hfx:∀ k y,fx[k]? = some y→∃ z,s.o (x.getD (3 + k) 0) = some z∧z.weak (ah4 x (nmS N a H M F)) 2000 y)
  (hels:∀ j,els[j]? = if j = a then some (.agg [V.int e1.num,.hd H 0 e1.hosts.length,mhd M e1.machs,.hd F 0 e1.finds.length]) else (q9 N es0)[j]?)
  (hfar:∀ q y,q < 3 * es0.length→q / 3≠a→(ah3 es0)[q]? = some y→s.o (N + q) = some y)
  (hH:s.o H = some (.buf true 1 (e1.hosts.map V.str))) (hM:∃ y,s.o M = some y∧(e1.machs≠[]→y = .buf true 1 (e1.machs.map V.int))) (hF:s.o F = some (.buf true 1 (QF e1.finds)))
  (hn:x.Nodup) (hxn:∀ q,q < 3 * es0.length→N + q ∉ x) (hHx:H ∉ x∧M ∉ x∧F ∉ x) (hd:H≠M∧H≠F∧M≠F)
  (hHN:H = N + 3 * a∨H < N∨N + 3 * es0.length≤H) (hMN:M = N + (3 * a + 1)∨M < N∨N + 3 * es0.length≤M) (hFN:F = N + (3 * a + 2)∨F < N∨N + 3 * es0.length≤F) :
  arU 0 (ah4 x (nmS N a H M F)) s { t:=xb ts,o:=fun k=>(eO p K W fx es1)[k]?,n:=2000 }:=by
 subst hes
 have a0:nmS N a H M F (3 * a) = H:=by rw [nmS,if_pos rfl]
 have a1:nmS N a H M F (3 * a + 1) = M:=by rw [nmS,if_neg (by omega),if_pos rfl]
 have a2:nmS N a H M F (3 * a + 2) = F:=by rw [nmS,if_neg (by omega),if_neg (by omega),if_pos rfl]
 have a3:∀ q,q / 3≠a→nmS N a H M F q = N + q:=fun q hq=>by rw [nmS,if_neg (by omega),if_neg (by omega),if_neg (by omega)]
 have b1:∀ q,q / 3 = a→(q = 3 * a∨q = 3 * a + 1∨q = 3 * a + 2):=fun q hq=>by omega
 have gt:∀ j,(es0.set a e1)[j]? = if j = a then some e1 else es0[j]?:=fun j=>by
  rw [zY]
  by_cases hj:a = j
  ·subst hj;rw [if_pos rfl,if_pos ha,if_pos rfl]
  ·rw [if_neg hj,if_neg (fun e=>hj e.symm)]
 refine aqK (n:=2000) (by rw [zN];omega) x _ els hx ht h0 h1 (.inl h2) hfx (fun j=>?_) (fun j e he=>?_) hn (fun q hq=>?_) (fun c d hc hd' hcd=>?_)
 ·rw [hels,gt]
  by_cases hj:j = a
  ·subst hj;rw [if_pos rfl,if_pos rfl,a0,a1,a2];rfl
  ·rw [if_neg hj,if_neg hj,Kl,a3 _ (by omega),a3 _ (by omega),a3 _ (by omega)]
   cases es0[j]? with
   | none=>rfl
   | some e=>simp only [Option.map_some,Ji.own,kK]
 ·rw [gt] at he
  by_cases hj:j = a
  ·subst hj
   rw [if_pos rfl] at he;cases he
   rw [a0,a1,a2]
   exact ⟨hH,hM,hF⟩
  ·rw [if_neg hj] at he
   have hjl:=(zh.1 he).1
   rw [a3 _ (by omega),a3 _ (by omega),a3 _ (by omega)]
   refine ⟨hfar _ _ (by omega) (by omega) (by rw [WX,he];rfl),⟨mob e.machs,hfar _ _ (by omega) (by omega) (by rw [Ka,he];rfl),fun hne=>by rw [mob,if_neg hne]⟩,hfar _ _ (by omega) (by omega) (by rw [WW,he];rfl)⟩
 ·rw [zN] at hq
  by_cases hqa:q / 3 = a
  ·rcases b1 q hqa with rfl|rfl|rfl
   ·rw [a0];exact hHx.1
   ·rw [a1];exact hHx.2.1
   ·rw [a2];exact hHx.2.2
  ·rw [a3 q hqa];exact hxn q hq
 ·rw [zN] at hc hd'
  obtain ⟨d1,d2,d3⟩:=hd
  by_cases hca:c / 3 = a<;>by_cases hda:d / 3 = a
  ·rcases b1 c hca with rfl|rfl|rfl<;>rcases b1 d hda with rfl|rfl|rfl<;>simp only [a0,a1,a2] at hcd<;>omega
  ·rw [a3 d hda] at hcd
   rcases b1 c hca with rfl|rfl|rfl<;>simp only [a0,a1,a2] at hcd<;>omega
  ·rw [a3 c hca] at hcd
   rcases b1 d hda with rfl|rfl|rfl<;>simp only [a0,a1,a2] at hcd<;>omega
  ·rw [a3 c hca,a3 d hda] at hcd;omega
def av9 (l:List Qa) (gap:Int):V:=if YS l gap = 0 then .tup [.sl 4 ((Y4 l gap).map Ji.v),V.int 0] else .tup [.sl 4 [],V.int (YS l gap)]
def eTs (l:List Qa) (n k:Nat):List (Nat×V):=[(7,.ptr 0 0),(8,.hd 2 0 n),(9,.mp 1),(24,.sl 11 (l.map Qa.v)),(25,V.int l.length),(26,V.int k)]
def eSt (l:List Qa) (p:List Nat) (es:List Ji) (k:Nat):St:={ t:=xb (eTs l es.length k),o:=fun a=>(eO p (es.map Ji.num) (List.range es.length) [] es)[a]?,n:=2000 }
def mTs (l:List Qa) (n a k:Nat):List (Nat×V):=[(7,.ptr 0 0),(8,.hd 2 0 n),(9,.mp 1),(11,.ptr 3 0),(13,.ept 2 a 0),(24,.sl 11 (l.map Qa.v)),(25,V.int l.length),(26,V.int k)]
def mSt (l:List Qa) (p:List Nat) (es:List Ji) (f:Qa) (a k:Nat):St:={ t:=xb (mTs l es.length a k),o:=fun x=>(eO p (es.map Ji.num) (List.range es.length) [.box true f.cells] es)[x]?,n:=2000 }
theorem aeF (n:Nat):QF (List.range n)++[V.int (n:Int)] = QF (List.range (n + 1)):=by rw [yK,ZM]
theorem aq0 {o:Nat→Option Ob}:∀ (es:List Ji) (n:Nat),(∀ q y,(ah3 es)[q]? = some y→o (n + q) = some y)→Jn o [] none (q9 n es) (es.map Ji.v)
 | [],_,_=>trivial
 | e :: r,n,h=>by
   have h0:=h 0 _ rfl
   have h1:=h 1 _ rfl
   have h2:=h 2 _ rfl
   refine ⟨⟨rfl,?_,?_,?_,trivial⟩,aq0 r (n + 3) fun q y hq=>?_⟩
   ·rw [asF];exact ⟨trivial,by simp,.inl ⟨true,_,h0,by rw [kr,zj (by simp)]⟩⟩
   ·unfold mhd
    split
    ·rename_i hm;rw [hm];rfl
    ·rename_i hm
     rw [mob,if_neg hm] at h1
     rw [asF];exact ⟨trivial,by simp,.inl ⟨true,_,h1,by rw [kr,zj (by simp)]⟩⟩
   ·rw [asF];exact ⟨trivial,by simp,.inl ⟨true,_,h2,by rw [kr,zj (by rw [JF];exact zl _)]⟩⟩
   ·rw [show n + 3 + q = n + (q + 1 + 1 + 1) by omega]
    exact h (q + 1 + 1 + 1) y (by simpa [ah3] using hq)
theorem auC:∀ es:List Ji,ntL (es.map Ji.v)
 | []=>trivial
 | e :: r=>⟨by simp [Ji.v],auC r⟩
theorem aic:∀ es:List Ji,Qh (es.map Ji.v)
 | []=>trivial
 | e :: r=>⟨by simp only [Ji.v,V.closed,Qh,and_self],aic r⟩
theorem at6 {t:Nat→V} {l:List Qa} {n a k:Nat} {τ:Nat→Nat} (h7:t 7 = .ptr (τ 0) 0) (h8:t 8 = .hd (τ 2) 0 n) (h9:t 9 = .mp (τ 1)) (h11:t 11 = .ptr (τ 3) 0) (h13:t 13 = .ept (τ 2) a 0) (h24:t 24 = .sl 11 (l.map Qa.v)) (h25:t 25 = V.int l.length) (h26:t 26 = V.int k):∀ q∈mTs l n a k,t q.1 = q.2.ren τ∧q.2.lt 2000:=by
 intro q hq
 simp only [mTs,zy,zC,or_false] at hq
 rcases hq with rfl|rfl|rfl|rfl|rfl|rfl|rfl|rfl
 ·exact ⟨h7,by show 0 < 2000;omega⟩
 ·exact ⟨h8,by show 2 < 2000;omega⟩
 ·exact ⟨h9,by show 1 < 2000;omega⟩
 ·exact ⟨h11,by show 3 < 2000;omega⟩
 ·exact ⟨h13,by show 2 < 2000;omega⟩
 ·exact ⟨h24,trivial⟩
 ·exact ⟨h25,trivial⟩
 ·exact ⟨h26,trivial⟩
theorem aif {t:Nat→V} {l:List Qa} {n k:Nat} {τ:Nat→Nat} (h7:t 7 = .ptr (τ 0) 0) (h8:t 8 = .hd (τ 2) 0 n) (h9:t 9 = .mp (τ 1)) (h24:t 24 = .sl 11 (l.map Qa.v)) (h25:t 25 = V.int l.length) (h26:t 26 = V.int k):∀ q∈eTs l n k,t q.1 = q.2.ren τ∧q.2.lt 2000:=by
 intro q hq
 simp only [eTs,zy,zC,or_false] at hq
 rcases hq with rfl|rfl|rfl|rfl|rfl|rfl
 ·exact ⟨h7,by show 0 < 2000;omega⟩
 ·exact ⟨h8,by show 2 < 2000;omega⟩
 ·exact ⟨h9,by show 1 < 2000;omega⟩
 ·exact ⟨h24,trivial⟩
 ·exact ⟨h25,trivial⟩
 ·exact ⟨h26,trivial⟩
theorem axK {o:Nat→Option Ob} {f:Qa} {τ:Nat→Nat} {n x3:Nat} {x:List Nat} (hx:x.getD 3 0 = x3) (h:o x3 = some (.box true f.cells)):∀ k y,[Ob.box true f.cells][k]? = some y→∃ z,o (x.getD (3 + k) 0) = some z∧z.weak τ n y:=by
 intro k y hy
 match k,hy with
 | 0,hy =>
   simp only [List.getElem?_cons_zero,zf] at hy
   subst hy
   rw [hx]
   exact ⟨_,h,id,(J7 _ _ (by simp only [Qa.cells,V.closed,Qh,and_self])).symm,WD _ _ (by simp only [Qa.cells,V.closed,Qh,and_self])⟩
@[go_sem] def UQ:AO:=xo 66 (.append 1 8 [vi0] (.t 63) (.t 65))
def jb (Qe:Nat):List AO:=[mv 51 13,mv 52 13,mv 53 13,nk 54 53,fa 55 1 54,ld 56 1 55,fa 57 1 11,ld 58 1 57,cl 59 Qe [56,58],mv 60 13,nk 61 60,fa 62 3 61,ld 63 1 62,mv 64 10,xo 65 (.bslice 1 1 false [vi0] [(0,(.t 64))]),UQ,nk 67 51,fa 68 1 67,xs 1 68 59,nk 69 52,fa 70 3 69,xs 1 70 66]
def jm:List (List Nat):=[[],[],[],[2],[3],[4],[],[6],[5,7],[],[9],[10],[11],[],[13],[12,14,8],[0,0,2,3,4,5,6,7,8,12,15],[16,0,2,3,4,5,6,7,8,12,15],[17,8,15,0,2,3,4,5,6,7,8,12,15],[1,0,1,2,3,4,5,6,7,8,9,10,11,12,13,14,15,16,17,18],[19,0,1,2,3,4,5,6,7,8,9,10,11,12,13,14,15,16,17,18],[20,15,18,0,1,2,3,4,5,6,7,8,9,10,11,12,13,14,15,16,17,18]]
def JO:OT:=.one 15 (.one 16 (.one 17 (.one 18 (.one 19 (.one 20 (.one 21 .done))))))
def U8:OT:=.or 8 (.one 12 JO) (.or 12 (.one 8 JO) .done)
def qU:OT:=.one 0 (.one 1 (.one 2 (.one 3 (.one 4 (.one 6 (.one 9 (.one 10 (.one 11 (.one 13 (.one 14 (.or 5 (.or 7 U8 (.or 12 (.one 7 (.one 8 JO)) .done)) (.or 7 (.or 5 U8 (.or 12 (.one 5 (.one 8 JO)) .done)) (.or 12 (.or 5 (.one 7 (.one 8 JO)) (.or 7 (.one 5 (.one 8 JO)) .done)) .done)))))))))))))
@[go_sem] def Kg (Qe:Nat):OP:=.one 15 true [14] UQ (oN 16 (nk 67 51) (oN 17 (fa 68 1 67) (.one 18 true [8] (xs 1 68 59) (oN 19 (nk 69 52) (oN 20 (fa 70 3 69) (.one 21 true [15,14] (xs 1 70 66) .done))))))
@[go_sem] def WM (Qe:Nat):OP:=.one 8 true [] (cl 59 Qe [56,58]) (Kg Qe)
@[go_sem] def Kf (Qe:Nat):OP:=.or 8 true [] (cl 59 Qe [56,58]) (.one 12 true [] (ld 63 1 62) (Kg Qe)) (.or 12 true [] (ld 63 1 62) (WM Qe) .done)
@[go_sem] def Ke (Qe:Nat):OP:=.one 7 true [] (ld 58 1 57) (WM Qe)
@[go_sem] def Kd (Qe:Nat):OP:=.one 5 true [] (ld 56 1 55) (WM Qe)
@[go_sem] def qZ (Qe:Nat):OP:=oN 0 (mv 51 13) (oN 1 (mv 52 13) (oN 2 (mv 53 13) (oN 3 (nk 54 53) (oN 4 (fa 55 1 54) (oN 6 (fa 57 1 11) (oN 9 (mv 60 13) (oN 10 (nk 61 60) (oN 11 (fa 62 3 61) (oN 13 (mv 64 10) (oN 14 (xo 65 (.bslice 1 1 false [vi0] [(0,(.t 64))])) (.or 5 true [] (ld 56 1 55) (.or 7 true [] (ld 58 1 57) (Kf Qe) (.or 12 true [] (ld 63 1 62) (Ke Qe) .done)) (.or 7 true [] (ld 58 1 57) (.or 5 true [] (ld 56 1 55) (Kf Qe) (.or 12 true [] (ld 63 1 62) (Kd Qe) .done)) (.or 12 true [] (ld 63 1 62) (.or 5 true [] (ld 56 1 55) (Ke Qe) (.or 7 true [] (ld 58 1 57) (Kd Qe) .done)) .done)))))))))))))
instance (Qe:Nat):RG [5,7,8,12] qU (qZ Qe) (jb Qe) jm 22 (fun _=>false):=⟨rfl,by kernel_rfl,by kernel_rfl⟩
def ja (QE:Nat):List AO:=[mv 74 13,mv 75 13,nk 76 75,fa 77 2 76,ld 78 1 77,fa 79 2 11,ld 80 1 79,cl 81 QE [78,80],nk 82 74,fa 83 2 82,xs 1 83 81]
def jl:List (List Nat):=[[],[],[1],[2],[3],[],[5],[4,6],[0,0,1,2,3,4,5,6,7],[8,0,1,2,3,4,5,6,7],[9,7,7,0,1,2,3,4,5,6,7]]
def qT:OT:=.one 0 (.one 1 (.one 2 (.one 3 (.one 5 (.or 4 (.one 6 (.one 7 (.one 8 (.one 9 (.one 10 .done))))) (.or 6 (.one 4 (.one 7 (.one 8 (.one 9 (.one 10 .done))))) .done))))))
@[go_sem] def qY (QE:Nat):OP:=oN 0 (mv 74 13) (oN 1 (mv 75 13) (oN 2 (nk 76 75) (oN 3 (fa 77 2 76) (oN 5 (fa 79 2 11) (.or 4 true [] (ld 78 1 77) (.one 6 true [] (ld 80 1 79) (.one 7 true [] (cl 81 QE [78,80]) (oN 8 (nk 82 74) (oN 9 (fa 83 2 82) (.one 10 true [7] (xs 1 83 81) .done))))) (.or 6 true [] (ld 80 1 79) (.one 4 true [] (ld 78 1 77) (.one 7 true [] (cl 81 QE [78,80]) (oN 8 (nk 82 74) (oN 9 (fa 83 2 82) (.one 10 true [7] (xs 1 83 81) .done))))) .done))))))
instance (QE:Nat):RG [4,6,7] qT (qY QE) (ja QE) jl 11 (fun _=>false):=⟨rfl,by kernel_rfl,by kernel_rfl⟩
def xr (Um VK QO Qe QE:Nat):AC:=Qb [0,1] (.reg [xo 4 (.mknil 4),mc 5 (V.int 0)]) (Qb [0,1] (Qb [0,1,6] (.reg [mv 14 0,mv 15 1,cl 16 Um [14,15],mv 6 16]) (Qb [0,1,6,18] (.reg [mv 17 6,bc 18 .neq 17 (V.int 0)]) (.cond (.t 18) (Qb [4,5] (.reg [mv 19 6,xo 4 (.mknil 4),mv 5 19]) .ret) .skip))) (Qb [0,7] (.reg [mv 20 0,mv 21 1,cl 22 VK [20,21],mv 7 22]) (Qb [0,7,8] (.reg [xo 8 (.mknil 4)]) (Qb [0,7,8,9] (.reg [xo 23 (.mkmap),mv 9 23]) (Qb [8] (Qb [7,8,9,24,25,26] (.reg [mv 24 0,ln 25 24,mc 26 (V.int 0)]) (.block 0 (JG [7,8,9,24,25,26] (Qb [7,8,9,24,25,26,27] (.reg [bn 27 .lss 26 25]) (Qb [7,8,9,24,25,26] (.cond (.t 27) .skip (.exit 0)) (Qb [7,8,9,24,25,26] (.block 1 (Qb [7,8,9,10,11,24,25,26] (.reg [mv 28 26,ia 29 11 24 26,xo 30 (.load true 11 (.t 29)),xo 11 (.alloc [.val vi0,.val vs0,.val vi0,.val vi0,.val vi0,.val vi0,.val vs0,.val vi0,.val vi0,.val vi0,.val vs0]),mv 10 28,xs 11 11 30]) (Qb [7,8,9,10,11,12,24,25,26] (.reg [mv 31 7,mv 32 10,cl 33 QO [31,32],mv 12 33]) (Qb [7,8,9,10,11,12,24,25,26] (Qb [7,8,9,10,11,12,24,25,26,36] (.reg [mv 34 12,mv 35 10,bn 36 .eql 34 35]) (.cond (.t 36) (Qb [7,8,9,10,11,12,24,25,26] (.reg [mv 37 9,mv 38 12,mv 39 8,ln 40 39,⟨none,.mapset false [0] (.t 37) (.t 38) (.t 40),none⟩]) (.reg [mv 41 8,mv 42 10,xo 43 (.build [vi0,vn0,vn0,vn0] [(0,1,(.t 42))]),xo 44 (.obslice 1 4 true [vi0,vn0,vn0,vn0] [(0,(.t 43))]),xo 45 (.append 4 80 [vi0,vn0,vn0,vn0] (.t 41) (.t 44)),mv 8 45])) .skip)) (Qb [7,8,9,10,11,13,24,25,26] (.reg [mv 46 8,mv 47 9,mv 48 12,xo 49 (.mapget false false [vi0] false [0] (.t 47) (.t 48)),ia 50 4 46 49,mv 13 50]) (Qb [7,8,9,11,13,24,25,26] (VD [5,7,8,12] qU (qZ Qe) (jb Qe) jm) (Qb [7,8,9,11,13,24,25,26,73] (.reg [fa 71 2 11,ld 72 1 71,bc 73 .neq 72 (V.int 0)]) (.cond (.t 73) (VD [4,6,7] qT (qY QE) (ja QE) jl) .skip)))))))) (.reg [bc 84 .add 26 (V.int 1),mv 26 84]))))))) (Qb [4,5] (.reg [mv 85 8,mv 4 85,mc 5 (V.int 0)]) .ret)))))) def dA:List Q0:=[.tmp 4,.tmp 5]
def Ua (Γ:Env) (f:Nat):Prop:=∀ (l:List Qa) (gap:Int) (hl:l.length < 2 ^ 40) (hz:∀ x∈l,x.Sz),EvC Γ f [.sl 11 (l.map Qa.v),V.int gap] (av9 l gap)
attribute [local go_sem] eSt eTs mTs in
theorem aem {Γ:Env} {f Um VK QO Qe QE:Nat} (h:Has Γ.P f 86 (xr Um VK QO Qe QE) dA) (z0:qF Γ Um) (z2:KL Γ VK) (z3:Xl Γ QO) (z4:Wu Γ Qe) (z5:Vc Γ QE):Ua Γ f:=by
 intro l gap hl hz
 refine Ju h zsi (by unfold av9;split<;>simp only [V.closed,Qh,and_self]) fun C hC hm=>?_
 subst hC
 unfold xr
 have hm:C.m = 0:=by simpa using hm
 obtain ⟨sX,sI,sW⟩:=z4
 obtain ⟨iX,iI,iW⟩:=z5
 have p0:=(z0 l gap hl hz).b
 by_cases hE:YS l gap = 0
 rotate_left
 ·rw [av9,if_neg hE]
  have e01:(YS l gap != 0) = true:=by simpa using hE
  generalize YS l gap = er at *
  (have zx:=e01);refine zgo ?_;repeat' first|exact zt|apply zan|intro hc
  all_goals exact zr
 obtain ⟨hl4,hd⟩:=awd hE
 rw [hE] at p0
 have p1:=z2 l gap hl4 hd
 have hp:=afW l gap
 have hent:Y4 l gap = Wv l (afX l gap) l.length:=rfl
 rw [av9,if_pos hE,hent]
 generalize afX l gap = p at *
 have e00:((0:Int) != 0) = false:=by decide
 (have zx:=e00);refine zgo ?_;repeat' first|exact zt|apply zan|intro hc
 have t0:ah4 [10000,13000,12000] id 0 = 10000:=rfl
 have t1:ah4 [10000,13000,12000] id 1 = 13000:=rfl
 have t2:ah4 [10000,13000,12000] id 2 = 12000:=rfl
 refine QC (ι:=Nat) (fun k=>k≤l.length) (fun k=>eSt l p (Wv l p k) k) (fun k=>l.length - k) 0 (zG _) (ah4 [10000,13000,12000] id) ?_ fun k hk K' hL=>?_
 ·rw [hm]
  refine aqK (by simp [Wv]) [10000,13000,12000] id [] rfl ?_ rfl rfl (.inr ⟨rfl,rfl⟩) (fun k y h=>by simp at h) (fun j=>by simp [Wv]) (fun j e h=>by simp [Wv] at h) (by simp) (fun q hq=>by simp [Wv] at hq) (fun a b ha=>by simp [Wv] at ha)
  simp only [go_sem,zwl,eTs,Wv,t0,t1,t2,zd]
 clear t0 t1 t2
 have hI:=aaD (l:=l) hp k hk
 rcases hdr:l.drop k with _|⟨f,r⟩
 ·have hkl:=QY hdr
  have e1:decide ((k:Int) < (l.length:Int)) = false:=by simp;omega
  obtain rfl:k = l.length:=by omega
  generalize Wv l p l.length = es at *
  (have zx:=e1);refine zgo ?_;repeat' first|exact zt|apply zan|intro hc
  all_goals
   refine Qr _ rfl ⟨?_,rfl,trivial⟩
   show conv _ _ _ (.hd 2 0 es.length) (.sl 4 (es.map Ji.v))
   rw [asF]
   refine ⟨trivial,by simp,.inr ⟨true,q9 3 es,rfl,?_,auC es,aic es⟩⟩
   rw [kr,zj (by rw [UB];exact zl _)]
   exact aq0 es 3 fun q y hq=>(adb p _ _ [] es q).trans hq
 obtain ⟨hk',hget,hr⟩:=QJ hdr
 have hw:=Qq (k:=k) (by omega)
 have e1:decide ((k:Int) < (l.length:Int)) = true:=by simp;omega
 have hsu:=akx (p:=p) hget
 generalize Wv l p k = es at *
 have n1:=z3 p k hp (by omega)
 by_cases hk0:QA p k = k
 ·rw [hk0] at n1
  have e2:((k:Int) == (k:Int)) = true:=by simp
  have g0:(eO p (es.map Ji.num) (List.range es.length) [] es)[0]? = some (.box true (QF p)):=rfl
  have g1:(eO p (es.map Ji.num) (List.range es.length) [] es)[1]? = some (.map (QF (es.map Ji.num)) (QF (List.range es.length)) 0):=rfl
  have g2:(eO p (es.map Ji.num) (List.range es.length) [] es)[2]? = some (.obuf true 4 (q9 3 es)):=rfl
  have hnum:∀ x∈es.map Ji.num,x≠k:=fun x hx=>by
   obtain ⟨e,he,rfl⟩:=zE.1 hx
   have:=(hI.sz e he).num
   omega
  have f1:=aea k (es.map Ji.num) 0
  rw [aou hnum] at f1
  have f2:=aea k (es.map Ji.num++[k]) 0
  rw [amN hnum,kp,zd] at f2
  have f3:=akw (k:Int)
  have f4:=yK (es.map Ji.num) k
  have f5:=yK (List.range es.length) es.length
  have f6:(QF (List.range es.length++[es.length]))[es.length]? = some (V.int (es.length:Nat)):=Xm (by simp)
  have f7:List.take es.length (q9 3 es) = q9 3 es:=zj (by rw [UB];exact zl _)
  have f8:=UB es 3
  have hel:=hI.len
  repeat' (first|(refine zsk ?_;intro K' hK)|refine zsp ?_|(refine zsc ?_ ?_<;>intro hc<;>first|exact znh|try simp only [znz] at hc)|simp (maxSteps:=1000000) only [go_sem,eSt,eTs,e1,e2,g0,g1,g2,f1,f2,f3,f4,f5,f6,f7,f8,Int.toNat_natCast,zi,hget,Qa.v,Qa.cells]|(refine hK _ ?_;clear hK K')|apply zan|(apply aa1;(focus exact rfl);(focus first|exact n1|exact (z3 _ _ zsd zsd));(focus exact rfl);(focus exact rfl))|(apply aa0;(focus first|exact (z2 _ _ zsd zsd)))|(apply QR;(focus first|exact (z0 _ _ zsd zsd).b))|exact zsq|fail)
  refine arO (ι:=List Ji×Nat×Ji) (az3 l p k f) (fun q=>mSt l p q.1 f q.2.1 k) (fun s=>s.keep [7,8,9,11,13,24,25,26]) (fun K2 hK2=>?_) (fun q hq s' τ hwk=>?_)
  ·have f9:=sW f.host
   have f10:(q9 3 es++[V.agg [V.int k,v8,v8,v8]])[es.length]? = some (V.agg [V.int k,v8,v8,v8]):=by
    rw [zK (by rw [f8];exact zl _),f8,kF];rfl
   have f13:∀ v:V,((q9 3 es++[V.agg [V.int k,v8,v8,v8]]).set es.length v)[es.length]? = some v:=fun v=>by rw [zY];simp [f8]
   have f14:∀ j v,((q9 3 es++[V.agg [V.int k,v8,v8,v8]]).set es.length v)[j]? = if j = es.length then some v else (q9 3 es)[j]?:=fun j v=>by
    rw [zY]
    by_cases hj:es.length = j
    ·subst hj;simp [f8]
    ·rw [if_neg hj,if_neg (fun e=>hj e.symm)]
     by_cases hj2:j < es.length
     ·rw [zS (by rw [f8];exact hj2)]
     ·rw [zU (by simp [f8];omega),zU (by rw [f8];omega)]
   generalize q9 3 es++[V.agg [V.int k,v8,v8,v8]] = L at *
   have f15:∀ v w:V,(L.set es.length v).set es.length w = L.set es.length w:=fun v w=>List.set_set ..
   repeat' (first|(refine zsk ?_;intro K' hK)|(refine zrg ?_;intro K' hK)|refine zsp ?_|(refine zsc ?_ ?_<;>intro hc<;>first|exact znh|try simp only [znz] at hc)|simp (maxSteps:=1000000) only [go_sem,f8,f10,f13,f15,Int.toNat_natCast]|(refine hK _ ?_;clear hK K')|apply zan|(apply aa1;(focus exact rfl);(focus first|exact (z3 _ _ zsd zsd));(focus exact rfl);(focus exact rfl))|(apply abC;(focus exact rfl);(focus exact zrd);(focus exact zrd);(focus first|exact (z3 _ _ zsd zsd));(focus exact rfl);(focus exact rfl);(focus exact zrd))|(apply aa0;(focus first|exact (z2 _ _ zsd zsd)))|((first|apply aiD|apply adx);(focus first|exact f9))|(apply abB;(focus first|exact (z2 _ _ zsd zsd));(focus exact zrd))|((first|apply QR|apply QG);(focus first|exact (z0 _ _ zsd zsd).b))|exact zsq|fail)
   all_goals
    refine hK2 _ (es++[Jj k f ⟨k,[],[],[]⟩],es.length,Jj k f ⟨k,[],[],[]⟩) (ah4 [0,1,25000,6000] (nmS 3 es.length 41000 2 48000)) ⟨?_,?_,?_,?_⟩ ?_
    ·simp only;rw [zK (zl _),kF];rfl
    ·simp only;rw [hsu,anc,if_pos hk0,ZQ _ _ (zl _),kF];rfl
    ·simp only [zp,List.length_singleton];omega
    ·simp only [Jj,List.length_nil];omega
    rw [hm]
    refine aj0 (es0:=es++[⟨k,[],[],[]⟩]) (e1:=Jj k f ⟨k,[],[],[]⟩) (els:=L.set es.length (V.agg [V.int k,V.hd 41000 0 1,v8,V.hd 48000 0 1])) [0,1,25000,6000] ?_ rfl (by simp) (by simp;omega) (at6 rfl (by rw [zp];rfl) rfl rfl rfl rfl rfl rfl) (by simp) rfl ?_ rfl (axK rfl rfl) (fun j=>?_) (fun q y hq hq3 hy=>?_) ?_ ⟨_,rfl,fun hne=>(hne rfl).elim⟩ rfl (by simp) (fun q hq=>?_) (by simp) (by omega) ?_ ?_ ?_
    ·simp only;rw [ZQ _ _ (zl _),kF];rfl
    ·rw [kN,zp,List.length_singleton,ZM];rfl
    ·rw [f14]
     by_cases hj:j = es.length
     ·rw [if_pos hj,if_pos hj]
      simp only [Jj,ajp,mhd];rfl
     ·rw [if_neg hj,if_neg hj,Kl,Kl]
      by_cases hj2:j < es.length
      ·rw [zS hj2]
      ·rw [zU (by omega),zU (by simp;omega)]
    ·have hj:q / 3 < es.length:=by simp only [zp,List.length_singleton] at hq;omega
     simp only [St.keep,upd]
     repeat rw [if_neg (by omega)]
     rw [show 3 + q = 3 + ([]:List Ob).length + q from rfl,adb]
     rw [← hy,aqR,zS (by rw [ae4];omega)]
    ·simp only [Jj,ajp];rfl
    ·simp only [zy,zC,or_false,zp,List.length_singleton] at hq ⊢;omega
    ·right;right;simp;omega
    ·right;left;omega
    ·right;right;simp;omega
  ·obtain ⟨es2,a2,e2⟩:=q
   obtain ⟨q1,q2,q3,q4⟩:=hq
   simp only at q1 q2 q3 q4 hwk ⊢
   refine anl hwk ?_
   clear hwk
   have q5:=(zh.1 q1).1
   have g0:(eO p (es2.map Ji.num) (List.range es2.length) [.box true f.cells] es2)[0]? = some (.box true (QF p)):=rfl
   have g1:(eO p (es2.map Ji.num) (List.range es2.length) [.box true f.cells] es2)[1]? = some (.map (QF (es2.map Ji.num)) (QF (List.range es2.length)) 0):=rfl
   have g2:(eO p (es2.map Ji.num) (List.range es2.length) [.box true f.cells] es2)[2]? = some (.obuf true 4 (q9 4 es2)):=rfl
   have g3:(eO p (es2.map Ji.num) (List.range es2.length) [.box true f.cells] es2)[3]? = some (.box true f.cells):=rfl
   simp only [mSt]
   generalize hEO:eO p (es2.map Ji.num) (List.range es2.length) [.box true f.cells] es2 = EO at g0 g1 g2 g3 ⊢
   simp only [Qa.cells] at g3
   have hrow:∀ q y,(ah3 es2)[q]? = some y→EO[4 + q]? = some y:=fun q y h=>by
    rw [← hEO,show 4 + q = 3 + [Ob.box true f.cells].length + q from rfl,adb];exact h
   have wEO:ZW (eO p (es2.map Ji.num) (List.range es2.length) [.box true f.cells] es2 = EO):=⟨hEO⟩
   clear hEO
   by_cases hm0:f.mach = 0
   ·have e5:(f.mach != 0) = false:=by simpa using hm0
    (have zx:=za g0 (za g1 (za g2 (za g3 (za e5 hw)))));refine zgo ?_;repeat' first|exact zt|apply zan|intro hc
    all_goals
     refine hL _ (k + 1) (ah4 [0,1,2] (nmS 4 a2 (4 + 3 * a2) (4 + 3 * a2 + 1) (4 + 3 * a2 + 2))) (by omega) (by omega) ?_
     rw [hm,← q2]
     refine aj0 (N:=4) (es0:=es2) (e1:=aep f e2) (els:=q9 4 es2) [0,1,2] rfl rfl q5 (by omega) (aif rfl (by rw [zN];rfl) rfl rfl rfl rfl) (by simp) ?_ ?_ ?_ (fun k y h=>by simp at h) (fun j=>?_) (fun q y hq hq3 hy=>?_) ?_ ⟨mob e2.machs,hrow _ _ (by rw [Ka,q1];rfl),fun hne=>by rw [aep,if_pos hm0] at hne ⊢;rw [mob,if_neg hne]⟩ ?_ (by simp) (fun q hq=>?_) ?_ ?_ ?_ ?_ ?_
     ·exact g0
     ·rw [w9 (e1:=aep f e2) q1 rfl,zN];exact g1
     ·first|exact g2|rfl
     ·rw [Kl]
      by_cases hj:j = a2
      ·rw [if_pos hj,hj,q1];simp only [Option.map_some,Ji.own,aep,if_pos hm0]
      ·rw [if_neg hj]
     ·exact hrow q y hy
     ·exact hrow _ _ (by rw [WX,q1];rfl)
     ·exact hrow _ _ (by rw [WW,q1];rfl)
     ·simp only [zy,zC,or_false] at hq ⊢;omega
     ·simp only [zy,zC,or_false];omega
     ·omega
     ·omega
     ·omega
     ·omega
   ·have e5:(f.mach != 0) = true:=by simpa using hm0
    have f8:=UB es2 4
    have f13:∀ v:V,((q9 4 es2).set a2 v)[a2]? = some v:=fun v=>by rw [zY,if_pos rfl,if_pos (by rw [f8];exact q5)]
    have f14:∀ j (v:V),((q9 4 es2).set a2 v)[j]? = if j = a2 then some v else (q9 4 es2)[j]?:=fun j v=>by
     rw [zY]
     by_cases hj:a2 = j
     ·subst hj;rw [if_pos rfl,if_pos (by rw [f8];exact q5),if_pos rfl]
     ·rw [if_neg hj,if_neg (fun e=>hj e.symm)]
    by_cases hne2:e2.machs = []
    ·have f10:(q9 4 es2)[a2]? = some (.agg [V.int e2.num,.hd (4 + 3 * a2) 0 e2.hosts.length,v8,.hd (4 + 3 * a2 + 2) 0 e2.finds.length]):=by rw [Kl,q1];simp only [Option.map_some,Ji.own,mhd,if_pos hne2]
     have f9:=iW f.mach
     have hins:aiR ltJ e2.machs f.mach = [f.mach]:=by rw [hne2,ajp]
     have hne3:¬ ([f.mach]:List Int) = []:=by simp
     (have zx:=za g0 (za g1 (za g2 (za g3 (za e5 (za hw (za f10 f13)))))));refine zgo ?_;repeat' first|exact zt|apply zan|intro hc
     all_goals
      refine hL _ (k + 1) (ah4 [0,1,2] (nmS 4 a2 (4 + 3 * a2) 12000 (4 + 3 * a2 + 2))) (by omega) (by omega) ?_
      rw [hm,← q2]
      refine aj0 (N:=4) (es0:=es2) (e1:=aep f e2) (els:=(q9 4 es2).set a2 (.agg [V.int e2.num,.hd (4 + 3 * a2) 0 e2.hosts.length,.hd 12000 0 1,.hd (4 + 3 * a2 + 2) 0 e2.finds.length])) [0,1,2] rfl rfl q5 (by omega) (aif rfl (by rw [zN];rfl) rfl rfl rfl rfl) (by simp) ?_ ?_ ?_ (fun k y h=>by simp at h) (fun j=>?_) (fun q y hq hq3 hy=>?_) ?_ ⟨_,rfl,fun _=>by simp only [aep,if_neg hm0,hins];rfl⟩ ?_ (by simp) (fun q hq=>?_) ?_ ?_ ?_ ?_ ?_
      ·simp only [zL,zR,upd,Nat.reduceEqDiff,if_false,if_true];first|done|exact g0
      ·rw [w9 (e1:=aep f e2) q1 rfl,zN];simp only [zL,zR,upd,Nat.reduceEqDiff,if_false,if_true];first|done|exact g1
      ·simp only [zL,zR,upd,Nat.reduceEqDiff,if_false,if_true];first|done|rfl
      ·rw [f14]
       by_cases hj:j = a2
       ·rw [if_pos hj,if_pos hj];simp only [aep,if_neg hm0,hins,mhd];first|rfl|(rw [if_neg hne2];done)|(rw [if_neg hne3];done)
       ·rw [if_neg hj,if_neg hj]
      ·simp only [upd];(repeat rw [if_neg (by omega)]);exact hrow q y hy
      ·simp only [upd];(repeat rw [if_neg (by omega)]);exact hrow _ _ (by rw [WX,q1];rfl)
      ·simp only [upd];(repeat rw [if_neg (by omega)]);exact hrow _ _ (by rw [WW,q1];rfl)
      ·simp only [zy,zC,or_false] at hq ⊢;omega
      ·simp only [zy,zC,or_false];omega
      ·omega
      ·omega
      ·omega
      ·omega
    ·have f10:(q9 4 es2)[a2]? = some (.agg [V.int e2.num,.hd (4 + 3 * a2) 0 e2.hosts.length,.hd (4 + 3 * a2 + 1) 0 e2.machs.length,.hd (4 + 3 * a2 + 2) 0 e2.finds.length]):=by rw [Kl,q1];simp only [Option.map_some,Ji.own,mhd,if_neg hne2]
     have gM:EO[4 + 3 * a2 + 1]? = some (.buf true 1 (e2.machs.map V.int)):=by
      rw [show 4 + 3 * a2 + 1 = 4 + (3 * a2 + 1) by omega]
      exact hrow _ _ (by rw [Ka,q1];simp only [Option.map_some,mob,if_neg hne2])
     have hml:0 < e2.machs.length:=ZI.2 hne2
     obtain ⟨nM,hnM⟩:∃ n,n = 4 + 3 * a2 + 1:=⟨_,rfl⟩
     rw [← hnM] at f10 gM
     have hM2:nM < 2000:=by omega
     have hM3:3≤nM:=by omega
     have u1:∀ q,(nM = q + 2000) = False:=fun q=>eq_false (by omega)
     have u3:∀ q,(q + 2000 = nM) = False:=fun q=>eq_false (by omega)
     have u5:(nM = 2) = False:=eq_false (by omega)
     have u6:(2 = nM) = False:=eq_false (by omega)
     have u7:(0 = nM) = False:=eq_false (by omega)
     have u8:(1 = nM) = False:=eq_false (by omega)
     have v1:∀ q,decide (nM < q + 2000) = true:=fun q=>zn (by omega)
     have wM:ZW (nM = 4 + 3 * a2 + 1):=⟨hnM⟩
     clear hnM
     rcases hfo:YO e2.machs (bsI ltJ e2.machs f.mach) f.mach with _|_
     ·have f9:=iI e2.machs f.mach hml (by omega) hfo
      obtain ⟨hh,hins⟩:∃ hh,aiR ltJ e2.machs f.mach = hh:=⟨_,rfl⟩
      have hne3:¬ hh = []:=by
       have:=(ahj (lt:=ltJ) e2.machs f.mach).2
       rw [hins] at this
       exact ZI.1 this
      rw [hins] at f9
      have hlm:(List.map V.int hh).length = hh.length:=zd _
      repeat' (first|(refine zsk ?_;intro K' hK)|(refine zrg ?_;intro K' hK)|refine zsp ?_|(refine zsc ?_ ?_<;>intro hc<;>first|exact znh|try simp only [znz] at hc)|simp (maxSteps:=1000000) only [go_sem,mTs,g0,g1,g2,g3,e5,hw,f10,f13,hlm,gM,v1,u1,u3,u5,u6,Int.toNat_natCast]|(refine hK _ ?_;clear hK K')|apply zan|(apply apf;(focus exact rfl);(focus first|exact f9);(focus exact rfl);(focus exact rfl);(focus (first|exact rfl|(simp;done))))|(apply akN;(focus exact rfl);(focus exact rfl);(focus first|exact f9);(focus exact rfl);(focus (first|exact rfl|(simp;done)));(focus (first|exact rfl|(simp;done))))|(apply aqC;(focus first|exact rfl|(simp only [upd,if_false, *];exact rfl));(focus first|exact rfl|decide|(simp [rA,rW];done)|(simp [rA,rW];omega)|omega);(focus first|exact rfl|decide|(simp [rA,rW];done)|(simp [rA,rW];omega)|omega);(focus first|exact f9);(focus exact rfl);(focus first|exact rfl|decide|(simp [rA,rW];done)|(simp [rA,rW];omega)|omega);(focus (first|exact rfl|(simp;done)));(focus exact rfl))|(apply aa1;(focus exact rfl);(focus first|exact (z3 _ _ zsd zsd));(focus exact rfl);(focus exact rfl))|(apply abC;(focus exact rfl);(focus exact zrd);(focus exact zrd);(focus first|exact (z3 _ _ zsd zsd));(focus exact rfl);(focus exact rfl);(focus exact zrd))|(apply aa0;(focus first|exact (z2 _ _ zsd zsd)))|(apply abB;(focus first|exact (z2 _ _ zsd zsd));(focus exact zrd))|((first|apply QR|apply QG);(focus first|exact (z0 _ _ zsd zsd).b))|exact zsq|fail)
      all_goals
       have wM':=wM.h
       refine hL _ (k + 1) (ah4 [0,1,2] (nmS 4 a2 (4 + 3 * a2) 12000 (4 + 3 * a2 + 2))) (by omega) (by omega) ?_
       rw [hm,← q2]
       refine aj0 (N:=4) (es0:=es2) (e1:=aep f e2) (els:=(q9 4 es2).set a2 (.agg [V.int e2.num,.hd (4 + 3 * a2) 0 e2.hosts.length,.hd 12000 0 hh.length,.hd (4 + 3 * a2 + 2) 0 e2.finds.length])) [0,1,2] rfl rfl q5 (by omega) (aif rfl (by rw [zN];rfl) rfl rfl rfl rfl) (by simp) ?_ ?_ ?_ (fun k y h=>by simp at h) (fun j=>?_) (fun q y hq hq3 hy=>?_) ?_ ⟨.buf true 1 (hh.map V.int),by simp only [upd,u3,Nat.reduceEqDiff,if_false,if_true],fun _=>by simp only [aep,if_neg hm0,hins]⟩ ?_ (by simp) (fun q hq=>?_) ?_ ?_ ?_ ?_ ?_
       ·simp only [zL,zR,upd,Nat.reduceEqDiff,if_false,if_true,u6,u7,u8];first|done|exact g0
       ·rw [w9 (e1:=aep f e2) q1 rfl,zN];simp only [zL,zR,upd,Nat.reduceEqDiff,if_false,if_true,u6,u7,u8];first|done|exact g1
       ·simp only [zL,zR,upd,Nat.reduceEqDiff,if_false,if_true,u6,u7,u8];first|done|rfl
       ·rw [f14]
        by_cases hj:j = a2
        ·rw [if_pos hj,if_pos hj];simp only [aep,if_neg hm0,hins,mhd];first|rfl|(rw [if_neg hne2];done)|(rw [if_neg hne3];done)
        ·rw [if_neg hj,if_neg hj]
       ·simp only [upd];(repeat rw [if_neg (by omega)]);exact hrow q y hy
       ·simp only [upd];(repeat rw [if_neg (by omega)]);exact hrow _ _ (by rw [WX,q1];rfl)
       ·simp only [upd];(repeat rw [if_neg (by omega)]);exact hrow _ _ (by rw [WW,q1];rfl)
       ·simp only [zy,zC,or_false] at hq ⊢;omega
       ·simp only [zy,zC,or_false];omega
       ·omega
       ·omega
       ·omega
       ·omega
     ·have f9:=iX e2.machs f.mach hml (by omega) hfo
      have hins:aiR ltJ e2.machs f.mach = e2.machs:=by rw [aiR,if_pos hfo]
      repeat' (first|(refine zsk ?_;intro K' hK)|(refine zrg ?_;intro K' hK)|refine zsp ?_|(refine zsc ?_ ?_<;>intro hc<;>first|exact znh|try simp only [znz] at hc)|simp (maxSteps:=1000000) only [go_sem,mTs,g0,g1,g2,g3,e5,hw,f10,f13,gM,v1,u1,u3,u5,u6,Int.toNat_natCast]|(refine hK _ ?_;clear hK K')|apply zan|(apply aiC;(focus exact rfl);(focus first|exact f9);(focus exact rfl);(focus exact rfl);(focus (first|exact rfl|(simp;done))))|(apply afr;(focus first|exact rfl|(simp only [upd,if_false, *];exact rfl));(focus first|exact rfl|decide|(simp [rA,rW];done)|(simp [rA,rW];omega)|omega);(focus first|exact rfl|decide|(simp [rA,rW];done)|(simp [rA,rW];omega)|omega);(focus first|exact f9);(focus exact rfl);(focus first|exact rfl|decide|(simp [rA,rW];done)|(simp [rA,rW];omega)|omega);(focus (first|exact rfl|(simp;done)));(focus exact rfl))|(apply aa1;(focus exact rfl);(focus first|exact (z3 _ _ zsd zsd));(focus exact rfl);(focus exact rfl))|(apply abC;(focus exact rfl);(focus exact zrd);(focus exact zrd);(focus first|exact (z3 _ _ zsd zsd));(focus exact rfl);(focus exact rfl);(focus exact zrd))|(apply aa0;(focus first|exact (z2 _ _ zsd zsd)))|(apply abB;(focus first|exact (z2 _ _ zsd zsd));(focus exact zrd))|((first|apply QR|apply QG);(focus first|exact (z0 _ _ zsd zsd).b))|exact zsq|fail)
      all_goals
       have wM':=wM.h
       refine hL _ (k + 1) (ah4 [0,1,2] (nmS 4 a2 (4 + 3 * a2) nM (4 + 3 * a2 + 2))) (by omega) (by omega) ?_
       rw [hm,← q2]
       refine aj0 (N:=4) (es0:=es2) (e1:=aep f e2) (els:=(q9 4 es2).set a2 (.agg [V.int e2.num,.hd (4 + 3 * a2) 0 e2.hosts.length,.hd nM 0 e2.machs.length,.hd (4 + 3 * a2 + 2) 0 e2.finds.length])) [0,1,2] rfl rfl q5 (by omega) (aif rfl (by rw [zN];rfl) rfl rfl rfl rfl) (by simp) ?_ ?_ ?_ (fun k y h=>by simp at h) (fun j=>?_) (fun q y hq hq3 hy=>?_) ?_ ⟨.buf true 1 (e2.machs.map V.int),by simp only [upd,u5,if_false,if_true,gM],fun _=>by simp only [aep,if_neg hm0,hins]⟩ ?_ (by simp) (fun q hq=>?_) ?_ ?_ ?_ ?_ ?_
       ·simp only [zL,zR,upd,Nat.reduceEqDiff,if_false,if_true,u6,u7,u8];first|done|exact g0
       ·rw [w9 (e1:=aep f e2) q1 rfl,zN];simp only [zL,zR,upd,Nat.reduceEqDiff,if_false,if_true,u6,u7,u8];first|done|exact g1
       ·simp only [zL,zR,upd,Nat.reduceEqDiff,if_false,if_true,u6,u7,u8];first|done|rfl
       ·rw [f14]
        by_cases hj:j = a2
        ·rw [if_pos hj,if_pos hj];simp only [aep,if_neg hm0,hins,mhd];first|rfl|(rw [if_neg hne2];done)|(rw [if_neg hne3];done)
        ·rw [if_neg hj,if_neg hj]
       ·simp only [upd];(repeat rw [if_neg (by omega)]);exact hrow q y hy
       ·simp only [upd];(repeat rw [if_neg (by omega)]);exact hrow _ _ (by rw [WX,q1];rfl)
       ·simp only [upd];(repeat rw [if_neg (by omega)]);exact hrow _ _ (by rw [WW,q1];rfl)
       ·simp only [zy,zC,or_false] at hq ⊢;omega
       ·simp only [zy,zC,or_false];omega
       ·omega
       ·omega
       ·omega
       ·omega
 ·obtain ⟨a,e,hia,hea,hen⟩:=hI.find hp hk0
  have hal:=(zh.1 hea).1
  have hsz:=hI.sz e (zm hea)
  have hel:=hI.len
  have hrk:=x9 hp k
  have e2:(((QA p k:Nat):Int) == (k:Int)) = false:=by simp;omega
  have g0:(eO p (es.map Ji.num) (List.range es.length) [] es)[0]? = some (.box true (QF p)):=rfl
  have g1:(eO p (es.map Ji.num) (List.range es.length) [] es)[1]? = some (.map (QF (es.map Ji.num)) (QF (List.range es.length)) 0):=rfl
  have g2:(eO p (es.map Ji.num) (List.range es.length) [] es)[2]? = some (.obuf true 4 (q9 3 es)):=rfl
  have f1:=aea (QA p k) (es.map Ji.num) 0
  rw [hia] at f1
  have f3:=akw ((QA p k:Nat):Int)
  have f6:(QF (List.range es.length))[a]? = some (V.int (a:Nat)):=Xm (by simp [hal])
  have f8:=UB es 3
  have hes:Wv l p (k + 1) = es.set a (Vl k f e):=by rw [hsu,anc,if_neg hk0,hia];simp only [hea]
  clear hsu
  generalize QA p k = rt at *
  repeat' (first|(refine zsk ?_;intro K' hK)|refine zsp ?_|(refine zsc ?_ ?_<;>intro hc<;>first|exact znh|try simp only [znz] at hc)|simp (maxSteps:=1000000) only [go_sem,eSt,eTs,e1,e2,g0,g1,g2,f1,f3,f6,f8,Int.toNat_natCast,zi,hget,Qa.v,Qa.cells]|(refine hK _ ?_;clear hK K')|apply zan|(apply aa1;(focus exact rfl);(focus first|exact n1|exact (z3 _ _ zsd zsd));(focus exact rfl);(focus exact rfl))|(apply aa0;(focus first|exact (z2 _ _ zsd zsd)))|(apply QR;(focus first|exact (z0 _ _ zsd zsd).b))|exact zsq|fail)
  refine arO (ι:=List Ji×Nat×Ji) (az3 l p k f) (fun q=>mSt l p q.1 f q.2.1 k) (fun s=>s.keep [7,8,9,11,13,24,25,26]) (fun K2 hK2=>?_) (fun q hq s' τ hwk=>?_)
  ·have f10:(q9 3 es)[a]? = some (.agg [V.int e.num,.hd (3 + 3 * a) 0 e.hosts.length,mhd (3 + 3 * a + 1) e.machs,.hd (3 + 3 * a + 2) 0 e.finds.length]):=by rw [Kl,hea];rfl
   have gH:(eO p (es.map Ji.num) (List.range es.length) [] es)[3 + 3 * a]? = some (.buf true 1 (e.hosts.map V.str)):=by
    rw [show 3 + 3 * a = 3 + ([]:List Ob).length + 3 * a from rfl,adb,WX,hea];rfl
   have gF:(eO p (es.map Ji.num) (List.range es.length) [] es)[3 + 3 * a + 2]? = some (.buf true 1 (QF e.finds)):=by
    rw [show 3 + 3 * a + 2 = 3 + ([]:List Ob).length + (3 * a + 2) by simp;omega,adb,WW,hea];rfl
   obtain ⟨nH,hnH⟩:∃ n,n = 3 + 3 * a:=⟨_,rfl⟩
   obtain ⟨nF,hnF⟩:∃ n,n = 3 + 3 * a + 2:=⟨_,rfl⟩
   rw [← hnF] at f10 gF
   rw [← hnH] at f10 gH
   have hF2:nF < 2000:=by omega
   have hH2:nH < 2000:=by omega
   have v1:∀ q,decide (nH < q + 2000) = true:=fun q=>zn (by omega)
   have v2:∀ q,decide (nF < q + 2000) = true:=fun q=>zn (by omega)
   have u1:∀ q,(nH = q + 2000) = False:=fun q=>eq_false (by omega)
   have u2:∀ q,(nF = q + 2000) = False:=fun q=>eq_false (by omega)
   have u3:∀ q,(q + 2000 = nH) = False:=fun q=>eq_false (by omega)
   have u4:∀ q,(q + 2000 = nF) = False:=fun q=>eq_false (by omega)
   have u5:(nH = nF) = False:=eq_false (by omega)
   have u6:(nF = nH) = False:=eq_false (by omega)
   have u7:(nH = 0) = False:=eq_false (by omega)
   have u8:(nF = 0) = False:=eq_false (by omega)
   have u11:(nH = 2) = False:=eq_false (by omega)
   have u12:(nF = 2) = False:=eq_false (by omega)
   have u9:(2 = nH) = False:=eq_false (by omega)
   have u10:(2 = nF) = False:=eq_false (by omega)
   have hH3:3≤nH:=by omega
   have hF3:3≤nF:=by omega
   have wH:ZW (nH = 3 + 3 * a):=⟨hnH⟩
   have wF:ZW (nF = 3 + 3 * a + 2):=⟨hnF⟩
   clear hnH hnF
   have f11:List.take e.finds.length (QF e.finds)++[V.int k] = QF (e.finds++[k]):=by rw [zj (by rw [JF];exact zl _),yK]
   have f12:=JF e.finds
   have z1:e.finds.length≤400:=by have:=hsz.f1;omega
   have w0:(0 = nH) = False:=eq_false (by omega)
   have w1:(0 = nF) = False:=eq_false (by omega)
   have w2:(1 = nH) = False:=eq_false (by omega)
   have w3:(1 = nF) = False:=eq_false (by omega)
   have f13:∀ v:V,((q9 3 es).set a v)[a]? = some v:=fun v=>by rw [zY,if_pos rfl,if_pos (by rw [f8];exact hal)]
   have f14:∀ j (v:V),((q9 3 es).set a v)[j]? = if j = a then some v else (q9 3 es)[j]?:=fun j v=>by
    rw [zY]
    by_cases hj:a = j
    ·subst hj;rw [if_pos rfl,if_pos (by rw [f8];exact hal),if_pos rfl]
    ·rw [if_neg hj,if_neg (fun e=>hj e.symm)]
   have f15:∀ v w:V,((q9 3 es).set a v).set a w = (q9 3 es).set a w:=fun v w=>List.set_set ..
   rcases hfo:YO e.hosts (bsI Op.bytesLess e.hosts f.host) f.host with _|_
   ·have f9:=sI e.hosts f.host hsz.h0 (by have:=hsz.h1;omega) hfo
    clear sX sI sW iX iI iW hL
    obtain ⟨hh,hins⟩:∃ hh,aiR Op.bytesLess e.hosts f.host = hh:=⟨_,rfl⟩
    rw [hins] at f9
    have hlm:(List.map V.str hh).length = hh.length:=zd _
    repeat' (first|(refine zsk ?_;intro K' hK)|(refine zrg ?_;intro K' hK)|refine zsp ?_|(refine zsc ?_ ?_<;>intro hc<;>first|exact znh|try simp only [znz] at hc)|simp (maxSteps:=1000000) only [go_sem,f8,f10,f11,f12,f13,f15,hlm,gH,gF,g2,v1,v2,u1,u2,u3,u4,u5,u6,u7,u8,u9,u10,Int.toNat_natCast]|(refine hK _ ?_;clear hK K')|apply zan|(apply apf;(focus exact rfl);(focus first|exact f9);(focus exact rfl);(focus exact rfl);(focus (first|exact rfl|(simp;done))))|(apply akN;(focus exact rfl);(focus exact rfl);(focus first|exact f9);(focus exact rfl);(focus (first|exact rfl|(simp;done)));(focus (first|exact rfl|(simp;done))))|(apply aqC;(focus first|exact rfl|(simp only [upd,if_false, *];exact rfl));(focus first|exact rfl|decide|(simp [rA,rW];done)|(simp [rA,rW];omega)|omega);(focus first|exact rfl|decide|(simp [rA,rW];done)|(simp [rA,rW];omega)|omega);(focus first|exact f9);(focus exact rfl);(focus first|exact rfl|decide|(simp [rA,rW];done)|(simp [rA,rW];omega)|omega);(focus (first|exact rfl|(simp;done)));(focus exact rfl))|(apply aa1;(focus exact rfl);(focus first|exact (z3 _ _ zsd zsd));(focus exact rfl);(focus exact rfl))|(apply abC;(focus exact rfl);(focus exact zrd);(focus exact zrd);(focus first|exact (z3 _ _ zsd zsd));(focus exact rfl);(focus exact rfl);(focus exact zrd))|(apply aa0;(focus first|exact (z2 _ _ zsd zsd)))|(apply abB;(focus first|exact (z2 _ _ zsd zsd));(focus exact zrd))|((first|apply QR|apply QG);(focus first|exact (z0 _ _ zsd zsd).b))|exact zsq|fail)
    all_goals
     have wH':=wH.h
     have wF':=wF.h
     refine hK2 _ (es.set a (Jj k f e),a,Jj k f e) (ah4 [0,1,2,6000] (nmS 3 a 30000 (3 + 3 * a + 1) 37000)) ⟨?_,?_,?_,?_⟩ ?_
     ·simp only;rw [zY,if_pos rfl,if_pos hal]
     ·simp only;rw [hes,List.set_set];rfl
     ·simp only [zN];omega
     ·simp only [Jj];have:=hsz.m1;omega
     rw [hm]
     refine aj0 (es0:=es) (e1:=Jj k f e) (els:=(q9 3 es).set a (.agg [V.int e.num,.hd 30000 0 hh.length,mhd (nH + 1) e.machs,.hd 37000 0 (e.finds.length + 1)])) [0,1,2,6000] rfl rfl hal (by omega) (at6 rfl (by rw [zN];rfl) rfl rfl rfl rfl rfl rfl) (by simp) ?_ ?_ ?_ (axK (x3:=6000) rfl ?_) (fun j=>?_) (fun q y hq hq3 hy=>?_) ?_ ⟨mob e.machs,?_,fun hne=>by rw [mob,if_neg (show ¬ e.machs = [] from hne)];rfl⟩ ?_ (by simp) (fun q hq=>?_) ?_ ?_ ?_ ?_ ?_
     ·simp only [zL,St.keep,upd,u7,u8,w0,w1,if_false,if_true,Nat.reduceEqDiff]
     ·rw [w9 (e1:=Jj k f e) hea rfl,zN]
      simp only [zR,zL,St.keep,upd,w2,w3,if_false,if_true,Nat.reduceEqDiff,g1]
     ·simp only [zR,zL,St.keep,upd,u9,u10,if_false,if_true,Nat.reduceEqDiff]
     ·simp only [St.keep,upd,u3,u4,if_false,if_true,Nat.reduceEqDiff];rfl
     ·rw [f14]
      by_cases hj:j = a
      ·rw [if_pos hj,if_pos hj,wH']
       simp only [Jj,hins,zp,List.length_singleton]
      ·rw [if_neg hj,if_neg hj]
     ·simp only [St.keep,upd]
      repeat rw [if_neg (by omega)]
      rw [show 3 + q = 3 + ([]:List Ob).length + q from rfl,adb]
      exact hy
     ·simp only [Jj,hins,St.keep,upd,u1,u3,u4,u5,u6,u11,u12,if_false,if_true,Nat.reduceEqDiff]
     ·simp only [St.keep,upd]
      repeat rw [if_neg (by omega)]
      rw [show 3 + 3 * a + 1 = 3 + ([]:List Ob).length + (3 * a + 1) by simp;omega,adb,Ka,hea];rfl
     ·simp only [Jj,St.keep,upd,u3,u4,if_false,if_true,Nat.reduceEqDiff]
     ·simp only [zy,zC,or_false] at hq ⊢;omega
     ·simp only [zy,zC,or_false];omega
     ·omega
     ·omega
     ·omega
     ·omega
   ·have f9:=sX e.hosts f.host hsz.h0 (by have:=hsz.h1;omega) hfo
    clear sX sI sW iX iI iW hL
    have hins:aiR Op.bytesLess e.hosts f.host = e.hosts:=by rw [aiR,if_pos hfo]
    repeat' (first|(refine zsk ?_;intro K' hK)|(refine zrg ?_;intro K' hK)|refine zsp ?_|(refine zsc ?_ ?_<;>intro hc<;>first|exact znh|try simp only [znz] at hc)|simp (maxSteps:=1000000) only [go_sem,f8,f10,f11,f12,f13,f15,gH,gF,g2,v1,v2,u1,u2,u3,u4,u5,u6,u7,u8,u9,u10,Int.toNat_natCast]|(refine hK _ ?_;clear hK K')|apply zan|(apply aiC;(focus exact rfl);(focus first|exact f9);(focus exact rfl);(focus exact rfl);(focus (first|exact rfl|(simp;done))))|(apply afr;(focus first|exact rfl|(simp only [upd,if_false, *];exact rfl));(focus first|exact rfl|decide|(simp [rA,rW];done)|(simp [rA,rW];omega)|omega);(focus first|exact rfl|decide|(simp [rA,rW];done)|(simp [rA,rW];omega)|omega);(focus first|exact f9);(focus exact rfl);(focus first|exact rfl|decide|(simp [rA,rW];done)|(simp [rA,rW];omega)|omega);(focus (first|exact rfl|(simp;done)));(focus exact rfl))|(apply aa1;(focus exact rfl);(focus first|exact (z3 _ _ zsd zsd));(focus exact rfl);(focus exact rfl))|(apply abC;(focus exact rfl);(focus exact zrd);(focus exact zrd);(focus first|exact (z3 _ _ zsd zsd));(focus exact rfl);(focus exact rfl);(focus exact zrd))|(apply aa0;(focus first|exact (z2 _ _ zsd zsd)))|(apply abB;(focus first|exact (z2 _ _ zsd zsd));(focus exact zrd))|((first|apply QR|apply QG);(focus first|exact (z0 _ _ zsd zsd).b))|exact zsq|fail)
    all_goals
     have wH':=wH.h
     have wF':=wF.h
     refine hK2 _ (es.set a (Jj k f e),a,Jj k f e) (ah4 [0,1,2,6000] (nmS 3 a nH (3 + 3 * a + 1) 37000)) ⟨?_,?_,?_,?_⟩ ?_
     ·simp only;rw [zY,if_pos rfl,if_pos hal]
     ·simp only;rw [hes,List.set_set];rfl
     ·simp only [zN];omega
     ·simp only [Jj];have:=hsz.m1;omega
     rw [hm]
     refine aj0 (es0:=es) (e1:=Jj k f e) (els:=(q9 3 es).set a (.agg [V.int e.num,.hd nH 0 e.hosts.length,mhd (nH + 1) e.machs,.hd 37000 0 (e.finds.length + 1)])) [0,1,2,6000] rfl rfl hal (by omega) (at6 rfl (by rw [zN];rfl) rfl rfl rfl rfl rfl rfl) (by simp) ?_ ?_ ?_ (axK (x3:=6000) rfl ?_) (fun j=>?_) (fun q y hq hq3 hy=>?_) ?_ ⟨mob e.machs,?_,fun hne=>by rw [mob,if_neg (show ¬ e.machs = [] from hne)];rfl⟩ ?_ (by simp) (fun q hq=>?_) ?_ ?_ ?_ ?_ ?_
     ·simp only [zL,St.keep,upd,u7,u8,w0,w1,if_false,if_true,Nat.reduceEqDiff]
     ·rw [w9 (e1:=Jj k f e) hea rfl,zN]
      simp only [zR,zL,St.keep,upd,w2,w3,if_false,if_true,Nat.reduceEqDiff,g1]
     ·simp only [zR,zL,St.keep,upd,u9,u10,if_false,if_true,Nat.reduceEqDiff]
     ·simp only [St.keep,upd,u3,u4,if_false,if_true,Nat.reduceEqDiff];rfl
     ·rw [f14]
      by_cases hj:j = a
      ·rw [if_pos hj,if_pos hj,wH']
       simp only [Jj,hins,zp,List.length_singleton]
      ·rw [if_neg hj,if_neg hj]
     ·simp only [St.keep,upd]
      repeat rw [if_neg (by omega)]
      rw [show 3 + q = 3 + ([]:List Ob).length + q from rfl,adb]
      exact hy
     ·simp only [Jj,hins,St.keep,upd,u1,u3,u4,u5,u6,u11,u12,if_false,if_true,Nat.reduceEqDiff]
     ·simp only [St.keep,upd]
      repeat rw [if_neg (by omega)]
      rw [show 3 + 3 * a + 1 = 3 + ([]:List Ob).length + (3 * a + 1) by simp;omega,adb,Ka,hea];rfl
     ·simp only [Jj,St.keep,upd,u3,u4,if_false,if_true,Nat.reduceEqDiff]
     ·simp only [zy,zC,or_false] at hq ⊢;omega
     ·simp only [zy,zC,or_false];omega
     ·omega
     ·omega
     ·omega
     ·omega
  ·obtain ⟨es2,a2,e2⟩:=q
   obtain ⟨q1,q2,q3,q4⟩:=hq
   simp only at q1 q2 q3 q4 hwk ⊢
   refine anl hwk ?_
   clear hwk
   have q5:=(zh.1 q1).1
   have g0:(eO p (es2.map Ji.num) (List.range es2.length) [.box true f.cells] es2)[0]? = some (.box true (QF p)):=rfl
   have g1:(eO p (es2.map Ji.num) (List.range es2.length) [.box true f.cells] es2)[1]? = some (.map (QF (es2.map Ji.num)) (QF (List.range es2.length)) 0):=rfl
   have g2:(eO p (es2.map Ji.num) (List.range es2.length) [.box true f.cells] es2)[2]? = some (.obuf true 4 (q9 4 es2)):=rfl
   have g3:(eO p (es2.map Ji.num) (List.range es2.length) [.box true f.cells] es2)[3]? = some (.box true f.cells):=rfl
   simp only [mSt]
   generalize hEO:eO p (es2.map Ji.num) (List.range es2.length) [.box true f.cells] es2 = EO at g0 g1 g2 g3 ⊢
   simp only [Qa.cells] at g3
   have hrow:∀ q y,(ah3 es2)[q]? = some y→EO[4 + q]? = some y:=fun q y h=>by
    rw [← hEO,show 4 + q = 3 + [Ob.box true f.cells].length + q from rfl,adb];exact h
   have wEO:ZW (eO p (es2.map Ji.num) (List.range es2.length) [.box true f.cells] es2 = EO):=⟨hEO⟩
   clear hEO
   by_cases hm0:f.mach = 0
   ·have e5:(f.mach != 0) = false:=by simpa using hm0
    (have zx:=za g0 (za g1 (za g2 (za g3 (za e5 hw)))));refine zgo ?_;repeat' first|exact zt|apply zan|intro hc
    all_goals
     refine hL _ (k + 1) (ah4 [0,1,2] (nmS 4 a2 (4 + 3 * a2) (4 + 3 * a2 + 1) (4 + 3 * a2 + 2))) (by omega) (by omega) ?_
     rw [hm,← q2]
     refine aj0 (N:=4) (es0:=es2) (e1:=aep f e2) (els:=q9 4 es2) [0,1,2] rfl rfl q5 (by omega) (aif rfl (by rw [zN];rfl) rfl rfl rfl rfl) (by simp) ?_ ?_ ?_ (fun k y h=>by simp at h) (fun j=>?_) (fun q y hq hq3 hy=>?_) ?_ ⟨mob e2.machs,hrow _ _ (by rw [Ka,q1];rfl),fun hne=>by rw [aep,if_pos hm0] at hne ⊢;rw [mob,if_neg hne]⟩ ?_ (by simp) (fun q hq=>?_) ?_ ?_ ?_ ?_ ?_
     ·exact g0
     ·rw [w9 (e1:=aep f e2) q1 rfl,zN];exact g1
     ·first|exact g2|rfl
     ·rw [Kl]
      by_cases hj:j = a2
      ·rw [if_pos hj,hj,q1];simp only [Option.map_some,Ji.own,aep,if_pos hm0]
      ·rw [if_neg hj]
     ·exact hrow q y hy
     ·exact hrow _ _ (by rw [WX,q1];rfl)
     ·exact hrow _ _ (by rw [WW,q1];rfl)
     ·simp only [zy,zC,or_false] at hq ⊢;omega
     ·simp only [zy,zC,or_false];omega
     ·omega
     ·omega
     ·omega
     ·omega
   ·have e5:(f.mach != 0) = true:=by simpa using hm0
    have f8:=UB es2 4
    have f13:∀ v:V,((q9 4 es2).set a2 v)[a2]? = some v:=fun v=>by rw [zY,if_pos rfl,if_pos (by rw [f8];exact q5)]
    have f14:∀ j (v:V),((q9 4 es2).set a2 v)[j]? = if j = a2 then some v else (q9 4 es2)[j]?:=fun j v=>by
     rw [zY]
     by_cases hj:a2 = j
     ·subst hj;rw [if_pos rfl,if_pos (by rw [f8];exact q5),if_pos rfl]
     ·rw [if_neg hj,if_neg (fun e=>hj e.symm)]
    by_cases hne2:e2.machs = []
    ·have f10:(q9 4 es2)[a2]? = some (.agg [V.int e2.num,.hd (4 + 3 * a2) 0 e2.hosts.length,v8,.hd (4 + 3 * a2 + 2) 0 e2.finds.length]):=by rw [Kl,q1];simp only [Option.map_some,Ji.own,mhd,if_pos hne2]
     have f9:=iW f.mach
     have hins:aiR ltJ e2.machs f.mach = [f.mach]:=by rw [hne2,ajp]
     have hne3:¬ ([f.mach]:List Int) = []:=by simp
     (have zx:=za g0 (za g1 (za g2 (za g3 (za e5 (za hw (za f10 f13)))))));refine zgo ?_;repeat' first|exact zt|apply zan|intro hc
     all_goals
      refine hL _ (k + 1) (ah4 [0,1,2] (nmS 4 a2 (4 + 3 * a2) 12000 (4 + 3 * a2 + 2))) (by omega) (by omega) ?_
      rw [hm,← q2]
      refine aj0 (N:=4) (es0:=es2) (e1:=aep f e2) (els:=(q9 4 es2).set a2 (.agg [V.int e2.num,.hd (4 + 3 * a2) 0 e2.hosts.length,.hd 12000 0 1,.hd (4 + 3 * a2 + 2) 0 e2.finds.length])) [0,1,2] rfl rfl q5 (by omega) (aif rfl (by rw [zN];rfl) rfl rfl rfl rfl) (by simp) ?_ ?_ ?_ (fun k y h=>by simp at h) (fun j=>?_) (fun q y hq hq3 hy=>?_) ?_ ⟨_,rfl,fun _=>by simp only [aep,if_neg hm0,hins];rfl⟩ ?_ (by simp) (fun q hq=>?_) ?_ ?_ ?_ ?_ ?_
      ·simp only [zL,zR,upd,Nat.reduceEqDiff,if_false,if_true];first|done|exact g0
      ·rw [w9 (e1:=aep f e2) q1 rfl,zN];simp only [zL,zR,upd,Nat.reduceEqDiff,if_false,if_true];first|done|exact g1
      ·simp only [zL,zR,upd,Nat.reduceEqDiff,if_false,if_true];first|done|rfl
      ·rw [f14]
       by_cases hj:j = a2
       ·rw [if_pos hj,if_pos hj];simp only [aep,if_neg hm0,hins,mhd];first|rfl|(rw [if_neg hne2];done)|(rw [if_neg hne3];done)
       ·rw [if_neg hj,if_neg hj]
      ·simp only [upd];(repeat rw [if_neg (by omega)]);exact hrow q y hy
      ·simp only [upd];(repeat rw [if_neg (by omega)]);exact hrow _ _ (by rw [WX,q1];rfl)
      ·simp only [upd];(repeat rw [if_neg (by omega)]);exact hrow _ _ (by rw [WW,q1];rfl)
      ·simp only [zy,zC,or_false] at hq ⊢;omega
      ·simp only [zy,zC,or_false];omega
      ·omega
      ·omega
      ·omega
      ·omega
    ·have f10:(q9 4 es2)[a2]? = some (.agg [V.int e2.num,.hd (4 + 3 * a2) 0 e2.hosts.length,.hd (4 + 3 * a2 + 1) 0 e2.machs.length,.hd (4 + 3 * a2 + 2) 0 e2.finds.length]):=by rw [Kl,q1];simp only [Option.map_some,Ji.own,mhd,if_neg hne2]
     have gM:EO[4 + 3 * a2 + 1]? = some (.buf true 1 (e2.machs.map V.int)):=by
      rw [show 4 + 3 * a2 + 1 = 4 + (3 * a2 + 1) by omega]
      exact hrow _ _ (by rw [Ka,q1];simp only [Option.map_some,mob,if_neg hne2])
     have hml:0 < e2.machs.length:=ZI.2 hne2
     obtain ⟨nM,hnM⟩:∃ n,n = 4 + 3 * a2 + 1:=⟨_,rfl⟩
     rw [← hnM] at f10 gM
     have hM2:nM < 2000:=by omega
     have hM3:3≤nM:=by omega
     have u1:∀ q,(nM = q + 2000) = False:=fun q=>eq_false (by omega)
     have u3:∀ q,(q + 2000 = nM) = False:=fun q=>eq_false (by omega)
     have u5:(nM = 2) = False:=eq_false (by omega)
     have u6:(2 = nM) = False:=eq_false (by omega)
     have u7:(0 = nM) = False:=eq_false (by omega)
     have u8:(1 = nM) = False:=eq_false (by omega)
     have v1:∀ q,decide (nM < q + 2000) = true:=fun q=>zn (by omega)
     have wM:ZW (nM = 4 + 3 * a2 + 1):=⟨hnM⟩
     clear hnM
     rcases hfo:YO e2.machs (bsI ltJ e2.machs f.mach) f.mach with _|_
     ·have f9:=iI e2.machs f.mach hml (by omega) hfo
      obtain ⟨hh,hins⟩:∃ hh,aiR ltJ e2.machs f.mach = hh:=⟨_,rfl⟩
      have hne3:¬ hh = []:=by
       have:=(ahj (lt:=ltJ) e2.machs f.mach).2
       rw [hins] at this
       exact ZI.1 this
      rw [hins] at f9
      have hlm:(List.map V.int hh).length = hh.length:=zd _
      repeat' (first|(refine zsk ?_;intro K' hK)|(refine zrg ?_;intro K' hK)|refine zsp ?_|(refine zsc ?_ ?_<;>intro hc<;>first|exact znh|try simp only [znz] at hc)|simp (maxSteps:=1000000) only [go_sem,mTs,g0,g1,g2,g3,e5,hw,f10,f13,hlm,gM,v1,u1,u3,u5,u6,Int.toNat_natCast]|(refine hK _ ?_;clear hK K')|apply zan|(apply apf;(focus exact rfl);(focus first|exact f9);(focus exact rfl);(focus exact rfl);(focus (first|exact rfl|(simp;done))))|(apply akN;(focus exact rfl);(focus exact rfl);(focus first|exact f9);(focus exact rfl);(focus (first|exact rfl|(simp;done)));(focus (first|exact rfl|(simp;done))))|(apply aqC;(focus first|exact rfl|(simp only [upd,if_false, *];exact rfl));(focus first|exact rfl|decide|(simp [rA,rW];done)|(simp [rA,rW];omega)|omega);(focus first|exact rfl|decide|(simp [rA,rW];done)|(simp [rA,rW];omega)|omega);(focus first|exact f9);(focus exact rfl);(focus first|exact rfl|decide|(simp [rA,rW];done)|(simp [rA,rW];omega)|omega);(focus (first|exact rfl|(simp;done)));(focus exact rfl))|(apply aa1;(focus exact rfl);(focus first|exact (z3 _ _ zsd zsd));(focus exact rfl);(focus exact rfl))|(apply abC;(focus exact rfl);(focus exact zrd);(focus exact zrd);(focus first|exact (z3 _ _ zsd zsd));(focus exact rfl);(focus exact rfl);(focus exact zrd))|(apply aa0;(focus first|exact (z2 _ _ zsd zsd)))|(apply abB;(focus first|exact (z2 _ _ zsd zsd));(focus exact zrd))|((first|apply QR|apply QG);(focus first|exact (z0 _ _ zsd zsd).b))|exact zsq|fail)
      all_goals
       have wM':=wM.h
       refine hL _ (k + 1) (ah4 [0,1,2] (nmS 4 a2 (4 + 3 * a2) 12000 (4 + 3 * a2 + 2))) (by omega) (by omega) ?_
       rw [hm,← q2]
       refine aj0 (N:=4) (es0:=es2) (e1:=aep f e2) (els:=(q9 4 es2).set a2 (.agg [V.int e2.num,.hd (4 + 3 * a2) 0 e2.hosts.length,.hd 12000 0 hh.length,.hd (4 + 3 * a2 + 2) 0 e2.finds.length])) [0,1,2] rfl rfl q5 (by omega) (aif rfl (by rw [zN];rfl) rfl rfl rfl rfl) (by simp) ?_ ?_ ?_ (fun k y h=>by simp at h) (fun j=>?_) (fun q y hq hq3 hy=>?_) ?_ ⟨.buf true 1 (hh.map V.int),by simp only [upd,u3,Nat.reduceEqDiff,if_false,if_true],fun _=>by simp only [aep,if_neg hm0,hins]⟩ ?_ (by simp) (fun q hq=>?_) ?_ ?_ ?_ ?_ ?_
       ·simp only [zL,zR,upd,Nat.reduceEqDiff,if_false,if_true,u6,u7,u8];first|done|exact g0
       ·rw [w9 (e1:=aep f e2) q1 rfl,zN];simp only [zL,zR,upd,Nat.reduceEqDiff,if_false,if_true,u6,u7,u8];first|done|exact g1
       ·simp only [zL,zR,upd,Nat.reduceEqDiff,if_false,if_true,u6,u7,u8];first|done|rfl
       ·rw [f14]
        by_cases hj:j = a2
        ·rw [if_pos hj,if_pos hj];simp only [aep,if_neg hm0,hins,mhd];first|rfl|(rw [if_neg hne2];done)|(rw [if_neg hne3];done)
        ·rw [if_neg hj,if_neg hj]
       ·simp only [upd];(repeat rw [if_neg (by omega)]);exact hrow q y hy
       ·simp only [upd];(repeat rw [if_neg (by omega)]);exact hrow _ _ (by rw [WX,q1];rfl)
       ·simp only [upd];(repeat rw [if_neg (by omega)]);exact hrow _ _ (by rw [WW,q1];rfl)
       ·simp only [zy,zC,or_false] at hq ⊢;omega
       ·simp only [zy,zC,or_false];omega
       ·omega
       ·omega
       ·omega
       ·omega
     ·have f9:=iX e2.machs f.mach hml (by omega) hfo
      have hins:aiR ltJ e2.machs f.mach = e2.machs:=by rw [aiR,if_pos hfo]
      repeat' (first|(refine zsk ?_;intro K' hK)|(refine zrg ?_;intro K' hK)|refine zsp ?_|(refine zsc ?_ ?_<;>intro hc<;>first|exact znh|try simp only [znz] at hc)|simp (maxSteps:=1000000) only [go_sem,mTs,g0,g1,g2,g3,e5,hw,f10,f13,gM,v1,u1,u3,u5,u6,Int.toNat_natCast]|(refine hK _ ?_;clear hK K')|apply zan|(apply aiC;(focus exact rfl);(focus first|exact f9);(focus exact rfl);(focus exact rfl);(focus (first|exact rfl|(simp;done))))|(apply afr;(focus first|exact rfl|(simp only [upd,if_false, *];exact rfl));(focus first|exact rfl|decide|(simp [rA,rW];done)|(simp [rA,rW];omega)|omega);(focus first|exact rfl|decide|(simp [rA,rW];done)|(simp [rA,rW];omega)|omega);(focus first|exact f9);(focus exact rfl);(focus first|exact rfl|decide|(simp [rA,rW];done)|(simp [rA,rW];omega)|omega);(focus (first|exact rfl|(simp;done)));(focus exact rfl))|(apply aa1;(focus exact rfl);(focus first|exact (z3 _ _ zsd zsd));(focus exact rfl);(focus exact rfl))|(apply abC;(focus exact rfl);(focus exact zrd);(focus exact zrd);(focus first|exact (z3 _ _ zsd zsd));(focus exact rfl);(focus exact rfl);(focus exact zrd))|(apply aa0;(focus first|exact (z2 _ _ zsd zsd)))|(apply abB;(focus first|exact (z2 _ _ zsd zsd));(focus exact zrd))|((first|apply QR|apply QG);(focus first|exact (z0 _ _ zsd zsd).b))|exact zsq|fail)
      all_goals
       have wM':=wM.h
       refine hL _ (k + 1) (ah4 [0,1,2] (nmS 4 a2 (4 + 3 * a2) nM (4 + 3 * a2 + 2))) (by omega) (by omega) ?_
       rw [hm,← q2]
       refine aj0 (N:=4) (es0:=es2) (e1:=aep f e2) (els:=(q9 4 es2).set a2 (.agg [V.int e2.num,.hd (4 + 3 * a2) 0 e2.hosts.length,.hd nM 0 e2.machs.length,.hd (4 + 3 * a2 + 2) 0 e2.finds.length])) [0,1,2] rfl rfl q5 (by omega) (aif rfl (by rw [zN];rfl) rfl rfl rfl rfl) (by simp) ?_ ?_ ?_ (fun k y h=>by simp at h) (fun j=>?_) (fun q y hq hq3 hy=>?_) ?_ ⟨.buf true 1 (e2.machs.map V.int),by simp only [upd,u5,if_false,if_true,gM],fun _=>by simp only [aep,if_neg hm0,hins]⟩ ?_ (by simp) (fun q hq=>?_) ?_ ?_ ?_ ?_ ?_
       ·simp only [zL,zR,upd,Nat.reduceEqDiff,if_false,if_true,u6,u7,u8];first|done|exact g0
       ·rw [w9 (e1:=aep f e2) q1 rfl,zN];simp only [zL,zR,upd,Nat.reduceEqDiff,if_false,if_true,u6,u7,u8];first|done|exact g1
       ·simp only [zL,zR,upd,Nat.reduceEqDiff,if_false,if_true,u6,u7,u8];first|done|rfl
       ·rw [f14]
        by_cases hj:j = a2
        ·rw [if_pos hj,if_pos hj];simp only [aep,if_neg hm0,hins,mhd];first|rfl|(rw [if_neg hne2];done)|(rw [if_neg hne3];done)
        ·rw [if_neg hj,if_neg hj]
       ·simp only [upd];(repeat rw [if_neg (by omega)]);exact hrow q y hy
       ·simp only [upd];(repeat rw [if_neg (by omega)]);exact hrow _ _ (by rw [WX,q1];rfl)
       ·simp only [upd];(repeat rw [if_neg (by omega)]);exact hrow _ _ (by rw [WW,q1];rfl)
       ·simp only [zy,zC,or_false] at hq ⊢;omega
       ·simp only [zy,zC,or_false];omega
       ·omega
       ·omega
       ·omega
       ·omega
end Av
end
