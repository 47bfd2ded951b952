/- Slices of bytes. -/
import Derived.Test.YtjnbmkoekngljaaGreatDoorK13
import Derived.Test.YtjnbmkoekngljaaGreatDoorK11
import Derived.Test.YtjnbmkoekngljaaGreatDoorK12
set_option linter.unusedVariables false
set_option linter.unusedSimpArgs false
section
set_option maxRecDepth 10000
set_option maxHeartbeats 4000000
namespace Av
open Go
attribute [local irreducible] AWp x8 adc afE awS awC am1 awQ anX Yf abo ama awR acg awB okR agS ris
def ajq (lt:Int→Int→Bool) (out:List Int) (x:Int):Nat→Nat
 | 0=>0
 | k + 1=>if lt x (out.getD k 0) = true then ajq lt out x k else k + 1
theorem aqJ (lt:Int→Int→Bool) (out:List Int) (x:Int):∀ k,ajq lt out x k≤k
 | 0=>Nat.le_refl _
 | k + 1=>by
   rw [ajq];split
   ·exact Nat.le_succ_of_le (aqJ lt out x k)
   ·exact Nat.le_refl _
def auY (lt:Int→Int→Bool) (out:List Int) (x:Int):List Int:=out.take (ajq lt out x out.length)++[x]++out.drop (ajq lt out x out.length)
def xY (lt:Int→Int→Bool) (l:List Int):List Int:=l.foldl (auY lt) []
theorem auX (lt:Int→Int→Bool) (out:List Int) (x:Int):(auY lt out x).length = out.length + 1:=by
 have:=aqJ lt out x out.length
 simp [auY];omega
theorem amK (lt:Int→Int→Bool):∀ (l out:List Int),(l.foldl (auY lt) out).length = out.length + l.length
 | [],out=>by simp
 | x :: r,out=>by rw [List.foldl_cons,amK lt r,auX];simp;omega
theorem aoi (lt:Int→Int→Bool) (l:List Int):(xY lt l).length = l.length:=by rw [xY,amK];simp
theorem asI (lt:Int→Int→Bool) (x:Int):xY lt [x] = [x]:=by simp [xY,auY,ajq]
abbrev ltS (x y:Int):Bool:=decide (afB y < afB x)
theorem aty (out:List Int) (x:Int):∀ k,ajq ltS out x k = atz out x k
 | 0=>rfl
 | k + 1=>by rw [ajq,atz,aty out x k];simp only [ltS,decide_eq_true_eq]
theorem av2 (l:List Int):xY ltS l = abC l:=by
 have:auY ltS = apD:=by funext out x;rw [auY,apD,aty]
 rw [xY,abC,this]
def ajn (lt:Int→Int→Bool) (xs:List Int) (a i:Nat):List Int:=xs.take a++(xY lt ((xs.take i).drop a)++xs.drop i)
def WI:AC:=Qa [0] (.reg [xo 2 (.mknil 1)]) (Qa [0] (Qa [0,4] (.reg [mv 3 0,xo 4 (.isnil false (.t 3))]) (.cond (.t 4) (Qa [2] (.reg [xo 2 (.mknil 1)]) .ret) .skip)) (Qa [2] (.reg [xo 5 (.bslice 0 1 false [vi0] []),mv 6 0,xo 7 (.append 1 8 [vi0] (.t 5) (.t 6)),mv 2 7]) .ret)) def r_slices_Clone___int_int:List Jl:=[.tmp 2]
def Ws (Γ:Env) (f:Nat):Prop:=∀ (l:List Int) (hl:l.length < 2 ^ 34),EvW Γ f [.sl 1 (l.map V.int)] 1 (l.map V.int)
theorem aaD {Γ:Env} {f:Nat} (h:Has Γ.P f 8 WI r_slices_Clone___int_int) :Ws Γ f:=by
 intro l hl
 refine abW h (by simp) (by first|exact ag1 _|exact agO _) fun C hC hm=>?_
 subst hC
 unfold WI
 rcases l with _|⟨x,r⟩
 ·repeat' (first|(refine zsk ?_;intro K' hK)|refine zsp ?_|(refine zsc ?_ ?_<;>intro hc<;>first|exact znh|try simp only [znz] at hc)|simp (maxSteps:=1000000) only [go_sem]|(refine hK _ ?_;clear hK K')|apply zan|exact zsq|fail)
  intro t
  rcases t with _|_
  ·repeat' (first|(refine zsk ?_;intro K' hK)|refine zsp ?_|(refine zsc ?_ ?_<;>intro hc<;>first|exact znh|try simp only [znz] at hc)|simp (maxSteps:=1000000) only [go_sem]|(refine hK _ ?_;clear hK K')|apply zan|exact zsq|fail)
   all_goals (refine amM (xs:=[]) _ _ rfl ?_ ?_<;>first|rfl|(simp;done))
  ·repeat' (first|(refine zsk ?_;intro K' hK)|refine zsp ?_|(refine zsc ?_ ?_<;>intro hc<;>first|exact znh|try simp only [znz] at hc)|simp (maxSteps:=1000000) only [go_sem]|(refine hK _ ?_;clear hK K')|apply zan|exact zsq|fail)
   all_goals (refine amM (xs:=[]) _ _ rfl ?_ ?_<;>first|rfl|(simp;done))
 ·repeat' (first|(refine zsk ?_;intro K' hK)|refine zsp ?_|(refine zsc ?_ ?_<;>intro hc<;>first|exact znh|try simp only [znz] at hc)|simp (maxSteps:=1000000) only [go_sem]|(refine hK _ ?_;clear hK K')|apply zan|exact zsq|fail)
  all_goals first
   | (simp only [List.length_map,List.length_cons] at hl ⊢;omega)
   | (refine amM (xs:=V.int x :: List.map V.int r) _ _ rfl ?_ ?_<;>first|rfl|(simp;done))
theorem asW {lt:Int→Int→Bool} {xs:List Int} {a:Nat} (h:a < xs.length):ajn lt xs a (a + 1) = xs:=by
 have e:(xs.take (a + 1)).drop a = [xs[a]]:=by
  rw [List.take_add_one,List.getElem?_eq_getElem h,List.drop_append_of_le_length (by simp;omega),List.drop_eq_nil_of_le (by simp;omega)];rfl
 rw [ajn,e,asI,List.singleton_append,← List.drop_eq_getElem_cons h,List.take_append_drop]
def xX (P S:List Int) (x:Int) (R:List Int) (q:Nat):List Int:=P++(S.take q++x :: (S.drop q++R))
theorem asG {P S R:List Int} {x:Int} {q:Nat}:(xX P S x R q).length = P.length + S.length + 1 + R.length:=by
 simp only [xX,List.length_append,List.length_cons,List.length_take,List.length_drop];omega
theorem avZ {P S R:List Int} {x:Int} {q:Nat} (h:q≤S.length):(xX P S x R q)[P.length + q]? = some x:=by
 have:(S.take q).length = q:=by simp;omega
 rw [xX,List.getElem?_append_right (by omega),List.getElem?_append_right (by omega),this]
 simp
theorem avY {P S R:List Int} {x:Int} {q:Nat} (h:q < S.length):(xX P S x R (q + 1))[P.length + q]? = some S[q]:=by
 rw [xX,List.getElem?_append_right (by omega),List.getElem?_append_left (by simp;omega),List.getElem?_take]
 simp [h]
theorem asM (S y x:Int) (T:List Int):∀ A:List Int,((A++y :: S :: T).set (A.length + 1) y).set A.length x = A++x :: y :: T
 | []=>rfl
 | z :: A=>by
   have:=asM S y x T A
   simp only [List.cons_append,List.length_cons,List.set_cons_succ,this]
theorem asF {P S R:List Int} {x:Int} {q:Nat} (h:q < S.length):((xX P S x R (q + 1)).set (P.length + (q + 1)) S[q]).set (P.length + q) x = xX P S x R q:=by
 have e1:S.take (q + 1) = S.take q++[S[q]]:=by rw [List.take_add_one,List.getElem?_eq_getElem h];rfl
 have e2:S.drop q = S[q] :: S.drop (q + 1):=List.drop_eq_getElem_cons h
 have e3:(S.take q).length = q:=by simp;omega
 have e4:xX P S x R (q + 1) = (P++S.take q)++S[q] :: x :: (S.drop (q + 1)++R):=by rw [xX,e1];simp only [List.append_assoc,List.cons_append,List.nil_append]
 have e5:xX P S x R q = (P++S.take q)++x :: S[q] :: (S.drop (q + 1)++R):=by rw [xX,e2];simp only [List.append_assoc,List.cons_append,List.nil_append]
 have hl:(P++S.take q).length = P.length + q:=by rw [List.length_append,e3]
 have hl2:P.length + (q + 1) = (P++S.take q).length + 1:=by omega
 rw [e4,e5,hl2,← hl]
 exact asM _ _ _ _ _
def XQ:List AO:=[mv 18 9,mv 19 1,bn 20 .gtr 18 19,mv 21 20,mg 22 3 21 true,mg 23 0 21 true,mg 24 9 21 true,xg 25 (.iaddr 1 (.t 23) (.t 24)) 21 true,xg 26 (.load false 1 (.t 25)) 21 true,mg 27 0 21 true,mg 28 9 21 true,xg 29 (.bin .sub (.t 28) (.c (V.int 1))) 21 true,xg 30 (.iaddr 1 (.t 27) (.t 29)) 21 true,xg 31 (.load false 1 (.t 30)) 21 true,xg 32 (.callv (.t 22) [(.t 26),(.t 31)]) 21 true,xg 33 (.bin .lss (.t 32) (.c (V.int 0))) 21 true,xo 34 (.pick (.t 21) (.t 33) (.c (V.bool false)))]
def XU:List (List Nat):=[[],[],[0,1],[2],[3],[3],[3],[5,6,3],[7,3],[3],[3],[10,3],[9,11,3],[12,3],[4,8,13,3,3],[14,3],[3,15]]
def XK:OT:=.one 0 (.one 1 (.one 2 (.one 3 (.one 4 (.one 5 (.one 6 (.one 7 (.one 8 (.one 9 (.one 10 (.one 11 (.one 12 (.one 13 (.one 14 (.one 15 (.one 16 .done))))))))))))))))
@[go_sem] def XN:OP:=oN 0 (mv 18 9) (oN 1 (mv 19 1) (oN 2 (bn 20 .gtr 18 19) (oN 3 (mv 21 20) (oN 4 (mg 22 3 21 true) (oN 5 (mg 23 0 21 true) (oN 6 (mg 24 9 21 true) (oN 7 (xg 25 (.iaddr 1 (.t 23) (.t 24)) 21 true) (oN 8 (xg 26 (.load false 1 (.t 25)) 21 true) (oN 9 (mg 27 0 21 true) (oN 10 (mg 28 9 21 true) (oN 11 (xg 29 (.bin .sub (.t 28) (.c (V.int 1))) 21 true) (oN 12 (xg 30 (.iaddr 1 (.t 27) (.t 29)) 21 true) (oN 13 (xg 31 (.load false 1 (.t 30)) 21 true) (.one 14 true [] (xg 32 (.callv (.t 22) [(.t 26),(.t 31)]) 21 true) (oN 15 (xg 33 (.bin .lss (.t 32) (.c (V.int 0))) 21 true) (oN 16 (xo 34 (.pick (.t 21) (.t 33) (.c (V.bool false)))) .done))))))))))))))))
instance:RG [14] XK (XN) (XQ) XU 17 (fun _=>true):=⟨rfl,by kernel_rfl,by kernel_rfl⟩
def XP:List AO:=[mv 37 0,mv 38 9,mv 39 0,mv 40 9,bc 41 .sub 40 (V.int 1),mv 42 0,mv 43 9,bc 44 .sub 43 (V.int 1),ia 45 1 42 44,ld 46 1 45,mv 47 0,mv 48 9,ia 49 1 47 48,ld 50 1 49,ia 51 1 37 38,xs 1 51 46,ia 52 1 39 41,xs 1 52 50]
def XT:List (List Nat):=[[],[],[],[],[3],[],[],[6],[5,7],[8],[],[],[10,11],[12],[0,1,0,1,5,6,7,8,9,13],[14,9,0,1,5,6,7,8,9,13],[2,4,0,1,2,3,4,5,6,7,8,9,10,11,12,13,14,15],[16,13,15,0,1,2,3,4,5,6,7,8,9,10,11,12,13,14,15]]
def XJ:OT:=.one 0 (.one 1 (.one 2 (.one 3 (.one 4 (.one 5 (.one 6 (.one 7 (.one 10 (.one 11 (.or 8 (.or 9 (.one 12 (.one 13 (.one 14 (.one 15 (.one 16 (.one 17 .done)))))) (.or 12 (.or 9 (.one 13 (.one 14 (.one 15 (.one 16 (.one 17 .done))))) (.or 13 (.one 9 (.one 14 (.one 15 (.one 16 (.one 17 .done))))) .done)) .done)) (.or 12 (.or 8 (.or 9 (.one 13 (.one 14 (.one 15 (.one 16 (.one 17 .done))))) (.or 13 (.one 9 (.one 14 (.one 15 (.one 16 (.one 17 .done))))) .done)) (.or 13 (.one 8 (.one 9 (.one 14 (.one 15 (.one 16 (.one 17 .done)))))) .done)) .done)))))))))))
@[go_sem] def Xw:OP:=.one 14 true [] (ia 51 1 37 38) (.one 15 true [] (xs 1 51 46) (.one 16 true [] (ia 52 1 39 41) (.one 17 true [] (xs 1 52 50) .done)))
@[go_sem] def Xv:OP:=.one 13 true [] (ld 50 1 49) Xw
@[go_sem] def Xu:OP:=.one 9 true [] (ld 46 1 45) Xw
@[go_sem] def Xt:OP:=.or 9 true [] (ld 46 1 45) Xv (.or 13 true [] (ld 50 1 49) Xu .done)
@[go_sem] def XM:OP:=oN 0 (mv 37 0) (oN 1 (mv 38 9) (oN 2 (mv 39 0) (oN 3 (mv 40 9) (oN 4 (bc 41 .sub 40 (V.int 1)) (oN 5 (mv 42 0) (oN 6 (mv 43 9) (oN 7 (bc 44 .sub 43 (V.int 1)) (oN 10 (mv 47 0) (oN 11 (mv 48 9) (.or 8 true [] (ia 45 1 42 44) (.or 9 true [] (ld 46 1 45) (.one 12 true [] (ia 49 1 47 48) Xv) (.or 12 true [] (ia 49 1 47 48) Xt .done)) (.or 12 true [] (ia 49 1 47 48) (.or 8 true [] (ia 45 1 42 44) Xt (.or 13 true [] (ld 50 1 49) (.one 8 true [] (ia 45 1 42 44) Xu) .done)) .done)))))))))))
instance:RG [8,9,12,13,14,16] XJ (XM) (XP) XT 18 (fun _=>false):=⟨rfl,by kernel_rfl,by kernel_rfl⟩
def YM:AC:=Qa [0,1,2,3,8] (.reg [mv 10 1,bc 11 .add 10 (V.int 1),mv 8 11]) (.block 0 (JH [0,1,2,3,8] (Qa [0,1,2,3,8] (Qa [0,1,2,3,8,14] (.reg [mv 12 8,mv 13 2,bn 14 .lss 12 13]) (.cond (.t 14) .skip (.exit 0))) (Qa [0,1,2,3,8] (.block 1 (Qa [0,1,2,3,8,9] (.reg [mv 17 8,mv 9 17]) (.block 2 (JH [0,1,2,3,8,9] (Qa [0,1,2,3,8,9] (Qa [0,1,2,3,8,9,34] (yh [14] XK (XN) (XQ) XU) (.cond (.t 34) .skip (.exit 2))) (Qa [0,1,2,3,8,9] (.block 3 (yh [8,9,12,13,14,16] XJ (XM) (XP) XT)) (.reg [mv 35 9,bc 36 .sub 35 (V.int 1),mv 9 36]))))))) (.reg [mv 15 8,bc 16 .add 15 (V.int 1),mv 8 16]))))) def r_slices_insertionSortCmpFunc_int:List Jl:=[]
def YB (Γ:Env) (f:Nat):Prop:=∀ (xs:List Int) (a b:Nat) (g:Nat) (c:Int→Int→Int) (hcmp:∀ x y,EvN Γ g [V.int x,V.int y] (V.int (c x y))) (hab:a≤b) (hb:b≤xs.length) (hx:xs.length < 2 ^ 34),EvL Γ f [V.int a,V.int b,.clo g []] 1 (xs.map V.int) (.tup []) ((if a = b then xs.map V.int else (ajn (fun x y=>decide (c x y < 0)) xs a b).map V.int))
attribute [local go_sem] QZ in
theorem KF {Γ:Env} {f:Nat} (h:Has Γ.P f 53 YM r_slices_insertionSortCmpFunc_int) :YB Γ f:=by
 intro xs a b g c hcmp hab hb hx
 refine agj h (by simp) (by simp only [V.closed,closedL,V.noSl,abd,and_self,and_true,true_and]) fun C hC hm=>?_
 subst hC
 unfold YM
 have hwa:=Qj (k:=a) (by omega)
 by_cases he:a = b
 ·subst he
  rw [if_pos rfl]
  have e1:decide (((a + 1:Nat):Int) < (a:Int)) = false:=by simp;omega
  (have zx:=hwa);refine zgo ?_;repeat' first|exact zt|apply zan|intro hc
  refine QY (ι:=Unit) (fun _=>True) (fun _=>QZ [(0,.hd 0 0 (xs.map V.int).length),(1,V.int a),(2,V.int a),(3,.clo g []),(8,V.int (a + 1:Nat))] [(0,.buf true 1 (xs.map V.int))] 1) (fun _=>0) () trivial (Qk []) (zwg []) fun j hj K'' hL2=>?_
  (have zx:=e1);refine zgo ?_;repeat' first|exact zt|apply zan|intro hc
  all_goals first|(refine ajc _ rfl rfl (by simp only [go_sem]) ?_<;>first|rfl|(simp;done))
 ·rw [if_neg he]
  (have zx:=hwa);refine zgo ?_;repeat' first|exact zt|apply zan|intro hc
  generalize hlt:(fun x y=>decide (c x y < 0)) = lt
  have hlt2:∀ x y,decide (c x y < 0) = lt x y:=by intro x y;rw [← hlt]
  refine QY (ι:=Nat) (fun i=>a + 1≤i∧i≤b) (fun i=>QZ [(0,.hd 0 0 (xs.map V.int).length),(1,V.int a),(2,V.int b),(3,.clo g []),(8,V.int i)] [(0,.buf true 1 ((ajn lt xs a i).map V.int))] 1) (fun i=>b - i) (a + 1) ⟨by omega,by omega⟩ (Qk []) (QR [] zwa (by rw [asW (by omega)];simp only [go_sem,zwl];(repeat' (first|rfl|apply And.intro|omega|exact fun h=>h|exact Exists.intro _ rfl))) (by simp) (by simp) (by omega)) fun i hi K' hL=>?_
  obtain ⟨hi1,hi2⟩:=hi
  by_cases hib:i = b
  ·subst hib
   have e1:decide ((i:Int) < (i:Int)) = false:=by simp
   (have zx:=e1);refine zgo ?_;repeat' first|exact zt|apply zan|intro hc
   all_goals first|(refine ajc _ rfl rfl (by simp only [go_sem]) ?_<;>first|rfl|(simp;done))
  ·have e1:decide ((i:Int) < (b:Int)) = true:=by simp;omega
   have hwi:=Qj (k:=i) (by omega)
   obtain ⟨x,hget⟩:∃ x,xs[i]? = some x:=⟨_,List.getElem?_eq_getElem (by omega)⟩
   have hdx:xs.drop i = x :: xs.drop (i + 1):=by
    rw [List.drop_eq_getElem_cons (by omega)];congr 1
    rw [List.getElem?_eq_getElem (by omega)] at hget;exact Option.some.inj hget
   have hP:(xs.take a).length = a:=by simp;omega
   have hS:(xY lt ((xs.take i).drop a)).length = i - a:=by rw [aoi];simp;omega
   have hnext:ajn lt xs a (i + 1) = xs.take a++(auY lt (xY lt ((xs.take i).drop a)) x++xs.drop (i + 1)):=by
    have:(xs.take (i + 1)).drop a = (xs.take i).drop a++[x]:=by
     rw [List.take_add_one,hget,List.drop_append_of_le_length (by simp;omega)];rfl
    rw [ajn,this,xY,List.foldl_append];rfl
   have hnow:ajn lt xs a i = xX (xs.take a) (xY lt ((xs.take i).drop a)) x (xs.drop (i + 1)) (i - a):=by
    rw [ajn,hdx,xX,← hS,List.take_length,List.drop_length];rfl
   have hcell:∀ q,xX (xs.take a) (xY lt ((xs.take i).drop a)) x (xs.drop (i + 1)) q = xX (xs.take a) (xY lt ((xs.take i).drop a)) x (xs.drop (i + 1)) q:=fun q=>rfl
   rw [hnow]
   generalize xY lt ((xs.take i).drop a) = S at *
   have hPg:=hP
   generalize xs.take a = P at *
   have hR:(xs.drop (i + 1)).length = xs.length - (i + 1):=List.length_drop
   generalize xs.drop (i + 1) = R at *
   (have zx:=e1);refine zgo ?_;repeat' first|exact zt|apply zan|intro hc
   refine QY (ι:=Nat) (fun q=>q≤i - a∧ajq lt S x q = ajq lt S x S.length) (fun q=>QZ [(0,.hd 0 0 (xs.map V.int).length),(1,V.int a),(2,V.int b),(3,.clo g []),(8,V.int i),(9,V.int (a + q:Nat))] [(0,.buf true 1 ((xX P S x R q).map V.int))] 1) (fun q=>q) (i - a) ⟨by omega,by rw [hS]⟩ (Qk []) (QR [] (by rw [show a + (i - a) = i by omega];simp only [go_sem,zwl];(repeat' (first|rfl|apply And.intro|omega|exact fun h=>h|exact Exists.intro _ rfl))) zwa (by simp) (by simp) (by omega)) fun q hq K'' hL2=>?_
   obtain ⟨hq1,hq2⟩:=hq
   have hfin:ajq lt S x S.length = q→xX P S x R q = ajn lt xs a (i + 1):=by
    intro h
    rw [hnext,auY,h];simp only [xX,List.append_assoc,List.singleton_append,List.cons_append,List.nil_append]
   have hlen:(xX P S x R q).length = xs.length:=by rw [asG,hP,hS,hR];omega
   have gx:=avZ (P:=P) (R:=R) (x:=x) (q:=q) (S:=S) (by omega)
   rw [hP] at gx
   rcases q with _|q
   ·have e2:decide (((a + 0:Nat):Int) > (a:Int)) = false:=by simp
    have hf:=hfin hq2.symm
    (have zx:=And.intro e2 hwi);refine zgo ?_;repeat' first|exact zt|apply zan|intro hc
    rw [hf]
    exact hL _ (i + 1) (Qk []) ⟨by omega,by omega⟩ (by omega) (zwg [])
   ·have hqS:q < S.length:=by omega
    have e2:decide (((a + (q + 1):Nat):Int) > (a:Int)) = true:=decide_eq_true (by omega)
    have hwj:IntKind.i64.wrap (((a + (q + 1):Nat):Int) - 1) = ((a + q:Nat):Int):=by rw [Yv (by omega) (by omega)];omega
    have gy:=avY (P:=P) (R:=R) (x:=x) (q:=q) (S:=S) hqS
    rw [hP] at gy
    have hset:=asF (P:=P) (R:=R) (x:=x) (q:=q) (S:=S) hqS
    rw [hP] at hset
    have hyd:S.getD q 0 = S[q]:=by rw [List.getD_eq_getElem?_getD,List.getElem?_eq_getElem hqS];rfl
    rw [ajq,hyd] at hq2
    generalize S[q] = y at *
    have hcc:=(hcmp x y).b
    have hd:=hlt2 x y
    rcases hl:lt x y with _|_
    ·rw [hl] at hq2 hd
     simp only [Bool.false_eq_true,if_false] at hq2
     have hf:=hfin hq2.symm
     (have zx:=And.intro e2 (And.intro hwi (And.intro hwj (And.intro gx (And.intro gy hd)))));refine zgo ?_;repeat' first|exact zt|apply zan|intro hc
     all_goals
      rw [hf]
      exact hL _ (i + 1) (Qk []) ⟨by omega,by omega⟩ (by omega) (zwg [])
    ·rw [hl] at hq2 hd
     simp only [if_true] at hq2
     have hs1:((List.map V.int (xX P S x R (q + 1))).set (a + (q + 1)) (V.int y))[a + q]? = some (V.int y):=by
      rw [List.getElem?_set_ne (by omega),List.getElem?_map,gy];rfl
     have hs2:((List.map V.int (xX P S x R (q + 1))).set (a + (q + 1)) (V.int y)).set (a + q) (V.int x) = List.map V.int (xX P S x R q):=by
      rw [← hset,List.map_set,List.map_set]
     (have zx:=And.intro e2 (And.intro hwi (And.intro hwj (And.intro gx (And.intro gy (And.intro hd (And.intro hs1 hs2)))))));refine zgo ?_;repeat' first|exact zt|apply zan|intro hc
     all_goals exact hL2 _ q (Qk []) ⟨by omega,hq2⟩ (by omega) (zwg [])
theorem asX {lt:Int→Int→Bool} (xs:List Int):ajn lt xs 0 xs.length = xY lt xs:=by simp [ajn]
theorem awp (lt:Int→Int→Bool) (xs:List Int):(if 0 = xs.length then xs.map V.int else (ajn lt xs 0 xs.length).map V.int) = (xY lt xs).map V.int:=by
 split
 ·rename_i h
  have:xs = []:=List.eq_nil_of_length_eq_zero h.symm
  subst this;rfl
 ·rw [asX]
def X0 (QT Yy:Nat):AC:=Qa [0,1,2,6] (.reg [mc 6 (V.int 20)]) (Qa [0,1,2,6,7,8] (.reg [mv 10 6,mc 7 (V.int 0),mv 8 10]) (Qa [0,1,2,6,7] (.block 0 (JH [0,1,2,6,7,8] (Qa [0,1,2,6,7,8] (Qa [0,1,2,6,7,8,13] (.reg [mv 11 8,mv 12 1,bn 13 .leq 11 12]) (.cond (.t 13) .skip (.exit 0))) (.block 1 (Qa [0,1,2,6,8] (.reg [mv 14 0,mv 15 7,mv 16 8,mv 17 2,cl 18 QT [14,15,16,17]]) (Qa [0,1,2,6,7,8] (.reg [mv 19 8,mv 7 19]) (.reg [mv 20 8,mv 21 6,bn 22 .add 20 21,mv 8 22]))))))) (Qa [0,1,2,6] (.reg [mv 23 0,mv 24 7,mv 25 1,mv 26 2,cl 27 QT [23,24,25,26]]) (.block 2 (JH [0,1,2,6] (Qa [0,1,2,6] (Qa [0,1,2,6,30] (.reg [mv 28 6,mv 29 1,bn 30 .lss 28 29]) (.cond (.t 30) .skip (.exit 2))) (.block 3 (Qa [0,1,2,6,7,8] (.reg [mv 31 6,xo 32 (.bin .mul (.c (V.int 2)) (.t 31)),mc 7 (V.int 0),mv 8 32]) (Qa [0,1,2,6,7] (.block 4 (JH [0,1,2,6,7,8] (Qa [0,1,2,6,7,8] (Qa [0,1,2,6,7,8,35] (.reg [mv 33 8,mv 34 1,bn 35 .leq 33 34]) (.cond (.t 35) .skip (.exit 4))) (.block 5 (Qa [0,1,2,6,8] (.reg [mv 36 0,mv 37 7,mv 38 7,mv 39 6,bn 40 .add 38 39,mv 41 8,mv 42 2,cl 43 Yy [36,37,40,41,42]]) (Qa [0,1,2,6,7,8] (.reg [mv 44 8,mv 7 44]) (.reg [mv 45 8,mv 46 6,xo 47 (.bin .mul (.c (V.int 2)) (.t 46)),bn 48 .add 45 47,mv 8 48]))))))) (Qa [0,1,2,6] (Qa [0,1,2,6,7,9] (.reg [mv 49 7,mv 50 6,bn 51 .add 49 50,mv 9 51]) (Qa [0,1,2,6,7,9,54] (.reg [mv 52 9,mv 53 1,bn 54 .lss 52 53]) (.cond (.t 54) (.reg [mv 55 0,mv 56 7,mv 57 9,mv 58 1,mv 59 2,cl 60 Yy [55,56,57,58,59]]) .skip))) (.reg [mv 61 6,bc 62 .mul 61 (V.int 2),mv 6 62]))))))))))) def r_slices_stableCmpFunc_int:List Jl:=[]
def XV (Γ:Env) (f:Nat):Prop:=∀ (xs:List Int) (g:Nat) (c:Int→Int→Int) (hcmp:∀ x y,EvN Γ g [V.int x,V.int y] (V.int (c x y))) (hx:xs.length≤20),EvL Γ f [V.int xs.length,.clo g []] 1 (xs.map V.int) (.tup []) (((xY (fun x y=>decide (c x y < 0)) xs).map V.int))
attribute [local go_sem] QZ in
theorem wB {Γ:Env} {f QT Yy:Nat} (h:Has Γ.P f 63 (X0 QT Yy) r_slices_stableCmpFunc_int) (z0:YB Γ QT):XV Γ f:=by
 intro xs g c hcmp hx
 refine agj h (by simp) (by simp only [V.closed,closedL,V.noSl,abd,and_self,and_true,true_and]) fun C hC hm=>?_
 subst hC
 unfold X0
 have hi:=z0 xs 0 xs.length g c hcmp (by omega) (by omega) (by omega)
 rw [awp] at hi
 have hi0:EvL C.env QT [V.int 0,V.int xs.length,.clo g []] 1 (xs.map V.int) (.tup []) ((xY (fun x y=>decide (c x y < 0)) xs).map V.int):=hi
 have hln:(xY (fun x y=>decide (c x y < 0)) xs).length = xs.length:=aoi _ _
 have e9:decide ((20:Int) < (xs.length:Int)) = false:=by simp;omega
 by_cases h20:xs.length = 20
 ·have hj:=z0 (xY (fun x y=>decide (c x y < 0)) xs) 20 20 g c hcmp (by omega) (by omega) (by omega)
  rw [if_pos rfl] at hj
  generalize xY (fun x y=>decide (c x y < 0)) xs = ys at *
  rw [h20] at hi0 e9 ⊢
  have hj0:EvL C.env QT [V.int 20,V.int 20,.clo g []] 1 (ys.map V.int) (.tup []) (ys.map V.int):=hj
  have e20:((20:Nat):Int) = 20:=rfl
  rw [e20] at hi0 e9 ⊢
  refine zgo ?_;repeat' first|exact zt|apply zan|intro hc
  refine QY (ι:=Bool) (fun _=>True) (fun t=>QZ [(0,.hd 0 0 (xs.map V.int).length),(1,V.int 20),(2,.clo g []),(6,V.int 20),(7,V.int (if t then 0 else 20)),(8,V.int (if t then 20 else 40))] [(0,.buf true 1 ((if t then xs else ys).map V.int))] 1) (fun t=>if t then 1 else 0) true trivial (Qk []) (zwg []) fun t ht K' hL=>?_
  rcases t with _|_
  ·simp only [Bool.false_eq_true,if_false]
   refine zgo ?_;repeat' first|exact zt|apply zan|intro hc
   refine QY (ι:=Unit) (fun _=>True) (fun _=>QZ [(0,.hd 0 0 (xs.map V.int).length),(1,V.int 20),(2,.clo g []),(6,V.int 20)] [(0,.buf true 1 (ys.map V.int))] 1) (fun _=>0) () trivial (Qk []) (zwg []) fun u hu K'' hL2=>?_
   refine zgo ?_;repeat' first|exact zt|apply zan|intro hc
   all_goals first|(refine ajc _ rfl rfl (by simp only [go_sem]) ?_;done)|(refine ajc _ rfl rfl (by simp only [go_sem]) ?_;rfl)
  ·simp only [if_true]
   refine zgo ?_;repeat' first|exact zt|apply zan|intro hc
   all_goals exact hL _ false (Qk []) trivial (by simp) (zwg [])
 ·generalize xY (fun x y=>decide (c x y < 0)) xs = ys at *
  have e8:decide ((20:Int)≤(xs.length:Int)) = false:=by simp;omega
  refine zgo ?_;repeat' first|exact zt|apply zan|intro hc
  refine QY (ι:=Unit) (fun _=>True) (fun _=>QZ [(0,.hd 0 0 (xs.map V.int).length),(1,V.int xs.length),(2,.clo g []),(6,V.int 20),(7,V.int 0),(8,V.int 20)] [(0,.buf true 1 (xs.map V.int))] 1) (fun _=>0) () trivial (Qk []) (zwg []) fun u hu K' hL=>?_
  (have zx:=e8);refine zgo ?_;repeat' first|exact zt|apply zan|intro hc
  refine QY (ι:=Unit) (fun _=>True) (fun _=>QZ [(0,.hd 0 0 (xs.map V.int).length),(1,V.int xs.length),(2,.clo g []),(6,V.int 20)] [(0,.buf true 1 (ys.map V.int))] 1) (fun _=>0) () trivial (Qk []) (zwg []) fun u hu K' hL=>?_
  (have zx:=e9);refine zgo ?_;repeat' first|exact zt|apply zan|intro hc
  all_goals first|(refine ajc _ rfl rfl (by simp only [go_sem]) ?_;done)|(refine ajc _ rfl rfl (by simp only [go_sem]) ?_;rfl)
def YN (YY:Nat):AC:=.reg [mv 4 0,mv 5 0,ln 6 5,mv 7 1,cl 8 YY [4,6,7]] def r_slices_SortStableFunc___int_int:List Jl:=[]
def YC (Γ:Env) (f:Nat):Prop:=∀ (xs:List Int) (g:Nat) (c:Int→Int→Int) (hcmp:∀ x y,EvN Γ g [V.int x,V.int y] (V.int (c x y))) (hx:xs.length≤20),EvL Γ f [.clo g []] 1 (xs.map V.int) (.tup []) (((xY (fun x y=>decide (c x y < 0)) xs).map V.int))
theorem KG {Γ:Env} {f YY:Nat} (h:Has Γ.P f 9 (YN YY) r_slices_SortStableFunc___int_int) (z0:XV Γ YY):YC Γ f:=by
 intro xs g c hcmp hx
 refine agj h (by simp) (by simp only [V.closed,closedL,V.noSl,abd,and_self,and_true,true_and]) fun C hC hm=>?_
 subst hC
 unfold YN
 have hi:=z0 xs g c hcmp hx
 have e:((xs.map V.int).length:Int) = (xs.length:Int):=by simp
 (have zx:=e);refine zgo ?_;repeat' first|exact zt|apply zan|intro hc
 all_goals first|(refine ajc _ rfl rfl (by simp only [go_sem]) ?_;done)|(refine ajc _ rfl rfl (by simp only [go_sem]) ?_;rfl)
theorem amn (c:Int):0≤afB c∧afB c≤512:=by
 unfold afB;split
 ·exact alv _ _
 ·exact ⟨by omega,by omega⟩
def qc (Xx:Nat):AC:=Qa [0,1] (.reg [mc 4 (V.int 0)]) (Qa [4] (.reg [mv 5 1,cl 6 Xx [5],mv 7 0,cl 8 Xx [7],bn 9 .sub 6 8,mv 4 9]) .ret) def r_suitespec_Sort_1:List Jl:=[.tmp 4]
def Kl (Γ:Env) (f:Nat):Prop:=∀ (x y:Int),EvN Γ f [V.int x,V.int y] (V.int (afB y - afB x))
theorem af7 {Γ:Env} {f Xx:Nat} (h:Has Γ.P f 10 (qc Xx) r_suitespec_Sort_1) (z0:VU Γ Xx):Kl Γ f:=by
 intro x y
 refine Qe h zsi zcl zcl fun C hC hm=>?_
 subst hC
 unfold qc
 have h1:=amn x
 have h2:=amn y
 have hw:IntKind.i64.wrap (afB y - afB x) = afB y - afB x:=Yv (by omega) (by omega)
 (have zx:=hw);refine zgo ?_;repeat' first|exact zt|apply zan|intro hc
 all_goals (refine Qn _ rfl ?_;simp only [go_sem])
def yp (Xp JV X7:Nat):AC:=Qa [0] (.reg [xo 2 (.mknil 1)]) (Qa [3] (.reg [mv 4 0,cl 5 Xp [4],mv 3 5]) (Qa [3] (.reg [mv 6 3,xo 7 (.call JV [(.t 6),(.c (.clo X7 []))])]) (Qa [2] (.reg [mv 8 3,mv 2 8]) .ret))) def r_suitespec_Sort:List Jl:=[.tmp 2]
def jx (Γ:Env) (f:Nat):Prop:=∀ (l:List Int) (hl:l.length≤20),EvW Γ f [.sl 1 (l.map V.int)] 1 ((abC l).map V.int)
theorem aiw {Γ:Env} {f Xp JV X7:Nat} (h:Has Γ.P f 9 (yp Xp JV X7) r_suitespec_Sort) (z0:Ws Γ Xp) (z1:YC Γ JV) (z2:Kl Γ X7):jx Γ f:=by
 intro l hl
 refine abW h (by simp) (by first|exact ag1 _|exact agO _) fun C hC hm=>?_
 subst hC
 unfold yp
 have hs:=z1 l X7 (fun x y=>afB y - afB x) (fun x y=>z2 x y) hl
 have e:(fun x y:Int=>decide (afB y - afB x < 0)) = ltS:=by
  funext x y;simp only [ltS];congr 1;apply propext;omega
 rw [e,av2] at hs
 have hln:=akg l
 refine zgo ?_;repeat' first|exact zt|apply zan|intro hc
 all_goals first|(refine amM _ _ rfl ?_ ?_<;>first|rfl|(simp;done)|(simp only [List.length_map];omega))
def Vb (Qd:Nat):AC:=Qa [0,1] (.reg [mc 3 (V.bool false)]) (Qa [3] (.reg [ld 4 1 1,mv 5 0,cl 6 Qd [4,5],mv 3 6]) .ret) def r_suitespec_row__word_1:List Jl:=[.tmp 3]
def WN (Γ:Env) (f:Nat):Prop:=∀ (x:Int) (m:List Int) (hm2:m.length < 2 ^ 62),EvN Γ f [V.int x,.ro [.sl 1 (m.map V.int)] 0] (V.bool (m.contains x))
theorem abk {Γ:Env} {f Qd:Nat} (h:Has Γ.P f 7 (Vb Qd) r_suitespec_row__word_1) (z0:Q1 Γ Qd):WN Γ f:=by
 intro x m hm2
 refine Qe h zsi zcl zcl fun C hC hm=>?_
 subst hC
 unfold Vb
 have e:decide (VX x 0 m≥0) = m.contains x:=by
  have:=wA x m 0
  rw [Bool.eq_iff_iff];simp only [decide_eq_true_eq,List.contains_eq_mem];exact this
 (have zx:=e);refine zgo ?_;repeat' first|exact zt|apply zan|intro hc
 all_goals (refine Qn _ rfl ?_;simp only [go_sem])
theorem awq (c:UInt8):decide (Lib.indexByte [45,33,43] c≥0) = decide (c = 45∨c = 33∨c = 43):=by
 by_cases h1:c = 45
 ·subst h1;decide
 ·by_cases h2:c = 33
  ·subst h2;decide
  ·by_cases h3:c = 43
   ·subst h3;decide
   ·have:Lib.indexByte [45,33,43] c = -1:=by
     simp [Lib.indexByte,Ne.symm h1,Ne.symm h2,Ne.symm h3]
    rw [this];simp [h1,h2,h3]
def sgn (c:UInt8):List UInt8:=if c = 0 then [] else [c]
theorem ajD {p:Int→Bool} {l:List Int} {k:Nat} {x:Int} (h:l[k]? = some x):(l.take (k + 1)).filter p = (l.take k).filter p++(if p x = true then [x] else []):=by
 rw [List.take_add_one,h,List.filter_append]
 congr 1
 by_cases hx:p x = true<;>simp [hx]
def K1:List AO:=[mv 33 1,xo 34 (.slstr (.t 33) none (some (.c (V.int 1)))),mv 35 1,xo 36 (.slstr (.t 35) (some (.c (V.int 1))) none),mv 5 34,mv 1 36]
def qo:List (List Nat):=[[],[0],[],[2],[1,0,1],[3,4,0,1,2,3,4]]
def KP:OT:=.one 0 (.one 1 (.one 2 (.one 3 (.one 4 (.one 5 .done)))))
@[go_sem] def KT:OP:=oN 0 (mv 33 1) (oN 1 (xo 34 (.slstr (.t 33) none (some (.c (V.int 1))))) (oN 2 (mv 35 1) (oN 3 (xo 36 (.slstr (.t 35) (some (.c (V.int 1))) none)) (oN 4 (mv 5 34) (oN 5 (mv 1 36) .done)))))
instance:RG [] KP (KT) (K1) qo 6 (fun _=>true):=⟨rfl,by kernel_rfl,by kernel_rfl⟩
def K0:List AO:=[mv 108 0,mv 109 0,mv 110 10,mv 111 0,nk 112 111,fa 113 1 112,ld 114 1 113,ld 115 1 6,xo 116 (.append 1 8 [vi0] (.t 114) (.t 115)),nk 117 108,fa 118 0 117,xs 1 118 110,nk 119 109,fa 120 1 119,xs 1 120 116]
def qn:List (List Nat):=[[],[],[],[],[3],[4],[5],[],[6,7],[0,0,2,6,8],[9,0,2,6,8],[10,2,8,0,2,6,8],[1,0,1,2,3,4,5,6,7,8,9,10,11],[12,0,1,2,3,4,5,6,7,8,9,10,11],[13,8,11,0,1,2,3,4,5,6,7,8,9,10,11]]
def KO:OT:=.one 0 (.one 1 (.one 2 (.one 3 (.one 4 (.one 5 (.or 6 (.one 7 (.one 8 (.one 9 (.one 10 (.one 11 (.one 12 (.one 13 (.one 14 .done)))))))) (.or 7 (.one 6 (.one 8 (.one 9 (.one 10 (.one 11 (.one 12 (.one 13 (.one 14 .done)))))))) .done)))))))
@[go_sem] def UL:OP:=.one 8 true [] (xo 116 (.append 1 8 [vi0] (.t 114) (.t 115))) (oN 9 (nk 117 108) (oN 10 (fa 118 0 117) (.one 11 true [] (xs 1 118 110) (oN 12 (nk 119 109) (oN 13 (fa 120 1 119) (.one 14 true [8] (xs 1 120 116) .done))))))
@[go_sem] def KS:OP:=oN 0 (mv 108 0) (oN 1 (mv 109 0) (oN 2 (mv 110 10) (oN 3 (mv 111 0) (oN 4 (nk 112 111) (oN 5 (fa 113 1 112) (.or 6 true [] (ld 114 1 113) (.one 7 true [] (ld 115 1 6) UL) (.or 7 true [] (ld 115 1 6) (.one 6 true [] (ld 114 1 113) UL) .done)))))))
instance:RG [6,7] KO (KS) (K0) qn 15 (fun _=>false):=⟨rfl,by kernel_rfl,by kernel_rfl⟩
def VR (U0 JN YH YG Qd:Nat):AC:=Qa [0,1] (.reg [mc 4 (V.bool false)]) (Qa [0,1] (Qa [0,1,16] (.reg [mv 15 1,bc 16 .eql 15 (V.str [64,115,116,114,101,110,103,116,104])]) (.cond (.t 16) (Qa [] (.reg [mv 17 0,mv 18 0,nk 19 18,fa 20 0 19,ld 21 1 20,cl 22 U0 [21],nk 23 17,fa 24 0 23,xs 1 24 22]) (Qa [4] (.reg [mc 4 (V.bool true)]) .ret)) .skip)) (Qa [0,1,5] (.reg [mc 5 (V.str [])]) (Qa [0,1,5] (Qa [0,1,5,32] (.reg [mv 25 1,bc 26 .neq 25 (V.str []),mv 27 26,mg 28 1 27 true,xg 29 (.idxS (.t 28) (.c (V.int 0))) 27 true,xg 30 (.call JN [(.c (V.str [45,33,43])),(.t 29)]) 27 true,xg 31 (.bin .geq (.t 30) (.c (V.int 0))) 27 true,xo 32 (.pick (.t 27) (.t 31) (.c (V.bool false)))]) (.cond (.t 32) (yh [] KP (KT) (K1) qo) .skip)) (Qa [0,5,6,7] (.reg [mv 38 1,cl 39 YH [38],mv 37 39,ex 40 37 0,ex 41 37 1,xo 6 (.alloc [.nil 1]),xs 1 6 40,mv 7 41]) (Qa [0,5,6] (Qa [0,5,6,43] (.reg [mv 42 7,xo 43 (.un .not (.t 42))]) (.cond (.t 43) (Qa [4] (.reg [mc 4 (V.bool false)]) .ret) .skip)) (Qa [0,5,6,8] (.reg [xo 44 (.mkfn YG [(.t 6)]),mv 8 44]) (Qa [0,5,6,8,9,10] (.reg [xo 9 (.mknil 1),xo 10 (.mknil 1)]) (Qa [0,5,6,9,10] (Qa [0,5,6,8,9,10,48,49,50] (.reg [mv 45 0,nk 46 45,fa 47 0 46,ld 48 1 47,ln 49 48,mc 50 (V.int 0)]) (.block 0 (JH [0,5,6,8,9,10,48,49,50] (Qa [0,5,6,8,9,10,48,49,50,51] (.reg [bn 51 .lss 50 49]) (Qa [0,5,6,8,9,10,48,49,50] (.cond (.t 51) .skip (.exit 0)) (Qa [0,5,6,8,9,10,48,49,50] (.block 1 (Qa [0,5,6,8,9,10,12,48,49,50] (.reg [ia 52 1 48 50,ld 53 1 52,mv 12 53]) (Qa [0,5,6,8,9,10,12,48,49,50,56] (.reg [mv 54 8,mv 55 12,xo 56 (.callv (.t 54) [(.t 55)])]) (.cond (.t 56) (.reg [mv 57 9,mv 58 12,xo 59 (.bslice 1 1 false [vi0] [(0,(.t 58))]),xo 60 (.append 1 8 [vi0] (.t 57) (.t 59)),mv 9 60]) (.reg [mv 61 10,mv 62 12,xo 63 (.bslice 1 1 false [vi0] [(0,(.t 62))]),xo 64 (.append 1 8 [vi0] (.t 61) (.t 63)),mv 10 64]))))) (.reg [bc 65 .add 50 (V.int 1),mv 50 65]))))))) (Qa [] (Qa [0,6,9,10,66] (.reg [mv 66 5]) (.block 2 (Qa [0,6,9,10,66,100] (.reg [bc 101 .eql 66 (V.str [45]),mv 100 101]) (.cond (.t 100) (.reg [mv 102 0,mv 103 10,nk 104 102,fa 105 0 104,xs 1 105 103]) (Qa [0,6,9,10,66,106] (.reg [bc 107 .eql 66 (V.str [33]),mv 106 107]) (.cond (.t 106) (yh [6,7] KO (KS) (K0) qn) (Qa [0,6,9,10,121] (.reg [bc 122 .eql 66 (V.str [43]),mv 121 122]) (.cond (.t 121) (.reg [mv 123 0,mv 124 10,mv 125 9,xo 126 (.append 1 8 [vi0] (.t 124) (.t 125)),nk 127 123,fa 128 0 127,xs 1 128 126]) (Qa [0,67,68,69] (.reg [ld 67 1 6,ln 68 67,mc 69 (V.int 0)]) (.block 3 (JH [0,67,68,69] (Qa [0,67,68,69,70] (.reg [bn 70 .lss 69 68]) (Qa [0,67,68,69] (.cond (.t 70) .skip (.exit 3)) (Qa [0,67,68,69] (.block 4 (Qa [0,14,67,68,69] (.reg [ia 71 1 67 69,ld 72 1 71,mv 14 72]) (Qa [0,14,67,68,69,88] (.reg [mv 73 0,nk 74 73,fa 75 0 74,ld 76 1 75,mv 77 14,cl 78 Qd [76,77],xo 79 (.un .not (.t 78)),mv 80 79,mg 81 0 80 true,xg 82 (.nilck (.t 81)) 80 true,xg 83 (.faddr 1 (.t 82)) 80 true,xg 84 (.load false 1 (.t 83)) 80 true,mg 85 14 80 true,xg 86 (.call Qd [(.t 84),(.t 85)]) 80 true,xg 87 (.un .not (.t 86)) 80 true,xo 88 (.pick (.t 80) (.t 87) (.c (V.bool false)))]) (.cond (.t 88) (.reg [mv 89 0,mv 90 0,nk 91 90,fa 92 0 91,ld 93 1 92,mv 94 14,xo 95 (.bslice 1 1 false [vi0] [(0,(.t 94))]),xo 96 (.append 1 8 [vi0] (.t 93) (.t 95)),nk 97 89,fa 98 0 97,xs 1 98 96]) .skip)))) (.reg [bc 99 .add 69 (V.int 1),mv 69 99]))))))))))))))) (Qa [4] (.reg [mc 4 (V.bool true)]) .ret)))))))))) def r_suitespec_row__word:List Jl:=[.tmp 4]
def Vw (Γ:Env) (f:Nat):Prop:=∀ (w:List UInt8) (l k:List Int) (hw:w.length < 2 ^ 30) (hr:aql (l,k)) (hk:k.length < 2 ^ 30),EvT Γ f [V.str w] 1 1 (l.map V.int) (k.map V.int) (V.bool (wordOk w)) (((if wordOk w then doR w (l,k) else (l,k)).1).map V.int) (((if wordOk w then doR w (l,k) else (l,k)).2).map V.int)
theorem acV {Γ:Env} {f U0 JN YH YG Qd:Nat} (h:Has Γ.P f 129 (VR U0 JN YH YG Qd) r_suitespec_row__word) (z0:jx Γ U0) (z1:Uz Γ JN) (z2:U6 Γ YH) (z3:WN Γ YG) (z4:Q1 Γ Qd):Vw Γ f:=by
 intro w l k hw hr hk
 refine aqa h (by simp) (by simp only [V.closed,closedL,V.noSl,abd,and_self,and_true,true_and]) fun C hC hm=>?_
 subst hC
 unfold VR
 have hl16:l.length≤16:=hr.len
 by_cases h0:w = aw5
 ·have e1:wordOk w = true:=by simp [wordOk,h0]
  have e2:doR w (l,k) = (abC l,k):=by simp [doR,h0]
  rw [e1,if_pos rfl,e2]
  have e3:(w == [64,115,116,114,101,110,103,116,104]) = true:=by simp [h0,aw5]
  repeat' (first|(refine zsk ?_;intro K' hK)|(refine zrg ?_;intro K' hK)|refine zsp ?_|(refine zsc ?_ ?_<;>intro hc<;>first|exact znh|try simp only [znz] at hc)|simp (maxSteps:=1000000) only [go_sem,e3,List.take_length]|(refine hK _ ?_;clear hK K')|apply zan|((first|apply VT|apply Vv);(focus first|exact (z0 _ zsd)))|((first|apply Jb|apply Q6);(focus first|exact (z1 _ _).b|exact (z2 _ zsd).b|exact (z3 _ _ zsd).b|exact (z4 _ _ zsd).b))|exact zsq|fail)
  all_goals first
   | (refine amN _ _ _ _ _ rfl (by simp only [go_sem]) rfl rfl rfl (by decide) (by decide) (by decide) ⟨_,rfl⟩ ⟨_,rfl⟩ ?_ ?_ ?_ ?_<;>first|rfl|(simp;done))
 ·have e3:(w == [64,115,116,114,101,110,103,116,104]) = false:=asH h0
  have ed:doR w (l,k) = doG (UJ w).1 (aj1 (UJ w).2).1 (l,k):=by rw [doR,asH h0];rfl
  have eo:wordOk w = (aj1 (UJ w).2).2:=by rw [wordOk,asH h0,Bool.false_or]
  have hlen:(UJ w).2.length≤w.length:=by
   cases w with
   | nil=>simp [UJ]
   | cons c r=>rw [aey];split<;>simp
  have hs:=(z2 (UJ w).2 (by omega)).b
  have hsl:=aqv (UJ w).2
  have hnd:=asN (UJ w).2
  rw [ed,eo]
  refine Ve fun K' hK=>?_
  simp (maxSteps:=1000000) only [go_sem]
  refine hK _ ?_
  clear hK
  clear K'
  (try simp only [go_sem])
  refine VC ?_
  refine Ve fun K' hK=>?_
  simp (maxSteps:=1000000) only [go_sem,e3]
  refine hK _ ?_
  clear hK
  clear K'
  (try simp only [go_sem])
  refine xK ⟨_,rfl,fun hc=>Bool.noConfusion hc,fun hc=>?_⟩
  refine ara ?_
  (try simp only [go_sem])
  refine Ve fun K' hK=>?_
  simp (maxSteps:=1000000) only [go_sem]
  refine hK _ ?_
  clear hK
  clear K'
  (try simp only [go_sem])
  have hcut:∃ good:Unit→Prop,good ()∧True:=⟨fun _=>True,trivial,trivial⟩
  refine YO (ι:=Unit) (fun _=>True) (fun _=>QZ [(0,.ptr 0 0),(1,V.str (UJ w).2),(5,V.str (sgn (UJ w).1))] [(0,.box true [.hd 3 0 (l.map V.int).length,.hd 4 0 (k.map V.int).length]),(1,.dead),(2,.dead),(3,.buf true 1 (l.map V.int)),(4,.buf true 1 (k.map V.int))] 5) (fun K' hK'=>?_) (fun _ _=>?_)
  ·rcases w with _|⟨c,r⟩
   ·repeat' (first|(refine zsk ?_;intro K' hK)|(refine zrg ?_;intro K' hK)|refine zsp ?_|(refine zsc ?_ ?_<;>intro hc<;>first|exact znh|try simp only [znz] at hc)|simp (maxSteps:=1000000) only [go_sem]|(refine hK _ ?_;clear hK K')|apply zan|((first|apply VT|apply Vv);(focus first|exact (z0 _ zsd)))|((first|apply Jb|apply Q6);(focus first|exact (z1 _ _).b|exact (z2 _ zsd).b|exact (z3 _ _ zsd).b|exact (z4 _ _ zsd).b))|exact zsq|fail)
    all_goals exact hK' _ () (Qk []) trivial (zwg [])
   ·have hib:=awq c
    by_cases hc:c = 45∨c = 33∨c = 43
    ·have hsv:UJ (c :: r) = (c,r):=by rw [aey,if_pos hc]
     rw [decide_eq_true hc] at hib
     have hsg:sgn c = [c]:=by rw [sgn,if_neg];rintro rfl;simp at hc
     have e4:(c :: r != []) = true:=rfl
     simp only [hsv,hsg] at hK'
     repeat' (first|(refine zsk ?_;intro K' hK)|(refine zrg ?_;intro K' hK)|refine zsp ?_|(refine zsc ?_ ?_<;>intro hc<;>first|exact znh|try simp only [znz] at hc)|simp (maxSteps:=1000000) only [go_sem,hib,e4,List.take_length,Nat.add_sub_cancel]|(refine hK _ ?_;clear hK K')|apply zan|((first|apply VT|apply Vv);(focus first|exact (z0 _ zsd)))|((first|apply Jb|apply Q6);(focus first|exact (z1 _ _).b|exact (z2 _ zsd).b|exact (z3 _ _ zsd).b|exact (z4 _ _ zsd).b))|exact zsq|fail)
     all_goals first|exact hK' _ () (Qk []) trivial (zwg [])
    ·have hsv:UJ (c :: r) = (0,c :: r):=by rw [aey,if_neg hc]
     have hsg:sgn 0 = []:=rfl
     rw [decide_eq_false hc] at hib
     simp only [hsv,hsg] at hK'
     have e4:(c :: r != []) = true:=rfl
     repeat' (first|(refine zsk ?_;intro K' hK)|(refine zrg ?_;intro K' hK)|refine zsp ?_|(refine zsc ?_ ?_<;>intro hc<;>first|exact znh|try simp only [znz] at hc)|simp (maxSteps:=1000000) only [go_sem,hib,e4]|(refine hK _ ?_;clear hK K')|apply zan|((first|apply VT|apply Vv);(focus first|exact (z0 _ zsd)))|((first|apply Jb|apply Q6);(focus first|exact (z1 _ _).b|exact (z2 _ zsd).b|exact (z3 _ _ zsd).b|exact (z4 _ _ zsd).b))|exact zsq|fail)
     all_goals first|exact hK' _ () (Qk []) trivial (zwg [])
  ·have hcase:(UJ w).1 = 0∨(UJ w).1 = 45∨(UJ w).1 = 33∨(UJ w).1 = 43:=by
    cases w with
    | nil=>exact .inl rfl
    | cons c r =>
      rw [aey];split
      ·rename_i h;exact .inr h
      ·exact .inl rfl
   generalize UJ w = sv at *
   obtain ⟨sg,v⟩:=sv
   simp only at hs hsl hnd hlen hcase ⊢
   generalize aj1 v = S at *
   obtain ⟨m,ok⟩:=S
   simp only at hs hsl hnd ⊢
   rcases ok with _|_
   ·simp only [Bool.false_eq_true,if_false]
    repeat' (first|(refine zsk ?_;intro K' hK)|(refine zrg ?_;intro K' hK)|refine zsp ?_|(refine zsc ?_ ?_<;>intro hc<;>first|exact znh|try simp only [znz] at hc)|simp (maxSteps:=1000000) only [go_sem,QZ]|(refine hK _ ?_;clear hK K')|apply zan|((first|apply VT|apply Vv);(focus first|exact (z0 _ zsd)))|((first|apply Jb|apply Q6);(focus first|exact hs|exact (z1 _ _).b|exact (z2 _ zsd).b|exact (z3 _ _ zsd).b|exact (z4 _ _ zsd).b))|exact zsq|fail)
    all_goals first
     | (refine amN _ _ _ _ _ rfl (by simp only [go_sem]) rfl rfl rfl (by decide) (by decide) (by decide) ⟨_,rfl⟩ ⟨_,rfl⟩ ?_ ?_ ?_ ?_<;>first|rfl|(simp;done))
   ·simp only [if_true]
    repeat' (first|(refine zsk ?_;intro K' hK)|(refine zrg ?_;intro K' hK)|refine zsp ?_|(refine zsc ?_ ?_<;>intro hc<;>first|exact znh|try simp only [znz] at hc)|simp (maxSteps:=1000000) only [go_sem,QZ]|(refine hK _ ?_;clear hK K')|apply zan|((first|apply VT|apply Vv);(focus first|exact (z0 _ zsd)))|((first|apply Jb|apply Q6);(focus first|exact hs|exact (z1 _ _).b|exact (z2 _ zsd).b|exact (z3 _ _ zsd).b|exact (z4 _ _ zsd).b))|exact zsq|fail)
    refine QY (ι:=Nat) (fun j=>j≤l.length) (fun j=>QZ [(0,.ptr 0 0),(5,V.str (sgn sg)),(6,.ptr 5 0),(8,.clo YG [.ptr 5 0]),(9,.hd 6 0 ((l.take j).filter fun x=>m.contains x).length),(10,.hd 7 0 (Qt (l.take j) m).length),(48,.hd 3 0 (l.map V.int).length),(49,V.int (l.map V.int).length),(50,V.int j)] [(0,.box true [.hd 3 0 (l.map V.int).length,.hd 4 0 (k.map V.int).length]),(1,.dead),(2,.dead),(3,.buf true 1 (l.map V.int)),(4,.buf true 1 (k.map V.int)),(5,.box true [.sl 1 (m.map V.int)]),(6,.buf true 1 (((l.take j).filter fun x=>m.contains x).map V.int)),(7,.buf true 1 ((Qt (l.take j) m).map V.int))] 8) (fun j=>l.length - j) 0 (by omega) (Qk [(5,5005),(6,12005),(7,13005)]) (zwg [(5,5005),(6,12005),(7,13005)]) fun j hj K' hL=>?_
    rcases hd:l.drop j with _|⟨x,r⟩
    ·have hjl:=Qs hd
     have hj0:j = l.length:=by omega
     subst hj0
     have e1:decide ((l.length:Int) < (((l.map V.int).length:Nat):Int)) = false:=by simp
     have hw1:=VM l m
     have hw2:(l.filter fun x=>m.contains x).length≤l.length:=List.length_filter_le _ _
     have hcat:Qt l m++(l.filter fun x=>m.contains x) = Qt l m++Qt l (Qt l m):=by
      congr 1
      unfold Qt
      refine List.filter_congr fun x hx=>?_
      cases hm:m.contains x<;>simp_all
     rw [List.take_length]
     generalize hmv:(l.filter fun x=>m.contains x) = mv at *
     rcases hcase with rfl|rfl|rfl|rfl
     ·have hd0:doG 0 m (l,k) = (l++Qt (Qt m l) k,k):=rfl
      have hs0:sgn 0 = []:=rfl
      rw [hd0,hs0]
      repeat' (first|(refine zsk ?_;intro K' hK)|(refine zrg ?_;intro K' hK)|refine zsp ?_|(refine zsc ?_ ?_<;>intro hc<;>first|exact znh|try simp only [znz] at hc)|simp (maxSteps:=1000000) only [go_sem,QZ,e1]|(refine hK _ ?_;clear hK K')|apply zan|((first|apply VT|apply Vv);(focus first|exact (z0 _ zsd)))|((first|apply Jb|apply Q6);(focus first|exact (z1 _ _).b|exact (z2 _ zsd).b|exact (z3 _ _ zsd).b|exact (z4 _ _ zsd).b))|exact zsq|fail)
      refine QY (ι:=Nat) (fun i=>i≤m.length) (fun i=>QZ [(0,.ptr 0 0),(67,.sl 1 (m.map V.int)),(68,V.int (m.map V.int).length),(69,V.int i)] [(0,.box true [.hd 3 0 (l++Qt (Qt (m.take i) l) k).length,.hd 4 0 (k.map V.int).length]),(1,.dead),(2,.dead),(3,.buf true 1 ((l++Qt (Qt (m.take i) l) k).map V.int)),(4,.buf true 1 (k.map V.int))] 5) (fun i=>m.length - i) 0 (by omega) (Qk []) (QR [] zwa (by simp only [go_sem,zwl];simp only [List.take_zero,Qt,List.filter_nil,List.append_nil,List.length_map];(repeat' (first|rfl|apply And.intro|omega|exact fun h=>h|exact Exists.intro _ rfl))) (by simp [Qk]) (by simp) (by omega)) fun i hi K' hL=>?_
      rcases hdi:m.drop i with _|⟨c,r⟩
      ·have hil:=Qs hdi
       have e2:decide ((i:Int) < (((m.map V.int).length:Nat):Int)) = false:=by simp;omega
       have e3:m.take i = m:=List.take_of_length_le hil
       rw [e3]
       repeat' (first|(refine zsk ?_;intro K' hK)|(refine zrg ?_;intro K' hK)|refine zsp ?_|(refine zsc ?_ ?_<;>intro hc<;>first|exact znh|try simp only [znz] at hc)|simp (maxSteps:=1000000) only [go_sem,QZ,e2]|(refine hK _ ?_;clear hK K')|apply zan|((first|apply VT|apply Vv);(focus first|exact (z0 _ zsd)))|((first|apply Jb|apply Q6);(focus first|exact (z1 _ _).b|exact (z2 _ zsd).b|exact (z3 _ _ zsd).b|exact (z4 _ _ zsd).b))|exact zsq|fail)
       all_goals first
        | (refine amN _ _ _ _ _ rfl (by simp only [go_sem]) rfl rfl rfl (by decide) (by decide) (by decide) ⟨_,rfl⟩ ⟨_,rfl⟩ ?_ ?_ ?_ ?_<;>first|rfl|(simp;done))
      ·obtain ⟨hi',hgi,hri⟩:=Ql hdi
       have hwi:=Qj (k:=i) (by omega)
       have e2:decide ((i:Int) < (((m.map V.int).length:Nat):Int)) = true:=by simp;omega
       have ha:=agF (m:=l) hgi
       have hnc:c ∉ m.take i:=by
        intro h
        have h2:m.take i++c :: r = m:=by rw [← hdi,List.take_append_drop]
        rw [← h2] at hnd
        exact (List.nodup_append.1 hnd).2.2 c h c (by simp) rfl
       have hal:(Qt (Qt (m.take i) l) k).length≤16:=by
        have q1:=VM (Qt (m.take i) l) k
        have q2:=VM (m.take i) l
        rw [List.length_take] at q2;omega
       have hin:c∈l++Qt (Qt (m.take i) l) k↔c∈l:=by
        rw [List.mem_append]
        exact ⟨fun h=>h.elim id fun h=>absurd (Xi.1 (Xi.1 h).1).1 hnc,Or.inl⟩
       have hf1:=wA c (l++Qt (Qt (m.take i) l) k) 0
       have hf2:=wA c k 0
       have hc1:=(z4 (l++Qt (Qt (m.take i) l) k) c (by rw [List.length_append];omega)).b
       have hc2:=(z4 k c (by omega)).b
       by_cases hcl:c∈l
       ·rw [decide_eq_true (hf1.2 (hin.2 hcl))] at hc1
        rw [if_pos (by simpa using hcl),List.append_nil] at ha
        rw [← ha] at hc1 ⊢
        repeat' (first|(refine zsk ?_;intro K' hK)|(refine zrg ?_;intro K' hK)|refine zsp ?_|(refine zsc ?_ ?_<;>intro hc<;>first|exact znh|try simp only [znz] at hc)|simp (maxSteps:=1000000) only [go_sem,QZ,e2,hwi,Int.toNat_natCast,List.getElem?_map,hgi,List.take_length,XI]|(refine hK _ ?_;clear hK K')|apply zan|((first|apply VT|apply Vv);(focus first|exact (z0 _ zsd)))|((first|apply Jb|apply Q6);(focus first|exact hc1|exact (z1 _ _).b|exact (z2 _ zsd).b|exact (z3 _ _ zsd).b|exact (z4 _ _ zsd).b))|exact zsq|fail)
        all_goals first
         | exact hL _ (i + 1) (Qk []) (by omega) (by omega) (zwg [])
       ·rw [decide_eq_false (fun h=>hcl (hin.1 (hf1.1 h)))] at hc1
        rw [if_neg (by simpa using hcl)] at ha
        by_cases hck:c∈k
        ·have hb:Qt (Qt (m.take (i + 1)) l) k = Qt (Qt (m.take i) l) k:=by
          rw [ha,Qt,List.filter_append];simp [hck,Qt]
         rw [decide_eq_true (hf2.2 hck)] at hc2
         rw [← hb] at hc1 ⊢
         repeat' (first|(refine zsk ?_;intro K' hK)|(refine zrg ?_;intro K' hK)|refine zsp ?_|(refine zsc ?_ ?_<;>intro hc<;>first|exact znh|try simp only [znz] at hc)|simp (maxSteps:=1000000) only [go_sem,QZ,e2,hwi,Int.toNat_natCast,List.getElem?_map,hgi,List.take_length,XI]|(refine hK _ ?_;clear hK K')|apply zan|((first|apply VT|apply Vv);(focus first|exact (z0 _ zsd)))|((first|apply Jb|apply Q6);(focus first|exact hc1|exact hc2|exact (z1 _ _).b|exact (z2 _ zsd).b|exact (z3 _ _ zsd).b|exact (z4 _ _ zsd).b))|exact zsq|fail)
         all_goals first
          | exact hL _ (i + 1) (Qk []) (by omega) (by omega) (zwg [])
        ·have hb:l++Qt (Qt (m.take (i + 1)) l) k = (l++Qt (Qt (m.take i) l) k)++[c]:=by
          rw [ha,Qt,List.filter_append];simp [hck,Qt]
         rw [decide_eq_false (fun h=>hck (hf2.1 h))] at hc2
         have hacc:(l++Qt (Qt (m.take i) l) k).length≤32:=by rw [List.length_append];omega
         generalize l++Qt (Qt (m.take i) l) k = acc at *
         have hb2:List.take acc.length (List.map V.int acc)++[V.int c] = (acc++[c]).map V.int:=by
          rw [List.take_of_length_le (by simp),List.map_append];rfl
         have hln:acc.length + 1 = (acc++[c]).length:=by simp
         repeat' (first|(refine zsk ?_;intro K' hK)|(refine zrg ?_;intro K' hK)|refine zsp ?_|(refine zsc ?_ ?_<;>intro hc<;>first|exact znh|try simp only [znz] at hc)|simp (maxSteps:=1000000) only [go_sem,QZ,e2,hwi,Int.toNat_natCast,List.getElem?_map,hgi,List.take_length,XI]|(refine hK _ ?_;clear hK K')|apply zan|((first|apply VT|apply Vv);(focus first|exact (z0 _ zsd)))|((first|apply Jb|apply Q6);(focus first|exact hc1|exact hc2|exact (z1 _ _).b|exact (z2 _ zsd).b|exact (z3 _ _ zsd).b|exact (z4 _ _ zsd).b))|exact zsq|fail)
         all_goals first
          | (have hb3:List.map V.int acc++[V.sc (Value.int .i64 c)] = (acc++[c]).map V.int:=by simp
             rw [hb3,hln]
             refine hL _ (i + 1) (Qk [(3,27005)]) (by omega) (by omega) ?_
             rw [hb]
             exact zwg [(3,27005)])
          | (simp only [List.length_append] at *;omega)
     ·have hd0:doG 45 m (l,k) = (Qt l m,k):=rfl
      have hs0:sgn 45 = [45]:=rfl
      rw [hd0,hs0]
      repeat' (first|(refine zsk ?_;intro K' hK)|(refine zrg ?_;intro K' hK)|refine zsp ?_|(refine zsc ?_ ?_<;>intro hc<;>first|exact znh|try simp only [znz] at hc)|simp (maxSteps:=1000000) only [go_sem,QZ,e1]|(refine hK _ ?_;clear hK K')|apply zan|((first|apply VT|apply Vv);(focus first|exact (z0 _ zsd)))|((first|apply Jb|apply Q6);(focus first|exact (z1 _ _).b|exact (z2 _ zsd).b|exact (z3 _ _ zsd).b|exact (z4 _ _ zsd).b))|exact zsq|fail)
      all_goals first
       | (refine amN _ _ _ _ _ rfl (by simp only [go_sem]) rfl rfl rfl (by decide) (by decide) (by decide) ⟨_,rfl⟩ ⟨_,rfl⟩ ?_ ?_ ?_ ?_<;>first|rfl|(simp;done))
     ·have hd0:doG 33 m (l,k) = (Qt l m,k++m):=rfl
      have hs0:sgn 33 = [33]:=rfl
      rw [hd0,hs0]
      repeat' (first|(refine zsk ?_;intro K' hK)|(refine zrg ?_;intro K' hK)|refine zsp ?_|(refine zsc ?_ ?_<;>intro hc<;>first|exact znh|try simp only [znz] at hc)|simp (maxSteps:=1000000) only [go_sem,QZ,e1,List.take_length]|(refine hK _ ?_;clear hK K')|apply zan|((first|apply VT|apply Vv);(focus first|exact (z0 _ zsd)))|((first|apply Jb|apply Q6);(focus first|exact (z1 _ _).b|exact (z2 _ zsd).b|exact (z3 _ _ zsd).b|exact (z4 _ _ zsd).b))|exact zsq|fail)
      all_goals first
       | (refine amN _ _ _ _ _ rfl (by simp only [go_sem]) rfl rfl rfl (by decide) (by decide) (by decide) ⟨_,rfl⟩ ⟨_,rfl⟩ ?_ ?_ ?_ ?_<;>first|rfl|(simp;done))
     ·have hd0:doG 43 m (l,k) = (Qt l m++Qt l (Qt l m),k):=rfl
      have hs0:sgn 43 = [43]:=rfl
      rw [hd0,hs0,← hcat]
      repeat' (first|(refine zsk ?_;intro K' hK)|(refine zrg ?_;intro K' hK)|refine zsp ?_|(refine zsc ?_ ?_<;>intro hc<;>first|exact znh|try simp only [znz] at hc)|simp (maxSteps:=1000000) only [go_sem,QZ,e1,XI]|(refine hK _ ?_;clear hK K')|apply zan|((first|apply VT|apply Vv);(focus first|exact (z0 _ zsd)))|((first|apply Jb|apply Q6);(focus first|exact (z1 _ _).b|exact (z2 _ zsd).b|exact (z3 _ _ zsd).b|exact (z4 _ _ zsd).b))|exact zsq|fail)
      all_goals first
       | (refine amN _ _ _ _ _ rfl (by simp only [go_sem]) rfl rfl rfl (by decide) (by decide) (by decide) ⟨_,rfl⟩ ⟨_,rfl⟩ ?_ ?_ ?_ ?_<;>first|rfl|(simp;done))
    ·obtain ⟨hj',hget,hr'⟩:=Ql hd
     have hwj:=Qj (k:=j) (by omega)
     have e1:decide ((j:Int) < (((l.map V.int).length:Nat):Int)) = true:=by simp;omega
     have h1:=agF (m:=m) hget
     have h2:=ajD (p:=fun x=>m.contains x) hget
     have hl1:(Qt (l.take j) m).length≤16:=by have:=VM (l.take j) m;rw [List.length_take] at this;omega
     have hl2:((l.take j).filter fun x=>m.contains x).length≤16:=by have:=List.length_filter_le (fun x=>m.contains x) (l.take j);rw [List.length_take] at this;omega
     have hcl:=(z3 x m (by omega)).b
     generalize Qt (l.take j) m = rs at *
     generalize (l.take j).filter (fun x=>m.contains x) = mv at *
     rcases hx:m.contains x with _|_
     ·rw [hx] at h1 h2 hcl
      simp only [Bool.false_eq_true,if_false,List.append_nil] at h1 h2
      have hb:List.take rs.length (List.map V.int rs)++[V.int x] = (rs++[x]).map V.int:=by
       rw [List.take_of_length_le (by simp),List.map_append];rfl
      have hln:rs.length + 1 = (rs++[x]).length:=by simp
      repeat' (first|(refine zsk ?_;intro K' hK)|(refine zrg ?_;intro K' hK)|refine zsp ?_|(refine zsc ?_ ?_<;>intro hc<;>first|exact znh|try simp only [znz] at hc)|simp (maxSteps:=1000000) only [go_sem,QZ,e1,hwj,Int.toNat_natCast,List.getElem?_map,hget]|(refine hK _ ?_;clear hK K')|apply zan|((first|apply VT|apply Vv);(focus first|exact (z0 _ zsd)))|((first|apply Jb|apply Q6);(focus first|exact hcl|exact (z1 _ _).b|exact (z2 _ zsd).b|exact (z3 _ _ zsd).b|exact (z4 _ _ zsd).b))|exact zsq|fail)
      rw [hb,hln]
      refine hL _ (j + 1) (Qk [(7,10008)]) (by omega) (by omega) ?_
      rw [h1,h2]
      exact zwg [(7,10008)]
     ·rw [hx] at h1 h2 hcl
      simp only [if_true,List.append_nil] at h1 h2
      have hb:List.take mv.length (List.map V.int mv)++[V.int x] = (mv++[x]).map V.int:=by
       rw [List.take_of_length_le (by simp),List.map_append];rfl
      have hln:mv.length + 1 = (mv++[x]).length:=by simp
      repeat' (first|(refine zsk ?_;intro K' hK)|(refine zrg ?_;intro K' hK)|refine zsp ?_|(refine zsc ?_ ?_<;>intro hc<;>first|exact znh|try simp only [znz] at hc)|simp (maxSteps:=1000000) only [go_sem,QZ,e1,hwj,Int.toNat_natCast,List.getElem?_map,hget]|(refine hK _ ?_;clear hK K')|apply zan|((first|apply VT|apply Vv);(focus first|exact (z0 _ zsd)))|((first|apply Jb|apply Q6);(focus first|exact hcl|exact (z1 _ _).b|exact (z2 _ zsd).b|exact (z3 _ _ zsd).b|exact (z4 _ _ zsd).b))|exact zsq|fail)
      rw [hb,hln]
      refine hL _ (j + 1) (Qk [(6,10008)]) (by omega) (by omega) ?_
      rw [h1,h2]
      exact zwg [(6,10008)]
def jd (K7 YI X6:Nat):AC:=Qa [0] (.reg [xo 2 (.mknil 1),mc 3 (V.int 0),mc 4 (V.int 0)]) (Qa [0] (Qa [0,15] (.reg [mv 8 0,xo 9 (.lenS (.t 8)),bc 10 .gtr 9 (V.int 8192),mv 11 10,mg 12 0 11 false,xg 13 (.call K7 [(.t 12),(.c (V.str [58]))]) 11 false,xg 14 (.bin .geq (.t 13) (.c (V.int 200))) 11 false,xo 15 (.pick (.t 11) (.c (V.bool true)) (.t 14))]) (.cond (.t 15) (Qa [2,3,4] (.reg [xo 2 (.mknil 1),mc 3 (V.int 0),mc 4 (V.int 3)]) .ret) .skip)) (Qa [0] (Qa [0,17] (.reg [mv 16 0,bc 17 .eql 16 (V.str [])]) (.cond (.t 17) (Qa [2,3,4] (.reg [xo 2 (.mknil 1),mc 3 (V.int 0),mc 4 (V.int 0)]) .ret) .skip)) (Qa [0,5] (.reg [xo 18 (.build [vn0,vn0] []),xo 19 (.box true 2 (.t 18)),mv 5 19]) (Qa [5] (Qa [5,21,22,23] (.reg [mv 20 0,xo 21 (.call YI [(.t 20),(.c (V.str [58]))]),ln 22 21,mc 23 (V.int 0)]) (.block 0 (JH [5,21,22,23] (Qa [5,21,22,23,24] (.reg [bn 24 .lss 23 22]) (Qa [5,21,22,23] (.cond (.t 24) .skip (.exit 0)) (Qa [5,21,22,23] (.block 1 (Qa [5,6,7,21,22,23] (.reg [mv 25 23,ia 26 1 21 23,ld 27 1 26,mv 6 25,mv 7 27]) (Qa [5,6,21,22,23,31] (.reg [mv 28 5,mv 29 7,cl 30 X6 [28,29],xo 31 (.un .not (.t 30))]) (.cond (.t 31) (Qa [2,3,4] (.reg [mv 32 6,bc 33 .add 32 (V.int 1),xo 2 (.mknil 1),mv 3 33,mc 4 (V.int 17)]) .ret) .skip)))) (.reg [bc 34 .add 23 (V.int 1),mv 23 34]))))))) (Qa [2,3,4] (.reg [mv 35 5,nk 36 35,fa 37 0 36,ld 38 1 37,mv 2 38,mc 3 (V.int 0),mc 4 (V.int 0)]) .ret))))) def r_suitespec_Parse:List Jl:=[.tmp 2,.tmp 3,.tmp 4]
def qy (Γ:Env) (f:Nat):Prop:=∀ (s:List UInt8) (hs:s.length < 2 ^ 30),EvC Γ f [V.str s] (afa (aa8 s))
attribute [local go_sem] QZ in
theorem ahn {Γ:Env} {f K7 YI X6:Nat} (h:Has Γ.P f 39 (jd K7 YI X6) r_suitespec_Parse) (z0:acP Γ K7) (z1:yM Γ YI) (z2:Vw Γ X6):qy Γ f:=by
 intro s hs
 refine QV h zsi (anb _) fun C hC hm=>?_
 subst hC
 unfold jd
 have hct:=(z0 s 58 (by omega)).b
 have hsp:=(z1 s 58 (by omega)).b
 have hpos:1≤(Yu 58 s).length:=by
  have:Yu 58 s≠[]:=aoh _ _ _
  rcases h:Yu 58 s with _|⟨a,b⟩
  ·exact absurd h this
  ·simp
 by_cases h1:s.length > 8192
 ·have e1:decide ((s.length:Int) > 8192) = true:=by simp;omega
  have e2:aa8 s = ([],0,3):=by rw [aa8,if_pos h1]
  rw [e2,afa]
  (have zx:=e1);refine zgo ?_;repeat' first|exact zt|apply zan|intro hc
  all_goals (refine Qn _ rfl ?_;simp only [go_sem];first|done|rfl|exact ⟨_,_,rfl⟩|trace_state)
 ·have e1:decide ((s.length:Int) > 8192) = false:=by simp;omega
  by_cases h2:s = []
  ·subst h2
   have e2:aa8 [] = ([],0,0):=rfl
   have e4:decide (((((Yu 58 []).length - 1:Nat)):Int)≥200) = false:=rfl
   rw [e2,afa]
   (have zx:=And.intro e1 e4);refine zgo ?_;repeat' first|exact zt|apply zan|intro hc
   all_goals (refine Qn _ rfl ?_;simp only [go_sem];first|done|rfl|exact ⟨_,_,rfl⟩|trace_state)
  ·have e3:(s == []) = false:=by simpa using h2
   have hmem:∀ w∈Yu 58 s,w.length < 2 ^ 30:=fun w hw=>by have:=aro hw;omega
   have hlen:=amo 58 s
   by_cases h3:(Yu 58 s).length > 200
   ·have e2:aa8 s = ([],0,3):=by rw [aa8,if_neg h1,if_neg h2,if_pos h3]
    have e4:decide (((((Yu 58 s).length - 1:Nat)):Int)≥200) = true:=by simp;omega
    rw [e2,afa]
    (have zx:=And.intro e1 (And.intro e3 e4));refine zgo ?_;repeat' first|exact zt|apply zan|intro hc
    all_goals (refine Qn _ rfl ?_;simp only [go_sem];first|done|rfl|exact ⟨_,_,rfl⟩|trace_state)
   ·have e2:aa8 s = goP (Yu 58 s) 0 ([],[]):=by rw [aa8,if_neg h1,if_neg h2,if_neg h3]
    have e4:decide (((((Yu 58 s).length - 1:Nat)):Int)≥200) = false:=by simp;omega
    rw [e2,afa]
    generalize Yu 58 s = ws at *
    (have zx:=And.intro e1 (And.intro e3 e4));refine zgo ?_;repeat' first|exact zt|apply zan|intro hc
    refine ad7 14000 0 1 rfl rfl ?_
    refine ad7 14000 1 1 rfl rfl ?_
    refine QY (ι:=Nat×auk) (fun q=>q.1≤ws.length∧aql q.2∧q.2.2.length≤16 * q.1∧goP (ws.drop q.1) q.1 q.2 = goP ws 0 ([],[]))
     (fun q=>QZ [(5,.ptr 0 0),(21,.sl 1 (ws.map V.str)),(22,V.int (ws.map V.str).length),(23,V.int q.1)] [(0,.box true [.hd 1 0 (q.2.1.map V.int).length,.hd 2 0 (q.2.2.map V.int).length]),(1,.buf true 1 (q.2.1.map V.int)),(2,.buf true 1 (q.2.2.map V.int))] 3)
     (fun q=>ws.length - q.1) (0,[],[]) ⟨by simp,av9,by simp,by simp⟩ (Qk [(0,14000),(1,20000),(2,20001)]) (QR [(0,14000),(1,20000),(2,20001)] zwa (by simp only [List.set_cons_zero,List.set_cons_succ,Nat.reduceAdd];simp only [go_sem,zwl];(repeat' (first|rfl|apply And.intro|omega|exact fun h=>h|exact Exists.intro _ rfl))) (by simp [Qk]) (by simp;omega) (by omega)) fun q hq K' hL=>?_
    obtain ⟨k,l,m⟩:=q
    obtain ⟨q1,q2,q3,hinv⟩:=hq
    simp only at q1 q2 q3 hinv
    simp only
    rcases hd:ws.drop k with _|⟨w,r⟩
    ·have hk:=Qs hd
     rw [hd,goP] at hinv
     rw [← hinv]
     have e5:decide ((k:Int) < (((ws.map V.str).length:Nat):Int)) = false:=by simp;omega
     simp only [afa]
     (have zx:=e5);refine zgo ?_;repeat' first|exact zt|apply zan|intro hc
     all_goals (refine Qn _ rfl ?_;simp only [go_sem];rw [List.take_of_length_le (by simp)])
    ·obtain ⟨hk',hget,hr⟩:=Ql hd
     have hwm:=hmem w (List.mem_of_getElem? hget)
     have hw:=Qj (k:=k) (by omega)
     have e5:decide ((k:Int) < (((ws.map V.str).length:Nat):Int)) = true:=by simp;omega
     rw [hd,goP] at hinv
     have hdo:=z2 w l m hwm q2 (by omega)
     have hdl:=aww w (l,m)
     have hdo2:=axw w (l,m) q2
     rcases ho:wordOk w with _|_
     ·rw [ho] at hinv hdo
      simp only [Bool.false_eq_true,if_false] at hinv hdo
      rw [← hinv]
      simp only [afa]
      (have zx:=And.intro e5 (And.intro hw hget));refine zgo ?_;repeat' first|exact zt|apply zan|intro hc
      all_goals (refine Qn _ rfl ?_;simp only [go_sem];first|done|rfl|exact ⟨_,_,rfl⟩|trace_state)
     ·rw [ho] at hinv hdo
      simp only [if_true] at hinv hdo
      generalize doR w (l,m) = p at *
      obtain ⟨l2,m2⟩:=p
      simp only at hdo hdl hinv
      (have zx:=And.intro e5 (And.intro hw hget));refine zgo ?_;repeat' first|exact zt|apply zan|intro hc
      refine hL _ (k + 1,l2,m2) (Qk [(1,8003),(2,8004)]) ⟨by simp only;omega,hdo2,by simp only;omega,by simp only;rw [hr];exact hinv⟩ (by simp only;omega) (zwg [(1,8003),(2,8004)])
def Jj (l:List Int) (k:Nat):List V:=[.sl 1 (l.map V.int),V.int k]
theorem QB (l:List Int) (k:Nat):closedL (Jj l k):=by simp only [Jj,V.closed,closedL,and_self]
def Jx (l:List Int) (k:Nat) (n:Int):Int×Nat:=if k < l.length then (avF (l.getD k 0) n,k + 1) else (0,k)
theorem Je {l:List Int} {k:Nat} {n:Int} (hk:k≤l.length):(Jx l k n).2≤l.length:=by
 unfold Jx;split
 ·show k + 1≤l.length;omega
 ·exact hk
theorem arQ {a n:Int} (h1:1≤n) (h2:n < 2 ^ 62):0≤avF a n∧avF a n < n:=by
 unfold avF
 rw [if_neg (by omega)]
 have ha:=Int.tmod_lt_of_pos a (show 0 < n by omega)
 have hb:-n < a.tmod n:=by
  have:=Int.tmod_lt_of_pos (-a) (show 0 < n by omega)
  rw [Int.neg_tmod] at this;omega
 rw [Yv (by omega) (by omega)]
 exact ⟨Int.tmod_nonneg _ (by omega),Int.tmod_lt_of_pos _ (by omega)⟩
theorem JT {l:List Int} {k:Nat} {n:Int} (h1:1≤n) (h2:n < 2 ^ 62):0≤(Jx l k n).1∧(Jx l k n).1 < n:=by
 unfold Jx;split
 ·exact arQ h1 h2
 ·show (0:Int)≤0∧(0:Int) < n;omega
def ad2:AC:=Qa [0] (.reg [mc 2 (V.bool false)]) (Qa [2] (.reg [mv 3 0,ln 4 3,bc 5 .leq 4 (V.int 400),mv 2 5]) .ret) def r_make_Light:List Jl:=[.tmp 2]
def acC (Γ:Env) (f:Nat):Prop:=∀ (l:List Int),EvN Γ f [.sl 1 (l.map V.int)] (V.bool (decide ((l.length:Int)≤400)))
attribute [local go_sem] List.length_map in
theorem anN {Γ:Env} {f:Nat} (h:Has Γ.P f 6 ad2 r_make_Light) :acC Γ f:=by
 intro l
 refine Qe h zsi zcl zcl fun C hC hm=>?_
 subst hC
 unfold ad2
 refine zgo ?_;repeat' first|exact zt|apply zan|intro hc
 refine Qn _ rfl ?_;simp only [go_sem]
def agv:AC:=Qa [0] (.reg [mc 2 (.sc (.pointer none))]) (Qa [2] (.reg [mv 3 0,xo 4 (.build [vn0,vi0] [(0,1,(.t 3))]),xo 5 (.box true 2 (.t 4)),mv 2 5]) .ret) def r_make_Roll:List Jl:=[.tmp 2]
def aew (Γ:Env) (f:Nat):Prop:=∀ (l:List Int),EvR Γ f [.sl 1 (l.map V.int)] (Jj l 0)
theorem ao2 {Γ:Env} {f:Nat} (h:Has Γ.P f 6 agv r_make_Roll) :aew Γ f:=by
 intro l
 refine ak7 h (by simp) (by simp only [Jj,V.closed,closedL,and_self]) fun C hC hm=>?_
 subst hC
 unfold agv
 refine zgo ?_;repeat' first|exact zt|apply zan|intro hc
 refine avM _ rfl rfl (by simp only [Jj,V.closed,closedL,and_self])
def wm:List AO:=[mv 5 0,nk 6 5,fa 7 1 6,ld 8 1 7,mv 9 0,nk 10 9,fa 11 0 10,ld 12 1 11,ln 13 12,bn 14 .geq 8 13]
def wZ:List (List Nat):=[[],[0],[1],[2],[],[4],[5],[6],[7],[3,8]]
def xW:OT:=.one 0 (.one 1 (.one 2 (.one 3 (.one 4 (.one 5 (.one 6 (.one 7 (.one 8 (.one 9 .done)))))))))
@[go_sem] def wh:OP:=oN 0 (mv 5 0) (oN 1 (nk 6 5) (oN 2 (fa 7 1 6) (oN 3 (ld 8 1 7) (oN 4 (mv 9 0) (oN 5 (nk 10 9) (oN 6 (fa 11 0 10) (oN 7 (ld 12 1 11) (oN 8 (ln 13 12) (oN 9 (bn 14 .geq 8 13) .done)))))))))
instance:RG [] xW (wh) (wm) wZ 10 (fun _=>true):=⟨rfl,by kernel_rfl,by kernel_rfl⟩
def wl (X3:Nat):List AO:=[mv 22 0,nk 23 22,fa 24 0 23,ld 25 1 24,mv 26 0,nk 27 26,fa 28 1 27,ld 29 1 28,bc 30 .sub 29 (V.int 1),ia 31 1 25 30,ld 32 1 31,mv 33 1,cl 34 X3 [32,33],mv 4 34]
def wY:List (List Nat):=[[],[0],[1],[2],[],[4],[5],[6],[7],[3,8],[9],[],[10,11],[12,12,0,1,2,3,4,5,6,7,8,9,10,11,12]]
def xV:OT:=.one 0 (.one 1 (.one 2 (.one 3 (.one 4 (.one 5 (.one 6 (.one 7 (.one 8 (.one 9 (.one 10 (.one 11 (.one 12 (.one 13 .done)))))))))))))
@[go_sem] def wg (X3:Nat):OP:=oN 0 (mv 22 0) (oN 1 (nk 23 22) (oN 2 (fa 24 0 23) (oN 3 (ld 25 1 24) (oN 4 (mv 26 0) (oN 5 (nk 27 26) (oN 6 (fa 28 1 27) (oN 7 (ld 29 1 28) (oN 8 (bc 30 .sub 29 (V.int 1)) (oN 9 (ia 31 1 25 30) (oN 10 (ld 32 1 31) (oN 11 (mv 33 1) (oN 12 (cl 34 X3 [32,33]) (oN 13 (mv 4 34) .done)))))))))))))
instance (X3:Nat):RG [] xV (wg X3) (wl X3) wY 14 (fun _=>true):=⟨rfl,by kernel_rfl,by kernel_rfl⟩
def jk (X3:Nat):AC:=Qa [0,1] (.reg [mc 4 (V.int 0)]) (Qa [0,1] (Qa [0,1,14] (yh [] xW (wh) (wm) wZ) (.cond (.t 14) (Qa [4] (.reg [mc 4 (V.int 0)]) .ret) .skip)) (Qa [0,1] (.reg [mv 15 0,nk 16 15,fa 17 1 16,ld 18 1 17,bc 19 .add 18 (V.int 1),nk 20 15,fa 21 1 20,xs 1 21 19]) (Qa [4] (yh [] xV (wg X3) (wl X3) wY) .ret))) def r_make_Dice__Next:List Jl:=[.tmp 4]
def JK (Γ:Env) (f:Nat):Prop:=∀ (l:List Int) (k:Nat) (n:Int) (hl:l.length≤400) (hk:k≤l.length),EvD Γ f [V.int n] (Jj l k) (V.int (Jx l k n).1) (Jj l (Jx l k n).2)
attribute [local go_sem] Jj in
theorem ahu {Γ:Env} {f X3:Nat} (h:Has Γ.P f 35 (jk X3) r_make_Dice__Next) (z0:agC Γ X3):JK Γ f:=by
 intro l k n hl hk
 refine Y6 h zsi zcl zc3 zc3 fun C hC hm=>?_
 subst hC
 unfold jk
 by_cases h1:k < l.length
 ·have e1:decide ((k:Int)≥(((l.map V.int).length:Nat):Int)) = false:=by simp;omega
  have hget:l[k]? = some (l.getD k 0):=by simp [List.getD_eq_getElem?_getD,List.getElem?_eq_getElem h1]
  have hw:=Qj (k:=k) (by omega)
  have hw2:IntKind.i64.wrap (((k + 1:Nat):Int) - 1) = (k:Int):=by rw [Yv (by omega) (by omega)];omega
  have hn:Jx l k n = (avF (l.getD k 0) n,k + 1):=by rw [Jx,if_pos h1]
  rw [hn]
  (have zx:=And.intro e1 (And.intro hw (And.intro hw2 hget)));refine zgo ?_;repeat' first|exact zt|apply zan|intro hc
  all_goals (refine Xb _ rfl rfl zcd ?_;simp only [go_sem])
 ·have e1:decide ((k:Int)≥(((l.map V.int).length:Nat):Int)) = true:=by simp;omega
  have hn:Jx l k n = (0,k):=by rw [Jx,if_neg h1]
  rw [hn]
  (have zx:=e1);refine zgo ?_;repeat' first|exact zt|apply zan|intro hc
  all_goals (refine Xb _ rfl rfl zcd ?_;simp only [go_sem])
def ofD (l:List Int) (k:Nat) (xs:List Int):Int×Nat:=(xs.getD (Jx l k xs.length).1.toNat 0,(Jx l k xs.length).2)
theorem afI {l:List Int} {k:Nat} {xs:List Int} (h:xs≠[]) (h2:xs.length < 2 ^ 62):(ofD l k xs).1∈xs:=by
 have h1:1≤xs.length:=by cases xs with|nil=>exact (h rfl).elim|cons _ _=>simp
 have:=JT (l:=l) (k:=k) (n:=xs.length) (by omega) (by omega)
 have hk:(Jx l k xs.length).1.toNat < xs.length:=by omega
 unfold ofD
 simp only [List.getD_eq_getElem?_getD,List.getElem?_eq_getElem hk,Option.getD_some]
 exact List.getElem_mem hk
theorem WD {l:List Int} {k:Nat} {xs:List Int} (hk:k≤l.length):(ofD l k xs).2≤l.length:=Je hk
def wK (Qb:Nat):AC:=Qa [0,1] (.reg [mc 4 (V.int 0)]) (Qa [4] (.reg [mv 5 1,mv 6 0,mv 7 1,ln 8 7,cl 9 Qb [6,8],ia 10 1 5 9,ld 11 1 10,mv 4 11]) .ret) def r_make_Dice__Of:List Jl:=[.tmp 4]
def YU (Γ:Env) (f:Nat):Prop:=∀ (l:List Int) (k:Nat) (xs:List Int) (hl:l.length≤400) (hk:k≤l.length) (hx:1≤xs.length) (hx2:xs.length < 2 ^ 62),EvD Γ f [.sl 1 (xs.map V.int)] (Jj l k) (V.int (ofD l k xs).1) (Jj l (ofD l k xs).2)
attribute [local go_sem] List.length_map Jj in
theorem ajJ {Γ:Env} {f Qb:Nat} (h:Has Γ.P f 12 (wK Qb) r_make_Dice__Of) (z0:JK Γ Qb):YU Γ f:=by
 intro l k xs hl hk hx hx2
 refine Y6 h zsi zcl zc3 zc3 fun C hC hm=>?_
 subst hC
 unfold wK
 have hr:=JT (l:=l) (k:=k) (n:=xs.length) (by omega) (by omega)
 have hget:xs[(Jx l k xs.length).1.toNat]? = some (ofD l k xs).1:=by
  have hk:(Jx l k xs.length).1.toNat < xs.length:=by omega
  simp [ofD,List.getD_eq_getElem?_getD,List.getElem?_eq_getElem hk]
 have hn:=z0 l k xs.length hl hk
 have e2:Jj l (ofD l k xs).2 = Jj l (Jx l k xs.length).2:=rfl
 rw [e2]
 simp only [Jj] at hn
 (have zx:=hget);refine zgo ?_;repeat' first|exact zt|apply zan|intro hc
 refine Xb _ rfl rfl zcd ?_;simp only [go_sem]
def afC (a:Int):List Int :=
 if a = 5∨a = 6∨a = 10∨a = 11 then [2048,1024,512,3072,1023,4096,16384]
 else if a = 7∨a = 12 then [256,160,224,384,521]
 else if a = 9 then [65,44,87]
 else if a = 13 then [768,512,1024]
 else if a = 14 then [128,40]
 else if a = 15 then [168,112]
 else if a = 16∨a = 17 then [128,256]
 else []
def ada (l:List Int) (k:Nat) (a:Int):Int×Nat:=if afC a = [] then (0,k) else ofD l k (afC a)
def agu (Qf:Nat):AC:=Qa [0,1] (.reg [mc 4 (V.int 0)]) (Qa [] (Qa [0,5] (.reg [mv 5 1]) (.block 0 (Qa [0,5,6] (Qa [0,5,6] (.reg [bc 7 .eql 5 (V.int 5),mv 6 7]) (.cond (.t 6) .skip (Qa [0,5,6] (.reg [bc 8 .eql 5 (V.int 6),mv 6 8]) (.cond (.t 6) .skip (Qa [0,5,6] (.reg [bc 9 .eql 5 (V.int 10),mv 6 9]) (.cond (.t 6) .skip (.reg [bc 10 .eql 5 (V.int 11),mv 6 10]))))))) (.cond (.t 6) (Qa [4] (.reg [mv 11 0,xo 12 (.bslice 7 1 false [vi0] [(0,(.c (V.int 2048))),(1,(.c (V.int 1024))),(2,(.c (V.int 512))),(3,(.c (V.int 3072))),(4,(.c (V.int 1023))),(5,(.c (V.int 4096))),(6,(.c (V.int 16384)))]),cl 13 Qf [11,12],mv 4 13]) .ret) (Qa [0,5,14] (Qa [0,5,14] (.reg [bc 15 .eql 5 (V.int 7),mv 14 15]) (.cond (.t 14) .skip (.reg [bc 16 .eql 5 (V.int 12),mv 14 16]))) (.cond (.t 14) (Qa [4] (.reg [mv 17 0,xo 18 (.bslice 5 1 false [vi0] [(0,(.c (V.int 256))),(1,(.c (V.int 160))),(2,(.c (V.int 224))),(3,(.c (V.int 384))),(4,(.c (V.int 521)))]),cl 19 Qf [17,18],mv 4 19]) .ret) (Qa [0,5,20] (.reg [bc 21 .eql 5 (V.int 9),mv 20 21]) (.cond (.t 20) (Qa [4] (.reg [mv 22 0,xo 23 (.bslice 3 1 false [vi0] [(0,(.c (V.int 65))),(1,(.c (V.int 44))),(2,(.c (V.int 87)))]),cl 24 Qf [22,23],mv 4 24]) .ret) (Qa [0,5,25] (.reg [bc 26 .eql 5 (V.int 13),mv 25 26]) (.cond (.t 25) (Qa [4] (.reg [mv 27 0,xo 28 (.bslice 3 1 false [vi0] [(0,(.c (V.int 768))),(1,(.c (V.int 512))),(2,(.c (V.int 1024)))]),cl 29 Qf [27,28],mv 4 29]) .ret) (Qa [0,5,30] (.reg [bc 31 .eql 5 (V.int 14),mv 30 31]) (.cond (.t 30) (Qa [4] (.reg [mv 32 0,xo 33 (.bslice 2 1 false [vi0] [(0,(.c (V.int 128))),(1,(.c (V.int 40)))]),cl 34 Qf [32,33],mv 4 34]) .ret) (Qa [0,5,35] (.reg [bc 36 .eql 5 (V.int 15),mv 35 36]) (.cond (.t 35) (Qa [4] (.reg [mv 37 0,xo 38 (.bslice 2 1 false [vi0] [(0,(.c (V.int 168))),(1,(.c (V.int 112)))]),cl 39 Qf [37,38],mv 4 39]) .ret) (Qa [0,40] (Qa [0,5,40] (.reg [bc 41 .eql 5 (V.int 16),mv 40 41]) (.cond (.t 40) .skip (.reg [bc 42 .eql 5 (V.int 17),mv 40 42]))) (.cond (.t 40) (Qa [4] (.reg [mv 43 0,xo 44 (.bslice 2 1 false [vi0] [(0,(.c (V.int 128))),(1,(.c (V.int 256)))]),cl 45 Qf [43,44],mv 4 45]) .ret) .skip)))))))))))))))) (Qa [4] (.reg [mc 4 (V.int 0)]) .ret)) def r_make_size:List Jl:=[.tmp 4]
def aat (Γ:Env) (f:Nat):Prop:=∀ (l:List Int) (k:Nat) (a:Int) (hl:l.length≤400) (hk:k≤l.length),EvD Γ f [V.int a] (Jj l k) (V.int (ada l k a).1) (Jj l (ada l k a).2)
attribute [local go_sem] Jj in
theorem ao1 {Γ:Env} {f Qf:Nat} (h:Has Γ.P f 46 (agu Qf) r_make_size) (z0:YU Γ Qf):aat Γ f:=by
 intro l k a hl hk
 refine Y6 h zsi zcl zc3 zc3 fun C hC hm=>?_
 subst hC
 unfold agu
 have o1:=z0 l k [2048,1024,512,3072,1023,4096,16384] hl hk (by simp) (by simp)
 have o2:=z0 l k [256,160,224,384,521] hl hk (by simp) (by simp)
 have o3:=z0 l k [65,44,87] hl hk (by simp) (by simp)
 have o4:=z0 l k [768,512,1024] hl hk (by simp) (by simp)
 have o5:=z0 l k [128,40] hl hk (by simp) (by simp)
 have o6:=z0 l k [168,112] hl hk (by simp) (by simp)
 have o7:=z0 l k [128,256] hl hk (by simp) (by simp)
 simp only [Jj] at o1 o2 o3 o4 o5 o6 o7
 refine zgo ?_;repeat' first|exact zt|apply zan|intro hc
 all_goals (first|subst hc|skip)
 all_goals first
  | (have es:ada l k 5 = ofD l k [2048,1024,512,3072,1023,4096,16384]:=rfl
     rw [es];refine Xb _ rfl rfl zcd ?_;simp only [go_sem];done)
  | (simp only [show ∀ x,ada l k x = if afC x = [] then (0,k) else ofD l k (afC x) from fun _=>rfl]
     simp only [afC,Int.reduceEq,reduceIte,or_self,or_true,or_false,true_or,false_or,reduceCtorEq, *]
     refine Xb _ rfl rfl zcd ?_;simp only [go_sem];done)
def yx (Qb:Nat):AC:=Qa [0,1] (.reg [mc 4 (V.bool false)]) (Qa [4] (.reg [mv 5 0,mv 6 1,cl 7 Qb [5,6],mv 8 1,bc 9 .sub 8 (V.int 1),bn 10 .eql 7 9,mv 4 10]) .ret) def r_make_Dice__One:List Jl:=[.tmp 4]
def WO (Γ:Env) (f:Nat):Prop:=∀ (l:List Int) (k:Nat) (n:Int) (hl:l.length≤400) (hk:k≤l.length) (h1:1≤n) (h2:n < 2 ^ 62),EvD Γ f [V.int n] (Jj l k) (V.bool ((Jx l k n).1 == n - 1)) (Jj l (Jx l k n).2)
attribute [local go_sem] Jj in
theorem aiB {Γ:Env} {f Qb:Nat} (h:Has Γ.P f 11 (yx Qb) r_make_Dice__One) (z0:JK Γ Qb):WO Γ f:=by
 intro l k n hl hk h1 h2
 refine Y6 h zsi zcl zc3 zc3 fun C hC hm=>?_
 subst hC
 unfold yx
 have hn:=z0 l k n hl hk
 have hw:IntKind.i64.wrap (n - 1) = n - 1:=Yv (by omega) (by omega)
 simp only [Jj] at hn
 (have zx:=hw);refine zgo ?_;repeat' first|exact zt|apply zan|intro hc
 refine Xb _ rfl rfl zcd ?_;simp only [go_sem]
def afA (l:List Int) (k:Nat) (xs:List (List UInt8)):List UInt8×Nat:=(xs.getD (Jx l k xs.length).1.toNat [],(Jx l k xs.length).2)
theorem asz {l:List Int} {k:Nat} {xs:List (List UInt8)} (h1:1≤xs.length) (h2:xs.length < 2 ^ 62):(afA l k xs).1∈xs:=by
 have:=JT (l:=l) (k:=k) (n:=xs.length) (by omega) (by omega)
 have hk:(Jx l k xs.length).1.toNat < xs.length:=by omega
 unfold afA
 simp only [List.getD_eq_getElem?_getD,List.getElem?_eq_getElem hk,Option.getD_some]
 exact List.getElem_mem hk
def jj (Qb:Nat):AC:=Qa [0,1] (.reg [mc 4 (V.str [])]) (Qa [4] (.reg [mv 5 1,mv 6 0,mv 7 1,ln 8 7,cl 9 Qb [6,8],ia 10 1 5 9,ld 11 1 10,mv 4 11]) .ret) def r_make_Dice__Word:List Jl:=[.tmp 4]
def VG (Γ:Env) (f:Nat):Prop:=∀ (l:List Int) (k:Nat) (xs:List (List UInt8)) (hl:l.length≤400) (hk:k≤l.length) (hx:1≤xs.length) (hx2:xs.length < 2 ^ 62),EvD Γ f [.sl 1 (xs.map V.str)] (Jj l k) (V.str (afA l k xs).1) (Jj l (afA l k xs).2)
attribute [local go_sem] List.length_map Jj in
theorem aht {Γ:Env} {f Qb:Nat} (h:Has Γ.P f 12 (jj Qb) r_make_Dice__Word) (z0:JK Γ Qb):VG Γ f:=by
 intro l k xs hl hk hx hx2
 refine Y6 h zsi zcl zc3 zc3 fun C hC hm=>?_
 subst hC
 unfold jj
 have hr:=JT (l:=l) (k:=k) (n:=xs.length) (by omega) (by omega)
 have hget:xs[(Jx l k xs.length).1.toNat]? = some (afA l k xs).1:=by
  have hk:(Jx l k xs.length).1.toNat < xs.length:=by omega
  simp [afA,List.getD_eq_getElem?_getD,List.getElem?_eq_getElem hk]
 have hn:=z0 l k xs.length hl hk
 have e2:Jj l (afA l k xs).2 = Jj l (Jx l k xs.length).2:=rfl
 rw [e2]
 simp only [Jj] at hn
 (have zx:=hget);refine zgo ?_;repeat' first|exact zt|apply zan|intro hc
 refine Xb _ rfl rfl zcd ?_;simp only [go_sem]
def avE:List (List UInt8):=[[101,99,100,104,101],[118,51],[104,105,103,104],[114,115,97],[97,101,97,100]]
theorem av7 (s:List UInt8):(aj1 s).2 = (Yu 43 s).all abf:=by
 unfold aj1;split
 ·rename_i h;rw [h]
 ·rename_i h;simpa using h
structure ajh (s:List UInt8):Prop where
 colon:(58:UInt8) ∉ s
 known:(Yu 43 s).all abf = true
 head:∃ c r,s = c :: r∧c≠45∧c≠33∧c≠43∧c≠64
def apX (s:List UInt8):Bool:=!s.contains 58 && (Yu 43 s).all abf && (match s with|c :: _=>c != 45 && c != 33 && c != 43 && c != 64|[]=>false)
theorem atl {s:List UInt8} (h:apX s = true):ajh s:=by
 simp only [apX,Bool.and_eq_true,Bool.not_eq_true'] at h
 refine ⟨by simpa using h.1.1,h.1.2,?_⟩
 have h3:=h.2
 cases s with
 | nil=>simp at h3
 | cons c r=>simp at h3;exact ⟨c,r,rfl,h3.1.1.1,h3.1.1.2,h3.1.2,h3.2⟩
theorem atj:∀ x∈avE,apX x = true:=by decide
theorem ajh.join {s t:List UInt8} (hs:ajh s) (ht:t∈avE):ajh (s++[43]++t):=by
 have h2:=atl (atj t ht)
 refine ⟨?_,?_,?_⟩
 ·simp only [List.mem_append,List.mem_singleton,not_or];exact ⟨⟨hs.colon,by decide⟩,h2.colon⟩
 ·rw [ah6,List.all_append,hs.known,h2.known];rfl
 ·obtain ⟨c,r,rfl,h⟩:=hs.head
  exact ⟨c,r++[43]++t,by simp,h⟩
theorem ajh.sign {s:List UInt8} (h:ajh s):UJ s = (0,s):=by
 obtain ⟨c,r,rfl,h1,h2,h3,_⟩:=h.head
 rw [UJ,if_neg (by simp [h1,h2,h3])]
theorem ajh.okW {s:List UInt8} (h:ajh s):wordOk s = true:=by rw [Av.wordOk,h.sign,av7,h.known,Bool.or_true]
structure arm (s:List UInt8) (n:Nat):Prop where
 few:s≠[]→(Yu 58 s).length≤n
 ok:s≠[]→∀ w∈Yu 58 s,wordOk w = true
theorem arm.app {s t:List UInt8} {n m:Nat} (hs:arm s n) (ht:arm t m) (h1:s≠[]) (h2:t≠[]):arm (s++[58]++t) (n + m):=by
 refine ⟨fun _=>?_,fun _ x hx=>?_⟩
 ·have:=hs.few h1;have:=ht.few h2;rw [ah6];simp;omega
 ·rw [ah6] at hx
  rcases List.mem_append.1 hx with hx|hx
  ·exact hs.ok h1 x hx
  ·exact ht.ok h2 x hx
def alz:List Int→List UInt8
 | []=>[]
 | x :: r=>[58]++yj x++alz r
def abg:List Int→List UInt8
 | []=>[]
 | x :: r=>yj x++alz r
theorem akt:∀ (r p:List Int) (s:List UInt8),(p++r).Nodup→p≠[]→x9 p r s = some (s++alz r)
 | [],p,s,_,_=>by simp [x9,alz]
 | x :: r,p,s,h,hp=>by
   have hx:p.contains x = false:=by
    have:=(List.nodup_append.1 h).2.2
    simp only [List.contains_eq_mem,decide_eq_false_iff_not]
    intro hm;exact this x hm x (by simp) rfl
   rw [x9,hx,if_neg (by simp),if_neg hp,akt r _ _ (by simpa using h) (by simp),alz];simp
theorem aks {l:List Int} (hn:l.Nodup) (hr:∀ x∈l,1≤x∧x≤16):KR l = .tup [V.str (abg l),V.int 0]:=by
 have hb:¬ l.any aeY = true:=by
  simp only [List.any_eq_true,not_exists,not_and]
  intro x hx
  have:=hr x hx
  simp [aeY];omega
 rw [KR,if_neg hb]
 cases l with
 | nil=>rfl
 | cons x r =>
   have:x9 [] (x :: r) [] = some (abg (x :: r)):=by
    rw [x9,if_neg (by simp),if_pos rfl,akt r _ _ (by simpa using hn) (by simp),abg];simp
   rw [this]
theorem aoH:∀ r:List Int,(alz r).length≤41 * r.length
 | []=>by simp [alz]
 | x :: r=>by have:=agY x;have:=aoH r;simp [alz];omega
end Av
end
section
namespace Av
open Go
theorem abZ (s:List UInt8):(∀ y∈s.map (fun c=>V.sc (.int .u8 c.toNat)),y.cells.length = 1) = True:=eq_true (by simp [V.cells])
end Av
end
section
set_option maxRecDepth 10000
set_option maxHeartbeats 4000000
namespace Av
open Go
attribute [local irreducible] AWp x8 adc afE awS awC am1 awQ anX Yf abo ama awR acg awB okR agS ris
theorem adx {l:List Int} {j:Nat} {x:Int} (hn:l.Nodup) (hg:l[j]? = some x):x ∉ l.take j:=by
 intro h
 obtain ⟨hj,he⟩:=List.getElem?_eq_some_iff.1 hg
 have h2:l.take j++x :: l.drop (j + 1) = l:=by rw [← he,← List.drop_eq_getElem_cons hj,List.take_append_drop]
 rw [← h2] at hn
 exact (List.nodup_append.1 hn).2.2 x h x (by simp) rfl
theorem ady (c:UInt8):∀ (r:List (List UInt8)) (x:List UInt8),[c].intercalate (x :: r) = x++(r.map fun y=>c :: y).flatten
 | [],x=>by simp [List.intercalate]
 | y :: r,x=>by
   have:=ady c r y
   simp only [List.intercalate,List.intersperse_cons_cons,List.flatten_cons] at this ⊢
   rw [this];simp
theorem amG:∀ r:List Int,alz r = ((r.map yj).map fun y=>(58:UInt8) :: y).flatten
 | []=>rfl
 | x :: r=>by rw [alz,amG r];simp
theorem arV (l:List Int):([58]:List UInt8).intercalate (l.map yj) = abg l:=by
 cases l with
 | nil=>rfl
 | cons x r=>rw [List.map_cons,ady,abg,amG]
theorem aoI (l:List Int):(abg l).length≤41 * l.length:=by
 cases l with
 | nil=>simp [abg]
 | cons x r=>have:=agY x;have:=aoH r;simp [abg];omega
def axt (c:Int):Bool:=decide (K6 (Yd c).name 0 Y5 > 0) == decide ((Yd c).name = [99,104,97,99,104,97])
theorem ap4:∀ x∈([1,2,3,4,5,6,7,8,9,10,11,12,13,14,15,16]:List Int),axt x = true:=by decide +kernel
theorem atk {x:Int} (h:1≤x∧x≤16):yj x = (Yd x).name++if K6 (Yd x).name 0 Y5 > 0 then [43,118,52] else []:=by
 have:=ap4 x (by simp;omega)
 simp only [axt,beq_iff_eq,decide_eq_decide] at this
 unfold yj
 by_cases hc:(Yd x).name = [99,104,97,99,104,97]
 ·rw [if_pos hc,if_pos (this.2 hc)]
 ·rw [if_neg hc,if_neg (fun h=>hc (this.1 h))]
theorem aja:∀ (r p:List Int) (s:List UInt8),p.Nodup→¬ (p++r).Nodup→x9 p r s = none
 | [],p,s,h1,h2=>absurd (by simpa using h1) h2
 | x :: r,p,s,h1,h2=>by
   rw [x9]
   split
   ·rfl
   ·rename_i h
    have hx:x ∉ p:=by simpa using h
    refine aja r _ _ ?_ (by simpa using h2)
    exact List.nodup_append.2 ⟨h1,by simp,fun a ha b hb e=>by simp at hb;subst hb;subst e;exact hx ha⟩
def vd (Γ:Env) (f:Nat):Prop:=∀ (xs:List (List UInt8)) (sep:List UInt8) (hn:xs.length < 2 ^ 40) (hl:(sep.intercalate xs).length < 2 ^ 40),EvN Γ f [.sl 1 (xs.map V.str),V.str sep] (V.str (sep.intercalate xs))
def jc (Jv Xf Qd Qv:Nat):AC:=Qa [0] (.reg [mc 2 (V.str []),mc 3 (V.int 0)]) (Qa [0,4] (.reg [xo 4 (.mknil 1)]) (Qa [0,4] (Qa [0,4,11,12,13] (.reg [mv 11 0,ln 12 11,mc 13 (V.int 0)]) (.block 0 (JH [0,4,11,12,13] (Qa [0,4,11,12,13,14] (.reg [bn 14 .lss 13 12]) (Qa [0,4,11,12,13] (.cond (.t 14) .skip (.exit 0)) (Qa [0,4,11,12,13] (.block 1 (Qa [0,4,6,11,12,13] (.reg [ia 15 1 11 13,ld 16 1 15,mv 6 16]) (Qa [0,4,7,8,11,12,13] (.reg [mv 18 6,cl 19 Jv [18],mv 17 19,ex 20 17 0,ex 21 17 1,xo 7 (.alloc [.val vi0,.val vs0,.val vi0,.val vi0,.val vi0,.val vi0,.val vi0,.val vi0,.val vi0,.val vi0,.val vi0,.val vi0]),xs 12 7 20,mv 8 21]) (Qa [0,4,7,11,12,13] (Qa [0,4,7,8,11,12,13,23] (.reg [mv 22 8,bc 23 .neq 22 (V.int 0)]) (.cond (.t 23) (Qa [2,3] (.reg [mv 24 8,mc 2 (V.str []),mv 3 24]) .ret) .skip)) (Qa [0,4,7,11,12,13] (Qa [0,4,7,11,12,13,28] (.reg [fa 25 1 7,ld 26 1 25,cl 27 Xf [26],bc 28 .gtr 27 (V.int 0)]) (.cond (.t 28) (.reg [fa 29 1 7,ld 30 1 29,bc 31 .add 30 (V.str [43,118,52]),fa 32 1 7,xs 1 32 31]) .skip)) (.reg [mv 33 4,fa 34 1 7,ld 35 1 34,xo 36 (.bslice 1 1 false [vs0] [(0,(.t 35))]),xo 37 (.append 1 16 [vs0] (.t 33) (.t 36)),mv 4 37])))))) (.reg [bc 38 .add 13 (V.int 1),mv 13 38]))))))) (Qa [4] (Qa [0,4,39,40,41] (.reg [mv 39 0,ln 40 39,mc 41 (V.int 0)]) (.block 2 (JH [0,4,39,40,41] (Qa [0,4,39,40,41,42] (.reg [bn 42 .lss 41 40]) (Qa [0,4,39,40,41] (.cond (.t 42) .skip (.exit 2)) (Qa [0,4,39,40,41] (.block 3 (Qa [0,4,9,10,39,40,41] (.reg [mv 43 41,ia 44 1 39 41,ld 45 1 44,mv 9 43,mv 10 45]) (Qa [0,4,39,40,41,50] (.reg [mv 46 0,mv 47 9,xo 48 (.slsl 1 (.t 46) none (some (.t 47))),mv 49 10,cl 50 Qd [48,49]]) (.cond (.t 50) (Qa [2,3] (.reg [mc 2 (V.str []),mc 3 (V.int 5)]) .ret) .skip)))) (.reg [bc 51 .add 41 (V.int 1),mv 41 51]))))))) (Qa [2,3] (.reg [mv 52 4,xo 53 (.call Qv [(.t 52),(.c (V.str [58]))]),mv 2 53,mc 3 (V.int 0)]) .ret)))) def r_suitespec_Print:List Jl:=[.tmp 2,.tmp 3]
def qw (Γ:Env) (f:Nat):Prop:=∀ (l:List Int) (hl:l.length < 2 ^ 30),EvN Γ f [.sl 1 (l.map V.int)] (KR l)
theorem ahm {Γ:Env} {f Jv Xf Qd Qv:Nat} (h:Has Γ.P f 54 (jc Jv Xf Qd Qv) r_suitespec_Print) (z0:Vl Γ Jv) (z1:qM Γ Xf) (z2:Q1 Γ Qd) (z3:vd Γ Qv):qw Γ f:=by
 intro l hl
 refine Qe h zsi (by first|exact xB _|exact abH _) (by first|exact xB _|exact abH _) fun C hC hm=>?_
 subst hC
 unfold jc
 repeat' (first|(refine zsk ?_;intro K' hK)|refine zsp ?_|(refine zsc ?_ ?_<;>intro hc<;>first|exact znh|try simp only [znz] at hc)|simp (maxSteps:=1000000) only [go_sem]|(refine hK _ ?_;clear hK K')|apply zan|(apply Jb;(focus first|exact (z0 _).b|exact (z1 _).b|exact (z2 _ _ zsd).b|exact (z3 _ _ zsd zsd).b))|exact zsq|fail)
 refine QY (ι:=Nat) (fun k=>k≤l.length∧(∀ x∈l.take k,aeY x = false)) (fun k=>QZ [(0,.sl 1 (l.map V.int)),(4,.hd 0 0 ((l.take k).map yj).length),(11,.sl 1 (l.map V.int)),(12,V.int (l.map V.int).length),(13,V.int k)] [(0,.buf true 1 (((l.take k).map yj).map V.str))] 1) (fun k=>l.length - k) 0 ⟨by omega,by simp⟩ (Qk [(0,2000)]) (zwg [(0,2000)]) fun k hk K' hL=>?_
 obtain ⟨hk,hgood⟩:=hk
 rcases hd:l.drop k with _|⟨x,r⟩
 ·have hkl:=Qs hd
  have e1:decide ((k:Int) < (((l.map V.int).length:Nat):Int)) = false:=by simp;omega
  have e3:l.take k = l:=List.take_of_length_le hkl
  rw [e3] at hgood ⊢
  have hng:¬ l.any aeY = true:=by simpa using hgood
  have hr:∀ x∈l,1≤x∧x≤16:=fun x hx=>by have:=hgood x hx;simp [aeY] at this;omega
  have hpv:x9 [] l [] = none→KR l = .tup [V.str [],V.int 5]:=fun h=>by rw [KR,if_neg hng,h]
  repeat' (first|(refine zsk ?_;intro K' hK)|refine zsp ?_|(refine zsc ?_ ?_<;>intro hc<;>first|exact znh|try simp only [znz] at hc)|simp (maxSteps:=1000000) only [go_sem,QZ,e1]|(refine hK _ ?_;clear hK K')|apply zan|(apply Jb;(focus first|exact (z0 _).b|exact (z1 _).b|exact (z2 _ _ zsd).b|exact (z3 _ _ zsd zsd).b))|exact zsq|fail)
  refine QP (ι:=Nat) (fun j=>j≤l.length∧(l.take j).Nodup) (fun j=>[(41,V.int j)]) (fun j=>l.length - j) 0 (by omega) ⟨by omega,by simp⟩ (by repeat' first|exact Q8|refine JD (by omega) (by simp only [Ob.lt,ltL,V.lt,and_self,and_true];try omega) ?_) (fun i hi=>by simp only [ovT,Ji,Nat.reduceEqDiff,reduceIte];(repeat' first|exact JC|refine Q7 ?_ ?_|simp only [V.lt,ltL,and_self,and_true]|omega)) zet fun j hj K'' hL2=>?_
  obtain ⟨hj,hnd⟩:=hj
  simp only [ovT,Ji,Nat.reduceEqDiff,reduceIte]
  rcases hdj:l.drop j with _|⟨y,r2⟩
  ·have hjl:=Qs hdj
   have e2:decide ((j:Int) < (((l.map V.int).length:Nat):Int)) = false:=by simp;omega
   have e4:l.take j = l:=List.take_of_length_le hjl
   rw [e4] at hnd
   have hjn:=arV l
   have hjl2:=aoI l
   have hjoin:=(z3 (l.map yj) [58] (by simp;omega) (by rw [hjn];omega)).b
   rw [hjn] at hjoin
   rw [aks hnd hr]
   have e5:(l.map yj).length = l.length:=by simp
   repeat' (first|(refine zsk ?_;intro K' hK)|refine zsp ?_|(refine zsc ?_ ?_<;>intro hc<;>first|exact znh|try simp only [znz] at hc)|simp (maxSteps:=1000000) only [go_sem,e2,XI]|(refine hK _ ?_;clear hK K')|apply zan|(apply Jb;(focus first|exact hjoin|exact (z0 _).b|exact (z1 _).b|exact (z2 _ _ zsd).b|exact (z3 _ _ zsd zsd).b))|exact zsq|fail)
   all_goals first|exact zr
  ·obtain ⟨hj',hgj,hrj⟩:=Ql hdj
   have hwj:=Qj (k:=j) (by omega)
   have e2:decide ((j:Int) < (((l.map V.int).length:Nat):Int)) = true:=by simp;omega
   have hA:List.take (j - 0) (l.map V.int) = (l.take j).map V.int:=by rw [Nat.sub_zero,List.map_take]
   have hf:=wA y (l.take j) 0
   have hc1:=(z2 (l.take j) y (by rw [List.length_take];omega)).b
   by_cases hin:y∈l.take j
   ·rw [decide_eq_true (hf.2 hin)] at hc1
    have hnn:¬ l.Nodup:=by
     intro h
     have:=adx h hgj
     exact this hin
    rw [hpv (aja l [] [] List.nodup_nil (by simpa using hnn))]
    repeat' (first|(refine zsk ?_;intro K' hK)|refine zsp ?_|(refine zsc ?_ ?_<;>intro hc<;>first|exact znh|try simp only [znz] at hc)|simp (maxSteps:=1000000) only [go_sem,e2,hwj,Int.toNat_natCast,List.getElem?_map,hgj,hA]|(refine hK _ ?_;clear hK K')|apply zan|(apply Jb;(focus first|exact hc1|exact (z0 _).b|exact (z1 _).b|exact (z2 _ _ zsd).b|exact (z3 _ _ zsd zsd).b))|exact zsq|fail)
    all_goals first|exact zr
   ·rw [decide_eq_false (fun h=>hin (hf.1 h))] at hc1
    have hnd2:(l.take (j + 1)).Nodup:=by
     rw [List.take_add_one,hgj]
     exact List.nodup_append.2 ⟨hnd,by simp,fun a ha b hb e=>by simp at hb;subst hb;subst e;exact hin ha⟩
    repeat' (first|(refine zsk ?_;intro K' hK)|refine zsp ?_|(refine zsc ?_ ?_<;>intro hc<;>first|exact znh|try simp only [znz] at hc)|simp (maxSteps:=1000000) only [go_sem,e2,hwj,Int.toNat_natCast,List.getElem?_map,hgj,hA]|(refine hK _ ?_;clear hK K')|apply zan|(apply Jb;(focus first|exact hc1|exact (z0 _).b|exact (z1 _).b|exact (z2 _ _ zsd).b|exact (z3 _ _ zsd zsd).b))|exact zsq|fail)
    all_goals first|exact hL2 _ (j + 1) zet ⟨by omega,hnd2⟩ (by omega) (fun a ha=>by simp only [u32,u33,u34,u35,u36,u37,u38,u39];repeat rw [if_neg (by omega)])
 ·obtain ⟨hk',hget,hr⟩:=Ql hd
  have hw:=Qj (k:=k) (by omega)
  have e1:decide ((k:Int) < (((l.map V.int).length:Nat):Int)) = true:=by simp;omega
  by_cases hx:1≤x∧x≤16
  ·have hsv:Xo x = .tup [(Yd x).v,V.int 0]:=by rw [Xo,if_pos hx]
   have hnf:=atk hx
   have hnl:=agY x
   have hgood2:∀ y∈l.take (k + 1),aeY y = false:=by
    rw [List.take_add_one,hget]
    intro y hy
    rcases List.mem_append.1 hy with hy|hy
    ·exact hgood y hy
    ·simp at hy;subst hy;simp [aeY];omega
   have hns:(l.take (k + 1)).map yj = (l.take k).map yj++[yj x]:=by rw [List.take_add_one,hget,List.map_append];rfl
   have hnl2:((l.take k).map yj).length≤2 ^ 30:=by simp;omega
   generalize (l.take k).map yj = ns at *
   have hb:List.map V.str ns++[V.str (yj x)] = (ns++[yj x]).map V.str:=by rw [List.map_append];rfl
   have hln:ns.length + 1 = (ns++[yj x]).length:=by simp
   rcases hfd:decide (K6 (Yd x).name 0 Y5 > 0) with _|_
   ·rw [if_neg (of_decide_eq_false hfd),List.append_nil] at hnf
    rw [hnf] at hb hln hns hnl
    repeat' (first|(refine zsk ?_;intro K' hK)|refine zsp ?_|(refine zsc ?_ ?_<;>intro hc<;>first|exact znh|try simp only [znz] at hc)|simp (maxSteps:=1000000) only [go_sem,QZ,e1,hsv,hw,hfd,Int.toNat_natCast,List.getElem?_map,hget,QG.v,QG.cells,XI,hb,hln]|(refine hK _ ?_;clear hK K')|apply zan|(apply Jb;(focus first|exact (z0 _).b|exact (z1 _).b|exact (z2 _ _ zsd).b|exact (z3 _ _ zsd zsd).b))|exact zsq|fail)
    all_goals first
     | (refine hL _ (k + 1) (Qk [(0,22001)]) ⟨by omega,hgood2⟩ (by omega) ?_
        rw [hns]
        exact zwg [(0,22001)])
     | (simp only [List.length_append,List.length_singleton];omega)
   ·rw [if_pos (of_decide_eq_true hfd)] at hnf
    rw [hnf] at hb hln hns hnl
    repeat' (first|(refine zsk ?_;intro K' hK)|refine zsp ?_|(refine zsc ?_ ?_<;>intro hc<;>first|exact znh|try simp only [znz] at hc)|simp (maxSteps:=1000000) only [go_sem,QZ,e1,hsv,hw,hfd,Int.toNat_natCast,List.getElem?_map,hget,QG.v,QG.cells,XI,hb,hln]|(refine hK _ ?_;clear hK K')|apply zan|(apply Jb;(focus first|exact (z0 _).b|exact (z1 _).b|exact (z2 _ _ zsd).b|exact (z3 _ _ zsd zsd).b))|exact zsq|fail)
    all_goals first
     | (refine hL _ (k + 1) (Qk [(0,27001)]) ⟨by omega,hgood2⟩ (by omega) ?_
        rw [hns]
        exact zwg [(0,27001)])
     | (simp only [List.length_append,List.length_singleton] at *;omega)
  ·have hsv:Xo x = .tup [(Yd x).v,V.int 8]:=by rw [Xo,if_neg hx]
   have hbad:KR l = .tup [V.str [],V.int 8]:=by
    rw [KR,if_pos]
    rw [List.any_eq_true]
    exact ⟨x,List.mem_of_getElem? hget,by simp [aeY];omega⟩
   rw [hbad]
   repeat' (first|(refine zsk ?_;intro K' hK)|refine zsp ?_|(refine zsc ?_ ?_<;>intro hc<;>first|exact znh|try simp only [znz] at hc)|simp (maxSteps:=1000000) only [go_sem,QZ,e1,hsv,hw,Int.toNat_natCast,List.getElem?_map,hget,QG.v,QG.cells]|(refine hK _ ?_;clear hK K')|apply zan|(apply Jb;(focus first|exact (z0 _).b|exact (z1 _).b|exact (z2 _ _ zsd).b|exact (z3 _ _ zsd zsd).b))|exact zsq|fail)
   all_goals first|exact zr
end Av
end
