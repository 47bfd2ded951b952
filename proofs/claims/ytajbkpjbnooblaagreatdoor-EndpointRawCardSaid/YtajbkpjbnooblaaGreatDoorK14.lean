/- Slices of bytes. -/
import Derived.Test.YtajbkpjbnooblaaGreatDoorK13
import Derived.Test.YtajbkpjbnooblaaGreatDoorK11
import Derived.Test.YtajbkpjbnooblaaGreatDoorK12
set_option linter.unusedVariables false
set_option linter.unusedSimpArgs false
section
set_option linter.unusedSimpArgs false
set_option linter.unusedVariables false
set_option maxRecDepth 10000
set_option maxHeartbeats 4000000
namespace Av
open Go
attribute [local irreducible] AWp VV UQ Ko awS awC jF awQ yc Jb XH jD awR XT awB okR Wy ris
def wI (Γ:Env) (f:Nat):Prop:=∀ (s:List UInt8) (c:UInt8) (hs:s.length < 4294967281),EvC Γ f [V.str s,V.str [c]] (.sl 1 ((Xp c s).map V.str))
def ac1 (Γ:Env) (f:Nat):Prop:=∀ (s:List UInt8) (c:UInt8) (hs:s.length < 4294967281),EvN Γ f [V.str s,V.str [c]] (V.int ((((Xp c s).length - 1:Nat)):Int))
def qv (Γ:Env) (f:Nat):Prop:=∀ (s:List UInt8) (c:UInt8),EvN Γ f [V.str s,.sc (.int .u8 c.toNat)] (V.int (Lib.indexByte s c))
def vN (J0 XO KN:Nat):AC:=Qe [0] (.reg [xo 2 (.mknil 1),mc 3 (V.bool false)]) (Qe [0,4] (.reg [xo 4 (.mknil 1)]) (Qe [4] (Qe [0,4,12,13,14] (.reg [cl 12 J0 [],ln 13 12,mc 14 (V.int 0)]) (.block 0 (Xw [0,4,12,13,14] (Qe [0,4,12,13,14,15] (.reg [bn 15 .lss 14 13]) (Qe [0,4,12,13,14] (.cond (.t 15) (.skip) (.exit 0)) (Qe [0,4,12,13,14] (.block 1 (Qe [0,4,6,12,13,14] (.reg [ia 16 12 12 14,xo 17 (.load true 12 (.t 16)),xo 6 (.alloc [.val (.int .i64 0),.val (.string ⟨#[]⟩),.val (.int .i64 0),.val (.int .i64 0),.val (.int .i64 0),.val (.int .i64 0),.val (.int .i64 0),.val (.int .i64 0),.val (.int .i64 0),.val (.int .i64 0),.val (.int .i64 0),.val (.int .i64 0)]),xs 12 6 17]) (Qe [0,4,6,7,12,13,14] (.reg [mc 7 (V.bool true)]) (Qe [0,4,6,7,12,13,14] (Qe [0,4,6,7,12,13,14,19,20,21] (.reg [mv 18 0,xo 19 (.call XO [(.t 18),(.c (V.str [43]))]),ln 20 19,mc 21 (V.int 0)]) (.block 2 (Xw [0,4,6,7,12,13,14,19,20,21] (Qe [0,4,6,7,12,13,14,19,20,21,22] (.reg [bn 22 .lss 21 20]) (Qe [0,4,6,7,12,13,14,19,20,21] (.cond (.t 22) (.skip) (.exit 2)) (Qe [0,4,6,7,12,13,14,19,20,21] (.block 3 (Qe [0,4,6,7,9,12,13,14,19,20,21] (.reg [ia 23 1 19 21,ld 24 1 23,mv 9 24]) (Qe [0,4,6,7,10,11,12,13,14,19,20,21] (.reg [xo 26 (.load true 12 (.t 6)),mv 27 9,cl 28 KN [26,27],mv 25 28,ex 29 25 0,ex 30 25 1,mv 10 29,mv 11 30]) (Qe [0,4,6,7,10,12,13,14,19,20,21] (Qe [0,4,6,7,10,12,13,14,19,20,21,32] (.reg [mv 31 11,xo 32 (.un .not (.t 31))]) (.cond (.t 32) (Qe [2,3] (.reg [xo 2 (.mknil 1),mc 3 (V.bool false)]) (.ret)) (.skip))) (.reg [mv 33 7,mv 34 33,mg 35 10 34 true,xo 36 (.pick (.t 34) (.t 35) (.c (V.bool false))),mv 7 36]))))) (.reg [bc 37 .add 21 (V.int 1),mv 21 37]))))))) (Qe [0,4,6,12,13,14,38] (.reg [mv 38 7]) (.cond (.t 38) (.reg [mv 39 4,fa 40 0 6,ld 41 1 40,xo 42 (.bslice 1 1 false [(.int .i64 0)] [(0,(.t 41))]),xo 43 (.append 1 8 [(.int .i64 0)] (.t 39) (.t 42)),mv 4 43]) (.skip))))))) (.reg [bc 44 .add 14 (V.int 1),mv 14 44]))))))) (Qe [2,3] (.reg [mv 45 4,mv 2 45,mc 3 (V.bool true)]) (.ret)))) def r_suitespec_Set:List YF:=[.tmp 2,.tmp 3]
def q8 (Γ:Env) (f:Nat):Prop:=∀ (s:List UInt8) (hs:s.length < 2 ^ 30),EvC Γ f [V.str s] (.tup [.sl 1 ((ahK s).1.map V.int),V.bool (ahK s).2])
attribute [local go_sem] Ji.cells Ji.v JY in
theorem ahp {Γ:Env} {f J0 XO KN:Nat} (h:Has Γ.P f 46 (vN J0 XO KN) r_suitespec_Set) (z0:Ug Γ J0) (z1:wI Γ XO) (z2:yk Γ KN):q8 Γ f:=by
 intro s hs
 refine XR h zsi (by simp only [V.closed,closedL,and_self]) fun C hC hm=>?_
 subst hC
 unfold vN
 have hlen:=ajv 43 s
 have hsp:=(z1 s 43 (by omega)).b
 have hset:ahK s = if (Xp 43 s).all abT then (y4 (Xp 43 s) J3,true) else ([],false):=rfl
 rw [hset]
 generalize Xp 43 s = L at *
 refine zgo ?_;repeat' first|exact zt|apply zan|intro hc
 refine Yf (ι:=Nat) (fun k=>k≤16∧(0 < k→L.all abT = true)) (fun k=>JY [(0,V.str s),(4,.hd 0 0 (y4 L (J3.take k)).length),(12,.sl 12 (J3.map Ji.v)),(13,V.int 16),(14,V.int k)] [(0,.buf true 1 ((y4 L (J3.take k)).map V.int))] 1) (fun k=>17 - k) 0 ⟨by omega,fun h=>absurd h (by omega)⟩ (QX [(0,2000)]) (zwg [(0,2000)]) fun k hk K' hL=>?_
 obtain ⟨hk,hkn⟩:=hk
 rcases hd:J3.drop k with _|⟨x,r⟩
 ·have hk16:=Ja hd
  rw [KI] at hk16
  have hk16:k = 16:=by omega
  subst hk16
  have e3:J3.take 16 = J3:=List.take_of_length_le (by rw [KI];omega)
  have hall:=hkn (by omega)
  rw [e3,hall]
  refine zgo ?_;repeat' first|exact zt|apply zan|intro hc
  all_goals (refine QA _ rfl ?_;simp only [go_sem];rw [List.take_of_length_le (by simp)])
 ·obtain ⟨hk',hget,hr⟩:=QK hd
  rw [KI] at hk'
  have hx:=List.mem_of_getElem? hget
  have hw:=QP (k:=k) (by omega)
  have e1:decide ((k:Int) < 16) = true:=by simp;omega
  have hcs:=alu L k x hget
  have hol:(y4 L (J3.take k)).length≤16:=by
   rw [y4,List.length_map]
   refine Nat.le_trans (List.length_filter_le _ _) ?_
   rw [List.length_take];omega
  generalize y4 L (J3.take k) = out at *
  (have zx:=And.intro e1 hget);refine zgo ?_;repeat' first|exact zt|apply zan|intro hc
  refine JM (ι:=Nat) (fun j=>j≤L.length∧(L.take j).all abT = true) (fun j=>[(7,V.bool ((L.take j).all fun n=>aej n x)),(21,V.int j)]) (fun j=>L.length - j) 0 (by omega) ⟨by omega,by simp⟩ (by repeat' first|exact Yb|refine YR (by omega) (by simp only [Ob.lt,ltL,V.lt,and_self,and_true];try omega) ?_) (fun i hi=>by simp only [ovT,Q9,Nat.reduceEqDiff,reduceIte];(repeat' first|exact YQ|refine Ya ?_ ?_|simp only [V.lt,ltL,and_self,and_true]|omega)) (by simp only [Nat.reduceAdd,ovT,Q9,Nat.reduceEqDiff,reduceIte,Qt,Q0,Uh,u32,u33,u34,u35,u36,u37,u38,u39,and_self,and_true,true_and];exact ⟨rfl,rfl⟩) fun j hj K'' hL2=>?_
  obtain ⟨hj,hjk⟩:=hj
  simp only [ovT,Q9,Nat.reduceEqDiff,reduceIte]
  rcases hdj:L.drop j with _|⟨y,r2⟩
  ·have hjl:=Ja hdj
   have e2:decide ((j:Int) < (((L.map V.str).length:Nat):Int)) = false:=by simp;omega
   have e3:L.take j = L:=List.take_of_length_le hjl
   rw [e3] at hjk ⊢
   rcases hin:ap9 L x with _|_
   ·have hin2:(L.all fun n=>aej n x) = false:=hin
    rw [hin2]
    rw [hin] at hcs
    (have zx:=And.intro e2 hw);refine zgo ?_;repeat' first|exact zt|apply zan|intro hc
    simp only [Bool.false_eq_true,if_false,List.append_nil] at hcs
    refine hL _ (k + 1) (QX []) ⟨by omega,fun _=>hjk⟩ (by omega) ?_
    rw [hcs]
    exact zwg []
   ·have hin2:(L.all fun n=>aej n x) = true:=hin
    rw [hin2]
    rw [hin] at hcs
    (have zx:=And.intro e2 hw);refine zgo ?_;repeat' first|exact zt|apply zan|intro hc
    rw [if_pos rfl] at hcs
    have hb:List.take out.length (List.map V.int out)++[V.int x.code] = (out++[x.code]).map V.int:=by
     rw [List.take_of_length_le (by simp),List.map_append];rfl
    have hln:out.length + 1 = (out++[x.code]).length:=by simp
    rw [hb,hln]
    refine hL _ (k + 1) (QX [(0,16001)]) ⟨by omega,fun _=>hjk⟩ (by omega) ?_
    rw [hcs]
    exact zwg [(0,16001)]
  ·obtain ⟨hj',hgj,hrj⟩:=QK hdj
   have hwj:=QP (k:=j) (by omega)
   have e2:decide ((j:Int) < (((L.map V.str).length:Nat):Int)) = true:=by simp;omega
   have hall:((L.take (j + 1)).all fun n=>aej n x) = (((L.take j).all fun n=>aej n x) && aej y x):=by
    rw [List.take_add_one,hgj];simp
   have hnm:=(z2 x y).b
   have h1:=anz hx y
   have h2:=al2 (n:=y) (s:=x)
   simp only [anl,← h1,h2,Ji.v,Ji.cells] at hnm
   rcases hy:abT y with _|_
   ·rw [hy] at hnm
    have e3:L.all abT = false:=by
     rw [List.all_eq_false];exact ⟨y,List.mem_of_getElem? hgj,by simp [hy]⟩
    rw [e3]
    (have zx:=And.intro e2 (And.intro hwj hgj));refine zgo ?_;repeat' first|exact zt|apply zan|intro hc
    all_goals (refine QA _ rfl ?_;simp only [go_sem];first|done|rfl|exact ⟨_,_,rfl⟩|trace_state)
   ·rw [hy] at hnm
    have hjk2:(L.take (j + 1)).all abT = true:=by rw [List.take_add_one,hgj];simp [hy];simpa using hjk
    rcases hb:((L.take j).all fun n=>aej n x) with _|_
    ·rw [hb,Bool.false_and] at hall
     (have zx:=And.intro e2 (And.intro hwj hgj));refine zgo ?_;repeat' first|exact zt|apply zan|intro hc
     all_goals exact hL2 _ (j + 1) (by rw [hall];simp only [Nat.reduceAdd,ovT,Q9,Nat.reduceEqDiff,reduceIte,Qt,Q0,Uh,u32,u33,u34,u35,u36,u37,u38,u39,and_self,and_true,true_and]) ⟨by omega,hjk2⟩ (by omega) (fun a ha=>by simp only [u32,u33,u34,u35,u36,u37,u38,u39];repeat rw [if_neg (by omega)])
    ·rw [hb,Bool.true_and] at hall
     (have zx:=And.intro e2 (And.intro hwj hgj));refine zgo ?_;repeat' first|exact zt|apply zan|intro hc
     all_goals exact hL2 _ (j + 1) (by rw [hall];simp only [Nat.reduceAdd,ovT,Q9,Nat.reduceEqDiff,reduceIte,Qt,Q0,Uh,u32,u33,u34,u35,u36,u37,u38,u39,and_self,and_true,true_and]) ⟨by omega,hjk2⟩ (by omega) (fun a ha=>by simp only [u32,u33,u34,u35,u36,u37,u38,u39];repeat rw [if_neg (by omega)])
end Av
end
section
set_option linter.unusedSimpArgs false
set_option linter.unusedVariables false
set_option maxRecDepth 10000
set_option maxHeartbeats 4000000
namespace Av
open Go
attribute [local irreducible] AWp VV UQ Ko awS awC jF awQ yc Jb XH jD awR XT awB okR Wy ris
def ahf (lt:Int→Int→Bool) (out:List Int) (x:Int):Nat→Nat
 | 0=>0
 | k + 1=>if lt x (out.getD k 0) = true then ahf lt out x k else k + 1
theorem amG (lt:Int→Int→Bool) (out:List Int) (x:Int):∀ k,ahf lt out x k≤k
 | 0=>Nat.le_refl _
 | k + 1=>by
   rw [ahf];split
   ·exact Nat.le_succ_of_le (amG lt out x k)
   ·exact Nat.le_refl _
def ap8 (lt:Int→Int→Bool) (out:List Int) (x:Int):List Int:=out.take (ahf lt out x out.length)++[x]++out.drop (ahf lt out x out.length)
def vq (lt:Int→Int→Bool) (l:List Int):List Int:=l.foldl (ap8 lt) []
theorem ap7 (lt:Int→Int→Bool) (out:List Int) (x:Int):(ap8 lt out x).length = out.length + 1:=by
 have:=amG lt out x out.length
 simp [ap8];omega
theorem ajQ (lt:Int→Int→Bool):∀ (l out:List Int),(l.foldl (ap8 lt) out).length = out.length + l.length
 | [],out=>by simp
 | x :: r,out=>by rw [List.foldl_cons,ajQ lt r,ap7];simp;omega
theorem akR (lt:Int→Int→Bool) (l:List Int):(vq lt l).length = l.length:=by rw [vq,ajQ];simp
theorem aof (lt:Int→Int→Bool) (x:Int):vq lt [x] = [x]:=by simp [vq,ap8,ahf]
abbrev ltS (x y:Int):Bool:=decide (ahI y < ahI x)
theorem ao1 (out:List Int) (x:Int):∀ k,ahf ltS out x k = arg out x k
 | 0=>rfl
 | k + 1=>by rw [ahf,arg,ao1 out x k];simp only [ltS,decide_eq_true_eq]
theorem aqV (l:List Int):vq ltS l = aj5 l:=by
 have:ap8 ltS = ap6:=by funext out x;rw [ap8,ap6,ao1]
 rw [vq,aj5,this]
def ahb (lt:Int→Int→Bool) (xs:List Int) (a i:Nat):List Int:=xs.take a++(vq lt ((xs.take i).drop a)++xs.drop i)
def V8:AC:=Qe [0] (.reg [xo 2 (.mknil 1)]) (Qe [0] (Qe [0,4] (.reg [mv 3 0,xo 4 (.isnil false (.t 3))]) (.cond (.t 4) (Qe [2] (.reg [xo 2 (.mknil 1)]) (.ret)) (.skip))) (Qe [2] (.reg [xo 5 (.bslice 0 1 false [(.int .i64 0)] []),mv 6 0,xo 7 (.append 1 8 [(.int .i64 0)] (.t 5) (.t 6)),mv 2 7]) (.ret))) def r_slices_Clone___int_int:List YF:=[.tmp 2]
def VT (Γ:Env) (f:Nat):Prop:=∀ (l:List Int) (hl:l.length < 2 ^ 34),EvW Γ f [.sl 1 (l.map V.int)] 1 (l.map V.int)
theorem abh {Γ:Env} {f:Nat} (h:Has Γ.P f 8 V8 r_slices_Clone___int_int) :VT Γ f:=by
 intro l hl
 refine aeY h (by simp) (by first|exact aii _|exact ahV _) fun C hC hm=>?_
 subst hC
 unfold V8
 rcases l with _|⟨x,r⟩
 ·repeat' (first|(refine zsk ?_;intro K' hK)|refine zsp ?_|(refine zsc ?_ ?_<;>intro hc<;>first|exact znh|try simp only [znz] at hc)|simp (maxSteps:=1000000) only [go_sem]|(refine hK _ ?_;clear hK K')|apply zan|exact zsq|fail)
  intro t
  rcases t with _|_
  ·repeat' (first|(refine zsk ?_;intro K' hK)|refine zsp ?_|(refine zsc ?_ ?_<;>intro hc<;>first|exact znh|try simp only [znz] at hc)|simp (maxSteps:=1000000) only [go_sem]|(refine hK _ ?_;clear hK K')|apply zan|exact zsq|fail)
   all_goals (refine alp (xs:=[]) _ _ rfl ?_ ?_<;>first|rfl|(simp;done))
  ·repeat' (first|(refine zsk ?_;intro K' hK)|refine zsp ?_|(refine zsc ?_ ?_<;>intro hc<;>first|exact znh|try simp only [znz] at hc)|simp (maxSteps:=1000000) only [go_sem]|(refine hK _ ?_;clear hK K')|apply zan|exact zsq|fail)
   all_goals (refine alp (xs:=[]) _ _ rfl ?_ ?_<;>first|rfl|(simp;done))
 ·repeat' (first|(refine zsk ?_;intro K' hK)|refine zsp ?_|(refine zsc ?_ ?_<;>intro hc<;>first|exact znh|try simp only [znz] at hc)|simp (maxSteps:=1000000) only [go_sem]|(refine hK _ ?_;clear hK K')|apply zan|exact zsq|fail)
  all_goals first
   | (simp only [List.length_map,List.length_cons] at hl ⊢;omega)
   | (refine alp (xs:=V.int x :: List.map V.int r) _ _ rfl ?_ ?_<;>first|rfl|(simp;done))
theorem aot {lt:Int→Int→Bool} {xs:List Int} {a:Nat} (h:a < xs.length):ahb lt xs a (a + 1) = xs:=by
 have e:(xs.take (a + 1)).drop a = [xs[a]]:=by
  rw [List.take_add_one,List.getElem?_eq_getElem h,List.drop_append_of_le_length (by simp;omega),List.drop_eq_nil_of_le (by simp;omega)];rfl
 rw [ahb,e,aof,List.singleton_append,← List.drop_eq_getElem_cons h,List.take_append_drop]
def vp (P S:List Int) (x:Int) (R:List Int) (q:Nat):List Int:=P++(S.take q++x :: (S.drop q++R))
theorem aod {P S R:List Int} {x:Int} {q:Nat}:(vp P S x R q).length = P.length + S.length + 1 + R.length:=by
 simp only [vp,List.length_append,List.length_cons,List.length_take,List.length_drop];omega
theorem aqS {P S R:List Int} {x:Int} {q:Nat} (h:q≤S.length):(vp P S x R q)[P.length + q]? = some x:=by
 have:(S.take q).length = q:=by simp;omega
 rw [vp,List.getElem?_append_right (by omega),List.getElem?_append_right (by omega),this]
 simp
theorem aqR {P S R:List Int} {x:Int} {q:Nat} (h:q < S.length):(vp P S x R (q + 1))[P.length + q]? = some S[q]:=by
 rw [vp,List.getElem?_append_right (by omega),List.getElem?_append_left (by simp;omega),List.getElem?_take]
 simp [h]
theorem aoi (S y x:Int) (T:List Int):∀ A:List Int,((A++y :: S :: T).set (A.length + 1) y).set A.length x = A++x :: y :: T
 | []=>rfl
 | z :: A=>by
   have:=aoi S y x T A
   simp only [List.cons_append,List.length_cons,List.set_cons_succ,this]
theorem aoc {P S R:List Int} {x:Int} {q:Nat} (h:q < S.length):((vp P S x R (q + 1)).set (P.length + (q + 1)) S[q]).set (P.length + q) x = vp P S x R q:=by
 have e1:S.take (q + 1) = S.take q++[S[q]]:=by rw [List.take_add_one,List.getElem?_eq_getElem h];rfl
 have e2:S.drop q = S[q] :: S.drop (q + 1):=List.drop_eq_getElem_cons h
 have e3:(S.take q).length = q:=by simp;omega
 have e4:vp P S x R (q + 1) = (P++S.take q)++S[q] :: x :: (S.drop (q + 1)++R):=by rw [vp,e1];simp only [List.append_assoc,List.cons_append,List.nil_append]
 have e5:vp P S x R q = (P++S.take q)++x :: S[q] :: (S.drop (q + 1)++R):=by rw [vp,e2];simp only [List.append_assoc,List.cons_append,List.nil_append]
 have hl:(P++S.take q).length = P.length + q:=by rw [List.length_append,e3]
 have hl2:P.length + (q + 1) = (P++S.take q).length + 1:=by omega
 rw [e4,e5,hl2,← hl]
 exact aoi _ _ _ _ _
def Xv:List AO:=[mv 18 9,mv 19 1,bn 20 .gtr 18 19,mv 21 20,mg 22 3 21 true,mg 23 0 21 true,mg 24 9 21 true,xg 25 (.iaddr 1 (.t 23) (.t 24)) 21 true,xg 26 (.load false 1 (.t 25)) 21 true,mg 27 0 21 true,mg 28 9 21 true,xg 29 (.bin .sub (.t 28) (.c (V.int 1))) 21 true,xg 30 (.iaddr 1 (.t 27) (.t 29)) 21 true,xg 31 (.load false 1 (.t 30)) 21 true,xg 32 (.callv (.t 22) [(.t 26),(.t 31)]) 21 true,xg 33 (.bin .lss (.t 32) (.c (V.int 0))) 21 true,xo 34 (.pick (.t 21) (.t 33) (.c (V.bool false)))]
def Xy:List (List Nat):=[[],[],[0,1],[2],[3],[3],[3],[5,6,3],[7,3],[3],[3],[10,3],[9,11,3],[12,3],[4,8,13,3,3],[14,3],[3,15]]
def Xr:OT:=.one 0 (.one 1 (.one 2 (.one 3 (.one 4 (.one 5 (.one 6 (.one 7 (.one 8 (.one 9 (.one 10 (.one 11 (.one 12 (.one 13 (.or 14 (.one 15 (.one 16 (.done))) (.done)))))))))))))))
@[go_sem] def QO:OP:=.one 0 false [] (mv 18 9) (.one 1 false [] (mv 19 1) (.one 2 false [] (bn 20 .gtr 18 19) (.one 3 false [] (mv 21 20) (.one 4 false [] (mg 22 3 21 true) (.one 5 false [] (mg 23 0 21 true) (.one 6 false [] (mg 24 9 21 true) (.one 7 false [] (xg 25 (.iaddr 1 (.t 23) (.t 24)) 21 true) (.one 8 false [] (xg 26 (.load false 1 (.t 25)) 21 true) (.one 9 false [] (mg 27 0 21 true) (.one 10 false [] (mg 28 9 21 true) (.one 11 false [] (xg 29 (.bin .sub (.t 28) (.c (V.int 1))) 21 true) (.one 12 false [] (xg 30 (.iaddr 1 (.t 27) (.t 29)) 21 true) (.one 13 false [] (xg 31 (.load false 1 (.t 30)) 21 true) (.or 14 true [] (xg 32 (.callv (.t 22) [(.t 26),(.t 31)]) 21 true) (.one 15 false [14] (xg 33 (.bin .lss (.t 32) (.c (V.int 0))) 21 true) (.one 16 false [14] (xo 34 (.pick (.t 21) (.t 33) (.c (V.bool false)))) (.done))) (.done)))))))))))))))
theorem Jg:okR (Xv) Xy [14] Xr = true:=by kernel_rfl
theorem Jd:Wy (ris (Xv) Xy [14]) Xr = QO:=by kernel_rfl
def Xu:List AO:=[mv 37 0,mv 38 9,mv 39 0,mv 40 9,bc 41 .sub 40 (V.int 1),mv 42 0,mv 43 9,bc 44 .sub 43 (V.int 1),ia 45 1 42 44,ld 46 1 45,mv 47 0,mv 48 9,ia 49 1 47 48,ld 50 1 49,ia 51 1 37 38,xs 1 51 46,ia 52 1 39 41,xs 1 52 50]
def Xx:List (List Nat):=[[],[],[],[],[3],[],[],[6],[5,7],[8],[],[],[10,11],[12],[0,1,0,1,5,6,7,8,9,13],[14,9,0,1,5,6,7,8,9,13],[2,4,0,1,2,3,4,5,6,7,8,9,10,11,12,13,14,15],[16,13,15,0,1,2,3,4,5,6,7,8,9,10,11,12,13,14,15]]
def Xq:OT:=.one 0 (.one 1 (.one 2 (.one 3 (.one 4 (.one 5 (.one 6 (.one 7 (.one 10 (.one 11 (.or 8 (.or 9 (.or 12 (.one 13 (.one 14 (.one 15 (.one 16 (.one 17 (.done)))))) (.done)) (.or 12 (.or 9 (.one 13 (.one 14 (.one 15 (.one 16 (.one 17 (.done)))))) (.or 13 (.one 9 (.one 14 (.one 15 (.one 16 (.one 17 (.done)))))) (.done))) (.done))) (.or 12 (.or 8 (.or 9 (.one 13 (.one 14 (.one 15 (.one 16 (.one 17 (.done)))))) (.or 13 (.one 9 (.one 14 (.one 15 (.one 16 (.one 17 (.done)))))) (.done))) (.or 13 (.one 8 (.one 9 (.one 14 (.one 15 (.one 16 (.one 17 (.done))))))) (.done))) (.done))))))))))))
@[go_sem] def WD:OP:=.one 14 true [] (ia 51 1 37 38) (.one 15 true [] (xs 1 51 46) (.one 16 true [] (ia 52 1 39 41) (.one 17 true [] (xs 1 52 50) (.done))))
@[go_sem] def WC:OP:=.one 13 true [] (ld 50 1 49) WD
@[go_sem] def WB:OP:=.one 9 true [] (ld 46 1 45) WD
@[go_sem] def WA:OP:=.or 9 true [] (ld 46 1 45) WC (.or 13 true [] (ld 50 1 49) WB (.done))
@[go_sem] def QN:OP:=.one 0 false [] (mv 37 0) (.one 1 false [] (mv 38 9) (.one 2 false [] (mv 39 0) (.one 3 false [] (mv 40 9) (.one 4 false [] (bc 41 .sub 40 (V.int 1)) (.one 5 false [] (mv 42 0) (.one 6 false [] (mv 43 9) (.one 7 false [] (bc 44 .sub 43 (V.int 1)) (.one 10 false [] (mv 47 0) (.one 11 false [] (mv 48 9) (.or 8 true [] (ia 45 1 42 44) (.or 9 true [] (ld 46 1 45) (.or 12 true [] (ia 49 1 47 48) WC (.done)) (.or 12 true [] (ia 49 1 47 48) WA (.done))) (.or 12 true [] (ia 49 1 47 48) (.or 8 true [] (ia 45 1 42 44) WA (.or 13 true [] (ld 50 1 49) (.one 8 true [] (ia 45 1 42 44) WB) (.done))) (.done))))))))))))
theorem Jf:okR (Xu) Xx [8,9,12,13,14,16] Xq = true:=by kernel_rfl
theorem Jc:Wy (ris (Xu) Xx [8,9,12,13,14,16]) Xq = QN:=by kernel_rfl def c_slices_insertionSortCmpFunc_int:AC:=Qe [0,1,2,3,8] (.reg [mv 10 1,bc 11 .add 10 (V.int 1),mv 8 11]) (.block 0 (Xw [0,1,2,3,8] (Qe [0,1,2,3,8] (Qe [0,1,2,3,8,14] (.reg [mv 12 8,mv 13 2,bn 14 .lss 12 13]) (.cond (.t 14) (.skip) (.exit 0))) (Qe [0,1,2,3,8] (.block 1 (Qe [0,1,2,3,8,9] (.reg [mv 17 8,mv 9 17]) (.block 2 (Xw [0,1,2,3,8,9] (Qe [0,1,2,3,8,9] (Qe [0,1,2,3,8,9,34] (ace [14] Xr (QO) (Xv) Xy) (.cond (.t 34) (.skip) (.exit 2))) (Qe [0,1,2,3,8,9] (.block 3 (ace [8,9,12,13,14,16] Xq (QN) (Xu) Xx)) (.reg [mv 35 9,bc 36 .sub 35 (V.int 1),mv 9 36]))))))) (.reg [mv 15 8,bc 16 .add 15 (V.int 1),mv 8 16]))))) def r_slices_insertionSortCmpFunc_int:List YF:=[]
def XE (Γ:Env) (f:Nat):Prop:=∀ (xs:List Int) (a b:Nat) (g:Nat) (c:Int→Int→Int) (hcmp:∀ x y,EvN Γ g [V.int x,V.int y] (V.int (c x y))) (hab:a≤b) (hb:b≤xs.length) (hx:xs.length < 2 ^ 34),EvL Γ f [V.int a,V.int b,.clo g []] 1 (xs.map V.int) (.tup []) ((if a = b then xs.map V.int else (ahb (fun x y=>decide (c x y < 0)) xs a b).map V.int))
theorem jB {Γ:Env} {f:Nat} (h:Has Γ.P f 53 c_slices_insertionSortCmpFunc_int r_slices_insertionSortCmpFunc_int) :XE Γ f:=by
 intro xs a b g c hcmp hab hb hx
 refine aeZ h (by simp) (by simp only [V.closed,closedL,V.noSl,abR,and_self,and_true,true_and]) fun C hC hm=>?_
 subst hC
 unfold c_slices_insertionSortCmpFunc_int
 have hwa:=QP (k:=a) (by omega)
 by_cases he:a = b
 ·subst he
  rw [if_pos rfl]
  have e1:decide (((a + 1:Nat):Int) < (a:Int)) = false:=by simp;omega
  repeat' (first|(refine zsk ?_;intro K' hK)|(refine zrt 17 (Jg) (Jd) ?_;intro K' hK)|(refine zrf 18 (Jf) (Jc) ?_;intro K' hK)|refine zsp ?_|(refine zsc ?_ ?_<;>intro hc<;>first|exact znh|try simp only [znz] at hc)|simp (maxSteps:=1000000) only [go_sem,hwa,QO,QN]|(refine hK _ ?_;clear hK K')|apply zan|exact zsq|fail)
  refine Yf (ι:=Unit) (fun _=>True) (fun _=>JY [(0,.hd 0 0 (xs.map V.int).length),(1,V.int a),(2,V.int a),(3,.clo g []),(8,V.int (a + 1:Nat))] [(0,.buf true 1 (xs.map V.int))] 1) (fun _=>0) () trivial (QX []) (zwg []) fun j hj K'' hL2=>?_
  repeat' (first|(refine zsk ?_;intro K' hK)|(refine zrt 17 (Jg) (Jd) ?_;intro K' hK)|(refine zrf 18 (Jf) (Jc) ?_;intro K' hK)|refine zsp ?_|(refine zsc ?_ ?_<;>intro hc<;>first|exact znh|try simp only [znz] at hc)|simp (maxSteps:=1000000) only [go_sem,JY,e1,QO,QN]|(refine hK _ ?_;clear hK K')|apply zan|exact zsq|fail)
  all_goals first|(refine ag3 _ rfl rfl (by simp only [go_sem]) ?_<;>first|rfl|(simp;done))
 ·rw [if_neg he]
  repeat' (first|(refine zsk ?_;intro K' hK)|(refine zrt 17 (Jg) (Jd) ?_;intro K' hK)|(refine zrf 18 (Jf) (Jc) ?_;intro K' hK)|refine zsp ?_|(refine zsc ?_ ?_<;>intro hc<;>first|exact znh|try simp only [znz] at hc)|simp (maxSteps:=1000000) only [go_sem,hwa,QO,QN]|(refine hK _ ?_;clear hK K')|apply zan|exact zsq|fail)
  generalize hlt:(fun x y=>decide (c x y < 0)) = lt
  have hlt2:∀ x y,decide (c x y < 0) = lt x y:=by intro x y;rw [← hlt]
  refine Yf (ι:=Nat) (fun i=>a + 1≤i∧i≤b) (fun i=>JY [(0,.hd 0 0 (xs.map V.int).length),(1,V.int a),(2,V.int b),(3,.clo g []),(8,V.int i)] [(0,.buf true 1 ((ahb lt xs a i).map V.int))] 1) (fun i=>b - i) (a + 1) ⟨by omega,by omega⟩ (QX []) (Ys [] zwa (by rw [aot (by omega)];simp only [go_sem,zwl];(repeat' (first|rfl|apply And.intro|omega|exact fun h=>h|exact Exists.intro _ rfl))) (by simp) (by simp) (by omega)) fun i hi K' hL=>?_
  obtain ⟨hi1,hi2⟩:=hi
  by_cases hib:i = b
  ·subst hib
   have e1:decide ((i:Int) < (i:Int)) = false:=by simp
   repeat' (first|(refine zsk ?_;intro K' hK)|(refine zrt 17 (Jg) (Jd) ?_;intro K' hK)|(refine zrf 18 (Jf) (Jc) ?_;intro K' hK)|refine zsp ?_|(refine zsc ?_ ?_<;>intro hc<;>first|exact znh|try simp only [znz] at hc)|simp (maxSteps:=1000000) only [go_sem,JY,e1,QO,QN]|(refine hK _ ?_;clear hK K')|apply zan|exact zsq|fail)
   all_goals first|(refine ag3 _ rfl rfl (by simp only [go_sem]) ?_<;>first|rfl|(simp;done))
  ·have e1:decide ((i:Int) < (b:Int)) = true:=by simp;omega
   have hwi:=QP (k:=i) (by omega)
   obtain ⟨x,hget⟩:∃ x,xs[i]? = some x:=⟨_,List.getElem?_eq_getElem (by omega)⟩
   have hdx:xs.drop i = x :: xs.drop (i + 1):=by
    rw [List.drop_eq_getElem_cons (by omega)];congr 1
    rw [List.getElem?_eq_getElem (by omega)] at hget;exact Option.some.inj hget
   have hP:(xs.take a).length = a:=by simp;omega
   have hS:(vq lt ((xs.take i).drop a)).length = i - a:=by rw [akR];simp;omega
   have hnext:ahb lt xs a (i + 1) = xs.take a++(ap8 lt (vq lt ((xs.take i).drop a)) x++xs.drop (i + 1)):=by
    have:(xs.take (i + 1)).drop a = (xs.take i).drop a++[x]:=by
     rw [List.take_add_one,hget,List.drop_append_of_le_length (by simp;omega)];rfl
    rw [ahb,this,vq,List.foldl_append];rfl
   have hnow:ahb lt xs a i = vp (xs.take a) (vq lt ((xs.take i).drop a)) x (xs.drop (i + 1)) (i - a):=by
    rw [ahb,hdx,vp,← hS,List.take_length,List.drop_length];rfl
   have hcell:∀ q,vp (xs.take a) (vq lt ((xs.take i).drop a)) x (xs.drop (i + 1)) q = vp (xs.take a) (vq lt ((xs.take i).drop a)) x (xs.drop (i + 1)) q:=fun q=>rfl
   rw [hnow]
   generalize vq lt ((xs.take i).drop a) = S at *
   have hPg:=hP
   generalize xs.take a = P at *
   have hR:(xs.drop (i + 1)).length = xs.length - (i + 1):=List.length_drop
   generalize xs.drop (i + 1) = R at *
   repeat' (first|(refine zsk ?_;intro K' hK)|(refine zrt 17 (Jg) (Jd) ?_;intro K' hK)|(refine zrf 18 (Jf) (Jc) ?_;intro K' hK)|refine zsp ?_|(refine zsc ?_ ?_<;>intro hc<;>first|exact znh|try simp only [znz] at hc)|simp (maxSteps:=1000000) only [go_sem,JY,e1,QO,QN]|(refine hK _ ?_;clear hK K')|apply zan|exact zsq|fail)
   refine Yf (ι:=Nat) (fun q=>q≤i - a∧ahf lt S x q = ahf lt S x S.length) (fun q=>JY [(0,.hd 0 0 (xs.map V.int).length),(1,V.int a),(2,V.int b),(3,.clo g []),(8,V.int i),(9,V.int (a + q:Nat))] [(0,.buf true 1 ((vp P S x R q).map V.int))] 1) (fun q=>q) (i - a) ⟨by omega,by rw [hS]⟩ (QX []) (Ys [] (by rw [show a + (i - a) = i by omega];simp only [go_sem,zwl];(repeat' (first|rfl|apply And.intro|omega|exact fun h=>h|exact Exists.intro _ rfl))) zwa (by simp) (by simp) (by omega)) fun q hq K'' hL2=>?_
   obtain ⟨hq1,hq2⟩:=hq
   have hfin:ahf lt S x S.length = q→vp P S x R q = ahb lt xs a (i + 1):=by
    intro h
    rw [hnext,ap8,h];simp only [vp,List.append_assoc,List.singleton_append,List.cons_append,List.nil_append]
   have hlen:(vp P S x R q).length = xs.length:=by rw [aod,hP,hS,hR];omega
   have gx:=aqS (P:=P) (R:=R) (x:=x) (q:=q) (S:=S) (by omega)
   rw [hP] at gx
   rcases q with _|q
   ·have e2:decide (((a + 0:Nat):Int) > (a:Int)) = false:=by simp
    have hf:=hfin hq2.symm
    repeat' (first|(refine zsk ?_;intro K' hK)|(refine zrt 17 (Jg) (Jd) ?_;intro K' hK)|(refine zrf 18 (Jf) (Jc) ?_;intro K' hK)|refine zsp ?_|(refine zsc ?_ ?_<;>intro hc<;>first|exact znh|try simp only [znz] at hc)|simp (maxSteps:=1000000) only [go_sem,JY,e2,hwi,QO,QN]|(refine hK _ ?_;clear hK K')|apply zan|exact zsq|fail)
    rw [hf]
    exact hL _ (i + 1) (QX []) ⟨by omega,by omega⟩ (by omega) (zwg [])
   ·have hqS:q < S.length:=by omega
    have e2:decide (((a + (q + 1):Nat):Int) > (a:Int)) = true:=decide_eq_true (by omega)
    have hwj:IntKind.i64.wrap (((a + (q + 1):Nat):Int) - 1) = ((a + q:Nat):Int):=by rw [UP (by omega) (by omega)];omega
    have gy:=aqR (P:=P) (R:=R) (x:=x) (q:=q) (S:=S) hqS
    rw [hP] at gy
    have hset:=aoc (P:=P) (R:=R) (x:=x) (q:=q) (S:=S) hqS
    rw [hP] at hset
    have hyd:S.getD q 0 = S[q]:=by rw [List.getD_eq_getElem?_getD,List.getElem?_eq_getElem hqS];rfl
    rw [ahf,hyd] at hq2
    generalize S[q] = y at *
    have hcc:=(hcmp x y).b
    have hd:=hlt2 x y
    rcases hl:lt x y with _|_
    ·rw [hl] at hq2 hd
     simp only [Bool.false_eq_true,if_false] at hq2
     have hf:=hfin hq2.symm
     repeat' (first|(refine zsk ?_;intro K' hK)|(refine zrt 17 (Jg) (Jd) ?_;intro K' hK)|(refine zrf 18 (Jf) (Jc) ?_;intro K' hK)|refine zsp ?_|(refine zsc ?_ ?_<;>intro hc<;>first|exact znh|try simp only [znz] at hc)|simp (maxSteps:=1000000) only [go_sem,JY,e2,hwi,hwj,Int.toNat_natCast,List.getElem?_map,gx,gy,hd,QO,QN]|(refine hK _ ?_;clear hK K')|apply zan|((first|apply Ql|apply Qi);(focus first|exact hcc))|exact zsq|fail)
     all_goals
      rw [hf]
      exact hL _ (i + 1) (QX []) ⟨by omega,by omega⟩ (by omega) (zwg [])
    ·rw [hl] at hq2 hd
     simp only [if_true] at hq2
     have hs1:((List.map V.int (vp P S x R (q + 1))).set (a + (q + 1)) (V.int y))[a + q]? = some (V.int y):=by
      rw [List.getElem?_set_ne (by omega),List.getElem?_map,gy];rfl
     have hs2:((List.map V.int (vp P S x R (q + 1))).set (a + (q + 1)) (V.int y)).set (a + q) (V.int x) = List.map V.int (vp P S x R q):=by
      rw [← hset,List.map_set,List.map_set]
     repeat' (first|(refine zsk ?_;intro K' hK)|(refine zrt 17 (Jg) (Jd) ?_;intro K' hK)|(refine zrf 18 (Jf) (Jc) ?_;intro K' hK)|refine zsp ?_|(refine zsc ?_ ?_<;>intro hc<;>first|exact znh|try simp only [znz] at hc)|simp (maxSteps:=1000000) only [go_sem,JY,e2,hwi,hwj,Int.toNat_natCast,List.getElem?_map,gx,gy,hd,hs1,hs2,QO,QN]|(refine hK _ ?_;clear hK K')|apply zan|((first|apply Ql|apply Qi);(focus first|exact hcc))|exact zsq|fail)
     all_goals exact hL2 _ q (QX []) ⟨by omega,hq2⟩ (by omega) (zwg [])
end Av
end
section
set_option linter.unusedSimpArgs false
set_option linter.unusedVariables false
set_option maxRecDepth 10000
set_option maxHeartbeats 4000000
namespace Av
open Go
attribute [local irreducible] AWp VV UQ Ko awS awC jF awQ yc Jb XH jD awR XT awB okR Wy ris
theorem aou {lt:Int→Int→Bool} (xs:List Int):ahb lt xs 0 xs.length = vq lt xs:=by simp [ahb]
theorem arf (lt:Int→Int→Bool) (xs:List Int):(if 0 = xs.length then xs.map V.int else (ahb lt xs 0 xs.length).map V.int) = (vq lt xs).map V.int:=by
 split
 ·rename_i h
  have:xs = []:=List.eq_nil_of_length_eq_zero h.symm
  subst this;rfl
 ·rw [aou]
def Ve (JA XB:Nat):AC:=Qe [0,1,2,6] (.reg [mc 6 (V.int 20)]) (Qe [0,1,2,6,7,8] (.reg [mv 10 6,mc 7 (V.int 0),mv 8 10]) (Qe [0,1,2,6,7] (.block 0 (Xw [0,1,2,6,7,8] (Qe [0,1,2,6,7,8] (Qe [0,1,2,6,7,8,13] (.reg [mv 11 8,mv 12 1,bn 13 .leq 11 12]) (.cond (.t 13) (.skip) (.exit 0))) (.block 1 (Qe [0,1,2,6,8] (.reg [mv 14 0,mv 15 7,mv 16 8,mv 17 2,cl 18 JA [14,15,16,17]]) (Qe [0,1,2,6,7,8] (.reg [mv 19 8,mv 7 19]) (.reg [mv 20 8,mv 21 6,bn 22 .add 20 21,mv 8 22]))))))) (Qe [0,1,2,6] (.reg [mv 23 0,mv 24 7,mv 25 1,mv 26 2,cl 27 JA [23,24,25,26]]) (.block 2 (Xw [0,1,2,6] (Qe [0,1,2,6] (Qe [0,1,2,6,30] (.reg [mv 28 6,mv 29 1,bn 30 .lss 28 29]) (.cond (.t 30) (.skip) (.exit 2))) (.block 3 (Qe [0,1,2,6,7,8] (.reg [mv 31 6,xo 32 (.bin .mul (.c (V.int 2)) (.t 31)),mc 7 (V.int 0),mv 8 32]) (Qe [0,1,2,6,7] (.block 4 (Xw [0,1,2,6,7,8] (Qe [0,1,2,6,7,8] (Qe [0,1,2,6,7,8,35] (.reg [mv 33 8,mv 34 1,bn 35 .leq 33 34]) (.cond (.t 35) (.skip) (.exit 4))) (.block 5 (Qe [0,1,2,6,8] (.reg [mv 36 0,mv 37 7,mv 38 7,mv 39 6,bn 40 .add 38 39,mv 41 8,mv 42 2,cl 43 XB [36,37,40,41,42]]) (Qe [0,1,2,6,7,8] (.reg [mv 44 8,mv 7 44]) (.reg [mv 45 8,mv 46 6,xo 47 (.bin .mul (.c (V.int 2)) (.t 46)),bn 48 .add 45 47,mv 8 48]))))))) (Qe [0,1,2,6] (Qe [0,1,2,6,7,9] (.reg [mv 49 7,mv 50 6,bn 51 .add 49 50,mv 9 51]) (Qe [0,1,2,6,7,9,54] (.reg [mv 52 9,mv 53 1,bn 54 .lss 52 53]) (.cond (.t 54) (.reg [mv 55 0,mv 56 7,mv 57 9,mv 58 1,mv 59 2,cl 60 XB [55,56,57,58,59]]) (.skip)))) (.reg [mv 61 6,bc 62 .mul 61 (V.int 2),mv 6 62]))))))))))) def r_slices_stableCmpFunc_int:List YF:=[]
def W5 (Γ:Env) (f:Nat):Prop:=∀ (xs:List Int) (g:Nat) (c:Int→Int→Int) (hcmp:∀ x y,EvN Γ g [V.int x,V.int y] (V.int (c x y))) (hx:xs.length≤20),EvL Γ f [V.int xs.length,.clo g []] 1 (xs.map V.int) (.tup []) (((vq (fun x y=>decide (c x y < 0)) xs).map V.int))
attribute [local go_sem] JY in
theorem vJ {Γ:Env} {f JA XB:Nat} (h:Has Γ.P f 63 (Ve JA XB) r_slices_stableCmpFunc_int) (z0:XE Γ JA):W5 Γ f:=by
 intro xs g c hcmp hx
 refine aeZ h (by simp) (by simp only [V.closed,closedL,V.noSl,abR,and_self,and_true,true_and]) fun C hC hm=>?_
 subst hC
 unfold Ve
 have hi:=z0 xs 0 xs.length g c hcmp (by omega) (by omega) (by omega)
 rw [arf] at hi
 have hi0:EvL C.env JA [V.int 0,V.int xs.length,.clo g []] 1 (xs.map V.int) (.tup []) ((vq (fun x y=>decide (c x y < 0)) xs).map V.int):=hi
 have hln:(vq (fun x y=>decide (c x y < 0)) xs).length = xs.length:=akR _ _
 have e9:decide ((20:Int) < (xs.length:Int)) = false:=by simp;omega
 by_cases h20:xs.length = 20
 ·have hj:=z0 (vq (fun x y=>decide (c x y < 0)) xs) 20 20 g c hcmp (by omega) (by omega) (by omega)
  rw [if_pos rfl] at hj
  generalize vq (fun x y=>decide (c x y < 0)) xs = ys at *
  rw [h20] at hi0 e9 ⊢
  have hj0:EvL C.env JA [V.int 20,V.int 20,.clo g []] 1 (ys.map V.int) (.tup []) (ys.map V.int):=hj
  have e20:((20:Nat):Int) = 20:=rfl
  rw [e20] at hi0 e9 ⊢
  refine zgo ?_;repeat' first|exact zt|apply zan|intro hc
  refine Yf (ι:=Bool) (fun _=>True) (fun t=>JY [(0,.hd 0 0 (xs.map V.int).length),(1,V.int 20),(2,.clo g []),(6,V.int 20),(7,V.int (if t then 0 else 20)),(8,V.int (if t then 20 else 40))] [(0,.buf true 1 ((if t then xs else ys).map V.int))] 1) (fun t=>if t then 1 else 0) true trivial (QX []) (zwg []) fun t ht K' hL=>?_
  rcases t with _|_
  ·simp only [Bool.false_eq_true,if_false]
   refine zgo ?_;repeat' first|exact zt|apply zan|intro hc
   refine Yf (ι:=Unit) (fun _=>True) (fun _=>JY [(0,.hd 0 0 (xs.map V.int).length),(1,V.int 20),(2,.clo g []),(6,V.int 20)] [(0,.buf true 1 (ys.map V.int))] 1) (fun _=>0) () trivial (QX []) (zwg []) fun u hu K'' hL2=>?_
   refine zgo ?_;repeat' first|exact zt|apply zan|intro hc
   all_goals first|(refine ag3 _ rfl rfl (by simp only [go_sem]) ?_;done)|(refine ag3 _ rfl rfl (by simp only [go_sem]) ?_;rfl)
  ·simp only [if_true]
   refine zgo ?_;repeat' first|exact zt|apply zan|intro hc
   all_goals exact hL _ false (QX []) trivial (by simp) (zwg [])
 ·generalize vq (fun x y=>decide (c x y < 0)) xs = ys at *
  have e8:decide ((20:Int)≤(xs.length:Int)) = false:=by simp;omega
  refine zgo ?_;repeat' first|exact zt|apply zan|intro hc
  refine Yf (ι:=Unit) (fun _=>True) (fun _=>JY [(0,.hd 0 0 (xs.map V.int).length),(1,V.int xs.length),(2,.clo g []),(6,V.int 20),(7,V.int 0),(8,V.int 20)] [(0,.buf true 1 (xs.map V.int))] 1) (fun _=>0) () trivial (QX []) (zwg []) fun u hu K' hL=>?_
  (have zx:=e8);refine zgo ?_;repeat' first|exact zt|apply zan|intro hc
  refine Yf (ι:=Unit) (fun _=>True) (fun _=>JY [(0,.hd 0 0 (xs.map V.int).length),(1,V.int xs.length),(2,.clo g []),(6,V.int 20)] [(0,.buf true 1 (ys.map V.int))] 1) (fun _=>0) () trivial (QX []) (zwg []) fun u hu K' hL=>?_
  (have zx:=e9);refine zgo ?_;repeat' first|exact zt|apply zan|intro hc
  all_goals first|(refine ag3 _ rfl rfl (by simp only [go_sem]) ?_;done)|(refine ag3 _ rfl rfl (by simp only [go_sem]) ?_;rfl)
def XS (X1:Nat):AC:=.reg [mv 4 0,mv 5 0,ln 6 5,mv 7 1,cl 8 X1 [4,6,7]] def r_slices_SortStableFunc___int_int:List YF:=[]
def XF (Γ:Env) (f:Nat):Prop:=∀ (xs:List Int) (g:Nat) (c:Int→Int→Int) (hcmp:∀ x y,EvN Γ g [V.int x,V.int y] (V.int (c x y))) (hx:xs.length≤20),EvL Γ f [.clo g []] 1 (xs.map V.int) (.tup []) (((vq (fun x y=>decide (c x y < 0)) xs).map V.int))
theorem jC {Γ:Env} {f X1:Nat} (h:Has Γ.P f 9 (XS X1) r_slices_SortStableFunc___int_int) (z0:W5 Γ X1):XF Γ f:=by
 intro xs g c hcmp hx
 refine aeZ h (by simp) (by simp only [V.closed,closedL,V.noSl,abR,and_self,and_true,true_and]) fun C hC hm=>?_
 subst hC
 unfold XS
 have hi:=z0 xs g c hcmp hx
 have e:((xs.map V.int).length:Int) = (xs.length:Int):=by simp
 (have zx:=e);refine zgo ?_;repeat' first|exact zt|apply zan|intro hc
 all_goals first|(refine ag3 _ rfl rfl (by simp only [go_sem]) ?_;done)|(refine ag3 _ rfl rfl (by simp only [go_sem]) ?_;rfl)
theorem aju (c:Int):0≤ahI c∧ahI c≤512:=by
 unfold ahI;split
 ·exact aiX _ _
 ·exact ⟨by omega,by omega⟩
def j3 (WF:Nat):AC:=Qe [0,1] (.reg [mc 4 (V.int 0)]) (Qe [4] (.reg [mv 5 1,cl 6 WF [5],mv 7 0,cl 8 WF [7],bn 9 .sub 6 8,mv 4 9]) (.ret)) def r_suitespec_Sort_1:List YF:=[.tmp 4]
def jq (Γ:Env) (f:Nat):Prop:=∀ (x y:Int),EvN Γ f [V.int x,V.int y] (V.int (ahI y - ahI x))
theorem aeO {Γ:Env} {f WF:Nat} (h:Has Γ.P f 10 (j3 WF) r_suitespec_Sort_1) (z0:KF Γ WF):jq Γ f:=by
 intro x y
 refine Qj h zsi zcl zcl fun C hC hm=>?_
 subst hC
 unfold j3
 have h1:=aju x
 have h2:=aju y
 have hw:IntKind.i64.wrap (ahI y - ahI x) = ahI y - ahI x:=UP (by omega) (by omega)
 (have zx:=hw);refine zgo ?_;repeat' first|exact zt|apply zan|intro hc
 all_goals (refine QA _ rfl ?_;simp only [go_sem])
def wx (Wr YI Vp:Nat):AC:=Qe [0] (.reg [xo 2 (.mknil 1)]) (Qe [3] (.reg [mv 4 0,cl 5 Wr [4],mv 3 5]) (Qe [3] (.reg [mv 6 3,xo 7 (.call YI [(.t 6),(.c (.clo Vp []))])]) (Qe [2] (.reg [mv 8 3,mv 2 8]) (.ret)))) def r_suitespec_Sort:List YF:=[.tmp 2]
def xr (Γ:Env) (f:Nat):Prop:=∀ (l:List Int) (hl:l.length≤20),EvW Γ f [.sl 1 (l.map V.int)] 1 ((aj5 l).map V.int)
theorem agv {Γ:Env} {f Wr YI Vp:Nat} (h:Has Γ.P f 9 (wx Wr YI Vp) r_suitespec_Sort) (z0:VT Γ Wr) (z1:XF Γ YI) (z2:jq Γ Vp):xr Γ f:=by
 intro l hl
 refine aeY h (by simp) (by first|exact aii _|exact ahV _) fun C hC hm=>?_
 subst hC
 unfold wx
 have hs:=z1 l Vp (fun x y=>ahI y - ahI x) (fun x y=>z2 x y) hl
 have e:(fun x y:Int=>decide (ahI y - ahI x < 0)) = ltS:=by
  funext x y;simp only [ltS];congr 1;apply propext;omega
 rw [e,aqV] at hs
 have hln:=akQ l
 refine zgo ?_;repeat' first|exact zt|apply zan|intro hc
 all_goals first|(refine alp _ _ rfl ?_ ?_<;>first|rfl|(simp;done)|(simp only [List.length_map];omega))
end Av
end
section
set_option linter.unusedSimpArgs false
set_option linter.unusedVariables false
set_option maxRecDepth 10000
set_option maxHeartbeats 4000000
namespace Av
open Go
attribute [local irreducible] AWp VV UQ Ko awS awC jF awQ yc Jb XH jD awR XT awB okR Wy ris
def Uy (Qh:Nat):AC:=Qe [0,1] (.reg [mc 3 (V.bool false)]) (Qe [3] (.reg [ld 4 1 1,mv 5 0,cl 6 Qh [4,5],mv 3 6]) (.ret)) def r_suitespec_row__word_1:List YF:=[.tmp 3]
def Uc (Γ:Env) (f:Nat):Prop:=∀ (x:Int) (m:List Int) (hm2:m.length < 2 ^ 62),EvN Γ f [V.int x,.ro [.sl 1 (m.map V.int)] 0] (V.bool (m.contains x))
theorem abX {Γ:Env} {f Qh:Nat} (h:Has Γ.P f 7 (Uy Qh) r_suitespec_row__word_1) (z0:JJ Γ Qh):Uc Γ f:=by
 intro x m hm2
 refine Qj h zsi zcl zcl fun C hC hm=>?_
 subst hC
 unfold Uy
 have e:decide (KM x 0 m≥0) = m.contains x:=by
  have:=vI x m 0
  rw [Bool.eq_iff_iff];simp only [decide_eq_true_eq,List.contains_eq_mem];exact this
 (have zx:=e);refine zgo ?_;repeat' first|exact zt|apply zan|intro hc
 all_goals (refine QA _ rfl ?_;simp only [go_sem])
theorem arh (c:UInt8):decide (Lib.indexByte [45,33,43] c≥0) = decide (c = 45∨c = 33∨c = 43):=by
 by_cases h1:c = 45
 ·subst h1;decide
 ·by_cases h2:c = 33
  ·subst h2;decide
  ·by_cases h3:c = 43
   ·subst h3;decide
   ·have:Lib.indexByte [45,33,43] c = -1:=by
     simp [Lib.indexByte,Ne.symm h1,Ne.symm h2,Ne.symm h3]
    rw [this];simp [h1,h2,h3]
def sgn (c:UInt8):List UInt8:=if c = 0 then [] else [c]
theorem aho {p:Int→Bool} {l:List Int} {k:Nat} {x:Int} (h:l[k]? = some x):(l.take (k + 1)).filter p = (l.take k).filter p++(if p x = true then [x] else []):=by
 rw [List.take_add_one,h,List.filter_append]
 congr 1
 by_cases hx:p x = true<;>simp [hx]
def Uq:List AO:=[mv 33 1,xo 34 (.slstr (.t 33) none (some (.c (V.int 1)))),mv 35 1,xo 36 (.slstr (.t 35) (some (.c (V.int 1))) none),mv 5 34,mv 1 36]
def UC:List (List Nat):=[[],[0],[],[2],[1,0,1],[3,4,0,1,2,3,4]]
def Um:OT:=.one 0 (.one 1 (.one 2 (.one 3 (.one 4 (.one 5 (.done))))))
@[go_sem] def Qz:OP:=.one 0 false [] (mv 33 1) (.one 1 false [] (xo 34 (.slstr (.t 33) none (some (.c (V.int 1))))) (.one 2 false [] (mv 35 1) (.one 3 false [] (xo 36 (.slstr (.t 35) (some (.c (V.int 1))) none)) (.one 4 false [] (mv 5 34) (.one 5 false [] (mv 1 36) (.done))))))
theorem QT:okR (Uq) UC [] Um = true:=by kernel_rfl
theorem QR:Wy (ris (Uq) UC []) Um = Qz:=by kernel_rfl
def Up:List AO:=[mv 108 0,mv 109 0,mv 110 10,mv 111 0,nk 112 111,fa 113 1 112,ld 114 1 113,ld 115 1 6,xo 116 (.append 1 8 [(.int .i64 0)] (.t 114) (.t 115)),nk 117 108,fa 118 0 117,xs 1 118 110,nk 119 109,fa 120 1 119,xs 1 120 116]
def UB:List (List Nat):=[[],[],[],[],[3],[4],[5],[],[6,7],[0,0,2,6,8],[9,0,2,6,8],[10,2,8,0,2,6,8],[1,0,1,2,3,4,5,6,7,8,9,10,11],[12,0,1,2,3,4,5,6,7,8,9,10,11],[13,8,11,0,1,2,3,4,5,6,7,8,9,10,11]]
def Uk:OT:=.one 0 (.one 1 (.one 2 (.one 3 (.one 4 (.one 5 (.or 6 (.or 7 (.one 8 (.one 9 (.one 10 (.one 11 (.one 12 (.one 13 (.one 14 (.done)))))))) (.done)) (.or 7 (.one 6 (.one 8 (.one 9 (.one 10 (.one 11 (.one 12 (.one 13 (.one 14 (.done))))))))) (.done))))))))
@[go_sem] def qJ:OP:=.one 8 true [] (xo 116 (.append 1 8 [(.int .i64 0)] (.t 114) (.t 115))) (.one 9 false [] (nk 117 108) (.one 10 false [] (fa 118 0 117) (.one 11 true [] (xs 1 118 110) (.one 12 false [] (nk 119 109) (.one 13 false [] (fa 120 1 119) (.one 14 true [8] (xs 1 120 116) (.done)))))))
@[go_sem] def Qy:OP:=.one 0 false [] (mv 108 0) (.one 1 false [] (mv 109 0) (.one 2 false [] (mv 110 10) (.one 3 false [] (mv 111 0) (.one 4 false [] (nk 112 111) (.one 5 false [] (fa 113 1 112) (.or 6 true [] (ld 114 1 113) (.or 7 true [] (ld 115 1 6) qJ (.done)) (.or 7 true [] (ld 115 1 6) (.one 6 true [] (ld 114 1 113) qJ) (.done))))))))
theorem QS:okR (Up) UB [6,7] Uk = true:=by kernel_rfl
theorem QQ:Wy (ris (Up) UB [6,7]) Uk = Qy:=by kernel_rfl def c_suitespec_row__word (qU YA XN XM Qh:Nat):AC:=Qe [0,1] (.reg [mc 4 (V.bool false)]) (Qe [0,1] (Qe [0,1,16] (.reg [mv 15 1,bc 16 .eql 15 (V.str [64,115,116,114,101,110,103,116,104])]) (.cond (.t 16) (Qe [] (.reg [mv 17 0,mv 18 0,nk 19 18,fa 20 0 19,ld 21 1 20,cl 22 qU [21],nk 23 17,fa 24 0 23,xs 1 24 22]) (Qe [4] (.reg [mc 4 (V.bool true)]) (.ret))) (.skip))) (Qe [0,1,5] (.reg [mc 5 (V.str [])]) (Qe [0,1,5] (Qe [0,1,5,32] (.reg [mv 25 1,bc 26 .neq 25 (V.str []),mv 27 26,mg 28 1 27 true,xg 29 (.idxS (.t 28) (.c (V.int 0))) 27 true,xg 30 (.call YA [(.c (V.str [45,33,43])),(.t 29)]) 27 true,xg 31 (.bin .geq (.t 30) (.c (V.int 0))) 27 true,xo 32 (.pick (.t 27) (.t 31) (.c (V.bool false)))]) (.cond (.t 32) (ace [] Um (Qz) (Uq) UC) (.skip))) (Qe [0,5,6,7] (.reg [mv 38 1,cl 39 XN [38],mv 37 39,ex 40 37 0,ex 41 37 1,xo 6 (.alloc [.nil 1]),xs 1 6 40,mv 7 41]) (Qe [0,5,6] (Qe [0,5,6,43] (.reg [mv 42 7,xo 43 (.un .not (.t 42))]) (.cond (.t 43) (Qe [4] (.reg [mc 4 (V.bool false)]) (.ret)) (.skip))) (Qe [0,5,6,8] (.reg [xo 44 (.mkfn XM [(.t 6)]),mv 8 44]) (Qe [0,5,6,8,9,10] (.reg [xo 9 (.mknil 1),xo 10 (.mknil 1)]) (Qe [0,5,6,9,10] (Qe [0,5,6,8,9,10,48,49,50] (.reg [mv 45 0,nk 46 45,fa 47 0 46,ld 48 1 47,ln 49 48,mc 50 (V.int 0)]) (.block 0 (Xw [0,5,6,8,9,10,48,49,50] (Qe [0,5,6,8,9,10,48,49,50,51] (.reg [bn 51 .lss 50 49]) (Qe [0,5,6,8,9,10,48,49,50] (.cond (.t 51) (.skip) (.exit 0)) (Qe [0,5,6,8,9,10,48,49,50] (.block 1 (Qe [0,5,6,8,9,10,12,48,49,50] (.reg [ia 52 1 48 50,ld 53 1 52,mv 12 53]) (Qe [0,5,6,8,9,10,12,48,49,50,56] (.reg [mv 54 8,mv 55 12,xo 56 (.callv (.t 54) [(.t 55)])]) (.cond (.t 56) (.reg [mv 57 9,mv 58 12,xo 59 (.bslice 1 1 false [(.int .i64 0)] [(0,(.t 58))]),xo 60 (.append 1 8 [(.int .i64 0)] (.t 57) (.t 59)),mv 9 60]) (.reg [mv 61 10,mv 62 12,xo 63 (.bslice 1 1 false [(.int .i64 0)] [(0,(.t 62))]),xo 64 (.append 1 8 [(.int .i64 0)] (.t 61) (.t 63)),mv 10 64]))))) (.reg [bc 65 .add 50 (V.int 1),mv 50 65]))))))) (Qe [] (Qe [0,6,9,10,66] (.reg [mv 66 5]) (.block 2 (Qe [0,6,9,10,66,100] (.reg [bc 101 .eql 66 (V.str [45]),mv 100 101]) (.cond (.t 100) (.reg [mv 102 0,mv 103 10,nk 104 102,fa 105 0 104,xs 1 105 103]) (Qe [0,6,9,10,66,106] (.reg [bc 107 .eql 66 (V.str [33]),mv 106 107]) (.cond (.t 106) (ace [6,7] Uk (Qy) (Up) UB) (Qe [0,6,9,10,121] (.reg [bc 122 .eql 66 (V.str [43]),mv 121 122]) (.cond (.t 121) (.reg [mv 123 0,mv 124 10,mv 125 9,xo 126 (.append 1 8 [(.int .i64 0)] (.t 124) (.t 125)),nk 127 123,fa 128 0 127,xs 1 128 126]) (Qe [0,67,68,69] (.reg [ld 67 1 6,ln 68 67,mc 69 (V.int 0)]) (.block 3 (Xw [0,67,68,69] (Qe [0,67,68,69,70] (.reg [bn 70 .lss 69 68]) (Qe [0,67,68,69] (.cond (.t 70) (.skip) (.exit 3)) (Qe [0,67,68,69] (.block 4 (Qe [0,14,67,68,69] (.reg [ia 71 1 67 69,ld 72 1 71,mv 14 72]) (Qe [0,14,67,68,69,88] (.reg [mv 73 0,nk 74 73,fa 75 0 74,ld 76 1 75,mv 77 14,cl 78 Qh [76,77],xo 79 (.un .not (.t 78)),mv 80 79,mg 81 0 80 true,xg 82 (.nilck (.t 81)) 80 true,xg 83 (.faddr 1 (.t 82)) 80 true,xg 84 (.load false 1 (.t 83)) 80 true,mg 85 14 80 true,xg 86 (.call Qh [(.t 84),(.t 85)]) 80 true,xg 87 (.un .not (.t 86)) 80 true,xo 88 (.pick (.t 80) (.t 87) (.c (V.bool false)))]) (.cond (.t 88) (.reg [mv 89 0,mv 90 0,nk 91 90,fa 92 0 91,ld 93 1 92,mv 94 14,xo 95 (.bslice 1 1 false [(.int .i64 0)] [(0,(.t 94))]),xo 96 (.append 1 8 [(.int .i64 0)] (.t 93) (.t 95)),nk 97 89,fa 98 0 97,xs 1 98 96]) (.skip))))) (.reg [bc 99 .add 69 (V.int 1),mv 69 99]))))))))))))))) (Qe [4] (.reg [mc 4 (V.bool true)]) (.ret))))))))))) def r_suitespec_row__word:List YF:=[.tmp 4]
def UT (Γ:Env) (f:Nat):Prop:=∀ (w:List UInt8) (l k:List Int) (hw:w.length < 2 ^ 30) (hr:amr (l,k)) (hk:k.length < 2 ^ 30),EvT Γ f [V.str w] 1 1 (l.map V.int) (k.map V.int) (V.bool (wordOk w)) (((if wordOk w then doR w (l,k) else (l,k)).1).map V.int) (((if wordOk w then doR w (l,k) else (l,k)).2).map V.int)
theorem ac7 {Γ:Env} {f qU YA XN XM Qh:Nat} (h:Has Γ.P f 129 (c_suitespec_row__word qU YA XN XM Qh) r_suitespec_row__word) (z0:xr Γ qU) (z1:qv Γ YA) (z2:q8 Γ XN) (z3:Uc Γ XM) (z4:JJ Γ Qh):UT Γ f:=by
 intro w l k hw hr hk
 refine amc h (by simp) (by simp only [V.closed,closedL,V.noSl,abR,and_self,and_true,true_and]) fun C hC hm=>?_
 subst hC
 unfold c_suitespec_row__word
 have hl16:l.length≤16:=hr.len
 by_cases h0:w = arN
 ·have e1:wordOk w = true:=by simp [wordOk,h0]
  have e2:doR w (l,k) = (aj5 l,k):=by simp [doR,h0]
  rw [e1,if_pos rfl,e2]
  have e3:(w == [64,115,116,114,101,110,103,116,104]) = true:=by simp [h0,arN]
  repeat' (first|(refine zsk ?_;intro K' hK)|(refine zrt 6 (QT) (QR) ?_;intro K' hK)|(refine zrf 15 (QS) (QQ) ?_;intro K' hK)|refine zsp ?_|(refine zsc ?_ ?_<;>intro hc<;>first|exact znh|try simp only [znz] at hc)|simp (maxSteps:=1000000) only [go_sem,e3,List.take_length,Qz,Qy]|(refine hK _ ?_;clear hK K')|apply zan|((first|apply Vw|apply XU);(focus first|exact (z0 _ zsd)))|((first|apply Ql|apply Qi);(focus first|exact (z1 _ _).b|exact (z2 _ zsd).b|exact (z3 _ _ zsd).b|exact (z4 _ _ zsd).b))|exact zsq|fail)
  all_goals first
   | (refine ajS _ _ _ _ _ rfl (by simp only [go_sem]) rfl rfl rfl (by decide) (by decide) (by decide) ⟨_,rfl⟩ ⟨_,rfl⟩ ?_ ?_ ?_ ?_<;>first|rfl|(simp;done))
 ·have e3:(w == [64,115,116,114,101,110,103,116,104]) = false:=aoe h0
  have ed:doR w (l,k) = doG (qF w).1 (ahK (qF w).2).1 (l,k):=by rw [doR,aoe h0];rfl
  have eo:wordOk w = (ahK (qF w).2).2:=by rw [wordOk,aoe h0,Bool.false_or]
  have hlen:(qF w).2.length≤w.length:=by
   cases w with
   | nil=>simp [qF]
   | cons c r=>rw [adO];split<;>simp
  have hs:=(z2 (qF w).2 (by omega)).b
  have hsl:=amu (qF w).2
  have hnd:=aoj (qF w).2
  rw [ed,eo]
  refine xJ fun K' hK=>?_
  simp (maxSteps:=1000000) only [go_sem]
  refine hK _ ?_
  clear hK
  clear K'
  (try simp only [go_sem])
  refine aa2 ?_
  refine xJ fun K' hK=>?_
  simp (maxSteps:=1000000) only [go_sem,e3]
  refine hK _ ?_
  clear hK
  clear K'
  (try simp only [go_sem])
  refine acD ⟨_,rfl,fun hc=>Bool.noConfusion hc,fun hc=>?_⟩
  refine am2 ?_
  (try simp only [go_sem])
  refine xJ fun K' hK=>?_
  simp (maxSteps:=1000000) only [go_sem]
  refine hK _ ?_
  clear hK
  clear K'
  (try simp only [go_sem])
  have hcut:∃ good:Unit→Prop,good ()∧True:=⟨fun _=>True,trivial,trivial⟩
  refine UA (ι:=Unit) (fun _=>True) (fun _=>JY [(0,.ptr 0 0),(1,V.str (qF w).2),(5,V.str (sgn (qF w).1))] [(0,.box true [.hd 3 0 (l.map V.int).length,.hd 4 0 (k.map V.int).length]),(1,.dead),(2,.dead),(3,.buf true 1 (l.map V.int)),(4,.buf true 1 (k.map V.int))] 5) (fun K' hK'=>?_) (fun _ _=>?_)
  ·rcases w with _|⟨c,r⟩
   ·repeat' (first|(refine zsk ?_;intro K' hK)|(refine zrt 6 (QT) (QR) ?_;intro K' hK)|(refine zrf 15 (QS) (QQ) ?_;intro K' hK)|refine zsp ?_|(refine zsc ?_ ?_<;>intro hc<;>first|exact znh|try simp only [znz] at hc)|simp (maxSteps:=1000000) only [go_sem,Qz,Qy]|(refine hK _ ?_;clear hK K')|apply zan|((first|apply Vw|apply XU);(focus first|exact (z0 _ zsd)))|((first|apply Ql|apply Qi);(focus first|exact (z1 _ _).b|exact (z2 _ zsd).b|exact (z3 _ _ zsd).b|exact (z4 _ _ zsd).b))|exact zsq|fail)
    all_goals exact hK' _ () (QX []) trivial (zwg [])
   ·have hib:=arh c
    by_cases hc:c = 45∨c = 33∨c = 43
    ·have hsv:qF (c :: r) = (c,r):=by rw [adO,if_pos hc]
     rw [decide_eq_true hc] at hib
     have hsg:sgn c = [c]:=by rw [sgn,if_neg];rintro rfl;simp at hc
     have e4:(c :: r != []) = true:=rfl
     simp only [hsv,hsg] at hK'
     repeat' (first|(refine zsk ?_;intro K' hK)|(refine zrt 6 (QT) (QR) ?_;intro K' hK)|(refine zrf 15 (QS) (QQ) ?_;intro K' hK)|refine zsp ?_|(refine zsc ?_ ?_<;>intro hc<;>first|exact znh|try simp only [znz] at hc)|simp (maxSteps:=1000000) only [go_sem,hib,e4,List.take_length,Nat.add_sub_cancel,Qz,Qy]|(refine hK _ ?_;clear hK K')|apply zan|((first|apply Vw|apply XU);(focus first|exact (z0 _ zsd)))|((first|apply Ql|apply Qi);(focus first|exact (z1 _ _).b|exact (z2 _ zsd).b|exact (z3 _ _ zsd).b|exact (z4 _ _ zsd).b))|exact zsq|fail)
     all_goals first|exact hK' _ () (QX []) trivial (zwg [])
    ·have hsv:qF (c :: r) = (0,c :: r):=by rw [adO,if_neg hc]
     have hsg:sgn 0 = []:=rfl
     rw [decide_eq_false hc] at hib
     simp only [hsv,hsg] at hK'
     have e4:(c :: r != []) = true:=rfl
     repeat' (first|(refine zsk ?_;intro K' hK)|(refine zrt 6 (QT) (QR) ?_;intro K' hK)|(refine zrf 15 (QS) (QQ) ?_;intro K' hK)|refine zsp ?_|(refine zsc ?_ ?_<;>intro hc<;>first|exact znh|try simp only [znz] at hc)|simp (maxSteps:=1000000) only [go_sem,hib,e4,Qz,Qy]|(refine hK _ ?_;clear hK K')|apply zan|((first|apply Vw|apply XU);(focus first|exact (z0 _ zsd)))|((first|apply Ql|apply Qi);(focus first|exact (z1 _ _).b|exact (z2 _ zsd).b|exact (z3 _ _ zsd).b|exact (z4 _ _ zsd).b))|exact zsq|fail)
     all_goals first|exact hK' _ () (QX []) trivial (zwg [])
  ·have hcase:(qF w).1 = 0∨(qF w).1 = 45∨(qF w).1 = 33∨(qF w).1 = 43:=by
    cases w with
    | nil=>exact .inl rfl
    | cons c r =>
      rw [adO];split
      ·rename_i h;exact .inr h
      ·exact .inl rfl
   generalize qF w = sv at *
   obtain ⟨sg,v⟩:=sv
   simp only at hs hsl hnd hlen hcase ⊢
   generalize ahK v = S at *
   obtain ⟨m,ok⟩:=S
   simp only at hs hsl hnd ⊢
   rcases ok with _|_
   ·simp only [Bool.false_eq_true,if_false]
    repeat' (first|(refine zsk ?_;intro K' hK)|(refine zrt 6 (QT) (QR) ?_;intro K' hK)|(refine zrf 15 (QS) (QQ) ?_;intro K' hK)|refine zsp ?_|(refine zsc ?_ ?_<;>intro hc<;>first|exact znh|try simp only [znz] at hc)|simp (maxSteps:=1000000) only [go_sem,JY,Qz,Qy]|(refine hK _ ?_;clear hK K')|apply zan|((first|apply Vw|apply XU);(focus first|exact (z0 _ zsd)))|((first|apply Ql|apply Qi);(focus first|exact hs|exact (z1 _ _).b|exact (z2 _ zsd).b|exact (z3 _ _ zsd).b|exact (z4 _ _ zsd).b))|exact zsq|fail)
    all_goals first
     | (refine ajS _ _ _ _ _ rfl (by simp only [go_sem]) rfl rfl rfl (by decide) (by decide) (by decide) ⟨_,rfl⟩ ⟨_,rfl⟩ ?_ ?_ ?_ ?_<;>first|rfl|(simp;done))
   ·simp only [if_true]
    repeat' (first|(refine zsk ?_;intro K' hK)|(refine zrt 6 (QT) (QR) ?_;intro K' hK)|(refine zrf 15 (QS) (QQ) ?_;intro K' hK)|refine zsp ?_|(refine zsc ?_ ?_<;>intro hc<;>first|exact znh|try simp only [znz] at hc)|simp (maxSteps:=1000000) only [go_sem,JY,Qz,Qy]|(refine hK _ ?_;clear hK K')|apply zan|((first|apply Vw|apply XU);(focus first|exact (z0 _ zsd)))|((first|apply Ql|apply Qi);(focus first|exact hs|exact (z1 _ _).b|exact (z2 _ zsd).b|exact (z3 _ _ zsd).b|exact (z4 _ _ zsd).b))|exact zsq|fail)
    refine Yf (ι:=Nat) (fun j=>j≤l.length) (fun j=>JY [(0,.ptr 0 0),(5,V.str (sgn sg)),(6,.ptr 5 0),(8,.clo XM [.ptr 5 0]),(9,.hd 6 0 ((l.take j).filter fun x=>m.contains x).length),(10,.hd 7 0 (QL (l.take j) m).length),(48,.hd 3 0 (l.map V.int).length),(49,V.int (l.map V.int).length),(50,V.int j)] [(0,.box true [.hd 3 0 (l.map V.int).length,.hd 4 0 (k.map V.int).length]),(1,.dead),(2,.dead),(3,.buf true 1 (l.map V.int)),(4,.buf true 1 (k.map V.int)),(5,.box true [.sl 1 (m.map V.int)]),(6,.buf true 1 (((l.take j).filter fun x=>m.contains x).map V.int)),(7,.buf true 1 ((QL (l.take j) m).map V.int))] 8) (fun j=>l.length - j) 0 (by omega) (QX [(5,5005),(6,12005),(7,13005)]) (zwg [(5,5005),(6,12005),(7,13005)]) fun j hj K' hL=>?_
    rcases hd:l.drop j with _|⟨x,r⟩
    ·have hjl:=Ja hd
     have hj0:j = l.length:=by omega
     subst hj0
     have e1:decide ((l.length:Int) < (((l.map V.int).length:Nat):Int)) = false:=by simp
     have hw1:=Ke l m
     have hw2:(l.filter fun x=>m.contains x).length≤l.length:=List.length_filter_le _ _
     have hcat:QL l m++(l.filter fun x=>m.contains x) = QL l m++QL l (QL l m):=by
      congr 1
      unfold QL
      refine List.filter_congr fun x hx=>?_
      cases hm:m.contains x<;>simp_all
     rw [List.take_length]
     generalize hmv:(l.filter fun x=>m.contains x) = mv at *
     rcases hcase with rfl|rfl|rfl|rfl
     ·have hd0:doG 0 m (l,k) = (l++QL (QL m l) k,k):=rfl
      have hs0:sgn 0 = []:=rfl
      rw [hd0,hs0]
      repeat' (first|(refine zsk ?_;intro K' hK)|(refine zrt 6 (QT) (QR) ?_;intro K' hK)|(refine zrf 15 (QS) (QQ) ?_;intro K' hK)|refine zsp ?_|(refine zsc ?_ ?_<;>intro hc<;>first|exact znh|try simp only [znz] at hc)|simp (maxSteps:=1000000) only [go_sem,JY,e1,Qz,Qy]|(refine hK _ ?_;clear hK K')|apply zan|((first|apply Vw|apply XU);(focus first|exact (z0 _ zsd)))|((first|apply Ql|apply Qi);(focus first|exact (z1 _ _).b|exact (z2 _ zsd).b|exact (z3 _ _ zsd).b|exact (z4 _ _ zsd).b))|exact zsq|fail)
      refine Yf (ι:=Nat) (fun i=>i≤m.length) (fun i=>JY [(0,.ptr 0 0),(67,.sl 1 (m.map V.int)),(68,V.int (m.map V.int).length),(69,V.int i)] [(0,.box true [.hd 3 0 (l++QL (QL (m.take i) l) k).length,.hd 4 0 (k.map V.int).length]),(1,.dead),(2,.dead),(3,.buf true 1 ((l++QL (QL (m.take i) l) k).map V.int)),(4,.buf true 1 (k.map V.int))] 5) (fun i=>m.length - i) 0 (by omega) (QX []) (Ys [] zwa (by simp only [go_sem,zwl];simp only [List.take_zero,QL,List.filter_nil,List.append_nil,List.length_map];(repeat' (first|rfl|apply And.intro|omega|exact fun h=>h|exact Exists.intro _ rfl))) (by simp [QX]) (by simp) (by omega)) fun i hi K' hL=>?_
      rcases hdi:m.drop i with _|⟨c,r⟩
      ·have hil:=Ja hdi
       have e2:decide ((i:Int) < (((m.map V.int).length:Nat):Int)) = false:=by simp;omega
       have e3:m.take i = m:=List.take_of_length_le hil
       rw [e3]
       repeat' (first|(refine zsk ?_;intro K' hK)|(refine zrt 6 (QT) (QR) ?_;intro K' hK)|(refine zrf 15 (QS) (QQ) ?_;intro K' hK)|refine zsp ?_|(refine zsc ?_ ?_<;>intro hc<;>first|exact znh|try simp only [znz] at hc)|simp (maxSteps:=1000000) only [go_sem,JY,e2,Qz,Qy]|(refine hK _ ?_;clear hK K')|apply zan|((first|apply Vw|apply XU);(focus first|exact (z0 _ zsd)))|((first|apply Ql|apply Qi);(focus first|exact (z1 _ _).b|exact (z2 _ zsd).b|exact (z3 _ _ zsd).b|exact (z4 _ _ zsd).b))|exact zsq|fail)
       all_goals first
        | (refine ajS _ _ _ _ _ rfl (by simp only [go_sem]) rfl rfl rfl (by decide) (by decide) (by decide) ⟨_,rfl⟩ ⟨_,rfl⟩ ?_ ?_ ?_ ?_<;>first|rfl|(simp;done))
      ·obtain ⟨hi',hgi,hri⟩:=QK hdi
       have hwi:=QP (k:=i) (by omega)
       have e2:decide ((i:Int) < (((m.map V.int).length:Nat):Int)) = true:=by simp;omega
       have ha:=ae8 (m:=l) hgi
       have hnc:c ∉ m.take i:=by
        intro h
        have h2:m.take i++c :: r = m:=by rw [← hdi,List.take_append_drop]
        rw [← h2] at hnd
        exact (List.nodup_append.1 hnd).2.2 c h c (by simp) rfl
       have hal:(QL (QL (m.take i) l) k).length≤16:=by
        have q1:=Ke (QL (m.take i) l) k
        have q2:=Ke (m.take i) l
        rw [List.length_take] at q2;omega
       have hin:c∈l++QL (QL (m.take i) l) k↔c∈l:=by
        rw [List.mem_append]
        exact ⟨fun h=>h.elim id fun h=>absurd (Wk.1 (Wk.1 h).1).1 hnc,Or.inl⟩
       have hf1:=vI c (l++QL (QL (m.take i) l) k) 0
       have hf2:=vI c k 0
       have hc1:=(z4 (l++QL (QL (m.take i) l) k) c (by rw [List.length_append];omega)).b
       have hc2:=(z4 k c (by omega)).b
       by_cases hcl:c∈l
       ·rw [decide_eq_true (hf1.2 (hin.2 hcl))] at hc1
        rw [if_pos (by simpa using hcl),List.append_nil] at ha
        rw [← ha] at hc1 ⊢
        repeat' (first|(refine zsk ?_;intro K' hK)|(refine zrt 6 (QT) (QR) ?_;intro K' hK)|(refine zrf 15 (QS) (QQ) ?_;intro K' hK)|refine zsp ?_|(refine zsc ?_ ?_<;>intro hc<;>first|exact znh|try simp only [znz] at hc)|simp (maxSteps:=1000000) only [go_sem,JY,e2,hwi,Int.toNat_natCast,List.getElem?_map,hgi,List.take_length,Wu,Qz,Qy]|(refine hK _ ?_;clear hK K')|apply zan|((first|apply Vw|apply XU);(focus first|exact (z0 _ zsd)))|((first|apply Ql|apply Qi);(focus first|exact hc1|exact (z1 _ _).b|exact (z2 _ zsd).b|exact (z3 _ _ zsd).b|exact (z4 _ _ zsd).b))|exact zsq|fail)
        all_goals first
         | exact hL _ (i + 1) (QX []) (by omega) (by omega) (zwg [])
       ·rw [decide_eq_false (fun h=>hcl (hin.1 (hf1.1 h)))] at hc1
        rw [if_neg (by simpa using hcl)] at ha
        by_cases hck:c∈k
        ·have hb:QL (QL (m.take (i + 1)) l) k = QL (QL (m.take i) l) k:=by
          rw [ha,QL,List.filter_append];simp [hck,QL]
         rw [decide_eq_true (hf2.2 hck)] at hc2
         rw [← hb] at hc1 ⊢
         repeat' (first|(refine zsk ?_;intro K' hK)|(refine zrt 6 (QT) (QR) ?_;intro K' hK)|(refine zrf 15 (QS) (QQ) ?_;intro K' hK)|refine zsp ?_|(refine zsc ?_ ?_<;>intro hc<;>first|exact znh|try simp only [znz] at hc)|simp (maxSteps:=1000000) only [go_sem,JY,e2,hwi,Int.toNat_natCast,List.getElem?_map,hgi,List.take_length,Wu,Qz,Qy]|(refine hK _ ?_;clear hK K')|apply zan|((first|apply Vw|apply XU);(focus first|exact (z0 _ zsd)))|((first|apply Ql|apply Qi);(focus first|exact hc1|exact hc2|exact (z1 _ _).b|exact (z2 _ zsd).b|exact (z3 _ _ zsd).b|exact (z4 _ _ zsd).b))|exact zsq|fail)
         all_goals first
          | exact hL _ (i + 1) (QX []) (by omega) (by omega) (zwg [])
        ·have hb:l++QL (QL (m.take (i + 1)) l) k = (l++QL (QL (m.take i) l) k)++[c]:=by
          rw [ha,QL,List.filter_append];simp [hck,QL]
         rw [decide_eq_false (fun h=>hck (hf2.1 h))] at hc2
         have hacc:(l++QL (QL (m.take i) l) k).length≤32:=by rw [List.length_append];omega
         generalize l++QL (QL (m.take i) l) k = acc at *
         have hb2:List.take acc.length (List.map V.int acc)++[V.int c] = (acc++[c]).map V.int:=by
          rw [List.take_of_length_le (by simp),List.map_append];rfl
         have hln:acc.length + 1 = (acc++[c]).length:=by simp
         repeat' (first|(refine zsk ?_;intro K' hK)|(refine zrt 6 (QT) (QR) ?_;intro K' hK)|(refine zrf 15 (QS) (QQ) ?_;intro K' hK)|refine zsp ?_|(refine zsc ?_ ?_<;>intro hc<;>first|exact znh|try simp only [znz] at hc)|simp (maxSteps:=1000000) only [go_sem,JY,e2,hwi,Int.toNat_natCast,List.getElem?_map,hgi,List.take_length,Wu,Qz,Qy]|(refine hK _ ?_;clear hK K')|apply zan|((first|apply Vw|apply XU);(focus first|exact (z0 _ zsd)))|((first|apply Ql|apply Qi);(focus first|exact hc1|exact hc2|exact (z1 _ _).b|exact (z2 _ zsd).b|exact (z3 _ _ zsd).b|exact (z4 _ _ zsd).b))|exact zsq|fail)
         all_goals first
          | (have hb3:List.map V.int acc++[V.sc (Value.int .i64 c)] = (acc++[c]).map V.int:=by simp
             rw [hb3,hln]
             refine hL _ (i + 1) (QX [(3,27005)]) (by omega) (by omega) ?_
             rw [hb]
             exact zwg [(3,27005)])
          | (simp only [List.length_append] at *;omega)
     ·have hd0:doG 45 m (l,k) = (QL l m,k):=rfl
      have hs0:sgn 45 = [45]:=rfl
      rw [hd0,hs0]
      repeat' (first|(refine zsk ?_;intro K' hK)|(refine zrt 6 (QT) (QR) ?_;intro K' hK)|(refine zrf 15 (QS) (QQ) ?_;intro K' hK)|refine zsp ?_|(refine zsc ?_ ?_<;>intro hc<;>first|exact znh|try simp only [znz] at hc)|simp (maxSteps:=1000000) only [go_sem,JY,e1,Qz,Qy]|(refine hK _ ?_;clear hK K')|apply zan|((first|apply Vw|apply XU);(focus first|exact (z0 _ zsd)))|((first|apply Ql|apply Qi);(focus first|exact (z1 _ _).b|exact (z2 _ zsd).b|exact (z3 _ _ zsd).b|exact (z4 _ _ zsd).b))|exact zsq|fail)
      all_goals first
       | (refine ajS _ _ _ _ _ rfl (by simp only [go_sem]) rfl rfl rfl (by decide) (by decide) (by decide) ⟨_,rfl⟩ ⟨_,rfl⟩ ?_ ?_ ?_ ?_<;>first|rfl|(simp;done))
     ·have hd0:doG 33 m (l,k) = (QL l m,k++m):=rfl
      have hs0:sgn 33 = [33]:=rfl
      rw [hd0,hs0]
      repeat' (first|(refine zsk ?_;intro K' hK)|(refine zrt 6 (QT) (QR) ?_;intro K' hK)|(refine zrf 15 (QS) (QQ) ?_;intro K' hK)|refine zsp ?_|(refine zsc ?_ ?_<;>intro hc<;>first|exact znh|try simp only [znz] at hc)|simp (maxSteps:=1000000) only [go_sem,JY,e1,List.take_length,Qz,Qy]|(refine hK _ ?_;clear hK K')|apply zan|((first|apply Vw|apply XU);(focus first|exact (z0 _ zsd)))|((first|apply Ql|apply Qi);(focus first|exact (z1 _ _).b|exact (z2 _ zsd).b|exact (z3 _ _ zsd).b|exact (z4 _ _ zsd).b))|exact zsq|fail)
      all_goals first
       | (refine ajS _ _ _ _ _ rfl (by simp only [go_sem]) rfl rfl rfl (by decide) (by decide) (by decide) ⟨_,rfl⟩ ⟨_,rfl⟩ ?_ ?_ ?_ ?_<;>first|rfl|(simp;done))
     ·have hd0:doG 43 m (l,k) = (QL l m++QL l (QL l m),k):=rfl
      have hs0:sgn 43 = [43]:=rfl
      rw [hd0,hs0,← hcat]
      repeat' (first|(refine zsk ?_;intro K' hK)|(refine zrt 6 (QT) (QR) ?_;intro K' hK)|(refine zrf 15 (QS) (QQ) ?_;intro K' hK)|refine zsp ?_|(refine zsc ?_ ?_<;>intro hc<;>first|exact znh|try simp only [znz] at hc)|simp (maxSteps:=1000000) only [go_sem,JY,e1,Wu,Qz,Qy]|(refine hK _ ?_;clear hK K')|apply zan|((first|apply Vw|apply XU);(focus first|exact (z0 _ zsd)))|((first|apply Ql|apply Qi);(focus first|exact (z1 _ _).b|exact (z2 _ zsd).b|exact (z3 _ _ zsd).b|exact (z4 _ _ zsd).b))|exact zsq|fail)
      all_goals first
       | (refine ajS _ _ _ _ _ rfl (by simp only [go_sem]) rfl rfl rfl (by decide) (by decide) (by decide) ⟨_,rfl⟩ ⟨_,rfl⟩ ?_ ?_ ?_ ?_<;>first|rfl|(simp;done))
    ·obtain ⟨hj',hget,hr'⟩:=QK hd
     have hwj:=QP (k:=j) (by omega)
     have e1:decide ((j:Int) < (((l.map V.int).length:Nat):Int)) = true:=by simp;omega
     have h1:=ae8 (m:=m) hget
     have h2:=aho (p:=fun x=>m.contains x) hget
     have hl1:(QL (l.take j) m).length≤16:=by have:=Ke (l.take j) m;rw [List.length_take] at this;omega
     have hl2:((l.take j).filter fun x=>m.contains x).length≤16:=by have:=List.length_filter_le (fun x=>m.contains x) (l.take j);rw [List.length_take] at this;omega
     have hcl:=(z3 x m (by omega)).b
     generalize QL (l.take j) m = rs at *
     generalize (l.take j).filter (fun x=>m.contains x) = mv at *
     rcases hx:m.contains x with _|_
     ·rw [hx] at h1 h2 hcl
      simp only [Bool.false_eq_true,if_false,List.append_nil] at h1 h2
      have hb:List.take rs.length (List.map V.int rs)++[V.int x] = (rs++[x]).map V.int:=by
       rw [List.take_of_length_le (by simp),List.map_append];rfl
      have hln:rs.length + 1 = (rs++[x]).length:=by simp
      repeat' (first|(refine zsk ?_;intro K' hK)|(refine zrt 6 (QT) (QR) ?_;intro K' hK)|(refine zrf 15 (QS) (QQ) ?_;intro K' hK)|refine zsp ?_|(refine zsc ?_ ?_<;>intro hc<;>first|exact znh|try simp only [znz] at hc)|simp (maxSteps:=1000000) only [go_sem,JY,e1,hwj,Int.toNat_natCast,List.getElem?_map,hget,Qz,Qy]|(refine hK _ ?_;clear hK K')|apply zan|((first|apply Vw|apply XU);(focus first|exact (z0 _ zsd)))|((first|apply Ql|apply Qi);(focus first|exact hcl|exact (z1 _ _).b|exact (z2 _ zsd).b|exact (z3 _ _ zsd).b|exact (z4 _ _ zsd).b))|exact zsq|fail)
      rw [hb,hln]
      refine hL _ (j + 1) (QX [(7,10008)]) (by omega) (by omega) ?_
      rw [h1,h2]
      exact zwg [(7,10008)]
     ·rw [hx] at h1 h2 hcl
      simp only [if_true,List.append_nil] at h1 h2
      have hb:List.take mv.length (List.map V.int mv)++[V.int x] = (mv++[x]).map V.int:=by
       rw [List.take_of_length_le (by simp),List.map_append];rfl
      have hln:mv.length + 1 = (mv++[x]).length:=by simp
      repeat' (first|(refine zsk ?_;intro K' hK)|(refine zrt 6 (QT) (QR) ?_;intro K' hK)|(refine zrf 15 (QS) (QQ) ?_;intro K' hK)|refine zsp ?_|(refine zsc ?_ ?_<;>intro hc<;>first|exact znh|try simp only [znz] at hc)|simp (maxSteps:=1000000) only [go_sem,JY,e1,hwj,Int.toNat_natCast,List.getElem?_map,hget,Qz,Qy]|(refine hK _ ?_;clear hK K')|apply zan|((first|apply Vw|apply XU);(focus first|exact (z0 _ zsd)))|((first|apply Ql|apply Qi);(focus first|exact hcl|exact (z1 _ _).b|exact (z2 _ zsd).b|exact (z3 _ _ zsd).b|exact (z4 _ _ zsd).b))|exact zsq|fail)
      rw [hb,hln]
      refine hL _ (j + 1) (QX [(6,10008)]) (by omega) (by omega) ?_
      rw [h1,h2]
      exact zwg [(6,10008)]
end Av
end
section
set_option linter.unusedSimpArgs false
set_option linter.unusedVariables false
set_option maxRecDepth 10000
set_option maxHeartbeats 4000000
namespace Av
open Go
attribute [local irreducible] AWp VV UQ Ko awS awC jF awQ yc Jb XH jD awR XT awB okR Wy ris
def y8 (j0 XO Vo:Nat):AC:=Qe [0] (.reg [xo 2 (.mknil 1),mc 3 (V.int 0),mc 4 (V.int 0)]) (Qe [0] (Qe [0,15] (.reg [mv 8 0,xo 9 (.lenS (.t 8)),bc 10 .gtr 9 (V.int 8192),mv 11 10,mg 12 0 11 false,xg 13 (.call j0 [(.t 12),(.c (V.str [58]))]) 11 false,xg 14 (.bin .geq (.t 13) (.c (V.int 200))) 11 false,xo 15 (.pick (.t 11) (.c (V.bool true)) (.t 14))]) (.cond (.t 15) (Qe [2,3,4] (.reg [xo 2 (.mknil 1),mc 3 (V.int 0),mc 4 (V.int 3)]) (.ret)) (.skip))) (Qe [0] (Qe [0,17] (.reg [mv 16 0,bc 17 .eql 16 (V.str [])]) (.cond (.t 17) (Qe [2,3,4] (.reg [xo 2 (.mknil 1),mc 3 (V.int 0),mc 4 (V.int 0)]) (.ret)) (.skip))) (Qe [0,5] (.reg [xo 18 (.build [(.slice none 0 0),(.slice none 0 0)] []),xo 19 (.box true 2 (.t 18)),mv 5 19]) (Qe [5] (Qe [5,21,22,23] (.reg [mv 20 0,xo 21 (.call XO [(.t 20),(.c (V.str [58]))]),ln 22 21,mc 23 (V.int 0)]) (.block 0 (Xw [5,21,22,23] (Qe [5,21,22,23,24] (.reg [bn 24 .lss 23 22]) (Qe [5,21,22,23] (.cond (.t 24) (.skip) (.exit 0)) (Qe [5,21,22,23] (.block 1 (Qe [5,6,7,21,22,23] (.reg [mv 25 23,ia 26 1 21 23,ld 27 1 26,mv 6 25,mv 7 27]) (Qe [5,6,21,22,23,31] (.reg [mv 28 5,mv 29 7,cl 30 Vo [28,29],xo 31 (.un .not (.t 30))]) (.cond (.t 31) (Qe [2,3,4] (.reg [mv 32 6,bc 33 .add 32 (V.int 1),xo 2 (.mknil 1),mv 3 33,mc 4 (V.int 17)]) (.ret)) (.skip))))) (.reg [bc 34 .add 23 (V.int 1),mv 23 34]))))))) (Qe [2,3,4] (.reg [mv 35 5,nk 36 35,fa 37 0 36,ld 38 1 37,mv 2 38,mc 3 (V.int 0),mc 4 (V.int 0)]) (.ret)))))) def r_suitespec_Parse:List YF:=[.tmp 2,.tmp 3,.tmp 4]
def yn (Γ:Env) (f:Nat):Prop:=∀ (s:List UInt8) (hs:s.length < 2 ^ 30),EvC Γ f [V.str s] (aei (abL s))
attribute [local go_sem] JY in
theorem afB {Γ:Env} {f j0 XO Vo:Nat} (h:Has Γ.P f 39 (y8 j0 XO Vo) r_suitespec_Parse) (z0:ac1 Γ j0) (z1:wI Γ XO) (z2:UT Γ Vo):yn Γ f:=by
 intro s hs
 refine XR h zsi (akc _) fun C hC hm=>?_
 subst hC
 unfold y8
 have hct:=(z0 s 58 (by omega)).b
 have hsp:=(z1 s 58 (by omega)).b
 have hpos:1≤(Xp 58 s).length:=by
  have:Xp 58 s≠[]:=akP _ _ _
  rcases h:Xp 58 s with _|⟨a,b⟩
  ·exact absurd h this
  ·simp
 by_cases h1:s.length > 8192
 ·have e1:decide ((s.length:Int) > 8192) = true:=by simp;omega
  have e2:abL s = ([],0,3):=by rw [abL,if_pos h1]
  rw [e2,aei]
  (have zx:=e1);refine zgo ?_;repeat' first|exact zt|apply zan|intro hc
  all_goals (refine QA _ rfl ?_;simp only [go_sem];first|done|rfl|exact ⟨_,_,rfl⟩|trace_state)
 ·have e1:decide ((s.length:Int) > 8192) = false:=by simp;omega
  by_cases h2:s = []
  ·subst h2
   have e2:abL [] = ([],0,0):=rfl
   have e4:decide (((((Xp 58 []).length - 1:Nat)):Int)≥200) = false:=rfl
   rw [e2,aei]
   (have zx:=And.intro e1 e4);refine zgo ?_;repeat' first|exact zt|apply zan|intro hc
   all_goals (refine QA _ rfl ?_;simp only [go_sem];first|done|rfl|exact ⟨_,_,rfl⟩|trace_state)
  ·have e3:(s == []) = false:=by simpa using h2
   have hmem:∀ w∈Xp 58 s,w.length < 2 ^ 30:=fun w hw=>by have:=ana hw;omega
   have hlen:=ajv 58 s
   by_cases h3:(Xp 58 s).length > 200
   ·have e2:abL s = ([],0,3):=by rw [abL,if_neg h1,if_neg h2,if_pos h3]
    have e4:decide (((((Xp 58 s).length - 1:Nat)):Int)≥200) = true:=by simp;omega
    rw [e2,aei]
    (have zx:=And.intro e1 (And.intro e3 e4));refine zgo ?_;repeat' first|exact zt|apply zan|intro hc
    all_goals (refine QA _ rfl ?_;simp only [go_sem];first|done|rfl|exact ⟨_,_,rfl⟩|trace_state)
   ·have e2:abL s = goP (Xp 58 s) 0 ([],[]):=by rw [abL,if_neg h1,if_neg h2,if_neg h3]
    have e4:decide (((((Xp 58 s).length - 1:Nat)):Int)≥200) = false:=by simp;omega
    rw [e2,aei]
    generalize Xp 58 s = ws at *
    (have zx:=And.intro e1 (And.intro e3 e4));refine zgo ?_;repeat' first|exact zt|apply zan|intro hc
    refine alB 14000 0 1 rfl rfl ?_
    refine alB 14000 1 1 rfl rfl ?_
    refine Yf (ι:=Nat×apz) (fun q=>q.1≤ws.length∧amr q.2∧q.2.2.length≤16 * q.1∧goP (ws.drop q.1) q.1 q.2 = goP ws 0 ([],[]))
     (fun q=>JY [(5,.ptr 0 0),(21,.sl 1 (ws.map V.str)),(22,V.int (ws.map V.str).length),(23,V.int q.1)] [(0,.box true [.hd 1 0 (q.2.1.map V.int).length,.hd 2 0 (q.2.2.map V.int).length]),(1,.buf true 1 (q.2.1.map V.int)),(2,.buf true 1 (q.2.2.map V.int))] 3)
     (fun q=>ws.length - q.1) (0,[],[]) ⟨by simp,aq1,by simp,by simp⟩ (QX [(0,14000),(1,20000),(2,20001)]) (Ys [(0,14000),(1,20000),(2,20001)] zwa (by simp only [List.set_cons_zero,List.set_cons_succ,Nat.reduceAdd];simp only [go_sem,zwl];(repeat' (first|rfl|apply And.intro|omega|exact fun h=>h|exact Exists.intro _ rfl))) (by simp [QX]) (by simp;omega) (by omega)) fun q hq K' hL=>?_
    obtain ⟨k,l,m⟩:=q
    obtain ⟨q1,q2,q3,hinv⟩:=hq
    simp only at q1 q2 q3 hinv
    simp only
    rcases hd:ws.drop k with _|⟨w,r⟩
    ·have hk:=Ja hd
     rw [hd,goP] at hinv
     rw [← hinv]
     have e5:decide ((k:Int) < (((ws.map V.str).length:Nat):Int)) = false:=by simp;omega
     simp only [aei]
     (have zx:=e5);refine zgo ?_;repeat' first|exact zt|apply zan|intro hc
     all_goals (refine QA _ rfl ?_;simp only [go_sem];rw [List.take_of_length_le (by simp)])
    ·obtain ⟨hk',hget,hr⟩:=QK hd
     have hwm:=hmem w (List.mem_of_getElem? hget)
     have hw:=QP (k:=k) (by omega)
     have e5:decide ((k:Int) < (((ws.map V.str).length:Nat):Int)) = true:=by simp;omega
     rw [hd,goP] at hinv
     have hdo:=z2 w l m hwm q2 (by omega)
     have hdl:=arn w (l,m)
     have hdo2:=asb w (l,m) q2
     rcases ho:wordOk w with _|_
     ·rw [ho] at hinv hdo
      simp only [Bool.false_eq_true,if_false] at hinv hdo
      rw [← hinv]
      simp only [aei]
      (have zx:=And.intro e5 (And.intro hw hget));refine zgo ?_;repeat' first|exact zt|apply zan|intro hc
      all_goals (refine QA _ rfl ?_;simp only [go_sem];first|done|rfl|exact ⟨_,_,rfl⟩|trace_state)
     ·rw [ho] at hinv hdo
      simp only [if_true] at hinv hdo
      generalize doR w (l,m) = p at *
      obtain ⟨l2,m2⟩:=p
      simp only at hdo hdl hinv
      (have zx:=And.intro e5 (And.intro hw hget));refine zgo ?_;repeat' first|exact zt|apply zan|intro hc
      refine hL _ (k + 1,l2,m2) (QX [(1,8003),(2,8004)]) ⟨by simp only;omega,hdo2,by simp only;omega,by simp only;rw [hr];exact hinv⟩ (by simp only;omega) (zwg [(1,8003),(2,8004)])
end Av
end
section
set_option linter.unusedSimpArgs false
set_option linter.unusedVariables false
set_option maxRecDepth 10000
set_option maxHeartbeats 4000000
namespace Av
open Go
attribute [local irreducible] AWp VV UQ Ko awS awC jF awQ yc Jb XH jD awR XT awB okR Wy ris
def asc (l:List Int) (k:Nat):List V:=[.sl 1 (l.map V.int),V.int k]
theorem YD (l:List Int) (k:Nat):closedL (asc l k):=by simp only [asc,V.closed,closedL,and_self]
def anx (l:List Int) (k:Nat) (n:Int):Int×Nat:=if k < l.length then (asD (l.getD k 0) n,k + 1) else (0,k)
theorem anA {a n:Int} (h1:1≤n) (h2:n < 2 ^ 62):0≤asD a n∧asD a n < n:=by
 unfold asD
 rw [if_neg (by omega)]
 have ha:=Int.tmod_lt_of_pos a (show 0 < n by omega)
 have hb:-n < a.tmod n:=by
  have:=Int.tmod_lt_of_pos (-a) (show 0 < n by omega)
  rw [Int.neg_tmod] at this;omega
 rw [UP (by omega) (by omega)]
 exact ⟨Int.tmod_nonneg _ (by omega),Int.tmod_lt_of_pos _ (by omega)⟩
theorem al0 {l:List Int} {k:Nat} {n:Int} (h1:1≤n) (h2:n < 2 ^ 62):0≤(anx l k n).1∧(anx l k n).1 < n:=by
 unfold anx;split
 ·exact anA h1 h2
 ·show (0:Int)≤0∧(0:Int) < n;omega
end Av
end
section
set_option linter.unusedSimpArgs false
set_option linter.unusedVariables false
set_option maxRecDepth 10000
set_option maxHeartbeats 4000000
namespace Av
open Go
attribute [local irreducible] AWp VV UQ Ko awS awC jF awQ yc Jb XH jD awR XT awB okR Wy ris
def aqG:List (List UInt8):=[[101,99,100,104,101],[118,51],[104,105,103,104],[114,115,97],[97,101,97,100]]
end Av
end
section
set_option linter.unusedSimpArgs false
set_option linter.unusedVariables false
set_option maxRecDepth 10000
set_option maxHeartbeats 4000000
namespace Av
open Go
attribute [local irreducible] AWp VV UQ Ko awS awC jF awQ yc Jb XH jD awR XT awB okR Wy ris
theorem aqZ (s:List UInt8):(ahK s).2 = (Xp 43 s).all abT:=by
 unfold ahK;split
 ·rename_i h;rw [h]
 ·rename_i h;simpa using h
structure ag7 (s:List UInt8):Prop where
 colon:(58:UInt8) ∉ s
 known:(Xp 43 s).all abT = true
 head:∃ c r,s = c :: r∧c≠45∧c≠33∧c≠43∧c≠64
def al3 (s:List UInt8):Bool:=!s.contains 58 && (Xp 43 s).all abT && (match s with|c :: _=>c != 45 && c != 33 && c != 43 && c != 64|[]=>false)
theorem aoS {s:List UInt8} (h:al3 s = true):ag7 s:=by
 simp only [al3,Bool.and_eq_true,Bool.not_eq_true'] at h
 refine ⟨by simpa using h.1.1,h.1.2,?_⟩
 have h3:=h.2
 cases s with
 | nil=>simp at h3
 | cons c r=>simp at h3;exact ⟨c,r,rfl,h3.1.1.1,h3.1.1.2,h3.1.2,h3.2⟩
theorem aoQ:∀ x∈aqG,al3 x = true:=by decide
theorem ag7.join {s t:List UInt8} (hs:ag7 s) (ht:t∈aqG):ag7 (s++[43]++t):=by
 have h2:=aoS (aoQ t ht)
 refine ⟨?_,?_,?_⟩
 ·simp only [List.mem_append,List.mem_singleton,not_or];exact ⟨⟨hs.colon,by decide⟩,h2.colon⟩
 ·rw [af7,List.all_append,hs.known,h2.known];rfl
 ·obtain ⟨c,r,rfl,h⟩:=hs.head
  exact ⟨c,r++[43]++t,by simp,h⟩
theorem ag7.sign {s:List UInt8} (h:ag7 s):qF s = (0,s):=by
 obtain ⟨c,r,rfl,h1,h2,h3,_⟩:=h.head
 rw [qF,if_neg (by simp [h1,h2,h3])]
theorem ag7.okW {s:List UInt8} (h:ag7 s):wordOk s = true:=by rw [Av.wordOk,h.sign,aqZ,h.known,Bool.or_true]
structure am9 (s:List UInt8) (n:Nat):Prop where
 few:s≠[]→(Xp 58 s).length≤n
 ok:s≠[]→∀ w∈Xp 58 s,wordOk w = true
theorem am9.app {s t:List UInt8} {n m:Nat} (hs:am9 s n) (ht:am9 t m) (h1:s≠[]) (h2:t≠[]):am9 (s++[58]++t) (n + m):=by
 refine ⟨fun _=>?_,fun _ x hx=>?_⟩
 ·have:=hs.few h1;have:=ht.few h2;rw [af7];simp;omega
 ·rw [af7] at hx
  rcases List.mem_append.1 hx with hx|hx
  ·exact hs.ok h1 x hx
  ·exact ht.ok h2 x hx
def ai1:List Int→List UInt8
 | []=>[]
 | x :: r=>[58]++wt x++ai1 r
def abU:List Int→List UInt8
 | []=>[]
 | x :: r=>wt x++ai1 r
theorem ah8:∀ (r p:List Int) (s:List UInt8),(p++r).Nodup→p≠[]→vr p r s = some (s++ai1 r)
 | [],p,s,_,_=>by simp [vr,ai1]
 | x :: r,p,s,h,hp=>by
   have hx:p.contains x = false:=by
    have:=(List.nodup_append.1 h).2.2
    simp only [List.contains_eq_mem,decide_eq_false_iff_not]
    intro hm;exact this x hm x (by simp) rfl
   rw [vr,hx,if_neg (by simp),if_neg hp,ah8 r _ _ (by simpa using h) (by simp),ai1];simp
theorem ah7 {l:List Int} (hn:l.Nodup) (hr:∀ x∈l,1≤x∧x≤16):jQ l = .tup [V.str (abU l),V.int 0]:=by
 have hb:¬ l.any aec = true:=by
  simp only [List.any_eq_true,not_exists,not_and]
  intro x hx
  have:=hr x hx
  simp [aec];omega
 rw [jQ,if_neg hb]
 cases l with
 | nil=>rfl
 | cons x r =>
   have:vr [] (x :: r) [] = some (abU (x :: r)):=by
    rw [vr,if_neg (by simp),if_pos rfl,ah8 r _ _ (by simpa using hn) (by simp),abU];simp
   rw [this]
theorem ald:∀ r:List Int,(ai1 r).length≤41 * r.length
 | []=>by simp [ai1]
 | x :: r=>by have:=afh x;have:=ald r;simp [ai1];omega
end Av
end
section
namespace Av
open Go
end Av
end
section
set_option linter.unusedSimpArgs false
set_option linter.unusedVariables false
set_option maxRecDepth 10000
set_option maxHeartbeats 4000000
namespace Av
open Go
attribute [local irreducible] AWp VV UQ Ko awS awC jF awQ yc Jb XH jD awR XT awB okR Wy ris
theorem adh {l:List Int} {j:Nat} {x:Int} (hn:l.Nodup) (hg:l[j]? = some x):x ∉ l.take j:=by
 intro h
 obtain ⟨hj,he⟩:=List.getElem?_eq_some_iff.1 hg
 have h2:l.take j++x :: l.drop (j + 1) = l:=by rw [← he,← List.drop_eq_getElem_cons hj,List.take_append_drop]
 rw [← h2] at hn
 exact (List.nodup_append.1 hn).2.2 x h x (by simp) rfl
end Av
end
section
set_option linter.unusedSimpArgs false
set_option linter.unusedVariables false
set_option maxRecDepth 10000
set_option maxHeartbeats 4000000
namespace Av
open Go
attribute [local irreducible] AWp VV UQ Ko awS awC jF awQ yc Jb XH jD awR XT awB okR Wy ris
theorem adi (c:UInt8):∀ (r:List (List UInt8)) (x:List UInt8),[c].intercalate (x :: r) = x++(r.map fun y=>c :: y).flatten
 | [],x=>by simp [List.intercalate]
 | y :: r,x=>by
   have:=adi c r y
   simp only [List.intercalate,List.intersperse_cons_cons,List.flatten_cons] at this ⊢
   rw [this];simp
theorem ajM:∀ r:List Int,ai1 r = ((r.map wt).map fun y=>(58:UInt8) :: y).flatten
 | []=>rfl
 | x :: r=>by rw [ai1,ajM r];simp
theorem anC (l:List Int):([58]:List UInt8).intercalate (l.map wt) = abU l:=by
 cases l with
 | nil=>rfl
 | cons x r=>rw [List.map_cons,adi,abU,ajM]
theorem ale (l:List Int):(abU l).length≤41 * l.length:=by
 cases l with
 | nil=>simp [abU]
 | cons x r=>have:=afh x;have:=ald r;simp [abU];omega
def ar8 (c:Int):Bool:=decide (jZ (XI c).name 0 X8 > 0) == decide ((XI c).name = [99,104,97,99,104,97])
theorem al9:∀ x∈([1,2,3,4,5,6,7,8,9,10,11,12,13,14,15,16]:List Int),ar8 x = true:=by decide +kernel
theorem aoR {x:Int} (h:1≤x∧x≤16):wt x = (XI x).name++if jZ (XI x).name 0 X8 > 0 then [43,118,52] else []:=by
 have:=al9 x (by simp;omega)
 simp only [ar8,beq_iff_eq,decide_eq_decide] at this
 unfold wt
 by_cases hc:(XI x).name = [99,104,97,99,104,97]
 ·rw [if_pos hc,if_pos (this.2 hc)]
 ·rw [if_neg hc,if_neg (fun h=>hc (this.1 h))]
theorem ag1:∀ (r p:List Int) (s:List UInt8),p.Nodup→¬ (p++r).Nodup→vr p r s = none
 | [],p,s,h1,h2=>absurd (by simpa using h1) h2
 | x :: r,p,s,h1,h2=>by
   rw [vr]
   split
   ·rfl
   ·rename_i h
    have hx:x ∉ p:=by simpa using h
    refine ag1 r _ _ ?_ (by simpa using h2)
    exact List.nodup_append.2 ⟨h1,by simp,fun a ha b hb e=>by simp at hb;subst hb;subst e;exact hx ha⟩
def aah (Γ:Env) (f:Nat):Prop:=∀ (xs:List (List UInt8)) (sep:List UInt8) (hn:xs.length < 2 ^ 40) (hl:(sep.intercalate xs).length < 2 ^ 40),EvN Γ f [.sl 1 (xs.map V.str),V.str sep] (V.str (sep.intercalate xs))
def y7 (Yd Wf Qh Qm:Nat):AC:=Qe [0] (.reg [mc 2 (V.str []),mc 3 (V.int 0)]) (Qe [0,4] (.reg [xo 4 (.mknil 1)]) (Qe [0,4] (Qe [0,4,11,12,13] (.reg [mv 11 0,ln 12 11,mc 13 (V.int 0)]) (.block 0 (Xw [0,4,11,12,13] (Qe [0,4,11,12,13,14] (.reg [bn 14 .lss 13 12]) (Qe [0,4,11,12,13] (.cond (.t 14) (.skip) (.exit 0)) (Qe [0,4,11,12,13] (.block 1 (Qe [0,4,6,11,12,13] (.reg [ia 15 1 11 13,ld 16 1 15,mv 6 16]) (Qe [0,4,7,8,11,12,13] (.reg [mv 18 6,cl 19 Yd [18],mv 17 19,ex 20 17 0,ex 21 17 1,xo 7 (.alloc [.val (.int .i64 0),.val (.string ⟨#[]⟩),.val (.int .i64 0),.val (.int .i64 0),.val (.int .i64 0),.val (.int .i64 0),.val (.int .i64 0),.val (.int .i64 0),.val (.int .i64 0),.val (.int .i64 0),.val (.int .i64 0),.val (.int .i64 0)]),xs 12 7 20,mv 8 21]) (Qe [0,4,7,11,12,13] (Qe [0,4,7,8,11,12,13,23] (.reg [mv 22 8,bc 23 .neq 22 (V.int 0)]) (.cond (.t 23) (Qe [2,3] (.reg [mv 24 8,mc 2 (V.str []),mv 3 24]) (.ret)) (.skip))) (Qe [0,4,7,11,12,13] (Qe [0,4,7,11,12,13,28] (.reg [fa 25 1 7,ld 26 1 25,cl 27 Wf [26],bc 28 .gtr 27 (V.int 0)]) (.cond (.t 28) (.reg [fa 29 1 7,ld 30 1 29,bc 31 .add 30 (V.str [43,118,52]),fa 32 1 7,xs 1 32 31]) (.skip))) (.reg [mv 33 4,fa 34 1 7,ld 35 1 34,xo 36 (.bslice 1 1 false [(.string ⟨#[]⟩)] [(0,(.t 35))]),xo 37 (.append 1 16 [(.string ⟨#[]⟩)] (.t 33) (.t 36)),mv 4 37])))))) (.reg [bc 38 .add 13 (V.int 1),mv 13 38]))))))) (Qe [4] (Qe [0,4,39,40,41] (.reg [mv 39 0,ln 40 39,mc 41 (V.int 0)]) (.block 2 (Xw [0,4,39,40,41] (Qe [0,4,39,40,41,42] (.reg [bn 42 .lss 41 40]) (Qe [0,4,39,40,41] (.cond (.t 42) (.skip) (.exit 2)) (Qe [0,4,39,40,41] (.block 3 (Qe [0,4,9,10,39,40,41] (.reg [mv 43 41,ia 44 1 39 41,ld 45 1 44,mv 9 43,mv 10 45]) (Qe [0,4,39,40,41,50] (.reg [mv 46 0,mv 47 9,xo 48 (.slsl 1 (.t 46) none (some (.t 47))),mv 49 10,cl 50 Qh [48,49]]) (.cond (.t 50) (Qe [2,3] (.reg [mc 2 (V.str []),mc 3 (V.int 5)]) (.ret)) (.skip))))) (.reg [bc 51 .add 41 (V.int 1),mv 41 51]))))))) (Qe [2,3] (.reg [mv 52 4,xo 53 (.call Qm [(.t 52),(.c (V.str [58]))]),mv 2 53,mc 3 (V.int 0)]) (.ret))))) def r_suitespec_Print:List YF:=[.tmp 2,.tmp 3]
def ym (Γ:Env) (f:Nat):Prop:=∀ (l:List Int) (hl:l.length < 2 ^ 30),EvN Γ f [.sl 1 (l.map V.int)] (jQ l)
theorem afA {Γ:Env} {f Yd Wf Qh Qm:Nat} (h:Has Γ.P f 54 (y7 Yd Wf Qh Qm) r_suitespec_Print) (z0:UL Γ Yd) (z1:yC Γ Wf) (z2:JJ Γ Qh) (z3:aah Γ Qm):ym Γ f:=by
 intro l hl
 refine Qj h zsi (by first|exact w4 _|exact acg _) (by first|exact w4 _|exact acg _) fun C hC hm=>?_
 subst hC
 unfold y7
 repeat' (first|(refine zsk ?_;intro K' hK)|refine zsp ?_|(refine zsc ?_ ?_<;>intro hc<;>first|exact znh|try simp only [znz] at hc)|simp (maxSteps:=1000000) only [go_sem]|(refine hK _ ?_;clear hK K')|apply zan|(apply Ql;(focus first|exact (z0 _).b|exact (z1 _).b|exact (z2 _ _ zsd).b|exact (z3 _ _ zsd zsd).b))|exact zsq|fail)
 refine Yf (ι:=Nat) (fun k=>k≤l.length∧(∀ x∈l.take k,aec x = false)) (fun k=>JY [(0,.sl 1 (l.map V.int)),(4,.hd 0 0 ((l.take k).map wt).length),(11,.sl 1 (l.map V.int)),(12,V.int (l.map V.int).length),(13,V.int k)] [(0,.buf true 1 (((l.take k).map wt).map V.str))] 1) (fun k=>l.length - k) 0 ⟨by omega,by simp⟩ (QX [(0,2000)]) (zwg [(0,2000)]) fun k hk K' hL=>?_
 obtain ⟨hk,hgood⟩:=hk
 rcases hd:l.drop k with _|⟨x,r⟩
 ·have hkl:=Ja hd
  have e1:decide ((k:Int) < (((l.map V.int).length:Nat):Int)) = false:=by simp;omega
  have e3:l.take k = l:=List.take_of_length_le hkl
  rw [e3] at hgood ⊢
  have hng:¬ l.any aec = true:=by simpa using hgood
  have hr:∀ x∈l,1≤x∧x≤16:=fun x hx=>by have:=hgood x hx;simp [aec] at this;omega
  have hpv:vr [] l [] = none→jQ l = .tup [V.str [],V.int 5]:=fun h=>by rw [jQ,if_neg hng,h]
  repeat' (first|(refine zsk ?_;intro K' hK)|refine zsp ?_|(refine zsc ?_ ?_<;>intro hc<;>first|exact znh|try simp only [znz] at hc)|simp (maxSteps:=1000000) only [go_sem,JY,e1]|(refine hK _ ?_;clear hK K')|apply zan|(apply Ql;(focus first|exact (z0 _).b|exact (z1 _).b|exact (z2 _ _ zsd).b|exact (z3 _ _ zsd zsd).b))|exact zsq|fail)
  refine JM (ι:=Nat) (fun j=>j≤l.length∧(l.take j).Nodup) (fun j=>[(41,V.int j)]) (fun j=>l.length - j) 0 (by omega) ⟨by omega,by simp⟩ (by repeat' first|exact Yb|refine YR (by omega) (by simp only [Ob.lt,ltL,V.lt,and_self,and_true];try omega) ?_) (fun i hi=>by simp only [ovT,Q9,Nat.reduceEqDiff,reduceIte];(repeat' first|exact YQ|refine Ya ?_ ?_|simp only [V.lt,ltL,and_self,and_true]|omega)) (by simp only [Nat.reduceAdd,ovT,Q9,Nat.reduceEqDiff,reduceIte,Qt,Q0,Uh,u32,u33,u34,u35,u36,u37,u38,u39,and_self,and_true,true_and];first|done|rfl) fun j hj K'' hL2=>?_
  obtain ⟨hj,hnd⟩:=hj
  simp only [ovT,Q9,Nat.reduceEqDiff,reduceIte]
  rcases hdj:l.drop j with _|⟨y,r2⟩
  ·have hjl:=Ja hdj
   have e2:decide ((j:Int) < (((l.map V.int).length:Nat):Int)) = false:=by simp;omega
   have e4:l.take j = l:=List.take_of_length_le hjl
   rw [e4] at hnd
   have hjn:=anC l
   have hjl2:=ale l
   have hjoin:=(z3 (l.map wt) [58] (by simp;omega) (by rw [hjn];omega)).b
   rw [hjn] at hjoin
   rw [ah7 hnd hr]
   have e5:(l.map wt).length = l.length:=by simp
   repeat' (first|(refine zsk ?_;intro K' hK)|refine zsp ?_|(refine zsc ?_ ?_<;>intro hc<;>first|exact znh|try simp only [znz] at hc)|simp (maxSteps:=1000000) only [go_sem,e2,Wu]|(refine hK _ ?_;clear hK K')|apply zan|(apply Ql;(focus first|exact hjoin|exact (z0 _).b|exact (z1 _).b|exact (z2 _ _ zsd).b|exact (z3 _ _ zsd zsd).b))|exact zsq|fail)
   all_goals first|exact zr
  ·obtain ⟨hj',hgj,hrj⟩:=QK hdj
   have hwj:=QP (k:=j) (by omega)
   have e2:decide ((j:Int) < (((l.map V.int).length:Nat):Int)) = true:=by simp;omega
   have hA:List.take (j - 0) (l.map V.int) = (l.take j).map V.int:=by rw [Nat.sub_zero,List.map_take]
   have hf:=vI y (l.take j) 0
   have hc1:=(z2 (l.take j) y (by rw [List.length_take];omega)).b
   by_cases hin:y∈l.take j
   ·rw [decide_eq_true (hf.2 hin)] at hc1
    have hnn:¬ l.Nodup:=by
     intro h
     have:=adh h hgj
     exact this hin
    rw [hpv (ag1 l [] [] List.nodup_nil (by simpa using hnn))]
    repeat' (first|(refine zsk ?_;intro K' hK)|refine zsp ?_|(refine zsc ?_ ?_<;>intro hc<;>first|exact znh|try simp only [znz] at hc)|simp (maxSteps:=1000000) only [go_sem,e2,hwj,Int.toNat_natCast,List.getElem?_map,hgj,hA]|(refine hK _ ?_;clear hK K')|apply zan|(apply Ql;(focus first|exact hc1|exact (z0 _).b|exact (z1 _).b|exact (z2 _ _ zsd).b|exact (z3 _ _ zsd zsd).b))|exact zsq|fail)
    all_goals first|exact zr
   ·rw [decide_eq_false (fun h=>hin (hf.1 h))] at hc1
    have hnd2:(l.take (j + 1)).Nodup:=by
     rw [List.take_add_one,hgj]
     exact List.nodup_append.2 ⟨hnd,by simp,fun a ha b hb e=>by simp at hb;subst hb;subst e;exact hin ha⟩
    repeat' (first|(refine zsk ?_;intro K' hK)|refine zsp ?_|(refine zsc ?_ ?_<;>intro hc<;>first|exact znh|try simp only [znz] at hc)|simp (maxSteps:=1000000) only [go_sem,e2,hwj,Int.toNat_natCast,List.getElem?_map,hgj,hA]|(refine hK _ ?_;clear hK K')|apply zan|(apply Ql;(focus first|exact hc1|exact (z0 _).b|exact (z1 _).b|exact (z2 _ _ zsd).b|exact (z3 _ _ zsd zsd).b))|exact zsq|fail)
    all_goals first|exact hL2 _ (j + 1) (by simp only [Nat.reduceAdd,ovT,Q9,Nat.reduceEqDiff,reduceIte,Qt,Q0,Uh,u32,u33,u34,u35,u36,u37,u38,u39,and_self,and_true,true_and]) ⟨by omega,hnd2⟩ (by omega) (fun a ha=>by simp only [u32,u33,u34,u35,u36,u37,u38,u39];repeat rw [if_neg (by omega)])
 ·obtain ⟨hk',hget,hr⟩:=QK hd
  have hw:=QP (k:=k) (by omega)
  have e1:decide ((k:Int) < (((l.map V.int).length:Nat):Int)) = true:=by simp;omega
  by_cases hx:1≤x∧x≤16
  ·have hsv:Va x = .tup [(XI x).v,V.int 0]:=by rw [Va,if_pos hx]
   have hnf:=aoR hx
   have hnl:=afh x
   have hgood2:∀ y∈l.take (k + 1),aec y = false:=by
    rw [List.take_add_one,hget]
    intro y hy
    rcases List.mem_append.1 hy with hy|hy
    ·exact hgood y hy
    ·simp at hy;subst hy;simp [aec];omega
   have hns:(l.take (k + 1)).map wt = (l.take k).map wt++[wt x]:=by rw [List.take_add_one,hget,List.map_append];rfl
   have hnl2:((l.take k).map wt).length≤2 ^ 30:=by simp;omega
   generalize (l.take k).map wt = ns at *
   have hb:List.map V.str ns++[V.str (wt x)] = (ns++[wt x]).map V.str:=by rw [List.map_append];rfl
   have hln:ns.length + 1 = (ns++[wt x]).length:=by simp
   rcases hfd:decide (jZ (XI x).name 0 X8 > 0) with _|_
   ·rw [if_neg (of_decide_eq_false hfd),List.append_nil] at hnf
    rw [hnf] at hb hln hns hnl
    repeat' (first|(refine zsk ?_;intro K' hK)|refine zsp ?_|(refine zsc ?_ ?_<;>intro hc<;>first|exact znh|try simp only [znz] at hc)|simp (maxSteps:=1000000) only [go_sem,JY,e1,hsv,hw,hfd,Int.toNat_natCast,List.getElem?_map,hget,Ji.v,Ji.cells,Wu,hb,hln]|(refine hK _ ?_;clear hK K')|apply zan|(apply Ql;(focus first|exact (z0 _).b|exact (z1 _).b|exact (z2 _ _ zsd).b|exact (z3 _ _ zsd zsd).b))|exact zsq|fail)
    all_goals first
     | (refine hL _ (k + 1) (QX [(0,22001)]) ⟨by omega,hgood2⟩ (by omega) ?_
        rw [hns]
        exact zwg [(0,22001)])
     | (simp only [List.length_append,List.length_singleton];omega)
   ·rw [if_pos (of_decide_eq_true hfd)] at hnf
    rw [hnf] at hb hln hns hnl
    repeat' (first|(refine zsk ?_;intro K' hK)|refine zsp ?_|(refine zsc ?_ ?_<;>intro hc<;>first|exact znh|try simp only [znz] at hc)|simp (maxSteps:=1000000) only [go_sem,JY,e1,hsv,hw,hfd,Int.toNat_natCast,List.getElem?_map,hget,Ji.v,Ji.cells,Wu,hb,hln]|(refine hK _ ?_;clear hK K')|apply zan|(apply Ql;(focus first|exact (z0 _).b|exact (z1 _).b|exact (z2 _ _ zsd).b|exact (z3 _ _ zsd zsd).b))|exact zsq|fail)
    all_goals first
     | (refine hL _ (k + 1) (QX [(0,27001)]) ⟨by omega,hgood2⟩ (by omega) ?_
        rw [hns]
        exact zwg [(0,27001)])
     | (simp only [List.length_append,List.length_singleton] at *;omega)
  ·have hsv:Va x = .tup [(XI x).v,V.int 8]:=by rw [Va,if_neg hx]
   have hbad:jQ l = .tup [V.str [],V.int 8]:=by
    rw [jQ,if_pos]
    rw [List.any_eq_true]
    exact ⟨x,List.mem_of_getElem? hget,by simp [aec];omega⟩
   rw [hbad]
   repeat' (first|(refine zsk ?_;intro K' hK)|refine zsp ?_|(refine zsc ?_ ?_<;>intro hc<;>first|exact znh|try simp only [znz] at hc)|simp (maxSteps:=1000000) only [go_sem,JY,e1,hsv,hw,Int.toNat_natCast,List.getElem?_map,hget,Ji.v,Ji.cells]|(refine hK _ ?_;clear hK K')|apply zan|(apply Ql;(focus first|exact (z0 _).b|exact (z1 _).b|exact (z2 _ _ zsd).b|exact (z3 _ _ zsd zsd).b))|exact zsq|fail)
   all_goals first|exact zr
end Av
end
