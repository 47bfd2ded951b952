/- Functions that answer a buffer of their own, whose elements show no memory. -/
import Derived.Test.YtajbkpjbnooblaaGreatDoorK12
import Derived.Lib.IndexLaws
import Derived.Lib.AtoiAllCases
set_option linter.unusedVariables false
set_option linter.unusedSimpArgs false
section
set_option linter.unusedSimpArgs false
set_option linter.unusedVariables false
set_option maxRecDepth 10000
namespace Av
open Go
attribute [local irreducible] AWp VV UQ Ko awS awC jF awQ yc Jb XH jD awR XT awB okR Wy ris
end Av
end
section
set_option linter.unusedSimpArgs false
set_option linter.unusedVariables false
set_option maxRecDepth 10000
set_option maxHeartbeats 4000000
namespace Av
open Go
attribute [local irreducible] AWp VV UQ Ko awS awC jF awQ yc Jb XH jD awR XT awB okR Wy ris
def acS:Ji:=⟨0,[],0,0,0,0,0,0,0,0,0,0⟩
def XI (c:Int):Ji:=if 1≤c∧c≤16 then J3.getD (c - 1).toNat acS else acS
def Va (c:Int):V:=.tup [(XI c).v,V.int (if 1≤c∧c≤16 then 0 else 8)]
theorem wZ (c:Int):(Va c).closed:=by simp only [Va,Ji.v,Ji.cells,V.closed,closedL,and_self]
theorem aca (c:Int):(Va c).noSl:=by simp only [Va,Ji.v,Ji.cells,V.noSl,abR,and_self]
theorem KI:J3.length = 16:=rfl
theorem ahU {c:Int} (h:1≤c∧c≤16):(J3.map Ji.v)[(c - 1).toNat]? = some (XI c).v:=by
 have hk:(c - 1).toNat < J3.length:=by rw [KI];omega
 rw [List.getElem?_map,XI,if_pos h,List.getD_eq_getElem?_getD,List.getElem?_eq_getElem hk,Option.getD_some];rfl
theorem ahT {c:Int} (h:¬ (1≤c∧c≤16)):XI c = acS:=by rw [XI,if_neg h]
def vU (J0:Nat):AC:=Qe [0,2] (.reg [xo 2 (.alloc [.val (.int .i64 0),.val (.string ⟨#[]⟩),.val (.int .i64 0),.val (.int .i64 0),.val (.int .i64 0),.val (.int .i64 0),.val (.int .i64 0),.val (.int .i64 0),.val (.int .i64 0),.val (.int .i64 0),.val (.int .i64 0),.val (.int .i64 0)]),mc 3 (V.int 0)]) (Qe [0,2,4] (.reg [cl 5 J0 [],mv 4 5]) (Qe [0,2,4] (Qe [0,2,4,13] (.reg [mv 6 0,bc 7 .lss 6 (V.int 1),mv 8 7,mg 9 0 8 false,mg 10 4 8 false,xg 11 (.lenL (.t 10)) 8 false,xg 12 (.bin .gtr (.t 9) (.t 11)) 8 false,xo 13 (.pick (.t 8) (.c (V.bool true)) (.t 12))]) (.cond (.t 13) (Qe [2,3] (.reg [xo 14 (.build [(.int .i64 0),(.string ⟨#[]⟩),(.int .i64 0),(.int .i64 0),(.int .i64 0),(.int .i64 0),(.int .i64 0),(.int .i64 0),(.int .i64 0),(.int .i64 0),(.int .i64 0),(.int .i64 0)] []),xs 12 2 14,mc 3 (V.int 8)]) (.ret)) (.skip))) (Qe [2,3] (.reg [mv 15 4,mv 16 0,bc 17 .sub 16 (V.int 1),ia 18 12 15 17,xo 19 (.load true 12 (.t 18)),xs 12 2 19,mc 3 (V.int 0)]) (.ret)))) def r_catalog_Suite:List YF:=[.cell 2 true 12,.tmp 3]
def UL (Γ:Env) (f:Nat):Prop:=∀ (c:Int),EvN Γ f [V.int c] (Va c)
attribute [local go_sem] Ji.cells Ji.v in
theorem ahw {Γ:Env} {f J0:Nat} (h:Has Γ.P f 20 (vU J0) r_catalog_Suite) (z0:Ug Γ J0):UL Γ f:=by
 intro c
 refine Qj h zsi (by first|exact wZ c|exact aca c) (by first|exact wZ c|exact aca c) fun C hC hm=>?_
 subst hC
 unfold vU
 have hl:=KI
 by_cases h:1≤c∧c≤16
 ·have hg:=ahU h
  have hw:IntKind.i64.wrap (c - 1) = c - 1:=UP (by omega) (by omega)
  have e1:decide (c < 1) = false:=by simp;omega
  have e2:decide (c > 16) = false:=by simp;omega
  have e3:decide (c > (((J3.map Ji.v).length:Nat):Int)) = false:=by simp [hl];omega
  (have zx:=And.intro hg (And.intro hw (And.intro e1 (And.intro e2 e3))));refine zgo ?_;repeat' first|exact zt|apply zan|intro hc
  all_goals (simp only [Va,if_pos h,Ji.v,Ji.cells];refine QA _ rfl ?_;simp only [go_sem])
 ·have h0:=ahT h
  by_cases h1:c < 1
  ·have e1:decide (c < 1) = true:=by simp;omega
   (have zx:=e1);refine zgo ?_;repeat' first|exact zt|apply zan|intro hc
   all_goals (simp only [Va,if_neg h,h0,acS,Ji.v,Ji.cells];refine QA _ rfl ?_;simp only [go_sem])
  ·have e1:decide (c < 1) = false:=by simp;omega
   have e2:decide (c > (((J3.map Ji.v).length:Nat):Int)) = true:=by simp [hl];omega
   (have zx:=And.intro e1 e2);refine zgo ?_;repeat' first|exact zt|apply zan|intro hc
   all_goals (simp only [Va,if_neg h,h0,acS,Ji.v,Ji.cells];refine QA _ rfl ?_;simp only [go_sem])
def ae2:AC:=Qe [0,1,4] (.reg [xo 4 (.alloc [.val (.int .i64 0),.val (.int .i64 0)])]) (Qe [4] (.reg [mv 5 0,mv 6 1,xo 7 (.build [(.int .i64 0),(.int .i64 0)] [(0,1,(.t 5)),(1,1,(.t 6))]),xs 2 4 7]) (.ret)) def r_ref02_use:List YF:=[.cell 4 true 2]
def adM (Γ:Env) (f:Nat):Prop:=∀ (a b:Int),EvN Γ f [V.int a,V.int b] (.agg [V.int a,V.int b])
theorem alk {Γ:Env} {f:Nat} (h:Has Γ.P f 8 ae2 r_ref02_use) :adM Γ f:=by
 intro a b
 refine Qj h zsi zcl zcl fun C hC hm=>?_
 subst hC
 unfold ae2
 refine zgo ?_;repeat' first|exact zt|apply zan|intro hc
 refine QA _ rfl ?_;simp only [go_sem]
def acx:AC:=Qe [0,1,6,7,10,11,12,13,16] (.reg [xo 10 (.box true 2 (.t 2)),xo 11 (.box true 2 (.t 3)),xo 12 (.box true 2 (.t 4)),xo 13 (.box true 2 (.t 5)),xo 16 (.alloc [.val (.int .i64 0),.val (.string ⟨#[]⟩),.val (.int .i64 0),.val (.int .i64 0),.val (.int .i64 0),.val (.int .i64 0),.val (.int .i64 0),.val (.int .i64 0),.val (.int .i64 0),.val (.int .i64 0),.val (.int .i64 0),.val (.int .i64 0)])]) (Qe [16] (.reg [mv 17 0,mv 18 1,xo 19 (.load true 2 (.t 10)),xo 20 (.load true 2 (.t 11)),xo 21 (.load true 2 (.t 12)),xo 22 (.load true 2 (.t 13)),mv 23 6,mv 24 7,xo 25 (.build [(.int .i64 0),(.string ⟨#[]⟩),(.int .i64 0),(.int .i64 0),(.int .i64 0),(.int .i64 0),(.int .i64 0),(.int .i64 0),(.int .i64 0),(.int .i64 0),(.int .i64 0),(.int .i64 0)] [(0,1,(.t 17)),(1,1,(.t 18)),(2,2,(.t 19)),(4,2,(.t 20)),(6,2,(.t 21)),(8,2,(.t 22)),(10,1,(.t 23)),(11,1,(.t 24))]),xs 12 16 25]) (.ret)) def r_ref02_suite:List YF:=[.cell 16 true 12]
def abB (Γ:Env) (f:Nat):Prop:=∀ (c:Int) (n:List UInt8) (a1 a2 b1 b2 c1 c2 d1 d2 lo up:Int),EvN Γ f [V.int c,V.str n,.agg [V.int a1,V.int a2],.agg [V.int b1,V.int b2],.agg [V.int c1,V.int c2],.agg [V.int d1,V.int d2],V.int lo,V.int up] (.agg [V.int c,V.str n,V.int a1,V.int a2,V.int b1,V.int b2,V.int c1,V.int c2,V.int d1,V.int d2,V.int lo,V.int up])
theorem ajg {Γ:Env} {f:Nat} (h:Has Γ.P f 26 acx r_ref02_suite) :abB Γ f:=by
 intro c n a1 a2 b1 b2 c1 c2 d1 d2 lo up
 refine Qj h zsi zcl zcl fun C hC hm=>?_
 subst hC
 unfold acx
 refine zgo ?_;repeat' first|exact zt|apply zan|intro hc
 refine QA _ rfl ?_;simp only [go_sem]
def acV (Qp QU:Nat):List AO:=[xo 29 (.load true 2 (.t 1)),xo 30 (.load true 2 (.t 2)),xo 31 (.load true 2 (.t 4)),xo 32 (.load true 2 (.t 9)),xo 33 (.call Qp [(.c (V.int 1)),(.c (V.str [114,115,97,45,114,99,52,45,109,100,53])),(.t 29),(.t 30),(.t 31),(.t 32),(.c (V.int 1)),(.c (V.int 2))]),xo 34 (.load true 2 (.t 1)),xo 35 (.load true 2 (.t 2)),xo 36 (.load true 2 (.t 4)),xo 37 (.load true 2 (.t 10)),xo 38 (.call Qp [(.c (V.int 2)),(.c (V.str [114,115,97,45,114,99,52,45,115,104,97])),(.t 34),(.t 35),(.t 36),(.t 37),(.c (V.int 1)),(.c (V.int 3))]),xo 39 (.load true 2 (.t 1)),xo 40 (.load true 2 (.t 2)),xo 41 (.load true 2 (.t 5)),xo 42 (.load true 2 (.t 10)),xo 43 (.call Qp [(.c (V.int 3)),(.c (V.str [114,115,97,45,100,101,115,51,45,115,104,97])),(.t 39),(.t 40),(.t 41),(.t 42),(.c (V.int 1)),(.c (V.int 3))]),xo 44 (.call QU [(.c (V.int 11)),(.c (V.int 1024))]),xo 45 (.call QU [(.c (V.int 6)),(.c (V.int 0))]),xo 46 (.load true 2 (.t 5)),xo 47 (.load true 2 (.t 10)),xo 48 (.call Qp [(.c (V.int 4)),(.c (V.str [100,104,101,45,100,115,97,45,100,101,115,51,45,115,104,97])),(.t 44),(.t 45),(.t 46),(.t 47),(.c (V.int 1)),(.c (V.int 3))]),xo 49 (.call QU [(.c (V.int 11)),(.c (V.int 1024))]),xo 50 (.load true 2 (.t 2)),xo 51 (.load true 2 (.t 5)),xo 52 (.load true 2 (.t 10)),xo 53 (.call Qp [(.c (V.int 5)),(.c (V.str [100,104,101,45,114,115,97,45,100,101,115,51,45,115,104,97])),(.t 49),(.t 50),(.t 51),(.t 52),(.c (V.int 1)),(.c (V.int 3))]),xo 54 (.load true 2 (.t 1)),xo 55 (.load true 2 (.t 2)),xo 56 (.load true 2 (.t 6)),xo 57 (.load true 2 (.t 10)),xo 58 (.call Qp [(.c (V.int 6)),(.c (V.str [114,115,97,45,97,101,115,49,50,56,45,115,104,97])),(.t 54),(.t 55),(.t 56),(.t 57),(.c (V.int 1)),(.c (V.int 3))]),xo 59 (.call QU [(.c (V.int 11)),(.c (V.int 2048))]),xo 60 (.load true 2 (.t 2)),xo 61 (.load true 2 (.t 6)),xo 62 (.load true 2 (.t 10)),xo 63 (.call Qp [(.c (V.int 7)),(.c (V.str [100,104,101,45,114,115,97,45,97,101,115,49,50,56,45,115,104,97])),(.t 59),(.t 60),(.t 61),(.t 62),(.c (V.int 1)),(.c (V.int 3))]),xo 64 (.load true 2 (.t 13)),xo 65 (.load true 2 (.t 2)),xo 66 (.load true 2 (.t 6)),xo 67 (.load true 2 (.t 10)),xo 68 (.call Qp [(.c (V.int 8)),(.c (V.str [101,99,100,104,101,45,114,115,97,45,97,101,115,49,50,56,45,115,104,97])),(.t 64),(.t 65),(.t 66),(.t 67),(.c (V.int 1)),(.c (V.int 3))]),xo 69 (.load true 2 (.t 13)),xo 70 (.call QU [(.c (V.int 7)),(.c (V.int 0))]),xo 71 (.call QU [(.c (V.int 16)),(.c (V.int 256))]),xo 72 (.load true 2 (.t 11)),xo 73 (.call Qp [(.c (V.int 9)),(.c (V.str [101,99,100,104,101,45,101,99,100,115,97,45,97,101,115,50,53,54,45,115,104,97,50,53,54])),(.t 69),(.t 70),(.t 71),(.t 72),(.c (V.int 3)),(.c (V.int 3))]),xo 74 (.load true 2 (.t 13)),xo 75 (.load true 2 (.t 2)),xo 76 (.load true 2 (.t 7)),xo 77 (.load true 2 (.t 12)),xo 78 (.call Qp [(.c (V.int 10)),(.c (V.str [101,99,100,104,101,45,114,115,97,45,97,101,115,49,50,56,45,103,99,109])),(.t 74),(.t 75),(.t 76),(.t 77),(.c (V.int 3)),(.c (V.int 3))]),xo 79 (.call QU [(.c (V.int 12)),(.c (V.int 384))]),xo 80 (.call QU [(.c (V.int 7)),(.c (V.int 0))]),xo 81 (.load true 2 (.t 8)),xo 82 (.load true 2 (.t 12)),xo 83 (.call Qp [(.c (V.int 11)),(.c (V.str [101,99,100,104,101,45,101,99,100,115,97,45,97,101,115,50,53,54,45,103,99,109])),(.t 79),(.t 80),(.t 81),(.t 82),(.c (V.int 3)),(.c (V.int 3))]),xo 84 (.load true 2 (.t 13)),xo 85 (.load true 2 (.t 2)),xo 86 (.load true 2 (.t 14)),xo 87 (.load true 2 (.t 12)),xo 88 (.call Qp [(.c (V.int 12)),(.c (V.str [101,99,100,104,101,45,114,115,97,45,99,104,97,99,104,97])),(.t 84),(.t 85),(.t 86),(.t 87),(.c (V.int 3)),(.c (V.int 3))]),xo 89 (.load true 2 (.t 1)),xo 90 (.load true 2 (.t 2)),xo 91 (.load true 2 (.t 8)),xo 92 (.load true 2 (.t 12)),xo 93 (.call Qp [(.c (V.int 13)),(.c (V.str [114,115,97,45,97,101,115,50,53,54,45,103,99,109])),(.t 89),(.t 90),(.t 91),(.t 92),(.c (V.int 3)),(.c (V.int 3))]),xo 94 (.load true 2 (.t 13)),xo 95 (.load true 2 (.t 3)),xo 96 (.load true 2 (.t 7)),xo 97 (.load true 2 (.t 12)),xo 98 (.call Qp [(.c (V.int 14)),(.c (V.str [97,101,115,49,50,56,45,103,99,109])),(.t 94),(.t 95),(.t 96),(.t 97),(.c (V.int 4)),(.c (V.int 4))]),xo 99 (.load true 2 (.t 13)),xo 100 (.load true 2 (.t 3)),xo 101 (.load true 2 (.t 14)),xo 102 (.load true 2 (.t 12)),xo 103 (.call Qp [(.c (V.int 15)),(.c (V.str [99,104,97,99,104,97])),(.t 99),(.t 100),(.t 101),(.t 102),(.c (V.int 4)),(.c (V.int 4))]),xo 104 (.call QU [(.c (V.int 13)),(.c (V.int 768))]),xo 105 (.load true 2 (.t 3)),xo 106 (.load true 2 (.t 8)),xo 107 (.load true 2 (.t 12)),xo 108 (.call Qp [(.c (V.int 16)),(.c (V.str [109,108,107,101,109,45,97,101,115,50,53,54,45,103,99,109])),(.t 104),(.t 105),(.t 106),(.t 107),(.c (V.int 4)),(.c (V.int 4))]),xo 109 (.bslice 16 12 true [(.int .i64 0),(.string ⟨#[]⟩),(.int .i64 0),(.int .i64 0),(.int .i64 0),(.int .i64 0),(.int .i64 0),(.int .i64 0),(.int .i64 0),(.int .i64 0),(.int .i64 0),(.int .i64 0)] [(0,(.t 33)),(1,(.t 38)),(2,(.t 43)),(3,(.t 48)),(4,(.t 53)),(5,(.t 58)),(6,(.t 63)),(7,(.t 68)),(8,(.t 73)),(9,(.t 78)),(10,(.t 83)),(11,(.t 88)),(12,(.t 93)),(13,(.t 98)),(14,(.t 103)),(15,(.t 108))]),mv 0 109]
def acZ:List (List Nat):=[[],[],[],[],[0,1,2,3],[],[],[],[],[5,6,7,8,4],[],[],[],[],[10,11,12,13,9],[14],[15],[],[],[15,16,17,18,16],[19],[],[],[],[20,21,22,23,20],[],[],[],[],[25,26,27,28,24],[29],[],[],[],[30,31,32,33,30],[],[],[],[],[35,36,37,38,34],[],[39],[41],[],[40,41,42,43,42],[],[],[],[],[45,46,47,48,44],[49],[50],[],[],[50,51,52,53,51],[],[],[],[],[55,56,57,58,54],[],[],[],[],[60,61,62,63,59],[],[],[],[],[65,66,67,68,64],[],[],[],[],[70,71,72,73,69],[74],[],[],[],[75,76,77,78,75],[4,9,14,19,24,29,34,39,44,49,54,59,64,69,74,79],[80,79,0,1,2,3,4,5,6,7,8,9,10,11,12,13,14,15,16,17,18,19,20,21,22,23,24,25,26,27,28,29,30,31,32,33,34,35,36,37,38,39,40,41,42,43,44,45,46,47,48,49,50,51,52,53,54,55,56,57,58,59,60,61,62,63,64,65,66,67,68,69,70,71,72,73,74,75,76,77,78,79,80]]
def acR:OT:=.one 0 (.one 1 (.one 2 (.one 3 (.one 4 (.one 5 (.one 6 (.one 7 (.one 8 (.one 9 (.one 10 (.one 11 (.one 12 (.one 13 (.one 14 (.one 17 (.one 18 (.one 21 (.one 22 (.one 23 (.one 25 (.one 26 (.one 27 (.one 28 (.one 31 (.one 32 (.one 33 (.one 35 (.one 36 (.one 37 (.one 38 (.one 40 (.one 43 (.one 45 (.one 46 (.one 47 (.one 48 (.one 52 (.one 53 (.one 55 (.one 56 (.one 57 (.one 58 (.one 60 (.one 61 (.one 62 (.one 63 (.one 65 (.one 66 (.one 67 (.one 68 (.one 70 (.one 71 (.one 72 (.one 73 (.one 76 (.one 77 (.one 78 (.or 15 (.or 16 (.one 19 (.or 20 (.one 24 (.one 29 (.or 30 (.one 34 (.one 39 (.or 41 (.or 42 (.one 44 (.one 49 (.or 50 (.or 51 (.one 54 (.one 59 (.one 64 (.one 69 (.one 74 (.or 75 (.one 79 (.one 80 (.one 81 (.done)))) (.done))))))) (.done)) (.done)))) (.done)) (.done)))) (.done)))) (.done))) (.done)) (.done)))))))))))))))))))))))))))))))))))))))))))))))))))))))))))
@[go_sem] def acU (Qp QU:Nat):OP:=.one 0 false [] (xo 29 (.load true 2 (.t 1))) (.one 1 false [] (xo 30 (.load true 2 (.t 2))) (.one 2 false [] (xo 31 (.load true 2 (.t 4))) (.one 3 false [] (xo 32 (.load true 2 (.t 9))) (.one 4 false [] (xo 33 (.call Qp [(.c (V.int 1)),(.c (V.str [114,115,97,45,114,99,52,45,109,100,53])),(.t 29),(.t 30),(.t 31),(.t 32),(.c (V.int 1)),(.c (V.int 2))])) (.one 5 false [] (xo 34 (.load true 2 (.t 1))) (.one 6 false [] (xo 35 (.load true 2 (.t 2))) (.one 7 false [] (xo 36 (.load true 2 (.t 4))) (.one 8 false [] (xo 37 (.load true 2 (.t 10))) (.one 9 false [] (xo 38 (.call Qp [(.c (V.int 2)),(.c (V.str [114,115,97,45,114,99,52,45,115,104,97])),(.t 34),(.t 35),(.t 36),(.t 37),(.c (V.int 1)),(.c (V.int 3))])) (.one 10 false [] (xo 39 (.load true 2 (.t 1))) (.one 11 false [] (xo 40 (.load true 2 (.t 2))) (.one 12 false [] (xo 41 (.load true 2 (.t 5))) (.one 13 false [] (xo 42 (.load true 2 (.t 10))) (.one 14 false [] (xo 43 (.call Qp [(.c (V.int 3)),(.c (V.str [114,115,97,45,100,101,115,51,45,115,104,97])),(.t 39),(.t 40),(.t 41),(.t 42),(.c (V.int 1)),(.c (V.int 3))])) (.one 17 false [] (xo 46 (.load true 2 (.t 5))) (.one 18 false [] (xo 47 (.load true 2 (.t 10))) (.one 21 false [] (xo 50 (.load true 2 (.t 2))) (.one 22 false [] (xo 51 (.load true 2 (.t 5))) (.one 23 false [] (xo 52 (.load true 2 (.t 10))) (.one 25 false [] (xo 54 (.load true 2 (.t 1))) (.one 26 false [] (xo 55 (.load true 2 (.t 2))) (.one 27 false [] (xo 56 (.load true 2 (.t 6))) (.one 28 false [] (xo 57 (.load true 2 (.t 10))) (.one 31 false [] (xo 60 (.load true 2 (.t 2))) (.one 32 false [] (xo 61 (.load true 2 (.t 6))) (.one 33 false [] (xo 62 (.load true 2 (.t 10))) (.one 35 false [] (xo 64 (.load true 2 (.t 13))) (.one 36 false [] (xo 65 (.load true 2 (.t 2))) (.one 37 false [] (xo 66 (.load true 2 (.t 6))) (.one 38 false [] (xo 67 (.load true 2 (.t 10))) (.one 40 false [] (xo 69 (.load true 2 (.t 13))) (.one 43 false [] (xo 72 (.load true 2 (.t 11))) (.one 45 false [] (xo 74 (.load true 2 (.t 13))) (.one 46 false [] (xo 75 (.load true 2 (.t 2))) (.one 47 false [] (xo 76 (.load true 2 (.t 7))) (.one 48 false [] (xo 77 (.load true 2 (.t 12))) (.one 52 false [] (xo 81 (.load true 2 (.t 8))) (.one 53 false [] (xo 82 (.load true 2 (.t 12))) (.one 55 false [] (xo 84 (.load true 2 (.t 13))) (.one 56 false [] (xo 85 (.load true 2 (.t 2))) (.one 57 false [] (xo 86 (.load true 2 (.t 14))) (.one 58 false [] (xo 87 (.load true 2 (.t 12))) (.one 60 false [] (xo 89 (.load true 2 (.t 1))) (.one 61 false [] (xo 90 (.load true 2 (.t 2))) (.one 62 false [] (xo 91 (.load true 2 (.t 8))) (.one 63 false [] (xo 92 (.load true 2 (.t 12))) (.one 65 false [] (xo 94 (.load true 2 (.t 13))) (.one 66 false [] (xo 95 (.load true 2 (.t 3))) (.one 67 false [] (xo 96 (.load true 2 (.t 7))) (.one 68 false [] (xo 97 (.load true 2 (.t 12))) (.one 70 false [] (xo 99 (.load true 2 (.t 13))) (.one 71 false [] (xo 100 (.load true 2 (.t 3))) (.one 72 false [] (xo 101 (.load true 2 (.t 14))) (.one 73 false [] (xo 102 (.load true 2 (.t 12))) (.one 76 false [] (xo 105 (.load true 2 (.t 3))) (.one 77 false [] (xo 106 (.load true 2 (.t 8))) (.one 78 false [] (xo 107 (.load true 2 (.t 12))) (.or 15 false [] (xo 44 (.call QU [(.c (V.int 11)),(.c (V.int 1024))])) (.or 16 false [] (xo 45 (.call QU [(.c (V.int 6)),(.c (V.int 0))])) (.one 19 false [16,15] (xo 48 (.call Qp [(.c (V.int 4)),(.c (V.str [100,104,101,45,100,115,97,45,100,101,115,51,45,115,104,97])),(.t 44),(.t 45),(.t 46),(.t 47),(.c (V.int 1)),(.c (V.int 3))])) (.or 20 false [] (xo 49 (.call QU [(.c (V.int 11)),(.c (V.int 1024))])) (.one 24 false [20] (xo 53 (.call Qp [(.c (V.int 5)),(.c (V.str [100,104,101,45,114,115,97,45,100,101,115,51,45,115,104,97])),(.t 49),(.t 50),(.t 51),(.t 52),(.c (V.int 1)),(.c (V.int 3))])) (.one 29 false [] (xo 58 (.call Qp [(.c (V.int 6)),(.c (V.str [114,115,97,45,97,101,115,49,50,56,45,115,104,97])),(.t 54),(.t 55),(.t 56),(.t 57),(.c (V.int 1)),(.c (V.int 3))])) (.or 30 false [] (xo 59 (.call QU [(.c (V.int 11)),(.c (V.int 2048))])) (.one 34 false [30] (xo 63 (.call Qp [(.c (V.int 7)),(.c (V.str [100,104,101,45,114,115,97,45,97,101,115,49,50,56,45,115,104,97])),(.t 59),(.t 60),(.t 61),(.t 62),(.c (V.int 1)),(.c (V.int 3))])) (.one 39 false [] (xo 68 (.call Qp [(.c (V.int 8)),(.c (V.str [101,99,100,104,101,45,114,115,97,45,97,101,115,49,50,56,45,115,104,97])),(.t 64),(.t 65),(.t 66),(.t 67),(.c (V.int 1)),(.c (V.int 3))])) (.or 41 false [] (xo 70 (.call QU [(.c (V.int 7)),(.c (V.int 0))])) (.or 42 false [] (xo 71 (.call QU [(.c (V.int 16)),(.c (V.int 256))])) (.one 44 false [42,41] (xo 73 (.call Qp [(.c (V.int 9)),(.c (V.str [101,99,100,104,101,45,101,99,100,115,97,45,97,101,115,50,53,54,45,115,104,97,50,53,54])),(.t 69),(.t 70),(.t 71),(.t 72),(.c (V.int 3)),(.c (V.int 3))])) (.one 49 false [] (xo 78 (.call Qp [(.c (V.int 10)),(.c (V.str [101,99,100,104,101,45,114,115,97,45,97,101,115,49,50,56,45,103,99,109])),(.t 74),(.t 75),(.t 76),(.t 77),(.c (V.int 3)),(.c (V.int 3))])) (.or 50 false [] (xo 79 (.call QU [(.c (V.int 12)),(.c (V.int 384))])) (.or 51 false [] (xo 80 (.call QU [(.c (V.int 7)),(.c (V.int 0))])) (.one 54 false [51,50] (xo 83 (.call Qp [(.c (V.int 11)),(.c (V.str [101,99,100,104,101,45,101,99,100,115,97,45,97,101,115,50,53,54,45,103,99,109])),(.t 79),(.t 80),(.t 81),(.t 82),(.c (V.int 3)),(.c (V.int 3))])) (.one 59 false [] (xo 88 (.call Qp [(.c (V.int 12)),(.c (V.str [101,99,100,104,101,45,114,115,97,45,99,104,97,99,104,97])),(.t 84),(.t 85),(.t 86),(.t 87),(.c (V.int 3)),(.c (V.int 3))])) (.one 64 false [] (xo 93 (.call Qp [(.c (V.int 13)),(.c (V.str [114,115,97,45,97,101,115,50,53,54,45,103,99,109])),(.t 89),(.t 90),(.t 91),(.t 92),(.c (V.int 3)),(.c (V.int 3))])) (.one 69 false [] (xo 98 (.call Qp [(.c (V.int 14)),(.c (V.str [97,101,115,49,50,56,45,103,99,109])),(.t 94),(.t 95),(.t 96),(.t 97),(.c (V.int 4)),(.c (V.int 4))])) (.one 74 false [] (xo 103 (.call Qp [(.c (V.int 15)),(.c (V.str [99,104,97,99,104,97])),(.t 99),(.t 100),(.t 101),(.t 102),(.c (V.int 4)),(.c (V.int 4))])) (.or 75 false [] (xo 104 (.call QU [(.c (V.int 13)),(.c (V.int 768))])) (.one 79 false [75] (xo 108 (.call Qp [(.c (V.int 16)),(.c (V.str [109,108,107,101,109,45,97,101,115,50,53,54,45,103,99,109])),(.t 104),(.t 105),(.t 106),(.t 107),(.c (V.int 4)),(.c (V.int 4))])) (.one 80 false [79,75,74,69,64,59,54,51,50,49,44,42,41,39,34,30,29,24,20,19,16,15,14,9,4] (xo 109 (.bslice 16 12 true [(.int .i64 0),(.string ⟨#[]⟩),(.int .i64 0),(.int .i64 0),(.int .i64 0),(.int .i64 0),(.int .i64 0),(.int .i64 0),(.int .i64 0),(.int .i64 0),(.int .i64 0),(.int .i64 0)] [(0,(.t 33)),(1,(.t 38)),(2,(.t 43)),(3,(.t 48)),(4,(.t 53)),(5,(.t 58)),(6,(.t 63)),(7,(.t 68)),(8,(.t 73)),(9,(.t 78)),(10,(.t 83)),(11,(.t 88)),(12,(.t 93)),(13,(.t 98)),(14,(.t 103)),(15,(.t 108))])) (.one 81 false [80,79,75,74,69,64,59,54,51,50,49,44,42,41,39,34,30,29,24,20,19,16,15,14,9,4] (mv 0 109) (.done)))) (.done))))))) (.done)) (.done)))) (.done)) (.done)))) (.done)))) (.done))) (.done)) (.done)))))))))))))))))))))))))))))))))))))))))))))))))))))))))))
instance (Qp QU:Nat):RG [] acR (acU Qp QU) (acV Qp QU) acZ 82 (fun _=>true):=⟨rfl,by kernel_rfl,by kernel_rfl⟩
def abk (QU Qp:Nat):AC:=Qe [] (.reg [xo 0 (.mknil 12)]) (Qe [1,2,3] (.reg [xo 15 (.call QU [(.c (V.int 10)),(.c (V.int 0))]),xo 16 (.call QU [(.c (V.int 5)),(.c (V.int 0))]),xo 17 (.build [(.int .i64 0),(.int .i64 0)] []),xo 1 (.alloc [.val (.int .i64 0),.val (.int .i64 0)]),xo 2 (.alloc [.val (.int .i64 0),.val (.int .i64 0)]),xo 3 (.alloc [.val (.int .i64 0),.val (.int .i64 0)]),xs 2 1 15,xs 2 2 16,xs 2 3 17]) (Qe [1,2,3,4,5] (.reg [xo 18 (.call QU [(.c (V.int 14)),(.c (V.int 128))]),xo 19 (.call QU [(.c (V.int 15)),(.c (V.int 168))]),xo 4 (.alloc [.val (.int .i64 0),.val (.int .i64 0)]),xo 5 (.alloc [.val (.int .i64 0),.val (.int .i64 0)]),xs 2 4 18,xs 2 5 19]) (Qe [1,2,3,4,5,6,7,8] (.reg [xo 20 (.call QU [(.c (V.int 16)),(.c (V.int 128))]),xo 21 (.call QU [(.c (V.int 17)),(.c (V.int 128))]),xo 22 (.call QU [(.c (V.int 17)),(.c (V.int 256))]),xo 6 (.alloc [.val (.int .i64 0),.val (.int .i64 0)]),xo 7 (.alloc [.val (.int .i64 0),.val (.int .i64 0)]),xo 8 (.alloc [.val (.int .i64 0),.val (.int .i64 0)]),xs 2 6 20,xs 2 7 21,xs 2 8 22]) (Qe [1,2,3,4,5,6,7,8,9,10,11,12] (.reg [xo 23 (.call QU [(.c (V.int 19)),(.c (V.int 0))]),xo 24 (.call QU [(.c (V.int 20)),(.c (V.int 0))]),xo 25 (.call QU [(.c (V.int 21)),(.c (V.int 0))]),xo 26 (.call QU [(.c (V.int 22)),(.c (V.int 0))]),xo 9 (.alloc [.val (.int .i64 0),.val (.int .i64 0)]),xo 10 (.alloc [.val (.int .i64 0),.val (.int .i64 0)]),xo 11 (.alloc [.val (.int .i64 0),.val (.int .i64 0)]),xo 12 (.alloc [.val (.int .i64 0),.val (.int .i64 0)]),xs 2 9 23,xs 2 10 24,xs 2 11 25,xs 2 12 26]) (Qe [1,2,3,4,5,6,7,8,9,10,11,12,13,14] (.reg [xo 27 (.call QU [(.c (V.int 12)),(.c (V.int 256))]),xo 28 (.call QU [(.c (V.int 18)),(.c (V.int 0))]),xo 13 (.alloc [.val (.int .i64 0),.val (.int .i64 0)]),xo 14 (.alloc [.val (.int .i64 0),.val (.int .i64 0)]),xs 2 13 27,xs 2 14 28]) (Qe [0] (ace [] acR (acU Qp QU) (acV Qp QU) acZ) (.ret))))))) def r_ref02_Suites:List YF:=[.tmp 0]
def aak (Γ:Env) (f:Nat):Prop:=EvC Γ f [] (.sl 12 (J3.map Ji.v))
theorem aix {Γ:Env} {f QU Qp:Nat} (h:Has Γ.P f 110 (abk QU Qp) r_ref02_Suites) (z0:adM Γ QU) (z1:abB Γ Qp):aak Γ f:=by
 refine XR h zsi (by simp only [V.closed]) fun C hC hm=>?_
 subst hC
 unfold abk
 refine zgo ?_;repeat' first|exact zt|apply zan|intro hc
 refine QA _ rfl ?_;simp only [go_sem]
 rfl
def acA (xF:Nat):AC:=Qe [0,2] (.reg [xo 2 (.alloc [.val (.int .i64 0),.val (.string ⟨#[]⟩),.val (.int .i64 0),.val (.int .i64 0),.val (.int .i64 0),.val (.int .i64 0),.val (.int .i64 0),.val (.int .i64 0),.val (.int .i64 0),.val (.int .i64 0),.val (.int .i64 0),.val (.int .i64 0)]),mc 3 (V.int 0)]) (Qe [0,2] (Qe [0,2,9] (.reg [mv 4 0,bc 5 .lss 4 (V.int 1),mv 6 5,mg 7 0 6 false,xg 8 (.bin .gtr (.t 7) (.c (V.int 16))) 6 false,xo 9 (.pick (.t 6) (.c (V.bool true)) (.t 8))]) (.cond (.t 9) (Qe [2,3] (.reg [xo 10 (.build [(.int .i64 0),(.string ⟨#[]⟩),(.int .i64 0),(.int .i64 0),(.int .i64 0),(.int .i64 0),(.int .i64 0),(.int .i64 0),(.int .i64 0),(.int .i64 0),(.int .i64 0),(.int .i64 0)] []),xs 12 2 10,mc 3 (V.int 8)]) (.ret)) (.skip))) (Qe [2,3] (.reg [cl 11 xF [],mv 12 0,bc 13 .sub 12 (V.int 1),ia 14 12 11 13,xo 15 (.load true 12 (.t 14)),xs 12 2 15,mc 3 (V.int 0)]) (.ret))) def r_ref02_Suite:List YF:=[.cell 2 true 12,.tmp 3]
def xM (Γ:Env) (f:Nat):Prop:=∀ (c:Int),EvN Γ f [V.int c] (Va c)
attribute [local go_sem] Ji.cells Ji.v in
theorem ajj {Γ:Env} {f xF:Nat} (h:Has Γ.P f 16 (acA xF) r_ref02_Suite) (z0:aak Γ xF):xM Γ f:=by
 intro c
 refine Qj h zsi (by first|exact wZ c|exact aca c) (by first|exact wZ c|exact aca c) fun C hC hm=>?_
 subst hC
 unfold acA
 have hl:=KI
 by_cases h:1≤c∧c≤16
 ·have hg:=ahU h
  have hw:IntKind.i64.wrap (c - 1) = c - 1:=UP (by omega) (by omega)
  have e1:decide (c < 1) = false:=by simp;omega
  have e2:decide (c > 16) = false:=by simp;omega
  (have zx:=And.intro hg (And.intro hw (And.intro e1 e2)));refine zgo ?_;repeat' first|exact zt|apply zan|intro hc
  all_goals (simp only [Va,if_pos h,Ji.v,Ji.cells];refine QA _ rfl ?_;simp only [go_sem])
 ·have h0:=ahT h
  by_cases h1:c < 1
  ·have e1:decide (c < 1) = true:=by simp;omega
   (have zx:=e1);refine zgo ?_;repeat' first|exact zt|apply zan|intro hc
   all_goals (simp only [Va,if_neg h,h0,acS,Ji.v,Ji.cells];refine QA _ rfl ?_;simp only [go_sem])
  ·have e1:decide (c < 1) = false:=by simp;omega
   have e2:decide (c > 16) = true:=by simp;omega
   (have zx:=And.intro e1 e2);refine zgo ?_;repeat' first|exact zt|apply zan|intro hc
   all_goals (simp only [Va,if_neg h,h0,acS,Ji.v,Ji.cells];refine QA _ rfl ?_;simp only [go_sem])
end Av
end
section
set_option linter.unusedSimpArgs false
set_option linter.unusedVariables false
set_option maxRecDepth 10000
set_option maxHeartbeats 4000000
namespace Av
open Go
attribute [local irreducible] AWp VV UQ Ko awS awC jF awQ yc Jb XH jD awR XT awB okR Wy ris
def ac3 {α:Type} (p:α→Bool):Nat→List α→Int
 | _,[]=>-1
 | k,x :: r=>if p x = true then k else ac3 p (k + 1) r
theorem ajN {α:Type} (p:α→Bool):∀ (l:List α) (k:Nat),-1≤ac3 p k l∧ac3 p k l≤((k + l.length:Nat):Int)
 | [],k=>by simp [ac3]<;>omega
 | x :: r,k=>by
   have:=ajN p r (k + 1)
   simp only [ac3,List.length_cons]
   split<;>omega
def YL:AC:=Qe [0,1] (.reg [mc 4 (V.int 0)]) (Qe [] (Qe [0,1,7,8] (.reg [mv 6 0,ln 7 6,mc 8 (V.int 0)]) (.block 0 (Xw [0,1,7,8] (Qe [0,1,7,8,9] (.reg [bn 9 .lss 8 7]) (Qe [0,1,7,8] (.cond (.t 9) (.skip) (.exit 0)) (Qe [0,1,7,8] (.block 1 (Qe [0,1,5,7,8] (.reg [mv 10 8,mv 5 10]) (Qe [0,1,5,7,8,16] (.reg [mv 11 1,mv 12 0,mv 13 5,ia 14 12 12 13,xo 15 (.load true 12 (.t 14)),xo 16 (.callv (.t 11) [(.t 15)])]) (.cond (.t 16) (Qe [4] (.reg [mv 17 5,mv 4 17]) (.ret)) (.skip))))) (.reg [bc 18 .add 8 (V.int 1),mv 8 18]))))))) (Qe [4] (.reg [mc 4 (V.int (-1))]) (.ret))) def r_slices_IndexFunc___api_Suite_api_Suite:List YF:=[.tmp 4]
def YE (Γ:Env) (f:Nat):Prop:=∀ (xs:List Ji) (g:Nat) (cap:List V) (p:Ji→Bool) (hp:∀ x∈xs,EvN Γ g (x.v :: cap) (V.bool (p x))) (hcap:closedL cap) (hl:xs.length < 2 ^ 62),EvN Γ f [.sl 12 (xs.map Ji.v),.clo g cap] (V.int (ac3 p 0 xs))
attribute [local go_sem] Ji.cells Ji.v in
theorem UR {Γ:Env} {f:Nat} (h:Has Γ.P f 19 YL r_slices_IndexFunc___api_Suite_api_Suite) :YE Γ f:=by
 intro xs g cap p hp hcap hl
 refine Qj h zsi zcl zcl fun C hC hm=>?_
 subst hC
 unfold YL
 have s1:∀ o,Wh o cap = cap:=fun o=>Wn o cap hcap
 have s2:∀ o B,JL o B cap = True:=fun o B=>eq_true (Xo o B cap hcap)
 refine zgo ?_;repeat' first|exact zt|apply zan|intro hc
 refine JM (ι:=Nat) (fun k=>k≤xs.length∧ac3 p k (xs.drop k) = ac3 p 0 xs) (fun k=>[(8,V.int k)]) (fun k=>xs.length - k) 0 (by omega) ⟨by simp,by simp⟩ (by repeat' first|exact Yb|refine YR (by omega) (by simp only [Ob.lt,ltL,V.lt,and_self,and_true];try omega) ?_) (fun i hi=>by simp only [ovT,Q9,Nat.reduceEqDiff,reduceIte];(repeat' first|exact YQ|refine Ya ?_ ?_|simp only [V.lt,ltL,and_self,and_true]|omega);exact KZ _ _ hcap) (by simp only [Nat.reduceAdd,ovT,Q9,Nat.reduceEqDiff,reduceIte,Qt,Q0,Uh,u32,u33,u34,u35,u36,u37,u38,u39,and_self,and_true,true_and];first|rfl|exact YT _ _ hcap) fun k hk K' hL=>?_
 obtain ⟨hk,hinv⟩:=hk
 simp only [ovT,Q9,Nat.reduceEqDiff,reduceIte]
 rcases hd:xs.drop k with _|⟨y,r⟩
 ·have:=Ja hd
  rw [hd] at hinv
  refine zgo ?_;repeat' first|exact zt|apply zan|intro hc
  refine QA _ rfl ?_
  simp only [go_sem]
  rw [← hinv];rfl
 ·obtain ⟨hk,hget,hr⟩:=QK hd
  rw [hd] at hinv
  have hw:=QP (k:=k) (by omega)
  have hpy:=hp y (List.mem_of_getElem? hget)
  by_cases hy:p y = true
  ·rw [hy] at hpy
   (have zy0:=hpy.b;have zx:=And.intro hget (And.intro hw (And.intro s1 s2)));refine zgo ?_;repeat' first|exact zt|apply zan|intro hc
   refine QA _ rfl ?_;simp only [go_sem]
   rw [← hinv];simp [ac3,hy]
  ·have hy':p y = false:=by simpa using hy
   rw [hy'] at hpy
   (have zy0:=hpy.b;have zx:=And.intro hget (And.intro hw (And.intro s1 s2)));refine zgo ?_;repeat' first|exact zt|apply zan|intro hc
   refine hL _ (k + 1) (by simp only [Nat.reduceAdd,ovT,Q9,Nat.reduceEqDiff,reduceIte,Qt,Q0,Uh,u32,u33,u34,u35,u36,u37,u38,u39,and_self,and_true,true_and]) ⟨by omega,?_⟩ (by omega) (fun a ha=>by simp only [u32,u33,u34,u35,u36,u37,u38,u39];repeat rw [if_neg (by omega)])
   rw [hr,← hinv,ac3,if_neg hy]
def wF:AC:=Qe [1,2] (.reg [xo 2 (.box true 12 (.t 0)),mc 3 (V.bool false)]) (Qe [3] (.reg [fa 4 1 2,ld 5 1 4,ld 6 1 1,bn 7 .eql 5 6,mv 3 7]) (.ret)) def r_catalog_Code_1:List YF:=[.tmp 3]
def xC (Γ:Env) (f:Nat):Prop:=∀ (s:Ji) (n:List UInt8),EvN Γ f [s.v,.ro [V.str n] 0] (V.bool (s.name == n))
attribute [local go_sem] Ji.cells Ji.v in
theorem agG {Γ:Env} {f:Nat} (h:Has Γ.P f 8 wF r_catalog_Code_1) :xC Γ f:=by
 intro s n
 refine Qj h zsi zcl zcl fun C hC hm=>?_
 subst hC
 unfold wF
 refine zgo ?_;repeat' first|exact zt|apply zan|intro hc
 refine QA _ rfl ?_;simp only [go_sem]
def adt (n:List UInt8):Int:=ac3 (fun s:Ji=>s.name == n) 0 J3 + 1
def abp (J0 UJ J2:Nat):AC:=Qe [1] (.reg [xo 1 (.box false 1 (.t 0)),mc 2 (V.int 0)]) (Qe [2] (.reg [cl 3 J0 [],xo 4 (.mkfn UJ [(.t 1)]),cl 5 J2 [3,4],bc 6 .add 5 (V.int 1),mv 2 6]) (.ret)) def r_catalog_Code:List YF:=[.tmp 2]
def aam (Γ:Env) (f:Nat):Prop:=∀ (n:List UInt8),EvN Γ f [V.str n] (V.int (adt n))
theorem aiC {Γ:Env} {f J0 UJ J2:Nat} (h:Has Γ.P f 7 (abp J0 UJ J2) r_catalog_Code) (z0:Ug Γ J0) (z1:xC Γ UJ) (z2:YE Γ J2):aam Γ f:=by
 intro n
 refine Qj h zsi zcl zcl fun C hC hm=>?_
 subst hC
 unfold abp
 have hi:=z2 J3 UJ [.ro [V.str n] 0] (fun s=>s.name == n) (fun x _=>z1 x n) (by simp [closedL,V.closed]) (by rw [KI];omega)
 have hr:=ajN (fun s:Ji=>s.name == n) J3 0
 have hw:IntKind.i64.wrap (ac3 (fun s:Ji=>s.name == n) 0 J3 + 1) = adt n:=UP (by omega) (by have:=KI;omega)
 (have zy0:=hi.b;have zx:=hw);refine zgo ?_;repeat' first|exact zt|apply zan|intro hc
 refine QA _ rfl ?_;simp only [go_sem]
theorem amV:∀ k,k < 16→∀ s,J3[k]? = some s→s.code = ((k + 1:Nat):Int):=by decide
def ae3:AC:=Qe [0,1] (.reg [mc 4 (V.bool false)]) (Qe [] (Qe [0,1,5] (.reg [mc 5 (V.int 0)]) (.block 0 (Xw [0,1,5] (Qe [0,1,5] (Qe [0,1,5,9] (.reg [mv 6 5,mv 7 0,ln 8 7,bn 9 .lss 6 8]) (.cond (.t 9) (.skip) (.exit 0))) (Qe [0,1,5] (.block 1 (Qe [0,1,5,17] (.reg [mv 12 0,mv 13 5,ia 14 1 12 13,ld 15 1 14,mv 16 1,bn 17 .eql 15 16]) (.cond (.t 17) (Qe [4] (.reg [mc 4 (V.bool true)]) (.ret)) (.skip)))) (.reg [mv 10 5,bc 11 .add 10 (V.int 1),mv 5 11])))))) (Qe [4] (.reg [mc 4 (V.bool false)]) (.ret))) def r_ref02_Has:List YF:=[.tmp 4]
def aa6 (Γ:Env) (f:Nat):Prop:=∀ (l:List Int) (n:Int) (hl:l.length < 2 ^ 62),EvN Γ f [.sl 1 (l.map V.int),V.int n] (V.bool (l.contains n))
theorem alm {Γ:Env} {f:Nat} (h:Has Γ.P f 18 ae3 r_ref02_Has) :aa6 Γ f:=by
 intro l n hl
 refine Qj h zsi zcl zcl fun C hC hm=>?_
 subst hC
 unfold ae3
 refine zgo ?_;repeat' first|exact zt|apply zan|intro hc
 refine JM (ι:=Nat) (fun k=>k≤l.length∧(l.drop k).contains n = l.contains n) (fun k=>[(5,V.int k)]) (fun k=>l.length - k) 0 (by omega) ⟨by simp,by simp⟩ (by repeat' first|exact Yb|refine YR (by omega) (by simp only [Ob.lt,ltL,V.lt,and_self,and_true];try omega) ?_) (fun i hi=>by simp only [ovT,Q9,Nat.reduceEqDiff,reduceIte];(repeat' first|exact YQ|refine Ya ?_ ?_|simp only [V.lt,ltL,and_self,and_true]|omega)) (by simp only [Nat.reduceAdd,ovT,Q9,Nat.reduceEqDiff,reduceIte,Qt,Q0,Uh,u32,u33,u34,u35,u36,u37,u38,u39,and_self,and_true,true_and];rfl) fun k hk K' hL=>?_
 obtain ⟨hk,hinv⟩:=hk
 simp only [ovT,Q9,Nat.reduceEqDiff,reduceIte]
 rcases hd:l.drop k with _|⟨y,r⟩
 ·have:=Ja hd
  rw [hd] at hinv
  refine zgo ?_;repeat' first|exact zt|apply zan|intro hc
  all_goals (refine QA _ rfl ?_;simp only [go_sem];rw [← hinv];rfl)
 ·obtain ⟨hk',hget,hr⟩:=QK hd
  rw [hd] at hinv
  have hw:=QP (k:=k) (by omega)
  (have zx:=And.intro hget hw);refine zgo ?_;repeat' first|exact zt|apply zan|intro hc
  ·refine QA _ rfl ?_;simp only [go_sem]
   rw [← hinv];simp [hc]
  ·refine hL _ (k + 1) (by simp only [Nat.reduceAdd,ovT,Q9,Nat.reduceEqDiff,reduceIte,Qt,Q0,Uh,u32,u33,u34,u35,u36,u37,u38,u39,and_self,and_true,true_and]) ⟨by omega,?_⟩ (by omega) (fun a ha=>by simp only [u32,u33,u34,u35,u36,u37,u38,u39];repeat rw [if_neg (by omega)])
   rw [hr,← hinv,List.contains_cons]
   have:(n == y) = false:=by simp;exact fun h=>hc h.symm
   rw [this,Bool.false_or]
def jU:List AO:=[mv 17 0,mv 18 5,ia 19 1 17 18,ld 20 1 19,mv 21 1,mv 22 5,ia 23 1 21 22,ld 24 1 23,bn 25 .neq 20 24]
def yd:List (List Nat):=[[],[],[0,1],[2],[],[],[4,5],[6],[3,7]]
def jL:OT:=.one 0 (.one 1 (.one 2 (.one 3 (.one 4 (.one 5 (.one 6 (.one 7 (.one 8 (.done)))))))))
@[go_sem] def XK:OP:=.one 0 false [] (mv 17 0) (.one 1 false [] (mv 18 5) (.one 2 false [] (ia 19 1 17 18) (.one 3 false [] (ld 20 1 19) (.one 4 false [] (mv 21 1) (.one 5 false [] (mv 22 5) (.one 6 false [] (ia 23 1 21 22) (.one 7 false [] (ld 24 1 23) (.one 8 false [] (bn 25 .neq 20 24) (.done)))))))))
theorem Vn:okR (jU) yd [] jL = true:=by kernel_rfl
theorem Vl:Wy (ris (jU) yd []) jL = XK:=by kernel_rfl def c_ref02_SameInts:AC:=Qe [0,1] (.reg [mc 4 (V.bool false)]) (Qe [0,1] (Qe [0,1,10] (.reg [mv 6 0,ln 7 6,mv 8 1,ln 9 8,bn 10 .neq 7 9]) (.cond (.t 10) (Qe [4] (.reg [mc 4 (V.bool false)]) (.ret)) (.skip))) (Qe [] (Qe [0,1,5] (.reg [mc 5 (V.int 0)]) (.block 0 (Xw [0,1,5] (Qe [0,1,5] (Qe [0,1,5,14] (.reg [mv 11 5,mv 12 0,ln 13 12,bn 14 .lss 11 13]) (.cond (.t 14) (.skip) (.exit 0))) (Qe [0,1,5] (.block 1 (Qe [0,1,5,25] (ace [] jL (XK) (jU) yd) (.cond (.t 25) (Qe [4] (.reg [mc 4 (V.bool false)]) (.ret)) (.skip)))) (.reg [mv 15 5,bc 16 .add 15 (V.int 1),mv 5 16])))))) (Qe [4] (.reg [mc 4 (V.bool true)]) (.ret)))) def r_ref02_SameInts:List YF:=[.tmp 4]
def xv (Γ:Env) (f:Nat):Prop:=∀ (a b:List Int) (hl:a.length < 2 ^ 62),EvN Γ f [.sl 1 (a.map V.int),.sl 1 (b.map V.int)] (V.bool (a == b))
theorem agx {Γ:Env} {f:Nat} (h:Has Γ.P f 26 c_ref02_SameInts r_ref02_SameInts) :xv Γ f:=by
 intro a b hl
 refine Qj h zsi zcl zcl fun C hC hm=>?_
 subst hC
 unfold c_ref02_SameInts
 by_cases hlen:a.length = b.length
 ·have e0:((((a.map V.int).length:Nat):Int) != (((b.map V.int).length:Nat):Int)) = false:=by simp [hlen]
  repeat' (first|(refine zsk ?_;intro K' hK)|(refine zrt 9 (Vn) (Vl) ?_;intro K' hK)|refine zsp ?_|(refine zsc ?_ ?_<;>intro hc<;>first|exact znh|try simp only [znz] at hc)|simp (maxSteps:=1000000) only [go_sem,e0,XK]|(refine hK _ ?_;clear hK K')|apply zan|exact zsq|fail)
  refine JM (ι:=Nat) (fun k=>k≤a.length∧(a.drop k == b.drop k) = (a == b)) (fun k=>[(5,V.int k)]) (fun k=>a.length - k) 0 (by omega) ⟨by simp,by simp⟩ (by repeat' first|exact Yb|refine YR (by omega) (by simp only [Ob.lt,ltL,V.lt,and_self,and_true];try omega) ?_) (fun i hi=>by simp only [ovT,Q9,Nat.reduceEqDiff,reduceIte];(repeat' first|exact YQ|refine Ya ?_ ?_|simp only [V.lt,ltL,and_self,and_true]|omega)) (by simp only [Nat.reduceAdd,ovT,Q9,Nat.reduceEqDiff,reduceIte,Qt,Q0,Uh,u32,u33,u34,u35,u36,u37,u38,u39,and_self,and_true,true_and]<;>rfl) fun k hk K' hL=>?_
  obtain ⟨hk,hinv⟩:=hk
  simp only [ovT,Q9,Nat.reduceEqDiff,reduceIte]
  rcases hd:a.drop k with _|⟨y,r⟩
  ·have:=Ja hd
   have hd2:b.drop k = []:=List.drop_eq_nil_of_le (by omega)
   rw [hd,hd2] at hinv
   repeat' (first|(refine zsk ?_;intro K' hK)|(refine zrt 9 (Vn) (Vl) ?_;intro K' hK)|refine zsp ?_|(refine zsc ?_ ?_<;>intro hc<;>first|exact znh|try simp only [znz] at hc)|simp (maxSteps:=1000000) only [go_sem,XK]|(refine hK _ ?_;clear hK K')|apply zan|exact zsq|fail)
   all_goals (refine QA _ rfl ?_;simp only [go_sem];rw [← hinv];rfl)
  ·obtain ⟨hk',hget,hr⟩:=QK hd
   rcases hd2:b.drop k with _|⟨z,r2⟩
   ·have:=Ja hd2;omega
   ·obtain ⟨hk2,hget2,hr2⟩:=QK hd2
    rw [hd,hd2] at hinv
    have hw:=QP (k:=k) (by omega)
    by_cases hyz:y = z
    ·have e2:(y != z) = false:=by simp [hyz]
     repeat' (first|(refine zsk ?_;intro K' hK)|(refine zrt 9 (Vn) (Vl) ?_;intro K' hK)|refine zsp ?_|(refine zsc ?_ ?_<;>intro hc<;>first|exact znh|try simp only [znz] at hc)|simp (maxSteps:=1000000) only [go_sem,Int.toNat_natCast,List.getElem?_map,hget,hget2,hw,e2,XK]|(refine hK _ ?_;clear hK K')|apply zan|exact zsq|fail)
     refine hL _ (k + 1) (by simp only [Nat.reduceAdd,ovT,Q9,Nat.reduceEqDiff,reduceIte,Qt,Q0,Uh,u32,u33,u34,u35,u36,u37,u38,u39,and_self,and_true,true_and]) ⟨by omega,?_⟩ (by omega) (fun a ha=>by simp only [u32,u33,u34,u35,u36,u37,u38,u39];repeat rw [if_neg (by omega)])
     rw [hr,hr2,← hinv];simp [hyz]
    ·have e2:(y != z) = true:=by simp [hyz]
     repeat' (first|(refine zsk ?_;intro K' hK)|(refine zrt 9 (Vn) (Vl) ?_;intro K' hK)|refine zsp ?_|(refine zsc ?_ ?_<;>intro hc<;>first|exact znh|try simp only [znz] at hc)|simp (maxSteps:=1000000) only [go_sem,Int.toNat_natCast,List.getElem?_map,hget,hget2,hw,e2,XK]|(refine hK _ ?_;clear hK K')|apply zan|exact zsq|fail)
     all_goals (refine QA _ rfl ?_;simp only [go_sem];rw [← hinv];simp [hyz])
 ·have e0:((((a.map V.int).length:Nat):Int) != (((b.map V.int).length:Nat):Int)) = true:=by simp;omega
  have e1:(a == b) = false:=by
   simp only [beq_eq_false_iff_ne,ne_eq]
   intro h;exact hlen (by rw [h])
  repeat' (first|(refine zsk ?_;intro K' hK)|(refine zrt 9 (Vn) (Vl) ?_;intro K' hK)|refine zsp ?_|(refine zsc ?_ ?_<;>intro hc<;>first|exact znh|try simp only [znz] at hc)|simp (maxSteps:=1000000) only [go_sem,e0,XK]|(refine hK _ ?_;clear hK K')|apply zan|exact zsq|fail)
  all_goals (refine QA _ rfl ?_;simp only [go_sem];rw [e1])
end Av
end
section
set_option linter.unusedSimpArgs false
set_option linter.unusedVariables false
set_option maxRecDepth 10000
set_option maxHeartbeats 4000000
namespace Av
open Go
attribute [local irreducible] AWp VV UQ Ko awS awC jF awQ yc Jb XH jD awR XT awB okR Wy ris
def ahI (c:Int):Int:=if 1≤c∧c≤16 then Yk (XI c).ci1 (XI c).ci2 else 0
def qp (Yd JI:Nat):AC:=Qe [0] (.reg [mc 2 (V.int 0)]) (Qe [3,4] (.reg [mv 6 0,cl 7 Yd [6],mv 5 7,ex 8 5 0,ex 9 5 1,xo 3 (.alloc [.val (.int .i64 0),.val (.string ⟨#[]⟩),.val (.int .i64 0),.val (.int .i64 0),.val (.int .i64 0),.val (.int .i64 0),.val (.int .i64 0),.val (.int .i64 0),.val (.int .i64 0),.val (.int .i64 0),.val (.int .i64 0),.val (.int .i64 0)]),xs 12 3 8,mv 4 9]) (Qe [3] (Qe [3,11] (.reg [mv 10 4,bc 11 .neq 10 (V.int 0)]) (.cond (.t 11) (Qe [2] (.reg [mc 2 (V.int 0)]) (.ret)) (.skip))) (Qe [2] (.reg [fa 12 6 3,xo 13 (.load true 2 (.t 12)),cl 14 JI [13],mv 2 14]) (.ret)))) def r_suitespec_Strength:List YF:=[.tmp 2]
def KF (Γ:Env) (f:Nat):Prop:=∀ (c:Int),EvN Γ f [V.int c] (V.int (ahI c))
attribute [local go_sem] Ji.cells Ji.v in
theorem ado {Γ:Env} {f Yd JI:Nat} (h:Has Γ.P f 15 (qp Yd JI) r_suitespec_Strength) (z0:UL Γ Yd) (z1:W6 Γ JI):KF Γ f:=by
 intro c
 refine Qj h zsi zcl zcl fun C hC hm=>?_
 subst hC
 unfold qp
 by_cases h:1≤c∧c≤16
 ·have e:Va c = .tup [(XI c).v,V.int 0]:=by rw [Va,if_pos h]
  have hs:ahI c = Yk (XI c).ci1 (XI c).ci2:=by rw [ahI,if_pos h]
  rw [hs]
  (have zx:=e);refine zgo ?_;repeat' first|exact zt|apply zan|intro hc
  all_goals (refine QA _ rfl ?_;simp only [go_sem])
 ·have e:Va c = .tup [(XI c).v,V.int 8]:=by rw [Va,if_neg h]
  have hs:ahI c = 0:=by rw [ahI,if_neg h]
  rw [hs]
  (have zx:=e);refine zgo ?_;repeat' first|exact zt|apply zan|intro hc
  all_goals (refine QA _ rfl ?_;simp only [go_sem])
def acq:List (List UInt8):=[[97,108,108],[104,105,103,104],[109,101,100,105,117,109],[108,111,119],[118,49],[118,50],[118,51],[118,52]]
def abT (n:List UInt8):Bool:=acq.contains n || decide (jZ n 0 X8 > 0) || decide (adt n > 0)
def wX (n:List UInt8) (st lo up:Int):Option Bool :=
 if n = [97,108,108] then some true else if n = [104,105,103,104] then some (decide (st≥128)) else if n = [109,101,100,105,117,109] then some (decide (st≥112) && decide (st < 128))
 else if n = [108,111,119] then some (decide (st < 112)) else if n = [118,49] then some (decide (lo≤1) && decide (1≤up)) else if n = [118,50] then some (decide (lo≤2) && decide (2≤up))
 else if n = [118,51] then some (decide (lo≤3) && decide (3≤up)) else if n = [118,52] then some (decide (lo≤4) && decide (4≤up)) else none
def alK:Option Bool→V
 | some b=>.tup [V.bool b,V.bool true]
 | none=>.tup [V.bool false,V.bool false]
theorem aid (x:Option Bool):(alK x).closed:=by cases x<;>simp only [alK,V.closed,closedL,and_self]
theorem ak6 (x:Option Bool):(alK x).noSl:=by cases x<;>simp only [alK,V.noSl,abR,and_self]
theorem ajO {n:List UInt8} (st lo up:Int) (h:n ∉ acq):wX n st lo up = none:=by
 simp only [acq,List.mem_cons,List.not_mem_nil,or_false,not_or] at h
 obtain ⟨h1,h2,h3,h4,h5,h6,h7,h8⟩:=h
 rw [wX,if_neg h1,if_neg h2,if_neg h3,if_neg h4,if_neg h5,if_neg h6,if_neg h7,if_neg h8]
def y6 (JI:Nat):AC:=Qe [1,2] (.reg [xo 2 (.box true 12 (.t 0)),mc 4 (V.bool false),mc 5 (V.bool false)]) (Qe [1,2,6] (.reg [fa 8 6 2,xo 9 (.load true 2 (.t 8)),cl 10 JI [9],mv 6 10]) (Qe [] (Qe [1,2,6,11] (.reg [mv 11 1]) (.block 0 (Qe [1,2,6,11,12] (.reg [bc 13 .eql 11 (V.str [97,108,108]),mv 12 13]) (.cond (.t 12) (Qe [4,5] (.reg [mc 4 (V.bool true),mc 5 (V.bool true)]) (.ret)) (Qe [1,2,6,11,14] (.reg [bc 15 .eql 11 (V.str [104,105,103,104]),mv 14 15]) (.cond (.t 14) (Qe [4,5] (.reg [mv 16 6,bc 17 .geq 16 (V.int 128),mv 4 17,mc 5 (V.bool true)]) (.ret)) (Qe [1,2,6,11,18] (.reg [bc 19 .eql 11 (V.str [109,101,100,105,117,109]),mv 18 19]) (.cond (.t 18) (Qe [4,5] (.reg [mv 20 6,bc 21 .geq 20 (V.int 112),mv 22 21,mg 23 6 22 true,xg 24 (.bin .lss (.t 23) (.c (V.int 128))) 22 true,xo 25 (.pick (.t 22) (.t 24) (.c (V.bool false))),mv 4 25,mc 5 (V.bool true)]) (.ret)) (Qe [1,2,6,11,26] (.reg [bc 27 .eql 11 (V.str [108,111,119]),mv 26 27]) (.cond (.t 26) (Qe [4,5] (.reg [mv 28 6,bc 29 .lss 28 (V.int 112),mv 4 29,mc 5 (V.bool true)]) (.ret)) (Qe [1,2,30] (Qe [1,2,11,30] (.reg [bc 31 .eql 11 (V.str [118,49]),mv 30 31]) (.cond (.t 30) (.skip) (Qe [1,2,11,30] (.reg [bc 32 .eql 11 (V.str [118,50]),mv 30 32]) (.cond (.t 30) (.skip) (Qe [1,2,11,30] (.reg [bc 33 .eql 11 (V.str [118,51]),mv 30 33]) (.cond (.t 30) (.skip) (.reg [bc 34 .eql 11 (V.str [118,52]),mv 30 34]))))))) (.cond (.t 30) (Qe [2,7] (.reg [mv 35 1,xo 36 (.idxS (.t 35) (.c (V.int 1))),bc 37 .sub 36 (.sc (.int .u8 48)),xo 38 (.convI .i64 (.t 37)),mv 7 38]) (Qe [4,5] (.reg [fa 39 10 2,ld 40 1 39,mv 41 7,bn 42 .leq 40 41,mv 43 42,mg 44 7 43 true,xg 45 (.faddr 11 (.t 2)) 43 true,xg 46 (.load false 1 (.t 45)) 43 true,xg 47 (.bin .leq (.t 44) (.t 46)) 43 true,xo 48 (.pick (.t 43) (.t 47) (.c (V.bool false))),mv 4 48,mc 5 (V.bool true)]) (.ret))) (.skip))))))))))))) (Qe [4,5] (.reg [mc 4 (V.bool false),mc 5 (V.bool false)]) (.ret)))) def r_suitespec_group:List YF:=[.tmp 4,.tmp 5]
def yl (Γ:Env) (f:Nat):Prop:=∀ (s:Ji) (n:List UInt8),EvN Γ f [s.v,V.str n] (alK (wX n (Yk s.ci1 s.ci2) s.lo s.hi))
attribute [local go_sem] Ji.cells Ji.v in
theorem afz {Γ:Env} {f JI:Nat} (h:Has Γ.P f 49 (y6 JI) r_suitespec_group) (z0:W6 Γ JI):yl Γ f:=by
 intro s n
 refine Qj h zsi (by first|exact aid _|exact ak6 _) (by first|exact aid _|exact ak6 _) fun C hC hm=>?_
 subst hC
 unfold y6
 generalize hst:Yk s.ci1 s.ci2 = st
 by_cases hg:n∈acq
 ·simp only [acq,List.mem_cons,List.not_mem_nil,or_false] at hg
  rcases hg with rfl|rfl|rfl|rfl|rfl|rfl|rfl|rfl
  ·(have zx:=hst);refine zgo ?_;repeat' first|exact zt|apply zan|intro hc
   all_goals (simp only [wX,alK,if_true];refine QA _ rfl ?_;simp only [go_sem])
  ·(have zx:=hst);refine zgo ?_;repeat' first|exact zt|apply zan|intro hc
   all_goals (have e:wX [104,105,103,104] st s.lo s.hi = some (decide (st≥128)):=rfl;rw [e];simp only [alK];refine QA _ rfl ?_;simp only [go_sem])
  ·have e:wX [109,101,100,105,117,109] st s.lo s.hi = some (decide (st≥112) && decide (st < 128)):=rfl
   rw [e]
   rcases h1:decide (st≥112) with _|_<;>rcases h2:decide (st < 128) with _|_
   all_goals
    (have zx:=And.intro hst (And.intro h1 h2));refine zgo ?_;repeat' first|exact zt|apply zan|intro hc
    all_goals (simp only [alK,Bool.and_self,Bool.and_true,Bool.and_false,Bool.false_and,Bool.true_and];refine QA _ rfl ?_;simp only [go_sem])
  ·(have zx:=hst);refine zgo ?_;repeat' first|exact zt|apply zan|intro hc
   all_goals (have e:wX [108,111,119] st s.lo s.hi = some (decide (st < 112)):=rfl;rw [e];simp only [alK];refine QA _ rfl ?_;simp only [go_sem])
  ·have e:wX [118,49] st s.lo s.hi = some (decide (s.lo≤1) && decide (1≤s.hi)):=rfl
   have ew:IntKind.i64.wrap (IntKind.u8.wrap (((UInt8.toNat 49:Nat):Int) - 48)) = 1:=rfl
   rw [e]
   rcases h1:decide (s.lo≤1) with _|_<;>rcases h2:decide (1≤s.hi) with _|_
   all_goals
    (have zx:=And.intro hst (And.intro ew (And.intro h1 h2)));refine zgo ?_;repeat' first|exact zt|apply zan|intro hc
    all_goals (simp only [alK,Bool.and_self,Bool.and_true,Bool.and_false,Bool.false_and,Bool.true_and];refine QA _ rfl ?_;simp only [go_sem])
  ·have e:wX [118,50] st s.lo s.hi = some (decide (s.lo≤2) && decide (2≤s.hi)):=rfl
   have ew:IntKind.i64.wrap (IntKind.u8.wrap (((UInt8.toNat 50:Nat):Int) - 48)) = 2:=rfl
   rw [e]
   rcases h1:decide (s.lo≤2) with _|_<;>rcases h2:decide (2≤s.hi) with _|_
   all_goals
    (have zx:=And.intro hst (And.intro ew (And.intro h1 h2)));refine zgo ?_;repeat' first|exact zt|apply zan|intro hc
    all_goals (simp only [alK,Bool.and_self,Bool.and_true,Bool.and_false,Bool.false_and,Bool.true_and];refine QA _ rfl ?_;simp only [go_sem])
  ·have e:wX [118,51] st s.lo s.hi = some (decide (s.lo≤3) && decide (3≤s.hi)):=rfl
   have ew:IntKind.i64.wrap (IntKind.u8.wrap (((UInt8.toNat 51:Nat):Int) - 48)) = 3:=rfl
   rw [e]
   rcases h1:decide (s.lo≤3) with _|_<;>rcases h2:decide (3≤s.hi) with _|_
   all_goals
    (have zx:=And.intro hst (And.intro ew (And.intro h1 h2)));refine zgo ?_;repeat' first|exact zt|apply zan|intro hc
    all_goals (simp only [alK,Bool.and_self,Bool.and_true,Bool.and_false,Bool.false_and,Bool.true_and];refine QA _ rfl ?_;simp only [go_sem])
  ·have e:wX [118,52] st s.lo s.hi = some (decide (s.lo≤4) && decide (4≤s.hi)):=rfl
   have ew:IntKind.i64.wrap (IntKind.u8.wrap (((UInt8.toNat 52:Nat):Int) - 48)) = 4:=rfl
   rw [e]
   rcases h1:decide (s.lo≤4) with _|_<;>rcases h2:decide (4≤s.hi) with _|_
   all_goals
    (have zx:=And.intro hst (And.intro ew (And.intro h1 h2)));refine zgo ?_;repeat' first|exact zt|apply zan|intro hc
    all_goals (simp only [alK,Bool.and_self,Bool.and_true,Bool.and_false,Bool.false_and,Bool.true_and];refine QA _ rfl ?_;simp only [go_sem])
 ·rw [ajO st s.lo s.hi hg]
  simp only [acq,List.mem_cons,List.not_mem_nil,or_false,not_or] at hg
  obtain ⟨h1,h2,h3,h4,h5,h6,h7,h8⟩:=hg
  have g1:=beq_eq_false_iff_ne.2 h1
  have g2:=beq_eq_false_iff_ne.2 h2
  have g3:=beq_eq_false_iff_ne.2 h3
  have g4:=beq_eq_false_iff_ne.2 h4
  have g5:=beq_eq_false_iff_ne.2 h5
  have g6:=beq_eq_false_iff_ne.2 h6
  have g7:=beq_eq_false_iff_ne.2 h7
  have g8:=beq_eq_false_iff_ne.2 h8
  (have zx:=And.intro hst (And.intro g1 (And.intro g2 (And.intro g3 (And.intro g4 (And.intro g5 (And.intro g6 (And.intro g7 g8))))))));refine zgo ?_;repeat' first|exact zt|apply zan|intro hc
  all_goals (simp only [alK];refine QA _ rfl ?_;simp only [go_sem])
def aek (n:List UInt8) (s:Ji):Bool×Bool :=
 match wX n (Yk s.ci1 s.ci2) s.lo s.hi with
 | some b=>(b,true)
 | none=>((decide (jZ n 0 X8 > 0) && decide (KM (jZ n 0 X8) 0 [s.kx1,s.sg1,s.ci1,s.mc1]≥0)) || (decide (adt n > 0) && s.code == adt n),decide (jZ n 0 X8 > 0) || decide (adt n > 0))
def aej (n:List UInt8) (s:Ji):Bool :=
 match wX n (ahI s.code) s.lo s.hi with
 | some b=>b
 | none=>(decide (jZ n 0 X8 > 0) && (s.kx1 == jZ n 0 X8 || s.sg1 == jZ n 0 X8 || s.ci1 == jZ n 0 X8 || s.mc1 == jZ n 0 X8)) || s.name == n
def anl (p:Bool×Bool):V:=.tup [V.bool p.1,V.bool p.2]
def y5 (KO Wf xH Qh:Nat):AC:=Qe [1,2] (.reg [xo 2 (.box true 12 (.t 0)),mc 4 (V.bool false),mc 5 (V.bool false)]) (Qe [1,2] (Qe [1,2,6,7] (.reg [xo 12 (.load true 12 (.t 2)),mv 13 1,cl 14 KO [12,13],mv 11 14,ex 15 11 0,ex 16 11 1,mv 6 15,mv 7 16]) (Qe [1,2,6,17] (.reg [mv 17 7]) (.cond (.t 17) (Qe [4,5] (.reg [mv 18 6,mv 4 18,mc 5 (V.bool true)]) (.ret)) (.skip)))) (Qe [2,8,9] (.reg [mv 19 1,cl 20 Wf [19],mv 21 1,cl 22 xH [21],mv 8 20,mv 9 22]) (Qe [2,8,9,10] (.reg [fa 23 2 2,fa 24 0 23,ld 25 1 24,fa 26 4 2,fa 27 0 26,ld 28 1 27,fa 29 6 2,fa 30 0 29,ld 31 1 30,fa 32 8 2,fa 33 0 32,ld 34 1 33,xo 35 (.bslice 4 1 false [(.int .i64 0)] [(0,(.t 25)),(1,(.t 28)),(2,(.t 31)),(3,(.t 34))]),mv 10 35]) (Qe [4,5] (.reg [mv 36 8,bc 37 .gtr 36 (V.int 0),mv 38 37,mg 39 10 38 true,mg 40 8 38 true,xg 41 (.call Qh [(.t 39),(.t 40)]) 38 true,xo 42 (.pick (.t 38) (.t 41) (.c (V.bool false))),mv 43 42,mg 44 9 43 false,xg 45 (.bin .gtr (.t 44) (.c (V.int 0))) 43 false,mg 46 45 43 false,xg 47 (.faddr 0 (.t 2)) 46 true,xg 48 (.load false 1 (.t 47)) 46 true,mg 49 9 46 true,xg 50 (.bin .eql (.t 48) (.t 49)) 46 true,xg 51 (.pick (.t 46) (.t 50) (.c (V.bool false))) 43 false,xo 52 (.pick (.t 43) (.c (V.bool true)) (.t 51)),mv 53 8,bc 54 .gtr 53 (V.int 0),mv 55 54,mg 56 9 55 false,xg 57 (.bin .gtr (.t 56) (.c (V.int 0))) 55 false,xo 58 (.pick (.t 55) (.c (V.bool true)) (.t 57)),mv 4 52,mv 5 58]) (.ret))))) def r_suitespec_named:List YF:=[.tmp 4,.tmp 5]
def yk (Γ:Env) (f:Nat):Prop:=∀ (s:Ji) (n:List UInt8),EvN Γ f [s.v,V.str n] (anl (aek n s))
attribute [local go_sem] Ji.cells Ji.v in
theorem afy {Γ:Env} {f KO Wf xH Qh:Nat} (h:Has Γ.P f 59 (y5 KO Wf xH Qh) r_suitespec_named) (z0:yl Γ KO) (z1:yC Γ Wf) (z2:aam Γ xH) (z3:JJ Γ Qh):yk Γ f:=by
 intro s n
 refine Qj h zsi (by simp only [anl,V.closed,closedL,V.noSl,abR,and_self]) (by simp only [anl,V.closed,closedL,V.noSl,abR,and_self]) fun C hC hm=>?_
 subst hC
 unfold y5
 have hg:=(z0 s n).b
 rcases hn:wX n (Yk s.ci1 s.ci2) s.lo s.hi with _|b
 ·have e:aek n s = ((decide (jZ n 0 X8 > 0) && decide (KM (jZ n 0 X8) 0 [s.kx1,s.sg1,s.ci1,s.mc1]≥0)) || (decide (adt n > 0) && s.code == adt n),decide (jZ n 0 X8 > 0) || decide (adt n > 0)):=by rw [aek,hn]
  rw [e]
  rw [hn] at hg
  simp only [alK,Ji.v,Ji.cells] at hg
  have hf:=(z3 [s.kx1,s.sg1,s.ci1,s.mc1] (jZ n 0 X8) (by simp)).b
  simp only [List.map_cons,List.map_nil] at hf
  rcases h1:decide (jZ n 0 X8 > 0) with _|_<;>rcases h2:decide (adt n > 0) with _|_<;>rcases h3:decide (KM (jZ n 0 X8) 0 [s.kx1,s.sg1,s.ci1,s.mc1]≥0) with _|_
  all_goals
   rw [h3] at hf
   (have zx:=And.intro h1 h2);refine zgo ?_;repeat' first|exact zt|apply zan|intro hc
   all_goals first|(simp only [anl,Bool.and_self,Bool.and_true,Bool.and_false,Bool.false_and,Bool.true_and,Bool.or_self,Bool.or_true,Bool.or_false,Bool.false_or,Bool.true_or];refine QA _ rfl ?_;simp only [go_sem];done)
 ·have e:aek n s = (b,true):=by rw [aek,hn]
  rw [e]
  rw [hn] at hg
  simp only [alK,Ji.v,Ji.cells] at hg
  refine zgo ?_;repeat' first|exact zt|apply zan|intro hc
  all_goals first|(simp only [anl];refine QA _ rfl ?_;simp only [go_sem];done)
end Av
end
section
set_option linter.unusedSimpArgs false
set_option linter.unusedVariables false
set_option maxRecDepth 10000
set_option maxHeartbeats 4000000
namespace Av
open Go
attribute [local irreducible] AWp VV UQ Ko awS awC jF awQ yc Jb XH jD awR XT awB okR Wy ris
end Av
end
section
set_option linter.unusedSimpArgs false
set_option linter.unusedVariables false
set_option maxRecDepth 10000
set_option maxHeartbeats 4000000
namespace Av
open Go
attribute [local irreducible] AWp VV UQ Ko awS awC jF awQ yc Jb XH jD awR XT awB okR Wy ris
theorem amI {α:Type} (p:α→Bool):∀ (l:List α) (k:Nat),0≤ac3 p k l→∃ j x,l[j]? = some x∧p x = true∧ac3 p k l = ((k + j:Nat):Int)
 | [],k,h=>by simp [ac3] at h
 | x :: r,k,h=>by
   by_cases hx:p x = true
   ·exact ⟨0,x,rfl,hx,by simp [ac3,hx]⟩
   ·have e:ac3 p k (x :: r) = ac3 p (k + 1) r:=by simp [ac3,hx]
    rw [e] at h ⊢
    obtain ⟨j,y,h1,h2,h3⟩:=amI p r (k + 1) h
    exact ⟨j + 1,y,by simpa using h1,h2,by rw [h3];congr 1;omega⟩
theorem vI (x:Int):∀ (l:List Int) (k:Nat),0≤KM x k l↔x∈l
 | [],k=>by simp [KM]
 | y :: r,k=>by
   by_cases hy:y = x
   ·subst hy;simp [KM]
   ·have:=vI x r (k + 1)
    have e:KM x k (y :: r) = KM x (k + 1) r:=by rw [KM,if_neg (fun h=>hy h.symm)]
    rw [e,this,List.mem_cons]
    exact ⟨Or.inr,fun h=>h.elim (fun h=>absurd h.symm hy) id⟩
theorem apd:∀ s∈J3,adt s.name = s.code:=by decide
theorem alO:∀ s∈J3,ahI s.code = Yk s.ci1 s.ci2:=by decide
theorem anT {s:Ji} (hs:s∈J3) (n:List UInt8):(decide (adt n > 0) && s.code == adt n) = (s.name == n):=by
 by_cases h:s.name = n
 ·subst h
  have h1:=apd s hs
  obtain ⟨k,hk,hg⟩:=List.getElem_of_mem hs
  have h2:=amV k hk s (by rw [List.getElem?_eq_getElem hk,hg])
  have h3:adt s.name > 0:=by rw [h1,h2];omega
  simp [h3,h1];omega
 ·have e:(s.name == n) = false:=by simpa using h
  rw [e,Bool.and_eq_false_iff]
  by_cases h0:adt n > 0
  ·right
   simp only [beq_eq_false_iff_ne,ne_eq]
   intro hc
   obtain ⟨j,x,h1,h2,h3⟩:=amI (fun s:Ji=>s.name == n) J3 0 (by unfold adt at h0;omega)
   obtain ⟨k,hk,hg⟩:=List.getElem_of_mem hs
   have h4:=amV k hk s (by rw [List.getElem?_eq_getElem hk,hg])
   have hkj:k = j:=by unfold adt at hc;omega
   subst hkj
   rw [List.getElem?_eq_getElem hk,hg] at h1
   cases h1
   exact h (by simpa using h2)
  ·left;simpa using h0
theorem anF {n:List UInt8} (st lo hi:Int) (h:n∈acq):∃ b,wX n st lo hi = some b:=by
 simp only [acq,List.mem_cons,List.not_mem_nil,or_false] at h
 rcases h with rfl|rfl|rfl|rfl|rfl|rfl|rfl|rfl<;>exact ⟨_,rfl⟩
theorem al2 {n:List UInt8} {s:Ji}:(aek n s).2 = abT n:=by
 by_cases h:n∈acq
 ·obtain ⟨b,hb⟩:=anF (Yk s.ci1 s.ci2) s.lo s.hi h
  rw [aek,hb,abT];simp [h]
 ·rw [aek,ajO _ _ _ h,abT];simp [h]
theorem anz {s:Ji} (hs:s∈J3) (n:List UInt8):aej n s = (aek n s).1:=by
 have h1:=alO s hs
 have h2:=anT hs n
 have h3:decide (KM (jZ n 0 X8) 0 [s.kx1,s.sg1,s.ci1,s.mc1]≥0) = (s.kx1 == jZ n 0 X8 || s.sg1 == jZ n 0 X8 || s.ci1 == jZ n 0 X8 || s.mc1 == jZ n 0 X8):=by
  rw [Bool.eq_iff_iff]
  simp only [decide_eq_true_eq,ge_iff_le,vI,List.mem_cons,List.not_mem_nil,or_false,Bool.or_eq_true,beq_iff_eq]
  constructor
  ·rintro (h|h|h|h)<;>simp [h]
  ·rintro (((h|h)|h)|h)<;>simp [h]
 rw [aej,aek,h1]
 cases wX n (Yk s.ci1 s.ci2) s.lo s.hi with
 | some b=>rfl
 | none=>simp only [h2,h3]
end Av
end
section
set_option linter.unusedSimpArgs false
set_option linter.unusedVariables false
set_option maxRecDepth 10000
set_option maxHeartbeats 4000000
namespace Av
open Go
attribute [local irreducible] AWp VV UQ Ko awS awC jF awQ yc Jb XH jD awR XT awB okR Wy ris
def Vi (c:UInt8):List UInt8→List UInt8→List (List UInt8)
 | cur,[]=>[cur]
 | cur,x :: r=>if x = c then cur :: Vi c [] r else Vi c (cur++[x]) r
def Xp (c:UInt8) (s:List UInt8):List (List UInt8):=Vi c [] s
theorem akP (c:UInt8):∀ (r cur:List UInt8),Vi c cur r≠[]
 | [],cur=>by simp [Vi]
 | x :: r,cur=>by
   rw [Vi];split
   ·simp
   ·exact akP c r _
end Av
end
section
set_option linter.unusedSimpArgs false
set_option linter.unusedVariables false
set_option maxRecDepth 10000
set_option maxHeartbeats 4000000
namespace Av
open Go
attribute [local irreducible] AWp VV UQ Ko awS awC jF awQ yc Jb XH jD awR XT awB okR Wy ris
theorem af9 (c:UInt8):∀ (r cur:List UInt8),(Vi c cur r).length≤r.length + 1
 | [],cur=>by simp [Vi]
 | x :: r,cur=>by
   rw [Vi];split
   ·have:=af9 c r [];simp;omega
   ·have:=af9 c r (cur++[x]);simp;omega
theorem ajv (c:UInt8) (s:List UInt8):(Xp c s).length≤s.length + 1:=af9 c s []
def ap9 (L:List (List UInt8)) (x:Ji):Bool:=L.all fun n=>aej n x
def y4 (L:List (List UInt8)) (xs:List Ji):List Int:=(xs.filter (ap9 L)).map Ji.code
theorem alu (L:List (List UInt8)) (k:Nat) (x:Ji) (h:J3[k]? = some x):y4 L (J3.take (k + 1)) = y4 L (J3.take k)++(if ap9 L x = true then [x.code] else []):=by
 rw [y4,y4,List.take_add_one,h,List.filter_append,List.map_append]
 congr 1
 by_cases hx:ap9 L x = true<;>simp [hx]
def ahK (s:List UInt8):List Int×Bool:=if (Xp 43 s).all abT then (y4 (Xp 43 s) J3,true) else ([],false)
end Av
end
section
namespace Av
open Go
structure EvW (Γ:Env) (f:FuncId) (args:List V) (sz:Nat) (xs:List V):Prop where
 ev:Ev Γ f args [] (.hd 0 0 xs.length) [.buf true sz xs]
 ns:∀ x∈xs,x.noSl
theorem aii (l:List Int):∀ x∈l.map V.int,x.noSl:=by
 intro x hx;simp only [List.mem_map] at hx;obtain ⟨y,_,rfl⟩:=hx;simp only [V.noSl]
theorem ahV (l:List (List UInt8)):∀ x∈l.map V.str,x.noSl:=by
 intro x hx;simp only [List.mem_map] at hx;obtain ⟨y,_,rfl⟩:=hx;simp only [V.noSl]
theorem asU {Γ:Env} {b:Nat} {r:List AO} {s:St} {d:Option Nat} {f:FuncId} {acts xs:List V} {sz:Nat} {K:St→Prop} (h:EvW Γ f (Wh s.o acts) sz xs) (hc:JL s.o none acts)
  (hk:VV Γ (b + KK) r { t:=(s.put d (.hd b 0 xs.length)).t,o:=upd s.o b (some (.buf true sz xs)),n:=s.n } K):awC Γ b r s d f acts K:=by
 refine UK ⟨_,_,_,_,[],none,h.ev,WP _ _ _ hc,trivial,List.nodup_nil,fun x hx=>by simp at hx,by simp,by simp [KK],fun _=>⟨by simp only [V.noSl],fun x hx=>?_⟩,?_⟩
 ·simp only [List.mem_singleton] at hx;subst hx;exact h.ns
 ·simp only [UG,UZ,Ob.ren,V.ren,sig]
  exact hk
theorem asr {Γ:Env} {A W:Nat→Bool} {b:Nat} {s:St} {d:Option Nat} {f:FuncId} {acts xs:List V} {sz:Nat} {J:St→Prop} (h:EvW Γ f (Wh (XW A s.o) acts) sz xs) (hc:JL (XW A s.o) none acts)
  (hk:J { t:=(s.put d (.hd b 0 xs.length)).t,o:=upd s.o b (some (.buf true sz xs)),n:=s.n }):Jb Γ A W b s d f acts J:=by
 refine ⟨_,_,_,_,[],none,h.ev,WP _ _ _ hc,trivial,List.nodup_nil,fun x hx=>by simp at hx,by simp,by simp [KK],fun _=>⟨by simp only [V.noSl],fun x hx=>?_⟩,fun l h=>by simp at h,?_⟩
 ·simp only [List.mem_singleton] at hx;subst hx;exact h.ns
 ·simp only [UG,UZ,Ob.ren,V.ren,sig]
  exact hk
theorem Vw {Γ:Env} {b:Nat} {r:List AO} {s:St} {d:Option Nat} {f:FuncId} {acts args xs:List V} {sz:Nat} {K:St→Prop} {okf:Option (List Nat)→Prop} (h:EvW Γ f args sz xs) (hc:okf none)
  (hk:VV Γ (b + KK) r { t:=(s.put d (.hd b 0 xs.length)).t,o:=upd s.o b (some (.buf true sz xs)),n:=s.n } K):an4 Γ b r s d f acts args okf K:=by
 rintro rfl rfl;exact asU h hc hk
theorem XU {Γ:Env} {A W:Nat→Bool} {b:Nat} {s:St} {d:Option Nat} {f:FuncId} {acts args xs:List V} {sz:Nat} {J:St→Prop} {okf:Option (List Nat)→Prop} (h:EvW Γ f args sz xs) (hc:okf none)
  (hk:J { t:=(s.put d (.hd b 0 xs.length)).t,o:=upd s.o b (some (.buf true sz xs)),n:=s.n }):alD Γ A W b s d f acts args okf J:=by
 rintro rfl rfl;exact asr h hc hk
theorem aeY {Γ:Env} {f:FuncId} {nt:Nat} {ac:AC} {rs:List YF} (hb:Has Γ.P f nt ac rs) {args xs:List V} {sz:Nat} (ha:args.length≤nt) (hn:∀ x∈xs,x.noSl)
  (h:∀ C:Ctx,C.env = Γ→C.m = 0→AWp C nt ac (Uv args []) (aeo 0 rs (.hd 0 0 xs.length) [.buf true sz xs]) (fun _ _=>False) (aeo 0 rs (.hd 0 0 xs.length) [.buf true sz xs])):EvW Γ f args sz xs :=
 ⟨UO hb ha h,hn⟩
theorem alp {rs:List YF} {s:St} {xs:List V} {sz:Nat} (a n:Nat) (h:ahn s rs = some [.hd a 0 n]) (hn:n = xs.length) (ho:s.o a = some (.buf true sz xs)):aeo 0 rs (.hd 0 0 xs.length) [.buf true sz xs] s:=by
 subst hn
 exact w6 rs _ _ h ⟨[a],none,by simp [amO,conv],⟨⟨_,ho,fun h=>h,rfl,rfl⟩,trivial⟩,by simp,rfl⟩
end Av
end
section
set_option linter.unusedSimpArgs false
set_option linter.unusedVariables false
set_option maxRecDepth 10000
set_option maxHeartbeats 4000000
namespace Av
open Go
attribute [local irreducible] AWp VV UQ Ko awS awC jF awQ yc Jb XH jD awR XT awB okR Wy ris
def QL (l some:List Int):List Int:=l.filter fun x=>!some.contains x
theorem ae8 {l m:List Int} {k:Nat} {x:Int} (h:l[k]? = some x):QL (l.take (k + 1)) m = QL (l.take k) m++(if m.contains x = true then [] else [x]):=by
 rw [QL,QL,List.take_add_one,h,List.filter_append]
 congr 1
 by_cases hx:m.contains x = true<;>simp at hx<;>simp [hx]
theorem Ke (l m:List Int):(QL l m).length≤l.length:=List.length_filter_le _ _
end Av
end
section
set_option linter.unusedSimpArgs false
set_option linter.unusedVariables false
set_option maxRecDepth 10000
set_option maxHeartbeats 4000000
namespace Av
open Go
attribute [local irreducible] AWp VV UQ Ko awS awC jF awQ yc Jb XH jD awR XT awB okR Wy ris
def arg (out:List Int) (x:Int):Nat→Nat
 | 0=>0
 | k + 1=>if ahI (out.getD k 0) < ahI x then arg out x k else k + 1
theorem ao0 (out:List Int) (x:Int):∀ k,arg out x k≤k
 | 0=>Nat.le_refl _
 | k + 1=>by
   rw [arg];split
   ·exact Nat.le_succ_of_le (ao0 out x k)
   ·exact Nat.le_refl _
def ap6 (out:List Int) (x:Int):List Int:=out.take (arg out x out.length)++[x]++out.drop (arg out x out.length)
theorem ap5 (out:List Int) (x:Int):(ap6 out x).length = out.length + 1:=by
 have:=ao0 out x out.length
 simp [ap6];omega
def aj5 (l:List Int):List Int:=l.foldl ap6 []
theorem ali:∀ (l out:List Int),(l.foldl ap6 out).length = out.length + l.length
 | [],out=>by simp
 | x :: r,out=>by rw [List.foldl_cons,ali r,ap5];simp;omega
theorem akQ (l:List Int):(aj5 l).length = l.length:=by rw [aj5,ali];simp
end Av
end
section
set_option linter.unusedSimpArgs false
set_option linter.unusedVariables false
set_option maxRecDepth 10000
set_option maxHeartbeats 4000000
namespace Av
open Go
attribute [local irreducible] AWp VV UQ Ko awS awC jF awQ yc Jb XH jD awR XT awB okR Wy ris
def wt (c:Int):List UInt8:=(XI c).name++if (XI c).name = [99,104,97,99,104,97] then [43,118,52] else []
def vr:List Int→List Int→List UInt8→Option (List UInt8)
 | _,[],s=>some s
 | p,x :: r,s=>if p.contains x = true then none else vr (p++[x]) r ((if p = [] then s else s++[58])++wt x)
def aec (c:Int):Bool:=decide (c < 1) || decide (c > 16)
def jQ (l:List Int):V:=if l.any aec = true then .tup [V.str [],V.int 8] else match vr [] l [] with
 | none=>.tup [V.str [],V.int 5]
 | some s=>.tup [V.str s,V.int 0]
theorem afh (c:Int):(wt c).length≤40:=by
 have h:∀ s∈J3,s.name.length≤30:=by decide
 have h2:(XI c).name.length≤30:=by
  unfold XI;split
  ·rename_i hc
   have hk:(c - 1).toNat < J3.length:=by rw [KI];omega
   rw [List.getD_eq_getElem?_getD,List.getElem?_eq_getElem hk,Option.getD_some]
   exact h _ (List.getElem_mem hk)
  ·simp [acS]
 unfold wt
 rw [List.length_append]
 split<;>simp<;>omega
theorem w4 (l:List Int):(jQ l).closed:=by
 unfold jQ;split
 ·simp only [V.closed,closedL,and_self]
 ·split<;>simp only [V.closed,closedL,and_self]
theorem acg (l:List Int):(jQ l).noSl:=by
 unfold jQ;split
 ·simp only [V.noSl,abR,and_self]
 ·split<;>simp only [V.noSl,abR,and_self]
def vy (JB:Nat):List AO:=[mv 33 0,mv 34 6,xo 35 (.slsl 1 (.t 33) none (some (.t 34))),mv 36 0,mv 37 6,ia 38 1 36 37,ld 39 1 38,cl 40 JB [35,39]]
def aab:List (List Nat):=[[],[],[0,1],[],[],[3,4],[5],[2,6]]
def vm:OT:=.one 0 (.one 1 (.one 2 (.one 3 (.one 4 (.one 5 (.one 6 (.one 7 (.done))))))))
@[go_sem] def Xi (JB:Nat):OP:=.one 0 false [] (mv 33 0) (.one 1 false [] (mv 34 6) (.one 2 false [] (xo 35 (.slsl 1 (.t 33) none (some (.t 34)))) (.one 3 false [] (mv 36 0) (.one 4 false [] (mv 37 6) (.one 5 false [] (ia 38 1 36 37) (.one 6 false [] (ld 39 1 38) (.one 7 false [] (cl 40 JB [35,39]) (.done))))))))
theorem Wl (JB:Nat):okR (vy JB) aab [] vm = true:=by kernel_rfl
theorem Wi (JB:Nat):Wy (ris (vy JB) aab []) vm = Xi JB:=by kernel_rfl def c_ref08_Print (JB WK:Nat):AC:=Qe [0] (.reg [mc 2 (V.str []),mc 3 (V.int 0)]) (Qe [0] (Qe [0,4] (.reg [mc 4 (V.int 0)]) (.block 0 (Xw [0,4] (Qe [0,4] (Qe [0,4,12] (.reg [mv 9 4,mv 10 0,ln 11 10,bn 12 .lss 9 11]) (.cond (.t 12) (.skip) (.exit 0))) (Qe [0,4] (.block 1 (Qe [0,4,26] (.reg [mv 15 0,mv 16 4,ia 17 1 15 16,ld 18 1 17,bc 19 .lss 18 (V.int 1),mv 20 19,mg 21 0 20 false,mg 22 4 20 false,xg 23 (.iaddr 1 (.t 21) (.t 22)) 20 false,xg 24 (.load false 1 (.t 23)) 20 false,xg 25 (.bin .gtr (.t 24) (.c (V.int 16))) 20 false,xo 26 (.pick (.t 20) (.c (V.bool true)) (.t 25))]) (.cond (.t 26) (Qe [2,3] (.reg [mc 2 (V.str []),mc 3 (V.int 8)]) (.ret)) (.skip)))) (.reg [mv 13 4,bc 14 .add 13 (V.int 1),mv 4 14])))))) (Qe [0,5] (.reg [mc 5 (V.str [])]) (Qe [5] (Qe [0,5,6] (.reg [mc 6 (V.int 0)]) (.block 2 (Xw [0,5,6] (Qe [0,5,6] (Qe [0,5,6,30] (.reg [mv 27 6,mv 28 0,ln 29 28,bn 30 .lss 27 29]) (.cond (.t 30) (.skip) (.exit 2))) (Qe [0,5,6] (.block 3 (Qe [0,5,6] (Qe [0,5,6,40] (ace [] vm (Xi JB) (vy JB) aab) (.cond (.t 40) (Qe [2,3] (.reg [mc 2 (V.str []),mc 3 (V.int 5)]) (.ret)) (.skip))) (Qe [0,5,6,7] (.reg [mv 42 0,mv 43 6,ia 44 1 42 43,ld 45 1 44,cl 46 WK [45],mv 41 46,ex 47 41 0,ex 48 41 1,xo 7 (.alloc [.val (.int .i64 0),.val (.string ⟨#[]⟩),.val (.int .i64 0),.val (.int .i64 0),.val (.int .i64 0),.val (.int .i64 0),.val (.int .i64 0),.val (.int .i64 0),.val (.int .i64 0),.val (.int .i64 0),.val (.int .i64 0),.val (.int .i64 0)]),xs 12 7 47,mv 8 48]) (Qe [0,5,6,7] (Qe [0,5,6,7,50] (.reg [mv 49 6,bc 50 .gtr 49 (V.int 0)]) (.cond (.t 50) (.reg [mv 51 5,bc 52 .add 51 (V.str [58]),mv 5 52]) (.skip))) (Qe [0,5,6,7] (.reg [mv 53 5,fa 54 1 7,ld 55 1 54,bn 56 .add 53 55,mv 5 56]) (Qe [0,5,6,59] (.reg [fa 57 1 7,ld 58 1 57,bc 59 .eql 58 (V.str [99,104,97,99,104,97])]) (.cond (.t 59) (.reg [mv 60 5,bc 61 .add 60 (V.str [43,118,52]),mv 5 61]) (.skip)))))))) (.reg [mv 31 6,bc 32 .add 31 (V.int 1),mv 6 32])))))) (Qe [2,3] (.reg [mv 62 5,mv 2 62,mc 3 (V.int 0)]) (.ret))))) def r_ref08_Print:List YF:=[.tmp 2,.tmp 3]
def aby (Γ:Env) (f:Nat):Prop:=∀ (l:List Int) (hl:l.length < 2 ^ 30),EvN Γ f [.sl 1 (l.map V.int)] (jQ l)
theorem ajd {Γ:Env} {f JB WK:Nat} (h:Has Γ.P f 63 (c_ref08_Print JB WK) r_ref08_Print) (z0:aa6 Γ JB) (z1:xM Γ WK):aby Γ f:=by
 intro l hl
 refine Qj h zsi (by first|exact w4 _|exact acg _) (by first|exact w4 _|exact acg _) fun C hC hm=>?_
 subst hC
 unfold c_ref08_Print
 repeat' (first|(refine zsk ?_;intro K' hK)|(refine zrt 8 (Wl _) (Wi _) ?_;intro K' hK)|refine zsp ?_|(refine zsc ?_ ?_<;>intro hc<;>first|exact znh|try simp only [znz] at hc)|simp (maxSteps:=1000000) only [go_sem,Xi]|(refine hK _ ?_;clear hK K')|apply zan|((first|apply Ql|apply Qi);(focus first|exact (z0 _ _ zsd).b|exact (z1 _).b))|exact zsq|fail)
 refine JM (ι:=Nat) (fun k=>k≤l.length∧(l.drop k).any aec = l.any aec) (fun k=>[(4,V.int k)]) (fun k=>l.length - k) 0 (by omega) ⟨by simp,by simp⟩ (by repeat' first|exact Yb|refine YR (by omega) (by simp only [Ob.lt,ltL,V.lt,and_self,and_true];try omega) ?_) (fun i hi=>by simp only [ovT,Q9,Nat.reduceEqDiff,reduceIte];(repeat' first|exact YQ|refine Ya ?_ ?_|simp only [V.lt,ltL,and_self,and_true]|omega)) (by simp only [Nat.reduceAdd,ovT,Q9,Nat.reduceEqDiff,reduceIte,Qt,Q0,Uh,u32,u33,u34,u35,u36,u37,u38,u39,and_self,and_true,true_and];rfl) fun k hk K' hL=>?_
 obtain ⟨hk,hinv⟩:=hk
 simp only [ovT,Q9,Nat.reduceEqDiff,reduceIte]
 rcases hd:l.drop k with _|⟨x,r⟩
 ·have hkl:=Ja hd
  rw [hd] at hinv
  have e1:decide ((k:Int) < (((l.map V.int).length:Nat):Int)) = false:=by simp;omega
  have hgood:l.any aec = false:=by rw [← hinv];rfl
  have hp:jQ l = (match vr [] l [] with
   | none=>.tup [V.str [],V.int 5]
   | some s=>.tup [V.str s,V.int 0]):=by rw [jQ,if_neg (by rw [hgood];simp)]
  rw [hp]
  repeat' (first|(refine zsk ?_;intro K' hK)|(refine zrt 8 (Wl _) (Wi _) ?_;intro K' hK)|refine zsp ?_|(refine zsc ?_ ?_<;>intro hc<;>first|exact znh|try simp only [znz] at hc)|simp (maxSteps:=1000000) only [go_sem,e1,Xi]|(refine hK _ ?_;clear hK K')|apply zan|((first|apply Ql|apply Qi);(focus first|exact (z0 _ _ zsd).b|exact (z1 _).b))|exact zsq|fail)
  refine JM (ι:=Nat×List UInt8) (fun p=>p.1≤l.length∧p.2.length≤p.1 * 41∧vr (l.take p.1) (l.drop p.1) p.2 = vr [] l []) (fun p=>[(5,V.str p.2),(6,V.int p.1)]) (fun p=>l.length - p.1) (0,[]) (by omega) ⟨by simp,by simp,by simp⟩ (by repeat' first|exact Yb|refine YR (by omega) (by simp only [Ob.lt,ltL,V.lt,and_self,and_true];try omega) ?_) (fun i hi=>by simp only [ovT,Q9,Nat.reduceEqDiff,reduceIte];(repeat' first|exact YQ|refine Ya ?_ ?_|simp only [V.lt,ltL,and_self,and_true]|omega)) (by simp only [Nat.reduceAdd,ovT,Q9,Nat.reduceEqDiff,reduceIte,Qt,Q0,Uh,u32,u33,u34,u35,u36,u37,u38,u39,and_self,and_true,true_and];first|done|rfl|exact ⟨rfl,rfl⟩) fun p hp K'' hL2=>?_
  obtain ⟨j,s⟩:=p
  obtain ⟨hj,hs,hinv2⟩:=hp
  simp only at hj hs hinv2
  simp only [ovT,Q9,Nat.reduceEqDiff,reduceIte]
  rcases hd2:l.drop j with _|⟨x,r⟩
  ·have hjl:=Ja hd2
   have e2:decide ((j:Int) < (((l.map V.int).length:Nat):Int)) = false:=by simp;omega
   rw [hd2,vr] at hinv2
   rw [← hinv2]
   repeat' (first|(refine zsk ?_;intro K' hK)|(refine zrt 8 (Wl _) (Wi _) ?_;intro K' hK)|refine zsp ?_|(refine zsc ?_ ?_<;>intro hc<;>first|exact znh|try simp only [znz] at hc)|simp (maxSteps:=1000000) only [go_sem,e2,Xi]|(refine hK _ ?_;clear hK K')|apply zan|((first|apply Ql|apply Qi);(focus first|exact (z0 _ _ zsd).b|exact (z1 _).b))|exact zsq|fail)
   all_goals (refine QA _ rfl ?_;simp only [go_sem])
  ·obtain ⟨hj',hget,hr⟩:=QK hd2
   have hw:=QP (k:=j) (by omega)
   have e2:decide ((j:Int) < (((l.map V.int).length:Nat):Int)) = true:=by simp;omega
   have hx:aec x = false:=by
    have h9:∀ y∈l,aec y = false:=by simpa using hgood
    exact h9 x (List.mem_of_getElem? hget)
   have hx2:1≤x∧x≤16:=by simp only [aec,Bool.or_eq_false_iff,decide_eq_false_iff_not] at hx;omega
   have hsv:Va x = .tup [(XI x).v,V.int 0]:=by rw [Va,if_pos hx2]
   have hnl:=afh x
   rw [hd2,vr] at hinv2
   have hA:List.take (j - 0) (l.map V.int) = (l.take j).map V.int:=by rw [Nat.sub_zero,List.map_take]
   have hh:=(z0 (l.take j) x (by rw [List.length_take];omega)).b
   rcases hct:(l.take j).contains x with _|_
   ·rw [hct] at hinv2 hh
    simp only [Bool.false_eq_true,if_false] at hinv2
    have hnn:(XI x).name.length≤40:=by unfold wt at hnl;simp at hnl;omega
    have hr2:l.take (j + 1) = l.take j++[x]:=by rw [List.take_add_one,hget];rfl
    have hs2:((if l.take j = [] then s else s++[58])++wt x).length≤(j + 1) * 41:=by
     have h3:(if l.take j = [] then s else s++[58]).length≤s.length + 1:=by split<;>simp
     rw [List.length_append];omega
    repeat' (first|(refine zsk ?_;intro K' hK)|(refine zrt 8 (Wl _) (Wi _) ?_;intro K' hK)|refine zsp ?_|(refine zsc ?_ ?_<;>intro hc<;>first|exact znh|try simp only [znz] at hc)|simp (maxSteps:=1000000) only [go_sem,e2,hA,hsv,hw,Int.toNat_natCast,List.getElem?_map,hget,Ji.v,Ji.cells,Xi]|(refine hK _ ?_;clear hK K')|apply zan|((first|apply Ql|apply Qi);(focus first|exact hh|exact (z0 _ _ zsd).b|exact (z1 _).b))|exact zsq|fail)
    all_goals first
     | (simp;omega)
     | (refine hL2 _ (j + 1,(if l.take j = [] then s else s++[58])++wt x) (by simp only [Nat.reduceAdd,ovT,Q9,Nat.reduceEqDiff,reduceIte,Qt,Q0,Uh,u32,u33,u34,u35,u36,u37,u38,u39,and_self,and_true,true_and];have hln:¬ l = []:=(fun h=>by rw [h] at hj';exact absurd hj' (Nat.not_lt_zero _));by_cases hj0:j = 0<;>first|(simp_all [wt];done)|(exfalso;omega)) ⟨by simp only;omega,hs2,by simp only;rw [hr2,hr];exact hinv2⟩ (by simp only;omega) (fun a ha=>by simp only [u32,u33,u34,u35,u36,u37,u38,u39];repeat rw [if_neg (by omega)]))
   ·rw [hct,if_pos rfl] at hinv2
    rw [hct] at hh
    rw [← hinv2]
    repeat' (first|(refine zsk ?_;intro K' hK)|(refine zrt 8 (Wl _) (Wi _) ?_;intro K' hK)|refine zsp ?_|(refine zsc ?_ ?_<;>intro hc<;>first|exact znh|try simp only [znz] at hc)|simp (maxSteps:=1000000) only [go_sem,e2,hA,Int.toNat_natCast,List.getElem?_map,hget,Xi]|(refine hK _ ?_;clear hK K')|apply zan|((first|apply Ql|apply Qi);(focus first|exact hh|exact (z0 _ _ zsd).b|exact (z1 _).b))|exact zsq|fail)
    all_goals first|exact zr
 ·obtain ⟨hk',hget,hr⟩:=QK hd
  rw [hd] at hinv
  have hw:=QP (k:=k) (by omega)
  have e1:decide ((k:Int) < (((l.map V.int).length:Nat):Int)) = true:=by simp;omega
  rcases h1:decide (x < 1) with _|_
  ·rcases h2:decide (x > 16) with _|_
   ·repeat' (first|(refine zsk ?_;intro K' hK)|(refine zrt 8 (Wl _) (Wi _) ?_;intro K' hK)|refine zsp ?_|(refine zsc ?_ ?_<;>intro hc<;>first|exact znh|try simp only [znz] at hc)|simp (maxSteps:=1000000) only [go_sem,Int.toNat_natCast,List.getElem?_map,hget,hw,e1,h1,h2,Xi]|(refine hK _ ?_;clear hK K')|apply zan|((first|apply Ql|apply Qi);(focus first|exact (z0 _ _ zsd).b|exact (z1 _).b))|exact zsq|fail)
    all_goals
     refine hL _ (k + 1) (by simp only [Nat.reduceAdd,ovT,Q9,Nat.reduceEqDiff,reduceIte,Qt,Q0,Uh,u32,u33,u34,u35,u36,u37,u38,u39,and_self,and_true,true_and]) ⟨by omega,?_⟩ (by omega) (fun a ha=>by simp only [u32,u33,u34,u35,u36,u37,u38,u39];repeat rw [if_neg (by omega)])
     rw [hr,← hinv];simp only [List.any_cons,aec,h1,h2,Bool.or_self,Bool.false_or]
   ·have hbad:jQ l = .tup [V.str [],V.int 8]:=by
     rw [jQ,if_pos];rw [← hinv];simp only [List.any_cons,aec,h1,h2,Bool.or_true,Bool.true_or]
    rw [hbad]
    repeat' (first|(refine zsk ?_;intro K' hK)|(refine zrt 8 (Wl _) (Wi _) ?_;intro K' hK)|refine zsp ?_|(refine zsc ?_ ?_<;>intro hc<;>first|exact znh|try simp only [znz] at hc)|simp (maxSteps:=1000000) only [go_sem,Int.toNat_natCast,List.getElem?_map,hget,hw,e1,h1,h2,Xi]|(refine hK _ ?_;clear hK K')|apply zan|((first|apply Ql|apply Qi);(focus first|exact (z0 _ _ zsd).b|exact (z1 _).b))|exact zsq|fail)
    all_goals (refine QA _ rfl ?_;simp only [go_sem])
  ·have hbad:jQ l = .tup [V.str [],V.int 8]:=by
    rw [jQ,if_pos];rw [← hinv];simp only [List.any_cons,aec,h1,Bool.true_or]
   rw [hbad]
   repeat' (first|(refine zsk ?_;intro K' hK)|(refine zrt 8 (Wl _) (Wi _) ?_;intro K' hK)|refine zsp ?_|(refine zsc ?_ ?_<;>intro hc<;>first|exact znh|try simp only [znz] at hc)|simp (maxSteps:=1000000) only [go_sem,Int.toNat_natCast,List.getElem?_map,hget,hw,e1,h1,Xi]|(refine hK _ ?_;clear hK K')|apply zan|((first|apply Ql|apply Qi);(focus first|exact (z0 _ _ zsd).b|exact (z1 _).b))|exact zsq|fail)
   all_goals (refine QA _ rfl ?_;simp only [go_sem])
end Av
end
section
namespace Av
open Go
theorem Good.adopt {C:Ctx} {w:World} {Z:Nat→Nat→Prop} {μ:Nat→Option Cn} {o:Nat→Option Ob} (h:Good C w Z μ o) {x i n sz:Nat} {wr:Bool} {cells:List V}
  (ho:o x = some (.box wr cells)) (hi:cells[i]? = some (.sc (.slice none 0 0))) (hn:μ n = none) (hm:C.m≤n) :
  Good C w Z (upd μ n (some { block:=0,void:=true })) (upd (upd o x (some (.box wr (cells.set i (.hd n 0 0))))) n (some (.buf true sz []))):=by
 have hon:=h.free hn
 have hxn:x≠n:=by rintro rfl;rw [hon] at ho;cases ho
 have hmu:=wN (c:={ block:=0,void:=true }) hn
 have old:∀ a y,a≠n→upd (upd o x (some (.box wr (cells.set i (.hd n 0 0))))) n (some (.buf true sz [])) a = some y→∃ z c,o a = some z∧μ a = some c∧(y.live c↔z.live c)∧ac0 w Z (upd μ n (some { block:=0,void:=true })) c y∧(z.live c→c.block < w.heap.size∧(C.w0.heap.size≤c.block∨C.F c.block)):=by
  intro a y han hy
  rw [J1 _ _ han] at hy
  by_cases hax:a = x
  ·subst hax
   rw [Qs] at hy;cases hy
   obtain ⟨c,hc,⟨h1,⟨cs,ty,h2,h3,h4⟩,h5⟩,hl⟩:=h.ob _ _ ho
   refine ⟨_,c,ho,hc,Iff.rfl,⟨h1,⟨cs,ty,h2,by simpa using h3,fun j hj hj'=>?_⟩,h5⟩,hl⟩
   have hj2:j < cells.length:=by simpa using hj
   have h6:=h4 j hj2 hj'
   refine ⟨?_,h6.2⟩
   by_cases hji:j = i
   ·subst hji
    rw [List.getElem_set_self]
    have h7:cells[j] = .sc (.slice none 0 0):=by rw [List.getElem?_eq_getElem hj2] at hi;exact Option.some.inj hi
    have h8:=h6.1
    rw [h7] at h8
    generalize cs[j] = v at h8
    cases h8
    exact .hd (Qs _ _ _) (by simp [Hdr])
   ·rw [List.getElem_set_ne (fun e=>hji e.symm)]
    exact h6.1.mono (fun _ _ _=>rfl) (fun _ _ h=>h) hmu
  ·rw [J1 _ _ hax] at hy
   obtain ⟨c,hc,hok,hl⟩:=h.ob a y hy
   exact ⟨y,c,hy,hc,Iff.rfl,hok.mono (fun _ _ _=>rfl) (fun _ _ h=>h) hmu (fun _=>rfl) (fun _ _ h=>h),hl⟩
 refine ⟨fun a y hy=>?_,fun a b y z c d hab hy hz hc hd lc ld=>?_,h.zlt,h.grow,h.frame,h.zsub,h.zsup,h.zkeep,fun k hk=>?_,h.oo⟩
 ·by_cases han:a = n
  ·subst han
   rw [Qs] at hy;cases hy
   exact ⟨_,Qs _ _ _,⟨rfl,fun hv=>by cases hv⟩,fun hl=>by cases hl⟩
  ·obtain ⟨z,c,h1,h2,h3,h4,h5⟩:=old a y han hy
   exact ⟨c,hmu a c h2,h4,fun hl=>h5 (h3.1 hl)⟩
 ·by_cases han:a = n
  ·subst han
   rw [Qs] at hy hc;cases hy;cases hc;cases lc
  by_cases hbn:b = n
  ·subst hbn
   rw [Qs] at hz hd;cases hz;cases hd;cases ld
  obtain ⟨y',c',h1,h2,h3,_⟩:=old a y han hy
  obtain ⟨z',d',g1,g2,g3,_⟩:=old b z hbn hz
  have e1:=hmu a c' h2;rw [hc] at e1;cases e1
  have e2:=hmu b d' g2;rw [hd] at e2;cases e2
  exact h.sep a b y' z' c d hab h1 g1 h2 g2 (h3.1 lc) (g3.1 ld)
 ·rw [J1 _ _ (by omega)];exact h.fix k hk
section
variable {C:Ctx} {nt:Nat} {s:St} {K:St→Prop} {E:Nat→St→Prop} {R:St→Prop}
theorem alB {c:AC} (x i sz:Nat) {wr:Bool} {cells:List V} (ho:s.o x = some (.box wr cells)) (hi:cells[i]? = some (.sc (.slice none 0 0)))
  (h:AWp C nt c { t:=s.t,o:=upd (upd s.o x (some (.box wr (cells.set i (.hd s.n 0 0))))) s.n (some (.buf true sz [])),n:=s.n + 1 } K E R):AWp C nt c s K E R:=by
 intro code hc a w hs
 obtain ⟨Z,μ,hg,ht,hf,hm,hd,hn⟩:=hs
 refine h code hc a w ⟨Z,_,hg.adopt ho hi (hf _ (Nat.le_refl _)) hm,fun j=>(ht j).mono (fun _ _ _=>rfl) (fun _ _ h=>h) (wN (hf _ (Nat.le_refl _))),fun y hy=>?_,by show C.m≤s.n + 1;omega,hd,hn⟩
 have hy2:s.n + 1≤y:=hy
 rw [J1 _ _ (by omega)]
 exact hf y (by omega)
end
end Av
end
section
namespace Av
open Go
theorem Good.move {C:Ctx} {w:World} {Z:Nat→Nat→Prop} {μ:Nat→Option Cn} {o:Nat→Option Ob} (h:Good C w Z μ o) {x i a n off len sz:Nat} {wr wr2:Bool} {cells xs:List V} {c:Cn}
  (ho:o x = some (.box wr cells)) (hi:cells[i]? = some (.hd a off len)) (ha:o a = some (.buf wr2 sz xs)) (hc:μ a = some c) (hn:μ n = none) (hm:C.m≤n) :
  Good C w Z (upd μ n (some c)) (upd (upd (upd o a (some .dead)) x (some (.box wr (cells.set i (.hd n off len))))) n (some (.buf wr2 sz xs))):=by
 have hon:=h.free hn
 have hxn:x≠n:=by rintro rfl;rw [hon] at ho;cases ho
 have han:a≠n:=by rintro rfl;rw [hon] at ha;cases ha
 have hxa:x≠a:=by rintro rfl;rw [ho] at ha;cases ha
 have hmu:=wN (c:=c) hn
 have old:∀ b y,upd (upd (upd o a (some .dead)) x (some (.box wr (cells.set i (.hd n off len))))) n (some (.buf wr2 sz xs)) b = some y →
   (b = a∧y = .dead)∨∃ z d,o (if b = n then a else b) = some z∧μ (if b = n then a else b) = some d∧upd μ n (some c) b = some d∧(y.live d↔z.live d)∧ac0 w Z (upd μ n (some c)) d y∧(z.live d→d.block < w.heap.size∧(C.w0.heap.size≤d.block∨C.F d.block))∧(b≠a):=by
  intro b y hy
  by_cases hbn:b = n
  ·subst hbn
   rw [Qs] at hy;cases hy
   obtain ⟨d,hd,hok,hl⟩:=h.ob _ _ ha
   rw [hc] at hd;cases hd
   exact .inr ⟨_,c,by rw [if_pos rfl];exact ha,by rw [if_pos rfl];exact hc,Qs _ _ _,Iff.rfl,hok.mono (fun _ _ _=>rfl) (fun _ _ h=>h) hmu (fun _=>rfl) (fun _ _ h=>h),hl,fun e=>han e.symm⟩
  ·rw [J1 _ _ hbn] at hy
   rw [if_neg hbn,J1 _ _ hbn]
   by_cases hbx:b = x
   ·subst hbx
    rw [Qs] at hy;cases hy
    obtain ⟨d,hd,⟨h1,⟨cs,ty,h2,h3,h4⟩,h5⟩,hl⟩:=h.ob _ _ ho
    refine .inr ⟨_,d,ho,hd,hd,Iff.rfl,⟨h1,⟨cs,ty,h2,by simpa using h3,fun j hj hj'=>?_⟩,h5⟩,hl,hxa⟩
    have hj2:j < cells.length:=by simpa using hj
    have h6:=h4 j hj2 hj'
    refine ⟨?_,h6.2⟩
    by_cases hji:j = i
    ·subst hji
     rw [List.getElem_set_self]
     have h7:cells[j] = .hd a off len:=by rw [List.getElem?_eq_getElem hj2] at hi;exact Option.some.inj hi
     have h8:=h6.1
     rw [h7] at h8
     generalize cs[j] = v at h8
     cases h8
     rename_i c' hc' hv
     rw [hc] at hc';cases hc'
     exact .hd (Qs _ _ _) hv
    ·rw [List.getElem_set_ne (fun e=>hji e.symm)]
     exact h6.1.mono (fun _ _ _=>rfl) (fun _ _ h=>h) hmu
   ·rw [J1 _ _ hbx] at hy
    by_cases hba:b = a
    ·subst hba
     rw [Qs] at hy;cases hy
     exact .inl ⟨rfl,rfl⟩
    ·rw [J1 _ _ hba] at hy
     obtain ⟨d,hd,hok,hl⟩:=h.ob b y hy
     exact .inr ⟨y,d,hy,hd,hd,Iff.rfl,hok.mono (fun _ _ _=>rfl) (fun _ _ h=>h) hmu (fun _=>rfl) (fun _ _ h=>h),hl,hba⟩
 refine ⟨fun b y hy=>?_,fun b d y z e f hbd hy hz he hf lb ld=>?_,h.zlt,h.grow,h.frame,h.zsub,h.zsup,h.zkeep,fun k hk=>?_,h.oo⟩
 ·rcases old b y hy with ⟨rfl,rfl⟩|⟨z,d,h1,h2,h3,h4,h5,h6,_⟩
  ·exact ⟨c,hmu _ _ hc,trivial,fun hl=>hl.elim⟩
  ·exact ⟨d,h3,h5,fun hl=>h6 (h4.1 hl)⟩
 ·rcases old b y hy with ⟨rfl,rfl⟩|⟨y',e',h1,h2,h3,h4,_,_,h7⟩
  ·exact lb.elim
  ·rcases old d z hz with ⟨rfl,rfl⟩|⟨z',f',g1,g2,g3,g4,_,_,g7⟩
   ·exact ld.elim
   ·rw [he] at h3;cases h3
    rw [hf] at g3;cases g3
    refine h.sep _ _ y' z' _ _ ?_ h1 g1 h2 g2 (h4.1 lb) (g4.1 ld)
    by_cases hbn:b = n
    ·subst hbn
     rw [if_pos rfl,if_neg (fun e=>hbd e.symm)]
     exact fun e=>g7 e.symm
    ·rw [if_neg hbn]
     by_cases hdn:d = n
     ·subst hdn;rw [if_pos rfl];exact h7
     ·rw [if_neg hdn];exact hbd
 ·rw [J1 _ _ (by omega)];exact h.fix k hk
section
variable {C:Ctx} {nt:Nat} {s:St} {K:St→Prop} {E:Nat→St→Prop} {R:St→Prop}
theorem am4 {c:AC} (x i a:Nat) {off len sz:Nat} {wr wr2:Bool} {cells xs:List V} (ho:s.o x = some (.box wr cells)) (hi:cells[i]? = some (.hd a off len)) (ha:s.o a = some (.buf wr2 sz xs))
  (h:AWp C nt c { t:=s.t,o:=upd (upd (upd s.o a (some .dead)) x (some (.box wr (cells.set i (.hd s.n off len))))) s.n (some (.buf wr2 sz xs)),n:=s.n + 1 } K E R):AWp C nt c s K E R:=by
 intro code hc u w hs
 obtain ⟨Z,μ,hg,ht,hf,hm,hd,hn⟩:=hs
 obtain ⟨d,hmu,_⟩:=hg.ob _ _ ha
 refine h code hc u w ⟨Z,_,hg.move ho hi ha hmu (hf _ (Nat.le_refl _)) hm,fun j=>(ht j).mono (fun _ _ _=>rfl) (fun _ _ h=>h) (wN (hf _ (Nat.le_refl _))),fun y hy=>?_,by show C.m≤s.n + 1;omega,hd,hn⟩
 have hy2:s.n + 1≤y:=hy
 rw [J1 _ _ (by omega)]
 exact hf y (by omega)
end
def arP (i j:Nat) (xs ys:List V):Ob:=.box true [.hd i 0 xs.length,.hd j 0 ys.length]
structure EvT (Γ:Env) (f:FuncId) (args:List V) (sx sy:Nat) (xs ys:List V) (res:V) (xs2 ys2:List V):Prop where
 ev:Ev Γ f (.ptr 0 0 :: args) [arP 1 2 xs ys,.buf true sx xs,.buf true sy ys] res [arP 3 4 xs2 ys2,.dead,.dead,.buf true sx xs2,.buf true sy ys2]
 cl:res.closed
theorem asV {Γ:Env} {b:Nat} {r:List AO} {s:St} {d:Option Nat} {f:FuncId} {acts:List V} {res:V} {K:St→Prop} {a p q sx sy n m:Nat} {xs ys xs2 ys2:List V}
  (ha:s.o a = some (.box true [.hd p 0 n,.hd q 0 m])) (hp:s.o p = some (.buf true sx xs)) (hq:s.o q = some (.buf true sy ys))
  (h:EvT Γ f (Wh s.o acts) sx sy xs ys res xs2 ys2) (hn:n = xs.length) (hm:m = ys.length) (hc:JL s.o (some []) acts) (h1:a≠p) (h2:a≠q) (h3:p≠q) (hab:a < b) (hpb:p < b) (hqb:q < b)
  (hk:VV Γ (b + KK) r { t:=(s.put d res).t,o:=upd (upd (upd (upd (upd s.o (b + 1) (some (.buf true sy ys2))) b (some (.buf true sx xs2))) q (some .dead)) p (some .dead)) a (some (.box true [.hd b 0 xs2.length,.hd (b + 1) 0 ys2.length])),n:=s.n } K):awC Γ b r s d f (.ptr a 0 :: acts) K:=by
 subst hn;subst hm
 refine UK ⟨_,_,_,_,[a,p,q],some [],h.ev,⟨?_,W3 s.o [a,p,q] [] (fun x hx=>by cases hx) acts hc⟩,⟨⟨_,ha,?_⟩,⟨_,hp,rfl,rfl⟩,⟨_,hq,rfl,rfl⟩,trivial⟩,by simp [h1,h2,h3],?_,by simp,by simp [KK],fun h=>by simp at h,?_⟩
 ·simp [conv]
 ·show Yn _ _ _ _ _
  simp [Yn,conv]
 ·intro x hx
  simp only [List.mem_cons,List.not_mem_nil,or_false] at hx
  rcases hx with rfl|rfl|rfl<;>assumption
 ·rw [Wt _ _ h.cl]
  simp only [UG,UZ,Ob.ren,arP,aaL,V.ren,sig,asF]
  exact hk
theorem aqN {Γ:Env} {b:Nat} {r:List AO} {s:St} {d:Option Nat} {f:FuncId} {x:V} {acts args:List V} {okf:Option (List Nat)→Prop} {res:V} {K:St→Prop} {a p q sx sy n m:Nat} {xs ys xs2 ys2:List V}
  (ha:s.o a = some (.box true [.hd p 0 n,.hd q 0 m])) (hp:s.o p = some (.buf true sx xs)) (hq:s.o q = some (.buf true sy ys)) (h:EvT Γ f args sx sy xs ys res xs2 ys2)
  (hd:(decide (a≠p∧a≠q∧p≠q∧a < b∧p < b∧q < b)) = true) (hn:n = xs.length) (hm:m = ys.length) (hc:JL s.o (some []) acts)
  (hk:VV Γ (b + KK) r { t:=(s.put d res).t,o:=upd (upd (upd (upd (upd s.o (b + 1) (some (.buf true sy ys2))) b (some (.buf true sx xs2))) q (some .dead)) p (some .dead)) a (some (.box true [.hd b 0 xs2.length,.hd (b + 1) 0 ys2.length])),n:=s.n } K):an4 Γ b r s d f (.ptr a 0 :: acts) (x :: args) okf K:=by
 intro h1 _
 simp only [Wh,List.cons.injEq] at h1
 obtain ⟨_,rfl⟩:=h1
 obtain ⟨e1,e2,e3,e4,e5,e6⟩:=of_decide_eq_true hd
 exact asV ha hp hq h hn hm hc e1 e2 e3 e4 e5 e6 hk
theorem amc {Γ:Env} {f:FuncId} {nt:Nat} {ac:AC} {rs:List YF} (hb:Has Γ.P f nt ac rs) {args xs ys xs2 ys2:List V} {sx sy:Nat} {res:V} (ha:args.length + 1≤nt) (hr:res.closed)
  (h:∀ C:Ctx,C.env = Γ→C.m = 3→AWp C nt ac { t:=(Uv (.ptr 0 0 :: args) []).t,o:=ahd [(0,.box true [.hd 3 0 xs.length,.hd 4 0 ys.length]),(1,.dead),(2,.dead),(3,.buf true sx xs),(4,.buf true sy ys)],n:=5 }
    (aeo 3 rs res [arP 3 4 xs2 ys2,.dead,.dead,.buf true sx xs2,.buf true sy ys2]) (fun _ _=>False) (aeo 3 rs res [arP 3 4 xs2 ys2,.dead,.dead,.buf true sx xs2,.buf true sy ys2])):EvT Γ f args sx sy xs ys res xs2 ys2:=by
 refine ⟨UO hb (by simpa using ha) fun C hC hm=>?_,hr⟩
 refine am4 0 0 1 (by rfl) (by rfl) (by rfl) ?_
 refine am4 0 1 2 (by rfl) (by rfl) (by rfl) ?_
 have e:=h C hC hm
 refine (congrArg (fun s=>AWp C nt ac s _ _ _) ?_).mp e
 congr 1
 funext k
 match k with
 | 0=>rfl
 | 1=>rfl
 | 2=>rfl
 | 3=>rfl
 | 4=>rfl
 | k + 5=>simp [upd,ahd,Uv]
theorem ajS {rs:List YF} {res:V} {s:St} {xs ys xs' ys':List V} {sx sy:Nat} (i j n m:Nat) (vs:List V) (h:ahn s rs = some vs) (hc:conv s.o [0,1,2,i,j] none (amO vs) res)
  (h0:s.o 0 = some (.box true [.hd i 0 n,.hd j 0 m])) (hi:s.o i = some (.buf true sx xs')) (hj:s.o j = some (.buf true sy ys'))
  (hi3:3≤i) (hj3:3≤j) (hij:i≠j) (h1:∃ x,s.o 1 = some x) (h2:∃ x,s.o 2 = some x) (hx:xs' = xs) (hy:ys' = ys) (hn:n = xs.length) (hm:m = ys.length):aeo 3 rs res [arP 3 4 xs ys,.dead,.dead,.buf true sx xs,.buf true sy ys] s:=by
 subst hn;subst hm;subst hx;subst hy
 obtain ⟨x1,e1⟩:=h1
 obtain ⟨x2,e2⟩:=h2
 refine w6 rs vs _ h ⟨[0,1,2,i,j],none,hc,⟨⟨_,h0,fun h=>h,?_⟩,⟨_,e1,?_⟩,⟨_,e2,?_⟩,⟨_,hi,fun h=>h,rfl,rfl⟩,⟨_,hj,fun h=>h,rfl,rfl⟩,trivial⟩,?_,rfl⟩
 ·simp [Yn,conv]
 ·simp [aqz]
 ·simp [aqz]
 ·simp;omega
end Av
end
section
set_option linter.unusedSimpArgs false
set_option linter.unusedVariables false
set_option maxRecDepth 10000
set_option maxHeartbeats 4000000
namespace Av
open Go
attribute [local irreducible] AWp VV UQ Ko awS awC jF awQ yc Jb XH jD awR XT awB okR Wy ris
def qF:List UInt8→UInt8×List UInt8
 | []=>(0,[])
 | c :: r=>if c = 45∨c = 33∨c = 43 then (c,r) else (0,c :: r)
abbrev apz:=List Int×List Int
def doG (g:UInt8) (set:List Int) (p:apz):apz :=
 if g = 45 then (QL p.1 set,p.2)
 else if g = 33 then (QL p.1 set,p.2++set)
 else if g = 43 then (QL p.1 set++QL p.1 (QL p.1 set),p.2)
 else (p.1++QL (QL set p.1) p.2,p.2)
def arN:List UInt8:=[64,115,116,114,101,110,103,116,104]
def wordOk (w:List UInt8):Bool:=w == arN || (ahK (qF w).2).2
def doR (w:List UInt8) (p:apz):apz:=if w == arN then (aj5 p.1,p.2) else doG (qF w).1 (ahK (qF w).2).1 p
def goP:List (List UInt8)→Nat→apz→List Int×Int×Int
 | [],_,p=>(p.1,0,0)
 | w :: r,i,p=>if wordOk w = true then goP r (i + 1) (doR w p) else ([],((i + 1:Nat):Int),17)
def abL (s:List UInt8):List Int×Int×Int :=
 if s.length > 8192 then ([],0,3) else if s = [] then ([],0,0) else if (Xp 58 s).length > 200 then ([],0,3) else goP (Xp 58 s) 0 ([],[])
theorem ae0 (L:List (List UInt8)):(y4 L J3).Sublist (J3.map Ji.code):=(List.filter_sublist (l:=J3)).map _
theorem aql:(J3.map Ji.code).Nodup:=by decide
theorem aqk:∀ x∈J3.map Ji.code,1≤x∧x≤16:=by decide
theorem aoj (s:List UInt8):(ahK s).1.Nodup:=by
 unfold ahK;split
 ·exact aql.sublist (ae0 _)
 ·exact List.nodup_nil
theorem aqY (s:List UInt8):∀ x∈(ahK s).1,1≤x∧x≤16:=by
 unfold ahK;split
 ·exact fun x hx=>aqk x ((ae0 _).subset hx)
 ·intro x hx;cases hx
theorem amu (s:List UInt8):(ahK s).1.length≤16:=by
 unfold ahK;split
 ·have:=(ae0 (Xp 43 s)).length_le
  have e:(J3.map Ji.code).length = 16:=by decide
  show (y4 (Xp 43 s) J3).length≤16
  omega
 ·simp
theorem Wk {x:Int} {l m:List Int}:x∈QL l m↔x∈l∧x ∉ m:=by simp [QL]
theorem ajV (p:apz) (m:List Int):(QL p.1 m++QL p.1 (QL p.1 m)).Perm p.1:=by
 have hp:QL p.1 (QL p.1 m) = p.1.filter fun x=>m.contains x:=by
  unfold QL
  refine List.filter_congr fun x hx=>?_
  cases hm:m.contains x<;>simp_all
 rw [hp,QL]
 have:∀ l:List Int,((l.filter fun x=>!m.contains x)++(l.filter fun x=>m.contains x)).Perm l:=by
  intro l;induction l with
  | nil=>exact .refl _
  | cons x r ih =>
    cases hx:m.contains x
    ·simp only [List.filter_cons,hx,Bool.not_false,if_true,Bool.false_eq_true,if_false,List.cons_append];exact ih.cons x
    ·simp only [List.filter_cons,hx,Bool.not_true,if_true,Bool.false_eq_true,if_false];exact List.perm_middle.trans (ih.cons x)
 exact this _
theorem arn (w:List UInt8) (p:apz):(doR w p).1.length≤p.1.length + 16∧(doR w p).2.length≤p.2.length + 16:=by
 have h:=amu (qF w).2
 unfold doR;split
 ·simp [akQ]
 ·unfold doG
  have a:=Ke p.1 (ahK (qF w).2).1
  have b:=Ke (QL (ahK (qF w).2).1 p.1) p.2
  have c:=Ke (ahK (qF w).2).1 p.1
  have part:(QL p.1 (ahK (qF w).2).1++QL p.1 (QL p.1 (ahK (qF w).2).1)).length≤p.1.length:=Nat.le_of_eq (ajV _ _).length_eq
  split
  ·simp;omega
  ·split
   ·simp;omega
   ·split
    ·simp only;omega
    ·simp;omega
theorem aoZ (out:List Int) (x:Int):(ap6 out x).Perm (x :: out):=by
 unfold ap6
 rw [List.append_assoc,List.singleton_append]
 exact List.perm_middle.trans (by rw [List.take_append_drop])
theorem ajP:∀ (l out:List Int),(l.foldl ap6 out).Perm (out++l)
 | [],out=>by simp
 | x :: r,out=>by
   rw [List.foldl_cons]
   refine (ajP r _).trans ?_
   refine ((aoZ out x).append_right r).trans ?_
   rw [List.cons_append]
   exact List.perm_middle.symm
theorem anb (l:List Int):(aj5 l).Perm l:=by
 have:=ajP l []
 simpa [aj5] using this
structure amr (p:apz):Prop where
 nd:p.1.Nodup
 rg:∀ x∈p.1,1≤x∧x≤16
 dj:∀ x∈p.1,x ∉ p.2
theorem asb (w:List UInt8) (p:apz) (h:amr p):amr (doR w p):=by
 have nd:=aoj (qF w).2
 have rg:=aqY (qF w).2
 unfold doR;split
 ·have hp:=anb p.1
  exact ⟨hp.nodup_iff.2 h.nd,fun x hx=>h.rg x (hp.mem_iff.1 hx),fun x hx=>h.dj x (hp.mem_iff.1 hx)⟩
 ·generalize (ahK (qF w).2).1 = m at *
  unfold doG
  split
  ·exact ⟨h.nd.sublist List.filter_sublist,fun x hx=>h.rg x (Wk.1 hx).1,fun x hx=>h.dj x (Wk.1 hx).1⟩
  ·split
   ·refine ⟨h.nd.sublist List.filter_sublist,fun x hx=>h.rg x (Wk.1 hx).1,fun x hx hk=>?_⟩
    have hx:=Wk.1 hx
    rcases List.mem_append.1 hk with hk|hk
    ·exact h.dj x hx.1 hk
    ·exact hx.2 hk
   ·split
    ·have hp:=ajV p m
     exact ⟨hp.nodup_iff.2 h.nd,fun x hx=>h.rg x (hp.mem_iff.1 hx),fun x hx=>h.dj x (hp.mem_iff.1 hx)⟩
    ·refine ⟨?_,fun x hx=>?_,fun x hx=>?_⟩
     ·refine List.nodup_append.2 ⟨h.nd,(nd.sublist List.filter_sublist).sublist List.filter_sublist,fun a ha b hb e=>?_⟩
      subst e
      exact (Wk.1 (Wk.1 hb).1).2 ha
     ·rcases List.mem_append.1 hx with hx|hx
      ·exact h.rg x hx
      ·exact rg x (Wk.1 (Wk.1 hx).1).1
     ·rcases List.mem_append.1 hx with hx|hx
      ·exact h.dj x hx
      ·exact (Wk.1 hx).2
theorem aq1:amr ([],[]):=⟨List.nodup_nil,fun x h=>by simp at h,fun x h=>by simp at h⟩
theorem aqF {l:List Int} (hn:l.Nodup) (hr:∀ x∈l,1≤x∧x≤16):l.length≤16:=by
 have hs:l ⊆ J3.map Ji.code:=by
  intro x hx
  have h:=hr x hx
  have e:J3.map Ji.code = [1,2,3,4,5,6,7,8,9,10,11,12,13,14,15,16]:=by decide
  rw [e];simp;omega
 have:=hn.length_le_of_subset hs
 have e:(J3.map Ji.code).length = 16:=by decide
 omega
theorem amr.len {p:apz} (h:amr p):p.1.length≤16:=aqF h.nd h.rg
end Av
end
section
set_option linter.unusedSimpArgs false
set_option linter.unusedVariables false
set_option maxRecDepth 10000
set_option maxHeartbeats 4000000
namespace Av
open Go
attribute [local irreducible] AWp VV UQ Ko awS awC jF awQ yc Jb XH jD awR XT awB okR Wy ris
theorem aga (c:UInt8):∀ (s cur t:List UInt8),Vi c cur (s++c :: t) = Vi c cur s++Vi c [] t
 | [],cur,t=>by simp [Vi]
 | x :: r,cur,t=>by
   rw [List.cons_append,Vi,Vi]
   split
   ·rw [aga c r [] t];rfl
   ·exact aga c r _ t
theorem af7 (c:UInt8) (s t:List UInt8):Xp c (s++[c]++t) = Xp c s++Xp c t:=by
 rw [List.append_assoc,List.singleton_append];exact aga c s [] t
theorem ahW (c:UInt8):∀ (s cur:List UInt8),c ∉ s→Vi c cur s = [cur++s]
 | [],cur,_=>by simp [Vi]
 | x :: r,cur,h=>by
   simp only [List.mem_cons,not_or] at h
   rw [Vi,if_neg (fun e=>h.1 e.symm),ahW c r _ h.2];simp
end Av
end
section
namespace Av
open Go
structure EvL (Γ:Env) (f:FuncId) (args:List V) (sz:Nat) (xs:List V) (res:V) (ys:List V):Prop where
 ev:Ev Γ f (.hd 0 0 xs.length :: args) [.buf true sz xs] res [.buf true sz ys]
 cl:res.closed
theorem asY {Γ:Env} {b:Nat} {r:List AO} {s:St} {d:Option Nat} {f:FuncId} {acts:List V} {res:V} {K:St→Prop} {a sz n:Nat} {xs ys:List V}
  (ha:s.o a = some (.buf true sz xs)) (h:EvL Γ f (Wh s.o acts) sz xs res ys) (hn:n = xs.length) (hc:JL s.o (some []) acts) (hab:a < b)
  (hk:VV Γ (b + KK) r { t:=(s.put d res).t,o:=upd s.o a (some (.buf true sz ys)),n:=s.n } K):awC Γ b r s d f (.hd a 0 n :: acts) K:=by
 subst hn
 refine UK ⟨_,_,_,_,[a],some [],h.ev,⟨?_,W3 s.o [a] [] (fun x hx=>by cases hx) acts hc⟩,⟨⟨_,ha,rfl,rfl⟩,trivial⟩,by simp,?_,by simp,by simp [KK],fun h=>by simp at h,?_⟩
 ·simp [conv]
 ·intro x hx
  simp only [List.mem_singleton] at hx
  subst hx;exact hab
 ·rw [Wt _ _ h.cl]
  simp only [UG,UZ,Ob.ren,asF]
  exact hk
theorem aqO {Γ:Env} {b:Nat} {r:List AO} {s:St} {d:Option Nat} {f:FuncId} {x:V} {acts args:List V} {okf:Option (List Nat)→Prop} {res:V} {K:St→Prop} {a sz n:Nat} {xs ys:List V}
  (ha:s.o a = some (.buf true sz xs)) (h:EvL Γ f args sz xs res ys) (hab:decide (a < b) = true) (hn:n = xs.length) (hc:JL s.o (some []) acts)
  (hk:VV Γ (b + KK) r { t:=(s.put d res).t,o:=upd s.o a (some (.buf true sz ys)),n:=s.n } K):an4 Γ b r s d f (.hd a 0 n :: acts) (x :: args) okf K:=by
 intro h1 _
 simp only [Wh,List.cons.injEq] at h1
 obtain ⟨_,rfl⟩:=h1
 exact asY ha h hn hc (of_decide_eq_true hab) hk
theorem aeZ {Γ:Env} {f:FuncId} {nt:Nat} {ac:AC} {rs:List YF} (hb:Has Γ.P f nt ac rs) {args xs ys:List V} {sz:Nat} {res:V} (ha:args.length + 1≤nt) (hr:res.closed)
  (h:∀ C:Ctx,C.env = Γ→C.m = 1→AWp C nt ac { t:=(Uv (.hd 0 0 xs.length :: args) []).t,o:=ahd [(0,.buf true sz xs)],n:=1 } (aeo 1 rs res [.buf true sz ys]) (fun _ _=>False) (aeo 1 rs res [.buf true sz ys])):EvL Γ f args sz xs res ys:=by
 refine ⟨UO hb (by simpa using ha) fun C hC hm=>?_,hr⟩
 refine (congrArg (fun s=>AWp C nt ac s _ _ _) ?_).mp (h C hC hm)
 simp only [Uv]
 congr 1
 funext k
 match k with
 | 0=>rfl
 | k + 1=>simp [ahd]
theorem ag3 {rs:List YF} {res:V} {s:St} {xs ys:List V} {sz:Nat} (vs:List V) (h:ahn s rs = some vs) (ho:s.o 0 = some (.buf true sz xs)) (hc:conv s.o [0] none (amO vs) res) (hx:xs = ys):aeo 1 rs res [.buf true sz ys] s:=by
 subst hx
 exact w6 rs vs _ h ⟨[0],none,hc,⟨⟨_,ho,fun h=>h,rfl,rfl⟩,trivial⟩,by simp,rfl⟩
@[go_sem] theorem art (l:List Int):(∀ y∈l.map V.int,y.cells.length = 1) = True:=eq_true (by intro y hy;simp only [List.mem_map] at hy;obtain ⟨x,_,rfl⟩:=hy;rfl)
@[go_sem] theorem ars (l:List (List UInt8)):(∀ y∈l.map V.str,y.cells.length = 1) = True:=eq_true (by intro y hy;simp only [List.mem_map] at hy;obtain ⟨x,_,rfl⟩:=hy;rfl)
end Av
end
section
set_option linter.unusedSimpArgs false
set_option linter.unusedVariables false
set_option maxRecDepth 10000
set_option maxHeartbeats 4000000
namespace Av
open Go
attribute [local irreducible] AWp VV UQ Ko awS awC jF awQ yc Jb XH jD awR XT awB okR Wy ris
theorem Wu {α β:Type} (f:α→β) (l:List α):(l.map f).take l.length = l.map f:=by rw [List.take_of_length_le (by simp)]
theorem adO (c:UInt8) (r:List UInt8):qF (c :: r) = if c = 45∨c = 33∨c = 43 then (c,r) else (0,c :: r):=rfl
theorem aoe {w:List UInt8} (h:w≠arN):(w == arN) = false:=by simpa using h
end Av
end
section
set_option linter.unusedSimpArgs false
set_option linter.unusedVariables false
set_option maxRecDepth 10000
set_option maxHeartbeats 4000000
namespace Av
open Go
attribute [local irreducible] AWp VV UQ Ko awS awC jF awQ yc Jb XH jD awR XT awB okR Wy ris
def aei (r:List Int×Int×Int):V:=.tup [.sl 1 (r.1.map V.int),V.int r.2.1,V.int r.2.2]
theorem akc (r:List Int×Int×Int):(aei r).closed:=by simp only [aei,V.closed,closedL,and_self]
theorem af8 (c:UInt8):∀ (r cur w:List UInt8),w∈Vi c cur r→w.length≤cur.length + r.length
 | [],cur,w,h=>by simp only [Vi,List.mem_singleton] at h;subst h;simp
 | x :: r,cur,w,h=>by
   rw [Vi] at h
   split at h
   ·rcases List.mem_cons.1 h with rfl|h
    ·simp
    ·have:=af8 c r [] w h;simp at this ⊢;omega
   ·have:=af8 c r _ w h;simp at this ⊢;omega
theorem ana {c:UInt8} {s w:List UInt8} (h:w∈Xp c s):w.length≤s.length:=by simpa using af8 c s [] w h
end Av
end
