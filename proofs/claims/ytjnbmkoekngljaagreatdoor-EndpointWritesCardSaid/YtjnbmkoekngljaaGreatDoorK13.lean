/- Functions that answer a buffer of their own, whose elements show no memory. -/
import Derived.Test.YtjnbmkoekngljaaGreatDoorK12
import Derived.Lib.IndexLaws
import Derived.Lib.AtoiAllCases
set_option linter.unusedVariables false
set_option linter.unusedSimpArgs false
section
set_option maxRecDepth 10000
set_option maxHeartbeats 4000000
namespace Av
open Go
attribute [local irreducible] AWp x8 adc afE awS awC am1 awQ anX Yf abo ama awR acg awB okR agS ris
def acF:QG:=⟨0,[],0,0,0,0,0,0,0,0,0,0⟩
def Yd (c:Int):QG:=if 1≤c∧c≤16 then Jn.getD (c - 1).toNat acF else acF
def Xo (c:Int):V:=.tup [(Yd c).v,V.int (if 1≤c∧c≤16 then 0 else 8)]
theorem xA (c:Int):(Xo c).closed:=by simp only [Xo,QG.v,QG.cells,V.closed,closedL,and_self]
theorem abB (c:Int):(Xo c).noSl:=by simp only [Xo,QG.v,QG.cells,V.noSl,abd,and_self]
theorem VW:Jn.length = 16:=rfl
theorem ake {c:Int} (h:1≤c∧c≤16):(Jn.map QG.v)[(c - 1).toNat]? = some (Yd c).v:=by
 have hk:(c - 1).toNat < Jn.length:=by rw [VW];omega
 rw [List.getElem?_map,Yd,if_pos h,List.getD_eq_getElem?_getD,List.getElem?_eq_getElem hk,Option.getD_some];rfl
theorem akd {c:Int} (h:¬ (1≤c∧c≤16)):Yd c = acF:=by rw [Yd,if_neg h]
def wO (Jh:Nat):AC:=Qa [0,2] (.reg [xo 2 (.alloc [.val vi0,.val vs0,.val vi0,.val vi0,.val vi0,.val vi0,.val vi0,.val vi0,.val vi0,.val vi0,.val vi0,.val vi0]),mc 3 (V.int 0)]) (Qa [0,2,4] (.reg [cl 5 Jh [],mv 4 5]) (Qa [0,2,4] (Qa [0,2,4,13] (.reg [mv 6 0,bc 7 .lss 6 (V.int 1),mv 8 7,mg 9 0 8 false,mg 10 4 8 false,xg 11 (.lenL (.t 10)) 8 false,xg 12 (.bin .gtr (.t 9) (.t 11)) 8 false,xo 13 (.pick (.t 8) (.c (V.bool true)) (.t 12))]) (.cond (.t 13) (Qa [2,3] (.reg [xo 14 (.build [vi0,vs0,vi0,vi0,vi0,vi0,vi0,vi0,vi0,vi0,vi0,vi0] []),xs 12 2 14,mc 3 (V.int 8)]) .ret) .skip)) (Qa [2,3] (.reg [mv 15 4,mv 16 0,bc 17 .sub 16 (V.int 1),ia 18 12 15 17,xo 19 (.load true 12 (.t 18)),xs 12 2 19,mc 3 (V.int 0)]) .ret))) def r_catalog_Suite:List Jl:=[.cell 2 true 12,.tmp 3]
def Vl (Γ:Env) (f:Nat):Prop:=∀ (c:Int),EvN Γ f [V.int c] (Xo c)
attribute [local go_sem] QG.cells QG.v in
theorem ajN {Γ:Env} {f Jh:Nat} (h:Has Γ.P f 20 (wO Jh) r_catalog_Suite) (z0:WS Γ Jh):Vl Γ f:=by
 intro c
 refine Qe h zsi (by first|exact xA c|exact abB c) (by first|exact xA c|exact abB c) fun C hC hm=>?_
 subst hC
 unfold wO
 have hl:=VW
 by_cases h:1≤c∧c≤16
 ·have hg:=ake h
  have hw:IntKind.i64.wrap (c - 1) = c - 1:=Yv (by omega) (by omega)
  have e1:decide (c < 1) = false:=by simp;omega
  have e2:decide (c > 16) = false:=by simp;omega
  have e3:decide (c > (((Jn.map QG.v).length:Nat):Int)) = false:=by simp [hl];omega
  (have zx:=And.intro hg (And.intro hw (And.intro e1 (And.intro e2 e3))));refine zgo ?_;repeat' first|exact zt|apply zan|intro hc
  all_goals (simp only [Xo,if_pos h,QG.v,QG.cells];refine Qn _ rfl ?_;simp only [go_sem])
 ·have h0:=akd h
  by_cases h1:c < 1
  ·have e1:decide (c < 1) = true:=by simp;omega
   (have zx:=e1);refine zgo ?_;repeat' first|exact zt|apply zan|intro hc
   all_goals (simp only [Xo,if_neg h,h0,acF,QG.v,QG.cells];refine Qn _ rfl ?_;simp only [go_sem])
  ·have e1:decide (c < 1) = false:=by simp;omega
   have e2:decide (c > (((Jn.map QG.v).length:Nat):Int)) = true:=by simp [hl];omega
   (have zx:=And.intro e1 e2);refine zgo ?_;repeat' first|exact zt|apply zan|intro hc
   all_goals (simp only [Xo,if_neg h,h0,acF,QG.v,QG.cells];refine Qn _ rfl ?_;simp only [go_sem])
def agp:AC:=Qa [0,1,4] (.reg [xo 4 (.alloc [.val vi0,.val vi0])]) (Qa [4] (.reg [mv 5 0,mv 6 1,xo 7 (.build [vi0,vi0] [(0,1,(.t 5)),(1,1,(.t 6))]),xs 2 4 7]) .ret) def r_ref02_use:List Jl:=[.cell 4 true 2]
def aet (Γ:Env) (f:Nat):Prop:=∀ (a b:Int),EvN Γ f [V.int a,V.int b] (.agg [V.int a,V.int b])
theorem aoW {Γ:Env} {f:Nat} (h:Has Γ.P f 8 agp r_ref02_use) :aet Γ f:=by
 intro a b
 refine Qe h zsi zcl zcl fun C hC hm=>?_
 subst hC
 unfold agp
 refine zgo ?_;repeat' first|exact zt|apply zan|intro hc
 refine Qn _ rfl ?_;simp only [go_sem]
def ab6:AC:=Qa [0,1,6,7,10,11,12,13,16] (.reg [xo 10 (.box true 2 (.t 2)),xo 11 (.box true 2 (.t 3)),xo 12 (.box true 2 (.t 4)),xo 13 (.box true 2 (.t 5)),xo 16 (.alloc [.val vi0,.val vs0,.val vi0,.val vi0,.val vi0,.val vi0,.val vi0,.val vi0,.val vi0,.val vi0,.val vi0,.val vi0])]) (Qa [16] (.reg [mv 17 0,mv 18 1,xo 19 (.load true 2 (.t 10)),xo 20 (.load true 2 (.t 11)),xo 21 (.load true 2 (.t 12)),xo 22 (.load true 2 (.t 13)),mv 23 6,mv 24 7,xo 25 (.build [vi0,vs0,vi0,vi0,vi0,vi0,vi0,vi0,vi0,vi0,vi0,vi0] [(0,1,(.t 17)),(1,1,(.t 18)),(2,2,(.t 19)),(4,2,(.t 20)),(6,2,(.t 21)),(8,2,(.t 22)),(10,1,(.t 23)),(11,1,(.t 24))]),xs 12 16 25]) .ret) def r_ref02_suite:List Jl:=[.cell 16 true 12]
def aaZ (Γ:Env) (f:Nat):Prop:=∀ (c:Int) (n:List UInt8) (a1 a2 b1 b2 c1 c2 d1 d2 lo up:Int),EvN Γ f [V.int c,V.str n,.agg [V.int a1,V.int a2],.agg [V.int b1,V.int b2],.agg [V.int c1,V.int c2],.agg [V.int d1,V.int d2],V.int lo,V.int up] (.agg [V.int c,V.str n,V.int a1,V.int a2,V.int b1,V.int b2,V.int c1,V.int c2,V.int d1,V.int d2,V.int lo,V.int up])
theorem alZ {Γ:Env} {f:Nat} (h:Has Γ.P f 26 ab6 r_ref02_suite) :aaZ Γ f:=by
 intro c n a1 a2 b1 b2 c1 c2 d1 d2 lo up
 refine Qe h zsi zcl zcl fun C hC hm=>?_
 subst hC
 unfold ab6
 refine zgo ?_;repeat' first|exact zt|apply zan|intro hc
 refine Qn _ rfl ?_;simp only [go_sem]
def acH (Qm Qx:Nat):List AO:=[xo 29 (.load true 2 (.t 1)),xo 30 (.load true 2 (.t 2)),xo 31 (.load true 2 (.t 4)),xo 32 (.load true 2 (.t 9)),xo 33 (.call Qm [(.c (V.int 1)),(.c (V.str [114,115,97,45,114,99,52,45,109,100,53])),(.t 29),(.t 30),(.t 31),(.t 32),(.c (V.int 1)),(.c (V.int 2))]),xo 34 (.load true 2 (.t 1)),xo 35 (.load true 2 (.t 2)),xo 36 (.load true 2 (.t 4)),xo 37 (.load true 2 (.t 10)),xo 38 (.call Qm [(.c (V.int 2)),(.c (V.str [114,115,97,45,114,99,52,45,115,104,97])),(.t 34),(.t 35),(.t 36),(.t 37),(.c (V.int 1)),(.c (V.int 3))]),xo 39 (.load true 2 (.t 1)),xo 40 (.load true 2 (.t 2)),xo 41 (.load true 2 (.t 5)),xo 42 (.load true 2 (.t 10)),xo 43 (.call Qm [(.c (V.int 3)),(.c (V.str [114,115,97,45,100,101,115,51,45,115,104,97])),(.t 39),(.t 40),(.t 41),(.t 42),(.c (V.int 1)),(.c (V.int 3))]),xo 44 (.call Qx [(.c (V.int 11)),(.c (V.int 1024))]),xo 45 (.call Qx [(.c (V.int 6)),(.c (V.int 0))]),xo 46 (.load true 2 (.t 5)),xo 47 (.load true 2 (.t 10)),xo 48 (.call Qm [(.c (V.int 4)),(.c (V.str [100,104,101,45,100,115,97,45,100,101,115,51,45,115,104,97])),(.t 44),(.t 45),(.t 46),(.t 47),(.c (V.int 1)),(.c (V.int 3))]),xo 49 (.call Qx [(.c (V.int 11)),(.c (V.int 1024))]),xo 50 (.load true 2 (.t 2)),xo 51 (.load true 2 (.t 5)),xo 52 (.load true 2 (.t 10)),xo 53 (.call Qm [(.c (V.int 5)),(.c (V.str [100,104,101,45,114,115,97,45,100,101,115,51,45,115,104,97])),(.t 49),(.t 50),(.t 51),(.t 52),(.c (V.int 1)),(.c (V.int 3))]),xo 54 (.load true 2 (.t 1)),xo 55 (.load true 2 (.t 2)),xo 56 (.load true 2 (.t 6)),xo 57 (.load true 2 (.t 10)),xo 58 (.call Qm [(.c (V.int 6)),(.c (V.str [114,115,97,45,97,101,115,49,50,56,45,115,104,97])),(.t 54),(.t 55),(.t 56),(.t 57),(.c (V.int 1)),(.c (V.int 3))]),xo 59 (.call Qx [(.c (V.int 11)),(.c (V.int 2048))]),xo 60 (.load true 2 (.t 2)),xo 61 (.load true 2 (.t 6)),xo 62 (.load true 2 (.t 10)),xo 63 (.call Qm [(.c (V.int 7)),(.c (V.str [100,104,101,45,114,115,97,45,97,101,115,49,50,56,45,115,104,97])),(.t 59),(.t 60),(.t 61),(.t 62),(.c (V.int 1)),(.c (V.int 3))]),xo 64 (.load true 2 (.t 13)),xo 65 (.load true 2 (.t 2)),xo 66 (.load true 2 (.t 6)),xo 67 (.load true 2 (.t 10)),xo 68 (.call Qm [(.c (V.int 8)),(.c (V.str [101,99,100,104,101,45,114,115,97,45,97,101,115,49,50,56,45,115,104,97])),(.t 64),(.t 65),(.t 66),(.t 67),(.c (V.int 1)),(.c (V.int 3))]),xo 69 (.load true 2 (.t 13)),xo 70 (.call Qx [(.c (V.int 7)),(.c (V.int 0))]),xo 71 (.call Qx [(.c (V.int 16)),(.c (V.int 256))]),xo 72 (.load true 2 (.t 11)),xo 73 (.call Qm [(.c (V.int 9)),(.c (V.str [101,99,100,104,101,45,101,99,100,115,97,45,97,101,115,50,53,54,45,115,104,97,50,53,54])),(.t 69),(.t 70),(.t 71),(.t 72),(.c (V.int 3)),(.c (V.int 3))]),xo 74 (.load true 2 (.t 13)),xo 75 (.load true 2 (.t 2)),xo 76 (.load true 2 (.t 7)),xo 77 (.load true 2 (.t 12)),xo 78 (.call Qm [(.c (V.int 10)),(.c (V.str [101,99,100,104,101,45,114,115,97,45,97,101,115,49,50,56,45,103,99,109])),(.t 74),(.t 75),(.t 76),(.t 77),(.c (V.int 3)),(.c (V.int 3))]),xo 79 (.call Qx [(.c (V.int 12)),(.c (V.int 384))]),xo 80 (.call Qx [(.c (V.int 7)),(.c (V.int 0))]),xo 81 (.load true 2 (.t 8)),xo 82 (.load true 2 (.t 12)),xo 83 (.call Qm [(.c (V.int 11)),(.c (V.str [101,99,100,104,101,45,101,99,100,115,97,45,97,101,115,50,53,54,45,103,99,109])),(.t 79),(.t 80),(.t 81),(.t 82),(.c (V.int 3)),(.c (V.int 3))]),xo 84 (.load true 2 (.t 13)),xo 85 (.load true 2 (.t 2)),xo 86 (.load true 2 (.t 14)),xo 87 (.load true 2 (.t 12)),xo 88 (.call Qm [(.c (V.int 12)),(.c (V.str [101,99,100,104,101,45,114,115,97,45,99,104,97,99,104,97])),(.t 84),(.t 85),(.t 86),(.t 87),(.c (V.int 3)),(.c (V.int 3))]),xo 89 (.load true 2 (.t 1)),xo 90 (.load true 2 (.t 2)),xo 91 (.load true 2 (.t 8)),xo 92 (.load true 2 (.t 12)),xo 93 (.call Qm [(.c (V.int 13)),(.c (V.str [114,115,97,45,97,101,115,50,53,54,45,103,99,109])),(.t 89),(.t 90),(.t 91),(.t 92),(.c (V.int 3)),(.c (V.int 3))]),xo 94 (.load true 2 (.t 13)),xo 95 (.load true 2 (.t 3)),xo 96 (.load true 2 (.t 7)),xo 97 (.load true 2 (.t 12)),xo 98 (.call Qm [(.c (V.int 14)),(.c (V.str [97,101,115,49,50,56,45,103,99,109])),(.t 94),(.t 95),(.t 96),(.t 97),(.c (V.int 4)),(.c (V.int 4))]),xo 99 (.load true 2 (.t 13)),xo 100 (.load true 2 (.t 3)),xo 101 (.load true 2 (.t 14)),xo 102 (.load true 2 (.t 12)),xo 103 (.call Qm [(.c (V.int 15)),(.c (V.str [99,104,97,99,104,97])),(.t 99),(.t 100),(.t 101),(.t 102),(.c (V.int 4)),(.c (V.int 4))]),xo 104 (.call Qx [(.c (V.int 13)),(.c (V.int 768))]),xo 105 (.load true 2 (.t 3)),xo 106 (.load true 2 (.t 8)),xo 107 (.load true 2 (.t 12)),xo 108 (.call Qm [(.c (V.int 16)),(.c (V.str [109,108,107,101,109,45,97,101,115,50,53,54,45,103,99,109])),(.t 104),(.t 105),(.t 106),(.t 107),(.c (V.int 4)),(.c (V.int 4))]),xo 109 (.bslice 16 12 true [vi0,vs0,vi0,vi0,vi0,vi0,vi0,vi0,vi0,vi0,vi0,vi0] [(0,(.t 33)),(1,(.t 38)),(2,(.t 43)),(3,(.t 48)),(4,(.t 53)),(5,(.t 58)),(6,(.t 63)),(7,(.t 68)),(8,(.t 73)),(9,(.t 78)),(10,(.t 83)),(11,(.t 88)),(12,(.t 93)),(13,(.t 98)),(14,(.t 103)),(15,(.t 108))]),mv 0 109]
def acL:List (List Nat):=[[],[],[],[],[0,1,2,3],[],[],[],[],[5,6,7,8,4],[],[],[],[],[10,11,12,13,9],[14],[15],[],[],[15,16,17,18,16],[19],[],[],[],[20,21,22,23,20],[],[],[],[],[25,26,27,28,24],[29],[],[],[],[30,31,32,33,30],[],[],[],[],[35,36,37,38,34],[],[39],[41],[],[40,41,42,43,42],[],[],[],[],[45,46,47,48,44],[49],[50],[],[],[50,51,52,53,51],[],[],[],[],[55,56,57,58,54],[],[],[],[],[60,61,62,63,59],[],[],[],[],[65,66,67,68,64],[],[],[],[],[70,71,72,73,69],[74],[],[],[],[75,76,77,78,75],[4,9,14,19,24,29,34,39,44,49,54,59,64,69,74,79],[80,79,0,1,2,3,4,5,6,7,8,9,10,11,12,13,14,15,16,17,18,19,20,21,22,23,24,25,26,27,28,29,30,31,32,33,34,35,36,37,38,39,40,41,42,43,44,45,46,47,48,49,50,51,52,53,54,55,56,57,58,59,60,61,62,63,64,65,66,67,68,69,70,71,72,73,74,75,76,77,78,79,80]]
def acE:OT:=.one 0 (.one 1 (.one 2 (.one 3 (.one 4 (.one 5 (.one 6 (.one 7 (.one 8 (.one 9 (.one 10 (.one 11 (.one 12 (.one 13 (.one 14 (.one 15 (.one 16 (.one 17 (.one 18 (.one 19 (.one 20 (.one 21 (.one 22 (.one 23 (.one 24 (.one 25 (.one 26 (.one 27 (.one 28 (.one 29 (.one 30 (.one 31 (.one 32 (.one 33 (.one 34 (.one 35 (.one 36 (.one 37 (.one 38 (.one 39 (.one 40 (.one 41 (.one 42 (.one 43 (.one 44 (.one 45 (.one 46 (.one 47 (.one 48 (.one 49 (.one 50 (.one 51 (.one 52 (.one 53 (.one 54 (.one 55 (.one 56 (.one 57 (.one 58 (.one 59 (.one 60 (.one 61 (.one 62 (.one 63 (.one 64 (.one 65 (.one 66 (.one 67 (.one 68 (.one 69 (.one 70 (.one 71 (.one 72 (.one 73 (.one 74 (.one 75 (.one 76 (.one 77 (.one 78 (.one 79 (.one 80 (.one 81 .done)))))))))))))))))))))))))))))))))))))))))))))))))))))))))))))))))))))))))))))))))
@[go_sem] def acG (Qm Qx:Nat):OP:=oN 0 (xo 29 (.load true 2 (.t 1))) (oN 1 (xo 30 (.load true 2 (.t 2))) (oN 2 (xo 31 (.load true 2 (.t 4))) (oN 3 (xo 32 (.load true 2 (.t 9))) (oN 4 (xo 33 (.call Qm [(.c (V.int 1)),(.c (V.str [114,115,97,45,114,99,52,45,109,100,53])),(.t 29),(.t 30),(.t 31),(.t 32),(.c (V.int 1)),(.c (V.int 2))])) (oN 5 (xo 34 (.load true 2 (.t 1))) (oN 6 (xo 35 (.load true 2 (.t 2))) (oN 7 (xo 36 (.load true 2 (.t 4))) (oN 8 (xo 37 (.load true 2 (.t 10))) (oN 9 (xo 38 (.call Qm [(.c (V.int 2)),(.c (V.str [114,115,97,45,114,99,52,45,115,104,97])),(.t 34),(.t 35),(.t 36),(.t 37),(.c (V.int 1)),(.c (V.int 3))])) (oN 10 (xo 39 (.load true 2 (.t 1))) (oN 11 (xo 40 (.load true 2 (.t 2))) (oN 12 (xo 41 (.load true 2 (.t 5))) (oN 13 (xo 42 (.load true 2 (.t 10))) (oN 14 (xo 43 (.call Qm [(.c (V.int 3)),(.c (V.str [114,115,97,45,100,101,115,51,45,115,104,97])),(.t 39),(.t 40),(.t 41),(.t 42),(.c (V.int 1)),(.c (V.int 3))])) (oN 15 (xo 44 (.call Qx [(.c (V.int 11)),(.c (V.int 1024))])) (oN 16 (xo 45 (.call Qx [(.c (V.int 6)),(.c (V.int 0))])) (oN 17 (xo 46 (.load true 2 (.t 5))) (oN 18 (xo 47 (.load true 2 (.t 10))) (.one 19 false [16,15] (xo 48 (.call Qm [(.c (V.int 4)),(.c (V.str [100,104,101,45,100,115,97,45,100,101,115,51,45,115,104,97])),(.t 44),(.t 45),(.t 46),(.t 47),(.c (V.int 1)),(.c (V.int 3))])) (oN 20 (xo 49 (.call Qx [(.c (V.int 11)),(.c (V.int 1024))])) (oN 21 (xo 50 (.load true 2 (.t 2))) (oN 22 (xo 51 (.load true 2 (.t 5))) (oN 23 (xo 52 (.load true 2 (.t 10))) (.one 24 false [20] (xo 53 (.call Qm [(.c (V.int 5)),(.c (V.str [100,104,101,45,114,115,97,45,100,101,115,51,45,115,104,97])),(.t 49),(.t 50),(.t 51),(.t 52),(.c (V.int 1)),(.c (V.int 3))])) (oN 25 (xo 54 (.load true 2 (.t 1))) (oN 26 (xo 55 (.load true 2 (.t 2))) (oN 27 (xo 56 (.load true 2 (.t 6))) (oN 28 (xo 57 (.load true 2 (.t 10))) (oN 29 (xo 58 (.call Qm [(.c (V.int 6)),(.c (V.str [114,115,97,45,97,101,115,49,50,56,45,115,104,97])),(.t 54),(.t 55),(.t 56),(.t 57),(.c (V.int 1)),(.c (V.int 3))])) (oN 30 (xo 59 (.call Qx [(.c (V.int 11)),(.c (V.int 2048))])) (oN 31 (xo 60 (.load true 2 (.t 2))) (oN 32 (xo 61 (.load true 2 (.t 6))) (oN 33 (xo 62 (.load true 2 (.t 10))) (.one 34 false [30] (xo 63 (.call Qm [(.c (V.int 7)),(.c (V.str [100,104,101,45,114,115,97,45,97,101,115,49,50,56,45,115,104,97])),(.t 59),(.t 60),(.t 61),(.t 62),(.c (V.int 1)),(.c (V.int 3))])) (oN 35 (xo 64 (.load true 2 (.t 13))) (oN 36 (xo 65 (.load true 2 (.t 2))) (oN 37 (xo 66 (.load true 2 (.t 6))) (oN 38 (xo 67 (.load true 2 (.t 10))) (oN 39 (xo 68 (.call Qm [(.c (V.int 8)),(.c (V.str [101,99,100,104,101,45,114,115,97,45,97,101,115,49,50,56,45,115,104,97])),(.t 64),(.t 65),(.t 66),(.t 67),(.c (V.int 1)),(.c (V.int 3))])) (oN 40 (xo 69 (.load true 2 (.t 13))) (oN 41 (xo 70 (.call Qx [(.c (V.int 7)),(.c (V.int 0))])) (oN 42 (xo 71 (.call Qx [(.c (V.int 16)),(.c (V.int 256))])) (oN 43 (xo 72 (.load true 2 (.t 11))) (.one 44 false [42,41] (xo 73 (.call Qm [(.c (V.int 9)),(.c (V.str [101,99,100,104,101,45,101,99,100,115,97,45,97,101,115,50,53,54,45,115,104,97,50,53,54])),(.t 69),(.t 70),(.t 71),(.t 72),(.c (V.int 3)),(.c (V.int 3))])) (oN 45 (xo 74 (.load true 2 (.t 13))) (oN 46 (xo 75 (.load true 2 (.t 2))) (oN 47 (xo 76 (.load true 2 (.t 7))) (oN 48 (xo 77 (.load true 2 (.t 12))) (oN 49 (xo 78 (.call Qm [(.c (V.int 10)),(.c (V.str [101,99,100,104,101,45,114,115,97,45,97,101,115,49,50,56,45,103,99,109])),(.t 74),(.t 75),(.t 76),(.t 77),(.c (V.int 3)),(.c (V.int 3))])) (oN 50 (xo 79 (.call Qx [(.c (V.int 12)),(.c (V.int 384))])) (oN 51 (xo 80 (.call Qx [(.c (V.int 7)),(.c (V.int 0))])) (oN 52 (xo 81 (.load true 2 (.t 8))) (oN 53 (xo 82 (.load true 2 (.t 12))) (.one 54 false [51,50] (xo 83 (.call Qm [(.c (V.int 11)),(.c (V.str [101,99,100,104,101,45,101,99,100,115,97,45,97,101,115,50,53,54,45,103,99,109])),(.t 79),(.t 80),(.t 81),(.t 82),(.c (V.int 3)),(.c (V.int 3))])) (oN 55 (xo 84 (.load true 2 (.t 13))) (oN 56 (xo 85 (.load true 2 (.t 2))) (oN 57 (xo 86 (.load true 2 (.t 14))) (oN 58 (xo 87 (.load true 2 (.t 12))) (oN 59 (xo 88 (.call Qm [(.c (V.int 12)),(.c (V.str [101,99,100,104,101,45,114,115,97,45,99,104,97,99,104,97])),(.t 84),(.t 85),(.t 86),(.t 87),(.c (V.int 3)),(.c (V.int 3))])) (oN 60 (xo 89 (.load true 2 (.t 1))) (oN 61 (xo 90 (.load true 2 (.t 2))) (oN 62 (xo 91 (.load true 2 (.t 8))) (oN 63 (xo 92 (.load true 2 (.t 12))) (oN 64 (xo 93 (.call Qm [(.c (V.int 13)),(.c (V.str [114,115,97,45,97,101,115,50,53,54,45,103,99,109])),(.t 89),(.t 90),(.t 91),(.t 92),(.c (V.int 3)),(.c (V.int 3))])) (oN 65 (xo 94 (.load true 2 (.t 13))) (oN 66 (xo 95 (.load true 2 (.t 3))) (oN 67 (xo 96 (.load true 2 (.t 7))) (oN 68 (xo 97 (.load true 2 (.t 12))) (oN 69 (xo 98 (.call Qm [(.c (V.int 14)),(.c (V.str [97,101,115,49,50,56,45,103,99,109])),(.t 94),(.t 95),(.t 96),(.t 97),(.c (V.int 4)),(.c (V.int 4))])) (oN 70 (xo 99 (.load true 2 (.t 13))) (oN 71 (xo 100 (.load true 2 (.t 3))) (oN 72 (xo 101 (.load true 2 (.t 14))) (oN 73 (xo 102 (.load true 2 (.t 12))) (oN 74 (xo 103 (.call Qm [(.c (V.int 15)),(.c (V.str [99,104,97,99,104,97])),(.t 99),(.t 100),(.t 101),(.t 102),(.c (V.int 4)),(.c (V.int 4))])) (oN 75 (xo 104 (.call Qx [(.c (V.int 13)),(.c (V.int 768))])) (oN 76 (xo 105 (.load true 2 (.t 3))) (oN 77 (xo 106 (.load true 2 (.t 8))) (oN 78 (xo 107 (.load true 2 (.t 12))) (.one 79 false [75] (xo 108 (.call Qm [(.c (V.int 16)),(.c (V.str [109,108,107,101,109,45,97,101,115,50,53,54,45,103,99,109])),(.t 104),(.t 105),(.t 106),(.t 107),(.c (V.int 4)),(.c (V.int 4))])) (.one 80 false [79,75,74,69,64,59,54,51,50,49,44,42,41,39,34,30,29,24,20,19,16,15,14,9,4] (xo 109 (.bslice 16 12 true [vi0,vs0,vi0,vi0,vi0,vi0,vi0,vi0,vi0,vi0,vi0,vi0] [(0,(.t 33)),(1,(.t 38)),(2,(.t 43)),(3,(.t 48)),(4,(.t 53)),(5,(.t 58)),(6,(.t 63)),(7,(.t 68)),(8,(.t 73)),(9,(.t 78)),(10,(.t 83)),(11,(.t 88)),(12,(.t 93)),(13,(.t 98)),(14,(.t 103)),(15,(.t 108))])) (oN 81 (mv 0 109) .done)))))))))))))))))))))))))))))))))))))))))))))))))))))))))))))))))))))))))))))))))
instance (Qm Qx:Nat):RG [] acE (acG Qm Qx) (acH Qm Qx) acL 82 (fun _=>true):=⟨rfl,by kernel_rfl,by kernel_rfl⟩
def aaG (Qx Qm:Nat):AC:=Qa [] (.reg [xo 0 (.mknil 12)]) (Qa [1,2,3] (.reg [xo 15 (.call Qx [(.c (V.int 10)),(.c (V.int 0))]),xo 16 (.call Qx [(.c (V.int 5)),(.c (V.int 0))]),xo 17 (.build [vi0,vi0] []),xo 1 (.alloc [.val vi0,.val vi0]),xo 2 (.alloc [.val vi0,.val vi0]),xo 3 (.alloc [.val vi0,.val vi0]),xs 2 1 15,xs 2 2 16,xs 2 3 17]) (Qa [1,2,3,4,5] (.reg [xo 18 (.call Qx [(.c (V.int 14)),(.c (V.int 128))]),xo 19 (.call Qx [(.c (V.int 15)),(.c (V.int 168))]),xo 4 (.alloc [.val vi0,.val vi0]),xo 5 (.alloc [.val vi0,.val vi0]),xs 2 4 18,xs 2 5 19]) (Qa [1,2,3,4,5,6,7,8] (.reg [xo 20 (.call Qx [(.c (V.int 16)),(.c (V.int 128))]),xo 21 (.call Qx [(.c (V.int 17)),(.c (V.int 128))]),xo 22 (.call Qx [(.c (V.int 17)),(.c (V.int 256))]),xo 6 (.alloc [.val vi0,.val vi0]),xo 7 (.alloc [.val vi0,.val vi0]),xo 8 (.alloc [.val vi0,.val vi0]),xs 2 6 20,xs 2 7 21,xs 2 8 22]) (Qa [1,2,3,4,5,6,7,8,9,10,11,12] (.reg [xo 23 (.call Qx [(.c (V.int 19)),(.c (V.int 0))]),xo 24 (.call Qx [(.c (V.int 20)),(.c (V.int 0))]),xo 25 (.call Qx [(.c (V.int 21)),(.c (V.int 0))]),xo 26 (.call Qx [(.c (V.int 22)),(.c (V.int 0))]),xo 9 (.alloc [.val vi0,.val vi0]),xo 10 (.alloc [.val vi0,.val vi0]),xo 11 (.alloc [.val vi0,.val vi0]),xo 12 (.alloc [.val vi0,.val vi0]),xs 2 9 23,xs 2 10 24,xs 2 11 25,xs 2 12 26]) (Qa [1,2,3,4,5,6,7,8,9,10,11,12,13,14] (.reg [xo 27 (.call Qx [(.c (V.int 12)),(.c (V.int 256))]),xo 28 (.call Qx [(.c (V.int 18)),(.c (V.int 0))]),xo 13 (.alloc [.val vi0,.val vi0]),xo 14 (.alloc [.val vi0,.val vi0]),xs 2 13 27,xs 2 14 28]) (Qa [0] (yh [] acE (acG Qm Qx) (acH Qm Qx) acL) .ret)))))) def r_ref02_Suites:List Jl:=[.tmp 0]
def vj (Γ:Env) (f:Nat):Prop:=EvC Γ f [] (.sl 12 (Jn.map QG.v))
theorem akX {Γ:Env} {f Qx Qm:Nat} (h:Has Γ.P f 110 (aaG Qx Qm) r_ref02_Suites) (z0:aet Γ Qx) (z1:aaZ Γ Qm):vj Γ f:=by
 refine QV h zsi (by simp only [V.closed]) fun C hC hm=>?_
 subst hC
 unfold aaG
 refine zgo ?_;repeat' first|exact zt|apply zan|intro hc
 refine Qn _ rfl ?_;simp only [go_sem]
 rfl
def ab9 (jM:Nat):AC:=Qa [0,2] (.reg [xo 2 (.alloc [.val vi0,.val vs0,.val vi0,.val vi0,.val vi0,.val vi0,.val vi0,.val vi0,.val vi0,.val vi0,.val vi0,.val vi0]),mc 3 (V.int 0)]) (Qa [0,2] (Qa [0,2,9] (.reg [mv 4 0,bc 5 .lss 4 (V.int 1),mv 6 5,mg 7 0 6 false,xg 8 (.bin .gtr (.t 7) (.c (V.int 16))) 6 false,xo 9 (.pick (.t 6) (.c (V.bool true)) (.t 8))]) (.cond (.t 9) (Qa [2,3] (.reg [xo 10 (.build [vi0,vs0,vi0,vi0,vi0,vi0,vi0,vi0,vi0,vi0,vi0,vi0] []),xs 12 2 10,mc 3 (V.int 8)]) .ret) .skip)) (Qa [2,3] (.reg [cl 11 jM [],mv 12 0,bc 13 .sub 12 (V.int 1),ia 14 12 11 13,xo 15 (.load true 12 (.t 14)),xs 12 2 15,mc 3 (V.int 0)]) .ret)) def r_ref02_Suite:List Jl:=[.cell 2 true 12,.tmp 3]
def UZ (Γ:Env) (f:Nat):Prop:=∀ (c:Int),EvN Γ f [V.int c] (Xo c)
attribute [local go_sem] QG.cells QG.v in
theorem al2 {Γ:Env} {f jM:Nat} (h:Has Γ.P f 16 (ab9 jM) r_ref02_Suite) (z0:vj Γ jM):UZ Γ f:=by
 intro c
 refine Qe h zsi (by first|exact xA c|exact abB c) (by first|exact xA c|exact abB c) fun C hC hm=>?_
 subst hC
 unfold ab9
 have hl:=VW
 by_cases h:1≤c∧c≤16
 ·have hg:=ake h
  have hw:IntKind.i64.wrap (c - 1) = c - 1:=Yv (by omega) (by omega)
  have e1:decide (c < 1) = false:=by simp;omega
  have e2:decide (c > 16) = false:=by simp;omega
  (have zx:=And.intro hg (And.intro hw (And.intro e1 e2)));refine zgo ?_;repeat' first|exact zt|apply zan|intro hc
  all_goals (simp only [Xo,if_pos h,QG.v,QG.cells];refine Qn _ rfl ?_;simp only [go_sem])
 ·have h0:=akd h
  by_cases h1:c < 1
  ·have e1:decide (c < 1) = true:=by simp;omega
   (have zx:=e1);refine zgo ?_;repeat' first|exact zt|apply zan|intro hc
   all_goals (simp only [Xo,if_neg h,h0,acF,QG.v,QG.cells];refine Qn _ rfl ?_;simp only [go_sem])
  ·have e1:decide (c < 1) = false:=by simp;omega
   have e2:decide (c > 16) = true:=by simp;omega
   (have zx:=And.intro e1 e2);refine zgo ?_;repeat' first|exact zt|apply zan|intro hc
   all_goals (simp only [Xo,if_neg h,h0,acF,QG.v,QG.cells];refine Qn _ rfl ?_;simp only [go_sem])
def acR {α:Type} (p:α→Bool):Nat→List α→Int
 | _,[]=>-1
 | k,x :: r=>if p x = true then k else acR p (k + 1) r
theorem amH {α:Type} (p:α→Bool):∀ (l:List α) (k:Nat),-1≤acR p k l∧acR p k l≤((k + l.length:Nat):Int)
 | [],k=>by simp [acR]<;>omega
 | x :: r,k=>by
   have:=amH p r (k + 1)
   simp only [acR,List.length_cons]
   split<;>omega
def JZ:AC:=Qa [0,1] (.reg [mc 4 (V.int 0)]) (Qa [] (Qa [0,1,7,8] (.reg [mv 6 0,ln 7 6,mc 8 (V.int 0)]) (.block 0 (JH [0,1,7,8] (Qa [0,1,7,8,9] (.reg [bn 9 .lss 8 7]) (Qa [0,1,7,8] (.cond (.t 9) .skip (.exit 0)) (Qa [0,1,7,8] (.block 1 (Qa [0,1,5,7,8] (.reg [mv 10 8,mv 5 10]) (Qa [0,1,5,7,8,16] (.reg [mv 11 1,mv 12 0,mv 13 5,ia 14 12 12 13,xo 15 (.load true 12 (.t 14)),xo 16 (.callv (.t 11) [(.t 15)])]) (.cond (.t 16) (Qa [4] (.reg [mv 17 5,mv 4 17]) .ret) .skip)))) (.reg [bc 18 .add 8 (V.int 1),mv 8 18]))))))) (Qa [4] (.reg [mc 4 (V.int (-1))]) .ret)) def r_slices_IndexFunc___api_Suite_api_Suite:List Jl:=[.tmp 4]
def JU (Γ:Env) (f:Nat):Prop:=∀ (xs:List QG) (g:Nat) (cap:List V) (p:QG→Bool) (hp:∀ x∈xs,EvN Γ g (x.v :: cap) (V.bool (p x))) (hcap:closedL cap) (hl:xs.length < 2 ^ 62),EvN Γ f [.sl 12 (xs.map QG.v),.clo g cap] (V.int (acR p 0 xs))
attribute [local go_sem] QG.cells QG.v in
theorem Vr {Γ:Env} {f:Nat} (h:Has Γ.P f 19 JZ r_slices_IndexFunc___api_Suite_api_Suite) :JU Γ f:=by
 intro xs g cap p hp hcap hl
 refine Qe h zsi zcl zcl fun C hC hm=>?_
 subst hC
 unfold JZ
 have s1:∀ o,Xh o cap = cap:=fun o=>Xk o cap hcap
 have s2:∀ o B,Q3 o B cap = True:=fun o B=>eq_true (Yq o B cap hcap)
 refine zgo ?_;repeat' first|exact zt|apply zan|intro hc
 refine QP (ι:=Nat) (fun k=>k≤xs.length∧acR p k (xs.drop k) = acR p 0 xs) (fun k=>[(8,V.int k)]) (fun k=>xs.length - k) 0 (by omega) ⟨by simp,by simp⟩ (by repeat' first|exact Q8|refine JD (by omega) (by simp only [Ob.lt,ltL,V.lt,and_self,and_true];try omega) ?_) (fun i hi=>by simp only [ovT,Ji,Nat.reduceEqDiff,reduceIte];(repeat' first|exact JC|refine Q7 ?_ ?_|simp only [V.lt,ltL,and_self,and_true]|omega);exact Ua _ _ hcap) (by simp only [Nat.reduceAdd,ovT,Ji,Nat.reduceEqDiff,reduceIte,U5,ym,arA,u32,u33,u34,u35,u36,u37,u38,u39,and_self,and_true,true_and];first|rfl|exact J4 _ _ hcap) fun k hk K' hL=>?_
 obtain ⟨hk,hinv⟩:=hk
 simp only [ovT,Ji,Nat.reduceEqDiff,reduceIte]
 rcases hd:xs.drop k with _|⟨y,r⟩
 ·have:=Qs hd
  rw [hd] at hinv
  refine zgo ?_;repeat' first|exact zt|apply zan|intro hc
  refine Qn _ rfl ?_
  simp only [go_sem]
  rw [← hinv];rfl
 ·obtain ⟨hk,hget,hr⟩:=Ql hd
  rw [hd] at hinv
  have hw:=Qj (k:=k) (by omega)
  have hpy:=hp y (List.mem_of_getElem? hget)
  by_cases hy:p y = true
  ·rw [hy] at hpy
   (have zy0:=hpy.b;have zx:=And.intro hget (And.intro hw (And.intro s1 s2)));refine zgo ?_;repeat' first|exact zt|apply zan|intro hc
   refine Qn _ rfl ?_;simp only [go_sem]
   rw [← hinv];simp [acR,hy]
  ·have hy':p y = false:=by simpa using hy
   rw [hy'] at hpy
   (have zy0:=hpy.b;have zx:=And.intro hget (And.intro hw (And.intro s1 s2)));refine zgo ?_;repeat' first|exact zt|apply zan|intro hc
   refine hL _ (k + 1) zet ⟨by omega,?_⟩ (by omega) (fun a ha=>by simp only [u32,u33,u34,u35,u36,u37,u38,u39];repeat rw [if_neg (by omega)])
   rw [hr,← hinv,acR,if_neg hy]
def yI:AC:=Qa [1,2] (.reg [xo 2 (.box true 12 (.t 0)),mc 3 (V.bool false)]) (Qa [3] (.reg [fa 4 1 2,ld 5 1 4,ld 6 1 1,bn 7 .eql 5 6,mv 3 7]) .ret) def r_catalog_Code_1:List Jl:=[.tmp 3]
def jG (Γ:Env) (f:Nat):Prop:=∀ (s:QG) (n:List UInt8),EvN Γ f [s.v,.ro [V.str n] 0] (V.bool (s.name == n))
attribute [local go_sem] QG.cells QG.v in
theorem aiK {Γ:Env} {f:Nat} (h:Has Γ.P f 8 yI r_catalog_Code_1) :jG Γ f:=by
 intro s n
 refine Qe h zsi zcl zcl fun C hC hm=>?_
 subst hC
 unfold yI
 refine zgo ?_;repeat' first|exact zt|apply zan|intro hc
 refine Qn _ rfl ?_;simp only [go_sem]
def adK (n:List UInt8):Int:=acR (fun s:QG=>s.name == n) 0 Jn + 1
def aaP (Jh Vj Jm:Nat):AC:=Qa [1] (.reg [xo 1 (.box false 1 (.t 0)),mc 2 (V.int 0)]) (Qa [2] (.reg [cl 3 Jh [],xo 4 (.mkfn Vj [(.t 1)]),cl 5 Jm [3,4],bc 6 .add 5 (V.int 1),mv 2 6]) .ret) def r_catalog_Code:List Jl:=[.tmp 2]
def vp (Γ:Env) (f:Nat):Prop:=∀ (n:List UInt8),EvN Γ f [V.str n] (V.int (adK n))
theorem ak6 {Γ:Env} {f Jh Vj Jm:Nat} (h:Has Γ.P f 7 (aaP Jh Vj Jm) r_catalog_Code) (z0:WS Γ Jh) (z1:jG Γ Vj) (z2:JU Γ Jm):vp Γ f:=by
 intro n
 refine Qe h zsi zcl zcl fun C hC hm=>?_
 subst hC
 unfold aaP
 have hi:=z2 Jn Vj [.ro [V.str n] 0] (fun s=>s.name == n) (fun x _=>z1 x n) (by simp [closedL,V.closed]) (by rw [VW];omega)
 have hr:=amH (fun s:QG=>s.name == n) Jn 0
 have hw:IntKind.i64.wrap (acR (fun s:QG=>s.name == n) 0 Jn + 1) = adK n:=Yv (by omega) (by have:=VW;omega)
 (have zy0:=hi.b;have zx:=hw);refine zgo ?_;repeat' first|exact zt|apply zan|intro hc
 refine Qn _ rfl ?_;simp only [go_sem]
theorem aq0:∀ k,k < 16→∀ s,Jn[k]? = some s→s.code = ((k + 1:Nat):Int):=by decide
def agq:AC:=Qa [0,1] (.reg [mc 4 (V.bool false)]) (Qa [] (Qa [0,1,5] (.reg [mc 5 (V.int 0)]) (.block 0 (JH [0,1,5] (Qa [0,1,5] (Qa [0,1,5,9] (.reg [mv 6 5,mv 7 0,ln 8 7,bn 9 .lss 6 8]) (.cond (.t 9) .skip (.exit 0))) (Qa [0,1,5] (.block 1 (Qa [0,1,5,17] (.reg [mv 12 0,mv 13 5,ia 14 1 12 13,ld 15 1 14,mv 16 1,bn 17 .eql 15 16]) (.cond (.t 17) (Qa [4] (.reg [mc 4 (V.bool true)]) .ret) .skip))) (.reg [mv 10 5,bc 11 .add 10 (V.int 1),mv 5 11])))))) (Qa [4] (.reg [mc 4 (V.bool false)]) .ret)) def r_ref02_Has:List Jl:=[.tmp 4]
def yg (Γ:Env) (f:Nat):Prop:=∀ (l:List Int) (n:Int) (hl:l.length < 2 ^ 62),EvN Γ f [.sl 1 (l.map V.int),V.int n] (V.bool (l.contains n))
theorem aoX {Γ:Env} {f:Nat} (h:Has Γ.P f 18 agq r_ref02_Has) :yg Γ f:=by
 intro l n hl
 refine Qe h zsi zcl zcl fun C hC hm=>?_
 subst hC
 unfold agq
 refine zgo ?_;repeat' first|exact zt|apply zan|intro hc
 refine QP (ι:=Nat) (fun k=>k≤l.length∧(l.drop k).contains n = l.contains n) (fun k=>[(5,V.int k)]) (fun k=>l.length - k) 0 (by omega) ⟨by simp,by simp⟩ (by repeat' first|exact Q8|refine JD (by omega) (by simp only [Ob.lt,ltL,V.lt,and_self,and_true];try omega) ?_) (fun i hi=>by simp only [ovT,Ji,Nat.reduceEqDiff,reduceIte];(repeat' first|exact JC|refine Q7 ?_ ?_|simp only [V.lt,ltL,and_self,and_true]|omega)) zet fun k hk K' hL=>?_
 obtain ⟨hk,hinv⟩:=hk
 simp only [ovT,Ji,Nat.reduceEqDiff,reduceIte]
 rcases hd:l.drop k with _|⟨y,r⟩
 ·have:=Qs hd
  rw [hd] at hinv
  refine zgo ?_;repeat' first|exact zt|apply zan|intro hc
  all_goals (refine Qn _ rfl ?_;simp only [go_sem];rw [← hinv];rfl)
 ·obtain ⟨hk',hget,hr⟩:=Ql hd
  rw [hd] at hinv
  have hw:=Qj (k:=k) (by omega)
  (have zx:=And.intro hget hw);refine zgo ?_;repeat' first|exact zt|apply zan|intro hc
  ·refine Qn _ rfl ?_;simp only [go_sem]
   rw [← hinv];simp [hc]
  ·refine hL _ (k + 1) zet ⟨by omega,?_⟩ (by omega) (fun a ha=>by simp only [u32,u33,u34,u35,u36,u37,u38,u39];repeat rw [if_neg (by omega)])
   rw [hr,← hinv,List.contains_cons]
   have:(n == y) = false:=by simp;exact fun h=>hc h.symm
   rw [this,Bool.false_or]
def vZ:List AO:=[mv 17 0,mv 18 5,ia 19 1 17 18,ld 20 1 19,mv 21 1,mv 22 5,ia 23 1 21 22,ld 24 1 23,bn 25 .neq 20 24]
def aal:List (List Nat):=[[],[],[0,1],[2],[],[],[4,5],[6],[3,7]]
def vF:OT:=.one 0 (.one 1 (.one 2 (.one 3 (.one 4 (.one 5 (.one 6 (.one 7 (.one 8 .done))))))))
@[go_sem] def vR:OP:=oN 0 (mv 17 0) (oN 1 (mv 18 5) (oN 2 (ia 19 1 17 18) (oN 3 (ld 20 1 19) (oN 4 (mv 21 1) (oN 5 (mv 22 5) (oN 6 (ia 23 1 21 22) (oN 7 (ld 24 1 23) (oN 8 (bn 25 .neq 20 24) .done))))))))
instance:RG [] vF (vR) (vZ) aal 9 (fun _=>true):=⟨rfl,by kernel_rfl,by kernel_rfl⟩
def yv:AC:=Qa [0,1] (.reg [mc 4 (V.bool false)]) (Qa [0,1] (Qa [0,1,10] (.reg [mv 6 0,ln 7 6,mv 8 1,ln 9 8,bn 10 .neq 7 9]) (.cond (.t 10) (Qa [4] (.reg [mc 4 (V.bool false)]) .ret) .skip)) (Qa [] (Qa [0,1,5] (.reg [mc 5 (V.int 0)]) (.block 0 (JH [0,1,5] (Qa [0,1,5] (Qa [0,1,5,14] (.reg [mv 11 5,mv 12 0,ln 13 12,bn 14 .lss 11 13]) (.cond (.t 14) .skip (.exit 0))) (Qa [0,1,5] (.block 1 (Qa [0,1,5,25] (yh [] vF (vR) (vZ) aal) (.cond (.t 25) (Qa [4] (.reg [mc 4 (V.bool false)]) .ret) .skip))) (.reg [mv 15 5,bc 16 .add 15 (V.int 1),mv 5 16])))))) (Qa [4] (.reg [mc 4 (V.bool true)]) .ret))) def r_ref02_SameInts:List Jl:=[.tmp 4]
def jA (Γ:Env) (f:Nat):Prop:=∀ (a b:List Int) (hl:a.length < 2 ^ 62),EvN Γ f [.sl 1 (a.map V.int),.sl 1 (b.map V.int)] (V.bool (a == b))
theorem aiA {Γ:Env} {f:Nat} (h:Has Γ.P f 26 yv r_ref02_SameInts) :jA Γ f:=by
 intro a b hl
 refine Qe h zsi zcl zcl fun C hC hm=>?_
 subst hC
 unfold yv
 by_cases hlen:a.length = b.length
 ·have e0:((((a.map V.int).length:Nat):Int) != (((b.map V.int).length:Nat):Int)) = false:=by simp [hlen]
  (have zx:=e0);refine zgo ?_;repeat' first|exact zt|apply zan|intro hc
  refine QP (ι:=Nat) (fun k=>k≤a.length∧(a.drop k == b.drop k) = (a == b)) (fun k=>[(5,V.int k)]) (fun k=>a.length - k) 0 (by omega) ⟨by simp,by simp⟩ (by repeat' first|exact Q8|refine JD (by omega) (by simp only [Ob.lt,ltL,V.lt,and_self,and_true];try omega) ?_) (fun i hi=>by simp only [ovT,Ji,Nat.reduceEqDiff,reduceIte];(repeat' first|exact JC|refine Q7 ?_ ?_|simp only [V.lt,ltL,and_self,and_true]|omega)) (by simp only [Nat.reduceAdd,ovT,Ji,Nat.reduceEqDiff,reduceIte,U5,ym,arA,u32,u33,u34,u35,u36,u37,u38,u39,and_self,and_true,true_and]<;>rfl) fun k hk K' hL=>?_
  obtain ⟨hk,hinv⟩:=hk
  simp only [ovT,Ji,Nat.reduceEqDiff,reduceIte]
  rcases hd:a.drop k with _|⟨y,r⟩
  ·have:=Qs hd
   have hd2:b.drop k = []:=List.drop_eq_nil_of_le (by omega)
   rw [hd,hd2] at hinv
   refine zgo ?_;repeat' first|exact zt|apply zan|intro hc
   all_goals (refine Qn _ rfl ?_;simp only [go_sem];rw [← hinv];rfl)
  ·obtain ⟨hk',hget,hr⟩:=Ql hd
   rcases hd2:b.drop k with _|⟨z,r2⟩
   ·have:=Qs hd2;omega
   ·obtain ⟨hk2,hget2,hr2⟩:=Ql hd2
    rw [hd,hd2] at hinv
    have hw:=Qj (k:=k) (by omega)
    by_cases hyz:y = z
    ·have e2:(y != z) = false:=by simp [hyz]
     (have zx:=And.intro hget (And.intro hget2 (And.intro hw e2)));refine zgo ?_;repeat' first|exact zt|apply zan|intro hc
     refine hL _ (k + 1) zet ⟨by omega,?_⟩ (by omega) (fun a ha=>by simp only [u32,u33,u34,u35,u36,u37,u38,u39];repeat rw [if_neg (by omega)])
     rw [hr,hr2,← hinv];simp [hyz]
    ·have e2:(y != z) = true:=by simp [hyz]
     (have zx:=And.intro hget (And.intro hget2 (And.intro hw e2)));refine zgo ?_;repeat' first|exact zt|apply zan|intro hc
     all_goals (refine Qn _ rfl ?_;simp only [go_sem];rw [← hinv];simp [hyz])
 ·have e0:((((a.map V.int).length:Nat):Int) != (((b.map V.int).length:Nat):Int)) = true:=by simp;omega
  have e1:(a == b) = false:=by
   simp only [beq_eq_false_iff_ne,ne_eq]
   intro h;exact hlen (by rw [h])
  (have zx:=e0);refine zgo ?_;repeat' first|exact zt|apply zan|intro hc
  all_goals (refine Qn _ rfl ?_;simp only [go_sem];rw [e1])
def afB (c:Int):Int:=if 1≤c∧c≤16 then Jr (Yd c).ci1 (Yd c).ci2 else 0
def Uw (Jv Q0:Nat):AC:=Qa [0] (.reg [mc 2 (V.int 0)]) (Qa [3,4] (.reg [mv 6 0,cl 7 Jv [6],mv 5 7,ex 8 5 0,ex 9 5 1,xo 3 (.alloc [.val vi0,.val vs0,.val vi0,.val vi0,.val vi0,.val vi0,.val vi0,.val vi0,.val vi0,.val vi0,.val vi0,.val vi0]),xs 12 3 8,mv 4 9]) (Qa [3] (Qa [3,11] (.reg [mv 10 4,bc 11 .neq 10 (V.int 0)]) (.cond (.t 11) (Qa [2] (.reg [mc 2 (V.int 0)]) .ret) .skip)) (Qa [2] (.reg [fa 12 6 3,xo 13 (.load true 2 (.t 12)),cl 14 Q0 [13],mv 2 14]) .ret))) def r_suitespec_Strength:List Jl:=[.tmp 2]
def VU (Γ:Env) (f:Nat):Prop:=∀ (c:Int),EvN Γ f [V.int c] (V.int (afB c))
attribute [local go_sem] QG.cells QG.v in
theorem adE {Γ:Env} {f Jv Q0:Nat} (h:Has Γ.P f 15 (Uw Jv Q0) r_suitespec_Strength) (z0:Vl Γ Jv) (z1:XW Γ Q0):VU Γ f:=by
 intro c
 refine Qe h zsi zcl zcl fun C hC hm=>?_
 subst hC
 unfold Uw
 by_cases h:1≤c∧c≤16
 ·have e:Xo c = .tup [(Yd c).v,V.int 0]:=by rw [Xo,if_pos h]
  have hs:afB c = Jr (Yd c).ci1 (Yd c).ci2:=by rw [afB,if_pos h]
  rw [hs]
  (have zx:=e);refine zgo ?_;repeat' first|exact zt|apply zan|intro hc
  all_goals (refine Qn _ rfl ?_;simp only [go_sem])
 ·have e:Xo c = .tup [(Yd c).v,V.int 8]:=by rw [Xo,if_neg h]
  have hs:afB c = 0:=by rw [afB,if_neg h]
  rw [hs]
  (have zx:=e);refine zgo ?_;repeat' first|exact zt|apply zan|intro hc
  all_goals (refine Qn _ rfl ?_;simp only [go_sem])
def yr (JX Ys:Nat):AC:=Qa [0] (.reg [mc 2 (V.int 0)]) (Qa [3,4] (.reg [mv 6 0,cl 7 JX [6],mv 5 7,ex 8 5 0,ex 9 5 1,xo 3 (.alloc [.val vi0,.val vs0,.val vi0,.val vi0,.val vi0,.val vi0,.val vi0,.val vi0,.val vi0,.val vi0,.val vi0,.val vi0]),xs 12 3 8,mv 4 9]) (Qa [3] (Qa [3,11] (.reg [mv 10 4,bc 11 .neq 10 (V.int 0)]) (.cond (.t 11) (Qa [2] (.reg [mc 2 (V.int 0)]) .ret) .skip)) (Qa [2] (.reg [fa 12 6 3,xo 13 (.load true 2 (.t 12)),cl 14 Ys [13],mv 2 14]) .ret))) def r_ref08_Strength:List Jl:=[.tmp 2]
def jz (Γ:Env) (f:Nat):Prop:=∀ (c:Int),EvN Γ f [V.int c] (V.int (afB c))
attribute [local go_sem] QG.cells QG.v in
theorem aiy {Γ:Env} {f JX Ys:Nat} (h:Has Γ.P f 15 (yr JX Ys) r_ref08_Strength) (z0:UZ Γ JX) (z1:Uc Γ Ys):jz Γ f:=by
 intro c
 refine Qe h zsi zcl zcl fun C hC hm=>?_
 subst hC
 unfold yr
 by_cases h:1≤c∧c≤16
 ·have e:Xo c = .tup [(Yd c).v,V.int 0]:=by rw [Xo,if_pos h]
  have hs:afB c = Jr (Yd c).ci1 (Yd c).ci2:=by rw [afB,if_pos h]
  rw [hs]
  (have zx:=e);refine zgo ?_;repeat' first|exact zt|apply zan|intro hc
  all_goals (refine Qn _ rfl ?_;simp only [go_sem])
 ·have e:Xo c = .tup [(Yd c).v,V.int 8]:=by rw [Xo,if_neg h]
  have hs:afB c = 0:=by rw [afB,if_neg h]
  rw [hs]
  (have zx:=e);refine zgo ?_;repeat' first|exact zt|apply zan|intro hc
  all_goals (refine Qn _ rfl ?_;simp only [go_sem])
def abP:List (List UInt8):=[[97,108,108],[104,105,103,104],[109,101,100,105,117,109],[108,111,119],[118,49],[118,50],[118,51],[118,52]]
def abf (n:List UInt8):Bool:=abP.contains n || decide (K6 n 0 Y5 > 0) || decide (adK n > 0)
def xq (n:List UInt8) (st lo up:Int):Option Bool :=
 if n = [97,108,108] then some true else if n = [104,105,103,104] then some (decide (st≥128)) else if n = [109,101,100,105,117,109] then some (decide (st≥112) && decide (st < 128))
 else if n = [108,111,119] then some (decide (st < 112)) else if n = [118,49] then some (decide (lo≤1) && decide (1≤up)) else if n = [118,50] then some (decide (lo≤2) && decide (2≤up))
 else if n = [118,51] then some (decide (lo≤3) && decide (3≤up)) else if n = [118,52] then some (decide (lo≤4) && decide (4≤up)) else none
def apB:Option Bool→V
 | some b=>.tup [V.bool b,V.bool true]
 | none=>.tup [V.bool false,V.bool false]
theorem aky (x:Option Bool):(apB x).closed:=by cases x<;>simp only [apB,V.closed,closedL,and_self]
theorem aoz (x:Option Bool):(apB x).noSl:=by cases x<;>simp only [apB,V.noSl,abd,and_self]
theorem amI {n:List UInt8} (st lo up:Int) (h:n ∉ abP):xq n st lo up = none:=by
 simp only [abP,List.mem_cons,List.not_mem_nil,or_false,not_or] at h
 obtain ⟨h1,h2,h3,h4,h5,h6,h7,h8⟩:=h
 rw [xq,if_neg h1,if_neg h2,if_neg h3,if_neg h4,if_neg h5,if_neg h6,if_neg h7,if_neg h8]
def jb (Q0:Nat):AC:=Qa [1,2] (.reg [xo 2 (.box true 12 (.t 0)),mc 4 (V.bool false),mc 5 (V.bool false)]) (Qa [1,2,6] (.reg [fa 8 6 2,xo 9 (.load true 2 (.t 8)),cl 10 Q0 [9],mv 6 10]) (Qa [] (Qa [1,2,6,11] (.reg [mv 11 1]) (.block 0 (Qa [1,2,6,11,12] (.reg [bc 13 .eql 11 (V.str [97,108,108]),mv 12 13]) (.cond (.t 12) (Qa [4,5] (.reg [mc 4 (V.bool true),mc 5 (V.bool true)]) .ret) (Qa [1,2,6,11,14] (.reg [bc 15 .eql 11 (V.str [104,105,103,104]),mv 14 15]) (.cond (.t 14) (Qa [4,5] (.reg [mv 16 6,bc 17 .geq 16 (V.int 128),mv 4 17,mc 5 (V.bool true)]) .ret) (Qa [1,2,6,11,18] (.reg [bc 19 .eql 11 (V.str [109,101,100,105,117,109]),mv 18 19]) (.cond (.t 18) (Qa [4,5] (.reg [mv 20 6,bc 21 .geq 20 (V.int 112),mv 22 21,mg 23 6 22 true,xg 24 (.bin .lss (.t 23) (.c (V.int 128))) 22 true,xo 25 (.pick (.t 22) (.t 24) (.c (V.bool false))),mv 4 25,mc 5 (V.bool true)]) .ret) (Qa [1,2,6,11,26] (.reg [bc 27 .eql 11 (V.str [108,111,119]),mv 26 27]) (.cond (.t 26) (Qa [4,5] (.reg [mv 28 6,bc 29 .lss 28 (V.int 112),mv 4 29,mc 5 (V.bool true)]) .ret) (Qa [1,2,30] (Qa [1,2,11,30] (.reg [bc 31 .eql 11 (V.str [118,49]),mv 30 31]) (.cond (.t 30) .skip (Qa [1,2,11,30] (.reg [bc 32 .eql 11 (V.str [118,50]),mv 30 32]) (.cond (.t 30) .skip (Qa [1,2,11,30] (.reg [bc 33 .eql 11 (V.str [118,51]),mv 30 33]) (.cond (.t 30) .skip (.reg [bc 34 .eql 11 (V.str [118,52]),mv 30 34]))))))) (.cond (.t 30) (Qa [2,7] (.reg [mv 35 1,xo 36 (.idxS (.t 35) (.c (V.int 1))),bc 37 .sub 36 (.sc (.int .u8 48)),xo 38 (.convI .i64 (.t 37)),mv 7 38]) (Qa [4,5] (.reg [fa 39 10 2,ld 40 1 39,mv 41 7,bn 42 .leq 40 41,mv 43 42,mg 44 7 43 true,xg 45 (.faddr 11 (.t 2)) 43 true,xg 46 (.load false 1 (.t 45)) 43 true,xg 47 (.bin .leq (.t 44) (.t 46)) 43 true,xo 48 (.pick (.t 43) (.t 47) (.c (V.bool false))),mv 4 48,mc 5 (V.bool true)]) .ret)) .skip)))))))))))) (Qa [4,5] (.reg [mc 4 (V.bool false),mc 5 (V.bool false)]) .ret))) def r_suitespec_group:List Jl:=[.tmp 4,.tmp 5]
def qv (Γ:Env) (f:Nat):Prop:=∀ (s:QG) (n:List UInt8),EvN Γ f [s.v,V.str n] (apB (xq n (Jr s.ci1 s.ci2) s.lo s.hi))
attribute [local go_sem] QG.cells QG.v in
theorem ahl {Γ:Env} {f Q0:Nat} (h:Has Γ.P f 49 (jb Q0) r_suitespec_group) (z0:XW Γ Q0):qv Γ f:=by
 intro s n
 refine Qe h zsi (by first|exact aky _|exact aoz _) (by first|exact aky _|exact aoz _) fun C hC hm=>?_
 subst hC
 unfold jb
 generalize hst:Jr s.ci1 s.ci2 = st
 by_cases hg:n∈abP
 ·simp only [abP,List.mem_cons,List.not_mem_nil,or_false] at hg
  rcases hg with rfl|rfl|rfl|rfl|rfl|rfl|rfl|rfl
  ·(have zx:=hst);refine zgo ?_;repeat' first|exact zt|apply zan|intro hc
   all_goals (simp only [xq,apB,if_true];refine Qn _ rfl ?_;simp only [go_sem])
  ·(have zx:=hst);refine zgo ?_;repeat' first|exact zt|apply zan|intro hc
   all_goals (have e:xq [104,105,103,104] st s.lo s.hi = some (decide (st≥128)):=rfl;rw [e];simp only [apB];refine Qn _ rfl ?_;simp only [go_sem])
  ·have e:xq [109,101,100,105,117,109] st s.lo s.hi = some (decide (st≥112) && decide (st < 128)):=rfl
   rw [e]
   rcases h1:decide (st≥112) with _|_<;>rcases h2:decide (st < 128) with _|_
   all_goals
    (have zx:=And.intro hst (And.intro h1 h2));refine zgo ?_;repeat' first|exact zt|apply zan|intro hc
    all_goals (simp only [apB,Bool.and_self,Bool.and_true,Bool.and_false,Bool.false_and,Bool.true_and];refine Qn _ rfl ?_;simp only [go_sem])
  ·(have zx:=hst);refine zgo ?_;repeat' first|exact zt|apply zan|intro hc
   all_goals (have e:xq [108,111,119] st s.lo s.hi = some (decide (st < 112)):=rfl;rw [e];simp only [apB];refine Qn _ rfl ?_;simp only [go_sem])
  ·have e:xq [118,49] st s.lo s.hi = some (decide (s.lo≤1) && decide (1≤s.hi)):=rfl
   have ew:IntKind.i64.wrap (IntKind.u8.wrap (((UInt8.toNat 49:Nat):Int) - 48)) = 1:=rfl
   rw [e]
   rcases h1:decide (s.lo≤1) with _|_<;>rcases h2:decide (1≤s.hi) with _|_
   all_goals
    (have zx:=And.intro hst (And.intro ew (And.intro h1 h2)));refine zgo ?_;repeat' first|exact zt|apply zan|intro hc
    all_goals (simp only [apB,Bool.and_self,Bool.and_true,Bool.and_false,Bool.false_and,Bool.true_and];refine Qn _ rfl ?_;simp only [go_sem])
  ·have e:xq [118,50] st s.lo s.hi = some (decide (s.lo≤2) && decide (2≤s.hi)):=rfl
   have ew:IntKind.i64.wrap (IntKind.u8.wrap (((UInt8.toNat 50:Nat):Int) - 48)) = 2:=rfl
   rw [e]
   rcases h1:decide (s.lo≤2) with _|_<;>rcases h2:decide (2≤s.hi) with _|_
   all_goals
    (have zx:=And.intro hst (And.intro ew (And.intro h1 h2)));refine zgo ?_;repeat' first|exact zt|apply zan|intro hc
    all_goals (simp only [apB,Bool.and_self,Bool.and_true,Bool.and_false,Bool.false_and,Bool.true_and];refine Qn _ rfl ?_;simp only [go_sem])
  ·have e:xq [118,51] st s.lo s.hi = some (decide (s.lo≤3) && decide (3≤s.hi)):=rfl
   have ew:IntKind.i64.wrap (IntKind.u8.wrap (((UInt8.toNat 51:Nat):Int) - 48)) = 3:=rfl
   rw [e]
   rcases h1:decide (s.lo≤3) with _|_<;>rcases h2:decide (3≤s.hi) with _|_
   all_goals
    (have zx:=And.intro hst (And.intro ew (And.intro h1 h2)));refine zgo ?_;repeat' first|exact zt|apply zan|intro hc
    all_goals (simp only [apB,Bool.and_self,Bool.and_true,Bool.and_false,Bool.false_and,Bool.true_and];refine Qn _ rfl ?_;simp only [go_sem])
  ·have e:xq [118,52] st s.lo s.hi = some (decide (s.lo≤4) && decide (4≤s.hi)):=rfl
   have ew:IntKind.i64.wrap (IntKind.u8.wrap (((UInt8.toNat 52:Nat):Int) - 48)) = 4:=rfl
   rw [e]
   rcases h1:decide (s.lo≤4) with _|_<;>rcases h2:decide (4≤s.hi) with _|_
   all_goals
    (have zx:=And.intro hst (And.intro ew (And.intro h1 h2)));refine zgo ?_;repeat' first|exact zt|apply zan|intro hc
    all_goals (simp only [apB,Bool.and_self,Bool.and_true,Bool.and_false,Bool.false_and,Bool.true_and];refine Qn _ rfl ?_;simp only [go_sem])
 ·rw [amI st s.lo s.hi hg]
  simp only [abP,List.mem_cons,List.not_mem_nil,or_false,not_or] at hg
  obtain ⟨h1,h2,h3,h4,h5,h6,h7,h8⟩:=hg
  have g1:=beq_eq_false_iff_ne.2 h1
  have g2:=beq_eq_false_iff_ne.2 h2
  have g3:=beq_eq_false_iff_ne.2 h3
  have g4:=beq_eq_false_iff_ne.2 h4
  have g5:=beq_eq_false_iff_ne.2 h5
  have g6:=beq_eq_false_iff_ne.2 h6
  have g7:=beq_eq_false_iff_ne.2 h7
  have g8:=beq_eq_false_iff_ne.2 h8
  (have zx:=And.intro hst (And.intro g1 (And.intro g2 (And.intro g3 (And.intro g4 (And.intro g5 (And.intro g6 (And.intro g7 g8))))))));refine zgo ?_;repeat' first|exact zt|apply zan|intro hc
  all_goals (simp only [apB];refine Qn _ rfl ?_;simp only [go_sem])
def afm (n:List UInt8) (s:QG):Bool×Bool :=
 match xq n (Jr s.ci1 s.ci2) s.lo s.hi with
 | some b=>(b,true)
 | none=>((decide (K6 n 0 Y5 > 0) && decide (VX (K6 n 0 Y5) 0 [s.kx1,s.sg1,s.ci1,s.mc1]≥0)) || (decide (adK n > 0) && s.code == adK n),decide (K6 n 0 Y5 > 0) || decide (adK n > 0))
def afl (n:List UInt8) (s:QG):Bool :=
 match xq n (afB s.code) s.lo s.hi with
 | some b=>b
 | none=>(decide (K6 n 0 Y5 > 0) && (s.kx1 == K6 n 0 Y5 || s.sg1 == K6 n 0 Y5 || s.ci1 == K6 n 0 Y5 || s.mc1 == K6 n 0 Y5)) || s.name == n
def arB (p:Bool×Bool):V:=.tup [V.bool p.1,V.bool p.2]
def ja (VZ Xf jP Qd:Nat):AC:=Qa [1,2] (.reg [xo 2 (.box true 12 (.t 0)),mc 4 (V.bool false),mc 5 (V.bool false)]) (Qa [1,2] (Qa [1,2,6,7] (.reg [xo 12 (.load true 12 (.t 2)),mv 13 1,cl 14 VZ [12,13],mv 11 14,ex 15 11 0,ex 16 11 1,mv 6 15,mv 7 16]) (Qa [1,2,6,17] (.reg [mv 17 7]) (.cond (.t 17) (Qa [4,5] (.reg [mv 18 6,mv 4 18,mc 5 (V.bool true)]) .ret) .skip))) (Qa [2,8,9] (.reg [mv 19 1,cl 20 Xf [19],mv 21 1,cl 22 jP [21],mv 8 20,mv 9 22]) (Qa [2,8,9,10] (.reg [fa 23 2 2,fa 24 0 23,ld 25 1 24,fa 26 4 2,fa 27 0 26,ld 28 1 27,fa 29 6 2,fa 30 0 29,ld 31 1 30,fa 32 8 2,fa 33 0 32,ld 34 1 33,xo 35 (.bslice 4 1 false [vi0] [(0,(.t 25)),(1,(.t 28)),(2,(.t 31)),(3,(.t 34))]),mv 10 35]) (Qa [4,5] (.reg [mv 36 8,bc 37 .gtr 36 (V.int 0),mv 38 37,mg 39 10 38 true,mg 40 8 38 true,xg 41 (.call Qd [(.t 39),(.t 40)]) 38 true,xo 42 (.pick (.t 38) (.t 41) (.c (V.bool false))),mv 43 42,mg 44 9 43 false,xg 45 (.bin .gtr (.t 44) (.c (V.int 0))) 43 false,mg 46 45 43 false,xg 47 (.faddr 0 (.t 2)) 46 true,xg 48 (.load false 1 (.t 47)) 46 true,mg 49 9 46 true,xg 50 (.bin .eql (.t 48) (.t 49)) 46 true,xg 51 (.pick (.t 46) (.t 50) (.c (V.bool false))) 43 false,xo 52 (.pick (.t 43) (.c (V.bool true)) (.t 51)),mv 53 8,bc 54 .gtr 53 (V.int 0),mv 55 54,mg 56 9 55 false,xg 57 (.bin .gtr (.t 56) (.c (V.int 0))) 55 false,xo 58 (.pick (.t 55) (.c (V.bool true)) (.t 57)),mv 4 52,mv 5 58]) .ret)))) def r_suitespec_named:List Jl:=[.tmp 4,.tmp 5]
def qu (Γ:Env) (f:Nat):Prop:=∀ (s:QG) (n:List UInt8),EvN Γ f [s.v,V.str n] (arB (afm n s))
attribute [local go_sem] QG.cells QG.v in
theorem ahk {Γ:Env} {f VZ Xf jP Qd:Nat} (h:Has Γ.P f 59 (ja VZ Xf jP Qd) r_suitespec_named) (z0:qv Γ VZ) (z1:qM Γ Xf) (z2:vp Γ jP) (z3:Q1 Γ Qd):qu Γ f:=by
 intro s n
 refine Qe h zsi (by simp only [arB,V.closed,closedL,V.noSl,abd,and_self]) (by simp only [arB,V.closed,closedL,V.noSl,abd,and_self]) fun C hC hm=>?_
 subst hC
 unfold ja
 have hg:=(z0 s n).b
 rcases hn:xq n (Jr s.ci1 s.ci2) s.lo s.hi with _|b
 ·have e:afm n s = ((decide (K6 n 0 Y5 > 0) && decide (VX (K6 n 0 Y5) 0 [s.kx1,s.sg1,s.ci1,s.mc1]≥0)) || (decide (adK n > 0) && s.code == adK n),decide (K6 n 0 Y5 > 0) || decide (adK n > 0)):=by rw [afm,hn]
  rw [e]
  rw [hn] at hg
  simp only [apB,QG.v,QG.cells] at hg
  have hf:=(z3 [s.kx1,s.sg1,s.ci1,s.mc1] (K6 n 0 Y5) (by simp)).b
  simp only [List.map_cons,List.map_nil] at hf
  rcases h1:decide (K6 n 0 Y5 > 0) with _|_<;>rcases h2:decide (adK n > 0) with _|_<;>rcases h3:decide (VX (K6 n 0 Y5) 0 [s.kx1,s.sg1,s.ci1,s.mc1]≥0) with _|_
  all_goals
   rw [h3] at hf
   (have zx:=And.intro h1 h2);refine zgo ?_;repeat' first|exact zt|apply zan|intro hc
   all_goals first|(simp only [arB,Bool.and_self,Bool.and_true,Bool.and_false,Bool.false_and,Bool.true_and,Bool.or_self,Bool.or_true,Bool.or_false,Bool.false_or,Bool.true_or];refine Qn _ rfl ?_;simp only [go_sem];done)
 ·have e:afm n s = (b,true):=by rw [afm,hn]
  rw [e]
  rw [hn] at hg
  simp only [apB,QG.v,QG.cells] at hg
  refine zgo ?_;repeat' first|exact zt|apply zan|intro hc
  all_goals first|(simp only [arB];refine Qn _ rfl ?_;simp only [go_sem];done)
theorem aqL {α:Type} (p:α→Bool):∀ (l:List α) (k:Nat),0≤acR p k l→∃ j x,l[j]? = some x∧p x = true∧acR p k l = ((k + j:Nat):Int)
 | [],k,h=>by simp [acR] at h
 | x :: r,k,h=>by
   by_cases hx:p x = true
   ·exact ⟨0,x,rfl,hx,by simp [acR,hx]⟩
   ·have e:acR p k (x :: r) = acR p (k + 1) r:=by simp [acR,hx]
    rw [e] at h ⊢
    obtain ⟨j,y,h1,h2,h3⟩:=aqL p r (k + 1) h
    exact ⟨j + 1,y,by simpa using h1,h2,by rw [h3];congr 1;omega⟩
theorem wA (x:Int):∀ (l:List Int) (k:Nat),0≤VX x k l↔x∈l
 | [],k=>by simp [VX]
 | y :: r,k=>by
   by_cases hy:y = x
   ·subst hy;simp [VX]
   ·have:=wA x r (k + 1)
    have e:VX x k (y :: r) = VX x (k + 1) r:=by rw [VX,if_neg (fun h=>hy h.symm)]
    rw [e,this,List.mem_cons]
    exact ⟨Or.inr,fun h=>h.elim (fun h=>absurd h.symm hy) id⟩
theorem atU:∀ s∈Jn,adK s.name = s.code:=by decide
theorem apJ:∀ s∈Jn,afB s.code = Jr s.ci1 s.ci2:=by decide
theorem asd {s:QG} (hs:s∈Jn) (n:List UInt8):(decide (adK n > 0) && s.code == adK n) = (s.name == n):=by
 by_cases h:s.name = n
 ·subst h
  have h1:=atU s hs
  obtain ⟨k,hk,hg⟩:=List.getElem_of_mem hs
  have h2:=aq0 k hk s (by rw [List.getElem?_eq_getElem hk,hg])
  have h3:adK s.name > 0:=by rw [h1,h2];omega
  simp [h3,h1];omega
 ·have e:(s.name == n) = false:=by simpa using h
  rw [e,Bool.and_eq_false_iff]
  by_cases h0:adK n > 0
  ·right
   simp only [beq_eq_false_iff_ne,ne_eq]
   intro hc
   obtain ⟨j,x,h1,h2,h3⟩:=aqL (fun s:QG=>s.name == n) Jn 0 (by unfold adK at h0;omega)
   obtain ⟨k,hk,hg⟩:=List.getElem_of_mem hs
   have h4:=aq0 k hk s (by rw [List.getElem?_eq_getElem hk,hg])
   have hkj:k = j:=by unfold adK at hc;omega
   subst hkj
   rw [List.getElem?_eq_getElem hk,hg] at h1
   cases h1
   exact h (by simpa using h2)
  ·left;simpa using h0
theorem arZ {n:List UInt8} (st lo hi:Int) (h:n∈abP):∃ b,xq n st lo hi = some b:=by
 simp only [abP,List.mem_cons,List.not_mem_nil,or_false] at h
 rcases h with rfl|rfl|rfl|rfl|rfl|rfl|rfl|rfl<;>exact ⟨_,rfl⟩
theorem apW {n:List UInt8} {s:QG}:(afm n s).2 = abf n:=by
 by_cases h:n∈abP
 ·obtain ⟨b,hb⟩:=arZ (Jr s.ci1 s.ci2) s.lo s.hi h
  rw [afm,hb,abf];simp [h]
 ·rw [afm,amI _ _ _ h,abf];simp [h]
theorem arP {s:QG} (hs:s∈Jn) (n:List UInt8):afl n s = (afm n s).1:=by
 have h1:=apJ s hs
 have h2:=asd hs n
 have h3:decide (VX (K6 n 0 Y5) 0 [s.kx1,s.sg1,s.ci1,s.mc1]≥0) = (s.kx1 == K6 n 0 Y5 || s.sg1 == K6 n 0 Y5 || s.ci1 == K6 n 0 Y5 || s.mc1 == K6 n 0 Y5):=by
  rw [Bool.eq_iff_iff]
  simp only [decide_eq_true_eq,ge_iff_le,wA,List.mem_cons,List.not_mem_nil,or_false,Bool.or_eq_true,beq_iff_eq]
  constructor
  ·rintro (h|h|h|h)<;>simp [h]
  ·rintro (((h|h)|h)|h)<;>simp [h]
 rw [afl,afm,h1]
 cases xq n (Jr s.ci1 s.ci2) s.lo s.hi with
 | some b=>rfl
 | none=>simp only [h2,h3]
def X4 (c:UInt8):List UInt8→List UInt8→List (List UInt8)
 | cur,[]=>[cur]
 | cur,x :: r=>if x = c then cur :: X4 c [] r else X4 c (cur++[x]) r
def Yu (c:UInt8) (s:List UInt8):List (List UInt8):=X4 c [] s
theorem aoh (c:UInt8):∀ (r cur:List UInt8),X4 c cur r≠[]
 | [],cur=>by simp [X4]
 | x :: r,cur=>by
   rw [X4];split
   ·simp
   ·exact aoh c r _
theorem ah8 (c:UInt8):∀ (r cur:List UInt8),(X4 c cur r).length≤r.length + 1
 | [],cur=>by simp [X4]
 | x :: r,cur=>by
   rw [X4];split
   ·have:=ah8 c r [];simp;omega
   ·have:=ah8 c r (cur++[x]);simp;omega
theorem amo (c:UInt8) (s:List UInt8):(Yu c s).length≤s.length + 1:=ah8 c s []
def auZ (L:List (List UInt8)) (x:QG):Bool:=L.all fun n=>afl n x
def qZ (L:List (List UInt8)) (xs:List QG):List Int:=(xs.filter (auZ L)).map QG.code
theorem apa (L:List (List UInt8)) (k:Nat) (x:QG) (h:Jn[k]? = some x):qZ L (Jn.take (k + 1)) = qZ L (Jn.take k)++(if auZ L x = true then [x.code] else []):=by
 rw [qZ,qZ,List.take_add_one,h,List.filter_append,List.map_append]
 congr 1
 by_cases hx:auZ L x = true<;>simp [hx]
def aj1 (s:List UInt8):List Int×Bool:=if (Yu 43 s).all abf then (qZ (Yu 43 s) Jn,true) else ([],false)
end Av
end
section
namespace Av
open Go
structure EvW (Γ:Env) (f:FuncId) (args:List V) (sz:Nat) (xs:List V):Prop where
 ev:Ev Γ f args [] (.hd 0 0 xs.length) [.buf true sz xs]
 ns:∀ x∈xs,x.noSl
theorem ag1 (l:List Int):∀ x∈l.map V.int,x.noSl:=by
 intro x hx;simp only [List.mem_map] at hx;obtain ⟨y,_,rfl⟩:=hx;simp only [V.noSl]
theorem agO (l:List (List UInt8)):∀ x∈l.map V.str,x.noSl:=by
 intro x hx;simp only [List.mem_map] at hx;obtain ⟨y,_,rfl⟩:=hx;simp only [V.noSl]
theorem ayf {Γ:Env} {b:Nat} {r:List AO} {s:St} {d:Option Nat} {f:FuncId} {acts xs:List V} {sz:Nat} {K:St→Prop} (h:EvW Γ f (Xh s.o acts) sz xs) (hc:Q3 s.o none acts)
  (hk:x8 Γ (b + KK) r { t:=(s.put d (.hd b 0 xs.length)).t,o:=upd s.o b (some (.buf true sz xs)),n:=s.n } K):awC Γ b r s d f acts K:=by
 refine WL ⟨_,_,_,_,[],none,h.ev,Y7 _ _ _ hc,trivial,List.nodup_nil,fun x hx=>by simp at hx,by simp,by simp [KK],fun _=>⟨by simp only [V.noSl],fun x hx=>?_⟩,?_⟩
 ·simp only [List.mem_singleton] at hx;subst hx;exact h.ns
 ·simp only [WT,WV,Ob.ren,V.ren,sig]
  exact hk
theorem axK {Γ:Env} {A W:Nat→Bool} {b:Nat} {s:St} {d:Option Nat} {f:FuncId} {acts xs:List V} {sz:Nat} {J:St→Prop} (h:EvW Γ f (Xh (YF A s.o) acts) sz xs) (hc:Q3 (YF A s.o) none acts)
  (hk:J { t:=(s.put d (.hd b 0 xs.length)).t,o:=upd s.o b (some (.buf true sz xs)),n:=s.n }):Yf Γ A W b s d f acts J:=by
 refine ⟨_,_,_,_,[],none,h.ev,Y7 _ _ _ hc,trivial,List.nodup_nil,fun x hx=>by simp at hx,by simp,by simp [KK],fun _=>⟨by simp only [V.noSl],fun x hx=>?_⟩,fun l h=>by simp at h,?_⟩
 ·simp only [List.mem_singleton] at hx;subst hx;exact h.ns
 ·simp only [WT,WV,Ob.ren,V.ren,sig]
  exact hk
theorem VT {Γ:Env} {b:Nat} {r:List AO} {s:St} {d:Option Nat} {f:FuncId} {acts args xs:List V} {sz:Nat} {K:St→Prop} {okf:Option (List Nat)→Prop} (h:EvW Γ f args sz xs) (hc:okf none)
  (hk:x8 Γ (b + KK) r { t:=(s.put d (.hd b 0 xs.length)).t,o:=upd s.o b (some (.buf true sz xs)),n:=s.n } K):arj Γ b r s d f acts args okf K:=by
 rintro rfl rfl;exact ayf h hc hk
theorem Vv {Γ:Env} {A W:Nat→Bool} {b:Nat} {s:St} {d:Option Nat} {f:FuncId} {acts args xs:List V} {sz:Nat} {J:St→Prop} {okf:Option (List Nat)→Prop} (h:EvW Γ f args sz xs) (hc:okf none)
  (hk:J { t:=(s.put d (.hd b 0 xs.length)).t,o:=upd s.o b (some (.buf true sz xs)),n:=s.n }):anY Γ A W b s d f acts args okf J:=by
 rintro rfl rfl;exact axK h hc hk
theorem abW {Γ:Env} {f:FuncId} {nt:Nat} {ac:AC} {rs:List Jl} (hb:Has Γ.P f nt ac rs) {args xs:List V} {sz:Nat} (ha:args.length≤nt) (hn:∀ x∈xs,x.noSl)
  (h:∀ C:Ctx,C.env = Γ→C.m = 0→AWp C nt ac (W8 args []) (afv 0 rs (.hd 0 0 xs.length) [.buf true sz xs]) (fun _ _=>False) (afv 0 rs (.hd 0 0 xs.length) [.buf true sz xs])):EvW Γ f args sz xs :=
 ⟨Vp hb ha h,hn⟩
theorem amM {rs:List Jl} {s:St} {xs:List V} {sz:Nat} (a n:Nat) (h:ajC s rs = some [.hd a 0 n]) (hn:n = xs.length) (ho:s.o a = some (.buf true sz xs)):afv 0 rs (.hd 0 0 xs.length) [.buf true sz xs] s:=by
 subst hn
 exact xE rs _ _ h ⟨[a],none,by simp [aqR,conv],⟨⟨_,ho,fun h=>h,rfl,rfl⟩,trivial⟩,by simp,rfl⟩
end Av
end
section
set_option maxRecDepth 10000
set_option maxHeartbeats 4000000
namespace Av
open Go
attribute [local irreducible] AWp x8 adc afE awS awC am1 awQ anX Yf abo ama awR acg awB okR agS ris
def Qt (l some:List Int):List Int:=l.filter fun x=>!some.contains x
theorem agF {l m:List Int} {k:Nat} {x:Int} (h:l[k]? = some x):Qt (l.take (k + 1)) m = Qt (l.take k) m++(if m.contains x = true then [] else [x]):=by
 rw [Qt,Qt,List.take_add_one,h,List.filter_append]
 congr 1
 by_cases hx:m.contains x = true<;>simp at hx<;>simp [hx]
theorem VM (l m:List Int):(Qt l m).length≤l.length:=List.length_filter_le _ _
def atz (out:List Int) (x:Int):Nat→Nat
 | 0=>0
 | k + 1=>if afB (out.getD k 0) < afB x then atz out x k else k + 1
theorem atx (out:List Int) (x:Int):∀ k,atz out x k≤k
 | 0=>Nat.le_refl _
 | k + 1=>by
   rw [atz];split
   ·exact Nat.le_succ_of_le (atx out x k)
   ·exact Nat.le_refl _
def apD (out:List Int) (x:Int):List Int:=out.take (atz out x out.length)++[x]++out.drop (atz out x out.length)
theorem aj3 (out:List Int) (x:Int):(apD out x).length = out.length + 1:=by
 have:=atx out x out.length
 simp [apD];omega
def abC (l:List Int):List Int:=l.foldl apD []
theorem arp {l:List Int} {k:Nat} {x:Int} (h:l[k]? = some x):abC (l.take (k + 1)) = apD (abC (l.take k)) x:=by
 rw [abC,abC,List.take_add_one,h,List.foldl_append];rfl
theorem aoS:∀ (l out:List Int),(l.foldl apD out).length = out.length + l.length
 | [],out=>by simp
 | x :: r,out=>by rw [List.foldl_cons,aoS r,aj3];simp;omega
theorem akg (l:List Int):(abC l).length = l.length:=by rw [abC,aoS];simp
def afh (Jg:Nat):List AO:=[mv 14 5,bc 15 .gtr 14 (V.int 0),mv 16 15,mg 17 3 16 true,mg 18 5 16 true,xg 19 (.bin .sub (.t 18) (.c (V.int 1))) 16 true,xg 20 (.iaddr 1 (.t 17) (.t 19)) 16 true,xg 21 (.load false 1 (.t 20)) 16 true,xg 22 (.call Jg [(.t 21)]) 16 true,mg 23 0 16 true,mg 24 4 16 true,xg 25 (.iaddr 1 (.t 23) (.t 24)) 16 true,xg 26 (.load false 1 (.t 25)) 16 true,xg 27 (.call Jg [(.t 26)]) 16 true,xg 28 (.bin .lss (.t 22) (.t 27)) 16 true,xo 29 (.pick (.t 16) (.t 28) (.c (V.bool false)))]
def afr:List (List Nat):=[[],[0],[1],[2],[2],[4,2],[3,5,2],[6,2],[7,2,2],[2],[2],[9,10,2],[11,2],[12,8,2],[8,13,2],[2,14]]
def ae4:OT:=.one 0 (.one 1 (.one 2 (.one 3 (.one 4 (.one 5 (.one 6 (.one 7 (.one 8 (.one 9 (.one 10 (.one 11 (.one 12 (.one 13 (.one 14 (.one 15 .done)))))))))))))))
@[go_sem] def afc (Jg:Nat):OP:=oN 0 (mv 14 5) (oN 1 (bc 15 .gtr 14 (V.int 0)) (oN 2 (mv 16 15) (oN 3 (mg 17 3 16 true) (oN 4 (mg 18 5 16 true) (oN 5 (xg 19 (.bin .sub (.t 18) (.c (V.int 1))) 16 true) (oN 6 (xg 20 (.iaddr 1 (.t 17) (.t 19)) 16 true) (oN 7 (xg 21 (.load false 1 (.t 20)) 16 true) (oN 8 (xg 22 (.call Jg [(.t 21)]) 16 true) (oN 9 (mg 23 0 16 true) (oN 10 (mg 24 4 16 true) (oN 11 (xg 25 (.iaddr 1 (.t 23) (.t 24)) 16 true) (oN 12 (xg 26 (.load false 1 (.t 25)) 16 true) (oN 13 (xg 27 (.call Jg [(.t 26)]) 16 true) (oN 14 (xg 28 (.bin .lss (.t 22) (.t 27)) 16 true) (oN 15 (xo 29 (.pick (.t 16) (.t 28) (.c (V.bool false)))) .done)))))))))))))))
instance (Jg:Nat):RG [] ae4 (afc Jg) (afh Jg) afr 16 (fun _=>true):=⟨rfl,by kernel_rfl,by kernel_rfl⟩
def afg:List AO:=[xo 32 (.bslice 0 1 false [vi0] []),mv 33 3,mv 34 5,xo 35 (.slsl 1 (.t 33) none (some (.t 34))),xo 36 (.append 1 8 [vi0] (.t 32) (.t 35)),mv 37 0,mv 38 4,ia 39 1 37 38,ld 40 1 39,xo 41 (.bslice 1 1 false [vi0] [(0,(.t 40))]),xo 42 (.append 1 8 [vi0] (.t 36) (.t 41)),mv 43 3,mv 44 5,xo 45 (.slsl 1 (.t 43) (some (.t 44)) none),xo 46 (.append 1 8 [vi0] (.t 42) (.t 45)),mv 3 46]
def afq:List (List Nat):=[[],[],[],[1,2],[0,3],[],[],[5,6],[7],[8],[4,9,4],[],[],[11,12],[10,13,10],[14,14,0,1,2,3,4,5,6,7,8,9,10,11,12,13,14]]
def ae3:OT:=.one 0 (.one 1 (.one 2 (.one 3 (.one 4 (.one 5 (.one 6 (.one 7 (.one 8 (.one 9 (.one 10 (.one 11 (.one 12 (.one 13 (.one 14 (.one 15 .done)))))))))))))))
@[go_sem] def afb:OP:=oN 0 (xo 32 (.bslice 0 1 false [vi0] [])) (oN 1 (mv 33 3) (oN 2 (mv 34 5) (oN 3 (xo 35 (.slsl 1 (.t 33) none (some (.t 34)))) (.one 4 true [0] (xo 36 (.append 1 8 [vi0] (.t 32) (.t 35))) (oN 5 (mv 37 0) (oN 6 (mv 38 4) (oN 7 (ia 39 1 37 38) (oN 8 (ld 40 1 39) (oN 9 (xo 41 (.bslice 1 1 false [vi0] [(0,(.t 40))])) (.one 10 true [9,4,0] (xo 42 (.append 1 8 [vi0] (.t 36) (.t 41))) (oN 11 (mv 43 3) (oN 12 (mv 44 5) (oN 13 (xo 45 (.slsl 1 (.t 43) (some (.t 44)) none)) (.one 14 true [10,9,4,0] (xo 46 (.append 1 8 [vi0] (.t 42) (.t 45))) (oN 15 (mv 3 46) .done)))))))))))))))
instance:RG [] ae3 (afb) (afg) afq 16 (fun _=>true):=⟨rfl,by kernel_rfl,by kernel_rfl⟩
def adN (Jg:Nat):AC:=Qa [0] (.reg [xo 2 (.mknil 1)]) (Qa [0,3] (.reg [xo 3 (.mknil 1)]) (Qa [3] (Qa [0,3,4] (.reg [mc 4 (V.int 0)]) (.block 0 (JH [0,3,4] (Qa [0,3,4] (Qa [0,3,4,9] (.reg [mv 6 4,mv 7 0,ln 8 7,bn 9 .lss 6 8]) (.cond (.t 9) .skip (.exit 0))) (Qa [0,3,4] (.block 1 (Qa [0,3,4,5] (.reg [mv 12 3,ln 13 12,mv 5 13]) (Qa [0,3,4,5] (.block 2 (JH [0,3,4,5] (Qa [0,3,4,5] (Qa [0,3,4,5,29] (yh [] ae4 (afc Jg) (afh Jg) afr) (.cond (.t 29) .skip (.exit 2))) (.block 3 (.reg [mv 30 5,bc 31 .sub 30 (V.int 1),mv 5 31]))))) (yh [] ae3 (afb) (afg) afq)))) (.reg [mv 10 4,bc 11 .add 10 (V.int 1),mv 4 11])))))) (Qa [2] (.reg [mv 47 3,mv 2 47]) .ret))) def r_ref08_Sort:List Jl:=[.tmp 2]
def acq (Γ:Env) (f:Nat):Prop:=∀ (l:List Int) (hl:l.length < 2 ^ 34),EvW Γ f [.sl 1 (l.map V.int)] 1 ((abC l).map V.int)
theorem anx {Γ:Env} {f Jg:Nat} (h:Has Γ.P f 48 (adN Jg) r_ref08_Sort) (z0:jz Γ Jg):acq Γ f:=by
 intro l hl
 refine abW h (by simp) (by first|exact ag1 _|exact agO _) fun C hC hm=>?_
 subst hC
 unfold adN
 repeat' (first|(refine zsk ?_;intro K' hK)|(refine zrg ?_;intro K' hK)|refine zsp ?_|(refine zsc ?_ ?_<;>intro hc<;>first|exact znh|try simp only [znz] at hc)|simp (maxSteps:=1000000) only [go_sem]|(refine hK _ ?_;clear hK K')|apply zan|((first|apply Jb|apply Q6);(focus first|exact (z0 _).b))|exact zsq|fail)
 refine QY (ι:=Nat) (fun k=>k≤l.length) (fun k=>QZ [(0,.sl 1 (l.map V.int)),(3,.hd 0 0 (abC (l.take k)).length),(4,V.int k)] [(0,.buf true 1 ((abC (l.take k)).map V.int))] 1) (fun k=>l.length - k) 0 (by omega) (Qk [(0,1000)]) (zwg [(0,1000)]) fun k hk K' hL=>?_
 rcases hd:l.drop k with _|⟨x,r⟩
 ·have hkl:=Qs hd
  have e1:decide ((k:Int) < (((l.map V.int).length:Nat):Int)) = false:=by simp;omega
  have e3:l.take k = l:=List.take_of_length_le hkl
  rw [e3]
  repeat' (first|(refine zsk ?_;intro K' hK)|(refine zrg ?_;intro K' hK)|refine zsp ?_|(refine zsc ?_ ?_<;>intro hc<;>first|exact znh|try simp only [znz] at hc)|simp (maxSteps:=1000000) only [go_sem,QZ,e1]|(refine hK _ ?_;clear hK K')|apply zan|((first|apply Jb|apply Q6);(focus first|exact (z0 _).b))|exact zsq|fail)
  all_goals (refine amM _ _ rfl ?_ ?_<;>first|rfl|(simp;done))
 ·obtain ⟨hk',hget,hr⟩:=Ql hd
  have hw:=Qj (k:=k) (by omega)
  have e1:decide ((k:Int) < (((l.map V.int).length:Nat):Int)) = true:=by simp;omega
  have hcs:=arp hget
  have hol:(abC (l.take k)).length = k:=by rw [akg,List.length_take];omega
  generalize abC (l.take k) = out at *
  repeat' (first|(refine zsk ?_;intro K' hK)|(refine zrg ?_;intro K' hK)|refine zsp ?_|(refine zsc ?_ ?_<;>intro hc<;>first|exact znh|try simp only [znz] at hc)|simp (maxSteps:=1000000) only [go_sem,QZ,e1]|(refine hK _ ?_;clear hK K')|apply zan|((first|apply Jb|apply Q6);(focus first|exact (z0 _).b))|exact zsq|fail)
  refine QP (ι:=Nat) (fun j=>j≤out.length∧atz out x j = atz out x out.length) (fun j=>[(5,V.int j)]) (fun j=>j) out.length (by omega) ⟨by omega,rfl⟩ (by repeat' first|exact Q8|refine JD (by omega) (by simp only [Ob.lt,ltL,V.lt,and_self,and_true];try omega) ?_) (fun i hi=>by simp only [ovT,Ji,Nat.reduceEqDiff,reduceIte];(repeat' first|exact JC|refine Q7 ?_ ?_|simp only [V.lt,ltL,and_self,and_true]|omega)) zet fun j hj K'' hL2=>?_
  obtain ⟨hj,hinv⟩:=hj
  simp only [ovT,Ji,Nat.reduceEqDiff,reduceIte]
  rcases j with _|j
  ·have e2:decide (((0:Nat):Int) > 0) = false:=rfl
   have h0:atz out x out.length = 0:=by rw [← hinv];rfl
   have hfin:V.sc (Value.int .i64 x) :: List.take (out.length - 0) (out.map V.int) = (apD out x).map V.int:=by
    rw [apD,h0,List.take_of_length_le (by simp)];simp
   have hln:1 + (List.take (out.length - 0) (out.map V.int)).length = (apD out x).length:=by
    rw [aj3];simp;omega
   repeat' (first|(refine zsk ?_;intro K' hK)|(refine zrg ?_;intro K' hK)|refine zsp ?_|(refine zsc ?_ ?_<;>intro hc<;>first|exact znh|try simp only [znz] at hc)|simp (maxSteps:=1000000) only [go_sem,e2,hw,Int.toNat_natCast,List.getElem?_map,hget]|(refine hK _ ?_;clear hK K')|apply zan|((first|apply Jb|apply Q6);(focus first|exact (z0 _).b))|exact zsq|fail)
   all_goals first
    | (intro y hy;have h9:=List.mem_of_mem_take hy;simp only [List.mem_map] at h9;obtain ⟨z,_,rfl⟩:=h9;rfl)
    | (rw [hln];rw [aj3];omega)
    | (rw [hln,hfin]
       refine hL _ (k + 1) (Qk [(0,37001)]) (by omega) (by omega) ?_
       rw [hcs]
       exact zwg [(0,37001)])
  ·have e2:decide (((j + 1:Nat):Int) > 0) = true:=decide_eq_true (by omega)
   have hwj:IntKind.i64.wrap (((j + 1:Nat):Int) - 1) = (j:Int):=by rw [Yv (by omega) (by omega)];omega
   obtain ⟨y,hy⟩:∃ y,out[j]? = some y:=⟨out[j]'(by omega),List.getElem?_eq_getElem (by omega)⟩
   have hyd:out.getD j 0 = y:=by rw [List.getD_eq_getElem?_getD,hy];rfl
   rw [atz,hyd] at hinv
   have hyt:(List.take out.length (out.map V.int))[j]? = some (V.int y):=by rw [List.take_of_length_le (by simp),List.getElem?_map,hy];rfl
   rcases hlt:decide (afB y < afB x) with _|_
   ·rw [if_neg (of_decide_eq_false hlt)] at hinv
    have hA:List.take (j + 1 - 0) (out.map V.int) = (out.take (j + 1)).map V.int:=by rw [Nat.sub_zero,List.map_take]
    have hB:List.take (out.length - (j + 1)) (List.drop (j + 1) (out.map V.int)) = (out.drop (j + 1)).map V.int:=by
     rw [List.take_of_length_le (by simp),List.map_drop]
    have hC:List.take ((out.take (j + 1)).map V.int).length ((out.take (j + 1)).map V.int) = (out.take (j + 1)).map V.int:=List.take_length
    have hD:List.take (((out.take (j + 1)).map V.int).length + 1) ((out.take (j + 1)).map V.int++[V.sc (Value.int .i64 x)]) = (out.take (j + 1)++[x]).map V.int:=by
     rw [List.take_of_length_le (by simp),List.map_append];rfl
    have hfin:(out.take (j + 1)++[x]).map V.int++(out.drop (j + 1)).map V.int = (apD out x).map V.int:=by
     rw [apD,← hinv,List.map_append,List.map_append,List.map_append]
    have hln:((out.take (j + 1)).map V.int).length + 1 + ((out.drop (j + 1)).map V.int).length = (apD out x).length:=by
     rw [aj3];simp;omega
    repeat' (first|(refine zsk ?_;intro K' hK)|(refine zrg ?_;intro K' hK)|refine zsp ?_|(refine zsc ?_ ?_<;>intro hc<;>first|exact znh|try simp only [znz] at hc)|simp (maxSteps:=1000000) only [go_sem,e2,hw,hwj,Int.toNat_natCast,List.getElem?_map,hget,hy,hlt]|(refine hK _ ?_;clear hK K')|apply zan|((first|apply Jb|apply Q6);(focus first|exact (z0 _).b))|exact zsq|fail)
    all_goals first
     | (intro z hz;rw [hA] at hz;simp only [List.mem_map] at hz;obtain ⟨w,_,rfl⟩:=hz;rfl)
     | (intro z hz;rw [hB] at hz;simp only [List.mem_map] at hz;obtain ⟨w,_,rfl⟩:=hz;rfl)
     | (simp;done)
     | (simp;omega)
     | (rw [hA,hB,hln,hC,hD,hfin]
        refine hL _ (k + 1) (Qk [(0,37001)]) (by omega) (by omega) ?_
        rw [hcs]
        exact zwg [(0,37001)])
   ·repeat' (first|(refine zsk ?_;intro K' hK)|(refine zrg ?_;intro K' hK)|refine zsp ?_|(refine zsc ?_ ?_<;>intro hc<;>first|exact znh|try simp only [znz] at hc)|simp (maxSteps:=1000000) only [go_sem,e2,hw,hwj,Int.toNat_natCast,List.getElem?_map,hget,hy,hlt]|(refine hK _ ?_;clear hK K')|apply zan|((first|apply Jb|apply Q6);(focus first|exact (z0 _).b))|exact zsq|fail)
    rw [if_pos (of_decide_eq_true hlt)] at hinv
    all_goals exact hL2 _ j zet ⟨by omega,hinv⟩ (by omega) (fun a ha=>by simp only [u32,u33,u34,u35,u36,u37,u38,u39];repeat rw [if_neg (by omega)])
def yj (c:Int):List UInt8:=(Yd c).name++if (Yd c).name = [99,104,97,99,104,97] then [43,118,52] else []
def x9:List Int→List Int→List UInt8→Option (List UInt8)
 | _,[],s=>some s
 | p,x :: r,s=>if p.contains x = true then none else x9 (p++[x]) r ((if p = [] then s else s++[58])++yj x)
def aeY (c:Int):Bool:=decide (c < 1) || decide (c > 16)
def KR (l:List Int):V:=if l.any aeY = true then .tup [V.str [],V.int 8] else match x9 [] l [] with
 | none=>.tup [V.str [],V.int 5]
 | some s=>.tup [V.str s,V.int 0]
theorem agY (c:Int):(yj c).length≤40:=by
 have h:∀ s∈Jn,s.name.length≤30:=by decide
 have h2:(Yd c).name.length≤30:=by
  unfold Yd;split
  ·rename_i hc
   have hk:(c - 1).toNat < Jn.length:=by rw [VW];omega
   rw [List.getD_eq_getElem?_getD,List.getElem?_eq_getElem hk,Option.getD_some]
   exact h _ (List.getElem_mem hk)
  ·simp [acF]
 unfold yj
 rw [List.length_append]
 split<;>simp<;>omega
theorem xB (l:List Int):(KR l).closed:=by
 unfold KR;split
 ·simp only [V.closed,closedL,and_self]
 ·split<;>simp only [V.closed,closedL,and_self]
theorem abH (l:List Int):(KR l).noSl:=by
 unfold KR;split
 ·simp only [V.noSl,abd,and_self]
 ·split<;>simp only [V.noSl,abd,and_self]
def adu (QQ:Nat):List AO:=[mv 33 0,mv 34 6,xo 35 (.slsl 1 (.t 33) none (some (.t 34))),mv 36 0,mv 37 6,ia 38 1 36 37,ld 39 1 38,cl 40 QQ [35,39]]
def aee:List (List Nat):=[[],[],[0,1],[],[],[3,4],[5],[2,6]]
def ac7:OT:=.one 0 (.one 1 (.one 2 (.one 3 (.one 4 (.one 5 (.one 6 (.one 7 .done)))))))
@[go_sem] def adk (QQ:Nat):OP:=oN 0 (mv 33 0) (oN 1 (mv 34 6) (oN 2 (xo 35 (.slsl 1 (.t 33) none (some (.t 34)))) (oN 3 (mv 36 0) (oN 4 (mv 37 6) (oN 5 (ia 38 1 36 37) (oN 6 (ld 39 1 38) (oN 7 (cl 40 QQ [35,39]) .done)))))))
instance (QQ:Nat):RG [] ac7 (adk QQ) (adu QQ) aee 8 (fun _=>true):=⟨rfl,by kernel_rfl,by kernel_rfl⟩
def ab2 (QQ JX:Nat):AC:=Qa [0] (.reg [mc 2 (V.str []),mc 3 (V.int 0)]) (Qa [0] (Qa [0,4] (.reg [mc 4 (V.int 0)]) (.block 0 (JH [0,4] (Qa [0,4] (Qa [0,4,12] (.reg [mv 9 4,mv 10 0,ln 11 10,bn 12 .lss 9 11]) (.cond (.t 12) .skip (.exit 0))) (Qa [0,4] (.block 1 (Qa [0,4,26] (.reg [mv 15 0,mv 16 4,ia 17 1 15 16,ld 18 1 17,bc 19 .lss 18 (V.int 1),mv 20 19,mg 21 0 20 false,mg 22 4 20 false,xg 23 (.iaddr 1 (.t 21) (.t 22)) 20 false,xg 24 (.load false 1 (.t 23)) 20 false,xg 25 (.bin .gtr (.t 24) (.c (V.int 16))) 20 false,xo 26 (.pick (.t 20) (.c (V.bool true)) (.t 25))]) (.cond (.t 26) (Qa [2,3] (.reg [mc 2 (V.str []),mc 3 (V.int 8)]) .ret) .skip))) (.reg [mv 13 4,bc 14 .add 13 (V.int 1),mv 4 14])))))) (Qa [0,5] (.reg [mc 5 (V.str [])]) (Qa [5] (Qa [0,5,6] (.reg [mc 6 (V.int 0)]) (.block 2 (JH [0,5,6] (Qa [0,5,6] (Qa [0,5,6,30] (.reg [mv 27 6,mv 28 0,ln 29 28,bn 30 .lss 27 29]) (.cond (.t 30) .skip (.exit 2))) (Qa [0,5,6] (.block 3 (Qa [0,5,6] (Qa [0,5,6,40] (yh [] ac7 (adk QQ) (adu QQ) aee) (.cond (.t 40) (Qa [2,3] (.reg [mc 2 (V.str []),mc 3 (V.int 5)]) .ret) .skip)) (Qa [0,5,6,7] (.reg [mv 42 0,mv 43 6,ia 44 1 42 43,ld 45 1 44,cl 46 JX [45],mv 41 46,ex 47 41 0,ex 48 41 1,xo 7 (.alloc [.val vi0,.val vs0,.val vi0,.val vi0,.val vi0,.val vi0,.val vi0,.val vi0,.val vi0,.val vi0,.val vi0,.val vi0]),xs 12 7 47,mv 8 48]) (Qa [0,5,6,7] (Qa [0,5,6,7,50] (.reg [mv 49 6,bc 50 .gtr 49 (V.int 0)]) (.cond (.t 50) (.reg [mv 51 5,bc 52 .add 51 (V.str [58]),mv 5 52]) .skip)) (Qa [0,5,6,7] (.reg [mv 53 5,fa 54 1 7,ld 55 1 54,bn 56 .add 53 55,mv 5 56]) (Qa [0,5,6,59] (.reg [fa 57 1 7,ld 58 1 57,bc 59 .eql 58 (V.str [99,104,97,99,104,97])]) (.cond (.t 59) (.reg [mv 60 5,bc 61 .add 60 (V.str [43,118,52]),mv 5 61]) .skip))))))) (.reg [mv 31 6,bc 32 .add 31 (V.int 1),mv 6 32])))))) (Qa [2,3] (.reg [mv 62 5,mv 2 62,mc 3 (V.int 0)]) .ret)))) def r_ref08_Print:List Jl:=[.tmp 2,.tmp 3]
def aaW (Γ:Env) (f:Nat):Prop:=∀ (l:List Int) (hl:l.length < 2 ^ 30),EvN Γ f [.sl 1 (l.map V.int)] (KR l)
attribute [local go_sem] QG.cells QG.v in
theorem alV {Γ:Env} {f QQ JX:Nat} (h:Has Γ.P f 63 (ab2 QQ JX) r_ref08_Print) (z0:yg Γ QQ) (z1:UZ Γ JX):aaW Γ f:=by
 intro l hl
 refine Qe h zsi (by first|exact xB _|exact abH _) (by first|exact xB _|exact abH _) fun C hC hm=>?_
 subst hC
 unfold ab2
 refine zgo ?_;repeat' first|exact zt|apply zan|intro hc
 refine QP (ι:=Nat) (fun k=>k≤l.length∧(l.drop k).any aeY = l.any aeY) (fun k=>[(4,V.int k)]) (fun k=>l.length - k) 0 (by omega) ⟨by simp,by simp⟩ (by repeat' first|exact Q8|refine JD (by omega) (by simp only [Ob.lt,ltL,V.lt,and_self,and_true];try omega) ?_) (fun i hi=>by simp only [ovT,Ji,Nat.reduceEqDiff,reduceIte];(repeat' first|exact JC|refine Q7 ?_ ?_|simp only [V.lt,ltL,and_self,and_true]|omega)) zet fun k hk K' hL=>?_
 obtain ⟨hk,hinv⟩:=hk
 simp only [ovT,Ji,Nat.reduceEqDiff,reduceIte]
 rcases hd:l.drop k with _|⟨x,r⟩
 ·have hkl:=Qs hd
  rw [hd] at hinv
  have e1:decide ((k:Int) < (((l.map V.int).length:Nat):Int)) = false:=by simp;omega
  have hgood:l.any aeY = false:=by rw [← hinv];rfl
  have hp:KR l = (match x9 [] l [] with
   | none=>.tup [V.str [],V.int 5]
   | some s=>.tup [V.str s,V.int 0]):=by rw [KR,if_neg (by rw [hgood];simp)]
  rw [hp]
  (have zx:=e1);refine zgo ?_;repeat' first|exact zt|apply zan|intro hc
  refine QP (ι:=Nat×List UInt8) (fun p=>p.1≤l.length∧p.2.length≤p.1 * 41∧x9 (l.take p.1) (l.drop p.1) p.2 = x9 [] l []) (fun p=>[(5,V.str p.2),(6,V.int p.1)]) (fun p=>l.length - p.1) (0,[]) (by omega) ⟨by simp,by simp,by simp⟩ (by repeat' first|exact Q8|refine JD (by omega) (by simp only [Ob.lt,ltL,V.lt,and_self,and_true];try omega) ?_) (fun i hi=>by simp only [ovT,Ji,Nat.reduceEqDiff,reduceIte];(repeat' first|exact JC|refine Q7 ?_ ?_|simp only [V.lt,ltL,and_self,and_true]|omega)) (by simp only [Nat.reduceAdd,ovT,Ji,Nat.reduceEqDiff,reduceIte,U5,ym,arA,u32,u33,u34,u35,u36,u37,u38,u39,and_self,and_true,true_and];first|done|rfl|exact ⟨rfl,rfl⟩) fun p hp K'' hL2=>?_
  obtain ⟨j,s⟩:=p
  obtain ⟨hj,hs,hinv2⟩:=hp
  simp only at hj hs hinv2
  simp only [ovT,Ji,Nat.reduceEqDiff,reduceIte]
  rcases hd2:l.drop j with _|⟨x,r⟩
  ·have hjl:=Qs hd2
   have e2:decide ((j:Int) < (((l.map V.int).length:Nat):Int)) = false:=by simp;omega
   rw [hd2,x9] at hinv2
   rw [← hinv2]
   (have zx:=e2);refine zgo ?_;repeat' first|exact zt|apply zan|intro hc
   all_goals (refine Qn _ rfl ?_;simp only [go_sem])
  ·obtain ⟨hj',hget,hr⟩:=Ql hd2
   have hw:=Qj (k:=j) (by omega)
   have e2:decide ((j:Int) < (((l.map V.int).length:Nat):Int)) = true:=by simp;omega
   have hx:aeY x = false:=by
    have h9:∀ y∈l,aeY y = false:=by simpa using hgood
    exact h9 x (List.mem_of_getElem? hget)
   have hx2:1≤x∧x≤16:=by simp only [aeY,Bool.or_eq_false_iff,decide_eq_false_iff_not] at hx;omega
   have hsv:Xo x = .tup [(Yd x).v,V.int 0]:=by rw [Xo,if_pos hx2]
   have hnl:=agY x
   rw [hd2,x9] at hinv2
   have hA:List.take (j - 0) (l.map V.int) = (l.take j).map V.int:=by rw [Nat.sub_zero,List.map_take]
   have hh:=(z0 (l.take j) x (by rw [List.length_take];omega)).b
   rcases hct:(l.take j).contains x with _|_
   ·rw [hct] at hinv2 hh
    simp only [Bool.false_eq_true,if_false] at hinv2
    have hnn:(Yd x).name.length≤40:=by unfold yj at hnl;simp at hnl;omega
    have hr2:l.take (j + 1) = l.take j++[x]:=by rw [List.take_add_one,hget];rfl
    have hs2:((if l.take j = [] then s else s++[58])++yj x).length≤(j + 1) * 41:=by
     have h3:(if l.take j = [] then s else s++[58]).length≤s.length + 1:=by split<;>simp
     rw [List.length_append];omega
    (have zx:=And.intro e2 (And.intro hA (And.intro hsv (And.intro hw hget))));refine zgo ?_;repeat' first|exact zt|apply zan|intro hc
    all_goals first
     | (simp;omega)
     | (refine hL2 _ (j + 1,(if l.take j = [] then s else s++[58])++yj x) (by simp only [Nat.reduceAdd,ovT,Ji,Nat.reduceEqDiff,reduceIte,U5,ym,arA,u32,u33,u34,u35,u36,u37,u38,u39,and_self,and_true,true_and];have hln:¬ l = []:=(fun h=>by rw [h] at hj';exact absurd hj' (Nat.not_lt_zero _));by_cases hj0:j = 0<;>first|(simp_all [yj];done)|(exfalso;omega)) ⟨by simp only;omega,hs2,by simp only;rw [hr2,hr];exact hinv2⟩ (by simp only;omega) (fun a ha=>by simp only [u32,u33,u34,u35,u36,u37,u38,u39];repeat rw [if_neg (by omega)]))
   ·rw [hct,if_pos rfl] at hinv2
    rw [hct] at hh
    rw [← hinv2]
    (have zx:=And.intro e2 (And.intro hA hget));exact zg
 ·obtain ⟨hk',hget,hr⟩:=Ql hd
  rw [hd] at hinv
  have hw:=Qj (k:=k) (by omega)
  have e1:decide ((k:Int) < (((l.map V.int).length:Nat):Int)) = true:=by simp;omega
  rcases h1:decide (x < 1) with _|_
  ·rcases h2:decide (x > 16) with _|_
   ·(have zx:=And.intro hget (And.intro hw (And.intro e1 (And.intro h1 h2))));refine zgo ?_;repeat' first|exact zt|apply zan|intro hc
    all_goals
     refine hL _ (k + 1) zet ⟨by omega,?_⟩ (by omega) (fun a ha=>by simp only [u32,u33,u34,u35,u36,u37,u38,u39];repeat rw [if_neg (by omega)])
     rw [hr,← hinv];simp only [List.any_cons,aeY,h1,h2,Bool.or_self,Bool.false_or]
   ·have hbad:KR l = .tup [V.str [],V.int 8]:=by
     rw [KR,if_pos];rw [← hinv];simp only [List.any_cons,aeY,h1,h2,Bool.or_true,Bool.true_or]
    rw [hbad]
    (have zx:=And.intro hget (And.intro hw (And.intro e1 (And.intro h1 h2))));refine zgo ?_;repeat' first|exact zt|apply zan|intro hc
    all_goals (refine Qn _ rfl ?_;simp only [go_sem])
  ·have hbad:KR l = .tup [V.str [],V.int 8]:=by
    rw [KR,if_pos];rw [← hinv];simp only [List.any_cons,aeY,h1,Bool.true_or]
   rw [hbad]
   (have zx:=And.intro hget (And.intro hw (And.intro e1 h1)));refine zgo ?_;repeat' first|exact zt|apply zan|intro hc
   all_goals (refine Qn _ rfl ?_;simp only [go_sem])
end Av
end
section
namespace Av
open Go
theorem Good.adopt {C:Ctx} {w:World} {Z:Nat→Nat→Prop} {μ:Nat→Option Cn} {o:Nat→Option Ob} (h:Good C w Z μ o) {x i n sz:Nat} {wr:Bool} {cells:List V}
  (ho:o x = some (.box wr cells)) (hi:cells[i]? = some (.sc (.slice none 0 0))) (hn:μ n = none) (hm:C.m≤n) :
  Good C w Z (upd μ n (some { block:=0,void:=true })) (upd (upd o x (some (.box wr (cells.set i (.hd n 0 0))))) n (some (.buf true sz []))):=by
 have hon:=h.free hn
 have hxn:x≠n:=by rintro rfl;rw [hon] at ho;cases ho
 have hmu:=xR (c:={ block:=0,void:=true }) hn
 have old:∀ a y,a≠n→upd (upd o x (some (.box wr (cells.set i (.hd n 0 0))))) n (some (.buf true sz [])) a = some y→∃ z c,o a = some z∧μ a = some c∧(y.live c↔z.live c)∧acM w Z (upd μ n (some { block:=0,void:=true })) c y∧(z.live c→c.block < w.heap.size∧(C.w0.heap.size≤c.block∨C.F c.block)):=by
  intro a y han hy
  rw [Jo _ _ han] at hy
  by_cases hax:a = x
  ·subst hax
   rw [Qr] at hy;cases hy
   obtain ⟨c,hc,⟨h1,⟨cs,ty,h2,h3,h4⟩,h5⟩,hl⟩:=h.ob _ _ ho
   refine ⟨_,c,ho,hc,Iff.rfl,⟨h1,⟨cs,ty,h2,by simpa using h3,fun j hj hj'=>?_⟩,h5⟩,hl⟩
   have hj2:j < cells.length:=by simpa using hj
   have h6:=h4 j hj2 hj'
   refine ⟨?_,h6.2⟩
   by_cases hji:j = i
   ·subst hji
    rw [List.getElem_set_self]
    have h7:cells[j] = .sc (.slice none 0 0):=by rw [List.getElem?_eq_getElem hj2] at hi;exact Option.some.inj hi
    have h8:=h6.1
    rw [h7] at h8
    generalize cs[j] = v at h8
    cases h8
    exact .hd (Qr _ _ _) (by simp [Hdr])
   ·rw [List.getElem_set_ne (fun e=>hji e.symm)]
    exact h6.1.mono (fun _ _ _=>rfl) (fun _ _ h=>h) hmu
  ·rw [Jo _ _ hax] at hy
   obtain ⟨c,hc,hok,hl⟩:=h.ob a y hy
   exact ⟨y,c,hy,hc,Iff.rfl,hok.mono (fun _ _ _=>rfl) (fun _ _ h=>h) hmu (fun _=>rfl) (fun _ _ h=>h),hl⟩
 refine ⟨fun a y hy=>?_,fun a b y z c d hab hy hz hc hd lc ld=>?_,h.zlt,h.grow,h.frame,h.zsub,h.zsup,h.zkeep,fun k hk=>?_,h.oo⟩
 ·by_cases han:a = n
  ·subst han
   rw [Qr] at hy;cases hy
   exact ⟨_,Qr _ _ _,⟨rfl,fun hv=>by cases hv⟩,fun hl=>by cases hl⟩
  ·obtain ⟨z,c,h1,h2,h3,h4,h5⟩:=old a y han hy
   exact ⟨c,hmu a c h2,h4,fun hl=>h5 (h3.1 hl)⟩
 ·by_cases han:a = n
  ·subst han
   rw [Qr] at hy hc;cases hy;cases hc;cases lc
  by_cases hbn:b = n
  ·subst hbn
   rw [Qr] at hz hd;cases hz;cases hd;cases ld
  obtain ⟨y',c',h1,h2,h3,_⟩:=old a y han hy
  obtain ⟨z',d',g1,g2,g3,_⟩:=old b z hbn hz
  have e1:=hmu a c' h2;rw [hc] at e1;cases e1
  have e2:=hmu b d' g2;rw [hd] at e2;cases e2
  exact h.sep a b y' z' c d hab h1 g1 h2 g2 (h3.1 lc) (g3.1 ld)
 ·rw [Jo _ _ (by omega)];exact h.fix k hk
section
variable {C:Ctx} {nt:Nat} {s:St} {K:St→Prop} {E:Nat→St→Prop} {R:St→Prop}
theorem ad7 {c:AC} (x i sz:Nat) {wr:Bool} {cells:List V} (ho:s.o x = some (.box wr cells)) (hi:cells[i]? = some (.sc (.slice none 0 0)))
  (h:AWp C nt c { t:=s.t,o:=upd (upd s.o x (some (.box wr (cells.set i (.hd s.n 0 0))))) s.n (some (.buf true sz [])),n:=s.n + 1 } K E R):AWp C nt c s K E R:=by
 intro code hc a w hs
 obtain ⟨Z,μ,hg,ht,hf,hm,hd,hn⟩:=hs
 refine h code hc a w ⟨Z,_,hg.adopt ho hi (hf _ (Nat.le_refl _)) hm,fun j=>(ht j).mono (fun _ _ _=>rfl) (fun _ _ h=>h) (xR (hf _ (Nat.le_refl _))),fun y hy=>?_,by show C.m≤s.n + 1;omega,hd,hn⟩
 have hy2:s.n + 1≤y:=hy
 rw [Jo _ _ (by omega)]
 exact hf y (by omega)
end
end Av
end
section
namespace Av
open Go
theorem Good.move {C:Ctx} {w:World} {Z:Nat→Nat→Prop} {μ:Nat→Option Cn} {o:Nat→Option Ob} (h:Good C w Z μ o) {x i a n off len sz:Nat} {wr wr2:Bool} {cells xs:List V} {c:Cn}
  (ho:o x = some (.box wr cells)) (hi:cells[i]? = some (.hd a off len)) (ha:o a = some (.buf wr2 sz xs)) (hc:μ a = some c) (hn:μ n = none) (hm:C.m≤n) :
  Good C w Z (upd μ n (some c)) (upd (upd (upd o a (some .dead)) x (some (.box wr (cells.set i (.hd n off len))))) n (some (.buf wr2 sz xs))):=by
 have hon:=h.free hn
 have hxn:x≠n:=by rintro rfl;rw [hon] at ho;cases ho
 have han:a≠n:=by rintro rfl;rw [hon] at ha;cases ha
 have hxa:x≠a:=by rintro rfl;rw [ho] at ha;cases ha
 have hmu:=xR (c:=c) hn
 have old:∀ b y,upd (upd (upd o a (some .dead)) x (some (.box wr (cells.set i (.hd n off len))))) n (some (.buf wr2 sz xs)) b = some y →
   (b = a∧y = .dead)∨∃ z d,o (if b = n then a else b) = some z∧μ (if b = n then a else b) = some d∧upd μ n (some c) b = some d∧(y.live d↔z.live d)∧acM w Z (upd μ n (some c)) d y∧(z.live d→d.block < w.heap.size∧(C.w0.heap.size≤d.block∨C.F d.block))∧(b≠a):=by
  intro b y hy
  by_cases hbn:b = n
  ·subst hbn
   rw [Qr] at hy;cases hy
   obtain ⟨d,hd,hok,hl⟩:=h.ob _ _ ha
   rw [hc] at hd;cases hd
   exact .inr ⟨_,c,by rw [if_pos rfl];exact ha,by rw [if_pos rfl];exact hc,Qr _ _ _,Iff.rfl,hok.mono (fun _ _ _=>rfl) (fun _ _ h=>h) hmu (fun _=>rfl) (fun _ _ h=>h),hl,fun e=>han e.symm⟩
  ·rw [Jo _ _ hbn] at hy
   rw [if_neg hbn,Jo _ _ hbn]
   by_cases hbx:b = x
   ·subst hbx
    rw [Qr] at hy;cases hy
    obtain ⟨d,hd,⟨h1,⟨cs,ty,h2,h3,h4⟩,h5⟩,hl⟩:=h.ob _ _ ho
    refine .inr ⟨_,d,ho,hd,hd,Iff.rfl,⟨h1,⟨cs,ty,h2,by simpa using h3,fun j hj hj'=>?_⟩,h5⟩,hl,hxa⟩
    have hj2:j < cells.length:=by simpa using hj
    have h6:=h4 j hj2 hj'
    refine ⟨?_,h6.2⟩
    by_cases hji:j = i
    ·subst hji
     rw [List.getElem_set_self]
     have h7:cells[j] = .hd a off len:=by rw [List.getElem?_eq_getElem hj2] at hi;exact Option.some.inj hi
     have h8:=h6.1
     rw [h7] at h8
     generalize cs[j] = v at h8
     cases h8
     rename_i c' hc' hv
     rw [hc] at hc';cases hc'
     exact .hd (Qr _ _ _) hv
    ·rw [List.getElem_set_ne (fun e=>hji e.symm)]
     exact h6.1.mono (fun _ _ _=>rfl) (fun _ _ h=>h) hmu
   ·rw [Jo _ _ hbx] at hy
    by_cases hba:b = a
    ·subst hba
     rw [Qr] at hy;cases hy
     exact .inl ⟨rfl,rfl⟩
    ·rw [Jo _ _ hba] at hy
     obtain ⟨d,hd,hok,hl⟩:=h.ob b y hy
     exact .inr ⟨y,d,hy,hd,hd,Iff.rfl,hok.mono (fun _ _ _=>rfl) (fun _ _ h=>h) hmu (fun _=>rfl) (fun _ _ h=>h),hl,hba⟩
 refine ⟨fun b y hy=>?_,fun b d y z e f hbd hy hz he hf lb ld=>?_,h.zlt,h.grow,h.frame,h.zsub,h.zsup,h.zkeep,fun k hk=>?_,h.oo⟩
 ·rcases old b y hy with ⟨rfl,rfl⟩|⟨z,d,h1,h2,h3,h4,h5,h6,_⟩
  ·exact ⟨c,hmu _ _ hc,trivial,fun hl=>hl.elim⟩
  ·exact ⟨d,h3,h5,fun hl=>h6 (h4.1 hl)⟩
 ·rcases old b y hy with ⟨rfl,rfl⟩|⟨y',e',h1,h2,h3,h4,_,_,h7⟩
  ·exact lb.elim
  ·rcases old d z hz with ⟨rfl,rfl⟩|⟨z',f',g1,g2,g3,g4,_,_,g7⟩
   ·exact ld.elim
   ·rw [he] at h3;cases h3
    rw [hf] at g3;cases g3
    refine h.sep _ _ y' z' _ _ ?_ h1 g1 h2 g2 (h4.1 lb) (g4.1 ld)
    by_cases hbn:b = n
    ·subst hbn
     rw [if_pos rfl,if_neg (fun e=>hbd e.symm)]
     exact fun e=>g7 e.symm
    ·rw [if_neg hbn]
     by_cases hdn:d = n
     ·subst hdn;rw [if_pos rfl];exact h7
     ·rw [if_neg hdn];exact hbd
 ·rw [Jo _ _ (by omega)];exact h.fix k hk
section
variable {C:Ctx} {nt:Nat} {s:St} {K:St→Prop} {E:Nat→St→Prop} {R:St→Prop}
theorem arc {c:AC} (x i a:Nat) {off len sz:Nat} {wr wr2:Bool} {cells xs:List V} (ho:s.o x = some (.box wr cells)) (hi:cells[i]? = some (.hd a off len)) (ha:s.o a = some (.buf wr2 sz xs))
  (h:AWp C nt c { t:=s.t,o:=upd (upd (upd s.o a (some .dead)) x (some (.box wr (cells.set i (.hd s.n off len))))) s.n (some (.buf wr2 sz xs)),n:=s.n + 1 } K E R):AWp C nt c s K E R:=by
 intro code hc u w hs
 obtain ⟨Z,μ,hg,ht,hf,hm,hd,hn⟩:=hs
 obtain ⟨d,hmu,_⟩:=hg.ob _ _ ha
 refine h code hc u w ⟨Z,_,hg.move ho hi ha hmu (hf _ (Nat.le_refl _)) hm,fun j=>(ht j).mono (fun _ _ _=>rfl) (fun _ _ h=>h) (xR (hf _ (Nat.le_refl _))),fun y hy=>?_,by show C.m≤s.n + 1;omega,hd,hn⟩
 have hy2:s.n + 1≤y:=hy
 rw [Jo _ _ (by omega)]
 exact hf y (by omega)
end
def aw8 (i j:Nat) (xs ys:List V):Ob:=.box true [.hd i 0 xs.length,.hd j 0 ys.length]
structure EvT (Γ:Env) (f:FuncId) (args:List V) (sx sy:Nat) (xs ys:List V) (res:V) (xs2 ys2:List V):Prop where
 ev:Ev Γ f (.ptr 0 0 :: args) [aw8 1 2 xs ys,.buf true sx xs,.buf true sy ys] res [aw8 3 4 xs2 ys2,.dead,.dead,.buf true sx xs2,.buf true sy ys2]
 cl:res.closed
theorem ayg {Γ:Env} {b:Nat} {r:List AO} {s:St} {d:Option Nat} {f:FuncId} {acts:List V} {res:V} {K:St→Prop} {a p q sx sy n m:Nat} {xs ys xs2 ys2:List V}
  (ha:s.o a = some (.box true [.hd p 0 n,.hd q 0 m])) (hp:s.o p = some (.buf true sx xs)) (hq:s.o q = some (.buf true sy ys))
  (h:EvT Γ f (Xh s.o acts) sx sy xs ys res xs2 ys2) (hn:n = xs.length) (hm:m = ys.length) (hc:Q3 s.o (some []) acts) (h1:a≠p) (h2:a≠q) (h3:p≠q) (hab:a < b) (hpb:p < b) (hqb:q < b)
  (hk:x8 Γ (b + KK) r { t:=(s.put d res).t,o:=upd (upd (upd (upd (upd s.o (b + 1) (some (.buf true sy ys2))) b (some (.buf true sx xs2))) q (some .dead)) p (some .dead)) a (some (.box true [.hd b 0 xs2.length,.hd (b + 1) 0 ys2.length])),n:=s.n } K):awC Γ b r s d f (.ptr a 0 :: acts) K:=by
 subst hn;subst hm
 refine WL ⟨_,_,_,_,[a,p,q],some [],h.ev,⟨?_,XR s.o [a,p,q] [] (fun x hx=>by cases hx) acts hc⟩,⟨⟨_,ha,?_⟩,⟨_,hp,rfl,rfl⟩,⟨_,hq,rfl,rfl⟩,trivial⟩,by simp [h1,h2,h3],?_,by simp,by simp [KK],fun h=>by simp at h,?_⟩
 ·simp [conv]
 ·show Jd _ _ _ _ _
  simp [Jd,conv]
 ·intro x hx
  simp only [List.mem_cons,List.not_mem_nil,or_false] at hx
  rcases hx with rfl|rfl|rfl<;>assumption
 ·rw [YP _ _ h.cl]
  simp only [WT,WV,Ob.ren,aw8,vO,V.ren,sig,axZ]
  exact hk
theorem avQ {Γ:Env} {b:Nat} {r:List AO} {s:St} {d:Option Nat} {f:FuncId} {x:V} {acts args:List V} {okf:Option (List Nat)→Prop} {res:V} {K:St→Prop} {a p q sx sy n m:Nat} {xs ys xs2 ys2:List V}
  (ha:s.o a = some (.box true [.hd p 0 n,.hd q 0 m])) (hp:s.o p = some (.buf true sx xs)) (hq:s.o q = some (.buf true sy ys)) (h:EvT Γ f args sx sy xs ys res xs2 ys2)
  (hd:(decide (a≠p∧a≠q∧p≠q∧a < b∧p < b∧q < b)) = true) (hn:n = xs.length) (hm:m = ys.length) (hc:Q3 s.o (some []) acts)
  (hk:x8 Γ (b + KK) r { t:=(s.put d res).t,o:=upd (upd (upd (upd (upd s.o (b + 1) (some (.buf true sy ys2))) b (some (.buf true sx xs2))) q (some .dead)) p (some .dead)) a (some (.box true [.hd b 0 xs2.length,.hd (b + 1) 0 ys2.length])),n:=s.n } K):arj Γ b r s d f (.ptr a 0 :: acts) (x :: args) okf K:=by
 intro h1 _
 simp only [Xh,List.cons.injEq] at h1
 obtain ⟨_,rfl⟩:=h1
 obtain ⟨e1,e2,e3,e4,e5,e6⟩:=of_decide_eq_true hd
 exact ayg ha hp hq h hn hm hc e1 e2 e3 e4 e5 e6 hk
theorem aqa {Γ:Env} {f:FuncId} {nt:Nat} {ac:AC} {rs:List Jl} (hb:Has Γ.P f nt ac rs) {args xs ys xs2 ys2:List V} {sx sy:Nat} {res:V} (ha:args.length + 1≤nt) (hr:res.closed)
  (h:∀ C:Ctx,C.env = Γ→C.m = 3→AWp C nt ac { t:=(W8 (.ptr 0 0 :: args) []).t,o:=ajp [(0,.box true [.hd 3 0 xs.length,.hd 4 0 ys.length]),(1,.dead),(2,.dead),(3,.buf true sx xs),(4,.buf true sy ys)],n:=5 }
    (afv 3 rs res [aw8 3 4 xs2 ys2,.dead,.dead,.buf true sx xs2,.buf true sy ys2]) (fun _ _=>False) (afv 3 rs res [aw8 3 4 xs2 ys2,.dead,.dead,.buf true sx xs2,.buf true sy ys2])):EvT Γ f args sx sy xs ys res xs2 ys2:=by
 refine ⟨Vp hb (by simpa using ha) fun C hC hm=>?_,hr⟩
 refine arc 0 0 1 (by rfl) (by rfl) (by rfl) ?_
 refine arc 0 1 2 (by rfl) (by rfl) (by rfl) ?_
 have e:=h C hC hm
 refine (congrArg (fun s=>AWp C nt ac s _ _ _) ?_).mp e
 congr 1
 funext k
 match k with
 | 0=>rfl
 | 1=>rfl
 | 2=>rfl
 | 3=>rfl
 | 4=>rfl
 | k + 5=>simp [upd,ajp,W8]
theorem amN {rs:List Jl} {res:V} {s:St} {xs ys xs' ys':List V} {sx sy:Nat} (i j n m:Nat) (vs:List V) (h:ajC s rs = some vs) (hc:conv s.o [0,1,2,i,j] none (aqR vs) res)
  (h0:s.o 0 = some (.box true [.hd i 0 n,.hd j 0 m])) (hi:s.o i = some (.buf true sx xs')) (hj:s.o j = some (.buf true sy ys'))
  (hi3:3≤i) (hj3:3≤j) (hij:i≠j) (h1:∃ x,s.o 1 = some x) (h2:∃ x,s.o 2 = some x) (hx:xs' = xs) (hy:ys' = ys) (hn:n = xs.length) (hm:m = ys.length):afv 3 rs res [aw8 3 4 xs ys,.dead,.dead,.buf true sx xs,.buf true sy ys] s:=by
 subst hn;subst hm;subst hx;subst hy
 obtain ⟨x1,e1⟩:=h1
 obtain ⟨x2,e2⟩:=h2
 refine xE rs vs _ h ⟨[0,1,2,i,j],none,hc,⟨⟨_,h0,fun h=>h,?_⟩,⟨_,e1,?_⟩,⟨_,e2,?_⟩,⟨_,hi,fun h=>h,rfl,rfl⟩,⟨_,hj,fun h=>h,rfl,rfl⟩,trivial⟩,?_,rfl⟩
 ·simp [Jd,conv]
 ·simp [avy]
 ·simp [avy]
 ·simp;omega
end Av
end
section
set_option maxRecDepth 10000
set_option maxHeartbeats 4000000
namespace Av
open Go
attribute [local irreducible] AWp x8 adc afE awS awC am1 awQ anX Yf abo ama awR acg awB okR agS ris
def UJ:List UInt8→UInt8×List UInt8
 | []=>(0,[])
 | c :: r=>if c = 45∨c = 33∨c = 43 then (c,r) else (0,c :: r)
abbrev auk:=List Int×List Int
def doG (g:UInt8) (set:List Int) (p:auk):auk :=
 if g = 45 then (Qt p.1 set,p.2)
 else if g = 33 then (Qt p.1 set,p.2++set)
 else if g = 43 then (Qt p.1 set++Qt p.1 (Qt p.1 set),p.2)
 else (p.1++Qt (Qt set p.1) p.2,p.2)
def aw5:List UInt8:=[64,115,116,114,101,110,103,116,104]
def wordOk (w:List UInt8):Bool:=w == aw5 || (aj1 (UJ w).2).2
def doR (w:List UInt8) (p:auk):auk:=if w == aw5 then (abC p.1,p.2) else doG (UJ w).1 (aj1 (UJ w).2).1 p
def goP:List (List UInt8)→Nat→auk→List Int×Int×Int
 | [],_,p=>(p.1,0,0)
 | w :: r,i,p=>if wordOk w = true then goP r (i + 1) (doR w p) else ([],((i + 1:Nat):Int),17)
def aa8 (s:List UInt8):List Int×Int×Int :=
 if s.length > 8192 then ([],0,3) else if s = [] then ([],0,0) else if (Yu 58 s).length > 200 then ([],0,3) else goP (Yu 58 s) 0 ([],[])
theorem agl (L:List (List UInt8)):(qZ L Jn).Sublist (Jn.map QG.code):=(List.filter_sublist (l:=Jn)).map _
theorem avb:(Jn.map QG.code).Nodup:=by decide
theorem ava:∀ x∈Jn.map QG.code,1≤x∧x≤16:=by decide
theorem asN (s:List UInt8):(aj1 s).1.Nodup:=by
 unfold aj1;split
 ·exact avb.sublist (agl _)
 ·exact List.nodup_nil
theorem av6 (s:List UInt8):∀ x∈(aj1 s).1,1≤x∧x≤16:=by
 unfold aj1;split
 ·exact fun x hx=>ava x ((agl _).subset hx)
 ·intro x hx;cases hx
theorem aqv (s:List UInt8):(aj1 s).1.length≤16:=by
 unfold aj1;split
 ·have:=(agl (Yu 43 s)).length_le
  have e:(Jn.map QG.code).length = 16:=by decide
  show (qZ (Yu 43 s) Jn).length≤16
  omega
 ·simp
theorem Xi {x:Int} {l m:List Int}:x∈Qt l m↔x∈l∧x ∉ m:=by simp [Qt]
theorem amR (p:auk) (m:List Int):(Qt p.1 m++Qt p.1 (Qt p.1 m)).Perm p.1:=by
 have hp:Qt p.1 (Qt p.1 m) = p.1.filter fun x=>m.contains x:=by
  unfold Qt
  refine List.filter_congr fun x hx=>?_
  cases hm:m.contains x<;>simp_all
 rw [hp,Qt]
 have:∀ l:List Int,((l.filter fun x=>!m.contains x)++(l.filter fun x=>m.contains x)).Perm l:=by
  intro l;induction l with
  | nil=>exact .refl _
  | cons x r ih =>
    cases hx:m.contains x
    ·simp only [List.filter_cons,hx,Bool.not_false,if_true,Bool.false_eq_true,if_false,List.cons_append];exact ih.cons x
    ·simp only [List.filter_cons,hx,Bool.not_true,if_true,Bool.false_eq_true,if_false];exact List.perm_middle.trans (ih.cons x)
 exact this _
theorem aww (w:List UInt8) (p:auk):(doR w p).1.length≤p.1.length + 16∧(doR w p).2.length≤p.2.length + 16:=by
 have h:=aqv (UJ w).2
 unfold doR;split
 ·simp [akg]
 ·unfold doG
  have a:=VM p.1 (aj1 (UJ w).2).1
  have b:=VM (Qt (aj1 (UJ w).2).1 p.1) p.2
  have c:=VM (aj1 (UJ w).2).1 p.1
  have part:(Qt p.1 (aj1 (UJ w).2).1++Qt p.1 (Qt p.1 (aj1 (UJ w).2).1)).length≤p.1.length:=Nat.le_of_eq (amR _ _).length_eq
  split
  ·simp;omega
  ·split
   ·simp;omega
   ·split
    ·simp only;omega
    ·simp;omega
theorem atw (out:List Int) (x:Int):(apD out x).Perm (x :: out):=by
 unfold apD
 rw [List.append_assoc,List.singleton_append]
 exact List.perm_middle.trans (by rw [List.take_append_drop])
theorem amJ:∀ (l out:List Int),(l.foldl apD out).Perm (out++l)
 | [],out=>by simp
 | x :: r,out=>by
   rw [List.foldl_cons]
   refine (amJ r _).trans ?_
   refine ((atw out x).append_right r).trans ?_
   rw [List.cons_append]
   exact List.perm_middle.symm
theorem amr (l:List Int):(abC l).Perm l:=by
 have:=amJ l []
 simpa [abC] using this
structure aql (p:auk):Prop where
 nd:p.1.Nodup
 rg:∀ x∈p.1,1≤x∧x≤16
 dj:∀ x∈p.1,x ∉ p.2
theorem axw (w:List UInt8) (p:auk) (h:aql p):aql (doR w p):=by
 have nd:=asN (UJ w).2
 have rg:=av6 (UJ w).2
 unfold doR;split
 ·have hp:=amr p.1
  exact ⟨hp.nodup_iff.2 h.nd,fun x hx=>h.rg x (hp.mem_iff.1 hx),fun x hx=>h.dj x (hp.mem_iff.1 hx)⟩
 ·generalize (aj1 (UJ w).2).1 = m at *
  unfold doG
  split
  ·exact ⟨h.nd.sublist List.filter_sublist,fun x hx=>h.rg x (Xi.1 hx).1,fun x hx=>h.dj x (Xi.1 hx).1⟩
  ·split
   ·refine ⟨h.nd.sublist List.filter_sublist,fun x hx=>h.rg x (Xi.1 hx).1,fun x hx hk=>?_⟩
    have hx:=Xi.1 hx
    rcases List.mem_append.1 hk with hk|hk
    ·exact h.dj x hx.1 hk
    ·exact hx.2 hk
   ·split
    ·have hp:=amR p m
     exact ⟨hp.nodup_iff.2 h.nd,fun x hx=>h.rg x (hp.mem_iff.1 hx),fun x hx=>h.dj x (hp.mem_iff.1 hx)⟩
    ·refine ⟨?_,fun x hx=>?_,fun x hx=>?_⟩
     ·refine List.nodup_append.2 ⟨h.nd,(nd.sublist List.filter_sublist).sublist List.filter_sublist,fun a ha b hb e=>?_⟩
      subst e
      exact (Xi.1 (Xi.1 hb).1).2 ha
     ·rcases List.mem_append.1 hx with hx|hx
      ·exact h.rg x hx
      ·exact rg x (Xi.1 (Xi.1 hx).1).1
     ·rcases List.mem_append.1 hx with hx|hx
      ·exact h.dj x hx
      ·exact (Xi.1 hx).2
theorem av9:aql ([],[]):=⟨List.nodup_nil,fun x h=>by simp at h,fun x h=>by simp at h⟩
theorem aqD {l:List Int} (hn:l.Nodup) (hr:∀ x∈l,1≤x∧x≤16):l.length≤16:=by
 have hs:l ⊆ Jn.map QG.code:=by
  intro x hx
  have h:=hr x hx
  have e:Jn.map QG.code = [1,2,3,4,5,6,7,8,9,10,11,12,13,14,15,16]:=by decide
  rw [e];simp;omega
 have:=hn.length_le_of_subset hs
 have e:(Jn.map QG.code).length = 16:=by decide
 omega
theorem aql.len {p:auk} (h:aql p):p.1.length≤16:=aqD h.nd h.rg
theorem ah9 (c:UInt8):∀ (s cur t:List UInt8),X4 c cur (s++c :: t) = X4 c cur s++X4 c [] t
 | [],cur,t=>by simp [X4]
 | x :: r,cur,t=>by
   rw [List.cons_append,X4,X4]
   split
   ·rw [ah9 c r [] t];rfl
   ·exact ah9 c r _ t
theorem ah6 (c:UInt8) (s t:List UInt8):Yu c (s++[c]++t) = Yu c s++Yu c t:=by
 rw [List.append_assoc,List.singleton_append];exact ah9 c s [] t
theorem akf (c:UInt8):∀ (s cur:List UInt8),c ∉ s→X4 c cur s = [cur++s]
 | [],cur,_=>by simp [X4]
 | x :: r,cur,h=>by
   simp only [List.mem_cons,not_or] at h
   rw [X4,if_neg (fun e=>h.1 e.symm),akf c r _ h.2];simp
end Av
end
section
namespace Av
open Go
structure EvL (Γ:Env) (f:FuncId) (args:List V) (sz:Nat) (xs:List V) (res:V) (ys:List V):Prop where
 ev:Ev Γ f (.hd 0 0 xs.length :: args) [.buf true sz xs] res [.buf true sz ys]
 cl:res.closed
theorem ayj {Γ:Env} {b:Nat} {r:List AO} {s:St} {d:Option Nat} {f:FuncId} {acts:List V} {res:V} {K:St→Prop} {a sz n:Nat} {xs ys:List V}
  (ha:s.o a = some (.buf true sz xs)) (h:EvL Γ f (Xh s.o acts) sz xs res ys) (hn:n = xs.length) (hc:Q3 s.o (some []) acts) (hab:a < b)
  (hk:x8 Γ (b + KK) r { t:=(s.put d res).t,o:=upd s.o a (some (.buf true sz ys)),n:=s.n } K):awC Γ b r s d f (.hd a 0 n :: acts) K:=by
 subst hn
 refine WL ⟨_,_,_,_,[a],some [],h.ev,⟨?_,XR s.o [a] [] (fun x hx=>by cases hx) acts hc⟩,⟨⟨_,ha,rfl,rfl⟩,trivial⟩,by simp,?_,by simp,by simp [KK],fun h=>by simp at h,?_⟩
 ·simp [conv]
 ·intro x hx
  simp only [List.mem_singleton] at hx
  subst hx;exact hab
 ·rw [YP _ _ h.cl]
  simp only [WT,WV,Ob.ren,axZ]
  exact hk
theorem avR {Γ:Env} {b:Nat} {r:List AO} {s:St} {d:Option Nat} {f:FuncId} {x:V} {acts args:List V} {okf:Option (List Nat)→Prop} {res:V} {K:St→Prop} {a sz n:Nat} {xs ys:List V}
  (ha:s.o a = some (.buf true sz xs)) (h:EvL Γ f args sz xs res ys) (hab:decide (a < b) = true) (hn:n = xs.length) (hc:Q3 s.o (some []) acts)
  (hk:x8 Γ (b + KK) r { t:=(s.put d res).t,o:=upd s.o a (some (.buf true sz ys)),n:=s.n } K):arj Γ b r s d f (.hd a 0 n :: acts) (x :: args) okf K:=by
 intro h1 _
 simp only [Xh,List.cons.injEq] at h1
 obtain ⟨_,rfl⟩:=h1
 exact ayj ha h hn hc (of_decide_eq_true hab) hk
theorem agj {Γ:Env} {f:FuncId} {nt:Nat} {ac:AC} {rs:List Jl} (hb:Has Γ.P f nt ac rs) {args xs ys:List V} {sz:Nat} {res:V} (ha:args.length + 1≤nt) (hr:res.closed)
  (h:∀ C:Ctx,C.env = Γ→C.m = 1→AWp C nt ac { t:=(W8 (.hd 0 0 xs.length :: args) []).t,o:=ajp [(0,.buf true sz xs)],n:=1 } (afv 1 rs res [.buf true sz ys]) (fun _ _=>False) (afv 1 rs res [.buf true sz ys])):EvL Γ f args sz xs res ys:=by
 refine ⟨Vp hb (by simpa using ha) fun C hC hm=>?_,hr⟩
 refine (congrArg (fun s=>AWp C nt ac s _ _ _) ?_).mp (h C hC hm)
 simp only [W8]
 congr 1
 funext k
 match k with
 | 0=>rfl
 | k + 1=>simp [ajp]
theorem ajc {rs:List Jl} {res:V} {s:St} {xs ys:List V} {sz:Nat} (vs:List V) (h:ajC s rs = some vs) (ho:s.o 0 = some (.buf true sz xs)) (hc:conv s.o [0] none (aqR vs) res) (hx:xs = ys):afv 1 rs res [.buf true sz ys] s:=by
 subst hx
 exact xE rs vs _ h ⟨[0],none,hc,⟨⟨_,ho,fun h=>h,rfl,rfl⟩,trivial⟩,by simp,rfl⟩
@[go_sem] theorem awE (l:List Int):(∀ y∈l.map V.int,y.cells.length = 1) = True:=eq_true (by intro y hy;simp only [List.mem_map] at hy;obtain ⟨x,_,rfl⟩:=hy;rfl)
@[go_sem] theorem awD (l:List (List UInt8)):(∀ y∈l.map V.str,y.cells.length = 1) = True:=eq_true (by intro y hy;simp only [List.mem_map] at hy;obtain ⟨x,_,rfl⟩:=hy;rfl)
end Av
end
section
set_option maxRecDepth 10000
set_option maxHeartbeats 4000000
namespace Av
open Go
attribute [local irreducible] AWp x8 adc afE awS awC am1 awQ anX Yf abo ama awR acg awB okR agS ris
theorem XI {α β:Type} (f:α→β) (l:List α):(l.map f).take l.length = l.map f:=by rw [List.take_of_length_le (by simp)]
theorem aey (c:UInt8) (r:List UInt8):UJ (c :: r) = if c = 45∨c = 33∨c = 43 then (c,r) else (0,c :: r):=rfl
theorem asH {w:List UInt8} (h:w≠aw5):(w == aw5) = false:=by simpa using h
def afa (r:List Int×Int×Int):V:=.tup [.sl 1 (r.1.map V.int),V.int r.2.1,V.int r.2.2]
theorem anb (r:List Int×Int×Int):(afa r).closed:=by simp only [afa,V.closed,closedL,and_self]
theorem ah7 (c:UInt8):∀ (r cur w:List UInt8),w∈X4 c cur r→w.length≤cur.length + r.length
 | [],cur,w,h=>by simp only [X4,List.mem_singleton] at h;subst h;simp
 | x :: r,cur,w,h=>by
   rw [X4] at h
   split at h
   ·rcases List.mem_cons.1 h with rfl|h
    ·simp
    ·have:=ah7 c r [] w h;simp at this ⊢;omega
   ·have:=ah7 c r _ w h;simp at this ⊢;omega
theorem aro {c:UInt8} {s w:List UInt8} (h:w∈Yu c s):w.length≤s.length:=by simpa using ah7 c s [] w h
def yM (Γ:Env) (f:Nat):Prop:=∀ (s:List UInt8) (c:UInt8) (hs:s.length < 4294967281),EvC Γ f [V.str s,V.str [c]] (.sl 1 ((Yu c s).map V.str))
def acP (Γ:Env) (f:Nat):Prop:=∀ (s:List UInt8) (c:UInt8) (hs:s.length < 4294967281),EvN Γ f [V.str s,V.str [c]] (V.int ((((Yu c s).length - 1:Nat)):Int))
def Uz (Γ:Env) (f:Nat):Prop:=∀ (s:List UInt8) (c:UInt8),EvN Γ f [V.str s,.sc (.int .u8 c.toNat)] (V.int (Lib.indexByte s c))
def wF (Jh YI VY:Nat):AC:=Qa [0] (.reg [xo 2 (.mknil 1),mc 3 (V.bool false)]) (Qa [0,4] (.reg [xo 4 (.mknil 1)]) (Qa [4] (Qa [0,4,12,13,14] (.reg [cl 12 Jh [],ln 13 12,mc 14 (V.int 0)]) (.block 0 (JH [0,4,12,13,14] (Qa [0,4,12,13,14,15] (.reg [bn 15 .lss 14 13]) (Qa [0,4,12,13,14] (.cond (.t 15) .skip (.exit 0)) (Qa [0,4,12,13,14] (.block 1 (Qa [0,4,6,12,13,14] (.reg [ia 16 12 12 14,xo 17 (.load true 12 (.t 16)),xo 6 (.alloc [.val vi0,.val vs0,.val vi0,.val vi0,.val vi0,.val vi0,.val vi0,.val vi0,.val vi0,.val vi0,.val vi0,.val vi0]),xs 12 6 17]) (Qa [0,4,6,7,12,13,14] (.reg [mc 7 (V.bool true)]) (Qa [0,4,6,7,12,13,14] (Qa [0,4,6,7,12,13,14,19,20,21] (.reg [mv 18 0,xo 19 (.call YI [(.t 18),(.c (V.str [43]))]),ln 20 19,mc 21 (V.int 0)]) (.block 2 (JH [0,4,6,7,12,13,14,19,20,21] (Qa [0,4,6,7,12,13,14,19,20,21,22] (.reg [bn 22 .lss 21 20]) (Qa [0,4,6,7,12,13,14,19,20,21] (.cond (.t 22) .skip (.exit 2)) (Qa [0,4,6,7,12,13,14,19,20,21] (.block 3 (Qa [0,4,6,7,9,12,13,14,19,20,21] (.reg [ia 23 1 19 21,ld 24 1 23,mv 9 24]) (Qa [0,4,6,7,10,11,12,13,14,19,20,21] (.reg [xo 26 (.load true 12 (.t 6)),mv 27 9,cl 28 VY [26,27],mv 25 28,ex 29 25 0,ex 30 25 1,mv 10 29,mv 11 30]) (Qa [0,4,6,7,10,12,13,14,19,20,21] (Qa [0,4,6,7,10,12,13,14,19,20,21,32] (.reg [mv 31 11,xo 32 (.un .not (.t 31))]) (.cond (.t 32) (Qa [2,3] (.reg [xo 2 (.mknil 1),mc 3 (V.bool false)]) .ret) .skip)) (.reg [mv 33 7,mv 34 33,mg 35 10 34 true,xo 36 (.pick (.t 34) (.t 35) (.c (V.bool false))),mv 7 36]))))) (.reg [bc 37 .add 21 (V.int 1),mv 21 37]))))))) (Qa [0,4,6,12,13,14,38] (.reg [mv 38 7]) (.cond (.t 38) (.reg [mv 39 4,fa 40 0 6,ld 41 1 40,xo 42 (.bslice 1 1 false [vi0] [(0,(.t 41))]),xo 43 (.append 1 8 [vi0] (.t 39) (.t 42)),mv 4 43]) .skip)))))) (.reg [bc 44 .add 14 (V.int 1),mv 14 44]))))))) (Qa [2,3] (.reg [mv 45 4,mv 2 45,mc 3 (V.bool true)]) .ret))) def r_suitespec_Set:List Jl:=[.tmp 2,.tmp 3]
def U6 (Γ:Env) (f:Nat):Prop:=∀ (s:List UInt8) (hs:s.length < 2 ^ 30),EvC Γ f [V.str s] (.tup [.sl 1 ((aj1 s).1.map V.int),V.bool (aj1 s).2])
attribute [local go_sem] QG.cells QG.v QZ in
theorem ajE {Γ:Env} {f Jh YI VY:Nat} (h:Has Γ.P f 46 (wF Jh YI VY) r_suitespec_Set) (z0:WS Γ Jh) (z1:yM Γ YI) (z2:qu Γ VY):U6 Γ f:=by
 intro s hs
 refine QV h zsi (by simp only [V.closed,closedL,and_self]) fun C hC hm=>?_
 subst hC
 unfold wF
 have hlen:=amo 43 s
 have hsp:=(z1 s 43 (by omega)).b
 have hset:aj1 s = if (Yu 43 s).all abf then (qZ (Yu 43 s) Jn,true) else ([],false):=rfl
 rw [hset]
 generalize Yu 43 s = L at *
 refine zgo ?_;repeat' first|exact zt|apply zan|intro hc
 refine QY (ι:=Nat) (fun k=>k≤16∧(0 < k→L.all abf = true)) (fun k=>QZ [(0,V.str s),(4,.hd 0 0 (qZ L (Jn.take k)).length),(12,.sl 12 (Jn.map QG.v)),(13,V.int 16),(14,V.int k)] [(0,.buf true 1 ((qZ L (Jn.take k)).map V.int))] 1) (fun k=>17 - k) 0 ⟨by omega,fun h=>absurd h (by omega)⟩ (Qk [(0,2000)]) (zwg [(0,2000)]) fun k hk K' hL=>?_
 obtain ⟨hk,hkn⟩:=hk
 rcases hd:Jn.drop k with _|⟨x,r⟩
 ·have hk16:=Qs hd
  rw [VW] at hk16
  have hk16:k = 16:=by omega
  subst hk16
  have e3:Jn.take 16 = Jn:=List.take_of_length_le (by rw [VW];omega)
  have hall:=hkn (by omega)
  rw [e3,hall]
  refine zgo ?_;repeat' first|exact zt|apply zan|intro hc
  all_goals (refine Qn _ rfl ?_;simp only [go_sem];rw [List.take_of_length_le (by simp)])
 ·obtain ⟨hk',hget,hr⟩:=Ql hd
  rw [VW] at hk'
  have hx:=List.mem_of_getElem? hget
  have hw:=Qj (k:=k) (by omega)
  have e1:decide ((k:Int) < 16) = true:=by simp;omega
  have hcs:=apa L k x hget
  have hol:(qZ L (Jn.take k)).length≤16:=by
   rw [qZ,List.length_map]
   refine Nat.le_trans (List.length_filter_le _ _) ?_
   rw [List.length_take];omega
  generalize qZ L (Jn.take k) = out at *
  (have zx:=And.intro e1 hget);refine zgo ?_;repeat' first|exact zt|apply zan|intro hc
  refine QP (ι:=Nat) (fun j=>j≤L.length∧(L.take j).all abf = true) (fun j=>[(7,V.bool ((L.take j).all fun n=>afl n x)),(21,V.int j)]) (fun j=>L.length - j) 0 (by omega) ⟨by omega,by simp⟩ (by repeat' first|exact Q8|refine JD (by omega) (by simp only [Ob.lt,ltL,V.lt,and_self,and_true];try omega) ?_) (fun i hi=>by simp only [ovT,Ji,Nat.reduceEqDiff,reduceIte];(repeat' first|exact JC|refine Q7 ?_ ?_|simp only [V.lt,ltL,and_self,and_true]|omega)) (by simp only [Nat.reduceAdd,ovT,Ji,Nat.reduceEqDiff,reduceIte,U5,ym,arA,u32,u33,u34,u35,u36,u37,u38,u39,and_self,and_true,true_and];exact ⟨rfl,rfl⟩) fun j hj K'' hL2=>?_
  obtain ⟨hj,hjk⟩:=hj
  simp only [ovT,Ji,Nat.reduceEqDiff,reduceIte]
  rcases hdj:L.drop j with _|⟨y,r2⟩
  ·have hjl:=Qs hdj
   have e2:decide ((j:Int) < (((L.map V.str).length:Nat):Int)) = false:=by simp;omega
   have e3:L.take j = L:=List.take_of_length_le hjl
   rw [e3] at hjk ⊢
   rcases hin:auZ L x with _|_
   ·have hin2:(L.all fun n=>afl n x) = false:=hin
    rw [hin2]
    rw [hin] at hcs
    (have zx:=And.intro e2 hw);refine zgo ?_;repeat' first|exact zt|apply zan|intro hc
    simp only [Bool.false_eq_true,if_false,List.append_nil] at hcs
    refine hL _ (k + 1) (Qk []) ⟨by omega,fun _=>hjk⟩ (by omega) ?_
    rw [hcs]
    exact zwg []
   ·have hin2:(L.all fun n=>afl n x) = true:=hin
    rw [hin2]
    rw [hin] at hcs
    (have zx:=And.intro e2 hw);refine zgo ?_;repeat' first|exact zt|apply zan|intro hc
    rw [if_pos rfl] at hcs
    have hb:List.take out.length (List.map V.int out)++[V.int x.code] = (out++[x.code]).map V.int:=by
     rw [List.take_of_length_le (by simp),List.map_append];rfl
    have hln:out.length + 1 = (out++[x.code]).length:=by simp
    rw [hb,hln]
    refine hL _ (k + 1) (Qk [(0,16001)]) ⟨by omega,fun _=>hjk⟩ (by omega) ?_
    rw [hcs]
    exact zwg [(0,16001)]
  ·obtain ⟨hj',hgj,hrj⟩:=Ql hdj
   have hwj:=Qj (k:=j) (by omega)
   have e2:decide ((j:Int) < (((L.map V.str).length:Nat):Int)) = true:=by simp;omega
   have hall:((L.take (j + 1)).all fun n=>afl n x) = (((L.take j).all fun n=>afl n x) && afl y x):=by
    rw [List.take_add_one,hgj];simp
   have hnm:=(z2 x y).b
   have h1:=arP hx y
   have h2:=apW (n:=y) (s:=x)
   simp only [arB,← h1,h2,QG.v,QG.cells] at hnm
   rcases hy:abf y with _|_
   ·rw [hy] at hnm
    have e3:L.all abf = false:=by
     rw [List.all_eq_false];exact ⟨y,List.mem_of_getElem? hgj,by simp [hy]⟩
    rw [e3]
    (have zx:=And.intro e2 (And.intro hwj hgj));refine zgo ?_;repeat' first|exact zt|apply zan|intro hc
    all_goals (refine Qn _ rfl ?_;simp only [go_sem];first|done|rfl|exact ⟨_,_,rfl⟩|trace_state)
   ·rw [hy] at hnm
    have hjk2:(L.take (j + 1)).all abf = true:=by rw [List.take_add_one,hgj];simp [hy];simpa using hjk
    rcases hb:((L.take j).all fun n=>afl n x) with _|_
    ·rw [hb,Bool.false_and] at hall
     (have zx:=And.intro e2 (And.intro hwj hgj));refine zgo ?_;repeat' first|exact zt|apply zan|intro hc
     all_goals exact hL2 _ (j + 1) (by rw [hall];simp only [Nat.reduceAdd,ovT,Ji,Nat.reduceEqDiff,reduceIte,U5,ym,arA,u32,u33,u34,u35,u36,u37,u38,u39,and_self,and_true,true_and]) ⟨by omega,hjk2⟩ (by omega) (fun a ha=>by simp only [u32,u33,u34,u35,u36,u37,u38,u39];repeat rw [if_neg (by omega)])
    ·rw [hb,Bool.true_and] at hall
     (have zx:=And.intro e2 (And.intro hwj hgj));refine zgo ?_;repeat' first|exact zt|apply zan|intro hc
     all_goals exact hL2 _ (j + 1) (by rw [hall];simp only [Nat.reduceAdd,ovT,Ji,Nat.reduceEqDiff,reduceIte,U5,ym,arA,u32,u33,u34,u35,u36,u37,u38,u39,and_self,and_true,true_and]) ⟨by omega,hjk2⟩ (by omega) (fun a ha=>by simp only [u32,u33,u34,u35,u36,u37,u38,u39];repeat rw [if_neg (by omega)])
end Av
end
