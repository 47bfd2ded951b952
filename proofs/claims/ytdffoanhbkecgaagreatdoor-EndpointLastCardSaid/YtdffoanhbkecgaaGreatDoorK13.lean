/- Functions that answer a buffer of their own, whose elements show no memory. -/
import Derived.Test.YtdffoanhbkecgaaGreatDoorK12
import Derived.Lib.IndexLaws
import Derived.Lib.AtoiAllCases
set_option linter.unusedVariables false
set_option linter.unusedSimpArgs false
section
set_option linter.unusedSimpArgs false
set_option linter.unusedVariables false
set_option maxRecDepth 10000
namespace Av
open Go
attribute [local irreducible] AWp V7 Kz KE awS awC jS awQ jY JB Wl jJ awR Ws awB okR Vo ris
end Av
end
section
set_option linter.unusedSimpArgs false
set_option linter.unusedVariables false
set_option maxRecDepth 10000
set_option maxHeartbeats 4000000
namespace Av
open Go
attribute [local irreducible] AWp V7 Kz KE awS awC jS awQ jY JB Wl jJ awR Ws awB okR Vo ris
def ac9:Q9:=⟨0,[],0,0,0,0,0,0,0,0,0,0⟩
def UO (c:Int):Q9:=if 1≤c∧c≤16 then JD.getD (c - 1).toNat ac9 else ac9
def UK (c:Int):V:=.tup [(UO c).v,V.int (if 1≤c∧c≤16 then 0 else 8)]
theorem jK (c:Int):(UK c).closed:=by simp only [UK,Q9.v,Q9.cells,V.closed,Qw,and_self]
theorem xT (c:Int):(UK c).noSl:=by simp only [UK,Q9.v,Q9.cells,V.noSl,JL,and_self]
theorem Vn:JD.length = 16:=rfl
theorem ac8 {c:Int} (h:1≤c∧c≤16):(JD.map Q9.v)[(c - 1).toNat]? = some (UO c).v:=by
  have hk:(c - 1).toNat < JD.length:=by rw [Vn];omega
  rw [List.getElem?_map,UO,if_pos h,List.getD_eq_getElem?_getD,List.getElem?_eq_getElem hk,Option.getD_some];rfl
theorem ac7 {c:Int} (h:¬ (1≤c∧c≤16)):UO c = ac9:=by rw [UO,if_neg h]
def yg (J5:Nat):AC:=QF [0,2] (.reg [xo 2 (.alloc [.val (.int .i64 0),.val (.string ⟨#[]⟩),.val (.int .i64 0),.val (.int .i64 0),.val (.int .i64 0),.val (.int .i64 0),.val (.int .i64 0),.val (.int .i64 0),.val (.int .i64 0),.val (.int .i64 0),.val (.int .i64 0),.val (.int .i64 0)]),mc 3 (V.int 0)]) (QF [0,2,4] (.reg [cl 5 J5 [],mv 4 5]) (QF [0,2,4] (QF [0,2,4,13] (.reg [mv 6 0,bc 7 .lss 6 (V.int 1),mv 8 7,mg 9 0 8 false,mg 10 4 8 false,xg 11 (.lenL (.t 10)) 8 false,xg 12 (.bin .gtr (.t 9) (.t 11)) 8 false,xo 13 (.pick (.t 8) (.c (V.bool true)) (.t 12))]) (.cond (.t 13) (QF [2,3] (.reg [xo 14 (.build [(.int .i64 0),(.string ⟨#[]⟩),(.int .i64 0),(.int .i64 0),(.int .i64 0),(.int .i64 0),(.int .i64 0),(.int .i64 0),(.int .i64 0),(.int .i64 0),(.int .i64 0),(.int .i64 0)] []),xs 12 2 14,mc 3 (V.int 8)]) (.ret)) (.skip))) (QF [2,3] (.reg [mv 15 4,mv 16 0,bc 17 .sub 16 (V.int 1),ia 18 12 15 17,xo 19 (.load true 12 (.t 18)),xs 12 2 19,mc 3 (V.int 0)]) (.ret)))) def r_catalog_Suite:List Y9:=[.cell 2 true 12,.tmp 3]
def Kg (Γ:Env) (f:Nat):Prop:=∀ (c:Int),EvN Γ f [V.int c] (UK c)
theorem acN {Γ:Env} {f J5:Nat} (h:Has Γ.P f 20 (yg J5) r_catalog_Suite) (J3:Vz Γ J5):Kg Γ f:=by
  intro c
  refine Jb h (by simp) (by first|exact jK c|exact xT c) (by first|exact jK c|exact xT c) fun C hC hm=>?_
  subst hC
  unfold yg
  have hl:=Vn
  by_cases h:1≤c∧c≤16
  · have hg:=ac8 h
    have hw:IntKind.i64.wrap (c - 1) = c - 1:=Yq (by omega) (by omega)
    have e1:decide (c < 1) = false:=by simp;omega
    have e2:decide (c > 16) = false:=by simp;omega
    have e3:decide (c > (((JD.map Q9.v).length:Nat):Int)) = false:=by simp [hl];omega
    repeat' (first|refine Qp fun K' hK=>?_|refine Qt fun K' hK=>?_|refine Qq ?_|refine Qr ?_|refine Qa ?_|((first|refine Qs ⟨_,rfl,fun hc=>?_,fun hc=>?_⟩|refine QM (fun hc=>?_) (fun hc=>?_)|refine QN (fun hc=>?_) (fun hc=>?_))<;>first|(cases hc;done)|((try simp only [znz] at hc);first|exact znf|skip))|refine Qv ?_|refine Qu ?_|simp (maxSteps:=1000000) only [go_sem,hg,hw,e1,e2,e3,Q9.v,Q9.cells]|(refine hK _ ?_;clear hK K')|apply And.intro|(apply QX;(focus first|exact EvC.b J3))|exact zlo|omega|exact zms)
    all_goals (simp only [UK,if_pos h,Q9.v,Q9.cells];refine Je _ rfl ?_;simp only [go_sem])
  · have h0:=ac7 h
    by_cases h1:c < 1
    · have e1:decide (c < 1) = true:=by simp;omega
      repeat' (first|refine Qp fun K' hK=>?_|refine Qt fun K' hK=>?_|refine Qq ?_|refine Qr ?_|refine Qa ?_|((first|refine Qs ⟨_,rfl,fun hc=>?_,fun hc=>?_⟩|refine QM (fun hc=>?_) (fun hc=>?_)|refine QN (fun hc=>?_) (fun hc=>?_))<;>first|(cases hc;done)|((try simp only [znz] at hc);first|exact znf|skip))|refine Qv ?_|refine Qu ?_|simp (maxSteps:=1000000) only [go_sem,e1]|(refine hK _ ?_;clear hK K')|apply And.intro|(apply QX;(focus first|exact EvC.b J3))|exact zlo|omega|exact zms)
      all_goals (simp only [UK,if_neg h,h0,ac9,Q9.v,Q9.cells];refine Je _ rfl ?_;simp only [go_sem])
    · have e1:decide (c < 1) = false:=by simp;omega
      have e2:decide (c > (((JD.map Q9.v).length:Nat):Int)) = true:=by simp [hl];omega
      repeat' (first|refine Qp fun K' hK=>?_|refine Qt fun K' hK=>?_|refine Qq ?_|refine Qr ?_|refine Qa ?_|((first|refine Qs ⟨_,rfl,fun hc=>?_,fun hc=>?_⟩|refine QM (fun hc=>?_) (fun hc=>?_)|refine QN (fun hc=>?_) (fun hc=>?_))<;>first|(cases hc;done)|((try simp only [znz] at hc);first|exact znf|skip))|refine Qv ?_|refine Qu ?_|simp (maxSteps:=1000000) only [go_sem,e1,e2]|(refine hK _ ?_;clear hK K')|apply And.intro|(apply QX;(focus first|exact EvC.b J3))|exact zlo|omega|exact zms)
      all_goals (simp only [UK,if_neg h,h0,ac9,Q9.v,Q9.cells];refine Je _ rfl ?_;simp only [go_sem])
def aaO:AC:=QF [0,1,4] (.reg [xo 4 (.alloc [.val (.int .i64 0),.val (.int .i64 0)])]) (QF [4] (.reg [mv 5 0,mv 6 1,xo 7 (.build [(.int .i64 0),(.int .i64 0)] [(0,1,(.t 5)),(1,1,(.t 6))]),xs 2 4 7]) (.ret)) def r_ref02_use:List Y9:=[.cell 4 true 2]
def vL (Γ:Env) (f:Nat):Prop:=∀ (a b:Int),EvN Γ f [V.int a,V.int b] (.agg [V.int a,V.int b])
theorem agi {Γ:Env} {f:Nat} (h:Has Γ.P f 8 aaO r_ref02_use) :vL Γ f:=by
  intro a b
  refine Jb h (by simp) (by simp only [V.closed,Qw,V.noSl,JL,and_self,and_true,true_and]) (by simp only [V.closed,Qw,V.noSl,JL,and_self,and_true,true_and]) fun C hC hm=>?_
  subst hC
  unfold aaO
  repeat' (first|refine Qp fun K' hK=>?_|refine Qt fun K' hK=>?_|refine Qq ?_|refine Qr ?_|refine Qa ?_|((first|refine Qs ⟨_,rfl,fun hc=>?_,fun hc=>?_⟩|refine QM (fun hc=>?_) (fun hc=>?_)|refine QN (fun hc=>?_) (fun hc=>?_))<;>first|(cases hc;done)|((try simp only [znz] at hc);first|exact znf|skip))|refine Qv ?_|refine Qu ?_|simp (maxSteps:=1000000) only [go_sem]|(refine hK _ ?_;clear hK K')|apply And.intro|exact zlo|omega|exact zms)
  refine Je _ rfl ?_;simp only [go_sem]
def ww:AC:=QF [0,1,6,7,10,11,12,13,16] (.reg [xo 10 (.box true 2 (.t 2)),xo 11 (.box true 2 (.t 3)),xo 12 (.box true 2 (.t 4)),xo 13 (.box true 2 (.t 5)),xo 16 (.alloc [.val (.int .i64 0),.val (.string ⟨#[]⟩),.val (.int .i64 0),.val (.int .i64 0),.val (.int .i64 0),.val (.int .i64 0),.val (.int .i64 0),.val (.int .i64 0),.val (.int .i64 0),.val (.int .i64 0),.val (.int .i64 0),.val (.int .i64 0)])]) (QF [16] (.reg [mv 17 0,mv 18 1,xo 19 (.load true 2 (.t 10)),xo 20 (.load true 2 (.t 11)),xo 21 (.load true 2 (.t 12)),xo 22 (.load true 2 (.t 13)),mv 23 6,mv 24 7,xo 25 (.build [(.int .i64 0),(.string ⟨#[]⟩),(.int .i64 0),(.int .i64 0),(.int .i64 0),(.int .i64 0),(.int .i64 0),(.int .i64 0),(.int .i64 0),(.int .i64 0),(.int .i64 0),(.int .i64 0)] [(0,1,(.t 17)),(1,1,(.t 18)),(2,2,(.t 19)),(4,2,(.t 20)),(6,2,(.t 21)),(8,2,(.t 22)),(10,1,(.t 23)),(11,1,(.t 24))]),xs 12 16 25]) (.ret)) def r_ref02_suite:List Y9:=[.cell 16 true 12]
def xz (Γ:Env) (f:Nat):Prop:=∀ (c:Int) (n:List UInt8) (a1 a2 b1 b2 c1 c2 d1 d2 lo up:Int),EvN Γ f [V.int c,V.str n,.agg [V.int a1,V.int a2],.agg [V.int b1,V.int b2],.agg [V.int c1,V.int c2],.agg [V.int d1,V.int d2],V.int lo,V.int up] (.agg [V.int c,V.str n,V.int a1,V.int a2,V.int b1,V.int b2,V.int c1,V.int c2,V.int d1,V.int d2,V.int lo,V.int up])
theorem aeh {Γ:Env} {f:Nat} (h:Has Γ.P f 26 ww r_ref02_suite) :xz Γ f:=by
  intro c n a1 a2 b1 b2 c1 c2 d1 d2 lo up
  refine Jb h (by simp) (by simp only [V.closed,Qw,V.noSl,JL,and_self,and_true,true_and]) (by simp only [V.closed,Qw,V.noSl,JL,and_self,and_true,true_and]) fun C hC hm=>?_
  subst hC
  unfold ww
  repeat' (first|refine Qp fun K' hK=>?_|refine Qt fun K' hK=>?_|refine Qq ?_|refine Qr ?_|refine Qa ?_|((first|refine Qs ⟨_,rfl,fun hc=>?_,fun hc=>?_⟩|refine QM (fun hc=>?_) (fun hc=>?_)|refine QN (fun hc=>?_) (fun hc=>?_))<;>first|(cases hc;done)|((try simp only [znz] at hc);first|exact znf|skip))|refine Qv ?_|refine Qu ?_|simp (maxSteps:=1000000) only [go_sem]|(refine hK _ ?_;clear hK K')|apply And.intro|exact zlo|omega|exact zms)
  refine Je _ rfl ?_;simp only [go_sem]
def jo (Q6 Ji:Nat):List AO:=[xo 29 (.load true 2 (.t 1)),xo 30 (.load true 2 (.t 2)),xo 31 (.load true 2 (.t 4)),xo 32 (.load true 2 (.t 9)),xo 33 (.call Q6 [(.c (V.int 1)),(.c (V.str [114,115,97,45,114,99,52,45,109,100,53])),(.t 29),(.t 30),(.t 31),(.t 32),(.c (V.int 1)),(.c (V.int 2))]),xo 34 (.load true 2 (.t 1)),xo 35 (.load true 2 (.t 2)),xo 36 (.load true 2 (.t 4)),xo 37 (.load true 2 (.t 10)),xo 38 (.call Q6 [(.c (V.int 2)),(.c (V.str [114,115,97,45,114,99,52,45,115,104,97])),(.t 34),(.t 35),(.t 36),(.t 37),(.c (V.int 1)),(.c (V.int 3))]),xo 39 (.load true 2 (.t 1)),xo 40 (.load true 2 (.t 2)),xo 41 (.load true 2 (.t 5)),xo 42 (.load true 2 (.t 10)),xo 43 (.call Q6 [(.c (V.int 3)),(.c (V.str [114,115,97,45,100,101,115,51,45,115,104,97])),(.t 39),(.t 40),(.t 41),(.t 42),(.c (V.int 1)),(.c (V.int 3))]),xo 44 (.call Ji [(.c (V.int 11)),(.c (V.int 1024))]),xo 45 (.call Ji [(.c (V.int 6)),(.c (V.int 0))]),xo 46 (.load true 2 (.t 5)),xo 47 (.load true 2 (.t 10)),xo 48 (.call Q6 [(.c (V.int 4)),(.c (V.str [100,104,101,45,100,115,97,45,100,101,115,51,45,115,104,97])),(.t 44),(.t 45),(.t 46),(.t 47),(.c (V.int 1)),(.c (V.int 3))]),xo 49 (.call Ji [(.c (V.int 11)),(.c (V.int 1024))]),xo 50 (.load true 2 (.t 2)),xo 51 (.load true 2 (.t 5)),xo 52 (.load true 2 (.t 10)),xo 53 (.call Q6 [(.c (V.int 5)),(.c (V.str [100,104,101,45,114,115,97,45,100,101,115,51,45,115,104,97])),(.t 49),(.t 50),(.t 51),(.t 52),(.c (V.int 1)),(.c (V.int 3))]),xo 54 (.load true 2 (.t 1)),xo 55 (.load true 2 (.t 2)),xo 56 (.load true 2 (.t 6)),xo 57 (.load true 2 (.t 10)),xo 58 (.call Q6 [(.c (V.int 6)),(.c (V.str [114,115,97,45,97,101,115,49,50,56,45,115,104,97])),(.t 54),(.t 55),(.t 56),(.t 57),(.c (V.int 1)),(.c (V.int 3))]),xo 59 (.call Ji [(.c (V.int 11)),(.c (V.int 2048))]),xo 60 (.load true 2 (.t 2)),xo 61 (.load true 2 (.t 6)),xo 62 (.load true 2 (.t 10)),xo 63 (.call Q6 [(.c (V.int 7)),(.c (V.str [100,104,101,45,114,115,97,45,97,101,115,49,50,56,45,115,104,97])),(.t 59),(.t 60),(.t 61),(.t 62),(.c (V.int 1)),(.c (V.int 3))]),xo 64 (.load true 2 (.t 13)),xo 65 (.load true 2 (.t 2)),xo 66 (.load true 2 (.t 6)),xo 67 (.load true 2 (.t 10)),xo 68 (.call Q6 [(.c (V.int 8)),(.c (V.str [101,99,100,104,101,45,114,115,97,45,97,101,115,49,50,56,45,115,104,97])),(.t 64),(.t 65),(.t 66),(.t 67),(.c (V.int 1)),(.c (V.int 3))]),xo 69 (.load true 2 (.t 13)),xo 70 (.call Ji [(.c (V.int 7)),(.c (V.int 0))]),xo 71 (.call Ji [(.c (V.int 16)),(.c (V.int 256))]),xo 72 (.load true 2 (.t 11)),xo 73 (.call Q6 [(.c (V.int 9)),(.c (V.str [101,99,100,104,101,45,101,99,100,115,97,45,97,101,115,50,53,54,45,115,104,97,50,53,54])),(.t 69),(.t 70),(.t 71),(.t 72),(.c (V.int 3)),(.c (V.int 3))]),xo 74 (.load true 2 (.t 13)),xo 75 (.load true 2 (.t 2)),xo 76 (.load true 2 (.t 7)),xo 77 (.load true 2 (.t 12)),xo 78 (.call Q6 [(.c (V.int 10)),(.c (V.str [101,99,100,104,101,45,114,115,97,45,97,101,115,49,50,56,45,103,99,109])),(.t 74),(.t 75),(.t 76),(.t 77),(.c (V.int 3)),(.c (V.int 3))]),xo 79 (.call Ji [(.c (V.int 12)),(.c (V.int 384))]),xo 80 (.call Ji [(.c (V.int 7)),(.c (V.int 0))]),xo 81 (.load true 2 (.t 8)),xo 82 (.load true 2 (.t 12)),xo 83 (.call Q6 [(.c (V.int 11)),(.c (V.str [101,99,100,104,101,45,101,99,100,115,97,45,97,101,115,50,53,54,45,103,99,109])),(.t 79),(.t 80),(.t 81),(.t 82),(.c (V.int 3)),(.c (V.int 3))]),xo 84 (.load true 2 (.t 13)),xo 85 (.load true 2 (.t 2)),xo 86 (.load true 2 (.t 14)),xo 87 (.load true 2 (.t 12)),xo 88 (.call Q6 [(.c (V.int 12)),(.c (V.str [101,99,100,104,101,45,114,115,97,45,99,104,97,99,104,97])),(.t 84),(.t 85),(.t 86),(.t 87),(.c (V.int 3)),(.c (V.int 3))]),xo 89 (.load true 2 (.t 1)),xo 90 (.load true 2 (.t 2)),xo 91 (.load true 2 (.t 8)),xo 92 (.load true 2 (.t 12)),xo 93 (.call Q6 [(.c (V.int 13)),(.c (V.str [114,115,97,45,97,101,115,50,53,54,45,103,99,109])),(.t 89),(.t 90),(.t 91),(.t 92),(.c (V.int 3)),(.c (V.int 3))]),xo 94 (.load true 2 (.t 13)),xo 95 (.load true 2 (.t 3)),xo 96 (.load true 2 (.t 7)),xo 97 (.load true 2 (.t 12)),xo 98 (.call Q6 [(.c (V.int 14)),(.c (V.str [97,101,115,49,50,56,45,103,99,109])),(.t 94),(.t 95),(.t 96),(.t 97),(.c (V.int 4)),(.c (V.int 4))]),xo 99 (.load true 2 (.t 13)),xo 100 (.load true 2 (.t 3)),xo 101 (.load true 2 (.t 14)),xo 102 (.load true 2 (.t 12)),xo 103 (.call Q6 [(.c (V.int 15)),(.c (V.str [99,104,97,99,104,97])),(.t 99),(.t 100),(.t 101),(.t 102),(.c (V.int 4)),(.c (V.int 4))]),xo 104 (.call Ji [(.c (V.int 13)),(.c (V.int 768))]),xo 105 (.load true 2 (.t 3)),xo 106 (.load true 2 (.t 8)),xo 107 (.load true 2 (.t 12)),xo 108 (.call Q6 [(.c (V.int 16)),(.c (V.str [109,108,107,101,109,45,97,101,115,50,53,54,45,103,99,109])),(.t 104),(.t 105),(.t 106),(.t 107),(.c (V.int 4)),(.c (V.int 4))]),xo 109 (.bslice 16 12 true [(.int .i64 0),(.string ⟨#[]⟩),(.int .i64 0),(.int .i64 0),(.int .i64 0),(.int .i64 0),(.int .i64 0),(.int .i64 0),(.int .i64 0),(.int .i64 0),(.int .i64 0),(.int .i64 0)] [(0,(.t 33)),(1,(.t 38)),(2,(.t 43)),(3,(.t 48)),(4,(.t 53)),(5,(.t 58)),(6,(.t 63)),(7,(.t 68)),(8,(.t 73)),(9,(.t 78)),(10,(.t 83)),(11,(.t 88)),(12,(.t 93)),(13,(.t 98)),(14,(.t 103)),(15,(.t 108))]),mv 0 109]
def jz:List (List Nat):=[[],[],[],[],[0,1,2,3],[],[],[],[],[5,6,7,8,4],[],[],[],[],[10,11,12,13,9],[14],[15],[],[],[15,16,17,18,16],[19],[],[],[],[20,21,22,23,20],[],[],[],[],[25,26,27,28,24],[29],[],[],[],[30,31,32,33,30],[],[],[],[],[35,36,37,38,34],[],[39],[41],[],[40,41,42,43,42],[],[],[],[],[45,46,47,48,44],[49],[50],[],[],[50,51,52,53,51],[],[],[],[],[55,56,57,58,54],[],[],[],[],[60,61,62,63,59],[],[],[],[],[65,66,67,68,64],[],[],[],[],[70,71,72,73,69],[74],[],[],[],[75,76,77,78,75],[4,9,14,19,24,29,34,39,44,49,54,59,64,69,74,79],[80,79,0,1,2,3,4,5,6,7,8,9,10,11,12,13,14,15,16,17,18,19,20,21,22,23,24,25,26,27,28,29,30,31,32,33,34,35,36,37,38,39,40,41,42,43,44,45,46,47,48,49,50,51,52,53,54,55,56,57,58,59,60,61,62,63,64,65,66,67,68,69,70,71,72,73,74,75,76,77,78,79,80]]
def jm:OT:=.one 0 (.one 1 (.one 2 (.one 3 (.one 4 (.one 5 (.one 6 (.one 7 (.one 8 (.one 9 (.one 10 (.one 11 (.one 12 (.one 13 (.one 14 (.one 17 (.one 18 (.one 21 (.one 22 (.one 23 (.one 25 (.one 26 (.one 27 (.one 28 (.one 31 (.one 32 (.one 33 (.one 35 (.one 36 (.one 37 (.one 38 (.one 40 (.one 43 (.one 45 (.one 46 (.one 47 (.one 48 (.one 52 (.one 53 (.one 55 (.one 56 (.one 57 (.one 58 (.one 60 (.one 61 (.one 62 (.one 63 (.one 65 (.one 66 (.one 67 (.one 68 (.one 70 (.one 71 (.one 72 (.one 73 (.one 76 (.one 77 (.one 78 (.or 15 (.or 16 (.one 19 (.or 20 (.one 24 (.one 29 (.or 30 (.one 34 (.one 39 (.or 41 (.or 42 (.one 44 (.one 49 (.or 50 (.or 51 (.one 54 (.one 59 (.one 64 (.one 69 (.one 74 (.or 75 (.one 79 (.one 80 (.one 81 (.done)))) (.done))))))) (.done)) (.done)))) (.done)) (.done)))) (.done)))) (.done))) (.done)) (.done)))))))))))))))))))))))))))))))))))))))))))))))))))))))))))
def jn (Q6 Ji:Nat):OP:=.one 0 false [] (xo 29 (.load true 2 (.t 1))) (.one 1 false [] (xo 30 (.load true 2 (.t 2))) (.one 2 false [] (xo 31 (.load true 2 (.t 4))) (.one 3 false [] (xo 32 (.load true 2 (.t 9))) (.one 4 false [] (xo 33 (.call Q6 [(.c (V.int 1)),(.c (V.str [114,115,97,45,114,99,52,45,109,100,53])),(.t 29),(.t 30),(.t 31),(.t 32),(.c (V.int 1)),(.c (V.int 2))])) (.one 5 false [] (xo 34 (.load true 2 (.t 1))) (.one 6 false [] (xo 35 (.load true 2 (.t 2))) (.one 7 false [] (xo 36 (.load true 2 (.t 4))) (.one 8 false [] (xo 37 (.load true 2 (.t 10))) (.one 9 false [] (xo 38 (.call Q6 [(.c (V.int 2)),(.c (V.str [114,115,97,45,114,99,52,45,115,104,97])),(.t 34),(.t 35),(.t 36),(.t 37),(.c (V.int 1)),(.c (V.int 3))])) (.one 10 false [] (xo 39 (.load true 2 (.t 1))) (.one 11 false [] (xo 40 (.load true 2 (.t 2))) (.one 12 false [] (xo 41 (.load true 2 (.t 5))) (.one 13 false [] (xo 42 (.load true 2 (.t 10))) (.one 14 false [] (xo 43 (.call Q6 [(.c (V.int 3)),(.c (V.str [114,115,97,45,100,101,115,51,45,115,104,97])),(.t 39),(.t 40),(.t 41),(.t 42),(.c (V.int 1)),(.c (V.int 3))])) (.one 17 false [] (xo 46 (.load true 2 (.t 5))) (.one 18 false [] (xo 47 (.load true 2 (.t 10))) (.one 21 false [] (xo 50 (.load true 2 (.t 2))) (.one 22 false [] (xo 51 (.load true 2 (.t 5))) (.one 23 false [] (xo 52 (.load true 2 (.t 10))) (.one 25 false [] (xo 54 (.load true 2 (.t 1))) (.one 26 false [] (xo 55 (.load true 2 (.t 2))) (.one 27 false [] (xo 56 (.load true 2 (.t 6))) (.one 28 false [] (xo 57 (.load true 2 (.t 10))) (.one 31 false [] (xo 60 (.load true 2 (.t 2))) (.one 32 false [] (xo 61 (.load true 2 (.t 6))) (.one 33 false [] (xo 62 (.load true 2 (.t 10))) (.one 35 false [] (xo 64 (.load true 2 (.t 13))) (.one 36 false [] (xo 65 (.load true 2 (.t 2))) (.one 37 false [] (xo 66 (.load true 2 (.t 6))) (.one 38 false [] (xo 67 (.load true 2 (.t 10))) (.one 40 false [] (xo 69 (.load true 2 (.t 13))) (.one 43 false [] (xo 72 (.load true 2 (.t 11))) (.one 45 false [] (xo 74 (.load true 2 (.t 13))) (.one 46 false [] (xo 75 (.load true 2 (.t 2))) (.one 47 false [] (xo 76 (.load true 2 (.t 7))) (.one 48 false [] (xo 77 (.load true 2 (.t 12))) (.one 52 false [] (xo 81 (.load true 2 (.t 8))) (.one 53 false [] (xo 82 (.load true 2 (.t 12))) (.one 55 false [] (xo 84 (.load true 2 (.t 13))) (.one 56 false [] (xo 85 (.load true 2 (.t 2))) (.one 57 false [] (xo 86 (.load true 2 (.t 14))) (.one 58 false [] (xo 87 (.load true 2 (.t 12))) (.one 60 false [] (xo 89 (.load true 2 (.t 1))) (.one 61 false [] (xo 90 (.load true 2 (.t 2))) (.one 62 false [] (xo 91 (.load true 2 (.t 8))) (.one 63 false [] (xo 92 (.load true 2 (.t 12))) (.one 65 false [] (xo 94 (.load true 2 (.t 13))) (.one 66 false [] (xo 95 (.load true 2 (.t 3))) (.one 67 false [] (xo 96 (.load true 2 (.t 7))) (.one 68 false [] (xo 97 (.load true 2 (.t 12))) (.one 70 false [] (xo 99 (.load true 2 (.t 13))) (.one 71 false [] (xo 100 (.load true 2 (.t 3))) (.one 72 false [] (xo 101 (.load true 2 (.t 14))) (.one 73 false [] (xo 102 (.load true 2 (.t 12))) (.one 76 false [] (xo 105 (.load true 2 (.t 3))) (.one 77 false [] (xo 106 (.load true 2 (.t 8))) (.one 78 false [] (xo 107 (.load true 2 (.t 12))) (.or 15 false [] (xo 44 (.call Ji [(.c (V.int 11)),(.c (V.int 1024))])) (.or 16 false [] (xo 45 (.call Ji [(.c (V.int 6)),(.c (V.int 0))])) (.one 19 false [16,15] (xo 48 (.call Q6 [(.c (V.int 4)),(.c (V.str [100,104,101,45,100,115,97,45,100,101,115,51,45,115,104,97])),(.t 44),(.t 45),(.t 46),(.t 47),(.c (V.int 1)),(.c (V.int 3))])) (.or 20 false [] (xo 49 (.call Ji [(.c (V.int 11)),(.c (V.int 1024))])) (.one 24 false [20] (xo 53 (.call Q6 [(.c (V.int 5)),(.c (V.str [100,104,101,45,114,115,97,45,100,101,115,51,45,115,104,97])),(.t 49),(.t 50),(.t 51),(.t 52),(.c (V.int 1)),(.c (V.int 3))])) (.one 29 false [] (xo 58 (.call Q6 [(.c (V.int 6)),(.c (V.str [114,115,97,45,97,101,115,49,50,56,45,115,104,97])),(.t 54),(.t 55),(.t 56),(.t 57),(.c (V.int 1)),(.c (V.int 3))])) (.or 30 false [] (xo 59 (.call Ji [(.c (V.int 11)),(.c (V.int 2048))])) (.one 34 false [30] (xo 63 (.call Q6 [(.c (V.int 7)),(.c (V.str [100,104,101,45,114,115,97,45,97,101,115,49,50,56,45,115,104,97])),(.t 59),(.t 60),(.t 61),(.t 62),(.c (V.int 1)),(.c (V.int 3))])) (.one 39 false [] (xo 68 (.call Q6 [(.c (V.int 8)),(.c (V.str [101,99,100,104,101,45,114,115,97,45,97,101,115,49,50,56,45,115,104,97])),(.t 64),(.t 65),(.t 66),(.t 67),(.c (V.int 1)),(.c (V.int 3))])) (.or 41 false [] (xo 70 (.call Ji [(.c (V.int 7)),(.c (V.int 0))])) (.or 42 false [] (xo 71 (.call Ji [(.c (V.int 16)),(.c (V.int 256))])) (.one 44 false [42,41] (xo 73 (.call Q6 [(.c (V.int 9)),(.c (V.str [101,99,100,104,101,45,101,99,100,115,97,45,97,101,115,50,53,54,45,115,104,97,50,53,54])),(.t 69),(.t 70),(.t 71),(.t 72),(.c (V.int 3)),(.c (V.int 3))])) (.one 49 false [] (xo 78 (.call Q6 [(.c (V.int 10)),(.c (V.str [101,99,100,104,101,45,114,115,97,45,97,101,115,49,50,56,45,103,99,109])),(.t 74),(.t 75),(.t 76),(.t 77),(.c (V.int 3)),(.c (V.int 3))])) (.or 50 false [] (xo 79 (.call Ji [(.c (V.int 12)),(.c (V.int 384))])) (.or 51 false [] (xo 80 (.call Ji [(.c (V.int 7)),(.c (V.int 0))])) (.one 54 false [51,50] (xo 83 (.call Q6 [(.c (V.int 11)),(.c (V.str [101,99,100,104,101,45,101,99,100,115,97,45,97,101,115,50,53,54,45,103,99,109])),(.t 79),(.t 80),(.t 81),(.t 82),(.c (V.int 3)),(.c (V.int 3))])) (.one 59 false [] (xo 88 (.call Q6 [(.c (V.int 12)),(.c (V.str [101,99,100,104,101,45,114,115,97,45,99,104,97,99,104,97])),(.t 84),(.t 85),(.t 86),(.t 87),(.c (V.int 3)),(.c (V.int 3))])) (.one 64 false [] (xo 93 (.call Q6 [(.c (V.int 13)),(.c (V.str [114,115,97,45,97,101,115,50,53,54,45,103,99,109])),(.t 89),(.t 90),(.t 91),(.t 92),(.c (V.int 3)),(.c (V.int 3))])) (.one 69 false [] (xo 98 (.call Q6 [(.c (V.int 14)),(.c (V.str [97,101,115,49,50,56,45,103,99,109])),(.t 94),(.t 95),(.t 96),(.t 97),(.c (V.int 4)),(.c (V.int 4))])) (.one 74 false [] (xo 103 (.call Q6 [(.c (V.int 15)),(.c (V.str [99,104,97,99,104,97])),(.t 99),(.t 100),(.t 101),(.t 102),(.c (V.int 4)),(.c (V.int 4))])) (.or 75 false [] (xo 104 (.call Ji [(.c (V.int 13)),(.c (V.int 768))])) (.one 79 false [75] (xo 108 (.call Q6 [(.c (V.int 16)),(.c (V.str [109,108,107,101,109,45,97,101,115,50,53,54,45,103,99,109])),(.t 104),(.t 105),(.t 106),(.t 107),(.c (V.int 4)),(.c (V.int 4))])) (.one 80 false [79,75,74,69,64,59,54,51,50,49,44,42,41,39,34,30,29,24,20,19,16,15,14,9,4] (xo 109 (.bslice 16 12 true [(.int .i64 0),(.string ⟨#[]⟩),(.int .i64 0),(.int .i64 0),(.int .i64 0),(.int .i64 0),(.int .i64 0),(.int .i64 0),(.int .i64 0),(.int .i64 0),(.int .i64 0),(.int .i64 0)] [(0,(.t 33)),(1,(.t 38)),(2,(.t 43)),(3,(.t 48)),(4,(.t 53)),(5,(.t 58)),(6,(.t 63)),(7,(.t 68)),(8,(.t 73)),(9,(.t 78)),(10,(.t 83)),(11,(.t 88)),(12,(.t 93)),(13,(.t 98)),(14,(.t 103)),(15,(.t 108))])) (.one 81 false [80,79,75,74,69,64,59,54,51,50,49,44,42,41,39,34,30,29,24,20,19,16,15,14,9,4] (mv 0 109) (.done)))) (.done))))))) (.done)) (.done)))) (.done)) (.done)))) (.done)))) (.done))) (.done)) (.done)))))))))))))))))))))))))))))))))))))))))))))))))))))))))))
theorem wR (Q6 Ji:Nat):okR (jo Q6 Ji) jz [] jm = true:=by kernel_rfl
theorem wQ (Q6 Ji:Nat):Vo (ris (jo Q6 Ji) jz []) jm = jn Q6 Ji:=by kernel_rfl def c_ref02_Suites (Ji Q6:Nat):AC:=QF [] (.reg [xo 0 (.mknil 12)]) (QF [1,2,3] (.reg [xo 15 (.call Ji [(.c (V.int 10)),(.c (V.int 0))]),xo 16 (.call Ji [(.c (V.int 5)),(.c (V.int 0))]),xo 17 (.build [(.int .i64 0),(.int .i64 0)] []),xo 1 (.alloc [.val (.int .i64 0),.val (.int .i64 0)]),xo 2 (.alloc [.val (.int .i64 0),.val (.int .i64 0)]),xo 3 (.alloc [.val (.int .i64 0),.val (.int .i64 0)]),xs 2 1 15,xs 2 2 16,xs 2 3 17]) (QF [1,2,3,4,5] (.reg [xo 18 (.call Ji [(.c (V.int 14)),(.c (V.int 128))]),xo 19 (.call Ji [(.c (V.int 15)),(.c (V.int 168))]),xo 4 (.alloc [.val (.int .i64 0),.val (.int .i64 0)]),xo 5 (.alloc [.val (.int .i64 0),.val (.int .i64 0)]),xs 2 4 18,xs 2 5 19]) (QF [1,2,3,4,5,6,7,8] (.reg [xo 20 (.call Ji [(.c (V.int 16)),(.c (V.int 128))]),xo 21 (.call Ji [(.c (V.int 17)),(.c (V.int 128))]),xo 22 (.call Ji [(.c (V.int 17)),(.c (V.int 256))]),xo 6 (.alloc [.val (.int .i64 0),.val (.int .i64 0)]),xo 7 (.alloc [.val (.int .i64 0),.val (.int .i64 0)]),xo 8 (.alloc [.val (.int .i64 0),.val (.int .i64 0)]),xs 2 6 20,xs 2 7 21,xs 2 8 22]) (QF [1,2,3,4,5,6,7,8,9,10,11,12] (.reg [xo 23 (.call Ji [(.c (V.int 19)),(.c (V.int 0))]),xo 24 (.call Ji [(.c (V.int 20)),(.c (V.int 0))]),xo 25 (.call Ji [(.c (V.int 21)),(.c (V.int 0))]),xo 26 (.call Ji [(.c (V.int 22)),(.c (V.int 0))]),xo 9 (.alloc [.val (.int .i64 0),.val (.int .i64 0)]),xo 10 (.alloc [.val (.int .i64 0),.val (.int .i64 0)]),xo 11 (.alloc [.val (.int .i64 0),.val (.int .i64 0)]),xo 12 (.alloc [.val (.int .i64 0),.val (.int .i64 0)]),xs 2 9 23,xs 2 10 24,xs 2 11 25,xs 2 12 26]) (QF [1,2,3,4,5,6,7,8,9,10,11,12,13,14] (.reg [xo 27 (.call Ji [(.c (V.int 12)),(.c (V.int 256))]),xo 28 (.call Ji [(.c (V.int 18)),(.c (V.int 0))]),xo 13 (.alloc [.val (.int .i64 0),.val (.int .i64 0)]),xo 14 (.alloc [.val (.int .i64 0),.val (.int .i64 0)]),xs 2 13 27,xs 2 14 28]) (QF [0] (aaY [] jm (jn Q6 Ji) (jo Q6 Ji) jz) (.ret))))))) def r_ref02_Suites:List Y9:=[.tmp 0]
def Uw (Γ:Env) (f:Nat):Prop:=EvC Γ f [] (.sl 12 (JD.map Q9.v))
theorem adF {Γ:Env} {f Ji Q6:Nat} (h:Has Γ.P f 110 (c_ref02_Suites Ji Q6) r_ref02_Suites) (agZ:vL Γ Ji) (afk:xz Γ Q6):Uw Γ f:=by
  refine Wb h (by simp) (by simp only [V.closed]) fun C hC hm=>?_
  subst hC
  unfold c_ref02_Suites
  repeat' (first|refine Qp fun K' hK=>?_|refine Qt fun K' hK=>?_|refine Qm 82 (fun _=>true) rfl (wR _ _) (wQ _ _) fun K' hK=>?_|refine Qn 82 (fun _=>true) rfl (wR _ _) (wQ _ _) fun K' hK=>?_|refine Qq ?_|refine Qr ?_|refine Qa ?_|((first|refine Qs ⟨_,rfl,fun hc=>?_,fun hc=>?_⟩|refine QM (fun hc=>?_) (fun hc=>?_)|refine QN (fun hc=>?_) (fun hc=>?_))<;>first|(cases hc;done)|((try simp only [znz] at hc);first|exact znf|skip))|refine Qv ?_|refine Qu ?_|simp (maxSteps:=1000000) only [go_sem,jn]|(refine hK _ ?_;clear hK K')|apply And.intro|((first|apply QX|apply Jz);(focus first|exact (agZ _ _).b|exact (afk _ _ _ _ _ _ _ _ _ _ _ _).b))|exact zlo|omega|exact zms)
  refine Je _ rfl ?_;simp only [go_sem]
  rfl
def wz (Yl:Nat):AC:=QF [0,2] (.reg [xo 2 (.alloc [.val (.int .i64 0),.val (.string ⟨#[]⟩),.val (.int .i64 0),.val (.int .i64 0),.val (.int .i64 0),.val (.int .i64 0),.val (.int .i64 0),.val (.int .i64 0),.val (.int .i64 0),.val (.int .i64 0),.val (.int .i64 0),.val (.int .i64 0)]),mc 3 (V.int 0)]) (QF [0,2] (QF [0,2,9] (.reg [mv 4 0,bc 5 .lss 4 (V.int 1),mv 6 5,mg 7 0 6 false,xg 8 (.bin .gtr (.t 7) (.c (V.int 16))) 6 false,xo 9 (.pick (.t 6) (.c (V.bool true)) (.t 8))]) (.cond (.t 9) (QF [2,3] (.reg [xo 10 (.build [(.int .i64 0),(.string ⟨#[]⟩),(.int .i64 0),(.int .i64 0),(.int .i64 0),(.int .i64 0),(.int .i64 0),(.int .i64 0),(.int .i64 0),(.int .i64 0),(.int .i64 0),(.int .i64 0)] []),xs 12 2 10,mc 3 (V.int 8)]) (.ret)) (.skip))) (QF [2,3] (.reg [cl 11 Yl [],mv 12 0,bc 13 .sub 12 (V.int 1),ia 14 12 11 13,xo 15 (.load true 12 (.t 14)),xs 12 2 15,mc 3 (V.int 0)]) (.ret))) def r_ref02_Suite:List Y9:=[.cell 2 true 12,.tmp 3]
def xB (Γ:Env) (f:Nat):Prop:=∀ (c:Int),EvN Γ f [V.int c] (UK c)
theorem aej {Γ:Env} {f Yl:Nat} (h:Has Γ.P f 16 (wz Yl) r_ref02_Suite) (JT:Uw Γ Yl):xB Γ f:=by
  intro c
  refine Jb h (by simp) (by first|exact jK c|exact xT c) (by first|exact jK c|exact xT c) fun C hC hm=>?_
  subst hC
  unfold wz
  have hl:=Vn
  by_cases h:1≤c∧c≤16
  · have hg:=ac8 h
    have hw:IntKind.i64.wrap (c - 1) = c - 1:=Yq (by omega) (by omega)
    have e1:decide (c < 1) = false:=by simp;omega
    have e2:decide (c > 16) = false:=by simp;omega
    repeat' (first|refine Qp fun K' hK=>?_|refine Qt fun K' hK=>?_|refine Qq ?_|refine Qr ?_|refine Qa ?_|((first|refine Qs ⟨_,rfl,fun hc=>?_,fun hc=>?_⟩|refine QM (fun hc=>?_) (fun hc=>?_)|refine QN (fun hc=>?_) (fun hc=>?_))<;>first|(cases hc;done)|((try simp only [znz] at hc);first|exact znf|skip))|refine Qv ?_|refine Qu ?_|simp (maxSteps:=1000000) only [go_sem,hg,hw,e1,e2,Q9.v,Q9.cells]|(refine hK _ ?_;clear hK K')|apply And.intro|(apply QX;(focus first|exact EvC.b JT))|exact zlo|omega|exact zms)
    all_goals (simp only [UK,if_pos h,Q9.v,Q9.cells];refine Je _ rfl ?_;simp only [go_sem])
  · have h0:=ac7 h
    by_cases h1:c < 1
    · have e1:decide (c < 1) = true:=by simp;omega
      repeat' (first|refine Qp fun K' hK=>?_|refine Qt fun K' hK=>?_|refine Qq ?_|refine Qr ?_|refine Qa ?_|((first|refine Qs ⟨_,rfl,fun hc=>?_,fun hc=>?_⟩|refine QM (fun hc=>?_) (fun hc=>?_)|refine QN (fun hc=>?_) (fun hc=>?_))<;>first|(cases hc;done)|((try simp only [znz] at hc);first|exact znf|skip))|refine Qv ?_|refine Qu ?_|simp (maxSteps:=1000000) only [go_sem,e1]|(refine hK _ ?_;clear hK K')|apply And.intro|(apply QX;(focus first|exact EvC.b JT))|exact zlo|omega|exact zms)
      all_goals (simp only [UK,if_neg h,h0,ac9,Q9.v,Q9.cells];refine Je _ rfl ?_;simp only [go_sem])
    · have e1:decide (c < 1) = false:=by simp;omega
      have e2:decide (c > 16) = true:=by simp;omega
      repeat' (first|refine Qp fun K' hK=>?_|refine Qt fun K' hK=>?_|refine Qq ?_|refine Qr ?_|refine Qa ?_|((first|refine Qs ⟨_,rfl,fun hc=>?_,fun hc=>?_⟩|refine QM (fun hc=>?_) (fun hc=>?_)|refine QN (fun hc=>?_) (fun hc=>?_))<;>first|(cases hc;done)|((try simp only [znz] at hc);first|exact znf|skip))|refine Qv ?_|refine Qu ?_|simp (maxSteps:=1000000) only [go_sem,e1,e2]|(refine hK _ ?_;clear hK K')|apply And.intro|(apply QX;(focus first|exact EvC.b JT))|exact zlo|omega|exact zms)
      all_goals (simp only [UK,if_neg h,h0,ac9,Q9.v,Q9.cells];refine Je _ rfl ?_;simp only [go_sem])
end Av
end
section
set_option linter.unusedSimpArgs false
set_option linter.unusedVariables false
set_option maxRecDepth 10000
set_option maxHeartbeats 4000000
namespace Av
open Go
attribute [local irreducible] AWp V7 Kz KE awS awC jS awQ jY JB Wl jJ awR Ws awB okR Vo ris
def aau {α:Type} (p:α→Bool):Nat→List α→Int
  | _,[]=>-1
  | k,x :: r=>if p x = true then k else aau p (k + 1) r
theorem aeN {α:Type} (p:α→Bool):∀ (l:List α) (k:Nat),-1≤aau p k l∧aau p k l≤((k + l.length:Nat):Int)
  | [],k=>by simp [aau]<;>omega
  | x :: r,k=>by
    have:=aeN p r (k + 1)
    simp only [aau,List.length_cons]
    split<;>omega
def YB:AC:=QF [0,1] (.reg [mc 4 (V.int 0)]) (QF [] (QF [0,1,7,8] (.reg [mv 6 0,ln 7 6,mc 8 (V.int 0)]) (.block 0 (Wv [0,1,7,8] (QF [0,1,7,8,9] (.reg [bn 9 .lss 8 7]) (QF [0,1,7,8] (.cond (.t 9) (.skip) (.exit 0)) (QF [0,1,7,8] (.block 1 (QF [0,1,5,7,8] (.reg [mv 10 8,mv 5 10]) (QF [0,1,5,7,8,16] (.reg [mv 11 1,mv 12 0,mv 13 5,ia 14 12 12 13,xo 15 (.load true 12 (.t 14)),xo 16 (.callv (.t 11) [(.t 15)])]) (.cond (.t 16) (QF [4] (.reg [mv 17 5,mv 4 17]) (.ret)) (.skip))))) (.reg [bc 18 .add 8 (V.int 1),mv 8 18]))))))) (QF [4] (.reg [mc 4 (V.int (-1))]) (.ret))) def r_slices_IndexFunc___api_Suite_api_Suite:List Y9:=[.tmp 4]
def Yu (Γ:Env) (f:Nat):Prop:=∀ (xs:List Q9) (g:Nat) (cap:List V) (p:Q9→Bool) (hp:∀ x∈xs,EvN Γ g (x.v :: cap) (V.bool (p x))) (hcap:Qw cap) (hl:xs.length < 2 ^ 62),EvN Γ f [.sl 12 (xs.map Q9.v),.clo g cap] (V.int (aau p 0 xs))
theorem V8 {Γ:Env} {f:Nat} (h:Has Γ.P f 19 YB r_slices_IndexFunc___api_Suite_api_Suite) :Yu Γ f:=by
  intro xs g cap p hp hcap hl
  refine Jb h (by simp) (by simp only [V.closed,Qw,V.noSl,JL,and_self,and_true,true_and]) (by simp only [V.closed,Qw,V.noSl,JL,and_self,and_true,true_and]) fun C hC hm=>?_
  subst hC
  unfold YB
  have s1:∀ o,X9 o cap = cap:=fun o=>WX o cap hcap
  have s2:∀ o B,JN o B cap = True:=fun o B=>eq_true (XG o B cap hcap)
  repeat' (first|refine Qp fun K' hK=>?_|refine Qt fun K' hK=>?_|refine Qq ?_|refine Qr ?_|refine Qa ?_|((first|refine Qs ⟨_,rfl,fun hc=>?_,fun hc=>?_⟩|refine QM (fun hc=>?_) (fun hc=>?_)|refine QN (fun hc=>?_) (fun hc=>?_))<;>first|(cases hc;done)|((try simp only [znz] at hc);first|exact znf|skip))|refine Qv ?_|refine Qu ?_|simp (maxSteps:=1000000) only [go_sem]|(refine hK _ ?_;clear hK K')|apply And.intro|exact zlo|omega|exact zms)
  refine Wz (ι:=Nat) (fun k=>k≤xs.length∧aau p k (xs.drop k) = aau p 0 xs) (fun k=>[(8,V.int k)]) (fun k=>xs.length - k) 0 (by omega) ⟨by simp,by simp⟩ (by repeat' first|exact VK|refine Kn (by omega) (by simp only [Ob.lt,ltL,V.lt,and_self,and_true];try omega) ?_) (fun i hi=>by simp only [ovT,YO,Nat.reduceEqDiff,reduceIte];(repeat' first|exact Km|refine VJ ?_ ?_|simp only [V.lt,ltL,and_self,and_true]|omega);exact qA _ _ hcap) (by simp only [Nat.reduceAdd,ovT,YO,Nat.reduceEqDiff,reduceIte,J9,Yz,w7,u32,u33,u34,u35,u36,u37,u38,u39,and_self,and_true,true_and];first|rfl|exact Ql _ _ hcap) fun k hk K' hL=>?_
  obtain ⟨hk,hinv⟩:=hk
  simp only [ovT,YO,Nat.reduceEqDiff,reduceIte]
  rcases hd:xs.drop k with _|⟨y,r⟩
  · have:=YX hd
    rw [hd] at hinv
    repeat' (first|refine Qp fun K' hK=>?_|refine Qt fun K' hK=>?_|refine Qq ?_|refine Qr ?_|refine Qa ?_|((first|refine Qs ⟨_,rfl,fun hc=>?_,fun hc=>?_⟩|refine QM (fun hc=>?_) (fun hc=>?_)|refine QN (fun hc=>?_) (fun hc=>?_))<;>first|(cases hc;done)|((try simp only [znz] at hc);first|exact znf|skip))|refine Qv ?_|refine Qu ?_|simp (maxSteps:=1000000) only [go_sem]|(refine hK _ ?_;clear hK K')|apply And.intro|exact zlo|omega|exact zms)
    refine Je _ rfl ?_
    simp only [go_sem]
    rw [← hinv];rfl
  · obtain ⟨hk,hget,hr⟩:=Yp hd
    rw [hd] at hinv
    have hw:=JO (k:=k) (by omega)
    have hpy:=hp y (List.mem_of_getElem? hget)
    by_cases hy:p y = true
    · rw [hy] at hpy
      repeat' (first|refine Qp fun K' hK=>?_|refine Qt fun K' hK=>?_|refine Qq ?_|refine Qr ?_|refine Qa ?_|((first|refine Qs ⟨_,rfl,fun hc=>?_,fun hc=>?_⟩|refine QM (fun hc=>?_) (fun hc=>?_)|refine QN (fun hc=>?_) (fun hc=>?_))<;>first|(cases hc;done)|((try simp only [znz] at hc);first|exact znf|skip))|refine Qv ?_|refine Qu ?_|simp (maxSteps:=1000000) only [go_sem,Int.toNat_natCast,List.getElem?_map,hget,hw,Q9.v,Q9.cells,s1,s2]|(refine hK _ ?_;clear hK K')|apply And.intro|(apply QX;(focus first|exact hpy.b))|exact zlo|omega|exact zms)
      refine Je _ rfl ?_;simp only [go_sem]
      rw [← hinv];simp [aau,hy]
    · have hy':p y = false:=by simpa using hy
      rw [hy'] at hpy
      repeat' (first|refine Qp fun K' hK=>?_|refine Qt fun K' hK=>?_|refine Qq ?_|refine Qr ?_|refine Qa ?_|((first|refine Qs ⟨_,rfl,fun hc=>?_,fun hc=>?_⟩|refine QM (fun hc=>?_) (fun hc=>?_)|refine QN (fun hc=>?_) (fun hc=>?_))<;>first|(cases hc;done)|((try simp only [znz] at hc);first|exact znf|skip))|refine Qv ?_|refine Qu ?_|simp (maxSteps:=1000000) only [go_sem,Int.toNat_natCast,List.getElem?_map,hget,hw,Q9.v,Q9.cells,s1,s2]|(refine hK _ ?_;clear hK K')|apply And.intro|(apply QX;(focus first|exact hpy.b))|exact zlo|omega|exact zms)
      refine hL _ (k + 1) (by simp only [Nat.reduceAdd,ovT,YO,Nat.reduceEqDiff,reduceIte,J9,Yz,w7,u32,u33,u34,u35,u36,u37,u38,u39,and_self,and_true,true_and]) ⟨by omega,?_⟩ (by omega) (fun a ha=>by simp only [u32,u33,u34,u35,u36,u37,u38,u39];repeat rw [if_neg (by omega)])
      rw [hr,← hinv,aau,if_neg hy]
def jy:AC:=QF [1,2] (.reg [xo 2 (.box true 12 (.t 0)),mc 3 (V.bool false)]) (QF [3] (.reg [fa 4 1 2,ld 5 1 4,ld 6 1 1,bn 7 .eql 5 6,mv 3 7]) (.ret)) def r_catalog_Code_1:List Y9:=[.tmp 3]
def qW (Γ:Env) (f:Nat):Prop:=∀ (s:Q9) (n:List UInt8),EvN Γ f [s.v,.ro [V.str n] 0] (V.bool (s.name == n))
theorem ab7 {Γ:Env} {f:Nat} (h:Has Γ.P f 8 jy r_catalog_Code_1) :qW Γ f:=by
  intro s n
  refine Jb h (by simp) (by simp only [V.closed,Qw,V.noSl,JL,and_self,and_true,true_and]) (by simp only [V.closed,Qw,V.noSl,JL,and_self,and_true,true_and]) fun C hC hm=>?_
  subst hC
  unfold jy
  repeat' (first|refine Qp fun K' hK=>?_|refine Qt fun K' hK=>?_|refine Qq ?_|refine Qr ?_|refine Qa ?_|((first|refine Qs ⟨_,rfl,fun hc=>?_,fun hc=>?_⟩|refine QM (fun hc=>?_) (fun hc=>?_)|refine QN (fun hc=>?_) (fun hc=>?_))<;>first|(cases hc;done)|((try simp only [znz] at hc);first|exact znf|skip))|refine Qv ?_|refine Qu ?_|simp (maxSteps:=1000000) only [go_sem,Q9.v,Q9.cells]|(refine hK _ ?_;clear hK K')|apply And.intro|exact zlo|omega|exact zms)
  refine Je _ rfl ?_;simp only [go_sem]
def xf (n:List UInt8):Int:=aau (fun s:Q9=>s.name == n) 0 JD + 1
def xk (J5 V3 J8:Nat):AC:=QF [1] (.reg [xo 1 (.box false 1 (.t 0)),mc 2 (V.int 0)]) (QF [2] (.reg [cl 3 J5 [],xo 4 (.mkfn V3 [(.t 1)]),cl 5 J8 [3,4],bc 6 .add 5 (V.int 1),mv 2 6]) (.ret)) def r_catalog_Code:List Y9:=[.tmp 2]
def yp (Γ:Env) (f:Nat):Prop:=∀ (n:List UInt8),EvN Γ f [V.str n] (V.int (xf n))
theorem adI {Γ:Env} {f J5 V3 J8:Nat} (h:Has Γ.P f 7 (xk J5 V3 J8) r_catalog_Code) (J3:Vz Γ J5) (wU:qW Γ V3) (XA:Yu Γ J8):yp Γ f:=by
  intro n
  refine Jb h (by simp) (by simp only [V.closed,Qw,V.noSl,JL,and_self,and_true,true_and]) (by simp only [V.closed,Qw,V.noSl,JL,and_self,and_true,true_and]) fun C hC hm=>?_
  subst hC
  unfold xk
  have hi:=XA JD V3 [.ro [V.str n] 0] (fun s=>s.name == n) (fun x _=>wU x n) (by simp [Qw,V.closed]) (by rw [Vn];omega)
  have hr:=aeN (fun s:Q9=>s.name == n) JD 0
  have hw:IntKind.i64.wrap (aau (fun s:Q9=>s.name == n) 0 JD + 1) = xf n:=Yq (by omega) (by have:=Vn;omega)
  repeat' (first|refine Qp fun K' hK=>?_|refine Qt fun K' hK=>?_|refine Qq ?_|refine Qr ?_|refine Qa ?_|((first|refine Qs ⟨_,rfl,fun hc=>?_,fun hc=>?_⟩|refine QM (fun hc=>?_) (fun hc=>?_)|refine QN (fun hc=>?_) (fun hc=>?_))<;>first|(cases hc;done)|((try simp only [znz] at hc);first|exact znf|skip))|refine Qv ?_|refine Qu ?_|simp (maxSteps:=1000000) only [go_sem,hw]|(refine hK _ ?_;clear hK K')|apply And.intro|(apply QX;(focus first|exact hi.b|exact EvC.b J3|exact (wU _ _).b|exact (XA _ _ _ _ zsd zsd zsd).b))|exact zlo|omega|exact zms)
  refine Je _ rfl ?_;simp only [go_sem]
theorem afu:∀ k,k < 16→∀ s,JD[k]? = some s→s.code = ((k + 1:Nat):Int):=by decide
def vA (Yl:Nat):AC:=QF [0] (.reg [mc 2 (V.int 0)]) (QF [0,3] (.reg [cl 5 Yl [],mv 3 5]) (QF [] (QF [0,3,4] (.reg [mc 4 (V.int 0)]) (.block 0 (Wv [0,3,4] (QF [0,3,4] (QF [0,3,4,9] (.reg [mv 6 4,mv 7 3,ln 8 7,bn 9 .lss 6 8]) (.cond (.t 9) (.skip) (.exit 0))) (QF [0,3,4] (.block 1 (QF [0,3,4,18] (.reg [mv 12 3,mv 13 4,ia 14 12 12 13,fa 15 1 14,ld 16 1 15,mv 17 0,bn 18 .eql 16 17]) (.cond (.t 18) (QF [2] (.reg [mv 19 3,mv 20 4,ia 21 12 19 20,fa 22 0 21,ld 23 1 22,mv 2 23]) (.ret)) (.skip)))) (.reg [mv 10 4,bc 11 .add 10 (V.int 1),mv 4 11])))))) (QF [2] (.reg [mc 2 (V.int 0)]) (.ret)))) def r_ref02_Code:List Y9:=[.tmp 2]
def wL (Γ:Env) (f:Nat):Prop:=∀ (n:List UInt8),EvN Γ f [V.str n] (V.int (xf n))
theorem afr {Γ:Env} {f Yl:Nat} (h:Has Γ.P f 24 (vA Yl) r_ref02_Code) (JT:Uw Γ Yl):wL Γ f:=by
  intro n
  refine Jb h (by simp) (by simp only [V.closed,Qw,V.noSl,JL,and_self,and_true,true_and]) (by simp only [V.closed,Qw,V.noSl,JL,and_self,and_true,true_and]) fun C hC hm=>?_
  subst hC
  unfold vA
  have hl:=Vn
  repeat' (first|refine Qp fun K' hK=>?_|refine Qt fun K' hK=>?_|refine Qq ?_|refine Qr ?_|refine Qa ?_|((first|refine Qs ⟨_,rfl,fun hc=>?_,fun hc=>?_⟩|refine QM (fun hc=>?_) (fun hc=>?_)|refine QN (fun hc=>?_) (fun hc=>?_))<;>first|(cases hc;done)|((try simp only [znz] at hc);first|exact znf|skip))|refine Qv ?_|refine Qu ?_|simp (maxSteps:=1000000) only [go_sem]|(refine hK _ ?_;clear hK K')|apply And.intro|(apply QX;(focus first|exact EvC.b JT))|exact zlo|omega|exact zms)
  refine Wz (ι:=Nat) (fun k=>k≤16∧aau (fun s:Q9=>s.name == n) k (JD.drop k) = aau (fun s:Q9=>s.name == n) 0 JD) (fun k=>[(4,V.int k)]) (fun k=>16 - k) 0 (by omega) ⟨by simp,by simp⟩ (by repeat' first|exact VK|refine Kn (by omega) (by simp only [Ob.lt,ltL,V.lt,and_self,and_true];try omega) ?_) (fun i hi=>by simp only [ovT,YO,Nat.reduceEqDiff,reduceIte];(repeat' first|exact Km|refine VJ ?_ ?_|simp only [V.lt,ltL,and_self,and_true]|omega)) (by simp only [Nat.reduceAdd,ovT,YO,Nat.reduceEqDiff,reduceIte,J9,Yz,w7,u32,u33,u34,u35,u36,u37,u38,u39,and_self,and_true,true_and];rfl) fun k hk K' hL=>?_
  obtain ⟨hk,hinv⟩:=hk
  simp only [ovT,YO,Nat.reduceEqDiff,reduceIte]
  rcases hd:JD.drop k with _|⟨y,r⟩
  · have:=YX hd
    rw [hd] at hinv
    have e1:decide ((k:Int) < (((JD.map Q9.v).length:Nat):Int)) = false:=by simp [hl];omega
    repeat' (first|refine Qp fun K' hK=>?_|refine Qt fun K' hK=>?_|refine Qq ?_|refine Qr ?_|refine Qa ?_|((first|refine Qs ⟨_,rfl,fun hc=>?_,fun hc=>?_⟩|refine QM (fun hc=>?_) (fun hc=>?_)|refine QN (fun hc=>?_) (fun hc=>?_))<;>first|(cases hc;done)|((try simp only [znz] at hc);first|exact znf|skip))|refine Qv ?_|refine Qu ?_|simp (maxSteps:=1000000) only [go_sem,e1]|(refine hK _ ?_;clear hK K')|apply And.intro|(apply QX;(focus first|exact EvC.b JT))|exact zlo|omega|exact zms)
    all_goals (refine Je _ rfl ?_;simp only [go_sem];rw [xf,← hinv];rfl)
  · obtain ⟨hk',hget,hr⟩:=Yp hd
    rw [hd] at hinv
    have hw:=JO (k:=k) (by omega)
    have e1:decide ((k:Int) < (((JD.map Q9.v).length:Nat):Int)) = true:=by simp [hl];omega
    have hcode:=afu k (by omega) y hget
    repeat' (first|refine Qp fun K' hK=>?_|refine Qt fun K' hK=>?_|refine Qq ?_|refine Qr ?_|refine Qa ?_|((first|refine Qs ⟨_,rfl,fun hc=>?_,fun hc=>?_⟩|refine QM (fun hc=>?_) (fun hc=>?_)|refine QN (fun hc=>?_) (fun hc=>?_))<;>first|(cases hc;done)|((try simp only [znz] at hc);first|exact znf|skip))|refine Qv ?_|refine Qu ?_|simp (maxSteps:=1000000) only [go_sem,Int.toNat_natCast,List.getElem?_map,hget,hw,e1,Q9.v,Q9.cells]|(refine hK _ ?_;clear hK K')|apply And.intro|(apply QX;(focus first|exact EvC.b JT))|exact zlo|omega|exact zms)
    · refine Je _ rfl ?_;simp only [go_sem]
      rw [xf,← hinv,hcode];simp [aau, *]
    · refine hL _ (k + 1) (by simp only [Nat.reduceAdd,ovT,YO,Nat.reduceEqDiff,reduceIte,J9,Yz,w7,u32,u33,u34,u35,u36,u37,u38,u39,and_self,and_true,true_and]) ⟨by omega,?_⟩ (by omega) (fun a ha=>by simp only [u32,u33,u34,u35,u36,u37,u38,u39];repeat rw [if_neg (by omega)])
      rw [hr,← hinv,aau,if_neg (by simpa using hc)]
def aaP:AC:=QF [0,1] (.reg [mc 4 (V.bool false)]) (QF [] (QF [0,1,5] (.reg [mc 5 (V.int 0)]) (.block 0 (Wv [0,1,5] (QF [0,1,5] (QF [0,1,5,9] (.reg [mv 6 5,mv 7 0,ln 8 7,bn 9 .lss 6 8]) (.cond (.t 9) (.skip) (.exit 0))) (QF [0,1,5] (.block 1 (QF [0,1,5,17] (.reg [mv 12 0,mv 13 5,ia 14 1 12 13,ld 15 1 14,mv 16 1,bn 17 .eql 15 16]) (.cond (.t 17) (QF [4] (.reg [mc 4 (V.bool true)]) (.ret)) (.skip)))) (.reg [mv 10 5,bc 11 .add 10 (V.int 1),mv 5 11])))))) (QF [4] (.reg [mc 4 (V.bool false)]) (.ret))) def r_ref02_Has:List Y9:=[.tmp 4]
def vM (Γ:Env) (f:Nat):Prop:=∀ (l:List Int) (n:Int) (hl:l.length < 2 ^ 62),EvN Γ f [.sl 1 (l.map V.int),V.int n] (V.bool (l.contains n))
theorem agj {Γ:Env} {f:Nat} (h:Has Γ.P f 18 aaP r_ref02_Has) :vM Γ f:=by
  intro l n hl
  refine Jb h (by simp) (by simp only [V.closed,Qw,V.noSl,JL,and_self,and_true,true_and]) (by simp only [V.closed,Qw,V.noSl,JL,and_self,and_true,true_and]) fun C hC hm=>?_
  subst hC
  unfold aaP
  repeat' (first|refine Qp fun K' hK=>?_|refine Qt fun K' hK=>?_|refine Qq ?_|refine Qr ?_|refine Qa ?_|((first|refine Qs ⟨_,rfl,fun hc=>?_,fun hc=>?_⟩|refine QM (fun hc=>?_) (fun hc=>?_)|refine QN (fun hc=>?_) (fun hc=>?_))<;>first|(cases hc;done)|((try simp only [znz] at hc);first|exact znf|skip))|refine Qv ?_|refine Qu ?_|simp (maxSteps:=1000000) only [go_sem]|(refine hK _ ?_;clear hK K')|apply And.intro|exact zlo|omega|exact zms)
  refine Wz (ι:=Nat) (fun k=>k≤l.length∧(l.drop k).contains n = l.contains n) (fun k=>[(5,V.int k)]) (fun k=>l.length - k) 0 (by omega) ⟨by simp,by simp⟩ (by repeat' first|exact VK|refine Kn (by omega) (by simp only [Ob.lt,ltL,V.lt,and_self,and_true];try omega) ?_) (fun i hi=>by simp only [ovT,YO,Nat.reduceEqDiff,reduceIte];(repeat' first|exact Km|refine VJ ?_ ?_|simp only [V.lt,ltL,and_self,and_true]|omega)) (by simp only [Nat.reduceAdd,ovT,YO,Nat.reduceEqDiff,reduceIte,J9,Yz,w7,u32,u33,u34,u35,u36,u37,u38,u39,and_self,and_true,true_and];rfl) fun k hk K' hL=>?_
  obtain ⟨hk,hinv⟩:=hk
  simp only [ovT,YO,Nat.reduceEqDiff,reduceIte]
  rcases hd:l.drop k with _|⟨y,r⟩
  · have:=YX hd
    rw [hd] at hinv
    repeat' (first|refine Qp fun K' hK=>?_|refine Qt fun K' hK=>?_|refine Qq ?_|refine Qr ?_|refine Qa ?_|((first|refine Qs ⟨_,rfl,fun hc=>?_,fun hc=>?_⟩|refine QM (fun hc=>?_) (fun hc=>?_)|refine QN (fun hc=>?_) (fun hc=>?_))<;>first|(cases hc;done)|((try simp only [znz] at hc);first|exact znf|skip))|refine Qv ?_|refine Qu ?_|simp (maxSteps:=1000000) only [go_sem]|(refine hK _ ?_;clear hK K')|apply And.intro|exact zlo|omega|exact zms)
    all_goals (refine Je _ rfl ?_;simp only [go_sem];rw [← hinv];rfl)
  · obtain ⟨hk',hget,hr⟩:=Yp hd
    rw [hd] at hinv
    have hw:=JO (k:=k) (by omega)
    repeat' (first|refine Qp fun K' hK=>?_|refine Qt fun K' hK=>?_|refine Qq ?_|refine Qr ?_|refine Qa ?_|((first|refine Qs ⟨_,rfl,fun hc=>?_,fun hc=>?_⟩|refine QM (fun hc=>?_) (fun hc=>?_)|refine QN (fun hc=>?_) (fun hc=>?_))<;>first|(cases hc;done)|((try simp only [znz] at hc);first|exact znf|skip))|refine Qv ?_|refine Qu ?_|simp (maxSteps:=1000000) only [go_sem,Int.toNat_natCast,List.getElem?_map,hget,hw]|(refine hK _ ?_;clear hK K')|apply And.intro|exact zlo|omega|exact zms)
    · refine Je _ rfl ?_;simp only [go_sem]
      rw [← hinv];simp [hc]
    · refine hL _ (k + 1) (by simp only [Nat.reduceAdd,ovT,YO,Nat.reduceEqDiff,reduceIte,J9,Yz,w7,u32,u33,u34,u35,u36,u37,u38,u39,and_self,and_true,true_and]) ⟨by omega,?_⟩ (by omega) (fun a ha=>by simp only [u32,u33,u34,u35,u36,u37,u38,u39];repeat rw [if_neg (by omega)])
      rw [hr,← hinv,List.contains_cons]
      have:(n == y) = false:=by simp;exact fun h=>hc h.symm
      rw [this,Bool.false_or]
end Av
end
section
set_option linter.unusedSimpArgs false
set_option linter.unusedVariables false
set_option maxRecDepth 10000
set_option maxHeartbeats 4000000
namespace Av
open Go
attribute [local irreducible] AWp V7 Kz KE awS awC jS awQ jY JB Wl jJ awR Ws awB okR Vo ris
def w5 (c:Int):Int:=if 1≤c∧c≤16 then YN (UO c).ci1 (UO c).ci2 else 0
def US (Xf Yy:Nat):AC:=QF [0] (.reg [mc 2 (V.int 0)]) (QF [3,4] (.reg [mv 6 0,cl 7 Xf [6],mv 5 7,ex 8 5 0,ex 9 5 1,xo 3 (.alloc [.val (.int .i64 0),.val (.string ⟨#[]⟩),.val (.int .i64 0),.val (.int .i64 0),.val (.int .i64 0),.val (.int .i64 0),.val (.int .i64 0),.val (.int .i64 0),.val (.int .i64 0),.val (.int .i64 0),.val (.int .i64 0),.val (.int .i64 0)]),xs 12 3 8,mv 4 9]) (QF [3] (QF [3,11] (.reg [mv 10 4,bc 11 .neq 10 (V.int 0)]) (.cond (.t 11) (QF [2] (.reg [mc 2 (V.int 0)]) (.ret)) (.skip))) (QF [2] (.reg [fa 12 6 3,xo 13 (.load true 2 (.t 12)),cl 14 Yy [13],mv 2 14]) (.ret)))) def r_suitespec_Strength:List Y9:=[.tmp 2]
def Uv (Γ:Env) (f:Nat):Prop:=∀ (c:Int),EvN Γ f [V.int c] (V.int (w5 c))
theorem vq {Γ:Env} {f Xf Yy:Nat} (h:Has Γ.P f 15 (US Xf Yy) r_suitespec_Strength) (Ww:Kg Γ Xf) (J4:VX Γ Yy):Uv Γ f:=by
  intro c
  refine Jb h (by simp) (by simp only [V.closed,Qw,V.noSl,JL,and_self,and_true,true_and]) (by simp only [V.closed,Qw,V.noSl,JL,and_self,and_true,true_and]) fun C hC hm=>?_
  subst hC
  unfold US
  by_cases h:1≤c∧c≤16
  · have e:UK c = .tup [(UO c).v,V.int 0]:=by rw [UK,if_pos h]
    have hs:w5 c = YN (UO c).ci1 (UO c).ci2:=by rw [w5,if_pos h]
    rw [hs]
    repeat' (first|refine Qp fun K' hK=>?_|refine Qt fun K' hK=>?_|refine Qq ?_|refine Qr ?_|refine Qa ?_|((first|refine Qs ⟨_,rfl,fun hc=>?_,fun hc=>?_⟩|refine QM (fun hc=>?_) (fun hc=>?_)|refine QN (fun hc=>?_) (fun hc=>?_))<;>first|(cases hc;done)|((try simp only [znz] at hc);first|exact znf|skip))|refine Qv ?_|refine Qu ?_|simp (maxSteps:=1000000) only [go_sem,e,Q9.v,Q9.cells]|(refine hK _ ?_;clear hK K')|apply And.intro|(apply QX;(focus first|exact (Ww _).b|exact (J4 _ _).b))|exact zlo|omega|exact zms)
    all_goals (refine Je _ rfl ?_;simp only [go_sem])
  · have e:UK c = .tup [(UO c).v,V.int 8]:=by rw [UK,if_neg h]
    have hs:w5 c = 0:=by rw [w5,if_neg h]
    rw [hs]
    repeat' (first|refine Qp fun K' hK=>?_|refine Qt fun K' hK=>?_|refine Qq ?_|refine Qr ?_|refine Qa ?_|((first|refine Qs ⟨_,rfl,fun hc=>?_,fun hc=>?_⟩|refine QM (fun hc=>?_) (fun hc=>?_)|refine QN (fun hc=>?_) (fun hc=>?_))<;>first|(cases hc;done)|((try simp only [znz] at hc);first|exact znf|skip))|refine Qv ?_|refine Qu ?_|simp (maxSteps:=1000000) only [go_sem,e,Q9.v,Q9.cells]|(refine hK _ ?_;clear hK K')|apply And.intro|(apply QX;(focus first|exact (Ww _).b|exact (J4 _ _).b))|exact zlo|omega|exact zms)
    all_goals (refine Je _ rfl ?_;simp only [go_sem])
def jt (jQ U8:Nat):AC:=QF [0] (.reg [mc 2 (V.int 0)]) (QF [3,4] (.reg [mv 6 0,cl 7 jQ [6],mv 5 7,ex 8 5 0,ex 9 5 1,xo 3 (.alloc [.val (.int .i64 0),.val (.string ⟨#[]⟩),.val (.int .i64 0),.val (.int .i64 0),.val (.int .i64 0),.val (.int .i64 0),.val (.int .i64 0),.val (.int .i64 0),.val (.int .i64 0),.val (.int .i64 0),.val (.int .i64 0),.val (.int .i64 0)]),xs 12 3 8,mv 4 9]) (QF [3] (QF [3,11] (.reg [mv 10 4,bc 11 .neq 10 (V.int 0)]) (.cond (.t 11) (QF [2] (.reg [mc 2 (V.int 0)]) (.ret)) (.skip))) (QF [2] (.reg [fa 12 6 3,xo 13 (.load true 2 (.t 12)),cl 14 U8 [13],mv 2 14]) (.ret)))) def r_ref08_Strength:List Y9:=[.tmp 2]
def UJ (Γ:Env) (f:Nat):Prop:=∀ (c:Int),EvN Γ f [V.int c] (V.int (w5 c))
theorem abZ {Γ:Env} {f jQ U8:Nat} (h:Has Γ.P f 15 (jt jQ U8) r_ref08_Strength) (abc:xB Γ jQ) (wS:qQ Γ U8):UJ Γ f:=by
  intro c
  refine Jb h (by simp) (by simp only [V.closed,Qw,V.noSl,JL,and_self,and_true,true_and]) (by simp only [V.closed,Qw,V.noSl,JL,and_self,and_true,true_and]) fun C hC hm=>?_
  subst hC
  unfold jt
  by_cases h:1≤c∧c≤16
  · have e:UK c = .tup [(UO c).v,V.int 0]:=by rw [UK,if_pos h]
    have hs:w5 c = YN (UO c).ci1 (UO c).ci2:=by rw [w5,if_pos h]
    rw [hs]
    repeat' (first|refine Qp fun K' hK=>?_|refine Qt fun K' hK=>?_|refine Qq ?_|refine Qr ?_|refine Qa ?_|((first|refine Qs ⟨_,rfl,fun hc=>?_,fun hc=>?_⟩|refine QM (fun hc=>?_) (fun hc=>?_)|refine QN (fun hc=>?_) (fun hc=>?_))<;>first|(cases hc;done)|((try simp only [znz] at hc);first|exact znf|skip))|refine Qv ?_|refine Qu ?_|simp (maxSteps:=1000000) only [go_sem,e,Q9.v,Q9.cells]|(refine hK _ ?_;clear hK K')|apply And.intro|(apply QX;(focus first|exact (abc _).b|exact (wS _ _).b))|exact zlo|omega|exact zms)
    all_goals (refine Je _ rfl ?_;simp only [go_sem])
  · have e:UK c = .tup [(UO c).v,V.int 8]:=by rw [UK,if_neg h]
    have hs:w5 c = 0:=by rw [w5,if_neg h]
    rw [hs]
    repeat' (first|refine Qp fun K' hK=>?_|refine Qt fun K' hK=>?_|refine Qq ?_|refine Qr ?_|refine Qa ?_|((first|refine Qs ⟨_,rfl,fun hc=>?_,fun hc=>?_⟩|refine QM (fun hc=>?_) (fun hc=>?_)|refine QN (fun hc=>?_) (fun hc=>?_))<;>first|(cases hc;done)|((try simp only [znz] at hc);first|exact znf|skip))|refine Qv ?_|refine Qu ?_|simp (maxSteps:=1000000) only [go_sem,e,Q9.v,Q9.cells]|(refine hK _ ?_;clear hK K')|apply And.intro|(apply QX;(focus first|exact (abc _).b|exact (wS _ _).b))|exact zlo|omega|exact zms)
    all_goals (refine Je _ rfl ?_;simp only [go_sem])
def UQ:List (List UInt8):=[[97,108,108],[104,105,103,104],[109,101,100,105,117,109],[108,111,119],[118,49],[118,50],[118,51],[118,52]]
def Us (n:List UInt8):Bool:=UQ.contains n || decide (Vs n 0 YV > 0) || decide (xf n > 0)
def wu (WU yR:Nat):AC:=QF [0] (.reg [mc 2 (V.bool false)]) (QF [0] (QF [0,3] (.reg [mv 3 0]) (.block 0 (QF [0,4] (QF [0,3,4] (.reg [bc 5 .eql 3 (V.str [97,108,108]),mv 4 5]) (.cond (.t 4) (.skip) (QF [0,3,4] (.reg [bc 6 .eql 3 (V.str [104,105,103,104]),mv 4 6]) (.cond (.t 4) (.skip) (QF [0,3,4] (.reg [bc 7 .eql 3 (V.str [109,101,100,105,117,109]),mv 4 7]) (.cond (.t 4) (.skip) (QF [0,3,4] (.reg [bc 8 .eql 3 (V.str [108,111,119]),mv 4 8]) (.cond (.t 4) (.skip) (QF [0,3,4] (.reg [bc 9 .eql 3 (V.str [118,49]),mv 4 9]) (.cond (.t 4) (.skip) (QF [0,3,4] (.reg [bc 10 .eql 3 (V.str [118,50]),mv 4 10]) (.cond (.t 4) (.skip) (QF [0,3,4] (.reg [bc 11 .eql 3 (V.str [118,51]),mv 4 11]) (.cond (.t 4) (.skip) (.reg [bc 12 .eql 3 (V.str [118,52]),mv 4 12]))))))))))))))) (.cond (.t 4) (QF [2] (.reg [mc 2 (V.bool true)]) (.ret)) (.skip))))) (QF [2] (.reg [mv 13 0,cl 14 WU [13],bc 15 .gtr 14 (V.int 0),mv 16 15,mg 17 0 16 false,xg 18 (.call yR [(.t 17)]) 16 false,xg 19 (.bin .gtr (.t 18) (.c (V.int 0))) 16 false,xo 20 (.pick (.t 16) (.c (V.bool true)) (.t 19)),mv 2 20]) (.ret))) def r_ref08_known:List Y9:=[.tmp 2]
def xx (Γ:Env) (f:Nat):Prop:=∀ (n:List UInt8),EvN Γ f [V.str n] (V.bool (Us n))
theorem aef {Γ:Env} {f WU yR:Nat} (h:Has Γ.P f 21 (wu WU yR) r_ref08_known) (Y4:jV Γ WU) (acp:wL Γ yR):xx Γ f:=by
  intro n
  refine Jb h (by simp) (by simp only [V.closed,Qw,V.noSl,JL,and_self,and_true,true_and]) (by simp only [V.closed,Qw,V.noSl,JL,and_self,and_true,true_and]) fun C hC hm=>?_
  subst hC
  unfold wu
  by_cases hg:n∈UQ
  · have e:Us n = true:=by simp [Us,hg]
    rw [e]
    simp only [UQ,List.mem_cons,List.not_mem_nil,or_false] at hg
    rcases hg with rfl|rfl|rfl|rfl|rfl|rfl|rfl|rfl
    all_goals
      repeat' (first|refine Qp fun K' hK=>?_|refine Qt fun K' hK=>?_|refine Qq ?_|refine Qr ?_|refine Qa ?_|((first|refine Qs ⟨_,rfl,fun hc=>?_,fun hc=>?_⟩|refine QM (fun hc=>?_) (fun hc=>?_)|refine QN (fun hc=>?_) (fun hc=>?_))<;>first|(cases hc;done)|((try simp only [znz] at hc);first|exact znf|skip))|refine Qv ?_|refine Qu ?_|simp (maxSteps:=1000000) only [go_sem]|(refine hK _ ?_;clear hK K')|apply And.intro|(apply QX;(focus first|exact (Y4 _).b|exact (acp _).b))|exact zlo|omega|exact zms)
      all_goals (refine Je _ rfl ?_;simp only [go_sem])
  · have e0:UQ.contains n = false:=by simpa using hg
    have e:Us n = (decide (Vs n 0 YV > 0) || decide (xf n > 0)):=by simp only [Us,e0,Bool.false_or]
    rw [e]
    simp only [UQ,List.mem_cons,List.not_mem_nil,or_false,not_or] at hg
    obtain ⟨h1,h2,h3,h4,h5,h6,h7,h8⟩:=hg
    have g1:=beq_eq_false_iff_ne.2 h1
    have g2:=beq_eq_false_iff_ne.2 h2
    have g3:=beq_eq_false_iff_ne.2 h3
    have g4:=beq_eq_false_iff_ne.2 h4
    have g5:=beq_eq_false_iff_ne.2 h5
    have g6:=beq_eq_false_iff_ne.2 h6
    have g7:=beq_eq_false_iff_ne.2 h7
    have g8:=beq_eq_false_iff_ne.2 h8
    rcases hf:decide (Vs n 0 YV > 0) with _|_
    all_goals
      repeat' (first|refine Qp fun K' hK=>?_|refine Qt fun K' hK=>?_|refine Qq ?_|refine Qr ?_|refine Qa ?_|((first|refine Qs ⟨_,rfl,fun hc=>?_,fun hc=>?_⟩|refine QM (fun hc=>?_) (fun hc=>?_)|refine QN (fun hc=>?_) (fun hc=>?_))<;>first|(cases hc;done)|((try simp only [znz] at hc);first|exact znf|skip))|refine Qv ?_|refine Qu ?_|simp (maxSteps:=1000000) only [go_sem,hf,g1,g2,g3,g4,g5,g6,g7,g8]|(refine hK _ ?_;clear hK K')|apply And.intro|(apply QX;(focus first|exact (Y4 _).b|exact (acp _).b))|exact zlo|omega|exact zms)
      all_goals first|(refine Je _ rfl ?_;simp only [go_sem];done)|(refine Je _ rfl ?_;simp only [go_sem];simp;done)
def jH (n:List UInt8) (st lo up:Int):Option Bool :=
  if n = [97,108,108] then some true else if n = [104,105,103,104] then some (decide (st≥128)) else if n = [109,101,100,105,117,109] then some (decide (st≥112) && decide (st < 128))
  else if n = [108,111,119] then some (decide (st < 112)) else if n = [118,49] then some (decide (lo≤1) && decide (1≤up)) else if n = [118,50] then some (decide (lo≤2) && decide (2≤up))
  else if n = [118,51] then some (decide (lo≤3) && decide (3≤up)) else if n = [118,52] then some (decide (lo≤4) && decide (4≤up)) else none
def agD:Option Bool→V
  | some b=>.tup [V.bool b,V.bool true]
  | none=>.tup [V.bool false,V.bool false]
theorem adp (x:Option Bool):(agD x).closed:=by cases x<;>simp only [agD,V.closed,Qw,and_self]
theorem afZ (x:Option Bool):(agD x).noSl:=by cases x<;>simp only [agD,V.noSl,JL,and_self]
theorem abV {n:List UInt8} (st lo up:Int) (h:n ∉ UQ):jH n st lo up = none:=by
  simp only [UQ,List.mem_cons,List.not_mem_nil,or_false,not_or] at h
  obtain ⟨h1,h2,h3,h4,h5,h6,h7,h8⟩:=h
  rw [jH,if_neg h1,if_neg h2,if_neg h3,if_neg h4,if_neg h5,if_neg h6,if_neg h7,if_neg h8]
def qD (Yy:Nat):AC:=QF [1,2] (.reg [xo 2 (.box true 12 (.t 0)),mc 4 (V.bool false),mc 5 (V.bool false)]) (QF [1,2,6] (.reg [fa 8 6 2,xo 9 (.load true 2 (.t 8)),cl 10 Yy [9],mv 6 10]) (QF [] (QF [1,2,6,11] (.reg [mv 11 1]) (.block 0 (QF [1,2,6,11,12] (.reg [bc 13 .eql 11 (V.str [97,108,108]),mv 12 13]) (.cond (.t 12) (QF [4,5] (.reg [mc 4 (V.bool true),mc 5 (V.bool true)]) (.ret)) (QF [1,2,6,11,14] (.reg [bc 15 .eql 11 (V.str [104,105,103,104]),mv 14 15]) (.cond (.t 14) (QF [4,5] (.reg [mv 16 6,bc 17 .geq 16 (V.int 128),mv 4 17,mc 5 (V.bool true)]) (.ret)) (QF [1,2,6,11,18] (.reg [bc 19 .eql 11 (V.str [109,101,100,105,117,109]),mv 18 19]) (.cond (.t 18) (QF [4,5] (.reg [mv 20 6,bc 21 .geq 20 (V.int 112),mv 22 21,mg 23 6 22 true,xg 24 (.bin .lss (.t 23) (.c (V.int 128))) 22 true,xo 25 (.pick (.t 22) (.t 24) (.c (V.bool false))),mv 4 25,mc 5 (V.bool true)]) (.ret)) (QF [1,2,6,11,26] (.reg [bc 27 .eql 11 (V.str [108,111,119]),mv 26 27]) (.cond (.t 26) (QF [4,5] (.reg [mv 28 6,bc 29 .lss 28 (V.int 112),mv 4 29,mc 5 (V.bool true)]) (.ret)) (QF [1,2,30] (QF [1,2,11,30] (.reg [bc 31 .eql 11 (V.str [118,49]),mv 30 31]) (.cond (.t 30) (.skip) (QF [1,2,11,30] (.reg [bc 32 .eql 11 (V.str [118,50]),mv 30 32]) (.cond (.t 30) (.skip) (QF [1,2,11,30] (.reg [bc 33 .eql 11 (V.str [118,51]),mv 30 33]) (.cond (.t 30) (.skip) (.reg [bc 34 .eql 11 (V.str [118,52]),mv 30 34]))))))) (.cond (.t 30) (QF [2,7] (.reg [mv 35 1,xo 36 (.idxS (.t 35) (.c (V.int 1))),bc 37 .sub 36 (.sc (.int .u8 48)),xo 38 (.convI .i64 (.t 37)),mv 7 38]) (QF [4,5] (.reg [fa 39 10 2,ld 40 1 39,mv 41 7,bn 42 .leq 40 41,mv 43 42,mg 44 7 43 true,xg 45 (.faddr 11 (.t 2)) 43 true,xg 46 (.load false 1 (.t 45)) 43 true,xg 47 (.bin .leq (.t 44) (.t 46)) 43 true,xo 48 (.pick (.t 43) (.t 47) (.c (V.bool false))),mv 4 48,mc 5 (V.bool true)]) (.ret))) (.skip))))))))))))) (QF [4,5] (.reg [mc 4 (V.bool false),mc 5 (V.bool false)]) (.ret)))) def r_suitespec_group:List Y9:=[.tmp 4,.tmp 5]
def qd (Γ:Env) (f:Nat):Prop:=∀ (s:Q9) (n:List UInt8),EvN Γ f [s.v,V.str n] (agD (jH n (YN s.ci1 s.ci2) s.lo s.hi))
theorem abg {Γ:Env} {f Yy:Nat} (h:Has Γ.P f 49 (qD Yy) r_suitespec_group) (J4:VX Γ Yy):qd Γ f:=by
  intro s n
  refine Jb h (by simp) (by first|exact adp _|exact afZ _) (by first|exact adp _|exact afZ _) fun C hC hm=>?_
  subst hC
  unfold qD
  generalize hst:YN s.ci1 s.ci2 = st
  by_cases hg:n∈UQ
  · simp only [UQ,List.mem_cons,List.not_mem_nil,or_false] at hg
    rcases hg with rfl|rfl|rfl|rfl|rfl|rfl|rfl|rfl
    · repeat' (first|refine Qp fun K' hK=>?_|refine Qt fun K' hK=>?_|refine Qq ?_|refine Qr ?_|refine Qa ?_|((first|refine Qs ⟨_,rfl,fun hc=>?_,fun hc=>?_⟩|refine QM (fun hc=>?_) (fun hc=>?_)|refine QN (fun hc=>?_) (fun hc=>?_))<;>first|(cases hc;done)|((try simp only [znz] at hc);first|exact znf|skip))|refine Qv ?_|refine Qu ?_|simp (maxSteps:=1000000) only [go_sem,Q9.v,Q9.cells,hst]|(refine hK _ ?_;clear hK K')|apply And.intro|(apply QX;(focus first|exact (J4 _ _).b))|exact zlo|omega|exact zms)
      all_goals (simp only [jH,agD,if_true];refine Je _ rfl ?_;simp only [go_sem])
    · repeat' (first|refine Qp fun K' hK=>?_|refine Qt fun K' hK=>?_|refine Qq ?_|refine Qr ?_|refine Qa ?_|((first|refine Qs ⟨_,rfl,fun hc=>?_,fun hc=>?_⟩|refine QM (fun hc=>?_) (fun hc=>?_)|refine QN (fun hc=>?_) (fun hc=>?_))<;>first|(cases hc;done)|((try simp only [znz] at hc);first|exact znf|skip))|refine Qv ?_|refine Qu ?_|simp (maxSteps:=1000000) only [go_sem,Q9.v,Q9.cells,hst]|(refine hK _ ?_;clear hK K')|apply And.intro|(apply QX;(focus first|exact (J4 _ _).b))|exact zlo|omega|exact zms)
      all_goals (have e:jH [104,105,103,104] st s.lo s.hi = some (decide (st≥128)):=rfl;rw [e];simp only [agD];refine Je _ rfl ?_;simp only [go_sem])
    · have e:jH [109,101,100,105,117,109] st s.lo s.hi = some (decide (st≥112) && decide (st < 128)):=rfl
      rw [e]
      rcases h1:decide (st≥112) with _|_<;>rcases h2:decide (st < 128) with _|_
      all_goals
        repeat' (first|refine Qp fun K' hK=>?_|refine Qt fun K' hK=>?_|refine Qq ?_|refine Qr ?_|refine Qa ?_|((first|refine Qs ⟨_,rfl,fun hc=>?_,fun hc=>?_⟩|refine QM (fun hc=>?_) (fun hc=>?_)|refine QN (fun hc=>?_) (fun hc=>?_))<;>first|(cases hc;done)|((try simp only [znz] at hc);first|exact znf|skip))|refine Qv ?_|refine Qu ?_|simp (maxSteps:=1000000) only [go_sem,Q9.v,Q9.cells,hst,h1,h2]|(refine hK _ ?_;clear hK K')|apply And.intro|(apply QX;(focus first|exact (J4 _ _).b))|exact zlo|omega|exact zms)
        all_goals (simp only [agD,Bool.and_self,Bool.and_true,Bool.and_false,Bool.false_and,Bool.true_and];refine Je _ rfl ?_;simp only [go_sem])
    · repeat' (first|refine Qp fun K' hK=>?_|refine Qt fun K' hK=>?_|refine Qq ?_|refine Qr ?_|refine Qa ?_|((first|refine Qs ⟨_,rfl,fun hc=>?_,fun hc=>?_⟩|refine QM (fun hc=>?_) (fun hc=>?_)|refine QN (fun hc=>?_) (fun hc=>?_))<;>first|(cases hc;done)|((try simp only [znz] at hc);first|exact znf|skip))|refine Qv ?_|refine Qu ?_|simp (maxSteps:=1000000) only [go_sem,Q9.v,Q9.cells,hst]|(refine hK _ ?_;clear hK K')|apply And.intro|(apply QX;(focus first|exact (J4 _ _).b))|exact zlo|omega|exact zms)
      all_goals (have e:jH [108,111,119] st s.lo s.hi = some (decide (st < 112)):=rfl;rw [e];simp only [agD];refine Je _ rfl ?_;simp only [go_sem])
    · have e:jH [118,49] st s.lo s.hi = some (decide (s.lo≤1) && decide (1≤s.hi)):=rfl
      have ew:IntKind.i64.wrap (IntKind.u8.wrap (((UInt8.toNat 49:Nat):Int) - 48)) = 1:=rfl
      rw [e]
      rcases h1:decide (s.lo≤1) with _|_<;>rcases h2:decide (1≤s.hi) with _|_
      all_goals
        repeat' (first|refine Qp fun K' hK=>?_|refine Qt fun K' hK=>?_|refine Qq ?_|refine Qr ?_|refine Qa ?_|((first|refine Qs ⟨_,rfl,fun hc=>?_,fun hc=>?_⟩|refine QM (fun hc=>?_) (fun hc=>?_)|refine QN (fun hc=>?_) (fun hc=>?_))<;>first|(cases hc;done)|((try simp only [znz] at hc);first|exact znf|skip))|refine Qv ?_|refine Qu ?_|simp (maxSteps:=1000000) only [go_sem,Q9.v,Q9.cells,hst,ew,h1,h2]|(refine hK _ ?_;clear hK K')|apply And.intro|(apply QX;(focus first|exact (J4 _ _).b))|exact zlo|omega|exact zms)
        all_goals (simp only [agD,Bool.and_self,Bool.and_true,Bool.and_false,Bool.false_and,Bool.true_and];refine Je _ rfl ?_;simp only [go_sem])
    · have e:jH [118,50] st s.lo s.hi = some (decide (s.lo≤2) && decide (2≤s.hi)):=rfl
      have ew:IntKind.i64.wrap (IntKind.u8.wrap (((UInt8.toNat 50:Nat):Int) - 48)) = 2:=rfl
      rw [e]
      rcases h1:decide (s.lo≤2) with _|_<;>rcases h2:decide (2≤s.hi) with _|_
      all_goals
        repeat' (first|refine Qp fun K' hK=>?_|refine Qt fun K' hK=>?_|refine Qq ?_|refine Qr ?_|refine Qa ?_|((first|refine Qs ⟨_,rfl,fun hc=>?_,fun hc=>?_⟩|refine QM (fun hc=>?_) (fun hc=>?_)|refine QN (fun hc=>?_) (fun hc=>?_))<;>first|(cases hc;done)|((try simp only [znz] at hc);first|exact znf|skip))|refine Qv ?_|refine Qu ?_|simp (maxSteps:=1000000) only [go_sem,Q9.v,Q9.cells,hst,ew,h1,h2]|(refine hK _ ?_;clear hK K')|apply And.intro|(apply QX;(focus first|exact (J4 _ _).b))|exact zlo|omega|exact zms)
        all_goals (simp only [agD,Bool.and_self,Bool.and_true,Bool.and_false,Bool.false_and,Bool.true_and];refine Je _ rfl ?_;simp only [go_sem])
    · have e:jH [118,51] st s.lo s.hi = some (decide (s.lo≤3) && decide (3≤s.hi)):=rfl
      have ew:IntKind.i64.wrap (IntKind.u8.wrap (((UInt8.toNat 51:Nat):Int) - 48)) = 3:=rfl
      rw [e]
      rcases h1:decide (s.lo≤3) with _|_<;>rcases h2:decide (3≤s.hi) with _|_
      all_goals
        repeat' (first|refine Qp fun K' hK=>?_|refine Qt fun K' hK=>?_|refine Qq ?_|refine Qr ?_|refine Qa ?_|((first|refine Qs ⟨_,rfl,fun hc=>?_,fun hc=>?_⟩|refine QM (fun hc=>?_) (fun hc=>?_)|refine QN (fun hc=>?_) (fun hc=>?_))<;>first|(cases hc;done)|((try simp only [znz] at hc);first|exact znf|skip))|refine Qv ?_|refine Qu ?_|simp (maxSteps:=1000000) only [go_sem,Q9.v,Q9.cells,hst,ew,h1,h2]|(refine hK _ ?_;clear hK K')|apply And.intro|(apply QX;(focus first|exact (J4 _ _).b))|exact zlo|omega|exact zms)
        all_goals (simp only [agD,Bool.and_self,Bool.and_true,Bool.and_false,Bool.false_and,Bool.true_and];refine Je _ rfl ?_;simp only [go_sem])
    · have e:jH [118,52] st s.lo s.hi = some (decide (s.lo≤4) && decide (4≤s.hi)):=rfl
      have ew:IntKind.i64.wrap (IntKind.u8.wrap (((UInt8.toNat 52:Nat):Int) - 48)) = 4:=rfl
      rw [e]
      rcases h1:decide (s.lo≤4) with _|_<;>rcases h2:decide (4≤s.hi) with _|_
      all_goals
        repeat' (first|refine Qp fun K' hK=>?_|refine Qt fun K' hK=>?_|refine Qq ?_|refine Qr ?_|refine Qa ?_|((first|refine Qs ⟨_,rfl,fun hc=>?_,fun hc=>?_⟩|refine QM (fun hc=>?_) (fun hc=>?_)|refine QN (fun hc=>?_) (fun hc=>?_))<;>first|(cases hc;done)|((try simp only [znz] at hc);first|exact znf|skip))|refine Qv ?_|refine Qu ?_|simp (maxSteps:=1000000) only [go_sem,Q9.v,Q9.cells,hst,ew,h1,h2]|(refine hK _ ?_;clear hK K')|apply And.intro|(apply QX;(focus first|exact (J4 _ _).b))|exact zlo|omega|exact zms)
        all_goals (simp only [agD,Bool.and_self,Bool.and_true,Bool.and_false,Bool.false_and,Bool.true_and];refine Je _ rfl ?_;simp only [go_sem])
  · rw [abV st s.lo s.hi hg]
    simp only [UQ,List.mem_cons,List.not_mem_nil,or_false,not_or] at hg
    obtain ⟨h1,h2,h3,h4,h5,h6,h7,h8⟩:=hg
    have g1:=beq_eq_false_iff_ne.2 h1
    have g2:=beq_eq_false_iff_ne.2 h2
    have g3:=beq_eq_false_iff_ne.2 h3
    have g4:=beq_eq_false_iff_ne.2 h4
    have g5:=beq_eq_false_iff_ne.2 h5
    have g6:=beq_eq_false_iff_ne.2 h6
    have g7:=beq_eq_false_iff_ne.2 h7
    have g8:=beq_eq_false_iff_ne.2 h8
    repeat' (first|refine Qp fun K' hK=>?_|refine Qt fun K' hK=>?_|refine Qq ?_|refine Qr ?_|refine Qa ?_|((first|refine Qs ⟨_,rfl,fun hc=>?_,fun hc=>?_⟩|refine QM (fun hc=>?_) (fun hc=>?_)|refine QN (fun hc=>?_) (fun hc=>?_))<;>first|(cases hc;done)|((try simp only [znz] at hc);first|exact znf|skip))|refine Qv ?_|refine Qu ?_|simp (maxSteps:=1000000) only [go_sem,Q9.v,Q9.cells,hst,g1,g2,g3,g4,g5,g6,g7,g8]|(refine hK _ ?_;clear hK K')|apply And.intro|(apply QX;(focus first|exact (J4 _ _).b))|exact zlo|omega|exact zms)
    all_goals (simp only [agD];refine Je _ rfl ?_;simp only [go_sem])
def aaj (n:List UInt8) (s:Q9):Bool×Bool :=
  match jH n (YN s.ci1 s.ci2) s.lo s.hi with
  | some b=>(b,true)
  | none=>((decide (Vs n 0 YV > 0) && decide (Uy (Vs n 0 YV) 0 [s.kx1,s.sg1,s.ci1,s.mc1]≥0)) || (decide (xf n > 0) && s.code == xf n),decide (Vs n 0 YV > 0) || decide (xf n > 0))
def Vh (n:List UInt8) (s:Q9):Bool :=
  match jH n (w5 s.code) s.lo s.hi with
  | some b=>b
  | none=>(decide (Vs n 0 YV > 0) && (s.kx1 == Vs n 0 YV || s.sg1 == Vs n 0 YV || s.ci1 == Vs n 0 YV || s.mc1 == Vs n 0 YV)) || s.name == n
def ah5 (p:Bool×Bool):V:=.tup [V.bool p.1,V.bool p.2]
def qC (UA q8 q9 QL:Nat):AC:=QF [1,2] (.reg [xo 2 (.box true 12 (.t 0)),mc 4 (V.bool false),mc 5 (V.bool false)]) (QF [1,2] (QF [1,2,6,7] (.reg [xo 12 (.load true 12 (.t 2)),mv 13 1,cl 14 UA [12,13],mv 11 14,ex 15 11 0,ex 16 11 1,mv 6 15,mv 7 16]) (QF [1,2,6,17] (.reg [mv 17 7]) (.cond (.t 17) (QF [4,5] (.reg [mv 18 6,mv 4 18,mc 5 (V.bool true)]) (.ret)) (.skip)))) (QF [2,8,9] (.reg [mv 19 1,cl 20 q8 [19],mv 21 1,cl 22 q9 [21],mv 8 20,mv 9 22]) (QF [2,8,9,10] (.reg [fa 23 2 2,fa 24 0 23,ld 25 1 24,fa 26 4 2,fa 27 0 26,ld 28 1 27,fa 29 6 2,fa 30 0 29,ld 31 1 30,fa 32 8 2,fa 33 0 32,ld 34 1 33,xo 35 (.bslice 4 1 false [(.int .i64 0)] [(0,(.t 25)),(1,(.t 28)),(2,(.t 31)),(3,(.t 34))]),mv 10 35]) (QF [4,5] (.reg [mv 36 8,bc 37 .gtr 36 (V.int 0),mv 38 37,mg 39 10 38 true,mg 40 8 38 true,xg 41 (.call QL [(.t 39),(.t 40)]) 38 true,xo 42 (.pick (.t 38) (.t 41) (.c (V.bool false))),mv 43 42,mg 44 9 43 false,xg 45 (.bin .gtr (.t 44) (.c (V.int 0))) 43 false,mg 46 45 43 false,xg 47 (.faddr 0 (.t 2)) 46 true,xg 48 (.load false 1 (.t 47)) 46 true,mg 49 9 46 true,xg 50 (.bin .eql (.t 48) (.t 49)) 46 true,xg 51 (.pick (.t 46) (.t 50) (.c (V.bool false))) 43 false,xo 52 (.pick (.t 43) (.c (V.bool true)) (.t 51)),mv 53 8,bc 54 .gtr 53 (V.int 0),mv 55 54,mg 56 9 55 false,xg 57 (.bin .gtr (.t 56) (.c (V.int 0))) 55 false,xo 58 (.pick (.t 55) (.c (V.bool true)) (.t 57)),mv 4 52,mv 5 58]) (.ret))))) def r_suitespec_named:List Y9:=[.tmp 4,.tmp 5]
def qc (Γ:Env) (f:Nat):Prop:=∀ (s:Q9) (n:List UInt8),EvN Γ f [s.v,V.str n] (ah5 (aaj n s))
theorem abf {Γ:Env} {f UA q8 q9 QL:Nat} (h:Has Γ.P f 59 (qC UA q8 q9 QL) r_suitespec_named) (qw:qd Γ UA) (aak:yo Γ q8) (aal:yp Γ q9) (QC:JY Γ QL):qc Γ f:=by
  intro s n
  refine Jb h (by simp) (by simp only [ah5,V.closed,Qw,V.noSl,JL,and_self]) (by simp only [ah5,V.closed,Qw,V.noSl,JL,and_self]) fun C hC hm=>?_
  subst hC
  unfold qC
  have hg:=(qw s n).b
  rcases hn:jH n (YN s.ci1 s.ci2) s.lo s.hi with _|b
  · have e:aaj n s = ((decide (Vs n 0 YV > 0) && decide (Uy (Vs n 0 YV) 0 [s.kx1,s.sg1,s.ci1,s.mc1]≥0)) || (decide (xf n > 0) && s.code == xf n),decide (Vs n 0 YV > 0) || decide (xf n > 0)):=by rw [aaj,hn]
    rw [e]
    rw [hn] at hg
    simp only [agD,Q9.v,Q9.cells] at hg
    have hf:=(QC [s.kx1,s.sg1,s.ci1,s.mc1] (Vs n 0 YV) (by simp)).b
    simp only [List.map_cons,List.map_nil] at hf
    rcases h1:decide (Vs n 0 YV > 0) with _|_<;>rcases h2:decide (xf n > 0) with _|_<;>rcases h3:decide (Uy (Vs n 0 YV) 0 [s.kx1,s.sg1,s.ci1,s.mc1]≥0) with _|_
    all_goals
      rw [h3] at hf
      repeat' (first|refine Qp fun K' hK=>?_|refine Qt fun K' hK=>?_|refine Qq ?_|refine Qr ?_|refine Qa ?_|((first|refine Qs ⟨_,rfl,fun hc=>?_,fun hc=>?_⟩|refine QM (fun hc=>?_) (fun hc=>?_)|refine QN (fun hc=>?_) (fun hc=>?_))<;>first|(cases hc;done)|((try simp only [znz] at hc);first|exact znf|skip))|refine Qv ?_|refine Qu ?_|simp (maxSteps:=1000000) only [go_sem,Q9.v,Q9.cells,h1,h2]|(refine hK _ ?_;clear hK K')|apply And.intro|(apply QX;(focus first|exact hg|exact hf|exact (qw _ _).b|exact (aak _).b|exact (aal _).b|exact (QC _ _ zsd).b))|exact zlo|omega|exact zms)
      all_goals first|(simp only [ah5,Bool.and_self,Bool.and_true,Bool.and_false,Bool.false_and,Bool.true_and,Bool.or_self,Bool.or_true,Bool.or_false,Bool.false_or,Bool.true_or];refine Je _ rfl ?_;simp only [go_sem];done)
  · have e:aaj n s = (b,true):=by rw [aaj,hn]
    rw [e]
    rw [hn] at hg
    simp only [agD,Q9.v,Q9.cells] at hg
    repeat' (first|refine Qp fun K' hK=>?_|refine Qt fun K' hK=>?_|refine Qq ?_|refine Qr ?_|refine Qa ?_|((first|refine Qs ⟨_,rfl,fun hc=>?_,fun hc=>?_⟩|refine QM (fun hc=>?_) (fun hc=>?_)|refine QN (fun hc=>?_) (fun hc=>?_))<;>first|(cases hc;done)|((try simp only [znz] at hc);first|exact znf|skip))|refine Qv ?_|refine Qu ?_|simp (maxSteps:=1000000) only [go_sem,Q9.v,Q9.cells]|(refine hK _ ?_;clear hK K')|apply And.intro|(apply QX;(focus first|exact hg|exact (qw _ _).b|exact (aak _).b|exact (aal _).b|exact (QC _ _ zsd).b))|exact zlo|omega|exact zms)
    all_goals first|(simp only [ah5];refine Je _ rfl ?_;simp only [go_sem];done)
end Av
end
section
set_option linter.unusedSimpArgs false
set_option linter.unusedVariables false
set_option maxRecDepth 10000
set_option maxHeartbeats 4000000
namespace Av
open Go
attribute [local irreducible] AWp V7 Kz KE awS awC jS awQ jY JB Wl jJ awR Ws awB okR Vo ris
def wt (Jx WU:Nat):AC:=QF [0,3] (.reg [xo 3 (.box true 12 (.t 1)),mc 4 (V.bool false)]) (QF [0,3,5] (.reg [fa 8 0 3,ld 9 1 8,cl 10 Jx [9],mv 5 10]) (QF [0,3] (QF [0,3,5,11] (.reg [mv 11 0]) (.block 0 (QF [0,3,5,11,12] (.reg [bc 13 .eql 11 (V.str [97,108,108]),mv 12 13]) (.cond (.t 12) (QF [4] (.reg [mc 4 (V.bool true)]) (.ret)) (QF [0,3,5,11,14] (.reg [bc 15 .eql 11 (V.str [104,105,103,104]),mv 14 15]) (.cond (.t 14) (QF [4] (.reg [mv 16 5,bc 17 .geq 16 (V.int 128),mv 4 17]) (.ret)) (QF [0,3,5,11,18] (.reg [bc 19 .eql 11 (V.str [109,101,100,105,117,109]),mv 18 19]) (.cond (.t 18) (QF [4] (.reg [mv 20 5,bc 21 .geq 20 (V.int 112),mv 22 21,mg 23 5 22 true,xg 24 (.bin .lss (.t 23) (.c (V.int 128))) 22 true,xo 25 (.pick (.t 22) (.t 24) (.c (V.bool false))),mv 4 25]) (.ret)) (QF [0,3,5,11,26] (.reg [bc 27 .eql 11 (V.str [108,111,119]),mv 26 27]) (.cond (.t 26) (QF [4] (.reg [mv 28 5,bc 29 .lss 28 (V.int 112),mv 4 29]) (.ret)) (QF [0,3,30] (QF [0,3,11,30] (.reg [bc 31 .eql 11 (V.str [118,49]),mv 30 31]) (.cond (.t 30) (.skip) (QF [0,3,11,30] (.reg [bc 32 .eql 11 (V.str [118,50]),mv 30 32]) (.cond (.t 30) (.skip) (QF [0,3,11,30] (.reg [bc 33 .eql 11 (V.str [118,51]),mv 30 33]) (.cond (.t 30) (.skip) (.reg [bc 34 .eql 11 (V.str [118,52]),mv 30 34]))))))) (.cond (.t 30) (QF [3,6] (.reg [mv 35 0,xo 36 (.idxS (.t 35) (.c (V.int 1))),bc 37 .sub 36 (.sc (.int .u8 48)),xo 38 (.convI .i64 (.t 37)),mv 6 38]) (QF [4] (.reg [fa 39 10 3,ld 40 1 39,mv 41 6,bn 42 .leq 40 41,mv 43 42,mg 44 6 43 true,xg 45 (.faddr 11 (.t 3)) 43 true,xg 46 (.load false 1 (.t 45)) 43 true,xg 47 (.bin .leq (.t 44) (.t 46)) 43 true,xo 48 (.pick (.t 43) (.t 47) (.c (V.bool false))),mv 4 48]) (.ret))) (.skip))))))))))))) (QF [0,3] (QF [0,3,7] (.reg [mv 49 0,cl 50 WU [49],mv 7 50]) (QF [0,3,80] (.reg [mv 51 7,bc 52 .gtr 51 (V.int 0),mv 53 52,xg 54 (.faddr 2 (.t 3)) 53 true,xg 55 (.faddr 0 (.t 54)) 53 true,xg 56 (.load false 1 (.t 55)) 53 true,mg 57 7 53 true,xg 58 (.bin .eql (.t 56) (.t 57)) 53 true,mg 59 58 53 true,xg 60 (.faddr 4 (.t 3)) 59 false,xg 61 (.faddr 0 (.t 60)) 59 false,xg 62 (.load false 1 (.t 61)) 59 false,mg 63 7 59 false,xg 64 (.bin .eql (.t 62) (.t 63)) 59 false,xg 65 (.pick (.t 59) (.c (V.bool true)) (.t 64)) 53 true,mg 66 65 53 true,xg 67 (.faddr 6 (.t 3)) 66 false,xg 68 (.faddr 0 (.t 67)) 66 false,xg 69 (.load false 1 (.t 68)) 66 false,mg 70 7 66 false,xg 71 (.bin .eql (.t 69) (.t 70)) 66 false,xg 72 (.pick (.t 66) (.c (V.bool true)) (.t 71)) 53 true,mg 73 72 53 true,xg 74 (.faddr 8 (.t 3)) 73 false,xg 75 (.faddr 0 (.t 74)) 73 false,xg 76 (.load false 1 (.t 75)) 73 false,mg 77 7 73 false,xg 78 (.bin .eql (.t 76) (.t 77)) 73 false,xg 79 (.pick (.t 73) (.c (V.bool true)) (.t 78)) 53 true,xo 80 (.pick (.t 53) (.t 79) (.c (V.bool false)))]) (.cond (.t 80) (QF [4] (.reg [mc 4 (V.bool true)]) (.ret)) (.skip)))) (QF [4] (.reg [fa 81 1 3,ld 82 1 81,mv 83 0,bn 84 .eql 82 83,mv 4 84]) (.ret))))) def r_ref08_named:List Y9:=[.tmp 4]
def xw (Γ:Env) (f:Nat):Prop:=∀ (n:List UInt8) (s:Q9),EvN Γ f [V.str n,s.v] (V.bool (Vh n s))
theorem aee {Γ:Env} {f Jx WU:Nat} (h:Has Γ.P f 85 (wt Jx WU) r_ref08_named) (JG:UJ Γ Jx) (Y4:jV Γ WU):xw Γ f:=by
  intro n s
  refine Jb h (by simp) (by simp only [V.closed,Qw,V.noSl,JL,and_self,and_true,true_and]) (by simp only [V.closed,Qw,V.noSl,JL,and_self,and_true,true_and]) fun C hC hm=>?_
  subst hC
  unfold wt
  generalize hst:w5 s.code = st
  by_cases hg:n∈UQ
  · simp only [UQ,List.mem_cons,List.not_mem_nil,or_false] at hg
    rcases hg with rfl|rfl|rfl|rfl|rfl|rfl|rfl|rfl
    · have e:Vh [97,108,108] s = true:=rfl
      rw [e]
      repeat' (first|refine Qp fun K' hK=>?_|refine Qt fun K' hK=>?_|refine Qq ?_|refine Qr ?_|refine Qa ?_|((first|refine Qs ⟨_,rfl,fun hc=>?_,fun hc=>?_⟩|refine QM (fun hc=>?_) (fun hc=>?_)|refine QN (fun hc=>?_) (fun hc=>?_))<;>first|(cases hc;done)|((try simp only [znz] at hc);first|exact znf|skip))|refine Qv ?_|refine Qu ?_|simp (maxSteps:=1000000) only [go_sem,Q9.v,Q9.cells,hst]|(refine hK _ ?_;clear hK K')|apply And.intro|(apply QX;(focus first|exact (JG _).b|exact (Y4 _).b))|exact zlo|omega|exact zms)
      all_goals (refine Je _ rfl ?_;simp only [go_sem])
    · have e:Vh [104,105,103,104] s = decide (w5 s.code≥128):=rfl
      rw [e,hst]
      repeat' (first|refine Qp fun K' hK=>?_|refine Qt fun K' hK=>?_|refine Qq ?_|refine Qr ?_|refine Qa ?_|((first|refine Qs ⟨_,rfl,fun hc=>?_,fun hc=>?_⟩|refine QM (fun hc=>?_) (fun hc=>?_)|refine QN (fun hc=>?_) (fun hc=>?_))<;>first|(cases hc;done)|((try simp only [znz] at hc);first|exact znf|skip))|refine Qv ?_|refine Qu ?_|simp (maxSteps:=1000000) only [go_sem,Q9.v,Q9.cells,hst]|(refine hK _ ?_;clear hK K')|apply And.intro|(apply QX;(focus first|exact (JG _).b|exact (Y4 _).b))|exact zlo|omega|exact zms)
      all_goals (refine Je _ rfl ?_;simp only [go_sem])
    · have e:Vh [109,101,100,105,117,109] s = (decide (w5 s.code≥112) && decide (w5 s.code < 128)):=rfl
      rw [e,hst]
      rcases h1:decide (st≥112) with _|_<;>rcases h2:decide (st < 128) with _|_
      all_goals
        repeat' (first|refine Qp fun K' hK=>?_|refine Qt fun K' hK=>?_|refine Qq ?_|refine Qr ?_|refine Qa ?_|((first|refine Qs ⟨_,rfl,fun hc=>?_,fun hc=>?_⟩|refine QM (fun hc=>?_) (fun hc=>?_)|refine QN (fun hc=>?_) (fun hc=>?_))<;>first|(cases hc;done)|((try simp only [znz] at hc);first|exact znf|skip))|refine Qv ?_|refine Qu ?_|simp (maxSteps:=1000000) only [go_sem,Q9.v,Q9.cells,hst,h1,h2]|(refine hK _ ?_;clear hK K')|apply And.intro|(apply QX;(focus first|exact (JG _).b|exact (Y4 _).b))|exact zlo|omega|exact zms)
        all_goals ((try simp only [Bool.and_self,Bool.and_true,Bool.and_false,Bool.false_and,Bool.true_and]);refine Je _ rfl ?_;simp only [go_sem])
    · have e:Vh [108,111,119] s = decide (w5 s.code < 112):=rfl
      rw [e,hst]
      repeat' (first|refine Qp fun K' hK=>?_|refine Qt fun K' hK=>?_|refine Qq ?_|refine Qr ?_|refine Qa ?_|((first|refine Qs ⟨_,rfl,fun hc=>?_,fun hc=>?_⟩|refine QM (fun hc=>?_) (fun hc=>?_)|refine QN (fun hc=>?_) (fun hc=>?_))<;>first|(cases hc;done)|((try simp only [znz] at hc);first|exact znf|skip))|refine Qv ?_|refine Qu ?_|simp (maxSteps:=1000000) only [go_sem,Q9.v,Q9.cells,hst]|(refine hK _ ?_;clear hK K')|apply And.intro|(apply QX;(focus first|exact (JG _).b|exact (Y4 _).b))|exact zlo|omega|exact zms)
      all_goals (refine Je _ rfl ?_;simp only [go_sem])
    · have e:Vh [118,49] s = (decide (s.lo≤1) && decide (1≤s.hi)):=rfl
      have ew:IntKind.i64.wrap (IntKind.u8.wrap (((UInt8.toNat 49:Nat):Int) - 48)) = 1:=rfl
      rw [e]
      rcases h1:decide (s.lo≤1) with _|_<;>rcases h2:decide (1≤s.hi) with _|_
      all_goals
        repeat' (first|refine Qp fun K' hK=>?_|refine Qt fun K' hK=>?_|refine Qq ?_|refine Qr ?_|refine Qa ?_|((first|refine Qs ⟨_,rfl,fun hc=>?_,fun hc=>?_⟩|refine QM (fun hc=>?_) (fun hc=>?_)|refine QN (fun hc=>?_) (fun hc=>?_))<;>first|(cases hc;done)|((try simp only [znz] at hc);first|exact znf|skip))|refine Qv ?_|refine Qu ?_|simp (maxSteps:=1000000) only [go_sem,Q9.v,Q9.cells,hst,ew,h1,h2]|(refine hK _ ?_;clear hK K')|apply And.intro|(apply QX;(focus first|exact (JG _).b|exact (Y4 _).b))|exact zlo|omega|exact zms)
        all_goals ((try simp only [Bool.and_self,Bool.and_true,Bool.and_false,Bool.false_and,Bool.true_and]);refine Je _ rfl ?_;simp only [go_sem])
    · have e:Vh [118,50] s = (decide (s.lo≤2) && decide (2≤s.hi)):=rfl
      have ew:IntKind.i64.wrap (IntKind.u8.wrap (((UInt8.toNat 50:Nat):Int) - 48)) = 2:=rfl
      rw [e]
      rcases h1:decide (s.lo≤2) with _|_<;>rcases h2:decide (2≤s.hi) with _|_
      all_goals
        repeat' (first|refine Qp fun K' hK=>?_|refine Qt fun K' hK=>?_|refine Qq ?_|refine Qr ?_|refine Qa ?_|((first|refine Qs ⟨_,rfl,fun hc=>?_,fun hc=>?_⟩|refine QM (fun hc=>?_) (fun hc=>?_)|refine QN (fun hc=>?_) (fun hc=>?_))<;>first|(cases hc;done)|((try simp only [znz] at hc);first|exact znf|skip))|refine Qv ?_|refine Qu ?_|simp (maxSteps:=1000000) only [go_sem,Q9.v,Q9.cells,hst,ew,h1,h2]|(refine hK _ ?_;clear hK K')|apply And.intro|(apply QX;(focus first|exact (JG _).b|exact (Y4 _).b))|exact zlo|omega|exact zms)
        all_goals ((try simp only [Bool.and_self,Bool.and_true,Bool.and_false,Bool.false_and,Bool.true_and]);refine Je _ rfl ?_;simp only [go_sem])
    · have e:Vh [118,51] s = (decide (s.lo≤3) && decide (3≤s.hi)):=rfl
      have ew:IntKind.i64.wrap (IntKind.u8.wrap (((UInt8.toNat 51:Nat):Int) - 48)) = 3:=rfl
      rw [e]
      rcases h1:decide (s.lo≤3) with _|_<;>rcases h2:decide (3≤s.hi) with _|_
      all_goals
        repeat' (first|refine Qp fun K' hK=>?_|refine Qt fun K' hK=>?_|refine Qq ?_|refine Qr ?_|refine Qa ?_|((first|refine Qs ⟨_,rfl,fun hc=>?_,fun hc=>?_⟩|refine QM (fun hc=>?_) (fun hc=>?_)|refine QN (fun hc=>?_) (fun hc=>?_))<;>first|(cases hc;done)|((try simp only [znz] at hc);first|exact znf|skip))|refine Qv ?_|refine Qu ?_|simp (maxSteps:=1000000) only [go_sem,Q9.v,Q9.cells,hst,ew,h1,h2]|(refine hK _ ?_;clear hK K')|apply And.intro|(apply QX;(focus first|exact (JG _).b|exact (Y4 _).b))|exact zlo|omega|exact zms)
        all_goals ((try simp only [Bool.and_self,Bool.and_true,Bool.and_false,Bool.false_and,Bool.true_and]);refine Je _ rfl ?_;simp only [go_sem])
    · have e:Vh [118,52] s = (decide (s.lo≤4) && decide (4≤s.hi)):=rfl
      have ew:IntKind.i64.wrap (IntKind.u8.wrap (((UInt8.toNat 52:Nat):Int) - 48)) = 4:=rfl
      rw [e]
      rcases h1:decide (s.lo≤4) with _|_<;>rcases h2:decide (4≤s.hi) with _|_
      all_goals
        repeat' (first|refine Qp fun K' hK=>?_|refine Qt fun K' hK=>?_|refine Qq ?_|refine Qr ?_|refine Qa ?_|((first|refine Qs ⟨_,rfl,fun hc=>?_,fun hc=>?_⟩|refine QM (fun hc=>?_) (fun hc=>?_)|refine QN (fun hc=>?_) (fun hc=>?_))<;>first|(cases hc;done)|((try simp only [znz] at hc);first|exact znf|skip))|refine Qv ?_|refine Qu ?_|simp (maxSteps:=1000000) only [go_sem,Q9.v,Q9.cells,hst,ew,h1,h2]|(refine hK _ ?_;clear hK K')|apply And.intro|(apply QX;(focus first|exact (JG _).b|exact (Y4 _).b))|exact zlo|omega|exact zms)
        all_goals ((try simp only [Bool.and_self,Bool.and_true,Bool.and_false,Bool.false_and,Bool.true_and]);refine Je _ rfl ?_;simp only [go_sem])
  · have e:Vh n s = ((decide (Vs n 0 YV > 0) && (s.kx1 == Vs n 0 YV || s.sg1 == Vs n 0 YV || s.ci1 == Vs n 0 YV || s.mc1 == Vs n 0 YV)) || s.name == n):=by rw [Vh,abV _ _ _ hg]
    rw [e]
    simp only [UQ,List.mem_cons,List.not_mem_nil,or_false,not_or] at hg
    obtain ⟨h1,h2,h3,h4,h5,h6,h7,h8⟩:=hg
    have g1:=beq_eq_false_iff_ne.2 h1
    have g2:=beq_eq_false_iff_ne.2 h2
    have g3:=beq_eq_false_iff_ne.2 h3
    have g4:=beq_eq_false_iff_ne.2 h4
    have g5:=beq_eq_false_iff_ne.2 h5
    have g6:=beq_eq_false_iff_ne.2 h6
    have g7:=beq_eq_false_iff_ne.2 h7
    have g8:=beq_eq_false_iff_ne.2 h8
    generalize hf:Vs n 0 YV = a
    rcases k0:decide (a > 0) with _|_
    · repeat' (first|refine Qp fun K' hK=>?_|refine Qt fun K' hK=>?_|refine Qq ?_|refine Qr ?_|refine Qa ?_|((first|refine Qs ⟨_,rfl,fun hc=>?_,fun hc=>?_⟩|refine QM (fun hc=>?_) (fun hc=>?_)|refine QN (fun hc=>?_) (fun hc=>?_))<;>first|(cases hc;done)|((try simp only [znz] at hc);first|exact znf|skip))|refine Qv ?_|refine Qu ?_|simp (maxSteps:=1000000) only [go_sem,Q9.v,Q9.cells,hst,hf,k0,g1,g2,g3,g4,g5,g6,g7,g8]|(refine hK _ ?_;clear hK K')|apply And.intro|(apply QX;(focus first|exact (JG _).b|exact (Y4 _).b))|exact zlo|omega|exact zms)
      all_goals ((try simp only [Bool.false_and,Bool.false_or]);refine Je _ rfl ?_;simp only [go_sem])
    · rcases k1:s.kx1 == a with _|_<;>rcases k2:s.sg1 == a with _|_<;>rcases k3:s.ci1 == a with _|_<;>rcases k4:s.mc1 == a with _|_
      all_goals
        repeat' (first|refine Qp fun K' hK=>?_|refine Qt fun K' hK=>?_|refine Qq ?_|refine Qr ?_|refine Qa ?_|((first|refine Qs ⟨_,rfl,fun hc=>?_,fun hc=>?_⟩|refine QM (fun hc=>?_) (fun hc=>?_)|refine QN (fun hc=>?_) (fun hc=>?_))<;>first|(cases hc;done)|((try simp only [znz] at hc);first|exact znf|skip))|refine Qv ?_|refine Qu ?_|simp (maxSteps:=1000000) only [go_sem,Q9.v,Q9.cells,hst,hf,k0,k1,k2,k3,k4,g1,g2,g3,g4,g5,g6,g7,g8]|(refine hK _ ?_;clear hK K')|apply And.intro|(apply QX;(focus first|exact (JG _).b|exact (Y4 _).b))|exact zlo|omega|exact zms)
        all_goals first|((try simp only [Bool.and_self,Bool.and_true,Bool.and_false,Bool.false_and,Bool.true_and,Bool.or_self,Bool.or_true,Bool.or_false,Bool.false_or,Bool.true_or]);refine Je _ rfl ?_;simp only [go_sem];done)
end Av
end
section
set_option linter.unusedSimpArgs false
set_option linter.unusedVariables false
set_option maxRecDepth 10000
set_option maxHeartbeats 4000000
namespace Av
open Go
attribute [local irreducible] AWp V7 Kz KE awS awC jS awQ jY JB Wl jJ awR Ws awB okR Vo ris
theorem ahx {α:Type} (p:α→Bool):∀ (l:List α) (k:Nat),0≤aau p k l→∃ j x,l[j]? = some x∧p x = true∧aau p k l = ((k + j:Nat):Int)
  | [],k,h=>by simp [aau] at h
  | x :: r,k,h=>by
    by_cases hx:p x = true
    · exact ⟨0,x,rfl,hx,by simp [aau,hx]⟩
    · have e:aau p k (x :: r) = aau p (k + 1) r:=by simp [aau,hx]
      rw [e] at h ⊢
      obtain ⟨j,y,h1,h2,h3⟩:=ahx p r (k + 1) h
      exact ⟨j + 1,y,by simpa using h1,h2,by rw [h3];congr 1;omega⟩
theorem xJ (x:Int):∀ (l:List Int) (k:Nat),0≤Uy x k l↔x∈l
  | [],k=>by simp [Uy]
  | y :: r,k=>by
    by_cases hy:y = x
    · subst hy;simp [Uy]
    · have:=xJ x r (k + 1)
      have e:Uy x k (y :: r) = Uy x (k + 1) r:=by rw [Uy,if_neg (fun h=>hy h.symm)]
      rw [e,this,List.mem_cons]
      exact ⟨Or.inr,fun h=>h.elim (fun h=>absurd h.symm hy) id⟩
theorem ajN:∀ s∈JD,xf s.name = s.code:=by decide
theorem agI:∀ s∈JD,w5 s.code = YN s.ci1 s.ci2:=by decide
theorem aiz {s:Q9} (hs:s∈JD) (n:List UInt8):(decide (xf n > 0) && s.code == xf n) = (s.name == n):=by
  by_cases h:s.name = n
  · subst h
    have h1:=ajN s hs
    obtain ⟨k,hk,hg⟩:=List.getElem_of_mem hs
    have h2:=afu k hk s (by rw [List.getElem?_eq_getElem hk,hg])
    have h3:xf s.name > 0:=by rw [h1,h2];omega
    simp [h3,h1];omega
  · have e:(s.name == n) = false:=by simpa using h
    rw [e,Bool.and_eq_false_iff]
    by_cases h0:xf n > 0
    · right
      simp only [beq_eq_false_iff_ne,ne_eq]
      intro hc
      obtain ⟨j,x,h1,h2,h3⟩:=ahx (fun s:Q9=>s.name == n) JD 0 (by unfold xf at h0;omega)
      obtain ⟨k,hk,hg⟩:=List.getElem_of_mem hs
      have h4:=afu k hk s (by rw [List.getElem?_eq_getElem hk,hg])
      have hkj:k = j:=by unfold xf at hc;omega
      subst hkj
      rw [List.getElem?_eq_getElem hk,hg] at h1
      cases h1
      exact h (by simpa using h2)
    · left;simpa using h0
theorem ail {n:List UInt8} (st lo hi:Int) (h:n∈UQ):∃ b,jH n st lo hi = some b:=by
  simp only [UQ,List.mem_cons,List.not_mem_nil,or_false] at h
  rcases h with rfl|rfl|rfl|rfl|rfl|rfl|rfl|rfl<;>exact ⟨_,rfl⟩
theorem agW {n:List UInt8} {s:Q9}:(aaj n s).2 = Us n:=by
  by_cases h:n∈UQ
  · obtain ⟨b,hb⟩:=ail (YN s.ci1 s.ci2) s.lo s.hi h
    rw [aaj,hb,Us];simp [h]
  · rw [aaj,abV _ _ _ h,Us];simp [h]
theorem aih {s:Q9} (hs:s∈JD) (n:List UInt8):Vh n s = (aaj n s).1:=by
  have h1:=agI s hs
  have h2:=aiz hs n
  have h3:decide (Uy (Vs n 0 YV) 0 [s.kx1,s.sg1,s.ci1,s.mc1]≥0) = (s.kx1 == Vs n 0 YV || s.sg1 == Vs n 0 YV || s.ci1 == Vs n 0 YV || s.mc1 == Vs n 0 YV):=by
    rw [Bool.eq_iff_iff]
    simp only [decide_eq_true_eq,ge_iff_le,xJ,List.mem_cons,List.not_mem_nil,or_false,Bool.or_eq_true,beq_iff_eq]
    constructor
    · rintro (h|h|h|h)<;>simp [h]
    · rintro (((h|h)|h)|h)<;>simp [h]
  rw [Vh,aaj,h1]
  cases jH n (YN s.ci1 s.ci2) s.lo s.hi with
  | some b=>rfl
  | none=>simp only [h2,h3]
end Av
end
section
set_option linter.unusedSimpArgs false
set_option linter.unusedVariables false
set_option maxRecDepth 10000
set_option maxHeartbeats 4000000
namespace Av
open Go
attribute [local irreducible] AWp V7 Kz KE awS awC jS awQ jY JB Wl jJ awR Ws awB okR Vo ris
def Wn (c:UInt8):List UInt8→List UInt8→List (List UInt8)
  | cur,[]=>[cur]
  | cur,x :: r=>if x = c then cur :: Wn c [] r else Wn c (cur++[x]) r
def Yh (c:UInt8) (s:List UInt8):List (List UInt8):=Wn c [] s
theorem afL (c:UInt8):∀ (r cur:List UInt8),Wn c cur r≠[]
  | [],cur=>by simp [Wn]
  | x :: r,cur=>by
    rw [Wn];split
    · simp
    · exact afL c r _
def wq:AC:=QF [0,1] (.reg [xo 4 (.mknil 1)]) (QF [0,1,5] (.reg [xo 5 (.mknil 1)]) (QF [0,1,5,6] (.reg [mc 6 (V.int 0)]) (QF [5] (QF [0,1,5,6,7] (.reg [mc 7 (V.int 0)]) (.block 0 (Wv [0,1,5,6,7] (QF [0,1,5,6,7] (QF [0,1,5,6,7,11] (.reg [mv 8 7,mv 9 0,xo 10 (.lenS (.t 9)),bn 11 .leq 8 10]) (.cond (.t 11) (.skip) (.exit 0))) (QF [0,1,5,6,7] (.block 1 (QF [0,1,5,6,7,24] (.reg [mv 14 7,mv 15 0,xo 16 (.lenS (.t 15)),bn 17 .eql 14 16,mv 18 17,mg 19 0 18 false,mg 20 7 18 false,xg 21 (.idxS (.t 19) (.t 20)) 18 false,mg 22 1 18 false,xg 23 (.bin .eql (.t 21) (.t 22)) 18 false,xo 24 (.pick (.t 18) (.c (V.bool true)) (.t 23))]) (.cond (.t 24) (QF [0,1,5,7] (.reg [mv 25 5,mv 26 0,mv 27 6,mv 28 7,xo 29 (.slstr (.t 26) (some (.t 27)) (some (.t 28))),xo 30 (.bslice 1 1 false [(.string ⟨#[]⟩)] [(0,(.t 29))]),xo 31 (.append 1 16 [(.string ⟨#[]⟩)] (.t 25) (.t 30)),mv 5 31]) (.reg [mv 32 7,bc 33 .add 32 (V.int 1),mv 6 33])) (.skip)))) (.reg [mv 12 7,bc 13 .add 12 (V.int 1),mv 7 13])))))) (QF [4] (.reg [mv 34 5,mv 4 34]) (.ret))))) def r_ref08_split:List Y9:=[.tmp 4]
def jb (Γ:Env) (f:Nat):Prop:=∀ (s:List UInt8) (c:UInt8) (hs:s.length < 2 ^ 34),EvC Γ f [V.str s,.sc (.int .u8 c.toNat)] (.sl 1 ((Yh c s).map V.str))
theorem aed {Γ:Env} {f:Nat} (h:Has Γ.P f 35 wq r_ref08_split) :jb Γ f:=by
  intro s c hs
  refine Wb h (by simp) (by simp only [V.closed]) fun C hC hm=>?_
  subst hC
  unfold wq
  repeat' (first|refine Qp fun K' hK=>?_|refine Qt fun K' hK=>?_|refine Qq ?_|refine Qr ?_|refine Qa ?_|((first|refine Qs ⟨_,rfl,fun hc=>?_,fun hc=>?_⟩|refine QM (fun hc=>?_) (fun hc=>?_)|refine QN (fun hc=>?_) (fun hc=>?_))<;>first|(cases hc;done)|((try simp only [znz] at hc);first|exact znf|skip))|refine Qv ?_|refine Qu ?_|simp (maxSteps:=1000000) only [go_sem]|(refine hK _ ?_;clear hK K')|apply And.intro|exact zlo|omega|exact zms)
  refine JF (ι:=Nat×Nat×List (List UInt8)) (fun p=>p.1≤s.length + 1∧p.2.1≤p.1∧p.2.2.length≤p.1∧(p.1≤s.length→p.2.2++Wn c ((s.take p.1).drop p.2.1) (s.drop p.1) = Yh c s)∧(p.1 = s.length + 1→p.2.2 = Yh c s))
    (fun p=>Ym [(0,V.str s),(1,.sc (.int .u8 c.toNat)),(5,.hd 0 0 p.2.2.length),(6,V.int p.2.1),(7,V.int p.1)] [(0,.buf true 1 (p.2.2.map V.str))] 1) (fun p=>s.length + 2 - p.1) (0,0,[]) ⟨by simp,by simp,by simp,fun _=>by simp [Yh],fun h=>by simp at h⟩ (Jp [(0,1000)]) (Jq [(0,1000)] (by simp only [go_sem,and_true,true_and,implies_true,Option.some.injEq,exists_eq_left',Ql,Qo];(repeat' (first|rfl|apply And.intro|omega|exact fun h=>h|exact Exists.intro _ rfl))) (by simp only [go_sem,and_true,true_and,implies_true,Option.some.injEq,exists_eq_left',Ql,Qo];(repeat' (first|rfl|apply And.intro|omega|exact fun h=>h|exact Exists.intro _ rfl))) (by simp) (by simp;omega) (by omega)) fun p hp K' hL=>?_
  obtain ⟨k,fr,out⟩:=p
  obtain ⟨h1,h2,h3,h4,h5⟩:=hp
  simp only at h1 h2 h3 h4 h5
  by_cases hk:k≤s.length
  · have e1:decide ((k:Int)≤s.length) = true:=by simp;omega
    have hw:IntKind.i64.wrap ((k:Int) + 1) = ((k + 1:Nat):Int):=by rw [Yq (by omega) (by omega)];rfl
    have hcur:List.take (k - fr) (List.drop fr s) = (s.take k).drop fr:=by rw [List.drop_take]
    have hb:List.take out.length (List.map V.str out)++[V.sc (Value.string ⟨((s.take k).drop fr).toArray⟩)] = (out++[(s.take k).drop fr]).map V.str:=by
      rw [List.take_of_length_le (by simp),List.map_append];rfl
    have hlen:out.length + 1 = (out++[(s.take k).drop fr]).length:=by simp
    by_cases hkl:k = s.length
    · have e2:((k:Int) == s.length) = true:=by simp;omega
      have hfin:out++[(s.take k).drop fr] = Yh c s:=by
        have hdr:s.drop k = []:=List.drop_eq_nil_of_le (by omega)
        rw [← h4 hk,hdr,Wn]
      repeat' (first|refine Qp fun K' hK=>?_|refine Qt fun K' hK=>?_|refine Qq ?_|refine Qr ?_|refine Qa ?_|((first|refine Qs ⟨_,rfl,fun hc=>?_,fun hc=>?_⟩|refine QM (fun hc=>?_) (fun hc=>?_)|refine QN (fun hc=>?_) (fun hc=>?_))<;>first|(cases hc;done)|((try simp only [znz] at hc);first|exact znf|skip))|refine Qv ?_|refine Qu ?_|simp (maxSteps:=1000000) only [go_sem,Ym,e1,e2,hw]|(refine hK _ ?_;clear hK K')|apply And.intro|exact zlo|omega|exact zms)
      all_goals
        rw [hcur,hb,hlen]
        exact hL _ (k + 1,k + 1,out++[(s.take k).drop fr]) (Jp [(0,21001)]) ⟨by simp only;omega,by simp,by simp;omega,fun h=>by simp only at h;omega,fun _=>hfin⟩ (by simp only;omega) (Jq [(0,21001)] (by simp only [go_sem,and_true,true_and,implies_true,Option.some.injEq,exists_eq_left',Ql,Qo];(repeat' (first|rfl|apply And.intro|omega|exact fun h=>h|exact Exists.intro _ rfl))) (by simp only [go_sem,and_true,true_and,implies_true,Option.some.injEq,exists_eq_left',Ql,Qo];(repeat' (first|rfl|apply And.intro|omega|exact fun h=>h|exact Exists.intro _ rfl))) (by simp) (by simp;omega) (by omega))
    · have e2:((k:Int) == s.length) = false:=by simp;omega
      obtain ⟨x,hx⟩:∃ x,s[k]? = some x:=⟨s[k]'(by omega),List.getElem?_eq_getElem (by omega)⟩
      have hd:s.drop k = x :: s.drop (k + 1):=by
        rw [List.drop_eq_getElem_cons (by omega)];congr 1
        rw [List.getElem?_eq_getElem (by omega)] at hx;exact Option.some.inj hx
      have ht:(s.take (k + 1)).drop fr = (s.take k).drop fr++[x]:=by
        rw [List.take_add_one,hx,List.drop_append_of_le_length (by simp;omega)];rfl
      have h4':=h4 hk
      rw [hd,Wn] at h4'
      by_cases hxc:x = c
      · have e3:((x.toNat:Int) == (c.toNat:Int)) = true:=by simp [hxc]
        rw [if_pos hxc] at h4'
        have hz:(s.take (k + 1)).drop (k + 1) = []:=List.drop_eq_nil_of_le (by simp;omega)
        repeat' (first|refine Qp fun K' hK=>?_|refine Qt fun K' hK=>?_|refine Qq ?_|refine Qr ?_|refine Qa ?_|((first|refine Qs ⟨_,rfl,fun hc=>?_,fun hc=>?_⟩|refine QM (fun hc=>?_) (fun hc=>?_)|refine QN (fun hc=>?_) (fun hc=>?_))<;>first|(cases hc;done)|((try simp only [znz] at hc);first|exact znf|skip))|refine Qv ?_|refine Qu ?_|simp (maxSteps:=1000000) only [go_sem,Ym,e1,e2,hw,hx,e3,Int.toNat_natCast]|(refine hK _ ?_;clear hK K')|apply And.intro|exact zlo|omega|exact zms)
        all_goals
          rw [hcur,hb,hlen]
          exact hL _ (k + 1,k + 1,out++[(s.take k).drop fr]) (Jp [(0,21001)]) ⟨by simp only;omega,by simp,by simp;omega,fun h=>by simp only;rw [hz,List.append_assoc];exact h4',fun h=>by simp only at h;omega⟩ (by simp only;omega) (Jq [(0,21001)] (by simp only [go_sem,and_true,true_and,implies_true,Option.some.injEq,exists_eq_left',Ql,Qo];(repeat' (first|rfl|apply And.intro|omega|exact fun h=>h|exact Exists.intro _ rfl))) (by simp only [go_sem,and_true,true_and,implies_true,Option.some.injEq,exists_eq_left',Ql,Qo];(repeat' (first|rfl|apply And.intro|omega|exact fun h=>h|exact Exists.intro _ rfl))) (by simp) (by simp;omega) (by omega))
      · have e3:((x.toNat:Int) == (c.toNat:Int)) = false:=by
          simp only [beq_eq_false_iff_ne,ne_eq];intro h;exact hxc (UInt8.toNat_inj.1 (by omega))
        rw [if_neg hxc] at h4'
        repeat' (first|refine Qp fun K' hK=>?_|refine Qt fun K' hK=>?_|refine Qq ?_|refine Qr ?_|refine Qa ?_|((first|refine Qs ⟨_,rfl,fun hc=>?_,fun hc=>?_⟩|refine QM (fun hc=>?_) (fun hc=>?_)|refine QN (fun hc=>?_) (fun hc=>?_))<;>first|(cases hc;done)|((try simp only [znz] at hc);first|exact znf|skip))|refine Qv ?_|refine Qu ?_|simp (maxSteps:=1000000) only [go_sem,Ym,e1,e2,hw,hx,e3,Int.toNat_natCast]|(refine hK _ ?_;clear hK K')|apply And.intro|exact zlo|omega|exact zms)
        all_goals
          exact hL _ (k + 1,fr,out) (Jp []) ⟨by simp only;omega,by simp only;omega,by simp only;omega,fun h=>by simp only;rw [ht];exact h4',fun h=>by simp only at h;omega⟩ (by simp only;omega) (Jq [] (by simp only [go_sem,and_true,true_and,implies_true,Option.some.injEq,exists_eq_left',Ql,Qo];(repeat' (first|rfl|apply And.intro|omega|exact fun h=>h|exact Exists.intro _ rfl))) (by simp only [go_sem,and_true,true_and,implies_true,Option.some.injEq,exists_eq_left',Ql,Qo];(repeat' (first|rfl|apply And.intro|omega|exact fun h=>h|exact Exists.intro _ rfl))) (by simp) (by simp) (by omega))
  · have e1:decide ((k:Int)≤s.length) = false:=by simp;omega
    have hout:=h5 (by omega)
    subst hout
    repeat' (first|refine Qp fun K' hK=>?_|refine Qt fun K' hK=>?_|refine Qq ?_|refine Qr ?_|refine Qa ?_|((first|refine Qs ⟨_,rfl,fun hc=>?_,fun hc=>?_⟩|refine QM (fun hc=>?_) (fun hc=>?_)|refine QN (fun hc=>?_) (fun hc=>?_))<;>first|(cases hc;done)|((try simp only [znz] at hc);first|exact znf|skip))|refine Qv ?_|refine Qu ?_|simp (maxSteps:=1000000) only [go_sem,Ym,e1]|(refine hK _ ?_;clear hK K')|apply And.intro|exact zlo|omega|exact zms)
    all_goals (refine Je _ rfl ?_;simp only [go_sem];rw [List.take_of_length_le (by simp)])
end Av
end
section
set_option linter.unusedSimpArgs false
set_option linter.unusedVariables false
set_option maxRecDepth 10000
set_option maxHeartbeats 4000000
namespace Av
open Go
attribute [local irreducible] AWp V7 Kz KE awS awC jS awQ jY JB Wl jJ awR Ws awB okR Vo ris
theorem abF (c:UInt8):∀ (r cur:List UInt8),(Wn c cur r).length≤r.length + 1
  | [],cur=>by simp [Wn]
  | x :: r,cur=>by
    rw [Wn];split
    · have:=abF c r [];simp;omega
    · have:=abF c r (cur++[x]);simp;omega
theorem vP (c:UInt8) (s:List UInt8):(Yh c s).length≤s.length + 1:=abF c s []
def ajF (L:List (List UInt8)) (x:Q9):Bool:=L.all fun n=>Vh n x
def VP (L:List (List UInt8)) (xs:List Q9):List Int:=(xs.filter (ajF L)).map Q9.code
theorem acr (L:List (List UInt8)) (k:Nat) (x:Q9) (h:JD[k]? = some x):VP L (JD.take (k + 1)) = VP L (JD.take k)++(if ajF L x = true then [x.code] else []):=by
  rw [VP,VP,List.take_add_one,h,List.filter_append,List.map_append]
  congr 1
  by_cases hx:ajF L x = true<;>simp [hx]
def aaS (s:List UInt8):List Int×Bool:=if (Yh 43 s).all Us then (VP (Yh 43 s) JD,true) else ([],false)
def xX (Yw:Nat):List AO:=[mv 38 9,mv 39 38,mg 40 4 39 true,mg 41 10 39 true,xg 42 (.iaddr 1 (.t 40) (.t 41)) 39 true,xg 43 (.load false 1 (.t 42)) 39 true,mg 44 6 39 true,mg 45 8 39 true,xg 46 (.iaddr 12 (.t 44) (.t 45)) 39 true,xg 47 (.load true 12 (.t 46)) 39 true,xg 48 (.call Yw [(.t 43),(.t 47)]) 39 true,xo 49 (.pick (.t 39) (.t 48) (.c (V.bool false))),mv 9 49]
def wE:List (List Nat):=[[],[0],[1],[1],[2,3,1],[4,1],[1],[1],[6,7,1],[8,1],[5,9,1,1],[1,10],[11,10,0,1,2,3,4,5,6,7,8,9,10,11]]
def xS:OT:=.one 0 (.one 1 (.one 2 (.one 3 (.one 4 (.one 5 (.one 6 (.one 7 (.one 8 (.one 9 (.one 10 (.one 11 (.one 12 (.done)))))))))))))
def YW (Yw:Nat):OP:=.one 0 false [] (mv 38 9) (.one 1 false [] (mv 39 38) (.one 2 false [] (mg 40 4 39 true) (.one 3 false [] (mg 41 10 39 true) (.one 4 false [] (xg 42 (.iaddr 1 (.t 40) (.t 41)) 39 true) (.one 5 false [] (xg 43 (.load false 1 (.t 42)) 39 true) (.one 6 false [] (mg 44 6 39 true) (.one 7 false [] (mg 45 8 39 true) (.one 8 false [] (xg 46 (.iaddr 12 (.t 44) (.t 45)) 39 true) (.one 9 false [] (xg 47 (.load true 12 (.t 46)) 39 true) (.one 10 false [] (xg 48 (.call Yw [(.t 43),(.t 47)]) 39 true) (.one 11 false [10] (xo 49 (.pick (.t 39) (.t 48) (.c (V.bool false)))) (.one 12 false [10] (mv 9 49) (.done)))))))))))))
theorem JQ (Yw:Nat):okR (xX Yw) wE [] xS = true:=by kernel_rfl
theorem JP (Yw:Nat):Vo (ris (xX Yw) wE []) xS = YW Yw:=by kernel_rfl def c_ref08_Set (Wh jO Yl Yw:Nat):AC:=QF [0] (.reg [xo 2 (.mknil 1),mc 3 (V.bool false)]) (QF [4] (.reg [mv 11 0,xo 12 (.call Wh [(.t 11),(.c (.sc (.int .u8 43)))]),mv 4 12]) (QF [4] (QF [4,5] (.reg [mc 5 (V.int 0)]) (.block 0 (Wv [4,5] (QF [4,5] (QF [4,5,16] (.reg [mv 13 5,mv 14 4,ln 15 14,bn 16 .lss 13 15]) (.cond (.t 16) (.skip) (.exit 0))) (QF [4,5] (.block 1 (QF [4,5,24] (.reg [mv 19 4,mv 20 5,ia 21 1 19 20,ld 22 1 21,cl 23 jO [22],xo 24 (.un .not (.t 23))]) (.cond (.t 24) (QF [2,3] (.reg [xo 2 (.mknil 1),mc 3 (V.bool false)]) (.ret)) (.skip)))) (.reg [mv 17 5,bc 18 .add 17 (V.int 1),mv 5 18])))))) (QF [4,6] (.reg [cl 25 Yl [],mv 6 25]) (QF [4,6,7] (.reg [xo 7 (.mknil 1)]) (QF [7] (QF [4,6,7,8] (.reg [mc 8 (V.int 0)]) (.block 2 (Wv [4,6,7,8] (QF [4,6,7,8] (QF [4,6,7,8,29] (.reg [mv 26 8,mv 27 6,ln 28 27,bn 29 .lss 26 28]) (.cond (.t 29) (.skip) (.exit 2))) (QF [4,6,7,8] (.block 3 (QF [4,6,7,8,9] (.reg [mc 9 (V.bool true)]) (QF [4,6,7,8,9] (QF [4,6,7,8,9,10] (.reg [mc 10 (V.int 0)]) (.block 4 (Wv [4,6,7,8,9,10] (QF [4,6,7,8,9,10] (QF [4,6,7,8,9,10,35] (.reg [mv 32 10,mv 33 4,ln 34 33,bn 35 .lss 32 34]) (.cond (.t 35) (.skip) (.exit 4))) (QF [4,6,7,8,9,10] (.block 5 (aaY [] xS (YW Yw) (xX Yw) wE)) (.reg [mv 36 10,bc 37 .add 36 (V.int 1),mv 10 37])))))) (QF [4,6,7,8,50] (.reg [mv 50 9]) (.cond (.t 50) (.reg [mv 51 7,mv 52 6,mv 53 8,ia 54 12 52 53,fa 55 0 54,ld 56 1 55,xo 57 (.bslice 1 1 false [(.int .i64 0)] [(0,(.t 56))]),xo 58 (.append 1 8 [(.int .i64 0)] (.t 51) (.t 57)),mv 7 58]) (.skip)))))) (.reg [mv 30 8,bc 31 .add 30 (V.int 1),mv 8 31])))))) (QF [2,3] (.reg [mv 59 7,mv 2 59,mc 3 (V.bool true)]) (.ret))))))) def r_ref08_Set:List Y9:=[.tmp 2,.tmp 3]
def vK (Γ:Env) (f:Nat):Prop:=∀ (s:List UInt8) (hs:s.length < 2 ^ 34),EvC Γ f [V.str s] (.tup [.sl 1 ((aaS s).1.map V.int),V.bool (aaS s).2])
theorem agh {Γ:Env} {f Wh jO Yl Yw:Nat} (h:Has Γ.P f 60 (c_ref08_Set Wh jO Yl Yw) r_ref08_Set) (JR:jb Γ Wh) (XC:xx Γ jO) (JT:Uw Γ Yl) (XB:xw Γ Yw):vK Γ f:=by
  intro s hs
  refine Wb h (by simp) (by simp only [V.closed,Qw,and_self]) fun C hC hm=>?_
  subst hC
  unfold c_ref08_Set
  have hlen:=vP 43 s
  have hsp:=(JR s 43 hs).b
  have hset:aaS s = if (Yh 43 s).all Us then (VP (Yh 43 s) JD,true) else ([],false):=rfl
  rw [hset]
  generalize Yh 43 s = L at *
  have e43:((43:UInt8).toNat:Int) = 43:=rfl
  rw [e43] at hsp
  repeat' (first|refine Qp fun K' hK=>?_|refine Qt fun K' hK=>?_|refine Qm 13 (fun _=>true) rfl (JQ _) (JP _) fun K' hK=>?_|refine Qn 13 (fun _=>true) rfl (JQ _) (JP _) fun K' hK=>?_|refine Qq ?_|refine Qr ?_|refine Qa ?_|((first|refine Qs ⟨_,rfl,fun hc=>?_,fun hc=>?_⟩|refine QM (fun hc=>?_) (fun hc=>?_)|refine QN (fun hc=>?_) (fun hc=>?_))<;>first|(cases hc;done)|((try simp only [znz] at hc);first|exact znf|skip))|refine Qv ?_|refine Qu ?_|simp (maxSteps:=1000000) only [go_sem,YW]|(refine hK _ ?_;clear hK K')|apply And.intro|((first|apply QX|apply Jz);(focus first|exact hsp|exact (JR _ _ zsd).b|exact (XC _).b|exact EvC.b JT|exact (XB _ _).b))|exact zlo|omega|exact zms)
  refine Wz (ι:=Nat) (fun k=>k≤L.length∧(L.drop k).all Us = L.all Us) (fun k=>[(5,V.int k)]) (fun k=>L.length - k) 0 (by omega) ⟨by simp,by simp⟩ (by repeat' first|exact VK|refine Kn (by omega) (by simp only [Ob.lt,ltL,V.lt,and_self,and_true];try omega) ?_) (fun i hi=>by simp only [ovT,YO,Nat.reduceEqDiff,reduceIte];(repeat' first|exact Km|refine VJ ?_ ?_|simp only [V.lt,ltL,and_self,and_true]|omega)) (by simp only [Nat.reduceAdd,ovT,YO,Nat.reduceEqDiff,reduceIte,J9,Yz,w7,u32,u33,u34,u35,u36,u37,u38,u39,and_self,and_true,true_and];rfl) fun k hk K' hL=>?_
  obtain ⟨hk,hinv⟩:=hk
  simp only [ovT,YO,Nat.reduceEqDiff,reduceIte]
  rcases hd:L.drop k with _|⟨y,r⟩
  · have:=YX hd
    rw [hd] at hinv
    have e1:decide ((k:Int) < (((L.map V.str).length:Nat):Int)) = false:=by simp;omega
    have e2:L.all Us = true:=by rw [← hinv];rfl
    rw [e2]
    repeat' (first|refine Qp fun K' hK=>?_|refine Qt fun K' hK=>?_|refine Qm 13 (fun _=>true) rfl (JQ _) (JP _) fun K' hK=>?_|refine Qn 13 (fun _=>true) rfl (JQ _) (JP _) fun K' hK=>?_|refine Qq ?_|refine Qr ?_|refine Qa ?_|((first|refine Qs ⟨_,rfl,fun hc=>?_,fun hc=>?_⟩|refine QM (fun hc=>?_) (fun hc=>?_)|refine QN (fun hc=>?_) (fun hc=>?_))<;>first|(cases hc;done)|((try simp only [znz] at hc);first|exact znf|skip))|refine Qv ?_|refine Qu ?_|simp (maxSteps:=1000000) only [go_sem,e1,YW]|(refine hK _ ?_;clear hK K')|apply And.intro|((first|apply QX|apply Jz);(focus first|exact (JR _ _ zsd).b|exact (XC _).b|exact EvC.b JT|exact (XB _ _).b))|exact zlo|omega|exact zms)
    refine JF (ι:=Nat) (fun k=>k≤16) (fun k=>Ym [(4,.sl 1 (L.map V.str)),(6,.sl 12 (JD.map Q9.v)),(7,.hd 0 0 (VP L (JD.take k)).length),(8,V.int k)] [(0,.buf true 1 ((VP L (JD.take k)).map V.int))] 1) (fun k=>17 - k) 0 (by omega) (Jp [(0,12000)]) (Jq [(0,12000)] (by simp only [go_sem,and_true,true_and,implies_true,Option.some.injEq,exists_eq_left',Ql,Qo];(repeat' (first|rfl|apply And.intro|omega|exact fun h=>h|exact Exists.intro _ rfl))) (by simp only [go_sem,and_true,true_and,implies_true,Option.some.injEq,exists_eq_left',Ql,Qo];(repeat' (first|rfl|apply And.intro|omega|exact fun h=>h|exact Exists.intro _ rfl))) (by simp) (by simp;omega) (by omega)) fun k hk K' hL=>?_
    rcases hd:JD.drop k with _|⟨x,r⟩
    · have hk16:=YX hd
      have e1:decide ((k:Int) < (((JD.map Q9.v).length:Nat):Int)) = false:=by simp;omega
      have e3:JD.take k = JD:=List.take_of_length_le hk16
      rw [e3]
      repeat' (first|refine Qp fun K' hK=>?_|refine Qt fun K' hK=>?_|refine Qm 13 (fun _=>true) rfl (JQ _) (JP _) fun K' hK=>?_|refine Qn 13 (fun _=>true) rfl (JQ _) (JP _) fun K' hK=>?_|refine Qq ?_|refine Qr ?_|refine Qa ?_|((first|refine Qs ⟨_,rfl,fun hc=>?_,fun hc=>?_⟩|refine QM (fun hc=>?_) (fun hc=>?_)|refine QN (fun hc=>?_) (fun hc=>?_))<;>first|(cases hc;done)|((try simp only [znz] at hc);first|exact znf|skip))|refine Qv ?_|refine Qu ?_|simp (maxSteps:=1000000) only [go_sem,Ym,e1,YW]|(refine hK _ ?_;clear hK K')|apply And.intro|((first|apply QX|apply Jz);(focus first|exact (JR _ _ zsd).b|exact (XC _).b|exact EvC.b JT|exact (XB _ _).b))|exact zlo|omega|exact zms)
      all_goals (refine Je _ rfl ?_;simp only [go_sem];rw [List.take_of_length_le (by simp)])
    · obtain ⟨hk',hget,hr⟩:=Yp hd
      rw [Vn] at hk'
      have hw:=JO (k:=k) (by omega)
      have e1:decide ((k:Int) < (((JD.map Q9.v).length:Nat):Int)) = true:=by simp [Vn];omega
      have hcs:=acr L k x hget
      have hol:(VP L (JD.take k)).length≤16:=by
        rw [VP,List.length_map]
        refine Nat.le_trans (List.length_filter_le _ _) ?_
        rw [List.length_take];omega
      generalize VP L (JD.take k) = out at *
      repeat' (first|refine Qp fun K' hK=>?_|refine Qt fun K' hK=>?_|refine Qm 13 (fun _=>true) rfl (JQ _) (JP _) fun K' hK=>?_|refine Qn 13 (fun _=>true) rfl (JQ _) (JP _) fun K' hK=>?_|refine Qq ?_|refine Qr ?_|refine Qa ?_|((first|refine Qs ⟨_,rfl,fun hc=>?_,fun hc=>?_⟩|refine QM (fun hc=>?_) (fun hc=>?_)|refine QN (fun hc=>?_) (fun hc=>?_))<;>first|(cases hc;done)|((try simp only [znz] at hc);first|exact znf|skip))|refine Qv ?_|refine Qu ?_|simp (maxSteps:=1000000) only [go_sem,Ym,e1,YW]|(refine hK _ ?_;clear hK K')|apply And.intro|((first|apply QX|apply Jz);(focus first|exact (JR _ _ zsd).b|exact (XC _).b|exact EvC.b JT|exact (XB _ _).b))|exact zlo|omega|exact zms)
      refine Wz (ι:=Nat) (fun j=>j≤L.length) (fun j=>[(9,V.bool ((L.take j).all fun n=>Vh n x)),(10,V.int j)]) (fun j=>L.length - j) 0 (by omega) (by omega) (by repeat' first|exact VK|refine Kn (by omega) (by simp only [Ob.lt,ltL,V.lt,and_self,and_true];try omega) ?_) (fun i hi=>by simp only [ovT,YO,Nat.reduceEqDiff,reduceIte];(repeat' first|exact Km|refine VJ ?_ ?_|simp only [V.lt,ltL,and_self,and_true]|omega)) (by simp only [Nat.reduceAdd,ovT,YO,Nat.reduceEqDiff,reduceIte,J9,Yz,w7,u32,u33,u34,u35,u36,u37,u38,u39,and_self,and_true,true_and];exact ⟨rfl,rfl⟩) fun j hj K'' hL2=>?_
      simp only [ovT,YO,Nat.reduceEqDiff,reduceIte]
      rcases hdj:L.drop j with _|⟨y,r2⟩
      · have hjl:=YX hdj
        have e2:decide ((j:Int) < (((L.map V.str).length:Nat):Int)) = false:=by simp;omega
        have e3:L.take j = L:=List.take_of_length_le hjl
        rw [e3]
        rcases hin:ajF L x with _|_
        · have hin2:(L.all fun n=>Vh n x) = false:=hin
          rw [hin2]
          rw [hin] at hcs
          repeat' (first|refine Qp fun K' hK=>?_|refine Qt fun K' hK=>?_|refine Qm 13 (fun _=>true) rfl (JQ _) (JP _) fun K' hK=>?_|refine Qn 13 (fun _=>true) rfl (JQ _) (JP _) fun K' hK=>?_|refine Qq ?_|refine Qr ?_|refine Qa ?_|((first|refine Qs ⟨_,rfl,fun hc=>?_,fun hc=>?_⟩|refine QM (fun hc=>?_) (fun hc=>?_)|refine QN (fun hc=>?_) (fun hc=>?_))<;>first|(cases hc;done)|((try simp only [znz] at hc);first|exact znf|skip))|refine Qv ?_|refine Qu ?_|simp (maxSteps:=1000000) only [go_sem,e2,hw,YW]|(refine hK _ ?_;clear hK K')|apply And.intro|((first|apply QX|apply Jz);(focus first|exact (JR _ _ zsd).b|exact (XC _).b|exact EvC.b JT|exact (XB _ _).b))|exact zlo|omega|exact zms)
          simp only [Bool.false_eq_true,if_false,List.append_nil] at hcs
          refine hL _ (k + 1) (Jp []) (by omega) (by omega) ?_
          rw [hcs]
          exact Jq [] (by simp only [go_sem,and_true,true_and,implies_true,Option.some.injEq,exists_eq_left',Ql,Qo];(repeat' (first|rfl|apply And.intro|omega|exact fun h=>h|exact Exists.intro _ rfl))) (by simp only [go_sem,and_true,true_and,implies_true,Option.some.injEq,exists_eq_left',Ql,Qo];(repeat' (first|rfl|apply And.intro|omega|exact fun h=>h|exact Exists.intro _ rfl))) (by simp) (by simp) (by omega)
        · have hin2:(L.all fun n=>Vh n x) = true:=hin
          rw [hin2]
          rw [hin] at hcs
          repeat' (first|refine Qp fun K' hK=>?_|refine Qt fun K' hK=>?_|refine Qm 13 (fun _=>true) rfl (JQ _) (JP _) fun K' hK=>?_|refine Qn 13 (fun _=>true) rfl (JQ _) (JP _) fun K' hK=>?_|refine Qq ?_|refine Qr ?_|refine Qa ?_|((first|refine Qs ⟨_,rfl,fun hc=>?_,fun hc=>?_⟩|refine QM (fun hc=>?_) (fun hc=>?_)|refine QN (fun hc=>?_) (fun hc=>?_))<;>first|(cases hc;done)|((try simp only [znz] at hc);first|exact znf|skip))|refine Qv ?_|refine Qu ?_|simp (maxSteps:=1000000) only [go_sem,e2,hw,Int.toNat_natCast,List.getElem?_map,hget,Q9.v,Q9.cells,YW]|(refine hK _ ?_;clear hK K')|apply And.intro|((first|apply QX|apply Jz);(focus first|exact (JR _ _ zsd).b|exact (XC _).b|exact EvC.b JT|exact (XB _ _).b))|exact zlo|omega|exact zms)
          rw [if_pos rfl] at hcs
          have hb:List.take out.length (List.map V.int out)++[V.int x.code] = (out++[x.code]).map V.int:=by
            rw [List.take_of_length_le (by simp),List.map_append];rfl
          have hln:out.length + 1 = (out++[x.code]).length:=by simp
          rw [hb,hln]
          refine hL _ (k + 1) (Jp [(0,18001)]) (by omega) (by omega) ?_
          rw [hcs]
          exact Jq [(0,18001)] (by simp only [go_sem,and_true,true_and,implies_true,Option.some.injEq,exists_eq_left',Ql,Qo];(repeat' (first|rfl|apply And.intro|omega|exact fun h=>h|exact Exists.intro _ rfl))) (by simp only [go_sem,and_true,true_and,implies_true,Option.some.injEq,exists_eq_left',Ql,Qo];(repeat' (first|rfl|apply And.intro|omega|exact fun h=>h|exact Exists.intro _ rfl))) (by simp) (by simp;omega) (by omega)
      · obtain ⟨hj',hgj,hrj⟩:=Yp hdj
        have hwj:=JO (k:=j) (by omega)
        have e2:decide ((j:Int) < (((L.map V.str).length:Nat):Int)) = true:=by simp;omega
        have hall:((L.take (j + 1)).all fun n=>Vh n x) = (((L.take j).all fun n=>Vh n x) && Vh y x):=by
          rw [List.take_add_one,hgj];simp
        rcases hb:((L.take j).all fun n=>Vh n x) with _|_
        · rw [hb,Bool.false_and] at hall
          repeat' (first|refine Qp fun K' hK=>?_|refine Qt fun K' hK=>?_|refine Qm 13 (fun _=>true) rfl (JQ _) (JP _) fun K' hK=>?_|refine Qn 13 (fun _=>true) rfl (JQ _) (JP _) fun K' hK=>?_|refine Qq ?_|refine Qr ?_|refine Qa ?_|((first|refine Qs ⟨_,rfl,fun hc=>?_,fun hc=>?_⟩|refine QM (fun hc=>?_) (fun hc=>?_)|refine QN (fun hc=>?_) (fun hc=>?_))<;>first|(cases hc;done)|((try simp only [znz] at hc);first|exact znf|skip))|refine Qv ?_|refine Qu ?_|simp (maxSteps:=1000000) only [go_sem,e2,hwj,YW]|(refine hK _ ?_;clear hK K')|apply And.intro|((first|apply QX|apply Jz);(focus first|exact (JR _ _ zsd).b|exact (XC _).b|exact EvC.b JT|exact (XB _ _).b))|exact zlo|omega|exact zms)
          all_goals exact hL2 _ (j + 1) (by rw [hall];simp only [Nat.reduceAdd,ovT,YO,Nat.reduceEqDiff,reduceIte,J9,Yz,w7,u32,u33,u34,u35,u36,u37,u38,u39,and_self,and_true,true_and]) (by omega) (by omega) (fun a ha=>by simp only [u32,u33,u34,u35,u36,u37,u38,u39];repeat rw [if_neg (by omega)])
        · rw [hb,Bool.true_and] at hall
          repeat' (first|refine Qp fun K' hK=>?_|refine Qt fun K' hK=>?_|refine Qm 13 (fun _=>true) rfl (JQ _) (JP _) fun K' hK=>?_|refine Qn 13 (fun _=>true) rfl (JQ _) (JP _) fun K' hK=>?_|refine Qq ?_|refine Qr ?_|refine Qa ?_|((first|refine Qs ⟨_,rfl,fun hc=>?_,fun hc=>?_⟩|refine QM (fun hc=>?_) (fun hc=>?_)|refine QN (fun hc=>?_) (fun hc=>?_))<;>first|(cases hc;done)|((try simp only [znz] at hc);first|exact znf|skip))|refine Qv ?_|refine Qu ?_|simp (maxSteps:=1000000) only [go_sem,e2,hwj,Int.toNat_natCast,List.getElem?_map,hget,hgj,YW]|(refine hK _ ?_;clear hK K')|apply And.intro|((first|apply QX|apply Jz);(focus first|exact (JR _ _ zsd).b|exact (XC _).b|exact EvC.b JT|exact (XB _ _).b))|exact zlo|omega|exact zms)
          · exact Nat.le_refl 12
          · exact hL2 _ (j + 1) (by rw [hall];simp only [Nat.reduceAdd,ovT,YO,Nat.reduceEqDiff,reduceIte,J9,Yz,w7,u32,u33,u34,u35,u36,u37,u38,u39,and_self,and_true,true_and]) (by omega) (by omega) (fun a ha=>by simp only [u32,u33,u34,u35,u36,u37,u38,u39];repeat rw [if_neg (by omega)])
  · obtain ⟨hk',hget,hr⟩:=Yp hd
    rw [hd] at hinv
    have hw:=JO (k:=k) (by omega)
    have e1:decide ((k:Int) < (((L.map V.str).length:Nat):Int)) = true:=by simp;omega
    rcases hy:Us y with _|_
    · have e2:L.all Us = false:=by rw [← hinv];simp [hy]
      rw [e2]
      repeat' (first|refine Qp fun K' hK=>?_|refine Qt fun K' hK=>?_|refine Qm 13 (fun _=>true) rfl (JQ _) (JP _) fun K' hK=>?_|refine Qn 13 (fun _=>true) rfl (JQ _) (JP _) fun K' hK=>?_|refine Qq ?_|refine Qr ?_|refine Qa ?_|((first|refine Qs ⟨_,rfl,fun hc=>?_,fun hc=>?_⟩|refine QM (fun hc=>?_) (fun hc=>?_)|refine QN (fun hc=>?_) (fun hc=>?_))<;>first|(cases hc;done)|((try simp only [znz] at hc);first|exact znf|skip))|refine Qv ?_|refine Qu ?_|simp (maxSteps:=1000000) only [go_sem,Int.toNat_natCast,List.getElem?_map,hget,hw,e1,hy,YW]|(refine hK _ ?_;clear hK K')|apply And.intro|((first|apply QX|apply Jz);(focus first|exact (JR _ _ zsd).b|exact (XC _).b|exact EvC.b JT|exact (XB _ _).b))|exact zlo|omega|exact zms)
      all_goals (refine Je _ rfl ?_;simp only [go_sem];first|done|exact ⟨_,_,rfl⟩)
    · repeat' (first|refine Qp fun K' hK=>?_|refine Qt fun K' hK=>?_|refine Qm 13 (fun _=>true) rfl (JQ _) (JP _) fun K' hK=>?_|refine Qn 13 (fun _=>true) rfl (JQ _) (JP _) fun K' hK=>?_|refine Qq ?_|refine Qr ?_|refine Qa ?_|((first|refine Qs ⟨_,rfl,fun hc=>?_,fun hc=>?_⟩|refine QM (fun hc=>?_) (fun hc=>?_)|refine QN (fun hc=>?_) (fun hc=>?_))<;>first|(cases hc;done)|((try simp only [znz] at hc);first|exact znf|skip))|refine Qv ?_|refine Qu ?_|simp (maxSteps:=1000000) only [go_sem,Int.toNat_natCast,List.getElem?_map,hget,hw,e1,hy,YW]|(refine hK _ ?_;clear hK K')|apply And.intro|((first|apply QX|apply Jz);(focus first|exact (JR _ _ zsd).b|exact (XC _).b|exact EvC.b JT|exact (XB _ _).b))|exact zlo|omega|exact zms)
      all_goals
        refine hL _ (k + 1) (by simp only [Nat.reduceAdd,ovT,YO,Nat.reduceEqDiff,reduceIte,J9,Yz,w7,u32,u33,u34,u35,u36,u37,u38,u39,and_self,and_true,true_and]) ⟨by omega,?_⟩ (by omega) (fun a ha=>by simp only [u32,u33,u34,u35,u36,u37,u38,u39];repeat rw [if_neg (by omega)])
        rw [hr,← hinv];simp [hy]
end Av
end
section
namespace Av
open Go
structure EvW (Γ:Env) (f:FuncId) (args:List V) (sz:Nat) (xs:List V):Prop where
  ev:Ev Γ f args [] (.hd 0 0 xs.length) [.buf true sz xs]
  ns:∀ x∈xs,x.noSl
theorem vn (l:List Int):∀ x∈l.map V.int,x.noSl:=by
  intro x hx;simp only [List.mem_map] at hx;obtain ⟨y,_,rfl⟩:=hx;simp only [V.noSl]
theorem vd (l:List (List UInt8)):∀ x∈l.map V.str,x.noSl:=by
  intro x hx;simp only [List.mem_map] at hx;obtain ⟨y,_,rfl⟩:=hx;simp only [V.noSl]
theorem amU {Γ:Env} {b:Nat} {r:List AO} {s:St} {d:Option Nat} {f:FuncId} {acts xs:List V} {sz:Nat} {K:St→Prop} (h:EvW Γ f (X9 s.o acts) sz xs) (hc:JN s.o none acts)
    (hk:V7 Γ (b + KK) r { t:=(s.put d (.hd b 0 xs.length)).t,o:=upd s.o b (some (.buf true sz xs)),n:=s.n } K):awC Γ b r s d f acts K:=by
  refine V4 ⟨_,_,_,_,[],none,h.ev,Wr _ _ _ hc,trivial,List.nodup_nil,fun x hx=>by simp at hx,by simp,by simp [KK],fun _=>⟨by simp only [V.noSl],fun x hx=>?_⟩,?_⟩
  · simp only [List.mem_singleton] at hx;subst hx;exact h.ns
  · simp only [VY,Ud,Ob.ren,V.ren,sig]
    exact hk
theorem amq {Γ:Env} {A W:Nat→Bool} {b:Nat} {s:St} {d:Option Nat} {f:FuncId} {acts xs:List V} {sz:Nat} {J:St→Prop} (h:EvW Γ f (X9 (Xj A s.o) acts) sz xs) (hc:JN (Xj A s.o) none acts)
    (hk:J { t:=(s.put d (.hd b 0 xs.length)).t,o:=upd s.o b (some (.buf true sz xs)),n:=s.n }):JB Γ A W b s d f acts J:=by
  refine ⟨_,_,_,_,[],none,h.ev,Wr _ _ _ hc,trivial,List.nodup_nil,fun x hx=>by simp at hx,by simp,by simp [KK],fun _=>⟨by simp only [V.noSl],fun x hx=>?_⟩,fun l h=>by simp at h,?_⟩
  · simp only [List.mem_singleton] at hx;subst hx;exact h.ns
  · simp only [VY,Ud,Ob.ren,V.ren,sig]
    exact hk
theorem Xh {Γ:Env} {b:Nat} {r:List AO} {s:St} {d:Option Nat} {f:FuncId} {acts args xs:List V} {sz:Nat} {K:St→Prop} {okf:Option (List Nat)→Prop} (h:EvW Γ f args sz xs) (hc:okf none)
    (hk:V7 Γ (b + KK) r { t:=(s.put d (.hd b 0 xs.length)).t,o:=upd s.o b (some (.buf true sz xs)),n:=s.n } K):ajW Γ b r s d f acts args okf K:=by
  rintro rfl rfl;exact amU h hc hk
theorem Yt {Γ:Env} {A W:Nat→Bool} {b:Nat} {s:St} {d:Option Nat} {f:FuncId} {acts args xs:List V} {sz:Nat} {J:St→Prop} {okf:Option (List Nat)→Prop} (h:EvW Γ f args sz xs) (hc:okf none)
    (hk:J { t:=(s.put d (.hd b 0 xs.length)).t,o:=upd s.o b (some (.buf true sz xs)),n:=s.n }):aiI Γ A W b s d f acts args okf J:=by
  rintro rfl rfl;exact amq h hc hk
theorem j8 {Γ:Env} {f:FuncId} {nt:Nat} {ac:AC} {rs:List Y9} (hb:Has Γ.P f nt ac rs) {args xs:List V} {sz:Nat} (ha:args.length≤nt) (hn:∀ x∈xs,x.noSl)
    (h:∀ C:Ctx,C.env = Γ→C.m = 0→AWp C nt ac (VO args []) (aan 0 rs (.hd 0 0 xs.length) [.buf true sz xs]) (fun _ _=>False) (aan 0 rs (.hd 0 0 xs.length) [.buf true sz xs])):EvW Γ f args sz xs :=
  ⟨V6 hb ha h,hn⟩
theorem adN {rs:List Y9} {s:St} {xs:List V} {sz:Nat} (a n:Nat) (h:acG s rs = some [.hd a 0 n]) (hn:n = xs.length) (ho:s.o a = some (.buf true sz xs)):aan 0 rs (.hd 0 0 xs.length) [.buf true sz xs] s:=by
  subst hn
  exact jN rs _ _ h ⟨[a],none,by simp [ahC,conv],⟨⟨_,ho,fun h=>h,rfl,rfl⟩,trivial⟩,by simp,rfl⟩
end Av
end
section
set_option linter.unusedSimpArgs false
set_option linter.unusedVariables false
set_option maxRecDepth 10000
set_option maxHeartbeats 4000000
namespace Av
open Go
attribute [local irreducible] AWp V7 Kz KE awS awC jS awQ jY JB Wl jJ awR Ws awB okR Vo ris
def Q7 (l some:List Int):List Int:=l.filter fun x=>!some.contains x
theorem xQ {l m:List Int} {k:Nat} {x:Int} (h:l[k]? = some x):Q7 (l.take (k + 1)) m = Q7 (l.take k) m++(if m.contains x = true then [] else [x]):=by
  rw [Q7,Q7,List.take_add_one,h,List.filter_append]
  congr 1
  by_cases hx:m.contains x = true<;>simp at hx<;>simp [hx]
theorem Xi (l m:List Int):(Q7 l m).length≤l.length:=List.length_filter_le _ _
def ye (wi:Nat):AC:=QF [0,1] (.reg [xo 4 (.mknil 1)]) (QF [0,1,5] (.reg [xo 5 (.mknil 1)]) (QF [5] (QF [0,1,5,6] (.reg [mc 6 (V.int 0)]) (.block 0 (Wv [0,1,5,6] (QF [0,1,5,6] (QF [0,1,5,6,10] (.reg [mv 7 6,mv 8 0,ln 9 8,bn 10 .lss 7 9]) (.cond (.t 10) (.skip) (.exit 0))) (QF [0,1,5,6] (.block 1 (QF [0,1,5,6,19] (.reg [mv 13 1,mv 14 0,mv 15 6,ia 16 1 14 15,ld 17 1 16,cl 18 wi [13,17],xo 19 (.un .not (.t 18))]) (.cond (.t 19) (.reg [mv 20 5,mv 21 0,mv 22 6,ia 23 1 21 22,ld 24 1 23,xo 25 (.bslice 1 1 false [(.int .i64 0)] [(0,(.t 24))]),xo 26 (.append 1 8 [(.int .i64 0)] (.t 20) (.t 25)),mv 5 26]) (.skip)))) (.reg [mv 11 6,bc 12 .add 11 (V.int 1),mv 6 12])))))) (QF [4] (.reg [mv 27 5,mv 4 27]) (.ret)))) def r_ref08_without:List Y9:=[.tmp 4]
def jD (Γ:Env) (f:Nat):Prop:=∀ (l m:List Int) (hl:l.length < 2 ^ 34) (hm:m.length < 2 ^ 62),EvW Γ f [.sl 1 (l.map V.int),.sl 1 (m.map V.int)] 1 ((Q7 l m).map V.int)
theorem acK {Γ:Env} {f wi:Nat} (h:Has Γ.P f 28 (ye wi) r_ref08_without) (wd:vM Γ wi):jD Γ f:=by
  intro l m hl hm
  refine j8 h (by simp) (by first|exact vn _|exact vd _) fun C hC hm=>?_
  subst hC
  unfold ye
  repeat' (first|refine Qp fun K' hK=>?_|refine Qt fun K' hK=>?_|refine Qq ?_|refine Qr ?_|refine Qa ?_|((first|refine Qs ⟨_,rfl,fun hc=>?_,fun hc=>?_⟩|refine QM (fun hc=>?_) (fun hc=>?_)|refine QN (fun hc=>?_) (fun hc=>?_))<;>first|(cases hc;done)|((try simp only [znz] at hc);first|exact znf|skip))|refine Qv ?_|refine Qu ?_|simp (maxSteps:=1000000) only [go_sem]|(refine hK _ ?_;clear hK K')|apply And.intro|(apply QX;(focus first|exact (wd _ _ zsd).b))|exact zlo|omega|exact zms)
  refine JF (ι:=Nat) (fun k=>k≤l.length) (fun k=>Ym [(0,.sl 1 (l.map V.int)),(1,.sl 1 (m.map V.int)),(5,.hd 0 0 (Q7 (l.take k) m).length),(6,V.int k)] [(0,.buf true 1 ((Q7 (l.take k) m).map V.int))] 1) (fun k=>l.length - k) 0 (by omega) (Jp [(0,1000)]) (Jq [(0,1000)] (by simp only [go_sem,and_true,true_and,implies_true,Option.some.injEq,exists_eq_left',Ql,Qo];(repeat' (first|rfl|apply And.intro|omega|exact fun h=>h|exact Exists.intro _ rfl))) (by simp only [go_sem,and_true,true_and,implies_true,Option.some.injEq,exists_eq_left',Ql,Qo];(repeat' (first|rfl|apply And.intro|omega|exact fun h=>h|exact Exists.intro _ rfl))) (by simp) (by simp;omega) (by omega)) fun k hk K' hL=>?_
  rcases hd:l.drop k with _|⟨x,r⟩
  · have hkl:=YX hd
    have e1:decide ((k:Int) < (((l.map V.int).length:Nat):Int)) = false:=by simp;omega
    have e3:l.take k = l:=List.take_of_length_le hkl
    rw [e3]
    repeat' (first|refine Qp fun K' hK=>?_|refine Qt fun K' hK=>?_|refine Qq ?_|refine Qr ?_|refine Qa ?_|((first|refine Qs ⟨_,rfl,fun hc=>?_,fun hc=>?_⟩|refine QM (fun hc=>?_) (fun hc=>?_)|refine QN (fun hc=>?_) (fun hc=>?_))<;>first|(cases hc;done)|((try simp only [znz] at hc);first|exact znf|skip))|refine Qv ?_|refine Qu ?_|simp (maxSteps:=1000000) only [go_sem,Ym,e1]|(refine hK _ ?_;clear hK K')|apply And.intro|(apply QX;(focus first|exact (wd _ _ zsd).b))|exact zlo|omega|exact zms)
    all_goals (refine adN _ _ rfl ?_ ?_<;>first|rfl|(simp;done))
  · obtain ⟨hk',hget,hr⟩:=Yp hd
    have hw:=JO (k:=k) (by omega)
    have e1:decide ((k:Int) < (((l.map V.int).length:Nat):Int)) = true:=by simp;omega
    have hcs:=xQ (m:=m) hget
    have hol:(Q7 (l.take k) m).length≤2 ^ 34:=by have:=Xi (l.take k) m;rw [List.length_take] at this;omega
    generalize Q7 (l.take k) m = out at *
    rcases hx:m.contains x with _|_
    · rw [hx] at hcs
      simp only [Bool.false_eq_true,if_false] at hcs
      repeat' (first|refine Qp fun K' hK=>?_|refine Qt fun K' hK=>?_|refine Qq ?_|refine Qr ?_|refine Qa ?_|((first|refine Qs ⟨_,rfl,fun hc=>?_,fun hc=>?_⟩|refine QM (fun hc=>?_) (fun hc=>?_)|refine QN (fun hc=>?_) (fun hc=>?_))<;>first|(cases hc;done)|((try simp only [znz] at hc);first|exact znf|skip))|refine Qv ?_|refine Qu ?_|simp (maxSteps:=1000000) only [go_sem,Ym,e1,Int.toNat_natCast,List.getElem?_map,hget,hw,hx]|(refine hK _ ?_;clear hK K')|apply And.intro|(apply QX;(focus first|exact (wd _ _ zsd).b))|exact zlo|omega|exact zms)
      have hb:List.take out.length (List.map V.int out)++[V.int x] = (out++[x]).map V.int:=by
        rw [List.take_of_length_le (by simp),List.map_append];rfl
      have hln:out.length + 1 = (out++[x]).length:=by simp
      rw [hb,hln]
      refine hL _ (k + 1) (Jp [(0,17001)]) (by omega) (by omega) ?_
      rw [hcs]
      exact Jq [(0,17001)] (by simp only [go_sem,and_true,true_and,implies_true,Option.some.injEq,exists_eq_left',Ql,Qo];(repeat' (first|rfl|apply And.intro|omega|exact fun h=>h|exact Exists.intro _ rfl))) (by simp only [go_sem,and_true,true_and,implies_true,Option.some.injEq,exists_eq_left',Ql,Qo];(repeat' (first|rfl|apply And.intro|omega|exact fun h=>h|exact Exists.intro _ rfl))) (by simp) (by simp;omega) (by omega)
    · rw [hx,if_pos rfl,List.append_nil] at hcs
      repeat' (first|refine Qp fun K' hK=>?_|refine Qt fun K' hK=>?_|refine Qq ?_|refine Qr ?_|refine Qa ?_|((first|refine Qs ⟨_,rfl,fun hc=>?_,fun hc=>?_⟩|refine QM (fun hc=>?_) (fun hc=>?_)|refine QN (fun hc=>?_) (fun hc=>?_))<;>first|(cases hc;done)|((try simp only [znz] at hc);first|exact znf|skip))|refine Qv ?_|refine Qu ?_|simp (maxSteps:=1000000) only [go_sem,Ym,e1,Int.toNat_natCast,List.getElem?_map,hget,hw,hx]|(refine hK _ ?_;clear hK K')|apply And.intro|(apply QX;(focus first|exact (wd _ _ zsd).b))|exact zlo|omega|exact zms)
      refine hL _ (k + 1) (Jp []) (by omega) (by omega) ?_
      rw [hcs]
      exact Jq [] (by simp only [go_sem,and_true,true_and,implies_true,Option.some.injEq,exists_eq_left',Ql,Qo];(repeat' (first|rfl|apply And.intro|omega|exact fun h=>h|exact Exists.intro _ rfl))) (by simp only [go_sem,and_true,true_and,implies_true,Option.some.injEq,exists_eq_left',Ql,Qo];(repeat' (first|rfl|apply And.intro|omega|exact fun h=>h|exact Exists.intro _ rfl))) (by simp) (by simp) (by omega)
end Av
end
section
set_option linter.unusedSimpArgs false
set_option linter.unusedVariables false
set_option maxRecDepth 10000
set_option maxHeartbeats 4000000
namespace Av
open Go
attribute [local irreducible] AWp V7 Kz KE awS awC jS awQ jY JB Wl jJ awR Ws awB okR Vo ris
def ajD (out:List Int) (x:Int):Nat→Nat
  | 0=>0
  | k + 1=>if w5 (out.getD k 0) < w5 x then ajD out x k else k + 1
theorem ajB (out:List Int) (x:Int):∀ k,ajD out x k≤k
  | 0=>Nat.le_refl _
  | k + 1=>by
    rw [ajD];split
    · exact Nat.le_succ_of_le (ajB out x k)
    · exact Nat.le_refl _
def agF (out:List Int) (x:Int):List Int:=out.take (ajD out x out.length)++[x]++out.drop (ajD out x out.length)
theorem ac0 (out:List Int) (x:Int):(agF out x).length = out.length + 1:=by
  have:=ajB out x out.length
  simp [agF];omega
def xU (l:List Int):List Int:=l.foldl agF []
theorem ahV {l:List Int} {k:Nat} {x:Int} (h:l[k]? = some x):xU (l.take (k + 1)) = agF (xU (l.take k)) x:=by
  rw [xU,xU,List.take_add_one,h,List.foldl_append];rfl
theorem agd:∀ (l out:List Int),(l.foldl agF out).length = out.length + l.length
  | [],out=>by simp
  | x :: r,out=>by rw [List.foldl_cons,agd r,ac0];simp;omega
theorem adb (l:List Int):(xU l).length = l.length:=by rw [xU,agd];simp
def y4 (Jx:Nat):List AO:=[mv 14 5,bc 15 .gtr 14 (V.int 0),mv 16 15,mg 17 3 16 true,mg 18 5 16 true,xg 19 (.bin .sub (.t 18) (.c (V.int 1))) 16 true,xg 20 (.iaddr 1 (.t 17) (.t 19)) 16 true,xg 21 (.load false 1 (.t 20)) 16 true,xg 22 (.call Jx [(.t 21)]) 16 true,mg 23 0 16 true,mg 24 4 16 true,xg 25 (.iaddr 1 (.t 23) (.t 24)) 16 true,xg 26 (.load false 1 (.t 25)) 16 true,xg 27 (.call Jx [(.t 26)]) 16 true,xg 28 (.bin .lss (.t 22) (.t 27)) 16 true,xo 29 (.pick (.t 16) (.t 28) (.c (V.bool false)))]
def xm:List (List Nat):=[[],[0],[1],[2],[2],[4,2],[3,5,2],[6,2],[7,2,2],[2],[2],[9,10,2],[11,2],[12,8,2],[8,13,2],[2,14]]
def yZ:OT:=.one 0 (.one 1 (.one 2 (.one 3 (.one 4 (.one 5 (.one 6 (.one 7 (.one 9 (.one 10 (.one 11 (.one 12 (.or 8 (.or 13 (.one 14 (.one 15 (.done))) (.done)) (.done)))))))))))))
def Wp (Jx:Nat):OP:=.one 0 false [] (mv 14 5) (.one 1 false [] (bc 15 .gtr 14 (V.int 0)) (.one 2 false [] (mv 16 15) (.one 3 false [] (mg 17 3 16 true) (.one 4 false [] (mg 18 5 16 true) (.one 5 false [] (xg 19 (.bin .sub (.t 18) (.c (V.int 1))) 16 true) (.one 6 false [] (xg 20 (.iaddr 1 (.t 17) (.t 19)) 16 true) (.one 7 false [] (xg 21 (.load false 1 (.t 20)) 16 true) (.one 9 false [] (mg 23 0 16 true) (.one 10 false [] (mg 24 4 16 true) (.one 11 false [] (xg 25 (.iaddr 1 (.t 23) (.t 24)) 16 true) (.one 12 false [] (xg 26 (.load false 1 (.t 25)) 16 true) (.or 8 false [] (xg 22 (.call Jx [(.t 21)]) 16 true) (.or 13 false [] (xg 27 (.call Jx [(.t 26)]) 16 true) (.one 14 false [13,8] (xg 28 (.bin .lss (.t 22) (.t 27)) 16 true) (.one 15 false [13,8] (xo 29 (.pick (.t 16) (.t 28) (.c (V.bool false)))) (.done))) (.done)) (.done)))))))))))))
theorem YI (Jx:Nat):okR (y4 Jx) xm [] yZ = true:=by kernel_rfl
theorem YG (Jx:Nat):Vo (ris (y4 Jx) xm []) yZ = Wp Jx:=by kernel_rfl
def y3:List AO:=[xo 32 (.bslice 0 1 false [(.int .i64 0)] []),mv 33 3,mv 34 5,xo 35 (.slsl 1 (.t 33) none (some (.t 34))),xo 36 (.append 1 8 [(.int .i64 0)] (.t 32) (.t 35)),mv 37 0,mv 38 4,ia 39 1 37 38,ld 40 1 39,xo 41 (.bslice 1 1 false [(.int .i64 0)] [(0,(.t 40))]),xo 42 (.append 1 8 [(.int .i64 0)] (.t 36) (.t 41)),mv 43 3,mv 44 5,xo 45 (.slsl 1 (.t 43) (some (.t 44)) none),xo 46 (.append 1 8 [(.int .i64 0)] (.t 42) (.t 45)),mv 3 46]
def xl:List (List Nat):=[[],[],[],[1,2],[0,3],[],[],[5,6],[7],[8],[4,9,4],[],[],[11,12],[10,13,10],[14,14,0,1,2,3,4,5,6,7,8,9,10,11,12,13,14]]
def yY:OT:=.one 1 (.one 2 (.one 3 (.one 5 (.one 6 (.one 7 (.one 8 (.one 11 (.one 12 (.one 13 (.or 0 (.or 4 (.or 9 (.one 10 (.one 14 (.one 15 (.done)))) (.done)) (.or 9 (.or 4 (.one 10 (.one 14 (.one 15 (.done)))) (.done)) (.done))) (.or 9 (.or 0 (.or 4 (.one 10 (.one 14 (.one 15 (.done)))) (.done)) (.done)) (.done))))))))))))
def Wo:OP:=.one 1 false [] (mv 33 3) (.one 2 false [] (mv 34 5) (.one 3 false [] (xo 35 (.slsl 1 (.t 33) none (some (.t 34)))) (.one 5 false [] (mv 37 0) (.one 6 false [] (mv 38 4) (.one 7 false [] (ia 39 1 37 38) (.one 8 false [] (ld 40 1 39) (.one 11 false [] (mv 43 3) (.one 12 false [] (mv 44 5) (.one 13 false [] (xo 45 (.slsl 1 (.t 43) (some (.t 44)) none)) (.or 0 false [] (xo 32 (.bslice 0 1 false [(.int .i64 0)] [])) (.or 4 true [0] (xo 36 (.append 1 8 [(.int .i64 0)] (.t 32) (.t 35))) (.or 9 false [] (xo 41 (.bslice 1 1 false [(.int .i64 0)] [(0,(.t 40))])) (.one 10 true [9,4,0] (xo 42 (.append 1 8 [(.int .i64 0)] (.t 36) (.t 41))) (.one 14 true [10,9,4,0] (xo 46 (.append 1 8 [(.int .i64 0)] (.t 42) (.t 45))) (.one 15 false [14,10,9,4,0] (mv 3 46) (.done)))) (.done)) (.or 9 false [] (xo 41 (.bslice 1 1 false [(.int .i64 0)] [(0,(.t 40))])) (.or 4 true [0] (xo 36 (.append 1 8 [(.int .i64 0)] (.t 32) (.t 35))) (.one 10 true [9,4,0] (xo 42 (.append 1 8 [(.int .i64 0)] (.t 36) (.t 41))) (.one 14 true [10,9,4,0] (xo 46 (.append 1 8 [(.int .i64 0)] (.t 42) (.t 45))) (.one 15 false [14,10,9,4,0] (mv 3 46) (.done)))) (.done)) (.done))) (.or 9 false [] (xo 41 (.bslice 1 1 false [(.int .i64 0)] [(0,(.t 40))])) (.or 0 false [] (xo 32 (.bslice 0 1 false [(.int .i64 0)] [])) (.or 4 true [0] (xo 36 (.append 1 8 [(.int .i64 0)] (.t 32) (.t 35))) (.one 10 true [9,4,0] (xo 42 (.append 1 8 [(.int .i64 0)] (.t 36) (.t 41))) (.one 14 true [10,9,4,0] (xo 46 (.append 1 8 [(.int .i64 0)] (.t 42) (.t 45))) (.one 15 false [14,10,9,4,0] (mv 3 46) (.done)))) (.done)) (.done)) (.done))))))))))))
theorem YH:okR (y3) xl [] yY = true:=by kernel_rfl
theorem YF:Vo (ris (y3) xl []) yY = Wo:=by kernel_rfl def c_ref08_Sort (Jx:Nat):AC:=QF [0] (.reg [xo 2 (.mknil 1)]) (QF [0,3] (.reg [xo 3 (.mknil 1)]) (QF [3] (QF [0,3,4] (.reg [mc 4 (V.int 0)]) (.block 0 (Wv [0,3,4] (QF [0,3,4] (QF [0,3,4,9] (.reg [mv 6 4,mv 7 0,ln 8 7,bn 9 .lss 6 8]) (.cond (.t 9) (.skip) (.exit 0))) (QF [0,3,4] (.block 1 (QF [0,3,4,5] (.reg [mv 12 3,ln 13 12,mv 5 13]) (QF [0,3,4,5] (.block 2 (Wv [0,3,4,5] (QF [0,3,4,5] (QF [0,3,4,5,29] (aaY [] yZ (Wp Jx) (y4 Jx) xm) (.cond (.t 29) (.skip) (.exit 2))) (.block 3 (.reg [mv 30 5,bc 31 .sub 30 (V.int 1),mv 5 31]))))) (aaY [] yY (Wo) (y3) xl)))) (.reg [mv 10 4,bc 11 .add 10 (V.int 1),mv 4 11])))))) (QF [2] (.reg [mv 47 3,mv 2 47]) (.ret)))) def r_ref08_Sort:List Y9:=[.tmp 2]
def wI (Γ:Env) (f:Nat):Prop:=∀ (l:List Int) (hl:l.length < 2 ^ 34),EvW Γ f [.sl 1 (l.map V.int)] 1 ((xU l).map V.int)
theorem afn {Γ:Env} {f Jx:Nat} (h:Has Γ.P f 48 (c_ref08_Sort Jx) r_ref08_Sort) (JG:UJ Γ Jx):wI Γ f:=by
  intro l hl
  refine j8 h (by simp) (by first|exact vn _|exact vd _) fun C hC hm=>?_
  subst hC
  unfold c_ref08_Sort
  repeat' (first|refine Qp fun K' hK=>?_|refine Qt fun K' hK=>?_|refine Qm 16 (fun _=>true) rfl (YI _) (YG _) fun K' hK=>?_|refine Qn 16 (fun _=>true) rfl (YI _) (YG _) fun K' hK=>?_|refine Qm 16 (fun _=>true) rfl (YH) (YF) fun K' hK=>?_|refine Qn 16 (fun _=>true) rfl (YH) (YF) fun K' hK=>?_|refine Qq ?_|refine Qr ?_|refine Qa ?_|((first|refine Qs ⟨_,rfl,fun hc=>?_,fun hc=>?_⟩|refine QM (fun hc=>?_) (fun hc=>?_)|refine QN (fun hc=>?_) (fun hc=>?_))<;>first|(cases hc;done)|((try simp only [znz] at hc);first|exact znf|skip))|refine Qv ?_|refine Qu ?_|simp (maxSteps:=1000000) only [go_sem,Wp,Wo]|(refine hK _ ?_;clear hK K')|apply And.intro|((first|apply QX|apply Jz);(focus first|exact (JG _).b))|exact zlo|omega|exact zms)
  refine JF (ι:=Nat) (fun k=>k≤l.length) (fun k=>Ym [(0,.sl 1 (l.map V.int)),(3,.hd 0 0 (xU (l.take k)).length),(4,V.int k)] [(0,.buf true 1 ((xU (l.take k)).map V.int))] 1) (fun k=>l.length - k) 0 (by omega) (Jp [(0,1000)]) (Jq [(0,1000)] (by simp only [go_sem,and_true,true_and,implies_true,Option.some.injEq,exists_eq_left',Ql,Qo];(repeat' (first|rfl|apply And.intro|omega|exact fun h=>h|exact Exists.intro _ rfl))) (by simp only [go_sem,and_true,true_and,implies_true,Option.some.injEq,exists_eq_left',Ql,Qo];(repeat' (first|rfl|apply And.intro|omega|exact fun h=>h|exact Exists.intro _ rfl))) (by simp) (by simp;omega) (by omega)) fun k hk K' hL=>?_
  rcases hd:l.drop k with _|⟨x,r⟩
  · have hkl:=YX hd
    have e1:decide ((k:Int) < (((l.map V.int).length:Nat):Int)) = false:=by simp;omega
    have e3:l.take k = l:=List.take_of_length_le hkl
    rw [e3]
    repeat' (first|refine Qp fun K' hK=>?_|refine Qt fun K' hK=>?_|refine Qm 16 (fun _=>true) rfl (YI _) (YG _) fun K' hK=>?_|refine Qn 16 (fun _=>true) rfl (YI _) (YG _) fun K' hK=>?_|refine Qm 16 (fun _=>true) rfl (YH) (YF) fun K' hK=>?_|refine Qn 16 (fun _=>true) rfl (YH) (YF) fun K' hK=>?_|refine Qq ?_|refine Qr ?_|refine Qa ?_|((first|refine Qs ⟨_,rfl,fun hc=>?_,fun hc=>?_⟩|refine QM (fun hc=>?_) (fun hc=>?_)|refine QN (fun hc=>?_) (fun hc=>?_))<;>first|(cases hc;done)|((try simp only [znz] at hc);first|exact znf|skip))|refine Qv ?_|refine Qu ?_|simp (maxSteps:=1000000) only [go_sem,Ym,e1,Wp,Wo]|(refine hK _ ?_;clear hK K')|apply And.intro|((first|apply QX|apply Jz);(focus first|exact (JG _).b))|exact zlo|omega|exact zms)
    all_goals (refine adN _ _ rfl ?_ ?_<;>first|rfl|(simp;done))
  · obtain ⟨hk',hget,hr⟩:=Yp hd
    have hw:=JO (k:=k) (by omega)
    have e1:decide ((k:Int) < (((l.map V.int).length:Nat):Int)) = true:=by simp;omega
    have hcs:=ahV hget
    have hol:(xU (l.take k)).length = k:=by rw [adb,List.length_take];omega
    generalize xU (l.take k) = out at *
    repeat' (first|refine Qp fun K' hK=>?_|refine Qt fun K' hK=>?_|refine Qm 16 (fun _=>true) rfl (YI _) (YG _) fun K' hK=>?_|refine Qn 16 (fun _=>true) rfl (YI _) (YG _) fun K' hK=>?_|refine Qm 16 (fun _=>true) rfl (YH) (YF) fun K' hK=>?_|refine Qn 16 (fun _=>true) rfl (YH) (YF) fun K' hK=>?_|refine Qq ?_|refine Qr ?_|refine Qa ?_|((first|refine Qs ⟨_,rfl,fun hc=>?_,fun hc=>?_⟩|refine QM (fun hc=>?_) (fun hc=>?_)|refine QN (fun hc=>?_) (fun hc=>?_))<;>first|(cases hc;done)|((try simp only [znz] at hc);first|exact znf|skip))|refine Qv ?_|refine Qu ?_|simp (maxSteps:=1000000) only [go_sem,Ym,e1,Wp,Wo]|(refine hK _ ?_;clear hK K')|apply And.intro|((first|apply QX|apply Jz);(focus first|exact (JG _).b))|exact zlo|omega|exact zms)
    refine Wz (ι:=Nat) (fun j=>j≤out.length∧ajD out x j = ajD out x out.length) (fun j=>[(5,V.int j)]) (fun j=>j) out.length (by omega) ⟨by omega,rfl⟩ (by repeat' first|exact VK|refine Kn (by omega) (by simp only [Ob.lt,ltL,V.lt,and_self,and_true];try omega) ?_) (fun i hi=>by simp only [ovT,YO,Nat.reduceEqDiff,reduceIte];(repeat' first|exact Km|refine VJ ?_ ?_|simp only [V.lt,ltL,and_self,and_true]|omega)) (by simp only [Nat.reduceAdd,ovT,YO,Nat.reduceEqDiff,reduceIte,J9,Yz,w7,u32,u33,u34,u35,u36,u37,u38,u39,and_self,and_true,true_and]) fun j hj K'' hL2=>?_
    obtain ⟨hj,hinv⟩:=hj
    simp only [ovT,YO,Nat.reduceEqDiff,reduceIte]
    rcases j with _|j
    · have e2:decide (((0:Nat):Int) > 0) = false:=rfl
      have h0:ajD out x out.length = 0:=by rw [← hinv];rfl
      have hfin:V.sc (Value.int .i64 x) :: List.take (out.length - 0) (out.map V.int) = (agF out x).map V.int:=by
        rw [agF,h0,List.take_of_length_le (by simp)];simp
      have hln:1 + (List.take (out.length - 0) (out.map V.int)).length = (agF out x).length:=by
        rw [ac0];simp;omega
      repeat' (first|refine Qp fun K' hK=>?_|refine Qt fun K' hK=>?_|refine Qm 16 (fun _=>true) rfl (YI _) (YG _) fun K' hK=>?_|refine Qn 16 (fun _=>true) rfl (YI _) (YG _) fun K' hK=>?_|refine Qm 16 (fun _=>true) rfl (YH) (YF) fun K' hK=>?_|refine Qn 16 (fun _=>true) rfl (YH) (YF) fun K' hK=>?_|refine Qq ?_|refine Qr ?_|refine Qa ?_|((first|refine Qs ⟨_,rfl,fun hc=>?_,fun hc=>?_⟩|refine QM (fun hc=>?_) (fun hc=>?_)|refine QN (fun hc=>?_) (fun hc=>?_))<;>first|(cases hc;done)|((try simp only [znz] at hc);first|exact znf|skip))|refine Qv ?_|refine Qu ?_|simp (maxSteps:=1000000) only [go_sem,e2,hw,Int.toNat_natCast,List.getElem?_map,hget,Wp,Wo]|(refine hK _ ?_;clear hK K')|apply And.intro|((first|apply QX|apply Jz);(focus first|exact (JG _).b))|exact zlo|omega|exact zms)
      all_goals first
        | (intro y hy;have h9:=List.mem_of_mem_take hy;simp only [List.mem_map] at h9;obtain ⟨z,_,rfl⟩:=h9;rfl)
        | (rw [hln];rw [ac0];omega)
        | (rw [hln,hfin]
           refine hL _ (k + 1) (Jp [(0,37001)]) (by omega) (by omega) ?_
           rw [hcs]
           exact Jq [(0,37001)] (by simp only [go_sem,and_true,true_and,implies_true,Option.some.injEq,exists_eq_left',Ql,Qo];(repeat' (first|rfl|apply And.intro|omega|exact fun h=>h|exact Exists.intro _ rfl))) (by simp only [go_sem,and_true,true_and,implies_true,Option.some.injEq,exists_eq_left',Ql,Qo];(repeat' (first|rfl|apply And.intro|omega|exact fun h=>h|exact Exists.intro _ rfl))) (by simp) (by simp;omega) (by omega))
    · have e2:decide (((j + 1:Nat):Int) > 0) = true:=decide_eq_true (by omega)
      have hwj:IntKind.i64.wrap (((j + 1:Nat):Int) - 1) = (j:Int):=by rw [Yq (by omega) (by omega)];omega
      obtain ⟨y,hy⟩:∃ y,out[j]? = some y:=⟨out[j]'(by omega),List.getElem?_eq_getElem (by omega)⟩
      have hyd:out.getD j 0 = y:=by rw [List.getD_eq_getElem?_getD,hy];rfl
      rw [ajD,hyd] at hinv
      have hyt:(List.take out.length (out.map V.int))[j]? = some (V.int y):=by rw [List.take_of_length_le (by simp),List.getElem?_map,hy];rfl
      rcases hlt:decide (w5 y < w5 x) with _|_
      · rw [if_neg (of_decide_eq_false hlt)] at hinv
        have hA:List.take (j + 1 - 0) (out.map V.int) = (out.take (j + 1)).map V.int:=by rw [Nat.sub_zero,List.map_take]
        have hB:List.take (out.length - (j + 1)) (List.drop (j + 1) (out.map V.int)) = (out.drop (j + 1)).map V.int:=by
          rw [List.take_of_length_le (by simp),List.map_drop]
        have hC:List.take ((out.take (j + 1)).map V.int).length ((out.take (j + 1)).map V.int) = (out.take (j + 1)).map V.int:=List.take_length
        have hD:List.take (((out.take (j + 1)).map V.int).length + 1) ((out.take (j + 1)).map V.int++[V.sc (Value.int .i64 x)]) = (out.take (j + 1)++[x]).map V.int:=by
          rw [List.take_of_length_le (by simp),List.map_append];rfl
        have hfin:(out.take (j + 1)++[x]).map V.int++(out.drop (j + 1)).map V.int = (agF out x).map V.int:=by
          rw [agF,← hinv,List.map_append,List.map_append,List.map_append]
        have hln:((out.take (j + 1)).map V.int).length + 1 + ((out.drop (j + 1)).map V.int).length = (agF out x).length:=by
          rw [ac0];simp;omega
        repeat' (first|refine Qp fun K' hK=>?_|refine Qt fun K' hK=>?_|refine Qm 16 (fun _=>true) rfl (YI _) (YG _) fun K' hK=>?_|refine Qn 16 (fun _=>true) rfl (YI _) (YG _) fun K' hK=>?_|refine Qm 16 (fun _=>true) rfl (YH) (YF) fun K' hK=>?_|refine Qn 16 (fun _=>true) rfl (YH) (YF) fun K' hK=>?_|refine Qq ?_|refine Qr ?_|refine Qa ?_|((first|refine Qs ⟨_,rfl,fun hc=>?_,fun hc=>?_⟩|refine QM (fun hc=>?_) (fun hc=>?_)|refine QN (fun hc=>?_) (fun hc=>?_))<;>first|(cases hc;done)|((try simp only [znz] at hc);first|exact znf|skip))|refine Qv ?_|refine Qu ?_|simp (maxSteps:=1000000) only [go_sem,e2,hw,hwj,Int.toNat_natCast,List.getElem?_map,hget,hy,hlt,Wp,Wo]|(refine hK _ ?_;clear hK K')|apply And.intro|((first|apply QX|apply Jz);(focus first|exact (JG _).b))|exact zlo|omega|exact zms)
        all_goals first
          | (intro z hz;rw [hA] at hz;simp only [List.mem_map] at hz;obtain ⟨w,_,rfl⟩:=hz;rfl)
          | (intro z hz;rw [hB] at hz;simp only [List.mem_map] at hz;obtain ⟨w,_,rfl⟩:=hz;rfl)
          | (simp;done)
          | (simp;omega)
          | (rw [hA,hB,hln,hC,hD,hfin]
             refine hL _ (k + 1) (Jp [(0,37001)]) (by omega) (by omega) ?_
             rw [hcs]
             exact Jq [(0,37001)] (by simp only [go_sem,and_true,true_and,implies_true,Option.some.injEq,exists_eq_left',Ql,Qo];(repeat' (first|rfl|apply And.intro|omega|exact fun h=>h|exact Exists.intro _ rfl))) (by simp only [go_sem,and_true,true_and,implies_true,Option.some.injEq,exists_eq_left',Ql,Qo];(repeat' (first|rfl|apply And.intro|omega|exact fun h=>h|exact Exists.intro _ rfl))) (by simp) (by simp;omega) (by omega))
      · repeat' (first|refine Qp fun K' hK=>?_|refine Qt fun K' hK=>?_|refine Qm 16 (fun _=>true) rfl (YI _) (YG _) fun K' hK=>?_|refine Qn 16 (fun _=>true) rfl (YI _) (YG _) fun K' hK=>?_|refine Qm 16 (fun _=>true) rfl (YH) (YF) fun K' hK=>?_|refine Qn 16 (fun _=>true) rfl (YH) (YF) fun K' hK=>?_|refine Qq ?_|refine Qr ?_|refine Qa ?_|((first|refine Qs ⟨_,rfl,fun hc=>?_,fun hc=>?_⟩|refine QM (fun hc=>?_) (fun hc=>?_)|refine QN (fun hc=>?_) (fun hc=>?_))<;>first|(cases hc;done)|((try simp only [znz] at hc);first|exact znf|skip))|refine Qv ?_|refine Qu ?_|simp (maxSteps:=1000000) only [go_sem,e2,hw,hwj,Int.toNat_natCast,List.getElem?_map,hget,hy,hlt,Wp,Wo]|(refine hK _ ?_;clear hK K')|apply And.intro|((first|apply QX|apply Jz);(focus first|exact (JG _).b))|exact zlo|omega|exact zms)
        rw [if_pos (of_decide_eq_true hlt)] at hinv
        all_goals exact hL2 _ j (by simp only [Nat.reduceAdd,ovT,YO,Nat.reduceEqDiff,reduceIte,J9,Yz,w7,u32,u33,u34,u35,u36,u37,u38,u39,and_self,and_true,true_and]) ⟨by omega,hinv⟩ (by omega) (fun a ha=>by simp only [u32,u33,u34,u35,u36,u37,u38,u39];repeat rw [if_neg (by omega)])
end Av
end
