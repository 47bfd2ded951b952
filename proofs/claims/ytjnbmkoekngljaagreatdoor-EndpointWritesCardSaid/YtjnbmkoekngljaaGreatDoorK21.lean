/- K21 -/
import Derived.Test.YtjnbmkoekngljaaGreatDoorK20
import Derived.Test.YtjnbmkoekngljaaGreatDoorK19
set_option linter.unusedVariables false
set_option linter.unusedSimpArgs false
section
set_option maxRecDepth 10000
set_option maxHeartbeats 4000000
namespace Av
open Go
attribute [local irreducible] AWp x8 adc afE awS awC am1 awQ anX Yf abo ama awR acg awB okR agS ris
structure PLn where
 word:List UInt8
 vals:List (List UInt8)
def PLn.v (l:PLn):V:=.agg [V.str l.word,.sl 1 (l.vals.map V.str)]
theorem aie {l:List Int} (h:WY l = true):KR l = .tup [V.str (abg l),V.int 0]:=by
 simp only [WY,Bool.and_eq_true,Bool.not_eq_true',decide_eq_true_eq] at h
 refine aks h.2 fun x hx=>?_
 have:=List.any_eq_false.1 h.1 x hx
 simp [aeY] at this
 omega
def YW (e:QL):List (List UInt8):=e.anchors.map Lib.itoa
def Xn (e:QL):List (List UInt8):=e.hashes.map fun n=>(Jk n).name
def VI (e:QL):List PLn:=[⟨[108,101,97,115,116],[Lib.itoa e.least]⟩,⟨[109,111,115,116],[Lib.itoa e.most]⟩,⟨[115,117,105,116,101,115],[abg e.suites]⟩,⟨[111,114,100,101,114],[if e.own = true then [111,119,110] else [99,108,105,101,110,116]]⟩]
def aax (e:QL) (al:List (List UInt8)):List PLn:=[⟨[107,101,121,115],al⟩,⟨[97,110,99,104,111,114,115],YW e⟩,⟨[104,97,115,104,101,115],Xn e⟩]
def JQ (l:PLn):Bool:=decide ((l.vals.length:Int) > 0)
def Jz (e:QL) (al:List (List UInt8)):List PLn:=VI e++(aax e al).filter JQ++[⟨[102,97,108,108,98,97,99,107],[if e.fall = true then [121,101,115] else [110,111]]⟩]
def Wx (e:QL) (al:List (List UInt8)):Bool:=decide (al.length = e.idents.length) && al.all QX
theorem PLn.closedC:∀ l:List PLn,closedC (l.map PLn.v)
 | []=>trivial
 | x :: r=>⟨⟨trivial,trivial,trivial⟩,PLn.closedC r⟩
def xp (e:QL) (al:List (List UInt8)):V :=
 if JS e = true then
  if Wx e al = true then .tup [.sl 2 ((Jz e al).map PLn.v),V.int 0] else .tup [.sl 2 [],V.int 18]
 else .tup [.sl 2 [],V.int 19]
theorem PLn.closedL:∀ l:List PLn,closedL (l.map PLn.v)
 | []=>by simp [Av.closedL]
 | x :: r=>by
   rw [List.map_cons]
   exact ⟨by simp [PLn.v,V.closed,Av.closedL],PLn.closedL r⟩
theorem anh (e:QL) (al:List (List UInt8)):(xp e al).closed:=by
 unfold xp
 split
 ·split
  ·exact ⟨trivial,trivial,trivial⟩
  ·exact ⟨trivial,trivial,trivial⟩
 ·exact ⟨trivial,trivial,trivial⟩
def lnA (e:QL) (al as:List (List UInt8)) (k:Nat):St:=QZ [(1,.sl 1 (al.map V.str)),(2,.ptr 0 0),(6,V.str (abg e.suites)),(8,.hd 1 0 as.length),(9,.hd 2 0 0),(37,.sl 1 (e.anchors.map V.int)),(38,V.int e.anchors.length),(39,V.int k)] [(0,.box true e.cells),(1,.buf true 1 (as.map V.str)),(2,.buf true 1 [])] 3
def lnB (e:QL) (al as hs:List (List UInt8)) (k:Nat):St:=QZ [(1,.sl 1 (al.map V.str)),(2,.ptr 0 0),(6,V.str (abg e.suites)),(8,.hd 1 0 as.length),(9,.hd 2 0 hs.length),(50,.sl 1 (e.hashes.map V.int)),(51,V.int e.hashes.length),(52,V.int k)] [(0,.box true e.cells),(1,.buf true 1 (as.map V.str)),(2,.buf true 1 (hs.map V.str))] 3
def lnC (e:QL) (al:List (List UInt8)):St:=stL [(1,.sl 1 (al.map V.str)),(2,.ptr 0 0),(6,V.str (abg e.suites)),(8,.sl 1 ((YW e).map V.str)),(9,.sl 1 ((Xn e).map V.str))] [.box true e.cells]
theorem aoE {o:Nat→Option Ob} {br:List Nat} {n:Nat} (w x:List UInt8) (h:o n = some (.buf true 1 [V.str x])) (hn:n ∉ br):conv o br none (.agg [V.str w,.hd n 0 1]) (PLn.v ⟨w,[x]⟩):=by
 simp [PLn.v,conv,Jd,V.str,okB,h,hn]
def lnD (e:QL) (al:List (List UInt8)):St:=QZ [(1,.sl 1 (al.map V.str)),(2,.ptr 0 0),(8,.sl 1 ((YW e).map V.str)),(9,.sl 1 ((Xn e).map V.str)),(14,.hd 5 0 4)]
 [(0,.box true e.cells),(1,.buf true 1 [V.str (Lib.itoa e.least)]),(2,.buf true 1 [V.str (Lib.itoa e.most)]),(3,.buf true 1 [V.str (abg e.suites)]),(4,.buf true 1 [V.str (if e.own = true then [111,119,110] else [99,108,105,101,110,116])]),
  (5,.obuf true 2 [.agg [V.str [108,101,97,115,116],.hd 1 0 1],.agg [V.str [109,111,115,116],.hd 2 0 1],.agg [V.str [115,117,105,116,101,115],.hd 3 0 1],.agg [V.str [111,114,100,101,114],.hd 4 0 1]])] 6
def lnE (e:QL) (al:List (List UInt8)):St:=stL [(1,.sl 1 (al.map V.str)),(2,.ptr 0 0),(8,.sl 1 ((YW e).map V.str)),(9,.sl 1 ((Xn e).map V.str)),(14,.hd 1 0 4)] [.box true e.cells,.buf true 2 ((VI e).map PLn.v)]
def lnF (e:QL) (al:List (List UInt8)) (out:List PLn) (k:Nat):St:=stL [(2,.ptr 0 0),(14,.hd 1 0 out.length),(88,.sl 2 ((aax e al).map PLn.v)),(89,V.int 3),(90,V.int k)] [.box true e.cells,.buf true 2 (out.map PLn.v)]
theorem aqE {o:Nat→Option Ob} {br:List Nat} {B:Option (List Nat)} {ys zs:List V} (h:Jd o br B ys zs):∀ out:List PLn,Jd o br B (out.map PLn.v++ys) (out.map PLn.v++zs)
 | []=>h
 | x :: r=>⟨by simp [PLn.v,conv,Jd,V.str],aqE h r⟩
theorem avG:∀ l:List PLn,ntL (l.map PLn.v)
 | []=>trivial
 | x :: r=>⟨by simp [PLn.v],avG r⟩
theorem axr {o:Nat→Option Ob} {n m:Nat} {w x:List UInt8} {out:List PLn} (h:o n = some (.obuf true 2 (out.map PLn.v++[.agg [V.str w,.hd m 0 1]]))) (hm:o m = some (.buf true 1 [V.str x])):conv o [] none (.hd n 0 (out.length + 1)) (.sl 2 ((out++[PLn.mk w [x]]).map PLn.v)):=by
 simp only [conv]
 refine ⟨trivial,by simp,.inr ⟨true,_,h,?_,avG _,PLn.closedL _⟩⟩
 rw [List.drop_zero,List.take_of_length_le (by simp),List.map_append]
 exact aqE (ys:=[.agg [V.str w,.hd m 0 1]]) (zs:=[PLn.v ⟨w,[x]⟩]) ⟨aoE _ _ hm (by simp),trivial⟩ out
def lnG (e:QL) (al:List (List UInt8)) (out:List PLn) (k:Nat):St:=QZ [(2,.ptr 0 0),(14,.hd 1 0 out.length),(88,.sl 2 ((aax e al).map PLn.v)),(89,V.int 3),(90,V.int k)] [(0,.box true e.cells),(1,.buf true 2 (out.map PLn.v))] 2
def v8 (QW Jf:Nat):List AO:=[fa 62 1 2,ld 63 1 62,cl 64 QW [63],xo 65 (.bslice 1 1 false [vs0] [(0,(.t 64))]),xo 66 (.build [vs0,vn0] [(0,1,(.c (V.str [108,101,97,115,116]))),(1,1,(.t 65))]),fa 67 2 2,ld 68 1 67,cl 69 QW [68],xo 70 (.bslice 1 1 false [vs0] [(0,(.t 69))]),xo 71 (.build [vs0,vn0] [(0,1,(.c (V.str [109,111,115,116]))),(1,1,(.t 70))]),mv 72 6,xo 73 (.bslice 1 1 false [vs0] [(0,(.t 72))]),xo 74 (.build [vs0,vn0] [(0,1,(.c (V.str [115,117,105,116,101,115]))),(1,1,(.t 73))]),fa 75 4 2,ld 76 1 75,xo 77 (.call Jf [(.t 76),(.c (V.str [111,119,110])),(.c (V.str [99,108,105,101,110,116]))]),xo 78 (.bslice 1 1 false [vs0] [(0,(.t 77))]),xo 79 (.build [vs0,vn0] [(0,1,(.c (V.str [111,114,100,101,114]))),(1,1,(.t 78))]),xo 80 (.obslice 4 2 true [vs0,vn0] [(0,(.t 66)),(1,(.t 71)),(2,(.t 74)),(3,(.t 79))]),mv 14 80]
def aao:List (List Nat):=[[],[0],[1],[2],[3],[],[5],[6,2],[7],[8],[],[10],[11],[],[13],[14,7],[15],[16],[4,9,12,17],[18,15,0,1,2,3,4,5,6,7,8,9,10,11,12,13,14,15,16,17,18]]
def vI:OT:=.one 0 (.one 1 (.one 2 (.one 3 (.one 4 (.one 5 (.one 6 (.one 7 (.one 8 (.one 9 (.one 10 (.one 11 (.one 12 (.one 13 (.one 14 (.one 15 (.one 16 (.one 17 (.one 18 (.one 19 .done)))))))))))))))))))
@[go_sem] def vU (QW Jf:Nat):OP:=oN 0 (fa 62 1 2) (oN 1 (ld 63 1 62) (oN 2 (cl 64 QW [63]) (.one 3 false [2] (xo 65 (.bslice 1 1 false [vs0] [(0,(.t 64))])) (oN 4 (xo 66 (.build [vs0,vn0] [(0,1,(.c (V.str [108,101,97,115,116]))),(1,1,(.t 65))])) (oN 5 (fa 67 2 2) (oN 6 (ld 68 1 67) (oN 7 (cl 69 QW [68]) (.one 8 false [7] (xo 70 (.bslice 1 1 false [vs0] [(0,(.t 69))])) (oN 9 (xo 71 (.build [vs0,vn0] [(0,1,(.c (V.str [109,111,115,116]))),(1,1,(.t 70))])) (oN 10 (mv 72 6) (oN 11 (xo 73 (.bslice 1 1 false [vs0] [(0,(.t 72))])) (oN 12 (xo 74 (.build [vs0,vn0] [(0,1,(.c (V.str [115,117,105,116,101,115]))),(1,1,(.t 73))])) (oN 13 (fa 75 4 2) (oN 14 (ld 76 1 75) (oN 15 (xo 77 (.call Jf [(.t 76),(.c (V.str [111,119,110])),(.c (V.str [99,108,105,101,110,116]))])) (.one 16 false [15] (xo 78 (.bslice 1 1 false [vs0] [(0,(.t 77))])) (oN 17 (xo 79 (.build [vs0,vn0] [(0,1,(.c (V.str [111,114,100,101,114]))),(1,1,(.t 78))])) (.one 18 false [16,15,11,8,7,3,2] (xo 80 (.obslice 4 2 true [vs0,vn0] [(0,(.t 66)),(1,(.t 71)),(2,(.t 74)),(3,(.t 79))])) (oN 19 (mv 14 80) .done)))))))))))))))))))
instance (QW Jf:Nat):RG [] vI (vU QW Jf) (v8 QW Jf) aao 20 (fun _=>true):=⟨rfl,by kernel_rfl,by kernel_rfl⟩
def yC (QF JB Wb V0 QW jO Jf Yh:Nat):AC:=Qa [1,2] (.reg [xo 2 (.box true 9 (.t 0)),xo 4 (.mknil 2),mc 5 (V.int 0)]) (Qa [1,2] (Qa [1,2,19] (.reg [xo 17 (.load true 9 (.t 2)),cl 18 QF [17],bc 19 .neq 18 (V.int 0)]) (.cond (.t 19) (Qa [4,5] (.reg [xo 4 (.mknil 2),mc 5 (V.int 19)]) .ret) .skip)) (Qa [1,2] (Qa [1,2,29] (.reg [mv 20 1,ln 21 20,fa 22 5 2,ld 23 1 22,ln 24 23,bn 25 .neq 21 24,mv 26 25,mg 27 1 26 false,xg 28 (.call JB [(.t 27),(.c (.clo Wb []))]) 26 false,xo 29 (.pick (.t 26) (.c (V.bool true)) (.t 28))]) (.cond (.t 29) (Qa [4,5] (.reg [xo 4 (.mknil 2),mc 5 (V.int 18)]) .ret) .skip)) (Qa [1,2,6] (.reg [fa 31 3 2,ld 32 1 31,cl 33 V0 [32],mv 30 33,ex 34 30 0,ex 35 30 1,mv 6 34,mv 7 35]) (Qa [1,2,6,8,9] (.reg [xo 8 (.mknil 1),xo 9 (.mknil 1)]) (Qa [1,2,6,8,9] (Qa [1,2,6,8,9,37,38,39] (.reg [fa 36 6 2,ld 37 1 36,ln 38 37,mc 39 (V.int 0)]) (.block 0 (JH [1,2,6,8,9,37,38,39] (Qa [1,2,6,8,9,37,38,39,40] (.reg [bn 40 .lss 39 38]) (Qa [1,2,6,8,9,37,38,39] (.cond (.t 40) .skip (.exit 0)) (Qa [1,2,6,8,9,37,38,39] (.block 1 (Qa [1,2,6,8,9,11,37,38,39] (.reg [ia 41 1 37 39,ld 42 1 41,mv 11 42]) (.reg [mv 43 8,mv 44 11,cl 45 QW [44],xo 46 (.bslice 1 1 false [vs0] [(0,(.t 45))]),xo 47 (.append 1 16 [vs0] (.t 43) (.t 46)),mv 8 47]))) (.reg [bc 48 .add 39 (V.int 1),mv 39 48]))))))) (Qa [1,2,6,8,9] (Qa [1,2,6,8,9,50,51,52] (.reg [fa 49 7 2,ld 50 1 49,ln 51 50,mc 52 (V.int 0)]) (.block 2 (JH [1,2,6,8,9,50,51,52] (Qa [1,2,6,8,9,50,51,52,53] (.reg [bn 53 .lss 52 51]) (Qa [1,2,6,8,9,50,51,52] (.cond (.t 53) .skip (.exit 2)) (Qa [1,2,6,8,9,50,51,52] (.block 3 (Qa [1,2,6,8,9,13,50,51,52] (.reg [ia 54 1 50 52,ld 55 1 54,mv 13 55]) (.reg [mv 56 9,mv 57 13,cl 58 jO [57],xo 59 (.bslice 1 1 false [vs0] [(0,(.t 58))]),xo 60 (.append 1 16 [vs0] (.t 56) (.t 59)),mv 9 60]))) (.reg [bc 61 .add 52 (V.int 1),mv 52 61]))))))) (Qa [1,2,8,9,14] (yh [] vI (vU QW Jf) (v8 QW Jf) aao) (Qa [2,14] (Qa [2,14,88,89,90] (.reg [mv 81 1,cl 82 Yh [81],xo 83 (.build [vs0,vn0] [(0,1,(.c (V.str [107,101,121,115]))),(1,1,(.t 82))]),mv 84 8,xo 85 (.build [vs0,vn0] [(0,1,(.c (V.str [97,110,99,104,111,114,115]))),(1,1,(.t 84))]),mv 86 9,xo 87 (.build [vs0,vn0] [(0,1,(.c (V.str [104,97,115,104,101,115]))),(1,1,(.t 86))]),xo 88 (.obslice 3 2 true [vs0,vn0] [(0,(.t 83)),(1,(.t 85)),(2,(.t 87))]),ln 89 88,mc 90 (V.int 0)]) (.block 4 (JH [2,14,88,89,90] (Qa [2,14,88,89,90,91] (.reg [bn 91 .lss 90 89]) (Qa [2,14,88,89,90] (.cond (.t 91) .skip (.exit 4)) (Qa [2,14,88,89,90] (.block 5 (Qa [2,14,16,88,89,90] (.reg [ia 92 2 88 90,xo 93 (.load true 2 (.t 92)),xo 16 (.alloc [.val vs0,.nil 1]),xs 2 16 93]) (Qa [2,14,16,88,89,90,97] (.reg [fa 94 1 16,ld 95 1 94,ln 96 95,bc 97 .gtr 96 (V.int 0)]) (.cond (.t 97) (.reg [mv 98 14,xo 99 (.load true 2 (.t 16)),xo 100 (.obslice 1 2 true [vs0,vn0] [(0,(.t 99))]),xo 101 (.append 2 40 [vs0,vn0] (.t 98) (.t 100)),mv 14 101]) .skip)))) (.reg [bc 102 .add 90 (V.int 1),mv 90 102]))))))) (Qa [4,5] (.reg [mv 103 14,fa 104 8 2,ld 105 1 104,xo 106 (.call Jf [(.t 105),(.c (V.str [121,101,115])),(.c (V.str [110,111]))]),xo 107 (.bslice 1 1 false [vs0] [(0,(.t 106))]),xo 108 (.build [vs0,vn0] [(0,1,(.c (V.str [102,97,108,108,98,97,99,107]))),(1,1,(.t 107))]),xo 109 (.obslice 1 2 true [vs0,vn0] [(0,(.t 108))]),xo 110 (.append 2 40 [vs0,vn0] (.t 103) (.t 109)),mv 4 110,mc 5 (V.int 0)]) .ret))))))))) def r_endpoint_lines:List Jl:=[.tmp 4,.tmp 5]
def Ud (Γ:Env) (f:Nat):Prop:=∀ (e:QL) (al:List (List UInt8)) (sm:e.Sm) (ha:al.length < 2 ^ 30) (hn:∀ x∈al,x.length < 2 ^ 60),EvC Γ f [e.v,.sl 1 (al.map V.str)] (xp e al)
attribute [local go_sem] QL.cells lnA lnB lnG QZ XI in
theorem aiE {Γ:Env} {f QF JB Wb V0 QW jO Jf Yh:Nat} (h:Has Γ.P f 111 (yC QF JB Wb V0 QW jO Jf Yh) r_endpoint_lines) (z0:WR Γ QF) (z1:Yb Γ JB) (z2:Kq Γ Wb) (z3:qw Γ V0) (z4:vf Γ QW) (z5:vo Γ jO) (z6:qG Γ Jf) (z7:Xa Γ Yh):Ud Γ f:=by
 intro e al sm ha hn
 refine QV h zsi (anh _ _) fun C hC hm=>?_
 subst hC
 unfold yC
 have h0:=(z0 e sm).b
 have hp:=(z3 e.suites sm.hs).b
 have hany:=(z1 al Wb [] (fun x=>!QX x) (fun x hx=>z2 x (hn x hx)) trivial (by omega)).b
 by_cases hck:JS e = true
 ·rw [if_pos hck] at h0
  by_cases hal:Wx e al = true
  ·have hB:=hck
   simp only [JS,apF,anS,apE,Bool.and_eq_true,decide_eq_true_eq] at hB
   rw [aie hB.1.2.2.2.2] at hp
   have hA:=hal
   simp only [Wx,Bool.and_eq_true,decide_eq_true_eq] at hA
   have hav:al.any (fun x=>!QX x) = false:=by
    rw [List.any_eq_false];intro x hx;simpa using (List.all_eq_true.1 hA.2 x hx)
   rw [hav] at hany
   have lma:(al.map V.str).length = al.length:=List.length_map _
   have lmi:(e.idents.map QI.v).length = e.idents.length:=List.length_map _
   have e0:(((al.length:Nat):Int) != ((e.idents.length:Nat):Int)) = false:=by simp [hA.1]
   simp only [QL.v,QL.cells] at h0 ⊢
   (have zx:=And.intro lma (And.intro lmi e0));refine zgo ?_;repeat' first|exact zt|apply zan|intro hc
   have lmA:(e.anchors.map V.int).length = e.anchors.length:=List.length_map _
   have lmH:(e.hashes.map V.int).length = e.hashes.length:=List.length_map _
   have hkey:=hB.2.2.2.1
   rw [lmA]
   refine QY (ι:=Nat) (fun k=>k≤e.anchors.length) (fun k=>lnA e al ((e.anchors.take k).map Lib.itoa) k) (fun k=>e.anchors.length - k) 0 (by omega) (Qk [(1,24000),(2,25000)]) (QR [(1,24000),(2,25000)] (by simp only [go_sem,zwl,lnA,QL.cells]<;>exact zcc) (by simp only [go_sem,zwl,lnA,QL.cells]<;>exact zcc) (by simp [Qk]) (by simp;omega) (by omega)) fun k hk K' hL=>?_
   rcases hd:e.anchors.drop k with _|⟨x,r⟩
   ·have hkl:=Qs hd
    have e1:decide ((k:Int) < ((e.anchors.length:Nat):Int)) = false:=by simp;omega
    have e3:e.anchors.take k = e.anchors:=List.take_of_length_le hkl
    rw [e3]
    show AWp _ _ _ (lnA e al (YW e) k) _ _ _
    (have zx:=e1);refine zgo ?_;repeat' first|exact zt|apply zan|intro hc
    rw [lmH]
    refine QY (ι:=Nat) (fun k=>k≤e.hashes.length) (fun k=>lnB e al (YW e) ((e.hashes.take k).map fun n=>(Jk n).name) k) (fun k=>e.hashes.length - k) 0 (Nat.zero_le _) (Qk []) (QR [] (by simp only [go_sem,zwl,lnB,QL.cells]<;>exact zcc) (by simp only [go_sem,zwl,lnB,QL.cells]<;>exact zcc) (by simp [Qk]) (by simp) (by omega)) fun j hj K2 hL2=>?_
    rcases hdj:e.hashes.drop j with _|⟨x,r⟩
    ·have hjl:=Qs hdj
     have e2:decide ((j:Int) < ((e.hashes.length:Nat):Int)) = false:=by simp;omega
     have e4:e.hashes.take j = e.hashes:=List.take_of_length_le hjl
     rw [e4]
     show AWp _ _ _ (lnB e al (YW e) (Xn e) j) _ _ _
     refine Ve fun K' hK=>?_
     simp (maxSteps:=1000000) only [go_sem,lnB,QZ,QL.cells,e2]
     refine hK _ ?_
     clear hK
     clear K'
     (try simp only [go_sem])
     refine VC ?_
     refine xK ⟨false,rfl,fun h=>Bool.noConfusion h,fun _=>?_⟩
     refine aeG ?_
     simp only [go_sem]
     refine ajg (s1:=lnC e al) (VJ [0] none (fun p hp=>?_) ?_ (by simp) (by rw [hm];rfl)) ?_
     ·simp only [List.mem_cons,List.not_mem_nil,or_false] at hp
      rcases hp with rfl|rfl|rfl|rfl|rfl
      ·show conv _ _ _ (.sl 1 (al.map V.str)) (.sl 1 (al.map V.str))
       simp [conv]
      ·show conv _ _ _ (.ptr 0 0) (.ptr 0 0)
       simp [conv]
      ·show conv _ _ _ (V.str (abg e.suites)) (V.str (abg e.suites))
       simp [V.str,conv]
      ·show conv _ _ _ (.hd 1 0 (YW e).length) (.sl 1 ((YW e).map V.str))
       simp only [conv]
       exact ⟨trivial,by simp,.inl ⟨true,_,rfl,by rw [List.drop_zero,XI]⟩⟩
      ·show conv _ _ _ (.hd 2 0 (Xn e).length) (.sl 1 ((Xn e).map V.str))
       simp only [conv]
       exact ⟨trivial,by simp,.inl ⟨true,_,rfl,by rw [List.drop_zero,XI]⟩⟩
     ·exact ⟨⟨_,rfl,fun h=>h,by simp [QL.cells,Jd,conv,V.str,V.int,V.bool]⟩,trivial⟩
     ·clear hL hL2
      simp only [lnC,stL]
      have hm1:=hB.1.2.1
      have hm2:=hB.1.2.2.1
      have hm3:=hB.1.2.2.2.1
      have hI1:=(z4 e.least (by omega) (by omega)).b
      have hI2:=(z4 e.most (by omega) (by omega)).b
      have hC1:=(z6 e.own [111,119,110] [99,108,105,101,110,116]).b
      have hC2:=(z6 e.fall [121,101,115] [110,111]).b
      have hCl:=(z7 al (by omega)).b
      refine YO (ι:=Unit) (fun _=>True) (fun _=>lnD e al) (fun K' hK'=>?_) (fun _ _=>?_)
      ·refine zgo ?_;repeat' first|exact zt|apply zan|intro hc
       all_goals exact hK' _ () (Qk [(1,3001),(2,8001),(3,11001),(4,16001),(5,18001)]) trivial (QR [(1,3001),(2,8001),(3,11001),(4,16001),(5,18001)] (by simp only [go_sem,zwl,lnD,QZ,QL.cells]<;>exact zcc) (by simp only [go_sem,zwl,lnD,QZ,QL.cells]<;>exact zcc) (by simp [Qk]) (by simp [lnD,QZ];omega) (by omega))
      ·
       refine ajg (s1:=lnE e al) (VJ [0,5] none (fun p hp=>?_) ?_ (by simp) (by rw [hm];rfl)) ?_
       ·simp only [List.mem_cons,List.not_mem_nil,or_false] at hp
        rcases hp with rfl|rfl|rfl|rfl|rfl
        ·show conv _ _ _ (.sl 1 (al.map V.str)) (.sl 1 (al.map V.str))
         simp [conv]
        ·show conv _ _ _ (.ptr 0 0) (.ptr 0 0)
         simp [conv]
        ·show conv _ _ _ (.sl 1 ((YW e).map V.str)) (.sl 1 ((YW e).map V.str))
         simp [conv]
        ·show conv _ _ _ (.sl 1 ((Xn e).map V.str)) (.sl 1 ((Xn e).map V.str))
         simp [conv]
        ·show conv _ _ _ (.hd 5 0 4) (.hd 1 0 4)
         simp [conv]
       ·refine ⟨⟨_,rfl,fun h=>h,by simp [QL.cells,Jd,conv,V.str,V.int,V.bool]⟩,⟨_,rfl,fun h=>h,rfl,?_,?_⟩,trivial⟩
        ·refine ⟨aoE _ _ rfl (by decide),aoE _ _ rfl (by decide),aoE _ _ rfl (by decide),aoE _ _ rfl (by decide),trivial⟩
        ·exact PLn.closedC _
       ·simp only [lnE,stL]
        refine zgo ?_;repeat' first|exact zt|apply zan|intro hc
        refine ajg (s1:=lnF e al (VI e) 0) (VJ [0,1] none (fun p hp=>?_) ?_ (by simp) (by rw [hm];rfl)) ?_
        ·simp only [List.mem_cons,List.not_mem_nil,or_false] at hp
         rcases hp with rfl|rfl|rfl|rfl|rfl
         ·show conv _ _ _ (.ptr 0 0) (.ptr 0 0)
          simp [conv]
         ·show conv _ _ _ (.hd 1 0 4) (.hd 1 0 4)
          simp [conv]
         ·show conv _ _ _ (.hd 7002 0 3) (.sl 2 ((aax e al).map PLn.v))
          simp only [conv]
          refine ⟨trivial,by decide,.inr ⟨true,_,rfl,?_,?_,?_⟩⟩
          ·simp [aax,PLn.v,Jd,conv,V.str]
          ·simp [aax,PLn.v,ntL]
          ·simp [aax,PLn.v,V.closed,closedL]
         ·show conv _ _ _ (V.int 3) (V.int 3)
          simp [conv,V.int]
         ·show conv _ _ _ (V.int 0) (V.int 0)
          simp [conv,V.int]
        ·exact ⟨⟨_,rfl,fun h=>h,by simp [QL.cells,Jd,conv,V.str,V.int,V.bool]⟩,⟨_,rfl,fun h=>h,rfl,rfl⟩,trivial⟩
        ·refine QY (ι:=Nat) (fun k=>k≤3) (fun k=>lnG e al (VI e++((aax e al).take k).filter JQ) k) (fun k=>3 - k) 0 (Nat.zero_le _) (Qk []) (QR [] (by simp only [go_sem,zwl,lnF,stL,lnG,QL.cells]<;>exact zcc) (by simp only [go_sem,zwl,lnF,stL,lnG,QL.cells]<;>exact zcc) (by simp [Qk]) (by simp [lnF,stL]) (by omega)) fun i hi K3 hL3=>?_
         by_cases hie:i = 3
         ·subst hie
          have e5:(aax e al).take 3 = aax e al:=rfl
          rw [e5]
          have hrs:xp e al = .tup [.sl 2 ((Jz e al).map PLn.v),V.int 0]:=by rw [xp,if_pos hck,if_pos hal]
          have hll:Jz e al = (VI e++(aax e al).filter JQ)++[⟨[102,97,108,108,98,97,99,107],[if e.fall = true then [121,101,115] else [110,111]]⟩]:=rfl
          have hol:(VI e++(aax e al).filter JQ).length≤7:=by
           rw [List.length_append];have:=List.length_filter_le JQ (aax e al);simp only [VI,aax,List.length_cons,List.length_nil] at *;omega
          rw [hrs,hll]
          generalize VI e++(aax e al).filter JQ = out at *
          refine zgo ?_;repeat' first|exact zt|apply zan|intro hc
          all_goals exact Qn _ rfl ⟨axr rfl rfl,rfl,trivial⟩
         ·obtain ⟨l,hl⟩:∃ l,(aax e al)[i]? = some l:=⟨(aax e al)[i]'(by show i < 3;omega),List.getElem?_eq_getElem _⟩
          have hlv:((aax e al).map PLn.v)[i]? = some (.agg [V.str l.word,.sl 1 (l.vals.map V.str)]):=by rw [List.getElem?_map,hl];rfl
          have e5:(aax e al).take (i + 1) = (aax e al).take i++[l]:=by rw [List.take_add_one,hl];rfl
          have hw:=Qj (k:=i) (by omega)
          have e6:decide ((i:Int) < 3) = true:=decide_eq_true (by omega)
          have lml:(l.vals.map V.str).length = l.vals.length:=List.length_map _
          have hol:(VI e++((aax e al).take i).filter JQ).length≤7:=by
           rw [List.length_append];have:=List.length_filter_le JQ ((aax e al).take i);simp only [VI,List.length_cons,List.length_nil,List.length_take] at *;omega
          by_cases hf:JQ l = true
          ·have hns:VI e++((aax e al).take (i + 1)).filter JQ = (VI e++((aax e al).take i).filter JQ)++[l]:=by
            rw [e5,List.filter_append,List.filter_cons_of_pos hf,List.filter_nil,List.append_assoc]
           generalize VI e++((aax e al).take i).filter JQ = out at *
           have e7:decide (((l.vals.length:Nat):Int) > 0) = true:=hf
           have hb:List.map PLn.v out++[.agg [V.str l.word,.sl 1 (l.vals.map V.str)]] = (out++[l]).map PLn.v:=by rw [List.map_append];rfl
           have hln:out.length + 1 = (out++[l]).length:=by simp
           (have zx:=And.intro hlv (And.intro e6 (And.intro e7 (And.intro lml (And.intro hw (And.intro hb hln))))));refine zgo ?_;repeat' first|exact zt|apply zan|intro hc
           all_goals
            refine hL3 _ (i + 1) (Qk [(1,12002)]) (by omega) (by omega) ?_
            rw [hns]
            exact QR [(1,12002)] (by simp only [go_sem,zwl,lnG,QZ,QL.cells];first|done|exact PLn.closedC _|trace_state) (by simp only [go_sem,zwl,lnG,QZ,QL.cells];first|done|exact PLn.closedC _|trace_state) (by simp [Qk]) (by simp [lnG,QZ];omega) (by omega)
          ·have hns:VI e++((aax e al).take (i + 1)).filter JQ = VI e++((aax e al).take i).filter JQ:=by
            rw [e5,List.filter_append,List.filter_cons_of_neg (by simpa using hf),List.filter_nil,List.append_nil]
           generalize VI e++((aax e al).take i).filter JQ = out at *
           have e7:decide (((l.vals.length:Nat):Int) > 0) = false:=by simpa [JQ] using hf
           (have zx:=And.intro hlv (And.intro e6 (And.intro e7 (And.intro lml hw))));refine zgo ?_;repeat' first|exact zt|apply zan|intro hc
           all_goals first
            | (refine hL3 _ (i + 1) (Qk []) (by omega) (by omega) ?_
               rw [hns]
               exact QR [] (by simp only [go_sem,zwl,lnG,QZ,QL.cells]<;>exact zcc) (by simp only [go_sem,zwl,lnG,QZ,QL.cells]<;>exact zcc) (by simp [Qk]) (by simp [lnG,QZ]) (by omega))
    ·obtain ⟨hj',hget,hr⟩:=Ql hdj
     have hhl:=sm.hh
     have hw:=Qj (k:=j) (by omega)
     have e2:decide ((j:Int) < ((e.hashes.length:Nat):Int)) = true:=by simp;omega
     have hns:(e.hashes.take (j + 1)).map (fun n=>(Jk n).name) = (e.hashes.take j).map (fun n=>(Jk n).name)++[(Jk x).name]:=by rw [List.take_add_one,hget,List.map_append];rfl
     have hnl:((e.hashes.take j).map fun n=>(Jk n).name).length≤2 ^ 30:=by simp;omega
     have hnm:=(z5 x).b
     generalize (e.hashes.take j).map (fun n=>(Jk n).name) = ns at *
     have hb:List.map V.str ns++[V.str (Jk x).name] = (ns++[(Jk x).name]).map V.str:=by rw [List.map_append];rfl
     have hln:ns.length + 1 = (ns++[(Jk x).name]).length:=by simp
     (have zx:=And.intro e2 (And.intro hw (And.intro hget (And.intro hb hln))));refine zgo ?_;repeat' first|exact zt|apply zan|intro hc
     all_goals first
      | (refine hL2 _ (j + 1) (Qk [(2,8003)]) (by omega) (by omega) ?_
         rw [hns]
         exact QR [(2,8003)] (by simp only [go_sem,zwl,lnB,QL.cells]<;>exact zcc) (by simp only [go_sem,zwl,lnB,QL.cells]<;>exact zcc) (by simp [Qk]) (by simp;omega) (by omega))
   ·obtain ⟨hk',hget,hr⟩:=Ql hd
    have hw:=Qj (k:=k) (by omega)
    have e1:decide ((k:Int) < ((e.anchors.length:Nat):Int)) = true:=by simp;omega
    have hns:(e.anchors.take (k + 1)).map Lib.itoa = (e.anchors.take k).map Lib.itoa++[Lib.itoa x]:=by rw [List.take_add_one,hget,List.map_append];rfl
    have hnl:((e.anchors.take k).map Lib.itoa).length≤16:=by simp;omega
    have hxr:=List.all_eq_true.1 hB.2.2.2.1 x (List.mem_of_getElem? hget)
    simp only [aeH,Bool.and_eq_true,decide_eq_true_eq] at hxr
    have hit:=(z4 x (by omega) (by omega)).b
    generalize (e.anchors.take k).map Lib.itoa = ns at *
    have hb:List.map V.str ns++[V.str (Lib.itoa x)] = (ns++[Lib.itoa x]).map V.str:=by rw [List.map_append];rfl
    have hln:ns.length + 1 = (ns++[Lib.itoa x]).length:=by simp
    (have zx:=And.intro e1 (And.intro hw (And.intro hget (And.intro hb hln))));refine zgo ?_;repeat' first|exact zt|apply zan|intro hc
    all_goals first
     | (refine hL _ (k + 1) (Qk [(1,8003)]) (by omega) (by omega) ?_
        rw [hns]
        exact QR [(1,8003)] (by simp only [go_sem,zwl,lnA,QL.cells]<;>exact zcc) (by simp only [go_sem,zwl,lnA,QL.cells]<;>exact zcc) (by simp [Qk]) (by simp;omega) (by omega))
  ·have hrs:xp e al = .tup [.sl 2 [],V.int 18]:=by rw [xp,if_pos hck,if_neg hal]
   rw [hrs]
   have lma:(al.map V.str).length = al.length:=List.length_map _
   have lmi:(e.idents.map QI.v).length = e.idents.length:=List.length_map _
   simp only [QL.v,QL.cells] at h0 ⊢
   by_cases hl:al.length = e.idents.length
   ·have e0:(((al.length:Nat):Int) != ((e.idents.length:Nat):Int)) = false:=by simp [hl]
    have hav:al.any (fun x=>!QX x) = true:=by
     cases hany2:al.any (fun x=>!QX x) with
     | true=>rfl
     | false =>
       refine absurd ?_ hal
       simp only [Wx,Bool.and_eq_true,decide_eq_true_eq]
       exact ⟨hl,List.all_eq_true.2 fun x hx=>by simpa using List.any_eq_false.1 hany2 x hx⟩
    rw [hav] at hany
    (have zx:=And.intro lma (And.intro lmi e0));exact zg
   ·have e0:(((al.length:Nat):Int) != ((e.idents.length:Nat):Int)) = true:=by simp;omega
    (have zx:=And.intro lma (And.intro lmi e0));exact zg
 ·rw [if_neg hck] at h0
  have e1:xp e al = .tup [.sl 2 [],V.int 19]:=by rw [xp,if_neg hck]
  rw [e1]
  simp only [QL.v,QL.cells] at h0 ⊢
  exact zg
def aeI (ws:List (List UInt8)):List UInt8:=([32]:List UInt8).intercalate ws
def abD (n:List UInt8) (l:PLn):Vq:=⟨n,l.word,aeI l.vals,0⟩
def akj (e:QL) (al:List (List UInt8)):List Vq:=(Jz e al).map (abD e.name)
def qS (e:QL) (al:List (List UInt8)):V :=
 if JS e = true then
  if Wx e al = true then
   if e.suites = [] then .tup [.sl 4 [],V.int 18] else .tup [.sl 4 ((akj e al).map Vq.v),V.int 0]
  else .tup [.sl 4 [],V.int 18]
 else .tup [.sl 4 [],V.int 19]
theorem agK (e:QL) (al:List (List UInt8)):(qS e al).closed:=by
 unfold qS
 split
 ·split
  ·split<;>exact ⟨trivial,trivial,trivial⟩
  ·exact ⟨trivial,trivial,trivial⟩
 ·exact ⟨trivial,trivial,trivial⟩
theorem att (m:Nat):∀ ws:List (List UInt8),(∀ w∈ws,w.length≤m)→(aeI ws).length≤(m + 1) * ws.length
 | [],_=>by simp [aeI,List.intercalate]
 | x :: r,h=>by
   unfold aeI
   rw [ady]
   have hx:=h x (by simp)
   have hr:∀ r:List (List UInt8),(∀ w∈r,w.length≤m)→((r.map fun y=>(32:UInt8) :: y).flatten).length≤(m + 1) * r.length:=by
    intro r
    induction r with
    | nil=>intro _;simp
    | cons y t ih =>
      intro h
      have h1:=h y (by simp)
      have h2:=ih fun w hw=>h w (by simp [hw])
      simp only [List.map_cons,List.flatten_cons,List.length_append,List.length_cons,Nat.mul_add,Nat.mul_one] at h2 ⊢
      omega
   have h3:=hr r fun w hw=>h w (by simp [hw])
   simp only [List.length_append,List.length_cons,Nat.mul_add,Nat.mul_one] at h3 ⊢
   omega
theorem wq {e:QL} {al:List (List UInt8)} (sm:e.Sm) (hck:JS e = true) (hal:Wx e al = true):∀ l∈Jz e al,l.vals.length < 2 ^ 30∧∀ x∈l.vals,x.length≤700:=by
 have hB:=hck
 simp only [JS,apF,anS,apE,Bool.and_eq_true,decide_eq_true_eq] at hB
 have hA:=hal
 simp only [Wx,Bool.and_eq_true,decide_eq_true_eq] at hA
 have hs16:=ai9 hB.1.2.2.2.2
 have hjl:=aoI e.suites
 have hm1:=hB.1.2.1
 have hm2:=hB.1.2.2.1
 have hm3:=hB.1.2.2.2.1
 have i1:=Lib.itoa_length_le e.least (by omega) (by omega)
 have i2:=Lib.itoa_length_le e.most (by omega) (by omega)
 have hal2:∀ x∈al,x.length≤32:=fun x hx=>by
  have:=List.all_eq_true.1 hA.2 x hx
  simp only [QX,Bool.and_eq_true,decide_eq_true_eq] at this
  omega
 have hi:=sm.hi
 have hh:=sm.hh
 have hha:=sm.ha
 intro l hl
 simp only [Jz,List.mem_append,List.mem_filter,VI,aax,List.mem_cons,List.not_mem_nil,or_false] at hl
 rcases hl with ((rfl|rfl|rfl|rfl)|⟨rfl|rfl|rfl,_⟩)|rfl
 ·refine ⟨by simp,fun x hx=>?_⟩
  simp only [List.mem_singleton] at hx
  subst hx;omega
 ·refine ⟨by simp,fun x hx=>?_⟩
  simp only [List.mem_singleton] at hx
  subst hx;omega
 ·refine ⟨by simp,fun x hx=>?_⟩
  simp only [List.mem_singleton] at hx
  subst hx;omega
 ·refine ⟨by simp,fun x hx=>?_⟩
  simp only [List.mem_singleton] at hx
  subst hx;split<;>simp
 ·exact ⟨by show al.length < _;omega,fun x hx=>by have:=hal2 x hx;omega⟩
 ·refine ⟨by simp only [YW,List.length_map];omega,fun x hx=>?_⟩
  obtain ⟨n,hn,rfl⟩:=List.mem_map.1 hx
  have hk:=List.all_eq_true.1 hB.2.2.2.1 n hn
  simp only [aeH,Bool.and_eq_true,decide_eq_true_eq] at hk
  have:=Lib.itoa_length_le n (by omega) (by omega)
  omega
 ·refine ⟨by simp only [Xn,List.length_map];omega,fun x hx=>?_⟩
  obtain ⟨n,hn,rfl⟩:=List.mem_map.1 hx
  have:=atQ n
  omega
 ·refine ⟨by simp,fun x hx=>?_⟩
  simp only [List.mem_singleton] at hx
  subst hx;split<;>simp
def tsA (e:QL) (ls:List PLn) (out:List Vq) (k:Nat):St:=QZ [(2,.ptr 0 0),(8,.hd 1 0 out.length),(28,.sl 2 (ls.map PLn.v)),(29,V.int ls.length),(30,V.int k)] [(0,.box true e.cells),(1,.buf true 4 (out.map Vq.v))] 2
@[go_sem] def Wi (Qv:Nat):AO:=xo 41 (.call Qv [(.t 40),(.c (V.str [32]))])
@[go_sem] def UF:AO:=xo 42 (.build [vs0,vs0,vs0,vi0] [(0,1,(.t 36)),(1,1,(.t 38)),(2,1,(.t 41))])
@[go_sem] def UE:AO:=xo 43 (.bslice 1 4 true [vs0,vs0,vs0,vi0] [(0,(.t 42))])
@[go_sem] def Ue:AO:=xo 44 (.append 4 56 [vs0,vs0,vs0,vi0] (.t 34) (.t 43))
def K4 (Qv:Nat):List AO:=[mv 34 8,fa 35 0 2,ld 36 1 35,fa 37 0 10,ld 38 1 37,fa 39 1 10,ld 40 1 39,Wi Qv,UF,UE,Ue,mv 8 44]
def qp:List (List Nat):=[[],[],[1],[],[3],[],[5],[6],[2,4,7],[8],[0,9,7],[10,10,0,1,2,3,4,5,6,7,8,9,10]]
def KQ:OT:=.one 0 (.one 1 (.one 3 (.one 5 (.or 2 (.or 4 (.one 6 (.one 7 (.one 8 (.one 9 (.one 10 (.one 11 .done)))))) (.or 6 (.one 4 (.one 7 (.one 8 (.one 9 (.one 10 (.one 11 .done)))))) .done)) (.or 4 (.or 2 (.one 6 (.one 7 (.one 8 (.one 9 (.one 10 (.one 11 .done)))))) (.or 6 (.one 2 (.one 7 (.one 8 (.one 9 (.one 10 (.one 11 .done)))))) .done)) (.or 6 (.one 7 (.or 2 (.one 4 (.one 8 (.one 9 (.one 10 (.one 11 .done))))) (.or 4 (.one 2 (.one 8 (.one 9 (.one 10 (.one 11 .done))))) .done))) .done))))))
@[go_sem] def Wk (Qv:Nat):OP:=oN 8 UF (.one 9 false [7] UE (.one 10 true [9,7] Ue (oN 11 (mv 8 44) .done)))
@[go_sem] def Wj (Qv:Nat):OP:=oN 7 (Wi Qv) (Wk Qv)
@[go_sem] def UM (Qv:Nat):OP:=.one 6 true [] (ld 40 1 39) (Wj Qv)
@[go_sem] def KU (Qv:Nat):OP:=oN 0 (mv 34 8) (oN 1 (fa 35 0 2) (oN 3 (fa 37 0 10) (oN 5 (fa 39 1 10) (.or 2 true [] (ld 36 1 35) (.or 4 true [] (ld 38 1 37) (UM Qv) (.or 6 true [] (ld 40 1 39) (.one 4 true [] (ld 38 1 37) (Wj Qv)) .done)) (.or 4 true [] (ld 38 1 37) (.or 2 true [] (ld 36 1 35) (UM Qv) (.or 6 true [] (ld 40 1 39) (.one 2 true [] (ld 36 1 35) (Wj Qv)) .done)) (.or 6 true [] (ld 40 1 39) (oN 7 (Wi Qv) (.or 2 true [] (ld 36 1 35) (.one 4 true [] (ld 38 1 37) (Wk Qv)) (.or 4 true [] (ld 38 1 37) (.one 2 true [] (ld 36 1 35) (Wk Qv)) .done))) .done))))))
instance (Qv:Nat):RG [2,4,6] KQ (KU Qv) (K4 Qv) qp 12 (fun _=>false):=⟨rfl,by kernel_rfl,by kernel_rfl⟩
def VS (Yt Qv:Nat):AC:=Qa [1,2] (.reg [xo 2 (.box true 9 (.t 0)),xo 4 (.mknil 4),mc 5 (V.int 0)]) (Qa [2,6,7] (.reg [xo 12 (.load true 9 (.t 2)),mv 13 1,cl 14 Yt [12,13],mv 11 14,ex 15 11 0,ex 16 11 1,mv 6 15,mv 7 16]) (Qa [2,6,7] (Qa [2,6,7,24] (.reg [mv 17 7,bc 18 .eql 17 (V.int 0),mv 19 18,xg 20 (.faddr 3 (.t 2)) 19 true,xg 21 (.load false 1 (.t 20)) 19 true,xg 22 (.lenL (.t 21)) 19 true,xg 23 (.bin .eql (.t 22) (.c (V.int 0))) 19 true,xo 24 (.pick (.t 19) (.t 23) (.c (V.bool false)))]) (.cond (.t 24) (.reg [mc 7 (V.int 18)]) .skip)) (Qa [2,6] (Qa [2,6,7,26] (.reg [mv 25 7,bc 26 .neq 25 (V.int 0)]) (.cond (.t 26) (Qa [4,5] (.reg [mv 27 7,xo 4 (.mknil 4),mv 5 27]) .ret) .skip)) (Qa [2,6,8] (.reg [xo 8 (.mknil 4)]) (Qa [8] (Qa [2,8,28,29,30] (.reg [mv 28 6,ln 29 28,mc 30 (V.int 0)]) (.block 0 (JH [2,8,28,29,30] (Qa [2,8,28,29,30,31] (.reg [bn 31 .lss 30 29]) (Qa [2,8,28,29,30] (.cond (.t 31) .skip (.exit 0)) (Qa [2,8,28,29,30] (.block 1 (Qa [2,8,10,28,29,30] (.reg [ia 32 2 28 30,xo 33 (.load true 2 (.t 32)),xo 10 (.alloc [.val vs0,.nil 1]),xs 2 10 33]) (yh [2,4,6] KQ (KU Qv) (K4 Qv) qp))) (.reg [bc 45 .add 30 (V.int 1),mv 30 45]))))))) (Qa [4,5] (.reg [mv 46 8,mv 4 46,mc 5 (V.int 0)]) .ret)))))) def r_endpoint_ToSettings:List Jl:=[.tmp 4,.tmp 5]
def Vx (Γ:Env) (f:Nat):Prop:=∀ (e:QL) (al:List (List UInt8)) (sm:e.Sm) (ha:al.length < 2 ^ 30) (hn:∀ x∈al,x.length < 2 ^ 60),EvC Γ f [e.v,.sl 1 (al.map V.str)] (qS e al)
theorem acW {Γ:Env} {f Yt Qv:Nat} (h:Has Γ.P f 47 (VS Yt Qv) r_endpoint_ToSettings) (z0:Ud Γ Yt) (z1:vd Γ Qv):Vx Γ f:=by
 intro e al sm ha hn
 refine QV h zsi (agK _ _) fun C hC hm=>?_
 subst hC
 unfold VS
 have h0:=(z0 e al sm ha hn).b
 by_cases hck:JS e = true
 ·by_cases hal:Wx e al = true
  ·have hlv:xp e al = .tup [.sl 2 ((Jz e al).map PLn.v),V.int 0]:=by rw [xp,if_pos hck,if_pos hal]
   rw [hlv] at h0
   have lms:(e.suites.map V.int).length = e.suites.length:=List.length_map _
   simp only [QL.v,QL.cells] at h0 ⊢
   by_cases hs:e.suites = []
   ·have hr:qS e al = .tup [.sl 4 [],V.int 18]:=by rw [qS,if_pos hck,if_pos hal,if_pos hs]
    rw [hr]
    have e0:(((e.suites.length:Nat):Int) == 0) = true:=by simp [hs]
    repeat' (first|(refine zsk ?_;intro K' hK)|(refine zrg ?_;intro K' hK)|refine zsp ?_|(refine zsc ?_ ?_<;>intro hc<;>first|exact znh|try simp only [znz] at hc)|simp (maxSteps:=1000000) only [go_sem,lms,e0]|(refine hK _ ?_;clear hK K')|apply zan|((first|apply Jb|apply Q6);(focus first|exact h0|exact (z0 _ _ _ zsd zsd).b|exact (z1 _ _ zsd zsd).b))|exact zsq|fail)
    all_goals first|exact zr
   ·have hr:qS e al = .tup [.sl 4 ((akj e al).map Vq.v),V.int 0]:=by rw [qS,if_pos hck,if_pos hal,if_neg hs]
    rw [hr]
    have hsmall:=wq sm hck hal
    have hll:(Jz e al).length≤8:=by
     have:=List.length_filter_le JQ (aax e al)
     simp only [Jz,VI,aax,List.length_append,List.length_cons,List.length_nil] at *
     omega
    have e0:(((e.suites.length:Nat):Int) == 0) = false:=by simpa using hs
    have lml:((Jz e al).map PLn.v).length = (Jz e al).length:=List.length_map _
    have hset:akj e al = (Jz e al).map (abD e.name):=rfl
    rw [hset]
    generalize Jz e al = ls at *
    repeat' (first|(refine zsk ?_;intro K' hK)|(refine zrg ?_;intro K' hK)|refine zsp ?_|(refine zsc ?_ ?_<;>intro hc<;>first|exact znh|try simp only [znz] at hc)|simp (maxSteps:=1000000) only [go_sem,lms,e0,lml]|(refine hK _ ?_;clear hK K')|apply zan|((first|apply Jb|apply Q6);(focus first|exact h0|exact (z0 _ _ _ zsd zsd).b|exact (z1 _ _ zsd zsd).b))|exact zsq|fail)
    refine QY (ι:=Nat) (fun k=>k≤ls.length) (fun k=>tsA e ls ((ls.take k).map (abD e.name)) k) (fun k=>ls.length - k) 0 (Nat.zero_le _) (Qk [(1,21000)]) (QR [(1,21000)] (by simp only [go_sem,zwl,tsA,QL.cells]<;>exact zcc) (by simp only [go_sem,zwl,tsA,QL.cells]<;>exact zcc) (by simp [Qk]) (by simp;omega) (by omega)) fun k hk K' hL=>?_
    by_cases hke:k = ls.length
    ·have e1:decide ((k:Int) < ((ls.length:Nat):Int)) = false:=by simp;omega
     have e3:ls.take k = ls:=List.take_of_length_le (by omega)
     rw [e3]
     repeat' (first|(refine zsk ?_;intro K' hK)|(refine zrg ?_;intro K' hK)|refine zsp ?_|(refine zsc ?_ ?_<;>intro hc<;>first|exact znh|try simp only [znz] at hc)|simp (maxSteps:=1000000) only [go_sem,tsA,QZ,QL.cells,e1]|(refine hK _ ?_;clear hK K')|apply zan|((first|apply Jb|apply Q6);(focus first|exact (z0 _ _ _ zsd zsd).b|exact (z1 _ _ zsd zsd).b))|exact zsq|fail)
     all_goals first|(refine Qn _ rfl ?_;simp only [go_sem];rw [XI];first|done|rfl)
    ·obtain ⟨l,hl⟩:∃ l,ls[k]? = some l:=⟨ls[k]'(by omega),List.getElem?_eq_getElem (by omega)⟩
     have hlv2:(ls.map PLn.v)[k]? = some (.agg [V.str l.word,.sl 1 (l.vals.map V.str)]):=by rw [List.getElem?_map,hl];rfl
     have e5:(ls.take (k + 1)).map (abD e.name) = (ls.take k).map (abD e.name)++[abD e.name l]:=by rw [List.take_add_one,hl,List.map_append];rfl
     have hw:=Qj (k:=k) (by omega)
     have e1:decide ((k:Int) < ((ls.length:Nat):Int)) = true:=by simp;omega
     obtain ⟨s1,s2⟩:=hsmall l (List.mem_of_getElem? hl)
     have hib:=att 700 l.vals s2
     have hj:=(z1 l.vals [32] (by omega) (by show (aeI l.vals).length < _;omega)).b
     have hj2:([32]:List UInt8).intercalate l.vals = aeI l.vals:=rfl
     rw [hj2] at hj
     have hol:((ls.take k).map (abD e.name)).length≤8:=by simp;omega
     generalize (ls.take k).map (abD e.name) = out at *
     have hb:List.map Vq.v out++[.agg [V.str e.name,V.str l.word,V.str (aeI l.vals),V.int 0]] = (out++[abD e.name l]).map Vq.v:=by rw [List.map_append];rfl
     have hln:out.length + 1 = (out++[abD e.name l]).length:=by simp
     repeat' (first|(refine zsk ?_;intro K' hK)|(refine zrg ?_;intro K' hK)|refine zsp ?_|(refine zsc ?_ ?_<;>intro hc<;>first|exact znh|try simp only [znz] at hc)|simp (maxSteps:=1000000) only [go_sem,tsA,QZ,QL.cells,hlv2,e1,hw,Int.toNat_natCast,XI,hb,hln]|(refine hK _ ?_;clear hK K')|apply zan|((first|apply Jb|apply Q6);(focus first|exact hj|exact (z0 _ _ _ zsd zsd).b|exact (z1 _ _ zsd zsd).b))|exact zsq|fail)
     all_goals first
      | (refine hL _ (k + 1) (Qk [(1,15002)]) (by omega) (by omega) ?_
         rw [e5]
         exact QR [(1,15002)] (by simp only [go_sem,zwl,tsA,QZ,QL.cells]<;>exact zcc) (by simp only [go_sem,zwl,tsA,QZ,QL.cells]<;>exact zcc) (by simp [Qk]) (by simp [tsA,QZ];omega) (by omega))
  ·have hlv:xp e al = .tup [.sl 2 [],V.int 18]:=by rw [xp,if_pos hck,if_neg hal]
   have hr:qS e al = .tup [.sl 4 [],V.int 18]:=by rw [qS,if_pos hck,if_neg hal]
   rw [hlv] at h0
   rw [hr]
   simp only [QL.v,QL.cells] at h0 ⊢
   repeat' (first|(refine zsk ?_;intro K' hK)|(refine zrg ?_;intro K' hK)|refine zsp ?_|(refine zsc ?_ ?_<;>intro hc<;>first|exact znh|try simp only [znz] at hc)|simp (maxSteps:=1000000) only [go_sem]|(refine hK _ ?_;clear hK K')|apply zan|((first|apply Jb|apply Q6);(focus first|exact h0|exact (z0 _ _ _ zsd zsd).b|exact (z1 _ _ zsd zsd).b))|exact zsq|fail)
   all_goals first|exact zr
 ·have hlv:xp e al = .tup [.sl 2 [],V.int 19]:=by rw [xp,if_neg hck]
  have hr:qS e al = .tup [.sl 4 [],V.int 19]:=by rw [qS,if_neg hck]
  rw [hlv] at h0
  rw [hr]
  simp only [QL.v,QL.cells] at h0 ⊢
  repeat' (first|(refine zsk ?_;intro K' hK)|(refine zrg ?_;intro K' hK)|refine zsp ?_|(refine zsc ?_ ?_<;>intro hc<;>first|exact znh|try simp only [znz] at hc)|simp (maxSteps:=1000000) only [go_sem]|(refine hK _ ?_;clear hK K')|apply zan|((first|apply Jb|apply Q6);(focus first|exact h0|exact (z0 _ _ _ zsd zsd).b|exact (z1 _ _ zsd zsd).b))|exact zsq|fail)
  all_goals first|exact zr
def PLn.v3 (l:PLn):V:=.agg [V.str l.word,.sl 1 (l.vals.map V.str),V.int 0]
theorem amk:∀ l:List PLn,closedL (l.map PLn.v3)
 | []=>by simp [Av.closedL]
 | x :: r=>by
   rw [List.map_cons]
   exact ⟨by simp [PLn.v3,V.closed,Av.closedL],amk r⟩
theorem Y4:∀ l:List PLn,closedC (l.map PLn.v3)
 | []=>trivial
 | x :: r=>⟨⟨trivial,trivial,trivial,trivial⟩,Y4 r⟩
theorem axa:∀ l:List PLn,ntL (l.map PLn.v3)
 | []=>trivial
 | x :: r=>⟨by simp [PLn.v3],axa r⟩
theorem agH {o:Nat→Option Ob} {br:List Nat} {n:Nat} (w x:List UInt8) (h:o n = some (.buf true 1 [V.str x])) (hn:n ∉ br):conv o br none (.agg [V.str w,.hd n 0 1,V.int 0]) (PLn.v3 ⟨w,[x]⟩):=by
 simp [PLn.v3,conv,Jd,V.str,V.int,okB,h,hn]
theorem asD {o:Nat→Option Ob} {br:List Nat} {B:Option (List Nat)} {ys zs:List V} (h:Jd o br B ys zs):∀ out:List PLn,Jd o br B (out.map PLn.v3++ys) (out.map PLn.v3++zs)
 | []=>h
 | x :: r=>⟨by simp [PLn.v3,conv,Jd,V.str,V.int],asD h r⟩
theorem avx {o:Nat→Option Ob} {n m:Nat} {w x:List UInt8} {out:List PLn} (h:o n = some (.obuf true 3 (out.map PLn.v3++[.agg [V.str w,.hd m 0 1,V.int 0]]))) (hm:o m = some (.buf true 1 [V.str x])):conv o [] none (.hd n 0 (out.length + 1)) (.sl 3 ((out++[PLn.mk w [x]]).map PLn.v3)):=by
 simp only [conv]
 refine ⟨trivial,by simp,.inr ⟨true,_,h,?_,axa _,amk _⟩⟩
 rw [List.drop_zero,List.take_of_length_le (by simp),List.map_append]
 exact asD (ys:=[.agg [V.str w,.hd m 0 1,V.int 0]]) (zs:=[PLn.v3 ⟨w,[x]⟩]) ⟨agH _ _ hm (by simp),trivial⟩ out
def WC (e:QL) (al:List (List UInt8)) (st:Bool):V :=
 if JS e = true then
  if Wx e al = true then
   if st = true∧e.suites = [] then .tup [.sl 3 [],V.int 18] else .tup [.sl 3 ((Jz e al).map PLn.v3),V.int 0]
  else .tup [.sl 3 [],V.int 18]
 else .tup [.sl 3 [],V.int 19]
theorem alx (e:QL) (al:List (List UInt8)) (st:Bool):(WC e al st).closed:=by
 unfold WC
 split
 ·split
  ·split<;>exact ⟨trivial,trivial,trivial⟩
  ·exact ⟨trivial,trivial,trivial⟩
 ·exact ⟨trivial,trivial,trivial⟩
def arD (e:QL):List UInt8:=if e.own = true then [111,119,110] else [99,108,105,101,110,116]
def qV (e:QL):List UInt8:=if e.fall = true then [121,101,115] else [110,111]
def rlP (e:QL) (al:List (List UInt8)):St:=QZ [(1,.sl 1 (al.map V.str)),(3,.ptr 0 0),(10,V.str (abg e.suites))] [(0,.box true e.cells)] 1
def axW (e:QL) (al:List (List UInt8)):St:=stL [(1,.sl 1 (al.map V.str)),(3,.ptr 0 0),(13,V.str (qV e)),(14,.hd 1 0 4)] [.box true e.cells,.buf true 3 ((VI e).map PLn.v3)]
def rlF (e:QL) (out:List PLn):St:=QZ [(3,.ptr 0 0),(13,V.str (qV e)),(14,.hd 1 0 out.length)] [(0,.box true e.cells),(1,.buf true 3 (out.map PLn.v3))] 2
def rlG (e:QL) (out:List PLn) (as:List (List UInt8)) (k:Nat):St:=QZ [(3,.ptr 0 0),(13,V.str (qV e)),(14,.hd 1 0 out.length),(15,.hd 2 0 as.length),(16,.hd 3 0 0),(17,V.int k)] [(0,.box true e.cells),(1,.buf true 3 (out.map PLn.v3)),(2,.buf true 1 (as.map V.str)),(3,.buf true 1 [])] 4
def rlH (e:QL) (out:List PLn) (as hs:List (List UInt8)) (k:Nat):St:=QZ [(3,.ptr 0 0),(13,V.str (qV e)),(14,.hd 1 0 out.length),(15,.hd 2 0 as.length),(16,.hd 3 0 hs.length),(18,V.int k)] [(0,.box true e.cells),(1,.buf true 3 (out.map PLn.v3)),(2,.buf true 1 (as.map V.str)),(3,.buf true 1 (hs.map V.str))] 4
def rlI (e:QL) (out:List PLn):St:=stL [(13,V.str (qV e)),(14,.hd 0 0 out.length),(15,.sl 1 ((YW e).map V.str)),(16,.sl 1 ((Xn e).map V.str))] [.buf true 3 (out.map PLn.v3)]
def rlJ (e:QL) (out:List PLn):St:=QZ [(13,V.str (qV e)),(14,.hd 0 0 out.length),(16,.sl 1 ((Xn e).map V.str))] [(0,.buf true 3 (out.map PLn.v3))] 1
def rlK (e:QL) (out:List PLn):St:=QZ [(13,V.str (qV e)),(14,.hd 0 0 out.length)] [(0,.buf true 3 (out.map PLn.v3))] 1
def rlB (e:QL) (al:List (List UInt8)):St:=QZ [(1,.sl 1 (al.map V.str)),(3,.ptr 0 0),(10,V.str (abg e.suites)),(12,V.str (arD e)),(13,V.str [110,111])] [(0,.box true e.cells)] 1
def rlC (e:QL) (al:List (List UInt8)):St:=QZ [(1,.sl 1 (al.map V.str)),(3,.ptr 0 0),(10,V.str (abg e.suites)),(12,V.str (arD e)),(13,V.str (qV e))] [(0,.box true e.cells)] 1
def rlD (e:QL) (al:List (List UInt8)):St:=QZ [(1,.sl 1 (al.map V.str)),(3,.ptr 0 0),(13,V.str (qV e)),(14,.hd 5 0 4)]
 [(0,.box true e.cells),(1,.buf true 1 [V.str (Lib.itoa e.least)]),(2,.buf true 1 [V.str (Lib.itoa e.most)]),(3,.buf true 1 [V.str (abg e.suites)]),(4,.buf true 1 [V.str (arD e)]),
  (5,.obuf true 3 [.agg [V.str [108,101,97,115,116],.hd 1 0 1,V.int 0],.agg [V.str [109,111,115,116],.hd 2 0 1,V.int 0],.agg [V.str [115,117,105,116,101,115],.hd 3 0 1,V.int 0],.agg [V.str [111,114,100,101,114],.hd 4 0 1,V.int 0]])] 6
def adp (QE:Nat):List AO:=[fa 61 1 3,ld 62 1 61,cl 63 QE [62],xo 64 (.bslice 1 1 false [vs0] [(0,(.t 63))]),xo 65 (.build [vs0,vn0,vi0] [(0,1,(.c (V.str [108,101,97,115,116]))),(1,1,(.t 64))]),fa 66 2 3,ld 67 1 66,cl 68 QE [67],xo 69 (.bslice 1 1 false [vs0] [(0,(.t 68))]),xo 70 (.build [vs0,vn0,vi0] [(0,1,(.c (V.str [109,111,115,116]))),(1,1,(.t 69))]),mv 71 10,xo 72 (.bslice 1 1 false [vs0] [(0,(.t 71))]),xo 73 (.build [vs0,vn0,vi0] [(0,1,(.c (V.str [115,117,105,116,101,115]))),(1,1,(.t 72))]),mv 74 12,xo 75 (.bslice 1 1 false [vs0] [(0,(.t 74))]),xo 76 (.build [vs0,vn0,vi0] [(0,1,(.c (V.str [111,114,100,101,114]))),(1,1,(.t 75))]),xo 77 (.obslice 4 3 true [vs0,vn0,vi0] [(0,(.t 65)),(1,(.t 70)),(2,(.t 73)),(3,(.t 76))]),mv 14 77]
def ad9:List (List Nat):=[[],[0],[1],[2],[3],[],[5],[6,2],[7],[8],[],[10],[11],[],[13],[14],[4,9,12,15],[16,7,0,1,2,3,4,5,6,7,8,9,10,11,12,13,14,15,16]]
def ac2:OT:=.one 0 (.one 1 (.one 2 (.one 3 (.one 4 (.one 5 (.one 6 (.one 7 (.one 8 (.one 9 (.one 10 (.one 11 (.one 12 (.one 13 (.one 14 (.one 15 (.one 16 (.one 17 .done)))))))))))))))))
@[go_sem] def adf (QE:Nat):OP:=oN 0 (fa 61 1 3) (oN 1 (ld 62 1 61) (oN 2 (cl 63 QE [62]) (.one 3 false [2] (xo 64 (.bslice 1 1 false [vs0] [(0,(.t 63))])) (oN 4 (xo 65 (.build [vs0,vn0,vi0] [(0,1,(.c (V.str [108,101,97,115,116]))),(1,1,(.t 64))])) (oN 5 (fa 66 2 3) (oN 6 (ld 67 1 66) (oN 7 (cl 68 QE [67]) (.one 8 false [7] (xo 69 (.bslice 1 1 false [vs0] [(0,(.t 68))])) (oN 9 (xo 70 (.build [vs0,vn0,vi0] [(0,1,(.c (V.str [109,111,115,116]))),(1,1,(.t 69))])) (oN 10 (mv 71 10) (oN 11 (xo 72 (.bslice 1 1 false [vs0] [(0,(.t 71))])) (oN 12 (xo 73 (.build [vs0,vn0,vi0] [(0,1,(.c (V.str [115,117,105,116,101,115]))),(1,1,(.t 72))])) (oN 13 (mv 74 12) (oN 14 (xo 75 (.bslice 1 1 false [vs0] [(0,(.t 74))])) (oN 15 (xo 76 (.build [vs0,vn0,vi0] [(0,1,(.c (V.str [111,114,100,101,114]))),(1,1,(.t 75))])) (.one 16 false [14,11,8,7,3,2] (xo 77 (.obslice 4 3 true [vs0,vn0,vi0] [(0,(.t 65)),(1,(.t 70)),(2,(.t 73)),(3,(.t 76))])) (oN 17 (mv 14 77) .done)))))))))))))))))
instance (QE:Nat):RG [] ac2 (adf QE) (adp QE) ad9 18 (fun _=>true):=⟨rfl,by kernel_rfl,by kernel_rfl⟩
def ab0 (Js Jt xF QE aah:Nat):AC:=Qa [1,2,3] (.reg [xo 3 (.box true 9 (.t 0)),xo 6 (.mknil 3),mc 7 (V.int 0)]) (Qa [1,2,3] (Qa [1,2,3,8] (.reg [xo 19 (.load true 9 (.t 3)),cl 20 Js [19],mv 8 20]) (Qa [1,2,3,8,22] (.reg [mv 21 8,bc 22 .neq 21 (V.int 0)]) (.cond (.t 22) (Qa [6,7] (.reg [mv 23 8,xo 6 (.mknil 3),mv 7 23]) .ret) .skip))) (Qa [1,3] (Qa [1,3,38] (.reg [mv 24 1,ln 25 24,fa 26 5 3,ld 27 1 26,ln 28 27,bn 29 .neq 25 28,mv 30 29,mg 31 2 30 false,mg 32 31 30 false,xg 33 (.faddr 3 (.t 3)) 32 true,xg 34 (.load false 1 (.t 33)) 32 true,xg 35 (.lenL (.t 34)) 32 true,xg 36 (.bin .eql (.t 35) (.c (V.int 0))) 32 true,xg 37 (.pick (.t 32) (.t 36) (.c (V.bool false))) 30 false,xo 38 (.pick (.t 30) (.c (V.bool true)) (.t 37))]) (.cond (.t 38) (Qa [6,7] (.reg [xo 6 (.mknil 3),mc 7 (V.int 18)]) .ret) .skip)) (Qa [1,3] (Qa [1,3,9] (.reg [mc 9 (V.int 0)]) (.block 0 (JH [1,3,9] (Qa [1,3,9] (Qa [1,3,9,42] (.reg [mv 39 9,mv 40 1,ln 41 40,bn 42 .lss 39 41]) (.cond (.t 42) .skip (.exit 0))) (Qa [1,3,9] (.block 1 (Qa [1,3,9,50] (.reg [mv 45 1,mv 46 9,ia 47 1 45 46,ld 48 1 47,cl 49 Jt [48],xo 50 (.un .not (.t 49))]) (.cond (.t 50) (Qa [6,7] (.reg [xo 6 (.mknil 3),mc 7 (V.int 18)]) .ret) .skip))) (.reg [mv 43 9,bc 44 .add 43 (V.int 1),mv 9 44])))))) (Qa [1,3,10] (.reg [fa 52 3 3,ld 53 1 52,cl 54 xF [53],mv 51 54,ex 55 51 0,ex 56 51 1,mv 10 55,mv 11 56]) (Qa [1,3,10,12,13] (.reg [mc 12 (V.str [99,108,105,101,110,116]),mc 13 (V.str [110,111])]) (Qa [1,3,10,12,13] (Qa [1,3,10,12,13,58] (.reg [fa 57 4 3,ld 58 1 57]) (.cond (.t 58) (.reg [mc 12 (V.str [111,119,110])]) .skip)) (Qa [1,3,10,12,13] (Qa [1,3,10,12,13,60] (.reg [fa 59 8 3,ld 60 1 59]) (.cond (.t 60) (.reg [mc 13 (V.str [121,101,115])]) .skip)) (Qa [1,3,13,14] (yh [] ac2 (adf QE) (adp QE) ad9) (Qa [3,13,14] (Qa [1,3,13,14,80] (.reg [mv 78 1,ln 79 78,bc 80 .gtr 79 (V.int 0)]) (.cond (.t 80) (.reg [mv 81 14,mv 82 1,xo 83 (.build [vs0,vn0,vi0] [(0,1,(.c (V.str [107,101,121,115]))),(1,1,(.t 82))]),xo 84 (.obslice 1 3 true [vs0,vn0,vi0] [(0,(.t 83))]),xo 85 (.append 3 48 [vs0,vn0,vi0] (.t 81) (.t 84)),mv 14 85]) .skip)) (Qa [3,13,14,15,16] (.reg [xo 15 (.mknil 1),xo 16 (.mknil 1)]) (Qa [3,13,14,15,16] (Qa [3,13,14,15,16,17] (.reg [mc 17 (V.int 0)]) (.block 2 (JH [3,13,14,15,16,17] (Qa [3,13,14,15,16,17] (Qa [3,13,14,15,16,17,90] (.reg [mv 86 17,fa 87 6 3,ld 88 1 87,ln 89 88,bn 90 .lss 86 89]) (.cond (.t 90) .skip (.exit 2))) (Qa [3,13,14,15,16,17] (.block 3 (.reg [mv 93 15,fa 94 6 3,ld 95 1 94,mv 96 17,ia 97 1 95 96,ld 98 1 97,cl 99 QE [98],xo 100 (.bslice 1 1 false [vs0] [(0,(.t 99))]),xo 101 (.append 1 16 [vs0] (.t 93) (.t 100)),mv 15 101])) (.reg [mv 91 17,bc 92 .add 91 (V.int 1),mv 17 92])))))) (Qa [13,14,15,16] (Qa [3,13,14,15,16,18] (.reg [mc 18 (V.int 0)]) (.block 4 (JH [3,13,14,15,16,18] (Qa [3,13,14,15,16,18] (Qa [3,13,14,15,16,18,106] (.reg [mv 102 18,fa 103 7 3,ld 104 1 103,ln 105 104,bn 106 .lss 102 105]) (.cond (.t 106) .skip (.exit 4))) (Qa [3,13,14,15,16,18] (.block 5 (.reg [mv 109 16,fa 110 7 3,ld 111 1 110,mv 112 18,ia 113 1 111 112,ld 114 1 113,cl 115 aah [114],xo 116 (.bslice 1 1 false [vs0] [(0,(.t 115))]),xo 117 (.append 1 16 [vs0] (.t 109) (.t 116)),mv 16 117])) (.reg [mv 107 18,bc 108 .add 107 (V.int 1),mv 18 108])))))) (Qa [13,14,16] (Qa [13,14,15,16,120] (.reg [mv 118 15,ln 119 118,bc 120 .gtr 119 (V.int 0)]) (.cond (.t 120) (.reg [mv 121 14,mv 122 15,xo 123 (.build [vs0,vn0,vi0] [(0,1,(.c (V.str [97,110,99,104,111,114,115]))),(1,1,(.t 122))]),xo 124 (.obslice 1 3 true [vs0,vn0,vi0] [(0,(.t 123))]),xo 125 (.append 3 48 [vs0,vn0,vi0] (.t 121) (.t 124)),mv 14 125]) .skip)) (Qa [13,14] (Qa [13,14,16,128] (.reg [mv 126 16,ln 127 126,bc 128 .gtr 127 (V.int 0)]) (.cond (.t 128) (.reg [mv 129 14,mv 130 16,xo 131 (.build [vs0,vn0,vi0] [(0,1,(.c (V.str [104,97,115,104,101,115]))),(1,1,(.t 130))]),xo 132 (.obslice 1 3 true [vs0,vn0,vi0] [(0,(.t 131))]),xo 133 (.append 3 48 [vs0,vn0,vi0] (.t 129) (.t 132)),mv 14 133]) .skip)) (Qa [6,7] (.reg [mv 134 14,mv 135 13,xo 136 (.bslice 1 1 false [vs0] [(0,(.t 135))]),xo 137 (.build [vs0,vn0,vi0] [(0,1,(.c (V.str [102,97,108,108,98,97,99,107]))),(1,1,(.t 136))]),xo 138 (.obslice 1 3 true [vs0,vn0,vi0] [(0,(.t 137))]),xo 139 (.append 3 48 [vs0,vn0,vi0] (.t 134) (.t 138)),mv 6 139,mc 7 (V.int 0)]) .ret))))))))))))))) def r_ref09_lines:List Jl:=[.tmp 6,.tmp 7]
def jR (Γ:Env) (f:Nat):Prop:=∀ (e:QL) (al:List (List UInt8)) (st:Bool) (sm:e.Sm) (ha:al.length < 2 ^ 30) (hn:∀ x∈al,x.length < 2 ^ 60),EvC Γ f [e.v,.sl 1 (al.map V.str),V.bool st] (WC e al st)
attribute [local go_sem] QL.cells QZ rlF rlG rlH rlJ rlK XI in
theorem alT {Γ:Env} {f Js Jt xF QE aah:Nat} (h:Has Γ.P f 140 (ab0 Js Jt xF QE aah) r_ref09_lines) (z0:jS Γ Js) (z1:xM Γ Jt) (z2:aaW Γ xF) (z3:yO Γ QE) (z4:acz Γ aah):jR Γ f:=by
 intro e al st sm ha hn
 refine QV h zsi (alx _ _ _) fun C hC hm=>?_
 subst hC
 unfold ab0
 cases st
 ·have h0:=(z0 e sm).b
  by_cases hck:JS e = true
  ·rw [if_pos hck] at h0
   have hB:=hck
   simp only [JS,apF,anS,apE,Bool.and_eq_true,decide_eq_true_eq] at hB
   have lma:(al.map V.str).length = al.length:=List.length_map _
   have lmi:(e.idents.map QI.v).length = e.idents.length:=List.length_map _
   have lms:(e.suites.map V.int).length = e.suites.length:=List.length_map _
   simp only [QL.v,QL.cells] at h0 ⊢
   have r18:(¬ Wx e al = true∨(false = true∧e.suites = []))→WC e al false = .tup [.sl 3 [],V.int 18]:=by
    intro h
    rw [WC,if_pos hck]
    rcases h with h|h
    ·rw [if_neg h]
    ·rw [if_pos h];split<;>rfl
   by_cases hl:al.length = e.idents.length
   ·have e0:(((al.length:Nat):Int) != ((e.idents.length:Nat):Int)) = false:=by simp [hl]
    by_cases hs:(false = true∧e.suites = [])
    ·exact absurd hs.1 (by decide)
    ·obtain ⟨q2,e2,hq2⟩:∃ q,(((e.suites.length:Nat):Int) == 0) = q∧(false = true→q = false):=⟨_,rfl,fun h=>by cases h⟩
     first|obtain rfl:=hq2 rfl|skip
     (have zx:=And.intro lma (And.intro lmi (And.intro lms (And.intro e0 e2))));refine zgo ?_;repeat' first|exact zt|apply zan|intro hc
     refine QY (ι:=Nat) (fun k=>k≤al.length∧(al.take k).all QX = true) (fun k=>QZ [(1,.sl 1 (al.map V.str)),(3,.ptr 0 0),(9,V.int k)] [(0,.box true e.cells)] 1) (fun k=>al.length - k) 0 ⟨Nat.zero_le _,rfl⟩ (Qk []) (QR [] (by simp only [go_sem,zwl,QL.cells]<;>exact zcc) (by simp only [go_sem,zwl,QL.cells]<;>exact zcc) (by simp [Qk]) (by simp) (by omega)) fun k hk K' hL=>?_
     obtain ⟨hk,hgood⟩:=hk
     rcases hd:al.drop k with _|⟨x,r⟩
     ·have hkl:=Qs hd
      have e1:decide ((k:Int) < ((al.length:Nat):Int)) = false:=by simp;omega
      have e3:al.take k = al:=List.take_of_length_le hkl
      rw [e3] at hgood
      have hal:Wx e al = true:=by simp [Wx,hl,hgood]
      have hrs:WC e al false = .tup [.sl 3 ((Jz e al).map PLn.v3),V.int 0]:=by rw [WC,if_pos hck,if_pos hal,if_neg hs]
      have hp:=(z2 e.suites sm.hs).b
      rw [aie hB.1.2.2.2.2] at hp
      rw [hrs]
      refine VC ?_
      refine Ve fun K' hK=>?_
      simp (maxSteps:=1000000) only [go_sem,QZ,QL.cells,lma,e1]
      refine hK _ ?_
      clear hK
      clear K'
      (try simp only [go_sem])
      refine xK ⟨false,rfl,fun h=>Bool.noConfusion h,fun _=>?_⟩
      refine aeG ?_
      simp only [go_sem]
      clear hL
      refine YO (ι:=Unit) (fun _=>True) (fun _=>rlP e al) (fun K' hK'=>?_) (fun _ _=>?_)
      ·refine zgo ?_;repeat' first|exact zt|apply zan|intro hc
       all_goals first|exact hK' _ () (Qk []) trivial (QR [] (by simp only [go_sem,zwl,rlP,QZ,QL.cells]<;>exact zcc) (by simp only [go_sem,zwl,rlP,QZ,QL.cells]<;>exact zcc) (by simp [Qk]) (by simp [rlP,QZ]) (by omega))
      simp only [rlP,QZ]
      refine Ve fun K' hK=>?_
      simp (maxSteps:=1000000) only [go_sem,QL.cells]
      refine hK _ ?_
      clear hK
      clear K'
      (try simp only [go_sem])
      refine YO (ι:=Unit) (fun _=>True) (fun _=>rlB e al) (fun K' hK'=>?_) (fun _ _=>?_)
      ·cases ho:e.own
       ·have eo:arD e = [99,108,105,101,110,116]:=by simp [arD,ho]
        (have zx:=ho);refine zgo ?_;repeat' first|exact zt|apply zan|intro hc
        all_goals first|exact hK' _ () (Qk []) trivial (QR [] (by simp only [go_sem,zwl,rlB,QZ,QL.cells,eo,ho]<;>exact zcc) (by simp only [go_sem,zwl,rlB,QZ,QL.cells,eo,ho]<;>exact zcc) (by simp [Qk]) (by simp [rlB,QZ]) (by omega))
       ·have eo:arD e = [111,119,110]:=by simp [arD,ho]
        (have zx:=ho);refine zgo ?_;repeat' first|exact zt|apply zan|intro hc
        all_goals first|exact hK' _ () (Qk []) trivial (QR [] (by simp only [go_sem,zwl,rlB,QZ,QL.cells,eo,ho]<;>exact zcc) (by simp only [go_sem,zwl,rlB,QZ,QL.cells,eo,ho]<;>exact zcc) (by simp [Qk]) (by simp [rlB,QZ]) (by omega))
      refine YO (ι:=Unit) (fun _=>True) (fun _=>rlC e al) (fun K' hK'=>?_) (fun _ _=>?_)
      ·simp only [rlB,QZ]
       cases ho:e.fall
       ·have eo:qV e = [110,111]:=by simp [qV,ho]
        (have zx:=ho);refine zgo ?_;repeat' first|exact zt|apply zan|intro hc
        all_goals first|exact hK' _ () (Qk []) trivial (QR [] (by simp only [go_sem,zwl,rlC,QZ,QL.cells,eo,ho]<;>exact zcc) (by simp only [go_sem,zwl,rlC,QZ,QL.cells,eo,ho]<;>exact zcc) (by simp [Qk]) (by simp [rlC,QZ]) (by omega))
       ·have eo:qV e = [121,101,115]:=by simp [qV,ho]
        (have zx:=ho);refine zgo ?_;repeat' first|exact zt|apply zan|intro hc
        all_goals first|exact hK' _ () (Qk []) trivial (QR [] (by simp only [go_sem,zwl,rlC,QZ,QL.cells,eo,ho]<;>exact zcc) (by simp only [go_sem,zwl,rlC,QZ,QL.cells,eo,ho]<;>exact zcc) (by simp [Qk]) (by simp [rlC,QZ]) (by omega))
      have hm1:=hB.1.2.1
      have hm2:=hB.1.2.2.1
      have hm3:=hB.1.2.2.2.1
      have hI1:=(z3 e.least (by omega) (by omega)).b
      have hI2:=(z3 e.most (by omega) (by omega)).b
      refine YO (ι:=Unit) (fun _=>True) (fun _=>rlD e al) (fun K' hK'=>?_) (fun _ _=>?_)
      ·simp only [rlC,QZ]
       refine zgo ?_;repeat' first|exact zt|apply zan|intro hc
       all_goals exact hK' _ () (Qk [(1,3001),(2,8001),(3,11001),(4,14001),(5,16001)]) trivial (QR [(1,3001),(2,8001),(3,11001),(4,14001),(5,16001)] (by simp only [go_sem,zwl,rlD,QZ,QL.cells]<;>exact zcc) (by simp only [go_sem,zwl,rlD,QZ,QL.cells]<;>exact zcc) (by simp [Qk]) (by simp [rlD,QZ];omega) (by omega))
      refine ajg (s1:=axW e al) (VJ [0,5] none (fun p hp=>?_) ?_ (by simp) (by rw [hm];rfl)) ?_
      ·simp only [List.mem_cons,List.not_mem_nil,or_false] at hp
       rcases hp with rfl|rfl|rfl|rfl
       ·show conv _ _ _ (.sl 1 (al.map V.str)) (.sl 1 (al.map V.str))
        simp [conv]
       ·show conv _ _ _ (.ptr 0 0) (.ptr 0 0)
        simp [conv]
       ·show conv _ _ _ (V.str (qV e)) (V.str (qV e))
        simp [conv,V.str]
       ·show conv _ _ _ (.hd 5 0 4) (.hd 1 0 4)
        simp [conv]
      ·refine ⟨⟨_,rfl,fun h=>h,by simp [QL.cells,Jd,conv,V.str,V.int,V.bool]⟩,⟨_,rfl,fun h=>h,rfl,?_,?_⟩,trivial⟩
       ·have ho:[arD e] = [if e.own = true then [111,119,110] else [99,108,105,101,110,116]]:=rfl
        refine ⟨agH _ _ rfl (by decide),agH _ _ rfl (by decide),agH _ _ rfl (by decide),agH _ _ rfl (by decide),trivial⟩
       ·exact Y4 _
      have hh4:(VI e).length = 4:=rfl
      refine YO (ι:=Unit) (fun _=>True) (fun _=>rlF e (VI e++[PLn.mk [107,101,121,115] al].filter JQ)) (fun K' hK'=>?_) (fun _ _=>?_)
      ·simp only [axW,stL]
       generalize VI e = out at *
       by_cases hf:JQ ⟨[107,101,121,115],al⟩ = true
       ·have e7:decide (((al.length:Nat):Int) > 0) = true:=hf
        have hb:List.map PLn.v3 out++[.agg [V.str [107,101,121,115],.sl 1 (al.map V.str),V.int 0]] = (out++[PLn.mk [107,101,121,115] al]).map PLn.v3:=by rw [List.map_append];rfl
        have hln:4 + 1 = (out++[PLn.mk [107,101,121,115] al]).length:=by rw [List.length_append,hh4];rfl
        have hff:[PLn.mk [107,101,121,115] al].filter JQ = [PLn.mk [107,101,121,115] al]:=by rw [List.filter_cons_of_pos hf,List.filter_nil]
        have htk:(out.map PLn.v3).take 4 = out.map PLn.v3:=by rw [List.take_of_length_le (by simp [hh4])]
        rw [hff] at hK'
        have hl5:(out++[PLn.mk [107,101,121,115] al]).length = 5:=by rw [List.length_append,hh4];rfl
        (have zx:=And.intro lma (And.intro e7 (And.intro htk hb)));refine zgo ?_;repeat' first|exact zt|apply zan|intro hc
        all_goals exact hK' _ () (Qk [(1,7002)]) trivial (QR [(1,7002)] (by simp only [go_sem,zwl,rlF,QZ,QL.cells,hl5];first|done|exact Y4 _|(repeat' (first|rfl|apply And.intro|omega|exact fun h=>h|exact Exists.intro _ rfl))) (by simp only [go_sem,zwl,rlF,QZ,QL.cells,hl5];first|done|exact Y4 _|(repeat' (first|rfl|apply And.intro|omega|exact fun h=>h|exact Exists.intro _ rfl))) (by simp [Qk]) (by simp [rlF,QZ];omega) (by omega))
       ·have e7:decide (((al.length:Nat):Int) > 0) = false:=by simpa [JQ] using hf
        have hff:[PLn.mk [107,101,121,115] al].filter JQ = []:=by rw [List.filter_cons_of_neg (by simpa using hf),List.filter_nil]
        rw [hff,List.append_nil] at hK'
        (have zx:=And.intro lma e7);refine zgo ?_;repeat' first|exact zt|apply zan|intro hc
        all_goals exact hK' _ () (Qk []) trivial (QR [] (by simp only [go_sem,zwl,rlF,QZ,QL.cells,hh4]<;>exact zcc) (by simp only [go_sem,zwl,rlF,QZ,QL.cells,hh4]<;>exact zcc) (by simp [Qk]) (by simp [rlF,QZ]) (by omega))
      have hlst:Jz e al = VI e++[PLn.mk [107,101,121,115] al].filter JQ++[PLn.mk [97,110,99,104,111,114,115] (YW e)].filter JQ++[PLn.mk [104,97,115,104,101,115] (Xn e)].filter JQ++[⟨[102,97,108,108,98,97,99,107],[qV e]⟩]:=by
       have:aax e al = [PLn.mk [107,101,121,115] al]++([PLn.mk [97,110,99,104,111,114,115] (YW e)]++[PLn.mk [104,97,115,104,101,115] (Xn e)]):=rfl
       rw [Jz,this,List.filter_append,List.filter_append,List.append_assoc,List.append_assoc,List.append_assoc,List.append_assoc,List.append_assoc,List.append_assoc];rfl
      have hol:(VI e++[PLn.mk [107,101,121,115] al].filter JQ).length≤5:=by
       have:=List.length_filter_le JQ [PLn.mk [107,101,121,115] al]
       rw [List.length_append,hh4];simp only [List.length_singleton] at this;omega
      rw [hlst]
      clear hlst hh4 hrs
      generalize VI e++[PLn.mk [107,101,121,115] al].filter JQ = out at *
      have lmA:(e.anchors.map V.int).length = e.anchors.length:=List.length_map _
      have lmH:(e.hashes.map V.int).length = e.hashes.length:=List.length_map _
      have hha:=sm.ha
      have hhh:=sm.hh
      refine zgo ?_;repeat' first|exact zt|apply zan|intro hc
      refine QY (ι:=Nat) (fun k=>k≤e.anchors.length) (fun k=>rlG e out ((e.anchors.take k).map Lib.itoa) k) (fun k=>e.anchors.length - k) 0 (Nat.zero_le _) (Qk [(2,2),(3,1002)]) (QR [(2,2),(3,1002)] (by simp only [go_sem,zwl,rlG,QL.cells]<;>exact zcc) (by simp only [go_sem,zwl,rlG,QL.cells]<;>exact zcc) (by simp [Qk]) (by simp;omega) (by omega)) fun k hk K' hL=>?_
      rcases hd:e.anchors.drop k with _|⟨x,r⟩
      ·have hkl:=Qs hd
       have e1:decide ((k:Int) < ((e.anchors.length:Nat):Int)) = false:=by simp;omega
       have e3:e.anchors.take k = e.anchors:=List.take_of_length_le hkl
       rw [e3]
       show AWp _ _ _ (rlG e out (YW e) k) _ _ _
       (have zx:=And.intro lmA e1);refine zgo ?_;repeat' first|exact zt|apply zan|intro hc
       refine QY (ι:=Nat) (fun k=>k≤e.hashes.length) (fun k=>rlH e out (YW e) ((e.hashes.take k).map fun n=>(Jk n).name) k) (fun k=>e.hashes.length - k) 0 (Nat.zero_le _) (Qk []) (QR [] (by simp only [go_sem,zwl,rlH,QL.cells]<;>exact zcc) (by simp only [go_sem,zwl,rlH,QL.cells]<;>exact zcc) (by simp [Qk]) (by simp) (by omega)) fun j hj K2 hL2=>?_
       rcases hdj:e.hashes.drop j with _|⟨x,r⟩
       ·have hjl:=Qs hdj
        have e2:decide ((j:Int) < ((e.hashes.length:Nat):Int)) = false:=by simp;omega
        have e4:e.hashes.take j = e.hashes:=List.take_of_length_le hjl
        rw [e4]
        show AWp _ _ _ (rlH e out (YW e) (Xn e) j) _ _ _
        refine VC ?_
        refine Ve fun K' hK=>?_
        simp (maxSteps:=1000000) only [go_sem,rlH,QZ,QL.cells,lmH,e2]
        refine hK _ ?_
        clear hK
        clear K'
        (try simp only [go_sem])
        refine xK ⟨false,rfl,fun h=>Bool.noConfusion h,fun _=>?_⟩
        refine aeG ?_
        simp only [go_sem]
        clear hL hL2
        refine ajg (s1:=rlI e out) (VJ [1] none (fun p hp=>?_) ?_ (by simp) (by rw [hm];rfl)) ?_
        ·simp only [List.mem_cons,List.not_mem_nil,or_false] at hp
         rcases hp with rfl|rfl|rfl|rfl
         ·show conv _ _ _ (V.str (qV e)) (V.str (qV e))
          simp [conv,V.str]
         ·show conv _ _ _ (.hd 1 0 out.length) (.hd 0 0 out.length)
          simp [conv]
         ·show conv _ _ _ (.hd 2 0 (YW e).length) (.sl 1 ((YW e).map V.str))
          simp only [conv]
          exact ⟨trivial,by simp,.inl ⟨true,_,rfl,by rw [List.drop_zero,XI]⟩⟩
         ·show conv _ _ _ (.hd 3 0 (Xn e).length) (.sl 1 ((Xn e).map V.str))
          simp only [conv]
          exact ⟨trivial,by simp,.inl ⟨true,_,rfl,by rw [List.drop_zero,XI]⟩⟩
        ·exact ⟨⟨_,rfl,fun h=>h,rfl,rfl⟩,trivial⟩
        refine YO (ι:=Unit) (fun _=>True) (fun _=>rlJ e (out++[PLn.mk [97,110,99,104,111,114,115] (YW e)].filter JQ)) (fun K' hK'=>?_) (fun _ _=>?_)
        ·simp only [rlI,stL]
         have lmv:((YW e).map V.str).length = (YW e).length:=List.length_map _
         by_cases hf:JQ ⟨[97,110,99,104,111,114,115],YW e⟩ = true
         ·have e7:decide ((((YW e).length:Nat):Int) > 0) = true:=hf
          have hb:List.map PLn.v3 out++[.agg [V.str [97,110,99,104,111,114,115],.sl 1 ((YW e).map V.str),V.int 0]] = (out++[PLn.mk [97,110,99,104,111,114,115] (YW e)]).map PLn.v3:=by rw [List.map_append];rfl
          have hln:out.length + 1 = (out++[PLn.mk [97,110,99,104,111,114,115] (YW e)]).length:=by simp
          have hff:[PLn.mk [97,110,99,104,111,114,115] (YW e)].filter JQ = [PLn.mk [97,110,99,104,111,114,115] (YW e)]:=by rw [List.filter_cons_of_pos hf,List.filter_nil]
          rw [hff] at hK'
          (have zx:=And.intro lmv (And.intro e7 (And.intro hb hln)));refine zgo ?_;repeat' first|exact zt|apply zan|intro hc
          all_goals first|exact hK' _ () (Qk [(0,7001)]) trivial (QR [(0,7001)] (by simp only [go_sem,zwl,rlJ,QZ];first|done|exact Y4 _|(repeat' (first|rfl|apply And.intro|omega|exact fun h=>h|exact Exists.intro _ rfl))) (by simp only [go_sem,zwl,rlJ,QZ];first|done|exact Y4 _|(repeat' (first|rfl|apply And.intro|omega|exact fun h=>h|exact Exists.intro _ rfl))) (by simp [Qk]) (by simp [rlJ,QZ];omega) (by omega))
         ·have e7:decide ((((YW e).length:Nat):Int) > 0) = false:=by simpa [JQ] using hf
          have hff:[PLn.mk [97,110,99,104,111,114,115] (YW e)].filter JQ = []:=by rw [List.filter_cons_of_neg (by simpa using hf),List.filter_nil]
          rw [hff,List.append_nil] at hK'
          (have zx:=And.intro lmv e7);refine zgo ?_;repeat' first|exact zt|apply zan|intro hc
          all_goals first|exact hK' _ () (Qk []) trivial (QR [] (by simp only [go_sem,zwl,rlJ,QZ]<;>exact zcc) (by simp only [go_sem,zwl,rlJ,QZ]<;>exact zcc) (by simp [Qk]) (by simp [rlJ,QZ]) (by omega))
        have hol2:(out++[PLn.mk [97,110,99,104,111,114,115] (YW e)].filter JQ).length≤6:=by
         have:=List.length_filter_le JQ [PLn.mk [97,110,99,104,111,114,115] (YW e)]
         rw [List.length_append];simp only [List.length_singleton] at this;omega
        generalize out++[PLn.mk [97,110,99,104,111,114,115] (YW e)].filter JQ = out2 at *
        refine YO (ι:=Unit) (fun _=>True) (fun _=>rlK e (out2++[PLn.mk [104,97,115,104,101,115] (Xn e)].filter JQ)) (fun K' hK'=>?_) (fun _ _=>?_)
        ·have lmv:((Xn e).map V.str).length = (Xn e).length:=List.length_map _
         by_cases hf:JQ ⟨[104,97,115,104,101,115],Xn e⟩ = true
         ·have e7:decide ((((Xn e).length:Nat):Int) > 0) = true:=hf
          have hb:List.map PLn.v3 out2++[.agg [V.str [104,97,115,104,101,115],.sl 1 ((Xn e).map V.str),V.int 0]] = (out2++[PLn.mk [104,97,115,104,101,115] (Xn e)]).map PLn.v3:=by rw [List.map_append];rfl
          have hln:out2.length + 1 = (out2++[PLn.mk [104,97,115,104,101,115] (Xn e)]).length:=by simp
          have hff:[PLn.mk [104,97,115,104,101,115] (Xn e)].filter JQ = [PLn.mk [104,97,115,104,101,115] (Xn e)]:=by rw [List.filter_cons_of_pos hf,List.filter_nil]
          rw [hff] at hK'
          (have zx:=And.intro lmv (And.intro e7 (And.intro hb hln)));refine zgo ?_;repeat' first|exact zt|apply zan|intro hc
          all_goals first|exact hK' _ () (Qk [(0,7001)]) trivial (QR [(0,7001)] (by simp only [go_sem,zwl,rlK,QZ];first|done|exact Y4 _|(repeat' (first|rfl|apply And.intro|omega|exact fun h=>h|exact Exists.intro _ rfl))) (by simp only [go_sem,zwl,rlK,QZ];first|done|exact Y4 _|(repeat' (first|rfl|apply And.intro|omega|exact fun h=>h|exact Exists.intro _ rfl))) (by simp [Qk]) (by simp [rlK,QZ];omega) (by omega))
         ·have e7:decide ((((Xn e).length:Nat):Int) > 0) = false:=by simpa [JQ] using hf
          have hff:[PLn.mk [104,97,115,104,101,115] (Xn e)].filter JQ = []:=by rw [List.filter_cons_of_neg (by simpa using hf),List.filter_nil]
          rw [hff,List.append_nil] at hK'
          (have zx:=And.intro lmv e7);refine zgo ?_;repeat' first|exact zt|apply zan|intro hc
          all_goals first|exact hK' _ () (Qk []) trivial (QR [] (by simp only [go_sem,zwl,rlK,QZ]<;>exact zcc) (by simp only [go_sem,zwl,rlK,QZ]<;>exact zcc) (by simp [Qk]) (by simp [rlK,QZ]) (by omega))
        have hol3:(out2++[PLn.mk [104,97,115,104,101,115] (Xn e)].filter JQ).length≤7:=by
         have:=List.length_filter_le JQ [PLn.mk [104,97,115,104,101,115] (Xn e)]
         rw [List.length_append];simp only [List.length_singleton] at this;omega
        generalize out2++[PLn.mk [104,97,115,104,101,115] (Xn e)].filter JQ = out3 at *
        refine zgo ?_;repeat' first|exact zt|apply zan|intro hc
        all_goals first|exact Qn _ rfl ⟨avx rfl rfl,rfl,trivial⟩
       ·obtain ⟨hj',hget,hr⟩:=Ql hdj
        have hw:=Qj (k:=j) (by omega)
        have e2:decide ((j:Int) < ((e.hashes.length:Nat):Int)) = true:=by simp;omega
        have hns:(e.hashes.take (j + 1)).map (fun n=>(Jk n).name) = (e.hashes.take j).map (fun n=>(Jk n).name)++[(Jk x).name]:=by rw [List.take_add_one,hget,List.map_append];rfl
        have hnl:((e.hashes.take j).map fun n=>(Jk n).name).length≤2 ^ 30:=by simp;omega
        have hnm:=(z4 x).b
        generalize (e.hashes.take j).map (fun n=>(Jk n).name) = ns at *
        have hb:List.map V.str ns++[V.str (Jk x).name] = (ns++[(Jk x).name]).map V.str:=by rw [List.map_append];rfl
        have hln:ns.length + 1 = (ns++[(Jk x).name]).length:=by simp
        (have zx:=And.intro lmH (And.intro e2 (And.intro hw (And.intro hget (And.intro hb hln)))));refine zgo ?_;repeat' first|exact zt|apply zan|intro hc
        all_goals first
         | (refine hL2 _ (j + 1) (Qk [(3,13004)]) (by omega) (by omega) ?_
            rw [hns]
            exact QR [(3,13004)] (by simp only [go_sem,zwl,rlH,QL.cells]<;>exact zcc) (by simp only [go_sem,zwl,rlH,QL.cells]<;>exact zcc) (by simp [Qk]) (by simp;omega) (by omega))
      ·obtain ⟨hk',hget,hr⟩:=Ql hd
       have hw:=Qj (k:=k) (by omega)
       have e1:decide ((k:Int) < ((e.anchors.length:Nat):Int)) = true:=by simp;omega
       have hns:(e.anchors.take (k + 1)).map Lib.itoa = (e.anchors.take k).map Lib.itoa++[Lib.itoa x]:=by rw [List.take_add_one,hget,List.map_append];rfl
       have hnl:((e.anchors.take k).map Lib.itoa).length≤2 ^ 30:=by simp;omega
       have hxr:=List.all_eq_true.1 hB.2.2.2.1 x (List.mem_of_getElem? hget)
       simp only [aeH,Bool.and_eq_true,decide_eq_true_eq] at hxr
       have hit:=(z3 x (by omega) (by omega)).b
       generalize (e.anchors.take k).map Lib.itoa = ns at *
       have hb:List.map V.str ns++[V.str (Lib.itoa x)] = (ns++[Lib.itoa x]).map V.str:=by rw [List.map_append];rfl
       have hln:ns.length + 1 = (ns++[Lib.itoa x]).length:=by simp
       (have zx:=And.intro lmA (And.intro e1 (And.intro hw (And.intro hget (And.intro hb hln)))));refine zgo ?_;repeat' first|exact zt|apply zan|intro hc
       all_goals first
        | (refine hL _ (k + 1) (Qk [(2,13004)]) (by omega) (by omega) ?_
           rw [hns]
           exact QR [(2,13004)] (by simp only [go_sem,zwl,rlG,QL.cells]<;>exact zcc) (by simp only [go_sem,zwl,rlG,QL.cells]<;>exact zcc) (by simp [Qk]) (by simp;omega) (by omega))
     ·obtain ⟨hk',hget,hr⟩:=Ql hd
      have hw:=Qj (k:=k) (by omega)
      have e1:decide ((k:Int) < ((al.length:Nat):Int)) = true:=by simp;omega
      have hnm:=(z1 x (hn x (List.mem_of_getElem? hget))).b
      by_cases hx:QX x = true
      ·have hg2:(al.take (k + 1)).all QX = true:=by rw [List.take_add_one,hget,List.all_append,hgood];simp [hx]
       rw [hx] at hnm
       (have zx:=And.intro lma (And.intro e1 (And.intro hw hget)));refine zgo ?_;repeat' first|exact zt|apply zan|intro hc
       all_goals first
        | exact hL _ (k + 1) (Qk []) ⟨by omega,hg2⟩ (by omega) (QR [] (by simp only [go_sem,zwl,QZ,QL.cells]<;>exact zcc) (by simp only [go_sem,zwl,QZ,QL.cells]<;>exact zcc) (by simp [Qk]) (by simp [QZ]) (by omega))
      ·have hx':QX x = false:=by simpa using hx
       rw [hx'] at hnm
       have hna:¬ Wx e al = true:=by
        intro h
        simp only [Wx,Bool.and_eq_true,decide_eq_true_eq] at h
        exact hx (List.all_eq_true.1 h.2 x (List.mem_of_getElem? hget))
       rw [r18 (.inl hna)]
       (have zx:=And.intro lma (And.intro e1 (And.intro hw hget)));exact zg
   ·have e0:(((al.length:Nat):Int) != ((e.idents.length:Nat):Int)) = true:=by simp;omega
    have hna:¬ Wx e al = true:=by
     intro h
     simp only [Wx,Bool.and_eq_true,decide_eq_true_eq] at h
     exact hl h.1
    rw [r18 (.inl hna)]
    (have zx:=And.intro lma (And.intro lmi (And.intro lms e0)));exact zg
  ·rw [if_neg hck] at h0
   have hr:WC e al false = .tup [.sl 3 [],V.int 19]:=by rw [WC,if_neg hck]
   rw [hr]
   simp only [QL.v,QL.cells] at h0 ⊢
   exact zg
 ·have h0:=(z0 e sm).b
  by_cases hck:JS e = true
  ·rw [if_pos hck] at h0
   have hB:=hck
   simp only [JS,apF,anS,apE,Bool.and_eq_true,decide_eq_true_eq] at hB
   have lma:(al.map V.str).length = al.length:=List.length_map _
   have lmi:(e.idents.map QI.v).length = e.idents.length:=List.length_map _
   have lms:(e.suites.map V.int).length = e.suites.length:=List.length_map _
   simp only [QL.v,QL.cells] at h0 ⊢
   have r18:(¬ Wx e al = true∨(true = true∧e.suites = []))→WC e al true = .tup [.sl 3 [],V.int 18]:=by
    intro h
    rw [WC,if_pos hck]
    rcases h with h|h
    ·rw [if_neg h]
    ·rw [if_pos h];split<;>rfl
   by_cases hl:al.length = e.idents.length
   ·have e0:(((al.length:Nat):Int) != ((e.idents.length:Nat):Int)) = false:=by simp [hl]
    by_cases hs:(true = true∧e.suites = [])
    ·rw [r18 (.inr hs)]
     have e2:(((e.suites.length:Nat):Int) == 0) = true:=by simp [hs.2]
     (have zx:=And.intro lma (And.intro lmi (And.intro lms (And.intro e0 e2))));exact zg
    ·obtain ⟨q2,e2,hq2⟩:∃ q,(((e.suites.length:Nat):Int) == 0) = q∧(true = true→q = false):=⟨_,rfl,fun _=>by simpa using hs⟩
     first|obtain rfl:=hq2 rfl|skip
     (have zx:=And.intro lma (And.intro lmi (And.intro lms (And.intro e0 e2))));refine zgo ?_;repeat' first|exact zt|apply zan|intro hc
     refine QY (ι:=Nat) (fun k=>k≤al.length∧(al.take k).all QX = true) (fun k=>QZ [(1,.sl 1 (al.map V.str)),(3,.ptr 0 0),(9,V.int k)] [(0,.box true e.cells)] 1) (fun k=>al.length - k) 0 ⟨Nat.zero_le _,rfl⟩ (Qk []) (QR [] (by simp only [go_sem,zwl,QL.cells]<;>exact zcc) (by simp only [go_sem,zwl,QL.cells]<;>exact zcc) (by simp [Qk]) (by simp) (by omega)) fun k hk K' hL=>?_
     obtain ⟨hk,hgood⟩:=hk
     rcases hd:al.drop k with _|⟨x,r⟩
     ·have hkl:=Qs hd
      have e1:decide ((k:Int) < ((al.length:Nat):Int)) = false:=by simp;omega
      have e3:al.take k = al:=List.take_of_length_le hkl
      rw [e3] at hgood
      have hal:Wx e al = true:=by simp [Wx,hl,hgood]
      have hrs:WC e al true = .tup [.sl 3 ((Jz e al).map PLn.v3),V.int 0]:=by rw [WC,if_pos hck,if_pos hal,if_neg hs]
      have hp:=(z2 e.suites sm.hs).b
      rw [aie hB.1.2.2.2.2] at hp
      rw [hrs]
      refine VC ?_
      refine Ve fun K' hK=>?_
      simp (maxSteps:=1000000) only [go_sem,QZ,QL.cells,lma,e1]
      refine hK _ ?_
      clear hK
      clear K'
      (try simp only [go_sem])
      refine xK ⟨false,rfl,fun h=>Bool.noConfusion h,fun _=>?_⟩
      refine aeG ?_
      simp only [go_sem]
      clear hL
      refine YO (ι:=Unit) (fun _=>True) (fun _=>rlP e al) (fun K' hK'=>?_) (fun _ _=>?_)
      ·refine zgo ?_;repeat' first|exact zt|apply zan|intro hc
       all_goals first|exact hK' _ () (Qk []) trivial (QR [] (by simp only [go_sem,zwl,rlP,QZ,QL.cells]<;>exact zcc) (by simp only [go_sem,zwl,rlP,QZ,QL.cells]<;>exact zcc) (by simp [Qk]) (by simp [rlP,QZ]) (by omega))
      simp only [rlP,QZ]
      refine Ve fun K' hK=>?_
      simp (maxSteps:=1000000) only [go_sem,QL.cells]
      refine hK _ ?_
      clear hK
      clear K'
      (try simp only [go_sem])
      refine YO (ι:=Unit) (fun _=>True) (fun _=>rlB e al) (fun K' hK'=>?_) (fun _ _=>?_)
      ·cases ho:e.own
       ·have eo:arD e = [99,108,105,101,110,116]:=by simp [arD,ho]
        (have zx:=ho);refine zgo ?_;repeat' first|exact zt|apply zan|intro hc
        all_goals first|exact hK' _ () (Qk []) trivial (QR [] (by simp only [go_sem,zwl,rlB,QZ,QL.cells,eo,ho]<;>exact zcc) (by simp only [go_sem,zwl,rlB,QZ,QL.cells,eo,ho]<;>exact zcc) (by simp [Qk]) (by simp [rlB,QZ]) (by omega))
       ·have eo:arD e = [111,119,110]:=by simp [arD,ho]
        (have zx:=ho);refine zgo ?_;repeat' first|exact zt|apply zan|intro hc
        all_goals first|exact hK' _ () (Qk []) trivial (QR [] (by simp only [go_sem,zwl,rlB,QZ,QL.cells,eo,ho]<;>exact zcc) (by simp only [go_sem,zwl,rlB,QZ,QL.cells,eo,ho]<;>exact zcc) (by simp [Qk]) (by simp [rlB,QZ]) (by omega))
      refine YO (ι:=Unit) (fun _=>True) (fun _=>rlC e al) (fun K' hK'=>?_) (fun _ _=>?_)
      ·simp only [rlB,QZ]
       cases ho:e.fall
       ·have eo:qV e = [110,111]:=by simp [qV,ho]
        (have zx:=ho);refine zgo ?_;repeat' first|exact zt|apply zan|intro hc
        all_goals first|exact hK' _ () (Qk []) trivial (QR [] (by simp only [go_sem,zwl,rlC,QZ,QL.cells,eo,ho]<;>exact zcc) (by simp only [go_sem,zwl,rlC,QZ,QL.cells,eo,ho]<;>exact zcc) (by simp [Qk]) (by simp [rlC,QZ]) (by omega))
       ·have eo:qV e = [121,101,115]:=by simp [qV,ho]
        (have zx:=ho);refine zgo ?_;repeat' first|exact zt|apply zan|intro hc
        all_goals first|exact hK' _ () (Qk []) trivial (QR [] (by simp only [go_sem,zwl,rlC,QZ,QL.cells,eo,ho]<;>exact zcc) (by simp only [go_sem,zwl,rlC,QZ,QL.cells,eo,ho]<;>exact zcc) (by simp [Qk]) (by simp [rlC,QZ]) (by omega))
      have hm1:=hB.1.2.1
      have hm2:=hB.1.2.2.1
      have hm3:=hB.1.2.2.2.1
      have hI1:=(z3 e.least (by omega) (by omega)).b
      have hI2:=(z3 e.most (by omega) (by omega)).b
      refine YO (ι:=Unit) (fun _=>True) (fun _=>rlD e al) (fun K' hK'=>?_) (fun _ _=>?_)
      ·simp only [rlC,QZ]
       refine zgo ?_;repeat' first|exact zt|apply zan|intro hc
       all_goals exact hK' _ () (Qk [(1,3001),(2,8001),(3,11001),(4,14001),(5,16001)]) trivial (QR [(1,3001),(2,8001),(3,11001),(4,14001),(5,16001)] (by simp only [go_sem,zwl,rlD,QZ,QL.cells]<;>exact zcc) (by simp only [go_sem,zwl,rlD,QZ,QL.cells]<;>exact zcc) (by simp [Qk]) (by simp [rlD,QZ];omega) (by omega))
      refine ajg (s1:=axW e al) (VJ [0,5] none (fun p hp=>?_) ?_ (by simp) (by rw [hm];rfl)) ?_
      ·simp only [List.mem_cons,List.not_mem_nil,or_false] at hp
       rcases hp with rfl|rfl|rfl|rfl
       ·show conv _ _ _ (.sl 1 (al.map V.str)) (.sl 1 (al.map V.str))
        simp [conv]
       ·show conv _ _ _ (.ptr 0 0) (.ptr 0 0)
        simp [conv]
       ·show conv _ _ _ (V.str (qV e)) (V.str (qV e))
        simp [conv,V.str]
       ·show conv _ _ _ (.hd 5 0 4) (.hd 1 0 4)
        simp [conv]
      ·refine ⟨⟨_,rfl,fun h=>h,by simp [QL.cells,Jd,conv,V.str,V.int,V.bool]⟩,⟨_,rfl,fun h=>h,rfl,?_,?_⟩,trivial⟩
       ·have ho:[arD e] = [if e.own = true then [111,119,110] else [99,108,105,101,110,116]]:=rfl
        refine ⟨agH _ _ rfl (by decide),agH _ _ rfl (by decide),agH _ _ rfl (by decide),agH _ _ rfl (by decide),trivial⟩
       ·exact Y4 _
      have hh4:(VI e).length = 4:=rfl
      refine YO (ι:=Unit) (fun _=>True) (fun _=>rlF e (VI e++[PLn.mk [107,101,121,115] al].filter JQ)) (fun K' hK'=>?_) (fun _ _=>?_)
      ·simp only [axW,stL]
       generalize VI e = out at *
       by_cases hf:JQ ⟨[107,101,121,115],al⟩ = true
       ·have e7:decide (((al.length:Nat):Int) > 0) = true:=hf
        have hb:List.map PLn.v3 out++[.agg [V.str [107,101,121,115],.sl 1 (al.map V.str),V.int 0]] = (out++[PLn.mk [107,101,121,115] al]).map PLn.v3:=by rw [List.map_append];rfl
        have hln:4 + 1 = (out++[PLn.mk [107,101,121,115] al]).length:=by rw [List.length_append,hh4];rfl
        have hff:[PLn.mk [107,101,121,115] al].filter JQ = [PLn.mk [107,101,121,115] al]:=by rw [List.filter_cons_of_pos hf,List.filter_nil]
        have htk:(out.map PLn.v3).take 4 = out.map PLn.v3:=by rw [List.take_of_length_le (by simp [hh4])]
        rw [hff] at hK'
        have hl5:(out++[PLn.mk [107,101,121,115] al]).length = 5:=by rw [List.length_append,hh4];rfl
        (have zx:=And.intro lma (And.intro e7 (And.intro htk hb)));refine zgo ?_;repeat' first|exact zt|apply zan|intro hc
        all_goals exact hK' _ () (Qk [(1,7002)]) trivial (QR [(1,7002)] (by simp only [go_sem,zwl,rlF,QZ,QL.cells,hl5];first|done|exact Y4 _|(repeat' (first|rfl|apply And.intro|omega|exact fun h=>h|exact Exists.intro _ rfl))) (by simp only [go_sem,zwl,rlF,QZ,QL.cells,hl5];first|done|exact Y4 _|(repeat' (first|rfl|apply And.intro|omega|exact fun h=>h|exact Exists.intro _ rfl))) (by simp [Qk]) (by simp [rlF,QZ];omega) (by omega))
       ·have e7:decide (((al.length:Nat):Int) > 0) = false:=by simpa [JQ] using hf
        have hff:[PLn.mk [107,101,121,115] al].filter JQ = []:=by rw [List.filter_cons_of_neg (by simpa using hf),List.filter_nil]
        rw [hff,List.append_nil] at hK'
        (have zx:=And.intro lma e7);refine zgo ?_;repeat' first|exact zt|apply zan|intro hc
        all_goals exact hK' _ () (Qk []) trivial (QR [] (by simp only [go_sem,zwl,rlF,QZ,QL.cells,hh4]<;>exact zcc) (by simp only [go_sem,zwl,rlF,QZ,QL.cells,hh4]<;>exact zcc) (by simp [Qk]) (by simp [rlF,QZ]) (by omega))
      have hlst:Jz e al = VI e++[PLn.mk [107,101,121,115] al].filter JQ++[PLn.mk [97,110,99,104,111,114,115] (YW e)].filter JQ++[PLn.mk [104,97,115,104,101,115] (Xn e)].filter JQ++[⟨[102,97,108,108,98,97,99,107],[qV e]⟩]:=by
       have:aax e al = [PLn.mk [107,101,121,115] al]++([PLn.mk [97,110,99,104,111,114,115] (YW e)]++[PLn.mk [104,97,115,104,101,115] (Xn e)]):=rfl
       rw [Jz,this,List.filter_append,List.filter_append,List.append_assoc,List.append_assoc,List.append_assoc,List.append_assoc,List.append_assoc,List.append_assoc];rfl
      have hol:(VI e++[PLn.mk [107,101,121,115] al].filter JQ).length≤5:=by
       have:=List.length_filter_le JQ [PLn.mk [107,101,121,115] al]
       rw [List.length_append,hh4];simp only [List.length_singleton] at this;omega
      rw [hlst]
      clear hlst hh4 hrs
      generalize VI e++[PLn.mk [107,101,121,115] al].filter JQ = out at *
      have lmA:(e.anchors.map V.int).length = e.anchors.length:=List.length_map _
      have lmH:(e.hashes.map V.int).length = e.hashes.length:=List.length_map _
      have hha:=sm.ha
      have hhh:=sm.hh
      refine zgo ?_;repeat' first|exact zt|apply zan|intro hc
      refine QY (ι:=Nat) (fun k=>k≤e.anchors.length) (fun k=>rlG e out ((e.anchors.take k).map Lib.itoa) k) (fun k=>e.anchors.length - k) 0 (Nat.zero_le _) (Qk [(2,2),(3,1002)]) (QR [(2,2),(3,1002)] (by simp only [go_sem,zwl,rlG,QL.cells]<;>exact zcc) (by simp only [go_sem,zwl,rlG,QL.cells]<;>exact zcc) (by simp [Qk]) (by simp;omega) (by omega)) fun k hk K' hL=>?_
      rcases hd:e.anchors.drop k with _|⟨x,r⟩
      ·have hkl:=Qs hd
       have e1:decide ((k:Int) < ((e.anchors.length:Nat):Int)) = false:=by simp;omega
       have e3:e.anchors.take k = e.anchors:=List.take_of_length_le hkl
       rw [e3]
       show AWp _ _ _ (rlG e out (YW e) k) _ _ _
       (have zx:=And.intro lmA e1);refine zgo ?_;repeat' first|exact zt|apply zan|intro hc
       refine QY (ι:=Nat) (fun k=>k≤e.hashes.length) (fun k=>rlH e out (YW e) ((e.hashes.take k).map fun n=>(Jk n).name) k) (fun k=>e.hashes.length - k) 0 (Nat.zero_le _) (Qk []) (QR [] (by simp only [go_sem,zwl,rlH,QL.cells]<;>exact zcc) (by simp only [go_sem,zwl,rlH,QL.cells]<;>exact zcc) (by simp [Qk]) (by simp) (by omega)) fun j hj K2 hL2=>?_
       rcases hdj:e.hashes.drop j with _|⟨x,r⟩
       ·have hjl:=Qs hdj
        have e2:decide ((j:Int) < ((e.hashes.length:Nat):Int)) = false:=by simp;omega
        have e4:e.hashes.take j = e.hashes:=List.take_of_length_le hjl
        rw [e4]
        show AWp _ _ _ (rlH e out (YW e) (Xn e) j) _ _ _
        refine VC ?_
        refine Ve fun K' hK=>?_
        simp (maxSteps:=1000000) only [go_sem,rlH,QZ,QL.cells,lmH,e2]
        refine hK _ ?_
        clear hK
        clear K'
        (try simp only [go_sem])
        refine xK ⟨false,rfl,fun h=>Bool.noConfusion h,fun _=>?_⟩
        refine aeG ?_
        simp only [go_sem]
        clear hL hL2
        refine ajg (s1:=rlI e out) (VJ [1] none (fun p hp=>?_) ?_ (by simp) (by rw [hm];rfl)) ?_
        ·simp only [List.mem_cons,List.not_mem_nil,or_false] at hp
         rcases hp with rfl|rfl|rfl|rfl
         ·show conv _ _ _ (V.str (qV e)) (V.str (qV e))
          simp [conv,V.str]
         ·show conv _ _ _ (.hd 1 0 out.length) (.hd 0 0 out.length)
          simp [conv]
         ·show conv _ _ _ (.hd 2 0 (YW e).length) (.sl 1 ((YW e).map V.str))
          simp only [conv]
          exact ⟨trivial,by simp,.inl ⟨true,_,rfl,by rw [List.drop_zero,XI]⟩⟩
         ·show conv _ _ _ (.hd 3 0 (Xn e).length) (.sl 1 ((Xn e).map V.str))
          simp only [conv]
          exact ⟨trivial,by simp,.inl ⟨true,_,rfl,by rw [List.drop_zero,XI]⟩⟩
        ·exact ⟨⟨_,rfl,fun h=>h,rfl,rfl⟩,trivial⟩
        refine YO (ι:=Unit) (fun _=>True) (fun _=>rlJ e (out++[PLn.mk [97,110,99,104,111,114,115] (YW e)].filter JQ)) (fun K' hK'=>?_) (fun _ _=>?_)
        ·simp only [rlI,stL]
         have lmv:((YW e).map V.str).length = (YW e).length:=List.length_map _
         by_cases hf:JQ ⟨[97,110,99,104,111,114,115],YW e⟩ = true
         ·have e7:decide ((((YW e).length:Nat):Int) > 0) = true:=hf
          have hb:List.map PLn.v3 out++[.agg [V.str [97,110,99,104,111,114,115],.sl 1 ((YW e).map V.str),V.int 0]] = (out++[PLn.mk [97,110,99,104,111,114,115] (YW e)]).map PLn.v3:=by rw [List.map_append];rfl
          have hln:out.length + 1 = (out++[PLn.mk [97,110,99,104,111,114,115] (YW e)]).length:=by simp
          have hff:[PLn.mk [97,110,99,104,111,114,115] (YW e)].filter JQ = [PLn.mk [97,110,99,104,111,114,115] (YW e)]:=by rw [List.filter_cons_of_pos hf,List.filter_nil]
          rw [hff] at hK'
          (have zx:=And.intro lmv (And.intro e7 (And.intro hb hln)));refine zgo ?_;repeat' first|exact zt|apply zan|intro hc
          all_goals first|exact hK' _ () (Qk [(0,7001)]) trivial (QR [(0,7001)] (by simp only [go_sem,zwl,rlJ,QZ];first|done|exact Y4 _|(repeat' (first|rfl|apply And.intro|omega|exact fun h=>h|exact Exists.intro _ rfl))) (by simp only [go_sem,zwl,rlJ,QZ];first|done|exact Y4 _|(repeat' (first|rfl|apply And.intro|omega|exact fun h=>h|exact Exists.intro _ rfl))) (by simp [Qk]) (by simp [rlJ,QZ];omega) (by omega))
         ·have e7:decide ((((YW e).length:Nat):Int) > 0) = false:=by simpa [JQ] using hf
          have hff:[PLn.mk [97,110,99,104,111,114,115] (YW e)].filter JQ = []:=by rw [List.filter_cons_of_neg (by simpa using hf),List.filter_nil]
          rw [hff,List.append_nil] at hK'
          (have zx:=And.intro lmv e7);refine zgo ?_;repeat' first|exact zt|apply zan|intro hc
          all_goals first|exact hK' _ () (Qk []) trivial (QR [] (by simp only [go_sem,zwl,rlJ,QZ]<;>exact zcc) (by simp only [go_sem,zwl,rlJ,QZ]<;>exact zcc) (by simp [Qk]) (by simp [rlJ,QZ]) (by omega))
        have hol2:(out++[PLn.mk [97,110,99,104,111,114,115] (YW e)].filter JQ).length≤6:=by
         have:=List.length_filter_le JQ [PLn.mk [97,110,99,104,111,114,115] (YW e)]
         rw [List.length_append];simp only [List.length_singleton] at this;omega
        generalize out++[PLn.mk [97,110,99,104,111,114,115] (YW e)].filter JQ = out2 at *
        refine YO (ι:=Unit) (fun _=>True) (fun _=>rlK e (out2++[PLn.mk [104,97,115,104,101,115] (Xn e)].filter JQ)) (fun K' hK'=>?_) (fun _ _=>?_)
        ·have lmv:((Xn e).map V.str).length = (Xn e).length:=List.length_map _
         by_cases hf:JQ ⟨[104,97,115,104,101,115],Xn e⟩ = true
         ·have e7:decide ((((Xn e).length:Nat):Int) > 0) = true:=hf
          have hb:List.map PLn.v3 out2++[.agg [V.str [104,97,115,104,101,115],.sl 1 ((Xn e).map V.str),V.int 0]] = (out2++[PLn.mk [104,97,115,104,101,115] (Xn e)]).map PLn.v3:=by rw [List.map_append];rfl
          have hln:out2.length + 1 = (out2++[PLn.mk [104,97,115,104,101,115] (Xn e)]).length:=by simp
          have hff:[PLn.mk [104,97,115,104,101,115] (Xn e)].filter JQ = [PLn.mk [104,97,115,104,101,115] (Xn e)]:=by rw [List.filter_cons_of_pos hf,List.filter_nil]
          rw [hff] at hK'
          (have zx:=And.intro lmv (And.intro e7 (And.intro hb hln)));refine zgo ?_;repeat' first|exact zt|apply zan|intro hc
          all_goals first|exact hK' _ () (Qk [(0,7001)]) trivial (QR [(0,7001)] (by simp only [go_sem,zwl,rlK,QZ];first|done|exact Y4 _|(repeat' (first|rfl|apply And.intro|omega|exact fun h=>h|exact Exists.intro _ rfl))) (by simp only [go_sem,zwl,rlK,QZ];first|done|exact Y4 _|(repeat' (first|rfl|apply And.intro|omega|exact fun h=>h|exact Exists.intro _ rfl))) (by simp [Qk]) (by simp [rlK,QZ];omega) (by omega))
         ·have e7:decide ((((Xn e).length:Nat):Int) > 0) = false:=by simpa [JQ] using hf
          have hff:[PLn.mk [104,97,115,104,101,115] (Xn e)].filter JQ = []:=by rw [List.filter_cons_of_neg (by simpa using hf),List.filter_nil]
          rw [hff,List.append_nil] at hK'
          (have zx:=And.intro lmv e7);refine zgo ?_;repeat' first|exact zt|apply zan|intro hc
          all_goals first|exact hK' _ () (Qk []) trivial (QR [] (by simp only [go_sem,zwl,rlK,QZ]<;>exact zcc) (by simp only [go_sem,zwl,rlK,QZ]<;>exact zcc) (by simp [Qk]) (by simp [rlK,QZ]) (by omega))
        have hol3:(out2++[PLn.mk [104,97,115,104,101,115] (Xn e)].filter JQ).length≤7:=by
         have:=List.length_filter_le JQ [PLn.mk [104,97,115,104,101,115] (Xn e)]
         rw [List.length_append];simp only [List.length_singleton] at this;omega
        generalize out2++[PLn.mk [104,97,115,104,101,115] (Xn e)].filter JQ = out3 at *
        refine zgo ?_;repeat' first|exact zt|apply zan|intro hc
        all_goals first|exact Qn _ rfl ⟨avx rfl rfl,rfl,trivial⟩
       ·obtain ⟨hj',hget,hr⟩:=Ql hdj
        have hw:=Qj (k:=j) (by omega)
        have e2:decide ((j:Int) < ((e.hashes.length:Nat):Int)) = true:=by simp;omega
        have hns:(e.hashes.take (j + 1)).map (fun n=>(Jk n).name) = (e.hashes.take j).map (fun n=>(Jk n).name)++[(Jk x).name]:=by rw [List.take_add_one,hget,List.map_append];rfl
        have hnl:((e.hashes.take j).map fun n=>(Jk n).name).length≤2 ^ 30:=by simp;omega
        have hnm:=(z4 x).b
        generalize (e.hashes.take j).map (fun n=>(Jk n).name) = ns at *
        have hb:List.map V.str ns++[V.str (Jk x).name] = (ns++[(Jk x).name]).map V.str:=by rw [List.map_append];rfl
        have hln:ns.length + 1 = (ns++[(Jk x).name]).length:=by simp
        (have zx:=And.intro lmH (And.intro e2 (And.intro hw (And.intro hget (And.intro hb hln)))));refine zgo ?_;repeat' first|exact zt|apply zan|intro hc
        all_goals first
         | (refine hL2 _ (j + 1) (Qk [(3,13004)]) (by omega) (by omega) ?_
            rw [hns]
            exact QR [(3,13004)] (by simp only [go_sem,zwl,rlH,QL.cells]<;>exact zcc) (by simp only [go_sem,zwl,rlH,QL.cells]<;>exact zcc) (by simp [Qk]) (by simp;omega) (by omega))
      ·obtain ⟨hk',hget,hr⟩:=Ql hd
       have hw:=Qj (k:=k) (by omega)
       have e1:decide ((k:Int) < ((e.anchors.length:Nat):Int)) = true:=by simp;omega
       have hns:(e.anchors.take (k + 1)).map Lib.itoa = (e.anchors.take k).map Lib.itoa++[Lib.itoa x]:=by rw [List.take_add_one,hget,List.map_append];rfl
       have hnl:((e.anchors.take k).map Lib.itoa).length≤2 ^ 30:=by simp;omega
       have hxr:=List.all_eq_true.1 hB.2.2.2.1 x (List.mem_of_getElem? hget)
       simp only [aeH,Bool.and_eq_true,decide_eq_true_eq] at hxr
       have hit:=(z3 x (by omega) (by omega)).b
       generalize (e.anchors.take k).map Lib.itoa = ns at *
       have hb:List.map V.str ns++[V.str (Lib.itoa x)] = (ns++[Lib.itoa x]).map V.str:=by rw [List.map_append];rfl
       have hln:ns.length + 1 = (ns++[Lib.itoa x]).length:=by simp
       (have zx:=And.intro lmA (And.intro e1 (And.intro hw (And.intro hget (And.intro hb hln)))));refine zgo ?_;repeat' first|exact zt|apply zan|intro hc
       all_goals first
        | (refine hL _ (k + 1) (Qk [(2,13004)]) (by omega) (by omega) ?_
           rw [hns]
           exact QR [(2,13004)] (by simp only [go_sem,zwl,rlG,QL.cells]<;>exact zcc) (by simp only [go_sem,zwl,rlG,QL.cells]<;>exact zcc) (by simp [Qk]) (by simp;omega) (by omega))
     ·obtain ⟨hk',hget,hr⟩:=Ql hd
      have hw:=Qj (k:=k) (by omega)
      have e1:decide ((k:Int) < ((al.length:Nat):Int)) = true:=by simp;omega
      have hnm:=(z1 x (hn x (List.mem_of_getElem? hget))).b
      by_cases hx:QX x = true
      ·have hg2:(al.take (k + 1)).all QX = true:=by rw [List.take_add_one,hget,List.all_append,hgood];simp [hx]
       rw [hx] at hnm
       (have zx:=And.intro lma (And.intro e1 (And.intro hw hget)));refine zgo ?_;repeat' first|exact zt|apply zan|intro hc
       all_goals first
        | exact hL _ (k + 1) (Qk []) ⟨by omega,hg2⟩ (by omega) (QR [] (by simp only [go_sem,zwl,QZ,QL.cells]<;>exact zcc) (by simp only [go_sem,zwl,QZ,QL.cells]<;>exact zcc) (by simp [Qk]) (by simp [QZ]) (by omega))
      ·have hx':QX x = false:=by simpa using hx
       rw [hx'] at hnm
       have hna:¬ Wx e al = true:=by
        intro h
        simp only [Wx,Bool.and_eq_true,decide_eq_true_eq] at h
        exact hx (List.all_eq_true.1 h.2 x (List.mem_of_getElem? hget))
       rw [r18 (.inl hna)]
       (have zx:=And.intro lma (And.intro e1 (And.intro hw hget)));exact zg
   ·have e0:(((al.length:Nat):Int) != ((e.idents.length:Nat):Int)) = true:=by simp;omega
    have hna:¬ Wx e al = true:=by
     intro h
     simp only [Wx,Bool.and_eq_true,decide_eq_true_eq] at h
     exact hl h.1
    rw [r18 (.inl hna)]
    (have zx:=And.intro lma (And.intro lmi (And.intro lms e0)));exact zg
  ·rw [if_neg hck] at h0
   have hr:WC e al true = .tup [.sl 3 [],V.int 19]:=by rw [WC,if_neg hck]
   rw [hr]
   simp only [QL.v,QL.cells] at h0 ⊢
   exact zg
theorem arW (x:List UInt8):∀ ws:List (List UInt8),aeI (ws++[x]) = if 0 < ws.length then aeI ws++[32]++x else x
 | []=>by simp [aeI,List.intercalate,List.intersperse]
 | y :: r=>by
   rw [if_pos (by simp)]
   unfold aeI
   rw [List.cons_append,ady,ady,List.map_append,List.flatten_append]
   simp
def rtA (e:QL) (ls:List PLn) (out:List Vq) (k:Nat):St:=QZ [(2,.ptr 0 0),(6,.sl 3 (ls.map PLn.v3)),(8,.hd 1 0 out.length),(9,V.int k)] [(0,.box true e.cells),(1,.buf true 4 (out.map Vq.v))] 2
@[go_sem] def qQ:AO:=xo 60 (.build [vs0,vs0,vs0,vi0] [(0,1,(.t 53)),(1,1,(.t 58)),(2,1,(.t 59))])
@[go_sem] def KL:AO:=xo 61 (.bslice 1 4 true [vs0,vs0,vs0,vi0] [(0,(.t 60))])
@[go_sem] def KJ:AO:=xo 62 (.append 4 56 [vs0,vs0,vs0,vi0] (.t 51) (.t 61))
def xl:List AO:=[mv 51 8,fa 52 0 2,ld 53 1 52,mv 54 6,mv 55 9,ia 56 3 54 55,fa 57 0 56,ld 58 1 57,mv 59 10,qQ,KL,KJ,mv 8 62]
def xr:List (List Nat):=[[],[],[1],[],[],[3,4],[5],[6],[],[2,7,8],[9],[0,10],[11,11,0,1,2,3,4,5,6,7,8,9,10,11]]
def yS:OT:=.one 0 (.one 1 (.one 3 (.one 4 (.one 8 (.or 2 (.one 5 (.one 6 (.one 7 (.one 9 (.one 10 (.one 11 (.one 12 .done))))))) (.or 5 (.one 6 (.or 2 (.one 7 (.one 9 (.one 10 (.one 11 (.one 12 .done))))) (.or 7 (.one 2 (.one 9 (.one 10 (.one 11 (.one 12 .done))))) .done))) .done))))))
@[go_sem] def qU:OP:=oN 9 qQ (oN 10 KL (.one 11 true [10] KJ (oN 12 (mv 8 62) .done)))
@[go_sem] def qT:OP:=.one 7 true [] (ld 58 1 57) qU
@[go_sem] def y9:OP:=oN 0 (mv 51 8) (oN 1 (fa 52 0 2) (oN 3 (mv 54 6) (oN 4 (mv 55 9) (oN 8 (mv 59 10) (.or 2 true [] (ld 53 1 52) (.one 5 true [] (ia 56 3 54 55) (oN 6 (fa 57 0 56) qT)) (.or 5 true [] (ia 56 3 54 55) (oN 6 (fa 57 0 56) (.or 2 true [] (ld 53 1 52) qT (.or 7 true [] (ld 58 1 57) (.one 2 true [] (ld 53 1 52) qU) .done))) .done))))))
instance:RG [2,5,7] yS (y9) (xl) xr 13 (fun _=>false):=⟨rfl,by kernel_rfl,by kernel_rfl⟩
def qe (XB:Nat):AC:=Qa [1,2] (.reg [xo 2 (.box true 9 (.t 0)),xo 4 (.mknil 4),mc 5 (V.int 0)]) (Qa [2,6,7] (.reg [xo 13 (.load true 9 (.t 2)),mv 14 1,xo 15 (.call XB [(.t 13),(.t 14),(.c (V.bool true))]),mv 12 15,ex 16 12 0,ex 17 12 1,mv 6 16,mv 7 17]) (Qa [2,6] (Qa [2,6,7,19] (.reg [mv 18 7,bc 19 .neq 18 (V.int 0)]) (.cond (.t 19) (Qa [4,5] (.reg [mv 20 7,xo 4 (.mknil 4),mv 5 20]) .ret) .skip)) (Qa [2,6,8] (.reg [xo 8 (.mknil 4)]) (Qa [8] (Qa [2,6,8,9] (.reg [mc 9 (V.int 0)]) (.block 0 (JH [2,6,8,9] (Qa [2,6,8,9] (Qa [2,6,8,9,24] (.reg [mv 21 9,mv 22 6,ln 23 22,bn 24 .lss 21 23]) (.cond (.t 24) .skip (.exit 0))) (Qa [2,6,8,9] (.block 1 (Qa [2,6,8,9,10] (.reg [mc 10 (V.str [])]) (Qa [2,6,8,9,10] (Qa [2,6,8,9,10,11] (.reg [mc 11 (V.int 0)]) (.block 2 (JH [2,6,8,9,10,11] (Qa [2,6,8,9,10,11] (Qa [2,6,8,9,10,11,34] (.reg [mv 27 11,mv 28 6,mv 29 9,ia 30 3 28 29,fa 31 1 30,ld 32 1 31,ln 33 32,bn 34 .lss 27 33]) (.cond (.t 34) .skip (.exit 2))) (Qa [2,6,8,9,10,11] (.block 3 (Qa [2,6,8,9,10,11] (Qa [2,6,8,9,10,11,38] (.reg [mv 37 11,bc 38 .gtr 37 (V.int 0)]) (.cond (.t 38) (.reg [mv 39 10,bc 40 .add 39 (V.str [32]),mv 10 40]) .skip)) (.reg [mv 41 10,mv 42 6,mv 43 9,ia 44 3 42 43,fa 45 1 44,ld 46 1 45,mv 47 11,ia 48 1 46 47,ld 49 1 48,bn 50 .add 41 49,mv 10 50]))) (.reg [mv 35 11,bc 36 .add 35 (V.int 1),mv 11 36])))))) (yh [2,5,7] yS (y9) (xl) xr)))) (.reg [mv 25 9,bc 26 .add 25 (V.int 1),mv 9 26])))))) (Qa [4,5] (.reg [mv 63 8,mv 4 63,mc 5 (V.int 0)]) .ret))))) def r_ref09_ToSettings:List Jl:=[.tmp 4,.tmp 5]
def Kn (Γ:Env) (f:Nat):Prop:=∀ (e:QL) (al:List (List UInt8)) (sm:e.Sm) (ha:al.length < 2 ^ 30) (hn:∀ x∈al,x.length < 2 ^ 60),EvC Γ f [e.v,.sl 1 (al.map V.str)] (qS e al)
theorem af9 {Γ:Env} {f XB:Nat} (h:Has Γ.P f 64 (qe XB) r_ref09_ToSettings) (z0:jR Γ XB):Kn Γ f:=by
 intro e al sm ha hn
 refine QV h zsi (agK _ _) fun C hC hm=>?_
 subst hC
 unfold qe
 have h0:=(z0 e al true sm ha hn).b
 by_cases hgood:JS e = true∧Wx e al = true∧e.suites≠[]
 ·obtain ⟨hck,hal,hs⟩:=hgood
  have hlv:WC e al true = .tup [.sl 3 ((Jz e al).map PLn.v3),V.int 0]:=by rw [WC,if_pos hck,if_pos hal,if_neg (fun h=>hs h.2)]
  have hr:qS e al = .tup [.sl 4 ((akj e al).map Vq.v),V.int 0]:=by rw [qS,if_pos hck,if_pos hal,if_neg hs]
  rw [hlv] at h0
  rw [hr]
  simp only [QL.v,QL.cells] at h0 ⊢
  have hsmall:=wq sm hck hal
  have hll:(Jz e al).length≤8:=by
   have:=List.length_filter_le JQ (aax e al)
   simp only [Jz,VI,aax,List.length_append,List.length_cons,List.length_nil] at *
   omega
  have lml:((Jz e al).map PLn.v3).length = (Jz e al).length:=List.length_map _
  have hset:akj e al = (Jz e al).map (abD e.name):=rfl
  rw [hset]
  generalize Jz e al = ls at *
  repeat' (first|(refine zsk ?_;intro K' hK)|(refine zrg ?_;intro K' hK)|refine zsp ?_|(refine zsc ?_ ?_<;>intro hc<;>first|exact znh|try simp only [znz] at hc)|simp (maxSteps:=1000000) only [go_sem,lml]|(refine hK _ ?_;clear hK K')|apply zan|((first|apply Jb|apply Q6);(focus first|exact h0|exact (z0 _ _ _ _ zsd zsd).b))|exact zsq|fail)
  refine QY (ι:=Nat) (fun k=>k≤ls.length) (fun k=>rtA e ls ((ls.take k).map (abD e.name)) k) (fun k=>ls.length - k) 0 (Nat.zero_le _) (Qk [(1,13000)]) (QR [(1,13000)] (by simp only [go_sem,zwl,rtA,QL.cells]<;>exact zcc) (by simp only [go_sem,zwl,rtA,QL.cells]<;>exact zcc) (by simp [Qk]) (by simp;omega) (by omega)) fun k hk K' hL=>?_
  by_cases hke:k = ls.length
  ·have e1:decide ((k:Int) < ((ls.length:Nat):Int)) = false:=by simp;omega
   have e3:ls.take k = ls:=List.take_of_length_le (by omega)
   rw [e3]
   repeat' (first|(refine zsk ?_;intro K' hK)|(refine zrg ?_;intro K' hK)|refine zsp ?_|(refine zsc ?_ ?_<;>intro hc<;>first|exact znh|try simp only [znz] at hc)|simp (maxSteps:=1000000) only [go_sem,rtA,QZ,QL.cells,lml,e1]|(refine hK _ ?_;clear hK K')|apply zan|((first|apply Jb|apply Q6);(focus first|exact (z0 _ _ _ _ zsd zsd).b))|exact zsq|fail)
   all_goals first|(refine Qn _ rfl ?_;simp only [go_sem];rw [XI];first|done|rfl)
  ·obtain ⟨l,hl⟩:∃ l,ls[k]? = some l:=⟨ls[k]'(by omega),List.getElem?_eq_getElem (by omega)⟩
   have hlv2:(ls.map PLn.v3)[k]? = some (.agg [V.str l.word,.sl 1 (l.vals.map V.str),V.int 0]):=by rw [List.getElem?_map,hl];rfl
   have e5:(ls.take (k + 1)).map (abD e.name) = (ls.take k).map (abD e.name)++[abD e.name l]:=by rw [List.take_add_one,hl,List.map_append];rfl
   have hw:=Qj (k:=k) (by omega)
   have e1:decide ((k:Int) < ((ls.length:Nat):Int)) = true:=by simp;omega
   obtain ⟨s1,s2⟩:=hsmall l (List.mem_of_getElem? hl)
   have hol:((ls.take k).map (abD e.name)).length≤8:=by simp;omega
   have lmv:(l.vals.map V.str).length = l.vals.length:=List.length_map _
   generalize (ls.take k).map (abD e.name) = out at *
   repeat' (first|(refine zsk ?_;intro K' hK)|(refine zrg ?_;intro K' hK)|refine zsp ?_|(refine zsc ?_ ?_<;>intro hc<;>first|exact znh|try simp only [znz] at hc)|simp (maxSteps:=1000000) only [go_sem,rtA,QZ,QL.cells,lml,e1]|(refine hK _ ?_;clear hK K')|apply zan|((first|apply Jb|apply Q6);(focus first|exact (z0 _ _ _ _ zsd zsd).b))|exact zsq|fail)
   refine QY (ι:=Nat) (fun j=>j≤l.vals.length) (fun j=>QZ [(2,.ptr 0 0),(6,.sl 3 (ls.map PLn.v3)),(8,.hd 1 0 out.length),(9,V.int k),(10,V.str (aeI (l.vals.take j))),(11,V.int j)] [(0,.box true e.cells),(1,.buf true 4 (out.map Vq.v))] 2) (fun j=>l.vals.length - j) 0 (Nat.zero_le _) (Qk []) (QR [] (by simp only [go_sem,zwl,QL.cells];first|done|rfl|(repeat' (first|rfl|apply And.intro|omega|exact fun h=>h|exact Exists.intro _ rfl))) (by simp only [go_sem,zwl,QL.cells]<;>exact zcc) (by simp [Qk]) (by simp) (by omega)) fun j hj K2 hL2=>?_
   have hib:=att 700 (l.vals.take j) (fun w hw=>s2 w (List.mem_of_mem_take hw))
   rcases hd:l.vals.drop j with _|⟨x,r⟩
   ·have hjl:=Qs hd
    have e2:decide ((j:Int) < ((l.vals.length:Nat):Int)) = false:=by simp;omega
    have e4:l.vals.take j = l.vals:=List.take_of_length_le hjl
    rw [e4]
    have hb:List.map Vq.v out++[.agg [V.str e.name,V.str l.word,V.str (aeI l.vals),V.int 0]] = (out++[abD e.name l]).map Vq.v:=by rw [List.map_append];rfl
    have hln:out.length + 1 = (out++[abD e.name l]).length:=by simp
    repeat' (first|(refine zsk ?_;intro K' hK)|(refine zrg ?_;intro K' hK)|refine zsp ?_|(refine zsc ?_ ?_<;>intro hc<;>first|exact znh|try simp only [znz] at hc)|simp (maxSteps:=1000000) only [go_sem,QZ,QL.cells,hlv2,lmv,e2,hw,Int.toNat_natCast,XI,hb,hln]|(refine hK _ ?_;clear hK K')|apply zan|((first|apply Jb|apply Q6);(focus first|exact (z0 _ _ _ _ zsd zsd).b))|exact zsq|fail)
    all_goals first
     | (refine hL _ (k + 1) (Qk [(1,19002)]) (by omega) (by omega) ?_
        rw [e5]
        exact QR [(1,19002)] (by simp only [go_sem,zwl,rtA,QZ,QL.cells]<;>exact zcc) (by simp only [go_sem,zwl,rtA,QZ,QL.cells]<;>exact zcc) (by simp [Qk]) (by simp [rtA,QZ];omega) (by omega))
   ·obtain ⟨hj',hget,hr2⟩:=Ql hd
    have hw2:=Qj (k:=j) (by omega)
    have e2:decide ((j:Int) < ((l.vals.length:Nat):Int)) = true:=by simp;omega
    have hjs:aeI (l.vals.take (j + 1)) = if 0 < j then aeI (l.vals.take j)++[32]++x else x:=by
     rw [List.take_add_one,hget,Option.toList_some,arW,List.length_take,Nat.min_eq_left (by omega)]
    have hgx:(l.vals.map V.str)[j]? = some (V.str x):=by rw [List.getElem?_map,hget];rfl
    have hxl:=s2 x (List.mem_of_getElem? hget)
    rw [List.length_take] at hib
    by_cases hj0:0 < j
    ·have e6:decide ((j:Int) > 0) = true:=by simp;omega
     rw [if_pos hj0] at hjs
     repeat' (first|(refine zsk ?_;intro K' hK)|(refine zrg ?_;intro K' hK)|refine zsp ?_|(refine zsc ?_ ?_<;>intro hc<;>first|exact znh|try simp only [znz] at hc)|simp (maxSteps:=1000000) only [go_sem,QZ,QL.cells,hlv2,lmv,e2,e6,hw2,hgx,Int.toNat_natCast]|(refine hK _ ?_;clear hK K')|apply zan|((first|apply Jb|apply Q6);(focus first|exact (z0 _ _ _ _ zsd zsd).b))|exact zsq|fail)
     all_goals first
      | exact hL2 _ (j + 1) (Qk []) (by omega) (by omega) (QR [] (by simp only [go_sem,zwl,QZ,QL.cells,hjs]<;>exact zcc) (by simp only [go_sem,zwl,QZ,QL.cells]<;>exact zcc) (by simp [Qk]) (by simp [QZ]) (by omega))
    ·have e6:decide ((j:Int) > 0) = false:=by simp;omega
     rw [if_neg hj0] at hjs
     have hj00:j = 0:=by omega
     have hz:aeI (l.vals.take j) = []:=by rw [hj00];rfl
     rw [hz]
     repeat' (first|(refine zsk ?_;intro K' hK)|(refine zrg ?_;intro K' hK)|refine zsp ?_|(refine zsc ?_ ?_<;>intro hc<;>first|exact znh|try simp only [znz] at hc)|simp (maxSteps:=1000000) only [go_sem,QZ,QL.cells,hlv2,lmv,e2,e6,hw2,hgx,Int.toNat_natCast]|(refine hK _ ?_;clear hK K')|apply zan|((first|apply Jb|apply Q6);(focus first|exact (z0 _ _ _ _ zsd zsd).b))|exact zsq|fail)
     all_goals first
      | exact hL2 _ (j + 1) (Qk []) (by omega) (by omega) (QR [] (by simp only [go_sem,zwl,QZ,QL.cells,hjs]<;>exact zcc) (by simp only [go_sem,zwl,QZ,QL.cells]<;>exact zcc) (by simp [Qk]) (by simp [QZ]) (by omega))
 ·have hlv:∃ t:Int,WC e al true = .tup [.sl 3 [],V.int t]∧qS e al = .tup [.sl 4 [],V.int t]∧(t != 0) = true:=by
   unfold WC qS
   simp only [true_and]
   by_cases hck:JS e = true
   ·rw [if_pos hck,if_pos hck]
    by_cases hal:Wx e al = true
    ·rw [if_pos hal,if_pos hal]
     have hs:e.suites = []:=by
      cases hs:e.suites with
      | nil=>rfl
      | cons a r=>exact absurd ⟨hck,hal,by rw [hs];simp⟩ hgood
     rw [if_pos hs,if_pos hs]
     exact ⟨18,rfl,rfl,rfl⟩
    ·rw [if_neg hal,if_neg hal]
     exact ⟨18,rfl,rfl,rfl⟩
   ·rw [if_neg hck,if_neg hck]
    exact ⟨19,rfl,rfl,rfl⟩
  obtain ⟨t,h1,h2,h3⟩:=hlv
  rw [h1] at h0
  rw [h2]
  simp only [QL.v,QL.cells] at h0 ⊢
  repeat' (first|(refine zsk ?_;intro K' hK)|(refine zrg ?_;intro K' hK)|refine zsp ?_|(refine zsc ?_ ?_<;>intro hc<;>first|exact znh|try simp only [znz] at hc)|simp (maxSteps:=1000000) only [go_sem,h3]|(refine hK _ ?_;clear hK K')|apply zan|((first|apply Jb|apply Q6);(focus first|exact h0|exact (z0 _ _ _ _ zsd zsd).b))|exact zsq|fail)
  all_goals first|exact zr
def eqP (x y:Vq):Bool:=(x.sec == y.sec) && ((x.name == y.name) && ((x.val == y.val) && (x.line == y.line)))
def afj:List AO:=[mv 17 0,mv 18 5,ia 19 4 17 18,xo 20 (.load true 4 (.t 19)),mv 21 1,mv 22 5,ia 23 4 21 22,xo 24 (.load true 4 (.t 23)),xo 25 (.eqagg true [1,1,1,0] (.t 20) (.t 24))]
def aft:List (List Nat):=[[],[],[0,1],[2],[],[],[4,5],[6],[3,7]]
def ae6:OT:=.one 0 (.one 1 (.one 2 (.one 3 (.one 4 (.one 5 (.one 6 (.one 7 (.one 8 .done))))))))
@[go_sem] def afe:OP:=oN 0 (mv 17 0) (oN 1 (mv 18 5) (oN 2 (ia 19 4 17 18) (oN 3 (xo 20 (.load true 4 (.t 19))) (oN 4 (mv 21 1) (oN 5 (mv 22 5) (oN 6 (ia 23 4 21 22) (oN 7 (xo 24 (.load true 4 (.t 23))) (oN 8 (xo 25 (.eqagg true [1,1,1,0] (.t 20) (.t 24))) .done))))))))
instance:RG [] ae6 (afe) (afj) aft 9 (fun _=>true):=⟨rfl,by kernel_rfl,by kernel_rfl⟩
def adQ:AC:=Qa [0,1] (.reg [mc 4 (V.bool false)]) (Qa [0,1] (Qa [0,1,10] (.reg [mv 6 0,ln 7 6,mv 8 1,ln 9 8,bn 10 .neq 7 9]) (.cond (.t 10) (Qa [4] (.reg [mc 4 (V.bool false)]) .ret) .skip)) (Qa [] (Qa [0,1,5] (.reg [mc 5 (V.int 0)]) (.block 0 (JH [0,1,5] (Qa [0,1,5] (Qa [0,1,5,14] (.reg [mv 11 5,mv 12 0,ln 13 12,bn 14 .lss 11 13]) (.cond (.t 14) .skip (.exit 0))) (Qa [0,1,5] (.block 1 (Qa [0,1,5,25] (yh [] ae6 (afe) (afj) aft) (.cond (.t 25) (Qa [4] (.reg [mc 4 (V.bool false)]) .ret) .skip))) (.reg [mv 15 5,bc 16 .add 15 (V.int 1),mv 5 16])))))) (Qa [4] (.reg [mc 4 (V.bool true)]) .ret))) def r_ref06_Same:List Jl:=[.tmp 4]
def acu (Γ:Env) (f:Nat):Prop:=∀ (a b:List Vq) (ha:a.length < 2 ^ 60),EvN Γ f [.sl 4 (a.map Vq.v),.sl 4 (b.map Vq.v)] (V.bool (eqL eqP a b))
attribute [local go_sem] Option.map_some Vq.cells Vq.v in
theorem anB {Γ:Env} {f:Nat} (h:Has Γ.P f 26 adQ r_ref06_Same) :acu Γ f:=by
 intro a b ha
 refine Qe h zsi zcl zcl fun C hC hm=>?_
 subst hC
 unfold adQ
 have lma:(a.map Vq.v).length = a.length:=List.length_map _
 have lmb:(b.map Vq.v).length = b.length:=List.length_map _
 by_cases hlen:a.length = b.length
 ·have e0:(((a.length:Nat):Int) != ((b.length:Nat):Int)) = false:=by simp [hlen]
  (have zx:=And.intro lma (And.intro lmb e0));refine zgo ?_;repeat' first|exact zt|apply zan|intro hc
  refine QP (ι:=Nat) (fun k=>k≤a.length∧eqL eqP (a.drop k) (b.drop k) = eqL eqP a b) (fun k=>[(5,V.int k)]) (fun k=>a.length - k) 0 (by omega) ⟨Nat.zero_le _,rfl⟩ (by repeat' first|exact Q8|refine JD (by omega) (by simp only [Ob.lt,ltL,V.lt,and_self,and_true];try omega) ?_) (fun i hi=>by simp only [ovT,Ji,Nat.reduceEqDiff,reduceIte];(repeat' first|exact JC|refine Q7 ?_ ?_|simp only [V.lt,ltL,and_self,and_true]|omega)) zet fun k hk K' hL=>?_
  obtain ⟨hk,hinv⟩:=hk
  simp only [ovT,Ji,Nat.reduceEqDiff,reduceIte]
  rcases hd:a.drop k with _|⟨y,r⟩
  ·have:=Qs hd
   have hd2:b.drop k = []:=List.drop_eq_nil_of_le (by omega)
   rw [hd,hd2] at hinv
   have e1:decide ((k:Int) < ((a.length:Nat):Int)) = false:=by simp;omega
   rw [← hinv,show eqL eqP [] [] = true from rfl]
   (have zx:=And.intro e1 lma);exact zg
  ·obtain ⟨hk',hget,hr⟩:=Ql hd
   have e1:decide ((k:Int) < ((a.length:Nat):Int)) = true:=by simp;omega
   rcases hd2:b.drop k with _|⟨z,r2⟩
   ·have:=Qs hd2;omega
   ·obtain ⟨hk2,hget2,hr2⟩:=Ql hd2
    rw [hd,hd2,eqL] at hinv
    have hw:=Qj (k:=k) (by omega)
    have hmy:=List.mem_of_getElem? hget
    have hmz:=List.mem_of_getElem? hget2
    skip
    rcases hyz:eqP y z with _|_
    ·rw [hyz,Bool.false_and] at hinv
     rw [← hinv]
     have e2:eqP y z = false:=hyz
     simp only [eqP] at e2
     (have zx:=And.intro e1 (And.intro lma (And.intro hget (And.intro hget2 (And.intro hw e2)))));exact zg
    ·rw [hyz,Bool.true_and] at hinv
     have e2:eqP y z = true:=hyz
     simp only [eqP] at e2
     (have zx:=And.intro e1 (And.intro lma (And.intro hget (And.intro hget2 (And.intro hw e2)))));refine zgo ?_;repeat' first|exact zt|apply zan|intro hc
     all_goals first|exact hL _ (k + 1) zet ⟨by omega,by rw [hr,hr2];exact hinv⟩ (by omega) (fun a ha=>by simp only [u32,u33,u34,u35,u36,u37,u38,u39];repeat rw [if_neg (by omega)])
 ·have e0:(((a.length:Nat):Int) != ((b.length:Nat):Int)) = true:=by simp;omega
  rw [abY a b hlen]
  (have zx:=And.intro lma (And.intro lmb e0));exact zg
abbrev nS:V:=.sc (.slice none 0 0)
def v7 (Qy Q5:Nat):List AO:=[fa 12 0 4,ld 13 1 12,cl 14 Qy [13],xo 15 (.un .not (.t 14)),mv 16 15,mg 17 3 16 false,xg 18 (.bin .gtr (.t 17) (.c (V.int 0))) 16 false,mg 19 18 16 false,mg 20 0 19 true,mg 21 3 19 true,xg 22 (.bin .sub (.t 21) (.c (V.int 1))) 19 true,xg 23 (.iaddr 6 (.t 20) (.t 22)) 19 true,xg 24 (.faddr 0 (.t 23)) 19 true,xg 25 (.load false 1 (.t 24)) 19 true,xg 26 (.faddr 0 (.t 4)) 19 true,xg 27 (.load false 1 (.t 26)) 19 true,xg 28 (.bin .geq (.t 25) (.t 27)) 19 true,xg 29 (.pick (.t 19) (.t 28) (.c (V.bool false))) 16 false,xo 30 (.pick (.t 16) (.c (V.bool true)) (.t 29)),mv 31 30,xg 32 (.faddr 1 (.t 4)) 31 false,xg 33 (.load true 2 (.t 32)) 31 false,xg 34 (.faddr 3 (.t 4)) 31 false,xg 35 (.load false 1 (.t 34)) 31 false,xg 36 (.faddr 5 (.t 4)) 31 false,xg 37 (.load false 1 (.t 36)) 31 false,xg 38 (.call Q5 [(.t 33),(.t 35),(.t 37)]) 31 false,xg 39 (.un .not (.t 38)) 31 false,xo 40 (.pick (.t 31) (.c (V.bool true)) (.t 39))]
def aan:List (List Nat):=[[],[0],[1],[2],[3,2],[4],[5,4],[6,4,4],[7],[7],[9,7],[8,10,7],[11,7],[12,7],[7],[14,7],[13,15,7],[7,16,4],[4,17],[18,7],[19],[20,19],[19],[22,19],[19],[24,19],[21,23,25,19,19],[26,19],[19,27]]
def vH:OT:=.one 0 (.one 1 (.one 2 (.one 3 (.one 4 (.one 5 (.one 6 (.one 7 (.one 8 (.one 9 (.one 10 (.one 11 (.one 12 (.one 13 (.one 14 (.one 15 (.one 16 (.one 17 (.one 18 (.one 19 (.one 20 (.one 21 (.one 22 (.one 23 (.one 24 (.one 25 (.one 26 (.one 27 (.one 28 .done))))))))))))))))))))))))))))
@[go_sem] def vT (Qy Q5:Nat):OP:=oN 0 (fa 12 0 4) (oN 1 (ld 13 1 12) (oN 2 (cl 14 Qy [13]) (oN 3 (xo 15 (.un .not (.t 14))) (oN 4 (mv 16 15) (oN 5 (mg 17 3 16 false) (oN 6 (xg 18 (.bin .gtr (.t 17) (.c (V.int 0))) 16 false) (oN 7 (mg 19 18 16 false) (oN 8 (mg 20 0 19 true) (oN 9 (mg 21 3 19 true) (oN 10 (xg 22 (.bin .sub (.t 21) (.c (V.int 1))) 19 true) (.one 11 false [2] (xg 23 (.iaddr 6 (.t 20) (.t 22)) 19 true) (oN 12 (xg 24 (.faddr 0 (.t 23)) 19 true) (.one 13 false [2] (xg 25 (.load false 1 (.t 24)) 19 true) (oN 14 (xg 26 (.faddr 0 (.t 4)) 19 true) (.one 15 false [2] (xg 27 (.load false 1 (.t 26)) 19 true) (oN 16 (xg 28 (.bin .geq (.t 25) (.t 27)) 19 true) (oN 17 (xg 29 (.pick (.t 19) (.t 28) (.c (V.bool false))) 16 false) (oN 18 (xo 30 (.pick (.t 16) (.c (V.bool true)) (.t 29))) (oN 19 (mv 31 30) (oN 20 (xg 32 (.faddr 1 (.t 4)) 31 false) (.one 21 false [2] (xg 33 (.load true 2 (.t 32)) 31 false) (oN 22 (xg 34 (.faddr 3 (.t 4)) 31 false) (.one 23 false [2] (xg 35 (.load false 1 (.t 34)) 31 false) (oN 24 (xg 36 (.faddr 5 (.t 4)) 31 false) (.one 25 false [2] (xg 37 (.load false 1 (.t 36)) 31 false) (.one 26 false [2] (xg 38 (.call Q5 [(.t 33),(.t 35),(.t 37)]) 31 false) (oN 27 (xg 39 (.un .not (.t 38)) 31 false) (oN 28 (xo 40 (.pick (.t 31) (.c (V.bool true)) (.t 39))) .done))))))))))))))))))))))))))))
instance (Qy Q5:Nat):RG [] vH (vT Qy Q5) (v7 Qy Q5) aan 29 (fun _=>true):=⟨rfl,by kernel_rfl,by kernel_rfl⟩
def yz (Qy Q5:Nat):AC:=Qa [0] (.reg [mc 2 (V.int 0)]) (Qa [0] (Qa [0,5,6,7] (.reg [mv 5 0,ln 6 5,mc 7 (V.int 0)]) (.block 0 (JH [0,5,6,7] (Qa [0,5,6,7,8] (.reg [bn 8 .lss 7 6]) (Qa [0,5,6,7] (.cond (.t 8) .skip (.exit 0)) (Qa [0,5,6,7] (.block 1 (Qa [0,3,4,5,6,7] (.reg [mv 9 7,ia 10 6 5 7,xo 11 (.load true 6 (.t 10)),xo 4 (.alloc [.val vs0,.val vi0,.val vi0,.val vi0,.val (.bool false),.nil 15]),mv 3 9,xs 6 4 11]) (Qa [0,5,6,7,40] (yh [] vH (vT Qy Q5) (v7 Qy Q5) aan) (.cond (.t 40) (Qa [2] (.reg [mc 2 (V.int 16)]) .ret) .skip)))) (.reg [bc 41 .add 7 (V.int 1),mv 7 41]))))))) (Qa [] (Qa [44] (.reg [mv 42 0,ln 43 42,bc 44 .gtr 43 (V.int 64)]) (.cond (.t 44) (Qa [2] (.reg [mc 2 (V.int 16)]) .ret) .skip)) (Qa [2] (.reg [mc 2 (V.int 0)]) .ret))) def r_keystore_Check:List Jl:=[.tmp 2]
def jC (Γ:Env) (f:Nat):Prop:=EvN Γ f [.sc (.slice none 0 0)] (V.int 0)
attribute [local go_sem] QZ in
theorem aiD {Γ:Env} {f Qy Q5:Nat} (h:Has Γ.P f 45 (yz Qy Q5) r_keystore_Check) :jC Γ f:=by
 refine Qe h zsi zcl zcl fun C hC hm=>?_
 subst hC
 unfold yz
 refine zgo ?_;repeat' first|exact zt|apply zan|intro hc
 refine QY (ι:=Unit) (fun _=>True) (fun _=>QZ [(0,nS),(5,nS),(6,V.int 0),(7,V.int 0)] [] 0) (fun _=>0) () trivial (Qk []) (zwg []) fun k hk K' hL=>?_
 exact zg
def yD (YJ U2:Nat):AC:=Qa [0,1] (.reg [mc 4 (V.int 0)]) (Qa [] (.block 0 (Qa [1,5] (.reg [mv 6 0,cl 7 YJ [6],xo 8 (.un .not (.t 7)),mv 5 8]) (.cond (.t 5) (Qa [4] (.reg [mc 4 (V.int 14)]) .ret) (Qa [9] (.reg [mv 10 1,cl 11 U2 [10],bc 12 .neq 11 (V.int 0),mv 9 12]) (.cond (.t 9) (Qa [4] (.reg [mc 4 (V.int 16)]) .ret) .skip))))) (Qa [4] (.reg [mc 4 (V.int 0)]) .ret)) def r_endpoint_early:List Jl:=[.tmp 4]
def jD (Γ:Env) (f:Nat):Prop:=∀ (name:List UInt8) (hs:name.length < 2 ^ 30) (hn:aby name = true),EvN Γ f [V.str name,.sc (.slice none 0 0)] (V.int 0)
theorem aiF {Γ:Env} {f YJ U2:Nat} (h:Has Γ.P f 13 (yD YJ U2) r_endpoint_early) (z0:U7 Γ YJ) (z1:jC Γ U2):jD Γ f:=by
 intro name hs hn
 refine Qe h zsi zcl zcl fun C hC hm=>?_
 subst hC
 unfold yD
 have hw:=(z0 name hs).b
 rw [hn] at hw
 exact zg
def aw1:List Int:=(aj1 [97,108,108]).1
def yE (YH:Nat):AC:=Qa [0,1] (.reg [mc 4 (.sc (.pointer none))]) (Qa [0,1,5] (.reg [xo 8 (.call YH [(.c (V.str [97,108,108]))]),mv 7 8,ex 9 7 0,ex 10 7 1,mv 5 9,mv 6 10]) (Qa [4] (.reg [mv 11 0,mv 12 5,xo 13 (.build [vs0,vi0,vi0,vn0,(.bool false),vn0,vn0,vn0,(.bool false)] [(0,1,(.t 11)),(1,1,(.c (V.int 1))),(2,1,(.c (V.int 4))),(3,1,(.t 12))]),mv 14 1,xo 15 (.build [vs0,vi0,vi0,vn0,(.bool false),vn0,vn0,vn0,(.bool false),vn0] [(0,9,(.t 13)),(9,1,(.t 14))]),xo 16 (.box true 10 (.t 15)),mv 4 16]) .ret)) def r_endpoint_begin:List Jl:=[.tmp 4]
def jE (Γ:Env) (f:Nat):Prop:=∀ (name:List UInt8),EvR Γ f [V.str name,.sc (.slice none 0 0)] ((QM.mk name 1 4 aw1 false false).cells)
theorem aiG {Γ:Env} {f YH:Nat} (h:Has Γ.P f 17 (yE YH) r_endpoint_begin) (z0:U6 Γ YH):jE Γ f:=by
 intro name
 refine ak7 h (by simp) (QM.cells_closed _) fun C hC hm=>?_
 subst hC
 unfold yE
 have hs:=(z0 [97,108,108] (by decide)).b
 have e:(aj1 [97,108,108]).1 = aw1:=rfl
 rw [e] at hs
 simp only [QM.cells]
 refine zgo ?_;repeat' first|exact zt|apply zan|intro hc
 all_goals first|(refine avM _ rfl rfl (by simp only [V.closed,closedL,and_self]))
def ae2:List V:=[V.str [108,101,97,115,116],V.str [109,111,115,116],V.str [115,117,105,116,101,115],V.str [111,114,100,101,114],V.str [107,101,121,115],V.str [97,110,99,104,111,114,115],V.str [104,97,115,104,101,115],V.str [102,97,108,108,98,97,99,107]]
theorem kS1:VO false [1] (V.str [109,111,115,116]) [V.str [108,101,97,115,116]] 0 = some none:=by decide
theorem kS2:VO false [1] (V.str [115,117,105,116,101,115]) [V.str [108,101,97,115,116],V.str [109,111,115,116]] 0 = some none:=by decide
theorem kS3:VO false [1] (V.str [111,114,100,101,114]) [V.str [108,101,97,115,116],V.str [109,111,115,116],V.str [115,117,105,116,101,115]] 0 = some none:=by decide
theorem kS4:VO false [1] (V.str [107,101,121,115]) [V.str [108,101,97,115,116],V.str [109,111,115,116],V.str [115,117,105,116,101,115],V.str [111,114,100,101,114]] 0 = some none:=by decide
theorem kS5:VO false [1] (V.str [97,110,99,104,111,114,115]) [V.str [108,101,97,115,116],V.str [109,111,115,116],V.str [115,117,105,116,101,115],V.str [111,114,100,101,114],V.str [107,101,121,115]] 0 = some none:=by decide
theorem kS6:VO false [1] (V.str [104,97,115,104,101,115]) [V.str [108,101,97,115,116],V.str [109,111,115,116],V.str [115,117,105,116,101,115],V.str [111,114,100,101,114],V.str [107,101,121,115],V.str [97,110,99,104,111,114,115]] 0 = some none:=by decide
theorem kS7:VO false [1] (V.str [102,97,108,108,98,97,99,107]) [V.str [108,101,97,115,116],V.str [109,111,115,116],V.str [115,117,105,116,101,115],V.str [111,114,100,101,114],V.str [107,101,121,115],V.str [97,110,99,104,111,114,115],V.str [104,97,115,104,101,115]] 0 = some none:=by decide
theorem kG0:VO false [1] (V.str [108,101,97,115,116]) ae2 0 = some (some 0):=by decide
theorem kG1:VO false [1] (V.str [109,111,115,116]) ae2 0 = some (some 1):=by decide
theorem kG2:VO false [1] (V.str [115,117,105,116,101,115]) ae2 0 = some (some 2):=by decide
theorem kG3:VO false [1] (V.str [111,114,100,101,114]) ae2 0 = some (some 3):=by decide
theorem kG7:VO false [1] (V.str [102,97,108,108,98,97,99,107]) ae2 0 = some (some 7):=by decide
def Vc (Yo Yn Y3 Ym XY Xd Xc Yl:Nat):AC:=Qa [1] (.reg [xo 1 (.box false 1 (.t 0)),mc 2 (.sc (.map none))]) (Qa [2] (.reg [xo 3 (.mkmap),xo 4 (.mkfn Yo [(.t 1)]),⟨none,.mapset false [1] (.t 3) (.c (V.str [108,101,97,115,116])) (.t 4),none⟩,xo 5 (.mkfn Yn [(.t 1)]),⟨none,.mapset false [1] (.t 3) (.c (V.str [109,111,115,116])) (.t 5),none⟩,ld 6 1 1,xo 7 (.mkfn (.m Y3) [(.t 6)]),⟨none,.mapset false [1] (.t 3) (.c (V.str [115,117,105,116,101,115])) (.t 7),none⟩,xo 8 (.mkfn Ym [(.t 1)]),⟨none,.mapset false [1] (.t 3) (.c (V.str [111,114,100,101,114])) (.t 8),none⟩,ld 9 1 1,xo 10 (.mkfn (.m XY) [(.t 9)]),⟨none,.mapset false [1] (.t 3) (.c (V.str [107,101,121,115])) (.t 10),none⟩,xo 11 (.mkfn Xd [(.t 1)]),⟨none,.mapset false [1] (.t 3) (.c (V.str [97,110,99,104,111,114,115])) (.t 11),none⟩,xo 12 (.mkfn Xc [(.t 1)]),⟨none,.mapset false [1] (.t 3) (.c (V.str [104,97,115,104,101,115])) (.t 12),none⟩,xo 13 (.mkfn Yl [(.t 1)]),⟨none,.mapset false [1] (.t 3) (.c (V.str [102,97,108,108,98,97,99,107])) (.t 13),none⟩,mv 14 3,mv 2 14]) .ret) def r_endpoint_draft__words:List Jl:=[.tmp 2]
def WP (Γ:Env) (f:Nat):Prop:=(∃ g1 g2 g3 g4 g5 g6 g7 g8:Nat,Y2 Γ g1∧Y1 Γ g2∧XH Γ g3∧Y0 Γ g4∧YZ Γ g8∧∀ cs:List V,closedL cs→EvJ Γ f cs ae2 [.clo (.n g1) [.ptr 2 0],.clo (.n g2) [.ptr 2 0],.clo (.m g3) [.ptr 0 0],.clo (.n g4) [.ptr 2 0],.clo (.m g5) [.ptr 0 0],.clo (.n g6) [.ptr 2 0],.clo (.n g7) [.ptr 2 0],.clo (.n g8) [.ptr 2 0]] 0)
attribute [local go_sem] kS1 kS2 kS3 kS4 kS5 kS6 kS7 in
theorem abl {Γ:Env} {f Yo Yn Y3 Ym XY Xd Xc Yl:Nat} (h:Has Γ.P f 15 (Vc Yo Yn Y3 Ym XY Xd Xc Yl) r_endpoint_draft__words) (z0:Y2 Γ Yo) (z1:Y1 Γ Yn) (z2:XH Γ Y3) (z3:Y0 Γ Ym) (z4:YZ Γ Yl):WP Γ f:=by
 refine ⟨Yo,Yn,Y3,Ym,XY,Xd,Xc,Yl,z0,z1,z2,z3,z4,fun cs hcs=>?_⟩
 refine aqc h (by simp) hcs fun C hC hm=>?_
 subst hC
 unfold Vc
 refine zgo ?_;repeat' first|exact zt|apply zan|intro hc
 all_goals first|(refine axu 2001 1 rfl rfl rfl rfl hcs ?_ rfl;simp [Jd,conv])
def QM.ep (d:QM):V:=.agg [V.str d.name,V.int d.least,V.int d.most,.sl 1 (d.suites.map V.int),V.bool d.own,.sc (.slice none 0 0),.sc (.slice none 0 0),.sc (.slice none 0 0),V.bool d.fall]
def au1 (d:QM):V:=if d.least≤d.most then .tup [d.ep,V.int 0,V.int 0] else .tup [.agg [V.str [],V.int 0,V.int 0,.sc (.slice none 0 0),V.bool false,.sc (.slice none 0 0),.sc (.slice none 0 0),.sc (.slice none 0 0),V.bool false],V.int 0,V.int 19]
theorem akV (d:QM):(au1 d).closed:=by
 unfold au1;split<;>simp only [QM.ep,V.closed,closedL,and_self]
def Uk:List AO:=[mv 5 0,nk 6 5,fa 7 0 6,fa 8 1 7,ld 9 1 8,mv 10 0,nk 11 10,fa 12 0 11,fa 13 2 12,ld 14 1 13,bn 15 .gtr 9 14]
def Un:List (List Nat):=[[],[0],[1],[2],[3],[],[5],[6],[7],[8],[4,9]]
def Ug:OT:=.one 0 (.one 1 (.one 2 (.one 3 (.one 4 (.one 5 (.one 6 (.one 7 (.one 8 (.one 9 (.one 10 .done))))))))))
@[go_sem] def Ui:OP:=oN 0 (mv 5 0) (oN 1 (nk 6 5) (oN 2 (fa 7 0 6) (oN 3 (fa 8 1 7) (oN 4 (ld 9 1 8) (oN 5 (mv 10 0) (oN 6 (nk 11 10) (oN 7 (fa 12 0 11) (oN 8 (fa 13 2 12) (oN 9 (ld 14 1 13) (oN 10 (bn 15 .gtr 9 14) .done))))))))))
instance:RG [] Ug (Ui) (Uk) Un 11 (fun _=>true):=⟨rfl,by kernel_rfl,by kernel_rfl⟩
def WJ:AC:=Qa [0,2] (.reg [xo 2 (.alloc [.val vs0,.val vi0,.val vi0,.nil 1,.val (.bool false),.nil 4,.nil 1,.nil 1,.val (.bool false)]),mc 3 (V.int 0),mc 4 (V.int 0)]) (Qa [0,2] (Qa [0,2,15] (yh [] Ug (Ui) (Uk) Un) (.cond (.t 15) (Qa [2,3,4] (.reg [xo 16 (.build [vs0,vi0,vi0,vn0,(.bool false),vn0,vn0,vn0,(.bool false)] []),xs 9 2 16,mc 3 (V.int 0),mc 4 (V.int 19)]) .ret) .skip)) (Qa [2,3,4] (.reg [mv 17 0,nk 18 17,fa 19 0 18,xo 20 (.load true 9 (.t 19)),xs 9 2 20,mc 3 (V.int 0),mc 4 (V.int 0)]) .ret)) def r_endpoint_draft__finish:List Jl:=[.cell 2 true 9,.tmp 3,.tmp 4]
def Wt (Γ:Env) (f:Nat):Prop:=∀ (d:QM),EvD Γ f [] d.cells (au1 d) d.cells
theorem aaE {Γ:Env} {f:Nat} (h:Has Γ.P f 21 WJ r_endpoint_draft__finish) :Wt Γ f:=by
 intro d
 refine Y6 h zsi (by first|exact QM.cells_closed _|exact akV _) zc3 zc3 fun C hC hm=>?_
 subst hC
 unfold WJ
 by_cases hle:d.least≤d.most
 ·have e1:decide (d.least > d.most) = false:=by simp;omega
  rw [au1,if_pos hle]
  simp only [QM.cells,QM.ep]
  (have zx:=e1);refine zgo ?_;repeat' first|exact zt|apply zan|intro hc
  all_goals first|(refine Xb _ rfl rfl zcd ?_;simp only [go_sem];done)
 ·have e1:decide (d.least > d.most) = true:=by simp;omega
  rw [au1,if_neg hle]
  simp only [QM.cells]
  (have zx:=e1);refine zgo ?_;repeat' first|exact zt|apply zan|intro hc
  all_goals first|(refine Xb _ rfl rfl zcd ?_;simp only [go_sem];done)
end Av
end
