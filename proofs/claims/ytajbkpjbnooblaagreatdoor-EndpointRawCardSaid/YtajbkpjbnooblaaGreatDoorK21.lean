/- K21 -/
import Derived.Test.YtajbkpjbnooblaaGreatDoorK20
import Derived.Test.YtajbkpjbnooblaaGreatDoorK19
set_option linter.unusedVariables false
set_option linter.unusedSimpArgs false
section
set_option linter.unusedSimpArgs false
set_option linter.unusedVariables false
set_option maxRecDepth 10000
set_option maxHeartbeats 4000000
namespace Av
open Go
attribute [local irreducible] AWp VV UQ Ko awS awC jF awQ yc Jb XH jD awR XT awB okR Wy ris
structure PLn where
 word:List UInt8
 vals:List (List UInt8)
def PLn.v (l:PLn):V:=.agg [V.str l.word,.sl 1 (l.vals.map V.str)]
theorem ajB {l:List Int} (h:Uo l = true):jQ l = .tup [V.str (abU l),V.int 0]:=by
 simp only [Uo,Bool.and_eq_true,Bool.not_eq_true',decide_eq_true_eq] at h
 refine ah7 h.2 fun x hx=>?_
 have:=List.any_eq_false.1 h.1 x hx
 simp [aec] at this
 omega
def KD (e:JQ):List (List UInt8):=e.anchors.map Lib.itoa
def qQ (e:JQ):List (List UInt8):=e.hashes.map fun n=>(Yz n).name
def yY (e:JQ):List PLn:=[⟨[108,101,97,115,116],[Lib.itoa e.least]⟩,⟨[109,111,115,116],[Lib.itoa e.most]⟩,⟨[115,117,105,116,101,115],[abU e.suites]⟩,⟨[111,114,100,101,114],[if e.own = true then [111,119,110] else [99,108,105,101,110,116]]⟩]
def adb (e:JQ) (al:List (List UInt8)):List PLn:=[⟨[107,101,121,115],al⟩,⟨[97,110,99,104,111,114,115],KD e⟩,⟨[104,97,115,104,101,115],qQ e⟩]
def W9 (l:PLn):Bool:=decide ((l.vals.length:Int) > 0)
def Wv (e:JQ) (al:List (List UInt8)):List PLn:=yY e++(adb e al).filter W9++[⟨[102,97,108,108,98,97,99,107],[if e.fall = true then [121,101,115] else [110,111]]⟩]
def yL (e:JQ) (al:List (List UInt8)):Bool:=decide (al.length = e.idents.length) && al.all JN
theorem PLn.closedC:∀ l:List PLn,closedC (l.map PLn.v)
 | []=>trivial
 | x :: r=>⟨⟨trivial,trivial,trivial⟩,PLn.closedC r⟩
def vC (e:JQ) (al:List (List UInt8)):V :=
 if Y5 e = true then
  if yL e al = true then .tup [.sl 2 ((Wv e al).map PLn.v),V.int 0] else .tup [.sl 2 [],V.int 18]
 else .tup [.sl 2 [],V.int 19]
theorem PLn.closedL:∀ l:List PLn,closedL (l.map PLn.v)
 | []=>by simp [Av.closedL]
 | x :: r=>by
   rw [List.map_cons]
   exact ⟨by simp [PLn.v,V.closed,Av.closedL],PLn.closedL r⟩
theorem akh (e:JQ) (al:List (List UInt8)):(vC e al).closed:=by
 unfold vC
 split
 ·split
  ·exact ⟨trivial,trivial,trivial⟩
  ·exact ⟨trivial,trivial,trivial⟩
 ·exact ⟨trivial,trivial,trivial⟩
def lnA (e:JQ) (al as:List (List UInt8)) (k:Nat):St:=JY [(1,.sl 1 (al.map V.str)),(2,.ptr 0 0),(6,V.str (abU e.suites)),(8,.hd 1 0 as.length),(9,.hd 2 0 0),(37,.sl 1 (e.anchors.map V.int)),(38,V.int e.anchors.length),(39,V.int k)] [(0,.box true e.cells),(1,.buf true 1 (as.map V.str)),(2,.buf true 1 [])] 3
def lnB (e:JQ) (al as hs:List (List UInt8)) (k:Nat):St:=JY [(1,.sl 1 (al.map V.str)),(2,.ptr 0 0),(6,V.str (abU e.suites)),(8,.hd 1 0 as.length),(9,.hd 2 0 hs.length),(50,.sl 1 (e.hashes.map V.int)),(51,V.int e.hashes.length),(52,V.int k)] [(0,.box true e.cells),(1,.buf true 1 (as.map V.str)),(2,.buf true 1 (hs.map V.str))] 3
def lnC (e:JQ) (al:List (List UInt8)):St:=stL [(1,.sl 1 (al.map V.str)),(2,.ptr 0 0),(6,V.str (abU e.suites)),(8,.sl 1 ((KD e).map V.str)),(9,.sl 1 ((qQ e).map V.str))] [.box true e.cells]
theorem ala {o:Nat→Option Ob} {br:List Nat} {n:Nat} (w x:List UInt8) (h:o n = some (.buf true 1 [V.str x])) (hn:n ∉ br):conv o br none (.agg [V.str w,.hd n 0 1]) (PLn.v ⟨w,[x]⟩):=by
 simp [PLn.v,conv,Yn,V.str,okB,h,hn]
def lnD (e:JQ) (al:List (List UInt8)):St:=JY [(1,.sl 1 (al.map V.str)),(2,.ptr 0 0),(8,.sl 1 ((KD e).map V.str)),(9,.sl 1 ((qQ e).map V.str)),(14,.hd 5 0 4)]
 [(0,.box true e.cells),(1,.buf true 1 [V.str (Lib.itoa e.least)]),(2,.buf true 1 [V.str (Lib.itoa e.most)]),(3,.buf true 1 [V.str (abU e.suites)]),(4,.buf true 1 [V.str (if e.own = true then [111,119,110] else [99,108,105,101,110,116])]),
  (5,.obuf true 2 [.agg [V.str [108,101,97,115,116],.hd 1 0 1],.agg [V.str [109,111,115,116],.hd 2 0 1],.agg [V.str [115,117,105,116,101,115],.hd 3 0 1],.agg [V.str [111,114,100,101,114],.hd 4 0 1]])] 6
def lnE (e:JQ) (al:List (List UInt8)):St:=stL [(1,.sl 1 (al.map V.str)),(2,.ptr 0 0),(8,.sl 1 ((KD e).map V.str)),(9,.sl 1 ((qQ e).map V.str)),(14,.hd 1 0 4)] [.box true e.cells,.buf true 2 ((yY e).map PLn.v)]
def lnF (e:JQ) (al:List (List UInt8)) (out:List PLn) (k:Nat):St:=stL [(2,.ptr 0 0),(14,.hd 1 0 out.length),(88,.sl 2 ((adb e al).map PLn.v)),(89,V.int 3),(90,V.int k)] [.box true e.cells,.buf true 2 (out.map PLn.v)]
theorem amD {o:Nat→Option Ob} {br:List Nat} {B:Option (List Nat)} {ys zs:List V} (h:Yn o br B ys zs):∀ out:List PLn,Yn o br B (out.map PLn.v++ys) (out.map PLn.v++zs)
 | []=>h
 | x :: r=>⟨by simp [PLn.v,conv,Yn,V.str],amD h r⟩
theorem aqH:∀ l:List PLn,ntL (l.map PLn.v)
 | []=>trivial
 | x :: r=>⟨by simp [PLn.v],aqH r⟩
theorem ar7 {o:Nat→Option Ob} {n m:Nat} {w x:List UInt8} {out:List PLn} (h:o n = some (.obuf true 2 (out.map PLn.v++[.agg [V.str w,.hd m 0 1]]))) (hm:o m = some (.buf true 1 [V.str x])):conv o [] none (.hd n 0 (out.length + 1)) (.sl 2 ((out++[PLn.mk w [x]]).map PLn.v)):=by
 simp only [conv]
 refine ⟨trivial,by simp,.inr ⟨true,_,h,?_,aqH _,PLn.closedL _⟩⟩
 rw [List.drop_zero,List.take_of_length_le (by simp),List.map_append]
 exact amD (ys:=[.agg [V.str w,.hd m 0 1]]) (zs:=[PLn.v ⟨w,[x]⟩]) ⟨ala _ _ hm (by simp),trivial⟩ out
def lnG (e:JQ) (al:List (List UInt8)) (out:List PLn) (k:Nat):St:=JY [(2,.ptr 0 0),(14,.hd 1 0 out.length),(88,.sl 2 ((adb e al).map PLn.v)),(89,V.int 3),(90,V.int k)] [(0,.box true e.cells),(1,.buf true 2 (out.map PLn.v))] 2
@[go_sem] def Jm:AO:=xo 65 (.bslice 1 1 false [(.string ⟨#[]⟩)] [(0,(.t 64))])
@[go_sem] def Jl:AO:=xo 66 (.build [(.string ⟨#[]⟩),(.slice none 0 0)] [(0,1,(.c (V.str [108,101,97,115,116]))),(1,1,(.t 65))])
@[go_sem] def JD:AO:=xo 70 (.bslice 1 1 false [(.string ⟨#[]⟩)] [(0,(.t 69))])
@[go_sem] def JC:AO:=xo 71 (.build [(.string ⟨#[]⟩),(.slice none 0 0)] [(0,1,(.c (V.str [109,111,115,116]))),(1,1,(.t 70))])
@[go_sem] def Q8:AO:=xo 73 (.bslice 1 1 false [(.string ⟨#[]⟩)] [(0,(.t 72))])
@[go_sem] def Q7:AO:=xo 74 (.build [(.string ⟨#[]⟩),(.slice none 0 0)] [(0,1,(.c (V.str [115,117,105,116,101,115]))),(1,1,(.t 73))])
@[go_sem] def J7 (Qd Qb:Nat):AO:=xo 77 (.call Qb [(.t 76),(.c (V.str [111,119,110])),(.c (V.str [99,108,105,101,110,116]))])
@[go_sem] def J6:AO:=xo 78 (.bslice 1 1 false [(.string ⟨#[]⟩)] [(0,(.t 77))])
@[go_sem] def J5:AO:=xo 79 (.build [(.string ⟨#[]⟩),(.slice none 0 0)] [(0,1,(.c (V.str [111,114,100,101,114]))),(1,1,(.t 78))])
@[go_sem] def xN:AO:=xo 80 (.obslice 4 2 true [(.string ⟨#[]⟩),(.slice none 0 0)] [(0,(.t 66)),(1,(.t 71)),(2,(.t 74)),(3,(.t 79))])
def jW (Qd Qb:Nat):List AO:=[fa 62 1 2,ld 63 1 62,cl 64 Qd [63],Jm,Jl,fa 67 2 2,ld 68 1 67,cl 69 Qd [68],JD,JC,mv 72 6,Q8,Q7,fa 75 4 2,ld 76 1 75,J7 Qd Qb,J6,J5,xN,mv 14 80]
def yf:List (List Nat):=[[],[0],[1],[2],[3],[],[5],[6,2],[7],[8],[],[10],[11],[],[13],[14,7],[15],[16],[4,9,12,17],[18,15,0,1,2,3,4,5,6,7,8,9,10,11,12,13,14,15,16,17,18]]
def XV:OT:=.or 16 (.one 17 (.one 18 (.one 19 (.done)))) (.done)
def qe:OT:=.or 11 (.one 12 (.one 18 (.one 19 (.done)))) (.done)
def qd:OT:=.or 11 (.one 12 XV) (.or 16 (.one 17 qe) (.done))
def wR:OT:=.or 11 (.one 12 (.or 15 XV (.done))) (.or 15 qd (.done))
def qc:OT:=.or 8 (.one 9 (.one 18 (.one 19 (.done)))) (.done)
def K9:OT:=.or 8 (.one 9 XV) (.or 16 (.one 17 qc) (.done))
def VY:OT:=.or 8 (.one 9 (.or 15 XV (.done))) (.or 15 K9 (.done))
def wQ:OT:=.or 8 (.one 9 qe) (.or 11 (.one 12 qc) (.done))
def wP:OT:=.or 8 (.one 9 qd) (.or 11 (.one 12 K9) (.or 16 (.one 17 wQ) (.done)))
def wO:OT:=.or 8 (.one 9 wR) (.or 11 (.one 12 VY) (.or 15 wP (.done)))
def Kh:OT:=.or 3 (.one 4 (.one 18 (.one 19 (.done)))) (.done)
def Kg:OT:=.or 3 (.one 4 XV) (.or 16 (.one 17 Kh) (.done))
def xW:OT:=.or 3 (.one 4 (.or 15 XV (.done))) (.or 15 Kg (.done))
def xV:OT:=.or 3 (.one 4 qe) (.or 11 (.one 12 Kh) (.done))
def xU:OT:=.or 3 (.one 4 qd) (.or 11 (.one 12 Kg) (.or 16 (.one 17 xV) (.done)))
def xT:OT:=.or 3 (.one 4 qc) (.or 8 (.one 9 Kh) (.done))
def xS:OT:=.or 3 (.one 4 K9) (.or 8 (.one 9 Kg) (.or 16 (.one 17 xT) (.done)))
def xR:OT:=.or 3 (.one 4 VY) (.or 8 (.one 9 xW) (.or 15 xS (.done)))
def xQ:OT:=.or 3 (.one 4 (.or 7 VY (.done))) (.or 7 xR (.done))
def jN:OT:=.one 0 (.one 1 (.one 5 (.one 6 (.one 10 (.one 13 (.one 14 (.or 2 (.or 3 (.one 4 (.or 7 wO (.or 11 (.one 12 (.or 7 VY (.done))) (.done)))) (.or 7 (.or 3 (.one 4 wO) (.or 8 (.one 9 (.or 3 (.one 4 wR) (.or 11 (.one 12 xW) (.or 15 xU (.done))))) (.or 11 (.one 12 xR) (.or 15 (.or 3 (.one 4 wP) (.or 8 (.one 9 xU) (.or 11 (.one 12 xS) (.or 16 (.one 17 (.or 3 (.one 4 wQ) (.or 8 (.one 9 xV) (.or 11 (.one 12 xT) (.done))))) (.done))))) (.done))))) (.or 11 (.one 12 xQ) (.done)))) (.or 11 (.one 12 (.or 2 xQ (.done))) (.done)))))))))
@[go_sem] def V0 (Qd Qb:Nat):OP:=.one 18 false [16,15,11,8,7,3,2] xN (.one 19 false [18,16,15,11,8,7,3,2] (mv 14 80) (.done))
@[go_sem] def VZ (Qd Qb:Nat):OP:=.or 16 false [15] J6 (.one 17 false [16,15] J5 (V0 Qd Qb)) (.done)
@[go_sem] def ql (Qd Qb:Nat):OP:=.or 15 false [] (J7 Qd Qb) (VZ Qd Qb) (.done)
@[go_sem] def qk (Qd Qb:Nat):OP:=.or 11 false [] Q8 (.one 12 false [11] Q7 (V0 Qd Qb)) (.done)
@[go_sem] def qj (Qd Qb:Nat):OP:=.or 11 false [] Q8 (.one 12 false [11] Q7 (VZ Qd Qb)) (.or 16 false [15] J6 (.one 17 false [16,15] J5 (qk Qd Qb)) (.done))
@[go_sem] def wU (Qd Qb:Nat):OP:=.or 11 false [] Q8 (.one 12 false [11] Q7 (ql Qd Qb)) (.or 15 false [] (J7 Qd Qb) (qj Qd Qb) (.done))
@[go_sem] def qi (Qd Qb:Nat):OP:=.or 8 false [7] JD (.one 9 false [8,7] JC (V0 Qd Qb)) (.done)
@[go_sem] def qh (Qd Qb:Nat):OP:=.or 8 false [7] JD (.one 9 false [8,7] JC (VZ Qd Qb)) (.or 16 false [15] J6 (.one 17 false [16,15] J5 (qi Qd Qb)) (.done))
@[go_sem] def qg (Qd Qb:Nat):OP:=.or 8 false [7] JD (.one 9 false [8,7] JC (ql Qd Qb)) (.or 15 false [] (J7 Qd Qb) (qh Qd Qb) (.done))
@[go_sem] def wT (Qd Qb:Nat):OP:=.or 8 false [7] JD (.one 9 false [8,7] JC (qk Qd Qb)) (.or 11 false [] Q8 (.one 12 false [11] Q7 (qi Qd Qb)) (.done))
@[go_sem] def wi (Qd Qb:Nat):OP:=.or 8 false [7] JD (.one 9 false [8,7] JC (qj Qd Qb)) (.or 11 false [] Q8 (.one 12 false [11] Q7 (qh Qd Qb)) (.or 16 false [15] J6 (.one 17 false [16,15] J5 (wT Qd Qb)) (.done)))
@[go_sem] def wh (Qd Qb:Nat):OP:=.or 8 false [7] JD (.one 9 false [8,7] JC (wU Qd Qb)) (.or 11 false [] Q8 (.one 12 false [11] Q7 (qg Qd Qb)) (.or 15 false [] (J7 Qd Qb) (wi Qd Qb) (.done)))
@[go_sem] def wg (Qd Qb:Nat):OP:=.or 7 false [] (cl 69 Qd [68]) (qg Qd Qb) (.done)
@[go_sem] def Kq (Qd Qb:Nat):OP:=.or 3 false [2] Jm (.one 4 false [3,2] Jl (V0 Qd Qb)) (.done)
@[go_sem] def Kp (Qd Qb:Nat):OP:=.or 3 false [2] Jm (.one 4 false [3,2] Jl (VZ Qd Qb)) (.or 16 false [15] J6 (.one 17 false [16,15] J5 (Kq Qd Qb)) (.done))
@[go_sem] def wf (Qd Qb:Nat):OP:=.or 3 false [2] Jm (.one 4 false [3,2] Jl (ql Qd Qb)) (.or 15 false [] (J7 Qd Qb) (Kp Qd Qb) (.done))
@[go_sem] def we (Qd Qb:Nat):OP:=.or 3 false [2] Jm (.one 4 false [3,2] Jl (qk Qd Qb)) (.or 11 false [] Q8 (.one 12 false [11] Q7 (Kq Qd Qb)) (.done))
@[go_sem] def wd (Qd Qb:Nat):OP:=.or 3 false [2] Jm (.one 4 false [3,2] Jl (qj Qd Qb)) (.or 11 false [] Q8 (.one 12 false [11] Q7 (Kp Qd Qb)) (.or 16 false [15] J6 (.one 17 false [16,15] J5 (we Qd Qb)) (.done)))
@[go_sem] def wc (Qd Qb:Nat):OP:=.or 3 false [2] Jm (.one 4 false [3,2] Jl (qi Qd Qb)) (.or 8 false [7] JD (.one 9 false [8,7] JC (Kq Qd Qb)) (.done))
@[go_sem] def wb (Qd Qb:Nat):OP:=.or 3 false [2] Jm (.one 4 false [3,2] Jl (qh Qd Qb)) (.or 8 false [7] JD (.one 9 false [8,7] JC (Kp Qd Qb)) (.or 16 false [15] J6 (.one 17 false [16,15] J5 (wc Qd Qb)) (.done)))
@[go_sem] def wa (Qd Qb:Nat):OP:=.or 3 false [2] Jm (.one 4 false [3,2] Jl (qg Qd Qb)) (.or 8 false [7] JD (.one 9 false [8,7] JC (wf Qd Qb)) (.or 15 false [] (J7 Qd Qb) (wb Qd Qb) (.done)))
@[go_sem] def xZ (Qd Qb:Nat):OP:=.or 3 false [2] Jm (.one 4 false [3,2] Jl (wg Qd Qb)) (.or 7 false [] (cl 69 Qd [68]) (wa Qd Qb) (.done))
@[go_sem] def JG (Qd Qb:Nat):OP:=.one 0 false [] (fa 62 1 2) (.one 1 false [] (ld 63 1 62) (.one 5 false [] (fa 67 2 2) (.one 6 false [] (ld 68 1 67) (.one 10 false [] (mv 72 6) (.one 13 false [] (fa 75 4 2) (.one 14 false [] (ld 76 1 75) (.or 2 false [] (cl 64 Qd [63]) (.or 3 false [2] Jm (.one 4 false [3,2] Jl (.or 7 false [] (cl 69 Qd [68]) (wh Qd Qb) (.or 11 false [] Q8 (.one 12 false [11] Q7 (wg Qd Qb)) (.done)))) (.or 7 false [] (cl 69 Qd [68]) (.or 3 false [2] Jm (.one 4 false [3,2] Jl (wh Qd Qb)) (.or 8 false [7] JD (.one 9 false [8,7] JC (.or 3 false [2] Jm (.one 4 false [3,2] Jl (wU Qd Qb)) (.or 11 false [] Q8 (.one 12 false [11] Q7 (wf Qd Qb)) (.or 15 false [] (J7 Qd Qb) (wd Qd Qb) (.done))))) (.or 11 false [] Q8 (.one 12 false [11] Q7 (wa Qd Qb)) (.or 15 false [] (J7 Qd Qb) (.or 3 false [2] Jm (.one 4 false [3,2] Jl (wi Qd Qb)) (.or 8 false [7] JD (.one 9 false [8,7] JC (wd Qd Qb)) (.or 11 false [] Q8 (.one 12 false [11] Q7 (wb Qd Qb)) (.or 16 false [15] J6 (.one 17 false [16,15] J5 (.or 3 false [2] Jm (.one 4 false [3,2] Jl (wT Qd Qb)) (.or 8 false [7] JD (.one 9 false [8,7] JC (we Qd Qb)) (.or 11 false [] Q8 (.one 12 false [11] Q7 (wc Qd Qb)) (.done))))) (.done))))) (.done))))) (.or 11 false [] Q8 (.one 12 false [11] Q7 (xZ Qd Qb)) (.done)))) (.or 11 false [] Q8 (.one 12 false [11] Q7 (.or 2 false [] (cl 64 Qd [63]) (xZ Qd Qb) (.done))) (.done)))))))))
theorem JZ (Qd Qb:Nat):okR (jW Qd Qb) yf [] jN = true:=by kernel_rfl
theorem JX (Qd Qb:Nat):Wy (ris (jW Qd Qb) yf []) jN = JG Qd Qb:=by kernel_rfl def c_endpoint_lines (QZ Yr Vr KP Qd xG Qb Xb:Nat):AC:=Qe [1,2] (.reg [xo 2 (.box true 9 (.t 0)),xo 4 (.mknil 2),mc 5 (V.int 0)]) (Qe [1,2] (Qe [1,2,19] (.reg [xo 17 (.load true 9 (.t 2)),cl 18 QZ [17],bc 19 .neq 18 (V.int 0)]) (.cond (.t 19) (Qe [4,5] (.reg [xo 4 (.mknil 2),mc 5 (V.int 19)]) (.ret)) (.skip))) (Qe [1,2] (Qe [1,2,29] (.reg [mv 20 1,ln 21 20,fa 22 5 2,ld 23 1 22,ln 24 23,bn 25 .neq 21 24,mv 26 25,mg 27 1 26 false,xg 28 (.call Yr [(.t 27),(.c (.clo Vr []))]) 26 false,xo 29 (.pick (.t 26) (.c (V.bool true)) (.t 28))]) (.cond (.t 29) (Qe [4,5] (.reg [xo 4 (.mknil 2),mc 5 (V.int 18)]) (.ret)) (.skip))) (Qe [1,2,6] (.reg [fa 31 3 2,ld 32 1 31,cl 33 KP [32],mv 30 33,ex 34 30 0,ex 35 30 1,mv 6 34,mv 7 35]) (Qe [1,2,6,8,9] (.reg [xo 8 (.mknil 1),xo 9 (.mknil 1)]) (Qe [1,2,6,8,9] (Qe [1,2,6,8,9,37,38,39] (.reg [fa 36 6 2,ld 37 1 36,ln 38 37,mc 39 (V.int 0)]) (.block 0 (Xw [1,2,6,8,9,37,38,39] (Qe [1,2,6,8,9,37,38,39,40] (.reg [bn 40 .lss 39 38]) (Qe [1,2,6,8,9,37,38,39] (.cond (.t 40) (.skip) (.exit 0)) (Qe [1,2,6,8,9,37,38,39] (.block 1 (Qe [1,2,6,8,9,11,37,38,39] (.reg [ia 41 1 37 39,ld 42 1 41,mv 11 42]) (.reg [mv 43 8,mv 44 11,cl 45 Qd [44],xo 46 (.bslice 1 1 false [(.string ⟨#[]⟩)] [(0,(.t 45))]),xo 47 (.append 1 16 [(.string ⟨#[]⟩)] (.t 43) (.t 46)),mv 8 47]))) (.reg [bc 48 .add 39 (V.int 1),mv 39 48]))))))) (Qe [1,2,6,8,9] (Qe [1,2,6,8,9,50,51,52] (.reg [fa 49 7 2,ld 50 1 49,ln 51 50,mc 52 (V.int 0)]) (.block 2 (Xw [1,2,6,8,9,50,51,52] (Qe [1,2,6,8,9,50,51,52,53] (.reg [bn 53 .lss 52 51]) (Qe [1,2,6,8,9,50,51,52] (.cond (.t 53) (.skip) (.exit 2)) (Qe [1,2,6,8,9,50,51,52] (.block 3 (Qe [1,2,6,8,9,13,50,51,52] (.reg [ia 54 1 50 52,ld 55 1 54,mv 13 55]) (.reg [mv 56 9,mv 57 13,cl 58 xG [57],xo 59 (.bslice 1 1 false [(.string ⟨#[]⟩)] [(0,(.t 58))]),xo 60 (.append 1 16 [(.string ⟨#[]⟩)] (.t 56) (.t 59)),mv 9 60]))) (.reg [bc 61 .add 52 (V.int 1),mv 52 61]))))))) (Qe [1,2,8,9,14] (ace [] jN (JG Qd Qb) (jW Qd Qb) yf) (Qe [2,14] (Qe [2,14,88,89,90] (.reg [mv 81 1,cl 82 Xb [81],xo 83 (.build [(.string ⟨#[]⟩),(.slice none 0 0)] [(0,1,(.c (V.str [107,101,121,115]))),(1,1,(.t 82))]),mv 84 8,xo 85 (.build [(.string ⟨#[]⟩),(.slice none 0 0)] [(0,1,(.c (V.str [97,110,99,104,111,114,115]))),(1,1,(.t 84))]),mv 86 9,xo 87 (.build [(.string ⟨#[]⟩),(.slice none 0 0)] [(0,1,(.c (V.str [104,97,115,104,101,115]))),(1,1,(.t 86))]),xo 88 (.obslice 3 2 true [(.string ⟨#[]⟩),(.slice none 0 0)] [(0,(.t 83)),(1,(.t 85)),(2,(.t 87))]),ln 89 88,mc 90 (V.int 0)]) (.block 4 (Xw [2,14,88,89,90] (Qe [2,14,88,89,90,91] (.reg [bn 91 .lss 90 89]) (Qe [2,14,88,89,90] (.cond (.t 91) (.skip) (.exit 4)) (Qe [2,14,88,89,90] (.block 5 (Qe [2,14,16,88,89,90] (.reg [ia 92 2 88 90,xo 93 (.load true 2 (.t 92)),xo 16 (.alloc [.val (.string ⟨#[]⟩),.nil 1]),xs 2 16 93]) (Qe [2,14,16,88,89,90,97] (.reg [fa 94 1 16,ld 95 1 94,ln 96 95,bc 97 .gtr 96 (V.int 0)]) (.cond (.t 97) (.reg [mv 98 14,xo 99 (.load true 2 (.t 16)),xo 100 (.obslice 1 2 true [(.string ⟨#[]⟩),(.slice none 0 0)] [(0,(.t 99))]),xo 101 (.append 2 40 [(.string ⟨#[]⟩),(.slice none 0 0)] (.t 98) (.t 100)),mv 14 101]) (.skip))))) (.reg [bc 102 .add 90 (V.int 1),mv 90 102]))))))) (Qe [4,5] (.reg [mv 103 14,fa 104 8 2,ld 105 1 104,xo 106 (.call Qb [(.t 105),(.c (V.str [121,101,115])),(.c (V.str [110,111]))]),xo 107 (.bslice 1 1 false [(.string ⟨#[]⟩)] [(0,(.t 106))]),xo 108 (.build [(.string ⟨#[]⟩),(.slice none 0 0)] [(0,1,(.c (V.str [102,97,108,108,98,97,99,107]))),(1,1,(.t 107))]),xo 109 (.obslice 1 2 true [(.string ⟨#[]⟩),(.slice none 0 0)] [(0,(.t 108))]),xo 110 (.append 2 40 [(.string ⟨#[]⟩),(.slice none 0 0)] (.t 103) (.t 109)),mv 4 110,mc 5 (V.int 0)]) (.ret)))))))))) def r_endpoint_lines:List YF:=[.tmp 4,.tmp 5]
def xy (Γ:Env) (f:Nat):Prop:=∀ (e:JQ) (al:List (List UInt8)) (sm:e.Sm) (ha:al.length < 2 ^ 30) (hn:∀ x∈al,x.length < 2 ^ 60),EvC Γ f [e.v,.sl 1 (al.map V.str)] (vC e al)
theorem agA {Γ:Env} {f QZ Yr Vr KP Qd xG Qb Xb:Nat} (h:Has Γ.P f 111 (c_endpoint_lines QZ Yr Vr KP Qd xG Qb Xb) r_endpoint_lines) (z0:Uf Γ QZ) (z1:Y2 Γ Yr) (z2:ju Γ Vr) (z3:ym Γ KP) (z4:aai Γ Qd) (z5:aal Γ xG) (z6:yw Γ Qb) (z7:Wb Γ Xb):xy Γ f:=by
 intro e al sm ha hn
 refine XR h zsi (akh _ _) fun C hC hm=>?_
 subst hC
 unfold c_endpoint_lines
 have h0:=(z0 e sm).b
 have hp:=(z3 e.suites sm.hs).b
 have hany:=(z1 al Vr [] (fun x=>!JN x) (fun x hx=>z2 x (hn x hx)) trivial (by omega)).b
 by_cases hck:Y5 e = true
 ·rw [if_pos hck] at h0
  by_cases hal:yL e al = true
  ·have hB:=hck
   simp only [Y5,amm,akK,aml,Bool.and_eq_true,decide_eq_true_eq] at hB
   rw [ajB hB.1.2.2.2.2] at hp
   have hA:=hal
   simp only [yL,Bool.and_eq_true,decide_eq_true_eq] at hA
   have hav:al.any (fun x=>!JN x) = false:=by
    rw [List.any_eq_false];intro x hx;simpa using (List.all_eq_true.1 hA.2 x hx)
   rw [hav] at hany
   have lma:(al.map V.str).length = al.length:=List.length_map _
   have lmi:(e.idents.map Yo.v).length = e.idents.length:=List.length_map _
   have e0:(((al.length:Nat):Int) != ((e.idents.length:Nat):Int)) = false:=by simp [hA.1]
   simp only [JQ.v,JQ.cells] at h0 ⊢
   repeat' (first|(refine zsk ?_;intro K' hK)|(refine zrt 20 (JZ _ _) (JX _ _) ?_;intro K' hK)|refine zsp ?_|(refine zsc ?_ ?_<;>intro hc<;>first|exact znh|try simp only [znz] at hc)|simp (maxSteps:=1000000) only [go_sem,lma,lmi,e0,JG]|(refine hK _ ?_;clear hK K')|apply zan|((first|apply Ql|apply Qi);(focus first|exact h0|exact hp|exact hany|exact (z0 _ _).b|exact (z1 _ _ _ _ zsd zsd zsd).b|exact (z2 _ zsd).b|exact (z3 _ zsd).b|exact (z4 _ zsd zsd).b|exact (z5 _).b|exact (z6 _ _ _).b|exact (z7 _ zsd).b))|exact zsq|fail)
   have lmA:(e.anchors.map V.int).length = e.anchors.length:=List.length_map _
   have lmH:(e.hashes.map V.int).length = e.hashes.length:=List.length_map _
   have hkey:=hB.2.2.2.1
   rw [lmA]
   refine Yf (ι:=Nat) (fun k=>k≤e.anchors.length) (fun k=>lnA e al ((e.anchors.take k).map Lib.itoa) k) (fun k=>e.anchors.length - k) 0 (by omega) (QX [(1,24000),(2,25000)]) (Ys [(1,24000),(2,25000)] (by simp only [go_sem,zwl,lnA,JQ.cells]<;>exact zcc) (by simp only [go_sem,zwl,lnA,JQ.cells]<;>exact zcc) (by simp [QX]) (by simp;omega) (by omega)) fun k hk K' hL=>?_
   rcases hd:e.anchors.drop k with _|⟨x,r⟩
   ·have hkl:=Ja hd
    have e1:decide ((k:Int) < ((e.anchors.length:Nat):Int)) = false:=by simp;omega
    have e3:e.anchors.take k = e.anchors:=List.take_of_length_le hkl
    rw [e3]
    show AWp _ _ _ (lnA e al (KD e) k) _ _ _
    repeat' (first|(refine zsk ?_;intro K' hK)|(refine zrt 20 (JZ _ _) (JX _ _) ?_;intro K' hK)|refine zsp ?_|(refine zsc ?_ ?_<;>intro hc<;>first|exact znh|try simp only [znz] at hc)|simp (maxSteps:=1000000) only [go_sem,lnA,JY,JQ.cells,e1,JG]|(refine hK _ ?_;clear hK K')|apply zan|((first|apply Ql|apply Qi);(focus first|exact (z0 _ _).b|exact (z1 _ _ _ _ zsd zsd zsd).b|exact (z2 _ zsd).b|exact (z3 _ zsd).b|exact (z4 _ zsd zsd).b|exact (z5 _).b|exact (z6 _ _ _).b|exact (z7 _ zsd).b))|exact zsq|fail)
    rw [lmH]
    refine Yf (ι:=Nat) (fun k=>k≤e.hashes.length) (fun k=>lnB e al (KD e) ((e.hashes.take k).map fun n=>(Yz n).name) k) (fun k=>e.hashes.length - k) 0 (Nat.zero_le _) (QX []) (Ys [] (by simp only [go_sem,zwl,lnB,JQ.cells]<;>exact zcc) (by simp only [go_sem,zwl,lnB,JQ.cells]<;>exact zcc) (by simp [QX]) (by simp) (by omega)) fun j hj K2 hL2=>?_
    rcases hdj:e.hashes.drop j with _|⟨x,r⟩
    ·have hjl:=Ja hdj
     have e2:decide ((j:Int) < ((e.hashes.length:Nat):Int)) = false:=by simp;omega
     have e4:e.hashes.take j = e.hashes:=List.take_of_length_le hjl
     rw [e4]
     show AWp _ _ _ (lnB e al (KD e) (qQ e) j) _ _ _
     refine xJ fun K' hK=>?_
     simp (maxSteps:=1000000) only [go_sem,lnB,JY,JQ.cells,e2]
     refine hK _ ?_
     clear hK
     clear K'
     (try simp only [go_sem])
     refine aa2 ?_
     refine acD ⟨false,rfl,fun h=>Bool.noConfusion h,fun _=>?_⟩
     refine ahN ?_
     simp only [go_sem]
     refine alA (s1:=lnC e al) (apf [0] none (fun p hp=>?_) ?_ (by simp) (by rw [hm];rfl)) ?_
     ·simp only [List.mem_cons,List.not_mem_nil,or_false] at hp
      rcases hp with rfl|rfl|rfl|rfl|rfl
      ·show conv _ _ _ (.sl 1 (al.map V.str)) (.sl 1 (al.map V.str))
       simp [conv]
      ·show conv _ _ _ (.ptr 0 0) (.ptr 0 0)
       simp [conv]
      ·show conv _ _ _ (V.str (abU e.suites)) (V.str (abU e.suites))
       simp [V.str,conv]
      ·show conv _ _ _ (.hd 1 0 (KD e).length) (.sl 1 ((KD e).map V.str))
       simp only [conv]
       exact ⟨trivial,by simp,.inl ⟨true,_,rfl,by rw [List.drop_zero,Wu]⟩⟩
      ·show conv _ _ _ (.hd 2 0 (qQ e).length) (.sl 1 ((qQ e).map V.str))
       simp only [conv]
       exact ⟨trivial,by simp,.inl ⟨true,_,rfl,by rw [List.drop_zero,Wu]⟩⟩
     ·exact ⟨⟨_,rfl,fun h=>h,by simp [JQ.cells,Yn,conv,V.str,V.int,V.bool]⟩,trivial⟩
     ·clear hL hL2
      simp only [lnC,stL]
      have hm1:=hB.1.2.1
      have hm2:=hB.1.2.2.1
      have hm3:=hB.1.2.2.2.1
      have hI1:=(z4 e.least (by omega) (by omega)).b
      have hI2:=(z4 e.most (by omega) (by omega)).b
      have hC1:=(z6 e.own [111,119,110] [99,108,105,101,110,116]).b
      have hC2:=(z6 e.fall [121,101,115] [110,111]).b
      have hCl:=(z7 al (by omega)).b
      refine UA (ι:=Unit) (fun _=>True) (fun _=>lnD e al) (fun K' hK'=>?_) (fun _ _=>?_)
      ·repeat' (first|(refine zsk ?_;intro K' hK)|(refine zrt 20 (JZ _ _) (JX _ _) ?_;intro K' hK)|refine zsp ?_|(refine zsc ?_ ?_<;>intro hc<;>first|exact znh|try simp only [znz] at hc)|simp (maxSteps:=1000000) only [go_sem,JQ.cells,JG]|(refine hK _ ?_;clear hK K')|apply zan|((first|apply Ql|apply Qi);(focus first|exact hI1|exact hI2|exact hC1|exact (z0 _ _).b|exact (z1 _ _ _ _ zsd zsd zsd).b|exact (z2 _ zsd).b|exact (z3 _ zsd).b|exact (z4 _ zsd zsd).b|exact (z5 _).b|exact (z6 _ _ _).b|exact (z7 _ zsd).b))|exact zsq|fail)
       all_goals exact hK' _ () (QX [(1,3001),(2,8001),(3,11001),(4,16001),(5,18001)]) trivial (Ys [(1,3001),(2,8001),(3,11001),(4,16001),(5,18001)] (by simp only [go_sem,zwl,lnD,JY,JQ.cells]<;>exact zcc) (by simp only [go_sem,zwl,lnD,JY,JQ.cells]<;>exact zcc) (by simp [QX]) (by simp [lnD,JY];omega) (by omega))
      ·
       refine alA (s1:=lnE e al) (apf [0,5] none (fun p hp=>?_) ?_ (by simp) (by rw [hm];rfl)) ?_
       ·simp only [List.mem_cons,List.not_mem_nil,or_false] at hp
        rcases hp with rfl|rfl|rfl|rfl|rfl
        ·show conv _ _ _ (.sl 1 (al.map V.str)) (.sl 1 (al.map V.str))
         simp [conv]
        ·show conv _ _ _ (.ptr 0 0) (.ptr 0 0)
         simp [conv]
        ·show conv _ _ _ (.sl 1 ((KD e).map V.str)) (.sl 1 ((KD e).map V.str))
         simp [conv]
        ·show conv _ _ _ (.sl 1 ((qQ e).map V.str)) (.sl 1 ((qQ e).map V.str))
         simp [conv]
        ·show conv _ _ _ (.hd 5 0 4) (.hd 1 0 4)
         simp [conv]
       ·refine ⟨⟨_,rfl,fun h=>h,by simp [JQ.cells,Yn,conv,V.str,V.int,V.bool]⟩,⟨_,rfl,fun h=>h,rfl,?_,?_⟩,trivial⟩
        ·refine ⟨ala _ _ rfl (by decide),ala _ _ rfl (by decide),ala _ _ rfl (by decide),ala _ _ rfl (by decide),trivial⟩
        ·exact PLn.closedC _
       ·simp only [lnE,stL]
        repeat' (first|(refine zsk ?_;intro K' hK)|(refine zrt 20 (JZ _ _) (JX _ _) ?_;intro K' hK)|refine zsp ?_|(refine zsc ?_ ?_<;>intro hc<;>first|exact znh|try simp only [znz] at hc)|simp (maxSteps:=1000000) only [go_sem,JQ.cells,JG]|(refine hK _ ?_;clear hK K')|apply zan|((first|apply Ql|apply Qi);(focus first|exact hCl|exact (z0 _ _).b|exact (z1 _ _ _ _ zsd zsd zsd).b|exact (z2 _ zsd).b|exact (z3 _ zsd).b|exact (z4 _ zsd zsd).b|exact (z5 _).b|exact (z6 _ _ _).b|exact (z7 _ zsd).b))|exact zsq|fail)
        refine alA (s1:=lnF e al (yY e) 0) (apf [0,1] none (fun p hp=>?_) ?_ (by simp) (by rw [hm];rfl)) ?_
        ·simp only [List.mem_cons,List.not_mem_nil,or_false] at hp
         rcases hp with rfl|rfl|rfl|rfl|rfl
         ·show conv _ _ _ (.ptr 0 0) (.ptr 0 0)
          simp [conv]
         ·show conv _ _ _ (.hd 1 0 4) (.hd 1 0 4)
          simp [conv]
         ·show conv _ _ _ (.hd 7002 0 3) (.sl 2 ((adb e al).map PLn.v))
          simp only [conv]
          refine ⟨trivial,by decide,.inr ⟨true,_,rfl,?_,?_,?_⟩⟩
          ·simp [adb,PLn.v,Yn,conv,V.str]
          ·simp [adb,PLn.v,ntL]
          ·simp [adb,PLn.v,V.closed,closedL]
         ·show conv _ _ _ (V.int 3) (V.int 3)
          simp [conv,V.int]
         ·show conv _ _ _ (V.int 0) (V.int 0)
          simp [conv,V.int]
        ·exact ⟨⟨_,rfl,fun h=>h,by simp [JQ.cells,Yn,conv,V.str,V.int,V.bool]⟩,⟨_,rfl,fun h=>h,rfl,rfl⟩,trivial⟩
        ·refine Yf (ι:=Nat) (fun k=>k≤3) (fun k=>lnG e al (yY e++((adb e al).take k).filter W9) k) (fun k=>3 - k) 0 (Nat.zero_le _) (QX []) (Ys [] (by simp only [go_sem,zwl,lnF,stL,lnG,JQ.cells]<;>exact zcc) (by simp only [go_sem,zwl,lnF,stL,lnG,JQ.cells]<;>exact zcc) (by simp [QX]) (by simp [lnF,stL]) (by omega)) fun i hi K3 hL3=>?_
         by_cases hie:i = 3
         ·subst hie
          have e5:(adb e al).take 3 = adb e al:=rfl
          rw [e5]
          have hrs:vC e al = .tup [.sl 2 ((Wv e al).map PLn.v),V.int 0]:=by rw [vC,if_pos hck,if_pos hal]
          have hll:Wv e al = (yY e++(adb e al).filter W9)++[⟨[102,97,108,108,98,97,99,107],[if e.fall = true then [121,101,115] else [110,111]]⟩]:=rfl
          have hol:(yY e++(adb e al).filter W9).length≤7:=by
           rw [List.length_append];have:=List.length_filter_le W9 (adb e al);simp only [yY,adb,List.length_cons,List.length_nil] at *;omega
          rw [hrs,hll]
          generalize yY e++(adb e al).filter W9 = out at *
          repeat' (first|(refine zsk ?_;intro K' hK)|(refine zrt 20 (JZ _ _) (JX _ _) ?_;intro K' hK)|refine zsp ?_|(refine zsc ?_ ?_<;>intro hc<;>first|exact znh|try simp only [znz] at hc)|simp (maxSteps:=1000000) only [go_sem,lnG,JY,JQ.cells,Wu,JG]|(refine hK _ ?_;clear hK K')|apply zan|((first|apply Ql|apply Qi);(focus first|exact hC2|exact (z0 _ _).b|exact (z1 _ _ _ _ zsd zsd zsd).b|exact (z2 _ zsd).b|exact (z3 _ zsd).b|exact (z4 _ zsd zsd).b|exact (z5 _).b|exact (z6 _ _ _).b|exact (z7 _ zsd).b))|exact zsq|fail)
          all_goals exact QA _ rfl ⟨ar7 rfl rfl,rfl,trivial⟩
         ·obtain ⟨l,hl⟩:∃ l,(adb e al)[i]? = some l:=⟨(adb e al)[i]'(by show i < 3;omega),List.getElem?_eq_getElem _⟩
          have hlv:((adb e al).map PLn.v)[i]? = some (.agg [V.str l.word,.sl 1 (l.vals.map V.str)]):=by rw [List.getElem?_map,hl];rfl
          have e5:(adb e al).take (i + 1) = (adb e al).take i++[l]:=by rw [List.take_add_one,hl];rfl
          have hw:=QP (k:=i) (by omega)
          have e6:decide ((i:Int) < 3) = true:=decide_eq_true (by omega)
          have lml:(l.vals.map V.str).length = l.vals.length:=List.length_map _
          have hol:(yY e++((adb e al).take i).filter W9).length≤7:=by
           rw [List.length_append];have:=List.length_filter_le W9 ((adb e al).take i);simp only [yY,List.length_cons,List.length_nil,List.length_take] at *;omega
          by_cases hf:W9 l = true
          ·have hns:yY e++((adb e al).take (i + 1)).filter W9 = (yY e++((adb e al).take i).filter W9)++[l]:=by
            rw [e5,List.filter_append,List.filter_cons_of_pos hf,List.filter_nil,List.append_assoc]
           generalize yY e++((adb e al).take i).filter W9 = out at *
           have e7:decide (((l.vals.length:Nat):Int) > 0) = true:=hf
           have hb:List.map PLn.v out++[.agg [V.str l.word,.sl 1 (l.vals.map V.str)]] = (out++[l]).map PLn.v:=by rw [List.map_append];rfl
           have hln:out.length + 1 = (out++[l]).length:=by simp
           repeat' (first|(refine zsk ?_;intro K' hK)|(refine zrt 20 (JZ _ _) (JX _ _) ?_;intro K' hK)|refine zsp ?_|(refine zsc ?_ ?_<;>intro hc<;>first|exact znh|try simp only [znz] at hc)|simp (maxSteps:=1000000) only [go_sem,lnG,JY,JQ.cells,hlv,e6,e7,lml,hw,Int.toNat_natCast,Wu,hb,hln,JG]|(refine hK _ ?_;clear hK K')|apply zan|((first|apply Ql|apply Qi);(focus first|exact (z0 _ _).b|exact (z1 _ _ _ _ zsd zsd zsd).b|exact (z2 _ zsd).b|exact (z3 _ zsd).b|exact (z4 _ zsd zsd).b|exact (z5 _).b|exact (z6 _ _ _).b|exact (z7 _ zsd).b))|exact zsq|fail)
           all_goals
            refine hL3 _ (i + 1) (QX [(1,12002)]) (by omega) (by omega) ?_
            rw [hns]
            exact Ys [(1,12002)] (by simp only [go_sem,zwl,lnG,JY,JQ.cells];first|done|exact PLn.closedC _|trace_state) (by simp only [go_sem,zwl,lnG,JY,JQ.cells];first|done|exact PLn.closedC _|trace_state) (by simp [QX]) (by simp [lnG,JY];omega) (by omega)
          ·have hns:yY e++((adb e al).take (i + 1)).filter W9 = yY e++((adb e al).take i).filter W9:=by
            rw [e5,List.filter_append,List.filter_cons_of_neg (by simpa using hf),List.filter_nil,List.append_nil]
           generalize yY e++((adb e al).take i).filter W9 = out at *
           have e7:decide (((l.vals.length:Nat):Int) > 0) = false:=by simpa [W9] using hf
           repeat' (first|(refine zsk ?_;intro K' hK)|(refine zrt 20 (JZ _ _) (JX _ _) ?_;intro K' hK)|refine zsp ?_|(refine zsc ?_ ?_<;>intro hc<;>first|exact znh|try simp only [znz] at hc)|simp (maxSteps:=1000000) only [go_sem,lnG,JY,JQ.cells,hlv,e6,e7,lml,hw,Int.toNat_natCast,Wu,JG]|(refine hK _ ?_;clear hK K')|apply zan|((first|apply Ql|apply Qi);(focus first|exact (z0 _ _).b|exact (z1 _ _ _ _ zsd zsd zsd).b|exact (z2 _ zsd).b|exact (z3 _ zsd).b|exact (z4 _ zsd zsd).b|exact (z5 _).b|exact (z6 _ _ _).b|exact (z7 _ zsd).b))|exact zsq|fail)
           all_goals first
            | (refine hL3 _ (i + 1) (QX []) (by omega) (by omega) ?_
               rw [hns]
               exact Ys [] (by simp only [go_sem,zwl,lnG,JY,JQ.cells]<;>exact zcc) (by simp only [go_sem,zwl,lnG,JY,JQ.cells]<;>exact zcc) (by simp [QX]) (by simp [lnG,JY]) (by omega))
    ·obtain ⟨hj',hget,hr⟩:=QK hdj
     have hhl:=sm.hh
     have hw:=QP (k:=j) (by omega)
     have e2:decide ((j:Int) < ((e.hashes.length:Nat):Int)) = true:=by simp;omega
     have hns:(e.hashes.take (j + 1)).map (fun n=>(Yz n).name) = (e.hashes.take j).map (fun n=>(Yz n).name)++[(Yz x).name]:=by rw [List.take_add_one,hget,List.map_append];rfl
     have hnl:((e.hashes.take j).map fun n=>(Yz n).name).length≤2 ^ 30:=by simp;omega
     have hnm:=(z5 x).b
     generalize (e.hashes.take j).map (fun n=>(Yz n).name) = ns at *
     have hb:List.map V.str ns++[V.str (Yz x).name] = (ns++[(Yz x).name]).map V.str:=by rw [List.map_append];rfl
     have hln:ns.length + 1 = (ns++[(Yz x).name]).length:=by simp
     repeat' (first|(refine zsk ?_;intro K' hK)|(refine zrt 20 (JZ _ _) (JX _ _) ?_;intro K' hK)|refine zsp ?_|(refine zsc ?_ ?_<;>intro hc<;>first|exact znh|try simp only [znz] at hc)|simp (maxSteps:=1000000) only [go_sem,lnB,JY,JQ.cells,e2,hw,Int.toNat_natCast,List.getElem?_map,hget,Wu,hb,hln,JG]|(refine hK _ ?_;clear hK K')|apply zan|((first|apply Ql|apply Qi);(focus first|exact hnm|exact (z0 _ _).b|exact (z1 _ _ _ _ zsd zsd zsd).b|exact (z2 _ zsd).b|exact (z3 _ zsd).b|exact (z4 _ zsd zsd).b|exact (z5 _).b|exact (z6 _ _ _).b|exact (z7 _ zsd).b))|exact zsq|fail)
     all_goals first
      | (refine hL2 _ (j + 1) (QX [(2,8003)]) (by omega) (by omega) ?_
         rw [hns]
         exact Ys [(2,8003)] (by simp only [go_sem,zwl,lnB,JQ.cells]<;>exact zcc) (by simp only [go_sem,zwl,lnB,JQ.cells]<;>exact zcc) (by simp [QX]) (by simp;omega) (by omega))
   ·obtain ⟨hk',hget,hr⟩:=QK hd
    have hw:=QP (k:=k) (by omega)
    have e1:decide ((k:Int) < ((e.anchors.length:Nat):Int)) = true:=by simp;omega
    have hns:(e.anchors.take (k + 1)).map Lib.itoa = (e.anchors.take k).map Lib.itoa++[Lib.itoa x]:=by rw [List.take_add_one,hget,List.map_append];rfl
    have hnl:((e.anchors.take k).map Lib.itoa).length≤16:=by simp;omega
    have hxr:=List.all_eq_true.1 hB.2.2.2.1 x (List.mem_of_getElem? hget)
    simp only [ael,Bool.and_eq_true,decide_eq_true_eq] at hxr
    have hit:=(z4 x (by omega) (by omega)).b
    generalize (e.anchors.take k).map Lib.itoa = ns at *
    have hb:List.map V.str ns++[V.str (Lib.itoa x)] = (ns++[Lib.itoa x]).map V.str:=by rw [List.map_append];rfl
    have hln:ns.length + 1 = (ns++[Lib.itoa x]).length:=by simp
    repeat' (first|(refine zsk ?_;intro K' hK)|(refine zrt 20 (JZ _ _) (JX _ _) ?_;intro K' hK)|refine zsp ?_|(refine zsc ?_ ?_<;>intro hc<;>first|exact znh|try simp only [znz] at hc)|simp (maxSteps:=1000000) only [go_sem,lnA,JY,JQ.cells,e1,hw,Int.toNat_natCast,List.getElem?_map,hget,Wu,hb,hln,JG]|(refine hK _ ?_;clear hK K')|apply zan|((first|apply Ql|apply Qi);(focus first|exact hit|exact (z0 _ _).b|exact (z1 _ _ _ _ zsd zsd zsd).b|exact (z2 _ zsd).b|exact (z3 _ zsd).b|exact (z4 _ zsd zsd).b|exact (z5 _).b|exact (z6 _ _ _).b|exact (z7 _ zsd).b))|exact zsq|fail)
    all_goals first
     | (refine hL _ (k + 1) (QX [(1,8003)]) (by omega) (by omega) ?_
        rw [hns]
        exact Ys [(1,8003)] (by simp only [go_sem,zwl,lnA,JQ.cells]<;>exact zcc) (by simp only [go_sem,zwl,lnA,JQ.cells]<;>exact zcc) (by simp [QX]) (by simp;omega) (by omega))
  ·have hrs:vC e al = .tup [.sl 2 [],V.int 18]:=by rw [vC,if_pos hck,if_neg hal]
   rw [hrs]
   have lma:(al.map V.str).length = al.length:=List.length_map _
   have lmi:(e.idents.map Yo.v).length = e.idents.length:=List.length_map _
   simp only [JQ.v,JQ.cells] at h0 ⊢
   by_cases hl:al.length = e.idents.length
   ·have e0:(((al.length:Nat):Int) != ((e.idents.length:Nat):Int)) = false:=by simp [hl]
    have hav:al.any (fun x=>!JN x) = true:=by
     cases hany2:al.any (fun x=>!JN x) with
     | true=>rfl
     | false =>
       refine absurd ?_ hal
       simp only [yL,Bool.and_eq_true,decide_eq_true_eq]
       exact ⟨hl,List.all_eq_true.2 fun x hx=>by simpa using List.any_eq_false.1 hany2 x hx⟩
    rw [hav] at hany
    repeat' (first|(refine zsk ?_;intro K' hK)|(refine zrt 20 (JZ _ _) (JX _ _) ?_;intro K' hK)|refine zsp ?_|(refine zsc ?_ ?_<;>intro hc<;>first|exact znh|try simp only [znz] at hc)|simp (maxSteps:=1000000) only [go_sem,lma,lmi,e0,JG]|(refine hK _ ?_;clear hK K')|apply zan|((first|apply Ql|apply Qi);(focus first|exact h0|exact hany|exact (z0 _ _).b|exact (z1 _ _ _ _ zsd zsd zsd).b|exact (z2 _ zsd).b|exact (z3 _ zsd).b|exact (z4 _ zsd zsd).b|exact (z5 _).b|exact (z6 _ _ _).b|exact (z7 _ zsd).b))|exact zsq|fail)
    all_goals first|exact zr
   ·have e0:(((al.length:Nat):Int) != ((e.idents.length:Nat):Int)) = true:=by simp;omega
    repeat' (first|(refine zsk ?_;intro K' hK)|(refine zrt 20 (JZ _ _) (JX _ _) ?_;intro K' hK)|refine zsp ?_|(refine zsc ?_ ?_<;>intro hc<;>first|exact znh|try simp only [znz] at hc)|simp (maxSteps:=1000000) only [go_sem,lma,lmi,e0,JG]|(refine hK _ ?_;clear hK K')|apply zan|((first|apply Ql|apply Qi);(focus first|exact h0|exact hany|exact (z0 _ _).b|exact (z1 _ _ _ _ zsd zsd zsd).b|exact (z2 _ zsd).b|exact (z3 _ zsd).b|exact (z4 _ zsd zsd).b|exact (z5 _).b|exact (z6 _ _ _).b|exact (z7 _ zsd).b))|exact zsq|fail)
    all_goals first|exact zr
 ·rw [if_neg hck] at h0
  have e1:vC e al = .tup [.sl 2 [],V.int 19]:=by rw [vC,if_neg hck]
  rw [e1]
  simp only [JQ.v,JQ.cells] at h0 ⊢
  repeat' (first|(refine zsk ?_;intro K' hK)|(refine zrt 20 (JZ _ _) (JX _ _) ?_;intro K' hK)|refine zsp ?_|(refine zsc ?_ ?_<;>intro hc<;>first|exact znh|try simp only [znz] at hc)|simp (maxSteps:=1000000) only [go_sem,JG]|(refine hK _ ?_;clear hK K')|apply zan|((first|apply Ql|apply Qi);(focus first|exact h0|exact (z0 _ _).b|exact (z1 _ _ _ _ zsd zsd zsd).b|exact (z2 _ zsd).b|exact (z3 _ zsd).b|exact (z4 _ zsd zsd).b|exact (z5 _).b|exact (z6 _ _ _).b|exact (z7 _ zsd).b))|exact zsq|fail)
  all_goals first|exact zr
end Av
end
section
set_option linter.unusedSimpArgs false
set_option linter.unusedVariables false
set_option maxRecDepth 10000
set_option maxHeartbeats 4000000
namespace Av
open Go
attribute [local irreducible] AWp VV UQ Ko awS awC jF awQ yc Jb XH jD awR XT awB okR Wy ris
def adW (ws:List (List UInt8)):List UInt8:=([32]:List UInt8).intercalate ws
def acb (n:List UInt8) (l:PLn):Vz:=⟨n,l.word,adW l.vals,0⟩
def ahY (e:JQ) (al:List (List UInt8)):List Vz:=(Wv e al).map (acb e.name)
def yI (e:JQ) (al:List (List UInt8)):V :=
 if Y5 e = true then
  if yL e al = true then
   if e.suites = [] then .tup [.sl 4 [],V.int 18] else .tup [.sl 4 ((ahY e al).map Vz.v),V.int 0]
  else .tup [.sl 4 [],V.int 18]
 else .tup [.sl 4 [],V.int 19]
theorem afb (e:JQ) (al:List (List UInt8)):(yI e al).closed:=by
 unfold yI
 split
 ·split
  ·split<;>exact ⟨trivial,trivial,trivial⟩
  ·exact ⟨trivial,trivial,trivial⟩
 ·exact ⟨trivial,trivial,trivial⟩
theorem aoY (m:Nat):∀ ws:List (List UInt8),(∀ w∈ws,w.length≤m)→(adW ws).length≤(m + 1) * ws.length
 | [],_=>by simp [adW,List.intercalate]
 | x :: r,h=>by
   unfold adW
   rw [adi]
   have hx:=h x (by simp)
   have hr:∀ r:List (List UInt8),(∀ w∈r,w.length≤m)→((r.map fun y=>(32:UInt8) :: y).flatten).length≤(m + 1) * r.length:=by
    intro r
    induction r with
    | nil=>intro _;simp
    | cons y t ih =>
      intro h
      have h1:=h y (by simp)
      have h2:=ih fun w hw=>h w (by simp [hw])
      simp only [List.map_cons,List.flatten_cons,List.length_append,List.length_cons,Nat.mul_add,Nat.mul_one] at h2 ⊢
      omega
   have h3:=hr r fun w hw=>h w (by simp [hw])
   simp only [List.length_append,List.length_cons,Nat.mul_add,Nat.mul_one] at h3 ⊢
   omega
theorem aih {e:JQ} {al:List (List UInt8)} (sm:e.Sm) (hck:Y5 e = true) (hal:yL e al = true):∀ l∈Wv e al,l.vals.length < 2 ^ 30∧∀ x∈l.vals,x.length≤700:=by
 have hB:=hck
 simp only [Y5,amm,akK,aml,Bool.and_eq_true,decide_eq_true_eq] at hB
 have hA:=hal
 simp only [yL,Bool.and_eq_true,decide_eq_true_eq] at hA
 have hs16:=agZ hB.1.2.2.2.2
 have hjl:=ale e.suites
 have hm1:=hB.1.2.1
 have hm2:=hB.1.2.2.1
 have hm3:=hB.1.2.2.2.1
 have i1:=Lib.itoa_length_le e.least (by omega) (by omega)
 have i2:=Lib.itoa_length_le e.most (by omega) (by omega)
 have hal2:∀ x∈al,x.length≤32:=fun x hx=>by
  have:=List.all_eq_true.1 hA.2 x hx
  simp only [JN,Bool.and_eq_true,decide_eq_true_eq] at this
  omega
 have hi:=sm.hi
 have hh:=sm.hh
 have hha:=sm.ha
 intro l hl
 simp only [Wv,List.mem_append,List.mem_filter,yY,adb,List.mem_cons,List.not_mem_nil,or_false] at hl
 rcases hl with ((rfl|rfl|rfl|rfl)|⟨rfl|rfl|rfl,_⟩)|rfl
 ·refine ⟨by simp,fun x hx=>?_⟩
  simp only [List.mem_singleton] at hx
  subst hx;omega
 ·refine ⟨by simp,fun x hx=>?_⟩
  simp only [List.mem_singleton] at hx
  subst hx;omega
 ·refine ⟨by simp,fun x hx=>?_⟩
  simp only [List.mem_singleton] at hx
  subst hx;omega
 ·refine ⟨by simp,fun x hx=>?_⟩
  simp only [List.mem_singleton] at hx
  subst hx;split<;>simp
 ·exact ⟨by show al.length < _;omega,fun x hx=>by have:=hal2 x hx;omega⟩
 ·refine ⟨by simp only [KD,List.length_map];omega,fun x hx=>?_⟩
  obtain ⟨n,hn,rfl⟩:=List.mem_map.1 hx
  have hk:=List.all_eq_true.1 hB.2.2.2.1 n hn
  simp only [ael,Bool.and_eq_true,decide_eq_true_eq] at hk
  have:=Lib.itoa_length_le n (by omega) (by omega)
  omega
 ·refine ⟨by simp only [qQ,List.length_map];omega,fun x hx=>?_⟩
  obtain ⟨n,hn,rfl⟩:=List.mem_map.1 hx
  have:=ao9 n
  omega
 ·refine ⟨by simp,fun x hx=>?_⟩
  simp only [List.mem_singleton] at hx
  subst hx;split<;>simp
def tsA (e:JQ) (ls:List PLn) (out:List Vz) (k:Nat):St:=JY [(2,.ptr 0 0),(8,.hd 1 0 out.length),(28,.sl 2 (ls.map PLn.v)),(29,V.int ls.length),(30,V.int k)] [(0,.box true e.cells),(1,.buf true 4 (out.map Vz.v))] 2
@[go_sem] def Xh (Qm:Nat):AO:=xo 41 (.call Qm [(.t 40),(.c (V.str [32]))])
@[go_sem] def qB:AO:=xo 42 (.build [(.string ⟨#[]⟩),(.string ⟨#[]⟩),(.string ⟨#[]⟩),(.int .i64 0)] [(0,1,(.t 36)),(1,1,(.t 38)),(2,1,(.t 41))])
@[go_sem] def qA:AO:=xo 43 (.bslice 1 4 true [(.string ⟨#[]⟩),(.string ⟨#[]⟩),(.string ⟨#[]⟩),(.int .i64 0)] [(0,(.t 42))])
@[go_sem] def K1:AO:=xo 44 (.append 4 56 [(.string ⟨#[]⟩),(.string ⟨#[]⟩),(.string ⟨#[]⟩),(.int .i64 0)] (.t 34) (.t 43))
def Ur (Qm:Nat):List AO:=[mv 34 8,fa 35 0 2,ld 36 1 35,fa 37 0 10,ld 38 1 37,fa 39 1 10,ld 40 1 39,Xh Qm,qB,qA,K1,mv 8 44]
def UD:List (List Nat):=[[],[],[1],[],[3],[],[5],[6],[2,4,7],[8],[0,9,7],[10,10,0,1,2,3,4,5,6,7,8,9,10]]
def Yi:OT:=.or 8 (.one 9 (.one 10 (.one 11 (.done)))) (.done)
def qE:OT:=.or 6 (.or 7 Yi (.done)) (.done)
def qD:OT:=.or 4 (.or 7 Yi (.done)) (.or 7 (.or 4 Yi (.done)) (.done))
def qC:OT:=.or 2 (.or 7 Yi (.done)) (.or 7 (.or 2 Yi (.done)) (.done))
def Un:OT:=.one 0 (.one 1 (.one 3 (.one 5 (.or 2 (.or 4 qE (.or 6 qD (.done))) (.or 4 (.or 2 qE (.or 6 qC (.done))) (.or 6 (.or 2 qD (.or 4 qC (.or 7 (.or 2 (.or 4 Yi (.done)) (.or 4 (.or 2 Yi (.done)) (.done))) (.done)))) (.done)))))))
@[go_sem] def VF (Qm:Nat):OP:=.or 8 false [7] qB (.one 9 false [7] qA (.one 10 true [9,7] K1 (.one 11 false [10,9,7] (mv 8 44) (.done)))) (.done)
@[go_sem] def VE (Qm:Nat):OP:=.or 7 false [] (Xh Qm) (VF Qm) (.done)
@[go_sem] def qO (Qm:Nat):OP:=.or 6 true [] (ld 40 1 39) (VE Qm) (.done)
@[go_sem] def qN (Qm:Nat):OP:=.or 4 true [] (ld 38 1 37) (VF Qm) (.done)
@[go_sem] def qM (Qm:Nat):OP:=.or 4 true [] (ld 38 1 37) (VE Qm) (.or 7 false [] (Xh Qm) (qN Qm) (.done))
@[go_sem] def qL (Qm:Nat):OP:=.or 2 true [] (ld 36 1 35) (VF Qm) (.done)
@[go_sem] def qK (Qm:Nat):OP:=.or 2 true [] (ld 36 1 35) (VE Qm) (.or 7 false [] (Xh Qm) (qL Qm) (.done))
@[go_sem] def J9 (Qm:Nat):OP:=.one 0 false [] (mv 34 8) (.one 1 false [] (fa 35 0 2) (.one 3 false [] (fa 37 0 10) (.one 5 false [] (fa 39 1 10) (.or 2 true [] (ld 36 1 35) (.or 4 true [] (ld 38 1 37) (qO Qm) (.or 6 true [] (ld 40 1 39) (qM Qm) (.done))) (.or 4 true [] (ld 38 1 37) (.or 2 true [] (ld 36 1 35) (qO Qm) (.or 6 true [] (ld 40 1 39) (qK Qm) (.done))) (.or 6 true [] (ld 40 1 39) (.or 2 true [] (ld 36 1 35) (qM Qm) (.or 4 true [] (ld 38 1 37) (qK Qm) (.or 7 false [] (Xh Qm) (.or 2 true [] (ld 36 1 35) (qN Qm) (.or 4 true [] (ld 38 1 37) (qL Qm) (.done))) (.done)))) (.done)))))))
theorem YZ (Qm:Nat):okR (Ur Qm) UD [2,4,6] Un = true:=by kernel_rfl
theorem YY (Qm:Nat):Wy (ris (Ur Qm) UD [2,4,6]) Un = J9 Qm:=by kernel_rfl def c_endpoint_ToSettings (qX Qm:Nat):AC:=Qe [1,2] (.reg [xo 2 (.box true 9 (.t 0)),xo 4 (.mknil 4),mc 5 (V.int 0)]) (Qe [2,6,7] (.reg [xo 12 (.load true 9 (.t 2)),mv 13 1,cl 14 qX [12,13],mv 11 14,ex 15 11 0,ex 16 11 1,mv 6 15,mv 7 16]) (Qe [2,6,7] (Qe [2,6,7,24] (.reg [mv 17 7,bc 18 .eql 17 (V.int 0),mv 19 18,xg 20 (.faddr 3 (.t 2)) 19 true,xg 21 (.load false 1 (.t 20)) 19 true,xg 22 (.lenL (.t 21)) 19 true,xg 23 (.bin .eql (.t 22) (.c (V.int 0))) 19 true,xo 24 (.pick (.t 19) (.t 23) (.c (V.bool false)))]) (.cond (.t 24) (.reg [mc 7 (V.int 18)]) (.skip))) (Qe [2,6] (Qe [2,6,7,26] (.reg [mv 25 7,bc 26 .neq 25 (V.int 0)]) (.cond (.t 26) (Qe [4,5] (.reg [mv 27 7,xo 4 (.mknil 4),mv 5 27]) (.ret)) (.skip))) (Qe [2,6,8] (.reg [xo 8 (.mknil 4)]) (Qe [8] (Qe [2,8,28,29,30] (.reg [mv 28 6,ln 29 28,mc 30 (V.int 0)]) (.block 0 (Xw [2,8,28,29,30] (Qe [2,8,28,29,30,31] (.reg [bn 31 .lss 30 29]) (Qe [2,8,28,29,30] (.cond (.t 31) (.skip) (.exit 0)) (Qe [2,8,28,29,30] (.block 1 (Qe [2,8,10,28,29,30] (.reg [ia 32 2 28 30,xo 33 (.load true 2 (.t 32)),xo 10 (.alloc [.val (.string ⟨#[]⟩),.nil 1]),xs 2 10 33]) (ace [2,4,6] Un (J9 Qm) (Ur Qm) UD))) (.reg [bc 45 .add 30 (V.int 1),mv 30 45]))))))) (Qe [4,5] (.reg [mv 46 8,mv 4 46,mc 5 (V.int 0)]) (.ret))))))) def r_endpoint_ToSettings:List YF:=[.tmp 4,.tmp 5]
def UU (Γ:Env) (f:Nat):Prop:=∀ (e:JQ) (al:List (List UInt8)) (sm:e.Sm) (ha:al.length < 2 ^ 30) (hn:∀ x∈al,x.length < 2 ^ 60),EvC Γ f [e.v,.sl 1 (al.map V.str)] (yI e al)
theorem ac8 {Γ:Env} {f qX Qm:Nat} (h:Has Γ.P f 47 (c_endpoint_ToSettings qX Qm) r_endpoint_ToSettings) (z0:xy Γ qX) (z1:aah Γ Qm):UU Γ f:=by
 intro e al sm ha hn
 refine XR h zsi (afb _ _) fun C hC hm=>?_
 subst hC
 unfold c_endpoint_ToSettings
 have h0:=(z0 e al sm ha hn).b
 by_cases hck:Y5 e = true
 ·by_cases hal:yL e al = true
  ·have hlv:vC e al = .tup [.sl 2 ((Wv e al).map PLn.v),V.int 0]:=by rw [vC,if_pos hck,if_pos hal]
   rw [hlv] at h0
   have lms:(e.suites.map V.int).length = e.suites.length:=List.length_map _
   simp only [JQ.v,JQ.cells] at h0 ⊢
   by_cases hs:e.suites = []
   ·have hr:yI e al = .tup [.sl 4 [],V.int 18]:=by rw [yI,if_pos hck,if_pos hal,if_pos hs]
    rw [hr]
    have e0:(((e.suites.length:Nat):Int) == 0) = true:=by simp [hs]
    repeat' (first|(refine zsk ?_;intro K' hK)|(refine zrf 12 (YZ _) (YY _) ?_;intro K' hK)|refine zsp ?_|(refine zsc ?_ ?_<;>intro hc<;>first|exact znh|try simp only [znz] at hc)|simp (maxSteps:=1000000) only [go_sem,lms,e0,J9]|(refine hK _ ?_;clear hK K')|apply zan|((first|apply Ql|apply Qi);(focus first|exact h0|exact (z0 _ _ _ zsd zsd).b|exact (z1 _ _ zsd zsd).b))|exact zsq|fail)
    all_goals first|exact zr
   ·have hr:yI e al = .tup [.sl 4 ((ahY e al).map Vz.v),V.int 0]:=by rw [yI,if_pos hck,if_pos hal,if_neg hs]
    rw [hr]
    have hsmall:=aih sm hck hal
    have hll:(Wv e al).length≤8:=by
     have:=List.length_filter_le W9 (adb e al)
     simp only [Wv,yY,adb,List.length_append,List.length_cons,List.length_nil] at *
     omega
    have e0:(((e.suites.length:Nat):Int) == 0) = false:=by simpa using hs
    have lml:((Wv e al).map PLn.v).length = (Wv e al).length:=List.length_map _
    have hset:ahY e al = (Wv e al).map (acb e.name):=rfl
    rw [hset]
    generalize Wv e al = ls at *
    repeat' (first|(refine zsk ?_;intro K' hK)|(refine zrf 12 (YZ _) (YY _) ?_;intro K' hK)|refine zsp ?_|(refine zsc ?_ ?_<;>intro hc<;>first|exact znh|try simp only [znz] at hc)|simp (maxSteps:=1000000) only [go_sem,lms,e0,lml,J9]|(refine hK _ ?_;clear hK K')|apply zan|((first|apply Ql|apply Qi);(focus first|exact h0|exact (z0 _ _ _ zsd zsd).b|exact (z1 _ _ zsd zsd).b))|exact zsq|fail)
    refine Yf (ι:=Nat) (fun k=>k≤ls.length) (fun k=>tsA e ls ((ls.take k).map (acb e.name)) k) (fun k=>ls.length - k) 0 (Nat.zero_le _) (QX [(1,21000)]) (Ys [(1,21000)] (by simp only [go_sem,zwl,tsA,JQ.cells]<;>exact zcc) (by simp only [go_sem,zwl,tsA,JQ.cells]<;>exact zcc) (by simp [QX]) (by simp;omega) (by omega)) fun k hk K' hL=>?_
    by_cases hke:k = ls.length
    ·have e1:decide ((k:Int) < ((ls.length:Nat):Int)) = false:=by simp;omega
     have e3:ls.take k = ls:=List.take_of_length_le (by omega)
     rw [e3]
     repeat' (first|(refine zsk ?_;intro K' hK)|(refine zrf 12 (YZ _) (YY _) ?_;intro K' hK)|refine zsp ?_|(refine zsc ?_ ?_<;>intro hc<;>first|exact znh|try simp only [znz] at hc)|simp (maxSteps:=1000000) only [go_sem,tsA,JY,JQ.cells,e1,J9]|(refine hK _ ?_;clear hK K')|apply zan|((first|apply Ql|apply Qi);(focus first|exact (z0 _ _ _ zsd zsd).b|exact (z1 _ _ zsd zsd).b))|exact zsq|fail)
     all_goals first|(refine QA _ rfl ?_;simp only [go_sem];rw [Wu];first|done|rfl)
    ·obtain ⟨l,hl⟩:∃ l,ls[k]? = some l:=⟨ls[k]'(by omega),List.getElem?_eq_getElem (by omega)⟩
     have hlv2:(ls.map PLn.v)[k]? = some (.agg [V.str l.word,.sl 1 (l.vals.map V.str)]):=by rw [List.getElem?_map,hl];rfl
     have e5:(ls.take (k + 1)).map (acb e.name) = (ls.take k).map (acb e.name)++[acb e.name l]:=by rw [List.take_add_one,hl,List.map_append];rfl
     have hw:=QP (k:=k) (by omega)
     have e1:decide ((k:Int) < ((ls.length:Nat):Int)) = true:=by simp;omega
     obtain ⟨s1,s2⟩:=hsmall l (List.mem_of_getElem? hl)
     have hib:=aoY 700 l.vals s2
     have hj:=(z1 l.vals [32] (by omega) (by show (adW l.vals).length < _;omega)).b
     have hj2:([32]:List UInt8).intercalate l.vals = adW l.vals:=rfl
     rw [hj2] at hj
     have hol:((ls.take k).map (acb e.name)).length≤8:=by simp;omega
     generalize (ls.take k).map (acb e.name) = out at *
     have hb:List.map Vz.v out++[.agg [V.str e.name,V.str l.word,V.str (adW l.vals),V.int 0]] = (out++[acb e.name l]).map Vz.v:=by rw [List.map_append];rfl
     have hln:out.length + 1 = (out++[acb e.name l]).length:=by simp
     repeat' (first|(refine zsk ?_;intro K' hK)|(refine zrf 12 (YZ _) (YY _) ?_;intro K' hK)|refine zsp ?_|(refine zsc ?_ ?_<;>intro hc<;>first|exact znh|try simp only [znz] at hc)|simp (maxSteps:=1000000) only [go_sem,tsA,JY,JQ.cells,hlv2,e1,hw,Int.toNat_natCast,Wu,hb,hln,J9]|(refine hK _ ?_;clear hK K')|apply zan|((first|apply Ql|apply Qi);(focus first|exact hj|exact (z0 _ _ _ zsd zsd).b|exact (z1 _ _ zsd zsd).b))|exact zsq|fail)
     all_goals first
      | (refine hL _ (k + 1) (QX [(1,15002)]) (by omega) (by omega) ?_
         rw [e5]
         exact Ys [(1,15002)] (by simp only [go_sem,zwl,tsA,JY,JQ.cells]<;>exact zcc) (by simp only [go_sem,zwl,tsA,JY,JQ.cells]<;>exact zcc) (by simp [QX]) (by simp [tsA,JY];omega) (by omega))
  ·have hlv:vC e al = .tup [.sl 2 [],V.int 18]:=by rw [vC,if_pos hck,if_neg hal]
   have hr:yI e al = .tup [.sl 4 [],V.int 18]:=by rw [yI,if_pos hck,if_neg hal]
   rw [hlv] at h0
   rw [hr]
   simp only [JQ.v,JQ.cells] at h0 ⊢
   repeat' (first|(refine zsk ?_;intro K' hK)|(refine zrf 12 (YZ _) (YY _) ?_;intro K' hK)|refine zsp ?_|(refine zsc ?_ ?_<;>intro hc<;>first|exact znh|try simp only [znz] at hc)|simp (maxSteps:=1000000) only [go_sem,J9]|(refine hK _ ?_;clear hK K')|apply zan|((first|apply Ql|apply Qi);(focus first|exact h0|exact (z0 _ _ _ zsd zsd).b|exact (z1 _ _ zsd zsd).b))|exact zsq|fail)
   all_goals first|exact zr
 ·have hlv:vC e al = .tup [.sl 2 [],V.int 19]:=by rw [vC,if_neg hck]
  have hr:yI e al = .tup [.sl 4 [],V.int 19]:=by rw [yI,if_neg hck]
  rw [hlv] at h0
  rw [hr]
  simp only [JQ.v,JQ.cells] at h0 ⊢
  repeat' (first|(refine zsk ?_;intro K' hK)|(refine zrf 12 (YZ _) (YY _) ?_;intro K' hK)|refine zsp ?_|(refine zsc ?_ ?_<;>intro hc<;>first|exact znh|try simp only [znz] at hc)|simp (maxSteps:=1000000) only [go_sem,J9]|(refine hK _ ?_;clear hK K')|apply zan|((first|apply Ql|apply Qi);(focus first|exact h0|exact (z0 _ _ _ zsd zsd).b|exact (z1 _ _ zsd zsd).b))|exact zsq|fail)
  all_goals first|exact zr
end Av
end
section
set_option linter.unusedSimpArgs false
set_option linter.unusedVariables false
set_option maxRecDepth 10000
set_option maxHeartbeats 4000000
namespace Av
open Go
attribute [local irreducible] AWp VV UQ Ko awS awC jF awQ yc Jb XH jD awR XT awB okR Wy ris
def PLn.v3 (l:PLn):V:=.agg [V.str l.word,.sl 1 (l.vals.map V.str),V.int 0]
theorem ajt:∀ l:List PLn,closedL (l.map PLn.v3)
 | []=>by simp [Av.closedL]
 | x :: r=>by
   rw [List.map_cons]
   exact ⟨by simp [PLn.v3,V.closed,Av.closedL],ajt r⟩
theorem jy:∀ l:List PLn,closedC (l.map PLn.v3)
 | []=>trivial
 | x :: r=>⟨⟨trivial,trivial,trivial,trivial⟩,jy r⟩
theorem arS:∀ l:List PLn,ntL (l.map PLn.v3)
 | []=>trivial
 | x :: r=>⟨by simp [PLn.v3],arS r⟩
theorem akM {o:Nat→Option Ob} {br:List Nat} {n:Nat} (w x:List UInt8) (h:o n = some (.buf true 1 [V.str x])) (hn:n ∉ br):conv o br none (.agg [V.str w,.hd n 0 1,V.int 0]) (PLn.v3 ⟨w,[x]⟩):=by
 simp [PLn.v3,conv,Yn,V.str,V.int,okB,h,hn]
theorem aoa {o:Nat→Option Ob} {br:List Nat} {B:Option (List Nat)} {ys zs:List V} (h:Yn o br B ys zs):∀ out:List PLn,Yn o br B (out.map PLn.v3++ys) (out.map PLn.v3++zs)
 | []=>h
 | x :: r=>⟨by simp [PLn.v3,conv,Yn,V.str,V.int],aoa h r⟩
theorem arT {o:Nat→Option Ob} {n m:Nat} {w x:List UInt8} {out:List PLn} (h:o n = some (.obuf true 3 (out.map PLn.v3++[.agg [V.str w,.hd m 0 1,V.int 0]]))) (hm:o m = some (.buf true 1 [V.str x])):conv o [] none (.hd n 0 (out.length + 1)) (.sl 3 ((out++[PLn.mk w [x]]).map PLn.v3)):=by
 simp only [conv]
 refine ⟨trivial,by simp,.inr ⟨true,_,h,?_,arS _,ajt _⟩⟩
 rw [List.drop_zero,List.take_of_length_le (by simp),List.map_append]
 exact aoa (ys:=[.agg [V.str w,.hd m 0 1,V.int 0]]) (zs:=[PLn.v3 ⟨w,[x]⟩]) ⟨akM _ _ hm (by simp),trivial⟩ out
def yS (e:JQ) (al:List (List UInt8)):V :=
 if Y5 e = true then
  if yL e al = true then
   if e.suites = [] then .tup [.sl 3 [],V.int 18] else .tup [.sl 3 ((Wv e al).map PLn.v3),V.int 0]
  else .tup [.sl 3 [],V.int 18]
 else .tup [.sl 3 [],V.int 19]
theorem aiZ (e:JQ) (al:List (List UInt8)):(yS e al).closed:=by
 unfold yS
 split
 ·split
  ·split<;>exact ⟨trivial,trivial,trivial⟩
  ·exact ⟨trivial,trivial,trivial⟩
 ·exact ⟨trivial,trivial,trivial⟩
def aqB (e:JQ):List UInt8:=if e.own = true then [111,119,110] else [99,108,105,101,110,116]
def ac6 (e:JQ):List UInt8:=if e.fall = true then [121,101,115] else [110,111]
def rlP (e:JQ) (al:List (List UInt8)):St:=JY [(1,.sl 1 (al.map V.str)),(3,.ptr 0 0),(10,V.str (abU e.suites))] [(0,.box true e.cells)] 1
def as2 (e:JQ) (al:List (List UInt8)):St:=stL [(1,.sl 1 (al.map V.str)),(3,.ptr 0 0),(13,V.str (ac6 e)),(14,.hd 1 0 4)] [.box true e.cells,.buf true 3 ((yY e).map PLn.v3)]
def rlF (e:JQ) (out:List PLn):St:=JY [(3,.ptr 0 0),(13,V.str (ac6 e)),(14,.hd 1 0 out.length)] [(0,.box true e.cells),(1,.buf true 3 (out.map PLn.v3))] 2
def rlG (e:JQ) (out:List PLn) (as:List (List UInt8)) (k:Nat):St:=JY [(3,.ptr 0 0),(13,V.str (ac6 e)),(14,.hd 1 0 out.length),(15,.hd 2 0 as.length),(16,.hd 3 0 0),(17,V.int k)] [(0,.box true e.cells),(1,.buf true 3 (out.map PLn.v3)),(2,.buf true 1 (as.map V.str)),(3,.buf true 1 [])] 4
def rlH (e:JQ) (out:List PLn) (as hs:List (List UInt8)) (k:Nat):St:=JY [(3,.ptr 0 0),(13,V.str (ac6 e)),(14,.hd 1 0 out.length),(15,.hd 2 0 as.length),(16,.hd 3 0 hs.length),(18,V.int k)] [(0,.box true e.cells),(1,.buf true 3 (out.map PLn.v3)),(2,.buf true 1 (as.map V.str)),(3,.buf true 1 (hs.map V.str))] 4
def rlI (e:JQ) (out:List PLn):St:=stL [(13,V.str (ac6 e)),(14,.hd 0 0 out.length),(15,.sl 1 ((KD e).map V.str)),(16,.sl 1 ((qQ e).map V.str))] [.buf true 3 (out.map PLn.v3)]
def rlJ (e:JQ) (out:List PLn):St:=JY [(13,V.str (ac6 e)),(14,.hd 0 0 out.length),(16,.sl 1 ((qQ e).map V.str))] [(0,.buf true 3 (out.map PLn.v3))] 1
def rlK (e:JQ) (out:List PLn):St:=JY [(13,V.str (ac6 e)),(14,.hd 0 0 out.length)] [(0,.buf true 3 (out.map PLn.v3))] 1
def rlB (e:JQ) (al:List (List UInt8)):St:=JY [(1,.sl 1 (al.map V.str)),(3,.ptr 0 0),(10,V.str (abU e.suites)),(12,V.str (aqB e)),(13,V.str [110,111])] [(0,.box true e.cells)] 1
def rlC (e:JQ) (al:List (List UInt8)):St:=JY [(1,.sl 1 (al.map V.str)),(3,.ptr 0 0),(10,V.str (abU e.suites)),(12,V.str (aqB e)),(13,V.str (ac6 e))] [(0,.box true e.cells)] 1
def rlD (e:JQ) (al:List (List UInt8)):St:=JY [(1,.sl 1 (al.map V.str)),(3,.ptr 0 0),(13,V.str (ac6 e)),(14,.hd 5 0 4)]
 [(0,.box true e.cells),(1,.buf true 1 [V.str (Lib.itoa e.least)]),(2,.buf true 1 [V.str (Lib.itoa e.most)]),(3,.buf true 1 [V.str (abU e.suites)]),(4,.buf true 1 [V.str (aqB e)]),
  (5,.obuf true 3 [.agg [V.str [108,101,97,115,116],.hd 1 0 1,V.int 0],.agg [V.str [109,111,115,116],.hd 2 0 1,V.int 0],.agg [V.str [115,117,105,116,101,115],.hd 3 0 1,V.int 0],.agg [V.str [111,114,100,101,114],.hd 4 0 1,V.int 0]])] 6
@[go_sem] def JW:AO:=xo 64 (.bslice 1 1 false [(.string ⟨#[]⟩)] [(0,(.t 63))])
@[go_sem] def JV:AO:=xo 65 (.build [(.string ⟨#[]⟩),(.slice none 0 0),(.int .i64 0)] [(0,1,(.c (V.str [108,101,97,115,116]))),(1,1,(.t 64))])
@[go_sem] def YX:AO:=xo 69 (.bslice 1 1 false [(.string ⟨#[]⟩)] [(0,(.t 68))])
@[go_sem] def YW:AO:=xo 70 (.build [(.string ⟨#[]⟩),(.slice none 0 0),(.int .i64 0)] [(0,1,(.c (V.str [109,111,115,116]))),(1,1,(.t 69))])
@[go_sem] def Jw:AO:=xo 72 (.bslice 1 1 false [(.string ⟨#[]⟩)] [(0,(.t 71))])
@[go_sem] def Jv:AO:=xo 73 (.build [(.string ⟨#[]⟩),(.slice none 0 0),(.int .i64 0)] [(0,1,(.c (V.str [115,117,105,116,101,115]))),(1,1,(.t 72))])
@[go_sem] def Ju:AO:=xo 75 (.bslice 1 1 false [(.string ⟨#[]⟩)] [(0,(.t 74))])
@[go_sem] def Jt:AO:=xo 76 (.build [(.string ⟨#[]⟩),(.slice none 0 0),(.int .i64 0)] [(0,1,(.c (V.str [111,114,100,101,114]))),(1,1,(.t 75))])
@[go_sem] def aay:AO:=xo 77 (.obslice 4 3 true [(.string ⟨#[]⟩),(.slice none 0 0),(.int .i64 0)] [(0,(.t 65)),(1,(.t 70)),(2,(.t 73)),(3,(.t 76))])
def vt (Qc:Nat):List AO:=[fa 61 1 3,ld 62 1 61,cl 63 Qc [62],JW,JV,fa 66 2 3,ld 67 1 66,cl 68 Qc [67],YX,YW,mv 71 10,Jw,Jv,mv 74 12,Ju,Jt,aay,mv 14 77]
def vZ:List (List Nat):=[[],[0],[1],[2],[3],[],[5],[6,2],[7],[8],[],[10],[11],[],[13],[14],[4,9,12,15],[16,7,0,1,2,3,4,5,6,7,8,9,10,11,12,13,14,15,16]]
def yQ:OT:=.or 14 (.one 15 (.one 16 (.one 17 (.done)))) (.done)
def yP:OT:=.or 11 (.one 12 (.one 16 (.one 17 (.done)))) (.done)
def abJ:OT:=.or 11 (.one 12 yQ) (.or 14 (.one 15 yP) (.done))
def KH:OT:=.or 8 (.one 9 (.one 16 (.one 17 (.done)))) (.done)
def yO:OT:=.or 8 (.one 9 yQ) (.or 14 (.one 15 KH) (.done))
def yN:OT:=.or 8 (.one 9 yP) (.or 11 (.one 12 KH) (.done))
def abI:OT:=.or 8 (.one 9 abJ) (.or 11 (.one 12 yO) (.or 14 (.one 15 yN) (.done)))
def yM:OT:=.or 7 KH (.done)
def abH:OT:=.or 7 yO (.or 14 (.one 15 yM) (.done))
def abG:OT:=.or 7 yN (.or 11 (.one 12 yM) (.done))
def jK:OT:=.or 3 (.one 4 (.one 16 (.one 17 (.done)))) (.done)
def aaF:OT:=.or 3 (.one 4 yQ) (.or 14 (.one 15 jK) (.done))
def aaE:OT:=.or 3 (.one 4 yP) (.or 11 (.one 12 jK) (.done))
def jJ:OT:=.or 3 (.one 4 KH) (.or 8 (.one 9 jK) (.done))
def aaD:OT:=.or 3 (.one 4 yO) (.or 8 (.one 9 aaF) (.or 14 (.one 15 jJ) (.done)))
def aaC:OT:=.or 3 (.one 4 yN) (.or 8 (.one 9 aaE) (.or 11 (.one 12 jJ) (.done)))
def jI:OT:=.or 3 (.one 4 yM) (.or 7 jJ (.done))
def aaB:OT:=.or 3 (.one 4 abH) (.or 7 aaD (.or 14 (.one 15 jI) (.done)))
def aaA:OT:=.or 3 (.one 4 abG) (.or 7 aaC (.or 11 (.one 12 jI) (.done)))
def aaz:OT:=.or 2 jI (.done)
def vh:OT:=.one 0 (.one 1 (.one 5 (.one 6 (.one 10 (.one 13 (.or 2 (.or 3 (.one 4 (.or 7 abI (.or 11 (.one 12 abH) (.or 14 (.one 15 abG) (.done))))) (.or 7 (.or 3 (.one 4 abI) (.or 8 (.one 9 (.or 3 (.one 4 abJ) (.or 11 (.one 12 aaF) (.or 14 (.one 15 aaE) (.done))))) (.or 11 (.one 12 aaD) (.or 14 (.one 15 aaC) (.done))))) (.or 11 (.one 12 aaB) (.or 14 (.one 15 aaA) (.done))))) (.or 11 (.one 12 (.or 2 aaB (.or 14 (.one 15 aaz) (.done)))) (.or 14 (.one 15 (.or 2 aaA (.or 11 (.one 12 aaz) (.done)))) (.done)))))))))
@[go_sem] def KL (Qc:Nat):OP:=.one 16 false [14,11,8,7,3,2] aay (.one 17 false [16,14,11,8,7,3,2] (mv 14 77) (.done))
@[go_sem] def yX (Qc:Nat):OP:=.or 14 false [] Ju (.one 15 false [14] Jt (KL Qc)) (.done)
@[go_sem] def yW (Qc:Nat):OP:=.or 11 false [] Jw (.one 12 false [11] Jv (KL Qc)) (.done)
@[go_sem] def abO (Qc:Nat):OP:=.or 11 false [] Jw (.one 12 false [11] Jv (yX Qc)) (.or 14 false [] Ju (.one 15 false [14] Jt (yW Qc)) (.done))
@[go_sem] def KJ (Qc:Nat):OP:=.or 8 false [7] YX (.one 9 false [8,7] YW (KL Qc)) (.done)
@[go_sem] def yV (Qc:Nat):OP:=.or 8 false [7] YX (.one 9 false [8,7] YW (yX Qc)) (.or 14 false [] Ju (.one 15 false [14] Jt (KJ Qc)) (.done))
@[go_sem] def yU (Qc:Nat):OP:=.or 8 false [7] YX (.one 9 false [8,7] YW (yW Qc)) (.or 11 false [] Jw (.one 12 false [11] Jv (KJ Qc)) (.done))
@[go_sem] def abN (Qc:Nat):OP:=.or 8 false [7] YX (.one 9 false [8,7] YW (abO Qc)) (.or 11 false [] Jw (.one 12 false [11] Jv (yV Qc)) (.or 14 false [] Ju (.one 15 false [14] Jt (yU Qc)) (.done)))
@[go_sem] def yT (Qc:Nat):OP:=.or 7 false [] (cl 68 Qc [67]) (KJ Qc) (.done)
@[go_sem] def abM (Qc:Nat):OP:=.or 7 false [] (cl 68 Qc [67]) (yV Qc) (.or 14 false [] Ju (.one 15 false [14] Jt (yT Qc)) (.done))
@[go_sem] def aaU (Qc:Nat):OP:=.or 7 false [] (cl 68 Qc [67]) (yU Qc) (.or 11 false [] Jw (.one 12 false [11] Jv (yT Qc)) (.done))
@[go_sem] def jT (Qc:Nat):OP:=.or 3 false [2] JW (.one 4 false [3,2] JV (KL Qc)) (.done)
@[go_sem] def aaT (Qc:Nat):OP:=.or 3 false [2] JW (.one 4 false [3,2] JV (yX Qc)) (.or 14 false [] Ju (.one 15 false [14] Jt (jT Qc)) (.done))
@[go_sem] def aaS (Qc:Nat):OP:=.or 3 false [2] JW (.one 4 false [3,2] JV (yW Qc)) (.or 11 false [] Jw (.one 12 false [11] Jv (jT Qc)) (.done))
@[go_sem] def jS (Qc:Nat):OP:=.or 3 false [2] JW (.one 4 false [3,2] JV (KJ Qc)) (.or 8 false [7] YX (.one 9 false [8,7] YW (jT Qc)) (.done))
@[go_sem] def aaR (Qc:Nat):OP:=.or 3 false [2] JW (.one 4 false [3,2] JV (yV Qc)) (.or 8 false [7] YX (.one 9 false [8,7] YW (aaT Qc)) (.or 14 false [] Ju (.one 15 false [14] Jt (jS Qc)) (.done)))
@[go_sem] def aaQ (Qc:Nat):OP:=.or 3 false [2] JW (.one 4 false [3,2] JV (yU Qc)) (.or 8 false [7] YX (.one 9 false [8,7] YW (aaS Qc)) (.or 11 false [] Jw (.one 12 false [11] Jv (jS Qc)) (.done)))
@[go_sem] def jR (Qc:Nat):OP:=.or 3 false [2] JW (.one 4 false [3,2] JV (yT Qc)) (.or 7 false [] (cl 68 Qc [67]) (jS Qc) (.done))
@[go_sem] def aaP (Qc:Nat):OP:=.or 3 false [2] JW (.one 4 false [3,2] JV (abM Qc)) (.or 7 false [] (cl 68 Qc [67]) (aaR Qc) (.or 14 false [] Ju (.one 15 false [14] Jt (jR Qc)) (.done)))
@[go_sem] def aaO (Qc:Nat):OP:=.or 3 false [2] JW (.one 4 false [3,2] JV (aaU Qc)) (.or 7 false [] (cl 68 Qc [67]) (aaQ Qc) (.or 11 false [] Jw (.one 12 false [11] Jv (jR Qc)) (.done)))
@[go_sem] def aaN (Qc:Nat):OP:=.or 2 false [] (cl 63 Qc [62]) (jR Qc) (.done)
@[go_sem] def Q3 (Qc:Nat):OP:=.one 0 false [] (fa 61 1 3) (.one 1 false [] (ld 62 1 61) (.one 5 false [] (fa 66 2 3) (.one 6 false [] (ld 67 1 66) (.one 10 false [] (mv 71 10) (.one 13 false [] (mv 74 12) (.or 2 false [] (cl 63 Qc [62]) (.or 3 false [2] JW (.one 4 false [3,2] JV (.or 7 false [] (cl 68 Qc [67]) (abN Qc) (.or 11 false [] Jw (.one 12 false [11] Jv (abM Qc)) (.or 14 false [] Ju (.one 15 false [14] Jt (aaU Qc)) (.done))))) (.or 7 false [] (cl 68 Qc [67]) (.or 3 false [2] JW (.one 4 false [3,2] JV (abN Qc)) (.or 8 false [7] YX (.one 9 false [8,7] YW (.or 3 false [2] JW (.one 4 false [3,2] JV (abO Qc)) (.or 11 false [] Jw (.one 12 false [11] Jv (aaT Qc)) (.or 14 false [] Ju (.one 15 false [14] Jt (aaS Qc)) (.done))))) (.or 11 false [] Jw (.one 12 false [11] Jv (aaR Qc)) (.or 14 false [] Ju (.one 15 false [14] Jt (aaQ Qc)) (.done))))) (.or 11 false [] Jw (.one 12 false [11] Jv (aaP Qc)) (.or 14 false [] Ju (.one 15 false [14] Jt (aaO Qc)) (.done))))) (.or 11 false [] Jw (.one 12 false [11] Jv (.or 2 false [] (cl 63 Qc [62]) (aaP Qc) (.or 14 false [] Ju (.one 15 false [14] Jt (aaN Qc)) (.done)))) (.or 14 false [] Ju (.one 15 false [14] Jt (.or 2 false [] (cl 63 Qc [62]) (aaO Qc) (.or 11 false [] Jw (.one 12 false [11] Jv (aaN Qc)) (.done)))) (.done)))))))))
theorem Jh (Qc:Nat):okR (vt Qc) vZ [] vh = true:=by kernel_rfl
theorem Je (Qc:Nat):Wy (ris (vt Qc) vZ []) vh = Q3 Qc:=by kernel_rfl def c_ref09_lines (JT JU w8 Qc aa1:Nat):AC:=Qe [1,2,3] (.reg [xo 3 (.box true 9 (.t 0)),xo 6 (.mknil 3),mc 7 (V.int 0)]) (Qe [1,2,3] (Qe [1,2,3,8] (.reg [xo 19 (.load true 9 (.t 3)),cl 20 JT [19],mv 8 20]) (Qe [1,2,3,8,22] (.reg [mv 21 8,bc 22 .neq 21 (V.int 0)]) (.cond (.t 22) (Qe [6,7] (.reg [mv 23 8,xo 6 (.mknil 3),mv 7 23]) (.ret)) (.skip)))) (Qe [1,3] (Qe [1,3,38] (.reg [mv 24 1,ln 25 24,fa 26 5 3,ld 27 1 26,ln 28 27,bn 29 .neq 25 28,mv 30 29,mg 31 2 30 false,mg 32 31 30 false,xg 33 (.faddr 3 (.t 3)) 32 true,xg 34 (.load false 1 (.t 33)) 32 true,xg 35 (.lenL (.t 34)) 32 true,xg 36 (.bin .eql (.t 35) (.c (V.int 0))) 32 true,xg 37 (.pick (.t 32) (.t 36) (.c (V.bool false))) 30 false,xo 38 (.pick (.t 30) (.c (V.bool true)) (.t 37))]) (.cond (.t 38) (Qe [6,7] (.reg [xo 6 (.mknil 3),mc 7 (V.int 18)]) (.ret)) (.skip))) (Qe [1,3] (Qe [1,3,9] (.reg [mc 9 (V.int 0)]) (.block 0 (Xw [1,3,9] (Qe [1,3,9] (Qe [1,3,9,42] (.reg [mv 39 9,mv 40 1,ln 41 40,bn 42 .lss 39 41]) (.cond (.t 42) (.skip) (.exit 0))) (Qe [1,3,9] (.block 1 (Qe [1,3,9,50] (.reg [mv 45 1,mv 46 9,ia 47 1 45 46,ld 48 1 47,cl 49 JU [48],xo 50 (.un .not (.t 49))]) (.cond (.t 50) (Qe [6,7] (.reg [xo 6 (.mknil 3),mc 7 (V.int 18)]) (.ret)) (.skip)))) (.reg [mv 43 9,bc 44 .add 43 (V.int 1),mv 9 44])))))) (Qe [1,3,10] (.reg [fa 52 3 3,ld 53 1 52,cl 54 w8 [53],mv 51 54,ex 55 51 0,ex 56 51 1,mv 10 55,mv 11 56]) (Qe [1,3,10,12,13] (.reg [mc 12 (V.str [99,108,105,101,110,116]),mc 13 (V.str [110,111])]) (Qe [1,3,10,12,13] (Qe [1,3,10,12,13,58] (.reg [fa 57 4 3,ld 58 1 57]) (.cond (.t 58) (.reg [mc 12 (V.str [111,119,110])]) (.skip))) (Qe [1,3,10,12,13] (Qe [1,3,10,12,13,60] (.reg [fa 59 8 3,ld 60 1 59]) (.cond (.t 60) (.reg [mc 13 (V.str [121,101,115])]) (.skip))) (Qe [1,3,13,14] (ace [] vh (Q3 Qc) (vt Qc) vZ) (Qe [3,13,14] (Qe [1,3,13,14,80] (.reg [mv 78 1,ln 79 78,bc 80 .gtr 79 (V.int 0)]) (.cond (.t 80) (.reg [mv 81 14,mv 82 1,xo 83 (.build [(.string ⟨#[]⟩),(.slice none 0 0),(.int .i64 0)] [(0,1,(.c (V.str [107,101,121,115]))),(1,1,(.t 82))]),xo 84 (.obslice 1 3 true [(.string ⟨#[]⟩),(.slice none 0 0),(.int .i64 0)] [(0,(.t 83))]),xo 85 (.append 3 48 [(.string ⟨#[]⟩),(.slice none 0 0),(.int .i64 0)] (.t 81) (.t 84)),mv 14 85]) (.skip))) (Qe [3,13,14,15,16] (.reg [xo 15 (.mknil 1),xo 16 (.mknil 1)]) (Qe [3,13,14,15,16] (Qe [3,13,14,15,16,17] (.reg [mc 17 (V.int 0)]) (.block 2 (Xw [3,13,14,15,16,17] (Qe [3,13,14,15,16,17] (Qe [3,13,14,15,16,17,90] (.reg [mv 86 17,fa 87 6 3,ld 88 1 87,ln 89 88,bn 90 .lss 86 89]) (.cond (.t 90) (.skip) (.exit 2))) (Qe [3,13,14,15,16,17] (.block 3 (.reg [mv 93 15,fa 94 6 3,ld 95 1 94,mv 96 17,ia 97 1 95 96,ld 98 1 97,cl 99 Qc [98],xo 100 (.bslice 1 1 false [(.string ⟨#[]⟩)] [(0,(.t 99))]),xo 101 (.append 1 16 [(.string ⟨#[]⟩)] (.t 93) (.t 100)),mv 15 101])) (.reg [mv 91 17,bc 92 .add 91 (V.int 1),mv 17 92])))))) (Qe [13,14,15,16] (Qe [3,13,14,15,16,18] (.reg [mc 18 (V.int 0)]) (.block 4 (Xw [3,13,14,15,16,18] (Qe [3,13,14,15,16,18] (Qe [3,13,14,15,16,18,106] (.reg [mv 102 18,fa 103 7 3,ld 104 1 103,ln 105 104,bn 106 .lss 102 105]) (.cond (.t 106) (.skip) (.exit 4))) (Qe [3,13,14,15,16,18] (.block 5 (.reg [mv 109 16,fa 110 7 3,ld 111 1 110,mv 112 18,ia 113 1 111 112,ld 114 1 113,cl 115 aa1 [114],xo 116 (.bslice 1 1 false [(.string ⟨#[]⟩)] [(0,(.t 115))]),xo 117 (.append 1 16 [(.string ⟨#[]⟩)] (.t 109) (.t 116)),mv 16 117])) (.reg [mv 107 18,bc 108 .add 107 (V.int 1),mv 18 108])))))) (Qe [13,14,16] (Qe [13,14,15,16,120] (.reg [mv 118 15,ln 119 118,bc 120 .gtr 119 (V.int 0)]) (.cond (.t 120) (.reg [mv 121 14,mv 122 15,xo 123 (.build [(.string ⟨#[]⟩),(.slice none 0 0),(.int .i64 0)] [(0,1,(.c (V.str [97,110,99,104,111,114,115]))),(1,1,(.t 122))]),xo 124 (.obslice 1 3 true [(.string ⟨#[]⟩),(.slice none 0 0),(.int .i64 0)] [(0,(.t 123))]),xo 125 (.append 3 48 [(.string ⟨#[]⟩),(.slice none 0 0),(.int .i64 0)] (.t 121) (.t 124)),mv 14 125]) (.skip))) (Qe [13,14] (Qe [13,14,16,128] (.reg [mv 126 16,ln 127 126,bc 128 .gtr 127 (V.int 0)]) (.cond (.t 128) (.reg [mv 129 14,mv 130 16,xo 131 (.build [(.string ⟨#[]⟩),(.slice none 0 0),(.int .i64 0)] [(0,1,(.c (V.str [104,97,115,104,101,115]))),(1,1,(.t 130))]),xo 132 (.obslice 1 3 true [(.string ⟨#[]⟩),(.slice none 0 0),(.int .i64 0)] [(0,(.t 131))]),xo 133 (.append 3 48 [(.string ⟨#[]⟩),(.slice none 0 0),(.int .i64 0)] (.t 129) (.t 132)),mv 14 133]) (.skip))) (Qe [6,7] (.reg [mv 134 14,mv 135 13,xo 136 (.bslice 1 1 false [(.string ⟨#[]⟩)] [(0,(.t 135))]),xo 137 (.build [(.string ⟨#[]⟩),(.slice none 0 0),(.int .i64 0)] [(0,1,(.c (V.str [102,97,108,108,98,97,99,107]))),(1,1,(.t 136))]),xo 138 (.obslice 1 3 true [(.string ⟨#[]⟩),(.slice none 0 0),(.int .i64 0)] [(0,(.t 137))]),xo 139 (.append 3 48 [(.string ⟨#[]⟩),(.slice none 0 0),(.int .i64 0)] (.t 134) (.t 138)),mv 6 139,mc 7 (V.int 0)]) (.ret)))))))))))))))) def r_ref09_lines:List YF:=[.tmp 6,.tmp 7]
def abx (Γ:Env) (f:Nat):Prop:=∀ (e:JQ) (al:List (List UInt8)) (sm:e.Sm) (ha:al.length < 2 ^ 30) (hn:∀ x∈al,x.length < 2 ^ 60),EvC Γ f [e.v,.sl 1 (al.map V.str),V.bool true] (yS e al)
theorem ajb {Γ:Env} {f JT JU w8 Qc aa1:Nat} (h:Has Γ.P f 140 (c_ref09_lines JT JU w8 Qc aa1) r_ref09_lines) (z0:xK Γ JT) (z1:vd Γ JU) (z2:aby Γ w8) (z3:wK Γ Qc) (z4:acP Γ aa1):abx Γ f:=by
 intro e al sm ha hn
 refine XR h zsi (aiZ _ _) fun C hC hm=>?_
 subst hC
 unfold c_ref09_lines
 have h0:=(z0 e sm).b
 by_cases hck:Y5 e = true
 ·rw [if_pos hck] at h0
  have hB:=hck
  simp only [Y5,amm,akK,aml,Bool.and_eq_true,decide_eq_true_eq] at hB
  have lma:(al.map V.str).length = al.length:=List.length_map _
  have lmi:(e.idents.map Yo.v).length = e.idents.length:=List.length_map _
  have lms:(e.suites.map V.int).length = e.suites.length:=List.length_map _
  simp only [JQ.v,JQ.cells] at h0 ⊢
  have r18:(¬ yL e al = true∨e.suites = [])→yS e al = .tup [.sl 3 [],V.int 18]:=by
   intro h
   rw [yS,if_pos hck]
   rcases h with h|h
   ·rw [if_neg h]
   ·rw [if_pos h];split<;>rfl
  by_cases hl:al.length = e.idents.length
  ·have e0:(((al.length:Nat):Int) != ((e.idents.length:Nat):Int)) = false:=by simp [hl]
   by_cases hs:e.suites = []
   ·rw [r18 (.inr hs)]
    have e2:(((e.suites.length:Nat):Int) == 0) = true:=by simp [hs]
    repeat' (first|(refine zsk ?_;intro K' hK)|(refine zrt 18 (Jh _) (Je _) ?_;intro K' hK)|refine zsp ?_|(refine zsc ?_ ?_<;>intro hc<;>first|exact znh|try simp only [znz] at hc)|simp (maxSteps:=1000000) only [go_sem,lma,lmi,lms,e0,e2,Q3]|(refine hK _ ?_;clear hK K')|apply zan|((first|apply Ql|apply Qi);(focus first|exact h0|exact (z0 _ _).b|exact (z1 _ zsd).b|exact (z2 _ zsd).b|exact (z3 _ zsd zsd).b|exact (z4 _).b))|exact zsq|fail)
    all_goals first|exact zr
   ·have e2:(((e.suites.length:Nat):Int) == 0) = false:=by simpa using hs
    repeat' (first|(refine zsk ?_;intro K' hK)|(refine zrt 18 (Jh _) (Je _) ?_;intro K' hK)|refine zsp ?_|(refine zsc ?_ ?_<;>intro hc<;>first|exact znh|try simp only [znz] at hc)|simp (maxSteps:=1000000) only [go_sem,lma,lmi,lms,e0,e2,Q3]|(refine hK _ ?_;clear hK K')|apply zan|((first|apply Ql|apply Qi);(focus first|exact h0|exact (z0 _ _).b|exact (z1 _ zsd).b|exact (z2 _ zsd).b|exact (z3 _ zsd zsd).b|exact (z4 _).b))|exact zsq|fail)
    refine Yf (ι:=Nat) (fun k=>k≤al.length∧(al.take k).all JN = true) (fun k=>JY [(1,.sl 1 (al.map V.str)),(3,.ptr 0 0),(9,V.int k)] [(0,.box true e.cells)] 1) (fun k=>al.length - k) 0 ⟨Nat.zero_le _,rfl⟩ (QX []) (Ys [] (by simp only [go_sem,zwl,JQ.cells]<;>exact zcc) (by simp only [go_sem,zwl,JQ.cells]<;>exact zcc) (by simp [QX]) (by simp) (by omega)) fun k hk K' hL=>?_
    obtain ⟨hk,hgood⟩:=hk
    rcases hd:al.drop k with _|⟨x,r⟩
    ·have hkl:=Ja hd
     have e1:decide ((k:Int) < ((al.length:Nat):Int)) = false:=by simp;omega
     have e3:al.take k = al:=List.take_of_length_le hkl
     rw [e3] at hgood
     have hal:yL e al = true:=by simp [yL,hl,hgood]
     have hrs:yS e al = .tup [.sl 3 ((Wv e al).map PLn.v3),V.int 0]:=by rw [yS,if_pos hck,if_pos hal,if_neg hs]
     have hp:=(z2 e.suites sm.hs).b
     rw [ajB hB.1.2.2.2.2] at hp
     rw [hrs]
     refine aa2 ?_
     refine xJ fun K' hK=>?_
     simp (maxSteps:=1000000) only [go_sem,JY,JQ.cells,lma,e1]
     refine hK _ ?_
     clear hK
     clear K'
     (try simp only [go_sem])
     refine acD ⟨false,rfl,fun h=>Bool.noConfusion h,fun _=>?_⟩
     refine ahN ?_
     simp only [go_sem]
     clear hL
     refine UA (ι:=Unit) (fun _=>True) (fun _=>rlP e al) (fun K' hK'=>?_) (fun _ _=>?_)
     ·repeat' (first|(refine zsk ?_;intro K' hK)|(refine zrt 18 (Jh _) (Je _) ?_;intro K' hK)|refine zsp ?_|(refine zsc ?_ ?_<;>intro hc<;>first|exact znh|try simp only [znz] at hc)|simp (maxSteps:=1000000) only [go_sem,JY,JQ.cells,Q3]|(refine hK _ ?_;clear hK K')|apply zan|((first|apply Ql|apply Qi);(focus first|exact hp|exact (z0 _ _).b|exact (z1 _ zsd).b|exact (z2 _ zsd).b|exact (z3 _ zsd zsd).b|exact (z4 _).b))|exact zsq|fail)
      all_goals first|exact hK' _ () (QX []) trivial (Ys [] (by simp only [go_sem,zwl,rlP,JY,JQ.cells]<;>exact zcc) (by simp only [go_sem,zwl,rlP,JY,JQ.cells]<;>exact zcc) (by simp [QX]) (by simp [rlP,JY]) (by omega))
     simp only [rlP,JY]
     refine xJ fun K' hK=>?_
     simp (maxSteps:=1000000) only [go_sem,JQ.cells]
     refine hK _ ?_
     clear hK
     clear K'
     (try simp only [go_sem])
     refine UA (ι:=Unit) (fun _=>True) (fun _=>rlB e al) (fun K' hK'=>?_) (fun _ _=>?_)
     ·cases ho:e.own
      ·have eo:aqB e = [99,108,105,101,110,116]:=by simp [aqB,ho]
       repeat' (first|(refine zsk ?_;intro K' hK)|(refine zrt 18 (Jh _) (Je _) ?_;intro K' hK)|refine zsp ?_|(refine zsc ?_ ?_<;>intro hc<;>first|exact znh|try simp only [znz] at hc)|simp (maxSteps:=1000000) only [go_sem,JQ.cells,ho,Q3]|(refine hK _ ?_;clear hK K')|apply zan|((first|apply Ql|apply Qi);(focus first|exact (z0 _ _).b|exact (z1 _ zsd).b|exact (z2 _ zsd).b|exact (z3 _ zsd zsd).b|exact (z4 _).b))|exact zsq|fail)
       all_goals first|exact hK' _ () (QX []) trivial (Ys [] (by simp only [go_sem,zwl,rlB,JY,JQ.cells,eo,ho]<;>exact zcc) (by simp only [go_sem,zwl,rlB,JY,JQ.cells,eo,ho]<;>exact zcc) (by simp [QX]) (by simp [rlB,JY]) (by omega))
      ·have eo:aqB e = [111,119,110]:=by simp [aqB,ho]
       repeat' (first|(refine zsk ?_;intro K' hK)|(refine zrt 18 (Jh _) (Je _) ?_;intro K' hK)|refine zsp ?_|(refine zsc ?_ ?_<;>intro hc<;>first|exact znh|try simp only [znz] at hc)|simp (maxSteps:=1000000) only [go_sem,JQ.cells,ho,Q3]|(refine hK _ ?_;clear hK K')|apply zan|((first|apply Ql|apply Qi);(focus first|exact (z0 _ _).b|exact (z1 _ zsd).b|exact (z2 _ zsd).b|exact (z3 _ zsd zsd).b|exact (z4 _).b))|exact zsq|fail)
       all_goals first|exact hK' _ () (QX []) trivial (Ys [] (by simp only [go_sem,zwl,rlB,JY,JQ.cells,eo,ho]<;>exact zcc) (by simp only [go_sem,zwl,rlB,JY,JQ.cells,eo,ho]<;>exact zcc) (by simp [QX]) (by simp [rlB,JY]) (by omega))
     refine UA (ι:=Unit) (fun _=>True) (fun _=>rlC e al) (fun K' hK'=>?_) (fun _ _=>?_)
     ·simp only [rlB,JY]
      cases ho:e.fall
      ·have eo:ac6 e = [110,111]:=by simp [ac6,ho]
       repeat' (first|(refine zsk ?_;intro K' hK)|(refine zrt 18 (Jh _) (Je _) ?_;intro K' hK)|refine zsp ?_|(refine zsc ?_ ?_<;>intro hc<;>first|exact znh|try simp only [znz] at hc)|simp (maxSteps:=1000000) only [go_sem,JQ.cells,ho,Q3]|(refine hK _ ?_;clear hK K')|apply zan|((first|apply Ql|apply Qi);(focus first|exact (z0 _ _).b|exact (z1 _ zsd).b|exact (z2 _ zsd).b|exact (z3 _ zsd zsd).b|exact (z4 _).b))|exact zsq|fail)
       all_goals first|exact hK' _ () (QX []) trivial (Ys [] (by simp only [go_sem,zwl,rlC,JY,JQ.cells,eo,ho]<;>exact zcc) (by simp only [go_sem,zwl,rlC,JY,JQ.cells,eo,ho]<;>exact zcc) (by simp [QX]) (by simp [rlC,JY]) (by omega))
      ·have eo:ac6 e = [121,101,115]:=by simp [ac6,ho]
       repeat' (first|(refine zsk ?_;intro K' hK)|(refine zrt 18 (Jh _) (Je _) ?_;intro K' hK)|refine zsp ?_|(refine zsc ?_ ?_<;>intro hc<;>first|exact znh|try simp only [znz] at hc)|simp (maxSteps:=1000000) only [go_sem,JQ.cells,ho,Q3]|(refine hK _ ?_;clear hK K')|apply zan|((first|apply Ql|apply Qi);(focus first|exact (z0 _ _).b|exact (z1 _ zsd).b|exact (z2 _ zsd).b|exact (z3 _ zsd zsd).b|exact (z4 _).b))|exact zsq|fail)
       all_goals first|exact hK' _ () (QX []) trivial (Ys [] (by simp only [go_sem,zwl,rlC,JY,JQ.cells,eo,ho]<;>exact zcc) (by simp only [go_sem,zwl,rlC,JY,JQ.cells,eo,ho]<;>exact zcc) (by simp [QX]) (by simp [rlC,JY]) (by omega))
     have hm1:=hB.1.2.1
     have hm2:=hB.1.2.2.1
     have hm3:=hB.1.2.2.2.1
     have hI1:=(z3 e.least (by omega) (by omega)).b
     have hI2:=(z3 e.most (by omega) (by omega)).b
     refine UA (ι:=Unit) (fun _=>True) (fun _=>rlD e al) (fun K' hK'=>?_) (fun _ _=>?_)
     ·simp only [rlC,JY]
      repeat' (first|(refine zsk ?_;intro K' hK)|(refine zrt 18 (Jh _) (Je _) ?_;intro K' hK)|refine zsp ?_|(refine zsc ?_ ?_<;>intro hc<;>first|exact znh|try simp only [znz] at hc)|simp (maxSteps:=1000000) only [go_sem,JQ.cells,Q3]|(refine hK _ ?_;clear hK K')|apply zan|((first|apply Ql|apply Qi);(focus first|exact hI1|exact hI2|exact (z0 _ _).b|exact (z1 _ zsd).b|exact (z2 _ zsd).b|exact (z3 _ zsd zsd).b|exact (z4 _).b))|exact zsq|fail)
      all_goals exact hK' _ () (QX [(1,3001),(2,8001),(3,11001),(4,14001),(5,16001)]) trivial (Ys [(1,3001),(2,8001),(3,11001),(4,14001),(5,16001)] (by simp only [go_sem,zwl,rlD,JY,JQ.cells]<;>exact zcc) (by simp only [go_sem,zwl,rlD,JY,JQ.cells]<;>exact zcc) (by simp [QX]) (by simp [rlD,JY];omega) (by omega))
     refine alA (s1:=as2 e al) (apf [0,5] none (fun p hp=>?_) ?_ (by simp) (by rw [hm];rfl)) ?_
     ·simp only [List.mem_cons,List.not_mem_nil,or_false] at hp
      rcases hp with rfl|rfl|rfl|rfl
      ·show conv _ _ _ (.sl 1 (al.map V.str)) (.sl 1 (al.map V.str))
       simp [conv]
      ·show conv _ _ _ (.ptr 0 0) (.ptr 0 0)
       simp [conv]
      ·show conv _ _ _ (V.str (ac6 e)) (V.str (ac6 e))
       simp [conv,V.str]
      ·show conv _ _ _ (.hd 5 0 4) (.hd 1 0 4)
       simp [conv]
     ·refine ⟨⟨_,rfl,fun h=>h,by simp [JQ.cells,Yn,conv,V.str,V.int,V.bool]⟩,⟨_,rfl,fun h=>h,rfl,?_,?_⟩,trivial⟩
      ·have ho:[aqB e] = [if e.own = true then [111,119,110] else [99,108,105,101,110,116]]:=rfl
       refine ⟨akM _ _ rfl (by decide),akM _ _ rfl (by decide),akM _ _ rfl (by decide),akM _ _ rfl (by decide),trivial⟩
      ·exact jy _
     have hh4:(yY e).length = 4:=rfl
     refine UA (ι:=Unit) (fun _=>True) (fun _=>rlF e (yY e++[PLn.mk [107,101,121,115] al].filter W9)) (fun K' hK'=>?_) (fun _ _=>?_)
     ·simp only [as2,stL]
      generalize yY e = out at *
      by_cases hf:W9 ⟨[107,101,121,115],al⟩ = true
      ·have e7:decide (((al.length:Nat):Int) > 0) = true:=hf
       have hb:List.map PLn.v3 out++[.agg [V.str [107,101,121,115],.sl 1 (al.map V.str),V.int 0]] = (out++[PLn.mk [107,101,121,115] al]).map PLn.v3:=by rw [List.map_append];rfl
       have hln:4 + 1 = (out++[PLn.mk [107,101,121,115] al]).length:=by rw [List.length_append,hh4];rfl
       have hff:[PLn.mk [107,101,121,115] al].filter W9 = [PLn.mk [107,101,121,115] al]:=by rw [List.filter_cons_of_pos hf,List.filter_nil]
       have htk:(out.map PLn.v3).take 4 = out.map PLn.v3:=by rw [List.take_of_length_le (by simp [hh4])]
       rw [hff] at hK'
       have hl5:(out++[PLn.mk [107,101,121,115] al]).length = 5:=by rw [List.length_append,hh4];rfl
       repeat' (first|(refine zsk ?_;intro K' hK)|(refine zrt 18 (Jh _) (Je _) ?_;intro K' hK)|refine zsp ?_|(refine zsc ?_ ?_<;>intro hc<;>first|exact znh|try simp only [znz] at hc)|simp (maxSteps:=1000000) only [go_sem,JQ.cells,lma,e7,htk,hb,Q3]|(refine hK _ ?_;clear hK K')|apply zan|((first|apply Ql|apply Qi);(focus first|exact (z0 _ _).b|exact (z1 _ zsd).b|exact (z2 _ zsd).b|exact (z3 _ zsd zsd).b|exact (z4 _).b))|exact zsq|fail)
       all_goals exact hK' _ () (QX [(1,7002)]) trivial (Ys [(1,7002)] (by simp only [go_sem,zwl,rlF,JY,JQ.cells,hl5];first|done|exact jy _|(repeat' (first|rfl|apply And.intro|omega|exact fun h=>h|exact Exists.intro _ rfl))) (by simp only [go_sem,zwl,rlF,JY,JQ.cells,hl5];first|done|exact jy _|(repeat' (first|rfl|apply And.intro|omega|exact fun h=>h|exact Exists.intro _ rfl))) (by simp [QX]) (by simp [rlF,JY];omega) (by omega))
      ·have e7:decide (((al.length:Nat):Int) > 0) = false:=by simpa [W9] using hf
       have hff:[PLn.mk [107,101,121,115] al].filter W9 = []:=by rw [List.filter_cons_of_neg (by simpa using hf),List.filter_nil]
       rw [hff,List.append_nil] at hK'
       repeat' (first|(refine zsk ?_;intro K' hK)|(refine zrt 18 (Jh _) (Je _) ?_;intro K' hK)|refine zsp ?_|(refine zsc ?_ ?_<;>intro hc<;>first|exact znh|try simp only [znz] at hc)|simp (maxSteps:=1000000) only [go_sem,JQ.cells,lma,e7,Q3]|(refine hK _ ?_;clear hK K')|apply zan|((first|apply Ql|apply Qi);(focus first|exact (z0 _ _).b|exact (z1 _ zsd).b|exact (z2 _ zsd).b|exact (z3 _ zsd zsd).b|exact (z4 _).b))|exact zsq|fail)
       all_goals exact hK' _ () (QX []) trivial (Ys [] (by simp only [go_sem,zwl,rlF,JY,JQ.cells,hh4]<;>exact zcc) (by simp only [go_sem,zwl,rlF,JY,JQ.cells,hh4]<;>exact zcc) (by simp [QX]) (by simp [rlF,JY]) (by omega))
     have hlst:Wv e al = yY e++[PLn.mk [107,101,121,115] al].filter W9++[PLn.mk [97,110,99,104,111,114,115] (KD e)].filter W9++[PLn.mk [104,97,115,104,101,115] (qQ e)].filter W9++[⟨[102,97,108,108,98,97,99,107],[ac6 e]⟩]:=by
      have:adb e al = [PLn.mk [107,101,121,115] al]++([PLn.mk [97,110,99,104,111,114,115] (KD e)]++[PLn.mk [104,97,115,104,101,115] (qQ e)]):=rfl
      rw [Wv,this,List.filter_append,List.filter_append,List.append_assoc,List.append_assoc,List.append_assoc,List.append_assoc,List.append_assoc,List.append_assoc];rfl
     have hol:(yY e++[PLn.mk [107,101,121,115] al].filter W9).length≤5:=by
      have:=List.length_filter_le W9 [PLn.mk [107,101,121,115] al]
      rw [List.length_append,hh4];simp only [List.length_singleton] at this;omega
     rw [hlst]
     clear hlst hh4 hrs
     generalize yY e++[PLn.mk [107,101,121,115] al].filter W9 = out at *
     have lmA:(e.anchors.map V.int).length = e.anchors.length:=List.length_map _
     have lmH:(e.hashes.map V.int).length = e.hashes.length:=List.length_map _
     have hha:=sm.ha
     have hhh:=sm.hh
     repeat' (first|(refine zsk ?_;intro K' hK)|(refine zrt 18 (Jh _) (Je _) ?_;intro K' hK)|refine zsp ?_|(refine zsc ?_ ?_<;>intro hc<;>first|exact znh|try simp only [znz] at hc)|simp (maxSteps:=1000000) only [go_sem,rlF,JY,JQ.cells,Q3]|(refine hK _ ?_;clear hK K')|apply zan|((first|apply Ql|apply Qi);(focus first|exact (z0 _ _).b|exact (z1 _ zsd).b|exact (z2 _ zsd).b|exact (z3 _ zsd zsd).b|exact (z4 _).b))|exact zsq|fail)
     refine Yf (ι:=Nat) (fun k=>k≤e.anchors.length) (fun k=>rlG e out ((e.anchors.take k).map Lib.itoa) k) (fun k=>e.anchors.length - k) 0 (Nat.zero_le _) (QX [(2,2),(3,1002)]) (Ys [(2,2),(3,1002)] (by simp only [go_sem,zwl,rlG,JQ.cells]<;>exact zcc) (by simp only [go_sem,zwl,rlG,JQ.cells]<;>exact zcc) (by simp [QX]) (by simp;omega) (by omega)) fun k hk K' hL=>?_
     rcases hd:e.anchors.drop k with _|⟨x,r⟩
     ·have hkl:=Ja hd
      have e1:decide ((k:Int) < ((e.anchors.length:Nat):Int)) = false:=by simp;omega
      have e3:e.anchors.take k = e.anchors:=List.take_of_length_le hkl
      rw [e3]
      show AWp _ _ _ (rlG e out (KD e) k) _ _ _
      repeat' (first|(refine zsk ?_;intro K' hK)|(refine zrt 18 (Jh _) (Je _) ?_;intro K' hK)|refine zsp ?_|(refine zsc ?_ ?_<;>intro hc<;>first|exact znh|try simp only [znz] at hc)|simp (maxSteps:=1000000) only [go_sem,rlG,JY,JQ.cells,lmA,e1,Q3]|(refine hK _ ?_;clear hK K')|apply zan|((first|apply Ql|apply Qi);(focus first|exact (z0 _ _).b|exact (z1 _ zsd).b|exact (z2 _ zsd).b|exact (z3 _ zsd zsd).b|exact (z4 _).b))|exact zsq|fail)
      refine Yf (ι:=Nat) (fun k=>k≤e.hashes.length) (fun k=>rlH e out (KD e) ((e.hashes.take k).map fun n=>(Yz n).name) k) (fun k=>e.hashes.length - k) 0 (Nat.zero_le _) (QX []) (Ys [] (by simp only [go_sem,zwl,rlH,JQ.cells]<;>exact zcc) (by simp only [go_sem,zwl,rlH,JQ.cells]<;>exact zcc) (by simp [QX]) (by simp) (by omega)) fun j hj K2 hL2=>?_
      rcases hdj:e.hashes.drop j with _|⟨x,r⟩
      ·have hjl:=Ja hdj
       have e2:decide ((j:Int) < ((e.hashes.length:Nat):Int)) = false:=by simp;omega
       have e4:e.hashes.take j = e.hashes:=List.take_of_length_le hjl
       rw [e4]
       show AWp _ _ _ (rlH e out (KD e) (qQ e) j) _ _ _
       refine aa2 ?_
       refine xJ fun K' hK=>?_
       simp (maxSteps:=1000000) only [go_sem,rlH,JY,JQ.cells,lmH,e2]
       refine hK _ ?_
       clear hK
       clear K'
       (try simp only [go_sem])
       refine acD ⟨false,rfl,fun h=>Bool.noConfusion h,fun _=>?_⟩
       refine ahN ?_
       simp only [go_sem]
       clear hL hL2
       refine alA (s1:=rlI e out) (apf [1] none (fun p hp=>?_) ?_ (by simp) (by rw [hm];rfl)) ?_
       ·simp only [List.mem_cons,List.not_mem_nil,or_false] at hp
        rcases hp with rfl|rfl|rfl|rfl
        ·show conv _ _ _ (V.str (ac6 e)) (V.str (ac6 e))
         simp [conv,V.str]
        ·show conv _ _ _ (.hd 1 0 out.length) (.hd 0 0 out.length)
         simp [conv]
        ·show conv _ _ _ (.hd 2 0 (KD e).length) (.sl 1 ((KD e).map V.str))
         simp only [conv]
         exact ⟨trivial,by simp,.inl ⟨true,_,rfl,by rw [List.drop_zero,Wu]⟩⟩
        ·show conv _ _ _ (.hd 3 0 (qQ e).length) (.sl 1 ((qQ e).map V.str))
         simp only [conv]
         exact ⟨trivial,by simp,.inl ⟨true,_,rfl,by rw [List.drop_zero,Wu]⟩⟩
       ·exact ⟨⟨_,rfl,fun h=>h,rfl,rfl⟩,trivial⟩
       refine UA (ι:=Unit) (fun _=>True) (fun _=>rlJ e (out++[PLn.mk [97,110,99,104,111,114,115] (KD e)].filter W9)) (fun K' hK'=>?_) (fun _ _=>?_)
       ·simp only [rlI,stL]
        have lmv:((KD e).map V.str).length = (KD e).length:=List.length_map _
        by_cases hf:W9 ⟨[97,110,99,104,111,114,115],KD e⟩ = true
        ·have e7:decide ((((KD e).length:Nat):Int) > 0) = true:=hf
         have hb:List.map PLn.v3 out++[.agg [V.str [97,110,99,104,111,114,115],.sl 1 ((KD e).map V.str),V.int 0]] = (out++[PLn.mk [97,110,99,104,111,114,115] (KD e)]).map PLn.v3:=by rw [List.map_append];rfl
         have hln:out.length + 1 = (out++[PLn.mk [97,110,99,104,111,114,115] (KD e)]).length:=by simp
         have hff:[PLn.mk [97,110,99,104,111,114,115] (KD e)].filter W9 = [PLn.mk [97,110,99,104,111,114,115] (KD e)]:=by rw [List.filter_cons_of_pos hf,List.filter_nil]
         rw [hff] at hK'
         repeat' (first|(refine zsk ?_;intro K' hK)|(refine zrt 18 (Jh _) (Je _) ?_;intro K' hK)|refine zsp ?_|(refine zsc ?_ ?_<;>intro hc<;>first|exact znh|try simp only [znz] at hc)|simp (maxSteps:=1000000) only [go_sem,lmv,e7,Wu,hb,hln,Q3]|(refine hK _ ?_;clear hK K')|apply zan|((first|apply Ql|apply Qi);(focus first|exact (z0 _ _).b|exact (z1 _ zsd).b|exact (z2 _ zsd).b|exact (z3 _ zsd zsd).b|exact (z4 _).b))|exact zsq|fail)
         all_goals first|exact hK' _ () (QX [(0,7001)]) trivial (Ys [(0,7001)] (by simp only [go_sem,zwl,rlJ,JY];first|done|exact jy _|(repeat' (first|rfl|apply And.intro|omega|exact fun h=>h|exact Exists.intro _ rfl))) (by simp only [go_sem,zwl,rlJ,JY];first|done|exact jy _|(repeat' (first|rfl|apply And.intro|omega|exact fun h=>h|exact Exists.intro _ rfl))) (by simp [QX]) (by simp [rlJ,JY];omega) (by omega))
        ·have e7:decide ((((KD e).length:Nat):Int) > 0) = false:=by simpa [W9] using hf
         have hff:[PLn.mk [97,110,99,104,111,114,115] (KD e)].filter W9 = []:=by rw [List.filter_cons_of_neg (by simpa using hf),List.filter_nil]
         rw [hff,List.append_nil] at hK'
         repeat' (first|(refine zsk ?_;intro K' hK)|(refine zrt 18 (Jh _) (Je _) ?_;intro K' hK)|refine zsp ?_|(refine zsc ?_ ?_<;>intro hc<;>first|exact znh|try simp only [znz] at hc)|simp (maxSteps:=1000000) only [go_sem,lmv,e7,Q3]|(refine hK _ ?_;clear hK K')|apply zan|((first|apply Ql|apply Qi);(focus first|exact (z0 _ _).b|exact (z1 _ zsd).b|exact (z2 _ zsd).b|exact (z3 _ zsd zsd).b|exact (z4 _).b))|exact zsq|fail)
         all_goals first|exact hK' _ () (QX []) trivial (Ys [] (by simp only [go_sem,zwl,rlJ,JY]<;>exact zcc) (by simp only [go_sem,zwl,rlJ,JY]<;>exact zcc) (by simp [QX]) (by simp [rlJ,JY]) (by omega))
       have hol2:(out++[PLn.mk [97,110,99,104,111,114,115] (KD e)].filter W9).length≤6:=by
        have:=List.length_filter_le W9 [PLn.mk [97,110,99,104,111,114,115] (KD e)]
        rw [List.length_append];simp only [List.length_singleton] at this;omega
       generalize out++[PLn.mk [97,110,99,104,111,114,115] (KD e)].filter W9 = out2 at *
       refine UA (ι:=Unit) (fun _=>True) (fun _=>rlK e (out2++[PLn.mk [104,97,115,104,101,115] (qQ e)].filter W9)) (fun K' hK'=>?_) (fun _ _=>?_)
       ·have lmv:((qQ e).map V.str).length = (qQ e).length:=List.length_map _
        by_cases hf:W9 ⟨[104,97,115,104,101,115],qQ e⟩ = true
        ·have e7:decide ((((qQ e).length:Nat):Int) > 0) = true:=hf
         have hb:List.map PLn.v3 out2++[.agg [V.str [104,97,115,104,101,115],.sl 1 ((qQ e).map V.str),V.int 0]] = (out2++[PLn.mk [104,97,115,104,101,115] (qQ e)]).map PLn.v3:=by rw [List.map_append];rfl
         have hln:out2.length + 1 = (out2++[PLn.mk [104,97,115,104,101,115] (qQ e)]).length:=by simp
         have hff:[PLn.mk [104,97,115,104,101,115] (qQ e)].filter W9 = [PLn.mk [104,97,115,104,101,115] (qQ e)]:=by rw [List.filter_cons_of_pos hf,List.filter_nil]
         rw [hff] at hK'
         repeat' (first|(refine zsk ?_;intro K' hK)|(refine zrt 18 (Jh _) (Je _) ?_;intro K' hK)|refine zsp ?_|(refine zsc ?_ ?_<;>intro hc<;>first|exact znh|try simp only [znz] at hc)|simp (maxSteps:=1000000) only [go_sem,rlJ,JY,lmv,e7,Wu,hb,hln,Q3]|(refine hK _ ?_;clear hK K')|apply zan|((first|apply Ql|apply Qi);(focus first|exact (z0 _ _).b|exact (z1 _ zsd).b|exact (z2 _ zsd).b|exact (z3 _ zsd zsd).b|exact (z4 _).b))|exact zsq|fail)
         all_goals first|exact hK' _ () (QX [(0,7001)]) trivial (Ys [(0,7001)] (by simp only [go_sem,zwl,rlK,JY];first|done|exact jy _|(repeat' (first|rfl|apply And.intro|omega|exact fun h=>h|exact Exists.intro _ rfl))) (by simp only [go_sem,zwl,rlK,JY];first|done|exact jy _|(repeat' (first|rfl|apply And.intro|omega|exact fun h=>h|exact Exists.intro _ rfl))) (by simp [QX]) (by simp [rlK,JY];omega) (by omega))
        ·have e7:decide ((((qQ e).length:Nat):Int) > 0) = false:=by simpa [W9] using hf
         have hff:[PLn.mk [104,97,115,104,101,115] (qQ e)].filter W9 = []:=by rw [List.filter_cons_of_neg (by simpa using hf),List.filter_nil]
         rw [hff,List.append_nil] at hK'
         repeat' (first|(refine zsk ?_;intro K' hK)|(refine zrt 18 (Jh _) (Je _) ?_;intro K' hK)|refine zsp ?_|(refine zsc ?_ ?_<;>intro hc<;>first|exact znh|try simp only [znz] at hc)|simp (maxSteps:=1000000) only [go_sem,rlJ,JY,lmv,e7,Q3]|(refine hK _ ?_;clear hK K')|apply zan|((first|apply Ql|apply Qi);(focus first|exact (z0 _ _).b|exact (z1 _ zsd).b|exact (z2 _ zsd).b|exact (z3 _ zsd zsd).b|exact (z4 _).b))|exact zsq|fail)
         all_goals first|exact hK' _ () (QX []) trivial (Ys [] (by simp only [go_sem,zwl,rlK,JY]<;>exact zcc) (by simp only [go_sem,zwl,rlK,JY]<;>exact zcc) (by simp [QX]) (by simp [rlK,JY]) (by omega))
       have hol3:(out2++[PLn.mk [104,97,115,104,101,115] (qQ e)].filter W9).length≤7:=by
        have:=List.length_filter_le W9 [PLn.mk [104,97,115,104,101,115] (qQ e)]
        rw [List.length_append];simp only [List.length_singleton] at this;omega
       generalize out2++[PLn.mk [104,97,115,104,101,115] (qQ e)].filter W9 = out3 at *
       repeat' (first|(refine zsk ?_;intro K' hK)|(refine zrt 18 (Jh _) (Je _) ?_;intro K' hK)|refine zsp ?_|(refine zsc ?_ ?_<;>intro hc<;>first|exact znh|try simp only [znz] at hc)|simp (maxSteps:=1000000) only [go_sem,rlK,JY,Wu,Q3]|(refine hK _ ?_;clear hK K')|apply zan|((first|apply Ql|apply Qi);(focus first|exact (z0 _ _).b|exact (z1 _ zsd).b|exact (z2 _ zsd).b|exact (z3 _ zsd zsd).b|exact (z4 _).b))|exact zsq|fail)
       all_goals first|exact QA _ rfl ⟨arT rfl rfl,rfl,trivial⟩
      ·obtain ⟨hj',hget,hr⟩:=QK hdj
       have hw:=QP (k:=j) (by omega)
       have e2:decide ((j:Int) < ((e.hashes.length:Nat):Int)) = true:=by simp;omega
       have hns:(e.hashes.take (j + 1)).map (fun n=>(Yz n).name) = (e.hashes.take j).map (fun n=>(Yz n).name)++[(Yz x).name]:=by rw [List.take_add_one,hget,List.map_append];rfl
       have hnl:((e.hashes.take j).map fun n=>(Yz n).name).length≤2 ^ 30:=by simp;omega
       have hnm:=(z4 x).b
       generalize (e.hashes.take j).map (fun n=>(Yz n).name) = ns at *
       have hb:List.map V.str ns++[V.str (Yz x).name] = (ns++[(Yz x).name]).map V.str:=by rw [List.map_append];rfl
       have hln:ns.length + 1 = (ns++[(Yz x).name]).length:=by simp
       repeat' (first|(refine zsk ?_;intro K' hK)|(refine zrt 18 (Jh _) (Je _) ?_;intro K' hK)|refine zsp ?_|(refine zsc ?_ ?_<;>intro hc<;>first|exact znh|try simp only [znz] at hc)|simp (maxSteps:=1000000) only [go_sem,rlH,JY,JQ.cells,lmH,e2,hw,Int.toNat_natCast,List.getElem?_map,hget,Wu,hb,hln,Q3]|(refine hK _ ?_;clear hK K')|apply zan|((first|apply Ql|apply Qi);(focus first|exact hnm|exact (z0 _ _).b|exact (z1 _ zsd).b|exact (z2 _ zsd).b|exact (z3 _ zsd zsd).b|exact (z4 _).b))|exact zsq|fail)
       all_goals first
        | (refine hL2 _ (j + 1) (QX [(3,13004)]) (by omega) (by omega) ?_
           rw [hns]
           exact Ys [(3,13004)] (by simp only [go_sem,zwl,rlH,JQ.cells]<;>exact zcc) (by simp only [go_sem,zwl,rlH,JQ.cells]<;>exact zcc) (by simp [QX]) (by simp;omega) (by omega))
     ·obtain ⟨hk',hget,hr⟩:=QK hd
      have hw:=QP (k:=k) (by omega)
      have e1:decide ((k:Int) < ((e.anchors.length:Nat):Int)) = true:=by simp;omega
      have hns:(e.anchors.take (k + 1)).map Lib.itoa = (e.anchors.take k).map Lib.itoa++[Lib.itoa x]:=by rw [List.take_add_one,hget,List.map_append];rfl
      have hnl:((e.anchors.take k).map Lib.itoa).length≤2 ^ 30:=by simp;omega
      have hxr:=List.all_eq_true.1 hB.2.2.2.1 x (List.mem_of_getElem? hget)
      simp only [ael,Bool.and_eq_true,decide_eq_true_eq] at hxr
      have hit:=(z3 x (by omega) (by omega)).b
      generalize (e.anchors.take k).map Lib.itoa = ns at *
      have hb:List.map V.str ns++[V.str (Lib.itoa x)] = (ns++[Lib.itoa x]).map V.str:=by rw [List.map_append];rfl
      have hln:ns.length + 1 = (ns++[Lib.itoa x]).length:=by simp
      repeat' (first|(refine zsk ?_;intro K' hK)|(refine zrt 18 (Jh _) (Je _) ?_;intro K' hK)|refine zsp ?_|(refine zsc ?_ ?_<;>intro hc<;>first|exact znh|try simp only [znz] at hc)|simp (maxSteps:=1000000) only [go_sem,rlG,JY,JQ.cells,lmA,e1,hw,Int.toNat_natCast,List.getElem?_map,hget,Wu,hb,hln,Q3]|(refine hK _ ?_;clear hK K')|apply zan|((first|apply Ql|apply Qi);(focus first|exact hit|exact (z0 _ _).b|exact (z1 _ zsd).b|exact (z2 _ zsd).b|exact (z3 _ zsd zsd).b|exact (z4 _).b))|exact zsq|fail)
      all_goals first
       | (refine hL _ (k + 1) (QX [(2,13004)]) (by omega) (by omega) ?_
          rw [hns]
          exact Ys [(2,13004)] (by simp only [go_sem,zwl,rlG,JQ.cells]<;>exact zcc) (by simp only [go_sem,zwl,rlG,JQ.cells]<;>exact zcc) (by simp [QX]) (by simp;omega) (by omega))
    ·obtain ⟨hk',hget,hr⟩:=QK hd
     have hw:=QP (k:=k) (by omega)
     have e1:decide ((k:Int) < ((al.length:Nat):Int)) = true:=by simp;omega
     have hnm:=(z1 x (hn x (List.mem_of_getElem? hget))).b
     by_cases hx:JN x = true
     ·have hg2:(al.take (k + 1)).all JN = true:=by rw [List.take_add_one,hget,List.all_append,hgood];simp [hx]
      rw [hx] at hnm
      repeat' (first|(refine zsk ?_;intro K' hK)|(refine zrt 18 (Jh _) (Je _) ?_;intro K' hK)|refine zsp ?_|(refine zsc ?_ ?_<;>intro hc<;>first|exact znh|try simp only [znz] at hc)|simp (maxSteps:=1000000) only [go_sem,JY,JQ.cells,lma,e1,hw,Int.toNat_natCast,List.getElem?_map,hget,Q3]|(refine hK _ ?_;clear hK K')|apply zan|((first|apply Ql|apply Qi);(focus first|exact hnm|exact (z0 _ _).b|exact (z1 _ zsd).b|exact (z2 _ zsd).b|exact (z3 _ zsd zsd).b|exact (z4 _).b))|exact zsq|fail)
      all_goals first
       | exact hL _ (k + 1) (QX []) ⟨by omega,hg2⟩ (by omega) (Ys [] (by simp only [go_sem,zwl,JY,JQ.cells]<;>exact zcc) (by simp only [go_sem,zwl,JY,JQ.cells]<;>exact zcc) (by simp [QX]) (by simp [JY]) (by omega))
     ·have hx':JN x = false:=by simpa using hx
      rw [hx'] at hnm
      have hna:¬ yL e al = true:=by
       intro h
       simp only [yL,Bool.and_eq_true,decide_eq_true_eq] at h
       exact hx (List.all_eq_true.1 h.2 x (List.mem_of_getElem? hget))
      rw [r18 (.inl hna)]
      repeat' (first|(refine zsk ?_;intro K' hK)|(refine zrt 18 (Jh _) (Je _) ?_;intro K' hK)|refine zsp ?_|(refine zsc ?_ ?_<;>intro hc<;>first|exact znh|try simp only [znz] at hc)|simp (maxSteps:=1000000) only [go_sem,JY,JQ.cells,lma,e1,hw,Int.toNat_natCast,List.getElem?_map,hget,Q3]|(refine hK _ ?_;clear hK K')|apply zan|((first|apply Ql|apply Qi);(focus first|exact hnm|exact (z0 _ _).b|exact (z1 _ zsd).b|exact (z2 _ zsd).b|exact (z3 _ zsd zsd).b|exact (z4 _).b))|exact zsq|fail)
      all_goals first|exact zr
  ·have e0:(((al.length:Nat):Int) != ((e.idents.length:Nat):Int)) = true:=by simp;omega
   have hna:¬ yL e al = true:=by
    intro h
    simp only [yL,Bool.and_eq_true,decide_eq_true_eq] at h
    exact hl h.1
   rw [r18 (.inl hna)]
   repeat' (first|(refine zsk ?_;intro K' hK)|(refine zrt 18 (Jh _) (Je _) ?_;intro K' hK)|refine zsp ?_|(refine zsc ?_ ?_<;>intro hc<;>first|exact znh|try simp only [znz] at hc)|simp (maxSteps:=1000000) only [go_sem,lma,lmi,lms,e0,Q3]|(refine hK _ ?_;clear hK K')|apply zan|((first|apply Ql|apply Qi);(focus first|exact h0|exact (z0 _ _).b|exact (z1 _ zsd).b|exact (z2 _ zsd).b|exact (z3 _ zsd zsd).b|exact (z4 _).b))|exact zsq|fail)
   all_goals first|exact zr
 ·rw [if_neg hck] at h0
  have hr:yS e al = .tup [.sl 3 [],V.int 19]:=by rw [yS,if_neg hck]
  rw [hr]
  simp only [JQ.v,JQ.cells] at h0 ⊢
  repeat' (first|(refine zsk ?_;intro K' hK)|(refine zrt 18 (Jh _) (Je _) ?_;intro K' hK)|refine zsp ?_|(refine zsc ?_ ?_<;>intro hc<;>first|exact znh|try simp only [znz] at hc)|simp (maxSteps:=1000000) only [go_sem,Q3]|(refine hK _ ?_;clear hK K')|apply zan|((first|apply Ql|apply Qi);(focus first|exact h0|exact (z0 _ _).b|exact (z1 _ zsd).b|exact (z2 _ zsd).b|exact (z3 _ zsd zsd).b|exact (z4 _).b))|exact zsq|fail)
  all_goals first|exact zr
end Av
end
section
set_option linter.unusedSimpArgs false
set_option linter.unusedVariables false
set_option maxRecDepth 10000
set_option maxHeartbeats 4000000
namespace Av
open Go
attribute [local irreducible] AWp VV UQ Ko awS awC jF awQ yc Jb XH jD awR XT awB okR Wy ris
theorem anD (x:List UInt8):∀ ws:List (List UInt8),adW (ws++[x]) = if 0 < ws.length then adW ws++[32]++x else x
 | []=>by simp [adW,List.intercalate,List.intersperse]
 | y :: r=>by
   rw [if_pos (by simp)]
   unfold adW
   rw [List.cons_append,adi,adi,List.map_append,List.flatten_append]
   simp
def rtA (e:JQ) (ls:List PLn) (out:List Vz) (k:Nat):St:=JY [(2,.ptr 0 0),(6,.sl 3 (ls.map PLn.v3)),(8,.hd 1 0 out.length),(9,V.int k)] [(0,.box true e.cells),(1,.buf true 4 (out.map Vz.v))] 2
@[go_sem] def yG:AO:=xo 60 (.build [(.string ⟨#[]⟩),(.string ⟨#[]⟩),(.string ⟨#[]⟩),(.int .i64 0)] [(0,1,(.t 53)),(1,1,(.t 58)),(2,1,(.t 59))])
@[go_sem] def jH:AO:=xo 61 (.bslice 1 4 true [(.string ⟨#[]⟩),(.string ⟨#[]⟩),(.string ⟨#[]⟩),(.int .i64 0)] [(0,(.t 60))])
@[go_sem] def jG:AO:=xo 62 (.append 4 56 [(.string ⟨#[]⟩),(.string ⟨#[]⟩),(.string ⟨#[]⟩),(.int .i64 0)] (.t 51) (.t 61))
def qm:List AO:=[mv 51 8,fa 52 0 2,ld 53 1 52,mv 54 6,mv 55 9,ia 56 3 54 55,fa 57 0 56,ld 58 1 57,mv 59 10,yG,jH,jG,mv 8 62]
def qr:List (List Nat):=[[],[],[1],[],[],[3,4],[5],[6],[],[2,7,8],[9],[0,10],[11,11,0,1,2,3,4,5,6,7,8,9,10,11]]
def K8:OT:=.one 0 (.one 1 (.one 3 (.one 4 (.one 8 (.or 2 (.or 5 (.one 6 (.or 7 (.one 9 (.one 10 (.one 11 (.one 12 (.done))))) (.done))) (.done)) (.or 5 (.one 6 (.or 2 (.or 7 (.one 9 (.one 10 (.one 11 (.one 12 (.done))))) (.done)) (.or 7 (.or 2 (.one 9 (.one 10 (.one 11 (.one 12 (.done))))) (.done)) (.done)))) (.done)))))))
@[go_sem] def yK:OP:=.one 9 false [] yG (.one 10 false [] jH (.one 11 true [10] jG (.one 12 false [11,10] (mv 8 62) (.done))))
@[go_sem] def yJ:OP:=.or 7 true [] (ld 58 1 57) yK (.done)
@[go_sem] def Yp:OP:=.one 0 false [] (mv 51 8) (.one 1 false [] (fa 52 0 2) (.one 3 false [] (mv 54 6) (.one 4 false [] (mv 55 9) (.one 8 false [] (mv 59 10) (.or 2 true [] (ld 53 1 52) (.or 5 true [] (ia 56 3 54 55) (.one 6 false [] (fa 57 0 56) yJ) (.done)) (.or 5 true [] (ia 56 3 54 55) (.one 6 false [] (fa 57 0 56) (.or 2 true [] (ld 53 1 52) yJ (.or 7 true [] (ld 58 1 57) (.or 2 true [] (ld 53 1 52) yK (.done)) (.done)))) (.done)))))))
theorem Y8:okR (qm) qr [2,5,7] K8 = true:=by kernel_rfl
theorem Y6:Wy (ris (qm) qr [2,5,7]) K8 = Yp:=by kernel_rfl def c_ref09_ToSettings (w7:Nat):AC:=Qe [1,2] (.reg [xo 2 (.box true 9 (.t 0)),xo 4 (.mknil 4),mc 5 (V.int 0)]) (Qe [2,6,7] (.reg [xo 13 (.load true 9 (.t 2)),mv 14 1,xo 15 (.call w7 [(.t 13),(.t 14),(.c (V.bool true))]),mv 12 15,ex 16 12 0,ex 17 12 1,mv 6 16,mv 7 17]) (Qe [2,6] (Qe [2,6,7,19] (.reg [mv 18 7,bc 19 .neq 18 (V.int 0)]) (.cond (.t 19) (Qe [4,5] (.reg [mv 20 7,xo 4 (.mknil 4),mv 5 20]) (.ret)) (.skip))) (Qe [2,6,8] (.reg [xo 8 (.mknil 4)]) (Qe [8] (Qe [2,6,8,9] (.reg [mc 9 (V.int 0)]) (.block 0 (Xw [2,6,8,9] (Qe [2,6,8,9] (Qe [2,6,8,9,24] (.reg [mv 21 9,mv 22 6,ln 23 22,bn 24 .lss 21 23]) (.cond (.t 24) (.skip) (.exit 0))) (Qe [2,6,8,9] (.block 1 (Qe [2,6,8,9,10] (.reg [mc 10 (V.str [])]) (Qe [2,6,8,9,10] (Qe [2,6,8,9,10,11] (.reg [mc 11 (V.int 0)]) (.block 2 (Xw [2,6,8,9,10,11] (Qe [2,6,8,9,10,11] (Qe [2,6,8,9,10,11,34] (.reg [mv 27 11,mv 28 6,mv 29 9,ia 30 3 28 29,fa 31 1 30,ld 32 1 31,ln 33 32,bn 34 .lss 27 33]) (.cond (.t 34) (.skip) (.exit 2))) (Qe [2,6,8,9,10,11] (.block 3 (Qe [2,6,8,9,10,11] (Qe [2,6,8,9,10,11,38] (.reg [mv 37 11,bc 38 .gtr 37 (V.int 0)]) (.cond (.t 38) (.reg [mv 39 10,bc 40 .add 39 (V.str [32]),mv 10 40]) (.skip))) (.reg [mv 41 10,mv 42 6,mv 43 9,ia 44 3 42 43,fa 45 1 44,ld 46 1 45,mv 47 11,ia 48 1 46 47,ld 49 1 48,bn 50 .add 41 49,mv 10 50]))) (.reg [mv 35 11,bc 36 .add 35 (V.int 1),mv 11 36])))))) (ace [2,5,7] K8 (Yp) (qm) qr)))) (.reg [mv 25 9,bc 26 .add 25 (V.int 1),mv 9 26])))))) (Qe [4,5] (.reg [mv 63 8,mv 4 63,mc 5 (V.int 0)]) (.ret)))))) def r_ref09_ToSettings:List YF:=[.tmp 4,.tmp 5]
def js (Γ:Env) (f:Nat):Prop:=∀ (e:JQ) (al:List (List UInt8)) (sm:e.Sm) (ha:al.length < 2 ^ 30) (hn:∀ x∈al,x.length < 2 ^ 60),EvC Γ f [e.v,.sl 1 (al.map V.str)] (yI e al)
theorem aeQ {Γ:Env} {f w7:Nat} (h:Has Γ.P f 64 (c_ref09_ToSettings w7) r_ref09_ToSettings) (z0:abx Γ w7):js Γ f:=by
 intro e al sm ha hn
 refine XR h zsi (afb _ _) fun C hC hm=>?_
 subst hC
 unfold c_ref09_ToSettings
 have h0:=(z0 e al sm ha hn).b
 by_cases hgood:Y5 e = true∧yL e al = true∧e.suites≠[]
 ·obtain ⟨hck,hal,hs⟩:=hgood
  have hlv:yS e al = .tup [.sl 3 ((Wv e al).map PLn.v3),V.int 0]:=by rw [yS,if_pos hck,if_pos hal,if_neg hs]
  have hr:yI e al = .tup [.sl 4 ((ahY e al).map Vz.v),V.int 0]:=by rw [yI,if_pos hck,if_pos hal,if_neg hs]
  rw [hlv] at h0
  rw [hr]
  simp only [JQ.v,JQ.cells] at h0 ⊢
  have hsmall:=aih sm hck hal
  have hll:(Wv e al).length≤8:=by
   have:=List.length_filter_le W9 (adb e al)
   simp only [Wv,yY,adb,List.length_append,List.length_cons,List.length_nil] at *
   omega
  have lml:((Wv e al).map PLn.v3).length = (Wv e al).length:=List.length_map _
  have hset:ahY e al = (Wv e al).map (acb e.name):=rfl
  rw [hset]
  generalize Wv e al = ls at *
  repeat' (first|(refine zsk ?_;intro K' hK)|(refine zrf 13 (Y8) (Y6) ?_;intro K' hK)|refine zsp ?_|(refine zsc ?_ ?_<;>intro hc<;>first|exact znh|try simp only [znz] at hc)|simp (maxSteps:=1000000) only [go_sem,lml,Yp]|(refine hK _ ?_;clear hK K')|apply zan|((first|apply Ql|apply Qi);(focus first|exact h0|exact (z0 _ _ _ zsd zsd).b))|exact zsq|fail)
  refine Yf (ι:=Nat) (fun k=>k≤ls.length) (fun k=>rtA e ls ((ls.take k).map (acb e.name)) k) (fun k=>ls.length - k) 0 (Nat.zero_le _) (QX [(1,13000)]) (Ys [(1,13000)] (by simp only [go_sem,zwl,rtA,JQ.cells]<;>exact zcc) (by simp only [go_sem,zwl,rtA,JQ.cells]<;>exact zcc) (by simp [QX]) (by simp;omega) (by omega)) fun k hk K' hL=>?_
  by_cases hke:k = ls.length
  ·have e1:decide ((k:Int) < ((ls.length:Nat):Int)) = false:=by simp;omega
   have e3:ls.take k = ls:=List.take_of_length_le (by omega)
   rw [e3]
   repeat' (first|(refine zsk ?_;intro K' hK)|(refine zrf 13 (Y8) (Y6) ?_;intro K' hK)|refine zsp ?_|(refine zsc ?_ ?_<;>intro hc<;>first|exact znh|try simp only [znz] at hc)|simp (maxSteps:=1000000) only [go_sem,rtA,JY,JQ.cells,lml,e1,Yp]|(refine hK _ ?_;clear hK K')|apply zan|((first|apply Ql|apply Qi);(focus first|exact (z0 _ _ _ zsd zsd).b))|exact zsq|fail)
   all_goals first|(refine QA _ rfl ?_;simp only [go_sem];rw [Wu];first|done|rfl)
  ·obtain ⟨l,hl⟩:∃ l,ls[k]? = some l:=⟨ls[k]'(by omega),List.getElem?_eq_getElem (by omega)⟩
   have hlv2:(ls.map PLn.v3)[k]? = some (.agg [V.str l.word,.sl 1 (l.vals.map V.str),V.int 0]):=by rw [List.getElem?_map,hl];rfl
   have e5:(ls.take (k + 1)).map (acb e.name) = (ls.take k).map (acb e.name)++[acb e.name l]:=by rw [List.take_add_one,hl,List.map_append];rfl
   have hw:=QP (k:=k) (by omega)
   have e1:decide ((k:Int) < ((ls.length:Nat):Int)) = true:=by simp;omega
   obtain ⟨s1,s2⟩:=hsmall l (List.mem_of_getElem? hl)
   have hol:((ls.take k).map (acb e.name)).length≤8:=by simp;omega
   have lmv:(l.vals.map V.str).length = l.vals.length:=List.length_map _
   generalize (ls.take k).map (acb e.name) = out at *
   repeat' (first|(refine zsk ?_;intro K' hK)|(refine zrf 13 (Y8) (Y6) ?_;intro K' hK)|refine zsp ?_|(refine zsc ?_ ?_<;>intro hc<;>first|exact znh|try simp only [znz] at hc)|simp (maxSteps:=1000000) only [go_sem,rtA,JY,JQ.cells,lml,e1,Yp]|(refine hK _ ?_;clear hK K')|apply zan|((first|apply Ql|apply Qi);(focus first|exact (z0 _ _ _ zsd zsd).b))|exact zsq|fail)
   refine Yf (ι:=Nat) (fun j=>j≤l.vals.length) (fun j=>JY [(2,.ptr 0 0),(6,.sl 3 (ls.map PLn.v3)),(8,.hd 1 0 out.length),(9,V.int k),(10,V.str (adW (l.vals.take j))),(11,V.int j)] [(0,.box true e.cells),(1,.buf true 4 (out.map Vz.v))] 2) (fun j=>l.vals.length - j) 0 (Nat.zero_le _) (QX []) (Ys [] (by simp only [go_sem,zwl,JQ.cells];first|done|rfl|(repeat' (first|rfl|apply And.intro|omega|exact fun h=>h|exact Exists.intro _ rfl))) (by simp only [go_sem,zwl,JQ.cells]<;>exact zcc) (by simp [QX]) (by simp) (by omega)) fun j hj K2 hL2=>?_
   have hib:=aoY 700 (l.vals.take j) (fun w hw=>s2 w (List.mem_of_mem_take hw))
   rcases hd:l.vals.drop j with _|⟨x,r⟩
   ·have hjl:=Ja hd
    have e2:decide ((j:Int) < ((l.vals.length:Nat):Int)) = false:=by simp;omega
    have e4:l.vals.take j = l.vals:=List.take_of_length_le hjl
    rw [e4]
    have hb:List.map Vz.v out++[.agg [V.str e.name,V.str l.word,V.str (adW l.vals),V.int 0]] = (out++[acb e.name l]).map Vz.v:=by rw [List.map_append];rfl
    have hln:out.length + 1 = (out++[acb e.name l]).length:=by simp
    repeat' (first|(refine zsk ?_;intro K' hK)|(refine zrf 13 (Y8) (Y6) ?_;intro K' hK)|refine zsp ?_|(refine zsc ?_ ?_<;>intro hc<;>first|exact znh|try simp only [znz] at hc)|simp (maxSteps:=1000000) only [go_sem,JY,JQ.cells,hlv2,lmv,e2,hw,Int.toNat_natCast,Wu,hb,hln,Yp]|(refine hK _ ?_;clear hK K')|apply zan|((first|apply Ql|apply Qi);(focus first|exact (z0 _ _ _ zsd zsd).b))|exact zsq|fail)
    all_goals first
     | (refine hL _ (k + 1) (QX [(1,19002)]) (by omega) (by omega) ?_
        rw [e5]
        exact Ys [(1,19002)] (by simp only [go_sem,zwl,rtA,JY,JQ.cells]<;>exact zcc) (by simp only [go_sem,zwl,rtA,JY,JQ.cells]<;>exact zcc) (by simp [QX]) (by simp [rtA,JY];omega) (by omega))
   ·obtain ⟨hj',hget,hr2⟩:=QK hd
    have hw2:=QP (k:=j) (by omega)
    have e2:decide ((j:Int) < ((l.vals.length:Nat):Int)) = true:=by simp;omega
    have hjs:adW (l.vals.take (j + 1)) = if 0 < j then adW (l.vals.take j)++[32]++x else x:=by
     rw [List.take_add_one,hget,Option.toList_some,anD,List.length_take,Nat.min_eq_left (by omega)]
    have hgx:(l.vals.map V.str)[j]? = some (V.str x):=by rw [List.getElem?_map,hget];rfl
    have hxl:=s2 x (List.mem_of_getElem? hget)
    rw [List.length_take] at hib
    by_cases hj0:0 < j
    ·have e6:decide ((j:Int) > 0) = true:=by simp;omega
     rw [if_pos hj0] at hjs
     repeat' (first|(refine zsk ?_;intro K' hK)|(refine zrf 13 (Y8) (Y6) ?_;intro K' hK)|refine zsp ?_|(refine zsc ?_ ?_<;>intro hc<;>first|exact znh|try simp only [znz] at hc)|simp (maxSteps:=1000000) only [go_sem,JY,JQ.cells,hlv2,lmv,e2,e6,hw2,hgx,Int.toNat_natCast,Yp]|(refine hK _ ?_;clear hK K')|apply zan|((first|apply Ql|apply Qi);(focus first|exact (z0 _ _ _ zsd zsd).b))|exact zsq|fail)
     all_goals first
      | exact hL2 _ (j + 1) (QX []) (by omega) (by omega) (Ys [] (by simp only [go_sem,zwl,JY,JQ.cells,hjs]<;>exact zcc) (by simp only [go_sem,zwl,JY,JQ.cells]<;>exact zcc) (by simp [QX]) (by simp [JY]) (by omega))
    ·have e6:decide ((j:Int) > 0) = false:=by simp;omega
     rw [if_neg hj0] at hjs
     have hj00:j = 0:=by omega
     have hz:adW (l.vals.take j) = []:=by rw [hj00];rfl
     rw [hz]
     repeat' (first|(refine zsk ?_;intro K' hK)|(refine zrf 13 (Y8) (Y6) ?_;intro K' hK)|refine zsp ?_|(refine zsc ?_ ?_<;>intro hc<;>first|exact znh|try simp only [znz] at hc)|simp (maxSteps:=1000000) only [go_sem,JY,JQ.cells,hlv2,lmv,e2,e6,hw2,hgx,Int.toNat_natCast,Yp]|(refine hK _ ?_;clear hK K')|apply zan|((first|apply Ql|apply Qi);(focus first|exact (z0 _ _ _ zsd zsd).b))|exact zsq|fail)
     all_goals first
      | exact hL2 _ (j + 1) (QX []) (by omega) (by omega) (Ys [] (by simp only [go_sem,zwl,JY,JQ.cells,hjs]<;>exact zcc) (by simp only [go_sem,zwl,JY,JQ.cells]<;>exact zcc) (by simp [QX]) (by simp [JY]) (by omega))
 ·have hlv:∃ t:Int,yS e al = .tup [.sl 3 [],V.int t]∧yI e al = .tup [.sl 4 [],V.int t]∧(t != 0) = true:=by
   unfold yS yI
   by_cases hck:Y5 e = true
   ·rw [if_pos hck,if_pos hck]
    by_cases hal:yL e al = true
    ·rw [if_pos hal,if_pos hal]
     have hs:e.suites = []:=by
      cases hs:e.suites with
      | nil=>rfl
      | cons a r=>exact absurd ⟨hck,hal,by rw [hs];simp⟩ hgood
     rw [if_pos hs,if_pos hs]
     exact ⟨18,rfl,rfl,rfl⟩
    ·rw [if_neg hal,if_neg hal]
     exact ⟨18,rfl,rfl,rfl⟩
   ·rw [if_neg hck,if_neg hck]
    exact ⟨19,rfl,rfl,rfl⟩
  obtain ⟨t,h1,h2,h3⟩:=hlv
  rw [h1] at h0
  rw [h2]
  simp only [JQ.v,JQ.cells] at h0 ⊢
  repeat' (first|(refine zsk ?_;intro K' hK)|(refine zrf 13 (Y8) (Y6) ?_;intro K' hK)|refine zsp ?_|(refine zsc ?_ ?_<;>intro hc<;>first|exact znh|try simp only [znz] at hc)|simp (maxSteps:=1000000) only [go_sem,h3,Yp]|(refine hK _ ?_;clear hK K')|apply zan|((first|apply Ql|apply Qi);(focus first|exact h0|exact (z0 _ _ _ zsd zsd).b))|exact zsq|fail)
  all_goals first|exact zr
end Av
end
section
set_option linter.unusedSimpArgs false
set_option linter.unusedVariables false
set_option maxRecDepth 10000
set_option maxHeartbeats 4000000
namespace Av
open Go
attribute [local irreducible] AWp VV UQ Ko awS awC jF awQ yc Jb XH jD awR XT awB okR Wy ris
def eqP (x y:Vz):Bool:=(x.sec == y.sec) && ((x.name == y.name) && ((x.val == y.val) && (x.line == y.line)))
def aba:List AO:=[mv 17 0,mv 18 5,ia 19 4 17 18,xo 20 (.load true 4 (.t 19)),mv 21 1,mv 22 5,ia 23 4 21 22,xo 24 (.load true 4 (.t 23)),xo 25 (.eqagg true [1,1,1,0] (.t 20) (.t 24))]
def abq:List (List Nat):=[[],[],[0,1],[2],[],[],[4,5],[6],[3,7]]
def aa7:OT:=.one 0 (.one 1 (.one 2 (.one 3 (.one 4 (.one 5 (.one 6 (.one 7 (.one 8 (.done)))))))))
@[go_sem] def VD:OP:=.one 0 false [] (mv 17 0) (.one 1 false [] (mv 18 5) (.one 2 false [] (ia 19 4 17 18) (.one 3 false [] (xo 20 (.load true 4 (.t 19))) (.one 4 false [] (mv 21 1) (.one 5 false [] (mv 22 5) (.one 6 false [] (ia 23 4 21 22) (.one 7 false [] (xo 24 (.load true 4 (.t 23))) (.one 8 false [] (xo 25 (.eqagg true [1,1,1,0] (.t 20) (.t 24))) (.done)))))))))
theorem qP:okR (aba) abq [] aa7 = true:=by kernel_rfl
theorem qI:Wy (ris (aba) abq []) aa7 = VD:=by kernel_rfl def c_ref06_Same:AC:=Qe [0,1] (.reg [mc 4 (V.bool false)]) (Qe [0,1] (Qe [0,1,10] (.reg [mv 6 0,ln 7 6,mv 8 1,ln 9 8,bn 10 .neq 7 9]) (.cond (.t 10) (Qe [4] (.reg [mc 4 (V.bool false)]) (.ret)) (.skip))) (Qe [] (Qe [0,1,5] (.reg [mc 5 (V.int 0)]) (.block 0 (Xw [0,1,5] (Qe [0,1,5] (Qe [0,1,5,14] (.reg [mv 11 5,mv 12 0,ln 13 12,bn 14 .lss 11 13]) (.cond (.t 14) (.skip) (.exit 0))) (Qe [0,1,5] (.block 1 (Qe [0,1,5,25] (ace [] aa7 (VD) (aba) abq) (.cond (.t 25) (Qe [4] (.reg [mc 4 (V.bool false)]) (.ret)) (.skip)))) (.reg [mv 15 5,bc 16 .add 15 (V.int 1),mv 5 16])))))) (Qe [4] (.reg [mc 4 (V.bool true)]) (.ret)))) def r_ref06_Same:List YF:=[.tmp 4]
def acN (Γ:Env) (f:Nat):Prop:=∀ (a b:List Vz) (ha:a.length < 2 ^ 60),EvN Γ f [.sl 4 (a.map Vz.v),.sl 4 (b.map Vz.v)] (V.bool (eqL eqP a b))
theorem akr {Γ:Env} {f:Nat} (h:Has Γ.P f 26 c_ref06_Same r_ref06_Same) :acN Γ f:=by
 intro a b ha
 refine Qj h zsi zcl zcl fun C hC hm=>?_
 subst hC
 unfold c_ref06_Same
 have lma:(a.map Vz.v).length = a.length:=List.length_map _
 have lmb:(b.map Vz.v).length = b.length:=List.length_map _
 by_cases hlen:a.length = b.length
 ·have e0:(((a.length:Nat):Int) != ((b.length:Nat):Int)) = false:=by simp [hlen]
  repeat' (first|(refine zsk ?_;intro K' hK)|(refine zrt 9 (qP) (qI) ?_;intro K' hK)|refine zsp ?_|(refine zsc ?_ ?_<;>intro hc<;>first|exact znh|try simp only [znz] at hc)|simp (maxSteps:=1000000) only [go_sem,lma,lmb,e0,VD]|(refine hK _ ?_;clear hK K')|apply zan|exact zsq|fail)
  refine JM (ι:=Nat) (fun k=>k≤a.length∧eqL eqP (a.drop k) (b.drop k) = eqL eqP a b) (fun k=>[(5,V.int k)]) (fun k=>a.length - k) 0 (by omega) ⟨Nat.zero_le _,rfl⟩ (by repeat' first|exact Yb|refine YR (by omega) (by simp only [Ob.lt,ltL,V.lt,and_self,and_true];try omega) ?_) (fun i hi=>by simp only [ovT,Q9,Nat.reduceEqDiff,reduceIte];(repeat' first|exact YQ|refine Ya ?_ ?_|simp only [V.lt,ltL,and_self,and_true]|omega)) (by simp only [Nat.reduceAdd,ovT,Q9,Nat.reduceEqDiff,reduceIte,Qt,Q0,Uh,u32,u33,u34,u35,u36,u37,u38,u39,and_self,and_true,true_and];first|done|rfl) fun k hk K' hL=>?_
  obtain ⟨hk,hinv⟩:=hk
  simp only [ovT,Q9,Nat.reduceEqDiff,reduceIte]
  rcases hd:a.drop k with _|⟨y,r⟩
  ·have:=Ja hd
   have hd2:b.drop k = []:=List.drop_eq_nil_of_le (by omega)
   rw [hd,hd2] at hinv
   have e1:decide ((k:Int) < ((a.length:Nat):Int)) = false:=by simp;omega
   rw [← hinv,show eqL eqP [] [] = true from rfl]
   repeat' (first|(refine zsk ?_;intro K' hK)|(refine zrt 9 (qP) (qI) ?_;intro K' hK)|refine zsp ?_|(refine zsc ?_ ?_<;>intro hc<;>first|exact znh|try simp only [znz] at hc)|simp (maxSteps:=1000000) only [go_sem,e1,lma,VD]|(refine hK _ ?_;clear hK K')|apply zan|exact zsq|fail)
   all_goals first|exact zr
  ·obtain ⟨hk',hget,hr⟩:=QK hd
   have e1:decide ((k:Int) < ((a.length:Nat):Int)) = true:=by simp;omega
   rcases hd2:b.drop k with _|⟨z,r2⟩
   ·have:=Ja hd2;omega
   ·obtain ⟨hk2,hget2,hr2⟩:=QK hd2
    rw [hd,hd2,eqL] at hinv
    have hw:=QP (k:=k) (by omega)
    have hmy:=List.mem_of_getElem? hget
    have hmz:=List.mem_of_getElem? hget2
    skip
    rcases hyz:eqP y z with _|_
    ·rw [hyz,Bool.false_and] at hinv
     rw [← hinv]
     have e2:eqP y z = false:=hyz
     simp only [eqP] at e2
     repeat' (first|(refine zsk ?_;intro K' hK)|(refine zrt 9 (qP) (qI) ?_;intro K' hK)|refine zsp ?_|(refine zsc ?_ ?_<;>intro hc<;>first|exact znh|try simp only [znz] at hc)|simp (maxSteps:=1000000) only [go_sem,e1,lma,Int.toNat_natCast,List.getElem?_map,hget,hget2,hw,e2,Vz.v,Vz.cells,Option.map_some,VD]|(refine hK _ ?_;clear hK K')|apply zan|exact zsq|fail)
     all_goals first|exact zr
    ·rw [hyz,Bool.true_and] at hinv
     have e2:eqP y z = true:=hyz
     simp only [eqP] at e2
     repeat' (first|(refine zsk ?_;intro K' hK)|(refine zrt 9 (qP) (qI) ?_;intro K' hK)|refine zsp ?_|(refine zsc ?_ ?_<;>intro hc<;>first|exact znh|try simp only [znz] at hc)|simp (maxSteps:=1000000) only [go_sem,e1,lma,Int.toNat_natCast,List.getElem?_map,hget,hget2,hw,e2,Vz.v,Vz.cells,Option.map_some,VD]|(refine hK _ ?_;clear hK K')|apply zan|exact zsq|fail)
     all_goals first|exact hL _ (k + 1) (by simp only [Nat.reduceAdd,ovT,Q9,Nat.reduceEqDiff,reduceIte,Qt,Q0,Uh,u32,u33,u34,u35,u36,u37,u38,u39,and_self,and_true,true_and];first|done|rfl) ⟨by omega,by rw [hr,hr2];exact hinv⟩ (by omega) (fun a ha=>by simp only [u32,u33,u34,u35,u36,u37,u38,u39];repeat rw [if_neg (by omega)])
 ·have e0:(((a.length:Nat):Int) != ((b.length:Nat):Int)) = true:=by simp;omega
  rw [acv a b hlen]
  repeat' (first|(refine zsk ?_;intro K' hK)|(refine zrt 9 (qP) (qI) ?_;intro K' hK)|refine zsp ?_|(refine zsc ?_ ?_<;>intro hc<;>first|exact znh|try simp only [znz] at hc)|simp (maxSteps:=1000000) only [go_sem,lma,lmb,e0,VD]|(refine hK _ ?_;clear hK K')|apply zan|exact zsq|fail)
  all_goals first|exact zr
end Av
end
section
set_option linter.unusedSimpArgs false
set_option linter.unusedVariables false
set_option maxRecDepth 10000
set_option maxHeartbeats 4000000
namespace Av
open Go
attribute [local irreducible] AWp VV UQ Ko awS awC jF awQ yc Jb XH jD awR XT awB okR Wy ris
abbrev nS:V:=.sc (.slice none 0 0)
def aaY (QV JK:Nat):List AO:=[fa 12 0 4,ld 13 1 12,cl 14 QV [13],xo 15 (.un .not (.t 14)),mv 16 15,mg 17 3 16 false,xg 18 (.bin .gtr (.t 17) (.c (V.int 0))) 16 false,mg 19 18 16 false,mg 20 0 19 true,mg 21 3 19 true,xg 22 (.bin .sub (.t 21) (.c (V.int 1))) 19 true,xg 23 (.iaddr 6 (.t 20) (.t 22)) 19 true,xg 24 (.faddr 0 (.t 23)) 19 true,xg 25 (.load false 1 (.t 24)) 19 true,xg 26 (.faddr 0 (.t 4)) 19 true,xg 27 (.load false 1 (.t 26)) 19 true,xg 28 (.bin .geq (.t 25) (.t 27)) 19 true,xg 29 (.pick (.t 19) (.t 28) (.c (V.bool false))) 16 false,xo 30 (.pick (.t 16) (.c (V.bool true)) (.t 29)),mv 31 30,xg 32 (.faddr 1 (.t 4)) 31 false,xg 33 (.load true 2 (.t 32)) 31 false,xg 34 (.faddr 3 (.t 4)) 31 false,xg 35 (.load false 1 (.t 34)) 31 false,xg 36 (.faddr 5 (.t 4)) 31 false,xg 37 (.load false 1 (.t 36)) 31 false,xg 38 (.call JK [(.t 33),(.t 35),(.t 37)]) 31 false,xg 39 (.un .not (.t 38)) 31 false,xo 40 (.pick (.t 31) (.c (V.bool true)) (.t 39))]
def aa3:List (List Nat):=[[],[0],[1],[2],[3,2],[4],[5,4],[6,4,4],[7],[7],[9,7],[8,10,7],[11,7],[12,7],[7],[14,7],[13,15,7],[7,16,4],[4,17],[18,7],[19],[20,19],[19],[22,19],[19],[24,19],[21,23,25,19,19],[26,19],[19,27]]
def aaG:OT:=.one 0 (.one 1 (.or 2 (.one 3 (.one 4 (.one 5 (.one 6 (.one 7 (.one 8 (.one 9 (.one 10 (.one 11 (.one 12 (.one 13 (.one 14 (.one 15 (.one 16 (.one 17 (.one 18 (.one 19 (.one 20 (.one 21 (.one 22 (.one 23 (.one 24 (.one 25 (.or 26 (.one 27 (.one 28 (.done))) (.done))))))))))))))))))))))))) (.done)))
@[go_sem] def aaV (QV JK:Nat):OP:=.one 0 false [] (fa 12 0 4) (.one 1 false [] (ld 13 1 12) (.or 2 false [] (cl 14 QV [13]) (.one 3 false [2] (xo 15 (.un .not (.t 14))) (.one 4 false [2] (mv 16 15) (.one 5 false [2] (mg 17 3 16 false) (.one 6 false [2] (xg 18 (.bin .gtr (.t 17) (.c (V.int 0))) 16 false) (.one 7 false [2] (mg 19 18 16 false) (.one 8 false [2] (mg 20 0 19 true) (.one 9 false [2] (mg 21 3 19 true) (.one 10 false [2] (xg 22 (.bin .sub (.t 21) (.c (V.int 1))) 19 true) (.one 11 false [2] (xg 23 (.iaddr 6 (.t 20) (.t 22)) 19 true) (.one 12 false [2] (xg 24 (.faddr 0 (.t 23)) 19 true) (.one 13 false [2] (xg 25 (.load false 1 (.t 24)) 19 true) (.one 14 false [2] (xg 26 (.faddr 0 (.t 4)) 19 true) (.one 15 false [2] (xg 27 (.load false 1 (.t 26)) 19 true) (.one 16 false [2] (xg 28 (.bin .geq (.t 25) (.t 27)) 19 true) (.one 17 false [2] (xg 29 (.pick (.t 19) (.t 28) (.c (V.bool false))) 16 false) (.one 18 false [2] (xo 30 (.pick (.t 16) (.c (V.bool true)) (.t 29))) (.one 19 false [2] (mv 31 30) (.one 20 false [2] (xg 32 (.faddr 1 (.t 4)) 31 false) (.one 21 false [2] (xg 33 (.load true 2 (.t 32)) 31 false) (.one 22 false [2] (xg 34 (.faddr 3 (.t 4)) 31 false) (.one 23 false [2] (xg 35 (.load false 1 (.t 34)) 31 false) (.one 24 false [2] (xg 36 (.faddr 5 (.t 4)) 31 false) (.one 25 false [2] (xg 37 (.load false 1 (.t 36)) 31 false) (.or 26 false [2] (xg 38 (.call JK [(.t 33),(.t 35),(.t 37)]) 31 false) (.one 27 false [26,2] (xg 39 (.un .not (.t 38)) 31 false) (.one 28 false [26,2] (xo 40 (.pick (.t 31) (.c (V.bool true)) (.t 39))) (.done))) (.done))))))))))))))))))))))))) (.done)))
instance (QV JK:Nat):RG [] aaG (aaV QV JK) (aaY QV JK) aa3 29 (fun _=>true):=⟨rfl,by kernel_rfl,by kernel_rfl⟩
def wA (QV JK:Nat):AC:=Qe [0] (.reg [mc 2 (V.int 0)]) (Qe [0] (Qe [0,5,6,7] (.reg [mv 5 0,ln 6 5,mc 7 (V.int 0)]) (.block 0 (Xw [0,5,6,7] (Qe [0,5,6,7,8] (.reg [bn 8 .lss 7 6]) (Qe [0,5,6,7] (.cond (.t 8) (.skip) (.exit 0)) (Qe [0,5,6,7] (.block 1 (Qe [0,3,4,5,6,7] (.reg [mv 9 7,ia 10 6 5 7,xo 11 (.load true 6 (.t 10)),xo 4 (.alloc [.val (.string ⟨#[]⟩),.val (.int .i64 0),.val (.int .i64 0),.val (.int .i64 0),.val (.bool false),.nil 15]),mv 3 9,xs 6 4 11]) (Qe [0,5,6,7,40] (ace [] aaG (aaV QV JK) (aaY QV JK) aa3) (.cond (.t 40) (Qe [2] (.reg [mc 2 (V.int 16)]) (.ret)) (.skip))))) (.reg [bc 41 .add 7 (V.int 1),mv 7 41]))))))) (Qe [] (Qe [44] (.reg [mv 42 0,ln 43 42,bc 44 .gtr 43 (V.int 64)]) (.cond (.t 44) (Qe [2] (.reg [mc 2 (V.int 16)]) (.ret)) (.skip))) (Qe [2] (.reg [mc 2 (V.int 0)]) (.ret)))) def r_keystore_Check:List YF:=[.tmp 2]
def xx (Γ:Env) (f:Nat):Prop:=EvN Γ f [.sc (.slice none 0 0)] (V.int 0)
attribute [local go_sem] JY in
theorem agz {Γ:Env} {f QV JK:Nat} (h:Has Γ.P f 45 (wA QV JK) r_keystore_Check) :xx Γ f:=by
 refine Qj h zsi zcl zcl fun C hC hm=>?_
 subst hC
 unfold wA
 refine zgo ?_;repeat' first|exact zt|apply zan|intro hc
 refine Yf (ι:=Unit) (fun _=>True) (fun _=>JY [(0,nS),(5,nS),(6,V.int 0),(7,V.int 0)] [] 0) (fun _=>0) () trivial (QX []) (zwg []) fun k hk K' hL=>?_
 exact zg
def wB (XP qW:Nat):AC:=Qe [0,1] (.reg [mc 4 (V.int 0)]) (Qe [] (.block 0 (Qe [1,5] (.reg [mv 6 0,cl 7 XP [6],xo 8 (.un .not (.t 7)),mv 5 8]) (.cond (.t 5) (Qe [4] (.reg [mc 4 (V.int 14)]) (.ret)) (Qe [9] (.reg [mv 10 1,cl 11 qW [10],bc 12 .neq 11 (V.int 0),mv 9 12]) (.cond (.t 9) (Qe [4] (.reg [mc 4 (V.int 16)]) (.ret)) (.skip)))))) (Qe [4] (.reg [mc 4 (V.int 0)]) (.ret))) def r_endpoint_early:List YF:=[.tmp 4]
def xz (Γ:Env) (f:Nat):Prop:=∀ (name:List UInt8) (hs:name.length < 2 ^ 30) (hn:ab8 name = true),EvN Γ f [V.str name,.sc (.slice none 0 0)] (V.int 0)
theorem agB {Γ:Env} {f XP qW:Nat} (h:Has Γ.P f 13 (wB XP qW) r_endpoint_early) (z0:q9 Γ XP) (z1:xx Γ qW):xz Γ f:=by
 intro name hs hn
 refine Qj h zsi zcl zcl fun C hC hm=>?_
 subst hC
 unfold wB
 have hw:=(z0 name hs).b
 rw [hn] at hw
 exact zg
def arJ:List Int:=(ahK [97,108,108]).1
def wC (XN:Nat):AC:=Qe [0,1] (.reg [mc 4 (.sc (.pointer none))]) (Qe [0,1,5] (.reg [xo 8 (.call XN [(.c (V.str [97,108,108]))]),mv 7 8,ex 9 7 0,ex 10 7 1,mv 5 9,mv 6 10]) (Qe [4] (.reg [mv 11 0,mv 12 5,xo 13 (.build [(.string ⟨#[]⟩),(.int .i64 0),(.int .i64 0),(.slice none 0 0),(.bool false),(.slice none 0 0),(.slice none 0 0),(.slice none 0 0),(.bool false)] [(0,1,(.t 11)),(1,1,(.c (V.int 1))),(2,1,(.c (V.int 4))),(3,1,(.t 12))]),mv 14 1,xo 15 (.build [(.string ⟨#[]⟩),(.int .i64 0),(.int .i64 0),(.slice none 0 0),(.bool false),(.slice none 0 0),(.slice none 0 0),(.slice none 0 0),(.bool false),(.slice none 0 0)] [(0,9,(.t 13)),(9,1,(.t 14))]),xo 16 (.box true 10 (.t 15)),mv 4 16]) (.ret))) def r_endpoint_begin:List YF:=[.tmp 4]
def xA (Γ:Env) (f:Nat):Prop:=∀ (name:List UInt8),EvR Γ f [V.str name,.sc (.slice none 0 0)] ((Jo.mk name 1 4 arJ false false).cells)
theorem agC {Γ:Env} {f XN:Nat} (h:Has Γ.P f 17 (wC XN) r_endpoint_begin) (z0:q8 Γ XN):xA Γ f:=by
 intro name
 refine amd h (by simp) (Jo.cells_closed _) fun C hC hm=>?_
 subst hC
 unfold wC
 have hs:=(z0 [97,108,108] (by decide)).b
 have e:(ahK [97,108,108]).1 = arJ:=rfl
 rw [e] at hs
 simp only [Jo.cells]
 refine zgo ?_;repeat' first|exact zt|apply zan|intro hc
 all_goals first|(refine ar9 _ rfl rfl (by simp only [V.closed,closedL,and_self]))
def aeg:List V:=[V.str [108,101,97,115,116],V.str [109,111,115,116],V.str [115,117,105,116,101,115],V.str [111,114,100,101,114],V.str [107,101,121,115],V.str [97,110,99,104,111,114,115],V.str [104,97,115,104,101,115],V.str [102,97,108,108,98,97,99,107]]
theorem kS1:KB false [1] (V.str [109,111,115,116]) [V.str [108,101,97,115,116]] 0 = some none:=by decide
theorem kS2:KB false [1] (V.str [115,117,105,116,101,115]) [V.str [108,101,97,115,116],V.str [109,111,115,116]] 0 = some none:=by decide
theorem kS3:KB false [1] (V.str [111,114,100,101,114]) [V.str [108,101,97,115,116],V.str [109,111,115,116],V.str [115,117,105,116,101,115]] 0 = some none:=by decide
theorem kS4:KB false [1] (V.str [107,101,121,115]) [V.str [108,101,97,115,116],V.str [109,111,115,116],V.str [115,117,105,116,101,115],V.str [111,114,100,101,114]] 0 = some none:=by decide
theorem kS5:KB false [1] (V.str [97,110,99,104,111,114,115]) [V.str [108,101,97,115,116],V.str [109,111,115,116],V.str [115,117,105,116,101,115],V.str [111,114,100,101,114],V.str [107,101,121,115]] 0 = some none:=by decide
theorem kS6:KB false [1] (V.str [104,97,115,104,101,115]) [V.str [108,101,97,115,116],V.str [109,111,115,116],V.str [115,117,105,116,101,115],V.str [111,114,100,101,114],V.str [107,101,121,115],V.str [97,110,99,104,111,114,115]] 0 = some none:=by decide
theorem kS7:KB false [1] (V.str [102,97,108,108,98,97,99,107]) [V.str [108,101,97,115,116],V.str [109,111,115,116],V.str [115,117,105,116,101,115],V.str [111,114,100,101,114],V.str [107,101,121,115],V.str [97,110,99,104,111,114,115],V.str [104,97,115,104,101,115]] 0 = some none:=by decide
theorem kG0:KB false [1] (V.str [108,101,97,115,116]) aeg 0 = some (some 0):=by decide
theorem kG1:KB false [1] (V.str [109,111,115,116]) aeg 0 = some (some 1):=by decide
theorem kG2:KB false [1] (V.str [115,117,105,116,101,115]) aeg 0 = some (some 2):=by decide
theorem kG3:KB false [1] (V.str [111,114,100,101,114]) aeg 0 = some (some 3):=by decide
theorem kG7:KB false [1] (V.str [102,97,108,108,98,97,99,107]) aeg 0 = some (some 7):=by decide
def Uz (Xm Xl X7 Xk W8 Wd Wc Xj:Nat):AC:=Qe [1] (.reg [xo 1 (.box false 1 (.t 0)),mc 2 (.sc (.map none))]) (Qe [2] (.reg [xo 3 (.mkmap),xo 4 (.mkfn Xm [(.t 1)]),⟨none,.mapset false [1] (.t 3) (.c (V.str [108,101,97,115,116])) (.t 4),none⟩,xo 5 (.mkfn Xl [(.t 1)]),⟨none,.mapset false [1] (.t 3) (.c (V.str [109,111,115,116])) (.t 5),none⟩,ld 6 1 1,xo 7 (.mkfn (.m X7) [(.t 6)]),⟨none,.mapset false [1] (.t 3) (.c (V.str [115,117,105,116,101,115])) (.t 7),none⟩,xo 8 (.mkfn Xk [(.t 1)]),⟨none,.mapset false [1] (.t 3) (.c (V.str [111,114,100,101,114])) (.t 8),none⟩,ld 9 1 1,xo 10 (.mkfn (.m W8) [(.t 9)]),⟨none,.mapset false [1] (.t 3) (.c (V.str [107,101,121,115])) (.t 10),none⟩,xo 11 (.mkfn Wd [(.t 1)]),⟨none,.mapset false [1] (.t 3) (.c (V.str [97,110,99,104,111,114,115])) (.t 11),none⟩,xo 12 (.mkfn Wc [(.t 1)]),⟨none,.mapset false [1] (.t 3) (.c (V.str [104,97,115,104,101,115])) (.t 12),none⟩,xo 13 (.mkfn Xj [(.t 1)]),⟨none,.mapset false [1] (.t 3) (.c (V.str [102,97,108,108,98,97,99,107])) (.t 13),none⟩,mv 14 3,mv 2 14]) (.ret)) def r_endpoint_draft__words:List YF:=[.tmp 2]
def Ud (Γ:Env) (f:Nat):Prop:=(∃ g1 g2 g3 g4 g5 g6 g7 g8:Nat,X5 Γ g1∧X4 Γ g2∧WO Γ g3∧X3 Γ g4∧X2 Γ g8∧∀ cs:List V,closedL cs→EvJ Γ f cs aeg [.clo (.n g1) [.ptr 2 0],.clo (.n g2) [.ptr 2 0],.clo (.m g3) [.ptr 0 0],.clo (.n g4) [.ptr 2 0],.clo (.m g5) [.ptr 0 0],.clo (.n g6) [.ptr 2 0],.clo (.n g7) [.ptr 2 0],.clo (.n g8) [.ptr 2 0]] 0)
attribute [local go_sem] kS1 kS2 kS3 kS4 kS5 kS6 kS7 in
theorem abY {Γ:Env} {f Xm Xl X7 Xk W8 Wd Wc Xj:Nat} (h:Has Γ.P f 15 (Uz Xm Xl X7 Xk W8 Wd Wc Xj) r_endpoint_draft__words) (z0:X5 Γ Xm) (z1:X4 Γ Xl) (z2:WO Γ X7) (z3:X3 Γ Xk) (z4:X2 Γ Xj):Ud Γ f:=by
 refine ⟨Xm,Xl,X7,Xk,W8,Wd,Wc,Xj,z0,z1,z2,z3,z4,fun cs hcs=>?_⟩
 refine amf h (by simp) hcs fun C hC hm=>?_
 subst hC
 unfold Uz
 refine zgo ?_;repeat' first|exact zt|apply zan|intro hc
 all_goals first|(refine asa 2001 1 rfl rfl rfl rfl hcs ?_ rfl;simp [Yn,conv])
def Jo.ep (d:Jo):V:=.agg [V.str d.name,V.int d.least,V.int d.most,.sl 1 (d.suites.map V.int),V.bool d.own,.sc (.slice none 0 0),.sc (.slice none 0 0),.sc (.slice none 0 0),V.bool d.fall]
def aqb (d:Jo):V:=if d.least≤d.most then .tup [d.ep,V.int 0,V.int 0] else .tup [.agg [V.str [],V.int 0,V.int 0,.sc (.slice none 0 0),V.bool false,.sc (.slice none 0 0),.sc (.slice none 0 0),.sc (.slice none 0 0),V.bool false],V.int 0,V.int 19]
theorem aiv (d:Jo):(aqb d).closed:=by
 unfold aqb;split<;>simp only [Jo.ep,V.closed,closedL,and_self]
def K6:List AO:=[mv 5 0,nk 6 5,fa 7 0 6,fa 8 1 7,ld 9 1 8,mv 10 0,nk 11 10,fa 12 0 11,fa 13 2 12,ld 14 1 13,bn 15 .gtr 9 14]
def K7:List (List Nat):=[[],[0],[1],[2],[3],[],[5],[6],[7],[8],[4,9]]
def K4:OT:=.one 0 (.one 1 (.one 2 (.one 3 (.one 4 (.one 5 (.one 6 (.one 7 (.one 8 (.one 9 (.one 10 (.done)))))))))))
@[go_sem] def K5:OP:=.one 0 false [] (mv 5 0) (.one 1 false [] (nk 6 5) (.one 2 false [] (fa 7 0 6) (.one 3 false [] (fa 8 1 7) (.one 4 false [] (ld 9 1 8) (.one 5 false [] (mv 10 0) (.one 6 false [] (nk 11 10) (.one 7 false [] (fa 12 0 11) (.one 8 false [] (fa 13 2 12) (.one 9 false [] (ld 14 1 13) (.one 10 false [] (bn 15 .gtr 9 14) (.done)))))))))))
instance:RG [] K4 (K5) (K6) K7 11 (fun _=>true):=⟨rfl,by kernel_rfl,by kernel_rfl⟩
def V9:AC:=Qe [0,2] (.reg [xo 2 (.alloc [.val (.string ⟨#[]⟩),.val (.int .i64 0),.val (.int .i64 0),.nil 1,.val (.bool false),.nil 4,.nil 1,.nil 1,.val (.bool false)]),mc 3 (V.int 0),mc 4 (V.int 0)]) (Qe [0,2] (Qe [0,2,15] (ace [] K4 (K5) (K6) K7) (.cond (.t 15) (Qe [2,3,4] (.reg [xo 16 (.build [(.string ⟨#[]⟩),(.int .i64 0),(.int .i64 0),(.slice none 0 0),(.bool false),(.slice none 0 0),(.slice none 0 0),(.slice none 0 0),(.bool false)] []),xs 9 2 16,mc 3 (V.int 0),mc 4 (V.int 19)]) (.ret)) (.skip))) (Qe [2,3,4] (.reg [mv 17 0,nk 18 17,fa 19 0 18,xo 20 (.load true 9 (.t 19)),xs 9 2 20,mc 3 (V.int 0),mc 4 (V.int 0)]) (.ret))) def r_endpoint_draft__finish:List YF:=[.cell 2 true 9,.tmp 3,.tmp 4]
def VU (Γ:Env) (f:Nat):Prop:=∀ (d:Jo),EvD Γ f [] d.cells (aqb d) d.cells
theorem abi {Γ:Env} {f:Nat} (h:Has Γ.P f 21 V9 r_endpoint_draft__finish) :VU Γ f:=by
 intro d
 refine aiE h zsi (by first|exact Jo.cells_closed _|exact aiv _) (by first|exact YD _ _|exact Jo.cells_closed _|simp only [V.closed,closedL,and_self,and_true,true_and]) (by first|exact YD _ _|exact Jo.cells_closed _|simp only [V.closed,closedL,and_self,and_true,true_and]) fun C hC hm=>?_
 subst hC
 unfold V9
 by_cases hle:d.least≤d.most
 ·have e1:decide (d.least > d.most) = false:=by simp;omega
  rw [aqb,if_pos hle]
  simp only [Jo.cells,Jo.ep]
  (have zx:=e1);refine zgo ?_;repeat' first|exact zt|apply zan|intro hc
  all_goals first|(refine vK _ rfl rfl zcd ?_;simp only [go_sem];done)
 ·have e1:decide (d.least > d.most) = true:=by simp;omega
  rw [aqb,if_neg hle]
  simp only [Jo.cells]
  (have zx:=e1);refine zgo ?_;repeat' first|exact zt|apply zan|intro hc
  all_goals first|(refine vK _ rfl rfl zcd ?_;simp only [go_sem];done)
end Av
end
