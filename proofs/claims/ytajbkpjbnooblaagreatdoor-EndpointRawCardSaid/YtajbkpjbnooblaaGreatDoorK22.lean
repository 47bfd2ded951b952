/- K22 -/
import Derived.Test.YtajbkpjbnooblaaGreatDoorK21
import Derived.Test.YtajbkpjbnooblaaGreatDoorK20
set_option linter.unusedVariables false
set_option linter.unusedSimpArgs false
section
set_option linter.unusedSimpArgs false
set_option linter.unusedVariables false
set_option maxRecDepth 10000
set_option maxHeartbeats 4000000
namespace Av
open Go
attribute [local irreducible] AWp VV UQ Ko awS awC jF awQ yc Jb XH jD awR XT awB okR Wy ris
def ak4 (l:List Vz) (name:List UInt8):List Vz:=l.filter fun x=>x.sec == name
def aen (d:Jo) (x:Vz):Option Jo :=
 if x.name = [108,101,97,115,116] then (if aqx x.val = true then some { d with least:=vW x.val } else none)
 else if x.name = [109,111,115,116] then (if aqx x.val = true then some { d with most:=vW x.val } else none)
 else if x.name = [115,117,105,116,101,115] then (if ((abL x.val).2.2 == 0) = true then some { d with suites:=(abL x.val).1 } else none)
 else if x.name = [111,114,100,101,114] then (if (x.val == [111,119,110] || x.val == [99,108,105,101,110,116]) = true then some { d with own:=x.val == [111,119,110] } else none)
 else if x.name = [102,97,108,108,98,97,99,107] then (if (x.val == [121,101,115] || x.val == [110,111]) = true then some { d with fall:=x.val == [121,101,115] } else none)
 else none
def ang:List Vz→Jo→Option Jo
 | [],d=>some d
 | x :: r,d=>if r.any (fun y=>y.name == x.name) = true then ang r d else (aen d x).bind (ang r)
def aos (s:List UInt8):Prop:=s = [108,101,97,115,116]∨s = [109,111,115,116]∨s = [115,117,105,116,101,115]∨s = [111,114,100,101,114]∨s = [102,97,108,108,98,97,99,107]
def ep0:Ob:=.box true [V.str [],V.int 0,V.int 0,.hd 2 0 0,V.bool false,.hd 3 0 0,.hd 4 0 0,.hd 5 0 0,V.bool false]
def fsO (own:List Vz):List (Nat×Ob):=[(0,ep0),(1,.buf true 4 (own.map Vz.v)),(2,.buf true 1 []),(3,.buf true 4 []),(4,.buf true 1 []),(5,.buf true 1 [])]
def yH (g1 g2 g3 g4 g5 g6 g7 g8:Nat):List V:=[.clo (.n g1) [.ptr 8 0],.clo (.n g2) [.ptr 8 0],.clo (.m g3) [.ptr 6 0],.clo (.n g4) [.ptr 8 0],.clo (.m g5) [.ptr 6 0],.clo (.n g6) [.ptr 8 0],.clo (.n g7) [.ptr 8 0],.clo (.n g8) [.ptr 8 0]]
def ad7 (own:List Vz) (ws:List V) (d:Jo):List (Nat×Ob):=[(0,ep0),(1,.buf true 4 (own.map Vz.v)),(2,.buf true 1 []),(3,.buf true 4 []),(4,.buf true 1 []),(5,.buf true 1 []),(6,.box true d.cells),(7,.map aeg ws 0),(8,.box true [.ptr 6 0])]
theorem aov {l:List Vz} {name:List UInt8} {k:Nat} {x:Vz} (h:l[k]? = some x):ak4 (l.take (k + 1)) name = if (x.sec == name) = true then ak4 (l.take k) name++[x] else ak4 (l.take k) name:=by
 rw [List.take_add_one,h,ak4,List.filter_append]
 by_cases hx:(x.sec == name) = true
 ·rw [if_pos hx];simp [ak4,hx]
 ·rw [if_neg hx];simp [ak4,hx]
theorem aow (l:List Vz) (name:List UInt8):(ak4 l name).length≤l.length:=List.length_filter_le _ _
theorem ajC {s:List UInt8} (h:aos s):∃ i,((i = 0∧s = [108,101,97,115,116])∨(i = 1∧s = [109,111,115,116])∨(i = 2∧s = [115,117,105,116,101,115])∨(i = 3∧s = [111,114,100,101,114])∨(i = 7∧s = [102,97,108,108,98,97,99,107]))∧KB false [1] (V.str s) aeg 0 = some (some i):=by
 rcases h with h|h|h|h|h
 ·exact ⟨0,.inl ⟨rfl,h⟩,h ▸ kG0⟩
 ·exact ⟨1,.inr (.inl ⟨rfl,h⟩),h ▸ kG1⟩
 ·exact ⟨2,.inr (.inr (.inl ⟨rfl,h⟩)),h ▸ kG2⟩
 ·exact ⟨3,.inr (.inr (.inr (.inl ⟨rfl,h⟩))),h ▸ kG3⟩
 ·exact ⟨7,.inr (.inr (.inr (.inr ⟨rfl,h⟩))),h ▸ kG7⟩
theorem vX {d:Jo} {x:Vz} {r:List Vz} {e:Jo} {c:Bool} {d':Jo} (ha:aen d x = if c = true then some d' else none) (h:(aen d x).bind (ang r) = some e):c = true∧ang r d' = some e:=by
 rw [ha] at h
 cases c with
 | false=>cases h
 | true=>exact ⟨rfl,h⟩
theorem aoh {s:List UInt8} (h:aos s):asC s = false:=by rcases h with rfl|rfl|rfl|rfl|rfl<;>decide
theorem arV {a b:Nat}:sig [a] b 0 = a:=rfl
theorem arU {a b:Nat}:sig [a] b 2 = b + 1:=rfl
def VI:List AO:=[xo 62 (.build [(.string ⟨#[]⟩),(.int .i64 0),(.int .i64 0),(.slice none 0 0),(.bool false),(.slice none 0 0),(.slice none 0 0),(.slice none 0 0),(.bool false)] []),fa 63 3 16,ld 64 1 63,xs 9 6 62,mv 7 64,mc 8 (V.int 17)]
def VQ:List (List Nat):=[[],[],[1],[0,0],[2,3,0,1,2,3],[4,0,1,2,3,4]]
def VC:OT:=.one 0 (.one 1 (.or 2 (.one 3 (.one 4 (.one 5 (.done)))) (.or 3 (.one 2 (.one 4 (.one 5 (.done)))) (.done))))
@[go_sem] def Q6:OP:=.one 0 false [] (xo 62 (.build [(.string ⟨#[]⟩),(.int .i64 0),(.int .i64 0),(.slice none 0 0),(.bool false),(.slice none 0 0),(.slice none 0 0),(.slice none 0 0),(.bool false)] [])) (.one 1 false [] (fa 63 3 16) (.or 2 true [] (ld 64 1 63) (.one 3 true [] (xs 9 6 62) (.one 4 false [] (mv 7 64) (.one 5 false [] (mc 8 (V.int 17)) (.done)))) (.or 3 true [] (xs 9 6 62) (.one 2 true [] (ld 64 1 63) (.one 4 false [] (mv 7 64) (.one 5 false [] (mc 8 (V.int 17)) (.done)))) (.done))))
theorem Js:okR (VI) VQ [2] VC = true:=by kernel_rfl
theorem Jq:Wy (ris (VI) VQ [2]) VC = Q6:=by kernel_rfl
@[go_sem] def XA:AO:=xg 85 (.mapget false false [.nilFunc] false [1] (.t 82) (.t 84)) 81 true
@[go_sem] def JS (Qa Qf:Nat):AO:=xg 87 (.call Qf [(.t 86)]) 81 true
@[go_sem] def UW:AO:=xg 88 (.callv (.t 85) [(.t 87)]) 81 true
@[go_sem] def UV:AO:=xo 90 (.pick (.t 81) (.t 89) (.c (V.bool false)))
def VH (Qa Qf:Nat):List AO:=[mv 74 10,mv 75 17,bc 76 .add 75 (V.int 1),xo 77 (.slsl 4 (.t 74) (some (.t 76)) none),mv 78 19,cl 79 Qa [77,78],xo 80 (.un .not (.t 79)),mv 81 80,mg 82 14 81 true,xg 83 (.faddr 1 (.t 18)) 81 true,xg 84 (.load false 1 (.t 83)) 81 true,XA,xg 86 (.load true 4 (.t 18)) 81 true,JS Qa Qf,UW,xg 89 (.un .not (.t 88)) 81 true,UV]
def VP:List (List Nat):=[[],[],[1],[0,2],[],[3,4],[5],[6,5],[7],[7],[9,7],[8,10,7],[7],[12,7,7],[11,13,13,7],[14,7],[7,15]]
def WT:OT:=.or 14 (.one 15 (.one 16 (.done))) (.done)
def WS:OT:=.or 13 WT (.done)
def Kn:OT:=.one 11 (.or 12 WS (.done))
def WR:OT:=.or 10 (.one 11 WT) (.done)
def WQ:OT:=.or 10 (.one 11 WS) (.or 13 WR (.done))
def Km:OT:=.or 10 Kn (.or 12 WQ (.done))
def Kl:OT:=.or 9 WR (.done)
def Kk:OT:=.or 9 WQ (.or 13 Kl (.done))
def Kj:OT:=.or 8 (.one 11 WT) (.done)
def Ki:OT:=.or 8 (.one 11 WS) (.or 13 Kj (.done))
def UY:OT:=.or 8 WR (.or 10 Kj (.done))
def UX:OT:=.or 8 WQ (.or 10 Ki (.or 13 UY (.done)))
def VB:OT:=.one 0 (.one 1 (.one 2 (.one 3 (.one 4 (.or 5 (.or 6 (.one 7 (.or 8 (.or 9 Km (.or 12 Kk (.done))) (.or 9 (.or 8 Km (.or 10 (.or 8 Kn (.or 12 Ki (.done))) (.or 12 UX (.done)))) (.or 12 (.or 8 Kk (.or 9 UX (.or 13 (.or 8 Kl (.or 9 UY (.done))) (.done)))) (.done))))) (.done)) (.done))))))
@[go_sem] def Ky (Qa Qf:Nat):OP:=.or 14 true [13,5] UW (.one 15 false [14,13,5] (xg 89 (.un .not (.t 88)) 81 true) (.one 16 false [14,13,5] UV (.done))) (.done)
@[go_sem] def Kx (Qa Qf:Nat):OP:=.or 13 false [5] (JS Qa Qf) (Ky Qa Qf) (.done)
@[go_sem] def Kw (Qa Qf:Nat):OP:=.one 11 false [5] XA (.or 12 false [5] (xg 86 (.load true 4 (.t 18)) 81 true) (Kx Qa Qf) (.done))
@[go_sem] def Kv (Qa Qf:Nat):OP:=.one 11 false [5] XA (Kx Qa Qf)
@[go_sem] def Ku (Qa Qf:Nat):OP:=.one 11 false [5] XA (Ky Qa Qf)
@[go_sem] def WX (Qa Qf:Nat):OP:=.or 10 false [5] (xg 84 (.load false 1 (.t 83)) 81 true) (Ku Qa Qf) (.done)
@[go_sem] def WW (Qa Qf:Nat):OP:=.or 10 false [5] (xg 84 (.load false 1 (.t 83)) 81 true) (Kv Qa Qf) (.or 13 false [5] (JS Qa Qf) (WX Qa Qf) (.done))
@[go_sem] def Kt (Qa Qf:Nat):OP:=.or 10 false [5] (xg 84 (.load false 1 (.t 83)) 81 true) (Kw Qa Qf) (.or 12 false [5] (xg 86 (.load true 4 (.t 18)) 81 true) (WW Qa Qf) (.done))
@[go_sem] def Ks (Qa Qf:Nat):OP:=.or 9 false [5] (xg 83 (.faddr 1 (.t 18)) 81 true) (WX Qa Qf) (.done)
@[go_sem] def Kr (Qa Qf:Nat):OP:=.or 9 false [5] (xg 83 (.faddr 1 (.t 18)) 81 true) (WW Qa Qf) (.or 13 false [5] (JS Qa Qf) (Ks Qa Qf) (.done))
@[go_sem] def U3 (Qa Qf:Nat):OP:=.or 8 false [5] (mg 82 14 81 true) (Ku Qa Qf) (.done)
@[go_sem] def U2 (Qa Qf:Nat):OP:=.or 8 false [5] (mg 82 14 81 true) (Kv Qa Qf) (.or 13 false [5] (JS Qa Qf) (U3 Qa Qf) (.done))
@[go_sem] def U1 (Qa Qf:Nat):OP:=.or 8 false [5] (mg 82 14 81 true) (WX Qa Qf) (.or 10 false [5] (xg 84 (.load false 1 (.t 83)) 81 true) (U3 Qa Qf) (.done))
@[go_sem] def U0 (Qa Qf:Nat):OP:=.or 8 false [5] (mg 82 14 81 true) (WW Qa Qf) (.or 10 false [5] (xg 84 (.load false 1 (.t 83)) 81 true) (U2 Qa Qf) (.or 13 false [5] (JS Qa Qf) (U1 Qa Qf) (.done)))
@[go_sem] def Q5 (Qa Qf:Nat):OP:=.one 0 false [] (mv 74 10) (.one 1 false [] (mv 75 17) (.one 2 false [] (bc 76 .add 75 (V.int 1)) (.one 3 false [] (xo 77 (.slsl 4 (.t 74) (some (.t 76)) none)) (.one 4 false [] (mv 78 19) (.or 5 false [] (cl 79 Qa [77,78]) (.or 6 false [5] (xo 80 (.un .not (.t 79))) (.one 7 false [5] (mv 81 80) (.or 8 false [5] (mg 82 14 81 true) (.or 9 false [5] (xg 83 (.faddr 1 (.t 18)) 81 true) (Kt Qa Qf) (.or 12 false [5] (xg 86 (.load true 4 (.t 18)) 81 true) (Kr Qa Qf) (.done))) (.or 9 false [5] (xg 83 (.faddr 1 (.t 18)) 81 true) (.or 8 false [5] (mg 82 14 81 true) (Kt Qa Qf) (.or 10 false [5] (xg 84 (.load false 1 (.t 83)) 81 true) (.or 8 false [5] (mg 82 14 81 true) (Kw Qa Qf) (.or 12 false [5] (xg 86 (.load true 4 (.t 18)) 81 true) (U2 Qa Qf) (.done))) (.or 12 false [5] (xg 86 (.load true 4 (.t 18)) 81 true) (U0 Qa Qf) (.done)))) (.or 12 false [5] (xg 86 (.load true 4 (.t 18)) 81 true) (.or 8 false [5] (mg 82 14 81 true) (Kr Qa Qf) (.or 9 false [5] (xg 83 (.faddr 1 (.t 18)) 81 true) (U0 Qa Qf) (.or 13 false [5] (JS Qa Qf) (.or 8 false [5] (mg 82 14 81 true) (Ks Qa Qf) (.or 9 false [5] (xg 83 (.faddr 1 (.t 18)) 81 true) (U1 Qa Qf) (.done))) (.done)))) (.done))))) (.done)) (.done))))))
theorem Qo (Qa Qf:Nat):okR (VH Qa Qf) VP [14] VB = true:=by kernel_rfl
theorem Qn (Qa Qf:Nat):Wy (ris (VH Qa Qf) VP [14]) VB = Q5 Qa Qf:=by kernel_rfl
def VG:List AO:=[xo 91 (.build [(.string ⟨#[]⟩),(.int .i64 0),(.int .i64 0),(.slice none 0 0),(.bool false),(.slice none 0 0),(.slice none 0 0),(.slice none 0 0),(.bool false)] []),fa 92 3 18,ld 93 1 92,xs 9 6 91,mv 7 93,mc 8 (V.int 18)]
def VO:List (List Nat):=[[],[],[1],[0,0],[2,3,0,1,2,3],[4,0,1,2,3,4]]
def VA:OT:=.one 0 (.one 1 (.or 2 (.one 3 (.one 4 (.one 5 (.done)))) (.or 3 (.one 2 (.one 4 (.one 5 (.done)))) (.done))))
@[go_sem] def Q4:OP:=.one 0 false [] (xo 91 (.build [(.string ⟨#[]⟩),(.int .i64 0),(.int .i64 0),(.slice none 0 0),(.bool false),(.slice none 0 0),(.slice none 0 0),(.slice none 0 0),(.bool false)] [])) (.one 1 false [] (fa 92 3 18) (.or 2 true [] (ld 93 1 92) (.one 3 true [] (xs 9 6 91) (.one 4 false [] (mv 7 93) (.one 5 false [] (mc 8 (V.int 18)) (.done)))) (.or 3 true [] (xs 9 6 91) (.one 2 true [] (ld 93 1 92) (.one 4 false [] (mv 7 93) (.one 5 false [] (mc 8 (V.int 18)) (.done)))) (.done))))
theorem Jr:okR (VG) VO [2] VA = true:=by kernel_rfl
theorem Jp:Wy (ris (VG) VO [2]) VA = Q4:=by kernel_rfl def c_endpoint_FromSettings (qY qZ WL Xn Qa Qf Ws:Nat):AC:=Qe [0,1,2,6] (.reg [xo 6 (.alloc [.val (.string ⟨#[]⟩),.val (.int .i64 0),.val (.int .i64 0),.nil 1,.val (.bool false),.nil 4,.nil 1,.nil 1,.val (.bool false)]),mc 7 (V.int 0),mc 8 (V.int 0)]) (Qe [0,1,2,6] (Qe [0,1,2,6,9] (.reg [mv 20 1,mv 21 2,cl 22 qY [20,21],mv 9 22]) (Qe [0,1,2,6,9,24] (.reg [mv 23 9,bc 24 .neq 23 (V.int 0)]) (.cond (.t 24) (Qe [6,7,8] (.reg [xo 25 (.build [(.string ⟨#[]⟩),(.int .i64 0),(.int .i64 0),(.slice none 0 0),(.bool false),(.slice none 0 0),(.slice none 0 0),(.slice none 0 0),(.bool false)] []),mv 26 9,xs 9 6 25,mc 7 (V.int 0),mv 8 26]) (.ret)) (.skip)))) (Qe [0,1,2,6,10] (.reg [xo 10 (.mknil 4)]) (Qe [1,2,6,10] (Qe [1,2,6,10,27,28,29] (.reg [mv 27 0,ln 28 27,mc 29 (V.int 0)]) (.block 0 (Xw [1,2,6,10,27,28,29] (Qe [1,2,6,10,27,28,29,30] (.reg [bn 30 .lss 29 28]) (Qe [1,2,6,10,27,28,29] (.cond (.t 30) (.skip) (.exit 0)) (Qe [1,2,6,10,27,28,29] (.block 1 (Qe [1,2,6,10,12,27,28,29] (.reg [ia 31 4 27 29,xo 32 (.load true 4 (.t 31)),xo 12 (.alloc [.val (.string ⟨#[]⟩),.val (.string ⟨#[]⟩),.val (.string ⟨#[]⟩),.val (.int .i64 0)]),xs 4 12 32]) (Qe [1,2,6,10,12,27,28,29,36] (.reg [fa 33 0 12,ld 34 1 33,mv 35 1,bn 36 .eql 34 35]) (.cond (.t 36) (.reg [mv 37 10,xo 38 (.load true 4 (.t 12)),xo 39 (.bslice 1 4 true [(.string ⟨#[]⟩),(.string ⟨#[]⟩),(.string ⟨#[]⟩),(.int .i64 0)] [(0,(.t 38))]),xo 40 (.append 4 56 [(.string ⟨#[]⟩),(.string ⟨#[]⟩),(.string ⟨#[]⟩),(.int .i64 0)] (.t 37) (.t 39)),mv 10 40]) (.skip))))) (.reg [bc 41 .add 29 (V.int 1),mv 29 41]))))))) (Qe [1,2,6,10] (Qe [1,2,6,10,44] (.reg [mv 42 10,ln 43 42,bc 44 .eql 43 (V.int 0)]) (.cond (.t 44) (Qe [6,7,8] (.reg [xo 45 (.build [(.string ⟨#[]⟩),(.int .i64 0),(.int .i64 0),(.slice none 0 0),(.bool false),(.slice none 0 0),(.slice none 0 0),(.slice none 0 0),(.bool false)] []),xs 9 6 45,mc 7 (V.int 0),mc 8 (V.int 4)]) (.ret)) (.skip))) (Qe [6,10,13] (.reg [mv 46 1,mv 47 2,cl 48 qZ [46,47],mv 13 48]) (Qe [6,10,13,14] (.reg [mv 49 13,cl 50 WL [49],mv 14 50]) (Qe [6,10,13,14] (Qe [6,10,13,14,51,52,53] (.reg [mv 51 10,ln 52 51,mc 53 (V.int 0)]) (.block 2 (Xw [6,10,13,14,51,52,53] (Qe [6,10,13,14,51,52,53,54] (.reg [bn 54 .lss 53 52]) (Qe [6,10,13,14,51,52,53] (.cond (.t 54) (.skip) (.exit 2)) (Qe [6,10,13,14,51,52,53] (.block 3 (Qe [6,10,13,14,16,51,52,53] (.reg [ia 55 4 51 53,xo 56 (.load true 4 (.t 55)),xo 16 (.alloc [.val (.string ⟨#[]⟩),.val (.string ⟨#[]⟩),.val (.string ⟨#[]⟩),.val (.int .i64 0)]),xs 4 16 56]) (Qe [6,10,13,14,16,51,52,53,61] (.reg [mv 57 14,fa 58 1 16,ld 59 1 58,xo 60 (.mapget false false [.nilFunc] false [1] (.t 57) (.t 59)),xo 61 (.isnilF false (.t 60))]) (.cond (.t 61) (Qe [6,7,8] (ace [2] VC (Q6) (VI) VQ) (.ret)) (.skip))))) (.reg [bc 65 .add 53 (V.int 1),mv 53 65]))))))) (Qe [6,13] (Qe [6,10,13,14,66,67,68] (.reg [mv 66 10,ln 67 66,mc 68 (V.int 0)]) (.block 4 (Xw [6,10,13,14,66,67,68] (Qe [6,10,13,14,66,67,68,69] (.reg [bn 69 .lss 68 67]) (Qe [6,10,13,14,66,67,68] (.cond (.t 69) (.skip) (.exit 4)) (Qe [6,10,13,14,66,67,68] (.block 5 (Qe [6,10,13,14,17,18,66,67,68] (.reg [mv 70 68,ia 71 4 66 68,xo 72 (.load true 4 (.t 71)),xo 18 (.alloc [.val (.string ⟨#[]⟩),.val (.string ⟨#[]⟩),.val (.string ⟨#[]⟩),.val (.int .i64 0)]),mv 17 70,xs 4 18 72]) (Qe [6,10,13,14,17,18,19,66,67,68] (.reg [xo 73 (.mkfn Xn [(.t 18)]),mv 19 73]) (Qe [6,10,13,14,18,66,67,68,90] (ace [14] VB (Q5 Qa Qf) (VH Qa Qf) VP) (.cond (.t 90) (Qe [6,7,8] (ace [2] VA (Q4) (VG) VO) (.ret)) (.skip)))))) (.reg [bc 94 .add 68 (V.int 1),mv 68 94]))))))) (Qe [6,7,8] (.reg [mv 95 13,cl 96 Ws [95],ex 97 96 0,ex 98 96 1,ex 99 96 2,xs 9 6 97,mv 7 98,mv 8 99]) (.ret)))))))))) def r_endpoint_FromSettings:List YF:=[.cell 6 true 9,.tmp 7,.tmp 8]
def Ue (Γ:Env) (f:Nat):Prop:=∀ (l:List Vz) (name:List UInt8) (d:Jo) (hs:name.length < 2 ^ 30) (hn:ab8 name = true) (hl:l.length < 2 ^ 30) (hv:∀ x∈l,x.val.length < 2 ^ 30) (hw:∀ x∈ak4 l name,aos x.name) (ho:ak4 l name≠[]) (hr:ang (ak4 l name) ⟨name,1,4,arJ,false,false⟩ = some d),EvC Γ f [.sl 4 (l.map Vz.v),V.str name,.sc (.slice none 0 0)] (aqb d)
theorem abZ {Γ:Env} {f qY qZ WL Xn Qa Qf Ws:Nat} (h:Has Γ.P f 100 (c_endpoint_FromSettings qY qZ WL Xn Qa Qf Ws) r_endpoint_FromSettings) (z0:xz Γ qY) (z1:xA Γ qZ) (z2:Ud Γ WL) (z3:Vg Γ Xn) (z4:Yh Γ Qa) (z5:yu Γ Qf) (z6:VU Γ Ws):Ue Γ f:=by
 intro l name d hs hn hl hv hw ho hr
 refine XR h zsi (aiv d) fun C hC hm=>?_
 subst hC
 unfold c_endpoint_FromSettings
 repeat' (first|(refine zsk ?_;intro K' hK)|(refine zrf 6 (Js) (Jq) ?_;intro K' hK)|refine U8 17 (fun y=>!decide (y = 6) && !decide (y = 8)) rfl (Qo _ _) (Qn _ _) fun K' hK=>?_|refine U9 17 (fun y=>!decide (y = 6) && !decide (y = 8)) rfl (Qo _ _) (Qn _ _) fun K' hK=>?_|(refine zrf 6 (Jr) (Jp) ?_;intro K' hK)|refine zsp ?_|(refine zsc ?_ ?_<;>intro hc<;>first|exact znh|try simp only [znz] at hc)|simp (maxSteps:=1000000) only [go_sem,Q6,Q5,Q4]|(refine hK _ ?_;clear hK K')|apply zan|(apply ab1;(focus exact rfl);(focus first|exact (z6 _));(focus exact rfl);(focus exact rfl))|(apply xm;(focus exact rfl);(focus exact zrd);(focus exact zrd);(focus first|exact (z6 _));(focus exact rfl);(focus exact rfl);(focus exact zrd))|(apply ab0;(focus first|exact (z1 _)))|((first|apply Vw|apply XU);(focus first|exact (z5 _ zsd)))|(apply xl;(focus first|exact (z1 _));(focus exact zrd))|((first|apply Ql|apply Qi);(focus first|exact (z0 _ zsd zsd).b|exact (z3 _ _).b|exact (z4 _ _ _ _ zsd zsd zsd).b))|exact zsq|fail)
 refine Yf (ι:=Nat) (fun k=>k≤l.length) (fun k=>JY [(1,V.str name),(2,nS),(6,.ptr 0 0),(10,.hd 1 0 (ak4 (l.take k) name).length),(27,.sl 4 (l.map Vz.v)),(28,V.int l.length),(29,V.int k)] (fsO (ak4 (l.take k) name)) 6) (fun k=>l.length - k) 0 (Nat.zero_le _) (QX [(1,9000),(2,4),(3,6),(4,7),(5,8)]) (Ys [(1,9000),(2,4),(3,6),(4,7),(5,8)] (by simp only [go_sem,zwl,fsO,ep0,List.length_map]<;>exact zcc) (by simp only [go_sem,zwl,fsO,ep0]<;>exact zcc) (by simp [fsO,QX]) (by simp [fsO];omega) (by omega)) fun k hk K' hL=>?_
 rcases hdr:l.drop k with _|⟨x,r⟩
 ·have hkl:=Ja hdr
  have e1:decide ((k:Int) < ((l.length:Nat):Int)) = false:=by simp;omega
  rw [List.take_of_length_le hkl]
  have hol:=aow l name
  have hmem:∀ x∈ak4 l name,x.val.length < 2 ^ 30:=fun x hx=>hv x (List.mem_filter.1 hx).1
  generalize ak4 l name = own at *
  have hpos:0 < own.length:=List.length_pos_iff.2 ho
  have e2:(((own.length:Nat):Int) == 0) = false:=by simp;omega
  obtain ⟨g1,g2,g3,g4,g5,g6,g7,g8,c1,c2,c3,c4,c8,hJ⟩:=z2
  have hJ0:=hJ _ (Jo.cells_closed ⟨name,1,4,arJ,false,false⟩)
  repeat' (first|(refine zsk ?_;intro K' hK)|(refine zrf 6 (Js) (Jq) ?_;intro K' hK)|refine U8 17 (fun y=>!decide (y = 6) && !decide (y = 8)) rfl (Qo _ _) (Qn _ _) fun K' hK=>?_|refine U9 17 (fun y=>!decide (y = 6) && !decide (y = 8)) rfl (Qo _ _) (Qn _ _) fun K' hK=>?_|(refine zrf 6 (Jr) (Jp) ?_;intro K' hK)|refine zsp ?_|(refine zsc ?_ ?_<;>intro hc<;>first|exact znh|try simp only [znz] at hc)|simp (maxSteps:=1000000) only [go_sem,JY,fsO,ep0,e1,e2,aaL,V.ren,arV,arU,Q6,Q5,Q4]|(refine hK _ ?_;clear hK K')|apply zan|(apply apq;(focus exact rfl);(focus first|exact hJ0);(focus exact rfl))|(apply ab1;(focus exact rfl);(focus first|exact (z6 _));(focus exact rfl);(focus exact rfl))|(apply xm;(focus exact rfl);(focus exact zrd);(focus exact zrd);(focus first|exact (z6 _));(focus exact rfl);(focus exact rfl);(focus exact zrd))|(apply ab0;(focus first|exact (z1 _)))|((first|apply Vw|apply XU);(focus first|exact (z5 _ zsd)))|(apply xl;(focus first|exact (z1 _));(focus exact zrd))|((first|apply Ql|apply Qi);(focus first|exact (z0 _ zsd zsd).b|exact (z3 _ _).b|exact (z4 _ _ _ _ zsd zsd zsd).b))|exact zsq|fail)
  have hws:∃ ws,ws = yH g1 g2 g3 g4 g5 g6 g7 g8:=⟨_,rfl⟩
  refine Yf (ι:=Nat) (fun k=>k≤own.length) (fun k=>JY [(6,.ptr 0 0),(10,.hd 1 0 own.length),(13,.ptr 6 0),(14,.mp 7),(51,.hd 1 0 own.length),(52,V.int own.length),(53,V.int k)] (ad7 own (yH g1 g2 g3 g4 g5 g6 g7 g8) ⟨name,1,4,arJ,false,false⟩) 9) (fun k=>own.length - k) 0 (Nat.zero_le _) (QX [(6,6006),(7,9006),(8,9007)]) (Ys [(6,6006),(7,9006),(8,9007)] (by simp only [go_sem,zwl,ad7,ep0,yH]<;>exact zcc) (by simp only [go_sem,zwl,ad7,ep0,yH,Jo.cells]<;>exact zcc) (by simp [ad7,QX]) (by simp [ad7];omega) (by omega)) fun k hk K2 hL2=>?_
  rcases hdo:own.drop k with _|⟨x,r⟩
  ·have hkl:=Ja hdo
   have e3:decide ((k:Int) < ((own.length:Nat):Int)) = false:=by simp;omega
   repeat' (first|(refine zsk ?_;intro K' hK)|(refine zrf 6 (Js) (Jq) ?_;intro K' hK)|refine U8 17 (fun y=>!decide (y = 6) && !decide (y = 8)) rfl (Qo _ _) (Qn _ _) fun K' hK=>?_|refine U9 17 (fun y=>!decide (y = 6) && !decide (y = 8)) rfl (Qo _ _) (Qn _ _) fun K' hK=>?_|(refine zrf 6 (Jr) (Jp) ?_;intro K' hK)|refine zsp ?_|(refine zsc ?_ ?_<;>intro hc<;>first|exact znh|try simp only [znz] at hc)|simp (maxSteps:=1000000) only [go_sem,JY,ad7,ep0,e3,Q6,Q5,Q4]|(refine hK _ ?_;clear hK K')|apply zan|(apply ab1;(focus exact rfl);(focus first|exact (z6 _));(focus exact rfl);(focus exact rfl))|(apply xm;(focus exact rfl);(focus exact zrd);(focus exact zrd);(focus first|exact (z6 _));(focus exact rfl);(focus exact rfl);(focus exact zrd))|(apply ab0;(focus first|exact (z1 _)))|((first|apply Vw|apply XU);(focus first|exact (z5 _ zsd)))|(apply xl;(focus first|exact (z1 _));(focus exact zrd))|((first|apply Ql|apply Qi);(focus first|exact (z0 _ zsd zsd).b|exact (z3 _ _).b|exact (z4 _ _ _ _ zsd zsd zsd).b))|exact zsq|fail)
   refine Yf (ι:=Nat×Jo) (fun q=>q.1≤own.length∧ang (own.drop q.1) q.2 = some d) (fun q=>JY [(6,.ptr 0 0),(10,.hd 1 0 own.length),(13,.ptr 6 0),(14,.mp 7),(66,.hd 1 0 own.length),(67,V.int own.length),(68,V.int q.1)] (ad7 own (yH g1 g2 g3 g4 g5 g6 g7 g8) q.2) 9) (fun q=>own.length - q.1) (0,⟨name,1,4,arJ,false,false⟩) ⟨Nat.zero_le _,hr⟩ (QX []) (Ys [] (by simp only [go_sem,zwl,ad7,ep0,yH]<;>exact zcc) (by simp only [go_sem,zwl,ad7,ep0,yH,Jo.cells]<;>exact zcc) (by simp [ad7,QX]) (by simp [ad7]) (by omega)) fun q hq K3 hL3=>?_
   obtain ⟨j,dk⟩:=q
   simp only at hq hL3 ⊢
   obtain ⟨hj,hrun⟩:=hq
   clear hL2 hL
   rcases hdj:own.drop j with _|⟨x,r⟩
   ·have hjl:=Ja hdj
    have e4:decide ((j:Int) < ((own.length:Nat):Int)) = false:=by simp;omega
    rw [hdj] at hrun
    obtain rfl:dk = d:=by simpa [ang] using hrun
    have hfi:=z6 dk
    by_cases hle:dk.least≤dk.most
    ·rw [aqb,if_pos hle] at hfi ⊢
     simp only [Jo.ep] at hfi ⊢
     repeat' (first|(refine zsk ?_;intro K' hK)|(refine zrf 6 (Js) (Jq) ?_;intro K' hK)|refine U8 17 (fun y=>!decide (y = 6) && !decide (y = 8)) rfl (Qo _ _) (Qn _ _) fun K' hK=>?_|refine U9 17 (fun y=>!decide (y = 6) && !decide (y = 8)) rfl (Qo _ _) (Qn _ _) fun K' hK=>?_|(refine zrf 6 (Jr) (Jp) ?_;intro K' hK)|refine zsp ?_|(refine zsc ?_ ?_<;>intro hc<;>first|exact znh|try simp only [znz] at hc)|simp (maxSteps:=1000000) only [go_sem,JY,ad7,ep0,e4,Q6,Q5,Q4]|(refine hK _ ?_;clear hK K')|apply zan|(apply ab1;(focus exact rfl);(focus first|exact hfi|exact (z6 _));(focus exact rfl);(focus exact rfl))|(apply xm;(focus exact rfl);(focus exact zrd);(focus exact zrd);(focus first|exact hfi|exact (z6 _));(focus exact rfl);(focus exact rfl);(focus exact zrd))|(apply ab0;(focus first|exact (z1 _)))|((first|apply Vw|apply XU);(focus first|exact (z5 _ zsd)))|(apply xl;(focus first|exact (z1 _));(focus exact zrd))|((first|apply Ql|apply Qi);(focus first|exact (z0 _ zsd zsd).b|exact (z3 _ _).b|exact (z4 _ _ _ _ zsd zsd zsd).b))|exact zsq|fail)
     all_goals first|exact zr
    ·rw [aqb,if_neg hle] at hfi ⊢
     repeat' (first|(refine zsk ?_;intro K' hK)|(refine zrf 6 (Js) (Jq) ?_;intro K' hK)|refine U8 17 (fun y=>!decide (y = 6) && !decide (y = 8)) rfl (Qo _ _) (Qn _ _) fun K' hK=>?_|refine U9 17 (fun y=>!decide (y = 6) && !decide (y = 8)) rfl (Qo _ _) (Qn _ _) fun K' hK=>?_|(refine zrf 6 (Jr) (Jp) ?_;intro K' hK)|refine zsp ?_|(refine zsc ?_ ?_<;>intro hc<;>first|exact znh|try simp only [znz] at hc)|simp (maxSteps:=1000000) only [go_sem,JY,ad7,ep0,e4,Q6,Q5,Q4]|(refine hK _ ?_;clear hK K')|apply zan|(apply ab1;(focus exact rfl);(focus first|exact hfi|exact (z6 _));(focus exact rfl);(focus exact rfl))|(apply xm;(focus exact rfl);(focus exact zrd);(focus exact zrd);(focus first|exact hfi|exact (z6 _));(focus exact rfl);(focus exact rfl);(focus exact zrd))|(apply ab0;(focus first|exact (z1 _)))|((first|apply Vw|apply XU);(focus first|exact (z5 _ zsd)))|(apply xl;(focus first|exact (z1 _));(focus exact zrd))|((first|apply Ql|apply Qi);(focus first|exact (z0 _ zsd zsd).b|exact (z3 _ _).b|exact (z4 _ _ _ _ zsd zsd zsd).b))|exact zsq|fail)
     all_goals first|exact zr
   ·obtain ⟨hj',hgj,hrj⟩:=QK hdj
    have hwj:=QP (k:=j) (by omega)
    have e4:decide ((j:Int) < ((own.length:Nat):Int)) = true:=by simp;omega
    have hxm:=List.mem_of_getElem? hgj
    have hvx:=hmem x hxm
    have hcf:=(z4 (own.drop (j + 1)) Xn [.ro x.cells 0] (fun y=>y.name == x.name) (fun y _=>z3 y x) (by simp [V.closed,closedL]) (by simp;omega)).b
    rw [hdj,ang] at hrun
    rw [← hrj] at hrun
    have hsl:List.take (own.length - (j + 1)) (List.drop (j + 1) (List.map Vz.v own)) = (own.drop (j + 1)).map Vz.v:=by
     rw [List.take_of_length_le (by simp),List.map_drop]
    have hw2:IntKind.i64.wrap ((j:Int) + 1) = ((j + 1:Nat):Int):=hwj
    simp only [Vz.cells] at hcf
    obtain ⟨i,hi,hnm⟩:=ajC (hw x hxm)
    rcases hag:(own.drop (j + 1)).any (fun y=>y.name == x.name) with _|_
    ·rw [hag,if_neg (by decide)] at hrun
     rw [hag] at hcf
     have hva:=z5 x (aoh (hw x hxm))
     simp only [Vz.v,Vz.cells] at hva
     have hcase:(∃ i g e,KB false [1] (V.str x.name) aeg 0 = some (some i)∧(yH g1 g2 g3 g4 g5 g6 g7 g8)[i]? = some (.clo (.n g) [.ptr 8 0])∧EvH C.env g (.sl 1 [V.str x.val]) dk.cells (V.bool true) (Jo.cells e)∧ang (own.drop (j + 1)) e = some d)∨(∃ e,KB false [1] (V.str x.name) aeg 0 = some (some 2)∧EvD C.env g3 [.sl 1 [V.str x.val]] dk.cells (V.bool true) (Jo.cells e)∧ang (own.drop (j + 1)) e = some d):=by
      rcases hi with ⟨rfl,hnn⟩|⟨rfl,hnn⟩|⟨rfl,hnn⟩|⟨rfl,hnn⟩|⟨rfl,hnn⟩
      ·obtain ⟨hok,hrun'⟩:=vX (by rw [aen,if_pos hnn]) hrun
       have hH:=c1 x.val dk hvx
       rw [hok] at hH
       exact .inl ⟨0,g1,_,hnm,rfl,hH,hrun'⟩
      ·obtain ⟨hok,hrun'⟩:=vX (by rw [aen,if_neg (by rw [hnn];decide),if_pos hnn]) hrun
       have hH:=c2 x.val dk hvx
       rw [hok] at hH
       exact .inl ⟨1,g2,_,hnm,rfl,hH,hrun'⟩
      ·obtain ⟨hok,hrun'⟩:=vX (by rw [aen,if_neg (by rw [hnn];decide),if_neg (by rw [hnn];decide),if_pos hnn]) hrun
       have hH:=c3 x.val dk hvx
       rw [hok] at hH
       exact .inr ⟨_,hnm,hH,hrun'⟩
      ·obtain ⟨hok,hrun'⟩:=vX (by rw [aen,if_neg (by rw [hnn];decide),if_neg (by rw [hnn];decide),if_neg (by rw [hnn];decide),if_pos hnn]) hrun
       have hH:=c4 x.val dk
       rw [hok] at hH
       exact .inl ⟨3,g4,_,hnm,rfl,hH,hrun'⟩
      ·obtain ⟨hok,hrun'⟩:=vX (by rw [aen,if_neg (by rw [hnn];decide),if_neg (by rw [hnn];decide),if_neg (by rw [hnn];decide),if_neg (by rw [hnn];decide),if_pos hnn]) hrun
       have hH:=c8 x.val dk
       rw [hok] at hH
       exact .inl ⟨7,g8,_,hnm,rfl,hH,hrun'⟩
     clear hi hnm
     rcases hcase with ⟨i,g,e,hnm,hcl,hH,hrun'⟩|⟨e,hnm,hH,hrun'⟩
     ·repeat' (first|(refine zsk ?_;intro K' hK)|(refine zrf 6 (Js) (Jq) ?_;intro K' hK)|refine U8 17 (fun y=>!decide (y = 6) && !decide (y = 8)) rfl (Qo _ _) (Qn _ _) fun K' hK=>?_|refine U9 17 (fun y=>!decide (y = 6) && !decide (y = 8)) rfl (Qo _ _) (Qn _ _) fun K' hK=>?_|(refine zrf 6 (Jr) (Jp) ?_;intro K' hK)|refine zsp ?_|(refine zsc ?_ ?_<;>intro hc<;>first|exact znh|try simp only [znz] at hc)|simp (maxSteps:=1000000) only [go_sem,JY,ad7,ep0,e4,hwj,hw2,hsl,Int.toNat_natCast,List.getElem?_map,hgj,Vz.v,Vz.cells,hnm,hcl,List.map_cons,List.map_nil,List.length_cons,List.length_nil,List.take_succ_cons,List.take_zero,Q6,Q5,Q4]|(refine hK _ ?_;clear hK K')|apply zan|(apply apr;(focus exact rfl);(focus exact rfl);(focus first|exact hH);(focus exact rfl);(focus exact rfl))|(apply amq;(focus exact rfl);(focus exact rfl);(focus first|exact rfl|decide);(focus first|exact hH);(focus exact rfl);(focus exact rfl);(focus first|exact rfl|decide))|(apply ab1;(focus exact rfl);(focus first|exact (z6 _));(focus exact rfl);(focus exact rfl))|(apply xm;(focus exact rfl);(focus exact zrd);(focus exact zrd);(focus first|exact (z6 _));(focus exact rfl);(focus exact rfl);(focus exact zrd))|(apply ab0;(focus first|exact (z1 _)))|((first|apply Vw|apply XU);(focus first|exact hva|exact (z5 _ zsd)))|(apply xl;(focus first|exact (z1 _));(focus exact zrd))|((first|apply Ql|apply Qi);(focus first|exact hcf|exact (z0 _ zsd zsd).b|exact (z3 _ _).b|exact (z4 _ _ _ _ zsd zsd zsd).b))|exact zsq|fail)
      all_goals first|exact hL3 _ (j + 1,e) (QX []) ⟨by simp only;omega,hrun'⟩ (by simp only;omega) (Ys [] (by simp only [go_sem,zwl,ad7,ep0,yH]<;>exact zcc) (by simp only [go_sem,zwl,ad7,ep0,yH,Jo.cells]<;>exact zcc) (by simp [ad7,QX]) (by simp [ad7]) (by omega))
     ·have hcl:(yH g1 g2 g3 g4 g5 g6 g7 g8)[2]? = some (.clo (.m g3) [.ptr 6 0]):=rfl
      repeat' (first|(refine zsk ?_;intro K' hK)|(refine zrf 6 (Js) (Jq) ?_;intro K' hK)|refine U8 17 (fun y=>!decide (y = 6) && !decide (y = 8)) rfl (Qo _ _) (Qn _ _) fun K' hK=>?_|refine U9 17 (fun y=>!decide (y = 6) && !decide (y = 8)) rfl (Qo _ _) (Qn _ _) fun K' hK=>?_|(refine zrf 6 (Jr) (Jp) ?_;intro K' hK)|refine zsp ?_|(refine zsc ?_ ?_<;>intro hc<;>first|exact znh|try simp only [znz] at hc)|simp (maxSteps:=1000000) only [go_sem,JY,ad7,ep0,e4,hwj,hw2,hsl,Int.toNat_natCast,List.getElem?_map,hgj,Vz.v,Vz.cells,hnm,hcl,List.map_cons,List.map_nil,List.length_cons,List.length_nil,List.take_succ_cons,List.take_zero,Q6,Q5,Q4]|(refine hK _ ?_;clear hK K')|apply zan|(apply ab1;(focus exact rfl);(focus first|exact hH|exact (z6 _));(focus exact rfl);(focus exact rfl))|(apply xm;(focus exact rfl);(focus exact zrd);(focus exact zrd);(focus first|exact hH|exact (z6 _));(focus exact rfl);(focus exact rfl);(focus exact zrd))|(apply ab0;(focus first|exact (z1 _)))|((first|apply Vw|apply XU);(focus first|exact hva|exact (z5 _ zsd)))|(apply xl;(focus first|exact (z1 _));(focus exact zrd))|((first|apply Ql|apply Qi);(focus first|exact hcf|exact (z0 _ zsd zsd).b|exact (z3 _ _).b|exact (z4 _ _ _ _ zsd zsd zsd).b))|exact zsq|fail)
      all_goals first|exact hL3 _ (j + 1,e) (QX []) ⟨by simp only;omega,hrun'⟩ (by simp only;omega) (Ys [] (by simp only [go_sem,zwl,ad7,ep0,yH]<;>exact zcc) (by simp only [go_sem,zwl,ad7,ep0,yH,Jo.cells]<;>exact zcc) (by simp [ad7,QX]) (by simp [ad7]) (by omega))
    ·rw [hag,if_pos rfl] at hrun
     rw [hag] at hcf
     have hrun':=hrun
     repeat' (first|(refine zsk ?_;intro K' hK)|(refine zrf 6 (Js) (Jq) ?_;intro K' hK)|refine U8 17 (fun y=>!decide (y = 6) && !decide (y = 8)) rfl (Qo _ _) (Qn _ _) fun K' hK=>?_|refine U9 17 (fun y=>!decide (y = 6) && !decide (y = 8)) rfl (Qo _ _) (Qn _ _) fun K' hK=>?_|(refine zrf 6 (Jr) (Jp) ?_;intro K' hK)|refine zsp ?_|(refine zsc ?_ ?_<;>intro hc<;>first|exact znh|try simp only [znz] at hc)|simp (maxSteps:=1000000) only [go_sem,JY,ad7,ep0,e4,hwj,hw2,hsl,Int.toNat_natCast,List.getElem?_map,hgj,Vz.v,Vz.cells,Q6,Q5,Q4]|(refine hK _ ?_;clear hK K')|apply zan|(apply ab1;(focus exact rfl);(focus first|exact (z6 _));(focus exact rfl);(focus exact rfl))|(apply xm;(focus exact rfl);(focus exact zrd);(focus exact zrd);(focus first|exact (z6 _));(focus exact rfl);(focus exact rfl);(focus exact zrd))|(apply ab0;(focus first|exact (z1 _)))|((first|apply Vw|apply XU);(focus first|exact (z5 _ zsd)))|(apply xl;(focus first|exact (z1 _));(focus exact zrd))|((first|apply Ql|apply Qi);(focus first|exact hcf|exact (z0 _ zsd zsd).b|exact (z3 _ _).b|exact (z4 _ _ _ _ zsd zsd zsd).b))|exact zsq|fail)
     all_goals first|exact hL3 _ (j + 1,dk) (QX []) ⟨by simp only;omega,hrun'⟩ (by simp only;omega) (Ys [] (by simp only [go_sem,zwl,ad7,ep0,yH]<;>exact zcc) (by simp only [go_sem,zwl,ad7,ep0,yH,Jo.cells]<;>exact zcc) (by simp [ad7,QX]) (by simp [ad7]) (by omega))
  ·obtain ⟨hk',hget,hrr⟩:=QK hdo
   have hwi:=QP (k:=k) (by omega)
   have e3:decide ((k:Int) < ((own.length:Nat):Int)) = true:=by simp;omega
   have hwx:=hw x (List.mem_of_getElem? hget)
   obtain ⟨i,hi,hnm⟩:=ajC hwx
   obtain ⟨fk,cc,hcl⟩:∃ fk cc,(yH g1 g2 g3 g4 g5 g6 g7 g8)[i]? = some (.clo fk cc):=by
    rcases hi with ⟨rfl,_⟩|⟨rfl,_⟩|⟨rfl,_⟩|⟨rfl,_⟩|⟨rfl,_⟩<;>exact ⟨_,_,rfl⟩
   clear hi hwx
   repeat' (first|(refine zsk ?_;intro K' hK)|(refine zrf 6 (Js) (Jq) ?_;intro K' hK)|refine U8 17 (fun y=>!decide (y = 6) && !decide (y = 8)) rfl (Qo _ _) (Qn _ _) fun K' hK=>?_|refine U9 17 (fun y=>!decide (y = 6) && !decide (y = 8)) rfl (Qo _ _) (Qn _ _) fun K' hK=>?_|(refine zrf 6 (Jr) (Jp) ?_;intro K' hK)|refine zsp ?_|(refine zsc ?_ ?_<;>intro hc<;>first|exact znh|try simp only [znz] at hc)|simp (maxSteps:=1000000) only [go_sem,JY,ad7,ep0,e3,hwi,Int.toNat_natCast,List.getElem?_map,hget,Vz.v,Vz.cells,hnm,hcl,Q6,Q5,Q4]|(refine hK _ ?_;clear hK K')|apply zan|(apply ab1;(focus exact rfl);(focus first|exact (z6 _));(focus exact rfl);(focus exact rfl))|(apply xm;(focus exact rfl);(focus exact zrd);(focus exact zrd);(focus first|exact (z6 _));(focus exact rfl);(focus exact rfl);(focus exact zrd))|(apply ab0;(focus first|exact (z1 _)))|((first|apply Vw|apply XU);(focus first|exact (z5 _ zsd)))|(apply xl;(focus first|exact (z1 _));(focus exact zrd))|((first|apply Ql|apply Qi);(focus first|exact (z0 _ zsd zsd).b|exact (z3 _ _).b|exact (z4 _ _ _ _ zsd zsd zsd).b))|exact zsq|fail)
   all_goals first|exact hL2 _ (k + 1) (QX []) (by omega) (by omega) (Ys [] (by simp only [go_sem,zwl,ad7,ep0,yH]<;>exact zcc) (by simp only [go_sem,zwl,ad7,ep0,yH,Jo.cells]<;>exact zcc) (by simp [ad7,QX]) (by simp [ad7]) (by omega))
 ·obtain ⟨hk',hget,hrr⟩:=QK hdr
  have hwi:=QP (k:=k) (by omega)
  have e1:decide ((k:Int) < ((l.length:Nat):Int)) = true:=by simp;omega
  have hot:=aov (name:=name) hget
  have hol:=aow (l.take k) name
  have hlt:(l.take k).length≤k:=by simp;omega
  rcases hx:x.sec == name with _|_
  ·rw [hx,if_neg (by decide)] at hot
   repeat' (first|(refine zsk ?_;intro K' hK)|(refine zrf 6 (Js) (Jq) ?_;intro K' hK)|refine U8 17 (fun y=>!decide (y = 6) && !decide (y = 8)) rfl (Qo _ _) (Qn _ _) fun K' hK=>?_|refine U9 17 (fun y=>!decide (y = 6) && !decide (y = 8)) rfl (Qo _ _) (Qn _ _) fun K' hK=>?_|(refine zrf 6 (Jr) (Jp) ?_;intro K' hK)|refine zsp ?_|(refine zsc ?_ ?_<;>intro hc<;>first|exact znh|try simp only [znz] at hc)|simp (maxSteps:=1000000) only [go_sem,JY,fsO,ep0,e1,hwi,Int.toNat_natCast,List.getElem?_map,hget,Vz.v,Vz.cells,hx,Q6,Q5,Q4]|(refine hK _ ?_;clear hK K')|apply zan|(apply ab1;(focus exact rfl);(focus first|exact (z6 _));(focus exact rfl);(focus exact rfl))|(apply xm;(focus exact rfl);(focus exact zrd);(focus exact zrd);(focus first|exact (z6 _));(focus exact rfl);(focus exact rfl);(focus exact zrd))|(apply ab0;(focus first|exact (z1 _)))|((first|apply Vw|apply XU);(focus first|exact (z5 _ zsd)))|(apply xl;(focus first|exact (z1 _));(focus exact zrd))|((first|apply Ql|apply Qi);(focus first|exact (z0 _ zsd zsd).b|exact (z3 _ _).b|exact (z4 _ _ _ _ zsd zsd zsd).b))|exact zsq|fail)
   all_goals first|exact hL _ (k + 1) (QX []) (by omega) (by omega) (by rw [hot];exact Ys [] (by simp only [go_sem,zwl,fsO,ep0]<;>exact zcc) (by simp only [go_sem,zwl,fsO,ep0]<;>exact zcc) (by simp [fsO,QX]) (by simp [fsO]) (by omega))
  ·rw [hx,if_pos rfl] at hot
   generalize ak4 (l.take k) name = own at *
   repeat' (first|(refine zsk ?_;intro K' hK)|(refine zrf 6 (Js) (Jq) ?_;intro K' hK)|refine U8 17 (fun y=>!decide (y = 6) && !decide (y = 8)) rfl (Qo _ _) (Qn _ _) fun K' hK=>?_|refine U9 17 (fun y=>!decide (y = 6) && !decide (y = 8)) rfl (Qo _ _) (Qn _ _) fun K' hK=>?_|(refine zrf 6 (Jr) (Jp) ?_;intro K' hK)|refine zsp ?_|(refine zsc ?_ ?_<;>intro hc<;>first|exact znh|try simp only [znz] at hc)|simp (maxSteps:=1000000) only [go_sem,JY,fsO,ep0,e1,hwi,Int.toNat_natCast,List.getElem?_map,hget,Vz.v,Vz.cells,hx,Q6,Q5,Q4]|(refine hK _ ?_;clear hK K')|apply zan|(apply ab1;(focus exact rfl);(focus first|exact (z6 _));(focus exact rfl);(focus exact rfl))|(apply xm;(focus exact rfl);(focus exact zrd);(focus exact zrd);(focus first|exact (z6 _));(focus exact rfl);(focus exact rfl);(focus exact zrd))|(apply ab0;(focus first|exact (z1 _)))|((first|apply Vw|apply XU);(focus first|exact (z5 _ zsd)))|(apply xl;(focus first|exact (z1 _));(focus exact zrd))|((first|apply Ql|apply Qi);(focus first|exact (z0 _ zsd zsd).b|exact (z3 _ _).b|exact (z4 _ _ _ _ zsd zsd zsd).b))|exact zsq|fail)
   have hap:List.take own.length (List.map Vz.v own)++[V.agg [V.str x.sec,V.str x.name,V.str x.val,V.int x.line]] = (own++[x]).map Vz.v:=by
    rw [List.take_of_length_le (by simp),List.map_append];rfl
   have hln:own.length + 1 = (own++[x]).length:=by simp
   rw [hap,hln]
   all_goals first|exact hL _ (k + 1) (QX [(1,12006)]) (by omega) (by omega) (by rw [hot];exact Ys [(1,12006)] (by simp only [go_sem,zwl,fsO,ep0]<;>exact zcc) (by simp only [go_sem,zwl,fsO,ep0]<;>exact zcc) (by simp [fsO,QX]) (by simp [fsO];omega) (by omega))
end Av
end
section
set_option linter.unusedSimpArgs false
set_option linter.unusedVariables false
set_option maxRecDepth 10000
set_option maxHeartbeats 4000000
namespace Av
open Go
attribute [local irreducible] AWp VV UQ Ko awS awC jF awQ yc Jb XH jD awR XT awB okR Wy ris
theorem ak3:abL [104,105,103,104,58,33,114,115,97] = ([9,11,14,15,16],0,0):=by decide +kernel
def acB (WM QZ:Nat):AC:=Qe [] (.reg [mc 0 (V.bool false)]) (Qe [1,2,3] (.reg [xo 5 (.build [(.string ⟨#[]⟩),(.string ⟨#[]⟩),(.string ⟨#[]⟩),(.int .i64 0)] [(0,1,(.c (V.str [119,101,98]))),(1,1,(.c (V.str [109,111,115,116]))),(2,1,(.c (V.str [51])))]),xo 6 (.build [(.string ⟨#[]⟩),(.string ⟨#[]⟩),(.string ⟨#[]⟩),(.int .i64 0)] [(0,1,(.c (V.str [119,101,98]))),(1,1,(.c (V.str [115,117,105,116,101,115]))),(2,1,(.c (V.str [104,105,103,104,58,33,114,115,97])))]),xo 7 (.bslice 2 4 true [(.string ⟨#[]⟩),(.string ⟨#[]⟩),(.string ⟨#[]⟩),(.int .i64 0)] [(0,(.t 5)),(1,(.t 6))]),xo 8 (.call WM [(.t 7),(.c (V.str [119,101,98])),(.c (.sc (.slice none 0 0)))]),mv 4 8,ex 9 4 0,ex 10 4 1,ex 11 4 2,xo 1 (.alloc [.val (.string ⟨#[]⟩),.val (.int .i64 0),.val (.int .i64 0),.nil 1,.val (.bool false),.nil 4,.nil 1,.nil 1,.val (.bool false)]),xs 9 1 9,mv 2 10,mv 3 11]) (Qe [0] (.reg [mv 12 3,bc 13 .eql 12 (V.int 0),mv 14 13,mg 15 2 14 true,xg 16 (.bin .eql (.t 15) (.c (V.int 0))) 14 true,xo 17 (.pick (.t 14) (.t 16) (.c (V.bool false))),mv 18 17,xg 19 (.faddr 0 (.t 1)) 18 true,xg 20 (.load false 1 (.t 19)) 18 true,xg 21 (.bin .eql (.t 20) (.c (V.str [119,101,98]))) 18 true,xo 22 (.pick (.t 18) (.t 21) (.c (V.bool false))),mv 23 22,xg 24 (.faddr 1 (.t 1)) 23 true,xg 25 (.load false 1 (.t 24)) 23 true,xg 26 (.bin .eql (.t 25) (.c (V.int 1))) 23 true,xo 27 (.pick (.t 23) (.t 26) (.c (V.bool false))),mv 28 27,xg 29 (.faddr 2 (.t 1)) 28 true,xg 30 (.load false 1 (.t 29)) 28 true,xg 31 (.bin .eql (.t 30) (.c (V.int 3))) 28 true,xo 32 (.pick (.t 28) (.t 31) (.c (V.bool false))),mv 33 32,xg 34 (.faddr 3 (.t 1)) 33 true,xg 35 (.load false 1 (.t 34)) 33 true,xg 36 (.lenL (.t 35)) 33 true,xg 37 (.bin .gtr (.t 36) (.c (V.int 0))) 33 true,xo 38 (.pick (.t 33) (.t 37) (.c (V.bool false))),mv 39 38,xg 40 (.load true 9 (.t 1)) 39 true,xg 41 (.call QZ [(.t 40)]) 39 true,xg 42 (.bin .eql (.t 41) (.c (V.int 0))) 39 true,xo 43 (.pick (.t 39) (.t 42) (.c (V.bool false))),mv 0 43]) (.ret))) def r_law09_awake:List YF:=[.tmp 0]
def abD (Γ:Env) (f:Nat):Prop:=EvN Γ f [] (V.bool true)
theorem ajk {Γ:Env} {f WM QZ:Nat} (h:Has Γ.P f 44 (acB WM QZ) r_law09_awake) (z0:Ue Γ WM) (z1:Uf Γ QZ):abD Γ f:=by
 refine Qj h zsi zcl zcl fun C hC hm=>?_
 subst hC
 unfold acB
 have hrun:ang (ak4 [⟨[119,101,98],[109,111,115,116],[51],0⟩,⟨[119,101,98],[115,117,105,116,101,115],[104,105,103,104,58,33,114,115,97],0⟩] [119,101,98]) ⟨[119,101,98],1,4,arJ,false,false⟩ = some ⟨[119,101,98],1,3,[9,11,14,15,16],false,false⟩:=by
  have hv:aqx [51] = true:=by decide +kernel
  have ha:vW [51] = 3:=by decide +kernel
  have ho:ak4 [⟨[119,101,98],[109,111,115,116],[51],0⟩,⟨[119,101,98],[115,117,105,116,101,115],[104,105,103,104,58,33,114,115,97],0⟩] [119,101,98] = [⟨[119,101,98],[109,111,115,116],[51],0⟩,⟨[119,101,98],[115,117,105,116,101,115],[104,105,103,104,58,33,114,115,97],0⟩]:=rfl
  rw [ho]
  have n1:([⟨[119,101,98],[115,117,105,116,101,115],[104,105,103,104,58,33,114,115,97],0⟩]:List Vz).any (fun y=>y.name == [109,111,115,116]) = false:=rfl
  rw [ang,if_neg (by rw [n1];decide),aen,if_neg (by decide),if_pos rfl,if_pos hv,ha,Option.bind_some,ang,if_neg (by decide),aen,if_neg (by decide),if_neg (by decide),if_pos rfl,ak3]
  rfl
 have hf:=(z0 [⟨[119,101,98],[109,111,115,116],[51],0⟩,⟨[119,101,98],[115,117,105,116,101,115],[104,105,103,104,58,33,114,115,97],0⟩] [119,101,98] _ (by decide) (by decide +kernel) (by decide) (fun x hx=>by
  simp only [List.mem_cons,List.not_mem_nil,or_false] at hx
  rcases hx with rfl|rfl<;>decide) (fun x hx=>by
  have hx:=(List.mem_filter.1 hx).1
  simp only [List.mem_cons,List.not_mem_nil,or_false] at hx
  rcases hx with rfl|rfl
  ·exact .inr (.inl rfl)
  ·exact .inr (.inr (.inl rfl))) (by decide) hrun)
 have hk0:=(z1 ⟨[119,101,98],1,3,[9,11,14,15,16],false,[],[],[],false⟩ ⟨by decide,by decide,by decide,fun x hx=>by simp at hx,by decide,by decide⟩).b
 rw [if_pos (by decide +kernel)] at hk0
 have hk:=hk0.le (args':=[Jo.ep ⟨[119,101,98],1,3,[9,11,14,15,16],false,false⟩]) rfl (fun i hi hi'=>by
  match i,hi with
  | 0,_ =>
    refine LeV.agg rfl fun j hj hj'=>?_
    match j,hj with
    | 0,_=>exact LeV.refl _
    | 1,_=>exact LeV.refl _
    | 2,_=>exact LeV.refl _
    | 3,_=>exact LeV.refl _
    | 4,_=>exact LeV.refl _
    | 5,_=>exact LeV.nil 4
    | 6,_=>exact LeV.nil 1
    | 7,_=>exact LeV.nil 1
    | 8,_=>exact LeV.refl _)
 simp only [aqb,Jo.ep,Vz.v,Vz.cells,List.map_cons,List.map_nil] at hf hk
 rw [if_pos (by decide)] at hf
 repeat' (first|(refine zsk ?_;intro K' hK)|refine zsp ?_|(refine zsc ?_ ?_<;>intro hc<;>first|exact znh|try simp only [znz] at hc)|simp (maxSteps:=1000000) only [go_sem]|(refine hK _ ?_;clear hK K')|apply zan|(apply asp;(focus first|exact hf))|(apply Ql;(focus first|exact hk|exact (z0 _ _ _ zsd zsd zsd zsd zsd zsd zsd).b|exact (z1 _ _).b))|exact zsq|fail)
 all_goals first|exact zr
end Av
end
section
set_option linter.unusedSimpArgs false
set_option linter.unusedVariables false
set_option maxRecDepth 10000
set_option maxHeartbeats 4000000
namespace Av
open Go
attribute [local irreducible] AWp VV UQ Ko awS awC jF awQ yc Jb XH jD awR XT awB okR Wy ris
theorem aqd (x:Vz):eqP x x = true:=by simp [eqP]
theorem aln:∀ l:List Vz,eqL eqP l l = true
 | []=>rfl
 | x :: r=>by rw [eqL,aqd,aln r];rfl
theorem alM (e:JQ) (al:List (List UInt8)):∃ (xs:List Vz) (t:Int),yI e al = .tup [.sl 4 (xs.map Vz.v),V.int t]∧xs.length≤8:=by
 unfold yI
 split
 ·split
  ·split
   ·exact ⟨[],18,rfl,by simp⟩
   ·refine ⟨ahY e al,0,rfl,?_⟩
    have:=List.length_filter_le W9 (adb e al)
    simp only [ahY,Wv,yY,adb,List.length_map,List.length_append,List.length_cons,List.length_nil] at *
    omega
  ·exact ⟨[],18,rfl,by simp⟩
 ·exact ⟨[],19,rfl,by simp⟩
def Kz (QZ JT Xd Yc Xc YB:Nat):List AO:=[xo 57 (.load true 9 (.t 3)),cl 58 QZ [57],xo 59 (.load true 9 (.t 3)),cl 60 JT [59],bn 61 .eql 58 60,mv 62 61,mg 63 8 62 true,mg 64 10 62 true,xg 65 (.bin .eql (.t 63) (.t 64)) 62 true,xo 66 (.pick (.t 62) (.t 65) (.c (V.bool false))),mv 67 66,mg 68 7 67 true,mg 69 9 67 true,xg 70 (.call Xd [(.t 68),(.t 69)]) 67 true,xo 71 (.pick (.t 67) (.t 70) (.c (V.bool false))),mv 72 71,xg 73 (.load true 9 (.t 3)) 72 true,xg 74 (.load true 9 (.t 4)) 72 true,xg 75 (.call Yc [(.t 73),(.t 74)]) 72 true,xg 76 (.load true 9 (.t 3)) 72 true,xg 77 (.load true 9 (.t 4)) 72 true,xg 78 (.call Xc [(.t 76),(.t 77)]) 72 true,xg 79 (.eqb false (.t 75) (.t 78)) 72 true,xo 80 (.pick (.t 72) (.t 79) (.c (V.bool false))),mv 81 80,xg 82 (.call YB []) 81 true,xo 83 (.pick (.t 81) (.t 82) (.c (V.bool false))),mv 6 83]
def KE:List (List Nat):=[[],[0],[],[2,1],[1,3],[4,3],[5],[5],[6,7,5],[5,8],[9,5],[10],[10],[11,12,10,10],[10,13],[14,13],[15],[15],[16,17,15,15],[15],[15],[19,20,18,15],[18,21,15],[15,22],[23,21],[24,24],[24,25],[26,25,0,1,2,3,4,5,6,7,8,9,10,11,12,13,14,15,16,17,18,19,20,21,22,23,24,25,26]]
def Kf:OT:=.one 0 (.one 2 (.or 1 (.or 3 (.one 4 (.one 5 (.one 6 (.one 7 (.one 8 (.one 9 (.one 10 (.one 11 (.one 12 (.or 13 (.one 14 (.one 15 (.one 16 (.one 17 (.one 19 (.one 20 (.or 18 (.or 21 (.one 22 (.one 23 (.one 24 (.one 25 (.one 26 (.one 27 (.done))))))) (.done)) (.done)))))))) (.done))))))))))) (.done)) (.done)))
@[go_sem] def Vm (QZ JT Xd Yc Xc YB:Nat):OP:=.one 0 false [] (xo 57 (.load true 9 (.t 3))) (.one 2 false [] (xo 59 (.load true 9 (.t 3))) (.or 1 false [] (cl 58 QZ [57]) (.or 3 false [] (cl 60 JT [59]) (.one 4 false [3,1] (bn 61 .eql 58 60) (.one 5 false [3,1] (mv 62 61) (.one 6 false [3,1] (mg 63 8 62 true) (.one 7 false [3,1] (mg 64 10 62 true) (.one 8 false [3,1] (xg 65 (.bin .eql (.t 63) (.t 64)) 62 true) (.one 9 false [3,1] (xo 66 (.pick (.t 62) (.t 65) (.c (V.bool false)))) (.one 10 false [3,1] (mv 67 66) (.one 11 false [3,1] (mg 68 7 67 true) (.one 12 false [3,1] (mg 69 9 67 true) (.or 13 false [3,1] (xg 70 (.call Xd [(.t 68),(.t 69)]) 67 true) (.one 14 false [13,3,1] (xo 71 (.pick (.t 67) (.t 70) (.c (V.bool false)))) (.one 15 false [13,3,1] (mv 72 71) (.one 16 false [13,3,1] (xg 73 (.load true 9 (.t 3)) 72 true) (.one 17 false [13,3,1] (xg 74 (.load true 9 (.t 4)) 72 true) (.one 19 false [13,3,1] (xg 76 (.load true 9 (.t 3)) 72 true) (.one 20 false [13,3,1] (xg 77 (.load true 9 (.t 4)) 72 true) (.or 18 false [13,3,1] (xg 75 (.call Yc [(.t 73),(.t 74)]) 72 true) (.or 21 false [13,3,1] (xg 78 (.call Xc [(.t 76),(.t 77)]) 72 true) (.one 22 false [21,13,3,1,18] (xg 79 (.eqb false (.t 75) (.t 78)) 72 true) (.one 23 false [21,13,3,1,18] (xo 80 (.pick (.t 72) (.t 79) (.c (V.bool false)))) (.one 24 false [21,13,3,1,18] (mv 81 80) (.one 25 false [21,13,3,1,18] (xg 82 (.call YB []) 81 true) (.one 26 false [25,21,13,3,1,18] (xo 83 (.pick (.t 81) (.t 82) (.c (V.bool false)))) (.one 27 false [25,21,13,3,1,18] (mv 6 83) (.done))))))) (.done)) (.done)))))))) (.done))))))))))) (.done)) (.done)))
theorem wj (QZ JT Xd Yc Xc YB:Nat):okR (Kz QZ JT Xd Yc Xc YB) KE [] Kf = true:=by kernel_rfl
theorem xY (QZ JT Xd Yc Xc YB:Nat):Wy (ris (Kz QZ JT Xd Yc Xc YB) KE []) Kf = Vm QZ JT Xd Yc Xc YB:=by kernel_rfl def c_law09_EndpointRaw (YB Vt U5 QZ JT Xd Yc Xc:Nat):AC:=Qe [2,3,4] (.reg [xo 3 (.box true 9 (.t 0)),xo 4 (.box true 9 (.t 1)),mc 6 (V.bool false)]) (Qe [2,3,4] (Qe [2,3,4,43] (.reg [fa 11 3 3,ld 12 1 11,ln 13 12,fa 14 5 3,ld 15 1 14,ln 16 15,bn 17 .add 13 16,fa 18 6 3,ld 19 1 18,ln 20 19,bn 21 .add 17 20,fa 22 7 3,ld 23 1 22,ln 24 23,bn 25 .add 21 24,bc 26 .gtr 25 (V.int 100),mv 27 26,xg 28 (.faddr 5 (.t 4)) 27 false,xg 29 (.load false 1 (.t 28)) 27 false,xg 30 (.lenL (.t 29)) 27 false,xg 31 (.bin .gtr (.t 30) (.c (V.int 20))) 27 false,xo 32 (.pick (.t 27) (.c (V.bool true)) (.t 31)),mv 33 32,mg 34 2 33 false,xg 35 (.lenL (.t 34)) 33 false,xg 36 (.bin .gtr (.t 35) (.c (V.int 20))) 33 false,xo 37 (.pick (.t 33) (.c (V.bool true)) (.t 36)),mv 38 37,xg 39 (.faddr 0 (.t 3)) 38 false,xg 40 (.load false 1 (.t 39)) 38 false,xg 41 (.lenS (.t 40)) 38 false,xg 42 (.bin .gtr (.t 41) (.c (V.int 100))) 38 false,xo 43 (.pick (.t 38) (.c (V.bool true)) (.t 42))]) (.cond (.t 43) (Qe [6] (.reg [cl 44 YB [],mv 6 44]) (.ret)) (.skip))) (Qe [2,3,4,7,8] (.reg [xo 46 (.load true 9 (.t 3)),mv 47 2,cl 48 Vt [46,47],mv 45 48,ex 49 45 0,ex 50 45 1,mv 7 49,mv 8 50]) (Qe [3,4,7,8,9,10] (.reg [xo 52 (.load true 9 (.t 3)),mv 53 2,cl 54 U5 [52,53],mv 51 54,ex 55 51 0,ex 56 51 1,mv 9 55,mv 10 56]) (Qe [6] (ace [] Kf (Vm QZ JT Xd Yc Xc YB) (Kz QZ JT Xd Yc Xc YB) KE) (.ret))))) def r_law09_EndpointRaw:List YF:=[.tmp 6]
def wY (Γ:Env) (f:Nat):Prop:=∀ (e o:JQ) (al:List (List UInt8)) (hx:∀ x∈e.idents,x.Sm) (se:e.SmE) (hn0:e.name.length < 2 ^ 60) (hoi:o.idents.length < 2 ^ 60) (hall:al.length < 2 ^ 60) (hn:∀ x∈al,x.length < 2 ^ 60),EvN Γ f [e.v,o.v,.sl 1 (al.map V.str)] (V.bool true)
theorem ad8 {Γ:Env} {f YB Vt U5 QZ JT Xd Yc Xc:Nat} (h:Has Γ.P f 84 (c_law09_EndpointRaw YB Vt U5 QZ JT Xd Yc Xc) r_law09_EndpointRaw) (z0:abD Γ YB) (z5:UU Γ Vt) (z6:js Γ U5) (z7:Uf Γ QZ) (z8:xK Γ JT) (z9:acN Γ Xd) (z10:wM Γ Yc) (z11:acL Γ Xc):wY Γ f:=by
 intro e o al hx se hn0 hoi hall hn
 refine Qj h zsi zcl zcl fun C hC hm=>?_
 subst hC
 unfold c_law09_EndpointRaw
 have hA:=z0.b
 have z1:=se.hs
 have z2:=se.ha
 have z3:=se.hh
 have z4:=se.hi
 have lm1:(e.suites.map V.int).length = e.suites.length:=List.length_map _
 have lm2:(e.idents.map Yo.v).length = e.idents.length:=List.length_map _
 have lm3:(e.anchors.map V.int).length = e.anchors.length:=List.length_map _
 have lm4:(e.hashes.map V.int).length = e.hashes.length:=List.length_map _
 have lm5:(o.idents.map Yo.v).length = o.idents.length:=List.length_map _
 have lm6:(al.map V.str).length = al.length:=List.length_map _
 have w1:IntKind.i64.wrap ((e.suites.length:Int) + (e.idents.length:Int)) = ((e.suites.length + e.idents.length:Nat):Int):=by rw [UP (by omega) (by omega)];omega
 have w2:IntKind.i64.wrap (((e.suites.length + e.idents.length:Nat):Int) + (e.anchors.length:Int)) = ((e.suites.length + e.idents.length + e.anchors.length:Nat):Int):=by rw [UP (by omega) (by omega)];omega
 have w3:IntKind.i64.wrap (((e.suites.length + e.idents.length + e.anchors.length:Nat):Int) + (e.hashes.length:Int)) = ((e.suites.length + e.idents.length + e.anchors.length + e.hashes.length:Nat):Int):=by rw [UP (by omega) (by omega)];omega
 simp only [JQ.v,JQ.cells]
 by_cases hg:e.suites.length + e.idents.length + e.anchors.length + e.hashes.length≤100∧o.idents.length≤20∧al.length≤20∧e.name.length≤100
 ·obtain ⟨g1,g2,g3,g4⟩:=hg
  have sm:e.Sm:=⟨by omega,by omega,by omega,hx,by omega,by omega⟩
  have d1:decide (((e.suites.length + e.idents.length + e.anchors.length + e.hashes.length:Nat):Int) > 100) = false:=by simp;omega
  have d2:decide (((o.idents.length:Nat):Int) > 20) = false:=by simp;omega
  have d3:decide (((al.length:Nat):Int) > 20) = false:=by simp;omega
  have d4:decide (((e.name.length:Nat):Int) > 100) = false:=by simp;omega
  obtain ⟨xs,t,hxt,hxl⟩:=alM e al
  have q1:=(z5 e al sm (by omega) hn).b
  have q2:=(z6 e al sm (by omega) hn).b
  have q3:=(z7 e sm).b
  have q4:=(z8 e sm).b
  have q5:=(z9 xs xs (by omega)).b
  have q6:=(z10 e o se).b
  have q7:=(z11 e o se).b
  rw [hxt] at q1 q2
  rw [aln] at q5
  simp only [JQ.v,JQ.cells] at q1 q2 q3 q4 q6 q7
  generalize (if Y5 e = true then (0:Int) else 19) = ck at *
  repeat' (first|(refine zsk ?_;intro K' hK)|(refine zrt 28 (wj _ _ _ _ _ _) (xY _ _ _ _ _ _) ?_;intro K' hK)|refine zsp ?_|(refine zsc ?_ ?_<;>intro hc<;>first|exact znh|try simp only [znz] at hc)|simp (maxSteps:=1000000) only [go_sem,w1,w2,w3,lm1,lm2,lm3,lm4,lm5,lm6,d1,d2,d3,d4,beq_self_eq_true,Vm]|(refine hK _ ?_;clear hK K')|apply zan|((first|apply Ql|apply Qi);(focus first|exact hA|exact q1|exact q2|exact q3|exact q4|exact q5|exact q6|exact q7|exact EvN.b z0|exact (z5 _ _ _ zsd zsd).b|exact (z6 _ _ _ zsd zsd).b|exact (z7 _ _).b|exact (z8 _ _).b|exact (z9 _ _ zsd).b|exact (z10 _ _ _).b|exact (z11 _ _ _).b))|exact zsq|fail)
  all_goals first|exact zr|(refine QA _ rfl ?_;simp only [go_sem];simp;done)
 ·have hdd:decide (((e.suites.length + e.idents.length + e.anchors.length + e.hashes.length:Nat):Int) > 100) = true∨decide (((o.idents.length:Nat):Int) > 20) = true∨decide (((al.length:Nat):Int) > 20) = true∨decide (((e.name.length:Nat):Int) > 100) = true:=by
   simp only [decide_eq_true_eq];omega
  obtain ⟨b1,d1⟩:∃ b,decide (((e.suites.length + e.idents.length + e.anchors.length + e.hashes.length:Nat):Int) > 100) = b:=⟨_,rfl⟩
  obtain ⟨b2,d2⟩:∃ b,decide (((o.idents.length:Nat):Int) > 20) = b:=⟨_,rfl⟩
  obtain ⟨b3,d3⟩:∃ b,decide (((al.length:Nat):Int) > 20) = b:=⟨_,rfl⟩
  obtain ⟨b4,d4⟩:∃ b,decide (((e.name.length:Nat):Int) > 100) = b:=⟨_,rfl⟩
  rw [d1,d2,d3,d4] at hdd
  cases b1<;>cases b2<;>cases b3<;>cases b4
  all_goals first
   | (exfalso;revert hdd;decide)
   | (repeat' (first|(refine zsk ?_;intro K' hK)|(refine zrt 28 (wj _ _ _ _ _ _) (xY _ _ _ _ _ _) ?_;intro K' hK)|refine zsp ?_|(refine zsc ?_ ?_<;>intro hc<;>first|exact znh|try simp only [znz] at hc)|simp (maxSteps:=1000000) only [go_sem,w1,w2,w3,lm1,lm2,lm3,lm4,lm5,lm6,d1,d2,d3,d4,Vm]|(refine hK _ ?_;clear hK K')|apply zan|((first|apply Ql|apply Qi);(focus first|exact hA|exact EvN.b z0|exact (z5 _ _ _ zsd zsd).b|exact (z6 _ _ _ zsd zsd).b|exact (z7 _ _).b|exact (z8 _ _).b|exact (z9 _ _ zsd).b|exact (z10 _ _ _).b|exact (z11 _ _ _).b))|exact zsq|fail)
      all_goals first|exact zr|trace_state)
end Av
end
