/- Calls whose arguments show objects from within. -/
import Derived.Test.YtjnbmkoekngljaaGreatDoorK21
import Derived.Test.YtjnbmkoekngljaaGreatDoorK20
import Derived.Test.YtjnbmkoekngljaaGreatDoorK19
import Derived.KernelRfl
import Derived.Test.YtjnbmkoekngljaaGreatDoorK14
set_option linter.unusedVariables false
set_option linter.unusedSimpArgs false
section
set_option maxRecDepth 10000
set_option maxHeartbeats 4000000
namespace Av
open Go
attribute [local irreducible] AWp x8 adc afE awS awC am1 awQ anX Yf abo ama awR acg awB okR agS ris
def aox (l:List Vq) (name:List UInt8):List Vq:=l.filter fun x=>x.sec == name
def afp (d:QM) (x:Vq):Option QM :=
 if x.name = [108,101,97,115,116] then (if avw x.val = true then some { d with least:=wS x.val } else none)
 else if x.name = [109,111,115,116] then (if avw x.val = true then some { d with most:=wS x.val } else none)
 else if x.name = [115,117,105,116,101,115] then (if ((aa8 x.val).2.2 == 0) = true then some { d with suites:=(aa8 x.val).1 } else none)
 else if x.name = [111,114,100,101,114] then (if (x.val == [111,119,110] || x.val == [99,108,105,101,110,116]) = true then some { d with own:=x.val == [111,119,110] } else none)
 else if x.name = [102,97,108,108,98,97,99,107] then (if (x.val == [121,101,115] || x.val == [110,111]) = true then some { d with fall:=x.val == [121,101,115] } else none)
 else none
def arw:List Vq→QM→Option QM
 | [],d=>some d
 | x :: r,d=>if r.any (fun y=>y.name == x.name) = true then arw r d else (afp d x).bind (arw r)
def asV (s:List UInt8):Prop:=s = [108,101,97,115,116]∨s = [109,111,115,116]∨s = [115,117,105,116,101,115]∨s = [111,114,100,101,114]∨s = [102,97,108,108,98,97,99,107]
def ep0:Ob:=.box true [V.str [],V.int 0,V.int 0,.hd 2 0 0,V.bool false,.hd 3 0 0,.hd 4 0 0,.hd 5 0 0,V.bool false]
def fsO (own:List Vq):List (Nat×Ob):=[(0,ep0),(1,.buf true 4 (own.map Vq.v)),(2,.buf true 1 []),(3,.buf true 4 []),(4,.buf true 1 []),(5,.buf true 1 [])]
def qR (g1 g2 g3 g4 g5 g6 g7 g8:Nat):List V:=[.clo (.n g1) [.ptr 8 0],.clo (.n g2) [.ptr 8 0],.clo (.m g3) [.ptr 6 0],.clo (.n g4) [.ptr 8 0],.clo (.m g5) [.ptr 6 0],.clo (.n g6) [.ptr 8 0],.clo (.n g7) [.ptr 8 0],.clo (.n g8) [.ptr 8 0]]
def ait (own:List Vq) (ws:List V) (d:QM):List (Nat×Ob):=[(0,ep0),(1,.buf true 4 (own.map Vq.v)),(2,.buf true 1 []),(3,.buf true 4 []),(4,.buf true 1 []),(5,.buf true 1 []),(6,.box true d.cells),(7,.map ae2 ws 0),(8,.box true [.ptr 6 0])]
theorem asZ {l:List Vq} {name:List UInt8} {k:Nat} {x:Vq} (h:l[k]? = some x):aox (l.take (k + 1)) name = if (x.sec == name) = true then aox (l.take k) name++[x] else aox (l.take k) name:=by
 rw [List.take_add_one,h,aox,List.filter_append]
 by_cases hx:(x.sec == name) = true
 ·rw [if_pos hx];simp [aox,hx]
 ·rw [if_neg hx];simp [aox,hx]
theorem as0 (l:List Vq) (name:List UInt8):(aox l name).length≤l.length:=List.length_filter_le _ _
theorem amw {s:List UInt8} (h:asV s):∃ i,((i = 0∧s = [108,101,97,115,116])∨(i = 1∧s = [109,111,115,116])∨(i = 2∧s = [115,117,105,116,101,115])∨(i = 3∧s = [111,114,100,101,114])∨(i = 7∧s = [102,97,108,108,98,97,99,107]))∧VO false [1] (V.str s) ae2 0 = some (some i):=by
 rcases h with h|h|h|h|h
 ·exact ⟨0,.inl ⟨rfl,h⟩,h ▸ kG0⟩
 ·exact ⟨1,.inr (.inl ⟨rfl,h⟩),h ▸ kG1⟩
 ·exact ⟨2,.inr (.inr (.inl ⟨rfl,h⟩)),h ▸ kG2⟩
 ·exact ⟨3,.inr (.inr (.inr (.inl ⟨rfl,h⟩))),h ▸ kG3⟩
 ·exact ⟨7,.inr (.inr (.inr (.inr ⟨rfl,h⟩))),h ▸ kG7⟩
theorem wT {d:QM} {x:Vq} {r:List Vq} {e:QM} {c:Bool} {d':QM} (ha:afp d x = if c = true then some d' else none) (h:(afp d x).bind (arw r) = some e):c = true∧arw r d' = some e:=by
 rw [ha] at h
 cases c with
 | false=>cases h
 | true=>exact ⟨rfl,h⟩
theorem asL {s:List UInt8} (h:asV s):axV s = false:=by rcases h with rfl|rfl|rfl|rfl|rfl<;>decide
theorem axc {a b:Nat}:sig [a] b 0 = a:=rfl
theorem axb {a b:Nat}:sig [a] b 2 = b + 1:=rfl
def US:List AO:=[xo 62 (.build [vs0,vi0,vi0,vn0,(.bool false),vn0,vn0,vn0,(.bool false)] []),fa 63 3 16,ld 64 1 63,xs 9 6 62,mv 7 64,mc 8 (V.int 17)]
def UX:List (List Nat):=[[],[],[1],[0,0],[2,3,0,1,2,3],[4,0,1,2,3,4]]
def UI:OT:=.one 0 (.one 1 (.or 2 (.one 3 (.one 4 (.one 5 .done))) (.or 3 (.one 2 (.one 4 (.one 5 .done))) .done)))
@[go_sem] def UP:OP:=oN 0 (xo 62 (.build [vs0,vi0,vi0,vn0,(.bool false),vn0,vn0,vn0,(.bool false)] [])) (oN 1 (fa 63 3 16) (.or 2 true [] (ld 64 1 63) (.one 3 true [] (xs 9 6 62) (oN 4 (mv 7 64) (oN 5 (mc 8 (V.int 17)) .done))) (.or 3 true [] (xs 9 6 62) (.one 2 true [] (ld 64 1 63) (oN 4 (mv 7 64) (oN 5 (mc 8 (V.int 17)) .done))) .done)))
instance:RG [2] UI (UP) (US) UX 6 (fun _=>false):=⟨rfl,by kernel_rfl,by kernel_rfl⟩
def UR (Qh Jq:Nat):List AO:=[mv 74 10,mv 75 17,bc 76 .add 75 (V.int 1),xo 77 (.slsl 4 (.t 74) (some (.t 76)) none),mv 78 19,cl 79 Qh [77,78],xo 80 (.un .not (.t 79)),mv 81 80,mg 82 14 81 true,xg 83 (.faddr 1 (.t 18)) 81 true,xg 84 (.load false 1 (.t 83)) 81 true,xg 85 (.mapget false false [.nilFunc] false [1] (.t 82) (.t 84)) 81 true,xg 86 (.load true 4 (.t 18)) 81 true,xg 87 (.call Jq [(.t 86)]) 81 true,xg 88 (.callv (.t 85) [(.t 87)]) 81 true,xg 89 (.un .not (.t 88)) 81 true,xo 90 (.pick (.t 81) (.t 89) (.c (V.bool false)))]
def UW:List (List Nat):=[[],[],[1],[0,2],[],[3,4],[5],[6,5],[7],[7],[9,7],[8,10,7],[7],[12,7,7],[11,13,13,7],[14,7],[7,15]]
def UH:OT:=.one 0 (.one 1 (.one 2 (.one 3 (.one 4 (.one 5 (.one 6 (.one 7 (.one 8 (.one 9 (.one 10 (.one 11 (.one 12 (.one 13 (.one 14 (.one 15 (.one 16 .done))))))))))))))))
@[go_sem] def UO (Qh Jq:Nat):OP:=oN 0 (mv 74 10) (oN 1 (mv 75 17) (oN 2 (bc 76 .add 75 (V.int 1)) (oN 3 (xo 77 (.slsl 4 (.t 74) (some (.t 76)) none)) (oN 4 (mv 78 19) (oN 5 (cl 79 Qh [77,78]) (oN 6 (xo 80 (.un .not (.t 79))) (oN 7 (mv 81 80) (oN 8 (mg 82 14 81 true) (oN 9 (xg 83 (.faddr 1 (.t 18)) 81 true) (.one 10 false [5] (xg 84 (.load false 1 (.t 83)) 81 true) (.one 11 false [5] (xg 85 (.mapget false false [.nilFunc] false [1] (.t 82) (.t 84)) 81 true) (.one 12 false [5] (xg 86 (.load true 4 (.t 18)) 81 true) (.one 13 false [5] (xg 87 (.call Jq [(.t 86)]) 81 true) (.one 14 true [13,5] (xg 88 (.callv (.t 85) [(.t 87)]) 81 true) (oN 15 (xg 89 (.un .not (.t 88)) 81 true) (oN 16 (xo 90 (.pick (.t 81) (.t 89) (.c (V.bool false)))) .done))))))))))))))))
instance (Qh Jq:Nat):RG [14] UH (UO Qh Jq) (UR Qh Jq) UW 17 (fun y=>!decide (y = 6) && !decide (y = 8)):=⟨rfl,by kernel_rfl,by kernel_rfl⟩
def UQ:List AO:=[xo 91 (.build [vs0,vi0,vi0,vn0,(.bool false),vn0,vn0,vn0,(.bool false)] []),fa 92 3 18,ld 93 1 92,xs 9 6 91,mv 7 93,mc 8 (V.int 18)]
def UV:List (List Nat):=[[],[],[1],[0,0],[2,3,0,1,2,3],[4,0,1,2,3,4]]
def UG:OT:=.one 0 (.one 1 (.or 2 (.one 3 (.one 4 (.one 5 .done))) (.or 3 (.one 2 (.one 4 (.one 5 .done))) .done)))
@[go_sem] def UN:OP:=oN 0 (xo 91 (.build [vs0,vi0,vi0,vn0,(.bool false),vn0,vn0,vn0,(.bool false)] [])) (oN 1 (fa 92 3 18) (.or 2 true [] (ld 93 1 92) (.one 3 true [] (xs 9 6 91) (oN 4 (mv 7 93) (oN 5 (mc 8 (V.int 18)) .done))) (.or 3 true [] (xs 9 6 91) (.one 2 true [] (ld 93 1 92) (oN 4 (mv 7 93) (oN 5 (mc 8 (V.int 18)) .done))) .done)))
instance:RG [2] UG (UN) (UQ) UV 6 (fun _=>false):=⟨rfl,by kernel_rfl,by kernel_rfl⟩
def Vd (U3 U4 XE Yp Qh Jq Xq:Nat):AC:=Qa [0,1,2,6] (.reg [xo 6 (.alloc [.val vs0,.val vi0,.val vi0,.nil 1,.val (.bool false),.nil 4,.nil 1,.nil 1,.val (.bool false)]),mc 7 (V.int 0),mc 8 (V.int 0)]) (Qa [0,1,2,6] (Qa [0,1,2,6,9] (.reg [mv 20 1,mv 21 2,cl 22 U3 [20,21],mv 9 22]) (Qa [0,1,2,6,9,24] (.reg [mv 23 9,bc 24 .neq 23 (V.int 0)]) (.cond (.t 24) (Qa [6,7,8] (.reg [xo 25 (.build [vs0,vi0,vi0,vn0,(.bool false),vn0,vn0,vn0,(.bool false)] []),mv 26 9,xs 9 6 25,mc 7 (V.int 0),mv 8 26]) .ret) .skip))) (Qa [0,1,2,6,10] (.reg [xo 10 (.mknil 4)]) (Qa [1,2,6,10] (Qa [1,2,6,10,27,28,29] (.reg [mv 27 0,ln 28 27,mc 29 (V.int 0)]) (.block 0 (JH [1,2,6,10,27,28,29] (Qa [1,2,6,10,27,28,29,30] (.reg [bn 30 .lss 29 28]) (Qa [1,2,6,10,27,28,29] (.cond (.t 30) .skip (.exit 0)) (Qa [1,2,6,10,27,28,29] (.block 1 (Qa [1,2,6,10,12,27,28,29] (.reg [ia 31 4 27 29,xo 32 (.load true 4 (.t 31)),xo 12 (.alloc [.val vs0,.val vs0,.val vs0,.val vi0]),xs 4 12 32]) (Qa [1,2,6,10,12,27,28,29,36] (.reg [fa 33 0 12,ld 34 1 33,mv 35 1,bn 36 .eql 34 35]) (.cond (.t 36) (.reg [mv 37 10,xo 38 (.load true 4 (.t 12)),xo 39 (.bslice 1 4 true [vs0,vs0,vs0,vi0] [(0,(.t 38))]),xo 40 (.append 4 56 [vs0,vs0,vs0,vi0] (.t 37) (.t 39)),mv 10 40]) .skip)))) (.reg [bc 41 .add 29 (V.int 1),mv 29 41]))))))) (Qa [1,2,6,10] (Qa [1,2,6,10,44] (.reg [mv 42 10,ln 43 42,bc 44 .eql 43 (V.int 0)]) (.cond (.t 44) (Qa [6,7,8] (.reg [xo 45 (.build [vs0,vi0,vi0,vn0,(.bool false),vn0,vn0,vn0,(.bool false)] []),xs 9 6 45,mc 7 (V.int 0),mc 8 (V.int 4)]) .ret) .skip)) (Qa [6,10,13] (.reg [mv 46 1,mv 47 2,cl 48 U4 [46,47],mv 13 48]) (Qa [6,10,13,14] (.reg [mv 49 13,cl 50 XE [49],mv 14 50]) (Qa [6,10,13,14] (Qa [6,10,13,14,51,52,53] (.reg [mv 51 10,ln 52 51,mc 53 (V.int 0)]) (.block 2 (JH [6,10,13,14,51,52,53] (Qa [6,10,13,14,51,52,53,54] (.reg [bn 54 .lss 53 52]) (Qa [6,10,13,14,51,52,53] (.cond (.t 54) .skip (.exit 2)) (Qa [6,10,13,14,51,52,53] (.block 3 (Qa [6,10,13,14,16,51,52,53] (.reg [ia 55 4 51 53,xo 56 (.load true 4 (.t 55)),xo 16 (.alloc [.val vs0,.val vs0,.val vs0,.val vi0]),xs 4 16 56]) (Qa [6,10,13,14,16,51,52,53,61] (.reg [mv 57 14,fa 58 1 16,ld 59 1 58,xo 60 (.mapget false false [.nilFunc] false [1] (.t 57) (.t 59)),xo 61 (.isnilF false (.t 60))]) (.cond (.t 61) (Qa [6,7,8] (yh [2] UI (UP) (US) UX) .ret) .skip)))) (.reg [bc 65 .add 53 (V.int 1),mv 53 65]))))))) (Qa [6,13] (Qa [6,10,13,14,66,67,68] (.reg [mv 66 10,ln 67 66,mc 68 (V.int 0)]) (.block 4 (JH [6,10,13,14,66,67,68] (Qa [6,10,13,14,66,67,68,69] (.reg [bn 69 .lss 68 67]) (Qa [6,10,13,14,66,67,68] (.cond (.t 69) .skip (.exit 4)) (Qa [6,10,13,14,66,67,68] (.block 5 (Qa [6,10,13,14,17,18,66,67,68] (.reg [mv 70 68,ia 71 4 66 68,xo 72 (.load true 4 (.t 71)),xo 18 (.alloc [.val vs0,.val vs0,.val vs0,.val vi0]),mv 17 70,xs 4 18 72]) (Qa [6,10,13,14,17,18,19,66,67,68] (.reg [xo 73 (.mkfn Yp [(.t 18)]),mv 19 73]) (Qa [6,10,13,14,18,66,67,68,90] (yh [14] UH (UO Qh Jq) (UR Qh Jq) UW) (.cond (.t 90) (Qa [6,7,8] (yh [2] UG (UN) (UQ) UV) .ret) .skip))))) (.reg [bc 94 .add 68 (V.int 1),mv 68 94]))))))) (Qa [6,7,8] (.reg [mv 95 13,cl 96 Xq [95],ex 97 96 0,ex 98 96 1,ex 99 96 2,xs 9 6 97,mv 7 98,mv 8 99]) .ret))))))))) def r_endpoint_FromSettings:List Jl:=[.cell 6 true 9,.tmp 7,.tmp 8]
def WQ (Γ:Env) (f:Nat):Prop:=∀ (l:List Vq) (name:List UInt8) (d:QM) (hs:name.length < 2 ^ 30) (hn:aby name = true) (hl:l.length < 2 ^ 30) (hv:∀ x∈l,x.val.length < 2 ^ 30) (hw:∀ x∈aox l name,asV x.name) (ho:aox l name≠[]) (hr:arw (aox l name) ⟨name,1,4,aw1,false,false⟩ = some d),EvC Γ f [.sl 4 (l.map Vq.v),V.str name,.sc (.slice none 0 0)] (au1 d)
attribute [local go_sem] List.length_cons List.length_nil List.map_cons List.map_nil List.take_succ_cons List.take_zero Vq.cells Vq.v V.ren ep0 fsO ait QZ vO axc axb in
theorem abm {Γ:Env} {f U3 U4 XE Yp Qh Jq Xq:Nat} (h:Has Γ.P f 100 (Vd U3 U4 XE Yp Qh Jq Xq) r_endpoint_FromSettings) (z0:jD Γ U3) (z1:jE Γ U4) (z2:WP Γ XE) (z3:X1 Γ Yp) (z4:Jw Γ Qh) (z5:qE Γ Jq) (z6:Wt Γ Xq):WQ Γ f:=by
 intro l name d hs hn hl hv hw ho hr
 refine QV h zsi (akV d) fun C hC hm=>?_
 subst hC
 unfold Vd
 refine zgo ?_;repeat' first|exact zt|apply zan|intro hc
 refine QY (ι:=Nat) (fun k=>k≤l.length) (fun k=>QZ [(1,V.str name),(2,nS),(6,.ptr 0 0),(10,.hd 1 0 (aox (l.take k) name).length),(27,.sl 4 (l.map Vq.v)),(28,V.int l.length),(29,V.int k)] (fsO (aox (l.take k) name)) 6) (fun k=>l.length - k) 0 (Nat.zero_le _) (Qk [(1,9000),(2,4),(3,6),(4,7),(5,8)]) (QR [(1,9000),(2,4),(3,6),(4,7),(5,8)] (by simp only [go_sem,zwl,fsO,ep0,List.length_map]<;>exact zcc) (by simp only [go_sem,zwl,fsO,ep0]<;>exact zcc) (by simp [fsO,Qk]) (by simp [fsO];omega) (by omega)) fun k hk K' hL=>?_
 rcases hdr:l.drop k with _|⟨x,r⟩
 ·have hkl:=Qs hdr
  have e1:decide ((k:Int) < ((l.length:Nat):Int)) = false:=by simp;omega
  rw [List.take_of_length_le hkl]
  have hol:=as0 l name
  have hmem:∀ x∈aox l name,x.val.length < 2 ^ 30:=fun x hx=>hv x (List.mem_filter.1 hx).1
  generalize aox l name = own at *
  have hpos:0 < own.length:=List.length_pos_iff.2 ho
  have e2:(((own.length:Nat):Int) == 0) = false:=by simp;omega
  obtain ⟨g1,g2,g3,g4,g5,g6,g7,g8,c1,c2,c3,c4,c8,hJ⟩:=z2
  have hJ0:=hJ _ (QM.cells_closed ⟨name,1,4,aw1,false,false⟩)
  (have zx:=And.intro e1 e2);refine zgo ?_;repeat' first|exact zt|apply zan|intro hc
  have hws:∃ ws,ws = qR g1 g2 g3 g4 g5 g6 g7 g8:=⟨_,rfl⟩
  refine QY (ι:=Nat) (fun k=>k≤own.length) (fun k=>QZ [(6,.ptr 0 0),(10,.hd 1 0 own.length),(13,.ptr 6 0),(14,.mp 7),(51,.hd 1 0 own.length),(52,V.int own.length),(53,V.int k)] (ait own (qR g1 g2 g3 g4 g5 g6 g7 g8) ⟨name,1,4,aw1,false,false⟩) 9) (fun k=>own.length - k) 0 (Nat.zero_le _) (Qk [(6,6006),(7,9006),(8,9007)]) (QR [(6,6006),(7,9006),(8,9007)] (by simp only [go_sem,zwl,ait,ep0,qR]<;>exact zcc) (by simp only [go_sem,zwl,ait,ep0,qR,QM.cells]<;>exact zcc) (by simp [ait,Qk]) (by simp [ait];omega) (by omega)) fun k hk K2 hL2=>?_
  rcases hdo:own.drop k with _|⟨x,r⟩
  ·have hkl:=Qs hdo
   have e3:decide ((k:Int) < ((own.length:Nat):Int)) = false:=by simp;omega
   (have zx:=e3);refine zgo ?_;repeat' first|exact zt|apply zan|intro hc
   refine QY (ι:=Nat×QM) (fun q=>q.1≤own.length∧arw (own.drop q.1) q.2 = some d) (fun q=>QZ [(6,.ptr 0 0),(10,.hd 1 0 own.length),(13,.ptr 6 0),(14,.mp 7),(66,.hd 1 0 own.length),(67,V.int own.length),(68,V.int q.1)] (ait own (qR g1 g2 g3 g4 g5 g6 g7 g8) q.2) 9) (fun q=>own.length - q.1) (0,⟨name,1,4,aw1,false,false⟩) ⟨Nat.zero_le _,hr⟩ (Qk []) (QR [] (by simp only [go_sem,zwl,ait,ep0,qR]<;>exact zcc) (by simp only [go_sem,zwl,ait,ep0,qR,QM.cells]<;>exact zcc) (by simp [ait,Qk]) (by simp [ait]) (by omega)) fun q hq K3 hL3=>?_
   obtain ⟨j,dk⟩:=q
   simp only at hq hL3 ⊢
   obtain ⟨hj,hrun⟩:=hq
   clear hL2 hL
   rcases hdj:own.drop j with _|⟨x,r⟩
   ·have hjl:=Qs hdj
    have e4:decide ((j:Int) < ((own.length:Nat):Int)) = false:=by simp;omega
    rw [hdj] at hrun
    obtain rfl:dk = d:=by simpa [arw] using hrun
    have hfi:=z6 dk
    by_cases hle:dk.least≤dk.most
    ·rw [au1,if_pos hle] at hfi ⊢
     simp only [QM.ep] at hfi ⊢
     (have zx:=e4);exact zg
    ·rw [au1,if_neg hle] at hfi ⊢
     (have zx:=e4);exact zg
   ·obtain ⟨hj',hgj,hrj⟩:=Ql hdj
    have hwj:=Qj (k:=j) (by omega)
    have e4:decide ((j:Int) < ((own.length:Nat):Int)) = true:=by simp;omega
    have hxm:=List.mem_of_getElem? hgj
    have hvx:=hmem x hxm
    have hcf:=(z4 (own.drop (j + 1)) Yp [.ro x.cells 0] (fun y=>y.name == x.name) (fun y _=>z3 y x) (by simp [V.closed,closedL]) (by simp;omega)).b
    rw [hdj,arw] at hrun
    rw [← hrj] at hrun
    have hsl:List.take (own.length - (j + 1)) (List.drop (j + 1) (List.map Vq.v own)) = (own.drop (j + 1)).map Vq.v:=by
     rw [List.take_of_length_le (by simp),List.map_drop]
    have hw2:IntKind.i64.wrap ((j:Int) + 1) = ((j + 1:Nat):Int):=hwj
    simp only [Vq.cells] at hcf
    obtain ⟨i,hi,hnm⟩:=amw (hw x hxm)
    rcases hag:(own.drop (j + 1)).any (fun y=>y.name == x.name) with _|_
    ·rw [hag,if_neg (by decide)] at hrun
     rw [hag] at hcf
     have hva:=z5 x (asL (hw x hxm))
     simp only [Vq.v,Vq.cells] at hva
     have hcase:(∃ i g e,VO false [1] (V.str x.name) ae2 0 = some (some i)∧(qR g1 g2 g3 g4 g5 g6 g7 g8)[i]? = some (.clo (.n g) [.ptr 8 0])∧EvH C.env g (.sl 1 [V.str x.val]) dk.cells (V.bool true) (QM.cells e)∧arw (own.drop (j + 1)) e = some d)∨(∃ e,VO false [1] (V.str x.name) ae2 0 = some (some 2)∧EvD C.env g3 [.sl 1 [V.str x.val]] dk.cells (V.bool true) (QM.cells e)∧arw (own.drop (j + 1)) e = some d):=by
      rcases hi with ⟨rfl,hnn⟩|⟨rfl,hnn⟩|⟨rfl,hnn⟩|⟨rfl,hnn⟩|⟨rfl,hnn⟩
      ·obtain ⟨hok,hrun'⟩:=wT (by rw [afp,if_pos hnn]) hrun
       have hH:=c1 x.val dk hvx
       rw [hok] at hH
       exact .inl ⟨0,g1,_,hnm,rfl,hH,hrun'⟩
      ·obtain ⟨hok,hrun'⟩:=wT (by rw [afp,if_neg (by rw [hnn];decide),if_pos hnn]) hrun
       have hH:=c2 x.val dk hvx
       rw [hok] at hH
       exact .inl ⟨1,g2,_,hnm,rfl,hH,hrun'⟩
      ·obtain ⟨hok,hrun'⟩:=wT (by rw [afp,if_neg (by rw [hnn];decide),if_neg (by rw [hnn];decide),if_pos hnn]) hrun
       have hH:=c3 x.val dk hvx
       rw [hok] at hH
       exact .inr ⟨_,hnm,hH,hrun'⟩
      ·obtain ⟨hok,hrun'⟩:=wT (by rw [afp,if_neg (by rw [hnn];decide),if_neg (by rw [hnn];decide),if_neg (by rw [hnn];decide),if_pos hnn]) hrun
       have hH:=c4 x.val dk
       rw [hok] at hH
       exact .inl ⟨3,g4,_,hnm,rfl,hH,hrun'⟩
      ·obtain ⟨hok,hrun'⟩:=wT (by rw [afp,if_neg (by rw [hnn];decide),if_neg (by rw [hnn];decide),if_neg (by rw [hnn];decide),if_neg (by rw [hnn];decide),if_pos hnn]) hrun
       have hH:=c8 x.val dk
       rw [hok] at hH
       exact .inl ⟨7,g8,_,hnm,rfl,hH,hrun'⟩
     clear hi hnm
     rcases hcase with ⟨i,g,e,hnm,hcl,hH,hrun'⟩|⟨e,hnm,hH,hrun'⟩
     ·(have zx:=And.intro e4 (And.intro hwj (And.intro hw2 (And.intro hsl (And.intro hgj (And.intro hnm hcl))))));refine zgo ?_;repeat' first|exact zt|apply zan|intro hc
      all_goals first|exact hL3 _ (j + 1,e) (Qk []) ⟨by simp only;omega,hrun'⟩ (by simp only;omega) (QR [] (by simp only [go_sem,zwl,ait,ep0,qR]<;>exact zcc) (by simp only [go_sem,zwl,ait,ep0,qR,QM.cells]<;>exact zcc) (by simp [ait,Qk]) (by simp [ait]) (by omega))
     ·have hcl:(qR g1 g2 g3 g4 g5 g6 g7 g8)[2]? = some (.clo (.m g3) [.ptr 6 0]):=rfl
      (have zx:=And.intro e4 (And.intro hwj (And.intro hw2 (And.intro hsl (And.intro hgj (And.intro hnm hcl))))));refine zgo ?_;repeat' first|exact zt|apply zan|intro hc
      all_goals first|exact hL3 _ (j + 1,e) (Qk []) ⟨by simp only;omega,hrun'⟩ (by simp only;omega) (QR [] (by simp only [go_sem,zwl,ait,ep0,qR]<;>exact zcc) (by simp only [go_sem,zwl,ait,ep0,qR,QM.cells]<;>exact zcc) (by simp [ait,Qk]) (by simp [ait]) (by omega))
    ·rw [hag,if_pos rfl] at hrun
     rw [hag] at hcf
     have hrun':=hrun
     (have zx:=And.intro e4 (And.intro hwj (And.intro hw2 (And.intro hsl hgj))));refine zgo ?_;repeat' first|exact zt|apply zan|intro hc
     all_goals first|exact hL3 _ (j + 1,dk) (Qk []) ⟨by simp only;omega,hrun'⟩ (by simp only;omega) (QR [] (by simp only [go_sem,zwl,ait,ep0,qR]<;>exact zcc) (by simp only [go_sem,zwl,ait,ep0,qR,QM.cells]<;>exact zcc) (by simp [ait,Qk]) (by simp [ait]) (by omega))
  ·obtain ⟨hk',hget,hrr⟩:=Ql hdo
   have hwi:=Qj (k:=k) (by omega)
   have e3:decide ((k:Int) < ((own.length:Nat):Int)) = true:=by simp;omega
   have hwx:=hw x (List.mem_of_getElem? hget)
   obtain ⟨i,hi,hnm⟩:=amw hwx
   obtain ⟨fk,cc,hcl⟩:∃ fk cc,(qR g1 g2 g3 g4 g5 g6 g7 g8)[i]? = some (.clo fk cc):=by
    rcases hi with ⟨rfl,_⟩|⟨rfl,_⟩|⟨rfl,_⟩|⟨rfl,_⟩|⟨rfl,_⟩<;>exact ⟨_,_,rfl⟩
   clear hi hwx
   (have zx:=And.intro e3 (And.intro hwi (And.intro hget (And.intro hnm hcl))));refine zgo ?_;repeat' first|exact zt|apply zan|intro hc
   all_goals first|exact hL2 _ (k + 1) (Qk []) (by omega) (by omega) (QR [] (by simp only [go_sem,zwl,ait,ep0,qR]<;>exact zcc) (by simp only [go_sem,zwl,ait,ep0,qR,QM.cells]<;>exact zcc) (by simp [ait,Qk]) (by simp [ait]) (by omega))
 ·obtain ⟨hk',hget,hrr⟩:=Ql hdr
  have hwi:=Qj (k:=k) (by omega)
  have e1:decide ((k:Int) < ((l.length:Nat):Int)) = true:=by simp;omega
  have hot:=asZ (name:=name) hget
  have hol:=as0 (l.take k) name
  have hlt:(l.take k).length≤k:=by simp;omega
  rcases hx:x.sec == name with _|_
  ·rw [hx,if_neg (by decide)] at hot
   (have zx:=And.intro e1 (And.intro hwi (And.intro hget hx)));refine zgo ?_;repeat' first|exact zt|apply zan|intro hc
   all_goals first|exact hL _ (k + 1) (Qk []) (by omega) (by omega) (by rw [hot];exact QR [] (by simp only [go_sem,zwl,fsO,ep0]<;>exact zcc) (by simp only [go_sem,zwl,fsO,ep0]<;>exact zcc) (by simp [fsO,Qk]) (by simp [fsO]) (by omega))
  ·rw [hx,if_pos rfl] at hot
   generalize aox (l.take k) name = own at *
   (have zx:=And.intro e1 (And.intro hwi (And.intro hget hx)));refine zgo ?_;repeat' first|exact zt|apply zan|intro hc
   have hap:List.take own.length (List.map Vq.v own)++[V.agg [V.str x.sec,V.str x.name,V.str x.val,V.int x.line]] = (own++[x]).map Vq.v:=by
    rw [List.take_of_length_le (by simp),List.map_append];rfl
   have hln:own.length + 1 = (own++[x]).length:=by simp
   rw [hap,hln]
   all_goals first|exact hL _ (k + 1) (Qk [(1,12006)]) (by omega) (by omega) (by rw [hot];exact QR [(1,12006)] (by simp only [go_sem,zwl,fsO,ep0]<;>exact zcc) (by simp only [go_sem,zwl,fsO,ep0]<;>exact zcc) (by simp [fsO,Qk]) (by simp [fsO];omega) (by omega))
theorem aow:aa8 [104,105,103,104,58,33,114,115,97] = ([9,11,14,15,16],0,0):=by decide +kernel
def acd (XF QF:Nat):AC:=Qa [] (.reg [mc 0 (V.bool false)]) (Qa [1,2,3] (.reg [xo 5 (.build [vs0,vs0,vs0,vi0] [(0,1,(.c (V.str [119,101,98]))),(1,1,(.c (V.str [109,111,115,116]))),(2,1,(.c (V.str [51])))]),xo 6 (.build [vs0,vs0,vs0,vi0] [(0,1,(.c (V.str [119,101,98]))),(1,1,(.c (V.str [115,117,105,116,101,115]))),(2,1,(.c (V.str [104,105,103,104,58,33,114,115,97])))]),xo 7 (.bslice 2 4 true [vs0,vs0,vs0,vi0] [(0,(.t 5)),(1,(.t 6))]),xo 8 (.call XF [(.t 7),(.c (V.str [119,101,98])),(.c (.sc vn0))]),mv 4 8,ex 9 4 0,ex 10 4 1,ex 11 4 2,xo 1 (.alloc [.val vs0,.val vi0,.val vi0,.nil 1,.val (.bool false),.nil 4,.nil 1,.nil 1,.val (.bool false)]),xs 9 1 9,mv 2 10,mv 3 11]) (Qa [0] (.reg [mv 12 3,bc 13 .eql 12 (V.int 0),mv 14 13,mg 15 2 14 true,xg 16 (.bin .eql (.t 15) (.c (V.int 0))) 14 true,xo 17 (.pick (.t 14) (.t 16) (.c (V.bool false))),mv 18 17,xg 19 (.faddr 0 (.t 1)) 18 true,xg 20 (.load false 1 (.t 19)) 18 true,xg 21 (.bin .eql (.t 20) (.c (V.str [119,101,98]))) 18 true,xo 22 (.pick (.t 18) (.t 21) (.c (V.bool false))),mv 23 22,xg 24 (.faddr 1 (.t 1)) 23 true,xg 25 (.load false 1 (.t 24)) 23 true,xg 26 (.bin .eql (.t 25) (.c (V.int 1))) 23 true,xo 27 (.pick (.t 23) (.t 26) (.c (V.bool false))),mv 28 27,xg 29 (.faddr 2 (.t 1)) 28 true,xg 30 (.load false 1 (.t 29)) 28 true,xg 31 (.bin .eql (.t 30) (.c (V.int 3))) 28 true,xo 32 (.pick (.t 28) (.t 31) (.c (V.bool false))),mv 33 32,xg 34 (.faddr 3 (.t 1)) 33 true,xg 35 (.load false 1 (.t 34)) 33 true,xg 36 (.lenL (.t 35)) 33 true,xg 37 (.bin .gtr (.t 36) (.c (V.int 0))) 33 true,xo 38 (.pick (.t 33) (.t 37) (.c (V.bool false))),mv 39 38,xg 40 (.load true 9 (.t 1)) 39 true,xg 41 (.call QF [(.t 40)]) 39 true,xg 42 (.bin .eql (.t 41) (.c (V.int 0))) 39 true,xo 43 (.pick (.t 39) (.t 42) (.c (V.bool false))),mv 0 43]) .ret)) def r_law09_awake:List Jl:=[.tmp 0]
def aa3 (Γ:Env) (f:Nat):Prop:=EvN Γ f [] (V.bool true)
theorem al5 {Γ:Env} {f XF QF:Nat} (h:Has Γ.P f 44 (acd XF QF) r_law09_awake) (z0:WQ Γ XF) (z1:WR Γ QF):aa3 Γ f:=by
 refine Qe h zsi zcl zcl fun C hC hm=>?_
 subst hC
 unfold acd
 have hrun:arw (aox [⟨[119,101,98],[109,111,115,116],[51],0⟩,⟨[119,101,98],[115,117,105,116,101,115],[104,105,103,104,58,33,114,115,97],0⟩] [119,101,98]) ⟨[119,101,98],1,4,aw1,false,false⟩ = some ⟨[119,101,98],1,3,[9,11,14,15,16],false,false⟩:=by
  have hv:avw [51] = true:=by decide +kernel
  have ha:wS [51] = 3:=by decide +kernel
  have ho:aox [⟨[119,101,98],[109,111,115,116],[51],0⟩,⟨[119,101,98],[115,117,105,116,101,115],[104,105,103,104,58,33,114,115,97],0⟩] [119,101,98] = [⟨[119,101,98],[109,111,115,116],[51],0⟩,⟨[119,101,98],[115,117,105,116,101,115],[104,105,103,104,58,33,114,115,97],0⟩]:=rfl
  rw [ho]
  have n1:([⟨[119,101,98],[115,117,105,116,101,115],[104,105,103,104,58,33,114,115,97],0⟩]:List Vq).any (fun y=>y.name == [109,111,115,116]) = false:=rfl
  rw [arw,if_neg (by rw [n1];decide),afp,if_neg (by decide),if_pos rfl,if_pos hv,ha,Option.bind_some,arw,if_neg (by decide),afp,if_neg (by decide),if_neg (by decide),if_pos rfl,aow]
  rfl
 have hf:=(z0 [⟨[119,101,98],[109,111,115,116],[51],0⟩,⟨[119,101,98],[115,117,105,116,101,115],[104,105,103,104,58,33,114,115,97],0⟩] [119,101,98] _ (by decide) (by decide +kernel) (by decide) (fun x hx=>by
  simp only [List.mem_cons,List.not_mem_nil,or_false] at hx
  rcases hx with rfl|rfl<;>decide) (fun x hx=>by
  have hx:=(List.mem_filter.1 hx).1
  simp only [List.mem_cons,List.not_mem_nil,or_false] at hx
  rcases hx with rfl|rfl
  ·exact .inr (.inl rfl)
  ·exact .inr (.inr (.inl rfl))) (by decide) hrun)
 have hk0:=(z1 ⟨[119,101,98],1,3,[9,11,14,15,16],false,[],[],[],false⟩ ⟨by decide,by decide,by decide,fun x hx=>by simp at hx,by decide,by decide⟩).b
 rw [if_pos (by decide +kernel)] at hk0
 have hk:=hk0.le (args':=[QM.ep ⟨[119,101,98],1,3,[9,11,14,15,16],false,false⟩]) rfl (fun i hi hi'=>by
  match i,hi with
  | 0,_ =>
    refine LeV.agg rfl fun j hj hj'=>?_
    match j,hj with
    | 0,_=>exact LeV.refl _
    | 1,_=>exact LeV.refl _
    | 2,_=>exact LeV.refl _
    | 3,_=>exact LeV.refl _
    | 4,_=>exact LeV.refl _
    | 5,_=>exact LeV.nil 4
    | 6,_=>exact LeV.nil 1
    | 7,_=>exact LeV.nil 1
    | 8,_=>exact LeV.refl _)
 simp only [au1,QM.ep,Vq.v,Vq.cells,List.map_cons,List.map_nil] at hf hk
 rw [if_pos (by decide)] at hf
 repeat' (first|(refine zsk ?_;intro K' hK)|refine zsp ?_|(refine zsc ?_ ?_<;>intro hc<;>first|exact znh|try simp only [znz] at hc)|simp (maxSteps:=1000000) only [go_sem]|(refine hK _ ?_;clear hK K')|apply zan|(apply aua;(focus first|exact hf))|(apply Jb;(focus first|exact hk|exact (z0 _ _ _ zsd zsd zsd zsd zsd zsd zsd).b|exact (z1 _ _).b))|exact zsq|fail)
 all_goals first|exact zr
inductive JM where
 | mk (tag:Int) (bytes:List UInt8) (nest:Bool) (els:List JM)
abbrev abn (b:List UInt8):List V:=b.map fun c=>V.sc (.int .u8 c.toNat)
mutual
def JM.v:JM→V
 | .mk t b n es=>.agg [V.int t,.sl 1 (abn b),V.bool n,.sl 4 (aun es)]
def aun:List JM→List V
 | []=>[]
 | x :: r=>x.v :: aun r
end
theorem aod:∀ es,aun es = es.map JM.v
 | []=>rfl
 | x :: r=>by rw [aun,aod r];rfl
theorem JM.v_eq (t:Int) (b:List UInt8) (n:Bool) (es:List JM):(JM.mk t b n es).v = .agg [V.int t,.sl 1 (abn b),V.bool n,.sl 4 (es.map JM.v)]:=by rw [JM.v,aod]
theorem JM.v_agg:∀ x:JM,∃ cs,x.v = .agg cs∧cs.length = 4∧closedL cs∧x.v.cells = cs
 | .mk t b n es=>⟨_,JM.v_eq t b n es,rfl,⟨trivial,trivial,trivial,trivial,trivial⟩,by rw [JM.v_eq];rfl⟩
theorem JM.v_closed (x:JM):x.v.closed:=by cases x;rw [JM.v_eq];simp only [V.closed,closedL,and_self]
def u8i (x:Int):UInt8:=UInt8.ofNat (x % 256).toNat
theorem am2 (x:Int):IntKind.u8.wrap x = ((u8i x).toNat:Int):=by
 have e1:IntKind.u8.bits = 8:=rfl
 have e2:IntKind.u8.signed = false:=rfl
 simp only [IntKind.wrap,e1,e2,Bool.false_and,u8i]
 simp [UInt8.toNat_ofNat'];omega
def apY (x:Int) (b:List UInt8):Bool:=(!(x == 0) && !(x == -1)) || ((x == 0 && decide ((128:Int)≤((b.headD 0).toNat:Int))) || (x == -1 && decide (((b.headD 0).toNat:Int) < 128)))
def aoJ:Nat→Int→List UInt8→List UInt8
 | 0,_,b=>b
 | k + 1,x,b=>if apY x b then aoJ k (x.fdiv 256) (u8i x :: b) else b
def axY (n:Int):List UInt8:=aoJ 9 (n.fdiv 256) [u8i n]
def ac0 (n:Int):JM:=.mk 2 (axY n) false []
theorem auw {j:Nat} {x:Int} (h1:-(256:Int) ^ (j + 1)≤x) (h2:x < (256:Int) ^ (j + 1)):-(256:Int) ^ j≤x.fdiv 256∧x.fdiv 256 < (256:Int) ^ j:=by
 rw [Int.fdiv_eq_ediv_of_nonneg _ (by decide)]
 rw [Int.pow_succ] at h1 h2
 generalize (256:Int) ^ j = P at *
 constructor<;>omega
def atv (n:Int) (j:Nat) (x:Int) (b:List UInt8):Prop :=
 b≠[]∧b.length≤10 - j∧j≤9∧aoJ j x b = axY n∧(-9223372036854775808≤x∧x < 9223372036854775808)∧(j = 0→apY x b = false)∧(∀ i,j = i + 1→-(256:Int) ^ i≤x∧x < (256:Int) ^ i)
theorem ap0 {n:Int} (h0:-9223372036854775808≤n) (h1:n < 9223372036854775808):atv n 9 (n.fdiv 256) [u8i n]:=by
 have h2:-(256:Int) ^ 8≤n.fdiv 256∧n.fdiv 256 < (256:Int) ^ 8:=by
  rw [Int.fdiv_eq_ediv_of_nonneg _ (by decide)]
  have:(256:Int) ^ 8 = 18446744073709551616:=by decide
  rw [this];constructor<;>omega
 refine ⟨by simp,by simp,by omega,rfl,?_,by omega,fun i hi=>?_⟩
 ·rw [Int.fdiv_eq_ediv_of_nonneg _ (by decide)];constructor<;>omega
 ·obtain rfl:i = 8:=by omega
  exact h2
theorem arY {n:Int} {j:Nat} {x:Int} {b:List UInt8} (h:atv n j x b) (hm:apY x b = true):∃ i,j = i + 1∧atv n i (x.fdiv 256) (u8i x :: b):=by
 obtain ⟨h1,h2,h3,h4,h5,h6,h7⟩:=h
 rcases j with _|i
 ·rw [h6 rfl] at hm;cases hm
 refine ⟨i,rfl,by simp,by simp;omega,by omega,?_,?_,fun hi=>?_,fun k hk=>?_⟩
 ·rw [← h4,aoJ,if_pos hm]
 ·rw [Int.fdiv_eq_ediv_of_nonneg _ (by decide)];constructor<;>omega
 ·subst hi
  have:=h7 0 rfl
  simp only [Int.pow_zero] at this
  have hx:x = 0∨x = -1:=by omega
  rcases hx with rfl|rfl<;>rfl
 ·subst hk
  exact auw (h7 _ rfl).1 (h7 _ rfl).2
theorem atu {n:Int} {j:Nat} {x:Int} {b:List UInt8} (h:atv n j x b) (hm:apY x b = false):b = axY n:=by
 obtain ⟨h1,h2,h3,h4,h5,h6,h7⟩:=h
 rw [← h4]
 cases j with
 | zero=>rfl
 | succ i=>rw [aoJ,if_neg (by rw [hm];decide)]
theorem aoB {x:Int} {c:UInt8} {t:List UInt8} {p q r:Bool} (hp:(x == 0) = p) (hq:(x == -1) = q) (hr:decide ((c.toNat:Int) < 128) = r):apY x (c :: t) = ((!p && !q) || ((p && !r) || (q && r))):=by
 have h2:(decide ((128:Int)≤(c.toNat:Int))) = !r:=by rw [← hr];by_cases h:(c.toNat:Int) < 128<;>simp [h]<;>omega
 unfold apY
 rw [hp,hq]
 show ((!p && !q) || ((p && decide ((128:Int)≤(c.toNat:Int))) || (q && decide ((c.toNat:Int) < 128)))) = _
 rw [h2,hr]
theorem aqN {c:UInt8} {r:Bool} (hr:decide ((c.toNat:Int) < 128) = r):decide ((c.toNat:Int)≥128) = !r:=by rw [← hr];by_cases h:(c.toNat:Int) < 128<;>simp [h]<;>omega
def agt:AC:=Qa [0,2] (.reg [xo 2 (.alloc [.val vi0,.nil 1,.val (.bool false),.nil 4])]) (Qa [0,2,3] (.reg [mv 5 0,xo 6 (.convI .u8 (.t 5)),xo 7 (.bslice 1 1 false [(.int .u8 0)] [(0,(.t 6))]),mv 3 7]) (Qa [2,3] (Qa [2,3,4] (.reg [mv 8 0,bc 9 .shr 8 (.sc (.int .u64 8)),mv 4 9]) (.block 0 (JH [2,3,4] (Qa [2,3,4] (Qa [2,3,4,35] (.reg [mv 10 4,bc 11 .neq 10 (V.int 0),mv 12 11,mg 13 4 12 true,xg 14 (.bin .neq (.t 13) (.c (V.int (-1)))) 12 true,xo 15 (.pick (.t 12) (.t 14) (.c (V.bool false))),mv 16 15,mg 17 4 16 false,xg 18 (.bin .eql (.t 17) (.c (V.int 0))) 16 false,mg 19 18 16 false,mg 20 3 19 true,xg 21 (.iaddr 1 (.t 20) (.c (V.int 0))) 19 true,xg 22 (.load false 1 (.t 21)) 19 true,xg 23 (.bin .geq (.t 22) (.c (.sc (.int .u8 128)))) 19 true,xg 24 (.pick (.t 19) (.t 23) (.c (V.bool false))) 16 false,xo 25 (.pick (.t 16) (.c (V.bool true)) (.t 24)),mv 26 25,mg 27 4 26 false,xg 28 (.bin .eql (.t 27) (.c (V.int (-1)))) 26 false,mg 29 28 26 false,mg 30 3 29 true,xg 31 (.iaddr 1 (.t 30) (.c (V.int 0))) 29 true,xg 32 (.load false 1 (.t 31)) 29 true,xg 33 (.bin .lss (.t 32) (.c (.sc (.int .u8 128)))) 29 true,xg 34 (.pick (.t 29) (.t 33) (.c (V.bool false))) 26 false,xo 35 (.pick (.t 26) (.c (V.bool true)) (.t 34))]) (.cond (.t 35) .skip (.exit 0))) (Qa [2,3,4] (.block 1 (.reg [mv 38 4,xo 39 (.convI .u8 (.t 38)),xo 40 (.bslice 1 1 false [(.int .u8 0)] [(0,(.t 39))]),mv 41 3,xo 42 (.append 1 1 [(.int .u8 0)] (.t 40) (.t 41)),mv 3 42])) (.reg [mv 36 4,bc 37 .shr 36 (.sc (.int .u64 8)),mv 4 37])))))) (Qa [2] (.reg [mv 43 3,xo 44 (.build [vi0,vn0,(.bool false),vn0] [(0,1,(.c (V.int 2))),(1,1,(.t 43))]),xs 4 2 44]) .ret))) def r_ref01_Int:List Jl:=[.cell 2 true 4]
def aas (Γ:Env) (f:Nat):Prop:=∀ (n:Int) (h0:-9223372036854775808≤n) (h1:n < 9223372036854775808),EvC Γ f [V.int n] ((ac0 n).v)
attribute [local go_sem] abZ QZ am2 in
theorem ao0 {Γ:Env} {f:Nat} (h:Has Γ.P f 45 agt r_ref01_Int) :aas Γ f:=by
 intro n h0 h1
 refine QV h zsi (JM.v_closed _) fun C hC hm=>?_
 subst hC
 unfold agt
 simp only [ac0,JM.v_eq]
 have s8:(8:Int).toNat≤IntKind.i64.bits:=by decide
 have s9:(2:Int) ^ 8 = 256:=by decide
 (have zx:=And.intro s8 s9);refine zgo ?_;repeat' first|exact zt|apply zan|intro hc
 refine QY (ι:=Nat×Int×List UInt8) (fun q=>atv n q.1 q.2.1 q.2.2) (fun q=>QZ [(2,.ptr 0 0),(3,.hd 1 0 q.2.2.length),(4,V.int q.2.1)] [(0,.box true [V.int 0,.hd 2 0 0,V.bool false,.hd 3 0 0]),(1,.buf true 1 (abn q.2.2)),(2,.buf true 1 []),(3,.buf true 4 [])] 4) (fun q=>q.1) (9,n.fdiv 256,[u8i n]) (ap0 h0 h1) (Qk [(1,3000),(3,4)]) (QR [(1,3000),(3,4)] (by simp only [go_sem,zwl,abn,List.map_cons,List.map_nil,List.length_cons,List.length_nil]<;>exact zcc) (by simp only [go_sem,zwl,abn,List.map_cons,List.map_nil,List.length_cons,List.length_nil]<;>exact zcc) (by simp [Qk]) (by simp;omega) (by omega)) fun q hq K' hL=>?_
 obtain ⟨j,x,b⟩:=q
 simp only at hq hL ⊢
 rcases b with _|⟨c,t⟩
 ·exact absurd rfl hq.1
 have hlen:=hq.2.1
 rw [List.length_cons] at hlen
 have htl:t.length≤10:=by omega
 have hbnd:=hq.2.2.2.2.1
 have tk:List.take t.length (t.map fun c=>V.sc (.int .u8 c.toNat)) = t.map fun c=>V.sc (.int .u8 c.toNat):=List.take_of_length_le (by simp)
 have hgo:=hq.2.2.2.1
 rcases hmm:apY x (c :: t) with _|_
 ·have hbe:=atu hq hmm
  rcases hp:(x == 0) with _|_<;>rcases hv:(x == -1) with _|_<;>rcases hr:decide ((c.toNat:Int) < 128) with _|_
  all_goals
   have hm:=aoB (t:=t) hp hv hr
   have hge:=aqN hr
   have hp2:(x != 0) = !(x == 0):=rfl
   have hv2:(x != -1) = !(x == -1):=rfl
   rw [hp] at hp2
   rw [hv] at hv2
   rw [hmm] at hm
   simp only [Bool.not_true,Bool.not_false,Bool.and_true,Bool.and_false,Bool.or_true,Bool.or_false,Bool.and_self,Bool.or_self,Bool.true_eq_false,Bool.false_eq_true] at hm hge hp2 hv2
  all_goals
   (have zx:=And.intro s8 (And.intro s9 (And.intro hge (And.intro hr (And.intro hp (And.intro hv (And.intro hp2 (And.intro hv2 tk))))))));refine zgo ?_;repeat' first|exact zt|apply zan|intro hc
  all_goals first|(rw [← hbe];refine Qn _ rfl ?_;simp only [go_sem,abn,List.map_cons,List.take_succ_cons,List.drop_zero,tk];done)|(rw [← hbe];refine Qn _ rfl ?_;simp only [go_sem,abn,List.map_cons,List.take_succ_cons,List.drop_zero,tk];trace_state)
 ·obtain ⟨i,rfl,hn⟩:=arY hq hmm
  rcases hp:(x == 0) with _|_<;>rcases hv:(x == -1) with _|_<;>rcases hr:decide ((c.toNat:Int) < 128) with _|_
  all_goals
   have hm:=aoB (t:=t) hp hv hr
   have hge:=aqN hr
   have hp2:(x != 0) = !(x == 0):=rfl
   have hv2:(x != -1) = !(x == -1):=rfl
   rw [hp] at hp2
   rw [hv] at hv2
   rw [hmm] at hm
   simp only [Bool.not_true,Bool.not_false,Bool.and_true,Bool.and_false,Bool.or_true,Bool.or_false,Bool.and_self,Bool.or_self,Bool.true_eq_false,Bool.false_eq_true] at hm hge hp2 hv2
  all_goals
   (have zx:=And.intro s8 (And.intro s9 (And.intro hge (And.intro hr (And.intro hp (And.intro hv (And.intro hp2 (And.intro hv2 tk))))))));refine zgo ?_;repeat' first|exact zt|apply zan|intro hc
  all_goals first|exact hL _ (i,x.fdiv 256,u8i x :: c :: t) (Qk [(1,30004)]) hn (Nat.lt_succ_self _) (QR [(1,30004)] (by simp only [go_sem,zwl,abn,List.map_cons,List.length_cons,List.length_map,Nat.add_comm 1]<;>exact zcc) (by simp only [go_sem,zwl,abn,List.map_cons]<;>exact zcc) (by simp [Qk]) (by simp;omega) (by omega))
mutual
def JM.siz:JM→Nat
 | .mk _ b _ es=>1 + b.length + ae8 es
def ae8:List JM→Nat
 | []=>0
 | x :: r=>x.siz + ae8 r
end
mutual
def JM.dep:JM→Nat
 | .mk _ _ _ es=>atP es + 1
def atP:List JM→Nat
 | []=>0
 | x :: r=>max x.dep (atP r)
end
theorem av3:∀ x:JM,1≤x.siz
 | .mk _ _ _ _=>by rw [JM.siz];omega
theorem aki:∀ es:List JM,es.length≤ae8 es
 | []=>Nat.le_refl _
 | x :: r=>by have:=aki r;have:=av3 x;rw [ae8,List.length_cons];omega
theorem am5 {es:List JM} {x:JM}:∀ {k:Nat},es[k]? = some x→x.siz≤ae8 es:=by
 induction es with
 | nil=>intro k h;simp at h
 | cons y r ih =>
   intro k h
   rw [ae8]
   cases k with
   | zero=>simp at h;subst h;omega
   | succ k=>have:=ih (k:=k) (by simpa using h);omega
mutual
theorem awx:∀ x:JM,x.dep≤x.siz
 | .mk _ b _ es=>by have:=anQ es;rw [JM.dep,JM.siz];omega
theorem anQ:∀ es:List JM,atP es≤ae8 es
 | []=>Nat.le_refl _
 | x :: r=>by have:=awx x;have:=anQ r;rw [atP,ae8];omega
end
def avX (n:Int):Bool:=decide (n≥1) && (decide (n≤255) && (n.tmod 32 != 31))
def agr:AC:=Qa [0] (.reg [mc 2 (V.bool false)]) (Qa [2] (.reg [mv 3 0,bc 4 .geq 3 (V.int 1),mv 5 4,mg 6 0 5 true,xg 7 (.bin .leq (.t 6) (.c (V.int 255))) 5 true,xo 8 (.pick (.t 5) (.t 7) (.c (V.bool false))),mv 9 8,mg 10 0 9 true,xg 11 (.bin .rem (.t 10) (.c (V.int 32))) 9 true,xg 12 (.bin .neq (.t 11) (.c (V.int 31))) 9 true,xo 13 (.pick (.t 9) (.t 12) (.c (V.bool false))),mv 2 13]) .ret) def r_ref01_tag:List Jl:=[.tmp 2]
def aeu (Γ:Env) (f:Nat):Prop:=∀ (n:Int),EvN Γ f [V.int n] (V.bool (avX n))
theorem aoY {Γ:Env} {f:Nat} (h:Has Γ.P f 14 agr r_ref01_tag) :aeu Γ f:=by
 intro n
 refine Qe h zsi zcl zcl fun C hC hm=>?_
 subst hC
 unfold agr
 rcases h1:decide (n≥1) with _|_<;>rcases h2:decide (n≤255) with _|_
 all_goals
  have e:avX n = (decide (n≥1) && (decide (n≤255) && (n.tmod 32 != 31))):=rfl
  rw [h1,h2] at e
  simp only [Bool.false_and,Bool.true_and] at e
  rw [e]
  (have zx:=And.intro h1 h2);exact zg
def aca (V3:Nat):AC:=Qa [1] (.reg [xo 1 (.box true 4 (.t 0)),mc 2 (V.int 0)]) (Qa [1,3] (.reg [mc 3 (V.int 0)]) (Qa [3] (Qa [1,3,4] (.reg [mc 4 (V.int 0)]) (.block 0 (JH [1,3,4] (Qa [1,3,4] (Qa [1,3,4,9] (.reg [mv 5 4,fa 6 3 1,ld 7 1 6,ln 8 7,bn 9 .lss 5 8]) (.cond (.t 9) .skip (.exit 0))) (Qa [1,3,4] (.block 1 (.reg [mv 12 3,fa 13 3 1,ld 14 1 13,mv 15 4,ia 16 4 14 15,xo 17 (.load true 4 (.t 16)),cl 18 V3 [17],xo 19 (.mm true [(.t 12),(.t 18)]),mv 3 19])) (.reg [mv 10 4,bc 11 .add 10 (V.int 1),mv 4 11])))))) (Qa [2] (.reg [mv 20 3,bc 21 .add 20 (V.int 1),mv 2 21]) .ret))) def r_ref01_depth:List Jl:=[.tmp 2]
def aa1 (Γ:Env) (f:Nat):Prop:=∀ (x:JM) (hx:x.siz < 2 ^ 40),EvN Γ f [x.v] (V.int x.dep)
attribute [local go_sem] JM.v_eq in
theorem al3 {Γ:Env} {f:Nat} (h:Has Γ.P f 22 (aca f) r_ref01_depth) :aa1 Γ f:=by
 suffices H:∀ (kk:Nat),∀ (x:JM) (hx:x.siz < 2 ^ 40),x.siz < kk→EvN Γ f [x.v] (V.int x.dep) from fun x hx=>H _ x hx (Nat.lt_succ_self _)
 intro kk;induction kk with
 | zero=>intros;rename_i hk;exact absurd hk (Nat.not_lt_zero _)
 | succ kk ih =>
 intro x hx hk
 refine Qe h zsi zcl zcl fun C hC hm=>?_
 subst hC
 unfold aca
 obtain ⟨t,b,n,es⟩:=x
 simp only [JM.v_eq,JM.dep]
 have hsz:ae8 es < (JM.mk t b n es).siz:=by rw [JM.siz];omega
 have hle:=aki es
 have hdl:=anQ es
 have hwe:IntKind.i64.wrap ((atP es:Int) + 1) = ((atP es + 1:Nat):Int):=Qj (by omega)
 refine zgo ?_;repeat' first|exact zt|apply zan|intro hc
 refine QP (ι:=Nat×Nat) (fun q=>q.1≤es.length∧max q.2 (atP (es.drop q.1)) = atP es) (fun q=>[(3,V.int q.2),(4,V.int q.1)]) (fun q=>es.length - q.1) (0,0) (by omega) ⟨Nat.zero_le _,by simp⟩ (by repeat' first|exact Q8|refine JD (by omega) (by simp only [Ob.lt,ltL,V.lt,and_self,and_true];try omega) ?_) (fun i hi=>by simp only [ovT,Ji,Nat.reduceEqDiff,reduceIte];(repeat' first|exact JC|refine Q7 ?_ ?_|simp only [V.lt,ltL,and_self,and_true]|omega)) zet fun q hq K' hL=>?_
 obtain ⟨k,d⟩:=q
 simp only at hq hL ⊢
 obtain ⟨hk,hinv⟩:=hq
 simp only [ovT,Ji,Nat.reduceEqDiff,reduceIte]
 rcases hd:es.drop k with _|⟨y,r⟩
 ·have hkl:=Qs hd
  have e1:decide ((k:Int) < (((es.map JM.v).length:Nat):Int)) = false:=by simp;omega
  rw [hd] at hinv
  have hde:d = atP es:=by rw [← hinv,atP];omega
  subst hde
  (have zx:=And.intro e1 hwe);exact zg
 ·obtain ⟨hk',hget,hr⟩:=Ql hd
  rw [hd] at hinv
  have hw:=Qj (k:=k) (by omega)
  have e1:decide ((k:Int) < (((es.map JM.v).length:Nat):Int)) = true:=by simp;omega
  have hys:=am5 hget
  obtain ⟨yt,yb,yn,ye⟩:=y
  have hi:=(ih (.mk yt yb yn ye) (by omega) (by omega)).b
  rw [JM.v_eq] at hi
  have hmx:(if (d:Int) < (((JM.mk yt yb yn ye).dep:Nat):Int) then (((JM.mk yt yb yn ye).dep:Nat):Int) else (d:Int)) = ((max d (JM.mk yt yb yn ye).dep:Nat):Int):=by split<;>omega
  have hsk:([V.int ((JM.mk yt yb yn ye).dep:Nat)].all (abE IntKind.i64)) = true:=rfl
  (have zx:=And.intro e1 (And.intro hw (And.intro hget (And.intro hmx hsk))));refine zgo ?_;repeat' first|exact zt|apply zan|intro hc
  all_goals first|exact hL _ (k + 1,max d (JM.mk yt yb yn ye).dep) zet ⟨hk',by rw [hr,← hinv];simp only [atP];omega⟩ (by simp only;omega) (fun a ha=>by simp only [u32,u33,u34,u35,u36,u37,u38,u39];repeat rw [if_neg (by omega)])
def hdB (t:Int) (b:List UInt8) (n:Bool) (es:List JM):Bool:=avX t && (!(n != ((t.tdiv 32).tmod 2 == 1)) && (!(n && decide ((b.length:Int) > 0)) && !(!n && decide ((es.length:Int) > 0))))
mutual
def JM.fB:JM→Bool
 | .mk t b n es=>hdB t b n es && fL es
def fL:List JM→Bool
 | []=>true
 | x :: r=>x.fB && fL r
end
theorem avW {t:Int} (h:avX t = true):1≤t∧t≤255:=by
 simp only [avX,Bool.and_eq_true,decide_eq_true_eq] at h
 exact ⟨h.1,h.2.1⟩
theorem anV (b:List UInt8):(abn b).length = b.length:=List.length_map _
theorem aws {es:List JM} {k:Nat} {y:JM} (h:es[k]? = some y) (hf:y.fB = false):fL es = false:=by
 induction es generalizing k with
 | nil=>simp at h
 | cons x r ih =>
   rw [fL]
   cases k with
   | zero=>simp at h;subst h;rw [hf];rfl
   | succ k=>rw [ih (k:=k) (by simpa using h),Bool.and_false]
def aaI (abR Vn:Nat):AC:=Qa [1] (.reg [xo 1 (.box true 4 (.t 0)),mc 2 (V.bool false)]) (Qa [1] (Qa [1,38] (.reg [fa 4 0 1,ld 5 1 4,cl 6 abR [5],xo 7 (.un .not (.t 6)),mv 8 7,xg 9 (.faddr 2 (.t 1)) 8 false,xg 10 (.load false 1 (.t 9)) 8 false,xg 11 (.faddr 0 (.t 1)) 8 false,xg 12 (.load false 1 (.t 11)) 8 false,xg 13 (.bin .quo (.t 12) (.c (V.int 32))) 8 false,xg 14 (.bin .rem (.t 13) (.c (V.int 2))) 8 false,xg 15 (.bin .eql (.t 14) (.c (V.int 1))) 8 false,xg 16 (.eqb true (.t 10) (.t 15)) 8 false,xo 17 (.pick (.t 8) (.c (V.bool true)) (.t 16)),mv 18 17,xg 19 (.faddr 2 (.t 1)) 18 false,xg 20 (.load false 1 (.t 19)) 18 false,mg 21 20 18 false,xg 22 (.faddr 1 (.t 1)) 21 true,xg 23 (.load false 1 (.t 22)) 21 true,xg 24 (.lenL (.t 23)) 21 true,xg 25 (.bin .gtr (.t 24) (.c (V.int 0))) 21 true,xg 26 (.pick (.t 21) (.t 25) (.c (V.bool false))) 18 false,xo 27 (.pick (.t 18) (.c (V.bool true)) (.t 26)),mv 28 27,xg 29 (.faddr 2 (.t 1)) 28 false,xg 30 (.load false 1 (.t 29)) 28 false,xg 31 (.un .not (.t 30)) 28 false,mg 32 31 28 false,xg 33 (.faddr 3 (.t 1)) 32 true,xg 34 (.load false 1 (.t 33)) 32 true,xg 35 (.lenL (.t 34)) 32 true,xg 36 (.bin .gtr (.t 35) (.c (V.int 0))) 32 true,xg 37 (.pick (.t 32) (.t 36) (.c (V.bool false))) 28 false,xo 38 (.pick (.t 28) (.c (V.bool true)) (.t 37))]) (.cond (.t 38) (Qa [2] (.reg [mc 2 (V.bool false)]) .ret) .skip)) (Qa [] (Qa [1,3] (.reg [mc 3 (V.int 0)]) (.block 0 (JH [1,3] (Qa [1,3] (Qa [1,3,43] (.reg [mv 39 3,fa 40 3 1,ld 41 1 40,ln 42 41,bn 43 .lss 39 42]) (.cond (.t 43) .skip (.exit 0))) (Qa [1,3] (.block 1 (Qa [1,3,52] (.reg [fa 46 3 1,ld 47 1 46,mv 48 3,ia 49 4 47 48,xo 50 (.load true 4 (.t 49)),cl 51 Vn [50],xo 52 (.un .not (.t 51))]) (.cond (.t 52) (Qa [2] (.reg [mc 2 (V.bool false)]) .ret) .skip))) (.reg [mv 44 3,bc 45 .add 44 (V.int 1),mv 3 45])))))) (Qa [2] (.reg [mc 2 (V.bool true)]) .ret))) def r_ref01_formed:List Jl:=[.tmp 2]
def vl (Γ:Env) (f:Nat):Prop:=∀ (x:JM) (hx:x.siz < 2 ^ 40),EvN Γ f [x.v] (V.bool x.fB)
attribute [local go_sem] JM.v_eq in
theorem akZ {Γ:Env} {f abR:Nat} (h:Has Γ.P f 53 (aaI abR f) r_ref01_formed) (z0:aeu Γ abR):vl Γ f:=by
 suffices H:∀ (kk:Nat),∀ (x:JM) (hx:x.siz < 2 ^ 40),x.siz < kk→EvN Γ f [x.v] (V.bool x.fB) from fun x hx=>H _ x hx (Nat.lt_succ_self _)
 intro kk;induction kk with
 | zero=>intros;rename_i hk;exact absurd hk (Nat.not_lt_zero _)
 | succ kk ih =>
 intro x hx hk
 refine Qe h zsi zcl zcl fun C hC hm=>?_
 subst hC
 unfold aaI
 obtain ⟨t,b,n,es⟩:=x
 simp only [JM.v_eq,JM.fB]
 have hsz:ae8 es < (JM.mk t b n es).siz:=by rw [JM.siz];omega
 have hle:=aki es
 have htg:=(z0 t).b
 have hlb:((abn b).length:Int) = (b.length:Int):=by rw [anV]
 have hle2:((es.map JM.v).length:Int) = (es.length:Int):=by rw [List.length_map]
 have hdl:hdB t b n es = (avX t && (!(n != ((t.tdiv 32).tmod 2 == 1)) && (!(n && decide ((b.length:Int) > 0)) && !(!n && decide ((es.length:Int) > 0))))):=rfl
 refine Ve fun K' hK=>?_
 simp (maxSteps:=1000000) only [go_sem]
 refine hK _ ?_
 clear hK
 clear K'
 (try simp only [go_sem])
 refine YO (ι:=Unit) (fun _=>hdB t b n es = true) (fun _=>QZ [(1,.ptr 0 0)] [(0,.box true [V.int t,.sl 1 (abn b),V.bool n,.sl 4 (es.map JM.v)])] 1) (fun K' hK'=>?_) (fun _ hgood=>?_)
 ·rcases h1:avX t with _|_
  ·have hf:hdB t b n es = false:=by rw [hdl,h1];rfl
   rw [hf]
   rw [h1] at htg
   exact zg
  ·rw [h1] at htg
   have htb:=avW h1
   have hwq:IntKind.i64.wrap (t.tdiv 32) = t.tdiv 32:=by
    rw [Int.tdiv_eq_ediv_of_nonneg (by omega)];exact Yv (by omega) (by omega)
   rcases n with _|_<;>rcases h3:((t.tdiv 32).tmod 2 == 1) with _|_<;>rcases h4:decide ((b.length:Int) > 0) with _|_<;>rcases h5:decide ((es.length:Int) > 0) with _|_
   all_goals
    rw [h1,h3,h4,h5] at hdl
    simp only [Bool.not_true,Bool.not_false,Bool.and_true,Bool.and_false,Bool.true_and,Bool.false_and,Bool.bne_true,Bool.bne_false,Bool.true_bne,Bool.false_bne,bne_self_eq_false] at hdl
    (have zx:=And.intro hlb (And.intro hle2 (And.intro hwq (And.intro h3 (And.intro h4 h5)))));refine zgo ?_;repeat' first|exact zt|apply zan|intro hc
   all_goals first|(rw [hdl];refine Qn _ rfl ?_;simp only [go_sem];done)|exact hK' _ () (Qk []) hdl (zwg [])
 ·rw [hgood,Bool.true_and]
  simp only [QZ]
  refine zgo ?_;repeat' first|exact zt|apply zan|intro hc
  refine QP (ι:=Nat) (fun k=>k≤es.length∧fL (es.drop k) = fL es) (fun k=>[(3,V.int k)]) (fun k=>es.length - k) 0 (by omega) ⟨Nat.zero_le _,by simp⟩ (by repeat' first|exact Q8|refine JD (by omega) (by simp only [Ob.lt,ltL,V.lt,and_self,and_true];try omega) ?_) (fun i hi=>by simp only [ovT,Ji,Nat.reduceEqDiff,reduceIte];(repeat' first|exact JC|refine Q7 ?_ ?_|simp only [V.lt,ltL,and_self,and_true]|omega)) zet fun k hk K' hL=>?_
  obtain ⟨hk,hinv⟩:=hk
  simp only [ovT,Ji,Nat.reduceEqDiff,reduceIte]
  rcases hd:es.drop k with _|⟨y,r⟩
  ·have hkl:=Qs hd
   have e1:decide ((k:Int) < (((es.map JM.v).length:Nat):Int)) = false:=by simp;omega
   rw [hd] at hinv
   rw [← hinv,fL]
   (have zx:=e1);exact zg
  ·obtain ⟨hk',hget,hr⟩:=Ql hd
   rw [hd,fL] at hinv
   have hw:=Qj (k:=k) (by omega)
   have e1:decide ((k:Int) < (((es.map JM.v).length:Nat):Int)) = true:=by simp;omega
   have hys:=am5 hget
   obtain ⟨yt,yb,yn,ye⟩:=y
   have hi:=(ih (.mk yt yb yn ye) (by omega) (by omega)).b
   rw [JM.v_eq] at hi
   rcases hy:(JM.mk yt yb yn ye).fB with _|_
   ·rw [hy] at hi
    rw [aws hget hy]
    (have zx:=And.intro e1 (And.intro hw hget));exact zg
   ·rw [hy,Bool.true_and] at hinv
    rw [hy] at hi
    (have zx:=And.intro e1 (And.intro hw hget));refine zgo ?_;repeat' first|exact zt|apply zan|intro hc
    all_goals first|exact hL _ (k + 1) zet ⟨hk',by rw [hr,← hinv]⟩ (by omega) (fun a ha=>by simp only [u32,u33,u34,u35,u36,u37,u38,u39];repeat rw [if_neg (by omega)])
def avP:Nat→Nat→List UInt8→List UInt8
 | 0,_,b=>b
 | k + 1,n,b=>if n = 0 then b else avP k (n / 256) (u8i ((n % 256:Nat):Int) :: b)
def beB (n:Nat):List UInt8:=avP 8 n []
def arS (n:Nat):List UInt8:=if n < 128 then [u8i n] else u8i ((128 + (beB n).length:Nat):Int) :: beB n
theorem aq7:∀ (k n:Nat) (b:List UInt8),(avP k n b).length≤k + b.length
 | 0,_,b=>by rw [avP];omega
 | k + 1,n,b=>by
   rw [avP];split
   ·omega
   ·have:=aq7 k (n / 256) (u8i ((n % 256:Nat):Int) :: b)
    rw [List.length_cons] at this;omega
theorem awV (n:Nat):(beB n).length≤8:=aq7 8 n []
theorem aqF (n:Nat):(arS n).length≤9:=by
 have:=awV n
 rw [arS];split
 ·simp
 ·rw [List.length_cons];omega
theorem abz (t:List UInt8):List.take t.length (t.map fun c=>V.sc (.int .u8 c.toNat)) = t.map fun c=>V.sc (.int .u8 c.toNat):=List.take_of_length_le (by simp)
def aaH:AC:=Qa [0] (.reg [xo 2 (.mknil 1)]) (Qa [0] (Qa [0,5] (.reg [mv 4 0,bc 5 .lss 4 (V.int 128)]) (.cond (.t 5) (Qa [2] (.reg [mv 6 0,xo 7 (.convI .u8 (.t 6)),xo 8 (.bslice 1 1 false [(.int .u8 0)] [(0,(.t 7))]),mv 2 8]) .ret) .skip)) (Qa [0,3] (.reg [xo 3 (.mknil 1)]) (Qa [3] (.block 0 (JH [0,3] (Qa [0,3] (Qa [0,3,10] (.reg [mv 9 0,bc 10 .gtr 9 (V.int 0)]) (.cond (.t 10) .skip (.exit 0))) (.block 1 (Qa [0,3] (.reg [mv 11 0,bc 12 .rem 11 (V.int 256),xo 13 (.convI .u8 (.t 12)),xo 14 (.bslice 1 1 false [(.int .u8 0)] [(0,(.t 13))]),mv 15 3,xo 16 (.append 1 1 [(.int .u8 0)] (.t 14) (.t 15)),mv 3 16]) (.reg [mv 17 0,bc 18 .quo 17 (V.int 256),mv 0 18])))))) (Qa [2] (.reg [mv 19 3,ln 20 19,xo 21 (.bin .add (.c (V.int 128)) (.t 20)),xo 22 (.convI .u8 (.t 21)),xo 23 (.bslice 1 1 false [(.int .u8 0)] [(0,(.t 22))]),mv 24 3,xo 25 (.append 1 1 [(.int .u8 0)] (.t 23) (.t 24)),mv 2 25]) .ret)))) def r_ref01_length:List Jl:=[.tmp 2]
def vk (Γ:Env) (f:Nat):Prop:=∀ (n:Nat) (hn:n < 2 ^ 60),EvC Γ f [V.int n] (.sl 1 (abn (arS n)))
attribute [local go_sem] abZ QZ in
theorem akY {Γ:Env} {f:Nat} (h:Has Γ.P f 26 aaH r_ref01_length) :vk Γ f:=by
 intro n hn
 refine QV h zsi zcl fun C hC hm=>?_
 subst hC
 unfold aaH
 have hu:=am2
 by_cases h1:n < 128
 ·have e1:decide ((n:Int) < 128) = true:=by simp;omega
  have hl:arS n = [u8i n]:=by rw [arS,if_pos h1]
  rw [hl]
  (have zx:=And.intro e1 hu);exact zg
 ·have e1:decide ((n:Int) < 128) = false:=by simp;omega
  have hl:arS n = u8i ((128 + (beB n).length:Nat):Int) :: beB n:=by rw [arS,if_neg h1]
  rw [hl]
  (have zx:=e1);refine zgo ?_;repeat' first|exact zt|apply zan|intro hc
  have hp8:(256:Nat) ^ 8 = 18446744073709551616:=by decide
  refine QY (ι:=Nat×Nat×List UInt8) (fun q=>avP q.1 q.2.1 q.2.2 = beB n∧q.2.1 < 256 ^ q.1∧q.2.2.length + q.1 = 8∧q.2.1≤n) (fun q=>QZ [(0,V.int q.2.1),(3,.hd 0 0 q.2.2.length)] [(0,.buf true 1 (abn q.2.2))] 1) (fun q=>q.1) (8,n,[]) ⟨rfl,by simp only [hp8];omega,rfl,Nat.le_refl _⟩ (Qk [(0,3000)]) (QR [(0,3000)] (by simp only [go_sem,zwl,List.length_nil]<;>exact zcc) (by simp only [go_sem,zwl,abn,List.map_nil]<;>exact zcc) (by simp [Qk]) (by simp;omega) (by omega)) fun q hq K' hL=>?_
  obtain ⟨j,m,c⟩:=q
  simp only at hq hL ⊢
  obtain ⟨g1,g2,g3,g4⟩:=hq
  have htk:=abz c
  by_cases hm0:m = 0
  ·subst hm0
   have g1:c = beB n:=by
    rw [← g1]
    cases j with
    | zero=>rfl
    | succ j=>rw [avP,if_pos rfl]
   subst g1
   have hgt:decide (((0:Nat):Int) > 0) = false:=rfl
   have hlb:(128:Int) + ((beB n).length:Int) = ((128 + (beB n).length:Nat):Int):=by omega
   have hw1:IntKind.i64.wrap ((128 + (beB n).length:Nat):Int) = ((128 + (beB n).length:Nat):Int):=Yv (by omega) (by omega)
   (have zx:=And.intro hgt (And.intro hlb (And.intro hw1 (And.intro hu htk))));refine zgo ?_;repeat' first|exact zt|apply zan|intro hc
   all_goals first|(refine Qn _ rfl ?_;simp only [go_sem,abn,List.map_cons,Nat.add_comm 1,List.length_map,List.take_succ_cons,List.drop_zero,htk];done)
  ·rcases j with _|j
   ·rw [Nat.pow_zero] at g2;omega
   have hgt:decide ((m:Int) > 0) = true:=by simp;omega
   have e3:((m:Int).tmod 256) = ((m % 256:Nat):Int):=by rw [Int.tmod_eq_emod_of_nonneg (by omega)];omega
   have e4:IntKind.i64.wrap ((m:Int).tdiv 256) = ((m / 256:Nat):Int):=by rw [Int.tdiv_eq_ediv_of_nonneg (by omega)];rw [Yv (by omega) (by omega)];omega
   rw [avP,if_neg hm0] at g1
   rw [Nat.pow_succ] at g2
   (have zx:=And.intro hgt (And.intro e3 (And.intro e4 (And.intro hu htk))));refine zgo ?_;repeat' first|exact zt|apply zan|intro hc
   all_goals exact hL _ (j,m / 256,u8i ((m % 256:Nat):Int) :: c) (Qk [(0,7001)]) ⟨g1,Nat.div_lt_of_lt_mul (by rw [Nat.mul_comm];exact g2),by simp only [List.length_cons];omega,Nat.le_trans (Nat.div_le_self _ _) g4⟩ (Nat.lt_succ_self _) (QR [(0,7001)] (by simp only [go_sem,zwl,abn,List.map_cons,List.length_cons,List.length_map,Nat.add_comm 1]<;>exact zcc) (by simp only [go_sem,zwl,abn,List.map_cons]<;>exact zcc) (by simp [Qk]) (by simp;omega) (by omega))
mutual
def JM.pB:JM→List UInt8
 | .mk t b _ es=>u8i t :: (arS (b++pL es).length++(b++pL es))
def pL:List JM→List UInt8
 | []=>[]
 | x :: r=>x.pB++pL r
end
mutual
theorem asY:∀ x:JM,x.pB.length≤10 * x.siz
 | .mk t b _ es=>by
   have:=avA es
   have h2:=aqF (b++pL es).length
   rw [JM.pB,JM.siz,List.length_cons,List.length_append]
   rw [List.length_append] at *
   omega
theorem avA:∀ es:List JM,(pL es).length≤10 * ae8 es
 | []=>Nat.le_refl _
 | x :: r=>by have:=asY x;have:=avA r;rw [pL,ae8,List.length_append];omega
end
theorem awd {es:List JM} {k:Nat} {y:JM} (h:es[k]? = some y):pL (es.take (k + 1)) = pL (es.take k)++y.pB:=by
 induction es generalizing k with
 | nil=>simp at h
 | cons x r ih =>
   cases k with
   | zero=>simp at h;subst h;simp [pL]
   | succ k=>rw [List.take_succ_cons,List.take_succ_cons,pL,pL,ih (by simpa using h),List.append_assoc]
theorem arC (es:List JM) (k:Nat):(pL (es.take k)).length≤10 * ae8 es:=by
 induction es generalizing k with
 | nil=>simp [pL]
 | cons x r ih =>
   cases k with
   | zero=>simp [pL]
   | succ k=>have:=ih k;have:=asY x;rw [List.take_succ_cons,pL,ae8,List.length_append];omega
def agX (J5:Nat):List AO:=[fa 24 0 1,ld 25 1 24,xo 26 (.convI .u8 (.t 25)),xo 27 (.bslice 1 1 false [(.int .u8 0)] [(0,(.t 26))]),mv 28 3,ln 29 28,cl 30 J5 [29],xo 31 (.append 1 1 [(.int .u8 0)] (.t 27) (.t 30)),mv 32 3,xo 33 (.append 1 1 [(.int .u8 0)] (.t 31) (.t 32)),mv 2 33]
def ahQ:List (List Nat):=[[],[0],[1],[2],[],[4],[5],[3,6,6],[],[7,8,7],[9,9,0,1,2,3,4,5,6,7,8,9]]
def agM:OT:=.one 0 (.one 1 (.one 2 (.one 3 (.one 4 (.one 5 (.one 6 (.one 7 (.one 8 (.one 9 (.one 10 .done))))))))))
@[go_sem] def agU (J5:Nat):OP:=oN 0 (fa 24 0 1) (oN 1 (ld 25 1 24) (oN 2 (xo 26 (.convI .u8 (.t 25))) (oN 3 (xo 27 (.bslice 1 1 false [(.int .u8 0)] [(0,(.t 26))])) (oN 4 (mv 28 3) (oN 5 (ln 29 28) (oN 6 (cl 30 J5 [29]) (.one 7 true [6,3] (xo 31 (.append 1 1 [(.int .u8 0)] (.t 27) (.t 30))) (oN 8 (mv 32 3) (.one 9 true [7,6,3] (xo 33 (.append 1 1 [(.int .u8 0)] (.t 31) (.t 32))) (oN 10 (mv 2 33) .done))))))))))
instance (J5:Nat):RG [] agM (agU J5) (agX J5) ahQ 11 (fun _=>true):=⟨rfl,by kernel_rfl,by kernel_rfl⟩
def ags (qW J5:Nat):AC:=Qa [1] (.reg [xo 1 (.box true 4 (.t 0)),xo 2 (.mknil 1)]) (Qa [1,3] (.reg [xo 5 (.bslice 0 1 false [(.int .u8 0)] []),fa 6 1 1,ld 7 1 6,xo 8 (.append 1 1 [(.int .u8 0)] (.t 5) (.t 7)),mv 3 8]) (Qa [1,3] (Qa [1,3,4] (.reg [mc 4 (V.int 0)]) (.block 0 (JH [1,3,4] (Qa [1,3,4] (Qa [1,3,4,13] (.reg [mv 9 4,fa 10 3 1,ld 11 1 10,ln 12 11,bn 13 .lss 9 12]) (.cond (.t 13) .skip (.exit 0))) (Qa [1,3,4] (.block 1 (.reg [mv 16 3,fa 17 3 1,ld 18 1 17,mv 19 4,ia 20 4 18 19,xo 21 (.load true 4 (.t 20)),cl 22 qW [21],xo 23 (.append 1 1 [(.int .u8 0)] (.t 16) (.t 22)),mv 3 23])) (.reg [mv 14 4,bc 15 .add 14 (V.int 1),mv 4 15])))))) (Qa [2] (yh [] agM (agU J5) (agX J5) ahQ) .ret))) def r_ref01_put:List Jl:=[.tmp 2]
def aev (Γ:Env) (f:Nat):Prop:=∀ (x:JM) (hx:x.siz < 2 ^ 35),EvC Γ f [x.v] (.sl 1 (abn x.pB))
attribute [local go_sem] List.length_map JM.v_eq abZ QZ in
theorem aoZ {Γ:Env} {f J5:Nat} (h:Has Γ.P f 34 (ags f J5) r_ref01_put) (z0:vk Γ J5):aev Γ f:=by
 suffices H:∀ (kk:Nat),∀ (x:JM) (hx:x.siz < 2 ^ 35),x.siz < kk→EvC Γ f [x.v] (.sl 1 (abn x.pB)) from fun x hx=>H _ x hx (Nat.lt_succ_self _)
 intro kk;induction kk with
 | zero=>intros;rename_i hk;exact absurd hk (Nat.not_lt_zero _)
 | succ kk ih =>
 intro x hx hk
 refine QV h zsi zcl fun C hC hm=>?_
 subst hC
 unfold ags
 obtain ⟨t,b,n,es⟩:=x
 simp only [JM.v_eq]
 have hss:(JM.mk t b n es).siz = 1 + b.length + ae8 es:=by rw [JM.siz]
 have hle:=aki es
 have hu:=am2
 have htb:=abz b
 (have zx:=htb);refine zgo ?_;repeat' first|exact zt|apply zan|intro hc
 refine QY (ι:=Nat) (fun k=>k≤es.length) (fun k=>QZ [(1,.ptr 0 0),(3,.hd 1 0 (b++pL (es.take k)).length),(4,V.int k)] [(0,.box true [V.int t,.sl 1 (abn b),V.bool n,.sl 4 (es.map JM.v)]),(1,.buf true 1 (abn (b++pL (es.take k))))] 2) (fun k=>es.length - k) 0 (Nat.zero_le _) (Qk [(1,5000)]) (QR [(1,5000)] (by simp only [go_sem,zwl,abn,List.length_map,List.take_zero,pL,List.append_nil]<;>exact zcc) (by simp only [go_sem,zwl,abn,List.take_zero,pL,List.append_nil]<;>exact zcc) (by simp [Qk]) (by simp;omega) (by omega)) fun k hk K' hL=>?_
 have hab:=arC es k
 have hll:=List.length_append (as:=b) (bs:=pL (es.take k))
 rcases hd:es.drop k with _|⟨y,r⟩
 ·have hkl:=Qs hd
  have e1:decide ((k:Int) < (((es.map JM.v).length:Nat):Int)) = false:=by simp;omega
  rw [List.take_of_length_le hkl] at *
  have hlg:=(z0 (b++pL es).length (by omega)).b
  have hl9:=aqF (b++pL es).length
  have hpb:(JM.mk t b n es).pB = u8i t :: (arS (b++pL es).length++(b++pL es)):=by rw [JM.pB]
  rw [hpb]
  generalize b++pL es = a at *
  have hta:=abz a
  have htl:=abz (arS a.length)
  have hT1:∀ v:V,List.take (1 + (arS a.length).length) (v :: abn (arS a.length)) = v :: abn (arS a.length):=fun v=>List.take_of_length_le (by simp [Nat.add_comm])
  (have zx:=And.intro e1 (And.intro hu (And.intro hta (And.intro htl hT1))));refine zgo ?_;repeat' first|exact zt|apply zan|intro hc
  all_goals (refine Qn _ rfl ?_;simp only [go_sem,List.drop_zero];rw [List.take_of_length_le (by simp;omega)];simp [abn])
 ·obtain ⟨hk',hget,hr⟩:=Ql hd
  have hw:=Qj (k:=k) (by omega)
  have e1:decide ((k:Int) < (((es.map JM.v).length:Nat):Int)) = true:=by simp;omega
  have hys:=am5 hget
  have htk:=awd hget
  have hyl:=asY y
  obtain ⟨yt,yb,yn,ye⟩:=y
  have hi:=(ih (.mk yt yb yn ye) (by omega) (by omega)).b
  rw [JM.v_eq] at hi
  generalize (JM.mk yt yb yn ye).pB = p at *
  have hnx:b++pL (es.take (k + 1)) = (b++pL (es.take k))++p:=by rw [htk,List.append_assoc]
  generalize hA:b++pL (es.take k) = a at *
  have hta:=abz a
  (have zx:=And.intro e1 (And.intro hw (And.intro hget hta)));refine zgo ?_;repeat' first|exact zt|apply zan|intro hc
  all_goals exact hL _ (k + 1) (Qk [(1,12002)]) hk' (by omega) (QR [(1,12002)] (by simp only [go_sem,zwl,hnx,List.length_append]<;>exact zcc) (by simp only [go_sem,zwl,hnx,abn,List.map_append]<;>exact zcc) (by simp [Qk]) (by simp;omega) (by omega))
section
variable {C:Ctx} {nt:Nat} {s:St} {K:St→Prop} {E:Nat→St→Prop} {R:St→Prop}
theorem jt {ks:List Nat} {x:AC} {ι:Type} (good:ι→Prop) (inv:ι→St) (msr:ι→Nat) (i0:ι) (h0:good i0) (hw:Cl C.m s (inv i0))
  (h:∀ i,good i→∀ K':St→Prop,(∀ s' i',good i'→msr i' < msr i→Cl C.m s' (inv i')→K' s')→AWp C nt x (inv i) K' E R):AWp C nt (JH ks x) s K E R :=
 at7 good inv msr ⟨i0,h0,hw⟩ fun i hi=>h i hi _ fun _ i' h1 h2 h3=>⟨i',h1,h2,h3⟩
end
def ayc (l:List JM) (k:Nat):St:=stL [(0,.sl 4 (l.map JM.v)),(3,.hd 0 0 k),(4,V.int k)] [.buf true 4 ((l.take k).map JM.v)]
theorem ah3 {o:Nat→Option Ob} {br:List Nat} {B:Option (List Nat)} {ys zs:List V} (h:vB o br B ys zs):∀ l:List JM,vB o br B (l.map JM.v++ys) (l.map JM.v++zs)
 | []=>h
 | x :: r=>⟨by obtain ⟨t,b,n,es⟩:=x;rw [JM.v_eq];exact Qg _ _ _ _ (by simp [V.cells,closedL,V.closed]),ah3 h r⟩
theorem atM {o:Nat→Option Ob} {br:List Nat} {n:Nat} {t:Int} {b:List UInt8} {q:Bool} {es:List V} (h:o n = some (.buf true 1 (abn b))) (hn:n ∉ br) :
  Jd o br none [V.int t,.hd n 0 (abn b).length,V.bool q,.sl 4 es] [V.int t,.sl 1 (abn b),V.bool q,.sl 4 es]:=by
 refine ⟨by simp [conv,V.int],?_,by simp [conv,V.bool],by simp [conv],trivial⟩
 simp only [conv]
 exact ⟨trivial,hn,.inl ⟨true,_,h,by rw [List.drop_zero,List.take_of_length_le (Nat.le_refl _)]⟩⟩
theorem ac1:∀ l:List JM,closedC (l.map JM.v)
 | []=>trivial
 | x :: r=>⟨by obtain ⟨t,b,n,es⟩:=x;rw [JM.v_eq];simp [V.cells,closedL,V.closed],ac1 r⟩
def aaJ (Vo:Nat):AC:=Qa [0] (.reg [xo 2 (.mknil 4)]) (Qa [0,3] (.reg [xo 3 (.mknil 4)]) (Qa [3] (Qa [0,3,4] (.reg [mc 4 (V.int 0)]) (.block 0 (JH [0,3,4] (Qa [0,3,4] (Qa [0,3,4,9] (.reg [mv 6 4,mv 7 0,ln 8 7,bn 9 .lss 6 8]) (.cond (.t 9) .skip (.exit 0))) (Qa [0,3,4] (.block 1 (Qa [0,3,4,5] (.reg [mv 12 0,mv 13 4,ia 14 4 12 13,xo 15 (.load true 4 (.t 14)),xo 5 (.alloc [.val vi0,.nil 1,.val (.bool false),.nil 4]),xs 4 5 15]) (Qa [0,3,4,5] (.reg [xo 16 (.bslice 0 1 false [(.int .u8 0)] []),fa 17 1 5,ld 18 1 17,xo 19 (.append 1 1 [(.int .u8 0)] (.t 16) (.t 18)),fa 20 1 5,xs 1 20 19]) (Qa [0,3,4,5] (.reg [fa 21 3 5,ld 22 1 21,cl 23 Vo [22],fa 24 3 5,xs 1 24 23]) (.reg [mv 25 3,xo 26 (.load true 4 (.t 5)),xo 27 (.obslice 1 4 true [vi0,vn0,(.bool false),vn0] [(0,(.t 26))]),xo 28 (.append 4 64 [vi0,vn0,(.bool false),vn0] (.t 25) (.t 27)),mv 3 28]))))) (.reg [mv 10 4,bc 11 .add 10 (V.int 1),mv 4 11])))))) (Qa [2] (.reg [mv 29 3,mv 2 29]) .ret))) def r_ref01_copies:List Jl:=[.tmp 2]
def vm (Γ:Env) (f:Nat):Prop:=∀ (l:List JM) (hx:ae8 l < 2 ^ 33),EvC Γ f [.sl 4 (l.map JM.v)] (.sl 4 (l.map JM.v))
attribute [local go_sem] JM.v_eq abZ in
theorem ak0 {Γ:Env} {f:Nat} (h:Has Γ.P f 30 (aaJ f) r_ref01_copies) :vm Γ f:=by
 suffices H:∀ (kk:Nat),∀ (l:List JM) (hx:ae8 l < 2 ^ 33),ae8 l < kk→EvC Γ f [.sl 4 (l.map JM.v)] (.sl 4 (l.map JM.v)) from fun l hx=>H _ l hx (Nat.lt_succ_self _)
 intro kk;induction kk with
 | zero=>intros;rename_i hk;exact absurd hk (Nat.not_lt_zero _)
 | succ kk ih =>
 intro l hx hk
 refine QV h zsi zcl fun C hC hm=>?_
 subst hC
 unfold aaJ
 have hle:=aki l
 refine zgo ?_;repeat' first|exact zt|apply zan|intro hc
 refine jt (ι:=Nat) (fun k=>k≤l.length) (fun k=>ayc l k) (fun k=>l.length - k) 0 (Nat.zero_le _) ?_ fun k hk K' hL=>?_
 ·refine VJ [1000] none (fun p hp=>?_) ?_ (by simp) (by rw [hm];rfl)
  ·simp only [List.mem_cons,List.not_mem_nil,or_false] at hp
   rcases hp with rfl|rfl|rfl
   ·exact Qc _ _ _ (.sl 4 _) trivial
   ·show conv _ _ _ (.hd 1000 0 0) (.hd 0 0 0)
    simp [conv]
   ·exact Qc _ _ _ (V.int 0) trivial
  ·exact ⟨⟨_,rfl,fun h=>h,rfl,rfl⟩,trivial⟩
 have hlm:(l.map JM.v).length = l.length:=List.length_map _
 rcases hd:l.drop k with _|⟨y,r⟩
 ·have hkl:=Qs hd
  have e1:decide ((k:Int) < ((l.length:Nat):Int)) = false:=by simp;omega
  obtain rfl:k = l.length:=by omega
  simp only [ayc,stL,List.take_length]
  (have zx:=And.intro e1 hlm);refine zgo ?_;repeat' first|exact zt|apply zan|intro hc
  all_goals
   refine Qn _ rfl ?_
   show conv _ _ _ (.hd 0 0 l.length) (.sl 4 _)
   simp only [conv]
   exact ⟨trivial,by simp,.inl ⟨true,_,rfl,by rw [List.drop_zero,List.take_of_length_le (by simp)]⟩⟩
 ·obtain ⟨hk',hget,hr⟩:=Ql hd
  have hw:=Qj (k:=k) (by omega)
  have e1:decide ((k:Int) < ((l.length:Nat):Int)) = true:=by simp;omega
  have hys:=am5 hget
  obtain ⟨yt,yb,yn,ye⟩:=y
  have hss:(JM.mk yt yb yn ye).siz = 1 + yb.length + ae8 ye:=by rw [JM.siz]
  have hi:=(ih ye (by omega) (by omega)).b
  have htb:=abz yb
  simp only [ayc,stL]
  (have zx:=And.intro e1 (And.intro hlm (And.intro hw (And.intro hget htb))));refine zgo ?_;repeat' first|exact zt|apply zan|intro hc
  all_goals
   refine hL _ (k + 1) hk' (by omega) (VJ [24001] none (fun p hp=>?_) ?_ (by simp) (by rw [hm];rfl))
   ·simp only [List.mem_cons,List.not_mem_nil,or_false] at hp
    rcases hp with rfl|rfl|rfl
    ·exact Qc _ _ _ (.sl 4 _) trivial
    ·show conv _ _ _ (.hd 24001 0 (k + 1)) (.hd 0 0 (k + 1))
     simp [conv]
    ·exact Qc _ _ _ (V.int (k + 1:Nat)) trivial
   ·refine ⟨⟨_,rfl,fun h=>h,rfl,?_,ac1 _⟩,trivial⟩
    have hA:List.take k ((l.take k).map JM.v) = (l.take k).map JM.v:=List.take_of_length_le (by rw [List.length_map,List.length_take];omega)
    have hB:l.take (k + 1) = l.take k++[.mk yt yb yn ye]:=by rw [List.take_add_one,hget];rfl
    rw [hB,List.map_append]
    show vB _ _ _ (List.take k ((l.take k).map JM.v)++[V.agg [V.int yt,.hd 13001 0 (abn yb).length,V.bool yn,.sl 4 (ye.map JM.v)]]) _
    rw [hA]
    refine ah3 ?_ _
    show vB _ _ _ [V.agg [V.int yt,.hd 13001 0 (abn yb).length,V.bool yn,.sl 4 (ye.map JM.v)]] [JM.v (.mk yt yb yn ye)]
    rw [JM.v_eq]
    exact ⟨atM rfl (by decide),trivial⟩
def apA (l:List JM):JM:=.mk 48 [] true l
def agE (s:List UInt8):JM:=.mk 12 s false []
def aup (b:Bool):JM:=.mk 1 [if b then 255 else 0] false []
def ad0 (Vo:Nat):AC:=Qa [0,2] (.reg [xo 2 (.alloc [.val vi0,.nil 1,.val (.bool false),.nil 4])]) (Qa [2] (.reg [mv 3 0,cl 4 Vo [3],xo 5 (.build [vi0,vn0,(.bool false),vn0] [(0,1,(.c (V.int 48))),(2,1,(.c (V.bool true))),(3,1,(.t 4))]),xs 4 2 5]) .ret) def r_ref01_List:List Jl:=[.cell 2 true 4]
def xO (Γ:Env) (f:Nat):Prop:=∀ (l:List JM) (hx:ae8 l < 2 ^ 33),EvC Γ f [.sl 4 (l.map JM.v)] ((apA l).v)
theorem anL {Γ:Env} {f Vo:Nat} (h:Has Γ.P f 6 (ad0 Vo) r_ref01_List) (z0:vm Γ Vo):xO Γ f:=by
 intro l hx
 refine QV h zsi (JM.v_closed _) fun C hC hm=>?_
 subst hC
 unfold ad0
 simp only [apA,JM.v_eq]
 exact zg
def adZ:AC:=Qa [0,2] (.reg [xo 2 (.alloc [.val vi0,.nil 1,.val (.bool false),.nil 4])]) (Qa [2] (.reg [mv 3 0,xo 4 (.convSB (.t 3)),xo 5 (.build [vi0,vn0,(.bool false),vn0] [(0,1,(.c (V.int 12))),(1,1,(.t 4))]),xs 4 2 5]) .ret) def r_ref01_Text:List Jl:=[.cell 2 true 4]
def acA (Γ:Env) (f:Nat):Prop:=∀ (s:List UInt8) (hs:s.length < 2 ^ 33),EvC Γ f [V.str s] ((agE s).v)
theorem anK {Γ:Env} {f:Nat} (h:Has Γ.P f 6 adZ r_ref01_Text) :acA Γ f:=by
 intro s hs
 refine QV h zsi (JM.v_closed _) fun C hC hm=>?_
 subst hC
 unfold adZ
 simp only [agE,JM.v_eq]
 have htk:=abz s
 refine zgo ?_;repeat' first|exact zt|apply zan|intro hc
 all_goals first|exact zr|(refine Qn _ rfl ?_;simp only [go_sem,htk];done)
def ad1:AC:=Qa [0,2] (.reg [xo 2 (.alloc [.val vi0,.nil 1,.val (.bool false),.nil 4])]) (Qa [2] (Qa [2,3] (.reg [mv 3 0]) (.cond (.t 3) (Qa [2] (.reg [xo 4 (.bslice 1 1 false [(.int .u8 0)] [(0,(.c (.sc (.int .u8 255))))]),xo 5 (.build [vi0,vn0,(.bool false),vn0] [(0,1,(.c (V.int 1))),(1,1,(.t 4))]),xs 4 2 5]) .ret) .skip)) (Qa [2] (.reg [xo 6 (.bslice 1 1 false [(.int .u8 0)] [(0,(.c (.sc (.int .u8 0))))]),xo 7 (.build [vi0,vn0,(.bool false),vn0] [(0,1,(.c (V.int 1))),(1,1,(.t 6))]),xs 4 2 7]) .ret)) def r_ref01_Bool:List Jl:=[.cell 2 true 4]
def acB (Γ:Env) (f:Nat):Prop:=∀ (b:Bool),EvC Γ f [V.bool b] ((aup b).v)
theorem anM {Γ:Env} {f:Nat} (h:Has Γ.P f 8 ad1 r_ref01_Bool) :acB Γ f:=by
 intro b
 refine QV h zsi (JM.v_closed _) fun C hC hm=>?_
 subst hC
 unfold ad1
 simp only [aup,JM.v_eq]
 cases b
 all_goals refine zgo ?_;repeat' first|exact zt|apply zan|intro hc
 all_goals first|exact zr|(refine Qn _ rfl ?_;simp only [go_sem];rfl)
def avN (x:JM):V:=if x.fB = false then .tup [.sl 1 [],V.int 1] else if x.dep > 16 then .tup [.sl 1 [],V.int 3] else if x.pB.length > 4096 then .tup [.sl 1 [],V.int 3] else .tup [.sl 1 (abn x.pB),V.int 0]
theorem ala (x:JM):(avN x).closed:=by
 unfold avN
 repeat' split
 all_goals simp only [V.closed,closedL,and_self]
def aaK (Vn V3 qW:Nat):AC:=Qa [1] (.reg [xo 1 (.box true 4 (.t 0)),xo 2 (.mknil 1),mc 3 (V.int 0)]) (Qa [1] (Qa [1,7] (.reg [xo 5 (.load true 4 (.t 1)),cl 6 Vn [5],xo 7 (.un .not (.t 6))]) (.cond (.t 7) (Qa [2,3] (.reg [xo 2 (.mknil 1),mc 3 (V.int 1)]) .ret) .skip)) (Qa [1] (Qa [1,10] (.reg [xo 8 (.load true 4 (.t 1)),cl 9 V3 [8],bc 10 .gtr 9 (V.int 16)]) (.cond (.t 10) (Qa [2,3] (.reg [xo 2 (.mknil 1),mc 3 (V.int 3)]) .ret) .skip)) (Qa [4] (.reg [xo 11 (.load true 4 (.t 1)),cl 12 qW [11],mv 4 12]) (Qa [4] (Qa [4,15] (.reg [mv 13 4,ln 14 13,bc 15 .gtr 14 (V.int 4096)]) (.cond (.t 15) (Qa [2,3] (.reg [xo 2 (.mknil 1),mc 3 (V.int 3)]) .ret) .skip)) (Qa [2,3] (.reg [mv 16 4,mv 2 16,mc 3 (V.int 0)]) .ret))))) def r_ref01_Encode:List Jl:=[.tmp 2,.tmp 3]
def vn (Γ:Env) (f:Nat):Prop:=∀ (x:JM) (hx:x.siz < 2 ^ 35),EvC Γ f [x.v] (avN x)
theorem ak1 {Γ:Env} {f Vn V3 qW:Nat} (h:Has Γ.P f 17 (aaK Vn V3 qW) r_ref01_Encode) (z0:vl Γ Vn) (z1:aa1 Γ V3) (z2:aev Γ qW):vn Γ f:=by
 intro x hx
 refine QV h zsi (ala _) fun C hC hm=>?_
 subst hC
 unfold aaK
 have hf:=(z0 x (by omega)).b
 have hd:=(z1 x (by omega)).b
 have hp:=(z2 x hx).b
 have he:avN x = if x.fB = false then .tup [.sl 1 [],V.int 1] else if x.dep > 16 then .tup [.sl 1 [],V.int 3] else if x.pB.length > 4096 then .tup [.sl 1 [],V.int 3] else .tup [.sl 1 (abn x.pB),V.int 0]:=rfl
 rw [he]
 generalize x.pB = p at *
 generalize x.dep = d at *
 generalize x.fB = q at *
 obtain ⟨t,b,n,es⟩:=x
 rw [JM.v_eq] at *
 rcases q with _|_
 ·rw [if_pos rfl]
  exact zg
 ·rw [if_neg (by decide)]
  by_cases h2:d > 16
  ·rw [if_pos h2]
   have e2:decide ((d:Int) > 16) = true:=by simp;omega
   (have zx:=e2);exact zg
  ·rw [if_neg h2]
   have e2:decide ((d:Int) > 16) = false:=by simp;omega
   have hpl:((abn p).length:Int) = (p.length:Int):=by rw [anV]
   by_cases h3:p.length > 4096
   ·rw [if_pos h3]
    have e3:decide ((p.length:Int) > 4096) = true:=by simp;omega
    (have zx:=And.intro e2 (And.intro hpl e3));exact zg
   ·rw [if_neg h3]
    have e3:decide ((p.length:Int) > 4096) = false:=by simp;omega
    (have zx:=And.intro e2 (And.intro hpl e3));exact zg
inductive Kk where
 | mk (words:List (List UInt8)) (opn:Bool) (within:List Kk) (line:Int)
mutual
def Kk.v:Kk→V
 | .mk w o b n=>.agg [.sl 1 (w.map V.str),V.bool o,.sl 4 (avf b),V.int n]
def avf:List Kk→List V
 | []=>[]
 | x :: r=>x.v :: avf r
end
theorem apj:∀ es,avf es = es.map Kk.v
 | []=>rfl
 | x :: r=>by rw [avf,apj r];rfl
theorem Kk.v_eq (w:List (List UInt8)) (o:Bool) (b:List Kk) (n:Int):(Kk.mk w o b n).v = .agg [.sl 1 (w.map V.str),V.bool o,.sl 4 (b.map Kk.v),V.int n]:=by rw [Kk.v,apj]
theorem Kk.v_closed (x:Kk):x.v.closed:=by cases x;rw [Kk.v_eq];simp only [V.closed,closedL,and_self]
mutual
def Kk.siz:Kk→Nat
 | .mk w _ b _=>1 + w.length + vC b
def vC:List Kk→Nat
 | []=>0
 | x :: r=>x.siz + vC r
end
theorem ave:∀ x:Kk,1≤x.siz
 | .mk _ _ _ _=>by rw [Kk.siz];omega
theorem anW:∀ es:List Kk,es.length≤vC es
 | []=>Nat.le_refl _
 | x :: r=>by have:=anW r;have:=ave x;rw [vC,List.length_cons];omega
theorem aq6 {es:List Kk} {x:Kk}:∀ {k:Nat},es[k]? = some x→x.siz≤vC es:=by
 induction es with
 | nil=>intro k h;simp at h
 | cons y r ih =>
   intro k h
   rw [vC]
   cases k with
   | zero=>simp at h;subst h;omega
   | succ k=>have:=ih (k:=k) (by simpa using h);omega
theorem ao3:∀ w:List (List UInt8),eqL eqS w w = true
 | []=>rfl
 | x :: r=>by simp [eqL,eqS,ao3 r]
def afi (QN Yi:Nat):List AO:=[mv 17 0,mv 18 5,ia 19 4 17 18,fa 20 0 19,ld 21 1 20,mv 22 1,mv 23 5,ia 24 4 22 23,fa 25 0 24,ld 26 1 25,cl 27 QN [21,26],xo 28 (.un .not (.t 27)),mv 29 28,mg 30 0 29 false,mg 31 5 29 false,xg 32 (.iaddr 4 (.t 30) (.t 31)) 29 false,xg 33 (.faddr 1 (.t 32)) 29 false,xg 34 (.load false 1 (.t 33)) 29 false,mg 35 1 29 false,mg 36 5 29 false,xg 37 (.iaddr 4 (.t 35) (.t 36)) 29 false,xg 38 (.faddr 1 (.t 37)) 29 false,xg 39 (.load false 1 (.t 38)) 29 false,xg 40 (.eqb true (.t 34) (.t 39)) 29 false,xo 41 (.pick (.t 29) (.c (V.bool true)) (.t 40)),mv 42 41,mg 43 0 42 false,mg 44 5 42 false,xg 45 (.iaddr 4 (.t 43) (.t 44)) 42 false,xg 46 (.faddr 2 (.t 45)) 42 false,xg 47 (.load false 1 (.t 46)) 42 false,mg 48 1 42 false,mg 49 5 42 false,xg 50 (.iaddr 4 (.t 48) (.t 49)) 42 false,xg 51 (.faddr 2 (.t 50)) 42 false,xg 52 (.load false 1 (.t 51)) 42 false,xg 53 (.call Yi [(.t 47),(.t 52)]) 42 false,xg 54 (.un .not (.t 53)) 42 false,xo 55 (.pick (.t 42) (.c (V.bool true)) (.t 54))]
def afs:List (List Nat):=[[],[],[0,1],[2],[3],[],[],[5,6],[7],[8],[4,9],[10],[11,10],[12],[12],[13,14,12],[15,12],[16,12],[12],[12],[18,19,12],[20,12],[21,12],[17,22,12],[12,23],[24,12],[25],[25],[26,27,25],[28,25],[29,25],[25],[25],[31,32,25],[33,25],[34,25],[30,35,25,25],[36,25],[25,37]]
def ae5:OT:=.one 0 (.one 1 (.one 2 (.one 3 (.one 4 (.one 5 (.one 6 (.one 7 (.one 8 (.one 9 (.one 10 (.one 11 (.one 12 (.one 13 (.one 14 (.one 15 (.one 16 (.one 17 (.one 18 (.one 19 (.one 20 (.one 21 (.one 22 (.one 23 (.one 24 (.one 25 (.one 26 (.one 27 (.one 28 (.one 29 (.one 30 (.one 31 (.one 32 (.one 33 (.one 34 (.one 35 (.one 36 (.one 37 (.one 38 .done))))))))))))))))))))))))))))))))))))))
@[go_sem] def afd (QN Yi:Nat):OP:=oN 0 (mv 17 0) (oN 1 (mv 18 5) (oN 2 (ia 19 4 17 18) (oN 3 (fa 20 0 19) (oN 4 (ld 21 1 20) (oN 5 (mv 22 1) (oN 6 (mv 23 5) (oN 7 (ia 24 4 22 23) (oN 8 (fa 25 0 24) (oN 9 (ld 26 1 25) (oN 10 (cl 27 QN [21,26]) (oN 11 (xo 28 (.un .not (.t 27))) (oN 12 (mv 29 28) (oN 13 (mg 30 0 29 false) (oN 14 (mg 31 5 29 false) (.one 15 false [10] (xg 32 (.iaddr 4 (.t 30) (.t 31)) 29 false) (oN 16 (xg 33 (.faddr 1 (.t 32)) 29 false) (.one 17 false [10] (xg 34 (.load false 1 (.t 33)) 29 false) (oN 18 (mg 35 1 29 false) (oN 19 (mg 36 5 29 false) (.one 20 false [10] (xg 37 (.iaddr 4 (.t 35) (.t 36)) 29 false) (oN 21 (xg 38 (.faddr 1 (.t 37)) 29 false) (.one 22 false [10] (xg 39 (.load false 1 (.t 38)) 29 false) (oN 23 (xg 40 (.eqb true (.t 34) (.t 39)) 29 false) (oN 24 (xo 41 (.pick (.t 29) (.c (V.bool true)) (.t 40))) (oN 25 (mv 42 41) (oN 26 (mg 43 0 42 false) (oN 27 (mg 44 5 42 false) (.one 28 false [10] (xg 45 (.iaddr 4 (.t 43) (.t 44)) 42 false) (oN 29 (xg 46 (.faddr 2 (.t 45)) 42 false) (.one 30 false [10] (xg 47 (.load false 1 (.t 46)) 42 false) (oN 31 (mg 48 1 42 false) (oN 32 (mg 49 5 42 false) (.one 33 false [10] (xg 50 (.iaddr 4 (.t 48) (.t 49)) 42 false) (oN 34 (xg 51 (.faddr 2 (.t 50)) 42 false) (.one 35 false [10] (xg 52 (.load false 1 (.t 51)) 42 false) (.one 36 false [10] (xg 53 (.call Yi [(.t 47),(.t 52)]) 42 false) (oN 37 (xg 54 (.un .not (.t 53)) 42 false) (oN 38 (xo 55 (.pick (.t 42) (.c (V.bool true)) (.t 54))) .done))))))))))))))))))))))))))))))))))))))
instance (QN Yi:Nat):RG [] ae5 (afd QN Yi) (afi QN Yi) afs 39 (fun _=>true):=⟨rfl,by kernel_rfl,by kernel_rfl⟩
def adO (QN Yi:Nat):AC:=Qa [0,1] (.reg [mc 4 (V.bool false)]) (Qa [0,1] (Qa [0,1,10] (.reg [mv 6 0,ln 7 6,mv 8 1,ln 9 8,bn 10 .neq 7 9]) (.cond (.t 10) (Qa [4] (.reg [mc 4 (V.bool false)]) .ret) .skip)) (Qa [] (Qa [0,1,5] (.reg [mc 5 (V.int 0)]) (.block 0 (JH [0,1,5] (Qa [0,1,5] (Qa [0,1,5,14] (.reg [mv 11 5,mv 12 0,ln 13 12,bn 14 .lss 11 13]) (.cond (.t 14) .skip (.exit 0))) (Qa [0,1,5] (.block 1 (Qa [0,1,5,55] (yh [] ae5 (afd QN Yi) (afi QN Yi) afs) (.cond (.t 55) (Qa [4] (.reg [mc 4 (V.bool false)]) .ret) .skip))) (.reg [mv 15 5,bc 16 .add 15 (V.int 1),mv 5 16])))))) (Qa [4] (.reg [mc 4 (V.bool true)]) .ret))) def r_ref07_Same:List Jl:=[.tmp 4]
def acr (Γ:Env) (f:Nat):Prop:=∀ (l:List Kk) (hx:vC l < 2 ^ 40),EvN Γ f [.sl 4 (l.map Kk.v),.sl 4 (l.map Kk.v)] (V.bool true)
attribute [local go_sem] Kk.v_eq in
theorem anz {Γ:Env} {f QN:Nat} (h:Has Γ.P f 56 (adO QN f) r_ref07_Same) (z0:VF Γ QN):acr Γ f:=by
 suffices H:∀ (kk:Nat),∀ (l:List Kk) (hx:vC l < 2 ^ 40),vC l < kk→EvN Γ f [.sl 4 (l.map Kk.v),.sl 4 (l.map Kk.v)] (V.bool true) from fun l hx=>H _ l hx (Nat.lt_succ_self _)
 intro kk;induction kk with
 | zero=>intros;rename_i hk;exact absurd hk (Nat.not_lt_zero _)
 | succ kk ih =>
 intro l hx hk
 refine Qe h zsi zcl zcl fun C hC hm=>?_
 subst hC
 unfold adO
 have hle:=anW l
 have hlm:(l.map Kk.v).length = l.length:=List.length_map _
 have e0:((((l.length:Nat):Int)) != (((l.length:Nat):Int))) = false:=by simp
 (have zx:=And.intro hlm e0);refine zgo ?_;repeat' first|exact zt|apply zan|intro hc
 refine QP (ι:=Nat) (fun k=>k≤l.length) (fun k=>[(5,V.int k)]) (fun k=>l.length - k) 0 (by omega) (Nat.zero_le _) (by repeat' first|exact Q8|refine JD (by omega) (by simp only [Ob.lt,ltL,V.lt,and_self,and_true];try omega) ?_) (fun i hi=>by simp only [ovT,Ji,Nat.reduceEqDiff,reduceIte];(repeat' first|exact JC|refine Q7 ?_ ?_|simp only [V.lt,ltL,and_self,and_true]|omega)) zet fun k hk K' hL=>?_
 simp only [ovT,Ji,Nat.reduceEqDiff,reduceIte]
 rcases hd:l.drop k with _|⟨y,r⟩
 ·have hkl:=Qs hd
  have e1:decide ((k:Int) < ((l.length:Nat):Int)) = false:=by simp;omega
  (have zx:=And.intro hlm e1);exact zg
 ·obtain ⟨hk',hget,hr⟩:=Ql hd
  have hw:=Qj (k:=k) (by omega)
  have e1:decide ((k:Int) < ((l.length:Nat):Int)) = true:=by simp;omega
  have hys:=aq6 hget
  obtain ⟨yw,yo,yb,yn⟩:=y
  have hss:(Kk.mk yw yo yb yn).siz = 1 + yw.length + vC yb:=by rw [Kk.siz]
  have hi:=(ih yb (by omega) (by omega)).b
  have ht:=(z0 yw yw (by omega)).b
  rw [ao3] at ht
  have hne:(yo != yo) = false:=by simp
  (have zx:=And.intro hlm (And.intro e1 (And.intro hw (And.intro hget hne))));refine zgo ?_;repeat' first|exact zt|apply zan|intro hc
  all_goals first|exact hL _ (k + 1) zet hk' (by omega) (fun a ha=>by simp only [u32,u33,u34,u35,u36,u37,u38,u39];repeat rw [if_neg (by omega)])
def wi (QD:Nat):List AO:=[mv 16 0,mv 17 5,ia 18 4 16 17,fa 19 3 18,ld 20 1 19,mv 21 1,mv 22 5,ia 23 4 21 22,fa 24 3 23,ld 25 1 24,bn 26 .neq 20 25,mv 27 26,mg 28 0 27 false,mg 29 5 27 false,xg 30 (.iaddr 4 (.t 28) (.t 29)) 27 false,xg 31 (.faddr 2 (.t 30)) 27 false,xg 32 (.load false 1 (.t 31)) 27 false,mg 33 1 27 false,mg 34 5 27 false,xg 35 (.iaddr 4 (.t 33) (.t 34)) 27 false,xg 36 (.faddr 2 (.t 35)) 27 false,xg 37 (.load false 1 (.t 36)) 27 false,xg 38 (.call QD [(.t 32),(.t 37)]) 27 false,xg 39 (.un .not (.t 38)) 27 false,xo 40 (.pick (.t 27) (.c (V.bool true)) (.t 39))]
def wV:List (List Nat):=[[],[],[0,1],[2],[3],[],[],[5,6],[7],[8],[4,9],[10],[11],[11],[12,13,11],[14,11],[15,11],[11],[11],[17,18,11],[19,11],[20,11],[16,21,11,11],[22,11],[11,23]]
def xS:OT:=.one 0 (.one 1 (.one 2 (.one 3 (.one 4 (.one 5 (.one 6 (.one 7 (.one 8 (.one 9 (.one 10 (.one 11 (.one 12 (.one 13 (.one 14 (.one 15 (.one 16 (.one 17 (.one 18 (.one 19 (.one 20 (.one 21 (.one 22 (.one 23 (.one 24 .done))))))))))))))))))))))))
@[go_sem] def wa (QD:Nat):OP:=oN 0 (mv 16 0) (oN 1 (mv 17 5) (oN 2 (ia 18 4 16 17) (oN 3 (fa 19 3 18) (oN 4 (ld 20 1 19) (oN 5 (mv 21 1) (oN 6 (mv 22 5) (oN 7 (ia 23 4 21 22) (oN 8 (fa 24 3 23) (oN 9 (ld 25 1 24) (oN 10 (bn 26 .neq 20 25) (oN 11 (mv 27 26) (oN 12 (mg 28 0 27 false) (oN 13 (mg 29 5 27 false) (oN 14 (xg 30 (.iaddr 4 (.t 28) (.t 29)) 27 false) (oN 15 (xg 31 (.faddr 2 (.t 30)) 27 false) (oN 16 (xg 32 (.load false 1 (.t 31)) 27 false) (oN 17 (mg 33 1 27 false) (oN 18 (mg 34 5 27 false) (oN 19 (xg 35 (.iaddr 4 (.t 33) (.t 34)) 27 false) (oN 20 (xg 36 (.faddr 2 (.t 35)) 27 false) (oN 21 (xg 37 (.load false 1 (.t 36)) 27 false) (oN 22 (xg 38 (.call QD [(.t 32),(.t 37)]) 27 false) (oN 23 (xg 39 (.un .not (.t 38)) 27 false) (oN 24 (xo 40 (.pick (.t 27) (.c (V.bool true)) (.t 39))) .done))))))))))))))))))))))))
instance (QD:Nat):RG [] xS (wa QD) (wi QD) wV 25 (fun _=>true):=⟨rfl,by kernel_rfl,by kernel_rfl⟩
def jf (Yi QD:Nat):AC:=Qa [0,1] (.reg [mc 4 (V.bool false)]) (Qa [0,1] (Qa [0,1,9] (.reg [mv 6 0,mv 7 1,cl 8 Yi [6,7],xo 9 (.un .not (.t 8))]) (.cond (.t 9) (Qa [4] (.reg [mc 4 (V.bool false)]) .ret) .skip)) (Qa [] (Qa [0,1,5] (.reg [mc 5 (V.int 0)]) (.block 0 (JH [0,1,5] (Qa [0,1,5] (Qa [0,1,5,13] (.reg [mv 10 5,mv 11 0,ln 12 11,bn 13 .lss 10 12]) (.cond (.t 13) .skip (.exit 0))) (Qa [0,1,5] (.block 1 (Qa [0,1,5,40] (yh [] xS (wa QD) (wi QD) wV) (.cond (.t 40) (Qa [4] (.reg [mc 4 (V.bool false)]) .ret) .skip))) (.reg [mv 14 5,bc 15 .add 14 (V.int 1),mv 5 15])))))) (Qa [4] (.reg [mc 4 (V.bool true)]) .ret))) def r_ref07_SameLines:List Jl:=[.tmp 4]
def qA (Γ:Env) (f:Nat):Prop:=∀ (l:List Kk) (hx:vC l < 2 ^ 40),EvN Γ f [.sl 4 (l.map Kk.v),.sl 4 (l.map Kk.v)] (V.bool true)
attribute [local go_sem] Kk.v_eq in
theorem ahp {Γ:Env} {f Yi:Nat} (h:Has Γ.P f 41 (jf Yi f) r_ref07_SameLines) (z0:acr Γ Yi):qA Γ f:=by
 suffices H:∀ (kk:Nat),∀ (l:List Kk) (hx:vC l < 2 ^ 40),vC l < kk→EvN Γ f [.sl 4 (l.map Kk.v),.sl 4 (l.map Kk.v)] (V.bool true) from fun l hx=>H _ l hx (Nat.lt_succ_self _)
 intro kk;induction kk with
 | zero=>intros;rename_i hk;exact absurd hk (Nat.not_lt_zero _)
 | succ kk ih =>
 intro l hx hk
 refine Qe h zsi zcl zcl fun C hC hm=>?_
 subst hC
 unfold jf
 have hle:=anW l
 have hlm:(l.map Kk.v).length = l.length:=List.length_map _
 have hs:=(z0 l hx).b
 (have zx:=hlm);refine zgo ?_;repeat' first|exact zt|apply zan|intro hc
 refine QP (ι:=Nat) (fun k=>k≤l.length) (fun k=>[(5,V.int k)]) (fun k=>l.length - k) 0 (by omega) (Nat.zero_le _) (by repeat' first|exact Q8|refine JD (by omega) (by simp only [Ob.lt,ltL,V.lt,and_self,and_true];try omega) ?_) (fun i hi=>by simp only [ovT,Ji,Nat.reduceEqDiff,reduceIte];(repeat' first|exact JC|refine Q7 ?_ ?_|simp only [V.lt,ltL,and_self,and_true]|omega)) zet fun k hk K' hL=>?_
 simp only [ovT,Ji,Nat.reduceEqDiff,reduceIte]
 rcases hd:l.drop k with _|⟨y,r⟩
 ·have hkl:=Qs hd
  have e1:decide ((k:Int) < ((l.length:Nat):Int)) = false:=by simp;omega
  (have zx:=And.intro hlm e1);exact zg
 ·obtain ⟨hk',hget,hr⟩:=Ql hd
  have hw:=Qj (k:=k) (by omega)
  have e1:decide ((k:Int) < ((l.length:Nat):Int)) = true:=by simp;omega
  have hys:=aq6 hget
  obtain ⟨yw,yo,yb,yn⟩:=y
  have hss:(Kk.mk yw yo yb yn).siz = 1 + yw.length + vC yb:=by rw [Kk.siz]
  have hi:=(ih yb (by omega) (by omega)).b
  have hne:(yn != yn) = false:=by simp
  (have zx:=And.intro hlm (And.intro e1 (And.intro hw (And.intro hget hne))));refine zgo ?_;repeat' first|exact zt|apply zan|intro hc
  all_goals first|exact hL _ (k + 1) zet hk' (by omega) (fun a ha=>by simp only [u32,u33,u34,u35,u36,u37,u38,u39];repeat rw [if_neg (by omega)])
def akD (l:PLn):Kk:=.mk (l.word :: l.vals) false [] 0
def alh (e:QL) (al:List (List UInt8)):Kk:=.mk [[115,101,114,118,101,114],e.name] true ((Jz e al).map akD) 0
def ad5 (e:QL) (al:List (List UInt8)):V :=
 if JS e = true then
  if Wx e al = true then .tup [.sl 4 [(alh e al).v],V.int 0] else .tup [.sl 4 [],V.int 18]
 else .tup [.sl 4 [],V.int 19]
theorem afn (e:QL) (al:List (List UInt8)):(ad5 e al).closed:=by
 unfold ad5
 split
 ·split
  ·exact ⟨trivial,trivial,trivial⟩
  ·exact ⟨trivial,trivial,trivial⟩
 ·exact ⟨trivial,trivial,trivial⟩
def aye (e:QL) (ls:List PLn) (k:Nat):St :=
 stL [(8,.ptr 0 0),(24,.sl 2 (ls.map PLn.v)),(25,V.int ls.length),(26,V.int k)] [.box true [.sl 1 ([[115,101,114,118,101,114],e.name].map V.str),V.bool true,.hd 1 0 k,V.int 0],.buf true 4 (((ls.take k).map akD).map Kk.v)]
theorem ajZ (l:List (List UInt8)):List.take l.length (l.map V.str) = l.map V.str:=List.take_of_length_le (by simp)
theorem atF {o:Nat→Option Ob} {br:List Nat} {a n:Nat} {l:List (List UInt8)} (h:o a = some (.buf true 1 (l.map V.str))) (hb:a ∉ br) (hn:n = l.length):conv o br none (.hd a 0 n) (.sl 1 (l.map V.str)):=by
 subst hn
 rw [al8]
 exact ⟨trivial,hb,.inl ⟨true,_,h,by rw [List.drop_zero,List.take_of_length_le (by simp)]⟩⟩
theorem ad6:∀ l:List Kk,closedC (l.map Kk.v)
 | []=>trivial
 | x :: r=>⟨by obtain ⟨t,b,n,es⟩:=x;rw [Kk.v_eq];simp [V.cells,closedL,V.closed],ad6 r⟩
theorem aiT {o:Nat→Option Ob} {br:List Nat} {B:Option (List Nat)} {ys zs:List V} (h:vB o br B ys zs):∀ l:List Kk,vB o br B (l.map Kk.v++ys) (l.map Kk.v++zs)
 | []=>h
 | x :: r=>⟨by obtain ⟨t,b,n,es⟩:=x;rw [Kk.v_eq];exact Qg _ _ _ _ (by simp [V.cells,closedL,V.closed]),aiT h r⟩
theorem at0 {o:Nat→Option Ob} {br:List Nat} {n:Nat} {w:List UInt8} {v:List (List UInt8)} (h:o n = some (.buf true 1 (V.str w :: v.map V.str))) (hb:n ∉ br) :
  Jd o br none (V.agg [.hd n 0 (1 + v.length),V.bool false,.sc (.slice none 0 0),V.int 0]).cells (akD ⟨w,v⟩).v.cells:=by
 rw [akD,Kk.v_eq]
 refine ⟨atF (l:=w :: v) h hb (by simp [Nat.add_comm]),Qc _ _ _ _ trivial,(aqZ _ _ _ _ _).2 rfl,Qc _ _ _ _ trivial,trivial⟩
@[go_sem] def YE:AO:=xo 34 (.bslice 1 1 false [vs0] [(0,(.t 33))])
@[go_sem] def WX:AO:=xo 37 (.append 1 16 [vs0] (.t 34) (.t 36))
@[go_sem] def KN:AO:=xo 38 (.build [vn0,(.bool false),vn0,vi0] [(0,1,(.t 37))])
@[go_sem] def KM:AO:=xo 39 (.obslice 1 4 true [vn0,(.bool false),vn0,vi0] [(0,(.t 38))])
@[go_sem] def Ku:AO:=xo 40 (.append 4 64 [vn0,(.bool false),vn0,vi0] (.t 31) (.t 39))
def j6:List AO:=[fa 30 2 8,ld 31 1 30,fa 32 0 10,ld 33 1 32,YE,fa 35 1 10,ld 36 1 35,WX,KN,KM,Ku,fa 41 2 8,xs 1 41 40]
def yc:List (List Nat):=[[],[0],[],[2],[3],[],[5],[4,6],[7],[8],[1,9,7],[0,1,2,3,4,5,6,7,8,9,10],[11,10,10,0,1,2,3,4,5,6,7,8,9,10]]
def jZ:OT:=.one 0 (.one 2 (.one 5 (.or 1 (.or 3 (.one 4 (.one 6 (.one 7 (.one 8 (.one 9 (.one 10 (.one 11 (.one 12 .done)))))))) (.or 6 (.one 3 (.one 4 (.one 7 (.one 8 (.one 9 (.one 10 (.one 11 (.one 12 .done)))))))) .done)) (.or 3 (.one 4 (.or 1 (.one 6 (.one 7 (.one 8 (.one 9 (.one 10 (.one 11 (.one 12 .done))))))) (.or 6 (.or 1 (.one 7 (.one 8 (.one 9 (.one 10 (.one 11 (.one 12 .done)))))) (.or 7 (.one 1 (.one 8 (.one 9 (.one 10 (.one 11 (.one 12 .done)))))) .done)) .done))) (.or 6 (.or 1 (.one 3 (.one 4 (.one 7 (.one 8 (.one 9 (.one 10 (.one 11 (.one 12 .done)))))))) (.or 3 (.one 4 (.or 1 (.one 7 (.one 8 (.one 9 (.one 10 (.one 11 (.one 12 .done)))))) (.or 7 (.one 1 (.one 8 (.one 9 (.one 10 (.one 11 (.one 12 .done)))))) .done))) .done)) .done)))))
@[go_sem] def KY:OP:=oN 8 KN (.one 9 false [7,4] KM (.one 10 true [9,7,4] Ku (oN 11 (fa 41 2 8) (.one 12 true [10,9,7,4] (xs 1 41 40) .done))))
@[go_sem] def WZ:OP:=.one 7 true [4] WX KY
@[go_sem] def KX:OP:=.one 6 true [] (ld 36 1 35) WZ
@[go_sem] def KW:OP:=.one 3 true [] (ld 33 1 32) (oN 4 YE WZ)
@[go_sem] def KV:OP:=.or 1 true [] (ld 31 1 30) WZ (.or 7 true [4] WX (.one 1 true [] (ld 31 1 30) KY) .done)
@[go_sem] def j5:OP:=oN 0 (fa 30 2 8) (oN 2 (fa 32 0 10) (oN 5 (fa 35 1 10) (.or 1 true [] (ld 31 1 30) (.or 3 true [] (ld 33 1 32) (oN 4 YE KX) (.or 6 true [] (ld 36 1 35) KW .done)) (.or 3 true [] (ld 33 1 32) (oN 4 YE (.or 1 true [] (ld 31 1 30) KX (.or 6 true [] (ld 36 1 35) KV .done))) (.or 6 true [] (ld 36 1 35) (.or 1 true [] (ld 31 1 30) KW (.or 3 true [] (ld 33 1 32) (oN 4 YE KV) .done)) .done)))))
instance:RG [1,3,6] jZ (j5) (j6) yc 13 (fun _=>false):=⟨rfl,by kernel_rfl,by kernel_rfl⟩
def Kf (Yt:Nat):AC:=Qa [1,2] (.reg [xo 2 (.box true 9 (.t 0)),xo 4 (.mknil 4),mc 5 (V.int 0)]) (Qa [2,6,7] (.reg [xo 12 (.load true 9 (.t 2)),mv 13 1,cl 14 Yt [12,13],mv 11 14,ex 15 11 0,ex 16 11 1,mv 6 15,mv 7 16]) (Qa [2,6] (Qa [2,6,7,18] (.reg [mv 17 7,bc 18 .neq 17 (V.int 0)]) (.cond (.t 18) (Qa [4,5] (.reg [mv 19 7,xo 4 (.mknil 4),mv 5 19]) .ret) .skip)) (Qa [6,8] (.reg [fa 20 0 2,ld 21 1 20,xo 22 (.bslice 2 1 false [vs0] [(0,(.c (V.str [115,101,114,118,101,114]))),(1,(.t 21))]),xo 23 (.build [vn0,(.bool false),vn0,vi0] [(0,1,(.t 22)),(1,1,(.c (V.bool true)))]),xo 8 (.alloc [.nil 1,.val (.bool false),.nil 4,.val vi0]),xs 4 8 23]) (Qa [8] (Qa [8,24,25,26] (.reg [mv 24 6,ln 25 24,mc 26 (V.int 0)]) (.block 0 (JH [8,24,25,26] (Qa [8,24,25,26,27] (.reg [bn 27 .lss 26 25]) (Qa [8,24,25,26] (.cond (.t 27) .skip (.exit 0)) (Qa [8,24,25,26] (.block 1 (Qa [8,10,24,25,26] (.reg [ia 28 2 24 26,xo 29 (.load true 2 (.t 28)),xo 10 (.alloc [.val vs0,.nil 1]),xs 2 10 29]) (yh [1,3,6] jZ (j5) (j6) yc))) (.reg [bc 42 .add 26 (V.int 1),mv 26 42]))))))) (Qa [4,5] (.reg [xo 43 (.load true 4 (.t 8)),xo 44 (.obslice 1 4 true [vn0,(.bool false),vn0,vi0] [(0,(.t 43))]),mv 4 44,mc 5 (V.int 0)]) .ret))))) def r_endpoint_ToBlocks:List Jl:=[.tmp 4,.tmp 5]
def UA (Γ:Env) (f:Nat):Prop:=∀ (e:QL) (al:List (List UInt8)) (sm:e.Sm) (ha:al.length < 2 ^ 30) (hn:∀ x∈al,x.length < 2 ^ 60),EvC Γ f [e.v,.sl 1 (al.map V.str)] (ad5 e al)
theorem aeU {Γ:Env} {f Yt:Nat} (h:Has Γ.P f 45 (Kf Yt) r_endpoint_ToBlocks) (z0:Ud Γ Yt):UA Γ f:=by
 intro e al sm ha hn
 refine QV h zsi (afn _ _) fun C hC hm=>?_
 subst hC
 unfold Kf
 have h0:=(z0 e al sm ha hn).b
 rw [xp] at h0
 rw [ad5]
 by_cases hck:JS e = true
 ·rw [if_pos hck] at h0 ⊢
  by_cases hal:Wx e al = true
  ·rw [if_pos hal] at h0 ⊢
   have hsmall:=wq sm hck hal
   have hll:(Jz e al).length≤8:=by
    have:=List.length_filter_le JQ (aax e al)
    simp only [Jz,VI,aax,List.length_append,List.length_cons,List.length_nil] at *
    omega
   have lml:((Jz e al).map PLn.v).length = (Jz e al).length:=List.length_map _
   rw [alh,Kk.v_eq]
   simp only [QL.v,QL.cells] at h0 ⊢
   generalize Jz e al = ls at *
   (have zx:=lml);refine zgo ?_;repeat' first|exact zt|apply zan|intro hc
   refine ad7 17000 2 4 rfl rfl ?_
   refine jt (ι:=Nat) (fun k=>k≤ls.length) (fun k=>aye e ls k) (fun k=>ls.length - k) 0 (Nat.zero_le _) ?_ fun k hk K' hL=>?_
   ·refine VJ [17000,22000] none (fun p hp=>?_) ?_ (by simp) (by rw [hm];rfl)
    ·simp only [List.mem_cons,List.not_mem_nil,or_false] at hp
     rcases hp with rfl|rfl|rfl|rfl
     ·show conv _ _ _ (.ptr 17000 0) (.ptr 0 0)
      simp [conv]
     ·exact Qc _ _ _ (.sl 2 _) trivial
     ·exact Qc _ _ _ (V.int ls.length) trivial
     ·exact Qc _ _ _ (V.int 0) trivial
    ·refine ⟨⟨_,rfl,fun h=>h,?_⟩,⟨_,rfl,fun h=>h,rfl,rfl⟩,trivial⟩
     refine ⟨atF (l:=[[115,101,114,118,101,114],e.name]) rfl (by simp) rfl,Qc _ _ _ _ trivial,?_,Qc _ _ _ _ trivial,trivial⟩
     show conv _ _ _ (.hd 22000 0 0) (.hd 1 0 0)
     simp [conv]
   have htk:List.take k (((ls.take k).map akD).map Kk.v) = ((ls.take k).map akD).map Kk.v:=List.take_of_length_le (by rw [List.length_map,List.length_map,List.length_take];omega)
   by_cases hke:k = ls.length
   ·subst hke
    have e1:decide ((ls.length:Int) < ((ls.length:Nat):Int)) = false:=by simp
    simp only [aye,stL,List.take_length] at htk ⊢
    (have zx:=And.intro e1 lml);refine zgo ?_;repeat' first|exact zt|apply zan|intro hc
    all_goals
     refine Qn _ rfl ?_
     show conv _ _ _ (.tup [.hd 2002 0 1,V.int 0]) _
     simp only [conv]
     refine ⟨?_,Qc _ _ _ (V.int 0) trivial,trivial⟩
     rw [al8]
     refine ⟨trivial,by simp,.inr ⟨true,_,rfl,?_,⟨by simp,trivial⟩,⟨trivial,trivial,trivial,trivial,trivial⟩,trivial⟩⟩
     refine ⟨?_,trivial⟩
     simp only [conv]
     refine ⟨Qc _ _ _ _ trivial,Qc _ _ _ _ trivial,?_,Qc _ _ _ _ trivial,trivial⟩
     rw [al8]
     exact ⟨trivial,by simp,.inl ⟨true,_,rfl,by rw [List.drop_zero,List.take_of_length_le (by simp)]⟩⟩
   ·obtain ⟨x,hx⟩:∃ x,ls[k]? = some x:=⟨ls[k]'(by omega),List.getElem?_eq_getElem (by omega)⟩
    have hw:=Qj (k:=k) (by omega)
    have e1:decide ((k:Int) < ((ls.length:Nat):Int)) = true:=by simp;omega
    obtain ⟨s1,s2⟩:=hsmall x (List.mem_of_getElem? hx)
    obtain ⟨xw,xv⟩:=x
    simp only at s1 s2
    have htv:=ajZ xv
    have hlv:(xv.map V.str).length = xv.length:=List.length_map _
    have hx2:(ls.map PLn.v)[k]? = some (.agg [V.str xw,.sl 1 (xv.map V.str)]):=by rw [List.getElem?_map,hx];rfl
    simp only [aye,stL] at htk ⊢
    (have zx:=And.intro e1 (And.intro lml (And.intro hw (And.intro hx2 (And.intro htk (And.intro htv hlv))))));refine zgo ?_;repeat' first|exact zt|apply zan|intro hc
    all_goals
     refine hL _ (k + 1) (by omega) (by omega) (VJ [0,15002] none (fun p hp=>?_) ?_ (by simp) (by rw [hm];rfl))
     ·simp only [List.mem_cons,List.not_mem_nil,or_false] at hp
      rcases hp with rfl|rfl|rfl|rfl
      ·show conv _ _ _ (.ptr 0 0) (.ptr 0 0)
       simp [conv]
      ·exact Qc _ _ _ (.sl 2 _) trivial
      ·exact Qc _ _ _ (V.int ls.length) trivial
      ·exact Qc _ _ _ (V.int (k + 1:Nat)) trivial
     ·refine ⟨⟨_,rfl,fun h=>h,Qc _ _ _ (.sl 1 _) trivial,Qc _ _ _ (V.bool true) trivial,?_,Qc _ _ _ (V.int 0) trivial,trivial⟩,⟨_,rfl,fun h=>h,rfl,?_,ad6 _⟩,trivial⟩
      ·show conv _ _ _ (.hd 15002 0 (k + 1)) (.hd 1 0 (k + 1))
       simp [conv]
      ·have hB:ls.take (k + 1) = ls.take k++[⟨xw,xv⟩]:=by rw [List.take_add_one,hx];rfl
       rw [hB,List.map_append,List.map_append]
       refine aiT ?_ _
       exact ⟨at0 rfl (by decide),trivial⟩
  ·rw [if_neg hal] at h0 ⊢
   simp only [QL.v,QL.cells] at h0 ⊢
   exact zg
 ·rw [if_neg hck] at h0 ⊢
  simp only [QL.v,QL.cells] at h0 ⊢
  exact zg
def awb (e:QL) (ls:List PLn) (k:Nat):St :=
 stL [(6,.sl 3 (ls.map PLn.v3)),(8,.ptr 0 0),(9,V.int k)] [.box true [.sl 1 ([[115,101,114,118,101,114],e.name].map V.str),V.bool true,.hd 1 0 k,V.int 0],.buf true 4 (((ls.take k).map akD).map Kk.v)]
@[go_sem] def Yc:AO:=xo 36 (.bslice 1 1 false [vs0] [(0,(.t 35))])
@[go_sem] def VL:AO:=xo 42 (.append 1 16 [vs0] (.t 36) (.t 41))
@[go_sem] def jW:AO:=xo 43 (.build [vn0,(.bool false),vn0,vi0] [(0,1,(.t 42))])
@[go_sem] def jV:AO:=xo 44 (.obslice 1 4 true [vn0,(.bool false),vn0,vi0] [(0,(.t 43))])
@[go_sem] def jU:AO:=xo 45 (.append 4 64 [vn0,(.bool false),vn0,vi0] (.t 30) (.t 44))
def vY:List AO:=[fa 29 2 8,ld 30 1 29,mv 31 6,mv 32 9,ia 33 3 31 32,fa 34 0 33,ld 35 1 34,Yc,mv 37 6,mv 38 9,ia 39 3 37 38,fa 40 1 39,ld 41 1 40,VL,jW,jV,jU,fa 46 2 8,xs 1 46 45]
def aak:List (List Nat):=[[],[0],[],[],[2,3],[4],[5],[6],[],[],[8,9],[10],[11],[7,12],[13],[14],[1,15,13],[0,1,2,3,4,5,6,7,8,9,10,11,12,13,14,15,16],[17,16,16,0,1,2,3,4,5,6,7,8,9,10,11,12,13,14,15,16]]
def WA:OT:=.one 14 (.one 15 (.one 16 (.one 17 (.one 18 .done))))
def Uq:OT:=.one 12 (.one 13 WA)
def yY:OT:=.one 10 (.one 11 Uq)
def Up:OT:=.one 6 (.one 7 (.one 13 WA))
def Uo:OT:=.or 6 (.one 7 Uq) (.or 12 Up .done)
def yX:OT:=.or 6 (.one 7 yY) (.or 10 (.one 11 Uo) .done)
def yW:OT:=.one 4 (.one 5 Up)
def yV:OT:=.or 4 (.one 5 Uo) (.or 12 yW .done)
def yU:OT:=.or 1 (.one 13 WA) (.or 13 (.one 1 WA) .done)
def yT:OT:=.or 1 Uq (.or 12 yU .done)
def jY:OT:=.or 1 Up (.or 6 (.one 7 yU) .done)
def jX:OT:=.or 1 Uo (.or 6 (.one 7 yT) (.or 12 jY .done))
def vE:OT:=.one 0 (.one 2 (.one 3 (.one 8 (.one 9 (.or 1 (.or 4 (.one 5 yX) (.or 10 (.one 11 yV) .done)) (.or 4 (.one 5 (.or 1 yX (.or 6 (.one 7 (.or 1 yY (.or 10 (.one 11 yT) .done))) (.or 10 (.one 11 jX) .done)))) (.or 10 (.one 11 (.or 1 yV (.or 4 (.one 5 jX) (.or 12 (.or 1 yW (.or 4 (.one 5 jY) .done)) .done)))) .done)))))))
@[go_sem] def xh:OP:=oN 14 jW (.one 15 false [13,7] jV (.one 16 true [15,13,7] jU (oN 17 (fa 46 2 8) (.one 18 true [16,15,13,7] (xs 1 46 45) .done))))
@[go_sem] def Uu:OP:=.one 13 true [7] VL xh
@[go_sem] def Ut:OP:=.one 12 true [] (ld 41 1 40) Uu
@[go_sem] def xf:OP:=.one 10 true [] (ia 39 3 37 38) (oN 11 (fa 40 1 39) Ut)
@[go_sem] def Us:OP:=.one 6 true [] (ld 35 1 34) (oN 7 Yc Uu)
@[go_sem] def Ur:OP:=.or 6 true [] (ld 35 1 34) (oN 7 Yc Ut) (.or 12 true [] (ld 41 1 40) Us .done)
@[go_sem] def xe:OP:=.or 6 true [] (ld 35 1 34) (oN 7 Yc xf) (.or 10 true [] (ia 39 3 37 38) (oN 11 (fa 40 1 39) Ur) .done)
@[go_sem] def xd:OP:=.one 4 true [] (ia 33 3 31 32) (oN 5 (fa 34 0 33) Us)
@[go_sem] def xc:OP:=.or 4 true [] (ia 33 3 31 32) (oN 5 (fa 34 0 33) Ur) (.or 12 true [] (ld 41 1 40) xd .done)
@[go_sem] def xb:OP:=.or 1 true [] (ld 30 1 29) Uu (.or 13 true [7] VL (.one 1 true [] (ld 30 1 29) xh) .done)
@[go_sem] def j4:OP:=.or 1 true [] (ld 30 1 29) Ut (.or 12 true [] (ld 41 1 40) xb .done)
@[go_sem] def j3:OP:=.or 1 true [] (ld 30 1 29) Us (.or 6 true [] (ld 35 1 34) (oN 7 Yc xb) .done)
@[go_sem] def j2:OP:=.or 1 true [] (ld 30 1 29) Ur (.or 6 true [] (ld 35 1 34) (oN 7 Yc j4) (.or 12 true [] (ld 41 1 40) j3 .done))
@[go_sem] def vQ:OP:=oN 0 (fa 29 2 8) (oN 2 (mv 31 6) (oN 3 (mv 32 9) (oN 8 (mv 37 6) (oN 9 (mv 38 9) (.or 1 true [] (ld 30 1 29) (.or 4 true [] (ia 33 3 31 32) (oN 5 (fa 34 0 33) xe) (.or 10 true [] (ia 39 3 37 38) (oN 11 (fa 40 1 39) xc) .done)) (.or 4 true [] (ia 33 3 31 32) (oN 5 (fa 34 0 33) (.or 1 true [] (ld 30 1 29) xe (.or 6 true [] (ld 35 1 34) (oN 7 Yc (.or 1 true [] (ld 30 1 29) xf (.or 10 true [] (ia 39 3 37 38) (oN 11 (fa 40 1 39) j4) .done))) (.or 10 true [] (ia 39 3 37 38) (oN 11 (fa 40 1 39) j2) .done)))) (.or 10 true [] (ia 39 3 37 38) (oN 11 (fa 40 1 39) (.or 1 true [] (ld 30 1 29) xc (.or 4 true [] (ia 33 3 31 32) (oN 5 (fa 34 0 33) j2) (.or 12 true [] (ld 41 1 40) (.or 1 true [] (ld 30 1 29) xd (.or 4 true [] (ia 33 3 31 32) (oN 5 (fa 34 0 33) j3) .done)) .done)))) .done)))))))
instance:RG [1,4,6,10,12] vE (vQ) (vY) aak 19 (fun _=>false):=⟨rfl,by kernel_rfl,by kernel_rfl⟩
def yq (XB:Nat):AC:=Qa [1,2] (.reg [xo 2 (.box true 9 (.t 0)),xo 4 (.mknil 4),mc 5 (V.int 0)]) (Qa [2,6,7] (.reg [xo 11 (.load true 9 (.t 2)),mv 12 1,xo 13 (.call XB [(.t 11),(.t 12),(.c (V.bool false))]),mv 10 13,ex 14 10 0,ex 15 10 1,mv 6 14,mv 7 15]) (Qa [2,6] (Qa [2,6,7,17] (.reg [mv 16 7,bc 17 .neq 16 (V.int 0)]) (.cond (.t 17) (Qa [4,5] (.reg [mv 18 7,xo 4 (.mknil 4),mv 5 18]) .ret) .skip)) (Qa [6,8] (.reg [fa 19 0 2,ld 20 1 19,xo 21 (.bslice 2 1 false [vs0] [(0,(.c (V.str [115,101,114,118,101,114]))),(1,(.t 20))]),xo 22 (.build [vn0,(.bool false),vn0,vi0] [(0,1,(.t 21)),(1,1,(.c (V.bool true)))]),xo 8 (.alloc [.nil 1,.val (.bool false),.nil 4,.val vi0]),xs 4 8 22]) (Qa [8] (Qa [6,8,9] (.reg [mc 9 (V.int 0)]) (.block 0 (JH [6,8,9] (Qa [6,8,9] (Qa [6,8,9,26] (.reg [mv 23 9,mv 24 6,ln 25 24,bn 26 .lss 23 25]) (.cond (.t 26) .skip (.exit 0))) (Qa [6,8,9] (.block 1 (yh [1,4,6,10,12] vE (vQ) (vY) aak)) (.reg [mv 27 9,bc 28 .add 27 (V.int 1),mv 9 28])))))) (Qa [4,5] (.reg [xo 47 (.load true 4 (.t 8)),xo 48 (.obslice 1 4 true [vn0,(.bool false),vn0,vi0] [(0,(.t 47))]),mv 4 48,mc 5 (V.int 0)]) .ret))))) def r_ref09_ToBlocks:List Jl:=[.tmp 4,.tmp 5]
def jy (Γ:Env) (f:Nat):Prop:=∀ (e:QL) (al:List (List UInt8)) (sm:e.Sm) (ha:al.length < 2 ^ 30) (hn:∀ x∈al,x.length < 2 ^ 60),EvC Γ f [e.v,.sl 1 (al.map V.str)] (ad5 e al)
theorem aix {Γ:Env} {f XB:Nat} (h:Has Γ.P f 49 (yq XB) r_ref09_ToBlocks) (z0:jR Γ XB):jy Γ f:=by
 intro e al sm ha hn
 refine QV h zsi (afn _ _) fun C hC hm=>?_
 subst hC
 unfold yq
 have h0:=(z0 e al false sm ha hn).b
 rw [WC] at h0
 rw [ad5]
 by_cases hck:JS e = true
 ·rw [if_pos hck] at h0 ⊢
  by_cases hal:Wx e al = true
  ·rw [if_pos hal,if_neg (by simp)] at h0
   rw [if_pos hal]
   have hsmall:=wq sm hck hal
   have hll:(Jz e al).length≤8:=by
    have:=List.length_filter_le JQ (aax e al)
    simp only [Jz,VI,aax,List.length_append,List.length_cons,List.length_nil] at *
    omega
   have lml:((Jz e al).map PLn.v3).length = (Jz e al).length:=List.length_map _
   rw [alh,Kk.v_eq]
   simp only [QL.v,QL.cells] at h0 ⊢
   generalize Jz e al = ls at *
   (have zx:=lml);refine zgo ?_;repeat' first|exact zt|apply zan|intro hc
   refine ad7 17000 2 4 rfl rfl ?_
   refine jt (ι:=Nat) (fun k=>k≤ls.length) (fun k=>awb e ls k) (fun k=>ls.length - k) 0 (Nat.zero_le _) ?_ fun k hk K' hL=>?_
   ·refine VJ [17000,20000] none (fun p hp=>?_) ?_ (by simp) (by rw [hm];rfl)
    ·simp only [List.mem_cons,List.not_mem_nil,or_false] at hp
     rcases hp with rfl|rfl|rfl
     ·exact Qc _ _ _ (.sl 3 _) trivial
     ·show conv _ _ _ (.ptr 17000 0) (.ptr 0 0)
      simp [conv]
     ·exact Qc _ _ _ (V.int 0) trivial
    ·refine ⟨⟨_,rfl,fun h=>h,?_⟩,⟨_,rfl,fun h=>h,rfl,rfl⟩,trivial⟩
     refine ⟨atF (l:=[[115,101,114,118,101,114],e.name]) rfl (by simp) rfl,Qc _ _ _ _ trivial,?_,Qc _ _ _ _ trivial,trivial⟩
     show conv _ _ _ (.hd 20000 0 0) (.hd 1 0 0)
     simp [conv]
   have htk:List.take k (((ls.take k).map akD).map Kk.v) = ((ls.take k).map akD).map Kk.v:=List.take_of_length_le (by rw [List.length_map,List.length_map,List.length_take];omega)
   by_cases hke:k = ls.length
   ·subst hke
    have e1:decide ((ls.length:Int) < ((ls.length:Nat):Int)) = false:=by simp
    simp only [awb,stL,List.take_length] at htk ⊢
    (have zx:=And.intro e1 lml);refine zgo ?_;repeat' first|exact zt|apply zan|intro hc
    all_goals
     refine Qn _ rfl ?_
     show conv _ _ _ (.tup [.hd 5002 0 1,V.int 0]) _
     simp only [conv]
     refine ⟨?_,Qc _ _ _ (V.int 0) trivial,trivial⟩
     rw [al8]
     refine ⟨trivial,by simp,.inr ⟨true,_,rfl,?_,⟨by simp,trivial⟩,⟨trivial,trivial,trivial,trivial,trivial⟩,trivial⟩⟩
     refine ⟨?_,trivial⟩
     simp only [conv]
     refine ⟨Qc _ _ _ _ trivial,Qc _ _ _ _ trivial,?_,Qc _ _ _ _ trivial,trivial⟩
     rw [al8]
     exact ⟨trivial,by simp,.inl ⟨true,_,rfl,by rw [List.drop_zero,List.take_of_length_le (by simp)]⟩⟩
   ·obtain ⟨x,hx⟩:∃ x,ls[k]? = some x:=⟨ls[k]'(by omega),List.getElem?_eq_getElem (by omega)⟩
    have hw:=Qj (k:=k) (by omega)
    have e1:decide ((k:Int) < ((ls.length:Nat):Int)) = true:=by simp;omega
    obtain ⟨s1,s2⟩:=hsmall x (List.mem_of_getElem? hx)
    obtain ⟨xw,xv⟩:=x
    simp only at s1 s2
    have htv:=ajZ xv
    have hlv:(xv.map V.str).length = xv.length:=List.length_map _
    have hx2:(ls.map PLn.v3)[k]? = some (.agg [V.str xw,.sl 1 (xv.map V.str),V.int 0]):=by rw [List.getElem?_map,hx];rfl
    simp only [awb,stL] at htk ⊢
    (have zx:=And.intro e1 (And.intro lml (And.intro hw (And.intro hx2 (And.intro htk (And.intro htv hlv))))));refine zgo ?_;repeat' first|exact zt|apply zan|intro hc
    all_goals
     refine hL _ (k + 1) (by omega) (by omega) (VJ [0,20002] none (fun p hp=>?_) ?_ (by simp) (by rw [hm];rfl))
     ·simp only [List.mem_cons,List.not_mem_nil,or_false] at hp
      rcases hp with rfl|rfl|rfl
      ·exact Qc _ _ _ (.sl 3 _) trivial
      ·show conv _ _ _ (.ptr 0 0) (.ptr 0 0)
       simp [conv]
      ·exact Qc _ _ _ (V.int (k + 1:Nat)) trivial
     ·refine ⟨⟨_,rfl,fun h=>h,Qc _ _ _ (.sl 1 _) trivial,Qc _ _ _ (V.bool true) trivial,?_,Qc _ _ _ (V.int 0) trivial,trivial⟩,⟨_,rfl,fun h=>h,rfl,?_,ad6 _⟩,trivial⟩
      ·show conv _ _ _ (.hd 20002 0 (k + 1)) (.hd 1 0 (k + 1))
       simp [conv]
      ·have hB:ls.take (k + 1) = ls.take k++[⟨xw,xv⟩]:=by rw [List.take_add_one,hx];rfl
       rw [hB,List.map_append,List.map_append]
       refine aiT ?_ _
       exact ⟨at0 rfl (by decide),trivial⟩
  ·rw [if_neg hal] at h0 ⊢
   simp only [QL.v,QL.cells] at h0 ⊢
   exact zg
 ·rw [if_neg hck] at h0 ⊢
  simp only [QL.v,QL.cells] at h0 ⊢
  exact zg
end Av
end
section
namespace Av
open Go
mutual
def V.deep:V→List Nat
 | .hd a _ _=>[a]
 | .ptr a _=>[a]
 | .agg cs=>ao6 cs
 | .tup cs=>ao6 cs
 | .clo _ cs=>ao6 cs
 | .top=>[]
 | .sc _=>[]
 | .nn=>[]
 | .sl _ _=>[]
 | .ept _ _ _=>[]
 | .mp _=>[]
 | .ro _ _=>[]
def ao6:List V→List Nat
 | []=>[]
 | v :: r=>v.deep++ao6 r
end
attribute [go_sem] V.deep ao6 List.nil_append List.append_nil List.cons_append
section
variable {Γ:Env} {b:Nat} {r:List AO} {s:St} {d:Option Nat} {f:FuncId} {acts args:List V} {res:V} {K:St→Prop} {okf:Option (List Nat)→Prop}
theorem ari (h:EvC Γ f args res) (hc:okf (some (ao6 acts))) (hk:x8 Γ (b + KK) r { t:=(s.put d res).t,o:=acU (some (ao6 acts)) [] s.o,n:=s.n } K):arj Γ b r s d f acts args okf K:=by
 rintro rfl rfl
 refine WL ⟨_,_,_,_,[],some (ao6 acts),h.1,Y7 _ _ _ hc,trivial,List.nodup_nil,fun x hx=>by simp at hx,by simp,by simp [KK],fun h=>by simp at h,?_⟩
 simp only [WT,WV,YP _ _ h.2]
 exact hk
end
end Av
end
section
set_option maxRecDepth 10000
set_option maxHeartbeats 4000000
namespace Av
open Go
attribute [local irreducible] AWp x8 adc afE awS awC am1 awQ anX Yf abo ama awR acg awB okR agS ris
def apH (h:Int) (c:UInt8):Int:=IntKind.u32.wrap (IntKind.u32.wrap ((BitVec.ofInt IntKind.u32.bits h ^^^ BitVec.ofInt IntKind.u32.bits (IntKind.u32.wrap (c.toNat:Int))).toNat:Nat) * 16777619)
def auq:Int→List UInt8→Int
 | h,[]=>h
 | h,c :: r=>auq (apH h c) r
def aur (b:List UInt8):Int:=IntKind.i64.wrap (auq 2166136261 b)
def ago:AC:=Qa [0] (.reg [mc 2 (V.int 0)]) (Qa [0,3] (.reg [mc 3 (.sc (.int .u32 2166136261))]) (Qa [3] (Qa [0,3,4] (.reg [mc 4 (V.int 0)]) (.block 0 (JH [0,3,4] (Qa [0,3,4] (Qa [0,3,4,8] (.reg [mv 5 4,mv 6 0,ln 7 6,bn 8 .lss 5 7]) (.cond (.t 8) .skip (.exit 0))) (Qa [0,3,4] (.block 1 (.reg [mv 11 3,mv 12 0,mv 13 4,ia 14 1 12 13,ld 15 1 14,xo 16 (.convI .u32 (.t 15)),bn 17 .xor 11 16,bc 18 .mul 17 (.sc (.int .u32 16777619)),mv 3 18])) (.reg [mv 9 4,bc 10 .add 9 (V.int 1),mv 4 10])))))) (Qa [2] (.reg [mv 19 3,xo 20 (.convI .i64 (.t 19)),mv 2 20]) .ret))) def r_ref03_Sum:List Jl:=[.tmp 2]
def aes (Γ:Env) (f:Nat):Prop:=∀ (b:List UInt8) (hb:b.length < 2 ^ 60),EvN Γ f [.sl 1 (abn b)] (V.int (aur b))
theorem aoV {Γ:Env} {f:Nat} (h:Has Γ.P f 21 ago r_ref03_Sum) :aes Γ f:=by
 intro b hb
 refine Qe h zsi zcl zcl fun C hC hm=>?_
 subst hC
 unfold ago
 have hln:(abn b).length = b.length:=anV b
 have hst:∀ h c,apH h c = IntKind.u32.wrap (IntKind.u32.wrap ((BitVec.ofInt IntKind.u32.bits h ^^^ BitVec.ofInt IntKind.u32.bits (IntKind.u32.wrap (c.toNat:Int))).toNat:Nat) * 16777619):=fun _ _=>rfl
 (have zx:=hln);refine zgo ?_;repeat' first|exact zt|apply zan|intro hc
 refine QP (ι:=Nat×Int) (fun q=>q.1≤b.length∧auq q.2 (b.drop q.1) = auq 2166136261 b) (fun q=>[(3,.sc (.int .u32 q.2)),(4,V.int q.1)]) (fun q=>b.length - q.1) (0,2166136261) (by omega) ⟨Nat.zero_le _,rfl⟩ (by repeat' first|exact Q8|refine JD (by omega) (by simp only [Ob.lt,ltL,V.lt,and_self,and_true];try omega) ?_) (fun i hi=>by simp only [ovT,Ji,Nat.reduceEqDiff,reduceIte];(repeat' first|exact JC|refine Q7 ?_ ?_|simp only [V.lt,ltL,and_self,and_true]|omega)) zet fun q hq K' hL=>?_
 obtain ⟨k,h⟩:=q
 simp only at hq hL ⊢
 obtain ⟨hk,hinv⟩:=hq
 simp only [ovT,Ji,Nat.reduceEqDiff,reduceIte]
 rcases hd:b.drop k with _|⟨y,r⟩
 ·have hkl:=Qs hd
  have e1:decide ((k:Int) < ((b.length:Nat):Int)) = false:=by simp;omega
  rw [hd] at hinv
  have hs:aur b = IntKind.i64.wrap h:=by rw [aur,← hinv];rfl
  rw [hs]
  (have zx:=And.intro hln e1);exact zg
 ·obtain ⟨hk',hget,hr⟩:=Ql hd
  have hw:=Qj (k:=k) (by omega)
  have e1:decide ((k:Int) < ((b.length:Nat):Int)) = true:=by simp;omega
  have hg2:(abn b)[k]? = some (.sc (.int .u8 y.toNat)):=by rw [List.getElem?_map,hget];rfl
  rw [hd] at hinv
  repeat' (first|(refine zsk ?_;intro K' hK)|refine zsp ?_|(refine zsc ?_ ?_<;>intro hc<;>first|exact znh|try simp only [znz] at hc)|simp (maxSteps:=1000000) only [go_sem,hln,e1,hw,Int.toNat_natCast,hg2,← hst]|(refine hK _ ?_;clear hK K')|apply zan|exact zsq|fail)
  all_goals first|exact hL _ (k + 1,apH h y) zet ⟨hk',by rw [hr,← hinv];rfl⟩ (by simp only;omega) (fun a ha=>by simp only [u32,u33,u34,u35,u36,u37,u38,u39];repeat rw [if_neg (by omega)])
theorem auV (n:Int):(axY n).length≤10:=by
 have:∀ (k:Nat) (x:Int) (b:List UInt8),(aoJ k x b).length≤k + b.length:=by
  intro k
  induction k with
  | zero=>intro x b;rw [aoJ];omega
  | succ k ih =>
    intro x b
    rw [aoJ]
    split
    ·have:=ih (x.fdiv 256) (u8i x :: b);rw [List.length_cons] at this;omega
    ·omega
 have h:=this 9 (n.fdiv 256) [u8i n]
 rw [List.length_singleton] at h
 exact h
theorem xC (n:Int):(ac0 n).siz≤11:=by have:=auV n;rw [ac0,JM.siz,ae8];omega
def agI (a b:Int):JM:=apA [ac0 a,ac0 b]
theorem aoe (a b:Int):(agI a b).siz≤30:=by
 have h1:=xC a
 have h2:=xC b
 rw [agI,apA,JM.siz,ae8,ae8,ae8,List.length_nil];omega
def agW (QH QO:Nat):List AO:=[fa 3 0 1,ld 4 1 3,cl 5 QH [4],fa 6 1 1,ld 7 1 6,cl 8 QH [7],xo 9 (.obslice 2 4 true [vi0,vn0,(.bool false),vn0] [(0,(.t 5)),(1,(.t 8))]),cl 10 QO [9],xs 4 2 10]
def ahP:List (List Nat):=[[],[0],[1],[],[3],[4,2],[2,5],[6,5],[7,7,0,1,2,3,4,5,6,7]]
def agL:OT:=.one 0 (.one 1 (.one 2 (.one 3 (.one 4 (.one 5 (.one 6 (.one 7 (.one 8 .done))))))))
@[go_sem] def agT (QH QO:Nat):OP:=oN 0 (fa 3 0 1) (oN 1 (ld 4 1 3) (oN 2 (cl 5 QH [4]) (oN 3 (fa 6 1 1) (oN 4 (ld 7 1 6) (oN 5 (cl 8 QH [7]) (.one 6 false [5,2] (xo 9 (.obslice 2 4 true [vi0,vn0,(.bool false),vn0] [(0,(.t 5)),(1,(.t 8))])) (.one 7 true [6,5,2] (cl 10 QO [9]) (.one 8 true [7,6,5,2] (xs 4 2 10) .done))))))))
instance (QH QO:Nat):RG [7] agL (agT QH QO) (agW QH QO) ahP 9 (fun y=>!decide (y = 1000)):=⟨rfl,by kernel_rfl,by kernel_rfl⟩
def agn (QH QO:Nat):AC:=Qa [1,2] (.reg [xo 1 (.box true 2 (.t 0)),xo 2 (.alloc [.val vi0,.nil 1,.val (.bool false),.nil 4])]) (Qa [2] (yh [7] agL (agT QH QO) (agW QH QO) ahP) .ret) def r_ref03_use:List Jl:=[.cell 2 true 4]
def aer (Γ:Env) (f:Nat):Prop:=∀ (a b:Int) (h0:-9223372036854775808≤a) (h1:a < 9223372036854775808) (h2:-9223372036854775808≤b) (h3:b < 9223372036854775808),EvC Γ f [.agg [V.int a,V.int b]] ((agI a b).v)
theorem aoU {Γ:Env} {f QH QO:Nat} (h:Has Γ.P f 11 (agn QH QO) r_ref03_use) (z0:aas Γ QH) (z1:xO Γ QO):aer Γ f:=by
 intro a b h0 h1 h2 h3
 refine QV h zsi (JM.v_closed _) fun C hC hm=>?_
 subst hC
 unfold agn
 have ia:=(z0 a h0 h1).b
 have ib:=(z0 b h2 h3).b
 have hsa:=xC a
 have hsb:=xC b
 have il:=z1 [ac0 a,ac0 b] (by rw [ae8,ae8,ae8];omega)
 simp only [List.map_cons,List.map_nil,apA,JM.v_eq] at il
 obtain ⟨cs,hcs,hl4,hcl,hcc⟩:=JM.v_agg (ac0 a)
 simp only [ac0,JM.v_eq] at ia ib il
 simp only [agI,apA,JM.v_eq,List.map_cons,List.map_nil,ac0]
 repeat' (first|(refine zsk ?_;intro K' hK)|(refine zrg ?_;intro K' hK)|refine zsp ?_|(refine zsc ?_ ?_<;>intro hc<;>first|exact znh|try simp only [znz] at hc)|simp (maxSteps:=1000000) only [go_sem,V.shutOk0,jI,V.shut0,vM,ntL,not_false_eq_true]|(refine hK _ ?_;clear hK K')|apply zan|(apply aua;(focus first|exact il))|(apply aub;(focus first|exact il);(focus first|exact rfl|decide))|((first|apply Jb|apply Q6);(focus first|exact ia|exact ib|exact (z0 _ zsd zsd).b|exact (z1 _ zsd).b))|exact zsq|fail)
 all_goals first|exact zr
abbrev I60 (n:Int):Prop:=-1152921504606846976≤n∧n≤1152921504606846976
structure Qw.T (c:Qw):Prop where
 i1:I60 c.serial
 i2:I60 c.kalg
 i3:I60 c.kbits
 i4:I60 c.kid
 i5:I60 c.halg
 i6:I60 c.hbits
 i7:I60 c.from_
 i8:I60 c.to_
 i9:I60 c.path
 l1:c.issuer.length≤1000
 l2:c.subject.length≤1000
 l3:c.names.length≤64
 l4:∀ x∈c.names,x.length≤1000
def ahN (c:Qw):JM:=apA [ac0 c.serial,agE c.issuer,agE c.subject,agI c.kalg c.kbits,ac0 c.kid,agI c.halg c.hbits,ac0 c.from_,ac0 c.to_,aup c.auth,ac0 c.path,apA (c.names.map agE)]
theorem aqs (s:List UInt8):(agE s).siz = 1 + s.length:=by rw [agE,JM.siz,ae8,Nat.add_zero]
theorem auo (b:Bool):(aup b).siz = 2:=by rw [aup,JM.siz,ae8];simp
theorem akB:∀ {l:List (List UInt8)},(∀ x∈l,x.length≤1000)→ae8 (l.map agE)≤1001 * l.length
 | [],_=>Nat.le_refl _
 | x :: r,h=>by
   have h1:=akB (l:=r) fun y hy=>h y (by simp [hy])
   have h2:=h x (by simp)
   rw [List.map_cons,ae8,aqs,List.length_cons];omega
theorem aph {c:Qw} (t:c.T):(ahN c).siz≤100000:=by
 have h1:=akB t.l4
 have h2:=t.l1
 have h3:=t.l2
 have h4:=t.l3
 have i1:=xC c.serial
 have i2:=xC c.kid
 have i3:=xC c.from_
 have i4:=xC c.to_
 have i5:=xC c.path
 have u1:=aoe c.kalg c.kbits
 have u2:=aoe c.halg c.hbits
 simp only [ahN,apA,JM.siz,ae8,aqs,auo,List.length_nil]
 omega
def ayd (c:Qw) (k:Nat):St:=stL [(1,.ptr 0 0),(2,.ptr 1 0),(3,.hd 4 0 k),(4,V.int k)] [.box true c.cells,.box true [V.int 0,.hd 2 0 0,V.bool false,.hd 3 0 0],.buf true 1 [],.buf true 4 [],.buf true 4 (((c.names.take k).map agE).map JM.v)]
def afk (QH J2 YK YT QO:Nat):List AO:=[fa 21 0 1,ld 22 1 21,cl 23 QH [22],fa 24 1 1,ld 25 1 24,cl 26 J2 [25],fa 27 2 1,ld 28 1 27,cl 29 J2 [28],fa 30 3 1,xo 31 (.load true 2 (.t 30)),cl 32 YK [31],fa 33 5 1,ld 34 1 33,cl 35 QH [34],fa 36 6 1,xo 37 (.load true 2 (.t 36)),cl 38 YK [37],fa 39 8 1,ld 40 1 39,cl 41 QH [40],fa 42 9 1,ld 43 1 42,cl 44 QH [43],fa 45 10 1,ld 46 1 45,cl 47 YT [46],fa 48 11 1,ld 49 1 48,cl 50 QH [49],mv 51 3,cl 52 QO [51],xo 53 (.obslice 11 4 true [vi0,vn0,(.bool false),vn0] [(0,(.t 23)),(1,(.t 26)),(2,(.t 29)),(3,(.t 32)),(4,(.t 35)),(5,(.t 38)),(6,(.t 41)),(7,(.t 44)),(8,(.t 47)),(9,(.t 50)),(10,(.t 52))]),cl 54 QO [53],xs 4 2 54]
def afu:List (List Nat):=[[],[0],[1],[],[3],[4,2],[],[6],[7,5],[],[9],[10,8],[],[12],[13,11],[],[15],[16,14],[],[18],[19,17],[],[21],[22,20],[],[24],[25,23],[],[27],[28,26],[],[30,29],[2,5,8,11,14,17,20,23,26,29,31],[32,31],[33,33,0,1,2,3,4,5,6,7,8,9,10,11,12,13,14,15,16,17,18,19,20,21,22,23,24,25,26,27,28,29,30,31,32,33]]
def ae7:OT:=.one 0 (.one 1 (.one 2 (.one 3 (.one 4 (.one 5 (.one 6 (.one 7 (.one 8 (.one 9 (.one 10 (.one 11 (.one 12 (.one 13 (.one 14 (.one 15 (.one 16 (.one 17 (.one 18 (.one 19 (.one 20 (.one 21 (.one 22 (.one 23 (.one 24 (.one 25 (.one 26 (.one 27 (.one 28 (.one 29 (.one 30 (.one 31 (.one 32 (.one 33 (.one 34 .done))))))))))))))))))))))))))))))))))
@[go_sem] def aff (QH J2 YK YT QO:Nat):OP:=oN 0 (fa 21 0 1) (oN 1 (ld 22 1 21) (oN 2 (cl 23 QH [22]) (oN 3 (fa 24 1 1) (oN 4 (ld 25 1 24) (oN 5 (cl 26 J2 [25]) (oN 6 (fa 27 2 1) (oN 7 (ld 28 1 27) (oN 8 (cl 29 J2 [28]) (oN 9 (fa 30 3 1) (oN 10 (xo 31 (.load true 2 (.t 30))) (oN 11 (cl 32 YK [31]) (oN 12 (fa 33 5 1) (oN 13 (ld 34 1 33) (oN 14 (cl 35 QH [34]) (oN 15 (fa 36 6 1) (oN 16 (xo 37 (.load true 2 (.t 36))) (oN 17 (cl 38 YK [37]) (oN 18 (fa 39 8 1) (oN 19 (ld 40 1 39) (oN 20 (cl 41 QH [40]) (oN 21 (fa 42 9 1) (oN 22 (ld 43 1 42) (oN 23 (cl 44 QH [43]) (oN 24 (fa 45 10 1) (oN 25 (ld 46 1 45) (oN 26 (cl 47 YT [46]) (oN 27 (fa 48 11 1) (oN 28 (ld 49 1 48) (oN 29 (cl 50 QH [49]) (oN 30 (mv 51 3) (.one 31 true [] (cl 52 QO [51]) (.one 32 false [31,29,26,23,20,17,14,11,8,5,2] (xo 53 (.obslice 11 4 true [vi0,vn0,(.bool false),vn0] [(0,(.t 23)),(1,(.t 26)),(2,(.t 29)),(3,(.t 32)),(4,(.t 35)),(5,(.t 38)),(6,(.t 41)),(7,(.t 44)),(8,(.t 47)),(9,(.t 50)),(10,(.t 52))])) (.one 33 true [32,31,29,26,23,20,17,14,11,8,5,2] (cl 54 QO [53]) (.one 34 true [33,32,31,29,26,23,20,17,14,11,8,5,2] (xs 4 2 54) .done))))))))))))))))))))))))))))))))))
instance (QH J2 YK YT QO:Nat):RG [31,33] ae7 (aff QH J2 YK YT QO) (afk QH J2 YK YT QO) afu 35 (fun y=>!decide (y = 1) && !decide (y = 4)):=⟨rfl,by kernel_rfl,by kernel_rfl⟩
def adR (J2 QH YK YT QO:Nat):AC:=Qa [1,2] (.reg [xo 1 (.box true 15 (.t 0)),xo 2 (.alloc [.val vi0,.nil 1,.val (.bool false),.nil 4])]) (Qa [1,2,3] (.reg [xo 3 (.mknil 4)]) (Qa [1,2,3] (Qa [1,2,3,4] (.reg [mc 4 (V.int 0)]) (.block 0 (JH [1,2,3,4] (Qa [1,2,3,4] (Qa [1,2,3,4,9] (.reg [mv 5 4,fa 6 12 1,ld 7 1 6,ln 8 7,bn 9 .lss 5 8]) (.cond (.t 9) .skip (.exit 0))) (Qa [1,2,3,4] (.block 1 (.reg [mv 12 3,fa 13 12 1,ld 14 1 13,mv 15 4,ia 16 1 14 15,ld 17 1 16,cl 18 J2 [17],xo 19 (.obslice 1 4 true [vi0,vn0,(.bool false),vn0] [(0,(.t 18))]),xo 20 (.append 4 64 [vi0,vn0,(.bool false),vn0] (.t 12) (.t 19)),mv 3 20])) (.reg [mv 10 4,bc 11 .add 10 (V.int 1),mv 4 11])))))) (Qa [2] (yh [31,33] ae7 (aff QH J2 YK YT QO) (afk QH J2 YK YT QO) afu) .ret))) def r_ref03_body:List Jl:=[.cell 2 true 4]
def acv (Γ:Env) (f:Nat):Prop:=∀ (c:Qw) (hc:c.T),EvC Γ f [c.v] ((ahN c).v)
theorem anC {Γ:Env} {f J2 QH YK YT QO:Nat} (h:Has Γ.P f 55 (adR J2 QH YK YT QO) r_ref03_body) (z0:acA Γ J2) (z1:aas Γ QH) (z2:aer Γ YK) (z3:acB Γ YT) (z4:xO Γ QO):acv Γ f:=by
 intro c hc
 refine QV h zsi (JM.v_closed _) fun C hC hm=>?_
 subst hC
 unfold adR
 have hl3:=hc.l3
 have hln:(c.names.map V.str).length = c.names.length:=List.length_map _
 simp only [Qw.v]
 repeat' (first|(refine zsk ?_;intro K' hK)|(refine zrg ?_;intro K' hK)|refine zsp ?_|(refine zsc ?_ ?_<;>intro hc<;>first|exact znh|try simp only [znz] at hc)|simp (maxSteps:=1000000) only [go_sem,Qw.cells]|(refine hK _ ?_;clear hK K')|apply zan|((first|apply Jb|apply Q6);(focus first|exact (z0 _ zsd).b|exact (z1 _ zsd zsd).b|exact (z2 _ _ zsd zsd zsd zsd).b|exact (z3 _).b|exact (z4 _ zsd).b))|exact zsq|fail)
 have hcl:closedL c.cells:=by simp only [Qw.cells,V.closed,closedL,and_self]
 refine jt (ι:=Nat) (fun k=>k≤c.names.length) (fun k=>ayd c k) (fun k=>c.names.length - k) 0 (Nat.zero_le _) ?_ fun k hk K' hL=>?_
 ·refine VJ [0,1000,1002,1004,2000] none (fun p hp=>?_) ?_ (by simp) (by rw [hm];rfl)
  ·simp only [List.mem_cons,List.not_mem_nil,or_false] at hp
   rcases hp with rfl|rfl|rfl|rfl
   ·show conv _ _ _ (.ptr 0 0) (.ptr 0 0)
    simp [conv]
   ·show conv _ _ _ (.ptr 1000 0) (.ptr 1 0)
    simp [conv]
   ·show conv _ _ _ (.hd 2000 0 0) (.hd 4 0 0)
    simp [conv]
   ·exact Qc _ _ _ (V.int 0) trivial
  ·exact ⟨⟨_,rfl,fun h=>h,Qg _ _ _ _ hcl⟩,⟨_,rfl,fun h=>h,by show Jd _ _ _ [_,_,_,_] _;simp [Jd,conv,V.int,V.bool]⟩,⟨_,rfl,fun h=>h,rfl,rfl⟩,⟨_,rfl,fun h=>h,rfl,rfl⟩,⟨_,rfl,fun h=>h,rfl,rfl⟩,trivial⟩
 rcases hd:c.names.drop k with _|⟨y,r⟩
 ·have hkl:=Qs hd
  have e1:decide ((k:Int) < ((c.names.length:Nat):Int)) = false:=by simp;omega
  obtain rfl:k = c.names.length:=by omega
  simp only [ayd,stL,List.take_length]
  have ns:=akB hc.l4
  have i1:=(z1 c.serial (by have:=hc.i1;omega) (by have:=hc.i1;omega)).b
  have i2:=(z1 c.kid (by have:=hc.i4;omega) (by have:=hc.i4;omega)).b
  have i3:=(z1 c.from_ (by have:=hc.i7;omega) (by have:=hc.i7;omega)).b
  have i4:=(z1 c.to_ (by have:=hc.i8;omega) (by have:=hc.i8;omega)).b
  have i5:=(z1 c.path (by have:=hc.i9;omega) (by have:=hc.i9;omega)).b
  have t1:=(z0 c.issuer (by have:=hc.l1;omega)).b
  have t2:=(z0 c.subject (by have:=hc.l2;omega)).b
  have u1:=(z2 c.kalg c.kbits (by have:=hc.i2;omega) (by have:=hc.i2;omega) (by have:=hc.i3;omega) (by have:=hc.i3;omega)).b
  have u2:=(z2 c.halg c.hbits (by have:=hc.i5;omega) (by have:=hc.i5;omega) (by have:=hc.i6;omega) (by have:=hc.i6;omega)).b
  have b1:=(z3 c.auth).b
  have htn:List.take c.names.length ((c.names.map agE).map JM.v) = (c.names.map agE).map JM.v:=List.take_of_length_le (by simp)
  have n1:=z4 (c.names.map agE) (by omega)
  have bs:=aph hc
  have l1:=z4 [ac0 c.serial,agE c.issuer,agE c.subject,agI c.kalg c.kbits,ac0 c.kid,agI c.halg c.hbits,ac0 c.from_,ac0 c.to_,aup c.auth,ac0 c.path,apA (c.names.map agE)] (by rw [ahN,apA,JM.siz] at bs;omega)
  have hb:(ahN c).v = (apA [ac0 c.serial,agE c.issuer,agE c.subject,agI c.kalg c.kbits,ac0 c.kid,agI c.halg c.hbits,ac0 c.from_,ac0 c.to_,aup c.auth,ac0 c.path,apA (c.names.map agE)]).v:=rfl
  rw [hb]
  simp only [List.map_cons,List.map_nil] at l1
  generalize (apA [ac0 c.serial,agE c.issuer,agE c.subject,agI c.kalg c.kbits,ac0 c.kid,agI c.halg c.hbits,ac0 c.from_,ac0 c.to_,aup c.auth,ac0 c.path,apA (c.names.map agE)]) = res at *
  generalize ac0 c.serial = a1 at *
  generalize ac0 c.kid = a2 at *
  generalize ac0 c.from_ = a3 at *
  generalize ac0 c.to_ = a4 at *
  generalize ac0 c.path = a5 at *
  generalize agE c.issuer = a6 at *
  generalize agE c.subject = a7 at *
  generalize agI c.kalg c.kbits = a8 at *
  generalize agI c.halg c.hbits = a9 at *
  generalize aup c.auth = a10 at *
  generalize apA (c.names.map agE) = a11 at *
  obtain ⟨_,_,_,_⟩:=res;obtain ⟨_,_,_,_⟩:=a1;obtain ⟨_,_,_,_⟩:=a2;obtain ⟨_,_,_,_⟩:=a3;obtain ⟨_,_,_,_⟩:=a4;obtain ⟨_,_,_,_⟩:=a5
  obtain ⟨_,_,_,_⟩:=a6;obtain ⟨_,_,_,_⟩:=a7;obtain ⟨_,_,_,_⟩:=a8;obtain ⟨_,_,_,_⟩:=a9;obtain ⟨_,_,_,_⟩:=a10;obtain ⟨_,_,_,_⟩:=a11
  simp only [JM.v_eq] at *
  repeat' (first|(refine zsk ?_;intro K' hK)|(refine zrg ?_;intro K' hK)|refine zsp ?_|(refine zsc ?_ ?_<;>intro hc<;>first|exact znh|try simp only [znz] at hc)|simp (maxSteps:=1000000) only [go_sem,Qw.cells,hln,e1,htn,V.shutOk0,jI,V.shut0,vM,ntL,not_false_eq_true,List.getElem?_cons_zero,List.getElem?_cons_succ]|(refine hK _ ?_;clear hK K')|apply zan|(apply aua;(focus first|exact n1|exact l1))|(apply aub;(focus first|exact n1|exact l1);(focus first|exact rfl|decide))|((first|apply Jb|apply Q6);(focus first|exact i1|exact i2|exact i3|exact i4|exact i5|exact t1|exact t2|exact u1|exact u2|exact b1|exact (z0 _ zsd).b|exact (z1 _ zsd zsd).b|exact (z2 _ _ zsd zsd zsd zsd).b|exact (z3 _).b|exact (z4 _ zsd).b))|exact zsq|fail)
  all_goals first|exact zr
 ·obtain ⟨hk',hget,hr⟩:=Ql hd
  have hw:=Qj (k:=k) (by omega)
  have e1:decide ((k:Int) < ((c.names.length:Nat):Int)) = true:=by simp;omega
  have hy:=hc.l4 y (List.mem_of_getElem? hget)
  have ty:=(z0 y (by omega)).b
  simp only [ayd,stL]
  simp only [agE,JM.v_eq] at ty
  repeat' (first|(refine zsk ?_;intro K' hK)|(refine zrg ?_;intro K' hK)|refine zsp ?_|(refine zsc ?_ ?_<;>intro hc<;>first|exact znh|try simp only [znz] at hc)|simp (maxSteps:=1000000) only [go_sem,Qw.cells,hln,e1,hw,Int.toNat_natCast,List.getElem?_map,hget,List.getElem?_cons_zero,List.getElem?_cons_succ]|(refine hK _ ?_;clear hK K')|apply zan|((first|apply Jb|apply Q6);(focus first|exact ty|exact (z0 _ zsd).b|exact (z1 _ zsd zsd).b|exact (z2 _ _ zsd zsd zsd zsd).b|exact (z3 _).b|exact (z4 _ zsd).b))|exact zsq|fail)
  all_goals
   refine hL _ (k + 1) hk' (by omega) (VJ [0,1,2,3,13005] none (fun p hp=>?_) ?_ (by simp) (by rw [hm];rfl))
   ·simp only [List.mem_cons,List.not_mem_nil,or_false] at hp
    rcases hp with rfl|rfl|rfl|rfl
    ·show conv _ _ _ (.ptr 0 0) (.ptr 0 0)
     simp [conv]
    ·show conv _ _ _ (.ptr 1 0) (.ptr 1 0)
     simp [conv]
    ·show conv _ _ _ (.hd 13005 0 (k + 1)) (.hd 4 0 (k + 1))
     simp [conv]
    ·exact Qc _ _ _ (V.int (k + 1:Nat)) trivial
   ·refine ⟨⟨_,rfl,fun h=>h,Qg _ _ _ _ hcl⟩,⟨_,rfl,fun h=>h,by show Jd _ _ _ [_,_,_,_] _;simp [Jd,conv,V.int,V.bool]⟩,⟨_,rfl,fun h=>h,rfl,rfl⟩,⟨_,rfl,fun h=>h,rfl,rfl⟩,⟨_,rfl,fun h=>h,rfl,?_,ac1 _⟩,trivial⟩
    have hA:List.take k (((c.names.take k).map agE).map JM.v) = ((c.names.take k).map agE).map JM.v:=List.take_of_length_le (by rw [List.length_map,List.length_map,List.length_take];omega)
    have hB:c.names.take (k + 1) = c.names.take k++[y]:=by rw [List.take_add_one,hget];rfl
    rw [hB,List.map_append,List.map_append]
    show vB _ _ _ (List.take k (((c.names.take k).map agE).map JM.v)++[V.agg [V.int 12,.sl 1 (abn y),V.bool false,.sl 4 []]]) _
    rw [hA]
    refine ah3 ?_ _
    show vB _ _ _ _ [JM.v (agE y)]
    rw [agE,JM.v_eq]
    exact ⟨Qg _ _ _ _ ⟨trivial,trivial,trivial,trivial,trivial⟩,trivial⟩
def amZ (c:Qw):V:=if KH c = false then .tup [.sl 1 [],V.int 9] else avN (ahN c)
theorem anU (c:Qw):(amZ c).closed:=by
 unfold amZ
 split
 ·simp only [V.closed,closedL,and_self]
 ·exact ala _
def aw7 (x:JM):List UInt8:=if x.fB = false then [] else if x.dep > 16 then [] else if x.pB.length > 4096 then [] else x.pB
theorem atL (x:JM):∃ n:Int,avN x = .tup [.sl 1 (abn (aw7 x)),V.int n]:=by
 unfold avN aw7
 repeat' split
 all_goals exact ⟨_,rfl⟩
theorem au4 (x:JM):(aw7 x).length≤4096:=by
 unfold aw7
 repeat' split
 all_goals first|exact Nat.zero_le _|omega
def adV:AC:=Qa [1,2] (.reg [xo 1 (.box true 15 (.t 0)),xo 2 (.alloc [.val vi0,.val vs0,.val vs0,.val vi0,.val vi0,.val vi0,.val vi0,.val vi0,.val vi0,.val vi0,.val (.bool false),.val vi0,.nil 1,.val vi0,.val vi0])]) (Qa [1,2] (.reg [xo 3 (.bslice 0 1 false [vs0] []),fa 4 12 1,ld 5 1 4,xo 6 (.append 1 16 [vs0] (.t 3) (.t 5)),fa 7 12 1,xs 1 7 6]) (Qa [2] (.reg [xo 8 (.load true 15 (.t 1)),xs 15 2 8]) .ret)) def r_ref03_Copy:List Jl:=[.cell 2 true 15]
def acy (Γ:Env) (f:Nat):Prop:=∀ (c:Qw) (hn:c.names.length < 2 ^ 30),EvC Γ f [c.v] (c.v)
attribute [local go_sem] Qw.cells in
theorem anG {Γ:Env} {f:Nat} (h:Has Γ.P f 9 adV r_ref03_Copy) :acy Γ f:=by
 intro c hn
 refine QV h zsi (by simp only [Qw.v,Qw.cells,V.closed,closedL,and_self]) fun C hC hm=>?_
 subst hC
 unfold adV
 have htk:=ajZ c.names
 have hln:(c.names.map V.str).length = c.names.length:=List.length_map _
 simp only [Qw.v]
 (have zx:=And.intro htk hln);refine zgo ?_;repeat' first|exact zt|apply zan|intro hc
 all_goals first|exact zr|(refine Qn _ rfl ?_;simp only [go_sem,Qw.cells,htk];done)
def ab5 (JW aae jN:Nat):AC:=Qa [1] (.reg [xo 1 (.box true 15 (.t 0)),xo 2 (.mknil 1),mc 3 (V.int 0)]) (Qa [1] (Qa [1,6] (.reg [xo 4 (.load true 15 (.t 1)),cl 5 JW [4],bc 6 .neq 5 (V.int 0)]) (.cond (.t 6) (Qa [2,3] (.reg [xo 2 (.mknil 1),mc 3 (V.int 9)]) .ret) .skip)) (Qa [2,3] (.reg [xo 7 (.load true 15 (.t 1)),cl 8 aae [7],cl 9 jN [8],ex 10 9 0,ex 11 9 1,mv 2 10,mv 3 11]) .ret)) def r_ref03_Bytes:List Jl:=[.tmp 2,.tmp 3]
def aaY (Γ:Env) (f:Nat):Prop:=∀ (c:Qw) (hc:c.T),EvC Γ f [c.v] (amZ c)
attribute [local go_sem] Qw.cells in
theorem alY {Γ:Env} {f JW aae jN:Nat} (h:Has Γ.P f 12 (ab5 JW aae jN) r_ref03_Bytes) (z0:UY Γ JW) (z1:acv Γ aae) (z2:vn Γ jN):aaY Γ f:=by
 intro c hc
 refine QV h zsi (anU _) fun C hC hm=>?_
 subst hC
 unfold ab5
 have l1:=hc.l1
 have l2:=hc.l2
 have l3:=hc.l3
 have ck:=(z0 c (by omega) (by omega) (by omega) (fun x hx=>by have:=hc.l4 x hx;omega)).b
 have bd:=(z1 c hc).b
 have bs:=aph hc
 have en:=(z2 (ahN c) (by omega)).b
 simp only [Qw.v,Qw.cells] at ck bd ⊢
 rw [amZ]
 cases hq:KH c with
 | false =>
   rw [if_pos rfl]
   rw [hq,if_neg (by decide)] at ck
   exact zg
 | true =>
   rw [if_neg (by decide)]
   rw [hq,if_pos rfl] at ck
   obtain ⟨n,hn⟩:=atL (ahN c)
   rw [hn] at en ⊢
   generalize ahN c = x at *
   obtain ⟨_,_,_,_⟩:=x
   rw [JM.v_eq] at *
   exact zg
def aso (c:Qw):Qw:={ c with skey:=0,ssum:=0 }
def apG:Qw:=⟨0,[],[],0,0,0,0,0,0,0,false,0,[],0,0⟩
def asK (c:Qw) (key:Int):Bool:=KH (aso c) && (decide (key≥0) && decide (key≤2147483648))
def aol (c:Qw) (key:Int):Qw:=if asK c key = true then { c with skey:=key,ssum:=aur (aw7 (ahN (aso c))) } else apG
def av4 (c:Qw) (key:Int):Int:=if asK c key = true then 0 else 9
theorem axG {c:Qw} (h:c.T):(aso c).T:=⟨h.i1,h.i2,h.i3,h.i4,h.i5,h.i6,h.i7,h.i8,h.i9,h.l1,h.l2,h.l3,h.l4⟩
theorem q9 (c:Qw):c.v.closed:=by simp only [Qw.v,Qw.cells,V.closed,closedL,and_self]
def adS (aag JW xG abQ:Nat):AC:=Qa [1,2,4] (.reg [xo 2 (.box true 15 (.t 0)),xo 4 (.alloc [.val vi0,.val vs0,.val vs0,.val vi0,.val vi0,.val vi0,.val vi0,.val vi0,.val vi0,.val vi0,.val (.bool false),.val vi0,.nil 1,.val vi0,.val vi0]),mc 5 (V.int 0)]) (Qa [1,2,4] (.reg [xo 8 (.load true 15 (.t 2)),cl 9 aag [8],xs 15 2 9]) (Qa [1,2,4] (.reg [xo 10 (.build [vi0,vi0] []),fa 11 13 2,xs 2 11 10]) (Qa [1,2,4] (Qa [1,2,4,22] (.reg [xo 12 (.load true 15 (.t 2)),cl 13 JW [12],bc 14 .neq 13 (V.int 0),mv 15 14,mg 16 1 15 false,xg 17 (.bin .lss (.t 16) (.c (V.int 0))) 15 false,xo 18 (.pick (.t 15) (.c (V.bool true)) (.t 17)),mv 19 18,mg 20 1 19 false,xg 21 (.bin .gtr (.t 20) (.c (V.int 2147483648))) 19 false,xo 22 (.pick (.t 19) (.c (V.bool true)) (.t 21))]) (.cond (.t 22) (Qa [4,5] (.reg [xo 23 (.build [vi0,vs0,vs0,vi0,vi0,vi0,vi0,vi0,vi0,vi0,(.bool false),vi0,vn0,vi0,vi0] []),xs 15 4 23,mc 5 (V.int 9)]) .ret) .skip)) (Qa [1,2,4,6] (.reg [xo 25 (.load true 15 (.t 2)),cl 26 xG [25],mv 24 26,ex 27 24 0,ex 28 24 1,mv 6 27,mv 7 28]) (Qa [2,4] (.reg [mv 29 1,mv 30 6,cl 31 abQ [30],xo 32 (.build [vi0,vi0] [(0,1,(.t 29)),(1,1,(.t 31))]),fa 33 13 2,xs 2 33 32]) (Qa [4,5] (.reg [xo 34 (.load true 15 (.t 2)),xs 15 4 34,mc 5 (V.int 0)]) .ret)))))) def r_ref03_Sign:List Jl:=[.cell 4 true 15,.tmp 5]
def acw (Γ:Env) (f:Nat):Prop:=∀ (c:Qw) (key:Int) (hc:c.T),EvC Γ f [c.v,V.int key] (.tup [(aol c key).v,V.int (av4 c key)])
attribute [local go_sem] Qw.cells in
theorem anD {Γ:Env} {f aag JW xG abQ:Nat} (h:Has Γ.P f 35 (adS aag JW xG abQ) r_ref03_Sign) (z0:acy Γ aag) (z1:UY Γ JW) (z2:aaY Γ xG) (z3:aes Γ abQ):acw Γ f:=by
 intro c key hc
 refine QV h zsi (⟨q9 _,trivial,trivial⟩) fun C hC hm=>?_
 subst hC
 unfold adS
 have l1:=hc.l1
 have l2:=hc.l2
 have l3:=hc.l3
 have hb:=axG hc
 have cp:=(z0 c (by omega)).b
 have ck:=(z1 (aso c) (by show c.issuer.length < _;omega) (by show c.subject.length < _;omega) (by show c.names.length < _;omega) (fun x hx=>by have:=hc.l4 x hx;omega)).b
 have by9:=(z2 (aso c) hb).b
 have sm:=(z3 (aw7 (ahN (aso c))) (by have:=au4 (ahN (aso c));omega)).b
 have hvb:(aso c).v = .agg [V.int c.serial,V.str c.issuer,V.str c.subject,V.int c.kalg,V.int c.kbits,V.int c.kid,V.int c.halg,V.int c.hbits,V.int c.from_,V.int c.to_,V.bool c.auth,V.int c.path,.sl 1 (c.names.map V.str),V.int 0,V.int 0]:=rfl
 rw [hvb] at ck by9
 simp only [Qw.v,Qw.cells] at cp ⊢
 cases hq:KH (aso c) with
 | false =>
   have hs:asK c key = false:=by rw [asK,hq];rfl
   rw [hq,if_neg (by decide)] at ck
   simp only [aol,av4,hs,apG,List.map_nil]
   exact zg
 | true =>
   rw [hq,if_pos rfl] at ck
   have hby:amZ (aso c) = avN (ahN (aso c)):=by rw [amZ,hq,if_neg (by decide)]
   rw [hby] at by9
   obtain ⟨n,hn⟩:=atL (ahN (aso c))
   rw [hn] at by9
   rcases h1:decide (key≥0) with _|_<;>rcases h2:decide (key≤2147483648) with _|_
   all_goals
    have g1:decide (key < 0) = !decide (key≥0):=by by_cases h:key < 0<;>simp [h]<;>omega
    have g2:decide (key > 2147483648) = !decide (key≤2147483648):=by by_cases h:key > 2147483648<;>simp [h]<;>omega
    have hs:asK c key = (KH (aso c) && (decide (key≥0) && decide (key≤2147483648))):=rfl
    rw [hq,h1,h2] at hs
    rw [h1] at g1
    rw [h2] at g2
    simp only [Bool.and_true,Bool.and_false,Bool.and_self,Bool.not_true,Bool.not_false] at hs g1 g2
    simp only [aol,av4,hs,apG,List.map_nil,if_true,if_false,Bool.false_eq_true]
    (have zx:=And.intro g1 g2);exact zg
def aum (l:List Int) (k:Nat):(Int×Int)×Nat:=(((ofD l k [5,7,5,6,8,9]).1,(ada l (ofD l k [5,7,5,6,8,9]).2 (ofD l k [5,7,5,6,8,9]).1).1),(ada l (ofD l k [5,7,5,6,8,9]).2 (ofD l k [5,7,5,6,8,9]).1).2)
def aiS (Qf W3:Nat):AC:=Qa [0,2] (.reg [xo 2 (.alloc [.val vi0,.val vi0])]) (Qa [0,2,3] (.reg [mv 4 0,xo 5 (.bslice 6 1 false [vi0] [(0,(.c (V.int 5))),(1,(.c (V.int 7))),(2,(.c (V.int 5))),(3,(.c (V.int 6))),(4,(.c (V.int 8))),(5,(.c (V.int 9)))]),cl 6 Qf [4,5],mv 3 6]) (Qa [2] (.reg [mv 7 3,mv 8 0,mv 9 3,cl 10 W3 [8,9],xo 11 (.build [vi0,vi0] [(0,1,(.t 7)),(1,1,(.t 10))]),xs 2 2 11]) .ret)) def r_make_Key:List Jl:=[.cell 2 true 2]
def agD (Γ:Env) (f:Nat):Prop:=∀ (l:List Int) (k:Nat) (hl:l.length≤400) (hk:k≤l.length),EvD Γ f [] (Jj l k) (.agg [V.int (aum l k).1.1,V.int (aum l k).1.2]) (Jj l (aum l k).2)
attribute [local go_sem] Jj in
theorem ap9 {Γ:Env} {f Qf W3:Nat} (h:Has Γ.P f 12 (aiS Qf W3) r_make_Key) (z0:YU Γ Qf) (z1:aat Γ W3):agD Γ f:=by
 intro l k hl hk
 refine Y6 h zsi zcl zc3 zc3 fun C hC hm=>?_
 subst hC
 unfold aiS
 have n1:=z0 l k [5,7,5,6,8,9] hl hk (by simp) (by simp)
 have hk1:=WD (l:=l) (k:=k) (xs:=[5,7,5,6,8,9]) hk
 have n2:=z1 l (ofD l k [5,7,5,6,8,9]).2 (ofD l k [5,7,5,6,8,9]).1 hl hk1
 simp only [Jj,aum,List.map_cons,List.map_nil] at n1 n2 ⊢
 refine zgo ?_;repeat' first|exact zt|apply zan|intro hc
 all_goals first|(refine Xb _ rfl rfl zcd ?_;simp only [go_sem];done)
theorem atr {l:List Int} {k:Nat} (hk:k≤l.length):(aum l k).2≤l.length:=by
 have h1:=WD (l:=l) (k:=k) (xs:=[5,7,5,6,8,9]) hk
 show (ada l (ofD l k [5,7,5,6,8,9]).2 (ofD l k [5,7,5,6,8,9]).1).2≤l.length
 unfold ada
 split
 ·exact h1
 ·exact WD h1
theorem KZ {l:List Int} {k:Nat} {xs:List Int} (h:xs≠[]) (h2:xs.length < 2 ^ 62) (h3:∀ x∈xs,x.natAbs≤100000):(ofD l k xs).1.natAbs≤100000:=h3 _ (afI h h2)
def asg (iss sub:List UInt8) (a b id:Int) (au:Bool) (s h f t p x:Int):Qw:=⟨s,iss,sub,a,b,id,h,0,f,t,au,p,if x == 2 then [sub,sub++[120]] else [sub],0,0⟩
def atX (l:List Int) (k:Nat) (au:Bool):(Int×Int×Int×Int×Int×Int)×Nat :=
 let s:=Jx l k 1000
 let h:=ofD l s.2 [3,2,4,1]
 let f:=ofD l h.2 [0,5,10]
 let t:=ofD l f.2 [1000,100,50,20]
 let p:=if au = true then ofD l t.2 [3,0,1] else (0,t.2)
 let x:=Jx l p.2 3
 ((s.1,h.1,f.1,t.1,p.1,x.1),x.2)
def axD (iss sub:List UInt8) (a b id:Int) (au:Bool) (q:Int×Int×Int×Int×Int×Int):Qw:=asg iss sub a b id au q.1 q.2.1 q.2.2.1 q.2.2.2.1 q.2.2.2.2.1 q.2.2.2.2.2
def aiO (l:List Int) (k:Nat) (iss sub:List UInt8) (a b id sg:Int) (au:Bool):Qw×Nat:=(aol (axD iss sub a b id au (atX l k au).1) sg,(atX l k au).2)
theorem aqh {iss sub:List UInt8} {a b id:Int} {au:Bool} {s h f t p x:Int} (h1:iss.length≤900) (h2:sub.length≤900) (ha:I60 a) (hb:I60 b) (hi:I60 id) (q1:s.natAbs≤100000) (q2:h.natAbs≤100000) (q3:f.natAbs≤100000) (q4:t.natAbs≤100000) (q5:p.natAbs≤100000) :
  (asg iss sub a b id au s h f t p x).T:=by
 refine ⟨by unfold I60;show _≤s∧s≤_;omega,ha,hb,hi,by unfold I60;show _≤h∧h≤_;omega,by unfold I60;show _≤(0:Int)∧(0:Int)≤_;omega,by unfold I60;show _≤f∧f≤_;omega,by unfold I60;show _≤t∧t≤_;omega,by unfold I60;show _≤p∧p≤_;omega,by show iss.length≤1000;omega,by show sub.length≤1000;omega,?_,?_⟩
 ·show (if x == 2 then [sub,sub++[120]] else [sub]).length≤64
  split<;>simp
 ·intro y hy
  have hy:y∈(if x == 2 then [sub,sub++[120]] else [sub]):=hy
  split at hy
  ·simp only [List.mem_cons,List.not_mem_nil,or_false] at hy
   rcases hy with rfl|rfl
   ·omega
   ·rw [List.length_append];simp;omega
  ·simp only [List.mem_cons,List.not_mem_nil,or_false] at hy
   subst hy;omega
def xm (Qb Qf:Nat):List AO:=[mv 16 0,xo 17 (.call Qb [(.t 16),(.c (V.int 1000))]),mv 18 1,mv 19 2,xo 20 (.load true 2 (.t 10)),mv 21 4,mv 22 0,xo 23 (.bslice 4 1 false [vi0] [(0,(.c (V.int 3))),(1,(.c (V.int 2))),(2,(.c (V.int 4))),(3,(.c (V.int 1)))]),cl 24 Qf [22,23],xo 25 (.build [vi0,vi0] [(0,1,(.t 24))]),mv 26 0,xo 27 (.bslice 3 1 false [vi0] [(0,(.c (V.int 0))),(1,(.c (V.int 5))),(2,(.c (V.int 10)))]),cl 28 Qf [26,27],mv 29 0,xo 30 (.bslice 4 1 false [vi0] [(0,(.c (V.int 1000))),(1,(.c (V.int 100))),(2,(.c (V.int 50))),(3,(.c (V.int 20)))]),cl 31 Qf [29,30],mv 32 6,xo 33 (.build [vi0,vs0,vs0,vi0,vi0,vi0,vi0,vi0,vi0,vi0,(.bool false),vi0,vn0,vi0,vi0] [(0,1,(.t 17)),(1,1,(.t 18)),(2,1,(.t 19)),(3,2,(.t 20)),(5,1,(.t 21)),(6,2,(.t 25)),(8,1,(.t 28)),(9,1,(.t 31)),(10,1,(.t 32))]),xo 15 (.alloc [.val vi0,.val vs0,.val vs0,.val vi0,.val vi0,.val vi0,.val vi0,.val vi0,.val vi0,.val vi0,.val (.bool false),.val vi0,.nil 1,.val vi0,.val vi0]),xs 15 15 33]
def xu:List (List Nat):=[[],[0],[],[],[],[],[],[],[6,7,1],[8],[],[],[10,11,8],[],[],[13,14,12],[],[1,2,3,4,5,9,12,15,16],[],[18,17,15,0,1,2,3,4,5,6,7,8,9,10,11,12,13,14,15,16,17,18]]
def yZ:OT:=.one 0 (.one 1 (.one 2 (.one 3 (.one 4 (.one 5 (.one 6 (.one 7 (.one 8 (.one 9 (.one 10 (.one 11 (.one 12 (.one 13 (.one 14 (.one 15 (.one 16 (.one 17 (.one 18 (.one 19 .done)))))))))))))))))))
@[go_sem] def xi (Qb Qf:Nat):OP:=oN 0 (mv 16 0) (.one 1 true [] (xo 17 (.call Qb [(.t 16),(.c (V.int 1000))])) (oN 2 (mv 18 1) (oN 3 (mv 19 2) (oN 4 (xo 20 (.load true 2 (.t 10))) (oN 5 (mv 21 4) (oN 6 (mv 22 0) (oN 7 (xo 23 (.bslice 4 1 false [vi0] [(0,(.c (V.int 3))),(1,(.c (V.int 2))),(2,(.c (V.int 4))),(3,(.c (V.int 1)))])) (.one 8 true [7] (cl 24 Qf [22,23]) (oN 9 (xo 25 (.build [vi0,vi0] [(0,1,(.t 24))])) (oN 10 (mv 26 0) (oN 11 (xo 27 (.bslice 3 1 false [vi0] [(0,(.c (V.int 0))),(1,(.c (V.int 5))),(2,(.c (V.int 10)))])) (.one 12 true [11] (cl 28 Qf [26,27]) (oN 13 (mv 29 0) (oN 14 (xo 30 (.bslice 4 1 false [vi0] [(0,(.c (V.int 1000))),(1,(.c (V.int 100))),(2,(.c (V.int 50))),(3,(.c (V.int 20)))])) (.one 15 true [14] (cl 31 Qf [29,30]) (oN 16 (mv 32 6) (oN 17 (xo 33 (.build [vi0,vs0,vs0,vi0,vi0,vi0,vi0,vi0,vi0,vi0,(.bool false),vi0,vn0,vi0,vi0] [(0,1,(.t 17)),(1,1,(.t 18)),(2,1,(.t 19)),(3,2,(.t 20)),(5,1,(.t 21)),(6,2,(.t 25)),(8,1,(.t 28)),(9,1,(.t 31)),(10,1,(.t 32))])) (oN 18 (xo 15 (.alloc [.val vi0,.val vs0,.val vs0,.val vi0,.val vi0,.val vi0,.val vi0,.val vi0,.val vi0,.val vi0,.val (.bool false),.val vi0,.nil 1,.val vi0,.val vi0])) (.one 19 true [18,15,14,12,11,8,7,1] (xs 15 15 33) .done)))))))))))))))))))
instance (Qb Qf:Nat):RG [1,8,12,15] yZ (xi Qb Qf) (xm Qb Qf) xu 20 (fun y=>!decide (y = 0)):=⟨rfl,by kernel_rfl,by kernel_rfl⟩
def qf (Qb Qf Q4 aaf:Nat):AC:=Qa [0,1,2,4,5,6,10,14] (.reg [xo 10 (.box true 2 (.t 3)),xo 14 (.alloc [.val vi0,.val vs0,.val vs0,.val vi0,.val vi0,.val vi0,.val vi0,.val vi0,.val vi0,.val vi0,.val (.bool false),.val vi0,.nil 1,.val vi0,.val vi0])]) (Qa [0,2,5,6,14,15] (yh [1,8,12,15] yZ (xi Qb Qf) (xm Qb Qf) xu) (Qa [0,2,5,14,15] (Qa [0,2,5,14,15,34] (.reg [mv 34 6]) (.cond (.t 34) (.reg [mv 35 0,xo 36 (.bslice 3 1 false [vi0] [(0,(.c (V.int 3))),(1,(.c (V.int 0))),(2,(.c (V.int 1)))]),cl 37 Qf [35,36],fa 38 11 15,xs 1 38 37]) .skip)) (Qa [0,2,5,14,15] (.reg [mv 39 2,xo 40 (.bslice 1 1 false [vs0] [(0,(.t 39))]),fa 41 12 15,xs 1 41 40]) (Qa [5,14,15] (Qa [2,5,14,15,43] (.reg [mv 42 0,xo 43 (.call Q4 [(.t 42),(.c (V.int 3))])]) (.cond (.t 43) (.reg [fa 44 12 15,ld 45 1 44,mv 46 2,bc 47 .add 46 (V.str [120]),xo 48 (.bslice 1 1 false [vs0] [(0,(.t 47))]),xo 49 (.append 1 16 [vs0] (.t 45) (.t 48)),fa 50 12 15,xs 1 50 49]) .skip)) (Qa [14,15] (.reg [xo 52 (.load true 15 (.t 15)),mv 53 5,cl 54 aaf [52,53],mv 51 54,ex 55 51 0,ex 56 51 1,xs 15 15 55]) (Qa [14] (.reg [xo 57 (.load true 15 (.t 15)),xs 15 14 57]) .ret)))))) def r_make_Certificate:List Jl:=[.cell 14 true 15]
def Ko (Γ:Env) (f:Nat):Prop:=∀ (l:List Int) (k:Nat) (iss sub:List UInt8) (a b id sg:Int) (au:Bool) (hl:l.length≤400) (hk:k≤l.length) (h1:iss.length≤900) (h2:sub.length≤900) (ha:I60 a) (hb:I60 b) (hi:I60 id),EvD Γ f [V.str iss,V.str sub,.agg [V.int a,V.int b],V.int id,V.int sg,V.bool au] (Jj l k) ((aiO l k iss sub a b id sg au).1.v) (Jj l (aiO l k iss sub a b id sg au).2)
theorem aga {Γ:Env} {f Qb Qf Q4 aaf:Nat} (h:Has Γ.P f 58 (qf Qb Qf Q4 aaf) r_make_Certificate) (z0:JK Γ Qb) (z1:YU Γ Qf) (z2:WO Γ Q4) (z3:acw Γ aaf):Ko Γ f:=by
 intro l k iss sub a b id sg au hl hk h1 h2 ha hb hi
 refine Y6 h zsi (q9 _) zc3 zc3 fun C hC hm=>?_
 subst hC
 unfold qf
 simp only [aiO,atX,axD]
 have n1:=z0 l k 1000 hl hk
 have k1:=Je (l:=l) (k:=k) (n:=1000) hk
 have r1:=JT (l:=l) (k:=k) (n:=1000) (by omega) (by omega)
 generalize Jx l k 1000 = w1 at *
 obtain ⟨s,d1⟩:=w1
 simp only at k1 r1
 have n2:=z1 l d1 [3,2,4,1] hl k1 (by simp) (by simp)
 have k2:=WD (l:=l) (k:=d1) (xs:=[3,2,4,1]) k1
 have r2:=KZ (l:=l) (k:=d1) (xs:=[3,2,4,1]) (by simp) (by simp) (by decide)
 generalize ofD l d1 [3,2,4,1] = w2 at *
 obtain ⟨hh,d2⟩:=w2
 simp only at k2 r2
 have n3:=z1 l d2 [0,5,10] hl k2 (by simp) (by simp)
 have k3:=WD (l:=l) (k:=d2) (xs:=[0,5,10]) k2
 have r3:=KZ (l:=l) (k:=d2) (xs:=[0,5,10]) (by simp) (by simp) (by decide)
 generalize ofD l d2 [0,5,10] = w3 at *
 obtain ⟨ff,d3⟩:=w3
 simp only at k3 r3
 have n4:=z1 l d3 [1000,100,50,20] hl k3 (by simp) (by simp)
 have k4:=WD (l:=l) (k:=d3) (xs:=[1000,100,50,20]) k3
 have r4:=KZ (l:=l) (k:=d3) (xs:=[1000,100,50,20]) (by simp) (by simp) (by decide)
 generalize ofD l d3 [1000,100,50,20] = w4 at *
 obtain ⟨tt,d4⟩:=w4
 simp only at k4 r4
 have n5:=z1 l d4 [3,0,1] hl k4 (by simp) (by simp)
 have k5:=WD (l:=l) (k:=d4) (xs:=[3,0,1]) k4
 have r5:=KZ (l:=l) (k:=d4) (xs:=[3,0,1]) (by simp) (by simp) (by decide)
 generalize ofD l d4 [3,0,1] = w5 at *
 obtain ⟨pp,d5⟩:=w5
 simp only at k5 r5
 have hsl:sub.length + 1 < 2 ^ 60:=by omega
 cases au
 ·simp only [Bool.false_eq_true,if_false]
  have n6:=z2 l d4 3 hl k4 (by omega) (by omega)
  generalize Jx l d4 3 = w6 at *
  obtain ⟨xx,d6⟩:=w6
  have hT:=aqh (iss:=iss) (sub:=sub) (a:=a) (b:=b) (id:=id) (au:=false) (s:=s) (h:=hh) (f:=ff) (t:=tt) (p:=0) (x:=xx) h1 h2 ha hb hi (by omega) r2 r3 r4 (by decide)
  have sg9:=z3 _ sg hT
  generalize aol (asg iss sub a b id false s hh ff tt 0 xx) sg = rc at *
  simp only [Jj,List.map_cons,List.map_nil,Qw.v,Qw.cells,asg] at n1 n2 n3 n4 n6 sg9 ⊢
  cases hx:(xx == 3 - 1)
  ·have hx2:(xx == 2) = false:=hx
   rw [hx] at n6
   simp only [hx2,Bool.false_eq_true,if_false,List.map_cons,List.map_nil] at sg9
   repeat' (first|(refine zsk ?_;intro K' hK)|(refine zrg ?_;intro K' hK)|refine zsp ?_|(refine zsc ?_ ?_<;>intro hc<;>first|exact znh|try simp only [znz] at hc)|simp (maxSteps:=1000000) only [go_sem,Jj,Qw.v,Qw.cells]|(refine hK _ ?_;clear hK K')|apply zan|(apply ari;(focus first|exact sg9))|(apply Xz;(focus exact rfl);(focus first|exact n1|exact n2|exact n3|exact n4|exact n6|exact (z0 _ _ _ zsd zsd)|exact (z1 _ _ _ zsd zsd zsd zsd)|exact (z2 _ _ _ zsd zsd zsd zsd));(focus exact rfl);(focus exact rfl))|(apply YV;(focus exact rfl);(focus exact zrd);(focus exact zrd);(focus first|exact n1|exact n2|exact n3|exact n4|exact n6|exact (z0 _ _ _ zsd zsd)|exact (z1 _ _ _ zsd zsd zsd zsd)|exact (z2 _ _ _ zsd zsd zsd zsd));(focus exact rfl);(focus exact rfl);(focus exact zrd))|exact zsq|fail)
   all_goals first|(refine Xb _ rfl rfl zcd ?_;simp only [go_sem];done)
  ·have hx2:(xx == 2) = true:=hx
   rw [hx] at n6
   simp only [hx2,if_true,List.map_cons,List.map_nil] at sg9
   repeat' (first|(refine zsk ?_;intro K' hK)|(refine zrg ?_;intro K' hK)|refine zsp ?_|(refine zsc ?_ ?_<;>intro hc<;>first|exact znh|try simp only [znz] at hc)|simp (maxSteps:=1000000) only [go_sem,Jj,Qw.v,Qw.cells,hsl]|(refine hK _ ?_;clear hK K')|apply zan|(apply ari;(focus first|exact sg9))|(apply Xz;(focus exact rfl);(focus first|exact n1|exact n2|exact n3|exact n4|exact n6|exact (z0 _ _ _ zsd zsd)|exact (z1 _ _ _ zsd zsd zsd zsd)|exact (z2 _ _ _ zsd zsd zsd zsd));(focus exact rfl);(focus exact rfl))|(apply YV;(focus exact rfl);(focus exact zrd);(focus exact zrd);(focus first|exact n1|exact n2|exact n3|exact n4|exact n6|exact (z0 _ _ _ zsd zsd)|exact (z1 _ _ _ zsd zsd zsd zsd)|exact (z2 _ _ _ zsd zsd zsd zsd));(focus exact rfl);(focus exact rfl);(focus exact zrd))|exact zsq|fail)
   all_goals first|(refine Xb _ rfl rfl zcd ?_;simp only [go_sem];done)
 ·simp only [if_true]
  have n6:=z2 l d5 3 hl k5 (by omega) (by omega)
  generalize Jx l d5 3 = w6 at *
  obtain ⟨xx,d6⟩:=w6
  have hT:=aqh (iss:=iss) (sub:=sub) (a:=a) (b:=b) (id:=id) (au:=true) (s:=s) (h:=hh) (f:=ff) (t:=tt) (p:=pp) (x:=xx) h1 h2 ha hb hi (by omega) r2 r3 r4 r5
  have sg9:=z3 _ sg hT
  generalize aol (asg iss sub a b id true s hh ff tt pp xx) sg = rc at *
  simp only [Jj,List.map_cons,List.map_nil,Qw.v,Qw.cells,asg] at n1 n2 n3 n4 n5 n6 sg9 ⊢
  cases hx:(xx == 3 - 1)
  ·have hx2:(xx == 2) = false:=hx
   rw [hx] at n6
   simp only [hx2,Bool.false_eq_true,if_false,List.map_cons,List.map_nil] at sg9
   repeat' (first|(refine zsk ?_;intro K' hK)|(refine zrg ?_;intro K' hK)|refine zsp ?_|(refine zsc ?_ ?_<;>intro hc<;>first|exact znh|try simp only [znz] at hc)|simp (maxSteps:=1000000) only [go_sem,Jj,Qw.v,Qw.cells]|(refine hK _ ?_;clear hK K')|apply zan|(apply ari;(focus first|exact sg9))|(apply Xz;(focus exact rfl);(focus first|exact n1|exact n2|exact n3|exact n4|exact n5|exact n6|exact (z0 _ _ _ zsd zsd)|exact (z1 _ _ _ zsd zsd zsd zsd)|exact (z2 _ _ _ zsd zsd zsd zsd));(focus exact rfl);(focus exact rfl))|(apply YV;(focus exact rfl);(focus exact zrd);(focus exact zrd);(focus first|exact n1|exact n2|exact n3|exact n4|exact n5|exact n6|exact (z0 _ _ _ zsd zsd)|exact (z1 _ _ _ zsd zsd zsd zsd)|exact (z2 _ _ _ zsd zsd zsd zsd));(focus exact rfl);(focus exact rfl);(focus exact zrd))|exact zsq|fail)
   all_goals first|(refine Xb _ rfl rfl zcd ?_;simp only [go_sem];done)
  ·have hx2:(xx == 2) = true:=hx
   rw [hx] at n6
   simp only [hx2,if_true,List.map_cons,List.map_nil] at sg9
   repeat' (first|(refine zsk ?_;intro K' hK)|(refine zrg ?_;intro K' hK)|refine zsp ?_|(refine zsc ?_ ?_<;>intro hc<;>first|exact znh|try simp only [znz] at hc)|simp (maxSteps:=1000000) only [go_sem,Jj,Qw.v,Qw.cells,hsl]|(refine hK _ ?_;clear hK K')|apply zan|(apply ari;(focus first|exact sg9))|(apply Xz;(focus exact rfl);(focus first|exact n1|exact n2|exact n3|exact n4|exact n5|exact n6|exact (z0 _ _ _ zsd zsd)|exact (z1 _ _ _ zsd zsd zsd zsd)|exact (z2 _ _ _ zsd zsd zsd zsd));(focus exact rfl);(focus exact rfl))|(apply YV;(focus exact rfl);(focus exact zrd);(focus exact zrd);(focus first|exact n1|exact n2|exact n3|exact n4|exact n5|exact n6|exact (z0 _ _ _ zsd zsd)|exact (z1 _ _ _ zsd zsd zsd zsd)|exact (z2 _ _ _ zsd zsd zsd zsd));(focus exact rfl);(focus exact rfl);(focus exact zrd))|exact zsq|fail)
   all_goals first|(refine Xb _ rfl rfl zcd ?_;simp only [go_sem];done)
end Av
end
