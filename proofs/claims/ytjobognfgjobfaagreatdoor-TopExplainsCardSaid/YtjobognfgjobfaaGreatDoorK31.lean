/- K31 -/
import Derived.Test.YtjobognfgjobfaaGreatDoorK30
import Derived.Test.YtjobognfgjobfaaGreatDoorK27
import Derived.Test.YtjobognfgjobfaaGreatDoorK12
import Derived.Test.YtjobognfgjobfaaGreatDoorK28
set_option linter.unusedVariables false
set_option linter.unusedSimpArgs false
noncomputable section
set_option maxRecDepth 10000
set_option maxHeartbeats 4000000
namespace Av
open Go
attribute [local irreducible] AWp WC wb aai awS awC aeM awQ afz Jk qV aes awR jj awB okR aaf ris
def q9 (x:Qa):Qa:=⟨x.src,x.host,x.mach,x.day,x.conf,4,x.subj,0,0,1,[]⟩
theorem awe {rs:List Uh} {s:St} {x:Qa} {i:Nat} (h:xu s rs = some [.ptr i 0,V.int 0]) (h0:s.o i = some (.box true (wz x acr))):K1 0 rs (.tup [.ptr 0 0,V.int 0]) [.box true (wz x acr)] s :=
 Yw rs _ _ h ⟨[i],none,by simp [adm,conv,QR],⟨⟨_,h0,fun h=>h,ari (by simp [conv,acr])⟩,trivial⟩,by simp,rfl⟩
def jU:=qd Proofs.Tryz.f57 [zhn 7]
def xZ (Γ:Env) (f:Nat):Prop:=∀ (x:Qa) (hz:x.Sz) (hc:YI (q9 x) = true),Ev Γ f [x.v] [] (.tup [.ptr 0 0,V.int 0]) [.box true (wz (q9 x) acr)]
theorem ah8 {Γ:Env} {f:Nat} (h:Has Γ.P f 14 jU.1.1.ac jU.1.2) (z0:WO Γ 72):xZ Γ f:=by
 intro x hz hc
 obtain ⟨z1,z2,z3⟩:=hz
 have gK:=(z0 (q9 x) z1 z2 (by simp [q9])).b
 rw [hc] at gK
 simp only [q9,Qa.v,Qa.cells] at gK
 refine Q8 h (by simp) fun C hC hm=>?_
 subst hC
 simp only [jU,qd,DC.ac]
 simp only [wz,acr,q9,Qa.v,Qa.cells]
 refine zgo ?_;repeat' first|exact zt|apply zan|intro hc
 all_goals exact awe (x:=q9 x) rfl rfl
theorem awH {Γ:Env} {b:Nat} {r:List AO} {s:St} {d:Option Nat} {f:Nat} {x:Qa} {args:List V} {okf:Option (List Nat)→Prop} {K:St→Prop} (h:Ev Γ f [x.v] [] (.tup [.ptr 0 0,V.int 0]) [.box true (wz (q9 x) acr)])
  (hk:WC Γ (b + KK) r { t:=(s.put d (.tup [.ptr b 0,V.int 0])).t,o:=upd s.o b (some (.box true (wz (q9 x) acr))),n:=s.n } K):aet Γ b r s d f [x.v] args okf K:=by
 intro _ _
 unfold awC
 refine Jj ⟨[x.v],[],_,_,[],some [],h,Qn _ _ _ _ (by simp only [Qa.v,Qa.cells,V.closed,Qb,and_self]),trivial,by simp,by simp,by simp,by simp [KK],fun h=>by simp at h,?_⟩
 simp only [YE,Yf,Ob.ren,am6,V.ren,Ks,sig,ans,WC] at hk ⊢
 exact hk
def xW:Qa:=⟨3,[97],0,3,90,0,[119,101,98],0,0,0,[]⟩
def dW:Qv:=⟨[119,101,98],1,4,[1,2],false,false⟩
def feW:List Qa:=[vN (q9 xW) 5 0 0 1,vN (q9 xW) 4 0 0 4,vN (q9 xW) 2 0 0 1,vN (q9 xW) 2 0 0 2]
def feB:Ob:=.box true [V.str [119,101,98],V.int 1,V.int 4,.sl 1 [V.int 1,V.int 2],V.bool false,acr,acr,acr,V.bool false]
def feS (i:Nat):St:=QS [(3,.ptr 0 0),(6,.ptr 1 0),(39,.sl 1 [V.int 1,V.int 2]),(40,V.int 2),(41,V.int i)] [(0,feB),(1,.box true (wz (q9 xW) (.hd 2 0 (i + 2)))),(2,.buf true 11 ((feW.take (i + 2)).map Qa.v))] 3
def feT (l:List (Nat×V)):St:=QS ((6,.ptr 1 0) :: l) [(0,feB),(1,.box true (wz (q9 xW) (.hd 2 0 4))),(2,.buf true 11 (feW.map Qa.v))] 3
def Xp:=qd Proofs.Tryz.f19 []
def WA (Γ:Env) (f:Nat):Prop:=EvC Γ f [xW.v,dW.ep] (.tup [.sl 11 ((acj feW).map Qa.v),V.int 0])
attribute [local go_sem] feB QS acr in
theorem aas {Γ:Env} {f:Nat} (h:Has Γ.P f 95 Xp.1.1.ac Xp.1.2) (z0:xZ Γ 57) (z1:jG Γ 58) (z2:Y8 Γ 59) (z3:qF Γ 32):WA Γ f:=by
 refine Q0 h zsi (by simp only [V.closed,Qb,and_self]) fun C hC hm=>?_
 subst hC
 simp only [Xp,qd,DC.ac]
 have gO:=z0 xW ⟨by decide,by decide,by decide⟩ (by decide +kernel)
 have gN:=z3 feW (by decide) (fun x hx=>by
  simp only [feW,zw,zD,or_false] at hx
  rcases hx with rfl|rfl|rfl|rfl<;>exact ⟨by decide,by decide,by decide⟩) (by decide +kernel)
 have hk0:=(z1 ⟨[119,101,98],1,4,[1,2],false,[],[],[],false⟩ ⟨by decide,by decide,by decide,fun x hx=>by simp at hx,by decide,by decide⟩).b
 rw [if_pos (by decide +kernel)] at hk0
 have hk:=hk0.le (args':=[dW.ep]) rfl (fun i hi hi'=>by
  match i,hi with
  | 0,_ =>
    refine LeV.agg rfl fun j hj hj'=>?_
    match j,hj with
    | 0,_=>exact LeV.refl _
    | 1,_=>exact LeV.refl _
    | 2,_=>exact LeV.refl _
    | 3,_=>exact LeV.refl _
    | 4,_=>exact LeV.refl _
    | 5,_=>exact LeV.nil 4
    | 6,_=>exact LeV.nil 1
    | 7,_=>exact LeV.nil 1
    | 8,_=>exact LeV.refl _)
 clear hk0
 have hx:xW.v = .agg [V.int 3,V.str [97],V.int 0,V.int 3,V.int 90,V.int 0,V.str [119,101,98],V.int 0,V.int 0,V.int 0,V.str []]:=rfl
 simp only [dW,Qv.ep,zE,zH] at hk ⊢
 rw [hx]
 repeat' (first|(refine zsk ?_;intro K' hK)|refine zsp ?_|(refine zsc ?_ ?_<;>intro hc<;>first|exact znh|try simp only [znz] at hc)|simp (maxSteps:=1000000) only [go_sem]|(refine hK _ ?_;clear hK K')|apply zan|(refine awH (x:=xW) gO ?_)|(refine awI z2 rfl rfl ?_)|(refine anT (xs:=[vN (q9 xW) 5 0 0 1]) z2 (by decide) rfl rfl rfl rfl ?_)|(apply QA;(focus first|exact hk|exact (z1 _ _).b|exact (z3 _ zsd zsd zsd).b))|exact zsq|fail)
 refine Qj (ι:=Nat) (fun i=>i≤2) feS (fun i=>2 - i) 0 (by decide) (Qd [(0,1000),(1,5000),(2,27000)]) (Qh [(0,1000),(1,5000),(2,27000)] (by simp only [go_sem,zwl,feS,feB,acr,wz,feW]<;>exact zcc) (by simp only [go_sem,zwl,feS,feB,acr,wz,feW,q9,xW,vN,Qa.v,Qa.cells,List.take_succ_cons,List.take_zero,zE,zH]<;>exact zcc) (by simp [feS,Qd]) (by simp [feS,feB];omega) (by omega)) fun i hi K' hL=>?_
 have hL':=fun s'=>hL s' (i + 1)
 clear hL
 rcases (by omega:i = 0∨i = 1∨i = 2) with rfl|rfl|rfl
 ·simp only [feS]
  repeat' (first|(refine zsk ?_;intro K' hK)|refine zsp ?_|(refine zsc ?_ ?_<;>intro hc<;>first|exact znh|try simp only [znz] at hc)|simp (maxSteps:=1000000) only [go_sem,QS,feB]|(refine hK _ ?_;clear hK K')|apply zan|(refine anT (xs:=[vN (q9 xW) 5 0 0 1,vN (q9 xW) 4 0 0 4]) z2 (by decide) rfl rfl rfl rfl ?_)|(apply QA;(focus first|exact (z1 _ _).b|exact (z3 _ zsd zsd zsd).b))|exact zsq|fail)
  all_goals exact hL' _ (Qd [(2,7003)]) (by omega) (by omega) (Qh [(2,7003)] (by simp only [go_sem,zwl,feS,feT,feB,acr,wz,feW]<;>exact zcc) (by simp only [go_sem,zwl,feS,feT,feB,acr,wz,feW,q9,xW,vN,Qa.v,Qa.cells,List.take_succ_cons,List.take_zero,zE,zH]<;>exact zcc) (by simp [feS,feT,Qd]) (by simp [feS,feT,feB];omega) (by omega))
 ·simp only [feS]
  repeat' (first|(refine zsk ?_;intro K' hK)|refine zsp ?_|(refine zsc ?_ ?_<;>intro hc<;>first|exact znh|try simp only [znz] at hc)|simp (maxSteps:=1000000) only [go_sem,QS,feB]|(refine hK _ ?_;clear hK K')|apply zan|(refine anT (xs:=[vN (q9 xW) 5 0 0 1,vN (q9 xW) 4 0 0 4,vN (q9 xW) 2 0 0 1]) z2 (by decide) rfl rfl rfl rfl ?_)|(apply QA;(focus first|exact (z1 _ _).b|exact (z3 _ zsd zsd zsd).b))|exact zsq|fail)
  all_goals exact hL' _ (Qd [(2,7003)]) (by omega) (by omega) (Qh [(2,7003)] (by simp only [go_sem,zwl,feS,feT,feB,acr,wz,feW]<;>exact zcc) (by simp only [go_sem,zwl,feS,feT,feB,acr,wz,feW,q9,xW,vN,Qa.v,Qa.cells,List.take_succ_cons,List.take_zero,zE,zH]<;>exact zcc) (by simp [feS,feT,Qd]) (by simp [feS,feT,feB];omega) (by omega))
 ·clear hL'
  simp only [feS]
  refine zgo ?_;repeat' first|exact zt|apply zan|intro hc
  refine Qj (ι:=Unit) (fun _=>True) (fun _=>feT [(3,.ptr 0 0),(51,acr),(52,V.int 0),(53,V.int 0)]) (fun _=>0) () trivial (Qd []) (Qh [] (by simp only [go_sem,zwl,feS,feT,feB,acr,wz,feW]<;>exact zcc) (by simp only [go_sem,zwl,feS,feT,feB,acr,wz,feW,q9,xW,vN,Qa.v,Qa.cells,List.take_succ_cons,List.take_zero,zE,zH]<;>exact zcc) (by simp [feS,feT,Qd]) (by simp [feS,feT,feB]) (by omega)) fun _ _ K' hL=>?_
  clear hL
  simp only [feT]
  refine zgo ?_;repeat' first|exact zt|apply zan|intro hc
  refine Qj (ι:=Unit) (fun _=>True) (fun _=>feT [(3,.ptr 0 0),(65,acr),(66,V.int 0),(67,V.int 0)]) (fun _=>0) () trivial (Qd []) (Qh [] (by simp only [go_sem,zwl,feS,feT,feB,acr,wz,feW]<;>exact zcc) (by simp only [go_sem,zwl,feS,feT,feB,acr,wz,feW,q9,xW,vN,Qa.v,Qa.cells,List.take_succ_cons,List.take_zero,zE,zH]<;>exact zcc) (by simp [feS,feT,Qd]) (by simp [feS,feT,feB]) (by omega)) fun _ _ K' hL=>?_
  clear hL
  simp only [feT]
  refine zgo ?_;repeat' first|exact zt|apply zan|intro hc
  refine Qj (ι:=Unit) (fun _=>True) (fun _=>feT [(77,acr),(78,V.int 0),(79,V.int 0)]) (fun _=>0) () trivial (Qd []) (Qh [] (by simp only [go_sem,zwl,feS,feT,feB,acr,wz,feW]<;>exact zcc) (by simp only [go_sem,zwl,feS,feT,feB,acr,wz,feW,q9,xW,vN,Qa.v,Qa.cells,List.take_succ_cons,List.take_zero,zE,zH]<;>exact zcc) (by simp [feS,feT,Qd]) (by simp [feS,feT,feB]) (by omega)) fun _ _ K' hL=>?_
  clear hL
  simp only [feT]
  repeat' (first|(refine zsk ?_;intro K' hK)|refine zsp ?_|(refine zsc ?_ ?_<;>intro hc<;>first|exact znh|try simp only [znz] at hc)|simp (maxSteps:=1000000) only [go_sem,QS,wz,acr]|(refine hK _ ?_;clear hK K')|apply zan|(apply ajZ;(focus first|exact gN))|(apply QA;(focus first|exact (z1 _ _).b|exact (z3 _ zsd zsd zsd).b))|exact zsq|fail)
  all_goals exact zr
def alu (l:List xh) (name:List UInt8):List xh:=l.filter fun x=>x.sec == name
def aeu (d:Qv) (x:xh):Option Qv :=
 if x.name = [108,101,97,115,116] then (if avg x.val = true then some { d with least:=yo x.val } else none)
 else if x.name = [109,111,115,116] then (if avg x.val = true then some { d with most:=yo x.val } else none)
 else if x.name = [115,117,105,116,101,115] then (if ((vL x.val).2.2 == 0) = true then some { d with suites:=(vL x.val).1 } else none)
 else if x.name = [111,114,100,101,114] then (if (x.val == [111,119,110] || x.val == [99,108,105,101,110,116]) = true then some { d with own:=x.val == [111,119,110] } else none)
 else if x.name = [102,97,108,108,98,97,99,107] then (if (x.val == [121,101,115] || x.val == [110,111]) = true then some { d with fall:=x.val == [121,101,115] } else none)
 else none
def aqB:List xh→Qv→Option Qv
 | [],d=>some d
 | x :: r,d=>if r.any (fun y=>y.name == x.name) = true then aqB r d else (aeu d x).bind (aqB r)
def arc (s:List UInt8):Prop:=s = [108,101,97,115,116]∨s = [109,111,115,116]∨s = [115,117,105,116,101,115]∨s = [111,114,100,101,114]∨s = [102,97,108,108,98,97,99,107]
def ep0:Ob:=.box true [V.str [],V.int 0,V.int 0,.hd 2 0 0,V.bool false,.hd 3 0 0,.hd 4 0 0,.hd 5 0 0,V.bool false]
def fsO (own:List xh):List (Nat×Ob):=[(0,ep0),(1,.buf true 4 (own.map xh.v)),(2,.buf true 1 []),(3,.buf true 4 []),(4,.buf true 1 []),(5,.buf true 1 [])]
def qW (g1 g2 g3 g4 g5 g6 g7 g8:Nat):List V:=[.clo (.n g1) [.ptr 8 0],.clo (.n g2) [.ptr 8 0],.clo (.m g3) [.ptr 6 0],.clo (.n g4) [.ptr 8 0],.clo (.m g5) [.ptr 6 0],.clo (.n g6) [.ptr 8 0],.clo (.n g7) [.ptr 8 0],.clo (.n g8) [.ptr 8 0]]
def ae7 (own:List xh) (ws:List V) (d:Qv):List (Nat×Ob):=[(0,ep0),(1,.buf true 4 (own.map xh.v)),(2,.buf true 1 []),(3,.buf true 4 []),(4,.buf true 1 []),(5,.buf true 1 []),(6,.box true d.cells),(7,.map aco ws 0),(8,.box true [.ptr 6 0])]
theorem arj {l:List xh} {name:List UInt8} {k:Nat} {x:xh} (h:l[k]? = some x):alu (l.take (k + 1)) name = if (x.sec == name) = true then alu (l.take k) name++[x] else alu (l.take k) name:=by
 rw [zB,h,alu,kU]
 by_cases hx:(x.sec == name) = true
 ·rw [if_pos hx];simp [alu,hx]
 ·rw [if_neg hx];simp [alu,hx]
theorem ark (l:List xh) (name:List UInt8):(alu l name).length≤l.length:=kJ _ _
theorem ajs {s:List UInt8} (h:arc s):∃ i,((i = 0∧s = [108,101,97,115,116])∨(i = 1∧s = [109,111,115,116])∨(i = 2∧s = [115,117,105,116,101,115])∨(i = 3∧s = [111,114,100,101,114])∨(i = 7∧s = [102,97,108,108,98,97,99,107]))∧XI false [1] (V.str s) aco 0 = some (some i):=by
 rcases h with h|h|h|h|h
 ·exact ⟨0,.inl ⟨rfl,h⟩,h ▸ kG0⟩
 ·exact ⟨1,.inr (.inl ⟨rfl,h⟩),h ▸ kG1⟩
 ·exact ⟨2,.inr (.inr (.inl ⟨rfl,h⟩)),h ▸ kG2⟩
 ·exact ⟨3,.inr (.inr (.inr (.inl ⟨rfl,h⟩))),h ▸ kG3⟩
 ·exact ⟨7,.inr (.inr (.inr (.inr ⟨rfl,h⟩))),h ▸ kG7⟩
theorem xI {d:Qv} {x:xh} {r:List xh} {e:Qv} {c:Bool} {d':Qv} (ha:aeu d x = if c = true then some d' else none) (h:(aeu d x).bind (aqB r) = some e):c = true∧aqB r d' = some e:=by
 rw [ha] at h
 cases c with
 | false=>cases h
 | true=>exact ⟨rfl,h⟩
theorem aqY {s:List UInt8} (h:arc s):aya s = false:=by rcases h with rfl|rfl|rfl|rfl|rfl<;>decide
theorem aw8 {a b:Nat}:sig [a] b 0 = a:=rfl
theorem aw7 {a b:Nat}:sig [a] b 2 = b + 1:=rfl
def Xd:=qd Proofs.Tryz.f16 [⟨fun _=>false,[2],.one 0 (.one 1 (.or 2 (.one 3 (.one 4 (.one 5 (.done)))) (.or 3 (.one 2 (.one 4 (.one 5 (.done)))) (.done))))⟩,⟨fun y=>!decide (y = 6) && !decide (y = 8),[14],zoc 0 17⟩,⟨fun _=>false,[2],.one 0 (.one 1 (.or 2 (.one 3 (.one 4 (.one 5 (.done)))) (.or 3 (.one 2 (.one 4 (.one 5 (.done)))) (.done))))⟩]
def We (Γ:Env) (f:Nat):Prop:=∀ (l:List xh) (name:List UInt8) (d:Qv) (hs:name.length < 2 ^ 30) (hn:ahl name = true) (hl:l.length < 2 ^ 30) (hv:∀ x∈l,x.val.length < 2 ^ 30) (hw:∀ x∈alu l name,arc x.name) (ho:alu l name≠[]) (hr:aqB (alu l name) ⟨name,1,4,awN,false,false⟩ = some d),EvC Γ f [.sl 4 (l.map xh.v),V.str name,.sc (.slice none 0 0)] (at3 d)
attribute [local go_sem] List.length_cons List.length_nil zE zH List.take_succ_cons List.take_zero xh.cells xh.v V.ren ep0 fsO ae7 QS Ks aw8 aw7 in
theorem vU {Γ:Env} {f:Nat} (h:Has Γ.P f 100 Xd.1.1.ac Xd.1.2) (z0:jE Γ 44) (z1:jF Γ 45) (z2:Wd Γ 46) (z3:XB Γ 47) (z4:Q5 Γ 48) (z5:qI Γ 49) (z6:XV Γ 50):We Γ f:=by
 intro l name d hs hn hl hv hw ho hr
 refine Q0 h zsi (ahY d) fun C hC hm=>?_
 subst hC
 simp only [Xd,qd,DC.ac]
 refine zgo ?_;repeat' first|exact zt|apply zan|intro hc
 refine Qj (ι:=Nat) (fun k=>k≤l.length) (fun k=>QS [(1,V.str name),(2,nS),(6,.ptr 0 0),(10,.hd 1 0 (alu (l.take k) name).length),(27,.sl 4 (l.map xh.v)),(28,V.int l.length),(29,V.int k)] (fsO (alu (l.take k) name)) 6) (fun k=>l.length - k) 0 (zJ _) (Qd [(1,9000),(2,4),(3,6),(4,7),(5,8)]) (Qh [(1,9000),(2,4),(3,6),(4,7),(5,8)] (by simp only [go_sem,zwl,fsO,ep0,zb]<;>exact zcc) (by simp only [go_sem,zwl,fsO,ep0]<;>exact zcc) (by simp [fsO,Qd]) (by simp [fsO];omega) (by omega)) fun k hk K' hL=>?_
 rcases hdr:l.drop k with _|⟨x,r⟩
 ·have hkl:=Qu hdr
  have e1:decide ((k:Int) < ((l.length:Nat):Int)) = false:=by simp;omega
  rw [zi hkl]
  have hol:=ark l name
  have hmem:∀ x∈alu l name,x.val.length < 2 ^ 30:=fun x hx=>hv x (List.mem_filter.1 hx).1
  generalize alu l name = own at *
  have hpos:0 < own.length:=kL.2 ho
  have e2:(((own.length:Nat):Int) == 0) = false:=by simp;omega
  obtain ⟨g1,g2,g3,g4,g5,g6,g7,g8,c1,c2,c3,c4,c8,hJ⟩:=z2
  have hJ0:=hJ _ (Qv.cells_closed ⟨name,1,4,awN,false,false⟩)
  (have zx:=za e1 e2);refine zgo ?_;repeat' first|exact zt|apply zan|intro hc
  have hws:∃ ws,ws = qW g1 g2 g3 g4 g5 g6 g7 g8:=⟨_,rfl⟩
  refine Qj (ι:=Nat) (fun k=>k≤own.length) (fun k=>QS [(6,.ptr 0 0),(10,.hd 1 0 own.length),(13,.ptr 6 0),(14,.mp 7),(51,.hd 1 0 own.length),(52,V.int own.length),(53,V.int k)] (ae7 own (qW g1 g2 g3 g4 g5 g6 g7 g8) ⟨name,1,4,awN,false,false⟩) 9) (fun k=>own.length - k) 0 (zJ _) (Qd [(6,6006),(7,9006),(8,9007)]) (Qh [(6,6006),(7,9006),(8,9007)] (by simp only [go_sem,zwl,ae7,ep0,qW]<;>exact zcc) (by simp only [go_sem,zwl,ae7,ep0,qW,Qv.cells]<;>exact zcc) (by simp [ae7,Qd]) (by simp [ae7];omega) (by omega)) fun k hk K2 hL2=>?_
  rcases hdo:own.drop k with _|⟨x,r⟩
  ·have hkl:=Qu hdo
   have e3:decide ((k:Int) < ((own.length:Nat):Int)) = false:=by simp;omega
   (have zx:=e3);refine zgo ?_;repeat' first|exact zt|apply zan|intro hc
   refine Qj (ι:=Nat×Qv) (fun q=>q.1≤own.length∧aqB (own.drop q.1) q.2 = some d) (fun q=>QS [(6,.ptr 0 0),(10,.hd 1 0 own.length),(13,.ptr 6 0),(14,.mp 7),(66,.hd 1 0 own.length),(67,V.int own.length),(68,V.int q.1)] (ae7 own (qW g1 g2 g3 g4 g5 g6 g7 g8) q.2) 9) (fun q=>own.length - q.1) (0,⟨name,1,4,awN,false,false⟩) ⟨zJ _,hr⟩ (Qd []) (Qh [] (by simp only [go_sem,zwl,ae7,ep0,qW]<;>exact zcc) (by simp only [go_sem,zwl,ae7,ep0,qW,Qv.cells]<;>exact zcc) (by simp [ae7,Qd]) (by simp [ae7]) (by omega)) fun q hq K3 hL3=>?_
   obtain ⟨j,dk⟩:=q
   simp only at hq hL3 ⊢
   obtain ⟨hj,hrun⟩:=hq
   clear hL2 hL
   rcases hdj:own.drop j with _|⟨x,r⟩
   ·have hjl:=Qu hdj
    have e4:decide ((j:Int) < ((own.length:Nat):Int)) = false:=by simp;omega
    rw [hdj] at hrun
    obtain rfl:dk = d:=by simpa [aqB] using hrun
    have hfi:=z6 dk
    by_cases hle:dk.least≤dk.most
    ·rw [at3,if_pos hle] at hfi ⊢
     simp only [Qv.ep] at hfi ⊢
     (have zx:=e4);exact zg
    ·rw [at3,if_neg hle] at hfi ⊢
     (have zx:=e4);exact zg
   ·obtain ⟨hj',hgj,hrj⟩:=Qq hdj
    have hwj:=Qe (k:=j) (by omega)
    have e4:decide ((j:Int) < ((own.length:Nat):Int)) = true:=by simp;omega
    have hxm:=zq hgj
    have hvx:=hmem x hxm
    have hcf:=(z4 (own.drop (j + 1)) 47 [.ro x.cells 0] (fun y=>y.name == x.name) (fun y _=>z3 y x) (by simp [V.closed,Qb]) (by simp;omega)).b
    rw [hdj,aqB] at hrun
    rw [← hrj] at hrun
    have hsl:List.take (own.length - (j + 1)) (List.drop (j + 1) (List.map xh.v own)) = (own.drop (j + 1)).map xh.v:=by
     rw [zi (by simp),kW]
    have hw2:IntKind.i64.wrap ((j:Int) + 1) = ((j + 1:Nat):Int):=hwj
    simp only [xh.cells] at hcf
    obtain ⟨i,hi,hnm⟩:=ajs (hw x hxm)
    rcases hag:(own.drop (j + 1)).any (fun y=>y.name == x.name) with _|_
    ·rw [hag,if_neg (by decide)] at hrun
     rw [hag] at hcf
     have hva:=z5 x (aqY (hw x hxm))
     simp only [xh.v,xh.cells] at hva
     have hcase:(∃ i g e,XI false [1] (V.str x.name) aco 0 = some (some i)∧(qW g1 g2 g3 g4 g5 g6 g7 g8)[i]? = some (.clo (.n g) [.ptr 8 0])∧EvH C.env g (.sl 1 [V.str x.val]) dk.cells (V.bool true) (Qv.cells e)∧aqB (own.drop (j + 1)) e = some d)∨(∃ e,XI false [1] (V.str x.name) aco 0 = some (some 2)∧EvD C.env g3 [.sl 1 [V.str x.val]] dk.cells (V.bool true) (Qv.cells e)∧aqB (own.drop (j + 1)) e = some d):=by
      rcases hi with ⟨rfl,hnn⟩|⟨rfl,hnn⟩|⟨rfl,hnn⟩|⟨rfl,hnn⟩|⟨rfl,hnn⟩
      ·obtain ⟨hok,hrun'⟩:=xI (by rw [aeu,if_pos hnn]) hrun
       have hH:=c1 x.val dk hvx
       rw [hok] at hH
       exact .inl ⟨0,g1,_,hnm,rfl,hH,hrun'⟩
      ·obtain ⟨hok,hrun'⟩:=xI (by rw [aeu,if_neg (by rw [hnn];decide),if_pos hnn]) hrun
       have hH:=c2 x.val dk hvx
       rw [hok] at hH
       exact .inl ⟨1,g2,_,hnm,rfl,hH,hrun'⟩
      ·obtain ⟨hok,hrun'⟩:=xI (by rw [aeu,if_neg (by rw [hnn];decide),if_neg (by rw [hnn];decide),if_pos hnn]) hrun
       have hH:=c3 x.val dk hvx
       rw [hok] at hH
       exact .inr ⟨_,hnm,hH,hrun'⟩
      ·obtain ⟨hok,hrun'⟩:=xI (by rw [aeu,if_neg (by rw [hnn];decide),if_neg (by rw [hnn];decide),if_neg (by rw [hnn];decide),if_pos hnn]) hrun
       have hH:=c4 x.val dk
       rw [hok] at hH
       exact .inl ⟨3,g4,_,hnm,rfl,hH,hrun'⟩
      ·obtain ⟨hok,hrun'⟩:=xI (by rw [aeu,if_neg (by rw [hnn];decide),if_neg (by rw [hnn];decide),if_neg (by rw [hnn];decide),if_neg (by rw [hnn];decide),if_pos hnn]) hrun
       have hH:=c8 x.val dk
       rw [hok] at hH
       exact .inl ⟨7,g8,_,hnm,rfl,hH,hrun'⟩
     clear hi hnm
     rcases hcase with ⟨i,g,e,hnm,hcl,hH,hrun'⟩|⟨e,hnm,hH,hrun'⟩
     ·(have zx:=za e4 (za hwj (za hw2 (za hsl (za hgj (za hnm hcl))))));refine zgo ?_;repeat' first|exact zt|apply zan|intro hc
      all_goals exact hL3 _ (j + 1,e) (Qd []) ⟨by simp only;omega,hrun'⟩ (by simp only;omega) (Qh [] (by simp only [go_sem,zwl,ae7,ep0,qW]<;>exact zcc) (by simp only [go_sem,zwl,ae7,ep0,qW,Qv.cells]<;>exact zcc) (by simp [ae7,Qd]) (by simp [ae7]) (by omega))
     ·have hcl:(qW g1 g2 g3 g4 g5 g6 g7 g8)[2]? = some (.clo (.m g3) [.ptr 6 0]):=rfl
      (have zx:=za e4 (za hwj (za hw2 (za hsl (za hgj (za hnm hcl))))));refine zgo ?_;repeat' first|exact zt|apply zan|intro hc
      all_goals exact hL3 _ (j + 1,e) (Qd []) ⟨by simp only;omega,hrun'⟩ (by simp only;omega) (Qh [] (by simp only [go_sem,zwl,ae7,ep0,qW]<;>exact zcc) (by simp only [go_sem,zwl,ae7,ep0,qW,Qv.cells]<;>exact zcc) (by simp [ae7,Qd]) (by simp [ae7]) (by omega))
    ·rw [hag,if_pos rfl] at hrun
     rw [hag] at hcf
     have hrun':=hrun
     (have zx:=za e4 (za hwj (za hw2 (za hsl hgj))));refine zgo ?_;repeat' first|exact zt|apply zan|intro hc
     all_goals exact hL3 _ (j + 1,dk) (Qd []) ⟨by simp only;omega,hrun'⟩ (by simp only;omega) (Qh [] (by simp only [go_sem,zwl,ae7,ep0,qW]<;>exact zcc) (by simp only [go_sem,zwl,ae7,ep0,qW,Qv.cells]<;>exact zcc) (by simp [ae7,Qd]) (by simp [ae7]) (by omega))
  ·obtain ⟨hk',hget,hrr⟩:=Qq hdo
   have hwi:=Qe (k:=k) (by omega)
   have e3:decide ((k:Int) < ((own.length:Nat):Int)) = true:=by simp;omega
   have hwx:=hw x (zq hget)
   obtain ⟨i,hi,hnm⟩:=ajs hwx
   obtain ⟨fk,cc,hcl⟩:∃ fk cc,(qW g1 g2 g3 g4 g5 g6 g7 g8)[i]? = some (.clo fk cc):=by
    rcases hi with ⟨rfl,_⟩|⟨rfl,_⟩|⟨rfl,_⟩|⟨rfl,_⟩|⟨rfl,_⟩<;>exact ⟨_,_,rfl⟩
   clear hi hwx
   (have zx:=za e3 (za hwi (za hget (za hnm hcl))));refine zgo ?_;repeat' first|exact zt|apply zan|intro hc
   all_goals exact hL2 _ (k + 1) (Qd []) (by omega) (by omega) (Qh [] (by simp only [go_sem,zwl,ae7,ep0,qW]<;>exact zcc) (by simp only [go_sem,zwl,ae7,ep0,qW,Qv.cells]<;>exact zcc) (by simp [ae7,Qd]) (by simp [ae7]) (by omega))
 ·obtain ⟨hk',hget,hrr⟩:=Qq hdr
  have hwi:=Qe (k:=k) (by omega)
  have e1:decide ((k:Int) < ((l.length:Nat):Int)) = true:=by simp;omega
  have hot:=arj (name:=name) hget
  have hol:=ark (l.take k) name
  have hlt:(l.take k).length≤k:=by simp;omega
  rcases hx:x.sec == name with _|_
  ·rw [hx,if_neg (by decide)] at hot
   (have zx:=za e1 (za hwi (za hget hx)));refine zgo ?_;repeat' first|exact zt|apply zan|intro hc
   all_goals exact hL _ (k + 1) (Qd []) (by omega) (by omega) (by rw [hot];exact Qh [] (by simp only [go_sem,zwl,fsO,ep0]<;>exact zcc) (by simp only [go_sem,zwl,fsO,ep0]<;>exact zcc) (by simp [fsO,Qd]) (by simp [fsO]) (by omega))
  ·rw [hx,if_pos rfl] at hot
   generalize alu (l.take k) name = own at *
   (have zx:=za e1 (za hwi (za hget hx)));refine zgo ?_;repeat' first|exact zt|apply zan|intro hc
   have hap:List.take own.length (List.map xh.v own)++[V.agg [V.str x.sec,V.str x.name,V.str x.val,V.int x.line]] = (own++[x]).map xh.v:=by
    rw [zi (by simp),kj];rfl
   have hln:own.length + 1 = (own++[x]).length:=by simp
   rw [hap,hln]
   all_goals exact hL _ (k + 1) (Qd [(1,12006)]) (by omega) (by omega) (by rw [hot];exact Qh [(1,12006)] (by simp only [go_sem,zwl,fsO,ep0]<;>exact zcc) (by simp only [go_sem,zwl,fsO,ep0]<;>exact zcc) (by simp [fsO,Qd]) (by simp [fsO];omega) (by omega))
def anm (ws:WS):Jg×Bool×WS :=
 (⟨agp (Ys (isL [107,101,101,112] ws).2).1,(aa6 (Ys (Ys (isL [107,101,101,112] ws).2).2).1).1⟩,
   (isL [107,101,101,112] ws).1 && decide (agp (Ys (isL [107,101,101,112] ws).2).1 > 0) && (aa6 (Ys (Ys (isL [107,101,101,112] ws).2).2).1).2 && (Ys (Ys (isL [107,101,101,112] ws).2).2).2.isEmpty,
   (Ys (Ys (isL [107,101,101,112] ws).2).2).2)
def aaB:=qd Proofs.Tryz.f117 [⟨fun _=>false,[0,12],.one 1 (.one 2 (.one 3 (.one 4 (.one 5 (.one 6 (.one 7 (.one 8 (.one 9 (.one 10 (.one 11 (.or 0 (.or 12 (.one 13 (.one 14 (.one 15 (.one 16 (.one 17 (.done)))))) (.or 16 (.one 12 (.one 13 (.one 14 (.one 15 (.one 17 (.done)))))) (.done))) (.or 12 (.one 0 (.one 13 (.one 14 (.one 15 (.one 16 (.one 17 (.done))))))) (.done)))))))))))))⟩]
def abN (Γ:Env) (f:Nat):Prop:=∀ (ws:WS) (hs:LSz ws),EvD Γ f [] (aaq ws) (.tup [(anm ws).1.v,V.bool (anm ws).2.1]) (aaq (anm ws).2.2)
theorem amd {Γ:Env} {f:Nat} (h:Has Γ.P f 40 aaB.1.1.ac aaB.1.2) (z0:WN Γ 187) (z1:J5 Γ 188) (z2:qn Γ 191) (z3:j7 Γ 190):abN Γ f:=by
 intro ws hs
 refine JL h zsi (⟨Jg.cells_closed _,trivial,trivial⟩) zc3 zc3 fun C hC hm=>?_
 subst hC
 simp only [aaB,qd,DC.ac]
 have n1:=z0 ws [107,101,101,112] hs.1
 have u1:=hs.suf (ahU [107,101,101,112] ws)
 simp only [anm]
 generalize isL [107,101,101,112] ws = p1 at *
 obtain ⟨a,v⟩:=p1
 simp only at n1 u1 ⊢
 have n2:=z2 v 188 z1 u1.1
 have u2:=u1.suf (ahM v)
 generalize Ys v = p2 at *
 obtain ⟨x,u⟩:=p2
 simp only at n2 u2 ⊢
 have n3:=z3 u 188 z1 u2.1 u2.2
 generalize Ys u = p3 at *
 obtain ⟨y,z⟩:=p3
 simp only at n3 ⊢
 generalize aa6 y = q at *
 obtain ⟨n,ok⟩:=q
 have hem:=alH z
 simp only [amM,Jg.v,Jg.cells] at n3 ⊢
 generalize agp x = g at *
 generalize decide (g > 0) = gb at *
 rcases a with _|_
 ·simp only [zK]
  refine zgo ?_;repeat' first|exact zt|apply zan|intro hc
  all_goals (refine J0 _ rfl rfl zcd ?_;simp only [go_sem];done)
 rcases gb with _|_
 ·simp only [zK,zY]
  refine zgo ?_;repeat' first|exact zt|apply zan|intro hc
  all_goals (refine J0 _ rfl rfl zcd ?_;simp only [go_sem];done)
 rcases ok with _|_
 ·simp only [zK,zY]
  refine zgo ?_;repeat' first|exact zt|apply zan|intro hc
  all_goals (refine J0 _ rfl rfl zcd ?_;simp only [go_sem];done)
 ·simp only [zO]
  (have zx:=hem);refine zgo ?_;repeat' first|exact zt|apply zan|intro hc
  all_goals (refine J0 _ rfl rfl zcd ?_;simp only [go_sem];done)
def acF (s:List UInt8) (rs:List Ql) (ks:List Jg):Bool×List Ql×List Jg :=
 if (aiO (QK 32 s)).2.1 = true then (true,rs++[(aiO (QK 32 s)).1],ks)
 else if (anm (QK 32 s)).2.1 = true then (true,rs,ks++[(anm (QK 32 s)).1]) else (false,rs,ks)
def aay:=qd Proofs.Tryz.f53 [⟨fun _=>false,[4,5],.one 0 (.one 1 (.one 2 (.one 3 (.or 4 (.one 5 (.one 6 (.one 7 (.one 8 (.one 9 (.one 10 (.done))))))) (.or 5 (.one 4 (.one 6 (.one 7 (.one 8 (.one 9 (.one 10 (.done))))))) (.done))))))⟩,⟨fun _=>false,[4,5],.one 0 (.one 1 (.one 2 (.one 3 (.or 4 (.one 5 (.one 6 (.one 7 (.one 8 (.one 9 (.one 10 (.done))))))) (.or 5 (.one 4 (.one 6 (.one 7 (.one 8 (.one 9 (.one 10 (.done))))))) (.done))))))⟩]
def abK (Γ:Env) (f:Nat):Prop:=∀ (s:List UInt8) (rs:List Ql) (ks:List Jg) (hs:s.length < 2 ^ 30) (hr:rs.length < 2 ^ 30) (hk:ks.length < 2 ^ 30),EvT Γ f [V.str s] 6 2 (rs.map Ql.v) (ks.map Jg.v) (V.bool (acF s rs ks).1) ((acF s rs ks).2.1.map Ql.v) ((acF s rs ks).2.2.map Jg.v)
attribute [local go_sem] zG in
theorem ama {Γ:Env} {f:Nat} (h:Has Γ.P f 49 aay.1.1.ac aay.1.2) (z0:XC Γ 52) (z1:abJ Γ 116) (z2:abN Γ 117):abK Γ f:=by
 intro s rs ks hs hr hk
 refine aif h (by simp) (by simp only [V.closed,Qb,V.noSl,Wi,and_self,and_true,true_and]) fun C hC hm=>?_
 subst hC
 simp only [aay,qd,DC.ac]
 have hsp:=(z0 s 32 (by omega)).b
 have hlen:=abR 32 s
 have hsz:LSz (QK 32 s):=⟨by omega,fun w hw=>by have:=aeP hw;omega⟩
 simp only [acF]
 generalize QK 32 s = ws at *
 have n1:=z1 ws hsz
 have n2:=z2 ws hsz
 generalize aiO ws = p1 at *
 obtain ⟨r,ok,u⟩:=p1
 generalize anm ws = p2 at *
 obtain ⟨k,ok2,u2⟩:=p2
 simp only [Ql.v,Jg.v,Ql.cells,Jg.cells] at n1 n2
 rcases ok with _|_
 ·rcases ok2 with _|_
  ·simp only [zu,if_false]
   refine zgo ?_;repeat' first|exact zt|apply zan|intro hc
   all_goals first|(refine aep _ _ _ _ _ rfl (by simp only [go_sem]) rfl rfl rfl (by decide) (by decide) (by decide) ⟨_,rfl⟩ ⟨_,rfl⟩ ?_ ?_ ?_ ?_<;>first|rfl|(simp;done))
  ·simp only [zu,if_false,if_true]
   refine zgo ?_;repeat' first|exact zt|apply zan|intro hc
   all_goals first|(refine aep _ _ _ _ _ rfl (by simp only [go_sem]) rfl rfl rfl (by decide) (by decide) (by decide) ⟨_,rfl⟩ ⟨_,rfl⟩ ?_ ?_ ?_ ?_<;>first|rfl|(simp [Jg.v,Jg.cells];done))
 ·simp only [if_true]
  refine zgo ?_;repeat' first|exact zt|apply zan|intro hc
  all_goals first|(refine aep _ _ _ _ _ rfl (by simp only [go_sem]) rfl rfl rfl (by decide) (by decide) (by decide) ⟨_,rfl⟩ ⟨_,rfl⟩ ?_ ?_ ?_ ?_<;>first|rfl|(simp [Ql.v,Ql.cells];done))
abbrev Pol:=List Ql×List Jg×Int×Int
def avv (p:Pol):V:=.tup [as2 p.1 p.2.1,V.int p.2.2.1,V.int p.2.2.2]
theorem amY (p:Pol):(avv p).closed:=by simp only [avv,V.closed,Qb,and_self]
def avP (s:List UInt8):Bool:=match s with|[]=>true|c :: _=>c == 35
def auD (s:List UInt8) (i w:Int) (rs:List Ql) (ks:List Jg):Int:=if w = 0∧yj ((acF s rs ks).2.1.drop rs.length) ((acF s rs ks).2.2.drop ks.length)≠0 then i + 1 else w
def goL:List (List UInt8)→Nat→Int→List Ql→List Jg→Pol
 | [],_,w,rs,ks=>if w > 0 then ([],[],w,25) else if rs.length > 60∨ks.length > 60 then ([],[],0,3) else (rs,ks,0,0)
 | s :: r,i,w,rs,ks =>
   if avP s = true then goL r (i + 1) w rs ks
   else if (acF s rs ks).1 = true then goL r (i + 1) (auD s i w rs ks) (acF s rs ks).2.1 (acF s rs ks).2.2
   else ([],[],(i:Int) + 1,1)
def adC (s:List UInt8):Pol:=if s.length > 8192∨(QK 10 s).length - 1 > 200 then ([],[],0,3) else goL (QK 10 s) 0 0 [] []
theorem ara (s:List UInt8) (rs:List Ql) (ks:List Jg):rs.length≤(acF s rs ks).2.1.length∧(acF s rs ks).2.1.length≤rs.length + 1∧ks.length≤(acF s rs ks).2.2.length∧(acF s rs ks).2.2.length≤ks.length + 1:=by
 rw [acF];split
 ·simp
 ·split<;>simp
def wD:=qd Proofs.Tryz.f17 [zhn 15,zhn 8]
def aaM (Γ:Env) (f:Nat):Prop:=∀ (s:List UInt8) (hs:s.length < 2 ^ 30),EvC Γ f [V.str s] (avv (adC s))
attribute [local go_sem] QS in
theorem akw {Γ:Env} {f:Nat} (h:Has Γ.P f 83 wD.1.1.ac wD.1.2) (z0:UV Γ 51) (z1:XC Γ 52) (z2:abK Γ 53) (z3:qo Γ 26):aaM Γ f:=by
 intro s hs
 refine Q0 h zsi (amY _) fun C hC hm=>?_
 subst hC
 simp only [wD,qd,DC.ac]
 have hct:=(z0 s 10 (by omega)).b
 have hsp:=(z1 s 10 (by omega)).b
 have hpos:1≤(QK 10 s).length:=by
  have:QK 10 s≠[]:=adt _ _ _
  rcases h:QK 10 s with _|⟨a,b⟩
  ·exact absurd h this
  ·simp
 by_cases h1:s.length > 8192
 ·have e1:decide ((s.length:Int) > 8192) = true:=by simp;omega
  have e2:adC s = ([],[],0,3):=by rw [adC,if_pos (.inl h1)]
  rw [e2,avv]
  (have zx:=e1);refine zgo ?_;repeat' first|exact zt|apply zan|intro hc
  all_goals (refine Qg _ rfl ?_;simp only [go_sem];first|rfl|(simp;done)|trace_state)
 have e1:decide ((s.length:Int) > 8192) = false:=by simp;omega
 by_cases h3:(QK 10 s).length - 1 > 200
 ·have e2:adC s = ([],[],0,3):=by rw [adC,if_pos (.inr h3)]
  have e4:decide (((((QK 10 s).length - 1:Nat)):Int) > 200) = true:=by simp;omega
  rw [e2,avv]
  (have zx:=za e1 e4);refine zgo ?_;repeat' first|exact zt|apply zan|intro hc
  all_goals (refine Qg _ rfl ?_;simp only [go_sem];first|rfl|(simp;done)|trace_state)
 have e2:adC s = goL (QK 10 s) 0 0 [] []:=by rw [adC,if_neg (by omega)]
 have e4:decide (((((QK 10 s).length - 1:Nat)):Int) > 200) = false:=by simp;omega
 rw [e2,avv]
 have hmem:∀ w∈QK 10 s,w.length < 2 ^ 30:=fun w hw=>by have:=aeP hw;omega
 generalize QK 10 s = ws at *
 (have zx:=za e1 e4);refine zgo ?_;repeat' first|exact zt|apply zan|intro hc
 refine Qj (ι:=Nat×Int×List Ql×List Jg) (fun q=>q.1≤ws.length∧(0≤q.2.1∧q.2.1≤q.1)∧q.2.2.1.length≤q.1∧q.2.2.2.length≤q.1∧goL (ws.drop q.1) q.1 q.2.1 q.2.2.1 q.2.2.2 = goL ws 0 0 [] [])
  (fun q=>QS [(2,.ptr 0 0),(5,.ptr 3 0),(6,V.int q.2.1),(21,.sl 1 (ws.map V.str)),(22,V.int (ws.map V.str).length),(23,V.int q.1)] [(0,.box true [.hd 1 0 0,.hd 2 0 0]),(1,.buf true 6 []),(2,.buf true 2 []),(3,.box true [.hd 4 0 (q.2.2.1.map Ql.v).length,.hd 5 0 (q.2.2.2.map Jg.v).length]),(4,.buf true 6 (q.2.2.1.map Ql.v)),(5,.buf true 2 (q.2.2.2.map Jg.v))] 6)
  (fun q=>ws.length - q.1) (0,0,[],[]) ⟨by simp,by simp,by simp,by simp,by simp⟩ (Qd [(3,11000),(4,11001),(5,11002)]) (Qh [(3,11000),(4,11001),(5,11002)] zwa (by simp only [zH,List.length_nil];simp only [go_sem,zwl];(repeat' (first|rfl|apply za|omega|exact fun h=>h|exact Exists.intro _ rfl))) (by simp [Qd]) (by simp;omega) (by omega)) fun q hq K' hL=>?_
 obtain ⟨k,w,rs,ks⟩:=q
 obtain ⟨q1,⟨q2,q3⟩,q4,q5,hinv⟩:=hq
 simp only at q1 q2 q3 q4 q5 hinv
 simp only
 rcases hd:ws.drop k with _|⟨x,r⟩
 ·have hk:=Qu hd
  rw [hd,goL] at hinv
  rw [← hinv]
  have e5:decide ((k:Int) < (((ws.map V.str).length:Nat):Int)) = false:=by simp;omega
  by_cases hw:w > 0
  ·have e6:decide (w > 0) = true:=zn hw
   rw [if_pos hw]
   (have zx:=za e5 e6);refine zgo ?_;repeat' first|exact zt|apply zan|intro hc
   all_goals (refine Qg _ rfl ?_;simp only [go_sem];first|rfl|(simp;done)|trace_state)
  ·have e6:decide (w > 0) = false:=zp hw
   rw [if_neg hw]
   have e7:decide ((((rs.map Ql.v).length:Nat):Int) > 60) = decide (rs.length > 60):=by rw [zb];apply decide_eq_decide.2;omega
   have e8:decide ((((ks.map Jg.v).length:Nat):Int) > 60) = decide (ks.length > 60):=by rw [zb];apply decide_eq_decide.2;omega
   by_cases h7:rs.length > 60
   ·rw [if_pos (.inl h7)]
    rw [zn h7] at e7
    (have zx:=za e5 (za e6 e7));refine zgo ?_;repeat' first|exact zt|apply zan|intro hc
    all_goals (refine Qg _ rfl ?_;simp only [go_sem];first|rfl|(simp;done)|trace_state)
   ·rw [zp h7] at e7
    by_cases h8:ks.length > 60
    ·rw [if_pos (.inr h8)]
     rw [zn h8] at e8
     (have zx:=za e5 (za e6 (za e7 e8)));refine zgo ?_;repeat' first|exact zt|apply zan|intro hc
     all_goals (refine Qg _ rfl ?_;simp only [go_sem];first|rfl|(simp;done)|trace_state)
    ·rw [if_neg (by omega)]
     rw [zp h8] at e8
     (have zx:=za e5 (za e6 (za e7 e8)));refine zgo ?_;repeat' first|exact zt|apply zan|intro hc
     all_goals (refine Qg _ rfl ?_;simp only [go_sem];first|exact ⟨zG.symm,zG.symm⟩|trace_state)
 ·obtain ⟨hk',hget,hr⟩:=Qq hd
  have hwm:=hmem x (zq hget)
  have hw:=Qe (k:=k) (by omega)
  have e5:decide ((k:Int) < (((ws.map V.str).length:Nat):Int)) = true:=by simp;omega
  rw [hd,goL] at hinv
  by_cases hn:avP x = true
  ·rw [if_pos hn] at hinv
   rcases x with _|⟨c,x2⟩
   ·(have zx:=za e5 (za hw hget));refine zgo ?_;repeat' first|exact zt|apply zan|intro hc
    all_goals first
     | exact hL _ (k + 1,w,rs,ks) (Qd []) ⟨by simp only;omega,⟨q2,by simp only;omega⟩,by simp only;omega,by simp only;omega,by simp only;rw [hr];exact hinv⟩ (by simp only;omega) (zwg [])
   ·have e9:(c :: x2 == []) = false:=rfl
    have e10:((c.toNat:Int) == 35) = true:=(aoa c 35 (by decide)).trans hn
    (have zx:=za e5 (za e9 (za e10 (za hw hget))));refine zgo ?_;repeat' first|exact zt|apply zan|intro hc
    all_goals first
     | exact hL _ (k + 1,w,rs,ks) (Qd []) ⟨by simp only;omega,⟨q2,by simp only;omega⟩,by simp only;omega,by simp only;omega,by simp only;rw [hr];exact hinv⟩ (by simp only;omega) (zwg [])
  ·rw [if_neg hn] at hinv
   rcases x with _|⟨c,x2⟩
   ·exact absurd rfl hn
   have e9:(c :: x2 == []) = false:=rfl
   have e10:((c.toNat:Int) == 35) = false:=(aoa c 35 (by decide)).trans (by simpa [avP] using hn)
   have hdo:=z2 (c :: x2) rs ks hwm (by omega) (by omega)
   have hln:=ara (c :: x2) rs ks
   unfold auD at hinv
   generalize acF (c :: x2) rs ks = p at *
   obtain ⟨ok,rs2,ks2⟩:=p
   simp only at hdo hln hinv
   rcases ok with _|_
   ·simp only [zu,if_false] at hinv
    rw [← hinv]
    (have zx:=za e5 (za e9 (za e10 (za hw hget))));refine zgo ?_;repeat' first|exact zt|apply zan|intro hc
    all_goals (refine Qg _ rfl ?_;simp only [go_sem];first|rfl|(simp;done)|trace_state)
   ·simp only [if_true] at hinv
    have hck:=(z3 (rs2.drop rs.length) (ks2.drop ks.length) (by rw [kF];omega) (by rw [kF];omega)).b
    have hd1:List.take ((List.map Ql.v rs2).length - (List.map Ql.v rs).length) (List.drop (List.map Ql.v rs).length (List.map Ql.v rs2)) = (rs2.drop rs.length).map Ql.v:=by
     rw [zi (by simp),zb,kW]
    have hd2:List.take ((List.map Jg.v ks2).length - (List.map Jg.v ks).length) (List.drop (List.map Jg.v ks).length (List.map Jg.v ks2)) = (ks2.drop ks.length).map Jg.v:=by
     rw [zi (by simp),zb,kW]
    generalize hcv:yj (rs2.drop rs.length) (ks2.drop ks.length) = cv at *
    by_cases hw0:w = 0
    ·subst hw0
     by_cases hc0:cv = 0
     ·subst hc0
      simp only [ne_eq,not_true_eq_false,and_false,if_false] at hinv
      (have zx:=za e5 (za e9 (za e10 (za hw (za hget (za hd1 hd2))))));refine zgo ?_;repeat' first|exact zt|apply zan|intro hc
      all_goals first
       | exact hL _ (k + 1,0,rs2,ks2) (Qd [(4,22006),(5,22007)]) ⟨by simp only;omega,⟨by simp only;omega,by simp only;omega⟩,by simp only;omega,by simp only;omega,by simp only;rw [hr];exact hinv⟩ (by simp only;omega) (zwg [(4,22006),(5,22007)])
     ·have e12:(cv != 0) = true:=by simpa using hc0
      simp only [ne_eq,hc0,not_false_eq_true,and_true,if_true] at hinv
      (have zx:=za e5 (za e9 (za e10 (za e12 (za hw (za hget (za hd1 hd2)))))));refine zgo ?_;repeat' first|exact zt|apply zan|intro hc
      all_goals first
       | exact hL _ (k + 1,(k:Int) + 1,rs2,ks2) (Qd [(4,22006),(5,22007)]) ⟨by simp only;omega,⟨by simp only;omega,by simp only;omega⟩,by simp only;omega,by simp only;omega,by simp only;rw [hr];exact hinv⟩ (by simp only;omega) (zwg [(4,22006),(5,22007)])
    ·have e11:(w == 0) = false:=by simpa using hw0
     simp only [hw0,false_and,if_false] at hinv
     (have zx:=za e5 (za e9 (za e10 (za e11 (za hw hget)))));refine zgo ?_;repeat' first|exact zt|apply zan|intro hc
     all_goals first
      | exact hL _ (k + 1,w,rs2,ks2) (Qd [(4,22006),(5,22007)]) ⟨by simp only;omega,⟨by simp only;omega,by simp only;omega⟩,by simp only;omega,by simp only;omega,by simp only;rw [hr];exact hinv⟩ (by simp only;omega) (zwg [(4,22006),(5,22007)])
end Av
end
