/- B28 -/
import Derived.Test.YtphclkkggijicaaGreatDoorB27
import Derived.Test.YtphclkkggijicaaGreatDoorB12
import Derived.Test.YtphclkkggijicaaGreatDoorB23
set_option linter.unusedVariables false
set_option linter.unusedSimpArgs false
noncomputable section
set_option maxRecDepth 10000
set_option maxHeartbeats 4000000
namespace Av
open Go
attribute [local irreducible] AWp W7 Kx jy awS awC vE awQ aay QP W6 vu awR Vn awB okR jx ris
def yX (l:List Int) (k:Nat) (al nm:List UInt8) (id:Int):Qv×Nat :=
 let y:=amq l k
 let s:=QR l y.2 2
 let o:=QR l s.2 5
 let c:=if o.1 == 4 then (([]:List Qk),o.2) else yZ l o.2 nm y.1.1 y.1.2 id
 (⟨al,y.1.1,y.1.2,id,s.1 == 1,c.1⟩,c.2)
theorem Qv.v_closed (x:Qv):x.v.closed:=by simp only [Qv.v,Qv.cells,V.closed,Qa,and_self]
def qC:=qd Proofs.Tryz.f33 []
def yQ (Γ:Env) (f:Nat):Prop:=∀ (l:List Int) (k:Nat) (al nm:List UInt8) (id:Int) (hl:l.length≤400) (hk:k≤l.length) (h2:nm.length≤900) (hi:I60 id),EvD Γ f [V.str al,V.str nm,V.int id] (QQ l k) ((yX l k al nm id).1.v) (QQ l (yX l k al nm id).2)
attribute [local go_sem] QQ in
theorem afS {Γ:Env} {f:Nat} (h:Has Γ.P f 28 qC.1.1.ac qC.1.2) (z0:vA Γ 70) (z1:YQ Γ 15) (z2:yR Γ 72):yQ Γ f:=by
 intro l k al nm id hl hk h2 hi
 refine Q5 h zsi (Qv.v_closed _) zc3 zc3 fun C hC hm=>?_
 subst hC
 simp only [qC,qd,DC.ac]
 simp only [yX]
 have n1:=z0 l k hl hk
 have k1:=aiN (l:=l) (k:=k) hk
 have a1:=ajF (l:=l) (k:=k)
 generalize amq l k = y1 at *
 obtain ⟨⟨ka,kb⟩,f1⟩:=y1
 simp only at k1 a1 ⊢
 have n2:=z1 l f1 2 hl k1 (by omega) (by omega)
 have k2:=QS (l:=l) (k:=f1) (n:=2) k1
 generalize QR l f1 2 = w2 at *
 obtain ⟨q2,f2⟩:=w2
 simp only at k2 n2 ⊢
 rw [show (2:Int) - 1 = 1 from rfl] at n2
 generalize (q2 == 1) = sc at *
 have n3:=z1 l f2 5 hl k2 (by omega) (by omega)
 have k3:=QS (l:=l) (k:=f2) (n:=5) k2
 generalize QR l f2 5 = w3 at *
 obtain ⟨q3,f3⟩:=w3
 simp only at k3 n3 ⊢
 rw [show (5:Int) - 1 = 4 from rfl] at n3
 simp only [QQ,Qv.v,Qv.cells] at n1 n2 n3 ⊢
 rcases hq:(q3 == 4) with _|_
 ·rw [hq] at n3
  simp only [zk,if_false]
  have n4:=z2 l f3 nm ka kb id hl k3 h2 (by unfold I60;omega) (by unfold I60;omega) hi
  generalize yZ l f3 nm ka kb id = w4 at *
  obtain ⟨ch,f4⟩:=w4
  simp only [QQ] at n4
  refine zgo ?_;repeat' first|exact zt|apply zan|intro hc
  all_goals (refine QG _ rfl rfl zcd ?_;simp only [go_sem];done)
 ·rw [hq] at n3
  simp only [if_true,zl]
  refine zgo ?_;repeat' first|exact zt|apply zan|intro hc
  all_goals (refine QG _ rfl rfl zcd ?_;simp only [go_sem];done)
def alK (i:Nat):List UInt8:=[[107,49],[107,50],[107,51],[107,52]].getD i []
def qL (l:List Int) (nm:List UInt8):Nat→Nat→List Qv→List Qv×Nat
 | 0,k,acc=>(acc,k)
 | n + 1,k,acc=>qL l nm n (yX l (QR l k 3).2 (alK acc.length) nm (100 + (acc.length:Int) + (QR l k 3).1 * 10)).2 (acc++[(yX l (QR l k 3).2 (alK acc.length) nm (100 + (acc.length:Int) + (QR l k 3).1 * 10)).1])
def vL (l:List Int) (k:Nat) (nm:List UInt8):List Qv×Nat:=qL l nm (1 + (QR l k 4).1).toNat (QR l k 4).2 []
theorem ahz {l:List Int} {k:Nat} {al nm:List UInt8} {id:Int} (hk:k≤l.length):(yX l k al nm id).2≤l.length:=by
 have k1:=aiN (l:=l) (k:=k) hk
 have k2:=QS (l:=l) (n:=2) k1
 have k3:=QS (l:=l) (n:=5) k2
 simp only [yX]
 split
 ·exact k3
 ·exact am0 k3
theorem abw:∀ l:List Qv,UL (l.map Qv.v)
 | []=>trivial
 | x :: r=>⟨by simp [Qv.v,Qv.cells,V.cells,Qa,V.closed],abw r⟩
theorem ag7 {o:Nat→Option Ob} {br:List Nat} {B:Option (List Nat)}:∀ l:List Qv,VY o br B (l.map Qv.v) (l.map Qv.v)
 | []=>trivial
 | x :: r=>⟨Qc _ _ _ _ (by simp [Qv.v,Qv.cells,V.cells,Qa,V.closed]),ag7 r⟩
theorem amp {o:Nat→Option Ob} {br:List Nat} {B:Option (List Nat)} {n:Nat} (acc:List Qv) (x:Qv) (hn:n = acc.length):VY o br B (List.take n (acc.map Qv.v)++[.agg x.cells]) ((acc++[x]).map Qv.v):=by
 subst hn
 rw [zb (by simp),show acc.map Qv.v++[V.agg x.cells] = (acc++[x]).map Qv.v by rw [zG];rfl]
 exact ag7 _
structure StD (Γ:Env) (f:FuncId) (nm:List UInt8) (cs:List V) (st:List Qv) (cs2:List V):Prop where
 ev:Ev Γ f [.ptr 0 0,V.str nm] [.box true cs] (.hd 1 0 st.length) [.box true cs2,.buf true 6 (st.map Qv.v)]
 c1:Qa cs
 c2:Qa cs2
theorem aqE {Γ:Env} {b:Nat} {r:List AO} {s:St} {d:Option Nat} {f a:Nat} {nm:List UInt8} {cs cs2 args:List V} {st:List Qv} {okf:Option (List Nat)→Prop} {K:St→Prop} (h:StD Γ f nm cs st cs2) (ha:s.o a = some (.box true cs)) (hab:decide (a < b) = true)
  (hk:W7 Γ (b + KK) r { t:=(s.put d (.hd b 0 st.length)).t,o:=upd (upd s.o b (some (.buf true 6 (st.map Qv.v)))) a (some (.box true cs2)),n:=s.n } K):aii Γ b r s d f [.ptr a 0,V.str nm] args okf K:=by
 intro _ _
 have hab:=zZ hab
 unfold awC
 refine Yx ⟨[.ptr 0 0,V.str nm],_,_,_,[a],some [],h.ev,⟨?_,?_,trivial⟩,⟨⟨_,ha,Qc _ _ _ _ h.c1⟩,trivial⟩,by simp,by grind,by simp,by simp [KK],fun h=>by simp at h,?_⟩
 ·simp [conv]
 ·simp [conv]
 simp only [YD,YK,Ob.ren,Q0 _ _ h.c2,aqR,KS,V.ren,W7] at hk ⊢
 exact hk
def qA:=qd Proofs.Tryz.f9 [⟨fun y=>!decide (y = 0) && !decide (y = 1),[4,5,10,13],.one 0 (.one 1 (.one 2 (.one 3 (.one 6 (.one 7 (.one 8 (.one 9 (.or 4 (.or 5 (.one 10 (.one 11 (.one 12 (.one 13 (.one 14 (.one 15 (.one 16 (.done)))))))) (.or 10 (.one 5 (.one 11 (.one 12 (.one 13 (.one 14 (.one 15 (.one 16 (.done)))))))) (.done))) (.or 10 (.one 4 (.one 5 (.one 11 (.one 12 (.one 13 (.one 14 (.one 15 (.one 16 (.done))))))))) (.done))))))))))⟩]
def yO (Γ:Env) (f:Nat):Prop:=∀ (l:List Int) (k:Nat) (nm:List UInt8),l.length≤400→k≤l.length→nm.length≤900→StD Γ f nm (QQ l k) (vL l k nm).1 (QQ l (vL l k nm).2)
attribute [local go_sem] QQ in
theorem afQ {Γ:Env} {f:Nat} (h:Has Γ.P f 34 qA.1.1.ac qA.1.2) (z0:QX Γ 10) (z1:yQ Γ 33):yO Γ f:=by
 intro l k nm hl hk h2
 refine ⟨YM h (by simp) fun C hC hm=>?_,Qh _ _,Qh _ _⟩
 subst hC
 simp only [qA,qd,DC.ac]
 have hm:C.m = 1:=by simpa using hm
 simp only [vL]
 have n1:=z0 l k 4 hl hk
 have k1:=QS (l:=l) (k:=k) (n:=4) hk
 have r1:=Q4 (l:=l) (k:=k) (n:=4) (by omega) (by omega)
 generalize QR l k 4 = w1 at *
 obtain ⟨n,d1⟩:=w1
 simp only at k1 r1 ⊢
 obtain ⟨c,hcc⟩:∃ c:Nat,(1 + n).toNat = c:=⟨_,rfl⟩
 have hcn:1 + n = (c:Int):=by omega
 have hc4:c≤4:=by omega
 have hwn:IntKind.i64.wrap (1 + n) = (c:Int):=by rw [Jc (by omega) (by omega)];exact hcn
 rw [hcc]
 generalize hG:qL l nm c d1 [] = g
 simp only [QQ] at n1 ⊢
 (have zx:=hwn);refine zgo ?_;repeat' first|exact zt|apply zan|intro hc
 refine JD (ι:=Nat×Nat×List Qv) (fun q=>qL l nm q.1 q.2.1 q.2.2 = g∧q.2.1≤l.length∧q.2.2.length + q.1 = c) (fun q=>stL [(0,.ptr 0 0),(1,V.str nm),(5,.hd 1 0 q.2.2.length),(6,V.int q.1)] [.box true (QQ l q.2.1),.buf true 6 (q.2.2.map Qv.v)]) (fun q=>q.1) (c,d1,[]) ⟨hG,k1,by simp⟩ (xI [0,1001] (by rw [hm];rfl) ⟨⟨_,rfl,fun h=>h,Qc _ _ _ _ (Qh _ _)⟩,⟨_,rfl,fun h=>h,rfl,rfl⟩,trivial⟩) fun q hq K' hL=>?_
 obtain ⟨m,d,acc⟩:=q
 obtain ⟨q1,q2,q3⟩:=hq
 simp only at q1 q2 q3 hL ⊢
 rcases m with _|m
 ·have e1:decide (((0:Nat):Int) > 0) = false:=rfl
  rw [qL] at q1
  subst q1
  simp only [stL,QQ]
  (have zx:=e1);refine zgo ?_;repeat' first|exact zt|apply zan|intro hc
  all_goals exact Wr _ [.hd 1 0 acc.length] _ rfl ⟨[0,1],none,⟨rfl,rfl,rfl⟩,⟨⟨_,rfl,fun h=>h,Qc _ _ _ _ (Qh l d)⟩,⟨_,rfl,fun h=>h,rfl,rfl⟩,trivial⟩,by simp,rfl⟩
 ·have e1:decide (((m + 1:Nat):Int) > 0) = true:=zu (by omega)
  have ew:IntKind.i64.wrap (((m + 1:Nat):Int) - 1) = (m:Int):=by rw [Jc (by omega) (by omega)];omega
  rw [qL] at q1
  have n2:=z0 l d 3 hl q2
  have k2:=QS (l:=l) (k:=d) (n:=3) q2
  have r2:=Q4 (l:=l) (k:=d) (n:=3) (by omega) (by omega)
  generalize QR l d 3 = w2 at *
  obtain ⟨t,d2⟩:=w2
  simp only at k2 r2 n2 q1
  have ha4:acc.length < 4:=by omega
  have hga:([V.str [107,49],V.str [107,50],V.str [107,51],V.str [107,52]])[acc.length]? = some (V.str (alK acc.length)):=by
   rcases (by omega:acc.length = 0∨acc.length = 1∨acc.length = 2∨acc.length = 3) with h|h|h|h<;>rw [h]<;>rfl
  have hw1:IntKind.i64.wrap (t * 10) = t * 10:=Jc (by omega) (by omega)
  have hw2:IntKind.i64.wrap (100 + (acc.length:Int)) = 100 + (acc.length:Int):=Jc (by omega) (by omega)
  have hw3:IntKind.i64.wrap (100 + (acc.length:Int) + t * 10) = 100 + (acc.length:Int) + t * 10:=Jc (by omega) (by omega)
  have ne:=z1 l d2 (alK acc.length) nm (100 + (acc.length:Int) + t * 10) hl k2 h2 (by unfold I60;omega)
  have k3:=ahz (l:=l) (k:=d2) (al:=alK acc.length) (nm:=nm) (id:=100 + (acc.length:Int) + t * 10) k2
  generalize yX l d2 (alK acc.length) nm (100 + (acc.length:Int) + t * 10) = w3 at *
  obtain ⟨en,d3⟩:=w3
  simp only at k3 q1
  simp only [stL,QQ,Qv.v,Qv.cells] at ne ⊢
  have hln:acc.length + 1 = (acc++[en]).length:=by simp
  (have zx:=za e1 (za ew (za hga (za hw1 (za hw2 (za hw3 hln))))));refine zgo ?_;repeat' first|exact zt|apply zan|intro hc
  all_goals exact hL _ (m,d3,acc++[en]) ⟨q1,k3,by simp;omega⟩ (kf _) (xI [0,20002] (by rw [hm];rfl) ⟨⟨_,rfl,fun h=>h,Qc _ _ _ _ (Qh _ _)⟩,⟨_,rfl,fun h=>h,rfl,amp acc en rfl,abw _⟩,trivial⟩)
def UU:List (List UInt8):=[[108,101,97,115,116],[109,111,115,116],[115,117,105,116,101,115],[111,114,100,101,114],[107,101,121,115],[97,110,99,104,111,114,115],[104,97,115,104,101,115],[102,97,108,108,98,97,99,107],[115,117,105,116,101,115],[109,111,115,116],[107,101,121,115],[97,110,99,104,111,114,115],[104,97,115,104,101,115],[112,111,114,116]]
def qE:=qd Proofs.Tryz.f11 []
def yS (Γ:Env) (f:Nat):Prop:=∀ (l:List Int) (k:Nat) (hl:l.length≤400) (hk:k≤l.length),EvD Γ f [] (QQ l k) (V.str (XA l k UU).1) (QQ l (XA l k UU).2)
attribute [local go_sem] QQ in
theorem afU {Γ:Env} {f:Nat} (h:Has Γ.P f 6 qE.1.1.ac qE.1.2) (z0:Yy Γ 12):yS Γ f:=by
 intro l k hl hk
 refine Q5 h zsi zcl zc3 zc3 fun C hC hm=>?_
 subst hC
 simp only [qE,qd,DC.ac]
 have n1:=z0 l k UU hl hk (by decide) (by decide)
 generalize XA l k UU = w at *
 obtain ⟨s,d⟩:=w
 simp only [QQ,UU,zm,zl] at n1 ⊢
 refine zgo ?_;repeat' first|exact zt|apply zan|intro hc
 all_goals (refine QG _ rfl rfl zcd ?_;simp only [go_sem];done)
def ar7:List (List (List UInt8)):=[[[107,49]],[[107,49],[107,50]],[[107,50],[107,49],[107,51]],[],[[122,122]],[[107,49],[107,49]],[[107,49],[107,49],[107,49],[107,49],[107,49]]]
def asv:List (List (List UInt8)):=[[[49],[50]],[[50],[49,49],[49]],[],[[49],[49]],[[48,49]],[[57,57,57,57,57,57,57,57,57,57]]]
def ar8:List (List (List UInt8)):=[[[115,104,97,50,53,54],[115,104,97,51,56,52]],[[115,104,97,49],[115,104,97,50,53,54]],[[109,100,53]],[],[[114,115,97]],[[115,104,97,49],[115,104,97,49]]]
def arP:List (List UInt8):=[[49],[50],[51],[52],[51],[48],[53],[48,51],[120]]
def arQ:List (List UInt8):=[[97,108,108],[104,105,103,104,58,33,114,115,97],[97,101,115,103,99,109,58,99,104,97,99,104,97],[114,115,97,58,64,115,116,114,101,110,103,116,104],[120],[]]
def arT:List (List UInt8):=[[111,119,110],[99,108,105,101,110,116],[111,119,110],[115,101,114,118,101,114]]
def arX:List (List UInt8):=[[121,101,115],[110,111],[121,101,115],[109,97,121,98,101]]
def amc (w:List UInt8×Nat):List (List UInt8)×Nat:=([w.1],w.2)
def apA (t:List (List (List UInt8))) (w:Int×Nat):List (List UInt8)×Nat:=(t.getD w.1.toNat [],w.2)
def alv (l:List Int) (k:Nat) (w:List UInt8):List (List UInt8)×Nat :=
 if w = [108,101,97,115,116]∨w = [109,111,115,116] then amc (XA l k arP)
 else if w = [115,117,105,116,101,115] then amc (XA l k arQ)
 else if w = [111,114,100,101,114] then amc (XA l k arT)
 else if w = [107,101,121,115] then apA ar7 (QR l k 7)
 else if w = [97,110,99,104,111,114,115] then apA asv (QR l k 6)
 else if w = [104,97,115,104,101,115] then apA ar8 (QR l k 6)
 else if w = [102,97,108,108,98,97,99,107] then amc (XA l k arX)
 else ([[49]],k)
def Up:=qd Proofs.Tryz.f14 []
def KP (Γ:Env) (f:Nat):Prop:=∀ (l:List Int) (k:Nat) (w:List UInt8) (hl:l.length≤400) (hk:k≤l.length),EvD Γ f [V.str w] (QQ l k) (.sl 1 ((alv l k w).1.map V.str)) (QQ l (alv l k w).2)
attribute [local go_sem] QQ in
theorem ac8 {Γ:Env} {f:Nat} (h:Has Γ.P f 69 Up.1.1.ac Up.1.2) (z0:Yy Γ 12) (z1:QX Γ 10):KP Γ f:=by
 intro l k w hl hk
 refine Q5 h zsi zcl zc3 zc3 fun C hC hm=>?_
 subst hC
 simp only [Up,qd,DC.ac]
 have bq:∀ t:List UInt8,w≠t→(w == t) = false:=fun t h=>by simpa using h
 unfold alv
 by_cases w1:w = [108,101,97,115,116]∨w = [109,111,115,116]
 ·rw [if_pos w1]
  have n1:=z0 l k arP hl hk (by decide) (by decide)
  generalize XA l k arP = q at *
  obtain ⟨s,d⟩:=q
  simp only [QQ,amc,arP,zm,zl] at n1 ⊢
  rcases w1 with rfl|rfl
  all_goals
   refine zgo ?_;repeat' first|exact zt|apply zan|intro hc
   all_goals first|(refine Yp _ rfl rfl (Qc _ _ _ _ (Qh _ _)) ?_;first|exact yY rfl (by decide)|exact aec _)
 rw [if_neg w1]
 have b1:=bq [108,101,97,115,116] fun h=>w1 (.inl h)
 have b2:=bq [109,111,115,116] fun h=>w1 (.inr h)
 by_cases w2:w = [115,117,105,116,101,115]
 ·rw [if_pos w2]
  have n1:=z0 l k arQ hl hk (by decide) (by decide)
  generalize XA l k arQ = q at *
  obtain ⟨s,d⟩:=q
  simp only [QQ,amc,arQ,zm,zl] at n1 ⊢
  subst w2
  refine zgo ?_;repeat' first|exact zt|apply zan|intro hc
  all_goals first|(refine Yp _ rfl rfl (Qc _ _ _ _ (Qh _ _)) ?_;first|exact yY rfl (by decide)|exact aec _)
 rw [if_neg w2]
 have b3:=bq _ w2
 by_cases w3:w = [111,114,100,101,114]
 ·rw [if_pos w3]
  have n1:=z0 l k arT hl hk (by decide) (by decide)
  generalize XA l k arT = q at *
  obtain ⟨s,d⟩:=q
  simp only [QQ,amc,arT,zm,zl] at n1 ⊢
  subst w3
  refine zgo ?_;repeat' first|exact zt|apply zan|intro hc
  all_goals first|(refine Yp _ rfl rfl (Qc _ _ _ _ (Qh _ _)) ?_;first|exact yY rfl (by decide)|exact aec _)
 rw [if_neg w3]
 have b4:=bq _ w3
 by_cases w4:w = [107,101,121,115]
 ·rw [if_pos w4]
  have n1:=z1 l k 7 hl hk
  have r1:=Q4 (l:=l) (k:=k) (n:=7) (by omega) (by omega)
  generalize QR l k 7 = q at *
  obtain ⟨n,d⟩:=q
  simp only at r1
  subst w4
  rcases (by omega:n = 0∨n = 1∨n = 2∨n = 3∨n = 4∨n = 5∨n = 6) with rfl|rfl|rfl|rfl|rfl|rfl|rfl
  all_goals
   simp only [QQ,apA] at n1 ⊢
   refine zgo ?_;repeat' first|exact zt|apply zan|intro hc
   all_goals first|(refine Yp _ rfl rfl (Qc _ _ _ _ (Qh _ _)) ?_;first|exact yY rfl (by decide)|exact aec _)
 rw [if_neg w4]
 have b5:=bq _ w4
 by_cases w5:w = [97,110,99,104,111,114,115]
 ·rw [if_pos w5]
  have n1:=z1 l k 6 hl hk
  have r1:=Q4 (l:=l) (k:=k) (n:=6) (by omega) (by omega)
  generalize QR l k 6 = q at *
  obtain ⟨n,d⟩:=q
  simp only at r1
  subst w5
  rcases (by omega:n = 0∨n = 1∨n = 2∨n = 3∨n = 4∨n = 5) with rfl|rfl|rfl|rfl|rfl|rfl
  all_goals
   simp only [QQ,apA] at n1 ⊢
   refine zgo ?_;repeat' first|exact zt|apply zan|intro hc
   all_goals first|(refine Yp _ rfl rfl (Qc _ _ _ _ (Qh _ _)) ?_;first|exact yY rfl (by decide)|exact aec _)
 rw [if_neg w5]
 have b6:=bq _ w5
 by_cases w6:w = [104,97,115,104,101,115]
 ·rw [if_pos w6]
  have n1:=z1 l k 6 hl hk
  have r1:=Q4 (l:=l) (k:=k) (n:=6) (by omega) (by omega)
  generalize QR l k 6 = q at *
  obtain ⟨n,d⟩:=q
  simp only at r1
  subst w6
  rcases (by omega:n = 0∨n = 1∨n = 2∨n = 3∨n = 4∨n = 5) with rfl|rfl|rfl|rfl|rfl|rfl
  all_goals
   simp only [QQ,apA] at n1 ⊢
   refine zgo ?_;repeat' first|exact zt|apply zan|intro hc
   all_goals first|(refine Yp _ rfl rfl (Qc _ _ _ _ (Qh _ _)) ?_;first|exact yY rfl (by decide)|exact aec _)
 rw [if_neg w6]
 have b7:=bq _ w6
 by_cases w7:w = [102,97,108,108,98,97,99,107]
 ·rw [if_pos w7]
  have n1:=z0 l k arX hl hk (by decide) (by decide)
  generalize XA l k arX = q at *
  obtain ⟨s,d⟩:=q
  simp only [QQ,amc,arX,zm,zl] at n1 ⊢
  subst w7
  refine zgo ?_;repeat' first|exact zt|apply zan|intro hc
  all_goals first|(refine Yp _ rfl rfl (Qc _ _ _ _ (Qh _ _)) ?_;first|exact yY rfl (by decide)|exact aec _)
 rw [if_neg w7]
 have b8:=bq _ w7
 simp only [QQ]
 (have zx:=za b1 (za b2 (za b3 (za b4 (za b5 (za b6 (za b7 b8)))))));refine zgo ?_;repeat' first|exact zt|apply zan|intro hc
 all_goals first|(refine Yp _ rfl rfl (Qc _ _ _ _ (Qh _ _)) ?_;first|exact yY rfl (by decide)|exact aec _)
theorem QM.Sm.se {e:QM} (h:e.Sm):e.SmE:=⟨by have:=h.hs;omega,by have:=h.ha;omega,by have:=h.hh;omega,by have:=h.hi;omega,fun x hx=>(h.hx x hx).hl,fun x hx c hc=>((h.hx x hx).hc c hc).h3⟩
theorem ajE {st:List Qv} (hs:∀ x∈st,x.Sm):∀ {l:List (List UInt8)} {acc:List QO},(∀ x∈acc,x.Sm)→(∀ x∈(ww st l acc).2,x.Sm)∧(ww st l acc).2.length≤acc.length + l.length
 | [],acc,h=>⟨h,zi _⟩
 | s :: r,acc,h=>by
   rw [ww]
   rcases hq:xB st s with _|x
   ·exact ⟨h,k8 _ _⟩
   ·have hx:=hs x (List.mem_of_find?_eq_some hq)
    obtain ⟨g1,g2⟩:=ajE hs (l:=r) (acc:=acc++[abx x]) fun y hy=>by
     rcases zX.1 hy with hy|hy
     ·exact h y hy
     ·rw [zO.1 hy];exact ⟨Nat.lt_trans hx.hc (by decide),hx.hs⟩
    exact ⟨g1,by simp at g2 ⊢;omega⟩
theorem amg {of:List UInt8→Int×Bool}:∀ {l:List (List UInt8)} {acc:List Int},(vC of l acc).2.length≤acc.length + l.length
 | [],acc=>zi _
 | s :: r,acc=>by
   rw [vC]
   split
   ·have:=amg (of:=of) (l:=r) (acc:=acc++[(of s).1]);simp at this ⊢;omega
   ·exact k8 _ _
theorem apd {of:List UInt8→Int×Bool} {most:Int} {l:List (List UInt8)}:(vD of most l).2.length≤l.length:=by
 have:=amg (of:=of) (l:=l) (acc:=[])
 simp at this
 rw [vD]
 split
 ·rw [jP,ahh];exact this
 ·exact this
theorem aoR {st:List Qv} {w:List UInt8} {l:List (List UInt8)} {e:QM} (hs:∀ x∈st,x.Sm) (hl:l.length < 2 ^ 28) (h:e.Sm):(YO st w l e).2.Sm:=by
 obtain ⟨h1,h2,h3,h4,h5,h6⟩:=h
 have hk:=ajE hs (l:=l) (acc:=[]) (fun x hx=>by simp at hx)
 have hk2:(abR st l).2 = (ww st l []).2:=rfl
 have n1:=apd (of:=af9) (most:=16) (l:=l)
 have n2:=apd (of:=aig) (most:=22) (l:=l)
 have hsu:(lsL e.suites l).length < 2 ^ 30:=by
  unfold lsL;split
  ·rename_i s;exact kS (akt s) (by decide)
  ·exact h2
 have hkl:=hk.2
 simp at hkl
 unfold YO
 repeat' split
 ·exact ⟨h1,h2,h3,h4,h5,h6⟩
 ·exact ⟨h1,h2,h3,h4,h5,h6⟩
 ·exact ⟨h1,hsu,h3,h4,h5,h6⟩
 ·exact ⟨h1,h2,h3,h4,h5,h6⟩
 ·exact ⟨h1,h2,by show (abR st l).2.length < _;rw [hk2];omega,by show ∀ x∈(abR st l).2,x.Sm;rw [hk2];exact hk.1,h5,h6⟩
 ·exact ⟨h1,h2,h3,h4,by show (vD af9 16 l).2.length < _;omega,h6⟩
 ·exact ⟨h1,h2,h3,h4,h5,by show (vD aig 22 l).2.length < _;omega⟩
 ·exact ⟨h1,h2,h3,h4,h5,h6⟩
theorem ao4 {st:List Qv} (hs:∀ x∈st,x.Sm):∀ {l:List PIt} {e:QM},(∀ x∈l,x.Sm)→e.Sm→(jR st l e).2.Sm
 | [],e,_,h=>h
 | x :: r,e,hl,h=>by
   rw [jR]
   split
   ·exact ao4 hs (fun y hy=>hl y (kx _ hy)) (aoR hs (hl x (by simp)).hl h)
   ·exact h
theorem abe:adF.Sm:=⟨by decide,by decide,by decide,fun x hx=>by simp [adF] at hx,by decide,by decide⟩
theorem aqg {name:List UInt8} (h:name.length < 2 ^ 30):(agt name).Sm:=⟨h,by simp [agt],by simp [agt],fun x hx=>by simp [agt] at hx,by simp [agt],by simp [agt]⟩
theorem ap3 {r:Option Int×QM} (h:r.2.Sm):∃ e n k,wv r = .tup [QM.v e,V.int n,V.int k]∧e.Sm:=by
 obtain ⟨_|n,e⟩:=r
 ·simp only [wv];split
  ·exact ⟨_,_,_,rfl,h⟩
  ·exact ⟨_,_,_,rfl,abe⟩
 ·exact ⟨_,_,_,rfl,abe⟩
def aqW:List WO:=[⟨[119,101,98],[109,111,115,116],[51],0⟩,⟨[119,101,98],[115,117,105,116,101,115],[104,105,103,104,58,33,114,115,97],0⟩]
def arC:QM:=⟨[119,101,98],1,3,[9,11,14,15,16],false,[],[],[],false⟩
theorem aoM:akP aqW [119,101,98] [] = .tup [arC.v,V.int 0,V.int 0]:=by kernel_rfl
def Kl:=qd Proofs.Tryz.f7 []
def ju (Γ:Env) (f:Nat):Prop:=EvN Γ f [] (V.bool true)
theorem ad9 {Γ:Env} {f:Nat} (h:Has Γ.P f 44 Kl.1.1.ac Kl.1.2) (z0:YR Γ 16) (z1:V9 Γ 19):ju Γ f:=by
 refine Qb h zsi zcl zcl fun C hC hm=>?_
 subst hC
 simp only [Kl,qd,DC.ac]
 have hf:=(z0 aqW [119,101,98] [] (by decide) (by decide) (fun x hx=>by simp only [aqW,zp,zy,or_false] at hx;rcases hx with rfl|rfl<;>decide) (by decide) (fun x hx=>by simp at hx)).b
 rw [aoM] at hf
 have hf:=hf.le (args':=[.sl 4 (aqW.map WO.v),V.str [119,101,98],.sc (.slice none 0 0)]) rfl (fun i hi hi'=>by
  match i,hi with
  | 0,_=>exact LeV.refl _
  | 1,_=>exact LeV.refl _
  | 2,_=>exact LeV.nil 6)
 obtain ⟨f1,f2,_⟩:=hf
 have hf:EvC C.env 16 [.sl 4 (aqW.map WO.v),V.str [119,101,98],.sc (.slice none 0 0)] (.tup [arC.v,V.int 0,V.int 0]):=⟨f1,f2⟩
 have hk:=(z1 arC ⟨by decide,by decide,by decide,fun x hx=>by simp [arC] at hx,by decide,by decide⟩).b
 rw [if_pos (by decide +kernel)] at hk
 simp only [aqW,arC,WO.v,WO.cells,QM.v,QM.cells,zm,zl] at hf hk
 repeat' (first|(refine zsk ?_;intro K' hK)|refine zsp ?_|(refine zsc ?_ ?_<;>intro hc<;>first|exact znh|try simp only [znz] at hc)|simp (maxSteps:=1000000) only [go_sem]|(refine hK _ ?_;clear hK K')|apply zan|(apply ane;(focus first|exact hf))|(apply QC;(focus first|exact hk|exact (z0 _ _ _ zsd zsd zsd zsd zsd).b|exact (z1 _ _).b))|exact zsq|fail)
 all_goals exact zr
theorem aaq {α:Type} {p:α→α→Bool} (h:∀ x,p x x = true):∀ l:List α,eqL p l l = true
 | []=>rfl
 | x :: r=>by rw [eqL,h x,aaq h r];rfl
theorem ais (e:QM):anI e e = true:=by
 have h1:∀ x,adJ x x = true:=fun x=>by
  have:=aaq (p:=eqS) (fun x=>by simp [eqS]) x.names
  simp [adJ,cs1,cs2,cs3,this]
 have h2:=aaq (p:=vN) (fun x=>by
  have:=aaq h1 x.chain
  simp [vN,this]) e.idents
 simp [anI,se1,se2,h2]
theorem ajZ (l:List Int) (k:Nat) (iss sub:List UInt8) (a b id sg:Int) (au:Bool):(aat l k iss sub a b id sg au).1.names.length≤2:=by
 show (adI _ _).names.length≤2
 unfold adI
 split
 ·show (if _ then _ else _:List (List UInt8)).length≤2
  split<;>simp
 ·simp [agu]
theorem aeZ {l:List Int}:∀ (m i k:Nat) (iss:List UInt8) (sg:Int) (ab:List Qk),(∀ c∈ab,c.names.length≤2)→∀ c∈(WN l m i k iss sg ab).1.1,c.names.length≤2
 | 0,i,k,iss,sg,ab,h=>h
 | m + 1,i,k,iss,sg,ab,h=>by
   rw [WN]
   refine aeZ m _ _ _ _ _ fun c hc=>?_
   rcases zp.1 hc with rfl|hc
   ·exact ajZ _ _ _ _ _ _ _ _ _
   ·exact h c hc
theorem amZ {l:List Int} {k:Nat} {nm:List UInt8} {a b id:Int}:∀ c∈(yZ l k nm a b id).1,c.names.length≤2:=fun c hc=>by
 simp only [yZ] at hc
 rcases zp.1 hc with rfl|hc
 ·exact ajZ _ _ _ _ _ _ _ _ _
 ·exact aeZ _ _ _ _ _ _ (fun c hc=>by simp at hc) c hc
theorem amO {l:List Int} {k:Nat} {al nm:List UInt8} {id:Int} (hk:k≤l.length) (h1:al.length≤900) (h2:nm.length≤900) (hi:I60 id):(yX l k al nm id).1.Sm:=by
 have k1:=aiN (l:=l) (k:=k) hk
 have a1:=ajF (l:=l) (k:=k)
 have k2:=QS (l:=l) (n:=2) k1
 have k3:=QS (l:=l) (n:=5) k2
 simp only [yX]
 split
 ·exact ⟨by show al.length < _;omega,by simp,fun c hc=>by simp at hc,fun c hc=>by simp at hc⟩
 ·obtain ⟨g1,g2⟩:=am1 (l:=l) (nm:=nm) (a:=(amq l k).1.1) (b:=(amq l k).1.2) (id:=id) k3 h2 (by unfold I60;omega) (by unfold I60;omega) hi
  exact ⟨by show al.length < _;omega,kS g2 (by decide),g1,fun c hc=>kS (amZ c hc) (by decide)⟩
theorem aqJ (i:Nat):(alK i).length≤2:=by
 match i with
 | 0|1|2|3=>decide
 | n + 4=>simp [alK]
theorem aet {l:List Int} {nm:List UInt8} (h2:nm.length≤900):∀ {n k:Nat} {acc:List Qv},k≤l.length→acc.length + n≤4→(∀ x∈acc,x.Sm)→(∀ x∈(qL l nm n k acc).1,x.Sm)∧(qL l nm n k acc).1.length = acc.length + n∧(qL l nm n k acc).2≤l.length
 | 0,k,acc,hk,_,h=>⟨h,rfl,hk⟩
 | n + 1,k,acc,hk,hn,h=>by
   have k1:=QS (l:=l) (k:=k) (n:=3) hk
   have r1:=Q4 (l:=l) (k:=k) (n:=3) (by omega) (by omega)
   have ha:=aqJ acc.length
   rw [qL]
   obtain ⟨g1,g2,g3⟩:=aet h2 (n:=n) (k:=(yX l (QR l k 3).2 (alK acc.length) nm (100 + (acc.length:Int) + (QR l k 3).1 * 10)).2) (acc:=acc++[(yX l (QR l k 3).2 (alK acc.length) nm (100 + (acc.length:Int) + (QR l k 3).1 * 10)).1]) (ahz k1) (by simp;omega) (fun x hx=>by
    rcases zX.1 hx with hx|hx
    ·exact h x hx
    ·rw [zO.1 hx];exact amO k1 (by omega) h2 (by unfold I60;omega))
   exact ⟨g1,by rw [g2];simp;omega,g3⟩
theorem alE {l:List Int} {k:Nat} {nm:List UInt8} (hk:k≤l.length) (h2:nm.length≤900):(∀ x∈(vL l k nm).1,x.Sm)∧(1≤(vL l k nm).1.length∧(vL l k nm).1.length≤4)∧(vL l k nm).2≤l.length:=by
 have k1:=QS (l:=l) (k:=k) (n:=4) hk
 have r1:=Q4 (l:=l) (k:=k) (n:=4) (by omega) (by omega)
 obtain ⟨g1,g2,g3⟩:=aet (l:=l) h2 (n:=(1 + (QR l k 4).1).toNat) (acc:=[]) k1 (by simp;omega) (fun x hx=>by simp at hx)
 rw [List.length_nil] at g2
 exact ⟨g1,by rw [vL,g2];omega,g3⟩
structure arY (v:List (List UInt8)):Prop where
 h1:v.length≤5
 h2:∀ x∈v,x.length≤1000
theorem aly {t:List (List (List UInt8))} (h:∀ v∈t,v.length≤5∧∀ x∈v,x.length≤1000) (w:Int×Nat):arY (apA t w).1:=by
 show arY (t.getD w.1.toNat [])
 rw [zo]
 rcases hq:t[w.1.toNat]? with _|v
 ·exact ⟨by simp,fun x hx=>by simp at hx⟩
 ·have:=h v (zj hq)
  exact ⟨this.1,this.2⟩
theorem ajw {l:List Int} {k:Nat} {t:List (List UInt8)} (h1:1≤t.length) (h2:t.length < 2 ^ 62) (h:∀ x∈t,x.length≤1000):arY (amc (XA l k t)).1:=⟨by simp [amc],fun x hx=>by
 simp only [amc,zO] at hx
 subst hx;exact h _ (acs h1 h2)⟩
theorem alu {l:List Int} {k:Nat} {w:List UInt8} (hk:k≤l.length):arY (alv l k w).1∧(alv l k w).2≤l.length:=by
 unfold alv
 repeat' split
 ·exact ⟨ajw (by decide) (by decide) (by decide),K5 hk⟩
 ·exact ⟨ajw (by decide) (by decide) (by decide),K5 hk⟩
 ·exact ⟨ajw (by decide) (by decide) (by decide),K5 hk⟩
 ·exact ⟨aly (by decide) _,QS hk⟩
 ·exact ⟨aly (by decide) _,QS hk⟩
 ·exact ⟨aly (by decide) _,QS hk⟩
 ·exact ⟨ajw (by decide) (by decide) (by decide),K5 hk⟩
 ·exact ⟨⟨by simp,fun x hx=>by simp only [zO] at hx;subst hx;decide⟩,hk⟩
inductive Qq where
 | mk (words:List (List UInt8)) (op:Bool) (sub:List Qq) (line:Int)
def Qq.words:Qq→List (List UInt8)|.mk w _ _ _=>w
def Qq.op:Qq→Bool|.mk _ o _ _=>o
def Qq.sub:Qq→List Qq|.mk _ _ s _=>s
def Qq.line:Qq→Int|.mk _ _ _ n=>n
mutual
def Qq.v:Qq→V
 | .mk w o s n=>.agg [.sl 1 (w.map V.str),V.bool o,.sl 4 (aoB s),V.int n]
def aoB:List Qq→List V
 | []=>[]
 | x :: r=>x.v :: aoB r
end
theorem ahK:∀ l,aoB l = l.map Qq.v
 | []=>rfl
 | x :: r=>by rw [aoB,ahK r];rfl
def Qq.cells (x:Qq):List V:=[.sl 1 (x.words.map V.str),V.bool x.op,.sl 4 (x.sub.map Qq.v),V.int x.line]
theorem Qq.v_def (x:Qq):x.v = .agg x.cells:=by cases x;rw [Qq.v,ahK];rfl
theorem Qq.cells_cl (x:Qq):Qa x.cells:=⟨trivial,trivial,trivial,trivial,trivial⟩
theorem Qq.v_closed (x:Qq):x.v.closed:=by rw [Qq.v_def];exact x.cells_cl
def Qq.w0 (x:Qq):List UInt8:=x.words.headD []
mutual
def Qq.siz:Qq→Nat
 | .mk _ _ s _=>1 + vt s
def vt:List Qq→Nat
 | []=>0
 | x :: r=>x.siz + vt r
end
theorem aj1:∀ {l:List Qq} {k:Nat} {y:Qq},l[k]? = some y→y.siz≤vt l
 | x :: r,0,y,h=>by simp only [List.getElem?_cons_zero,zd] at h;subst h;rw [vt];omega
 | x :: r,k + 1,y,h=>by
   have:=aj1 (l:=r) (k:=k) (y:=y) (by simpa using h)
   rw [vt];omega
theorem Qq.siz_eq (x:Qq):x.siz = 1 + vt x.sub:=by cases x;rw [Qq.siz];rfl
def qf:=qd Proofs.Tryz.f126 []
def yA (Γ:Env) (f:Nat):Prop:=∀ (x:Qq),EvN Γ f [x.v] (V.str x.w0)
attribute [local go_sem] List.getElem?_cons_zero List.length_nil zm zl in
theorem afw {Γ:Env} {f:Nat} (h:Has Γ.P f 11 qf.1.1.ac qf.1.2) :yA Γ f:=by
 intro x
 refine Qb h zsi zcl zcl fun C hC hm=>?_
 subst hC
 simp only [qf,qd,DC.ac]
 rw [Qq.v_def,Qq.cells,Qq.w0]
 generalize x.words = w
 have hlm:(w.map V.str).length = w.length:=zh _
 rcases w with _|⟨a,r⟩
 ·rw [List.headD_nil]
  exact zg
 ·have e1:((((a :: r).length:Nat):Int) == 0) = false:=by simp;omega
  rw [List.headD_cons]
  (have zx:=za hlm e1);exact zg
def J9:=qd Proofs.Tryz.f63 []
def YT (Γ:Env) (f:Nat):Prop:=∀ (x:Qq) (name:List UInt8) (hx:x.words.length < 2 ^ 60),EvN Γ f [x.v,.ro [V.str name] 0] (V.bool (x.op && eqL eqS x.words [[115,101,114,118,101,114],name]))
attribute [local go_sem] zD zC zm zl in
theorem jE {Γ:Env} {f:Nat} (h:Has Γ.P f 13 J9.1.1.ac J9.1.2) (z0:JE Γ 64):YT Γ f:=by
 intro x name hx
 refine Qb h zsi zcl zcl fun C hC hm=>?_
 subst hC
 simp only [J9,qd,DC.ac]
 rw [Qq.v_def,Qq.cells]
 have he:=(z0 x.words [[115,101,114,118,101,114],name] hx).b
 rcases x.op with _|_
 ·exact zg
 ·exact zg
def J8:=qd Proofs.Tryz.f65 [zhn 10]
def YS (Γ:Env) (f:Nat):Prop:=∀ (y x:Qq) (hy:y.words≠[]) (hx:x.words≠[]),EvN Γ f [y.v,.ro x.cells 0] (V.bool (y.w0 == x.w0))
attribute [local go_sem] List.getElem?_cons_zero zm in
theorem jD {Γ:Env} {f:Nat} (h:Has Γ.P f 13 J8.1.1.ac J8.1.2) :YS Γ f:=by
 intro y x hy hx
 refine Qb h zsi zcl zcl fun C hC hm=>?_
 subst hC
 simp only [J8,qd,DC.ac]
 rw [Qq.v_def,Qq.cells,Qq.cells,Qq.w0,Qq.w0]
 generalize y.words = u at *
 generalize x.words = w at *
 rcases w with _|⟨a,r⟩
 ·exact absurd rfl hx
 rcases u with _|⟨b,q⟩
 ·exact absurd rfl hy
 rw [List.headD_cons,List.headD_cons]
 exact zg
def QK:=qd Proofs.Tryz.f62 []
def QF (Γ:Env) (f:Nat):Prop:=∀ (xs:List Qq) (g:Nat) (cap:List V) (p:Qq→Bool) (hp:∀ x∈xs,EvN Γ g (Qq.v x :: cap) (V.bool (p x))) (hcap:Qa cap) (hl:xs.length < 2 ^ 62),EvN Γ f [.sl 4 (xs.map Qq.v),.clo g cap] (V.int (VS p 0 xs))
attribute [local go_sem] Qq.cells Qq.v_def in
theorem Xg {Γ:Env} {f:Nat} (h:Has Γ.P f 19 QK.1.1.ac QK.1.2) :QF Γ f:=by
 intro xs g cap p hp hcap hl
 refine Qb h zsi zcl zcl fun C hC hm=>?_
 subst hC
 simp only [QK,qd,DC.ac]
 have s1:∀ o,JH o cap = cap:=fun o=>Jz o cap hcap
 have s2:∀ o B,Qu o B cap = True:=fun o B=>eq_true (Jb o B cap hcap)
 refine zgo ?_;repeat' first|exact zt|apply zan|intro hc
 refine Qt (ι:=Nat) (fun k=>k≤xs.length∧VS p k (xs.drop k) = VS p 0 xs) (fun k=>[(8,V.int k)]) (fun k=>xs.length - k) 0 (by omega) ⟨by simp,by simp⟩ zol (fun i hi=>by simp only [ovT,Jn,Nat.reduceEqDiff,reduceIte];(repeat' first|exact wX|refine jZ ?_ ?_|simp only [V.lt,ltL,and_self,and_true]|omega);exact Xc _ _ hcap) (by simp only [Nat.reduceAdd,ovT,Jn,Nat.reduceEqDiff,reduceIte,Xk,W8,aiv,u32,u33,u34,u35,u36,u37,u38,u39,and_self,and_true,true_and];first|rfl|exact Q0 _ _ hcap) fun k hk K' hL=>?_
 obtain ⟨hk,hinv⟩:=hk
 simp only [ovT,Jn,Nat.reduceEqDiff,reduceIte]
 rcases hd:xs.drop k with _|⟨y,r⟩
 ·have:=Qj hd
  rw [hd] at hinv
  have e1:decide ((k:Int) < (((xs.map Qq.v).length:Nat):Int)) = false:=by simp;omega
  (have zx:=e1);refine zgo ?_;repeat' first|exact zt|apply zan|intro hc
  refine Qf _ rfl ?_
  simp only [go_sem]
  rw [← hinv];rfl
 ·obtain ⟨hk,hget,hr⟩:=Qe hd
  rw [hd] at hinv
  have hw:=Qd (k:=k) (by omega)
  have e1:decide ((k:Int) < (((xs.map Qq.v).length:Nat):Int)) = true:=by simp;omega
  have hpy:=hp y (zj hget)
  rw [Qq.v_def,Qq.cells] at hpy
  by_cases hy:p y = true
  ·rw [hy] at hpy
   (have zy0:=hpy.b;have zx:=za hget (za hw (za e1 (za s1 s2))));refine zgo ?_;repeat' first|exact zt|apply zan|intro hc
   refine Qf _ rfl ?_;simp only [go_sem]
   rw [← hinv];simp [VS,hy]
  ·have hy':p y = false:=by simpa using hy
   rw [hy'] at hpy
   (have zy0:=hpy.b;have zx:=za hget (za hw (za e1 (za s1 s2))));refine zgo ?_;repeat' first|exact zt|apply zan|intro hc
   refine hL _ (k + 1) zet ⟨by omega,?_⟩ (by omega) zoe
   rw [hr,← hinv,VS,if_neg hy]
def QB:=qd Proofs.Tryz.f66 []
def QZ (Γ:Env) (f:Nat):Prop:=∀ (xs:List Qq) (g:Nat) (cap:List V) (p:Qq→Bool) (hp:∀ x∈xs,EvN Γ g (Qq.v x :: cap) (V.bool (p x))) (hcap:Qa cap) (hl:xs.length < 2 ^ 62),EvN Γ f [.sl 4 (xs.map Qq.v),.clo g cap] (V.bool (xs.any p))
theorem YV {Γ:Env} {f:Nat} (h:Has Γ.P f 9 QB.1.1.ac QB.1.2) (z0:QF Γ 62):QZ Γ f:=by
 intro xs g cap p hp hcap hl
 refine Qb h zsi zcl zcl fun C hC hm=>?_
 subst hC
 simp only [QB,qd,DC.ac]
 have s1:∀ o,JH o cap = cap:=fun o=>Jz o cap hcap
 have s2:∀ o B,Qu o B cap = True:=fun o B=>eq_true (Jb o B cap hcap)
 have hi:=(z0 xs g cap p hp hcap hl).b
 have e1:=vW p xs 0
 (have zx:=za s1 (za s2 e1));exact zg
mutual
def szB:Qq→Int→Int→Int
 | .mk w _ s _,m,n=>IntKind.i64.wrap (IntKind.i64.wrap (IntKind.i64.wrap (n + 1) + IntKind.i64.wrap ((w.length:Int).tdiv 8)) + szL s (IntKind.i64.wrap (m - n)) 0)
def szL:List Qq→Int→Int→Int
 | [],_,n=>n
 | x :: r,m,n=>if n≤m then szL r m (szB x m n) else n
end
theorem aqZ (x:Qq) (m n:Int):szB x m n = IntKind.i64.wrap (IntKind.i64.wrap (IntKind.i64.wrap (n + 1) + IntKind.i64.wrap ((x.words.length:Int).tdiv 8)) + szL x.sub (IntKind.i64.wrap (m - n)) 0):=by cases x;rw [szB];rfl
theorem af4:∀ l:List Qq,l.length≤vt l
 | []=>zi _
 | x :: r=>by
   have:=af4 r
   rw [vt,x.siz_eq,List.length_cons];omega
def wO:List (List Nat):=[[],[0],[],[],[2,3],[4],[5],[6],[7],[1,8],[],[],[10,11],[12],[13],[],[],[15,16],[14,17],[9,18],[19,18,0,1,2,3,4,5,6,7,8,9,10,11,12,13,14,15,16,17,18,19]]
def wJ:OT:=och 0 21
@[go_sem] def qM (Ys:Nat):OP:=oN 0 (mv 18 5) (oN 1 (bc 19 .add 18 (V.int 1)) (oN 2 (mv 20 0) (oN 3 (mv 21 6) (oN 4 (ia 22 4 20 21) (oN 5 (fa 23 0 22) (oN 6 (ld 24 1 23) (oN 7 (ln 25 24) (oN 8 (bc 26 .quo 25 (V.int 8)) (oN 9 (bn 27 .add 19 26) (oN 10 (mv 28 0) (oN 11 (mv 29 6) (oN 12 (ia 30 4 28 29) (oN 13 (fa 31 2 30) (oN 14 (ld 32 1 31) (oN 15 (mv 33 1) (oN 16 (mv 34 5) (oN 17 (bn 35 .sub 33 34) (oN 18 (cl 36 Ys [32,35]) (oN 19 (bn 37 .add 27 36) (oN 20 (mv 5 37) .done))))))))))))))))))))
def wM (Ys:Nat):List AO:=aoO (qM Ys)
instance (Ys:Nat):RG [] wJ (qM Ys) (wM Ys) wO 21 (fun _=>true):=⟨rfl,by kernel_rfl,by kernel_rfl⟩
def xL (Ys:Nat):AC:=Ue [0,1] (.reg [mc 4 (V.int 0)]) (Ue [0,1,5] (.reg [mc 5 (V.int 0)]) (Ue [5] (Ue [0,1,5,6] (.reg [mc 6 (V.int 0)]) (.block 0 (afn [0,1,5,6] (Ue [0,1,5,6] (Ue [0,1,5,6,15] (.reg [mv 7 6,mv 8 0,ln 9 8,bn 10 .lss 7 9,mv 11 10,mg 12 5 11 true,mg 13 1 11 true,xg 14 (.bin .leq (.t 12) (.t 13)) 11 true,xo 15 (.pick (.t 11) (.t 14) (.c (V.bool false)))]) (.cond (.t 15) .skip (.exit 0))) (Ue [0,1,5,6] (.block 1 (apO [] wJ (qM Ys) (wM Ys) wO)) (.reg [mv 16 6,bc 17 .add 16 (V.int 1),mv 6 17])))))) (Ue [4] (.reg [mv 38 5,mv 4 38]) .ret))) def Zz:List Uc:=[.tmp 4]
def yF (Γ:Env) (f:Nat):Prop:=∀ (l:List Qq) (m:Int) (hl:vt l < 2 ^ 60),EvN Γ f [.sl 4 (l.map Qq.v),V.int m] (V.int (szL l m 0))
attribute [local go_sem] Qq.cells Qq.v_def Yo in
theorem afB {Γ:Env} {f:Nat} (h:Has Γ.P f 39 (xL f) Zz) :yF Γ f:=by
 suffices H:∀ (kk:Nat),∀ (l:List Qq) (m:Int) (hl:vt l < 2 ^ 60),vt l < kk→EvN Γ f [.sl 4 (l.map Qq.v),V.int m] (V.int (szL l m 0)) from fun l m hl=>H _ l m hl (kf _)
 intro kk;induction kk with
 | zero=>intros;rename_i hk;exact absurd hk (kV _)
 | succ kk ih =>
 intro l m hl hk
 refine Qb h zsi zcl zcl fun C hC hm=>?_
 subst hC
 unfold xL
 have hle:=af4 l
 have hlm:(l.map Qq.v).length = l.length:=zh _
 refine zgo ?_;repeat' first|exact zt|apply zan|intro hc
 refine Qz (ι:=Nat×Int) (fun q=>q.1≤l.length∧szL (l.drop q.1) m q.2 = szL l m 0) (fun q=>Yo [(0,.sl 4 (l.map Qq.v)),(1,V.int m),(5,V.int q.2),(6,V.int q.1)] [] 0) (fun q=>l.length - q.1) (0,0) ⟨zw _,rfl⟩ (Qp []) (zwg []) fun q hq K' hL=>?_
 obtain ⟨k,n⟩:=q
 simp only at hq hL ⊢
 obtain ⟨hk,hinv⟩:=hq
 rcases hd:l.drop k with _|⟨y,r⟩
 ·have hkl:=Qj hd
  have e1:decide ((k:Int) < (l.length:Int)) = false:=by simp;omega
  rw [hd,szL] at hinv
  subst hinv
  (have zx:=za e1 hlm);exact zg
 ·obtain ⟨hk',hget,hr⟩:=Qe hd
  rw [hd,szL] at hinv
  have hw:=Qd (k:=k) (by omega)
  have e1:decide ((k:Int) < (l.length:Int)) = true:=by simp;omega
  have hys:=aj1 hget
  have hye:=y.siz_eq
  by_cases hn:n≤m
  ·rw [if_pos hn,aqZ] at hinv
   have e2:decide (n≤m) = true:=zu hn
   have hwl:(y.words.map V.str).length = y.words.length:=zh _
   have hi:=(ih y.sub (IntKind.i64.wrap (m - n)) (by omega) (by omega)).b
   generalize szL y.sub (IntKind.i64.wrap (m - n)) 0 = z at *
   (have zx:=za e1 (za e2 (za hw (za hlm (za hwl hget)))));refine zgo ?_;repeat' first|exact zt|apply zan|intro hc
   all_goals exact hL _ (k + 1,_) (Qp []) ⟨hk',by rw [hr];simpa using hinv⟩ (by simp only;omega) (zwg [])
  ·rw [if_neg hn] at hinv
   rw [← hinv]
   have e2:decide (n≤m) = false:=zv hn
   (have zx:=za e1 (za e2 hlm));exact zg
end Av
end
