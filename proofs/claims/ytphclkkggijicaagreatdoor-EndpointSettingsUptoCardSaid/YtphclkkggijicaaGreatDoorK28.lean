/- Spent buffers in regions whose order is open. -/
import Derived.Test.YtphclkkggijicaaGreatDoorK27
import Derived.Test.YtphclkkggijicaaGreatDoorK12
import Derived.Test.YtphclkkggijicaaGreatDoorK25
set_option linter.unusedVariables false
set_option linter.unusedSimpArgs false
noncomputable section
set_option maxRecDepth 10000
set_option maxHeartbeats 4000000
namespace Av
open Go
attribute [local irreducible] AWp Vo Ky jA awS awC aad awQ aaN QL Vq vQ awR Vz awB okR js ris
def yE (l:List Int) (k:Nat) (al nm:List UInt8) (id:Int):Qs×Nat :=
 let y:=alT l k
 let s:=Jd l y.2 2
 let o:=Jd l s.2 5
 let c:=if o.1 == 4 then (([]:List Qi),o.2) else yG l o.2 nm y.1.1 y.1.2 id
 (⟨al,y.1.1,y.1.2,id,s.1 == 1,c.1⟩,c.2)
theorem Qs.v_closed (x:Qs):x.v.closed:=by simp only [Qs.v,Qs.cells,V.closed,Qa,and_self]
def qh:=qd Proofs.Tryz.f33 []
def yw (Γ:Env) (f:Nat):Prop:=∀ (l:List Int) (k:Nat) (al nm:List UInt8) (id:Int) (hl:l.length≤400) (hk:k≤l.length) (h2:nm.length≤900) (hi:I60 id),EvD Γ f [V.str al,V.str nm,V.int id] (QO l k) ((yE l k al nm id).1.v) (QO l (yE l k al nm id).2)
attribute [local go_sem] QO in
theorem afp {Γ:Env} {f:Nat} (h:Has Γ.P f 28 qh.1.1.ac qh.1.2) (z0:wS Γ 70) (z1:YG Γ 15) (z2:yx Γ 72):yw Γ f:=by
 intro l k al nm id hl hk h2 hi
 refine QT h zsi (Qs.v_closed _) zc3 zc3 fun C hC hm=>?_
 subst hC
 simp only [qh,qd,DC.ac]
 simp only [yE]
 have n1:=z0 l k hl hk
 have k1:=aib (l:=l) (k:=k) hk
 have a1:=ai6 (l:=l) (k:=k)
 generalize alT l k = y1 at *
 obtain ⟨⟨ka,kb⟩,f1⟩:=y1
 simp only at k1 a1 ⊢
 have n2:=z1 l f1 2 hl k1 (by omega) (by omega)
 have k2:=Jm (l:=l) (k:=f1) (n:=2) k1
 generalize Jd l f1 2 = w2 at *
 obtain ⟨q2,f2⟩:=w2
 simp only at k2 n2 ⊢
 rw [show (2:Int) - 1 = 1 from rfl] at n2
 generalize (q2 == 1) = sc at *
 have n3:=z1 l f2 5 hl k2 (by omega) (by omega)
 have k3:=Jm (l:=l) (k:=f2) (n:=5) k2
 generalize Jd l f2 5 = w3 at *
 obtain ⟨q3,f3⟩:=w3
 simp only at k3 n3 ⊢
 rw [show (5:Int) - 1 = 4 from rfl] at n3
 simp only [QO,Qs.v,Qs.cells] at n1 n2 n3 ⊢
 rcases hq:(q3 == 4) with _|_
 ·rw [hq] at n3
  simp only [zj,if_false]
  have n4:=z2 l f3 nm ka kb id hl k3 h2 (by unfold I60;omega) (by unfold I60;omega) hi
  generalize yG l f3 nm ka kb id = w4 at *
  obtain ⟨ch,f4⟩:=w4
  simp only [QO] at n4
  refine zgo ?_;repeat' first|exact zt|apply zan|intro hc
  all_goals (refine QB _ rfl rfl zcd ?_;simp only [go_sem];done)
 ·rw [hq] at n3
  simp only [if_true,zo]
  refine zgo ?_;repeat' first|exact zt|apply zan|intro hc
  all_goals (refine QB _ rfl rfl zcd ?_;simp only [go_sem];done)
def alK (i:Nat):List UInt8:=[[107,49],[107,50],[107,51],[107,52]].getD i []
def qu (l:List Int) (nm:List UInt8):Nat→Nat→List Qs→List Qs×Nat
 | 0,k,acc=>(acc,k)
 | n + 1,k,acc=>qu l nm n (yE l (Jd l k 3).2 (alK acc.length) nm (100 + (acc.length:Int) + (Jd l k 3).1 * 10)).2 (acc++[(yE l (Jd l k 3).2 (alK acc.length) nm (100 + (acc.length:Int) + (Jd l k 3).1 * 10)).1])
def vb (l:List Int) (k:Nat) (nm:List UInt8):List Qs×Nat:=qu l nm (1 + (Jd l k 4).1).toNat (Jd l k 4).2 []
theorem ag5 {l:List Int} {k:Nat} {al nm:List UInt8} {id:Int} (hk:k≤l.length):(yE l k al nm id).2≤l.length:=by
 have k1:=aib (l:=l) (k:=k) hk
 have k2:=Jm (l:=l) (n:=2) k1
 have k3:=Jm (l:=l) (n:=5) k2
 simp only [yE]
 split
 ·exact k3
 ·exact amr k3
theorem aa4:∀ l:List Qs,Kh (l.map Qs.v)
 | []=>trivial
 | x :: r=>⟨by simp [Qs.v,Qs.cells,V.cells,Qa,V.closed],aa4 r⟩
theorem agB {o:Nat→Option Ob} {br:List Nat} {B:Option (List Nat)}:∀ l:List Qs,Kg o br B (l.map Qs.v) (l.map Qs.v)
 | []=>trivial
 | x :: r=>⟨Qg _ _ _ _ (by simp [Qs.v,Qs.cells,V.cells,Qa,V.closed]),agB r⟩
theorem alS {o:Nat→Option Ob} {br:List Nat} {B:Option (List Nat)} {n:Nat} (acc:List Qs) (x:Qs) (hn:n = acc.length):Kg o br B (List.take n (acc.map Qs.v)++[.agg x.cells]) ((acc++[x]).map Qs.v):=by
 subst hn
 rw [zb (by simp),show acc.map Qs.v++[V.agg x.cells] = (acc++[x]).map Qs.v by rw [zD];rfl]
 exact agB _
structure StD (Γ:Env) (f:FuncId) (nm:List UInt8) (cs:List V) (st:List Qs) (cs2:List V):Prop where
 ev:Ev Γ f [.ptr 0 0,V.str nm] [.box true cs] (.hd 1 0 st.length) [.box true cs2,.buf true 6 (st.map Qs.v)]
 c1:Qa cs
 c2:Qa cs2
theorem ap1 {Γ:Env} {b:Nat} {r:List AO} {s:St} {d:Option Nat} {f a:Nat} {nm:List UInt8} {cs cs2 args:List V} {st:List Qs} {okf:Option (List Nat)→Prop} {K:St→Prop} (h:StD Γ f nm cs st cs2) (ha:s.o a = some (.box true cs)) (hab:decide (a < b) = true)
  (hk:Vo Γ (b + KK) r { t:=(s.put d (.hd b 0 st.length)).t,o:=upd (upd s.o b (some (.buf true 6 (st.map Qs.v)))) a (some (.box true cs2)),n:=s.n } K):ahI Γ b r s d f [.ptr a 0,V.str nm] args okf K:=by
 intro _ _
 have hab:=zY hab
 unfold awC
 refine Yk ⟨[.ptr 0 0,V.str nm],_,_,_,[a],some [],h.ev,⟨?_,?_,trivial⟩,⟨⟨_,ha,Qg _ _ _ _ h.c1⟩,trivial⟩,by simp,by grind,by simp,by simp [KK],fun h=>by simp at h,?_⟩
 ·simp [conv]
 ·simp [conv]
 simp only [Ys,YB,Ob.ren,QU _ _ h.c2,aqd,Kz,V.ren,Vo] at hk ⊢
 exact hk
def qf:=qd Proofs.Tryz.f9 [⟨fun y=>!decide (y = 0) && !decide (y = 1),[4,5,10,13],.one 0 (.one 1 (.one 2 (.one 3 (.one 6 (.one 7 (.one 8 (.one 9 (.or 4 (.or 5 (.one 10 (.one 11 (.one 12 (.one 13 (.one 14 (.one 15 (.one 16 (.done)))))))) (.or 10 (.one 5 (.one 11 (.one 12 (.one 13 (.one 14 (.one 15 (.one 16 (.done)))))))) (.done))) (.or 10 (.one 4 (.one 5 (.one 11 (.one 12 (.one 13 (.one 14 (.one 15 (.one 16 (.done))))))))) (.done))))))))))⟩]
def yu (Γ:Env) (f:Nat):Prop:=∀ (l:List Int) (k:Nat) (nm:List UInt8),l.length≤400→k≤l.length→nm.length≤900→StD Γ f nm (QO l k) (vb l k nm).1 (QO l (vb l k nm).2)
attribute [local go_sem] QO in
theorem afn {Γ:Env} {f:Nat} (h:Has Γ.P f 34 qf.1.1.ac qf.1.2) (z0:QP Γ 10) (z1:yw Γ 33):yu Γ f:=by
 intro l k nm hl hk h2
 refine ⟨YD h (by simp) fun C hC hm=>?_,Qk _ _,Qk _ _⟩
 subst hC
 simp only [qf,qd,DC.ac]
 have hm:C.m = 1:=by simpa using hm
 simp only [vb]
 have n1:=z0 l k 4 hl hk
 have k1:=Jm (l:=l) (k:=k) (n:=4) hk
 have r1:=Ja (l:=l) (k:=k) (n:=4) (by omega) (by omega)
 generalize Jd l k 4 = w1 at *
 obtain ⟨n,d1⟩:=w1
 simp only at k1 r1 ⊢
 obtain ⟨c,hcc⟩:∃ c:Nat,(1 + n).toNat = c:=⟨_,rfl⟩
 have hcn:1 + n = (c:Int):=by omega
 have hc4:c≤4:=by omega
 have hwn:IntKind.i64.wrap (1 + n) = (c:Int):=by rw [Q9 (by omega) (by omega)];exact hcn
 rw [hcc]
 generalize hG:qu l nm c d1 [] = g
 simp only [QO] at n1 ⊢
 (have zx:=hwn);refine zgo ?_;repeat' first|exact zt|apply zan|intro hc
 refine JO (ι:=Nat×Nat×List Qs) (fun q=>qu l nm q.1 q.2.1 q.2.2 = g∧q.2.1≤l.length∧q.2.2.length + q.1 = c) (fun q=>stL [(0,.ptr 0 0),(1,V.str nm),(5,.hd 1 0 q.2.2.length),(6,V.int q.1)] [.box true (QO l q.2.1),.buf true 6 (q.2.2.map Qs.v)]) (fun q=>q.1) (c,d1,[]) ⟨hG,k1,by simp⟩ (wK [0,1001] (by rw [hm];rfl) ⟨⟨_,rfl,fun h=>h,Qg _ _ _ _ (Qk _ _)⟩,⟨_,rfl,fun h=>h,rfl,rfl⟩,trivial⟩) fun q hq K' hL=>?_
 obtain ⟨m,d,acc⟩:=q
 obtain ⟨q1,q2,q3⟩:=hq
 simp only at q1 q2 q3 hL ⊢
 rcases m with _|m
 ·have e1:decide (((0:Nat):Int) > 0) = false:=rfl
  rw [qu] at q1
  subst q1
  simp only [stL,QO]
  (have zx:=e1);refine zgo ?_;repeat' first|exact zt|apply zan|intro hc
  all_goals exact Wb _ [.hd 1 0 acc.length] _ rfl ⟨[0,1],none,⟨rfl,rfl,rfl⟩,⟨⟨_,rfl,fun h=>h,Qg _ _ _ _ (Qk l d)⟩,⟨_,rfl,fun h=>h,rfl,rfl⟩,trivial⟩,by simp,rfl⟩
 ·have e1:decide (((m + 1:Nat):Int) > 0) = true:=zl (by omega)
  have ew:IntKind.i64.wrap (((m + 1:Nat):Int) - 1) = (m:Int):=by rw [Q9 (by omega) (by omega)];omega
  rw [qu] at q1
  have n2:=z0 l d 3 hl q2
  have k2:=Jm (l:=l) (k:=d) (n:=3) q2
  have r2:=Ja (l:=l) (k:=d) (n:=3) (by omega) (by omega)
  generalize Jd l d 3 = w2 at *
  obtain ⟨t,d2⟩:=w2
  simp only at k2 r2 n2 q1
  have ha4:acc.length < 4:=by omega
  have hga:([V.str [107,49],V.str [107,50],V.str [107,51],V.str [107,52]])[acc.length]? = some (V.str (alK acc.length)):=by
   rcases (by omega:acc.length = 0∨acc.length = 1∨acc.length = 2∨acc.length = 3) with h|h|h|h<;>rw [h]<;>rfl
  have hw1:IntKind.i64.wrap (t * 10) = t * 10:=Q9 (by omega) (by omega)
  have hw2:IntKind.i64.wrap (100 + (acc.length:Int)) = 100 + (acc.length:Int):=Q9 (by omega) (by omega)
  have hw3:IntKind.i64.wrap (100 + (acc.length:Int) + t * 10) = 100 + (acc.length:Int) + t * 10:=Q9 (by omega) (by omega)
  have ne:=z1 l d2 (alK acc.length) nm (100 + (acc.length:Int) + t * 10) hl k2 h2 (by unfold I60;omega)
  have k3:=ag5 (l:=l) (k:=d2) (al:=alK acc.length) (nm:=nm) (id:=100 + (acc.length:Int) + t * 10) k2
  generalize yE l d2 (alK acc.length) nm (100 + (acc.length:Int) + t * 10) = w3 at *
  obtain ⟨en,d3⟩:=w3
  simp only at k3 q1
  simp only [stL,QO,Qs.v,Qs.cells] at ne ⊢
  have hln:acc.length + 1 = (acc++[en]).length:=by simp
  (have zx:=za e1 (za ew (za hga (za hw1 (za hw2 (za hw3 hln))))));refine zgo ?_;repeat' first|exact zt|apply zan|intro hc
  all_goals exact hL _ (m,d3,acc++[en]) ⟨q1,k3,by simp;omega⟩ (kw _) (wK [0,20002] (by rw [hm];rfl) ⟨⟨_,rfl,fun h=>h,Qg _ _ _ _ (Qk _ _)⟩,⟨_,rfl,fun h=>h,rfl,alS acc en rfl,aa4 _⟩,trivial⟩)
def U7:List (List UInt8):=[[108,101,97,115,116],[109,111,115,116],[115,117,105,116,101,115],[111,114,100,101,114],[107,101,121,115],[97,110,99,104,111,114,115],[104,97,115,104,101,115],[102,97,108,108,98,97,99,107],[115,117,105,116,101,115],[109,111,115,116],[107,101,121,115],[97,110,99,104,111,114,115],[104,97,115,104,101,115],[112,111,114,116]]
def qj:=qd Proofs.Tryz.f11 []
def yy (Γ:Env) (f:Nat):Prop:=∀ (l:List Int) (k:Nat) (hl:l.length≤400) (hk:k≤l.length),EvD Γ f [] (QO l k) (V.str (Yz l k U7).1) (QO l (Yz l k U7).2)
attribute [local go_sem] QO in
theorem afr {Γ:Env} {f:Nat} (h:Has Γ.P f 6 qj.1.1.ac qj.1.2) (z0:Yl Γ 12):yy Γ f:=by
 intro l k hl hk
 refine QT h zsi zcl zc3 zc3 fun C hC hm=>?_
 subst hC
 simp only [qj,qd,DC.ac]
 have n1:=z0 l k U7 hl hk (by decide) (by decide)
 generalize Yz l k U7 = w at *
 obtain ⟨s,d⟩:=w
 simp only [QO,U7,zp,zo] at n1 ⊢
 refine zgo ?_;repeat' first|exact zt|apply zan|intro hc
 all_goals (refine QB _ rfl rfl zcd ?_;simp only [go_sem];done)
def agD (sep:List UInt8):Bool→List (List UInt8)→List UInt8→List UInt8
 | _,[],s=>s
 | f,x :: r,s=>agD sep true r ((if f = true then s++sep else s)++x)
def adh (sep:List UInt8) (l:List (List UInt8)):List UInt8:=agD sep false l []
def qk:=qd Proofs.Tryz.f13 []
def yz (Γ:Env) (f:Nat):Prop:=∀ (l:List (List UInt8)) (sep:List UInt8) (hl:l.length≤1000) (hx:∀ x∈l,x.length≤1000) (h2:sep.length≤1000),EvN Γ f [.sl 1 (l.map V.str),V.str sep] (V.str (adh sep l))
theorem afs {Γ:Env} {f:Nat} (h:Has Γ.P f 25 qk.1.1.ac qk.1.2) :yz Γ f:=by
 intro l sep hl hx h2
 refine Qb h zsi zcl zcl fun C hC hm=>?_
 subst hC
 simp only [qk,qd,DC.ac]
 have hlm:(l.map V.str).length = l.length:=zh _
 (have zx:=hlm);refine zgo ?_;repeat' first|exact zt|apply zan|intro hc
 refine Qp (ι:=Nat×List UInt8) (fun q=>q.1≤l.length∧agD sep (decide (0 < q.1)) (l.drop q.1) q.2 = adh sep l∧q.2.length≤q.1 * 2000) (fun q=>[(5,V.str q.2),(6,V.int q.1)]) (fun q=>l.length - q.1) (0,[]) (by omega) ⟨zu _,rfl,by simp⟩ zol zlt zet fun q hq K' hL=>?_
 obtain ⟨k,s⟩:=q
 obtain ⟨hk,hinv,hsl⟩:=hq
 simp only at hk hinv hsl
 simp only [ovT,Je,Nat.reduceEqDiff,reduceIte]
 rcases hd:l.drop k with _|⟨x,r⟩
 ·have hkl:=Qj hd
  have e1:decide ((k:Int) < ((l.length:Nat):Int)) = false:=by simp;omega
  rw [hd,agD] at hinv
  rw [← hinv]
  (have zx:=za e1 hlm);exact zg
 ·obtain ⟨hk',hget,hr⟩:=Qf hd
  have hw:=Qc (k:=k) (by omega)
  have e1:decide ((k:Int) < ((l.length:Nat):Int)) = true:=by simp;omega
  have hxl:=hx x (zk hget)
  rw [hd,agD] at hinv
  rcases k with _|k
  ·have e2:decide (((0:Nat):Int) > 0) = false:=rfl
   have hlt:s.length + x.length < 2 ^ 62:=by omega
   rw [if_neg (by simp)] at hinv
   (have zx:=za e1 (za e2 (za hw (za hlm (za hlt hget)))));refine zgo ?_;repeat' first|exact zt|apply zan|intro hc
   all_goals exact hL _ (1,s++x) zet ⟨by simp only;omega,by rw [hr];exact hinv,by simp;omega⟩ (by simp only;omega) zoe
  ·have e2:decide (((k + 1:Nat):Int) > 0) = true:=zl (by omega)
   have hlt:s.length + sep.length < 2 ^ 62:=by omega
   have hlt2:(s++sep).length + x.length < 2 ^ 62:=by simp;omega
   rw [if_pos (by simp)] at hinv
   (have zx:=za e1 (za e2 (za hw (za hlm (za hlt (za hlt2 hget))))));refine zgo ?_;repeat' first|exact zt|apply zan|intro hc
   all_goals exact hL _ (k + 1 + 1,s++sep++x) zet ⟨by simp only;omega,by rw [hr];exact hinv,by simp;omega⟩ (by simp only;omega) zoe
theorem agC {sep:List UInt8}:∀ {l:List (List UInt8)} {f:Bool} {s:List UInt8},(∀ x∈l,x.length≤1000)→sep.length≤1000→(agD sep f l s).length≤s.length + l.length * 2000
 | [],f,s,_,_=>by simp [agD]
 | x :: r,f,s,h,h2=>by
   have h1:=h x (by simp)
   have:=agC (l:=r) (f:=true) (s:=(if f = true then s++sep else s)++x) (fun y hy=>h y (kc _ hy)) h2
   rw [agD]
   have hs:((if f = true then s++sep else s)++x).length≤s.length + 2000:=by
    split<;>simp<;>omega
   simp only [List.length_cons];omega
def arp:List (List (List UInt8)):=[[[107,49]],[[107,49],[107,50]],[[107,50],[107,49],[107,51]],[],[[122,122]],[[107,49],[107,49]],[[107,49],[107,49],[107,49],[107,49],[107,49]]]
def arM:List (List (List UInt8)):=[[[49],[50]],[[50],[49,49],[49]],[],[[49],[49]],[[48,49]],[[57,57,57,57,57,57,57,57,57,57]]]
def arq:List (List (List UInt8)):=[[[115,104,97,50,53,54],[115,104,97,51,56,52]],[[115,104,97,49],[115,104,97,50,53,54]],[[109,100,53]],[],[[114,115,97]],[[115,104,97,49],[115,104,97,49]]]
def aq7:List (List UInt8):=[[49],[50],[51],[52],[51],[48],[53],[48,51],[120]]
def aq8:List (List UInt8):=[[97,108,108],[104,105,103,104,58,33,114,115,97],[97,101,115,103,99,109,58,99,104,97,99,104,97],[114,115,97,58,64,115,116,114,101,110,103,116,104],[120],[]]
def ara:List (List UInt8):=[[111,119,110],[99,108,105,101,110,116],[111,119,110],[115,101,114,118,101,114]]
def arf:List (List UInt8):=[[121,101,115],[110,111],[121,101,115],[109,97,121,98,101]]
def alC (w:List UInt8×Nat):List (List UInt8)×Nat:=([w.1],w.2)
def aoV (t:List (List (List UInt8))) (w:Int×Nat):List (List UInt8)×Nat:=(t.getD w.1.toNat [],w.2)
def akX (l:List Int) (k:Nat) (w:List UInt8):List (List UInt8)×Nat :=
 if w = [108,101,97,115,116]∨w = [109,111,115,116] then alC (Yz l k aq7)
 else if w = [115,117,105,116,101,115] then alC (Yz l k aq8)
 else if w = [111,114,100,101,114] then alC (Yz l k ara)
 else if w = [107,101,121,115] then aoV arp (Jd l k 7)
 else if w = [97,110,99,104,111,114,115] then aoV arM (Jd l k 6)
 else if w = [104,97,115,104,101,115] then aoV arq (Jd l k 6)
 else if w = [102,97,108,108,98,97,99,107] then alC (Yz l k arf)
 else ([[49]],k)
def VX:=qd Proofs.Tryz.f14 []
def Kt (Γ:Env) (f:Nat):Prop:=∀ (l:List Int) (k:Nat) (w:List UInt8) (hl:l.length≤400) (hk:k≤l.length),EvD Γ f [V.str w] (QO l k) (.sl 1 ((akX l k w).1.map V.str)) (QO l (akX l k w).2)
attribute [local go_sem] QO in
theorem acF {Γ:Env} {f:Nat} (h:Has Γ.P f 69 VX.1.1.ac VX.1.2) (z0:Yl Γ 12) (z1:QP Γ 10):Kt Γ f:=by
 intro l k w hl hk
 refine QT h zsi zcl zc3 zc3 fun C hC hm=>?_
 subst hC
 simp only [VX,qd,DC.ac]
 have bq:∀ t:List UInt8,w≠t→(w == t) = false:=fun t h=>by simpa using h
 unfold akX
 by_cases w1:w = [108,101,97,115,116]∨w = [109,111,115,116]
 ·rw [if_pos w1]
  have n1:=z0 l k aq7 hl hk (by decide) (by decide)
  generalize Yz l k aq7 = q at *
  obtain ⟨s,d⟩:=q
  simp only [QO,alC,aq7,zp,zo] at n1 ⊢
  rcases w1 with rfl|rfl
  all_goals
   refine zgo ?_;repeat' first|exact zt|apply zan|intro hc
   all_goals first|(refine Yf _ rfl rfl (Qg _ _ _ _ (Qk _ _)) ?_;first|exact yF rfl (by decide)|exact adH _)
 rw [if_neg w1]
 have b1:=bq [108,101,97,115,116] fun h=>w1 (.inl h)
 have b2:=bq [109,111,115,116] fun h=>w1 (.inr h)
 by_cases w2:w = [115,117,105,116,101,115]
 ·rw [if_pos w2]
  have n1:=z0 l k aq8 hl hk (by decide) (by decide)
  generalize Yz l k aq8 = q at *
  obtain ⟨s,d⟩:=q
  simp only [QO,alC,aq8,zp,zo] at n1 ⊢
  subst w2
  refine zgo ?_;repeat' first|exact zt|apply zan|intro hc
  all_goals first|(refine Yf _ rfl rfl (Qg _ _ _ _ (Qk _ _)) ?_;first|exact yF rfl (by decide)|exact adH _)
 rw [if_neg w2]
 have b3:=bq _ w2
 by_cases w3:w = [111,114,100,101,114]
 ·rw [if_pos w3]
  have n1:=z0 l k ara hl hk (by decide) (by decide)
  generalize Yz l k ara = q at *
  obtain ⟨s,d⟩:=q
  simp only [QO,alC,ara,zp,zo] at n1 ⊢
  subst w3
  refine zgo ?_;repeat' first|exact zt|apply zan|intro hc
  all_goals first|(refine Yf _ rfl rfl (Qg _ _ _ _ (Qk _ _)) ?_;first|exact yF rfl (by decide)|exact adH _)
 rw [if_neg w3]
 have b4:=bq _ w3
 by_cases w4:w = [107,101,121,115]
 ·rw [if_pos w4]
  have n1:=z1 l k 7 hl hk
  have r1:=Ja (l:=l) (k:=k) (n:=7) (by omega) (by omega)
  generalize Jd l k 7 = q at *
  obtain ⟨n,d⟩:=q
  simp only at r1
  subst w4
  rcases (by omega:n = 0∨n = 1∨n = 2∨n = 3∨n = 4∨n = 5∨n = 6) with rfl|rfl|rfl|rfl|rfl|rfl|rfl
  all_goals
   simp only [QO,aoV] at n1 ⊢
   refine zgo ?_;repeat' first|exact zt|apply zan|intro hc
   all_goals first|(refine Yf _ rfl rfl (Qg _ _ _ _ (Qk _ _)) ?_;first|exact yF rfl (by decide)|exact adH _)
 rw [if_neg w4]
 have b5:=bq _ w4
 by_cases w5:w = [97,110,99,104,111,114,115]
 ·rw [if_pos w5]
  have n1:=z1 l k 6 hl hk
  have r1:=Ja (l:=l) (k:=k) (n:=6) (by omega) (by omega)
  generalize Jd l k 6 = q at *
  obtain ⟨n,d⟩:=q
  simp only at r1
  subst w5
  rcases (by omega:n = 0∨n = 1∨n = 2∨n = 3∨n = 4∨n = 5) with rfl|rfl|rfl|rfl|rfl|rfl
  all_goals
   simp only [QO,aoV] at n1 ⊢
   refine zgo ?_;repeat' first|exact zt|apply zan|intro hc
   all_goals first|(refine Yf _ rfl rfl (Qg _ _ _ _ (Qk _ _)) ?_;first|exact yF rfl (by decide)|exact adH _)
 rw [if_neg w5]
 have b6:=bq _ w5
 by_cases w6:w = [104,97,115,104,101,115]
 ·rw [if_pos w6]
  have n1:=z1 l k 6 hl hk
  have r1:=Ja (l:=l) (k:=k) (n:=6) (by omega) (by omega)
  generalize Jd l k 6 = q at *
  obtain ⟨n,d⟩:=q
  simp only at r1
  subst w6
  rcases (by omega:n = 0∨n = 1∨n = 2∨n = 3∨n = 4∨n = 5) with rfl|rfl|rfl|rfl|rfl|rfl
  all_goals
   simp only [QO,aoV] at n1 ⊢
   refine zgo ?_;repeat' first|exact zt|apply zan|intro hc
   all_goals first|(refine Yf _ rfl rfl (Qg _ _ _ _ (Qk _ _)) ?_;first|exact yF rfl (by decide)|exact adH _)
 rw [if_neg w6]
 have b7:=bq _ w6
 by_cases w7:w = [102,97,108,108,98,97,99,107]
 ·rw [if_pos w7]
  have n1:=z0 l k arf hl hk (by decide) (by decide)
  generalize Yz l k arf = q at *
  obtain ⟨s,d⟩:=q
  simp only [QO,alC,arf,zp,zo] at n1 ⊢
  subst w7
  refine zgo ?_;repeat' first|exact zt|apply zan|intro hc
  all_goals first|(refine Yf _ rfl rfl (Qg _ _ _ _ (Qk _ _)) ?_;first|exact yF rfl (by decide)|exact adH _)
 rw [if_neg w7]
 have b8:=bq _ w7
 simp only [QO]
 (have zx:=za b1 (za b2 (za b3 (za b4 (za b5 (za b6 (za b7 b8)))))));refine zgo ?_;repeat' first|exact zt|apply zan|intro hc
 all_goals first|(refine Yf _ rfl rfl (Qg _ _ _ _ (Qk _ _)) ?_;first|exact yF rfl (by decide)|exact adH _)
theorem QI.Sm.se {e:QI} (h:e.Sm):e.SmE:=⟨by have:=h.hs;omega,by have:=h.ha;omega,by have:=h.hh;omega,by have:=h.hi;omega,fun x hx=>(h.hx x hx).hl,fun x hx c hc=>((h.hx x hx).hc c hc).h3⟩
theorem ai5 {st:List Qs} (hs:∀ x∈st,x.Sm):∀ {l:List (List UInt8)} {acc:List Qy},(∀ x∈acc,x.Sm)→(∀ x∈(xQ st l acc).2,x.Sm)∧(xQ st l acc).2.length≤acc.length + l.length
 | [],acc,h=>⟨h,zi _⟩
 | s :: r,acc,h=>by
   rw [xQ]
   rcases hq:y5 st s with _|x
   ·exact ⟨h,kW _ _⟩
   ·have hx:=hs x (List.mem_of_find?_eq_some hq)
    obtain ⟨g1,g2⟩:=ai5 hs (l:=r) (acc:=acc++[aa5 x]) fun y hy=>by
     rcases zW.1 hy with hy|hy
     ·exact h y hy
     ·rw [zQ.1 hy];exact ⟨Nat.lt_trans hx.hc (by decide),hx.hs⟩
    exact ⟨g1,by simp at g2 ⊢;omega⟩
theorem alG {of:List UInt8→Int×Bool}:∀ {l:List (List UInt8)} {acc:List Int},(wU of l acc).2.length≤acc.length + l.length
 | [],acc=>zi _
 | s :: r,acc=>by
   rw [wU]
   split
   ·have:=alG (of:=of) (l:=r) (acc:=acc++[(of s).1]);simp at this ⊢;omega
   ·exact kW _ _
theorem aoy {of:List UInt8→Int×Bool} {most:Int} {l:List (List UInt8)}:(wV of most l).2.length≤l.length:=by
 have:=alG (of:=of) (l:=l) (acc:=[])
 simp at this
 rw [wV]
 split
 ·rw [jy,agN];exact this
 ·exact this
theorem aod {st:List Qs} {w:List UInt8} {l:List (List UInt8)} {e:QI} (hs:∀ x∈st,x.Sm) (hl:l.length < 2 ^ 28) (h:e.Sm):(Xd st w l e).2.Sm:=by
 obtain ⟨h1,h2,h3,h4,h5,h6⟩:=h
 have hk:=ai5 hs (l:=l) (acc:=[]) (fun x hx=>by simp at hx)
 have hk2:(abr st l).2 = (xQ st l []).2:=rfl
 have n1:=aoy (of:=afF) (most:=16) (l:=l)
 have n2:=aoy (of:=ahF) (most:=22) (l:=l)
 have hsu:(lsL e.suites l).length < 2 ^ 30:=by
  unfold lsL;split
  ·rename_i s;exact Zb (ajU s) (by decide)
  ·exact h2
 have hkl:=hk.2
 simp at hkl
 unfold Xd
 repeat' split
 ·exact ⟨h1,h2,h3,h4,h5,h6⟩
 ·exact ⟨h1,h2,h3,h4,h5,h6⟩
 ·exact ⟨h1,hsu,h3,h4,h5,h6⟩
 ·exact ⟨h1,h2,h3,h4,h5,h6⟩
 ·exact ⟨h1,h2,by show (abr st l).2.length < _;rw [hk2];omega,by show ∀ x∈(abr st l).2,x.Sm;rw [hk2];exact hk.1,h5,h6⟩
 ·exact ⟨h1,h2,h3,h4,by show (wV afF 16 l).2.length < _;omega,h6⟩
 ·exact ⟨h1,h2,h3,h4,h5,by show (wV ahF 22 l).2.length < _;omega⟩
 ·exact ⟨h1,h2,h3,h4,h5,h6⟩
theorem aoo {st:List Qs} (hs:∀ x∈st,x.Sm):∀ {l:List PIt} {e:QI},(∀ x∈l,x.Sm)→e.Sm→(aaj st l e).2.Sm
 | [],e,_,h=>h
 | x :: r,e,hl,h=>by
   rw [aaj]
   split
   ·exact aoo hs (fun y hy=>hl y (kc _ hy)) (aod hs (hl x (by simp)).hl h)
   ·exact h
theorem acO:akm.Sm:=⟨by decide,by decide,by decide,fun x hx=>by simp [akm] at hx,by decide,by decide⟩
theorem apD {name:List UInt8} (h:name.length < 2 ^ 30):(ahH name).Sm:=⟨h,by simp [ahH],by simp [ahH],fun x hx=>by simp [ahH] at hx,by simp [ahH],by simp [ahH]⟩
theorem apo {r:Option Int×QI} (h:r.2.Sm):∃ e n k,aaq r = .tup [QI.v e,V.int n,V.int k]∧e.Sm:=by
 obtain ⟨_|n,e⟩:=r
 ·simp only [aaq];split
  ·exact ⟨_,_,_,rfl,h⟩
  ·exact ⟨_,_,_,rfl,acO⟩
 ·exact ⟨_,_,_,rfl,acO⟩
theorem anN {l:List JU} {name:List UInt8} {st:List Qs} (hn:name.length < 2 ^ 30) (hv:∀ x∈l,x.val.length < 2 ^ 27) (hs:∀ x∈st,x.Sm):∃ e n k,acs l name st = .tup [QI.v e,V.int n,V.int k]∧e.Sm:=by
 unfold acs
 repeat' split
 ·exact ⟨_,_,_,rfl,acO⟩
 ·exact ⟨_,_,_,rfl,acO⟩
 ·exact ⟨_,_,_,rfl,acO⟩
 ·exact apo (aoo hs (fun y hy=>by obtain ⟨z,hz,rfl⟩:=y4 hy;exact alV (hv z (List.mem_filter.1 hz).1)) (apD hn))
def aqh:List JU:=[⟨[119,101,98],[109,111,115,116],[51],0⟩,⟨[119,101,98],[115,117,105,116,101,115],[104,105,103,104,58,33,114,115,97],0⟩]
def aqU:QI:=⟨[119,101,98],1,3,[9,11,14,15,16],false,[],[],[],false⟩
theorem aoa:acs aqh [119,101,98] [] = .tup [aqU.v,V.int 0,V.int 0]:=by kernel_rfl
def UX:=qd Proofs.Tryz.f7 []
def q9 (Γ:Env) (f:Nat):Prop:=EvN Γ f [] (V.bool true)
theorem adD {Γ:Env} {f:Nat} (h:Has Γ.P f 44 UX.1.1.ac UX.1.2) (z0:JP Γ 16) (z1:XY Γ 19):q9 Γ f:=by
 refine Qb h zsi zcl zcl fun C hC hm=>?_
 subst hC
 simp only [UX,qd,DC.ac]
 have hf:=(z0 aqh [119,101,98] [] (by decide) (by decide) (fun x hx=>by simp only [aqh,zn,zw,or_false] at hx;rcases hx with rfl|rfl<;>decide) (by decide) (fun x hx=>by simp at hx)).b
 rw [aoa] at hf
 have hf:=hf.le (args':=[.sl 4 (aqh.map JU.v),V.str [119,101,98],.sc (.slice none 0 0)]) rfl (fun i hi hi'=>by
  match i,hi with
  | 0,_=>exact LeV.refl _
  | 1,_=>exact LeV.refl _
  | 2,_=>exact LeV.nil 6)
 obtain ⟨f1,f2,_⟩:=hf
 have hf:EvC C.env 16 [.sl 4 (aqh.map JU.v),V.str [119,101,98],.sc (.slice none 0 0)] (.tup [aqU.v,V.int 0,V.int 0]):=⟨f1,f2⟩
 have hk:=(z1 aqU ⟨by decide,by decide,by decide,fun x hx=>by simp [aqU] at hx,by decide,by decide⟩).b
 rw [if_pos (by decide +kernel)] at hk
 simp only [aqh,aqU,JU.v,JU.cells,QI.v,QI.cells,zp,zo] at hf hk
 repeat' (first|(refine zsk ?_;intro K' hK)|refine zsp ?_|(refine zsc ?_ ?_<;>intro hc<;>first|exact znh|try simp only [znz] at hc)|simp (maxSteps:=1000000) only [go_sem]|(refine hK _ ?_;clear hK K')|apply zan|(apply amE;(focus first|exact hf))|(apply Ju;(focus first|exact hk|exact (z0 _ _ _ zsd zsd zsd zsd zsd).b|exact (z1 _ _).b))|exact zsq|fail)
 all_goals exact zr
theorem vK {α:Type} {p:α→α→Bool} (h:∀ x,p x x = true):∀ l:List α,eqL p l l = true
 | []=>rfl
 | x :: r=>by rw [eqL,h x,vK h r];rfl
theorem ahR (e:QI):am9 e e = true:=by
 have h1:∀ x,ade x x = true:=fun x=>by
  have:=vK (p:=eqS) (fun x=>by simp [eqS]) x.names
  simp [ade,cs1,cs2,cs3,this]
 have h2:=vK (p:=vf) (fun x=>by
  have:=vK h1 x.chain
  simp [vf,this]) e.idents
 simp [am9,se1,se2,h2]
theorem ajq (l:List Int) (k:Nat) (iss sub:List UInt8) (a b id sg:Int) (au:Bool):(vM l k iss sub a b id sg au).1.names.length≤2:=by
 show (adc _ _).names.length≤2
 unfold adc
 split
 ·show (if _ then _ else _:List (List UInt8)).length≤2
  split<;>simp
 ·simp [afX]
theorem aex {l:List Int}:∀ (m i k:Nat) (iss:List UInt8) (sg:Int) (ab:List Qi),(∀ c∈ab,c.names.length≤2)→∀ c∈(Ww l m i k iss sg ab).1.1,c.names.length≤2
 | 0,i,k,iss,sg,ab,h=>h
 | m + 1,i,k,iss,sg,ab,h=>by
   rw [Ww]
   refine aex m _ _ _ _ _ fun c hc=>?_
   rcases zn.1 hc with rfl|hc
   ·exact ajq _ _ _ _ _ _ _ _ _
   ·exact h c hc
theorem amq {l:List Int} {k:Nat} {nm:List UInt8} {a b id:Int}:∀ c∈(yG l k nm a b id).1,c.names.length≤2:=fun c hc=>by
 simp only [yG] at hc
 rcases zn.1 hc with rfl|hc
 ·exact ajq _ _ _ _ _ _ _ _ _
 ·exact aex _ _ _ _ _ _ (fun c hc=>by simp at hc) c hc
theorem ame {l:List Int} {k:Nat} {al nm:List UInt8} {id:Int} (hk:k≤l.length) (h1:al.length≤900) (h2:nm.length≤900) (hi:I60 id):(yE l k al nm id).1.Sm:=by
 have k1:=aib (l:=l) (k:=k) hk
 have a1:=ai6 (l:=l) (k:=k)
 have k2:=Jm (l:=l) (n:=2) k1
 have k3:=Jm (l:=l) (n:=5) k2
 simp only [yE]
 split
 ·exact ⟨by show al.length < _;omega,by simp,fun c hc=>by simp at hc,fun c hc=>by simp at hc⟩
 ·obtain ⟨g1,g2⟩:=ams (l:=l) (nm:=nm) (a:=(alT l k).1.1) (b:=(alT l k).1.2) (id:=id) k3 h2 (by unfold I60;omega) (by unfold I60;omega) hi
  exact ⟨by show al.length < _;omega,Zb g2 (by decide),g1,fun c hc=>Zb (amq c hc) (by decide)⟩
theorem ap5 (i:Nat):(alK i).length≤2:=by
 match i with
 | 0|1|2|3=>decide
 | n + 4=>simp [alK]
theorem adZ {l:List Int} {nm:List UInt8} (h2:nm.length≤900):∀ {n k:Nat} {acc:List Qs},k≤l.length→acc.length + n≤4→(∀ x∈acc,x.Sm)→(∀ x∈(qu l nm n k acc).1,x.Sm)∧(qu l nm n k acc).1.length = acc.length + n∧(qu l nm n k acc).2≤l.length
 | 0,k,acc,hk,_,h=>⟨h,rfl,hk⟩
 | n + 1,k,acc,hk,hn,h=>by
   have k1:=Jm (l:=l) (k:=k) (n:=3) hk
   have r1:=Ja (l:=l) (k:=k) (n:=3) (by omega) (by omega)
   have ha:=ap5 acc.length
   rw [qu]
   obtain ⟨g1,g2,g3⟩:=adZ h2 (n:=n) (k:=(yE l (Jd l k 3).2 (alK acc.length) nm (100 + (acc.length:Int) + (Jd l k 3).1 * 10)).2) (acc:=acc++[(yE l (Jd l k 3).2 (alK acc.length) nm (100 + (acc.length:Int) + (Jd l k 3).1 * 10)).1]) (ag5 k1) (by simp;omega) (fun x hx=>by
    rcases zW.1 hx with hx|hx
    ·exact h x hx
    ·rw [zQ.1 hx];exact ame k1 (by omega) h2 (by unfold I60;omega))
   exact ⟨g1,by rw [g2];simp;omega,g3⟩
theorem ak3 {l:List Int} {k:Nat} {nm:List UInt8} (hk:k≤l.length) (h2:nm.length≤900):(∀ x∈(vb l k nm).1,x.Sm)∧(1≤(vb l k nm).1.length∧(vb l k nm).1.length≤4)∧(vb l k nm).2≤l.length:=by
 have k1:=Jm (l:=l) (k:=k) (n:=4) hk
 have r1:=Ja (l:=l) (k:=k) (n:=4) (by omega) (by omega)
 obtain ⟨g1,g2,g3⟩:=adZ (l:=l) h2 (n:=(1 + (Jd l k 4).1).toNat) (acc:=[]) k1 (by simp;omega) (fun x hx=>by simp at hx)
 rw [List.length_nil] at g2
 exact ⟨g1,by rw [vb,g2];omega,g3⟩
structure arg (v:List (List UInt8)):Prop where
 h1:v.length≤5
 h2:∀ x∈v,x.length≤1000
theorem akZ {t:List (List (List UInt8))} (h:∀ v∈t,v.length≤5∧∀ x∈v,x.length≤1000) (w:Int×Nat):arg (aoV t w).1:=by
 show arg (t.getD w.1.toNat [])
 rw [zq]
 rcases hq:t[w.1.toNat]? with _|v
 ·exact ⟨by simp,fun x hx=>by simp at hx⟩
 ·have:=h v (zk hq)
  exact ⟨this.1,this.2⟩
theorem aiX {l:List Int} {k:Nat} {t:List (List UInt8)} (h1:1≤t.length) (h2:t.length < 2 ^ 62) (h:∀ x∈t,x.length≤1000):arg (alC (Yz l k t)).1:=⟨by simp [alC],fun x hx=>by
 simp only [alC,zQ] at hx
 subst hx;exact h _ (wW h1 h2)⟩
theorem akW {l:List Int} {k:Nat} {w:List UInt8} (hk:k≤l.length):arg (akX l k w).1∧(akX l k w).2≤l.length:=by
 unfold akX
 repeat' split
 ·exact ⟨aiX (by decide) (by decide) (by decide),WJ hk⟩
 ·exact ⟨aiX (by decide) (by decide) (by decide),WJ hk⟩
 ·exact ⟨aiX (by decide) (by decide) (by decide),WJ hk⟩
 ·exact ⟨akZ (by decide) _,Jm hk⟩
 ·exact ⟨akZ (by decide) _,Jm hk⟩
 ·exact ⟨akZ (by decide) _,Jm hk⟩
 ·exact ⟨aiX (by decide) (by decide) (by decide),WJ hk⟩
 ·exact ⟨⟨by simp,fun x hx=>by simp only [zQ] at hx;subst hx;decide⟩,hk⟩
def am8:List (List UInt8):=[[119,101,98],[119,101,98],[119,101,98],[100,98]]
def akM:List (List UInt8):=[[32],[32,32],[9]]
def ahQ (l:List Int) (k n:Nat):JU×Nat :=
 let w:=Yz l k U7
 let s:=Yz l w.2 am8
 let v:=akX l s.2 w.1
 let j:=Yz l v.2 akM
 (⟨s.1,w.1,adh j.1 v.1,1 + (n:Int)⟩,j.2)
theorem am7 {l:List Int} {k n:Nat} (hk:k≤l.length):(ahQ l k n).1.val.length≤10000∧(ahQ l k n).2≤l.length:=by
 have k1:=WJ (l:=l) (xs:=U7) hk
 have k2:=WJ (l:=l) (xs:=am8) k1
 obtain ⟨v1,k3⟩:=akW (l:=l) (w:=(Yz l k U7).1) k2
 have k4:=WJ (l:=l) (xs:=akM) k3
 have hs:(Yz l (akX l (Yz l (Yz l k U7).2 am8).2 (Yz l k U7).1).2 akM).1.length≤1000:=(by decide:∀ x∈akM,x.length≤1000) _ (wW (by decide) (by decide))
 refine ⟨?_,k4⟩
 have:=agC (sep:=(Yz l (akX l (Yz l (Yz l k U7).2 am8).2 (Yz l k U7).1).2 akM).1) (f:=false) (s:=[]) v1.h2 hs
 have h1:=v1.h1
 show (adh _ _).length≤_
 rw [adh]
 simp only [List.length_nil] at this
 omega
def aeJ (l:List Int):Nat→Nat→List JU→List JU×Nat
 | 0,k,acc=>(acc,k)
 | n + 1,k,acc=>aeJ l n (ahQ l k acc.length).2 (acc++[(ahQ l k acc.length).1])
theorem aiM {l:List Int}:∀ {n k:Nat} {acc:List JU},k≤l.length→(∀ x∈acc,x.val.length≤10000)→(∀ x∈(aeJ l n k acc).1,x.val.length≤10000)∧(aeJ l n k acc).1.length = acc.length + n∧(aeJ l n k acc).2≤l.length
 | 0,k,acc,hk,h=>⟨h,rfl,hk⟩
 | n + 1,k,acc,hk,h=>by
   obtain ⟨s1,s2⟩:=am7 (l:=l) (n:=acc.length) hk
   rw [aeJ]
   obtain ⟨g1,g2,g3⟩:=aiM (n:=n) (k:=(ahQ l k acc.length).2) (acc:=acc++[(ahQ l k acc.length).1]) s2 (fun x hx=>by
    rcases zW.1 hx with hx|hx
    ·exact h x hx
    ·rw [zQ.1 hx];exact s1)
   exact ⟨g1,by rw [g2];simp;omega,g3⟩
theorem aej {o:Nat→Option Ob} {br:List Nat} {B:Option (List Nat)}:∀ l:List Qs,Qz o br B (l.map Qs.v) (l.map Qs.v)
 | []=>trivial
 | x :: r=>⟨Qr _ _ _ _ (Qs.v_closed x),aej r⟩
theorem alR:∀ l:List Qs,ntL (l.map Qs.v)
 | []=>trivial
 | x :: r=>⟨by simp [Qs.v],alR r⟩
theorem ai4:∀ l:List Qs,Qa (l.map Qs.v)
 | []=>trivial
 | x :: r=>⟨Qs.v_closed x,ai4 r⟩
theorem apH {o:Nat→Option Ob} {br:List Nat} {a n:Nat} {xs:List V} {l:List Qs} (h:o a = some (.obuf true 6 xs)) (hx:xs = l.map Qs.v) (hn:n = l.length) (hb:a ∉ br):conv o br none (.hd a 0 n) (.sl 6 (l.map Qs.v)):=by
 subst hx;subst hn
 rw [anV]
 refine ⟨trivial,hb,.inr ⟨true,_,h,?_,alR _,ai4 _⟩⟩
 rw [ku,zb (by simp)]
 exact aej l
def JM:=qd Proofs.Tryz.f3 [zhn 21]
def Wa (Γ:Env) (f:Nat):Prop:=∀ (l:List Int) (raw:List JU) (name:List UInt8) (hraw:∀ x∈raw,x.val.length < 2 ^ 27),EvN Γ f [.sl 1 (l.map V.int),.sl 4 (raw.map JU.v),V.str name] (V.bool true)
attribute [local go_sem] Qs.cells Qs.v QO in
theorem qB {Γ:Env} {f:Nat} (h:Has Γ.P f 119 JM.1.1.ac JM.1.2) (z0:yv Γ 6) (z1:q9 Γ 7) (z2:xC Γ 8) (z3:yu Γ 9) (z4:QP Γ 10) (z5:yy Γ 11) (z6:Yl Γ 12) (z7:Kt Γ 14) (z8:yz Γ 13) (z9:YG Γ 15) (z10:JP Γ 16) (z11:Xq Γ 17) (z12:yi Γ 18) (z13:XY Γ 19) (z14:qT Γ 20):Wa Γ f:=by
 intro l raw name hraw
 refine Qb h zsi zcl zcl fun C hC hm=>?_
 subst hC
 simp only [JM,qd,DC.ac]
 have hm:C.m = 0:=by simpa using hm
 have ha:=z1.b
 have hli:=(z0 l).b
 have hrm:(raw.map JU.v).length = raw.length:=zh _
 rcases hA:decide ((l.length:Int)≤400) with _|_
 ·rw [hA] at hli
  (have zx:=hrm);exact zg
 rw [hA] at hli
 rcases hB:decide ((raw.length:Int) > 60) with _|_
 rotate_left
 ·(have zx:=za hrm hB);exact zg
 rcases hC2:decide ((name.length:Int) > 60) with _|_
 rotate_left
 ·(have zx:=za hrm (za hB hC2));exact zg
 have hl:l.length≤400:=by have:=zY hA;omega
 have hrl:raw.length≤60:=by have:=of_decide_eq_false hB;omega
 have hnl:name.length≤60:=by have:=of_decide_eq_false hC2;omega
 have ro:=z2 l
 have hsd:=z3 l 0 [119,101,98] hl (zu _) (by decide)
 obtain ⟨st1,st2,st3⟩:=ak3 (l:=l) (k:=0) (nm:=[119,101,98]) (zu _) (by decide)
 generalize vb l 0 [119,101,98] = sd at *
 obtain ⟨st,d1⟩:=sd
 simp only at st1 st2 st3
 have n1:=z4 l d1 9 hl st3
 have k1:=Jm (l:=l) (k:=d1) (n:=9) st3
 have r1:=Ja (l:=l) (k:=d1) (n:=9) (by omega) (by omega)
 generalize Jd l d1 9 = w1 at *
 obtain ⟨n,d2⟩:=w1
 simp only at k1 r1
 obtain ⟨c,rfl⟩:∃ c:Nat,n = (c:Int):=⟨n.toNat,by omega⟩
 simp only [QO] at ro hsd n1
 repeat' (first|(refine zsk ?_;intro K' hK)|(refine zrg ?_;intro K' hK)|refine zsp ?_|(refine zsc ?_ ?_<;>intro hc<;>first|exact znh|try simp only [znz] at hc)|simp (maxSteps:=1000000) only [go_sem,hrm,hB,hC2,QO]|(refine hK _ ?_;clear hK K')|apply zan|(refine ap1 hsd rfl rfl ?_)|(apply acV;(focus exact rfl);(focus first|exact n1|exact (z4 _ _ _ zsd zsd)|exact (z5 _ _ zsd zsd)|exact (z6 _ _ _ zsd zsd zsd zsd)|exact (z9 _ _ _ zsd zsd zsd zsd));(focus exact rfl);(focus exact rfl))|(apply wM;(focus exact rfl);(focus exact zrd);(focus exact zrd);(focus first|exact n1|exact (z4 _ _ _ zsd zsd)|exact (z5 _ _ zsd zsd)|exact (z6 _ _ _ zsd zsd zsd zsd)|exact (z9 _ _ _ zsd zsd zsd zsd));(focus exact rfl);(focus exact rfl);(focus exact zrd))|(apply amF;(focus first|exact ro|exact (z2 _)))|(apply aiy;(focus first|exact ro|exact (z2 _));(focus exact zrd))|((first|apply Ju|apply QZ);(focus first|exact hli|exact (z0 _).b|exact EvN.b z1|exact (z8 _ _ zsd zsd zsd).b|exact (z12 _ _ _).b|exact (z13 _ _).b|exact (z14 _ _).b))|exact zsq|fail)
 generalize hG:aeJ l c d2 [] = G
 have hGk:=aiM (l:=l) (n:=c) (k:=d2) (acc:=[]) k1 (fun x hx=>by simp at hx)
 rw [hG,List.length_nil] at hGk
 refine JO (ι:=Nat×Nat×List JU) (fun q=>aeJ l q.1 q.2.1 q.2.2 = G∧q.2.1≤l.length∧q.2.2.length + q.1≤9) (fun q=>stL [(1,.sl 4 (raw.map JU.v)),(2,V.str name),(7,.ptr 0 0),(8,.hd 2 0 st.length),(9,.hd 1 0 q.2.2.length),(10,V.int q.1)] [.box true (QO l q.2.1),.buf true 4 (q.2.2.map JU.v),.buf true 6 (st.map Qs.v)]) (fun q=>q.1) (c,d2,[]) ⟨hG,k1,by simp;omega⟩ (wK [15000,20000,18000] (by rw [hm];rfl) ⟨⟨_,rfl,fun h=>h,Qg _ _ _ _ (Qk _ _)⟩,⟨_,rfl,fun h=>h,rfl,rfl⟩,⟨_,rfl,fun h=>h,rfl,rfl⟩,trivial⟩) fun q hq K' hL=>?_
 clear ro hsd n1 st3 k1 hG hli
 obtain ⟨m,d,acc⟩:=q
 obtain ⟨q1,q2,q3⟩:=hq
 simp only at q1 q2 q3 hL ⊢
 rcases m with _|m
 rotate_left
 ·have e1:decide (((m + 1:Nat):Int) > 0) = true:=zl (by omega)
  have ew:IntKind.i64.wrap (((m + 1:Nat):Int) - 1) = (m:Int):=by rw [Q9 (by omega) (by omega)];omega
  have hw1:IntKind.i64.wrap (1 + (acc.length:Int)) = 1 + (acc.length:Int):=Q9 (by omega) (by omega)
  rw [aeJ] at q1
  have hso:ahQ l d acc.length = (let w:=Yz l d U7;let s:=Yz l w.2 am8;let v:=akX l s.2 w.1;let j:=Yz l v.2 akM;(⟨s.1,w.1,adh j.1 v.1,1 + (acc.length:Int)⟩,j.2)):=rfl
  have n1:=z5 l d hl q2
  have k1:=WJ (l:=l) (k:=d) (xs:=U7) q2
  generalize Yz l d U7 = w1 at *
  obtain ⟨w,d3⟩:=w1
  simp only at k1 n1 hso
  have n2:=z6 l d3 am8 hl k1 (by decide) (by decide)
  have k2:=WJ (l:=l) (k:=d3) (xs:=am8) k1
  generalize Yz l d3 am8 = w2 at *
  obtain ⟨sc,d4⟩:=w2
  simp only at k2 n2 hso
  have n3:=z7 l d4 w hl k2
  obtain ⟨v1,k3⟩:=akW (l:=l) (k:=d4) (w:=w) k2
  generalize akX l d4 w = w3 at *
  obtain ⟨vs,d5⟩:=w3
  simp only at k3 n3 v1 hso
  have n4:=z6 l d5 akM hl k3 (by decide) (by decide)
  have k4:=WJ (l:=l) (k:=d5) (xs:=akM) k3
  have hsp:(Yz l d5 akM).1.length≤1000:=(by decide:∀ x∈akM,x.length≤1000) _ (wW (by decide) (by decide))
  generalize Yz l d5 akM = w4 at *
  obtain ⟨sp,d6⟩:=w4
  simp only at k4 n4 hso hsp
  have n5:=(z8 vs sp (by have:=v1.h1;omega) v1.h2 hsp).b
  rw [hso] at q1
  simp only at q1
  simp only [QO,am8,akM,zp,zo] at n1 n2 n3 n4
  have hln:acc.length + 1 = (acc++[(⟨sc,w,adh sp vs,1 + (acc.length:Int)⟩:JU)]).length:=by simp
  have hap:List.take acc.length (acc.map JU.v)++[V.agg [V.str sc,V.str w,V.str (adh sp vs),V.int (1 + (acc.length:Int))]] = (acc++[(⟨sc,w,adh sp vs,1 + (acc.length:Int)⟩:JU)]).map JU.v:=by
   rw [zb (by simp),zD];rfl
  simp only [stL,QO]
  (have zx:=za e1 (za ew (za hw1 (za hap hln))));refine zgo ?_;repeat' first|exact zt|apply zan|intro hc
  all_goals exact hL _ (m,d6,acc++[⟨sc,w,adh sp vs,1 + (acc.length:Int)⟩]) ⟨q1,k4,by simp;omega⟩ (kw _) (wK [0,22003,2] (by rw [hm];rfl) ⟨⟨_,rfl,fun h=>h,Qg _ _ _ _ (Qk _ _)⟩,⟨_,rfl,fun h=>h,rfl,rfl⟩,⟨_,rfl,fun h=>h,rfl,rfl⟩,trivial⟩)
 ·have e1:decide (((0:Nat):Int) > 0) = false:=rfl
  rw [aeJ] at q1
  subst q1
  obtain ⟨g1,g2,_⟩:=hGk
  simp only at g1 g2
  clear hL
  have n1:=z6 l d [[119,101,98],[119,101,98],[100,98],name] hl q2 (by simp) (by simp)
  have k1:=WJ (l:=l) (k:=d) (xs:=[[119,101,98],[119,101,98],[100,98],name]) q2
  have hnm:(Yz l d [[119,101,98],[119,101,98],[100,98],name]).1.length≤60:=by
   have:=wW (l:=l) (k:=d) (xs:=[[119,101,98],[119,101,98],[100,98],name]) (by simp) (by simp)
   simp only [zn,zw,or_false] at this
   rcases this with h|h|h|h<;>rw [h]<;>first|exact hnl|decide
  generalize Yz l d [[119,101,98],[119,101,98],[100,98],name] = w1 at *
  obtain ⟨nm,d3⟩:=w1
  simp only at k1 n1 hnm
  have n2:=z9 l d3 20 hl k1 (by omega) (by omega)
  generalize Jd l d3 20 = w2 at *
  obtain ⟨x,d4⟩:=w2
  simp only at n2
  obtain ⟨s0,hs0⟩:∃ s0,st[0]? = some s0:=⟨_,ze (by omega)⟩
  have hs0m:=zk hs0
  simp only [QO,zp,zo] at n1 n2
  simp only [stL,QO]
  obtain ⟨ss,hss⟩:∃ ss,ss = if (x == 20 - 1) = true then st++[s0] else st:=⟨_,rfl⟩
  have sok:(∀ y∈ss,y.Sm)∧ss.length≤5:=by
   rw [hss]
   split
   ·refine ⟨fun y hy=>?_,by simp;omega⟩
    rcases zW.1 hy with hy|hy
    ·exact st1 y hy
    ·rw [zQ.1 hy];exact st1 _ hs0m
   ·exact ⟨st1,by omega⟩
  have hcur:∀ i:Nat,(∀ y∈(if i = 0 then acc else raw),y.val.length < 2 ^ 27)∧(if i = 0 then acc else raw).length≤60:=fun i=>by
   split
   ·exact ⟨fun y hy=>Zb (g1 y hy) (by decide),by omega⟩
   ·exact ⟨hraw,hrl⟩
  have hks:List.take st.length (st.map Qs.v)++[V.agg s0.cells] = (st++[s0]).map Qs.v:=by
   rw [zb (by simp),zD];rfl
  rcases hq:(x == 20 - 1) with _|_
  all_goals
   rw [hq] at n2 hss
   (have zx:=za e1 hs0);refine zgo ?_;repeat' first|exact zt|apply zan|intro hc
   refine JO (ι:=Nat) (fun i=>i≤2) (fun i=>stL [(1,.sl 4 (raw.map JU.v)),(8,.sl 6 (ss.map Qs.v)),(9,.sl 4 ((if i = 0 then acc else raw).map JU.v)),(12,V.str nm),(13,V.int i)] []) (fun i=>2 - i) 0 (zu _) ?_ fun i hi K2 hL2=>?_
   ·rw [hss]
    first
    | (rw [if_neg (by decide)];exact wK [] (by rw [hm];rfl) trivial)
    | (rw [if_pos rfl];exact wK [] (by rw [hm];rfl) trivial ⟨Qr _ _ _ (.sl _ _) trivial,apH (a:=14003) rfl hks (by simp) (by decide),aaL rfl (by decide),Qr _ _ _ (V.str _) trivial,Qr _ _ _ (V.int _) trivial,trivial⟩)
   obtain ⟨hcv,hcl⟩:=hcur i
   simp only [stL]
   by_cases h2:i = 2
   ·subst h2
    have e2:decide (((2:Nat):Int) < 2) = false:=by decide
    (have zx:=e2);exact zg
   ·have e2:decide ((i:Int) < 2) = true:=by simp;omega
    have hwi:=Qc (k:=i) (by omega)
    have hnx:(if i + 1 = 0 then acc else raw) = raw:=if_neg (by omega)
    generalize (if i = 0 then acc else raw) = cur at *
    obtain ⟨e,n,k,hfe,sm⟩:=anN (l:=cur) (name:=nm) (st:=ss) (by omega) hcv sok.1
    have f1:=(z10 cur nm ss (by omega) (by omega) hcv (by omega) sok.1).b
    have f2:=(z11 cur nm ss (by omega) (by omega) hcv (by omega) sok.1).b
    rw [hfe] at f1 f2
    have sa:=(z12 e e sm.se).b
    rw [ahR] at sa
    have c1:=(z13 e sm).b
    have c2:=(z14 e sm).b
    have b1:(n != n) = false:=by simp
    have b2:(k != k) = false:=by simp
    generalize (if JT e = true then (0:Int) else 19) = ck at *
    have b3:(ck != ck) = false:=by simp
    simp only [QI.v,QI.cells] at f1 f2 sa c1 c2
    (have zx:=za e2 (za hwi (za b1 (za b2 b3))));refine zgo ?_;repeat' first|exact zt|apply zan|intro hc
    all_goals exact hL2 _ (i + 1) (by omega) (by omega) (by rw [hnx];exact wK [] (by rw [hm];rfl) trivial)
end Av
end
section
namespace Av
open Go
section
variable {Γ:Env} {A W:Nat→Bool} {b:Nat} {s:St} {d:Option Nat} {f:FuncId} {acts args:List V} {okf:Option (List Nat)→Prop} {J:St→Prop} {a n sx:Nat} {xs ys:List V} {x:V}
end
end Av
end
section
set_option linter.unusedSimpArgs false
set_option linter.unusedVariables false
set_option maxRecDepth 10000
set_option maxHeartbeats 4000000
namespace Av
open Go
end Av
end
section
namespace Av
open Go
section
variable {Γ:Env} {b:Nat} {r:List AO} {s:St} {d:Option Nat} {f:FuncId} {args:List V} {okf:Option (List Nat)→Prop} {K:St→Prop} {a a2 n n2 sx:Nat} {xs vs ys:List V} {i:Int}
end
end Av
end
