/- Functions that hand the elements of a slice of ints to a loop. -/
import Derived.Test.YtjolhibbihejgaaGreatK24
import Derived.RangeFuncGives
import Derived.Test.YtjolhibbihejgaaGreatK32
import Derived.Test.YtjolhibbihejgaaGreatK12
import Derived.Test.YtjolhibbihejgaaGreatK14
set_option linter.unusedVariables false
set_option linter.unusedSimpArgs false
section
namespace Av
open Go Go.RowKit
def agy (w:World) (sv:Value) (zs:List Int):Prop :=
 (zs = []∧∃ a cap,sv = .slice a 0 cap)∨∃ b off cap,sv = .slice (some ⟨b,off,none⟩) zs.length cap∧b < w.heap.size∧∀ j,j < zs.length→w.cell? ⟨b,off + j,none⟩ = some (.int .i64 (zs[j]?.getD 0))
def IterLaw (P:Program) (g:FuncId):Prop :=
 ∀ (n l Bs Bo:Nat) (zs:List Int) (sv:Value) (w W:World) (J:List Int→World→Prop),1≤n→zs.length * 8≤140737488351232→Bs < w.heap.size→w.cell? ⟨Bs,Bo,none⟩ = some sv→agy w sv zs →
  (∀ s W',J s W'→Below w.heap.size w W') →
  (∀ pre x W1,J pre W1→pre.length < zs.length→YieldAt Fence.wide (n - 1) P l #[.int .i64 x] W1 fun e W'=>e = .returned (.bool true)∧J (pre++[x]) W'∧KeepsWalks W1 W') →
  J [] W →
  CallsIn Fence.wide n P g #[.func (.yield l) #[] #[],.pointer (some ⟨Bs,Bo,none⟩)] W fun e W'=>(∃ v,e = .returned v)∧J zs W'
end Av
end
noncomputable section
set_option maxRecDepth 10000
set_option maxHeartbeats 4000000
namespace Av
open Go
attribute [local irreducible] AWp UY qH yr awS awC aaT awQ abS Q1 Ub aaE awR Ux awB okR ym ris
def aqS (P:Program) (g:Nat):Prop:=Own P g∧IterLaw P g
def aaV (c s:JG):Int:=if c.least < s.least then s.least else c.least
def aca (c s:JG):Int:=if s.most < c.most then s.most else c.most
def atd (c s:JG) (v:Int):Int→Option (Int×Int):=fun code=>if ann s v c.suites code = true then some (v,code) else none
def ao5 (c:JG):List Int:=jj (fun x y:Int=>decide (x < y)) c.suites
def aiT (c s:JG):Nat→List (Int×Int)
 | 0=>[]
 | k + 1=>aiT c s k++(ao5 c).filterMap (atd c s (aaV c s + (k:Nat)))
def Vb (c s:JG):List (Int×Int):=aiT c s (aca c s + 1 - aaV c s).toNat
def ahq (c s:JG):V:=if (J6 c && J6 s) = true then .sl 2 ((Vb c s).map QK) else .sl 2 []
theorem ahr (c s:JG):∀ k,(aiT c s k).length≤k * c.suites.length
 | 0=>by simp [aiT]
 | k + 1=>by
   have h1:=ahr c s k
   have h2:=kN (atd c s (aaV c s + (k:Nat))) (ao5 c)
   rw [ao5,qK] at h2
   rw [aiT,zn,zL,Nat.one_mul]
   exact Nat.add_le_add h1 h2
theorem abM {e:JG} (h:J6 e = true):1≤e.least∧e.least≤e.most∧e.most≤4:=by
 simp only [J6,aqP,zC,zO] at h
 exact ⟨h.1.2.1,h.1.2.2.1,h.1.2.2.2.1⟩
def coS (c s:JG) (out:List (Int×Int)) (v:Int):St:=Yh [(2,.ptr 0 0),(3,.ptr 1 0),(5,.hd 2 0 out.length),(6,.sl 1 ((ao5 c).map V.int)),(7,V.int v)] [(0,.box true c.cells),(1,.box true s.cells),(2,.buf true 2 (out.map QK))] 3
def W7 (Γ:Env) (f:Nat):Prop:=∃ g:Nat,aqS Γ.P g∧∀ xs:List Int,EvC Γ f [.sl 1 (xs.map V.int)] (.clo (.n g) [.ro [.sl 1 (xs.map V.int)] 0])
def K5 (Γ:Env) (f:Nat):Prop:=∀ g:Nat,aqS Γ.P g→∀ xs:List Int,xs.length < 2 ^ 30→EvC Γ f [.clo (.n g) [.ro [.sl 1 (xs.map V.int)] 0]] (.sl 1 ((jj (fun x y:Int=>decide (x < y)) xs).map V.int))
def XU:=qd Proofs.Tryz.f26 []
def VO (Γ:Env) (f:Nat):Prop:=∀ (c s:JG) (sc:c.Sm) (ss:s.Sm),EvC Γ f [c.v,s.v] (ahq c s)
attribute [local go_sem] Yh in
theorem aak {Γ:Env} {f:Nat} (h:Has Γ.P f 55 XU.1.1.ac XU.1.2) (z0:UB Γ 40) (z1:W7 Γ 42) (z2:K5 Γ 41) (z3:Yx Γ 43):VO Γ f:=by
 intro c s sc ss
 refine Ql h zsi (by unfold ahq;split<;>simp only [V.closed,Qd,and_self]) fun C hC hm=>?_
 subst hC
 simp only [XU,qd,DC.ac]
 have gR:=(z0 c s sc ss).b
 obtain ⟨g,hg,hV⟩:=z1
 have gV:=(hV c.suites).b
 have gS:=(z2 g hg c.suites sc.hs).b
 have hS:jj (fun x y:Int=>decide (x < y)) c.suites = ao5 c:=rfl
 rw [hS] at gS
 rw [ahq]
 by_cases hc:(J6 c && J6 s) = true
 rotate_left
 ·rw [ZD.2 hc] at gR
  rw [if_neg hc]
  simp only [JG.v,JG.cells] at *
  exact zg
 rw [hc] at gR
 rw [if_pos hc]
 rw [zC] at hc
 obtain ⟨c1,c2,c3⟩:=abM hc.1
 obtain ⟨d1,d2,d3⟩:=abM hc.2
 have hcl:(ao5 c).length = c.suites.length:=qK _ _
 have hlm:((ao5 c).map V.int).length = (ao5 c).length:=zb _
 simp only [JG.v,JG.cells] at *
 (have zx:=hlm);refine zgo ?_;repeat' first|exact zt|apply zan|intro hc
 have hlo:(if c.least < s.least then s.least else c.least) = aaV c s:=rfl
 have hhi:(if s.most < c.most then s.most else c.most) = aca c s:=rfl
 have hhi2:(if c.most < s.most then c.most else s.most) = aca c s:=by rw [aca];split<;>split<;>omega
 have b1:1≤aaV c s∧aaV c s≤4:=by rw [aaV];split<;>omega
 have b2:1≤aca c s∧aca c s≤4:=by rw [aca];split<;>omega
 have hK:=ahr c s
 have hK1:∀ k,aiT c s (k + 1) = aiT c s k++(ao5 c).filterMap (atd c s (aaV c s + (k:Nat))):=fun _=>rfl
 have hcF:Vb c s = aiT c s (aca c s + 1 - aaV c s).toNat:=rfl
 have hsl:=sc.hs
 generalize aca c s = hi at *
 generalize aaV c s = lo at *
 rw [hcF]
 clear gR gV gS hV
 refine Qs (ι:=Nat) (fun k=>k≤(hi + 1 - lo).toNat) (fun k=>coS c s (aiT c s k) (lo + (k:Nat))) (fun k=>(hi + 1 - lo).toNat - k) 0 (zA _) (Qf [(1,1000),(2,7000)]) (Qo [(1,1000),(2,7000)] (by simp only [go_sem,zwl,coS,aiT,hlo,List.length_nil,Int.natCast_zero,Int.add_zero]<;>exact zcc) (by simp only [go_sem,zwl,coS,aiT,JG.cells,zw]<;>exact zcc) (by simp [coS,Qf]) (by simp [coS];omega) (by omega)) fun k hk K' hL=>?_
 rcases kR k (hi + 1 - lo).toNat with hlt|hge
 rotate_left
 ·obtain rfl:k = (hi + 1 - lo).toNat:=by omega
  have e1:decide (lo + (((hi + 1 - lo).toNat:Nat):Int)≤hi) = false:=by simp;omega
  clear hL hK1
  simp only [coS,JG.cells]
  generalize aiT c s (hi + 1 - lo).toNat = out at *
  have hto:List.take out.length (out.map QK) = out.map QK:=zi (by simp)
  (have zx:=za hhi (za hhi2 (za e1 hto)));refine zgo ?_;repeat' first|exact zt|apply zan|intro hc
  all_goals first|(refine Qi _ rfl ?_;simp only [go_sem,hto];done)|exact zr
 have e1:decide (lo + (k:Int)≤hi) = true:=by simp;omega
 have hk4:k≤3:=by omega
 have hw:IntKind.i64.wrap (lo + (k:Int) + 1) = lo + ((k + 1:Nat):Int):=by rw [Q9 (by omega) (by omega)];omega
 have hKk:=hK k
 have hK1k:=hK1 k
 have hkl:k * c.suites.length≤3 * c.suites.length:=zG _ hk4
 have hnn:=fun s'=>hL s' (k + 1)
 have hP:=fun code=>(z3 s (lo + (k:Int)) c.suites code (by have:=ss.hi;omega) (by omega) (by have:=ss.hs;omega)).b
 clear hL hK hK1
 simp only [coS,JG.cells] at hnn ⊢
 rw [hK1k] at hnn
 generalize aiT c s k = out0 at *
 generalize hv:lo + (k:Int) = v at *
 have hcv:∀ code,atd c s v code = if ann s v c.suites code = true then some (v,code) else none:=fun _=>rfl
 generalize atd c s v = cv at *
 generalize ao5 c = codes at *
 generalize ann s v c.suites = pb at *
 simp only [JG.cells,List.cons_append,List.nil_append] at hP
 (have zx:=za hhi (za hhi2 (za e1 hlm)));refine zgo ?_;repeat' first|exact zt|apply zan|intro hc
 refine Qs (ι:=Nat) (fun j=>j≤codes.length) (fun j=>Yh [(2,.ptr 0 0),(3,.ptr 1 0),(5,.hd 2 0 (out0++(codes.take j).filterMap cv).length),(6,.sl 1 (codes.map V.int)),(7,V.int v),(8,.ptr 3 0),(38,.sl 1 (codes.map V.int)),(39,V.int codes.length),(40,V.int j)] [(0,.box true c.cells),(1,.box true s.cells),(2,.buf true 2 ((out0++(codes.take j).filterMap cv).map QK)),(3,.box true (s.cells++[V.int v,.sl 1 (c.suites.map V.int)]))] 4) (fun j=>codes.length - j) 0 (zA _) (Qf [(3,12003)]) (Qo [(3,12003)] (by simp only [go_sem,zwl,List.take_zero,List.filterMap_nil,zW]<;>exact zcc) (by simp only [go_sem,zwl,List.take_zero,List.filterMap_nil,zW,JG.cells,yp,ve]<;>exact zcc) (by simp [Qf]) (by simp;omega) (by omega)) fun j hj K2 hM=>?_
 have hfl:=kN cv (codes.take j)
 rw [zV] at hfl
 rcases hdc:codes.drop j with _|⟨code,r⟩
 ·have hjl:=Qr hdc
  have f1:decide ((j:Int) < (codes.length:Int)) = false:=by simp;omega
  obtain rfl:j = codes.length:=by omega
  clear hM
  rw [zN]
  simp only [JG.cells,List.cons_append,List.nil_append]
  generalize out0++codes.filterMap cv = out at *
  (have zx:=za f1 hw);refine zgo ?_;repeat' first|exact zt|apply zan|intro hc
  all_goals exact hnn _ (Qf []) (by omega) (by omega) (Qo [] zwa (by simp only [go_sem,zwl,yp,ve]<;>exact zcc) (by simp [Qf]) (by simp) (by omega))
 obtain ⟨hj',hget,hr⟩:=Qk hdc
 have hwj:=Qg (k:=j) (by omega)
 have f1:decide ((j:Int) < (codes.length:Int)) = true:=by simp;omega
 have vc:(codes.map V.int)[j]? = some (V.int code):=by rw [zk,hget];rfl
 have hst:out0++(codes.take (j + 1)).filterMap cv = (out0++(codes.take j).filterMap cv)++(cv code).toList:=by
  rw [zJ,hget,ZX,ko]
  congr 2
 have hMM:=fun s'=>hM s' (j + 1)
 have gp:=hP code
 have hol:(out0++(codes.take j).filterMap cv).length≤2 ^ 33:=by rw [zn];omega
 rw [hcv] at hst
 clear hM hnn hP
 simp only [JG.cells,List.cons_append,List.nil_append] at hMM ⊢
 rcases hp:pb code with _|_
 ·rw [hp] at hst gp
  rw [if_neg (by decide),Option.toList_none,zW] at hst
  simp only [hst] at hMM
  generalize out0++(codes.take j).filterMap cv = out at *
  (have zx:=za f1 (za hwj vc));refine zgo ?_;repeat' first|exact zt|apply zan|intro hc
  all_goals exact hMM _ (Qf []) (by omega) (by omega) (Qo [] zwa (by simp only [go_sem,zwl,yp,ve]<;>exact zcc) (by simp [Qf]) (by simp) (by omega))
 ·rw [hp] at hst gp
  rw [if_pos rfl,Option.toList_some] at hst
  simp only [hst] at hMM
  generalize out0++(codes.take j).filterMap cv = out at *
  have hom:(out.map QK).length = out.length:=zb _
  have hto:List.take out.length (out.map QK) = out.map QK:=zi (by simp)
  have q1:(out.length + 1) * 2≤2 ^ 40:=by omega
  have q2:out.length + 1≤2 ^ 40:=by omega
  (have zx:=za f1 (za hwj (za vc (za hom (za hto (za q1 q2))))));refine zgo ?_;repeat' first|exact zt|apply zan|intro hc
  all_goals exact hMM _ (Qf [(2,12004)]) (by omega) (by omega) (Qo [(2,12004)] (by simp only [go_sem,zwl,zn,List.length_singleton]<;>exact zcc) (by simp only [go_sem,zwl,kc,zy,zw,QK,yp,ve]<;>exact zcc) (by simp [Qf]) (by simp;omega) (by omega))
structure Jh where
 name:List UInt8
 kind:Int
 pur:Int
 links:List (Int×Int×Int)
 til:Int
def ad4 (x:Int×Int×Int):V:=.agg [V.int x.1,V.int x.2.1,V.int x.2.2]
def Jh.cells (x:Jh):List V:=[V.str x.name,V.int x.kind,V.int x.pur,.sl 3 (x.links.map ad4),V.int x.til]
def Jh.v (x:Jh):V:=.agg x.cells
structure Jh.Ok (x:Jh):Prop where
 n:Qw x.name = true
 nl:x.name.length < 2 ^ 60
 k:x.kind = 1∨x.kind = 2
 p:1≤x.pur∧x.pur≤4
 l:1≤x.links.length∧x.links.length≤8
 u:∀ y∈x.links,Qv y.1 y.2.1 > 0∧0≤y.2.2∧y.2.2≤40000
 o:x.links.Pairwise fun a b=>a.2.2 < b.2.2
 t:∀ y,x.links[0]? = some y→y.2.2≤x.til∧x.til≤40000
def Vv:=qd Proofs.Tryz.f34 [zhn 13,zhn 30]
def Kf (Γ:Env) (f:Nat):Prop:=∀ (x:Jh) (hx:x.Ok),EvN Γ f [x.v] (V.int 0)
attribute [local go_sem] Int.toNat_zero Yh in
theorem acy {Γ:Env} {f:Nat} (h:Has Γ.P f 96 Vv.1.1.ac Vv.1.2) (z0:JU Γ 66) (z1:Yl Γ 67):Kf Γ f:=by
 intro x hx
 refine Qa h zsi zcl zcl fun C hC hm=>?_
 subst hC
 simp only [Vv,qd,DC.ac]
 have gN:=(z0 x.name hx.nl).b
 rw [hx.n] at gN
 have gV:=fun (y:Int×Int×Int) (hy:y∈x.links)=>by
  have:=(z1 y.1 y.2.1).b
  rw [zv (hx.u y hy).1] at this
  exact this
 obtain ⟨p1,p2⟩:=hx.p
 obtain ⟨l1,l2⟩:=hx.l
 have a1:decide (x.pur < 1) = false:=zp (by omega)
 have a2:decide (x.pur > 4) = false:=zp (by omega)
 have a3:decide ((x.links.length:Int) < 1) = false:=zp (by omega)
 have a4:decide ((x.links.length:Int) > 8) = false:=zp (by omega)
 have hlm:(x.links.map ad4).length = x.links.length:=zb _
 have hU:=hx.u
 have hO:=hx.o
 obtain ⟨y0,hy0⟩:∃ y0,x.links[0]? = some y0:=⟨_,zd (by omega)⟩
 obtain ⟨t1,t2⟩:=hx.t y0 hy0
 have b1:decide (x.til < y0.2.2) = false:=zp (by omega)
 have b2:decide (x.til > 40000) = false:=zp (by omega)
 have hk:=hx.k
 simp only [Jh.v,Jh.cells]
 obtain ⟨kk,hkk⟩:∃ kk:Bool,(x.kind == 1) = kk:=⟨_,rfl⟩
 have k2:kk = false→(x.kind == 2) = true:=fun h=>by
  rcases hk with h1|h1
  ·rw [h1] at hkk;rw [← hkk] at h;cases h
  ·rw [h1];rfl
 clear hx hk
 generalize x.kind = kd at *
 generalize x.links = l at *
 have fin:∀ (C':Ctx),True:=fun _=>trivial
 rcases kk with _|_
 all_goals
  first
  | (have k3:=k2 rfl
     (have zx:=za a1 (za a2 (za a3 (za a4 (za hkk (za k3 hlm))))));refine zgo ?_;repeat' first|exact zt|apply zan|intro hc)
  | ((have zx:=za a1 (za a2 (za a3 (za a4 (za hkk hlm)))));refine zgo ?_;repeat' first|exact zt|apply zan|intro hc)
 all_goals
  refine Qs (ι:=Nat) (fun k=>k≤l.length) (fun k=>Yh [(1,.ptr 0 0),(45,.sl 3 (l.map ad4)),(46,V.int l.length),(47,V.int k)] [(0,.box true [V.str x.name,V.int kd,V.int x.pur,.sl 3 (l.map ad4),V.int x.til])] 1) (fun k=>l.length - k) 0 (zA _) (Qf []) (Qo [] (by simp only [go_sem,zwl,hlm]<;>exact zcc) zwa (by simp [Qf]) (by simp) (by omega)) fun k hk K' hL=>?_
  rcases hd:l.drop k with _|⟨y,r⟩
  ·have hkl:=Qr hd
   have e1:decide ((k:Int) < ((l.length:Nat):Int)) = false:=by simp;omega
   clear hL
   have v0:(l.map ad4)[0]? = some (ad4 y0):=by rw [zk,hy0];rfl
   simp only [ad4] at v0
   (have zx:=za hlm (za e1 (za v0 (za b1 b2))));exact zg
  obtain ⟨hk',hget,hr⟩:=Qk hd
  have hw:=Qg (k:=k) (by omega)
  have e1:decide ((k:Int) < ((l.length:Nat):Int)) = true:=by simp;omega
  have hm:=zq hget
  obtain ⟨u1,u2,u3⟩:=hU y hm
  have gv:=gV y hm
  have d1:decide (y.2.2 < 0) = false:=zp (by omega)
  have d2:decide (y.2.2 > 40000) = false:=zp (by omega)
  have vy:(l.map ad4)[k]? = some (ad4 y):=by rw [zk,hget];rfl
  simp only [ad4] at vy
  rcases k with _|j
  ·have e2:decide ((((0:Nat):Nat):Int) > 0) = false:=rfl
   (have zx:=za hlm (za e1 (za hw (za vy (za d1 (za d2 e2))))));refine zgo ?_;repeat' first|exact zt|apply zan|intro hc
   all_goals exact hL _ 1 (Qf []) hk' (by omega) (zwg [])
  obtain ⟨q,hq⟩:∃ q,l[j]? = some q:=⟨_,zd (by omega)⟩
  have e2:decide (((j + 1:Nat):Int) > 0) = true:=by simp
  have hw2:IntKind.i64.wrap (((j + 1:Nat):Int) - 1) = (j:Int):=by rw [show ((j + 1:Nat):Int) - 1 = (j:Int) by omega];exact Q9 (by omega) (by omega)
  have vq:(l.map ad4)[j]? = some (ad4 q):=by rw [zk,hq];rfl
  simp only [ad4] at vq
  have d3:decide (q.2.2≥y.2.2) = false:=by
   obtain ⟨i1,e3⟩:=zj.1 hq
   obtain ⟨i2,e4⟩:=zj.1 hget
   have:=ke.1 hO j (j + 1) i1 i2 (by omega)
   rw [e3,e4] at this
   exact zp (by omega)
  (have zx:=za hlm (za e1 (za hw (za hw2 (za vy (za vq (za d1 (za d2 (za d3 e2)))))))));refine zgo ?_;repeat' first|exact zt|apply zan|intro hc
  all_goals exact hL _ (j + 1 + 1) (Qf []) hk' (by omega) (zwg [])
def Q5:=qd Proofs.Tryz.f65 []
def Js (Γ:Env) (f:Nat):Prop:=∀ (xs:List Jh) (g:Nat) (cap:List V) (p:Jh→Bool) (hp:∀ x∈xs,EvN Γ g (Jh.v x :: cap) (V.bool (p x))) (hcap:Qd cap) (hl:xs.length < 2 ^ 62),EvN Γ f [.sl 5 (xs.map Jh.v),.clo g cap] (V.int (UX p 0 xs))
attribute [local go_sem] Jh.cells Jh.v in
theorem We {Γ:Env} {f:Nat} (h:Has Γ.P f 19 Q5.1.1.ac Q5.1.2) :Js Γ f:=by
 intro xs g cap p hp hcap hl
 refine Qa h zsi zcl zcl fun C hC hm=>?_
 subst hC
 simp only [Q5,qd,DC.ac]
 have s1:∀ o,JD o cap = cap:=fun o=>QC o cap hcap
 have s2:∀ o B,Qp o B cap = True:=fun o B=>eq_true (Qq o B cap hcap)
 refine zgo ?_;repeat' first|exact zt|apply zan|intro hc
 refine Jg (ι:=Nat) (fun k=>k≤xs.length∧UX p k (xs.drop k) = UX p 0 xs) (fun k=>[(8,V.int k)]) (fun k=>xs.length - k) 0 (by omega) ⟨by simp,by simp⟩ zol (fun i hi=>by simp only [ovT,Yr,Nat.reduceEqDiff,reduceIte];(repeat' first|exact jT|refine Kn ?_ ?_|simp only [V.lt,ltL,and_self,and_true]|omega);exact JC _ _ hcap) (by simp only [Nat.reduceAdd,ovT,Yr,Nat.reduceEqDiff,reduceIte,Ui,qP,amQ,u32,u33,u34,u35,u36,u37,u38,u39,and_self,and_true,true_and];first|rfl|exact QL _ _ hcap) fun k hk K' hL=>?_
 obtain ⟨hk,hinv⟩:=hk
 simp only [ovT,Yr,Nat.reduceEqDiff,reduceIte]
 rcases hd:xs.drop k with _|⟨y,r⟩
 ·have:=Qr hd
  rw [hd] at hinv
  have e1:decide ((k:Int) < (((xs.map Jh.v).length:Nat):Int)) = false:=by simp;omega
  (have zx:=e1);refine zgo ?_;repeat' first|exact zt|apply zan|intro hc
  refine Qi _ rfl ?_
  simp only [go_sem]
  rw [← hinv];rfl
 ·obtain ⟨hk,hget,hr⟩:=Qk hd
  rw [hd] at hinv
  have hw:=Qg (k:=k) (by omega)
  have e1:decide ((k:Int) < (((xs.map Jh.v).length:Nat):Int)) = true:=by simp;omega
  have hpy:=hp y (zq hget)
  simp only [Jh.v,Jh.cells] at hpy
  by_cases hy:p y = true
  ·rw [hy] at hpy
   (have zy0:=hpy.b;have zx:=za hget (za hw (za e1 (za s1 s2))));refine zgo ?_;repeat' first|exact zt|apply zan|intro hc
   refine Qi _ rfl ?_;simp only [go_sem]
   rw [← hinv];simp [UX,hy]
  ·have hy':p y = false:=by simpa using hy
   rw [hy'] at hpy
   (have zy0:=hpy.b;have zx:=za hget (za hw (za e1 (za s1 s2))));refine zgo ?_;repeat' first|exact zt|apply zan|intro hc
   refine hL _ (k + 1) zet ⟨by omega,?_⟩ (by omega) zoe
   rw [hr,← hinv,UX,if_neg hy]
def QM:=qd Proofs.Tryz.f32 []
def Ji (Γ:Env) (f:Nat):Prop:=∀ (xs:List Jh) (g:Nat) (cap:List V) (p:Jh→Bool) (hp:∀ x∈xs,EvN Γ g (Jh.v x :: cap) (V.bool (p x))) (hcap:Qd cap) (hl:xs.length < 2 ^ 62),EvN Γ f [.sl 5 (xs.map Jh.v),.clo g cap] (V.bool (xs.any p))
theorem XJ {Γ:Env} {f:Nat} (h:Has Γ.P f 9 QM.1.1.ac QM.1.2) (z0:Js Γ 65):Ji Γ f:=by
 intro xs g cap p hp hcap hl
 refine Qa h zsi zcl zcl fun C hC hm=>?_
 subst hC
 simp only [QM,qd,DC.ac]
 have s1:∀ o,JD o cap = cap:=fun o=>QC o cap hcap
 have s2:∀ o B,Qp o B cap = True:=fun o B=>eq_true (Qq o B cap hcap)
 have hi:=(z0 xs g cap p hp hcap hl).b
 have e1:=jt p xs 0
 (have zx:=za s1 (za s2 e1));exact zg
def X1:=qd Proofs.Tryz.f33 []
def VV (Γ:Env) (f:Nat):Prop:=∀ (x:Jh) (hx:x.Ok),EvN Γ f [x.v] (V.bool false)
theorem aar {Γ:Env} {f:Nat} (h:Has Γ.P f 6 X1.1.1.ac X1.1.2) (z1:Kf Γ 34):VV Γ f:=by
 intro x hx
 refine Qa h zsi zcl zcl fun C hC hm=>?_
 subst hC
 simp only [X1,qd,DC.ac]
 have g:=(z1 x hx).b
 have z0:((0:Int) != 0) = false:=rfl
 simp only [Jh.v,Jh.cells] at *
 (have zx:=z0);exact zg
structure asi (es:List (Int×Int)) (n:Nat):Prop where
 r:∀ x∈es,(0≤x.1∧x.1 < n)∧(0≤x.2∧x.2 < n)∧x.1≠x.2
 o:es.Pairwise fun a b=>a.1 < b.1∨(a.1 = b.1∧a.2 < b.2)
 l:es.length≤40
def WN:=qd Proofs.Tryz.f35 [zhn 35]
def UP (Γ:Env) (f:Nat):Prop:=∀ (es:List (Int×Int)) (n:Nat) (hx:asi es n),EvN Γ f [.sl 2 (es.map QK),V.int n] (V.bool true)
attribute [local go_sem] Yh in
theorem aby {Γ:Env} {f:Nat} (h:Has Γ.P f 80 WN.1.1.ac WN.1.2) :UP Γ f:=by
 intro es n hx
 refine Qa h zsi zcl zcl fun C hC hm=>?_
 subst hC
 simp only [WN,qd,DC.ac]
 have hlm:(es.map QK).length = es.length:=zb _
 have hR:=hx.r
 have hO:=hx.o
 have hl:=hx.l
 have e4:decide ((es.length:Int)≤40) = true:=zv (by omega)
 (have zx:=hlm);refine zgo ?_;repeat' first|exact zt|apply zan|intro hc
 refine Qs (ι:=Nat) (fun k=>k≤es.length) (fun k=>Yh [(0,.sl 2 (es.map QK)),(1,V.int n),(7,.sl 2 (es.map QK)),(8,V.int es.length),(9,V.int k)] [] 0) (fun k=>es.length - k) 0 (zA _) (Qf []) (Qo [] (by simp only [go_sem,zwl,hlm]<;>exact zcc) zwa (by simp [Qf]) (by simp) (by omega)) fun k hk K' hL=>?_
 rcases hd:es.drop k with _|⟨y,r⟩
 ·have hkl:=Qr hd
  have e1:decide ((k:Int) < ((es.length:Nat):Int)) = false:=by simp;omega
  clear hL
  (have zx:=za hlm (za e1 e4));exact zg
 obtain ⟨hk',hget,hr⟩:=Qk hd
 have hw:=Qg (k:=k) (by omega)
 have e1:decide ((k:Int) < ((es.length:Nat):Int)) = true:=by simp;omega
 obtain ⟨⟨r1,r2⟩,⟨r3,r4⟩,r5⟩:=hR y (zq hget)
 have vy:(es.map QK)[k]? = some (QK y):=by rw [zk,hget];rfl
 have d1:decide (y.1 < 0) = false:=zp (by omega)
 have d2:decide (y.1≥(n:Int)) = false:=zp (by omega)
 have d3:decide (y.2 < 0) = false:=zp (by omega)
 have d4:decide (y.2≥(n:Int)) = false:=zp (by omega)
 have d5:(y.1 == y.2) = false:=by simpa using r5
 simp only [QK] at vy
 rcases k with _|j
 ·have e2:decide ((((0:Nat):Nat):Int) > 0) = false:=rfl
  (have zx:=za hlm (za e1 (za hw (za vy (za d1 (za d2 (za d3 (za d4 (za d5 e2)))))))));refine zgo ?_;repeat' first|exact zt|apply zan|intro hc
  all_goals exact hL _ 1 (Qf []) hk' (by omega) (zwg [])
 obtain ⟨q,hq⟩:∃ q,es[j]? = some q:=⟨_,zd (by omega)⟩
 have e2:decide (((j + 1:Nat):Int) > 0) = true:=by simp
 have hw2:IntKind.i64.wrap (((j + 1:Nat):Int) - 1) = (j:Int):=by rw [show ((j + 1:Nat):Int) - 1 = (j:Int) by omega];exact Q9 (by omega) (by omega)
 have vq:(es.map QK)[j]? = some (QK q):=by rw [zk,hq];rfl
 simp only [QK] at vq
 have hqo:q.1 < y.1∨(q.1 = y.1∧q.2 < y.2):=by
  obtain ⟨i1,e3⟩:=zj.1 hq
  obtain ⟨i2,e5⟩:=zj.1 hget
  have:=ke.1 hO j (j + 1) i1 i2 (by omega)
  rwa [e3,e5] at this
 have c1:decide (q.1 > y.1) = false:=zp (by omega)
 rcases c2:(q.1 == y.1) with _|_
 ·(have zx:=za hlm (za e1 (za hw (za hw2 (za vy (za vq (za d1 (za d2 (za d3 (za d4 (za d5 (za e2 (za c1 c2)))))))))))));refine zgo ?_;repeat' first|exact zt|apply zan|intro hc
  all_goals exact hL _ (j + 1 + 1) (Qf []) hk' (by omega) (zwg [])
 ·have c3:decide (q.2≥y.2) = false:=by
   have:q.1 = y.1:=by simpa using c2
   exact zp (by omega)
  (have zx:=za hlm (za e1 (za hw (za hw2 (za vy (za vq (za d1 (za d2 (za d3 (za d4 (za d5 (za e2 (za c1 (za c2 c3))))))))))))));refine zgo ?_;repeat' first|exact zt|apply zan|intro hc
  all_goals exact hL _ (j + 1 + 1) (Qf []) hk' (by omega) (zwg [])
structure wJ where
 ends:List JG
 edges:List (Int×Int)
 items:List Jh
def wJ.cells (e:wJ):List V:=[.sl 9 (e.ends.map JG.v),.sl 2 (e.edges.map QK),.sl 5 (e.items.map Jh.v)]
def wJ.v (e:wJ):V:=.agg e.cells
structure wJ.Ok (e:wJ):Prop where
 sm:∀ x∈e.ends,x.Sm
 ck:∀ x∈e.ends,J6 x = true
 nm:e.ends.Pairwise fun a b=>Op.bytesLess a.name b.name = true
 el:e.ends.length≤16
 ed:asi e.edges e.ends.length
 it:∀ x∈e.items,x.Ok
 il:e.items.length≤30
def Vz:=qd Proofs.Tryz.f20 [zhn 19]
def W6 (Γ:Env) (f:Nat):Prop:=∀ (e:wJ) (hx:e.Ok),EvN Γ f [e.v] (V.int 0)
attribute [local go_sem] Yh in
theorem acC {Γ:Env} {f:Nat} (h:Has Γ.P f 59 Vz.1.1.ac Vz.1.2) (z1:Xn Γ 31) (z2:Ji Γ 32) (z3:VV Γ 33) (z4:UP Γ 35):W6 Γ f:=by
 intro e hx
 refine Qa h zsi zcl zcl fun C hC hm=>?_
 subst hC
 simp only [Vz,qd,DC.ac]
 have g1:=fun (x:JG) (hm:x∈e.ends)=>by
  have:=(z1 x (hx.sm x hm)).b
  rw [hx.ck x hm,if_pos rfl] at this
  exact this
 have g2:=(z2 e.items 33 [] (fun _=>false) (fun x hm=>z3 x (hx.it x hm)) trivial (by have:=hx.il;omega)).b
 have g3:=(z4 e.edges e.ends.length hx.ed).b
 have ha:e.items.any (fun _=>false) = false:=by simp
 rw [ha] at g2
 have hN:=hx.nm
 have h16:=hx.el
 have h30:=hx.il
 have d1:decide ((e.ends.length:Int) > 16) = false:=zp (by omega)
 have d2:decide ((e.items.length:Int) > 30) = false:=zp (by omega)
 have lm1:(e.ends.map JG.v).length = e.ends.length:=zb _
 have lm2:(e.items.map Jh.v).length = e.items.length:=zb _
 have z0:((0:Int) != 0) = false:=rfl
 simp only [wJ.v,wJ.cells]
 (have zx:=lm1);refine zgo ?_;repeat' first|exact zt|apply zan|intro hc
 clear hx
 generalize e.ends = l at *
 refine Qs (ι:=Nat) (fun k=>k≤l.length) (fun k=>Yh [(1,.ptr 0 0),(7,.sl 9 (l.map JG.v)),(8,V.int l.length),(9,V.int k)] [(0,.box true [.sl 9 (l.map JG.v),.sl 2 (e.edges.map QK),.sl 5 (e.items.map Jh.v)])] 1) (fun k=>l.length - k) 0 (zA _) (Qf []) (Qo [] (by simp only [go_sem,zwl,lm1]<;>exact zcc) zwa (by simp [Qf]) (by simp) (by omega)) fun k hk K' hL=>?_
 rcases hd:l.drop k with _|⟨y,r⟩
 ·have hkl:=Qr hd
  have e1:decide ((k:Int) < ((l.length:Nat):Int)) = false:=by simp;omega
  clear hL g1
  (have zx:=za lm1 (za lm2 (za e1 (za d1 d2))));exact zg
 obtain ⟨hk',hget,hr⟩:=Qk hd
 have hw:=Qg (k:=k) (by omega)
 have e1:decide ((k:Int) < ((l.length:Nat):Int)) = true:=by simp;omega
 have gy:=g1 y (zq hget)
 have vy:(l.map JG.v)[k]? = some y.v:=by rw [zk,hget];rfl
 clear g1 g2 g3
 simp only [JG.v,JG.cells] at vy gy
 rcases k with _|j
 ·have e2:decide ((((0:Nat):Nat):Int) > 0) = false:=rfl
  (have zx:=za lm1 (za e1 (za hw (za vy (za e2 z0)))));refine zgo ?_;repeat' first|exact zt|apply zan|intro hc
  all_goals exact hL _ 1 (Qf []) hk' (by omega) (zwg [])
 obtain ⟨q,hq⟩:∃ q,l[j]? = some q:=⟨_,zd (by omega)⟩
 have e2:decide (((j + 1:Nat):Int) > 0) = true:=by simp
 have hw2:IntKind.i64.wrap (((j + 1:Nat):Int) - 1) = (j:Int):=by rw [show ((j + 1:Nat):Int) - 1 = (j:Int) by omega];exact Q9 (by omega) (by omega)
 have vq:(l.map JG.v)[j]? = some q.v:=by rw [zk,hq];rfl
 have d3:Op.bytesLess q.name y.name = true:=by
  obtain ⟨i1,e3⟩:=zj.1 hq
  obtain ⟨i2,e5⟩:=zj.1 hget
  have:=ke.1 hN j (j + 1) i1 i2 (by omega)
  rwa [e3,e5] at this
 simp only [JG.v,JG.cells] at vq
 (have zx:=za lm1 (za e1 (za hw (za hw2 (za vy (za vq (za e2 (za z0 d3))))))));refine zgo ?_;repeat' first|exact zt|apply zan|intro hc
 all_goals exact hL _ (j + 1 + 1) (Qf []) hk' (by omega) (zwg [])
def ae8 (e:wJ) (a:Int) (x:Int×Int):Bool:=match e.ends[x.1.toNat]?,e.ends[x.2.toNat]? with
 | some c,some s=>(J6 c && J6 s) && (Vb c s).any (apV s a)
 | _,_=>false
def yK (e:wJ) (a:Int):Nat→List Int
 | 0=>[]
 | k + 1=>yK e a k++(match e.edges[k]? with
   | some x=>if ae8 e a x = true then [(k:Int)] else []
   | none=>[])
def agI (e:wJ) (a:Int):List Int:=yK e a e.edges.length
theorem ah4 (e:wJ) (a:Int):∀ k,(yK e a k).length≤k
 | 0=>by simp [yK]
 | k + 1=>by
   have:=ah4 e a k
   rw [yK,zn]
   split
   ·split
    ·simp;omega
    ·simp;omega
   ·simp;omega
def poS (e:wJ) (a:Int) (k:Nat):St:=Yh [(2,.ptr 0 0),(3,.ptr 1 0),(6,.hd 2 0 (yK e a k).length),(23,.sl 2 (e.edges.map QK)),(24,V.int e.edges.length),(25,V.int k)] [(0,.box true e.cells),(1,.box false [V.int a]),(2,.buf true 1 ((yK e a k).map V.int))] 3
theorem amx (c s:JG) (h:(J6 c && J6 s) = true):(Vb c s).length≤4 * c.suites.length:=by
 rw [zC] at h
 obtain ⟨c1,c2,c3⟩:=abM h.1
 obtain ⟨d1,d2,d3⟩:=abM h.2
 have b1:1≤aaV c s:=by rw [aaV];split<;>omega
 have b2:aca c s≤4:=by rw [aca];split<;>omega
 have:=ahr c s (aca c s + 1 - aaV c s).toNat
 have h2:(aca c s + 1 - aaV c s).toNat * c.suites.length≤4 * c.suites.length:=zG _ (by omega)
 rw [Vb];omega
def Un:=qd Proofs.Tryz.f8 [zhn 10]
def VE (Γ:Env) (f:Nat):Prop:=∀ (e:wJ) (a:Int) (hx:e.Ok) (ha:1≤a∧a≤22),EvC Γ f [e.v,V.int a] (.tup [.sl 1 ((agI e a).map V.int),V.int 0])
attribute [local go_sem] Yh in
theorem adG {Γ:Env} {f:Nat} (h:Has Γ.P f 53 Un.1.1.ac Un.1.2) (z1:W6 Γ 20) (z2:UE Γ 21) (z3:VO Γ 26) (z4:QZ Γ 25):VE Γ f:=by
 intro e a hx ha
 refine Ql h zsi (by simp only [V.closed,Qd,and_self]) fun C hC hm=>?_
 subst hC
 simp only [Un,qd,DC.ac]
 have g0:=(z1 e hx).b
 have z0:((0:Int) != 0) = false:=rfl
 have a1:decide (a < 1) = false:=zp (by omega)
 have a2:decide (a > 22) = false:=zp (by omega)
 have lm:(e.edges.map QK).length = e.edges.length:=zb _
 have hpf:agI e a = yK e a e.edges.length:=rfl
 have hpl:=ah4 e a
 have gC:=fun (c s:JG) (hc:c∈e.ends) (hs:s∈e.ends)=>(z3 c s (hx.sm c hc) (hx.sm s hs)).b
 have gH:=fun (c s:JG) (hc:c∈e.ends) (hs:s∈e.ends)=>(z4 (Vb c s) 21 [.ro s.cells 0,.ro [V.int a] 0] (apV s a) (fun o _=>z2 o s a (hx.sm s hs)) (by simp [V.closed,Qd,JG.cells]) (by have:=amx c s (by rw [hx.ck c hc,hx.ck s hs];rfl);have:=(hx.sm c hc).hs;omega)).b
 have hck:=hx.ck
 have hR:=hx.ed.r
 have h40:=hx.ed.l
 clear hx
 simp only [wJ.v,wJ.cells] at *
 rw [hpf]
 (have zx:=za z0 (za a1 (za a2 lm)));refine zgo ?_;repeat' first|exact zt|apply zan|intro hc
 refine Qs (ι:=Nat) (fun k=>k≤e.edges.length) (fun k=>poS e a k) (fun k=>e.edges.length - k) 0 (zA _) (Qf [(1,1000),(2,15000)]) (Qo [(1,1000),(2,15000)] (by simp only [go_sem,zwl,poS,yK,lm,List.length_nil]<;>exact zcc) (by simp only [go_sem,zwl,poS,yK,wJ.cells,zw]<;>exact zcc) (by simp [poS,Qf]) (by simp [poS];omega) (by omega)) fun k hk K' hL=>?_
 have hpk:=hpl k
 have hK1:yK e a (k + 1) = yK e a k++(match e.edges[k]? with|some x=>if ae8 e a x = true then [(k:Int)] else []|none=>[]):=rfl
 rcases hd:e.edges.drop k with _|⟨x,r⟩
 ·have hkl:=Qr hd
  have e1:decide ((k:Int) < ((e.edges.length:Nat):Int)) = false:=by simp;omega
  obtain rfl:k = e.edges.length:=by omega
  clear hL gC gH hK1
  simp only [poS,wJ.cells]
  generalize yK e a e.edges.length = out at *
  have hto:List.take out.length (out.map V.int) = out.map V.int:=zi (by simp)
  (have zx:=za lm (za e1 hto));refine zgo ?_;repeat' first|exact zt|apply zan|intro hc
  all_goals first|(refine Qi _ rfl ?_;simp only [go_sem,hto];done)|exact zr
 obtain ⟨hk',hget,hr⟩:=Qk hd
 have hw:=Qg (k:=k) (by omega)
 have e1:decide ((k:Int) < ((e.edges.length:Nat):Int)) = true:=by simp;omega
 obtain ⟨⟨r1,r2⟩,⟨r3,r4⟩,r5⟩:=hR x (zq hget)
 obtain ⟨c,hc⟩:∃ c,e.ends[x.1.toNat]? = some c:=⟨_,zd (by omega)⟩
 obtain ⟨s,hs⟩:∃ s,e.ends[x.2.toNat]? = some s:=⟨_,zd (by omega)⟩
 have hcm:=zq hc
 have hsm:=zq hs
 have g1:=gC c s hcm hsm
 have g2:=gH c s hcm hsm
 have hcs:(J6 c && J6 s) = true:=by rw [hck c hcm,hck s hsm];rfl
 rw [ahq,if_pos hcs] at g1
 have hB:ae8 e a x = (Vb c s).any (apV s a):=by
  rw [ae8,hc,hs];dsimp only;rw [hcs,zP]
 rw [hget] at hK1
 dsimp only at hK1
 rw [hB] at hK1
 have vx:(e.edges.map QK)[k]? = some (QK x):=by rw [zk,hget];rfl
 have vc:(e.ends.map JG.v)[x.1.toNat]? = some c.v:=by rw [zk,hc];rfl
 have vs:(e.ends.map JG.v)[x.2.toNat]? = some s.v:=by rw [zk,hs];rfl
 have hnn:=fun s'=>hL s' (k + 1)
 clear hL gC gH hck hR
 simp only [QK,JG.v,JG.cells] at vx vc vs g1 g2
 simp only [poS,wJ.cells] at hnn ⊢
 generalize (Vb c s).any (apV s a) = b at *
 rcases b with _|_
 ·rw [if_neg (by decide),zW] at hK1
  simp only [hK1] at hnn
  generalize yK e a k = out at *
  (have zx:=za lm (za e1 (za hw (za vx (za vc vs)))));refine zgo ?_;repeat' first|exact zt|apply zan|intro hc
  all_goals exact hnn _ (Qf []) hk' (by omega) (Qo [] (by simp only [go_sem,zwl,lm]<;>exact zcc) (by simp only [go_sem,zwl,Uh,qJ]<;>exact zcc) (by simp [Qf]) (by simp) (by omega))
 ·rw [if_pos rfl] at hK1
  simp only [hK1] at hnn
  generalize yK e a k = out at *
  have hom:(out.map V.int).length = out.length:=zb _
  have hto:List.take out.length (out.map V.int) = out.map V.int:=zi (by simp)
  have q1:(out.length + 1) * 1≤2 ^ 40:=by omega
  have q2:out.length + 1≤2 ^ 40:=by omega
  (have zx:=za lm (za e1 (za hw (za vx (za vc (za vs (za hom (za hto (za q1 q2)))))))));refine zgo ?_;repeat' first|exact zt|apply zan|intro hc
  all_goals exact hnn _ (Qf [(2,30003)]) hk' (by omega) (Qo [(2,30003)] (by simp only [go_sem,zwl,lm,zn,List.length_singleton]<;>exact zcc) (by simp only [go_sem,zwl,kc,zy,zw,Uh,qJ]<;>exact zcc) (by simp [Qf]) (by simp;omega) (by omega))
def aso (e:wJ) (l:List Qc) (gap day age a:Int) (xs:List JM) (keys:List Int) (need:Int):Int:=if ahI l gap age a xs [day]≠0 then ahI l gap age a xs [day] else if ajW l gap day age a xs keys need = true∧agI e a = [] then 0 else 56
def Kv:=qd Proofs.Tryz.f10 []
def jb (Γ:Env) (f:Nat):Prop:=∀ (e:wJ) (l:List Qc) (gap day age a:Int) (xs:List JM) (keys:List Int) (need:Int) (hx:e.Ok) (ha:1≤a∧a≤22) (hl:l.length < 2 ^ 40) (hz:∀ x∈l,x.Sz) (hxz:∀ x∈xs,x.Sz) (hxl:xs.length < 2 ^ 62) (hk:keys.length < 2 ^ 62),EvN Γ f [e.v,.sl 11 (l.map Qc.v),V.int gap,V.int day,V.int age,V.int a,.sl 7 (xs.map JM.v),.agg [.sl 1 (keys.map V.int),V.int need]] (V.int (aso e l gap day age a xs keys need))
attribute [local go_sem] List.length_nil in
theorem aeY {Γ:Env} {f:Nat} (h:Has Γ.P f 51 Kv.1.1.ac Kv.1.2) (z3:W6 Γ 20) (z4:jN Γ 12) (z5:VE Γ 8):jb Γ f:=by
 intro e l gap day age a xs keys need hx ha hl hz hxz hxl hk
 refine Qa h zsi zcl zcl fun C hC hm=>?_
 subst hC
 simp only [Kv,qd,DC.ac]
 have g0:=(z3 e hx).b
 have g1:=(z4 l gap day age a xs keys need hl hz hxz hxl hk).b
 have g2:=(z5 e a hx ha).b
 rw [arG] at g1
 rw [aso]
 have z0:((0:Int) != 0) = false:=rfl
 have hpm:((agI e a).map V.int).length = (agI e a).length:=zb _
 simp only [wJ.v,wJ.cells] at *
 by_cases hq:ahI l gap age a xs [day] = 0
 rotate_left
 ·rw [if_pos hq] at g1
  rw [if_pos hq]
  have z1:(ahI l gap age a xs [day] != 0) = true:=by simpa using hq
  generalize ahI l gap age a xs [day] = er at *
  (have zx:=za z0 z1);exact zg
 rw [if_neg (by simpa using hq)] at g1
 rw [if_neg (by simpa using hq)]
 generalize ajW l gap day age a xs keys need = gb at *
 generalize agI e a = ps at *
 rcases gb with _|_
 ·rw [if_neg (by simp)]
  (have zx:=z0);exact zg
 rcases ps with _|⟨x,r⟩
 ·rw [if_pos ⟨rfl,rfl⟩]
  have z2:decide (((0:Nat):Int) > 0) = false:=rfl
  simp only [zw] at g2
  (have zx:=za z0 z2);exact zg
 ·rw [if_neg (by simp)]
  have z2:decide ((((x :: r).length:Nat):Int) > 0) = true:=by simp
  generalize x :: r = ps at *
  (have zx:=za z0 (za z2 hpm));exact zg
abbrev I60 (n:Int):Prop:=-1152921504606846976≤n∧n≤1152921504606846976
structure Jl.T (c:Jl):Prop where
 i1:I60 c.serial
 i2:I60 c.kalg
 i3:I60 c.kbits
 i4:I60 c.kid
 i5:I60 c.halg
 i6:I60 c.hbits
 i7:I60 c.from_
 i8:I60 c.to_
 i9:I60 c.path
 l1:c.issuer.length≤1000
 l2:c.subject.length≤1000
 l3:c.names.length≤64
 l4:∀ x∈c.names,x.length≤1000
def abR (c:Jl):Qn:=adZ [Wn c.serial,yj c.issuer,yj c.subject,aaW c.kalg c.kbits,Wn c.kid,aaW c.halg c.hbits,Wn c.from_,Wn c.to_,apa c.auth,Wn c.path,adZ (c.names.map yj)]
theorem ao9 (b:Bool):(apa b).siz = 2:=by rw [apa,Qn.siz,jP];simp
theorem aeB:∀ {l:List (List UInt8)},(∀ x∈l,x.length≤1000)→jP (l.map yj)≤1001 * l.length
 | [],_=>zm _
 | x :: r,h=>by
   have h1:=aeB (l:=r) fun y hy=>h y (by simp [hy])
   have h2:=h x (by simp)
   rw [zy,jP,adY,List.length_cons];omega
theorem ai2 {c:Jl} (t:c.T):(abR c).siz≤100000:=by
 have h1:=aeB t.l4
 have h2:=t.l1
 have h3:=t.l2
 have h4:=t.l3
 have i1:=XS c.serial
 have i2:=XS c.kid
 have i3:=XS c.from_
 have i4:=XS c.to_
 have i5:=XS c.path
 have u1:=ahQ c.kalg c.kbits
 have u2:=ahQ c.halg c.hbits
 simp only [abR,adZ,Qn.siz,jP,adY,ao9,List.length_nil]
 omega
def auh (c:Jl) (k:Nat):St:=stL [(1,.ptr 0 0),(2,.ptr 1 0),(3,.hd 4 0 k),(4,V.int k)] [.box true c.cells,.box true [V.int 0,.hd 2 0 0,V.bool false,.hd 3 0 0],.buf true 1 [],.buf true 4 [],.buf true 4 (((c.names.take k).map yj).map Qn.v)]
def jx:=qd Proofs.Tryz.f95 [⟨fun y=>!decide (y = 1) && !decide (y = 4),[31,33],zoc 0 35⟩]
def xC (Γ:Env) (f:Nat):Prop:=∀ (c:Jl) (hc:c.T),EvC Γ f [c.v] ((abR c).v)
theorem ag4 {Γ:Env} {f:Nat} (h:Has Γ.P f 55 jx.1.1.ac jx.1.2) (z0:xH Γ 129) (z1:jM Γ 131) (z2:wR Γ 132) (z3:xI Γ 133) (z4:qu Γ 130):xC Γ f:=by
 intro c hc
 refine Ql h zsi (Qn.v_closed _) fun C hC hm=>?_
 subst hC
 simp only [jx,qd,DC.ac]
 have hl3:=hc.l3
 have hln:(c.names.map V.str).length = c.names.length:=zb _
 simp only [Jl.v]
 repeat' (first|(refine zsk ?_;intro K' hK)|(refine zrg ?_;intro K' hK)|refine zsp ?_|(refine zsc ?_ ?_<;>intro hc<;>first|exact znh|try simp only [znz] at hc)|simp (maxSteps:=1000000) only [go_sem,Jl.cells]|(refine hK _ ?_;clear hK K')|apply zan|((first|apply QJ|apply Jn);(focus first|exact (z0 _ zsd).b|exact (z1 _ zsd zsd).b|exact (z2 _ _ zsd zsd zsd zsd).b|exact (z3 _).b|exact (z4 _ zsd).b))|exact zsq|fail)
 have hcl:Qd c.cells:=by simp only [Jl.cells,V.closed,Qd,and_self]
 refine V7 (ι:=Nat) (fun k=>k≤c.names.length) (fun k=>auh c k) (fun k=>c.names.length - k) 0 (zA _) ?_ fun k hk K' hL=>?_
 ·refine Vn [0,1000,1002,1004,2000] none (fun p hp=>?_) ?_ (by simp) (by rw [hm];rfl)
  ·simp only [zo,zl,or_false] at hp
   rcases hp with rfl|rfl|rfl|rfl
   ·show conv _ _ _ (.ptr 0 0) (.ptr 0 0)
    simp [conv]
   ·show conv _ _ _ (.ptr 1000 0) (.ptr 1 0)
    simp [conv]
   ·show conv _ _ _ (.hd 2000 0 0) (.hd 4 0 0)
    simp [conv]
   ·exact Qb _ _ _ (V.int 0) trivial
  ·exact ⟨⟨_,rfl,fun h=>h,Qe _ _ _ _ hcl⟩,⟨_,rfl,fun h=>h,by show Qu _ _ _ [_,_,_,_] _;simp [Qu,conv,V.int,V.bool]⟩,⟨_,rfl,fun h=>h,rfl,rfl⟩,⟨_,rfl,fun h=>h,rfl,rfl⟩,⟨_,rfl,fun h=>h,rfl,rfl⟩,trivial⟩
 rcases hd:c.names.drop k with _|⟨y,r⟩
 ·have hkl:=Qr hd
  have e1:decide ((k:Int) < ((c.names.length:Nat):Int)) = false:=by simp;omega
  obtain rfl:k = c.names.length:=by omega
  simp only [auh,stL,zN]
  have ns:=aeB hc.l4
  have i1:=(z1 c.serial (by have:=hc.i1;omega) (by have:=hc.i1;omega)).b
  have i2:=(z1 c.kid (by have:=hc.i4;omega) (by have:=hc.i4;omega)).b
  have i3:=(z1 c.from_ (by have:=hc.i7;omega) (by have:=hc.i7;omega)).b
  have i4:=(z1 c.to_ (by have:=hc.i8;omega) (by have:=hc.i8;omega)).b
  have i5:=(z1 c.path (by have:=hc.i9;omega) (by have:=hc.i9;omega)).b
  have t1:=(z0 c.issuer (by have:=hc.l1;omega)).b
  have t2:=(z0 c.subject (by have:=hc.l2;omega)).b
  have u1:=(z2 c.kalg c.kbits (by have:=hc.i2;omega) (by have:=hc.i2;omega) (by have:=hc.i3;omega) (by have:=hc.i3;omega)).b
  have u2:=(z2 c.halg c.hbits (by have:=hc.i5;omega) (by have:=hc.i5;omega) (by have:=hc.i6;omega) (by have:=hc.i6;omega)).b
  have b1:=(z3 c.auth).b
  have htn:List.take c.names.length ((c.names.map yj).map Qn.v) = (c.names.map yj).map Qn.v:=zi (by simp)
  have n1:=z4 (c.names.map yj) (by omega)
  have bs:=ai2 hc
  have l1:=z4 [Wn c.serial,yj c.issuer,yj c.subject,aaW c.kalg c.kbits,Wn c.kid,aaW c.halg c.hbits,Wn c.from_,Wn c.to_,apa c.auth,Wn c.path,adZ (c.names.map yj)] (by rw [abR,adZ,Qn.siz] at bs;omega)
  have hb:(abR c).v = (adZ [Wn c.serial,yj c.issuer,yj c.subject,aaW c.kalg c.kbits,Wn c.kid,aaW c.halg c.hbits,Wn c.from_,Wn c.to_,apa c.auth,Wn c.path,adZ (c.names.map yj)]).v:=rfl
  rw [hb]
  simp only [zy,zw] at l1
  generalize (adZ [Wn c.serial,yj c.issuer,yj c.subject,aaW c.kalg c.kbits,Wn c.kid,aaW c.halg c.hbits,Wn c.from_,Wn c.to_,apa c.auth,Wn c.path,adZ (c.names.map yj)]) = res at *
  generalize Wn c.serial = a1 at *
  generalize Wn c.kid = a2 at *
  generalize Wn c.from_ = a3 at *
  generalize Wn c.to_ = a4 at *
  generalize Wn c.path = a5 at *
  generalize yj c.issuer = a6 at *
  generalize yj c.subject = a7 at *
  generalize aaW c.kalg c.kbits = a8 at *
  generalize aaW c.halg c.hbits = a9 at *
  generalize apa c.auth = a10 at *
  generalize adZ (c.names.map yj) = a11 at *
  obtain ⟨_,_,_,_⟩:=res;obtain ⟨_,_,_,_⟩:=a1;obtain ⟨_,_,_,_⟩:=a2;obtain ⟨_,_,_,_⟩:=a3;obtain ⟨_,_,_,_⟩:=a4;obtain ⟨_,_,_,_⟩:=a5
  obtain ⟨_,_,_,_⟩:=a6;obtain ⟨_,_,_,_⟩:=a7;obtain ⟨_,_,_,_⟩:=a8;obtain ⟨_,_,_,_⟩:=a9;obtain ⟨_,_,_,_⟩:=a10;obtain ⟨_,_,_,_⟩:=a11
  simp only [Qn.v_eq] at *
  repeat' (first|(refine zsk ?_;intro K' hK)|(refine zrg ?_;intro K' hK)|refine zsp ?_|(refine zsc ?_ ?_<;>intro hc<;>first|exact znh|try simp only [znz] at hc)|simp (maxSteps:=1000000) only [go_sem,Jl.cells,hln,e1,htn,V.shutOk0,Ue,V.shut0,qF,ntL,not_false_eq_true,List.getElem?_cons_zero,List.getElem?_cons_succ]|(refine hK _ ?_;clear hK K')|apply zan|(apply alC;(focus first|exact n1|exact l1))|(apply akr;(focus first|exact n1|exact l1);(focus first|exact rfl|decide))|((first|apply QJ|apply Jn);(focus first|exact i1|exact i2|exact i3|exact i4|exact i5|exact t1|exact t2|exact u1|exact u2|exact b1|exact (z0 _ zsd).b|exact (z1 _ zsd zsd).b|exact (z2 _ _ zsd zsd zsd zsd).b|exact (z3 _).b|exact (z4 _ zsd).b))|exact zsq|fail)
  all_goals exact zr
 ·obtain ⟨hk',hget,hr⟩:=Qk hd
  have hw:=Qg (k:=k) (by omega)
  have e1:decide ((k:Int) < ((c.names.length:Nat):Int)) = true:=by simp;omega
  have hy:=hc.l4 y (zq hget)
  have ty:=(z0 y (by omega)).b
  simp only [auh,stL]
  simp only [yj,Qn.v_eq] at ty
  repeat' (first|(refine zsk ?_;intro K' hK)|(refine zrg ?_;intro K' hK)|refine zsp ?_|(refine zsc ?_ ?_<;>intro hc<;>first|exact znh|try simp only [znz] at hc)|simp (maxSteps:=1000000) only [go_sem,Jl.cells,hln,e1,hw,Int.toNat_natCast,zk,hget,List.getElem?_cons_zero,List.getElem?_cons_succ]|(refine hK _ ?_;clear hK K')|apply zan|((first|apply QJ|apply Jn);(focus first|exact ty|exact (z0 _ zsd).b|exact (z1 _ zsd zsd).b|exact (z2 _ _ zsd zsd zsd zsd).b|exact (z3 _).b|exact (z4 _ zsd).b))|exact zsq|fail)
  all_goals
   refine hL _ (k + 1) hk' (by omega) (Vn [0,1,2,3,13005] none (fun p hp=>?_) ?_ (by simp) (by rw [hm];rfl))
   ·simp only [zo,zl,or_false] at hp
    rcases hp with rfl|rfl|rfl|rfl
    ·show conv _ _ _ (.ptr 0 0) (.ptr 0 0)
     simp [conv]
    ·show conv _ _ _ (.ptr 1 0) (.ptr 1 0)
     simp [conv]
    ·show conv _ _ _ (.hd 13005 0 (k + 1)) (.hd 4 0 (k + 1))
     simp [conv]
    ·exact Qb _ _ _ (V.int (k + 1:Nat)) trivial
   ·refine ⟨⟨_,rfl,fun h=>h,Qe _ _ _ _ hcl⟩,⟨_,rfl,fun h=>h,by show Qu _ _ _ [_,_,_,_] _;simp [Qu,conv,V.int,V.bool]⟩,⟨_,rfl,fun h=>h,rfl,rfl⟩,⟨_,rfl,fun h=>h,rfl,rfl⟩,⟨_,rfl,fun h=>h,rfl,?_,jn _⟩,trivial⟩
    have hA:List.take k (((c.names.take k).map yj).map Qn.v) = ((c.names.take k).map yj).map Qn.v:=zi (by rw [zb,zb,zV];omega)
    have hB:c.names.take (k + 1) = c.names.take k++[y]:=by rw [zJ,hget];rfl
    rw [hB,kc,kc]
    show qS _ _ _ (List.take k (((c.names.take k).map yj).map Qn.v)++[V.agg [V.int 12,.sl 1 (JT y),V.bool false,.sl 4 []]]) _
    rw [hA]
    refine w5 ?_ _
    show qS _ _ _ _ [Qn.v (yj y)]
    rw [yj,Qn.v_eq]
    exact ⟨Qe _ _ _ _ ⟨trivial,trivial,trivial,trivial,trivial⟩,trivial⟩
end Av
end
