/- W33 -/
import Derived.Test.YtlpaikjhphkioaaGreatW27
import Derived.Test.YtlpaikjhphkioaaGreatW21
import Derived.Test.YtlpaikjhphkioaaGreatW13
import Derived.Test.YtlpaikjhphkioaaGreatW12
import Derived.Test.YtlpaikjhphkioaaGreatW32
set_option linter.unusedVariables false
set_option linter.unusedSimpArgs false
noncomputable section
set_option maxRecDepth 10000
set_option maxHeartbeats 4000000
namespace Av
open Go
attribute [local irreducible] AWp Vy K7 jE awS awC aaG awQ abg QW Uc vZ awR Uj awB okR jt ris
abbrev GR:=Qj×Nat
def ajZ:List Int:=[14,1,2,5,15,0,16,10,20,7]
def anl:List Int:=[2048,256,1024,3072,129]
def amV:List Int:=[10,30,100,7]
def ama:List Int:=[20,1,200]
def anc:List Int:=[10,100,3000]
def gr0 (l:List Int) (k:Nat):GR:=(⟨(Qk l k 3).1 == 3 - 1,(ofD l (Qk l k 3).2 ajZ).1,0,0,0,40001⟩,(ofD l (Qk l k 3).2 ajZ).2)
def gr1 (l:List Int) (g:GR):GR:=if ((Qk l g.2 2).1 == 2 - 1) = true then ({ g.1 with below:=(ofD l (Qk l g.2 2).2 anl).1 },(ofD l (Qk l g.2 2).2 anl).2) else (g.1,(Qk l g.2 2).2)
def gr2 (l:List Int) (g:GR):GR:=if ((Qk l g.2 3).1 == 3 - 1) = true then ({ g.1 with purp:=1 + (Qk l (Qk l g.2 3).2 4).1 },(Qk l (Qk l g.2 3).2 4).2) else (g.1,(Qk l g.2 3).2)
def gr3 (l:List Int) (g:GR):GR:=if ((Qk l g.2 2).1 == 2 - 1) = true then ({ g.1 with frm:=(ofD l (Qk l g.2 2).2 amV).1 },(ofD l (Qk l g.2 2).2 amV).2) else (g.1,(Qk l g.2 2).2)
def gr4 (l:List Int) (g:GR):GR:=if ((Qk l g.2 3).1 == 3 - 1) = true then ({ g.1 with til:=g.1.frm + (ofD l (Qk l g.2 3).2 ama).1 },(ofD l (Qk l g.2 3).2 ama).2) else (g.1,(Qk l g.2 3).2)
def grD (l:List Int) (k:Nat):GR:=gr4 l (gr3 l (gr2 l (gr1 l (gr0 l k))))
def gkD (l:List Int) (k:Nat):QS×Nat:=(⟨1 + (Qk l k 4).1,(ofD l (Qk l k 4).2 anc).1⟩,(ofD l (Qk l k 4).2 anc).2)
def aaQ (l:List Int):Nat→List Qj→Nat→List Qj×Nat
 | 0,rs,k=>(rs,k)
 | i + 1,rs,k=>aaQ l i (rs++[(grD l k).1]) (grD l k).2
def vH (l:List Int):Nat→List QS→Nat→List QS×Nat
 | 0,ks,k=>(ks,k)
 | i + 1,ks,k=>vH l i (ks++[(gkD l k).1]) (gkD l k).2
def xN (l:List Int) (k:Nat):List Qj×Nat:=aaQ l (Qk l k 7).1.toNat [] (Qk l k 7).2
def afJ (l:List Int) (k:Nat):List QS×Nat:=vH l (Qk l (xN l k).2 3).1.toNat [] (Qk l (xN l k).2 3).2
def ali (l:List Int) (g:GR):Prop:=g.2≤l.length∧0≤g.1.alg∧g.1.alg≤22∧0≤g.1.below∧g.1.below≤16384∧0≤g.1.purp∧g.1.purp≤4∧0≤g.1.frm∧g.1.frm≤100∧g.1.frm < g.1.til∧g.1.til≤40001
theorem vD {xs:List Int} {a b x:Int} (h:xs.all (fun y=>decide (a≤y∧y≤b)) = true) (hx:x∈xs):a≤x∧x≤b:=kr (kU.1 h x hx)
theorem alj (l:List Int) {k:Nat} (hk:k≤l.length):ali l (gr0 l k)∧(gr0 l k).1.til = 40001:=by
 have h1:=vD (a:=0) (b:=22) (by decide) (Kc (l:=l) (k:=(Qk l k 3).2) (xs:=ajZ) (by decide) (by decide))
 exact ⟨⟨ju (QG hk),h1.1,h1.2,by show (0:Int)≤0;omega,by show (0:Int)≤16384;omega,by show (0:Int)≤0;omega,by show (0:Int)≤4;omega,by show (0:Int)≤0;omega,by show (0:Int)≤100;omega,by show (0:Int) < 40001;omega,by show (40001:Int)≤40001;omega⟩,rfl⟩
theorem an1 (l:List Int) {g:GR} (h:ali l g∧g.1.til = 40001):ali l (gr1 l g)∧(gr1 l g).1.til = 40001:=by
 obtain ⟨⟨a0,a1,a2,a3,a4,a5,a6,a7,a8,a9,a10⟩,at1⟩:=h
 have h1:=vD (a:=0) (b:=16384) (by decide) (Kc (l:=l) (k:=(Qk l g.2 2).2) (xs:=anl) (by decide) (by decide))
 rw [gr1];split
 ·exact ⟨⟨ju (QG a0),a1,a2,h1.1,h1.2,a5,a6,a7,a8,a9,a10⟩,at1⟩
 ·exact ⟨⟨QG a0,a1,a2,a3,a4,a5,a6,a7,a8,a9,a10⟩,at1⟩
theorem an0 (l:List Int) {g:GR} (h:ali l g∧g.1.til = 40001):ali l (gr2 l g)∧(gr2 l g).1.til = 40001:=by
 obtain ⟨⟨a0,a1,a2,a3,a4,a5,a6,a7,a8,a9,a10⟩,at1⟩:=h
 have h1:=Qo (l:=l) (k:=(Qk l g.2 3).2) (n:=4) (by omega) (by omega)
 rw [gr2];split
 ·exact ⟨⟨QG (QG a0),a1,a2,a3,a4,by show 0≤1 + _;omega,by show 1 + _≤(4:Int);omega,a7,a8,a9,a10⟩,at1⟩
 ·exact ⟨⟨QG a0,a1,a2,a3,a4,a5,a6,a7,a8,a9,a10⟩,at1⟩
theorem anZ (l:List Int) {g:GR} (h:ali l g∧g.1.til = 40001):ali l (gr3 l g)∧(gr3 l g).1.til = 40001:=by
 obtain ⟨⟨a0,a1,a2,a3,a4,a5,a6,a7,a8,a9,a10⟩,at1⟩:=h
 have h1:=vD (a:=0) (b:=100) (by decide) (Kc (l:=l) (k:=(Qk l g.2 2).2) (xs:=amV) (by decide) (by decide))
 rw [gr3];split
 ·exact ⟨⟨ju (QG a0),a1,a2,a3,a4,a5,a6,h1.1,h1.2,by show _ < g.1.til;simp only;omega,a10⟩,at1⟩
 ·exact ⟨⟨QG a0,a1,a2,a3,a4,a5,a6,a7,a8,a9,a10⟩,at1⟩
theorem anY (l:List Int) {g:GR} (h:ali l g∧g.1.til = 40001):ali l (gr4 l g):=by
 obtain ⟨⟨a0,a1,a2,a3,a4,a5,a6,a7,a8,a9,a10⟩,at1⟩:=h
 have h1:=vD (a:=1) (b:=200) (by decide) (Kc (l:=l) (k:=(Qk l g.2 3).2) (xs:=ama) (by decide) (by decide))
 rw [gr4];split
 ·exact ⟨ju (QG a0),a1,a2,a3,a4,a5,a6,a7,a8,by show g.1.frm < g.1.frm + _;omega,by show g.1.frm + _≤(40001:Int);omega⟩
 ·exact ⟨QG a0,a1,a2,a3,a4,a5,a6,a7,a8,a9,a10⟩
theorem anX (l:List Int) {k:Nat} (hk:k≤l.length):ali l (grD l k):=anY l (anZ l (an0 l (an1 l (alj l hk))))
theorem ajy {l:List Int} {g:GR} (h:ali l g):QQ g.1 = true:=by
 obtain ⟨a0,a1,a2,a3,a4,a5,a6,a7,a8,a9,a10⟩:=h
 simp [QQ, *]
theorem apZ (l:List Int) {k:Nat} (hk:k≤l.length):(gkD l k).2≤l.length∧Y7 (gkD l k).1 = true:=by
 have h1:=vD (a:=0) (b:=40000) (by decide) (Kc (l:=l) (k:=(Qk l k 4).2) (xs:=anc) (by decide) (by decide))
 have h2:=Qo (l:=l) (k:=k) (n:=4) (by omega) (by omega)
 refine ⟨ju (QG hk),?_⟩
 have b1:1≤(gkD l k).1.purp:=by show 1≤1 + _;omega
 have b2:(gkD l k).1.purp≤4:=by show 1 + _≤(4:Int);omega
 have b3:0≤(gkD l k).1.days:=h1.1
 have b4:(gkD l k).1.days≤40000:=h1.2
 simp [Y7, *]
theorem ah8 (l:List Int):∀ (i:Nat) (rs:List Qj) (k:Nat),k≤l.length→rs.all QQ = true→(aaQ l i rs k).2≤l.length∧(aaQ l i rs k).1.all QQ = true∧(aaQ l i rs k).1.length = rs.length + i
 | 0,rs,k,h,h2=>⟨h,h2,rfl⟩
 | i + 1,rs,k,h,h2=>by
   have g:=anX l h
   have:=ah8 l i (rs++[(grD l k).1]) (grD l k).2 g.1 (by simp [h2,ajy g])
   simp only [zv,List.length_singleton] at this
   exact ⟨this.1,this.2.1,by rw [aaQ,this.2.2];omega⟩
theorem ain (l:List Int):∀ (i:Nat) (ks:List QS) (k:Nat),k≤l.length→ks.all Y7 = true→(vH l i ks k).2≤l.length∧(vH l i ks k).1.all Y7 = true∧(vH l i ks k).1.length = ks.length + i
 | 0,ks,k,h,h2=>⟨h,h2,rfl⟩
 | i + 1,ks,k,h,h2=>by
   have g:=apZ l h
   have:=ain l i (ks++[(gkD l k).1]) (gkD l k).2 g.1 (by simp [h2,g.2])
   simp only [zv,List.length_singleton] at this
   exact ⟨this.1,this.2.1,by rw [vH,this.2.2];omega⟩
theorem ah7 (l:List Int) {k:Nat} (hk:k≤l.length):(xN l k).2≤l.length∧(xN l k).1.all QQ = true∧(xN l k).1.length≤6:=by
 have h1:=Qo (l:=l) (k:=k) (n:=7) (by omega) (by omega)
 obtain ⟨a,b,c⟩:=ah8 l (Qk l k 7).1.toNat [] (Qk l k 7).2 (QG hk) rfl
 simp only [List.length_nil] at c
 exact ⟨a,b,by show (aaQ l _ _ _).1.length≤6;omega⟩
theorem ami (l:List Int) {k:Nat} (hk:k≤l.length):(afJ l k).2≤l.length∧(afJ l k).1.all Y7 = true∧(afJ l k).1.length≤2:=by
 have h0:=(ah7 l hk).1
 have h1:=Qo (l:=l) (k:=(xN l k).2) (n:=3) (by omega) (by omega)
 obtain ⟨a,b,c⟩:=ain l (Qk l (xN l k).2 3).1.toNat [] (Qk l (xN l k).2 3).2 (QG h0) rfl
 simp only [List.length_nil] at c
 exact ⟨a,b,by show (vH l _ _ _).1.length≤2;omega⟩
def Xh (l:List Int) (k:Nat) (i:Int) (rs:List Qj):St:=Jk [(0,.ptr 0 0),(2,.ptr 1 0),(3,.ptr 4 0),(4,V.int i)] [(0,.box true (QH l k)),(1,.box true [.hd 2 0 0,.hd 3 0 0]),(2,.buf true 6 []),(3,.buf true 2 []),(4,.box true [.hd 5 0 rs.length,.hd 6 0 0]),(5,.buf true 6 (rs.map Qj.v)),(6,.buf true 2 [])] 7
def Yz (l:List Int) (k:Nat) (i:Int) (rs:List Qj) (r:Qj):St:=Jk [(0,.ptr 0 0),(2,.ptr 1 0),(3,.ptr 4 0),(4,V.int i),(5,.ptr 7 0)] [(0,.box true (QH l k)),(1,.box true [.hd 2 0 0,.hd 3 0 0]),(2,.buf true 6 []),(3,.buf true 2 []),(4,.box true [.hd 5 0 rs.length,.hd 6 0 0]),(5,.buf true 6 (rs.map Qj.v)),(6,.buf true 2 []),(7,.box true r.cells)] 8
def XW (l:List Int) (k:Nat) (i:Int) (rs:List Qj) (ks:List QS):St:=Jk [(0,.ptr 0 0),(2,.ptr 1 0),(3,.ptr 4 0),(6,V.int i)] [(0,.box true (QH l k)),(1,.box true [.hd 2 0 0,.hd 3 0 0]),(2,.buf true 6 []),(3,.buf true 2 []),(4,.box true [.hd 5 0 rs.length,.hd 6 0 ks.length]),(5,.buf true 6 (rs.map Qj.v)),(6,.buf true 2 (ks.map QS.v))] 7
def UW:=qd Proofs.Tryz.f12 [⟨fun _=>false,[1,3,7],.one 0 (.one 2 (.one 5 (.one 6 (.or 1 (.one 3 (.one 4 (.one 7 (.one 8 (.one 9 (.one 10 (.one 11 (.one 12 (.done))))))))) (.or 3 (.one 4 (.or 1 (.one 7 (.one 8 (.one 9 (.one 10 (.one 11 (.one 12 (.done))))))) (.or 7 (.one 1 (.one 8 (.one 9 (.one 10 (.one 11 (.one 12 (.done))))))) (.done)))) (.done))))))⟩,⟨fun _=>false,[1,4],.one 0 (.one 2 (.one 3 (.or 1 (.one 4 (.one 5 (.one 6 (.one 7 (.done))))) (.or 4 (.one 1 (.one 5 (.one 6 (.one 7 (.done))))) (.done)))))⟩]
def qu (Γ:Env) (f:Nat):Prop:=∀ (l:List Int) (k:Nat) (hl:l.length≤400) (hk:k≤l.length),EvO Γ f [] (QH l k) 6 2 ((xN l k).1.map Qj.v) ((afJ l k).1.map QS.v) (QH l (afJ l k).2)
attribute [local go_sem] Qj.cells QH Jk Xh Yz XW akg in
theorem ado {Γ:Env} {f:Nat} (h:Has Γ.P f 71 UW.1.1.ac UW.1.2) (z0:Q3 Γ 10) (z3:VR Γ 28) (z4:Wb Γ 11):qu Γ f:=by
 intro l k hl hk
 refine ahD h (by simp) (by first|exact Xd _ _|simp only [V.closed,Qc,and_self,and_true,true_and]) (by first|exact Xd _ _|simp only [V.closed,Qc,and_self,and_true,true_and]) (by simp only [V.closed,Qc,and_self,and_true,true_and]) fun C hC hm=>?_
 subst hC
 simp only [UW,qd,DC.ac]
 have n0:=z0 l k 7 hl hk
 have hr0:=Qo (l:=l) (k:=k) (n:=7) (by omega) (by omega)
 have hk0:=QG (n:=7) hk
 have eR:xN l k = aaQ l (Qk l k 7).1.toNat [] (Qk l k 7).2:=rfl
 have eK:afJ l k = vH l (Qk l (xN l k).2 3).1.toNat [] (Qk l (xN l k).2 3).2:=rfl
 rw [eK]
 generalize xN l k = P at *
 generalize Qk l k 7 = u at *
 obtain ⟨i0,k0⟩:=u
 obtain ⟨i0,rfl⟩:∃ j:Nat,i0 = (j:Int):=⟨i0.toNat,by simp only at hr0;omega⟩
 simp only [QH,Int.toNat_natCast] at n0 hr0 hk0 eR ⊢
 refine zgo ?_;repeat' first|exact zt|apply zan|intro hc
 refine Qp (ι:=Nat×List Qj×Nat) (fun p=>p.1≤6∧p.2.2≤l.length∧p.2.1.length + p.1≤6∧aaQ l p.1 p.2.1 p.2.2 = P) (fun p=>Xh l p.2.2 p.1 p.2.1) (fun p=>p.1) (i0,[],k0) ⟨(by show i0≤6;omega),hk0,(by show 0 + i0≤6;omega),eR.symm⟩ (Qd [(4,1001),(5,1002),(6,1003)]) (Qh [(4,1001),(5,1002),(6,1003)] (by simp only [go_sem,zwl,QH,Xh,XW,Yz,Jk]<;>exact zcc) (by simp only [go_sem,zwl,QH,Xh,XW,Yz,Jk]<;>exact zcc) (by simp [Qd]) (by simp;omega) (by omega)) fun p hp K' hL=>?_
 obtain ⟨i,rs,k⟩:=p
 obtain ⟨hi,hk,hv,hinv⟩:=hp
 simp only at hi hk hv hinv
 rcases i with _|i
 ·subst hinv
  simp only [aaQ]
  have n1:=z0 l k 3 hl hk
  have hr1:=Qo (l:=l) (k:=k) (n:=3) (by omega) (by omega)
  have hk1:=QG (n:=3) hk
  generalize Qk l k 3 = w at *
  obtain ⟨j0,k1⟩:=w
  obtain ⟨j0,rfl⟩:∃ j:Nat,j0 = (j:Int):=⟨j0.toNat,by simp only at hr1;omega⟩
  simp only [QH,Int.toNat_natCast] at n1 hr1 hk1 ⊢
  refine zgo ?_;repeat' first|exact zt|apply zan|intro hc
  refine Qp (ι:=Nat×List QS×Nat) (fun p=>p.1≤2∧p.2.2≤l.length∧p.2.1.length + p.1≤2∧vH l p.1 p.2.1 p.2.2 = vH l j0 [] k1) (fun p=>XW l p.2.2 p.1 rs p.2.1) (fun p=>p.1) (j0,[],k1) ⟨(by show j0≤2;omega),hk1,(by show 0 + j0≤2;omega),rfl⟩ (Qd []) (Qh [] (by simp only [go_sem,zwl,QH,Xh,XW,Yz,Jk]<;>exact zcc) (by simp only [go_sem,zwl,QH,Xh,XW,Yz,Jk]<;>exact zcc) (by simp [Qd]) (by simp) (by omega)) fun p hp K' hL=>?_
  obtain ⟨j,ks,k2⟩:=p
  obtain ⟨hj,hk2,hv2,hinv2⟩:=hp
  simp only at hj hk2 hv2 hinv2
  rcases j with _|j
  ·rw [← hinv2]
   simp only [vH]
   refine zgo ?_;repeat' first|exact zt|apply zan|intro hc
   all_goals
    refine ap3 5 6 (n:=rs.length) (m:=ks.length) _ rfl (by simp only [go_sem]) rfl rfl rfl (by decide) (by simp only [V.closed,Qc,and_self]) (by simp) (by simp)
  ·have z1:=z0 l k2 4 hl hk2
   have zr:=Qo (l:=l) (k:=k2) (n:=4) (by omega) (by omega)
   have zk:=QG (n:=4) hk2
   have ze:vH l (j + 1) ks k2 = vH l j (ks++[⟨1 + (Qk l k2 4).1,(ofD l (Qk l k2 4).2 anc).1⟩]) (ofD l (Qk l k2 4).2 anc).2:=rfl
   rw [ze] at hinv2
   generalize Qk l k2 4 = w at *
   obtain ⟨q,k3⟩:=w
   simp only at z1 zr zk hinv2
   have z2:=z4 l k3 anc hl zk (by decide) (by decide)
   have zk2:=ju (xs:=anc) zk
   generalize ofD l k3 anc = w at *
   obtain ⟨v,k4⟩:=w
   simp only [QH,anc,zN,zL] at z1 z2 zk2 hinv2
   have e1:decide (((j + 1:Nat):Int) > 0) = true:=zo (by omega)
   have ew:IntKind.i64.wrap (((j + 1:Nat):Int) - 1) = (j:Int):=by rw [QP (by omega) (by omega)];omega
   have ew2:IntKind.i64.wrap (1 + q) = 1 + q:=QP (by omega) (by omega)
   have hb:List.map QS.v ks++[.agg [V.int (1 + q),V.int v]] = (ks++[(⟨1 + q,v⟩:QS)]).map QS.v:=by rw [kz];rfl
   have hln:ks.length + 1 = (ks++[(⟨1 + q,v⟩:QS)]).length:=by simp
   (have zx:=za e1 (za ew (za ew2 (za hb hln))));refine zgo ?_;repeat' first|exact zt|apply zan|intro hc
   all_goals first
    | exact hL _ (j,ks++[⟨1 + q,v⟩],k4) (Qd [(6,12007)]) ⟨by simp only;omega,zk2,by simp;omega,hinv2⟩ (by simp only;omega) (Qh [(6,12007)] (by simp only [go_sem,zwl,QH,Xh,XW,Yz,Jk,Qj.cells]<;>exact zcc) (by simp only [go_sem,zwl,QH,Xh,XW,Yz,Jk,Qj.cells]<;>exact zcc) (by simp [Qd]) (by simp;omega) (by omega))
    | (simp only [zv,List.length_singleton];omega)
 have e1:decide (((i + 1:Nat):Int) > 0) = true:=zo (by omega)
 have ew:IntKind.i64.wrap (((i + 1:Nat):Int) - 1) = (i:Int):=by rw [QP (by omega) (by omega)];omega
 have eg:aaQ l (i + 1) rs k = aaQ l i (rs++[(grD l k).1]) (grD l k).2:=rfl
 rw [eg] at hinv
 refine ja (ι:=Unit) (fun _=>True) (fun _=>Xh l k (i + 1:Nat) rs) (fun K' hK'=>?_) (fun _ _=>?_)
 ·(have zx:=e1);refine zgo ?_;repeat' first|exact zt|apply zan|intro hc
  all_goals exact hK' _ () (Qd []) trivial (Qh [] (by simp only [go_sem,zwl,QH,Xh,XW,Yz,Jk,Qj.cells]<;>exact zcc) (by simp only [go_sem,zwl,QH,Xh,XW,Yz,Jk,Qj.cells]<;>exact zcc) (by simp [Qd]) (by simp) (by omega))
 refine ja (ι:=Unit) (fun _=>True) (fun _=>Xh l (grD l k).2 (i + 1:Nat) (rs++[(grD l k).1])) (fun K' hK'=>?_) (fun _ _=>?_)
 case' refine_2 =>
  have hfin:=anX l hk
  generalize grD l k = g at *
  (have zx:=ew);refine zgo ?_;repeat' first|exact zt|apply zan|intro hc
  all_goals first
   | exact hL _ (i,rs++[g.1],g.2) (Qd []) ⟨by simp only;omega,hfin.1,by simp;omega,hinv⟩ (by simp only;omega) (Qh [] (by simp only [go_sem,zwl,QH,Xh,XW,Yz,Jk,Qj.cells]<;>exact zcc) (by simp only [go_sem,zwl,QH,Xh,XW,Yz,Jk,Qj.cells]<;>exact zcc) (by simp [Qd]) (by simp) (by omega))
 refine agC ?_
 have hg0:=alj l hk
 have eD:grD l k = gr4 l (gr3 l (gr2 l (gr1 l (gr0 l k)))):=rfl
 rw [eD] at hK'
 refine ja (ι:=Unit) (fun _=>True) (fun _=>Yz l (gr0 l k).2 (i + 1:Nat) rs (gr0 l k).1) (fun K2 hK2=>?_) (fun _ _=>?_)
 ·have o1:=z3 l k 3 hl hk (by omega) (by omega)
  have ok1:=QG (l:=l) (n:=3) hk
  have z2:=z4 l (Qk l k 3).2 ajZ hl ok1 (by decide) (by decide)
  clear hK'
  simp only [gr0] at hK2
  generalize ofD l (Qk l k 3).2 ajZ = w at *
  obtain ⟨v,k4⟩:=w
  generalize ((Qk l k 3).1 == 3 - 1) = q at *
  generalize (Qk l k 3).2 = k3 at *
  simp only [QH,ajZ,zN,zL] at o1 z2 hK2
  refine zgo ?_;repeat' first|exact zt|apply zan|intro hc
  all_goals exact hK2 _ () (Qd [(7,6007)]) trivial (Qh [(7,6007)] (by simp only [go_sem,zwl,QH,Xh,XW,Yz,Jk,Qj.cells]<;>exact zcc) (by simp only [go_sem,zwl,QH,Xh,XW,Yz,Jk,Qj.cells]<;>exact zcc) (by simp [Qd]) (by simp;omega) (by omega))
 clear hg0
 have hg0:=alj l hk
 generalize gr0 l k = g0 at *
 refine ja (ι:=Unit) (fun _=>True) (fun _=>Yz l (gr1 l g0).2 (i + 1:Nat) rs (gr1 l g0).1) (fun K' hK'=>?_) (fun _ _=>?_)
 ·have o1:=z3 l g0.2 2 hl (hg0.1.1) (by omega) (by omega)
  have ok1:=QG (l:=l) (n:=2) hg0.1.1
  obtain ⟨r,k1⟩:=g0
  obtain ⟨⟨a0,a1,a2,a3,a4,a5,a6,a7,a8,a9,a10⟩,at1⟩:=hg0
  simp only at o1 ok1 a0 a1 a2 a3 a4 a5 a6 a7 a8 a9 a10 at1 hK' ⊢
  rcases hq:((Qk l k1 2).1 == 2 - 1) with _|_
  ·have e:gr1 l (r,k1) = (r,(Qk l k1 2).2):=by rw [gr1,hq];rfl
   rw [hq] at o1
   simp only [e] at hK'
   clear e hq
   generalize (Qk l k1 2).2 = k2 at *
   simp only [QH] at o1
   refine zgo ?_;repeat' first|exact zt|apply zan|intro hc
   all_goals exact hK' _ () (Qd []) trivial (Qh [] (by simp only [go_sem,zwl,QH,Xh,XW,Yz,Jk,Qj.cells]<;>exact zcc) (by simp only [go_sem,zwl,QH,Xh,XW,Yz,Jk,Qj.cells]<;>exact zcc) (by simp [Qd]) (by simp) (by omega))
  ·have e:gr1 l (r,k1) = ({ r with below:=(ofD l (Qk l k1 2).2 anl).1 },(ofD l (Qk l k1 2).2 anl).2):=by rw [gr1,hq];rfl
   rw [hq] at o1
   simp only [e] at hK'
   clear e hq
   generalize (Qk l k1 2).2 = k2 at *
   have z2:=z4 l k2 anl hl ok1 (by decide) (by decide)
   have zm:=Kc (l:=l) (k:=k2) (xs:=anl) (by decide) (by decide)
   generalize ofD l k2 anl = w at *
   obtain ⟨v,k4⟩:=w
   simp only [QH,anl,zN,zL] at o1 z2 hK'
   refine zgo ?_;repeat' first|exact zt|apply zan|intro hc
   all_goals exact hK' _ () (Qd []) trivial (Qh [] (by simp only [go_sem,zwl,QH,Xh,XW,Yz,Jk,Qj.cells]<;>exact zcc) (by simp only [go_sem,zwl,QH,Xh,XW,Yz,Jk,Qj.cells]<;>exact zcc) (by simp [Qd]) (by simp) (by omega))
 have hg1:=an1 l hg0
 generalize gr1 l g0 = g1 at *
 refine ja (ι:=Unit) (fun _=>True) (fun _=>Yz l (gr2 l g1).2 (i + 1:Nat) rs (gr2 l g1).1) (fun K' hK'=>?_) (fun _ _=>?_)
 ·have o1:=z3 l g1.2 3 hl (hg1.1.1) (by omega) (by omega)
  have ok1:=QG (l:=l) (n:=3) hg1.1.1
  obtain ⟨r,k1⟩:=g1
  obtain ⟨⟨a0,a1,a2,a3,a4,a5,a6,a7,a8,a9,a10⟩,at1⟩:=hg1
  simp only at o1 ok1 a0 a1 a2 a3 a4 a5 a6 a7 a8 a9 a10 at1 hK' ⊢
  rcases hq:((Qk l k1 3).1 == 3 - 1) with _|_
  ·have e:gr2 l (r,k1) = (r,(Qk l k1 3).2):=by rw [gr2,hq];rfl
   rw [hq] at o1
   simp only [e] at hK'
   clear e hq
   generalize (Qk l k1 3).2 = k2 at *
   simp only [QH] at o1
   refine zgo ?_;repeat' first|exact zt|apply zan|intro hc
   all_goals exact hK' _ () (Qd []) trivial (Qh [] (by simp only [go_sem,zwl,QH,Xh,XW,Yz,Jk,Qj.cells]<;>exact zcc) (by simp only [go_sem,zwl,QH,Xh,XW,Yz,Jk,Qj.cells]<;>exact zcc) (by simp [Qd]) (by simp) (by omega))
  ·have e:gr2 l (r,k1) = ({ r with purp:=1 + (Qk l (Qk l k1 3).2 4).1 },(Qk l (Qk l k1 3).2 4).2):=by rw [gr2,hq];rfl
   rw [hq] at o1
   simp only [e] at hK'
   clear e hq
   generalize (Qk l k1 3).2 = k2 at *
   have z2:=z0 l k2 4 hl ok1
   have zm:=Qo (l:=l) (k:=k2) (n:=4) (by omega) (by omega)
   generalize Qk l k2 4 = w at *
   obtain ⟨v,k4⟩:=w
   simp only [QH] at o1 z2 hK' zm
   have ew1:IntKind.i64.wrap (1 + v) = 1 + v:=QP (by omega) (by omega)
   (have zx:=ew1);refine zgo ?_;repeat' first|exact zt|apply zan|intro hc
   all_goals exact hK' _ () (Qd []) trivial (Qh [] (by simp only [go_sem,zwl,QH,Xh,XW,Yz,Jk,Qj.cells]<;>exact zcc) (by simp only [go_sem,zwl,QH,Xh,XW,Yz,Jk,Qj.cells]<;>exact zcc) (by simp [Qd]) (by simp) (by omega))
 have hg2:=an0 l hg1
 generalize gr2 l g1 = g2 at *
 refine ja (ι:=Unit) (fun _=>True) (fun _=>Yz l (gr3 l g2).2 (i + 1:Nat) rs (gr3 l g2).1) (fun K' hK'=>?_) (fun _ _=>?_)
 ·have o1:=z3 l g2.2 2 hl (hg2.1.1) (by omega) (by omega)
  have ok1:=QG (l:=l) (n:=2) hg2.1.1
  obtain ⟨r,k1⟩:=g2
  obtain ⟨⟨a0,a1,a2,a3,a4,a5,a6,a7,a8,a9,a10⟩,at1⟩:=hg2
  simp only at o1 ok1 a0 a1 a2 a3 a4 a5 a6 a7 a8 a9 a10 at1 hK' ⊢
  rcases hq:((Qk l k1 2).1 == 2 - 1) with _|_
  ·have e:gr3 l (r,k1) = (r,(Qk l k1 2).2):=by rw [gr3,hq];rfl
   rw [hq] at o1
   simp only [e] at hK'
   clear e hq
   generalize (Qk l k1 2).2 = k2 at *
   simp only [QH] at o1
   refine zgo ?_;repeat' first|exact zt|apply zan|intro hc
   all_goals exact hK' _ () (Qd []) trivial (Qh [] (by simp only [go_sem,zwl,QH,Xh,XW,Yz,Jk,Qj.cells]<;>exact zcc) (by simp only [go_sem,zwl,QH,Xh,XW,Yz,Jk,Qj.cells]<;>exact zcc) (by simp [Qd]) (by simp) (by omega))
  ·have e:gr3 l (r,k1) = ({ r with frm:=(ofD l (Qk l k1 2).2 amV).1 },(ofD l (Qk l k1 2).2 amV).2):=by rw [gr3,hq];rfl
   rw [hq] at o1
   simp only [e] at hK'
   clear e hq
   generalize (Qk l k1 2).2 = k2 at *
   have z2:=z4 l k2 amV hl ok1 (by decide) (by decide)
   have zm:=Kc (l:=l) (k:=k2) (xs:=amV) (by decide) (by decide)
   generalize ofD l k2 amV = w at *
   obtain ⟨v,k4⟩:=w
   simp only [QH,amV,zN,zL] at o1 z2 hK'
   repeat' (first|(refine zsk ?_;intro K' hK)|(refine zrg ?_;intro K' hK)|refine zsp ?_|(refine zsc ?_ ?_<;>intro hc<;>first|exact znh|try simp only [znz] at hc)|simp (maxSteps:=1000000) only [go_sem,Jk,Yz,Qj.cells,QH]|(refine hK _ ?_;clear hK K')|apply zan|(apply Ko;(focus exact rfl);(focus first|exact o1|exact z2|exact (z0 _ _ _ zsd zsd)|exact (z3 _ _ _ zsd zsd zsd zsd)|exact (z4 _ _ _ zsd zsd zsd zsd));(focus exact rfl);(focus exact rfl))|(apply VJ;(focus exact rfl);(focus exact zrd);(focus exact zrd);(focus first|exact o1|exact z2|exact (z0 _ _ _ zsd zsd)|exact (z3 _ _ _ zsd zsd zsd zsd)|exact (z4 _ _ _ zsd zsd zsd zsd));(focus exact rfl);(focus exact rfl);(focus exact zrd))|exact zsq|fail)
   all_goals exact hK' _ () (Qd []) trivial (Qh [] (by simp only [go_sem,zwl,QH,Xh,XW,Yz,Jk,Qj.cells]<;>exact zcc) (by simp only [go_sem,zwl,QH,Xh,XW,Yz,Jk,Qj.cells]<;>exact zcc) (by simp [Qd]) (by simp) (by omega))
 have hg3:=anZ l hg2
 generalize gr3 l g2 = g3 at *
 refine ja (ι:=Unit) (fun _=>True) (fun _=>Yz l (gr4 l g3).2 (i + 1:Nat) rs (gr4 l g3).1) (fun K' hK'=>?_) (fun _ _=>?_)
 ·have o1:=z3 l g3.2 3 hl (hg3.1.1) (by omega) (by omega)
  have ok1:=QG (l:=l) (n:=3) hg3.1.1
  obtain ⟨r,k1⟩:=g3
  obtain ⟨⟨a0,a1,a2,a3,a4,a5,a6,a7,a8,a9,a10⟩,at1⟩:=hg3
  simp only at o1 ok1 a0 a1 a2 a3 a4 a5 a6 a7 a8 a9 a10 at1 hK' ⊢
  rcases hq:((Qk l k1 3).1 == 3 - 1) with _|_
  ·have e:gr4 l (r,k1) = (r,(Qk l k1 3).2):=by rw [gr4,hq];rfl
   rw [hq] at o1
   simp only [e] at hK'
   clear e hq
   generalize (Qk l k1 3).2 = k2 at *
   simp only [QH] at o1
   repeat' (first|(refine zsk ?_;intro K' hK)|(refine zrg ?_;intro K' hK)|refine zsp ?_|(refine zsc ?_ ?_<;>intro hc<;>first|exact znh|try simp only [znz] at hc)|simp (maxSteps:=1000000) only [go_sem,Jk,Yz,Qj.cells,QH]|(refine hK _ ?_;clear hK K')|apply zan|(apply Ko;(focus exact rfl);(focus first|exact o1|exact (z0 _ _ _ zsd zsd)|exact (z3 _ _ _ zsd zsd zsd zsd)|exact (z4 _ _ _ zsd zsd zsd zsd));(focus exact rfl);(focus exact rfl))|(apply VJ;(focus exact rfl);(focus exact zrd);(focus exact zrd);(focus first|exact o1|exact (z0 _ _ _ zsd zsd)|exact (z3 _ _ _ zsd zsd zsd zsd)|exact (z4 _ _ _ zsd zsd zsd zsd));(focus exact rfl);(focus exact rfl);(focus exact zrd))|exact zsq|fail)
   all_goals exact hK' _ () (Qd []) trivial (Qh [] (by simp only [go_sem,zwl,QH,Xh,XW,Yz,Jk,Qj.cells]<;>exact zcc) (by simp only [go_sem,zwl,QH,Xh,XW,Yz,Jk,Qj.cells]<;>exact zcc) (by simp [Qd]) (by simp) (by omega))
  ·have e:gr4 l (r,k1) = ({ r with til:=r.frm + (ofD l (Qk l k1 3).2 ama).1 },(ofD l (Qk l k1 3).2 ama).2):=by rw [gr4,hq];rfl
   rw [hq] at o1
   simp only [e] at hK'
   clear e hq
   generalize (Qk l k1 3).2 = k2 at *
   have z2:=z4 l k2 ama hl ok1 (by decide) (by decide)
   have zm:=Kc (l:=l) (k:=k2) (xs:=ama) (by decide) (by decide)
   generalize ofD l k2 ama = w at *
   obtain ⟨v,k4⟩:=w
   simp only [QH,ama,zN,zL] at o1 z2 hK'
   have zr:=vD (a:=1) (b:=200) (by decide) zm
   have ew1:IntKind.i64.wrap (r.frm + v) = r.frm + v:=QP (by omega) (by omega)
   repeat' (first|(refine zsk ?_;intro K' hK)|(refine zrg ?_;intro K' hK)|refine zsp ?_|(refine zsc ?_ ?_<;>intro hc<;>first|exact znh|try simp only [znz] at hc)|simp (maxSteps:=1000000) only [go_sem,Jk,Yz,Qj.cells,QH,ew1]|(refine hK _ ?_;clear hK K')|apply zan|(apply Ko;(focus exact rfl);(focus first|exact o1|exact z2|exact (z0 _ _ _ zsd zsd)|exact (z3 _ _ _ zsd zsd zsd zsd)|exact (z4 _ _ _ zsd zsd zsd zsd));(focus exact rfl);(focus exact rfl))|(apply VJ;(focus exact rfl);(focus exact zrd);(focus exact zrd);(focus first|exact o1|exact z2|exact (z0 _ _ _ zsd zsd)|exact (z3 _ _ _ zsd zsd zsd zsd)|exact (z4 _ _ _ zsd zsd zsd zsd));(focus exact rfl);(focus exact rfl);(focus exact zrd))|exact zsq|fail)
   all_goals exact hK' _ () (Qd []) trivial (Qh [] (by simp only [go_sem,zwl,QH,Xh,XW,Yz,Jk,Qj.cells]<;>exact zcc) (by simp only [go_sem,zwl,QH,Xh,XW,Yz,Jk,Qj.cells]<;>exact zcc) (by simp [Qd]) (by simp) (by omega))
 have hg4:=anY l hg3
 generalize gr4 l g3 = g4 at *
 obtain ⟨r,k1⟩:=g4
 obtain ⟨a,g,b,p,m,t⟩:=r
 simp only at hK'
 have hb:List.map Qj.v rs++[.agg [V.bool a,V.int g,V.int b,V.int p,V.int m,V.int t]] = (rs++[(⟨a,g,b,p,m,t⟩:Qj)]).map Qj.v:=by rw [kz];rfl
 have hln:rs.length + 1 = (rs++[(⟨a,g,b,p,m,t⟩:Qj)]).length:=by simp
 repeat' (first|(refine zsk ?_;intro K' hK)|(refine zrg ?_;intro K' hK)|refine zsp ?_|(refine zsc ?_ ?_<;>intro hc<;>first|exact znh|try simp only [znz] at hc)|simp (maxSteps:=1000000) only [go_sem,Jk,Yz,Qj.cells,QH,akg,hb,hln]|(refine hK _ ?_;clear hK K')|apply zan|(apply Ko;(focus exact rfl);(focus first|exact (z0 _ _ _ zsd zsd)|exact (z3 _ _ _ zsd zsd zsd zsd)|exact (z4 _ _ _ zsd zsd zsd zsd));(focus exact rfl);(focus exact rfl))|(apply VJ;(focus exact rfl);(focus exact zrd);(focus exact zrd);(focus first|exact (z0 _ _ _ zsd zsd)|exact (z3 _ _ _ zsd zsd zsd zsd)|exact (z4 _ _ _ zsd zsd zsd zsd));(focus exact rfl);(focus exact rfl);(focus exact zrd))|exact zsq|fail)
 all_goals first
  | exact hK' _ () (Qd [(5,4008)]) trivial (Qh [(5,4008)] (by simp only [go_sem,zwl,QH,Xh,XW,Yz,Jk,Qj.cells]<;>exact zcc) (by simp only [go_sem,zwl,QH,Xh,XW,Yz,Jk,Qj.cells]<;>exact zcc) (by simp [Qd]) (by simp;omega) (by omega))
  | (simp only [zv,List.length_singleton];omega)
section
variable {C:Ctx} {nt:Nat} {s:St} {K:St→Prop} {E:Nat→St→Prop} {R:St→Prop}
theorem abu {k:List Nat} {a y:AC} {P:St→Prop} (h:AWp C nt a s P E R) (h':∀ s1,P s1→AWp C nt y (s1.keep k) K E R):AWp C nt (qy k a y) s K E R :=
 wG (ae0 h h' (fun _ _ h=>h) (fun _ h=>h))
theorem ant {k1 k2 k3 k4 k5:List Nat} {a b c d e y:AC} {ι:Type} (good:ι→Prop) (mid:ι→St) (h:∀ K':St→Prop,(∀ s' i,good i→Cl C.m s' (mid i)→K' s')→AWp C nt a s (fun s1=>AWp C nt b (s1.keep k1) (fun s2=>AWp C nt c (s2.keep k2) (fun s3=>AWp C nt d (s3.keep k3) (fun s4=>AWp C nt e (s4.keep k4) K' E R) E R) E R) E R) E R)
  (h':∀ i,good i→AWp C nt y (mid i) K E R):AWp C nt (qy k1 a (qy k2 b (qy k3 c (qy k4 d (qy k5 e y))))) s K E R :=
 abu (h (fun s'=>∃ i,good i∧Cl C.m s' (mid i)) fun s' i h1 h2=>⟨i,h1,h2⟩) fun _ h1=>abu h1 fun _ h2=>abu h2 fun _ h3=>abu h3 fun _ h4=>anu good mid h4 h'
end
theorem alh {o:Nat→Option Ob} {br:List Nat} {a n sz:Nat} {xs:List V} (h:o a = some (.buf true sz xs)) (hb:a ∉ br) (hn:n = xs.length):conv o br none (.hd a 0 n) (.sl sz xs):=by
 subst hn
 rw [ahG]
 exact ⟨trivial,hb,.inl ⟨true,_,h,by rw [kK,zl (zh _)]⟩⟩
structure EwP where
 x:List Qa
 gap:Int
 day:Int
 rs:List Qj
 ks:List QS
 pu:Int
structure EwG (p:EwP):Prop where
 sz:∀ y∈p.x,y.Sz
 nm:YL p.x = true
 xl:p.x.length≤14
 g:0≤p.gap∧p.gap≤4000
 d:0≤p.day∧p.day≤40000
 rl:p.rs.length≤6
 kl:p.ks.length≤2
 ck:J9 p.rs p.ks = 0
 pu:1≤p.pu∧p.pu≤4
def ewS (p:EwP):St:=stL [(4,.sl 11 (p.x.map Qa.v)),(5,V.int p.gap),(6,V.int p.day),(7,.ptr 0 0),(8,V.int p.pu)] [.box true [.sl 6 (p.rs.map Qj.v),.sl 2 (p.ks.map QS.v)]]
theorem ap1 {m:Nat} {s:St} {p:EwP} (hm:m = 0) (a b c:Nat) (h:s.t 4 = .sl 11 (p.x.map Qa.v)∧s.t 5 = V.int p.gap∧s.t 6 = V.int p.day∧s.t 7 = .ptr a 0∧s.t 8 = V.int p.pu)
  (oa:s.o a = some (.box true [.hd b 0 p.rs.length,.hd c 0 p.ks.length])) (ob:s.o b = some (.buf true 6 (p.rs.map Qj.v))) (oc:s.o c = some (.buf true 2 (p.ks.map QS.v))) (hb:b ∉ [a]∧c ∉ [a]):Cl m s (ewS p):=by
 obtain ⟨t4,t5,t6,t7,t8⟩:=h
 refine aq8 [a] none (fun q hq=>?_) ?_ (by simp) (by rw [hm];rfl)
 ·simp only [zC,zI,or_false] at hq
  rcases hq with rfl|rfl|rfl|rfl|rfl<;>dsimp only
  ·rw [t4];exact Kk _ _ _ _ trivial
  ·rw [t5];exact Kk _ _ _ _ trivial
  ·rw [t6];exact Kk _ _ _ _ trivial
  ·rw [t7];simp [conv]
  ·rw [t8];exact Kk _ _ _ _ trivial
 ·exact ⟨⟨_,oa,fun h=>h,alh ob hb.1 (by simp),alh oc hb.2 (by simp),trivial⟩,trivial⟩
def ewT (p:EwP) (w:List Qe) (i:Nat):St:=Jk [(4,.sl 11 (p.x.map Qa.v)),(5,V.int p.gap),(6,V.int p.day),(7,.ptr 0 0),(8,V.int p.pu),(9,.sl 8 (w.map Qe.v)),(11,V.int i)] [(0,.box true [.sl 6 (p.rs.map Qj.v),.sl 2 (p.ks.map QS.v)])] 1
def ewL (p:EwP) (w:List Qe) (n k:Nat):List (Nat×V):=[(4,.sl 11 (p.x.map Qa.v)),(6,V.int p.day),(7,.ptr 0 0),(8,V.int p.pu),(9,.sl 8 (w.map Qe.v)),(18,.sl 4 ((JJ p.x p.gap).map QR.v)),(20,V.int n),(21,V.int k)]
def ewO (p:EwP):List (Nat×Ob):=[(0,.box true [.sl 6 (p.rs.map Qj.v),.sl 2 (p.ks.map QS.v)])]
def ewE (p:EwP) (w:List Qe) (n k:Nat):St:=Jk (ewL p w n k) (ewO p) 1
def ewI (p:EwP) (w fl:List Qe) (n k j:Nat):St:=Jk (ewL p w n k++[(22,.sl 8 (fl.map Qe.v)),(24,V.int j)]) (ewO p) 1
def afm (p:EwP) (fl:List Qe):Nat:=(fl.filter (an9 p.rs p.ks p.pu p.day)).length
def Yp:=qd Proofs.Tryz.f5 [zhn 16,zhn 16]
def Ue (Γ:Env) (f:Nat):Prop:=∀ (l:List Int),EvN Γ f [.sl 1 (l.map V.int)] (V.bool true)
attribute [local go_sem] zb QH Jk in
theorem jU {Γ:Env} {f:Nat} (h:Has Γ.P f 167 Yp.1.1.ac Yp.1.2) (z0:jp Γ 6) (z1:qv Γ 7) (z2:ym Γ 8) (z3:Us Γ 9) (z4:Q3 Γ 10) (z5:qu Γ 12) (z6:Wc Γ 14) (z7:Up Γ 22) (z8:XN Γ 16) (z9:VO Γ 23) (z10:qp Γ 24):Ue Γ f:=by
 intro l
 refine Qb h zsi zcl zcl fun C hC hm=>?_
 subst hC
 simp only [Yp,qd,DC.ac]
 have hm:C.m = 0:=by simpa using hm
 have aw:=(EvN.b z1)
 refine ant (ι:=EwP) EwG ewS (fun K' hK'=>?_) fun p hp=>?_
 ·have gL:=z0 l
  by_cases hlen:l.length≤400
  rotate_left
  ·have e0:decide ((l.length:Int)≤400) = false:=by simp;omega
   rw [e0] at gL
   (have zy0:=gL.b;have zx:=e0);exact zg
  have e0:decide ((l.length:Int)≤400) = true:=by simp;omega
  rw [e0] at gL
  have n1:=z2 l
  have n2:=(z3 l 0 14 hlen (zG _) (by decide)).d
  obtain ⟨fS,fN,fl,k2⟩:=alr (l:=l) (k:=0) (most:=14) (zG _) (by decide)
  generalize xX l 0 14 = w at *
  obtain ⟨x,d1⟩:=w
  simp only at n2 fS fN fl k2
  have n3:=z4 l d1 5 hlen k2
  have r3:=Qo (l:=l) (k:=d1) (n:=5) (by omega) (by omega)
  have k3:=QG (n:=5) k2
  generalize Qk l d1 5 = w at *
  obtain ⟨gap,d2⟩:=w
  simp only at n3 r3 k3
  have n4:=z4 l d2 14 hlen k3
  have r4:=Qo (l:=l) (k:=d2) (n:=14) (by omega) (by omega)
  have k4:=QG (n:=14) k3
  generalize Qk l d2 14 = w at *
  obtain ⟨day,d3⟩:=w
  simp only at n4 r4 k4
  have n6:=z5 l d3 hlen k4
  have hR:=ah7 l k4
  have hK:=ami l k4
  generalize (afJ l d3).2 = d5 at *
  generalize (xN l d3).1 = rs at *
  generalize (afJ l d3).1 = ks at *
  obtain ⟨k6,q2,l2⟩:=hK
  obtain ⟨_,q1,l1⟩:=hR
  have hck:J9 rs ks = 0:=by
   rw [J9,if_pos];simp only [zw,zy];exact ⟨⟨⟨q1,q2⟩,by omega⟩,by omega⟩
  have n7:=z4 l d5 4 hlen k6
  have r7:=Qo (l:=l) (k:=d5) (n:=4) (by omega) (by omega)
  have k7:=QG (n:=4) k6
  generalize Qk l d5 4 = w at *
  obtain ⟨pu,d6⟩:=w
  simp only at n7 r7 k7
  have ep:IntKind.i64.wrap (1 + pu) = 1 + pu:=QP (by omega) (by omega)
  simp only [QH,zN,zL] at n1 n2 n3 n4 n6 n7
  (have zy0:=gL.b;have zx:=za e0 ep);refine zgo ?_;repeat' first|exact zt|apply zan|intro hc
  all_goals
   exact hK' _ ⟨x,gap,day,rs,ks,1 + pu⟩ ⟨fS,fN,by simpa using fl,by simp only;omega,by simp only;omega,by simp only;omega,by simp only;omega,hck,by simp only;omega⟩ (ap1 hm 19000 15000 15001 ⟨rfl,rfl,rfl,rfl,rfl⟩ rfl rfl rfl ⟨by decide,by decide⟩)
 obtain ⟨x,gap,day,rs,ks,pu⟩:=p
 obtain ⟨fS,fN,xl,hg,hd,rl,kl,hck,hpu⟩:=hp
 simp only at fS fN xl hg hd rl kl hck hpu
 have fC:∀ y∈x,JD y = true:=((abR _).1 (by simp only [YL,zw] at fN;exact fN.1)).1
 have hK:ae5 x gap day 100:=⟨fN,hg,hd,by omega⟩
 have hk0:=vG.2 hK
 have g1:=(z6 x gap day 100 rs ks pu (by omega) fS (by omega) (by omega)).b
 rw [aiZ,if_pos hk0,if_pos hck,if_neg (by omega)] at g1
 have hws:=fun f (h:f∈yP x gap day 100 rs ks pu)=>aka h
 have hwu:=fun f (h:f∈yP x gap day 100 rs ks pu)=>al5 h
 have hwl:=al6 x gap day 100 pu rs ks
 have hwe:(yP x gap day 100 rs ks pu).length = (al7 x gap day 100 rs ks pu).length:=by rw [aob fC hck hpu hd]
 have hxx:x.length * x.length≤14 * 14:=Nat.mul_le_mul xl xl
 generalize yP x gap day 100 rs ks pu = w at *
 have e00:((0:Int) != 0) = false:=by decide
 have hwm:(w.map Qe.v).length = w.length:=zb _
 simp only [ewS,stL]
 (have zx:=e00);refine zgo ?_;repeat' first|exact zt|apply zan|intro hc
 refine Qp (ι:=Nat) (fun i=>i≤w.length) (fun i=>ewT ⟨x,gap,day,rs,ks,pu⟩ w i) (fun i=>w.length - i) 0 (zG _) (Qd []) (Qh [] (by simp only [go_sem,zwl,ewT]<;>exact zcc) (by simp only [go_sem,zwl,ewT]<;>exact zcc) (by simp [ewT,Qd]) (by simp [ewT]) (by omega)) fun i hi K' hL=>?_
 rcases hdr:w.drop i with _|⟨f,r⟩
 rotate_left
 ·obtain ⟨hi',hget,hrr⟩:=Qm hdr
  have hw:=Qg (k:=i) (by omega)
  have e1:decide ((i:Int) < (w.length:Int)) = true:=by simp;omega
  have vf:(w.map Qe.v)[i]? = some f.v:=by rw [zi,hget];rfl
  obtain ⟨u1,u2,u3⟩:=hwu f (zq hget)
  have gA:=(z7 rs ks f.alg f.bits pu day (by omega) (by omega)).b
  have gH:=(z8 x gap day 100 { f with text:=[] } (by omega) fS).b
  rw [if_neg (by simpa using u2),u3] at gA
  rw [xU,if_pos hk0,hws f (zq hget)] at gH
  have ek:(f.kind != 1) = false:=by simp [u1]
  simp only [Qe.v,Qe.cells] at vf gH
  simp only [ewT]
  (have zx:=za e00 (za e1 (za hwm (za hw (za vf ek)))));refine zgo ?_;repeat' first|exact zt|apply zan|intro hc
  all_goals exact hL _ (i + 1) (Qd []) (by omega) (by omega) (Qh [] (by simp only [go_sem,zwl,ewT]<;>exact zcc) (by simp only [go_sem,zwl,ewT]<;>exact zcc) (by simp [ewT,Qd]) (by simp [ewT]) (by omega))
 have hkl:=Qt hdr
 have e1:decide ((i:Int) < (w.length:Int)) = false:=by simp;omega
 clear hL hws hwu
 have pE:=(z9 x gap (by omega) fS fC).b
 rw [am6,am5,show J0 x gap = 0 by rw [J0,if_pos fN,if_neg (by omega)],if_pos rfl] at pE
 have hel:=wD x gap
 have heL:((JJ x gap).map QR.v).length = (JJ x gap).length:=zb _
 have hfb:=yY x gap day 100
 have hLl:(Q5 x gap day 100).length = (JJ x gap).length:=zb _
 have hob:∀ k,afm ⟨x,gap,day,rs,ks,pu⟩ ((Q5 x gap day 100).take k).flatten≤200:=fun k=>by
  have h1:=agU (Q5 x gap day 100) k
  rw [afj] at h1
  exact Zf (Zb _ _) (by omega)
 simp only [ewT]
 (have zx:=za e1 hwm);refine zgo ?_;repeat' first|exact zt|apply zan|intro hc
 refine Qp (ι:=Nat) (fun k=>k≤(JJ x gap).length) (fun k=>ewE ⟨x,gap,day,rs,ks,pu⟩ w (afm ⟨x,gap,day,rs,ks,pu⟩ ((Q5 x gap day 100).take k).flatten) k) (fun k=>(JJ x gap).length - k) 0 (zG _) (Qd []) (Qh [] (by simp only [go_sem,zwl,ewE,ewL,ewO,afm,List.take_zero,List.flatten_nil,List.filter_nil,List.length_nil]<;>exact zcc) (by simp only [go_sem,zwl,ewE,ewL,ewO]<;>exact zcc) (by simp [ewE,ewO,Qd]) (by simp [ewE]) (by omega)) fun k hk K' hL=>?_
 rcases hdr2:(JJ x gap).drop k with _|⟨e,r⟩
 ·have hkl2:=Qt hdr2
  have g3:decide ((k:Int) < ((JJ x gap).length:Int)) = false:=by simp;omega
  have hfin:afm ⟨x,gap,day,rs,ks,pu⟩ ((Q5 x gap day 100).take k).flatten = w.length:=by
   rw [hwe,al7,afm,zl (by omega)]
  have e5:((w.length:Int) == (w.length:Int)) = true:=by simp
  simp only [ewE,ewL,ewO,hfin]
  (have zx:=za g3 (za heL (za hwm e5)));exact zg
 obtain ⟨hk',hget,hrr⟩:=Qm hdr2
 have hw:=Qg (k:=k) (by omega)
 have g3:decide ((k:Int) < ((JJ x gap).length:Int)) = true:=by simp;omega
 have ve:((JJ x gap).map QR.v)[k]? = some e.v:=by rw [zi,hget];rfl
 obtain ⟨o1,o2,o3,o4⟩:=acx (zq hget)
 have pf:=(z10 x e day 100 (by omega) fS fN hd (by omega) o2 (o1.imp fun h=>Nat.ne_of_lt h) (by omega)).b
 rw [alt o1 o2] at pf
 have hfl:=vM x e.num e.finds day 100
 have hfk:(Q5 x gap day 100)[k]? = some (Y8 x e.num e.finds day 100):=by rw [Q5,zi,hget];rfl
 have hnx:afm ⟨x,gap,day,rs,ks,pu⟩ ((Q5 x gap day 100).take (k + 1)).flatten = afm ⟨x,gap,day,rs,ks,pu⟩ ((Q5 x gap day 100).take k).flatten + afm ⟨x,gap,day,rs,ks,pu⟩ (Y8 x e.num e.finds day 100):=by
  rw [zR,hfk,Option.toList_some,List.flatten_append];simp [afm]
 have ho0:=hob k
 simp only [ewE,ewL,ewO]
 simp only [QR.v] at ve pf
 generalize afm ⟨x,gap,day,rs,ks,pu⟩ ((Q5 x gap day 100).take k).flatten = n at *
 generalize Y8 x e.num e.finds day 100 = fl at *
 have hfm:(fl.map Qe.v).length = fl.length:=zb _
 (have zx:=za g3 (za heL ve));refine zgo ?_;repeat' first|exact zt|apply zan|intro hc
 refine Qp (ι:=Nat) (fun j=>j≤fl.length) (fun j=>ewI ⟨x,gap,day,rs,ks,pu⟩ w fl (n + afm ⟨x,gap,day,rs,ks,pu⟩ (fl.take j)) k j) (fun j=>fl.length - j) 0 (zG _) (Qd []) (Qh [] (by simp only [go_sem,zwl,ewI,ewL,ewO,afm,List.take_zero,List.filter_nil,List.length_nil,Nat.add_zero,List.cons_append,List.nil_append]<;>exact zcc) (by simp only [go_sem,zwl,ewI,ewL,ewO]<;>exact zcc) (by simp [ewI,ewO,Qd]) (by simp [ewI]) (by omega)) fun j hj K2 hL2=>?_
 have hoj:n + afm ⟨x,gap,day,rs,ks,pu⟩ (fl.take j)≤1000:=by
  have:=Zb (an9 rs ks pu day) (fl.take j)
  rw [zT] at this;simp only [afm];omega
 rcases hdj:fl.drop j with _|⟨f,q⟩
 ·have hkl3:=Qt hdj
  have g4:decide ((j:Int) < (fl.length:Int)) = false:=by simp;omega
  obtain rfl:j = fl.length:=by omega
  simp only [ewI,ewL,ewO,zQ,List.cons_append,List.nil_append]
  rw [← hnx] at *
  (have zx:=za g4 (za hfm hw));refine zgo ?_;repeat' first|exact zt|apply zan|intro hc
  all_goals exact hL _ (k + 1) (Qd []) (by omega) (by omega) (Qh [] (by simp only [go_sem,zwl,ewE,ewL,ewO]<;>exact zcc) (by simp only [go_sem,zwl,ewE,ewL,ewO]<;>exact zcc) (by simp [ewE,ewO,Qd]) (by simp [ewE]) (by omega))
 obtain ⟨hj',hgj,hqr⟩:=Qm hdj
 have hwj:=Qg (k:=j) (by omega)
 have g4:decide ((j:Int) < (fl.length:Int)) = true:=by simp;omega
 have vf:(fl.map Qe.v)[j]? = some f.v:=by rw [zi,hgj];rfl
 have pA:=(z7 rs ks f.alg f.bits pu day (by omega) (by omega)).b
 have hnj:n + afm ⟨x,gap,day,rs,ks,pu⟩ (fl.take (j + 1)) = n + afm ⟨x,gap,day,rs,ks,pu⟩ (fl.take j) + (if an9 rs ks pu day f = true then 1 else 0):=by
  rw [zR,hgj]
  rcases hb:an9 rs ks pu day f with _|_<;>simp [afm,hb,kL]
 rw [an9] at hnj
 simp only [ewI,ewL,ewO,List.cons_append,List.nil_append]
 generalize hou:n + afm ⟨x,gap,day,rs,ks,pu⟩ (fl.take j) = ou at *
 have hwo:=Qg (k:=ou) (by omega)
 simp only [Qe.v,Qe.cells] at vf
 rcases hkd:(f.kind == 1) with _|_
 ·rw [hkd,zE,if_neg (by decide),Nat.add_zero] at hnj
  (have zx:=za g4 (za hkd (za hwj (za vf hfm))));refine zgo ?_;repeat' first|exact zt|apply zan|intro hc
  all_goals exact hL2 _ (j + 1) (Qd []) (by omega) (by omega) (Qh [] (by simp only [go_sem,zwl,ewI,ewL,ewO,hnj,List.cons_append,List.nil_append]<;>exact zcc) (by simp only [go_sem,zwl,ewI,ewL,ewO]<;>exact zcc) (by simp [ewI,ewO,Qd]) (by simp [ewI]) (by omega))
 rw [hkd,zH] at hnj
 by_cases h0:XP rs ks f.alg f.bits pu day = 0
 ·rw [if_neg (by simpa using h0)] at pA
  rw [zo h0,zH] at hnj
  rcases hal:qK rs f.alg f.bits pu day with _|_
  ·rw [hal,ZL,if_pos rfl] at hnj
   rw [hal] at pA
   (have zx:=za g4 (za hkd (za hwj (za hwo (za vf hfm)))));refine zgo ?_;repeat' first|exact zt|apply zan|intro hc
   all_goals exact hL2 _ (j + 1) (Qd []) (by omega) (by omega) (Qh [] (by simp only [go_sem,zwl,ewI,ewL,ewO,hnj,List.cons_append,List.nil_append]<;>exact zcc) (by simp only [go_sem,zwl,ewI,ewL,ewO]<;>exact zcc) (by simp [ewI,ewO,Qd]) (by simp [ewI]) (by omega))
  ·rw [hal,Bool.not_true,if_neg (by decide),Nat.add_zero] at hnj
   rw [hal] at pA
   (have zx:=za g4 (za hkd (za hwj (za vf hfm))));refine zgo ?_;repeat' first|exact zt|apply zan|intro hc
   all_goals exact hL2 _ (j + 1) (Qd []) (by omega) (by omega) (Qh [] (by simp only [go_sem,zwl,ewI,ewL,ewO,hnj,List.cons_append,List.nil_append]<;>exact zcc) (by simp only [go_sem,zwl,ewI,ewL,ewO]<;>exact zcc) (by simp [ewI,ewO,Qd]) (by simp [ewI]) (by omega))
 ·rw [if_pos h0] at pA
  rw [zp h0,zE,ZL,if_pos rfl] at hnj
  (have zx:=za g4 (za hkd (za hwj (za hwo (za vf hfm)))));refine zgo ?_;repeat' first|exact zt|apply zan|intro hc
  all_goals exact hL2 _ (j + 1) (Qd []) (by omega) (by omega) (Qh [] (by simp only [go_sem,zwl,ewI,ewL,ewO,hnj,List.cons_append,List.nil_append]<;>exact zcc) (by simp only [go_sem,zwl,ewI,ewL,ewO]<;>exact zcc) (by simp [ewI,ewO,Qd]) (by simp [ewI]) (by omega))
end Av
end
