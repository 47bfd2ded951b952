/- K34 -/
import Derived.Test.YtlpaikjhphkioaaGreatK28
import Derived.Test.YtlpaikjhphkioaaGreatK21
import Derived.Test.YtlpaikjhphkioaaGreatK13
import Derived.Test.YtlpaikjhphkioaaGreatK12
import Derived.Test.YtlpaikjhphkioaaGreatK33
set_option linter.unusedVariables false
set_option linter.unusedSimpArgs false
noncomputable section
set_option maxRecDepth 10000
set_option maxHeartbeats 4000000
namespace Av
open Go
attribute [local irreducible] AWp Uv qW xf awS awC abB awQ acd QZ UL aa2 awR Kc awB okR yu ris
abbrev GR:=Qj×Nat
def al4:List Int:=[14,1,2,5,15,0,16,10,20,7]
def apx:List Int:=[2048,256,1024,3072,129]
def ao9:List Int:=[10,30,100,7]
def aom:List Int:=[20,1,200]
def apo:List Int:=[10,100,3000]
def gr0 (l:List Int) (k:Nat):GR:=(⟨(Qm l k 3).1 == 3 - 1,(ofD l (Qm l k 3).2 al4).1,0,0,0,40001⟩,(ofD l (Qm l k 3).2 al4).2)
def gr1 (l:List Int) (g:GR):GR:=if ((Qm l g.2 2).1 == 2 - 1) = true then ({ g.1 with below:=(ofD l (Qm l g.2 2).2 apx).1 },(ofD l (Qm l g.2 2).2 apx).2) else (g.1,(Qm l g.2 2).2)
def gr2 (l:List Int) (g:GR):GR:=if ((Qm l g.2 3).1 == 3 - 1) = true then ({ g.1 with purp:=1 + (Qm l (Qm l g.2 3).2 4).1 },(Qm l (Qm l g.2 3).2 4).2) else (g.1,(Qm l g.2 3).2)
def gr3 (l:List Int) (g:GR):GR:=if ((Qm l g.2 2).1 == 2 - 1) = true then ({ g.1 with frm:=(ofD l (Qm l g.2 2).2 ao9).1 },(ofD l (Qm l g.2 2).2 ao9).2) else (g.1,(Qm l g.2 2).2)
def gr4 (l:List Int) (g:GR):GR:=if ((Qm l g.2 3).1 == 3 - 1) = true then ({ g.1 with til:=g.1.frm + (ofD l (Qm l g.2 3).2 aom).1 },(ofD l (Qm l g.2 3).2 aom).2) else (g.1,(Qm l g.2 3).2)
def grD (l:List Int) (k:Nat):GR:=gr4 l (gr3 l (gr2 l (gr1 l (gr0 l k))))
def gkD (l:List Int) (k:Nat):QS×Nat:=(⟨1 + (Qm l k 4).1,(ofD l (Qm l k 4).2 apo).1⟩,(ofD l (Qm l k 4).2 apo).2)
def acq (l:List Int):Nat→List Qj→Nat→List Qj×Nat
 | 0,rs,k=>(rs,k)
 | i + 1,rs,k=>acq l i (rs++[(grD l k).1]) (grD l k).2
def abi (l:List Int):Nat→List QS→Nat→List QS×Nat
 | 0,ks,k=>(ks,k)
 | i + 1,ks,k=>abi l i (ks++[(gkD l k).1]) (gkD l k).2
def aab (l:List Int) (k:Nat):List Qj×Nat:=acq l (Qm l k 7).1.toNat [] (Qm l k 7).2
def ahr (l:List Int) (k:Nat):List QS×Nat:=abi l (Qm l (aab l k).2 3).1.toNat [] (Qm l (aab l k).2 3).2
def anv (l:List Int) (g:GR):Prop:=g.2≤l.length∧0≤g.1.alg∧g.1.alg≤22∧0≤g.1.below∧g.1.below≤16384∧0≤g.1.purp∧g.1.purp≤4∧0≤g.1.frm∧g.1.frm≤100∧g.1.frm < g.1.til∧g.1.til≤40001
theorem abf {xs:List Int} {a b x:Int} (h:xs.all (fun y=>decide (a≤y∧y≤b)) = true) (hx:x∈xs):a≤x∧x≤b:=ku (kS.1 h x hx)
theorem anw (l:List Int) {k:Nat} (hk:k≤l.length):anv l (gr0 l k)∧(gr0 l k).1.til = 40001:=by
 have h1:=abf (a:=0) (b:=22) (by decide) (ql (l:=l) (k:=(Qm l k 3).2) (xs:=al4) (by decide) (by decide))
 exact ⟨⟨qm (QH hk),h1.1,h1.2,by show (0:Int)≤0;omega,by show (0:Int)≤16384;omega,by show (0:Int)≤0;omega,by show (0:Int)≤4;omega,by show (0:Int)≤0;omega,by show (0:Int)≤100;omega,by show (0:Int) < 40001;omega,by show (40001:Int)≤40001;omega⟩,rfl⟩
theorem aqe (l:List Int) {g:GR} (h:anv l g∧g.1.til = 40001):anv l (gr1 l g)∧(gr1 l g).1.til = 40001:=by
 obtain ⟨⟨a0,a1,a2,a3,a4,a5,a6,a7,a8,a9,a10⟩,at1⟩:=h
 have h1:=abf (a:=0) (b:=16384) (by decide) (ql (l:=l) (k:=(Qm l g.2 2).2) (xs:=apx) (by decide) (by decide))
 rw [gr1];split
 ·exact ⟨⟨qm (QH a0),a1,a2,h1.1,h1.2,a5,a6,a7,a8,a9,a10⟩,at1⟩
 ·exact ⟨⟨QH a0,a1,a2,a3,a4,a5,a6,a7,a8,a9,a10⟩,at1⟩
theorem aqd (l:List Int) {g:GR} (h:anv l g∧g.1.til = 40001):anv l (gr2 l g)∧(gr2 l g).1.til = 40001:=by
 obtain ⟨⟨a0,a1,a2,a3,a4,a5,a6,a7,a8,a9,a10⟩,at1⟩:=h
 have h1:=Qr (l:=l) (k:=(Qm l g.2 3).2) (n:=4) (by omega) (by omega)
 rw [gr2];split
 ·exact ⟨⟨QH (QH a0),a1,a2,a3,a4,by show 0≤1 + _;omega,by show 1 + _≤(4:Int);omega,a7,a8,a9,a10⟩,at1⟩
 ·exact ⟨⟨QH a0,a1,a2,a3,a4,a5,a6,a7,a8,a9,a10⟩,at1⟩
theorem aqc (l:List Int) {g:GR} (h:anv l g∧g.1.til = 40001):anv l (gr3 l g)∧(gr3 l g).1.til = 40001:=by
 obtain ⟨⟨a0,a1,a2,a3,a4,a5,a6,a7,a8,a9,a10⟩,at1⟩:=h
 have h1:=abf (a:=0) (b:=100) (by decide) (ql (l:=l) (k:=(Qm l g.2 2).2) (xs:=ao9) (by decide) (by decide))
 rw [gr3];split
 ·exact ⟨⟨qm (QH a0),a1,a2,a3,a4,a5,a6,h1.1,h1.2,by show _ < g.1.til;simp only;omega,a10⟩,at1⟩
 ·exact ⟨⟨QH a0,a1,a2,a3,a4,a5,a6,a7,a8,a9,a10⟩,at1⟩
theorem aqb (l:List Int) {g:GR} (h:anv l g∧g.1.til = 40001):anv l (gr4 l g):=by
 obtain ⟨⟨a0,a1,a2,a3,a4,a5,a6,a7,a8,a9,a10⟩,at1⟩:=h
 have h1:=abf (a:=1) (b:=200) (by decide) (ql (l:=l) (k:=(Qm l g.2 3).2) (xs:=aom) (by decide) (by decide))
 rw [gr4];split
 ·exact ⟨qm (QH a0),a1,a2,a3,a4,a5,a6,a7,a8,by show g.1.frm < g.1.frm + _;omega,by show g.1.frm + _≤(40001:Int);omega⟩
 ·exact ⟨QH a0,a1,a2,a3,a4,a5,a6,a7,a8,a9,a10⟩
theorem aqa (l:List Int) {k:Nat} (hk:k≤l.length):anv l (grD l k):=aqb l (aqc l (aqd l (aqe l (anw l hk))))
theorem alB {l:List Int} {g:GR} (h:anv l g):QX g.1 = true:=by
 obtain ⟨a0,a1,a2,a3,a4,a5,a6,a7,a8,a9,a10⟩:=h
 simp [QX, *]
theorem ase (l:List Int) {k:Nat} (hk:k≤l.length):(gkD l k).2≤l.length∧XQ (gkD l k).1 = true:=by
 have h1:=abf (a:=0) (b:=40000) (by decide) (ql (l:=l) (k:=(Qm l k 4).2) (xs:=apo) (by decide) (by decide))
 have h2:=Qr (l:=l) (k:=k) (n:=4) (by omega) (by omega)
 refine ⟨qm (QH hk),?_⟩
 have b1:1≤(gkD l k).1.purp:=by show 1≤1 + _;omega
 have b2:(gkD l k).1.purp≤4:=by show 1 + _≤(4:Int);omega
 have b3:0≤(gkD l k).1.days:=h1.1
 have b4:(gkD l k).1.days≤40000:=h1.2
 simp [XQ, *]
theorem aj4 (l:List Int):∀ (i:Nat) (rs:List Qj) (k:Nat),k≤l.length→rs.all QX = true→(acq l i rs k).2≤l.length∧(acq l i rs k).1.all QX = true∧(acq l i rs k).1.length = rs.length + i
 | 0,rs,k,h,h2=>⟨h,h2,rfl⟩
 | i + 1,rs,k,h,h2=>by
   have g:=aqa l h
   have:=aj4 l i (rs++[(grD l k).1]) (grD l k).2 g.1 (by simp [h2,alB g])
   simp only [zq,List.length_singleton] at this
   exact ⟨this.1,this.2.1,by rw [acq,this.2.2];omega⟩
theorem aki (l:List Int):∀ (i:Nat) (ks:List QS) (k:Nat),k≤l.length→ks.all XQ = true→(abi l i ks k).2≤l.length∧(abi l i ks k).1.all XQ = true∧(abi l i ks k).1.length = ks.length + i
 | 0,ks,k,h,h2=>⟨h,h2,rfl⟩
 | i + 1,ks,k,h,h2=>by
   have g:=ase l h
   have:=aki l i (ks++[(gkD l k).1]) (gkD l k).2 g.1 (by simp [h2,g.2])
   simp only [zq,List.length_singleton] at this
   exact ⟨this.1,this.2.1,by rw [abi,this.2.2];omega⟩
theorem aj3 (l:List Int) {k:Nat} (hk:k≤l.length):(aab l k).2≤l.length∧(aab l k).1.all QX = true∧(aab l k).1.length≤6:=by
 have h1:=Qr (l:=l) (k:=k) (n:=7) (by omega) (by omega)
 obtain ⟨a,b,c⟩:=aj4 l (Qm l k 7).1.toNat [] (Qm l k 7).2 (QH hk) rfl
 simp only [List.length_nil] at c
 exact ⟨a,b,by show (acq l _ _ _).1.length≤6;omega⟩
theorem aow (l:List Int) {k:Nat} (hk:k≤l.length):(ahr l k).2≤l.length∧(ahr l k).1.all XQ = true∧(ahr l k).1.length≤2:=by
 have h0:=(aj3 l hk).1
 have h1:=Qr (l:=l) (k:=(aab l k).2) (n:=3) (by omega) (by omega)
 obtain ⟨a,b,c⟩:=aki l (Qm l (aab l k).2 3).1.toNat [] (Qm l (aab l k).2 3).2 (QH h0) rfl
 simp only [List.length_nil] at c
 exact ⟨a,b,by show (abi l _ _ _).1.length≤2;omega⟩
def X3 (l:List Int) (k:Nat) (i:Int) (rs:List Qj):St:=Ju [(0,.ptr 0 0),(2,.ptr 1 0),(3,.ptr 4 0),(4,V.int i)] [(0,.box true (QA l k)),(1,.box true [.hd 2 0 0,.hd 3 0 0]),(2,.buf true 6 []),(3,.buf true 2 []),(4,.box true [.hd 5 0 rs.length,.hd 6 0 0]),(5,.buf true 6 (rs.map Qj.v)),(6,.buf true 2 [])] 7
def Xd (l:List Int) (k:Nat) (i:Int) (rs:List Qj) (r:Qj):St:=Ju [(0,.ptr 0 0),(2,.ptr 1 0),(3,.ptr 4 0),(4,V.int i),(5,.ptr 7 0)] [(0,.box true (QA l k)),(1,.box true [.hd 2 0 0,.hd 3 0 0]),(2,.buf true 6 []),(3,.buf true 2 []),(4,.box true [.hd 5 0 rs.length,.hd 6 0 0]),(5,.buf true 6 (rs.map Qj.v)),(6,.buf true 2 []),(7,.box true r.cells)] 8
def WO (l:List Int) (k:Nat) (i:Int) (rs:List Qj) (ks:List QS):St:=Ju [(0,.ptr 0 0),(2,.ptr 1 0),(3,.ptr 4 0),(6,V.int i)] [(0,.box true (QA l k)),(1,.box true [.hd 2 0 0,.hd 3 0 0]),(2,.buf true 6 []),(3,.buf true 2 []),(4,.box true [.hd 5 0 rs.length,.hd 6 0 ks.length]),(5,.buf true 6 (rs.map Qj.v)),(6,.buf true 2 (ks.map QS.v))] 7
def K0:=qd Proofs.Tryz.f12 [⟨fun _=>false,[1,3,7],.one 0 (.one 2 (.one 5 (.one 6 (.or 1 (.one 3 (.one 4 (.one 7 (.one 8 (.one 9 (.one 10 (.one 11 (.one 12 (.done))))))))) (.or 3 (.one 4 (.or 1 (.one 7 (.one 8 (.one 9 (.one 10 (.one 11 (.one 12 (.done))))))) (.or 7 (.one 1 (.one 8 (.one 9 (.one 10 (.one 11 (.one 12 (.done))))))) (.done)))) (.done))))))⟩,⟨fun _=>false,[1,4],.one 0 (.one 2 (.one 3 (.or 1 (.one 4 (.one 5 (.one 6 (.one 7 (.done))))) (.or 4 (.one 1 (.one 5 (.one 6 (.one 7 (.done))))) (.done)))))⟩]
def jU (Γ:Env) (f:Nat):Prop:=∀ (l:List Int) (k:Nat) (hl:l.length≤400) (hk:k≤l.length),EvO Γ f [] (QA l k) 6 2 ((aab l k).1.map Qj.v) ((ahr l k).1.map QS.v) (QA l (ahr l k).2)
attribute [local go_sem] Qj.cells QA Ju X3 Xd WO amn in
theorem ae2 {Γ:Env} {f:Nat} (h:Has Γ.P f 71 K0.1.1.ac K0.1.2) (z0:Jc Γ 10) (z3:UR Γ 28) (z4:Xw Γ 11):jU Γ f:=by
 intro l k hl hk
 refine ajw h (by simp) (by first|exact Xe _ _|simp only [V.closed,Qd,and_self,and_true,true_and]) (by first|exact Xe _ _|simp only [V.closed,Qd,and_self,and_true,true_and]) (by simp only [V.closed,Qd,and_self,and_true,true_and]) fun C hC hm=>?_
 subst hC
 simp only [K0,qd,DC.ac]
 have n0:=z0 l k 7 hl hk
 have hr0:=Qr (l:=l) (k:=k) (n:=7) (by omega) (by omega)
 have hk0:=QH (n:=7) hk
 have eR:aab l k = acq l (Qm l k 7).1.toNat [] (Qm l k 7).2:=rfl
 have eK:ahr l k = abi l (Qm l (aab l k).2 3).1.toNat [] (Qm l (aab l k).2 3).2:=rfl
 rw [eK]
 generalize aab l k = P at *
 generalize Qm l k 7 = u at *
 obtain ⟨i0,k0⟩:=u
 obtain ⟨i0,rfl⟩:∃ j:Nat,i0 = (j:Int):=⟨i0.toNat,by simp only at hr0;omega⟩
 simp only [QA,Int.toNat_natCast] at n0 hr0 hk0 eR ⊢
 refine zgo ?_;repeat' first|exact zt|apply zan|intro hc
 refine Qo (ι:=Nat×List Qj×Nat) (fun p=>p.1≤6∧p.2.2≤l.length∧p.2.1.length + p.1≤6∧acq l p.1 p.2.1 p.2.2 = P) (fun p=>X3 l p.2.2 p.1 p.2.1) (fun p=>p.1) (i0,[],k0) ⟨(by show i0≤6;omega),hk0,(by show 0 + i0≤6;omega),eR.symm⟩ (Qe [(4,1001),(5,1002),(6,1003)]) (Qg [(4,1001),(5,1002),(6,1003)] (by simp only [go_sem,zwl,QA,X3,WO,Xd,Ju]<;>exact zcc) (by simp only [go_sem,zwl,QA,X3,WO,Xd,Ju]<;>exact zcc) (by simp [Qe]) (by simp;omega) (by omega)) fun p hp K' hL=>?_
 obtain ⟨i,rs,k⟩:=p
 obtain ⟨hi,hk,hv,hinv⟩:=hp
 simp only at hi hk hv hinv
 rcases i with _|i
 ·subst hinv
  simp only [acq]
  have n1:=z0 l k 3 hl hk
  have hr1:=Qr (l:=l) (k:=k) (n:=3) (by omega) (by omega)
  have hk1:=QH (n:=3) hk
  generalize Qm l k 3 = w at *
  obtain ⟨j0,k1⟩:=w
  obtain ⟨j0,rfl⟩:∃ j:Nat,j0 = (j:Int):=⟨j0.toNat,by simp only at hr1;omega⟩
  simp only [QA,Int.toNat_natCast] at n1 hr1 hk1 ⊢
  refine zgo ?_;repeat' first|exact zt|apply zan|intro hc
  refine Qo (ι:=Nat×List QS×Nat) (fun p=>p.1≤2∧p.2.2≤l.length∧p.2.1.length + p.1≤2∧abi l p.1 p.2.1 p.2.2 = abi l j0 [] k1) (fun p=>WO l p.2.2 p.1 rs p.2.1) (fun p=>p.1) (j0,[],k1) ⟨(by show j0≤2;omega),hk1,(by show 0 + j0≤2;omega),rfl⟩ (Qe []) (Qg [] (by simp only [go_sem,zwl,QA,X3,WO,Xd,Ju]<;>exact zcc) (by simp only [go_sem,zwl,QA,X3,WO,Xd,Ju]<;>exact zcc) (by simp [Qe]) (by simp) (by omega)) fun p hp K' hL=>?_
  obtain ⟨j,ks,k2⟩:=p
  obtain ⟨hj,hk2,hv2,hinv2⟩:=hp
  simp only at hj hk2 hv2 hinv2
  rcases j with _|j
  ·rw [← hinv2]
   simp only [abi]
   refine zgo ?_;repeat' first|exact zt|apply zan|intro hc
   all_goals
    refine ash 5 6 (n:=rs.length) (m:=ks.length) _ rfl (by simp only [go_sem]) rfl rfl rfl (by decide) (by simp only [V.closed,Qd,and_self]) (by simp) (by simp)
  ·have z1:=z0 l k2 4 hl hk2
   have zr:=Qr (l:=l) (k:=k2) (n:=4) (by omega) (by omega)
   have zk:=QH (n:=4) hk2
   have ze:abi l (j + 1) ks k2 = abi l j (ks++[⟨1 + (Qm l k2 4).1,(ofD l (Qm l k2 4).2 apo).1⟩]) (ofD l (Qm l k2 4).2 apo).2:=rfl
   rw [ze] at hinv2
   generalize Qm l k2 4 = w at *
   obtain ⟨q,k3⟩:=w
   simp only at z1 zr zk hinv2
   have z2:=z4 l k3 apo hl zk (by decide) (by decide)
   have zk2:=qm (xs:=apo) zk
   generalize ofD l k3 apo = w at *
   obtain ⟨v,k4⟩:=w
   simp only [QA,apo,zL,zK] at z1 z2 zk2 hinv2
   have e1:decide (((j + 1:Nat):Int) > 0) = true:=zo (by omega)
   have ew:IntKind.i64.wrap (((j + 1:Nat):Int) - 1) = (j:Int):=by rw [QG (by omega) (by omega)];omega
   have ew2:IntKind.i64.wrap (1 + q) = 1 + q:=QG (by omega) (by omega)
   have hb:List.map QS.v ks++[.agg [V.int (1 + q),V.int v]] = (ks++[(⟨1 + q,v⟩:QS)]).map QS.v:=by rw [km];rfl
   have hln:ks.length + 1 = (ks++[(⟨1 + q,v⟩:QS)]).length:=by simp
   (have zx:=za e1 (za ew (za ew2 (za hb hln))));refine zgo ?_;repeat' first|exact zt|apply zan|intro hc
   all_goals first
    | exact hL _ (j,ks++[⟨1 + q,v⟩],k4) (Qe [(6,12007)]) ⟨by simp only;omega,zk2,by simp;omega,hinv2⟩ (by simp only;omega) (Qg [(6,12007)] (by simp only [go_sem,zwl,QA,X3,WO,Xd,Ju,Qj.cells]<;>exact zcc) (by simp only [go_sem,zwl,QA,X3,WO,Xd,Ju,Qj.cells]<;>exact zcc) (by simp [Qe]) (by simp;omega) (by omega))
    | (simp only [zq,List.length_singleton];omega)
 have e1:decide (((i + 1:Nat):Int) > 0) = true:=zo (by omega)
 have ew:IntKind.i64.wrap (((i + 1:Nat):Int) - 1) = (i:Int):=by rw [QG (by omega) (by omega)];omega
 have eg:acq l (i + 1) rs k = acq l i (rs++[(grD l k).1]) (grD l k).2:=rfl
 rw [eg] at hinv
 refine yH (ι:=Unit) (fun _=>True) (fun _=>X3 l k (i + 1:Nat) rs) (fun K' hK'=>?_) (fun _ _=>?_)
 ·(have zx:=e1);refine zgo ?_;repeat' first|exact zt|apply zan|intro hc
  all_goals exact hK' _ () (Qe []) trivial (Qg [] (by simp only [go_sem,zwl,QA,X3,WO,Xd,Ju,Qj.cells]<;>exact zcc) (by simp only [go_sem,zwl,QA,X3,WO,Xd,Ju,Qj.cells]<;>exact zcc) (by simp [Qe]) (by simp) (by omega))
 refine yH (ι:=Unit) (fun _=>True) (fun _=>X3 l (grD l k).2 (i + 1:Nat) (rs++[(grD l k).1])) (fun K' hK'=>?_) (fun _ _=>?_)
 case' refine_2 =>
  have hfin:=aqa l hk
  generalize grD l k = g at *
  (have zx:=ew);refine zgo ?_;repeat' first|exact zt|apply zan|intro hc
  all_goals first
   | exact hL _ (i,rs++[g.1],g.2) (Qe []) ⟨by simp only;omega,hfin.1,by simp;omega,hinv⟩ (by simp only;omega) (Qg [] (by simp only [go_sem,zwl,QA,X3,WO,Xd,Ju,Qj.cells]<;>exact zcc) (by simp only [go_sem,zwl,QA,X3,WO,Xd,Ju,Qj.cells]<;>exact zcc) (by simp [Qe]) (by simp) (by omega))
 refine air ?_
 have hg0:=anw l hk
 have eD:grD l k = gr4 l (gr3 l (gr2 l (gr1 l (gr0 l k)))):=rfl
 rw [eD] at hK'
 refine yH (ι:=Unit) (fun _=>True) (fun _=>Xd l (gr0 l k).2 (i + 1:Nat) rs (gr0 l k).1) (fun K2 hK2=>?_) (fun _ _=>?_)
 ·have o1:=z3 l k 3 hl hk (by omega) (by omega)
  have ok1:=QH (l:=l) (n:=3) hk
  have z2:=z4 l (Qm l k 3).2 al4 hl ok1 (by decide) (by decide)
  clear hK'
  simp only [gr0] at hK2
  generalize ofD l (Qm l k 3).2 al4 = w at *
  obtain ⟨v,k4⟩:=w
  generalize ((Qm l k 3).1 == 3 - 1) = q at *
  generalize (Qm l k 3).2 = k3 at *
  simp only [QA,al4,zL,zK] at o1 z2 hK2
  refine zgo ?_;repeat' first|exact zt|apply zan|intro hc
  all_goals exact hK2 _ () (Qe [(7,6007)]) trivial (Qg [(7,6007)] (by simp only [go_sem,zwl,QA,X3,WO,Xd,Ju,Qj.cells]<;>exact zcc) (by simp only [go_sem,zwl,QA,X3,WO,Xd,Ju,Qj.cells]<;>exact zcc) (by simp [Qe]) (by simp;omega) (by omega))
 clear hg0
 have hg0:=anw l hk
 generalize gr0 l k = g0 at *
 refine yH (ι:=Unit) (fun _=>True) (fun _=>Xd l (gr1 l g0).2 (i + 1:Nat) rs (gr1 l g0).1) (fun K' hK'=>?_) (fun _ _=>?_)
 ·have o1:=z3 l g0.2 2 hl (hg0.1.1) (by omega) (by omega)
  have ok1:=QH (l:=l) (n:=2) hg0.1.1
  obtain ⟨r,k1⟩:=g0
  obtain ⟨⟨a0,a1,a2,a3,a4,a5,a6,a7,a8,a9,a10⟩,at1⟩:=hg0
  simp only at o1 ok1 a0 a1 a2 a3 a4 a5 a6 a7 a8 a9 a10 at1 hK' ⊢
  rcases hq:((Qm l k1 2).1 == 2 - 1) with _|_
  ·have e:gr1 l (r,k1) = (r,(Qm l k1 2).2):=by rw [gr1,hq];rfl
   rw [hq] at o1
   simp only [e] at hK'
   clear e hq
   generalize (Qm l k1 2).2 = k2 at *
   simp only [QA] at o1
   refine zgo ?_;repeat' first|exact zt|apply zan|intro hc
   all_goals exact hK' _ () (Qe []) trivial (Qg [] (by simp only [go_sem,zwl,QA,X3,WO,Xd,Ju,Qj.cells]<;>exact zcc) (by simp only [go_sem,zwl,QA,X3,WO,Xd,Ju,Qj.cells]<;>exact zcc) (by simp [Qe]) (by simp) (by omega))
  ·have e:gr1 l (r,k1) = ({ r with below:=(ofD l (Qm l k1 2).2 apx).1 },(ofD l (Qm l k1 2).2 apx).2):=by rw [gr1,hq];rfl
   rw [hq] at o1
   simp only [e] at hK'
   clear e hq
   generalize (Qm l k1 2).2 = k2 at *
   have z2:=z4 l k2 apx hl ok1 (by decide) (by decide)
   have zm:=ql (l:=l) (k:=k2) (xs:=apx) (by decide) (by decide)
   generalize ofD l k2 apx = w at *
   obtain ⟨v,k4⟩:=w
   simp only [QA,apx,zL,zK] at o1 z2 hK'
   refine zgo ?_;repeat' first|exact zt|apply zan|intro hc
   all_goals exact hK' _ () (Qe []) trivial (Qg [] (by simp only [go_sem,zwl,QA,X3,WO,Xd,Ju,Qj.cells]<;>exact zcc) (by simp only [go_sem,zwl,QA,X3,WO,Xd,Ju,Qj.cells]<;>exact zcc) (by simp [Qe]) (by simp) (by omega))
 have hg1:=aqe l hg0
 generalize gr1 l g0 = g1 at *
 refine yH (ι:=Unit) (fun _=>True) (fun _=>Xd l (gr2 l g1).2 (i + 1:Nat) rs (gr2 l g1).1) (fun K' hK'=>?_) (fun _ _=>?_)
 ·have o1:=z3 l g1.2 3 hl (hg1.1.1) (by omega) (by omega)
  have ok1:=QH (l:=l) (n:=3) hg1.1.1
  obtain ⟨r,k1⟩:=g1
  obtain ⟨⟨a0,a1,a2,a3,a4,a5,a6,a7,a8,a9,a10⟩,at1⟩:=hg1
  simp only at o1 ok1 a0 a1 a2 a3 a4 a5 a6 a7 a8 a9 a10 at1 hK' ⊢
  rcases hq:((Qm l k1 3).1 == 3 - 1) with _|_
  ·have e:gr2 l (r,k1) = (r,(Qm l k1 3).2):=by rw [gr2,hq];rfl
   rw [hq] at o1
   simp only [e] at hK'
   clear e hq
   generalize (Qm l k1 3).2 = k2 at *
   simp only [QA] at o1
   refine zgo ?_;repeat' first|exact zt|apply zan|intro hc
   all_goals exact hK' _ () (Qe []) trivial (Qg [] (by simp only [go_sem,zwl,QA,X3,WO,Xd,Ju,Qj.cells]<;>exact zcc) (by simp only [go_sem,zwl,QA,X3,WO,Xd,Ju,Qj.cells]<;>exact zcc) (by simp [Qe]) (by simp) (by omega))
  ·have e:gr2 l (r,k1) = ({ r with purp:=1 + (Qm l (Qm l k1 3).2 4).1 },(Qm l (Qm l k1 3).2 4).2):=by rw [gr2,hq];rfl
   rw [hq] at o1
   simp only [e] at hK'
   clear e hq
   generalize (Qm l k1 3).2 = k2 at *
   have z2:=z0 l k2 4 hl ok1
   have zm:=Qr (l:=l) (k:=k2) (n:=4) (by omega) (by omega)
   generalize Qm l k2 4 = w at *
   obtain ⟨v,k4⟩:=w
   simp only [QA] at o1 z2 hK' zm
   have ew1:IntKind.i64.wrap (1 + v) = 1 + v:=QG (by omega) (by omega)
   (have zx:=ew1);refine zgo ?_;repeat' first|exact zt|apply zan|intro hc
   all_goals exact hK' _ () (Qe []) trivial (Qg [] (by simp only [go_sem,zwl,QA,X3,WO,Xd,Ju,Qj.cells]<;>exact zcc) (by simp only [go_sem,zwl,QA,X3,WO,Xd,Ju,Qj.cells]<;>exact zcc) (by simp [Qe]) (by simp) (by omega))
 have hg2:=aqd l hg1
 generalize gr2 l g1 = g2 at *
 refine yH (ι:=Unit) (fun _=>True) (fun _=>Xd l (gr3 l g2).2 (i + 1:Nat) rs (gr3 l g2).1) (fun K' hK'=>?_) (fun _ _=>?_)
 ·have o1:=z3 l g2.2 2 hl (hg2.1.1) (by omega) (by omega)
  have ok1:=QH (l:=l) (n:=2) hg2.1.1
  obtain ⟨r,k1⟩:=g2
  obtain ⟨⟨a0,a1,a2,a3,a4,a5,a6,a7,a8,a9,a10⟩,at1⟩:=hg2
  simp only at o1 ok1 a0 a1 a2 a3 a4 a5 a6 a7 a8 a9 a10 at1 hK' ⊢
  rcases hq:((Qm l k1 2).1 == 2 - 1) with _|_
  ·have e:gr3 l (r,k1) = (r,(Qm l k1 2).2):=by rw [gr3,hq];rfl
   rw [hq] at o1
   simp only [e] at hK'
   clear e hq
   generalize (Qm l k1 2).2 = k2 at *
   simp only [QA] at o1
   refine zgo ?_;repeat' first|exact zt|apply zan|intro hc
   all_goals exact hK' _ () (Qe []) trivial (Qg [] (by simp only [go_sem,zwl,QA,X3,WO,Xd,Ju,Qj.cells]<;>exact zcc) (by simp only [go_sem,zwl,QA,X3,WO,Xd,Ju,Qj.cells]<;>exact zcc) (by simp [Qe]) (by simp) (by omega))
  ·have e:gr3 l (r,k1) = ({ r with frm:=(ofD l (Qm l k1 2).2 ao9).1 },(ofD l (Qm l k1 2).2 ao9).2):=by rw [gr3,hq];rfl
   rw [hq] at o1
   simp only [e] at hK'
   clear e hq
   generalize (Qm l k1 2).2 = k2 at *
   have z2:=z4 l k2 ao9 hl ok1 (by decide) (by decide)
   have zm:=ql (l:=l) (k:=k2) (xs:=ao9) (by decide) (by decide)
   generalize ofD l k2 ao9 = w at *
   obtain ⟨v,k4⟩:=w
   simp only [QA,ao9,zL,zK] at o1 z2 hK'
   repeat' (first|(refine zsk ?_;intro K' hK)|(refine zrg ?_;intro K' hK)|refine zsp ?_|(refine zsc ?_ ?_<;>intro hc<;>first|exact znh|try simp only [znz] at hc)|simp (maxSteps:=1000000) only [go_sem,Ju,Xd,Qj.cells,QA]|(refine hK _ ?_;clear hK K')|apply zan|(apply UA;(focus exact rfl);(focus first|exact o1|exact z2|exact (z0 _ _ _ zsd zsd)|exact (z3 _ _ _ zsd zsd zsd zsd)|exact (z4 _ _ _ zsd zsd zsd zsd));(focus exact rfl);(focus exact rfl))|(apply WH;(focus exact rfl);(focus exact zrd);(focus exact zrd);(focus first|exact o1|exact z2|exact (z0 _ _ _ zsd zsd)|exact (z3 _ _ _ zsd zsd zsd zsd)|exact (z4 _ _ _ zsd zsd zsd zsd));(focus exact rfl);(focus exact rfl);(focus exact zrd))|exact zsq|fail)
   all_goals exact hK' _ () (Qe []) trivial (Qg [] (by simp only [go_sem,zwl,QA,X3,WO,Xd,Ju,Qj.cells]<;>exact zcc) (by simp only [go_sem,zwl,QA,X3,WO,Xd,Ju,Qj.cells]<;>exact zcc) (by simp [Qe]) (by simp) (by omega))
 have hg3:=aqc l hg2
 generalize gr3 l g2 = g3 at *
 refine yH (ι:=Unit) (fun _=>True) (fun _=>Xd l (gr4 l g3).2 (i + 1:Nat) rs (gr4 l g3).1) (fun K' hK'=>?_) (fun _ _=>?_)
 ·have o1:=z3 l g3.2 3 hl (hg3.1.1) (by omega) (by omega)
  have ok1:=QH (l:=l) (n:=3) hg3.1.1
  obtain ⟨r,k1⟩:=g3
  obtain ⟨⟨a0,a1,a2,a3,a4,a5,a6,a7,a8,a9,a10⟩,at1⟩:=hg3
  simp only at o1 ok1 a0 a1 a2 a3 a4 a5 a6 a7 a8 a9 a10 at1 hK' ⊢
  rcases hq:((Qm l k1 3).1 == 3 - 1) with _|_
  ·have e:gr4 l (r,k1) = (r,(Qm l k1 3).2):=by rw [gr4,hq];rfl
   rw [hq] at o1
   simp only [e] at hK'
   clear e hq
   generalize (Qm l k1 3).2 = k2 at *
   simp only [QA] at o1
   repeat' (first|(refine zsk ?_;intro K' hK)|(refine zrg ?_;intro K' hK)|refine zsp ?_|(refine zsc ?_ ?_<;>intro hc<;>first|exact znh|try simp only [znz] at hc)|simp (maxSteps:=1000000) only [go_sem,Ju,Xd,Qj.cells,QA]|(refine hK _ ?_;clear hK K')|apply zan|(apply UA;(focus exact rfl);(focus first|exact o1|exact (z0 _ _ _ zsd zsd)|exact (z3 _ _ _ zsd zsd zsd zsd)|exact (z4 _ _ _ zsd zsd zsd zsd));(focus exact rfl);(focus exact rfl))|(apply WH;(focus exact rfl);(focus exact zrd);(focus exact zrd);(focus first|exact o1|exact (z0 _ _ _ zsd zsd)|exact (z3 _ _ _ zsd zsd zsd zsd)|exact (z4 _ _ _ zsd zsd zsd zsd));(focus exact rfl);(focus exact rfl);(focus exact zrd))|exact zsq|fail)
   all_goals exact hK' _ () (Qe []) trivial (Qg [] (by simp only [go_sem,zwl,QA,X3,WO,Xd,Ju,Qj.cells]<;>exact zcc) (by simp only [go_sem,zwl,QA,X3,WO,Xd,Ju,Qj.cells]<;>exact zcc) (by simp [Qe]) (by simp) (by omega))
  ·have e:gr4 l (r,k1) = ({ r with til:=r.frm + (ofD l (Qm l k1 3).2 aom).1 },(ofD l (Qm l k1 3).2 aom).2):=by rw [gr4,hq];rfl
   rw [hq] at o1
   simp only [e] at hK'
   clear e hq
   generalize (Qm l k1 3).2 = k2 at *
   have z2:=z4 l k2 aom hl ok1 (by decide) (by decide)
   have zm:=ql (l:=l) (k:=k2) (xs:=aom) (by decide) (by decide)
   generalize ofD l k2 aom = w at *
   obtain ⟨v,k4⟩:=w
   simp only [QA,aom,zL,zK] at o1 z2 hK'
   have zr:=abf (a:=1) (b:=200) (by decide) zm
   have ew1:IntKind.i64.wrap (r.frm + v) = r.frm + v:=QG (by omega) (by omega)
   repeat' (first|(refine zsk ?_;intro K' hK)|(refine zrg ?_;intro K' hK)|refine zsp ?_|(refine zsc ?_ ?_<;>intro hc<;>first|exact znh|try simp only [znz] at hc)|simp (maxSteps:=1000000) only [go_sem,Ju,Xd,Qj.cells,QA,ew1]|(refine hK _ ?_;clear hK K')|apply zan|(apply UA;(focus exact rfl);(focus first|exact o1|exact z2|exact (z0 _ _ _ zsd zsd)|exact (z3 _ _ _ zsd zsd zsd zsd)|exact (z4 _ _ _ zsd zsd zsd zsd));(focus exact rfl);(focus exact rfl))|(apply WH;(focus exact rfl);(focus exact zrd);(focus exact zrd);(focus first|exact o1|exact z2|exact (z0 _ _ _ zsd zsd)|exact (z3 _ _ _ zsd zsd zsd zsd)|exact (z4 _ _ _ zsd zsd zsd zsd));(focus exact rfl);(focus exact rfl);(focus exact zrd))|exact zsq|fail)
   all_goals exact hK' _ () (Qe []) trivial (Qg [] (by simp only [go_sem,zwl,QA,X3,WO,Xd,Ju,Qj.cells]<;>exact zcc) (by simp only [go_sem,zwl,QA,X3,WO,Xd,Ju,Qj.cells]<;>exact zcc) (by simp [Qe]) (by simp) (by omega))
 have hg4:=aqb l hg3
 generalize gr4 l g3 = g4 at *
 obtain ⟨r,k1⟩:=g4
 obtain ⟨a,g,b,p,m,t⟩:=r
 simp only at hK'
 have hb:List.map Qj.v rs++[.agg [V.bool a,V.int g,V.int b,V.int p,V.int m,V.int t]] = (rs++[(⟨a,g,b,p,m,t⟩:Qj)]).map Qj.v:=by rw [km];rfl
 have hln:rs.length + 1 = (rs++[(⟨a,g,b,p,m,t⟩:Qj)]).length:=by simp
 repeat' (first|(refine zsk ?_;intro K' hK)|(refine zrg ?_;intro K' hK)|refine zsp ?_|(refine zsc ?_ ?_<;>intro hc<;>first|exact znh|try simp only [znz] at hc)|simp (maxSteps:=1000000) only [go_sem,Ju,Xd,Qj.cells,QA,amn,hb,hln]|(refine hK _ ?_;clear hK K')|apply zan|(apply UA;(focus exact rfl);(focus first|exact (z0 _ _ _ zsd zsd)|exact (z3 _ _ _ zsd zsd zsd zsd)|exact (z4 _ _ _ zsd zsd zsd zsd));(focus exact rfl);(focus exact rfl))|(apply WH;(focus exact rfl);(focus exact zrd);(focus exact zrd);(focus first|exact (z0 _ _ _ zsd zsd)|exact (z3 _ _ _ zsd zsd zsd zsd)|exact (z4 _ _ _ zsd zsd zsd zsd));(focus exact rfl);(focus exact rfl);(focus exact zrd))|exact zsq|fail)
 all_goals first
  | exact hK' _ () (Qe [(5,4008)]) trivial (Qg [(5,4008)] (by simp only [go_sem,zwl,QA,X3,WO,Xd,Ju,Qj.cells]<;>exact zcc) (by simp only [go_sem,zwl,QA,X3,WO,Xd,Ju,Qj.cells]<;>exact zcc) (by simp [Qe]) (by simp;omega) (by omega))
  | (simp only [zq,List.length_singleton];omega)
section
variable {C:Ctx} {nt:Nat} {s:St} {K:St→Prop} {E:Nat→St→Prop} {R:St→Prop}
theorem abA {k:List Nat} {a y:AC} {P:St→Prop} (h:AWp C nt a s P E R) (h':∀ s1,P s1→AWp C nt y (s1.keep k) K E R):AWp C nt (JN k a y) s K E R :=
 aaO (agM h h' (fun _ _ h=>h) (fun _ h=>h))
theorem apF {k1 k2 k3 k4 k5 k6 k7:List Nat} {a b c d e f g y:AC} {ι:Type} (good:ι→Prop) (mid:ι→St) (h:∀ K':St→Prop,(∀ s' i,good i→Cl C.m s' (mid i)→K' s')→AWp C nt a s (fun s1=>AWp C nt b (s1.keep k1) (fun s2=>AWp C nt c (s2.keep k2) (fun s3=>AWp C nt d (s3.keep k3) (fun s4=>AWp C nt e (s4.keep k4) (fun s5=>AWp C nt f (s5.keep k5) (fun s6=>AWp C nt g (s6.keep k6) K' E R) E R) E R) E R) E R) E R) E R) (h':∀ i,good i→AWp C nt y (mid i) K E R):AWp C nt (JN k1 a (JN k2 b (JN k3 c (JN k4 d (JN k5 e (JN k6 f (JN k7 g y))))))) s K E R :=
 abA (h (fun s'=>∃ i,good i∧Cl C.m s' (mid i)) fun s' i h1 h2=>⟨i,h1,h2⟩) fun _ h1=>abA h1 fun _ h2=>abA h2 fun _ h3=>abA h3 fun _ h4=>abA h4 fun _ h5=>abA h5 fun _ h6=>akS good mid h6 h'
theorem akT {k1:List Nat} {a y:AC} {ι:Type} (good:ι→Prop) (mid:ι→St) (h:∀ K':St→Prop,(∀ s' i,good i→Cl C.m s' (mid i)→K' s')→AWp C nt a s K' E R) (h':∀ i,good i→AWp C nt y (mid i) K E R):AWp C nt (JN k1 a y) s K E R :=
 akS good mid (h (fun s'=>∃ i,good i∧Cl C.m s' (mid i)) fun s' i h1 h2=>⟨i,h1,h2⟩) h'
end
theorem aqo {l:List Qa} {gap day age pu:Int} {rs:List Qj} {ks:List QS} (hq:∀ x∈l,JC x = true):amh l gap day age rs ks pu = afS l gap day age rs ks pu:=by
 rw [amh,afS]
 by_cases h1:JF l gap day age = 0
 ·rw [if_pos h1,if_pos h1]
  by_cases h2:Yl rs ks = 0
  ·rw [if_pos h2,if_pos h2]
   by_cases h3:pu < 1∨pu > 4
   ·rw [if_pos h3,if_pos h3]
   ·rw [if_neg h3,if_neg h3,aqn hq h2 (by omega) (j5.1 h1).d]
  ·rw [if_neg h2,if_neg h2]
 ·rw [if_neg h1,if_neg h1]
theorem ak1 (l:List Qa) (gap day age pu:Int) (rs:List Qj) (ks:List QS):∃ (w:List Qc) (e:Int),afS l gap day age rs ks pu = .tup [.sl 8 (w.map Qc.v),V.int e]∧w.length≤l.length * l.length:=by
 unfold afS
 split
 ·split
  ·split
   ·exact ⟨[],2,rfl,by simp⟩
   ·exact ⟨_,0,rfl,aoj ..⟩
  ·exact ⟨[],_,rfl,by simp⟩
 ·exact ⟨[],_,rfl,by simp⟩
theorem ajj (l:List Qa) (gap day age:Int) (f:Qc):∃ (u:Bool) (e:Int),q9 l gap day age f = .tup [V.bool u,V.int e]:=by
 unfold q9
 split
 ·exact ⟨_,_,rfl⟩
 ·exact ⟨_,_,rfl⟩
theorem alE (l:List Qa) (gap day age:Int) (f:Qc):∃ (s:List Int) (e:Int),aeL l gap day age f = .tup [.sl 1 (s.map V.int),V.int e]∧s.length≤l.length:=by
 have h:=akB (h:=alA l gap day age f) (l.length + 1) (List.range l.length)
 rw [← agf] at h
 have h2:=h.length_le
 rw [kU] at h2
 have e2:Qt (agf l gap day age f) = ((agf l gap day age f).map (fun n:Nat=>(n:Int))).map V.int:=by rw [List.map_map];rfl
 unfold aeL
 split
 ·split
  ·exact ⟨_,0,by rw [e2],by rw [zb];exact h2⟩
  ·exact ⟨[],4,rfl,by simp⟩
 ·exact ⟨[],_,rfl,by simp⟩
theorem anu {o:Nat→Option Ob} {br:List Nat} {a n sz:Nat} {xs:List V} (h:o a = some (.buf true sz xs)) (hb:a ∉ br) (hn:n = xs.length):conv o br none (.hd a 0 n) (.sl sz xs):=by
 subst hn
 rw [ajB]
 exact ⟨trivial,hb,.inl ⟨true,_,h,by rw [kK,zh (zj _)]⟩⟩
theorem adn (f:Qc):Qd f.cells:=by simp only [Qc.cells,V.closed,Qd,and_self]
structure EfP where
 x:List Qa
 gap:Int
 day:Int
 age:Int
 rs:List Qj
 ks:List QS
 pu:Int
 f:Qc
 k:Nat
structure EfG (l:List Int) (b:Nat) (p:EfP):Prop where
 ll:l.length≤400
 sz:∀ y∈p.x,y.Sz
 ck:∀ y∈p.x,JC y = true
 xl:p.x.length≤10
 rl:p.rs.length≤b
 kl:p.ks.length≤2
 k:p.k≤l.length
def efA (l:List Int) (c:Int) (f0:Qc) (p:EfP):St:=stL [(2,.sc (.int .u8 c)),(4,.ptr 0 0),(7,.ptr 1 0),(8,.hd 2 0 p.x.length),(9,V.int p.gap),(10,V.int p.day),(11,V.int p.age),(12,.ptr 3 0),(13,V.int p.pu),(14,.ptr 6 0)] [.box true f0.cells,.box true (QA l p.k),.buf true 11 (p.x.map Qa.v),.box true [.hd 4 0 p.rs.length,.hd 5 0 p.ks.length],.buf true 6 (p.rs.map Qj.v),.buf true 2 (p.ks.map QS.v),.box true p.f.cells]
def efC (p:EfP):St:=stL [(8,.sl 11 (p.x.map Qa.v)),(9,V.int p.gap),(10,V.int p.day),(11,V.int p.age),(12,.ptr 0 0),(13,V.int p.pu),(14,.ptr 1 0)] [.box true [.sl 6 (p.rs.map Qj.v),.sl 2 (p.ks.map QS.v)],.box true p.f.cells]
theorem akI {m:Nat} {s:St} {l:List Int} {c:Int} {f0:Qc} {p:EfP} (hm:m = 0) (a0 a1 a2 a3 a4 a5 a6:Nat) (h:s.t 2 = .sc (.int .u8 c)∧s.t 4 = .ptr a0 0∧s.t 7 = .ptr a1 0∧s.t 8 = .hd a2 0 p.x.length∧s.t 9 = V.int p.gap∧s.t 10 = V.int p.day∧s.t 11 = V.int p.age∧s.t 12 = .ptr a3 0∧s.t 13 = V.int p.pu∧s.t 14 = .ptr a6 0)
  (ho:s.o a0 = some (.box true f0.cells)∧s.o a1 = some (.box true (QA l p.k))∧s.o a2 = some (.buf true 11 (p.x.map Qa.v))∧s.o a3 = some (.box true [.hd a4 0 p.rs.length,.hd a5 0 p.ks.length])∧s.o a4 = some (.buf true 6 (p.rs.map Qj.v))∧s.o a5 = some (.buf true 2 (p.ks.map QS.v))∧s.o a6 = some (.box true p.f.cells)) (hn:[a0,a1,a2,a3,a4,a5,a6].Nodup):Cl m s (efA l c f0 p):=by
 obtain ⟨t2,t4,t7,t8,t9,t10,t11,t12,t13,t14⟩:=h
 obtain ⟨o0,o1,o2,o3,o4,o5,o6⟩:=ho
 simp only [Zr,zF,zM,or_false,not_or] at hn
 refine asq [a0,a1,a2,a3,a4,a5,a6] none (fun q hq=>?_) ?_ (by simp [hn]) (by rw [hm];rfl)
 ·simp only [zF,zM,or_false] at hq
  rcases hq with rfl|rfl|rfl|rfl|rfl|rfl|rfl|rfl|rfl|rfl<;>dsimp only
  ·rw [t2];exact YV _ _ _ _ trivial
  ·rw [t4];simp [conv]
  ·rw [t7];simp [conv]
  ·rw [t8];simp [conv]
  ·rw [t9];exact YV _ _ _ _ trivial
  ·rw [t10];exact YV _ _ _ _ trivial
  ·rw [t11];exact YV _ _ _ _ trivial
  ·rw [t12];simp [conv]
  ·rw [t13];exact YV _ _ _ _ trivial
  ·rw [t14];simp [conv]
 ·exact ⟨⟨_,o0,fun h=>h,Qw _ _ _ _ (adn _)⟩,⟨_,o1,fun h=>h,Qw _ _ _ _ (Xe _ _)⟩,⟨_,o2,fun h=>h,rfl,rfl⟩,⟨_,o3,fun h=>h,by simp [Jq,conv]⟩,⟨_,o4,fun h=>h,rfl,rfl⟩,⟨_,o5,fun h=>h,rfl,rfl⟩,⟨_,o6,fun h=>h,Qw _ _ _ _ (adn _)⟩,trivial⟩
theorem wS {m:Nat} {s:St} {p:EfP} (hm:m = 0) (b:Nat) (h:s.t 8 = .hd 2 0 p.x.length∧s.t 9 = V.int p.gap∧s.t 10 = V.int p.day∧s.t 11 = V.int p.age∧s.t 12 = .ptr 3 0∧s.t 13 = V.int p.pu∧s.t 14 = .ptr 6 0)
  (o2:s.o 2 = some (.buf true 11 (p.x.map Qa.v))) (o3:s.o 3 = some (.box true [.hd b 0 p.rs.length,.hd 5 0 p.ks.length])) (o4:s.o b = some (.buf true 6 (p.rs.map Qj.v))) (o5:s.o 5 = some (.buf true 2 (p.ks.map QS.v))) (o6:s.o 6 = some (.box true p.f.cells)) (hb:b ∉ [3,6]):Cl m s (efC p):=by
 obtain ⟨t8,t9,t10,t11,t12,t13,t14⟩:=h
 refine asq [3,6] none (fun q hq=>?_) ?_ (by simp) (by rw [hm];rfl)
 ·simp only [zF,zM,or_false] at hq
  rcases hq with rfl|rfl|rfl|rfl|rfl|rfl|rfl<;>dsimp only
  ·rw [t8];exact anu o2 (by simp) (by simp)
  ·rw [t9];exact YV _ _ _ _ trivial
  ·rw [t10];exact YV _ _ _ _ trivial
  ·rw [t11];exact YV _ _ _ _ trivial
  ·rw [t12];simp [conv]
  ·rw [t13];exact YV _ _ _ _ trivial
  ·rw [t14];simp [conv]
 ·exact ⟨⟨_,o3,fun h=>h,anu o4 hb (by simp),anu o5 (by simp) (by simp),trivial⟩,⟨_,o6,fun h=>h,Qw _ _ _ _ (adn _)⟩,trivial⟩
def Yp:=qd Proofs.Tryz.f3 [⟨fun y=>!decide (y = 2),[3,4,6,7,8,10],.one 0 (.one 1 (.one 2 (.one 5 (.or 3 (.or 4 (.one 6 (.one 7 (.one 8 (.one 9 (.one 10 (.one 11 (.done))))))) (.or 6 (.or 4 (.one 7 (.one 8 (.one 9 (.one 10 (.one 11 (.done)))))) (.or 7 (.one 4 (.one 8 (.one 9 (.one 10 (.one 11 (.done)))))) (.done))) (.done))) (.or 6 (.or 3 (.or 4 (.one 7 (.one 8 (.one 9 (.one 10 (.one 11 (.done)))))) (.or 7 (.one 4 (.one 8 (.one 9 (.one 10 (.one 11 (.done)))))) (.done))) (.or 7 (.one 3 (.one 4 (.one 8 (.one 9 (.one 10 (.one 11 (.done))))))) (.done))) (.done))))))⟩,⟨fun y=>!decide (y = 1) && !decide (y = 6),[12],zoc 0 15⟩]
def WX (Γ:Env) (f:Nat):Prop:=∀ (l:List Int) (f0:Qc) (hf1:f0.text.length < 2 ^ 60) (hf2:f0.subj.length < 2 ^ 60) (c:Int) (h0:0≤c) (h1:c≤255),EvN Γ f [.sl 1 (l.map V.int),f0.v,.sc (.int .u8 c)] (V.bool true)
attribute [local go_sem] zb QA in
theorem jE {Γ:Env} {f:Nat} (h:Has Γ.P f 224 Yp.1.1.ac Yp.1.2) (z0:xc Γ 6) (z1:jV Γ 7) (z2:wa Γ 8) (z3:Kr Γ 9) (z4:Jc Γ 10) (z5:Xw Γ 11) (z6:jU Γ 12) (z7:XP Γ 13) (z8:Vb Γ 14) (z9:yR Γ 15) (z10:WF Γ 16) (z11:jL Γ 17) (z12:Xm Γ 18) (z13:Kl Γ 19) (z14:yV Γ 20) (z15:WC Γ 21):WX Γ f:=by
 intro l f0 hf1 hf2 c h0 h1
 refine Qb h zsi zcl zcl fun C hC hm=>?_
 subst hC
 simp only [Yp,qd,DC.ac]
 have hm:C.m = 0:=by simpa using hm
 have aw:=(EvN.b z1)
 refine apF (ι:=EfP) (EfG l 6) (efA l c f0) (fun K' hK'=>?_) fun p hp=>?_
 ·have gL:=z0 l
  have hwt:IntKind.i64.wrap ((f0.text.length:Int) + (f0.subj.length:Int)) = ((f0.text.length + f0.subj.length:Nat):Int):=by rw [QG (by omega) (by omega)];omega
  have hws:IntKind.i64.wrap ((f0.subj.length:Int) + (f0.text.length:Int)) = ((f0.text.length + f0.subj.length:Nat):Int):=by rw [QG (by omega) (by omega)];omega
  by_cases hlen:l.length≤400
  rotate_left
  ·have e0:decide ((l.length:Int)≤400) = false:=by simp;omega
   rw [e0] at gL
   simp only [Qc.v,Qc.cells]
   (have zy0:=gL.b;have zx:=e0);refine zgo ?_;repeat' first|exact zt|apply zan|intro hc
   all_goals exact zr
  have e0:decide ((l.length:Int)≤400) = true:=by simp;omega
  rw [e0] at gL
  by_cases hs:f0.text.length + f0.subj.length≤100
  rotate_left
  ·have e1:decide (((f0.text.length + f0.subj.length:Nat):Int) > 100) = true:=zo (by omega)
   simp only [Qc.v,Qc.cells]
   (have zy0:=gL.b;have zx:=za e0 (za hwt (za hws e1)));refine zgo ?_;repeat' first|exact zt|apply zan|intro hc
   all_goals exact zr
  have e1:decide (((f0.text.length + f0.subj.length:Nat):Int) > 100) = false:=zp (by omega)
  have n1:=z2 l
  have n2:=z3 l 0 10 hlen (zH _) (by decide)
  obtain ⟨fS,fN,fl,k2⟩:=anI (l:=l) (k:=0) (most:=10) (zH _) (by decide)
  generalize aak l 0 10 = w at *
  obtain ⟨x,d1⟩:=w
  simp only at n2 fS fN fl k2
  have n3:=z4 l d1 5 hlen k2
  have k3:=QH (n:=5) k2
  generalize Qm l d1 5 = w at *
  obtain ⟨gap,d2⟩:=w
  simp only at n3 k3
  have n4:=z4 l d2 14 hlen k3
  have k4:=QH (n:=14) k3
  generalize Qm l d2 14 = w at *
  obtain ⟨day,d3⟩:=w
  simp only at n4 k4
  have n5:=z5 l d3 [100,4,0] hlen k4 (by decide) (by decide)
  have k5:=qm (xs:=[100,4,0]) k4
  generalize ofD l d3 [100,4,0] = w at *
  obtain ⟨age,d4⟩:=w
  simp only at n5 k5
  have n6:=z6 l d4 hlen k5
  have hR:=aj3 l k5
  have hK:=aow l k5
  generalize (ahr l d4).2 = d5 at *
  generalize (aab l d4).1 = rs at *
  generalize (ahr l d4).1 = ks at *
  obtain ⟨k6,_,l2⟩:=hK
  obtain ⟨_,_,l1⟩:=hR
  have n7:=z4 l d5 4 hlen k6
  have k7:=QH (n:=4) k6
  have r7:=Qr (l:=l) (k:=d5) (n:=4) (by omega) (by omega)
  generalize Qm l d5 4 = w at *
  obtain ⟨pu,d6⟩:=w
  simp only at n7 k7 r7
  have ep:IntKind.i64.wrap (1 + pu) = 1 + pu:=QG (by omega) (by omega)
  have n8:=z7 l d6 [[115],[116]] hlen k7 (by decide) (by decide)
  have k8:=qS (xs:=[[115],[116]]) k7
  generalize jA l d6 [[115],[116]] = w at *
  obtain ⟨w1,d7⟩:=w
  simp only at n8 k8
  have n9:=z5 l d7 [1,2] hlen k8 (by decide) (by decide)
  have k9:=qm (xs:=[1,2]) k8
  generalize ofD l d7 [1,2] = w at *
  obtain ⟨al,d8⟩:=w
  simp only at n9 k9
  have n10:=z7 l d8 [[],[97],[98]] hlen k9 (by decide) (by decide)
  have k10:=qS (xs:=[[],[97],[98]]) k9
  generalize jA l d8 [[],[97],[98]] = w at *
  obtain ⟨w2,d9⟩:=w
  simp only at n10 k10
  have fC:∀ y∈x,JC y = true:=((aad _).1 (by simp only [Y1,zw] at fN;exact fN.1)).1
  simp only [QA,zL,zK] at n1 n2 n3 n4 n5 n6 n7 n8 n9 n10
  simp only [Qc.v,Qc.cells]
  repeat' (first|(refine zsk ?_;intro K' hK)|(refine zrg ?_;intro K' hK)|refine zsp ?_|(refine zsc ?_ ?_<;>intro hc<;>first|exact znh|try simp only [znz] at hc)|simp (maxSteps:=1000000) only [go_sem,QA,e0,hwt,hws,e1,ep,zb]|(refine hK _ ?_;clear hK K')|apply zan|(apply arz;(focus exact rfl);(focus first|exact n2);(focus exact rfl);(focus (simp only [V.closed,Qd,and_self])))|(apply UA;(focus exact rfl);(focus first|exact n3|exact n4|exact n5|exact n7|exact n8|exact n9|exact n10|exact (z4 _ _ _ zsd zsd)|exact (z5 _ _ _ zsd zsd zsd zsd)|exact (z7 _ _ _ zsd zsd zsd zsd));(focus exact rfl);(focus exact rfl))|(apply WH;(focus exact rfl);(focus exact zrd);(focus exact zrd);(focus first|exact n3|exact n4|exact n5|exact n7|exact n8|exact n9|exact n10|exact (z4 _ _ _ zsd zsd)|exact (z5 _ _ _ zsd zsd zsd zsd)|exact (z7 _ _ _ zsd zsd zsd zsd));(focus exact rfl);(focus exact rfl);(focus exact zrd))|(apply jy;(focus first|exact n1|exact (z2 _)))|(apply Ki;(focus first|exact n1|exact (z2 _));(focus exact zrd))|(apply an8;(focus exact rfl);(focus first|exact n6);(focus exact rfl))|((first|apply QF|apply QC);(focus first|exact gL.b|exact (z0 _).b|exact EvN.b z1))|exact zsq|fail)
  all_goals
   exact hK' _ ⟨x,gap,day,age,rs,ks,1 + pu,⟨0,w1,1,al,0,0,w2,0⟩,d9⟩ ⟨hlen,fS,fC,by simpa using fl,by simp only;omega,by simp only;omega,k10⟩ (akI hm 0 16000 19000 30000 29000 29001 50000 ⟨rfl,rfl,rfl,rfl,rfl,rfl,rfl,rfl,rfl,rfl⟩ ⟨rfl,rfl,rfl,rfl,rfl,rfl,rfl⟩ (by decide))
 obtain ⟨x,gap,day,age,rs,ks,pu,f,k⟩:=p
 obtain ⟨hlen,fS,fC,xl,rl,kl,kle⟩:=hp
 simp only at fS fC xl rl kl kle
 refine akT (ι:=EfP) (EfG l 6) (efA l c f0) (fun K' hK'=>?_) fun p hp=>?_
 ·rcases x with _|⟨x0,xr⟩
  ·have ez:decide ((0:Int) > 0) = false:=by decide
   simp only [efA,stL,QA,zK,List.length_nil,Qc.cells]
   (have zx:=ez);refine zgo ?_;repeat' first|exact zt|apply zan|intro hc
   all_goals
    exact hK' _ ⟨[],gap,day,age,rs,ks,pu,f,k⟩ ⟨hlen,fS,fC,xl,rl,kl,kle⟩ (akI hm 0 1 2 3 4 5 6 ⟨rfl,rfl,rfl,rfl,rfl,rfl,rfl,rfl,rfl,rfl⟩ ⟨rfl,rfl,rfl,rfl,rfl,rfl,rfl⟩ (by decide))
  have hpos:1≤(x0 :: xr).length:=by simp
  generalize x0 :: xr = x at *
  have hxl:(x.map Qa.v).length = x.length:=zb _
  have ez:decide ((x.length:Int) > 0) = true:=zo (by omega)
  have n1:=z4 l k 4 hlen kle
  have k1:=QH (n:=4) kle
  have r1:=Qr (l:=l) (k:=k) (n:=4) (by omega) (by omega)
  generalize Qm l k 4 = w at *
  obtain ⟨a,d1⟩:=w
  simp only at n1 k1 r1
  by_cases ha:a > 0
  rotate_left
  ·have ea:decide (a > 0) = false:=zp ha
   simp only [QA] at n1
   simp only [efA,stL,QA,Qc.cells]
   (have zx:=za ez (za ea hxl));refine zgo ?_;repeat' first|exact zt|apply zan|intro hc
   all_goals
    exact hK' _ ⟨x,gap,day,age,rs,ks,pu,f,d1⟩ ⟨hlen,fS,fC,xl,rl,kl,k1⟩ (akI hm 0 1 2 3 4 5 6 ⟨rfl,rfl,rfl,rfl,rfl,rfl,rfl,rfl,rfl,rfl⟩ ⟨rfl,rfl,rfl,rfl,rfl,rfl,rfl⟩ (by decide))
  have ea:decide (a > 0) = true:=zo ha
  have n2:=z4 l d1 x.length hlen k1
  have k2:=QH (n:=(x.length:Int)) k1
  have r2:=Qr (l:=l) (k:=d1) (n:=(x.length:Int)) (by omega) (by omega)
  generalize Qm l d1 x.length = w at *
  obtain ⟨yi,d2⟩:=w
  simp only at n2 k2 r2
  obtain ⟨j,rfl⟩:∃ j:Nat,yi = j:=⟨yi.toNat,by omega⟩
  obtain ⟨y,hy⟩:∃ y,x[j]? = some y:=⟨_,zd (by omega)⟩
  have vy:(x.map Qa.v)[j]? = some y.v:=by rw [zf,hy];rfl
  have n3:=z7 l d2 [y.host,[],[99]] hlen k2 (by simp) (by simp)
  have k3:=qS (xs:=[y.host,[],[99]]) k2
  generalize jA l d2 [y.host,[],[99]] = w at *
  obtain ⟨t,d3⟩:=w
  simp only at n3 k3
  simp only [QA,zL,zK] at n1 n2 n3
  simp only [Qa.v,Qa.cells] at vy
  simp only [efA,stL,QA,Qc.cells]
  (have zx:=za ez (za ea (za hxl vy)));refine zgo ?_;repeat' first|exact zt|apply zan|intro hc
  all_goals
   exact hK' _ ⟨x,gap,day,age,rs,ks,pu,⟨0,y.subj,y.kind,y.alg,y.bits,y.num,t,0⟩,d3⟩ ⟨hlen,fS,fC,xl,rl,kl,k3⟩ (akI hm 0 1 2 3 4 5 6 ⟨rfl,rfl,rfl,rfl,rfl,rfl,rfl,rfl,rfl,rfl⟩ ⟨rfl,rfl,rfl,rfl,rfl,rfl,rfl⟩ (by decide))
 clear hlen fS fC xl rl kl kle
 obtain ⟨x,gap,day,age,rs,ks,pu,f,k⟩:=p
 obtain ⟨hlen,fS,fC,xl,rl,kl,kle⟩:=hp
 simp only at fS fC xl rl kl kle
 refine akT (ι:=EfP) (EfG l 7) efC (fun K' hK'=>?_) fun p hp=>?_
 ·have hm11:c.tmod 11 = c % 11:=Int.tmod_eq_emod_of_nonneg h0
  have d11:IntKind.u8.wrap (c % 11) = c % 11:=by unfold IntKind.wrap;simp [IntKind.signed,IntKind.bits];omega
  have n1:=z5 l k [-1,4001] hlen kle (by decide) (by decide)
  have k1:=qm (xs:=[-1,4001]) kle
  generalize ofD l k [-1,4001] = w at *
  obtain ⟨a,d1⟩:=w
  simp only at n1 k1
  simp only [QA,zL,zK] at n1
  have hr:c % 11 = 6∨c % 11 = 0∨c % 11 = 1∨c % 11 = 2∨c % 11 = 3∨c % 11 = 4∨c % 11 = 5∨c % 11 = 7∨c % 11 = 8∨c % 11 = 9∨c % 11 = 10:=by omega
  generalize c % 11 = r at hm11 d11 hr
  rcases hr with rfl|hr
  ·rcases x with _|⟨x0,_|⟨x1,xr⟩⟩
   ·have ez:decide ((0:Int) > 1) = false:=by decide
    simp only [efA,stL,QA,zK,List.length_nil,Qc.cells]
    (have zx:=za hm11 (za d11 ez));refine zgo ?_;repeat' first|exact zt|apply zan|intro hc
    all_goals
     exact hK' _ ⟨[],gap,day,age,rs,ks,pu,f,k⟩ ⟨hlen,fS,fC,xl,by simp only;omega,kl,kle⟩ (wS hm 4 ⟨rfl,rfl,rfl,rfl,rfl,rfl,rfl⟩ rfl rfl rfl rfl rfl (by decide))
   ·have ez:decide (((0 + 1:Nat):Int) > 1) = false:=by decide
    have ez2:decide ((1:Int) > 1) = false:=by decide
    simp only [efA,stL,QA,zL,zK,List.length_cons,List.length_nil,Qc.cells]
    (have zx:=za hm11 (za d11 (za ez ez2)));refine zgo ?_;repeat' first|exact zt|apply zan|intro hc
    all_goals
     exact hK' _ ⟨[x0],gap,day,age,rs,ks,pu,f,k⟩ ⟨hlen,fS,fC,xl,by simp only;omega,kl,kle⟩ (wS hm 4 ⟨rfl,rfl,rfl,rfl,rfl,rfl,rfl⟩ rfl rfl rfl rfl rfl (by decide))
   have ez:decide (((xr.length + 1 + 1:Nat):Int) > 1) = true:=zo (by omega)
   simp only [efA,stL,QA,zL,List.length_cons,Qc.cells,Qa.v,Qa.cells]
   repeat' (first|(refine zsk ?_;intro K' hK)|(refine zrg ?_;intro K' hK)|refine zsp ?_|(refine zsc ?_ ?_<;>intro hc<;>first|exact znh|try simp only [znz] at hc)|simp (maxSteps:=1000000) only [go_sem,hm11,d11,ez,zb]|(refine hK _ ?_;clear hK K')|apply zan|(apply UA;(focus exact rfl);(focus first|exact (z4 _ _ _ zsd zsd)|exact (z5 _ _ _ zsd zsd zsd zsd)|exact (z7 _ _ _ zsd zsd zsd zsd));(focus exact rfl);(focus exact rfl))|(apply WH;(focus exact rfl);(focus exact zrd);(focus exact zrd);(focus first|exact (z4 _ _ _ zsd zsd)|exact (z5 _ _ _ zsd zsd zsd zsd)|exact (z7 _ _ _ zsd zsd zsd zsd));(focus exact rfl);(focus exact rfl);(focus exact zrd))|(apply jy;(focus first|exact (z2 _)))|(apply Ki;(focus first|exact (z2 _));(focus exact zrd))|((first|apply QF|apply QC);(focus first|exact (z0 _).b|exact EvN.b z1))|exact zsq|fail)
   all_goals
    exact hK' _ ⟨x1 :: x0 :: xr,gap,day,age,rs,ks,pu,f,k⟩ ⟨hlen,by simpa [and_left_comm] using fS,by simpa [and_left_comm] using fC,by simpa using xl,by simp only;omega,kl,kle⟩ (wS hm 4 ⟨rfl,rfl,rfl,rfl,rfl,rfl,rfl⟩ rfl rfl rfl rfl rfl (by decide))
  simp only [efA,stL,QA,Qc.cells]
  rcases hr with rfl|rfl|rfl|rfl|rfl|rfl|hr
  ·(have zx:=za hm11 d11);refine zgo ?_;repeat' first|exact zt|apply zan|intro hc
   all_goals
    exact hK' _ ⟨x,gap,day,age,rs,ks,pu,f0,k⟩ ⟨hlen,fS,fC,xl,by simp only;omega,kl,kle⟩ (wS hm 4 ⟨rfl,rfl,rfl,rfl,rfl,rfl,rfl⟩ rfl rfl rfl rfl rfl (by decide))
  ·(have zx:=za hm11 d11);refine zgo ?_;repeat' first|exact zt|apply zan|intro hc
   all_goals
    exact hK' _ ⟨x,a,day,age,rs,ks,pu,f,d1⟩ ⟨hlen,fS,fC,xl,by simp only;omega,kl,k1⟩ (wS hm 4 ⟨rfl,rfl,rfl,rfl,rfl,rfl,rfl⟩ rfl rfl rfl rfl rfl (by decide))
  ·(have zx:=za hm11 d11);refine zgo ?_;repeat' first|exact zt|apply zan|intro hc
   all_goals
    exact hK' _ ⟨x,gap,-1,age,rs,ks,pu,f,k⟩ ⟨hlen,fS,fC,xl,by simp only;omega,kl,kle⟩ (wS hm 4 ⟨rfl,rfl,rfl,rfl,rfl,rfl,rfl⟩ rfl rfl rfl rfl rfl (by decide))
  ·(have zx:=za hm11 d11);refine zgo ?_;repeat' first|exact zt|apply zan|intro hc
   all_goals
    exact hK' _ ⟨x,gap,day,4001,rs,ks,pu,f,k⟩ ⟨hlen,fS,fC,xl,by simp only;omega,kl,kle⟩ (wS hm 4 ⟨rfl,rfl,rfl,rfl,rfl,rfl,rfl⟩ rfl rfl rfl rfl rfl (by decide))
  ·have hta:List.take rs.length (rs.map Qj.v) = rs.map Qj.v:=zh (by simp)
   (have zx:=za hm11 (za d11 hta));refine zgo ?_;repeat' first|exact zt|apply zan|intro hc
   all_goals
    exact hK' _ ⟨x,gap,day,age,rs++[⟨false,77,0,0,0,0⟩],ks,pu,f,k⟩ ⟨hlen,fS,fC,xl,by simp only [zq,List.length_singleton];omega,kl,kle⟩ (wS hm 16007 ⟨rfl,rfl,rfl,rfl,rfl,rfl,rfl⟩ rfl (by simp only [zq];rfl) (by rw [km];rfl) rfl rfl (by decide))
  ·(have zx:=za hm11 d11);refine zgo ?_;repeat' first|exact zt|apply zan|intro hc
   all_goals
    exact hK' _ ⟨x,gap,day,age,rs,ks,0,f,k⟩ ⟨hlen,fS,fC,xl,by simp only;omega,kl,kle⟩ (wS hm 4 ⟨rfl,rfl,rfl,rfl,rfl,rfl,rfl⟩ rfl rfl rfl rfl rfl (by decide))
  ·rcases hr with rfl|rfl|rfl|rfl
   all_goals
    (have zx:=za hm11 d11);refine zgo ?_;repeat' first|exact zt|apply zan|intro hc
    all_goals
     exact hK' _ ⟨x,gap,day,age,rs,ks,pu,f,k⟩ ⟨hlen,fS,fC,xl,by simp only;omega,kl,kle⟩ (wS hm 4 ⟨rfl,rfl,rfl,rfl,rfl,rfl,rfl⟩ rfl rfl rfl rfl rfl (by decide))
 clear hlen fS fC xl rl kl kle
 obtain ⟨x,gap,day,age,rs,ks,pu,f,k⟩:=p
 obtain ⟨hlen,fS,fC,xl,rl,kl,kle⟩:=hp
 simp only at fS fC xl rl kl kle
 have g1:=(z8 x gap day age rs ks pu (by omega) fS (by omega) (by omega)).b
 have g2:=(z9 x gap day age rs ks pu (by omega) fS fC (by omega) (by omega)).b
 have g3:=(z10 x gap day age f (by omega) fS).b
 have g4:=(z11 x gap day age f (by omega) fS fC).b
 have g5:=(z12 x gap day age f (by omega) fS).b
 have g6:=(z13 x gap day age f (by omega) fS fC).b
 rw [aqo fC] at g2
 obtain ⟨w,e1,ew,lw⟩:=ak1 x gap day age pu rs ks
 obtain ⟨u,e2,eh⟩:=ajj x gap day age f
 obtain ⟨s,e3,ee,ls⟩:=alE x gap day age f
 rw [ew] at g1 g2
 rw [eh] at g3 g4
 rw [ee] at g5 g6
 have hxx:x.length * x.length≤10 * 10:=Nat.mul_le_mul xl xl
 have g7:=(z14 w w (by omega) (by omega)).b
 have g8:=(z15 s s (by omega)).b
 rw [zo rfl] at g7
 rw [beq_self_eq_true] at g8
 clear ew eh ee lw ls
 simp only [Qc.v,Qc.cells] at g3 g4 g5 g6
 simp only [efC,stL,Qc.cells]
 rcases u with _|_
 all_goals
  repeat' (first|(refine zsk ?_;intro K' hK)|(refine zrg ?_;intro K' hK)|refine zsp ?_|(refine zsc ?_ ?_<;>intro hc<;>first|exact znh|try simp only [znz] at hc)|simp (maxSteps:=1000000) only [go_sem,beq_self_eq_true]|(refine hK _ ?_;clear hK K')|apply zan|(apply UA;(focus exact rfl);(focus first|exact (z4 _ _ _ zsd zsd)|exact (z5 _ _ _ zsd zsd zsd zsd)|exact (z7 _ _ _ zsd zsd zsd zsd));(focus exact rfl);(focus exact rfl))|(apply WH;(focus exact rfl);(focus exact zrd);(focus exact zrd);(focus first|exact (z4 _ _ _ zsd zsd)|exact (z5 _ _ _ zsd zsd zsd zsd)|exact (z7 _ _ _ zsd zsd zsd zsd));(focus exact rfl);(focus exact rfl);(focus exact zrd))|(apply jy;(focus first|exact (z2 _)))|(apply Ki;(focus first|exact (z2 _));(focus exact zrd))|((first|apply QF|apply QC);(focus first|exact g1|exact g2|exact g3|exact g4|exact g5|exact g6|exact g7|exact g8|exact aw|exact (z0 _).b|exact EvN.b z1))|exact zsq|fail)
  all_goals exact zr
end Av
end
