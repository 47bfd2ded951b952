/- K32 -/
import Derived.Test.YtjobognfgjobfaaGreatDoorK31
import Derived.Test.YtjobognfgjobfaaGreatDoorK12
import Derived.Test.YtjobognfgjobfaaGreatDoorK28
import Derived.Test.YtjobognfgjobfaaGreatDoorK15
import Derived.Test.YtjobognfgjobfaaGreatDoorK30
import Derived.Test.YtjobognfgjobfaaGreatDoorK21
import Derived.Test.YtjobognfgjobfaaGreatDoorK13
import Derived.Test.YtjobognfgjobfaaGreatDoorK29
set_option linter.unusedVariables false
set_option linter.unusedSimpArgs false
noncomputable section
set_option maxRecDepth 10000
set_option maxHeartbeats 4000000
namespace Av
open Go
attribute [local irreducible] AWp WC wb aai awS awC aeM awQ afz Jk qV aes awR jj awB okR aaf ris
theorem arh:vL [114,99,52] = ([1,2],0,0):=by decide +kernel
theorem av6:(acj feW).length = 4:=by decide +kernel
theorem atc:avv (adC [102,111,114,98,105,100,32,114,99,52,10]) = .tup [as2 [⟨false,14,0,0,0,40001⟩] [],V.int 0,V.int 0]:=by
 have h:adC [102,111,114,98,105,100,32,114,99,52,10] = ([⟨false,14,0,0,0,40001⟩],[],0,0):=by
  kernel_rfl
 rw [h];rfl
def UB:=qd Proofs.Tryz.f5 []
def jt (Γ:Env) (f:Nat):Prop:=EvN Γ f [] (V.bool true)
attribute [local go_sem] ln1 in
theorem afa {Γ:Env} {f:Nat} (h:Has Γ.P f 79 UB.1.1.ac UB.1.2) (z0:jx Γ 15) (z1:We Γ 16) (z2:aaM Γ 17) (z3:Vn Γ 18) (z4:WA Γ 19):jt Γ f:=by
 refine Qc h zsi zcl zcl fun C hC hm=>?_
 subst hC
 simp only [UB,qd,DC.ac]
 have hrun:aqB (alu [⟨[119,101,98],[115,117,105,116,101,115],[114,99,52],2⟩] [119,101,98]) ⟨[119,101,98],1,4,awN,false,false⟩ = some dW:=by
  have ho:alu [⟨[119,101,98],[115,117,105,116,101,115],[114,99,52],2⟩] [119,101,98] = [⟨[119,101,98],[115,117,105,116,101,115],[114,99,52],2⟩]:=rfl
  rw [ho,aqB,if_neg (by decide),aeu,if_neg (by decide),if_neg (by decide),if_pos rfl,arh]
  rfl
 have hf:=z1 [⟨[119,101,98],[115,117,105,116,101,115],[114,99,52],2⟩] [119,101,98] _ (by decide) (by decide +kernel) (by decide) (fun x hx=>by
  simp only [zw,zD,or_false] at hx
  subst hx;decide) (fun x hx=>by
  have hx:=(List.mem_filter.1 hx).1
  simp only [zw,zD,or_false] at hx
  subst hx;exact .inr (.inr (.inl rfl))) (by decide) hrun
 have g1:=z0.b
 have g2:=(z2 [102,111,114,98,105,100,32,114,99,52,10] (by decide)).b
 rw [atc] at g2
 have g3:=(z3 [⟨false,14,0,0,0,40001⟩] [] 14 128 1 3 (by decide) (by decide)).b
 rw [if_neg (by decide +kernel)] at g3
 have e3:aix [⟨false,14,0,0,0,40001⟩] 14 128 1 3 = false:=by decide +kernel
 rw [e3] at g3
 have g4:=z4.b
 have e4:=av6
 have e5:(((acj feW).map Qa.v).length:Int) = 4:=by rw [zb,e4];rfl
 rw [at3,if_pos (by decide)] at hf
 simp only [dW,Qv.ep,xh.v,xh.cells,zE,zH,as2,Ql.v,Ql.cells,xW,Qa.v,Qa.cells] at hf g1 g2 g3 g4
 have hf:=hf.b
 generalize aub [⟨false,14,0,0,0,40001⟩] 14 128 1 3 = dd at *
 (have zx:=e5);exact zg
abbrev GR:=Ql×Nat
def aqx:List Int:=[14,1,2,5,15,0,16,10,20,7]
def aup:List Int:=[2048,256,1024,3072,129]
def atZ:List Int:=[10,30,100,7]
def as8:List Int:=[20,1,200]
def auc:List Int:=[10,100,3000]
def gr0 (l:List Int) (k:Nat):GR:=(⟨(Qt l k 3).1 == 3 - 1,(ofD l (Qt l k 3).2 aqx).1,0,0,0,40001⟩,(ofD l (Qt l k 3).2 aqx).2)
def gr1 (l:List Int) (g:GR):GR:=if ((Qt l g.2 2).1 == 2 - 1) = true then ({ g.1 with below:=(ofD l (Qt l g.2 2).2 aup).1 },(ofD l (Qt l g.2 2).2 aup).2) else (g.1,(Qt l g.2 2).2)
def gr2 (l:List Int) (g:GR):GR:=if ((Qt l g.2 3).1 == 3 - 1) = true then ({ g.1 with purp:=1 + (Qt l (Qt l g.2 3).2 4).1 },(Qt l (Qt l g.2 3).2 4).2) else (g.1,(Qt l g.2 3).2)
def gr3 (l:List Int) (g:GR):GR:=if ((Qt l g.2 2).1 == 2 - 1) = true then ({ g.1 with frm:=(ofD l (Qt l g.2 2).2 atZ).1 },(ofD l (Qt l g.2 2).2 atZ).2) else (g.1,(Qt l g.2 2).2)
def gr4 (l:List Int) (g:GR):GR:=if ((Qt l g.2 3).1 == 3 - 1) = true then ({ g.1 with til:=g.1.frm + (ofD l (Qt l g.2 3).2 as8).1 },(ofD l (Qt l g.2 3).2 as8).2) else (g.1,(Qt l g.2 3).2)
def grD (l:List Int) (k:Nat):GR:=gr4 l (gr3 l (gr2 l (gr1 l (gr0 l k))))
def gkD (l:List Int) (k:Nat):Jg×Nat:=(⟨1 + (Qt l k 4).1,(ofD l (Qt l k 4).2 auc).1⟩,(ofD l (Qt l k 4).2 auc).2)
def agq (l:List Int):Nat→List Ql→Nat→List Ql×Nat
 | 0,rs,k=>(rs,k)
 | i + 1,rs,k=>agq l i (rs++[(grD l k).1]) (grD l k).2
def ae3 (l:List Int):Nat→List Jg→Nat→List Jg×Nat
 | 0,ks,k=>(ks,k)
 | i + 1,ks,k=>ae3 l i (ks++[(gkD l k).1]) (gkD l k).2
def adA (l:List Int) (k:Nat):List Ql×Nat:=agq l (Qt l k 7).1.toNat [] (Qt l k 7).2
def als (l:List Int) (k:Nat):List Jg×Nat:=ae3 l (Qt l (adA l k).2 3).1.toNat [] (Qt l (adA l k).2 3).2
def ar7 (l:List Int) (g:GR):Prop:=g.2≤l.length∧0≤g.1.alg∧g.1.alg≤22∧0≤g.1.below∧g.1.below≤16384∧0≤g.1.purp∧g.1.purp≤4∧0≤g.1.frm∧g.1.frm≤100∧g.1.frm < g.1.til∧g.1.til≤40001
theorem aeZ {xs:List Int} {a b x:Int} (h:xs.all (fun y=>decide (a≤y∧y≤b)) = true) (hx:x∈xs):a≤x∧x≤b:=zL (kN.1 h x hx)
theorem ar8 (l:List Int) {k:Nat} (hk:k≤l.length):ar7 l (gr0 l k)∧(gr0 l k).1.til = 40001:=by
 have h1:=aeZ (a:=0) (b:=22) (by decide) (xp (l:=l) (k:=(Qt l k 3).2) (xs:=aqx) (by decide) (by decide))
 exact ⟨⟨aaV (Q7 hk),h1.1,h1.2,by show (0:Int)≤0;omega,by show (0:Int)≤16384;omega,by show (0:Int)≤0;omega,by show (0:Int)≤4;omega,by show (0:Int)≤0;omega,by show (0:Int)≤100;omega,by show (0:Int) < 40001;omega,by show (40001:Int)≤40001;omega⟩,rfl⟩
theorem au1 (l:List Int) {g:GR} (h:ar7 l g∧g.1.til = 40001):ar7 l (gr1 l g)∧(gr1 l g).1.til = 40001:=by
 obtain ⟨⟨a0,a1,a2,a3,a4,a5,a6,a7,a8,a9,a10⟩,at1⟩:=h
 have h1:=aeZ (a:=0) (b:=16384) (by decide) (xp (l:=l) (k:=(Qt l g.2 2).2) (xs:=aup) (by decide) (by decide))
 rw [gr1];split
 ·exact ⟨⟨aaV (Q7 a0),a1,a2,h1.1,h1.2,a5,a6,a7,a8,a9,a10⟩,at1⟩
 ·exact ⟨⟨Q7 a0,a1,a2,a3,a4,a5,a6,a7,a8,a9,a10⟩,at1⟩
theorem au0 (l:List Int) {g:GR} (h:ar7 l g∧g.1.til = 40001):ar7 l (gr2 l g)∧(gr2 l g).1.til = 40001:=by
 obtain ⟨⟨a0,a1,a2,a3,a4,a5,a6,a7,a8,a9,a10⟩,at1⟩:=h
 have h1:=Qz (l:=l) (k:=(Qt l g.2 3).2) (n:=4) (by omega) (by omega)
 rw [gr2];split
 ·exact ⟨⟨Q7 (Q7 a0),a1,a2,a3,a4,by show 0≤1 + _;omega,by show 1 + _≤(4:Int);omega,a7,a8,a9,a10⟩,at1⟩
 ·exact ⟨⟨Q7 a0,a1,a2,a3,a4,a5,a6,a7,a8,a9,a10⟩,at1⟩
theorem auZ (l:List Int) {g:GR} (h:ar7 l g∧g.1.til = 40001):ar7 l (gr3 l g)∧(gr3 l g).1.til = 40001:=by
 obtain ⟨⟨a0,a1,a2,a3,a4,a5,a6,a7,a8,a9,a10⟩,at1⟩:=h
 have h1:=aeZ (a:=0) (b:=100) (by decide) (xp (l:=l) (k:=(Qt l g.2 2).2) (xs:=atZ) (by decide) (by decide))
 rw [gr3];split
 ·exact ⟨⟨aaV (Q7 a0),a1,a2,a3,a4,a5,a6,h1.1,h1.2,by show _ < g.1.til;simp only;omega,a10⟩,at1⟩
 ·exact ⟨⟨Q7 a0,a1,a2,a3,a4,a5,a6,a7,a8,a9,a10⟩,at1⟩
theorem auY (l:List Int) {g:GR} (h:ar7 l g∧g.1.til = 40001):ar7 l (gr4 l g):=by
 obtain ⟨⟨a0,a1,a2,a3,a4,a5,a6,a7,a8,a9,a10⟩,at1⟩:=h
 have h1:=aeZ (a:=1) (b:=200) (by decide) (xp (l:=l) (k:=(Qt l g.2 3).2) (xs:=as8) (by decide) (by decide))
 rw [gr4];split
 ·exact ⟨aaV (Q7 a0),a1,a2,a3,a4,a5,a6,a7,a8,by show g.1.frm < g.1.frm + _;omega,by show g.1.frm + _≤(40001:Int);omega⟩
 ·exact ⟨Q7 a0,a1,a2,a3,a4,a5,a6,a7,a8,a9,a10⟩
theorem auX (l:List Int) {k:Nat} (hk:k≤l.length):ar7 l (grD l k):=auY l (auZ l (au0 l (au1 l (ar8 l hk))))
theorem apW {l:List Int} {g:GR} (h:ar7 l g):Xu g.1 = true:=by
 obtain ⟨a0,a1,a2,a3,a4,a5,a6,a7,a8,a9,a10⟩:=h
 simp [Xu, *]
theorem axA (l:List Int) {k:Nat} (hk:k≤l.length):(gkD l k).2≤l.length∧vP (gkD l k).1 = true:=by
 have h1:=aeZ (a:=0) (b:=40000) (by decide) (xp (l:=l) (k:=(Qt l k 4).2) (xs:=auc) (by decide) (by decide))
 have h2:=Qz (l:=l) (k:=k) (n:=4) (by omega) (by omega)
 refine ⟨aaV (Q7 hk),?_⟩
 have b1:1≤(gkD l k).1.purp:=by show 1≤1 + _;omega
 have b2:(gkD l k).1.purp≤4:=by show 1 + _≤(4:Int);omega
 have b3:0≤(gkD l k).1.days:=h1.1
 have b4:(gkD l k).1.days≤40000:=h1.2
 simp [vP, *]
theorem aok (l:List Int):∀ (i:Nat) (rs:List Ql) (k:Nat),k≤l.length→rs.all Xu = true→(agq l i rs k).2≤l.length∧(agq l i rs k).1.all Xu = true∧(agq l i rs k).1.length = rs.length + i
 | 0,rs,k,h,h2=>⟨h,h2,rfl⟩
 | i + 1,rs,k,h,h2=>by
   have g:=auX l h
   have:=aok l i (rs++[(grD l k).1]) (grD l k).2 g.1 (by simp [h2,apW g])
   simp only [zv,List.length_singleton] at this
   exact ⟨this.1,this.2.1,by rw [agq,this.2.2];omega⟩
theorem aoz (l:List Int):∀ (i:Nat) (ks:List Jg) (k:Nat),k≤l.length→ks.all vP = true→(ae3 l i ks k).2≤l.length∧(ae3 l i ks k).1.all vP = true∧(ae3 l i ks k).1.length = ks.length + i
 | 0,ks,k,h,h2=>⟨h,h2,rfl⟩
 | i + 1,ks,k,h,h2=>by
   have g:=axA l h
   have:=aoz l i (ks++[(gkD l k).1]) (gkD l k).2 g.1 (by simp [h2,g.2])
   simp only [zv,List.length_singleton] at this
   exact ⟨this.1,this.2.1,by rw [ae3,this.2.2];omega⟩
theorem aoj (l:List Int) {k:Nat} (hk:k≤l.length):(adA l k).2≤l.length∧(adA l k).1.all Xu = true∧(adA l k).1.length≤6:=by
 have h1:=Qz (l:=l) (k:=k) (n:=7) (by omega) (by omega)
 obtain ⟨a,b,c⟩:=aok l (Qt l k 7).1.toNat [] (Qt l k 7).2 (Q7 hk) rfl
 simp only [List.length_nil] at c
 exact ⟨a,b,by show (agq l _ _ _).1.length≤6;omega⟩
theorem atf (l:List Int) {k:Nat} (hk:k≤l.length):(als l k).2≤l.length∧(als l k).1.all vP = true∧(als l k).1.length≤2:=by
 have h0:=(aoj l hk).1
 have h1:=Qz (l:=l) (k:=(adA l k).2) (n:=3) (by omega) (by omega)
 obtain ⟨a,b,c⟩:=aoz l (Qt l (adA l k).2 3).1.toNat [] (Qt l (adA l k).2 3).2 (Q7 h0) rfl
 simp only [List.length_nil] at c
 exact ⟨a,b,by show (ae3 l _ _ _).1.length≤2;omega⟩
def VA (l:List Int) (k:Nat) (i:Int) (rs:List Ql):St:=QS [(0,.ptr 0 0),(2,.ptr 1 0),(3,.ptr 4 0),(4,V.int i)] [(0,.box true (Q1 l k)),(1,.box true [.hd 2 0 0,.hd 3 0 0]),(2,.buf true 6 []),(3,.buf true 2 []),(4,.box true [.hd 5 0 rs.length,.hd 6 0 0]),(5,.buf true 6 (rs.map Ql.v)),(6,.buf true 2 [])] 7
def Wh (l:List Int) (k:Nat) (i:Int) (rs:List Ql) (r:Ql):St:=QS [(0,.ptr 0 0),(2,.ptr 1 0),(3,.ptr 4 0),(4,V.int i),(5,.ptr 7 0)] [(0,.box true (Q1 l k)),(1,.box true [.hd 2 0 0,.hd 3 0 0]),(2,.buf true 6 []),(3,.buf true 2 []),(4,.box true [.hd 5 0 rs.length,.hd 6 0 0]),(5,.buf true 6 (rs.map Ql.v)),(6,.buf true 2 []),(7,.box true r.cells)] 8
def Uv (l:List Int) (k:Nat) (i:Int) (rs:List Ql) (ks:List Jg):St:=QS [(0,.ptr 0 0),(2,.ptr 1 0),(3,.ptr 4 0),(6,V.int i)] [(0,.box true (Q1 l k)),(1,.box true [.hd 2 0 0,.hd 3 0 0]),(2,.buf true 6 []),(3,.buf true 2 []),(4,.box true [.hd 5 0 rs.length,.hd 6 0 ks.length]),(5,.buf true 6 (rs.map Ql.v)),(6,.buf true 2 (ks.map Jg.v))] 7
def xd:=qd Proofs.Tryz.f9 [⟨fun _=>false,[1,3,7],.one 0 (.one 2 (.one 5 (.one 6 (.or 1 (.one 3 (.one 4 (.one 7 (.one 8 (.one 9 (.one 10 (.one 11 (.one 12 (.done))))))))) (.or 3 (.one 4 (.or 1 (.one 7 (.one 8 (.one 9 (.one 10 (.one 11 (.one 12 (.done))))))) (.or 7 (.one 1 (.one 8 (.one 9 (.one 10 (.one 11 (.one 12 (.done))))))) (.done)))) (.done))))))⟩,⟨fun _=>false,[1,4],.one 0 (.one 2 (.one 3 (.or 1 (.one 4 (.one 5 (.one 6 (.one 7 (.done))))) (.or 4 (.one 1 (.one 5 (.one 6 (.one 7 (.done))))) (.done)))))⟩]
def vG (Γ:Env) (f:Nat):Prop:=∀ (l:List Int) (k:Nat) (hl:l.length≤400) (hk:k≤l.length),EvO Γ f [] (Q1 l k) 6 2 ((adA l k).1.map Ql.v) ((als l k).1.map Jg.v) (Q1 l (als l k).2)
attribute [local go_sem] Ql.cells Q1 QS VA Wh Uv aeO in
theorem aiY {Γ:Env} {f:Nat} (h:Has Γ.P f 71 xd.1.1.ac xd.1.2) (z0:JH Γ 8) (z3:jA Γ 23) (z4:UX Γ 24):vG Γ f:=by
 intro l k hl hk
 refine anE h (by simp) (by first|exact QG _ _|simp only [V.closed,Qb,and_self,and_true,true_and]) (by first|exact QG _ _|simp only [V.closed,Qb,and_self,and_true,true_and]) (by simp only [V.closed,Qb,and_self,and_true,true_and]) fun C hC hm=>?_
 subst hC
 simp only [xd,qd,DC.ac]
 have n0:=z0 l k 7 hl hk
 have hr0:=Qz (l:=l) (k:=k) (n:=7) (by omega) (by omega)
 have hk0:=Q7 (n:=7) hk
 have eR:adA l k = agq l (Qt l k 7).1.toNat [] (Qt l k 7).2:=rfl
 have eK:als l k = ae3 l (Qt l (adA l k).2 3).1.toNat [] (Qt l (adA l k).2 3).2:=rfl
 rw [eK]
 generalize adA l k = P at *
 generalize Qt l k 7 = u at *
 obtain ⟨i0,k0⟩:=u
 obtain ⟨i0,rfl⟩:∃ j:Nat,i0 = (j:Int):=⟨i0.toNat,by simp only at hr0;omega⟩
 simp only [Q1,Int.toNat_natCast] at n0 hr0 hk0 eR ⊢
 refine zgo ?_;repeat' first|exact zt|apply zan|intro hc
 refine Qj (ι:=Nat×List Ql×Nat) (fun p=>p.1≤6∧p.2.2≤l.length∧p.2.1.length + p.1≤6∧agq l p.1 p.2.1 p.2.2 = P) (fun p=>VA l p.2.2 p.1 p.2.1) (fun p=>p.1) (i0,[],k0) ⟨(by show i0≤6;omega),hk0,(by show 0 + i0≤6;omega),eR.symm⟩ (Qd [(4,1001),(5,1002),(6,1003)]) (Qh [(4,1001),(5,1002),(6,1003)] (by simp only [go_sem,zwl,Q1,VA,Uv,Wh,QS]<;>exact zcc) (by simp only [go_sem,zwl,Q1,VA,Uv,Wh,QS]<;>exact zcc) (by simp [Qd]) (by simp;omega) (by omega)) fun p hp K' hL=>?_
 obtain ⟨i,rs,k⟩:=p
 obtain ⟨hi,hk,hv,hinv⟩:=hp
 simp only at hi hk hv hinv
 rcases i with _|i
 ·subst hinv
  simp only [agq]
  have n1:=z0 l k 3 hl hk
  have hr1:=Qz (l:=l) (k:=k) (n:=3) (by omega) (by omega)
  have hk1:=Q7 (n:=3) hk
  generalize Qt l k 3 = w at *
  obtain ⟨j0,k1⟩:=w
  obtain ⟨j0,rfl⟩:∃ j:Nat,j0 = (j:Int):=⟨j0.toNat,by simp only at hr1;omega⟩
  simp only [Q1,Int.toNat_natCast] at n1 hr1 hk1 ⊢
  refine zgo ?_;repeat' first|exact zt|apply zan|intro hc
  refine Qj (ι:=Nat×List Jg×Nat) (fun p=>p.1≤2∧p.2.2≤l.length∧p.2.1.length + p.1≤2∧ae3 l p.1 p.2.1 p.2.2 = ae3 l j0 [] k1) (fun p=>Uv l p.2.2 p.1 rs p.2.1) (fun p=>p.1) (j0,[],k1) ⟨(by show j0≤2;omega),hk1,(by show 0 + j0≤2;omega),rfl⟩ (Qd []) (Qh [] (by simp only [go_sem,zwl,Q1,VA,Uv,Wh,QS]<;>exact zcc) (by simp only [go_sem,zwl,Q1,VA,Uv,Wh,QS]<;>exact zcc) (by simp [Qd]) (by simp) (by omega)) fun p hp K' hL=>?_
  obtain ⟨j,ks,k2⟩:=p
  obtain ⟨hj,hk2,hv2,hinv2⟩:=hp
  simp only at hj hk2 hv2 hinv2
  rcases j with _|j
  ·rw [← hinv2]
   simp only [ae3]
   refine zgo ?_;repeat' first|exact zt|apply zan|intro hc
   all_goals
    refine axC 5 6 (n:=rs.length) (m:=ks.length) _ rfl (by simp only [go_sem]) rfl rfl rfl (by decide) (by simp only [V.closed,Qb,and_self]) (by simp) (by simp)
  ·have z1:=z0 l k2 4 hl hk2
   have zr:=Qz (l:=l) (k:=k2) (n:=4) (by omega) (by omega)
   have zk:=Q7 (n:=4) hk2
   have ze:ae3 l (j + 1) ks k2 = ae3 l j (ks++[⟨1 + (Qt l k2 4).1,(ofD l (Qt l k2 4).2 auc).1⟩]) (ofD l (Qt l k2 4).2 auc).2:=rfl
   rw [ze] at hinv2
   generalize Qt l k2 4 = w at *
   obtain ⟨q,k3⟩:=w
   simp only at z1 zr zk hinv2
   have z2:=z4 l k3 auc hl zk (by decide) (by decide)
   have zk2:=aaV (xs:=auc) zk
   generalize ofD l k3 auc = w at *
   obtain ⟨v,k4⟩:=w
   simp only [Q1,auc,zE,zH] at z1 z2 zk2 hinv2
   have e1:decide (((j + 1:Nat):Int) > 0) = true:=zn (by omega)
   have ew:IntKind.i64.wrap (((j + 1:Nat):Int) - 1) = (j:Int):=by rw [Jc (by omega) (by omega)];omega
   have ew2:IntKind.i64.wrap (1 + q) = 1 + q:=Jc (by omega) (by omega)
   have hb:List.map Jg.v ks++[.agg [V.int (1 + q),V.int v]] = (ks++[(⟨1 + q,v⟩:Jg)]).map Jg.v:=by rw [kj];rfl
   have hln:ks.length + 1 = (ks++[(⟨1 + q,v⟩:Jg)]).length:=by simp
   (have zx:=za e1 (za ew (za ew2 (za hb hln))));refine zgo ?_;repeat' first|exact zt|apply zan|intro hc
   all_goals first
    | exact hL _ (j,ks++[⟨1 + q,v⟩],k4) (Qd [(6,12007)]) ⟨by simp only;omega,zk2,by simp;omega,hinv2⟩ (by simp only;omega) (Qh [(6,12007)] (by simp only [go_sem,zwl,Q1,VA,Uv,Wh,QS,Ql.cells]<;>exact zcc) (by simp only [go_sem,zwl,Q1,VA,Uv,Wh,QS,Ql.cells]<;>exact zcc) (by simp [Qd]) (by simp;omega) (by omega))
    | (simp only [zv,List.length_singleton];omega)
 have e1:decide (((i + 1:Nat):Int) > 0) = true:=zn (by omega)
 have ew:IntKind.i64.wrap (((i + 1:Nat):Int) - 1) = (i:Int):=by rw [Jc (by omega) (by omega)];omega
 have eg:agq l (i + 1) rs k = agq l i (rs++[(grD l k).1]) (grD l k).2:=rfl
 rw [eg] at hinv
 refine KZ (ι:=Unit) (fun _=>True) (fun _=>VA l k (i + 1:Nat) rs) (fun K' hK'=>?_) (fun _ _=>?_)
 ·(have zx:=e1);refine zgo ?_;repeat' first|exact zt|apply zan|intro hc
  all_goals exact hK' _ () (Qd []) trivial (Qh [] (by simp only [go_sem,zwl,Q1,VA,Uv,Wh,QS,Ql.cells]<;>exact zcc) (by simp only [go_sem,zwl,Q1,VA,Uv,Wh,QS,Ql.cells]<;>exact zcc) (by simp [Qd]) (by simp) (by omega))
 refine KZ (ι:=Unit) (fun _=>True) (fun _=>VA l (grD l k).2 (i + 1:Nat) (rs++[(grD l k).1])) (fun K' hK'=>?_) (fun _ _=>?_)
 case' refine_2 =>
  have hfin:=auX l hk
  generalize grD l k = g at *
  (have zx:=ew);refine zgo ?_;repeat' first|exact zt|apply zan|intro hc
  all_goals first
   | exact hL _ (i,rs++[g.1],g.2) (Qd []) ⟨by simp only;omega,hfin.1,by simp;omega,hinv⟩ (by simp only;omega) (Qh [] (by simp only [go_sem,zwl,Q1,VA,Uv,Wh,QS,Ql.cells]<;>exact zcc) (by simp only [go_sem,zwl,Q1,VA,Uv,Wh,QS,Ql.cells]<;>exact zcc) (by simp [Qd]) (by simp) (by omega))
 refine amy ?_
 have hg0:=ar8 l hk
 have eD:grD l k = gr4 l (gr3 l (gr2 l (gr1 l (gr0 l k)))):=rfl
 rw [eD] at hK'
 refine KZ (ι:=Unit) (fun _=>True) (fun _=>Wh l (gr0 l k).2 (i + 1:Nat) rs (gr0 l k).1) (fun K2 hK2=>?_) (fun _ _=>?_)
 ·have o1:=z3 l k 3 hl hk (by omega) (by omega)
  have ok1:=Q7 (l:=l) (n:=3) hk
  have z2:=z4 l (Qt l k 3).2 aqx hl ok1 (by decide) (by decide)
  clear hK'
  simp only [gr0] at hK2
  generalize ofD l (Qt l k 3).2 aqx = w at *
  obtain ⟨v,k4⟩:=w
  generalize ((Qt l k 3).1 == 3 - 1) = q at *
  generalize (Qt l k 3).2 = k3 at *
  simp only [Q1,aqx,zE,zH] at o1 z2 hK2
  refine zgo ?_;repeat' first|exact zt|apply zan|intro hc
  all_goals exact hK2 _ () (Qd [(7,6007)]) trivial (Qh [(7,6007)] (by simp only [go_sem,zwl,Q1,VA,Uv,Wh,QS,Ql.cells]<;>exact zcc) (by simp only [go_sem,zwl,Q1,VA,Uv,Wh,QS,Ql.cells]<;>exact zcc) (by simp [Qd]) (by simp;omega) (by omega))
 clear hg0
 have hg0:=ar8 l hk
 generalize gr0 l k = g0 at *
 refine KZ (ι:=Unit) (fun _=>True) (fun _=>Wh l (gr1 l g0).2 (i + 1:Nat) rs (gr1 l g0).1) (fun K' hK'=>?_) (fun _ _=>?_)
 ·have o1:=z3 l g0.2 2 hl (hg0.1.1) (by omega) (by omega)
  have ok1:=Q7 (l:=l) (n:=2) hg0.1.1
  obtain ⟨r,k1⟩:=g0
  obtain ⟨⟨a0,a1,a2,a3,a4,a5,a6,a7,a8,a9,a10⟩,at1⟩:=hg0
  simp only at o1 ok1 a0 a1 a2 a3 a4 a5 a6 a7 a8 a9 a10 at1 hK' ⊢
  rcases hq:((Qt l k1 2).1 == 2 - 1) with _|_
  ·have e:gr1 l (r,k1) = (r,(Qt l k1 2).2):=by rw [gr1,hq];rfl
   rw [hq] at o1
   simp only [e] at hK'
   clear e hq
   generalize (Qt l k1 2).2 = k2 at *
   simp only [Q1] at o1
   refine zgo ?_;repeat' first|exact zt|apply zan|intro hc
   all_goals exact hK' _ () (Qd []) trivial (Qh [] (by simp only [go_sem,zwl,Q1,VA,Uv,Wh,QS,Ql.cells]<;>exact zcc) (by simp only [go_sem,zwl,Q1,VA,Uv,Wh,QS,Ql.cells]<;>exact zcc) (by simp [Qd]) (by simp) (by omega))
  ·have e:gr1 l (r,k1) = ({ r with below:=(ofD l (Qt l k1 2).2 aup).1 },(ofD l (Qt l k1 2).2 aup).2):=by rw [gr1,hq];rfl
   rw [hq] at o1
   simp only [e] at hK'
   clear e hq
   generalize (Qt l k1 2).2 = k2 at *
   have z2:=z4 l k2 aup hl ok1 (by decide) (by decide)
   have zm:=xp (l:=l) (k:=k2) (xs:=aup) (by decide) (by decide)
   generalize ofD l k2 aup = w at *
   obtain ⟨v,k4⟩:=w
   simp only [Q1,aup,zE,zH] at o1 z2 hK'
   refine zgo ?_;repeat' first|exact zt|apply zan|intro hc
   all_goals exact hK' _ () (Qd []) trivial (Qh [] (by simp only [go_sem,zwl,Q1,VA,Uv,Wh,QS,Ql.cells]<;>exact zcc) (by simp only [go_sem,zwl,Q1,VA,Uv,Wh,QS,Ql.cells]<;>exact zcc) (by simp [Qd]) (by simp) (by omega))
 have hg1:=au1 l hg0
 generalize gr1 l g0 = g1 at *
 refine KZ (ι:=Unit) (fun _=>True) (fun _=>Wh l (gr2 l g1).2 (i + 1:Nat) rs (gr2 l g1).1) (fun K' hK'=>?_) (fun _ _=>?_)
 ·have o1:=z3 l g1.2 3 hl (hg1.1.1) (by omega) (by omega)
  have ok1:=Q7 (l:=l) (n:=3) hg1.1.1
  obtain ⟨r,k1⟩:=g1
  obtain ⟨⟨a0,a1,a2,a3,a4,a5,a6,a7,a8,a9,a10⟩,at1⟩:=hg1
  simp only at o1 ok1 a0 a1 a2 a3 a4 a5 a6 a7 a8 a9 a10 at1 hK' ⊢
  rcases hq:((Qt l k1 3).1 == 3 - 1) with _|_
  ·have e:gr2 l (r,k1) = (r,(Qt l k1 3).2):=by rw [gr2,hq];rfl
   rw [hq] at o1
   simp only [e] at hK'
   clear e hq
   generalize (Qt l k1 3).2 = k2 at *
   simp only [Q1] at o1
   refine zgo ?_;repeat' first|exact zt|apply zan|intro hc
   all_goals exact hK' _ () (Qd []) trivial (Qh [] (by simp only [go_sem,zwl,Q1,VA,Uv,Wh,QS,Ql.cells]<;>exact zcc) (by simp only [go_sem,zwl,Q1,VA,Uv,Wh,QS,Ql.cells]<;>exact zcc) (by simp [Qd]) (by simp) (by omega))
  ·have e:gr2 l (r,k1) = ({ r with purp:=1 + (Qt l (Qt l k1 3).2 4).1 },(Qt l (Qt l k1 3).2 4).2):=by rw [gr2,hq];rfl
   rw [hq] at o1
   simp only [e] at hK'
   clear e hq
   generalize (Qt l k1 3).2 = k2 at *
   have z2:=z0 l k2 4 hl ok1
   have zm:=Qz (l:=l) (k:=k2) (n:=4) (by omega) (by omega)
   generalize Qt l k2 4 = w at *
   obtain ⟨v,k4⟩:=w
   simp only [Q1] at o1 z2 hK' zm
   have ew1:IntKind.i64.wrap (1 + v) = 1 + v:=Jc (by omega) (by omega)
   (have zx:=ew1);refine zgo ?_;repeat' first|exact zt|apply zan|intro hc
   all_goals exact hK' _ () (Qd []) trivial (Qh [] (by simp only [go_sem,zwl,Q1,VA,Uv,Wh,QS,Ql.cells]<;>exact zcc) (by simp only [go_sem,zwl,Q1,VA,Uv,Wh,QS,Ql.cells]<;>exact zcc) (by simp [Qd]) (by simp) (by omega))
 have hg2:=au0 l hg1
 generalize gr2 l g1 = g2 at *
 refine KZ (ι:=Unit) (fun _=>True) (fun _=>Wh l (gr3 l g2).2 (i + 1:Nat) rs (gr3 l g2).1) (fun K' hK'=>?_) (fun _ _=>?_)
 ·have o1:=z3 l g2.2 2 hl (hg2.1.1) (by omega) (by omega)
  have ok1:=Q7 (l:=l) (n:=2) hg2.1.1
  obtain ⟨r,k1⟩:=g2
  obtain ⟨⟨a0,a1,a2,a3,a4,a5,a6,a7,a8,a9,a10⟩,at1⟩:=hg2
  simp only at o1 ok1 a0 a1 a2 a3 a4 a5 a6 a7 a8 a9 a10 at1 hK' ⊢
  rcases hq:((Qt l k1 2).1 == 2 - 1) with _|_
  ·have e:gr3 l (r,k1) = (r,(Qt l k1 2).2):=by rw [gr3,hq];rfl
   rw [hq] at o1
   simp only [e] at hK'
   clear e hq
   generalize (Qt l k1 2).2 = k2 at *
   simp only [Q1] at o1
   refine zgo ?_;repeat' first|exact zt|apply zan|intro hc
   all_goals exact hK' _ () (Qd []) trivial (Qh [] (by simp only [go_sem,zwl,Q1,VA,Uv,Wh,QS,Ql.cells]<;>exact zcc) (by simp only [go_sem,zwl,Q1,VA,Uv,Wh,QS,Ql.cells]<;>exact zcc) (by simp [Qd]) (by simp) (by omega))
  ·have e:gr3 l (r,k1) = ({ r with frm:=(ofD l (Qt l k1 2).2 atZ).1 },(ofD l (Qt l k1 2).2 atZ).2):=by rw [gr3,hq];rfl
   rw [hq] at o1
   simp only [e] at hK'
   clear e hq
   generalize (Qt l k1 2).2 = k2 at *
   have z2:=z4 l k2 atZ hl ok1 (by decide) (by decide)
   have zm:=xp (l:=l) (k:=k2) (xs:=atZ) (by decide) (by decide)
   generalize ofD l k2 atZ = w at *
   obtain ⟨v,k4⟩:=w
   simp only [Q1,atZ,zE,zH] at o1 z2 hK'
   repeat' (first|(refine zsk ?_;intro K' hK)|(refine zrg ?_;intro K' hK)|refine zsp ?_|(refine zsc ?_ ?_<;>intro hc<;>first|exact znh|try simp only [znz] at hc)|simp (maxSteps:=1000000) only [go_sem,QS,Wh,Ql.cells,Q1]|(refine hK _ ?_;clear hK K')|apply zan|(apply Ko;(focus exact rfl);(focus first|exact o1|exact z2|exact (z0 _ _ _ zsd zsd)|exact (z3 _ _ _ zsd zsd zsd zsd)|exact (z4 _ _ _ zsd zsd zsd zsd));(focus exact rfl);(focus exact rfl))|(apply U4;(focus exact rfl);(focus exact zrd);(focus exact zrd);(focus first|exact o1|exact z2|exact (z0 _ _ _ zsd zsd)|exact (z3 _ _ _ zsd zsd zsd zsd)|exact (z4 _ _ _ zsd zsd zsd zsd));(focus exact rfl);(focus exact rfl);(focus exact zrd))|exact zsq|fail)
   all_goals exact hK' _ () (Qd []) trivial (Qh [] (by simp only [go_sem,zwl,Q1,VA,Uv,Wh,QS,Ql.cells]<;>exact zcc) (by simp only [go_sem,zwl,Q1,VA,Uv,Wh,QS,Ql.cells]<;>exact zcc) (by simp [Qd]) (by simp) (by omega))
 have hg3:=auZ l hg2
 generalize gr3 l g2 = g3 at *
 refine KZ (ι:=Unit) (fun _=>True) (fun _=>Wh l (gr4 l g3).2 (i + 1:Nat) rs (gr4 l g3).1) (fun K' hK'=>?_) (fun _ _=>?_)
 ·have o1:=z3 l g3.2 3 hl (hg3.1.1) (by omega) (by omega)
  have ok1:=Q7 (l:=l) (n:=3) hg3.1.1
  obtain ⟨r,k1⟩:=g3
  obtain ⟨⟨a0,a1,a2,a3,a4,a5,a6,a7,a8,a9,a10⟩,at1⟩:=hg3
  simp only at o1 ok1 a0 a1 a2 a3 a4 a5 a6 a7 a8 a9 a10 at1 hK' ⊢
  rcases hq:((Qt l k1 3).1 == 3 - 1) with _|_
  ·have e:gr4 l (r,k1) = (r,(Qt l k1 3).2):=by rw [gr4,hq];rfl
   rw [hq] at o1
   simp only [e] at hK'
   clear e hq
   generalize (Qt l k1 3).2 = k2 at *
   simp only [Q1] at o1
   repeat' (first|(refine zsk ?_;intro K' hK)|(refine zrg ?_;intro K' hK)|refine zsp ?_|(refine zsc ?_ ?_<;>intro hc<;>first|exact znh|try simp only [znz] at hc)|simp (maxSteps:=1000000) only [go_sem,QS,Wh,Ql.cells,Q1]|(refine hK _ ?_;clear hK K')|apply zan|(apply Ko;(focus exact rfl);(focus first|exact o1|exact (z0 _ _ _ zsd zsd)|exact (z3 _ _ _ zsd zsd zsd zsd)|exact (z4 _ _ _ zsd zsd zsd zsd));(focus exact rfl);(focus exact rfl))|(apply U4;(focus exact rfl);(focus exact zrd);(focus exact zrd);(focus first|exact o1|exact (z0 _ _ _ zsd zsd)|exact (z3 _ _ _ zsd zsd zsd zsd)|exact (z4 _ _ _ zsd zsd zsd zsd));(focus exact rfl);(focus exact rfl);(focus exact zrd))|exact zsq|fail)
   all_goals exact hK' _ () (Qd []) trivial (Qh [] (by simp only [go_sem,zwl,Q1,VA,Uv,Wh,QS,Ql.cells]<;>exact zcc) (by simp only [go_sem,zwl,Q1,VA,Uv,Wh,QS,Ql.cells]<;>exact zcc) (by simp [Qd]) (by simp) (by omega))
  ·have e:gr4 l (r,k1) = ({ r with til:=r.frm + (ofD l (Qt l k1 3).2 as8).1 },(ofD l (Qt l k1 3).2 as8).2):=by rw [gr4,hq];rfl
   rw [hq] at o1
   simp only [e] at hK'
   clear e hq
   generalize (Qt l k1 3).2 = k2 at *
   have z2:=z4 l k2 as8 hl ok1 (by decide) (by decide)
   have zm:=xp (l:=l) (k:=k2) (xs:=as8) (by decide) (by decide)
   generalize ofD l k2 as8 = w at *
   obtain ⟨v,k4⟩:=w
   simp only [Q1,as8,zE,zH] at o1 z2 hK'
   have zr:=aeZ (a:=1) (b:=200) (by decide) zm
   have ew1:IntKind.i64.wrap (r.frm + v) = r.frm + v:=Jc (by omega) (by omega)
   repeat' (first|(refine zsk ?_;intro K' hK)|(refine zrg ?_;intro K' hK)|refine zsp ?_|(refine zsc ?_ ?_<;>intro hc<;>first|exact znh|try simp only [znz] at hc)|simp (maxSteps:=1000000) only [go_sem,QS,Wh,Ql.cells,Q1,ew1]|(refine hK _ ?_;clear hK K')|apply zan|(apply Ko;(focus exact rfl);(focus first|exact o1|exact z2|exact (z0 _ _ _ zsd zsd)|exact (z3 _ _ _ zsd zsd zsd zsd)|exact (z4 _ _ _ zsd zsd zsd zsd));(focus exact rfl);(focus exact rfl))|(apply U4;(focus exact rfl);(focus exact zrd);(focus exact zrd);(focus first|exact o1|exact z2|exact (z0 _ _ _ zsd zsd)|exact (z3 _ _ _ zsd zsd zsd zsd)|exact (z4 _ _ _ zsd zsd zsd zsd));(focus exact rfl);(focus exact rfl);(focus exact zrd))|exact zsq|fail)
   all_goals exact hK' _ () (Qd []) trivial (Qh [] (by simp only [go_sem,zwl,Q1,VA,Uv,Wh,QS,Ql.cells]<;>exact zcc) (by simp only [go_sem,zwl,Q1,VA,Uv,Wh,QS,Ql.cells]<;>exact zcc) (by simp [Qd]) (by simp) (by omega))
 have hg4:=auY l hg3
 generalize gr4 l g3 = g4 at *
 obtain ⟨r,k1⟩:=g4
 obtain ⟨a,g,b,p,m,t⟩:=r
 simp only at hK'
 have hb:List.map Ql.v rs++[.agg [V.bool a,V.int g,V.int b,V.int p,V.int m,V.int t]] = (rs++[(⟨a,g,b,p,m,t⟩:Ql)]).map Ql.v:=by rw [kj];rfl
 have hln:rs.length + 1 = (rs++[(⟨a,g,b,p,m,t⟩:Ql)]).length:=by simp
 repeat' (first|(refine zsk ?_;intro K' hK)|(refine zrg ?_;intro K' hK)|refine zsp ?_|(refine zsc ?_ ?_<;>intro hc<;>first|exact znh|try simp only [znz] at hc)|simp (maxSteps:=1000000) only [go_sem,QS,Wh,Ql.cells,Q1,aeO,hb,hln]|(refine hK _ ?_;clear hK K')|apply zan|(apply Ko;(focus exact rfl);(focus first|exact (z0 _ _ _ zsd zsd)|exact (z3 _ _ _ zsd zsd zsd zsd)|exact (z4 _ _ _ zsd zsd zsd zsd));(focus exact rfl);(focus exact rfl))|(apply U4;(focus exact rfl);(focus exact zrd);(focus exact zrd);(focus first|exact (z0 _ _ _ zsd zsd)|exact (z3 _ _ _ zsd zsd zsd zsd)|exact (z4 _ _ _ zsd zsd zsd zsd));(focus exact rfl);(focus exact rfl);(focus exact zrd))|exact zsq|fail)
 all_goals first
  | exact hK' _ () (Qd [(5,4008)]) trivial (Qh [(5,4008)] (by simp only [go_sem,zwl,Q1,VA,Uv,Wh,QS,Ql.cells]<;>exact zcc) (by simp only [go_sem,zwl,Q1,VA,Uv,Wh,QS,Ql.cells]<;>exact zcc) (by simp [Qd]) (by simp;omega) (by omega))
  | (simp only [zv,List.length_singleton];omega)
section
variable {C:Ctx} {nt:Nat} {s:St} {K:St→Prop} {E:Nat→St→Prop} {R:St→Prop}
theorem ahh {k:List Nat} {a y:AC} {P:St→Prop} (h:AWp C nt a s P E R) (h':∀ s1,P s1→AWp C nt y (s1.keep k) K E R):AWp C nt (qP k a y) s K E R :=
 ab6 (akO h h' (fun _ _ h=>h) (fun _ h=>h))
theorem auv {k1 k2 k3 k4 k5:List Nat} {a b c d e y:AC} {ι:Type} (good:ι→Prop) (mid:ι→St) (h:∀ K':St→Prop,(∀ s' i,good i→Cl C.m s' (mid i)→K' s')→AWp C nt a s (fun s1=>AWp C nt b (s1.keep k1) (fun s2=>AWp C nt c (s2.keep k2) (fun s3=>AWp C nt d (s3.keep k3) (fun s4=>AWp C nt e (s4.keep k4) K' E R) E R) E R) E R) E R)
  (h':∀ i,good i→AWp C nt y (mid i) K E R):AWp C nt (qP k1 a (qP k2 b (qP k3 c (qP k4 d (qP k5 e y))))) s K E R :=
 ahh (h (fun s'=>∃ i,good i∧Cl C.m s' (mid i)) fun s' i h1 h2=>⟨i,h1,h2⟩) fun _ h1=>ahh h1 fun _ h2=>ahh h2 fun _ h3=>ahh h3 fun _ h4=>auw good mid h4 h'
end
theorem ar6 {o:Nat→Option Ob} {br:List Nat} {a n sz:Nat} {xs:List V} (h:o a = some (.buf true sz xs)) (hb:a ∉ br) (hn:n = xs.length):conv o br none (.hd a 0 n) (.sl sz xs):=by
 subst hn
 rw [anL]
 exact ⟨trivial,hb,.inl ⟨true,_,h,by rw [kZ,zi (zj _)]⟩⟩
structure TeP where
 x:List Qa
 gap:Int
 day:Int
 rs:List Ql
 ks:List Jg
structure TeG (p:TeP):Prop where
 sz:∀ y∈p.x,y.Sz
 nm:wc p.x = true
 xl:p.x.length≤9
 g:0≤p.gap∧p.gap≤4000
 d:0≤p.day∧p.day≤12
 rl:p.rs.length≤6
 kl:p.ks.length≤2
 ck:yj p.rs p.ks = 0
def teS (p:TeP):St:=stL [(6,.sl 11 (p.x.map Qa.v)),(7,V.int p.gap),(8,V.int p.day),(9,.ptr 0 0)] [.box true [.sl 6 (p.rs.map Ql.v),.sl 2 (p.ks.map Jg.v)]]
theorem aw6 {m:Nat} {s:St} {p:TeP} (hm:m = 0) (a b c:Nat) (h:s.t 6 = .sl 11 (p.x.map Qa.v)∧s.t 7 = V.int p.gap∧s.t 8 = V.int p.day∧s.t 9 = .ptr a 0)
  (oa:s.o a = some (.box true [.hd b 0 p.rs.length,.hd c 0 p.ks.length])) (ob:s.o b = some (.buf true 6 (p.rs.map Ql.v))) (oc:s.o c = some (.buf true 2 (p.ks.map Jg.v))) (hb:b ∉ [a]∧c ∉ [a]):Cl m s (teS p):=by
 obtain ⟨t6,t7,t8,t9⟩:=h
 refine ayM [a] none (fun q hq=>?_) ?_ (by simp) (by rw [hm];rfl)
 ·simp only [zw,zD,or_false] at hq
  rcases hq with rfl|rfl|rfl|rfl<;>dsimp only
  ·rw [t6];exact xE _ _ _ _ trivial
  ·rw [t7];exact xE _ _ _ _ trivial
  ·rw [t8];exact xE _ _ _ _ trivial
  ·rw [t9];simp [conv]
 ·exact ⟨⟨_,oa,fun h=>h,ar6 ob hb.1 (by simp),ar6 oc hb.2 (by simp),trivial⟩,trivial⟩
def teT (p:TeP) (w:List Qo) (i:Nat):St:=QS [(6,.sl 11 (p.x.map Qa.v)),(7,V.int p.gap),(8,V.int p.day),(10,.sl 8 (w.map Qo.v)),(12,V.int i)] [] 0
def VH:=qd Proofs.Tryz.f3 []
def wS (Γ:Env) (f:Nat):Prop:=∀ (l:List Int) (c:Int) (h0:0≤c) (h1:c≤255),EvN Γ f [.sl 1 (l.map V.int),.sc (.int .u8 c)] (V.bool true)
attribute [local go_sem] zb Q1 QS in
theorem adR {Γ:Env} {f:Nat} (h:Has Γ.P f 155 VH.1.1.ac VH.1.2) (z0:aaS Γ 4) (z1:jt Γ 5) (z2:abP Γ 6) (z3:yw Γ 7) (z4:JH Γ 8) (z5:vG Γ 9) (z6:yz Γ 10) (z7:Kh Γ 11) (z8:yx Γ 12) (z9:Ug Γ 13) (z10:abG Γ 14):wS Γ f:=by
 intro l c h0 h1
 refine Qc h zsi zcl zcl fun C hC hm=>?_
 subst hC
 simp only [VH,qd,DC.ac]
 have hm:C.m = 0:=by simpa using hm
 have aw:=(EvN.b z1)
 refine auv (ι:=TeP) TeG teS (fun K' hK'=>?_) fun p hp=>?_
 ·have gL:=z0 l
  by_cases hlen:l.length≤400
  rotate_left
  ·have e0:decide ((l.length:Int)≤400) = false:=by simp;omega
   rw [e0] at gL
   (have zy0:=gL.b;have zx:=e0);exact zg
  have e0:decide ((l.length:Int)≤400) = true:=by simp;omega
  rw [e0] at gL
  have n1:=z2 l
  have n2:=(z3 l 0 9 hlen (zJ _) (by decide)).d
  obtain ⟨fS,fN,fl,k2⟩:=ask (l:=l) (k:=0) (most:=9) (zJ _) (by decide)
  generalize adM l 0 9 = w at *
  obtain ⟨x,d1⟩:=w
  simp only at n2 fS fN fl k2
  have n3:=z4 l d1 5 hlen k2
  have r3:=Qz (l:=l) (k:=d1) (n:=5) (by omega) (by omega)
  have k3:=Q7 (n:=5) k2
  generalize Qt l d1 5 = w at *
  obtain ⟨gap,d2⟩:=w
  simp only at n3 r3 k3
  have n6:=z5 l d2 hlen k3
  have hR:=aoj l k3
  have hK:=atf l k3
  generalize (als l d2).2 = d5 at *
  generalize (adA l d2).1 = rs at *
  generalize (als l d2).1 = ks at *
  obtain ⟨k6,q2,l2⟩:=hK
  obtain ⟨_,q1,l1⟩:=hR
  have hck:yj rs ks = 0:=by
   rw [yj,if_pos];simp only [zA,zC];exact ⟨⟨⟨q1,q2⟩,by omega⟩,by omega⟩
  have ec:IntKind.i64.wrap c = c:=Jc (by omega) (by omega)
  have em:0≤c.tmod 12∧c.tmod 12≤11:=by rw [Int.tmod_eq_emod_of_nonneg h0];omega
  simp only [Q1,zE,zH] at n1 n2 n3 n6
  (have zy0:=gL.b;have zx:=za e0 ec);refine zgo ?_;repeat' first|exact zt|apply zan|intro hc
  all_goals
   exact hK' _ ⟨x,gap,c.tmod 12,rs,ks⟩ ⟨fS,fN,by simpa using fl,by simp only;omega,by simp only;omega,by simp only;omega,by simp only;omega,hck⟩ (aw6 hm 17000 16000 16001 ⟨rfl,rfl,rfl,rfl⟩ rfl rfl rfl ⟨by decide,by decide⟩)
 clear h0 h1
 obtain ⟨x,gap,day,rs,ks⟩:=p
 obtain ⟨fS,fN,xl,hg,hd,rl,kl,hck⟩:=hp
 simp only at fS fN xl hg hd rl kl hck
 have fC:∀ y∈x,YI y = true:=((ahK _).1 (by simp only [wc,zA] at fN;exact fN.1)).1
 have hk0:=vO.2 (show aiA x gap day 100 from ⟨fN,hg,by omega,by omega⟩)
 have g1:=(z6 x gap day 100 rs ks 4 (by omega) fS (by omega) (by omega)).b
 rw [aqK,if_pos hk0,if_pos hck,if_neg (by omega)] at g1
 have hws:=fun f (h:f∈ak3 x gap day 100 rs ks 4)=>aqJ h
 have hwl:(ak3 x gap day 100 rs ks 4).length < 2 ^ 40:=by
  have h2:=ah0 x gap day 100
  have h3:x.length * x.length≤9 * 9:=Nat.mul_le_mul xl xl
  have h4:(ak3 x gap day 100 rs ks 4).length≤(YS x gap day 100).flatten.length:=kJ ..
  omega
 generalize ak3 x gap day 100 rs ks 4 = w at *
 have hwm:(w.map Qo.v).length = w.length:=zb _
 have hxm:(x.map Qa.v).length = x.length:=zb _
 simp only [teS,stL]
 refine zgo ?_;repeat' first|exact zt|apply zan|intro hc
 refine Qj (ι:=Nat) (fun i=>i≤w.length) (fun i=>teT ⟨x,gap,day,rs,ks⟩ w i) (fun i=>w.length - i) 0 (zJ _) (Qd []) (Qh [] (by simp only [go_sem,zwl,teT]<;>exact zcc) (by simp only [go_sem,zwl,teT]<;>exact zcc) (by simp [teT,Qd]) (by simp [teT]) (by omega)) fun i hi K' hL=>?_
 rcases hdr:w.drop i with _|⟨f,r⟩
 ·have hkl:=Qu hdr
  have e1:decide ((i:Int) < ((w.length:Nat):Int)) = false:=by simp;omega
  clear hL
  simp only [teT]
  (have zx:=za hwm e1);exact zg
 obtain ⟨hi',hget,hrr⟩:=Qq hdr
 have hw:=Qe (k:=i) (by omega)
 have e1:decide ((i:Int) < (w.length:Int)) = true:=by simp;omega
 have vf:(w.map Qo.v)[i]? = some f.v:=by rw [zo,hget];rfl
 have hgo:=fun s'=>hL s' (i + 1) (Qd [])
 clear hL
 obtain ⟨i0,q,hq,hfq,hk1,hho⟩:=hws f (zq hget)
 have hi0:=(zl.1 hq).1
 have hqm:=zq hq
 have vq:(x.map Qa.v)[i0]? = some q.v:=by rw [zo,hq];rfl
 have hb:=avL (t:=day) (fC q hqm) hk1 (by omega)
 have gX:=(z7 x gap day 100 { f with text:=q.host } (by omega) fS).b
 rw [asm,if_pos hk0,if_pos hho] at gX
 have hne:=av9 hk0 hho
 have gM:=(z8 x [ak0 q day] (by simp;omega) (fun y hy=>by
  rcases zP.1 hy with hy|hy
  ·exact fS y hy
  ·rw [zy.1 hy];exact fS q hqm) (fun y hy=>by
  rcases zP.1 hy with hy|hy
  ·exact fC y hy
  ·rw [zy.1 hy];exact hb))
 have yS:∀ z∈acj (x++[ak0 q day]),z.Sz:=fun z hz=>by
  rcases zP.1 (abs.1 hz) with hz|hz
  ·exact fS z hz
  ·rw [zy.1 hz];exact fS q hqm
 have yC:∀ z∈acj (x++[ak0 q day]),YI z = true:=fun z hz=>by
  rcases zP.1 (abs.1 hz) with hz|hz
  ·exact fC z hz
  ·rw [zy.1 hz];exact hb
 have yM:ak0 q day∈acj (x++[ak0 q day]):=abs.2 (by simp)
 have yN:=aqg (l:=x++[ak0 q day]) (fun z hz=>yC z (abs.2 hz)) (by simp;omega)
 have yl:=akL (x++[ak0 q day])
 rw [zv,List.length_singleton] at yl
 generalize acj (x++[ak0 q day]) = y at *
 have hk3:=vO.2 (show aiA y gap (day + 1) 100 from ⟨yN,hg,by omega,by omega⟩)
 have gH:=(z9 y gap (day + 1) 100 (aw4 f q) (by omega) yS).b
 rw [adK,if_pos hk3] at gH
 have yE:Y6 y gap = 0:=by rw [Y6,if_pos yN,if_neg (by omega)]
 have gA:=(z10 y gap (ak0 q day) (by omega) yS yE).b
 have hcon:=fun (h2:yI y gap (day + 1) 100 (aw4 f q) = true) (h3:aj0 y gap (ak0 q day) = true)=>atz (f:=f) yM yC (by rw [hfq];exact hk1) (by rw [hfq];exact ⟨rfl,rfl,rfl⟩) h2 h3
 generalize yI y gap (day + 1) 100 (aw4 f q) = u at *
 generalize aj0 y gap (ak0 q day) = v at *
 have hpe:(((QL (ap0 x gap day 100 { f with text:=q.host })).length:Int) == 0) = false:=by
  rw [kM]
  intro h0
  exact hne (List.map_eq_nil_iff.1 (Z6.1 (Int.ofNat.inj h0)))
 generalize QL (ap0 x gap day 100 { f with text:=q.host }) = pc at *
 have hff:f.find = (i0:Int):=by rw [hfq];rfl
 have e2:decide ((i0:Int) < 0) = false:=by simp
 have e3:decide ((i0:Int)≥(x.length:Int)) = false:=by simp;omega
 have e4:IntKind.i64.wrap (day + 1) = day + 1:=Jc (by omega) (by omega)
 clear hws hq hfq hk1 hho hb yM yC yN hk3 hk0 fN fC fS hne hqm yS yE
 obtain ⟨fe,fs,fk,fa,fb,fn,ft,ff⟩:=f
 simp only at hff
 subst hff
 simp only [Qo.v,Qo.cells,Qa.v,Qa.cells,aw4,ak0,zE,zH] at vf vq gX gM gH gA
 simp only [teT]
 rcases u with _|_
 ·repeat' (first|(refine zsk ?_;intro K' hK)|refine zsp ?_|(refine zsc ?_ ?_<;>intro hc<;>first|exact znh|try simp only [znz] at hc)|simp (maxSteps:=1000000) only [go_sem,QS,hwm,hxm,e1,e2,e3,e4,vf,vq,hpe,hw,Int.toNat_natCast]|(refine hK _ ?_;clear hK K')|apply zan|(apply ajZ;(focus first|exact gM))|(apply Ko;(focus exact rfl);(focus first|exact (z4 _ _ _ zsd zsd));(focus exact rfl);(focus exact rfl))|(apply wQ;(focus first|exact (z2 _)))|(apply QA;(focus first|exact gX|exact gH|exact gA|exact (z0 _).b|exact EvN.b z1|exact (z10 _ _ _ zsd zsd zsd).b))|exact zsq|fail)
  all_goals exact hgo _ (by omega) (by omega) (Qh [] (by simp only [go_sem,zwl,teT]<;>exact zcc) (by simp only [go_sem,zwl,teT]<;>exact zcc) (by simp [teT,Qd]) (by simp [teT]) (by omega))
 rcases hq0:(q.mach != 0) with _|_
 ·repeat' (first|(refine zsk ?_;intro K' hK)|refine zsp ?_|(refine zsc ?_ ?_<;>intro hc<;>first|exact znh|try simp only [znz] at hc)|simp (maxSteps:=1000000) only [go_sem,QS,hwm,hxm,e1,e2,e3,e4,vf,vq,hpe,hw,Int.toNat_natCast,hq0]|(refine hK _ ?_;clear hK K')|apply zan|(apply ajZ;(focus first|exact gM))|(apply Ko;(focus exact rfl);(focus first|exact (z4 _ _ _ zsd zsd));(focus exact rfl);(focus exact rfl))|(apply wQ;(focus first|exact (z2 _)))|(apply QA;(focus first|exact gX|exact gH|exact gA|exact (z0 _).b|exact EvN.b z1|exact (z10 _ _ _ zsd zsd zsd).b))|exact zsq|fail)
  all_goals exact hgo _ (by omega) (by omega) (Qh [] (by simp only [go_sem,zwl,teT]<;>exact zcc) (by simp only [go_sem,zwl,teT]<;>exact zcc) (by simp [teT,Qd]) (by simp [teT]) (by omega))
 rcases v with _|_
 ·repeat' (first|(refine zsk ?_;intro K' hK)|refine zsp ?_|(refine zsc ?_ ?_<;>intro hc<;>first|exact znh|try simp only [znz] at hc)|simp (maxSteps:=1000000) only [go_sem,QS,hwm,hxm,e1,e2,e3,e4,vf,vq,hpe,hw,Int.toNat_natCast,hq0]|(refine hK _ ?_;clear hK K')|apply zan|(apply ajZ;(focus first|exact gM))|(apply Ko;(focus exact rfl);(focus first|exact (z4 _ _ _ zsd zsd));(focus exact rfl);(focus exact rfl))|(apply wQ;(focus first|exact (z2 _)))|(apply QA;(focus first|exact gX|exact gH|exact gA|exact (z0 _).b|exact EvN.b z1|exact (z10 _ _ _ zsd zsd zsd).b))|exact zsq|fail)
  all_goals exact hgo _ (by omega) (by omega) (Qh [] (by simp only [go_sem,zwl,teT]<;>exact zcc) (by simp only [go_sem,zwl,teT]<;>exact zcc) (by simp [teT,Qd]) (by simp [teT]) (by omega))
 exact absurd (hcon rfl rfl) id
end Av
end
