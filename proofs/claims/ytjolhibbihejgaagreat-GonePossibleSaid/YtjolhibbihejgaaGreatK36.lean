/- K36 -/
import Derived.Test.YtjolhibbihejgaaGreatK35
import Derived.Test.YtjolhibbihejgaaGreatK12
import Derived.Test.YtjolhibbihejgaaGreatK32
set_option linter.unusedVariables false
set_option linter.unusedSimpArgs false
noncomputable section
set_option maxRecDepth 10000
set_option maxHeartbeats 4000000
namespace Av
open Go
attribute [local irreducible] AWp UY qH yr awS awC aaT awQ abS Q1 Ub aaE awR Ux awB okR ym ris
def soN (i:Nat):List UInt8:=QT.getD i []
theorem ary:(afv (soN 0) 5 2048 100 1 901).ok = true∧(afv (soN 1) 5 2048 101 1 901).ok = true∧(afv (soN 2) 5 2048 102 1 901).ok = true:=by decide +kernel
theorem aq3:(∀ i < 3,ahK (soN i) = true)∧(∀ m∈[(3:Int),4],∀ c∈[(0:Int),1,2],jO (suM m c) = true)∧aqm [1] = true∧aqm [2,3] = true∧[(1:Int)].all ahF = true∧[(2:Int),3].all ajV = true:=by decide +kernel
structure MC (m c:Int):Prop where
 m:m = 3∨m = 4
 c:c = 0∨c = 1∨c = 2
theorem ad0 {i:Nat} {m c:Int} (hi:i < 3) (h:MC m c) (ow fa:Bool):J6 (qE (soN i) i m c ow fa) = true:=by
 obtain ⟨l0,l1,l2⟩:=ary
 obtain ⟨r1,r2,r3,r4,r5,r6⟩:=aq3
 have h1:=r1 i hi
 have h2:=r2 m (by have:=h.m;simpa using this) c (by have:=h.c;simpa using this)
 have h3:(afv (soN i) 5 2048 (100 + (i:Int)) 1 901).ok = true:=by
  obtain rfl|rfl|rfl:i = 0∨i = 1∨i = 2:=by omega
  ·exact l0
  ·exact l1
  ·exact l2
 have hm:=h.m
 have e1:aqP (qE (soN i) i m c ow fa) = true:=by
  simp only [aqP,qE,h1,h2,zP,Zx,zC,zO]
  rcases h.m with h|h<;>subst h<;>exact ⟨rfl,rfl,rfl⟩
 have e2:arW (qE (soN i) i m c ow fa) = true:=by
  simp only [arW,qE,r3,r4,List.length_cons,List.length_nil];rfl
 have e3:ate (qE (soN i) i m c ow fa) = true:=by
  simp only [ate,qE,List.all_cons,List.all_nil,h3];rfl
 have e4:aqO (qE (soN i) i m c ow fa) = true:=by
  simp only [aqO,qE,r5,r6];rfl
 rw [J6,e1,e2,e3,e4];rfl
theorem asw (m c:Int):(suM m c).length < 2 ^ 30:=by
 unfold suM suS;(repeat' split)<;>simp
theorem asy (i:Nat) (hi:i < 3):(soN i).length≤3:=by
 obtain rfl|rfl|rfl:i = 0∨i = 1∨i = 2:=by omega
 all_goals decide
theorem aq5 {c:Jl} {key:Int} (h:c.T):(ael c key).Sm:=by
 have l1:=h.l1
 have l2:=h.l2
 have l3:=h.l3
 unfold ael
 split
 ·exact ⟨by show c.issuer.length < _;omega,by show c.subject.length < _;omega,by show c.names.length < _;omega,fun x hx=>by have:=h.l4 x hx;omega⟩
 ·exact ⟨by simp [ajm],by simp [ajm],by simp [ajm],fun x hx=>by simp [ajm] at hx⟩
theorem atM {i:Nat} (hi:i < 3) (m c:Int) (ow fa:Bool):(qE (soN i) i m c ow fa).Sm:=by
 have hl:=asy i hi
 refine ⟨by show (soN i).length < _;omega,asw m c,by show (1:Nat) < _;omega,fun x hx=>?_,by show (1:Nat) < _;omega,by show (2:Nat) < _;omega⟩
 have hx':x = afv (soN i) 5 2048 (100 + (i:Int)) 1 901:=zu.1 hx
 rw [hx']
 refine ⟨by show (1:Nat) < _;omega,fun c hc=>?_⟩
 have hc':c = ael (aeI (soN i) 5 2048 (100 + (i:Int)) 901) 1:=zu.1 hc
 rw [hc']
 exact aq5 (aqG (by omega) (by omega))
theorem am9 (l:List Int) (i:Nat) (k:Nat):∃ m c ow fa,MC m c∧(af2 l (soN i) i k).1 = qE (soN i) i m c ow fa:=by
 have h1:=acn (l:=l) (k:=k) (xs:=[3,3,4]) (by decide) (by decide)
 have h3:=QU (l:=l) (k:=(Jf l (ofD l k [3,3,4]).2 3).2) (n:=2) (by omega) (by omega)
 have h2:=QU (l:=l) (k:=(ofD l k [3,3,4]).2) (n:=3) (by omega) (by omega)
 refine ⟨_,_,_,_,⟨?_,?_⟩,rfl⟩
 ·simp only [zo,zl,or_false] at h1;omega
 ·omega
theorem ad9 (l:List Int) (k:Nat):∀ n,(U7 l k n).1.length = n∧∀ j,j < n→∃ m c ow fa,MC m c∧(U7 l k n).1[j]? = some (qE (soN j) j m c ow fa)
 | 0=>⟨rfl,fun j hj=>absurd hj (by omega)⟩
 | n + 1=>by
   obtain ⟨h1,h2⟩:=ad9 l k n
   refine ⟨by rw [U7,zn,h1];rfl,fun j hj=>?_⟩
   by_cases hjn:j = n
   ·subst hjn
    obtain ⟨m,c,ow,fa,hm,he⟩:=am9 l j (U7 l k j).2
    refine ⟨m,c,ow,fa,hm,?_⟩
    rw [U7,kF (by omega),h1,kX]
    exact congrArg some he
   ·obtain ⟨m,c,ow,fa,hm,he⟩:=h2 j (by omega)
    exact ⟨m,c,ow,fa,hm,by rw [U7,kf (by omega),he]⟩
theorem ahn {l:List Int} {k n:Nat} (hn:n≤3) {P:JG→Prop} (h:∀ i m c ow fa,i < 3→MC m c→P (qE (soN i) i m c ow fa)):∀ x∈(U7 l k n).1,P x:=by
 intro x hx
 obtain ⟨j,hj⟩:=ZA.1 hx
 obtain ⟨h1,h2⟩:=ad9 l k n
 have hjn:j < n:=by
  rw [← h1];exact (zj.1 hj).1
 obtain ⟨m,c,ow,fa,hm,he⟩:=h2 j hjn
 rw [hj] at he
 rw [Option.some.inj he]
 exact h j m c ow fa (by omega) hm
theorem atN:∀ j < 3,∀ i < j,Op.bytesLess (soN i) (soN j) = true:=by decide +kernel
theorem arN (l:List Int) (k n:Nat) (hn:n≤3):(U7 l k n).1.Pairwise fun a b=>Op.bytesLess a.name b.name = true:=by
 obtain ⟨h1,h2⟩:=ad9 l k n
 rw [ke]
 intro i j hi hj hij
 rw [h1] at hi hj
 obtain ⟨m,c,ow,fa,hm,he⟩:=h2 i hi
 obtain ⟨m',c',ow',fa',hm',he'⟩:=h2 j hj
 rw [(zj.1 he).2,(zj.1 he').2]
 exact atN j (by omega) i hij
structure EdI (n i j:Nat) (es:List (Int×Int)):Prop where
 r:∀ x∈es,(0≤x.1∧x.1 < n)∧(0≤x.2∧x.2 < n)∧x.1≠x.2
 o:es.Pairwise fun a b=>a.1 < b.1∨(a.1 = b.1∧a.2 < b.2)
 b:∀ x∈es,x.1 < i∨(x.1 = i∧x.2 < j)
theorem EdI.next {n i j:Nat} {es:List (Int×Int)} (h:EdI n i j es):EdI n i (j + 1) es:=⟨h.r,h.o,fun x hx=>by have:=h.b x hx;omega⟩
theorem EdI.row {n i j:Nat} {es:List (Int×Int)} (h:EdI n i j es):EdI n (i + 1) 0 es:=⟨h.r,h.o,fun x hx=>by have:=h.b x hx;omega⟩
theorem EdI.add {n i j:Nat} {es:List (Int×Int)} (h:EdI n i j es) (hi:i < n) (hj:j < n) (hij:i≠j):EdI n i (j + 1) (es++[((i:Int),(j:Int))]):=by
 refine ⟨fun x hx=>?_,?_,fun x hx=>?_⟩
 ·rcases zU.1 hx with hx|hx
  ·exact h.r x hx
  ·rw [zu.1 hx];dsimp only;omega
 ·rw [kP]
  refine ⟨h.o,k9 _ _,fun a ha b hb=>?_⟩
  rw [zu.1 hb]
  exact h.b a ha
 ·rcases zU.1 hx with hx|hx
  ·have:=h.b x hx;omega
  ·rw [zu.1 hx];dsimp only;omega
theorem aor {l:List Int} {n i:Nat} (hi:i < n) {s:List (Int×Int)×Nat} (hs:EdI n i 0 s.1):∀ j,j≤n→EdI n i j (amp l i s j).1
 | 0,_=>hs
 | j + 1,hj=>by
   have h:=aor (l:=l) hi hs j (by omega)
   rw [amp,aiN]
   split
   ·exact h.next
   ·dsimp only
    split
    ·exact h.add hi (by omega) (by assumption)
    ·exact h.next
theorem alo {l:List Int} {n:Nat} {s:List (Int×Int)×Nat} (hs:EdI n 0 0 s.1):∀ i,i≤n→EdI n i 0 (aay l n s i).1
 | 0,_=>hs
 | i + 1,hi=>by
   rw [aay]
   exact (aor (by omega) (alo hs i (by omega)) n (zm _)).row
theorem ap4 {n:Nat} (hn:2≤n) {es:List (Int×Int)} (h:EdI n n 0 es) (hl:es.length≤3):asi (ake es) n:=by
 rw [ake]
 split
 ·refine ⟨fun x hx=>?_,k9 _ _,by show (1:Nat)≤40;omega⟩
  rw [zu.1 hx];dsimp only;omega
 ·exact ⟨h.r,h.o,by omega⟩
theorem aa3 {l:List Int} {k:Nat} (hk:k≤l.length):(XR l k).1.Ok∧(XR l k).2≤l.length∧(∃ n,n≤3∧(XR l k).1.ends = (U7 l (Jf l k 2).2 n).1)∧(XR l k).1.edges≠[]:=by
 have r1:=QU (l:=l) (k:=k) (n:=2) (by omega) (by omega)
 have k1:=JX (n:=2) hk
 unfold XR
 dsimp only
 generalize Jf l k 2 = a at *
 obtain ⟨n,hn⟩:∃ n:Nat,2 + a.1 = n:=⟨(2 + a.1).toNat,by omega⟩
 have hn23:2≤n∧n≤3:=by omega
 rw [hn,Int.toNat_natCast]
 obtain ⟨e1,e2⟩:=aho (l:=l) k1 n
 have hA:=ahn (l:=l) (k:=a.2) hn23.2 (P:=fun x=>J6 x = true) fun i m c ow fa hi hm=>ad0 hi hm ow fa
 have hS:=ahn (l:=l) (k:=a.2) hn23.2 (P:=fun x=>x.Sm) fun i m c ow fa hi hm=>atM hi m c ow fa
 have hN:=arN l a.2 n hn23.2
 have d0:EdI n 0 0 ([]:List (Int×Int)):=⟨fun x hx=>(zl hx).elim,.nil,fun x hx=>(zl hx).elim⟩
 have d1:=alo (l:=l) (n:=n) (s:=([],(U7 l a.2 n).2)) d0 n (zm _)
 have d2:=ahp (l:=l) (n:=n) (s:=([],(U7 l a.2 n).2)) ⟨e1,by simp⟩ n
 generalize aay l n ([],(U7 l a.2 n).2) n = d at *
 have r2:=QU (l:=l) (k:=d.2) (n:=3) (by omega) (by omega)
 have k2:=JX (n:=3) d2.1
 generalize Jf l d.2 3 = m at *
 obtain ⟨i1,i2,i3⟩:=abc k2 m.1.toNat
 refine ⟨⟨hS,hA,hN,by rw [e2];omega,?_,i3,by rw [i2];omega⟩,i1,⟨n,hn23.2,rfl⟩,?_⟩
 ·rw [e2]
  exact ap4 hn23.1 d1 d2.2
 ·rw [ake];split
  ·simp
  ·assumption
def ajk (m c:Int):JG:=⟨[],1,m,suM m c,false,[⟨5,2048,0,[]⟩],[],[],false⟩
theorem asA (i j:Nat) (m c m' c':Int) (ow fa ow' fa':Bool):Vb (qE (soN i) i m c ow fa) (qE (soN j) j m' c' ow' fa') = Vb (ajk m c) (ajk m' c'):=by
 have hk:∀ k,aiT (qE (soN i) i m c ow fa) (qE (soN j) j m' c' ow' fa') k = aiT (ajk m c) (ajk m' c') k:=by
  intro k
  induction k with
  | zero=>rfl
  | succ k ih =>
    rw [aiT,aiT,ih]
    rfl
 rw [Vb,Vb,hk];rfl
def arC (m c a:Int) (o:Int×Int):Bool:=decide (1≤o.2∧o.2≤16) && (decide (V2 (ajk m c) o.2≥0) && (aeg (ajk m c) o.2).any fun u=>u.1 == a)
theorem asz {i:Nat} {m c:Int} (hi:i < 3) (h:MC m c) (ow fa:Bool) (a:Int) (o:Int×Int):apV (qE (soN i) i m c ow fa) a o = arC m c a o:=by
 rw [apV,ad0 hi h,zP,arC]
 congr 2
 rw [aeg,aeg]
 have e:V2 (qE (soN i) i m c ow fa) o.2 = V2 (ajk m c) o.2:=rfl
 rw [e]
 rcases (V2 (ajk m c) o.2).toNat with _|n
 ·rfl
 ·rfl
theorem arZ:∀ m∈[(3:Int),4],∀ c∈[(0:Int),1,2],∀ m'∈[(3:Int),4],∀ c'∈[(0:Int),1,2],(Vb (ajk m c) (ajk m' c')).any (arC m' c' 14) = true∧(Vb (ajk m c) (ajk m' c')).any (arC m' c' 12) = true∧(Vb (ajk m c) (ajk m' c')).any (arC m' c' 13) = false:=by decide +kernel
theorem alK {l:List Int} {k:Nat} (hk:k≤l.length):∀ x∈(XR l k).1.edges,ae8 (XR l k).1 14 x = true∧ae8 (XR l k).1 12 x = true∧ae8 (XR l k).1 13 x = false:=by
 intro x hx
 obtain ⟨ok,_,⟨n,hn,he⟩,_⟩:=aa3 (l:=l) hk
 obtain ⟨h1,h2⟩:=ad9 l (Jf l k 2).2 n
 have hr:=ok.ed.r x hx
 rw [he,h1] at hr
 obtain ⟨m,c,ow,fa,hm,hc⟩:=h2 x.1.toNat (by omega)
 obtain ⟨m',c',ow',fa',hm',hs⟩:=h2 x.2.toNat (by omega)
 have hall:=arZ m (by have:=hm.m;simpa using this) c (by have:=hm.c;simpa using this) m' (by have:=hm'.m;simpa using this) c' (by have:=hm'.c;simpa using this)
 have hA:∀ a,ae8 (XR l k).1 a x = (Vb (ajk m c) (ajk m' c')).any (arC m' c' a):=by
  intro a
  rw [ae8,he,hc,hs]
  dsimp only
  rw [ad0 (by omega) hm,ad0 (by omega) hm',asA,show apV (qE (soN x.2.toNat) x.2.toNat m' c' ow' fa') a = arC m' c' a from funext fun o=>asz (by omega) hm' ow' fa' a o]
  rfl
 rw [hA,hA,hA]
 exact hall
theorem aes {e:wJ} {a:Int} (h:∀ x∈e.edges,ae8 e a x = true):∀ k,k≤e.edges.length→yK e a k = (List.range k).map fun i:Nat=>(i:Int)
 | 0,_=>rfl
 | k + 1,hk=>by
   rw [yK,aes h k (by omega),ZL,kc]
   have hx:e.edges[k]? = some e.edges[k]:=zd (by omega)
   rw [hx]
   dsimp only
   rw [if_pos (h _ (zM _))];rfl
theorem akO {e:wJ} {a:Int} (h:∀ x∈e.edges,ae8 e a x = false):∀ k,yK e a k = []
 | 0=>rfl
 | k + 1=>by
   rw [yK,akO h k]
   rcases hx:e.edges[k]? with _|x
   ·rfl
   ·have:=h x (zq hx)
    dsimp only
    rw [this];rfl
theorem af1 {l:List Int} {k:Nat} (hk:k≤l.length):agI (XR l k).1 14 = ((List.range (XR l k).1.edges.length).map fun i:Nat=>(i:Int))∧agI (XR l k).1 12 = ((List.range (XR l k).1.edges.length).map fun i:Nat=>(i:Int))∧agI (XR l k).1 13 = []:=by
 have h:=alK hk
 exact ⟨aes (fun x hx=>(h x hx).1) _ (zm _),aes (fun x hx=>(h x hx).2.1) _ (zm _),akO (fun x hx=>(h x hx).2.2) _⟩
theorem am7 {l:List Int} {k:Nat} (hk:k≤l.length):∀ x∈(XR l k).1.ends,(x.suites.any fun y=>y == 2) = true:=by
 obtain ⟨ok,_,⟨n,hn,he⟩,_⟩:=aa3 (l:=l) hk
 rw [he]
 refine ahn hn fun i m c ow fa hi hm=>?_
 show ((suM m c).any fun y=>y == 2) = true
 rcases hm.m with h|h<;>rcases hm.c with h'|h'|h'<;>subst h<;>subst h'<;>rfl
theorem am8 {l:List Int} {k:Nat} (hk:k≤l.length):aso (XR l k).1 [] 1 5 5 14 [] [] 0 = 56∧aso (XR l k).1 [] 1 5 5 13 [] [] 0 = 0:=by
 obtain ⟨h1,h2,h3⟩:=af1 hk
 obtain ⟨_,_,_,hne⟩:=aa3 (l:=l) hk
 have a1:ahI [] 1 5 14 [] [5] = 0:=rfl
 have a2:ahI [] 1 5 13 [] [5] = 0:=rfl
 have hn:((List.range (XR l k).1.edges.length).map fun i:Nat=>(i:Int))≠[]:=by
  rcases he:(XR l k).1.edges with _|⟨x,r⟩
  ·exact absurd he hne
  ·simp [ZL]
 constructor
 ·rw [aso,a1,h1]
  simp only [hn,and_false,if_false];rfl
 ·rw [aso,a2,h3]
  rfl
def gpS (e:wJ) (r:List Int) (k:Nat):St:=Yh [(4,.ptr 0 0),(5,.sl 1 (r.map V.int)),(47,.sl 2 (e.edges.map QK)),(48,V.int e.edges.length),(49,V.int k)] [(0,.box true e.cells)] 1
theorem aoa {n k:Nat} (h:k < n):(((List.range n).map fun i:Nat=>(i:Int)).any fun y=>y == (k:Int)) = true:=by
 rw [Ze]
 exact ⟨k,kO.2 ⟨k,Zj.2 h,rfl⟩,by simp⟩
def Y4:=qd Proofs.Tryz.f3 []
def KM (Γ:Env) (f:Nat):Prop:=∀ (l:List Int),EvN Γ f [.sl 1 (l.map V.int)] (V.bool true)
attribute [local go_sem] Yv Yh in
theorem wo {Γ:Env} {f:Nat} (h:Has Γ.P f 105 Y4.1.1.ac Y4.1.2) (z0:xK Γ 4) (z5:yd Γ 5) (z6:wW Γ 6) (z7:xJ Γ 7) (z8:VE Γ 8) (z9:aaP Γ 9) (z10:jb Γ 10):KM Γ f:=by
 intro l
 refine Qa h zsi zcl zcl fun C hC hm=>?_
 subst hC
 simp only [Y4,qd,DC.ac]
 have hm:C.m = 0:=by simpa using hm
 have aw:=(EvN.b z5)
 have gL:=z0 l
 by_cases hlen:l.length≤400
 rotate_left
 ·have e0:decide ((l.length:Int)≤400) = false:=by simp;omega
  rw [e0] at gL
  (have zy0:=gL.b;have zx:=e0);exact zg
 have e0:decide ((l.length:Int)≤400) = true:=by simp;omega
 rw [e0] at gL
 have n1:=z6 l
 have n2:=z7 l 0 hlen (zA _)
 obtain ⟨ok,k2,_,hne⟩:=aa3 (l:=l) (k:=0) (zA _)
 obtain ⟨p1,p2,p3⟩:=af1 (l:=l) (k:=0) (zA _)
 obtain ⟨r1,r2⟩:=am8 (l:=l) (k:=0) (zA _)
 have s2:=am7 (l:=l) (k:=0) (zA _)
 generalize XR l 0 = w at *
 obtain ⟨e,d1⟩:=w
 simp only at n2 ok k2 hne p1 p2 p3 r1 r2 s2
 have g14:=(z8 e 14 ok (by omega)).b
 have g12:=(z8 e 12 ok (by omega)).b
 rw [p1] at g14
 rw [p2] at g12
 have q14:=(z10 e [] 1 5 5 14 [] [] 0 ok (by omega) (by decide) (by simp) (by simp) (by decide) (by decide)).b
 have q13:=(z10 e [] 1 5 5 13 [] [] 0 ok (by omega) (by decide) (by simp) (by simp) (by decide) (by decide)).b
 rw [r1] at q14
 rw [r2] at q13
 have hle:∀ a:Int,∀ i (h1:i < [e.v,jR,V.int 1,V.int 5,V.int 5,V.int a,jR,.agg [jR,V.int 0]].length) (h2:i < [e.v,.sl 11 (([]:List Qc).map Qc.v),V.int 1,V.int 5,V.int 5,V.int a,.sl 7 (([]:List JM).map JM.v),.agg [.sl 1 (([]:List Int).map V.int),V.int 0]].length),LeV ([e.v,jR,V.int 1,V.int 5,V.int 5,V.int a,jR,.agg [jR,V.int 0]][i]) ([e.v,.sl 11 (([]:List Qc).map Qc.v),V.int 1,V.int 5,V.int 5,V.int a,.sl 7 (([]:List JM).map JM.v),.agg [.sl 1 (([]:List Int).map V.int),V.int 0]][i]):=fun a i hi hi'=>by
  match i,hi with
  | 0,_|2,_|3,_|4,_|5,_=>exact LeV.refl _
  | 1,_=>exact LeV.nil 11
  | 6,_=>exact LeV.nil 7
  | 7,_=>exact LeV.agg2 (LeV.nil 1) (LeV.refl _)
 have q14:=q14.le (args':=[e.v,jR,V.int 1,V.int 5,V.int 5,V.int 14,jR,.agg [jR,V.int 0]]) rfl (hle 14)
 have q13:=q13.le (args':=[e.v,jR,V.int 1,V.int 5,V.int 5,V.int 13,jR,.agg [jR,V.int 0]]) rfl (hle 13)
 have hE:=ok.ed.l
 have hR:=ok.ed.r
 have hS:=ok.sm
 have gH:=fun (c:JG) (hc:c∈e.ends)=>by
  have:=(z9 c.suites 2 (by have:=(hS c hc).hs;omega)).b
  rw [s2 c hc] at this
  exact this
 have hrl:((List.range e.edges.length).map fun i:Nat=>(i:Int)).length = e.edges.length:=by rw [zb,Zp]
 have gR:=fun (k:Nat) (hk:k < e.edges.length)=>by
  have:=(z9 ((List.range e.edges.length).map fun i:Nat=>(i:Int)) (k:Int) (by rw [hrl];omega)).b
  rw [aoa hk] at this
  exact this
 generalize ((List.range e.edges.length).map fun i:Nat=>(i:Int)) = rs at *
 clear hle p1 p2 p3 r1 r2 s2 ok
 have ef:((0:Int) != 0) = false:=rfl
 have lm:(e.edges.map QK).length = e.edges.length:=zb _
 have rm:(rs.map V.int).length = e.edges.length:=by rw [zb,hrl]
 have ez:((e.edges.length:Int) != (e.edges.length:Int)) = false:=by simp
 simp only [wJ.v,wJ.cells,Yv,zy,zw] at n1 n2 g14 g12 q14 q13
 (have zy0:=gL.b;have zx:=za e0 (za lm (za rm (za ef ez))));refine zgo ?_;repeat' first|exact zt|apply zan|intro hc
 refine Qs (ι:=Nat) (fun k=>k≤e.edges.length) (fun k=>gpS e rs k) (fun k=>e.edges.length - k) 0 (zA _) (Qf [(0,9000)]) (Qo [(0,9000)] (by simp only [go_sem,zwl,gpS,lm]<;>exact zcc) (by simp only [go_sem,zwl,gpS,wJ.cells]<;>exact zcc) (by simp [gpS,Qf]) (by simp [gpS];omega) (by omega)) fun k hk K' hL=>?_
 rcases hd:e.edges.drop k with _|⟨x,r⟩
 ·have hkl:=Qr hd
  have e1:decide ((k:Int) < ((e.edges.length:Nat):Int)) = false:=by simp;omega
  have z1:((56:Int) == 0) = false:=rfl
  have z2:((56:Int) == 56) = true:=rfl
  have z3:((0:Int) == 0) = true:=rfl
  have z4:((e.edges.length:Int) == 0) = false:=by
   have:e.edges.length≠0:=fun h=>hne (ky.1 h)
   simp;omega
  have z5:(false == false) = true:=rfl
  clear hL gH gR hR hS
  simp only [gpS,wJ.cells]
  (have zx:=za lm (za rm (za e1 (za z1 (za z2 (za z3 (za z4 z5)))))));exact zg
 obtain ⟨hk',hget,hr⟩:=Qk hd
 have hw:=Qg (k:=k) (by omega)
 have e1:decide ((k:Int) < ((e.edges.length:Nat):Int)) = true:=by simp;omega
 obtain ⟨⟨r1,r2⟩,⟨r3,r4⟩,r5⟩:=hR x (zq hget)
 obtain ⟨c,hc⟩:∃ c,e.ends[x.1.toNat]? = some c:=⟨_,zd (by omega)⟩
 obtain ⟨s,hs⟩:∃ s,e.ends[x.2.toNat]? = some s:=⟨_,zd (by omega)⟩
 have g1:=gH c (zq hc)
 have g2:=gH s (zq hs)
 have g3:=gR k (by omega)
 have vx:(e.edges.map QK)[k]? = some (QK x):=by rw [zk,hget];rfl
 have vc:(e.ends.map JG.v)[x.1.toNat]? = some c.v:=by rw [zk,hc];rfl
 have vs:(e.ends.map JG.v)[x.2.toNat]? = some s.v:=by rw [zk,hs];rfl
 have hnn:=fun s'=>hL s' (k + 1)
 clear hL gH gR hR hS q14 q13 aw
 simp only [QK,JG.v,JG.cells] at vx vc vs
 simp only [gpS,wJ.cells] at hnn ⊢
 have tt:(true == true) = true:=rfl
 (have zx:=za lm (za e1 (za hw (za vx (za vc (za vs tt))))));refine zgo ?_;repeat' first|exact zt|apply zan|intro hc
 all_goals exact hnn _ (Qf []) hk' (by omega) (Qo [] (by simp only [go_sem,zwl,lm]<;>exact zcc) (by simp only [go_sem,zwl,Uh,qJ]<;>exact zcc) (by simp [Qf]) (by simp) (by omega))
end Av
end
