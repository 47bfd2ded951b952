/- K34 -/
import Derived.Test.YtjolhibbihejgaaGreatK33
import Derived.Test.YtjolhibbihejgaaGreatK12
set_option linter.unusedVariables false
set_option linter.unusedSimpArgs false
noncomputable section
set_option maxRecDepth 10000
set_option maxHeartbeats 4000000
namespace Av
open Go
attribute [local irreducible] AWp UY qH yr awS awC aaT awQ abS Q1 Ub aaE awR Ux awB okR ym ris
theorem apg (l:List (List UInt8)):List.take l.length (l.map V.str) = l.map V.str:=zi (by simp)
def agv (c:Jl):V:=if U8 c = false then .tup [.sl 1 [],V.int 9] else amU (abR c)
theorem ahu (c:Jl):(agv c).closed:=by
 unfold agv
 split
 ·simp only [V.closed,Qd,and_self]
 ·exact aax _
def ass (x:Qn):List UInt8:=if x.fB = false then [] else if x.dep > 16 then [] else if x.pB.length > 4096 then [] else x.pB
theorem aoo (x:Qn):∃ n:Int,amU x = .tup [.sl 1 (JT (ass x)),V.int n]:=by
 unfold amU ass
 repeat' split
 all_goals exact ⟨_,rfl⟩
theorem ap1 (x:Qn):(ass x).length≤4096:=by
 unfold ass
 repeat' split
 all_goals first|exact zA _|omega
def jA:=qd Proofs.Tryz.f53 []
def xF (Γ:Env) (f:Nat):Prop:=∀ (c:Jl) (hn:c.names.length < 2 ^ 30),EvC Γ f [c.v] (c.v)
attribute [local go_sem] Jl.cells in
theorem ag7 {Γ:Env} {f:Nat} (h:Has Γ.P f 9 jA.1.1.ac jA.1.2) :xF Γ f:=by
 intro c hn
 refine Ql h zsi (by simp only [Jl.v,Jl.cells,V.closed,Qd,and_self]) fun C hC hm=>?_
 subst hC
 simp only [jA,qd,DC.ac]
 have htk:=apg c.names
 have hln:(c.names.map V.str).length = c.names.length:=zb _
 simp only [Jl.v]
 (have zx:=za htk hln);refine zgo ?_;repeat' first|exact zt|apply zan|intro hc
 all_goals first|exact zr|(refine Qi _ rfl ?_;simp only [go_sem,Jl.cells,htk];done)
def qg:=qd Proofs.Tryz.f55 []
def j8 (Γ:Env) (f:Nat):Prop:=∀ (c:Jl) (hc:c.T),EvC Γ f [c.v] (agv c)
attribute [local go_sem] Jl.cells in
theorem afB {Γ:Env} {f:Nat} (h:Has Γ.P f 12 qg.1.1.ac qg.1.2) (z0:KA Γ 54) (z1:xC Γ 95) (z2:ja Γ 94):j8 Γ f:=by
 intro c hc
 refine Ql h zsi (ahu _) fun C hC hm=>?_
 subst hC
 simp only [qg,qd,DC.ac]
 have l1:=hc.l1
 have l2:=hc.l2
 have l3:=hc.l3
 have ck:=(z0 c (by omega) (by omega) (by omega) (fun x hx=>by have:=hc.l4 x hx;omega)).b
 have bd:=(z1 c hc).b
 have bs:=ai2 hc
 have en:=(z2 (abR c) (by omega)).b
 simp only [Jl.v,Jl.cells] at ck bd ⊢
 rw [agv]
 cases hq:U8 c with
 | false =>
   rw [if_pos rfl]
   rw [hq,if_neg (by decide)] at ck
   exact zg
 | true =>
   rw [if_neg (by decide)]
   rw [hq,if_pos rfl] at ck
   obtain ⟨n,hn⟩:=aoo (abR c)
   rw [hn] at en ⊢
   generalize abR c = x at *
   obtain ⟨_,_,_,_⟩:=x
   rw [Qn.v_eq] at *
   exact zg
def amI (c:Jl):Jl:={ c with skey:=0,ssum:=0 }
def ajm:Jl:=⟨0,[],[],0,0,0,0,0,0,0,false,0,[],0,0⟩
def anb (c:Jl) (key:Int):Bool:=U8 (amI c) && (decide (key≥0) && decide (key≤2147483648))
def ael (c:Jl) (key:Int):Jl:=if anb c key = true then { c with skey:=key,ssum:=ace (ass (abR (amI c))) } else ajm
def aph (c:Jl) (key:Int):Int:=if anb c key = true then 0 else 9
theorem ath {c:Jl} (h:c.T):(amI c).T:=⟨h.i1,h.i2,h.i3,h.i4,h.i5,h.i6,h.i7,h.i8,h.i9,h.l1,h.l2,h.l3,h.l4⟩
theorem akj (c:Jl):c.v.closed:=by simp only [Jl.v,Jl.cells,V.closed,Qd,and_self]
def jy:=qd Proofs.Tryz.f30 []
def xD (Γ:Env) (f:Nat):Prop:=∀ (c:Jl) (key:Int) (hc:c.T),EvC Γ f [c.v,V.int key] (.tup [(ael c key).v,V.int (aph c key)])
attribute [local go_sem] Jl.cells in
theorem ag5 {Γ:Env} {f:Nat} (h:Has Γ.P f 35 jy.1.1.ac jy.1.2) (z0:xF Γ 53) (z1:KA Γ 54) (z2:j8 Γ 55) (z3:wS Γ 56):xD Γ f:=by
 intro c key hc
 refine Ql h zsi (⟨akj _,trivial,trivial⟩) fun C hC hm=>?_
 subst hC
 simp only [jy,qd,DC.ac]
 have l1:=hc.l1
 have l2:=hc.l2
 have l3:=hc.l3
 have hb:=ath hc
 have cp:=(z0 c (by omega)).b
 have ck:=(z1 (amI c) (by show c.issuer.length < _;omega) (by show c.subject.length < _;omega) (by show c.names.length < _;omega) (fun x hx=>by have:=hc.l4 x hx;omega)).b
 have by9:=(z2 (amI c) hb).b
 have sm:=(z3 (ass (abR (amI c))) (by have:=ap1 (abR (amI c));omega)).b
 have hvb:(amI c).v = .agg [V.int c.serial,V.str c.issuer,V.str c.subject,V.int c.kalg,V.int c.kbits,V.int c.kid,V.int c.halg,V.int c.hbits,V.int c.from_,V.int c.to_,V.bool c.auth,V.int c.path,.sl 1 (c.names.map V.str),V.int 0,V.int 0]:=rfl
 rw [hvb] at ck by9
 simp only [Jl.v,Jl.cells] at cp ⊢
 cases hq:U8 (amI c) with
 | false =>
   have hs:anb c key = false:=by rw [anb,hq];rfl
   rw [hq,if_neg (by decide)] at ck
   simp only [ael,aph,hs,ajm,zw]
   exact zg
 | true =>
   rw [hq,if_pos rfl] at ck
   have hby:agv (amI c) = amU (abR (amI c)):=by rw [agv,hq,if_neg (by decide)]
   rw [hby] at by9
   obtain ⟨n,hn⟩:=aoo (abR (amI c))
   rw [hn] at by9
   rcases h1:decide (key≥0) with _|_<;>rcases h2:decide (key≤2147483648) with _|_
   all_goals
    have g1:decide (key < 0) = !decide (key≥0):=by by_cases h:key < 0<;>simp [h]<;>omega
    have g2:decide (key > 2147483648) = !decide (key≤2147483648):=by by_cases h:key > 2147483648<;>simp [h]<;>omega
    have hs:anb c key = (U8 (amI c) && (decide (key≥0) && decide (key≤2147483648))):=rfl
    rw [hq,h1,h2] at hs
    rw [h1] at g1
    rw [h2] at g2
    simp only [Zx,Zh,Bool.and_self,Zd,ku] at hs g1 g2
    simp only [ael,aph,hs,ajm,zw,if_true,if_false,zD]
    (have zx:=za g1 g2);exact zg
def aeI (name:List UInt8) (k1 k2 id til:Int):Jl:=⟨id,[114,111,111,116],name,k1,k2,id,3,0,0,til,false,0,[name],0,0⟩
def afv (name:List UInt8) (k1 k2 id anchor til:Int):Jz:=⟨k1,k2,id,[ael (aeI name k1 k2 id til) anchor]⟩
def vB:=qd Proofs.Tryz.f17 []
def aaO (Γ:Env) (f:Nat):Prop:=EvN Γ f [] (.agg [V.int 5,V.int 2048])
theorem aj4 {Γ:Env} {f:Nat} (h:Has Γ.P f 2 vB.1.1.ac vB.1.2) :aaO Γ f:=by
 refine Qa h zsi zcl zcl fun C hC hm=>?_
 subst hC
 simp only [vB,qd,DC.ac]
 refine zgo ?_;repeat' first|exact zt|apply zan|intro hc
 all_goals first|exact zr|(refine Qi _ rfl ?_;simp only [go_sem];simp;done)
def xn:=qd Proofs.Tryz.f16 []
def wV (Γ:Env) (f:Nat):Prop:=∀ (name:List UInt8) (k1 k2 id anchor til:Int) (hT:(aeI name k1 k2 id til).T),EvC Γ f [V.str name,.agg [V.int k1,V.int k2],V.int id,V.int anchor,V.int til] ((afv name k1 k2 id anchor til).v)
theorem aiB {Γ:Env} {f:Nat} (h:Has Γ.P f 32 xn.1.1.ac xn.1.2) (z0:xD Γ 30):wV Γ f:=by
 intro name k1 k2 id anchor til hT
 refine Ql h zsi (by simp only [Jz.v,Jz.cells,V.closed,Qd,and_self]) fun C hC hm=>?_
 subst hC
 simp only [xn,qd,DC.ac]
 have gS:=z0 (aeI name k1 k2 id til) anchor hT
 have hv:(afv name k1 k2 id anchor til).v = .agg [V.int k1,V.int k2,V.int id,.sl 15 [(ael (aeI name k1 k2 id til) anchor).v]]:=rfl
 rw [hv]
 generalize ael (aeI name k1 k2 id til) anchor = rc at *
 generalize aph (aeI name k1 k2 id til) anchor = er at *
 simp only [aeI,Jl.v,Jl.cells,zy,zw] at gS ⊢
 repeat' (first|(refine zsk ?_;intro K' hK)|refine zsp ?_|(refine zsc ?_ ?_<;>intro hc<;>first|exact znh|try simp only [znz] at hc)|simp (maxSteps:=1000000) only [go_sem]|(refine hK _ ?_;clear hK K')|apply zan|(apply atl;(focus first|exact gS))|(apply QJ;(focus first|exact (z0 _ _ zsd).b))|exact zsq|fail)
 all_goals
  refine Qi _ rfl ?_
  show conv _ _ _ (.agg [V.int k1,V.int k2,V.int id,.hd 23000 0 1]) _
  refine ⟨by simp [conv,V.int],by simp [conv,V.int],by simp [conv,V.int],?_,trivial⟩
  rw [x6]
  refine ⟨trivial,by decide,.inr ⟨true,_,rfl,?_,⟨by simp,trivial⟩,⟨by simp only [V.closed,Qd,and_self],trivial⟩⟩⟩
  exact ⟨Qb _ _ _ _ (by simp only [V.closed,Qd,and_self]),trivial⟩
def ao3 (c:Int):Int×Int:=if c = 0 then (2,0) else if c = 1 then (1,0) else if c = 2 then (5,2048) else if c = 3 then (16,128) else if c = 4 then (3,0) else (15,168)
theorem apc {c:Int} (h:0≤c∧c < 6):([.agg [V.int 2,V.int 0],.agg [V.int 1,V.int 0],.agg [V.int 5,V.int 2048],.agg [V.int 16,V.int 128],.agg [V.int 3,V.int 0],.agg [V.int 15,V.int 168]]:List V)[c.toNat]? = some (.agg [V.int (ao3 c).1,V.int (ao3 c).2]):=by
 obtain rfl|rfl|rfl|rfl|rfl|rfl:c = 0∨c = 1∨c = 2∨c = 3∨c = 4∨c = 5:=by omega
 all_goals rfl
theorem aqX:Qv 2 0 > 0∧Qv 1 0 > 0∧Qv 5 2048 > 0∧Qv 16 128 > 0∧Qv 3 0 > 0∧Qv 15 168 > 0:=by decide +kernel
theorem ajo {c:Int} (h:0≤c∧c < 6):Qv (ao3 c).1 (ao3 c).2 > 0:=by
 obtain ⟨s1,s2,s3,s4,s5,s6⟩:=aqX
 obtain rfl|rfl|rfl|rfl|rfl|rfl:c = 0∨c = 1∨c = 2∨c = 3∨c = 4∨c = 5:=by omega
 all_goals assumption
def xR (l:List Int) (day:Int) (k:Nat):Nat→List (Int×Int×Int)×Int×Nat
 | 0=>([],day,k)
 | n + 1=>((xR l day k n).1++[((ao3 (Jf l (xR l day k n).2.2 6).1).1,(ao3 (Jf l (xR l day k n).2.2 6).1).2,(xR l day k n).2.1)],(xR l day k n).2.1 + 1 + (ofD l (Jf l (xR l day k n).2.2 6).2 [5,30,0,100]).1,(ofD l (Jf l (xR l day k n).2.2 6).2 [5,30,0,100]).2)
def abd (l:List Int) (k:Nat) (name:List UInt8):Jh×Nat :=
 let a:=Jf l k 2
 let b:=Jf l a.2 4
 let c:=Jf l b.2 20
 let d:=Jf l c.2 3
 let s:=xR l c.1 d.2 (1 + d.1).toNat
 let o:=ofD l s.2.2 [50,300,0,3000]
 (⟨name,1 + a.1,1 + b.1,s.1,c.1 + o.1⟩,o.2)
theorem ajO {l:List Int} {day:Int} {k:Nat} (hk:k≤l.length) (hd:0≤day∧day≤19):∀ n,n≤3→(xR l day k n).2.2≤l.length∧(xR l day k n).1.length = n∧(day + (n:Int)≤(xR l day k n).2.1∧(xR l day k n).2.1≤day + 101 * (n:Int))∧(∀ y∈(xR l day k n).1,Qv y.1 y.2.1 > 0∧day≤y.2.2∧y.2.2 < (xR l day k n).2.1)∧((xR l day k n).1.Pairwise fun a b=>a.2.2 < b.2.2)∧(∀ y,(xR l day k n).1[0]? = some y→y.2.2 = day)
 | 0,_=>⟨hk,rfl,(by show day + ((0:Nat):Int)≤day∧day≤day + 101 * ((0:Nat):Int);omega),(fun y hy=>by simp [xR] at hy),List.Pairwise.nil,(fun y hy=>by simp [xR] at hy)⟩
 | n + 1,hn=>by
   obtain ⟨h1,h2,h3,h4,h5,h6⟩:=ajO hk hd n (by omega)
   rw [xR]
   generalize xR l day k n = s at *
   have r1:=QU (l:=l) (k:=s.2.2) (n:=6) (by omega) (by omega)
   have k1:=JX (n:=6) h1
   have us:=ajo r1
   generalize Jf l s.2.2 6 = a at *
   have r2:=acn (l:=l) (k:=a.2) (xs:=[5,30,0,100]) (by decide) (by decide)
   have k2:=akW (xs:=[5,30,0,100]) k1
   generalize ofD l a.2 [5,30,0,100] = o at *
   simp only [zo,zl,or_false] at r2
   refine ⟨k2,by simp [h2],by dsimp only;omega,?_,?_,?_⟩
   ·intro y hy
    rcases zU.1 hy with hy|hy
    ·obtain ⟨q1,q2,q3⟩:=h4 y hy
     exact ⟨q1,q2,by dsimp only;omega⟩
    ·rw [zu.1 hy]
     exact ⟨us,by dsimp only;omega,by dsimp only;omega⟩
   ·rw [kP]
    refine ⟨h5,k9 _ _,fun y hy z hz=>?_⟩
    rw [zu.1 hz]
    exact (h4 y hy).2.2
   ·intro y hy
    rcases n with _|m
    ·have hs:s.1 = []:=ky.1 h2
     rw [hs] at hy
     simp only [List.nil_append,List.getElem?_cons_zero,zf] at hy
     rw [← hy]
     dsimp only;omega
    ·rw [kf (by omega)] at hy
     exact h6 y hy
theorem apO {l:List Int} {k:Nat} {name:List UInt8} (hk:k≤l.length) (hn:Qw name = true) (hl:name.length < 2 ^ 60):(abd l k name).1.Ok∧(abd l k name).2≤l.length:=by
 have r1:=QU (l:=l) (k:=k) (n:=2) (by omega) (by omega)
 have k1:=JX (n:=2) hk
 simp only [abd]
 generalize Jf l k 2 = a at *
 have r2:=QU (l:=l) (k:=a.2) (n:=4) (by omega) (by omega)
 have k2:=JX (n:=4) k1
 generalize Jf l a.2 4 = b at *
 have r3:=QU (l:=l) (k:=b.2) (n:=20) (by omega) (by omega)
 have k3:=JX (n:=20) k2
 generalize Jf l b.2 20 = c at *
 have r4:=QU (l:=l) (k:=c.2) (n:=3) (by omega) (by omega)
 have k4:=JX (n:=3) k3
 generalize Jf l c.2 3 = d at *
 obtain ⟨h1,h2,h3,h4,h5,h6⟩:=ajO (day:=c.1) k4 (by omega) (1 + d.1).toNat (by omega)
 generalize xR l c.1 d.2 (1 + d.1).toNat = s at *
 have r5:=acn (l:=l) (k:=s.2.2) (xs:=[50,300,0,3000]) (by decide) (by decide)
 have k5:=akW (xs:=[50,300,0,3000]) h1
 generalize ofD l s.2.2 [50,300,0,3000] = o at *
 simp only [zo,zl,or_false] at r5
 refine ⟨⟨hn,hl,by dsimp only;omega,by dsimp only;omega,by dsimp only;omega,fun y hy=>?_,h5,fun y hy=>?_⟩,k5⟩
 ·obtain ⟨q1,q2,q3⟩:=h4 y hy
  exact ⟨q1,by omega,by omega⟩
 ·have:=h6 y hy
  dsimp only;omega
def itS (l:List Int) (name:List UInt8) (kd pu:Int) (m:Nat) (s:List (Int×Int×Int)×Int×Nat):St:=Yh [(0,.ptr 0 0),(4,.ptr 1 0),(5,.ptr 2 0),(6,V.int s.2.1),(7,V.int m)] [(0,.box true (Yv l s.2.2)),(1,.box true [V.str [],V.int 0,V.int 0,.hd 3 0 0,V.int 0]),(2,.box true [V.str name,V.int kd,V.int pu,.hd 4 0 s.1.length,V.int 0]),(3,.buf true 3 []),(4,.buf true 3 (s.1.map ad4))] 5
def xq:=qd Proofs.Tryz.f18 [⟨fun _=>false,[1,2,4,7],.one 0 (.one 5 (.one 6 (.or 1 (.or 2 (.one 3 (.or 4 (.one 7 (.one 8 (.one 9 (.one 10 (.done))))) (.or 7 (.one 4 (.one 8 (.one 9 (.one 10 (.done))))) (.done)))) (.or 7 (.one 2 (.one 3 (.one 4 (.one 8 (.one 9 (.one 10 (.done))))))) (.done))) (.or 7 (.one 1 (.one 2 (.one 3 (.one 4 (.one 8 (.one 9 (.one 10 (.done)))))))) (.done)))))⟩]
def wX (Γ:Env) (f:Nat):Prop:=∀ (l:List Int) (k:Nat) (name:List UInt8) (hl:l.length≤400) (hk:k≤l.length),EvD Γ f [V.str name] (Yv l k) ((abd l k name).1.v) (Yv l (abd l k name).2)
attribute [local go_sem] Int.toNat_zero Yv Yh in
theorem aiD {Γ:Env} {f:Nat} (h:Has Γ.P f 62 xq.1.1.ac xq.1.2) (z0:JR Γ 13) (z1:VD Γ 14):wX Γ f:=by
 intro l k name hl hk
 refine Wf h zsi (by first|exact Qm _ _|simp only [Jh.v,Jh.cells,V.closed,Qd,and_self,and_true]) zc3 zc3 fun C hC hm=>?_
 subst hC
 simp only [xq,qd,DC.ac]
 have n1:=z0 l k 2 hl hk
 have r1:=QU (l:=l) (k:=k) (n:=2) (by omega) (by omega)
 have k1:=JX (n:=2) hk
 simp only [abd]
 generalize Jf l k 2 = x1 at *
 obtain ⟨a1,q1⟩:=x1
 simp only at n1 r1 k1 ⊢
 have n2:=z0 l q1 4 hl k1
 have r2:=QU (l:=l) (k:=q1) (n:=4) (by omega) (by omega)
 have k2:=JX (n:=4) k1
 generalize Jf l q1 4 = x2 at *
 obtain ⟨a2,q2⟩:=x2
 simp only at n2 r2 k2 ⊢
 have n3:=z0 l q2 20 hl k2
 have r3:=QU (l:=l) (k:=q2) (n:=20) (by omega) (by omega)
 have k3:=JX (n:=20) k2
 generalize Jf l q2 20 = x3 at *
 obtain ⟨day,q3⟩:=x3
 simp only at n3 r3 k3 ⊢
 have n4:=z0 l q3 3 hl k3
 have r4:=QU (l:=l) (k:=q3) (n:=3) (by omega) (by omega)
 have k4:=JX (n:=3) k3
 generalize Jf l q3 3 = x4 at *
 obtain ⟨a4,q4⟩:=x4
 simp only at n4 r4 k4 ⊢
 have w1:IntKind.i64.wrap (1 + a1) = 1 + a1:=Q9 (by omega) (by omega)
 have w2:IntKind.i64.wrap (1 + a2) = 1 + a2:=Q9 (by omega) (by omega)
 obtain ⟨n,hn⟩:∃ n:Nat,1 + a4 = n:=⟨(1 + a4).toNat,by omega⟩
 have w4:IntKind.i64.wrap (1 + a4) = (n:Int):=by rw [hn];exact Q9 (by omega) (by omega)
 rw [hn,Int.toNat_natCast]
 simp only [Yv,zy,zw] at n1 n2 n3 n4
 (have zx:=za w1 (za w2 w4));refine zgo ?_;repeat' first|exact zt|apply zan|intro hc
 refine aoN 9001 3 3 rfl rfl ?_
 simp only [List.set_cons_succ,List.set_cons_zero]
 refine Qs (ι:=Nat) (fun j=>j≤n) (fun j=>itS l name (1 + a1) (1 + a2) (n - j) (xR l day q4 j)) (fun j=>n - j) 0 (zA _) (Qf [(2,9001),(3,5),(4,18001)]) (Qo [(2,9001),(3,5),(4,18001)] (by simp only [go_sem,zwl,itS,xR,List.length_nil,Nat.sub_zero]<;>exact zcc) (by simp only [go_sem,zwl,itS,xR,Yv,zw,zy]<;>exact zcc) (by simp [itS,Qf]) (by simp [itS];omega) (by omega)) fun j hj K' hL=>?_
 have hK:=ajO (day:=day) k4 (by omega) j (by omega)
 obtain ⟨s1,s2,s3,s4,s5,s6⟩:=hK
 rcases kR j n with hlt|hge
 ·have e1:decide (((n - j:Nat):Int) > 0) = true:=by simp;omega
  have hw:IntKind.i64.wrap (((n - j:Nat):Int) - 1) = ((n - (j + 1):Nat):Int):=by rw [Q9 (by omega) (by omega)];omega
  have hsn:xR l day q4 (j + 1) = ((xR l day q4 j).1++[((ao3 (Jf l (xR l day q4 j).2.2 6).1).1,(ao3 (Jf l (xR l day q4 j).2.2 6).1).2,(xR l day q4 j).2.1)],(xR l day q4 j).2.1 + 1 + (ofD l (Jf l (xR l day q4 j).2.2 6).2 [5,30,0,100]).1,(ofD l (Jf l (xR l day q4 j).2.2 6).2 [5,30,0,100]).2):=rfl
  have hnn:=fun s'=>hL s' (j + 1)
  simp only [itS,hsn] at hnn ⊢
  clear hL hsn
  generalize xR l day q4 j = s at *
  obtain ⟨out,d,q⟩:=s
  simp only at s1 s2 s3 s4 hnn ⊢
  have nA:=z0 l q 6 hl s1
  have rA:=QU (l:=l) (k:=q) (n:=6) (by omega) (by omega)
  have kA:=JX (n:=6) s1
  have hg:=apc rA
  generalize Jf l q 6 = xa at *
  obtain ⟨c,qa⟩:=xa
  simp only at nA rA kA hg hnn
  have nB:=z1 l qa [5,30,0,100] hl kA (by decide) (by decide)
  have rB:=acn (l:=l) (k:=qa) (xs:=[5,30,0,100]) (by decide) (by decide)
  generalize ofD l qa [5,30,0,100] = xb at *
  obtain ⟨ob,qb⟩:=xb
  simp only [zo,zl,or_false] at nB rB hnn
  have w6:IntKind.i64.wrap (d + 1) = d + 1:=Q9 (by omega) (by omega)
  have w7:IntKind.i64.wrap (d + 1 + ob) = d + 1 + ob:=Q9 (by omega) (by omega)
  generalize (ao3 c).1 = u1 at *
  generalize (ao3 c).2 = u2 at *
  simp only [Yv,zy,zw] at nA nB hnn
  have hol:(out.map ad4).length = out.length:=zb _
  have htl:List.take out.length (out.map ad4) = out.map ad4:=zi (by simp)
  have q1':(out.length + 1) * 3≤2 ^ 40:=by omega
  have q2':out.length + 1≤2 ^ 40:=by omega
  (have zx:=za e1 (za hw (za hg (za w6 (za w7 (za hol (za htl (za q1' q2'))))))));refine zgo ?_;repeat' first|exact zt|apply zan|intro hc
  all_goals exact hnn _ (Qf [(4,21005)]) (by omega) (by omega) (Qo [(4,21005)] (by simp only [go_sem,zwl,zn,List.length_cons,List.length_nil]<;>exact zcc) (by simp only [go_sem,zwl,zn,List.length_cons,List.length_nil,kc,zy,zw,ad4]<;>exact zcc) (by simp [Qf]) (by simp;omega) (by omega))
 obtain rfl:j = n:=by omega
 have e1:decide (((j - j:Nat):Int) > 0) = false:=by simp
 clear hL
 have nO:=z1 l (xR l day q4 j).2.2 [50,300,0,3000] hl s1 (by decide) (by decide)
 have rO:=acn (l:=l) (k:=(xR l day q4 j).2.2) (xs:=[50,300,0,3000]) (by decide) (by decide)
 obtain ⟨y0,hy0⟩:∃ y,(xR l day q4 j).1[0]? = some y:=⟨_,zd (by omega)⟩
 have hd0:=s6 y0 hy0
 generalize ofD l (xR l day q4 j).2.2 [50,300,0,3000] = xo at *
 obtain ⟨oo,qo⟩:=xo
 simp only [zo,zl,or_false] at nO rO
 simp only [itS]
 generalize xR l day q4 j = s at *
 obtain ⟨out,d,q⟩:=s
 simp only at s1 s2 s3 s4 hy0 nO ⊢
 have v0:(out.map ad4)[0]? = some (ad4 y0):=by rw [zk,hy0];rfl
 have w8:IntKind.i64.wrap (day + oo) = day + oo:=Q9 (by omega) (by omega)
 have htl:List.take out.length (out.map ad4) = out.map ad4:=zi (by simp)
 simp only [Yv,zy,zw,ad4,hd0] at nO v0
 (have zx:=za e1 (za v0 (za w8 htl)));refine zgo ?_;repeat' first|exact zt|apply zan|intro hc
 all_goals
  refine v8 _ rfl rfl (Qm l qo) ?_
  show conv _ _ _ (.agg [V.str name,V.int (1 + a1),V.int (1 + a2),.hd 4 0 out.length,V.int (day + oo)]) (.agg [V.str name,V.int (1 + a1),V.int (1 + a2),.sl 3 (out.map ad4),V.int (day + oo)])
  refine ⟨by simp [conv,V.str],by simp [conv,V.int],by simp [conv,V.int],?_,by simp [conv,V.int],trivial⟩
  rw [x6]
  exact ⟨trivial,by decide,.inl ⟨true,_,rfl,by rw [zZ];exact htl.symm⟩⟩
end Av
end
