/- K32 -/
import Derived.Test.YtjolhibbihejgaaGreatK29
import Derived.Test.YtjolhibbihejgaaGreatK31
import Derived.Test.YtjolhibbihejgaaGreatK12
set_option linter.unusedVariables false
set_option linter.unusedSimpArgs false
noncomputable section
set_option maxRecDepth 10000
set_option maxHeartbeats 4000000
namespace Av
open Go
attribute [local irreducible] AWp UY qH yr awS awC aaT awQ abS Q1 Ub aaE awR Ux awB okR ym ris
theorem aqv (day od alg bits:Int):∀ x∈vX day od alg bits,x.Sz:=by
 intro x hx
 simp only [vX,zo,zl,or_false] at hx
 rcases hx with rfl|rfl
 ·exact ⟨by show (3:Nat) < 2 ^ 60;omega,by show (3:Nat) < 2 ^ 60;omega,by show (0:Nat) < 2 ^ 60;omega⟩
 ·exact ⟨by show (3:Nat) < 2 ^ 60;omega,by show (3:Nat) < 2 ^ 60;omega,by show (0:Nat) < 2 ^ 60;omega⟩
theorem alD {l:List Qc} {gap age alg:Int} {xs:List JM} {days:List Int} (he:Wg l gap = 0) (ha:0≤age∧age≤4000) (hd:∀ d∈days,0≤d∧d≤40000) (hal:1≤alg∧alg≤22) (hx:∀ x∈xs,aiv x = true):ahI l gap age alg xs days = 0:=by
 have h1:(decide (age < 0) || (decide (age > 4000) || days.any wA)) = false:=by
  rw [kp,kp,zB,zB,ZR]
  refine ⟨by omega,by omega,fun d h=>?_⟩
  have:=hd d h
  rw [Bool.not_eq_true,wA,kp,zB,zB]
  omega
 have h2:(decide (alg < 1) || decide (alg > 22)) = false:=by
  rw [kp,zB,zB];omega
 have h3:xs.any (fun x=>!aiv x) = false:=by
  rw [ZR];intro x h;simp [hx x h]
 rw [ahI,if_neg (by simpa using he),h1,if_neg (by decide),h2,if_neg (by decide),h3,if_neg (by decide)]
theorem akF {day od alg bits D age gap:Int} (h1:day < od) (hd:day≤D) (ha:D - age≤day) (ho:D≤od) (hal:1≤alg∧alg≤22) (xs:List JM) (keys:List Int) (need:Int):ajW (vX day od alg bits) gap D age alg xs keys need = if D < od then xs.any (adu false (alg,bits) [[97,112,112]] D keys need) else true:=by
 rw [ajW,asv h1 hd ha ho hal]
 split<;>simp
def abO:=qd Proofs.Tryz.f11 []
def ac8 (Γ:Env) (f:Nat):Prop:=∀ (h0:List UInt8) (d:Int),EvC Γ f [V.str h0,V.int d] ((Qc.v ⟨3,h0,1,d,90,4,[116,108,115],0,0,1,[]⟩))
theorem amj {Γ:Env} {f:Nat} (h:Has Γ.P f 8 abO.1.1.ac abO.1.2) :ac8 Γ f:=by
 intro h0 d
 refine Ql h zsi (by simp only [Qc.v,Qc.cells,V.closed,Qd,and_self,and_true]) fun C hC hm=>?_
 subst hC
 simp only [abO,qd,DC.ac]
 simp only [Qc.v,Qc.cells]
 refine zgo ?_;repeat' first|exact zt|apply zan|intro hc
 all_goals first|(refine Qi _ rfl ?_;simp only [go_sem];first|done|exact ⟨rfl,rfl⟩|(simp;done))
def qk:=qd Proofs.Tryz.f5 []
def yd (Γ:Env) (f:Nat):Prop:=EvN Γ f [] (V.bool true)
theorem afF {Γ:Env} {f:Nat} (h:Has Γ.P f 44 qk.1.1.ac qk.1.2) (z0:ac8 Γ 11) (z1:jN Γ 12):yd Γ f:=by
 refine Qa h zsi zcl zcl fun C hC hm=>?_
 subst hC
 simp only [qk,qd,DC.ac]
 have nA:=(z0 [97,112,112] 3).b
 have s5:Qv 1 0 > 0:=aqW.1
 have hE:=am3 (day:=3) (od:=5) (alg:=1) (bits:=0) (gap:=0) (by omega) (by omega) (by omega) (by omega) s5
 have q1:=alD (xs:=[]) (days:=[4]) hE (age:=10) (alg:=1) (by omega) (by simp) (by omega) (by simp)
 have q2:=alD (xs:=[]) (days:=[5]) hE (age:=10) (alg:=1) (by omega) (by simp) (by omega) (by simp)
 have v1:=akF (day:=3) (od:=5) (alg:=1) (bits:=0) (D:=4) (age:=10) (gap:=0) (by omega) (by omega) (by omega) (by omega) (by omega) [] [] 0
 have v2:=akF (day:=3) (od:=5) (alg:=1) (bits:=0) (D:=5) (age:=10) (gap:=0) (by omega) (by omega) (by omega) (by omega) (by omega) [] [] 0
 rw [if_pos (by omega),List.any_nil] at v1
 rw [if_neg (by omega)] at v2
 have g1:=(z1 (vX 3 5 1 0) 0 4 10 1 [] [] 0 (by simp [vX]) (aqv _ _ _ _) (by simp) (by simp) (by simp)).b
 have g2:=(z1 (vX 3 5 1 0) 0 5 10 1 [] [] 0 (by simp [vX]) (aqv _ _ _ _) (by simp) (by simp) (by simp)).b
 rw [arG,if_neg (by simpa using q1),v1] at g1
 rw [arG,if_neg (by simpa using q2),v2] at g2
 have hle:∀ d:Int,∀ i (h1:i < 7) (h2:i < 7),LeV ([.sl 11 ((vX 3 5 1 0).map Qc.v),V.int 0,V.int d,V.int 10,V.int 1,jR,.agg [jR,V.int 0]]:List V)[i] ([.sl 11 ((vX 3 5 1 0).map Qc.v),V.int 0,V.int d,V.int 10,V.int 1,.sl 7 (([]:List JM).map JM.v),.agg [.sl 1 (([]:List Int).map V.int),V.int 0]]:List V)[i]:=fun d i h1 h2=>by
  match i,h1 with
  | 0,_|1,_|2,_|3,_|4,_=>exact LeV.refl _
  | 5,_=>exact LeV.nil 7
  | 6,_=>exact LeV.agg2 (LeV.nil 1) (LeV.refl _)
 have g1:=g1.le (args':=[.sl 11 ((vX 3 5 1 0).map Qc.v),V.int 0,V.int 4,V.int 10,V.int 1,jR,.agg [jR,V.int 0]]) rfl (hle 4)
 have g2:=g2.le (args':=[.sl 11 ((vX 3 5 1 0).map Qc.v),V.int 0,V.int 5,V.int 10,V.int 1,jR,.agg [jR,V.int 0]]) rfl (hle 5)
 clear hle v1 v2 q1 q2 hE s5
 have e0:((0:Int) == 0) = true:=rfl
 simp only [vX,atF,zy,zw,Qc.v,Qc.cells] at nA g1 g2
 (have zx:=e0);exact zg
def QE:=qd Proofs.Tryz.f69 []
def Q3 (Γ:Env) (f:Nat):Prop:=∀ (xs:List Jz) (g:Nat) (cap:List V) (p:Jz→Bool) (hp:∀ x∈xs,EvN Γ g (Jz.v x :: cap) (V.bool (p x))) (hcap:Qd cap) (hl:xs.length < 2 ^ 62),EvN Γ f [.sl 4 (xs.map Jz.v),.clo g cap] (V.int (UX p 0 xs))
attribute [local go_sem] Jz.cells Jz.v in
theorem YP {Γ:Env} {f:Nat} (h:Has Γ.P f 19 QE.1.1.ac QE.1.2) :Q3 Γ f:=by
 intro xs g cap p hp hcap hl
 refine Qa h zsi zcl zcl fun C hC hm=>?_
 subst hC
 simp only [QE,qd,DC.ac]
 have s1:∀ o,JD o cap = cap:=fun o=>QC o cap hcap
 have s2:∀ o B,Qp o B cap = True:=fun o B=>eq_true (Qq o B cap hcap)
 refine zgo ?_;repeat' first|exact zt|apply zan|intro hc
 refine Jg (ι:=Nat) (fun k=>k≤xs.length∧UX p k (xs.drop k) = UX p 0 xs) (fun k=>[(8,V.int k)]) (fun k=>xs.length - k) 0 (by omega) ⟨by simp,by simp⟩ zol (fun i hi=>by simp only [ovT,Yr,Nat.reduceEqDiff,reduceIte];(repeat' first|exact jT|refine Kn ?_ ?_|simp only [V.lt,ltL,and_self,and_true]|omega);exact JC _ _ hcap) (by simp only [Nat.reduceAdd,ovT,Yr,Nat.reduceEqDiff,reduceIte,Ui,qP,amQ,u32,u33,u34,u35,u36,u37,u38,u39,and_self,and_true,true_and];first|rfl|exact QL _ _ hcap) fun k hk K' hL=>?_
 obtain ⟨hk,hinv⟩:=hk
 simp only [ovT,Yr,Nat.reduceEqDiff,reduceIte]
 rcases hd:xs.drop k with _|⟨y,r⟩
 ·have:=Qr hd
  rw [hd] at hinv
  have e1:decide ((k:Int) < (((xs.map Jz.v).length:Nat):Int)) = false:=by simp;omega
  (have zx:=e1);refine zgo ?_;repeat' first|exact zt|apply zan|intro hc
  refine Qi _ rfl ?_
  simp only [go_sem]
  rw [← hinv];rfl
 ·obtain ⟨hk,hget,hr⟩:=Qk hd
  rw [hd] at hinv
  have hw:=Qg (k:=k) (by omega)
  have e1:decide ((k:Int) < (((xs.map Jz.v).length:Nat):Int)) = true:=by simp;omega
  have hpy:=hp y (zq hget)
  simp only [Jz.v,Jz.cells] at hpy
  by_cases hy:p y = true
  ·rw [hy] at hpy
   (have zy0:=hpy.b;have zx:=za hget (za hw (za e1 (za s1 s2))));refine zgo ?_;repeat' first|exact zt|apply zan|intro hc
   refine Qi _ rfl ?_;simp only [go_sem]
   rw [← hinv];simp [UX,hy]
  ·have hy':p y = false:=by simpa using hy
   rw [hy'] at hpy
   (have zy0:=hpy.b;have zx:=za hget (za hw (za e1 (za s1 s2))));refine zgo ?_;repeat' first|exact zt|apply zan|intro hc
   refine hL _ (k + 1) zet ⟨by omega,?_⟩ (by omega) zoe
   rw [hr,← hinv,UX,if_neg hy]
def asZ (c:QQ) (x:Jz):Bool:=c.sg1 == 0 || x.kalg == c.sg1
def Yz:=qd Proofs.Tryz.f70 []
def XE (Γ:Env) (f:Nat):Prop:=∀ (x:Jz) (c:QQ),EvN Γ f [x.v,.ro c.cells 0] (V.bool (asZ c x))
theorem yW {Γ:Env} {f:Nat} (h:Has Γ.P f 17 Yz.1.1.ac Yz.1.2) :XE Γ f:=by
 intro x c
 refine Qa h zsi zcl zcl fun C hC hm=>?_
 subst hC
 simp only [Yz,qd,DC.ac]
 simp only [Jz.v,Jz.cells,QQ.cells,asZ]
 rcases a1:c.sg1 == 0 with _|_<;>rcases a2:x.kalg == c.sg1 with _|_
 all_goals
  (have zx:=za a1 a2);exact zg
def V2 (e:JG) (s:Int):Int:=if 1≤s∧s≤16 then UX (asZ (J4 s)) 0 e.idents else -1
def Y3:=qd Proofs.Tryz.f37 []
def YL (Γ:Env) (f:Nat):Prop:=∀ (e:JG) (s:Int) (hi:e.idents.length < 2 ^ 62),EvN Γ f [e.v,V.int s] (.tup [V.int (V2 e s),V.bool (decide (V2 e s≥0))])
theorem wm {Γ:Env} {f:Nat} (h:Has Γ.P f 23 Y3.1.1.ac Y3.1.2) (z0:Ym Γ 36) (z1:XE Γ 70) (z2:Q3 Γ 69):YL Γ f:=by
 intro e s hi
 refine Qa h zsi zcl zcl fun C hC hm=>?_
 subst hC
 simp only [Y3,qd,DC.ac]
 have gS:=(z0 s).b
 rw [KC] at gS
 have gI:=(z2 e.idents 70 [.ro (J4 s).cells 0] (asZ (J4 s)) (fun x _=>z1 x (J4 s)) (by simp [V.closed,Qd,QQ.cells]) hi).b
 rw [V2]
 by_cases hs:1≤s∧s≤16
 ·rw [if_pos hs] at gS
  rw [if_pos hs]
  have e0:((0:Int) != 0) = false:=rfl
  simp only [QQ.v,QQ.cells,JG.v,JG.cells] at *
  (have zx:=e0);exact zg
 ·rw [if_neg hs] at gS
  rw [if_neg hs]
  have e8:((8:Int) != 0) = true:=rfl
  have e9:decide ((-1:Int)≥0) = false:=rfl
  rw [e9]
  simp only [QQ.v,QQ.cells,JG.v,JG.cells] at *
  (have zx:=e8);exact zg
def inL (x:Int) (l:List Int):Bool:=decide (Wd x 0 l≥0)
def ann (e:JG) (ver:Int) (cs:List Int) (s:Int):Bool:=decide (1≤s∧s≤16) && (!decide (ver < (J4 s).lo) && (!decide (ver > (J4 s).hi) && (inL s cs && (inL s e.suites && decide (V2 e s≥0)))))
def JZ:=qd Proofs.Tryz.f43 []
def Yx (Γ:Env) (f:Nat):Prop:=∀ (e:JG) (ver:Int) (cs:List Int) (s:Int) (hi:e.idents.length < 2 ^ 62) (hc:cs.length < 2 ^ 62) (hes:e.suites.length < 2 ^ 62),EvN Γ f [.agg (e.cells++[V.int ver,.sl 1 (cs.map V.int)]),V.int s] (V.bool (ann e ver cs s))
theorem qM {Γ:Env} {f:Nat} (h:Has Γ.P f 53 JZ.1.1.ac JZ.1.2) (z0:Ym Γ 36) (z1:Q6 Γ 74) (z2:YL Γ 37):Yx Γ f:=by
 intro e ver cs s hi hc hes
 refine Qa h zsi zcl zcl fun C hC hm=>?_
 subst hC
 simp only [JZ,qd,DC.ac]
 have gS:=(z0 s).b
 rw [KC] at gS
 have g1:=(z1 cs s hc).b
 have g2:=(z1 e.suites s hes).b
 have gI:=(z2 e s hi).b
 have hP:ann e ver cs s = (decide (1≤s∧s≤16) && (!decide (ver < (J4 s).lo) && (!decide (ver > (J4 s).hi) && (decide (Wd s 0 cs≥0) && (decide (Wd s 0 e.suites≥0) && decide (V2 e s≥0)))))):=rfl
 rw [hP]
 generalize decide (V2 e s≥0) = b6 at *
 generalize V2 e s = id6 at *
 generalize decide (Wd s 0 cs≥0) = b4 at *
 generalize decide (Wd s 0 e.suites≥0) = b5 at *
 by_cases hs:1≤s∧s≤16
 rotate_left
 ·rw [if_neg hs] at gS
  rw [zp hs]
  have e8:((8:Int) != 0) = true:=rfl
  simp only [QQ.v,QQ.cells,JG.v,JG.cells,List.cons_append,List.nil_append] at *
  (have zx:=e8);exact zg
 rw [if_pos hs] at gS
 rw [zv hs]
 have e0:((0:Int) != 0) = false:=rfl
 simp only [QQ.v,QQ.cells,JG.v,JG.cells,List.cons_append,List.nil_append] at *
 rcases c2:decide (ver < (J4 s).lo) with _|_
 rotate_left
 ·(have zx:=za e0 c2);exact zg
 rcases c3:decide (ver > (J4 s).hi) with _|_
 rotate_left
 ·(have zx:=za e0 (za c2 c3));exact zg
 rcases b4 with _|_
 ·(have zx:=za e0 (za c2 c3));exact zg
 rcases b5 with _|_
 ·(have zx:=za e0 (za c2 c3));exact zg
 (have zx:=za e0 (za c2 c3));exact zg
def Wx:=qd Proofs.Tryz.f40 []
def UB (Γ:Env) (f:Nat):Prop:=∀ (a b:JG) (sa:a.Sm) (sb:b.Sm),EvN Γ f [a.v,b.v] (V.bool (J6 a && J6 b))
theorem abj {Γ:Env} {f:Nat} (h:Has Γ.P f 13 Wx.1.1.ac Wx.1.2) (z2:Xn Γ 31):UB Γ f:=by
 intro a b sa sb
 refine Qa h zsi zcl zcl fun C hC hm=>?_
 subst hC
 simp only [Wx,qd,DC.ac]
 have g1:=(z2 a sa).b
 have g2:=(z2 b sb).b
 have z0:((0:Int) == 0) = true:=rfl
 have z1:((19:Int) == 0) = false:=rfl
 simp only [JG.v,JG.cells] at *
 rcases c1:J6 a with _|_
 ·rw [c1,if_neg (by decide)] at g1
  (have zx:=z1);exact zg
 rw [c1,if_pos rfl] at g1
 rcases c2:J6 b with _|_
 ·rw [c2,if_neg (by decide)] at g2
  (have zx:=za z0 z1);exact zg
 ·rw [c2,if_pos rfl] at g2
  (have zx:=z0);exact zg
theorem ak6 {α:Type} (p:α→Bool):∀ (xs:List α) (k:Nat),0≤UX p k xs→∃ j x,UX p k xs = ((k + j:Nat):Int)∧xs[j]? = some x∧p x = true
 | [],k,h=>by simp [UX] at h
 | x :: r,k,h=>by
   unfold UX at h ⊢
   by_cases hx:p x = true
   ·rw [if_pos hx] at h ⊢;exact ⟨0,x,by simp,rfl,hx⟩
   ·rw [if_neg hx] at h ⊢
    obtain ⟨j,y,h1,h2,h3⟩:=ak6 p r (k + 1) h
    exact ⟨j + 1,y,by rw [h1];omega,by simpa using h2,h3⟩
def apb (c:QQ) (x:Jz):List (Int×Int):=[(c.kx1,if c.kx2 = 0 then x.kbits else c.kx2),(x.kalg,x.kbits),(c.ci1,c.ci2),(c.mc1,c.mc2)]
def aeg (e:JG) (s:Int):List (Int×Int):=match e.idents[(V2 e s).toNat]? with
 | some x=>apb (J4 s) x
 | none=>[]
def am0 (e:JG) (s:Int):V:=if J6 e = true then (if 1≤s∧s≤16 then (if V2 e s≥0 then .tup [.sl 2 ((aeg e s).map QK),V.int 0] else .tup [.sl 2 [],V.int 4]) else .tup [.sl 2 [],V.int 8]) else .tup [.sl 2 [],V.int 19]
theorem ahP (e:JG) (s:Int):(am0 e s).closed:=by unfold am0;(repeat' split)<;>simp only [V.closed,Qd,and_self]
def Vt:=qd Proofs.Tryz.f22 []
def Kd (Γ:Env) (f:Nat):Prop:=∀ (e:JG) (ver s:Int) (sm:e.Sm),EvC Γ f [e.v,.agg [V.int ver,V.int s]] (am0 e s)
theorem acw {Γ:Env} {f:Nat} (h:Has Γ.P f 57 Vt.1.1.ac Vt.1.2) (z1:Xn Γ 31) (z2:Ym Γ 36) (z3:YL Γ 37):Kd Γ f:=by
 intro e ver s sm
 refine Ql h zsi (ahP e s) fun C hC hm=>?_
 subst hC
 simp only [Vt,qd,DC.ac]
 have g1:=(z1 e sm).b
 have gS:=(z2 s).b
 rw [KC] at gS
 have gI:=(z3 e s (by have:=sm.hi;omega)).b
 rw [am0]
 have z0:((0:Int) != 0) = false:=rfl
 by_cases c1:J6 e = true
 rotate_left
 ·rw [if_neg c1] at g1
  rw [if_neg c1]
  have z9:((19:Int) != 0) = true:=rfl
  simp only [JG.v,JG.cells] at *
  (have zx:=z9);exact zg
 rw [if_pos c1] at g1
 rw [if_pos c1]
 by_cases hs:1≤s∧s≤16
 rotate_left
 ·rw [if_neg hs] at gS
  rw [if_neg hs]
  have z8:((8:Int) != 0) = true:=rfl
  simp only [QQ.v,QQ.cells,JG.v,JG.cells] at *
  (have zx:=za z0 z8);exact zg
 rw [if_pos hs] at gS
 rw [if_pos hs]
 by_cases hi:V2 e s≥0
 rotate_left
 ·rw [zp hi] at gI
  rw [if_neg hi]
  generalize V2 e s = ix at *
  simp only [QQ.v,QQ.cells,JG.v,JG.cells] at *
  (have zx:=z0);exact zg
 rw [zv hi] at gI
 rw [if_pos hi]
 obtain ⟨j,x,hj,hx,_⟩:=ak6 (asZ (J4 s)) e.idents 0 (by rw [V2,if_pos hs] at hi;exact hi)
 have hj2:V2 e s = (j:Int):=by rw [V2,if_pos hs,hj];simp
 have hu:aeg e s = apb (J4 s) x:=by rw [aeg,hj2,Int.toNat_natCast,hx]
 rw [hu,apb]
 rw [hj2] at gI
 have vx:(e.idents.map Jz.v)[j]? = some x.v:=by rw [zk,hx];rfl
 generalize J4 s = c at *
 simp only [QQ.v,QQ.cells,JG.v,JG.cells,Jz.v,Jz.cells,zy,zw,QK] at *
 rcases k2:c.kx2 == 0 with _|_
 ·rw [if_neg (by simpa using k2)]
  (have zx:=za z0 (za k2 vx));exact zg
 ·rw [if_pos (by simpa using k2)]
  (have zx:=za z0 (za k2 vx));exact zg
def QG:=qd Proofs.Tryz.f39 []
def Ja (Γ:Env) (f:Nat):Prop:=∀ (xs:List (Int×Int)) (g:Nat) (cap:List V) (p:Int×Int→Bool) (hp:∀ x∈xs,EvN Γ g (QK x :: cap) (V.bool (p x))) (hcap:Qd cap) (hl:xs.length < 2 ^ 62),EvN Γ f [.sl 2 (xs.map QK),.clo g cap] (V.int (UX p 0 xs))
attribute [local go_sem] QK in
theorem Xf {Γ:Env} {f:Nat} (h:Has Γ.P f 19 QG.1.1.ac QG.1.2) :Ja Γ f:=by
 intro xs g cap p hp hcap hl
 refine Qa h zsi zcl zcl fun C hC hm=>?_
 subst hC
 simp only [QG,qd,DC.ac]
 have s1:∀ o,JD o cap = cap:=fun o=>QC o cap hcap
 have s2:∀ o B,Qp o B cap = True:=fun o B=>eq_true (Qq o B cap hcap)
 refine zgo ?_;repeat' first|exact zt|apply zan|intro hc
 refine Jg (ι:=Nat) (fun k=>k≤xs.length∧UX p k (xs.drop k) = UX p 0 xs) (fun k=>[(8,V.int k)]) (fun k=>xs.length - k) 0 (by omega) ⟨by simp,by simp⟩ zol (fun i hi=>by simp only [ovT,Yr,Nat.reduceEqDiff,reduceIte];(repeat' first|exact jT|refine Kn ?_ ?_|simp only [V.lt,ltL,and_self,and_true]|omega);exact JC _ _ hcap) (by simp only [Nat.reduceAdd,ovT,Yr,Nat.reduceEqDiff,reduceIte,Ui,qP,amQ,u32,u33,u34,u35,u36,u37,u38,u39,and_self,and_true,true_and];first|rfl|exact QL _ _ hcap) fun k hk K' hL=>?_
 obtain ⟨hk,hinv⟩:=hk
 simp only [ovT,Yr,Nat.reduceEqDiff,reduceIte]
 rcases hd:xs.drop k with _|⟨y,r⟩
 ·have:=Qr hd
  rw [hd] at hinv
  have e1:decide ((k:Int) < (((xs.map QK).length:Nat):Int)) = false:=by simp;omega
  (have zx:=e1);refine zgo ?_;repeat' first|exact zt|apply zan|intro hc
  refine Qi _ rfl ?_
  simp only [go_sem]
  rw [← hinv];rfl
 ·obtain ⟨hk,hget,hr⟩:=Qk hd
  rw [hd] at hinv
  have hw:=Qg (k:=k) (by omega)
  have e1:decide ((k:Int) < (((xs.map QK).length:Nat):Int)) = true:=by simp;omega
  have hpy:=hp y (zq hget)
  simp only [QK] at hpy
  obtain ⟨ya,yb⟩:=y
  by_cases hy:p (ya,yb) = true
  ·rw [hy] at hpy
   (have zy0:=hpy.b;have zx:=za hget (za hw (za e1 (za s1 s2))));refine zgo ?_;repeat' first|exact zt|apply zan|intro hc
   refine Qi _ rfl ?_;simp only [go_sem]
   rw [← hinv];simp [UX,hy]
  ·have hy':p (ya,yb) = false:=by simpa using hy
   rw [hy'] at hpy
   (have zy0:=hpy.b;have zx:=za hget (za hw (za e1 (za s1 s2))));refine zgo ?_;repeat' first|exact zt|apply zan|intro hc
   refine hL _ (k + 1) zet ⟨by omega,?_⟩ (by omega) zoe
   rw [hr,← hinv,UX,if_neg hy]
def QA:=qd Proofs.Tryz.f25 []
def QZ (Γ:Env) (f:Nat):Prop:=∀ (xs:List (Int×Int)) (g:Nat) (cap:List V) (p:Int×Int→Bool) (hp:∀ x∈xs,EvN Γ g (QK x :: cap) (V.bool (p x))) (hcap:Qd cap) (hl:xs.length < 2 ^ 62),EvN Γ f [.sl 2 (xs.map QK),.clo g cap] (V.bool (xs.any p))
theorem YH {Γ:Env} {f:Nat} (h:Has Γ.P f 9 QA.1.1.ac QA.1.2) (z0:Ja Γ 39):QZ Γ f:=by
 intro xs g cap p hp hcap hl
 refine Qa h zsi zcl zcl fun C hC hm=>?_
 subst hC
 simp only [QA,qd,DC.ac]
 have s1:∀ o,JD o cap = cap:=fun o=>QC o cap hcap
 have s2:∀ o B,Qp o B cap = True:=fun o B=>eq_true (Qq o B cap hcap)
 have hi:=(z0 xs g cap p hp hcap hl).b
 have e1:=jt p xs 0
 (have zx:=za s1 (za s2 e1));exact zg
def Xx:=qd Proofs.Tryz.f24 []
def Vg (Γ:Env) (f:Nat):Prop:=∀ (u:Int×Int) (a:Int),EvN Γ f [QK u,.ro [V.int a] 0] (V.bool (u.1 == a))
theorem vL {Γ:Env} {f:Nat} (h:Has Γ.P f 8 Xx.1.1.ac Xx.1.2) :Vg Γ f:=by
 intro u a
 refine Qa h zsi zcl zcl fun C hC hm=>?_
 subst hC
 simp only [Xx,qd,DC.ac]
 simp only [QK]
 exact zg
def apV (e:JG) (a:Int) (o:Int×Int):Bool:=J6 e && (decide (1≤o.2∧o.2≤16) && (decide (V2 e o.2≥0) && (aeg e o.2).any fun u=>u.1 == a))
def WB:=qd Proofs.Tryz.f21 []
def UE (Γ:Env) (f:Nat):Prop:=∀ (o:Int×Int) (e:JG) (a:Int) (sm:e.Sm),EvN Γ f [QK o,.ro e.cells 0,.ro [V.int a] 0] (V.bool (apV e a o))
theorem abn {Γ:Env} {f:Nat} (h:Has Γ.P f 16 WB.1.1.ac WB.1.2) (z0:Kd Γ 22) (z1:Vg Γ 24) (z2:QS Γ 23):UE Γ f:=by
 intro o e a sm
 refine Qa h zsi zcl zcl fun C hC hm=>?_
 subst hC
 simp only [WB,qd,DC.ac]
 have gU:=(z0 e o.1 o.2 sm).b
 have gC:=fun (us:List (Int×Int)) (h:us.length < 2 ^ 62)=>(z2 us 24 [.ro [V.int a] 0] (fun u=>u.1 == a) (fun u _=>z1 u a) (by simp [V.closed,Qd]) h).b
 rw [apV]
 rw [am0] at gU
 have g0:=gC [] (by decide)
 rw [List.any_nil,zw] at g0
 simp only [QK,JG.v,JG.cells] at *
 by_cases c1:J6 e = true
 rotate_left
 ·rw [if_neg c1] at gU
  rw [ZD.2 c1,zY]
  exact zg
 rw [if_pos c1] at gU
 rw [c1,zP]
 by_cases hs:1≤o.2∧o.2≤16
 rotate_left
 ·rw [if_neg hs] at gU
  rw [zp hs,zY]
  exact zg
 rw [if_pos hs] at gU
 rw [zv hs,zP]
 by_cases hi:V2 e o.2≥0
 rotate_left
 ·rw [if_neg hi] at gU
  rw [zp hi,zY]
  exact zg
 rw [if_pos hi] at gU
 rw [zv hi,zP]
 have hl:(aeg e o.2).length≤4:=by
  rw [aeg];split<;>simp [apb]
 have g1:=gC (aeg e o.2) (by omega)
 generalize aeg e o.2 = us at *
 exact zg
def vC:=qd Proofs.Tryz.f9 []
def aaP (Γ:Env) (f:Nat):Prop:=∀ (l:List Int) (n:Int) (hl:l.length < 2 ^ 62),EvN Γ f [.sl 1 (l.map V.int),V.int n] (V.bool (l.any fun y=>y == n))
theorem aj5 {Γ:Env} {f:Nat} (h:Has Γ.P f 17 vC.1.1.ac vC.1.2) :aaP Γ f:=by
 intro l n hl
 refine Qa h zsi zcl zcl fun C hC hm=>?_
 subst hC
 simp only [vC,qd,DC.ac]
 have hal:(l.map V.int).length = l.length:=zb _
 (have zx:=hal);refine zgo ?_;repeat' first|exact zt|apply zan|intro hc
 refine Jg (ι:=Nat) (fun k=>k≤l.length∧(l.drop k).any (fun y=>y == n) = l.any (fun y=>y == n)) (fun k=>[(9,V.int k)]) (fun k=>l.length - k) 0 (by omega) ⟨zA _,rfl⟩ zol zlt zet fun k hk K' hL=>?_
 obtain ⟨hk,hinv⟩:=hk
 simp only [ovT,Yr,Nat.reduceEqDiff,reduceIte]
 rcases hd:l.drop k with _|⟨y,r⟩
 ·have hkl:=Qr hd
  have e1:decide ((k:Int) < (l.length:Int)) = false:=by simp;omega
  rw [hd] at hinv
  rw [← hinv]
  (have zx:=za e1 hal);exact zg
 ·obtain ⟨hk',hget,hr⟩:=Qk hd
  have hw:=Qg (k:=k) (by omega)
  have e1:decide ((k:Int) < (l.length:Int)) = true:=by simp;omega
  have vy:(l.map V.int)[k]? = some (V.int y):=by rw [zk,hget];rfl
  rw [hd,List.any_cons] at hinv
  rcases c1:(y == n) with _|_
  ·rw [c1,Z4,← hr] at hinv
   (have zx:=za e1 (za c1 (za hal (za hw vy))));refine zgo ?_;repeat' first|exact zt|apply zan|intro hc
   all_goals exact hL _ (k + 1) zet ⟨by omega,hinv⟩ (by omega) zoe
  ·rw [c1,kZ] at hinv
   rw [← hinv]
   (have zx:=za e1 (za c1 (za hal (za hw vy))));exact zg
end Av
end
