/- K23 -/
import Derived.Test.YtjolhibbihejgaaGreatK22
import Derived.Test.YtjolhibbihejgaaGreatK12
import Derived.Test.YtjolhibbihejgaaGreatK14
import Derived.Test.YtjolhibbihejgaaGreatK18
set_option linter.unusedVariables false
set_option linter.unusedSimpArgs false
noncomputable section
set_option maxRecDepth 10000
set_option maxHeartbeats 4000000
namespace Av
open Go
attribute [local irreducible] AWp UY qH yr awS awC aaT awQ abS Q1 Ub aaE awR Ux awB okR ym ris
def evV (e:Int×Bool):V:=.agg [V.int e.1,V.bool e.2]
def QF:=qd Proofs.Tryz.f82 []
def Q4 (Γ:Env) (f:Nat):Prop:=∀ (xs:List (Int×Bool)) (g:Nat) (cap:List V) (p:Int×Bool→Bool) (hp:∀ x∈xs,EvN Γ g (evV x :: cap) (V.bool (p x))) (hcap:Qd cap) (hl:xs.length < 2 ^ 62),EvN Γ f [.sl 2 (xs.map evV),.clo g cap] (V.int (UX p 0 xs))
attribute [local go_sem] evV in
theorem YQ {Γ:Env} {f:Nat} (h:Has Γ.P f 19 QF.1.1.ac QF.1.2) :Q4 Γ f:=by
 intro xs g cap p hp hcap hl
 refine Qa h zsi zcl zcl fun C hC hm=>?_
 subst hC
 simp only [QF,qd,DC.ac]
 have s1:∀ o,JD o cap = cap:=fun o=>QC o cap hcap
 have s2:∀ o B,Qp o B cap = True:=fun o B=>eq_true (Qq o B cap hcap)
 refine zgo ?_;repeat' first|exact zt|apply zan|intro hc
 refine Jg (ι:=Nat) (fun k=>k≤xs.length∧UX p k (xs.drop k) = UX p 0 xs) (fun k=>[(8,V.int k)]) (fun k=>xs.length - k) 0 (by omega) ⟨by simp,by simp⟩ zol (fun i hi=>by simp only [ovT,Yr,Nat.reduceEqDiff,reduceIte];(repeat' first|exact jT|refine Kn ?_ ?_|simp only [V.lt,ltL,and_self,and_true]|omega);exact JC _ _ hcap) (by simp only [Nat.reduceAdd,ovT,Yr,Nat.reduceEqDiff,reduceIte,Ui,qP,amQ,u32,u33,u34,u35,u36,u37,u38,u39,and_self,and_true,true_and];first|rfl|exact QL _ _ hcap) fun k hk K' hL=>?_
 obtain ⟨hk,hinv⟩:=hk
 simp only [ovT,Yr,Nat.reduceEqDiff,reduceIte]
 rcases hd:xs.drop k with _|⟨y,r⟩
 ·have:=Qr hd
  rw [hd] at hinv
  have e1:decide ((k:Int) < (((xs.map evV).length:Nat):Int)) = false:=by simp;omega
  (have zx:=e1);refine zgo ?_;repeat' first|exact zt|apply zan|intro hc
  refine Qi _ rfl ?_
  simp only [go_sem]
  rw [← hinv];rfl
 ·obtain ⟨hk,hget,hr⟩:=Qk hd
  rw [hd] at hinv
  have hw:=Qg (k:=k) (by omega)
  have e1:decide ((k:Int) < (((xs.map evV).length:Nat):Int)) = true:=by simp;omega
  have hpy:=hp y (zq hget)
  simp only [evV] at hpy
  obtain ⟨ya,yb⟩:=y
  by_cases hy:p (ya,yb) = true
  ·rw [hy] at hpy
   (have zy0:=hpy.b;have zx:=za hget (za hw (za e1 (za s1 s2))));refine zgo ?_;repeat' first|exact zt|apply zan|intro hc
   refine Qi _ rfl ?_;simp only [go_sem]
   rw [← hinv];simp [UX,hy]
  ·have hy':p (ya,yb) = false:=by simpa using hy
   rw [hy'] at hpy
   (have zy0:=hpy.b;have zx:=za hget (za hw (za e1 (za s1 s2))));refine zgo ?_;repeat' first|exact zt|apply zan|intro hc
   refine hL _ (k + 1) zet ⟨by omega,?_⟩ (by omega) zoe
   rw [hr,← hinv,UX,if_neg hy]
def Qy:=qd Proofs.Tryz.f50 []
def QO (Γ:Env) (f:Nat):Prop:=∀ (xs:List (Int×Bool)) (g:Nat) (cap:List V) (p:Int×Bool→Bool) (hp:∀ x∈xs,EvN Γ g (evV x :: cap) (V.bool (p x))) (hcap:Qd cap) (hl:xs.length < 2 ^ 62),EvN Γ f [.sl 2 (xs.map evV),.clo g cap] (V.bool (xs.any p))
theorem YC {Γ:Env} {f:Nat} (h:Has Γ.P f 9 Qy.1.1.ac Qy.1.2) (z0:Q4 Γ 82):QO Γ f:=by
 intro xs g cap p hp hcap hl
 refine Qa h zsi zcl zcl fun C hC hm=>?_
 subst hC
 simp only [Qy,qd,DC.ac]
 have s1:∀ o,JD o cap = cap:=fun o=>QC o cap hcap
 have s2:∀ o B,Qp o B cap = True:=fun o B=>eq_true (Qq o B cap hcap)
 have hi:=(z0 xs g cap p hp hcap hl).b
 have e1:=jt p xs 0
 (have zx:=za s1 (za s2 e1));exact zg
def YJ:=qd Proofs.Tryz.f52 []
def XQ (Γ:Env) (f:Nat):Prop:=∀ (e:Int×Bool),EvN Γ f [evV e] (V.bool (!e.2))
theorem xZ {Γ:Env} {f:Nat} (h:Has Γ.P f 6 YJ.1.1.ac YJ.1.2) :XQ Γ f:=by
 intro e
 refine Qa h zsi zcl zcl fun C hC hm=>?_
 subst hC
 simp only [YJ,qd,DC.ac]
 simp only [evV]
 exact zg
def Y7:=qd Proofs.Tryz.f85 []
def Wm (Γ:Env) (f:Nat):Prop:=∀ (u:Int×Int) (any:Bool) (gap day age alg:Int) (xs:List JM) (keys:List Int) (need:Int) (lv:V) (hlv:lv.closed) (hosts:List (List UInt8)) (en em ef:V) (hz:∀ x∈xs,x.Sz) (hx:xs.length < 2 ^ 62) (hk:keys.length < 2 ^ 62) (hh:hosts.length < 2 ^ 62),EvN Γ f [QK u,.ro (srC gap day age alg xs keys need lv) 0,.ro [V.bool any] 0,.ro [en,.sl 1 (hosts.map V.str),em,ef] 0] (V.bool (!xs.any (adu any u hosts day keys need)))
theorem wt {Γ:Env} {f:Nat} (h:Has Γ.P f 13 Y7.1.1.ac Y7.1.2) (z0:YV Γ 86):Wm Γ f:=by
 intro u any gap day age alg xs keys need lv hlv hosts en em ef hz hx hk hh
 refine Qa h zsi zcl zcl fun C hC hm=>?_
 subst hC
 simp only [Y7,qd,DC.ac]
 have g:=(z0 u any gap day age alg xs keys need lv hlv hosts hz hx hk hh).b
 have s1:∀ o,V.shut o lv = lv:=fun o=>by
  have:=QC o [lv] ⟨hlv,trivial⟩
  simpa [JD] using this
 have s2:∀ o B,V.shutOk o B lv = True:=fun o B=>by
  have:=Qq o B [lv] ⟨hlv,trivial⟩
  simpa [Qp] using this
 simp only [srC,QK,V.int] at *
 (have zx:=za s1 s2);exact zg
structure Qc where
 src:Int
 host:List UInt8
 mach:Int
 day:Int
 conf:Int
 kind:Int
 subj:List UInt8
 alg:Int
 bits:Int
 num:Int
 text:List UInt8
 deriving DecidableEq
def Qc.cells (f:Qc):List V:=[V.int f.src,V.str f.host,V.int f.mach,V.int f.day,V.int f.conf,V.int f.kind,V.str f.subj,V.int f.alg,V.int f.bits,V.int f.num,V.str f.text]
def Qc.v (f:Qc):V:=.agg f.cells
def yu (x y:Int):Int:=if x < y then -1 else if x > y then 1 else 0
def ack (x y:List UInt8):Int:=if Op.bytesLess x y then -1 else if Op.bytesLess y x then 1 else 0
def U1:List Int→Int
 | []=>0
 | x :: r=>if x≠0 then x else U1 r
def asp (a b:Qc):List Int:=[ack a.host b.host,yu a.mach b.mach,yu a.day b.day,ack a.subj b.subj,yu a.kind b.kind,yu a.alg b.alg,yu a.bits b.bits,yu a.num b.num,ack a.text b.text,yu a.src b.src,yu a.conf b.conf]
def anx (a b:Qc):Int:=U1 (asp a b)
def Uy (Γ:Env) (f:Nat):Prop:=∀ G:Env,G.P = Γ.P→∀ a b:List UInt8,EvN G f [V.str a,V.str b] (V.int (ack a b))
def Ur:=qd Proofs.Tryz.f123 []
def VF (Γ:Env) (f:Nat):Prop:=∀ G:Env,G.P = Γ.P→∀ x:Int,EvN G f [V.int x] (V.bool false)
theorem adK {Γ:Env} {f:Nat} (h:Has Γ.P f 6 Ur.1.1.ac Ur.1.2) :VF Γ f:=by
 intro G hG x
 rw [← hG] at h
 refine Qa h (by simp) (by simp only [V.closed]) (by simp only [V.noSl]) fun C hC hm=>?_
 subst hC;simp only [Ur,qd,DC.ac]
 refine zgo ?_;repeat' first|exact zt|apply zan|intro hc
 all_goals first|exact zr|(refine Qi _ rfl ?_;simp only [go_sem];simp;done)
def WT:=qd Proofs.Tryz.f89 []
def Yf (Γ:Env) (f:Nat):Prop:=∀ G:Env,G.P = Γ.P→∀ x y:Int,EvN G f [V.int x,V.int y] (V.int (yu x y))
theorem abE {Γ:Env} {f:Nat} (h:Has Γ.P f 20 WT.1.1.ac WT.1.2) (z0:VF Γ 123):Yf Γ f:=by
 intro G hG x y
 have n1:=(z0 G hG x).b
 have n2:=(z0 G hG y).b
 rw [← hG] at h
 refine Qa h (by simp) (by simp only [V.closed]) (by simp only [V.noSl]) fun C hC hm=>?_
 subst hC;simp only [WT,qd,DC.ac]
 by_cases h1:x < y
 ·have e1:decide (x < y) = true:=zv h1
  rw [yu,if_pos h1]
  repeat' (first|(refine zsk ?_;intro K' hK)|refine zsp ?_|(refine zsc ?_ ?_<;>intro hc<;>first|exact znh|try simp only [znz] at hc)|simp (maxSteps:=1000000) only [go_sem,e1]|(refine hK _ ?_;clear hK K')|apply zan|(apply QJ;(focus first|exact n1|exact n2))|exact zsq|fail)
  all_goals exact zr
 ·have e1:decide (x < y) = false:=zp h1
  by_cases h2:x > y
  ·have e2:decide (x > y) = true:=zv h2
   rw [yu,if_neg h1,if_pos h2]
   repeat' (first|(refine zsk ?_;intro K' hK)|refine zsp ?_|(refine zsc ?_ ?_<;>intro hc<;>first|exact znh|try simp only [znz] at hc)|simp (maxSteps:=1000000) only [go_sem,e1,e2]|(refine hK _ ?_;clear hK K')|apply zan|(apply QJ;(focus first|exact n1|exact n2))|exact zsq|fail)
   all_goals exact zr
  ·have e2:decide (x > y) = false:=zp h2
   rw [yu,if_neg h1,if_neg h2]
   repeat' (first|(refine zsk ?_;intro K' hK)|refine zsp ?_|(refine zsc ?_ ?_<;>intro hc<;>first|exact znh|try simp only [znz] at hc)|simp (maxSteps:=1000000) only [go_sem,e1,e2]|(refine hK _ ?_;clear hK K')|apply zan|(apply QJ;(focus first|exact n1|exact n2))|exact zsq|fail)
   all_goals exact zr
def Xz:=qd Proofs.Tryz.f192 [⟨fun _=>true,[2,5],zoc 0 8⟩]
def Xc (Γ:Env) (f:Nat):Prop:=∀ (a b:Qc) (g:Nat) (p:Qc→Int) (hg:∀ x:Qc,EvN Γ g [x.v] (V.int (p x))),EvN Γ f [.ro [.clo (.n g) []] 0,.ro a.cells 0,.ro b.cells 0] (V.int (yu (p a) (p b)))
theorem vN {Γ:Env} {f:Nat} (h:Has Γ.P f 11 Xz.1.1.ac Xz.1.2) (z0:Yf Γ 89):Xc Γ f:=by
 intro a b g p hg
 refine Qa h zsi zcl zcl fun C hC hm=>?_
 subst hC
 simp only [Xz,qd,DC.ac]
 have g1:=(hg a).b
 have g2:=(hg b).b
 have g3:=(z0 _ rfl (p a) (p b)).b
 simp only [Qc.v,Qc.cells] at g1 g2 ⊢
 exact zg
def Xy:=qd Proofs.Tryz.f194 [⟨fun _=>true,[2,5],zoc 0 8⟩]
def Xb (Γ:Env) (f:Nat):Prop:=∀ (a b:Qc) (g:Nat) (p:Qc→List UInt8) (hg:∀ x:Qc,EvN Γ g [x.v] (V.str (p x))),EvN Γ f [.ro [.clo (.n g) []] 0,.ro a.cells 0,.ro b.cells 0] (V.int (ack (p a) (p b)))
theorem vM {Γ:Env} {f:Nat} (h:Has Γ.P f 11 Xy.1.1.ac Xy.1.2) (z0:Uy Γ 162):Xb Γ f:=by
 intro a b g p hg
 refine Qa h zsi zcl zcl fun C hC hm=>?_
 subst hC
 simp only [Xy,qd,DC.ac]
 have g1:=(hg a).b
 have g2:=(hg b).b
 have g3:=(z0 _ rfl (p a) (p b)).b
 simp only [Qc.v,Qc.cells] at g1 g2 ⊢
 exact zg
def WM:=qd Proofs.Tryz.f191 []
def UO (Γ:Env) (f:Nat):Prop:=(∃ g1:Nat,Xc Γ g1∧∀ (a b:Qc) (g:Nat),EvC Γ f [.clo (.n g) [],.ro a.cells 0,.ro b.cells 0] (.clo (.n g1) [.ro [.clo (.n g) []] 0,.ro a.cells 0,.ro b.cells 0]))
theorem abx {Γ:Env} {f:Nat} (h:Has Γ.P f 6 WM.1.1.ac WM.1.2) (z0:Xc Γ 192):UO Γ f:=by
 refine ⟨192,z0,fun a b g=>?_⟩
 refine Ql h (by simp) (by simp only [V.closed,Qd,and_self]) fun C hC hm=>?_
 subst hC
 simp only [WM,qd,DC.ac]
 simp only [Qc.cells]
 exact zg
def WL:=qd Proofs.Tryz.f193 []
def UN (Γ:Env) (f:Nat):Prop:=(∃ g1:Nat,Xb Γ g1∧∀ (a b:Qc) (g:Nat),EvC Γ f [.clo (.n g) [],.ro a.cells 0,.ro b.cells 0] (.clo (.n g1) [.ro [.clo (.n g) []] 0,.ro a.cells 0,.ro b.cells 0]))
theorem abw {Γ:Env} {f:Nat} (h:Has Γ.P f 6 WL.1.1.ac WL.1.2) (z0:Xb Γ 194):UN Γ f:=by
 refine ⟨194,z0,fun a b g=>?_⟩
 refine Ql h (by simp) (by simp only [V.closed,Qd,and_self]) fun C hC hm=>?_
 subst hC
 simp only [WL,qd,DC.ac]
 simp only [Qc.cells]
 exact zg
def WJ:=qd Proofs.Tryz.f195 []
def UM (Γ:Env) (f:Nat):Prop:=∀ (x:Qc),EvN Γ f [x.v] (V.str x.host)
theorem abv {Γ:Env} {f:Nat} (h:Has Γ.P f 5 WJ.1.1.ac WJ.1.2) :UM Γ f:=by
 intro x
 refine Qa h zsi zcl zcl fun C hC hm=>?_
 subst hC
 simp only [WJ,qd,DC.ac]
 simp only [Qc.v,Qc.cells]
 exact zg
def WI:=qd Proofs.Tryz.f196 []
def UL (Γ:Env) (f:Nat):Prop:=∀ (x:Qc),EvN Γ f [x.v] (V.int x.mach)
theorem abu {Γ:Env} {f:Nat} (h:Has Γ.P f 5 WI.1.1.ac WI.1.2) :UL Γ f:=by
 intro x
 refine Qa h zsi zcl zcl fun C hC hm=>?_
 subst hC
 simp only [WI,qd,DC.ac]
 simp only [Qc.v,Qc.cells]
 exact zg
def WH:=qd Proofs.Tryz.f197 []
def UK (Γ:Env) (f:Nat):Prop:=∀ (x:Qc),EvN Γ f [x.v] (V.int x.day)
theorem abt {Γ:Env} {f:Nat} (h:Has Γ.P f 5 WH.1.1.ac WH.1.2) :UK Γ f:=by
 intro x
 refine Qa h zsi zcl zcl fun C hC hm=>?_
 subst hC
 simp only [WH,qd,DC.ac]
 simp only [Qc.v,Qc.cells]
 exact zg
def WG:=qd Proofs.Tryz.f198 []
def UJ (Γ:Env) (f:Nat):Prop:=∀ (x:Qc),EvN Γ f [x.v] (V.str x.subj)
theorem abs {Γ:Env} {f:Nat} (h:Has Γ.P f 5 WG.1.1.ac WG.1.2) :UJ Γ f:=by
 intro x
 refine Qa h zsi zcl zcl fun C hC hm=>?_
 subst hC
 simp only [WG,qd,DC.ac]
 simp only [Qc.v,Qc.cells]
 exact zg
def WF:=qd Proofs.Tryz.f199 []
def UI (Γ:Env) (f:Nat):Prop:=∀ (x:Qc),EvN Γ f [x.v] (V.int x.kind)
theorem abr {Γ:Env} {f:Nat} (h:Has Γ.P f 5 WF.1.1.ac WF.1.2) :UI Γ f:=by
 intro x
 refine Qa h zsi zcl zcl fun C hC hm=>?_
 subst hC
 simp only [WF,qd,DC.ac]
 simp only [Qc.v,Qc.cells]
 exact zg
def WE:=qd Proofs.Tryz.f200 []
def UH (Γ:Env) (f:Nat):Prop:=∀ (x:Qc),EvN Γ f [x.v] (V.int x.alg)
theorem abq {Γ:Env} {f:Nat} (h:Has Γ.P f 6 WE.1.1.ac WE.1.2) :UH Γ f:=by
 intro x
 refine Qa h zsi zcl zcl fun C hC hm=>?_
 subst hC
 simp only [WE,qd,DC.ac]
 simp only [Qc.v,Qc.cells]
 exact zg
def WD:=qd Proofs.Tryz.f201 []
def UG (Γ:Env) (f:Nat):Prop:=∀ (x:Qc),EvN Γ f [x.v] (V.int x.bits)
theorem abp {Γ:Env} {f:Nat} (h:Has Γ.P f 6 WD.1.1.ac WD.1.2) :UG Γ f:=by
 intro x
 refine Qa h zsi zcl zcl fun C hC hm=>?_
 subst hC
 simp only [WD,qd,DC.ac]
 simp only [Qc.v,Qc.cells]
 exact zg
def X0:=qd Proofs.Tryz.f202 []
def VU (Γ:Env) (f:Nat):Prop:=∀ (x:Qc),EvN Γ f [x.v] (V.int x.num)
theorem aaq {Γ:Env} {f:Nat} (h:Has Γ.P f 5 X0.1.1.ac X0.1.2) :VU Γ f:=by
 intro x
 refine Qa h zsi zcl zcl fun C hC hm=>?_
 subst hC
 simp only [X0,qd,DC.ac]
 simp only [Qc.v,Qc.cells]
 exact zg
def XZ:=qd Proofs.Tryz.f203 []
def VT (Γ:Env) (f:Nat):Prop:=∀ (x:Qc),EvN Γ f [x.v] (V.str x.text)
theorem aap {Γ:Env} {f:Nat} (h:Has Γ.P f 5 XZ.1.1.ac XZ.1.2) :VT Γ f:=by
 intro x
 refine Qa h zsi zcl zcl fun C hC hm=>?_
 subst hC
 simp only [XZ,qd,DC.ac]
 simp only [Qc.v,Qc.cells]
 exact zg
def XY:=qd Proofs.Tryz.f204 []
def VS (Γ:Env) (f:Nat):Prop:=∀ (x:Qc),EvN Γ f [x.v] (V.int x.src)
theorem aao {Γ:Env} {f:Nat} (h:Has Γ.P f 5 XY.1.1.ac XY.1.2) :VS Γ f:=by
 intro x
 refine Qa h zsi zcl zcl fun C hC hm=>?_
 subst hC
 simp only [XY,qd,DC.ac]
 simp only [Qc.v,Qc.cells]
 exact zg
def XX:=qd Proofs.Tryz.f205 []
def VR (Γ:Env) (f:Nat):Prop:=∀ (x:Qc),EvN Γ f [x.v] (V.int x.conf)
theorem aan {Γ:Env} {f:Nat} (h:Has Γ.P f 5 XX.1.1.ac XX.1.2) :VR Γ f:=by
 intro x
 refine Qa h zsi zcl zcl fun C hC hm=>?_
 subst hC
 simp only [XX,qd,DC.ac]
 simp only [Qc.v,Qc.cells]
 exact zg
def clC (a b:Qc) (q g:Nat):V:=.clo (.n q) [.ro [.clo (.n g) []] 0,.ro a.cells 0,.ro b.cells 0]
def asO (a b:Qc) (g1 g2 f3 f4 f5 f6 f7 f8 f9 f10 f11 f12 f13:Nat):List V:=[clC a b g2 f3,clC a b g1 f4,clC a b g1 f5,clC a b g2 f6,clC a b g1 f7,clC a b g1 f8,clC a b g1 f9,clC a b g1 f10,clC a b g2 f11,clC a b g1 f12,clC a b g1 f13]
theorem qT (a b:Qc) (g:Nat):Qd [.ro [.clo (.n g) []] 0,.ro a.cells 0,.ro b.cells 0]:=by simp only [V.closed,Qd,and_self]
theorem aeQ {l:List Int} {k:Nat} {v:Int} (h:l[k]? = some v):U1 (l.drop k) = if v≠0 then v else U1 (l.drop (k + 1)):=by
 obtain ⟨hk,he⟩:=zj.1 h
 rw [kq hk,he,U1]
def Uo:=qd Proofs.Tryz.f150 []
def KU (Γ:Env) (f:Nat):Prop:=∀ (a b:Qc),EvN Γ f [a.v,b.v] (V.int (anx a b))
attribute [local go_sem] Yh in
theorem adH {Γ:Env} {f:Nat} (h:Has Γ.P f 46 Uo.1.1.ac Uo.1.2) (z0:UO Γ 191) (z1:UN Γ 193) (z2:UM Γ 195) (z3:UL Γ 196) (z4:UK Γ 197) (z5:UJ Γ 198) (z6:UI Γ 199) (z7:UH Γ 200) (z8:UG Γ 201) (z9:VU Γ 202) (z10:VT Γ 203) (z11:VS Γ 204) (z12:VR Γ 205):KU Γ f:=by
 intro a b
 refine Qa h zsi zcl zcl fun C hC hm=>?_
 subst hC
 simp only [Uo,qd,DC.ac]
 obtain ⟨g1,c1,hO1⟩:=z0
 obtain ⟨g2,c2,hO2⟩:=z1
 have y3:=hO2 a b 195
 have y4:=hO1 a b 196
 have y5:=hO1 a b 197
 have y6:=hO2 a b 198
 have y7:=hO1 a b 199
 have y8:=hO1 a b 200
 have y9:=hO1 a b 201
 have y10:=hO1 a b 202
 have y11:=hO2 a b 203
 have y12:=hO1 a b 204
 have y13:=hO1 a b 205
 have hel:∀ k,k < 11→∃ (g:Nat) (cap:List V) (v:Int),(asO a b g1 g2 195 196 197 198 199 200 201 202 203 204 205)[k]? = some (.clo (.n g) cap)∧Qd cap∧(asp a b)[k]? = some v∧EvN C.env g cap (V.int v):=fun k hk=>by
  match k,hk with
  | 0,_=>exact ⟨_,_,_,rfl,qT a b _,rfl,c2 a b _ (fun x=>x.host) z2⟩
  | 1,_=>exact ⟨_,_,_,rfl,qT a b _,rfl,c1 a b _ (fun x=>x.mach) z3⟩
  | 2,_=>exact ⟨_,_,_,rfl,qT a b _,rfl,c1 a b _ (fun x=>x.day) z4⟩
  | 3,_=>exact ⟨_,_,_,rfl,qT a b _,rfl,c2 a b _ (fun x=>x.subj) z5⟩
  | 4,_=>exact ⟨_,_,_,rfl,qT a b _,rfl,c1 a b _ (fun x=>x.kind) z6⟩
  | 5,_=>exact ⟨_,_,_,rfl,qT a b _,rfl,c1 a b _ (fun x=>x.alg) z7⟩
  | 6,_=>exact ⟨_,_,_,rfl,qT a b _,rfl,c1 a b _ (fun x=>x.bits) z8⟩
  | 7,_=>exact ⟨_,_,_,rfl,qT a b _,rfl,c1 a b _ (fun x=>x.num) z9⟩
  | 8,_=>exact ⟨_,_,_,rfl,qT a b _,rfl,c2 a b _ (fun x=>x.text) z10⟩
  | 9,_=>exact ⟨_,_,_,rfl,qT a b _,rfl,c1 a b _ (fun x=>x.src) z11⟩
  | 10,_=>exact ⟨_,_,_,rfl,qT a b _,rfl,c1 a b _ (fun x=>x.conf) z12⟩
 have hlen:(asO a b g1 g2 195 196 197 198 199 200 201 202 203 204 205).length = 11:=rfl
 have hoL:(asp a b).length = 11:=rfl
 have hoF:anx a b = U1 (asp a b):=rfl
 simp only [Qc.v,Qc.cells] at y3 y4 y5 y6 y7 y8 y9 y10 y11 y12 y13 ⊢
 repeat' (first|(refine zsk ?_;intro K' hK)|refine zsp ?_|(refine zsc ?_ ?_<;>intro hc<;>first|exact znh|try simp only [znz] at hc)|simp (maxSteps:=1000000) only [go_sem]|(refine hK _ ?_;clear hK K')|apply zan|(apply alC;(focus first|exact y3|exact y4|exact y5|exact y6|exact y7|exact y8|exact y9|exact y10|exact y11|exact y12|exact y13))|(apply QJ;(focus first|exact (z2 _).b|exact (z3 _).b|exact (z4 _).b|exact (z5 _).b|exact (z6 _).b|exact (z7 _).b|exact (z8 _).b|exact (z9 _).b|exact (z10 _).b|exact (z11 _).b|exact (z12 _).b))|exact zsq|fail)
 clear y3 y4 y5 y6 y7 y8 y9 y10 y11 y12 y13
 refine Qs (ι:=Nat) (fun k=>k≤11∧U1 ((asp a b).drop k) = anx a b) (fun k=>Yh [(34,.hd 0 0 11),(35,V.int 11),(36,V.int k)] [(0,.buf true 1 (asO a b g1 g2 195 196 197 198 199 200 201 202 203 204 205))] 1) (fun k=>11 - k) 0 ⟨by omega,rfl⟩ (Qf [(0,29000)]) (Qo [(0,29000)] zwa (by simp only [go_sem,zwl,asO,clC,Qc.cells]<;>exact zcc) (by simp) (by simp;omega) (by omega)) fun k hk K' hL=>?_
 obtain ⟨hk,hinv⟩:=hk
 generalize (asO a b g1 g2 195 196 197 198 199 200 201 202 203 204 205) = els at *
 by_cases hkk:k < 11
 ·obtain ⟨g,cap,v,e1,e2,e3,e4⟩:=hel k hkk
  have s1:∀ o,JD o cap = cap:=fun o=>QC o cap e2
  have s2:∀ o B,Qp o B cap = True:=fun o B=>eq_true (Qq o B cap e2)
  have hw:=Qg (k:=k) (by omega)
  have e5:decide ((k:Int) < 11) = true:=zv (by omega)
  have e6:=aeQ e3
  rw [hinv] at e6
  by_cases hv:v = 0
  ·subst hv
   rw [if_neg (by simp)] at e6
   (have zy0:=e4.b;have zx:=za e5 (za e1 (za s1 (za s2 hw))));refine zgo ?_;repeat' first|exact zt|apply zan|intro hc
   all_goals exact hL _ (k + 1) (Qf [(0,0)]) ⟨by omega,e6.symm⟩ (by omega) (zwg [(0,0)])
  ·rw [if_pos hv] at e6
   have e7:(v != 0) = true:=by simpa using hv
   rw [e6]
   (have zy0:=e4.b;have zx:=za e5 (za e1 (za s1 (za s2 (za hw e7)))));exact zg
 ·have e5:decide ((k:Int) < 11) = false:=zp (by omega)
  have hk2:k = 11:=by omega
  subst hk2
  have e6:anx a b = 0:=by rw [← hinv];rfl
  rw [e6]
  (have zx:=e5);exact zg
def arQ (f:Qc):Prop:=0≤f.day∧f.day≤40000
def aiO (a b:Qc):Int:=if a.day - b.day < b.day - a.day then b.day - a.day else a.day - b.day
def Xu:=qd Proofs.Tryz.f108 []
def Y9 (Γ:Env) (f:Nat):Prop:=∀ (a b:Qc) (ha:arQ a) (hb:arQ b),EvN Γ f [a.v,b.v] (V.int (aiO a b))
theorem vI {Γ:Env} {f:Nat} (h:Has Γ.P f 16 Xu.1.1.ac Xu.1.2) :Y9 Γ f:=by
 intro a b ha hb
 refine Qa h zsi zcl zcl fun C hC hm=>?_
 subst hC
 simp only [Xu,qd,DC.ac]
 obtain ⟨a1,a2⟩:=ha
 obtain ⟨b1,b2⟩:=hb
 have w1:IntKind.i64.wrap (a.day - b.day) = a.day - b.day:=Q9 (by omega) (by omega)
 have w2:IntKind.i64.wrap (b.day - a.day) = b.day - a.day:=Q9 (by omega) (by omega)
 simp only [Qc.v,Qc.cells,aiO]
 (have zx:=za w1 w2);refine zgo ?_;repeat' first|exact zt|apply zan|intro hc
 all_goals first|exact zr|(refine Qi _ rfl ?_;simp only [go_sem];simp;done)
def jK:=qd Proofs.Tryz.f151 []
def qy (Γ:Env) (f:Nat):Prop:=∀ G:Env,G.P = Γ.P→∀ l:List Int,l.length < 2 ^ 60→EvN G f [.sl 1 (l.map V.int)] (V.int (U1 l))
theorem ahj {Γ:Env} {f:Nat} (h:Has Γ.P f 18 jK.1.1.ac jK.1.2) :qy Γ f:=by
 intro G hG l hl
 rw [← hG] at h
 refine Qa h (by simp) (by simp only [V.closed]) (by simp only [V.noSl]) fun C hC hm=>?_
 subst hC;simp only [jK,qd,DC.ac]
 refine zgo ?_;repeat' first|exact zt|apply zan|intro hc
 refine Jg (ι:=Nat) (fun k=>k≤l.length∧U1 (l.drop k) = U1 l) (fun k=>[(8,V.int k)]) (fun k=>l.length - k) 0 (by omega) ⟨zA _,rfl⟩ zol zlt zet fun k hk K' hL=>?_
 obtain ⟨hk,hinv⟩:=hk
 simp only [ovT,Yr,Nat.reduceEqDiff,reduceIte]
 rcases hd:l.drop k with _|⟨x,r⟩
 ·have hkl:=Qr hd
  have e1:decide ((k:Int) < (((l.map V.int).length:Nat):Int)) = false:=by simp;omega
  rw [hd] at hinv
  have e8:U1 l = 0:=by rw [← hinv];rfl
  rw [e8]
  (have zx:=e1);exact zg
 ·obtain ⟨hk',hget,hr⟩:=Qk hd
  have hw:=Qg (k:=k) (by omega)
  have e1:decide ((k:Int) < (((l.map V.int).length:Nat):Int)) = true:=by simp;omega
  have e6:=aeQ hget
  rw [hinv] at e6
  by_cases hx:x = 0
  ·subst hx
   rw [if_neg (by simp)] at e6
   (have zx:=za e1 (za hw hget));refine zgo ?_;repeat' first|exact zt|apply zan|intro hc
   all_goals exact hL _ (k + 1) zet ⟨by omega,e6.symm⟩ (by omega) zoe
  ·have e7:(x != 0) = true:=by simpa using hx
   rw [if_pos hx] at e6
   rw [e6]
   (have zx:=za e1 (za hw (za hget e7)));exact zg
def yO (l:List Qc) (f:Qc) (gap best:Int) (i:Nat):Int :=
 match l[i]? with
 | none=>best
 | some g=>if g.mach = 0∨g.host≠f.host∨aiO f g > gap then best else if best < 0 then (i:Int) else
   match l[best.toNat]? with
   | none=>best
   | some h=>if U1 [yu (aiO f g) (aiO f h),yu g.day h.day,yu g.mach h.mach] < 0 then (i:Int) else best
def v7 (l:List Qc) (f:Qc) (gap:Int) (k:Nat):Int:=(List.range k).foldl (yO l f gap) (-1)
def agR (l:List Qc) (f:Qc) (gap:Int):Int:=v7 l f gap l.length
theorem aeA (l:List Qc) (f:Qc) (gap:Int) (k:Nat):v7 l f gap (k + 1) = yO l f gap (v7 l f gap k) k:=by
 rw [v7,ZL,List.foldl_append];rfl
theorem ah9 {l:List Qc} {f:Qc} {gap best:Int} {k:Nat} (h:best = -1∨(0≤best∧best < k)):yO l f gap best k = -1∨(0≤yO l f gap best k∧yO l f gap best k < (k + 1:Nat)):=by
 unfold yO
 split
 ·omega
 ·split
  ·omega
  ·split
   ·omega
   ·split
    ·omega
    ·split<;>omega
theorem acp (l:List Qc) (f:Qc) (gap:Int):∀ k,v7 l f gap k = -1∨(0≤v7 l f gap k∧v7 l f gap k < (k:Int))
 | 0=>.inl rfl
 | k + 1=>by rw [aeA];exact ah9 (acp l f gap k)
def XV:=qd Proofs.Tryz.f107 [zhn 33]
def VP (Γ:Env) (f:Nat):Prop:=∀ (l:List Qc) (f0:Qc) (gap:Int) (hl:l.length < 2 ^ 40) (hd:∀ x∈l,arQ x) (hf:arQ f0),EvN Γ f [.sl 11 (l.map Qc.v),f0.v,V.int gap] (V.int (agR l f0 gap))
attribute [local go_sem] Qc.cells Qc.v Yh in
theorem aal {Γ:Env} {f:Nat} (h:Has Γ.P f 70 XV.1.1.ac XV.1.2) (z0:Y9 Γ 108) (z1:Yf Γ 89) (z2:qy Γ 151):VP Γ f:=by
 intro l f0 gap hl hd hf
 refine Qa h zsi zcl zcl fun C hC hm=>?_
 subst hC
 simp only [XV,qd,DC.ac]
 simp only [Qc.v,Qc.cells]
 refine zgo ?_;repeat' first|exact zt|apply zan|intro hc
 refine Qs (ι:=Nat) (fun k=>k≤l.length) (fun k=>Yh [(0,.sl 11 (l.map Qc.v)),(2,V.int gap),(4,.ptr 0 0),(7,V.int (v7 l f0 gap k)),(10,.sl 11 (l.map Qc.v)),(11,V.int l.length),(12,V.int k)] [(0,.box true f0.cells)] 1) (fun k=>l.length - k) 0 (zA _) (Qf []) (Qo [] (by simp only [go_sem,zwl,zb]<;>exact zcc) (by simp only [go_sem,zwl,Qc.cells]<;>exact zcc) (by simp) (by simp) (by omega)) fun k hk K' hL=>?_
 have hrng:=acp l f0 gap k
 have hsuc:=aeA l f0 gap k
 have hN:agR l f0 gap = v7 l f0 gap l.length:=rfl
 rcases hdr:l.drop k with _|⟨g,r⟩
 ·have hkl:=Qr hdr
  have e1:decide ((k:Int) < (l.length:Int)) = false:=by simp;omega
  obtain rfl:k = l.length:=by omega
  rw [hN]
  (have zx:=e1);exact zg
 ·obtain ⟨hk',hget,hr⟩:=Qk hdr
  have hw:=Qg (k:=k) (by omega)
  have e1:decide ((k:Int) < (l.length:Int)) = true:=by simp;omega
  have hg:=hd g (zq hget)
  have p1:=(z0 f0 g hf hg).b
  rw [yO,hget] at hsuc
  simp only at hsuc
  clear hN
  generalize v7 l f0 gap k = best at *
  generalize aiO f0 g = dg at *
  simp only [Qc.v,Qc.cells] at p1 hL ⊢
  by_cases c1:g.mach = 0
  ·rw [if_pos (.inl c1)] at hsuc
   have e2:(g.mach == 0) = true:=by simpa using c1
   (have zx:=za e1 (za e2 (za hw hget)));refine zgo ?_;repeat' first|exact zt|apply zan|intro hc
   all_goals exact hL _ (k + 1) (Qf []) (by omega) (by omega) (by rw [hsuc];exact Qo [] zwa (by simp only [go_sem,zwl,Qc.cells]<;>exact zcc) (by simp) (by simp) (by omega))
  have e2:(g.mach == 0) = false:=by simpa using c1
  by_cases c2:g.host = f0.host
  ·by_cases c3:dg > gap
   ·rw [if_pos (.inr (.inr c3))] at hsuc
    have e3:(g.host == f0.host) = true:=by simpa using c2
    have e4:decide (dg > gap) = true:=zv c3
    (have zx:=za e1 (za e2 (za e3 (za e4 (za hw hget)))));refine zgo ?_;repeat' first|exact zt|apply zan|intro hc
    all_goals exact hL _ (k + 1) (Qf []) (by omega) (by omega) (by rw [hsuc];exact Qo [] zwa (by simp only [go_sem,zwl,Qc.cells]<;>exact zcc) (by simp) (by simp) (by omega))
   have e3:(g.host == f0.host) = true:=by simpa using c2
   have e4:decide (dg > gap) = false:=zp c3
   rw [if_neg (by simp only [not_or,Decidable.not_not];exact ⟨c1,c2,c3⟩)] at hsuc
   by_cases c4:best < 0
   ·rw [if_pos c4] at hsuc
    have e5:decide (best < 0) = true:=zv c4
    (have zx:=za e1 (za e2 (za e3 (za e4 (za e5 (za hw hget))))));refine zgo ?_;repeat' first|exact zt|apply zan|intro hc
    all_goals exact hL _ (k + 1) (Qf []) (by omega) (by omega) (by rw [hsuc];exact Qo [] zwa (by simp only [go_sem,zwl,Qc.cells]<;>exact zcc) (by simp) (by simp) (by omega))
   ·rw [if_neg c4] at hsuc
    have e5:decide (best < 0) = false:=zp c4
    obtain ⟨j,rfl⟩:∃ j:Nat,best = j:=⟨best.toNat,by omega⟩
    have hj:j < l.length:=by omega
    obtain ⟨q,hgq⟩:∃ q,l[j]? = some q:=⟨_,zd hj⟩
    rw [Int.toNat_natCast,hgq] at hsuc
    simp only at hsuc
    have p2:=(z0 f0 q hf (hd q (zq hgq))).b
    generalize aiO f0 q = dq at *
    have p3:=(z1 _ rfl dg dq).b
    have p4:=(z1 _ rfl g.day q.day).b
    have p5:=(z1 _ rfl g.mach q.mach).b
    have p6:=(z2 _ rfl [yu dg dq,yu g.day q.day,yu g.mach q.mach] (by simp)).b
    generalize U1 [yu dg dq,yu g.day q.day,yu g.mach q.mach] = ff at *
    simp only [Qc.v,Qc.cells,zy,zw] at p2 p6
    by_cases c5:ff < 0
    ·rw [if_pos c5] at hsuc
     have e6:decide (ff < 0) = true:=zv c5
     (have zx:=za e1 (za e2 (za e3 (za e4 (za e5 (za e6 (za hw (za hget hgq))))))));refine zgo ?_;repeat' first|exact zt|apply zan|intro hc
     all_goals exact hL _ (k + 1) (Qf []) (by omega) (by omega) (by rw [hsuc];exact Qo [] zwa (by simp only [go_sem,zwl,Qc.cells]<;>exact zcc) (by simp) (by simp) (by omega))
    ·rw [if_neg c5] at hsuc
     have e6:decide (ff < 0) = false:=zp c5
     (have zx:=za e1 (za e2 (za e3 (za e4 (za e5 (za e6 (za hw (za hget hgq))))))));refine zgo ?_;repeat' first|exact zt|apply zan|intro hc
     all_goals exact hL _ (k + 1) (Qf []) (by omega) (by omega) (by rw [hsuc];exact Qo [] zwa (by simp only [go_sem,zwl,Qc.cells]<;>exact zcc) (by simp) (by simp) (by omega))
  ·rw [if_pos (.inr (.inl c2))] at hsuc
   have e3:(g.host == f0.host) = false:=by simpa using c2
   (have zx:=za e1 (za e2 (za e3 (za hw hget))));refine zgo ?_;repeat' first|exact zt|apply zan|intro hc
   all_goals exact hL _ (k + 1) (Qf []) (by omega) (by omega) (by rw [hsuc];exact Qo [] zwa (by simp only [go_sem,zwl,Qc.cells]<;>exact zcc) (by simp) (by simp) (by omega))
structure JF where
 ent:Int
 subj:List UInt8
 kind:Int
 alg:Int
 bits:Int
 num:Int
 text:List UInt8
 find:Int
 deriving DecidableEq
def JF.cells (f:JF):List V:=[V.int f.ent,V.str f.subj,V.int f.kind,V.int f.alg,V.int f.bits,V.int f.num,V.str f.text,V.int f.find]
def JF.v (f:JF):V:=.agg f.cells
structure PPl where
 subj:List UInt8
 text:List UInt8
 kind:Int
 num:Int
 alg:Int
 bits:Int
 deriving DecidableEq
def PPl.cells (p:PPl):List V:=[V.str p.subj,V.str p.text,V.int p.kind,V.int p.num,V.int p.alg,V.int p.bits]
def PPl.v (p:PPl):V:=.agg p.cells
def Xe (f:Qc):PPl :=
 if f.kind = 1∨f.kind = 8 then ⟨f.subj,[],1,0,f.alg,f.bits⟩
 else if f.kind = 2∨f.kind = 6 then ⟨f.subj,[],f.kind,f.num,0,0⟩
 else if f.kind = 7 then ⟨f.subj,f.text,f.kind,0,0,0⟩
 else ⟨f.subj,[],f.kind,0,0,0⟩
def agL (a b:JF):Int:=U1 [ack a.subj b.subj,yu a.kind b.kind,yu a.alg b.alg,yu a.bits b.bits,yu a.num b.num,ack a.text b.text]
def vF:=qd Proofs.Tryz.f114 [⟨fun _=>false,[1],.one 0 (.one 2 (.or 1 (.one 3 (.one 4 (.one 5 (.done)))) (.or 3 (.one 1 (.one 4 (.one 5 (.done)))) (.done))))⟩]
def aaS (Γ:Env) (f:Nat):Prop:=∀ (f0:Qc),EvN Γ f [f0.v] ((Xe f0).v)
theorem aj8 {Γ:Env} {f:Nat} (h:Has Γ.P f 30 vF.1.1.ac vF.1.2) :aaS Γ f:=by
 intro f0
 refine Qa h zsi (by unfold Xe;(repeat' split)<;>simp only [PPl.v,PPl.cells,V.closed,Qd,V.noSl,adw,and_self]) (by unfold Xe;(repeat' split)<;>simp only [PPl.v,PPl.cells,V.closed,Qd,V.noSl,adw,and_self]) fun C hC hm=>?_
 subst hC
 simp only [vF,qd,DC.ac]
 obtain ⟨src,host,mach,day,conf,kind,subj,alg,bits,num,text⟩:=f0
 simp only [Xe,Qc.v,Qc.cells,PPl.v,PPl.cells]
 have E:∀ n:Int,kind≠n→(kind == n) = false:=fun n h=>by simpa using h
 by_cases k1:kind = 1
 ·subst k1
  rw [if_pos (.inl rfl)]
  exact zg
 by_cases k8:kind = 8
 ·subst k8
  rw [if_pos (.inr rfl)]
  exact zg
 rw [if_neg (by simp [k1,k8])]
 by_cases k2:kind = 2
 ·subst k2
  rw [if_pos (.inl rfl)]
  exact zg
 by_cases k6:kind = 6
 ·subst k6
  rw [if_pos (.inr rfl)]
  exact zg
 rw [if_neg (by simp [k2,k6])]
 have e1:=E 1 k1
 have e8:=E 8 k8
 have e2:=E 2 k2
 have e6:=E 6 k6
 by_cases k7:kind = 7
 ·subst k7
  rw [if_pos rfl]
  exact zg
 rw [if_neg k7]
 have e7:=E 7 k7
 (have zx:=za e1 (za e8 (za e2 (za e6 e7))));exact zg
def Uw:=qd Proofs.Tryz.f116 [zhn 37]
def KY (Γ:Env) (f:Nat):Prop:=Own Γ.P f∧∀ G:Env,G.P = Γ.P→∀ a b:JF,EvN G f [a.v,b.v] (V.int (agL a b))
theorem adP {Γ:Env} {f:Nat} (h:Has Γ.P f 41 Uw.1.1.ac Uw.1.2) (z0:Uy Γ 162) (z1:Yf Γ 89) (z2:qy Γ 151):KY Γ f:=by
 refine ⟨h.own,fun G hG a b=>?_⟩
 have p1:=z0 G hG a.subj b.subj
 have p2:=z1 G hG a.kind b.kind
 have p3:=z1 G hG a.alg b.alg
 have p4:=z1 G hG a.bits b.bits
 have p5:=z1 G hG a.num b.num
 have p6:=z0 G hG a.text b.text
 have p7:=z2 G hG [ack a.subj b.subj,yu a.kind b.kind,yu a.alg b.alg,yu a.bits b.bits,yu a.num b.num,ack a.text b.text] (by simp)
 rw [← hG] at h
 refine Qa h (by simp) (by simp only [V.closed]) (by simp only [V.noSl]) fun C hC hm=>?_
 subst hC;simp only [Uw,qd,DC.ac]
 have p1:=p1.b
 have p2:=p2.b
 have p3:=p3.b
 have p4:=p4.b
 have p5:=p5.b
 have p6:=p6.b
 have p7:=p7.b
 simp only [JF.v,JF.cells,agL,zy,zw] at *
 exact zg
theorem auu (p q:PPl):JE [1,1,0,0,0,0] p.cells q.cells = some (decide (p = q)):=by
 obtain ⟨a1,a2,a3,a4,a5,a6⟩:=p
 obtain ⟨b1,b2,b3,b4,b5,b6⟩:=q
 have hs:∀ x y:List UInt8,((⟨x.toArray⟩:ByteArray) == ⟨y.toArray⟩) = decide (x = y):=fun x y=>by
  rw [Bool.eq_iff_iff,ai3];simp
 simp only [PPl.cells,V.str,V.int,JE,hs,if_true,Option.map_some,PPl.mk.injEq]
 congr 1
 rw [Bool.eq_iff_iff]
 simp
def ak4 (p:PPl):List PPl→Nat→Option Nat
 | [],_=>none
 | e :: r,i=>if p = e then some i else ak4 p r (i + 1)
theorem air (p:PPl):∀ (ks:List PPl) (i:Nat),K0 true [1,1,0,0,0,0] p.v (ks.map PPl.v) i = some (ak4 p ks i)
 | [],_=>rfl
 | e :: r,i=>by
   have h:U6 true [1,1,0,0,0,0] p.v e.v = some (decide (p = e)):=auu p e
   rw [zy,K0,h]
   by_cases hk:p = e
   ·subst hk;simp [ak4]
   ·rw [zp hk];simp only [ak4,if_neg hk]
    exact air p r (i + 1)
theorem ap0 (p:PPl):U6 true [1,1,0,0,0,0] p.v p.v = some true:=by
 have:U6 true [1,1,0,0,0,0] p.v p.v = some (decide (p = p)):=auu p p
 rw [this];simp
def suU (c:QQ):List (Int×Int):=[(c.kx1,c.kx2),(c.sg1,c.sg2),(c.ci1,c.ci2),(c.mc1,c.mc2)]
def VG (f:JF) (a:Int):List (Int×Int):=if a < 1∨a > 22 then [] else if f.kind = 1∨f.kind = 3 then (if f.alg = a then [(f.alg,f.bits)] else []) else if f.kind = 2 then (if 1≤f.num∧f.num≤16 then (suU (J4 f.num)).filter (fun u=>u.1 == a) else []) else []
def yo (f:JF) (a:Int):Bool:=!decide (a < 1∨a > 22) && (!decide (f.kind = 1∨f.kind = 3) && (decide (f.kind = 2) && decide (1≤f.num∧f.num≤16)))
def afr (f:JF) (a:Int):V:=.tup [.sl 2 ((VG f a).map QK),V.bool (yo f a)]
def uSt (l:List (Int×Int)) (a:Int) (k:Nat):St:=Yh [(1,V.int a),(4,.hd 0 0 ((l.take k).filter (fun u=>u.1 == a)).length),(47,.hd 1 0 4),(48,V.int 4),(49,V.int k)] [(0,.buf true 2 (((l.take k).filter (fun u=>u.1 == a)).map QK)),(1,.buf true 2 (l.map QK))] 2
theorem yp (f:Nat→Nat) (xs:List (Int×Int)):jg f (xs.map QK) = xs.map QK:=QL _ _ (by induction xs with|nil=>trivial|cons x r ih=>exact ⟨by simp [QK,V.closed,Qd],ih⟩)
theorem ve (n:Nat) (xs:List (Int×Int)):ltL n (xs.map QK):=JC _ _ (by induction xs with|nil=>trivial|cons x r ih=>exact ⟨by simp [QK,V.closed,Qd],ih⟩)
def xr:=qd Proofs.Tryz.f84 []
def wY (Γ:Env) (f:Nat):Prop:=∀ (f0:JF) (a:Int),EvC Γ f [f0.v,V.int a] (afr f0 a)
attribute [local go_sem] Yh QK in
theorem aiE {Γ:Env} {f:Nat} (h:Has Γ.P f 63 xr.1.1.ac xr.1.2) (z0:Ym Γ 36):wY Γ f:=by
 intro f0 a
 refine Ql h zsi (by simp only [afr,V.closed,Qd,and_self]) fun C hC hm=>?_
 subst hC
 simp only [xr,qd,DC.ac]
 simp only [JF.v,JF.cells]
 rcases d1:decide (a < 1) with _|_
 rotate_left
 ·have h1:a < 1:=kh d1
  have e1:VG f0 a = []:=by rw [VG,if_pos (Or.inl h1)]
  have e2:yo f0 a = false:=by rw [yo,zv (Or.inl h1:a < 1∨a > 22)];rfl
  rw [afr,e1,e2]
  (have zx:=d1);exact zg
 rcases d2:decide (a > 22) with _|_
 rotate_left
 ·have h1:a > 22:=kh d2
  have e1:VG f0 a = []:=by rw [VG,if_pos (Or.inr h1)]
  have e2:yo f0 a = false:=by rw [yo,zv (Or.inr h1:a < 1∨a > 22)];rfl
  rw [afr,e1,e2]
  (have zx:=za d1 d2);exact zg
 have hr:¬ (a < 1∨a > 22):=by
  have:=of_decide_eq_false d1;have:=of_decide_eq_false d2;omega
 by_cases hk:f0.kind = 1∨f0.kind = 3
 ·have e2:yo f0 a = false:=by rw [yo,zv hk];simp
  by_cases ha:f0.alg = a
  ·have e1:VG f0 a = [(f0.alg,f0.bits)]:=by rw [VG,if_neg hr,if_pos hk,if_pos ha]
   have c2:(f0.alg == a) = true:=by simpa using ha
   rw [afr,e1,e2]
   rcases hk with hk|hk
   ·have c1:(f0.kind == 1) = true:=by simpa using hk
    simp only [zy,zw,QK]
    (have zx:=za d1 (za d2 (za c1 c2)));exact zg
   ·have c1:(f0.kind == 1) = false:=by rw [hk];rfl
    have c3:(f0.kind == 3) = true:=by simpa using hk
    simp only [zy,zw,QK]
    (have zx:=za d1 (za d2 (za c1 (za c3 c2))));exact zg
  ·have e1:VG f0 a = []:=by rw [VG,if_neg hr,if_pos hk,if_neg ha]
   have c2:(f0.alg == a) = false:=by simpa using ha
   rw [afr,e1,e2]
   rcases hk with hk|hk
   ·have c1:(f0.kind == 1) = true:=by simpa using hk
    (have zx:=za d1 (za d2 (za c1 c2)));exact zg
   ·have c1:(f0.kind == 1) = false:=by rw [hk];rfl
    have c3:(f0.kind == 3) = true:=by simpa using hk
    (have zx:=za d1 (za d2 (za c1 (za c3 c2))));exact zg
 have c1:(f0.kind == 1) = false:=by simpa using fun h=>hk (Or.inl h)
 have c3:(f0.kind == 3) = false:=by simpa using fun h=>hk (Or.inr h)
 by_cases h2:f0.kind = 2
 rotate_left
 ·have e1:VG f0 a = []:=by rw [VG,if_neg hr,if_neg hk,if_neg h2]
  have e2:yo f0 a = false:=by rw [yo,zp h2];simp
  have c2:(f0.kind == 2) = false:=by simpa using h2
  rw [afr,e1,e2]
  (have zx:=za d1 (za d2 (za c1 (za c2 c3))));exact zg
 have c2:(f0.kind == 2) = true:=by simpa using h2
 have gS:=(z0 f0.num).b
 by_cases hn:1≤f0.num∧f0.num≤16
 rotate_left
 ·have e1:VG f0 a = []:=by rw [VG,if_neg hr,if_neg hk,if_pos h2,if_neg hn]
  have e2:yo f0 a = false:=by rw [yo,zp hn];simp
  rw [KC,if_neg hn] at gS
  rw [afr,e1,e2]
  simp only [QQ.v,QQ.cells] at gS
  (have zx:=za d1 (za d2 (za c1 (za c2 c3))));exact zg
 have e1:VG f0 a = (suU (J4 f0.num)).filter (fun u=>u.1 == a):=by rw [VG,if_neg hr,if_neg hk,if_pos h2,if_pos hn]
 have e2:yo f0 a = true:=by rw [yo,zp hr,zp hk,zv h2,zv hn];rfl
 rw [KC,if_pos hn] at gS
 rw [afr,e1,e2]
 generalize J4 f0.num = c at *
 simp only [QQ.v,QQ.cells] at gS
 (have zx:=za d1 (za d2 (za c1 (za c2 c3))));refine zgo ?_;repeat' first|exact zt|apply zan|intro hc
 have hl4:(suU c).length = 4:=rfl
 have hsu:(suU c).map QK = [V.agg [V.int c.kx1,V.int c.kx2],V.agg [V.int c.sg1,V.int c.sg2],V.agg [V.int c.ci1,V.int c.ci2],V.agg [V.int c.mc1,V.int c.mc2]]:=rfl
 generalize suU c = l at *
 refine Qs (ι:=Nat) (fun k=>k≤4) (fun k=>uSt l a k) (fun k=>4 - k) 0 (zA _) (Qf [(0,1000),(1,36000)]) (Qo [(0,1000),(1,36000)] (by simp only [go_sem,zwl,uSt,List.take_zero,List.filter_nil,List.length_nil]<;>exact zcc) (by simp only [go_sem,zwl,uSt,List.take_zero,List.filter_nil,zw,hsu]<;>exact zcc) (by simp [uSt,Qf]) (by simp [uSt];omega) (by omega)) fun k hk4 K' hL=>?_
 have hlm:(l.map QK).length = 4:=by rw [zb,hl4]
 rcases hd:l.drop k with _|⟨y,r⟩
 ·have hkl:=Qr hd
  have ee:decide ((k:Int) < 4) = false:=by simp;omega
  obtain rfl:k = 4:=by omega
  have htk:l.take 4 = l:=zi (by omega)
  clear hL
  simp only [uSt,htk]
  generalize l.filter (fun u=>u.1 == a) = out at *
  have hto:List.take out.length (out.map QK) = out.map QK:=zi (by simp)
  (have zx:=za ee hto);refine zgo ?_;repeat' first|exact zt|apply zan|intro hc
  all_goals first|(refine Qi _ rfl ?_;simp only [go_sem,hto];done)|exact zr
 ·obtain ⟨hk',hget,hr⟩:=Qk hd
  have hw:=Qg (k:=k) (by omega)
  have ee:decide ((k:Int) < 4) = true:=by simp;omega
  have t1:l.take (k + 1) = l.take k++[y]:=by rw [zJ,hget];rfl
  obtain ⟨ya,yb⟩:=y
  rcases c4:ya == a with _|_
  ·have hf:(l.take (k + 1)).filter (fun u=>u.1 == a) = (l.take k).filter (fun u=>u.1 == a):=by rw [t1,List.filter_append];simp [c4]
   have hnn:=fun s'=>hL s' (k + 1) (Qf []) (by omega) (by omega)
   simp only [uSt,hf] at hnn ⊢
   generalize (l.take k).filter (fun u=>u.1 == a) = out at *
   (have zx:=za ee (za hw (za hget (za c4 hlm))));refine zgo ?_;repeat' first|exact zt|apply zan|intro hc
   all_goals exact hnn _ (Qo [] zwa (by simp only [go_sem,zwl,yp,ve]<;>exact zcc) (by simp [Qf]) (by simp) (by omega))
  ·have hf:(l.take (k + 1)).filter (fun u=>u.1 == a) = (l.take k).filter (fun u=>u.1 == a)++[(ya,yb)]:=by rw [t1,List.filter_append];simp [c4]
   have hnn:=fun s'=>hL s' (k + 1) (Qf [(0,12002)]) (by omega) (by omega)
   have hol:((l.take k).filter (fun u=>u.1 == a)).length≤4:=by
    have:=ZV (fun u:Int×Int=>u.1 == a) (l.take k)
    rw [zV] at this;omega
   simp only [uSt,hf] at hnn ⊢
   generalize (l.take k).filter (fun u=>u.1 == a) = out at *
   have hto:List.take out.length (out.map QK) = out.map QK:=zi (by simp)
   have hom:(out.map QK).length = out.length:=zb _
   have q1:(out.length + 1) * 2≤2 ^ 40:=by omega
   have q2:out.length + 1≤2 ^ 40:=by omega
   (have zx:=za ee (za hw (za hget (za c4 (za hlm (za hto (za hom (za q1 q2))))))));refine zgo ?_;repeat' first|exact zt|apply zan|intro hc
   all_goals exact hnn _ (Qo [(0,12002)] (by simp only [go_sem,zwl,zn,List.length_singleton]<;>exact zcc) (by simp only [go_sem,zwl,kc,zy,zw,yp,ve]<;>exact zcc) (by simp [Qf]) (by simp;omega) (by omega))
end Av
end
