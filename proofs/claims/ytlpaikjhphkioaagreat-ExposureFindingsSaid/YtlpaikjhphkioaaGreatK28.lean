/- K28 -/
import Derived.Test.YtlpaikjhphkioaaGreatK27
import Derived.Test.YtlpaikjhphkioaaGreatK12
set_option linter.unusedVariables false
set_option linter.unusedSimpArgs false
noncomputable section
set_option maxRecDepth 10000
set_option maxHeartbeats 4000000
namespace Av
open Go
attribute [local irreducible] AWp Uv qW xf awS awC abB awQ acd QZ UL aa2 awR Kc awB okR yu ris
structure QS where
 purp:Int
 days:Int
def QS.cells (k:QS):List V:=[V.int k.purp,V.int k.days]
abbrev QS.v (k:QS):V:=.agg k.cells
theorem QS.cells_closed (k:QS):Qd k.cells:=by simp only [QS.cells,V.closed,Qd,and_self]
def QX (r:Qj):Bool:=decide (r.alg≥0) && decide (r.alg≤22) && decide (r.below≥0) && decide (r.below≤16384) && decide (r.purp≥0) && decide (r.purp≤4) && decide (r.frm≥0) && decide (r.frm < r.til) && decide (r.til≤40001)
def XQ (k:QS):Bool:=decide (k.purp≥1) && decide (k.purp≤4) && decide (k.days≥0) && decide (k.days≤40000)
abbrev aj2 (rs:List Qj) (ks:List QS):V:=.agg [.sl 6 (rs.map Qj.v),.sl 2 (ks.map QS.v)]
def Yl (rs:List Qj) (ks:List QS):Int:=if (rs.all QX && ks.all XQ && decide (rs.length≤60) && decide (ks.length≤60)) = true then 0 else 25
theorem abl {α:Type} (p:α→Bool):∀ (xs:List α) (k:Nat),decide (wG p k xs≥0) = xs.any p
 | [],k=>by simp [wG]
 | x :: r,k=>by
   have ih:=abl p r (k + 1)
   rw [wG,List.any_cons]
   by_cases h:p x = true
   ·rw [if_pos h,h];simp
   ·have h2:p x = false:=by simpa using h
    rw [if_neg h,h2,ih];rfl
theorem al2 {α:Type} (p:α→Bool) (xs:List α):xs.any (fun x=>!p x) = !xs.all p:=by
 induction xs with
 | nil=>rfl
 | cons x r ih=>rw [List.any_cons,List.all_cons,ih,Bool.not_and]
def jd:=qd Proofs.Tryz.f61 []
def yP (Γ:Env) (f:Nat):Prop:=∀ (r:Qj),EvN Γ f [r.v] (V.bool (QX r))
attribute [local go_sem] Qj.cells in
theorem agj {Γ:Env} {f:Nat} (h:Has Γ.P f 48 jd.1.1.ac jd.1.2) :yP Γ f:=by
 intro r
 refine Qb h zsi zcl zcl fun C hC hm=>?_
 subst hC
 simp only [jd,qd,DC.ac]
 rcases h1:decide (r.alg≥0) with _|_
 ·have hr:QX r = false:=by simp only [QX,h1,zI,zy,zN,zC]
  rw [hr]
  (have zx:=h1);exact zg
 rcases h2:decide (r.alg≤22) with _|_
 ·have hr:QX r = false:=by simp only [QX,h1,h2,zI,zy,zN,zC]
  rw [hr]
  (have zx:=za h1 h2);exact zg
 rcases h3:decide (r.below≥0) with _|_
 ·have hr:QX r = false:=by simp only [QX,h1,h2,h3,zI,zy,zN,zC]
  rw [hr]
  (have zx:=za h1 (za h2 h3));exact zg
 rcases h4:decide (r.below≤16384) with _|_
 ·have hr:QX r = false:=by simp only [QX,h1,h2,h3,h4,zI,zy,zN,zC]
  rw [hr]
  (have zx:=za h1 (za h2 (za h3 h4)));exact zg
 rcases h5:decide (r.purp≥0) with _|_
 ·have hr:QX r = false:=by simp only [QX,h1,h2,h3,h4,h5,zI,zy,zN,zC]
  rw [hr]
  (have zx:=za h1 (za h2 (za h3 (za h4 h5))));exact zg
 rcases h6:decide (r.purp≤4) with _|_
 ·have hr:QX r = false:=by simp only [QX,h1,h2,h3,h4,h5,h6,zI,zy,zN,zC]
  rw [hr]
  (have zx:=za h1 (za h2 (za h3 (za h4 (za h5 h6)))));exact zg
 rcases h7:decide (r.frm≥0) with _|_
 ·have hr:QX r = false:=by simp only [QX,h1,h2,h3,h4,h5,h6,h7,zI,zy,zN,zC]
  rw [hr]
  (have zx:=za h1 (za h2 (za h3 (za h4 (za h5 (za h6 h7))))));exact zg
 rcases h8:decide (r.frm < r.til) with _|_
 ·have hr:QX r = false:=by simp only [QX,h1,h2,h3,h4,h5,h6,h7,h8,zI,zy,zN,zC]
  rw [hr]
  (have zx:=za h1 (za h2 (za h3 (za h4 (za h5 (za h6 (za h7 h8)))))));exact zg
 rcases h9:decide (r.til≤40001) with _|_
 ·have hr:QX r = false:=by simp only [QX,h1,h2,h3,h4,h5,h6,h7,h8,h9,zI,zy,zN,zC]
  rw [hr]
  (have zx:=za h1 (za h2 (za h3 (za h4 (za h5 (za h6 (za h7 (za h8 h9))))))));exact zg
 have hr:QX r = true:=by simp only [QX,h1,h2,h3,h4,h5,h6,h7,h8,h9,bm]
 rw [hr]
 (have zx:=za h1 (za h2 (za h3 (za h4 (za h5 (za h6 (za h7 (za h8 h9))))))));exact zg
def KO:=qd Proofs.Tryz.f69 []
def jN (Γ:Env) (f:Nat):Prop:=∀ (r:Qj),EvN Γ f [r.v] (V.bool (QX r))
attribute [local go_sem] Qj.cells in
theorem aeQ {Γ:Env} {f:Nat} (h:Has Γ.P f 48 KO.1.1.ac KO.1.2) :jN Γ f:=by
 intro r
 refine Qb h zsi zcl zcl fun C hC hm=>?_
 subst hC
 simp only [KO,qd,DC.ac]
 rcases h1:decide (r.alg≥0) with _|_
 ·have hr:QX r = false:=by simp only [QX,h1,zI,zy,zN,zC]
  rw [hr]
  (have zx:=h1);exact zg
 rcases h2:decide (r.alg≤22) with _|_
 ·have hr:QX r = false:=by simp only [QX,h1,h2,zI,zy,zN,zC]
  rw [hr]
  (have zx:=za h1 h2);exact zg
 rcases h3:decide (r.below≥0) with _|_
 ·have hr:QX r = false:=by simp only [QX,h1,h2,h3,zI,zy,zN,zC]
  rw [hr]
  (have zx:=za h1 (za h2 h3));exact zg
 rcases h4:decide (r.below≤16384) with _|_
 ·have hr:QX r = false:=by simp only [QX,h1,h2,h3,h4,zI,zy,zN,zC]
  rw [hr]
  (have zx:=za h1 (za h2 (za h3 h4)));exact zg
 rcases h5:decide (r.purp≥0) with _|_
 ·have hr:QX r = false:=by simp only [QX,h1,h2,h3,h4,h5,zI,zy,zN,zC]
  rw [hr]
  (have zx:=za h1 (za h2 (za h3 (za h4 h5))));exact zg
 rcases h6:decide (r.purp≤4) with _|_
 ·have hr:QX r = false:=by simp only [QX,h1,h2,h3,h4,h5,h6,zI,zy,zN,zC]
  rw [hr]
  (have zx:=za h1 (za h2 (za h3 (za h4 (za h5 h6)))));exact zg
 rcases h7:decide (r.frm≥0) with _|_
 ·have hr:QX r = false:=by simp only [QX,h1,h2,h3,h4,h5,h6,h7,zI,zy,zN,zC]
  rw [hr]
  (have zx:=za h1 (za h2 (za h3 (za h4 (za h5 (za h6 h7))))));exact zg
 rcases h8:decide (r.frm < r.til) with _|_
 ·have hr:QX r = false:=by simp only [QX,h1,h2,h3,h4,h5,h6,h7,h8,zI,zy,zN,zC]
  rw [hr]
  (have zx:=za h1 (za h2 (za h3 (za h4 (za h5 (za h6 (za h7 h8)))))));exact zg
 rcases h9:decide (r.til≤40001) with _|_
 ·have hr:QX r = false:=by simp only [QX,h1,h2,h3,h4,h5,h6,h7,h8,h9,zI,zy,zN,zC]
  rw [hr]
  (have zx:=za h1 (za h2 (za h3 (za h4 (za h5 (za h6 (za h7 (za h8 h9))))))));exact zg
 have hr:QX r = true:=by simp only [QX,h1,h2,h3,h4,h5,h6,h7,h8,h9,bm]
 rw [hr]
 (have zx:=za h1 (za h2 (za h3 (za h4 (za h5 (za h6 (za h7 (za h8 h9))))))));exact zg
def yE:=qd Proofs.Tryz.f64 []
def x8 (Γ:Env) (f:Nat):Prop:=∀ (k:QS),EvN Γ f [k.v] (V.bool (XQ k))
attribute [local go_sem] QS.cells in
theorem ah1 {Γ:Env} {f:Nat} (h:Has Γ.P f 21 yE.1.1.ac yE.1.2) :x8 Γ f:=by
 intro k
 refine Qb h zsi zcl zcl fun C hC hm=>?_
 subst hC
 simp only [yE,qd,DC.ac]
 rcases h1:decide (k.purp≥1) with _|_
 ·have hr:XQ k = false:=by simp only [XQ,h1,zI,zy,zN,zC]
  rw [hr]
  (have zx:=h1);exact zg
 rcases h2:decide (k.purp≤4) with _|_
 ·have hr:XQ k = false:=by simp only [XQ,h1,h2,zI,zy,zN,zC]
  rw [hr]
  (have zx:=za h1 h2);exact zg
 rcases h3:decide (k.days≥0) with _|_
 ·have hr:XQ k = false:=by simp only [XQ,h1,h2,h3,zI,zy,zN,zC]
  rw [hr]
  (have zx:=za h1 (za h2 h3));exact zg
 rcases h4:decide (k.days≤40000) with _|_
 ·have hr:XQ k = false:=by simp only [XQ,h1,h2,h3,h4,zI,zy,zN,zC]
  rw [hr]
  (have zx:=za h1 (za h2 (za h3 h4)));exact zg
 have hr:XQ k = true:=by simp only [XQ,h1,h2,h3,h4,bm]
 rw [hr]
 (have zx:=za h1 (za h2 (za h3 h4)));exact zg
def ji:=qd Proofs.Tryz.f70 []
def yS (Γ:Env) (f:Nat):Prop:=∀ (k:QS),EvN Γ f [k.v] (V.bool (XQ k))
attribute [local go_sem] QS.cells in
theorem ago {Γ:Env} {f:Nat} (h:Has Γ.P f 21 ji.1.1.ac ji.1.2) :yS Γ f:=by
 intro k
 refine Qb h zsi zcl zcl fun C hC hm=>?_
 subst hC
 simp only [ji,qd,DC.ac]
 rcases h1:decide (k.purp≥1) with _|_
 ·have hr:XQ k = false:=by simp only [XQ,h1,zI,zy,zN,zC]
  rw [hr]
  (have zx:=h1);exact zg
 rcases h2:decide (k.purp≤4) with _|_
 ·have hr:XQ k = false:=by simp only [XQ,h1,h2,zI,zy,zN,zC]
  rw [hr]
  (have zx:=za h1 h2);exact zg
 rcases h3:decide (k.days≥0) with _|_
 ·have hr:XQ k = false:=by simp only [XQ,h1,h2,h3,zI,zy,zN,zC]
  rw [hr]
  (have zx:=za h1 (za h2 h3));exact zg
 rcases h4:decide (k.days≤40000) with _|_
 ·have hr:XQ k = false:=by simp only [XQ,h1,h2,h3,h4,zI,zy,zN,zC]
  rw [hr]
  (have zx:=za h1 (za h2 (za h3 h4)));exact zg
 have hr:XQ k = true:=by simp only [XQ,h1,h2,h3,h4,bm]
 rw [hr]
 (have zx:=za h1 (za h2 (za h3 h4)));exact zg
def UW:=qd Proofs.Tryz.f60 []
def qH (Γ:Env) (f:Nat):Prop:=∀ (r:Qj),EvN Γ f [r.v] (V.bool (!QX r))
theorem adU {Γ:Env} {f:Nat} (h:Has Γ.P f 6 UW.1.1.ac UW.1.2) (z0:yP Γ 61):qH Γ f:=by
 intro r
 refine Qb h zsi zcl zcl fun C hC hm=>?_
 subst hC
 simp only [UW,qd,DC.ac]
 have h:=(z0 r).b
 simp only [Qj.v,Qj.cells] at h ⊢
 exact zg
def UV:=qd Proofs.Tryz.f63 []
def qG (Γ:Env) (f:Nat):Prop:=∀ (k:QS),EvN Γ f [k.v] (V.bool (!XQ k))
theorem adT {Γ:Env} {f:Nat} (h:Has Γ.P f 6 UV.1.1.ac UV.1.2) (z0:x8 Γ 64):qG Γ f:=by
 intro k
 refine Qb h zsi zcl zcl fun C hC hm=>?_
 subst hC
 simp only [UV,qd,DC.ac]
 have h:=(z0 k).b
 simp only [QS.v,QS.cells] at h ⊢
 exact zg
def QP:=qd Proofs.Tryz.f93 []
def Jk (Γ:Env) (f:Nat):Prop:=∀ (xs:List Qj) (g:Nat) (p:Qj→Bool) (hp:∀ x,EvN Γ g [Qj.v x] (V.bool (p x))) (hl:xs.length < 2 ^ 62),EvN Γ f [.sl 6 (xs.map Qj.v),.clo g []] (V.int (wG p 0 xs))
attribute [local go_sem] Qj.cells Qj.v in
theorem XU {Γ:Env} {f:Nat} (h:Has Γ.P f 19 QP.1.1.ac QP.1.2) :Jk Γ f:=by
 intro xs g p hp hl
 refine Qb h zsi zcl zcl fun C hC hm=>?_
 subst hC
 simp only [QP,qd,DC.ac]
 refine zgo ?_;repeat' first|exact zt|apply zan|intro hc
 refine Qx (ι:=Nat) (fun k=>k≤xs.length∧wG p k (xs.drop k) = wG p 0 xs) (fun k=>[(8,V.int k)]) (fun k=>xs.length - k) 0 (by omega) ⟨by simp,by simp⟩ zol zlt zet fun k hk K' hL=>?_
 obtain ⟨hk,hinv⟩:=hk
 simp only [ovT,JQ,Nat.reduceEqDiff,reduceIte]
 rcases hd:xs.drop k with _|⟨y,r⟩
 ·have:=Qs hd
  rw [hd] at hinv
  have e1:decide ((k:Int) < (((xs.map Qj.v).length:Nat):Int)) = false:=by simp;omega
  (have zx:=e1);refine zgo ?_;repeat' first|exact zt|apply zan|intro hc
  refine Qk _ rfl ?_
  simp only [go_sem]
  rw [← hinv];rfl
 ·obtain ⟨hk,hget,hr⟩:=Ql hd
  rw [hd] at hinv
  have hw:=Qf (k:=k) (by omega)
  have e1:decide ((k:Int) < (((xs.map Qj.v).length:Nat):Int)) = true:=by simp;omega
  have hpy:=hp y
  by_cases hy:p y = true
  ·rw [hy] at hpy
   (have zy0:=hpy.b;have zx:=za hget (za hw e1));refine zgo ?_;repeat' first|exact zt|apply zan|intro hc
   refine Qk _ rfl ?_;simp only [go_sem]
   rw [← hinv];simp [wG,hy]
  ·have hy':p y = false:=by simpa using hy
   rw [hy'] at hpy
   (have zy0:=hpy.b;have zx:=za hget (za hw e1));refine zgo ?_;repeat' first|exact zt|apply zan|intro hc
   refine hL _ (k + 1) zet ⟨by omega,?_⟩ (by omega) zoe
   rw [hr,← hinv,wG,if_neg hy]
def QI:=qd Proofs.Tryz.f59 []
def Q4 (Γ:Env) (f:Nat):Prop:=∀ (xs:List Qj) (g:Nat) (p:Qj→Bool) (hp:∀ x,EvN Γ g [Qj.v x] (V.bool (p x))) (hl:xs.length < 2 ^ 62),EvN Γ f [.sl 6 (xs.map Qj.v),.clo g []] (V.bool (xs.any p))
theorem Xr {Γ:Env} {f:Nat} (h:Has Γ.P f 9 QI.1.1.ac QI.1.2) (z0:Jk Γ 93):Q4 Γ f:=by
 intro xs g p hp hl
 refine Qb h zsi zcl zcl fun C hC hm=>?_
 subst hC
 simp only [QI,qd,DC.ac]
 have hi:=(z0 xs g p hp hl).b
 have e1:=abl p xs 0
 (have zx:=e1);exact zg
def QQ:=qd Proofs.Tryz.f94 []
def Jl (Γ:Env) (f:Nat):Prop:=∀ (xs:List QS) (g:Nat) (p:QS→Bool) (hp:∀ x,EvN Γ g [QS.v x] (V.bool (p x))) (hl:xs.length < 2 ^ 62),EvN Γ f [.sl 2 (xs.map QS.v),.clo g []] (V.int (wG p 0 xs))
attribute [local go_sem] QS.cells QS.v in
theorem XV {Γ:Env} {f:Nat} (h:Has Γ.P f 19 QQ.1.1.ac QQ.1.2) :Jl Γ f:=by
 intro xs g p hp hl
 refine Qb h zsi zcl zcl fun C hC hm=>?_
 subst hC
 simp only [QQ,qd,DC.ac]
 refine zgo ?_;repeat' first|exact zt|apply zan|intro hc
 refine Qx (ι:=Nat) (fun k=>k≤xs.length∧wG p k (xs.drop k) = wG p 0 xs) (fun k=>[(8,V.int k)]) (fun k=>xs.length - k) 0 (by omega) ⟨by simp,by simp⟩ zol zlt zet fun k hk K' hL=>?_
 obtain ⟨hk,hinv⟩:=hk
 simp only [ovT,JQ,Nat.reduceEqDiff,reduceIte]
 rcases hd:xs.drop k with _|⟨y,r⟩
 ·have:=Qs hd
  rw [hd] at hinv
  have e1:decide ((k:Int) < (((xs.map QS.v).length:Nat):Int)) = false:=by simp;omega
  (have zx:=e1);refine zgo ?_;repeat' first|exact zt|apply zan|intro hc
  refine Qk _ rfl ?_
  simp only [go_sem]
  rw [← hinv];rfl
 ·obtain ⟨hk,hget,hr⟩:=Ql hd
  rw [hd] at hinv
  have hw:=Qf (k:=k) (by omega)
  have e1:decide ((k:Int) < (((xs.map QS.v).length:Nat):Int)) = true:=by simp;omega
  have hpy:=hp y
  by_cases hy:p y = true
  ·rw [hy] at hpy
   (have zy0:=hpy.b;have zx:=za hget (za hw e1));refine zgo ?_;repeat' first|exact zt|apply zan|intro hc
   refine Qk _ rfl ?_;simp only [go_sem]
   rw [← hinv];simp [wG,hy]
  ·have hy':p y = false:=by simpa using hy
   rw [hy'] at hpy
   (have zy0:=hpy.b;have zx:=za hget (za hw e1));refine zgo ?_;repeat' first|exact zt|apply zan|intro hc
   refine hL _ (k + 1) zet ⟨by omega,?_⟩ (by omega) zoe
   rw [hr,← hinv,wG,if_neg hy]
def QJ:=qd Proofs.Tryz.f62 []
def Q5 (Γ:Env) (f:Nat):Prop:=∀ (xs:List QS) (g:Nat) (p:QS→Bool) (hp:∀ x,EvN Γ g [QS.v x] (V.bool (p x))) (hl:xs.length < 2 ^ 62),EvN Γ f [.sl 2 (xs.map QS.v),.clo g []] (V.bool (xs.any p))
theorem Xs {Γ:Env} {f:Nat} (h:Has Γ.P f 9 QJ.1.1.ac QJ.1.2) (z0:Jl Γ 94):Q5 Γ f:=by
 intro xs g p hp hl
 refine Qb h zsi zcl zcl fun C hC hm=>?_
 subst hC
 simp only [QJ,qd,DC.ac]
 have hi:=(z0 xs g p hp hl).b
 have e1:=abl p xs 0
 (have zx:=e1);exact zg
def je:=qd Proofs.Tryz.f30 []
def K5 (Γ:Env) (f:Nat):Prop:=∀ (rs:List Qj) (ks:List QS) (hr:rs.length < 2 ^ 40) (hk:ks.length < 2 ^ 40),EvN Γ f [aj2 rs ks] (V.int (Yl rs ks))
theorem agk {Γ:Env} {f:Nat} (h:Has Γ.P f 25 je.1.1.ac je.1.2) (z0:Q4 Γ 59) (z1:qH Γ 60) (z2:Q5 Γ 62) (z3:qG Γ 63):K5 Γ f:=by
 intro rs ks hr hk
 refine Qb h zsi zcl zcl fun C hC hm=>?_
 subst hC
 simp only [je,qd,DC.ac]
 have c1:=(z0 rs 60 (fun r=>!QX r) (fun r=>z1 r) (by omega)).b
 have c2:=(z2 ks 63 (fun r=>!XQ r) (fun r=>z3 r) (by omega)).b
 rw [al2] at c1 c2
 have e3:decide ((((rs.map Qj.v).length:Nat):Int) > 60) = !decide (rs.length≤60):=by
  rw [zb,← decide_not];apply decide_eq_decide.2;omega
 have e4:decide ((((ks.map QS.v).length:Nat):Int) > 60) = !decide (ks.length≤60):=by
  rw [zb,← decide_not];apply decide_eq_decide.2;omega
 rw [Yl]
 generalize rs.all QX = b1 at *
 generalize ks.all XQ = b2 at *
 generalize decide (rs.length≤60) = b3 at *
 generalize decide (ks.length≤60) = b4 at *
 rcases b1 with _|_
 ·refine zgo ?_;repeat' first|exact zt|apply zan|intro hc
  all_goals first|exact zr|(refine Qk _ rfl ?_;simp only [go_sem];simp;done)
 rcases b2 with _|_
 ·refine zgo ?_;repeat' first|exact zt|apply zan|intro hc
  all_goals first|exact zr|(refine Qk _ rfl ?_;simp only [go_sem];simp;done)
 rcases b3 with _|_
 ·(have zx:=e3);refine zgo ?_;repeat' first|exact zt|apply zan|intro hc
  all_goals first|exact zr|(refine Qk _ rfl ?_;simp only [go_sem];simp;done)
 rcases b4 with _|_
 ·(have zx:=za e3 e4);refine zgo ?_;repeat' first|exact zt|apply zan|intro hc
  all_goals first|exact zr|(refine Qk _ rfl ?_;simp only [go_sem];simp;done)
 ·(have zx:=za e3 e4);refine zgo ?_;repeat' first|exact zt|apply zan|intro hc
  all_goals first|exact zr|(refine Qk _ rfl ?_;simp only [go_sem];simp;done)
def aig (r:Qj) (a b pu:Int):Bool:=!((r.alg != 0 && r.alg != a) || (r.purp != 0 && r.purp != pu)) && (r.below == 0 || (decide (b > 0) && decide (b < r.below)))
def anR (p:Qj→Bool) (rs:List Qj):Nat→Int
 | 0=>-1
 | k + 1=>match rs[k]? with
   | some r=>if p r = true then (k:Int) else anR p rs k
   | none=>anR p rs k
def apL (a b pu day:Int) (r:Qj):Bool:=aig r a b pu && (decide (r.frm≤day) && decide (day < r.til))
def akK (rs:List Qj) (a b pu day:Int):Int:=anR (apL a b pu day) rs rs.length
theorem agG (p:Qj→Bool) (rs:List Qj):∀ k,anR p rs k = -1∨∃ i r,i < k∧anR p rs k = (i:Int)∧rs[i]? = some r
 | 0=>.inl rfl
 | k + 1=>by
   have ih:=agG p rs k
   rw [anR]
   split
   ·rename_i r hr
    split
    ·exact .inr ⟨k,r,Nat.lt_succ_self _,rfl,hr⟩
    ·exact ih.imp id fun ⟨i,r,h1,h2⟩=>⟨i,r,by omega,h2⟩
   ·exact ih.imp id fun ⟨i,r,h1,h2⟩=>⟨i,r,by omega,h2⟩
def xj (rs:List Qj) (a b pu day:Int):Bool:=decide (akK rs a b pu day < 0) || ((rs[(akK rs a b pu day).toNat]?).map (·.allow)).getD false
def WR (rs:List Qj) (ks:List QS) (a b pu day:Int):Int :=
 if Yl rs ks≠0 then Yl rs ks else if ¬ QL a b > 0 then 7 else if pu < 1∨pu > 4∨day < 0∨day > 40000 then 2 else 0
def Ym:=qd Proofs.Tryz.f97 []
def vR (Γ:Env) (f:Nat):Prop:=∀ (r:Qj) (a b pu:Int),EvN Γ f [r.v,.agg [V.int a,V.int b],V.int pu] (V.bool (aig r a b pu))
theorem vn {Γ:Env} {f:Nat} (h:Has Γ.P f 43 Ym.1.1.ac Ym.1.2) :vR Γ f:=by
 intro r a b pu
 refine Qb h zsi zcl zcl fun C hC hm=>?_
 subst hC
 simp only [Ym,qd,DC.ac]
 obtain ⟨al,alg,below,purp,frm,til⟩:=r
 simp only [Qj.v,Qj.cells,aig]
 generalize hb1:(alg != 0) = b1
 generalize hb2:(alg != a) = b2
 generalize hb3:(purp != 0) = b3
 generalize hb4:(purp != pu) = b4
 generalize hb5:(below == 0) = b5
 generalize hb6:decide (b > 0) = b6
 generalize hb7:decide (b < below) = b7
 (have zx:=za hb1 (za hb2 (za hb3 (za hb4 (za hb5 (za hb6 hb7))))));refine zgo ?_;repeat' first|exact zt|apply zan|intro hc
 all_goals (refine Qk _ rfl ?_;simp only [go_sem];simp_all;done)
def V8 (Γ:Env) (f:Nat):Prop:=∀ (rs:List Qj) (ks:List QS) (a b pu day:Int) (hr:rs.length < 2 ^ 40),EvN Γ f [aj2 rs ks,.agg [V.int a,V.int b],V.int pu,V.int day] (V.int (akK rs a b pu day))
def Wc:=qd Proofs.Tryz.f67 []
def V9 (Γ:Env) (f:Nat):Prop:=∀ (rs:List Qj) (ks:List QS) (a b pu day:Int) (hr:rs.length < 2 ^ 40),EvN Γ f [aj2 rs ks,.agg [V.int a,V.int b],V.int pu,V.int day] (V.bool (xj rs a b pu day))
theorem aao {Γ:Env} {f:Nat} (h:Has Γ.P f 25 Wc.1.1.ac Wc.1.2) (z0:V8 Γ 68):V9 Γ f:=by
 intro rs ks a b pu day hr
 refine Qb h zsi zcl zcl fun C hC hm=>?_
 subst hC
 simp only [Wc,qd,DC.ac]
 have p1:=(z0 rs ks a b pu day hr).b
 rw [xj]
 rcases agG (apL a b pu day) rs rs.length with hd|⟨i,r,hi,hd,hget⟩
 ·rw [akK] at p1 ⊢
  rw [hd] at p1 ⊢
  have e1:decide ((-1:Int) < 0) = true:=by decide
  (have zx:=e1);refine zgo ?_;repeat' first|exact zt|apply zan|intro hc
  all_goals first|exact zr|(refine Qk _ rfl ?_;simp only [go_sem];rfl)
 ·rw [akK] at p1 ⊢
  rw [hd] at p1 ⊢
  have e1:decide ((i:Int) < 0) = false:=by simp
  have vr:(rs.map Qj.v)[i]? = some r.v:=by rw [zf,hget];rfl
  have hlr:(rs.map Qj.v).length = rs.length:=zb _
  simp only [Qj.v,Qj.cells] at vr
  rw [Int.toNat_natCast,hget]
  (have zx:=za e1 (za vr hlr));refine zgo ?_;repeat' first|exact zt|apply zan|intro hc
  all_goals first|exact zr|(refine Qk _ rfl ?_;simp only [go_sem];rfl)
def VK:=qd Proofs.Tryz.f66 []
def Kk (Γ:Env) (f:Nat):Prop:=∀ (rs:List Qj) (ks:List QS) (a b pu day:Int) (hr:rs.length < 2 ^ 40) (hk:ks.length < 2 ^ 40),EvN Γ f [aj2 rs ks,.agg [V.int a,V.int b],V.int pu,V.int day] (V.int (WR rs ks a b pu day))
theorem acy {Γ:Env} {f:Nat} (h:Has Γ.P f 34 VK.1.1.ac VK.1.2) (z0:K5 Γ 30) (z1:Vd Γ 95):Kk Γ f:=by
 intro rs ks a b pu day hr hk
 refine Qb h zsi zcl zcl fun C hC hm=>?_
 subst hC
 simp only [VK,qd,DC.ac]
 have p1:=(z0 rs ks hr hk).b
 have p2:=(z1 a b).b
 rw [WR]
 by_cases h0:Yl rs ks = 0
 ·rw [if_neg (by simpa using h0)]
  rw [h0] at p1
  have n0:((0:Int) != 0) = false:=by decide
  by_cases h1:QL a b > 0
  ·rw [if_neg (by simpa using h1)]
   rw [zo h1] at p2
   generalize hb1:decide (pu < 1) = b1
   generalize hb2:decide (pu > 4) = b2
   generalize hb3:decide (day < 0) = b3
   generalize hb4:decide (day > 40000) = b4
   have hif:(if pu < 1∨pu > 4∨day < 0∨day > 40000 then (2:Int) else 0) = bif b1 || (b2 || (b3 || b4)) then 2 else 0:=by
    rw [← hb1,← hb2,← hb3,← hb4]
    by_cases q1:pu < 1<;>by_cases q2:pu > 4<;>by_cases q3:day < 0<;>by_cases q4:day > 40000<;>simp [q1,q2,q3,q4]
   rw [hif]
   (have zx:=za n0 (za hb1 (za hb2 (za hb3 hb4))));refine zgo ?_;repeat' first|exact zt|apply zan|intro hc
   all_goals (refine Qk _ rfl ?_;simp only [go_sem];simp_all;done)
  ·rw [if_pos h1]
   rw [zp h1] at p2
   (have zx:=n0);exact zg
 ·rw [if_pos h0]
  have n0:(Yl rs ks != 0) = true:=by simpa using h0
  generalize Yl rs ks = cv at *
  (have zx:=n0);exact zg
def Wd:=qd Proofs.Tryz.f32 [zhn 13]
def Ua (Γ:Env) (f:Nat):Prop:=∀ (rs:List Qj) (ks:List QS) (a b pu day:Int) (hr:rs.length < 2 ^ 40) (hk:ks.length < 2 ^ 40),EvN Γ f [aj2 rs ks,.agg [V.int a,V.int b],V.int pu,V.int day] ((if WR rs ks a b pu day≠0 then .tup [V.bool false,V.int 0,V.int (WR rs ks a b pu day)] else .tup [V.bool (xj rs a b pu day),V.int (akK rs a b pu day),V.int 0]))
theorem aap {Γ:Env} {f:Nat} (h:Has Γ.P f 30 Wd.1.1.ac Wd.1.2) (z0:Kk Γ 66) (z1:V9 Γ 67) (z2:V8 Γ 68):Ua Γ f:=by
 intro rs ks a b pu day hr hk
 refine Qb h zsi (by split<;>simp only [V.closed,Qd,V.noSl,WP,and_self]) (by split<;>simp only [V.closed,Qd,V.noSl,WP,and_self]) fun C hC hm=>?_
 subst hC
 simp only [Wd,qd,DC.ac]
 have p1:=(z0 rs ks a b pu day hr hk).b
 have p2:=(z1 rs ks a b pu day hr).b
 have p3:=(z2 rs ks a b pu day hr).b
 by_cases h0:WR rs ks a b pu day = 0
 ·rw [if_neg (by simpa using h0)]
  rw [h0] at p1
  have n0:((0:Int) != 0) = false:=by decide
  generalize xj rs a b pu day = r1 at *
  generalize akK rs a b pu day = r2 at *
  (have zx:=n0);exact zg
 ·rw [if_pos h0]
  have n0:(WR rs ks a b pu day != 0) = true:=by simpa using h0
  generalize WR rs ks a b pu day = er at *
  (have zx:=n0);exact zg
end Av
end
