/- W27 -/
import Derived.Test.YtlpaikjhphkioaaGreatW26
import Derived.Test.YtlpaikjhphkioaaGreatW12
set_option linter.unusedVariables false
set_option linter.unusedSimpArgs false
noncomputable section
set_option maxRecDepth 10000
set_option maxHeartbeats 4000000
namespace Av
open Go
attribute [local irreducible] AWp Vy K7 jE awS awC aaG awQ abg QW Uc vZ awR Uj awB okR jt ris
structure QS where
 purp:Int
 days:Int
def QS.cells (k:QS):List V:=[V.int k.purp,V.int k.days]
abbrev QS.v (k:QS):V:=.agg k.cells
theorem QS.cells_closed (k:QS):Qc k.cells:=by simp only [QS.cells,V.closed,Qc,and_self]
def QQ (r:Qj):Bool:=decide (r.alg≥0) && decide (r.alg≤22) && decide (r.below≥0) && decide (r.below≤16384) && decide (r.purp≥0) && decide (r.purp≤4) && decide (r.frm≥0) && decide (r.frm < r.til) && decide (r.til≤40001)
def Y7 (k:QS):Bool:=decide (k.purp≥1) && decide (k.purp≤4) && decide (k.days≥0) && decide (k.days≤40000)
abbrev ajb (rs:List Qj) (ks:List QS):V:=.agg [.sl 6 (rs.map Qj.v),.sl 2 (ks.map QS.v)]
def J9 (rs:List Qj) (ks:List QS):Int:=if (rs.all QQ && ks.all Y7 && decide (rs.length≤60) && decide (ks.length≤60)) = true then 0 else 25
theorem vK {α:Type} (p:α→Bool):∀ (xs:List α) (k:Nat),decide (yF p k xs≥0) = xs.any p
 | [],k=>by simp [yF]
 | x :: r,k=>by
   have ih:=vK p r (k + 1)
   rw [yF,List.any_cons]
   by_cases h:p x = true
   ·rw [if_pos h,h];simp
   ·have h2:p x = false:=by simpa using h
    rw [if_neg h,h2,ih];rfl
theorem ajX {α:Type} (p:α→Bool) (xs:List α):xs.any (fun x=>!p x) = !xs.all p:=by
 induction xs with
 | nil=>rfl
 | cons x r ih=>rw [List.any_cons,List.all_cons,ih,Bool.not_and]
def KQ:=qd Proofs.Tryz.f61 []
def jg (Γ:Env) (f:Nat):Prop:=∀ (r:Qj),EvN Γ f [r.v] (V.bool (QQ r))
attribute [local go_sem] Qj.cells in
theorem aeC {Γ:Env} {f:Nat} (h:Has Γ.P f 48 KQ.1.1.ac KQ.1.2) :jg Γ f:=by
 intro r
 refine Qb h zsi zcl zcl fun C hC hm=>?_
 subst hC
 simp only [KQ,qd,DC.ac]
 rcases h1:decide (r.alg≥0) with _|_
 ·have hr:QQ r = false:=by simp only [QQ,h1,zO,zE,zX,zH]
  rw [hr]
  (have zx:=h1);exact zg
 rcases h2:decide (r.alg≤22) with _|_
 ·have hr:QQ r = false:=by simp only [QQ,h1,h2,zO,zE,zX,zH]
  rw [hr]
  (have zx:=za h1 h2);exact zg
 rcases h3:decide (r.below≥0) with _|_
 ·have hr:QQ r = false:=by simp only [QQ,h1,h2,h3,zO,zE,zX,zH]
  rw [hr]
  (have zx:=za h1 (za h2 h3));exact zg
 rcases h4:decide (r.below≤16384) with _|_
 ·have hr:QQ r = false:=by simp only [QQ,h1,h2,h3,h4,zO,zE,zX,zH]
  rw [hr]
  (have zx:=za h1 (za h2 (za h3 h4)));exact zg
 rcases h5:decide (r.purp≥0) with _|_
 ·have hr:QQ r = false:=by simp only [QQ,h1,h2,h3,h4,h5,zO,zE,zX,zH]
  rw [hr]
  (have zx:=za h1 (za h2 (za h3 (za h4 h5))));exact zg
 rcases h6:decide (r.purp≤4) with _|_
 ·have hr:QQ r = false:=by simp only [QQ,h1,h2,h3,h4,h5,h6,zO,zE,zX,zH]
  rw [hr]
  (have zx:=za h1 (za h2 (za h3 (za h4 (za h5 h6)))));exact zg
 rcases h7:decide (r.frm≥0) with _|_
 ·have hr:QQ r = false:=by simp only [QQ,h1,h2,h3,h4,h5,h6,h7,zO,zE,zX,zH]
  rw [hr]
  (have zx:=za h1 (za h2 (za h3 (za h4 (za h5 (za h6 h7))))));exact zg
 rcases h8:decide (r.frm < r.til) with _|_
 ·have hr:QQ r = false:=by simp only [QQ,h1,h2,h3,h4,h5,h6,h7,h8,zO,zE,zX,zH]
  rw [hr]
  (have zx:=za h1 (za h2 (za h3 (za h4 (za h5 (za h6 (za h7 h8)))))));exact zg
 rcases h9:decide (r.til≤40001) with _|_
 ·have hr:QQ r = false:=by simp only [QQ,h1,h2,h3,h4,h5,h6,h7,h8,h9,zO,zE,zX,zH]
  rw [hr]
  (have zx:=za h1 (za h2 (za h3 (za h4 (za h5 (za h6 (za h7 (za h8 h9))))))));exact zg
 have hr:QQ r = true:=by simp only [QQ,h1,h2,h3,h4,h5,h6,h7,h8,h9,bf]
 rw [hr]
 (have zx:=za h1 (za h2 (za h3 (za h4 (za h5 (za h6 (za h7 (za h8 h9))))))));exact zg
def UK:=qd Proofs.Tryz.f69 []
def qk (Γ:Env) (f:Nat):Prop:=∀ (r:Qj),EvN Γ f [r.v] (V.bool (QQ r))
attribute [local go_sem] Qj.cells in
theorem adb {Γ:Env} {f:Nat} (h:Has Γ.P f 48 UK.1.1.ac UK.1.2) :qk Γ f:=by
 intro r
 refine Qb h zsi zcl zcl fun C hC hm=>?_
 subst hC
 simp only [UK,qd,DC.ac]
 rcases h1:decide (r.alg≥0) with _|_
 ·have hr:QQ r = false:=by simp only [QQ,h1,zO,zE,zX,zH]
  rw [hr]
  (have zx:=h1);exact zg
 rcases h2:decide (r.alg≤22) with _|_
 ·have hr:QQ r = false:=by simp only [QQ,h1,h2,zO,zE,zX,zH]
  rw [hr]
  (have zx:=za h1 h2);exact zg
 rcases h3:decide (r.below≥0) with _|_
 ·have hr:QQ r = false:=by simp only [QQ,h1,h2,h3,zO,zE,zX,zH]
  rw [hr]
  (have zx:=za h1 (za h2 h3));exact zg
 rcases h4:decide (r.below≤16384) with _|_
 ·have hr:QQ r = false:=by simp only [QQ,h1,h2,h3,h4,zO,zE,zX,zH]
  rw [hr]
  (have zx:=za h1 (za h2 (za h3 h4)));exact zg
 rcases h5:decide (r.purp≥0) with _|_
 ·have hr:QQ r = false:=by simp only [QQ,h1,h2,h3,h4,h5,zO,zE,zX,zH]
  rw [hr]
  (have zx:=za h1 (za h2 (za h3 (za h4 h5))));exact zg
 rcases h6:decide (r.purp≤4) with _|_
 ·have hr:QQ r = false:=by simp only [QQ,h1,h2,h3,h4,h5,h6,zO,zE,zX,zH]
  rw [hr]
  (have zx:=za h1 (za h2 (za h3 (za h4 (za h5 h6)))));exact zg
 rcases h7:decide (r.frm≥0) with _|_
 ·have hr:QQ r = false:=by simp only [QQ,h1,h2,h3,h4,h5,h6,h7,zO,zE,zX,zH]
  rw [hr]
  (have zx:=za h1 (za h2 (za h3 (za h4 (za h5 (za h6 h7))))));exact zg
 rcases h8:decide (r.frm < r.til) with _|_
 ·have hr:QQ r = false:=by simp only [QQ,h1,h2,h3,h4,h5,h6,h7,h8,zO,zE,zX,zH]
  rw [hr]
  (have zx:=za h1 (za h2 (za h3 (za h4 (za h5 (za h6 (za h7 h8)))))));exact zg
 rcases h9:decide (r.til≤40001) with _|_
 ·have hr:QQ r = false:=by simp only [QQ,h1,h2,h3,h4,h5,h6,h7,h8,h9,zO,zE,zX,zH]
  rw [hr]
  (have zx:=za h1 (za h2 (za h3 (za h4 (za h5 (za h6 (za h7 (za h8 h9))))))));exact zg
 have hr:QQ r = true:=by simp only [QQ,h1,h2,h3,h4,h5,h6,h7,h8,h9,bf]
 rw [hr]
 (have zx:=za h1 (za h2 (za h3 (za h4 (za h5 (za h6 (za h7 (za h8 h9))))))));exact zg
def qZ:=qd Proofs.Tryz.f64 []
def yj (Γ:Env) (f:Nat):Prop:=∀ (k:QS),EvN Γ f [k.v] (V.bool (Y7 k))
attribute [local go_sem] QS.cells in
theorem agb {Γ:Env} {f:Nat} (h:Has Γ.P f 21 qZ.1.1.ac qZ.1.2) :yj Γ f:=by
 intro k
 refine Qb h zsi zcl zcl fun C hC hm=>?_
 subst hC
 simp only [qZ,qd,DC.ac]
 rcases h1:decide (k.purp≥1) with _|_
 ·have hr:Y7 k = false:=by simp only [Y7,h1,zO,zE,zX,zH]
  rw [hr]
  (have zx:=h1);exact zg
 rcases h2:decide (k.purp≤4) with _|_
 ·have hr:Y7 k = false:=by simp only [Y7,h1,h2,zO,zE,zX,zH]
  rw [hr]
  (have zx:=za h1 h2);exact zg
 rcases h3:decide (k.days≥0) with _|_
 ·have hr:Y7 k = false:=by simp only [Y7,h1,h2,h3,zO,zE,zX,zH]
  rw [hr]
  (have zx:=za h1 (za h2 h3));exact zg
 rcases h4:decide (k.days≤40000) with _|_
 ·have hr:Y7 k = false:=by simp only [Y7,h1,h2,h3,h4,zO,zE,zX,zH]
  rw [hr]
  (have zx:=za h1 (za h2 (za h3 h4)));exact zg
 have hr:Y7 k = true:=by simp only [Y7,h1,h2,h3,h4,bf]
 rw [hr]
 (have zx:=za h1 (za h2 (za h3 h4)));exact zg
def KS:=qd Proofs.Tryz.f70 []
def jh (Γ:Env) (f:Nat):Prop:=∀ (k:QS),EvN Γ f [k.v] (V.bool (Y7 k))
attribute [local go_sem] QS.cells in
theorem aeE {Γ:Env} {f:Nat} (h:Has Γ.P f 21 KS.1.1.ac KS.1.2) :jh Γ f:=by
 intro k
 refine Qb h zsi zcl zcl fun C hC hm=>?_
 subst hC
 simp only [KS,qd,DC.ac]
 rcases h1:decide (k.purp≥1) with _|_
 ·have hr:Y7 k = false:=by simp only [Y7,h1,zO,zE,zX,zH]
  rw [hr]
  (have zx:=h1);exact zg
 rcases h2:decide (k.purp≤4) with _|_
 ·have hr:Y7 k = false:=by simp only [Y7,h1,h2,zO,zE,zX,zH]
  rw [hr]
  (have zx:=za h1 h2);exact zg
 rcases h3:decide (k.days≥0) with _|_
 ·have hr:Y7 k = false:=by simp only [Y7,h1,h2,h3,zO,zE,zX,zH]
  rw [hr]
  (have zx:=za h1 (za h2 h3));exact zg
 rcases h4:decide (k.days≤40000) with _|_
 ·have hr:Y7 k = false:=by simp only [Y7,h1,h2,h3,h4,zO,zE,zX,zH]
  rw [hr]
  (have zx:=za h1 (za h2 (za h3 h4)));exact zg
 have hr:Y7 k = true:=by simp only [Y7,h1,h2,h3,h4,bf]
 rw [hr]
 (have zx:=za h1 (za h2 (za h3 h4)));exact zg
def VY:=qd Proofs.Tryz.f60 []
def Kv (Γ:Env) (f:Nat):Prop:=∀ (r:Qj),EvN Γ f [r.v] (V.bool (!QQ r))
theorem ach {Γ:Env} {f:Nat} (h:Has Γ.P f 6 VY.1.1.ac VY.1.2) (z0:jg Γ 61):Kv Γ f:=by
 intro r
 refine Qb h zsi zcl zcl fun C hC hm=>?_
 subst hC
 simp only [VY,qd,DC.ac]
 have h:=(z0 r).b
 simp only [Qj.v,Qj.cells] at h ⊢
 exact zg
def VX:=qd Proofs.Tryz.f63 []
def Ku (Γ:Env) (f:Nat):Prop:=∀ (k:QS),EvN Γ f [k.v] (V.bool (!Y7 k))
theorem acg {Γ:Env} {f:Nat} (h:Has Γ.P f 6 VX.1.1.ac VX.1.2) (z0:yj Γ 64):Ku Γ f:=by
 intro k
 refine Qb h zsi zcl zcl fun C hC hm=>?_
 subst hC
 simp only [VX,qd,DC.ac]
 have h:=(z0 k).b
 simp only [QS.v,QS.cells] at h ⊢
 exact zg
def QK:=qd Proofs.Tryz.f93 []
def Q9 (Γ:Env) (f:Nat):Prop:=∀ (xs:List Qj) (g:Nat) (p:Qj→Bool) (hp:∀ x,EvN Γ g [Qj.v x] (V.bool (p x))) (hl:xs.length < 2 ^ 62),EvN Γ f [.sl 6 (xs.map Qj.v),.clo g []] (V.int (yF p 0 xs))
attribute [local go_sem] Qj.cells Qj.v in
theorem Y9 {Γ:Env} {f:Nat} (h:Has Γ.P f 19 QK.1.1.ac QK.1.2) :Q9 Γ f:=by
 intro xs g p hp hl
 refine Qb h zsi zcl zcl fun C hC hm=>?_
 subst hC
 simp only [QK,qd,DC.ac]
 refine zgo ?_;repeat' first|exact zt|apply zan|intro hc
 refine Qz (ι:=Nat) (fun k=>k≤xs.length∧yF p k (xs.drop k) = yF p 0 xs) (fun k=>[(8,V.int k)]) (fun k=>xs.length - k) 0 (by omega) ⟨by simp,by simp⟩ zol zlt zet fun k hk K' hL=>?_
 obtain ⟨hk,hinv⟩:=hk
 simp only [ovT,JE,Nat.reduceEqDiff,reduceIte]
 rcases hd:xs.drop k with _|⟨y,r⟩
 ·have:=Qt hd
  rw [hd] at hinv
  have e1:decide ((k:Int) < (((xs.map Qj.v).length:Nat):Int)) = false:=by simp;omega
  (have zx:=e1);refine zgo ?_;repeat' first|exact zt|apply zan|intro hc
  refine Ql _ rfl ?_
  simp only [go_sem]
  rw [← hinv];rfl
 ·obtain ⟨hk,hget,hr⟩:=Qm hd
  rw [hd] at hinv
  have hw:=Qg (k:=k) (by omega)
  have e1:decide ((k:Int) < (((xs.map Qj.v).length:Nat):Int)) = true:=by simp;omega
  have hpy:=hp y
  by_cases hy:p y = true
  ·rw [hy] at hpy
   (have zy0:=hpy.b;have zx:=za hget (za hw e1));refine zgo ?_;repeat' first|exact zt|apply zan|intro hc
   refine Ql _ rfl ?_;simp only [go_sem]
   rw [← hinv];simp [yF,hy]
  ·have hy':p y = false:=by simpa using hy
   rw [hy'] at hpy
   (have zy0:=hpy.b;have zx:=za hget (za hw e1));refine zgo ?_;repeat' first|exact zt|apply zan|intro hc
   refine hL _ (k + 1) zet ⟨by omega,?_⟩ (by omega) zoe
   rw [hr,← hinv,yF,if_neg hy]
def QA:=qd Proofs.Tryz.f59 []
def QX (Γ:Env) (f:Nat):Prop:=∀ (xs:List Qj) (g:Nat) (p:Qj→Bool) (hp:∀ x,EvN Γ g [Qj.v x] (V.bool (p x))) (hl:xs.length < 2 ^ 62),EvN Γ f [.sl 6 (xs.map Qj.v),.clo g []] (V.bool (xs.any p))
theorem YM {Γ:Env} {f:Nat} (h:Has Γ.P f 9 QA.1.1.ac QA.1.2) (z0:Q9 Γ 93):QX Γ f:=by
 intro xs g p hp hl
 refine Qb h zsi zcl zcl fun C hC hm=>?_
 subst hC
 simp only [QA,qd,DC.ac]
 have hi:=(z0 xs g p hp hl).b
 have e1:=vK p xs 0
 (have zx:=e1);exact zg
def QL:=qd Proofs.Tryz.f94 []
def Ja (Γ:Env) (f:Nat):Prop:=∀ (xs:List QS) (g:Nat) (p:QS→Bool) (hp:∀ x,EvN Γ g [QS.v x] (V.bool (p x))) (hl:xs.length < 2 ^ 62),EvN Γ f [.sl 2 (xs.map QS.v),.clo g []] (V.int (yF p 0 xs))
attribute [local go_sem] QS.cells QS.v in
theorem Xa {Γ:Env} {f:Nat} (h:Has Γ.P f 19 QL.1.1.ac QL.1.2) :Ja Γ f:=by
 intro xs g p hp hl
 refine Qb h zsi zcl zcl fun C hC hm=>?_
 subst hC
 simp only [QL,qd,DC.ac]
 refine zgo ?_;repeat' first|exact zt|apply zan|intro hc
 refine Qz (ι:=Nat) (fun k=>k≤xs.length∧yF p k (xs.drop k) = yF p 0 xs) (fun k=>[(8,V.int k)]) (fun k=>xs.length - k) 0 (by omega) ⟨by simp,by simp⟩ zol zlt zet fun k hk K' hL=>?_
 obtain ⟨hk,hinv⟩:=hk
 simp only [ovT,JE,Nat.reduceEqDiff,reduceIte]
 rcases hd:xs.drop k with _|⟨y,r⟩
 ·have:=Qt hd
  rw [hd] at hinv
  have e1:decide ((k:Int) < (((xs.map QS.v).length:Nat):Int)) = false:=by simp;omega
  (have zx:=e1);refine zgo ?_;repeat' first|exact zt|apply zan|intro hc
  refine Ql _ rfl ?_
  simp only [go_sem]
  rw [← hinv];rfl
 ·obtain ⟨hk,hget,hr⟩:=Qm hd
  rw [hd] at hinv
  have hw:=Qg (k:=k) (by omega)
  have e1:decide ((k:Int) < (((xs.map QS.v).length:Nat):Int)) = true:=by simp;omega
  have hpy:=hp y
  by_cases hy:p y = true
  ·rw [hy] at hpy
   (have zy0:=hpy.b;have zx:=za hget (za hw e1));refine zgo ?_;repeat' first|exact zt|apply zan|intro hc
   refine Ql _ rfl ?_;simp only [go_sem]
   rw [← hinv];simp [yF,hy]
  ·have hy':p y = false:=by simpa using hy
   rw [hy'] at hpy
   (have zy0:=hpy.b;have zx:=za hget (za hw e1));refine zgo ?_;repeat' first|exact zt|apply zan|intro hc
   refine hL _ (k + 1) zet ⟨by omega,?_⟩ (by omega) zoe
   rw [hr,← hinv,yF,if_neg hy]
def QB:=qd Proofs.Tryz.f62 []
def QY (Γ:Env) (f:Nat):Prop:=∀ (xs:List QS) (g:Nat) (p:QS→Bool) (hp:∀ x,EvN Γ g [QS.v x] (V.bool (p x))) (hl:xs.length < 2 ^ 62),EvN Γ f [.sl 2 (xs.map QS.v),.clo g []] (V.bool (xs.any p))
theorem YN {Γ:Env} {f:Nat} (h:Has Γ.P f 9 QB.1.1.ac QB.1.2) (z0:Ja Γ 94):QY Γ f:=by
 intro xs g p hp hl
 refine Qb h zsi zcl zcl fun C hC hm=>?_
 subst hC
 simp only [QB,qd,DC.ac]
 have hi:=(z0 xs g p hp hl).b
 have e1:=vK p xs 0
 (have zx:=e1);exact zg
def KR:=qd Proofs.Tryz.f30 []
def U0 (Γ:Env) (f:Nat):Prop:=∀ (rs:List Qj) (ks:List QS) (hr:rs.length < 2 ^ 40) (hk:ks.length < 2 ^ 40),EvN Γ f [ajb rs ks] (V.int (J9 rs ks))
theorem aeD {Γ:Env} {f:Nat} (h:Has Γ.P f 25 KR.1.1.ac KR.1.2) (z0:QX Γ 59) (z1:Kv Γ 60) (z2:QY Γ 62) (z3:Ku Γ 63):U0 Γ f:=by
 intro rs ks hr hk
 refine Qb h zsi zcl zcl fun C hC hm=>?_
 subst hC
 simp only [KR,qd,DC.ac]
 have c1:=(z0 rs 60 (fun r=>!QQ r) (fun r=>z1 r) (by omega)).b
 have c2:=(z2 ks 63 (fun r=>!Y7 r) (fun r=>z3 r) (by omega)).b
 rw [ajX] at c1 c2
 have e3:decide ((((rs.map Qj.v).length:Nat):Int) > 60) = !decide (rs.length≤60):=by
  rw [zb,← decide_not];apply decide_eq_decide.2;omega
 have e4:decide ((((ks.map QS.v).length:Nat):Int) > 60) = !decide (ks.length≤60):=by
  rw [zb,← decide_not];apply decide_eq_decide.2;omega
 rw [J9]
 generalize rs.all QQ = b1 at *
 generalize ks.all Y7 = b2 at *
 generalize decide (rs.length≤60) = b3 at *
 generalize decide (ks.length≤60) = b4 at *
 rcases b1 with _|_
 ·refine zgo ?_;repeat' first|exact zt|apply zan|intro hc
  all_goals first|exact zr|(refine Ql _ rfl ?_;simp only [go_sem];simp;done)
 rcases b2 with _|_
 ·refine zgo ?_;repeat' first|exact zt|apply zan|intro hc
  all_goals first|exact zr|(refine Ql _ rfl ?_;simp only [go_sem];simp;done)
 rcases b3 with _|_
 ·(have zx:=e3);refine zgo ?_;repeat' first|exact zt|apply zan|intro hc
  all_goals first|exact zr|(refine Ql _ rfl ?_;simp only [go_sem];simp;done)
 rcases b4 with _|_
 ·(have zx:=za e3 e4);refine zgo ?_;repeat' first|exact zt|apply zan|intro hc
  all_goals first|exact zr|(refine Ql _ rfl ?_;simp only [go_sem];simp;done)
 ·(have zx:=za e3 e4);refine zgo ?_;repeat' first|exact zt|apply zan|intro hc
  all_goals first|exact zr|(refine Ql _ rfl ?_;simp only [go_sem];simp;done)
def ags (r:Qj) (a b pu:Int):Bool:=!((r.alg != 0 && r.alg != a) || (r.purp != 0 && r.purp != pu)) && (r.below == 0 || (decide (b > 0) && decide (b < r.below)))
def alE (p:Qj→Bool) (rs:List Qj):Nat→Int
 | 0=>-1
 | k + 1=>match rs[k]? with
   | some r=>if p r = true then (k:Int) else alE p rs k
   | none=>alE p rs k
def anB (a b pu day:Int) (r:Qj):Bool:=ags r a b pu && (decide (r.frm≤day) && decide (day < r.til))
def aiK (rs:List Qj) (a b pu day:Int):Int:=alE (anB a b pu day) rs rs.length
theorem aeV (p:Qj→Bool) (rs:List Qj):∀ k,alE p rs k = -1∨∃ i r,i < k∧alE p rs k = (i:Int)∧rs[i]? = some r
 | 0=>.inl rfl
 | k + 1=>by
   have ih:=aeV p rs k
   rw [alE]
   split
   ·rename_i r hr
    split
    ·exact .inr ⟨k,r,Nat.lt_succ_self _,rfl,hr⟩
    ·exact ih.imp id fun ⟨i,r,h1,h2⟩=>⟨i,r,by omega,h2⟩
   ·exact ih.imp id fun ⟨i,r,h1,h2⟩=>⟨i,r,by omega,h2⟩
def qK (rs:List Qj) (a b pu day:Int):Bool:=decide (aiK rs a b pu day < 0) || ((rs[(aiK rs a b pu day).toNat]?).map (·.allow)).getD false
def XP (rs:List Qj) (ks:List QS) (a b pu day:Int):Int :=
 if J9 rs ks≠0 then J9 rs ks else if ¬ QE a b > 0 then 7 else if pu < 1∨pu > 4∨day < 0∨day > 40000 then 2 else 0
def JQ:=qd Proofs.Tryz.f97 []
def xy (Γ:Env) (f:Nat):Prop:=∀ (r:Qj) (a b pu:Int),EvN Γ f [r.v,.agg [V.int a,V.int b],V.int pu] (V.bool (ags r a b pu))
theorem xb {Γ:Env} {f:Nat} (h:Has Γ.P f 43 JQ.1.1.ac JQ.1.2) :xy Γ f:=by
 intro r a b pu
 refine Qb h zsi zcl zcl fun C hC hm=>?_
 subst hC
 simp only [JQ,qd,DC.ac]
 obtain ⟨al,alg,below,purp,frm,til⟩:=r
 simp only [Qj.v,Qj.cells,ags]
 generalize hb1:(alg != 0) = b1
 generalize hb2:(alg != a) = b2
 generalize hb3:(purp != 0) = b3
 generalize hb4:(purp != pu) = b4
 generalize hb5:(below == 0) = b5
 generalize hb6:decide (b > 0) = b6
 generalize hb7:decide (b < below) = b7
 (have zx:=za hb1 (za hb2 (za hb3 (za hb4 (za hb5 (za hb6 hb7))))));refine zgo ?_;repeat' first|exact zt|apply zan|intro hc
 all_goals (refine Ql _ rfl ?_;simp only [go_sem];simp_all;done)
def Va (Γ:Env) (f:Nat):Prop:=∀ (rs:List Qj) (ks:List QS) (a b pu day:Int) (hr:rs.length < 2 ^ 40),EvN Γ f [ajb rs ks,.agg [V.int a,V.int b],V.int pu,V.int day] (V.int (aiK rs a b pu day))
def Xo:=qd Proofs.Tryz.f67 []
def Vb (Γ:Env) (f:Nat):Prop:=∀ (rs:List Qj) (ks:List QS) (a b pu day:Int) (hr:rs.length < 2 ^ 40),EvN Γ f [ajb rs ks,.agg [V.int a,V.int b],V.int pu,V.int day] (V.bool (qK rs a b pu day))
theorem x8 {Γ:Env} {f:Nat} (h:Has Γ.P f 25 Xo.1.1.ac Xo.1.2) (z0:Va Γ 68):Vb Γ f:=by
 intro rs ks a b pu day hr
 refine Qb h zsi zcl zcl fun C hC hm=>?_
 subst hC
 simp only [Xo,qd,DC.ac]
 have p1:=(z0 rs ks a b pu day hr).b
 rw [qK]
 rcases aeV (anB a b pu day) rs rs.length with hd|⟨i,r,hi,hd,hget⟩
 ·rw [aiK] at p1 ⊢
  rw [hd] at p1 ⊢
  have e1:decide ((-1:Int) < 0) = true:=by decide
  (have zx:=e1);refine zgo ?_;repeat' first|exact zt|apply zan|intro hc
  all_goals first|exact zr|(refine Ql _ rfl ?_;simp only [go_sem];rfl)
 ·rw [aiK] at p1 ⊢
  rw [hd] at p1 ⊢
  have e1:decide ((i:Int) < 0) = false:=by simp
  have vr:(rs.map Qj.v)[i]? = some r.v:=by rw [zi,hget];rfl
  have hlr:(rs.map Qj.v).length = rs.length:=zb _
  simp only [Qj.v,Qj.cells] at vr
  rw [Int.toNat_natCast,hget]
  (have zx:=za e1 (za vr hlr));refine zgo ?_;repeat' first|exact zt|apply zan|intro hc
  all_goals first|exact zr|(refine Ql _ rfl ?_;simp only [go_sem];rfl)
def WN:=qd Proofs.Tryz.f66 []
def Um (Γ:Env) (f:Nat):Prop:=∀ (rs:List Qj) (ks:List QS) (a b pu day:Int) (hr:rs.length < 2 ^ 40) (hk:ks.length < 2 ^ 40),EvN Γ f [ajb rs ks,.agg [V.int a,V.int b],V.int pu,V.int day] (V.int (XP rs ks a b pu day))
theorem aaW {Γ:Env} {f:Nat} (h:Has Γ.P f 34 WN.1.1.ac WN.1.2) (z0:U0 Γ 30) (z1:We Γ 95):Um Γ f:=by
 intro rs ks a b pu day hr hk
 refine Qb h zsi zcl zcl fun C hC hm=>?_
 subst hC
 simp only [WN,qd,DC.ac]
 have p1:=(z0 rs ks hr hk).b
 have p2:=(z1 a b).b
 rw [XP]
 by_cases h0:J9 rs ks = 0
 ·rw [if_neg (by simpa using h0)]
  rw [h0] at p1
  have n0:((0:Int) != 0) = false:=by decide
  by_cases h1:QE a b > 0
  ·rw [if_neg (by simpa using h1)]
   rw [zo h1] at p2
   generalize hb1:decide (pu < 1) = b1
   generalize hb2:decide (pu > 4) = b2
   generalize hb3:decide (day < 0) = b3
   generalize hb4:decide (day > 40000) = b4
   have hif:(if pu < 1∨pu > 4∨day < 0∨day > 40000 then (2:Int) else 0) = bif b1 || (b2 || (b3 || b4)) then 2 else 0:=by
    rw [← hb1,← hb2,← hb3,← hb4]
    by_cases q1:pu < 1<;>by_cases q2:pu > 4<;>by_cases q3:day < 0<;>by_cases q4:day > 40000<;>simp [q1,q2,q3,q4]
   rw [hif]
   (have zx:=za n0 (za hb1 (za hb2 (za hb3 hb4))));refine zgo ?_;repeat' first|exact zt|apply zan|intro hc
   all_goals (refine Ql _ rfl ?_;simp only [go_sem];simp_all;done)
  ·rw [if_pos h1]
   rw [zp h1] at p2
   (have zx:=n0);exact zg
 ·rw [if_pos h0]
  have n0:(J9 rs ks != 0) = true:=by simpa using h0
  generalize J9 rs ks = cv at *
  (have zx:=n0);exact zg
def Xp:=qd Proofs.Tryz.f32 [zhn 13]
def Vc (Γ:Env) (f:Nat):Prop:=∀ (rs:List Qj) (ks:List QS) (a b pu day:Int) (hr:rs.length < 2 ^ 40) (hk:ks.length < 2 ^ 40),EvN Γ f [ajb rs ks,.agg [V.int a,V.int b],V.int pu,V.int day] ((if XP rs ks a b pu day≠0 then .tup [V.bool false,V.int 0,V.int (XP rs ks a b pu day)] else .tup [V.bool (qK rs a b pu day),V.int (aiK rs a b pu day),V.int 0]))
theorem x9 {Γ:Env} {f:Nat} (h:Has Γ.P f 30 Xp.1.1.ac Xp.1.2) (z0:Um Γ 66) (z1:Vb Γ 67) (z2:Va Γ 68):Vc Γ f:=by
 intro rs ks a b pu day hr hk
 refine Qb h zsi (by split<;>simp only [V.closed,Qc,V.noSl,UB,and_self]) (by split<;>simp only [V.closed,Qc,V.noSl,UB,and_self]) fun C hC hm=>?_
 subst hC
 simp only [Xp,qd,DC.ac]
 have p1:=(z0 rs ks a b pu day hr hk).b
 have p2:=(z1 rs ks a b pu day hr).b
 have p3:=(z2 rs ks a b pu day hr).b
 by_cases h0:XP rs ks a b pu day = 0
 ·rw [if_neg (by simpa using h0)]
  rw [h0] at p1
  have n0:((0:Int) != 0) = false:=by decide
  generalize qK rs a b pu day = r1 at *
  generalize aiK rs a b pu day = r2 at *
  (have zx:=n0);exact zg
 ·rw [if_pos h0]
  have n0:(XP rs ks a b pu day != 0) = true:=by simpa using h0
  generalize XP rs ks a b pu day = er at *
  (have zx:=n0);exact zg
end Av
end
