/- K28 -/
import Derived.Test.YtjobognfgjobfaaGreatDoorK27
import Derived.Test.YtjobognfgjobfaaGreatDoorK12
import Derived.Test.YtjobognfgjobfaaGreatDoorK21
import Derived.Test.YtjobognfgjobfaaGreatDoorK15
set_option linter.unusedVariables false
set_option linter.unusedSimpArgs false
noncomputable section
set_option maxRecDepth 10000
set_option maxHeartbeats 4000000
namespace Av
open Go
attribute [local irreducible] AWp WC wb aai awS awC aeM awQ afz Jk qV aes awR jj awB okR aaf ris
structure Jg where
 purp:Int
 days:Int
def Jg.cells (k:Jg):List V:=[V.int k.purp,V.int k.days]
abbrev Jg.v (k:Jg):V:=.agg k.cells
theorem Jg.cells_closed (k:Jg):Qb k.cells:=by simp only [Jg.cells,V.closed,Qb,and_self]
def Xu (r:Ql):Bool:=decide (r.alg≥0) && decide (r.alg≤22) && decide (r.below≥0) && decide (r.below≤16384) && decide (r.purp≥0) && decide (r.purp≤4) && decide (r.frm≥0) && decide (r.frm < r.til) && decide (r.til≤40001)
def vP (k:Jg):Bool:=decide (k.purp≥1) && decide (k.purp≤4) && decide (k.days≥0) && decide (k.days≤40000)
abbrev as2 (rs:List Ql) (ks:List Jg):V:=.agg [.sl 6 (rs.map Ql.v),.sl 2 (ks.map Jg.v)]
def yj (rs:List Ql) (ks:List Jg):Int:=if (rs.all Xu && ks.all vP && decide (rs.length≤60) && decide (ks.length≤60)) = true then 0 else 25
theorem ae6 {α:Type} (p:α→Bool):∀ (xs:List α) (k:Nat),decide (ja p k xs≥0) = xs.any p
 | [],k=>by simp [ja]
 | x :: r,k=>by
   have ih:=ae6 p r (k + 1)
   rw [ja,List.any_cons]
   by_cases h:p x = true
   ·rw [if_pos h,h];simp
   ·have h2:p x = false:=by simpa using h
    rw [if_neg h,h2,ih];rfl
theorem aqv {α:Type} (p:α→Bool) (xs:List α):xs.any (fun x=>!p x) = !xs.all p:=by
 induction xs with
 | nil=>rfl
 | cons x r ih=>rw [List.any_cons,List.all_cons,ih,Bool.not_and]
def wC:=qd Proofs.Tryz.f66 []
def aaL (Γ:Env) (f:Nat):Prop:=∀ (r:Ql),EvN Γ f [r.v] (V.bool (Xu r))
attribute [local go_sem] Ql.cells in
theorem akv {Γ:Env} {f:Nat} (h:Has Γ.P f 48 wC.1.1.ac wC.1.2) :aaL Γ f:=by
 intro r
 refine Qc h zsi zcl zcl fun C hC hm=>?_
 subst hC
 simp only [wC,qd,DC.ac]
 rcases h1:decide (r.alg≥0) with _|_
 ·have hr:Xu r = false:=by simp only [Xu,h1,zY,zK,ku,zO]
  rw [hr]
  (have zx:=h1);exact zg
 rcases h2:decide (r.alg≤22) with _|_
 ·have hr:Xu r = false:=by simp only [Xu,h1,h2,zY,zK,ku,zO]
  rw [hr]
  (have zx:=za h1 h2);exact zg
 rcases h3:decide (r.below≥0) with _|_
 ·have hr:Xu r = false:=by simp only [Xu,h1,h2,h3,zY,zK,ku,zO]
  rw [hr]
  (have zx:=za h1 (za h2 h3));exact zg
 rcases h4:decide (r.below≤16384) with _|_
 ·have hr:Xu r = false:=by simp only [Xu,h1,h2,h3,h4,zY,zK,ku,zO]
  rw [hr]
  (have zx:=za h1 (za h2 (za h3 h4)));exact zg
 rcases h5:decide (r.purp≥0) with _|_
 ·have hr:Xu r = false:=by simp only [Xu,h1,h2,h3,h4,h5,zY,zK,ku,zO]
  rw [hr]
  (have zx:=za h1 (za h2 (za h3 (za h4 h5))));exact zg
 rcases h6:decide (r.purp≤4) with _|_
 ·have hr:Xu r = false:=by simp only [Xu,h1,h2,h3,h4,h5,h6,zY,zK,ku,zO]
  rw [hr]
  (have zx:=za h1 (za h2 (za h3 (za h4 (za h5 h6)))));exact zg
 rcases h7:decide (r.frm≥0) with _|_
 ·have hr:Xu r = false:=by simp only [Xu,h1,h2,h3,h4,h5,h6,h7,zY,zK,ku,zO]
  rw [hr]
  (have zx:=za h1 (za h2 (za h3 (za h4 (za h5 (za h6 h7))))));exact zg
 rcases h8:decide (r.frm < r.til) with _|_
 ·have hr:Xu r = false:=by simp only [Xu,h1,h2,h3,h4,h5,h6,h7,h8,zY,zK,ku,zO]
  rw [hr]
  (have zx:=za h1 (za h2 (za h3 (za h4 (za h5 (za h6 (za h7 h8)))))));exact zg
 rcases h9:decide (r.til≤40001) with _|_
 ·have hr:Xu r = false:=by simp only [Xu,h1,h2,h3,h4,h5,h6,h7,h8,h9,zY,zK,ku,zO]
  rw [hr]
  (have zx:=za h1 (za h2 (za h3 (za h4 (za h5 (za h6 (za h7 (za h8 h9))))))));exact zg
 have hr:Xu r = true:=by simp only [Xu,h1,h2,h3,h4,h5,h6,h7,h8,h9,ZJ]
 rw [hr]
 (have zx:=za h1 (za h2 (za h3 (za h4 (za h5 (za h6 (za h7 (za h8 h9))))))));exact zg
def aaA:=qd Proofs.Tryz.f69 []
def abM (Γ:Env) (f:Nat):Prop:=∀ (k:Jg),EvN Γ f [k.v] (V.bool (vP k))
attribute [local go_sem] Jg.cells in
theorem amc {Γ:Env} {f:Nat} (h:Has Γ.P f 21 aaA.1.1.ac aaA.1.2) :abM Γ f:=by
 intro k
 refine Qc h zsi zcl zcl fun C hC hm=>?_
 subst hC
 simp only [aaA,qd,DC.ac]
 rcases h1:decide (k.purp≥1) with _|_
 ·have hr:vP k = false:=by simp only [vP,h1,zY,zK,ku,zO]
  rw [hr]
  (have zx:=h1);exact zg
 rcases h2:decide (k.purp≤4) with _|_
 ·have hr:vP k = false:=by simp only [vP,h1,h2,zY,zK,ku,zO]
  rw [hr]
  (have zx:=za h1 h2);exact zg
 rcases h3:decide (k.days≥0) with _|_
 ·have hr:vP k = false:=by simp only [vP,h1,h2,h3,zY,zK,ku,zO]
  rw [hr]
  (have zx:=za h1 (za h2 h3));exact zg
 rcases h4:decide (k.days≤40000) with _|_
 ·have hr:vP k = false:=by simp only [vP,h1,h2,h3,h4,zY,zK,ku,zO]
  rw [hr]
  (have zx:=za h1 (za h2 (za h3 h4)));exact zg
 have hr:vP k = true:=by simp only [vP,h1,h2,h3,h4,ZJ]
 rw [hr]
 (have zx:=za h1 (za h2 (za h3 h4)));exact zg
def jR:=qd Proofs.Tryz.f65 []
def xV (Γ:Env) (f:Nat):Prop:=∀ (r:Ql),EvN Γ f [r.v] (V.bool (!Xu r))
theorem ah5 {Γ:Env} {f:Nat} (h:Has Γ.P f 6 jR.1.1.ac jR.1.2) (z0:aaL Γ 66):xV Γ f:=by
 intro r
 refine Qc h zsi zcl zcl fun C hC hm=>?_
 subst hC
 simp only [jR,qd,DC.ac]
 have h:=(z0 r).b
 simp only [Ql.v,Ql.cells] at h ⊢
 exact zg
def jQ:=qd Proofs.Tryz.f68 []
def xU (Γ:Env) (f:Nat):Prop:=∀ (k:Jg),EvN Γ f [k.v] (V.bool (!vP k))
theorem ah4 {Γ:Env} {f:Nat} (h:Has Γ.P f 6 jQ.1.1.ac jQ.1.2) (z0:abM Γ 69):xU Γ f:=by
 intro k
 refine Qc h zsi zcl zcl fun C hC hm=>?_
 subst hC
 simp only [jQ,qd,DC.ac]
 have h:=(z0 k).b
 simp only [Jg.v,Jg.cells] at h ⊢
 exact zg
def Q9:=qd Proofs.Tryz.f138 []
def JP (Γ:Env) (f:Nat):Prop:=∀ (xs:List Ql) (g:Nat) (p:Ql→Bool) (hp:∀ x,EvN Γ g [Ql.v x] (V.bool (p x))) (hl:xs.length < 2 ^ 62),EvN Γ f [.sl 6 (xs.map Ql.v),.clo g []] (V.int (ja p 0 xs))
attribute [local go_sem] Ql.cells Ql.v in
theorem Vs {Γ:Env} {f:Nat} (h:Has Γ.P f 19 Q9.1.1.ac Q9.1.2) :JP Γ f:=by
 intro xs g p hp hl
 refine Qc h zsi zcl zcl fun C hC hm=>?_
 subst hC
 simp only [Q9,qd,DC.ac]
 refine zgo ?_;repeat' first|exact zt|apply zan|intro hc
 refine Ji (ι:=Nat) (fun k=>k≤xs.length∧ja p k (xs.drop k) = ja p 0 xs) (fun k=>[(8,V.int k)]) (fun k=>xs.length - k) 0 (by omega) ⟨by simp,by simp⟩ zol zlt zet fun k hk K' hL=>?_
 obtain ⟨hk,hinv⟩:=hk
 simp only [ovT,Xs,Nat.reduceEqDiff,reduceIte]
 rcases hd:xs.drop k with _|⟨y,r⟩
 ·have:=Qu hd
  rw [hd] at hinv
  have e1:decide ((k:Int) < (((xs.map Ql.v).length:Nat):Int)) = false:=by simp;omega
  (have zx:=e1);refine zgo ?_;repeat' first|exact zt|apply zan|intro hc
  refine Qg _ rfl ?_
  simp only [go_sem]
  rw [← hinv];rfl
 ·obtain ⟨hk,hget,hr⟩:=Qq hd
  rw [hd] at hinv
  have hw:=Qe (k:=k) (by omega)
  have e1:decide ((k:Int) < (((xs.map Ql.v).length:Nat):Int)) = true:=by simp;omega
  have hpy:=hp y
  by_cases hy:p y = true
  ·rw [hy] at hpy
   (have zy0:=hpy.b;have zx:=za hget (za hw e1));refine zgo ?_;repeat' first|exact zt|apply zan|intro hc
   refine Qg _ rfl ?_;simp only [go_sem]
   rw [← hinv];simp [ja,hy]
  ·have hy':p y = false:=by simpa using hy
   rw [hy'] at hpy
   (have zy0:=hpy.b;have zx:=za hget (za hw e1));refine zgo ?_;repeat' first|exact zt|apply zan|intro hc
   refine hL _ (k + 1) zet ⟨by omega,?_⟩ (by omega) zoe
   rw [hr,← hinv,ja,if_neg hy]
def QU:=qd Proofs.Tryz.f64 []
def Ju (Γ:Env) (f:Nat):Prop:=∀ (xs:List Ql) (g:Nat) (p:Ql→Bool) (hp:∀ x,EvN Γ g [Ql.v x] (V.bool (p x))) (hl:xs.length < 2 ^ 62),EvN Γ f [.sl 6 (xs.map Ql.v),.clo g []] (V.bool (xs.any p))
theorem WG {Γ:Env} {f:Nat} (h:Has Γ.P f 9 QU.1.1.ac QU.1.2) (z0:JP Γ 138):Ju Γ f:=by
 intro xs g p hp hl
 refine Qc h zsi zcl zcl fun C hC hm=>?_
 subst hC
 simp only [QU,qd,DC.ac]
 have hi:=(z0 xs g p hp hl).b
 have e1:=ae6 p xs 0
 (have zx:=e1);exact zg
def Ja:=qd Proofs.Tryz.f139 []
def JQ (Γ:Env) (f:Nat):Prop:=∀ (xs:List Jg) (g:Nat) (p:Jg→Bool) (hp:∀ x,EvN Γ g [Jg.v x] (V.bool (p x))) (hl:xs.length < 2 ^ 62),EvN Γ f [.sl 2 (xs.map Jg.v),.clo g []] (V.int (ja p 0 xs))
attribute [local go_sem] Jg.cells Jg.v in
theorem Vt {Γ:Env} {f:Nat} (h:Has Γ.P f 19 Ja.1.1.ac Ja.1.2) :JQ Γ f:=by
 intro xs g p hp hl
 refine Qc h zsi zcl zcl fun C hC hm=>?_
 subst hC
 simp only [Ja,qd,DC.ac]
 refine zgo ?_;repeat' first|exact zt|apply zan|intro hc
 refine Ji (ι:=Nat) (fun k=>k≤xs.length∧ja p k (xs.drop k) = ja p 0 xs) (fun k=>[(8,V.int k)]) (fun k=>xs.length - k) 0 (by omega) ⟨by simp,by simp⟩ zol zlt zet fun k hk K' hL=>?_
 obtain ⟨hk,hinv⟩:=hk
 simp only [ovT,Xs,Nat.reduceEqDiff,reduceIte]
 rcases hd:xs.drop k with _|⟨y,r⟩
 ·have:=Qu hd
  rw [hd] at hinv
  have e1:decide ((k:Int) < (((xs.map Jg.v).length:Nat):Int)) = false:=by simp;omega
  (have zx:=e1);refine zgo ?_;repeat' first|exact zt|apply zan|intro hc
  refine Qg _ rfl ?_
  simp only [go_sem]
  rw [← hinv];rfl
 ·obtain ⟨hk,hget,hr⟩:=Qq hd
  rw [hd] at hinv
  have hw:=Qe (k:=k) (by omega)
  have e1:decide ((k:Int) < (((xs.map Jg.v).length:Nat):Int)) = true:=by simp;omega
  have hpy:=hp y
  by_cases hy:p y = true
  ·rw [hy] at hpy
   (have zy0:=hpy.b;have zx:=za hget (za hw e1));refine zgo ?_;repeat' first|exact zt|apply zan|intro hc
   refine Qg _ rfl ?_;simp only [go_sem]
   rw [← hinv];simp [ja,hy]
  ·have hy':p y = false:=by simpa using hy
   rw [hy'] at hpy
   (have zy0:=hpy.b;have zx:=za hget (za hw e1));refine zgo ?_;repeat' first|exact zt|apply zan|intro hc
   refine hL _ (k + 1) zet ⟨by omega,?_⟩ (by omega) zoe
   rw [hr,← hinv,ja,if_neg hy]
def QV:=qd Proofs.Tryz.f67 []
def Jv (Γ:Env) (f:Nat):Prop:=∀ (xs:List Jg) (g:Nat) (p:Jg→Bool) (hp:∀ x,EvN Γ g [Jg.v x] (V.bool (p x))) (hl:xs.length < 2 ^ 62),EvN Γ f [.sl 2 (xs.map Jg.v),.clo g []] (V.bool (xs.any p))
theorem WH {Γ:Env} {f:Nat} (h:Has Γ.P f 9 QV.1.1.ac QV.1.2) (z0:JQ Γ 139):Jv Γ f:=by
 intro xs g p hp hl
 refine Qc h zsi zcl zcl fun C hC hm=>?_
 subst hC
 simp only [QV,qd,DC.ac]
 have hi:=(z0 xs g p hp hl).b
 have e1:=ae6 p xs 0
 (have zx:=e1);exact zg
def wE:=qd Proofs.Tryz.f26 []
def qo (Γ:Env) (f:Nat):Prop:=∀ (rs:List Ql) (ks:List Jg) (hr:rs.length < 2 ^ 40) (hk:ks.length < 2 ^ 40),EvN Γ f [as2 rs ks] (V.int (yj rs ks))
theorem akx {Γ:Env} {f:Nat} (h:Has Γ.P f 25 wE.1.1.ac wE.1.2) (z0:Ju Γ 64) (z1:xV Γ 65) (z2:Jv Γ 67) (z3:xU Γ 68):qo Γ f:=by
 intro rs ks hr hk
 refine Qc h zsi zcl zcl fun C hC hm=>?_
 subst hC
 simp only [wE,qd,DC.ac]
 have c1:=(z0 rs 65 (fun r=>!Xu r) (fun r=>z1 r) (by omega)).b
 have c2:=(z2 ks 68 (fun r=>!vP r) (fun r=>z3 r) (by omega)).b
 rw [aqv] at c1 c2
 have e3:decide ((((rs.map Ql.v).length:Nat):Int) > 60) = !decide (rs.length≤60):=by
  rw [zb,← decide_not];apply decide_eq_decide.2;omega
 have e4:decide ((((ks.map Jg.v).length:Nat):Int) > 60) = !decide (ks.length≤60):=by
  rw [zb,← decide_not];apply decide_eq_decide.2;omega
 rw [yj]
 generalize rs.all Xu = b1 at *
 generalize ks.all vP = b2 at *
 generalize decide (rs.length≤60) = b3 at *
 generalize decide (ks.length≤60) = b4 at *
 rcases b1 with _|_
 ·refine zgo ?_;repeat' first|exact zt|apply zan|intro hc
  all_goals first|exact zr|(refine Qg _ rfl ?_;simp only [go_sem];simp;done)
 rcases b2 with _|_
 ·refine zgo ?_;repeat' first|exact zt|apply zan|intro hc
  all_goals first|exact zr|(refine Qg _ rfl ?_;simp only [go_sem];simp;done)
 rcases b3 with _|_
 ·(have zx:=e3);refine zgo ?_;repeat' first|exact zt|apply zan|intro hc
  all_goals first|exact zr|(refine Qg _ rfl ?_;simp only [go_sem];simp;done)
 rcases b4 with _|_
 ·(have zx:=za e3 e4);refine zgo ?_;repeat' first|exact zt|apply zan|intro hc
  all_goals first|exact zr|(refine Qg _ rfl ?_;simp only [go_sem];simp;done)
 ·(have zx:=za e3 e4);refine zgo ?_;repeat' first|exact zt|apply zan|intro hc
  all_goals first|exact zr|(refine Qg _ rfl ?_;simp only [go_sem];simp;done)
def anO (r:Ql) (a b pu:Int):Bool:=!((r.alg != 0 && r.alg != a) || (r.purp != 0 && r.purp != pu)) && (r.below == 0 || (decide (b > 0) && decide (b < r.below)))
def au5 (p:Ql→Bool) (rs:List Ql):Nat→Int
 | 0=>-1
 | k + 1=>match rs[k]? with
   | some r=>if p r = true then (k:Int) else au5 p rs k
   | none=>au5 p rs k
def aye (a b pu day:Int) (r:Ql):Bool:=anO r a b pu && (decide (r.frm≤day) && decide (day < r.til))
def aub (rs:List Ql) (a b pu day:Int):Int:=au5 (aye a b pu day) rs rs.length
theorem ao0 (p:Ql→Bool) (rs:List Ql):∀ k,au5 p rs k = -1∨∃ i r,i < k∧au5 p rs k = (i:Int)∧rs[i]? = some r
 | 0=>.inl rfl
 | k + 1=>by
   have ih:=ao0 p rs k
   rw [au5]
   split
   ·rename_i r hr
    split
    ·exact .inr ⟨k,r,Nat.lt_succ_self _,rfl,hr⟩
    ·exact ih.imp id fun ⟨i,r,h1,h2⟩=>⟨i,r,by omega,h2⟩
   ·exact ih.imp id fun ⟨i,r,h1,h2⟩=>⟨i,r,by omega,h2⟩
def aix (rs:List Ql) (a b pu day:Int):Bool:=decide (aub rs a b pu day < 0) || ((rs[(aub rs a b pu day).toNat]?).map (·.allow)).getD false
def acw (rs:List Ql) (ks:List Jg) (a b pu day:Int):Int :=
 if yj rs ks≠0 then yj rs ks else if ¬ Qx a b > 0 then 7 else if pu < 1∨pu > 4∨day < 0∨day > 40000 then 2 else 0
def W4:=qd Proofs.Tryz.f120 []
def adj (Γ:Env) (f:Nat):Prop:=∀ (r:Ql) (a b pu:Int),EvN Γ f [r.v,.agg [V.int a,V.int b],V.int pu] (V.bool (anO r a b pu))
theorem acM {Γ:Env} {f:Nat} (h:Has Γ.P f 43 W4.1.1.ac W4.1.2) :adj Γ f:=by
 intro r a b pu
 refine Qc h zsi zcl zcl fun C hC hm=>?_
 subst hC
 simp only [W4,qd,DC.ac]
 obtain ⟨al,alg,below,purp,frm,til⟩:=r
 simp only [Ql.v,Ql.cells,anO]
 generalize hb1:(alg != 0) = b1
 generalize hb2:(alg != a) = b2
 generalize hb3:(purp != 0) = b3
 generalize hb4:(purp != pu) = b4
 generalize hb5:(below == 0) = b5
 generalize hb6:decide (b > 0) = b6
 generalize hb7:decide (b < below) = b7
 (have zx:=za hb1 (za hb2 (za hb3 (za hb4 (za hb5 (za hb6 hb7))))));refine zgo ?_;repeat' first|exact zt|apply zan|intro hc
 all_goals (refine Qg _ rfl ?_;simp only [go_sem];simp_all;done)
def qg (Γ:Env) (f:Nat):Prop:=∀ (rs:List Ql) (ks:List Jg) (a b pu day:Int) (hr:rs.length < 2 ^ 40),EvN Γ f [as2 rs ks,.agg [V.int a,V.int b],V.int pu,V.int day] (V.int (aub rs a b pu day))
def VF:=qd Proofs.Tryz.f55 []
def qh (Γ:Env) (f:Nat):Prop:=∀ (rs:List Ql) (ks:List Jg) (a b pu day:Int) (hr:rs.length < 2 ^ 40),EvN Γ f [as2 rs ks,.agg [V.int a,V.int b],V.int pu,V.int day] (V.bool (aix rs a b pu day))
theorem adP {Γ:Env} {f:Nat} (h:Has Γ.P f 25 VF.1.1.ac VF.1.2) (z0:qg Γ 56):qh Γ f:=by
 intro rs ks a b pu day hr
 refine Qc h zsi zcl zcl fun C hC hm=>?_
 subst hC
 simp only [VF,qd,DC.ac]
 have p1:=(z0 rs ks a b pu day hr).b
 rw [aix]
 rcases ao0 (aye a b pu day) rs rs.length with hd|⟨i,r,hi,hd,hget⟩
 ·rw [aub] at p1 ⊢
  rw [hd] at p1 ⊢
  have e1:decide ((-1:Int) < 0) = true:=by decide
  (have zx:=e1);refine zgo ?_;repeat' first|exact zt|apply zan|intro hc
  all_goals first|exact zr|(refine Qg _ rfl ?_;simp only [go_sem];rfl)
 ·rw [aub] at p1 ⊢
  rw [hd] at p1 ⊢
  have e1:decide ((i:Int) < 0) = false:=by simp
  have vr:(rs.map Ql.v)[i]? = some r.v:=by rw [zo,hget];rfl
  have hlr:(rs.map Ql.v).length = rs.length:=zb _
  simp only [Ql.v,Ql.cells] at vr
  rw [Int.toNat_natCast,hget]
  (have zx:=za e1 (za vr hlr));refine zgo ?_;repeat' first|exact zt|apply zan|intro hc
  all_goals first|exact zr|(refine Qg _ rfl ?_;simp only [go_sem];rfl)
def KC:=qd Proofs.Tryz.f54 []
def yr (Γ:Env) (f:Nat):Prop:=∀ (rs:List Ql) (ks:List Jg) (a b pu day:Int) (hr:rs.length < 2 ^ 40) (hk:ks.length < 2 ^ 40),EvN Γ f [as2 rs ks,.agg [V.int a,V.int b],V.int pu,V.int day] (V.int (acw rs ks a b pu day))
theorem agx {Γ:Env} {f:Nat} (h:Has Γ.P f 34 KC.1.1.ac KC.1.2) (z0:qo Γ 26) (z1:XE Γ 118):yr Γ f:=by
 intro rs ks a b pu day hr hk
 refine Qc h zsi zcl zcl fun C hC hm=>?_
 subst hC
 simp only [KC,qd,DC.ac]
 have p1:=(z0 rs ks hr hk).b
 have p2:=(z1 a b).b
 rw [acw]
 by_cases h0:yj rs ks = 0
 ·rw [if_neg (by simpa using h0)]
  rw [h0] at p1
  have n0:((0:Int) != 0) = false:=by decide
  by_cases h1:Qx a b > 0
  ·rw [if_neg (by simpa using h1)]
   rw [zn h1] at p2
   generalize hb1:decide (pu < 1) = b1
   generalize hb2:decide (pu > 4) = b2
   generalize hb3:decide (day < 0) = b3
   generalize hb4:decide (day > 40000) = b4
   have hif:(if pu < 1∨pu > 4∨day < 0∨day > 40000 then (2:Int) else 0) = bif b1 || (b2 || (b3 || b4)) then 2 else 0:=by
    rw [← hb1,← hb2,← hb3,← hb4]
    by_cases q1:pu < 1<;>by_cases q2:pu > 4<;>by_cases q3:day < 0<;>by_cases q4:day > 40000<;>simp [q1,q2,q3,q4]
   rw [hif]
   (have zx:=za n0 (za hb1 (za hb2 (za hb3 hb4))));refine zgo ?_;repeat' first|exact zt|apply zan|intro hc
   all_goals (refine Qg _ rfl ?_;simp only [go_sem];simp_all;done)
  ·rw [if_pos h1]
   rw [zp h1] at p2
   (have zx:=n0);exact zg
 ·rw [if_pos h0]
  have n0:(yj rs ks != 0) = true:=by simpa using h0
  generalize yj rs ks = cv at *
  (have zx:=n0);exact zg
def VG:=qd Proofs.Tryz.f18 [zhn 13]
def Vn (Γ:Env) (f:Nat):Prop:=∀ (rs:List Ql) (ks:List Jg) (a b pu day:Int) (hr:rs.length < 2 ^ 40) (hk:ks.length < 2 ^ 40),EvN Γ f [as2 rs ks,.agg [V.int a,V.int b],V.int pu,V.int day] ((if acw rs ks a b pu day≠0 then .tup [V.bool false,V.int 0,V.int (acw rs ks a b pu day)] else .tup [V.bool (aix rs a b pu day),V.int (aub rs a b pu day),V.int 0]))
theorem adQ {Γ:Env} {f:Nat} (h:Has Γ.P f 30 VG.1.1.ac VG.1.2) (z0:yr Γ 54) (z1:qh Γ 55) (z2:qg Γ 56):Vn Γ f:=by
 intro rs ks a b pu day hr hk
 refine Qc h zsi (by split<;>simp only [V.closed,Qb,V.noSl,Wi,and_self]) (by split<;>simp only [V.closed,Qb,V.noSl,Wi,and_self]) fun C hC hm=>?_
 subst hC
 simp only [VG,qd,DC.ac]
 have p1:=(z0 rs ks a b pu day hr hk).b
 have p2:=(z1 rs ks a b pu day hr).b
 have p3:=(z2 rs ks a b pu day hr).b
 by_cases h0:acw rs ks a b pu day = 0
 ·rw [if_neg (by simpa using h0)]
  rw [h0] at p1
  have n0:((0:Int) != 0) = false:=by decide
  generalize aix rs a b pu day = r1 at *
  generalize aub rs a b pu day = r2 at *
  (have zx:=n0);exact zg
 ·rw [if_pos h0]
  have n0:(acw rs ks a b pu day != 0) = true:=by simpa using h0
  generalize acw rs ks a b pu day = er at *
  (have zx:=n0);exact zg
def wkB (rs:List Ql) (ks:List Jg) (pu day:Int) (f:Qo):Bool:=f.kind == 1 && (decide (acw rs ks f.alg f.bits pu day = 0) && !aix rs f.alg f.bits pu day)
def ak3 (l:List Qa) (gap day age:Int) (rs:List Ql) (ks:List Jg) (pu:Int):List Qo:=(YS l gap day age).flatten.filter (wkB rs ks pu day)
def aqK (l:List Qa) (gap day age:Int) (rs:List Ql) (ks:List Jg) (pu:Int):V :=
 if XW l gap day age = 0 then (if yj rs ks = 0 then (if pu < 1∨pu > 4 then .tup [.sl 8 [],V.int 2] else .tup [.sl 8 ((ak3 l gap day age rs ks pu).map Qo.v),V.int 0]) else .tup [.sl 8 [],V.int (yj rs ks)]) else .tup [.sl 8 [],V.int (XW l gap day age)]
theorem asj {α:Type} {b:Nat}:∀ {ls:List (List α)},(∀ x∈ls,x.length≤b)→ls.flatten.length≤ls.length * b
 | [],_=>by simp
 | x :: r,h=>by
   have h1:=h x kD
   have h2:=asj (ls:=r) fun y hy=>h y (kp _ hy)
   rw [List.flatten_cons,zv,List.length_cons,zW];omega
theorem ah0 (l:List Qa) (gap day age:Int):(YS l gap day age).flatten.length≤l.length * l.length:=by
 have h1:∀ x∈YS l gap day age,x.length≤l.length:=by
  intro x hx
  rw [YS,kc] at hx
  obtain ⟨e,he,rfl⟩:=hx
  exact Zk (ajM l e.num e.finds day age) (ail he).2.2.1
 refine Zk (asj h1) (zT _ ?_)
 rw [YS,zb];exact aeo l gap
def wkS (day pu:Int) (rs:List Ql) (ks:List Jg) (fl out:List Qo) (k:Nat):St:=QS [(2,V.int day),(5,V.int pu),(10,.ptr 0 0),(18,.hd 1 0 out.length),(48,.hd 2 0 fl.length),(49,V.int fl.length),(50,V.int k)] [(0,.box true [.sl 6 (rs.map Ql.v),.sl 2 (ks.map Jg.v)]),(1,.buf true 8 (out.map Qo.v)),(2,.buf true 8 (fl.map Qo.v))] 3
def KR:=qd Proofs.Tryz.f10 []
def yz (Γ:Env) (f:Nat):Prop:=∀ (l:List Qa) (gap day age:Int) (rs:List Ql) (ks:List Jg) (pu:Int) (hl:l.length < 2 ^ 30) (hz:∀ x∈l,x.Sz) (hr:rs.length < 2 ^ 40) (hk2:ks.length < 2 ^ 40),EvC Γ f [.sl 11 (l.map Qa.v),V.int gap,V.int day,V.int age,as2 rs ks,V.int pu] (aqK l gap day age rs ks pu)
theorem agL {Γ:Env} {f:Nat} (h:Has Γ.P f 81 KR.1.1.ac KR.1.2) (z0:Uf Γ 25) (z1:qo Γ 26) (z2:J9 Γ 27) (z3:Vn Γ 18):yz Γ f:=by
 intro l gap day age rs ks pu hl hz hr hk2
 refine Q0 h zsi (by unfold aqK;(repeat' split)<;>simp only [V.closed,Qb,and_self]) fun C hC hm=>?_
 subst hC
 simp only [KR,qd,DC.ac]
 have g0:=(z0 l gap day age hl hz).b
 have g1:=(z1 rs ks hr hk2).b
 by_cases hE:XW l gap day age = 0
 rotate_left
 ·rw [aqK,if_neg hE]
  rw [adO,if_neg hE] at g0
  have e01:(XW l gap day age != 0) = true:=by simpa using hE
  generalize XW l gap day age = er at *
  repeat' (first|(refine zsk ?_;intro K' hK)|refine zsp ?_|(refine zsc ?_ ?_<;>intro hc<;>first|exact znh|try simp only [znz] at hc)|simp (maxSteps:=1000000) only [go_sem,e01]|(refine hK _ ?_;clear hK K')|apply zan|(apply QA;(focus first|exact g0))|exact zsq|fail)
  all_goals exact zr
 rw [aqK,if_pos hE]
 rw [adO,if_pos hE] at g0
 have e00:((0:Int) != 0) = false:=by decide
 by_cases hC0:yj rs ks = 0
 rotate_left
 ·rw [if_neg hC0]
  have e01:(yj rs ks != 0) = true:=by simpa using hC0
  generalize yj rs ks = er at *
  repeat' (first|(refine zsk ?_;intro K' hK)|refine zsp ?_|(refine zsc ?_ ?_<;>intro hc<;>first|exact znh|try simp only [znz] at hc)|simp (maxSteps:=1000000) only [go_sem,e00,e01]|(refine hK _ ?_;clear hK K')|apply zan|(apply QA;(focus first|exact g0|exact g1))|exact zsq|fail)
  all_goals exact zr
 rw [if_pos hC0]
 rw [hC0] at g1
 by_cases hp1:pu < 1
 ·rw [if_pos (.inl hp1)]
  have e1:decide (pu < 1) = true:=zn hp1
  repeat' (first|(refine zsk ?_;intro K' hK)|refine zsp ?_|(refine zsc ?_ ?_<;>intro hc<;>first|exact znh|try simp only [znz] at hc)|simp (maxSteps:=1000000) only [go_sem,e00,e1]|(refine hK _ ?_;clear hK K')|apply zan|(apply QA;(focus first|exact g0|exact g1))|exact zsq|fail)
  all_goals exact zr
 by_cases hp2:pu > 4
 ·rw [if_pos (.inr hp2)]
  have e1:decide (pu < 1) = false:=zp hp1
  have e2:decide (pu > 4) = true:=zn hp2
  repeat' (first|(refine zsk ?_;intro K' hK)|refine zsp ?_|(refine zsc ?_ ?_<;>intro hc<;>first|exact znh|try simp only [znz] at hc)|simp (maxSteps:=1000000) only [go_sem,e00,e1,e2]|(refine hK _ ?_;clear hK K')|apply zan|(apply QA;(focus first|exact g0|exact g1))|exact zsq|fail)
  all_goals exact zr
 rw [if_neg (by omega)]
 have e1:decide (pu < 1) = false:=zp hp1
 have e2:decide (pu > 4) = false:=zp hp2
 have hfl:=ah0 l gap day age
 have hl4:l.length≤400:=by
  have:=(vO.1 hE).nm
  simp only [wc,zA,zC] at this
  omega
 have hsq:l.length * l.length≤160000:=Nat.mul_le_mul hl4 hl4
 have hll:(YS l gap day age).length≤l.length:=by rw [YS,zb];exact aeo l gap
 have gC:=z2 (YS l gap day age) (by omega) (by omega)
 rw [ak3]
 have hfm:((YS l gap day age).flatten.map Qo.v).length = (YS l gap day age).flatten.length:=zb _
 generalize hfd:(YS l gap day age).flatten = fl at *
 repeat' (first|(refine zsk ?_;intro K' hK)|refine zsp ?_|(refine zsc ?_ ?_<;>intro hc<;>first|exact znh|try simp only [znz] at hc)|simp (maxSteps:=1000000) only [go_sem,e00,e1,e2,hfm]|(refine hK _ ?_;clear hK K')|apply zan|(apply K0;(focus first|exact gC))|(apply QA;(focus first|exact g0|exact g1))|exact zsq|fail)
 refine Qj (ι:=Nat) (fun k=>k≤fl.length) (fun k=>wkS day pu rs ks fl ((fl.take k).filter (wkB rs ks pu day)) k) (fun k=>fl.length - k) 0 (zJ _) (Qd [(1,28000),(2,30000)]) (Qh [(1,28000),(2,30000)] (by simp only [go_sem,zwl,wkS,List.take_zero,List.filter_nil,List.length_nil,hfm]<;>exact zcc) (by simp only [go_sem,zwl,wkS,List.take_zero,List.filter_nil,zH]<;>exact zcc) (by simp [wkS,Qd]) (by simp [wkS];omega) (by omega)) fun k hk K' hL=>?_
 have hol:=kJ (wkB rs ks pu day) (fl.take k)
 rw [zU,Zg hk] at hol
 rcases hdr:fl.drop k with _|⟨f,r⟩
 ·have hkl:=Qu hdr
  have e3:decide ((k:Int) < (fl.length:Int)) = false:=by simp;omega
  obtain rfl:k = fl.length:=by omega
  simp only [wkS,zG]
  generalize fl.filter (wkB rs ks pu day) = out
  have htl:List.take out.length (out.map Qo.v) = out.map Qo.v:=zi (by simp)
  repeat' (first|(refine zsk ?_;intro K' hK)|refine zsp ?_|(refine zsc ?_ ?_<;>intro hc<;>first|exact znh|try simp only [znz] at hc)|simp (maxSteps:=1000000) only [go_sem,QS,e3,htl]|(refine hK _ ?_;clear hK K')|apply zan|exact zsq|fail)
  all_goals first|exact zr|(refine Qg _ rfl ?_;simp only [go_sem];simp [zi];done)
 obtain ⟨hk',hget,hrr⟩:=Qq hdr
 have hw:=Qe (k:=k) (by omega)
 have e3:decide ((k:Int) < (fl.length:Int)) = true:=by simp;omega
 have vf:(fl.map Qo.v)[k]? = some f.v:=by rw [zo,hget];rfl
 have pA:=(z3 rs ks f.alg f.bits pu day hr hk2).b
 have hnx:(fl.take (k + 1)).filter (wkB rs ks pu day) = (fl.take k).filter (wkB rs ks pu day)++(if wkB rs ks pu day f = true then [f] else []):=by
  rw [zB,hget,kU]
  rcases hb:wkB rs ks pu day f with _|_<;>simp [hb]
 rw [wkB] at hnx
 simp only [wkS]
 generalize (fl.take k).filter (wkB rs ks pu day) = out at *
 have hom:(out.map Qo.v).length = out.length:=zb _
 have htl:List.take out.length (out.map Qo.v) = out.map Qo.v:=zi (by simp)
 simp only [Qo.v,Qo.cells] at vf
 by_cases h0:acw rs ks f.alg f.bits pu day = 0
 rotate_left
 ·rw [if_pos h0] at pA
  rw [zp h0,zK,zY,if_neg (by decide),ka] at hnx
  have e4:(acw rs ks f.alg f.bits pu day == 0) = false:=by simpa using h0
  rcases hkd:(f.kind == 1) with _|_
  ·repeat' (first|(refine zsk ?_;intro K' hK)|refine zsp ?_|(refine zsc ?_ ?_<;>intro hc<;>first|exact znh|try simp only [znz] at hc)|simp (maxSteps:=1000000) only [go_sem,QS,e3,e4,hkd,hw,vf,hom,htl,hfm,Int.toNat_natCast]|(refine hK _ ?_;clear hK K')|apply zan|(apply QA;(focus first|exact pA))|exact zsq|fail)
   all_goals exact hL _ (k + 1) (Qd []) (by omega) (by omega) (Qh [] (by simp only [go_sem,zwl,wkS,hnx]<;>exact zcc) (by simp only [go_sem,zwl,wkS,hnx]<;>exact zcc) (by simp [wkS,Qd]) (by simp [wkS]) (by omega))
  ·repeat' (first|(refine zsk ?_;intro K' hK)|refine zsp ?_|(refine zsc ?_ ?_<;>intro hc<;>first|exact znh|try simp only [znz] at hc)|simp (maxSteps:=1000000) only [go_sem,QS,e3,e4,hkd,hw,vf,hom,htl,hfm,Int.toNat_natCast]|(refine hK _ ?_;clear hK K')|apply zan|(apply QA;(focus first|exact pA))|exact zsq|fail)
   all_goals exact hL _ (k + 1) (Qd []) (by omega) (by omega) (Qh [] (by simp only [go_sem,zwl,wkS,hnx]<;>exact zcc) (by simp only [go_sem,zwl,wkS,hnx]<;>exact zcc) (by simp [wkS,Qd]) (by simp [wkS]) (by omega))
 rw [if_neg (by simpa using h0)] at pA
 rw [zn h0,zO] at hnx
 rcases hkd:(f.kind == 1) with _|_
 ·rw [hkd,zK,if_neg (by decide),ka] at hnx
  repeat' (first|(refine zsk ?_;intro K' hK)|refine zsp ?_|(refine zsc ?_ ?_<;>intro hc<;>first|exact znh|try simp only [znz] at hc)|simp (maxSteps:=1000000) only [go_sem,QS,e3,hkd,hw,vf,hom,htl,hfm,Int.toNat_natCast]|(refine hK _ ?_;clear hK K')|apply zan|(apply QA;(focus first|exact pA))|exact zsq|fail)
  all_goals exact hL _ (k + 1) (Qd []) (by omega) (by omega) (Qh [] (by simp only [go_sem,zwl,wkS,hnx]<;>exact zcc) (by simp only [go_sem,zwl,wkS,hnx]<;>exact zcc) (by simp [wkS,Qd]) (by simp [wkS]) (by omega))
 have e4:((0:Int) == 0) = true:=by decide
 rcases hal:aix rs f.alg f.bits pu day with _|_
 ·rw [hkd,hal,Z7,zO,if_pos rfl] at hnx
  rw [hal] at pA
  repeat' (first|(refine zsk ?_;intro K' hK)|refine zsp ?_|(refine zsc ?_ ?_<;>intro hc<;>first|exact znh|try simp only [znz] at hc)|simp (maxSteps:=1000000) only [go_sem,QS,e3,e4,hkd,hw,vf,hom,htl,hfm,Int.toNat_natCast]|(refine hK _ ?_;clear hK K')|apply zan|(apply QA;(focus first|exact pA))|exact zsq|fail)
  all_goals exact hL _ (k + 1) (Qd [(1,32003)]) (by omega) (by omega) (Qh [(1,32003)] (by simp only [go_sem,zwl,wkS,hnx,zv,List.length_cons,List.length_nil]<;>exact zcc) (by simp only [go_sem,zwl,wkS,hnx,kj,zE,zH,Qo.v,Qo.cells]<;>exact zcc) (by simp [wkS,Qd]) (by simp [wkS];omega) (by omega))
 ·rw [hkd,hal,Bool.not_true,zO,if_neg (by decide),ka] at hnx
  rw [hal] at pA
  repeat' (first|(refine zsk ?_;intro K' hK)|refine zsp ?_|(refine zsc ?_ ?_<;>intro hc<;>first|exact znh|try simp only [znz] at hc)|simp (maxSteps:=1000000) only [go_sem,QS,e3,e4,hkd,hw,vf,hom,htl,hfm,Int.toNat_natCast]|(refine hK _ ?_;clear hK K')|apply zan|(apply QA;(focus first|exact pA))|exact zsq|fail)
  all_goals exact hL _ (k + 1) (Qd []) (by omega) (by omega) (Qh [] (by simp only [go_sem,zwl,wkS,hnx]<;>exact zcc) (by simp only [go_sem,zwl,wkS,hnx]<;>exact zcc) (by simp [wkS,Qd]) (by simp [wkS]) (by omega))
def awW (c:Int):Int×Int:=if c = 0 then (1,0) else if c = 1 then (2,0) else if c = 2 then (5,1024) else (14,128)
theorem as7 {c:Int} (h:0≤c∧c < 4):([.agg [V.int 1,V.int 0],.agg [V.int 2,V.int 0],.agg [V.int 5,V.int 1024],.agg [V.int 14,V.int 128]]:List V)[c.toNat]? = some (.agg [V.int (awW c).1,V.int (awW c).2]):=by
 obtain rfl|rfl|rfl|rfl:c = 0∨c = 1∨c = 2∨c = 3:=by omega
 all_goals rfl
def asl (l:List Int) (f:Qa) (k:Nat):Qa×Nat :=
 if f.kind = 1∨f.kind = 8 then ({ f with alg:=(awW (Qt l k 4).1).1,bits:=(awW (Qt l k 4).1).2 },(Qt l k 4).2)
 else if f.kind = 2 then ({ f with num:=1 + (Qt l k 5).1 },(Qt l k 5).2)
 else if f.kind = 3 then ({ f with alg:=5,bits:=(ofD l k [1024,2048]).1,num:=100 + (Qt l (ofD l k [1024,2048]).2 3).1 },(Qt l (ofD l k [1024,2048]).2 3).2)
 else if f.kind = 4∨f.kind = 5 then ({ f with num:=1 + (Qt l k 4).1 },(Qt l k 4).2)
 else if f.kind = 6 then ({ f with num:=(Qt l k 3).1 },(Qt l k 3).2)
 else ({ f with text:=(aa4 l k [[97],[98]]).1 },(aa4 l k [[97],[98]]).2)
def Yp (l:List Int) (k:Nat):Qa×Nat :=
 let n1:=Qt l k 7
 let w1:=aa4 l n1.2 [[97],[98],[99]]
 let o1:=ofD l w1.2 [0,1,2,0,3]
 let n2:=Qt l o1.2 12
 let o2:=ofD l n2.2 [90,50,100,1]
 let n3:=Qt l o2.2 8
 let w2:=aa4 l n3.2 [[115],[116]]
 (⟨1 + n1.1,w1.1,o1.1,n2.1,o2.1,1 + n3.1,w2.1,0,0,0,[]⟩,w2.2)
def acK (l:List Int) (k:Nat):Qa×Nat:=asl l (Yp l k).1 (Yp l k).2
def jT:=qd Proofs.Tryz.f20 []
def xY (Γ:Env) (f:Nat):Prop:=∀ (l:List Int) (k:Nat) (hl:l.length≤400) (hk:k≤l.length),EvD Γ f [] (Q1 l k) ((acK l k).1.v) (Q1 l (acK l k).2)
attribute [local go_sem] Q1 in
theorem ah7 {Γ:Env} {f:Nat} (h:Has Γ.P f 76 jT.1.1.ac jT.1.2) (z0:JH Γ 8) (z1:qr Γ 60) (z2:UX Γ 24):xY Γ f:=by
 intro l k hl hk
 refine JL h zsi (by first|exact QG _ _|simp only [Qa.v,Qa.cells,V.closed,Qb,and_self,and_true]) zc3 zc3 fun C hC hm=>?_
 subst hC
 simp only [jT,qd,DC.ac]
 have n1:=z0 l k 7 hl hk
 have r1:=Qz (l:=l) (k:=k) (n:=7) (by omega) (by omega)
 have k1:=Q7 (n:=7) hk
 simp only [acK,Yp]
 generalize Qt l k 7 = x1 at *
 obtain ⟨a1,q1⟩:=x1
 simp only at n1 r1 k1 ⊢
 have n2:=z1 l q1 [[97],[98],[99]] hl k1 (by decide) (by decide)
 have k2:=adn (xs:=[[97],[98],[99]]) k1
 generalize aa4 l q1 [[97],[98],[99]] = x2 at *
 obtain ⟨a2,q2⟩:=x2
 simp only at n2 k2 ⊢
 have n3:=z2 l q2 [0,1,2,0,3] hl k2 (by decide) (by decide)
 have k3:=aaV (xs:=[0,1,2,0,3]) k2
 generalize ofD l q2 [0,1,2,0,3] = x3 at *
 obtain ⟨a3,q3⟩:=x3
 simp only at n3 k3 ⊢
 have n4:=z0 l q3 12 hl k3
 have k4:=Q7 (n:=12) k3
 generalize Qt l q3 12 = x4 at *
 obtain ⟨a4,q4⟩:=x4
 simp only at n4 k4 ⊢
 have n5:=z2 l q4 [90,50,100,1] hl k4 (by decide) (by decide)
 have k5:=aaV (xs:=[90,50,100,1]) k4
 generalize ofD l q4 [90,50,100,1] = x5 at *
 obtain ⟨a5,q5⟩:=x5
 simp only at n5 k5 ⊢
 have n6:=z0 l q5 8 hl k5
 have r6:=Qz (l:=l) (k:=q5) (n:=8) (by omega) (by omega)
 have k6:=Q7 (n:=8) k5
 generalize Qt l q5 8 = x6 at *
 obtain ⟨a6,q6⟩:=x6
 simp only at n6 r6 k6 ⊢
 have n7:=z1 l q6 [[115],[116]] hl k6 (by decide) (by decide)
 have k7:=adn (xs:=[[115],[116]]) k6
 generalize aa4 l q6 [[115],[116]] = x7 at *
 obtain ⟨a7,q7⟩:=x7
 simp only at n7 k7 ⊢
 have e1:IntKind.i64.wrap (1 + a1) = 1 + a1:=Jc (by omega) (by omega)
 have m4:=z0 l q7 4 hl k7
 have s4:=Qz (l:=l) (k:=q7) (n:=4) (by omega) (by omega)
 have g4:=as7 s4
 have e4:IntKind.i64.wrap (1 + (Qt l q7 4).1) = 1 + (Qt l q7 4).1:=Jc (by omega) (by omega)
 have m5:=z0 l q7 5 hl k7
 have s5:=Qz (l:=l) (k:=q7) (n:=5) (by omega) (by omega)
 have e5:IntKind.i64.wrap (1 + (Qt l q7 5).1) = 1 + (Qt l q7 5).1:=Jc (by omega) (by omega)
 have mo:=z2 l q7 [1024,2048] hl k7 (by decide) (by decide)
 have ko:=aaV (xs:=[1024,2048]) k7
 have mp:=z0 l (ofD l q7 [1024,2048]).2 3 hl ko
 have sp:=Qz (l:=l) (k:=(ofD l q7 [1024,2048]).2) (n:=3) (by omega) (by omega)
 have ep:IntKind.i64.wrap (100 + (Qt l (ofD l q7 [1024,2048]).2 3).1) = 100 + (Qt l (ofD l q7 [1024,2048]).2 3).1:=Jc (by omega) (by omega)
 have m3:=z0 l q7 3 hl k7
 have mw:=z1 l q7 [[97],[98]] hl k7 (by decide) (by decide)
 have w1:IntKind.i64.wrap 1 = 1:=by decide
 have w2:IntKind.i64.wrap 2 = 2:=by decide
 have w3:IntKind.i64.wrap 3 = 3:=by decide
 have w4:IntKind.i64.wrap 4 = 4:=by decide
 have w5:IntKind.i64.wrap 5 = 5:=by decide
 have w6:IntKind.i64.wrap 6 = 6:=by decide
 have w7:IntKind.i64.wrap 7 = 7:=by decide
 have w8:IntKind.i64.wrap 8 = 8:=by decide
 simp only [Q1,zE,zH] at n1 n2 n3 n4 n5 n6 n7 m4 m5 mo mp m3 mw
 obtain rfl|rfl|rfl|rfl|rfl|rfl|rfl|rfl:a6 = 0∨a6 = 1∨a6 = 2∨a6 = 3∨a6 = 4∨a6 = 5∨a6 = 6∨a6 = 7:=by omega
 all_goals
  simp only [asl,Int.reduceAdd,Int.reduceEq,or_true,true_or,or_self,if_true,if_false,Qa.v,Qa.cells]
  (have zx:=za e1 (za e4 (za e5 (za ep (za g4 (za w1 (za w2 (za w3 (za w4 (za w5 (za w6 (za w7 w8))))))))))));refine zgo ?_;repeat' first|exact zt|apply zan|intro hc
 all_goals (refine J0 _ rfl rfl zcd ?_;simp only [go_sem];done)
theorem arP (a b:List UInt8):(!(Op.bytesLess a b || a == b)) = Op.bytesLess b a:=by
 rcases h1:Op.bytesLess a b with _|_
 ·rcases h2:Op.bytesLess b a with _|_
  ·have:=adG a b h1 h2
   subst this;simp
  ·have:a≠b:=fun h=>by subst h;rw [h1] at h2;cases h2
   simp [this]
 ·rcases h2:Op.bytesLess b a with _|_
  ·simp
  ·have:=xr a b a h1 h2
   rw [adH] at this;cases this
theorem apZ (x:Int):Yr [x] = x:=by
 simp only [Yr];split<;>omega
def yX:=qd Proofs.Tryz.f199 []
def vC (Γ:Env) (f:Nat):Prop:=∀ (a b:List UInt8),EvN Γ f [V.str a,V.str b] (V.int (abU a b))
theorem aiT {Γ:Env} {f:Nat} (h:Has Γ.P f 11 yX.1.1.ac yX.1.2) :vC Γ f:=by
 intro a b
 refine Qc h zsi zcl zcl fun C hC hm=>?_
 subst hC
 simp only [yX,qd,DC.ac]
 have hg:=arP a b
 unfold abU
 rcases h1:Op.bytesLess a b with _|_
 ·rw [h1] at hg
  by_cases he:a = b
  ·subst he
   rw [h1]
   (have zx:=h1);exact zg
  ·have h2:(a == b) = false:=by simpa using he
   rw [h2] at hg
   rw [← hg]
   (have zx:=za h1 h2);exact zg
 ·(have zx:=h1);exact zg
def wG:=qd Proofs.Tryz.f200 [zhn 9,zhn 9]
def aaN (Γ:Env) (f:Nat):Prop:=∀ (a b:List Int) (hab:a.length = b.length) (hl:a.length < 2 ^ 40),EvN Γ f [.sl 1 (a.map V.int),.sl 1 (b.map V.int)] (V.int (Yr (List.zipWith Kz a b)))
theorem aky {Γ:Env} {f:Nat} (h:Has Γ.P f 30 wG.1.1.ac wG.1.2) :aaN Γ f:=by
 intro a b hab hl
 refine Qc h zsi zcl zcl fun C hC hm=>?_
 subst hC
 simp only [wG,qd,DC.ac]
 refine zgo ?_;repeat' first|exact zt|apply zan|intro hc
 refine Ji (ι:=Nat) (fun k=>k≤a.length∧Yr (List.zipWith Kz (a.drop k) (b.drop k)) = Yr (List.zipWith Kz a b)) (fun k=>[(5,V.int k)]) (fun k=>a.length - k) 0 (by omega) ⟨by simp,by simp⟩ zol zlt zet fun k hk K' hL=>?_
 obtain ⟨hk,hinv⟩:=hk
 simp only [ovT,Xs,Nat.reduceEqDiff,reduceIte]
 have hal:(a.map V.int).length = a.length:=zb _
 rcases hd:a.drop k with _|⟨y,r⟩
 ·have hkl:=Qu hd
  rw [hd] at hinv
  have e1:decide ((k:Int) < (a.length:Int)) = false:=by simp;omega
  rw [← hinv]
  (have zx:=za e1 hal);refine zgo ?_;repeat' first|exact zt|apply zan|intro hc
  all_goals first|exact zr|(refine Qg _ rfl ?_;simp only [go_sem];rfl)
 ·obtain ⟨hk,hget,hr⟩:=Qq hd
  obtain ⟨z,hz⟩:∃ z,b[k]? = some z:=⟨_,zd (by omega)⟩
  have hdb:b.drop k = z :: b.drop (k + 1):=by
   obtain ⟨h1,h2⟩:=zl.1 hz
   rw [zR h1,h2]
  rw [hd,hdb,List.zipWith_cons_cons,Yr,← hr] at hinv
  have hw:=Qe (k:=k) (by omega)
  have e1:decide ((k:Int) < (a.length:Int)) = true:=by simp;omega
  have va:(a.map V.int)[k]? = some (V.int y):=by rw [zo,hget];rfl
  have vb:(b.map V.int)[k]? = some (V.int z):=by rw [zo,hz];rfl
  rcases h1:decide (y < z) with _|_
  ·rcases h2:decide (y > z) with _|_
   ·have hyz:Kz y z = 0:=by simp at h1 h2;unfold Kz;rw [if_neg (by omega),if_neg (by omega)]
    rw [hyz,if_neg (by decide)] at hinv
    (have zx:=za e1 (za hal (za va (za vb (za h1 (za h2 hw))))));refine zgo ?_;repeat' first|exact zt|apply zan|intro hc
    all_goals exact hL _ (k + 1) zet ⟨by omega,hinv⟩ (by omega) zoe
   ·have hyz:Kz y z = 1:=by simp at h1 h2;unfold Kz;rw [if_neg (by omega),if_pos (by omega)]
    rw [hyz,if_pos (by decide)] at hinv
    rw [← hinv]
    (have zx:=za e1 (za hal (za va (za vb (za h1 (za h2 hw))))));exact zg
  ·have hyz:Kz y z = -1:=by simp at h1;unfold Kz;rw [if_pos (by omega)]
   rw [hyz,if_pos (by decide)] at hinv
   rw [← hinv]
   (have zx:=za e1 (za hal (za va (za vb (za h1 hw)))));exact zg
theorem ath (a b:Qa):ags a b = Yr [abU a.host b.host,Yr [Kz a.mach b.mach,Kz a.day b.day],abU a.subj b.subj,Yr [Kz a.kind b.kind,Kz a.alg b.alg,Kz a.bits b.bits,Kz a.num b.num],abU a.text b.text,Yr [Kz a.src b.src,Kz a.conf b.conf]]:=by
 simp only [ags,avA,Yr]
 repeat' split
 all_goals first|rfl|omega|simp_all
def yY:=qd Proofs.Tryz.f132 []
def vD (Γ:Env) (f:Nat):Prop:=∀ (a b:Qa),EvN Γ f [a.v,b.v] (V.int (ags a b))
theorem aiU {Γ:Env} {f:Nat} (h:Has Γ.P f 85 yY.1.1.ac yY.1.2) (z0:vC Γ 199) (z1:aaN Γ 200):vD Γ f:=by
 intro a b
 refine Qc h zsi zcl zcl fun C hC hm=>?_
 subst hC
 simp only [yY,qd,DC.ac]
 have p1:=(z0 a.host b.host).b
 have p2:=(z1 [a.mach,a.day] [b.mach,b.day] rfl (by simp)).b
 have p3:=(z0 a.subj b.subj).b
 have p4:=(z1 [a.kind,a.alg,a.bits,a.num] [b.kind,b.alg,b.bits,b.num] rfl (by simp)).b
 have p5:=(z0 a.text b.text).b
 have p6:=(z1 [a.src,a.conf] [b.src,b.conf] rfl (by simp)).b
 simp only [zE,zH,List.zipWith_cons_cons,List.zipWith_nil_left] at p2 p4 p6
 rw [ath]
 generalize abU a.host b.host = o1 at *
 generalize Yr [Kz a.mach b.mach,Kz a.day b.day] = o2 at *
 generalize abU a.subj b.subj = o3 at *
 generalize Yr [Kz a.kind b.kind,Kz a.alg b.alg,Kz a.bits b.bits,Kz a.num b.num] = o4 at *
 generalize abU a.text b.text = o5 at *
 generalize Yr [Kz a.src b.src,Kz a.conf b.conf] = o6 at *
 simp only [Qa.v,Qa.cells]
 have F:∀ (x:Int) (r:List Int),x≠0→Yr (x :: r) = x:=fun x r h=>by rw [Yr,if_pos h]
 have N:∀ (x:Int) (r:List Int),x = 0→Yr (x :: r) = Yr r:=fun x r h=>by rw [Yr,if_neg (by simpa using h)]
 by_cases h1:o1 = 0
 rotate_left
 ·have c1:(o1 != 0) = true:=by simpa using h1
  rw [F _ _ h1]
  (have zx:=c1);exact zg
 have c1:(o1 != 0) = false:=by simpa using h1
 rw [N _ _ h1]
 by_cases h2:o2 = 0
 rotate_left
 ·have c2:(o2 != 0) = true:=by simpa using h2
  rw [F _ _ h2]
  (have zx:=za c1 c2);exact zg
 have c2:(o2 != 0) = false:=by simpa using h2
 rw [N _ _ h2]
 by_cases h3:o3 = 0
 rotate_left
 ·have c3:(o3 != 0) = true:=by simpa using h3
  rw [F _ _ h3]
  (have zx:=za c1 (za c2 c3));exact zg
 have c3:(o3 != 0) = false:=by simpa using h3
 rw [N _ _ h3]
 by_cases h4:o4 = 0
 rotate_left
 ·have c4:(o4 != 0) = true:=by simpa using h4
  rw [F _ _ h4]
  (have zx:=za c1 (za c2 (za c3 c4)));exact zg
 have c4:(o4 != 0) = false:=by simpa using h4
 rw [N _ _ h4]
 by_cases h5:o5 = 0
 rotate_left
 ·have c5:(o5 != 0) = true:=by simpa using h5
  rw [F _ _ h5]
  (have zx:=za c1 (za c2 (za c3 (za c4 c5))));exact zg
 have c5:(o5 != 0) = false:=by simpa using h5
 rw [N _ _ h5,apZ]
 (have zx:=za c1 (za c2 (za c3 (za c4 c5))));exact zg
def yZ:=qd Proofs.Tryz.f61 [zhn 13]
def vE (Γ:Env) (f:Nat):Prop:=∀ (f0:Qa) (hz:f0.Sz) (hc0:YI f0 = true),EvN Γ f [f0.v] (V.int 0)
theorem aiV {Γ:Env} {f:Nat} (h:Has Γ.P f 161 yZ.1.1.ac yZ.1.2) (z0:aaP Γ 129) (z4:j8 Γ 130) (z5:qp Γ 131):vE Γ f:=by
 intro f0 hz hc0
 refine Qc h zsi zcl zcl fun C hC hm=>?_
 subst hC
 simp only [yZ,qd,DC.ac]
 obtain ⟨src,host,mach,day,conf,kind,subj,alg,bits,num,text⟩:=f0
 obtain ⟨z1,z2,z3⟩:=hz
 have p1:=(z0 host z1).b
 have p2:=(z0 subj z2).b
 have p3:=(z0 text z3).b
 have p4:=(z4 alg bits).b
 have p5:=(z5 alg bits).b
 simp only [YI,zA,Zp,zC,zF] at hc0
 obtain ⟨⟨⟨⟨⟨⟨⟨n1,n2⟩,m1⟩,m2⟩,⟨⟨⟨m3,m4⟩,m5⟩,m6⟩⟩,m7⟩,m8⟩,hcont⟩:=hc0
 rw [n1] at p1
 rw [n2] at p2
 have d1:decide (src < 1) = false:=zp (by omega)
 have d2:decide (src > 7) = false:=zp (by omega)
 have d3:decide (mach < 0) = false:=zp (by omega)
 have d4:decide (mach > 1099511627776) = false:=zp (by omega)
 have d5:decide (day < 0) = false:=zp (by omega)
 have d6:decide (day > 40000) = false:=zp (by omega)
 have d7:decide (conf < 1) = false:=zp (by omega)
 have d8:decide (conf > 100) = false:=zp (by omega)
 simp only [Qa.v,Qa.cells]
 have n0:((0:Int) == 0) = true:=by decide
 have E:∀ n:Int,kind≠n→(kind == n) = false:=fun n h=>by simpa using h
 rw [wB] at hcont
 dsimp only at hcont
 simp only [anc] at hcont
 by_cases k1:kind = 1
 ·subst k1
  simp only [true_or,if_true,zA,kx] at hcont
  obtain ⟨⟨q1,rfl⟩,rfl⟩:=hcont
  rw [q1] at p4
  (have zx:=za d1 (za d2 (za d3 (za d4 (za d5 (za d6 (za d7 (za d8 n0))))))));exact zg
 by_cases k8:kind = 8
 ·subst k8
  simp only [or_true,if_true,zA,kx] at hcont
  obtain ⟨⟨q1,rfl⟩,rfl⟩:=hcont
  rw [q1] at p4
  (have zx:=za d1 (za d2 (za d3 (za d4 (za d5 (za d6 (za d7 (za d8 n0))))))));exact zg
 rw [if_neg (by simp [k1,k8])] at hcont
 by_cases k2:kind = 2
 ·subst k2
  simp only [if_true,zA,kx,zC] at hcont
  obtain ⟨⟨⟨⟨rfl,rfl⟩,rfl⟩,q1⟩,q2⟩:=hcont
  have g1:decide (num≥0) = true:=zn q1
  have g2:decide (num≤65535) = true:=zn q2
  (have zx:=za d1 (za d2 (za d3 (za d4 (za d5 (za d6 (za d7 (za d8 (za n0 (za g1 g2))))))))));exact zg
 rw [if_neg k2] at hcont
 by_cases k3:kind = 3
 ·subst k3
  simp only [if_true,zA,kx,zC] at hcont
  obtain ⟨⟨⟨⟨q0,q3⟩,q1⟩,q2⟩,rfl⟩:=hcont
  have hu:an9 alg bits 2 = true:=by rw [an9,q3,zn q0];rfl
  rw [hu] at p5
  have g1:decide (num≥0) = true:=zn q1
  have g2:decide (num≤2147483648) = true:=zn q2
  (have zx:=za d1 (za d2 (za d3 (za d4 (za d5 (za d6 (za d7 (za d8 (za n0 (za g1 g2))))))))));exact zg
 rw [if_neg k3] at hcont
 by_cases k4:kind = 4
 ·subst k4
  simp only [true_or,if_true,zA,kx,zC] at hcont
  obtain ⟨⟨⟨⟨rfl,rfl⟩,rfl⟩,q1⟩,q2⟩:=hcont
  have g1:decide (num≥1) = true:=zn q1
  have g2:decide (num≤4) = true:=zn q2
  (have zx:=za d1 (za d2 (za d3 (za d4 (za d5 (za d6 (za d7 (za d8 (za n0 (za g1 g2))))))))));exact zg
 by_cases k5:kind = 5
 ·subst k5
  simp only [or_true,if_true,zA,kx,zC] at hcont
  obtain ⟨⟨⟨⟨rfl,rfl⟩,rfl⟩,q1⟩,q2⟩:=hcont
  have g1:decide (num≥1) = true:=zn q1
  have g2:decide (num≤4) = true:=zn q2
  (have zx:=za d1 (za d2 (za d3 (za d4 (za d5 (za d6 (za d7 (za d8 (za n0 (za g1 g2))))))))));exact zg
 rw [if_neg (by simp [k4,k5])] at hcont
 by_cases k6:kind = 6
 ·subst k6
  simp only [if_true,zA,kx,zC] at hcont
  obtain ⟨⟨⟨⟨rfl,rfl⟩,rfl⟩,q1⟩,q2⟩:=hcont
  have g1:decide (num≥0) = true:=zn q1
  have g2:decide (num≤2147483648) = true:=zn q2
  (have zx:=za d1 (za d2 (za d3 (za d4 (za d5 (za d6 (za d7 (za d8 (za n0 (za g1 g2))))))))));exact zg
 rw [if_neg k6] at hcont
 by_cases k7:kind = 7
 ·subst k7
  simp only [if_true,zA,kx,zC] at hcont
  obtain ⟨⟨⟨rfl,rfl⟩,rfl⟩,q1⟩:=hcont
  rw [q1] at p3
  (have zx:=za d1 (za d2 (za d3 (za d4 (za d5 (za d6 (za d7 (za d8 n0))))))));exact zg
 rw [if_neg k7] at hcont
 cases hcont
end Av
end
