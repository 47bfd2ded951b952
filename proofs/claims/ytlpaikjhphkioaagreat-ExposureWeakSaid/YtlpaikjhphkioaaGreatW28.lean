/- A box whose slices are shown for good: its headers become rows that may be read. -/
import Derived.Test.YtlpaikjhphkioaaGreatW27
import Derived.Test.YtlpaikjhphkioaaGreatW12
import Derived.Test.YtlpaikjhphkioaaGreatW16
import Derived.Test.YtlpaikjhphkioaaGreatW26
import Derived.Test.YtlpaikjhphkioaaGreatW21
import Derived.Test.YtlpaikjhphkioaaGreatW14
set_option linter.unusedVariables false
set_option linter.unusedSimpArgs false
noncomputable section
set_option maxRecDepth 10000
set_option maxHeartbeats 4000000
namespace Av
open Go
attribute [local irreducible] AWp Vy K7 jE awS awC aaG awQ abg QW Uc vZ awR Uj awB okR jt ris
def UL:=qd Proofs.Tryz.f34 []
def ql (Γ:Env) (f:Nat):Prop:=∀ (rs:List Qj) (ks:List QS) (hr:rs.length < 2 ^ 40) (hk:ks.length < 2 ^ 40),EvN Γ f [ajb rs ks] (V.int (J9 rs ks))
attribute [local go_sem] QS.cells QS.v Qj.cells Qj.v in
theorem adc {Γ:Env} {f:Nat} (h:Has Γ.P f 43 UL.1.1.ac UL.1.2) (z0:qk Γ 69) (z1:jh Γ 70):ql Γ f:=by
 intro rs ks hr hk
 refine Qb h zsi zcl zcl fun C hC hm=>?_
 subst hC
 simp only [UL,qd,DC.ac]
 have e3:decide ((((rs.map Qj.v).length:Nat):Int) > 60) = !decide (rs.length≤60):=by
  rw [zb,← decide_not];apply decide_eq_decide.2;omega
 have e4:decide ((((ks.map QS.v).length:Nat):Int) > 60) = !decide (ks.length≤60):=by
  rw [zb,← decide_not];apply decide_eq_decide.2;omega
 by_cases h3:rs.length≤60
 ·by_cases h4:ks.length≤60
  ·have e0:J9 rs ks = if (rs.all QQ && ks.all Y7) = true then 0 else 25:=by rw [J9,zo h3,zo h4,zX,zX]
   rw [zo h3] at e3
   rw [zo h4] at e4
   rw [e0]
   (have zx:=za e3 e4);refine zgo ?_;repeat' first|exact zt|apply zan|intro hc
   refine Qz (ι:=Nat) (fun k=>k≤rs.length∧(rs.drop k).all QQ = rs.all QQ) (fun k=>[(3,V.int k)]) (fun k=>rs.length - k) 0 (by omega) ⟨by simp,by simp⟩ zol zlt zet fun k hk K' hL=>?_
   obtain ⟨hk1,hinv⟩:=hk
   simp only [ovT,JE,Nat.reduceEqDiff,reduceIte]
   rcases hd:rs.drop k with _|⟨y,r⟩
   ·have hkl:=Qt hd
    have e5:decide ((k:Int) < (((rs.map Qj.v).length:Nat):Int)) = false:=by simp;omega
    rw [hd] at hinv
    rw [← hinv]
    simp only [List.all_nil,zH]
    (have zx:=e5);refine zgo ?_;repeat' first|exact zt|apply zan|intro hc
    refine Qz (ι:=Nat) (fun j=>j≤ks.length∧(ks.drop j).all Y7 = ks.all Y7) (fun j=>[(4,V.int j)]) (fun j=>ks.length - j) 0 (by omega) ⟨by simp,by simp⟩ zol zlt zet fun j hj K' hL=>?_
    obtain ⟨hj1,hinv2⟩:=hj
    simp only [ovT,JE,Nat.reduceEqDiff,reduceIte]
    rcases hd2:ks.drop j with _|⟨z,r2⟩
    ·have hjl:=Qt hd2
     have e6:decide ((j:Int) < (((ks.map QS.v).length:Nat):Int)) = false:=by simp;omega
     rw [hd2] at hinv2
     rw [← hinv2]
     (have zx:=e6);refine zgo ?_;repeat' first|exact zt|apply zan|intro hc
     all_goals first|exact zr|(refine Ql _ rfl ?_;simp only [go_sem];rfl)
    ·obtain ⟨hj',hget,hr2⟩:=Qm hd2
     have hw:=Qg (k:=j) (by omega)
     have e6:decide ((j:Int) < (((ks.map QS.v).length:Nat):Int)) = true:=by simp;omega
     rw [hd2,List.all_cons] at hinv2
     have hct:=(z1 z).b
     rcases hz:Y7 z with _|_
     ·rw [hz] at hct hinv2
      rw [← hinv2]
      (have zx:=za e6 (za hw hget));refine zgo ?_;repeat' first|exact zt|apply zan|intro hc
      all_goals first|exact zr|(refine Ql _ rfl ?_;simp only [go_sem];rfl)
     ·rw [hz] at hct hinv2
      (have zx:=za e6 (za hw hget));refine zgo ?_;repeat' first|exact zt|apply zan|intro hc
      all_goals first
       | exact hL _ (j + 1) zet ⟨by omega,by rw [hr2];simpa using hinv2⟩ (by omega) zoe
       | exact hL _ (j + 1) zet ⟨by omega,by rw [hr2];simpa using hinv2⟩ (by omega) (fun a ha=>rfl)
   ·obtain ⟨hk',hget,hr2⟩:=Qm hd
    have hw:=Qg (k:=k) (by omega)
    have e5:decide ((k:Int) < (((rs.map Qj.v).length:Nat):Int)) = true:=by simp;omega
    rw [hd,List.all_cons] at hinv
    have hct:=(z0 y).b
    rcases hz:QQ y with _|_
    ·rw [hz] at hct hinv
     rw [← hinv]
     simp only [zE]
     (have zx:=za e5 (za hw hget));refine zgo ?_;repeat' first|exact zt|apply zan|intro hc
     all_goals first|exact zr|(refine Ql _ rfl ?_;simp only [go_sem];rfl)
    ·rw [hz] at hct hinv
     (have zx:=za e5 (za hw hget));refine zgo ?_;repeat' first|exact zt|apply zan|intro hc
     all_goals first
      | exact hL _ (k + 1) zet ⟨by omega,by rw [hr2];simpa using hinv⟩ (by omega) zoe
      | exact hL _ (k + 1) zet ⟨by omega,by rw [hr2];simpa using hinv⟩ (by omega) (fun a ha=>rfl)
  ·have e0:J9 rs ks = 25:=by rw [J9,zp h4,zO];rfl
   rw [zo h3] at e3
   rw [zp h4] at e4
   rw [e0]
   (have zx:=za e3 e4);exact zg
 ·have e0:J9 rs ks = 25:=by rw [J9,zp h3,zO,zE];rfl
  rw [zp h3] at e3
  rw [e0]
  (have zx:=e3);exact zg
def WO:=qd Proofs.Tryz.f77 []
def Un (Γ:Env) (f:Nat):Prop:=∀ (r:Qj) (a b pu day:Int),EvN Γ f [r.v,.agg [V.int a,V.int b],V.int pu,V.int day] (V.bool (anB a b pu day r))
theorem aaX {Γ:Env} {f:Nat} (h:Has Γ.P f 59 WO.1.1.ac WO.1.2) :Un Γ f:=by
 intro r a b pu day
 refine Qb h zsi zcl zcl fun C hC hm=>?_
 subst hC
 simp only [WO,qd,DC.ac]
 obtain ⟨al,alg,below,purp,frm,til⟩:=r
 simp only [Qj.v,Qj.cells,anB,ags,bne]
 have hd6:decide (frm≤day) = decide (day≥frm):=rfl
 rw [hd6]
 generalize hb1:(alg == 0) = b1
 generalize hb2:(alg == a) = b2
 generalize hb3:(purp == 0) = b3
 generalize hb4:(purp == pu) = b4
 generalize hb5:(below == 0) = b5
 generalize hb6:decide (b > 0) = b6
 generalize hb7:decide (b < below) = b7
 generalize hb8:decide (day≥frm) = b8
 generalize hb9:decide (day < til) = b9
 (have zx:=za hb1 (za hb2 (za hb3 (za hb4 (za hb5 (za hb6 (za hb7 (za hb8 hb9))))))));refine zgo ?_;repeat' first|exact zt|apply zan|intro hc
 all_goals first|(refine Ql _ rfl ?_;simp only [go_sem];clear hb1 hb2 hb3 hb4 hb5 hb6 hb7 hb8 hb9 hd6;revert b1 b2 b3 b4 b5 b6 b7 b8 b9;decide)|(refine Ql _ rfl ?_;simp only [go_sem];simp_all;done)
def WP:=qd Proofs.Tryz.f44 [zhn 9]
def X9 (Γ:Env) (f:Nat):Prop:=∀ (rs:List Qj) (ks:List QS) (a b pu day:Int) (hr:rs.length < 2 ^ 40),EvN Γ f [ajb rs ks,.agg [V.int a,V.int b],V.int pu,V.int day] (V.int (aiK rs a b pu day))
theorem aaY {Γ:Env} {f:Nat} (h:Has Γ.P f 28 WP.1.1.ac WP.1.2) (z0:Un Γ 77):X9 Γ f:=by
 intro rs ks a b pu day hr
 refine Qb h zsi zcl zcl fun C hC hm=>?_
 subst hC
 simp only [WP,qd,DC.ac]
 have hlr:(rs.map Qj.v).length = rs.length:=zb _
 have w0:IntKind.i64.wrap ((rs.length:Int) - 1) = (rs.length:Int) - 1:=QP (by omega) (by omega)
 (have zx:=za hlr w0);refine zgo ?_;repeat' first|exact zt|apply zan|intro hc
 refine Qz (ι:=Nat) (fun k=>k≤rs.length∧alE (anB a b pu day) rs k = aiK rs a b pu day) (fun k=>[(9,V.int ((k:Int) - 1))]) (fun k=>k) rs.length (by omega) ⟨zh _,rfl⟩ zol zlt zet fun k hk K' hL=>?_
 obtain ⟨hk,hinv⟩:=hk
 simp only [ovT,JE,Nat.reduceEqDiff,reduceIte]
 rcases k with _|k
 ·have e1:decide ((((0:Nat):Int) - 1)≥0) = false:=by decide
  rw [← hinv,alE]
  (have zx:=e1);refine zgo ?_;repeat' first|exact zt|apply zan|intro hc
  all_goals first|exact zr|(refine Ql _ rfl ?_;simp only [go_sem];rfl)
 have hkk:(((k + 1:Nat):Int) - 1) = (k:Int):=by omega
 have e1:decide ((k:Int)≥0) = true:=zo (by omega)
 obtain ⟨r,hget⟩:∃ r,rs[k]? = some r:=⟨_,zd (by omega)⟩
 have vr:(rs.map Qj.v)[k]? = some r.v:=by rw [zi,hget];rfl
 have pm:=(z0 r a b pu day).b
 have hw:IntKind.i64.wrap ((k:Int) - 1) = (k:Int) - 1:=QP (by omega) (by omega)
 rw [alE,hget] at hinv
 dsimp only at hinv
 simp only [Qj.v,Qj.cells] at vr pm
 rcases hA:anB a b pu day r with _|_
 ·rw [hA,if_neg (by decide)] at hinv
  rw [hA] at pm
  (have zx:=za hkk (za e1 (za vr (za hlr hw))));refine zgo ?_;repeat' first|exact zt|apply zan|intro hc
  all_goals exact hL _ k zet ⟨by omega,hinv⟩ (by omega) zoe
 ·rw [hA,if_pos rfl] at hinv
  rw [hA] at pm
  rw [← hinv]
  (have zx:=za hkk (za e1 (za vr (za hlr hw))));exact zg
def aeX (rs:List Qj) (ks:List QS) (a b pu:Int):Int:=if J9 rs ks≠0 then J9 rs ks else if ¬ QE a b > 0 then 7 else if pu < 1∨pu > 4 then 2 else 0
def UJ:=qd Proofs.Tryz.f42 []
def qj (Γ:Env) (f:Nat):Prop:=∀ (rs:List Qj) (ks:List QS) (a b pu:Int) (hr:rs.length < 2 ^ 40) (hk:ks.length < 2 ^ 40),EvN Γ f [ajb rs ks,.agg [V.int a,V.int b],V.int pu] (V.int (aeX rs ks a b pu))
theorem ada {Γ:Env} {f:Nat} (h:Has Γ.P f 22 UJ.1.1.ac UJ.1.2) (z0:ql Γ 34) (z1:X0 Γ 76):qj Γ f:=by
 intro rs ks a b pu hr hk
 refine Qb h zsi zcl zcl fun C hC hm=>?_
 subst hC
 simp only [UJ,qd,DC.ac]
 have p1:=(z0 rs ks hr hk).b
 have p2:=(z1 a b).b
 rw [aeX]
 by_cases h0:J9 rs ks = 0
 ·rw [if_neg (by simpa using h0)]
  rw [h0] at p1
  have n0:((0:Int) != 0) = false:=by decide
  by_cases h1:QE a b > 0
  ·rw [if_neg (by simpa using h1)]
   rw [zo h1] at p2
   generalize hb1:decide (pu < 1) = b1
   generalize hb2:decide (pu > 4) = b2
   have hif:(if pu < 1∨pu > 4 then (2:Int) else 0) = bif b1 || b2 then 2 else 0:=by
    rw [← hb1,← hb2]
    by_cases q1:pu < 1<;>by_cases q2:pu > 4<;>simp [q1,q2]
   rw [hif]
   (have zx:=za n0 (za hb1 hb2));refine zgo ?_;repeat' first|exact zt|apply zan|intro hc
   all_goals (refine Ql _ rfl ?_;simp only [go_sem];simp_all;done)
  ·rw [if_pos h1]
   rw [zp h1] at p2
   (have zx:=n0);exact zg
 ·rw [if_pos h0]
  have n0:(J9 rs ks != 0) = true:=by simpa using h0
  generalize J9 rs ks = cv at *
  (have zx:=n0);exact zg
def WQ:=qd Proofs.Tryz.f43 []
def Uo (Γ:Env) (f:Nat):Prop:=∀ (rs:List Qj) (ks:List QS) (a b pu day:Int) (hr:rs.length < 2 ^ 40),EvN Γ f [ajb rs ks,.agg [V.int a,V.int b],V.int pu,V.int day] (V.bool (qK rs a b pu day))
theorem aaZ {Γ:Env} {f:Nat} (h:Has Γ.P f 25 WQ.1.1.ac WQ.1.2) (z0:X9 Γ 44):Uo Γ f:=by
 intro rs ks a b pu day hr
 refine Qb h zsi zcl zcl fun C hC hm=>?_
 subst hC
 simp only [WQ,qd,DC.ac]
 have p1:=(z0 rs ks a b pu day hr).b
 rw [qK]
 rcases aeV (anB a b pu day) rs rs.length with hd|⟨i,r,hi,hd,hget⟩
 ·rw [aiK] at p1 ⊢
  rw [hd] at p1 ⊢
  have e1:decide ((-1:Int) < 0) = true:=by decide
  (have zx:=e1);refine zgo ?_;repeat' first|exact zt|apply zan|intro hc
  all_goals first|exact zr|(refine Ql _ rfl ?_;simp only [go_sem];rfl)
 ·rw [aiK] at p1 ⊢
  rw [hd] at p1 ⊢
  have e1:decide ((i:Int) < 0) = false:=by simp
  have vr:(rs.map Qj.v)[i]? = some r.v:=by rw [zi,hget];rfl
  have hlr:(rs.map Qj.v).length = rs.length:=zb _
  simp only [Qj.v,Qj.cells] at vr
  rw [Int.toNat_natCast,hget]
  (have zx:=za e1 (za vr hlr));refine zgo ?_;repeat' first|exact zt|apply zan|intro hc
  all_goals first|exact zr|(refine Ql _ rfl ?_;simp only [go_sem];rfl)
theorem ago {rs:List Qj} {ks:List QS} {a b pu day:Int}:XP rs ks a b pu day = if aeX rs ks a b pu≠0 then aeX rs ks a b pu else if day < 0∨day > 40000 then 2 else 0:=by
 unfold XP aeX
 by_cases h0:J9 rs ks = 0
 ·by_cases h1:QE a b > 0
  ·simp only [h0,h1,ne_eq,not_true_eq_false,if_false]
   by_cases h2:pu < 1∨pu > 4
   ·rw [if_pos (by omega),if_pos h2];rfl
   ·rw [if_neg h2]
    simp only [ne_eq,not_true_eq_false,if_false]
    by_cases h3:day < 0∨day > 40000
    ·rw [if_pos (by omega),if_pos h3]
    ·rw [if_neg (by omega),if_neg h3]
  ·simp [h0,h1]
 ·simp [h0]
def WR:=qd Proofs.Tryz.f22 [zhn 13]
def Up (Γ:Env) (f:Nat):Prop:=∀ (rs:List Qj) (ks:List QS) (a b pu day:Int) (hr:rs.length < 2 ^ 40) (hk:ks.length < 2 ^ 40),EvN Γ f [ajb rs ks,.agg [V.int a,V.int b],V.int pu,V.int day] ((if XP rs ks a b pu day≠0 then .tup [V.bool false,V.int 0,V.int (XP rs ks a b pu day)] else .tup [V.bool (qK rs a b pu day),V.int (aiK rs a b pu day),V.int 0]))
theorem aa0 {Γ:Env} {f:Nat} (h:Has Γ.P f 35 WR.1.1.ac WR.1.2) (z0:qj Γ 42) (z1:Uo Γ 43) (z2:X9 Γ 44):Up Γ f:=by
 intro rs ks a b pu day hr hk
 refine Qb h zsi (by split<;>simp only [V.closed,Qc,V.noSl,UB,and_self]) (by split<;>simp only [V.closed,Qc,V.noSl,UB,and_self]) fun C hC hm=>?_
 subst hC
 simp only [WR,qd,DC.ac]
 have p1:=(z0 rs ks a b pu hr hk).b
 have p2:=(z1 rs ks a b pu day hr).b
 have p3:=(z2 rs ks a b pu day hr).b
 by_cases h0:aeX rs ks a b pu = 0
 ·rw [h0] at p1
  have n0:((0:Int) != 0) = false:=by decide
  have hE0:XP rs ks a b pu day = if day < 0∨day > 40000 then 2 else 0:=by rw [ago,if_neg (fun h=>h h0)]
  generalize qK rs a b pu day = r1 at *
  generalize aiK rs a b pu day = r2 at *
  generalize XP rs ks a b pu day = er at *
  by_cases d1:day < 0
  ·have e1:decide (day < 0) = true:=zo d1
   rw [if_pos (.inl d1)] at hE0
   subst hE0
   rw [if_pos (by decide)]
   (have zx:=za n0 e1);refine zgo ?_;repeat' first|exact zt|apply zan|intro hc
   all_goals exact zr
  have e1:decide (day < 0) = false:=zp d1
  by_cases d2:day > 40000
  ·have e2:decide (day > 40000) = true:=zo d2
   rw [if_pos (.inr d2)] at hE0
   subst hE0
   rw [if_pos (by decide)]
   (have zx:=za n0 (za e1 e2));refine zgo ?_;repeat' first|exact zt|apply zan|intro hc
   all_goals exact zr
  have e2:decide (day > 40000) = false:=zp d2
  rw [if_neg (by omega)] at hE0
  subst hE0
  rw [if_neg (by decide)]
  (have zx:=za n0 (za e1 e2));refine zgo ?_;repeat' first|exact zt|apply zan|intro hc
  all_goals exact zr
 ·have hE0:XP rs ks a b pu day = aeX rs ks a b pu:=by rw [ago,if_pos h0]
  rw [hE0,if_pos h0]
  have n0:(aeX rs ks a b pu != 0) = true:=by simpa using h0
  generalize aeX rs ks a b pu = er at *
  (have zx:=n0);refine zgo ?_;repeat' first|exact zt|apply zan|intro hc
  all_goals exact zr
def aps (c:Int):Int×Int:=if c = 0 then (1,0) else if c = 1 then (2,0) else if c = 2 then (5,1024) else (14,128)
theorem al9 {c:Int} (h:0≤c∧c < 4):([.agg [V.int 1,V.int 0],.agg [V.int 2,V.int 0],.agg [V.int 5,V.int 1024],.agg [V.int 14,V.int 128]]:List V)[c.toNat]? = some (.agg [V.int (aps c).1,V.int (aps c).2]):=by
 obtain rfl|rfl|rfl|rfl:c = 0∨c = 1∨c = 2∨c = 3:=by omega
 all_goals rfl
def als (l:List Int) (f:Qa) (k:Nat):Qa×Nat :=
 if f.kind = 1∨f.kind = 8 then ({ f with alg:=(aps (Qk l k 4).1).1,bits:=(aps (Qk l k 4).1).2 },(Qk l k 4).2)
 else if f.kind = 2 then ({ f with num:=1 + (Qk l k 5).1 },(Qk l k 5).2)
 else if f.kind = 3 then ({ f with alg:=5,bits:=(ofD l k [1024,2048]).1,num:=100 + (Qk l (ofD l k [1024,2048]).2 3).1 },(Qk l (ofD l k [1024,2048]).2 3).2)
 else if f.kind = 4∨f.kind = 5 then ({ f with num:=1 + (Qk l k 4).1 },(Qk l k 4).2)
 else if f.kind = 6 then ({ f with num:=(Qk l k 3).1 },(Qk l k 3).2)
 else ({ f with text:=(jC l k [[97],[98]]).1 },(jC l k [[97],[98]]).2)
def Js (l:List Int) (k:Nat):Qa×Nat :=
 let n1:=Qk l k 7
 let w1:=jC l n1.2 [[97],[98],[99]]
 let o1:=ofD l w1.2 [0,1,2,0,3]
 let n2:=Qk l o1.2 12
 let o2:=ofD l n2.2 [90,50,100,1]
 let n3:=Qk l o2.2 8
 let w2:=jC l n3.2 [[115],[116]]
 (⟨1 + n1.1,w1.1,o1.1,n2.1,o2.1,1 + n3.1,w2.1,0,0,0,[]⟩,w2.2)
def yX (l:List Int) (k:Nat):Qa×Nat:=als l (Js l k).1 (Js l k).2
def V3:=qd Proofs.Tryz.f26 []
def Kz (Γ:Env) (f:Nat):Prop:=∀ (l:List Int) (k:Nat) (hl:l.length≤400) (hk:k≤l.length),EvD Γ f [] (QH l k) ((yX l k).1.v) (QH l (yX l k).2)
attribute [local go_sem] QH in
theorem acn {Γ:Env} {f:Nat} (h:Has Γ.P f 76 V3.1.1.ac V3.1.2) (z0:Q3 Γ 10) (z1:Vh Γ 13) (z2:Wb Γ 11):Kz Γ f:=by
 intro l k hl hk
 refine Wk h zsi (by first|exact Xd _ _|simp only [Qa.v,Qa.cells,V.closed,Qc,and_self,and_true]) zc3 zc3 fun C hC hm=>?_
 subst hC
 simp only [V3,qd,DC.ac]
 have n1:=z0 l k 7 hl hk
 have r1:=Qo (l:=l) (k:=k) (n:=7) (by omega) (by omega)
 have k1:=QG (n:=7) hk
 simp only [yX,Js]
 generalize Qk l k 7 = x1 at *
 obtain ⟨a1,q1⟩:=x1
 simp only at n1 r1 k1 ⊢
 have n2:=z1 l q1 [[97],[98],[99]] hl k1 (by decide) (by decide)
 have k2:=xC (xs:=[[97],[98],[99]]) k1
 generalize jC l q1 [[97],[98],[99]] = x2 at *
 obtain ⟨a2,q2⟩:=x2
 simp only at n2 k2 ⊢
 have n3:=z2 l q2 [0,1,2,0,3] hl k2 (by decide) (by decide)
 have k3:=ju (xs:=[0,1,2,0,3]) k2
 generalize ofD l q2 [0,1,2,0,3] = x3 at *
 obtain ⟨a3,q3⟩:=x3
 simp only at n3 k3 ⊢
 have n4:=z0 l q3 12 hl k3
 have k4:=QG (n:=12) k3
 generalize Qk l q3 12 = x4 at *
 obtain ⟨a4,q4⟩:=x4
 simp only at n4 k4 ⊢
 have n5:=z2 l q4 [90,50,100,1] hl k4 (by decide) (by decide)
 have k5:=ju (xs:=[90,50,100,1]) k4
 generalize ofD l q4 [90,50,100,1] = x5 at *
 obtain ⟨a5,q5⟩:=x5
 simp only at n5 k5 ⊢
 have n6:=z0 l q5 8 hl k5
 have r6:=Qo (l:=l) (k:=q5) (n:=8) (by omega) (by omega)
 have k6:=QG (n:=8) k5
 generalize Qk l q5 8 = x6 at *
 obtain ⟨a6,q6⟩:=x6
 simp only at n6 r6 k6 ⊢
 have n7:=z1 l q6 [[115],[116]] hl k6 (by decide) (by decide)
 have k7:=xC (xs:=[[115],[116]]) k6
 generalize jC l q6 [[115],[116]] = x7 at *
 obtain ⟨a7,q7⟩:=x7
 simp only at n7 k7 ⊢
 have e1:IntKind.i64.wrap (1 + a1) = 1 + a1:=QP (by omega) (by omega)
 have m4:=z0 l q7 4 hl k7
 have s4:=Qo (l:=l) (k:=q7) (n:=4) (by omega) (by omega)
 have g4:=al9 s4
 have e4:IntKind.i64.wrap (1 + (Qk l q7 4).1) = 1 + (Qk l q7 4).1:=QP (by omega) (by omega)
 have m5:=z0 l q7 5 hl k7
 have s5:=Qo (l:=l) (k:=q7) (n:=5) (by omega) (by omega)
 have e5:IntKind.i64.wrap (1 + (Qk l q7 5).1) = 1 + (Qk l q7 5).1:=QP (by omega) (by omega)
 have mo:=z2 l q7 [1024,2048] hl k7 (by decide) (by decide)
 have ko:=ju (xs:=[1024,2048]) k7
 have mp:=z0 l (ofD l q7 [1024,2048]).2 3 hl ko
 have sp:=Qo (l:=l) (k:=(ofD l q7 [1024,2048]).2) (n:=3) (by omega) (by omega)
 have ep:IntKind.i64.wrap (100 + (Qk l (ofD l q7 [1024,2048]).2 3).1) = 100 + (Qk l (ofD l q7 [1024,2048]).2 3).1:=QP (by omega) (by omega)
 have m3:=z0 l q7 3 hl k7
 have mw:=z1 l q7 [[97],[98]] hl k7 (by decide) (by decide)
 have w1:IntKind.i64.wrap 1 = 1:=by decide
 have w2:IntKind.i64.wrap 2 = 2:=by decide
 have w3:IntKind.i64.wrap 3 = 3:=by decide
 have w4:IntKind.i64.wrap 4 = 4:=by decide
 have w5:IntKind.i64.wrap 5 = 5:=by decide
 have w6:IntKind.i64.wrap 6 = 6:=by decide
 have w7:IntKind.i64.wrap 7 = 7:=by decide
 have w8:IntKind.i64.wrap 8 = 8:=by decide
 simp only [QH,zN,zL] at n1 n2 n3 n4 n5 n6 n7 m4 m5 mo mp m3 mw
 obtain rfl|rfl|rfl|rfl|rfl|rfl|rfl|rfl:a6 = 0∨a6 = 1∨a6 = 2∨a6 = 3∨a6 = 4∨a6 = 5∨a6 = 6∨a6 = 7:=by omega
 all_goals
  simp only [als,Int.reduceAdd,Int.reduceEq,or_true,true_or,or_self,if_true,if_false,Qa.v,Qa.cells]
  (have zx:=za e1 (za e4 (za e5 (za ep (za g4 (za w1 (za w2 (za w3 (za w4 (za w5 (za w6 (za w7 w8))))))))))));refine zgo ?_;repeat' first|exact zt|apply zan|intro hc
 all_goals (refine aaB _ rfl rfl zcd ?_;simp only [go_sem];done)
theorem ak4 (a b:List UInt8):(!(Op.bytesLess a b || a == b)) = Op.bytesLess b a:=by
 rcases h1:Op.bytesLess a b with _|_
 ·rcases h2:Op.bytesLess b a with _|_
  ·have:=qB a b h1 h2
   subst this;simp
  ·have:a≠b:=fun h=>by subst h;rw [h1] at h2;cases h2
   simp [this]
 ·rcases h2:Op.bytesLess b a with _|_
  ·simp
  ·have:=VD a b a h1 h2
   rw [qC] at this;cases this
theorem ajA (x:Int):Q0 [x] = x:=by
 simp only [Q0];split<;>omega
def UR:=qd Proofs.Tryz.f100 []
def qr (Γ:Env) (f:Nat):Prop:=∀ (a b:List UInt8),EvN Γ f [V.str a,V.str b] (V.int (qP a b))
theorem adj {Γ:Env} {f:Nat} (h:Has Γ.P f 11 UR.1.1.ac UR.1.2) :qr Γ f:=by
 intro a b
 refine Qb h zsi zcl zcl fun C hC hm=>?_
 subst hC
 simp only [UR,qd,DC.ac]
 have hg:=ak4 a b
 unfold qP
 rcases h1:Op.bytesLess a b with _|_
 ·rw [h1] at hg
  by_cases he:a = b
  ·subst he
   rw [h1]
   (have zx:=h1);exact zg
  ·have h2:(a == b) = false:=by simpa using he
   rw [h2] at hg
   rw [← hg]
   (have zx:=za h1 h2);exact zg
 ·(have zx:=h1);exact zg
def KX:=qd Proofs.Tryz.f101 [zhn 9,zhn 9]
def jl (Γ:Env) (f:Nat):Prop:=∀ (a b:List Int) (hab:a.length = b.length) (hl:a.length < 2 ^ 40),EvN Γ f [.sl 1 (a.map V.int),.sl 1 (b.map V.int)] (V.int (Q0 (List.zipWith YA a b)))
theorem aeJ {Γ:Env} {f:Nat} (h:Has Γ.P f 30 KX.1.1.ac KX.1.2) :jl Γ f:=by
 intro a b hab hl
 refine Qb h zsi zcl zcl fun C hC hm=>?_
 subst hC
 simp only [KX,qd,DC.ac]
 refine zgo ?_;repeat' first|exact zt|apply zan|intro hc
 refine Qz (ι:=Nat) (fun k=>k≤a.length∧Q0 (List.zipWith YA (a.drop k) (b.drop k)) = Q0 (List.zipWith YA a b)) (fun k=>[(5,V.int k)]) (fun k=>a.length - k) 0 (by omega) ⟨by simp,by simp⟩ zol zlt zet fun k hk K' hL=>?_
 obtain ⟨hk,hinv⟩:=hk
 simp only [ovT,JE,Nat.reduceEqDiff,reduceIte]
 have hal:(a.map V.int).length = a.length:=zb _
 rcases hd:a.drop k with _|⟨y,r⟩
 ·have hkl:=Qt hd
  rw [hd] at hinv
  have e1:decide ((k:Int) < (a.length:Int)) = false:=by simp;omega
  rw [← hinv]
  (have zx:=za e1 hal);refine zgo ?_;repeat' first|exact zt|apply zan|intro hc
  all_goals first|exact zr|(refine Ql _ rfl ?_;simp only [go_sem];rfl)
 ·obtain ⟨hk,hget,hr⟩:=Qm hd
  obtain ⟨z,hz⟩:∃ z,b[k]? = some z:=⟨_,zd (by omega)⟩
  have hdb:b.drop k = z :: b.drop (k + 1):=by
   obtain ⟨h1,h2⟩:=zn.1 hz
   rw [kH h1,h2]
  rw [hd,hdb,List.zipWith_cons_cons,Q0,← hr] at hinv
  have hw:=Qg (k:=k) (by omega)
  have e1:decide ((k:Int) < (a.length:Int)) = true:=by simp;omega
  have va:(a.map V.int)[k]? = some (V.int y):=by rw [zi,hget];rfl
  have vb:(b.map V.int)[k]? = some (V.int z):=by rw [zi,hz];rfl
  rcases h1:decide (y < z) with _|_
  ·rcases h2:decide (y > z) with _|_
   ·have hyz:YA y z = 0:=by simp at h1 h2;unfold YA;rw [if_neg (by omega),if_neg (by omega)]
    rw [hyz,if_neg (by decide)] at hinv
    (have zx:=za e1 (za hal (za va (za vb (za h1 (za h2 hw))))));refine zgo ?_;repeat' first|exact zt|apply zan|intro hc
    all_goals exact hL _ (k + 1) zet ⟨by omega,hinv⟩ (by omega) zoe
   ·have hyz:YA y z = 1:=by simp at h1 h2;unfold YA;rw [if_neg (by omega),if_pos (by omega)]
    rw [hyz,if_pos (by decide)] at hinv
    rw [← hinv]
    (have zx:=za e1 (za hal (za va (za vb (za h1 (za h2 hw))))));exact zg
  ·have hyz:YA y z = -1:=by simp at h1;unfold YA;rw [if_pos (by omega)]
   rw [hyz,if_pos (by decide)] at hinv
   rw [← hinv]
   (have zx:=za e1 (za hal (za va (za vb (za h1 hw)))));exact zg
theorem aml (a b:Qa):aaS a b = Q0 [qP a.host b.host,Q0 [YA a.mach b.mach,YA a.day b.day],qP a.subj b.subj,Q0 [YA a.kind b.kind,YA a.alg b.alg,YA a.bits b.bits,YA a.num b.num],qP a.text b.text,Q0 [YA a.src b.src,YA a.conf b.conf]]:=by
 simp only [aaS,aow,Q0]
 repeat' split
 all_goals first|rfl|omega|simp_all
def US:=qd Proofs.Tryz.f78 []
def V7 (Γ:Env) (f:Nat):Prop:=∀ (a b:Qa),EvN Γ f [a.v,b.v] (V.int (aaS a b))
theorem adk {Γ:Env} {f:Nat} (h:Has Γ.P f 85 US.1.1.ac US.1.2) (z0:qr Γ 100) (z1:jl Γ 101):V7 Γ f:=by
 intro a b
 refine Qb h zsi zcl zcl fun C hC hm=>?_
 subst hC
 simp only [US,qd,DC.ac]
 have p1:=(z0 a.host b.host).b
 have p2:=(z1 [a.mach,a.day] [b.mach,b.day] rfl (by simp)).b
 have p3:=(z0 a.subj b.subj).b
 have p4:=(z1 [a.kind,a.alg,a.bits,a.num] [b.kind,b.alg,b.bits,b.num] rfl (by simp)).b
 have p5:=(z0 a.text b.text).b
 have p6:=(z1 [a.src,a.conf] [b.src,b.conf] rfl (by simp)).b
 simp only [zN,zL,List.zipWith_cons_cons,List.zipWith_nil_left] at p2 p4 p6
 rw [aml]
 generalize qP a.host b.host = o1 at *
 generalize Q0 [YA a.mach b.mach,YA a.day b.day] = o2 at *
 generalize qP a.subj b.subj = o3 at *
 generalize Q0 [YA a.kind b.kind,YA a.alg b.alg,YA a.bits b.bits,YA a.num b.num] = o4 at *
 generalize qP a.text b.text = o5 at *
 generalize Q0 [YA a.src b.src,YA a.conf b.conf] = o6 at *
 simp only [Qa.v,Qa.cells]
 have F:∀ (x:Int) (r:List Int),x≠0→Q0 (x :: r) = x:=fun x r h=>by rw [Q0,if_pos h]
 have N:∀ (x:Int) (r:List Int),x = 0→Q0 (x :: r) = Q0 r:=fun x r h=>by rw [Q0,if_neg (by simpa using h)]
 by_cases h1:o1 = 0
 rotate_left
 ·have c1:(o1 != 0) = true:=by simpa using h1
  rw [F _ _ h1]
  (have zx:=c1);exact zg
 have c1:(o1 != 0) = false:=by simpa using h1
 rw [N _ _ h1]
 by_cases h2:o2 = 0
 rotate_left
 ·have c2:(o2 != 0) = true:=by simpa using h2
  rw [F _ _ h2]
  (have zx:=za c1 c2);exact zg
 have c2:(o2 != 0) = false:=by simpa using h2
 rw [N _ _ h2]
 by_cases h3:o3 = 0
 rotate_left
 ·have c3:(o3 != 0) = true:=by simpa using h3
  rw [F _ _ h3]
  (have zx:=za c1 (za c2 c3));exact zg
 have c3:(o3 != 0) = false:=by simpa using h3
 rw [N _ _ h3]
 by_cases h4:o4 = 0
 rotate_left
 ·have c4:(o4 != 0) = true:=by simpa using h4
  rw [F _ _ h4]
  (have zx:=za c1 (za c2 (za c3 c4)));exact zg
 have c4:(o4 != 0) = false:=by simpa using h4
 rw [N _ _ h4]
 by_cases h5:o5 = 0
 rotate_left
 ·have c5:(o5 != 0) = true:=by simpa using h5
  rw [F _ _ h5]
  (have zx:=za c1 (za c2 (za c3 (za c4 c5))));exact zg
 have c5:(o5 != 0) = false:=by simpa using h5
 rw [N _ _ h5,ajA]
 (have zx:=za c1 (za c2 (za c3 (za c4 c5))));exact zg
def UT:=qd Proofs.Tryz.f55 [zhn 13]
def V8 (Γ:Env) (f:Nat):Prop:=∀ (f0:Qa) (hz:f0.Sz) (hc0:JD f0 = true),EvN Γ f [f0.v] (V.int 0)
theorem adl {Γ:Env} {f:Nat} (h:Has Γ.P f 161 UT.1.1.ac UT.1.2) (z0:jm Γ 81) (z4:X0 Γ 76) (z5:Vg Γ 82):V8 Γ f:=by
 intro f0 hz hc0
 refine Qb h zsi zcl zcl fun C hC hm=>?_
 subst hC
 simp only [UT,qd,DC.ac]
 obtain ⟨src,host,mach,day,conf,kind,subj,alg,bits,num,text⟩:=f0
 obtain ⟨z1,z2,z3⟩:=hz
 have p1:=(z0 host z1).b
 have p2:=(z0 subj z2).b
 have p3:=(z0 text z3).b
 have p4:=(z4 alg bits).b
 have p5:=(z5 alg bits).b
 simp only [JD,zw,Zx,zy,zA] at hc0
 obtain ⟨⟨⟨⟨⟨⟨⟨n1,n2⟩,m1⟩,m2⟩,⟨⟨⟨m3,m4⟩,m5⟩,m6⟩⟩,m7⟩,m8⟩,hcont⟩:=hc0
 rw [n1] at p1
 rw [n2] at p2
 have d1:decide (src < 1) = false:=zp (by omega)
 have d2:decide (src > 7) = false:=zp (by omega)
 have d3:decide (mach < 0) = false:=zp (by omega)
 have d4:decide (mach > 1099511627776) = false:=zp (by omega)
 have d5:decide (day < 0) = false:=zp (by omega)
 have d6:decide (day > 40000) = false:=zp (by omega)
 have d7:decide (conf < 1) = false:=zp (by omega)
 have d8:decide (conf > 100) = false:=zp (by omega)
 simp only [Qa.v,Qa.cells]
 have n0:((0:Int) == 0) = true:=by decide
 have E:∀ n:Int,kind≠n→(kind == n) = false:=fun n h=>by simpa using h
 rw [UH] at hcont
 dsimp only at hcont
 simp only [ahe] at hcont
 by_cases k1:kind = 1
 ·subst k1
  simp only [true_or,if_true,zw,kF] at hcont
  obtain ⟨⟨q1,rfl⟩,rfl⟩:=hcont
  rw [q1] at p4
  (have zx:=za d1 (za d2 (za d3 (za d4 (za d5 (za d6 (za d7 (za d8 n0))))))));exact zg
 by_cases k8:kind = 8
 ·subst k8
  simp only [or_true,if_true,zw,kF] at hcont
  obtain ⟨⟨q1,rfl⟩,rfl⟩:=hcont
  rw [q1] at p4
  (have zx:=za d1 (za d2 (za d3 (za d4 (za d5 (za d6 (za d7 (za d8 n0))))))));exact zg
 rw [if_neg (by simp [k1,k8])] at hcont
 by_cases k2:kind = 2
 ·subst k2
  simp only [if_true,zw,kF,zy] at hcont
  obtain ⟨⟨⟨⟨rfl,rfl⟩,rfl⟩,q1⟩,q2⟩:=hcont
  have g1:decide (num≥0) = true:=zo q1
  have g2:decide (num≤65535) = true:=zo q2
  (have zx:=za d1 (za d2 (za d3 (za d4 (za d5 (za d6 (za d7 (za d8 (za n0 (za g1 g2))))))))));exact zg
 rw [if_neg k2] at hcont
 by_cases k3:kind = 3
 ·subst k3
  simp only [if_true,zw,kF,zy] at hcont
  obtain ⟨⟨⟨⟨q0,q3⟩,q1⟩,q2⟩,rfl⟩:=hcont
  have hu:aoc alg bits 2 = true:=by rw [aoc,q3,zo q0];rfl
  rw [hu] at p5
  have g1:decide (num≥0) = true:=zo q1
  have g2:decide (num≤2147483648) = true:=zo q2
  (have zx:=za d1 (za d2 (za d3 (za d4 (za d5 (za d6 (za d7 (za d8 (za n0 (za g1 g2))))))))));exact zg
 rw [if_neg k3] at hcont
 by_cases k4:kind = 4
 ·subst k4
  simp only [true_or,if_true,zw,kF,zy] at hcont
  obtain ⟨⟨⟨⟨rfl,rfl⟩,rfl⟩,q1⟩,q2⟩:=hcont
  have g1:decide (num≥1) = true:=zo q1
  have g2:decide (num≤4) = true:=zo q2
  (have zx:=za d1 (za d2 (za d3 (za d4 (za d5 (za d6 (za d7 (za d8 (za n0 (za g1 g2))))))))));exact zg
 by_cases k5:kind = 5
 ·subst k5
  simp only [or_true,if_true,zw,kF,zy] at hcont
  obtain ⟨⟨⟨⟨rfl,rfl⟩,rfl⟩,q1⟩,q2⟩:=hcont
  have g1:decide (num≥1) = true:=zo q1
  have g2:decide (num≤4) = true:=zo q2
  (have zx:=za d1 (za d2 (za d3 (za d4 (za d5 (za d6 (za d7 (za d8 (za n0 (za g1 g2))))))))));exact zg
 rw [if_neg (by simp [k4,k5])] at hcont
 by_cases k6:kind = 6
 ·subst k6
  simp only [if_true,zw,kF,zy] at hcont
  obtain ⟨⟨⟨⟨rfl,rfl⟩,rfl⟩,q1⟩,q2⟩:=hcont
  have g1:decide (num≥0) = true:=zo q1
  have g2:decide (num≤2147483648) = true:=zo q2
  (have zx:=za d1 (za d2 (za d3 (za d4 (za d5 (za d6 (za d7 (za d8 (za n0 (za g1 g2))))))))));exact zg
 rw [if_neg k6] at hcont
 by_cases k7:kind = 7
 ·subst k7
  simp only [if_true,zw,kF,zy] at hcont
  obtain ⟨⟨⟨rfl,rfl⟩,rfl⟩,q1⟩:=hcont
  rw [q1] at p3
  (have zx:=za d1 (za d2 (za d3 (za d4 (za d5 (za d6 (za d7 (za d8 n0))))))));exact zg
 rw [if_neg k7] at hcont
 cases hcont
def afk (l:List Qa) (x:Qa):Nat→Nat
 | 0=>0
 | k + 1=>match l[k]? with
   | some y=>if aaS y x > 0 then afk l x k else k + 1
   | none=>k + 1
theorem ag9 (l:List Qa) (x:Qa):∀ k,afk l x k≤k
 | 0=>zh _
 | k + 1=>by
   rw [afk]
   split
   ·split
    ·exact Zj (ag9 l x k)
    ·exact zh _
   ·exact zh _
def al3 (l:List Qa) (x:Qa):Bool:=match afk l x l.length with
 | 0=>false
 | k + 1=>match l[k]? with
   | some y=>aaS y x == 0
   | none=>false
def ab3 (l:List Qa) (x:Qa):List Qa:=l.take (afk l x l.length)++x :: l.drop (afk l x l.length)
theorem am4 (l:List Qa) (n:Nat):ltO (n + 1) fun k=>[Ob.buf true 11 (l.map Qa.v)][k]?:=fun a x h=>by
 match a,h with
 | 0,h=>cases h;exact ⟨Nat.succ_pos _,trivial⟩
 | a + 1,h=>simp at h
theorem akw (l:List Qa) (x:Qa) (k:Nat):(l.take k).map Qa.v++[x.v]++(l.drop k).map Qa.v = (l.take k++x :: l.drop k).map Qa.v:=by simp
def Kn:=qd Proofs.Tryz.f56 [zhn 13,zhn 12,zhn 12]
def yk (Γ:Env) (f:Nat):Prop:=((∀ (l:List Qa) (x:Qa),l.length < 2 ^ 30→al3 l x = true→EvX Γ f [x.v] 11 (l.map Qa.v))∧(∀ (l:List Qa) (x:Qa),l.length < 2 ^ 30→al3 l x = false→EvW Γ f [.sl 11 (l.map Qa.v),x.v] 11 ((ab3 l x).map Qa.v)))
theorem agc {Γ:Env} {f:Nat} (h:Has Γ.P f 47 Kn.1.1.ac Kn.1.2) (z0:V7 Γ 78):yk Γ f:=by
 refine ⟨fun l x hl hdp=>?_,fun l x hl hdp=>?_⟩
 ·refine Kh h (by simp) fun C hC hm=>?_
  subst hC
  simp only [Kn,qd,DC.ac]
  have hal:(l.map Qa.v).length = l.length:=zb _
  have ht:List.take (l.map Qa.v).length (l.map Qa.v) = l.map Qa.v:=zQ
  simp only [Qa.v,Qa.cells]
  repeat' (first|(refine zsk ?_;intro K' hK)|(refine zrg ?_;intro K' hK)|refine zsp ?_|(refine zsc ?_ ?_<;>intro hc<;>first|exact znh|try simp only [znz] at hc)|simp (maxSteps:=1000000) only [go_sem,hal]|(refine hK _ ?_;clear hK K')|apply zan|((first|apply Qr|apply Qy);(focus first|exact (z0 _ _).b))|exact zsq|fail)
  refine Qz (ι:=Nat) (fun k=>k≤l.length∧afk l x k = afk l x l.length) (fun k=>[(5,V.int k)]) (fun k=>k) l.length (by omega) ⟨zh _,rfl⟩ (by refine abV (by decide) ?_ (abV (by decide) ?_ (am4 l 5000))<;>simp [Ob.lt,ltL,V.lt,V.str,V.int]) zlt zet fun k hk K' hL=>?_
  obtain ⟨hk,hinv⟩:=hk
  simp only [ovT,JE,Nat.reduceEqDiff,reduceIte]
  rcases k with _|k
  ·have e1:decide (((0:Nat):Int) > 0) = false:=by decide
   rw [afk] at hinv
   rw [al3,← hinv] at hdp
   cases hdp
  ·have e1:decide (((k + 1:Nat):Int) > 0) = true:=zo (by omega)
   obtain ⟨y,hy⟩:∃ y,l[k]? = some y:=⟨_,zd (by omega)⟩
   have vy:(l.map Qa.v)[k]? = some y.v:=by rw [zi,hy];rfl
   have po:=(z0 y x).b
   have hwk:IntKind.i64.wrap (((k + 1:Nat):Int) - 1) = (k:Int):=by rw [QP (by omega) (by omega)];omega
   simp only [Qa.v,Qa.cells] at vy po
   rw [afk,hy] at hinv
   dsimp only at hinv
   rcases h1:decide (aaS y x > 0) with _|_
   ·rw [if_neg (by simp at h1;omega)] at hinv
    rw [al3,← hinv] at hdp
    dsimp only at hdp
    rw [hy] at hdp
    dsimp only at hdp
    repeat' (first|(refine zsk ?_;intro K' hK)|(refine zrg ?_;intro K' hK)|refine zsp ?_|(refine zsc ?_ ?_<;>intro hc<;>first|exact znh|try simp only [znz] at hc)|simp (maxSteps:=1000000) only [go_sem,e1,hal,hwk,vy,h1,hdp,ht,Int.toNat_natCast]|(refine hK _ ?_;clear hK K')|apply zan|((first|apply Qr|apply Qy);(focus first|exact po|exact (z0 _ _).b))|exact zsq|fail)
    all_goals first|(rw [← hal];refine agl _ rfl rfl rfl ?_;first|rfl|(simp;done))
   ·rw [if_pos (by simpa using h1)] at hinv
    repeat' (first|(refine zsk ?_;intro K' hK)|(refine zrg ?_;intro K' hK)|refine zsp ?_|(refine zsc ?_ ?_<;>intro hc<;>first|exact znh|try simp only [znz] at hc)|simp (maxSteps:=1000000) only [go_sem,e1,hal,hwk,vy,h1,Int.toNat_natCast]|(refine hK _ ?_;clear hK K')|apply zan|((first|apply Qr|apply Qy);(focus first|exact po|exact (z0 _ _).b))|exact zsq|fail)
    all_goals exact hL _ k zet ⟨by omega,hinv⟩ (by omega) zoe
 ·refine Xc h (by simp) (by intro z hx;obtain ⟨y,_,rfl⟩:=zD.1 hx;simp only [Qa.v,Qa.cells,V.noSl,UB,and_self]) fun C hC hm=>?_
  subst hC
  simp only [Kn,qd,DC.ac]
  have hal:(l.map Qa.v).length = l.length:=zb _
  have ht:List.take (l.map Qa.v).length (l.map Qa.v) = l.map Qa.v:=zQ
  simp only [Qa.v,Qa.cells]
  repeat' (first|(refine zsk ?_;intro K' hK)|(refine zrg ?_;intro K' hK)|refine zsp ?_|(refine zsc ?_ ?_<;>intro hc<;>first|exact znh|try simp only [znz] at hc)|simp (maxSteps:=1000000) only [go_sem,hal]|(refine hK _ ?_;clear hK K')|apply zan|((first|apply Qr|apply Qy);(focus first|exact (z0 _ _).b))|exact zsq|fail)
  refine Qz (ι:=Nat) (fun k=>k≤l.length∧afk l x k = afk l x l.length) (fun k=>[(5,V.int k)]) (fun k=>k) l.length (by omega) ⟨zh _,rfl⟩ zol zlt zet fun k hk K' hL=>?_
  obtain ⟨hk,hinv⟩:=hk
  simp only [ovT,JE,Nat.reduceEqDiff,reduceIte]
  rcases k with _|k
  ·have e1:decide (((0:Nat):Int) > 0) = false:=by decide
   rw [afk] at hinv
   rw [al3,← hinv] at hdp
   have hj0:List.take 0 (l.map Qa.v) = []:=rfl
   repeat' (first|(refine zsk ?_;intro K' hK)|(refine zrg ?_;intro K' hK)|refine zsp ?_|(refine zsc ?_ ?_<;>intro hc<;>first|exact znh|try simp only [znz] at hc)|simp (maxSteps:=1000000) only [go_sem,e1,hal,Int.toNat_natCast]|(refine hK _ ?_;clear hK K')|apply zan|((first|apply Qr|apply Qy);(focus first|exact (z0 _ _).b))|exact zsq|fail)
   all_goals first|(intro z hz;obtain ⟨w,_,rfl⟩:=zD.1 (zF hz);rfl)|(intro z hz;obtain ⟨w,_,rfl⟩:=zD.1 (zJ hz);rfl)|(intro z hz;obtain ⟨w,_,rfl⟩:=zD.1 (zJ (zF hz));rfl)|(intro z hz;obtain ⟨w,_,rfl⟩:=zD.1 (zF (zJ hz));rfl)|(simp only [zv,zT,kq,zb,List.length_cons,List.length_nil];omega)|(refine qH (xs:=(ab3 l x).map Qa.v) _ _ rfl ?_ ?_<;>first|(rw [ab3,← hinv];simp [wX,Qa.v,Qa.cells,kp,ku];done)|(rw [ab3,← hinv];simp [Qa.v,Qa.cells];omega)|(rw [ab3,← hinv,← akw];simp only [upd_self,Nat.sub_zero,List.take_zero,List.nil_append,kK,zL,kp,ku];rw [zl (by simp)];simp [upd,Qa.v,Qa.cells,kp,ku];done)|(rw [ab3,← hinv];simp [upd,Qa.v,Qa.cells,kp,ku,zl,wX];done)|trace_state)
  ·have e1:decide (((k + 1:Nat):Int) > 0) = true:=zo (by omega)
   obtain ⟨y,hy⟩:∃ y,l[k]? = some y:=⟨_,zd (by omega)⟩
   have vy:(l.map Qa.v)[k]? = some y.v:=by rw [zi,hy];rfl
   have po:=(z0 y x).b
   have hwk:IntKind.i64.wrap (((k + 1:Nat):Int) - 1) = (k:Int):=by rw [QP (by omega) (by omega)];omega
   simp only [Qa.v,Qa.cells] at vy po
   rw [afk,hy] at hinv
   dsimp only at hinv
   rcases h1:decide (aaS y x > 0) with _|_
   ·rw [if_neg (by simp at h1;omega)] at hinv
    rw [al3,← hinv] at hdp
    dsimp only at hdp
    rw [hy] at hdp
    dsimp only at hdp
    repeat' (first|(refine zsk ?_;intro K' hK)|(refine zrg ?_;intro K' hK)|refine zsp ?_|(refine zsc ?_ ?_<;>intro hc<;>first|exact znh|try simp only [znz] at hc)|simp (maxSteps:=1000000) only [go_sem,e1,hal,hwk,vy,h1,hdp,Int.toNat_natCast]|(refine hK _ ?_;clear hK K')|apply zan|((first|apply Qr|apply Qy);(focus first|exact po|exact (z0 _ _).b))|exact zsq|fail)
    all_goals first|(intro z hz;obtain ⟨w,_,rfl⟩:=zD.1 (zF hz);rfl)|(intro z hz;obtain ⟨w,_,rfl⟩:=zD.1 (zJ hz);rfl)|(intro z hz;obtain ⟨w,_,rfl⟩:=zD.1 (zJ (zF hz));rfl)|(intro z hz;obtain ⟨w,_,rfl⟩:=zD.1 (zF (zJ hz));rfl)|(simp only [zv,zT,kq,zb,List.length_cons,List.length_nil];omega)|(refine qH (xs:=(ab3 l x).map Qa.v) _ _ rfl ?_ ?_<;>first|(rw [ab3,← hinv];simp [wX,Qa.v,Qa.cells,kp,ku];done)|(rw [ab3,← hinv];simp [Qa.v,Qa.cells];omega)|(rw [ab3,← hinv,← akw];simp only [upd_self,Nat.sub_zero,List.take_zero,List.nil_append,kK,zL,kp,ku];rw [zl (by simp)];simp [upd,Qa.v,Qa.cells,kp,ku];done)|(rw [ab3,← hinv];simp [upd,Qa.v,Qa.cells,kp,ku,zl,wX];done)|trace_state)
   ·rw [if_pos (by simpa using h1)] at hinv
    repeat' (first|(refine zsk ?_;intro K' hK)|(refine zrg ?_;intro K' hK)|refine zsp ?_|(refine zsc ?_ ?_<;>intro hc<;>first|exact znh|try simp only [znz] at hc)|simp (maxSteps:=1000000) only [go_sem,e1,hal,hwk,vy,h1,Int.toNat_natCast]|(refine hK _ ?_;clear hK K')|apply zan|((first|apply Qr|apply Qy);(focus first|exact po|exact (z0 _ _).b))|exact zsq|fail)
    all_goals exact hL _ k zet ⟨by omega,hinv⟩ (by omega) zoe
end Av
end
section
namespace Av
open Go
theorem alk {C:Ctx} {w:World} {Z:Nat→Nat→Prop} {μ:Nat→Option Cn} {o:Nat→Option Ob} {b:Nat} (hg:QF C w Z μ o) (l:List Nat) (hf:∀ x,b≤x→μ x = none) (hm:C.m≤b):QF C w (Zc Z o μ [] (some l)) μ (KF (some l) [] o):=by
 have hkn:∀ b x,C.kn b = some x→w.heap[b]? = some x∧¬ Fb o μ [] b:=fun b x h=>by
  obtain ⟨h1,h2⟩:=C.hkn b x h
  refine ⟨?_,?_⟩
  ·rw [hg.frame b (kf.1 h1).1 h2];exact h1
  ·rintro ⟨a,ha,_⟩;simp at ha
 have e:=aeb hg (br:=[]) (B:=some l) (ins:=[]) hkn kC trivial
 have x:=acI hg hkn (b:=b) (br:=[]) (B:=some l) (ins:=[]) (outs:=[]) (fun x h _=>hf x h) hm (fun x hx=>by simp at hx) kC rfl (zh _) (by simp [KK]) (w':=w) (Z':=Zc Z o μ [] (some l)) (Zn:=Zc Z o μ [] (some l)) e.1 e.2.2
  (fun _ _ h=>.inl h) (fun b i h=>by
    rcases h with h|⟨a,y,c,h1,h2,h3,h4,h5,h6,h7⟩
    ·exact .inl h
    ·exact .inr (.inl ⟨by simp,a,y,c,h1,h2,h3,h4,h5,h6,h7⟩)) e.1.zlt (fun k x c hk=>by simp at hk)
 have h:=x.1
 have e1:Kf μ (βc μ []) ([]:List Ob).length ([]:List Ob).length b = μ:=by
  funext y;simp only [Kf];rw [if_neg (by simp)]
 rw [e1] at h
 simpa [Yd,Yb] using h
section
variable {C:Ctx} {nt:Nat} {s:St} {K:St→Prop} {E:Nat→St→Prop} {R:St→Prop}
theorem alR {c:AC} (x:Nat) (l:List Nat) {wr:Bool} {cells ys:List V} (ho:s.o x = some (.box wr cells)) (hx:x ∉ l) (hc:Jf s.o [] (some l) cells ys)
  (h:AWp C nt c { t:=s.t,o:=upd (KF (some l) [] s.o) x (some (.box wr ys)),n:=s.n } K E R):AWp C nt c s K E R:=by
 intro code hcd act w hs
 obtain ⟨Z,μ,hg,ht,hf,hm,hd,hn⟩:=hs
 have g:=alk hg l hf hm
 have ho':KF (some l) [] s.o x = some (.box wr cells):=by
  simp only [KF];grind
 obtain ⟨c0,hmu,hok,_⟩:=hg.ob x _ ho
 have hlen:=Jy hc
 refine h code hcd act w ⟨_,μ,g.repl ho' (fun c hmc hk=>?_) (fun _ h=>h),fun i=>(ht i).mono (fun _ _ _=>rfl) (fun _ _ h=>.inl h) (fun _ _ h=>h),hf,hm,hd,hn⟩
 obtain ⟨hv,⟨cs,ty,hh,hsz,hr⟩,hz⟩:=hk
 obtain ⟨_,⟨cs2,ty2,hh2,hsz2,hr2⟩,_⟩:=hok
 rw [hmu] at hmc;cases hmc
 rw [hh] at hh2;cases hh2
 refine ⟨hv,⟨cs,ty,hh,by omega,fun j h1 h2=>⟨?_,(hr j (by omega) h2).2⟩⟩,hz⟩
 have:=WM hg [] (some l) _ ys[j] cells[j] cs[j] (zh _) (hr2 j (by omega) h2).1 (Xe hc j (by omega) h1)
 exact this.mono (fun _ _ _=>rfl) (fun _ _ h=>h) (fun a c h=>by simp [βc] at h)
end
end Av
end
section
namespace Av
open Go
structure EvE (Γ:Env) (f:FuncId) (args:List V) (sz:Nat) (xs:List V):Prop where
 ev:Ev Γ f args [] (.tup [.hd 0 0 xs.length,V.int 0]) [.buf true sz xs]
 ns:∀ x∈xs,x.noSl
theorem EvE.c {Γ:Env} {f:FuncId} {args xs:List V} {sz:Nat} (h:EvE Γ f args sz xs):EvC Γ f args (.tup [.sl sz xs,V.int 0]) :=
 ⟨h.ev.shut (br:=[]) (B:=none) (by simp [conv,Jf,okB]) trivial (by simp) rfl,by simp only [V.closed,Qc,and_self]⟩
section
variable {Γ:Env} {b:Nat} {r:List AO} {s:St} {d:Option Nat} {f:FuncId} {acts args xs cs cs2:List V} {sz:Nat} {K:St→Prop} {okf:Option (List Nat)→Prop} {a:Nat}
theorem aqh (h:EvE Γ f args sz xs) (hc:okf none)
  (hk:Vy Γ (b + KK) r { t:=(s.put d (.tup [.hd b 0 xs.length,V.int 0])).t,o:=upd s.o b (some (.buf true sz xs)),n:=s.n } K):afn Γ b r s d f acts args okf K:=by
 rintro rfl rfl
 refine J1 ⟨_,_,_,_,[],none,h.ev,JG _ _ _ hc,trivial,kC,fun x hx=>by simp at hx,by simp,by simp [KK],fun _=>⟨by simp only [V.noSl,UB,and_self],fun x hx=>?_⟩,?_⟩
 ·simp only [zu] at hx;subst hx;exact h.ns
 ·simp only [Yd,Yb,Ob.ren,V.ren,U6,sig]
  exact hk
end
theorem ahE {Γ:Env} {f:FuncId} {nt:Nat} {ac:AC} {rs:List Uf} (hb:Has Γ.P f nt ac rs) {args xs:List V} {sz:Nat} (ha:args.length≤nt) (hn:∀ x∈xs,x.noSl)
  (h:∀ C:Ctx,C.env = Γ→C.m = 0→AWp C nt ac (YC args []) (jK 0 rs (.tup [.hd 0 0 xs.length,V.int 0]) [.buf true sz xs]) (fun _ _=>False) (jK 0 rs (.tup [.hd 0 0 xs.length,V.int 0]) [.buf true sz xs])):EvE Γ f args sz xs :=
 ⟨Yu hb ha h,hn⟩
theorem ap4 {rs:List Uf} {s:St} {xs:List V} {sz:Nat} (a n:Nat) (h:xV s rs = some [.hd a 0 n,V.int 0]) (hn:n = xs.length) (ho:s.o a = some (.buf true sz xs)):jK 0 rs (.tup [.hd 0 0 xs.length,V.int 0]) [.buf true sz xs] s:=by
 subst hn
 exact WJ rs _ _ h ⟨[a],none,by simp [wX,conv,Jf],⟨⟨_,ho,fun h=>h,rfl,rfl⟩,trivial⟩,by simp,rfl⟩
structure aqD (Γ:Env) (f:FuncId) (args cs:List V) (sz:Nat) (xs cs2:List V):Prop where
 ev:Ev Γ f (.ptr 0 0 :: args) [.box true cs] (.hd 1 0 xs.length) [.box true cs2,.buf true sz xs]
 c1:Qc cs
 c2:Qc cs2
 ca:Qc args
theorem aqD.d {Γ:Env} {f:FuncId} {args cs:List V} {sz:Nat} {xs cs2:List V} (h:aqD Γ f args cs sz xs cs2):EvD Γ f args cs (.sl sz xs) cs2:=by
 refine ⟨h.ev.shut (br:=[0]) (B:=none) ?_ ⟨⟨_,rfl,fun h=>h,QN _ _ _ _ h.c2⟩,trivial⟩ (by simp) rfl,?_,h.c1,h.c2⟩
 ·simp [conv,Jf,okB]
 ·simp only [V.closed,Qc,and_self]
section
variable {Γ:Env} {b:Nat} {r:List AO} {s:St} {d:Option Nat} {f:FuncId} {args acts:List V} {cs cs2 xs:List V} {sz:Nat} {K:St→Prop} {okf:Option (List Nat)→Prop} {a:Nat}
end
theorem agf {Γ:Env} {f:FuncId} {nt:Nat} {ac:AC} {rs:List Uf} (hb:Has Γ.P f nt ac rs) {args cs cs2 xs:List V} {sz:Nat} (hl:args.length + 1≤nt) (h1:Qc cs) (h2:Qc cs2) (hc:Qc args)
  (h:∀ C:Ctx,C.env = Γ→C.m = 1→AWp C nt ac (YC (.ptr 0 0 :: args) [.box true cs]) (jK 1 rs (.hd 1 0 xs.length) [.box true cs2,.buf true sz xs]) (fun _ _=>False) (jK 1 rs (.hd 1 0 xs.length) [.box true cs2,.buf true sz xs])):aqD Γ f args cs sz xs cs2 :=
 ⟨Yu hb (by simpa using hl) fun C hC hm=>h C hC hm,h1,h2,hc⟩
theorem aoZ {rs:List Uf} {s:St} {cs2 xs:List V} {sz:Nat} (i n:Nat) (h:xV s rs = some [.hd i 0 n]) (h0:s.o 0 = some (.box true cs2)) (hi:s.o i = some (.buf true sz xs)) (hij:decide (1≤i) = true) (h2:Qc cs2) (hn:n = xs.length) :
  jK 1 rs (.hd 1 0 xs.length) [.box true cs2,.buf true sz xs] s:=by
 subst hn
 have e1:=kr hij
 exact WJ rs _ _ h ⟨[0,i],none,by simp [wX,conv,Jf],⟨⟨_,h0,fun h=>h,QN _ _ _ _ h2⟩,⟨_,hi,fun h=>h,rfl,rfl⟩,trivial⟩,by simp;omega,rfl⟩
end Av
end
