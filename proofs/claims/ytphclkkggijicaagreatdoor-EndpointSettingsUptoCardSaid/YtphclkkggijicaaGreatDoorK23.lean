/- K23 -/
import Derived.Test.YtphclkkggijicaaGreatDoorK22
import Derived.Test.YtphclkkggijicaaGreatDoorK12
set_option linter.unusedVariables false
set_option linter.unusedSimpArgs false
noncomputable section
set_option maxRecDepth 10000
set_option maxHeartbeats 4000000
namespace Av
open Go
attribute [local irreducible] AWp Vo Ky jA awS awC aad awQ aaN QL Vq vQ awR Vz awB okR js ris
theorem aew {e:QI} {k:Nat} (h:okP wc ltI e.anchors k = false) (hk:k≤e.anchors.length):JT e = false:=by
 have:=wo h hk
 rw [aeU,kJ] at this
 rcases this with h|h
 ·have:ait e = false:=by rw [ait,show amJ e.anchors = false from h];simp
  rw [JT,this];simp
 ·have:akR e = false:=by rw [akR,h];simp
  rw [JT,this];simp
theorem ajn {e:QI} {k:Nat} (h:okP Un ltI e.hashes k = false) (hk:k≤e.hashes.length):JT e = false:=by
 have:=wo h hk
 rw [aeU,kJ] at this
 rcases this with h|h
 ·have:ait e = false:=by rw [ait,show amJ e.hashes = false from h];simp
  rw [JT,this];simp
 ·have:akR e = false:=by rw [akR,h];simp
  rw [JT,this];simp
theorem aaM {e:QI} (h:Xl e.suites = false):JT e = false:=by simp [JT,akS,h]
theorem amp {e:QI} {x:Qy} (h:x∈e.idents) (hx:x.ok = false):JT e = false:=by
 have:aqP e = false:=ko.2 ⟨x,h,by simp [hx]⟩
 simp [JT,this]
theorem apK {e:QI} (h1:jb e.name = true) (h2:1≤e.least) (h3:e.least≤e.most) (h4:e.most≤4) (h5:Xl e.suites = true) (h6:e.idents.length≤4) (h7:e.anchors.length≤16) (h8:e.idents.all Qy.ok = true)
  (h9:okP wc ltI e.anchors e.anchors.length = true) (h10:okP Un ltI e.hashes e.hashes.length = true):JT e = true:=by
 rw [aeU,zv] at h9 h10
 have c1:akS e = true:=by rw [akS,h1,h5,zl (by omega:e.least≥1),zl h3,zl h4];rfl
 have c2:ait e = true:=by rw [ait,zl (by omega:(e.idents.length:Int)≤4),zl (by omega:(e.anchors.length:Int)≤16),show amJ e.anchors = true from h9.1,show amJ e.hashes = true from h10.1];rfl
 have c4:akR e = true:=by rw [akR,h9.2,h10.2];rfl
 rw [JT,c1,c2,show aqP e = true from h8,c4];rfl
def adG (e:QI):St:=Yd [(1,.ptr 0 0)] [(0,.box true e.cells)] 1
def UK:=qd Proofs.Tryz.f20 [zhn 25,zhn 32,zhn 20,zhn 14]
def qT (Γ:Env) (f:Nat):Prop:=∀ (e:QI) (sm:e.Sm),EvN Γ f [e.v] (V.int (if JT e = true then 0 else 19))
attribute [local go_sem] QI.cells Qy.cells Qy.v adG Yd in
theorem adp {Γ:Env} {f:Nat} (h:Has Γ.P f 176 UK.1.1.ac UK.1.2) (z0:U0 Γ 57) (z2:V7 Γ 58) (z3:qr Γ 59) (z4:V5 Γ 60) (z5:XW Γ 61):qT Γ f:=by
 intro e sm
 refine Qb h zsi zcl zcl fun C hC hm=>?_
 subst hC
 simp only [UK,qd,DC.ac]
 have hw:=(z0 e.name sm.hn).b
 have no:JT e = false→(if JT e = true then (0:Int) else 19) = 19:=fun h=>by rw [h];rfl
 have lm0:(e.suites.map V.int).length = e.suites.length:=zh _
 have lm1:(e.idents.map Qy.v).length = e.idents.length:=zh _
 have lm2:(e.anchors.map V.int).length = e.anchors.length:=zh _
 have lm3:(e.hashes.map V.int).length = e.hashes.length:=zh _
 simp only [QI.v,QI.cells]
 refine xN fun K' hK=>?_
 simp (maxSteps:=1000000) only [go_sem]
 refine hK _ ?_
 clear hK
 clear K'
 (try simp only [go_sem])
 refine xO (ι:=Unit) (fun _=>jb e.name = true∧1≤e.least∧e.least≤e.most∧e.most≤4∧e.suites.length≤16∧e.idents.length≤4∧e.anchors.length≤16) (fun _=>adG e) (fun K' hK'=>?_) (fun _ hg=>?_)
 ·rcases b1:jb e.name with _|_
  ·rw [b1] at hw
   rw [no (by simp [JT,akS,b1])]
   exact zg
  rw [b1] at hw
  by_cases b2:e.least < 1
  ·have e2:decide (e.least < 1) = true:=zl b2
   rw [no (by simp [JT,akS];intros;omega)]
   (have zx:=e2);exact zg
  have e2:decide (e.least < 1) = false:=zm b2
  by_cases b3:e.least > e.most
  ·have e3:decide (e.least > e.most) = true:=zl b3
   rw [no (by simp [JT,akS];intros;omega)]
   (have zx:=za e2 e3);exact zg
  have e3:decide (e.least > e.most) = false:=zm b3
  by_cases b4:e.most > 4
  ·have e4:decide (e.most > 4) = true:=zl b4
   rw [no (by simp [JT,akS];intros;omega)]
   (have zx:=za e2 (za e3 e4));exact zg
  have e4:decide (e.most > 4) = false:=zm b4
  by_cases b5:(e.suites.length:Int) > 16
  ·have e5:decide ((e.suites.length:Int) > 16) = true:=zl b5
   rw [no (aaM (by
    rcases hq:Xl e.suites with _|_
    ·rfl
    ·have:=af6 hq;omega))]
   (have zx:=za e2 (za e3 (za e4 (za lm0 e5))));exact zg
  have e5:decide ((e.suites.length:Int) > 16) = false:=zm b5
  by_cases b6:(e.idents.length:Int) > 4
  ·have e6:decide ((e.idents.length:Int) > 4) = true:=zl b6
   rw [no (by have:ait e = false:=(by rw [ait,zm (by omega:¬ (e.idents.length:Int)≤4),zB]);simp [JT,this])]
   (have zx:=za e2 (za e3 (za e4 (za lm0 (za e5 (za lm1 e6))))));exact zg
  have e6:decide ((e.idents.length:Int) > 4) = false:=zm b6
  by_cases b7:(e.anchors.length:Int) > 16
  ·have e7:decide ((e.anchors.length:Int) > 16) = true:=zl b7
   rw [no (by have:ait e = false:=(by rw [ait,zm (by omega:¬ (e.anchors.length:Int)≤16)];simp);simp [JT,this])]
   (have zx:=za e2 (za e3 (za e4 (za lm0 (za e5 (za lm1 (za e6 (za lm2 e7))))))));exact zg
  have e7:decide ((e.anchors.length:Int) > 16) = false:=zm b7
  (have zx:=za e2 (za e3 (za e4 (za lm0 (za e5 (za lm1 (za e6 (za lm2 e7))))))));refine zgo ?_;repeat' first|exact zt|apply zan|intro hc
  all_goals exact hK' _ () (Qo []) ⟨b1,by omega,by omega,by omega,by omega,by omega,by omega⟩ (JZ [] (by simp only [go_sem,zwl,adG,Yd,QI.cells]<;>exact zcc) (by simp only [go_sem,zwl,adG,Yd,QI.cells]<;>exact zcc) (by simp [adG,Yd]) (by simp [adG,Yd]) (by omega))
 obtain ⟨g1,g2,g3,g4,g5,g6,g7⟩:=hg
 refine xO (ι:=Unit) (fun _=>Xl e.suites = true) (fun _=>adG e) (fun K' hK'=>?_) (fun _ g8=>?_)
 ·refine zgo ?_;repeat' first|exact zt|apply zan|intro hc
  refine Qp (ι:=Nat) (fun k=>k≤e.suites.length∧(e.suites.take k).any ajv = false∧(e.suites.take k).Nodup) (fun k=>[(3,V.int k)]) (fun k=>e.suites.length - k) 0 (by omega) ⟨zu _,rfl,zT⟩ zol zlt zet fun k hk K2 hL=>?_
  obtain ⟨hk,hg,hnd⟩:=hk
  simp only [ovT,Je,Nat.reduceEqDiff,reduceIte]
  rcases hd:e.suites.drop k with _|⟨x,r⟩
  ·have hkl:=Qj hd
   have e1:decide ((k:Int) < ((e.suites.length:Nat):Int)) = false:=by simp;omega
   rw [zb hkl] at hg hnd
   have hf:Xl e.suites = true:=by simp [Xl,hg,hnd]
   (have zx:=za e1 lm0);refine zgo ?_;repeat' first|exact zt|apply zan|intro hc
   all_goals exact hK' _ () (Qo []) hf (JZ [] (by simp only [go_sem,zwl,adG,Yd,QI.cells]<;>exact zcc) (by simp only [go_sem,zwl,adG,Yd,QI.cells]<;>exact zcc) (by simp [adG,Yd]) (by simp [adG,Yd]) (by omega))
  ·obtain ⟨hk',hget,hr⟩:=Qf hd
   have hwk:=Qc (k:=k) (by omega)
   have e1:decide ((k:Int) < ((e.suites.length:Nat):Int)) = true:=by simp;omega
   have hsu:=(z2 x).b
   have hA:List.take (k - 0) (e.suites.map V.int) = (e.suites.take k).map V.int:=by rw [Nat.sub_zero,List.map_take]
   have hc1:=(z3 (e.suites.take k) x (by rw [zJ];omega)).b
   by_cases hx:1≤x∧x≤16
   ·have hsv:Yq x = .tup [(YK x).v,V.int 0]:=by rw [Yq,if_pos hx]
    rw [hsv] at hsu
    simp only [Qm.v,Qm.cells] at hsu
    by_cases hin:x∈e.suites.take k
    ·rw [show (e.suites.take k).contains x = true by simpa using hin] at hc1
     rw [no (aaM (w9 fun h=>aa2 h hget hin))]
     (have zx:=za e1 (za hwk (za lm0 (za hget hA))));exact zg
    ·rw [show (e.suites.take k).contains x = false by simpa using hin] at hc1
     have hg2:(e.suites.take (k + 1)).any ajv = false:=by
      rw [zy,hget,List.any_append,hg];simp [ajv];omega
     have hnd2:(e.suites.take (k + 1)).Nodup:=by
      rw [zy,hget]
      exact kj.2 ⟨hnd,by simp,fun a ha b hb e=>by simp at hb;subst hb;subst e;exact hin ha⟩
     (have zx:=za e1 (za hwk (za lm0 (za hget hA))));refine zgo ?_;repeat' first|exact zt|apply zan|intro hc
     all_goals exact hL _ (k + 1) zet ⟨by omega,hg2,hnd2⟩ (by omega) zoe
   ·have hbx:ajv x = true:=by simp [ajv];omega
    rw [no (aaM (ab1 (zk hget) hbx))]
    have hsv:Yq x = .tup [yW.v,V.int 8]:=by rw [Yq,if_neg hx,YK,if_neg hx]
    rw [hsv] at hsu
    simp only [Qm.v,Qm.cells,yW] at hsu
    (have zx:=za e1 (za hwk (za lm0 (za hget hA))));exact zg
 refine xO (ι:=Unit) (fun _=>e.idents.all Qy.ok = true) (fun _=>adG e) (fun K' hK'=>?_) (fun _ g9=>?_)
 ·refine zgo ?_;repeat' first|exact zt|apply zan|intro hc
  refine Qp (ι:=Nat) (fun k=>k≤e.idents.length∧(e.idents.take k).all Qy.ok = true) (fun k=>[(6,V.int k)]) (fun k=>e.idents.length - k) 0 (by omega) ⟨zu _,rfl⟩ zol zlt zet fun k hk K2 hL=>?_
  obtain ⟨hk,hinv⟩:=hk
  simp only [ovT,Je,Nat.reduceEqDiff,reduceIte]
  rcases hd:e.idents.drop k with _|⟨x,r⟩
  ·have hkl:=Qj hd
   have e1:decide ((k:Int) < ((e.idents.length:Nat):Int)) = false:=by simp;omega
   rw [zb hkl] at hinv
   (have zx:=za e1 lm1);refine zgo ?_;repeat' first|exact zt|apply zan|intro hc
   all_goals exact hK' _ () (Qo []) hinv (JZ [] (by simp only [go_sem,zwl,adG,Yd,QI.cells]<;>exact zcc) (by simp only [go_sem,zwl,adG,Yd,QI.cells]<;>exact zcc) (by simp [adG,Yd]) (by simp [adG,Yd]) (by omega))
  ·obtain ⟨hk',hget,hr⟩:=Qf hd
   have hwk:=Qc (k:=k) (by omega)
   have e1:decide ((k:Int) < ((e.idents.length:Nat):Int)) = true:=by simp;omega
   have hm:=zk hget
   have hsh:=(z4 x.kalg x.kbits x.kid x.chain (sm.hx x hm).hl (sm.hx x hm).hc).b
   rcases hcb:Qy.ok x with _|_
   ·have hcc:X7 x.kalg x.kbits x.kid x.chain = false:=hcb
    rw [hcc] at hsh
    rw [no (amp hm hcb)]
    (have zx:=za e1 (za hwk (za lm1 hget)));exact zg
   ·have hcc:X7 x.kalg x.kbits x.kid x.chain = true:=hcb
    rw [hcc] at hsh
    (have zx:=za e1 (za hwk (za lm1 hget)));refine zgo ?_;repeat' first|exact zt|apply zan|intro hc
    all_goals exact hL _ (k + 1) zet ⟨by omega,vR hget hinv hcb⟩ (by omega) zoe
 refine xO (ι:=Unit) (fun _=>okP wc ltI e.anchors e.anchors.length = true) (fun _=>adG e) (fun K' hK'=>?_) (fun _ g10=>?_)
 ·refine zgo ?_;repeat' first|exact zt|apply zan|intro hc
  refine Qp (ι:=Nat) (fun k=>k≤e.anchors.length∧okP wc ltI e.anchors k = true) (fun k=>[(7,V.int k)]) (fun k=>e.anchors.length - k) 0 (by omega) ⟨zu _,rfl⟩ zol zlt zet fun k hk K2 hL=>?_
  obtain ⟨hk,hinv⟩:=hk
  simp only [ovT,Je,Nat.reduceEqDiff,reduceIte]
  rcases hd:e.anchors.drop k with _|⟨x,r⟩
  ·have hkl:=Qj hd
   have e1:decide ((k:Int) < ((e.anchors.length:Nat):Int)) = false:=by simp;omega
   have hkk:k = e.anchors.length:=by omega
   rw [hkk] at hinv
   (have zx:=za e1 lm2);refine zgo ?_;repeat' first|exact zt|apply zan|intro hc
   all_goals exact hK' _ () (Qo []) hinv (JZ [] (by simp only [go_sem,zwl,adG,Yd,QI.cells]<;>exact zcc) (by simp only [go_sem,zwl,adG,Yd,QI.cells]<;>exact zcc) (by simp [adG,Yd]) (by simp [adG,Yd]) (by omega))
  ·obtain ⟨hk',hget,hr⟩:=Qf hd
   have hwk:=Qc (k:=k) (by omega)
   have e1:decide ((k:Int) < ((e.anchors.length:Nat):Int)) = true:=by simp;omega
   skip
   rcases hx:wc x with _|_
   ·have hb:okP wc ltI e.anchors (k + 1) = false:=by rw [VM,hget];simp [hx]
    rw [no (aew hb (by omega))]
    by_cases z1:x < 0
    ·have y1:decide (x < 0) = true:=zl z1
     (have zx:=za e1 (za y1 (za hwk (za lm2 hget))));exact zg
    have y1:decide (x < 0) = false:=zm z1
    have y2:decide (x > 2147483648) = true:=zl (by simp [wc] at hx;omega)
    (have zx:=za e1 (za y1 (za y2 (za hwk (za lm2 hget)))));exact zg
   ·have hx2:=hx
    simp only [wc,zv,zL] at hx2
    have y1:decide (x < 0) = false:=zm (by omega)
    have y2:decide (x > 2147483648) = false:=zm (by omega)
    rcases k with _|k
    ·have hw0:IntKind.i64.wrap 1 = ((1:Nat):Int):=by decide
     have hg1:okP wc ltI e.anchors (0 + 1) = true:=by rw [wm hget,hx]
     have e2:decide (((0:Nat):Int) > 0) = false:=rfl
     (have zx:=za e1 (za e2 (za hwk (za hw0 (za lm2 (za y1 (za y2 hget)))))));refine zgo ?_;repeat' first|exact zt|apply zan|intro hc
     all_goals exact hL _ 1 zet ⟨by omega,hg1⟩ (by omega) zoe
    ·have e2:decide (((k + 1:Nat):Int) > 0) = true:=zl (by omega)
     have hw2:IntKind.i64.wrap (((k + 1:Nat):Int) - 1) = (k:Int):=by rw [Q9 (by omega) (by omega)];omega
     obtain ⟨y,hgy⟩:∃ y,e.anchors[k]? = some y:=⟨_,ze (by omega)⟩
     have hnext:=jE (p:=wc) (q:=ltI) hget hgy
     rw [hinv,hx] at hnext
     by_cases hb:y < x
     ·have e3:decide (y≥x) = false:=zm (by omega)
      (have zx:=za e1 (za e2 (za e3 (za hwk (za hw2 (za lm2 (za y1 (za y2 (za hget hgy)))))))));refine zgo ?_;repeat' first|exact zt|apply zan|intro hc
      all_goals exact hL _ (k + 2) zet ⟨by omega,by rw [hnext];simp [ltI,hb]⟩ (by omega) zoe
     ·have e3:decide (y≥x) = true:=zl (by omega)
      rw [no (aew (k:=k + 2) (by rw [hnext];simp [ltI,hb]) (by omega))]
      (have zx:=za e1 (za e2 (za e3 (za hwk (za hw2 (za lm2 (za y1 (za y2 (za hget hgy)))))))));exact zg
 have hshh:=sm.hh
 ·refine zgo ?_;repeat' first|exact zt|apply zan|intro hc
  refine Qp (ι:=Nat) (fun k=>k≤e.hashes.length∧okP Un ltI e.hashes k = true) (fun k=>[(8,V.int k)]) (fun k=>e.hashes.length - k) 0 (by omega) ⟨zu _,rfl⟩ zol zlt zet fun k hk K2 hL=>?_
  obtain ⟨hk,hinv⟩:=hk
  simp only [ovT,Je,Nat.reduceEqDiff,reduceIte]
  rcases hd:e.hashes.drop k with _|⟨x,r⟩
  ·have hkl:=Qj hd
   have e1:decide ((k:Int) < ((e.hashes.length:Nat):Int)) = false:=by simp;omega
   have hkk:k = e.hashes.length:=by omega
   rw [hkk] at hinv
   rw [if_pos (apK g1 g2 g3 g4 g8 g6 g7 g9 g10 hinv)]
   (have zx:=za e1 lm3);exact zg
  ·obtain ⟨hk',hget,hr⟩:=Qf hd
   have hwk:=Qc (k:=k) (by omega)
   have e1:decide ((k:Int) < ((e.hashes.length:Nat):Int)) = true:=by simp;omega
   have hki:=(z5 x).b
   rcases hx:Un x with _|_
   ·have hb:okP Un ltI e.hashes (k + 1) = false:=by rw [VM,hget];simp [hx]
    rw [no (ajn hb (by omega))]
    have y1:((J5 x).kind != 1) = true:=by simpa [Un] using hx
    (have zx:=za e1 (za y1 (za hwk (za lm3 hget))));exact zg
   ·have y1:((J5 x).kind != 1) = false:=by simpa [Un] using hx
    rcases k with _|k
    ·have hw0:IntKind.i64.wrap 1 = ((1:Nat):Int):=by decide
     have hg1:okP Un ltI e.hashes (0 + 1) = true:=by rw [wm hget,hx]
     have e2:decide (((0:Nat):Int) > 0) = false:=rfl
     (have zx:=za e1 (za e2 (za hwk (za hw0 (za lm3 (za y1 hget))))));refine zgo ?_;repeat' first|exact zt|apply zan|intro hc
     all_goals exact hL _ 1 zet ⟨by omega,hg1⟩ (by omega) zoe
    ·have e2:decide (((k + 1:Nat):Int) > 0) = true:=zl (by omega)
     have hw2:IntKind.i64.wrap (((k + 1:Nat):Int) - 1) = (k:Int):=by rw [Q9 (by omega) (by omega)];omega
     obtain ⟨y,hgy⟩:∃ y,e.hashes[k]? = some y:=⟨_,ze (by omega)⟩
     have hnext:=jE (p:=Un) (q:=ltI) hget hgy
     rw [hinv,hx] at hnext
     by_cases hb:y < x
     ·have e3:decide (y≥x) = false:=zm (by omega)
      (have zx:=za e1 (za e2 (za e3 (za hwk (za hw2 (za lm3 (za y1 (za hget hgy))))))));refine zgo ?_;repeat' first|exact zt|apply zan|intro hc
      all_goals exact hL _ (k + 2) zet ⟨by omega,by rw [hnext];simp [ltI,hb]⟩ (by omega) zoe
     ·have e3:decide (y≥x) = true:=zl (by omega)
      rw [no (ajn (k:=k + 2) (by rw [hnext];simp [ltI,hb]) (by omega))]
      (have zx:=za e1 (za e2 (za e3 (za hwk (za hw2 (za lm3 (za y1 (za hget hgy))))))));exact zg
def eqL {α:Type} (p:α→α→Bool):List α→List α→Bool
 | [],[]=>true
 | x :: a,y :: b=>p x y && eqL p a b
 | _,_=>false
theorem afu {α:Type} {p:α→α→Bool}:∀ (a b:List α),¬ a.length = b.length→eqL p a b = false
 | [],[],h=>absurd rfl h
 | [],_ :: _,_=>rfl
 | _ :: _,[],_=>rfl
 | x :: a,y :: b,h=>by rw [eqL,afu a b (fun e=>h (by simp [e])),zG]
def eqS (x y:List UInt8):Bool:=x == y
def cs1 (c d:Qi):Bool:=(c.serial == d.serial) && ((c.issuer == d.issuer) && ((c.subject == d.subject) && eqL eqS c.names d.names))
def cs2 (c d:Qi):Bool:=((c.kalg == d.kalg) && (c.kbits == d.kbits)) && ((c.kid == d.kid) && (((c.halg == d.halg) && (c.hbits == d.hbits)) && ((c.skey == d.skey) && (c.ssum == d.ssum))))
def cs3 (c d:Qi):Bool:=(c.from_ == d.from_) && ((c.to_ == d.to_) && ((c.auth == d.auth) && (c.path == d.path)))
def ade (c d:Qi):Bool:=cs1 c d && (cs2 c d && cs3 c d)
def vf (x y:Qy):Bool:=((x.kalg == y.kalg) && (x.kbits == y.kbits)) && ((x.kid == y.kid) && eqL ade x.chain y.chain)
def XI:=qd Proofs.Tryz.f198 [zhn 9]
def Vd (Γ:Env) (f:Nat):Prop:=∀ (a b:List (List UInt8)) (ha:a.length < 2 ^ 60),EvN Γ f [.sl 1 (a.map V.str),.sl 1 (b.map V.str)] (V.bool (eqL eqS a b))
theorem vx {Γ:Env} {f:Nat} (h:Has Γ.P f 26 XI.1.1.ac XI.1.2) :Vd Γ f:=by
 intro a b ha
 refine Qb h zsi zcl zcl fun C hC hm=>?_
 subst hC
 simp only [XI,qd,DC.ac]
 have lma:(a.map V.str).length = a.length:=zh _
 have lmb:(b.map V.str).length = b.length:=zh _
 by_cases hlen:a.length = b.length
 ·have e0:(((a.length:Nat):Int) != ((b.length:Nat):Int)) = false:=by simp [hlen]
  (have zx:=za lma (za lmb e0));refine zgo ?_;repeat' first|exact zt|apply zan|intro hc
  refine Qp (ι:=Nat) (fun k=>k≤a.length∧eqL eqS (a.drop k) (b.drop k) = eqL eqS a b) (fun k=>[(5,V.int k)]) (fun k=>a.length - k) 0 (by omega) ⟨zu _,rfl⟩ zol zlt zet fun k hk K' hL=>?_
  obtain ⟨hk,hinv⟩:=hk
  simp only [ovT,Je,Nat.reduceEqDiff,reduceIte]
  rcases hd:a.drop k with _|⟨y,r⟩
  ·have:=Qj hd
   have hd2:b.drop k = []:=zX (by omega)
   rw [hd,hd2] at hinv
   have e1:decide ((k:Int) < ((a.length:Nat):Int)) = false:=by simp;omega
   rw [← hinv,show eqL eqS [] [] = true from rfl]
   (have zx:=za e1 lma);exact zg
  ·obtain ⟨hk',hget,hr⟩:=Qf hd
   have e1:decide ((k:Int) < ((a.length:Nat):Int)) = true:=by simp;omega
   rcases hd2:b.drop k with _|⟨z,r2⟩
   ·have:=Qj hd2;omega
   ·obtain ⟨hk2,hget2,hr2⟩:=Qf hd2
    rw [hd,hd2,eqL] at hinv
    have hw:=Qc (k:=k) (by omega)
    have hmy:=zk hget
    have hmz:=zk hget2
    skip
    rcases hyz:eqS y z with _|_
    ·rw [hyz,zB] at hinv
     rw [← hinv]
     have e2:(y == z) = false:=hyz
     (have zx:=za e1 (za lma (za hget (za hget2 (za hw e2)))));exact zg
    ·rw [hyz,zA] at hinv
     have e2:(y == z) = true:=hyz
     (have zx:=za e1 (za lma (za hget (za hget2 (za hw e2)))));refine zgo ?_;repeat' first|exact zt|apply zan|intro hc
     all_goals exact hL _ (k + 1) zet ⟨by omega,by rw [hr,hr2];exact hinv⟩ (by omega) zoe
 ·have e0:(((a.length:Nat):Int) != ((b.length:Nat):Int)) = true:=by simp;omega
  rw [afu a b hlen]
  (have zx:=za lma (za lmb e0));exact zg
def KZ:=qd Proofs.Tryz.f161 []
def yo (Γ:Env) (f:Nat):Prop:=∀ (c d:Qi) (hc:c.names.length < 2 ^ 60),EvN Γ f [c.v,d.v] (V.bool (ade c d))
theorem afd {Γ:Env} {f:Nat} (h:Has Γ.P f 87 KZ.1.1.ac KZ.1.2) (z0:Vd Γ 198):yo Γ f:=by
 intro c d hc
 refine Qb h zsi zcl zcl fun C hC hm=>?_
 subst hC
 simp only [KZ,qd,DC.ac]
 have hn:=(z0 c.names d.names hc).b
 simp only [Qi.v,Qi.cells]
 refine zgo ?_;repeat' first|exact zt|apply zan|intro hc
 all_goals (refine Qd _ rfl ?_;simp only [go_sem];simp [ade,cs1,cs2,cs3, *];done)
def se1 (a b:QI):Bool:=(a.suites == b.suites) && ((a.anchors == b.anchors) && (a.hashes == b.hashes))
def se2 (a b:QI):Bool:=(a.name == b.name) && ((a.least == b.least) && ((a.most == b.most) && ((a.own == b.own) && (a.fall == b.fall))))
def am9 (a b:QI):Bool:=se2 a b && (se1 a b && eqL vf a.idents b.idents)
def XG:=qd Proofs.Tryz.f114 [zhn 10]
def Vb (Γ:Env) (f:Nat):Prop:=∀ (a b:List Qi) (ha:a.length < 2 ^ 60) (hn:∀ x∈a,x.names.length < 2 ^ 60),EvN Γ f [.sl 15 (a.map Qi.v),.sl 15 (b.map Qi.v)] (V.bool (eqL ade a b))
attribute [local go_sem] Qi.cells Qi.v in
theorem vv {Γ:Env} {f:Nat} (h:Has Γ.P f 27 XG.1.1.ac XG.1.2) (z0:yo Γ 161):Vb Γ f:=by
 intro a b ha hn
 refine Qb h zsi zcl zcl fun C hC hm=>?_
 subst hC
 simp only [XG,qd,DC.ac]
 have lma:(a.map Qi.v).length = a.length:=zh _
 have lmb:(b.map Qi.v).length = b.length:=zh _
 by_cases hlen:a.length = b.length
 ·have e0:(((a.length:Nat):Int) != ((b.length:Nat):Int)) = false:=by simp [hlen]
  (have zx:=za lma (za lmb e0));refine zgo ?_;repeat' first|exact zt|apply zan|intro hc
  refine Qp (ι:=Nat) (fun k=>k≤a.length∧eqL ade (a.drop k) (b.drop k) = eqL ade a b) (fun k=>[(5,V.int k)]) (fun k=>a.length - k) 0 (by omega) ⟨zu _,rfl⟩ zol zlt zet fun k hk K' hL=>?_
  obtain ⟨hk,hinv⟩:=hk
  simp only [ovT,Je,Nat.reduceEqDiff,reduceIte]
  rcases hd:a.drop k with _|⟨y,r⟩
  ·have:=Qj hd
   have hd2:b.drop k = []:=zX (by omega)
   rw [hd,hd2] at hinv
   have e1:decide ((k:Int) < ((a.length:Nat):Int)) = false:=by simp;omega
   rw [← hinv,show eqL ade [] [] = true from rfl]
   (have zx:=za e1 lma);exact zg
  ·obtain ⟨hk',hget,hr⟩:=Qf hd
   have e1:decide ((k:Int) < ((a.length:Nat):Int)) = true:=by simp;omega
   rcases hd2:b.drop k with _|⟨z,r2⟩
   ·have:=Qj hd2;omega
   ·obtain ⟨hk2,hget2,hr2⟩:=Qf hd2
    rw [hd,hd2,eqL] at hinv
    have hw:=Qc (k:=k) (by omega)
    have hmy:=zk hget
    have hmz:=zk hget2
    have hgy:=(z0 y z (hn y hmy)).b
    simp only [Qi.v,Qi.cells] at hgy
    rcases hyz:ade y z with _|_
    ·rw [hyz,zB] at hinv
     rw [← hinv]
     rw [hyz] at hgy
     (have zx:=za e1 (za lma (za hget (za hget2 hw))));exact zg
    ·rw [hyz,zA] at hinv
     rw [hyz] at hgy
     (have zx:=za e1 (za lma (za hget (za hget2 hw))));refine zgo ?_;repeat' first|exact zt|apply zan|intro hc
     all_goals exact hL _ (k + 1) zet ⟨by omega,by rw [hr,hr2];exact hinv⟩ (by omega) zoe
 ·have e0:(((a.length:Nat):Int) != ((b.length:Nat):Int)) = true:=by simp;omega
  rw [afu a b hlen]
  (have zx:=za lma (za lmb e0));exact zg
def Ya:=qd Proofs.Tryz.f47 [zhn 38]
def YU (Γ:Env) (f:Nat):Prop:=∀ (a b:List Qy) (ha:a.length < 2 ^ 60) (hl:∀ x∈a,x.chain.length < 2 ^ 60) (hn:∀ x∈a,∀ c∈x.chain,c.names.length < 2 ^ 60),EvN Γ f [.sl 4 (a.map Qy.v),.sl 4 (b.map Qy.v)] (V.bool (eqL vf a b))
attribute [local go_sem] Qy.cells Qy.v in
theorem jO {Γ:Env} {f:Nat} (h:Has Γ.P f 55 Ya.1.1.ac Ya.1.2) (z0:Vb Γ 114):YU Γ f:=by
 intro a b ha hl hn
 refine Qb h zsi zcl zcl fun C hC hm=>?_
 subst hC
 simp only [Ya,qd,DC.ac]
 have lma:(a.map Qy.v).length = a.length:=zh _
 have lmb:(b.map Qy.v).length = b.length:=zh _
 by_cases hlen:a.length = b.length
 ·have e0:(((a.length:Nat):Int) != ((b.length:Nat):Int)) = false:=by simp [hlen]
  (have zx:=za lma (za lmb e0));refine zgo ?_;repeat' first|exact zt|apply zan|intro hc
  refine Qp (ι:=Nat) (fun k=>k≤a.length∧eqL vf (a.drop k) (b.drop k) = eqL vf a b) (fun k=>[(5,V.int k)]) (fun k=>a.length - k) 0 (by omega) ⟨zu _,rfl⟩ zol zlt zet fun k hk K' hL=>?_
  obtain ⟨hk,hinv⟩:=hk
  simp only [ovT,Je,Nat.reduceEqDiff,reduceIte]
  rcases hd:a.drop k with _|⟨y,r⟩
  ·have:=Qj hd
   have hd2:b.drop k = []:=zX (by omega)
   rw [hd,hd2] at hinv
   have e1:decide ((k:Int) < ((a.length:Nat):Int)) = false:=by simp;omega
   rw [← hinv,show eqL vf [] [] = true from rfl]
   (have zx:=za e1 lma);exact zg
  ·obtain ⟨hk',hget,hr⟩:=Qf hd
   have e1:decide ((k:Int) < ((a.length:Nat):Int)) = true:=by simp;omega
   rcases hd2:b.drop k with _|⟨z,r2⟩
   ·have:=Qj hd2;omega
   ·obtain ⟨hk2,hget2,hr2⟩:=Qf hd2
    rw [hd,hd2,eqL] at hinv
    have hw:=Qc (k:=k) (by omega)
    have hmy:=zk hget
    have hmz:=zk hget2
    have hgy:=(z0 y.chain z.chain (hl y hmy) (hn y hmy)).b
    have hfal:vf y z = false→eqL vf a b = false:=fun h=>by rw [← hinv,h,zB]
    have htru:vf y z = true→eqL vf r r2 = eqL vf a b:=fun h=>by rw [← hinv,h,zA]
    rcases y1:(y.kalg == z.kalg) with _|_<;>rcases y2:(y.kbits == z.kbits) with _|_<;>rcases y3:(y.kid != z.kid) with _|_
    all_goals
     (have zx:=za e1 (za lma (za hget (za hget2 (za hw (za y1 (za y2 y3)))))));refine zgo ?_;repeat' first|exact zt|apply zan|intro hc
     all_goals (try simp only [bne_eq_false_iff_eq,bne_iff_ne,ne_eq] at *)
     all_goals first|(rw [hfal]<;>first|(simp [vf, *];done)|exact zr)|exact hL _ (k + 1) zet ⟨by omega,by rw [hr,hr2];exact htru (by simp [vf, *])⟩ (by omega) zoe
 ·have e0:(((a.length:Nat):Int) != ((b.length:Nat):Int)) = true:=by simp;omega
  rw [afu a b hlen]
  (have zx:=za lma (za lmb e0));exact zg
structure QI.SmE (e:QI):Prop where
 hs:e.suites.length < 2 ^ 60
 ha:e.anchors.length < 2 ^ 60
 hh:e.hashes.length < 2 ^ 60
 hi:e.idents.length < 2 ^ 60
 hl:∀ x∈e.idents,x.chain.length < 2 ^ 60
 hn:∀ x∈e.idents,∀ c∈x.chain,c.names.length < 2 ^ 60
def KT:=qd Proofs.Tryz.f18 []
def yi (Γ:Env) (f:Nat):Prop:=∀ (a b:QI) (sm:a.SmE),EvN Γ f [a.v,b.v] (V.bool (am9 a b))
theorem ae7 {Γ:Env} {f:Nat} (h:Has Γ.P f 66 KT.1.1.ac KT.1.2) (z0:VF Γ 46) (z1:YU Γ 47):yi Γ f:=by
 intro a b sm
 refine Qb h zsi zcl zcl fun C hC hm=>?_
 subst hC
 simp only [KT,qd,DC.ac]
 have q1:=(z0 a.suites b.suites (by have:=sm.hs;omega)).b
 have q2:=(z0 a.anchors b.anchors (by have:=sm.ha;omega)).b
 have q3:=(z0 a.hashes b.hashes (by have:=sm.hh;omega)).b
 have q4:=(z1 a.idents b.idents sm.hi sm.hl sm.hn).b
 simp only [QI.v,QI.cells]
 refine zgo ?_;repeat' first|exact zt|apply zan|intro hc
 all_goals (refine Qd _ rfl ?_;simp only [go_sem];simp [am9,se1,se2, *];done)
end Av
end
