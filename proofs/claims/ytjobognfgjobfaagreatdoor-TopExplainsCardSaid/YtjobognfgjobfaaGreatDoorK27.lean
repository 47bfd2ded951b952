/- K27 -/
import Derived.Test.YtjobognfgjobfaaGreatDoorK26
import Derived.Test.YtjobognfgjobfaaGreatDoorK12
import Derived.Test.YtjobognfgjobfaaGreatDoorK23
set_option linter.unusedVariables false
set_option linter.unusedSimpArgs false
noncomputable section
set_option maxRecDepth 10000
set_option maxHeartbeats 4000000
namespace Av
open Go
attribute [local irreducible] AWp WC wb aai awS awC aeM awQ afz Jk qV aes awR jj awB okR aaf ris
structure yL where
 kalg:Int
 kbits:Int
 kid:Int
 chain:List Kw
def yL.cells (x:yL):List V:=[V.int x.kalg,V.int x.kbits,V.int x.kid,.sl 15 (x.chain.map Kw.v)]
def yL.v (x:yL):V:=.agg x.cells
structure yL.Sm (x:yL):Prop where
 hl:x.chain.length < 2 ^ 60
 hc:∀ c∈x.chain,c.Sm
structure apf where
 name:List UInt8
 least:Int
 most:Int
 suites:List Int
 own:Bool
 idents:List yL
 anchors:List Int
 hashes:List Int
 fall:Bool
def apf.cells (e:apf):List V:=[V.str e.name,V.int e.least,V.int e.most,.sl 1 (e.suites.map V.int),V.bool e.own,.sl 4 (e.idents.map yL.v),.sl 1 (e.anchors.map V.int),.sl 1 (e.hashes.map V.int),V.bool e.fall]
def apf.v (e:apf):V:=.agg e.cells
structure apf.Sm (e:apf):Prop where
 hn:e.name.length < 2 ^ 30
 hs:e.suites.length < 2 ^ 30
 hi:e.idents.length < 2 ^ 30
 hx:∀ x∈e.idents,x.Sm
 ha:e.anchors.length < 2 ^ 30
 hh:e.hashes.length < 2 ^ 30
def ltI (a b:Int):Bool:=decide (a < b)
def yes {α:Type} (_:α):Bool:=true
def aag (l:List Int):Bool:=(!l.any au6) && decide l.Nodup
def awL (l:List Int):Bool:=okP yes ltI l l.length
def apU (n:Int):Bool:=(XK n).kind == 1
def yL.ok (x:yL):Bool:=adu x.kalg x.kbits x.kid x.chain
def axO (e:apf):Bool:=ahl e.name && (decide (e.least≥1) && (decide (e.least≤e.most) && (decide (e.most≤4) && aag e.suites)))
def axN (e:apf):Bool:=decide ((e.idents.length:Int)≤4) && (decide ((e.anchors.length:Int)≤16) && (awL e.anchors && awL e.hashes))
def ayN (e:apf):Bool:=e.idents.all yL.ok
def aw2 (e:apf):Bool:=e.anchors.all arU && e.hashes.all apU
def abu (e:apf):Bool:=axO e && (axN e && (ayN e && aw2 e))
theorem amR {l:List Int} {x:Int} (h:x∈l) (hx:au6 x = true):aag l = false:=by
 have:l.any au6 = true:=kz.2 ⟨x,h,hx⟩
 simp [aag,this]
theorem aj4 {l:List Int} (h:¬ l.Nodup):aag l = false:=by simp [aag,h]
def V4:=qd Proofs.Tryz.f121 []
def qJ (Γ:Env) (f:Nat):Prop:=∀ (l:List Int) (hl:l.length < 2 ^ 30),EvN Γ f [.sl 1 (l.map V.int)] (V.bool (aag l))
theorem aef {Γ:Env} {f:Nat} (h:Has Γ.P f 29 V4.1.1.ac V4.1.2) (z0:U0 Γ 194) (z1:QN Γ 182):qJ Γ f:=by
 intro l hl
 refine Qc h zsi zcl zcl fun C hC hm=>?_
 subst hC
 simp only [V4,qd,DC.ac]
 refine zgo ?_;repeat' first|exact zt|apply zan|intro hc
 refine Ji (ι:=Nat) (fun k=>k≤l.length∧(l.take k).any au6 = false∧(l.take k).Nodup) (fun k=>[(9,V.int k)]) (fun k=>l.length - k) 0 (by omega) ⟨zJ _,rfl,kw⟩ zol zlt zet fun k hk K' hL=>?_
 obtain ⟨hk,hg,hnd⟩:=hk
 simp only [ovT,Xs,Nat.reduceEqDiff,reduceIte]
 rcases hd:l.drop k with _|⟨x,r⟩
 ·have hkl:=Qu hd
  have e1:decide ((k:Int) < (((l.map V.int).length:Nat):Int)) = false:=by simp;omega
  rw [zi hkl] at hg hnd
  have hf:aag l = true:=by simp [aag,hg,hnd]
  rw [hf]
  (have zx:=e1);exact zg
 ·obtain ⟨hk',hget,hr⟩:=Qq hd
  have hw:=Qe (k:=k) (by omega)
  have e1:decide ((k:Int) < (((l.map V.int).length:Nat):Int)) = true:=by simp;omega
  have hsu:=(z0 x).b
  have hA:List.take (k - 0) (l.map V.int) = (l.take k).map V.int:=by rw [Nat.sub_zero,kO]
  have hc1:=(z1 (l.take k) x (by rw [zU];omega)).b
  have hfi:=vQ x (l.take k) 0
  by_cases hx:1≤x∧x≤16
  ·have hsv:yG x = .tup [(qZ x).v,V.int 0]:=by rw [yG,if_pos hx]
   rw [hsv] at hsu
   simp only [QC.v,QC.cells] at hsu
   by_cases hin:x∈l.take k
   ·rw [zn (hfi.2 hin)] at hc1
    rw [aj4 fun h=>aly h hget hin]
    (have zx:=za e1 (za hw (za hget hA)));exact zg
   ·rw [zp (fun h=>hin (hfi.1 h))] at hc1
    have hg2:(l.take (k + 1)).any au6 = false:=by
     rw [zB,hget,List.any_append,hg];simp [au6];omega
    have hnd2:(l.take (k + 1)).Nodup:=by
     rw [zB,hget]
     exact Zd.2 ⟨hnd,by simp,fun a ha b hb e=>by simp at hb;subst hb;subst e;exact hin ha⟩
    (have zx:=za e1 (za hw (za hget hA)));refine zgo ?_;repeat' first|exact zt|apply zan|intro hc
    all_goals exact hL _ (k + 1) zet ⟨by omega,hg2,hnd2⟩ (by omega) zoe
  ·have hbx:au6 x = true:=by simp [au6];omega
   rw [amR (zq hget) hbx]
   have hsv:yG x = .tup [ahs.v,V.int 8]:=by rw [yG,if_neg hx,qZ,if_neg hx]
   rw [hsv] at hsu
   simp only [QC.v,QC.cells,ahs] at hsu
   (have zx:=za e1 (za hw (za hget hA)));exact zg
def Vh:=qd Proofs.Tryz.f122 [zhn 14]
def Kj (Γ:Env) (f:Nat):Prop:=∀ (l:List Int) (hl:l.length < 2 ^ 30),EvN Γ f [.sl 1 (l.map V.int)] (V.bool (awL l))
theorem acZ {Γ:Env} {f:Nat} (h:Has Γ.P f 24 Vh.1.1.ac Vh.1.2) :Kj Γ f:=by
 intro l hl
 refine Qc h zsi zcl zcl fun C hC hm=>?_
 subst hC
 simp only [Vh,qd,DC.ac]
 have hlm:(l.map V.int).length = l.length:=zb _
 (have zx:=hlm);refine zgo ?_;repeat' first|exact zt|apply zan|intro hc
 refine Ji (ι:=Nat) (fun k=>k≤l.length∧okP yes ltI l k = true) (fun k=>[(6,V.int k)]) (fun k=>l.length - k) 0 (by omega) ⟨zJ _,rfl⟩ zol zlt zet fun k hk K' hL=>?_
 obtain ⟨hk,hinv⟩:=hk
 simp only [ovT,Xs,Nat.reduceEqDiff,reduceIte]
 rcases hd:l.drop k with _|⟨x,r⟩
 ·have hkl:=Qu hd
  have e1:decide ((k:Int) < ((l.length:Nat):Int)) = false:=by simp;omega
  have hkk:k = l.length:=by omega
  subst hkk
  rw [show awL l = true from hinv]
  (have zx:=e1);exact zg
 ·obtain ⟨hk',hget,hr⟩:=Qq hd
  have hw:=Qe (k:=k) (by omega)
  have e1:decide ((k:Int) < ((l.length:Nat):Int)) = true:=by simp;omega
  rcases k with _|k
  ·have hw0:IntKind.i64.wrap 1 = ((1:Nat):Int):=by decide
   have hg1:okP yes ltI l (0 + 1) = true:=by rw [ana hget];rfl
   have e2:decide (((0:Nat):Int) > 0) = false:=rfl
   (have zx:=za e1 (za e2 (za hw (za hw0 hget))));refine zgo ?_;repeat' first|exact zt|apply zan|intro hc
   all_goals exact hL _ 1 zet ⟨by omega,hg1⟩ (by omega) zoe
  ·have e2:decide (((k + 1:Nat):Int) > 0) = true:=zn (by omega)
   have hw2:IntKind.i64.wrap (((k + 1:Nat):Int) - 1) = (k:Int):=by rw [Jc (by omega) (by omega)];omega
   obtain ⟨y,hgy⟩:∃ y,l[k]? = some y:=⟨_,zd (by omega)⟩
   have hnext:=akh (p:=yes) (q:=ltI) hget hgy
   rw [hinv] at hnext
   by_cases hb:y < x
   ·have e3:decide (y≥x) = false:=zp (by omega)
    (have zx:=za e1 (za e2 (za e3 (za hw (za hw2 (za hget hgy))))));refine zgo ?_;repeat' first|exact zt|apply zan|intro hc
    all_goals exact hL _ (k + 2) zet ⟨by omega,by rw [hnext];simp [yes,ltI,hb]⟩ (by omega) zoe
   ·have e3:decide (y≥x) = true:=zn (by omega)
    have hf:awL l = false:=anb (k:=k + 2) (by rw [hnext];simp [ltI,hb]) (by omega)
    rw [hf]
    (have zx:=za e1 (za e2 (za e3 (za hw (za hw2 (za hget hgy))))));exact zg
def KS:=qd Proofs.Tryz.f128 []
def yA (Γ:Env) (f:Nat):Prop:=∀ (n:Int),EvN Γ f [V.int n] (V.bool (apU n))
theorem agM {Γ:Env} {f:Nat} (h:Has Γ.P f 6 KS.1.1.ac KS.1.2) (z0:Wg Γ 195):yA Γ f:=by
 intro n
 refine Qc h zsi zcl zcl fun C hC hm=>?_
 subst hC
 simp only [KS,qd,DC.ac]
 unfold apU
 exact zg
def X2:=qd Proofs.Tryz.f125 []
def XN (Γ:Env) (f:Nat):Prop:=∀ (k:Nat) (p:Int→Bool) (x:Int) (hp:EvN Γ k [V.int x] (V.bool (p x))),EvN Γ f [V.int x,.ro [.clo (.n k) []] 0] (V.bool (!p x))
theorem abn {Γ:Env} {f:Nat} (h:Has Γ.P f 8 X2.1.1.ac X2.1.2) :XN Γ f:=by
 intro k p x hp
 refine Qc h zsi zcl zcl fun C hC hm=>?_
 subst hC
 simp only [X2,qd,DC.ac]
 have hq:=hp.b
 exact zg
def Vi:=qd Proofs.Tryz.f124 []
def Kk (Γ:Env) (f:Nat):Prop:=(∃ g:Nat,XN Γ g∧∀ k:Nat,EvC Γ f [.clo (.n k) []] (.clo (.n g) [.ro [.clo (.n k) []] 0]))
theorem ac0 {Γ:Env} {f:Nat} (h:Has Γ.P f 4 Vi.1.1.ac Vi.1.2) (z0:XN Γ 125):Kk Γ f:=by
 refine ⟨125,z0,fun k=>?_⟩
 refine Q0 h (by simp) (by simp only [V.closed,Qb,and_self]) fun C hC hm=>?_
 subst hC
 simp only [Vi,qd,DC.ac]
 exact zg
def Yi:=qd Proofs.Tryz.f71 []
def Yc (Γ:Env) (f:Nat):Prop:=∀ (xs:List Int) (g:Nat) (cap:List V) (p:Int→Bool) (hp:∀ x∈xs,EvN Γ g (V.int x :: cap) (V.bool (p x))) (hcap:Qb cap) (hl:xs.length < 2 ^ 62),EvN Γ f [.sl 1 (xs.map V.int),.clo g cap] (V.int (ja p 0 xs))
attribute [local go_sem] zH in
theorem yn {Γ:Env} {f:Nat} (h:Has Γ.P f 19 Yi.1.1.ac Yi.1.2) :Yc Γ f:=by
 intro xs g cap p hp hcap hl
 refine Qc h zsi zcl zcl fun C hC hm=>?_
 subst hC
 simp only [Yi,qd,DC.ac]
 have s1:∀ o,Yj o cap = cap:=fun o=>Yg o cap hcap
 have s2:∀ o B,Qw o B cap = True:=fun o B=>eq_true (Jz o B cap hcap)
 refine zgo ?_;repeat' first|exact zt|apply zan|intro hc
 refine Ji (ι:=Nat) (fun k=>k≤xs.length∧ja p k (xs.drop k) = ja p 0 xs) (fun k=>[(8,V.int k)]) (fun k=>xs.length - k) 0 (by omega) ⟨by simp,by simp⟩ zol (fun i hi=>by simp only [ovT,Xs,Nat.reduceEqDiff,reduceIte];(repeat' first|exact ae0|refine abY ?_ ?_|simp only [V.lt,ltL,and_self,and_true]|omega);exact YG _ _ hcap) (by simp only [Nat.reduceAdd,ovT,Xs,Nat.reduceEqDiff,reduceIte,KA,xA,aqC,u32,u33,u34,u35,u36,u37,u38,u39,and_self,and_true,true_and];first|rfl|exact Qy _ _ hcap) fun k hk K' hL=>?_
 obtain ⟨hk,hinv⟩:=hk
 simp only [ovT,Xs,Nat.reduceEqDiff,reduceIte]
 rcases hd:xs.drop k with _|⟨y,r⟩
 ·have:=Qu hd
  rw [hd] at hinv
  have e1:decide ((k:Int) < (((xs.map V.int).length:Nat):Int)) = false:=by simp;omega
  (have zx:=e1);refine zgo ?_;repeat' first|exact zt|apply zan|intro hc
  refine Qg _ rfl ?_
  simp only [go_sem]
  rw [← hinv];rfl
 ·obtain ⟨hk,hget,hr⟩:=Qq hd
  rw [hd] at hinv
  have hw:=Qe (k:=k) (by omega)
  have e1:decide ((k:Int) < (((xs.map V.int).length:Nat):Int)) = true:=by simp;omega
  have hpy:=hp y (zq hget)
  by_cases hy:p y = true
  ·rw [hy] at hpy
   (have zy0:=hpy.b;have zx:=za hget (za hw (za e1 (za s1 s2))));refine zgo ?_;repeat' first|exact zt|apply zan|intro hc
   refine Qg _ rfl ?_;simp only [go_sem]
   rw [← hinv];simp [ja,hy]
  ·have hy':p y = false:=by simpa using hy
   rw [hy'] at hpy
   (have zy0:=hpy.b;have zx:=za hget (za hw (za e1 (za s1 s2))));refine zgo ?_;repeat' first|exact zt|apply zan|intro hc
   refine hL _ (k + 1) zet ⟨by omega,?_⟩ (by omega) zoe
   rw [hr,← hinv,ja,if_neg hy]
def JV:=qd Proofs.Tryz.f126 []
def Yu (Γ:Env) (f:Nat):Prop:=∀ (xs:List Int) (g:Nat) (cap:List V) (p:Int→Bool) (hp:∀ x∈xs,EvN Γ g (V.int x :: cap) (V.bool (p x))) (hcap:Qb cap) (hl:xs.length < 2 ^ 62),EvN Γ f [.sl 1 (xs.map V.int),.clo g cap] (V.bool (xs.any p))
theorem qT {Γ:Env} {f:Nat} (h:Has Γ.P f 9 JV.1.1.ac JV.1.2) (z0:Yc Γ 71):Yu Γ f:=by
 intro xs g cap p hp hcap hl
 refine Qc h zsi zcl zcl fun C hC hm=>?_
 subst hC
 simp only [JV,qd,DC.ac]
 have s1:∀ o,Yj o cap = cap:=fun o=>Yg o cap hcap
 have s2:∀ o B,Qw o B cap = True:=fun o B=>eq_true (Jz o B cap hcap)
 have hi:=(z0 xs g cap p hp hcap hl).b
 have e1:=abi p xs 0
 (have zx:=za s1 (za s2 e1));exact zg
def UQ:=qd Proofs.Tryz.f58 [⟨fun _=>true,[3,9],.one 0 (.one 1 (.one 2 (.one 3 (.one 4 (.one 5 (.one 6 (.one 8 (.or 7 (.one 9 (.one 10 (.one 11 (.done)))) (.or 9 (.one 7 (.one 10 (.one 11 (.done)))) (.done))))))))))⟩]
def jG (Γ:Env) (f:Nat):Prop:=∀ (e:apf) (sm:e.Sm),EvN Γ f [e.v] (V.int (if abu e = true then 0 else 19))
attribute [local go_sem] yL.cells yL.v in
theorem afp {Γ:Env} {f:Nat} (h:Has Γ.P f 83 UQ.1.1.ac UQ.1.2) (z0:XD Γ 87) (z1:qJ Γ 121) (z2:Kj Γ 122) (z3:jB Γ 123) (z4:Kk Γ 124) (z5:XP Γ 127) (z6:Yu Γ 126) (z7:yA Γ 128):jG Γ f:=by
 intro e sm
 refine Qc h zsi zcl zcl fun C hC hm=>?_
 subst hC
 simp only [UQ,qd,DC.ac]
 have hw:=(z0 e.name sm.hn).b
 have hsu:=(z1 e.suites sm.hs).b
 have ha1:=(z2 e.anchors sm.ha).b
 have ha2:=(z2 e.hashes sm.hh).b
 obtain ⟨g,hg1,hg⟩:=z4
 have g1:=(hg 127).b
 have g2:=(hg 128).b
 have k1:=(z6 e.anchors g [.ro [.clo (.n 127) []] 0] (fun x=>!arU x) (fun x _=>hg1 127 arU x (z5 x)) (by simp [V.closed,Qb]) (by have:=sm.ha;omega)).b
 have k2:=(z6 e.hashes g [.ro [.clo (.n 128) []] 0] (fun x=>!apU x) (fun x _=>hg1 128 apU x (z7 x)) (by simp [V.closed,Qb]) (by have:=sm.hh;omega)).b
 have no1:axO e = false→(if abu e = true then (0:Int) else 19) = 19:=fun h=>by simp [abu,h]
 have no2:axN e = false→(if abu e = true then (0:Int) else 19) = 19:=fun h=>by simp [abu,h]
 have no3:ayN e = false→(if abu e = true then (0:Int) else 19) = 19:=fun h=>by simp [abu,h]
 have no4:aw2 e = false→(if abu e = true then (0:Int) else 19) = 19:=fun h=>by simp [abu,h]
 have lm1:(e.idents.map yL.v).length = e.idents.length:=zb _
 have lm2:(e.anchors.map V.int).length = e.anchors.length:=zb _
 have lm3:(e.hashes.map V.int).length = e.hashes.length:=zb _
 simp only [apf.v,apf.cells]
 rcases q1:axO e with _|_
 ·rw [no1 q1]
  rcases b1:ahl e.name with _|_
  ·rw [b1] at hw
   exact zg
  rw [b1] at hw
  by_cases b2:e.least < 1
  ·have e2:decide (e.least < 1) = true:=zn b2
   (have zx:=e2);exact zg
  have e2:decide (e.least < 1) = false:=zp b2
  by_cases b3:e.least > e.most
  ·have e3:decide (e.least > e.most) = true:=zn b3
   (have zx:=za e2 e3);exact zg
  have e3:decide (e.least > e.most) = false:=zp b3
  by_cases b4:e.most > 4
  ·have e4:decide (e.most > 4) = true:=zn b4
   (have zx:=za e2 (za e3 e4));exact zg
  have e4:decide (e.most > 4) = false:=zp b4
  have b5:aag e.suites = false:=by
   rw [axO,b1,zn (by omega:e.least≥1),zn (by omega:e.least≤e.most),zn (by omega:e.most≤4)] at q1
   simpa using q1
  rw [b5] at hsu
  (have zx:=za e2 (za e3 e4));exact zg
 have p1:=q1
 simp only [axO,zA,zC] at p1
 obtain ⟨b1,b2,b3,b4,b5⟩:=p1
 rw [b1] at hw
 rw [b5] at hsu
 have e2:decide (e.least < 1) = false:=zp (by omega)
 have e3:decide (e.least > e.most) = false:=zp (by omega)
 have e4:decide (e.most > 4) = false:=zp (by omega)
 rcases q2:axN e with _|_
 ·rw [no2 q2]
  by_cases c1:(e.idents.length:Int) > 4
  ·have f1:decide ((e.idents.length:Int) > 4) = true:=zn c1
   (have zx:=za e2 (za e3 (za e4 (za lm1 f1))));exact zg
  have f1:decide ((e.idents.length:Int) > 4) = false:=zp c1
  by_cases c2:(e.anchors.length:Int) > 16
  ·have f2:decide ((e.anchors.length:Int) > 16) = true:=zn c2
   (have zx:=za e2 (za e3 (za e4 (za lm1 (za lm2 (za f1 f2))))));exact zg
  have f2:decide ((e.anchors.length:Int) > 16) = false:=zp c2
  rcases c3:awL e.anchors with _|_
  ·rw [c3] at ha1
   (have zx:=za e2 (za e3 (za e4 (za lm1 (za lm2 (za f1 f2))))));exact zg
  rw [c3] at ha1
  have c4:awL e.hashes = false:=by
   rw [axN,c3,zn (by omega:(e.idents.length:Int)≤4),zn (by omega:(e.anchors.length:Int)≤16)] at q2
   simpa using q2
  rw [c4] at ha2
  (have zx:=za e2 (za e3 (za e4 (za lm1 (za lm2 (za f1 f2))))));exact zg
 have p2:=q2
 simp only [axN,zA,zC] at p2
 obtain ⟨c1,c2,c3,c4⟩:=p2
 rw [c3] at ha1
 rw [c4] at ha2
 have f1:decide ((e.idents.length:Int) > 4) = false:=zp (by omega)
 have f2:decide ((e.anchors.length:Int) > 16) = false:=zp (by omega)
 (have zx:=za e2 (za e3 (za e4 (za lm1 (za lm2 (za f1 f2))))));refine zgo ?_;repeat' first|exact zt|apply zan|intro hc
 refine Ji (ι:=Nat) (fun k=>k≤e.idents.length∧(e.idents.take k).all yL.ok = true) (fun k=>[(58,V.int k)]) (fun k=>e.idents.length - k) 0 (by omega) ⟨zJ _,rfl⟩ zol zlt zet fun k hk K' hL=>?_
 obtain ⟨hk,hinv⟩:=hk
 simp only [ovT,Xs,Nat.reduceEqDiff,reduceIte]
 rcases hd:e.idents.drop k with _|⟨x,r⟩
 ·have hkl:=Qu hd
  have e5:decide ((k:Int) < ((e.idents.length:Nat):Int)) = false:=by simp;omega
  have q3:ayN e = true:=by rw [zi hkl] at hinv;exact hinv
  rcases d1:e.anchors.any (fun x=>!arU x) with _|_
  ·rw [d1] at k1
   rcases d2:e.hashes.any (fun x=>!apU x) with _|_
   ·rw [d2] at k2
    have q4:aw2 e = true:=by
     rw [aw2,zA,kN,kN]
     rw [List.any_eq_false] at d1 d2
     exact ⟨fun x hx=>by simpa using d1 x hx,fun x hx=>by simpa using d2 x hx⟩
    have hc:abu e = true:=by rw [abu,q1,q2,q3,q4];rfl
    rw [if_pos hc]
    clear hc
    (have zx:=za e5 lm1);exact zg
   ·rw [d2] at k2
    obtain ⟨x,hx,hx2⟩:=kz.1 d2
    rw [no4 (by rw [aw2,Ze.2 ⟨x,hx,by simpa using hx2⟩,zY])]
    (have zx:=za e5 lm1);exact zg
  ·rw [d1] at k1
   obtain ⟨x,hx,hx2⟩:=kz.1 d1
   rw [no4 (by rw [aw2,Ze.2 ⟨x,hx,by simpa using hx2⟩,zK])]
   (have zx:=za e5 lm1);exact zg
 ·obtain ⟨hk',hget,hrr⟩:=Qq hd
  have hwk:=Qe (k:=k) (by omega)
  have e5:decide ((k:Int) < ((e.idents.length:Nat):Int)) = true:=by simp;omega
  have hm:=zq hget
  have hsh:=(z3 x.kalg x.kbits x.kid x.chain (sm.hx x hm).hl (sm.hx x hm).hc).b
  rcases hcb:yL.ok x with _|_
  ·have hcc:adu x.kalg x.kbits x.kid x.chain = false:=hcb
   rw [hcc] at hsh
   rw [no3 (Ze.2 ⟨x,hm,by simp [hcb]⟩)]
   (have zx:=za e5 (za hwk (za lm1 hget)));exact zg
  ·have hcc:adu x.kalg x.kbits x.kid x.chain = true:=hcb
   rw [hcc] at hsh
   (have zx:=za e5 (za hwk (za lm1 hget)));refine zgo ?_;repeat' first|exact zt|apply zan|intro hc
   all_goals exact hL _ (k + 1) zet ⟨by omega,apd hget hinv hcb⟩ (by omega) zoe
theorem aoF (p:Int→Bool):∀ (xs:List Int) (k:Nat),(ja p k xs = -1∧∀ y∈xs,p y = false)∨∃ i y,ja p k xs = ((k + i:Nat):Int)∧xs[i]? = some y∧p y = true∧∀ z∈xs.take i,p z = false
 | [],k=>.inl ⟨rfl,by simp⟩
 | x :: r,k=>by
   rw [ja]
   by_cases h:p x = true
   ·rw [if_pos h];exact .inr ⟨0,x,rfl,rfl,h,by simp⟩
   ·rw [if_neg h]
    have h2:p x = false:=by simpa using h
    rcases aoF p r (k + 1) with ⟨h3,h4⟩|⟨i,y,h3,h4,h5,h6⟩
    ·exact .inl ⟨h3,fun y hy=>by
      rcases zw.1 hy with rfl|hy
      ·exact h2
      ·exact h4 y hy⟩
    ·refine .inr ⟨i + 1,y,by rw [h3];congr 1;omega,by simpa using h4,h5,fun z hz=>?_⟩
     rw [List.take_succ_cons] at hz
     rcases zw.1 hz with rfl|hz
     ·exact h2
     ·exact h6 z hz
theorem aoP {p:Int→Bool} {xs:List Int} (h:∀ y∈xs,p y = false):xs.filter (fun x=>!p x) = xs:=by
 rw [List.filter_eq_self];intro y hy;rw [h y hy];rfl
def Yb:=qd Proofs.Tryz.f29 []
def YU (Γ:Env) (f:Nat):Prop:=∀ (xs:List Int) (g:Nat) (cap:List V) (p:Int→Bool) (hp:∀ x∈xs,EvN Γ g (V.int x :: cap) (V.bool (p x))) (hcap:Qb cap) (hl:xs.length < 2 ^ 34),EvZ Γ f [.clo g cap] 1 (xs.map V.int) ((xs.filter fun x ↦ !p x).length) ((xs.filter fun x ↦ !p x).map V.int++List.replicate (xs.length - (xs.filter fun x ↦ !p x).length) (V.int 0))
attribute [local go_sem] QS in
theorem yh {Γ:Env} {f:Nat} (h:Has Γ.P f 42 Yb.1.1.ac Yb.1.2) (z0:Yc Γ 71):YU Γ f:=by
 intro xs g cap p hp hcap hl
 refine ac3 h (by simp) fun C hC hm=>?_
 subst hC
 simp only [Yb,qd,DC.ac]
 have s1:∀ o,Yj o cap = cap:=fun o=>Yg o cap hcap
 have s2:∀ o B,Qw o B cap = True:=fun o B=>eq_true (Jz o B cap hcap)
 have s3:∀ τ,Ks τ cap = cap:=fun τ=>Qy τ cap hcap
 have s4:∀ n,ltL n cap:=fun n=>YG n cap hcap
 have hlen:(xs.map V.int).length = xs.length:=zb _
 have htk:List.take xs.length (xs.map V.int) = xs.map V.int:=zi (by omega)
 have hi:=(z0 xs g cap p hp hcap (by omega)).b
 rcases aoF p xs 0 with ⟨hx,hall⟩|⟨i,y,hx,hy,hpy,hall⟩
 ·rw [aoP hall,k9]
  rw [hx] at hi
  have e1:((-1:Int) == -1) = true:=by decide
  (have zx:=za e1 (za s1 (za s2 (za hlen htk))));refine zgo ?_;repeat' first|exact zt|apply zan|intro hc
  all_goals first|(refine agb _ rfl rfl rfl ?_ ?_<;>first|rfl|(simp;done))
 rw [kH] at hx
 rw [hx] at hi
 have hil:=(zl.1 hy).1
 have e1:((i:Int) == -1) = false:=by rw [kM];omega
 have hwi:=Qe (k:=i) (by omega)
 (have zx:=za e1 (za s1 (za s2 (za hlen (za htk hwi)))));refine zgo ?_;repeat' first|exact zt|apply zan|intro hc
 refine Qj (ι:=List Int×Nat×Nat) (fun q=>q.1.length = xs.length∧q.2.1 < q.2.2∧q.2.2≤xs.length∧q.1.take q.2.1 = (xs.take q.2.2).filter (fun x=>!p x)∧q.1.drop q.2.2 = xs.drop q.2.2)
  (fun q=>QS [(0,.hd 0 0 (xs.map V.int).length),(1,.clo g cap),(5,V.int q.2.1),(6,V.int q.2.2)] [(0,.buf true 1 (q.1.map V.int))] 1) (fun q=>xs.length - q.2.2) (xs,i,i + 1)
  ⟨rfl,by simp only;omega,by simp only;omega,?_,rfl⟩ (Qd []) (Qh [] (by simp only [go_sem,zwl,s3,s4,hlen]<;>exact zcc) zwa (by simp) (by simp) (by omega)) fun q hq K' hL=>?_
 ·dsimp only
  rw [zB,hy,kU,aoP hall]
  simp [hpy]
 obtain ⟨B,n,j⟩:=q
 obtain ⟨hB,hnj,hj,ht,hd⟩:=hq
 dsimp only at hB hnj hj ht hd
 have hBl:(B.map V.int).length = xs.length:=by rw [zb,hB]
 have hwj:=Qe (k:=j) (by omega)
 have hwn:=Qe (k:=n) (by omega)
 by_cases hje:j = xs.length
 ·have e3:decide ((j:Int) < (xs.length:Int)) = false:=zp (by omega)
  rw [hje,zG] at ht
  have hgl:(xs.filter fun x=>!p x).length = n:=by rw [← ht,zU,hB];omega
  rw [hgl,← ht]
  (have zx:=za e3 hlen);refine zgo ?_;repeat' first|exact zt|apply zan|intro hc
  all_goals first
   | (rw [hlen];omega)
   | omega
   | (refine agb _ rfl rfl rfl ?_ ?_<;>first|rfl|(rw [Zs (by rw [hBl];omega),ka,kO];first|done|rfl)|(simp;done))
 have e3:decide ((j:Int) < (xs.length:Int)) = true:=zn (by omega)
 obtain ⟨u,hu⟩:∃ u,xs[j]? = some u:=⟨_,zd (by omega)⟩
 have hpu:=hp u (zq hu)
 have bu:B[j]? = some u:=by
  have:(B.drop j)[0]? = (xs.drop j)[0]?:=by rw [hd]
  rw [kI,kI,Nat.add_zero,hu] at this
  exact this
 have vu:(B.map V.int)[j]? = some (V.int u):=by rw [zo,bu];rfl
 have hd2:B.drop (j + 1) = xs.drop (j + 1):=by rw [← kQ,← kQ,hd]
 have hset:(B.map V.int).set n (V.int u) = (B.set n u).map V.int:=Zt.symm
 have ht2:(xs.take (j + 1)).filter (fun x=>!p x) = B.take n++(if p u = true then [] else [u]):=by
  rw [zB,hu,kU,ht]
  rcases hb0:p u with _|_<;>simp [hb0]
 rcases hb:p u with _|_
 ·rw [hb] at hpu ht2
  obtain ⟨t,bt⟩:∃ t,B[n]? = some t:=⟨_,zd (by omega)⟩
  have vt:(B.map V.int)[n]? = some (V.int t):=by rw [zo,bt];rfl
  (have zy0:=hpu.b;have zx:=za e3 (za hlen (za hwj (za hwn (za vu (za vt (za hset (za s1 s2))))))));refine zgo ?_;repeat' first|exact zt|apply zan|intro hc
  all_goals first
   | exact hL _ (B.set n u,n + 1,j + 1) (Qd []) ⟨by simp [hB],by simp only;omega,by simp only;omega,by
      dsimp only
      rw [ht2,zB,Zf (by omega),List.take_set_of_le (by omega)];rfl,by
      dsimp only
      rw [List.drop_set_of_lt (by omega)];exact hd2⟩ (by simp only;omega) (Qh [] (by simp only [go_sem,zwl,s3,s4,hlen]<;>exact zcc) zwa (by simp) (by simp) (by omega))
 ·rw [hb] at hpu ht2
  (have zy0:=hpu.b;have zx:=za e3 (za hlen (za hwj (za hwn (za vu (za s1 s2))))));refine zgo ?_;repeat' first|exact zt|apply zan|intro hc
  all_goals first
   | exact hL _ (B,n,j + 1) (Qd []) ⟨hB,by simp only;omega,by simp only;omega,by dsimp only;rw [ht2];simp,hd2⟩ (by simp only;omega) (Qh [] (by simp only [go_sem,zwl,s3,s4,hlen]<;>exact zcc) zwa (by simp) (by simp) (by omega))
def X1:=qd Proofs.Tryz.f30 []
def Vz (Γ:Env) (f:Nat):Prop:=∀ (x i:Int),EvN Γ f [V.int x,.ro [V.int i] 0] (V.bool (x == i))
theorem abm {Γ:Env} {f:Nat} (h:Has Γ.P f 7 X1.1.1.ac X1.1.2) :Vz Γ f:=by
 intro x i
 refine Qc h zsi zcl zcl fun C hC hm=>?_
 subst hC
 simp only [X1,qd,DC.ac]
 exact zg
def anq (l:List Qa) (gap day age:Int) (f:Qo) (fs:List Nat):Bool:=decide (Y6 (JN l fs) gap = 0) && yI (JN l fs) gap day age f
def qQ (i:Nat) (fs:List Nat):List Nat:=fs.filter fun x=>!(x == i)
def ab8 (h:List Nat→Bool):List Nat→List Nat→Bool→List Nat×Bool
 | [],fs,b=>(fs,b)
 | i :: r,fs,b=>if h (qQ i fs) = true then ab8 h r (qQ i fs) true else ab8 h r fs b
def al7 (h:List Nat→Bool):Nat→List Nat→List Nat
 | 0,fs=>fs
 | n + 1,fs=>if (ab8 h fs fs false).2 = true then al7 h n (ab8 h fs fs false).1 else (ab8 h fs fs false).1
theorem atH (i:Nat) (fs:List Nat):(qQ i fs).length≤fs.length:=kJ ..
theorem avT {i:Nat} {fs:List Nat} (h:i∈fs):(qQ i fs).length < fs.length:=by
 rw [qQ,List.length_filter_lt_length_iff_exists]
 exact ⟨i,h,by simp⟩
theorem aow (i:Nat) (fs:List Nat):(qQ i fs).Sublist fs:=Zr
theorem akd {h:List Nat→Bool}:∀ (r fs:List Nat) (b:Bool),(ab8 h r fs b).1.Sublist fs
 | [],fs,b=>List.Sublist.refl _
 | i :: r,fs,b=>by
   rw [ab8]
   split
   ·exact (akd r _ _).trans (aow i fs)
   ·exact akd r _ _
theorem ard {h:List Nat→Bool}:∀ (r fs:List Nat),r.Nodup→(∀ i∈r,i∈fs)→(ab8 h r fs false).2 = true→(ab8 h r fs false).1.length < fs.length
 | [],fs,_,_,hb=>by cases hb
 | i :: r,fs,hn,hs,hb=>by
   rw [ab8] at hb ⊢
   split
   ·exact Nat.lt_of_le_of_lt (akd r _ _).length_le (avT (hs i kD))
   ·rename_i hh
    rw [if_neg hh] at hb
    exact ard r fs (bl.1 hn).2 (fun j hj=>hs j (kp _ hj)) hb
theorem adB {h:List Nat→Bool}:∀ (r fs:List Nat) (b:Bool),h fs = true→h (ab8 h r fs b).1 = true
 | [],fs,b,hh=>hh
 | i :: r,fs,b,hh=>by
   rw [ab8]
   split
   ·rename_i h2;exact adB r _ _ h2
   ·exact adB r _ _ hh
theorem al6 {h:List Nat→Bool}:∀ (n:Nat) (fs:List Nat),h fs = true→h (al7 h n fs) = true
 | 0,fs,hh=>hh
 | n + 1,fs,hh=>by
   rw [al7]
   split
   ·exact al6 n _ (adB fs fs false hh)
   ·exact adB fs fs false hh
def ap0 (l:List Qa) (gap day age:Int) (f:Qo):List Nat:=al7 (anq l gap day age f) (l.length + 1) (List.range l.length)
def asm (l:List Qa) (gap day age:Int) (f:Qo):V :=
 if XW l gap day age = 0 then (if yI l gap day age f = true then .tup [.sl 1 (QL (ap0 l gap day age f)),V.int 0] else .tup [.sl 1 [],V.int 4]) else .tup [.sl 1 [],V.int (XW l gap day age)]
def zrs (z:Nat):List V:=List.replicate z (V.int 0)
theorem apg (z:Nat):Qb (zrs z):=by
 induction z with
 | zero=>trivial
 | succ z ih=>exact ⟨trivial,ih⟩
def lfc (fs:List Nat) (z:Nat):List V:=QL fs++zrs z
theorem ajC (fs:List Nat) (z:Nat):Qb (lfc fs z):=by
 rw [lfc]
 induction fs with
 | nil=>exact apg z
 | cons i r ih=>exact ⟨by simp only [V.closed],ih⟩
theorem ae2 (σ:Nat→Nat) (fs:List Nat) (z:Nat):Ks σ (lfc fs z) = lfc fs z:=Qy _ _ (ajC fs z)
theorem ajB (n:Nat) (fs:List Nat) (z:Nat):ltL n (lfc fs z):=YG _ _ (ajC fs z)
theorem atF (fs:List Nat):lfc fs 0 = QL fs:=ka _
theorem akl (fs:List Nat) (z:Nat):(lfc fs z).take fs.length = QL fs:=by
 rw [lfc,ZL (by rw [X7];exact zj _),zi (by rw [X7];exact zj _)]
theorem anl (fs:List Nat) (z:Nat):(lfc fs z).length = fs.length + z:=by simp [lfc,zrs,QL]
theorem atG (i:Nat) (fs:List Nat):((fs.map fun n:Nat=>(n:Int)).filter fun x=>!(x == (i:Int))) = (qQ i fs).map fun n:Nat=>(n:Int):=by
 rw [qQ,List.filter_map]
 congr 1
 apply List.filter_congr
 intro x _
 simp only [Function.comp]
 congr 1
 rw [Zq]
 simp
 omega
theorem asF {l:List Qa} {fs:List Nat} (h:∀ x∈l,x.Sz):∀ x∈JN l fs,x.Sz:=fun x hx=>by
 rw [JN,Z5] at hx
 obtain ⟨i,_,hi⟩:=hx
 exact h x (zq hi)
def exT (l:List Qa) (gap day age:Int):List (Nat×V):=[(0,.sl 11 (l.map Qa.v)),(1,V.int gap),(2,V.int day),(3,V.int age),(9,.ptr 0 0)]
def asn (l:List Qa) (gap day age:Int) (f:Qo) (k:Nat):St:=QS (exT l gap day age++[(14,.hd 1 0 k),(39,V.int l.length),(40,V.int k)]) [(0,.box true f.cells),(1,.buf true 1 (QL (List.range k)))] 2
def anz (l:List Qa) (gap day age:Int) (f:Qo) (fs:List Nat) (z:Nat) (b:Bool):St:=QS (exT l gap day age++[(14,.hd 1 0 fs.length),(16,V.bool b)]) [(0,.box true f.cells),(1,.buf true 1 (lfc fs z))] 2
def akt (l:List Qa) (gap day age:Int) (f:Qo) (fs gs:List Nat) (z:Nat) (b:Bool) (k:Nat):St:=QS (exT l gap day age++[(14,.hd 1 0 gs.length),(16,V.bool b),(50,.hd 2 0 fs.length),(51,V.int fs.length),(52,V.int k)]) [(0,.box true f.cells),(1,.buf true 1 (lfc gs z)),(2,.buf true 1 (QL fs))] 3
def Ve:=qd Proofs.Tryz.f11 [zhn 13]
def Kh (Γ:Env) (f:Nat):Prop:=∀ (l:List Qa) (gap day age:Int) (f0:Qo) (hl:l.length < 2 ^ 30) (hz:∀ x∈l,x.Sz),EvC Γ f [.sl 11 (l.map Qa.v),V.int gap,V.int day,V.int age,f0.v] (asm l gap day age f0)
attribute [local go_sem] QS in
theorem acW {Γ:Env} {f:Nat} (h:Has Γ.P f 79 Ve.1.1.ac Ve.1.2) (z0:Ug Γ 13) (z1:Ya Γ 28) (z3:Vz Γ 30) (z4:YU Γ 29) (z5:qH Γ 31):Kh Γ f:=by
 intro l gap day age f0 hl hz
 refine Q0 h zsi (by unfold asm;(repeat' split)<;>simp only [V.closed,Qb,and_self]) fun C hC hm=>?_
 subst hC
 simp only [Ve,qd,DC.ac]
 have g0:=(z0 l gap day age f0 hl hz).b
 simp only [Qo.v,Qo.cells] at g0 ⊢
 by_cases hE:XW l gap day age = 0
 rotate_left
 ·rw [asm,if_neg hE]
  rw [adK,if_neg hE] at g0
  have e01:(XW l gap day age != 0) = true:=by simpa using hE
  generalize XW l gap day age = er at *
  (have zx:=e01);exact zg
 rw [asm,if_pos hE]
 have hkE:∀ l':List Qa,XW l' gap day age = Y6 l' gap:=fun l'=>atJ (vO.1 hE).rng
 rw [adK,if_pos hE] at g0
 have e00:((0:Int) != 0) = false:=by decide
 rcases hH:yI l gap day age f0 with _|_
 ·rw [if_neg (by decide)]
  rw [hH] at g0
  (have zx:=e00);exact zg
 rw [if_pos rfl]
 rw [hH] at g0
 have hgv:(l.map Qa.v).length = l.length:=zb _
 (have zx:=za e00 hgv);refine zgo ?_;repeat' first|exact zt|apply zan|intro hc
 refine Qj (ι:=Nat) (fun k=>k≤l.length) (fun k=>asn l gap day age f0 k) (fun k=>l.length - k) 0 (zJ _) (Qd [(1,20000)]) (Qh [(1,20000)] (by simp only [go_sem,zwl,asn,exT,List.cons_append,List.nil_append]<;>exact zcc) (by simp only [go_sem,zwl,asn,exT,Qo.cells,QH,Q6]<;>exact zcc) (by simp [asn,Qd]) (by simp [asn];omega) (by omega)) fun k hk K' hL=>?_
 rcases ZM k l.length with hk'|hkl
 ·have hw:=Qe (k:=k) (by omega)
  have e1:decide ((k:Int) < (l.length:Int)) = true:=zn (by omega)
  have hjn:=aiR k
  have hol:(QL (List.range k)).length = k:=by rw [X7,ZH]
  have htl:List.take k (QL (List.range k)) = QL (List.range k):=zi (by omega)
  simp only [asn,exT,Qo.cells,List.cons_append,List.nil_append]
  (have zx:=za e1 (za hw (za hjn (za hol htl))));refine zgo ?_;repeat' first|exact zt|apply zan|intro hc
  all_goals exact hL _ (k + 1) (Qd [(1,6002)]) (by omega) (by omega) (Qh [(1,6002)] (by simp only [go_sem,zwl,asn,exT,List.cons_append,List.nil_append]<;>exact zcc) (by simp only [go_sem,zwl,asn,exT,Qo.cells,QH,Q6]<;>exact zcc) (by simp [asn,Qd]) (by simp [asn];omega) (by omega))
 obtain rfl:k = l.length:=by omega
 clear hL
 have e1:decide ((l.length:Int) < (l.length:Int)) = false:=by simp
 simp only [asn,exT,Qo.cells,List.cons_append,List.nil_append]
 (have zx:=e1);refine zgo ?_;repeat' first|exact zt|apply zan|intro hc
 have hrl:(List.range l.length).length = l.length:=ZH
 have hz0:=atF (List.range l.length)
 generalize hhh:anq l gap day age f0 = hh at *
 generalize hfin:al7 hh (l.length + 1) (List.range l.length) = fin at *
 have hfo:ap0 l gap day age f0 = fin:=by rw [ap0,hhh,hfin]
 rw [hfo]
 refine Qj (ι:=List Nat×Nat×Bool×Nat) (fun q=>q.1.Sublist (List.range l.length)∧if q.2.2.1 = true then q.1.length < q.2.2.2∧al7 hh q.2.2.2 q.1 = fin else q.1 = fin) (fun q=>anz l gap day age f0 q.1 q.2.1 q.2.2.1) (fun q=>if q.2.2.1 = true then q.2.2.2 else 0) (List.range l.length,0,true,l.length + 1) ⟨List.Sublist.refl _,by dsimp only;rw [if_pos rfl];exact ⟨by omega,hfin⟩⟩ (Qd []) (Qh [] (by simp only [go_sem,zwl,anz,exT,hrl,List.cons_append,List.nil_append]<;>exact zcc) (by simp only [go_sem,zwl,anz,exT,hz0,Qo.cells,QH,Q6]<;>exact zcc) (by simp [anz,Qd]) (by simp [anz]) (by omega)) fun q hq K' hL=>?_
 obtain ⟨fs,z,b,n⟩:=q
 obtain ⟨hsb,hif⟩:=hq
 dsimp only at hsb hif
 have hfl:=hsb.length_le
 rw [hrl] at hfl
 have hft:=akl fs z
 have hll:=anl fs z
 have hmem:∀ gs:List Nat,gs.Sublist fs→∀ i∈gs,i < l.length:=fun gs h1 i h2=>Zy.1 (hsb.subset (h1.subset h2))
 rcases b with _|_
 ·rw [if_neg (by decide)] at hif
  subst hif
  simp only [anz,exT,Qo.cells,List.cons_append,List.nil_append]
  (have zx:=hft);refine zgo ?_;repeat' first|exact zt|apply zan|intro hc
  all_goals (refine Qg _ rfl ?_;simp only [go_sem];rw [hft];done)
 rw [if_pos rfl] at hif
 obtain ⟨hn,hex⟩:=hif
 obtain ⟨n,rfl⟩:∃ m,n = m + 1:=⟨n - 1,by omega⟩
 rw [al7] at hex
 have gC:=z1 (fs.map fun n:Nat=>(n:Int)) (by rw [zb];omega)
 simp only [ahD] at gC
 have hpl:(QL fs).length = fs.length:=X7 fs
 simp only [anz,exT,Qo.cells,List.cons_append,List.nil_append]
 (have zx:=za hft hpl);refine zgo ?_;repeat' first|exact zt|apply zan|intro hc
 refine Qj (ι:=List Nat×Nat×Bool×Nat) (fun q=>q.2.2.2≤fs.length∧q.1.Sublist fs∧ab8 hh (fs.drop q.2.2.2) q.1 q.2.2.1 = ab8 hh fs fs false) (fun q=>akt l gap day age f0 fs q.1 q.2.1 q.2.2.1 q.2.2.2) (fun q=>fs.length - q.2.2.2) (fs,z,false,0) ⟨zJ _,List.Sublist.refl _,by rw [kZ]⟩ (Qd [(2,3002)]) (Qh [(2,3002)] (by simp only [go_sem,zwl,akt,exT,List.cons_append,List.nil_append]<;>exact zcc) (by simp only [go_sem,zwl,akt,exT,Qo.cells,ae2,ajB,QH,Q6]<;>exact zcc) (by simp [akt,Qd]) (by simp [akt];omega) (by omega)) fun q hq K2 hL2=>?_
 obtain ⟨gs,z2,b2,k⟩:=q
 obtain ⟨hk,hgs,hps⟩:=hq
 dsimp only at hk hgs hps
 have hgl:=hgs.length_le
 have hft2:=akl gs z2
 have hll2:=anl gs z2
 rcases hdr:fs.drop k with _|⟨i,r⟩
 ·have hkl:=Qu hdr
  have e2:decide ((k:Int) < (fs.length:Int)) = false:=zp (by omega)
  rw [hdr,ab8] at hps
  have hlt:=ard (h:=hh) fs fs (List.nodup_range.sublist hsb) (fun i hi=>hi)
  rw [← hps] at hex hlt
  dsimp only at hex hlt
  simp only [akt,exT,Qo.cells,List.cons_append,List.nil_append]
  rcases b2 with _|_
  ·rw [if_neg (by decide)] at hex
   (have zx:=e2);refine zgo ?_;repeat' first|exact zt|apply zan|intro hc
   all_goals exact hL _ (gs,z2,false,0) (Qd []) ⟨hgs.trans hsb,by dsimp only;rw [if_neg (by decide)];exact hex⟩ (by simp) (Qh [] (by simp only [go_sem,zwl,anz,exT,List.cons_append,List.nil_append]<;>exact zcc) (by simp only [go_sem,zwl,anz,exT,Qo.cells,ae2,ajB]<;>exact zcc) (by simp [anz,Qd]) (by simp [anz]) (by omega))
  ·rw [if_pos rfl] at hex
   have hlt2:=hlt rfl
   (have zx:=e2);refine zgo ?_;repeat' first|exact zt|apply zan|intro hc
   all_goals exact hL _ (gs,z2,true,n) (Qd []) ⟨hgs.trans hsb,by dsimp only;rw [if_pos rfl];exact ⟨by omega,hex⟩⟩ (by simp) (Qh [] (by simp only [go_sem,zwl,anz,exT,List.cons_append,List.nil_append]<;>exact zcc) (by simp only [go_sem,zwl,anz,exT,Qo.cells,ae2,ajB]<;>exact zcc) (by simp [anz,Qd]) (by simp [anz]) (by omega))
 obtain ⟨hk',hget,hr⟩:=Qq hdr
 have hw:=Qe (k:=k) (by omega)
 have e2:decide ((k:Int) < (fs.length:Int)) = true:=zn (by omega)
 have vi:=Uw hget
 have gC2:=z1 (gs.map fun n:Nat=>(n:Int)) (by rw [zb];omega)
 have gZ:=z4 (gs.map fun n:Nat=>(n:Int)) 30 [.ro [V.int (i:Int)] 0] (fun x=>x == (i:Int)) (fun x _=>z3 x i) (by simp only [V.closed,Qb,and_self]) (by rw [zb];omega)
 have hlf:QL (qQ i gs)++List.replicate (gs.length - (qQ i gs).length) (V.int 0) = lfc (qQ i gs) (gs.length - (qQ i gs).length):=rfl
 simp only [ahD,atG,zb,hlf] at gC2 gZ
 have hls:=aow i gs
 have hle:=atH i gs
 have hft3:=akl (qQ i gs) (gs.length - (qQ i gs).length)
 have hll3:=anl (qQ i gs) (gs.length - (qQ i gs).length)
 have hcb:=hmem (qQ i gs) (hls.trans hgs)
 have hcl:=afx hcb
 have p1:=z5 l (qQ i gs) hcb (by omega)
 have hct:List.take (JN l (qQ i gs)).length ((JN l (qQ i gs)).map Qa.v) = (JN l (qQ i gs)).map Qa.v:=zi (by simp)
 have hcm:((JN l (qQ i gs)).map Qa.v).length = (JN l (qQ i gs)).length:=zb _
 have p2:=(z0 (JN l (qQ i gs)) gap day age f0 (by omega) (asF hz)).b
 simp only [Qo.v,Qo.cells] at p2
 have hh1:hh (qQ i gs) = (decide (Y6 (JN l (qQ i gs)) gap = 0) && yI (JN l (qQ i gs)) gap day age f0):=by rw [← hhh,anq]
 rw [hdr,ab8,hh1,← hr] at hps
 clear hh1
 have hgp:(QL gs).length = gs.length:=X7 gs
 simp only [akt,exT,Qo.cells,List.cons_append,List.nil_append]
 rw [adK,hkE] at p2
 generalize qQ i gs = ls at *
 by_cases h1:Y6 (JN l ls) gap = 0
 ·rw [if_pos h1] at p2
  rw [zn h1,zO] at hps
  have e3:((0:Int) == 0) = true:=by decide
  rcases h2:yI (JN l ls) gap day age f0 with _|_
  ·rw [h2,if_neg (by decide)] at hps
   rw [h2] at p2
   repeat' (first|(refine zsk ?_;intro K' hK)|(refine zrg ?_;intro K' hK)|refine zsp ?_|(refine zsc ?_ ?_<;>intro hc<;>first|exact znh|try simp only [znz] at hc)|simp (maxSteps:=1000000) only [go_sem,QS,e2,e3,hw,vi,hft2,hft3,hgp,hct,hcm,Int.toNat_natCast]|(refine hK _ ?_;clear hK K')|apply zan|(apply anU;(focus exact rfl);(focus first|exact gZ);(focus exact rfl);(focus (first|exact rfl|(simp;done)|omega|(simp only [zb];omega)));(focus exact rfl);(focus first|exact rfl|decide);(focus (simp only [V.closed,Qb,and_self])))|((first|apply K0|apply Vv);(focus first|exact gC2|exact p1|exact (z1 _ zsd)))|(apply amB;(focus exact rfl);(focus first|exact (z4 _ _ _ _ zsd zsd zsd));(focus exact rfl);(focus (first|(simp;done)|omega|(simp only [zb];omega))))|((first|apply QA|apply Q3);(focus first|exact p2|exact (z3 _ _).b))|exact zsq|fail)
   all_goals exact hL2 _ (gs,z2,b2,k + 1) (Qd []) ⟨by simp only;omega,hgs,hps⟩ (by simp only;omega) (Qh [] (by simp only [go_sem,zwl,akt,exT,List.cons_append,List.nil_append]<;>exact zcc) (by simp only [go_sem,zwl,akt,exT,Qo.cells,ae2,ajB,QH,Q6]<;>exact zcc) (by simp [akt,Qd]) (by simp [akt]) (by omega))
  ·rw [h2,if_pos rfl] at hps
   rw [h2] at p2
   repeat' (first|(refine zsk ?_;intro K' hK)|(refine zrg ?_;intro K' hK)|refine zsp ?_|(refine zsc ?_ ?_<;>intro hc<;>first|exact znh|try simp only [znz] at hc)|simp (maxSteps:=1000000) only [go_sem,QS,e2,e3,hw,vi,hft2,hft3,hgp,hct,hcm,Int.toNat_natCast]|(refine hK _ ?_;clear hK K')|apply zan|(apply anU;(focus exact rfl);(focus first|exact gZ);(focus exact rfl);(focus (first|exact rfl|(simp;done)|omega|(simp only [zb];omega)));(focus exact rfl);(focus first|exact rfl|decide);(focus (simp only [V.closed,Qb,and_self])))|((first|apply K0|apply Vv);(focus first|exact gC2|exact p1|exact (z1 _ zsd)))|(apply amB;(focus exact rfl);(focus first|exact (z4 _ _ _ _ zsd zsd zsd));(focus exact rfl);(focus (first|(simp;done)|omega|(simp only [zb];omega))))|((first|apply QA|apply Q3);(focus first|exact p2|exact (z3 _ _).b))|exact zsq|fail)
   all_goals exact hL2 _ (ls,gs.length - ls.length,true,k + 1) (Qd [(1,6003)]) ⟨by simp only;omega,hls.trans hgs,hps⟩ (by simp only;omega) (Qh [(1,6003)] (by simp only [go_sem,zwl,akt,exT,List.cons_append,List.nil_append]<;>exact zcc) (by simp only [go_sem,zwl,akt,exT,Qo.cells,ae2,ajB,QH,Q6]<;>exact zcc) (by simp [akt,Qd]) (by simp [akt];omega) (by omega))
 ·rw [if_neg h1] at p2
  rw [zp h1,zK,if_neg (by decide)] at hps
  have e3:(Y6 (JN l ls) gap == 0) = false:=by rw [kM];exact h1
  repeat' (first|(refine zsk ?_;intro K' hK)|(refine zrg ?_;intro K' hK)|refine zsp ?_|(refine zsc ?_ ?_<;>intro hc<;>first|exact znh|try simp only [znz] at hc)|simp (maxSteps:=1000000) only [go_sem,QS,e2,e3,hw,vi,hft2,hft3,hgp,hct,hcm,Int.toNat_natCast]|(refine hK _ ?_;clear hK K')|apply zan|(apply anU;(focus exact rfl);(focus first|exact gZ);(focus exact rfl);(focus (first|exact rfl|(simp;done)|omega|(simp only [zb];omega)));(focus exact rfl);(focus first|exact rfl|decide);(focus (simp only [V.closed,Qb,and_self])))|((first|apply K0|apply Vv);(focus first|exact gC2|exact p1|exact (z1 _ zsd)))|(apply amB;(focus exact rfl);(focus first|exact (z4 _ _ _ _ zsd zsd zsd));(focus exact rfl);(focus (first|(simp;done)|omega|(simp only [zb];omega))))|((first|apply QA|apply Q3);(focus first|exact p2|exact (z3 _ _).b))|exact zsq|fail)
  all_goals exact hL2 _ (gs,z2,b2,k + 1) (Qd []) ⟨by simp only;omega,hgs,hps⟩ (by simp only;omega) (Qh [] (by simp only [go_sem,zwl,akt,exT,List.cons_append,List.nil_append]<;>exact zcc) (by simp only [go_sem,zwl,akt,exT,Qo.cells,ae2,ajB,QH,Q6]<;>exact zcc) (by simp [akt,Qd]) (by simp [akt]) (by omega))
def ak9 (ls:List (List Qo)) (k:Nat):Nat:=(ls.take k).flatten.length
theorem ak8 {ls:List (List Qo)} {k:Nat} {f:List Qo} (h:ls[k]? = some f):ak9 ls (k + 1) = ak9 ls k + f.length:=by
 simp [ak9,zB,h]
theorem aqQ (ls:List (List Qo)) (k:Nat):ak9 ls k≤ls.flatten.length:=by
 have h:ls.flatten = (ls.take k).flatten++(ls.drop k).flatten:=by rw [← List.flatten_append,kh]
 rw [ak9,h,zv];omega
def ccS (ls:List (List Qo)) (k:Nat):St:=QS [(6,.hd 0 0 (ak9 ls k)),(25,.sl 1 (ls.map fcv)),(26,V.int ls.length),(27,V.int k)] [(0,.buf true 8 ((ls.take k).flatten.map Qo.v))] 1
def Xz (Γ:Env) (f:Nat):Prop:=∀ (n:Nat) (hn:n < 2 ^ 30),EvW Γ f [.sc (.slice none 0 0),V.int n] 8 ([]:List V)
def Jq:=qd Proofs.Tryz.f27 []
def J9 (Γ:Env) (f:Nat):Prop:=∀ (ls:List (List Qo)) (hn:ls.length < 2 ^ 30) (ht:ls.flatten.length < 2 ^ 30),EvW Γ f [.sl 1 (ls.map fcv)] 8 (ls.flatten.map Qo.v)
attribute [local go_sem] QS in
theorem Uz {Γ:Env} {f:Nat} (h:Has Γ.P f 36 Jq.1.1.ac Jq.1.2) (z0:Xz Γ 70):J9 Γ f:=by
 intro ls hn ht
 refine Xi h (by simp) (by first|exact yf _|exact j9 _|(intro x hx;obtain ⟨y,_,rfl⟩:=kc.1 hx;simp only [Qo.v,Qo.cells,V.noSl,Wi,and_self])) fun C hC hm=>?_
 subst hC
 simp only [Jq,qd,DC.ac]
 have hal:(ls.map fcv).length = ls.length:=zb _
 (have zx:=hal);refine zgo ?_;repeat' first|exact zt|apply zan|intro hc
 refine Ji (ι:=Nat) (fun k=>k≤ls.length) (fun k=>[(3,V.int (ak9 ls k)),(11,V.int k)]) (fun k=>ls.length - k) 0 (by omega) (zJ _) zol zlt (by simp only [Nat.reduceAdd,ovT,Xs,Nat.reduceEqDiff,reduceIte,KA,xA,aqC,u32,u33,u34,u35,u36,u37,u38,u39,and_self,and_true,true_and];simp [ak9]) fun k hk K' hL=>?_
 simp only [ovT,Xs,Nat.reduceEqDiff,reduceIte]
 rcases hdr:ls.drop k with _|⟨f,r⟩
 rotate_left
 ·obtain ⟨hk',hget,hr⟩:=Qq hdr
  have hw:=Qe (k:=k) (by omega)
  have e1:decide ((k:Int) < (ls.length:Int)) = true:=by simp;omega
  have vf:(ls.map fcv)[k]? = some (.sl 8 (f.map Qo.v)):=by rw [zo,hget];rfl
  have hfl:(f.map Qo.v).length = f.length:=zb _
  have hsu:=ak8 hget
  have hle:=aqQ ls (k + 1)
  have hw2:IntKind.i64.wrap (((ak9 ls k:Nat):Int) + ((f.length:Nat):Int)) = ((ak9 ls (k + 1):Nat):Int):=by rw [Jc (by omega) (by omega),hsu];simp
  have e2:decide (((ak9 ls (k + 1):Nat):Int) < 0) = false:=by simp
  (have zx:=za e1 (za e2 (za hal (za hw (za hw2 (za vf hfl))))));refine zgo ?_;repeat' first|exact zt|apply zan|intro hc
  all_goals exact hL _ (k + 1) zet (by omega) (by omega) zoe
 have hkl:=Qu hdr
 have e1:decide ((k:Int) < (ls.length:Int)) = false:=by simp;omega
 obtain rfl:k = ls.length:=by omega
 have htt:ak9 ls ls.length = ls.flatten.length:=by rw [ak9,zG]
 have gW:=z0 (ak9 ls ls.length) (by omega)
 clear hL
 (have zx:=za e1 hal);refine zgo ?_;repeat' first|exact zt|apply zan|intro hc
 refine Qj (ι:=Nat) (fun k=>k≤ls.length) (fun k=>ccS ls k) (fun k=>ls.length - k) 0 (zJ _) (Qd [(0,7000)]) (Qh [(0,7000)] (by simp only [go_sem,zwl,ccS,ak9,List.take_zero,List.flatten_nil,List.length_nil,hal]<;>exact zcc) (by simp only [go_sem,zwl,ccS,List.take_zero,List.flatten_nil,zH]<;>exact zcc) (by simp [ccS,Qd]) (by simp [ccS];omega) (by omega)) fun k hk K' hL=>?_
 rcases hdr:ls.drop k with _|⟨f,r⟩
 ·have hkl:=Qu hdr
  have e1:decide ((k:Int) < (ls.length:Int)) = false:=by simp;omega
  obtain rfl:k = ls.length:=by omega
  have htk:ls.take ls.length = ls:=zG
  simp only [ccS,htk,htt]
  have htl:List.take ls.flatten.length (ls.flatten.map Qo.v) = ls.flatten.map Qo.v:=zi (by rw [zb];exact zj _)
  have hmm:ls.flatten.length = (ls.flatten.map Qo.v).length:=(zb _).symm
  (have zx:=za e1 htl);refine zgo ?_;repeat' first|exact zt|apply zan|intro hc
  all_goals first|(refine yK (xs:=ls.flatten.map Qo.v) _ _ rfl ?_ ?_<;>first|exact hmm|exact hmm.symm|rfl|(simp;done))
 obtain ⟨hk',hget,hr⟩:=Qq hdr
 have hw:=Qe (k:=k) (by omega)
 have e1:decide ((k:Int) < (ls.length:Int)) = true:=by simp;omega
 have vf:(ls.map fcv)[k]? = some (.sl 8 (f.map Qo.v)):=by rw [zo,hget];rfl
 have hfl:(f.map Qo.v).length = f.length:=zb _
 have hsu:=ak8 hget
 have hle:=aqQ ls (k + 1)
 have hnx:(ls.take (k + 1)).flatten = (ls.take k).flatten++f:=by simp [zB,hget]
 have hol:((ls.take k).flatten.map Qo.v).length = ak9 ls k:=by rw [zb];rfl
 have htl:List.take (ak9 ls k) ((ls.take k).flatten.map Qo.v) = (ls.take k).flatten.map Qo.v:=zi (by omega)
 have hcl:∀ y∈f.map Qo.v,y.cells.length = 8:=by intro y hy;obtain ⟨z,_,rfl⟩:=kc.1 hy;rfl
 simp only [ccS]
 (have zx:=za e1 (za hw (za vf (za hfl (za hol htl)))));refine zgo ?_;repeat' first|exact zt|apply zan|intro hc
 all_goals exact hL _ (k + 1) (Qd [(0,6001)]) (by omega) (by omega) (Qh [(0,6001)] (by simp only [go_sem,zwl,ccS,hsu,hal]<;>exact zcc) (by simp only [go_sem,zwl,ccS,hnx,kj]<;>exact zcc) (by simp [ccS,Qd]) (by simp [ccS];omega) (by omega))
structure Ql where
 allow:Bool
 alg:Int
 below:Int
 purp:Int
 frm:Int
 til:Int
def Ql.cells (r:Ql):List V:=[V.bool r.allow,V.int r.alg,V.int r.below,V.int r.purp,V.int r.frm,V.int r.til]
abbrev Ql.v (r:Ql):V:=.agg r.cells
def Ql.setF (r:Ql):Nat→Int→Ql
 | 2,v=>{ r with below:=v }
 | 3,v=>{ r with purp:=v }
 | 4,v=>{ r with frm:=v }
 | 5,v=>{ r with til:=v }
 | _,_=>r
theorem Ql.cells_closed (r:Ql):Qb r.cells:=by simp only [Ql.cells,V.closed,Qb,and_self]
def yd (w:List UInt8) (rd:List UInt8→Int×Bool) (k:Nat) (r:Ql) (ws:WS):Bool×Ql×WS :=
 if (isL w ws).1 = true then ((rd (Ys (isL w ws).2).1).2,r.setF k (rd (Ys (isL w ws).2).1).1,(Ys (isL w ws).2).2) else (true,r,ws)
def LSz (ws:WS):Prop:=ws.length < 2 ^ 40∧∀ x∈ws,x.length < 2 ^ 30
theorem ahU (w:List UInt8) (ws:WS):(isL w ws).2 <:+ ws:=by
 cases ws with
 | nil=>exact List.suffix_refl _
 | cons x r =>
   rw [isL];split
   ·exact List.suffix_cons _ _
   ·exact List.suffix_refl _
theorem ahM (ws:WS):(Ys ws).2 <:+ ws:=by
 cases ws with
 | nil=>exact List.suffix_refl _
 | cons x r=>exact List.suffix_cons _ _
theorem ahH (w:List UInt8) (rd:List UInt8→Int×Bool) (k:Nat) (r:Ql) (ws:WS):(yd w rd k r ws).2.2 <:+ ws:=by
 rw [yd];split
 ·exact (ahM _).trans (ahU _ _)
 ·exact List.suffix_refl _
theorem LSz.suf {a b:WS} (h:LSz b) (hs:a <:+ b):LSz a:=⟨Nat.lt_of_le_of_lt hs.length_le h.1,fun x hx=>h.2 x (hs.mem hx)⟩
theorem alJ {w:List UInt8} {ws:WS} (h:(isL w ws).1 = false):(isL w ws).2 = ws:=by
 cases ws with
 | nil=>rfl
 | cons x r =>
   rw [isL] at h ⊢;split
   ·rename_i hx;rw [if_pos hx] at h;cases h
   ·rfl
def asY (Γ:Env) (g:Nat) (rd:List UInt8→Int×Bool):Prop:=∀ (ws:WS) (nx:Nat),J5 Γ nx→LSz ws→EvM Γ g nx (aaq ws) (amM (rd (Ys ws).1)) (aaq (Ys ws).2)
def aaz:=qd Proofs.Tryz.f189 []
def abL (Γ:Env) (f:Nat):Prop:=∀ (ws:WS) (w:List UInt8) (k:Nat) (g:Nat) (r:Ql) (rd:List UInt8→Int×Bool) (hk:k = 2∨k = 3∨k = 4∨k = 5) (hs:LSz ws) (hg:asY Γ g rd),EvQ Γ f (V.str w) k g (aaq ws) r.cells (V.bool (yd w rd k r ws).1) (aaq (yd w rd k r ws).2.2) ((yd w rd k r ws).2.1.cells)
theorem amb {Γ:Env} {f:Nat} (h:Has Γ.P f 26 aaz.1.1.ac aaz.1.2) (z0:WN Γ 187) (z1:J5 Γ 188):abL Γ f:=by
 intro ws w k g r rd hk hs hg
 refine anC h (by simp) (by simp only [V.closed,Qb,V.noSl,Wi,and_self,and_true,true_and]) (by first|assumption|exact Ql.cells_closed _|simp only [V.closed,Qb,and_self,and_true,true_and]) (by first|assumption|exact Ql.cells_closed _|simp only [V.closed,Qb,and_self,and_true,true_and]) (by first|assumption|exact Ql.cells_closed _|simp only [V.closed,Qb,and_self,and_true,true_and]) (by first|assumption|exact Ql.cells_closed _|simp only [V.closed,Qb,and_self,and_true,true_and]) (by first|assumption|exact Ql.cells_closed _|simp only [V.closed,Qb,and_self,and_true,true_and]) fun C hC hm=>?_
 subst hC
 simp only [aaz,qd,DC.ac]
 have n1:=z0 ws w hs.1
 have hfa:=alJ (w:=w) (ws:=ws)
 rw [yd]
 rcases hq:isL w ws with ⟨t,v⟩
 have hv:LSz v:=by have:=hs.suf (ahU w ws);rw [hq] at this;exact this
 rw [hq] at n1 hfa
 simp only at n1 hfa ⊢
 rcases t with _|_
 ·have e:=hfa rfl
  subst e
  simp only [zu,if_false,Ql.cells]
  refine zgo ?_;repeat' first|exact zt|apply zan|intro hc
  all_goals first|(refine au3 _ rfl rfl rfl (by first|assumption|simp only [V.closed,Qb,and_self,and_true,true_and]) (by first|assumption|simp only [V.closed,Qb,and_self,and_true,true_and]) ?_;simp only [go_sem];done)
 ·have n2:=hg v 188 z1 hv
  generalize Ys v = p at *
  obtain ⟨x,u⟩:=p
  simp only [if_true] at n2 ⊢
  generalize rd x = y at *
  obtain ⟨n,ok⟩:=y
  simp only [amM] at n2 ⊢
  rcases hk with rfl|rfl|rfl|rfl
  all_goals
   simp only [Ql.cells,Ql.setF]
   refine zgo ?_;repeat' first|exact zt|apply zan|intro hc
  all_goals first|(refine au3 _ rfl rfl rfl (by first|assumption|simp only [V.closed,Qb,and_self,and_true,true_and]) (by first|assumption|simp only [V.closed,Qb,and_self,and_true,true_and]) ?_;simp only [go_sem];done)
def aqH (p:Bool×Ql×WS) (f:Ql→WS→Bool×Ql×WS):Bool×Ql×WS:=if p.1 = true then f p.2.1 p.2.2 else p
abbrev rdP (w:List UInt8):Int×Bool:=(agp w,decide (agp w > 0))
def aj2 (r:Ql) (ws:WS):Bool×Ql×WS:=aqH (aqH (aqH (yd [98,101,108,111,119] aa6 2 r ws) (yd [102,111,114] rdP 3)) (yd [102,114,111,109] aa6 4)) (yd [117,110,116,105,108] aa6 5)
def Xt (ws:WS):Bool×Bool×WS:=if (isL [97,108,108,111,119] ws).1 = true then (true,true,(isL [97,108,108,111,119] ws).2) else (false,(isL [102,111,114,98,105,100] ws).1,(isL [102,111,114,98,105,100] ws).2)
def ak1 (x:List UInt8):Int:=if x = [97,110,121] then 0 else qS x 0 Y3
def aiO (ws:WS):Ql×Bool×WS :=
 if (Xt ws).2.1 = true then
  if (Ys (Xt ws).2.2).1≠[97,110,121]∧ak1 (Ys (Xt ws).2.2).1 = 0 then (⟨(Xt ws).1,0,0,0,0,40001⟩,false,(Ys (Xt ws).2.2).2)
  else ((aj2 ⟨(Xt ws).1,ak1 (Ys (Xt ws).2.2).1,0,0,0,40001⟩ (Ys (Xt ws).2.2).2).2.1,(aj2 ⟨(Xt ws).1,ak1 (Ys (Xt ws).2.2).1,0,0,0,40001⟩ (Ys (Xt ws).2.2).2).1 && (aj2 ⟨(Xt ws).1,ak1 (Ys (Xt ws).2.2).1,0,0,0,40001⟩ (Ys (Xt ws).2.2).2).2.2.isEmpty,(aj2 ⟨(Xt ws).1,ak1 (Ys (Xt ws).2.2).1,0,0,0,40001⟩ (Ys (Xt ws).2.2).2).2.2)
 else (⟨(Xt ws).1,0,0,0,0,40001⟩,false,(Xt ws).2.2)
theorem ar5 (ws:WS):(Xt ws).2.2 <:+ ws:=by
 rw [Xt];split
 ·exact ahU _ _
 ·exact ahU _ _
theorem alH (u:WS):((((u.map V.str).length:Nat):Int) == 0) = u.isEmpty:=by
 cases u with
 | nil=>rfl
 | cons x r=>simp only [zE,List.length_cons,List.isEmpty_cons,kM,ne_eq];omega
def aax:=qd Proofs.Tryz.f116 [⟨fun _=>false,[0,6],.one 1 (.one 2 (.one 3 (.one 4 (.one 5 (.or 0 (.or 6 (.one 7 (.one 8 (.one 9 (.one 10 (.one 11 (.done)))))) (.or 10 (.one 6 (.one 7 (.one 8 (.one 9 (.one 11 (.done)))))) (.done))) (.or 6 (.one 0 (.one 7 (.one 8 (.one 9 (.one 10 (.one 11 (.done))))))) (.done)))))))⟩]
def abJ (Γ:Env) (f:Nat):Prop:=∀ (ws:WS) (hs:LSz ws),EvD Γ f [] (aaq ws) (.tup [(aiO ws).1.v,V.bool (aiO ws).2.1]) (aaq (aiO ws).2.2)
attribute [local go_sem] QS in
theorem al9 {Γ:Env} {f:Nat} (h:Has Γ.P f 58 aax.1.1.ac aax.1.2) (z0:WN Γ 187) (z1:J5 Γ 188) (z2:qO Γ 184) (z3:abL Γ 189) (z4:j7 Γ 190) (z5:qn Γ 191):abJ Γ f:=by
 intro ws hs
 refine JL h zsi (⟨Ql.cells_closed _,trivial,trivial⟩) zc3 zc3 fun C hC hm=>?_
 subst hC
 simp only [aax,qd,DC.ac]
 have hh:LSz (Xt ws).2.2:=hs.suf (ar5 ws)
 have n1:=z0 ws [97,108,108,111,119] hs.1
 have n0:=z0 ws [102,111,114,98,105,100] hs.1
 have hfa:=alJ (w:=[97,108,108,111,119]) (ws:=ws)
 have hN:asY C.env 190 aa6:=fun ws nx hnx hs=>z4 ws nx hnx hs.1 hs.2
 have hP:asY C.env 191 rdP:=fun ws nx hnx hs=>z5 ws nx hnx hs.1
 refine aer fun K' hK=>?_
 simp (maxSteps:=1000000) only [go_sem]
 refine hK _ ?_
 clear hK
 clear K'
 (try simp only [go_sem])
 refine KZ (ι:=Unit) (fun _=>True) (fun _=>QS [(0,.ptr 0 0),(2,.ptr 1 0),(4,.ptr 2 0)] [(0,.box true (aaq (isL [97,108,108,111,119] ws).2)),(1,.box true [V.bool false,V.int 0,V.int 0,V.int 0,V.int 0,V.int 0]),(2,.box true [V.bool (isL [97,108,108,111,119] ws).1,V.int 0,V.int 0,V.int 0,V.int 0,V.int 40001])] 3) (fun K' hK'=>?_) (fun _ _=>?_)
 ·generalize isL [97,108,108,111,119] ws = p at *
  obtain ⟨a,v⟩:=p
  refine zgo ?_;repeat' first|exact zt|apply zan|intro hc
  all_goals exact hK' _ () (Qd [(2,5001)]) trivial (zwg [(2,5001)])
 refine KZ (ι:=Unit) (fun _=>(Xt ws).2.1 = true) (fun _=>QS [(0,.ptr 0 0),(2,.ptr 1 0),(4,.ptr 2 0)] [(0,.box true (aaq (Xt ws).2.2)),(1,.box true [V.bool false,V.int 0,V.int 0,V.int 0,V.int 0,V.int 0]),(2,.box true [V.bool (Xt ws).1,V.int 0,V.int 0,V.int 0,V.int 0,V.int 40001])] 3) (fun K' hK'=>?_) (fun _ hg=>?_)
 ·rcases hq:isL [97,108,108,111,119] ws with ⟨a,v⟩
  rw [hq] at hfa
  simp only at hfa ⊢
  rcases a with _|_
  ·have:=hfa rfl
   subst this
   rcases hq2:isL [102,111,114,98,105,100] v with ⟨f,u⟩
   have hd:Xt v = (false,f,u):=by rw [Xt,hq,hq2];rfl
   rw [hq2] at n0
   simp only at n0
   rw [hd] at hK'
   rcases f with _|_
   ·have hr:aiO v = (⟨false,0,0,0,0,40001⟩,false,u):=by rw [aiO,hd];rfl
    rw [hr]
    simp only [Ql.v,Ql.cells]
    refine zgo ?_;repeat' first|exact zt|apply zan|intro hc
    all_goals (refine J0 _ rfl rfl zcd ?_;simp only [go_sem];done)
   ·refine zgo ?_;repeat' first|exact zt|apply zan|intro hc
    all_goals exact hK' _ () (Qd []) rfl (zwg [])
  ·have hd:Xt ws = (true,true,v):=by rw [Xt,hq];rfl
   rw [hd] at hK'
   refine zgo ?_;repeat' first|exact zt|apply zan|intro hc
   all_goals exact hK' _ () (Qd []) rfl (zwg [])
 have hr0:aiO ws = if (Ys (Xt ws).2.2).1≠[97,110,121]∧ak1 (Ys (Xt ws).2.2).1 = 0 then (⟨(Xt ws).1,0,0,0,0,40001⟩,false,(Ys (Xt ws).2.2).2)
  else ((aj2 ⟨(Xt ws).1,ak1 (Ys (Xt ws).2.2).1,0,0,0,40001⟩ (Ys (Xt ws).2.2).2).2.1,(aj2 ⟨(Xt ws).1,ak1 (Ys (Xt ws).2.2).1,0,0,0,40001⟩ (Ys (Xt ws).2.2).2).1 && (aj2 ⟨(Xt ws).1,ak1 (Ys (Xt ws).2.2).1,0,0,0,40001⟩ (Ys (Xt ws).2.2).2).2.2.isEmpty,(aj2 ⟨(Xt ws).1,ak1 (Ys (Xt ws).2.2).1,0,0,0,40001⟩ (Ys (Xt ws).2.2).2).2.2):=by rw [aiO,if_pos hg]
 rw [hr0]
 generalize Xt ws = H at *
 obtain ⟨A,B,v⟩:=H
 simp only at hh hg ⊢
 have n2:=z1 v hh.1
 have hu:LSz (Ys v).2:=hh.suf (ahM v)
 generalize Ys v = N at *
 obtain ⟨x,u⟩:=N
 simp only at n2 hu ⊢
 have n3:=(z2 x).b
 refine KZ (ι:=Unit) (fun _=>¬ (x≠[97,110,121]∧ak1 x = 0)) (fun _=>QS [(0,.ptr 0 0),(2,.ptr 1 0),(4,.ptr 2 0)] [(0,.box true (aaq u)),(1,.box true [V.bool false,V.int 0,V.int 0,V.int 0,V.int 0,V.int 0]),(2,.box true [V.bool A,V.int (ak1 x),V.int 0,V.int 0,V.int 0,V.int 40001])] 3) (fun K' hK'=>?_) (fun _ hn=>?_)
 ·by_cases hx:x = [97,110,121]
  ·have e1:(x == [97,110,121]) = true:=by simpa using hx
   have e2:ak1 x = 0:=by rw [ak1,if_pos hx]
   rw [e2] at hK'
   (have zx:=e1);refine zgo ?_;repeat' first|exact zt|apply zan|intro hc
   all_goals exact hK' _ () (Qd []) (fun h=>h.1 hx) (zwg [])
  ·have e1:(x == [97,110,121]) = false:=by simpa using hx
   have e2:ak1 x = qS x 0 Y3:=by rw [ak1,if_neg hx]
   rw [← e2] at n3
   generalize ak1 x = g at *
   by_cases hg0:g = 0
   ·have e3:(g == 0) = true:=by simpa using hg0
    have hg1:(x≠[97,110,121]∧g = 0):=⟨hx,hg0⟩
    rw [if_pos hg1]
    subst hg0
    simp only [Ql.v,Ql.cells]
    (have zx:=za e1 e3);refine zgo ?_;repeat' first|exact zt|apply zan|intro hc
    all_goals (refine J0 _ rfl rfl zcd ?_;simp only [go_sem];done)
   ·have e3:(g == 0) = false:=by simpa using hg0
    (have zx:=za e1 e3);refine zgo ?_;repeat' first|exact zt|apply zan|intro hc
    all_goals exact hK' _ () (Qd []) (fun h=>hg0 h.2) (zwg [])
 rw [if_neg hn]
 generalize ak1 x = g at *
 have q1:=z3 u [98,101,108,111,119] 2 190 ⟨A,g,0,0,0,40001⟩ aa6 (by simp) hu hN
 have u1:=hu.suf (ahH [98,101,108,111,119] aa6 2 ⟨A,g,0,0,0,40001⟩ u)
 simp only [aj2]
 generalize yd [98,101,108,111,119] aa6 2 ⟨A,g,0,0,0,40001⟩ u = p1 at *
 obtain ⟨b1,r1,w1⟩:=p1
 simp only [Ql.cells] at q1 u1
 rcases b1 with _|_
 ·have hT:aqH (aqH (aqH (false,r1,w1) (yd [102,111,114] rdP 3)) (yd [102,114,111,109] aa6 4)) (yd [117,110,116,105,108] aa6 5) = (false,r1,w1):=rfl
  rw [hT]
  simp only [Ql.v,Ql.cells,zK]
  refine zgo ?_;repeat' first|exact zt|apply zan|intro hc
  all_goals (refine J0 _ rfl rfl zcd ?_;simp only [go_sem];done)
 have q2:=z3 w1 [102,111,114] 3 191 r1 rdP (by simp) u1 hP
 have u2:=u1.suf (ahH [102,111,114] rdP 3 r1 w1)
 have hT:aqH (true,r1,w1) (yd [102,111,114] rdP 3) = yd [102,111,114] rdP 3 r1 w1:=rfl
 rw [hT]
 generalize yd [102,111,114] rdP 3 r1 w1 = p2 at *
 obtain ⟨b2,r2,w2⟩:=p2
 simp only [Ql.cells] at q2 u2
 rcases b2 with _|_
 ·have hT:aqH (aqH (false,r2,w2) (yd [102,114,111,109] aa6 4)) (yd [117,110,116,105,108] aa6 5) = (false,r2,w2):=rfl
  rw [hT]
  simp only [Ql.v,Ql.cells,zK]
  refine zgo ?_;repeat' first|exact zt|apply zan|intro hc
  all_goals (refine J0 _ rfl rfl zcd ?_;simp only [go_sem];done)
 have q3:=z3 w2 [102,114,111,109] 4 190 r2 aa6 (by simp) u2 hN
 have u3:=u2.suf (ahH [102,114,111,109] aa6 4 r2 w2)
 have hT:aqH (true,r2,w2) (yd [102,114,111,109] aa6 4) = yd [102,114,111,109] aa6 4 r2 w2:=rfl
 rw [hT]
 generalize yd [102,114,111,109] aa6 4 r2 w2 = p3 at *
 obtain ⟨b3,r3,w3⟩:=p3
 simp only [Ql.cells] at q3 u3
 rcases b3 with _|_
 ·have hT:aqH (false,r3,w3) (yd [117,110,116,105,108] aa6 5) = (false,r3,w3):=rfl
  rw [hT]
  simp only [Ql.v,Ql.cells,zK]
  refine zgo ?_;repeat' first|exact zt|apply zan|intro hc
  all_goals (refine J0 _ rfl rfl zcd ?_;simp only [go_sem];done)
 have q4:=z3 w3 [117,110,116,105,108] 5 190 r3 aa6 (by simp) u3 hN
 have hT:aqH (true,r3,w3) (yd [117,110,116,105,108] aa6 5) = yd [117,110,116,105,108] aa6 5 r3 w3:=rfl
 rw [hT]
 generalize yd [117,110,116,105,108] aa6 5 r3 w3 = p4 at *
 obtain ⟨b4,r4,w4⟩:=p4
 simp only [Ql.cells] at q4
 have hem:=alH w4
 rcases b4 with _|_
 ·simp only [Ql.v,Ql.cells,zK]
  refine zgo ?_;repeat' first|exact zt|apply zan|intro hc
  all_goals (refine J0 _ rfl rfl zcd ?_;simp only [go_sem];done)
 ·simp only [Ql.v,Ql.cells,zO]
  (have zx:=hem);refine zgo ?_;repeat' first|exact zt|apply zan|intro hc
  all_goals (refine J0 _ rfl rfl zcd ?_;simp only [go_sem];done)
end Av
end
