/- K33 -/
import Derived.Test.YtlpaikjhphkioaaGreatK32
import Derived.Test.YtlpaikjhphkioaaGreatK12
import Derived.Test.YtlpaikjhphkioaaGreatK28
import Derived.Test.YtlpaikjhphkioaaGreatK30
import Derived.Test.YtlpaikjhphkioaaGreatK29
set_option linter.unusedVariables false
set_option linter.unusedSimpArgs false
noncomputable section
set_option maxRecDepth 10000
set_option maxHeartbeats 4000000
namespace Av
open Go
attribute [local irreducible] AWp Uv qW xf awS awC abB awQ acd QZ UL aa2 awR Kc awB okR yu ris
def unP (p:PPl):Qa:=⟨0,[],0,0,0,p.kind,p.subj,p.alg,p.bits,p.num,p.text⟩
theorem apX (f:Qa):aiI f = unP (J6 f):=by
 unfold aiI J6
 split
 ·rfl
 split
 ·rfl
 split<;>rfl
theorem aqq {p q:PPl} (h:unP p = unP q):p = q:=by
 obtain ⟨a1,a2,a3,a4,a5,a6⟩:=p
 obtain ⟨b1,b2,b3,b4,b5,b6⟩:=q
 simp only [unP,Qa.mk.injEq] at h
 simp only [PPl.mk.injEq]
 obtain ⟨-,-,-,-,-,h1,h2,h3,h4,h5,h6⟩:=h
 exact ⟨h2,h6,h1,h5,h3,h4⟩
theorem amK {f g:Qa}:aiI f = aiI g↔J6 f = J6 g:=by
 rw [apX,apX]
 exact ⟨aqq,fun h=>by rw [h]⟩
theorem aiq {a b:Nat} {f g:Qa} (h:ajI a b f g = true):ajI b a g f = false:=by
 unfold ajI at *
 by_cases h1:f.day = g.day
 ·by_cases h2:f.conf = g.conf
  ·simp only [h1,h2,ne_eq,not_true_eq_false,if_false,zA,zP] at *;omega
  ·simp only [h1,h2,Ne.symm h2,ne_eq,not_true_eq_false,not_false_eq_true,if_false,if_true,zA,zP] at *;omega
 ·simp only [h1,Ne.symm h1,ne_eq,not_false_eq_true,if_true,zA,zP] at *;omega
theorem an1 {a b:Nat} {f g:Qa} (h:amf f g = true):ajI a b f g = true:=by
 unfold amf at h
 unfold ajI
 simp only [kN,zw,zA,ky] at h
 split
 ·exact zo (by omega)
 ·rw [if_pos (by omega)];exact zo (by omega)
theorem alu {a b:Nat} {f g:Qa} (hab:b < a) (h:amf f g = false):ajI b a g f = true:=by
 unfold amf at h
 unfold ajI
 simp only [kX,bj,zP,kI] at h
 obtain ⟨h1,h2⟩:=h
 split
 ·exact zo (by omega)
 ·rename_i h3
  split
  ·refine zo ?_
   rcases h2 with h2|h2<;>omega
  ·exact zo hab
theorem alZ {a b c:Nat} {f g k:Qa} (h:amf f g = true) (h2:ajI b c g k = true):ajI a c f k = true:=by
 unfold amf at h
 simp only [kN,zw,zA,ky] at h
 unfold ajI at h2 ⊢
 split at h2
 ·simp only [zA] at h2
  rw [if_pos (by omega)];exact zo (by omega)
 ·rename_i h3
  simp only [ne_eq,Decidable.not_not] at h3
  split at h2
  ·simp only [zA] at h2
   by_cases h4:f.day = k.day
   ·rw [if_neg (by simpa using h4),if_pos (by omega)];exact zo (by omega)
   ·rw [if_pos h4];exact zo (by omega)
  ·rename_i h5
   simp only [ne_eq,Decidable.not_not] at h5
   by_cases h4:f.day = k.day
   ·rw [if_neg (by simpa using h4),if_pos (by omega)];exact zo (by omega)
   ·rw [if_pos h4];exact zo (by omega)
structure arE (l:List Qa) (day age:Int) (m:PM) (fs:List Nat):Prop where
 cov:∀ b∈fs,∀ g,l[b]? = some g→al8 day age g = true→J6 g∈m.1
 opt:∀ (a i:Nat),m.2[a]? = some i→i∈fs∧∃ f,l[i]? = some f∧al8 day age f = true∧m.1[a]? = some (J6 f)∧∀ b∈fs,∀ g,l[b]? = some g→al8 day age g = true→J6 g = J6 f→b = i∨ajI i b f g = true
theorem arE.nil (l:List Qa) (day age:Int):arE l day age ([],[]) []:=⟨fun b hb=>(by cases hb),fun a i h=>by simp at h⟩
theorem afR {day age:Int} {f:Qa}:al8 day age f = true↔¬(f.day > day∨f.day < day - age):=by
 unfold al8
 simp only [zw,zA]
 omega
theorem arE.step {l:List Qa} {day age:Int} {m:PM} {fs:List Nat} {i n:Nat} (h:arE l day age m fs) (ho:afe l m n) (hi:i < l.length) (hlt:∀ b∈fs,b < i):arE l day age (arc l day age m i) (fs++[i]):=by
 obtain ⟨ks,vs⟩:=m
 obtain ⟨f,hf⟩:∃ f,l[i]? = some f:=⟨_,zd hi⟩
 have hlen:ks.length = vs.length:=ho.len
 have hnd:ks.Nodup:=ho.nd
 rw [arc,hf]
 dsimp only
 split
 ·rename_i hw
  have hnw:¬al8 day age f = true:=fun hx=>afR.1 hx hw
  have hex:∀ b∈fs++[i],∀ g,l[b]? = some g→al8 day age g = true→b∈fs:=fun b hb g hg hx=>by
   rcases zT.1 hb with h1|h1
   ·exact h1
   ·rw [zv.1 h1,hf] at hg;cases hg;exact absurd hx hnw
  refine ⟨fun b hb g hg hx=>h.cov b (hex b hb g hg hx) g hg hx,fun a j hj=>?_⟩
  obtain ⟨o1,f',o2,o3,o4,o5⟩:=h.opt a j hj
  exact ⟨kY _ o1,f',o2,o3,o4,fun b hb g hg hx he=>o5 b (hex b hb g hg hx) g hg hx he⟩
 ·rename_i hw
  have hwf:al8 day age f = true:=afR.2 hw
  rcases hx:amc (J6 f) ks 0 with _|a
  ·have hn:=adH hx
   dsimp only
   refine ⟨fun b hb g hg hx=>?_,fun a j hj=>?_⟩
   ·rcases zT.1 hb with h1|h1
    ·exact kY _ (h.cov b h1 g hg hx)
    ·rw [zv.1 h1,hf] at hg;cases hg
     exact Zj _ (zv.2 rfl)
   ·rcases Zq a vs.length with ha|ha|ha
    ·dsimp only at hj ⊢
     rw [zW ha] at hj
     obtain ⟨o1,f',o2,o3,o4,o5⟩:=h.opt a j hj
     refine ⟨kY _ o1,f',o2,o3,by rw [zW (by omega)];exact o4,fun b hb g hg hx he=>?_⟩
     rcases zT.1 hb with h1|h1
     ·exact o5 b h1 g hg hx he
     ·rw [zv.1 h1,hf] at hg;cases hg
      exact absurd (by rw [he];exact zu o4) hn
    ·subst ha
     dsimp only at hj ⊢
     rw [Zw] at hj
     cases hj
     refine ⟨Zj _ (zv.2 rfl),f,hf,hwf,by rw [← hlen,Zw],fun b hb g hg hx he=>?_⟩
     rcases zT.1 hb with h1|h1
     ·exact absurd (by rw [← he];exact h.cov b h1 g hg hx) hn
     ·exact .inl (zv.1 h1)
    ·dsimp only at hj
     rw [zX (by simp;omega)] at hj;cases hj
  ·obtain ⟨a1,a2,a3⟩:=aai hx
   rw [Nat.sub_zero] at a3
   obtain ⟨j,hj⟩:∃ j,vs[a]? = some j:=⟨_,zd (by omega)⟩
   obtain ⟨o1,f',o2,o3,o4,o5⟩:=h.opt a j hj
   have hpl:J6 f' = J6 f:=by dsimp only at o4;rw [a3] at o4;exact (ZD o4).symm
   have hgd:vs.getD a 0 = j:=by rw [zJ,hj];rfl
   dsimp only
   rw [hgd,o2]
   dsimp only
   have huniq:∀ c,ks[c]? = some (J6 f)→c = a:=fun c hc=>by
    have l1:=(zn.1 hc).1
    rw [← a3] at hc
    exact (bd l1 hnd).1 hc
   have hcv:∀ b∈fs++[i],∀ g,l[b]? = some g→al8 day age g = true→J6 g∈ks:=fun b hb g hg hx=>by
    rcases zT.1 hb with h1|h1
    ·exact h.cov b h1 g hg hx
    ·rw [zv.1 h1,hf] at hg;cases hg
     exact zu a3
   rcases hbt:amf f f' with _|_
   ·rw [if_neg (by decide)]
    refine ⟨hcv,fun c q hq=>?_⟩
    obtain ⟨q1,g',q2,q3,q4,q5⟩:=h.opt c q hq
    refine ⟨kY _ q1,g',q2,q3,q4,fun b hb g hg hx he=>?_⟩
    rcases zT.1 hb with h1|h1
    ·exact q5 b h1 g hg hx he
    ·have hbi:=zv.1 h1
     subst hbi
     rw [hf] at hg;cases hg
     have hca:c = a:=huniq c (by rw [he];exact q4)
     subst hca
     rw [hj] at hq;cases hq
     rw [o2] at q2;cases q2
     exact .inr (alu (hlt j o1) hbt)
   ·rw [if_pos rfl]
    refine ⟨hcv,fun c q hq=>?_⟩
    dsimp only at hq ⊢
    by_cases hca:c = a
    ·subst hca
     rw [ZM (by omega)] at hq
     cases hq
     refine ⟨Zj _ (zv.2 rfl),f,hf,hwf,a3,fun b hb g hg hx he=>?_⟩
     rcases zT.1 hb with h1|h1
     ·rcases o5 b h1 g hg hx (by rw [he,hpl]) with h2|h2
      ·subst h2
       rw [o2] at hg;cases hg
       exact .inr (an1 hbt)
      ·exact .inr (alZ hbt h2)
     ·exact .inl (zv.1 h1)
    ·rw [ZT (Ne.symm hca)] at hq
     obtain ⟨q1,g',q2,q3,q4,q5⟩:=h.opt c q hq
     refine ⟨kY _ q1,g',q2,q3,q4,fun b hb g hg hx he=>?_⟩
     rcases zT.1 hb with h1|h1
     ·exact q5 b h1 g hg hx he
     ·rw [zv.1 h1,hf] at hg;cases hg
      exact absurd (huniq c (by rw [he];exact q4)) hca
theorem aif {l:List Qa} {day age:Int} {fs:List Nat} (ha:fs.Pairwise (· < ·)) (hb:∀ i∈fs,i < l.length):∀ k,k≤fs.length→arE l day age (agH l day age (fs.take k)) (fs.take k)
 | 0,_=>by rw [List.take_zero];exact arE.nil l day age
 | k + 1,hk=>by
   have hget:fs[k]? = some (fs[k]'hk):=zd hk
   have ih:=aif (day:=day) (age:=age) ha hb k (by omega)
   rw [aie hget,zO,hget,Option.toList_some]
   refine ih.step (abx l day age fs k (by omega)) (hb _ (zZ hk)) fun b hbm=>?_
   obtain ⟨j,hj,rfl⟩:=kz hbm
   rw [zQ] at hj
   rw [ZR]
   exact kr.1 ha j k (by omega) hk (by omega)
def af9 (l:List Qa) (day age:Int) (fs:List Nat) (a:Nat):Bool:=match l[a]? with
 | some f=>!(decide (f.day > day) || (decide (f.day < day - age) || f.kind == 8)) && !(fs.any (wP l day age a f))
 | none=>false
theorem anF (out:List Qc) (x:Qc):ao4 out x = adL aeK out x:=by
 have hk:∀ k,amJ out x k = gK aeK out x k:=fun k=>by
  induction k with
  | zero=>rfl
  | succ k ih =>
    rw [amJ,gK]
    rcases out[k]? with _|y
    ·rfl
    ·dsimp only
     rw [ih]
 rw [ao4,adL,hk];simp
theorem ak4 (l:List Qa) (num day age:Int) (fs:List Nat) (out:List Qc) (a:Nat):ahc l num day age fs out a = match (if af9 l day age fs a = true then KE l num a else none) with|some x=>adL aeK out x|none=>out:=by
 unfold ahc af9 KE
 rcases l[a]? with _|f
 ·rfl
 dsimp only
 by_cases c1:(decide (f.day > day) || (decide (f.day < day - age) || f.kind == 8)) = true
 ·have e:(!(decide (f.day > day) || (decide (f.day < day - age) || f.kind == 8)) && !(fs.any (wP l day age a f))) = false:=by rw [c1];rfl
  rw [if_pos c1,if_neg (by rw [e];decide)]
 ·have c1':=Bool.eq_false_iff.2 c1
  rw [if_neg c1]
  by_cases c2:fs.any (wP l day age a f) = true
  ·have e:(!(decide (f.day > day) || (decide (f.day < day - age) || f.kind == 8)) && !(fs.any (wP l day age a f))) = false:=by rw [c1',c2];rfl
   rw [if_pos c2,if_neg (by rw [e];decide)]
  ·have c2':=Bool.eq_false_iff.2 c2
   have e:(!(decide (f.day > day) || (decide (f.day < day - age) || f.kind == 8)) && !(fs.any (wP l day age a f))) = true:=by rw [c1',c2'];rfl
   simp only [kX,kI] at c1'
   rw [if_neg c2,if_pos e,if_neg c1'.2.2,anF]
theorem ahV {l:List Qa} {num day age:Int} {fs:List Nat}:∀ (is:List Nat) (out:List Qc),is.foldl (ahc l num day age fs) out = (is.filterMap fun a=>if af9 l day age fs a = true then KE l num a else none).foldl (adL aeK) out
 | [],out=>rfl
 | a :: r,out=>by
   rw [List.foldl_cons,ahV r,ak4,List.filterMap_cons]
   rcases (if af9 l day age fs a = true then KE l num a else none) with _|x<;>rfl
theorem ahZ (l:List Qa) (num day age:Int) (fs:List Nat):JT l num fs day age fs.length = Xx aeK ((fs.filter (af9 l day age fs)).filterMap (KE l num)):=by
 rw [JT,zR,ahV,Xx,List.filterMap_filter]
def ar1 (l:List Qa) (i:Nat):Bool:=match l[i]? with
 | some f=>f.kind != 8
 | none=>false
theorem aqT (l:List Qa) (num:Int) (vs:List Nat):vs.filterMap (KE l num) = (vs.filter (ar1 l)).filterMap (KE l num):=by
 rw [List.filterMap_filter]
 congr 1
 funext i
 unfold KE ar1
 rcases l[i]? with _|f
 ·rfl
 dsimp only
 by_cases h:f.kind = 8
 ·rw [if_pos h];split<;>rfl
 ·rw [if_neg h,if_pos (by simpa using h)]
theorem anQ {l:List Qa} {m:PM} {n:Nat} (h:afe l m n):m.2.Nodup:=by
 rw [List.nodup_iff_pairwise_ne,kr]
 intro i j hi hj hij he
 obtain ⟨f,f1,f2⟩:=h.pt i _ (zd hi)
 obtain ⟨g,g1,g2⟩:=h.pt j _ (zd hj)
 rw [he] at f1
 rw [f1] at g1;cases g1
 have l1:=(zn.1 f2).1
 rw [← g2] at f2
 have:=(bd l1 h.nd).1 f2
 omega
theorem apn {l:List Qa} {day age:Int} {fs:List Nat} (ha:fs.Pairwise (· < ·)) (hb:∀ i∈fs,i < l.length):(fs.filter (af9 l day age fs)).Perm ((agH l day age fs).2.filter (ar1 l)):=by
 have hok:=abx l day age fs fs.length (zj _)
 have hbe:=aif (day:=day) (age:=age) ha hb fs.length (zj _)
 rw [zR] at hok hbe
 have hfn:fs.Nodup:=ha.imp fun h=>Nat.ne_of_lt h
 rw [List.perm_ext_iff_of_nodup (hfn.filter _) ((anQ hok).filter _)]
 intro i
 rw [List.mem_filter,List.mem_filter]
 constructor
 ·rintro ⟨hi,hk⟩
  unfold af9 at hk
  rcases hf:l[i]? with _|f
  ·rw [hf] at hk;cases hk
  rw [hf] at hk
  simp only [zw,ZH,kX,zP,kI] at hk
  obtain ⟨⟨k1,k2,k3⟩,k4⟩:=hk
  have hw:al8 day age f = true:=afR.2 (by omega)
  obtain ⟨a,ha2,hpa⟩:=kz (hbe.cov i hi f hf hw)
  obtain ⟨j,hj⟩:∃ j,(agH l day age fs).2[a]? = some j:=⟨_,zd (by have:=hok.len;omega)⟩
  obtain ⟨o1,f',o2,o3,o4,o5⟩:=hbe.opt a j hj
  have hpl:J6 f' = J6 f:=by
   rw [zd ha2,hpa] at o4
   exact (ZD o4).symm
  rcases o5 i hi f hf hw hpl.symm with h1|h1
  ·subst h1
   refine ⟨zu hj,?_⟩
   unfold ar1
   rw [hf]
   simpa using k3
  ·exfalso
   have:fs.any (wP l day age i f) = true:=Zx.2 ⟨j,o1,by
    unfold wP
    rw [o2]
    simp only [o3,zC,zw,zA]
    exact ⟨amK.2 hpl,h1⟩⟩
   rw [this] at k4;cases k4
 ·rintro ⟨hi,hk⟩
  obtain ⟨a,ha2,hpa⟩:=kz hi
  obtain ⟨o1,f,o2,o3,o4,o5⟩:=hbe.opt a i (by rw [zd ha2,hpa])
  refine ⟨o1,?_⟩
  unfold ar1 at hk
  unfold af9
  rw [o2] at hk ⊢
  have hw:=afR.1 o3
  simp only [zw,ZH,kX,zP,kI]
  refine ⟨⟨by omega,by omega,by simpa using hk⟩,?_⟩
  rw [List.any_eq_false]
  intro b hbm hbt
  unfold wP at hbt
  rcases hg:l[b]? with _|g
  ·rw [hg] at hbt;cases hbt
  rw [hg] at hbt
  simp only [zw,zA] at hbt
  obtain ⟨t1,t2,t3⟩:=hbt
  rcases o5 b hbm g hg t1 (amK.1 t2) with h1|h1
  ·subst h1
   rw [o2] at hg;cases hg
   have:=aiq t3
   rw [t3] at this;cases this
  ·have:=aiq h1
   rw [t3] at this;cases this
theorem ah0 {l:List Qa} {num day age:Int} {fs:List Nat} (ha:fs.Pairwise (· < ·)) (hb:∀ i∈fs,i < l.length):JT l num fs day age fs.length = XR l num fs day age:=by
 have hok:=abx l day age fs fs.length (zj _)
 rw [zR] at hok
 have hp:=apn (day:=day) (age:=age) ha hb
 rw [ahZ,XR,aqT l num (agH l day age fs).2]
 refine ahe (hp.filterMap _) fun a ha2 b hb2 h0=>?_
 obtain ⟨h1,h2,h3,h4,h5,h6⟩:=afr h0
 have key:∀ c,c∈(fs.filter (af9 l day age fs)).filterMap (KE l num)→∃ (p i:Nat) (f:Qa),(agH l day age fs).2[p]? = some i∧l[i]? = some f∧c = J7 num i f:=fun c hc=>by
  rw [Z7] at hc
  obtain ⟨i,hi,hc⟩:=hc
  rw [hp.mem_iff,List.mem_filter] at hi
  obtain ⟨p,hp1,hp2⟩:=kz hi.1
  rw [KE] at hc
  rcases hf:l[i]? with _|f
  ·rw [hf] at hc;cases hc
  ·rw [hf] at hc
   dsimp only at hc
   split at hc
   ·cases hc
   ·exact ⟨p,i,f,by rw [zd hp1,hp2],hf,(ZD hc).symm⟩
 obtain ⟨p,i,f,p1,p2,rfl⟩:=key a ha2
 obtain ⟨q,j,g,q1,q2,rfl⟩:=key b hb2
 simp only [J7] at h1 h2 h3 h4 h5 h6
 obtain ⟨f',r1,r2⟩:=hok.pt p i p1
 obtain ⟨g',s1,s2⟩:=hok.pt q j q1
 rw [p2] at r1;cases r1
 rw [q2] at s1;cases s1
 have hpl:J6 f = J6 g:=by
  simp only [J6]
  rw [h1,h2,h3,h4,h5,h6]
 have hpq:p = q:=by
  have l1:=(zn.1 r2).1
  rw [hpl,← s2] at r2
  exact (bd l1 hok.nd).1 r2
 subst hpq
 rw [p1] at q1;cases q1
 rw [p2] at q2;cases q2
 rfl
def wkB (rs:List Qj) (ks:List QS) (pu day:Int) (f:Qc):Bool:=f.kind == 1 && (decide (WR rs ks f.alg f.bits pu day = 0) && !xj rs f.alg f.bits pu day)
def aiK (l:List Qa) (gap day age:Int) (rs:List Qj) (ks:List QS) (pu:Int):List Qc:=(Q9 l gap day age).flatten.filter (wkB rs ks pu day)
def afS (l:List Qa) (gap day age:Int) (rs:List Qj) (ks:List QS) (pu:Int):V :=
 if JF l gap day age = 0 then (if Yl rs ks = 0 then (if pu < 1∨pu > 4 then .tup [.sl 8 [],V.int 2] else .tup [.sl 8 ((aiK l gap day age rs ks pu).map Qc.v),V.int 0]) else .tup [.sl 8 [],V.int (Yl rs ks)]) else .tup [.sl 8 [],V.int (JF l gap day age)]
theorem anG {α:Type} {b:Nat}:∀ {ls:List (List α)},(∀ x∈ls,x.length≤b)→ls.flatten.length≤ls.length * b
 | [],_=>by simp
 | x :: r,h=>by
   have h1:=h x kG
   have h2:=anG (ls:=r) fun y hy=>h y (kL _ hy)
   rw [List.flatten_cons,zq,List.length_cons,ke];omega
theorem vm (l:List Qa) (gap day age:Int):(Q9 l gap day age).flatten.length≤l.length * l.length:=by
 have h1:∀ x∈Q9 l gap day age,x.length≤l.length:=by
  intro x hx
  rw [Q9,zE] at hx
  obtain ⟨e,he,rfl⟩:=hx
  exact Zt (abn l e.num e.finds day age) (vI he).2.2.1
 refine Zt (anG h1) (kh _ ?_)
 rw [Q9,zb];exact wx l gap
def wkS (day pu:Int) (rs:List Qj) (ks:List QS) (fl out:List Qc) (k:Nat):St:=Ju [(2,V.int day),(5,V.int pu),(10,.ptr 0 0),(18,.hd 1 0 out.length),(48,.hd 2 0 fl.length),(49,V.int fl.length),(50,V.int k)] [(0,.box true [.sl 6 (rs.map Qj.v),.sl 2 (ks.map QS.v)]),(1,.buf true 8 (out.map Qc.v)),(2,.buf true 8 (fl.map Qc.v))] 3
def VY:=qd Proofs.Tryz.f14 []
def Vb (Γ:Env) (f:Nat):Prop:=∀ (l:List Qa) (gap day age:Int) (rs:List Qj) (ks:List QS) (pu:Int) (hl:l.length≤12) (hz:∀ x∈l,x.Sz) (hr:rs.length < 2 ^ 40) (hk2:ks.length < 2 ^ 40),EvC Γ f [.sl 11 (l.map Qa.v),V.int gap,V.int day,V.int age,aj2 rs ks,V.int pu] (afS l gap day age rs ks pu)
attribute [local go_sem] Ju in
theorem acN {Γ:Env} {f:Nat} (h:Has Γ.P f 81 VY.1.1.ac VY.1.2) (z0:WE Γ 29) (z1:K5 Γ 30) (z2:JD Γ 31) (z3:Ua Γ 32):Vb Γ f:=by
 intro l gap day age rs ks pu hl hz hr hk2
 refine Jy h zsi (by unfold afS;(repeat' split)<;>simp only [V.closed,Qd,and_self]) fun C hC hm=>?_
 subst hC
 simp only [VY,qd,DC.ac]
 have g0:=(z0 l gap day age hl hz).b
 have g1:=(z1 rs ks hr hk2).b
 by_cases hE:JF l gap day age = 0
 rotate_left
 ·rw [afS,if_neg hE]
  rw [aan,if_neg hE] at g0
  have e01:(JF l gap day age != 0) = true:=by simpa using hE
  generalize JF l gap day age = er at *
  (have zx:=e01);exact zg
 rw [afS,if_pos hE]
 rw [aan,if_pos hE] at g0
 have e00:((0:Int) != 0) = false:=by decide
 by_cases hC0:Yl rs ks = 0
 rotate_left
 ·rw [if_neg hC0]
  have e01:(Yl rs ks != 0) = true:=by simpa using hC0
  generalize Yl rs ks = er at *
  (have zx:=za e00 e01);exact zg
 rw [if_pos hC0]
 rw [hC0] at g1
 by_cases hp1:pu < 1
 ·rw [if_pos (.inl hp1)]
  have e1:decide (pu < 1) = true:=zo hp1
  (have zx:=za e00 e1);exact zg
 by_cases hp2:pu > 4
 ·rw [if_pos (.inr hp2)]
  have e1:decide (pu < 1) = false:=zp hp1
  have e2:decide (pu > 4) = true:=zo hp2
  (have zx:=za e00 (za e1 e2));exact zg
 rw [if_neg (by omega)]
 have e1:decide (pu < 1) = false:=zp hp1
 have e2:decide (pu > 4) = false:=zp hp2
 have hfl:=vm l gap day age
 have hsq:l.length * l.length≤144:=Nat.mul_le_mul hl hl
 have hll:(Q9 l gap day age).length≤l.length:=by rw [Q9,zb];exact wx l gap
 have gC:=z2 (Q9 l gap day age) (by omega) (by omega)
 rw [aiK]
 have hfm:((Q9 l gap day age).flatten.map Qc.v).length = (Q9 l gap day age).flatten.length:=zb _
 generalize hfd:(Q9 l gap day age).flatten = fl at *
 (have zx:=za e00 (za e1 (za e2 hfm)));refine zgo ?_;repeat' first|exact zt|apply zan|intro hc
 refine Qo (ι:=Nat) (fun k=>k≤fl.length) (fun k=>wkS day pu rs ks fl ((fl.take k).filter (wkB rs ks pu day)) k) (fun k=>fl.length - k) 0 (zH _) (Qe [(1,28000),(2,30000)]) (Qg [(1,28000),(2,30000)] (by simp only [go_sem,zwl,wkS,List.take_zero,List.filter_nil,List.length_nil,hfm]<;>exact zcc) (by simp only [go_sem,zwl,wkS,List.take_zero,List.filter_nil,zK]<;>exact zcc) (by simp [wkS,Qe]) (by simp [wkS];omega) (by omega)) fun k hk K' hL=>?_
 have hol:=Zi (wkB rs ks pu day) (fl.take k)
 rw [zQ,kQ hk] at hol
 rcases hdr:fl.drop k with _|⟨f,r⟩
 ·have hkl:=Qs hdr
  have e3:decide ((k:Int) < (fl.length:Int)) = false:=by simp;omega
  obtain rfl:k = fl.length:=by omega
  simp only [wkS,zR]
  generalize fl.filter (wkB rs ks pu day) = out
  have htl:List.take out.length (out.map Qc.v) = out.map Qc.v:=zh (by simp)
  (have zx:=za e3 htl);refine zgo ?_;repeat' first|exact zt|apply zan|intro hc
  all_goals first|exact zr|(refine Qk _ rfl ?_;simp only [go_sem];simp [zh];done)
 obtain ⟨hk',hget,hrr⟩:=Ql hdr
 have hw:=Qf (k:=k) (by omega)
 have e3:decide ((k:Int) < (fl.length:Int)) = true:=by simp;omega
 have vf:(fl.map Qc.v)[k]? = some f.v:=by rw [zf,hget];rfl
 have pA:=(z3 rs ks f.alg f.bits pu day hr hk2).b
 have hnx:(fl.take (k + 1)).filter (wkB rs ks pu day) = (fl.take k).filter (wkB rs ks pu day)++(if wkB rs ks pu day f = true then [f] else []):=by
  rw [zO,hget,Zz]
  rcases hb:wkB rs ks pu day f with _|_<;>simp [hb]
 rw [wkB] at hnx
 simp only [wkS]
 generalize (fl.take k).filter (wkB rs ks pu day) = out at *
 have hom:(out.map Qc.v).length = out.length:=zb _
 have htl:List.take out.length (out.map Qc.v) = out.map Qc.v:=zh (by simp)
 simp only [Qc.v,Qc.cells] at vf
 by_cases h0:WR rs ks f.alg f.bits pu day = 0
 rotate_left
 ·rw [if_pos h0] at pA
  rw [zp h0,zy,zI,if_neg (by decide),ki] at hnx
  have e4:(WR rs ks f.alg f.bits pu day == 0) = false:=by simpa using h0
  rcases hkd:(f.kind == 1) with _|_
  ·(have zx:=za e3 (za e4 (za hkd (za hw (za vf (za hom (za htl hfm)))))));refine zgo ?_;repeat' first|exact zt|apply zan|intro hc
   all_goals exact hL _ (k + 1) (Qe []) (by omega) (by omega) (Qg [] (by simp only [go_sem,zwl,wkS,hnx]<;>exact zcc) (by simp only [go_sem,zwl,wkS,hnx]<;>exact zcc) (by simp [wkS,Qe]) (by simp [wkS]) (by omega))
  ·(have zx:=za e3 (za e4 (za hkd (za hw (za vf (za hom (za htl hfm)))))));refine zgo ?_;repeat' first|exact zt|apply zan|intro hc
   all_goals exact hL _ (k + 1) (Qe []) (by omega) (by omega) (Qg [] (by simp only [go_sem,zwl,wkS,hnx]<;>exact zcc) (by simp only [go_sem,zwl,wkS,hnx]<;>exact zcc) (by simp [wkS,Qe]) (by simp [wkS]) (by omega))
 rw [if_neg (by simpa using h0)] at pA
 rw [zo h0,zC] at hnx
 rcases hkd:(f.kind == 1) with _|_
 ·rw [hkd,zy,if_neg (by decide),ki] at hnx
  (have zx:=za e3 (za hkd (za hw (za vf (za hom (za htl hfm))))));refine zgo ?_;repeat' first|exact zt|apply zan|intro hc
  all_goals exact hL _ (k + 1) (Qe []) (by omega) (by omega) (Qg [] (by simp only [go_sem,zwl,wkS,hnx]<;>exact zcc) (by simp only [go_sem,zwl,wkS,hnx]<;>exact zcc) (by simp [wkS,Qe]) (by simp [wkS]) (by omega))
 have e4:((0:Int) == 0) = true:=by decide
 rcases hal:xj rs f.alg f.bits pu day with _|_
 ·rw [hkd,hal,ZS,zC,if_pos rfl] at hnx
  rw [hal] at pA
  (have zx:=za e3 (za e4 (za hkd (za hw (za vf (za hom (za htl hfm)))))));refine zgo ?_;repeat' first|exact zt|apply zan|intro hc
  all_goals exact hL _ (k + 1) (Qe [(1,32003)]) (by omega) (by omega) (Qg [(1,32003)] (by simp only [go_sem,zwl,wkS,hnx,zq,List.length_cons,List.length_nil]<;>exact zcc) (by simp only [go_sem,zwl,wkS,hnx,km,zL,zK,Qc.v,Qc.cells]<;>exact zcc) (by simp [wkS,Qe]) (by simp [wkS];omega) (by omega))
 ·rw [hkd,hal,bl,zC,if_neg (by decide),ki] at hnx
  rw [hal] at pA
  (have zx:=za e3 (za e4 (za hkd (za hw (za vf (za hom (za htl hfm)))))));refine zgo ?_;repeat' first|exact zt|apply zan|intro hc
  all_goals exact hL _ (k + 1) (Qe []) (by omega) (by omega) (Qg [] (by simp only [go_sem,zwl,wkS,hnx]<;>exact zcc) (by simp only [go_sem,zwl,wkS,hnx]<;>exact zcc) (by simp [wkS,Qe]) (by simp [wkS]) (by omega))
def akX:Qa:=⟨1,[97],1,3,9,1,[115],1,0,0,[]⟩
def akW:Qa:=⟨1,[97],1,5,9,1,[115],1,0,0,[]⟩
def asN:Qc:=⟨0,[115],1,1,0,0,[97],0⟩
def asM:Qj:=⟨false,1,0,0,0,40001⟩
theorem aqk:akX.Sz∧akW.Sz:=by refine ⟨⟨?_,?_,?_⟩,?_,?_,?_⟩<;>decide
theorem aqi:JC akX = true∧JC akW = true:=by decide +kernel
theorem arx:YI [akX,akW] = [akX,akW]:=by decide +kernel
theorem agO:JF [akX,akW] 2 9 100 = 0∧KB [akX,akW] 2 9 100 asN = true∧agf [akX,akW] 2 9 100 asN = [1]:=by decide +kernel
theorem an6:Yl [asM] [] = 0∧aiK [akX,akW] 2 9 100 [asM] [] 4 = [⟨0,[115],1,1,0,0,[],1⟩]:=by decide +kernel
theorem apf {Γ:Env} {f:FuncId} {a b c d x y res:V} {sz:Nat} (h:EvC Γ f [a,b,c,d,.agg [x,.sl sz []],y] res):EvC Γ f [a,b,c,d,.agg [x,.sc (.slice none 0 0)],y] res :=
 ⟨(EvB.le (args':=[a,b,c,d,.agg [x,.sc (.slice none 0 0)],y]) h.b rfl fun i h1 h2=>by
  match i,h1 with
  | 0,_|1,_|2,_|3,_|5,_=>exact LeV.refl _
  | 4,_=>exact LeV.agg2 (LeV.refl _) (LeV.nil sz)).ev,h.2⟩
def K1:=qd Proofs.Tryz.f7 []
def jV (Γ:Env) (f:Nat):Prop:=EvN Γ f [] (V.bool true)
theorem ae3 {Γ:Env} {f:Nat} (h:Has Γ.P f 60 K1.1.1.ac K1.1.2) (z0:K8 Γ 25) (z1:Xm Γ 18) (z2:Vb Γ 14) (z3:WC Γ 21):jV Γ f:=by
 refine Qb h zsi zcl zcl fun C hC hm=>?_
 subst hC
 simp only [K1,qd,DC.ac]
 have hz:∀ x∈[akX,akW],x.Sz:=by intro x hx;simp only [zF,zM,or_false] at hx;rcases hx with rfl|rfl;exact aqk.1;exact aqk.2
 have hq:∀ x∈[akX,akW],JC x = true:=by intro x hx;simp only [zF,zM,or_false] at hx;rcases hx with rfl|rfl;exact aqi.1;exact aqi.2
 have g1:=(z0 [akX,akW] (by decide) hz hq).c
 have g2:=(z1 [akX,akW] 2 9 100 asN (by decide) hz).b
 have g3:=z2 [akX,akW] 2 9 100 [asM] [] 4 (by decide) hz (by decide) (by decide)
 have g4:=(z3 [1] [1] (by decide)).b
 rw [arx] at g1
 rw [aeL,if_pos agO.1,if_pos agO.2.1,agO.2.2] at g2
 rw [afS,if_pos agO.1,if_pos an6.1,if_neg (by decide),an6.2] at g3
 simp only [akX,akW,asN,asM,Qa.v,Qa.cells,Qc.v,Qc.cells,Qj.v,Qj.cells,zL,zK,aj2,Qt] at g1 g2 g3 g4
 have g3:=apf g3
 repeat' (first|(refine zsk ?_;intro K' hK)|refine zsp ?_|(refine zsc ?_ ?_<;>intro hc<;>first|exact znh|try simp only [znz] at hc)|simp (maxSteps:=1000000) only [go_sem]|(refine hK _ ?_;clear hK K')|apply zan|(apply asv;(focus first|exact g3))|(apply aqj;(focus first|exact g1))|(apply QF;(focus first|exact g2|exact g4))|exact zsq|fail)
 all_goals exact zr
theorem amp {x s:List Qa} {gap:Int} (hn:Y1 x = true) (hs:s.Sublist x) (hg:0≤gap∧gap≤4000):J8 s gap = 0:=by
 rw [J8,if_pos (ahx hn hs),if_neg (by omega)]
theorem ab9:∀ (x:List Qa),Qn x (List.range x.length) = x:=by
 intro x
 have h:∀ n,n≤x.length→Qn x (List.range n) = x.take n:=by
  intro n
  induction n with
  | zero=>intro _;rfl
  | succ n ih =>
    intro hn
    rw [ZB,Qn,ZQ,zO]
    have:=ih (by omega)
    rw [Qn] at this
    rw [this]
    congr 1
 rw [h _ (zj _),zR]
theorem alT {x:List Qa} {fs:List Nat} (h:fs.Sublist (List.range x.length)):(Qn x fs).Sublist x:=by
 have:=h.filterMap (fun i=>x[i]?)
 have e:=ab9 x
 rw [Qn] at e ⊢
 rwa [e] at this
theorem vM {x:List Qa} {i:Nat} {r:List Nat} (h:i < x.length):Qn x (i :: r) = x[i] :: Qn x r:=by
 rw [Qn,List.filterMap_cons,zd h];rfl
theorem aef {x:List Qa}:∀ {fs:List Nat} (k:Nat),(∀ i∈fs,i < x.length)→(Qn x fs).take k = Qn x (fs.take k)
 | [],k,_=>by simp [Qn]
 | i :: r,0,_=>by simp [Qn]
 | i :: r,k + 1,h=>by
   rw [vM (h i kG),List.take_succ_cons,List.take_succ_cons,vM (h i kG),aef k fun j hj=>h j (kL _ hj)]
theorem aeg {x:List Qa}:∀ {fs:List Nat} (k:Nat),(∀ i∈fs,i < x.length)→(Qn x fs).drop k = Qn x (fs.drop k)
 | [],k,_=>by simp [Qn]
 | i :: r,0,_=>by simp
 | i :: r,k + 1,h=>by
   rw [vM (h i kG),List.drop_succ_cons,List.drop_succ_cons,aeg k fun j hj=>h j (kL _ hj)]
theorem adz {a:Nat}:∀ {fs:List Nat} {i:Nat},fs.Nodup→fs[i]? = some a→YQ a fs = fs.take i++fs.drop (i + 1)
 | [],_,_,h=>by simp at h
 | b :: r,0,hn,h=>by
   simp at h;subst h
   have hb:=(Zr.1 hn).1
   rw [YQ]
   simp only [List.filter_cons,beq_self_eq_true,bl,zB,if_false,List.take_zero,List.nil_append,List.drop_succ_cons,kK]
   rw [List.filter_eq_self]
   intro y hy
   have:y≠b:=fun e=>hb (e ▸ hy)
   simp [this]
 | b :: r,i + 1,hn,h=>by
   have h':r[i]? = some a:=by simpa using h
   have hb:b≠a:=fun e=>(Zr.1 hn).1 (e ▸ zu h')
   have ih:=adz (Zr.1 hn).2 h'
   rw [YQ] at ih ⊢
   rw [List.filter_cons,if_pos (by simp [hb]),ih];rfl
theorem alU {x:List Qa} {fs:List Nat} {i a:Nat} (hb:∀ i∈fs,i < x.length) (hn:fs.Nodup) (h:fs[i]? = some a):(Qn x fs).take i++(Qn x fs).drop (i + 1) = Qn x (YQ a fs):=by
 rw [adz hn h,aef i hb,aeg _ hb,Qn,Qn,Qn,ZQ]
structure arN (x:List Qa) (gap day:Int) (f:Qc) (s:List Nat):Prop where
 sub:s.Sublist (List.range x.length)
 early:J8 (Qn x s) gap = 0
 hold:KB (Qn x s) gap day 100 f = true
 less:∀ i∈s,J8 (Qn x (YQ i s)) gap = 0∧KB (Qn x (YQ i s)) gap day 100 f = false
 pos:s≠[]
theorem arN.lt {x:List Qa} {gap day:Int} {f:Qc} {s:List Nat} (h:arN x gap day f s):∀ i∈s,i < x.length:=fun i hi=>kW.1 (h.sub.subset hi)
theorem arN.asc {x:List Qa} {gap day:Int} {f:Qc} {s:List Nat} (h:arN x gap day f s):s.Pairwise (· < ·):=List.pairwise_lt_range.sublist h.sub
theorem arN.nd {x:List Qa} {gap day:Int} {f:Qc} {s:List Nat} (h:arN x gap day f s):s.Nodup:=h.asc.imp fun h=>Nat.ne_of_lt h
theorem amw {l:List Qa} {gap day age:Int} {f:Qc} {e:QT} (he:e∈Jv l gap):al9 l day age f e = ahK l day age f e:=by
 obtain ⟨o1,o2,o3,o4⟩:=vI he
 rw [al9,ahK,ah0 o1 o2]
 have:(fun y:List UInt8=>y == f.text) = fun y=>decide (f.text = y):=by
  funext y
  rw [kZ]
  simp only [ky,zA]
  exact eq_comm
 rw [this]
theorem aiQ (l:List Qa) (gap day age:Int) (f:Qc):arK l gap day age f = KB l gap day age f:=by
 rw [arK,KB,kZ,Zx,Zx]
 constructor
 ·rintro ⟨e,he,h⟩;exact ⟨e,he,by rw [← amw he];exact h⟩
 ·rintro ⟨e,he,h⟩;exact ⟨e,he,by rw [amw he];exact h⟩
def KM:=qd Proofs.Tryz.f17 []
def jL (Γ:Env) (f:Nat):Prop:=∀ (l:List Qa) (gap day age:Int) (f0:Qc) (hl:l.length < 2 ^ 40) (hz:∀ x∈l,x.Sz) (hq:∀ x∈l,JC x = true),EvN Γ f [.sl 11 (l.map Qa.v),V.int gap,V.int day,V.int age,f0.v] (q9 l gap day age f0)
theorem aeO {Γ:Env} {f:Nat} (h:Has Γ.P f 27 KM.1.1.ac KM.1.2) (z0:WV Γ 33) (z1:K6 Γ 37):jL Γ f:=by
 intro l gap day age f0 hl hz hq
 refine Qb h zsi (by unfold q9;split<;>simp only [V.closed,Qd,V.noSl,WP,and_self]) (by unfold q9;split<;>simp only [V.closed,Qd,V.noSl,WP,and_self]) fun C hC hm=>?_
 subst hC
 simp only [KM,qd,DC.ac]
 have p0:=(z0 l gap day age hl hz hq).b
 rw [q9]
 by_cases hK:JF l gap day age = 0
 ·rw [if_pos hK]
  rw [hK] at p0
  obtain ⟨h1,h2,h3,h4⟩:=j5.1 hK
  have p1:=(z1 l gap day age f0 hz h1 h2 h3 h4).b
  rw [aiQ] at p1
  have e00:((0:Int) != 0) = false:=by decide
  simp only [Qc.v,Qc.cells] at p1 ⊢
  (have zx:=e00);exact zg
 ·rw [if_neg hK]
  have e01:(JF l gap day age != 0) = true:=by simpa using hK
  generalize JF l gap day age = er at *
  simp only [Qc.v,Qc.cells]
  (have zx:=e01);exact zg
def ag3 (rs:List Qj) (ks:List QS) (pu day:Int) (f:Qc):Bool:=f.kind == 1 && !(decide (WR rs ks f.alg f.bits pu day = 0) && xj rs f.alg f.bits pu day)
def ak2 (l:List Qa) (gap day age:Int) (rs:List Qj) (ks:List QS) (pu:Int):List Qc:=(Q9 l gap day age).flatten.filter (ag3 rs ks pu day)
def amh (l:List Qa) (gap day age:Int) (rs:List Qj) (ks:List QS) (pu:Int):V :=
 if JF l gap day age = 0 then (if Yl rs ks = 0 then (if pu < 1∨pu > 4 then .tup [.sl 8 [],V.int 2] else .tup [.sl 8 ((ak2 l gap day age rs ks pu).map Qc.v),V.int 0]) else .tup [.sl 8 [],V.int (Yl rs ks)]) else .tup [.sl 8 [],V.int (JF l gap day age)]
def afh (l:List Qa) (gap day age pu:Int) (n k:Nat):List (Nat×V):=[(0,.sl 11 (l.map Qa.v)),(2,V.int day),(3,V.int age),(5,V.int pu),(10,.ptr 0 0),(16,.sl 4 ((Jv l gap).map QT.v)),(18,.hd 1 0 n),(19,V.int k)]
def aa6 (rs:List Qj) (ks:List QS) (out:List Qc):List (Nat×Ob):=[(0,.box true [.sl 6 (rs.map Qj.v),.sl 2 (ks.map QS.v)]),(1,.buf true 8 (out.map Qc.v))]
def amx (l:List Qa) (gap day age pu:Int) (rs:List Qj) (ks:List QS) (out:List Qc) (k:Nat):St:=Ju (afh l gap day age pu out.length k) (aa6 rs ks out) 2
def adc (l:List Qa) (gap day age pu:Int) (rs:List Qj) (ks:List QS) (out fl:List Qc) (k j:Nat):St:=Ju (afh l gap day age pu out.length k++[(20,.sl 8 (fl.map Qc.v)),(22,V.int j)]) (aa6 rs ks out) 2
def jh:=qd Proofs.Tryz.f15 [zhn 16]
def yR (Γ:Env) (f:Nat):Prop:=∀ (l:List Qa) (gap day age:Int) (rs:List Qj) (ks:List QS) (pu:Int) (hl:l.length < 2 ^ 40) (hz:∀ x∈l,x.Sz) (hq:∀ x∈l,JC x = true) (hr:rs.length < 2 ^ 40) (hk2:ks.length < 2 ^ 40),EvC Γ f [.sl 11 (l.map Qa.v),V.int gap,V.int day,V.int age,aj2 rs ks,V.int pu] (amh l gap day age rs ks pu)
attribute [local go_sem] Ju in
theorem agn {Γ:Env} {f:Nat} (h:Has Γ.P f 103 jh.1.1.ac jh.1.2) (z0:WV Γ 33) (z1:U5 Γ 34) (z2:WB Γ 23) (z3:U6 Γ 24) (z4:Ko Γ 22):yR Γ f:=by
 intro l gap day age rs ks pu hl hz hq hr hk2
 refine Jy h zsi (by unfold amh;(repeat' split)<;>simp only [V.closed,Qd,and_self]) fun C hC hm=>?_
 subst hC
 simp only [jh,qd,DC.ac]
 have p0:=(z0 l gap day age hl hz hq).b
 have g1:=(z1 rs ks hr hk2).b
 have e00:((0:Int) != 0) = false:=by decide
 rw [amh]
 by_cases hK:JF l gap day age = 0
 rotate_left
 ·rw [if_neg hK]
  have e01:(JF l gap day age != 0) = true:=by simpa using hK
  generalize JF l gap day age = er at *
  (have zx:=e01);exact zg
 rw [if_pos hK]
 rw [hK] at p0
 obtain ⟨h1,h2,h3,h4⟩:=j5.1 hK
 by_cases hC0:Yl rs ks = 0
 rotate_left
 ·rw [if_neg hC0]
  have e01:(Yl rs ks != 0) = true:=by simpa using hC0
  generalize Yl rs ks = er at *
  (have zx:=za e00 e01);exact zg
 rw [if_pos hC0]
 rw [hC0] at g1
 by_cases hp1:pu < 1
 ·rw [if_pos (.inl hp1)]
  have e1:decide (pu < 1) = true:=zo hp1
  (have zx:=za e00 e1);exact zg
 by_cases hp2:pu > 4
 ·rw [if_pos (.inr hp2)]
  have e1:decide (pu < 1) = false:=zp hp1
  have e2:decide (pu > 4) = true:=zo hp2
  (have zx:=za e00 (za e1 e2));exact zg
 rw [if_neg (by omega)]
 have e1:decide (pu < 1) = false:=zp hp1
 have e2:decide (pu > 4) = false:=zp hp2
 have hl4:=(Vx h1).1
 have pE:=(z2 l gap (by omega) hz hq).b
 rw [akF,aog,show J8 l gap = 0 by rw [J8,if_pos h1,if_neg (by omega)],if_pos rfl] at pE
 have hel:=wx l gap
 have heL:((Jv l gap).map QT.v).length = (Jv l gap).length:=zb _
 (have zx:=za e00 (za e1 e2));refine zgo ?_;repeat' first|exact zt|apply zan|intro hc
 refine Qo (ι:=Nat) (fun k=>k≤(Jv l gap).length) (fun k=>amx l gap day age pu rs ks ((((Q9 l gap day age).take k).flatten).filter (ag3 rs ks pu day)) k) (fun k=>(Jv l gap).length - k) 0 (zH _) (Qe [(1,30000)]) (Qg [(1,30000)] (by simp only [go_sem,zwl,amx,afh,aa6,List.take_zero,List.flatten_nil,List.filter_nil,List.length_nil]<;>exact zcc) (by simp only [go_sem,zwl,amx,afh,aa6,List.take_zero,List.flatten_nil,List.filter_nil,zK]<;>exact zcc) (by simp [amx,aa6,Qe]) (by simp [amx];omega) (by omega)) fun k hk K' hL=>?_
 have hfb:=vm l gap day age
 have hsq:l.length * l.length≤160000:=Nat.mul_le_mul hl4 hl4
 have hLl:(Q9 l gap day age).length = (Jv l gap).length:=zb _
 have htb:∀ k,((Q9 l gap day age).take k).flatten.length≤160000:=fun k=>by
  have:=aiM (Q9 l gap day age) k
  rw [ag5] at this;omega
 have hob:∀ k,((((Q9 l gap day age).take k).flatten).filter (ag3 rs ks pu day)).length≤160000:=fun k=>Zt (Zi _ _) (htb k)
 rcases hdr:(Jv l gap).drop k with _|⟨e,r⟩
 ·have hkl:=Qs hdr
  have g3:decide ((k:Int) < ((Jv l gap).length:Int)) = false:=by simp;omega
  have hfin:(((Q9 l gap day age).take k).flatten).filter (ag3 rs ks pu day) = ak2 l gap day age rs ks pu:=by rw [ak2,zh (by omega)]
  simp only [amx,afh,aa6,hfin]
  generalize ak2 l gap day age rs ks pu = out
  have htl:List.take out.length (out.map Qc.v) = out.map Qc.v:=zh (by simp)
  (have zx:=za g3 (za heL htl));refine zgo ?_;repeat' first|exact zt|apply zan|intro hc
  all_goals first|exact zr|(refine Qk _ rfl ?_;simp only [go_sem];simp [zh];done)
 obtain ⟨hk',hget,hrr⟩:=Ql hdr
 have hw:=Qf (k:=k) (by omega)
 have g3:decide ((k:Int) < ((Jv l gap).length:Int)) = true:=by simp;omega
 have ve:((Jv l gap).map QT.v)[k]? = some e.v:=by rw [zf,hget];rfl
 obtain ⟨o1,o2,o3,o4⟩:=vI (zu hget)
 have pf:=(z3 l e day age (by omega) hz h1 h3 h4 o2 (o1.imp fun h=>Nat.ne_of_lt h) (by omega)).b
 rw [ah0 o1 o2] at pf
 have hfl:=abn l e.num e.finds day age
 have hfk:(Q9 l gap day age)[k]? = some (XR l e.num e.finds day age):=by rw [Q9,zf,hget];rfl
 have hnx:(((Q9 l gap day age).take (k + 1)).flatten).filter (ag3 rs ks pu day) = (((Q9 l gap day age).take k).flatten).filter (ag3 rs ks pu day)++(XR l e.num e.finds day age).filter (ag3 rs ks pu day):=by
  rw [zO,hfk,Option.toList_some,List.flatten_append,Zz];simp
 have ho0:=hob k
 have ho1:=hob (k + 1)
 rw [hnx] at ho1
 simp only [amx,afh,aa6]
 simp only [QT.v] at ve pf
 generalize (((Q9 l gap day age).take k).flatten).filter (ag3 rs ks pu day) = out at *
 generalize XR l e.num e.finds day age = fl at *
 (have zx:=za g3 (za heL ve));refine zgo ?_;repeat' first|exact zt|apply zan|intro hc
 have hfm:(fl.map Qc.v).length = fl.length:=zb _
 refine Qo (ι:=Nat) (fun j=>j≤fl.length) (fun j=>adc l gap day age pu rs ks (out++(fl.take j).filter (ag3 rs ks pu day)) fl k j) (fun j=>fl.length - j) 0 (zH _) (Qe []) (Qg [] (by simp only [go_sem,zwl,adc,afh,aa6,List.take_zero,List.filter_nil,ki,List.cons_append,List.nil_append]<;>exact zcc) (by simp only [go_sem,zwl,adc,afh,aa6,List.take_zero,List.filter_nil,ki]<;>exact zcc) (by simp [adc,aa6,Qe]) (by simp [adc]) (by omega)) fun j hj K2 hL2=>?_
 have hoj:(out++(fl.take j).filter (ag3 rs ks pu day)).length≤160400:=by
  have:=Zi (ag3 rs ks pu day) (fl.take j)
  rw [zq];rw [zQ] at this;omega
 rcases hdj:fl.drop j with _|⟨f,q⟩
 ·have hkl:=Qs hdj
  have g4:decide ((j:Int) < (fl.length:Int)) = false:=by simp;omega
  obtain rfl:j = fl.length:=by omega
  simp only [adc,afh,aa6,zR,List.cons_append,List.nil_append]
  rw [← hnx] at *
  (have zx:=za g4 (za hfm hw));refine zgo ?_;repeat' first|exact zt|apply zan|intro hc
  all_goals exact hL _ (k + 1) (Qe []) (by omega) (by omega) (Qg [] (by simp only [go_sem,zwl,amx,afh,aa6]<;>exact zcc) (by simp only [go_sem,zwl,amx,afh,aa6]<;>exact zcc) (by simp [amx,aa6,Qe]) (by simp [amx]) (by omega))
 obtain ⟨hj',hgj,hqr⟩:=Ql hdj
 have hwj:=Qf (k:=j) (by omega)
 have g4:decide ((j:Int) < (fl.length:Int)) = true:=by simp;omega
 have vf:(fl.map Qc.v)[j]? = some f.v:=by rw [zf,hgj];rfl
 have pA:=(z4 rs ks f.alg f.bits pu day hr hk2).b
 have hnj:out++(fl.take (j + 1)).filter (ag3 rs ks pu day) = (out++(fl.take j).filter (ag3 rs ks pu day))++(if ag3 rs ks pu day f = true then [f] else []):=by
  rw [zO,hgj,Zz,kE]
  rcases hb:ag3 rs ks pu day f with _|_<;>simp [hb]
 rw [ag3] at hnj
 simp only [adc,afh,aa6,List.cons_append,List.nil_append]
 generalize hou:out++(fl.take j).filter (ag3 rs ks pu day) = ou at *
 have hom:(ou.map Qc.v).length = ou.length:=zb _
 have htl:List.take ou.length (ou.map Qc.v) = ou.map Qc.v:=zh (by simp)
 simp only [Qc.v,Qc.cells] at vf
 rcases hkd:(f.kind == 1) with _|_
 ·rw [hkd,zy,if_neg (by decide),ki] at hnj
  have hkn:(f.kind != 1) = true:=by rw [bne,hkd];rfl
  (have zx:=za g4 (za hkn (za hwj (za vf (za hfm (za hom htl))))));refine zgo ?_;repeat' first|exact zt|apply zan|intro hc
  all_goals exact hL2 _ (j + 1) (Qe []) (by omega) (by omega) (Qg [] (by simp only [go_sem,zwl,adc,afh,aa6,hnj,List.cons_append,List.nil_append]<;>exact zcc) (by simp only [go_sem,zwl,adc,afh,aa6,hnj]<;>exact zcc) (by simp [adc,aa6,Qe]) (by simp [adc]) (by omega))
 have hkn:(f.kind != 1) = false:=by rw [bne,hkd];rfl
 rw [hkd,zC] at hnj
 by_cases h0:WR rs ks f.alg f.bits pu day = 0
 ·rw [if_neg (by simpa using h0)] at pA
  rw [zo h0,zC] at hnj
  rcases hal:xj rs f.alg f.bits pu day with _|_
  ·rw [hal,ZS,if_pos rfl] at hnj
   rw [hal] at pA
   (have zx:=za g4 (za hkn (za hwj (za vf (za hfm (za hom htl))))));refine zgo ?_;repeat' first|exact zt|apply zan|intro hc
   all_goals exact hL2 _ (j + 1) (Qe [(1,34002)]) (by omega) (by omega) (Qg [(1,34002)] (by simp only [go_sem,zwl,adc,afh,aa6,hnj,zq,List.length_cons,List.length_nil,List.cons_append,List.nil_append]<;>exact zcc) (by simp only [go_sem,zwl,adc,afh,aa6,hnj,km,zL,zK,Qc.v,Qc.cells]<;>exact zcc) (by simp [adc,aa6,Qe]) (by simp [adc];omega) (by omega))
  ·rw [hal,bl,if_neg (by decide),ki] at hnj
   rw [hal] at pA
   (have zx:=za g4 (za hkn (za hwj (za vf (za hfm (za hom htl))))));refine zgo ?_;repeat' first|exact zt|apply zan|intro hc
   all_goals exact hL2 _ (j + 1) (Qe []) (by omega) (by omega) (Qg [] (by simp only [go_sem,zwl,adc,afh,aa6,hnj,List.cons_append,List.nil_append]<;>exact zcc) (by simp only [go_sem,zwl,adc,afh,aa6,hnj]<;>exact zcc) (by simp [adc,aa6,Qe]) (by simp [adc]) (by omega))
 ·rw [if_pos h0] at pA
  rw [zp h0,zy,ZS,if_pos rfl] at hnj
  (have zx:=za g4 (za hkn (za hwj (za vf (za hfm (za hom htl))))));refine zgo ?_;repeat' first|exact zt|apply zan|intro hc
  all_goals exact hL2 _ (j + 1) (Qe [(1,34002)]) (by omega) (by omega) (Qg [(1,34002)] (by simp only [go_sem,zwl,adc,afh,aa6,hnj,zq,List.length_cons,List.length_nil,List.cons_append,List.nil_append]<;>exact zcc) (by simp only [go_sem,zwl,adc,afh,aa6,hnj,km,zL,zK,Qc.v,Qc.cells]<;>exact zcc) (by simp [adc,aa6,Qe]) (by simp [adc];omega) (by omega))
theorem atU (p q:Qc):Jp [0,1,0,0,0,0,1,0] p.cells q.cells = some (decide (p = q)):=by
 obtain ⟨a1,a2,a3,a4,a5,a6,a7,a8⟩:=p
 obtain ⟨b1,b2,b3,b4,b5,b6,b7,b8⟩:=q
 have hs:∀ x y:List UInt8,((⟨x.toArray⟩:ByteArray) == ⟨y.toArray⟩) = decide (x = y):=fun x y=>by
  rw [kZ,ael];simp
 simp only [Qc.cells,V.str,V.int,Jp,hs,if_true,Option.map_some,Qc.mk.injEq]
 congr 1
 rw [kZ]
 simp
def jl:=qd Proofs.Tryz.f20 [zhn 9]
def yV (Γ:Env) (f:Nat):Prop:=∀ (xs ys:List Qc) (hl:xs.length < 2 ^ 60) (hl2:ys.length < 2 ^ 60),EvN Γ f [.sl 8 (xs.map Qc.v),.sl 8 (ys.map Qc.v)] (V.bool (decide (xs = ys)))
theorem agr {Γ:Env} {f:Nat} (h:Has Γ.P f 26 jl.1.1.ac jl.1.2) :yV Γ f:=by
 intro xs ys hl hl2
 refine Qb h zsi zcl zcl fun C hC hm=>?_
 subst hC
 simp only [jl,qd,DC.ac]
 have hxl:(xs.map Qc.v).length = xs.length:=zb _
 have hyl:(ys.map Qc.v).length = ys.length:=zb _
 by_cases hlen:xs.length = ys.length
 rotate_left
 ·have e0:((xs.length:Int) != (ys.length:Int)) = true:=by simp;omega
  rw [zp fun h:xs = ys=>hlen (by rw [h])]
  (have zx:=za hxl (za hyl e0));exact zg
 have e0:((xs.length:Int) != (ys.length:Int)) = false:=by simp [hlen]
 (have zx:=za hxl (za hyl e0));refine zgo ?_;repeat' first|exact zt|apply zan|intro hc
 refine Qx (ι:=Nat) (fun k=>k≤xs.length∧decide (xs.drop k = ys.drop k) = decide (xs = ys)) (fun k=>[(5,V.int k)]) (fun k=>xs.length - k) 0 (by omega) ⟨zH _,rfl⟩ zol zlt zet fun k hk K' hL=>?_
 obtain ⟨hk,hinv⟩:=hk
 simp only [ovT,JQ,Nat.reduceEqDiff,reduceIte]
 rcases hd:xs.drop k with _|⟨y,r⟩
 ·have hkl:=Qs hd
  have hd2:ys.drop k = []:=Zv (by omega)
  have e1:decide ((k:Int) < (xs.length:Int)) = false:=by simp;omega
  rw [hd,hd2] at hinv
  rw [← hinv]
  (have zx:=za hxl e1);refine zgo ?_;repeat' first|exact zt|apply zan|intro hc
  all_goals first|exact zr|(refine Qk _ rfl ?_;simp only [go_sem];rfl)
 obtain ⟨hk',hget,hr⟩:=Ql hd
 rcases hd2:ys.drop k with _|⟨z,r2⟩
 ·have:=Qs hd2;omega
 obtain ⟨hk2,hget2,hr2⟩:=Ql hd2
 rw [hd,hd2] at hinv
 have hw:=Qf (k:=k) (by omega)
 have e1:decide ((k:Int) < (xs.length:Int)) = true:=by simp;omega
 have vy:(xs.map Qc.v)[k]? = some y.v:=by rw [zf,hget];rfl
 have vz:(ys.map Qc.v)[k]? = some z.v:=by rw [zf,hget2];rfl
 have hq:=atU y z
 simp only [Qc.v,Qc.cells] at hq vy vz
 by_cases hyz:y = z
 ·rw [zo hyz] at hq
  subst hyz
  (have zx:=za hxl (za hyl (za e1 (za hq (za hw (za vy vz))))));refine zgo ?_;repeat' first|exact zt|apply zan|intro hc
  all_goals exact hL _ (k + 1) zet ⟨by omega,by rw [hr,hr2,← hinv];simp⟩ (by omega) zoe
 ·rw [zp hyz] at hq
  have hF:decide (xs = ys) = false:=by rw [← hinv];simp [hyz]
  rw [hF]
  (have zx:=za hxl (za hyl (za e1 (za hq (za hw (za vy vz))))));exact zg
theorem aq8 {l:List Qa} {num day age:Int} {fs:List Nat} {f:Qc} (h:f∈XR l num fs day age):∃ i x,l[i]? = some x∧x.kind≠8∧f = J7 num i x:=by
 rw [XR,adK,Z7] at h
 obtain ⟨i,_,h⟩:=h
 rw [KE] at h
 rcases hx:l[i]? with _|x
 ·rw [hx] at h;cases h
 ·rw [hx] at h
  dsimp only at h
  split at h
  ·cases h
  ·rename_i h8;exact ⟨i,x,hx,h8,(ZD h).symm⟩
theorem anH {l:List Qa} {gap day age:Int} {f:Qc} (h:f∈(Q9 l gap day age).flatten):∃ e∈Jv l gap,f∈XR l e.num e.finds day age:=by
 obtain ⟨fl,h1,h2⟩:=List.mem_flatten.1 h
 rw [Q9,zE] at h1
 obtain ⟨e,he,rfl⟩:=h1
 exact ⟨e,he,h2⟩
theorem apb {l:List Qa} {gap day age:Int} {f:Qc} (hq:∀ x∈l,JC x = true) (h:f∈(Q9 l gap day age).flatten) (hk:f.kind = 1):QL f.alg f.bits > 0:=by
 obtain ⟨e,_,h2⟩:=anH h
 obtain ⟨i,x,hx,_,rfl⟩:=aq8 h2
 have hc:=hq x (zu hx)
 simp only [J7] at hk ⊢
 obtain ⟨_,_,_,hco,_,_⟩:=(show _∧_∧_∧KJ x = true∧True∧True from by
  simp only [JC,zw] at hc
  exact ⟨trivial,trivial,trivial,hc.2,trivial,trivial⟩)
 unfold KJ at hco
 rw [if_pos (.inl hk)] at hco
 simp only [zw,zA] at hco
 exact hco.1.1
theorem alJ {l:List Qa} {gap day age pu:Int} {rs:List Qj} {ks:List QS} {f:Qc} (hq:∀ x∈l,JC x = true) (hC:Yl rs ks = 0) (hp:1≤pu∧pu≤4) (hd:0≤day∧day≤40000) (h:f∈(Q9 l gap day age).flatten) (hk:f.kind = 1):WR rs ks f.alg f.bits pu day = 0:=by
 have:=apb hq h hk
 rw [WR,if_neg (by simpa using hC),if_neg (by simpa using this),if_neg (by omega)]
theorem aqn {l:List Qa} {gap day age pu:Int} {rs:List Qj} {ks:List QS} (hq:∀ x∈l,JC x = true) (hC:Yl rs ks = 0) (hp:1≤pu∧pu≤4) (hd:0≤day∧day≤40000):aiK l gap day age rs ks pu = ak2 l gap day age rs ks pu:=by
 rw [aiK,ak2]
 refine List.filter_congr fun f hf=>?_
 rw [wkB,ag3]
 by_cases hk:f.kind = 1
 ·rw [alJ hq hC hp hd hf hk];simp
 ·have:(f.kind == 1) = false:=by simpa using hk
  rw [this];rfl
theorem aoj (l:List Qa) (gap day age pu:Int) (rs:List Qj) (ks:List QS):(aiK l gap day age rs ks pu).length≤l.length * l.length:=by
 rw [aiK]
 exact Zt (Zi _ _) (vm l gap day age)
theorem anh {a:Nat} {fs:List Nat} {j:Nat} (hn:fs.Nodup) (h:fs[j]? = some a):(YQ a fs).drop j = fs.drop (j + 1):=by
 have hj:=(zn.1 h).1
 rw [adz hn h,Zm (by rw [zQ];omega),List.drop_of_length_le (by rw [zQ];omega),List.nil_append]
theorem ang {a:Nat} {fs:List Nat} {j:Nat} (hn:fs.Nodup) (h:fs[j]? = some a):(YQ a fs).length = j + (fs.length - (j + 1)):=by
 have hj:=(zn.1 h).1
 rw [adz hn h,zq,zQ,kf];omega
theorem amL {a:Nat} {fs:List Nat} {j:Nat} (hn:fs.Nodup) (h:fs[j]? = some a):(Qt fs).take j++(Qt fs).drop (j + 1) = Qt (YQ a fs):=by
 rw [adz hn h]
 simp [Qt]
def erT (gap day age:Int):List (Nat×V):=[(1,V.int gap),(2,V.int day),(3,V.int age),(9,.ptr 0 0)]
def anM (l:List Qa) (gap day age:Int) (f:Qc) (k:Nat):St:=Ju ((0,.sl 11 (l.map Qa.v)) :: erT gap day age++[(13,.hd 1 0 l.length),(14,.hd 2 0 k),(15,V.int k)]) [(0,.box true f.cells),(1,.buf true 11 (l.map Qa.v)),(2,.buf true 1 (Qt (List.range k)))] 3
def ajz (l:List Qa) (gap day age:Int) (f:Qc) (fs:List Nat) (b:Bool):St:=Ju (erT gap day age++[(13,.hd 1 0 fs.length),(14,.hd 2 0 fs.length),(16,V.bool b)]) [(0,.box true f.cells),(1,.buf true 11 ((Qn l fs).map Qa.v)),(2,.buf true 1 (Qt fs))] 3
def ajy (l:List Qa) (gap day age:Int) (f:Qc) (fs:List Nat) (b:Bool) (j:Nat):St:=Ju (erT gap day age++[(13,.hd 1 0 fs.length),(14,.hd 2 0 fs.length),(16,V.bool b),(17,V.int j)]) [(0,.box true f.cells),(1,.buf true 11 ((Qn l fs).map Qa.v)),(2,.buf true 1 (Qt fs))] 3
def VL:=qd Proofs.Tryz.f19 [zhn 11,zhn 11]
def Kl (Γ:Env) (f:Nat):Prop:=∀ (l:List Qa) (gap day age:Int) (f0:Qc) (hl:l.length < 2 ^ 40) (hz:∀ x∈l,x.Sz) (hq:∀ x∈l,JC x = true),EvC Γ f [.sl 11 (l.map Qa.v),V.int gap,V.int day,V.int age,f0.v] (aeL l gap day age f0)
attribute [local go_sem] Nat.sub_zero Ju in
theorem acz {Γ:Env} {f:Nat} (h:Has Γ.P f 83 VL.1.1.ac VL.1.2) (z0:WV Γ 33) (z1:K6 Γ 37):Kl Γ f:=by
 intro l gap day age f0 hl hz hq
 refine Jy h zsi (by unfold aeL;(repeat' split)<;>simp only [V.closed,Qd,and_self]) fun C hC hm=>?_
 subst hC
 simp only [VL,qd,DC.ac]
 have p0:=(z0 l gap day age hl hz hq).b
 rw [aeL]
 by_cases hK:JF l gap day age = 0
 rotate_left
 ·rw [if_neg hK]
  have e01:(JF l gap day age != 0) = true:=by simpa using hK
  generalize JF l gap day age = er at *
  simp only [Qc.v,Qc.cells]
  (have zx:=e01);exact zg
 rw [if_pos hK]
 rw [hK] at p0
 obtain ⟨h1,h2,h3,h4⟩:=j5.1 hK
 have p1:=(z1 l gap day age f0 hz h1 h2 h3 h4).b
 rw [aiQ] at p1
 have e00:((0:Int) != 0) = false:=by decide
 simp only [Qc.v,Qc.cells] at p1 ⊢
 rcases hH:KB l gap day age f0 with _|_
 ·rw [if_neg (by decide)]
  rw [hH] at p1
  (have zx:=e00);exact zg
 rw [if_pos rfl]
 rw [hH] at p1
 have hgv:(l.map Qa.v).length = l.length:=zb _
 have hll:=(Vx h1).1
 have hcl0:∀ y∈l.map Qa.v,y.cells.length = 11:=by intro y hy;obtain ⟨z,_,rfl⟩:=zE.1 hy;rfl
 have hnt0:(l.map Qa.v).take l.length = l.map Qa.v:=zh (by simp)
 (have zx:=za e00 (za hgv hnt0));refine zgo ?_;repeat' first|exact zt|apply zan|intro hc
 refine Qo (ι:=Nat) (fun k=>k≤l.length) (fun k=>anM l gap day age f0 k) (fun k=>l.length - k) 0 (zH _) (Qe [(1,20000),(2,22000)]) (Qg [(1,20000),(2,22000)] (by simp only [go_sem,zwl,anM,erT,List.cons_append,List.nil_append]<;>exact zcc) (by simp only [go_sem,zwl,anM,erT,Qc.cells,Qq,Qy]<;>exact zcc) (by simp [anM,Qe]) (by simp [anM];omega) (by omega)) fun k hk K' hL=>?_
 rcases kM k l.length with hk'|hkl
 ·have hw:=Qf (k:=k) (by omega)
  have e1:decide ((k:Int) < (l.length:Int)) = true:=zo (by omega)
  have hjn:=wR k
  have hol:(Qt (List.range k)).length = k:=by rw [Jh,kU]
  have htl:List.take k (Qt (List.range k)) = Qt (List.range k):=zh (by omega)
  simp only [anM,erT,Qc.cells,List.cons_append,List.nil_append]
  (have zx:=za e1 (za hgv (za hw (za hjn (za hol htl)))));refine zgo ?_;repeat' first|exact zt|apply zan|intro hc
  all_goals exact hL _ (k + 1) (Qe [(2,7003)]) (by omega) (by omega) (Qg [(2,7003)] (by simp only [go_sem,zwl,anM,erT,List.cons_append,List.nil_append]<;>exact zcc) (by simp only [go_sem,zwl,anM,erT,Qc.cells,Qq,Qy]<;>exact zcc) (by simp [anM,Qe]) (by simp [anM];omega) (by omega))
 obtain rfl:k = l.length:=by omega
 clear hL
 have e1:decide ((l.length:Int) < (l.length:Int)) = false:=by simp
 simp only [anM,erT,Qc.cells,List.cons_append,List.nil_append]
 (have zx:=za e1 hgv);refine zgo ?_;repeat' first|exact zt|apply zan|intro hc
 have hrl:(List.range l.length).length = l.length:=kU
 have hcr:=ab9 l
 generalize hhh:alA l gap day age f0 = hh at *
 generalize hfin:aeM hh (l.length + 1) (List.range l.length) = fin at *
 have hfo:agf l gap day age f0 = fin:=by rw [agf,hhh,hfin]
 rw [hfo]
 refine Qo (ι:=List Nat×Bool×Nat) (fun q=>q.1.Sublist (List.range l.length)∧if q.2.1 = true then q.1.length < q.2.2∧aeM hh q.2.2 q.1 = fin else q.1 = fin) (fun q=>ajz l gap day age f0 q.1 q.2.1) (fun q=>if q.2.1 = true then q.2.2 else 0) (List.range l.length,true,l.length + 1) ⟨ZI _,by dsimp only;rw [if_pos rfl];exact ⟨by omega,hfin⟩⟩ (Qe []) (Qg [] (by simp only [go_sem,zwl,ajz,erT,hrl,hcr,List.cons_append,List.nil_append]<;>exact zcc) (by simp only [go_sem,zwl,ajz,erT,hrl,hcr,Qc.cells,Qq,Qy]<;>exact zcc) (by simp [ajz,Qe]) (by simp [ajz]) (by omega)) fun q hq K' hL=>?_
 obtain ⟨fs,b,n⟩:=q
 obtain ⟨hsb,hif⟩:=hq
 dsimp only at hsb hif
 have hfl:=hsb.length_le
 rw [hrl] at hfl
 have hft:(Qt fs).take fs.length = Qt fs:=zh (by rw [Jh];exact zj _)
 have hpl:(Qt fs).length = fs.length:=Jh fs
 rcases b with _|_
 ·rw [if_neg (by decide)] at hif
  subst hif
  simp only [ajz,erT,Qc.cells,List.cons_append,List.nil_append]
  (have zx:=za hft hpl);refine zgo ?_;repeat' first|exact zt|apply zan|intro hc
  all_goals first|exact zr|(refine Qk _ rfl ?_;simp only [go_sem];rw [hft];done)
 rw [if_pos rfl] at hif
 obtain ⟨hn,hex⟩:=hif
 obtain ⟨n,rfl⟩:∃ m,n = m + 1:=⟨n - 1,by omega⟩
 rw [aeM] at hex
 have hndf:fs.Nodup:=bk.sublist hsb
 simp only [ajz,erT,Qc.cells,List.cons_append,List.nil_append]
 refine zgo ?_;repeat' first|exact zt|apply zan|intro hc
 refine Qo (ι:=List Nat×Bool×Nat) (fun q=>q.2.2≤q.1.length∧q.1.Sublist fs∧xw hh (q.1.drop q.2.2) q.1 q.2.1 = xw hh fs fs false) (fun q=>ajy l gap day age f0 q.1 q.2.1 q.2.2) (fun q=>q.1.length - q.2.2) (fs,false,0) ⟨zH _,ZI _,by rw [kK]⟩ (Qe []) (Qg [] (by simp only [go_sem,zwl,ajy,erT,List.cons_append,List.nil_append]<;>exact zcc) (by simp only [go_sem,zwl,ajy,erT,Qc.cells,Qq,Qy]<;>exact zcc) (by simp [ajy,Qe]) (by simp [ajy]) (by omega)) fun q hq K2 hL2=>?_
 obtain ⟨gs,b2,k⟩:=q
 obtain ⟨hk,hgs,hps⟩:=hq
 dsimp only at hk hgs hps
 have hgl:=hgs.length_le
 have hgb:∀ i∈gs,i < l.length:=fun i h2=>kW.1 (hsb.subset (hgs.subset h2))
 have hcg:=wA hgb
 have hcm:((Qn l gs).map Qa.v).length = gs.length:=by rw [zb,hcg]
 have hgp:(Qt gs).length = gs.length:=Jh gs
 rcases hdr:gs.drop k with _|⟨i,r⟩
 ·have hkl:=Qs hdr
  have e2:decide ((k:Int) < (gs.length:Int)) = false:=zp (by omega)
  rw [hdr,xw] at hps
  have hlt:=ai3 (h:=hh) fs fs hndf (fun i hi=>hi)
  rw [← hps] at hex hlt
  dsimp only at hex hlt
  simp only [ajy,erT,Qc.cells,List.cons_append,List.nil_append]
  rcases b2 with _|_
  ·rw [if_neg (by decide)] at hex
   (have zx:=za e2 (za hcm hgp));refine zgo ?_;repeat' first|exact zt|apply zan|intro hc
   all_goals exact hL _ (gs,false,0) (Qe []) ⟨hgs.trans hsb,by dsimp only;rw [if_neg (by decide)];exact hex⟩ (by simp) (Qg [] (by simp only [go_sem,zwl,ajz,erT,List.cons_append,List.nil_append]<;>exact zcc) (by simp only [go_sem,zwl,ajz,erT,Qc.cells,Qq,Qy]<;>exact zcc) (by simp [ajz,Qe]) (by simp [ajz]) (by omega))
  ·rw [if_pos rfl] at hex
   have hlt2:=hlt rfl
   (have zx:=za e2 (za hcm hgp));refine zgo ?_;repeat' first|exact zt|apply zan|intro hc
   all_goals exact hL _ (gs,true,n) (Qe []) ⟨hgs.trans hsb,by dsimp only;rw [if_pos rfl];exact ⟨by omega,hex⟩⟩ (by simp) (Qg [] (by simp only [go_sem,zwl,ajz,erT,List.cons_append,List.nil_append]<;>exact zcc) (by simp only [go_sem,zwl,ajz,erT,Qc.cells,Qq,Qy]<;>exact zcc) (by simp [ajz,Qe]) (by simp [ajz]) (by omega))
 obtain ⟨hk',hget,hr⟩:=Ql hdr
 have hw:=Qf (k:=k) (by omega)
 have e2:decide ((k:Int) < (gs.length:Int)) = true:=zo (by omega)
 have hngs:gs.Nodup:=hndf.sublist hgs
 have hld:=anh hngs hget
 have hln:=ang hngs hget
 have hls:=af6 i gs
 have hsubl:(Qn l (YQ i gs)).Sublist l:=alT ((hls.trans hgs).trans hsb)
 have hnl:=ahx h1 hsubl
 have p2:=(z1 (Qn l (YQ i gs)) gap day age f0 (ail hz) hnl h2 h3 h4).b
 have hh1:hh (YQ i gs) = KB (Qn l (YQ i gs)) gap day age f0:=by rw [← hhh,alA,amp h1 hsubl h2];rfl
 rw [aiQ] at p2
 rw [hdr,xw,hh1,← hr] at hps
 clear hh1
 have hcut:=alU hgb hngs hget
 have hpc:=amL hngs hget
 have hcm2:(Qn l (YQ i gs)).map Qa.v = ((Qn l gs).map Qa.v).take k++((Qn l gs).map Qa.v).drop (k + 1):=by rw [← hcut,km,kp,kw]
 rw [hcm2] at p2
 simp only [Qc.v,Qc.cells] at p2
 have hMc:∀ y∈(Qn l gs).map Qa.v,y.cells.length = 11:=by intro y hy;obtain ⟨z,_,rfl⟩:=zE.1 hy;rfl
 have hNc:∀ y∈Qt gs,y.cells.length = 1:=by intro y hy;obtain ⟨z,_,rfl⟩:=zE.1 hy;rfl
 simp only [ajy,erT,Qc.cells,List.cons_append,List.nil_append]
 generalize hMe:(Qn l gs).map Qa.v = M at *
 generalize hNe:Qt gs = N at *
 have hM1:∀ y∈M.take k,y.cells.length = 11:=fun y hy=>hMc y (zD hy)
 have hM2:∀ y∈M.drop (k + 1),y.cells.length = 11:=fun y hy=>hMc y (zG hy)
 have hT:(M.take k).length = k:=by rw [zQ];omega
 have hD:(M.drop (k + 1)).length = gs.length - (k + 1):=by rw [kf,hcm]
 have hdt:(M.drop (k + 1)).take (gs.length - (k + 1)) = M.drop (k + 1):=zh (by omega)
 have hTT:(M.take k).take k = M.take k:=zh (by omega)
 have hall:(M.take k++M.drop (k + 1)).take (k + (gs.length - (k + 1))) = M.take k++M.drop (k + 1):=zh (by rw [zq,hT,hD];exact zj _)
 have hN1:∀ y∈N.take k,y.cells.length = 1:=fun y hy=>hNc y (zD hy)
 have hN2:∀ y∈N.drop (k + 1),y.cells.length = 1:=fun y hy=>hNc y (zG hy)
 have gT:(N.take k).length = k:=by rw [zQ];omega
 have gD:(N.drop (k + 1)).length = gs.length - (k + 1):=by rw [kf,hgp]
 have gdt:(N.drop (k + 1)).take (gs.length - (k + 1)) = N.drop (k + 1):=zh (by omega)
 have gTT:(N.take k).take k = N.take k:=zh (by omega)
 rcases hv:KB (Qn l (YQ i gs)) gap day age f0 with _|_
 ·rw [hv,if_neg (by decide)] at hps
  rw [hv] at p2
  (have zx:=za e2 (za hw (za hcm (za hgp (za hT (za hD (za hdt (za hTT hall))))))));refine zgo ?_;repeat' first|exact zt|apply zan|intro hc
  all_goals exact hL2 _ (gs,b2,k + 1) (Qe []) ⟨by simp only;omega,hgs,hps⟩ (by simp only;omega) (Qg [] (by simp only [go_sem,zwl,ajy,erT,List.cons_append,List.nil_append]<;>exact zcc) (by simp only [go_sem,zwl,ajy,erT,Qc.cells,hMe,hNe,Qq,Qy]<;>exact zcc) (by simp [ajy,Qe]) (by simp [ajy]) (by omega))
 ·rw [hv,if_pos rfl] at hps
  rw [hv] at p2
  rw [← hld] at hps
  (have zx:=za e2 (za hw (za hcm (za hgp (za hT (za hD (za hdt (za hTT (za hall (za gT (za gD (za gdt gTT))))))))))));refine zgo ?_;repeat' first|exact zt|apply zan|intro hc
  all_goals exact hL2 _ (YQ i gs,true,k) (Qe [(1,13003),(2,34003)]) ⟨by simp only;omega,hls.trans hgs,hps⟩ (by simp only;omega) (Qg [(1,13003),(2,34003)] (by simp only [go_sem,zwl,ajy,erT,hln,List.cons_append,List.nil_append]<;>exact zcc) (by simp only [go_sem,zwl,ajy,erT,Qc.cells,hcm2,← hpc,hMe,hNe,Qq,Qy]<;>exact zcc) (by simp [ajy,Qe]) (by simp [ajy];omega) (by omega))
end Av
end
