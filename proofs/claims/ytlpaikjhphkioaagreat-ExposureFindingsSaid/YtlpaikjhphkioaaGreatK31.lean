/- K31 -/
import Derived.Test.YtlpaikjhphkioaaGreatK30
import Derived.Test.YtlpaikjhphkioaaGreatK12
import Derived.Test.YtlpaikjhphkioaaGreatK22
import Derived.Test.YtlpaikjhphkioaaGreatK29
set_option linter.unusedVariables false
set_option linter.unusedSimpArgs false
noncomputable section
set_option maxRecDepth 10000
set_option maxHeartbeats 4000000
namespace Av
open Go
attribute [local irreducible] AWp Uv qW xf awS awC abB awQ acd QZ UL aa2 awR Kc awB okR yu ris
theorem adO {x:Int} {r:List Int} (h:Q7 (x :: r) < 0):x≤0∧(x = 0→Q7 r < 0):=by
 rw [Q7] at h
 split at h
 ·exact ⟨by omega,fun e=>absurd e ‹_›⟩
 ·rename_i hx;exact ⟨by omega,fun _=>h⟩
theorem aht (a:List UInt8):yp a a = 0:=by rw [yp,jZ];rfl
theorem af4 {a b:Qa} (h:ltF a b = true):yp a.host b.host≤0∧(a.host = b.host→a.mach = b.mach→a.day≤b.day):=by
 rw [ltF,zA,acs,aqJ] at h
 obtain ⟨h1,h2⟩:=adO h
 refine ⟨h1,fun e1 e2=>?_⟩
 obtain ⟨h3,h4⟩:=adO (h2 (by rw [e1];exact aht _))
 obtain ⟨h5,_⟩:=adO (h4 ((ab0 _ _).2 e2))
 rcases Int.lt_or_le b.day a.day with h|h
 ·have:¬ Xf a.day b.day≤0:=by unfold Xf;split<;>(try split)<;>omega
  exact absurd h5 this
 ·exact h
theorem ai7 {l:List Qa} (h:Y1 l = true) {i j:Nat} {a b:Qa} (hij:i < j) (ha:l[i]? = some a) (hb:l[j]? = some b):ltF a b = true:=by
 rw [Y1,zw,aad] at h
 obtain ⟨hi,rfl⟩:=zn.1 ha
 obtain ⟨hj,rfl⟩:=zn.1 hb
 exact kr.1 h.1.2 i j hi hj hij
theorem ahv {l:List Qa} (h:Y1 l = true) {i j k:Nat} {a b c:Qa} (hij:i≤j) (hjk:j < k) (ha:l[i]? = some a) (hb:l[j]? = some b) (hc:l[k]? = some c) (e:a.host = c.host):b.host = c.host:=by
 rcases kM i j with h1|h1
 ·have p:=(af4 (ai7 h h1 ha hb)).1
  have q:=(af4 (ai7 h hjk hb hc)).1
  rw [e] at p
  rw [amO] at p q
  exact jY _ _ p q
 ·obtain rfl:i = j:=by omega
  rw [ha] at hb;cases hb;exact e
theorem akJ {f g:Qa} {gap:Int}:acT f g≤gap↔f.day - g.day≤gap∧g.day - f.day≤gap:=by
 unfold acT;split<;>omega
theorem ajf {l:List Qa} {gap:Int} {p:List Nat} (hp:PW p) {i k:Nat} (hi:i < 400) (hk:k < 400) (h:∀ x,rep l gap (Qp p x) = rep l gap x) (he:rep l gap i = rep l gap k) (x:Nat):rep l gap (Qp (j7 p i k) x) = rep l gap x:=by
 have h1:=h i
 have h2:=h k
 rw [j6 hp hi hk]
 split
 ·rename_i hx
  rw [← h x,hx]
  rcases Nat.le_total (Qp p i) (Qp p k) with h3|h3
  ·rw [Nat.max_eq_right h3,kQ h3,h1,h2,he]
  ·rw [Nat.max_eq_left h3,Nat.min_eq_right h3,h1,h2,he]
 ·exact h x
theorem ahl {l:List Qa} {gap:Int} {x j:Nat} {f g:Qa} (hx:l[x]? = some f) (h0:jc l gap f = 0) (hk:Uy l gap f x = some j) (hg:l[j]? = some g):rep l gap x = if f.day - g.day≤gap then rep l gap j else x:=by
 have hs:=Vi l gap f x
 rw [hk] at hs
 rw [rep,wW,hx]
 simp only
 rw [if_neg (by simpa using h0),hk]
 simp only [hg]
 rw [zJ,v7 l gap x j hs.1];rfl
theorem ajd {l:List Qa} {gap:Int} {f:Qa} {n x:Nat} (hn:n < x) (hb:KA l gap f n = true) (hq:∀ i,n < i→i < x→KA l gap f i = false):Uy l gap f x = some n:=by
 have hs:=Vi l gap f x
 rcases h:Uy l gap f x with _|j
 ·rw [h] at hs
  rw [hs n hn] at hb;cases hb
 ·rw [h] at hs
  obtain ⟨h1,h2,h3⟩:=hs
  rcases Zq j n with h4|h4|h4
  ·rw [h3 n h4 hn] at hb;cases hb
  ·rw [h4]
  ·rw [hq j h4 h1] at h2;cases h2
theorem aly {l:List Qa} {gap:Int} {f:Qa} {k:Nat} (h:KA l gap f k = true):∃ g,l[k]? = some g∧g.host = f.host∧g.mach = 0∧X4 l g gap < 0:=by
 rcases hg:l[k]? with _|g
 ·rw [KA,hg] at h;cases h
 ·exact ⟨g,rfl,(wj hg).1 h⟩
theorem aqr (l:List Qa) (gap:Int):UI l gap 0 ⟨List.range 400,[],[],-1⟩:=by
 refine ⟨fun x=>?_,by simp,by omega,by omega,by omega,fun n h=>?_,by omega⟩
 ·have:Qp (List.range 400) x = x:=by
   rcases hx:(List.range 400)[x]? with _|j
   ·rw [Qp,adh,hx]
   ·rw [Vw aj1 hx]
    obtain ⟨h1,h2⟩:=zn.1 hx
    rw [Zk] at h2
    rw [if_pos h2.symm]
  rw [this]
 ·simp only at h;omega
theorem aqs {l:List Qa} {gap:Int} {k:Nat} {s:JS} {f:Qa} (hn:Y1 l = true) (hl:l.length≤400) (hf:l[k]? = some f) (hJ:JW k s) (h:UI l gap k s):UI l gap (k + 1) (ahH l gap s k f):=by
 have hkl:=(zn.1 hf).1
 obtain ⟨j1,j2,j3,j4⟩:=hJ
 obtain ⟨u1,u2,u3,u4,u5,u6,u7⟩:=h
 have lt_succ:∀ {x:Nat} {g:Qa},x < k + 1→l[x]? = some g→x < k∨(x = k∧g = f):=fun {x g} hx hg=>by
  rcases kM x k with h|h
  ·exact .inl h
  ·obtain rfl:x = k:=by omega
   rw [hf] at hg;cases hg;exact .inr ⟨rfl,rfl⟩
 rw [ahH]
 by_cases c1:f.mach = 0
 ·rw [if_pos c1]
  rcases abe l f gap with hnr|⟨n,q,hnr,hq,hqm⟩
  ·have hlt:X4 l f gap < 0:=by omega
   rw [if_neg (by omega)]
   have he:jc l gap f = 0:=aib c1 hlt
   rcases hnl:ahA l f gap s.loose with _|_
   ·rw [if_neg (by simp)]
    refine ⟨u1,u2,fun x g hx hg hm=>?_,fun x n g hx hg hm hnn=>?_,fun x g hx hg hm hnn=>?_,fun n e=>?_,fun x j g g2 hx hg hm hnn hlk hg2 hd=>?_⟩
    ·rcases lt_succ hx hg with h|⟨rfl,rfl⟩
     ·exact u3 x g h hg hm
     ·exact absurd c1 hm
    ·rcases lt_succ hx hg with h|⟨rfl,rfl⟩
     ·exact u4 x n g h hg hm hnn
     ·omega
    ·simp only;omega
    ·simp only at e
     obtain rfl:k = n:=by omega
     exact ⟨f,hf,c1,hlt⟩
    ·rcases lt_succ hx hg with h|⟨rfl,rfl⟩
     ·exact u7 x j g g2 h hg hm hnn hlk hg2 hd
     ·exfalso
      have hs:=Vi l gap g x
      rw [hlk] at hs
      obtain ⟨s1,s2,s3⟩:=hs
      obtain ⟨b1,b2,b3⟩:=(wj hg2).1 s2
      have hlo:=u5 j g2 s1 hg2 b2 b3
      obtain ⟨n,hnn2⟩:∃ n:Nat,s.loose = n:=⟨s.loose.toNat,by omega⟩
      obtain ⟨gn,e1,e2,e3⟩:=u6 n hnn2
      have hjn:j≤n:=by omega
      have hnk:n < x:=by rcases j4 with h|h<;>omega
      have hh:=ahv hn hjn hnk hg2 e1 hg b1
      have hbn:KA l gap g n = true:=(wj e1).2 ⟨hh,e2,e3⟩
      have hjn2:j = n:=by
       rcases kM j n with h|h
       ·rw [s3 n h hnk] at hbn;cases hbn
       ·omega
      subst hjn2
      rw [hg2] at e1;cases e1
      have hday:=(af4 (ai7 hn hnk hg2 hg)).2 hh (by rw [e2,hm])
      rw [ahA,hnn2,Int.toNat_natCast,hg2] at hnl
      have hdi:acT g g2≤gap:=akJ.2 ⟨hd,by omega⟩
      simp only [hh,hdi,decide_true,beq_self_eq_true,bm,zN,zP] at hnl
      omega
   ·rw [if_pos rfl]
    rw [ahA,zw,zA] at hnl
    obtain ⟨hl0,hnl⟩:=hnl
    obtain ⟨n,hnn2⟩:∃ n:Nat,s.loose = n:=⟨s.loose.toNat,by omega⟩
    rw [hnn2,Int.toNat_natCast] at hnl ⊢
    have hnk:n < k:=by rcases j4 with h|h<;>omega
    obtain ⟨gn,e1,e2,e3⟩:=u6 n hnn2
    rw [e1] at hnl
    simp only [zw,ky,zA] at hnl
    obtain ⟨hh,hdi⟩:=hnl
    obtain ⟨hd1,hd2⟩:=akJ.1 hdi
    have hbn:KA l gap f n = true:=(wj e1).2 ⟨hh,e2,e3⟩
    have hlk:Uy l gap f k = some n:=ajd hnk hbn fun i hi1 hi2=>by
     rcases hb:KA l gap f i with _|_
     ·rfl
     ·obtain ⟨gi,a1,a2,a3,a4⟩:=aly hb
      have:=u5 i gi hi2 a1 a3 a4
      omega
    have hrep:rep l gap k = rep l gap n:=by rw [ahl hf he hlk e1,if_pos hd1]
    have hk4:k < 400:=by omega
    have hn4:n < 400:=by omega
    refine ⟨ajf j1 hk4 hn4 u1 hrep,u2,fun x g hx hg hm=>?_,fun x n g hx hg hm hnn=>?_,fun x g hx hg hm hnn=>?_,fun n e=>?_,fun x j g g2 hx hg hm hnn hlk2 hg2 hd=>?_⟩
    ·rcases lt_succ hx hg with h|⟨rfl,rfl⟩
     ·obtain ⟨a,v,q1,q2,q3⟩:=u3 x g h hg hm
      exact ⟨a,v,q1,q2,UD j1 hk4 hn4 q3⟩
     ·exact absurd c1 hm
    ·rcases lt_succ hx hg with h|⟨rfl,rfl⟩
     ·exact UD j1 hk4 hn4 (u4 x n g h hg hm hnn)
     ·omega
    ·simp only;omega
    ·simp only at e
     obtain rfl:k = n:=by omega
     exact ⟨f,hf,c1,hlt⟩
    ·rcases lt_succ hx hg with h|⟨rfl,rfl⟩
     ·exact UD j1 hk4 hn4 (u7 x j g g2 h hg hm hnn hlk2 hg2 hd)
     ·rw [hlk] at hlk2;cases hlk2
      exact abj j1 hk4 hn4
  ·rw [if_pos (by omega),hnr,Int.toNat_natCast]
   have hnl:=(zn.1 hq).1
   have hk4:k < 400:=by omega
   have hn4:n < 400:=by omega
   have he:=ad9 c1 hnr hq
   have hrep:rep l gap k = rep l gap n:=aj0 hf hq (by rw [he];exact hqm) (by rw [he,wz hqm])
   refine ⟨ajf j1 hk4 hn4 u1 hrep,u2,fun x g hx hg hm=>?_,fun x n' g hx hg hm hnn=>?_,fun x g hx hg hm hnn=>?_,u6,fun x j g g2 hx hg hm hnn hlk2 hg2 hd=>?_⟩
   ·rcases lt_succ hx hg with h|⟨rfl,rfl⟩
    ·obtain ⟨a,v,q1,q2,q3⟩:=u3 x g h hg hm
     exact ⟨a,v,q1,q2,UD j1 hk4 hn4 q3⟩
    ·exact absurd c1 hm
   ·rcases lt_succ hx hg with h|⟨rfl,rfl⟩
    ·exact UD j1 hk4 hn4 (u4 x n' g h hg hm hnn)
    ·obtain rfl:n = n':=by omega
     exact abj j1 hk4 hn4
   ·rcases lt_succ hx hg with h|⟨rfl,rfl⟩
    ·exact u5 x g h hg hm hnn
    ·omega
   ·rcases lt_succ hx hg with h|⟨rfl,rfl⟩
    ·exact UD j1 hk4 hn4 (u7 x j g g2 h hg hm hnn hlk2 hg2 hd)
    ·omega
 ·rw [if_neg c1]
  rcases hix:aeG f.mach s.ks 0 with _|a
  ·simp only
   refine ⟨u1,fun a v hv=>?_,fun x g hx hg hm=>?_,fun x n' g hx hg hm hnn=>?_,fun x g hx hg hm hnn=>?_,u6,fun x j g g2 hx hg hm hnn hlk2 hg2 hd=>?_⟩
   ·rcases kM a s.vs.length with h|h
    ·simp only [zW h] at hv
     obtain ⟨g,m,q1,q2,q3⟩:=u2 a v hv
     exact ⟨g,m,by simp only;rw [zW (by omega)];exact q1,q2,q3⟩
    ·simp only [zY h] at hv
     obtain ⟨h1,h2⟩:=zn.1 hv
     simp only [List.length_singleton] at h1
     have ha:a = s.vs.length:=by omega
     subst ha
     simp at h2
     subst h2
     exact ⟨f,f.mach,by simp only;rw [← j2,zY (zj _),kH];rfl,hf,rfl⟩
   ·rcases lt_succ hx hg with h|⟨rfl,rfl⟩
    ·obtain ⟨a,v,q1,q2,q3⟩:=u3 x g h hg hm
     exact ⟨a,v,ako _ q1,by simp only;rw [zW (zn.1 q2).1];exact q2,q3⟩
    ·refine ⟨0 + s.ks.length,x,akm hix,?_,rfl⟩
     simp only
     rw [kC,j2,zY (zj _),kH];rfl
   ·rcases lt_succ hx hg with h|⟨rfl,rfl⟩
    ·exact u4 x n' g h hg hm hnn
    ·exact absurd hm c1
   ·rcases lt_succ hx hg with h|⟨rfl,rfl⟩
    ·exact u5 x g h hg hm hnn
    ·exact absurd hm c1
   ·rcases lt_succ hx hg with h|⟨rfl,rfl⟩
    ·exact u7 x j g g2 h hg hm hnn hlk2 hg2 hd
    ·exact absurd hm c1
  ·simp only
   have hal:=(agc hix).2
   rw [kC,j2] at hal
   have hav:s.vs[a]? = some (s.vs[a]):=zd hal
   generalize s.vs[a] = v at hav
   have hvd:s.vs.getD a 0 = v:=by rw [zJ,hav];rfl
   rw [hvd]
   obtain ⟨gv,m,q1,q2,q3⟩:=u2 a v hav
   have hkm:=akn hix
   rw [Nat.sub_zero,q1] at hkm
   cases hkm
   have hvk:=j3 v (zu hav)
   have hk4:k < 400:=by omega
   have hv4:v < 400:=by omega
   have hrep:rep l gap k = rep l gap v:=aj0 hf q2 (by rw [wz c1];exact c1) (by rw [wz c1,wz (by rw [q3];exact c1),q3])
   have keep:∀ {x y:Nat},Qp s.p x = Qp s.p y→Qp (j7 s.p k v) x = Qp (j7 s.p k v) y:=fun h=>UD j1 hk4 hv4 h
   have same:Qp (j7 s.p k v) k = Qp (j7 s.p k v) v:=abj j1 hk4 hv4
   refine ⟨ajf j1 hk4 hv4 u1 hrep,fun b w hw=>?_,fun x g hx hg hm=>?_,fun x n' g hx hg hm hnn=>?_,fun x g hx hg hm hnn=>?_,u6,fun x j g g2 hx hg hm hnn hlk2 hg2 hd=>?_⟩
   ·simp only [ka] at hw
    split at hw
    ·rename_i hab
     cases hw
     subst hab
     exact ⟨f,f.mach,q1,hf,rfl⟩
    ·exact u2 b w hw
   ·rcases lt_succ hx hg with h|⟨rfl,rfl⟩
    ·obtain ⟨b,w,r1,r2,r3⟩:=u3 x g h hg hm
     by_cases hab:a = b
     ·subst hab
      rw [hav] at r2;cases r2
      exact ⟨a,k,r1,by simp only;rw [ka,if_pos rfl,if_pos hal],(keep r3).trans same.symm⟩
     ·exact ⟨b,w,r1,by simp only;rw [ka,if_neg hab];exact r2,keep r3⟩
    ·exact ⟨a,x,hix,by simp only;rw [ka,if_pos rfl,if_pos hal],rfl⟩
   ·rcases lt_succ hx hg with h|⟨rfl,rfl⟩
    ·exact keep (u4 x n' g h hg hm hnn)
    ·exact absurd hm c1
   ·rcases lt_succ hx hg with h|⟨rfl,rfl⟩
    ·exact u5 x g h hg hm hnn
    ·exact absurd hm c1
   ·rcases lt_succ hx hg with h|⟨rfl,rfl⟩
    ·exact keep (u7 x j g g2 h hg hm hnn hlk2 hg2 hd)
    ·exact absurd hm c1
theorem apQ {l:List Qa} {gap:Int} (hn:Y1 l = true) (hl:l.length≤400):∀ k,k≤l.length→UI l gap k (Uz l gap k)
 | 0,_=>aqr l gap
 | k + 1,h=>by
   have hg:l[k]? = some l[k]:=zd (by omega)
   rw [adE hg]
   exact aqs hn hl hg (aaf l gap k) (apQ hn hl k (by omega))
theorem aot {l:List Qa} {gap:Int} (hn:Y1 l = true):∀ x,x < l.length→Qp (aah l gap) x = rep l gap x:=by
 have hl:=(Vx hn).1
 obtain ⟨u1,u2,u3,u4,u5,u6,u7⟩:=apQ (gap:=gap) hn hl l.length (zj _)
 have hp:=aag l gap
 rw [show (Uz l gap l.length).p = aah l gap from rfl] at u1 u3 u4 u7
 have lab:∀ (y:Nat) (h:Qa),y < l.length→l[y]? = some h→jc l gap h≠0→∃ a v:Nat,aeG (jc l gap h) (Uz l gap l.length).ks 0 = some a∧(Uz l gap l.length).vs[a]? = some v∧Qp (aah l gap) y = Qp (aah l gap) v:=fun y h hy hh hm=>by
  by_cases c:h.mach = 0
  ·rcases abe l h gap with e|⟨n,q,e1,e2,e3⟩
   ·exact absurd (aib c (by omega)) hm
   ·have he:=ad9 c e1 e2
    obtain ⟨a,v,q1,q2,q3⟩:=u3 n q (zn.1 e2).1 e2 e3
    exact ⟨a,v,by rw [he];exact q1,q2,(u4 y n h hy hh c e1).trans q3⟩
  ·have he:=wz (l:=l) (gap:=gap) c
   obtain ⟨a,v,q1,q2,q3⟩:=u3 y h hy hh c
   exact ⟨a,v,by rw [he];exact q1,q2,q3⟩
 have conn:∀ x,x < l.length→Qp (aah l gap) x = Qp (aah l gap) (rep l gap x):=by
  intro x
  induction x using Nat.strongRecOn with
  | _ x ih =>
    intro hx
    have hf:l[x]? = some l[x]:=zd hx
    generalize l[x] = f at hf
    by_cases hm:jc l gap f = 0
    ·have hc:f.mach = 0:=by
      by_cases c:f.mach = 0
      ·exact c
      ·rw [wz c] at hm;exact hm
     have hnr:X4 l f gap < 0:=by
      rcases abe l f gap with e|⟨n,q,e1,e2,e3⟩
      ·omega
      ·rw [ad9 hc e1 e2] at hm;exact absurd hm e3
     rcases hk:Uy l gap f x with _|j
     ·have:rep l gap x = x:=by
       rw [rep,wW,hf];simp only;rw [if_neg (by simpa using hm),hk]
      rw [this]
     ·have hs:=Vi l gap f x
      rw [hk] at hs
      have hj:l[j]? = some (l[j]'(by omega)):=zd (by omega)
      generalize l[j]'(by omega) = g at hj
      rw [ahl hf hm hk hj]
      split
      ·rename_i hd
       exact (u7 x j f g hx hf hc hnr hk hj hd).trans (ih j hs.1 (by omega))
      ·rfl
    ·obtain ⟨h1,_⟩:=aiW hf hm
     have hle:=apV l gap x
     have hg:l[rep l gap x]? = some (l[rep l gap x]'(by omega)):=zd (by omega)
     generalize l[rep l gap x]'(by omega) = g at hg
     rw [atM,hg] at h1
     simp only at h1
     obtain ⟨a,v,q1,q2,q3⟩:=lab x f hx hf hm
     obtain ⟨b,w,r1,r2,r3⟩:=lab (rep l gap x) g (by omega) hg (by rw [h1];exact hm)
     rw [h1,q1] at r1
     cases r1
     rw [q2] at r2;cases r2
     exact q3.trans r3.symm
 intro x hx
 have a1:=conn x hx
 have a2:=qX hp (rep l gap x)
 have a3:=apV l gap (Qp (aah l gap) x)
 rw [u1 x] at a3
 omega
theorem aos {l:List Qa} {gap:Int} (hn:Y1 l = true):YC l gap l.length = (List.range l.length).map fun i=>((Qp (aah l gap) i:Nat):Int):=by
 rw [afj l gap _ (zj _)]
 apply ZG
 intro i
 rw [zf,zf]
 rcases kM i l.length with h|h
 ·rw [v7 l gap _ i h,List.getElem?_range h]
  simp only [Option.map_some,aot hn i h]
 ·rw [zX (by rw [wd];exact h),zX (by simpa using h)];rfl
def qg {α:Type} (lt:α→α→Bool):List α→α→Nat
 | [],_=>0
 | y :: r,x=>if lt y x = true then qg lt r x + 1 else 0
def vU {α:Type} [BEq α] (lt:α→α→Bool) (l:List α) (x:α):List α:=if J0 l (qg lt l x) x = true then l else l.take (qg lt l x)++x :: l.drop (qg lt l x)
theorem ai1 {α:Type} {lt:α→α→Bool} {x:α}:∀ l:List α,qg lt l x≤l.length
 | []=>zj _
 | y :: r=>by
   have:=ai1 (lt:=lt) (x:=x) r
   rw [qg];split<;>simp only [List.length_cons]<;>omega
theorem ah7 (xs:List V) (hx:Qd xs) (n:Nat):ltO (n + 1) fun k=>[Ob.buf true 1 xs][k]?:=fun a x h=>by
 match a,h with
 | 0,h=>cases h;exact ⟨Nat.succ_pos _,trivial⟩
 | a + 1,h=>simp at h
theorem amq:∀ l:List (List UInt8),Qd (l.map V.str)
 | []=>trivial
 | x :: r=>⟨trivial,amq r⟩
theorem anp:∀ l:List Int,Qd (l.map V.int)
 | []=>trivial
 | x :: r=>⟨trivial,anp r⟩
theorem EvW.le2 {Γ:Env} {f:FuncId} {x y x' y':V} {sz:Nat} {xs:List V} (h:EvW Γ f [x,y] sz xs) (h1:LeV x' x) (h2:LeV y' y):EvW Γ f [x',y'] sz xs :=
 ⟨fun C cargs a b c d e g hrep=>h.ev C cargs a b c d e g fun i hi hi'=>match i,hi with
  | 0,_=>h1 _ _ _ _ (hrep 0 (by simp) hi')
  | 1,_=>h2 _ _ _ _ (hrep 1 (by simp) hi'),h.ns⟩
def XZ:=qd Proofs.Tryz.f47 [zhn 13]
def Kp (Γ:Env) (f:Nat):Prop:=((∀ (xs:List (List UInt8)) (x:List UInt8),xs.length < 2 ^ 30→J0 xs (qg Op.bytesLess xs x) x = true→EvX Γ f [V.str x] 1 (xs.map V.str))∧(∀ (xs:List (List UInt8)) (x:List UInt8),xs.length < 2 ^ 30→J0 xs (qg Op.bytesLess xs x) x = false→EvW Γ f [.sl 1 (xs.map V.str),V.str x] 1 ((vU Op.bytesLess xs x).map V.str))∧(∀ x:List UInt8,EvW Γ f [aa1,V.str x] 1 [V.str x]))
theorem acE {Γ:Env} {f:Nat} (h:Has Γ.P f 45 XZ.1.1.ac XZ.1.2) :Kp Γ f:=by
 have hW:∀ (l:List (List UInt8)) (x:List UInt8),l.length < 2 ^ 30→J0 l (qg Op.bytesLess l x) x = false→EvW Γ f [.sl 1 (l.map V.str),V.str x] 1 ((vU Op.bytesLess l x).map V.str):=fun l x hl hdp=>by
   refine XX h (by simp) (by intro z hx;obtain ⟨y,_,rfl⟩:=zE.1 hx;simp only [V.noSl]) fun C hC hm=>?_
   subst hC
   simp only [XZ,qd,DC.ac]
   have hal:(l.map V.str).length = l.length:=zb _
   rw [vU,if_neg (by rw [hdp];decide)]
   (have zx:=hal);refine zgo ?_;repeat' first|exact zt|apply zan|intro hc
   refine Qx (ι:=Nat) (fun k=>k≤l.length∧k + qg Op.bytesLess (l.drop k) x = qg Op.bytesLess l x) (fun k=>[(5,V.int k)]) (fun k=>l.length - k) 0 (by omega) ⟨zH _,by simp⟩ zol zlt zet fun k hk K' hL=>?_
   obtain ⟨hk,hinv⟩:=hk
   simp only [ovT,JQ,Nat.reduceEqDiff,reduceIte]
   rcases hdr:l.drop k with _|⟨y,r⟩
   ·have hkl:=Qs hdr
    have e1:decide ((k:Int) < (l.length:Int)) = false:=by simp;omega
    rw [hdr,qg,Nat.add_zero] at hinv
    rw [← hinv]
    repeat' (first|(refine zsk ?_;intro K' hK)|(refine zrg ?_;intro K' hK)|refine zsp ?_|(refine zsc ?_ ?_<;>intro hc<;>first|exact znh|try simp only [znz] at hc)|simp (maxSteps:=1000000) only [go_sem,e1,hal,Int.toNat_natCast]|(refine hK _ ?_;clear hK K')|apply zan|exact zsq|fail)
    all_goals first|(intro z hz;obtain ⟨w,_,rfl⟩:=zE.1 (zD hz);rfl)|(intro z hz;obtain ⟨w,_,rfl⟩:=zE.1 (zG hz);rfl)|(intro z hz;obtain ⟨w,_,rfl⟩:=zE.1 (zG (zD hz));rfl)|(intro z hz;obtain ⟨w,_,rfl⟩:=zE.1 (zD (zG hz));rfl)|(simp only [zq,zQ,kf,zb,List.length_cons,List.length_nil];omega)|(refine yc (xs:=(l.take k++x :: l.drop k).map V.str) _ _ rfl ?_ ?_<;>first|(simp [aal,kp,kw];done)|(simp;omega)|(simp [upd,kp,kw,zh,aal];done)|trace_state)
   ·obtain ⟨hk',hget,hr⟩:=Ql hdr
    have hw:=Qf (k:=k) (by omega)
    have e1:decide ((k:Int) < (l.length:Int)) = true:=by simp;omega
    have vy:(l.map V.str)[k]? = some (V.str y):=by rw [zf,hget];rfl
    rw [hdr,qg] at hinv
    rcases h1:Op.bytesLess y x with _|_
    ·rw [if_neg (by rw [h1];decide),Nat.add_zero] at hinv
     rw [← hinv,J0,hget] at hdp
     simp only at hdp
     rw [← hinv]
     skip
     repeat' (first|(refine zsk ?_;intro K' hK)|(refine zrg ?_;intro K' hK)|refine zsp ?_|(refine zsc ?_ ?_<;>intro hc<;>first|exact znh|try simp only [znz] at hc)|simp (maxSteps:=1000000) only [go_sem,e1,hal,hw,vy,h1,hdp,Int.toNat_natCast]|(refine hK _ ?_;clear hK K')|apply zan|exact zsq|fail)
     all_goals first|(intro z hz;obtain ⟨w,_,rfl⟩:=zE.1 (zD hz);rfl)|(intro z hz;obtain ⟨w,_,rfl⟩:=zE.1 (zG hz);rfl)|(intro z hz;obtain ⟨w,_,rfl⟩:=zE.1 (zG (zD hz));rfl)|(intro z hz;obtain ⟨w,_,rfl⟩:=zE.1 (zD (zG hz));rfl)|(simp only [zq,zQ,kf,zb,List.length_cons,List.length_nil];omega)|(refine yc (xs:=(l.take k++x :: l.drop k).map V.str) _ _ rfl ?_ ?_<;>first|(simp [aal,kp,kw];done)|(simp;omega)|(simp [upd,kp,kw,zh,aal];done)|trace_state)
    ·rw [if_pos h1,← hr] at hinv
     skip
     (have zx:=za e1 (za hal (za hw (za vy h1))));refine zgo ?_;repeat' first|exact zt|apply zan|intro hc
     all_goals exact hL _ (k + 1) zet ⟨by omega,by omega⟩ (by omega) zoe
 refine ⟨fun l x hl hdp=>?_,hW,fun x=>(hW [] x (by simp) rfl).le2 (LeV.nil 1) (LeV.refl _)⟩
 ·refine qr h (by simp) fun C hC hm=>?_
  subst hC
  simp only [XZ,qd,DC.ac]
  have hal:(l.map V.str).length = l.length:=zb _
  have ht:List.take (l.map V.str).length (l.map V.str) = l.map V.str:=zR
  (have zx:=hal);refine zgo ?_;repeat' first|exact zt|apply zan|intro hc
  refine Qx (ι:=Nat) (fun k=>k≤l.length∧k + qg Op.bytesLess (l.drop k) x = qg Op.bytesLess l x) (fun k=>[(5,V.int k)]) (fun k=>l.length - k) 0 (by omega) ⟨zH _,by simp⟩ (by refine adx (by decide) ?_ (ah7 _ (amq _) 2000)<;>simp [Ob.lt,ltL,V.lt,V.str,V.int]) zlt zet fun k hk K' hL=>?_
  obtain ⟨hk,hinv⟩:=hk
  simp only [ovT,JQ,Nat.reduceEqDiff,reduceIte]
  rcases hdr:l.drop k with _|⟨y,r⟩
  ·exfalso
   have hkl:=Qs hdr
   rw [hdr,qg,Nat.add_zero] at hinv
   rw [← hinv,J0,zX hkl] at hdp;cases hdp
  ·obtain ⟨hk',hget,hr⟩:=Ql hdr
   have hw:=Qf (k:=k) (by omega)
   have e1:decide ((k:Int) < (l.length:Int)) = true:=by simp;omega
   have vy:(l.map V.str)[k]? = some (V.str y):=by rw [zf,hget];rfl
   rw [hdr,qg] at hinv
   rcases h1:Op.bytesLess y x with _|_
   ·rw [if_neg (by rw [h1];decide),Nat.add_zero] at hinv
    rw [← hinv,J0,hget] at hdp
    simp only at hdp
    skip
    (have zx:=za e1 (za hal (za hw (za vy (za h1 (za hdp ht))))));refine zgo ?_;repeat' first|exact zt|apply zan|intro hc
    all_goals first|(rw [← hal];refine ah9 _ rfl rfl rfl ?_;first|rfl|(simp;done))
   ·rw [if_pos h1,← hr] at hinv
    skip
    (have zx:=za e1 (za hal (za hw (za vy h1))));refine zgo ?_;repeat' first|exact zt|apply zan|intro hc
    all_goals exact hL _ (k + 1) zet ⟨by omega,by omega⟩ (by omega) zoe
def Xa:=qd Proofs.Tryz.f48 [zhn 13]
def Uc (Γ:Env) (f:Nat):Prop:=((∀ (xs:List (Int)) (x:Int),xs.length < 2 ^ 30→J0 xs (qg ltJ xs x) x = true→EvX Γ f [V.int x] 1 (xs.map V.int))∧(∀ (xs:List (Int)) (x:Int),xs.length < 2 ^ 30→J0 xs (qg ltJ xs x) x = false→EvW Γ f [.sl 1 (xs.map V.int),V.int x] 1 ((vU ltJ xs x).map V.int))∧(∀ x:Int,EvW Γ f [aa1,V.int x] 1 [V.int x]))
theorem aaq {Γ:Env} {f:Nat} (h:Has Γ.P f 45 Xa.1.1.ac Xa.1.2) :Uc Γ f:=by
 have hW:∀ (l:List (Int)) (x:Int),l.length < 2 ^ 30→J0 l (qg ltJ l x) x = false→EvW Γ f [.sl 1 (l.map V.int),V.int x] 1 ((vU ltJ l x).map V.int):=fun l x hl hdp=>by
   refine XX h (by simp) (by intro z hx;obtain ⟨y,_,rfl⟩:=zE.1 hx;simp only [V.noSl]) fun C hC hm=>?_
   subst hC
   simp only [Xa,qd,DC.ac]
   have hal:(l.map V.int).length = l.length:=zb _
   rw [vU,if_neg (by rw [hdp];decide)]
   repeat' (first|(refine zsk ?_;intro K' hK)|(refine zrg ?_;intro K' hK)|refine zsp ?_|(refine zsc ?_ ?_<;>intro hc<;>first|exact znh|try simp only [znz] at hc)|simp (maxSteps:=1000000) only [go_sem,hal]|(refine hK _ ?_;clear hK K')|apply zan|exact zsq|fail)
   refine Qx (ι:=Nat) (fun k=>k≤l.length∧k + qg ltJ (l.drop k) x = qg ltJ l x) (fun k=>[(5,V.int k)]) (fun k=>l.length - k) 0 (by omega) ⟨zH _,by simp⟩ zol zlt zet fun k hk K' hL=>?_
   obtain ⟨hk,hinv⟩:=hk
   simp only [ovT,JQ,Nat.reduceEqDiff,reduceIte]
   rcases hdr:l.drop k with _|⟨y,r⟩
   ·have hkl:=Qs hdr
    have e1:decide ((k:Int) < (l.length:Int)) = false:=by simp;omega
    rw [hdr,qg,Nat.add_zero] at hinv
    rw [← hinv]
    repeat' (first|(refine zsk ?_;intro K' hK)|(refine zrg ?_;intro K' hK)|refine zsp ?_|(refine zsc ?_ ?_<;>intro hc<;>first|exact znh|try simp only [znz] at hc)|simp (maxSteps:=1000000) only [go_sem,e1,hal,Int.toNat_natCast]|(refine hK _ ?_;clear hK K')|apply zan|exact zsq|fail)
    all_goals first|(intro z hz;obtain ⟨w,_,rfl⟩:=zE.1 (zD hz);rfl)|(intro z hz;obtain ⟨w,_,rfl⟩:=zE.1 (zG hz);rfl)|(intro z hz;obtain ⟨w,_,rfl⟩:=zE.1 (zG (zD hz));rfl)|(intro z hz;obtain ⟨w,_,rfl⟩:=zE.1 (zD (zG hz));rfl)|(simp only [zq,zQ,kf,zb,List.length_cons,List.length_nil];omega)|(refine yc (xs:=(l.take k++x :: l.drop k).map V.int) _ _ rfl ?_ ?_<;>first|(simp [aal,kp,kw];done)|(simp;omega)|(simp [upd,kp,kw,zh,aal];done)|trace_state)
   ·obtain ⟨hk',hget,hr⟩:=Ql hdr
    have hw:=Qf (k:=k) (by omega)
    have e1:decide ((k:Int) < (l.length:Int)) = true:=by simp;omega
    have vy:(l.map V.int)[k]? = some (V.int y):=by rw [zf,hget];rfl
    rw [hdr,qg] at hinv
    rcases h1:ltJ y x with _|_
    ·rw [if_neg (by rw [h1];decide),Nat.add_zero] at hinv
     rw [← hinv,J0,hget] at hdp
     simp only at hdp
     rw [← hinv]
     rw [ltJ] at h1
     repeat' (first|(refine zsk ?_;intro K' hK)|(refine zrg ?_;intro K' hK)|refine zsp ?_|(refine zsc ?_ ?_<;>intro hc<;>first|exact znh|try simp only [znz] at hc)|simp (maxSteps:=1000000) only [go_sem,e1,hal,hw,vy,h1,hdp,Int.toNat_natCast]|(refine hK _ ?_;clear hK K')|apply zan|exact zsq|fail)
     all_goals first|(intro z hz;obtain ⟨w,_,rfl⟩:=zE.1 (zD hz);rfl)|(intro z hz;obtain ⟨w,_,rfl⟩:=zE.1 (zG hz);rfl)|(intro z hz;obtain ⟨w,_,rfl⟩:=zE.1 (zG (zD hz));rfl)|(intro z hz;obtain ⟨w,_,rfl⟩:=zE.1 (zD (zG hz));rfl)|(simp only [zq,zQ,kf,zb,List.length_cons,List.length_nil];omega)|(refine yc (xs:=(l.take k++x :: l.drop k).map V.int) _ _ rfl ?_ ?_<;>first|(simp [aal,kp,kw];done)|(simp;omega)|(simp [upd,kp,kw,zh,aal];done)|trace_state)
    ·rw [if_pos h1,← hr] at hinv
     rw [ltJ] at h1
     repeat' (first|(refine zsk ?_;intro K' hK)|(refine zrg ?_;intro K' hK)|refine zsp ?_|(refine zsc ?_ ?_<;>intro hc<;>first|exact znh|try simp only [znz] at hc)|simp (maxSteps:=1000000) only [go_sem,e1,hal,hw,vy,h1,Int.toNat_natCast]|(refine hK _ ?_;clear hK K')|apply zan|exact zsq|fail)
     all_goals exact hL _ (k + 1) zet ⟨by omega,by omega⟩ (by omega) zoe
 refine ⟨fun l x hl hdp=>?_,hW,fun x=>(hW [] x (by simp) rfl).le2 (LeV.nil 1) (LeV.refl _)⟩
 ·refine qr h (by simp) fun C hC hm=>?_
  subst hC
  simp only [Xa,qd,DC.ac]
  have hal:(l.map V.int).length = l.length:=zb _
  have ht:List.take (l.map V.int).length (l.map V.int) = l.map V.int:=zR
  repeat' (first|(refine zsk ?_;intro K' hK)|(refine zrg ?_;intro K' hK)|refine zsp ?_|(refine zsc ?_ ?_<;>intro hc<;>first|exact znh|try simp only [znz] at hc)|simp (maxSteps:=1000000) only [go_sem,hal]|(refine hK _ ?_;clear hK K')|apply zan|exact zsq|fail)
  refine Qx (ι:=Nat) (fun k=>k≤l.length∧k + qg ltJ (l.drop k) x = qg ltJ l x) (fun k=>[(5,V.int k)]) (fun k=>l.length - k) 0 (by omega) ⟨zH _,by simp⟩ (by refine adx (by decide) ?_ (ah7 _ (anp _) 2000)<;>simp [Ob.lt,ltL,V.lt,V.str,V.int]) zlt zet fun k hk K' hL=>?_
  obtain ⟨hk,hinv⟩:=hk
  simp only [ovT,JQ,Nat.reduceEqDiff,reduceIte]
  rcases hdr:l.drop k with _|⟨y,r⟩
  ·exfalso
   have hkl:=Qs hdr
   rw [hdr,qg,Nat.add_zero] at hinv
   rw [← hinv,J0,zX hkl] at hdp;cases hdp
  ·obtain ⟨hk',hget,hr⟩:=Ql hdr
   have hw:=Qf (k:=k) (by omega)
   have e1:decide ((k:Int) < (l.length:Int)) = true:=by simp;omega
   have vy:(l.map V.int)[k]? = some (V.int y):=by rw [zf,hget];rfl
   rw [hdr,qg] at hinv
   rcases h1:ltJ y x with _|_
   ·rw [if_neg (by rw [h1];decide),Nat.add_zero] at hinv
    rw [← hinv,J0,hget] at hdp
    simp only at hdp
    rw [ltJ] at h1
    repeat' (first|(refine zsk ?_;intro K' hK)|(refine zrg ?_;intro K' hK)|refine zsp ?_|(refine zsc ?_ ?_<;>intro hc<;>first|exact znh|try simp only [znz] at hc)|simp (maxSteps:=1000000) only [go_sem,e1,hal,hw,vy,h1,hdp,ht,Int.toNat_natCast]|(refine hK _ ?_;clear hK K')|apply zan|exact zsq|fail)
    all_goals first|(rw [← hal];refine ah9 _ rfl rfl rfl ?_;first|rfl|(simp;done))
   ·rw [if_pos h1,← hr] at hinv
    rw [ltJ] at h1
    repeat' (first|(refine zsk ?_;intro K' hK)|(refine zrg ?_;intro K' hK)|refine zsp ?_|(refine zsc ?_ ?_<;>intro hc<;>first|exact znh|try simp only [znz] at hc)|simp (maxSteps:=1000000) only [go_sem,e1,hal,hw,vy,h1,Int.toNat_natCast]|(refine hK _ ?_;clear hK K')|apply zan|exact zsq|fail)
    all_goals exact hL _ (k + 1) zet ⟨by omega,by omega⟩ (by omega) zoe
def vJ (i:Nat) (f:Qa) (e:QT):QT:={ e with hosts:=vU Op.bytesLess e.hosts f.host,finds:=e.finds++[i],machs:=if f.mach = 0 then e.machs else vU ltJ e.machs f.mach }
def Kf (l:List Qa) (rr:List Int) (i:Nat):Nat→QT
 | 0=>⟨i,[],[],[]⟩
 | n + 1=>match l[i + n]?,rr[i + n]? with
   | some f,some r=>if r = (i:Int) then vJ (i + n) f (Kf l rr i n) else Kf l rr i n
   | _,_=>Kf l rr i n
def adg (l:List Qa) (rr:List Int):Nat→List QT
 | 0=>[]
 | i + 1=>match rr[i]? with
   | some r=>if r = (i:Int) then adg l rr i++[Kf l rr i (l.length - i)] else adg l rr i
   | none=>adg l rr i
theorem acX {α:Type} [BEq α] {lt:α→α→Bool} (l:List α) (x:α):(vU lt l x).length≤l.length + 1:=by
 have:=ai1 (lt:=lt) (x:=x) l
 unfold vU;split
 ·omega
 ·simp;omega
theorem ahj (l:List Qa) (rr:List Int) (i:Nat):∀ n,(Kf l rr i n).hosts.length≤n∧(Kf l rr i n).machs.length≤n∧(Kf l rr i n).finds.length≤n
 | 0=>⟨zj _,zj _,zj _⟩
 | n + 1=>by
   obtain ⟨h1,h2,h3⟩:=ahj l rr i n
   rw [Kf]
   split
   ·split
    ·rename_i f r _ _ _
     have a:=acX (lt:=Op.bytesLess) (Kf l rr i n).hosts f.host
     have b:=acX (lt:=ltJ) (Kf l rr i n).machs f.mach
     refine ⟨by simp only [vJ];omega,?_,by simp [vJ];omega⟩
     simp only [vJ];split<;>omega
    ·omega
   ·omega
theorem ahi (l:List Qa) (rr:List Int) (i:Nat):∀ n,(Kf l rr i n).num = i
 | 0=>rfl
 | n + 1=>by
   have:=ahi l rr i n
   rw [Kf]
   split
   ·split
    ·exact this
    ·exact this
   ·exact this
theorem ajW (l:List Qa) (rr:List Int):∀ i,(adg l rr i).length≤i
 | 0=>zj _
 | i + 1=>by
   have:=ajW l rr i
   rw [adg]
   split
   ·split
    ·simp;omega
    ·omega
   ·omega
def rS (l:List Qa) (rr:List Int) (es:List QT) (k:Nat):St:=Ju [(0,.sl 11 (l.map Qa.v)),(6,.sl 1 (rr.map V.int)),(7,.hd 0 0 es.length),(8,V.int k)] [(0,.buf true 4 (es.map QT.v))] 1
def iS (l:List Qa) (rr:List Int) (es:List QT) (i n:Nat) (e:QT):St:=Ju [(0,.sl 11 (l.map Qa.v)),(6,.sl 1 (rr.map V.int)),(7,.hd 0 0 es.length),(8,V.int i),(9,.ptr 1 0),(10,V.int (i + n:Nat))] [(0,.buf true 4 (es.map QT.v)),(1,.box true [V.int i,.hd 2 0 e.hosts.length,.hd 3 0 e.machs.length,.hd 4 0 e.finds.length]),(2,.buf true 1 (e.hosts.map V.str)),(3,.buf true 1 (e.machs.map V.int)),(4,.buf true 1 (Qt e.finds))] 5
theorem aee:∀ a b:List V,UJ (a++b)↔UJ a∧UJ b
 | [],b=>by simp [UJ]
 | x :: r,b=>by simp only [List.cons_append,UJ,aee r b,and_assoc]
theorem ab5:∀ es:List QT,UJ (es.map QT.v)
 | []=>trivial
 | e :: r=>⟨by simp only [QT.v,V.cells,V.closed,Qd,and_self],ab5 r⟩
def anO (l:List Qa) (gap:Int):V:=if Y1 l = true then (if gap < 0∨gap > 4000 then .tup [.sl 4 [],V.int 2] else .tup [.sl 4 ((adg l (YC l gap l.length) l.length).map QT.v),V.int 0]) else .tup [.sl 4 [],V.int 24]
def WZ:=qd Proofs.Tryz.f23 [⟨fun _=>false,[1,4,6,7],.one 0 (.one 2 (.one 3 (.or 1 (.one 4 (.one 5 (.one 6 (.one 7 (.one 8 (.one 9 (.done))))))) (.or 4 (.one 5 (.or 1 (.one 6 (.one 7 (.one 8 (.one 9 (.done))))) (.or 6 (.one 1 (.one 7 (.one 8 (.one 9 (.done))))) (.done)))) (.done)))))⟩,⟨fun _=>false,[1,4,6,7],.one 0 (.one 2 (.one 3 (.or 1 (.one 4 (.one 5 (.one 6 (.one 7 (.one 8 (.one 9 (.done))))))) (.or 4 (.one 5 (.or 1 (.one 6 (.one 7 (.one 8 (.one 9 (.done))))) (.or 6 (.one 1 (.one 7 (.one 8 (.one 9 (.done))))) (.done)))) (.done)))))⟩]
def WB (Γ:Env) (f:Nat):Prop:=∀ (l:List Qa) (gap:Int) (hl:l.length < 2 ^ 40) (hz:∀ x∈l,x.Sz) (hq:∀ x∈l,JC x = true),EvC Γ f [.sl 11 (l.map Qa.v),V.int gap] (anO l gap)
attribute [local go_sem] Ju in
theorem abo {Γ:Env} {f:Nat} (h:Has Γ.P f 85 WZ.1.1.ac WZ.1.2) (z1:X0 Γ 45) (z2:yW Γ 46) (z3:Kp Γ 47) (z4:Uc Γ 48):WB Γ f:=by
 intro l gap hl hz hq
 refine Jy h zsi (by unfold anO;(repeat' split)<;>simp only [V.closed,Qd,and_self]) fun C hC hm=>?_
 subst hC
 simp only [WZ,qd,DC.ac]
 have hal:(l.map Qa.v).length = l.length:=zb _
 have p0:=(z1 l hl hz hq).b
 unfold anO
 rcases hb:Y1 l with _|_
 ·rw [hb] at p0
  rw [if_neg (by decide)]
  exact zg
 rw [hb] at p0
 rw [if_pos rfl]
 obtain ⟨hl4,_⟩:=Vx hb
 have hd:∀ x∈l,akL x:=fun x hx=>aeh (hq x hx)
 by_cases hg:gap < 0∨gap > 4000
 ·rw [if_pos hg]
  rcases c1:decide (gap < 0) with _|_
  ·have c2:decide (gap > 4000) = true:=by simp at c1 ⊢;omega
   (have zx:=za c1 c2);exact zg
  ·(have zx:=c1);exact zg
 rw [if_neg hg]
 have c1:decide (gap < 0) = false:=by simp;omega
 have c2:decide (gap > 4000) = false:=by simp;omega
 have p1:=(z2 l gap hl4 hd).b
 have hrl:=aa8 l gap l.length (zj _)
 generalize YC l gap l.length = rr at *
 (have zx:=za c1 c2);refine zgo ?_;repeat' first|exact zt|apply zan|intro hc
 refine Qo (ι:=Nat) (fun k=>k≤l.length) (fun k=>rS l rr (adg l rr k) k) (fun k=>l.length - k) 0 (zH _) (Qe [(0,15000)]) (Qg [(0,15000)] (by simp only [go_sem,zwl,rS,adg,List.length_nil]<;>exact zcc) (by simp only [go_sem,zwl,rS,adg,zK]<;>exact zcc) (by simp [rS,Qe]) (by simp [rS];omega) (by omega)) fun k hk K' hL=>?_
 have hnk:=ajW l rr k
 have hrv:(rr.map V.int).length = rr.length:=zb _
 by_cases hlt:k < l.length
 rotate_left
 ·have e1:decide ((k:Int) < (l.length:Int)) = false:=by simp;omega
  obtain rfl:k = l.length:=by omega
  simp only [rS]
  have htl:List.take (adg l rr l.length).length ((adg l rr l.length).map QT.v) = (adg l rr l.length).map QT.v:=zh (by simp)
  (have zx:=za e1 (za hal htl));refine zgo ?_;repeat' first|exact zt|apply zan|intro hc
  all_goals first|exact zr|(refine Qk _ rfl ?_;simp only [go_sem];simp [zh];done)
 have e1:decide ((k:Int) < (l.length:Int)) = true:=by simp;omega
 have hw:=Qf (k:=k) (by omega)
 obtain ⟨r,hr⟩:∃ r,rr[k]? = some r:=⟨_,zd (by omega)⟩
 have vr:(rr.map V.int)[k]? = some (V.int r):=by rw [zf,hr];rfl
 rcases c3:(r != (k:Int)) with _|_
 rotate_left
 ·have hst:adg l rr (k + 1) = adg l rr k:=by rw [adg,hr];simp only;rw [if_neg (by simpa using c3)]
  generalize adg l rr k = es at *
  simp only [rS]
  (have zx:=za e1 (za c3 (za hal (za hw vr))));refine zgo ?_;repeat' first|exact zt|apply zan|intro hc
  all_goals exact hL _ (k + 1) (Qe []) (by omega) (by omega) (by rw [hst];exact Qg [] (by simp only [go_sem,zwl,rS]<;>exact zcc) (by simp only [go_sem,zwl,rS]<;>exact zcc) (by simp [rS]) (by simp [rS]) (by omega))
 obtain rfl:r = (k:Int):=by simpa using c3
 have hst:adg l rr (k + 1) = adg l rr k++[Kf l rr k (l.length - k)]:=by rw [adg,hr];simp only [if_true]
 generalize adg l rr k = es at *
 simp only [rS]
 (have zx:=za e1 (za c3 (za hal (za hw vr))));refine zgo ?_;repeat' first|exact zt|apply zan|intro hc
 refine aem 12001 1 1 rfl rfl ?_
 refine aem 12001 2 1 rfl rfl ?_
 refine aem 12001 3 1 rfl rfl ?_
 simp only [List.set]
 refine Qo (ι:=Nat) (fun n=>k + n≤l.length) (fun n=>iS l rr es k n (Kf l rr k n)) (fun n=>l.length - (k + n)) 0 (by omega) (Qe [(1,12001),(2,16001),(3,16002),(4,16003)]) (Qg [(1,12001),(2,16001),(3,16002),(4,16003)] (by simp only [go_sem,zwl,iS,Kf,List.length_nil]<;>exact zcc) (by simp only [go_sem,zwl,iS,Kf,zK]<;>exact zcc) (by simp [iS,Qe]) (by simp [iS];omega) (by omega)) fun n hn K2 hL2=>?_
 obtain ⟨n1,n2,n3⟩:=ahj l rr k n
 have n4:=ahi l rr k n
 by_cases hlt2:k + n < l.length
 rotate_left
 ·have e2:decide (((k + n:Nat):Int) < (l.length:Int)) = false:=by simp;omega
  obtain rfl:n = l.length - k:=by omega
  clear hL2
  generalize Kf l rr k (l.length - k) = e at *
  obtain ⟨num,H,M,F⟩:=e
  simp only at n1 n2 n3 n4
  have n5:k = num:=n4.symm
  subst n5
  simp only [iS]
  refine an2 1 [2,3,4] rfl (by decide) (ys:=[V.int k,.sl 1 (H.map V.str),.sl 1 (M.map V.int),.sl 1 (Qt F)]) ⟨rfl,⟨by simp [okB],by simp,.inl ⟨_,_,rfl,by rw [kK,zh (by simp)]⟩⟩,⟨by simp [okB],by simp,.inl ⟨_,_,rfl,by rw [kK,zh (by simp)]⟩⟩,⟨by simp [okB],by simp,.inl ⟨_,_,rfl,by rw [kK,zh (by rw [Jh];exact zj _)]⟩⟩,trivial⟩ ?_
  simp only [Ju]
  generalize ho':qQ _ _ _ = o'
  have z0:o' 0 = some (.buf true 4 (es.map QT.v)):=by rw [← ho'];rfl
  clear ho'
  have tE:List.take es.length (es.map QT.v) = es.map QT.v:=zh (by simp)
  have lE:(es.map QT.v).length = es.length:=zb _
  have hcc:=ab5 es
  (have zx:=za e2 (za hal (za hw (za z0 (za tE lE)))));refine zgo ?_;repeat' first|exact zt|apply zan|intro hc
  all_goals exact hL _ (k + 1) (Qe [(0,7005)]) (by omega) (by omega) (by rw [hst];exact Qg [(0,7005)] (by simp only [go_sem,zwl,rS,zq,List.length_singleton]<;>exact zcc) (by simp only [go_sem,zwl,rS,km,zL,zK,QT.v,aee,hcc,UJ,V.cells,V.closed,Qd]<;>exact zcc) (by simp [rS,Qe]) (by simp [rS];omega) (by omega))
 have e2:decide (((k + n:Nat):Int) < (l.length:Int)) = true:=by simp;omega
 have hw2:IntKind.i64.wrap (((k + n:Nat):Int) + 1) = ((k + (n + 1):Nat):Int):=by rw [QG (by omega) (by omega)];omega
 obtain ⟨r2,hr2⟩:∃ r,rr[k + n]? = some r:=⟨_,zd (by omega)⟩
 obtain ⟨f0,hf0⟩:∃ r,l[k + n]? = some r:=⟨_,zd (by omega)⟩
 have vr2:(rr.map V.int)[k + n]? = some (V.int r2):=by rw [zf,hr2];rfl
 have vf:(l.map Qa.v)[k + n]? = some f0.v:=by rw [zf,hf0];rfl
 simp only [Qa.v,Qa.cells] at vf
 have hsc:Kf l rr k (n + 1) = if r2 = (k:Int) then vJ (k + n) f0 (Kf l rr k n) else Kf l rr k n:=by rw [Kf,hf0,hr2]
 rcases c4:(r2 != (k:Int)) with _|_
 rotate_left
 ·rw [if_neg (by simpa using c4)] at hsc
  generalize Kf l rr k n = e at *
  obtain ⟨num,H,M,F⟩:=e
  simp only [iS]
  (have zx:=za e2 (za c4 (za hal (za hw2 vr2))));refine zgo ?_;repeat' first|exact zt|apply zan|intro hc
  all_goals exact hL2 _ (n + 1) (Qe []) (by omega) (by omega) (by rw [hsc];exact Qg [] (by simp only [go_sem,zwl,iS]<;>exact zcc) (by simp only [go_sem,zwl,iS]<;>exact zcc) (by simp [iS,Qe]) (by simp [iS]) (by omega))
 obtain rfl:r2 = (k:Int):=by simpa using c4
 rw [if_pos rfl] at hsc
 generalize Kf l rr k n = e at *
 obtain ⟨num,H,M,F⟩:=e
 simp only at n1 n2 n3
 simp only [vJ] at hsc
 have tH:List.take H.length (H.map V.str) = H.map V.str:=zh (by simp)
 have tM:List.take M.length (M.map V.int) = M.map V.int:=zh (by simp)
 have tF:List.take F.length (Qt F) = Qt F:=zh (by rw [Jh];exact zj _)
 have lH:(H.map V.str).length = H.length:=zb _
 have lM:(M.map V.int).length = M.length:=zb _
 have lF:=Jh F
 have aF:=qk F (k + n)
 have lF2:(F++[k + n]).length = F.length + 1:=by simp
 simp only [iS]
 have lP:=acX (lt:=Op.bytesLess) H f0.host
 have tP:List.take (vU Op.bytesLess H f0.host).length ((vU Op.bytesLess H f0.host).map V.str) = (vU Op.bytesLess H f0.host).map V.str:=zh (by simp)
 have lP2:((vU Op.bytesLess H f0.host).map V.str).length = (vU Op.bytesLess H f0.host).length:=zb _
 have lQ:=acX (lt:=ltJ) M f0.mach
 have tQ:List.take (vU ltJ M f0.mach).length ((vU ltJ M f0.mach).map V.int) = (vU ltJ M f0.mach).map V.int:=zh (by simp)
 have lQ2:((vU ltJ M f0.mach).map V.int).length = (vU ltJ M f0.mach).length:=zb _
 have gW:=z3.2.1 H f0.host (by omega)
 have gX:=z3.1 H f0.host (by omega)
 have mW:=z4.2.1 M f0.mach (by omega)
 have mX:=z4.1 M f0.mach (by omega)
 have hP:J0 H (qg Op.bytesLess H f0.host) f0.host = true→vU Op.bytesLess H f0.host = H:=fun h=>by rw [vU,if_pos h]
 have hQ:J0 M (qg ltJ M f0.mach) f0.mach = true→vU ltJ M f0.mach = M:=fun h=>by rw [vU,if_pos h]
 generalize J0 H (qg Op.bytesLess H f0.host) f0.host = dH at *
 generalize J0 M (qg ltJ M f0.mach) f0.mach = dM at *
 generalize vU Op.bytesLess H f0.host = P at *
 generalize vU ltJ M f0.mach = Q at *
 clear hL hst
 rcases c5:(f0.mach != 0) with _|_
 ·rw [if_pos (by simpa using c5)] at hsc
  clear mW mX hQ lQ tQ lQ2
  rcases dH with _|_
  ·replace gW:=gW rfl
   (have zx:=za e2 (za c4 (za c5 (za hal (za hw2 (za vr2 (za vf (za tH (za tF (za lH (za lF (za aF (za tP lP2)))))))))))));refine zgo ?_;repeat' first|exact zt|apply zan|intro hc
   all_goals exact hL2 _ (n + 1) (Qe [(0,0),(1,1),(2,24005),(3,3),(4,14005)]) (by omega) (by omega) (by rw [hsc];exact Qg [(0,0),(1,1),(2,24005),(3,3),(4,14005)] (by simp only [go_sem,zwl,iS,lF2]<;>exact zcc) (by simp only [go_sem,zwl,iS,lF2]<;>exact zcc) (by simp [iS,Qe]) (by simp [iS];omega) (by omega))
  ·replace gX:=gX rfl
   obtain rfl:=hP rfl
   repeat' (first|(refine zsk ?_;intro K' hK)|(refine zrg ?_;intro K' hK)|refine zsp ?_|(refine zsc ?_ ?_<;>intro hc<;>first|exact znh|try simp only [znz] at hc)|simp (maxSteps:=1000000) only [go_sem,Ju,e2,c4,c5,hal,hw2,vr2,vf,tH,tF,lH,lF,aF,tP,lP2,Int.toNat_natCast]|(refine hK _ ?_;clear hK K')|apply zan|(apply ace;(focus exact rfl);(focus first|exact gX);(focus exact rfl);(focus exact rfl);(focus (first|exact rfl|(simp;done))))|(apply vN;(focus first|exact rfl|(simp only [upd,if_false, *];exact rfl));(focus first|exact rfl|decide|(simp [rA,rW];done)|(simp [rA,rW];omega)|omega);(focus first|exact rfl|decide|(simp [rA,rW];done)|(simp [rA,rW];omega)|omega);(focus first|exact gX);(focus exact rfl);(focus first|exact rfl|decide|(simp [rA,rW];done)|(simp [rA,rW];omega)|omega);(focus (first|exact rfl|(simp;done)));(focus exact rfl))|((first|apply QF|apply QC);(focus first|exact (z1 _ zsd zsd zsd).b|exact (z2 _ _ zsd zsd).b))|exact zsq|fail)
   all_goals exact hL2 _ (n + 1) (Qe [(0,0),(1,1),(2,2),(3,3),(4,14005)]) (by omega) (by omega) (by rw [hsc];exact Qg [(0,0),(1,1),(2,2),(3,3),(4,14005)] (by simp only [go_sem,zwl,iS,lF2]<;>exact zcc) (by simp only [go_sem,zwl,iS,lF2]<;>exact zcc) (by simp [iS,Qe]) (by simp [iS];omega) (by omega))
 ·rw [if_neg (by simpa using c5)] at hsc
  rcases dH with _|_
  ·replace gW:=gW rfl
   rcases dM with _|_
   ·replace mW:=mW rfl
    (have zx:=za e2 (za c4 (za c5 (za hal (za hw2 (za vr2 (za vf (za tH (za tF (za lH (za lF (za aF (za tP (za lP2 (za tM (za tQ (za lM lQ2)))))))))))))))));refine zgo ?_;repeat' first|exact zt|apply zan|intro hc
    all_goals exact hL2 _ (n + 1) (Qe [(0,0),(1,1),(2,24005),(3,40005),(4,14005)]) (by omega) (by omega) (by rw [hsc];exact Qg [(0,0),(1,1),(2,24005),(3,40005),(4,14005)] (by simp only [go_sem,zwl,iS,lF2]<;>exact zcc) (by simp only [go_sem,zwl,iS,lF2]<;>exact zcc) (by simp [iS,Qe]) (by simp [iS];omega) (by omega))
   ·replace mX:=mX rfl
    obtain rfl:=hQ rfl
    repeat' (first|(refine zsk ?_;intro K' hK)|(refine zrg ?_;intro K' hK)|refine zsp ?_|(refine zsc ?_ ?_<;>intro hc<;>first|exact znh|try simp only [znz] at hc)|simp (maxSteps:=1000000) only [go_sem,Ju,e2,c4,c5,hal,hw2,vr2,vf,tH,tF,lH,lF,aF,tP,lP2,tM,tQ,lM,lQ2,Int.toNat_natCast]|(refine hK _ ?_;clear hK K')|apply zan|(apply ace;(focus exact rfl);(focus first|exact mX);(focus exact rfl);(focus exact rfl);(focus (first|exact rfl|(simp;done))))|(apply vN;(focus first|exact rfl|(simp only [upd,if_false, *];exact rfl));(focus first|exact rfl|decide|(simp [rA,rW];done)|(simp [rA,rW];omega)|omega);(focus first|exact rfl|decide|(simp [rA,rW];done)|(simp [rA,rW];omega)|omega);(focus first|exact mX);(focus exact rfl);(focus first|exact rfl|decide|(simp [rA,rW];done)|(simp [rA,rW];omega)|omega);(focus (first|exact rfl|(simp;done)));(focus exact rfl))|((first|apply acf|apply xQ);(focus first|exact gW))|((first|apply QF|apply QC);(focus first|exact (z1 _ zsd zsd zsd).b|exact (z2 _ _ zsd zsd).b))|exact zsq|fail)
    all_goals exact hL2 _ (n + 1) (Qe [(0,0),(1,1),(2,24005),(3,3),(4,14005)]) (by omega) (by omega) (by rw [hsc];exact Qg [(0,0),(1,1),(2,24005),(3,3),(4,14005)] (by simp only [go_sem,zwl,iS,lF2]<;>exact zcc) (by simp only [go_sem,zwl,iS,lF2]<;>exact zcc) (by simp [iS,Qe]) (by simp [iS];omega) (by omega))
  ·replace gX:=gX rfl
   obtain rfl:=hP rfl
   rcases dM with _|_
   ·replace mW:=mW rfl
    repeat' (first|(refine zsk ?_;intro K' hK)|(refine zrg ?_;intro K' hK)|refine zsp ?_|(refine zsc ?_ ?_<;>intro hc<;>first|exact znh|try simp only [znz] at hc)|simp (maxSteps:=1000000) only [go_sem,Ju,e2,c4,c5,hal,hw2,vr2,vf,tH,tF,lH,lF,aF,tP,lP2,tM,tQ,lM,lQ2,Int.toNat_natCast]|(refine hK _ ?_;clear hK K')|apply zan|(apply ace;(focus exact rfl);(focus first|exact gX);(focus exact rfl);(focus exact rfl);(focus (first|exact rfl|(simp;done))))|(apply vN;(focus first|exact rfl|(simp only [upd,if_false, *];exact rfl));(focus first|exact rfl|decide|(simp [rA,rW];done)|(simp [rA,rW];omega)|omega);(focus first|exact rfl|decide|(simp [rA,rW];done)|(simp [rA,rW];omega)|omega);(focus first|exact gX);(focus exact rfl);(focus first|exact rfl|decide|(simp [rA,rW];done)|(simp [rA,rW];omega)|omega);(focus (first|exact rfl|(simp;done)));(focus exact rfl))|((first|apply acf|apply xQ);(focus first|exact mW))|((first|apply QF|apply QC);(focus first|exact (z1 _ zsd zsd zsd).b|exact (z2 _ _ zsd zsd).b))|exact zsq|fail)
    all_goals exact hL2 _ (n + 1) (Qe [(0,0),(1,1),(2,2),(3,40005),(4,14005)]) (by omega) (by omega) (by rw [hsc];exact Qg [(0,0),(1,1),(2,2),(3,40005),(4,14005)] (by simp only [go_sem,zwl,iS,lF2]<;>exact zcc) (by simp only [go_sem,zwl,iS,lF2]<;>exact zcc) (by simp [iS,Qe]) (by simp [iS];omega) (by omega))
   ·replace mX:=mX rfl
    obtain rfl:=hQ rfl
    repeat' (first|(refine zsk ?_;intro K' hK)|(refine zrg ?_;intro K' hK)|refine zsp ?_|(refine zsc ?_ ?_<;>intro hc<;>first|exact znh|try simp only [znz] at hc)|simp (maxSteps:=1000000) only [go_sem,Ju,e2,c4,c5,hal,hw2,vr2,vf,tH,tF,lH,lF,aF,tP,lP2,tM,tQ,lM,lQ2,Int.toNat_natCast]|(refine hK _ ?_;clear hK K')|apply zan|(apply ace;(focus exact rfl);(focus first|exact gX|exact mX);(focus exact rfl);(focus exact rfl);(focus (first|exact rfl|(simp;done))))|(apply vN;(focus first|exact rfl|(simp only [upd,if_false, *];exact rfl));(focus first|exact rfl|decide|(simp [rA,rW];done)|(simp [rA,rW];omega)|omega);(focus first|exact rfl|decide|(simp [rA,rW];done)|(simp [rA,rW];omega)|omega);(focus first|exact gX|exact mX);(focus exact rfl);(focus first|exact rfl|decide|(simp [rA,rW];done)|(simp [rA,rW];omega)|omega);(focus (first|exact rfl|(simp;done)));(focus exact rfl))|((first|apply QF|apply QC);(focus first|exact (z1 _ zsd zsd zsd).b|exact (z2 _ _ zsd zsd).b))|exact zsq|fail)
    all_goals exact hL2 _ (n + 1) (Qe [(0,0),(1,1),(2,2),(3,3),(4,14005)]) (by omega) (by omega) (by rw [hsc];exact Qg [(0,0),(1,1),(2,2),(3,3),(4,14005)] (by simp only [go_sem,zwl,iS,lF2]<;>exact zcc) (by simp only [go_sem,zwl,iS,lF2]<;>exact zcc) (by simp [iS,Qe]) (by simp [iS];omega) (by omega))
structure Tot {α:Type} (lt:α→α→Bool):Prop where
 tr:∀ a b c,lt a b = true→lt b c = true→lt a c = true
 tt:∀ a b,lt a b = false→lt b a = false→a = b
theorem aml:Tot Op.bytesLess:=⟨UC,jY⟩
theorem amm:Tot ltJ:=⟨fun a b c h1 h2=>by simp only [ltJ,zA] at *;omega,fun a b h1 h2=>by simp only [ltJ,zP] at *;omega⟩
theorem xD {α:Type} {lt:α→α→Bool} {x:α}:∀ l:List α,(∀ (i:Nat) y,i < qg lt l x→l[i]? = some y→lt y x = true)∧(∀ y,l[qg lt l x]? = some y→lt y x = false)
 | []=>⟨fun i y h=>by simp [qg] at h,fun y h=>by simp at h⟩
 | a :: r=>by
   obtain ⟨h1,h2⟩:=xD (lt:=lt) (x:=x) r
   rw [qg]
   rcases ha:lt a x with _|_
   ·rw [if_neg (by simp)]
    exact ⟨fun i y h=>absurd h (Zf _),fun y h=>by simp at h;rw [← h];exact ha⟩
   ·rw [if_pos rfl]
    refine ⟨fun i y h hy=>?_,fun y hy=>h2 y (by simpa using hy)⟩
    cases i with
    | zero=>simp at hy;rw [← hy];exact ha
    | succ i=>exact h1 i y (by omega) (by simpa using hy)
theorem ald {α:Type} {lt:α→α→Bool} (T:Tot lt) {x:α} {l:List α} (hs:l.Pairwise fun a b=>lt a b = true) {i:Nat} {y:α} (hi:qg lt l x≤i) (hy:l[i]? = some y):lt y x = false:=by
 obtain ⟨_,h2⟩:=xD (lt:=lt) (x:=x) l
 rcases kM (qg lt l x) i with h|h
 ·rcases hb:lt y x with _|_
  ·rfl
  ·obtain ⟨hil,rfl⟩:=zn.1 hy
   have hp:l[qg lt l x]? = some (l[qg lt l x]'(by omega)):=zd (by omega)
   have h3:=T.tr _ _ _ (kr.1 hs _ _ (by omega) hil h) hb
   rw [h2 _ hp] at h3;cases h3
 ·exact h2 y (by rw [show qg lt l x = i by omega];exact hy)
theorem agL {α:Type} {lt:α→α→Bool} {l:List α} {x:α} {p:Nat} (h1:∀ (i:Nat) y,i < p→l[i]? = some y→lt y x = true) (h2:∀ (i:Nat) y,p≤i→l[i]? = some y→lt y x = false):∀ (n i j:Nat),i≤p→p≤j→j≤l.length→j - i≤n→aiJ lt l x n i j = p
 | 0,i,j,a,b,c,d=>by rw [aiJ];omega
 | n + 1,i,j,a,b,c,d=>by
   rw [aiJ]
   by_cases hij:i < j
   ·rw [if_pos hij]
    have hg:l[(i + j) / 2]? = some (l[(i + j) / 2]'(by omega)):=zd (by omega)
    rw [hg]
    simp only
    rcases kM ((i + j) / 2) p with h|h
    ·rw [if_pos (h1 _ _ h hg)]
     exact agL h1 h2 n _ _ (by omega) b c (by omega)
    ·rw [if_neg (by rw [h2 _ _ h hg];decide)]
     exact agL h1 h2 n _ _ a h (by omega) (by omega)
   ·rw [if_neg hij];omega
theorem apv {α:Type} {lt:α→α→Bool} (T:Tot lt) {x:α} {l:List α} (hs:l.Pairwise fun a b=>lt a b = true):bsI lt l x = qg lt l x :=
 agL (xD l).1 (fun i y hi hy=>ald T hs hi hy) _ _ _ (zH _) (ai1 l) (zj _) (by omega)
theorem ahI {α:Type} [BEq α] {lt:α→α→Bool} (T:Tot lt) {x:α} {l:List α} (hs:l.Pairwise fun a b=>lt a b = true):acx lt l x = vU lt l x:=by rw [acx,vU,apv T hs]
theorem adl {α:Type} [BEq α] [LawfulBEq α] {lt:α→α→Bool} (T:Tot lt) {x:α} {l:List α} (hs:l.Pairwise fun a b=>lt a b = true):(vU lt l x).Pairwise fun a b=>lt a b = true:=by
 unfold vU
 split
 ·exact hs
 ·rename_i hf
  have hlx:∀ a∈l.take (qg lt l x),lt a x = true:=fun a ha=>by
   obtain ⟨i,hi,rfl⟩:=kz ha
   rw [zQ] at hi
   rw [ZR]
   exact (xD l).1 i _ (by omega) (zd (by omega))
  have hxl:∀ b∈l.drop (qg lt l x),lt x b = true:=fun b hb=>by
   obtain ⟨i,hi,rfl⟩:=kz hb
   rw [kf] at hi
   rw [List.getElem_drop]
   have hp:l[qg lt l x]? = some (l[qg lt l x]'(by omega)):=zd (by omega)
   have h0:lt x (l[qg lt l x]'(by omega)) = true:=by
    rcases h:lt x (l[qg lt l x]'(by omega)) with _|_
    ·have:=T.tt _ _ h ((xD l).2 _ hp)
     rw [J0,hp] at hf
     simp only [← this,beq_self_eq_true,not_true] at hf
    ·rfl
   rcases ZJ i with h|h
   ·subst h;simpa using h0
   ·exact T.tr _ _ _ h0 (kr.1 hs _ _ (by omega) (by omega) (by omega))
  rw [kV]
  refine ⟨hs.sublist (Z9 _ _),ZL.2 ⟨hxl,hs.sublist (List.drop_sublist _ _)⟩,fun a ha b hb=>?_⟩
  rcases zF.1 hb with rfl|hb
  ·exact hlx a ha
  ·exact T.tr _ _ _ (hlx a ha) (hxl b hb)
def xB (l:List Qa) (p:List Nat) (i:Nat):Nat→QT
 | 0=>⟨i,[],[],[]⟩
 | n + 1=>match l[i + n]? with
   | some f=>if Qp p (i + n) = i then XE (i + n) f (xB l p i n) else xB l p i n
   | none=>xB l p i n
theorem ahh (l:List Qa) (p:List Nat) (i:Nat):∀ n,(xB l p i n).num = i
 | 0=>rfl
 | n + 1=>by
   have:=ahh l p i n
   rw [xB]
   split
   ·split
    ·exact this
    ·exact this
   ·exact this
theorem amv {l:List Qa} {p:List Nat} {rr:List Int} (hr:rr = (List.range l.length).map fun i=>((Qp p i:Nat):Int)) (i:Nat):∀ n,i + n≤l.length→Kf l rr i n = xB l p i n∧((xB l p i n).hosts.Pairwise fun a b=>Op.bytesLess a b = true)∧((xB l p i n).machs.Pairwise fun a b=>ltJ a b = true)
 | 0,_=>⟨rfl,List.Pairwise.nil,List.Pairwise.nil⟩
 | n + 1,h=>by
   obtain ⟨h1,h2,h3⟩:=amv hr i n (by omega)
   have hf:l[i + n]? = some (l[i + n]'(by omega)):=zd (by omega)
   generalize l[i + n]'(by omega) = f at hf
   have hrn:rr[i + n]? = some ((Qp p (i + n):Nat):Int):=by rw [hr,zf,List.getElem?_range (by omega)];rfl
   rw [Kf,xB,hf,hrn]
   simp only
   by_cases hc:Qp p (i + n) = i
   ·rw [if_pos hc,if_pos (by rw [hc]),h1]
    have a:=ahI aml (x:=f.host) h2
    have b:=ahI amm (x:=f.mach) h3
    have c:=adl aml (x:=f.host) h2
    have d:=adl amm (x:=f.mach) h3
    simp only [XE,Q1,vJ,a,b]
    refine ⟨trivial,c,?_⟩
    split
    ·exact h3
    ·exact d
   ·rw [if_neg hc,if_neg (by omega)]
    exact ⟨h1,h2,h3⟩
theorem adQ (P:Nat→Bool) (k:Nat):(List.range (k + 1)).filter P = (List.range k).filter P++if P k = true then [k] else []:=by
 rw [ZB,Zz]
 congr 1
 simp only [List.filter_cons,List.filter_nil]
theorem amC {l:List Qa} {p:List Nat} {rr:List Int} (hr:rr = (List.range l.length).map fun i=>((Qp p i:Nat):Int)):∀ k,k≤l.length→adg l rr k = ((List.range k).filter fun i=>decide (Qp p i = i)).map fun i=>xB l p i (l.length - i)
 | 0,_=>rfl
 | k + 1,h=>by
   have hrk:rr[k]? = some ((Qp p k:Nat):Int):=by rw [hr,zf,List.getElem?_range (by omega)];rfl
   have ih:=amC hr k (Nat.le_of_succ_le h)
   rw [adg,hrk,adQ,ih]
   simp only
   by_cases hc:Qp p k = k
   ·rw [if_pos (by rw [hc]),if_pos (by simpa using hc),km,(amv hr k (l.length - k) (by rw [Nat.add_sub_cancel' (Nat.le_of_succ_le h)];exact zj _)).1];rfl
   ·rw [if_neg (show ¬ ((Qp p k:Nat):Int) = (k:Int) by omega),if_neg (by simpa using hc),ki]
theorem wc {l:List Qa} {p:List Nat} {i k:Nat} {f:Qa} (hi:i≤k) (hf:l[k]? = some f):xB l p i (k + 1 - i) = if Qp p k = i then XE k f (xB l p i (k - i)) else xB l p i (k - i):=by
 rw [show k + 1 - i = (k - i) + 1 by omega,xB,show i + (k - i) = k by omega,hf]
theorem ah6 {l:List Qa} {p:List Nat} (hp:PW p):∀ k,k≤l.length→YZ l p k = ((List.range k).filter fun i=>decide (Qp p i = i)).map fun i=>xB l p i (k - i)
 | 0,_=>rfl
 | k + 1,h=>by
   have ih:=ah6 (l:=l) hp k (by omega)
   have hE:=yb (l:=l) hp k (by omega)
   have hf:l[k]? = some (l[k]'(by omega)):=zd (by omega)
   generalize l[k]'(by omega) = f at hf
   have hnum:(YZ l p k).map QT.num = (List.range k).filter fun i=>decide (Qp p i = i):=by
    rw [ih,List.map_map]
    have:(QT.num ∘ fun i=>xB l p i (k - i)) = id:=by funext i;exact ahh l p i (k - i)
    rw [this,List.map_id]
   have hmem:∀ i∈(List.range k).filter fun i=>decide (Qp p i = i),i < k∧Qp p i = i:=fun i hi=>by simpa using hi
   have hnd:((List.range k).filter fun i=>decide (Qp p i = i)).Nodup:=bk.filter _
   rw [ad8 hf,agC,adQ]
   by_cases hc:Qp p k = k
   ·rw [if_pos hc,if_pos (by simpa using hc),km,ih]
    congr 1
    ·refine Zb fun i hi=>?_
     have:=hmem i hi
     rw [wc (by omega) hf,if_neg (by omega)]
    ·simp only [zL,zK,kx,and_true]
     rw [wc (zj _) hf,if_pos hc,kH];rfl
   ·rw [if_neg hc,if_neg (by simpa using hc),ki]
    have hle:=qX hp k
    obtain ⟨a,ha⟩:=hE.has (Qp p k) (by omega) (qe hp k)
    obtain ⟨_,_,ha3⟩:=aji ha
    rw [hnum,Nat.sub_zero] at ha3
    rw [ha]
    simp only
    have hea:(YZ l p k)[a]? = some (xB l p (Qp p k) (k - Qp p k)):=by rw [ih,zf,ha3];rfl
    rw [hea]
    simp only
    rw [ih]
    apply ZG
    intro b
    obtain ⟨hal,hav⟩:=zn.1 ha3
    rw [ka,zf,zb]
    by_cases hab:a = b
    ·subst hab
     rw [if_pos rfl,if_pos hal,zf,ha3]
     simp only [Option.map_some]
     rw [wc hle hf,if_pos rfl]
    ·rw [if_neg hab,zf]
     rcases hb:((List.range k).filter fun i=>decide (Qp p i = i))[b]? with _|i
     ·rfl
     ·simp only [Option.map_some,zi]
      have hi:=hmem i (zu hb)
      obtain ⟨hbl,hbv⟩:=zn.1 hb
      have hne:Qp p k≠i:=fun e=>by
       rcases Zq a b with q|q|q
       ·exact kr.1 hnd a b hal hbl q (by rw [hav,hbv,e])
       ·exact hab q
       ·exact kr.1 hnd b a hbl hal q (by rw [hav,hbv,e])
      rw [wc (by omega) hf,if_neg hne]
theorem amD {l:List Qa} {gap:Int} (hn:Y1 l = true):adg l (YC l gap l.length) l.length = Jv l gap:=by
 rw [Jv,ah6 (aag l gap) _ (zj _),amC (aos hn) _ (zj _)]
theorem akF {l:List Qa} {gap:Int}:anO l gap = aog l gap:=by
 unfold anO aog J8
 rcases hb:Y1 l with _|_
 ·rfl
 ·by_cases hg:gap < 0∨gap > 4000
  ·simp only [if_true,if_pos hg];rfl
  ·simp only [if_true,if_neg hg,amD hb]
end Av
end
