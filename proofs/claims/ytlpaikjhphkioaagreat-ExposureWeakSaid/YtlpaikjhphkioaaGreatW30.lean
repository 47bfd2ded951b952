/- W30 -/
import Derived.Test.YtlpaikjhphkioaaGreatW29
import Derived.Test.YtlpaikjhphkioaaGreatW12
import Derived.Test.YtlpaikjhphkioaaGreatW22
import Derived.Test.YtlpaikjhphkioaaGreatW28
set_option linter.unusedVariables false
set_option linter.unusedSimpArgs false
noncomputable section
set_option maxRecDepth 10000
set_option maxHeartbeats 4000000
namespace Av
open Go
attribute [local irreducible] AWp Vy K7 jE awS awC aaG awQ abg QW Uc vZ awR Uj awB okR jt ris
theorem aca {x:Int} {r:List Int} (h:Q0 (x :: r) < 0):x≤0∧(x = 0→Q0 r < 0):=by
 rw [Q0] at h
 split at h
 ·exact ⟨by omega,fun e=>absurd e ‹_›⟩
 ·rename_i hx;exact ⟨by omega,fun _=>h⟩
theorem afL (a:List UInt8):qP a a = 0:=by rw [qP,qC];rfl
theorem aer {a b:Qa} (h:ltF a b = true):qP a.host b.host≤0∧(a.host = b.host→a.mach = b.mach→a.day≤b.day):=by
 rw [ltF,zy,aaS,aow] at h
 obtain ⟨h1,h2⟩:=aca h
 refine ⟨h1,fun e1 e2=>?_⟩
 obtain ⟨h3,h4⟩:=aca (h2 (by rw [e1];exact afL _))
 obtain ⟨h5,_⟩:=aca (h4 ((aav _ _).2 e2))
 rcases Int.lt_or_le b.day a.day with h|h
 ·have:¬ YA a.day b.day≤0:=by unfold YA;split<;>(try split)<;>omega
  exact absurd h5 this
 ·exact h
theorem ahd {l:List Qa} (h:YL l = true) {i j:Nat} {a b:Qa} (hij:i < j) (ha:l[i]? = some a) (hb:l[j]? = some b):ltF a b = true:=by
 rw [YL,zw,abR] at h
 obtain ⟨hi,rfl⟩:=zn.1 ha
 obtain ⟨hj,rfl⟩:=zn.1 hb
 exact kj.1 h.1.2 i j hi hj hij
theorem afN {l:List Qa} (h:YL l = true) {i j k:Nat} {a b c:Qa} (hij:i≤j) (hjk:j < k) (ha:l[i]? = some a) (hb:l[j]? = some b) (hc:l[k]? = some c) (e:a.host = c.host):b.host = c.host:=by
 rcases kI i j with h1|h1
 ·have p:=(aer (ahd h h1 ha hb)).1
  have q:=(aer (ahd h hjk hb hc)).1
  rw [e] at p
  rw [akD] at p q
  exact qB _ _ p q
 ·obtain rfl:i = j:=by omega
  rw [ha] at hb;cases hb;exact e
theorem aiJ {f g:Qa} {gap:Int}:abf f g≤gap↔f.day - g.day≤gap∧g.day - f.day≤gap:=by
 unfold abf;split<;>omega
theorem ahm {l:List Qa} {gap:Int} {p:List Nat} (hp:PW p) {i k:Nat} (hi:i < 400) (hk:k < 400) (h:∀ x,rep l gap (Qn p x) = rep l gap x) (he:rep l gap i = rep l gap k) (x:Nat):rep l gap (Qn (qE p i k) x) = rep l gap x:=by
 have h1:=h i
 have h2:=h k
 rw [qD hp hi hk]
 split
 ·rename_i hx
  rw [← h x,hx]
  rcases Nat.le_total (Qn p i) (Qn p k) with h3|h3
  ·rw [Nat.max_eq_right h3,kJ h3,h1,h2,he]
  ·rw [Nat.max_eq_left h3,Nat.min_eq_right h3,h1,h2,he]
 ·exact h x
theorem afC {l:List Qa} {gap:Int} {x j:Nat} {f g:Qa} (hx:l[x]? = some f) (h0:KP l gap f = 0) (hk:Vz l gap f x = some j) (hg:l[j]? = some g):rep l gap x = if f.day - g.day≤gap then rep l gap j else x:=by
 have hs:=Wj l gap f x
 rw [hk] at hs
 rw [rep,yS,hx]
 simp only
 rw [if_neg (by simpa using h0),hk]
 simp only [hg]
 rw [zK,xK l gap x j hs.1];rfl
theorem ahk {l:List Qa} {gap:Int} {f:Qa} {n x:Nat} (hn:n < x) (hb:UA l gap f n = true) (hq:∀ i,n < i→i < x→UA l gap f i = false):Vz l gap f x = some n:=by
 have hs:=Wj l gap f x
 rcases h:Vz l gap f x with _|j
 ·rw [h] at hs
  rw [hs n hn] at hb;cases hb
 ·rw [h] at hs
  obtain ⟨h1,h2,h3⟩:=hs
  rcases Zk j n with h4|h4|h4
  ·rw [h3 n h4 hn] at hb;cases hb
  ·rw [h4]
  ·rw [hq j h4 h1] at h2;cases h2
theorem aju {l:List Qa} {gap:Int} {f:Qa} {k:Nat} (h:UA l gap f k = true):∃ g,l[k]? = some g∧g.host = f.host∧g.mach = 0∧Xi l g gap < 0:=by
 rcases hg:l[k]? with _|g
 ·rw [UA,hg] at h;cases h
 ·exact ⟨g,rfl,(yw hg).1 h⟩
theorem aoe (l:List Qa) (gap:Int):UI l gap 0 ⟨List.range 400,[],[],-1⟩:=by
 refine ⟨fun x=>?_,by simp,by omega,by omega,by omega,fun n h=>?_,by omega⟩
 ·have:Qn (List.range 400) x = x:=by
   rcases hx:(List.range 400)[x]? with _|j
   ·rw [Qn,abF,hx]
   ·rw [Wy ah6 hx]
    obtain ⟨h1,h2⟩:=zn.1 hx
    rw [List.getElem_range] at h2
    rw [if_pos h2.symm]
  rw [this]
 ·simp only at h;omega
theorem aof {l:List Qa} {gap:Int} {k:Nat} {s:JS} {f:Qa} (hn:YL l = true) (hl:l.length≤400) (hf:l[k]? = some f) (hJ:JW k s) (h:UI l gap k s):UI l gap (k + 1) (afX l gap s k f):=by
 have hkl:=(zn.1 hf).1
 obtain ⟨j1,j2,j3,j4⟩:=hJ
 obtain ⟨u1,u2,u3,u4,u5,u6,u7⟩:=h
 have lt_succ:∀ {x:Nat} {g:Qa},x < k + 1→l[x]? = some g→x < k∨(x = k∧g = f):=fun {x g} hx hg=>by
  rcases kI x k with h|h
  ·exact .inl h
  ·obtain rfl:x = k:=by omega
   rw [hf] at hg;cases hg;exact .inr ⟨rfl,rfl⟩
 rw [afX]
 by_cases c1:f.mach = 0
 ·rw [if_pos c1]
  rcases vC l f gap with hnr|⟨n,q,hnr,hq,hqm⟩
  ·have hlt:Xi l f gap < 0:=by omega
   rw [if_neg (by omega)]
   have he:KP l gap f = 0:=agn c1 hlt
   rcases hnl:afR l f gap s.loose with _|_
   ·rw [if_neg (by simp)]
    refine ⟨u1,u2,fun x g hx hg hm=>?_,fun x n g hx hg hm hnn=>?_,fun x g hx hg hm hnn=>?_,fun n e=>?_,fun x j g g2 hx hg hm hnn hlk hg2 hd=>?_⟩
    ·rcases lt_succ hx hg with h|⟨rfl,rfl⟩
     ·exact u3 x g h hg hm
     ·exact absurd c1 hm
    ·rcases lt_succ hx hg with h|⟨rfl,rfl⟩
     ·exact u4 x n g h hg hm hnn
     ·omega
    ·simp only;omega
    ·simp only at e
     obtain rfl:k = n:=by omega
     exact ⟨f,hf,c1,hlt⟩
    ·rcases lt_succ hx hg with h|⟨rfl,rfl⟩
     ·exact u7 x j g g2 h hg hm hnn hlk hg2 hd
     ·exfalso
      have hs:=Wj l gap g x
      rw [hlk] at hs
      obtain ⟨s1,s2,s3⟩:=hs
      obtain ⟨b1,b2,b3⟩:=(yw hg2).1 s2
      have hlo:=u5 j g2 s1 hg2 b2 b3
      obtain ⟨n,hnn2⟩:∃ n:Nat,s.loose = n:=⟨s.loose.toNat,by omega⟩
      obtain ⟨gn,e1,e2,e3⟩:=u6 n hnn2
      have hjn:j≤n:=by omega
      have hnk:n < x:=by rcases j4 with h|h<;>omega
      have hh:=afN hn hjn hnk hg2 e1 hg b1
      have hbn:UA l gap g n = true:=(yw e1).2 ⟨hh,e2,e3⟩
      have hjn2:j = n:=by
       rcases kI j n with h|h
       ·rw [s3 n h hnk] at hbn;cases hbn
       ·omega
      subst hjn2
      rw [hg2] at e1;cases e1
      have hday:=(aer (ahd hn hnk hg2 hg)).2 hh (by rw [e2,hm])
      rw [afR,hnn2,Int.toNat_natCast,hg2] at hnl
      have hdi:abf g g2≤gap:=aiJ.2 ⟨hd,by omega⟩
      simp only [hh,hdi,decide_true,beq_self_eq_true,bf,zX,zA] at hnl
      omega
   ·rw [if_pos rfl]
    rw [afR,zw,zy] at hnl
    obtain ⟨hl0,hnl⟩:=hnl
    obtain ⟨n,hnn2⟩:∃ n:Nat,s.loose = n:=⟨s.loose.toNat,by omega⟩
    rw [hnn2,Int.toNat_natCast] at hnl ⊢
    have hnk:n < k:=by rcases j4 with h|h<;>omega
    obtain ⟨gn,e1,e2,e3⟩:=u6 n hnn2
    rw [e1] at hnl
    simp only [zw,kF,zy] at hnl
    obtain ⟨hh,hdi⟩:=hnl
    obtain ⟨hd1,hd2⟩:=aiJ.1 hdi
    have hbn:UA l gap f n = true:=(yw e1).2 ⟨hh,e2,e3⟩
    have hlk:Vz l gap f k = some n:=ahk hnk hbn fun i hi1 hi2=>by
     rcases hb:UA l gap f i with _|_
     ·rfl
     ·obtain ⟨gi,a1,a2,a3,a4⟩:=aju hb
      have:=u5 i gi hi2 a1 a3 a4
      omega
    have hrep:rep l gap k = rep l gap n:=by rw [afC hf he hlk e1,if_pos hd1]
    have hk4:k < 400:=by omega
    have hn4:n < 400:=by omega
    refine ⟨ahm j1 hk4 hn4 u1 hrep,u2,fun x g hx hg hm=>?_,fun x n g hx hg hm hnn=>?_,fun x g hx hg hm hnn=>?_,fun n e=>?_,fun x j g g2 hx hg hm hnn hlk2 hg2 hd=>?_⟩
    ·rcases lt_succ hx hg with h|⟨rfl,rfl⟩
     ·obtain ⟨a,v,q1,q2,q3⟩:=u3 x g h hg hm
      exact ⟨a,v,q1,q2,VE j1 hk4 hn4 q3⟩
     ·exact absurd c1 hm
    ·rcases lt_succ hx hg with h|⟨rfl,rfl⟩
     ·exact VE j1 hk4 hn4 (u4 x n g h hg hm hnn)
     ·omega
    ·simp only;omega
    ·simp only at e
     obtain rfl:k = n:=by omega
     exact ⟨f,hf,c1,hlt⟩
    ·rcases lt_succ hx hg with h|⟨rfl,rfl⟩
     ·exact VE j1 hk4 hn4 (u7 x j g g2 h hg hm hnn hlk2 hg2 hd)
     ·rw [hlk] at hlk2;cases hlk2
      exact vI j1 hk4 hn4
  ·rw [if_pos (by omega),hnr,Int.toNat_natCast]
   have hnl:=(zn.1 hq).1
   have hk4:k < 400:=by omega
   have hn4:n < 400:=by omega
   have he:=acz c1 hnr hq
   have hrep:rep l gap k = rep l gap n:=ah5 hf hq (by rw [he];exact hqm) (by rw [he,yB hqm])
   refine ⟨ahm j1 hk4 hn4 u1 hrep,u2,fun x g hx hg hm=>?_,fun x n' g hx hg hm hnn=>?_,fun x g hx hg hm hnn=>?_,u6,fun x j g g2 hx hg hm hnn hlk2 hg2 hd=>?_⟩
   ·rcases lt_succ hx hg with h|⟨rfl,rfl⟩
    ·obtain ⟨a,v,q1,q2,q3⟩:=u3 x g h hg hm
     exact ⟨a,v,q1,q2,VE j1 hk4 hn4 q3⟩
    ·exact absurd c1 hm
   ·rcases lt_succ hx hg with h|⟨rfl,rfl⟩
    ·exact VE j1 hk4 hn4 (u4 x n' g h hg hm hnn)
    ·obtain rfl:n = n':=by omega
     exact vI j1 hk4 hn4
   ·rcases lt_succ hx hg with h|⟨rfl,rfl⟩
    ·exact u5 x g h hg hm hnn
    ·omega
   ·rcases lt_succ hx hg with h|⟨rfl,rfl⟩
    ·exact VE j1 hk4 hn4 (u7 x j g g2 h hg hm hnn hlk2 hg2 hd)
    ·omega
 ·rw [if_neg c1]
  rcases hix:ac2 f.mach s.ks 0 with _|a
  ·simp only
   refine ⟨u1,fun a v hv=>?_,fun x g hx hg hm=>?_,fun x n' g hx hg hm hnn=>?_,fun x g hx hg hm hnn=>?_,u6,fun x j g g2 hx hg hm hnn hlk2 hg2 hd=>?_⟩
   ·rcases kI a s.vs.length with h|h
    ·simp only [ka h] at hv
     obtain ⟨g,m,q1,q2,q3⟩:=u2 a v hv
     exact ⟨g,m,by simp only;rw [ka (by omega)];exact q1,q2,q3⟩
    ·simp only [ki h] at hv
     obtain ⟨h1,h2⟩:=zn.1 hv
     simp only [List.length_singleton] at h1
     have ha:a = s.vs.length:=by omega
     subst ha
     simp at h2
     subst h2
     exact ⟨f,f.mach,by simp only;rw [← j2,ki (zh _),kD];rfl,hf,rfl⟩
   ·rcases lt_succ hx hg with h|⟨rfl,rfl⟩
    ·obtain ⟨a,v,q1,q2,q3⟩:=u3 x g h hg hm
     exact ⟨a,v,ait _ q1,by simp only;rw [ka (zn.1 q2).1];exact q2,q3⟩
    ·refine ⟨0 + s.ks.length,x,air hix,?_,rfl⟩
     simp only
     rw [ky,j2,ki (zh _),kD];rfl
   ·rcases lt_succ hx hg with h|⟨rfl,rfl⟩
    ·exact u4 x n' g h hg hm hnn
    ·exact absurd hm c1
   ·rcases lt_succ hx hg with h|⟨rfl,rfl⟩
    ·exact u5 x g h hg hm hnn
    ·exact absurd hm c1
   ·rcases lt_succ hx hg with h|⟨rfl,rfl⟩
    ·exact u7 x j g g2 h hg hm hnn hlk2 hg2 hd
    ·exact absurd hm c1
  ·simp only
   have hal:=(aey hix).2
   rw [ky,j2] at hal
   have hav:s.vs[a]? = some (s.vs[a]):=zd hal
   generalize s.vs[a] = v at hav
   have hvd:s.vs.getD a 0 = v:=by rw [zK,hav];rfl
   rw [hvd]
   obtain ⟨gv,m,q1,q2,q3⟩:=u2 a v hav
   have hkm:=ais hix
   rw [Nat.sub_zero,q1] at hkm
   cases hkm
   have hvk:=j3 v (zq hav)
   have hk4:k < 400:=by omega
   have hv4:v < 400:=by omega
   have hrep:rep l gap k = rep l gap v:=ah5 hf q2 (by rw [yB c1];exact c1) (by rw [yB c1,yB (by rw [q3];exact c1),q3])
   have keep:∀ {x y:Nat},Qn s.p x = Qn s.p y→Qn (qE s.p k v) x = Qn (qE s.p k v) y:=fun h=>VE j1 hk4 hv4 h
   have same:Qn (qE s.p k v) k = Qn (qE s.p k v) v:=vI j1 hk4 hv4
   refine ⟨ahm j1 hk4 hv4 u1 hrep,fun b w hw=>?_,fun x g hx hg hm=>?_,fun x n' g hx hg hm hnn=>?_,fun x g hx hg hm hnn=>?_,u6,fun x j g g2 hx hg hm hnn hlk2 hg2 hd=>?_⟩
   ·simp only [ke] at hw
    split at hw
    ·rename_i hab
     cases hw
     subst hab
     exact ⟨f,f.mach,q1,hf,rfl⟩
    ·exact u2 b w hw
   ·rcases lt_succ hx hg with h|⟨rfl,rfl⟩
    ·obtain ⟨b,w,r1,r2,r3⟩:=u3 x g h hg hm
     by_cases hab:a = b
     ·subst hab
      rw [hav] at r2;cases r2
      exact ⟨a,k,r1,by simp only;rw [ke,if_pos rfl,if_pos hal],(keep r3).trans same.symm⟩
     ·exact ⟨b,w,r1,by simp only;rw [ke,if_neg hab];exact r2,keep r3⟩
    ·exact ⟨a,x,hix,by simp only;rw [ke,if_pos rfl,if_pos hal],rfl⟩
   ·rcases lt_succ hx hg with h|⟨rfl,rfl⟩
    ·exact keep (u4 x n' g h hg hm hnn)
    ·exact absurd hm c1
   ·rcases lt_succ hx hg with h|⟨rfl,rfl⟩
    ·exact u5 x g h hg hm hnn
    ·exact absurd hm c1
   ·rcases lt_succ hx hg with h|⟨rfl,rfl⟩
    ·exact keep (u7 x j g g2 h hg hm hnn hlk2 hg2 hd)
    ·exact absurd hm c1
theorem anF {l:List Qa} {gap:Int} (hn:YL l = true) (hl:l.length≤400):∀ k,k≤l.length→UI l gap k (VA l gap k)
 | 0,_=>aoe l gap
 | k + 1,h=>by
   have hg:l[k]? = some l[k]:=zd (by omega)
   rw [ab1 hg]
   exact aof hn hl hg (xQ l gap k) (anF hn hl k (by omega))
theorem amg {l:List Qa} {gap:Int} (hn:YL l = true):∀ x,x < l.length→Qn (xS l gap) x = rep l gap x:=by
 have hl:=(qz hn).1
 obtain ⟨u1,u2,u3,u4,u5,u6,u7⟩:=anF (gap:=gap) hn hl l.length (zh _)
 have hp:=xR l gap
 rw [show (VA l gap l.length).p = xS l gap from rfl] at u1 u3 u4 u7
 have lab:∀ (y:Nat) (h:Qa),y < l.length→l[y]? = some h→KP l gap h≠0→∃ a v:Nat,ac2 (KP l gap h) (VA l gap l.length).ks 0 = some a∧(VA l gap l.length).vs[a]? = some v∧Qn (xS l gap) y = Qn (xS l gap) v:=fun y h hy hh hm=>by
  by_cases c:h.mach = 0
  ·rcases vC l h gap with e|⟨n,q,e1,e2,e3⟩
   ·exact absurd (agn c (by omega)) hm
   ·have he:=acz c e1 e2
    obtain ⟨a,v,q1,q2,q3⟩:=u3 n q (zn.1 e2).1 e2 e3
    exact ⟨a,v,by rw [he];exact q1,q2,(u4 y n h hy hh c e1).trans q3⟩
  ·have he:=yB (l:=l) (gap:=gap) c
   obtain ⟨a,v,q1,q2,q3⟩:=u3 y h hy hh c
   exact ⟨a,v,by rw [he];exact q1,q2,q3⟩
 have conn:∀ x,x < l.length→Qn (xS l gap) x = Qn (xS l gap) (rep l gap x):=by
  intro x
  induction x using Nat.strongRecOn with
  | _ x ih =>
    intro hx
    have hf:l[x]? = some l[x]:=zd hx
    generalize l[x] = f at hf
    by_cases hm:KP l gap f = 0
    ·have hc:f.mach = 0:=by
      by_cases c:f.mach = 0
      ·exact c
      ·rw [yB c] at hm;exact hm
     have hnr:Xi l f gap < 0:=by
      rcases vC l f gap with e|⟨n,q,e1,e2,e3⟩
      ·omega
      ·rw [acz hc e1 e2] at hm;exact absurd hm e3
     rcases hk:Vz l gap f x with _|j
     ·have:rep l gap x = x:=by
       rw [rep,yS,hf];simp only;rw [if_neg (by simpa using hm),hk]
      rw [this]
     ·have hs:=Wj l gap f x
      rw [hk] at hs
      have hj:l[j]? = some (l[j]'(by omega)):=zd (by omega)
      generalize l[j]'(by omega) = g at hj
      rw [afC hf hm hk hj]
      split
      ·rename_i hd
       exact (u7 x j f g hx hf hc hnr hk hj hd).trans (ih j hs.1 (by omega))
      ·rfl
    ·obtain ⟨h1,_⟩:=ag2 hf hm
     have hle:=anK l gap x
     have hg:l[rep l gap x]? = some (l[rep l gap x]'(by omega)):=zd (by omega)
     generalize l[rep l gap x]'(by omega) = g at hg
     rw [atM,hg] at h1
     simp only at h1
     obtain ⟨a,v,q1,q2,q3⟩:=lab x f hx hf hm
     obtain ⟨b,w,r1,r2,r3⟩:=lab (rep l gap x) g (by omega) hg (by rw [h1];exact hm)
     rw [h1,q1] at r1
     cases r1
     rw [q2] at r2;cases r2
     exact q3.trans r3.symm
 intro x hx
 have a1:=conn x hx
 have a2:=KL hp (rep l gap x)
 have a3:=anK l gap (Qn (xS l gap) x)
 rw [u1 x] at a3
 omega
theorem amf {l:List Qa} {gap:Int} (hn:YL l = true):J5 l gap l.length = (List.range l.length).map fun i=>((Qn (xS l gap) i:Nat):Int):=by
 rw [adG l gap _ (zh _)]
 apply Zw
 intro i
 rw [zi,zi]
 rcases kI i l.length with h|h
 ·rw [xK l gap _ i h,List.getElem?_range h]
  simp only [Option.map_some,amg hn i h]
 ·rw [zW (by rw [yp];exact h),zW (by simpa using h)];rfl
def U7 {α:Type} (lt:α→α→Bool):List α→α→Nat
 | [],_=>0
 | y :: r,x=>if lt y x = true then U7 lt r x + 1 else 0
def xB {α:Type} [BEq α] (lt:α→α→Bool) (l:List α) (x:α):List α:=if Jw l (U7 lt l x) x = true then l else l.take (U7 lt l x)++x :: l.drop (U7 lt l x)
theorem ag8 {α:Type} {lt:α→α→Bool} {x:α}:∀ l:List α,U7 lt l x≤l.length
 | []=>zh _
 | y :: r=>by
   have:=ag8 (lt:=lt) (x:=x) r
   rw [U7];split<;>simp only [List.length_cons]<;>omega
theorem agj (xs:List V) (hx:Qc xs) (n:Nat):ltO (n + 1) fun k=>[Ob.buf true 1 xs][k]?:=fun a x h=>by
 match a,h with
 | 0,h=>cases h;exact ⟨Nat.succ_pos _,trivial⟩
 | a + 1,h=>simp at h
theorem aki:∀ l:List (List UInt8),Qc (l.map V.str)
 | []=>trivial
 | x :: r=>⟨trivial,aki r⟩
theorem alb:∀ l:List Int,Qc (l.map V.int)
 | []=>trivial
 | x :: r=>⟨trivial,alb r⟩
theorem EvW.le2 {Γ:Env} {f:FuncId} {x y x' y':V} {sz:Nat} {xs:List V} (h:EvW Γ f [x,y] sz xs) (h1:LeV x' x) (h2:LeV y' y):EvW Γ f [x',y'] sz xs :=
 ⟨fun C cargs a b c d e g hrep=>h.ev C cargs a b c d e g fun i hi hi'=>match i,hi with
  | 0,_=>h1 _ _ _ _ (hrep 0 (by simp) hi')
  | 1,_=>h2 _ _ _ _ (hrep 1 (by simp) hi'),h.ns⟩
def Xf:=qd Proofs.Tryz.f47 [zhn 13]
def Uq (Γ:Env) (f:Nat):Prop:=((∀ (xs:List (List UInt8)) (x:List UInt8),xs.length < 2 ^ 30→Jw xs (U7 Op.bytesLess xs x) x = true→EvX Γ f [V.str x] 1 (xs.map V.str))∧(∀ (xs:List (List UInt8)) (x:List UInt8),xs.length < 2 ^ 30→Jw xs (U7 Op.bytesLess xs x) x = false→EvW Γ f [.sl 1 (xs.map V.str),V.str x] 1 ((xB Op.bytesLess xs x).map V.str))∧(∀ x:List UInt8,EvW Γ f [wW,V.str x] 1 [V.str x]))
theorem aa1 {Γ:Env} {f:Nat} (h:Has Γ.P f 45 Xf.1.1.ac Xf.1.2) :Uq Γ f:=by
 have hW:∀ (l:List (List UInt8)) (x:List UInt8),l.length < 2 ^ 30→Jw l (U7 Op.bytesLess l x) x = false→EvW Γ f [.sl 1 (l.map V.str),V.str x] 1 ((xB Op.bytesLess l x).map V.str):=fun l x hl hdp=>by
   refine Xc h (by simp) (by intro z hx;obtain ⟨y,_,rfl⟩:=zD.1 hx;simp only [V.noSl]) fun C hC hm=>?_
   subst hC
   simp only [Xf,qd,DC.ac]
   have hal:(l.map V.str).length = l.length:=zb _
   rw [xB,if_neg (by rw [hdp];decide)]
   (have zx:=hal);refine zgo ?_;repeat' first|exact zt|apply zan|intro hc
   refine Qz (ι:=Nat) (fun k=>k≤l.length∧k + U7 Op.bytesLess (l.drop k) x = U7 Op.bytesLess l x) (fun k=>[(5,V.int k)]) (fun k=>l.length - k) 0 (by omega) ⟨zG _,by simp⟩ zol zlt zet fun k hk K' hL=>?_
   obtain ⟨hk,hinv⟩:=hk
   simp only [ovT,JE,Nat.reduceEqDiff,reduceIte]
   rcases hdr:l.drop k with _|⟨y,r⟩
   ·have hkl:=Qt hdr
    have e1:decide ((k:Int) < (l.length:Int)) = false:=by simp;omega
    rw [hdr,U7,Nat.add_zero] at hinv
    rw [← hinv]
    repeat' (first|(refine zsk ?_;intro K' hK)|(refine zrg ?_;intro K' hK)|refine zsp ?_|(refine zsc ?_ ?_<;>intro hc<;>first|exact znh|try simp only [znz] at hc)|simp (maxSteps:=1000000) only [go_sem,e1,hal,Int.toNat_natCast]|(refine hK _ ?_;clear hK K')|apply zan|exact zsq|fail)
    all_goals first|(intro z hz;obtain ⟨w,_,rfl⟩:=zD.1 (zF hz);rfl)|(intro z hz;obtain ⟨w,_,rfl⟩:=zD.1 (zJ hz);rfl)|(intro z hz;obtain ⟨w,_,rfl⟩:=zD.1 (zJ (zF hz));rfl)|(intro z hz;obtain ⟨w,_,rfl⟩:=zD.1 (zF (zJ hz));rfl)|(simp only [zv,zT,kq,zb,List.length_cons,List.length_nil];omega)|(refine qH (xs:=(l.take k++x :: l.drop k).map V.str) _ _ rfl ?_ ?_<;>first|(simp [wX,kp,ku];done)|(simp;omega)|(simp [upd,kp,ku,zl,wX];done)|trace_state)
   ·obtain ⟨hk',hget,hr⟩:=Qm hdr
    have hw:=Qg (k:=k) (by omega)
    have e1:decide ((k:Int) < (l.length:Int)) = true:=by simp;omega
    have vy:(l.map V.str)[k]? = some (V.str y):=by rw [zi,hget];rfl
    rw [hdr,U7] at hinv
    rcases h1:Op.bytesLess y x with _|_
    ·rw [if_neg (by rw [h1];decide),Nat.add_zero] at hinv
     rw [← hinv,Jw,hget] at hdp
     simp only at hdp
     rw [← hinv]
     skip
     repeat' (first|(refine zsk ?_;intro K' hK)|(refine zrg ?_;intro K' hK)|refine zsp ?_|(refine zsc ?_ ?_<;>intro hc<;>first|exact znh|try simp only [znz] at hc)|simp (maxSteps:=1000000) only [go_sem,e1,hal,hw,vy,h1,hdp,Int.toNat_natCast]|(refine hK _ ?_;clear hK K')|apply zan|exact zsq|fail)
     all_goals first|(intro z hz;obtain ⟨w,_,rfl⟩:=zD.1 (zF hz);rfl)|(intro z hz;obtain ⟨w,_,rfl⟩:=zD.1 (zJ hz);rfl)|(intro z hz;obtain ⟨w,_,rfl⟩:=zD.1 (zJ (zF hz));rfl)|(intro z hz;obtain ⟨w,_,rfl⟩:=zD.1 (zF (zJ hz));rfl)|(simp only [zv,zT,kq,zb,List.length_cons,List.length_nil];omega)|(refine qH (xs:=(l.take k++x :: l.drop k).map V.str) _ _ rfl ?_ ?_<;>first|(simp [wX,kp,ku];done)|(simp;omega)|(simp [upd,kp,ku,zl,wX];done)|trace_state)
    ·rw [if_pos h1,← hr] at hinv
     skip
     (have zx:=za e1 (za hal (za hw (za vy h1))));refine zgo ?_;repeat' first|exact zt|apply zan|intro hc
     all_goals exact hL _ (k + 1) zet ⟨by omega,by omega⟩ (by omega) zoe
 refine ⟨fun l x hl hdp=>?_,hW,fun x=>(hW [] x (by simp) rfl).le2 (LeV.nil 1) (LeV.refl _)⟩
 ·refine Kh h (by simp) fun C hC hm=>?_
  subst hC
  simp only [Xf,qd,DC.ac]
  have hal:(l.map V.str).length = l.length:=zb _
  have ht:List.take (l.map V.str).length (l.map V.str) = l.map V.str:=zQ
  (have zx:=hal);refine zgo ?_;repeat' first|exact zt|apply zan|intro hc
  refine Qz (ι:=Nat) (fun k=>k≤l.length∧k + U7 Op.bytesLess (l.drop k) x = U7 Op.bytesLess l x) (fun k=>[(5,V.int k)]) (fun k=>l.length - k) 0 (by omega) ⟨zG _,by simp⟩ (by refine abV (by decide) ?_ (agj _ (aki _) 2000)<;>simp [Ob.lt,ltL,V.lt,V.str,V.int]) zlt zet fun k hk K' hL=>?_
  obtain ⟨hk,hinv⟩:=hk
  simp only [ovT,JE,Nat.reduceEqDiff,reduceIte]
  rcases hdr:l.drop k with _|⟨y,r⟩
  ·exfalso
   have hkl:=Qt hdr
   rw [hdr,U7,Nat.add_zero] at hinv
   rw [← hinv,Jw,zW hkl] at hdp;cases hdp
  ·obtain ⟨hk',hget,hr⟩:=Qm hdr
   have hw:=Qg (k:=k) (by omega)
   have e1:decide ((k:Int) < (l.length:Int)) = true:=by simp;omega
   have vy:(l.map V.str)[k]? = some (V.str y):=by rw [zi,hget];rfl
   rw [hdr,U7] at hinv
   rcases h1:Op.bytesLess y x with _|_
   ·rw [if_neg (by rw [h1];decide),Nat.add_zero] at hinv
    rw [← hinv,Jw,hget] at hdp
    simp only at hdp
    skip
    (have zx:=za e1 (za hal (za hw (za vy (za h1 (za hdp ht))))));refine zgo ?_;repeat' first|exact zt|apply zan|intro hc
    all_goals first|(rw [← hal];refine agl _ rfl rfl rfl ?_;first|rfl|(simp;done))
   ·rw [if_pos h1,← hr] at hinv
    skip
    (have zx:=za e1 (za hal (za hw (za vy h1))));refine zgo ?_;repeat' first|exact zt|apply zan|intro hc
    all_goals exact hL _ (k + 1) zet ⟨by omega,by omega⟩ (by omega) zoe
def Yx:=qd Proofs.Tryz.f48 [zhn 13]
def Ve (Γ:Env) (f:Nat):Prop:=((∀ (xs:List (Int)) (x:Int),xs.length < 2 ^ 30→Jw xs (U7 ltJ xs x) x = true→EvX Γ f [V.int x] 1 (xs.map V.int))∧(∀ (xs:List (Int)) (x:Int),xs.length < 2 ^ 30→Jw xs (U7 ltJ xs x) x = false→EvW Γ f [.sl 1 (xs.map V.int),V.int x] 1 ((xB ltJ xs x).map V.int))∧(∀ x:Int,EvW Γ f [wW,V.int x] 1 [V.int x]))
theorem wa {Γ:Env} {f:Nat} (h:Has Γ.P f 45 Yx.1.1.ac Yx.1.2) :Ve Γ f:=by
 have hW:∀ (l:List (Int)) (x:Int),l.length < 2 ^ 30→Jw l (U7 ltJ l x) x = false→EvW Γ f [.sl 1 (l.map V.int),V.int x] 1 ((xB ltJ l x).map V.int):=fun l x hl hdp=>by
   refine Xc h (by simp) (by intro z hx;obtain ⟨y,_,rfl⟩:=zD.1 hx;simp only [V.noSl]) fun C hC hm=>?_
   subst hC
   simp only [Yx,qd,DC.ac]
   have hal:(l.map V.int).length = l.length:=zb _
   rw [xB,if_neg (by rw [hdp];decide)]
   repeat' (first|(refine zsk ?_;intro K' hK)|(refine zrg ?_;intro K' hK)|refine zsp ?_|(refine zsc ?_ ?_<;>intro hc<;>first|exact znh|try simp only [znz] at hc)|simp (maxSteps:=1000000) only [go_sem,hal]|(refine hK _ ?_;clear hK K')|apply zan|exact zsq|fail)
   refine Qz (ι:=Nat) (fun k=>k≤l.length∧k + U7 ltJ (l.drop k) x = U7 ltJ l x) (fun k=>[(5,V.int k)]) (fun k=>l.length - k) 0 (by omega) ⟨zG _,by simp⟩ zol zlt zet fun k hk K' hL=>?_
   obtain ⟨hk,hinv⟩:=hk
   simp only [ovT,JE,Nat.reduceEqDiff,reduceIte]
   rcases hdr:l.drop k with _|⟨y,r⟩
   ·have hkl:=Qt hdr
    have e1:decide ((k:Int) < (l.length:Int)) = false:=by simp;omega
    rw [hdr,U7,Nat.add_zero] at hinv
    rw [← hinv]
    repeat' (first|(refine zsk ?_;intro K' hK)|(refine zrg ?_;intro K' hK)|refine zsp ?_|(refine zsc ?_ ?_<;>intro hc<;>first|exact znh|try simp only [znz] at hc)|simp (maxSteps:=1000000) only [go_sem,e1,hal,Int.toNat_natCast]|(refine hK _ ?_;clear hK K')|apply zan|exact zsq|fail)
    all_goals first|(intro z hz;obtain ⟨w,_,rfl⟩:=zD.1 (zF hz);rfl)|(intro z hz;obtain ⟨w,_,rfl⟩:=zD.1 (zJ hz);rfl)|(intro z hz;obtain ⟨w,_,rfl⟩:=zD.1 (zJ (zF hz));rfl)|(intro z hz;obtain ⟨w,_,rfl⟩:=zD.1 (zF (zJ hz));rfl)|(simp only [zv,zT,kq,zb,List.length_cons,List.length_nil];omega)|(refine qH (xs:=(l.take k++x :: l.drop k).map V.int) _ _ rfl ?_ ?_<;>first|(simp [wX,kp,ku];done)|(simp;omega)|(simp [upd,kp,ku,zl,wX];done)|trace_state)
   ·obtain ⟨hk',hget,hr⟩:=Qm hdr
    have hw:=Qg (k:=k) (by omega)
    have e1:decide ((k:Int) < (l.length:Int)) = true:=by simp;omega
    have vy:(l.map V.int)[k]? = some (V.int y):=by rw [zi,hget];rfl
    rw [hdr,U7] at hinv
    rcases h1:ltJ y x with _|_
    ·rw [if_neg (by rw [h1];decide),Nat.add_zero] at hinv
     rw [← hinv,Jw,hget] at hdp
     simp only at hdp
     rw [← hinv]
     rw [ltJ] at h1
     repeat' (first|(refine zsk ?_;intro K' hK)|(refine zrg ?_;intro K' hK)|refine zsp ?_|(refine zsc ?_ ?_<;>intro hc<;>first|exact znh|try simp only [znz] at hc)|simp (maxSteps:=1000000) only [go_sem,e1,hal,hw,vy,h1,hdp,Int.toNat_natCast]|(refine hK _ ?_;clear hK K')|apply zan|exact zsq|fail)
     all_goals first|(intro z hz;obtain ⟨w,_,rfl⟩:=zD.1 (zF hz);rfl)|(intro z hz;obtain ⟨w,_,rfl⟩:=zD.1 (zJ hz);rfl)|(intro z hz;obtain ⟨w,_,rfl⟩:=zD.1 (zJ (zF hz));rfl)|(intro z hz;obtain ⟨w,_,rfl⟩:=zD.1 (zF (zJ hz));rfl)|(simp only [zv,zT,kq,zb,List.length_cons,List.length_nil];omega)|(refine qH (xs:=(l.take k++x :: l.drop k).map V.int) _ _ rfl ?_ ?_<;>first|(simp [wX,kp,ku];done)|(simp;omega)|(simp [upd,kp,ku,zl,wX];done)|trace_state)
    ·rw [if_pos h1,← hr] at hinv
     rw [ltJ] at h1
     repeat' (first|(refine zsk ?_;intro K' hK)|(refine zrg ?_;intro K' hK)|refine zsp ?_|(refine zsc ?_ ?_<;>intro hc<;>first|exact znh|try simp only [znz] at hc)|simp (maxSteps:=1000000) only [go_sem,e1,hal,hw,vy,h1,Int.toNat_natCast]|(refine hK _ ?_;clear hK K')|apply zan|exact zsq|fail)
     all_goals exact hL _ (k + 1) zet ⟨by omega,by omega⟩ (by omega) zoe
 refine ⟨fun l x hl hdp=>?_,hW,fun x=>(hW [] x (by simp) rfl).le2 (LeV.nil 1) (LeV.refl _)⟩
 ·refine Kh h (by simp) fun C hC hm=>?_
  subst hC
  simp only [Yx,qd,DC.ac]
  have hal:(l.map V.int).length = l.length:=zb _
  have ht:List.take (l.map V.int).length (l.map V.int) = l.map V.int:=zQ
  repeat' (first|(refine zsk ?_;intro K' hK)|(refine zrg ?_;intro K' hK)|refine zsp ?_|(refine zsc ?_ ?_<;>intro hc<;>first|exact znh|try simp only [znz] at hc)|simp (maxSteps:=1000000) only [go_sem,hal]|(refine hK _ ?_;clear hK K')|apply zan|exact zsq|fail)
  refine Qz (ι:=Nat) (fun k=>k≤l.length∧k + U7 ltJ (l.drop k) x = U7 ltJ l x) (fun k=>[(5,V.int k)]) (fun k=>l.length - k) 0 (by omega) ⟨zG _,by simp⟩ (by refine abV (by decide) ?_ (agj _ (alb _) 2000)<;>simp [Ob.lt,ltL,V.lt,V.str,V.int]) zlt zet fun k hk K' hL=>?_
  obtain ⟨hk,hinv⟩:=hk
  simp only [ovT,JE,Nat.reduceEqDiff,reduceIte]
  rcases hdr:l.drop k with _|⟨y,r⟩
  ·exfalso
   have hkl:=Qt hdr
   rw [hdr,U7,Nat.add_zero] at hinv
   rw [← hinv,Jw,zW hkl] at hdp;cases hdp
  ·obtain ⟨hk',hget,hr⟩:=Qm hdr
   have hw:=Qg (k:=k) (by omega)
   have e1:decide ((k:Int) < (l.length:Int)) = true:=by simp;omega
   have vy:(l.map V.int)[k]? = some (V.int y):=by rw [zi,hget];rfl
   rw [hdr,U7] at hinv
   rcases h1:ltJ y x with _|_
   ·rw [if_neg (by rw [h1];decide),Nat.add_zero] at hinv
    rw [← hinv,Jw,hget] at hdp
    simp only at hdp
    rw [ltJ] at h1
    repeat' (first|(refine zsk ?_;intro K' hK)|(refine zrg ?_;intro K' hK)|refine zsp ?_|(refine zsc ?_ ?_<;>intro hc<;>first|exact znh|try simp only [znz] at hc)|simp (maxSteps:=1000000) only [go_sem,e1,hal,hw,vy,h1,hdp,ht,Int.toNat_natCast]|(refine hK _ ?_;clear hK K')|apply zan|exact zsq|fail)
    all_goals first|(rw [← hal];refine agl _ rfl rfl rfl ?_;first|rfl|(simp;done))
   ·rw [if_pos h1,← hr] at hinv
    rw [ltJ] at h1
    repeat' (first|(refine zsk ?_;intro K' hK)|(refine zrg ?_;intro K' hK)|refine zsp ?_|(refine zsc ?_ ?_<;>intro hc<;>first|exact znh|try simp only [znz] at hc)|simp (maxSteps:=1000000) only [go_sem,e1,hal,hw,vy,h1,Int.toNat_natCast]|(refine hK _ ?_;clear hK K')|apply zan|exact zsq|fail)
    all_goals exact hL _ (k + 1) zet ⟨by omega,by omega⟩ (by omega) zoe
def xn (i:Nat) (f:Qa) (e:QR):QR:={ e with hosts:=xB Op.bytesLess e.hosts f.host,finds:=e.finds++[i],machs:=if f.mach = 0 then e.machs else xB ltJ e.machs f.mach }
def Uh (l:List Qa) (rr:List Int) (i:Nat):Nat→QR
 | 0=>⟨i,[],[],[]⟩
 | n + 1=>match l[i + n]?,rr[i + n]? with
   | some f,some r=>if r = (i:Int) then xn (i + n) f (Uh l rr i n) else Uh l rr i n
   | _,_=>Uh l rr i n
def abE (l:List Qa) (rr:List Int):Nat→List QR
 | 0=>[]
 | i + 1=>match rr[i]? with
   | some r=>if r = (i:Int) then abE l rr i++[Uh l rr i (l.length - i)] else abE l rr i
   | none=>abE l rr i
theorem abm {α:Type} [BEq α] {lt:α→α→Bool} (l:List α) (x:α):(xB lt l x).length≤l.length + 1:=by
 have:=ag8 (lt:=lt) (x:=x) l
 unfold xB;split
 ·omega
 ·simp;omega
theorem afz (l:List Qa) (rr:List Int) (i:Nat):∀ n,(Uh l rr i n).hosts.length≤n∧(Uh l rr i n).machs.length≤n∧(Uh l rr i n).finds.length≤n
 | 0=>⟨zh _,zh _,zh _⟩
 | n + 1=>by
   obtain ⟨h1,h2,h3⟩:=afz l rr i n
   rw [Uh]
   split
   ·split
    ·rename_i f r _ _ _
     have a:=abm (lt:=Op.bytesLess) (Uh l rr i n).hosts f.host
     have b:=abm (lt:=ltJ) (Uh l rr i n).machs f.mach
     refine ⟨by simp only [xn];omega,?_,by simp [xn];omega⟩
     simp only [xn];split<;>omega
    ·omega
   ·omega
theorem afy (l:List Qa) (rr:List Int) (i:Nat):∀ n,(Uh l rr i n).num = i
 | 0=>rfl
 | n + 1=>by
   have:=afy l rr i n
   rw [Uh]
   split
   ·split
    ·exact this
    ·exact this
   ·exact this
theorem ah0 (l:List Qa) (rr:List Int):∀ i,(abE l rr i).length≤i
 | 0=>zh _
 | i + 1=>by
   have:=ah0 l rr i
   rw [abE]
   split
   ·split
    ·simp;omega
    ·omega
   ·omega
def rS (l:List Qa) (rr:List Int) (es:List QR) (k:Nat):St:=Jk [(0,.sl 11 (l.map Qa.v)),(6,.sl 1 (rr.map V.int)),(7,.hd 0 0 es.length),(8,V.int k)] [(0,.buf true 4 (es.map QR.v))] 1
def iS (l:List Qa) (rr:List Int) (es:List QR) (i n:Nat) (e:QR):St:=Jk [(0,.sl 11 (l.map Qa.v)),(6,.sl 1 (rr.map V.int)),(7,.hd 0 0 es.length),(8,V.int i),(9,.ptr 1 0),(10,V.int (i + n:Nat))] [(0,.buf true 4 (es.map QR.v)),(1,.box true [V.int i,.hd 2 0 e.hosts.length,.hd 3 0 e.machs.length,.hd 4 0 e.finds.length]),(2,.buf true 1 (e.hosts.map V.str)),(3,.buf true 1 (e.machs.map V.int)),(4,.buf true 1 (Qv e.finds))] 5
theorem acE:∀ a b:List V,VI (a++b)↔VI a∧VI b
 | [],b=>by simp [VI]
 | x :: r,b=>by simp only [List.cons_append,VI,acE r b,and_assoc]
theorem aaA:∀ es:List QR,VI (es.map QR.v)
 | []=>trivial
 | e :: r=>⟨by simp only [QR.v,V.cells,V.closed,Qc,and_self],aaA r⟩
def alB (l:List Qa) (gap:Int):V:=if YL l = true then (if gap < 0∨gap > 4000 then .tup [.sl 4 [],V.int 2] else .tup [.sl 4 ((abE l (J5 l gap l.length) l.length).map QR.v),V.int 0]) else .tup [.sl 4 [],V.int 24]
def X1:=qd Proofs.Tryz.f23 [⟨fun _=>false,[1,4,6,7],.one 0 (.one 2 (.one 3 (.or 1 (.one 4 (.one 5 (.one 6 (.one 7 (.one 8 (.one 9 (.done))))))) (.or 4 (.one 5 (.or 1 (.one 6 (.one 7 (.one 8 (.one 9 (.done))))) (.or 6 (.one 1 (.one 7 (.one 8 (.one 9 (.done))))) (.done)))) (.done)))))⟩,⟨fun _=>false,[1,4,6,7],.one 0 (.one 2 (.one 3 (.or 1 (.one 4 (.one 5 (.one 6 (.one 7 (.one 8 (.one 9 (.done))))))) (.or 4 (.one 5 (.or 1 (.one 6 (.one 7 (.one 8 (.one 9 (.done))))) (.or 6 (.one 1 (.one 7 (.one 8 (.one 9 (.done))))) (.done)))) (.done)))))⟩]
def VO (Γ:Env) (f:Nat):Prop:=∀ (l:List Qa) (gap:Int) (hl:l.length < 2 ^ 40) (hz:∀ x∈l,x.Sz) (hq:∀ x∈l,JD x = true),EvC Γ f [.sl 11 (l.map Qa.v),V.int gap] (alB l gap)
attribute [local go_sem] Jk in
theorem vN {Γ:Env} {f:Nat} (h:Has Γ.P f 85 X1.1.1.ac X1.1.2) (z1:Vf Γ 45) (z2:jk Γ 46) (z3:Uq Γ 47) (z4:Ve Γ 48):VO Γ f:=by
 intro l gap hl hz hq
 refine Jt h zsi (by unfold alB;(repeat' split)<;>simp only [V.closed,Qc,and_self]) fun C hC hm=>?_
 subst hC
 simp only [X1,qd,DC.ac]
 have hal:(l.map Qa.v).length = l.length:=zb _
 have p0:=(z1 l hl hz hq).b
 unfold alB
 rcases hb:YL l with _|_
 ·rw [hb] at p0
  rw [if_neg (by decide)]
  exact zg
 rw [hb] at p0
 rw [if_pos rfl]
 obtain ⟨hl4,_⟩:=qz hb
 have hd:∀ x∈l,aiL x:=fun x hx=>acF (hq x hx)
 by_cases hg:gap < 0∨gap > 4000
 ·rw [if_pos hg]
  rcases c1:decide (gap < 0) with _|_
  ·have c2:decide (gap > 4000) = true:=by simp at c1 ⊢;omega
   (have zx:=za c1 c2);exact zg
  ·(have zx:=c1);exact zg
 rw [if_neg hg]
 have c1:decide (gap < 0) = false:=by simp;omega
 have c2:decide (gap > 4000) = false:=by simp;omega
 have p1:=(z2 l gap hl4 hd).b
 have hrl:=vj l gap l.length (zh _)
 generalize J5 l gap l.length = rr at *
 (have zx:=za c1 c2);refine zgo ?_;repeat' first|exact zt|apply zan|intro hc
 refine Qp (ι:=Nat) (fun k=>k≤l.length) (fun k=>rS l rr (abE l rr k) k) (fun k=>l.length - k) 0 (zG _) (Qd [(0,15000)]) (Qh [(0,15000)] (by simp only [go_sem,zwl,rS,abE,List.length_nil]<;>exact zcc) (by simp only [go_sem,zwl,rS,abE,zL]<;>exact zcc) (by simp [rS,Qd]) (by simp [rS];omega) (by omega)) fun k hk K' hL=>?_
 have hnk:=ah0 l rr k
 have hrv:(rr.map V.int).length = rr.length:=zb _
 by_cases hlt:k < l.length
 rotate_left
 ·have e1:decide ((k:Int) < (l.length:Int)) = false:=by simp;omega
  obtain rfl:k = l.length:=by omega
  simp only [rS]
  have htl:List.take (abE l rr l.length).length ((abE l rr l.length).map QR.v) = (abE l rr l.length).map QR.v:=zl (by simp)
  (have zx:=za e1 (za hal htl));refine zgo ?_;repeat' first|exact zt|apply zan|intro hc
  all_goals first|exact zr|(refine Ql _ rfl ?_;simp only [go_sem];simp [zl];done)
 have e1:decide ((k:Int) < (l.length:Int)) = true:=by simp;omega
 have hw:=Qg (k:=k) (by omega)
 obtain ⟨r,hr⟩:∃ r,rr[k]? = some r:=⟨_,zd (by omega)⟩
 have vr:(rr.map V.int)[k]? = some (V.int r):=by rw [zi,hr];rfl
 rcases c3:(r != (k:Int)) with _|_
 rotate_left
 ·have hst:abE l rr (k + 1) = abE l rr k:=by rw [abE,hr];simp only;rw [if_neg (by simpa using c3)]
  generalize abE l rr k = es at *
  simp only [rS]
  (have zx:=za e1 (za c3 (za hal (za hw vr))));refine zgo ?_;repeat' first|exact zt|apply zan|intro hc
  all_goals exact hL _ (k + 1) (Qd []) (by omega) (by omega) (by rw [hst];exact Qh [] (by simp only [go_sem,zwl,rS]<;>exact zcc) (by simp only [go_sem,zwl,rS]<;>exact zcc) (by simp [rS]) (by simp [rS]) (by omega))
 obtain rfl:r = (k:Int):=by simpa using c3
 have hst:abE l rr (k + 1) = abE l rr k++[Uh l rr k (l.length - k)]:=by rw [abE,hr];simp only [if_true]
 generalize abE l rr k = es at *
 simp only [rS]
 (have zx:=za e1 (za c3 (za hal (za hw vr))));refine zgo ?_;repeat' first|exact zt|apply zan|intro hc
 refine acJ 12001 1 1 rfl rfl ?_
 refine acJ 12001 2 1 rfl rfl ?_
 refine acJ 12001 3 1 rfl rfl ?_
 simp only [List.set]
 refine Qp (ι:=Nat) (fun n=>k + n≤l.length) (fun n=>iS l rr es k n (Uh l rr k n)) (fun n=>l.length - (k + n)) 0 (by omega) (Qd [(1,12001),(2,16001),(3,16002),(4,16003)]) (Qh [(1,12001),(2,16001),(3,16002),(4,16003)] (by simp only [go_sem,zwl,iS,Uh,List.length_nil]<;>exact zcc) (by simp only [go_sem,zwl,iS,Uh,zL]<;>exact zcc) (by simp [iS,Qd]) (by simp [iS];omega) (by omega)) fun n hn K2 hL2=>?_
 obtain ⟨n1,n2,n3⟩:=afz l rr k n
 have n4:=afy l rr k n
 by_cases hlt2:k + n < l.length
 rotate_left
 ·have e2:decide (((k + n:Nat):Int) < (l.length:Int)) = false:=by simp;omega
  obtain rfl:n = l.length - k:=by omega
  clear hL2
  generalize Uh l rr k (l.length - k) = e at *
  obtain ⟨num,H,M,F⟩:=e
  simp only at n1 n2 n3 n4
  have n5:k = num:=n4.symm
  subst n5
  simp only [iS]
  refine alR 1 [2,3,4] rfl (by decide) (ys:=[V.int k,.sl 1 (H.map V.str),.sl 1 (M.map V.int),.sl 1 (Qv F)]) ⟨rfl,⟨by simp [okB],by simp,.inl ⟨_,_,rfl,by rw [kK,zl (by simp)]⟩⟩,⟨by simp [okB],by simp,.inl ⟨_,_,rfl,by rw [kK,zl (by simp)]⟩⟩,⟨by simp [okB],by simp,.inl ⟨_,_,rfl,by rw [kK,zl (by rw [Jr];exact zh _)]⟩⟩,trivial⟩ ?_
  simp only [Jk]
  generalize ho':KF _ _ _ = o'
  have z0:o' 0 = some (.buf true 4 (es.map QR.v)):=by rw [← ho'];rfl
  clear ho'
  have tE:List.take es.length (es.map QR.v) = es.map QR.v:=zl (by simp)
  have lE:(es.map QR.v).length = es.length:=zb _
  have hcc:=aaA es
  (have zx:=za e2 (za hal (za hw (za z0 (za tE lE)))));refine zgo ?_;repeat' first|exact zt|apply zan|intro hc
  all_goals exact hL _ (k + 1) (Qd [(0,7005)]) (by omega) (by omega) (by rw [hst];exact Qh [(0,7005)] (by simp only [go_sem,zwl,rS,zv,List.length_singleton]<;>exact zcc) (by simp only [go_sem,zwl,rS,kz,zN,zL,QR.v,acE,hcc,VI,V.cells,V.closed,Qc]<;>exact zcc) (by simp [rS,Qd]) (by simp [rS];omega) (by omega))
 have e2:decide (((k + n:Nat):Int) < (l.length:Int)) = true:=by simp;omega
 have hw2:IntKind.i64.wrap (((k + n:Nat):Int) + 1) = ((k + (n + 1):Nat):Int):=by rw [QP (by omega) (by omega)];omega
 obtain ⟨r2,hr2⟩:∃ r,rr[k + n]? = some r:=⟨_,zd (by omega)⟩
 obtain ⟨f0,hf0⟩:∃ r,l[k + n]? = some r:=⟨_,zd (by omega)⟩
 have vr2:(rr.map V.int)[k + n]? = some (V.int r2):=by rw [zi,hr2];rfl
 have vf:(l.map Qa.v)[k + n]? = some f0.v:=by rw [zi,hf0];rfl
 simp only [Qa.v,Qa.cells] at vf
 have hsc:Uh l rr k (n + 1) = if r2 = (k:Int) then xn (k + n) f0 (Uh l rr k n) else Uh l rr k n:=by rw [Uh,hf0,hr2]
 rcases c4:(r2 != (k:Int)) with _|_
 rotate_left
 ·rw [if_neg (by simpa using c4)] at hsc
  generalize Uh l rr k n = e at *
  obtain ⟨num,H,M,F⟩:=e
  simp only [iS]
  (have zx:=za e2 (za c4 (za hal (za hw2 vr2))));refine zgo ?_;repeat' first|exact zt|apply zan|intro hc
  all_goals exact hL2 _ (n + 1) (Qd []) (by omega) (by omega) (by rw [hsc];exact Qh [] (by simp only [go_sem,zwl,iS]<;>exact zcc) (by simp only [go_sem,zwl,iS]<;>exact zcc) (by simp [iS,Qd]) (by simp [iS]) (by omega))
 obtain rfl:r2 = (k:Int):=by simpa using c4
 rw [if_pos rfl] at hsc
 generalize Uh l rr k n = e at *
 obtain ⟨num,H,M,F⟩:=e
 simp only at n1 n2 n3
 simp only [xn] at hsc
 have tH:List.take H.length (H.map V.str) = H.map V.str:=zl (by simp)
 have tM:List.take M.length (M.map V.int) = M.map V.int:=zl (by simp)
 have tF:List.take F.length (Qv F) = Qv F:=zl (by rw [Jr];exact zh _)
 have lH:(H.map V.str).length = H.length:=zb _
 have lM:(M.map V.int).length = M.length:=zb _
 have lF:=Jr F
 have aF:=Kb F (k + n)
 have lF2:(F++[k + n]).length = F.length + 1:=by simp
 simp only [iS]
 have lP:=abm (lt:=Op.bytesLess) H f0.host
 have tP:List.take (xB Op.bytesLess H f0.host).length ((xB Op.bytesLess H f0.host).map V.str) = (xB Op.bytesLess H f0.host).map V.str:=zl (by simp)
 have lP2:((xB Op.bytesLess H f0.host).map V.str).length = (xB Op.bytesLess H f0.host).length:=zb _
 have lQ:=abm (lt:=ltJ) M f0.mach
 have tQ:List.take (xB ltJ M f0.mach).length ((xB ltJ M f0.mach).map V.int) = (xB ltJ M f0.mach).map V.int:=zl (by simp)
 have lQ2:((xB ltJ M f0.mach).map V.int).length = (xB ltJ M f0.mach).length:=zb _
 have gW:=z3.2.1 H f0.host (by omega)
 have gX:=z3.1 H f0.host (by omega)
 have mW:=z4.2.1 M f0.mach (by omega)
 have mX:=z4.1 M f0.mach (by omega)
 have hP:Jw H (U7 Op.bytesLess H f0.host) f0.host = true→xB Op.bytesLess H f0.host = H:=fun h=>by rw [xB,if_pos h]
 have hQ:Jw M (U7 ltJ M f0.mach) f0.mach = true→xB ltJ M f0.mach = M:=fun h=>by rw [xB,if_pos h]
 generalize Jw H (U7 Op.bytesLess H f0.host) f0.host = dH at *
 generalize Jw M (U7 ltJ M f0.mach) f0.mach = dM at *
 generalize xB Op.bytesLess H f0.host = P at *
 generalize xB ltJ M f0.mach = Q at *
 clear hL hst
 rcases c5:(f0.mach != 0) with _|_
 ·rw [if_pos (by simpa using c5)] at hsc
  clear mW mX hQ lQ tQ lQ2
  rcases dH with _|_
  ·replace gW:=gW rfl
   (have zx:=za e2 (za c4 (za c5 (za hal (za hw2 (za vr2 (za vf (za tH (za tF (za lH (za lF (za aF (za tP lP2)))))))))))));refine zgo ?_;repeat' first|exact zt|apply zan|intro hc
   all_goals exact hL2 _ (n + 1) (Qd [(0,0),(1,1),(2,24005),(3,3),(4,14005)]) (by omega) (by omega) (by rw [hsc];exact Qh [(0,0),(1,1),(2,24005),(3,3),(4,14005)] (by simp only [go_sem,zwl,iS,lF2]<;>exact zcc) (by simp only [go_sem,zwl,iS,lF2]<;>exact zcc) (by simp [iS,Qd]) (by simp [iS];omega) (by omega))
  ·replace gX:=gX rfl
   obtain rfl:=hP rfl
   repeat' (first|(refine zsk ?_;intro K' hK)|(refine zrg ?_;intro K' hK)|refine zsp ?_|(refine zsc ?_ ?_<;>intro hc<;>first|exact znh|try simp only [znz] at hc)|simp (maxSteps:=1000000) only [go_sem,Jk,e2,c4,c5,hal,hw2,vr2,vf,tH,tF,lH,lF,aF,tP,lP2,Int.toNat_natCast]|(refine hK _ ?_;clear hK K')|apply zan|(apply aaH;(focus exact rfl);(focus first|exact gX);(focus exact rfl);(focus exact rfl);(focus (first|exact rfl|(simp;done))))|(apply xu;(focus first|exact rfl|(simp only [upd,if_false, *];exact rfl));(focus first|exact rfl|decide|(simp [rA,rW];done)|(simp [rA,rW];omega)|omega);(focus first|exact rfl|decide|(simp [rA,rW];done)|(simp [rA,rW];omega)|omega);(focus first|exact gX);(focus exact rfl);(focus first|exact rfl|decide|(simp [rA,rW];done)|(simp [rA,rW];omega)|omega);(focus (first|exact rfl|(simp;done)));(focus exact rfl))|((first|apply Qr|apply Qy);(focus first|exact (z1 _ zsd zsd zsd).b|exact (z2 _ _ zsd zsd).b))|exact zsq|fail)
   all_goals exact hL2 _ (n + 1) (Qd [(0,0),(1,1),(2,2),(3,3),(4,14005)]) (by omega) (by omega) (by rw [hsc];exact Qh [(0,0),(1,1),(2,2),(3,3),(4,14005)] (by simp only [go_sem,zwl,iS,lF2]<;>exact zcc) (by simp only [go_sem,zwl,iS,lF2]<;>exact zcc) (by simp [iS,Qd]) (by simp [iS];omega) (by omega))
 ·rw [if_neg (by simpa using c5)] at hsc
  rcases dH with _|_
  ·replace gW:=gW rfl
   rcases dM with _|_
   ·replace mW:=mW rfl
    (have zx:=za e2 (za c4 (za c5 (za hal (za hw2 (za vr2 (za vf (za tH (za tF (za lH (za lF (za aF (za tP (za lP2 (za tM (za tQ (za lM lQ2)))))))))))))))));refine zgo ?_;repeat' first|exact zt|apply zan|intro hc
    all_goals exact hL2 _ (n + 1) (Qd [(0,0),(1,1),(2,24005),(3,40005),(4,14005)]) (by omega) (by omega) (by rw [hsc];exact Qh [(0,0),(1,1),(2,24005),(3,40005),(4,14005)] (by simp only [go_sem,zwl,iS,lF2]<;>exact zcc) (by simp only [go_sem,zwl,iS,lF2]<;>exact zcc) (by simp [iS,Qd]) (by simp [iS];omega) (by omega))
   ·replace mX:=mX rfl
    obtain rfl:=hQ rfl
    repeat' (first|(refine zsk ?_;intro K' hK)|(refine zrg ?_;intro K' hK)|refine zsp ?_|(refine zsc ?_ ?_<;>intro hc<;>first|exact znh|try simp only [znz] at hc)|simp (maxSteps:=1000000) only [go_sem,Jk,e2,c4,c5,hal,hw2,vr2,vf,tH,tF,lH,lF,aF,tP,lP2,tM,tQ,lM,lQ2,Int.toNat_natCast]|(refine hK _ ?_;clear hK K')|apply zan|(apply aaH;(focus exact rfl);(focus first|exact mX);(focus exact rfl);(focus exact rfl);(focus (first|exact rfl|(simp;done))))|(apply xu;(focus first|exact rfl|(simp only [upd,if_false, *];exact rfl));(focus first|exact rfl|decide|(simp [rA,rW];done)|(simp [rA,rW];omega)|omega);(focus first|exact rfl|decide|(simp [rA,rW];done)|(simp [rA,rW];omega)|omega);(focus first|exact mX);(focus exact rfl);(focus first|exact rfl|decide|(simp [rA,rW];done)|(simp [rA,rW];omega)|omega);(focus (first|exact rfl|(simp;done)));(focus exact rfl))|((first|apply wJ|apply j8);(focus first|exact gW))|((first|apply Qr|apply Qy);(focus first|exact (z1 _ zsd zsd zsd).b|exact (z2 _ _ zsd zsd).b))|exact zsq|fail)
    all_goals exact hL2 _ (n + 1) (Qd [(0,0),(1,1),(2,24005),(3,3),(4,14005)]) (by omega) (by omega) (by rw [hsc];exact Qh [(0,0),(1,1),(2,24005),(3,3),(4,14005)] (by simp only [go_sem,zwl,iS,lF2]<;>exact zcc) (by simp only [go_sem,zwl,iS,lF2]<;>exact zcc) (by simp [iS,Qd]) (by simp [iS];omega) (by omega))
  ·replace gX:=gX rfl
   obtain rfl:=hP rfl
   rcases dM with _|_
   ·replace mW:=mW rfl
    repeat' (first|(refine zsk ?_;intro K' hK)|(refine zrg ?_;intro K' hK)|refine zsp ?_|(refine zsc ?_ ?_<;>intro hc<;>first|exact znh|try simp only [znz] at hc)|simp (maxSteps:=1000000) only [go_sem,Jk,e2,c4,c5,hal,hw2,vr2,vf,tH,tF,lH,lF,aF,tP,lP2,tM,tQ,lM,lQ2,Int.toNat_natCast]|(refine hK _ ?_;clear hK K')|apply zan|(apply aaH;(focus exact rfl);(focus first|exact gX);(focus exact rfl);(focus exact rfl);(focus (first|exact rfl|(simp;done))))|(apply xu;(focus first|exact rfl|(simp only [upd,if_false, *];exact rfl));(focus first|exact rfl|decide|(simp [rA,rW];done)|(simp [rA,rW];omega)|omega);(focus first|exact rfl|decide|(simp [rA,rW];done)|(simp [rA,rW];omega)|omega);(focus first|exact gX);(focus exact rfl);(focus first|exact rfl|decide|(simp [rA,rW];done)|(simp [rA,rW];omega)|omega);(focus (first|exact rfl|(simp;done)));(focus exact rfl))|((first|apply wJ|apply j8);(focus first|exact mW))|((first|apply Qr|apply Qy);(focus first|exact (z1 _ zsd zsd zsd).b|exact (z2 _ _ zsd zsd).b))|exact zsq|fail)
    all_goals exact hL2 _ (n + 1) (Qd [(0,0),(1,1),(2,2),(3,40005),(4,14005)]) (by omega) (by omega) (by rw [hsc];exact Qh [(0,0),(1,1),(2,2),(3,40005),(4,14005)] (by simp only [go_sem,zwl,iS,lF2]<;>exact zcc) (by simp only [go_sem,zwl,iS,lF2]<;>exact zcc) (by simp [iS,Qd]) (by simp [iS];omega) (by omega))
   ·replace mX:=mX rfl
    obtain rfl:=hQ rfl
    repeat' (first|(refine zsk ?_;intro K' hK)|(refine zrg ?_;intro K' hK)|refine zsp ?_|(refine zsc ?_ ?_<;>intro hc<;>first|exact znh|try simp only [znz] at hc)|simp (maxSteps:=1000000) only [go_sem,Jk,e2,c4,c5,hal,hw2,vr2,vf,tH,tF,lH,lF,aF,tP,lP2,tM,tQ,lM,lQ2,Int.toNat_natCast]|(refine hK _ ?_;clear hK K')|apply zan|(apply aaH;(focus exact rfl);(focus first|exact gX|exact mX);(focus exact rfl);(focus exact rfl);(focus (first|exact rfl|(simp;done))))|(apply xu;(focus first|exact rfl|(simp only [upd,if_false, *];exact rfl));(focus first|exact rfl|decide|(simp [rA,rW];done)|(simp [rA,rW];omega)|omega);(focus first|exact rfl|decide|(simp [rA,rW];done)|(simp [rA,rW];omega)|omega);(focus first|exact gX|exact mX);(focus exact rfl);(focus first|exact rfl|decide|(simp [rA,rW];done)|(simp [rA,rW];omega)|omega);(focus (first|exact rfl|(simp;done)));(focus exact rfl))|((first|apply Qr|apply Qy);(focus first|exact (z1 _ zsd zsd zsd).b|exact (z2 _ _ zsd zsd).b))|exact zsq|fail)
    all_goals exact hL2 _ (n + 1) (Qd [(0,0),(1,1),(2,2),(3,3),(4,14005)]) (by omega) (by omega) (by rw [hsc];exact Qh [(0,0),(1,1),(2,2),(3,3),(4,14005)] (by simp only [go_sem,zwl,iS,lF2]<;>exact zcc) (by simp only [go_sem,zwl,iS,lF2]<;>exact zcc) (by simp [iS,Qd]) (by simp [iS];omega) (by omega))
structure Tot {α:Type} (lt:α→α→Bool):Prop where
 tr:∀ a b c,lt a b = true→lt b c = true→lt a c = true
 tt:∀ a b,lt a b = false→lt b a = false→a = b
theorem ake:Tot Op.bytesLess:=⟨VD,qB⟩
theorem akf:Tot ltJ:=⟨fun a b c h1 h2=>by simp only [ltJ,zy] at *;omega,fun a b h1 h2=>by simp only [ltJ,zA] at *;omega⟩
theorem jN {α:Type} {lt:α→α→Bool} {x:α}:∀ l:List α,(∀ (i:Nat) y,i < U7 lt l x→l[i]? = some y→lt y x = true)∧(∀ y,l[U7 lt l x]? = some y→lt y x = false)
 | []=>⟨fun i y h=>by simp [U7] at h,fun y h=>by simp at h⟩
 | a :: r=>by
   obtain ⟨h1,h2⟩:=jN (lt:=lt) (x:=x) r
   rw [U7]
   rcases ha:lt a x with _|_
   ·rw [if_neg (by simp)]
    exact ⟨fun i y h=>absurd h (kZ _),fun y h=>by simp at h;rw [← h];exact ha⟩
   ·rw [if_pos rfl]
    refine ⟨fun i y h hy=>?_,fun y hy=>h2 y (by simpa using hy)⟩
    cases i with
    | zero=>simp at hy;rw [← hy];exact ha
    | succ i=>exact h1 i y (by omega) (by simpa using hy)
theorem aja {α:Type} {lt:α→α→Bool} (T:Tot lt) {x:α} {l:List α} (hs:l.Pairwise fun a b=>lt a b = true) {i:Nat} {y:α} (hi:U7 lt l x≤i) (hy:l[i]? = some y):lt y x = false:=by
 obtain ⟨_,h2⟩:=jN (lt:=lt) (x:=x) l
 rcases kI (U7 lt l x) i with h|h
 ·rcases hb:lt y x with _|_
  ·rfl
  ·obtain ⟨hil,rfl⟩:=zn.1 hy
   have hp:l[U7 lt l x]? = some (l[U7 lt l x]'(by omega)):=zd (by omega)
   have h3:=T.tr _ _ _ (kj.1 hs _ _ (by omega) hil h) hb
   rw [h2 _ hp] at h3;cases h3
 ·exact h2 y (by rw [show U7 lt l x = i by omega];exact hy)
theorem aeZ {α:Type} {lt:α→α→Bool} {l:List α} {x:α} {p:Nat} (h1:∀ (i:Nat) y,i < p→l[i]? = some y→lt y x = true) (h2:∀ (i:Nat) y,p≤i→l[i]? = some y→lt y x = false):∀ (n i j:Nat),i≤p→p≤j→j≤l.length→j - i≤n→agS lt l x n i j = p
 | 0,i,j,a,b,c,d=>by rw [agS];omega
 | n + 1,i,j,a,b,c,d=>by
   rw [agS]
   by_cases hij:i < j
   ·rw [if_pos hij]
    have hg:l[(i + j) / 2]? = some (l[(i + j) / 2]'(by omega)):=zd (by omega)
    rw [hg]
    simp only
    rcases kI ((i + j) / 2) p with h|h
    ·rw [if_pos (h1 _ _ h hg)]
     exact aeZ h1 h2 n _ _ (by omega) b c (by omega)
    ·rw [if_neg (by rw [h2 _ _ h hg];decide)]
     exact aeZ h1 h2 n _ _ a h (by omega) (by omega)
   ·rw [if_neg hij];omega
theorem anj {α:Type} {lt:α→α→Bool} (T:Tot lt) {x:α} {l:List α} (hs:l.Pairwise fun a b=>lt a b = true):bsI lt l x = U7 lt l x :=
 aeZ (jN l).1 (fun i y hi hy=>aja T hs hi hy) _ _ _ (zG _) (ag8 l) (zh _) (by omega)
theorem afY {α:Type} [BEq α] {lt:α→α→Bool} (T:Tot lt) {x:α} {l:List α} (hs:l.Pairwise fun a b=>lt a b = true):aaU lt l x = xB lt l x:=by rw [aaU,xB,anj T hs]
theorem abJ {α:Type} [BEq α] [LawfulBEq α] {lt:α→α→Bool} (T:Tot lt) {x:α} {l:List α} (hs:l.Pairwise fun a b=>lt a b = true):(xB lt l x).Pairwise fun a b=>lt a b = true:=by
 unfold xB
 split
 ·exact hs
 ·rename_i hf
  have hlx:∀ a∈l.take (U7 lt l x),lt a x = true:=fun a ha=>by
   obtain ⟨i,hi,rfl⟩:=kx ha
   rw [zT] at hi
   rw [ZJ]
   exact (jN l).1 i _ (by omega) (zd (by omega))
  have hxl:∀ b∈l.drop (U7 lt l x),lt x b = true:=fun b hb=>by
   obtain ⟨i,hi,rfl⟩:=kx hb
   rw [kq] at hi
   rw [List.getElem_drop]
   have hp:l[U7 lt l x]? = some (l[U7 lt l x]'(by omega)):=zd (by omega)
   have h0:lt x (l[U7 lt l x]'(by omega)) = true:=by
    rcases h:lt x (l[U7 lt l x]'(by omega)) with _|_
    ·have:=T.tt _ _ h ((jN l).2 _ hp)
     rw [Jw,hp] at hf
     simp only [← this,beq_self_eq_true,not_true] at hf
    ·rfl
   rcases ZB i with h|h
   ·subst h;simpa using h0
   ·exact T.tr _ _ _ h0 (kj.1 hs _ _ (by omega) (by omega) (by omega))
  rw [kP]
  refine ⟨hs.sublist (Z6 _ _),ZD.2 ⟨hxl,hs.sublist (List.drop_sublist _ _)⟩,fun a ha b hb=>?_⟩
  rcases zC.1 hb with rfl|hb
  ·exact hlx a ha
  ·exact T.tr _ _ _ (hlx a ha) (hxl b hb)
def jL (l:List Qa) (p:List Nat) (i:Nat):Nat→QR
 | 0=>⟨i,[],[],[]⟩
 | n + 1=>match l[i + n]? with
   | some f=>if Qn p (i + n) = i then YW (i + n) f (jL l p i n) else jL l p i n
   | none=>jL l p i n
theorem afx (l:List Qa) (p:List Nat) (i:Nat):∀ n,(jL l p i n).num = i
 | 0=>rfl
 | n + 1=>by
   have:=afx l p i n
   rw [jL]
   split
   ·split
    ·exact this
    ·exact this
   ·exact this
theorem akn {l:List Qa} {p:List Nat} {rr:List Int} (hr:rr = (List.range l.length).map fun i=>((Qn p i:Nat):Int)) (i:Nat):∀ n,i + n≤l.length→Uh l rr i n = jL l p i n∧((jL l p i n).hosts.Pairwise fun a b=>Op.bytesLess a b = true)∧((jL l p i n).machs.Pairwise fun a b=>ltJ a b = true)
 | 0,_=>⟨rfl,List.Pairwise.nil,List.Pairwise.nil⟩
 | n + 1,h=>by
   obtain ⟨h1,h2,h3⟩:=akn hr i n (by omega)
   have hf:l[i + n]? = some (l[i + n]'(by omega)):=zd (by omega)
   generalize l[i + n]'(by omega) = f at hf
   have hrn:rr[i + n]? = some ((Qn p (i + n):Nat):Int):=by rw [hr,zi,List.getElem?_range (by omega)];rfl
   rw [Uh,jL,hf,hrn]
   simp only
   by_cases hc:Qn p (i + n) = i
   ·rw [if_pos hc,if_pos (by rw [hc]),h1]
    have a:=afY ake (x:=f.host) h2
    have b:=afY akf (x:=f.mach) h3
    have c:=abJ ake (x:=f.host) h2
    have d:=abJ akf (x:=f.mach) h3
    simp only [YW,QU,xn,a,b]
    refine ⟨trivial,c,?_⟩
    split
    ·exact h3
    ·exact d
   ·rw [if_neg hc,if_neg (by omega)]
    exact ⟨h1,h2,h3⟩
theorem acd (P:Nat→Bool) (k:Nat):(List.range (k + 1)).filter P = (List.range k).filter P++if P k = true then [k] else []:=by
 rw [ZG,ZY]
 congr 1
 simp only [List.filter_cons,List.filter_nil]
theorem aks {l:List Qa} {p:List Nat} {rr:List Int} (hr:rr = (List.range l.length).map fun i=>((Qn p i:Nat):Int)):∀ k,k≤l.length→abE l rr k = ((List.range k).filter fun i=>decide (Qn p i = i)).map fun i=>jL l p i (l.length - i)
 | 0,_=>rfl
 | k + 1,h=>by
   have hrk:rr[k]? = some ((Qn p k:Nat):Int):=by rw [hr,zi,List.getElem?_range (by omega)];rfl
   have ih:=aks hr k (Nat.le_of_succ_le h)
   rw [abE,hrk,acd,ih]
   simp only
   by_cases hc:Qn p k = k
   ·rw [if_pos (by rw [hc]),if_pos (by simpa using hc),kz,(akn hr k (l.length - k) (by rw [Nat.add_sub_cancel' (Nat.le_of_succ_le h)];exact zh _)).1];rfl
   ·rw [if_neg (show ¬ ((Qn p k:Nat):Int) = (k:Int) by omega),if_neg (by simpa using hc),km]
theorem yo {l:List Qa} {p:List Nat} {i k:Nat} {f:Qa} (hi:i≤k) (hf:l[k]? = some f):jL l p i (k + 1 - i) = if Qn p k = i then YW k f (jL l p i (k - i)) else jL l p i (k - i):=by
 rw [show k + 1 - i = (k - i) + 1 by omega,jL,show i + (k - i) = k by omega,hf]
theorem agi {l:List Qa} {p:List Nat} (hp:PW p):∀ k,k≤l.length→Yl l p k = ((List.range k).filter fun i=>decide (Qn p i = i)).map fun i=>jL l p i (k - i)
 | 0,_=>rfl
 | k + 1,h=>by
   have ih:=agi (l:=l) hp k (by omega)
   have hE:=qG (l:=l) hp k (by omega)
   have hf:l[k]? = some (l[k]'(by omega)):=zd (by omega)
   generalize l[k]'(by omega) = f at hf
   have hnum:(Yl l p k).map QR.num = (List.range k).filter fun i=>decide (Qn p i = i):=by
    rw [ih,List.map_map]
    have:(QR.num ∘ fun i=>jL l p i (k - i)) = id:=by funext i;exact afx l p i (k - i)
    rw [this,List.map_id]
   have hmem:∀ i∈(List.range k).filter fun i=>decide (Qn p i = i),i < k∧Qn p i = i:=fun i hi=>by simpa using hi
   have hnd:((List.range k).filter fun i=>decide (Qn p i = i)).Nodup:=List.nodup_range.filter _
   rw [acy hf,aeR,acd]
   by_cases hc:Qn p k = k
   ·rw [if_pos hc,if_pos (by simpa using hc),kz,ih]
    congr 1
    ·refine kW fun i hi=>?_
     have:=hmem i hi
     rw [yo (by omega) hf,if_neg (by omega)]
    ·simp only [zN,zL,kw,and_true]
     rw [yo (zh _) hf,if_pos hc,kD];rfl
   ·rw [if_neg hc,if_neg (by simpa using hc),km]
    have hle:=KL hp k
    obtain ⟨a,ha⟩:=hE.has (Qn p k) (by omega) (U5 hp k)
    obtain ⟨_,_,ha3⟩:=ahp ha
    rw [hnum,Nat.sub_zero] at ha3
    rw [ha]
    simp only
    have hea:(Yl l p k)[a]? = some (jL l p (Qn p k) (k - Qn p k)):=by rw [ih,zi,ha3];rfl
    rw [hea]
    simp only
    rw [ih]
    apply Zw
    intro b
    obtain ⟨hal,hav⟩:=zn.1 ha3
    rw [ke,zi,zb]
    by_cases hab:a = b
    ·subst hab
     rw [if_pos rfl,if_pos hal,zi,ha3]
     simp only [Option.map_some]
     rw [yo hle hf,if_pos rfl]
    ·rw [if_neg hab,zi]
     rcases hb:((List.range k).filter fun i=>decide (Qn p i = i))[b]? with _|i
     ·rfl
     ·simp only [Option.map_some,zf]
      have hi:=hmem i (zq hb)
      obtain ⟨hbl,hbv⟩:=zn.1 hb
      have hne:Qn p k≠i:=fun e=>by
       rcases Zk a b with q|q|q
       ·exact kj.1 hnd a b hal hbl q (by rw [hav,hbv,e])
       ·exact hab q
       ·exact kj.1 hnd b a hbl hal q (by rw [hav,hbv,e])
      rw [yo (by omega) hf,if_neg hne]
theorem akt {l:List Qa} {gap:Int} (hn:YL l = true):abE l (J5 l gap l.length) l.length = JJ l gap:=by
 rw [JJ,agi (xR l gap) _ (zh _),aks (amf hn) _ (zh _)]
theorem am6 {l:List Qa} {gap:Int}:alB l gap = am5 l gap:=by
 unfold alB am5 J0
 rcases hb:YL l with _|_
 ·rfl
 ·by_cases hg:gap < 0∨gap > 4000
  ·simp only [if_true,if_pos hg];rfl
  ·simp only [if_true,if_neg hg,akt hb]
end Av
end
