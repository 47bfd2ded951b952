/- W32 -/
import Derived.Test.YtlpaikjhphkioaaGreatW31
import Derived.Test.YtlpaikjhphkioaaGreatW12
import Derived.Test.YtlpaikjhphkioaaGreatW27
import Derived.Test.YtlpaikjhphkioaaGreatW29
import Derived.Test.YtlpaikjhphkioaaGreatW28
set_option linter.unusedVariables false
set_option linter.unusedSimpArgs false
noncomputable section
set_option maxRecDepth 10000
set_option maxHeartbeats 4000000
namespace Av
open Go
attribute [local irreducible] AWp Vy K7 jE awS awC aaG awQ abg QW Uc vZ awR Uj awB okR jt ris
def unP (p:PPl):Qa:=⟨0,[],0,0,0,p.kind,p.subj,p.alg,p.bits,p.num,p.text⟩
theorem anL (f:Qa):agQ f = unP (JB f):=by
 unfold agQ JB
 split
 ·rfl
 split
 ·rfl
 split<;>rfl
theorem aod {p q:PPl} (h:unP p = unP q):p = q:=by
 obtain ⟨a1,a2,a3,a4,a5,a6⟩:=p
 obtain ⟨b1,b2,b3,b4,b5,b6⟩:=q
 simp only [unP,Qa.mk.injEq] at h
 simp only [PPl.mk.injEq]
 obtain ⟨-,-,-,-,-,h1,h2,h3,h4,h5,h6⟩:=h
 exact ⟨h2,h6,h1,h5,h3,h4⟩
theorem akz {f g:Qa}:agQ f = agQ g↔JB f = JB g:=by
 rw [anL,anL]
 exact ⟨aod,fun h=>by rw [h]⟩
theorem agB {a b:Nat} {f g:Qa} (h:ahN a b f g = true):ahN b a g f = false:=by
 unfold ahN at *
 by_cases h1:f.day = g.day
 ·by_cases h2:f.conf = g.conf
  ·simp only [h1,h2,ne_eq,not_true_eq_false,if_false,zy,zA] at *;omega
  ·simp only [h1,h2,Ne.symm h2,ne_eq,not_true_eq_false,not_false_eq_true,if_false,if_true,zy,zA] at *;omega
 ·simp only [h1,Ne.symm h1,ne_eq,not_false_eq_true,if_true,zy,zA] at *;omega
theorem alQ {a b:Nat} {f g:Qa} (h:aj8 f g = true):ahN a b f g = true:=by
 unfold aj8 at h
 unfold ahN
 simp only [kG,zw,zy,kF] at h
 split
 ·exact zo (by omega)
 ·rw [if_pos (by omega)];exact zo (by omega)
theorem ajq {a b:Nat} {f g:Qa} (hab:b < a) (h:aj8 f g = false):ahN b a g f = true:=by
 unfold aj8 at h
 unfold ahN
 simp only [kS,Zu,zA,kE] at h
 obtain ⟨h1,h2⟩:=h
 split
 ·exact zo (by omega)
 ·rename_i h3
  split
  ·refine zo ?_
   rcases h2 with h2|h2<;>omega
  ·exact zo hab
theorem ajV {a b c:Nat} {f g k:Qa} (h:aj8 f g = true) (h2:ahN b c g k = true):ahN a c f k = true:=by
 unfold aj8 at h
 simp only [kG,zw,zy,kF] at h
 unfold ahN at h2 ⊢
 split at h2
 ·simp only [zy] at h2
  rw [if_pos (by omega)];exact zo (by omega)
 ·rename_i h3
  simp only [ne_eq,Decidable.not_not] at h3
  split at h2
  ·simp only [zy] at h2
   by_cases h4:f.day = k.day
   ·rw [if_neg (by simpa using h4),if_pos (by omega)];exact zo (by omega)
   ·rw [if_pos h4];exact zo (by omega)
  ·rename_i h5
   simp only [ne_eq,Decidable.not_not] at h5
   by_cases h4:f.day = k.day
   ·rw [if_neg (by simpa using h4),if_pos (by omega)];exact zo (by omega)
   ·rw [if_pos h4];exact zo (by omega)
structure apq (l:List Qa) (day age:Int) (m:PM) (fs:List Nat):Prop where
 cov:∀ b∈fs,∀ g,l[b]? = some g→aj3 day age g = true→JB g∈m.1
 opt:∀ (a i:Nat),m.2[a]? = some i→i∈fs∧∃ f,l[i]? = some f∧aj3 day age f = true∧m.1[a]? = some (JB f)∧∀ b∈fs,∀ g,l[b]? = some g→aj3 day age g = true→JB g = JB f→b = i∨ahN i b f g = true
theorem apq.nil (l:List Qa) (day age:Int):apq l day age ([],[]) []:=⟨fun b hb=>(by cases hb),fun a i h=>by simp at h⟩
theorem aef {day age:Int} {f:Qa}:aj3 day age f = true↔¬(f.day > day∨f.day < day - age):=by
 unfold aj3
 simp only [zw,zy]
 omega
theorem apq.step {l:List Qa} {day age:Int} {m:PM} {fs:List Nat} {i n:Nat} (h:apq l day age m fs) (ho:adB l m n) (hi:i < l.length) (hlt:∀ b∈fs,b < i):apq l day age (ao1 l day age m i) (fs++[i]):=by
 obtain ⟨ks,vs⟩:=m
 obtain ⟨f,hf⟩:∃ f,l[i]? = some f:=⟨_,zd hi⟩
 have hlen:ks.length = vs.length:=ho.len
 have hnd:ks.Nodup:=ho.nd
 rw [ao1,hf]
 dsimp only
 split
 ·rename_i hw
  have hnw:¬aj3 day age f = true:=fun hx=>aef.1 hx hw
  have hex:∀ b∈fs++[i],∀ g,l[b]? = some g→aj3 day age g = true→b∈fs:=fun b hb g hg hx=>by
   rcases zY.1 hb with h1|h1
   ·exact h1
   ·rw [zu.1 h1,hf] at hg;cases hg;exact absurd hx hnw
  refine ⟨fun b hb g hg hx=>h.cov b (hex b hb g hg hx) g hg hx,fun a j hj=>?_⟩
  obtain ⟨o1,f',o2,o3,o4,o5⟩:=h.opt a j hj
  exact ⟨kT _ o1,f',o2,o3,o4,fun b hb g hg hx he=>o5 b (hex b hb g hg hx) g hg hx he⟩
 ·rename_i hw
  have hwf:aj3 day age f = true:=aef.2 hw
  rcases hx:aj6 (JB f) ks 0 with _|a
  ·have hn:=ab4 hx
   dsimp only
   refine ⟨fun b hb g hg hx=>?_,fun a j hj=>?_⟩
   ·rcases zY.1 hb with h1|h1
    ·exact kT _ (h.cov b h1 g hg hx)
    ·rw [zu.1 h1,hf] at hg;cases hg
     exact Zd _ (zu.2 rfl)
   ·rcases Zk a vs.length with ha|ha|ha
    ·dsimp only at hj ⊢
     rw [ka ha] at hj
     obtain ⟨o1,f',o2,o3,o4,o5⟩:=h.opt a j hj
     refine ⟨kT _ o1,f',o2,o3,by rw [ka (by omega)];exact o4,fun b hb g hg hx he=>?_⟩
     rcases zY.1 hb with h1|h1
     ·exact o5 b h1 g hg hx he
     ·rw [zu.1 h1,hf] at hg;cases hg
      exact absurd (by rw [he];exact zq o4) hn
    ·subst ha
     dsimp only at hj ⊢
     rw [Zm] at hj
     cases hj
     refine ⟨Zd _ (zu.2 rfl),f,hf,hwf,by rw [← hlen,Zm],fun b hb g hg hx he=>?_⟩
     rcases zY.1 hb with h1|h1
     ·exact absurd (by rw [← he];exact h.cov b h1 g hg hx) hn
     ·exact .inl (zu.1 h1)
    ·dsimp only at hj
     rw [zW (by simp;omega)] at hj;cases hj
  ·obtain ⟨a1,a2,a3⟩:=xT hx
   rw [Nat.sub_zero] at a3
   obtain ⟨j,hj⟩:∃ j,vs[a]? = some j:=⟨_,zd (by omega)⟩
   obtain ⟨o1,f',o2,o3,o4,o5⟩:=h.opt a j hj
   have hpl:JB f' = JB f:=by dsimp only at o4;rw [a3] at o4;exact (ZU o4).symm
   have hgd:vs.getD a 0 = j:=by rw [zK,hj];rfl
   dsimp only
   rw [hgd,o2]
   dsimp only
   have huniq:∀ c,ks[c]? = some (JB f)→c = a:=fun c hc=>by
    have l1:=(zn.1 hc).1
    rw [← a3] at hc
    exact (Z8 l1 hnd).1 hc
   have hcv:∀ b∈fs++[i],∀ g,l[b]? = some g→aj3 day age g = true→JB g∈ks:=fun b hb g hg hx=>by
    rcases zY.1 hb with h1|h1
    ·exact h.cov b h1 g hg hx
    ·rw [zu.1 h1,hf] at hg;cases hg
     exact zq a3
   rcases hbt:aj8 f f' with _|_
   ·rw [if_neg (by decide)]
    refine ⟨hcv,fun c q hq=>?_⟩
    obtain ⟨q1,g',q2,q3,q4,q5⟩:=h.opt c q hq
    refine ⟨kT _ q1,g',q2,q3,q4,fun b hb g hg hx he=>?_⟩
    rcases zY.1 hb with h1|h1
    ·exact q5 b h1 g hg hx he
    ·have hbi:=zu.1 h1
     subst hbi
     rw [hf] at hg;cases hg
     have hca:c = a:=huniq c (by rw [he];exact q4)
     subst hca
     rw [hj] at hq;cases hq
     rw [o2] at q2;cases q2
     exact .inr (ajq (hlt j o1) hbt)
   ·rw [if_pos rfl]
    refine ⟨hcv,fun c q hq=>?_⟩
    dsimp only at hq ⊢
    by_cases hca:c = a
    ·subst hca
     rw [ZE (by omega)] at hq
     cases hq
     refine ⟨Zd _ (zu.2 rfl),f,hf,hwf,a3,fun b hb g hg hx he=>?_⟩
     rcases zY.1 hb with h1|h1
     ·rcases o5 b h1 g hg hx (by rw [he,hpl]) with h2|h2
      ·subst h2
       rw [o2] at hg;cases hg
       exact .inr (alQ hbt)
      ·exact .inr (ajV hbt h2)
     ·exact .inl (zu.1 h1)
    ·rw [List.getElem?_set_ne (Ne.symm hca)] at hq
     obtain ⟨q1,g',q2,q3,q4,q5⟩:=h.opt c q hq
     refine ⟨kT _ q1,g',q2,q3,q4,fun b hb g hg hx he=>?_⟩
     rcases zY.1 hb with h1|h1
     ·exact q5 b h1 g hg hx he
     ·rw [zu.1 h1,hf] at hg;cases hg
      exact absurd (huniq c (by rw [he];exact q4)) hca
theorem agr {l:List Qa} {day age:Int} {fs:List Nat} (ha:fs.Pairwise (· < ·)) (hb:∀ i∈fs,i < l.length):∀ k,k≤fs.length→apq l day age (ac3 l day age (fs.take k)) (fs.take k)
 | 0,_=>by rw [List.take_zero];exact apq.nil l day age
 | k + 1,hk=>by
   have hget:fs[k]? = some (fs[k]'hk):=zd hk
   have ih:=agr (day:=day) (age:=age) ha hb k (by omega)
   rw [agq hget,zR,hget,Option.toList_some]
   refine ih.step (vW l day age fs k (by omega)) (hb _ (zZ hk)) fun b hbm=>?_
   obtain ⟨j,hj,rfl⟩:=kx hbm
   rw [zT] at hj
   rw [ZJ]
   exact kj.1 ha j k (by omega) hk (by omega)
def aev (l:List Qa) (day age:Int) (fs:List Nat) (a:Nat):Bool:=match l[a]? with
 | some f=>!(decide (f.day > day) || (decide (f.day < day - age) || f.kind == 8)) && !(fs.any (yL l day age a f))
 | none=>false
theorem alp (out:List Qe) (x:Qe):amQ out x = afl ac8 out x:=by
 have hk:∀ k,aky out x k = gK ac8 out x k:=fun k=>by
  induction k with
  | zero=>rfl
  | succ k ih =>
    rw [aky,gK]
    rcases out[k]? with _|y
    ·rfl
    ·dsimp only
     rw [ih]
 rw [amQ,afl,hk];simp
theorem ai1 (l:List Qa) (num day age:Int) (fs:List Nat) (out:List Qe) (a:Nat):afs l num day age fs out a = match (if aev l day age fs a = true then UD l num a else none) with|some x=>afl ac8 out x|none=>out:=by
 unfold afs aev UD
 rcases l[a]? with _|f
 ·rfl
 dsimp only
 by_cases c1:(decide (f.day > day) || (decide (f.day < day - age) || f.kind == 8)) = true
 ·have e:(!(decide (f.day > day) || (decide (f.day < day - age) || f.kind == 8)) && !(fs.any (yL l day age a f))) = false:=by rw [c1];rfl
  rw [if_pos c1,if_neg (by rw [e];decide)]
 ·have c1':=Bool.eq_false_iff.2 c1
  rw [if_neg c1]
  by_cases c2:fs.any (yL l day age a f) = true
  ·have e:(!(decide (f.day > day) || (decide (f.day < day - age) || f.kind == 8)) && !(fs.any (yL l day age a f))) = false:=by rw [c1',c2];rfl
   rw [if_pos c2,if_neg (by rw [e];decide)]
  ·have c2':=Bool.eq_false_iff.2 c2
   have e:(!(decide (f.day > day) || (decide (f.day < day - age) || f.kind == 8)) && !(fs.any (yL l day age a f))) = true:=by rw [c1',c2'];rfl
   simp only [kS,kE] at c1'
   rw [if_neg c2,if_pos e,if_neg c1'.2.2,alp]
theorem af6 {l:List Qa} {num day age:Int} {fs:List Nat}:∀ (is:List Nat) (out:List Qe),is.foldl (afs l num day age fs) out = (is.filterMap fun a=>if aev l day age fs a = true then UD l num a else none).foldl (afl ac8) out
 | [],out=>rfl
 | a :: r,out=>by
   rw [List.foldl_cons,af6 r,ai1,List.filterMap_cons]
   rcases (if aev l day age fs a = true then UD l num a else none) with _|x<;>rfl
theorem aga (l:List Qa) (num day age:Int) (fs:List Nat):XO l num fs day age fs.length = jF ac8 ((fs.filter (aev l day age fs)).filterMap (UD l num)):=by
 rw [XO,zQ,af6,jF,List.filterMap_filter]
def apO (l:List Qa) (i:Nat):Bool:=match l[i]? with
 | some f=>f.kind != 8
 | none=>false
theorem aoG (l:List Qa) (num:Int) (vs:List Nat):vs.filterMap (UD l num) = (vs.filter (apO l)).filterMap (UD l num):=by
 rw [List.filterMap_filter]
 congr 1
 funext i
 unfold UD apO
 rcases l[i]? with _|f
 ·rfl
 dsimp only
 by_cases h:f.kind = 8
 ·rw [if_pos h];split<;>rfl
 ·rw [if_neg h,if_pos (by simpa using h)]
theorem alD {l:List Qa} {m:PM} {n:Nat} (h:adB l m n):m.2.Nodup:=by
 rw [List.nodup_iff_pairwise_ne,kj]
 intro i j hi hj hij he
 obtain ⟨f,f1,f2⟩:=h.pt i _ (zd hi)
 obtain ⟨g,g1,g2⟩:=h.pt j _ (zd hj)
 rw [he] at f1
 rw [f1] at g1;cases g1
 have l1:=(zn.1 f2).1
 rw [← g2] at f2
 have:=(Z8 l1 h.nd).1 f2
 omega
theorem anb {l:List Qa} {day age:Int} {fs:List Nat} (ha:fs.Pairwise (· < ·)) (hb:∀ i∈fs,i < l.length):(fs.filter (aev l day age fs)).Perm ((ac3 l day age fs).2.filter (apO l)):=by
 have hok:=vW l day age fs fs.length (zh _)
 have hbe:=agr (day:=day) (age:=age) ha hb fs.length (zh _)
 rw [zQ] at hok hbe
 have hfn:fs.Nodup:=ha.imp fun h=>Nat.ne_of_lt h
 rw [List.perm_ext_iff_of_nodup (hfn.filter _) ((alD hok).filter _)]
 intro i
 rw [ZV,ZV]
 constructor
 ·rintro ⟨hi,hk⟩
  unfold aev at hk
  rcases hf:l[i]? with _|f
  ·rw [hf] at hk;cases hk
  rw [hf] at hk
  simp only [zw,Zx,kS,zA,kE] at hk
  obtain ⟨⟨k1,k2,k3⟩,k4⟩:=hk
  have hw:aj3 day age f = true:=aef.2 (by omega)
  obtain ⟨a,ha2,hpa⟩:=kx (hbe.cov i hi f hf hw)
  obtain ⟨j,hj⟩:∃ j,(ac3 l day age fs).2[a]? = some j:=⟨_,zd (by have:=hok.len;omega)⟩
  obtain ⟨o1,f',o2,o3,o4,o5⟩:=hbe.opt a j hj
  have hpl:JB f' = JB f:=by
   rw [zd ha2,hpa] at o4
   exact (ZU o4).symm
  rcases o5 i hi f hf hw hpl.symm with h1|h1
  ·subst h1
   refine ⟨zq hj,?_⟩
   unfold apO
   rw [hf]
   simpa using k3
  ·exfalso
   have:fs.any (yL l day age i f) = true:=Zp.2 ⟨j,o1,by
    unfold yL
    rw [o2]
    simp only [o3,zH,zw,zy]
    exact ⟨akz.2 hpl,h1⟩⟩
   rw [this] at k4;cases k4
 ·rintro ⟨hi,hk⟩
  obtain ⟨a,ha2,hpa⟩:=kx hi
  obtain ⟨o1,f,o2,o3,o4,o5⟩:=hbe.opt a i (by rw [zd ha2,hpa])
  refine ⟨o1,?_⟩
  unfold apO at hk
  unfold aev
  rw [o2] at hk ⊢
  have hw:=aef.1 o3
  simp only [zw,Zx,kS,zA,kE]
  refine ⟨⟨by omega,by omega,by simpa using hk⟩,?_⟩
  rw [List.any_eq_false]
  intro b hbm hbt
  unfold yL at hbt
  rcases hg:l[b]? with _|g
  ·rw [hg] at hbt;cases hbt
  rw [hg] at hbt
  simp only [zw,zy] at hbt
  obtain ⟨t1,t2,t3⟩:=hbt
  rcases o5 b hbm g hg t1 (akz.1 t2) with h1|h1
  ·subst h1
   rw [o2] at hg;cases hg
   have:=agB t3
   rw [t3] at this;cases this
  ·have:=agB h1
   rw [t3] at this;cases this
theorem alt {l:List Qa} {num day age:Int} {fs:List Nat} (ha:fs.Pairwise (· < ·)) (hb:∀ i∈fs,i < l.length):XO l num fs day age fs.length = Y8 l num fs day age:=by
 have hok:=vW l day age fs fs.length (zh _)
 rw [zQ] at hok
 have hp:=anb (day:=day) (age:=age) ha hb
 rw [aga,Y8,aoG l num (ac3 l day age fs).2]
 refine afu (hp.filterMap _) fun a ha2 b hb2 h0=>?_
 obtain ⟨h1,h2,h3,h4,h5,h6⟩:=adO h0
 have key:∀ c,c∈(fs.filter (aev l day age fs)).filterMap (UD l num)→∃ (p i:Nat) (f:Qa),(ac3 l day age fs).2[p]? = some i∧l[i]? = some f∧c = JC num i f:=fun c hc=>by
  rw [ZX] at hc
  obtain ⟨i,hi,hc⟩:=hc
  rw [hp.mem_iff,ZV] at hi
  obtain ⟨p,hp1,hp2⟩:=kx hi.1
  rw [UD] at hc
  rcases hf:l[i]? with _|f
  ·rw [hf] at hc;cases hc
  ·rw [hf] at hc
   dsimp only at hc
   split at hc
   ·cases hc
   ·exact ⟨p,i,f,by rw [zd hp1,hp2],hf,(ZU hc).symm⟩
 obtain ⟨p,i,f,p1,p2,rfl⟩:=key a ha2
 obtain ⟨q,j,g,q1,q2,rfl⟩:=key b hb2
 simp only [JC] at h1 h2 h3 h4 h5 h6
 obtain ⟨f',r1,r2⟩:=hok.pt p i p1
 obtain ⟨g',s1,s2⟩:=hok.pt q j q1
 rw [p2] at r1;cases r1
 rw [q2] at s1;cases s1
 have hpl:JB f = JB g:=by
  simp only [JB]
  rw [h1,h2,h3,h4,h5,h6]
 have hpq:p = q:=by
  have l1:=(zn.1 r2).1
  rw [hpl,← s2] at r2
  exact (Z8 l1 hok.nd).1 r2
 subst hpq
 rw [p1] at q1;cases q1
 rw [p2] at q2;cases q2
 rfl
def wkB (rs:List Qj) (ks:List QS) (pu day:Int) (f:Qe):Bool:=f.kind == 1 && (decide (XP rs ks f.alg f.bits pu day = 0) && !qK rs f.alg f.bits pu day)
def yP (l:List Qa) (gap day age:Int) (rs:List Qj) (ks:List QS) (pu:Int):List Qe:=(Q5 l gap day age).flatten.filter (wkB rs ks pu day)
def aiZ (l:List Qa) (gap day age:Int) (rs:List Qj) (ks:List QS) (pu:Int):V :=
 if Yk l gap day age = 0 then (if J9 rs ks = 0 then (if pu < 1∨pu > 4 then .tup [.sl 8 [],V.int 2] else .tup [.sl 8 ((yP l gap day age rs ks pu).map Qe.v),V.int 0]) else .tup [.sl 8 [],V.int (J9 rs ks)]) else .tup [.sl 8 [],V.int (Yk l gap day age)]
theorem alq {α:Type} {b:Nat}:∀ {ls:List (List α)},(∀ x∈ls,x.length≤b)→ls.flatten.length≤ls.length * b
 | [],_=>by simp
 | x :: r,h=>by
   have h1:=h x kQ
   have h2:=alq (ls:=r) fun y hy=>h y (kR _ hy)
   rw [List.flatten_cons,zv,List.length_cons,kc];omega
theorem yY (l:List Qa) (gap day age:Int):(Q5 l gap day age).flatten.length≤l.length * l.length:=by
 have h1:∀ x∈Q5 l gap day age,x.length≤l.length:=by
  intro x hx
  rw [Q5,zD] at hx
  obtain ⟨e,he,rfl⟩:=hx
  exact Zf (vM l e.num e.finds day age) (acx he).2.2.1
 refine Zf (alq h1) (zV _ ?_)
 rw [Q5,zb];exact wD l gap
def wkS (day pu:Int) (rs:List Qj) (ks:List QS) (fl out:List Qe) (k:Nat):St:=Jk [(2,V.int day),(5,V.int pu),(10,.ptr 0 0),(18,.hd 1 0 out.length),(48,.hd 2 0 fl.length),(49,V.int fl.length),(50,V.int k)] [(0,.box true [.sl 6 (rs.map Qj.v),.sl 2 (ks.map QS.v)]),(1,.buf true 8 (out.map Qe.v)),(2,.buf true 8 (fl.map Qe.v))] 3
def W1:=qd Proofs.Tryz.f14 []
def Wc (Γ:Env) (f:Nat):Prop:=∀ (l:List Qa) (gap day age:Int) (rs:List Qj) (ks:List QS) (pu:Int) (hl:l.length < 2 ^ 30) (hz:∀ x∈l,x.Sz) (hr:rs.length < 2 ^ 40) (hk2:ks.length < 2 ^ 40),EvC Γ f [.sl 11 (l.map Qa.v),V.int gap,V.int day,V.int age,ajb rs ks,V.int pu] (aiZ l gap day age rs ks pu)
theorem aa9 {Γ:Env} {f:Nat} (h:Has Γ.P f 81 W1.1.1.ac W1.1.2) (z0:XM Γ 29) (z1:U0 Γ 30) (z2:Jj Γ 31) (z3:Vc Γ 32):Wc Γ f:=by
 intro l gap day age rs ks pu hl hz hr hk2
 refine Jt h zsi (by unfold aiZ;(repeat' split)<;>simp only [V.closed,Qc,and_self]) fun C hC hm=>?_
 subst hC
 simp only [W1,qd,DC.ac]
 have g0:=(z0 l gap day age hl hz).b
 have g1:=(z1 rs ks hr hk2).b
 by_cases hE:Yk l gap day age = 0
 rotate_left
 ·rw [aiZ,if_neg hE]
  rw [xZ,if_neg hE] at g0
  have e01:(Yk l gap day age != 0) = true:=by simpa using hE
  generalize Yk l gap day age = er at *
  repeat' (first|(refine zsk ?_;intro K' hK)|refine zsp ?_|(refine zsc ?_ ?_<;>intro hc<;>first|exact znh|try simp only [znz] at hc)|simp (maxSteps:=1000000) only [go_sem,e01]|(refine hK _ ?_;clear hK K')|apply zan|(apply Qr;(focus first|exact g0))|exact zsq|fail)
  all_goals exact zr
 rw [aiZ,if_pos hE]
 rw [xZ,if_pos hE] at g0
 have e00:((0:Int) != 0) = false:=by decide
 by_cases hC0:J9 rs ks = 0
 rotate_left
 ·rw [if_neg hC0]
  have e01:(J9 rs ks != 0) = true:=by simpa using hC0
  generalize J9 rs ks = er at *
  repeat' (first|(refine zsk ?_;intro K' hK)|refine zsp ?_|(refine zsc ?_ ?_<;>intro hc<;>first|exact znh|try simp only [znz] at hc)|simp (maxSteps:=1000000) only [go_sem,e00,e01]|(refine hK _ ?_;clear hK K')|apply zan|(apply Qr;(focus first|exact g0|exact g1))|exact zsq|fail)
  all_goals exact zr
 rw [if_pos hC0]
 rw [hC0] at g1
 by_cases hp1:pu < 1
 ·rw [if_pos (.inl hp1)]
  have e1:decide (pu < 1) = true:=zo hp1
  repeat' (first|(refine zsk ?_;intro K' hK)|refine zsp ?_|(refine zsc ?_ ?_<;>intro hc<;>first|exact znh|try simp only [znz] at hc)|simp (maxSteps:=1000000) only [go_sem,e00,e1]|(refine hK _ ?_;clear hK K')|apply zan|(apply Qr;(focus first|exact g0|exact g1))|exact zsq|fail)
  all_goals exact zr
 by_cases hp2:pu > 4
 ·rw [if_pos (.inr hp2)]
  have e1:decide (pu < 1) = false:=zp hp1
  have e2:decide (pu > 4) = true:=zo hp2
  repeat' (first|(refine zsk ?_;intro K' hK)|refine zsp ?_|(refine zsc ?_ ?_<;>intro hc<;>first|exact znh|try simp only [znz] at hc)|simp (maxSteps:=1000000) only [go_sem,e00,e1,e2]|(refine hK _ ?_;clear hK K')|apply zan|(apply Qr;(focus first|exact g0|exact g1))|exact zsq|fail)
  all_goals exact zr
 rw [if_neg (by omega)]
 have e1:decide (pu < 1) = false:=zp hp1
 have e2:decide (pu > 4) = false:=zp hp2
 have hfl:=yY l gap day age
 have hl4:l.length≤400:=by
  have:=(vG.1 hE).nm
  simp only [YL,zw,zy] at this
  omega
 have hsq:l.length * l.length≤160000:=Nat.mul_le_mul hl4 hl4
 have hll:(Q5 l gap day age).length≤l.length:=by rw [Q5,zb];exact wD l gap
 have gC:=z2 (Q5 l gap day age) (by omega) (by omega)
 rw [yP]
 have hfm:((Q5 l gap day age).flatten.map Qe.v).length = (Q5 l gap day age).flatten.length:=zb _
 generalize hfd:(Q5 l gap day age).flatten = fl at *
 repeat' (first|(refine zsk ?_;intro K' hK)|refine zsp ?_|(refine zsc ?_ ?_<;>intro hc<;>first|exact znh|try simp only [znz] at hc)|simp (maxSteps:=1000000) only [go_sem,e00,e1,e2,hfm]|(refine hK _ ?_;clear hK K')|apply zan|(apply wJ;(focus first|exact gC))|(apply Qr;(focus first|exact g0|exact g1))|exact zsq|fail)
 refine Qp (ι:=Nat) (fun k=>k≤fl.length) (fun k=>wkS day pu rs ks fl ((fl.take k).filter (wkB rs ks pu day)) k) (fun k=>fl.length - k) 0 (zG _) (Qd [(1,28000),(2,30000)]) (Qh [(1,28000),(2,30000)] (by simp only [go_sem,zwl,wkS,List.take_zero,List.filter_nil,List.length_nil,hfm]<;>exact zcc) (by simp only [go_sem,zwl,wkS,List.take_zero,List.filter_nil,zL]<;>exact zcc) (by simp [wkS,Qd]) (by simp [wkS];omega) (by omega)) fun k hk K' hL=>?_
 have hol:=Zb (wkB rs ks pu day) (fl.take k)
 rw [zT,kJ hk] at hol
 rcases hdr:fl.drop k with _|⟨f,r⟩
 ·have hkl:=Qt hdr
  have e3:decide ((k:Int) < (fl.length:Int)) = false:=by simp;omega
  obtain rfl:k = fl.length:=by omega
  simp only [wkS,zQ]
  generalize fl.filter (wkB rs ks pu day) = out
  have htl:List.take out.length (out.map Qe.v) = out.map Qe.v:=zl (by simp)
  repeat' (first|(refine zsk ?_;intro K' hK)|refine zsp ?_|(refine zsc ?_ ?_<;>intro hc<;>first|exact znh|try simp only [znz] at hc)|simp (maxSteps:=1000000) only [go_sem,Jk,e3,htl]|(refine hK _ ?_;clear hK K')|apply zan|exact zsq|fail)
  all_goals first|exact zr|(refine Ql _ rfl ?_;simp only [go_sem];simp [zl];done)
 obtain ⟨hk',hget,hrr⟩:=Qm hdr
 have hw:=Qg (k:=k) (by omega)
 have e3:decide ((k:Int) < (fl.length:Int)) = true:=by simp;omega
 have vf:(fl.map Qe.v)[k]? = some f.v:=by rw [zi,hget];rfl
 have pA:=(z3 rs ks f.alg f.bits pu day hr hk2).b
 have hnx:(fl.take (k + 1)).filter (wkB rs ks pu day) = (fl.take k).filter (wkB rs ks pu day)++(if wkB rs ks pu day f = true then [f] else []):=by
  rw [zR,hget,ZY]
  rcases hb:wkB rs ks pu day f with _|_<;>simp [hb]
 rw [wkB] at hnx
 simp only [wkS]
 generalize (fl.take k).filter (wkB rs ks pu day) = out at *
 have hom:(out.map Qe.v).length = out.length:=zb _
 have htl:List.take out.length (out.map Qe.v) = out.map Qe.v:=zl (by simp)
 simp only [Qe.v,Qe.cells] at vf
 by_cases h0:XP rs ks f.alg f.bits pu day = 0
 rotate_left
 ·rw [if_pos h0] at pA
  rw [zp h0,zE,zO,if_neg (by decide),km] at hnx
  have e4:(XP rs ks f.alg f.bits pu day == 0) = false:=by simpa using h0
  rcases hkd:(f.kind == 1) with _|_
  ·repeat' (first|(refine zsk ?_;intro K' hK)|refine zsp ?_|(refine zsc ?_ ?_<;>intro hc<;>first|exact znh|try simp only [znz] at hc)|simp (maxSteps:=1000000) only [go_sem,Jk,e3,e4,hkd,hw,vf,hom,htl,hfm,Int.toNat_natCast]|(refine hK _ ?_;clear hK K')|apply zan|(apply Qr;(focus first|exact pA))|exact zsq|fail)
   all_goals exact hL _ (k + 1) (Qd []) (by omega) (by omega) (Qh [] (by simp only [go_sem,zwl,wkS,hnx]<;>exact zcc) (by simp only [go_sem,zwl,wkS,hnx]<;>exact zcc) (by simp [wkS,Qd]) (by simp [wkS]) (by omega))
  ·repeat' (first|(refine zsk ?_;intro K' hK)|refine zsp ?_|(refine zsc ?_ ?_<;>intro hc<;>first|exact znh|try simp only [znz] at hc)|simp (maxSteps:=1000000) only [go_sem,Jk,e3,e4,hkd,hw,vf,hom,htl,hfm,Int.toNat_natCast]|(refine hK _ ?_;clear hK K')|apply zan|(apply Qr;(focus first|exact pA))|exact zsq|fail)
   all_goals exact hL _ (k + 1) (Qd []) (by omega) (by omega) (Qh [] (by simp only [go_sem,zwl,wkS,hnx]<;>exact zcc) (by simp only [go_sem,zwl,wkS,hnx]<;>exact zcc) (by simp [wkS,Qd]) (by simp [wkS]) (by omega))
 rw [if_neg (by simpa using h0)] at pA
 rw [zo h0,zH] at hnx
 rcases hkd:(f.kind == 1) with _|_
 ·rw [hkd,zE,if_neg (by decide),km] at hnx
  repeat' (first|(refine zsk ?_;intro K' hK)|refine zsp ?_|(refine zsc ?_ ?_<;>intro hc<;>first|exact znh|try simp only [znz] at hc)|simp (maxSteps:=1000000) only [go_sem,Jk,e3,hkd,hw,vf,hom,htl,hfm,Int.toNat_natCast]|(refine hK _ ?_;clear hK K')|apply zan|(apply Qr;(focus first|exact pA))|exact zsq|fail)
  all_goals exact hL _ (k + 1) (Qd []) (by omega) (by omega) (Qh [] (by simp only [go_sem,zwl,wkS,hnx]<;>exact zcc) (by simp only [go_sem,zwl,wkS,hnx]<;>exact zcc) (by simp [wkS,Qd]) (by simp [wkS]) (by omega))
 have e4:((0:Int) == 0) = true:=by decide
 rcases hal:qK rs f.alg f.bits pu day with _|_
 ·rw [hkd,hal,ZL,zH,if_pos rfl] at hnx
  rw [hal] at pA
  repeat' (first|(refine zsk ?_;intro K' hK)|refine zsp ?_|(refine zsc ?_ ?_<;>intro hc<;>first|exact znh|try simp only [znz] at hc)|simp (maxSteps:=1000000) only [go_sem,Jk,e3,e4,hkd,hw,vf,hom,htl,hfm,Int.toNat_natCast]|(refine hK _ ?_;clear hK K')|apply zan|(apply Qr;(focus first|exact pA))|exact zsq|fail)
  all_goals exact hL _ (k + 1) (Qd [(1,32003)]) (by omega) (by omega) (Qh [(1,32003)] (by simp only [go_sem,zwl,wkS,hnx,zv,List.length_cons,List.length_nil]<;>exact zcc) (by simp only [go_sem,zwl,wkS,hnx,kz,zN,zL,Qe.v,Qe.cells]<;>exact zcc) (by simp [wkS,Qd]) (by simp [wkS];omega) (by omega))
 ·rw [hkd,hal,Bool.not_true,zH,if_neg (by decide),km] at hnx
  rw [hal] at pA
  repeat' (first|(refine zsk ?_;intro K' hK)|refine zsp ?_|(refine zsc ?_ ?_<;>intro hc<;>first|exact znh|try simp only [znz] at hc)|simp (maxSteps:=1000000) only [go_sem,Jk,e3,e4,hkd,hw,vf,hom,htl,hfm,Int.toNat_natCast]|(refine hK _ ?_;clear hK K')|apply zan|(apply Qr;(focus first|exact pA))|exact zsq|fail)
  all_goals exact hL _ (k + 1) (Qd []) (by omega) (by omega) (Qh [] (by simp only [go_sem,zwl,wkS,hnx]<;>exact zcc) (by simp only [go_sem,zwl,wkS,hnx]<;>exact zcc) (by simp [wkS,Qd]) (by simp [wkS]) (by omega))
def aiV:Qa:=⟨1,[97],1,3,9,1,[115],1,0,0,[]⟩
def aiU:Qa:=⟨1,[97],1,5,9,1,[115],1,0,0,[]⟩
def aqy:Qe:=⟨0,[115],1,1,0,0,[97],0⟩
def aqx:Qj:=⟨false,1,0,0,0,40001⟩
theorem an8:aiV.Sz∧aiU.Sz:=by refine ⟨⟨?_,?_,?_⟩,?_,?_,?_⟩<;>decide
theorem an5:JD aiV = true∧JD aiU = true:=by decide +kernel
theorem apk:J8 [aiV,aiU] = [aiV,aiU]:=by decide +kernel
theorem ae2:Yk [aiV,aiU] 2 9 100 = 0∧qF [aiV,aiU] 2 9 100 aqy = true∧amZ [aiV,aiU] 2 9 100 aqy = [1]:=by decide +kernel
theorem alV:J9 [aqx] [] = 0∧yP [aiV,aiU] 2 9 100 [aqx] [] 4 = [⟨0,[115],1,1,0,0,[],1⟩]:=by decide +kernel
theorem am2 {Γ:Env} {f:FuncId} {a b c d x y res:V} {sz:Nat} (h:EvC Γ f [a,b,c,d,.agg [x,.sl sz []],y] res):EvC Γ f [a,b,c,d,.agg [x,.sc (.slice none 0 0)],y] res :=
 ⟨(EvB.le (args':=[a,b,c,d,.agg [x,.sc (.slice none 0 0)],y]) h.b rfl fun i h1 h2=>by
  match i,h1 with
  | 0,_|1,_|2,_|3,_|5,_=>exact LeV.refl _
  | 4,_=>exact LeV.agg2 (LeV.refl _) (LeV.nil sz)).ev,h.2⟩
def UX:=qd Proofs.Tryz.f7 []
def qv (Γ:Env) (f:Nat):Prop:=EvN Γ f [] (V.bool true)
theorem adp {Γ:Env} {f:Nat} (h:Has Γ.P f 60 UX.1.1.ac UX.1.2) (z0:U2 Γ 25) (z1:Wu Γ 18) (z2:Wc Γ 14) (z3:VQ Γ 21):qv Γ f:=by
 refine Qb h zsi zcl zcl fun C hC hm=>?_
 subst hC
 simp only [UX,qd,DC.ac]
 have hz:∀ x∈[aiV,aiU],x.Sz:=by intro x hx;simp only [zC,zI,or_false] at hx;rcases hx with rfl|rfl;exact an8.1;exact an8.2
 have hq:∀ x∈[aiV,aiU],JD x = true:=by intro x hx;simp only [zC,zI,or_false] at hx;rcases hx with rfl|rfl;exact an5.1;exact an5.2
 have g1:=(z0 [aiV,aiU] (by decide) hz hq).c
 have g2:=(z1 [aiV,aiU] 2 9 100 aqy (by decide) hz).b
 have g3:=z2 [aiV,aiU] 2 9 100 [aqx] [] 4 (by decide) hz (by decide) (by decide)
 have g4:=(z3 [1] [1] (by decide)).b
 rw [apk] at g1
 rw [alu,if_pos ae2.1,if_pos ae2.2.1,ae2.2.2] at g2
 rw [aiZ,if_pos ae2.1,if_pos alV.1,if_neg (by decide),alV.2] at g3
 simp only [aiV,aiU,aqy,aqx,Qa.v,Qa.cells,Qe.v,Qe.cells,Qj.v,Qj.cells,zN,zL,ajb,Qv] at g1 g2 g3 g4
 have g3:=am2 g3
 repeat' (first|(refine zsk ?_;intro K' hK)|refine zsp ?_|(refine zsc ?_ ?_<;>intro hc<;>first|exact znh|try simp only [znz] at hc)|simp (maxSteps:=1000000) only [go_sem]|(refine hK _ ?_;clear hK K')|apply zan|(apply aqg;(focus first|exact g3))|(apply an6;(focus first|exact g1))|(apply Qr;(focus first|exact g2|exact g4))|exact zsq|fail)
 all_goals exact zr
structure apz (x:List Qa) (gap day:Int) (f:Qe) (s:List Nat):Prop where
 sub:s.Sublist (List.range x.length)
 early:J0 (Jc x s) gap = 0
 hold:qF (Jc x s) gap day 100 f = true
 less:∀ i∈s,J0 (Jc x (WE i s)) gap = 0∧qF (Jc x (WE i s)) gap day 100 f = false
 pos:s≠[]
theorem apz.lt {x:List Qa} {gap day:Int} {f:Qe} {s:List Nat} (h:apz x gap day f s):∀ i∈s,i < x.length:=fun i hi=>Zh.1 (h.sub.subset hi)
theorem apz.asc {x:List Qa} {gap day:Int} {f:Qe} {s:List Nat} (h:apz x gap day f s):s.Pairwise (· < ·):=List.pairwise_lt_range.sublist h.sub
theorem apz.nd {x:List Qa} {gap day:Int} {f:Qe} {s:List Nat} (h:apz x gap day f s):s.Nodup:=h.asc.imp fun h=>Nat.ne_of_lt h
def an9 (rs:List Qj) (ks:List QS) (pu day:Int) (f:Qe):Bool:=f.kind == 1 && !(decide (XP rs ks f.alg f.bits pu day = 0) && qK rs f.alg f.bits pu day)
def al7 (l:List Qa) (gap day age:Int) (rs:List Qj) (ks:List QS) (pu:Int):List Qe:=(Q5 l gap day age).flatten.filter (an9 rs ks pu day)
theorem aoX {l:List Qa} {num day age:Int} {fs:List Nat} {f:Qe} (h:f∈Y8 l num fs day age):∃ i x,l[i]? = some x∧x.kind≠8∧f = JC num i x:=by
 rw [Y8,alm,ZX] at h
 obtain ⟨i,_,h⟩:=h
 rw [UD] at h
 rcases hx:l[i]? with _|x
 ·rw [hx] at h;cases h
 ·rw [hx] at h
  dsimp only at h
  split at h
  ·cases h
  ·rename_i h8;exact ⟨i,x,hx,h8,(ZU h).symm⟩
theorem af8 {l:List Qa} {gap day age:Int} {f:Qe} (h:f∈(Q5 l gap day age).flatten):∃ e∈JJ l gap,f∈Y8 l e.num e.finds day age:=by
 obtain ⟨fl,h1,h2⟩:=List.mem_flatten.1 h
 rw [Q5,zD] at h1
 obtain ⟨e,he,rfl⟩:=h1
 exact ⟨e,he,h2⟩
theorem amX {l:List Qa} {gap day age:Int} {f:Qe} (hq:∀ x∈l,JD x = true) (h:f∈(Q5 l gap day age).flatten) (hk:f.kind = 1):QE f.alg f.bits > 0:=by
 obtain ⟨e,_,h2⟩:=af8 h
 obtain ⟨i,x,hx,_,rfl⟩:=aoX h2
 have hc:=hq x (zq hx)
 simp only [JC] at hk ⊢
 obtain ⟨_,_,_,hco,_,_⟩:=(show _∧_∧_∧UH x = true∧True∧True from by
  simp only [JD,zw] at hc
  exact ⟨trivial,trivial,trivial,hc.2,trivial,trivial⟩)
 unfold UH at hco
 rw [if_pos (.inl hk)] at hco
 simp only [zw,zy] at hco
 exact hco.1.1
theorem ajG {l:List Qa} {gap day age pu:Int} {rs:List Qj} {ks:List QS} {f:Qe} (hq:∀ x∈l,JD x = true) (hC:J9 rs ks = 0) (hp:1≤pu∧pu≤4) (hd:0≤day∧day≤40000) (h:f∈(Q5 l gap day age).flatten) (hk:f.kind = 1):XP rs ks f.alg f.bits pu day = 0:=by
 have:=amX hq h hk
 rw [XP,if_neg (by simpa using hC),if_neg (by simpa using this),if_neg (by omega)]
theorem aob {l:List Qa} {gap day age pu:Int} {rs:List Qj} {ks:List QS} (hq:∀ x∈l,JD x = true) (hC:J9 rs ks = 0) (hp:1≤pu∧pu≤4) (hd:0≤day∧day≤40000):yP l gap day age rs ks pu = al7 l gap day age rs ks pu:=by
 rw [yP,al7]
 refine List.filter_congr fun f hf=>?_
 rw [wkB,an9]
 by_cases hk:f.kind = 1
 ·rw [ajG hq hC hp hd hf hk];simp
 ·have:(f.kind == 1) = false:=by simpa using hk
  rw [this];rfl
theorem aka {l:List Qa} {gap day age pu:Int} {rs:List Qj} {ks:List QS} {f:Qe} (h:f∈yP l gap day age rs ks pu):qF l gap day age { f with text:=[] } = true:=by
 rw [yP,ZV] at h
 obtain ⟨e,he,h2⟩:=af8 h.1
 rw [qF,Zp]
 refine ⟨e,he,?_⟩
 rw [ahq]
 simp only [beq_self_eq_true,Zl,zH]
 rw [Zp]
 exact ⟨f,h2,by simp [afA]⟩
theorem al5 {l:List Qa} {gap day age pu:Int} {rs:List Qj} {ks:List QS} {f:Qe} (h:f∈yP l gap day age rs ks pu):f.kind = 1∧XP rs ks f.alg f.bits pu day = 0∧qK rs f.alg f.bits pu day = false:=by
 rw [yP,ZV,wkB] at h
 simpa using h.2
theorem al6 (l:List Qa) (gap day age pu:Int) (rs:List Qj) (ks:List QS):(yP l gap day age rs ks pu).length≤l.length * l.length:=by
 rw [yP]
 exact Zf (Zb _ _) (yY l gap day age)
end Av
end
