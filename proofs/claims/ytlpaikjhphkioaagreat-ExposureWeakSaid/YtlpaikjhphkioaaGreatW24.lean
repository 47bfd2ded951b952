/- W24 -/
import Derived.Test.YtlpaikjhphkioaaGreatW22
import Derived.Test.YtlpaikjhphkioaaGreatW23
import Derived.Test.YtlpaikjhphkioaaGreatW20
import Derived.Test.YtlpaikjhphkioaaGreatW12
set_option linter.unusedVariables false
set_option linter.unusedSimpArgs false
noncomputable section
set_option maxRecDepth 10000
set_option maxHeartbeats 4000000
namespace Av
open Go
attribute [local irreducible] AWp Vy K7 jE awS awC aaG awQ abg QW Uc vZ awR Uj awB okR jt ris
theorem aoi {fs:List Nat} (h:fs.Pairwise (· < ·)):jF (fun x y:Int=>decide (x < y)) (fs.map fun n:Nat=>(n:Int)) = fs.map fun n:Nat=>(n:Int):=by
 have h1:=xW (lt:=fun x y:Int=>decide (x < y)) (fun x y z h h'=>by simp at *;omega) (fun x y h=>by simp at *;omega) (fs.map fun n:Nat=>(n:Int))
 refine ZA (le:=fun x y:Int=>x≤y) (fun a b _ _ h1 h2=>by omega) (h1.imp fun {a b} h=>?_) ?_ Wz
 ·simp at h;omega
 ·rw [List.pairwise_map];exact h.imp fun {a b} h=>by omega
theorem ahW:∀ (r:List Nat) (p:Nat),(p :: r).Pairwise (· < ·)→ab6 (fun x y:Int=>x == y) (p:Int) (r.map fun n:Nat=>(n:Int)) = r.map fun n:Nat=>(n:Int)
 | [],_,_=>rfl
 | x :: r,p,h=>by
   have h1:p < x:=(ZD.1 h).1 x kQ
   have h2:=(ZD.1 h).2
   have e:((x:Int) == (p:Int)) = false:=by rw [kE];omega
   rw [zN,ab6]
   simp only [e,zB,if_false]
   rw [ahW r x h2]
theorem ang {fs:List Nat} (h:fs.Pairwise (· < ·)):ab8 (fun x y:Int=>x == y) (fs.map fun n:Nat=>(n:Int)) = fs.map fun n:Nat=>(n:Int):=by
 rcases fs with _|⟨p,r⟩
 ·rfl
 ·rw [zN,ab8,ahW r p h]
theorem abM (fs:List Nat):(fs.map fun n:Nat=>(n:Int)).map V.int = Qv fs:=by
 rw [List.map_map];rfl
def W6:=qd Proofs.Tryz.f88 [zhn 23]
def Uw (Γ:Env) (f:Nat):Prop:=∀ (l:List Qa) (e:QR) (ha:e.finds.Pairwise (· < ·)) (hb:∀ i∈e.finds,i < l.length) (hn:e.finds.length < 2 ^ 30),EvC Γ f [.sl 11 (l.map Qa.v),e.v] (.tup [.sl 1 (Qv e.finds),V.bool true])
attribute [local go_sem] zb in
theorem abd {Γ:Env} {f:Nat} (h:Has Γ.P f 35 W6.1.1.ac W6.1.2) (z0:JM Γ 38) (z1:WD Γ 112) (z2:Ya Γ 113):Uw Γ f:=by
 intro l e ha hb hn
 refine Jt h zsi (by simp only [V.closed,Qc,and_self]) fun C hC hm=>?_
 subst hC
 simp only [W6,qd,DC.ac]
 obtain ⟨num,hosts,machs,fs⟩:=e
 dsimp only at ha hb hn
 simp only [QR.v]
 have gC:=z0 (fs.map fun n:Nat=>(n:Int)) (by rw [zb];omega)
 have gS:=z1 (fs.map fun n:Nat=>(n:Int)) (by rw [zb];omega)
 have gZ:=z2 (fs.map fun n:Nat=>(n:Int)) (by rw [zb];omega)
 rw [aoi ha] at gS
 rw [ang ha] at gZ
 simp only [abM,zb,kD,List.replicate_zero,km] at gC gS gZ
 have hl:(Qv fs).length = fs.length:=zb _
 have htk:List.take fs.length (Qv fs) = Qv fs:=zl (by omega)
 by_cases hf:fs = []
 ·subst hf
  have hp0:Qv [] = []:=rfl
  simp only [hp0,List.length_nil,List.take_nil] at *
  (have zx:=htk);exact zg
 ·have hpos:0 < fs.length:=kX.2 hf
  obtain ⟨p,hp0⟩:∃ p,fs[0]? = some p:=⟨_,zd hpos⟩
  obtain ⟨z,hz0⟩:∃ p,fs[fs.length - 1]? = some p:=⟨_,zd (by omega)⟩
  have hlt:=hb _ (zq hz0)
  have vl:(Qv fs)[fs.length - 1]? = some (V.int (z:Nat)):=by rw [Qv,zi,hz0];rfl
  have v0:(Qv fs)[0]? = some (V.int (p:Nat)):=by rw [Qv,zi,hp0];rfl
  have e0:((fs.length:Int) == 0) = false:=by rw [kE];omega
  have e1:decide ((p:Int)≥0) = true:=zo (by omega)
  have e2:decide ((z:Int) < (l.length:Int)) = true:=zo (by omega)
  have hw:IntKind.i64.wrap ((fs.length:Int) - 1) = ((fs.length - 1:Nat):Int):=by rw [QP (by omega) (by omega)];omega
  (have zx:=za htk (za hl (za v0 (za vl (za e0 (za e1 (za e2 hw)))))));refine zgo ?_;repeat' first|exact zt|apply zan|intro hc
  all_goals first|(refine Ql _ rfl ?_;simp only [go_sem];rw [htk];done)|(refine Ql _ rfl ?_;simp only [go_sem];rw [htk];first|done|exact ⟨_,_,rfl⟩)
theorem qC:∀ a:List UInt8,Op.bytesLess a a = false
 | []=>rfl
 | c :: r=>by
   rw [Op.bytesLess,qC r]
   simp
theorem VD:∀ a b c:List UInt8,Op.bytesLess a b = true→Op.bytesLess b c = true→Op.bytesLess a c = true
 | _,[],_,h,_=>by simp [Op.bytesLess] at h
 | _,_ :: _,[],_,h=>by simp [Op.bytesLess] at h
 | [],_ :: _,_ :: _,_,_=>rfl
 | x :: a,y :: b,z :: c,h1,h2=>by
   have ih:=VD a b c
   simp only [Op.bytesLess,kG,zw,zy,kF] at h1 h2 ⊢
   rcases h1 with h1|⟨rfl,h1⟩
   ·rcases h2 with h2|⟨rfl,h2⟩
    ·exact .inl (UInt8.lt_trans h1 h2)
    ·exact .inl h1
   ·rcases h2 with h2|⟨rfl,h2⟩
    ·exact .inl h2
    ·exact .inr ⟨rfl,ih h1 h2⟩
theorem qB:∀ a b:List UInt8,Op.bytesLess a b = false→Op.bytesLess b a = false→a = b
 | [],[],_,_=>rfl
 | [],_ :: _,h,_=>by simp [Op.bytesLess] at h
 | _ :: _,[],_,h=>by simp [Op.bytesLess] at h
 | x :: a,y :: b,h1,h2=>by
   simp only [Op.bytesLess,kS,Zu,zA,kE] at h1 h2
   have hxy:x = y:=by
    rcases UInt8.lt_or_eq_of_le (UInt8.not_lt.1 h1.1) with h|h
    ·exact absurd h h2.1
    ·exact h.symm
   subst hxy
   rw [qB a b (by rcases h1.2 with h|h;exact absurd rfl h;exact h) (by rcases h2.2 with h|h;exact absurd rfl h;exact h)]
theorem Cm.ze2 {α:Type} {c:α→α→Int} (h:Cm c) (a b d:α) (h1:c a b≤0) (h2:c b d≤0) (h3:c a d = 0):c b d = 0:=by
 have h4:=h.ze a b d h1 h2 h3
 have h5:=h.neg a d
 have h6:=h.neg a b
 exact h.ze b d a h2 (by omega) (by omega)
theorem jx:Cm YA:=by
 refine ⟨fun a b=>?_,fun a b d=>?_,fun a b d=>?_⟩<;>(unfold YA;repeat' split)<;>omega
theorem ael {a b:List UInt8}:qP a b = 0→a = b:=by
 unfold qP
 rcases h1:Op.bytesLess a b with _|_
 ·rcases h2:Op.bytesLess b a with _|_
  ·intro _;exact qB a b h1 h2
  ·simp
 ·simp
theorem aen {a b:Int}:YA a b = 0→a = b:=by
 unfold YA;(repeat' split)<;>omega
theorem akD {a b:List UInt8}:qP a b≤0↔Op.bytesLess b a = false:=by
 unfold qP
 rcases h1:Op.bytesLess a b with _|_
 ·rcases h2:Op.bytesLess b a with _|_<;>simp
 ·rcases h2:Op.bytesLess b a with _|_
  ·simp
  ·have:=VD a b a h1 h2
   rw [qC] at this;cases this
theorem agv:Cm qP:=by
 have hneg:∀ a b,qP b a = - qP a b:=fun a b=>by
  unfold qP
  rcases h1:Op.bytesLess a b with _|_<;>rcases h2:Op.bytesLess b a with _|_<;>simp
  have:=VD a b a h1 h2
  rw [qC] at this;cases this
 have htr:∀ a b d,qP a b≤0→qP b d≤0→qP a d≤0:=fun a b d h1 h2=>by
  rw [akD] at *
  rcases h3:Op.bytesLess d a with _|_
  ·rfl
  ·rcases h4:Op.bytesLess a b with _|_
   ·have:=qB a b h4 h1
    subst this;rw [h3] at h2;cases h2
   ·have:=VD d a b h3 h4
    rw [this] at h2;cases h2
 refine ⟨hneg,htr,fun a b d h1 h2 h3=>?_⟩
 have:=ael h3
 subst this
 have:=hneg a b
 omega
theorem Cm.lex {α:Type} {c1 c2:α→α→Int} (h1:Cm c1) (h2:Cm c2):Cm fun a b=>if c1 a b≠0 then c1 a b else c2 a b:=by
 refine ⟨fun a b=>?_,fun a b d g1 g2=>?_,fun a b d g1 g2 g3=>?_⟩
 ·have:=h1.neg a b
  have:=h2.neg a b
  show (if c1 b a≠0 then c1 b a else c2 b a) = - (if c1 a b≠0 then c1 a b else c2 a b)
  split<;>split<;>omega
 ·have e1:c1 a b≤0:=by split at g1<;>omega
  have e2:c1 b d≤0:=by split at g2<;>omega
  have e3:=h1.tr a b d e1 e2
  split
  ·exact e3
  ·rename_i h
   have h:=Classical.not_not.1 h
   have z1:=h1.ze a b d e1 e2 h
   have z2:=h1.ze2 a b d e1 e2 h
   rw [if_neg (by simpa using z1)] at g1
   rw [if_neg (by simpa using z2)] at g2
   exact h2.tr a b d g1 g2
 ·have e1:c1 a b≤0:=by split at g1<;>omega
  have e2:c1 b d≤0:=by split at g2<;>omega
  have h:c1 a d = 0:=by split at g3<;>omega
  have z1:=h1.ze a b d e1 e2 h
  have z2:=h1.ze2 a b d e1 e2 h
  rw [if_neg (by simpa using z1)] at g1 ⊢
  rw [if_neg (by simpa using z2)] at g2
  rw [if_neg (by simpa using h)] at g3
  exact h2.ze a b d g1 g2 g3
theorem Cm.by {α β:Type} {c:α→α→Int} (h:Cm c) (f:β→α):Cm fun a b=>c (f a) (f b) :=
 ⟨fun a b=>h.neg _ _,fun a b d=>h.tr _ _ _,fun a b d=>h.ze _ _ _⟩
theorem xq:Cm ac6:=by
 have h0:Cm fun _ _:Qe=>(0:Int):=⟨fun _ _=>rfl,fun _ _ _ _ _=>Int.le_refl _,fun _ _ _ _ _ _=>rfl⟩
 exact (agv.by Qe.subj).lex ((jx.by Qe.kind).lex ((jx.by Qe.alg).lex ((jx.by Qe.bits).lex ((jx.by Qe.num).lex ((agv.by Qe.text).lex h0)))))
theorem VF {x:Int} {r:List Int}:Q0 (x :: r) = 0→x = 0∧Q0 r = 0:=by
 rw [Q0]
 by_cases h:x≠0
 ·rw [if_pos h];intro h2;exact absurd h2 h
 ·rw [if_neg h];intro h2;exact ⟨Classical.not_not.1 h,h2⟩
theorem adO {a b:Qe} (h:ac6 a b = 0):a.subj = b.subj∧a.kind = b.kind∧a.alg = b.alg∧a.bits = b.bits∧a.num = b.num∧a.text = b.text:=by
 obtain ⟨h1,h⟩:=VF h
 obtain ⟨h2,h⟩:=VF h
 obtain ⟨h3,h⟩:=VF h
 obtain ⟨h4,h⟩:=VF h
 obtain ⟨h5,h⟩:=VF h
 obtain ⟨h6,h⟩:=VF h
 exact ⟨ael h1,aen h2,aen h3,aen h4,aen h5,ael h6⟩
def ac8 (a b:Qe):Bool:=decide (ac6 a b < 0)
theorem afv (l:List Qe):Ord ac8 (jF ac8 l):=by
 refine xW (fun x y z h1 h2=>?_) (fun x y h=>?_) l
 ·simp only [ac8,zA,bd] at *
  have a1:=xq.neg y x
  have a2:=xq.neg z y
  have a3:=xq.neg z x
  have:=xq.tr x y z (by omega) (by omega)
  omega
 ·simp only [ac8,zy,zA,bd] at *
  have a1:=xq.neg x y
  omega
theorem afu {l r:List Qe} (h:l.Perm r) (hd:∀ a∈l,∀ b∈l,ac6 a b = 0→a = b):jF ac8 l = jF ac8 r:=by
 refine ZA (le:=fun x y=>ac8 y x = false) (fun a b ha hb h1 h2=>?_) (afv l) (afv r) (Wz.trans (h.trans Wz.symm))
 refine hd a (Wz.mem_iff.1 ha) b (h.mem_iff.2 (Wz.mem_iff.1 hb)) ?_
 simp only [ac8,zA,bd] at *
 have a1:=xq.neg a b
 omega
abbrev PM:=List PPl×List Nat
def aj8 (f g:Qa):Bool:=decide (f.day > g.day) || (f.day == g.day && decide (f.conf > g.conf))
def ao1 (l:List Qa) (day age:Int) (m:PM) (i:Nat):PM :=
 match l[i]? with
 | none=>m
 | some f=>if f.day > day∨f.day < day - age then m else
   match aj6 (JB f) m.1 0 with
   | none=>(m.1++[JB f],m.2++[i])
   | some a=>match l[m.2.getD a 0]? with
     | none=>m
     | some g=>if aj8 f g = true then (m.1,m.2.set a i) else m
def ac3 (l:List Qa) (day age:Int) (fs:List Nat):PM:=fs.foldl (ao1 l day age) ([],[])
theorem xT {p:PPl}:∀ {ks:List PPl} {i a:Nat},aj6 p ks i = some a→i≤a∧a < i + ks.length∧ks[a - i]? = some p
 | [],i,a,h=>by cases h
 | e :: r,i,a,h=>by
   rw [aj6] at h
   split at h
   ·rename_i he
    cases h
    subst he
    exact ⟨zh _,by simp,by simp⟩
   ·obtain ⟨h1,h2,h3⟩:=xT h
    refine ⟨by omega,by simp;omega,?_⟩
    rw [show a - i = (a - (i + 1)) + 1 by omega,List.getElem?_cons_succ];exact h3
theorem ab4 {p:PPl}:∀ {ks:List PPl} {i:Nat},aj6 p ks i = none→p ∉ ks
 | [],_,_=>by simp
 | e :: r,i,h=>by
   rw [aj6] at h
   split at h
   ·cases h
   ·rename_i he
    have:=ab4 h
    simp [he,this]
structure adB (l:List Qa) (m:PM) (n:Nat):Prop where
 len:m.1.length = m.2.length
 le:m.1.length≤n
 nd:m.1.Nodup
 pt:∀ (a i:Nat),m.2[a]? = some i→∃ f,l[i]? = some f∧m.1[a]? = some (JB f)
theorem adB.nil (l:List Qa):adB l ([],[]) 0:=⟨rfl,zh _,kC,fun a i h=>by simp at h⟩
theorem adB.step {l:List Qa} {day age:Int} {m:PM} {n i:Nat} (h:adB l m n):adB l (ao1 l day age m i) (n + 1):=by
 have h0:adB l m (n + 1):=⟨h.len,Zj h.le,h.nd,h.pt⟩
 obtain ⟨ks,vs⟩:=m
 rw [ao1]
 rcases hf:l[i]? with _|f
 ·exact h0
 dsimp only
 split
 ·exact h0
 rcases hx:aj6 (JB f) ks 0 with _|a
 ·have hn:=ab4 hx
  have hl:=h.len
  have hle:=h.le
  dsimp only at hl hle
  refine ⟨by simp [hl],by simp;omega,?_,fun a j hj=>?_⟩
  ·dsimp only
   rw [Z7]
   exact ⟨h.nd,by simp,fun x hx y hy=>by rw [zu.1 hy];exact fun he=>hn (he ▸ hx)⟩
  ·dsimp only at *
   rcases Zk a vs.length with ha|ha|ha
   ·rw [ka ha] at hj
    obtain ⟨g,g1,g2⟩:=h.pt a j hj
    exact ⟨g,g1,by rw [ka (by omega)];exact g2⟩
   ·subst ha
    rw [Zm] at hj
    cases hj
    exact ⟨f,hf,by rw [← hl,Zm]⟩
   ·rw [zW (by simp;omega)] at hj;cases hj
 ·dsimp only
  rcases hg:l[vs.getD a 0]? with _|g
  ·exact h0
  dsimp only
  split
  ·obtain ⟨a1,a2,a3⟩:=xT hx
   have hl:=h.len
   dsimp only at hl
   refine ⟨by simp [hl],h0.le,h.nd,fun b j hj=>?_⟩
   dsimp only at *
   by_cases hb:a = b
   ·subst hb
    rw [ZE (by omega)] at hj
    cases hj
    exact ⟨f,hf,by simpa using a3⟩
   ·rw [List.getElem?_set_ne hb] at hj
    exact h.pt b j hj
  ·exact h0
theorem vW (l:List Qa) (day age:Int) (fs:List Nat) (k:Nat) (hk:k≤fs.length):adB l (ac3 l day age (fs.take k)) k:=by
 induction k with
 | zero=>exact adB.nil l
 | succ k ih =>
   have hlt:k < fs.length:=by omega
   rw [ac3,zR,zd hlt,ZK]
   exact (ih (by omega)).step
theorem agq {l:List Qa} {day age:Int} {fs:List Nat} {k i:Nat} (h:fs[k]? = some i):ac3 l day age (fs.take (k + 1)) = ao1 l day age (ac3 l day age (fs.take k)) i:=by
 rw [ac3,zR,h,ZK];rfl
def JC (num:Int) (i:Nat) (f:Qa):Qe:=⟨num,f.subj,f.kind,f.alg,f.bits,f.num,f.text,i⟩
def UD (l:List Qa) (num:Int) (i:Nat):Option Qe :=
 match l[i]? with
 | none=>none
 | some f=>if f.kind = 8 then none else some (JC num i f)
def Y8 (l:List Qa) (num:Int) (fs:List Nat) (day age:Int):List Qe:=jF ac8 ((ac3 l day age fs).2.filterMap (UD l num))
def adC (l:List Qa) (num:Int) (vs is:List Nat):List Qe:=is.filterMap fun a=>(vs[a]?).bind (UD l num)
theorem afq (l:List Qa) (num:Int):∀ vs:List Nat,adC l num vs (List.range vs.length) = vs.filterMap (UD l num)
 | []=>rfl
 | x :: r=>by
   have ih:=afq l num r
   rw [adC] at ih ⊢
   rw [List.length_cons,List.range_succ_eq_map,List.filterMap_cons,List.filterMap_map,List.filterMap_cons]
   simp only [List.getElem?_cons_zero,Option.bind_some]
   have:(fun a=>((x :: r)[a]?).bind (UD l num)) ∘ Nat.succ = fun a=>(r[a]?).bind (UD l num):=by
    funext a;simp
   rw [this,ih]
theorem ahV {l:List Qa} {num day age:Int} {fs is:List Nat}:∀ a∈adC l num (ac3 l day age fs).2 is,∀ b∈adC l num (ac3 l day age fs).2 is,ac6 a b = 0→a = b:=by
 intro a ha b hb2 h0
 have hok:=vW l day age fs fs.length (zh _)
 rw [zQ] at hok
 generalize ac3 l day age fs = m at *
 obtain ⟨ks,vs⟩:=m
 dsimp only at *
 obtain ⟨h1,h2,h3,h4,h5,h6⟩:=adO h0
 have key:∀ c,c∈adC l num vs is→∃ (p i:Nat) (f:Qa),vs[p]? = some i∧l[i]? = some f∧f.kind≠8∧c = JC num i f:=fun c hc=>by
  rw [adC,ZX] at hc
  obtain ⟨p,_,hc⟩:=hc
  rcases hv:vs[p]? with _|i
  ·rw [hv] at hc;cases hc
  ·rw [hv,Option.bind_some,UD] at hc
   rcases hf:l[i]? with _|f
   ·rw [hf] at hc;cases hc
   ·rw [hf] at hc
    dsimp only at hc
    split at hc
    ·cases hc
    ·rename_i h8
     exact ⟨p,i,f,hv,hf,h8,(ZU hc).symm⟩
 obtain ⟨p,i,f,p1,p2,p3,rfl⟩:=key a ha
 obtain ⟨q,j,g,q1,q2,q3,rfl⟩:=key b hb2
 simp only [JC] at h1 h2 h3 h4 h5 h6
 obtain ⟨f',r1,r2⟩:=hok.pt p i p1
 obtain ⟨g',s1,s2⟩:=hok.pt q j q1
 rw [p2] at r1;cases r1
 rw [q2] at s1;cases s1
 have hpl:JB f = JB g:=by
  simp only [JB]
  rw [h1,h2,h3,h4,h5,h6]
 have hpq:p = q:=by
  have l1:=(zn.1 r2).1
  rw [hpl,← s2] at r2
  exact (Z8 l1 hok.nd).1 r2
 subst hpq
 rw [p1] at q1;cases q1
 rw [p2] at q2;cases q2
 rfl
theorem al8 {l:List Qa} {num day age:Int} {fs is:List Nat} (hd:is.Nodup) (hb:∀ a∈is,a < (ac3 l day age fs).2.length) (he:∀ a,a < (ac3 l day age fs).2.length→a∈is):jF ac8 (adC l num (ac3 l day age fs).2 is) = Y8 l num fs day age:=by
 have hdist:=ahV (l:=l) (num:=num) (day:=day) (age:=age) (fs:=fs) (is:=is)
 rw [Y8,← afq]
 generalize ac3 l day age fs = m at *
 obtain ⟨ks,vs⟩:=m
 dsimp only at *
 have hp:is.Perm (List.range vs.length):=by
  rw [List.perm_ext_iff_of_nodup hd List.nodup_range]
  intro a
  rw [Zh]
  exact ⟨hb a,he a⟩
 exact afu (hp.filterMap _) hdist
def ah2 (day age:Int):Bool:=decide (day < 0) || (decide (day > 40000) || (decide (age < 0) || decide (age > 4000)))
def apv (gap day age:Int):Bool:=decide (gap < 0) || (decide (gap > 4000) || ah2 day age)
def Yk (l:List Qa) (gap day age:Int):Int:=if YL l = true then (if apv gap day age = true then 2 else 0) else 24
structure ae5 (l:List Qa) (gap day age:Int):Prop where
 nm:YL l = true
 g:0≤gap∧gap≤4000
 d:0≤day∧day≤40000
 a:0≤age∧age≤4000
theorem vG {l:List Qa} {gap day age:Int}:Yk l gap day age = 0↔ae5 l gap day age:=by
 unfold Yk
 constructor
 ·intro h
  split at h
  ·rename_i h1
   split at h
   ·cases h
   ·rename_i h2
    simp only [apv,ah2,Bool.not_eq_true,kS,zA] at h2
    exact ⟨h1,by omega,by omega,by omega⟩
  ·cases h
 ·rintro ⟨h1,h2,h3,h4⟩
  rw [if_pos h1,if_neg]
  simp only [apv,ah2,Bool.not_eq_true,kS,zA]
  omega
theorem ag0 {day age:Int}:ah2 day age = false↔(0≤day∧day≤40000)∧(0≤age∧age≤4000):=by
 simp only [ah2,kS,zA]
 omega
theorem abZ {l:List Qa} {gap day age:Int} (h:J0 l gap≠0):Yk l gap day age = J0 l gap:=by
 unfold J0 at h ⊢
 unfold Yk
 by_cases h1:YL l = true
 ·rw [if_pos h1] at h
  rw [if_pos h1,if_pos h1]
  split at h
  ·rename_i h2
   rw [if_pos h2,if_pos]
   rw [apv]
   rcases h2 with h2|h2
   ·rw [zo h2];rfl
   ·rw [zo h2];simp
  ·exact absurd rfl h
 ·rw [if_neg h1,if_neg h1]
theorem anS {l:List Qa} {gap day age:Int} (h:J0 l gap = 0) (hr:ah2 day age = false):Yk l gap day age = 0:=by
 unfold J0 at h
 unfold Yk
 split at h
 ·rename_i h1
  rw [if_pos h1]
  split at h
  ·cases h
  ·rw [apv,zp (by omega),zp (by omega),hr];rfl
 ·cases h
theorem amK {l:List Qa} {gap day age:Int} (hr:ah2 day age = false):Yk l gap day age = J0 l gap:=by
 by_cases h:J0 l gap = 0
 ·rw [anS h hr,h]
 ·exact abZ h
theorem ae5.rng {l:List Qa} {gap day age:Int} (h:ae5 l gap day age):ah2 day age = false:=ag0.2 ⟨h.d,h.a⟩
theorem ak7 {l:List Qa} {gap day age:Int} (h:J0 l gap = 0):Yk l gap day age = if ah2 day age = true then 2 else 0:=by
 unfold J0 at h
 unfold Yk
 split at h
 ·rename_i h1
  rw [if_pos h1]
  split at h
  ·cases h
  ·rename_i h2
   rw [apv,zp (by omega),zp (by omega)];rfl
 ·cases h
def fcE (e:QR):List V:=[V.int e.num,.sl 1 (e.hosts.map V.str),.sl 1 (e.machs.map V.int),.sl 1 (Qv e.finds)]
def jT (l:List Qa) (e:QR) (day age:Int) (k:Nat) (m:PM):St:=Jk [(0,.sl 11 (l.map Qa.v)),(2,V.int day),(3,V.int age),(5,.ptr 0 0),(12,.mp 1),(51,.sl 1 (Qv e.finds)),(52,V.int e.finds.length),(53,V.int k)] [(0,.box true (fcE e)),(1,.map (m.1.map PPl.v) (Qv m.2) 0)] 2
def ace (l:List Qa) (e:QR) (m:PM) (is:List Nat):St:=Jk [(0,.sl 11 (l.map Qa.v)),(5,.ptr 0 0),(18,.hd 3 0 (adC l e.num m.2 is).length),(118,.ptr 2 0)] [(0,.box true (fcE e)),(1,.map (m.1.map PPl.v) (Qv m.2) 0),(2,.iter 1 m.2.length is m.2.length),(3,.buf true 8 ((adC l e.num m.2 is).map Qe.v))] 4
def ad2 (l:List Qa) (e:QR) (day age:Int):V:=if ah2 day age = true then .tup [.sl 8 [],V.int 2] else .tup [.sl 8 ((Y8 l e.num e.finds day age).map Qe.v),V.int 0]
def UY:=qd Proofs.Tryz.f58 [zhn 32]
def qw (Γ:Env) (f:Nat):Prop:=∀ (l:List Qa) (e:QR) (day age:Int) (hl:l.length < 2 ^ 40) (hz:∀ x∈l,x.Sz) (hnm:YL l = true) (ha:e.finds.Pairwise (· < ·)) (hb:∀ i∈e.finds,i < l.length) (hn:e.finds.length < 2 ^ 30),EvC Γ f [.sl 11 (l.map Qa.v),e.v,V.int day,V.int age] (ad2 l e day age)
theorem adq {Γ:Env} {f:Nat} (h:Has Γ.P f 150 UY.1.1.ac UY.1.2) (z0:Uw Γ 88) (z1:XL Γ 89) (z2:xA Γ 90) (z3:JX Γ 91) (z4:Ux Γ 92):qw Γ f:=by
 intro l e day age hl hz hnm ha hb hn
 refine Jt h zsi (by unfold ad2;split<;>simp only [V.closed,Qc,and_self]) fun C hC hm=>?_
 subst hC
 simp only [UY,qd,DC.ac]
 have gI:=z0 l e ha hb hn
 have gN:=z1 l hl hz
 rw [hnm] at gN
 have gN:=gN.b
 have hpc:(Qv e.finds).length = e.finds.length:=zb _
 simp only [QR.v] at gI
 rcases hrg:ah2 day age with _|_
 rotate_left
 ·rw [ad2,if_pos hrg]
  rw [ah2] at hrg
  simp only [QR.v]
  rcases d1:decide (day < 0) with _|_
  rotate_left
  ·repeat' (first|(refine zsk ?_;intro K' hK)|(refine zrg ?_;intro K' hK)|refine zsp ?_|(refine zsc ?_ ?_<;>intro hc<;>first|exact znh|try simp only [znz] at hc)|simp (maxSteps:=1000000) only [go_sem,d1,hpc]|(refine hK _ ?_;clear hK K')|apply zan|(apply XZ;(focus exact rfl);(focus first|exact (z3 _ _ _ zsd zsd zsd zsd zsd));(focus exact rfl);(focus (first|(simp;done)|omega|(simp only [zb];omega))))|((first|apply Qr|apply Qy);(focus first|exact C gI|exact gN|exact (z0 _ _ zsd zsd zsd).b|exact (z1 _ zsd zsd).b|exact (z2 _).b))|exact zsq|fail)
   all_goals exact zr
  rcases d2:decide (day > 40000) with _|_
  rotate_left
  ·repeat' (first|(refine zsk ?_;intro K' hK)|(refine zrg ?_;intro K' hK)|refine zsp ?_|(refine zsc ?_ ?_<;>intro hc<;>first|exact znh|try simp only [znz] at hc)|simp (maxSteps:=1000000) only [go_sem,d1,d2,hpc]|(refine hK _ ?_;clear hK K')|apply zan|(apply XZ;(focus exact rfl);(focus first|exact (z3 _ _ _ zsd zsd zsd zsd zsd));(focus exact rfl);(focus (first|(simp;done)|omega|(simp only [zb];omega))))|((first|apply Qr|apply Qy);(focus first|exact C gI|exact gN|exact (z0 _ _ zsd zsd zsd).b|exact (z1 _ zsd zsd).b|exact (z2 _).b))|exact zsq|fail)
   all_goals exact zr
  rcases d3:decide (age < 0) with _|_
  rotate_left
  ·repeat' (first|(refine zsk ?_;intro K' hK)|(refine zrg ?_;intro K' hK)|refine zsp ?_|(refine zsc ?_ ?_<;>intro hc<;>first|exact znh|try simp only [znz] at hc)|simp (maxSteps:=1000000) only [go_sem,d1,d2,d3,hpc]|(refine hK _ ?_;clear hK K')|apply zan|(apply XZ;(focus exact rfl);(focus first|exact (z3 _ _ _ zsd zsd zsd zsd zsd));(focus exact rfl);(focus (first|(simp;done)|omega|(simp only [zb];omega))))|((first|apply Qr|apply Qy);(focus first|exact C gI|exact gN|exact (z0 _ _ zsd zsd zsd).b|exact (z1 _ zsd zsd).b|exact (z2 _).b))|exact zsq|fail)
   all_goals exact zr
  have d4:decide (age > 4000) = true:=by rw [d1,d2,d3] at hrg;exact hrg
  repeat' (first|(refine zsk ?_;intro K' hK)|(refine zrg ?_;intro K' hK)|refine zsp ?_|(refine zsc ?_ ?_<;>intro hc<;>first|exact znh|try simp only [znz] at hc)|simp (maxSteps:=1000000) only [go_sem,d1,d2,d3,d4,hpc]|(refine hK _ ?_;clear hK K')|apply zan|(apply XZ;(focus exact rfl);(focus first|exact (z3 _ _ _ zsd zsd zsd zsd zsd));(focus exact rfl);(focus (first|(simp;done)|omega|(simp only [zb];omega))))|((first|apply Qr|apply Qy);(focus first|exact C gI|exact gN|exact (z0 _ _ zsd zsd zsd).b|exact (z1 _ zsd zsd).b|exact (z2 _).b))|exact zsq|fail)
  all_goals exact zr
 rw [ad2,if_neg (by rw [hrg];decide)]
 obtain ⟨hdy,hag⟩:=ag0.1 hrg
 have d1:decide (day < 0) = false:=zp (by omega)
 have d2:decide (day > 40000) = false:=zp (by omega)
 have d3:decide (age < 0) = false:=zp (by omega)
 have d4:decide (age > 4000) = false:=zp (by omega)
 simp only [QR.v]
 repeat' (first|(refine zsk ?_;intro K' hK)|(refine zrg ?_;intro K' hK)|refine zsp ?_|(refine zsc ?_ ?_<;>intro hc<;>first|exact znh|try simp only [znz] at hc)|simp (maxSteps:=1000000) only [go_sem,d1,d2,d3,d4,hpc]|(refine hK _ ?_;clear hK K')|apply zan|(apply XZ;(focus exact rfl);(focus first|exact (z3 _ _ _ zsd zsd zsd zsd zsd));(focus exact rfl);(focus (first|(simp;done)|omega|(simp only [zb];omega))))|((first|apply Qr|apply Qy);(focus first|exact C gI|exact gN|exact (z0 _ _ zsd zsd zsd).b|exact (z1 _ zsd zsd).b|exact (z2 _).b))|exact zsq|fail)
 refine Qp (ι:=Nat) (fun k=>k≤e.finds.length) (fun k=>jT l e day age k (ac3 l day age (e.finds.take k))) (fun k=>e.finds.length - k) 0 (zG _) (Qd [(1,33000)]) (Qh [(1,33000)] (by simp only [go_sem,zwl,jT,fcE,zb]<;>exact zcc) (by simp only [go_sem,zwl,jT,fcE,Qu,QJ]<;>exact zcc) (by simp [jT,Qd]) (by simp [jT];omega) (by omega)) fun k hk K' hL=>?_
 have hM:=vW l day age e.finds k hk
 rcases hdr:e.finds.drop k with _|⟨i,r⟩
 ·have hkl:=Qt hdr
  have e1:decide ((k:Int) < (e.finds.length:Int)) = false:=by simp;omega
  obtain rfl:k = e.finds.length:=by omega
  clear hL
  rw [zQ] at hM ⊢
  have hvs:=fun is hd hb he=>al8 (l:=l) (num:=(e.num:Int)) (day:=day) (age:=age) (fs:=e.finds) (is:=is) hd hb he
  have hds:=fun is=>ahV (l:=l) (num:=(e.num:Int)) (day:=day) (age:=age) (fs:=e.finds) (is:=is)
  generalize ac3 l day age e.finds = m at *
  have hkl:m.1.length = m.2.length:=hM.len
  repeat' (first|(refine zsk ?_;intro K' hK)|(refine zrg ?_;intro K' hK)|refine zsp ?_|(refine zsc ?_ ?_<;>intro hc<;>first|exact znh|try simp only [znz] at hc)|simp (maxSteps:=1000000) only [go_sem,jT,fcE,Jk,e1,hkl,zb,ky]|(refine hK _ ?_;clear hK K')|apply zan|(apply XZ;(focus exact rfl);(focus first|exact (z3 _ _ _ zsd zsd zsd zsd zsd));(focus exact rfl);(focus (first|(simp;done)|omega|(simp only [zb];omega))))|((first|apply Qr|apply Qy);(focus first|exact (z0 _ _ zsd zsd zsd).b|exact (z1 _ zsd zsd).b|exact (z2 _).b))|exact zsq|fail)
  have hv0:adC l e.num m.2 [] = []:=rfl
  refine Qp (ι:=List Nat) (fun is=>is.Nodup∧∀ a∈is,a < m.2.length) (fun is=>ace l e m is) (fun is=>m.2.length - is.length) [] ⟨kC,by simp⟩ (Qd [(3,1002),(2,3002)]) (Qh [(3,1002),(2,3002)] (by simp only [go_sem,zwl,ace,fcE,hv0,List.length_nil,zL,zb]<;>exact zcc) (by simp only [go_sem,zwl,ace,fcE,hv0,List.length_nil,zL,Qu,QJ]<;>exact zcc) (by simp [ace,Qd]) (by simp [ace];omega) (by omega)) fun is his K' hL=>?_
  obtain ⟨his1,his2⟩:=his
  have hln:∀ js:List Nat,js.Nodup→(∀ a∈js,a < m.2.length)→js.length≤m.2.length:=fun js h1 h2=>by
   have:=List.Nodup.length_le_of_subset h1 (fun a ha=>Zh.2 (h2 a ha))
   rwa [Zy] at this
  have hvl:(adC l e.num m.2 is).length≤is.length:=List.length_filterMap_le _ _
  have hil:=hln is his1 his2
  have hml:=hM.le
  rcases hun:abA 0 m.2.length is with _|⟨u,us⟩
  ·have hall:∀ a,a < m.2.length→a∈is:=fun a ha=>by
    by_cases hin:a∈is
    ·exact hin
    ·have:a∈abA 0 m.2.length is:=yu.2 ⟨ha,by rwa [ky]⟩
     rw [hun] at this;cases this
   have hsort:=hvs is his1 his2 hall
   have hdist:=hds is
   clear hL hvs hds
   simp only [ace,fcE]
   generalize adC l e.num m.2 is = out at *
   have hol:out.length < 2 ^ 30:=by omega
   have gT:=z3 out 92 ac6 z4.1 (z4.2 _ rfl) xq hdist (by omega)
   have d5:(fun x y:Qe=>decide (ac6 x y < 0)) = ac8:=rfl
   rw [d5,hsort] at gT
   have htk:List.take out.length ((Y8 l e.num e.finds day age).map Qe.v) = (Y8 l e.num e.finds day age).map Qe.v:=zl (by rw [zb,← hsort,ab7];omega)
   repeat' (first|(refine zsk ?_;intro K' hK)|(refine zrg ?_;intro K' hK)|refine zsp ?_|(refine zsc ?_ ?_<;>intro hc<;>first|exact znh|try simp only [znz] at hc)|simp (maxSteps:=1000000) only [go_sem,Jk,hkl,zb,ky,hun,htk]|(refine hK _ ?_;clear hK K')|apply zan|(apply XZ;(focus exact rfl);(focus first|exact gT|exact (z3 _ _ _ zsd zsd zsd zsd zsd));(focus exact rfl);(focus (first|(simp;done)|omega|(simp only [zb];omega))))|((first|apply Qr|apply Qy);(focus first|exact (z0 _ _ zsd zsd zsd).b|exact (z1 _ zsd zsd).b|exact (z2 _).b))|exact zsq|fail)
   all_goals (refine Ql _ rfl ?_;simp only [go_sem];rw [htk];done)
  have hU:∀ x,x∈u :: us→x < m.2.length∧x ∉ is∧∃ i f,m.2[x]? = some i∧l[i]? = some f∧m.1[x]? = some (JB f):=fun x hx=>by
   have h1:=yu.1 (hun ▸ hx)
   rw [ky] at h1
   obtain ⟨f,h2,h3⟩:=hM.pt x _ (zd h1.1)
   exact ⟨h1.1,h1.2,_,f,zd h1.1,h2,h3⟩
  have hvis:∀ x i,m.2[x]? = some i→adC l e.num m.2 (is++[x]) = adC l e.num m.2 is++(UD l e.num i).toList:=fun x i h=>by
   rw [adC,adC,List.filterMap_append,List.filterMap_cons,h,Option.bind_some,List.filterMap_nil]
   rcases UD l e.num i with _|y<;>rfl
  clear hvs hds
  simp only [ace,fcE]
  repeat' (first|(refine zsk ?_;intro K' hK)|(refine zrg ?_;intro K' hK)|refine zsp ?_|(refine zsc ?_ ?_<;>intro hc<;>first|exact znh|try simp only [znz] at hc)|simp (maxSteps:=1000000) only [go_sem,Jk,hkl,zb,ky,hun]|(refine hK _ ?_;clear hK K')|apply zan|(apply XZ;(focus exact rfl);(focus first|exact (z3 _ _ _ zsd zsd zsd zsd zsd));(focus exact rfl);(focus (first|(simp;done)|omega|(simp only [zb];omega))))|((first|apply Qr|apply Qy);(focus first|exact (z0 _ _ zsd zsd zsd).b|exact (z1 _ zsd zsd).b|exact (z2 _).b))|exact zsq|fail)
  ·obtain ⟨x,hx0⟩:∃ x,x = u:=⟨u,rfl⟩
   have hx:x∈u :: us:=hx0 ▸ kQ
   rw [← hx0]
   obtain ⟨hx1,hx2,i,f,hvx,hfx,hkx⟩:=hU x hx
   have vk:(m.1.map PPl.v)[x]? = some (JB f).v:=by rw [zi,hkx];rfl
   have vv:=J6 hvx
   have hv1:=hvis x i hvx
   have hnd:(is++[x]).Nodup:=by rw [Z7];exact ⟨his1,by simp,fun a ha b hb=>by rw [zu.1 hb];exact fun he=>hx2 (he ▸ ha)⟩
   have hbd:∀ a∈is++[x],a < m.2.length:=fun a ha=>by
    rcases zY.1 ha with h|h
    ·exact his2 a h
    ·rw [zu.1 h];exact hx1
   have hln2:=hln _ hnd hbd
   rw [zv,List.length_singleton] at hln2
   have hms:m.2.length - (is++[x]).length < m.2.length - is.length:=by rw [zv,List.length_singleton];omega
   by_cases h8:f.kind = 8
   ·have e8:(f.kind != 8) = false:=by simpa using h8
    rw [UD,hfx] at hv1
    simp only [h8,if_true,Option.toList_none,km] at hv1
    repeat' (first|(refine zsk ?_;intro K' hK)|(refine zrg ?_;intro K' hK)|refine zsp ?_|(refine zsc ?_ ?_<;>intro hc<;>first|exact znh|try simp only [znz] at hc)|simp (maxSteps:=1000000) only [go_sem,Jk,hkl,e8,vk,vv,hfx,Int.toNat_natCast,zi,zb,ky,ZN,Nat.sub_zero,zG,Qa.v,Qa.cells]|(refine hK _ ?_;clear hK K')|apply zan|(apply XZ;(focus exact rfl);(focus first|exact (z3 _ _ _ zsd zsd zsd zsd zsd));(focus exact rfl);(focus (first|(simp;done)|omega|(simp only [zb];omega))))|((first|apply Qr|apply Qy);(focus first|exact (z0 _ _ zsd zsd zsd).b|exact (z1 _ zsd zsd).b|exact (z2 _).b))|exact zsq|fail)
    all_goals exact hL _ (is++[x]) (Qd []) ⟨hnd,hbd⟩ hms (Qh [] (by simp only [go_sem,zwl,ace,fcE,hv1,zb]<;>exact zcc) (by simp only [go_sem,zwl,ace,fcE,hv1,Qu,QJ]<;>exact zcc) (by simp [ace,Qd]) (by simp [ace]) (by omega))
   ·have e8:(f.kind != 8) = true:=by simpa using h8
    rw [UD,hfx] at hv1
    simp only [h8,if_false,Option.toList_some] at hv1
    have hol:(adC l e.num m.2 is).length < 2 ^ 30:=by omega
    generalize adC l e.num m.2 is = out at *
    have hll:(out.map Qe.v).length = out.length:=zb _
    have htk:(out.map Qe.v).take out.length = out.map Qe.v:=zl (by simp)
    repeat' (first|(refine zsk ?_;intro K' hK)|(refine zrg ?_;intro K' hK)|refine zsp ?_|(refine zsc ?_ ?_<;>intro hc<;>first|exact znh|try simp only [znz] at hc)|simp (maxSteps:=1000000) only [go_sem,Jk,hkl,e8,vk,vv,hfx,htk,hll,Int.toNat_natCast,zi,zb,ky,ZN,Nat.sub_zero,zG,Qa.v,Qa.cells]|(refine hK _ ?_;clear hK K')|apply zan|(apply XZ;(focus exact rfl);(focus first|exact (z3 _ _ _ zsd zsd zsd zsd zsd));(focus exact rfl);(focus (first|(simp;done)|omega|(simp only [zb];omega))))|((first|apply Qr|apply Qy);(focus first|exact (z0 _ _ zsd zsd zsd).b|exact (z1 _ zsd zsd).b|exact (z2 _).b))|exact zsq|fail)
    all_goals exact hL _ (is++[x]) (Qd [(3,30004)]) ⟨hnd,hbd⟩ hms (Qh [(3,30004)] (by simp only [go_sem,zwl,ace,fcE,hv1,zv,List.length_singleton]<;>exact zcc) (by simp only [go_sem,zwl,ace,fcE,hv1,Qu,QJ,kz,zN,zL,Qe.v,Qe.cells,JC]<;>exact zcc) (by simp [ace,Qd]) (by simp [ace];omega) (by omega))
  ·intro x hx
   have hx:x∈u :: us:=kR _ hx
   obtain ⟨hx1,hx2,i,f,hvx,hfx,hkx⟩:=hU x hx
   have vk:(m.1.map PPl.v)[x]? = some (JB f).v:=by rw [zi,hkx];rfl
   have vv:=J6 hvx
   have hv1:=hvis x i hvx
   have hnd:(is++[x]).Nodup:=by rw [Z7];exact ⟨his1,by simp,fun a ha b hb=>by rw [zu.1 hb];exact fun he=>hx2 (he ▸ ha)⟩
   have hbd:∀ a∈is++[x],a < m.2.length:=fun a ha=>by
    rcases zY.1 ha with h|h
    ·exact his2 a h
    ·rw [zu.1 h];exact hx1
   have hln2:=hln _ hnd hbd
   rw [zv,List.length_singleton] at hln2
   have hms:m.2.length - (is++[x]).length < m.2.length - is.length:=by rw [zv,List.length_singleton];omega
   by_cases h8:f.kind = 8
   ·have e8:(f.kind != 8) = false:=by simpa using h8
    rw [UD,hfx] at hv1
    simp only [h8,if_true,Option.toList_none,km] at hv1
    repeat' (first|(refine zsk ?_;intro K' hK)|(refine zrg ?_;intro K' hK)|refine zsp ?_|(refine zsc ?_ ?_<;>intro hc<;>first|exact znh|try simp only [znz] at hc)|simp (maxSteps:=1000000) only [go_sem,Jk,hkl,e8,vk,vv,hfx,Int.toNat_natCast,zi,zb,ky,ZN,Nat.sub_zero,zG,Qa.v,Qa.cells]|(refine hK _ ?_;clear hK K')|apply zan|(apply XZ;(focus exact rfl);(focus first|exact (z3 _ _ _ zsd zsd zsd zsd zsd));(focus exact rfl);(focus (first|(simp;done)|omega|(simp only [zb];omega))))|((first|apply Qr|apply Qy);(focus first|exact (z0 _ _ zsd zsd zsd).b|exact (z1 _ zsd zsd).b|exact (z2 _).b))|exact zsq|fail)
    all_goals exact hL _ (is++[x]) (Qd []) ⟨hnd,hbd⟩ hms (Qh [] (by simp only [go_sem,zwl,ace,fcE,hv1,zb]<;>exact zcc) (by simp only [go_sem,zwl,ace,fcE,hv1,Qu,QJ]<;>exact zcc) (by simp [ace,Qd]) (by simp [ace]) (by omega))
   ·have e8:(f.kind != 8) = true:=by simpa using h8
    rw [UD,hfx] at hv1
    simp only [h8,if_false,Option.toList_some] at hv1
    have hol:(adC l e.num m.2 is).length < 2 ^ 30:=by omega
    generalize adC l e.num m.2 is = out at *
    have hll:(out.map Qe.v).length = out.length:=zb _
    have htk:(out.map Qe.v).take out.length = out.map Qe.v:=zl (by simp)
    repeat' (first|(refine zsk ?_;intro K' hK)|(refine zrg ?_;intro K' hK)|refine zsp ?_|(refine zsc ?_ ?_<;>intro hc<;>first|exact znh|try simp only [znz] at hc)|simp (maxSteps:=1000000) only [go_sem,Jk,hkl,e8,vk,vv,hfx,htk,hll,Int.toNat_natCast,zi,zb,ky,ZN,Nat.sub_zero,zG,Qa.v,Qa.cells]|(refine hK _ ?_;clear hK K')|apply zan|(apply XZ;(focus exact rfl);(focus first|exact (z3 _ _ _ zsd zsd zsd zsd zsd));(focus exact rfl);(focus (first|(simp;done)|omega|(simp only [zb];omega))))|((first|apply Qr|apply Qy);(focus first|exact (z0 _ _ zsd zsd zsd).b|exact (z1 _ zsd zsd).b|exact (z2 _).b))|exact zsq|fail)
    all_goals exact hL _ (is++[x]) (Qd [(3,30004)]) ⟨hnd,hbd⟩ hms (Qh [(3,30004)] (by simp only [go_sem,zwl,ace,fcE,hv1,zv,List.length_singleton]<;>exact zcc) (by simp only [go_sem,zwl,ace,fcE,hv1,Qu,QJ,kz,zN,zL,Qe.v,Qe.cells,JC]<;>exact zcc) (by simp [ace,Qd]) (by simp [ace];omega) (by omega))
 obtain ⟨hk',hget,hr⟩:=Qm hdr
 have hw:=Qg (k:=k) (by omega)
 have e1:decide ((k:Int) < (e.finds.length:Int)) = true:=by simp;omega
 have hsu:=agq (l:=l) (day:=day) (age:=age) hget
 obtain ⟨f,hf⟩:∃ f,l[i]? = some f:=⟨_,zd (hb i (zq hget))⟩
 generalize ac3 l day age (e.finds.take k) = m at *
 obtain ⟨ks,vs⟩:=m
 have hvi:=J6 hget
 have hwd:IntKind.i64.wrap (day - age) = day - age:=QP (by omega) (by omega)
 rw [ao1,hf] at hsu
 dsimp only at hsu
 simp only [jT,fcE]
 rcases h1:decide (f.day > day) with _|_
 ·rcases h2:decide (f.day < day - age) with _|_
  ·rw [if_neg (by simp at h1 h2;omega)] at hsu
   have p1:=(z2 f).b
   have hfk:=af9 (JB f) ks 0
   have hek:=am3 (JB f)
   have hlen:=hM.len
   dsimp only at hlen
   simp only [Qa.v,Qa.cells] at p1
   rcases hix:aj6 (JB f) ks 0 with _|a
   ·rw [hix] at hsu hfk
    have hm1:ks.map PPl.v++[(JB f).v] = (ks++[JB f]).map PPl.v:=by simp
    have hm2:=Kb vs i
    repeat' (first|(refine zsk ?_;intro K' hK)|(refine zrg ?_;intro K' hK)|refine zsp ?_|(refine zsc ?_ ?_<;>intro hc<;>first|exact znh|try simp only [znz] at hc)|simp (maxSteps:=1000000) only [go_sem,Jk,e1,hw,hwd,h1,h2,hfk,hek,hm1,hm2,hvi,hf,Int.toNat_natCast,zi,Qa.v,Qa.cells]|(refine hK _ ?_;clear hK K')|apply zan|(apply XZ;(focus exact rfl);(focus first|exact (z3 _ _ _ zsd zsd zsd zsd zsd));(focus exact rfl);(focus (first|(simp;done)|omega|(simp only [zb];omega))))|((first|apply Qr|apply Qy);(focus first|exact p1|exact (z0 _ _ zsd zsd zsd).b|exact (z1 _ zsd zsd).b|exact (z2 _).b))|exact zsq|fail)
    all_goals exact hL _ (k + 1) (Qd []) (by omega) (by omega) (by rw [hsu];exact Qh [] (by simp only [go_sem,zwl,jT,fcE,zb]<;>exact zcc) (by simp only [go_sem,zwl,jT,fcE,Qu,QJ]<;>exact zcc) (by simp [jT,Qd]) (by simp [jT]) (by omega))
   ·rw [hix] at hsu hfk
    have hal:=(xT hix).2.1
    obtain ⟨v,hv⟩:∃ v,vs[a]? = some v:=⟨_,zd (by omega)⟩
    obtain ⟨g,hg,-⟩:=hM.pt a v hv
    have hvd:vs.getD a 0 = v:=by rw [zK,hv];rfl
    simp only [hvd,hg] at hsu
    have hvc:=J6 hv
    have hm1:=abL vs a i
    rcases h3:decide (f.day > g.day) with _|_
    ·rcases h4:f.day == g.day with _|_
     ·rw [aj8,h3,h4,if_neg (by simp)] at hsu
      repeat' (first|(refine zsk ?_;intro K' hK)|(refine zrg ?_;intro K' hK)|refine zsp ?_|(refine zsc ?_ ?_<;>intro hc<;>first|exact znh|try simp only [znz] at hc)|simp (maxSteps:=1000000) only [go_sem,Jk,e1,hw,hwd,h1,h2,h3,h4,hfk,hek,hm1,hvc,hvi,hf,hg,Int.toNat_natCast,zi,Qa.v,Qa.cells]|(refine hK _ ?_;clear hK K')|apply zan|(apply XZ;(focus exact rfl);(focus first|exact (z3 _ _ _ zsd zsd zsd zsd zsd));(focus exact rfl);(focus (first|(simp;done)|omega|(simp only [zb];omega))))|((first|apply Qr|apply Qy);(focus first|exact p1|exact (z0 _ _ zsd zsd zsd).b|exact (z1 _ zsd zsd).b|exact (z2 _).b))|exact zsq|fail)
      all_goals exact hL _ (k + 1) (Qd []) (by omega) (by omega) (by rw [hsu];exact Qh [] (by simp only [go_sem,zwl,jT,fcE,zb]<;>exact zcc) (by simp only [go_sem,zwl,jT,fcE,Qu,QJ]<;>exact zcc) (by simp [jT,Qd]) (by simp [jT]) (by omega))
     ·rcases h5:decide (f.conf > g.conf) with _|_
      ·rw [aj8,h3,h4,h5,if_neg (by decide)] at hsu
       repeat' (first|(refine zsk ?_;intro K' hK)|(refine zrg ?_;intro K' hK)|refine zsp ?_|(refine zsc ?_ ?_<;>intro hc<;>first|exact znh|try simp only [znz] at hc)|simp (maxSteps:=1000000) only [go_sem,Jk,e1,hw,hwd,h1,h2,h3,h4,h5,hfk,hek,hm1,hvc,hvi,hf,hg,Int.toNat_natCast,zi,Qa.v,Qa.cells]|(refine hK _ ?_;clear hK K')|apply zan|(apply XZ;(focus exact rfl);(focus first|exact (z3 _ _ _ zsd zsd zsd zsd zsd));(focus exact rfl);(focus (first|(simp;done)|omega|(simp only [zb];omega))))|((first|apply Qr|apply Qy);(focus first|exact p1|exact (z0 _ _ zsd zsd zsd).b|exact (z1 _ zsd zsd).b|exact (z2 _).b))|exact zsq|fail)
       all_goals exact hL _ (k + 1) (Qd []) (by omega) (by omega) (by rw [hsu];exact Qh [] (by simp only [go_sem,zwl,jT,fcE,zb]<;>exact zcc) (by simp only [go_sem,zwl,jT,fcE,Qu,QJ]<;>exact zcc) (by simp [jT,Qd]) (by simp [jT]) (by omega))
      ·rw [aj8,h3,h4,h5,if_pos (by decide)] at hsu
       repeat' (first|(refine zsk ?_;intro K' hK)|(refine zrg ?_;intro K' hK)|refine zsp ?_|(refine zsc ?_ ?_<;>intro hc<;>first|exact znh|try simp only [znz] at hc)|simp (maxSteps:=1000000) only [go_sem,Jk,e1,hw,hwd,h1,h2,h3,h4,h5,hfk,hek,hm1,hvc,hvi,hf,hg,Int.toNat_natCast,zi,Qa.v,Qa.cells]|(refine hK _ ?_;clear hK K')|apply zan|(apply XZ;(focus exact rfl);(focus first|exact (z3 _ _ _ zsd zsd zsd zsd zsd));(focus exact rfl);(focus (first|(simp;done)|omega|(simp only [zb];omega))))|((first|apply Qr|apply Qy);(focus first|exact p1|exact (z0 _ _ zsd zsd zsd).b|exact (z1 _ zsd zsd).b|exact (z2 _).b))|exact zsq|fail)
       all_goals exact hL _ (k + 1) (Qd []) (by omega) (by omega) (by rw [hsu];exact Qh [] (by simp only [go_sem,zwl,jT,fcE,zb]<;>exact zcc) (by simp only [go_sem,zwl,jT,fcE,Qu,QJ]<;>exact zcc) (by simp [jT,Qd]) (by simp [jT]) (by omega))
    ·rw [aj8,h3,if_pos (by simp)] at hsu
     repeat' (first|(refine zsk ?_;intro K' hK)|(refine zrg ?_;intro K' hK)|refine zsp ?_|(refine zsc ?_ ?_<;>intro hc<;>first|exact znh|try simp only [znz] at hc)|simp (maxSteps:=1000000) only [go_sem,Jk,e1,hw,hwd,h1,h2,h3,hfk,hek,hm1,hvc,hvi,hf,hg,Int.toNat_natCast,zi,Qa.v,Qa.cells]|(refine hK _ ?_;clear hK K')|apply zan|(apply XZ;(focus exact rfl);(focus first|exact (z3 _ _ _ zsd zsd zsd zsd zsd));(focus exact rfl);(focus (first|(simp;done)|omega|(simp only [zb];omega))))|((first|apply Qr|apply Qy);(focus first|exact p1|exact (z0 _ _ zsd zsd zsd).b|exact (z1 _ zsd zsd).b|exact (z2 _).b))|exact zsq|fail)
     all_goals exact hL _ (k + 1) (Qd []) (by omega) (by omega) (by rw [hsu];exact Qh [] (by simp only [go_sem,zwl,jT,fcE,zb]<;>exact zcc) (by simp only [go_sem,zwl,jT,fcE,Qu,QJ]<;>exact zcc) (by simp [jT,Qd]) (by simp [jT]) (by omega))
  ·rw [if_pos (by simp at h1 h2;omega)] at hsu
   repeat' (first|(refine zsk ?_;intro K' hK)|(refine zrg ?_;intro K' hK)|refine zsp ?_|(refine zsc ?_ ?_<;>intro hc<;>first|exact znh|try simp only [znz] at hc)|simp (maxSteps:=1000000) only [go_sem,Jk,e1,hw,hwd,h1,h2,hvi,hf,Int.toNat_natCast,zi,Qa.v,Qa.cells]|(refine hK _ ?_;clear hK K')|apply zan|(apply XZ;(focus exact rfl);(focus first|exact (z3 _ _ _ zsd zsd zsd zsd zsd));(focus exact rfl);(focus (first|(simp;done)|omega|(simp only [zb];omega))))|((first|apply Qr|apply Qy);(focus first|exact (z0 _ _ zsd zsd zsd).b|exact (z1 _ zsd zsd).b|exact (z2 _).b))|exact zsq|fail)
   all_goals exact hL _ (k + 1) (Qd []) (by omega) (by omega) (by rw [hsu];exact Qh [] (by simp only [go_sem,zwl,jT,fcE,zb]<;>exact zcc) (by simp only [go_sem,zwl,jT,fcE,Qu,QJ]<;>exact zcc) (by simp [jT,Qd]) (by simp [jT]) (by omega))
 ·rw [if_pos (by simp at h1;omega)] at hsu
  repeat' (first|(refine zsk ?_;intro K' hK)|(refine zrg ?_;intro K' hK)|refine zsp ?_|(refine zsc ?_ ?_<;>intro hc<;>first|exact znh|try simp only [znz] at hc)|simp (maxSteps:=1000000) only [go_sem,Jk,e1,hw,hwd,h1,hvi,hf,Int.toNat_natCast,zi,Qa.v,Qa.cells]|(refine hK _ ?_;clear hK K')|apply zan|(apply XZ;(focus exact rfl);(focus first|exact (z3 _ _ _ zsd zsd zsd zsd zsd));(focus exact rfl);(focus (first|(simp;done)|omega|(simp only [zb];omega))))|((first|apply Qr|apply Qy);(focus first|exact (z0 _ _ zsd zsd zsd).b|exact (z1 _ zsd zsd).b|exact (z2 _).b))|exact zsq|fail)
  all_goals exact hL _ (k + 1) (Qd []) (by omega) (by omega) (by rw [hsu];exact Qh [] (by simp only [go_sem,zwl,jT,fcE,zb]<;>exact zcc) (by simp only [go_sem,zwl,jT,fcE,Qu,QJ]<;>exact zcc) (by simp [jT,Qd]) (by simp [jT]) (by omega))
theorem anw {fs:List Nat} {k:Nat} (h:fs.Pairwise (· < ·)) (hk:∀ i∈fs,i < k):(fs++[k]).Pairwise (· < ·):=by
 rw [kP]
 exact ⟨h,List.pairwise_singleton ..,fun a ha b hb=>by rw [zu.1 hb];exact hk a ha⟩
theorem aiG {l:List Qa} {p:List Nat} (hp:PW p):∀ k,k≤l.length→∀ e∈Yl l p k,e.finds.Pairwise (· < ·)
 | 0,_,e,he=>by simp [Yl] at he
 | k + 1,hk,e,he=>by
   have ih:=aiG (l:=l) hp k (by omega)
   have hI:=qG (l:=l) hp k (by omega)
   rw [Yl,zd (by omega)] at he
   dsimp only at he
   generalize Yl l p k = es at *
   rw [aeR] at he
   split at he
   ·rcases zY.1 he with he|he
    ·exact ih e he
    ·rw [zu.1 he];simp [YW,QU]
   ·rcases hx:aex (Qn p k) (es.map QR.num) 0 with _|a
    ·rw [hx] at he;exact ih e he
    ·rw [hx] at he
     dsimp only at he
     rcases hy:es[a]? with _|y
     ·rw [hy] at he;exact ih e he
     ·rw [hy] at he
      dsimp only at he
      have hm:=zq hy
      rcases ZP he with he|rfl
      ·exact ih e he
      ·exact anw (ih y hm) (hI.sz y hm).fl
theorem acx {l:List Qa} {gap:Int} {e:QR} (he:e∈JJ l gap):e.finds.Pairwise (· < ·)∧(∀ i∈e.finds,i < l.length)∧e.finds.length≤l.length∧e.hosts.length≤l.length:=by
 have hp:=xR l gap
 have h1:=(qG (l:=l) hp l.length (zh _)).sz e he
 exact ⟨aiG hp l.length (zh _) e he,h1.fl,h1.f1,h1.h1⟩
theorem wD (l:List Qa) (gap:Int):(JJ l gap).length≤l.length:=(qG (l:=l) (xR l gap) l.length (zh _)).len
theorem ajF {l:List Qa} {gap:Int} (h:J0 l gap = 0):YL l = true:=by
 rw [J0] at h
 split at h
 ·assumption
 ·cases h
def fcv (fl:List Qe):V:=.sl 8 (fl.map Qe.v)
def Q5 (l:List Qa) (gap day age:Int):List (List Qe):=(JJ l gap).map fun e=>Y8 l e.num e.finds day age
def xZ (l:List Qa) (gap day age:Int):V:=if Yk l gap day age = 0 then .tup [.sl 4 ((JJ l gap).map QR.v),.sl 1 ((Q5 l gap day age).map fcv),V.int 0] else .tup [.sl 4 [],.sl 1 [],V.int (Yk l gap day age)]
def obO (xs:List V):Ob:=if xs = [] then .buf true 1 [] else .obuf true 1 xs
theorem akT:obO [] = .buf true 1 []:=rfl
theorem aoI (xs:List V) (x:V):obO (xs++[x]) = .obuf true 1 (xs++[x]):=by rw [obO,if_neg (by simp)]
theorem aoH (x:V):obO [x] = .obuf true 1 [x]:=rfl
theorem an2:∀ l:List (List Qe),ntL (l.map fcv)
 | []=>trivial
 | x :: r=>⟨by simp [fcv],an2 r⟩
theorem yA:∀ l:List (List Qe),Qc (l.map fcv)
 | []=>trivial
 | x :: r=>⟨by simp only [fcv,V.closed,Qc,and_self],yA r⟩
theorem aoV (σ:Nat→Nat) (l:List (List Qe)):U6 σ (l.map fcv) = l.map fcv:=Q8 _ _ (yA l)
theorem ap0 (n:Nat) (l:List (List Qe)):ltL n (l.map fcv):=Yw _ _ (yA l)
theorem aiD {o:Nat→Option Ob}:∀ l:List (List Qe),Jf o [] none (l.map fcv) (l.map fcv)
 | []=>trivial
 | x :: r=>⟨by simp [fcv,conv],aiD r⟩
theorem aoW {o:Nat→Option Ob} {n:Nat} {l:List (List Qe)} (h:o n = some (obO (l.map fcv))):conv o [] none (.hd n 0 l.length) (.sl 1 (l.map fcv)):=by
 rw [ahG]
 rcases l with _|⟨x,r⟩
 ·exact ⟨trivial,by simp,.inl ⟨true,_,h,rfl⟩⟩
 ·refine ⟨trivial,by simp,.inr ⟨true,_,h,?_,an2 _,yA _⟩⟩
  rw [kK,zl (by simp)]
  exact aiD _
def faS (l:List Qa) (gap day age:Int) (k:Nat):St:=Jk [(0,.sl 11 (l.map Qa.v)),(2,V.int day),(3,V.int age),(11,.sl 4 ((JJ l gap).map QR.v)),(13,.hd 0 0 k),(27,.sl 4 ((JJ l gap).map QR.v)),(28,V.int (JJ l gap).length),(29,V.int k)] [(0,obO (((Q5 l gap day age).take k).map fcv))] 1
def X7:=qd Proofs.Tryz.f29 []
def XM (Γ:Env) (f:Nat):Prop:=∀ (l:List Qa) (gap day age:Int) (hl:l.length < 2 ^ 30) (hz:∀ x∈l,x.Sz),EvC Γ f [.sl 11 (l.map Qa.v),V.int gap,V.int day,V.int age] (xZ l gap day age)
attribute [local go_sem] Int.toNat_zero List.getElem?_cons_zero List.length_cons List.length_nil Jk in
theorem vT {Γ:Env} {f:Nat} (h:Has Γ.P f 65 X7.1.1.ac X7.1.2) (z0:XT Γ 57) (z3:qw Γ 58):XM Γ f:=by
 intro l gap day age hl hz
 refine Jt h zsi (by unfold xZ;split<;>simp only [V.closed,Qc,and_self]) fun C hC hm=>?_
 subst hC
 simp only [X7,qd,DC.ac]
 have g0:=(z0 l gap (by omega) hz).b
 by_cases hE:J0 l gap = 0
 rotate_left
 ·rw [xZ,abZ hE,if_neg hE]
  rw [am5,if_neg hE] at g0
  have e01:(J0 l gap != 0) = true:=by simpa using hE
  generalize J0 l gap = er at *
  (have zx:=e01);exact zg
 rw [am5,if_pos hE] at g0
 have hN:=ajF hE
 have hok0:=fun e (he:e∈JJ l gap)=>acx he
 have e000:((0:Int) != 0) = false:=by decide
 have e002:((2:Int) != 0) = true:=by decide
 rcases hrg:ah2 day age with _|_
 rotate_left
 ·rw [xZ,ak7 hE,if_pos hrg,if_neg (by decide)]
  rcases hes:JJ l gap with _|⟨e,r⟩
  ·rw [hes] at g0
   rw [ah2] at hrg
   have z1:decide (((0:Nat):Int) < ((0:Nat):Int)) = false:=by decide
   have z2:((List.map QR.v []).length:Nat) = 0:=rfl
   simp only [zL] at g0 ⊢
   rcases d1:decide (day < 0) with _|_
   rotate_left
   ·(have zx:=za d1 (za e000 z1));refine zgo ?_;repeat' first|exact zt|apply zan|intro hc
    refine wI ?_
    (have zx:=za d1 (za e000 z1));exact zg
   rcases d2:decide (day > 40000) with _|_
   rotate_left
   ·(have zx:=za d1 (za d2 (za e000 z1)));refine zgo ?_;repeat' first|exact zt|apply zan|intro hc
    refine wI ?_
    (have zx:=za d1 (za d2 (za e000 z1)));exact zg
   rcases d3:decide (age < 0) with _|_
   rotate_left
   ·(have zx:=za d1 (za d2 (za d3 (za e000 z1))));refine zgo ?_;repeat' first|exact zt|apply zan|intro hc
    refine wI ?_
    (have zx:=za d1 (za d2 (za d3 (za e000 z1))));exact zg
   have d4:decide (age > 4000) = true:=by rw [d1,d2,d3] at hrg;exact hrg
   (have zx:=za d1 (za d2 (za d3 (za d4 (za e000 z1)))));refine zgo ?_;repeat' first|exact zt|apply zan|intro hc
   refine wI ?_
   (have zx:=za d1 (za d2 (za d3 (za d4 (za e000 z1)))));exact zg
  ·obtain ⟨o1,o2,o3,o4⟩:=hok0 e (by rw [hes];exact kQ)
   have p1:=(z3 l e day age (by omega) hz hN o1 o2 (by omega)).b
   rw [ad2,if_pos hrg] at p1
   have hlr:((r.map QR.v).length:Nat) = r.length:=zb _
   have z1:decide ((0:Int) < ((r.length + 1:Nat):Int)) = true:=zo (by omega)
   rw [hes] at g0
   simp only [zN,QR.v] at g0 p1 ⊢
   (have zx:=za e000 (za e002 (za z1 hlr)));refine zgo ?_;repeat' first|exact zt|apply zan|intro hc
   refine wI ?_
   (have zx:=za e000 (za e002 (za z1 hlr)));exact zg
 obtain ⟨hdy,hag⟩:=ag0.1 hrg
 rw [xZ,if_pos (anS hE hrg)]
 have d1:decide (day < 0) = false:=zp (by omega)
 have d2:decide (day > 40000) = false:=zp (by omega)
 have d3:decide (age < 0) = false:=zp (by omega)
 have d4:decide (age > 4000) = false:=zp (by omega)
 have e00:((0:Int) != 0) = false:=by decide
 have hel:((JJ l gap).map QR.v).length = (JJ l gap).length:=zb _
 have hok:=fun e (he:e∈JJ l gap)=>acx he
 have hen:=wD l gap
 have hfl:(Q5 l gap day age).length = (JJ l gap).length:=zb _
 (have zx:=za e00 hel);refine zgo ?_;repeat' first|exact zt|apply zan|intro hc
 refine Qp (ι:=Nat) (fun k=>k≤(JJ l gap).length) (fun k=>faS l gap day age k) (fun k=>(JJ l gap).length - k) 0 (zG _) (Qd [(0,13000)]) (Qh [(0,13000)] (by simp only [go_sem,zwl,faS,zb]<;>exact zcc) (by simp only [go_sem,zwl,faS,List.take_zero,zL,akT]<;>exact zcc) (by simp [faS,Qd]) (by simp [faS];omega) (by omega)) fun k hk K' hL=>?_
 rcases hdr:(JJ l gap).drop k with _|⟨e,r⟩
 ·have hkl:=Qt hdr
  have e1:decide ((k:Int) < ((JJ l gap).length:Int)) = false:=by simp;omega
  obtain rfl:k = (JJ l gap).length:=by omega
  have htk:(Q5 l gap day age).take (JJ l gap).length = Q5 l gap day age:=zl (by omega)
  simp only [faS,htk]
  (have zx:=za e1 (za d1 (za d2 (za d3 d4))));refine zgo ?_;repeat' first|exact zt|apply zan|intro hc
  all_goals
   refine Ql _ rfl ⟨?_,?_,rfl,trivial⟩
   ·show conv _ _ _ (.sl 4 ((JJ l gap).map QR.v)) (.sl 4 ((JJ l gap).map QR.v))
    simp [conv]
   show conv _ _ _ (.hd 0 0 (JJ l gap).length) _
   rw [← hfl]
   exact aoW rfl
 obtain ⟨hk',hget,hr⟩:=Qm hdr
 have hw:=Qg (k:=k) (by omega)
 have e1:decide ((k:Int) < ((JJ l gap).length:Int)) = true:=by simp;omega
 obtain ⟨o1,o2,o3,o4⟩:=hok e (zq hget)
 have p1:=(z3 l e day age (by omega) hz hN o1 o2 (by omega)).b
 rw [ad2,if_neg (by rw [hrg];decide)] at p1
 have hnx:(Q5 l gap day age).take (k + 1) = (Q5 l gap day age).take k++[Y8 l e.num e.finds day age]:=by
  rw [zR,Q5,zi,hget];rfl
 have htl:((Q5 l gap day age).take k).length = k:=by rw [zT];omega
 simp only [faS]
 have vx:((JJ l gap).map QR.v)[k]? = some e.v:=by rw [zi,hget];rfl
 simp only [QR.v] at vx p1
 have hxl:(((Q5 l gap day age).take k).map fcv).length = k:=by rw [zb,htl]
 have htk:List.take k (((Q5 l gap day age).take k).map fcv) = ((Q5 l gap day age).take k).map fcv:=zl (by omega)
 by_cases hk0:k = 0
 ·subst hk0
  simp only [List.take_zero,zL,akT,List.nil_append,ky] at *
  have hw1:IntKind.i64.wrap 1 = 1:=by decide
  (have zx:=za e1 (za hw (za hw1 (za vx e00))));refine zgo ?_;repeat' first|exact zt|apply zan|intro hc
  all_goals exact hL _ 1 (Qd [(0,20001)]) (by omega) (by omega) (Qh [(0,20001)] (by simp only [go_sem,zwl,faS,zb]<;>exact zcc) (by simp only [go_sem,zwl,faS,hnx,zN,zL,aoH,fcv]<;>exact zcc) (by simp [faS,Qd]) (by simp [faS];omega) (by omega))
 ·have hob:obO (((Q5 l gap day age).take k).map fcv) = .obuf true 1 (((Q5 l gap day age).take k).map fcv):=by
   rw [obO,if_neg]
   intro h;rw [h] at hxl;simp at hxl;omega
  rw [hob]
  have hjn:((Q5 l gap day age).take k).map fcv++[.sl 8 ((Y8 l e.num e.finds day age).map Qe.v)] = ((Q5 l gap day age).take (k + 1)).map fcv:=by
   rw [hnx,kz];rfl
  have hob2:obO (((Q5 l gap day age).take (k + 1)).map fcv) = .obuf true 1 (((Q5 l gap day age).take (k + 1)).map fcv):=by
   rw [← hjn,aoI]
  (have zx:=za e1 (za hw (za vx (za e00 (za hxl (za htk hjn))))));refine zgo ?_;repeat' first|exact zt|apply zan|intro hc
  all_goals exact hL _ (k + 1) (Qd [(0,20001)]) (by omega) (by omega) (Qh [(0,20001)] (by simp only [go_sem,zwl,faS,zb]<;>exact zcc) (by simp only [go_sem,zwl,faS,hob2,aoV,ap0]<;>exact zcc) (by simp [faS,Qd]) (by simp [faS];omega) (by omega))
end Av
end
