/- K28 -/
import Derived.Test.YtjolhibbihejgaaGreatK25
import Derived.Test.YtjolhibbihejgaaGreatK27
import Derived.Test.YtjolhibbihejgaaGreatK12
import Derived.Test.YtjolhibbihejgaaGreatK26
set_option linter.unusedVariables false
set_option linter.unusedSimpArgs false
noncomputable section
set_option maxRecDepth 10000
set_option maxHeartbeats 4000000
namespace Av
open Go
attribute [local irreducible] AWp UY qH yr awS awC aaT awQ abS Q1 Ub aaE awR Ux awB okR ym ris
theorem aeG:∀ a:List UInt8,Op.bytesLess a a = false
 | []=>rfl
 | c :: r=>by
   rw [Op.bytesLess,aeG r]
   simp
theorem yS:∀ a b c:List UInt8,Op.bytesLess a b = true→Op.bytesLess b c = true→Op.bytesLess a c = true
 | _,[],_,h,_=>by simp [Op.bytesLess] at h
 | _,_ :: _,[],_,h=>by simp [Op.bytesLess] at h
 | [],_ :: _,_ :: _,_,_=>rfl
 | x :: a,y :: b,z :: c,h1,h2=>by
   have ih:=yS a b c
   simp only [Op.bytesLess,kH,zC,zO,Zv] at h1 h2 ⊢
   rcases h1 with h1|⟨rfl,h1⟩
   ·rcases h2 with h2|⟨rfl,h2⟩
    ·exact .inl (UInt8.lt_trans h1 h2)
    ·exact .inl h1
   ·rcases h2 with h2|⟨rfl,h2⟩
    ·exact .inl h2
    ·exact .inr ⟨rfl,ih h1 h2⟩
theorem aeF:∀ a b:List UInt8,Op.bytesLess a b = false→Op.bytesLess b a = false→a = b
 | [],[],_,_=>rfl
 | [],_ :: _,h,_=>by simp [Op.bytesLess] at h
 | _ :: _,[],_,h=>by simp [Op.bytesLess] at h
 | x :: a,y :: b,h1,h2=>by
   simp only [Op.bytesLess,kp,Zm,zB,Zb] at h1 h2
   have hxy:x = y:=by
    rcases UInt8.lt_or_eq_of_le (UInt8.not_lt.1 h1.1) with h|h
    ·exact absurd h h2.1
    ·exact h.symm
   subst hxy
   rw [aeF a b (by rcases h1.2 with h|h;exact absurd rfl h;exact h) (by rcases h2.2 with h|h;exact absurd rfl h;exact h)]
theorem Cm.ze2 {α:Type} {c:α→α→Int} (h:Cm c) (a b d:α) (h1:c a b≤0) (h2:c b d≤0) (h3:c a d = 0):c b d = 0:=by
 have h4:=h.ze a b d h1 h2 h3
 have h5:=h.neg a d
 have h6:=h.neg a b
 exact h.ze b d a h2 (by omega) (by omega)
theorem yy:Cm yu:=by
 refine ⟨fun a b=>?_,fun a b d=>?_,fun a b d=>?_⟩<;>(unfold yu;repeat' split)<;>omega
theorem ajH {a b:List UInt8}:ack a b = 0→a = b:=by
 unfold ack
 rcases h1:Op.bytesLess a b with _|_
 ·rcases h2:Op.bytesLess b a with _|_
  ·intro _;exact aeF a b h1 h2
  ·simp
 ·simp
theorem aex {a b:Int}:yu a b = 0→a = b:=by
 unfold yu;(repeat' split)<;>omega
theorem ari {a b:List UInt8}:ack a b≤0↔Op.bytesLess b a = false:=by
 unfold ack
 rcases h1:Op.bytesLess a b with _|_
 ·rcases h2:Op.bytesLess b a with _|_<;>simp
 ·rcases h2:Op.bytesLess b a with _|_
  ·simp
  ·have:=yS a b a h1 h2
   rw [aeG] at this;cases this
theorem aiU:Cm ack:=by
 have hneg:∀ a b,ack b a = - ack a b:=fun a b=>by
  unfold ack
  rcases h1:Op.bytesLess a b with _|_<;>rcases h2:Op.bytesLess b a with _|_<;>simp
  have:=yS a b a h1 h2
  rw [aeG] at this;cases this
 have htr:∀ a b d,ack a b≤0→ack b d≤0→ack a d≤0:=fun a b d h1 h2=>by
  rw [ari] at *
  rcases h3:Op.bytesLess d a with _|_
  ·rfl
  ·rcases h4:Op.bytesLess a b with _|_
   ·have:=aeF a b h4 h1
    subst this;rw [h3] at h2;cases h2
   ·have:=yS d a b h3 h4
    rw [this] at h2;cases h2
 refine ⟨hneg,htr,fun a b d h1 h2 h3=>?_⟩
 have:=ajH h3
 subst this
 have:=hneg a b
 omega
theorem Cm.lex {α:Type} {c1 c2:α→α→Int} (h1:Cm c1) (h2:Cm c2):Cm fun a b=>if c1 a b≠0 then c1 a b else c2 a b:=by
 refine ⟨fun a b=>?_,fun a b d g1 g2=>?_,fun a b d g1 g2 g3=>?_⟩
 ·have:=h1.neg a b
  have:=h2.neg a b
  show (if c1 b a≠0 then c1 b a else c2 b a) = - (if c1 a b≠0 then c1 a b else c2 a b)
  split<;>split<;>omega
 ·have e1:c1 a b≤0:=by split at g1<;>omega
  have e2:c1 b d≤0:=by split at g2<;>omega
  have e3:=h1.tr a b d e1 e2
  split
  ·exact e3
  ·rename_i h
   have h:=Classical.not_not.1 h
   have z1:=h1.ze a b d e1 e2 h
   have z2:=h1.ze2 a b d e1 e2 h
   rw [if_neg (by simpa using z1)] at g1
   rw [if_neg (by simpa using z2)] at g2
   exact h2.tr a b d g1 g2
 ·have e1:c1 a b≤0:=by split at g1<;>omega
  have e2:c1 b d≤0:=by split at g2<;>omega
  have h:c1 a d = 0:=by split at g3<;>omega
  have z1:=h1.ze a b d e1 e2 h
  have z2:=h1.ze2 a b d e1 e2 h
  rw [if_neg (by simpa using z1)] at g1 ⊢
  rw [if_neg (by simpa using z2)] at g2
  rw [if_neg (by simpa using h)] at g3
  exact h2.ze a b d g1 g2 g3
theorem Cm.by {α β:Type} {c:α→α→Int} (h:Cm c) (f:β→α):Cm fun a b=>c (f a) (f b) :=
 ⟨fun a b=>h.neg _ _,fun a b d=>h.tr _ _ _,fun a b d=>h.ze _ _ _⟩
theorem aaz:Cm agL:=by
 have h0:Cm fun _ _:JF=>(0:Int):=⟨fun _ _=>rfl,fun _ _ _ _ _=>Int.le_refl _,fun _ _ _ _ _ _=>rfl⟩
 exact (aiU.by JF.subj).lex ((yy.by JF.kind).lex ((yy.by JF.alg).lex ((yy.by JF.bits).lex ((yy.by JF.num).lex ((aiU.by JF.text).lex h0)))))
theorem U4 {x:Int} {r:List Int}:U1 (x :: r) = 0→x = 0∧U1 r = 0:=by
 rw [U1]
 by_cases h:x≠0
 ·rw [if_pos h];intro h2;exact absurd h2 h
 ·rw [if_neg h];intro h2;exact ⟨Classical.not_not.1 h,h2⟩
theorem alX {a b:JF} (h:agL a b = 0):a.subj = b.subj∧a.kind = b.kind∧a.alg = b.alg∧a.bits = b.bits∧a.num = b.num∧a.text = b.text:=by
 obtain ⟨h1,h⟩:=U4 h
 obtain ⟨h2,h⟩:=U4 h
 obtain ⟨h3,h⟩:=U4 h
 obtain ⟨h4,h⟩:=U4 h
 obtain ⟨h5,h⟩:=U4 h
 obtain ⟨h6,h⟩:=U4 h
 exact ⟨ajH h1,aex h2,aex h3,aex h4,aex h5,ajH h6⟩
def anW (a b:JF):Bool:=decide (agL a b < 0)
theorem ahU (l:List JF):Ord anW (jj anW l):=by
 refine abe (fun x y z h1 h2=>?_) (fun x y h=>?_) l
 ·simp only [anW,zB,ZZ] at *
  have a1:=aaz.neg y x
  have a2:=aaz.neg z y
  have a3:=aaz.neg z x
  have:=aaz.tr x y z (by omega) (by omega)
  omega
 ·simp only [anW,zO,zB,ZZ] at *
  have a1:=aaz.neg x y
  omega
theorem ana {l r:List JF} (h:l.Perm r) (hd:∀ a∈l,∀ b∈l,agL a b = 0→a = b):jj anW l = jj anW r:=by
 refine Zr (le:=fun x y=>anW y x = false) (fun a b ha hb h1 h2=>?_) (ahU l) (ahU r) (Wp.trans (h.trans Wp.symm))
 refine hd a (Wp.mem_iff.1 ha) b (h.mem_iff.2 (Wp.mem_iff.1 hb)) ?_
 simp only [anW,zB,ZZ] at *
 have a1:=aaz.neg a b
 omega
abbrev PM:=List PPl×List Nat
def asa (f g:Qc):Bool:=decide (f.day > g.day) || (f.day == g.day && decide (f.conf > g.conf))
def alp (l:List Qc) (day age:Int) (m:PM) (i:Nat):PM :=
 match l[i]? with
 | none=>m
 | some f=>if f.day > day∨f.day < day - age then m else
   match ak4 (Xe f) m.1 0 with
   | none=>(m.1++[Xe f],m.2++[i])
   | some a=>match l[m.2.getD a 0]? with
     | none=>m
     | some g=>if asa f g = true then (m.1,m.2.set a i) else m
def ahH (l:List Qc) (day age:Int) (fs:List Nat):PM:=fs.foldl (alp l day age) ([],[])
theorem aeK {p:PPl}:∀ {ks:List PPl} {i a:Nat},ak4 p ks i = some a→i≤a∧a < i + ks.length∧ks[a - i]? = some p
 | [],i,a,h=>by cases h
 | e :: r,i,a,h=>by
   rw [ak4] at h
   split at h
   ·rename_i he
    cases h
    subst he
    exact ⟨zm _,by simp,by simp⟩
   ·obtain ⟨h1,h2,h3⟩:=aeK h
    refine ⟨by omega,by simp;omega,?_⟩
    rw [show a - i = (a - (i + 1)) + 1 by omega,List.getElem?_cons_succ];exact h3
theorem aii {p:PPl}:∀ {ks:List PPl} {i:Nat},ak4 p ks i = none→p ∉ ks
 | [],_,_=>by simp
 | e :: r,i,h=>by
   rw [ak4] at h
   split at h
   ·cases h
   ·rename_i he
    have:=aii h
    simp [he,this]
structure aji (l:List Qc) (m:PM) (n:Nat):Prop where
 len:m.1.length = m.2.length
 le:m.1.length≤n
 nd:m.1.Nodup
 pt:∀ (a i:Nat),m.2[a]? = some i→∃ f,l[i]? = some f∧m.1[a]? = some (Xe f)
theorem aji.nil (l:List Qc):aji l ([],[]) 0:=⟨rfl,zm _,ki,fun a i h=>by simp at h⟩
theorem aji.step {l:List Qc} {day age:Int} {m:PM} {n i:Nat} (h:aji l m n):aji l (alp l day age m i) (n + 1):=by
 have h0:aji l m (n + 1):=⟨h.len,ZE h.le,h.nd,h.pt⟩
 obtain ⟨ks,vs⟩:=m
 rw [alp]
 rcases hf:l[i]? with _|f
 ·exact h0
 dsimp only
 split
 ·exact h0
 rcases hx:ak4 (Xe f) ks 0 with _|a
 ·have hn:=aii hx
  have hl:=h.len
  have hle:=h.le
  dsimp only at hl hle
  refine ⟨by simp [hl],by simp;omega,?_,fun a j hj=>?_⟩
  ·dsimp only
   rw [kM]
   exact ⟨h.nd,by simp,fun x hx y hy=>by rw [zu.1 hy];exact fun he=>hn (he ▸ hx)⟩
  ·dsimp only at *
   rcases ZS a vs.length with ha|ha|ha
   ·rw [kf ha] at hj
    obtain ⟨g,g1,g2⟩:=h.pt a j hj
    exact ⟨g,g1,by rw [kf (by omega)];exact g2⟩
   ·subst ha
    rw [List.getElem?_concat_length] at hj
    cases hj
    exact ⟨f,hf,by rw [← hl,List.getElem?_concat_length]⟩
   ·rw [zX (by simp;omega)] at hj;cases hj
 ·dsimp only
  rcases hg:l[vs.getD a 0]? with _|g
  ·exact h0
  dsimp only
  split
  ·obtain ⟨a1,a2,a3⟩:=aeK hx
   have hl:=h.len
   dsimp only at hl
   refine ⟨by simp [hl],h0.le,h.nd,fun b j hj=>?_⟩
   dsimp only at *
   by_cases hb:a = b
   ·subst hb
    rw [List.getElem?_set_self (by omega)] at hj
    cases hj
    exact ⟨f,hf,by simpa using a3⟩
   ·rw [List.getElem?_set_ne hb] at hj
    exact h.pt b j hj
  ·exact h0
theorem akf (l:List Qc) (day age:Int) (fs:List Nat) (k:Nat) (hk:k≤fs.length):aji l (ahH l day age (fs.take k)) k:=by
 induction k with
 | zero=>exact aji.nil l
 | succ k ih =>
   have hlt:k < fs.length:=by omega
   rw [ahH,zJ,zd hlt,List.foldl_append]
   exact (ih (by omega)).step
theorem aow {l:List Qc} {day age:Int} {fs:List Nat} {k i:Nat} (h:fs[k]? = some i):ahH l day age (fs.take (k + 1)) = alp l day age (ahH l day age (fs.take k)) i:=by
 rw [ahH,zJ,h,List.foldl_append];rfl
def yw (num:Int) (i:Nat) (f:Qc):JF:=⟨num,f.subj,f.kind,f.alg,f.bits,f.num,f.text,i⟩
def vH (l:List Qc) (num:Int) (i:Nat):Option JF :=
 match l[i]? with
 | none=>none
 | some f=>if f.kind = 8 then none else some (yw num i f)
def V4 (l:List Qc) (num:Int) (fs:List Nat) (day age:Int):List JF:=jj anW ((ahH l day age fs).2.filterMap (vH l num))
def afX (l:List Qc) (num:Int) (vs is:List Nat):List JF:=is.filterMap fun a=>(vs[a]?).bind (vH l num)
theorem ahM (l:List Qc) (num:Int):∀ vs:List Nat,afX l num vs (List.range vs.length) = vs.filterMap (vH l num)
 | []=>rfl
 | x :: r=>by
   have ih:=ahM l num r
   rw [afX] at ih ⊢
   rw [List.length_cons,List.range_succ_eq_map,List.filterMap_cons,List.filterMap_map,List.filterMap_cons]
   simp only [List.getElem?_cons_zero,Option.bind_some]
   have:(fun a=>((x :: r)[a]?).bind (vH l num)) ∘ Nat.succ = fun a=>(r[a]?).bind (vH l num):=by
    funext a;simp
   rw [this,ih]
theorem akE {l:List Qc} {num day age:Int} {fs is:List Nat}:∀ a∈afX l num (ahH l day age fs).2 is,∀ b∈afX l num (ahH l day age fs).2 is,agL a b = 0→a = b:=by
 intro a ha b hb2 h0
 have hok:=akf l day age fs fs.length (zm _)
 rw [zN] at hok
 generalize ahH l day age fs = m at *
 obtain ⟨ks,vs⟩:=m
 dsimp only at *
 obtain ⟨h1,h2,h3,h4,h5,h6⟩:=alX h0
 have key:∀ c,c∈afX l num vs is→∃ (p i:Nat) (f:Qc),vs[p]? = some i∧l[i]? = some f∧f.kind≠8∧c = yw num i f:=fun c hc=>by
  rw [afX,ZO] at hc
  obtain ⟨p,_,hc⟩:=hc
  rcases hv:vs[p]? with _|i
  ·rw [hv] at hc;cases hc
  ·rw [hv,Option.bind_some,vH] at hc
   rcases hf:l[i]? with _|f
   ·rw [hf] at hc;cases hc
   ·rw [hf] at hc
    dsimp only at hc
    split at hc
    ·cases hc
    ·rename_i h8
     exact ⟨p,i,f,hv,hf,h8,(Option.some.inj hc).symm⟩
 obtain ⟨p,i,f,p1,p2,p3,rfl⟩:=key a ha
 obtain ⟨q,j,g,q1,q2,q3,rfl⟩:=key b hb2
 simp only [yw] at h1 h2 h3 h4 h5 h6
 obtain ⟨f',r1,r2⟩:=hok.pt p i p1
 obtain ⟨g',s1,s2⟩:=hok.pt q j q1
 rw [p2] at r1;cases r1
 rw [q2] at s1;cases s1
 have hpl:Xe f = Xe g:=by
  simp only [Xe]
  rw [h1,h2,h3,h4,h5,h6]
 have hpq:p = q:=by
  have l1:=(zj.1 r2).1
  rw [hpl,← s2] at r2
  exact (List.getElem?_inj l1 hok.nd).1 r2
 subst hpq
 rw [p1] at q1;cases q1
 rw [p2] at q2;cases q2
 rfl
theorem ao7 {l:List Qc} {num day age:Int} {fs is:List Nat} (hd:is.Nodup) (hb:∀ a∈is,a < (ahH l day age fs).2.length) (he:∀ a,a < (ahH l day age fs).2.length→a∈is):jj anW (afX l num (ahH l day age fs).2 is) = V4 l num fs day age:=by
 have hdist:=akE (l:=l) (num:=num) (day:=day) (age:=age) (fs:=fs) (is:=is)
 rw [V4,← ahM]
 generalize ahH l day age fs = m at *
 obtain ⟨ks,vs⟩:=m
 dsimp only at *
 have hp:is.Perm (List.range vs.length):=by
  rw [List.perm_ext_iff_of_nodup hd List.nodup_range]
  intro a
  rw [Zj]
  exact ⟨hb a,he a⟩
 exact ana (hp.filterMap _) hdist
def apm (day age:Int):Bool:=decide (day < 0) || (decide (day > 40000) || (decide (age < 0) || decide (age > 4000)))
structure aoZ (l:List Qc) (gap day age:Int):Prop where
 nm:vG l = true
 g:0≤gap∧gap≤4000
 d:0≤day∧day≤40000
 a:0≤age∧age≤4000
theorem ajz {day age:Int}:apm day age = false↔(0≤day∧day≤40000)∧(0≤age∧age≤4000):=by
 simp only [apm,kp,zB]
 omega
theorem aoZ.rng {l:List Qc} {gap day age:Int} (h:aoZ l gap day age):apm day age = false:=ajz.2 ⟨h.d,h.a⟩
def fcE (e:Jp):List V:=[V.int e.num,.sl 1 (e.hosts.map V.str),.sl 1 (e.machs.map V.int),.sl 1 (Jc e.finds)]
def wj (l:List Qc) (e:Jp) (day age:Int) (k:Nat) (m:PM):St:=Yh [(0,.sl 11 (l.map Qc.v)),(2,V.int day),(3,V.int age),(5,.ptr 0 0),(12,.mp 1),(51,.sl 1 (Jc e.finds)),(52,V.int e.finds.length),(53,V.int k)] [(0,.box true (fcE e)),(1,.map (m.1.map PPl.v) (Jc m.2) 0)] 2
def aeR (l:List Qc) (e:Jp) (m:PM) (is:List Nat):St:=Yh [(0,.sl 11 (l.map Qc.v)),(5,.ptr 0 0),(18,.hd 3 0 (afX l e.num m.2 is).length),(118,.ptr 2 0)] [(0,.box true (fcE e)),(1,.map (m.1.map PPl.v) (Jc m.2) 0),(2,.iter 1 m.2.length is m.2.length),(3,.buf true 8 ((afX l e.num m.2 is).map JF.v))] 4
def aiu (l:List Qc) (e:Jp) (day age:Int):V:=if apm day age = true then .tup [.sl 8 [],V.int 2] else .tup [.sl 8 ((V4 l e.num e.finds day age).map JF.v),V.int 0]
def qp:=qd Proofs.Tryz.f83 [zhn 32]
def yi (Γ:Env) (f:Nat):Prop:=∀ (l:List Qc) (e:Jp) (day age:Int) (hl:l.length < 2 ^ 40) (hz:∀ x∈l,x.Sz) (hnm:vG l = true) (ha:e.finds.Pairwise (· < ·)) (hb:∀ i∈e.finds,i < l.length) (hn:e.finds.length < 2 ^ 30),EvC Γ f [.sl 11 (l.map Qc.v),e.v,V.int day,V.int age] (aiu l e day age)
theorem afJ {Γ:Env} {f:Nat} (h:Has Γ.P f 150 qp.1.1.ac qp.1.2) (z0:KX Γ 113) (z1:W5 Γ 105) (z2:aaS Γ 114) (z3:Ye Γ 115) (z4:KY Γ 116):yi Γ f:=by
 intro l e day age hl hz hnm ha hb hn
 refine Ql h zsi (by unfold aiu;split<;>simp only [V.closed,Qd,and_self]) fun C hC hm=>?_
 subst hC
 simp only [qp,qd,DC.ac]
 have gI:=z0 l e ha hb hn
 have gN:=z1 l hl hz
 rw [hnm] at gN
 have gN:=gN.b
 have hpc:(Jc e.finds).length = e.finds.length:=zb _
 simp only [Jp.v] at gI
 rcases hrg:apm day age with _|_
 rotate_left
 ·rw [aiu,if_pos hrg]
  rw [apm] at hrg
  simp only [Jp.v]
  rcases d1:decide (day < 0) with _|_
  rotate_left
  ·repeat' (first|(refine zsk ?_;intro K' hK)|(refine zrg ?_;intro K' hK)|refine zsp ?_|(refine zsc ?_ ?_<;>intro hc<;>first|exact znh|try simp only [znz] at hc)|simp (maxSteps:=1000000) only [go_sem,d1,hpc]|(refine hK _ ?_;clear hK K')|apply zan|(apply Vq;(focus exact rfl);(focus first|exact (z3 _ _ _ zsd zsd zsd zsd zsd));(focus exact rfl);(focus (first|(simp;done)|omega|(simp only [zb];omega))))|((first|apply QJ|apply Jn);(focus first|exact C gI|exact gN|exact (z0 _ _ zsd zsd zsd).b|exact (z1 _ zsd zsd).b|exact (z2 _).b))|exact zsq|fail)
   all_goals exact zr
  rcases d2:decide (day > 40000) with _|_
  rotate_left
  ·repeat' (first|(refine zsk ?_;intro K' hK)|(refine zrg ?_;intro K' hK)|refine zsp ?_|(refine zsc ?_ ?_<;>intro hc<;>first|exact znh|try simp only [znz] at hc)|simp (maxSteps:=1000000) only [go_sem,d1,d2,hpc]|(refine hK _ ?_;clear hK K')|apply zan|(apply Vq;(focus exact rfl);(focus first|exact (z3 _ _ _ zsd zsd zsd zsd zsd));(focus exact rfl);(focus (first|(simp;done)|omega|(simp only [zb];omega))))|((first|apply QJ|apply Jn);(focus first|exact C gI|exact gN|exact (z0 _ _ zsd zsd zsd).b|exact (z1 _ zsd zsd).b|exact (z2 _).b))|exact zsq|fail)
   all_goals exact zr
  rcases d3:decide (age < 0) with _|_
  rotate_left
  ·repeat' (first|(refine zsk ?_;intro K' hK)|(refine zrg ?_;intro K' hK)|refine zsp ?_|(refine zsc ?_ ?_<;>intro hc<;>first|exact znh|try simp only [znz] at hc)|simp (maxSteps:=1000000) only [go_sem,d1,d2,d3,hpc]|(refine hK _ ?_;clear hK K')|apply zan|(apply Vq;(focus exact rfl);(focus first|exact (z3 _ _ _ zsd zsd zsd zsd zsd));(focus exact rfl);(focus (first|(simp;done)|omega|(simp only [zb];omega))))|((first|apply QJ|apply Jn);(focus first|exact C gI|exact gN|exact (z0 _ _ zsd zsd zsd).b|exact (z1 _ zsd zsd).b|exact (z2 _).b))|exact zsq|fail)
   all_goals exact zr
  have d4:decide (age > 4000) = true:=by rw [d1,d2,d3] at hrg;exact hrg
  repeat' (first|(refine zsk ?_;intro K' hK)|(refine zrg ?_;intro K' hK)|refine zsp ?_|(refine zsc ?_ ?_<;>intro hc<;>first|exact znh|try simp only [znz] at hc)|simp (maxSteps:=1000000) only [go_sem,d1,d2,d3,d4,hpc]|(refine hK _ ?_;clear hK K')|apply zan|(apply Vq;(focus exact rfl);(focus first|exact (z3 _ _ _ zsd zsd zsd zsd zsd));(focus exact rfl);(focus (first|(simp;done)|omega|(simp only [zb];omega))))|((first|apply QJ|apply Jn);(focus first|exact C gI|exact gN|exact (z0 _ _ zsd zsd zsd).b|exact (z1 _ zsd zsd).b|exact (z2 _).b))|exact zsq|fail)
  all_goals exact zr
 rw [aiu,if_neg (by rw [hrg];decide)]
 obtain ⟨hdy,hag⟩:=ajz.1 hrg
 have d1:decide (day < 0) = false:=zp (by omega)
 have d2:decide (day > 40000) = false:=zp (by omega)
 have d3:decide (age < 0) = false:=zp (by omega)
 have d4:decide (age > 4000) = false:=zp (by omega)
 simp only [Jp.v]
 repeat' (first|(refine zsk ?_;intro K' hK)|(refine zrg ?_;intro K' hK)|refine zsp ?_|(refine zsc ?_ ?_<;>intro hc<;>first|exact znh|try simp only [znz] at hc)|simp (maxSteps:=1000000) only [go_sem,d1,d2,d3,d4,hpc]|(refine hK _ ?_;clear hK K')|apply zan|(apply Vq;(focus exact rfl);(focus first|exact (z3 _ _ _ zsd zsd zsd zsd zsd));(focus exact rfl);(focus (first|(simp;done)|omega|(simp only [zb];omega))))|((first|apply QJ|apply Jn);(focus first|exact C gI|exact gN|exact (z0 _ _ zsd zsd zsd).b|exact (z1 _ zsd zsd).b|exact (z2 _).b))|exact zsq|fail)
 refine Qs (ι:=Nat) (fun k=>k≤e.finds.length) (fun k=>wj l e day age k (ahH l day age (e.finds.take k))) (fun k=>e.finds.length - k) 0 (zA _) (Qf [(1,33000)]) (Qo [(1,33000)] (by simp only [go_sem,zwl,wj,fcE,zb]<;>exact zcc) (by simp only [go_sem,zwl,wj,fcE,QP,Jj]<;>exact zcc) (by simp [wj,Qf]) (by simp [wj];omega) (by omega)) fun k hk K' hL=>?_
 have hM:=akf l day age e.finds k hk
 rcases hdr:e.finds.drop k with _|⟨i,r⟩
 ·have hkl:=Qr hdr
  have e1:decide ((k:Int) < (e.finds.length:Int)) = false:=by simp;omega
  obtain rfl:k = e.finds.length:=by omega
  clear hL
  rw [zN] at hM ⊢
  have hvs:=fun is hd hb he=>ao7 (l:=l) (num:=(e.num:Int)) (day:=day) (age:=age) (fs:=e.finds) (is:=is) hd hb he
  have hds:=fun is=>akE (l:=l) (num:=(e.num:Int)) (day:=day) (age:=age) (fs:=e.finds) (is:=is)
  generalize ahH l day age e.finds = m at *
  have hkl:m.1.length = m.2.length:=hM.len
  repeat' (first|(refine zsk ?_;intro K' hK)|(refine zrg ?_;intro K' hK)|refine zsp ?_|(refine zsc ?_ ?_<;>intro hc<;>first|exact znh|try simp only [znz] at hc)|simp (maxSteps:=1000000) only [go_sem,wj,fcE,Yh,e1,hkl,zb,zT]|(refine hK _ ?_;clear hK K')|apply zan|(apply Vq;(focus exact rfl);(focus first|exact (z3 _ _ _ zsd zsd zsd zsd zsd));(focus exact rfl);(focus (first|(simp;done)|omega|(simp only [zb];omega))))|((first|apply QJ|apply Jn);(focus first|exact (z0 _ _ zsd zsd zsd).b|exact (z1 _ zsd zsd).b|exact (z2 _).b))|exact zsq|fail)
  have hv0:afX l e.num m.2 [] = []:=rfl
  refine Qs (ι:=List Nat) (fun is=>is.Nodup∧∀ a∈is,a < m.2.length) (fun is=>aeR l e m is) (fun is=>m.2.length - is.length) [] ⟨ki,by simp⟩ (Qf [(3,1002),(2,3002)]) (Qo [(3,1002),(2,3002)] (by simp only [go_sem,zwl,aeR,fcE,hv0,List.length_nil,zw,zb]<;>exact zcc) (by simp only [go_sem,zwl,aeR,fcE,hv0,List.length_nil,zw,QP,Jj]<;>exact zcc) (by simp [aeR,Qf]) (by simp [aeR];omega) (by omega)) fun is his K' hL=>?_
  obtain ⟨his1,his2⟩:=his
  have hln:∀ js:List Nat,js.Nodup→(∀ a∈js,a < m.2.length)→js.length≤m.2.length:=fun js h1 h2=>by
   have:=List.Nodup.length_le_of_subset h1 (fun a ha=>Zj.2 (h2 a ha))
   rwa [Zp] at this
  have hvl:(afX l e.num m.2 is).length≤is.length:=kN _ _
  have hil:=hln is his1 his2
  have hml:=hM.le
  rcases hun:aaX 0 m.2.length is with _|⟨u,us⟩
  ·have hall:∀ a,a < m.2.length→a∈is:=fun a ha=>by
    by_cases hin:a∈is
    ·exact hin
    ·have:a∈aaX 0 m.2.length is:=qA.2 ⟨ha,by rwa [zT]⟩
     rw [hun] at this;cases this
   have hsort:=hvs is his1 his2 hall
   have hdist:=hds is
   clear hL hvs hds
   simp only [aeR,fcE]
   generalize afX l e.num m.2 is = out at *
   have hol:out.length < 2 ^ 30:=by omega
   have gT:=z3 out 116 agL z4.1 (z4.2 _ rfl) aaz hdist (by omega)
   have d5:(fun x y:JF=>decide (agL x y < 0)) = anW:=rfl
   rw [d5,hsort] at gT
   have htk:List.take out.length ((V4 l e.num e.finds day age).map JF.v) = (V4 l e.num e.finds day age).map JF.v:=zi (by rw [zb,← hsort,qK];omega)
   repeat' (first|(refine zsk ?_;intro K' hK)|(refine zrg ?_;intro K' hK)|refine zsp ?_|(refine zsc ?_ ?_<;>intro hc<;>first|exact znh|try simp only [znz] at hc)|simp (maxSteps:=1000000) only [go_sem,Yh,hkl,zb,zT,hun,htk]|(refine hK _ ?_;clear hK K')|apply zan|(apply Vq;(focus exact rfl);(focus first|exact gT|exact (z3 _ _ _ zsd zsd zsd zsd zsd));(focus exact rfl);(focus (first|(simp;done)|omega|(simp only [zb];omega))))|((first|apply QJ|apply Jn);(focus first|exact (z0 _ _ zsd zsd zsd).b|exact (z1 _ zsd zsd).b|exact (z2 _).b))|exact zsq|fail)
   all_goals (refine Qi _ rfl ?_;simp only [go_sem];rw [htk];done)
  have hU:∀ x,x∈u :: us→x < m.2.length∧x ∉ is∧∃ i f,m.2[x]? = some i∧l[i]? = some f∧m.1[x]? = some (Xe f):=fun x hx=>by
   have h1:=qA.1 (hun ▸ hx)
   rw [zT] at h1
   obtain ⟨f,h2,h3⟩:=hM.pt x _ (zd h1.1)
   exact ⟨h1.1,h1.2,_,f,zd h1.1,h2,h3⟩
  have hvis:∀ x i,m.2[x]? = some i→afX l e.num m.2 (is++[x]) = afX l e.num m.2 is++(vH l e.num i).toList:=fun x i h=>by
   rw [afX,afX,ZX,List.filterMap_cons,h,Option.bind_some,List.filterMap_nil]
   rcases vH l e.num i with _|y<;>rfl
  clear hvs hds
  simp only [aeR,fcE]
  repeat' (first|(refine zsk ?_;intro K' hK)|(refine zrg ?_;intro K' hK)|refine zsp ?_|(refine zsc ?_ ?_<;>intro hc<;>first|exact znh|try simp only [znz] at hc)|simp (maxSteps:=1000000) only [go_sem,Yh,hkl,zb,zT,hun]|(refine hK _ ?_;clear hK K')|apply zan|(apply Vq;(focus exact rfl);(focus first|exact (z3 _ _ _ zsd zsd zsd zsd zsd));(focus exact rfl);(focus (first|(simp;done)|omega|(simp only [zb];omega))))|((first|apply QJ|apply Jn);(focus first|exact (z0 _ _ zsd zsd zsd).b|exact (z1 _ zsd zsd).b|exact (z2 _).b))|exact zsq|fail)
  ·obtain ⟨x,hx0⟩:∃ x,x = u:=⟨u,rfl⟩
   have hx:x∈u :: us:=hx0 ▸ kD
   rw [← hx0]
   obtain ⟨hx1,hx2,i,f,hvx,hfx,hkx⟩:=hU x hx
   have vk:(m.1.map PPl.v)[x]? = some (Xe f).v:=by rw [zk,hkx];rfl
   have vv:=KF hvx
   have hv1:=hvis x i hvx
   have hnd:(is++[x]).Nodup:=by rw [kM];exact ⟨his1,by simp,fun a ha b hb=>by rw [zu.1 hb];exact fun he=>hx2 (he ▸ ha)⟩
   have hbd:∀ a∈is++[x],a < m.2.length:=fun a ha=>by
    rcases zU.1 ha with h|h
    ·exact his2 a h
    ·rw [zu.1 h];exact hx1
   have hln2:=hln _ hnd hbd
   rw [zn,List.length_singleton] at hln2
   have hms:m.2.length - (is++[x]).length < m.2.length - is.length:=by rw [zn,List.length_singleton];omega
   by_cases h8:f.kind = 8
   ·have e8:(f.kind != 8) = false:=by simpa using h8
    rw [vH,hfx] at hv1
    simp only [h8,if_true,Option.toList_none,zW] at hv1
    repeat' (first|(refine zsk ?_;intro K' hK)|(refine zrg ?_;intro K' hK)|refine zsp ?_|(refine zsc ?_ ?_<;>intro hc<;>first|exact znh|try simp only [znz] at hc)|simp (maxSteps:=1000000) only [go_sem,Yh,hkl,e8,vk,vv,hfx,Int.toNat_natCast,zk,zb,zT,kl,Nat.sub_zero,zA,Qc.v,Qc.cells]|(refine hK _ ?_;clear hK K')|apply zan|(apply Vq;(focus exact rfl);(focus first|exact (z3 _ _ _ zsd zsd zsd zsd zsd));(focus exact rfl);(focus (first|(simp;done)|omega|(simp only [zb];omega))))|((first|apply QJ|apply Jn);(focus first|exact (z0 _ _ zsd zsd zsd).b|exact (z1 _ zsd zsd).b|exact (z2 _).b))|exact zsq|fail)
    all_goals exact hL _ (is++[x]) (Qf []) ⟨hnd,hbd⟩ hms (Qo [] (by simp only [go_sem,zwl,aeR,fcE,hv1,zb]<;>exact zcc) (by simp only [go_sem,zwl,aeR,fcE,hv1,QP,Jj]<;>exact zcc) (by simp [aeR,Qf]) (by simp [aeR]) (by omega))
   ·have e8:(f.kind != 8) = true:=by simpa using h8
    rw [vH,hfx] at hv1
    simp only [h8,if_false,Option.toList_some] at hv1
    have hol:(afX l e.num m.2 is).length < 2 ^ 30:=by omega
    generalize afX l e.num m.2 is = out at *
    have hll:(out.map JF.v).length = out.length:=zb _
    have htk:(out.map JF.v).take out.length = out.map JF.v:=zi (by simp)
    repeat' (first|(refine zsk ?_;intro K' hK)|(refine zrg ?_;intro K' hK)|refine zsp ?_|(refine zsc ?_ ?_<;>intro hc<;>first|exact znh|try simp only [znz] at hc)|simp (maxSteps:=1000000) only [go_sem,Yh,hkl,e8,vk,vv,hfx,htk,hll,Int.toNat_natCast,zk,zb,zT,kl,Nat.sub_zero,zA,Qc.v,Qc.cells]|(refine hK _ ?_;clear hK K')|apply zan|(apply Vq;(focus exact rfl);(focus first|exact (z3 _ _ _ zsd zsd zsd zsd zsd));(focus exact rfl);(focus (first|(simp;done)|omega|(simp only [zb];omega))))|((first|apply QJ|apply Jn);(focus first|exact (z0 _ _ zsd zsd zsd).b|exact (z1 _ zsd zsd).b|exact (z2 _).b))|exact zsq|fail)
    all_goals exact hL _ (is++[x]) (Qf [(3,30004)]) ⟨hnd,hbd⟩ hms (Qo [(3,30004)] (by simp only [go_sem,zwl,aeR,fcE,hv1,zn,List.length_singleton]<;>exact zcc) (by simp only [go_sem,zwl,aeR,fcE,hv1,QP,Jj,kc,zy,zw,JF.v,JF.cells,yw]<;>exact zcc) (by simp [aeR,Qf]) (by simp [aeR];omega) (by omega))
  ·intro x hx
   have hx:x∈u :: us:=kE _ hx
   obtain ⟨hx1,hx2,i,f,hvx,hfx,hkx⟩:=hU x hx
   have vk:(m.1.map PPl.v)[x]? = some (Xe f).v:=by rw [zk,hkx];rfl
   have vv:=KF hvx
   have hv1:=hvis x i hvx
   have hnd:(is++[x]).Nodup:=by rw [kM];exact ⟨his1,by simp,fun a ha b hb=>by rw [zu.1 hb];exact fun he=>hx2 (he ▸ ha)⟩
   have hbd:∀ a∈is++[x],a < m.2.length:=fun a ha=>by
    rcases zU.1 ha with h|h
    ·exact his2 a h
    ·rw [zu.1 h];exact hx1
   have hln2:=hln _ hnd hbd
   rw [zn,List.length_singleton] at hln2
   have hms:m.2.length - (is++[x]).length < m.2.length - is.length:=by rw [zn,List.length_singleton];omega
   by_cases h8:f.kind = 8
   ·have e8:(f.kind != 8) = false:=by simpa using h8
    rw [vH,hfx] at hv1
    simp only [h8,if_true,Option.toList_none,zW] at hv1
    repeat' (first|(refine zsk ?_;intro K' hK)|(refine zrg ?_;intro K' hK)|refine zsp ?_|(refine zsc ?_ ?_<;>intro hc<;>first|exact znh|try simp only [znz] at hc)|simp (maxSteps:=1000000) only [go_sem,Yh,hkl,e8,vk,vv,hfx,Int.toNat_natCast,zk,zb,zT,kl,Nat.sub_zero,zA,Qc.v,Qc.cells]|(refine hK _ ?_;clear hK K')|apply zan|(apply Vq;(focus exact rfl);(focus first|exact (z3 _ _ _ zsd zsd zsd zsd zsd));(focus exact rfl);(focus (first|(simp;done)|omega|(simp only [zb];omega))))|((first|apply QJ|apply Jn);(focus first|exact (z0 _ _ zsd zsd zsd).b|exact (z1 _ zsd zsd).b|exact (z2 _).b))|exact zsq|fail)
    all_goals exact hL _ (is++[x]) (Qf []) ⟨hnd,hbd⟩ hms (Qo [] (by simp only [go_sem,zwl,aeR,fcE,hv1,zb]<;>exact zcc) (by simp only [go_sem,zwl,aeR,fcE,hv1,QP,Jj]<;>exact zcc) (by simp [aeR,Qf]) (by simp [aeR]) (by omega))
   ·have e8:(f.kind != 8) = true:=by simpa using h8
    rw [vH,hfx] at hv1
    simp only [h8,if_false,Option.toList_some] at hv1
    have hol:(afX l e.num m.2 is).length < 2 ^ 30:=by omega
    generalize afX l e.num m.2 is = out at *
    have hll:(out.map JF.v).length = out.length:=zb _
    have htk:(out.map JF.v).take out.length = out.map JF.v:=zi (by simp)
    repeat' (first|(refine zsk ?_;intro K' hK)|(refine zrg ?_;intro K' hK)|refine zsp ?_|(refine zsc ?_ ?_<;>intro hc<;>first|exact znh|try simp only [znz] at hc)|simp (maxSteps:=1000000) only [go_sem,Yh,hkl,e8,vk,vv,hfx,htk,hll,Int.toNat_natCast,zk,zb,zT,kl,Nat.sub_zero,zA,Qc.v,Qc.cells]|(refine hK _ ?_;clear hK K')|apply zan|(apply Vq;(focus exact rfl);(focus first|exact (z3 _ _ _ zsd zsd zsd zsd zsd));(focus exact rfl);(focus (first|(simp;done)|omega|(simp only [zb];omega))))|((first|apply QJ|apply Jn);(focus first|exact (z0 _ _ zsd zsd zsd).b|exact (z1 _ zsd zsd).b|exact (z2 _).b))|exact zsq|fail)
    all_goals exact hL _ (is++[x]) (Qf [(3,30004)]) ⟨hnd,hbd⟩ hms (Qo [(3,30004)] (by simp only [go_sem,zwl,aeR,fcE,hv1,zn,List.length_singleton]<;>exact zcc) (by simp only [go_sem,zwl,aeR,fcE,hv1,QP,Jj,kc,zy,zw,JF.v,JF.cells,yw]<;>exact zcc) (by simp [aeR,Qf]) (by simp [aeR];omega) (by omega))
 obtain ⟨hk',hget,hr⟩:=Qk hdr
 have hw:=Qg (k:=k) (by omega)
 have e1:decide ((k:Int) < (e.finds.length:Int)) = true:=by simp;omega
 have hsu:=aow (l:=l) (day:=day) (age:=age) hget
 obtain ⟨f,hf⟩:∃ f,l[i]? = some f:=⟨_,zd (hb i (zq hget))⟩
 generalize ahH l day age (e.finds.take k) = m at *
 obtain ⟨ks,vs⟩:=m
 have hvi:=KF hget
 have hwd:IntKind.i64.wrap (day - age) = day - age:=Q9 (by omega) (by omega)
 rw [alp,hf] at hsu
 dsimp only at hsu
 simp only [wj,fcE]
 rcases h1:decide (f.day > day) with _|_
 ·rcases h2:decide (f.day < day - age) with _|_
  ·rw [if_neg (by simp at h1 h2;omega)] at hsu
   have p1:=(z2 f).b
   have hfk:=air (Xe f) ks 0
   have hek:=ap0 (Xe f)
   have hlen:=hM.len
   dsimp only at hlen
   simp only [Qc.v,Qc.cells] at p1
   rcases hix:ak4 (Xe f) ks 0 with _|a
   ·rw [hix] at hsu hfk
    have hm1:ks.map PPl.v++[(Xe f).v] = (ks++[Xe f]).map PPl.v:=by simp
    have hm2:=wd vs i
    repeat' (first|(refine zsk ?_;intro K' hK)|(refine zrg ?_;intro K' hK)|refine zsp ?_|(refine zsc ?_ ?_<;>intro hc<;>first|exact znh|try simp only [znz] at hc)|simp (maxSteps:=1000000) only [go_sem,Yh,e1,hw,hwd,h1,h2,hfk,hek,hm1,hm2,hvi,hf,Int.toNat_natCast,zk,Qc.v,Qc.cells]|(refine hK _ ?_;clear hK K')|apply zan|(apply Vq;(focus exact rfl);(focus first|exact (z3 _ _ _ zsd zsd zsd zsd zsd));(focus exact rfl);(focus (first|(simp;done)|omega|(simp only [zb];omega))))|((first|apply QJ|apply Jn);(focus first|exact p1|exact (z0 _ _ zsd zsd zsd).b|exact (z1 _ zsd zsd).b|exact (z2 _).b))|exact zsq|fail)
    all_goals exact hL _ (k + 1) (Qf []) (by omega) (by omega) (by rw [hsu];exact Qo [] (by simp only [go_sem,zwl,wj,fcE,zb]<;>exact zcc) (by simp only [go_sem,zwl,wj,fcE,QP,Jj]<;>exact zcc) (by simp [wj,Qf]) (by simp [wj]) (by omega))
   ·rw [hix] at hsu hfk
    have hal:=(aeK hix).2.1
    obtain ⟨v,hv⟩:∃ v,vs[a]? = some v:=⟨_,zd (by omega)⟩
    obtain ⟨g,hg,-⟩:=hM.pt a v hv
    have hvd:vs.getD a 0 = v:=by rw [zK,hv];rfl
    simp only [hvd,hg] at hsu
    have hvc:=KF hv
    have hm1:=aet vs a i
    rcases h3:decide (f.day > g.day) with _|_
    ·rcases h4:f.day == g.day with _|_
     ·rw [asa,h3,h4,if_neg (by simp)] at hsu
      repeat' (first|(refine zsk ?_;intro K' hK)|(refine zrg ?_;intro K' hK)|refine zsp ?_|(refine zsc ?_ ?_<;>intro hc<;>first|exact znh|try simp only [znz] at hc)|simp (maxSteps:=1000000) only [go_sem,Yh,e1,hw,hwd,h1,h2,h3,h4,hfk,hek,hm1,hvc,hvi,hf,hg,Int.toNat_natCast,zk,Qc.v,Qc.cells]|(refine hK _ ?_;clear hK K')|apply zan|(apply Vq;(focus exact rfl);(focus first|exact (z3 _ _ _ zsd zsd zsd zsd zsd));(focus exact rfl);(focus (first|(simp;done)|omega|(simp only [zb];omega))))|((first|apply QJ|apply Jn);(focus first|exact p1|exact (z0 _ _ zsd zsd zsd).b|exact (z1 _ zsd zsd).b|exact (z2 _).b))|exact zsq|fail)
      all_goals exact hL _ (k + 1) (Qf []) (by omega) (by omega) (by rw [hsu];exact Qo [] (by simp only [go_sem,zwl,wj,fcE,zb]<;>exact zcc) (by simp only [go_sem,zwl,wj,fcE,QP,Jj]<;>exact zcc) (by simp [wj,Qf]) (by simp [wj]) (by omega))
     ·rcases h5:decide (f.conf > g.conf) with _|_
      ·rw [asa,h3,h4,h5,if_neg (by decide)] at hsu
       repeat' (first|(refine zsk ?_;intro K' hK)|(refine zrg ?_;intro K' hK)|refine zsp ?_|(refine zsc ?_ ?_<;>intro hc<;>first|exact znh|try simp only [znz] at hc)|simp (maxSteps:=1000000) only [go_sem,Yh,e1,hw,hwd,h1,h2,h3,h4,h5,hfk,hek,hm1,hvc,hvi,hf,hg,Int.toNat_natCast,zk,Qc.v,Qc.cells]|(refine hK _ ?_;clear hK K')|apply zan|(apply Vq;(focus exact rfl);(focus first|exact (z3 _ _ _ zsd zsd zsd zsd zsd));(focus exact rfl);(focus (first|(simp;done)|omega|(simp only [zb];omega))))|((first|apply QJ|apply Jn);(focus first|exact p1|exact (z0 _ _ zsd zsd zsd).b|exact (z1 _ zsd zsd).b|exact (z2 _).b))|exact zsq|fail)
       all_goals exact hL _ (k + 1) (Qf []) (by omega) (by omega) (by rw [hsu];exact Qo [] (by simp only [go_sem,zwl,wj,fcE,zb]<;>exact zcc) (by simp only [go_sem,zwl,wj,fcE,QP,Jj]<;>exact zcc) (by simp [wj,Qf]) (by simp [wj]) (by omega))
      ·rw [asa,h3,h4,h5,if_pos (by decide)] at hsu
       repeat' (first|(refine zsk ?_;intro K' hK)|(refine zrg ?_;intro K' hK)|refine zsp ?_|(refine zsc ?_ ?_<;>intro hc<;>first|exact znh|try simp only [znz] at hc)|simp (maxSteps:=1000000) only [go_sem,Yh,e1,hw,hwd,h1,h2,h3,h4,h5,hfk,hek,hm1,hvc,hvi,hf,hg,Int.toNat_natCast,zk,Qc.v,Qc.cells]|(refine hK _ ?_;clear hK K')|apply zan|(apply Vq;(focus exact rfl);(focus first|exact (z3 _ _ _ zsd zsd zsd zsd zsd));(focus exact rfl);(focus (first|(simp;done)|omega|(simp only [zb];omega))))|((first|apply QJ|apply Jn);(focus first|exact p1|exact (z0 _ _ zsd zsd zsd).b|exact (z1 _ zsd zsd).b|exact (z2 _).b))|exact zsq|fail)
       all_goals exact hL _ (k + 1) (Qf []) (by omega) (by omega) (by rw [hsu];exact Qo [] (by simp only [go_sem,zwl,wj,fcE,zb]<;>exact zcc) (by simp only [go_sem,zwl,wj,fcE,QP,Jj]<;>exact zcc) (by simp [wj,Qf]) (by simp [wj]) (by omega))
    ·rw [asa,h3,if_pos (by simp)] at hsu
     repeat' (first|(refine zsk ?_;intro K' hK)|(refine zrg ?_;intro K' hK)|refine zsp ?_|(refine zsc ?_ ?_<;>intro hc<;>first|exact znh|try simp only [znz] at hc)|simp (maxSteps:=1000000) only [go_sem,Yh,e1,hw,hwd,h1,h2,h3,hfk,hek,hm1,hvc,hvi,hf,hg,Int.toNat_natCast,zk,Qc.v,Qc.cells]|(refine hK _ ?_;clear hK K')|apply zan|(apply Vq;(focus exact rfl);(focus first|exact (z3 _ _ _ zsd zsd zsd zsd zsd));(focus exact rfl);(focus (first|(simp;done)|omega|(simp only [zb];omega))))|((first|apply QJ|apply Jn);(focus first|exact p1|exact (z0 _ _ zsd zsd zsd).b|exact (z1 _ zsd zsd).b|exact (z2 _).b))|exact zsq|fail)
     all_goals exact hL _ (k + 1) (Qf []) (by omega) (by omega) (by rw [hsu];exact Qo [] (by simp only [go_sem,zwl,wj,fcE,zb]<;>exact zcc) (by simp only [go_sem,zwl,wj,fcE,QP,Jj]<;>exact zcc) (by simp [wj,Qf]) (by simp [wj]) (by omega))
  ·rw [if_pos (by simp at h1 h2;omega)] at hsu
   repeat' (first|(refine zsk ?_;intro K' hK)|(refine zrg ?_;intro K' hK)|refine zsp ?_|(refine zsc ?_ ?_<;>intro hc<;>first|exact znh|try simp only [znz] at hc)|simp (maxSteps:=1000000) only [go_sem,Yh,e1,hw,hwd,h1,h2,hvi,hf,Int.toNat_natCast,zk,Qc.v,Qc.cells]|(refine hK _ ?_;clear hK K')|apply zan|(apply Vq;(focus exact rfl);(focus first|exact (z3 _ _ _ zsd zsd zsd zsd zsd));(focus exact rfl);(focus (first|(simp;done)|omega|(simp only [zb];omega))))|((first|apply QJ|apply Jn);(focus first|exact (z0 _ _ zsd zsd zsd).b|exact (z1 _ zsd zsd).b|exact (z2 _).b))|exact zsq|fail)
   all_goals exact hL _ (k + 1) (Qf []) (by omega) (by omega) (by rw [hsu];exact Qo [] (by simp only [go_sem,zwl,wj,fcE,zb]<;>exact zcc) (by simp only [go_sem,zwl,wj,fcE,QP,Jj]<;>exact zcc) (by simp [wj,Qf]) (by simp [wj]) (by omega))
 ·rw [if_pos (by simp at h1;omega)] at hsu
  repeat' (first|(refine zsk ?_;intro K' hK)|(refine zrg ?_;intro K' hK)|refine zsp ?_|(refine zsc ?_ ?_<;>intro hc<;>first|exact znh|try simp only [znz] at hc)|simp (maxSteps:=1000000) only [go_sem,Yh,e1,hw,hwd,h1,hvi,hf,Int.toNat_natCast,zk,Qc.v,Qc.cells]|(refine hK _ ?_;clear hK K')|apply zan|(apply Vq;(focus exact rfl);(focus first|exact (z3 _ _ _ zsd zsd zsd zsd zsd));(focus exact rfl);(focus (first|(simp;done)|omega|(simp only [zb];omega))))|((first|apply QJ|apply Jn);(focus first|exact (z0 _ _ zsd zsd zsd).b|exact (z1 _ zsd zsd).b|exact (z2 _).b))|exact zsq|fail)
  all_goals exact hL _ (k + 1) (Qf []) (by omega) (by omega) (by rw [hsu];exact Qo [] (by simp only [go_sem,zwl,wj,fcE,zb]<;>exact zcc) (by simp only [go_sem,zwl,wj,fcE,QP,Jj]<;>exact zcc) (by simp [wj,Qf]) (by simp [wj]) (by omega))
theorem aql {fs:List Nat} {k:Nat} (h:fs.Pairwise (· < ·)) (hk:∀ i∈fs,i < k):(fs++[k]).Pairwise (· < ·):=by
 rw [kP]
 exact ⟨h,k9 ..,fun a ha b hb=>by rw [zu.1 hb];exact hk a ha⟩
theorem alk {l:List Qc} {p:List Nat} (hp:PW p):∀ k,k≤l.length→∀ e∈J8 l p k,e.finds.Pairwise (· < ·)
 | 0,_,e,he=>by simp [J8] at he
 | k + 1,hk,e,he=>by
   have ih:=alk (l:=l) hp k (by omega)
   have hI:=yx (l:=l) hp k (by omega)
   rw [J8,zd (by omega)] at he
   dsimp only at he
   generalize J8 l p k = es at *
   rw [afK] at he
   split at he
   ·rcases zU.1 he with he|he
    ·exact ih e he
    ·rw [zu.1 he];simp [YW,QX]
   ·rcases hx:afw (Xs p k) (es.map Jp.num) 0 with _|a
    ·rw [hx] at he;exact ih e he
    ·rw [hx] at he
     dsimp only at he
     rcases hy:es[a]? with _|y
     ·rw [hy] at he;exact ih e he
     ·rw [hy] at he
      dsimp only at he
      have hm:=zq hy
      rcases kU he with he|rfl
      ·exact ih e he
      ·exact aql (ih y hm) (hI.sz y hm).fl
theorem aoj {l:List Qc} {gap:Int} {e:Jp} (he:e∈Wb l gap):e.finds.Pairwise (· < ·)∧(∀ i∈e.finds,i < l.length)∧e.finds.length≤l.length∧e.hosts.length≤l.length:=by
 have hp:=ad6 l gap
 have h1:=(yx (l:=l) hp l.length (zm _)).sz e he
 exact ⟨alk hp l.length (zm _) e he,h1.fl,h1.f1,h1.h1⟩
theorem alj (l:List Qc) (gap:Int):(Wb l gap).length≤l.length:=(yx (l:=l) (ad6 l gap) l.length (zm _)).len
theorem agp {l:List Qc} {gap:Int} (h:Wg l gap = 0):vG l = true:=by
 rw [Wg] at h
 split at h
 ·assumption
 ·cases h
theorem aiJ {l:List Qc} {p:List Nat} (hp:PW p):∀ k,k≤l.length→(∀ e∈J8 l p k,∀ i∈e.finds,Xs p i = e.num)∧((J8 l p k).map Jp.num).Nodup
 | 0,_=>⟨fun e he=>by simp [J8] at he,by simp [J8]⟩
 | k + 1,hk=>by
   obtain ⟨ih,ihn⟩:=aiJ (l:=l) hp k (by omega)
   have hI:=yx (l:=l) hp k (by omega)
   rw [J8,zd (by omega)]
   dsimp only
   generalize J8 l p k = es at *
   rw [afK]
   split
   ·rename_i hr
    refine ⟨fun e he=>?_,?_⟩
    ·rcases zU.1 he with he|he
     ·exact ih e he
     ·rw [zu.1 he]
      intro i hi
      simp [YW,QX] at hi
      rw [hi];exact hr
    ·rw [kc,kM]
     refine ⟨ihn,by simp,fun a ha b hb=>?_⟩
     obtain ⟨e,he,rfl⟩:=kO.1 ha
     have hb':b = k:=by simpa [YW,QX] using hb
     have:=(hI.sz e he).num
     omega
   ·rcases hx:afw (Xs p k) (es.map Jp.num) 0 with _|a
    ·exact ⟨ih,ihn⟩
    ·dsimp only
     rcases hy:es[a]? with _|y
     ·exact ⟨ih,ihn⟩
     ·dsimp only
      have hm:=zq hy
      obtain ⟨_,_,hg⟩:=ajU hx
      rw [Nat.sub_zero,zk,hy] at hg
      have hyn:y.num = Xs p k:=by simpa using hg
      refine ⟨fun e he=>?_,?_⟩
      ·rcases kU he with he|rfl
       ·exact ih e he
       ·intro i hi
        simp only [YW,QX] at hi ⊢
        rcases zU.1 hi with hi|hi
        ·exact ih y hm i hi
        ·rw [zu.1 hi,hyn]
      ·have:(es.set a (YW k l[k] y)).map Jp.num = es.map Jp.num:=by
        rw [Z6]
        refine ZB fun i=>?_
        rw [ka]
        split
        ·rename_i hai
         subst hai
         rw [zk,hy]
         have:=(zj.1 hy).1
         simp [YW,QX,this]
        ·rfl
       rw [this];exact ihn
theorem aol {l:List Qc} {gap:Int} {e1 e2:Jp} (h1:e1∈Wb l gap) (h2:e2∈Wb l gap) {i:Nat} (i1:i∈e1.finds) (i2:i∈e2.finds):e1 = e2:=by
 obtain ⟨hr,hn⟩:=aiJ (l:=l) (ad6 l gap) l.length (zm _)
 have hnum:e1.num = e2.num:=by rw [← hr e1 h1 i i1,← hr e2 h2 i i2]
 obtain ⟨a,ha,rfl⟩:=List.mem_iff_getElem.1 h1
 obtain ⟨b,hb,rfl⟩:=List.mem_iff_getElem.1 h2
 have hab:a = b:=by
  have hn:((Wb l gap).map Jp.num).Nodup:=hn
  have hp:=ke.1 hn
  have la:a < ((Wb l gap).map Jp.num).length:=by simpa using ha
  have lb:b < ((Wb l gap).map Jp.num).length:=by simpa using hb
  rcases ZS a b with h|h|h
  ·exact absurd (by simpa using hnum) (hp a b la lb h)
  ·exact h
  ·exact absurd (by simpa using hnum.symm) (hp b a lb la h)
 subst hab;rfl
theorem ap6 {l:List Qc} {day age:Int} {m:PM} {i v:Nat} (h:v∈(alp l day age m i).2):v∈m.2∨v = i:=by
 rw [alp] at h
 split at h
 ·exact .inl h
 ·split at h
  ·exact .inl h
  ·split at h
   ·rcases zU.1 h with h|h
    ·exact .inl h
    ·exact .inr (zu.1 h)
   ·split at h
    ·exact .inl h
    ·split at h
     ·exact kU h
     ·exact .inl h
theorem alq {l:List Qc} {day age:Int}:∀ (fs:List Nat) (m:PM) (v:Nat),v∈(fs.foldl (alp l day age) m).2→v∈m.2∨v∈fs
 | [],m,v,h=>.inl h
 | i :: r,m,v,h=>by
   rw [List.foldl_cons] at h
   rcases alq r _ v h with h|h
   ·rcases ap6 h with h|h
    ·exact .inl h
    ·exact .inr (h ▸ kD)
   ·exact .inr (kE _ h)
theorem aoe {l:List Qc} {num:Int} {fs:List Nat} {day age:Int} {x:JF} (h:x∈V4 l num fs day age):∃ i f,i∈fs∧l[i]? = some f∧x = yw num i f:=by
 rw [V4] at h
 have h:=Wp.mem_iff.1 h
 obtain ⟨i,hi,hx⟩:=ZO.1 h
 rw [vH] at hx
 split at hx
 ·cases hx
 ·rename_i f hf
  split at hx
  ·cases hx
  ·cases hx
   refine ⟨i,f,?_,hf,rfl⟩
   rcases alq fs ([],[]) i hi with h|h
   ·cases h
   ·exact h
theorem aod {l:List Qc} {gap day age:Int} {e1 e2:Jp} (h1:e1∈Wb l gap) (h2:e2∈Wb l gap) {x y:JF} (hx:x∈V4 l e1.num e1.finds day age) (hy:y∈V4 l e2.num e2.finds day age) (hf:x.find = y.find):e1 = e2∧x = y:=by
 obtain ⟨i,f,hi,hli,rfl⟩:=aoe hx
 obtain ⟨j,g,hj,hlj,rfl⟩:=aoe hy
 have hij:i = j:=by
  have:(i:Int) = (j:Int):=hf
  omega
 subst hij
 have he:=aol h1 h2 hi hj
 subst he
 rw [hli] at hlj
 cases hlj
 exact ⟨rfl,rfl⟩
def evF (alg day:Int) (xs:List JM) (keys:List Int) (need:Int) (e:Jp) (f:JF):Option (Int×Bool):=if VG f alg = [] then none else some (f.find,!(VG f alg).any fun u=>!xs.any (adu (yo f alg) u e.hosts day keys need))
def evE (l:List Qc) (day age alg:Int) (xs:List JM) (keys:List Int) (need:Int) (e:Jp):List (Int×Bool):=(V4 l e.num e.finds day age).filterMap (evF alg day xs keys need e)
def evL (l:List Qc) (gap day age alg:Int) (xs:List JM) (keys:List Int) (need:Int):List (Int×Bool):=(Wb l gap).flatMap (evE l day age alg xs keys need)
theorem as5 {l:List Qc} {gap day age alg:Int} {xs:List JM} {keys:List Int} {need:Int}:∀ a∈evL l gap day age alg xs keys need,∀ b∈evL l gap day age alg xs keys need,a.1 = b.1→a = b:=by
 intro a ha b hb hab
 obtain ⟨e1,h1,ha⟩:=List.mem_flatMap.1 ha
 obtain ⟨e2,h2,hb⟩:=List.mem_flatMap.1 hb
 obtain ⟨x,hx,ha⟩:=ZO.1 ha
 obtain ⟨y,hy,hb⟩:=ZO.1 hb
 have hxa:a.1 = x.find:=by
  rw [evF] at ha;split at ha
  ·cases ha
  ·cases ha;rfl
 have hyb:b.1 = y.find:=by
  rw [evF] at hb;split at hb
  ·cases hb
  ·cases hb;rfl
 obtain ⟨rfl,rfl⟩:=aod h1 h2 hx hy (by rw [← hxa,← hyb,hab])
 rw [ha] at hb
 exact Option.some.inj hb
def aqq (l:List Qc) (gap day age alg:Int) (xs:List JM) (keys:List Int) (need:Int):List (Int×Bool):=jj (fun x y=>decide (yu x.1 y.1 < 0)) (evL l gap day age alg xs keys need)
def ajW (l:List Qc) (gap day age alg:Int) (xs:List JM) (keys:List Int) (need:Int):Bool:=!(aqq l gap day age alg xs keys need).any fun e=>!e.2
theorem aoY (l:List Qc) (gap day age alg:Int) (xs:List JM) (keys:List Int) (need:Int):(aqq l gap day age alg xs keys need).length = (evL l gap day age alg xs keys need).length:=qK _ _
end Av
end
