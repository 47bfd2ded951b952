/- K25 -/
import Derived.Test.YtjobognfgjobfaaGreatDoorK23
import Derived.Test.YtjobognfgjobfaaGreatDoorK12
import Derived.Test.YtjobognfgjobfaaGreatDoorK19
import Derived.Test.YtjobognfgjobfaaGreatDoorK24
import Derived.Test.YtjobognfgjobfaaGreatDoorK20
set_option linter.unusedVariables false
set_option linter.unusedSimpArgs false
noncomputable section
set_option maxRecDepth 10000
set_option maxHeartbeats 4000000
namespace Av
open Go
attribute [local irreducible] AWp WC wb aai awS awC aeM awQ afz Jk qV aes awR jj awB okR aaf ris
structure Qo where
 ent:Int
 subj:List UInt8
 kind:Int
 alg:Int
 bits:Int
 num:Int
 text:List UInt8
 find:Int
 deriving DecidableEq
def Qo.cells (f:Qo):List V:=[V.int f.ent,V.str f.subj,V.int f.kind,V.int f.alg,V.int f.bits,V.int f.num,V.str f.text,V.int f.find]
def Qo.v (f:Qo):V:=.agg f.cells
structure PPl where
 subj:List UInt8
 text:List UInt8
 kind:Int
 num:Int
 alg:Int
 bits:Int
 deriving DecidableEq
def PPl.cells (p:PPl):List V:=[V.str p.subj,V.str p.text,V.int p.kind,V.int p.num,V.int p.alg,V.int p.bits]
def PPl.v (p:PPl):V:=.agg p.cells
def Wl (f:Qa):PPl :=
 if f.kind = 1∨f.kind = 8 then ⟨f.subj,[],1,0,f.alg,f.bits⟩
 else if f.kind = 2∨f.kind = 6 then ⟨f.subj,[],f.kind,f.num,0,0⟩
 else if f.kind = 7 then ⟨f.subj,f.text,f.kind,0,0,0⟩
 else ⟨f.subj,[],f.kind,0,0,0⟩
def akf (a b:Qo):Int:=Yr [abU a.subj b.subj,Kz a.kind b.kind,Kz a.alg b.alg,Kz a.bits b.bits,Kz a.num b.num,abU a.text b.text]
def ab4:=qd Proofs.Tryz.f135 [⟨fun _=>false,[1],.one 0 (.one 2 (.or 1 (.one 3 (.one 4 (.one 5 (.done)))) (.or 3 (.one 1 (.one 4 (.one 5 (.done)))) (.done))))⟩]
def adl (Γ:Env) (f:Nat):Prop:=∀ (f0:Qa),EvN Γ f [f0.v] ((Wl f0).v)
theorem anB {Γ:Env} {f:Nat} (h:Has Γ.P f 30 ab4.1.1.ac ab4.1.2) :adl Γ f:=by
 intro f0
 refine Qc h zsi (by unfold Wl;(repeat' split)<;>simp only [PPl.v,PPl.cells,V.closed,Qb,V.noSl,Wi,and_self]) (by unfold Wl;(repeat' split)<;>simp only [PPl.v,PPl.cells,V.closed,Qb,V.noSl,Wi,and_self]) fun C hC hm=>?_
 subst hC
 simp only [ab4,qd,DC.ac]
 obtain ⟨src,host,mach,day,conf,kind,subj,alg,bits,num,text⟩:=f0
 simp only [Wl,Qa.v,Qa.cells,PPl.v,PPl.cells]
 have E:∀ n:Int,kind≠n→(kind == n) = false:=fun n h=>by simpa using h
 by_cases k1:kind = 1
 ·subst k1
  rw [if_pos (.inl rfl)]
  exact zg
 by_cases k8:kind = 8
 ·subst k8
  rw [if_pos (.inr rfl)]
  exact zg
 rw [if_neg (by simp [k1,k8])]
 by_cases k2:kind = 2
 ·subst k2
  rw [if_pos (.inl rfl)]
  exact zg
 by_cases k6:kind = 6
 ·subst k6
  rw [if_pos (.inr rfl)]
  exact zg
 rw [if_neg (by simp [k2,k6])]
 have e1:=E 1 k1
 have e8:=E 8 k8
 have e2:=E 2 k2
 have e6:=E 6 k6
 by_cases k7:kind = 7
 ·subst k7
  rw [if_pos rfl]
  exact zg
 rw [if_neg k7]
 have e7:=E 7 k7
 (have zx:=za e1 (za e8 (za e2 (za e6 e7))));exact zg
def KY:=qd Proofs.Tryz.f137 [zhn 37]
def yD (Γ:Env) (f:Nat):Prop:=Own Γ.P f∧∀ G:Env,G.P = Γ.P→∀ a b:Qo,EvN G f [a.v,b.v] (V.int (akf a b))
theorem agS {Γ:Env} {f:Nat} (h:Has Γ.P f 41 KY.1.1.ac KY.1.2) (z0:ql Γ 149) (z1:XO Γ 146) (z2:xi Γ 203):yD Γ f:=by
 refine ⟨h.own,fun G hG a b=>?_⟩
 have p1:=z0 G hG a.subj b.subj
 have p2:=z1 G hG a.kind b.kind
 have p3:=z1 G hG a.alg b.alg
 have p4:=z1 G hG a.bits b.bits
 have p5:=z1 G hG a.num b.num
 have p6:=z0 G hG a.text b.text
 have p7:=z2 G hG [abU a.subj b.subj,Kz a.kind b.kind,Kz a.alg b.alg,Kz a.bits b.bits,Kz a.num b.num,abU a.text b.text] (by simp)
 rw [← hG] at h
 refine Qc h (by simp) (by simp only [V.closed]) (by simp only [V.noSl]) fun C hC hm=>?_
 subst hC;simp only [KY,qd,DC.ac]
 have p1:=p1.b
 have p2:=p2.b
 have p3:=p3.b
 have p4:=p4.b
 have p5:=p5.b
 have p6:=p6.b
 have p7:=p7.b
 simp only [Qo.v,Qo.cells,akf,zE,zH] at *
 exact zg
theorem ay0 (p q:PPl):Yk [1,1,0,0,0,0] p.cells q.cells = some (decide (p = q)):=by
 obtain ⟨a1,a2,a3,a4,a5,a6⟩:=p
 obtain ⟨b1,b2,b3,b4,b5,b6⟩:=q
 have hs:∀ x y:List UInt8,((⟨x.toArray⟩:ByteArray) == ⟨y.toArray⟩) = decide (x = y):=fun x y=>by
  rw [Zq,amx];simp
 simp only [PPl.cells,V.str,V.int,Yk,hs,if_true,Option.map_some,PPl.mk.injEq]
 congr 1
 rw [Zq]
 simp
def apS (p:PPl):List PPl→Nat→Option Nat
 | [],_=>none
 | e :: r,i=>if p = e then some i else apS p r (i + 1)
theorem al4 (p:PPl):∀ (ks:List PPl) (i:Nat),XI true [1,1,0,0,0,0] p.v (ks.map PPl.v) i = some (apS p ks i)
 | [],_=>rfl
 | e :: r,i=>by
   have h:xB true [1,1,0,0,0,0] p.v e.v = some (decide (p = e)):=ay0 p e
   rw [zE,XI,h]
   by_cases hk:p = e
   ·subst hk;simp [apS]
   ·rw [zp hk];simp only [apS,if_neg hk]
    exact al4 p r (i + 1)
theorem at6 (p:PPl):xB true [1,1,0,0,0,0] p.v p.v = some true:=by
 have:xB true [1,1,0,0,0,0] p.v p.v = some (decide (p = p)):=ay0 p p
 rw [this];simp
structure Cm {α:Type} (c:α→α→Int):Prop where
 neg:∀ a b,c b a = - c a b
 tr:∀ a b d,c a b≤0→c b d≤0→c a d≤0
 ze:∀ a b d,c a b≤0→c b d≤0→c a d = 0→c a b = 0
def Y2 (Γ:Env) (f:Nat):Prop:=∀ (xs:List Qo) (g:Nat) (c:Qo→Qo→Int) (hg:Own Γ.P g) (hcmp:∀ x y,EvN Γ.T g [Qo.v x,Qo.v y] (V.int (c x y))) (hc:Cm c) (hd:∀ a∈xs,∀ b∈xs,c a b = 0→a = b) (hx:xs.length < 2 ^ 40),EvL Γ f [.clo g []] 8 (xs.map Qo.v) (.tup []) (((Wo (fun x y=>decide (c x y < 0)) xs).map Qo.v))
def Kr (Γ:Env) (f:Nat):Prop:=∀ (xs:List Int) (hx:xs.length < 2 ^ 40),EvL Γ f [] 1 (xs.map V.int) (.tup []) (((Wo (fun x y:Int=>decide (x < y)) xs).map V.int))
theorem avl {fs:List Nat} (h:fs.Pairwise (· < ·)):Wo (fun x y:Int=>decide (x < y)) (fs.map fun n:Nat=>(n:Int)) = fs.map fun n:Nat=>(n:Int):=by
 have h1:=abj (lt:=fun x y:Int=>decide (x < y)) (fun x y z h h'=>by simp at *;omega) (fun x y h=>by simp at *;omega) (fs.map fun n:Nat=>(n:Int))
 refine ZK (le:=fun x y:Int=>x≤y) (fun a b _ _ h1 h2=>by omega) (h1.imp fun {a b} h=>?_) ?_ Kn
 ·simp at h;omega
 ·rw [List.pairwise_map];exact h.imp fun {a b} h=>by omega
theorem aob:∀ (r:List Nat) (p:Nat),(p :: r).Pairwise (· < ·)→yg (fun x y:Int=>x == y) (p:Int) (r.map fun n:Nat=>(n:Int)) = r.map fun n:Nat=>(n:Int)
 | [],_,_=>rfl
 | x :: r,p,h=>by
   have h1:p < x:=(Zj.1 h).1 x kD
   have h2:=(Zj.1 h).2
   have e:((x:Int) == (p:Int)) = false:=by rw [kM];omega
   rw [zE,yg]
   simp only [e,zu,if_false]
   rw [aob r x h2]
theorem auf {fs:List Nat} (h:fs.Pairwise (· < ·)):qR (fun x y:Int=>x == y) (fs.map fun n:Nat=>(n:Int)) = fs.map fun n:Nat=>(n:Int):=by
 rcases fs with _|⟨p,r⟩
 ·rfl
 ·rw [zE,qR,aob r p h]
theorem ahD (fs:List Nat):(fs.map fun n:Nat=>(n:Int)).map V.int = QL fs:=by
 rw [List.map_map];rfl
def KX:=qd Proofs.Tryz.f133 [zhn 23]
def yB (Γ:Env) (f:Nat):Prop:=∀ (l:List Qa) (e:JG) (ha:e.finds.Pairwise (· < ·)) (hb:∀ i∈e.finds,i < l.length) (hn:e.finds.length < 2 ^ 30),EvC Γ f [.sl 11 (l.map Qa.v),e.v] (.tup [.sl 1 (QL e.finds),V.bool true])
attribute [local go_sem] zb in
theorem agR {Γ:Env} {f:Nat} (h:Has Γ.P f 35 KX.1.1.ac KX.1.2) (z0:Ya Γ 28) (z1:Kr Γ 183) (z2:Xm Γ 201):yB Γ f:=by
 intro l e ha hb hn
 refine Q0 h zsi (by simp only [V.closed,Qb,and_self]) fun C hC hm=>?_
 subst hC
 simp only [KX,qd,DC.ac]
 obtain ⟨num,hosts,machs,fs⟩:=e
 dsimp only at ha hb hn
 simp only [JG.v]
 have gC:=z0 (fs.map fun n:Nat=>(n:Int)) (by rw [zb];omega)
 have gS:=z1 (fs.map fun n:Nat=>(n:Int)) (by rw [zb];omega)
 have gZ:=z2 (fs.map fun n:Nat=>(n:Int)) (by rw [zb];omega)
 rw [avl ha] at gS
 rw [auf ha] at gZ
 simp only [ahD,zb,k9,List.replicate_zero,ka] at gC gS gZ
 have hl:(QL fs).length = fs.length:=zb _
 have htk:List.take fs.length (QL fs) = QL fs:=zi (by omega)
 by_cases hf:fs = []
 ·subst hf
  have hp0:QL [] = []:=rfl
  simp only [hp0,List.length_nil,List.take_nil] at *
  (have zx:=htk);exact zg
 ·have hpos:0 < fs.length:=kL.2 hf
  obtain ⟨p,hp0⟩:∃ p,fs[0]? = some p:=⟨_,zd hpos⟩
  obtain ⟨z,hz0⟩:∃ p,fs[fs.length - 1]? = some p:=⟨_,zd (by omega)⟩
  have hlt:=hb _ (zq hz0)
  have vl:(QL fs)[fs.length - 1]? = some (V.int (z:Nat)):=by rw [QL,zo,hz0];rfl
  have v0:(QL fs)[0]? = some (V.int (p:Nat)):=by rw [QL,zo,hp0];rfl
  have e0:((fs.length:Int) == 0) = false:=by rw [kM];omega
  have e1:decide ((p:Int)≥0) = true:=zn (by omega)
  have e2:decide ((z:Int) < (l.length:Int)) = true:=zn (by omega)
  have hw:IntKind.i64.wrap ((fs.length:Int) - 1) = ((fs.length - 1:Nat):Int):=by rw [Jc (by omega) (by omega)];omega
  (have zx:=za htk (za hl (za v0 (za vl (za e0 (za e1 (za e2 hw)))))));refine zgo ?_;repeat' first|exact zt|apply zan|intro hc
  all_goals first|(refine Qg _ rfl ?_;simp only [go_sem];rw [htk];done)|(refine Qg _ rfl ?_;simp only [go_sem];rw [htk];first|done|exact ⟨_,_,rfl⟩)
theorem adH:∀ a:List UInt8,Op.bytesLess a a = false
 | []=>rfl
 | c :: r=>by
   rw [Op.bytesLess,adH r]
   simp
theorem xr:∀ a b c:List UInt8,Op.bytesLess a b = true→Op.bytesLess b c = true→Op.bytesLess a c = true
 | _,[],_,h,_=>by simp [Op.bytesLess] at h
 | _,_ :: _,[],_,h=>by simp [Op.bytesLess] at h
 | [],_ :: _,_ :: _,_,_=>rfl
 | x :: a,y :: b,z :: c,h1,h2=>by
   have ih:=xr a b c
   simp only [Op.bytesLess,kC,zA,zC,kx] at h1 h2 ⊢
   rcases h1 with h1|⟨rfl,h1⟩
   ·rcases h2 with h2|⟨rfl,h2⟩
    ·exact .inl (UInt8.lt_trans h1 h2)
    ·exact .inl h1
   ·rcases h2 with h2|⟨rfl,h2⟩
    ·exact .inl h2
    ·exact .inr ⟨rfl,ih h1 h2⟩
theorem adG:∀ a b:List UInt8,Op.bytesLess a b = false→Op.bytesLess b a = false→a = b
 | [],[],_,_=>rfl
 | [],_ :: _,h,_=>by simp [Op.bytesLess] at h
 | _ :: _,[],_,h=>by simp [Op.bytesLess] at h
 | x :: a,y :: b,h1,h2=>by
   simp only [Op.bytesLess,ZT,ZA,zF,kM] at h1 h2
   have hxy:x = y:=by
    rcases UInt8.lt_or_eq_of_le (UInt8.not_lt.1 h1.1) with h|h
    ·exact absurd h h2.1
    ·exact h.symm
   subst hxy
   rw [adG a b (by rcases h1.2 with h|h;exact absurd rfl h;exact h) (by rcases h2.2 with h|h;exact absurd rfl h;exact h)]
theorem Cm.ze2 {α:Type} {c:α→α→Int} (h:Cm c) (a b d:α) (h1:c a b≤0) (h2:c b d≤0) (h3:c a d = 0):c b d = 0:=by
 have h4:=h.ze a b d h1 h2 h3
 have h5:=h.neg a d
 have h6:=h.neg a b
 exact h.ze b d a h2 (by omega) (by omega)
theorem aaY:Cm Kz:=by
 refine ⟨fun a b=>?_,fun a b d=>?_,fun a b d=>?_⟩<;>(unfold Kz;repeat' split)<;>omega
theorem aeW {a b:List UInt8}:abU a b = 0→a = b:=by
 unfold abU
 rcases h1:Op.bytesLess a b with _|_
 ·rcases h2:Op.bytesLess b a with _|_
  ·intro _;exact adG a b h1 h2
  ·simp
 ·simp
theorem ym {a b:Int}:Kz a b = 0→a = b:=by
 unfold Kz;(repeat' split)<;>omega
theorem avz {a b:List UInt8}:abU a b≤0↔Op.bytesLess b a = false:=by
 unfold abU
 rcases h1:Op.bytesLess a b with _|_
 ·rcases h2:Op.bytesLess b a with _|_<;>simp
 ·rcases h2:Op.bytesLess b a with _|_
  ·simp
  ·have:=xr a b a h1 h2
   rw [adH] at this;cases this
theorem amp:Cm abU:=by
 have hneg:∀ a b,abU b a = - abU a b:=fun a b=>by
  unfold abU
  rcases h1:Op.bytesLess a b with _|_<;>rcases h2:Op.bytesLess b a with _|_<;>simp
  have:=xr a b a h1 h2
  rw [adH] at this;cases this
 have htr:∀ a b d,abU a b≤0→abU b d≤0→abU a d≤0:=fun a b d h1 h2=>by
  rw [avz] at *
  rcases h3:Op.bytesLess d a with _|_
  ·rfl
  ·rcases h4:Op.bytesLess a b with _|_
   ·have:=adG a b h4 h1
    subst this;rw [h3] at h2;cases h2
   ·have:=xr d a b h3 h4
    rw [this] at h2;cases h2
 refine ⟨hneg,htr,fun a b d h1 h2 h3=>?_⟩
 have:=aeW h3
 subst this
 have:=hneg a b
 omega
theorem Cm.lex {α:Type} {c1 c2:α→α→Int} (h1:Cm c1) (h2:Cm c2):Cm fun a b=>if c1 a b≠0 then c1 a b else c2 a b:=by
 refine ⟨fun a b=>?_,fun a b d g1 g2=>?_,fun a b d g1 g2 g3=>?_⟩
 ·have:=h1.neg a b
  have:=h2.neg a b
  show (if c1 b a≠0 then c1 b a else c2 b a) = - (if c1 a b≠0 then c1 a b else c2 a b)
  split<;>split<;>omega
 ·have e1:c1 a b≤0:=by split at g1<;>omega
  have e2:c1 b d≤0:=by split at g2<;>omega
  have e3:=h1.tr a b d e1 e2
  split
  ·exact e3
  ·rename_i h
   have h:=Classical.not_not.1 h
   have z1:=h1.ze a b d e1 e2 h
   have z2:=h1.ze2 a b d e1 e2 h
   rw [if_neg (by simpa using z1)] at g1
   rw [if_neg (by simpa using z2)] at g2
   exact h2.tr a b d g1 g2
 ·have e1:c1 a b≤0:=by split at g1<;>omega
  have e2:c1 b d≤0:=by split at g2<;>omega
  have h:c1 a d = 0:=by split at g3<;>omega
  have z1:=h1.ze a b d e1 e2 h
  have z2:=h1.ze2 a b d e1 e2 h
  rw [if_neg (by simpa using z1)] at g1 ⊢
  rw [if_neg (by simpa using z2)] at g2
  rw [if_neg (by simpa using h)] at g3
  exact h2.ze a b d g1 g2 g3
theorem Cm.by {α β:Type} {c:α→α→Int} (h:Cm c) (f:β→α):Cm fun a b=>c (f a) (f b) :=
 ⟨fun a b=>h.neg _ _,fun a b d=>h.tr _ _ _,fun a b d=>h.ze _ _ _⟩
theorem ac8:Cm akf:=by
 have h0:Cm fun _ _:Qo=>(0:Int):=⟨fun _ _=>rfl,fun _ _ _ _ _=>Int.le_refl _,fun _ _ _ _ _ _=>rfl⟩
 exact (amp.by Qo.subj).lex ((aaY.by Qo.kind).lex ((aaY.by Qo.alg).lex ((aaY.by Qo.bits).lex ((aaY.by Qo.num).lex ((amp.by Qo.text).lex h0)))))
theorem jb {x:Int} {r:List Int}:Yr (x :: r) = 0→x = 0∧Yr r = 0:=by
 rw [Yr]
 by_cases h:x≠0
 ·rw [if_pos h];intro h2;exact absurd h2 h
 ·rw [if_neg h];intro h2;exact ⟨Classical.not_not.1 h,h2⟩
theorem apw {a b:Qo} (h:akf a b = 0):a.subj = b.subj∧a.kind = b.kind∧a.alg = b.alg∧a.bits = b.bits∧a.num = b.num∧a.text = b.text:=by
 obtain ⟨h1,h⟩:=jb h
 obtain ⟨h2,h⟩:=jb h
 obtain ⟨h3,h⟩:=jb h
 obtain ⟨h4,h⟩:=jb h
 obtain ⟨h5,h⟩:=jb h
 obtain ⟨h6,h⟩:=jb h
 exact ⟨aeW h1,ym h2,ym h3,ym h4,ym h5,aeW h6⟩
def arL (a b:Qo):Bool:=decide (akf a b < 0)
theorem alc (l:List Qo):Ord arL (Wo arL l):=by
 refine abj (fun x y z h1 h2=>?_) (fun x y h=>?_) l
 ·simp only [arL,zF,bj] at *
  have a1:=ac8.neg y x
  have a2:=ac8.neg z y
  have a3:=ac8.neg z x
  have:=ac8.tr x y z (by omega) (by omega)
  omega
 ·simp only [arL,zC,zF,bj] at *
  have a1:=ac8.neg x y
  omega
theorem aqV {l r:List Qo} (h:l.Perm r) (hd:∀ a∈l,∀ b∈l,akf a b = 0→a = b):Wo arL l = Wo arL r:=by
 refine ZK (le:=fun x y=>arL y x = false) (fun a b ha hb h1 h2=>?_) (alc l) (alc r) (Kn.trans (h.trans Kn.symm))
 refine hd a (Kn.mem_iff.1 ha) b (h.mem_iff.2 (Kn.mem_iff.1 hb)) ?_
 simp only [arL,zF,bj] at *
 have a1:=ac8.neg a b
 omega
abbrev PM:=List PPl×List Nat
def auo (f g:Qa):Bool:=decide (f.day > g.day) || (f.day == g.day && decide (f.conf > g.conf))
def ap6 (l:List Qa) (day age:Int) (m:PM) (i:Nat):PM :=
 match l[i]? with
 | none=>m
 | some f=>if f.day > day∨f.day < day - age then m else
   match apS (Wl f) m.1 0 with
   | none=>(m.1++[Wl f],m.2++[i])
   | some a=>match l[m.2.getD a 0]? with
     | none=>m
     | some g=>if auo f g = true then (m.1,m.2.set a i) else m
def akK (l:List Qa) (day age:Int) (fs:List Nat):PM:=fs.foldl (ap6 l day age) ([],[])
theorem adJ {p:PPl}:∀ {ks:List PPl} {i a:Nat},apS p ks i = some a→i≤a∧a < i + ks.length∧ks[a - i]? = some p
 | [],i,a,h=>by cases h
 | e :: r,i,a,h=>by
   rw [apS] at h
   split at h
   ·rename_i he
    cases h
    subst he
    exact ⟨zj _,by simp,by simp⟩
   ·obtain ⟨h1,h2,h3⟩:=adJ h
    refine ⟨by omega,by simp;omega,?_⟩
    rw [show a - i = (a - (i + 1)) + 1 by omega,List.getElem?_cons_succ];exact h3
theorem alM {p:PPl}:∀ {ks:List PPl} {i:Nat},apS p ks i = none→p ∉ ks
 | [],_,_=>by simp
 | e :: r,i,h=>by
   rw [apS] at h
   split at h
   ·cases h
   ·rename_i he
    have:=alM h
    simp [he,this]
structure af2 (l:List Qa) (m:PM) (n:Nat):Prop where
 len:m.1.length = m.2.length
 le:m.1.length≤n
 nd:m.1.Nodup
 pt:∀ (a i:Nat),m.2[a]? = some i→∃ f,l[i]? = some f∧m.1[a]? = some (Wl f)
theorem af2.nil (l:List Qa):af2 l ([],[]) 0:=⟨rfl,zj _,kw,fun a i h=>by simp at h⟩
theorem af2.step {l:List Qa} {day age:Int} {m:PM} {n i:Nat} (h:af2 l m n):af2 l (ap6 l day age m i) (n + 1):=by
 have h0:af2 l m (n + 1):=⟨h.len,Zb h.le,h.nd,h.pt⟩
 obtain ⟨ks,vs⟩:=m
 rw [ap6]
 rcases hf:l[i]? with _|f
 ·exact h0
 dsimp only
 split
 ·exact h0
 rcases hx:apS (Wl f) ks 0 with _|a
 ·have hn:=alM hx
  have hl:=h.len
  have hle:=h.le
  dsimp only at hl hle
  refine ⟨by simp [hl],by simp;omega,?_,fun a j hj=>?_⟩
  ·dsimp only
   rw [Zd]
   exact ⟨h.nd,by simp,fun x hx y hy=>by rw [zy.1 hy];exact fun he=>hn (he ▸ hx)⟩
  ·dsimp only at *
   rcases Nat.lt_trichotomy a vs.length with ha|ha|ha
   ·rw [kf ha] at hj
    obtain ⟨g,g1,g2⟩:=h.pt a j hj
    exact ⟨g,g1,by rw [kf (by omega)];exact g2⟩
   ·subst ha
    rw [List.getElem?_concat_length] at hj
    cases hj
    exact ⟨f,hf,by rw [← hl,List.getElem?_concat_length]⟩
   ·rw [ki (by simp;omega)] at hj;cases hj
 ·dsimp only
  rcases hg:l[vs.getD a 0]? with _|g
  ·exact h0
  dsimp only
  split
  ·obtain ⟨a1,a2,a3⟩:=adJ hx
   have hl:=h.len
   dsimp only at hl
   refine ⟨by simp [hl],h0.le,h.nd,fun b j hj=>?_⟩
   dsimp only at *
   by_cases hb:a = b
   ·subst hb
    rw [Zf (by omega)] at hj
    cases hj
    exact ⟨f,hf,by simpa using a3⟩
   ·rw [ZG hb] at hj
    exact h.pt b j hj
  ·exact h0
theorem anK (l:List Qa) (day age:Int) (fs:List Nat) (k:Nat) (hk:k≤fs.length):af2 l (akK l day age (fs.take k)) k:=by
 induction k with
 | zero=>exact af2.nil l
 | succ k ih =>
   have hlt:k < fs.length:=by omega
   rw [akK,zB,zd hlt,ZE]
   exact (ih (by omega)).step
theorem asx {l:List Qa} {day age:Int} {fs:List Nat} {k i:Nat} (h:fs[k]? = some i):akK l day age (fs.take (k + 1)) = ap6 l day age (akK l day age (fs.take k)) i:=by
 rw [akK,zB,h,ZE];rfl
def af8 (num:Int) (i:Nat) (f:Qa):Qo:=⟨num,f.subj,f.kind,f.alg,f.bits,f.num,f.text,i⟩
def acL (l:List Qa) (num:Int) (i:Nat):Option Qo :=
 match l[i]? with
 | none=>none
 | some f=>if f.kind = 8 then none else some (af8 num i f)
def qX (l:List Qa) (num:Int) (fs:List Nat) (day age:Int):List Qo:=Wo arL ((akK l day age fs).2.filterMap (acL l num))
def ajg (l:List Qa) (num:Int) (vs is:List Nat):List Qo:=is.filterMap fun a=>(vs[a]?).bind (acL l num)
theorem ak5 (l:List Qa) (num:Int):∀ vs:List Nat,ajg l num vs (List.range vs.length) = vs.filterMap (acL l num)
 | []=>rfl
 | x :: r=>by
   have ih:=ak5 l num r
   rw [ajg] at ih ⊢
   rw [List.length_cons,List.range_succ_eq_map,List.filterMap_cons,List.filterMap_map,List.filterMap_cons]
   simp only [List.getElem?_cons_zero,Option.bind_some]
   have:(fun a=>((x :: r)[a]?).bind (acL l num)) ∘ Nat.succ = fun a=>(r[a]?).bind (acL l num):=by
    funext a;simp
   rw [this,ih]
theorem an8 {l:List Qa} {num day age:Int} {fs is:List Nat}:∀ a∈ajg l num (akK l day age fs).2 is,∀ b∈ajg l num (akK l day age fs).2 is,akf a b = 0→a = b:=by
 intro a ha b hb2 h0
 have hok:=anK l day age fs fs.length (zj _)
 rw [zG] at hok
 generalize akK l day age fs = m at *
 obtain ⟨ks,vs⟩:=m
 dsimp only at *
 obtain ⟨h1,h2,h3,h4,h5,h6⟩:=apw h0
 have key:∀ c,c∈ajg l num vs is→∃ (p i:Nat) (f:Qa),vs[p]? = some i∧l[i]? = some f∧f.kind≠8∧c = af8 num i f:=fun c hc=>by
  rw [ajg,Z5] at hc
  obtain ⟨p,_,hc⟩:=hc
  rcases hv:vs[p]? with _|i
  ·rw [hv] at hc;cases hc
  ·rw [hv,Option.bind_some,acL] at hc
   rcases hf:l[i]? with _|f
   ·rw [hf] at hc;cases hc
   ·rw [hf] at hc
    dsimp only at hc
    split at hc
    ·cases hc
    ·rename_i h8
     exact ⟨p,i,f,hv,hf,h8,(Z3 hc).symm⟩
 obtain ⟨p,i,f,p1,p2,p3,rfl⟩:=key a ha
 obtain ⟨q,j,g,q1,q2,q3,rfl⟩:=key b hb2
 simp only [af8] at h1 h2 h3 h4 h5 h6
 obtain ⟨f',r1,r2⟩:=hok.pt p i p1
 obtain ⟨g',s1,s2⟩:=hok.pt q j q1
 rw [p2] at r1;cases r1
 rw [q2] at s1;cases s1
 have hpl:Wl f = Wl g:=by
  simp only [Wl]
  rw [h1,h2,h3,h4,h5,h6]
 have hpq:p = q:=by
  have l1:=(zl.1 r2).1
  rw [hpl,← s2] at r2
  exact (List.getElem?_inj l1 hok.nd).1 r2
 subst hpq
 rw [p1] at q1;cases q1
 rw [p2] at q2;cases q2
 rfl
theorem as6 {l:List Qa} {num day age:Int} {fs is:List Nat} (hd:is.Nodup) (hb:∀ a∈is,a < (akK l day age fs).2.length) (he:∀ a,a < (akK l day age fs).2.length→a∈is):Wo arL (ajg l num (akK l day age fs).2 is) = qX l num fs day age:=by
 have hdist:=an8 (l:=l) (num:=num) (day:=day) (age:=age) (fs:=fs) (is:=is)
 rw [qX,← ak5]
 generalize akK l day age fs = m at *
 obtain ⟨ks,vs⟩:=m
 dsimp only at *
 have hp:is.Perm (List.range vs.length):=by
  rw [List.perm_ext_iff_of_nodup hd List.nodup_range]
  intro a
  rw [Zy]
  exact ⟨hb a,he a⟩
 exact aqV (hp.filterMap _) hdist
def aog (day age:Int):Bool:=decide (day < 0) || (decide (day > 40000) || (decide (age < 0) || decide (age > 4000)))
def awZ (gap day age:Int):Bool:=decide (gap < 0) || (decide (gap > 4000) || aog day age)
def XW (l:List Qa) (gap day age:Int):Int:=if wc l = true then (if awZ gap day age = true then 2 else 0) else 24
structure aiA (l:List Qa) (gap day age:Int):Prop where
 nm:wc l = true
 g:0≤gap∧gap≤4000
 d:0≤day∧day≤40000
 a:0≤age∧age≤4000
theorem vO {l:List Qa} {gap day age:Int}:XW l gap day age = 0↔aiA l gap day age:=by
 unfold XW
 constructor
 ·intro h
  split at h
  ·rename_i h1
   split at h
   ·cases h
   ·rename_i h2
    simp only [awZ,aog,Bool.not_eq_true,ZT,zF] at h2
    exact ⟨h1,by omega,by omega,by omega⟩
  ·cases h
 ·rintro ⟨h1,h2,h3,h4⟩
  rw [if_pos h1,if_neg]
  simp only [awZ,aog,Bool.not_eq_true,ZT,zF]
  omega
theorem amX {day age:Int}:aog day age = false↔(0≤day∧day≤40000)∧(0≤age∧age≤4000):=by
 simp only [aog,ZT,zF]
 omega
theorem ahR {l:List Qa} {gap day age:Int} (h:Y6 l gap≠0):XW l gap day age = Y6 l gap:=by
 unfold Y6 at h ⊢
 unfold XW
 by_cases h1:wc l = true
 ·rw [if_pos h1] at h
  rw [if_pos h1,if_pos h1]
  split at h
  ·rename_i h2
   rw [if_pos h2,if_pos]
   rw [awZ]
   rcases h2 with h2|h2
   ·rw [zn h2];rfl
   ·rw [zn h2];simp
  ·exact absurd rfl h
 ·rw [if_neg h1,if_neg h1]
theorem auR {l:List Qa} {gap day age:Int} (h:Y6 l gap = 0) (hr:aog day age = false):XW l gap day age = 0:=by
 unfold Y6 at h
 unfold XW
 split at h
 ·rename_i h1
  rw [if_pos h1]
  split at h
  ·cases h
  ·rw [awZ,zp (by omega),zp (by omega),hr];rfl
 ·cases h
theorem atJ {l:List Qa} {gap day age:Int} (hr:aog day age = false):XW l gap day age = Y6 l gap:=by
 by_cases h:Y6 l gap = 0
 ·rw [auR h hr,h]
 ·exact ahR h
theorem aiA.rng {l:List Qa} {gap day age:Int} (h:aiA l gap day age):aog day age = false:=amX.2 ⟨h.d,h.a⟩
theorem arT {l:List Qa} {gap day age:Int} (h:Y6 l gap = 0):XW l gap day age = if aog day age = true then 2 else 0:=by
 unfold Y6 at h
 unfold XW
 split at h
 ·rename_i h1
  rw [if_pos h1]
  split at h
  ·cases h
  ·rename_i h2
   rw [awZ,zp (by omega),zp (by omega)];rfl
 ·cases h
def fcE (e:JG):List V:=[V.int e.num,.sl 1 (e.hosts.map V.str),.sl 1 (e.machs.map V.int),.sl 1 (QL e.finds)]
def abk (l:List Qa) (e:JG) (day age:Int) (k:Nat) (m:PM):St:=QS [(0,.sl 11 (l.map Qa.v)),(2,V.int day),(3,V.int age),(5,.ptr 0 0),(12,.mp 1),(51,.sl 1 (QL e.finds)),(52,V.int e.finds.length),(53,V.int k)] [(0,.box true (fcE e)),(1,.map (m.1.map PPl.v) (QL m.2) 0)] 2
def ahZ (l:List Qa) (e:JG) (m:PM) (is:List Nat):St:=QS [(0,.sl 11 (l.map Qa.v)),(5,.ptr 0 0),(18,.hd 3 0 (ajg l e.num m.2 is).length),(118,.ptr 2 0)] [(0,.box true (fcE e)),(1,.map (m.1.map PPl.v) (QL m.2) 0),(2,.iter 1 m.2.length is m.2.length),(3,.buf true 8 ((ajg l e.num m.2 is).map Qo.v))] 4
def ajN (l:List Qa) (e:JG) (day age:Int):V:=if aog day age = true then .tup [.sl 8 [],V.int 2] else .tup [.sl 8 ((qX l e.num e.finds day age).map Qo.v),V.int 0]
def xf:=qd Proofs.Tryz.f63 [zhn 32]
def vI (Γ:Env) (f:Nat):Prop:=∀ (l:List Qa) (e:JG) (day age:Int) (hl:l.length < 2 ^ 40) (hz:∀ x∈l,x.Sz) (hnm:wc l = true) (ha:e.finds.Pairwise (· < ·)) (hb:∀ i∈e.finds,i < l.length) (hn:e.finds.length < 2 ^ 30),EvC Γ f [.sl 11 (l.map Qa.v),e.v,V.int day,V.int age] (ajN l e day age)
attribute [local go_sem] zb kH Qa.cells Qa.v fcE abk QS in
theorem ai0 {Γ:Env} {f:Nat} (h:Has Γ.P f 150 xf.1.1.ac xf.1.2) (z0:yB Γ 133) (z1:Ue Γ 134) (z2:adl Γ 135) (z3:Y2 Γ 136) (z4:yD Γ 137):vI Γ f:=by
 intro l e day age hl hz hnm ha hb hn
 refine Q0 h zsi (by unfold ajN;split<;>simp only [V.closed,Qb,and_self]) fun C hC hm=>?_
 subst hC
 simp only [xf,qd,DC.ac]
 have gI:=z0 l e ha hb hn
 have gN:=z1 l hl hz
 rw [hnm] at gN
 have gN:=gN.b
 have hpc:(QL e.finds).length = e.finds.length:=zb _
 simp only [JG.v] at gI
 rcases hrg:aog day age with _|_
 rotate_left
 ·rw [ajN,if_pos hrg]
  rw [aog] at hrg
  simp only [JG.v]
  rcases d1:decide (day < 0) with _|_
  rotate_left
  ·repeat' (first|(refine zsk ?_;intro K' hK)|(refine zrg ?_;intro K' hK)|refine zsp ?_|(refine zsc ?_ ?_<;>intro hc<;>first|exact znh|try simp only [znz] at hc)|simp (maxSteps:=1000000) only [go_sem,d1,hpc]|(refine hK _ ?_;clear hK K')|apply zan|(apply aaZ;(focus exact rfl);(focus first|exact (z3 _ _ _ zsd zsd zsd zsd zsd));(focus exact rfl);(focus (first|(simp;done)|omega|(simp only [zb];omega))))|((first|apply QA|apply Q3);(focus first|exact gN|exact (z0 _ _ zsd zsd zsd).b|exact (z1 _ zsd zsd).b|exact (z2 _).b))|exact zsq|fail)
   all_goals exact zr
  rcases d2:decide (day > 40000) with _|_
  rotate_left
  ·repeat' (first|(refine zsk ?_;intro K' hK)|(refine zrg ?_;intro K' hK)|refine zsp ?_|(refine zsc ?_ ?_<;>intro hc<;>first|exact znh|try simp only [znz] at hc)|simp (maxSteps:=1000000) only [go_sem,d1,d2,hpc]|(refine hK _ ?_;clear hK K')|apply zan|(apply aaZ;(focus exact rfl);(focus first|exact (z3 _ _ _ zsd zsd zsd zsd zsd));(focus exact rfl);(focus (first|(simp;done)|omega|(simp only [zb];omega))))|((first|apply QA|apply Q3);(focus first|exact gN|exact (z0 _ _ zsd zsd zsd).b|exact (z1 _ zsd zsd).b|exact (z2 _).b))|exact zsq|fail)
   all_goals exact zr
  rcases d3:decide (age < 0) with _|_
  rotate_left
  ·repeat' (first|(refine zsk ?_;intro K' hK)|(refine zrg ?_;intro K' hK)|refine zsp ?_|(refine zsc ?_ ?_<;>intro hc<;>first|exact znh|try simp only [znz] at hc)|simp (maxSteps:=1000000) only [go_sem,d1,d2,d3,hpc]|(refine hK _ ?_;clear hK K')|apply zan|(apply aaZ;(focus exact rfl);(focus first|exact (z3 _ _ _ zsd zsd zsd zsd zsd));(focus exact rfl);(focus (first|(simp;done)|omega|(simp only [zb];omega))))|((first|apply QA|apply Q3);(focus first|exact gN|exact (z0 _ _ zsd zsd zsd).b|exact (z1 _ zsd zsd).b|exact (z2 _).b))|exact zsq|fail)
   all_goals exact zr
  have d4:decide (age > 4000) = true:=by rw [d1,d2,d3] at hrg;exact hrg
  repeat' (first|(refine zsk ?_;intro K' hK)|(refine zrg ?_;intro K' hK)|refine zsp ?_|(refine zsc ?_ ?_<;>intro hc<;>first|exact znh|try simp only [znz] at hc)|simp (maxSteps:=1000000) only [go_sem,d1,d2,d3,d4,hpc]|(refine hK _ ?_;clear hK K')|apply zan|(apply aaZ;(focus exact rfl);(focus first|exact (z3 _ _ _ zsd zsd zsd zsd zsd));(focus exact rfl);(focus (first|(simp;done)|omega|(simp only [zb];omega))))|((first|apply QA|apply Q3);(focus first|exact gN|exact (z0 _ _ zsd zsd zsd).b|exact (z1 _ zsd zsd).b|exact (z2 _).b))|exact zsq|fail)
  all_goals exact zr
 rw [ajN,if_neg (by rw [hrg];decide)]
 obtain ⟨hdy,hag⟩:=amX.1 hrg
 have d1:decide (day < 0) = false:=zp (by omega)
 have d2:decide (day > 40000) = false:=zp (by omega)
 have d3:decide (age < 0) = false:=zp (by omega)
 have d4:decide (age > 4000) = false:=zp (by omega)
 simp only [JG.v]
 repeat' (first|(refine zsk ?_;intro K' hK)|(refine zrg ?_;intro K' hK)|refine zsp ?_|(refine zsc ?_ ?_<;>intro hc<;>first|exact znh|try simp only [znz] at hc)|simp (maxSteps:=1000000) only [go_sem,d1,d2,d3,d4,hpc]|(refine hK _ ?_;clear hK K')|apply zan|(apply aaZ;(focus exact rfl);(focus first|exact (z3 _ _ _ zsd zsd zsd zsd zsd));(focus exact rfl);(focus (first|(simp;done)|omega|(simp only [zb];omega))))|((first|apply QA|apply Q3);(focus first|exact gN|exact (z0 _ _ zsd zsd zsd).b|exact (z1 _ zsd zsd).b|exact (z2 _).b))|exact zsq|fail)
 refine Qj (ι:=Nat) (fun k=>k≤e.finds.length) (fun k=>abk l e day age k (akK l day age (e.finds.take k))) (fun k=>e.finds.length - k) 0 (zJ _) (Qd [(1,33000)]) (Qh [(1,33000)] (by simp only [go_sem,zwl,abk,fcE,zb]<;>exact zcc) (by simp only [go_sem,zwl,abk,fcE,QH,Q6]<;>exact zcc) (by simp [abk,Qd]) (by simp [abk];omega) (by omega)) fun k hk K' hL=>?_
 have hM:=anK l day age e.finds k hk
 rcases hdr:e.finds.drop k with _|⟨i,r⟩
 ·have hkl:=Qu hdr
  have e1:decide ((k:Int) < (e.finds.length:Int)) = false:=by simp;omega
  obtain rfl:k = e.finds.length:=by omega
  clear hL
  rw [zG] at hM ⊢
  have hvs:=fun is hd hb he=>as6 (l:=l) (num:=(e.num:Int)) (day:=day) (age:=age) (fs:=e.finds) (is:=is) hd hb he
  have hds:=fun is=>an8 (l:=l) (num:=(e.num:Int)) (day:=day) (age:=age) (fs:=e.finds) (is:=is)
  generalize akK l day age e.finds = m at *
  have hkl:m.1.length = m.2.length:=hM.len
  (have zx:=za e1 hkl);refine zgo ?_;repeat' first|exact zt|apply zan|intro hc
  have hv0:ajg l e.num m.2 [] = []:=rfl
  refine Qj (ι:=List Nat) (fun is=>is.Nodup∧∀ a∈is,a < m.2.length) (fun is=>ahZ l e m is) (fun is=>m.2.length - is.length) [] ⟨kw,by simp⟩ (Qd [(3,1002),(2,3002)]) (Qh [(3,1002),(2,3002)] (by simp only [go_sem,zwl,ahZ,fcE,hv0,List.length_nil,zH,zb]<;>exact zcc) (by simp only [go_sem,zwl,ahZ,fcE,hv0,List.length_nil,zH,QH,Q6]<;>exact zcc) (by simp [ahZ,Qd]) (by simp [ahZ];omega) (by omega)) fun is his K' hL=>?_
  obtain ⟨his1,his2⟩:=his
  have hln:∀ js:List Nat,js.Nodup→(∀ a∈js,a < m.2.length)→js.length≤m.2.length:=fun js h1 h2=>by
   have:=List.Nodup.length_le_of_subset h1 (fun a ha=>Zy.2 (h2 a ha))
   rwa [ZH] at this
  have hvl:(ajg l e.num m.2 is).length≤is.length:=List.length_filterMap_le _ _
  have hil:=hln is his1 his2
  have hml:=hM.le
  rcases hun:aho 0 m.2.length is with _|⟨u,us⟩
  ·have hall:∀ a,a < m.2.length→a∈is:=fun a ha=>by
    by_cases hin:a∈is
    ·exact hin
    ·have:a∈aho 0 m.2.length is:=abW.2 ⟨ha,by rwa [kH]⟩
     rw [hun] at this;cases this
   have hsort:=hvs is his1 his2 hall
   have hdist:=hds is
   clear hL hvs hds
   simp only [ahZ,fcE]
   generalize ajg l e.num m.2 is = out at *
   have hol:out.length < 2 ^ 30:=by omega
   have gT:=z3 out 137 akf z4.1 (z4.2 _ rfl) ac8 hdist (by omega)
   have d5:(fun x y:Qo=>decide (akf x y < 0)) = arL:=rfl
   rw [d5,hsort] at gT
   have htk:List.take out.length ((qX l e.num e.finds day age).map Qo.v) = (qX l e.num e.finds day age).map Qo.v:=zi (by rw [zb,← hsort,xw];omega)
   (have zx:=za hkl (za hun htk));refine zgo ?_;repeat' first|exact zt|apply zan|intro hc
   all_goals (refine Qg _ rfl ?_;simp only [go_sem];rw [htk];done)
  have hU:∀ x,x∈u :: us→x < m.2.length∧x ∉ is∧∃ i f,m.2[x]? = some i∧l[i]? = some f∧m.1[x]? = some (Wl f):=fun x hx=>by
   have h1:=abW.1 (hun ▸ hx)
   rw [kH] at h1
   obtain ⟨f,h2,h3⟩:=hM.pt x _ (zd h1.1)
   exact ⟨h1.1,h1.2,_,f,zd h1.1,h2,h3⟩
  have hvis:∀ x i,m.2[x]? = some i→ajg l e.num m.2 (is++[x]) = ajg l e.num m.2 is++(acL l e.num i).toList:=fun x i h=>by
   rw [ajg,ajg,bg,List.filterMap_cons,h,Option.bind_some,List.filterMap_nil]
   rcases acL l e.num i with _|y<;>rfl
  clear hvs hds
  simp only [ahZ,fcE]
  repeat' (first|(refine zsk ?_;intro K' hK)|(refine zrg ?_;intro K' hK)|refine zsp ?_|(refine zsc ?_ ?_<;>intro hc<;>first|exact znh|try simp only [znz] at hc)|simp (maxSteps:=1000000) only [go_sem,QS,hkl,zb,kH,hun]|(refine hK _ ?_;clear hK K')|apply zan|(apply aaZ;(focus exact rfl);(focus first|exact (z3 _ _ _ zsd zsd zsd zsd zsd));(focus exact rfl);(focus (first|(simp;done)|omega|(simp only [zb];omega))))|((first|apply QA|apply Q3);(focus first|exact (z0 _ _ zsd zsd zsd).b|exact (z1 _ zsd zsd).b|exact (z2 _).b))|exact zsq|fail)
  ·obtain ⟨x,hx0⟩:∃ x,x = u:=⟨u,rfl⟩
   have hx:x∈u :: us:=hx0 ▸ kD
   rw [← hx0]
   obtain ⟨hx1,hx2,i,f,hvx,hfx,hkx⟩:=hU x hx
   have vk:(m.1.map PPl.v)[x]? = some (Wl f).v:=by rw [zo,hkx];rfl
   have vv:=Uw hvx
   have hv1:=hvis x i hvx
   have hnd:(is++[x]).Nodup:=by rw [Zd];exact ⟨his1,by simp,fun a ha b hb=>by rw [zy.1 hb];exact fun he=>hx2 (he ▸ ha)⟩
   have hbd:∀ a∈is++[x],a < m.2.length:=fun a ha=>by
    rcases zP.1 ha with h|h
    ·exact his2 a h
    ·rw [zy.1 h];exact hx1
   have hln2:=hln _ hnd hbd
   rw [zv,List.length_singleton] at hln2
   have hms:m.2.length - (is++[x]).length < m.2.length - is.length:=by rw [zv,List.length_singleton];omega
   by_cases h8:f.kind = 8
   ·have e8:(f.kind != 8) = false:=by simpa using h8
    rw [acL,hfx] at hv1
    simp only [h8,if_true,Option.toList_none,ka] at hv1
    repeat' (first|(refine zsk ?_;intro K' hK)|(refine zrg ?_;intro K' hK)|refine zsp ?_|(refine zsc ?_ ?_<;>intro hc<;>first|exact znh|try simp only [znz] at hc)|simp (maxSteps:=1000000) only [go_sem,QS,hkl,e8,vk,vv,hfx,Int.toNat_natCast,zo,zb,kH,ZU,Nat.sub_zero,zJ,Qa.v,Qa.cells]|(refine hK _ ?_;clear hK K')|apply zan|(apply aaZ;(focus exact rfl);(focus first|exact (z3 _ _ _ zsd zsd zsd zsd zsd));(focus exact rfl);(focus (first|(simp;done)|omega|(simp only [zb];omega))))|((first|apply QA|apply Q3);(focus first|exact (z0 _ _ zsd zsd zsd).b|exact (z1 _ zsd zsd).b|exact (z2 _).b))|exact zsq|fail)
    all_goals exact hL _ (is++[x]) (Qd []) ⟨hnd,hbd⟩ hms (Qh [] (by simp only [go_sem,zwl,ahZ,fcE,hv1,zb]<;>exact zcc) (by simp only [go_sem,zwl,ahZ,fcE,hv1,QH,Q6]<;>exact zcc) (by simp [ahZ,Qd]) (by simp [ahZ]) (by omega))
   ·have e8:(f.kind != 8) = true:=by simpa using h8
    rw [acL,hfx] at hv1
    simp only [h8,if_false,Option.toList_some] at hv1
    have hol:(ajg l e.num m.2 is).length < 2 ^ 30:=by omega
    generalize ajg l e.num m.2 is = out at *
    have hll:(out.map Qo.v).length = out.length:=zb _
    have htk:(out.map Qo.v).take out.length = out.map Qo.v:=zi (by simp)
    repeat' (first|(refine zsk ?_;intro K' hK)|(refine zrg ?_;intro K' hK)|refine zsp ?_|(refine zsc ?_ ?_<;>intro hc<;>first|exact znh|try simp only [znz] at hc)|simp (maxSteps:=1000000) only [go_sem,QS,hkl,e8,vk,vv,hfx,htk,hll,Int.toNat_natCast,zo,zb,kH,ZU,Nat.sub_zero,zJ,Qa.v,Qa.cells]|(refine hK _ ?_;clear hK K')|apply zan|(apply aaZ;(focus exact rfl);(focus first|exact (z3 _ _ _ zsd zsd zsd zsd zsd));(focus exact rfl);(focus (first|(simp;done)|omega|(simp only [zb];omega))))|((first|apply QA|apply Q3);(focus first|exact (z0 _ _ zsd zsd zsd).b|exact (z1 _ zsd zsd).b|exact (z2 _).b))|exact zsq|fail)
    all_goals exact hL _ (is++[x]) (Qd [(3,30004)]) ⟨hnd,hbd⟩ hms (Qh [(3,30004)] (by simp only [go_sem,zwl,ahZ,fcE,hv1,zv,List.length_singleton]<;>exact zcc) (by simp only [go_sem,zwl,ahZ,fcE,hv1,QH,Q6,kj,zE,zH,Qo.v,Qo.cells,af8]<;>exact zcc) (by simp [ahZ,Qd]) (by simp [ahZ];omega) (by omega))
  ·intro x hx
   have hx:x∈u :: us:=kp _ hx
   obtain ⟨hx1,hx2,i,f,hvx,hfx,hkx⟩:=hU x hx
   have vk:(m.1.map PPl.v)[x]? = some (Wl f).v:=by rw [zo,hkx];rfl
   have vv:=Uw hvx
   have hv1:=hvis x i hvx
   have hnd:(is++[x]).Nodup:=by rw [Zd];exact ⟨his1,by simp,fun a ha b hb=>by rw [zy.1 hb];exact fun he=>hx2 (he ▸ ha)⟩
   have hbd:∀ a∈is++[x],a < m.2.length:=fun a ha=>by
    rcases zP.1 ha with h|h
    ·exact his2 a h
    ·rw [zy.1 h];exact hx1
   have hln2:=hln _ hnd hbd
   rw [zv,List.length_singleton] at hln2
   have hms:m.2.length - (is++[x]).length < m.2.length - is.length:=by rw [zv,List.length_singleton];omega
   by_cases h8:f.kind = 8
   ·have e8:(f.kind != 8) = false:=by simpa using h8
    rw [acL,hfx] at hv1
    simp only [h8,if_true,Option.toList_none,ka] at hv1
    repeat' (first|(refine zsk ?_;intro K' hK)|(refine zrg ?_;intro K' hK)|refine zsp ?_|(refine zsc ?_ ?_<;>intro hc<;>first|exact znh|try simp only [znz] at hc)|simp (maxSteps:=1000000) only [go_sem,QS,hkl,e8,vk,vv,hfx,Int.toNat_natCast,zo,zb,kH,ZU,Nat.sub_zero,zJ,Qa.v,Qa.cells]|(refine hK _ ?_;clear hK K')|apply zan|(apply aaZ;(focus exact rfl);(focus first|exact (z3 _ _ _ zsd zsd zsd zsd zsd));(focus exact rfl);(focus (first|(simp;done)|omega|(simp only [zb];omega))))|((first|apply QA|apply Q3);(focus first|exact (z0 _ _ zsd zsd zsd).b|exact (z1 _ zsd zsd).b|exact (z2 _).b))|exact zsq|fail)
    all_goals exact hL _ (is++[x]) (Qd []) ⟨hnd,hbd⟩ hms (Qh [] (by simp only [go_sem,zwl,ahZ,fcE,hv1,zb]<;>exact zcc) (by simp only [go_sem,zwl,ahZ,fcE,hv1,QH,Q6]<;>exact zcc) (by simp [ahZ,Qd]) (by simp [ahZ]) (by omega))
   ·have e8:(f.kind != 8) = true:=by simpa using h8
    rw [acL,hfx] at hv1
    simp only [h8,if_false,Option.toList_some] at hv1
    have hol:(ajg l e.num m.2 is).length < 2 ^ 30:=by omega
    generalize ajg l e.num m.2 is = out at *
    have hll:(out.map Qo.v).length = out.length:=zb _
    have htk:(out.map Qo.v).take out.length = out.map Qo.v:=zi (by simp)
    repeat' (first|(refine zsk ?_;intro K' hK)|(refine zrg ?_;intro K' hK)|refine zsp ?_|(refine zsc ?_ ?_<;>intro hc<;>first|exact znh|try simp only [znz] at hc)|simp (maxSteps:=1000000) only [go_sem,QS,hkl,e8,vk,vv,hfx,htk,hll,Int.toNat_natCast,zo,zb,kH,ZU,Nat.sub_zero,zJ,Qa.v,Qa.cells]|(refine hK _ ?_;clear hK K')|apply zan|(apply aaZ;(focus exact rfl);(focus first|exact (z3 _ _ _ zsd zsd zsd zsd zsd));(focus exact rfl);(focus (first|(simp;done)|omega|(simp only [zb];omega))))|((first|apply QA|apply Q3);(focus first|exact (z0 _ _ zsd zsd zsd).b|exact (z1 _ zsd zsd).b|exact (z2 _).b))|exact zsq|fail)
    all_goals exact hL _ (is++[x]) (Qd [(3,30004)]) ⟨hnd,hbd⟩ hms (Qh [(3,30004)] (by simp only [go_sem,zwl,ahZ,fcE,hv1,zv,List.length_singleton]<;>exact zcc) (by simp only [go_sem,zwl,ahZ,fcE,hv1,QH,Q6,kj,zE,zH,Qo.v,Qo.cells,af8]<;>exact zcc) (by simp [ahZ,Qd]) (by simp [ahZ];omega) (by omega))
 obtain ⟨hk',hget,hr⟩:=Qq hdr
 have hw:=Qe (k:=k) (by omega)
 have e1:decide ((k:Int) < (e.finds.length:Int)) = true:=by simp;omega
 have hsu:=asx (l:=l) (day:=day) (age:=age) hget
 obtain ⟨f,hf⟩:∃ f,l[i]? = some f:=⟨_,zd (hb i (zq hget))⟩
 generalize akK l day age (e.finds.take k) = m at *
 obtain ⟨ks,vs⟩:=m
 have hvi:=Uw hget
 have hwd:IntKind.i64.wrap (day - age) = day - age:=Jc (by omega) (by omega)
 rw [ap6,hf] at hsu
 dsimp only at hsu
 simp only [abk,fcE]
 rcases h1:decide (f.day > day) with _|_
 ·rcases h2:decide (f.day < day - age) with _|_
  ·rw [if_neg (by simp at h1 h2;omega)] at hsu
   have p1:=(z2 f).b
   have hfk:=al4 (Wl f) ks 0
   have hek:=at6 (Wl f)
   have hlen:=hM.len
   dsimp only at hlen
   simp only [Qa.v,Qa.cells] at p1
   rcases hix:apS (Wl f) ks 0 with _|a
   ·rw [hix] at hsu hfk
    have hm1:ks.map PPl.v++[(Wl f).v] = (ks++[Wl f]).map PPl.v:=by simp
    have hm2:=vK vs i
    (have zx:=za e1 (za hw (za hwd (za h1 (za h2 (za hfk (za hek (za hm1 (za hm2 (za hvi hf))))))))));refine zgo ?_;repeat' first|exact zt|apply zan|intro hc
    all_goals exact hL _ (k + 1) (Qd []) (by omega) (by omega) (by rw [hsu];exact Qh [] (by simp only [go_sem,zwl,abk,fcE,zb]<;>exact zcc) (by simp only [go_sem,zwl,abk,fcE,QH,Q6]<;>exact zcc) (by simp [abk,Qd]) (by simp [abk]) (by omega))
   ·rw [hix] at hsu hfk
    have hal:=(adJ hix).2.1
    obtain ⟨v,hv⟩:∃ v,vs[a]? = some v:=⟨_,zd (by omega)⟩
    obtain ⟨g,hg,-⟩:=hM.pt a v hv
    have hvd:vs.getD a 0 = v:=by rw [zI,hv];rfl
    simp only [hvd,hg] at hsu
    have hvc:=Uw hv
    have hm1:=ahC vs a i
    rcases h3:decide (f.day > g.day) with _|_
    ·rcases h4:f.day == g.day with _|_
     ·rw [auo,h3,h4,if_neg (by simp)] at hsu
      (have zx:=za e1 (za hw (za hwd (za h1 (za h2 (za h3 (za h4 (za hfk (za hek (za hm1 (za hvc (za hvi (za hf hg)))))))))))));refine zgo ?_;repeat' first|exact zt|apply zan|intro hc
      all_goals exact hL _ (k + 1) (Qd []) (by omega) (by omega) (by rw [hsu];exact Qh [] (by simp only [go_sem,zwl,abk,fcE,zb]<;>exact zcc) (by simp only [go_sem,zwl,abk,fcE,QH,Q6]<;>exact zcc) (by simp [abk,Qd]) (by simp [abk]) (by omega))
     ·rcases h5:decide (f.conf > g.conf) with _|_
      ·rw [auo,h3,h4,h5,if_neg (by decide)] at hsu
       (have zx:=za e1 (za hw (za hwd (za h1 (za h2 (za h3 (za h4 (za h5 (za hfk (za hek (za hm1 (za hvc (za hvi (za hf hg))))))))))))));refine zgo ?_;repeat' first|exact zt|apply zan|intro hc
       all_goals exact hL _ (k + 1) (Qd []) (by omega) (by omega) (by rw [hsu];exact Qh [] (by simp only [go_sem,zwl,abk,fcE,zb]<;>exact zcc) (by simp only [go_sem,zwl,abk,fcE,QH,Q6]<;>exact zcc) (by simp [abk,Qd]) (by simp [abk]) (by omega))
      ·rw [auo,h3,h4,h5,if_pos (by decide)] at hsu
       (have zx:=za e1 (za hw (za hwd (za h1 (za h2 (za h3 (za h4 (za h5 (za hfk (za hek (za hm1 (za hvc (za hvi (za hf hg))))))))))))));refine zgo ?_;repeat' first|exact zt|apply zan|intro hc
       all_goals exact hL _ (k + 1) (Qd []) (by omega) (by omega) (by rw [hsu];exact Qh [] (by simp only [go_sem,zwl,abk,fcE,zb]<;>exact zcc) (by simp only [go_sem,zwl,abk,fcE,QH,Q6]<;>exact zcc) (by simp [abk,Qd]) (by simp [abk]) (by omega))
    ·rw [auo,h3,if_pos (by simp)] at hsu
     (have zx:=za e1 (za hw (za hwd (za h1 (za h2 (za h3 (za hfk (za hek (za hm1 (za hvc (za hvi (za hf hg))))))))))));refine zgo ?_;repeat' first|exact zt|apply zan|intro hc
     all_goals exact hL _ (k + 1) (Qd []) (by omega) (by omega) (by rw [hsu];exact Qh [] (by simp only [go_sem,zwl,abk,fcE,zb]<;>exact zcc) (by simp only [go_sem,zwl,abk,fcE,QH,Q6]<;>exact zcc) (by simp [abk,Qd]) (by simp [abk]) (by omega))
  ·rw [if_pos (by simp at h1 h2;omega)] at hsu
   (have zx:=za e1 (za hw (za hwd (za h1 (za h2 (za hvi hf))))));refine zgo ?_;repeat' first|exact zt|apply zan|intro hc
   all_goals exact hL _ (k + 1) (Qd []) (by omega) (by omega) (by rw [hsu];exact Qh [] (by simp only [go_sem,zwl,abk,fcE,zb]<;>exact zcc) (by simp only [go_sem,zwl,abk,fcE,QH,Q6]<;>exact zcc) (by simp [abk,Qd]) (by simp [abk]) (by omega))
 ·rw [if_pos (by simp at h1;omega)] at hsu
  (have zx:=za e1 (za hw (za hwd (za h1 (za hvi hf)))));refine zgo ?_;repeat' first|exact zt|apply zan|intro hc
  all_goals exact hL _ (k + 1) (Qd []) (by omega) (by omega) (by rw [hsu];exact Qh [] (by simp only [go_sem,zwl,abk,fcE,zb]<;>exact zcc) (by simp only [go_sem,zwl,abk,fcE,QH,Q6]<;>exact zcc) (by simp [abk,Qd]) (by simp [abk]) (by omega))
theorem aux {fs:List Nat} {k:Nat} (h:fs.Pairwise (· < ·)) (hk:∀ i∈fs,i < k):(fs++[k]).Pairwise (· < ·):=by
 rw [Za]
 exact ⟨h,List.pairwise_singleton ..,fun a ha b hb=>by rw [zy.1 hb];exact hk a ha⟩
theorem aoV {l:List Qa} {p:List Nat} (hp:PW p):∀ k,k≤l.length→∀ e∈Xw l p k,e.finds.Pairwise (· < ·)
 | 0,_,e,he=>by simp [Xw] at he
 | k + 1,hk,e,he=>by
   have ih:=aoV (l:=l) hp k (by omega)
   have hI:=vV (l:=l) hp k (by omega)
   rw [Xw,zd (by omega)] at he
   dsimp only at he
   generalize Xw l p k = es at *
   rw [akG] at he
   split at he
   ·rcases zP.1 he with he|he
    ·exact ih e he
    ·rw [zy.1 he];simp [Xx,Jh]
   ·rcases hx:akr (Ut p k) (es.map JG.num) 0 with _|a
    ·rw [hx] at he;exact ih e he
    ·rw [hx] at he
     dsimp only at he
     rcases hy:es[a]? with _|y
     ·rw [hy] at he;exact ih e he
     ·rw [hy] at he
      dsimp only at he
      have hm:=zq hy
      rcases Zh he with he|rfl
      ·exact ih e he
      ·exact aux (ih y hm) (hI.sz y hm).fl
theorem ail {l:List Qa} {gap:Int} {e:JG} (he:e∈Xj l gap):e.finds.Pairwise (· < ·)∧(∀ i∈e.finds,i < l.length)∧e.finds.length≤l.length∧e.hosts.length≤l.length:=by
 have hp:=ahc l gap
 have h1:=(vV (l:=l) hp l.length (zj _)).sz e he
 exact ⟨aoV hp l.length (zj _) e he,h1.fl,h1.f1,h1.h1⟩
theorem aeo (l:List Qa) (gap:Int):(Xj l gap).length≤l.length:=(vV (l:=l) (ahc l gap) l.length (zj _)).len
theorem ap5 {l:List Qa} {gap:Int} (h:Y6 l gap = 0):wc l = true:=by
 rw [Y6] at h
 split at h
 ·assumption
 ·cases h
def fcv (fl:List Qo):V:=.sl 8 (fl.map Qo.v)
def YS (l:List Qa) (gap day age:Int):List (List Qo):=(Xj l gap).map fun e=>qX l e.num e.finds day age
def adO (l:List Qa) (gap day age:Int):V:=if XW l gap day age = 0 then .tup [.sl 4 ((Xj l gap).map JG.v),.sl 1 ((YS l gap day age).map fcv),V.int 0] else .tup [.sl 4 [],.sl 1 [],V.int (XW l gap day age)]
def obO (xs:List V):Ob:=if xs = [] then .buf true 1 [] else .obuf true 1 xs
theorem arB:obO [] = .buf true 1 []:=rfl
theorem avN (xs:List V) (x:V):obO (xs++[x]) = .obuf true 1 (xs++[x]):=by rw [obO,if_neg (by simp)]
theorem avM (x:V):obO [x] = .obuf true 1 [x]:=rfl
theorem au2:∀ l:List (List Qo),ntL (l.map fcv)
 | []=>trivial
 | x :: r=>⟨by simp [fcv],au2 r⟩
theorem ab2:∀ l:List (List Qo),Qb (l.map fcv)
 | []=>trivial
 | x :: r=>⟨by simp only [fcv,V.closed,Qb,and_self],ab2 r⟩
theorem av7 (σ:Nat→Nat) (l:List (List Qo)):Ks σ (l.map fcv) = l.map fcv:=Qy _ _ (ab2 l)
theorem axB (n:Nat) (l:List (List Qo)):ltL n (l.map fcv):=YG _ _ (ab2 l)
theorem aoR {o:Nat→Option Ob}:∀ l:List (List Qo),QR o [] none (l.map fcv) (l.map fcv)
 | []=>trivial
 | x :: r=>⟨by simp [fcv,conv],aoR r⟩
theorem av8 {o:Nat→Option Ob} {n:Nat} {l:List (List Qo)} (h:o n = some (obO (l.map fcv))):conv o [] none (.hd n 0 l.length) (.sl 1 (l.map fcv)):=by
 rw [anL]
 rcases l with _|⟨x,r⟩
 ·exact ⟨trivial,by simp,.inl ⟨true,_,h,rfl⟩⟩
 ·refine ⟨trivial,by simp,.inr ⟨true,_,h,?_,au2 _,ab2 _⟩⟩
  rw [kZ,zi (by simp)]
  exact aoR _
def faS (l:List Qa) (gap day age:Int) (k:Nat):St:=QS [(0,.sl 11 (l.map Qa.v)),(2,V.int day),(3,V.int age),(11,.sl 4 ((Xj l gap).map JG.v)),(13,.hd 0 0 k),(27,.sl 4 ((Xj l gap).map JG.v)),(28,V.int (Xj l gap).length),(29,V.int k)] [(0,obO (((YS l gap day age).take k).map fcv))] 1
def UM:=qd Proofs.Tryz.f25 []
def Uf (Γ:Env) (f:Nat):Prop:=∀ (l:List Qa) (gap day age:Int) (hl:l.length < 2 ^ 30) (hz:∀ x∈l,x.Sz),EvC Γ f [.sl 11 (l.map Qa.v),V.int gap,V.int day,V.int age] (adO l gap day age)
attribute [local go_sem] Int.toNat_zero List.getElem?_cons_zero List.length_cons List.length_nil QS in
theorem afl {Γ:Env} {f:Nat} (h:Has Γ.P f 65 UM.1.1.ac UM.1.2) (z0:X4 Γ 36) (z3:vI Γ 63):Uf Γ f:=by
 intro l gap day age hl hz
 refine Q0 h zsi (by unfold adO;split<;>simp only [V.closed,Qb,and_self]) fun C hC hm=>?_
 subst hC
 simp only [UM,qd,DC.ac]
 have g0:=(z0 l gap (by omega) hz).b
 by_cases hE:Y6 l gap = 0
 rotate_left
 ·rw [adO,ahR hE,if_neg hE]
  rw [awd,if_neg hE] at g0
  have e01:(Y6 l gap != 0) = true:=by simpa using hE
  generalize Y6 l gap = er at *
  (have zx:=e01);exact zg
 rw [awd,if_pos hE] at g0
 have hN:=ap5 hE
 have hok0:=fun e (he:e∈Xj l gap)=>ail he
 have e000:((0:Int) != 0) = false:=by decide
 have e002:((2:Int) != 0) = true:=by decide
 rcases hrg:aog day age with _|_
 rotate_left
 ·rw [adO,arT hE,if_pos hrg,if_neg (by decide)]
  rcases hes:Xj l gap with _|⟨e,r⟩
  ·rw [hes] at g0
   rw [aog] at hrg
   have z1:decide (((0:Nat):Int) < ((0:Nat):Int)) = false:=by decide
   have z2:((List.map JG.v []).length:Nat) = 0:=rfl
   simp only [zH] at g0 ⊢
   rcases d1:decide (day < 0) with _|_
   rotate_left
   ·(have zx:=za d1 (za e000 z1));refine zgo ?_;repeat' first|exact zt|apply zan|intro hc
    refine ab7 ?_
    (have zx:=za d1 (za e000 z1));exact zg
   rcases d2:decide (day > 40000) with _|_
   rotate_left
   ·(have zx:=za d1 (za d2 (za e000 z1)));refine zgo ?_;repeat' first|exact zt|apply zan|intro hc
    refine ab7 ?_
    (have zx:=za d1 (za d2 (za e000 z1)));exact zg
   rcases d3:decide (age < 0) with _|_
   rotate_left
   ·(have zx:=za d1 (za d2 (za d3 (za e000 z1))));refine zgo ?_;repeat' first|exact zt|apply zan|intro hc
    refine ab7 ?_
    (have zx:=za d1 (za d2 (za d3 (za e000 z1))));exact zg
   have d4:decide (age > 4000) = true:=by rw [d1,d2,d3] at hrg;exact hrg
   (have zx:=za d1 (za d2 (za d3 (za d4 (za e000 z1)))));refine zgo ?_;repeat' first|exact zt|apply zan|intro hc
   refine ab7 ?_
   (have zx:=za d1 (za d2 (za d3 (za d4 (za e000 z1)))));exact zg
  ·obtain ⟨o1,o2,o3,o4⟩:=hok0 e (by rw [hes];exact kD)
   have p1:=(z3 l e day age (by omega) hz hN o1 o2 (by omega)).b
   rw [ajN,if_pos hrg] at p1
   have hlr:((r.map JG.v).length:Nat) = r.length:=zb _
   have z1:decide ((0:Int) < ((r.length + 1:Nat):Int)) = true:=zn (by omega)
   rw [hes] at g0
   simp only [zE,JG.v] at g0 p1 ⊢
   (have zx:=za e000 (za e002 (za z1 hlr)));refine zgo ?_;repeat' first|exact zt|apply zan|intro hc
   refine ab7 ?_
   (have zx:=za e000 (za e002 (za z1 hlr)));exact zg
 obtain ⟨hdy,hag⟩:=amX.1 hrg
 rw [adO,if_pos (auR hE hrg)]
 have d1:decide (day < 0) = false:=zp (by omega)
 have d2:decide (day > 40000) = false:=zp (by omega)
 have d3:decide (age < 0) = false:=zp (by omega)
 have d4:decide (age > 4000) = false:=zp (by omega)
 have e00:((0:Int) != 0) = false:=by decide
 have hel:((Xj l gap).map JG.v).length = (Xj l gap).length:=zb _
 have hok:=fun e (he:e∈Xj l gap)=>ail he
 have hen:=aeo l gap
 have hfl:(YS l gap day age).length = (Xj l gap).length:=zb _
 (have zx:=za e00 hel);refine zgo ?_;repeat' first|exact zt|apply zan|intro hc
 refine Qj (ι:=Nat) (fun k=>k≤(Xj l gap).length) (fun k=>faS l gap day age k) (fun k=>(Xj l gap).length - k) 0 (zJ _) (Qd [(0,13000)]) (Qh [(0,13000)] (by simp only [go_sem,zwl,faS,zb]<;>exact zcc) (by simp only [go_sem,zwl,faS,List.take_zero,zH,arB]<;>exact zcc) (by simp [faS,Qd]) (by simp [faS];omega) (by omega)) fun k hk K' hL=>?_
 rcases hdr:(Xj l gap).drop k with _|⟨e,r⟩
 ·have hkl:=Qu hdr
  have e1:decide ((k:Int) < ((Xj l gap).length:Int)) = false:=by simp;omega
  obtain rfl:k = (Xj l gap).length:=by omega
  have htk:(YS l gap day age).take (Xj l gap).length = YS l gap day age:=zi (by omega)
  simp only [faS,htk]
  (have zx:=za e1 (za d1 (za d2 (za d3 d4))));refine zgo ?_;repeat' first|exact zt|apply zan|intro hc
  all_goals
   refine Qg _ rfl ⟨?_,?_,rfl,trivial⟩
   ·show conv _ _ _ (.sl 4 ((Xj l gap).map JG.v)) (.sl 4 ((Xj l gap).map JG.v))
    simp [conv]
   show conv _ _ _ (.hd 0 0 (Xj l gap).length) _
   rw [← hfl]
   exact av8 rfl
 obtain ⟨hk',hget,hr⟩:=Qq hdr
 have hw:=Qe (k:=k) (by omega)
 have e1:decide ((k:Int) < ((Xj l gap).length:Int)) = true:=by simp;omega
 obtain ⟨o1,o2,o3,o4⟩:=hok e (zq hget)
 have p1:=(z3 l e day age (by omega) hz hN o1 o2 (by omega)).b
 rw [ajN,if_neg (by rw [hrg];decide)] at p1
 have hnx:(YS l gap day age).take (k + 1) = (YS l gap day age).take k++[qX l e.num e.finds day age]:=by
  rw [zB,YS,zo,hget];rfl
 have htl:((YS l gap day age).take k).length = k:=by rw [zU];omega
 simp only [faS]
 have vx:((Xj l gap).map JG.v)[k]? = some e.v:=by rw [zo,hget];rfl
 simp only [JG.v] at vx p1
 have hxl:(((YS l gap day age).take k).map fcv).length = k:=by rw [zb,htl]
 have htk:List.take k (((YS l gap day age).take k).map fcv) = ((YS l gap day age).take k).map fcv:=zi (by omega)
 by_cases hk0:k = 0
 ·subst hk0
  simp only [List.take_zero,zH,arB,List.nil_append,kH] at *
  have hw1:IntKind.i64.wrap 1 = 1:=by decide
  (have zx:=za e1 (za hw (za hw1 (za vx e00))));refine zgo ?_;repeat' first|exact zt|apply zan|intro hc
  all_goals exact hL _ 1 (Qd [(0,20001)]) (by omega) (by omega) (Qh [(0,20001)] (by simp only [go_sem,zwl,faS,zb]<;>exact zcc) (by simp only [go_sem,zwl,faS,hnx,zE,zH,avM,fcv]<;>exact zcc) (by simp [faS,Qd]) (by simp [faS];omega) (by omega))
 ·have hob:obO (((YS l gap day age).take k).map fcv) = .obuf true 1 (((YS l gap day age).take k).map fcv):=by
   rw [obO,if_neg]
   intro h;rw [h] at hxl;simp at hxl;omega
  rw [hob]
  have hjn:((YS l gap day age).take k).map fcv++[.sl 8 ((qX l e.num e.finds day age).map Qo.v)] = ((YS l gap day age).take (k + 1)).map fcv:=by
   rw [hnx,kj];rfl
  have hob2:obO (((YS l gap day age).take (k + 1)).map fcv) = .obuf true 1 (((YS l gap day age).take (k + 1)).map fcv):=by
   rw [← hjn,avN]
  (have zx:=za e1 (za hw (za vx (za e00 (za hxl (za htk hjn))))));refine zgo ?_;repeat' first|exact zt|apply zan|intro hc
  all_goals exact hL _ (k + 1) (Qd [(0,20001)]) (by omega) (by omega) (Qh [(0,20001)] (by simp only [go_sem,zwl,faS,zb]<;>exact zcc) (by simp only [go_sem,zwl,faS,hob2,av7,axB]<;>exact zcc) (by simp [faS,Qd]) (by simp [faS];omega) (by omega))
end Av
end
