/- Functions that are lent a buffer of their caller's and answer the slice that takes its place (as append does), or the same one. -/
import Derived.Test.YtlpaikjhphkioaaGreatW13
import Derived.Test.YtlpaikjhphkioaaGreatW12
set_option linter.unusedVariables false
set_option linter.unusedSimpArgs false
section
namespace Av
open Go
structure EvI (Γ:Env) (f:FuncId) (args:List V) (sx:Nat) (xs ys:List V):Prop where
 ev:Ev Γ f (.hd 0 0 xs.length :: args) [.buf true sx xs] (.hd 1 0 ys.length) [.dead,.buf true sx ys]
structure EvX (Γ:Env) (f:FuncId) (args:List V) (sx:Nat) (xs:List V):Prop where
 ev:Ev Γ f (.hd 0 0 xs.length :: args) [.buf true sx xs] (.hd 0 0 xs.length) [.buf true sx xs]
section
variable {Γ:Env} {A W:Nat→Bool} {b:Nat} {r:List AO} {s:St} {d:Option Nat} {f:FuncId} {acts args:List V} {okf:Option (List Nat)→Prop} {J K:St→Prop} {a n sx:Nat} {xs ys:List V} {x:V}
theorem agF (ha:s.o a = some (.buf true sx xs)) (h:EvI Γ f args sx xs ys) (hal:(Q4 acts).contains a = false) (hd:decide (a < b) = true) (hn:n = xs.length) (hc:Qq s.o (some (Q4 acts)) acts)
  (hk:Vy Γ (b + KK) r { t:=(s.put d (.hd b 0 ys.length)).t,o:=upd (upd (KF (some (Q4 acts)) [a] s.o) b (some (.buf true sx ys))) a (some .dead),n:=s.n } K):afn Γ b r s d f (.hd a 0 n :: acts) (x :: args) okf K:=by
 intro h1 _
 simp only [JP,kw] at h1
 obtain ⟨_,rfl⟩:=h1
 subst hn
 have hal':a ∉ Q4 acts:=by simpa using hal
 refine J1 ⟨_,_,_,_,[a],some (Q4 acts),h.ev,⟨?_,JF s.o [a] _ (fun y hy=>?_) acts hc⟩,⟨⟨_,ha,rfl,rfl⟩,trivial⟩,by simp,by simpa using kr hd,by simp,by simp [KK],fun h=>by simp at h,?_⟩
 ·simp [conv]
 ·intro e
  rw [zu.1 e] at hy
  exact hal' hy
 ·simp only [Yd,Yb,Ob.ren,V.ren,sig]
  exact hk
theorem aaH (ha:s.o a = some (.buf true sx xs)) (h:EvX Γ f args sx xs) (hal:(Q4 acts).contains a = false) (hd:decide (a < b) = true) (hn:n = xs.length) (hc:Qq s.o (some (Q4 acts)) acts)
  (hk:Vy Γ (b + KK) r { t:=(s.put d (.hd a 0 n)).t,o:=upd (KF (some (Q4 acts)) [a] s.o) a (some (.buf true sx xs)),n:=s.n } K):afn Γ b r s d f (.hd a 0 n :: acts) (x :: args) okf K:=by
 intro h1 _
 simp only [JP,kw] at h1
 obtain ⟨_,rfl⟩:=h1
 subst hn
 have hal':a ∉ Q4 acts:=by simpa using hal
 refine J1 ⟨_,_,_,_,[a],some (Q4 acts),h.ev,⟨?_,JF s.o [a] _ (fun y hy=>?_) acts hc⟩,⟨⟨_,ha,rfl,rfl⟩,trivial⟩,by simp,by simpa using kr hd,by simp,by simp [KK],fun h=>by simp at h,?_⟩
 ·simp [conv]
 ·intro e
  rw [zu.1 e] at hy
  exact hal' hy
 ·simp only [Yd,Yb,Ob.ren,V.ren,sig]
  exact hk
theorem acu {nt:Nat} {ac:AC} {rs:List Uf} (hb:Has Γ.P f nt ac rs) (ha:args.length + 1≤nt)
  (h:∀ C:Ctx,C.env = Γ→C.m = 1→AWp C nt ac (YC (.hd 0 0 xs.length :: args) [.buf true sx xs]) (jK 1 rs (.hd 1 0 ys.length) [.dead,.buf true sx ys]) (fun _ _=>False) (jK 1 rs (.hd 1 0 ys.length) [.dead,.buf true sx ys])):EvI Γ f args sx xs ys :=
 ⟨by grind [Yu]⟩
theorem Kh {nt:Nat} {ac:AC} {rs:List Uf} (hb:Has Γ.P f nt ac rs) (ha:args.length + 1≤nt)
  (h:∀ C:Ctx,C.env = Γ→C.m = 1→AWp C nt ac (YC (.hd 0 0 xs.length :: args) [.buf true sx xs]) (jK 1 rs (.hd 0 0 xs.length) [.buf true sx xs]) (fun _ _=>False) (jK 1 rs (.hd 0 0 xs.length) [.buf true sx xs])):EvX Γ f args sx xs :=
 ⟨by grind [Yu]⟩
end
def apw (n:Nat) (v:Value):List Value:=List.replicate n v
theorem arG {x y n:Nat} {o:Nat→Option Ob}:KF (some [x,y]) [] o n = if n = x then (o n).map Ob.frz else if n = y then (o n).map Ob.frz else o n:=by
 simp only [KF,zC,zI,or_false,not_false_eq_true,and_true]
 by_cases h1:n = x<;>by_cases h2:n = y<;>simp [h1,h2]
theorem arF {x y:Nat}:(x∈[x,y]) = True:=by simp
theorem arE {x y:Nat}:(y∈[x,y]) = True:=by simp
theorem arQ {n:Int}:([V.sc (Value.int IntKind.i64 n)].all (KI IntKind.i64) = true) = True:=by simp [KI]
attribute [go_sem] arG arF arE arQ
theorem an4 {rs:List Uf} {s:St} {xs' ys:List V} {sx:Nat} (i n:Nat) (h:xV s rs = some [.hd i 0 n]) (h0:∃ x,s.o 0 = some x) (hi:s.o i = some (.buf true sx xs')) (hi1:1≤i) (hx:xs' = ys) (hn:n = ys.length) :
  jK 1 rs (.hd 1 0 ys.length) [.dead,.buf true sx ys] s:=by
 subst hn;subst hx
 obtain ⟨x0,e0⟩:=h0
 refine WJ rs _ _ h ⟨[0,i],none,by simp [wX,conv],⟨⟨_,e0,?_⟩,⟨_,hi,fun h=>h,rfl,rfl⟩,trivial⟩,?_,rfl⟩
 ·simp [aoq]
 ·simp;omega
theorem agl {rs:List Uf} {s:St} {xs' ys:List V} {sx:Nat} (n:Nat) (h:xV s rs = some [.hd 0 0 n]) (hi:s.o 0 = some (.buf true sx xs')) (hx:xs' = ys) (hn:n = ys.length) :
  jK 1 rs (.hd 0 0 ys.length) [.buf true sx ys] s:=by
 subst hn;subst hx
 exact WJ rs _ _ h ⟨[0],none,by simp [wX,conv],⟨⟨_,hi,fun h=>h,rfl,rfl⟩,trivial⟩,by simp,rfl⟩
end Av
end
noncomputable section
set_option maxRecDepth 10000
set_option maxHeartbeats 4000000
namespace Av
open Go
attribute [local irreducible] AWp Vy K7 jE awS awC aaG awQ abg QW Uc vZ awR Uj awB okR jt ris
structure Qa where
 src:Int
 host:List UInt8
 mach:Int
 day:Int
 conf:Int
 kind:Int
 subj:List UInt8
 alg:Int
 bits:Int
 num:Int
 text:List UInt8
 deriving DecidableEq
def Qa.cells (f:Qa):List V:=[V.int f.src,V.str f.host,V.int f.mach,V.int f.day,V.int f.conf,V.int f.kind,V.str f.subj,V.int f.alg,V.int f.bits,V.int f.num,V.str f.text]
def Qa.v (f:Qa):V:=.agg f.cells
def YA (x y:Int):Int:=if x < y then -1 else if x > y then 1 else 0
def qP (x y:List UInt8):Int:=if Op.bytesLess x y then -1 else if Op.bytesLess y x then 1 else 0
def Q0:List Int→Int
 | []=>0
 | x :: r=>if x≠0 then x else Q0 r
def aow (a b:Qa):List Int:=[qP a.host b.host,YA a.mach b.mach,YA a.day b.day,qP a.subj b.subj,YA a.kind b.kind,YA a.alg b.alg,YA a.bits b.bits,YA a.num b.num,qP a.text b.text,YA a.src b.src,YA a.conf b.conf]
def aaS (a b:Qa):Int:=Q0 (aow a b)
def Vd (Γ:Env) (f:Nat):Prop:=∀ G:Env,G.P = Γ.P→∀ a b:List UInt8,EvN G f [V.str a,V.str b] (V.int (qP a b))
def W2:=qd Proofs.Tryz.f164 []
def Wd (Γ:Env) (f:Nat):Prop:=∀ G:Env,G.P = Γ.P→∀ x:Int,EvN G f [V.int x] (V.bool false)
theorem aba {Γ:Env} {f:Nat} (h:Has Γ.P f 6 W2.1.1.ac W2.1.2) :Wd Γ f:=by
 intro G hG x
 rw [← hG] at h
 refine Qb h (by simp) (by simp only [V.closed]) (by simp only [V.noSl]) fun C hC hm=>?_
 subst hC;simp only [W2,qd,DC.ac]
 refine zgo ?_;repeat' first|exact zt|apply zan|intro hc
 all_goals first|exact zr|(refine Ql _ rfl ?_;simp only [go_sem];simp;done)
def XG:=qd Proofs.Tryz.f120 []
def Yh (Γ:Env) (f:Nat):Prop:=∀ G:Env,G.P = Γ.P→∀ x y:Int,EvN G f [V.int x,V.int y] (V.int (YA x y))
theorem wz {Γ:Env} {f:Nat} (h:Has Γ.P f 20 XG.1.1.ac XG.1.2) (z0:Wd Γ 164):Yh Γ f:=by
 intro G hG x y
 have n1:=(z0 G hG x).b
 have n2:=(z0 G hG y).b
 rw [← hG] at h
 refine Qb h (by simp) (by simp only [V.closed]) (by simp only [V.noSl]) fun C hC hm=>?_
 subst hC;simp only [XG,qd,DC.ac]
 by_cases h1:x < y
 ·have e1:decide (x < y) = true:=zo h1
  rw [YA,if_pos h1]
  repeat' (first|(refine zsk ?_;intro K' hK)|refine zsp ?_|(refine zsc ?_ ?_<;>intro hc<;>first|exact znh|try simp only [znz] at hc)|simp (maxSteps:=1000000) only [go_sem,e1]|(refine hK _ ?_;clear hK K')|apply zan|(apply Qr;(focus first|exact n1|exact n2))|exact zsq|fail)
  all_goals exact zr
 ·have e1:decide (x < y) = false:=zp h1
  by_cases h2:x > y
  ·have e2:decide (x > y) = true:=zo h2
   rw [YA,if_neg h1,if_pos h2]
   repeat' (first|(refine zsk ?_;intro K' hK)|refine zsp ?_|(refine zsc ?_ ?_<;>intro hc<;>first|exact znh|try simp only [znz] at hc)|simp (maxSteps:=1000000) only [go_sem,e1,e2]|(refine hK _ ?_;clear hK K')|apply zan|(apply Qr;(focus first|exact n1|exact n2))|exact zsq|fail)
   all_goals exact zr
  ·have e2:decide (x > y) = false:=zp h2
   rw [YA,if_neg h1,if_neg h2]
   repeat' (first|(refine zsk ?_;intro K' hK)|refine zsp ?_|(refine zsc ?_ ?_<;>intro hc<;>first|exact znh|try simp only [znz] at hc)|simp (maxSteps:=1000000) only [go_sem,e1,e2]|(refine hK _ ?_;clear hK K')|apply zan|(apply Qr;(focus first|exact n1|exact n2))|exact zsq|fail)
   all_goals exact zr
def YH:=qd Proofs.Tryz.f139 [⟨fun _=>true,[2,5],zoc 0 8⟩]
def Yt (Γ:Env) (f:Nat):Prop:=∀ (a b:Qa) (g:Nat) (p:Qa→Int) (hg:∀ x:Qa,EvN Γ g [x.v] (V.int (p x))),EvN Γ f [.ro [.clo (.n g) []] 0,.ro a.cells 0,.ro b.cells 0] (V.int (YA (p a) (p b)))
theorem yJ {Γ:Env} {f:Nat} (h:Has Γ.P f 11 YH.1.1.ac YH.1.2) (z0:Yh Γ 120):Yt Γ f:=by
 intro a b g p hg
 refine Qb h zsi zcl zcl fun C hC hm=>?_
 subst hC
 simp only [YH,qd,DC.ac]
 have g1:=(hg a).b
 have g2:=(hg b).b
 have g3:=(z0 _ rfl (p a) (p b)).b
 simp only [Qa.v,Qa.cells] at g1 g2 ⊢
 exact zg
def YG:=qd Proofs.Tryz.f141 [⟨fun _=>true,[2,5],zoc 0 8⟩]
def Ys (Γ:Env) (f:Nat):Prop:=∀ (a b:Qa) (g:Nat) (p:Qa→List UInt8) (hg:∀ x:Qa,EvN Γ g [x.v] (V.str (p x))),EvN Γ f [.ro [.clo (.n g) []] 0,.ro a.cells 0,.ro b.cells 0] (V.int (qP (p a) (p b)))
theorem yI {Γ:Env} {f:Nat} (h:Has Γ.P f 11 YG.1.1.ac YG.1.2) (z0:Vd Γ 119):Ys Γ f:=by
 intro a b g p hg
 refine Qb h zsi zcl zcl fun C hC hm=>?_
 subst hC
 simp only [YG,qd,DC.ac]
 have g1:=(hg a).b
 have g2:=(hg b).b
 have g3:=(z0 _ rfl (p a) (p b)).b
 simp only [Qa.v,Qa.cells] at g1 g2 ⊢
 exact zg
def XC:=qd Proofs.Tryz.f138 []
def Vs (Γ:Env) (f:Nat):Prop:=(∃ g1:Nat,Yt Γ g1∧∀ (a b:Qa) (g:Nat),EvC Γ f [.clo (.n g) [],.ro a.cells 0,.ro b.cells 0] (.clo (.n g1) [.ro [.clo (.n g) []] 0,.ro a.cells 0,.ro b.cells 0]))
theorem wu {Γ:Env} {f:Nat} (h:Has Γ.P f 6 XC.1.1.ac XC.1.2) (z0:Yt Γ 139):Vs Γ f:=by
 refine ⟨139,z0,fun a b g=>?_⟩
 refine Jt h (by simp) (by simp only [V.closed,Qc,and_self]) fun C hC hm=>?_
 subst hC
 simp only [XC,qd,DC.ac]
 simp only [Qa.cells]
 exact zg
def XB:=qd Proofs.Tryz.f140 []
def Vr (Γ:Env) (f:Nat):Prop:=(∃ g1:Nat,Ys Γ g1∧∀ (a b:Qa) (g:Nat),EvC Γ f [.clo (.n g) [],.ro a.cells 0,.ro b.cells 0] (.clo (.n g1) [.ro [.clo (.n g) []] 0,.ro a.cells 0,.ro b.cells 0]))
theorem wt {Γ:Env} {f:Nat} (h:Has Γ.P f 6 XB.1.1.ac XB.1.2) (z0:Ys Γ 141):Vr Γ f:=by
 refine ⟨141,z0,fun a b g=>?_⟩
 refine Jt h (by simp) (by simp only [V.closed,Qc,and_self]) fun C hC hm=>?_
 subst hC
 simp only [XB,qd,DC.ac]
 simp only [Qa.cells]
 exact zg
def XA:=qd Proofs.Tryz.f142 []
def Vq (Γ:Env) (f:Nat):Prop:=∀ (x:Qa),EvN Γ f [x.v] (V.str x.host)
theorem ws {Γ:Env} {f:Nat} (h:Has Γ.P f 5 XA.1.1.ac XA.1.2) :Vq Γ f:=by
 intro x
 refine Qb h zsi zcl zcl fun C hC hm=>?_
 subst hC
 simp only [XA,qd,DC.ac]
 simp only [Qa.v,Qa.cells]
 exact zg
def Xz:=qd Proofs.Tryz.f143 []
def Vp (Γ:Env) (f:Nat):Prop:=∀ (x:Qa),EvN Γ f [x.v] (V.int x.mach)
theorem wq {Γ:Env} {f:Nat} (h:Has Γ.P f 5 Xz.1.1.ac Xz.1.2) :Vp Γ f:=by
 intro x
 refine Qb h zsi zcl zcl fun C hC hm=>?_
 subst hC
 simp only [Xz,qd,DC.ac]
 simp only [Qa.v,Qa.cells]
 exact zg
def Xy:=qd Proofs.Tryz.f144 []
def Vo (Γ:Env) (f:Nat):Prop:=∀ (x:Qa),EvN Γ f [x.v] (V.int x.day)
theorem wo {Γ:Env} {f:Nat} (h:Has Γ.P f 5 Xy.1.1.ac Xy.1.2) :Vo Γ f:=by
 intro x
 refine Qb h zsi zcl zcl fun C hC hm=>?_
 subst hC
 simp only [Xy,qd,DC.ac]
 simp only [Qa.v,Qa.cells]
 exact zg
def Xx:=qd Proofs.Tryz.f145 []
def Vn (Γ:Env) (f:Nat):Prop:=∀ (x:Qa),EvN Γ f [x.v] (V.str x.subj)
theorem wm {Γ:Env} {f:Nat} (h:Has Γ.P f 5 Xx.1.1.ac Xx.1.2) :Vn Γ f:=by
 intro x
 refine Qb h zsi zcl zcl fun C hC hm=>?_
 subst hC
 simp only [Xx,qd,DC.ac]
 simp only [Qa.v,Qa.cells]
 exact zg
def Xw:=qd Proofs.Tryz.f146 []
def Vm (Γ:Env) (f:Nat):Prop:=∀ (x:Qa),EvN Γ f [x.v] (V.int x.kind)
theorem wj {Γ:Env} {f:Nat} (h:Has Γ.P f 5 Xw.1.1.ac Xw.1.2) :Vm Γ f:=by
 intro x
 refine Qb h zsi zcl zcl fun C hC hm=>?_
 subst hC
 simp only [Xw,qd,DC.ac]
 simp only [Qa.v,Qa.cells]
 exact zg
def Xv:=qd Proofs.Tryz.f147 []
def Vl (Γ:Env) (f:Nat):Prop:=∀ (x:Qa),EvN Γ f [x.v] (V.int x.alg)
theorem wi {Γ:Env} {f:Nat} (h:Has Γ.P f 6 Xv.1.1.ac Xv.1.2) :Vl Γ f:=by
 intro x
 refine Qb h zsi zcl zcl fun C hC hm=>?_
 subst hC
 simp only [Xv,qd,DC.ac]
 simp only [Qa.v,Qa.cells]
 exact zg
def Xu:=qd Proofs.Tryz.f148 []
def Vk (Γ:Env) (f:Nat):Prop:=∀ (x:Qa),EvN Γ f [x.v] (V.int x.bits)
theorem wh {Γ:Env} {f:Nat} (h:Has Γ.P f 6 Xu.1.1.ac Xu.1.2) :Vk Γ f:=by
 intro x
 refine Qb h zsi zcl zcl fun C hC hm=>?_
 subst hC
 simp only [Xu,qd,DC.ac]
 simp only [Qa.v,Qa.cells]
 exact zg
def Y2:=qd Proofs.Tryz.f149 []
def Wt (Γ:Env) (f:Nat):Prop:=∀ (x:Qa),EvN Γ f [x.v] (V.int x.num)
theorem xi {Γ:Env} {f:Nat} (h:Has Γ.P f 5 Y2.1.1.ac Y2.1.2) :Wt Γ f:=by
 intro x
 refine Qb h zsi zcl zcl fun C hC hm=>?_
 subst hC
 simp only [Y2,qd,DC.ac]
 simp only [Qa.v,Qa.cells]
 exact zg
def Y1:=qd Proofs.Tryz.f150 []
def Ws (Γ:Env) (f:Nat):Prop:=∀ (x:Qa),EvN Γ f [x.v] (V.str x.text)
theorem xh {Γ:Env} {f:Nat} (h:Has Γ.P f 5 Y1.1.1.ac Y1.1.2) :Ws Γ f:=by
 intro x
 refine Qb h zsi zcl zcl fun C hC hm=>?_
 subst hC
 simp only [Y1,qd,DC.ac]
 simp only [Qa.v,Qa.cells]
 exact zg
def Y0:=qd Proofs.Tryz.f151 []
def Wr (Γ:Env) (f:Nat):Prop:=∀ (x:Qa),EvN Γ f [x.v] (V.int x.src)
theorem xf {Γ:Env} {f:Nat} (h:Has Γ.P f 5 Y0.1.1.ac Y0.1.2) :Wr Γ f:=by
 intro x
 refine Qb h zsi zcl zcl fun C hC hm=>?_
 subst hC
 simp only [Y0,qd,DC.ac]
 simp only [Qa.v,Qa.cells]
 exact zg
def YZ:=qd Proofs.Tryz.f152 []
def Wq (Γ:Env) (f:Nat):Prop:=∀ (x:Qa),EvN Γ f [x.v] (V.int x.conf)
theorem xe {Γ:Env} {f:Nat} (h:Has Γ.P f 5 YZ.1.1.ac YZ.1.2) :Wq Γ f:=by
 intro x
 refine Qb h zsi zcl zcl fun C hC hm=>?_
 subst hC
 simp only [YZ,qd,DC.ac]
 simp only [Qa.v,Qa.cells]
 exact zg
def clC (a b:Qa) (q g:Nat):V:=.clo (.n q) [.ro [.clo (.n g) []] 0,.ro a.cells 0,.ro b.cells 0]
def apL (a b:Qa) (g1 g2 f3 f4 f5 f6 f7 f8 f9 f10 f11 f12 f13:Nat):List V:=[clC a b g2 f3,clC a b g1 f4,clC a b g1 f5,clC a b g2 f6,clC a b g1 f7,clC a b g1 f8,clC a b g1 f9,clC a b g1 f10,clC a b g2 f11,clC a b g1 f12,clC a b g1 f13]
theorem Km (a b:Qa) (g:Nat):Qc [.ro [.clo (.n g) []] 0,.ro a.cells 0,.ro b.cells 0]:=by simp only [V.closed,Qc,and_self]
theorem acb {l:List Int} {k:Nat} {v:Int} (h:l[k]? = some v):Q0 (l.drop k) = if v≠0 then v else Q0 (l.drop (k + 1)):=by
 obtain ⟨hk,he⟩:=zn.1 h
 rw [kH hk,he,Q0]
def WX:=qd Proofs.Tryz.f115 []
def Ut (Γ:Env) (f:Nat):Prop:=∀ (a b:Qa),EvN Γ f [a.v,b.v] (V.int (aaS a b))
attribute [local go_sem] Jk in
theorem aa6 {Γ:Env} {f:Nat} (h:Has Γ.P f 46 WX.1.1.ac WX.1.2) (z0:Vs Γ 138) (z1:Vr Γ 140) (z2:Vq Γ 142) (z3:Vp Γ 143) (z4:Vo Γ 144) (z5:Vn Γ 145) (z6:Vm Γ 146) (z7:Vl Γ 147) (z8:Vk Γ 148) (z9:Wt Γ 149) (z10:Ws Γ 150) (z11:Wr Γ 151) (z12:Wq Γ 152):Ut Γ f:=by
 intro a b
 refine Qb h zsi zcl zcl fun C hC hm=>?_
 subst hC
 simp only [WX,qd,DC.ac]
 obtain ⟨g1,c1,hO1⟩:=z0
 obtain ⟨g2,c2,hO2⟩:=z1
 have y3:=hO2 a b 142
 have y4:=hO1 a b 143
 have y5:=hO1 a b 144
 have y6:=hO2 a b 145
 have y7:=hO1 a b 146
 have y8:=hO1 a b 147
 have y9:=hO1 a b 148
 have y10:=hO1 a b 149
 have y11:=hO2 a b 150
 have y12:=hO1 a b 151
 have y13:=hO1 a b 152
 have hel:∀ k,k < 11→∃ (g:Nat) (cap:List V) (v:Int),(apL a b g1 g2 142 143 144 145 146 147 148 149 150 151 152)[k]? = some (.clo (.n g) cap)∧Qc cap∧(aow a b)[k]? = some v∧EvN C.env g cap (V.int v):=fun k hk=>by
  match k,hk with
  | 0,_=>exact ⟨_,_,_,rfl,Km a b _,rfl,c2 a b _ (fun x=>x.host) z2⟩
  | 1,_=>exact ⟨_,_,_,rfl,Km a b _,rfl,c1 a b _ (fun x=>x.mach) z3⟩
  | 2,_=>exact ⟨_,_,_,rfl,Km a b _,rfl,c1 a b _ (fun x=>x.day) z4⟩
  | 3,_=>exact ⟨_,_,_,rfl,Km a b _,rfl,c2 a b _ (fun x=>x.subj) z5⟩
  | 4,_=>exact ⟨_,_,_,rfl,Km a b _,rfl,c1 a b _ (fun x=>x.kind) z6⟩
  | 5,_=>exact ⟨_,_,_,rfl,Km a b _,rfl,c1 a b _ (fun x=>x.alg) z7⟩
  | 6,_=>exact ⟨_,_,_,rfl,Km a b _,rfl,c1 a b _ (fun x=>x.bits) z8⟩
  | 7,_=>exact ⟨_,_,_,rfl,Km a b _,rfl,c1 a b _ (fun x=>x.num) z9⟩
  | 8,_=>exact ⟨_,_,_,rfl,Km a b _,rfl,c2 a b _ (fun x=>x.text) z10⟩
  | 9,_=>exact ⟨_,_,_,rfl,Km a b _,rfl,c1 a b _ (fun x=>x.src) z11⟩
  | 10,_=>exact ⟨_,_,_,rfl,Km a b _,rfl,c1 a b _ (fun x=>x.conf) z12⟩
 have hlen:(apL a b g1 g2 142 143 144 145 146 147 148 149 150 151 152).length = 11:=rfl
 have hoL:(aow a b).length = 11:=rfl
 have hoF:aaS a b = Q0 (aow a b):=rfl
 simp only [Qa.v,Qa.cells] at y3 y4 y5 y6 y7 y8 y9 y10 y11 y12 y13 ⊢
 repeat' (first|(refine zsk ?_;intro K' hK)|refine zsp ?_|(refine zsc ?_ ?_<;>intro hc<;>first|exact znh|try simp only [znz] at hc)|simp (maxSteps:=1000000) only [go_sem]|(refine hK _ ?_;clear hK K')|apply zan|(apply an6;(focus first|exact y3|exact y4|exact y5|exact y6|exact y7|exact y8|exact y9|exact y10|exact y11|exact y12|exact y13))|(apply Qr;(focus first|exact (z2 _).b|exact (z3 _).b|exact (z4 _).b|exact (z5 _).b|exact (z6 _).b|exact (z7 _).b|exact (z8 _).b|exact (z9 _).b|exact (z10 _).b|exact (z11 _).b|exact (z12 _).b))|exact zsq|fail)
 clear y3 y4 y5 y6 y7 y8 y9 y10 y11 y12 y13
 refine Qp (ι:=Nat) (fun k=>k≤11∧Q0 ((aow a b).drop k) = aaS a b) (fun k=>Jk [(34,.hd 0 0 11),(35,V.int 11),(36,V.int k)] [(0,.buf true 1 (apL a b g1 g2 142 143 144 145 146 147 148 149 150 151 152))] 1) (fun k=>11 - k) 0 ⟨by omega,rfl⟩ (Qd [(0,29000)]) (Qh [(0,29000)] zwa (by simp only [go_sem,zwl,apL,clC,Qa.cells]<;>exact zcc) (by simp) (by simp;omega) (by omega)) fun k hk K' hL=>?_
 obtain ⟨hk,hinv⟩:=hk
 generalize (apL a b g1 g2 142 143 144 145 146 147 148 149 150 151 152) = els at *
 by_cases hkk:k < 11
 ·obtain ⟨g,cap,v,e1,e2,e3,e4⟩:=hel k hkk
  have s1:∀ o,JP o cap = cap:=fun o=>Yf o cap e2
  have s2:∀ o B,Qq o B cap = True:=fun o B=>eq_true (JK o B cap e2)
  have hw:=Qg (k:=k) (by omega)
  have e5:decide ((k:Int) < 11) = true:=zo (by omega)
  have e6:=acb e3
  rw [hinv] at e6
  by_cases hv:v = 0
  ·subst hv
   rw [if_neg (by simp)] at e6
   (have zy0:=e4.b;have zx:=za e5 (za e1 (za s1 (za s2 hw))));refine zgo ?_;repeat' first|exact zt|apply zan|intro hc
   all_goals exact hL _ (k + 1) (Qd [(0,0)]) ⟨by omega,e6.symm⟩ (by omega) (zwg [(0,0)])
  ·rw [if_pos hv] at e6
   have e7:(v != 0) = true:=by simpa using hv
   rw [e6]
   (have zy0:=e4.b;have zx:=za e5 (za e1 (za s1 (za s2 (za hw e7)))));exact zg
 ·have e5:decide ((k:Int) < 11) = false:=zp (by omega)
  have hk2:k = 11:=by omega
  subst hk2
  have e6:aaS a b = 0:=by rw [← hinv];rfl
  rw [e6]
  (have zx:=e5);exact zg
def aiL (f:Qa):Prop:=0≤f.day∧f.day≤40000
def abf (a b:Qa):Int:=if a.day - b.day < b.day - a.day then b.day - a.day else a.day - b.day
def YE:=qd Proofs.Tryz.f107 []
def Yr (Γ:Env) (f:Nat):Prop:=∀ (a b:Qa) (ha:aiL a) (hb:aiL b),EvN Γ f [a.v,b.v] (V.int (abf a b))
theorem yG {Γ:Env} {f:Nat} (h:Has Γ.P f 16 YE.1.1.ac YE.1.2) :Yr Γ f:=by
 intro a b ha hb
 refine Qb h zsi zcl zcl fun C hC hm=>?_
 subst hC
 simp only [YE,qd,DC.ac]
 obtain ⟨a1,a2⟩:=ha
 obtain ⟨b1,b2⟩:=hb
 have w1:IntKind.i64.wrap (a.day - b.day) = a.day - b.day:=QP (by omega) (by omega)
 have w2:IntKind.i64.wrap (b.day - a.day) = b.day - a.day:=QP (by omega) (by omega)
 simp only [Qa.v,Qa.cells,abf]
 (have zx:=za w1 w2);refine zgo ?_;repeat' first|exact zt|apply zan|intro hc
 all_goals first|exact zr|(refine Ql _ rfl ?_;simp only [go_sem];simp;done)
def K4:=qd Proofs.Tryz.f118 []
def U3 (Γ:Env) (f:Nat):Prop:=∀ G:Env,G.P = Γ.P→∀ l:List Int,l.length < 2 ^ 60→EvN G f [.sl 1 (l.map V.int)] (V.int (Q0 l))
theorem aeP {Γ:Env} {f:Nat} (h:Has Γ.P f 18 K4.1.1.ac K4.1.2) :U3 Γ f:=by
 intro G hG l hl
 rw [← hG] at h
 refine Qb h (by simp) (by simp only [V.closed]) (by simp only [V.noSl]) fun C hC hm=>?_
 subst hC;simp only [K4,qd,DC.ac]
 refine zgo ?_;repeat' first|exact zt|apply zan|intro hc
 refine Qz (ι:=Nat) (fun k=>k≤l.length∧Q0 (l.drop k) = Q0 l) (fun k=>[(8,V.int k)]) (fun k=>l.length - k) 0 (by omega) ⟨zG _,rfl⟩ zol zlt zet fun k hk K' hL=>?_
 obtain ⟨hk,hinv⟩:=hk
 simp only [ovT,JE,Nat.reduceEqDiff,reduceIte]
 rcases hd:l.drop k with _|⟨x,r⟩
 ·have hkl:=Qt hd
  have e1:decide ((k:Int) < (((l.map V.int).length:Nat):Int)) = false:=by simp;omega
  rw [hd] at hinv
  have e8:Q0 l = 0:=by rw [← hinv];rfl
  rw [e8]
  (have zx:=e1);exact zg
 ·obtain ⟨hk',hget,hr⟩:=Qm hd
  have hw:=Qg (k:=k) (by omega)
  have e1:decide ((k:Int) < (((l.map V.int).length:Nat):Int)) = true:=by simp;omega
  have e6:=acb hget
  rw [hinv] at e6
  by_cases hx:x = 0
  ·subst hx
   rw [if_neg (by simp)] at e6
   (have zx:=za e1 (za hw hget));refine zgo ?_;repeat' first|exact zt|apply zan|intro hc
   all_goals exact hL _ (k + 1) zet ⟨by omega,e6.symm⟩ (by omega) zoe
  ·have e7:(x != 0) = true:=by simpa using hx
   rw [if_pos hx] at e6
   rw [e6]
   (have zx:=za e1 (za hw (za hget e7)));exact zg
def VT (l:List Qa) (f:Qa) (gap best:Int) (i:Nat):Int :=
 match l[i]? with
 | none=>best
 | some g=>if g.mach = 0∨g.host≠f.host∨abf f g > gap then best else if best < 0 then (i:Int) else
   match l[best.toNat]? with
   | none=>best
   | some h=>if Q0 [YA (abf f g) (abf f h),YA g.day h.day,YA g.mach h.mach] < 0 then (i:Int) else best
def Uz (l:List Qa) (f:Qa) (gap:Int) (k:Nat):Int:=(List.range k).foldl (VT l f gap) (-1)
def Xi (l:List Qa) (f:Qa) (gap:Int):Int:=Uz l f gap l.length
theorem qU (l:List Qa) (f:Qa) (gap:Int) (k:Nat):Uz l f gap (k + 1) = VT l f gap (Uz l f gap k) k:=by
 rw [Uz,ZG,ZK];rfl
theorem afQ {l:List Qa} {f:Qa} {gap best:Int} {k:Nat} (h:best = -1∨(0≤best∧best < k)):VT l f gap best k = -1∨(0≤VT l f gap best k∧VT l f gap best k < (k + 1:Nat)):=by
 unfold VT
 split
 ·omega
 ·split
  ·omega
  ·split
   ·omega
   ·split
    ·omega
    ·split<;>omega
theorem qA (l:List Qa) (f:Qa) (gap:Int):∀ k,Uz l f gap k = -1∨(0≤Uz l f gap k∧Uz l f gap k < (k:Int))
 | 0=>.inl rfl
 | k + 1=>by rw [qU];exact afQ (qA l f gap k)
def YY:=qd Proofs.Tryz.f106 [zhn 33]
def Wp (Γ:Env) (f:Nat):Prop:=∀ (l:List Qa) (f0:Qa) (gap:Int) (hl:l.length < 2 ^ 40) (hd:∀ x∈l,aiL x) (hf:aiL f0),EvN Γ f [.sl 11 (l.map Qa.v),f0.v,V.int gap] (V.int (Xi l f0 gap))
attribute [local go_sem] Qa.cells Qa.v Jk in
theorem xd {Γ:Env} {f:Nat} (h:Has Γ.P f 70 YY.1.1.ac YY.1.2) (z0:Yr Γ 107) (z1:Yh Γ 120) (z2:U3 Γ 118):Wp Γ f:=by
 intro l f0 gap hl hd hf
 refine Qb h zsi zcl zcl fun C hC hm=>?_
 subst hC
 simp only [YY,qd,DC.ac]
 simp only [Qa.v,Qa.cells]
 refine zgo ?_;repeat' first|exact zt|apply zan|intro hc
 refine Qp (ι:=Nat) (fun k=>k≤l.length) (fun k=>Jk [(0,.sl 11 (l.map Qa.v)),(2,V.int gap),(4,.ptr 0 0),(7,V.int (Uz l f0 gap k)),(10,.sl 11 (l.map Qa.v)),(11,V.int l.length),(12,V.int k)] [(0,.box true f0.cells)] 1) (fun k=>l.length - k) 0 (zG _) (Qd []) (Qh [] (by simp only [go_sem,zwl,zb]<;>exact zcc) (by simp only [go_sem,zwl,Qa.cells]<;>exact zcc) (by simp) (by simp) (by omega)) fun k hk K' hL=>?_
 have hrng:=qA l f0 gap k
 have hsuc:=qU l f0 gap k
 have hN:Xi l f0 gap = Uz l f0 gap l.length:=rfl
 rcases hdr:l.drop k with _|⟨g,r⟩
 ·have hkl:=Qt hdr
  have e1:decide ((k:Int) < (l.length:Int)) = false:=by simp;omega
  obtain rfl:k = l.length:=by omega
  rw [hN]
  (have zx:=e1);exact zg
 ·obtain ⟨hk',hget,hr⟩:=Qm hdr
  have hw:=Qg (k:=k) (by omega)
  have e1:decide ((k:Int) < (l.length:Int)) = true:=by simp;omega
  have hg:=hd g (zq hget)
  have p1:=(z0 f0 g hf hg).b
  rw [VT,hget] at hsuc
  simp only at hsuc
  clear hN
  generalize Uz l f0 gap k = best at *
  generalize abf f0 g = dg at *
  simp only [Qa.v,Qa.cells] at p1 hL ⊢
  by_cases c1:g.mach = 0
  ·rw [if_pos (.inl c1)] at hsuc
   have e2:(g.mach == 0) = true:=by simpa using c1
   (have zx:=za e1 (za e2 (za hw hget)));refine zgo ?_;repeat' first|exact zt|apply zan|intro hc
   all_goals exact hL _ (k + 1) (Qd []) (by omega) (by omega) (by rw [hsuc];exact Qh [] zwa (by simp only [go_sem,zwl,Qa.cells]<;>exact zcc) (by simp) (by simp) (by omega))
  have e2:(g.mach == 0) = false:=by simpa using c1
  by_cases c2:g.host = f0.host
  ·by_cases c3:dg > gap
   ·rw [if_pos (.inr (.inr c3))] at hsuc
    have e3:(g.host == f0.host) = true:=by simpa using c2
    have e4:decide (dg > gap) = true:=zo c3
    (have zx:=za e1 (za e2 (za e3 (za e4 (za hw hget)))));refine zgo ?_;repeat' first|exact zt|apply zan|intro hc
    all_goals exact hL _ (k + 1) (Qd []) (by omega) (by omega) (by rw [hsuc];exact Qh [] zwa (by simp only [go_sem,zwl,Qa.cells]<;>exact zcc) (by simp) (by simp) (by omega))
   have e3:(g.host == f0.host) = true:=by simpa using c2
   have e4:decide (dg > gap) = false:=zp c3
   rw [if_neg (by simp only [not_or,Decidable.not_not];exact ⟨c1,c2,c3⟩)] at hsuc
   by_cases c4:best < 0
   ·rw [if_pos c4] at hsuc
    have e5:decide (best < 0) = true:=zo c4
    (have zx:=za e1 (za e2 (za e3 (za e4 (za e5 (za hw hget))))));refine zgo ?_;repeat' first|exact zt|apply zan|intro hc
    all_goals exact hL _ (k + 1) (Qd []) (by omega) (by omega) (by rw [hsuc];exact Qh [] zwa (by simp only [go_sem,zwl,Qa.cells]<;>exact zcc) (by simp) (by simp) (by omega))
   ·rw [if_neg c4] at hsuc
    have e5:decide (best < 0) = false:=zp c4
    obtain ⟨j,rfl⟩:∃ j:Nat,best = j:=⟨best.toNat,by omega⟩
    have hj:j < l.length:=by omega
    obtain ⟨q,hgq⟩:∃ q,l[j]? = some q:=⟨_,zd hj⟩
    rw [Int.toNat_natCast,hgq] at hsuc
    simp only at hsuc
    have p2:=(z0 f0 q hf (hd q (zq hgq))).b
    generalize abf f0 q = dq at *
    have p3:=(z1 _ rfl dg dq).b
    have p4:=(z1 _ rfl g.day q.day).b
    have p5:=(z1 _ rfl g.mach q.mach).b
    have p6:=(z2 _ rfl [YA dg dq,YA g.day q.day,YA g.mach q.mach] (by simp)).b
    generalize Q0 [YA dg dq,YA g.day q.day,YA g.mach q.mach] = ff at *
    simp only [Qa.v,Qa.cells,zN,zL] at p2 p6
    by_cases c5:ff < 0
    ·rw [if_pos c5] at hsuc
     have e6:decide (ff < 0) = true:=zo c5
     (have zx:=za e1 (za e2 (za e3 (za e4 (za e5 (za e6 (za hw (za hget hgq))))))));refine zgo ?_;repeat' first|exact zt|apply zan|intro hc
     all_goals exact hL _ (k + 1) (Qd []) (by omega) (by omega) (by rw [hsuc];exact Qh [] zwa (by simp only [go_sem,zwl,Qa.cells]<;>exact zcc) (by simp) (by simp) (by omega))
    ·rw [if_neg c5] at hsuc
     have e6:decide (ff < 0) = false:=zp c5
     (have zx:=za e1 (za e2 (za e3 (za e4 (za e5 (za e6 (za hw (za hget hgq))))))));refine zgo ?_;repeat' first|exact zt|apply zan|intro hc
     all_goals exact hL _ (k + 1) (Qd []) (by omega) (by omega) (by rw [hsuc];exact Qh [] zwa (by simp only [go_sem,zwl,Qa.cells]<;>exact zcc) (by simp) (by simp) (by omega))
  ·rw [if_pos (.inr (.inl c2))] at hsuc
   have e3:(g.host == f0.host) = false:=by simpa using c2
   (have zx:=za e1 (za e2 (za e3 (za hw hget))));refine zgo ?_;repeat' first|exact zt|apply zan|intro hc
   all_goals exact hL _ (k + 1) (Qd []) (by omega) (by omega) (by rw [hsuc];exact Qh [] zwa (by simp only [go_sem,zwl,Qa.cells]<;>exact zcc) (by simp) (by simp) (by omega))
def Qv (p:List Nat):List V:=p.map fun n:Nat=>V.int (n:Int)
structure PW (p:List Nat):Prop where
 len:p.length = 400
 le:∀ i j:Nat,p[i]? = some j→j≤i
theorem Jr (p:List Nat):(Qv p).length = p.length:=by simp [Qv]
theorem J6 {p:List Nat} {i j:Nat} (h:p[i]? = some j):(Qv p)[i]? = some (V.int j):=by simp [Qv,h]
theorem Ye (p:List Nat):Qc (Qv p):=by
 unfold Qv
 induction p with
 | nil=>trivial
 | cons x r ih=>exact ⟨trivial,ih⟩
theorem Qu (τ:Nat→Nat) (p:List Nat):U6 τ (Qv p) = Qv p:=Q8 _ _ (Ye p)
theorem QJ (n:Nat) (p:List Nat):ltL n (Qv p):=Yw _ _ (Ye p)
theorem abL (p:List Nat) (i j:Nat):(Qv p).set i (V.int j) = Qv (p.set i j):=by simp [Qv,Z3]
theorem afK {p:List Nat} {i:Nat} (h:i < p.length) (j:Nat):List.take i (Qv p)++[V.int (j:Int)]++List.drop (i + 1) (Qv p) = Qv (p.set i j):=by
 rw [← abL,List.set_eq_take_append_cons_drop,if_pos (by rw [Jr];exact h),Za];rfl
theorem PW.get {p:List Nat} (h:PW p) {i:Nat} (hi:i < 400):∃ j,p[i]? = some j∧j≤i:=by
 have:i < p.length:=by rw [h.len];exact hi
 exact ⟨p[i],zd this,h.le i _ (zd this)⟩
theorem PW.set {p:List Nat} (h:PW p) {i j:Nat} (hj:j≤i):PW (p.set i j):=⟨by rw [zP];exact h.len,fun a b e=>by
 rw [ke] at e
 split at e
 ·split at e
  ·rename_i e1 _;cases e;rw [← e1];exact hj
  ·cases e
 ·exact h.le a b e⟩
def abF (p:List Nat):Nat→Nat→Nat
 | 0,i=>i
 | n + 1,i=>match p[i]? with
   | some j=>if j = i then i else abF p n j
   | none=>i
def Qn (p:List Nat) (i:Nat):Nat:=abF p (i + 1) i
theorem adH {p:List Nat} (h:PW p):∀ (n i m:Nat),i < n→i < m→abF p n i = abF p m i
 | 0,i,m,h1,_=>absurd h1 (kZ _)
 | n + 1,i,0,_,h2=>absurd h2 (kZ _)
 | n + 1,i,m + 1,h1,h2=>by
   simp only [abF]
   rcases e:p[i]? with _|j
   ·rfl
   ·simp only
    split
    ·rfl
    ·rename_i hne
     have:=h.le i j e
     exact adH h n j m (by omega) (by omega)
theorem Wy {p:List Nat} (h:PW p) {i j:Nat} (e:p[i]? = some j):Qn p i = if j = i then i else Qn p j:=by
 rw [Qn,abF,e]
 simp only
 split
 ·rfl
 ·rename_i hne
  have:=h.le i j e
  exact adH h _ _ _ (by omega) (by omega)
theorem KL {p:List Nat} (h:PW p):∀ i,Qn p i≤i:=by
 intro i
 induction i using Nat.strongRecOn with
 | _ i ih =>
   rcases e:p[i]? with _|j
   ·rw [Qn,abF,e];exact zh _
   ·rw [Wy h e]
    have:=h.le i j e
    split
    ·exact zh _
    ·rename_i hne
     have:=ih j (by omega)
     omega
def JU:=qd Proofs.Tryz.f85 []
def JN (Γ:Env) (f:Nat):Prop:=∀ (p:List Nat) (i:Nat) (hp:PW p) (hi:i < 400),EvD Γ f [V.int i] (Qv p) (V.int (Qn p i)) (Qv p)
attribute [local go_sem] ZM ky Jk in
theorem qc {Γ:Env} {f:Nat} (h:Has Γ.P f 18 JU.1.1.ac JU.1.2) :JN Γ f:=by
 intro p i hp hi
 refine Wk h zsi (by first|exact Ye _|simp only [V.closed,Qc,and_self]) zc3 zc3 fun C hC hm=>?_
 subst hC
 simp only [JU,qd,DC.ac]
 have hpc:=Jr p
 have hl4:=hp.len
 refine zgo ?_;repeat' first|exact zt|apply zan|intro hc
 refine Qp (ι:=Nat) (fun k=>k≤i∧Qn p k = Qn p i) (fun k=>Jk [(0,.ptr 0 0),(1,V.int k)] [(0,.box true (Qv p))] 1) (fun k=>k) i ⟨zh _,rfl⟩ (Qd []) (Qh [] zwa (by simp only [go_sem,zwl,Qu,QJ]<;>exact zcc) (by simp) (by simp) (by omega)) fun k hk K' hL=>?_
 obtain ⟨hk,hinv⟩:=hk
 obtain ⟨j,hg,hj⟩:=hp.get (i:=k) (by omega)
 have hgc:=J6 hg
 have hst:=Wy hp hg
 rw [hinv] at hst
 have e0:decide ((0:Int)≤(k:Int)) = true:=by simp
 by_cases hjk:j = k
 ·subst hjk
  rw [if_pos rfl] at hst
  rw [hst]
  have e1:((j:Int) != (j:Int)) = false:=by simp
  (have zx:=za hgc (za hpc (za hl4 e1)));refine zgo ?_;repeat' first|exact zt|apply zan|intro hc
  all_goals (refine aaB _ rfl rfl (Ye p) ?_;simp only [go_sem];done)
 ·rw [if_neg hjk] at hst
  have e1:((j:Int) != (k:Int)) = true:=by simp;omega
  (have zx:=za hgc (za hpc (za hl4 e1)));refine zgo ?_;repeat' first|exact zt|apply zan|intro hc
  all_goals exact hL _ j (Qd []) ⟨by omega,hst.symm⟩ (by omega) (Qh [] zwa (by simp only [go_sem,zwl,Qu,QJ]<;>exact zcc) (by simp) (by simp) (by omega))
def qE (p:List Nat) (i k:Nat):List Nat:=p.set (max (Qn p i) (Qn p k)) (min (Qn p i) (Qn p k))
theorem abp {p:List Nat} (h:PW p) (i k:Nat):PW (qE p i k):=h.set (by omega)
theorem apW (a b:Nat):(if (a:Int) < (b:Int) then (b:Int) else (a:Int)) = ((max a b:Nat):Int):=by
 split<;>omega
theorem apU (a b:Nat):(if (b:Int) < (a:Int) then (b:Int) else (a:Int)) = ((min a b:Nat):Int):=by
 split<;>omega
def JV:=qd Proofs.Tryz.f105 []
def Yi (Γ:Env) (f:Nat):Prop:=∀ (p:List Nat) (i k:Nat) (hp:PW p) (hi:i < 400) (hk:k < 400),EvD Γ f [V.int i,V.int k] (Qv p) (.tup []) (Qv (qE p i k))
attribute [local go_sem] ZM ky in
theorem qe {Γ:Env} {f:Nat} (h:Has Γ.P f 23 JV.1.1.ac JV.1.2) (z0:JN Γ 85):Yi Γ f:=by
 intro p i k hp hi hk
 refine Wk h zsi (by first|exact Ye _|simp only [V.closed,Qc,and_self]) zc3 zc3 fun C hC hm=>?_
 subst hC
 simp only [JV,qd,DC.ac]
 have n1:=z0 p i hp hi
 have n2:=z0 p k hp hk
 have r1:=KL hp i
 have r2:=KL hp k
 have hpc:=Jr p
 have hl4:=hp.len
 unfold qE
 generalize Qn p i = a at *
 generalize Qn p k = b at *
 have m1:=apW a b
 have m2:=apU a b
 have m3:max a b < 400:=by omega
 have hs:=afK (p:=p) (i:=max a b) (by omega) (min a b)
 (have zx:=za hpc (za hl4 (za m1 (za m2 hs))));refine zgo ?_;repeat' first|exact zt|apply zan|intro hc
 all_goals (refine aaB _ rfl rfl (Ye _) ?_;simp only [go_sem];done)
def ac2 (k:Int):List Int→Nat→Option Nat
 | [],_=>none
 | e :: r,i=>if k = e then some i else ac2 k r (i + 1)
theorem adZ (k:Int):∀ (ks:List Int) (i:Nat),KO false [0] (V.int k) (ks.map V.int) i = some (ac2 k ks i)
 | [],_=>rfl
 | e :: r,i=>by
   have h:Ki false [0] (V.int k) (V.int e) = some (k == e):=by simp [Ki,Ji]
   rw [zN,KO,h]
   by_cases hk:k = e
   ·subst hk;simp [ac2]
   ·have:(k == e) = false:=by simpa using hk
    rw [this];simp only [ac2,if_neg hk]
    exact adZ k r (i + 1)
theorem aey {k:Int}:∀ {ks:List Int} {i a:Nat},ac2 k ks i = some a→i≤a∧a < i + ks.length
 | [],_,_,h=>by cases h
 | e :: r,i,a,h=>by
   rw [ac2] at h
   split at h
   ·cases h;simp
   ·have:=aey h
    simp only [List.length_cons];omega
theorem acw (k:Int):Ki false [0] (V.int k) (V.int k) = some true:=by simp [Ki,Ji]
structure JS where
 p:List Nat
 ks:List Int
 vs:List Nat
 loose:Int
structure JW (k:Nat) (s:JS):Prop where
 pw:PW s.p
 len:s.ks.length = s.vs.length
 vlt:∀ v∈s.vs,v < k
 lo:s.loose = -1∨(0≤s.loose∧s.loose < (k:Int))
def afR (l:List Qa) (f:Qa) (gap loose:Int):Bool :=
 decide (loose≥0) && match l[loose.toNat]? with
  | some g=>g.host == f.host && decide (abf f g≤gap)
  | none=>false
def afX (l:List Qa) (gap:Int) (s:JS) (i:Nat) (f:Qa):JS :=
 if f.mach = 0 then
  if Xi l f gap≥0 then { s with p:=qE s.p i (Xi l f gap).toNat }
  else { s with p:=if afR l f gap s.loose = true then qE s.p i s.loose.toNat else s.p,loose:=i }
 else match ac2 f.mach s.ks 0 with
  | some a=>{ s with p:=qE s.p i (s.vs.getD a 0),vs:=s.vs.set a i }
  | none=>{ s with ks:=s.ks++[f.mach],vs:=s.vs++[i] }
def VA (l:List Qa) (gap:Int):Nat→JS
 | 0=>⟨List.range 400,[],[],-1⟩
 | k + 1=>match l[k]? with
   | some f=>afX l gap (VA l gap k) k f
   | none=>VA l gap k
def xS (l:List Qa) (gap:Int):List Nat:=(VA l gap l.length).p
theorem ah6:PW (List.range 400):=⟨Zy,fun i j h=>by
 obtain ⟨h1,h2⟩:=zn.1 h
 rw [List.getElem_range] at h2;omega⟩
theorem akY (l:List Qa) (f:Qa) (gap:Int):Xi l f gap = -1∨(0≤Xi l f gap∧Xi l f gap < (l.length:Int)):=qA l f gap l.length
theorem amM {l:List Qa} {gap:Int} {s:JS} {i:Nat} {f:Qa} (h:JW i s):JW (i + 1) (afX l gap s i f):=by
 obtain ⟨h1,h2,h3,h4⟩:=h
 have h3':∀ v∈s.vs,v < i + 1:=fun v hv=>Z4 (h3 v hv)
 unfold afX
 split
 ·split
  ·exact ⟨abp h1 _ _,h2,h3',by simp only;omega⟩
  ·refine ⟨?_,h2,h3',.inr (by simp only;omega)⟩
   simp only
   split
   ·exact abp h1 _ _
   ·exact h1
 ·split
  ·refine ⟨abp h1 _ _,by simpa using h2,fun v hv=>?_,by simp only;omega⟩
   rcases ZP hv with hv|hv
   ·exact h3' v hv
   ·omega
  ·refine ⟨h1,by simp [h2],fun v hv=>?_,by simp only;omega⟩
   rcases zY.1 hv with hv|hv
   ·exact h3' v hv
   ·rw [zu.1 hv];omega
theorem xQ (l:List Qa) (gap:Int):∀ k,JW k (VA l gap k)
 | 0=>⟨ah6,rfl,by simp [VA],.inl rfl⟩
 | k + 1=>by
   have ih:=xQ l gap k
   rw [VA]
   split
   ·exact amM ih
   ·exact ⟨ih.pw,ih.len,fun v hv=>Z4 (ih.vlt v hv),by have:=ih.lo;omega⟩
theorem xR (l:List Qa) (gap:Int):PW (xS l gap):=(xQ l gap l.length).pw
def ipP (k:Nat):List Nat:=(List.range 400).map fun j=>if j < k then j else 0
theorem aot (n i:Nat) (v:Value) (h:i < (apw n v).length):(apw n v)[i] = v:=by simp [apw]
theorem aos (n:Nat) (v:Value):(apw n v).length = n:=Z9
theorem amN:(apw 400 (.int .i64 0)).map V.ofV = Qv (ipP 0):=by
 apply List.ext_getElem
 ·rw [zb,aos,Jr,ipP,zb,Zy]
 ·intro i h1 h2;rw [kh,aot];simp only [Qv,ipP,kh,kZ,if_false];rfl
theorem ala (k:Nat):(ipP k).length = 400:=by simp [ipP]
theorem aoM (k:Nat):(ipP k).set k k = ipP (k + 1):=by
 apply List.ext_getElem
 ·simp [ipP]
 ·intro i h1 h2
  simp only [ipP,List.getElem_set,kh,List.getElem_range]
  split
  ·rename_i e;subst e;simp
  ·rename_i e
   by_cases hi:i < k
   ·rw [if_pos hi,if_pos (by omega)]
   ·rw [if_neg hi,if_neg (by omega)]
theorem aoN:ipP 400 = List.range 400:=by
 apply List.ext_getElem
 ·simp [ipP]
 ·intro i h1 h2
  simp only [ipP,zb,Zy] at h1
  simp [ipP,h1]
def jSt (l:List Qa) (gap:Int) (k:Nat) (s:JS):St:=Jk [(0,.sl 11 (l.map Qa.v)),(1,V.int gap),(5,.ptr 0 0),(7,.mp 1),(8,V.int s.loose),(26,.sl 11 (l.map Qa.v)),(27,V.int l.length),(28,V.int k)] [(0,.box true (Qv s.p)),(1,.map (s.ks.map V.int) (Qv s.vs) 0)] 2
theorem Kb (p:List Nat) (i:Nat):Qv p++[V.int (i:Int)] = Qv (p++[i]):=by simp [Qv]
theorem ab1 {l:List Qa} {gap:Int} {k:Nat} {f:Qa} (h:l[k]? = some f):VA l gap (k + 1) = afX l gap (VA l gap k) k f:=by rw [VA,h]
def Kq:List (List Nat):=[[],[0],[1],[2],[2],[3,4,2],[5,2],[6,2],[2],[8,2],[7,9,2],[2,10],[11,2],[12],[12],[12],[14,15,12],[16,12],[13,17,12,12],[12],[18,19,12],[12,20]]
def U9:OT:=och 0 22
@[go_sem] def Wh (Qw:Nat):OP:=oN 0 (mv 62 8) (oN 1 (bc 63 .geq 62 (V.int 0)) (oN 2 (mv 64 63) (oN 3 (mg 65 0 64 true) (oN 4 (mg 66 8 64 true) (oN 5 (xg 67 (.iaddr 11 (.t 65) (.t 66)) 64 true) (oN 6 (xg 68 (.faddr 1 (.t 67)) 64 true) (oN 7 (xg 69 (.load false 1 (.t 68)) 64 true) (oN 8 (xg 70 (.faddr 1 (.t 10)) 64 true) (oN 9 (xg 71 (.load false 1 (.t 70)) 64 true) (oN 10 (xg 72 (.bin .eql (.t 69) (.t 71)) 64 true) (oN 11 (xo 73 (.pick (.t 64) (.t 72) (.c (V.bool false)))) (oN 12 (mv 74 73) (oN 13 (xg 75 (.load true 11 (.t 10)) 74 true) (oN 14 (mg 76 0 74 true) (oN 15 (mg 77 8 74 true) (oN 16 (xg 78 (.iaddr 11 (.t 76) (.t 77)) 74 true) (oN 17 (xg 79 (.load true 11 (.t 78)) 74 true) (oN 18 (xg 80 (.call Qw [(.t 75),(.t 79)]) 74 true) (oN 19 (mg 81 1 74 true) (oN 20 (xg 82 (.bin .leq (.t 80) (.t 81)) 74 true) (oN 21 (xo 83 (.pick (.t 74) (.t 82) (.c (V.bool false)))) .done)))))))))))))))))))))
def Kd (Qw:Nat):List AO:=aoO (Wh Qw)
instance (Qw:Nat):RG [] U9 (Wh Qw) (Kd Qw) Kq 22 (fun _=>true):=⟨rfl,by kernel_rfl,by kernel_rfl⟩
def qJ (Q6 YV Qw:Nat):AC:=qy [0,1] (.reg [mc 4 (.sc (.pointer none))]) (qy [0,1,5] (.reg [xo 14 (.build (apw 400 vi0) []),xo 15 (.box true 400 (.t 14)),mv 5 15]) (qy [0,1,5] (qy [0,1,5,16] (.reg [mc 16 (V.int 0)]) (.block 0 (ajv [0,1,5,16] (qy [0,1,5,16,17] (.reg [bc 17 .lss 16 (V.int 400)]) (qy [0,1,5,16] (.cond (.t 17) .skip (.exit 0)) (qy [0,1,5,16] (.block 1 (qy [0,1,5,6,16] (.reg [mv 18 16,mv 6 18]) (.reg [mv 19 5,mv 20 6,mv 21 6,nk 22 19,xo 23 (.iaddrA 400 1 (.t 22) (.t 20)),xs 1 23 21]))) (.reg [bc 24 .add 16 (V.int 1),mv 16 24]))))))) (qy [0,1,5,7] (.reg [xo 25 (.mkmap),mv 7 25]) (qy [0,1,5,7,8] (.reg [mc 8 (V.int (-1))]) (qy [5] (qy [0,1,5,7,8,26,27,28] (.reg [mv 26 0,ln 27 26,mc 28 (V.int 0)]) (.block 2 (ajv [0,1,5,7,8,26,27,28] (qy [0,1,5,7,8,26,27,28,29] (.reg [bn 29 .lss 28 27]) (qy [0,1,5,7,8,26,27,28] (.cond (.t 29) .skip (.exit 2)) (qy [0,1,5,7,8,26,27,28] (.block 3 (qy [0,1,5,7,8,9,10,26,27,28] (.reg [mv 30 28,ia 31 11 26 28,xo 32 (.load true 11 (.t 31)),xo 10 (.alloc [.val vi0,.val vs0,.val vi0,.val vi0,.val vi0,.val vi0,.val vs0,.val vi0,.val vi0,.val vi0,.val vs0]),mv 9 30,xs 11 10 32]) (qy [0,1,5,7,8,9,10,26,27,28] (qy [0,1,5,7,8,9,10,26,27,28,35] (.reg [fa 33 2 10,ld 34 1 33,bc 35 .neq 34 (V.int 0)]) (.cond (.t 35) (qy [0,1,5,7,8,9,10,26,27,28] (qy [0,1,5,7,8,9,10,11,12,26,27,28] (.reg [mv 37 7,fa 38 2 10,ld 39 1 38,xo 40 (.mapget true false [vi0] false [0] (.t 37) (.t 39)),mv 36 40,ex 41 36 0,ex 42 36 1,mv 11 41,mv 12 42]) (qy [0,1,5,7,8,9,10,11,26,27,28,43] (.reg [mv 43 12]) (.cond (.t 43) (.reg [mv 44 5,mv 45 9,mv 46 11,cl 47 Q6 [44,45,46]]) .skip))) (qy [0,1,5,7,8,26,27,28] (.reg [mv 48 7,fa 49 2 10,ld 50 1 49,mv 51 9,⟨none,.mapset false [0] (.t 48) (.t 50) (.t 51),none⟩]) (.exit 3))) .skip)) (qy [0,1,5,7,8,9,10,26,27,28] (qy [0,1,5,7,8,9,10,13,26,27,28] (.reg [mv 52 0,xo 53 (.load true 11 (.t 10)),mv 54 1,cl 55 YV [52,53,54],mv 13 55]) (qy [0,1,5,7,8,9,10,13,26,27,28,57] (.reg [mv 56 13,bc 57 .geq 56 (V.int 0)]) (.cond (.t 57) (qy [0,1,5,7,8,26,27,28] (.reg [mv 58 5,mv 59 9,mv 60 13,cl 61 Q6 [58,59,60]]) (.exit 3)) .skip))) (qy [0,1,5,7,9,26,27,28] (qy [0,1,5,7,8,9,26,27,28,83] (apx [] U9 (Wh Qw) (Kd Qw) Kq) (.cond (.t 83) (.reg [mv 84 5,mv 85 9,mv 86 8,cl 87 Q6 [84,85,86]]) .skip)) (.reg [mv 88 9,mv 8 88])))))) (.reg [bc 89 .add 28 (V.int 1),mv 28 89]))))))) (qy [4] (.reg [mv 90 5,mv 4 90]) .ret)))))) def bh:List Uf:=[.tmp 4]
def Vi (Γ:Env) (f:Nat):Prop:=∀ (l:List Qa) (gap:Int) (hl:l.length≤400) (hd:∀ x∈l,aiL x),EvR Γ f [.sl 11 (l.map Qa.v),V.int gap] ((Qv (xS l gap)))
attribute [local go_sem] ZM ky Qa.cells Qa.v jSt Jk in
theorem we {Γ:Env} {f Q6 YV Qw:Nat} (h:Has Γ.P f 91 (qJ Q6 YV Qw) bh) (z0:Yi Γ Q6) (z1:Wp Γ YV) (z2:Yr Γ Qw):Vi Γ f:=by
 intro l gap hl hd
 refine acs h (by simp) (Ye _) fun C hC hm=>?_
 subst hC
 unfold qJ
 have z4:=amN
 have hpc:=Jr
 have hip:=ala
 (have zx:=za z4 (za hpc hip));refine zgo ?_;repeat' first|exact zt|apply zan|intro hc
 refine Qp (ι:=Nat) (fun k=>k≤400) (fun k=>Jk [(0,.sl 11 (l.map Qa.v)),(1,V.int gap),(5,.ptr 0 0),(16,V.int k)] [(0,.box true (Qv (ipP k)))] 1) (fun k=>400 - k) 0 (zG _) (Qd [(0,2000)]) (Qh [(0,2000)] zwa (by simp only [go_sem,zwl,Qu,QJ]<;>exact zcc) (by simp) (by simp;omega) (by omega)) fun k hk K' hL=>?_
 by_cases hk4:k < 400
 ·have e1:decide ((k:Int) < 400) = true:=zo (by omega)
  have hw:=Qg (k:=k) (by omega)
  have hs:=afK (p:=ipP k) (i:=k) (by rw [ala];exact hk4) k
  rw [aoM] at hs
  (have zx:=za e1 (za hw (za hpc (za hip hs))));refine zgo ?_;repeat' first|exact zt|apply zan|intro hc
  all_goals exact hL _ (k + 1) (Qd []) (by omega) (by omega) (Qh [] zwa (by simp only [go_sem,zwl,Qu,QJ]<;>exact zcc) (by simp) (by simp) (by omega))
 have e1:decide ((k:Int) < 400) = false:=zp (by omega)
 obtain rfl:k = 400:=by omega
 clear hL
 rw [aoN]
 have e0:decide (((400:Nat):Int) < 400) = false:=by decide
 (have zx:=e0);refine zgo ?_;repeat' first|exact zt|apply zan|intro hc
 refine Qp (ι:=Nat) (fun k=>k≤l.length) (fun k=>jSt l gap k (VA l gap k)) (fun k=>l.length - k) 0 (zG _) (Qd [(1,1001)]) (Qh [(1,1001)] (by simp only [go_sem,zwl,jSt,VA,zb]<;>exact zcc) (by simp only [go_sem,zwl,jSt,VA,Qu,QJ]<;>exact zcc) (by simp [jSt,Qd]) (by simp [jSt];omega) (by omega)) fun k hk K' hL=>?_
 have hJ:=xQ l gap k
 rcases hdr:l.drop k with _|⟨g,r⟩
 ·have hkl:=Qt hdr
  have e1:decide ((k:Int) < (l.length:Int)) = false:=by simp;omega
  obtain rfl:k = l.length:=by omega
  have hjf:xS l gap = (VA l gap l.length).p:=rfl
  rw [hjf]
  (have zx:=e1);refine zgo ?_;repeat' first|exact zt|apply zan|intro hc
  all_goals (refine an3 _ rfl rfl (Ye _);done)
 obtain ⟨hk',hget,hr⟩:=Qm hdr
 have hw:=Qg (k:=k) (by omega)
 have e1:decide ((k:Int) < (l.length:Int)) = true:=by simp;omega
 have hsu:=ab1 (gap:=gap) hget
 have hgd:=hd g (zq hget)
 generalize VA l gap k = s at *
 obtain ⟨p,ks,vs,lo⟩:=s
 obtain ⟨j1,j2,j3,j4⟩:=hJ
 simp only at j1 j2 j3 j4
 have hgv:l.map Qa.v = l.map Qa.v:=rfl
 simp only [jSt]
 by_cases c1:g.mach = 0
 ·have e2:(g.mach != 0) = false:=by simpa using c1
  have p1:=(z1 l g gap (by omega) hd hgd).b
  rw [afX,if_pos c1] at hsu
  simp only [Qa.v,Qa.cells] at p1
  rcases akY l g gap with c2|⟨c2,c3⟩
  ·rw [if_neg (by omega)] at hsu
   rw [c2] at p1
   have e3:decide ((-1:Int)≥0) = false:=by decide
   rcases hq:afR l g gap lo with _|_
   ·rw [hq,if_neg (by decide)] at hsu
    by_cases c4:lo≥0
    ·obtain ⟨n,rfl⟩:∃ n:Nat,lo = n:=⟨lo.toNat,by omega⟩
     have e4:decide ((n:Int)≥0) = true:=zo (by omega)
     obtain ⟨q,hgq⟩:∃ q,l[n]? = some q:=⟨_,zd (by omega)⟩
     rw [afR,e4,zH,Int.toNat_natCast,hgq] at hq
     simp only at hq
     have p2:=(z2 g q hgd (hd q (zq hgq))).b
     simp only [Qa.v,Qa.cells] at p2
     rcases c5:q.host == g.host with _|_
     ·(have zx:=za e1 (za e2 (za e3 (za e4 (za c5 (za hw (za hget hgq)))))));refine zgo ?_;repeat' first|exact zt|apply zan|intro hc
      all_goals exact hL _ (k + 1) (Qd []) (by omega) (by omega) (by rw [hsu];exact Qh [] (by simp only [go_sem,zwl,jSt,zb]<;>exact zcc) (by simp only [go_sem,zwl,jSt,Qu,QJ]<;>exact zcc) (by simp [jSt,Qd]) (by simp [jSt]) (by omega))
     ·rw [c5,zH] at hq
      (have zx:=za e1 (za e2 (za e3 (za e4 (za c5 (za hq (za hw (za hget hgq))))))));refine zgo ?_;repeat' first|exact zt|apply zan|intro hc
      all_goals exact hL _ (k + 1) (Qd []) (by omega) (by omega) (by rw [hsu];exact Qh [] (by simp only [go_sem,zwl,jSt,zb]<;>exact zcc) (by simp only [go_sem,zwl,jSt,Qu,QJ]<;>exact zcc) (by simp [jSt,Qd]) (by simp [jSt]) (by omega))
    ·have e4:decide (lo≥0) = false:=zp c4
     (have zx:=za e1 (za e2 (za e3 (za e4 (za hw hget)))));refine zgo ?_;repeat' first|exact zt|apply zan|intro hc
     all_goals exact hL _ (k + 1) (Qd []) (by omega) (by omega) (by rw [hsu];exact Qh [] (by simp only [go_sem,zwl,jSt,zb]<;>exact zcc) (by simp only [go_sem,zwl,jSt,Qu,QJ]<;>exact zcc) (by simp [jSt,Qd]) (by simp [jSt]) (by omega))
   ·rw [hq,if_pos rfl] at hsu
    have c4:lo≥0:=by
     rw [afR] at hq
     simp only [zw,zy] at hq
     exact hq.1
    obtain ⟨n,rfl⟩:∃ n:Nat,lo = n:=⟨lo.toNat,by omega⟩
    have e4:decide ((n:Int)≥0) = true:=zo (by omega)
    obtain ⟨q,hgq⟩:∃ q,l[n]? = some q:=⟨_,zd (by omega)⟩
    rw [afR,e4,zH,Int.toNat_natCast,hgq] at hq
    rw [Int.toNat_natCast] at hsu
    simp only [zw] at hq
    obtain ⟨c5,c6⟩:=hq
    have p2:=(z2 g q hgd (hd q (zq hgq))).b
    have n1:=z0 p k n j1 (by omega) (by omega)
    simp only [Qa.v,Qa.cells] at p2
    (have zx:=za e1 (za e2 (za e3 (za e4 (za c5 (za c6 (za hw (za hget hgq))))))));refine zgo ?_;repeat' first|exact zt|apply zan|intro hc
    all_goals exact hL _ (k + 1) (Qd []) (by omega) (by omega) (by rw [hsu];exact Qh [] (by simp only [go_sem,zwl,jSt,zb]<;>exact zcc) (by simp only [go_sem,zwl,jSt,Qu,QJ]<;>exact zcc) (by simp [jSt,Qd]) (by simp [jSt]) (by omega))
  ·rw [if_pos c2] at hsu
   obtain ⟨n,hn⟩:∃ n:Nat,Xi l g gap = n:=⟨(Xi l g gap).toNat,by omega⟩
   rw [hn] at hsu c3 p1
   rw [Int.toNat_natCast] at hsu
   have e3:decide ((n:Int)≥0) = true:=zo (by omega)
   have n1:=z0 p k n j1 (by omega) (by omega)
   (have zx:=za e1 (za e2 (za e3 (za hw hget))));refine zgo ?_;repeat' first|exact zt|apply zan|intro hc
   all_goals exact hL _ (k + 1) (Qd []) (by omega) (by omega) (by rw [hsu];exact Qh [] (by simp only [go_sem,zwl,jSt,zb]<;>exact zcc) (by simp only [go_sem,zwl,jSt,Qu,QJ]<;>exact zcc) (by simp [jSt,Qd]) (by simp [jSt]) (by omega))
 ·have e2:(g.mach != 0) = true:=by simpa using c1
  rw [afX,if_neg c1] at hsu
  have hfk:=adZ g.mach ks 0
  have hek:=acw g.mach
  rcases hix:ac2 g.mach ks 0 with _|a
  ·rw [hix] at hsu hfk
   have hm1:ks.map V.int++[V.int g.mach] = (ks++[g.mach]).map V.int:=by simp
   have hm2:=Kb vs k
   (have zx:=za e1 (za e2 (za hw (za hfk (za hek (za hm1 (za hm2 hget)))))));refine zgo ?_;repeat' first|exact zt|apply zan|intro hc
   all_goals exact hL _ (k + 1) (Qd []) (by omega) (by omega) (by rw [hsu];exact Qh [] (by simp only [go_sem,zwl,jSt,zb]<;>exact zcc) (by simp only [go_sem,zwl,jSt,Qu,QJ]<;>exact zcc) (by simp [jSt,Qd]) (by simp [jSt]) (by omega))
  ·rw [hix] at hsu hfk
   have ha:=(aey hix).2
   obtain ⟨v,hv⟩:∃ v,vs[a]? = some v:=⟨_,zd (by omega)⟩
   have hvk:=j3 v (zq hv)
   have hvd:vs.getD a 0 = v:=by rw [zK,hv];rfl
   simp only [hvd] at hsu
   have hvc:=J6 hv
   have n1:=z0 p k v j1 (by omega) (by omega)
   have hm1:=abL vs a k
   (have zx:=za e1 (za e2 (za hw (za hfk (za hek (za hm1 (za hvc hget)))))));refine zgo ?_;repeat' first|exact zt|apply zan|intro hc
   all_goals exact hL _ (k + 1) (Qd []) (by omega) (by omega) (by rw [hsu];exact Qh [] (by simp only [go_sem,zwl,jSt,zb]<;>exact zcc) (by simp only [go_sem,zwl,jSt,Qu,QJ]<;>exact zcc) (by simp [jSt,Qd]) (by simp [jSt]) (by omega))
end Av
end
section
namespace Av
open Go
section
variable {Γ:Env} {A W:Nat→Bool} {b:Nat} {s:St} {d:Option Nat} {f:FuncId} {acts args:List V} {okf:Option (List Nat)→Prop} {J:St→Prop} {a n sx:Nat} {xs ys:List V} {x:V}
theorem ahP (ha:s.o a = some (.buf true sx xs)) (hA:A a = true) (hW:W a = true) (h:EvI Γ f args sx xs ys) (hal:(Q4 acts).contains a = false) (hd:decide (a < b) = true) (hn:n = xs.length) (hl:((Q4 acts).all fun x=>A x && W x) = true) (hc:Qq (Jv A s.o) (some (Q4 acts)) acts)
  (hk:J { t:=(s.put d (.hd b 0 ys.length)).t,o:=upd (upd (KF (some (Q4 acts)) [a] s.o) b (some (.buf true sx ys))) a (some .dead),n:=s.n }):ae3 Γ A W b s d f (.hd a 0 n :: acts) (x :: args) okf J:=by
 intro h1 _
 simp only [JP,kw] at h1
 obtain ⟨_,rfl⟩:=h1
 subst hn
 have hal':a ∉ Q4 acts:=by simpa using hal
 have hra:Jv A s.o a = some (.buf true sx xs):=by rw [vm,if_pos hA,ha]
 refine ⟨_,_,_,_,[a],some (Q4 acts),h.ev,⟨?_,JF _ [a] _ (fun y hy=>?_) acts hc⟩,⟨⟨_,hra,rfl,rfl⟩,trivial⟩,by simp,?_,by simp,by simp [KK],fun h=>by simp at h,fun l h x hx=>(by cases h;simpa using kU.1 hl x hx),?_⟩
 ·simp [conv]
 ·intro e
  rw [zu.1 e] at hy
  exact hal' hy
 ·intro y hy
  rw [zu.1 hy]
  exact ⟨kr hd,hW⟩
 ·simp only [Yd,Yb,Ob.ren,V.ren,sig]
  exact hk
theorem xu (ha:s.o a = some (.buf true sx xs)) (hA:A a = true) (hW:W a = true) (h:EvX Γ f args sx xs) (hal:(Q4 acts).contains a = false) (hd:decide (a < b) = true) (hn:n = xs.length) (hl:((Q4 acts).all fun x=>A x && W x) = true) (hc:Qq (Jv A s.o) (some (Q4 acts)) acts)
  (hk:J { t:=(s.put d (.hd a 0 n)).t,o:=upd (KF (some (Q4 acts)) [a] s.o) a (some (.buf true sx xs)),n:=s.n }):ae3 Γ A W b s d f (.hd a 0 n :: acts) (x :: args) okf J:=by
 intro h1 _
 simp only [JP,kw] at h1
 obtain ⟨_,rfl⟩:=h1
 subst hn
 have hal':a ∉ Q4 acts:=by simpa using hal
 have hra:Jv A s.o a = some (.buf true sx xs):=by rw [vm,if_pos hA,ha]
 refine ⟨_,_,_,_,[a],some (Q4 acts),h.ev,⟨?_,JF _ [a] _ (fun y hy=>?_) acts hc⟩,⟨⟨_,hra,rfl,rfl⟩,trivial⟩,by simp,?_,by simp,by simp [KK],fun h=>by simp at h,fun l h x hx=>(by cases h;simpa using kU.1 hl x hx),?_⟩
 ·simp [conv]
 ·intro e
  rw [zu.1 e] at hy
  exact hal' hy
 ·intro y hy
  rw [zu.1 hy]
  exact ⟨kr hd,hW⟩
 ·simp only [Yd,Yb,Ob.ren,V.ren,sig]
  exact hk
end
end Av
end
section
set_option linter.unusedSimpArgs false
set_option linter.unusedVariables false
set_option maxRecDepth 10000
set_option maxHeartbeats 4000000
namespace Av
open Go
theorem ahO {Γ:Env} {b:Nat} {r:List AO} {s:St} {d:Option Nat} {f:FuncId} {x:V} {g:FK} {off:Nat} {wr:Bool} {cs:List V} {args:List V} {okf:Option (List Nat)→Prop} {K:St→Prop} {a c sz n m:Nat} {xs ys:List V}
  (ha:s.o a = some (.buf true sz xs)) (h:EvZ Γ f args sz xs m ys) (hab:decide (a < b) = true) (hn:n = xs.length) (ho:s.o c = some (.box wr cs)) (hca:decide (c≠a) = true) (hcl:Qc cs)
  (hk:Vy Γ (b + KK) r { t:=(s.put d (.hd a 0 m)).t,o:=upd (KF (some [c]) [a] s.o) a (some (.buf true sz ys)),n:=s.n } K):afn Γ b r s d f (.hd a 0 n :: [.clo g [.ptr c off]]) (x :: args) okf K:=by
 have hc:Qq s.o (some [c]) [.clo g [.ptr c off]]:=by
  simp only [Qq,V.shutOk,and_true,okB,zu,true_and]
  grind
 intro h1 _
 simp only [JP,kw] at h1
 obtain ⟨_,rfl⟩:=h1
 subst hn
 refine J1 ⟨_,_,_,_,[a],some [c],h.ev,⟨?_,JF s.o [a] [c] (fun x hx=>by
  have:=kr hca
  simp only [zu] at hx ⊢
  subst hx;exact this) _ hc⟩,⟨⟨_,ha,rfl,rfl⟩,trivial⟩,by simp,?_,by simp,by simp [KK],fun h=>by simp at h,?_⟩
 ·simp [conv]
 ·intro x hx
  simp only [zu] at hx
  subst hx;exact kr hab
 ·simp only [Yd,Yb,Ob.ren,V.ren,sig,List.getElem?_cons_zero,Option.getD_some]
  exact hk
end Av
end
section
namespace Av
open Go
structure aqC (Γ:Env) (f:FuncId) (v:V) (sx:Nat) (xs vs ys:List V):Prop where
 ev:Ev Γ f [.hd 0 0 xs.length,v,.hd 1 0 vs.length] [.buf true sx xs,.buf true sx vs] (.hd 2 0 ys.length) [.dead,.buf true sx vs,.buf true sx ys]
section
variable {Γ:Env} {b:Nat} {r:List AO} {s:St} {d:Option Nat} {f:FuncId} {args:List V} {okf:Option (List Nat)→Prop} {K:St→Prop} {a a2 n n2 sx:Nat} {xs vs ys:List V} {i:Int}
theorem acK (ha:s.o a = some (.buf true sx xs)) (ha2:s.o a2 = some (.buf true sx vs)) (h:aqC Γ f (V.int i) sx xs vs ys) (hd:decide (a≠a2∧a < b∧a2 < b) = true) (hn:n = xs.length) (hn2:n2 = vs.length)
  (hk:Vy Γ (b + KK) r { t:=(s.put d (.hd b 0 ys.length)).t,o:=upd (upd (upd s.o b (some (.buf true sx ys))) a2 (some (.buf true sx vs))) a (some .dead),n:=s.n } K):afn Γ b r s d f [.hd a 0 n,V.int i,.hd a2 0 n2] args okf K:=by
 intro _ _
 subst hn;subst hn2
 obtain ⟨e1,e2,e3⟩:=kr hd
 refine J1 ⟨_,_,_,_,[a,a2],some [],h.ev,⟨by simp [conv],by simp [conv],by simp [conv],trivial⟩,⟨⟨_,ha,rfl,rfl⟩,⟨_,ha2,rfl,rfl⟩,trivial⟩,by simpa using e1,?_,by simp,by simp [KK],fun h=>by simp at h,?_⟩
 ·intro y hy
  simp only [zC,zI,or_false] at hy
  rcases hy with rfl|rfl<;>assumption
 ·simp only [Yd,Yb,Ob.ren,V.ren,sig,apy]
  exact hk
end
end Av
end
noncomputable section
set_option maxRecDepth 10000
set_option maxHeartbeats 4000000
namespace Av
open Go
attribute [local irreducible] AWp Vy K7 jE awS awC aaG awQ abg QW Uc vZ awR Uj awB okR jt ris
def agS {α:Type} (lt:α→α→Bool) (l:List α) (x:α):Nat→Nat→Nat→Nat
 | 0,i,_=>i
 | n + 1,i,j=>if i < j then (match l[(i + j) / 2]? with
   | some y=>if lt y x = true then agS lt l x n ((i + j) / 2 + 1) j else agS lt l x n i ((i + j) / 2)
   | none=>i) else i
def bsI {α:Type} (lt:α→α→Bool) (l:List α) (x:α):Nat:=agS lt l x l.length 0 l.length
theorem ahM {α:Type} {lt:α→α→Bool} {l:List α} {x:α}:∀ (n i j:Nat),i≤j→j≤l.length→agS lt l x n i j≤l.length
 | 0,i,j,h1,h2=>by rw [agS];omega
 | n + 1,i,j,h1,h2=>by
   rw [agS]
   split
   ·split
    ·split
     ·exact ahM n _ _ (by omega) h2
     ·exact ahM n _ _ (by omega) (by omega)
    ·omega
   ·omega
theorem agA {α:Type} {lt:α→α→Bool} {l:List α} {x:α}:bsI lt l x≤l.length:=ahM _ _ _ (zG _) (zh _)
theorem adW {a b:Nat} (h:a + b < 2 ^ 36):IntKind.i64.wrap ((IntKind.u64.wrap (IntKind.i64.wrap ((a:Int) + (b:Int)))).fdiv (2 ^ 1)) = (((a + b) / 2:Nat):Int):=by
 have e1:IntKind.i64.wrap ((a:Int) + (b:Int)) = ((a + b:Nat):Int):=by rw [QP (by omega) (by omega)];omega
 have e2:IntKind.u64.wrap ((a + b:Nat):Int) = ((a + b:Nat):Int):=by
  unfold IntKind.wrap;simp [IntKind.signed,IntKind.bits];omega
 rw [e1,e2,Int.fdiv_eq_ediv_of_nonneg _ (by decide),show (2:Int) ^ 1 = 2 from rfl,QP (by omega) (by omega)];omega
def Yg:=qd Proofs.Tryz.f128 []
def YT (Γ:Env) (f:Nat):Prop:=∀ (s:List UInt8),EvN Γ f [V.str s] (V.bool false)
theorem jH {Γ:Env} {f:Nat} (h:Has Γ.P f 6 Yg.1.1.ac Yg.1.2) :YT Γ f:=by
 intro s
 refine Qb h zsi zcl zcl fun C hC hm=>?_
 subst hC
 simp only [Yg,qd,DC.ac]
 refine zgo ?_;repeat' first|exact zt|apply zan|intro hc
 all_goals first|exact zr|(refine Ql _ rfl ?_;simp only [go_sem];simp;done)
def Y4:=qd Proofs.Tryz.f169 []
def Wv (Γ:Env) (f:Nat):Prop:=∀ (s:List UInt8),EvN Γ f [V.str s] (V.bool false)
theorem xk {Γ:Env} {f:Nat} (h:Has Γ.P f 6 Y4.1.1.ac Y4.1.2) :Wv Γ f:=by
 intro s
 refine Qb h zsi zcl zcl fun C hC hm=>?_
 subst hC
 simp only [Y4,qd,DC.ac]
 refine zgo ?_;repeat' first|exact zt|apply zan|intro hc
 all_goals first|exact zr|(refine Ql _ rfl ?_;simp only [go_sem];simp;done)
def XF:=qd Proofs.Tryz.f127 []
def Vv (Γ:Env) (f:Nat):Prop:=∀ (a b:List UInt8),EvN Γ f [V.str a,V.str b] (V.bool (Op.bytesLess a b))
theorem wx {Γ:Env} {f:Nat} (h:Has Γ.P f 17 XF.1.1.ac XF.1.2) (z0:Wv Γ 169):Vv Γ f:=by
 intro a b
 refine Qb h zsi zcl zcl fun C hC hm=>?_
 subst hC
 simp only [XF,qd,DC.ac]
 have p1:=(z0 a).b
 exact zg
def Jw {α:Type} [BEq α] (l:List α) (i:Nat) (x:α):Bool:=match l[i]? with|some y=>y == x|none=>false
def QO:=qd Proofs.Tryz.f108 []
def Je (Γ:Env) (f:Nat):Prop:=∀ (l:List (List UInt8)) (x:List UInt8) (hl:l.length < 2 ^ 34),EvN Γ f [.sl 1 (l.map V.str),V.str x] (.tup [V.int (bsI Op.bytesLess l x:Nat),V.bool (Jw l (bsI Op.bytesLess l x) x)])
attribute [local go_sem] Jk in
theorem Xk {Γ:Env} {f:Nat} (h:Has Γ.P f 54 QO.1.1.ac QO.1.2) (z0:Vv Γ 127) (z1:YT Γ 128):Je Γ f:=by
 intro l x hl
 refine Qb h zsi zcl zcl fun C hC hm=>?_
 subst hC
 simp only [QO,qd,DC.ac]
 refine zgo ?_;repeat' first|exact zt|apply zan|intro hc
 refine Qp (ι:=Nat×Nat×Nat) (fun q=>q.2.1≤q.2.2∧q.2.2≤l.length∧q.2.2 - q.2.1≤q.1∧agS Op.bytesLess l x q.1 q.2.1 q.2.2 = bsI Op.bytesLess l x) (fun q=>Jk [(0,.sl 1 (l.map V.str)),(1,V.str x),(6,V.int l.length),(7,V.int q.2.1),(8,V.int q.2.2)] [] 0) (fun q=>q.2.2 - q.2.1) (l.length,0,l.length) ⟨zG _,zh _,by simp,rfl⟩ (Qd []) (Qh [] (by simp only [go_sem,zwl,zb]<;>exact zcc) zwa (by simp) (by simp) (by omega)) fun q hq K' hL=>?_
 obtain ⟨n,i,j⟩:=q
 simp only at hq hL ⊢
 obtain ⟨h1,h2,h3,h4⟩:=hq
 have hb:bsI Op.bytesLess l x≤l.length:=agA
 by_cases hij:i < j
 ·obtain ⟨n,rfl⟩:∃ m,n = m + 1:=⟨n - 1,by omega⟩
  have e1:decide ((i:Int) < (j:Int)) = true:=zo (by omega)
  have hh:=adW (a:=i) (b:=j) (by omega)
  rw [agS,if_pos hij] at h4
  have r1:i≤(i + j) / 2:=by omega
  have r2:(i + j) / 2 < j:=by omega
  generalize (i + j) / 2 = r at *
  obtain ⟨y,hy⟩:∃ y,l[r]? = some y:=⟨_,zd (by omega)⟩
  rw [hy] at h4
  simp only at h4
  have p1:=(z0 y x).b
  have hwr:=Qg (k:=r) (by omega)
  rcases hlt:Op.bytesLess y x with _|_
  ·rw [hlt] at p1 h4
   rw [if_neg (by decide)] at h4
   (have zx:=za e1 (za hh (za hwr hy)));refine zgo ?_;repeat' first|exact zt|apply zan|intro hc
   all_goals exact hL _ (n,i,r) (Qd []) ⟨by simp only;omega,by simp only;omega,by simp only;omega,h4⟩ (by simp only;omega) (zwg [])
  ·rw [hlt] at p1 h4
   rw [if_pos rfl] at h4
   (have zx:=za e1 (za hh (za hwr hy)));refine zgo ?_;repeat' first|exact zt|apply zan|intro hc
   all_goals exact hL _ (n,r + 1,j) (Qd []) ⟨by simp only;omega,by simp only;omega,by simp only;omega,h4⟩ (by simp only;omega) (zwg [])
 ·have e1:decide ((i:Int) < (j:Int)) = false:=zp (by omega)
  have hbi:bsI Op.bytesLess l x = i:=by
   rw [← h4]
   rcases n with _|n
   ·rfl
   ·rw [agS,if_neg hij]
  rw [hbi]
  by_cases hil:i < l.length
  ·have e2:decide ((i:Int) < (l.length:Int)) = true:=zo (by omega)
   obtain ⟨y,hy⟩:∃ y,l[i]? = some y:=⟨_,zd hil⟩
   have hf:Jw l i x = (y == x):=by simp only [Jw,hy]
   have p2:=(z1 y).b
   rw [hf]
   rcases hyx:y == x with _|_
   ·(have zx:=za e1 (za e2 (za hyx hy)));exact zg
   ·(have zx:=za e1 (za e2 (za hyx hy)));exact zg
  ·have e2:decide ((i:Int) < (l.length:Int)) = false:=zp (by omega)
   have hf:Jw l i x = false:=by rw [Jw,zW (by omega)]
   rw [hf]
   (have zx:=za e1 e2);exact zg
def ltJ (x y:Int):Bool:=decide (x < y)
def aaU {α:Type} [BEq α] (lt:α→α→Bool) (l:List α) (x:α):List α :=
 if Jw l (bsI lt l x) x = true then l else l.take (bsI lt l x)++x :: l.drop (bsI lt l x)
def Ym (Γ:Env) (f:Nat):Prop:=((∀ (xs:List (List UInt8)) (i:Nat) (x:List UInt8),i≤xs.length→0 < xs.length→xs.length < 2 ^ 30→aqC Γ f (V.int i) 1 (xs.map V.str) [V.str x] ((xs.take i++x :: xs.drop i).map V.str))∧(∀ x:List UInt8,EvW Γ f [wW,V.int 0,.sl 1 [V.str x]] 1 [V.str x]))
def Q7:=qd Proofs.Tryz.f86 []
def Yj (Γ:Env) (f:Nat):Prop:=((∀ (xs:List (List UInt8)) (x:List UInt8),0 < xs.length→xs.length < 2 ^ 30→Jw xs (bsI Op.bytesLess xs x) x = true→EvX Γ f [V.str x] 1 (xs.map V.str))∧(∀ (xs:List (List UInt8)) (x:List UInt8),0 < xs.length→xs.length < 2 ^ 30→Jw xs (bsI Op.bytesLess xs x) x = false→EvI Γ f [V.str x] 1 (xs.map V.str) ((aaU Op.bytesLess xs x).map V.str))∧(∀ x:List UInt8,EvW Γ f [wW,V.str x] 1 [V.str x]))
theorem qg {Γ:Env} {f:Nat} (h:Has Γ.P f 20 Q7.1.1.ac Q7.1.2) (z0:Je Γ 108) (z1:Ym Γ 109):Yj Γ f:=by
 obtain ⟨hI,hW⟩:=z1
 refine ⟨fun xs x h0 hl hf=>?_,fun xs x h0 hl hf=>?_,fun x=>?_⟩
 ·refine Kh h (by simp) fun C hC hm=>?_
  subst hC
  simp only [Q7,qd,DC.ac]
  have hb:=(z0 xs x (by omega)).b
  rw [hf] at hb
  have ht:List.take (xs.map V.str).length (xs.map V.str) = xs.map V.str:=zQ
  (have zx:=ht);refine zgo ?_;repeat' first|exact zt|apply zan|intro hc
  all_goals first|(refine agl _ rfl rfl rfl ?_;first|rfl|(simp;done))
 ·refine acu h (by simp) fun C hC hm=>?_
  subst hC
  simp only [Q7,qd,DC.ac]
  have hb:=(z0 xs x (by omega)).b
  have hi:=hI xs (bsI Op.bytesLess xs x) x agA h0 hl
  rw [aaU,if_neg (by rw [hf];decide)]
  rw [hf] at hb
  have ht:List.take (xs.map V.str).length (xs.map V.str) = xs.map V.str:=zQ
  generalize bsI Op.bytesLess xs x = i at *
  repeat' (first|(refine zsk ?_;intro K' hK)|refine zsp ?_|(refine zsc ?_ ?_<;>intro hc<;>first|exact znh|try simp only [znz] at hc)|simp (maxSteps:=1000000) only [go_sem,ht]|(refine hK _ ?_;clear hK K')|apply zan|(apply agF;(focus exact rfl);(focus first|exact hi);(focus exact rfl);(focus exact rfl);(focus (first|exact rfl|(simp;done))))|(apply acK;(focus exact rfl);(focus exact rfl);(focus first|exact hi);(focus exact rfl);(focus (first|exact rfl|(simp;done)));(focus (first|exact rfl|(simp;done))))|(apply Qr;(focus first|exact hb|exact (z0 _ _ zsd).b))|exact zsq|fail)
  all_goals first|(refine an4 _ _ rfl ⟨_,rfl⟩ rfl (by omega) rfl ?_;first|rfl|(simp;done))
 ·refine Xc h (by simp) (by intro y hy;rw [zu.1 hy];simp only [V.noSl]) fun C hC hm=>?_
  subst hC
  simp only [Q7,qd,DC.ac]
  have hb:=(z0 [] x (by simp)).b
  have hw:=hW x
  simp only [zL] at hb
  have hb:=hb.le2 (LeV.nil 1) (LeV.refl _)
  refine zgo ?_;repeat' first|exact zt|apply zan|intro hc
  all_goals first|(refine qH (xs:=[V.str x]) _ _ rfl ?_ ?_<;>first|rfl|(simp;done))
end Av
end
