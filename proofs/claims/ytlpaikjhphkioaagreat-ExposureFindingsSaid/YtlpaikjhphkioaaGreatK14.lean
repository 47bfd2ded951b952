/- Functions that are lent a buffer of their caller's and answer the slice that takes its place (as append does), or the same one. -/
import Derived.Test.YtlpaikjhphkioaaGreatK13
import Derived.Test.YtlpaikjhphkioaaGreatK12
set_option linter.unusedVariables false
set_option linter.unusedSimpArgs false
section
namespace Av
open Go
structure EvI (Γ:Env) (f:FuncId) (args:List V) (sx:Nat) (xs ys:List V):Prop where
 ev:Ev Γ f (.hd 0 0 xs.length :: args) [.buf true sx xs] (.hd 1 0 ys.length) [.dead,.buf true sx ys]
structure EvX (Γ:Env) (f:FuncId) (args:List V) (sx:Nat) (xs:List V):Prop where
 ev:Ev Γ f (.hd 0 0 xs.length :: args) [.buf true sx xs] (.hd 0 0 xs.length) [.buf true sx xs]
section
variable {Γ:Env} {A W:Nat→Bool} {b:Nat} {r:List AO} {s:St} {d:Option Nat} {f:FuncId} {acts args:List V} {okf:Option (List Nat)→Prop} {J K:St→Prop} {a n sx:Nat} {xs ys:List V} {x:V}
theorem aiu (ha:s.o a = some (.buf true sx xs)) (h:EvI Γ f args sx xs ys) (hal:(Je acts).contains a = false) (hd:decide (a < b) = true) (hn:n = xs.length) (hc:Qu s.o (some (Je acts)) acts)
  (hk:Uv Γ (b + KK) r { t:=(s.put d (.hd b 0 ys.length)).t,o:=upd (upd (qQ (some (Je acts)) [a] s.o) b (some (.buf true sx ys))) a (some .dead),n:=s.n } K):ag7 Γ b r s d f (.hd a 0 n :: acts) (x :: args) okf K:=by
 intro h1 _
 simp only [Yk,kx] at h1
 obtain ⟨_,rfl⟩:=h1
 subst hn
 have hal':a ∉ Je acts:=by simpa using hal
 refine Yi ⟨_,_,_,_,[a],some (Je acts),h.ev,⟨?_,Ya s.o [a] _ (fun y hy=>?_) acts hc⟩,⟨⟨_,ha,rfl,rfl⟩,trivial⟩,by simp,by simpa using ku hd,by simp,by simp [KK],fun h=>by simp at h,?_⟩
 ·simp [conv]
 ·intro e
  rw [zv.1 e] at hy
  exact hal' hy
 ·simp only [YN,YD,Ob.ren,V.ren,sig]
  exact hk
theorem ace (ha:s.o a = some (.buf true sx xs)) (h:EvX Γ f args sx xs) (hal:(Je acts).contains a = false) (hd:decide (a < b) = true) (hn:n = xs.length) (hc:Qu s.o (some (Je acts)) acts)
  (hk:Uv Γ (b + KK) r { t:=(s.put d (.hd a 0 n)).t,o:=upd (qQ (some (Je acts)) [a] s.o) a (some (.buf true sx xs)),n:=s.n } K):ag7 Γ b r s d f (.hd a 0 n :: acts) (x :: args) okf K:=by
 intro h1 _
 simp only [Yk,kx] at h1
 obtain ⟨_,rfl⟩:=h1
 subst hn
 have hal':a ∉ Je acts:=by simpa using hal
 refine Yi ⟨_,_,_,_,[a],some (Je acts),h.ev,⟨?_,Ya s.o [a] _ (fun y hy=>?_) acts hc⟩,⟨⟨_,ha,rfl,rfl⟩,trivial⟩,by simp,by simpa using ku hd,by simp,by simp [KK],fun h=>by simp at h,?_⟩
 ·simp [conv]
 ·intro e
  rw [zv.1 e] at hy
  exact hal' hy
 ·simp only [YN,YD,Ob.ren,V.ren,sig]
  exact hk
theorem ad5 {nt:Nat} {ac:AC} {rs:List Kx} (hb:Has Γ.P f nt ac rs) (ha:args.length + 1≤nt)
  (h:∀ C:Ctx,C.env = Γ→C.m = 1→AWp C nt ac (YU (.hd 0 0 xs.length :: args) [.buf true sx xs]) (yK 1 rs (.hd 1 0 ys.length) [.dead,.buf true sx ys]) (fun _ _=>False) (yK 1 rs (.hd 1 0 ys.length) [.dead,.buf true sx ys])):EvI Γ f args sx xs ys :=
 ⟨by grind [YO]⟩
theorem qr {nt:Nat} {ac:AC} {rs:List Kx} (hb:Has Γ.P f nt ac rs) (ha:args.length + 1≤nt)
  (h:∀ C:Ctx,C.env = Γ→C.m = 1→AWp C nt ac (YU (.hd 0 0 xs.length :: args) [.buf true sx xs]) (yK 1 rs (.hd 0 0 xs.length) [.buf true sx xs]) (fun _ _=>False) (yK 1 rs (.hd 0 0 xs.length) [.buf true sx xs])):EvX Γ f args sx xs :=
 ⟨by grind [YO]⟩
end
def arL (n:Nat) (v:Value):List Value:=List.replicate n v
theorem atP {x y n:Nat} {o:Nat→Option Ob}:qQ (some [x,y]) [] o n = if n = x then (o n).map Ob.frz else if n = y then (o n).map Ob.frz else o n:=by
 simp only [qQ,zF,zM,or_false,not_false_eq_true,and_true]
 by_cases h1:n = x<;>by_cases h2:n = y<;>simp [h1,h2]
theorem atO {x y:Nat}:(x∈[x,y]) = True:=by simp
theorem atN {x y:Nat}:(y∈[x,y]) = True:=by simp
theorem at0 {n:Int}:([V.sc (Value.int IntKind.i64 n)].all (qU IntKind.i64) = true) = True:=by simp [qU]
attribute [go_sem] atP atO atN at0
theorem aqh {rs:List Kx} {s:St} {xs' ys:List V} {sx:Nat} (i n:Nat) (h:w9 s rs = some [.hd i 0 n]) (h0:∃ x,s.o 0 = some x) (hi:s.o i = some (.buf true sx xs')) (hi1:1≤i) (hx:xs' = ys) (hn:n = ys.length) :
  yK 1 rs (.hd 1 0 ys.length) [.dead,.buf true sx ys] s:=by
 subst hn;subst hx
 obtain ⟨x0,e0⟩:=h0
 refine WY rs _ _ h ⟨[0,i],none,by simp [aal,conv],⟨⟨_,e0,?_⟩,⟨_,hi,fun h=>h,rfl,rfl⟩,trivial⟩,?_,rfl⟩
 ·simp [aqD]
 ·simp;omega
theorem ah9 {rs:List Kx} {s:St} {xs' ys:List V} {sx:Nat} (n:Nat) (h:w9 s rs = some [.hd 0 0 n]) (hi:s.o 0 = some (.buf true sx xs')) (hx:xs' = ys) (hn:n = ys.length) :
  yK 1 rs (.hd 0 0 ys.length) [.buf true sx ys] s:=by
 subst hn;subst hx
 exact WY rs _ _ h ⟨[0],none,by simp [aal,conv],⟨⟨_,hi,fun h=>h,rfl,rfl⟩,trivial⟩,by simp,rfl⟩
end Av
end
noncomputable section
set_option maxRecDepth 10000
set_option maxHeartbeats 4000000
namespace Av
open Go
attribute [local irreducible] AWp Uv qW xf awS awC abB awQ acd QZ UL aa2 awR Kc awB okR yu ris
structure Qa where
 src:Int
 host:List UInt8
 mach:Int
 day:Int
 conf:Int
 kind:Int
 subj:List UInt8
 alg:Int
 bits:Int
 num:Int
 text:List UInt8
 deriving DecidableEq
def Qa.cells (f:Qa):List V:=[V.int f.src,V.str f.host,V.int f.mach,V.int f.day,V.int f.conf,V.int f.kind,V.str f.subj,V.int f.alg,V.int f.bits,V.int f.num,V.str f.text]
def Qa.v (f:Qa):V:=.agg f.cells
def Xf (x y:Int):Int:=if x < y then -1 else if x > y then 1 else 0
def yp (x y:List UInt8):Int:=if Op.bytesLess x y then -1 else if Op.bytesLess y x then 1 else 0
def Q7:List Int→Int
 | []=>0
 | x :: r=>if x≠0 then x else Q7 r
def aqJ (a b:Qa):List Int:=[yp a.host b.host,Xf a.mach b.mach,Xf a.day b.day,yp a.subj b.subj,Xf a.kind b.kind,Xf a.alg b.alg,Xf a.bits b.bits,Xf a.num b.num,yp a.text b.text,Xf a.src b.src,Xf a.conf b.conf]
def acs (a b:Qa):Int:=Q7 (aqJ a b)
def Ub (Γ:Env) (f:Nat):Prop:=∀ (a b:List UInt8),EvN Γ f [V.str a,V.str b] (V.int (yp a b))
def VZ:=qd Proofs.Tryz.f164 []
def Vc (Γ:Env) (f:Nat):Prop:=∀ (x:Int),EvN Γ f [V.int x] (V.bool false)
theorem acO {Γ:Env} {f:Nat} (h:Has Γ.P f 6 VZ.1.1.ac VZ.1.2) :Vc Γ f:=by
 intro x
 refine Qb h zsi zcl zcl fun C hC hm=>?_
 subst hC
 simp only [VZ,qd,DC.ac]
 refine zgo ?_;repeat' first|exact zt|apply zan|intro hc
 all_goals first|exact zr|(refine Qk _ rfl ?_;simp only [go_sem];simp;done)
def Wu:=qd Proofs.Tryz.f120 []
def YT (Γ:Env) (f:Nat):Prop:=∀ (x y:Int),EvN Γ f [V.int x,V.int y] (V.int (Xf x y))
theorem aaJ {Γ:Env} {f:Nat} (h:Has Γ.P f 20 Wu.1.1.ac Wu.1.2) (z0:Vc Γ 164):YT Γ f:=by
 intro x y
 refine Qb h zsi zcl zcl fun C hC hm=>?_
 subst hC
 simp only [Wu,qd,DC.ac]
 by_cases h1:x < y
 ·have e1:decide (x < y) = true:=zo h1
  rw [Xf,if_pos h1]
  repeat' (first|(refine zsk ?_;intro K' hK)|refine zsp ?_|(refine zsc ?_ ?_<;>intro hc<;>first|exact znh|try simp only [znz] at hc)|simp (maxSteps:=1000000) only [go_sem,e1]|(refine hK _ ?_;clear hK K')|apply zan|(apply QF;(focus first|exact (z0 _).b))|exact zsq|fail)
  all_goals exact zr
 ·have e1:decide (x < y) = false:=zp h1
  by_cases h2:x > y
  ·have e2:decide (x > y) = true:=zo h2
   rw [Xf,if_neg h1,if_pos h2]
   repeat' (first|(refine zsk ?_;intro K' hK)|refine zsp ?_|(refine zsc ?_ ?_<;>intro hc<;>first|exact znh|try simp only [znz] at hc)|simp (maxSteps:=1000000) only [go_sem,e1,e2]|(refine hK _ ?_;clear hK K')|apply zan|(apply QF;(focus first|exact (z0 _).b))|exact zsq|fail)
   all_goals exact zr
  ·have e2:decide (x > y) = false:=zp h2
   rw [Xf,if_neg h1,if_neg h2]
   repeat' (first|(refine zsk ?_;intro K' hK)|refine zsp ?_|(refine zsc ?_ ?_<;>intro hc<;>first|exact znh|try simp only [znz] at hc)|simp (maxSteps:=1000000) only [go_sem,e1,e2]|(refine hK _ ?_;clear hK K')|apply zan|(apply QF;(focus first|exact (z0 _).b))|exact zsq|fail)
   all_goals exact zr
def Xl:=qd Proofs.Tryz.f139 [⟨fun _=>true,[2,5],zoc 0 8⟩]
def Y7 (Γ:Env) (f:Nat):Prop:=∀ (a b:Qa) (g:Nat) (p:Qa→Int) (hg:∀ x:Qa,EvN Γ g [x.v] (V.int (p x))),EvN Γ f [.ro [.clo (.n g) []] 0,.ro a.cells 0,.ro b.cells 0] (V.int (Xf (p a) (p b)))
theorem wN {Γ:Env} {f:Nat} (h:Has Γ.P f 11 Xl.1.1.ac Xl.1.2) (z0:YT Γ 120):Y7 Γ f:=by
 intro a b g p hg
 refine Qb h zsi zcl zcl fun C hC hm=>?_
 subst hC
 simp only [Xl,qd,DC.ac]
 have g1:=(hg a).b
 have g2:=(hg b).b
 have g3:=(z0 (p a) (p b)).b
 simp only [Qa.v,Qa.cells] at g1 g2 ⊢
 exact zg
def Xk:=qd Proofs.Tryz.f141 [⟨fun _=>true,[2,5],zoc 0 8⟩]
def Y6 (Γ:Env) (f:Nat):Prop:=∀ (a b:Qa) (g:Nat) (p:Qa→List UInt8) (hg:∀ x:Qa,EvN Γ g [x.v] (V.str (p x))),EvN Γ f [.ro [.clo (.n g) []] 0,.ro a.cells 0,.ro b.cells 0] (V.int (yp (p a) (p b)))
theorem wL {Γ:Env} {f:Nat} (h:Has Γ.P f 11 Xk.1.1.ac Xk.1.2) (z0:Ub Γ 119):Y6 Γ f:=by
 intro a b g p hg
 refine Qb h zsi zcl zcl fun C hC hm=>?_
 subst hC
 simp only [Xk,qd,DC.ac]
 have g1:=(hg a).b
 have g2:=(hg b).b
 have g3:=(z0 (p a) (p b)).b
 simp only [Qa.v,Qa.cells] at g1 g2 ⊢
 exact zg
def Wq:=qd Proofs.Tryz.f138 []
def Uq (Γ:Env) (f:Nat):Prop:=(∃ g1:Nat,Y7 Γ g1∧∀ (a b:Qa) (g:Nat),EvC Γ f [.clo (.n g) [],.ro a.cells 0,.ro b.cells 0] (.clo (.n g1) [.ro [.clo (.n g) []] 0,.ro a.cells 0,.ro b.cells 0]))
theorem aaF {Γ:Env} {f:Nat} (h:Has Γ.P f 6 Wq.1.1.ac Wq.1.2) (z0:Y7 Γ 139):Uq Γ f:=by
 refine ⟨139,z0,fun a b g=>?_⟩
 refine Jy h (by simp) (by simp only [V.closed,Qd,and_self]) fun C hC hm=>?_
 subst hC
 simp only [Wq,qd,DC.ac]
 simp only [Qa.cells]
 exact zg
def Wp:=qd Proofs.Tryz.f140 []
def Up (Γ:Env) (f:Nat):Prop:=(∃ g1:Nat,Y6 Γ g1∧∀ (a b:Qa) (g:Nat),EvC Γ f [.clo (.n g) [],.ro a.cells 0,.ro b.cells 0] (.clo (.n g1) [.ro [.clo (.n g) []] 0,.ro a.cells 0,.ro b.cells 0]))
theorem aaE {Γ:Env} {f:Nat} (h:Has Γ.P f 6 Wp.1.1.ac Wp.1.2) (z0:Y6 Γ 141):Up Γ f:=by
 refine ⟨141,z0,fun a b g=>?_⟩
 refine Jy h (by simp) (by simp only [V.closed,Qd,and_self]) fun C hC hm=>?_
 subst hC
 simp only [Wp,qd,DC.ac]
 simp only [Qa.cells]
 exact zg
def Wo:=qd Proofs.Tryz.f142 []
def Uo (Γ:Env) (f:Nat):Prop:=∀ (x:Qa),EvN Γ f [x.v] (V.str x.host)
theorem aaD {Γ:Env} {f:Nat} (h:Has Γ.P f 5 Wo.1.1.ac Wo.1.2) :Uo Γ f:=by
 intro x
 refine Qb h zsi zcl zcl fun C hC hm=>?_
 subst hC
 simp only [Wo,qd,DC.ac]
 simp only [Qa.v,Qa.cells]
 exact zg
def Wn:=qd Proofs.Tryz.f143 []
def Un (Γ:Env) (f:Nat):Prop:=∀ (x:Qa),EvN Γ f [x.v] (V.int x.mach)
theorem aaC {Γ:Env} {f:Nat} (h:Has Γ.P f 5 Wn.1.1.ac Wn.1.2) :Un Γ f:=by
 intro x
 refine Qb h zsi zcl zcl fun C hC hm=>?_
 subst hC
 simp only [Wn,qd,DC.ac]
 simp only [Qa.v,Qa.cells]
 exact zg
def Wm:=qd Proofs.Tryz.f144 []
def Um (Γ:Env) (f:Nat):Prop:=∀ (x:Qa),EvN Γ f [x.v] (V.int x.day)
theorem aaB {Γ:Env} {f:Nat} (h:Has Γ.P f 5 Wm.1.1.ac Wm.1.2) :Um Γ f:=by
 intro x
 refine Qb h zsi zcl zcl fun C hC hm=>?_
 subst hC
 simp only [Wm,qd,DC.ac]
 simp only [Qa.v,Qa.cells]
 exact zg
def Wl:=qd Proofs.Tryz.f145 []
def Uk (Γ:Env) (f:Nat):Prop:=∀ (x:Qa),EvN Γ f [x.v] (V.str x.subj)
theorem aaA {Γ:Env} {f:Nat} (h:Has Γ.P f 5 Wl.1.1.ac Wl.1.2) :Uk Γ f:=by
 intro x
 refine Qb h zsi zcl zcl fun C hC hm=>?_
 subst hC
 simp only [Wl,qd,DC.ac]
 simp only [Qa.v,Qa.cells]
 exact zg
def Wk:=qd Proofs.Tryz.f146 []
def Uj (Γ:Env) (f:Nat):Prop:=∀ (x:Qa),EvN Γ f [x.v] (V.int x.kind)
theorem aaz {Γ:Env} {f:Nat} (h:Has Γ.P f 5 Wk.1.1.ac Wk.1.2) :Uj Γ f:=by
 intro x
 refine Qb h zsi zcl zcl fun C hC hm=>?_
 subst hC
 simp only [Wk,qd,DC.ac]
 simp only [Qa.v,Qa.cells]
 exact zg
def Wj:=qd Proofs.Tryz.f147 []
def Ui (Γ:Env) (f:Nat):Prop:=∀ (x:Qa),EvN Γ f [x.v] (V.int x.alg)
theorem aay {Γ:Env} {f:Nat} (h:Has Γ.P f 6 Wj.1.1.ac Wj.1.2) :Ui Γ f:=by
 intro x
 refine Qb h zsi zcl zcl fun C hC hm=>?_
 subst hC
 simp only [Wj,qd,DC.ac]
 simp only [Qa.v,Qa.cells]
 exact zg
def Wi:=qd Proofs.Tryz.f148 []
def Uh (Γ:Env) (f:Nat):Prop:=∀ (x:Qa),EvN Γ f [x.v] (V.int x.bits)
theorem aax {Γ:Env} {f:Nat} (h:Has Γ.P f 6 Wi.1.1.ac Wi.1.2) :Uh Γ f:=by
 intro x
 refine Qb h zsi zcl zcl fun C hC hm=>?_
 subst hC
 simp only [Wi,qd,DC.ac]
 simp only [Qa.v,Qa.cells]
 exact zg
def XK:=qd Proofs.Tryz.f149 []
def Vs (Γ:Env) (f:Nat):Prop:=∀ (x:Qa),EvN Γ f [x.v] (V.int x.num)
theorem vE {Γ:Env} {f:Nat} (h:Has Γ.P f 5 XK.1.1.ac XK.1.2) :Vs Γ f:=by
 intro x
 refine Qb h zsi zcl zcl fun C hC hm=>?_
 subst hC
 simp only [XK,qd,DC.ac]
 simp only [Qa.v,Qa.cells]
 exact zg
def XJ:=qd Proofs.Tryz.f150 []
def Vr (Γ:Env) (f:Nat):Prop:=∀ (x:Qa),EvN Γ f [x.v] (V.str x.text)
theorem vD {Γ:Env} {f:Nat} (h:Has Γ.P f 5 XJ.1.1.ac XJ.1.2) :Vr Γ f:=by
 intro x
 refine Qb h zsi zcl zcl fun C hC hm=>?_
 subst hC
 simp only [XJ,qd,DC.ac]
 simp only [Qa.v,Qa.cells]
 exact zg
def XI:=qd Proofs.Tryz.f151 []
def Vq (Γ:Env) (f:Nat):Prop:=∀ (x:Qa),EvN Γ f [x.v] (V.int x.src)
theorem vC {Γ:Env} {f:Nat} (h:Has Γ.P f 5 XI.1.1.ac XI.1.2) :Vq Γ f:=by
 intro x
 refine Qb h zsi zcl zcl fun C hC hm=>?_
 subst hC
 simp only [XI,qd,DC.ac]
 simp only [Qa.v,Qa.cells]
 exact zg
def XH:=qd Proofs.Tryz.f152 []
def Vp (Γ:Env) (f:Nat):Prop:=∀ (x:Qa),EvN Γ f [x.v] (V.int x.conf)
theorem vB {Γ:Env} {f:Nat} (h:Has Γ.P f 5 XH.1.1.ac XH.1.2) :Vp Γ f:=by
 intro x
 refine Qb h zsi zcl zcl fun C hC hm=>?_
 subst hC
 simp only [XH,qd,DC.ac]
 simp only [Qa.v,Qa.cells]
 exact zg
def clC (a b:Qa) (q g:Nat):V:=.clo (.n q) [.ro [.clo (.n g) []] 0,.ro a.cells 0,.ro b.cells 0]
def arY (a b:Qa) (g1 g2 f3 f4 f5 f6 f7 f8 f9 f10 f11 f12 f13:Nat):List V:=[clC a b g2 f3,clC a b g1 f4,clC a b g1 f5,clC a b g2 f6,clC a b g1 f7,clC a b g1 f8,clC a b g1 f9,clC a b g1 f10,clC a b g2 f11,clC a b g1 f12,clC a b g1 f13]
theorem qw (a b:Qa) (g:Nat):Qd [.ro [.clo (.n g) []] 0,.ro a.cells 0,.ro b.cells 0]:=by simp only [V.closed,Qd,and_self]
theorem adP {l:List Int} {k:Nat} {v:Int} (h:l[k]? = some v):Q7 (l.drop k) = if v≠0 then v else Q7 (l.drop (k + 1)):=by
 obtain ⟨hk,he⟩:=zn.1 h
 rw [kj hk,he,Q7]
def VV:=qd Proofs.Tryz.f115 []
def Ks (Γ:Env) (f:Nat):Prop:=∀ (a b:Qa),EvN Γ f [a.v,b.v] (V.int (acs a b))
attribute [local go_sem] Ju in
theorem acK {Γ:Env} {f:Nat} (h:Has Γ.P f 46 VV.1.1.ac VV.1.2) (z0:Uq Γ 138) (z1:Up Γ 140) (z2:Uo Γ 142) (z3:Un Γ 143) (z4:Um Γ 144) (z5:Uk Γ 145) (z6:Uj Γ 146) (z7:Ui Γ 147) (z8:Uh Γ 148) (z9:Vs Γ 149) (z10:Vr Γ 150) (z11:Vq Γ 151) (z12:Vp Γ 152):Ks Γ f:=by
 intro a b
 refine Qb h zsi zcl zcl fun C hC hm=>?_
 subst hC
 simp only [VV,qd,DC.ac]
 obtain ⟨g1,c1,hO1⟩:=z0
 obtain ⟨g2,c2,hO2⟩:=z1
 have y3:=hO2 a b 142
 have y4:=hO1 a b 143
 have y5:=hO1 a b 144
 have y6:=hO2 a b 145
 have y7:=hO1 a b 146
 have y8:=hO1 a b 147
 have y9:=hO1 a b 148
 have y10:=hO1 a b 149
 have y11:=hO2 a b 150
 have y12:=hO1 a b 151
 have y13:=hO1 a b 152
 have hel:∀ k,k < 11→∃ (g:Nat) (cap:List V) (v:Int),(arY a b g1 g2 142 143 144 145 146 147 148 149 150 151 152)[k]? = some (.clo (.n g) cap)∧Qd cap∧(aqJ a b)[k]? = some v∧EvN C.env g cap (V.int v):=fun k hk=>by
  match k,hk with
  | 0,_=>exact ⟨_,_,_,rfl,qw a b _,rfl,c2 a b _ (fun x=>x.host) z2⟩
  | 1,_=>exact ⟨_,_,_,rfl,qw a b _,rfl,c1 a b _ (fun x=>x.mach) z3⟩
  | 2,_=>exact ⟨_,_,_,rfl,qw a b _,rfl,c1 a b _ (fun x=>x.day) z4⟩
  | 3,_=>exact ⟨_,_,_,rfl,qw a b _,rfl,c2 a b _ (fun x=>x.subj) z5⟩
  | 4,_=>exact ⟨_,_,_,rfl,qw a b _,rfl,c1 a b _ (fun x=>x.kind) z6⟩
  | 5,_=>exact ⟨_,_,_,rfl,qw a b _,rfl,c1 a b _ (fun x=>x.alg) z7⟩
  | 6,_=>exact ⟨_,_,_,rfl,qw a b _,rfl,c1 a b _ (fun x=>x.bits) z8⟩
  | 7,_=>exact ⟨_,_,_,rfl,qw a b _,rfl,c1 a b _ (fun x=>x.num) z9⟩
  | 8,_=>exact ⟨_,_,_,rfl,qw a b _,rfl,c2 a b _ (fun x=>x.text) z10⟩
  | 9,_=>exact ⟨_,_,_,rfl,qw a b _,rfl,c1 a b _ (fun x=>x.src) z11⟩
  | 10,_=>exact ⟨_,_,_,rfl,qw a b _,rfl,c1 a b _ (fun x=>x.conf) z12⟩
 have hlen:(arY a b g1 g2 142 143 144 145 146 147 148 149 150 151 152).length = 11:=rfl
 have hoL:(aqJ a b).length = 11:=rfl
 have hoF:acs a b = Q7 (aqJ a b):=rfl
 simp only [Qa.v,Qa.cells] at y3 y4 y5 y6 y7 y8 y9 y10 y11 y12 y13 ⊢
 repeat' (first|(refine zsk ?_;intro K' hK)|refine zsp ?_|(refine zsc ?_ ?_<;>intro hc<;>first|exact znh|try simp only [znz] at hc)|simp (maxSteps:=1000000) only [go_sem]|(refine hK _ ?_;clear hK K')|apply zan|(apply aqj;(focus first|exact y3|exact y4|exact y5|exact y6|exact y7|exact y8|exact y9|exact y10|exact y11|exact y12|exact y13))|(apply QF;(focus first|exact (z2 _).b|exact (z3 _).b|exact (z4 _).b|exact (z5 _).b|exact (z6 _).b|exact (z7 _).b|exact (z8 _).b|exact (z9 _).b|exact (z10 _).b|exact (z11 _).b|exact (z12 _).b))|exact zsq|fail)
 clear y3 y4 y5 y6 y7 y8 y9 y10 y11 y12 y13
 refine Qo (ι:=Nat) (fun k=>k≤11∧Q7 ((aqJ a b).drop k) = acs a b) (fun k=>Ju [(34,.hd 0 0 11),(35,V.int 11),(36,V.int k)] [(0,.buf true 1 (arY a b g1 g2 142 143 144 145 146 147 148 149 150 151 152))] 1) (fun k=>11 - k) 0 ⟨by omega,rfl⟩ (Qe [(0,29000)]) (Qg [(0,29000)] zwa (by simp only [go_sem,zwl,arY,clC,Qa.cells]<;>exact zcc) (by simp) (by simp;omega) (by omega)) fun k hk K' hL=>?_
 obtain ⟨hk,hinv⟩:=hk
 generalize (arY a b g1 g2 142 143 144 145 146 147 148 149 150 151 152) = els at *
 by_cases hkk:k < 11
 ·obtain ⟨g,cap,v,e1,e2,e3,e4⟩:=hel k hkk
  have s1:∀ o,Yk o cap = cap:=fun o=>YR o cap e2
  have s2:∀ o B,Qu o B cap = True:=fun o B=>eq_true (Ye o B cap e2)
  have hw:=Qf (k:=k) (by omega)
  have e5:decide ((k:Int) < 11) = true:=zo (by omega)
  have e6:=adP e3
  rw [hinv] at e6
  by_cases hv:v = 0
  ·subst hv
   rw [if_neg (by simp)] at e6
   (have zy0:=e4.b;have zx:=za e5 (za e1 (za s1 (za s2 hw))));refine zgo ?_;repeat' first|exact zt|apply zan|intro hc
   all_goals exact hL _ (k + 1) (Qe [(0,0)]) ⟨by omega,e6.symm⟩ (by omega) (zwg [(0,0)])
  ·rw [if_pos hv] at e6
   have e7:(v != 0) = true:=by simpa using hv
   rw [e6]
   (have zy0:=e4.b;have zx:=za e5 (za e1 (za s1 (za s2 (za hw e7)))));exact zg
 ·have e5:decide ((k:Int) < 11) = false:=zp (by omega)
  have hk2:k = 11:=by omega
  subst hk2
  have e6:acs a b = 0:=by rw [← hinv];rfl
  rw [e6]
  (have zx:=e5);exact zg
def akL (f:Qa):Prop:=0≤f.day∧f.day≤40000
def acT (a b:Qa):Int:=if a.day - b.day < b.day - a.day then b.day - a.day else a.day - b.day
def Xi:=qd Proofs.Tryz.f107 []
def Y5 (Γ:Env) (f:Nat):Prop:=∀ (a b:Qa) (ha:akL a) (hb:akL b),EvN Γ f [a.v,b.v] (V.int (acT a b))
theorem wJ {Γ:Env} {f:Nat} (h:Has Γ.P f 16 Xi.1.1.ac Xi.1.2) :Y5 Γ f:=by
 intro a b ha hb
 refine Qb h zsi zcl zcl fun C hC hm=>?_
 subst hC
 simp only [Xi,qd,DC.ac]
 obtain ⟨a1,a2⟩:=ha
 obtain ⟨b1,b2⟩:=hb
 have w1:IntKind.i64.wrap (a.day - b.day) = a.day - b.day:=QG (by omega) (by omega)
 have w2:IntKind.i64.wrap (b.day - a.day) = b.day - a.day:=QG (by omega) (by omega)
 simp only [Qa.v,Qa.cells,acT]
 (have zx:=za w1 w2);refine zgo ?_;repeat' first|exact zt|apply zan|intro hc
 all_goals first|exact zr|(refine Qk _ rfl ?_;simp only [go_sem];simp;done)
def jv:=qd Proofs.Tryz.f118 []
def K9 (Γ:Env) (f:Nat):Prop:=∀ (l:List Int) (hl:l.length < 2 ^ 60),EvN Γ f [.sl 1 (l.map V.int)] (V.int (Q7 l))
theorem agA {Γ:Env} {f:Nat} (h:Has Γ.P f 18 jv.1.1.ac jv.1.2) :K9 Γ f:=by
 intro l hl
 refine Qb h zsi zcl zcl fun C hC hm=>?_
 subst hC
 simp only [jv,qd,DC.ac]
 refine zgo ?_;repeat' first|exact zt|apply zan|intro hc
 refine Qx (ι:=Nat) (fun k=>k≤l.length∧Q7 (l.drop k) = Q7 l) (fun k=>[(8,V.int k)]) (fun k=>l.length - k) 0 (by omega) ⟨zH _,rfl⟩ zol zlt zet fun k hk K' hL=>?_
 obtain ⟨hk,hinv⟩:=hk
 simp only [ovT,JQ,Nat.reduceEqDiff,reduceIte]
 rcases hd:l.drop k with _|⟨x,r⟩
 ·have hkl:=Qs hd
  have e1:decide ((k:Int) < (((l.map V.int).length:Nat):Int)) = false:=by simp;omega
  rw [hd] at hinv
  have e8:Q7 l = 0:=by rw [← hinv];rfl
  rw [e8]
  (have zx:=e1);exact zg
 ·obtain ⟨hk',hget,hr⟩:=Ql hd
  have hw:=Qf (k:=k) (by omega)
  have e1:decide ((k:Int) < (((l.map V.int).length:Nat):Int)) = true:=by simp;omega
  have e6:=adP hget
  rw [hinv] at e6
  by_cases hx:x = 0
  ·subst hx
   rw [if_neg (by simp)] at e6
   (have zx:=za e1 (za hw hget));refine zgo ?_;repeat' first|exact zt|apply zan|intro hc
   all_goals exact hL _ (k + 1) zet ⟨by omega,e6.symm⟩ (by omega) zoe
  ·have e7:(x != 0) = true:=by simpa using hx
   rw [if_pos hx] at e6
   rw [e6]
   (have zx:=za e1 (za hw (za hget e7)));exact zg
def UT (l:List Qa) (f:Qa) (gap best:Int) (i:Nat):Int :=
 match l[i]? with
 | none=>best
 | some g=>if g.mach = 0∨g.host≠f.host∨acT f g > gap then best else if best < 0 then (i:Int) else
   match l[best.toNat]? with
   | none=>best
   | some h=>if Q7 [Xf (acT f g) (acT f h),Xf g.day h.day,Xf g.mach h.mach] < 0 then (i:Int) else best
def Kz (l:List Qa) (f:Qa) (gap:Int) (k:Nat):Int:=(List.range k).foldl (UT l f gap) (-1)
def X4 (l:List Qa) (f:Qa) (gap:Int):Int:=Kz l f gap l.length
theorem yx (l:List Qa) (f:Qa) (gap:Int) (k:Nat):Kz l f gap (k + 1) = UT l f gap (Kz l f gap k) k:=by
 rw [Kz,ZB,Zo];rfl
theorem ahz {l:List Qa} {f:Qa} {gap best:Int} {k:Nat} (h:best = -1∨(0≤best∧best < k)):UT l f gap best k = -1∨(0≤UT l f gap best k∧UT l f gap best k < (k + 1:Nat)):=by
 unfold UT
 split
 ·omega
 ·split
  ·omega
  ·split
   ·omega
   ·split
    ·omega
    ·split<;>omega
theorem jX (l:List Qa) (f:Qa) (gap:Int):∀ k,Kz l f gap k = -1∨(0≤Kz l f gap k∧Kz l f gap k < (k:Int))
 | 0=>.inl rfl
 | k + 1=>by rw [yx];exact ahz (jX l f gap k)
def XG:=qd Proofs.Tryz.f106 [zhn 33]
def Vo (Γ:Env) (f:Nat):Prop:=∀ (l:List Qa) (f0:Qa) (gap:Int) (hl:l.length < 2 ^ 40) (hd:∀ x∈l,akL x) (hf:akL f0),EvN Γ f [.sl 11 (l.map Qa.v),f0.v,V.int gap] (V.int (X4 l f0 gap))
attribute [local go_sem] Qa.cells Qa.v Ju in
theorem vA {Γ:Env} {f:Nat} (h:Has Γ.P f 70 XG.1.1.ac XG.1.2) (z0:Y5 Γ 107) (z1:YT Γ 120) (z2:K9 Γ 118):Vo Γ f:=by
 intro l f0 gap hl hd hf
 refine Qb h zsi zcl zcl fun C hC hm=>?_
 subst hC
 simp only [XG,qd,DC.ac]
 simp only [Qa.v,Qa.cells]
 refine zgo ?_;repeat' first|exact zt|apply zan|intro hc
 refine Qo (ι:=Nat) (fun k=>k≤l.length) (fun k=>Ju [(0,.sl 11 (l.map Qa.v)),(2,V.int gap),(4,.ptr 0 0),(7,V.int (Kz l f0 gap k)),(10,.sl 11 (l.map Qa.v)),(11,V.int l.length),(12,V.int k)] [(0,.box true f0.cells)] 1) (fun k=>l.length - k) 0 (zH _) (Qe []) (Qg [] (by simp only [go_sem,zwl,zb]<;>exact zcc) (by simp only [go_sem,zwl,Qa.cells]<;>exact zcc) (by simp) (by simp) (by omega)) fun k hk K' hL=>?_
 have hrng:=jX l f0 gap k
 have hsuc:=yx l f0 gap k
 have hN:X4 l f0 gap = Kz l f0 gap l.length:=rfl
 rcases hdr:l.drop k with _|⟨g,r⟩
 ·have hkl:=Qs hdr
  have e1:decide ((k:Int) < (l.length:Int)) = false:=by simp;omega
  obtain rfl:k = l.length:=by omega
  rw [hN]
  (have zx:=e1);exact zg
 ·obtain ⟨hk',hget,hr⟩:=Ql hdr
  have hw:=Qf (k:=k) (by omega)
  have e1:decide ((k:Int) < (l.length:Int)) = true:=by simp;omega
  have hg:=hd g (zu hget)
  have p1:=(z0 f0 g hf hg).b
  rw [UT,hget] at hsuc
  simp only at hsuc
  clear hN
  generalize Kz l f0 gap k = best at *
  generalize acT f0 g = dg at *
  simp only [Qa.v,Qa.cells] at p1 hL ⊢
  by_cases c1:g.mach = 0
  ·rw [if_pos (.inl c1)] at hsuc
   have e2:(g.mach == 0) = true:=by simpa using c1
   (have zx:=za e1 (za e2 (za hw hget)));refine zgo ?_;repeat' first|exact zt|apply zan|intro hc
   all_goals exact hL _ (k + 1) (Qe []) (by omega) (by omega) (by rw [hsuc];exact Qg [] zwa (by simp only [go_sem,zwl,Qa.cells]<;>exact zcc) (by simp) (by simp) (by omega))
  have e2:(g.mach == 0) = false:=by simpa using c1
  by_cases c2:g.host = f0.host
  ·by_cases c3:dg > gap
   ·rw [if_pos (.inr (.inr c3))] at hsuc
    have e3:(g.host == f0.host) = true:=by simpa using c2
    have e4:decide (dg > gap) = true:=zo c3
    (have zx:=za e1 (za e2 (za e3 (za e4 (za hw hget)))));refine zgo ?_;repeat' first|exact zt|apply zan|intro hc
    all_goals exact hL _ (k + 1) (Qe []) (by omega) (by omega) (by rw [hsuc];exact Qg [] zwa (by simp only [go_sem,zwl,Qa.cells]<;>exact zcc) (by simp) (by simp) (by omega))
   have e3:(g.host == f0.host) = true:=by simpa using c2
   have e4:decide (dg > gap) = false:=zp c3
   rw [if_neg (by simp only [not_or,Decidable.not_not];exact ⟨c1,c2,c3⟩)] at hsuc
   by_cases c4:best < 0
   ·rw [if_pos c4] at hsuc
    have e5:decide (best < 0) = true:=zo c4
    (have zx:=za e1 (za e2 (za e3 (za e4 (za e5 (za hw hget))))));refine zgo ?_;repeat' first|exact zt|apply zan|intro hc
    all_goals exact hL _ (k + 1) (Qe []) (by omega) (by omega) (by rw [hsuc];exact Qg [] zwa (by simp only [go_sem,zwl,Qa.cells]<;>exact zcc) (by simp) (by simp) (by omega))
   ·rw [if_neg c4] at hsuc
    have e5:decide (best < 0) = false:=zp c4
    obtain ⟨j,rfl⟩:∃ j:Nat,best = j:=⟨best.toNat,by omega⟩
    have hj:j < l.length:=by omega
    obtain ⟨q,hgq⟩:∃ q,l[j]? = some q:=⟨_,zd hj⟩
    rw [Int.toNat_natCast,hgq] at hsuc
    simp only at hsuc
    have p2:=(z0 f0 q hf (hd q (zu hgq))).b
    generalize acT f0 q = dq at *
    have p3:=(z1 dg dq).b
    have p4:=(z1 g.day q.day).b
    have p5:=(z1 g.mach q.mach).b
    have p6:=(z2 [Xf dg dq,Xf g.day q.day,Xf g.mach q.mach] (by simp)).b
    generalize Q7 [Xf dg dq,Xf g.day q.day,Xf g.mach q.mach] = ff at *
    simp only [Qa.v,Qa.cells,zL,zK] at p2 p6
    by_cases c5:ff < 0
    ·rw [if_pos c5] at hsuc
     have e6:decide (ff < 0) = true:=zo c5
     (have zx:=za e1 (za e2 (za e3 (za e4 (za e5 (za e6 (za hw (za hget hgq))))))));refine zgo ?_;repeat' first|exact zt|apply zan|intro hc
     all_goals exact hL _ (k + 1) (Qe []) (by omega) (by omega) (by rw [hsuc];exact Qg [] zwa (by simp only [go_sem,zwl,Qa.cells]<;>exact zcc) (by simp) (by simp) (by omega))
    ·rw [if_neg c5] at hsuc
     have e6:decide (ff < 0) = false:=zp c5
     (have zx:=za e1 (za e2 (za e3 (za e4 (za e5 (za e6 (za hw (za hget hgq))))))));refine zgo ?_;repeat' first|exact zt|apply zan|intro hc
     all_goals exact hL _ (k + 1) (Qe []) (by omega) (by omega) (by rw [hsuc];exact Qg [] zwa (by simp only [go_sem,zwl,Qa.cells]<;>exact zcc) (by simp) (by simp) (by omega))
  ·rw [if_pos (.inr (.inl c2))] at hsuc
   have e3:(g.host == f0.host) = false:=by simpa using c2
   (have zx:=za e1 (za e2 (za e3 (za hw hget))));refine zgo ?_;repeat' first|exact zt|apply zan|intro hc
   all_goals exact hL _ (k + 1) (Qe []) (by omega) (by omega) (by rw [hsuc];exact Qg [] zwa (by simp only [go_sem,zwl,Qa.cells]<;>exact zcc) (by simp) (by simp) (by omega))
def Qt (p:List Nat):List V:=p.map fun n:Nat=>V.int (n:Int)
structure PW (p:List Nat):Prop where
 len:p.length = 400
 le:∀ i j:Nat,p[i]? = some j→j≤i
theorem Jh (p:List Nat):(Qt p).length = p.length:=by simp [Qt]
theorem YE {p:List Nat} {i j:Nat} (h:p[i]? = some j):(Qt p)[i]? = some (V.int j):=by simp [Qt,h]
theorem YP (p:List Nat):Qd (Qt p):=by
 unfold Qt
 induction p with
 | nil=>trivial
 | cons x r ih=>exact ⟨trivial,ih⟩
theorem Qq (τ:Nat→Nat) (p:List Nat):KC τ (Qt p) = Qt p:=Q8 _ _ (YP p)
theorem Qy (n:Nat) (p:List Nat):ltL n (Qt p):=Y9 _ _ (YP p)
theorem ado (p:List Nat) (i j:Nat):(Qt p).set i (V.int j) = Qt (p.set i j):=by simp [Qt,Zu]
theorem ahs {p:List Nat} {i:Nat} (h:i < p.length) (j:Nat):List.take i (Qt p)++[V.int (j:Int)]++List.drop (i + 1) (Qt p) = Qt (p.set i j):=by
 rw [← ado,List.set_eq_take_append_cons_drop,if_pos (by rw [Jh];exact h),kE];rfl
theorem PW.get {p:List Nat} (h:PW p) {i:Nat} (hi:i < 400):∃ j,p[i]? = some j∧j≤i:=by
 have:i < p.length:=by rw [h.len];exact hi
 exact ⟨p[i],zd this,h.le i _ (zd this)⟩
theorem PW.set {p:List Nat} (h:PW p) {i j:Nat} (hj:j≤i):PW (p.set i j):=⟨by rw [zU];exact h.len,fun a b e=>by
 rw [ka] at e
 split at e
 ·split at e
  ·rename_i e1 _;cases e;rw [← e1];exact hj
  ·cases e
 ·exact h.le a b e⟩
def adh (p:List Nat):Nat→Nat→Nat
 | 0,i=>i
 | n + 1,i=>match p[i]? with
   | some j=>if j = i then i else adh p n j
   | none=>i
def Qp (p:List Nat) (i:Nat):Nat:=adh p (i + 1) i
theorem afk {p:List Nat} (h:PW p):∀ (n i m:Nat),i < n→i < m→adh p n i = adh p m i
 | 0,i,m,h1,_=>absurd h1 (Zf _)
 | n + 1,i,0,_,h2=>absurd h2 (Zf _)
 | n + 1,i,m + 1,h1,h2=>by
   simp only [adh]
   rcases e:p[i]? with _|j
   ·rfl
   ·simp only
    split
    ·rfl
    ·rename_i hne
     have:=h.le i j e
     exact afk h n j m (by omega) (by omega)
theorem Vw {p:List Nat} (h:PW p) {i j:Nat} (e:p[i]? = some j):Qp p i = if j = i then i else Qp p j:=by
 rw [Qp,adh,e]
 simp only
 split
 ·rfl
 ·rename_i hne
  have:=h.le i j e
  exact afk h _ _ _ (by omega) (by omega)
theorem qX {p:List Nat} (h:PW p):∀ i,Qp p i≤i:=by
 intro i
 induction i using Nat.strongRecOn with
 | _ i ih =>
   rcases e:p[i]? with _|j
   ·rw [Qp,adh,e];exact zj _
   ·rw [Vw h e]
    have:=h.le i j e
    split
    ·exact zj _
    ·rename_i hne
     have:=ih j (by omega)
     omega
def Yq:=qd Proofs.Tryz.f85 []
def Yh (Γ:Env) (f:Nat):Prop:=∀ (p:List Nat) (i:Nat) (hp:PW p) (hi:i < 400),EvD Γ f [V.int i] (Qt p) (V.int (Qp p i)) (Qt p)
attribute [local go_sem] Nat.mul_one kC Ju in
theorem jF {Γ:Env} {f:Nat} (h:Has Γ.P f 18 Yq.1.1.ac Yq.1.2) :Yh Γ f:=by
 intro p i hp hi
 refine Vj h zsi (by first|exact YP _|simp only [V.closed,Qd,and_self]) zc3 zc3 fun C hC hm=>?_
 subst hC
 simp only [Yq,qd,DC.ac]
 have hpc:=Jh p
 have hl4:=hp.len
 refine zgo ?_;repeat' first|exact zt|apply zan|intro hc
 refine Qo (ι:=Nat) (fun k=>k≤i∧Qp p k = Qp p i) (fun k=>Ju [(0,.ptr 0 0),(1,V.int k)] [(0,.box true (Qt p))] 1) (fun k=>k) i ⟨zj _,rfl⟩ (Qe []) (Qg [] zwa (by simp only [go_sem,zwl,Qq,Qy]<;>exact zcc) (by simp) (by simp) (by omega)) fun k hk K' hL=>?_
 obtain ⟨hk,hinv⟩:=hk
 obtain ⟨j,hg,hj⟩:=hp.get (i:=k) (by omega)
 have hgc:=YE hg
 have hst:=Vw hp hg
 rw [hinv] at hst
 have e0:decide ((0:Int)≤(k:Int)) = true:=by simp
 by_cases hjk:j = k
 ·subst hjk
  rw [if_pos rfl] at hst
  rw [hst]
  have e1:((j:Int) != (j:Int)) = false:=by simp
  (have zx:=za hgc (za hpc (za hl4 e1)));refine zgo ?_;repeat' first|exact zt|apply zan|intro hc
  all_goals (refine ab6 _ rfl rfl (YP p) ?_;simp only [go_sem];done)
 ·rw [if_neg hjk] at hst
  have e1:((j:Int) != (k:Int)) = true:=by simp;omega
  (have zx:=za hgc (za hpc (za hl4 e1)));refine zgo ?_;repeat' first|exact zt|apply zan|intro hc
  all_goals exact hL _ j (Qe []) ⟨by omega,hst.symm⟩ (by omega) (Qg [] zwa (by simp only [go_sem,zwl,Qq,Qy]<;>exact zcc) (by simp) (by simp) (by omega))
def j7 (p:List Nat) (i k:Nat):List Nat:=p.set (max (Qp p i) (Qp p k)) (min (Qp p i) (Qp p k))
theorem ac0 {p:List Nat} (h:PW p) (i k:Nat):PW (j7 p i k):=h.set (by omega)
theorem ar9 (a b:Nat):(if (a:Int) < (b:Int) then (b:Int) else (a:Int)) = ((max a b:Nat):Int):=by
 split<;>omega
theorem ar7 (a b:Nat):(if (b:Int) < (a:Int) then (b:Int) else (a:Int)) = ((min a b:Nat):Int):=by
 split<;>omega
def Yr:=qd Proofs.Tryz.f105 []
def YW (Γ:Env) (f:Nat):Prop:=∀ (p:List Nat) (i k:Nat) (hp:PW p) (hi:i < 400) (hk:k < 400),EvD Γ f [V.int i,V.int k] (Qt p) (.tup []) (Qt (j7 p i k))
attribute [local go_sem] Nat.mul_one kC in
theorem jG {Γ:Env} {f:Nat} (h:Has Γ.P f 23 Yr.1.1.ac Yr.1.2) (z0:Yh Γ 85):YW Γ f:=by
 intro p i k hp hi hk
 refine Vj h zsi (by first|exact YP _|simp only [V.closed,Qd,and_self]) zc3 zc3 fun C hC hm=>?_
 subst hC
 simp only [Yr,qd,DC.ac]
 have n1:=z0 p i hp hi
 have n2:=z0 p k hp hk
 have r1:=qX hp i
 have r2:=qX hp k
 have hpc:=Jh p
 have hl4:=hp.len
 unfold j7
 generalize Qp p i = a at *
 generalize Qp p k = b at *
 have m1:=ar9 a b
 have m2:=ar7 a b
 have m3:max a b < 400:=by omega
 have hs:=ahs (p:=p) (i:=max a b) (by omega) (min a b)
 (have zx:=za hpc (za hl4 (za m1 (za m2 hs))));refine zgo ?_;repeat' first|exact zt|apply zan|intro hc
 all_goals (refine ab6 _ rfl rfl (YP _) ?_;simp only [go_sem];done)
def aeG (k:Int):List Int→Nat→Option Nat
 | [],_=>none
 | e :: r,i=>if k = e then some i else aeG k r (i + 1)
theorem afC (k:Int):∀ (ks:List Int) (i:Nat),ja false [0] (V.int k) (ks.map V.int) i = some (aeG k ks i)
 | [],_=>rfl
 | e :: r,i=>by
   have h:qt false [0] (V.int k) (V.int e) = some (k == e):=by simp [qt,Jp]
   rw [zL,ja,h]
   by_cases hk:k = e
   ·subst hk;simp [aeG]
   ·have:(k == e) = false:=by simpa using hk
    rw [this];simp only [aeG,if_neg hk]
    exact afC k r (i + 1)
theorem agc {k:Int}:∀ {ks:List Int} {i a:Nat},aeG k ks i = some a→i≤a∧a < i + ks.length
 | [],_,_,h=>by cases h
 | e :: r,i,a,h=>by
   rw [aeG] at h
   split at h
   ·cases h;simp
   ·have:=agc h
    simp only [List.length_cons];omega
theorem ad7 (k:Int):qt false [0] (V.int k) (V.int k) = some true:=by simp [qt,Jp]
structure JS where
 p:List Nat
 ks:List Int
 vs:List Nat
 loose:Int
structure JW (k:Nat) (s:JS):Prop where
 pw:PW s.p
 len:s.ks.length = s.vs.length
 vlt:∀ v∈s.vs,v < k
 lo:s.loose = -1∨(0≤s.loose∧s.loose < (k:Int))
def ahA (l:List Qa) (f:Qa) (gap loose:Int):Bool :=
 decide (loose≥0) && match l[loose.toNat]? with
  | some g=>g.host == f.host && decide (acT f g≤gap)
  | none=>false
def ahH (l:List Qa) (gap:Int) (s:JS) (i:Nat) (f:Qa):JS :=
 if f.mach = 0 then
  if X4 l f gap≥0 then { s with p:=j7 s.p i (X4 l f gap).toNat }
  else { s with p:=if ahA l f gap s.loose = true then j7 s.p i s.loose.toNat else s.p,loose:=i }
 else match aeG f.mach s.ks 0 with
  | some a=>{ s with p:=j7 s.p i (s.vs.getD a 0),vs:=s.vs.set a i }
  | none=>{ s with ks:=s.ks++[f.mach],vs:=s.vs++[i] }
def Uz (l:List Qa) (gap:Int):Nat→JS
 | 0=>⟨List.range 400,[],[],-1⟩
 | k + 1=>match l[k]? with
   | some f=>ahH l gap (Uz l gap k) k f
   | none=>Uz l gap k
def aah (l:List Qa) (gap:Int):List Nat:=(Uz l gap l.length).p
theorem aj1:PW (List.range 400):=⟨kU,fun i j h=>by
 obtain ⟨h1,h2⟩:=zn.1 h
 rw [Zk] at h2;omega⟩
theorem am9 (l:List Qa) (f:Qa) (gap:Int):X4 l f gap = -1∨(0≤X4 l f gap∧X4 l f gap < (l.length:Int)):=jX l f gap l.length
theorem ao0 {l:List Qa} {gap:Int} {s:JS} {i:Nat} {f:Qa} (h:JW i s):JW (i + 1) (ahH l gap s i f):=by
 obtain ⟨h1,h2,h3,h4⟩:=h
 have h3':∀ v∈s.vs,v < i + 1:=fun v hv=>Z8 (h3 v hv)
 unfold ahH
 split
 ·split
  ·exact ⟨ac0 h1 _ _,h2,h3',by simp only;omega⟩
  ·refine ⟨?_,h2,h3',.inr (by simp only;omega)⟩
   simp only
   split
   ·exact ac0 h1 _ _
   ·exact h1
 ·split
  ·refine ⟨ac0 h1 _ _,by simpa using h2,fun v hv=>?_,by simp only;omega⟩
   rcases ZZ hv with hv|hv
   ·exact h3' v hv
   ·omega
  ·refine ⟨h1,by simp [h2],fun v hv=>?_,by simp only;omega⟩
   rcases zT.1 hv with hv|hv
   ·exact h3' v hv
   ·rw [zv.1 hv];omega
theorem aaf (l:List Qa) (gap:Int):∀ k,JW k (Uz l gap k)
 | 0=>⟨aj1,rfl,by simp [Uz],.inl rfl⟩
 | k + 1=>by
   have ih:=aaf l gap k
   rw [Uz]
   split
   ·exact ao0 ih
   ·exact ⟨ih.pw,ih.len,fun v hv=>Z8 (ih.vlt v hv),by have:=ih.lo;omega⟩
theorem aag (l:List Qa) (gap:Int):PW (aah l gap):=(aaf l gap l.length).pw
def ipP (k:Nat):List Nat:=(List.range 400).map fun j=>if j < k then j else 0
theorem aqG (n i:Nat) (v:Value) (h:i < (arL n v).length):(arL n v)[i] = v:=by simp [arL]
theorem aqF (n:Nat) (v:Value):(arL n v).length = n:=bf
theorem ao1:(arL 400 (.int .i64 0)).map V.ofV = Qt (ipP 0):=by
 apply List.ext_getElem
 ·rw [zb,aqF,Jh,ipP,zb,kU]
 ·intro i h1 h2;rw [kJ,aqG];simp only [Qt,ipP,kJ,Zf,if_false];rfl
theorem ano (k:Nat):(ipP k).length = 400:=by simp [ipP]
theorem aqZ (k:Nat):(ipP k).set k k = ipP (k + 1):=by
 apply List.ext_getElem
 ·simp [ipP]
 ·intro i h1 h2
  simp only [ipP,List.getElem_set,kJ,Zk]
  split
  ·rename_i e;subst e;simp
  ·rename_i e
   by_cases hi:i < k
   ·rw [if_pos hi,if_pos (by omega)]
   ·rw [if_neg hi,if_neg (by omega)]
theorem aq0:ipP 400 = List.range 400:=by
 apply List.ext_getElem
 ·simp [ipP]
 ·intro i h1 h2
  simp only [ipP,zb,kU] at h1
  simp [ipP,h1]
def jSt (l:List Qa) (gap:Int) (k:Nat) (s:JS):St:=Ju [(0,.sl 11 (l.map Qa.v)),(1,V.int gap),(5,.ptr 0 0),(7,.mp 1),(8,V.int s.loose),(26,.sl 11 (l.map Qa.v)),(27,V.int l.length),(28,V.int k)] [(0,.box true (Qt s.p)),(1,.map (s.ks.map V.int) (Qt s.vs) 0)] 2
theorem qk (p:List Nat) (i:Nat):Qt p++[V.int (i:Int)] = Qt (p++[i]):=by simp [Qt]
theorem adE {l:List Qa} {gap:Int} {k:Nat} {f:Qa} (h:l[k]? = some f):Uz l gap (k + 1) = ahH l gap (Uz l gap k) k f:=by rw [Uz,h]
def qA:List (List Nat):=[[],[0],[1],[2],[2],[3,4,2],[5,2],[6,2],[2],[8,2],[7,9,2],[2,10],[11,2],[12],[12],[12],[14,15,12],[16,12],[13,17,12,12],[12],[18,19,12],[12,20]]
def qi:OT:=och 0 22
@[go_sem] def Vg (QB:Nat):OP:=oN 0 (mv 62 8) (oN 1 (bc 63 .geq 62 (V.int 0)) (oN 2 (mv 64 63) (oN 3 (mg 65 0 64 true) (oN 4 (mg 66 8 64 true) (oN 5 (xg 67 (.iaddr 11 (.t 65) (.t 66)) 64 true) (oN 6 (xg 68 (.faddr 1 (.t 67)) 64 true) (oN 7 (xg 69 (.load false 1 (.t 68)) 64 true) (oN 8 (xg 70 (.faddr 1 (.t 10)) 64 true) (oN 9 (xg 71 (.load false 1 (.t 70)) 64 true) (oN 10 (xg 72 (.bin .eql (.t 69) (.t 71)) 64 true) (oN 11 (xo 73 (.pick (.t 64) (.t 72) (.c (V.bool false)))) (oN 12 (mv 74 73) (oN 13 (xg 75 (.load true 11 (.t 10)) 74 true) (oN 14 (mg 76 0 74 true) (oN 15 (mg 77 8 74 true) (oN 16 (xg 78 (.iaddr 11 (.t 76) (.t 77)) 74 true) (oN 17 (xg 79 (.load true 11 (.t 78)) 74 true) (oN 18 (xg 80 (.call QB [(.t 75),(.t 79)]) 74 true) (oN 19 (mg 81 1 74 true) (oN 20 (xg 82 (.bin .leq (.t 80) (.t 81)) 74 true) (oN 21 (xo 83 (.pick (.t 74) (.t 82) (.c (V.bool false)))) .done)))))))))))))))))))))
def qn (QB:Nat):List AO:=aoO (Vg QB)
instance (QB:Nat):RG [] qi (Vg QB) (qn QB) qA 22 (fun _=>true):=⟨rfl,by kernel_rfl,by kernel_rfl⟩
def yf (Jf XD QB:Nat):AC:=JN [0,1] (.reg [mc 4 (.sc (.pointer none))]) (JN [0,1,5] (.reg [xo 14 (.build (arL 400 vi0) []),xo 15 (.box true 400 (.t 14)),mv 5 15]) (JN [0,1,5] (JN [0,1,5,16] (.reg [mc 16 (V.int 0)]) (.block 0 (ahD [0,1,5,16] (JN [0,1,5,16,17] (.reg [bc 17 .lss 16 (V.int 400)]) (JN [0,1,5,16] (.cond (.t 17) .skip (.exit 0)) (JN [0,1,5,16] (.block 1 (JN [0,1,5,6,16] (.reg [mv 18 16,mv 6 18]) (.reg [mv 19 5,mv 20 6,mv 21 6,nk 22 19,xo 23 (.iaddrA 400 1 (.t 22) (.t 20)),xs 1 23 21]))) (.reg [bc 24 .add 16 (V.int 1),mv 16 24]))))))) (JN [0,1,5,7] (.reg [xo 25 (.mkmap),mv 7 25]) (JN [0,1,5,7,8] (.reg [mc 8 (V.int (-1))]) (JN [5] (JN [0,1,5,7,8,26,27,28] (.reg [mv 26 0,ln 27 26,mc 28 (V.int 0)]) (.block 2 (ahD [0,1,5,7,8,26,27,28] (JN [0,1,5,7,8,26,27,28,29] (.reg [bn 29 .lss 28 27]) (JN [0,1,5,7,8,26,27,28] (.cond (.t 29) .skip (.exit 2)) (JN [0,1,5,7,8,26,27,28] (.block 3 (JN [0,1,5,7,8,9,10,26,27,28] (.reg [mv 30 28,ia 31 11 26 28,xo 32 (.load true 11 (.t 31)),xo 10 (.alloc [.val vi0,.val vs0,.val vi0,.val vi0,.val vi0,.val vi0,.val vs0,.val vi0,.val vi0,.val vi0,.val vs0]),mv 9 30,xs 11 10 32]) (JN [0,1,5,7,8,9,10,26,27,28] (JN [0,1,5,7,8,9,10,26,27,28,35] (.reg [fa 33 2 10,ld 34 1 33,bc 35 .neq 34 (V.int 0)]) (.cond (.t 35) (JN [0,1,5,7,8,9,10,26,27,28] (JN [0,1,5,7,8,9,10,11,12,26,27,28] (.reg [mv 37 7,fa 38 2 10,ld 39 1 38,xo 40 (.mapget true false [vi0] false [0] (.t 37) (.t 39)),mv 36 40,ex 41 36 0,ex 42 36 1,mv 11 41,mv 12 42]) (JN [0,1,5,7,8,9,10,11,26,27,28,43] (.reg [mv 43 12]) (.cond (.t 43) (.reg [mv 44 5,mv 45 9,mv 46 11,cl 47 Jf [44,45,46]]) .skip))) (JN [0,1,5,7,8,26,27,28] (.reg [mv 48 7,fa 49 2 10,ld 50 1 49,mv 51 9,⟨none,.mapset false [0] (.t 48) (.t 50) (.t 51),none⟩]) (.exit 3))) .skip)) (JN [0,1,5,7,8,9,10,26,27,28] (JN [0,1,5,7,8,9,10,13,26,27,28] (.reg [mv 52 0,xo 53 (.load true 11 (.t 10)),mv 54 1,cl 55 XD [52,53,54],mv 13 55]) (JN [0,1,5,7,8,9,10,13,26,27,28,57] (.reg [mv 56 13,bc 57 .geq 56 (V.int 0)]) (.cond (.t 57) (JN [0,1,5,7,8,26,27,28] (.reg [mv 58 5,mv 59 9,mv 60 13,cl 61 Jf [58,59,60]]) (.exit 3)) .skip))) (JN [0,1,5,7,9,26,27,28] (JN [0,1,5,7,8,9,26,27,28,83] (apW [] qi (Vg QB) (qn QB) qA) (.cond (.t 83) (.reg [mv 84 5,mv 85 9,mv 86 8,cl 87 Jf [84,85,86]]) .skip)) (.reg [mv 88 9,mv 8 88])))))) (.reg [bc 89 .add 28 (V.int 1),mv 28 89]))))))) (JN [4] (.reg [mv 90 5,mv 4 90]) .ret)))))) def bp:List Kx:=[.tmp 4]
def Uf (Γ:Env) (f:Nat):Prop:=∀ (l:List Qa) (gap:Int) (hl:l.length≤400) (hd:∀ x∈l,akL x),EvR Γ f [.sl 11 (l.map Qa.v),V.int gap] ((Qt (aah l gap)))
attribute [local go_sem] Nat.mul_one kC Qa.cells Qa.v jSt Ju in
theorem aav {Γ:Env} {f Jf XD QB:Nat} (h:Has Γ.P f 91 (yf Jf XD QB) bp) (z0:YW Γ Jf) (z1:Vo Γ XD) (z2:Y5 Γ QB):Uf Γ f:=by
 intro l gap hl hd
 refine ad4 h (by simp) (YP _) fun C hC hm=>?_
 subst hC
 unfold yf
 have z4:=ao1
 have hpc:=Jh
 have hip:=ano
 (have zx:=za z4 (za hpc hip));refine zgo ?_;repeat' first|exact zt|apply zan|intro hc
 refine Qo (ι:=Nat) (fun k=>k≤400) (fun k=>Ju [(0,.sl 11 (l.map Qa.v)),(1,V.int gap),(5,.ptr 0 0),(16,V.int k)] [(0,.box true (Qt (ipP k)))] 1) (fun k=>400 - k) 0 (zH _) (Qe [(0,2000)]) (Qg [(0,2000)] zwa (by simp only [go_sem,zwl,Qq,Qy]<;>exact zcc) (by simp) (by simp;omega) (by omega)) fun k hk K' hL=>?_
 by_cases hk4:k < 400
 ·have e1:decide ((k:Int) < 400) = true:=zo (by omega)
  have hw:=Qf (k:=k) (by omega)
  have hs:=ahs (p:=ipP k) (i:=k) (by rw [ano];exact hk4) k
  rw [aqZ] at hs
  (have zx:=za e1 (za hw (za hpc (za hip hs))));refine zgo ?_;repeat' first|exact zt|apply zan|intro hc
  all_goals exact hL _ (k + 1) (Qe []) (by omega) (by omega) (Qg [] zwa (by simp only [go_sem,zwl,Qq,Qy]<;>exact zcc) (by simp) (by simp) (by omega))
 have e1:decide ((k:Int) < 400) = false:=zp (by omega)
 obtain rfl:k = 400:=by omega
 clear hL
 rw [aq0]
 have e0:decide (((400:Nat):Int) < 400) = false:=by decide
 (have zx:=e0);refine zgo ?_;repeat' first|exact zt|apply zan|intro hc
 refine Qo (ι:=Nat) (fun k=>k≤l.length) (fun k=>jSt l gap k (Uz l gap k)) (fun k=>l.length - k) 0 (zH _) (Qe [(1,1001)]) (Qg [(1,1001)] (by simp only [go_sem,zwl,jSt,Uz,zb]<;>exact zcc) (by simp only [go_sem,zwl,jSt,Uz,Qq,Qy]<;>exact zcc) (by simp [jSt,Qe]) (by simp [jSt];omega) (by omega)) fun k hk K' hL=>?_
 have hJ:=aaf l gap k
 rcases hdr:l.drop k with _|⟨g,r⟩
 ·have hkl:=Qs hdr
  have e1:decide ((k:Int) < (l.length:Int)) = false:=by simp;omega
  obtain rfl:k = l.length:=by omega
  have hjf:aah l gap = (Uz l gap l.length).p:=rfl
  rw [hjf]
  (have zx:=e1);refine zgo ?_;repeat' first|exact zt|apply zan|intro hc
  all_goals (refine aqg _ rfl rfl (YP _);done)
 obtain ⟨hk',hget,hr⟩:=Ql hdr
 have hw:=Qf (k:=k) (by omega)
 have e1:decide ((k:Int) < (l.length:Int)) = true:=by simp;omega
 have hsu:=adE (gap:=gap) hget
 have hgd:=hd g (zu hget)
 generalize Uz l gap k = s at *
 obtain ⟨p,ks,vs,lo⟩:=s
 obtain ⟨j1,j2,j3,j4⟩:=hJ
 simp only at j1 j2 j3 j4
 have hgv:l.map Qa.v = l.map Qa.v:=rfl
 simp only [jSt]
 by_cases c1:g.mach = 0
 ·have e2:(g.mach != 0) = false:=by simpa using c1
  have p1:=(z1 l g gap (by omega) hd hgd).b
  rw [ahH,if_pos c1] at hsu
  simp only [Qa.v,Qa.cells] at p1
  rcases am9 l g gap with c2|⟨c2,c3⟩
  ·rw [if_neg (by omega)] at hsu
   rw [c2] at p1
   have e3:decide ((-1:Int)≥0) = false:=by decide
   rcases hq:ahA l g gap lo with _|_
   ·rw [hq,if_neg (by decide)] at hsu
    by_cases c4:lo≥0
    ·obtain ⟨n,rfl⟩:∃ n:Nat,lo = n:=⟨lo.toNat,by omega⟩
     have e4:decide ((n:Int)≥0) = true:=zo (by omega)
     obtain ⟨q,hgq⟩:∃ q,l[n]? = some q:=⟨_,zd (by omega)⟩
     rw [ahA,e4,zC,Int.toNat_natCast,hgq] at hq
     simp only at hq
     have p2:=(z2 g q hgd (hd q (zu hgq))).b
     simp only [Qa.v,Qa.cells] at p2
     rcases c5:q.host == g.host with _|_
     ·(have zx:=za e1 (za e2 (za e3 (za e4 (za c5 (za hw (za hget hgq)))))));refine zgo ?_;repeat' first|exact zt|apply zan|intro hc
      all_goals exact hL _ (k + 1) (Qe []) (by omega) (by omega) (by rw [hsu];exact Qg [] (by simp only [go_sem,zwl,jSt,zb]<;>exact zcc) (by simp only [go_sem,zwl,jSt,Qq,Qy]<;>exact zcc) (by simp [jSt,Qe]) (by simp [jSt]) (by omega))
     ·rw [c5,zC] at hq
      (have zx:=za e1 (za e2 (za e3 (za e4 (za c5 (za hq (za hw (za hget hgq))))))));refine zgo ?_;repeat' first|exact zt|apply zan|intro hc
      all_goals exact hL _ (k + 1) (Qe []) (by omega) (by omega) (by rw [hsu];exact Qg [] (by simp only [go_sem,zwl,jSt,zb]<;>exact zcc) (by simp only [go_sem,zwl,jSt,Qq,Qy]<;>exact zcc) (by simp [jSt,Qe]) (by simp [jSt]) (by omega))
    ·have e4:decide (lo≥0) = false:=zp c4
     (have zx:=za e1 (za e2 (za e3 (za e4 (za hw hget)))));refine zgo ?_;repeat' first|exact zt|apply zan|intro hc
     all_goals exact hL _ (k + 1) (Qe []) (by omega) (by omega) (by rw [hsu];exact Qg [] (by simp only [go_sem,zwl,jSt,zb]<;>exact zcc) (by simp only [go_sem,zwl,jSt,Qq,Qy]<;>exact zcc) (by simp [jSt,Qe]) (by simp [jSt]) (by omega))
   ·rw [hq,if_pos rfl] at hsu
    have c4:lo≥0:=by
     rw [ahA] at hq
     simp only [zw,zA] at hq
     exact hq.1
    obtain ⟨n,rfl⟩:∃ n:Nat,lo = n:=⟨lo.toNat,by omega⟩
    have e4:decide ((n:Int)≥0) = true:=zo (by omega)
    obtain ⟨q,hgq⟩:∃ q,l[n]? = some q:=⟨_,zd (by omega)⟩
    rw [ahA,e4,zC,Int.toNat_natCast,hgq] at hq
    rw [Int.toNat_natCast] at hsu
    simp only [zw] at hq
    obtain ⟨c5,c6⟩:=hq
    have p2:=(z2 g q hgd (hd q (zu hgq))).b
    have n1:=z0 p k n j1 (by omega) (by omega)
    simp only [Qa.v,Qa.cells] at p2
    (have zx:=za e1 (za e2 (za e3 (za e4 (za c5 (za c6 (za hw (za hget hgq))))))));refine zgo ?_;repeat' first|exact zt|apply zan|intro hc
    all_goals exact hL _ (k + 1) (Qe []) (by omega) (by omega) (by rw [hsu];exact Qg [] (by simp only [go_sem,zwl,jSt,zb]<;>exact zcc) (by simp only [go_sem,zwl,jSt,Qq,Qy]<;>exact zcc) (by simp [jSt,Qe]) (by simp [jSt]) (by omega))
  ·rw [if_pos c2] at hsu
   obtain ⟨n,hn⟩:∃ n:Nat,X4 l g gap = n:=⟨(X4 l g gap).toNat,by omega⟩
   rw [hn] at hsu c3 p1
   rw [Int.toNat_natCast] at hsu
   have e3:decide ((n:Int)≥0) = true:=zo (by omega)
   have n1:=z0 p k n j1 (by omega) (by omega)
   (have zx:=za e1 (za e2 (za e3 (za hw hget))));refine zgo ?_;repeat' first|exact zt|apply zan|intro hc
   all_goals exact hL _ (k + 1) (Qe []) (by omega) (by omega) (by rw [hsu];exact Qg [] (by simp only [go_sem,zwl,jSt,zb]<;>exact zcc) (by simp only [go_sem,zwl,jSt,Qq,Qy]<;>exact zcc) (by simp [jSt,Qe]) (by simp [jSt]) (by omega))
 ·have e2:(g.mach != 0) = true:=by simpa using c1
  rw [ahH,if_neg c1] at hsu
  have hfk:=afC g.mach ks 0
  have hek:=ad7 g.mach
  rcases hix:aeG g.mach ks 0 with _|a
  ·rw [hix] at hsu hfk
   have hm1:ks.map V.int++[V.int g.mach] = (ks++[g.mach]).map V.int:=by simp
   have hm2:=qk vs k
   (have zx:=za e1 (za e2 (za hw (za hfk (za hek (za hm1 (za hm2 hget)))))));refine zgo ?_;repeat' first|exact zt|apply zan|intro hc
   all_goals exact hL _ (k + 1) (Qe []) (by omega) (by omega) (by rw [hsu];exact Qg [] (by simp only [go_sem,zwl,jSt,zb]<;>exact zcc) (by simp only [go_sem,zwl,jSt,Qq,Qy]<;>exact zcc) (by simp [jSt,Qe]) (by simp [jSt]) (by omega))
  ·rw [hix] at hsu hfk
   have ha:=(agc hix).2
   obtain ⟨v,hv⟩:∃ v,vs[a]? = some v:=⟨_,zd (by omega)⟩
   have hvk:=j3 v (zu hv)
   have hvd:vs.getD a 0 = v:=by rw [zJ,hv];rfl
   simp only [hvd] at hsu
   have hvc:=YE hv
   have n1:=z0 p k v j1 (by omega) (by omega)
   have hm1:=ado vs a k
   (have zx:=za e1 (za e2 (za hw (za hfk (za hek (za hm1 (za hvc hget)))))));refine zgo ?_;repeat' first|exact zt|apply zan|intro hc
   all_goals exact hL _ (k + 1) (Qe []) (by omega) (by omega) (by rw [hsu];exact Qg [] (by simp only [go_sem,zwl,jSt,zb]<;>exact zcc) (by simp only [go_sem,zwl,jSt,Qq,Qy]<;>exact zcc) (by simp [jSt,Qe]) (by simp [jSt]) (by omega))
end Av
end
section
namespace Av
open Go
section
variable {Γ:Env} {A W:Nat→Bool} {b:Nat} {s:St} {d:Option Nat} {f:FuncId} {acts args:List V} {okf:Option (List Nat)→Prop} {J:St→Prop} {a n sx:Nat} {xs ys:List V} {x:V}
theorem ajK (ha:s.o a = some (.buf true sx xs)) (hA:A a = true) (hW:W a = true) (h:EvI Γ f args sx xs ys) (hal:(Je acts).contains a = false) (hd:decide (a < b) = true) (hn:n = xs.length) (hl:((Je acts).all fun x=>A x && W x) = true) (hc:Qu (JZ A s.o) (some (Je acts)) acts)
  (hk:J { t:=(s.put d (.hd b 0 ys.length)).t,o:=upd (upd (qQ (some (Je acts)) [a] s.o) b (some (.buf true sx ys))) a (some .dead),n:=s.n }):agP Γ A W b s d f (.hd a 0 n :: acts) (x :: args) okf J:=by
 intro h1 _
 simp only [Yk,kx] at h1
 obtain ⟨_,rfl⟩:=h1
 subst hn
 have hal':a ∉ Je acts:=by simpa using hal
 have hra:JZ A s.o a = some (.buf true sx xs):=by rw [aa9,if_pos hA,ha]
 refine ⟨_,_,_,_,[a],some (Je acts),h.ev,⟨?_,Ya _ [a] _ (fun y hy=>?_) acts hc⟩,⟨⟨_,hra,rfl,rfl⟩,trivial⟩,by simp,?_,by simp,by simp [KK],fun h=>by simp at h,fun l h x hx=>(by cases h;simpa using kS.1 hl x hx),?_⟩
 ·simp [conv]
 ·intro e
  rw [zv.1 e] at hy
  exact hal' hy
 ·intro y hy
  rw [zv.1 hy]
  exact ⟨ku hd,hW⟩
 ·simp only [YN,YD,Ob.ren,V.ren,sig]
  exact hk
theorem vN (ha:s.o a = some (.buf true sx xs)) (hA:A a = true) (hW:W a = true) (h:EvX Γ f args sx xs) (hal:(Je acts).contains a = false) (hd:decide (a < b) = true) (hn:n = xs.length) (hl:((Je acts).all fun x=>A x && W x) = true) (hc:Qu (JZ A s.o) (some (Je acts)) acts)
  (hk:J { t:=(s.put d (.hd a 0 n)).t,o:=upd (qQ (some (Je acts)) [a] s.o) a (some (.buf true sx xs)),n:=s.n }):agP Γ A W b s d f (.hd a 0 n :: acts) (x :: args) okf J:=by
 intro h1 _
 simp only [Yk,kx] at h1
 obtain ⟨_,rfl⟩:=h1
 subst hn
 have hal':a ∉ Je acts:=by simpa using hal
 have hra:JZ A s.o a = some (.buf true sx xs):=by rw [aa9,if_pos hA,ha]
 refine ⟨_,_,_,_,[a],some (Je acts),h.ev,⟨?_,Ya _ [a] _ (fun y hy=>?_) acts hc⟩,⟨⟨_,hra,rfl,rfl⟩,trivial⟩,by simp,?_,by simp,by simp [KK],fun h=>by simp at h,fun l h x hx=>(by cases h;simpa using kS.1 hl x hx),?_⟩
 ·simp [conv]
 ·intro e
  rw [zv.1 e] at hy
  exact hal' hy
 ·intro y hy
  rw [zv.1 hy]
  exact ⟨ku hd,hW⟩
 ·simp only [YN,YD,Ob.ren,V.ren,sig]
  exact hk
end
end Av
end
section
set_option linter.unusedSimpArgs false
set_option linter.unusedVariables false
set_option maxRecDepth 10000
set_option maxHeartbeats 4000000
namespace Av
open Go
theorem ajJ {Γ:Env} {b:Nat} {r:List AO} {s:St} {d:Option Nat} {f:FuncId} {x:V} {g:FK} {off:Nat} {wr:Bool} {cs:List V} {args:List V} {okf:Option (List Nat)→Prop} {K:St→Prop} {a c sz n m:Nat} {xs ys:List V}
  (ha:s.o a = some (.buf true sz xs)) (h:EvZ Γ f args sz xs m ys) (hab:decide (a < b) = true) (hn:n = xs.length) (ho:s.o c = some (.box wr cs)) (hca:decide (c≠a) = true) (hcl:Qd cs)
  (hk:Uv Γ (b + KK) r { t:=(s.put d (.hd a 0 m)).t,o:=upd (qQ (some [c]) [a] s.o) a (some (.buf true sz ys)),n:=s.n } K):ag7 Γ b r s d f (.hd a 0 n :: [.clo g [.ptr c off]]) (x :: args) okf K:=by
 have hc:Qu s.o (some [c]) [.clo g [.ptr c off]]:=by
  simp only [Qu,V.shutOk,and_true,okB,zv,true_and]
  grind
 intro h1 _
 simp only [Yk,kx] at h1
 obtain ⟨_,rfl⟩:=h1
 subst hn
 refine Yi ⟨_,_,_,_,[a],some [c],h.ev,⟨?_,Ya s.o [a] [c] (fun x hx=>by
  have:=ku hca
  simp only [zv] at hx ⊢
  subst hx;exact this) _ hc⟩,⟨⟨_,ha,rfl,rfl⟩,trivial⟩,by simp,?_,by simp,by simp [KK],fun h=>by simp at h,?_⟩
 ·simp [conv]
 ·intro x hx
  simp only [zv] at hx
  subst hx;exact ku hab
 ·simp only [YN,YD,Ob.ren,V.ren,sig,List.getElem?_cons_zero,Option.getD_some]
  exact hk
end Av
end
section
namespace Av
open Go
structure asR (Γ:Env) (f:FuncId) (v:V) (sx:Nat) (xs vs ys:List V):Prop where
 ev:Ev Γ f [.hd 0 0 xs.length,v,.hd 1 0 vs.length] [.buf true sx xs,.buf true sx vs] (.hd 2 0 ys.length) [.dead,.buf true sx vs,.buf true sx ys]
section
variable {Γ:Env} {b:Nat} {r:List AO} {s:St} {d:Option Nat} {f:FuncId} {args:List V} {okf:Option (List Nat)→Prop} {K:St→Prop} {a a2 n n2 sx:Nat} {xs vs ys:List V} {i:Int}
theorem aen (ha:s.o a = some (.buf true sx xs)) (ha2:s.o a2 = some (.buf true sx vs)) (h:asR Γ f (V.int i) sx xs vs ys) (hd:decide (a≠a2∧a < b∧a2 < b) = true) (hn:n = xs.length) (hn2:n2 = vs.length)
  (hk:Uv Γ (b + KK) r { t:=(s.put d (.hd b 0 ys.length)).t,o:=upd (upd (upd s.o b (some (.buf true sx ys))) a2 (some (.buf true sx vs))) a (some .dead),n:=s.n } K):ag7 Γ b r s d f [.hd a 0 n,V.int i,.hd a2 0 n2] args okf K:=by
 intro _ _
 subst hn;subst hn2
 obtain ⟨e1,e2,e3⟩:=ku hd
 refine Yi ⟨_,_,_,_,[a,a2],some [],h.ev,⟨by simp [conv],by simp [conv],by simp [conv],trivial⟩,⟨⟨_,ha,rfl,rfl⟩,⟨_,ha2,rfl,rfl⟩,trivial⟩,by simpa using e1,?_,by simp,by simp [KK],fun h=>by simp at h,?_⟩
 ·intro y hy
  simp only [zF,zM,or_false] at hy
  rcases hy with rfl|rfl<;>assumption
 ·simp only [YN,YD,Ob.ren,V.ren,sig,arM]
  exact hk
end
end Av
end
noncomputable section
set_option maxRecDepth 10000
set_option maxHeartbeats 4000000
namespace Av
open Go
attribute [local irreducible] AWp Uv qW xf awS awC abB awQ acd QZ UL aa2 awR Kc awB okR yu ris
def aiJ {α:Type} (lt:α→α→Bool) (l:List α) (x:α):Nat→Nat→Nat→Nat
 | 0,i,_=>i
 | n + 1,i,j=>if i < j then (match l[(i + j) / 2]? with
   | some y=>if lt y x = true then aiJ lt l x n ((i + j) / 2 + 1) j else aiJ lt l x n i ((i + j) / 2)
   | none=>i) else i
def bsI {α:Type} (lt:α→α→Bool) (l:List α) (x:α):Nat:=aiJ lt l x l.length 0 l.length
theorem ajH {α:Type} {lt:α→α→Bool} {l:List α} {x:α}:∀ (n i j:Nat),i≤j→j≤l.length→aiJ lt l x n i j≤l.length
 | 0,i,j,h1,h2=>by rw [aiJ];omega
 | n + 1,i,j,h1,h2=>by
   rw [aiJ]
   split
   ·split
    ·split
     ·exact ajH n _ _ (by omega) h2
     ·exact ajH n _ _ (by omega) (by omega)
    ·omega
   ·omega
theorem aip {α:Type} {lt:α→α→Bool} {l:List α} {x:α}:bsI lt l x≤l.length:=ajH _ _ _ (zH _) (zj _)
theorem afz {a b:Nat} (h:a + b < 2 ^ 36):IntKind.i64.wrap ((IntKind.u64.wrap (IntKind.i64.wrap ((a:Int) + (b:Int)))).fdiv (2 ^ 1)) = (((a + b) / 2:Nat):Int):=by
 have e1:IntKind.i64.wrap ((a:Int) + (b:Int)) = ((a + b:Nat):Int):=by rw [QG (by omega) (by omega)];omega
 have e2:IntKind.u64.wrap ((a + b:Nat):Int) = ((a + b:Nat):Int):=by
  unfold IntKind.wrap;simp [IntKind.signed,IntKind.bits];omega
 rw [e1,e2,Int.fdiv_eq_ediv_of_nonneg _ (by decide),show (2:Int) ^ 1 = 2 from rfl,QG (by omega) (by omega)];omega
def YS:=qd Proofs.Tryz.f128 []
def XB (Γ:Env) (f:Nat):Prop:=∀ (s:List UInt8),EvN Γ f [V.str s] (V.bool false)
theorem xy {Γ:Env} {f:Nat} (h:Has Γ.P f 6 YS.1.1.ac YS.1.2) :XB Γ f:=by
 intro s
 refine Qb h zsi zcl zcl fun C hC hm=>?_
 subst hC
 simp only [YS,qd,DC.ac]
 refine zgo ?_;repeat' first|exact zt|apply zan|intro hc
 all_goals first|exact zr|(refine Qk _ rfl ?_;simp only [go_sem];simp;done)
def XM:=qd Proofs.Tryz.f169 []
def Vt (Γ:Env) (f:Nat):Prop:=∀ (s:List UInt8),EvN Γ f [V.str s] (V.bool false)
theorem vG {Γ:Env} {f:Nat} (h:Has Γ.P f 6 XM.1.1.ac XM.1.2) :Vt Γ f:=by
 intro s
 refine Qb h zsi zcl zcl fun C hC hm=>?_
 subst hC
 simp only [XM,qd,DC.ac]
 refine zgo ?_;repeat' first|exact zt|apply zan|intro hc
 all_goals first|exact zr|(refine Qk _ rfl ?_;simp only [go_sem];simp;done)
def Wt:=qd Proofs.Tryz.f127 []
def Ut (Γ:Env) (f:Nat):Prop:=∀ (a b:List UInt8),EvN Γ f [V.str a,V.str b] (V.bool (Op.bytesLess a b))
theorem aaI {Γ:Env} {f:Nat} (h:Has Γ.P f 17 Wt.1.1.ac Wt.1.2) (z0:Vt Γ 169):Ut Γ f:=by
 intro a b
 refine Qb h zsi zcl zcl fun C hC hm=>?_
 subst hC
 simp only [Wt,qd,DC.ac]
 have p1:=(z0 a).b
 exact zg
def J0 {α:Type} [BEq α] (l:List α) (i:Nat) (x:α):Bool:=match l[i]? with|some y=>y == x|none=>false
def QW:=qd Proofs.Tryz.f108 []
def Jt (Γ:Env) (f:Nat):Prop:=∀ (l:List (List UInt8)) (x:List UInt8) (hl:l.length < 2 ^ 34),EvN Γ f [.sl 1 (l.map V.str),V.str x] (.tup [V.int (bsI Op.bytesLess l x:Nat),V.bool (J0 l (bsI Op.bytesLess l x) x)])
attribute [local go_sem] Ju in
theorem X8 {Γ:Env} {f:Nat} (h:Has Γ.P f 54 QW.1.1.ac QW.1.2) (z0:Ut Γ 127) (z1:XB Γ 128):Jt Γ f:=by
 intro l x hl
 refine Qb h zsi zcl zcl fun C hC hm=>?_
 subst hC
 simp only [QW,qd,DC.ac]
 refine zgo ?_;repeat' first|exact zt|apply zan|intro hc
 refine Qo (ι:=Nat×Nat×Nat) (fun q=>q.2.1≤q.2.2∧q.2.2≤l.length∧q.2.2 - q.2.1≤q.1∧aiJ Op.bytesLess l x q.1 q.2.1 q.2.2 = bsI Op.bytesLess l x) (fun q=>Ju [(0,.sl 1 (l.map V.str)),(1,V.str x),(6,V.int l.length),(7,V.int q.2.1),(8,V.int q.2.2)] [] 0) (fun q=>q.2.2 - q.2.1) (l.length,0,l.length) ⟨zH _,zj _,by simp,rfl⟩ (Qe []) (Qg [] (by simp only [go_sem,zwl,zb]<;>exact zcc) zwa (by simp) (by simp) (by omega)) fun q hq K' hL=>?_
 obtain ⟨n,i,j⟩:=q
 simp only at hq hL ⊢
 obtain ⟨h1,h2,h3,h4⟩:=hq
 have hb:bsI Op.bytesLess l x≤l.length:=aip
 by_cases hij:i < j
 ·obtain ⟨n,rfl⟩:∃ m,n = m + 1:=⟨n - 1,by omega⟩
  have e1:decide ((i:Int) < (j:Int)) = true:=zo (by omega)
  have hh:=afz (a:=i) (b:=j) (by omega)
  rw [aiJ,if_pos hij] at h4
  have r1:i≤(i + j) / 2:=by omega
  have r2:(i + j) / 2 < j:=by omega
  generalize (i + j) / 2 = r at *
  obtain ⟨y,hy⟩:∃ y,l[r]? = some y:=⟨_,zd (by omega)⟩
  rw [hy] at h4
  simp only at h4
  have p1:=(z0 y x).b
  have hwr:=Qf (k:=r) (by omega)
  rcases hlt:Op.bytesLess y x with _|_
  ·rw [hlt] at p1 h4
   rw [if_neg (by decide)] at h4
   (have zx:=za e1 (za hh (za hwr hy)));refine zgo ?_;repeat' first|exact zt|apply zan|intro hc
   all_goals exact hL _ (n,i,r) (Qe []) ⟨by simp only;omega,by simp only;omega,by simp only;omega,h4⟩ (by simp only;omega) (zwg [])
  ·rw [hlt] at p1 h4
   rw [if_pos rfl] at h4
   (have zx:=za e1 (za hh (za hwr hy)));refine zgo ?_;repeat' first|exact zt|apply zan|intro hc
   all_goals exact hL _ (n,r + 1,j) (Qe []) ⟨by simp only;omega,by simp only;omega,by simp only;omega,h4⟩ (by simp only;omega) (zwg [])
 ·have e1:decide ((i:Int) < (j:Int)) = false:=zp (by omega)
  have hbi:bsI Op.bytesLess l x = i:=by
   rw [← h4]
   rcases n with _|n
   ·rfl
   ·rw [aiJ,if_neg hij]
  rw [hbi]
  by_cases hil:i < l.length
  ·have e2:decide ((i:Int) < (l.length:Int)) = true:=zo (by omega)
   obtain ⟨y,hy⟩:∃ y,l[i]? = some y:=⟨_,zd hil⟩
   have hf:J0 l i x = (y == x):=by simp only [J0,hy]
   have p2:=(z1 y).b
   rw [hf]
   rcases hyx:y == x with _|_
   ·(have zx:=za e1 (za e2 (za hyx hy)));exact zg
   ·(have zx:=za e1 (za e2 (za hyx hy)));exact zg
  ·have e2:decide ((i:Int) < (l.length:Int)) = false:=zp (by omega)
   have hf:J0 l i x = false:=by rw [J0,zX (by omega)]
   rw [hf]
   (have zx:=za e1 e2);exact zg
def ltJ (x y:Int):Bool:=decide (x < y)
def acx {α:Type} [BEq α] (lt:α→α→Bool) (l:List α) (x:α):List α :=
 if J0 l (bsI lt l x) x = true then l else l.take (bsI lt l x)++x :: l.drop (bsI lt l x)
def Y0 (Γ:Env) (f:Nat):Prop:=((∀ (xs:List (List UInt8)) (i:Nat) (x:List UInt8),i≤xs.length→0 < xs.length→xs.length < 2 ^ 30→asR Γ f (V.int i) 1 (xs.map V.str) [V.str x] ((xs.take i++x :: xs.drop i).map V.str))∧(∀ x:List UInt8,EvW Γ f [aa1,V.int 0,.sl 1 [V.str x]] 1 [V.str x]))
def Jg:=qd Proofs.Tryz.f86 []
def YX (Γ:Env) (f:Nat):Prop:=((∀ (xs:List (List UInt8)) (x:List UInt8),0 < xs.length→xs.length < 2 ^ 30→J0 xs (bsI Op.bytesLess xs x) x = true→EvX Γ f [V.str x] 1 (xs.map V.str))∧(∀ (xs:List (List UInt8)) (x:List UInt8),0 < xs.length→xs.length < 2 ^ 30→J0 xs (bsI Op.bytesLess xs x) x = false→EvI Γ f [V.str x] 1 (xs.map V.str) ((acx Op.bytesLess xs x).map V.str))∧(∀ x:List UInt8,EvW Γ f [aa1,V.str x] 1 [V.str x]))
theorem jH {Γ:Env} {f:Nat} (h:Has Γ.P f 20 Jg.1.1.ac Jg.1.2) (z0:Jt Γ 108) (z1:Y0 Γ 109):YX Γ f:=by
 obtain ⟨hI,hW⟩:=z1
 refine ⟨fun xs x h0 hl hf=>?_,fun xs x h0 hl hf=>?_,fun x=>?_⟩
 ·refine qr h (by simp) fun C hC hm=>?_
  subst hC
  simp only [Jg,qd,DC.ac]
  have hb:=(z0 xs x (by omega)).b
  rw [hf] at hb
  have ht:List.take (xs.map V.str).length (xs.map V.str) = xs.map V.str:=zR
  (have zx:=ht);refine zgo ?_;repeat' first|exact zt|apply zan|intro hc
  all_goals first|(refine ah9 _ rfl rfl rfl ?_;first|rfl|(simp;done))
 ·refine ad5 h (by simp) fun C hC hm=>?_
  subst hC
  simp only [Jg,qd,DC.ac]
  have hb:=(z0 xs x (by omega)).b
  have hi:=hI xs (bsI Op.bytesLess xs x) x aip h0 hl
  rw [acx,if_neg (by rw [hf];decide)]
  rw [hf] at hb
  have ht:List.take (xs.map V.str).length (xs.map V.str) = xs.map V.str:=zR
  generalize bsI Op.bytesLess xs x = i at *
  repeat' (first|(refine zsk ?_;intro K' hK)|refine zsp ?_|(refine zsc ?_ ?_<;>intro hc<;>first|exact znh|try simp only [znz] at hc)|simp (maxSteps:=1000000) only [go_sem,ht]|(refine hK _ ?_;clear hK K')|apply zan|(apply aiu;(focus exact rfl);(focus first|exact hi);(focus exact rfl);(focus exact rfl);(focus (first|exact rfl|(simp;done))))|(apply aen;(focus exact rfl);(focus exact rfl);(focus first|exact hi);(focus exact rfl);(focus (first|exact rfl|(simp;done)));(focus (first|exact rfl|(simp;done))))|(apply QF;(focus first|exact hb|exact (z0 _ _ zsd).b))|exact zsq|fail)
  all_goals first|(refine aqh _ _ rfl ⟨_,rfl⟩ rfl (by omega) rfl ?_;first|rfl|(simp;done))
 ·refine XX h (by simp) (by intro y hy;rw [zv.1 hy];simp only [V.noSl]) fun C hC hm=>?_
  subst hC
  simp only [Jg,qd,DC.ac]
  have hb:=(z0 [] x (by simp)).b
  have hw:=hW x
  simp only [zK] at hb
  have hb:=hb.le2 (LeV.nil 1) (LeV.refl _)
  refine zgo ?_;repeat' first|exact zt|apply zan|intro hc
  all_goals first|(refine yc (xs:=[V.str x]) _ _ rfl ?_ ?_<;>first|rfl|(simp;done))
end Av
end
