/- The program's code, reckoned in place. -/
import Derived.Test.YtjobognfgjobfaaGreatDoorK11
import Derived.Test.YtjobognfgjobfaaGreatDoorProg
set_option linter.unusedVariables false
set_option linter.unusedSimpArgs false
section
namespace Av
open Go
noncomputable def qd (fn:Func) (hs:List RH) {x:AC×List Uh} {d:DC×List Uh} (h1:dC Proofs.Tryz.prog fn = some x:=by cbv) (h2:dD x hs = d:=by cbv):QD Proofs.Tryz.prog fn hs:=⟨d,ayH h1 h2⟩
end Av
end
section
namespace Av
open Go
theorem ant {α:Type} {p:α→Prop} {a:α} {l:List α}:(∀ x∈a :: l,p x)↔(p a∧∀ x∈l,p x):=by simp
theorem apY {α:Type} {p:α→Prop}:(∀ x∈([]:List α),p x)↔True:=by simp
theorem zsd {p:Prop} (h:p:=by first|assumption|omega|(simp;done)):p:=h
theorem zlo {p:Prop} (h:p:=by simp only [zv,List.length_cons,List.length_nil,zb,Nat.reducePow,Nat.reduceAdd];omega):p:=h
theorem zms {α:Type} {a:α}:a∈[a]:=List.mem_singleton_self _
theorem zsk {p q:Prop} (k:q) (h:q→p:=by first|exact aer|exact aur):p:=h k
theorem zsp {p q:Prop} (k:q) (h:q→p:=by first|exact ab6|exact ao3|exact amy|exact awE|exact auu):p:=h k
theorem zsc {p a b:Prop} (k:a) (l:b) (h:a→b→p:=by first|exact fun k l=>ahi ⟨_,rfl,k,l⟩|exact awJ|exact awK):p:=h k l
theorem znh {p:Prop} (h:p:=by first|(cases hc;done)|((try simp only [znz] at hc);exact znf)|fail):p:=h
theorem zan {a b:Prop} (x:a) (y:b):a∧b:=⟨x,y⟩
section
variable {g q:Prop} {L:List Nat} {ot:OT} {p:OP} {ops:List AO} {ahead:List (List Nat)}
end
theorem zsq {p:Prop} (h:p:=by first|exact zlo|omega|exact zms):p:=h
theorem znf {p:Prop} (h:p:=by first|(exfalso;simp only [zb] at hc;omega)|(exfalso;omega)):p:=h
theorem znz:(∀ {p:Prop} [Decidable p],(decide p = true) = p)∧(∀ {p:Prop} [Decidable p],(decide p = false) = ¬ p)∧(∀ {α:Type} [BEq α] [LawfulBEq α] {a b:α},((a == b) = true) = (a = b)) ∧
  (∀ {α:Type} [BEq α] [LawfulBEq α] {a b:α},((a == b) = false) = ¬ (a = b))∧(∀ {α:Type} {a b:α},(a≠b) = ¬ (a = b))∧(∀ {b:Bool},((!b) = true) = (b = false))∧(∀ {b:Bool},((!b) = false) = (b = true)) :=
 ⟨propext decide_eq_true_iff,propext zF,propext kx,propext kM,rfl,Zp _,Bool.not_eq_false' _⟩
theorem zwl:(∀ {p:Prop},(p∧True) = p)∧(∀ {p:Prop},(True∧p) = p)∧(∀ {α:Type},(α→True) = True)∧(∀ {p:Prop},(p→True) = True)∧(∀ {α:Type} {a b:α},(some a = some b) = (a = b))∧(∀ {α:Type} {p:α→Prop} {a:α},(∃ b,a = b∧p b) = p a) ∧
  (∀ (σ:Nat→Nat) (cs:List V),Qb cs→Ks σ cs = cs)∧(∀ (σ:Nat→Nat) (v:V),v.closed→v.ren σ = v) :=
 ⟨and_true _,true_and _,implies_true _,implies_true _,zf _ _,propext exists_eq_left',Qy,J6⟩
theorem zcc {p:Prop} (h:p:=by first|((repeat' (first|rfl|apply za|omega|exact fun h=>h|exact Exists.intro _ rfl));done)|fail):p:=h
theorem zwa {p:Prop} (h:p:=by first|(simp only [go_sem,zwl,Nat.reduceAdd,Nat.reduceMul,Nat.reduceEqDiff,Nat.reduceLT,Int.reduceToNat,reduceIte,reduceCtorEq];(repeat' (first|rfl|apply za|omega|exact fun h=>h|exact Exists.intro _ rfl));done)|fail):p:=h
theorem zwg {m n:Nat} {s:St} (tau:List (Nat×Nat)) {ts:List (Nat×V)} {os:List (Nat×Ob)}
  (ht:∀ p∈ts,s.t p.1 = p.2.ren (Qd tau)∧p.2.lt n:=by exact zwa)
  (ho:∀ p∈os,p.1 < n∧∃ x,s.o (Qd tau p.1) = some x∧x.weak (Qd tau) n p.2:=by exact zwa)
  (hn:(os.map fun p=>Qd tau p.1).Nodup:=by first|(simp;done)|(simp [Qd];done)|fail) (hf:∀ p∈tau,m≤p.1:=by first|(simp;done)|(simp;omega)|fail) (hm:m≤n:=by omega):anX m (Qd tau) s (QS ts os n):=Qh tau ht ho hn hf hm
theorem zcd {p:Prop} (h:p:=by first|(simp only [V.closed,Qb,and_self,and_true,true_and];done)|fail):p:=h
theorem zr {p:Prop} (h:p:=by first|(refine Qg _ rfl ?_;simp only [go_sem,Nat.reduceEqDiff,Nat.reduceAdd,reduceIte,reduceCtorEq];done)|fail):p:=h
theorem zrd {p:Prop} (h:p:=by first|exact rfl|decide):p:=h
theorem zro {p:Prop} (h:p:=by first|exact rfl|omega|(simp;done)|fail):p:=h
structure EvB (Γ:Env) (f:FuncId) (args:List V) (res:V) (B:Option (List Nat)):Prop where
 ev:Ev Γ f args [] res []
 cl:res.closed
 sh:(B = none∧res.noSl)∨B = some []
theorem EvN.b {Γ:Env} {f:FuncId} {args:List V} {res:V} (h:EvN Γ f args res):EvB Γ f args res none:=⟨h.1,h.2.1,.inl ⟨rfl,h.2.2⟩⟩
theorem EvC.b {Γ:Env} {f:FuncId} {args:List V} {res:V} (h:EvC Γ f args res):EvB Γ f args res (some []):=⟨h.1,h.2,.inr rfl⟩
section
variable {Γ:Env} {A W:Nat→Bool} {b:Nat} {r:List AO} {s:St} {d:Option Nat} {f:FuncId} {acts:List V} {res:V} {J K:St→Prop} {B:Option (List Nat)}
theorem ayX (h:EvB Γ f (Yj s.o acts) res B) (hc:Qw s.o B acts) (hk:WC Γ (b + KK) r { t:=(s.put d res).t,o:=s.o,n:=s.n } K):awC Γ b r s d f acts K:=by
 obtain ⟨h1,h2,⟨rfl,h3⟩|rfl⟩:=h
 ·exact ayS hc ⟨h1,h2,h3⟩ hk
 ·exact ayW hc ⟨h1,h2⟩ hk
theorem ax3 (h:EvB Γ f (Yj (Yd A s.o) acts) res B) (hc:Qw (Yd A s.o) B acts) (hk:J { t:=(s.put d res).t,o:=s.o,n:=s.n }):Jk Γ A W b s d f acts J:=by
 obtain ⟨h1,h2,⟨rfl,h3⟩|rfl⟩:=h
 ·exact ax0 hc ⟨h1,h2,h3⟩ hk
 ·exact ax2 hc ⟨h1,h2⟩ hk
def aet (Γ:Env) (b:Nat) (r:List AO) (s:St) (d:Option Nat) (f:FuncId) (acts args:List V) (okf:Option (List Nat)→Prop) (K:St→Prop):Prop :=
 args = Yj s.o acts→okf = (fun B=>Qw s.o B acts)→awC Γ b r s d f acts K
def ai4 (Γ:Env) (A W:Nat→Bool) (b:Nat) (s:St) (d:Option Nat) (f:FuncId) (acts args:List V) (okf:Option (List Nat)→Prop) (J:St→Prop):Prop :=
 args = Yj (Yd A s.o) acts→okf = (fun B=>Qw (Yd A s.o) B acts)→Jk Γ A W b s d f acts J
@[go_sem] theorem azj:awC Γ b r s d f acts K = aet Γ b r s d f acts (Yj s.o acts) (fun B=>Qw s.o B acts) K:=propext ⟨fun h _ _=>h,fun h=>h rfl rfl⟩
@[go_sem] theorem ay3:Jk Γ A W b s d f acts J = ai4 Γ A W b s d f acts (Yj (Yd A s.o) acts) (fun B=>Qw (Yd A s.o) B acts) J:=propext ⟨fun h _ _=>h,fun h=>h rfl rfl⟩
theorem QA {args:List V} {okf:Option (List Nat)→Prop} (h:EvB Γ f args res B) (hc:okf B) (hk:WC Γ (b + KK) r { t:=(s.put d res).t,o:=s.o,n:=s.n } K):aet Γ b r s d f acts args okf K:=by
 rintro rfl rfl;exact ayX h hc hk
theorem Q3 {args:List V} {okf:Option (List Nat)→Prop} (h:EvB Γ f args res B) (hc:okf B) (hk:J { t:=(s.put d res).t,o:=s.o,n:=s.n }):ai4 Γ A W b s d f acts args okf J:=by
 rintro rfl rfl;exact ax3 h hc hk
end
mutual
theorem anP (o:Nat→Option Ob):∀ v:V,v.closed→v.shut o = v
 | .top,_=>by simp only [V.shut]
 | .sc _,_=>by simp only [V.shut]
 | .nn,_=>by simp only [V.shut]
 | .sl _ _,_=>by simp only [V.shut]
 | .hd _ _ _,h=>h.elim
 | .ptr _ _,h=>h.elim
 | .ept _ _ _,h=>h.elim
 | .mp _,h=>h.elim
 | .ro _ _,_=>by simp only [V.shut]
 | .agg cs,h=>by simp only [V.shut];rw [Yg o cs h]
 | .tup cs,h=>by simp only [V.shut];rw [Yg o cs h]
 | .clo _ cs,h=>by simp only [V.shut];rw [Yg o cs h]
theorem Yg (o:Nat→Option Ob):∀ cs:List V,Qb cs→Yj o cs = cs
 | [],_=>by simp only [Yj]
 | v :: r,h=>by simp only [Yj];rw [anP o v h.1,Yg o r h.2]
end
mutual
theorem akM (o:Nat→Option Ob) (B:Option (List Nat)):∀ v:V,v.closed→v.shutOk o B
 | .top,_=>by simp only [V.shutOk]
 | .sc _,_=>by simp only [V.shutOk]
 | .nn,_=>by simp only [V.shutOk]
 | .sl _ _,_=>by simp only [V.shutOk]
 | .hd _ _ _,h=>h.elim
 | .ptr _ _,h=>h.elim
 | .ept _ _ _,h=>h.elim
 | .mp _,h=>h.elim
 | .ro _ _,_=>by simp only [V.shutOk]
 | .agg cs,h=>by simp only [V.shutOk];exact Jz o B cs h
 | .tup cs,h=>by simp only [V.shutOk];exact Jz o B cs h
 | .clo _ cs,h=>by simp only [V.shutOk];exact Jz o B cs h
theorem Jz (o:Nat→Option Ob) (B:Option (List Nat)):∀ cs:List V,Qb cs→Qw o B cs
 | [],_=>by simp only [Qw]
 | v :: r,h=>by simp only [Qw];exact ⟨akM o B v h.1,Jz o B r h.2⟩
end
@[go_sem] def mv (d x:Nat):AO:=⟨some d,.mov (.t x),none⟩
@[go_sem] def mc (d:Nat) (v:V):AO:=⟨some d,.mov (.c v),none⟩
@[go_sem] def mg (d x g:Nat) (q:Bool):AO:=⟨some d,.mov (.t x),some (g,q)⟩
@[go_sem] def ld (d s x:Nat):AO:=⟨some d,.load false s (.t x),none⟩
@[go_sem] def ia (d s x i:Nat):AO:=⟨some d,.iaddr s (.t x) (.t i),none⟩
@[go_sem] def fa (d o x:Nat):AO:=⟨some d,.faddr o (.t x),none⟩
@[go_sem] def nk (d x:Nat):AO:=⟨some d,.nilck (.t x),none⟩
@[go_sem] def ex (d x i:Nat):AO:=⟨some d,.ext (.t x) i,none⟩
@[go_sem] def ln (d x:Nat):AO:=⟨some d,.lenL (.t x),none⟩
@[go_sem] def bn (d:Nat) (op:BinOp) (x y:Nat):AO:=⟨some d,.bin op (.t x) (.t y),none⟩
@[go_sem] def bc (d:Nat) (op:BinOp) (x:Nat) (v:V):AO:=⟨some d,.bin op (.t x) (.c v),none⟩
@[go_sem] def cl (d f:Nat) (ts:List Nat):AO:=⟨some d,.call f (ts.map .t),none⟩
@[go_sem] def xo (d:Nat) (op:AOp):AO:=⟨some d,op,none⟩
@[go_sem] def xg (d:Nat) (op:AOp) (g:Nat) (q:Bool):AO:=⟨some d,op,some (g,q)⟩
@[go_sem] def xs (s a x:Nat):AO:=⟨none,.store s (.t a) (.t x),none⟩
inductive ZF:Prop→Prop
 | u:ZF True
 | t (p:Prop):ZF p
structure ZW (p:Prop):Prop where
 h:p
class RG (L:List Nat) (ot:OT) (p:outParam OP) (ops:List AO) (ahead:List (List Nat)) (N:outParam Nat) (fz:outParam (Nat→Bool)):Prop where
 l:ops.length = N
 o:okR ops ahead L ot = true
 p:aaf (ris ops ahead L) ot = p
section
variable {g q:Prop} {L:List Nat} {ot:OT} {p:OP} {ops:List AO} {ahead:List (List Nat)} {N:Nat} {fz:Nat→Bool} {C:Ctx} {nt:Nat} {s:St} {K:St→Prop} {E:Nat→St→Prop} {R:St→Prop} {ks:List Nat} {y:AC}
theorem ay7 [i:RG L ot p ops ahead N fz] (h:∀ K':St→Prop,(∀ s',AWp C nt y s' K E R→K' s')→wb C.env fz s.n (fun s'=>K' ((s'.wn (s.n + N * KK)).keep ks)) p s):AWp C nt (qP ks (aw0 L ot p ops ahead) y) s K E R:=ao4 N fz i.l i.o i.p h
theorem ay6 [i:RG L ot p ops ahead N fz] (h:∀ K':St→Prop,(∀ s',K s'→K' s')→wb C.env fz s.n (fun s'=>K' (s'.wn (s.n + N * KK))) p s):AWp C nt (aw0 L ot p ops ahead) s K E R:=ao5 N fz i.l i.o i.p h
end
theorem zrg {p q:Prop} (k:q) (h:q→p:=by first|exact ay7|exact ay6|exact fun k=>ay5 k|exact fun k=>ay4 k|fail):p:=h k
theorem zis {Γ:Env} {b:Nat} {r:List AO} {s:St} {d:Option Nat} {f:FuncId} {acts args:List V} {okf:Option (List Nat)→Prop} {K:St→Prop} (h:aet Γ b r s d f acts args okf K):aet Γ b r s d f acts args okf K:=h
theorem zir {Γ:Env} {A W:Nat→Bool} {b:Nat} {s:St} {d:Option Nat} {f:FuncId} {acts args:List V} {okf:Option (List Nat)→Prop} {J:St→Prop} (h:ai4 Γ A W b s d f acts args okf J):ai4 Γ A W b s d f acts args okf J:=h
theorem zsi {p:Prop} (h:p:=by first|(simp;done)|fail):p:=h
theorem zcl {p:Prop} (h:p:=by first|(simp only [V.closed,Qb,V.noSl,Wi,and_self,and_true,true_and];done)|fail):p:=h
theorem zse {p:Prop} (h:p:=by first|exact rfl|(simp;done)|omega|(simp only [zb];omega)|fail):p:=h
theorem zap {p:Prop} (h:p:=by first|(apply ih<;>exact zsd)|(apply z0<;>exact zsd)|(apply z1<;>exact zsd)|(apply z2<;>exact zsd)|(apply z3<;>exact zsd)|(apply z4<;>exact zsd)|(apply z5<;>exact zsd)|(apply z6<;>exact zsd)|(apply z7<;>exact zsd)|(apply z8<;>exact zsd)|(apply z9<;>exact zsd)|(apply z10<;>exact zsd)|(apply z11<;>exact zsd)|(apply z12<;>exact zsd)|(apply z13<;>exact zsd)|(apply z14<;>exact zsd)|(apply z15<;>exact zsd)|(apply z16<;>exact zsd)|(apply z17<;>exact zsd)|(apply z18<;>exact zsd)|(apply z19<;>exact zsd)|(apply z20<;>exact zsd)|(apply z21<;>exact zsd)|(apply z22<;>exact zsd)|(apply z23<;>exact zsd)|(apply z24<;>exact zsd)|(apply z25<;>exact zsd)|(apply z26<;>exact zsd)|(apply z27<;>exact zsd)|(apply z28<;>exact zsd)|(apply z29<;>exact zsd)|(apply z30<;>exact zsd)|(apply z31<;>exact zsd)|(apply z32<;>exact zsd)|(apply z33<;>exact zsd)|(apply z34<;>exact zsd)|(apply z35<;>exact zsd)|(apply z36<;>exact zsd)|(apply z37<;>exact zsd)|(apply z38<;>exact zsd)|(apply z39<;>exact zsd)|fail):p:=h
theorem zpc {p:Prop} (h:p:=by first|assumption|exact zap|fail):p:=h
theorem zca {Γ:Env} {f:FuncId} {args:List V} {res:V} {B:Option (List Nat)} (h:EvB Γ f args res B:=by first|assumption|(apply EvN.b;exact zap)|(apply EvC.b;exact zap)|fail):EvB Γ f args res B:=h
theorem zt {p:Prop} (h:p:=by first|exact trivial|exact fun _=>trivial|fail):p:=h
theorem zcx {p q:Prop} (h:p→q:=by (intro hc;(try simp only [znz] at hc);exact hc)):p→q:=h
theorem ayj {p:Prop} (h:p:=by first|((repeat' (first|(refine zsk ?_;intro K' hK)|refine zsp ?_|exact zbr hq|(refine zrg ?_;intro K' hK)|simp (maxSteps:=1000000) only [go_sem,zx,Int.toNat_natCast,zo,Nat.reduceAdd,Nat.reduceMul,Nat.reduceEqDiff,Nat.reduceLeDiff,Nat.reduceLT,Nat.reduceSub,Int.reduceEq,Int.reduceBEq,Int.reduceLT,Int.reduceLE,Int.reduceAdd,Int.reduceToNat,reduceIte,reduceCtorEq]|simp (maxSteps:=1000000) only [go_sem,Nat.reduceAdd,Nat.reduceMul,Nat.reduceEqDiff,Nat.reduceLeDiff,Nat.reduceLT,Nat.reduceSub,Int.reduceEq,Int.reduceBEq,Int.reduceLT,Int.reduceLE,Int.reduceAdd,Int.reduceToNat,reduceIte,reduceCtorEq]|(refine hK _ ?_;clear hK K')|apply zan|(apply QA;(focus exact zca))|(refine zis ?_;first|(apply Ko;(focus exact rfl);(focus exact zpc);(focus exact rfl);(focus exact rfl))|(apply wQ;(focus exact zpc))|(apply K0;(focus exact zpc))|(apply avd;(focus exact rfl);(focus exact zpc);(focus exact rfl);(focus exact rfl))|(apply avc;(focus exact rfl);(focus exact rfl);(focus exact zpc);(focus exact rfl);(focus exact rfl))|(apply avb;(focus exact rfl);(focus exact zpc);(focus exact rfl))|(apply au7;(focus exact rfl);(focus exact rfl);(focus exact rfl);(focus exact zpc);(focus exact rfl);(focus exact zse);(focus exact zse))|(apply ava;(focus exact rfl);(focus exact zpc);(focus exact rfl))|(apply au8;(focus exact rfl);(focus exact rfl);(focus exact zpc);(focus exact rfl))|(apply au9;(focus exact rfl);(focus exact zpc);(focus exact rfl))|(apply amB;(focus exact rfl);(focus exact zpc);(focus exact rfl);(focus exact zse))|(apply aaZ;(focus exact rfl);(focus exact zpc);(focus exact rfl);(focus exact zse)))|(refine zir ?_;first|(apply Q3;(focus exact zca))|(apply U4;(focus exact rfl);(focus exact zrd);(focus exact zrd);(focus exact zpc);(focus exact rfl);(focus exact rfl);(focus exact zrd))|(apply Vv;(focus exact zpc))|(apply asQ;(focus exact rfl);(focus exact rfl);(focus exact zrd);(focus exact zpc);(focus exact rfl);(focus exact rfl);(focus exact zrd))|(apply aaE;(focus exact zpc);(focus exact zrd)))|exact zsq|exact hq.h|fail));done)|fail):p:=h
theorem zbr {p a b ca cb da db qa qb:Prop} (hq:ZW ((da→qa)∧(db→qb))) (h:(ca→a)→(cb→b)→p:=by first|exact fun k l=>ahi ⟨_,rfl,k,l⟩|exact awJ|exact awK|fail)
  (ea:ca→da:=by exact zcx) (eb:cb→db:=by exact zcx)
  (ha:da→ZW qa→a:=by (first|(intro hc hq;first|exact znh|exact ayj)|fail))
  (hb:db→ZW qb→b:=by (first|(intro hc hq;first|exact znh|exact ayj)|fail))
  (h1:ZF qa:=by first|with_reducible exact ZF.u|exact ZF.t _) (h2:ZF qb:=by first|with_reducible exact ZF.u|exact ZF.t _):p:=h (fun c=>ha (ea c) ⟨hq.1.1 (ea c)⟩) (fun c=>hb (eb c) ⟨hq.1.2 (eb c)⟩)
theorem zgo {p q:Prop} (k:q) (h:ZW q→p:=by (first|(intro hq;exact ayj)|fail)) (h1:ZF q:=by first|with_reducible exact ZF.u|exact ZF.t _):p:=h ⟨k⟩
theorem zbx {p a b ca cb da db:Prop} (h:(ca→a)→(cb→b)→p:=by first|exact fun k l=>ahi ⟨_,rfl,k,l⟩|exact awJ|exact awK|fail)
  (ea:ca→da:=by exact zcx) (eb:cb→db:=by exact zcx)
  (ha:da→a:=by (first|(intro hc;first|exact znh|exact zg)|fail))
  (hb:db→b:=by (first|(intro hc;first|exact znh|exact zg)|fail)):p:=h (fun c=>ha (ea c)) (fun c=>hb (eb c))
theorem zg {p:Prop} (h:p:=by first|((repeat' (first|(refine zsk ?_;intro K' hK)|refine zsp ?_|exact zbx|(refine zrg ?_;intro K' hK)|simp (maxSteps:=1000000) only [go_sem,zx,Int.toNat_natCast,zo,Nat.reduceAdd,Nat.reduceMul,Nat.reduceEqDiff,Nat.reduceLeDiff,Nat.reduceLT,Nat.reduceSub,Int.reduceEq,Int.reduceBEq,Int.reduceLT,Int.reduceLE,Int.reduceAdd,Int.reduceToNat,reduceIte,reduceCtorEq]|simp (maxSteps:=1000000) only [go_sem,Nat.reduceAdd,Nat.reduceMul,Nat.reduceEqDiff,Nat.reduceLeDiff,Nat.reduceLT,Nat.reduceSub,Int.reduceEq,Int.reduceBEq,Int.reduceLT,Int.reduceLE,Int.reduceAdd,Int.reduceToNat,reduceIte,reduceCtorEq]|(refine hK _ ?_;clear hK K')|apply zan|(apply QA;(focus exact zca))|(refine zis ?_;first|(apply Ko;(focus exact rfl);(focus exact zpc);(focus exact rfl);(focus exact rfl))|(apply wQ;(focus exact zpc))|(apply K0;(focus exact zpc))|(apply avd;(focus exact rfl);(focus exact zpc);(focus exact rfl);(focus exact rfl))|(apply avc;(focus exact rfl);(focus exact rfl);(focus exact zpc);(focus exact rfl);(focus exact rfl))|(apply avb;(focus exact rfl);(focus exact zpc);(focus exact rfl))|(apply au7;(focus exact rfl);(focus exact rfl);(focus exact rfl);(focus exact zpc);(focus exact rfl);(focus exact zse);(focus exact zse))|(apply ava;(focus exact rfl);(focus exact zpc);(focus exact rfl))|(apply au8;(focus exact rfl);(focus exact rfl);(focus exact zpc);(focus exact rfl))|(apply au9;(focus exact rfl);(focus exact zpc);(focus exact rfl))|(apply amB;(focus exact rfl);(focus exact zpc);(focus exact rfl);(focus exact zse))|(apply aaZ;(focus exact rfl);(focus exact zpc);(focus exact rfl);(focus exact zse)))|(refine zir ?_;first|(apply Q3;(focus exact zca))|(apply U4;(focus exact rfl);(focus exact zrd);(focus exact zrd);(focus exact zpc);(focus exact rfl);(focus exact rfl);(focus exact zrd))|(apply Vv;(focus exact zpc))|(apply asQ;(focus exact rfl);(focus exact rfl);(focus exact zrd);(focus exact zpc);(focus exact rfl);(focus exact rfl);(focus exact zrd))|(apply aaE;(focus exact zpc);(focus exact zrd)))|exact zsq|exact zr|(simp only [*];exact zr)|(subst hc;exact zr)|fail));done)|fail):p:=h
theorem zc3 {p:Prop} (h:p:=by first|exact QG _ _|exact Qv.cells_closed _|exact XH _|simp only [V.closed,Qb,and_self,and_true,true_and]):p:=h
theorem zet {p:Prop} (h:p:=by first|(simp only [Nat.reduceAdd,ovT,Xs,Nat.reduceEqDiff,reduceIte,KA,xA,aqC,u32,u33,u34,u35,u36,u37,u38,u39,and_self,and_true,true_and];done)|(simp only [Nat.reduceAdd,ovT,Xs,Nat.reduceEqDiff,reduceIte,KA,xA,aqC,u32,u33,u34,u35,u36,u37,u38,u39,and_self,and_true,true_and];rfl)|fail):p:=h
theorem zoe {p:Prop} (h:p:=by intro a ha;simp only [u32,u33,u34,u35,u36,u37,u38,u39];repeat rw [if_neg (by omega)]):p:=h
theorem zlt {p:Prop} (h:p:=by intro i hi;simp only [ovT,Xs,Nat.reduceEqDiff,reduceIte];(repeat' first|exact ae0|refine abY ?_ ?_|simp only [V.lt,ltL,and_self,and_true]|omega)):p:=h
theorem zol {p:Prop} (h:p:=by repeat' first|exact atE|refine ank (by omega) (by simp only [Ob.lt,ltL,V.lt,and_self,and_true];try omega) ?_):p:=h
@[go_sem] abbrev vi0:Value:=.int .i64 0
@[go_sem] abbrev vs0:Value:=.string ⟨#[]⟩
@[go_sem] abbrev vn0:Value:=.slice none 0 0
def aoO:OP→List AO
 | .done=>[]
 | .one _ _ _ x t=>x :: aoO t
 | .or _ _ _ x t _=>x :: aoO t
def och:Nat→Nat→OT
 | _,0=>.done
 | i,n + 1=>.one i (och (i + 1) n)
@[go_sem] def oN (j:Nat) (x:AO) (t:OP):OP:=.one j false [] x t
attribute [go_sem] ant apY V.ren Ks Qd V.lt ltL Ob.weak KK
attribute [go_sem_proc] Int.reduceAdd Int.reduceBEq Int.reduceEq Int.reduceLE Int.reduceLT Int.reduceToNat Nat.reduceAdd Nat.reduceEqDiff Nat.reduceLT Nat.reduceLeDiff Nat.reduceMul Nat.reduceSub reduceCtorEq reduceIte
end Av
end
