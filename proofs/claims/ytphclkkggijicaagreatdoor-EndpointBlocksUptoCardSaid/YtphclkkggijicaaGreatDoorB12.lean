/- The program's code, reckoned in place. -/
import Derived.Test.YtphclkkggijicaaGreatDoorB11
import Derived.Test.YtphclkkggijicaaGreatDoorProg
import Derived.KernelRfl
set_option linter.unusedVariables false
set_option linter.unusedSimpArgs false
section
namespace Av
open Go
noncomputable def qd (fn:Func) (hs:List RH) {x:AC×List Uc} {d:DC×List Uc} (h1:dC Proofs.Tryz.prog fn = some x:=by cbv) (h2:dD x hs = d:=by cbv):QD Proofs.Tryz.prog fn hs:=⟨d,asd h1 h2⟩
end Av
end
section
namespace Av
open Go
theorem aiR {α:Type} {p:α→Prop} {a:α} {l:List α}:(∀ x∈a :: l,p x)↔(p a∧∀ x∈l,p x):=by simp
theorem akQ {α:Type} {p:α→Prop}:(∀ x∈([]:List α),p x)↔True:=by simp
theorem zsd {p:Prop} (h:p:=by first|assumption|omega|(simp;done)):p:=h
theorem zlo {p:Prop} (h:p:=by simp only [zF,List.length_cons,List.length_nil,zh,Nat.reducePow,Nat.reduceAdd];omega):p:=h
theorem zms {α:Type} {a:α}:a∈[a]:=List.mem_singleton_self _
theorem zsk {p q:Prop} (k:q) (h:q→p:=by first|exact aaw|exact aoI):p:=h k
theorem zsp {p q:Prop} (k:q) (h:q→p:=by first|exact aax|exact aj5|exact anb|exact aqC|exact aoL):p:=h k
theorem zsc {p a b:Prop} (k:a) (l:b) (h:a→b→p:=by first|exact fun k l=>acp ⟨_,rfl,k,l⟩|exact aqF|exact aqG):p:=h k l
theorem znh {p:Prop} (h:p:=by first|(cases hc;done)|((try simp only [znz] at hc);exact znf)|fail):p:=h
theorem zan {a b:Prop} (x:a) (y:b):a∧b:=⟨x,y⟩
section
variable {g q:Prop} {L:List Nat} {ot:OT} {p:OP} {ops:List AO} {ahead:List (List Nat)}
end
theorem zsq {p:Prop} (h:p:=by first|exact zlo|omega|exact zms):p:=h
theorem znf {p:Prop} (h:p:=by first|(exfalso;simp only [zh] at hc;omega)|(exfalso;omega)):p:=h
theorem znz:(∀ {p:Prop} [Decidable p],(decide p = true) = p)∧(∀ {p:Prop} [Decidable p],(decide p = false) = ¬ p)∧(∀ {α:Type} [BEq α] [LawfulBEq α] {a b:α},((a == b) = true) = (a = b)) ∧
  (∀ {α:Type} [BEq α] [LawfulBEq α] {a b:α},((a == b) = false) = ¬ (a = b))∧(∀ {α:Type} {a b:α},(a≠b) = ¬ (a = b))∧(∀ {b:Bool},((!b) = true) = (b = false))∧(∀ {b:Bool},((!b) = false) = (b = true)) :=
 ⟨propext decide_eq_true_iff,propext kQ,propext kC,propext kN,rfl,Bool.not_eq_true' _,Bool.not_eq_false' _⟩
theorem zwl:(∀ {p:Prop},(p∧True) = p)∧(∀ {p:Prop},(True∧p) = p)∧(∀ {α:Type},(α→True) = True)∧(∀ {p:Prop},(p→True) = True)∧(∀ {α:Type} {a b:α},(some a = some b) = (a = b))∧(∀ {α:Type} {p:α→Prop} {a:α},(∃ b,a = b∧p b) = p a) ∧
  (∀ (σ:Nat→Nat) (cs:List V),Qa cs→KS σ cs = cs)∧(∀ (σ:Nat→Nat) (v:V),v.closed→v.ren σ = v) :=
 ⟨and_true _,true_and _,implies_true _,implies_true _,zd _ _,propext exists_eq_left',Q0,Jx⟩
theorem zcc {p:Prop} (h:p:=by first|((repeat' (first|rfl|apply za|omega|exact fun h=>h|exact Exists.intro _ rfl));done)|fail):p:=h
theorem zwa {p:Prop} (h:p:=by first|(simp only [go_sem,zwl,Nat.reduceAdd,Nat.reduceMul,Nat.reduceEqDiff,Nat.reduceLT,Int.reduceToNat,reduceIte,reduceCtorEq];(repeat' (first|rfl|apply za|omega|exact fun h=>h|exact Exists.intro _ rfl));done)|fail):p:=h
theorem zwg {m n:Nat} {s:St} (tau:List (Nat×Nat)) {ts:List (Nat×V)} {os:List (Nat×Ob)}
  (ht:∀ p∈ts,s.t p.1 = p.2.ren (Qp tau)∧p.2.lt n:=by exact zwa)
  (ho:∀ p∈os,p.1 < n∧∃ x,s.o (Qp tau p.1) = some x∧x.weak (Qp tau) n p.2:=by exact zwa)
  (hn:(os.map fun p=>Qp tau p.1).Nodup:=by first|(simp;done)|(simp [Qp];done)|fail) (hf:∀ p∈tau,m≤p.1:=by first|(simp;done)|(simp;omega)|fail) (hm:m≤n:=by omega):ano m (Qp tau) s (Yo ts os n):=JS tau ht ho hn hf hm
theorem zcd {p:Prop} (h:p:=by first|(simp only [V.closed,Qa,and_self,and_true,true_and];done)|fail):p:=h
theorem zr {p:Prop} (h:p:=by first|(refine Qf _ rfl ?_;simp only [go_sem,Nat.reduceEqDiff,Nat.reduceAdd,reduceIte,reduceCtorEq];done)|fail):p:=h
theorem zrd {p:Prop} (h:p:=by first|exact rfl|decide):p:=h
theorem zro {p:Prop} (h:p:=by first|exact rfl|omega|(simp;done)|fail):p:=h
structure EvB (Γ:Env) (f:FuncId) (args:List V) (res:V) (B:Option (List Nat)):Prop where
 ev:Ev Γ f args [] res []
 cl:res.closed
 sh:(B = none∧res.noSl)∨B = some []
theorem EvN.b {Γ:Env} {f:FuncId} {args:List V} {res:V} (h:EvN Γ f args res):EvB Γ f args res none:=⟨h.1,h.2.1,.inl ⟨rfl,h.2.2⟩⟩
theorem EvC.b {Γ:Env} {f:FuncId} {args:List V} {res:V} (h:EvC Γ f args res):EvB Γ f args res (some []):=⟨h.1,h.2,.inr rfl⟩
section
variable {Γ:Env} {A W:Nat→Bool} {b:Nat} {r:List AO} {s:St} {d:Option Nat} {f:FuncId} {acts:List V} {res:V} {J K:St→Prop} {B:Option (List Nat)}
theorem asu (h:EvB Γ f (JH s.o acts) res B) (hc:Qu s.o B acts) (hk:W7 Γ (b + KK) r { t:=(s.put d res).t,o:=s.o,n:=s.n } K):awC Γ b r s d f acts K:=by
 obtain ⟨h1,h2,⟨rfl,h3⟩|rfl⟩:=h
 ·exact asq hc ⟨h1,h2,h3⟩ hk
 ·exact ast hc ⟨h1,h2⟩ hk
theorem arK (h:EvB Γ f (JH (Jt A s.o) acts) res B) (hc:Qu (Jt A s.o) B acts) (hk:J { t:=(s.put d res).t,o:=s.o,n:=s.n }):QP Γ A W b s d f acts J:=by
 obtain ⟨h1,h2,⟨rfl,h3⟩|rfl⟩:=h
 ·exact arH hc ⟨h1,h2,h3⟩ hk
 ·exact arJ hc ⟨h1,h2⟩ hk
def aii (Γ:Env) (b:Nat) (r:List AO) (s:St) (d:Option Nat) (f:FuncId) (acts args:List V) (okf:Option (List Nat)→Prop) (K:St→Prop):Prop :=
 args = JH s.o acts→okf = (fun B=>Qu s.o B acts)→awC Γ b r s d f acts K
def af8 (Γ:Env) (A W:Nat→Bool) (b:Nat) (s:St) (d:Option Nat) (f:FuncId) (acts args:List V) (okf:Option (List Nat)→Prop) (J:St→Prop):Prop :=
 args = JH (Jt A s.o) acts→okf = (fun B=>Qu (Jt A s.o) B acts)→QP Γ A W b s d f acts J
@[go_sem] theorem asM:awC Γ b r s d f acts K = aii Γ b r s d f acts (JH s.o acts) (fun B=>Qu s.o B acts) K:=propext ⟨fun h _ _=>h,fun h=>h rfl rfl⟩
@[go_sem] theorem asx:QP Γ A W b s d f acts J = af8 Γ A W b s d f acts (JH (Jt A s.o) acts) (fun B=>Qu (Jt A s.o) B acts) J:=propext ⟨fun h _ _=>h,fun h=>h rfl rfl⟩
theorem QC {args:List V} {okf:Option (List Nat)→Prop} (h:EvB Γ f args res B) (hc:okf B) (hk:W7 Γ (b + KK) r { t:=(s.put d res).t,o:=s.o,n:=s.n } K):aii Γ b r s d f acts args okf K:=by
 rintro rfl rfl;exact asu h hc hk
theorem Qr {args:List V} {okf:Option (List Nat)→Prop} (h:EvB Γ f args res B) (hc:okf B) (hk:J { t:=(s.put d res).t,o:=s.o,n:=s.n }):af8 Γ A W b s d f acts args okf J:=by
 rintro rfl rfl;exact arK h hc hk
end
mutual
theorem ai3 (o:Nat→Option Ob):∀ v:V,v.closed→v.shut o = v
 | .top,_=>by simp only [V.shut]
 | .sc _,_=>by simp only [V.shut]
 | .nn,_=>by simp only [V.shut]
 | .sl _ _,_=>by simp only [V.shut]
 | .hd _ _ _,h=>h.elim
 | .ptr _ _,h=>h.elim
 | .ept _ _ _,h=>h.elim
 | .mp _,h=>h.elim
 | .ro _ _,_=>by simp only [V.shut]
 | .agg cs,h=>by simp only [V.shut];rw [Jz o cs h]
 | .tup cs,h=>by simp only [V.shut];rw [Jz o cs h]
 | .clo _ cs,h=>by simp only [V.shut];rw [Jz o cs h]
theorem Jz (o:Nat→Option Ob):∀ cs:List V,Qa cs→JH o cs = cs
 | [],_=>by simp only [JH]
 | v :: r,h=>by simp only [JH];rw [ai3 o v h.1,Jz o r h.2]
end
mutual
theorem afZ (o:Nat→Option Ob) (B:Option (List Nat)):∀ v:V,v.closed→v.shutOk o B
 | .top,_=>by simp only [V.shutOk]
 | .sc _,_=>by simp only [V.shutOk]
 | .nn,_=>by simp only [V.shutOk]
 | .sl _ _,_=>by simp only [V.shutOk]
 | .hd _ _ _,h=>h.elim
 | .ptr _ _,h=>h.elim
 | .ept _ _ _,h=>h.elim
 | .mp _,h=>h.elim
 | .ro _ _,_=>by simp only [V.shutOk]
 | .agg cs,h=>by simp only [V.shutOk];exact Jb o B cs h
 | .tup cs,h=>by simp only [V.shutOk];exact Jb o B cs h
 | .clo _ cs,h=>by simp only [V.shutOk];exact Jb o B cs h
theorem Jb (o:Nat→Option Ob) (B:Option (List Nat)):∀ cs:List V,Qa cs→Qu o B cs
 | [],_=>by simp only [Qu]
 | v :: r,h=>by simp only [Qu];exact ⟨afZ o B v h.1,Jb o B r h.2⟩
end
@[go_sem] def mv (d x:Nat):AO:=⟨some d,.mov (.t x),none⟩
@[go_sem] def mc (d:Nat) (v:V):AO:=⟨some d,.mov (.c v),none⟩
@[go_sem] def mg (d x g:Nat) (q:Bool):AO:=⟨some d,.mov (.t x),some (g,q)⟩
@[go_sem] def ld (d s x:Nat):AO:=⟨some d,.load false s (.t x),none⟩
@[go_sem] def ia (d s x i:Nat):AO:=⟨some d,.iaddr s (.t x) (.t i),none⟩
@[go_sem] def fa (d o x:Nat):AO:=⟨some d,.faddr o (.t x),none⟩
@[go_sem] def nk (d x:Nat):AO:=⟨some d,.nilck (.t x),none⟩
@[go_sem] def ex (d x i:Nat):AO:=⟨some d,.ext (.t x) i,none⟩
@[go_sem] def ln (d x:Nat):AO:=⟨some d,.lenL (.t x),none⟩
@[go_sem] def bn (d:Nat) (op:BinOp) (x y:Nat):AO:=⟨some d,.bin op (.t x) (.t y),none⟩
@[go_sem] def bc (d:Nat) (op:BinOp) (x:Nat) (v:V):AO:=⟨some d,.bin op (.t x) (.c v),none⟩
@[go_sem] def cl (d f:Nat) (ts:List Nat):AO:=⟨some d,.call f (ts.map .t),none⟩
@[go_sem] def xo (d:Nat) (op:AOp):AO:=⟨some d,op,none⟩
@[go_sem] def xg (d:Nat) (op:AOp) (g:Nat) (q:Bool):AO:=⟨some d,op,some (g,q)⟩
@[go_sem] def xs (s a x:Nat):AO:=⟨none,.store s (.t a) (.t x),none⟩
inductive ZF:Prop→Prop
 | u:ZF True
 | t (p:Prop):ZF p
structure ZW (p:Prop):Prop where
 h:p
class RG (L:List Nat) (ot:OT) (p:outParam OP) (ops:List AO) (ahead:List (List Nat)) (N:outParam Nat) (fz:outParam (Nat→Bool)):Prop where
 l:ops.length = N
 o:okR ops ahead L ot = true
 p:jx (ris ops ahead L) ot = p
section
variable {g q:Prop} {L:List Nat} {ot:OT} {p:OP} {ops:List AO} {ahead:List (List Nat)} {N:Nat} {fz:Nat→Bool} {C:Ctx} {nt:Nat} {s:St} {K:St→Prop} {E:Nat→St→Prop} {R:St→Prop} {ks:List Nat} {y:AC}
theorem asB [i:RG L ot p ops ahead N fz] (h:∀ K':St→Prop,(∀ s',AWp C nt y s' K E R→K' s')→Kx C.env fz s.n (fun s'=>K' ((s'.wn (s.n + N * KK)).keep ks)) p s):AWp C nt (Ue ks (apO L ot p ops ahead) y) s K E R:=aj6 N fz i.l i.o i.p h
theorem asA [i:RG L ot p ops ahead N fz] (h:∀ K':St→Prop,(∀ s',K s'→K' s')→Kx C.env fz s.n (fun s'=>K' (s'.wn (s.n + N * KK))) p s):AWp C nt (apO L ot p ops ahead) s K E R:=aj7 N fz i.l i.o i.p h
end
theorem zrg {p q:Prop} (k:q) (h:q→p:=by first|exact asB|exact asA|exact fun k=>asz k|exact fun k=>asy k|fail):p:=h k
theorem zis {Γ:Env} {b:Nat} {r:List AO} {s:St} {d:Option Nat} {f:FuncId} {acts args:List V} {okf:Option (List Nat)→Prop} {K:St→Prop} (h:aii Γ b r s d f acts args okf K):aii Γ b r s d f acts args okf K:=h
theorem zir {Γ:Env} {A W:Nat→Bool} {b:Nat} {s:St} {d:Option Nat} {f:FuncId} {acts args:List V} {okf:Option (List Nat)→Prop} {J:St→Prop} (h:af8 Γ A W b s d f acts args okf J):af8 Γ A W b s d f acts args okf J:=h
theorem zsi {p:Prop} (h:p:=by first|(simp;done)|fail):p:=h
theorem zcl {p:Prop} (h:p:=by first|(simp only [V.closed,Qa,V.noSl,UJ,and_self,and_true,true_and];done)|fail):p:=h
theorem zse {p:Prop} (h:p:=by first|exact rfl|(simp;done)|omega|(simp only [zh];omega)|fail):p:=h
theorem zap {p:Prop} (h:p:=by first|(apply ih<;>exact zsd)|(apply z0<;>exact zsd)|(apply z1<;>exact zsd)|(apply z2<;>exact zsd)|(apply z3<;>exact zsd)|(apply z4<;>exact zsd)|(apply z5<;>exact zsd)|(apply z6<;>exact zsd)|(apply z7<;>exact zsd)|(apply z8<;>exact zsd)|(apply z9<;>exact zsd)|(apply z10<;>exact zsd)|(apply z11<;>exact zsd)|(apply z12<;>exact zsd)|(apply z13<;>exact zsd)|(apply z14<;>exact zsd)|(apply z15<;>exact zsd)|(apply z16<;>exact zsd)|(apply z17<;>exact zsd)|(apply z18<;>exact zsd)|(apply z19<;>exact zsd)|(apply z20<;>exact zsd)|(apply z21<;>exact zsd)|(apply z22<;>exact zsd)|(apply z23<;>exact zsd)|(apply z24<;>exact zsd)|(apply z25<;>exact zsd)|(apply z26<;>exact zsd)|(apply z27<;>exact zsd)|(apply z28<;>exact zsd)|(apply z29<;>exact zsd)|(apply z30<;>exact zsd)|(apply z31<;>exact zsd)|(apply z32<;>exact zsd)|(apply z33<;>exact zsd)|(apply z34<;>exact zsd)|(apply z35<;>exact zsd)|(apply z36<;>exact zsd)|(apply z37<;>exact zsd)|(apply z38<;>exact zsd)|(apply z39<;>exact zsd)|fail):p:=h
theorem zpc {p:Prop} (h:p:=by first|assumption|exact zap|fail):p:=h
theorem zca {Γ:Env} {f:FuncId} {args:List V} {res:V} {B:Option (List Nat)} (h:EvB Γ f args res B:=by first|assumption|(apply EvN.b;exact zap)|(apply EvC.b;exact zap)|fail):EvB Γ f args res B:=h
theorem zt {p:Prop} (h:p:=by first|exact trivial|exact fun _=>trivial|fail):p:=h
theorem zcx {p q:Prop} (h:p→q:=by (intro hc;(try simp only [znz] at hc);exact hc)):p→q:=h
theorem arZ {p:Prop} (h:p:=by first|((repeat' (first|(refine zsk ?_;intro K' hK)|refine zsp ?_|exact zbr hq|(refine zrg ?_;intro K' hK)|simp (maxSteps:=1000000) only [go_sem,zx,Int.toNat_natCast,zq,Nat.reduceAdd,Nat.reduceMul,Nat.reduceEqDiff,Nat.reduceLeDiff,Nat.reduceLT,Nat.reduceSub,Int.reduceEq,Int.reduceBEq,Int.reduceLT,Int.reduceLE,Int.reduceAdd,Int.reduceToNat,reduceIte,reduceCtorEq]|simp (maxSteps:=1000000) only [go_sem,Nat.reduceAdd,Nat.reduceMul,Nat.reduceEqDiff,Nat.reduceLeDiff,Nat.reduceLT,Nat.reduceSub,Int.reduceEq,Int.reduceBEq,Int.reduceLT,Int.reduceLE,Int.reduceAdd,Int.reduceToNat,reduceIte,reduceCtorEq]|(refine hK _ ?_;clear hK K')|apply zan|(apply QC;(focus exact zca))|(refine zis ?_;first|(apply XH;(focus exact rfl);(focus exact zpc);(focus exact rfl);(focus exact rfl))|(apply Vo;(focus exact zpc))|(apply jG;(focus exact zpc))|(apply aps;(focus exact rfl);(focus exact zpc);(focus exact rfl);(focus exact rfl))|(apply akf;(focus exact rfl);(focus exact rfl);(focus exact zpc);(focus exact rfl);(focus exact rfl))|(apply anf;(focus exact rfl);(focus exact zpc);(focus exact rfl))|(apply apq;(focus exact rfl);(focus exact rfl);(focus exact rfl);(focus exact zpc);(focus exact rfl);(focus exact zse);(focus exact zse))|(apply apr;(focus exact rfl);(focus exact zpc);(focus exact rfl);(focus exact zse)))|(refine zir ?_;first|(apply Qr;(focus exact zca))|(apply Ye;(focus exact rfl);(focus exact zrd);(focus exact zrd);(focus exact zpc);(focus exact rfl);(focus exact rfl);(focus exact zrd))|(apply V1;(focus exact zpc))|(apply af7;(focus exact rfl);(focus exact rfl);(focus exact zrd);(focus exact zpc);(focus exact rfl);(focus exact rfl);(focus exact zrd))|(apply Y5;(focus exact zpc);(focus exact zrd)))|exact zsq|exact hq.h|fail));done)|fail):p:=h
theorem zbr {p a b ca cb da db qa qb:Prop} (hq:ZW ((da→qa)∧(db→qb))) (h:(ca→a)→(cb→b)→p:=by first|exact fun k l=>acp ⟨_,rfl,k,l⟩|exact aqF|exact aqG|fail)
  (ea:ca→da:=by exact zcx) (eb:cb→db:=by exact zcx)
  (ha:da→ZW qa→a:=by (first|(intro hc hq;first|exact znh|exact arZ)|fail))
  (hb:db→ZW qb→b:=by (first|(intro hc hq;first|exact znh|exact arZ)|fail))
  (h1:ZF qa:=by first|with_reducible exact ZF.u|exact ZF.t _) (h2:ZF qb:=by first|with_reducible exact ZF.u|exact ZF.t _):p:=h (fun c=>ha (ea c) ⟨hq.1.1 (ea c)⟩) (fun c=>hb (eb c) ⟨hq.1.2 (eb c)⟩)
theorem zgo {p q:Prop} (k:q) (h:ZW q→p:=by (first|(intro hq;exact arZ)|fail)) (h1:ZF q:=by first|with_reducible exact ZF.u|exact ZF.t _):p:=h ⟨k⟩
theorem zbx {p a b ca cb da db:Prop} (h:(ca→a)→(cb→b)→p:=by first|exact fun k l=>acp ⟨_,rfl,k,l⟩|exact aqF|exact aqG|fail)
  (ea:ca→da:=by exact zcx) (eb:cb→db:=by exact zcx)
  (ha:da→a:=by (first|(intro hc;first|exact znh|exact zg)|fail))
  (hb:db→b:=by (first|(intro hc;first|exact znh|exact zg)|fail)):p:=h (fun c=>ha (ea c)) (fun c=>hb (eb c))
theorem zg {p:Prop} (h:p:=by first|((repeat' (first|(refine zsk ?_;intro K' hK)|refine zsp ?_|exact zbx|(refine zrg ?_;intro K' hK)|simp (maxSteps:=1000000) only [go_sem,zx,Int.toNat_natCast,zq,Nat.reduceAdd,Nat.reduceMul,Nat.reduceEqDiff,Nat.reduceLeDiff,Nat.reduceLT,Nat.reduceSub,Int.reduceEq,Int.reduceBEq,Int.reduceLT,Int.reduceLE,Int.reduceAdd,Int.reduceToNat,reduceIte,reduceCtorEq]|simp (maxSteps:=1000000) only [go_sem,Nat.reduceAdd,Nat.reduceMul,Nat.reduceEqDiff,Nat.reduceLeDiff,Nat.reduceLT,Nat.reduceSub,Int.reduceEq,Int.reduceBEq,Int.reduceLT,Int.reduceLE,Int.reduceAdd,Int.reduceToNat,reduceIte,reduceCtorEq]|(refine hK _ ?_;clear hK K')|apply zan|(apply QC;(focus exact zca))|(refine zis ?_;first|(apply XH;(focus exact rfl);(focus exact zpc);(focus exact rfl);(focus exact rfl))|(apply Vo;(focus exact zpc))|(apply jG;(focus exact zpc))|(apply aps;(focus exact rfl);(focus exact zpc);(focus exact rfl);(focus exact rfl))|(apply akf;(focus exact rfl);(focus exact rfl);(focus exact zpc);(focus exact rfl);(focus exact rfl))|(apply anf;(focus exact rfl);(focus exact zpc);(focus exact rfl))|(apply apq;(focus exact rfl);(focus exact rfl);(focus exact rfl);(focus exact zpc);(focus exact rfl);(focus exact zse);(focus exact zse))|(apply apr;(focus exact rfl);(focus exact zpc);(focus exact rfl);(focus exact zse)))|(refine zir ?_;first|(apply Qr;(focus exact zca))|(apply Ye;(focus exact rfl);(focus exact zrd);(focus exact zrd);(focus exact zpc);(focus exact rfl);(focus exact rfl);(focus exact zrd))|(apply V1;(focus exact zpc))|(apply af7;(focus exact rfl);(focus exact rfl);(focus exact zrd);(focus exact zpc);(focus exact rfl);(focus exact rfl);(focus exact zrd))|(apply Y5;(focus exact zpc);(focus exact zrd)))|exact zsq|exact zr|(simp only [*];exact zr)|(subst hc;exact zr)|fail));done)|fail):p:=h
theorem zc3 {p:Prop} (h:p:=by first|exact Qh _ _|exact PDraft.cells_closed _|exact agT _|simp only [V.closed,Qa,and_self,and_true,true_and]):p:=h
theorem zet {p:Prop} (h:p:=by first|(simp only [Nat.reduceAdd,ovT,Jn,Nat.reduceEqDiff,reduceIte,Xk,W8,aiv,u32,u33,u34,u35,u36,u37,u38,u39,and_self,and_true,true_and];done)|(simp only [Nat.reduceAdd,ovT,Jn,Nat.reduceEqDiff,reduceIte,Xk,W8,aiv,u32,u33,u34,u35,u36,u37,u38,u39,and_self,and_true,true_and];rfl)|fail):p:=h
theorem zoe {p:Prop} (h:p:=by intro a ha;simp only [u32,u33,u34,u35,u36,u37,u38,u39];repeat rw [if_neg (by omega)]):p:=h
theorem zlt {p:Prop} (h:p:=by intro i hi;simp only [ovT,Jn,Nat.reduceEqDiff,reduceIte];(repeat' first|exact wX|refine jZ ?_ ?_|simp only [V.lt,ltL,and_self,and_true]|omega)):p:=h
theorem zol {p:Prop} (h:p:=by repeat' first|exact ajB|refine aiL (by omega) (by simp only [Ob.lt,ltL,V.lt,and_self,and_true];try omega) ?_):p:=h
@[go_sem] abbrev vi0:Value:=.int .i64 0
@[go_sem] abbrev vs0:Value:=.string ⟨#[]⟩
@[go_sem] abbrev vn0:Value:=.slice none 0 0
def aoO:OP→List AO
 | .done=>[]
 | .one _ _ _ x t=>x :: aoO t
 | .or _ _ _ x t _=>x :: aoO t
def och:Nat→Nat→OT
 | _,0=>.done
 | i,n + 1=>.one i (och (i + 1) n)
@[go_sem] def oN (j:Nat) (x:AO) (t:OP):OP:=.one j false [] x t
attribute [go_sem] aiR akQ V.ren KS Qp V.lt ltL Ob.weak KK
end Av
end
noncomputable section
set_option maxRecDepth 10000
set_option maxHeartbeats 4000000
namespace Av
open Go
attribute [local irreducible] AWp W7 Kx jy awS awC vE awQ aay QP W6 vu awR Vn awB okR jx ris
def apf (a n:Int):Int:=if n < 1 then 0 else (IntKind.i64.wrap (a.tmod n + n)).tmod n
def wo:=qd Proofs.Tryz.f34 []
def vz (Γ:Env) (f:Nat):Prop:=∀ (a n:Int),EvN Γ f [V.int a,V.int n] (V.int (apf a n))
theorem aiW {Γ:Env} {f:Nat} (h:Has Γ.P f 14 wo.1.1.ac wo.1.2) :vz Γ f:=by
 intro a n
 refine Qb h zsi zcl zcl fun C hC hm=>?_
 subst hC
 simp only [wo,qd,DC.ac]
 refine zgo ?_;repeat' first|exact zt|apply zan|intro hc
 ·refine Qf _ rfl ?_
  simp only [go_sem,Nat.reduceEqDiff,Nat.reduceAdd,reduceIte,reduceCtorEq]
  simp [apf,hc]
 ·refine Qf _ rfl ?_
  simp only [go_sem,Nat.reduceEqDiff,Nat.reduceAdd,reduceIte,reduceCtorEq]
  simp [apf,hc]
def XO (x:Int):Nat→List Int→Int
 | _,[]=>-1
 | k,y :: r=>if x = y then k else XO x (k + 1) r
def JX:=qd Proofs.Tryz.f163 []
def JP (Γ:Env) (f:Nat):Prop:=∀ (l:List Int) (x:Int) (hl:l.length < 2 ^ 62),EvN Γ f [.sl 1 (l.map V.int),V.int x] (V.int (XO x 0 l))
theorem qP {Γ:Env} {f:Nat} (h:Has Γ.P f 19 JX.1.1.ac JX.1.2) :JP Γ f:=by
 intro l x hl
 refine Qb h zsi zcl zcl fun C hC hm=>?_
 subst hC
 simp only [JX,qd,DC.ac]
 refine zgo ?_;repeat' first|exact zt|apply zan|intro hc
 refine Qt (ι:=Nat) (fun k=>k≤l.length∧XO x k (l.drop k) = XO x 0 l) (fun k=>[(8,V.int k)]) (fun k=>l.length - k) 0 (by omega) ⟨by simp,by simp⟩ zol zlt zet fun k hk K' hL=>?_
 obtain ⟨hk,hinv⟩:=hk
 simp only [ovT,Jn,Nat.reduceEqDiff,reduceIte]
 rcases hd:l.drop k with _|⟨y,r⟩
 ·have:=Qj hd
  rw [hd] at hinv
  refine zgo ?_;repeat' first|exact zt|apply zan|intro hc
  refine Qf _ rfl ?_
  simp only [go_sem,Nat.reduceEqDiff,Nat.reduceAdd,reduceIte,reduceCtorEq]
  rw [← hinv];rfl
 ·obtain ⟨hk,hget,hr⟩:=Qe hd
  rw [hd] at hinv
  have hw:=Qd (k:=k) (by omega)
  (have zx:=za hget hw);refine zgo ?_;repeat' first|exact zt|apply zan|intro hc
  ·refine Qf _ rfl ?_
   simp only [go_sem,Nat.reduceEqDiff,Nat.reduceAdd,reduceIte,reduceCtorEq]
   rw [← hinv];simp [XO,hc]
  ·refine hL _ (k + 1) zet ⟨by omega,?_⟩ (by omega) (fun a ha=>rfl)
   rw [hr,← hinv];simp [XO,hc]
def Ju:=qd Proofs.Tryz.f117 []
def Qw (Γ:Env) (f:Nat):Prop:=∀ (l:List Int) (x:Int) (hl:l.length < 2 ^ 62),EvN Γ f [.sl 1 (l.map V.int),V.int x] (V.bool (decide (XO x 0 l≥0)))
theorem U2 {Γ:Env} {f:Nat} (h:Has Γ.P f 9 Ju.1.1.ac Ju.1.2) (z0:JP Γ 163):Qw Γ f:=by
 intro l x hl
 refine Qb h zsi zcl zcl fun C hC hm=>?_
 subst hC
 simp only [Ju,qd,DC.ac]
 refine zgo ?_;repeat' first|exact zt|apply zan|intro hc
 refine Qf _ rfl ?_
 simp only [go_sem,Nat.reduceEqDiff,Nat.reduceAdd,reduceIte,reduceCtorEq]
structure abM where
 name:List UInt8
 kind:Int
 way:Int
 sizes:List Int
 strengths:List Int
 deriving DecidableEq
def abM.v (r:abM):List V:=[V.str r.name,V.int r.kind,V.int r.way,.sl 1 (r.sizes.map V.int),.sl 1 (r.strengths.map V.int)]
def alT:abM:=⟨[],0,0,[],[]⟩
def Q1:List abM:=[alT,⟨[109,100,53],1,0,[],[18]⟩,⟨[115,104,97,49],1,0,[],[60]⟩,⟨[115,104,97,50,53,54],1,0,[],[128]⟩,⟨[115,104,97,51,56,52],1,0,[],[192]⟩,⟨[114,115,97],2,1,[],[]⟩,⟨[100,115,97],2,1,[],[]⟩,⟨[101,99,100,115,97],2,2,[],[]⟩,⟨[101,100,50,53,53,49,57],2,0,[],[128]⟩,⟨[109,108,100,115,97],2,3,[44,65,87],[128,192,256]⟩,⟨[114,115,97,107,120],3,1,[],[]⟩,⟨[100,104,101],3,1,[],[]⟩,⟨[101,99,100,104,101],3,2,[],[]⟩,⟨[109,108,107,101,109],3,3,[512,768,1024],[128,192,256]⟩,⟨[114,99,52],4,3,[40,128],[40,60]⟩,⟨[100,101,115,51],4,3,[112,168],[80,112]⟩,⟨[97,101,115,99,98,99],4,3,[128,256],[128,256]⟩,⟨[97,101,115,103,99,109],4,3,[128,256],[128,256]⟩,⟨[99,104,97,99,104,97],4,0,[],[256]⟩,⟨[104,109,97,99,109,100,53],5,0,[],[64]⟩,⟨[104,109,97,99,115,104,97,49],5,0,[],[80]⟩,⟨[104,109,97,99,115,104,97,50,53,54],5,0,[],[128]⟩,⟨[97,101,97,100],5,0,[],[256]⟩]
def afd:List V:=Q1.flatMap abM.v
def Yu (a:Int):abM:=if 1≤a∧a≤22 then Q1.getD a.toNat alT else alT
theorem aaY {α β:Type} {f:α→List β} {n:Nat} (h:∀ x,(f x).length = n):∀ (l:List α) (k:Nat) (hk:k < l.length),((l.flatMap f).drop (k * n)).take n = f l[k]
 | [],k,hk=>by simp at hk
 | x :: l,0,_=>by simp [List.take_append_of_le_length,h x]
 | x :: l,k + 1,hk=>by
   have e:(k + 1) * n = (f x).length + k * n:=by rw [h x,zK];omega
   rw [List.flatMap_cons,e,← Zi,List.drop_left]
   exact aaY h l k (by simpa using hk)
theorem agK:afd.length = 115:=rfl
theorem ajn (a:Int) (h1:1≤a) (h2:a≤22):(afd.drop (a.toNat * 5)).take 5 = (Yu a).v:=by
 have hl:Q1.length = 23:=rfl
 have hk:a.toNat < Q1.length:=by omega
 rw [afd,aaY (f:=abM.v) (n:=5) (fun _=>rfl) Q1 a.toNat hk,Yu,if_pos ⟨h1,h2⟩,zo,zf hk,Option.getD_some]
theorem ak5 (r:abM):Qa r.v:=by simp [abM.v,Qa,V.closed]
theorem adl:Qa afd:=ak6 (by
 simp only [afd,List.mem_flatMap]
 rintro v ⟨r,_,hr⟩
 simp [abM.v] at hr
 rcases hr with rfl|rfl|rfl|rfl|rfl<;>trivial)
def Ur:=qd Proofs.Tryz.f192 []
def VM (Γ:Env) (f:Nat):Prop:=EvC Γ f [] (.agg afd)
theorem ada {Γ:Env} {f:Nat} (h:Has Γ.P f 46 Ur.1.1.ac Ur.1.2) :VM Γ f:=by
 refine Qn h zsi (adl) fun C hC hm=>?_
 subst hC
 simp only [Ur,qd,DC.ac]
 refine zgo ?_;repeat' first|exact zt|apply zan|intro hc
 refine Qf _ rfl ?_
 simp only [afd,Q1,alT,abM.v,List.flatMap_cons,List.flatMap_nil,go_sem,Nat.reduceAdd,Nat.reduceMul,Nat.reduceEqDiff,Nat.reduceLeDiff,Nat.reduceLT,Nat.reduceSub,Int.reduceEq,Int.reduceBEq,Int.reduceLT,Int.reduceLE,Int.reduceAdd,Int.reduceToNat,reduceIte,reduceCtorEq]
def qF:=qd Proofs.Tryz.f165 []
def Ks (Γ:Env) (f:Nat):Prop:=∀ (a:Int),EvC Γ f [V.int a] (.tup [.agg (Yu a).v,V.bool (decide (1≤a∧a≤22))])
theorem afV {Γ:Env} {f:Nat} (h:Has Γ.P f 14 qF.1.1.ac qF.1.2) (z0:VM Γ 192):Ks Γ f:=by
 intro a
 refine Qn h zsi (⟨ak5 _,trivial,trivial⟩) fun C hC hm=>?_
 subst hC
 simp only [qF,qd,DC.ac]
 repeat' (first|(refine zsk ?_;intro K' hK)|refine zsp ?_|(refine zsc ?_ ?_<;>intro hc<;>first|exact znh|try simp only [znz] at hc)|simp (maxSteps:=1000000) only [go_sem,Nat.reduceAdd,Nat.reduceMul,Nat.reduceEqDiff,Nat.reduceLeDiff,Nat.reduceLT,Nat.reduceSub,Int.reduceEq,Int.reduceBEq,Int.reduceLT,Int.reduceLE,Int.reduceAdd,Int.reduceToNat,reduceIte,reduceCtorEq]|(refine hK _ ?_;clear hK K')|apply zan|(apply QC;(focus first|exact EvC.b z0))|exact zsq|fail)
 ·refine Qf _ rfl ?_
  rw [Yu,if_neg (by omega)]
  simp only [go_sem,Nat.reduceEqDiff,Nat.reduceAdd,reduceIte,reduceCtorEq,abM.v,alT,zl,and_self]
  simp;omega
 ·rw [agK];omega
 ·rw [ajn a (by omega) (by omega)];rfl
 ·rw [ajn a (by omega) (by omega)]
  refine Qf _ rfl ?_
  simp only [go_sem,Nat.reduceEqDiff,Nat.reduceAdd,reduceIte,reduceCtorEq,abM.v,List.length_cons,List.length_nil,go_sem,Nat.reduceAdd,Nat.reduceMul,Nat.reduceEqDiff,Nat.reduceLeDiff,Nat.reduceLT,Nat.reduceSub,Int.reduceEq,Int.reduceBEq,Int.reduceLT,Int.reduceLE,Int.reduceAdd,Int.reduceToNat,reduceIte,reduceCtorEq]
  simp;omega
 ·refine Qf _ rfl ?_
  rw [Yu,if_neg (by omega)]
  simp only [go_sem,Nat.reduceEqDiff,Nat.reduceAdd,reduceIte,reduceCtorEq,abM.v,alT,zl,and_self]
  simp;omega
def aie (b:Int):List (Int×Int)→Int
 | []=>256
 | (x,y) :: r=>if b < x then y else aie b r
def aiJ:List (Int×Int):=[(1024,56),(2048,80),(3072,112),(7680,128),(15360,192)]
def Wa:=qd Proofs.Tryz.f200 []
def VN (Γ:Env) (f:Nat):Prop:=∀ (b:Int),EvN Γ f [V.int b] (V.int (aie b aiJ))
attribute [local go_sem] Int.reduceLE Int.reduceLT Int.reduceToNat in
theorem aan {Γ:Env} {f:Nat} (h:Has Γ.P f 21 Wa.1.1.ac Wa.1.2) :VN Γ f:=by
 intro b
 refine Qb h zsi zcl zcl fun C hC hm=>?_
 subst hC
 simp only [Wa,qd,DC.ac]
 refine zgo ?_;repeat' first|exact zt|apply zan|intro hc
 refine Qt (ι:=Int) (fun k=>0≤k∧k≤5∧aie b (aiJ.drop k.toNat) = aie b aiJ) (fun k=>[(11,V.int k)]) (fun k=>(5 - k).toNat) 0 (by omega) ⟨by simp,by simp,rfl⟩ zol zlt zet fun k hk K' hL=>?_
 obtain ⟨hk0,hk,hinv⟩:=hk
 simp only [ovT,Jn,Nat.reduceEqDiff,reduceIte]
 rcases (by omega:k = 0∨k = 1∨k = 2∨k = 3∨k = 4∨k = 5) with rfl|rfl|rfl|rfl|rfl|rfl
 all_goals refine zgo ?_;repeat' first|exact zt|apply zan|intro hc
 all_goals first
  | (refine Qf _ rfl ?_;simp only [go_sem,Nat.reduceEqDiff,Nat.reduceAdd,reduceIte,reduceCtorEq];rw [← hinv];first|rfl|simp [aiJ,aie,hc])
  | (refine hL _ 1 zet ⟨by omega,by omega,?_⟩ (by decide) zoe;rw [← hinv];simp [aiJ,aie,hc])
  | (refine hL _ 2 zet ⟨by omega,by omega,?_⟩ (by decide) zoe;rw [← hinv];simp [aiJ,aie,hc])
  | (refine hL _ 3 zet ⟨by omega,by omega,?_⟩ (by decide) zoe;rw [← hinv];simp [aiJ,aie,hc])
  | (refine hL _ 4 zet ⟨by omega,by omega,?_⟩ (by decide) zoe;rw [← hinv];simp [aiJ,aie,hc])
  | (refine hL _ 5 zet ⟨by omega,by omega,?_⟩ (by decide) zoe;rw [← hinv];simp [aiJ,aie,hc])
def Us:=qd Proofs.Tryz.f119 []
def XM (Γ:Env) (f:Nat):Prop:=∀ (a:Int),EvN Γ f [V.int a] (V.int (Yu a).kind)
attribute [local go_sem] abM.v in
theorem adb {Γ:Env} {f:Nat} (h:Has Γ.P f 12 Us.1.1.ac Us.1.2) (z0:Ks Γ 165):XM Γ f:=by
 intro a
 refine Qb h zsi zcl zcl fun C hC hm=>?_
 subst hC
 simp only [Us,qd,DC.ac]
 refine zgo ?_;repeat' first|exact zt|apply zan|intro hc
 refine Qf _ rfl ?_;simp only [go_sem,Nat.reduceEqDiff,Nat.reduceAdd,reduceIte,reduceCtorEq]
def Uy (R:abM) (ok:Bool) (b:Int):Int :=
 if ok = false then 0
 else if R.way = 0 then (if b = 0 then R.strengths.headD 0 else 0)
 else if R.way = 1 then (if 512≤b∧b≤16384 then aie b aiJ else 0)
 else if R.way = 2 then (if XO b 0 [160,224,256,384,521]≥0 then IntKind.i64.wrap (b.tdiv 2) else 0)
 else if R.way = 3 then (if XO b 0 R.sizes≥0 then R.strengths.getD (XO b 0 R.sizes).toNat 0 else 0)
 else 0
def QL (a b:Int):Int:=Uy (Yu a) (decide (1≤a∧a≤22)) b
def abM.ok (r:abM):Bool:=(r.way != 0 || !r.strengths.isEmpty) && (r.way != 3 || r.sizes.length == r.strengths.length) && decide (r.sizes.length < 10)
theorem aqm (a:Int) (ha:1≤a∧a≤22):(Yu a).ok = true:=by
 have h:∀ r∈Q1.drop 1,r.ok = true:=by decide
 have hl:Q1.length = 23:=rfl
 have hk:a.toNat < Q1.length:=by omega
 rw [Yu,if_pos ha,zo,zf hk,Option.getD_some]
 have hk':a.toNat - 1 < (Q1.drop 1).length:=by simp;omega
 have:=h _ (zN hk')
 rw [List.getElem_drop] at this
 have e:1 + (a.toNat - 1) = a.toNat:=by omega
 simp only [e] at this
 exact this
theorem ajQ (x:Int):∀ (l:List Int) (k:Nat),XO x k l = -1∨(k≤XO x k l∧XO x k l < k + l.length)
 | [],k=>.inl rfl
 | y :: r,k=>by
   unfold XO
   split
   ·right;simp;omega
   ·rcases ajQ x r (k + 1) with h|⟨h1,h2⟩
    ·exact .inl h
    ·right;simp only [List.length_cons];omega
def Xv:=qd Proofs.Tryz.f164 []
def Yg (Γ:Env) (f:Nat):Prop:=∀ (a b:Int),EvN Γ f [.agg [V.int a,V.int b]] (V.int (QL a b))
attribute [local go_sem] abM.v in
theorem vk {Γ:Env} {f:Nat} (h:Has Γ.P f 61 Xv.1.1.ac Xv.1.2) (z0:Ks Γ 165) (z1:VN Γ 200) (z2:Qw Γ 117) (z3:JP Γ 163):Yg Γ f:=by
 intro a b
 refine Qb h zsi zcl zcl fun C hC hm=>?_
 subst hC
 simp only [Xv,qd,DC.ac]
 have hc5:=z2 [160,224,256,384,521] b (by simp)
 by_cases ha:1≤a∧a≤22
 ·have hd:decide (1≤a∧a≤22) = true:=by simp [ha]
  have ok:=aqm a ha
  have fl:=ajQ b (Yu a).sizes 0
  rcases hR:Yu a with ⟨nm,kd,wy,sz,st⟩
  rw [hR] at ok fl
  simp only [abM.ok,zA,kA,zS,bne_iff_ne,kC] at ok
  rcases st with _|⟨x,st⟩
  ·(have zy0:=hc5.b;have zx:=za hR hd);refine zgo ?_;repeat' first|exact zt|apply zan|intro hc
   all_goals first
    | (refine Qf _ rfl ?_;simp only [go_sem,Nat.reduceEqDiff,Nat.reduceAdd,reduceIte,reduceCtorEq];simp [QL,Uy,hR, *];done)
    | (exfalso;simp only [Zd,List.length_cons,List.length_nil,List.isEmpty_nil] at hst fl ok;omega)
    | (exfalso;simp only [List.length_nil] at fl ok;omega)
    | (exfalso;simp_all;done)
  ·rcases hst:(x :: st)[(XO b 0 sz).toNat]? with _|v
   ·have hs2:(V.int x :: List.map V.int st)[(XO b 0 sz).toNat]? = none:=by rw [← zm,zq,hst];rfl
    (have zy0:=hc5.b;have zx:=za hR (za hd hs2));refine zgo ?_;repeat' first|exact zt|apply zan|intro hc
    all_goals first
     | (refine Qf _ rfl ?_;simp only [go_sem,Nat.reduceEqDiff,Nat.reduceAdd,reduceIte,reduceCtorEq];simp [QL,Uy,hR, *];done)
     | (exfalso;simp only [Zd,List.length_cons,List.length_nil,List.isEmpty_nil] at hst fl ok;omega)
     | (exfalso;simp_all;done)
   ·have hs2:(V.int x :: List.map V.int st)[(XO b 0 sz).toNat]? = some (V.int v):=by rw [← zm,zq,hst];rfl
    (have zy0:=hc5.b;have zx:=za hR (za hd hs2));refine zgo ?_;repeat' first|exact zt|apply zan|intro hc
    all_goals first
     | (refine Qf _ rfl ?_;simp only [go_sem,Nat.reduceEqDiff,Nat.reduceAdd,reduceIte,reduceCtorEq];simp [QL,Uy,hR, *];done)
     | (exfalso;simp only [Zd,List.length_cons,List.length_nil,List.isEmpty_nil] at hst fl ok;omega)
     | (exfalso;simp_all;done)
 ·have hd:decide (1≤a∧a≤22) = false:=by simp [ha]
  (have zx:=hd);refine zgo ?_;repeat' first|exact zt|apply zan|intro hc
  refine Qf _ rfl ?_;simp only [go_sem,Nat.reduceEqDiff,Nat.reduceAdd,reduceIte,reduceCtorEq]
  simp [QL,Uy,hd]
attribute [go_sem_proc] Int.reduceAdd Int.reduceBEq Int.reduceEq Int.reduceLE Int.reduceLT Int.reduceToNat Nat.reduceAdd Nat.reduceEqDiff Nat.reduceLT Nat.reduceLeDiff Nat.reduceMul Nat.reduceSub reduceCtorEq reduceIte
end Av
end
