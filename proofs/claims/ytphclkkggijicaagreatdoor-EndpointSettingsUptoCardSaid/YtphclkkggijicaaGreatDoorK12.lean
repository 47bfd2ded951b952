/- The program's code, reckoned in place. -/
import Derived.Test.YtphclkkggijicaaGreatDoorK11
import Derived.Test.YtphclkkggijicaaGreatDoorProg
import Derived.KernelRfl
set_option linter.unusedVariables false
set_option linter.unusedSimpArgs false
section
namespace Av
open Go
noncomputable def qd (fn:Func) (hs:List RH) {x:AC×List V8} {d:DC×List V8} (h1:dC Proofs.Tryz.prog fn = some x:=by cbv) (h2:dD x hs = d:=by cbv):QD Proofs.Tryz.prog fn hs:=⟨d,arw h1 h2⟩
end Av
end
section
namespace Av
open Go
theorem aif {α:Type} {p:α→Prop} {a:α} {l:List α}:(∀ x∈a :: l,p x)↔(p a∧∀ x∈l,p x):=by simp
theorem akg {α:Type} {p:α→Prop}:(∀ x∈([]:List α),p x)↔True:=by simp
theorem zsd {p:Prop} (h:p:=by first|assumption|omega|(simp;done)):p:=h
theorem zlo {p:Prop} (h:p:=by simp only [zC,List.length_cons,List.length_nil,zh,Nat.reducePow,Nat.reduceAdd];omega):p:=h
theorem zms {α:Type} {a:α}:a∈[a]:=List.mem_singleton_self _
theorem zsk {p q:Prop} (k:q) (h:q→p:=by first|exact xN|exact an6):p:=h k
theorem zsp {p q:Prop} (k:q) (h:q→p:=by first|exact vP|exact ajy|exact amC|exact apZ|exact an9):p:=h k
theorem zsc {p a b:Prop} (k:a) (l:b) (h:a→b→p:=by first|exact fun k l=>abX ⟨_,rfl,k,l⟩|exact ap2|exact ap3):p:=h k l
theorem znh {p:Prop} (h:p:=by first|(cases hc;done)|((try simp only [znz] at hc);exact znf)|fail):p:=h
theorem zan {a b:Prop} (x:a) (y:b):a∧b:=⟨x,y⟩
section
variable {g q:Prop} {L:List Nat} {ot:OT} {p:OP} {ops:List AO} {ahead:List (List Nat)}
end
theorem zsq {p:Prop} (h:p:=by first|exact zlo|omega|exact zms):p:=h
theorem znf {p:Prop} (h:p:=by first|(exfalso;simp only [zh] at hc;omega)|(exfalso;omega)):p:=h
theorem znz:(∀ {p:Prop} [Decidable p],(decide p = true) = p)∧(∀ {p:Prop} [Decidable p],(decide p = false) = ¬ p)∧(∀ {α:Type} [BEq α] [LawfulBEq α] {a b:α},((a == b) = true) = (a = b)) ∧
  (∀ {α:Type} [BEq α] [LawfulBEq α] {a b:α},((a == b) = false) = ¬ (a = b))∧(∀ {α:Type} {a b:α},(a≠b) = ¬ (a = b))∧(∀ {b:Bool},((!b) = true) = (b = false))∧(∀ {b:Bool},((!b) = false) = (b = true)) :=
 ⟨propext decide_eq_true_iff,propext kO,propext kA,propext kM,rfl,Zg _,Bool.not_eq_false' _⟩
theorem zwl:(∀ {p:Prop},(p∧True) = p)∧(∀ {p:Prop},(True∧p) = p)∧(∀ {α:Type},(α→True) = True)∧(∀ {p:Prop},(p→True) = True)∧(∀ {α:Type} {a b:α},(some a = some b) = (a = b))∧(∀ {α:Type} {p:α→Prop} {a:α},(∃ b,a = b∧p b) = p a) ∧
  (∀ (σ:Nat→Nat) (cs:List V),Qa cs→Kz σ cs = cs)∧(∀ (σ:Nat→Nat) (v:V),v.closed→v.ren σ = v) :=
 ⟨and_true _,true_and _,implies_true _,implies_true _,zd _ _,propext exists_eq_left',QU,Jq⟩
theorem zcc {p:Prop} (h:p:=by first|((repeat' (first|rfl|apply za|omega|exact fun h=>h|exact Exists.intro _ rfl));done)|fail):p:=h
theorem zwa {p:Prop} (h:p:=by first|(simp only [go_sem,zwl,Nat.reduceAdd,Nat.reduceMul,Nat.reduceEqDiff,Nat.reduceLT,Int.reduceToNat,reduceIte,reduceCtorEq];(repeat' (first|rfl|apply za|omega|exact fun h=>h|exact Exists.intro _ rfl));done)|fail):p:=h
theorem zwg {m n:Nat} {s:St} (tau:List (Nat×Nat)) {ts:List (Nat×V)} {os:List (Nat×Ob)}
  (ht:∀ p∈ts,s.t p.1 = p.2.ren (Qo tau)∧p.2.lt n:=by exact zwa)
  (ho:∀ p∈os,p.1 < n∧∃ x,s.o (Qo tau p.1) = some x∧x.weak (Qo tau) n p.2:=by exact zwa)
  (hn:(os.map fun p=>Qo tau p.1).Nodup:=by first|(simp;done)|(simp [Qo];done)|fail) (hf:∀ p∈tau,m≤p.1:=by first|(simp;done)|(simp;omega)|fail) (hm:m≤n:=by omega):amR m (Qo tau) s (Yd ts os n):=JZ tau ht ho hn hf hm
theorem zcd {p:Prop} (h:p:=by first|(simp only [V.closed,Qa,and_self,and_true,true_and];done)|fail):p:=h
theorem zr {p:Prop} (h:p:=by first|(refine Qd _ rfl ?_;simp only [go_sem,Nat.reduceEqDiff,Nat.reduceAdd,reduceIte,reduceCtorEq];done)|fail):p:=h
theorem zrd {p:Prop} (h:p:=by first|exact rfl|decide):p:=h
theorem zro {p:Prop} (h:p:=by first|exact rfl|omega|(simp;done)|fail):p:=h
structure EvB (Γ:Env) (f:FuncId) (args:List V) (res:V) (B:Option (List Nat)):Prop where
 ev:Ev Γ f args [] res []
 cl:res.closed
 sh:(B = none∧res.noSl)∨B = some []
theorem EvN.b {Γ:Env} {f:FuncId} {args:List V} {res:V} (h:EvN Γ f args res):EvB Γ f args res none:=⟨h.1,h.2.1,.inl ⟨rfl,h.2.2⟩⟩
theorem EvC.b {Γ:Env} {f:FuncId} {args:List V} {res:V} (h:EvC Γ f args res):EvB Γ f args res (some []):=⟨h.1,h.2,.inr rfl⟩
section
variable {Γ:Env} {A W:Nat→Bool} {b:Nat} {r:List AO} {s:St} {d:Option Nat} {f:FuncId} {acts:List V} {res:V} {J K:St→Prop} {B:Option (List Nat)}
theorem arL (h:EvB Γ f (JI s.o acts) res B) (hc:Qu s.o B acts) (hk:Vo Γ (b + KK) r { t:=(s.put d res).t,o:=s.o,n:=s.n } K):awC Γ b r s d f acts K:=by
 obtain ⟨h1,h2,⟨rfl,h3⟩|rfl⟩:=h
 ·exact arH hc ⟨h1,h2,h3⟩ hk
 ·exact arK hc ⟨h1,h2⟩ hk
theorem aq2 (h:EvB Γ f (JI (Jl A s.o) acts) res B) (hc:Qu (Jl A s.o) B acts) (hk:J { t:=(s.put d res).t,o:=s.o,n:=s.n }):QL Γ A W b s d f acts J:=by
 obtain ⟨h1,h2,⟨rfl,h3⟩|rfl⟩:=h
 ·exact aqZ hc ⟨h1,h2,h3⟩ hk
 ·exact aq1 hc ⟨h1,h2⟩ hk
def ahI (Γ:Env) (b:Nat) (r:List AO) (s:St) (d:Option Nat) (f:FuncId) (acts args:List V) (okf:Option (List Nat)→Prop) (K:St→Prop):Prop :=
 args = JI s.o acts→okf = (fun B=>Qu s.o B acts)→awC Γ b r s d f acts K
def afE (Γ:Env) (A W:Nat→Bool) (b:Nat) (s:St) (d:Option Nat) (f:FuncId) (acts args:List V) (okf:Option (List Nat)→Prop) (J:St→Prop):Prop :=
 args = JI (Jl A s.o) acts→okf = (fun B=>Qu (Jl A s.o) B acts)→QL Γ A W b s d f acts J
@[go_sem] theorem ar3:awC Γ b r s d f acts K = ahI Γ b r s d f acts (JI s.o acts) (fun B=>Qu s.o B acts) K:=propext ⟨fun h _ _=>h,fun h=>h rfl rfl⟩
@[go_sem] theorem arO:QL Γ A W b s d f acts J = afE Γ A W b s d f acts (JI (Jl A s.o) acts) (fun B=>Qu (Jl A s.o) B acts) J:=propext ⟨fun h _ _=>h,fun h=>h rfl rfl⟩
theorem Ju {args:List V} {okf:Option (List Nat)→Prop} (h:EvB Γ f args res B) (hc:okf B) (hk:Vo Γ (b + KK) r { t:=(s.put d res).t,o:=s.o,n:=s.n } K):ahI Γ b r s d f acts args okf K:=by
 rintro rfl rfl;exact arL h hc hk
theorem QZ {args:List V} {okf:Option (List Nat)→Prop} (h:EvB Γ f args res B) (hc:okf B) (hk:J { t:=(s.put d res).t,o:=s.o,n:=s.n }):afE Γ A W b s d f acts args okf J:=by
 rintro rfl rfl;exact aq2 h hc hk
end
mutual
theorem air (o:Nat→Option Ob):∀ v:V,v.closed→v.shut o = v
 | .top,_=>by simp only [V.shut]
 | .sc _,_=>by simp only [V.shut]
 | .nn,_=>by simp only [V.shut]
 | .sl _ _,_=>by simp only [V.shut]
 | .hd _ _ _,h=>h.elim
 | .ptr _ _,h=>h.elim
 | .ept _ _ _,h=>h.elim
 | .mp _,h=>h.elim
 | .ro _ _,_=>by simp only [V.shut]
 | .agg cs,h=>by simp only [V.shut];rw [J1 o cs h]
 | .tup cs,h=>by simp only [V.shut];rw [J1 o cs h]
 | .clo _ cs,h=>by simp only [V.shut];rw [J1 o cs h]
theorem J1 (o:Nat→Option Ob):∀ cs:List V,Qa cs→JI o cs = cs
 | [],_=>by simp only [JI]
 | v :: r,h=>by simp only [JI];rw [air o v h.1,J1 o r h.2]
end
mutual
theorem afy (o:Nat→Option Ob) (B:Option (List Nat)):∀ v:V,v.closed→v.shutOk o B
 | .top,_=>by simp only [V.shutOk]
 | .sc _,_=>by simp only [V.shutOk]
 | .nn,_=>by simp only [V.shutOk]
 | .sl _ _,_=>by simp only [V.shutOk]
 | .hd _ _ _,h=>h.elim
 | .ptr _ _,h=>h.elim
 | .ept _ _ _,h=>h.elim
 | .mp _,h=>h.elim
 | .ro _ _,_=>by simp only [V.shutOk]
 | .agg cs,h=>by simp only [V.shutOk];exact Jk o B cs h
 | .tup cs,h=>by simp only [V.shutOk];exact Jk o B cs h
 | .clo _ cs,h=>by simp only [V.shutOk];exact Jk o B cs h
theorem Jk (o:Nat→Option Ob) (B:Option (List Nat)):∀ cs:List V,Qa cs→Qu o B cs
 | [],_=>by simp only [Qu]
 | v :: r,h=>by simp only [Qu];exact ⟨afy o B v h.1,Jk o B r h.2⟩
end
@[go_sem] def mv (d x:Nat):AO:=⟨some d,.mov (.t x),none⟩
@[go_sem] def mc (d:Nat) (v:V):AO:=⟨some d,.mov (.c v),none⟩
@[go_sem] def mg (d x g:Nat) (q:Bool):AO:=⟨some d,.mov (.t x),some (g,q)⟩
@[go_sem] def ld (d s x:Nat):AO:=⟨some d,.load false s (.t x),none⟩
@[go_sem] def ia (d s x i:Nat):AO:=⟨some d,.iaddr s (.t x) (.t i),none⟩
@[go_sem] def fa (d o x:Nat):AO:=⟨some d,.faddr o (.t x),none⟩
@[go_sem] def nk (d x:Nat):AO:=⟨some d,.nilck (.t x),none⟩
@[go_sem] def ex (d x i:Nat):AO:=⟨some d,.ext (.t x) i,none⟩
@[go_sem] def ln (d x:Nat):AO:=⟨some d,.lenL (.t x),none⟩
@[go_sem] def bn (d:Nat) (op:BinOp) (x y:Nat):AO:=⟨some d,.bin op (.t x) (.t y),none⟩
@[go_sem] def bc (d:Nat) (op:BinOp) (x:Nat) (v:V):AO:=⟨some d,.bin op (.t x) (.c v),none⟩
@[go_sem] def cl (d f:Nat) (ts:List Nat):AO:=⟨some d,.call f (ts.map .t),none⟩
@[go_sem] def xo (d:Nat) (op:AOp):AO:=⟨some d,op,none⟩
@[go_sem] def xg (d:Nat) (op:AOp) (g:Nat) (q:Bool):AO:=⟨some d,op,some (g,q)⟩
@[go_sem] def xs (s a x:Nat):AO:=⟨none,.store s (.t a) (.t x),none⟩
inductive ZF:Prop→Prop
 | u:ZF True
 | t (p:Prop):ZF p
structure ZW (p:Prop):Prop where
 h:p
class RG (L:List Nat) (ot:OT) (p:outParam OP) (ops:List AO) (ahead:List (List Nat)) (N:outParam Nat) (fz:outParam (Nat→Bool)):Prop where
 l:ops.length = N
 o:okR ops ahead L ot = true
 p:js (ris ops ahead L) ot = p
section
variable {g q:Prop} {L:List Nat} {ot:OT} {p:OP} {ops:List AO} {ahead:List (List Nat)} {N:Nat} {fz:Nat→Bool} {C:Ctx} {nt:Nat} {s:St} {K:St→Prop} {E:Nat→St→Prop} {R:St→Prop} {ks:List Nat} {y:AC}
theorem arS [i:RG L ot p ops ahead N fz] (h:∀ K':St→Prop,(∀ s',AWp C nt y s' K E R→K' s')→Ky C.env fz s.n (fun s'=>K' ((s'.wn (s.n + N * KK)).keep ks)) p s):AWp C nt (Kw ks (aqc L ot p ops ahead) y) s K E R:=ajz N fz i.l i.o i.p h
theorem arR [i:RG L ot p ops ahead N fz] (h:∀ K':St→Prop,(∀ s',K s'→K' s')→Ky C.env fz s.n (fun s'=>K' (s'.wn (s.n + N * KK))) p s):AWp C nt (aqc L ot p ops ahead) s K E R:=ajA N fz i.l i.o i.p h
end
theorem zrg {p q:Prop} (k:q) (h:q→p:=by first|exact arS|exact arR|exact fun k=>arQ k|exact fun k=>arP k|fail):p:=h k
theorem zis {Γ:Env} {b:Nat} {r:List AO} {s:St} {d:Option Nat} {f:FuncId} {acts args:List V} {okf:Option (List Nat)→Prop} {K:St→Prop} (h:ahI Γ b r s d f acts args okf K):ahI Γ b r s d f acts args okf K:=h
theorem zir {Γ:Env} {A W:Nat→Bool} {b:Nat} {s:St} {d:Option Nat} {f:FuncId} {acts args:List V} {okf:Option (List Nat)→Prop} {J:St→Prop} (h:afE Γ A W b s d f acts args okf J):afE Γ A W b s d f acts args okf J:=h
theorem zsi {p:Prop} (h:p:=by first|(simp;done)|fail):p:=h
theorem zcl {p:Prop} (h:p:=by first|(simp only [V.closed,Qa,V.noSl,Um,and_self,and_true,true_and];done)|fail):p:=h
theorem zse {p:Prop} (h:p:=by first|exact rfl|(simp;done)|omega|(simp only [zh];omega)|fail):p:=h
theorem zap {p:Prop} (h:p:=by first|(apply ih<;>exact zsd)|(apply z0<;>exact zsd)|(apply z1<;>exact zsd)|(apply z2<;>exact zsd)|(apply z3<;>exact zsd)|(apply z4<;>exact zsd)|(apply z5<;>exact zsd)|(apply z6<;>exact zsd)|(apply z7<;>exact zsd)|(apply z8<;>exact zsd)|(apply z9<;>exact zsd)|(apply z10<;>exact zsd)|(apply z11<;>exact zsd)|(apply z12<;>exact zsd)|(apply z13<;>exact zsd)|(apply z14<;>exact zsd)|(apply z15<;>exact zsd)|(apply z16<;>exact zsd)|(apply z17<;>exact zsd)|(apply z18<;>exact zsd)|(apply z19<;>exact zsd)|(apply z20<;>exact zsd)|(apply z21<;>exact zsd)|(apply z22<;>exact zsd)|(apply z23<;>exact zsd)|(apply z24<;>exact zsd)|(apply z25<;>exact zsd)|(apply z26<;>exact zsd)|(apply z27<;>exact zsd)|(apply z28<;>exact zsd)|(apply z29<;>exact zsd)|(apply z30<;>exact zsd)|(apply z31<;>exact zsd)|(apply z32<;>exact zsd)|(apply z33<;>exact zsd)|(apply z34<;>exact zsd)|(apply z35<;>exact zsd)|(apply z36<;>exact zsd)|(apply z37<;>exact zsd)|(apply z38<;>exact zsd)|(apply z39<;>exact zsd)|fail):p:=h
theorem zpc {p:Prop} (h:p:=by first|assumption|exact zap|fail):p:=h
theorem zca {Γ:Env} {f:FuncId} {args:List V} {res:V} {B:Option (List Nat)} (h:EvB Γ f args res B:=by first|assumption|(apply EvN.b;exact zap)|(apply EvC.b;exact zap)|fail):EvB Γ f args res B:=h
theorem zt {p:Prop} (h:p:=by first|exact trivial|exact fun _=>trivial|fail):p:=h
theorem zcx {p q:Prop} (h:p→q:=by (intro hc;(try simp only [znz] at hc);exact hc)):p→q:=h
theorem arh {p:Prop} (h:p:=by first|((repeat' (first|(refine zsk ?_;intro K' hK)|refine zsp ?_|exact zbr hq|(refine zrg ?_;intro K' hK)|simp (maxSteps:=1000000) only [go_sem,zx,Int.toNat_natCast,zF,Nat.reduceAdd,Nat.reduceMul,Nat.reduceEqDiff,Nat.reduceLeDiff,Nat.reduceLT,Nat.reduceSub,Int.reduceEq,Int.reduceBEq,Int.reduceLT,Int.reduceLE,Int.reduceAdd,Int.reduceToNat,reduceIte,reduceCtorEq]|simp (maxSteps:=1000000) only [go_sem,Nat.reduceAdd,Nat.reduceMul,Nat.reduceEqDiff,Nat.reduceLeDiff,Nat.reduceLT,Nat.reduceSub,Int.reduceEq,Int.reduceBEq,Int.reduceLT,Int.reduceLE,Int.reduceAdd,Int.reduceToNat,reduceIte,reduceCtorEq]|(refine hK _ ?_;clear hK K')|apply zan|(apply Ju;(focus exact zca))|(refine zis ?_;first|(apply acV;(focus exact rfl);(focus exact zpc);(focus exact rfl);(focus exact rfl))|(apply amF;(focus exact zpc))|(apply jm;(focus exact zpc))|(apply aoN;(focus exact rfl);(focus exact zpc);(focus exact rfl);(focus exact rfl))|(apply aoM;(focus exact rfl);(focus exact rfl);(focus exact zpc);(focus exact rfl);(focus exact rfl))|(apply aoL;(focus exact rfl);(focus exact zpc);(focus exact rfl))|(apply aoJ;(focus exact rfl);(focus exact rfl);(focus exact rfl);(focus exact zpc);(focus exact rfl);(focus exact zse);(focus exact zse))|(apply aoK;(focus exact rfl);(focus exact zpc);(focus exact rfl);(focus exact zse)))|(refine zir ?_;first|(apply QZ;(focus exact zca))|(apply wM;(focus exact rfl);(focus exact zrd);(focus exact zrd);(focus exact zpc);(focus exact rfl);(focus exact rfl);(focus exact zrd))|(apply VA;(focus exact zpc))|(apply amH;(focus exact rfl);(focus exact rfl);(focus exact zrd);(focus exact zpc);(focus exact rfl);(focus exact rfl);(focus exact zrd))|(apply aiy;(focus exact zpc);(focus exact zrd)))|exact zsq|exact hq.h|fail));done)|fail):p:=h
theorem zbr {p a b ca cb da db qa qb:Prop} (hq:ZW ((da→qa)∧(db→qb))) (h:(ca→a)→(cb→b)→p:=by first|exact fun k l=>abX ⟨_,rfl,k,l⟩|exact ap2|exact ap3|fail)
  (ea:ca→da:=by exact zcx) (eb:cb→db:=by exact zcx)
  (ha:da→ZW qa→a:=by (first|(intro hc hq;first|exact znh|exact arh)|fail))
  (hb:db→ZW qb→b:=by (first|(intro hc hq;first|exact znh|exact arh)|fail))
  (h1:ZF qa:=by first|with_reducible exact ZF.u|exact ZF.t _) (h2:ZF qb:=by first|with_reducible exact ZF.u|exact ZF.t _):p:=h (fun c=>ha (ea c) ⟨hq.1.1 (ea c)⟩) (fun c=>hb (eb c) ⟨hq.1.2 (eb c)⟩)
theorem zgo {p q:Prop} (k:q) (h:ZW q→p:=by (first|(intro hq;exact arh)|fail)) (h1:ZF q:=by first|with_reducible exact ZF.u|exact ZF.t _):p:=h ⟨k⟩
theorem zbx {p a b ca cb da db:Prop} (h:(ca→a)→(cb→b)→p:=by first|exact fun k l=>abX ⟨_,rfl,k,l⟩|exact ap2|exact ap3|fail)
  (ea:ca→da:=by exact zcx) (eb:cb→db:=by exact zcx)
  (ha:da→a:=by (first|(intro hc;first|exact znh|exact zg)|fail))
  (hb:db→b:=by (first|(intro hc;first|exact znh|exact zg)|fail)):p:=h (fun c=>ha (ea c)) (fun c=>hb (eb c))
theorem zg {p:Prop} (h:p:=by first|((repeat' (first|(refine zsk ?_;intro K' hK)|refine zsp ?_|exact zbx|(refine zrg ?_;intro K' hK)|simp (maxSteps:=1000000) only [go_sem,zx,Int.toNat_natCast,zF,Nat.reduceAdd,Nat.reduceMul,Nat.reduceEqDiff,Nat.reduceLeDiff,Nat.reduceLT,Nat.reduceSub,Int.reduceEq,Int.reduceBEq,Int.reduceLT,Int.reduceLE,Int.reduceAdd,Int.reduceToNat,reduceIte,reduceCtorEq]|simp (maxSteps:=1000000) only [go_sem,Nat.reduceAdd,Nat.reduceMul,Nat.reduceEqDiff,Nat.reduceLeDiff,Nat.reduceLT,Nat.reduceSub,Int.reduceEq,Int.reduceBEq,Int.reduceLT,Int.reduceLE,Int.reduceAdd,Int.reduceToNat,reduceIte,reduceCtorEq]|(refine hK _ ?_;clear hK K')|apply zan|(apply Ju;(focus exact zca))|(refine zis ?_;first|(apply acV;(focus exact rfl);(focus exact zpc);(focus exact rfl);(focus exact rfl))|(apply amF;(focus exact zpc))|(apply jm;(focus exact zpc))|(apply aoN;(focus exact rfl);(focus exact zpc);(focus exact rfl);(focus exact rfl))|(apply aoM;(focus exact rfl);(focus exact rfl);(focus exact zpc);(focus exact rfl);(focus exact rfl))|(apply aoL;(focus exact rfl);(focus exact zpc);(focus exact rfl))|(apply aoJ;(focus exact rfl);(focus exact rfl);(focus exact rfl);(focus exact zpc);(focus exact rfl);(focus exact zse);(focus exact zse))|(apply aoK;(focus exact rfl);(focus exact zpc);(focus exact rfl);(focus exact zse)))|(refine zir ?_;first|(apply QZ;(focus exact zca))|(apply wM;(focus exact rfl);(focus exact zrd);(focus exact zrd);(focus exact zpc);(focus exact rfl);(focus exact rfl);(focus exact zrd))|(apply VA;(focus exact zpc))|(apply amH;(focus exact rfl);(focus exact rfl);(focus exact zrd);(focus exact zpc);(focus exact rfl);(focus exact rfl);(focus exact zrd))|(apply aiy;(focus exact zpc);(focus exact zrd)))|exact zsq|exact zr|(simp only [*];exact zr)|(subst hc;exact zr)|fail));done)|fail):p:=h
theorem zc3 {p:Prop} (h:p:=by first|exact Qk _ _|exact PDraft.cells_closed _|exact agm _|simp only [V.closed,Qa,and_self,and_true,true_and]):p:=h
theorem zet {p:Prop} (h:p:=by first|(simp only [Nat.reduceAdd,ovT,Je,Nat.reduceEqDiff,reduceIte,Xv,Vx,aiQ,u32,u33,u34,u35,u36,u37,u38,u39,and_self,and_true,true_and];done)|(simp only [Nat.reduceAdd,ovT,Je,Nat.reduceEqDiff,reduceIte,Xv,Vx,aiQ,u32,u33,u34,u35,u36,u37,u38,u39,and_self,and_true,true_and];rfl)|fail):p:=h
theorem zoe {p:Prop} (h:p:=by intro a ha;simp only [u32,u33,u34,u35,u36,u37,u38,u39];repeat rw [if_neg (by omega)]):p:=h
theorem zlt {p:Prop} (h:p:=by intro i hi;simp only [ovT,Je,Nat.reduceEqDiff,reduceIte];(repeat' first|exact aar|refine xG ?_ ?_|simp only [V.lt,ltL,and_self,and_true]|omega)):p:=h
theorem zol {p:Prop} (h:p:=by repeat' first|exact ai1|refine ah9 (by omega) (by simp only [Ob.lt,ltL,V.lt,and_self,and_true];try omega) ?_):p:=h
@[go_sem] abbrev vi0:Value:=.int .i64 0
@[go_sem] abbrev vs0:Value:=.string ⟨#[]⟩
@[go_sem] abbrev vn0:Value:=.slice none 0 0
def aoO:OP→List AO
 | .done=>[]
 | .one _ _ _ x t=>x :: aoO t
 | .or _ _ _ x t _=>x :: aoO t
def och:Nat→Nat→OT
 | _,0=>.done
 | i,n + 1=>.one i (och (i + 1) n)
@[go_sem] def oN (j:Nat) (x:AO) (t:OP):OP:=.one j false [] x t
attribute [go_sem] aif akg V.ren Kz Qo V.lt ltL Ob.weak KK
end Av
end
noncomputable section
set_option maxRecDepth 10000
set_option maxHeartbeats 4000000
namespace Av
open Go
attribute [local irreducible] AWp Vo Ky jA awS awC aad awQ aaN QL Vq vQ awR Vz awB okR js ris
def aoz (a n:Int):Int:=if n < 1 then 0 else (IntKind.i64.wrap (a.tmod n + n)).tmod n
def xK:=qd Proofs.Tryz.f34 []
def wR (Γ:Env) (f:Nat):Prop:=∀ (a n:Int),EvN Γ f [V.int a,V.int n] (V.int (aoz a n))
theorem aik {Γ:Env} {f:Nat} (h:Has Γ.P f 14 xK.1.1.ac xK.1.2) :wR Γ f:=by
 intro a n
 refine Qb h zsi zcl zcl fun C hC hm=>?_
 subst hC
 simp only [xK,qd,DC.ac]
 refine zgo ?_;repeat' first|exact zt|apply zan|intro hc
 ·refine Qd _ rfl ?_
  simp only [go_sem,Nat.reduceEqDiff,Nat.reduceAdd,reduceIte,reduceCtorEq]
  simp [aoz,hc]
 ·refine Qd _ rfl ?_
  simp only [go_sem,Nat.reduceEqDiff,Nat.reduceAdd,reduceIte,reduceCtorEq]
  simp [aoz,hc]
def Xu (x:Int):Nat→List Int→Int
 | _,[]=>-1
 | k,y :: r=>if x = y then k else Xu x (k + 1) r
def JK:=qd Proofs.Tryz.f163 []
def JE (Γ:Env) (f:Nat):Prop:=∀ (l:List Int) (x:Int) (hl:l.length < 2 ^ 62),EvN Γ f [.sl 1 (l.map V.int),V.int x] (V.int (Xu x 0 l))
theorem qz {Γ:Env} {f:Nat} (h:Has Γ.P f 19 JK.1.1.ac JK.1.2) :JE Γ f:=by
 intro l x hl
 refine Qb h zsi zcl zcl fun C hC hm=>?_
 subst hC
 simp only [JK,qd,DC.ac]
 refine zgo ?_;repeat' first|exact zt|apply zan|intro hc
 refine Qp (ι:=Nat) (fun k=>k≤l.length∧Xu x k (l.drop k) = Xu x 0 l) (fun k=>[(8,V.int k)]) (fun k=>l.length - k) 0 (by omega) ⟨by simp,by simp⟩ zol zlt zet fun k hk K' hL=>?_
 obtain ⟨hk,hinv⟩:=hk
 simp only [ovT,Je,Nat.reduceEqDiff,reduceIte]
 rcases hd:l.drop k with _|⟨y,r⟩
 ·have:=Qj hd
  rw [hd] at hinv
  refine zgo ?_;repeat' first|exact zt|apply zan|intro hc
  refine Qd _ rfl ?_
  simp only [go_sem,Nat.reduceEqDiff,Nat.reduceAdd,reduceIte,reduceCtorEq]
  rw [← hinv];rfl
 ·obtain ⟨hk,hget,hr⟩:=Qf hd
  rw [hd] at hinv
  have hw:=Qc (k:=k) (by omega)
  (have zx:=za hget hw);refine zgo ?_;repeat' first|exact zt|apply zan|intro hc
  ·refine Qd _ rfl ?_
   simp only [go_sem,Nat.reduceEqDiff,Nat.reduceAdd,reduceIte,reduceCtorEq]
   rw [← hinv];simp [Xu,hc]
  ·refine hL _ (k + 1) zet ⟨by omega,?_⟩ (by omega) (fun a ha=>rfl)
   rw [hr,← hinv];simp [Xu,hc]
def Jn:=qd Proofs.Tryz.f117 []
def Qt (Γ:Env) (f:Nat):Prop:=∀ (l:List Int) (x:Int) (hl:l.length < 2 ^ 62),EvN Γ f [.sl 1 (l.map V.int),V.int x] (V.bool (decide (Xu x 0 l≥0)))
theorem UE {Γ:Env} {f:Nat} (h:Has Γ.P f 9 Jn.1.1.ac Jn.1.2) (z0:JE Γ 163):Qt Γ f:=by
 intro l x hl
 refine Qb h zsi zcl zcl fun C hC hm=>?_
 subst hC
 simp only [Jn,qd,DC.ac]
 refine zgo ?_;repeat' first|exact zt|apply zan|intro hc
 refine Qd _ rfl ?_
 simp only [go_sem,Nat.reduceEqDiff,Nat.reduceAdd,reduceIte,reduceCtorEq]
structure abm where
 name:List UInt8
 kind:Int
 way:Int
 sizes:List Int
 strengths:List Int
 deriving DecidableEq
def abm.v (r:abm):List V:=[V.str r.name,V.int r.kind,V.int r.way,.sl 1 (r.sizes.map V.int),.sl 1 (r.strengths.map V.int)]
def alj:abm:=⟨[],0,0,[],[]⟩
def QR:List abm:=[alj,⟨[109,100,53],1,0,[],[18]⟩,⟨[115,104,97,49],1,0,[],[60]⟩,⟨[115,104,97,50,53,54],1,0,[],[128]⟩,⟨[115,104,97,51,56,52],1,0,[],[192]⟩,⟨[114,115,97],2,1,[],[]⟩,⟨[100,115,97],2,1,[],[]⟩,⟨[101,99,100,115,97],2,2,[],[]⟩,⟨[101,100,50,53,53,49,57],2,0,[],[128]⟩,⟨[109,108,100,115,97],2,3,[44,65,87],[128,192,256]⟩,⟨[114,115,97,107,120],3,1,[],[]⟩,⟨[100,104,101],3,1,[],[]⟩,⟨[101,99,100,104,101],3,2,[],[]⟩,⟨[109,108,107,101,109],3,3,[512,768,1024],[128,192,256]⟩,⟨[114,99,52],4,3,[40,128],[40,60]⟩,⟨[100,101,115,51],4,3,[112,168],[80,112]⟩,⟨[97,101,115,99,98,99],4,3,[128,256],[128,256]⟩,⟨[97,101,115,103,99,109],4,3,[128,256],[128,256]⟩,⟨[99,104,97,99,104,97],4,0,[],[256]⟩,⟨[104,109,97,99,109,100,53],5,0,[],[64]⟩,⟨[104,109,97,99,115,104,97,49],5,0,[],[80]⟩,⟨[104,109,97,99,115,104,97,50,53,54],5,0,[],[128]⟩,⟨[97,101,97,100],5,0,[],[256]⟩]
def aeL:List V:=QR.flatMap abm.v
def J5 (a:Int):abm:=if 1≤a∧a≤22 then QR.getD a.toNat alj else alj
theorem aau {α β:Type} {f:α→List β} {n:Nat} (h:∀ x,(f x).length = n):∀ (l:List α) (k:Nat) (hk:k < l.length),((l.flatMap f).drop (k * n)).take n = f l[k]
 | [],k,hk=>by simp at hk
 | x :: l,0,_=>by simp [List.take_append_of_le_length,h x]
 | x :: l,k + 1,hk=>by
   have e:(k + 1) * n = (f x).length + k * n:=by rw [h x,zI];omega
   rw [List.flatMap_cons,e,← Zf,List.drop_left]
   exact aau h l k (by simpa using hk)
theorem age:aeL.length = 115:=rfl
theorem aiN (a:Int) (h1:1≤a) (h2:a≤22):(aeL.drop (a.toNat * 5)).take 5 = (J5 a).v:=by
 have hl:QR.length = 23:=rfl
 have hk:a.toNat < QR.length:=by omega
 rw [aeL,aau (f:=abm.v) (n:=5) (fun _=>rfl) QR a.toNat hk,J5,if_pos ⟨h1,h2⟩,zq,ze hk,Option.getD_some]
theorem akw (r:abm):Qa r.v:=by simp [abm.v,Qa,V.closed]
theorem acR:Qa aeL:=akx (by
 simp only [aeL,List.mem_flatMap]
 rintro v ⟨r,_,hr⟩
 simp [abm.v] at hr
 rcases hr with rfl|rfl|rfl|rfl|rfl<;>trivial)
def VZ:=qd Proofs.Tryz.f192 []
def Vl (Γ:Env) (f:Nat):Prop:=EvC Γ f [] (.agg aeL)
theorem acH {Γ:Env} {f:Nat} (h:Has Γ.P f 46 VZ.1.1.ac VZ.1.2) :Vl Γ f:=by
 refine Qn h zsi (acR) fun C hC hm=>?_
 subst hC
 simp only [VZ,qd,DC.ac]
 refine zgo ?_;repeat' first|exact zt|apply zan|intro hc
 refine Qd _ rfl ?_
 simp only [aeL,QR,alj,abm.v,List.flatMap_cons,List.flatMap_nil,go_sem,Nat.reduceAdd,Nat.reduceMul,Nat.reduceEqDiff,Nat.reduceLeDiff,Nat.reduceLT,Nat.reduceSub,Int.reduceEq,Int.reduceBEq,Int.reduceLT,Int.reduceLE,Int.reduceAdd,Int.reduceToNat,reduceIte,reduceCtorEq]
def ql:=qd Proofs.Tryz.f165 []
def U5 (Γ:Env) (f:Nat):Prop:=∀ (a:Int),EvC Γ f [V.int a] (.tup [.agg (J5 a).v,V.bool (decide (1≤a∧a≤22))])
theorem aft {Γ:Env} {f:Nat} (h:Has Γ.P f 14 ql.1.1.ac ql.1.2) (z0:Vl Γ 192):U5 Γ f:=by
 intro a
 refine Qn h zsi (⟨akw _,trivial,trivial⟩) fun C hC hm=>?_
 subst hC
 simp only [ql,qd,DC.ac]
 repeat' (first|(refine zsk ?_;intro K' hK)|refine zsp ?_|(refine zsc ?_ ?_<;>intro hc<;>first|exact znh|try simp only [znz] at hc)|simp (maxSteps:=1000000) only [go_sem,Nat.reduceAdd,Nat.reduceMul,Nat.reduceEqDiff,Nat.reduceLeDiff,Nat.reduceLT,Nat.reduceSub,Int.reduceEq,Int.reduceBEq,Int.reduceLT,Int.reduceLE,Int.reduceAdd,Int.reduceToNat,reduceIte,reduceCtorEq]|(refine hK _ ?_;clear hK K')|apply zan|(apply Ju;(focus first|exact EvC.b z0))|exact zsq|fail)
 ·refine Qd _ rfl ?_
  rw [J5,if_neg (by omega)]
  simp only [go_sem,Nat.reduceEqDiff,Nat.reduceAdd,reduceIte,reduceCtorEq,abm.v,alj,zo,and_self]
  simp;omega
 ·rw [age];omega
 ·rw [aiN a (by omega) (by omega)];rfl
 ·rw [aiN a (by omega) (by omega)]
  refine Qd _ rfl ?_
  simp only [go_sem,Nat.reduceEqDiff,Nat.reduceAdd,reduceIte,reduceCtorEq,abm.v,List.length_cons,List.length_nil,go_sem,Nat.reduceAdd,Nat.reduceMul,Nat.reduceEqDiff,Nat.reduceLeDiff,Nat.reduceLT,Nat.reduceSub,Int.reduceEq,Int.reduceBEq,Int.reduceLT,Int.reduceLE,Int.reduceAdd,Int.reduceToNat,reduceIte,reduceCtorEq]
  simp;omega
 ·refine Qd _ rfl ?_
  rw [J5,if_neg (by omega)]
  simp only [go_sem,Nat.reduceEqDiff,Nat.reduceAdd,reduceIte,reduceCtorEq,abm.v,alj,zo,and_self]
  simp;omega
def ahD (b:Int):List (Int×Int)→Int
 | []=>256
 | (x,y) :: r=>if b < x then y else ahD b r
def ah7:List (Int×Int):=[(1024,56),(2048,80),(3072,112),(7680,128),(15360,192)]
def XS:=qd Proofs.Tryz.f200 []
def Vm (Γ:Env) (f:Nat):Prop:=∀ (b:Int),EvN Γ f [V.int b] (V.int (ahD b ah7))
attribute [local go_sem] Int.reduceLE Int.reduceLT Int.reduceToNat in
theorem vH {Γ:Env} {f:Nat} (h:Has Γ.P f 21 XS.1.1.ac XS.1.2) :Vm Γ f:=by
 intro b
 refine Qb h zsi zcl zcl fun C hC hm=>?_
 subst hC
 simp only [XS,qd,DC.ac]
 refine zgo ?_;repeat' first|exact zt|apply zan|intro hc
 refine Qp (ι:=Int) (fun k=>0≤k∧k≤5∧ahD b (ah7.drop k.toNat) = ahD b ah7) (fun k=>[(11,V.int k)]) (fun k=>(5 - k).toNat) 0 (by omega) ⟨by simp,by simp,rfl⟩ zol zlt zet fun k hk K' hL=>?_
 obtain ⟨hk0,hk,hinv⟩:=hk
 simp only [ovT,Je,Nat.reduceEqDiff,reduceIte]
 rcases (by omega:k = 0∨k = 1∨k = 2∨k = 3∨k = 4∨k = 5) with rfl|rfl|rfl|rfl|rfl|rfl
 all_goals refine zgo ?_;repeat' first|exact zt|apply zan|intro hc
 all_goals first
  | (refine Qd _ rfl ?_;simp only [go_sem,Nat.reduceEqDiff,Nat.reduceAdd,reduceIte,reduceCtorEq];rw [← hinv];first|rfl|simp [ah7,ahD,hc])
  | (refine hL _ 1 zet ⟨by omega,by omega,?_⟩ (by decide) zoe;rw [← hinv];simp [ah7,ahD,hc])
  | (refine hL _ 2 zet ⟨by omega,by omega,?_⟩ (by decide) zoe;rw [← hinv];simp [ah7,ahD,hc])
  | (refine hL _ 3 zet ⟨by omega,by omega,?_⟩ (by decide) zoe;rw [← hinv];simp [ah7,ahD,hc])
  | (refine hL _ 4 zet ⟨by omega,by omega,?_⟩ (by decide) zoe;rw [← hinv];simp [ah7,ahD,hc])
  | (refine hL _ 5 zet ⟨by omega,by omega,?_⟩ (by decide) zoe;rw [← hinv];simp [ah7,ahD,hc])
def V0:=qd Proofs.Tryz.f119 []
def Xt (Γ:Env) (f:Nat):Prop:=∀ (a:Int),EvN Γ f [V.int a] (V.int (J5 a).kind)
attribute [local go_sem] abm.v in
theorem acI {Γ:Env} {f:Nat} (h:Has Γ.P f 12 V0.1.1.ac V0.1.2) (z0:U5 Γ 165):Xt Γ f:=by
 intro a
 refine Qb h zsi zcl zcl fun C hC hm=>?_
 subst hC
 simp only [V0,qd,DC.ac]
 refine zgo ?_;repeat' first|exact zt|apply zan|intro hc
 refine Qd _ rfl ?_;simp only [go_sem,Nat.reduceEqDiff,Nat.reduceAdd,reduceIte,reduceCtorEq]
def Ua (R:abm) (ok:Bool) (b:Int):Int :=
 if ok = false then 0
 else if R.way = 0 then (if b = 0 then R.strengths.headD 0 else 0)
 else if R.way = 1 then (if 512≤b∧b≤16384 then ahD b ah7 else 0)
 else if R.way = 2 then (if Xu b 0 [160,224,256,384,521]≥0 then IntKind.i64.wrap (b.tdiv 2) else 0)
 else if R.way = 3 then (if Xu b 0 R.sizes≥0 then R.strengths.getD (Xu b 0 R.sizes).toNat 0 else 0)
 else 0
def QG (a b:Int):Int:=Ua (J5 a) (decide (1≤a∧a≤22)) b
def abm.ok (r:abm):Bool:=(r.way != 0 || !r.strengths.isEmpty) && (r.way != 3 || r.sizes.length == r.strengths.length) && decide (r.sizes.length < 10)
theorem apJ (a:Int) (ha:1≤a∧a≤22):(J5 a).ok = true:=by
 have h:∀ r∈QR.drop 1,r.ok = true:=by decide
 have hl:QR.length = 23:=rfl
 have hk:a.toNat < QR.length:=by omega
 rw [J5,if_pos ha,zq,ze hk,Option.getD_some]
 have hk':a.toNat - 1 < (QR.drop 1).length:=by simp;omega
 have:=h _ (zO hk')
 rw [List.getElem_drop] at this
 have e:1 + (a.toNat - 1) = a.toNat:=by omega
 simp only [e] at this
 exact this
theorem ajg (x:Int):∀ (l:List Int) (k:Nat),Xu x k l = -1∨(k≤Xu x k l∧Xu x k l < k + l.length)
 | [],k=>.inl rfl
 | y :: r,k=>by
   unfold Xu
   split
   ·right;simp;omega
   ·rcases ajg x r (k + 1) with h|⟨h1,h2⟩
    ·exact .inl h
    ·right;simp only [List.length_cons];omega
def Xc:=qd Proofs.Tryz.f164 []
def J9 (Γ:Env) (f:Nat):Prop:=∀ (a b:Int),EvN Γ f [.agg [V.int a,V.int b]] (V.int (QG a b))
attribute [local go_sem] abm.v in
theorem wF {Γ:Env} {f:Nat} (h:Has Γ.P f 61 Xc.1.1.ac Xc.1.2) (z0:U5 Γ 165) (z1:Vm Γ 200) (z2:Qt Γ 117) (z3:JE Γ 163):J9 Γ f:=by
 intro a b
 refine Qb h zsi zcl zcl fun C hC hm=>?_
 subst hC
 simp only [Xc,qd,DC.ac]
 have hc5:=z2 [160,224,256,384,521] b (by simp)
 by_cases ha:1≤a∧a≤22
 ·have hd:decide (1≤a∧a≤22) = true:=by simp [ha]
  have ok:=apJ a ha
  have fl:=ajg b (J5 a).sizes 0
  rcases hR:J5 a with ⟨nm,kd,wy,sz,st⟩
  rw [hR] at ok fl
  simp only [abm.ok,zv,ky,zL,bne_iff_ne,kA] at ok
  rcases st with _|⟨x,st⟩
  ·(have zy0:=hc5.b;have zx:=za hR hd);refine zgo ?_;repeat' first|exact zt|apply zan|intro hc
   all_goals first
    | (refine Qd _ rfl ?_;simp only [go_sem,Nat.reduceEqDiff,Nat.reduceAdd,reduceIte,reduceCtorEq];simp [QG,Ua,hR, *];done)
    | (exfalso;simp only [k7,List.length_cons,List.length_nil,List.isEmpty_nil] at hst fl ok;omega)
    | (exfalso;simp only [List.length_nil] at fl ok;omega)
    | (exfalso;simp_all;done)
  ·rcases hst:(x :: st)[(Xu b 0 sz).toNat]? with _|v
   ·have hs2:(V.int x :: List.map V.int st)[(Xu b 0 sz).toNat]? = none:=by rw [← zp,zF,hst];rfl
    (have zy0:=hc5.b;have zx:=za hR (za hd hs2));refine zgo ?_;repeat' first|exact zt|apply zan|intro hc
    all_goals first
     | (refine Qd _ rfl ?_;simp only [go_sem,Nat.reduceEqDiff,Nat.reduceAdd,reduceIte,reduceCtorEq];simp [QG,Ua,hR, *];done)
     | (exfalso;simp only [k7,List.length_cons,List.length_nil,List.isEmpty_nil] at hst fl ok;omega)
     | (exfalso;simp_all;done)
   ·have hs2:(V.int x :: List.map V.int st)[(Xu b 0 sz).toNat]? = some (V.int v):=by rw [← zp,zF,hst];rfl
    (have zy0:=hc5.b;have zx:=za hR (za hd hs2));refine zgo ?_;repeat' first|exact zt|apply zan|intro hc
    all_goals first
     | (refine Qd _ rfl ?_;simp only [go_sem,Nat.reduceEqDiff,Nat.reduceAdd,reduceIte,reduceCtorEq];simp [QG,Ua,hR, *];done)
     | (exfalso;simp only [k7,List.length_cons,List.length_nil,List.isEmpty_nil] at hst fl ok;omega)
     | (exfalso;simp_all;done)
 ·have hd:decide (1≤a∧a≤22) = false:=by simp [ha]
  (have zx:=hd);refine zgo ?_;repeat' first|exact zt|apply zan|intro hc
  refine Qd _ rfl ?_;simp only [go_sem,Nat.reduceEqDiff,Nat.reduceAdd,reduceIte,reduceCtorEq]
  simp [QG,Ua,hd]
attribute [go_sem_proc] Int.reduceAdd Int.reduceBEq Int.reduceEq Int.reduceLE Int.reduceLT Int.reduceToNat Nat.reduceAdd Nat.reduceEqDiff Nat.reduceLT Nat.reduceLeDiff Nat.reduceMul Nat.reduceSub reduceCtorEq reduceIte
end Av
end
