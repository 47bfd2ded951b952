/- The program's code, reckoned in place. -/
import Derived.Test.YtjolhibbihejgaaGreatK11
import Derived.Test.YtjolhibbihejgaaGreatProg
set_option linter.unusedVariables false
set_option linter.unusedSimpArgs false
section
namespace Av
open Go
noncomputable def qd (fn:Func) (hs:List RH) {x:AC×List Kk} {d:DC×List Kk} (h1:dC Proofs.Tryz.prog fn = some x:=by cbv) (h2:dD x hs = d:=by cbv):QD Proofs.Tryz.prog fn hs:=⟨d,at9 h1 h2⟩
end Av
end
section
namespace Av
open Go
theorem ajX {α:Type} {p:α→Prop} {a:α} {l:List α}:(∀ x∈a :: l,p x)↔(p a∧∀ x∈l,p x):=by simp
theorem ame {α:Type} {p:α→Prop}:(∀ x∈([]:List α),p x)↔True:=by simp
theorem zsd {p:Prop} (h:p:=by first|assumption|omega|(simp;done)):p:=h
theorem zlo {p:Prop} (h:p:=by simp only [zn,List.length_cons,List.length_nil,zb,Nat.reducePow,Nat.reduceAdd];omega):p:=h
theorem zms {α:Type} {a:α}:a∈[a]:=List.mem_singleton_self _
theorem zsk {p q:Prop} (k:q) (h:q→p:=by first|exact alu|exact aqg):p:=h k
theorem zsp {p q:Prop} (k:q) (h:q→p:=by first|exact aed|exact aqf|exact aoM|exact asd|exact aqj):p:=h k
theorem zsc {p a b:Prop} (k:a) (l:b) (h:a→b→p:=by first|exact fun k l=>ahv ⟨_,rfl,k,l⟩|exact asf|exact asg):p:=h k l
theorem znh {p:Prop} (h:p:=by first|(cases hc;done)|((try simp only [znz] at hc);exact znf)|fail):p:=h
theorem zan {a b:Prop} (x:a) (y:b):a∧b:=⟨x,y⟩
section
variable {g q:Prop} {L:List Nat} {ot:OT} {p:OP} {ops:List AO} {ahead:List (List Nat)}
end
theorem zsq {p:Prop} (h:p:=by first|exact zlo|omega|exact zms):p:=h
theorem znf {p:Prop} (h:p:=by first|(exfalso;simp only [zb] at hc;omega)|(exfalso;omega)):p:=h
theorem znz:(∀ {p:Prop} [Decidable p],(decide p = true) = p)∧(∀ {p:Prop} [Decidable p],(decide p = false) = ¬ p)∧(∀ {α:Type} [BEq α] [LawfulBEq α] {a b:α},((a == b) = true) = (a = b)) ∧
  (∀ {α:Type} [BEq α] [LawfulBEq α] {a b:α},((a == b) = false) = ¬ (a = b))∧(∀ {α:Type} {a b:α},(a≠b) = ¬ (a = b))∧(∀ {b:Bool},((!b) = true) = (b = false))∧(∀ {b:Bool},((!b) = false) = (b = true)) :=
 ⟨propext decide_eq_true_iff,propext zB,propext Zv,propext Zb,rfl,kS _,Bool.not_eq_false' _⟩
theorem zwl:(∀ {p:Prop},(p∧True) = p)∧(∀ {p:Prop},(True∧p) = p)∧(∀ {α:Type},(α→True) = True)∧(∀ {p:Prop},(p→True) = True)∧(∀ {α:Type} {a b:α},(some a = some b) = (a = b))∧(∀ {α:Type} {p:α→Prop} {a:α},(∃ b,a = b∧p b) = p a) ∧
  (∀ (σ:Nat→Nat) (cs:List V),Qd cs→jg σ cs = cs)∧(∀ (σ:Nat→Nat) (v:V),v.closed→v.ren σ = v) :=
 ⟨and_true _,true_and _,implies_true _,implies_true _,zf _ _,propext exists_eq_left',QL,YF⟩
theorem zcc {p:Prop} (h:p:=by first|((repeat' (first|rfl|apply za|omega|exact fun h=>h|exact Exists.intro _ rfl));done)|fail):p:=h
theorem zwa {p:Prop} (h:p:=by first|(simp only [go_sem,zwl,Nat.reduceAdd,Nat.reduceMul,Nat.reduceEqDiff,Nat.reduceLT,Int.reduceToNat,reduceIte,reduceCtorEq];(repeat' (first|rfl|apply za|omega|exact fun h=>h|exact Exists.intro _ rfl));done)|fail):p:=h
theorem zwg {m n:Nat} {s:St} (tau:List (Nat×Nat)) {ts:List (Nat×V)} {os:List (Nat×Ob)}
  (ht:∀ p∈ts,s.t p.1 = p.2.ren (Qf tau)∧p.2.lt n:=by exact zwa)
  (ho:∀ p∈os,p.1 < n∧∃ x,s.o (Qf tau p.1) = some x∧x.weak (Qf tau) n p.2:=by exact zwa)
  (hn:(os.map fun p=>Qf tau p.1).Nodup:=by first|(simp;done)|(simp [Qf];done)|fail) (hf:∀ p∈tau,m≤p.1:=by first|(simp;done)|(simp;omega)|fail) (hm:m≤n:=by omega):akt m (Qf tau) s (Yh ts os n):=Qo tau ht ho hn hf hm
theorem zcd {p:Prop} (h:p:=by first|(simp only [V.closed,Qd,and_self,and_true,true_and];done)|fail):p:=h
theorem zr {p:Prop} (h:p:=by first|(refine Qi _ rfl ?_;simp only [go_sem,Nat.reduceEqDiff,Nat.reduceAdd,reduceIte,reduceCtorEq];done)|fail):p:=h
theorem zrd {p:Prop} (h:p:=by first|exact rfl|decide):p:=h
theorem zro {p:Prop} (h:p:=by first|exact rfl|omega|(simp;done)|fail):p:=h
structure EvB (Γ:Env) (f:FuncId) (args:List V) (res:V) (B:Option (List Nat)):Prop where
 ev:Ev Γ f args [] res []
 cl:res.closed
 sh:(B = none∧res.noSl)∨B = some []
theorem EvN.b {Γ:Env} {f:FuncId} {args:List V} {res:V} (h:EvN Γ f args res):EvB Γ f args res none:=⟨h.1,h.2.1,.inl ⟨rfl,h.2.2⟩⟩
theorem EvC.b {Γ:Env} {f:FuncId} {args:List V} {res:V} (h:EvC Γ f args res):EvB Γ f args res (some []):=⟨h.1,h.2,.inr rfl⟩
section
variable {Γ:Env} {A W:Nat→Bool} {b:Nat} {r:List AO} {s:St} {d:Option Nat} {f:FuncId} {acts:List V} {res:V} {J K:St→Prop} {B:Option (List Nat)}
theorem auo (h:EvB Γ f (JD s.o acts) res B) (hc:Qp s.o B acts) (hk:UY Γ (b + KK) r { t:=(s.put d res).t,o:=s.o,n:=s.n } K):awC Γ b r s d f acts K:=by
 obtain ⟨h1,h2,⟨rfl,h3⟩|rfl⟩:=h
 ·exact auk hc ⟨h1,h2,h3⟩ hk
 ·exact aun hc ⟨h1,h2⟩ hk
theorem atr (h:EvB Γ f (JD (JO A s.o) acts) res B) (hc:Qp (JO A s.o) B acts) (hk:J { t:=(s.put d res).t,o:=s.o,n:=s.n }):Q1 Γ A W b s d f acts J:=by
 obtain ⟨h1,h2,⟨rfl,h3⟩|rfl⟩:=h
 ·exact ato hc ⟨h1,h2,h3⟩ hk
 ·exact atq hc ⟨h1,h2⟩ hk
def ako (Γ:Env) (b:Nat) (r:List AO) (s:St) (d:Option Nat) (f:FuncId) (acts args:List V) (okf:Option (List Nat)→Prop) (K:St→Prop):Prop :=
 args = JD s.o acts→okf = (fun B=>Qp s.o B acts)→awC Γ b r s d f acts K
def afM (Γ:Env) (A W:Nat→Bool) (b:Nat) (s:St) (d:Option Nat) (f:FuncId) (acts args:List V) (okf:Option (List Nat)→Prop) (J:St→Prop):Prop :=
 args = JD (JO A s.o) acts→okf = (fun B=>Qp (JO A s.o) B acts)→Q1 Γ A W b s d f acts J
@[go_sem] theorem auO:awC Γ b r s d f acts K = ako Γ b r s d f acts (JD s.o acts) (fun B=>Qp s.o B acts) K:=propext ⟨fun h _ _=>h,fun h=>h rfl rfl⟩
@[go_sem] theorem auw:Q1 Γ A W b s d f acts J = afM Γ A W b s d f acts (JD (JO A s.o) acts) (fun B=>Qp (JO A s.o) B acts) J:=propext ⟨fun h _ _=>h,fun h=>h rfl rfl⟩
theorem QJ {args:List V} {okf:Option (List Nat)→Prop} (h:EvB Γ f args res B) (hc:okf B) (hk:UY Γ (b + KK) r { t:=(s.put d res).t,o:=s.o,n:=s.n } K):ako Γ b r s d f acts args okf K:=by
 rintro rfl rfl;exact auo h hc hk
theorem Jn {args:List V} {okf:Option (List Nat)→Prop} (h:EvB Γ f args res B) (hc:okf B) (hk:J { t:=(s.put d res).t,o:=s.o,n:=s.n }):afM Γ A W b s d f acts args okf J:=by
 rintro rfl rfl;exact atr h hc hk
end
mutual
theorem akh (o:Nat→Option Ob):∀ v:V,v.closed→v.shut o = v
 | .top,_=>by simp only [V.shut]
 | .sc _,_=>by simp only [V.shut]
 | .nn,_=>by simp only [V.shut]
 | .sl _ _,_=>by simp only [V.shut]
 | .hd _ _ _,h=>h.elim
 | .ptr _ _,h=>h.elim
 | .ept _ _ _,h=>h.elim
 | .mp _,h=>h.elim
 | .ro _ _,_=>by simp only [V.shut]
 | .agg cs,h=>by simp only [V.shut];rw [QC o cs h]
 | .tup cs,h=>by simp only [V.shut];rw [QC o cs h]
 | .clo _ cs,h=>by simp only [V.shut];rw [QC o cs h]
theorem QC (o:Nat→Option Ob):∀ cs:List V,Qd cs→JD o cs = cs
 | [],_=>by simp only [JD]
 | v :: r,h=>by simp only [JD];rw [akh o v h.1,QC o r h.2]
end
mutual
theorem ahs (o:Nat→Option Ob) (B:Option (List Nat)):∀ v:V,v.closed→v.shutOk o B
 | .top,_=>by simp only [V.shutOk]
 | .sc _,_=>by simp only [V.shutOk]
 | .nn,_=>by simp only [V.shutOk]
 | .sl _ _,_=>by simp only [V.shutOk]
 | .hd _ _ _,h=>h.elim
 | .ptr _ _,h=>h.elim
 | .ept _ _ _,h=>h.elim
 | .mp _,h=>h.elim
 | .ro _ _,_=>by simp only [V.shutOk]
 | .agg cs,h=>by simp only [V.shutOk];exact Qq o B cs h
 | .tup cs,h=>by simp only [V.shutOk];exact Qq o B cs h
 | .clo _ cs,h=>by simp only [V.shutOk];exact Qq o B cs h
theorem Qq (o:Nat→Option Ob) (B:Option (List Nat)):∀ cs:List V,Qd cs→Qp o B cs
 | [],_=>by simp only [Qp]
 | v :: r,h=>by simp only [Qp];exact ⟨ahs o B v h.1,Qq o B r h.2⟩
end
@[go_sem] def mv (d x:Nat):AO:=⟨some d,.mov (.t x),none⟩
@[go_sem] def mc (d:Nat) (v:V):AO:=⟨some d,.mov (.c v),none⟩
@[go_sem] def mg (d x g:Nat) (q:Bool):AO:=⟨some d,.mov (.t x),some (g,q)⟩
@[go_sem] def ld (d s x:Nat):AO:=⟨some d,.load false s (.t x),none⟩
@[go_sem] def ia (d s x i:Nat):AO:=⟨some d,.iaddr s (.t x) (.t i),none⟩
@[go_sem] def fa (d o x:Nat):AO:=⟨some d,.faddr o (.t x),none⟩
@[go_sem] def nk (d x:Nat):AO:=⟨some d,.nilck (.t x),none⟩
@[go_sem] def ex (d x i:Nat):AO:=⟨some d,.ext (.t x) i,none⟩
@[go_sem] def ln (d x:Nat):AO:=⟨some d,.lenL (.t x),none⟩
@[go_sem] def bn (d:Nat) (op:BinOp) (x y:Nat):AO:=⟨some d,.bin op (.t x) (.t y),none⟩
@[go_sem] def bc (d:Nat) (op:BinOp) (x:Nat) (v:V):AO:=⟨some d,.bin op (.t x) (.c v),none⟩
@[go_sem] def cl (d f:Nat) (ts:List Nat):AO:=⟨some d,.call f (ts.map .t),none⟩
@[go_sem] def xo (d:Nat) (op:AOp):AO:=⟨some d,op,none⟩
@[go_sem] def xg (d:Nat) (op:AOp) (g:Nat) (q:Bool):AO:=⟨some d,op,some (g,q)⟩
@[go_sem] def xs (s a x:Nat):AO:=⟨none,.store s (.t a) (.t x),none⟩
inductive ZF:Prop→Prop
 | u:ZF True
 | t (p:Prop):ZF p
structure ZW (p:Prop):Prop where
 h:p
class RG (L:List Nat) (ot:OT) (p:outParam OP) (ops:List AO) (ahead:List (List Nat)) (N:outParam Nat) (fz:outParam (Nat→Bool)):Prop where
 l:ops.length = N
 o:okR ops ahead L ot = true
 p:ym (ris ops ahead L) ot = p
section
variable {g q:Prop} {L:List Nat} {ot:OT} {p:OP} {ops:List AO} {ahead:List (List Nat)} {N:Nat} {fz:Nat→Bool} {C:Ctx} {nt:Nat} {s:St} {K:St→Prop} {E:Nat→St→Prop} {R:St→Prop} {ks:List Nat} {y:AC}
theorem auC [i:RG L ot p ops ahead N fz] (h:∀ K':St→Prop,(∀ s',AWp C nt y s' K E R→K' s')→qH C.env fz s.n (fun s'=>K' ((s'.wn (s.n + N * KK)).keep ks)) p s):AWp C nt (YN ks (arf L ot p ops ahead) y) s K E R:=alv N fz i.l i.o i.p h
theorem auB [i:RG L ot p ops ahead N fz] (h:∀ K':St→Prop,(∀ s',K s'→K' s')→qH C.env fz s.n (fun s'=>K' (s'.wn (s.n + N * KK))) p s):AWp C nt (arf L ot p ops ahead) s K E R:=alw N fz i.l i.o i.p h
end
theorem zrg {p q:Prop} (k:q) (h:q→p:=by first|exact auC|exact auB|exact fun k=>auA k|exact fun k=>auz k|fail):p:=h k
theorem zis {Γ:Env} {b:Nat} {r:List AO} {s:St} {d:Option Nat} {f:FuncId} {acts args:List V} {okf:Option (List Nat)→Prop} {K:St→Prop} (h:ako Γ b r s d f acts args okf K):ako Γ b r s d f acts args okf K:=h
theorem zir {Γ:Env} {A W:Nat→Bool} {b:Nat} {s:St} {d:Option Nat} {f:FuncId} {acts args:List V} {okf:Option (List Nat)→Prop} {J:St→Prop} (h:afM Γ A W b s d f acts args okf J):afM Γ A W b s d f acts args okf J:=h
theorem zsi {p:Prop} (h:p:=by first|(simp;done)|fail):p:=h
theorem zcl {p:Prop} (h:p:=by first|(simp only [V.closed,Qd,V.noSl,adw,and_self,and_true,true_and];done)|fail):p:=h
theorem zse {p:Prop} (h:p:=by first|exact rfl|(simp;done)|omega|(simp only [zb];omega)|fail):p:=h
theorem zap {p:Prop} (h:p:=by first|(apply ih<;>exact zsd)|(apply z0<;>exact zsd)|(apply z1<;>exact zsd)|(apply z2<;>exact zsd)|(apply z3<;>exact zsd)|(apply z4<;>exact zsd)|(apply z5<;>exact zsd)|(apply z6<;>exact zsd)|(apply z7<;>exact zsd)|(apply z8<;>exact zsd)|(apply z9<;>exact zsd)|(apply z10<;>exact zsd)|(apply z11<;>exact zsd)|(apply z12<;>exact zsd)|(apply z13<;>exact zsd)|(apply z14<;>exact zsd)|(apply z15<;>exact zsd)|(apply z16<;>exact zsd)|(apply z17<;>exact zsd)|(apply z18<;>exact zsd)|(apply z19<;>exact zsd)|(apply z20<;>exact zsd)|(apply z21<;>exact zsd)|(apply z22<;>exact zsd)|(apply z23<;>exact zsd)|(apply z24<;>exact zsd)|(apply z25<;>exact zsd)|(apply z26<;>exact zsd)|(apply z27<;>exact zsd)|(apply z28<;>exact zsd)|(apply z29<;>exact zsd)|(apply z30<;>exact zsd)|(apply z31<;>exact zsd)|(apply z32<;>exact zsd)|(apply z33<;>exact zsd)|(apply z34<;>exact zsd)|(apply z35<;>exact zsd)|(apply z36<;>exact zsd)|(apply z37<;>exact zsd)|(apply z38<;>exact zsd)|(apply z39<;>exact zsd)|fail):p:=h
theorem zpc {p:Prop} (h:p:=by first|assumption|exact zap|fail):p:=h
theorem zca {Γ:Env} {f:FuncId} {args:List V} {res:V} {B:Option (List Nat)} (h:EvB Γ f args res B:=by first|assumption|(apply EvN.b;exact zap)|(apply EvC.b;exact zap)|fail):EvB Γ f args res B:=h
theorem zt {p:Prop} (h:p:=by first|exact trivial|exact fun _=>trivial|fail):p:=h
theorem zcx {p q:Prop} (h:p→q:=by (intro hc;(try simp only [znz] at hc);exact hc)):p→q:=h
theorem atJ {p:Prop} (h:p:=by first|((repeat' (first|(refine zsk ?_;intro K' hK)|refine zsp ?_|exact zbr hq|(refine zrg ?_;intro K' hK)|simp (maxSteps:=1000000) only [go_sem,zx,Int.toNat_natCast,zk,Nat.reduceAdd,Nat.reduceMul,Nat.reduceEqDiff,Nat.reduceLeDiff,Nat.reduceLT,Nat.reduceSub,Int.reduceEq,Int.reduceBEq,Int.reduceLT,Int.reduceLE,Int.reduceAdd,Int.reduceToNat,reduceIte,reduceCtorEq]|simp (maxSteps:=1000000) only [go_sem,Nat.reduceAdd,Nat.reduceMul,Nat.reduceEqDiff,Nat.reduceLeDiff,Nat.reduceLT,Nat.reduceSub,Int.reduceEq,Int.reduceBEq,Int.reduceLT,Int.reduceLE,Int.reduceAdd,Int.reduceToNat,reduceIte,reduceCtorEq]|(refine hK _ ?_;clear hK K')|apply zan|(apply QJ;(focus exact zca))|(refine zis ?_;first|(apply wG;(focus exact rfl);(focus exact zpc);(focus exact rfl);(focus exact rfl))|(apply wD;(focus exact zpc))|(apply aoR;(focus exact zpc))|(apply aqR;(focus exact rfl);(focus exact zpc);(focus exact rfl);(focus exact zse))|(apply Vq;(focus exact rfl);(focus exact zpc);(focus exact rfl);(focus exact zse)))|(refine zir ?_;first|(apply Jn;(focus exact zca))|(apply xz;(focus exact rfl);(focus exact zrd);(focus exact zrd);(focus exact zpc);(focus exact rfl);(focus exact rfl);(focus exact zrd))|(apply akq;(focus exact zpc))|(apply xy;(focus exact zpc);(focus exact zrd)))|exact zsq|exact hq.h|fail));done)|fail):p:=h
theorem zbr {p a b ca cb da db qa qb:Prop} (hq:ZW ((da→qa)∧(db→qb))) (h:(ca→a)→(cb→b)→p:=by first|exact fun k l=>ahv ⟨_,rfl,k,l⟩|exact asf|exact asg|fail)
  (ea:ca→da:=by exact zcx) (eb:cb→db:=by exact zcx)
  (ha:da→ZW qa→a:=by (first|(intro hc hq;first|exact znh|exact atJ)|fail))
  (hb:db→ZW qb→b:=by (first|(intro hc hq;first|exact znh|exact atJ)|fail))
  (h1:ZF qa:=by first|with_reducible exact ZF.u|exact ZF.t _) (h2:ZF qb:=by first|with_reducible exact ZF.u|exact ZF.t _):p:=h (fun c=>ha (ea c) ⟨hq.1.1 (ea c)⟩) (fun c=>hb (eb c) ⟨hq.1.2 (eb c)⟩)
theorem zgo {p q:Prop} (k:q) (h:ZW q→p:=by (first|(intro hq;exact atJ)|fail)) (h1:ZF q:=by first|with_reducible exact ZF.u|exact ZF.t _):p:=h ⟨k⟩
theorem zbx {p a b ca cb da db:Prop} (h:(ca→a)→(cb→b)→p:=by first|exact fun k l=>ahv ⟨_,rfl,k,l⟩|exact asf|exact asg|fail)
  (ea:ca→da:=by exact zcx) (eb:cb→db:=by exact zcx)
  (ha:da→a:=by (first|(intro hc;first|exact znh|exact zg)|fail))
  (hb:db→b:=by (first|(intro hc;first|exact znh|exact zg)|fail)):p:=h (fun c=>ha (ea c)) (fun c=>hb (eb c))
theorem zg {p:Prop} (h:p:=by first|((repeat' (first|(refine zsk ?_;intro K' hK)|refine zsp ?_|exact zbx|(refine zrg ?_;intro K' hK)|simp (maxSteps:=1000000) only [go_sem,zx,Int.toNat_natCast,zk,Nat.reduceAdd,Nat.reduceMul,Nat.reduceEqDiff,Nat.reduceLeDiff,Nat.reduceLT,Nat.reduceSub,Int.reduceEq,Int.reduceBEq,Int.reduceLT,Int.reduceLE,Int.reduceAdd,Int.reduceToNat,reduceIte,reduceCtorEq]|simp (maxSteps:=1000000) only [go_sem,Nat.reduceAdd,Nat.reduceMul,Nat.reduceEqDiff,Nat.reduceLeDiff,Nat.reduceLT,Nat.reduceSub,Int.reduceEq,Int.reduceBEq,Int.reduceLT,Int.reduceLE,Int.reduceAdd,Int.reduceToNat,reduceIte,reduceCtorEq]|(refine hK _ ?_;clear hK K')|apply zan|(apply QJ;(focus exact zca))|(refine zis ?_;first|(apply wG;(focus exact rfl);(focus exact zpc);(focus exact rfl);(focus exact rfl))|(apply wD;(focus exact zpc))|(apply aoR;(focus exact zpc))|(apply aqR;(focus exact rfl);(focus exact zpc);(focus exact rfl);(focus exact zse))|(apply Vq;(focus exact rfl);(focus exact zpc);(focus exact rfl);(focus exact zse)))|(refine zir ?_;first|(apply Jn;(focus exact zca))|(apply xz;(focus exact rfl);(focus exact zrd);(focus exact zrd);(focus exact zpc);(focus exact rfl);(focus exact rfl);(focus exact zrd))|(apply akq;(focus exact zpc))|(apply xy;(focus exact zpc);(focus exact zrd)))|exact zsq|exact zr|(simp only [*];exact zr)|(subst hc;exact zr)|fail));done)|fail):p:=h
theorem zc3 {p:Prop} (h:p:=by first|exact Qm _ _|exact agx.cells_closed _|exact YG _|simp only [V.closed,Qd,and_self,and_true,true_and]):p:=h
theorem zet {p:Prop} (h:p:=by first|(simp only [Nat.reduceAdd,ovT,Yr,Nat.reduceEqDiff,reduceIte,Ui,qP,amQ,u32,u33,u34,u35,u36,u37,u38,u39,and_self,and_true,true_and];done)|(simp only [Nat.reduceAdd,ovT,Yr,Nat.reduceEqDiff,reduceIte,Ui,qP,amQ,u32,u33,u34,u35,u36,u37,u38,u39,and_self,and_true,true_and];rfl)|fail):p:=h
theorem zoe {p:Prop} (h:p:=by intro a ha;simp only [u32,u33,u34,u35,u36,u37,u38,u39];repeat rw [if_neg (by omega)]):p:=h
theorem zlt {p:Prop} (h:p:=by intro i hi;simp only [ovT,Yr,Nat.reduceEqDiff,reduceIte];(repeat' first|exact jT|refine Kn ?_ ?_|simp only [V.lt,ltL,and_self,and_true]|omega)):p:=h
theorem zol {p:Prop} (h:p:=by repeat' first|exact apK|refine arx (by omega) (by simp only [Ob.lt,ltL,V.lt,and_self,and_true];try omega) ?_):p:=h
@[go_sem] abbrev vi0:Value:=.int .i64 0
@[go_sem] abbrev vs0:Value:=.string ⟨#[]⟩
@[go_sem] abbrev vn0:Value:=.slice none 0 0
def aoO:OP→List AO
 | .done=>[]
 | .one _ _ _ x t=>x :: aoO t
 | .or _ _ _ x t _=>x :: aoO t
def och:Nat→Nat→OT
 | _,0=>.done
 | i,n + 1=>.one i (och (i + 1) n)
@[go_sem] def oN (j:Nat) (x:AO) (t:OP):OP:=.one j false [] x t
attribute [go_sem] ajX ame V.ren jg Qf V.lt ltL Ob.weak KK
attribute [go_sem_proc] Int.reduceAdd Int.reduceBEq Int.reduceEq Int.reduceLE Int.reduceLT Int.reduceToNat Nat.reduceAdd Nat.reduceEqDiff Nat.reduceLT Nat.reduceLeDiff Nat.reduceMul Nat.reduceSub reduceCtorEq reduceIte
end Av
end
