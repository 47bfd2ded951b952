/- Regions whose order is open: effects as patches, and what commutes. -/
import Derived.Test.YtphclkkggijicaaGreatDoorB8
set_option linter.unusedVariables false
set_option linter.unusedSimpArgs false
section
namespace Av
open Go
def AOp.opds:AOp→List Opd
 | .mov x=>[x]
 | .mknil _=>[]
 | .pick c x y=>[c,x,y]
 | .alloc _=>[]
 | .box _ _ x=>[x]
 | .build _ ps=>ps.map (·.2.2)
 | .bslice _ _ _ _ ps=>ps.map (·.2)
 | .obslice _ _ _ _ ps=>ps.map (·.2)
 | .load _ _ a=>[a]
 | .store _ a x=>[a,x]
 | .nilck x=>[x]
 | .bin _ x y=>[x,y]
 | .eqb _ x y=>[x,y]
 | .isnil _ x=>[x]
 | .isnilI _ x=>[x]
 | .idS x=>[x]
 | .eqagg _ _ x y=>[x,y]
 | .un _ x=>[x]
 | .convI _ x=>[x]
 | .convSB x=>[x]
 | .convBS x=>[x]
 | .mkfn _ cap=>cap
 | .mkslice _ _ _ _ l c=>[l,c]
 | .slstr x lo hi=>x :: (lo.toList++hi.toList)
 | .slsl _ x lo hi=>x :: (lo.toList++hi.toList)
 | .faddr _ x=>[x]
 | .fld _ _ _ x=>[x]
 | .iaddr _ x i=>[x,i]
 | .iaddrA _ _ x i=>[x,i]
 | .idxS x i=>[x,i]
 | .idxA _ _ _ x i=>[x,i]
 | .ext x _=>[x]
 | .call _ as=>as
 | .callv x as=>x :: as
 | .lenS x=>[x]
 | .lenL x=>[x]
 | .lenC _ x=>[x]
 | .append _ _ _ x y=>[x,y]
 | .appendS _ x y=>[x,y]
 | .allocT _ _=>[]
 | .copy _ x y=>[x,y]
 | .mm _ xs=>xs
 | .mkif x=>[x]
 | .mkmap=>[]
 | .mapset _ _ x k v=>[x,k,v]
 | .mapget _ _ _ _ _ x k=>[x,k]
 | .maplen x=>[x]
 | .mapclr x=>[x]
 | .rng x=>[x]
 | .nxt x=>[x]
 | .ent x=>[x]
 | .isnilF _ x=>[x]
 | .clrS _ _ _ x=>[x]
theorem alN (b:Nat) {ρ ρ':Opd→V} (aop:AOp) (h:∀ x∈aop.opds,ρ x = ρ' x):sem b ρ aop = sem b ρ' aop:=by
 cases aop<;>simp only [AOp.opds] at h
 case build zs ps =>
  have e:∀ p∈ps,ρ p.2.2 = ρ' p.2.2:=by grind
  have e1:ps.map (fun p=>(p.1,(ρ p.2.2).cells)) = ps.map (fun p=>(p.1,(ρ' p.2.2).cells)):=by grind [List.map_congr_left]
  have e2:(∀ p∈ps,(ρ p.2.2).cells.length = p.2.1∧p.1 + p.2.1≤zs.length∧ρ p.2.2≠.top∧∀ vs,ρ p.2.2≠.tup vs) = (∀ p∈ps,(ρ' p.2.2).cells.length = p.2.1∧p.1 + p.2.1≤zs.length∧ρ' p.2.2≠.top∧∀ vs,ρ' p.2.2≠.tup vs):=by
   grind
  simp only [sem,e1,e2]
 case bslice n sz ag zs ps =>
  have e:∀ p∈ps,ρ p.2 = ρ' p.2:=by grind
  have e1:ps.map (fun p=>(p.1,ρ p.2)) = ps.map (fun p=>(p.1,ρ' p.2)):=by grind [List.map_congr_left]
  have e2:(∀ p∈ps,p.1 < n∧xH ag sz (ρ p.2)∧(ρ p.2).closed) = (∀ p∈ps,p.1 < n∧xH ag sz (ρ' p.2)∧(ρ' p.2).closed):=by
   grind
  simp only [sem,e1,e2]
 case obslice n sz ag zs ps =>
  have e:∀ p∈ps,ρ p.2 = ρ' p.2:=by grind
  have e1:ps.map (fun p=>(p.1,ρ p.2)) = ps.map (fun p=>(p.1,ρ' p.2)):=by grind [List.map_congr_left]
  have e2:(∀ p∈ps,p.1 < n∧xH ag sz (ρ p.2)) = (∀ p∈ps,p.1 < n∧xH ag sz (ρ' p.2)):=by
   grind
  simp only [sem,e1,e2]
 case slstr x lo hi =>
  have e0:=h x (by simp)
  have e1:lo.map ρ = lo.map ρ':=by cases lo<;>simp;exact h _ (by simp)
  have e2:hi.map ρ = hi.map ρ':=by cases hi<;>simp;exact h _ (by simp)
  simp only [sem,e0,e1,e2]
 case slsl sz x lo hi =>
  have e0:=h x (by simp)
  have e1:lo.map ρ = lo.map ρ':=by cases lo<;>simp;exact h _ (by simp)
  have e2:hi.map ρ = hi.map ρ':=by cases hi<;>simp;exact h _ (by simp)
  simp only [sem,e0,e1,e2]
 case mkfn f cap=>simp only [sem,kj h]
 case mm mx xs=>simp only [sem,kj h]
 all_goals simp_all [sem]
def AO.looks (x:AO):List Nat:=(x.op.opds.filterMap fun|.t i=>some i|_=>none)++(match x.g with|some (g,_)=>[g]|none=>[])
theorem aon {s s':St} {x:AO} (h:∀ i∈x.looks,s.t i = s'.t i):∀ y∈x.op.opds,s.ev y = s'.ev y:=by
 intro y hy
 cases y with
 | c v=>rfl
 | t i=>exact h i (by grind [AO.looks])
def WL (A:Nat→Prop) [DecidablePred A] (o:Nat→Option Ob) (a:Nat):Option Ob:=if A a then o a else none
def jU (p o:Nat→Option Ob) (a:Nat):Option Ob:=match p a with|some x=>some x|none=>o a
def noP:Nat→Option Ob:=fun _=>none
theorem AM.wp_mono {α:Type} {o o':Nat→Option Ob} (ho:∀ a x,o a = some x→o' a = some x):∀ (m:AM α) (K K':α→Prop),(∀ x,K x→K' x)→m.wp o K→m.wp o' K'
 | .no,_,_,_,h=>h
 | .ret _,_,_,hk,h=>hk _ h
 | .asrt _ m,_,_,hk,h=>⟨h.1,AM.wp_mono ho m _ _ hk h.2⟩
 | .rd _ k,_,_,hk,h=>by obtain ⟨ob,h1,h2⟩:=h;exact ⟨ob,ho _ _ h1,AM.wp_mono ho (k ob) _ _ hk h2⟩
 | .any k,_,_,hk,h=>fun b=>AM.wp_mono ho (k b) _ _ hk (h b)
 | .anyN _ k,_,_,hk,h=>⟨h.1,fun i hi=>AM.wp_mono ho (k i) _ _ hk (h.2 i hi)⟩
theorem acG {A:Nat→Prop} [DecidablePred A] {o:Nat→Option Ob}:∀ a x,WL A o a = some x→o a = some x:=by
 grind [WL]
theorem agS (o:Nat→Option Ob):∀ (os:List (Nat×Ob)) (p:Nat→Option Ob),xv (jU p o) os = jU (xv p os) o
 | [],_=>rfl
 | (a,x) :: r,p=>by
  simp only [xv]
  rw [← agS o r]
  congr 1
  funext c
  grind [jU,Qi,QH]
theorem aeB (o:Nat→Option Ob) (os:List (Nat×Ob)):xv o os = jU (xv noP os) o:=by
 have:=agS o os noP
 have e:jU noP o = o:=by funext a;simp [jU,noP]
 grind
theorem wU (σ:Nat→Nat) (o:Nat→Option Ob):∀ (outs:List Ob) (b:Nat),YK σ b outs o = jU (YK σ b outs noP) o
 | [],_=>by funext a;simp [jU,noP,YK]
 | x :: r,b=>by
   simp only [YK]
   rw [wU σ o r]
   funext c
   grind [jU,Qi,QH]
theorem aaT (σ:Nat→Nat) (o:Nat→Option Ob) (b:Nat):∀ (br:List Nat) (outs:List Ob),YD σ b br outs o = jU (YD σ b br outs noP) o
 | [],outs=>by grind [YD,wU]
 | a :: br,[]=>by grind [YD,wU]
 | a :: br,x :: outs=>by
   simp only [YD]
   rw [aaT σ o b br outs]
   funext c
   grind [jU,Qi,QH]
theorem al0 {p q o:Nat→Option Ob} (h:∀ a,p a = none∨q a = none):jU p (jU q o) = jU q (jU p o):=by
 funext a
 rcases h a with e|e<;>simp [jU,e]
theorem aeG (p q o:Nat→Option Ob):jU p (jU q o) = jU (jU p q) o:=by
 funext a
 cases h:p a<;>simp [jU,h]
def ajO (B:Option (List Nat)) (br:List Nat) (o:Nat→Option Ob) (a:Nat):Option Ob :=
 match B with
 | none=>none
 | some l=>if a∈l∧a ∉ br then (o a).map Ob.frz else none
theorem ahi (B:Option (List Nat)) (br:List Nat) (o:Nat→Option Ob):j3 B br o = jU (ajO B br o) o:=by
 funext a
 cases B with
 | none=>rfl
 | some l =>
   simp only [j3,jU,ajO]
   by_cases h:a∈l∧a ∉ br
   ·rw [if_pos h,if_pos h]
    cases o a<;>rfl
   grind
def abf (Γ:Env) (A W:Nat→Prop) [DecidablePred A] (b:Nat) (s:St) (aop:AOp) (v:V) (p:Nat→Option Ob):Prop :=
 let call (f:FuncId) (acts:List V):Prop:=∃ args ins res outs br B,Ev Γ f args ins res outs∧QE (WL A s.o) br B acts args∧alo (WL A s.o) br B br ins∧br.Nodup∧(∀ x∈br,x < b∧W x) ∧
  ins.length≤outs.length∧outs.length - ins.length < KK∧(B = none→res.noSl∧∀ x∈outs,x.noSl)∧(∀ l,B = some l→∀ x∈l,A x∧W x)∧v = res.ren (sig br b)∧p = jU (YD (sig br b) b br outs noP) (ajO B br (WL A s.o))
 match aop with
 | .call f as=>call f (as.map s.ev)
 | .callv x as=>(match s.ev x with|.clo f cap=>call f.f (f.args (as.map s.ev) cap)|_=>False)
 | aop=>(sem b s.ev aop).wp (WL A s.o) (fun e=>v = e.v∧p = xv noP e.os∧∀ q∈e.os,W q.1∨(b≤q.1∧q.1 < b + KK))
def eff (Γ:Env) (A W:Nat→Prop) [DecidablePred A] (b:Nat) (s:St) (x:AO) (v:V) (p:Nat→Option Ob):Prop :=
 match x.g with
 | none=>abf Γ A W b s x.op v p
 | some (g,want)=>∃ q,isG (s.t g) q∧(q = some want→abf Γ A W b s x.op v p)∧(q≠some want→v = V.und∧p = noP)
def St.app (s:St) (d:Option Nat) (v:V) (p:Nat→Option Ob):St:={ t:=(s.put d v).t,o:=jU p s.o,n:=s.n }
mutual
theorem amV {o o':Nat→Option Ob} (ho:∀ a x,o a = some x→o' a = some x) (br:List Nat) (B:Option (List Nat)):∀ (act exp:V),conv o br B act exp→conv o' br B act exp
 | act,exp,h=>by
   cases exp with
   | top=>cases act<;>simp [conv]
   | sl s' ys =>
     cases act with
     | hd a off len =>
       simp only [conv] at h ⊢
       obtain ⟨h1,h2,h⟩:=h
       rcases h with ⟨wr,xs,h3,h4⟩|⟨wr,xs,h3,h4,h5⟩
       ·exact ⟨h1,h2,.inl ⟨wr,xs,ho _ _ h3,h4⟩⟩
       ·exact ⟨h1,h2,.inr ⟨wr,xs,ho _ _ h3,XP ho br B _ ys h4,h5⟩⟩
     | sc u =>
       cases u with
       | slice a l c=>cases a<;>cases l<;>cases c<;>exact h
       | _=>exact h
     | _=>exact h
   | ro cells off' =>
     cases act with
     | ptr a off =>
       simp only [conv] at h ⊢
       obtain ⟨h1,h2,h3,h4,wr,cs,h5,h6⟩:=h
       exact ⟨h1,h2,h3,h4,wr,cs,ho _ _ h5,XP ho br B cs cells h6⟩
     | _=>exact h
   | agg es =>
     cases act with
     | agg cs=>simp only [conv] at h ⊢;exact XP ho br B cs es h
     | _=>exact h
   | tup es =>
     cases act with
     | tup cs=>simp only [conv] at h ⊢;exact XP ho br B cs es h
     | _=>exact h
   | clo f es =>
     cases act with
     | clo g cs=>simp only [conv] at h ⊢;exact ⟨h.1,XP ho br B cs es h.2⟩
     | _=>exact h
   | _=>cases act<;>exact h
theorem XP {o o':Nat→Option Ob} (ho:∀ a x,o a = some x→o' a = some x) (br:List Nat) (B:Option (List Nat)):∀ (acts exps:List V),QE o br B acts exps→QE o' br B acts exps
 | [],[],_=>trivial
 | [],_ :: _,h=>h.elim
 | _ :: _,[],h=>h.elim
 | v :: r,e :: r',h=>⟨amV ho br B v e h.1,XP ho br B r r' h.2⟩
end
theorem aeV {o o':Nat→Option Ob} (ho:∀ a x,o a = some x→o' a = some x) (br:List Nat) (B:Option (List Nat)):∀ (xs ys:List V),VY o br B xs ys→VY o' br B xs ys
 | [],[],_=>trivial
 | [],_ :: _,h=>h.elim
 | _ :: _,[],h=>h.elim
 | x :: r,y :: r',h=>⟨XP ho br B _ _ h.1,aeV ho br B r r' h.2⟩
theorem ag4 {o o':Nat→Option Ob} (ho:∀ a x,o a = some x→o' a = some x) (br:List Nat) (B:Option (List Nat)):∀ (l:List Nat) (ins:List Ob),alo o br B l ins→alo o' br B l ins
 | [],[],_=>trivial
 | [],_ :: _,h=>h.elim
 | _ :: _,[],h=>h.elim
 | a :: r,y :: r',h=>by
   obtain ⟨⟨x,h1,h2⟩,h3⟩:=h
   refine ⟨⟨x,ho _ _ h1,?_⟩,ag4 ho br B r r' h3⟩
   clear h1 h3
   induction x generalizing y with
   | dead=>cases y<;>exact h2
   | typ T x ih =>
     cases y with
     | typ T' y=>exact ⟨h2.1,ih y h2.2⟩
     | _=>exact False.elim h2
   | box wr cs =>
     cases wr<;>cases y<;>try exact h2
     rename_i wr' es
     cases wr'
     ·exact h2
     ·exact XP ho br B _ _ h2
   | buf wr s xs =>
     cases wr<;>cases y<;>try exact h2
     rename_i wr' s' ys
     cases wr'<;>exact h2
   | obuf wr s xs =>
     cases wr<;>cases y<;>try exact h2
     rename_i wr' s' ys
     cases wr'
     ·exact h2
     ·exact ⟨h2.1,aeV ho br B _ _ h2.2⟩
   | map ks vs c0=>cases y<;>exact h2
   | iter a since seen last=>cases y<;>exact h2
section
variable {Γ:Env} {A W:Nat→Prop} [DecidablePred A] {b:Nat} {s:St} {v:V} {p:Nat→Option Ob} {K:St→Prop}
theorem aeT {aop:AOp} {d:Option Nat} (h:abf Γ A W b s aop v p) (hk:K (s.app d v p)):akd Γ b s d aop K:=by
 have call:∀ f acts,(∃ args ins res outs br B,Ev Γ f args ins res outs∧QE (WL A s.o) br B acts args∧alo (WL A s.o) br B br ins∧br.Nodup∧(∀ x∈br,x < b∧W x) ∧
   ins.length≤outs.length∧outs.length - ins.length < KK∧(B = none→res.noSl∧∀ x∈outs,x.noSl)∧(∀ l,B = some l→∀ x∈l,A x∧W x)∧v = res.ren (sig br b)∧p = jU (YD (sig br b) b br outs noP) (ajO B br (WL A s.o)))→xM Γ b s d f acts K:=by
  rintro f acts ⟨args,ins,res,outs,br,B,h1,h2,h3,h4,h5,h6,h7,h8,h9,rfl,rfl⟩
  refine Yx ⟨args,ins,res,outs,br,B,h1,XP acG _ _ _ _ h2,ag4 acG _ _ _ _ h3,h4,by grind,h6,h7,h8,?_⟩
  have e:ajO B br (WL A s.o) = ajO B br s.o:=by
   funext a
   cases B with
   | none=>rfl
   | some l =>
     simp only [ajO]
     by_cases h:a∈l∧a ∉ br
     ·rw [if_pos h,if_pos h,WL,if_pos (h9 l rfl a h.1).1]
     grind
  rw [aaT,ahi,aeG,← e]
  exact hk
 have plain:∀ m:AM E,m.wp (WL A s.o) (fun e=>v = e.v∧p = xv noP e.os∧∀ q∈e.os,W q.1∨(b≤q.1∧q.1 < b + KK))→m.wp s.o fun e=>K (s.eff d e):=by
  intro m hm
  refine AM.wp_mono acG m _ _ ?_ hm
  rintro e ⟨rfl,rfl,_⟩
  have:s.eff d e = s.app d e.v (xv noP e.os):=by
   simp only [St.eff,St.app]
   rw [← aeB]
   cases d<;>rfl
  rw [this];exact hk
 cases aop
 case call f as=>exact call f _ h
 case callv y as =>
  grind [abf,akd]
 all_goals exact plain _ h
theorem aos {x:AO} (h:eff Γ A W b s x v p) (hk:K (s.app x.d v p)) :
  match x.g with
  | none=>akd Γ b s x.d x.op K
  | some (g,want)=>∃ q,isG (s.t g) q∧(q = some want→akd Γ b s x.d x.op K)∧(q≠some want→K (s.put x.d V.und)):=by
 unfold eff at h
 cases hg:x.g with
 | none=>grind [aeT]
 | some gw =>
   obtain ⟨g,want⟩:=gw
   simp only [hg] at h
   obtain ⟨q,h1,h2,h3⟩:=h
   refine ⟨q,h1,fun e=>aeT (h2 e) hk,fun e=>?_⟩
   obtain ⟨rfl,rfl⟩:=h3 e
   have:s.app x.d V.und noP = s.put x.d V.und:=by
    have e:jU noP s.o = s.o:=by funext a;simp [jU,noP]
    cases x.d<;>simp [St.app,St.put,e]
   grind
theorem ai0 {s':St} {aop:AOp} (ht:∀ y∈aop.opds,s.ev y = s'.ev y) (ho:WL A s.o = WL A s'.o) (h:abf Γ A W b s aop v p):abf Γ A W b s' aop v p:=by
 cases aop
 case call f as =>
  grind [abf,AOp.opds,List.map_congr_left]
 case callv y as =>
  simp only [abf,AOp.opds] at h ht ⊢
  rw [← ho,← kj (fun z hz=>ht z (by simp [hz])),← ht y (by simp)];exact h
 all_goals
  simp only [abf] at h ⊢
  rw [← ho,← alN b _ ht];exact h
theorem ahA {s':St} {x:AO} (ht:∀ i∈x.looks,s.t i = s'.t i) (ho:WL A s.o = WL A s'.o) (h:eff Γ A W b s x v p):eff Γ A W b s' x v p:=by
 grind [ai0,aon,eff,AO.looks]
theorem agR:∀ (os:List (Nat×Ob)) (q:Nat→Option Ob) (a:Nat),xv q os a≠none→q a≠none∨∃ e∈os,e.1 = a
 | [],q,a,h=>.inl h
 | (c,x) :: r,q,a,h=>by
  rcases agR r _ a h with h1|⟨e,h1,h2⟩
  ·by_cases hc:a = c
   ·simp_all
   grind [QH]
  grind
theorem aeS {aop:AOp} (h:abf Γ A W b s aop v p):∀ a,p a≠none→W a∨(b≤a∧a < b + KK):=by
 intro a ha
 have call:∀ f acts,(∃ args ins res outs br B,Ev Γ f args ins res outs∧QE (WL A s.o) br B acts args∧alo (WL A s.o) br B br ins∧br.Nodup∧(∀ x∈br,x < b∧W x) ∧
   ins.length≤outs.length∧outs.length - ins.length < KK∧(B = none→res.noSl∧∀ x∈outs,x.noSl)∧(∀ l,B = some l→∀ x∈l,A x∧W x)∧v = res.ren (sig br b)∧p = jU (YD (sig br b) b br outs noP) (ajO B br (WL A s.o)))→W a∨(b≤a∧a < b + KK):=by
  rintro f acts ⟨args,ins,res,outs,br,B,h1,h2,h3,h4,h5,h6,h7,h8,h9,rfl,rfl⟩
  obtain ⟨hlen,_⟩:=acj h3
  by_cases hfr:ajO B br (WL A s.o) a = none
  ·have ha:YD (sig br b) b br outs noP a≠none:=by grind [jU]
   rcases acK (sig br b) b br outs noP a (by omega) (fun x hx=>(h5 x hx).1) h4 with ⟨k,x,e1,_,_⟩|⟨_,j,x,rfl,e2,_⟩|⟨_,e2,_⟩
   ·grind
   ·grind
   ·exact (ha e2).elim
  ·cases B with
   | none=>exact (hfr rfl).elim
   | some l =>
     simp only [ajO] at hfr
     grind
 have plain:∀ m:AM E,m.wp (WL A s.o) (fun e=>v = e.v∧p = xv noP e.os∧∀ q∈e.os,W q.1∨(b≤q.1∧q.1 < b + KK))→W a∨(b≤a∧a < b + KK):=by
  intro m
  induction m with
  | no=>intro h;exact h.elim
  | ret e =>
    rintro ⟨rfl,rfl,hq⟩
    rcases agR e.os noP a ha with h1|⟨q,h1,rfl⟩
    ·exact (h1 rfl).elim
    ·exact hq q h1
  | asrt q m ih=>intro h;exact ih h.2
  | rd c k ih=>rintro ⟨ob,_,h⟩;exact ih _ h
  | any k ih=>intro h;exact ih true (h true)
  | anyN l k ih =>
    rintro ⟨h1,h2⟩
    obtain ⟨i,r,rfl⟩:=List.exists_cons_of_ne_nil h1
    exact ih i (h2 i (by simp))
 cases aop
 case call f as=>exact call f _ h
 case callv y as =>
  simp only [abf] at h
  split at h
  ·exact call _ _ h
  ·exact h.elim
 all_goals exact plain _ h
theorem ajS {x:AO} (h:eff Γ A W b s x v p):∀ a,p a≠none→W a∨(b≤a∧a < b + KK):=by
 unfold eff at h
 cases hg:x.g with
 | none=>simp only [hg] at h;exact aeS h
 | some gw =>
   obtain ⟨g,want⟩:=gw
   simp only [hg] at h
   obtain ⟨q,h1,h2,h3⟩:=h
   by_cases e:q = some want
   ·exact aeS (h2 e)
   ·obtain ⟨_,rfl⟩:=h3 e
    intro a ha;exact (ha rfl).elim
end
theorem akg {s:St} {d:Option Nat} {v:V} {p:Nat→Option Ob} {i:Nat} (h:d≠some i):(s.app d v p).t i = s.t i:=by
 cases d with
 | none=>rfl
 | some k=>exact QH _ _ (fun e=>h (by rw [e]))
theorem aoS {s:St} {d e:Option Nat} {v u:V} {p q:Nat→Option Ob} (hde:∀ k,d = some k→e≠some k) (hpq:∀ a,p a = none∨q a = none):(s.app d v p).app e u q = (s.app e u q).app d v p:=by
 have ho:jU q (jU p s.o) = jU p (jU q s.o):=al0 (fun a=>(hpq a).symm)
 have ht:((s.app d v p).put e u).t = ((s.app e u q).put d v).t:=by
  cases d with
  | none=>cases e<;>rfl
  | some k =>
    cases e with
    | none=>rfl
    | some l =>
      have hkl:l≠k:=by grind
      funext i
      simp only [St.app,St.put,upd]
      grind
 simp only [St.app] at ht ⊢
 rw [ho]
 congr 1
theorem aor {Γ:Env} {A W A' W':Nat→Prop} [DecidablePred A] [DecidablePred A'] {b b':Nat} {s:St} {x y:AO} {v u:V} {p q:Nat→Option Ob}
  (h1:∀ k,x.d = some k→k ∉ y.looks∧y.d≠some k) (h2:∀ k,y.d = some k→k ∉ x.looks)
  (a1:∀ a,(W a∨(b≤a∧a < b + KK))→¬ A' a) (a2:∀ a,(W' a∨(b'≤a∧a < b' + KK))→¬ A a) (a3:∀ a,(W a∨(b≤a∧a < b + KK))→¬ (W' a∨(b'≤a∧a < b' + KK)))
  (hx:eff Γ A W b s x v p) (hy:eff Γ A' W' b' (s.app x.d v p) y u q) :
  eff Γ A' W' b' s y u q∧eff Γ A W b (s.app y.d u q) x v p∧(s.app x.d v p).app y.d u q = (s.app y.d u q).app x.d v p:=by
 have sp:=ajS hx
 have sq:=ajS hy
 have keep:∀ (B:Nat→Prop) [DecidablePred B] (r o:Nat→Option Ob),(∀ a,r a≠none→¬ B a)→WL B (jU r o) = WL B o:=by
  intro B _ r o h
  funext a
  unfold WL
  split
  ·rename_i hB
   have:r a = none:=by
    cases hr:r a with
    | none=>rfl
    | some z=>exact (h a (by simp [hr]) hB).elim
   simp [jU,this]
  ·rfl
 refine ⟨ahA (fun i hi=>akg fun e=>(h1 i e).1 hi) (keep A' p s.o (fun a ha=>a1 a (sp a ha))) hy,
  ahA (fun i hi=>(akg fun e=>h2 i e hi).symm) (keep A q s.o (fun a ha=>a2 a (sq a ha))).symm hx,aoS (fun k hk=>(h1 k hk).2) (fun a=>?_)⟩
 cases hp:p a with
 | none=>exact .inl rfl
 | some z =>
   right
   cases hq:q a with
   | none=>rfl
   | some z'=>exact (a3 a (sp a (by simp [hp])) (sq a (by simp [hq]))).elim
end Av
end
section
namespace Av
open Go
def AOp.isX:AOp→Bool
 | .store ..|.append ..|.appendS ..|.copy ..|.mapset ..|.mapclr ..|.nxt ..|.clrS ..=>true
 | _=>false
def AOp.allocs:AOp→Bool
 | .mknil _|.alloc _|.box ..|.allocT ..|.bslice ..|.obslice ..|.convSB _|.mkslice ..|.append ..|.appendS ..|.call ..|.callv ..|.mkmap|.rng ..=>true
 | _=>false
def AOp.det:AOp→Bool
 | .isnil ..|.nxt ..=>false
 | _=>true
def AOp.pureV:AOp→Bool
 | .mov _|.pick _ _ _|.build _ _|.bin _ _ _|.un _ _|.eqb _ _ _|.convI _ _|.ext _ _|.mm _ _|.faddr _ _|.lenL _|.lenS _=>true
 | _=>false
def arM:List AO→Nat→List (Option Nat×List Nat)→List (List Nat)
 | [],_,_=>[]
 | x :: r,j,pre =>
   let l:=x.looks
   let a:=((pre.filter fun e=>match e.1 with|some d=>l.contains d|none=>false).flatMap (·.2)).eraseDups
   (if x.op.pureV then [] else a) :: arM r (j + 1) ((x.d,if x.op.allocs then j :: a else a) :: pre)
structure RI where
 x:AO
 X:Bool
 acl:List Nat
 ahead:List Nat
def akq (L:List Nat):List AO→List (List Nat)→List (List Nat)→Nat→List RI
 | x :: r,a :: as,h :: hs,j=>⟨x,x.op.isX || L.contains j,a,h⟩ :: akq L r as hs (j + 1)
 | _,_,_,_=>[]
def ris (ops:List AO) (ahead:List (List Nat)) (L:List Nat):List RI:=akq L ops (arM ops 0 []) ahead 0
def RI.inR (r:RI) (b0 a:Nat):Bool:=r.acl.any fun i=>decide (b0 + i * KK≤a) && decide (a < b0 + i * KK + KK)
def RI.A (r:RI) (fz:Nat→Bool) (b0 a:Nat):Bool:=(decide (a < b0) && (r.X || fz a)) || r.inR b0 a
def RI.W (r:RI) (fz:Nat→Bool) (b0 a:Nat):Bool:=r.X && ((decide (a < b0) && !fz a) || r.inR b0 a)
def anj (d:Option Nat) (l:List Nat):Bool:=match d with|some k=>!l.contains k|none=>true
def RI.comm (r q:RI) (i j:Nat):Bool :=
 anj r.x.d q.x.looks && anj q.x.d r.x.looks && (match r.x.d with|some k=>q.x.d != some k|none=>true) &&
  !(r.X && q.X) && !q.acl.contains i && !r.acl.contains j && (!(r.X || q.X) || r.acl.all fun k=>!q.acl.contains k)
theorem amB {r:RI} {b0 a:Nat}:r.inR b0 a = true↔∃ i∈r.acl,b0 + i * KK≤a∧a < b0 + i * KK + KK:=by
 simp [RI.inR,kG]
theorem acF {b0 i j a:Nat} (h:b0 + i * KK≤a∧a < b0 + i * KK + KK) (h':b0 + j * KK≤a∧a < b0 + j * KK + KK):i = j:=by
 grind [KK]
theorem aq4 {b0 i a:Nat} (h:b0 + i * KK≤a∧a < b0 + i * KK + KK):b0≤a:=by omega
theorem RI.A_cases {r:RI} {fz:Nat→Bool} {b0 a:Nat} (h:r.A fz b0 a = true):(a < b0∧(r.X = false→fz a = true))∨∃ i∈r.acl,b0 + i * KK≤a∧a < b0 + i * KK + KK:=by
 simp only [RI.A,kA,zA,zS] at h
 rcases h with ⟨h0,h⟩|h
 ·grind
 ·exact .inr (amB.1 h)
theorem RI.W_cases {r:RI} {fz:Nat→Bool} {b0 a:Nat} (h:r.W fz b0 a = true):r.X = true∧((a < b0∧fz a = false)∨∃ i∈r.acl,b0 + i * KK≤a∧a < b0 + i * KK + KK):=by
 simp only [RI.W,zA,kA] at h
 obtain ⟨h1,h⟩:=h
 refine ⟨h1,?_⟩
 rcases h with h|h
 ·left;simpa using h
 ·exact .inr (amB.1 h)
theorem aeY {r q:RI} {i j:Nat} {fz:Nat→Bool} {b0:Nat} (hij:i≠j) (hx:¬ (r.X = true∧q.X = true)) (hq:i ∉ q.acl) (hr:j ∉ r.acl) (hs:(r.X = true∨q.X = true)→∀ k∈r.acl,k ∉ q.acl) :
  ∀ a,(r.W fz b0 a = true∨(b0 + i * KK≤a∧a < b0 + i * KK + KK))→¬ q.A fz b0 a = true∧¬ (q.W fz b0 a = true∨(b0 + j * KK≤a∧a < b0 + j * KK + KK)):=by
 intro a ha
 rcases ha with ha|ha
 ·obtain ⟨rx,ha⟩:=RI.W_cases ha
  have qx:q.X = false:=by
   grind
  grind [RI.A_cases,aq4,acF,RI.W_cases]
 ·refine ⟨fun hA=>?_,fun hW=>?_⟩
  ·rcases RI.A_cases hA with ⟨h1,_⟩|⟨k,h1,h2⟩
   ·grind
   grind [acF]
  ·rcases hW with hW|hW
   ·rcases (RI.W_cases hW).2 with ⟨h1,_⟩|⟨k,h1,h2⟩
    ·grind
    grind [acF]
   ·exact hij (acF ha hW)
theorem amW {r q:RI} {i j:Nat} (h:r.comm q i j = true) :
  (∀ k,r.x.d = some k→k ∉ q.x.looks∧q.x.d≠some k)∧(∀ k,q.x.d = some k→k ∉ r.x.looks)∧¬ (r.X = true∧q.X = true)∧i ∉ q.acl∧j ∉ r.acl∧((r.X = true∨q.X = true)→∀ k∈r.acl,k ∉ q.acl):=by
 simp only [RI.comm,zA,kA,Bool.not_eq_true',kZ,kQ] at h
 grind [anj]
end Av
end
section
namespace Av
open Go
inductive OT where
 | done
 | one (i:Nat) (t:OT)
 | or (i:Nat) (t r:OT)
def ins (l:Nat→Bool) (i:Nat) (a:Nat):Bool:=a == i || l a
theorem aoc (l:Nat→Bool) (i j:Nat):ins (ins l i) j = ins (ins l j) i:=by
 funext a
 simp only [ins]
 cases (a == i)<;>cases (a == j)<;>rfl
def rdy (rs:List RI) (l:Nat→Bool):List Nat:=(List.range rs.length).filter fun j=>!l j && (match rs[j]? with|some r=>r.ahead.all l|none=>false)
theorem wW {rs:List RI} {l:Nat→Bool} {j:Nat}:j∈rdy rs l↔l j = false∧∃ r,rs[j]? = some r∧∀ k∈r.ahead,l k = true:=by
 grind [rdy]
def OT.heads:OT→List Nat
 | .or i _ r=>i :: r.heads
 | _=>[]
def agw (rs:List RI) (l:Nat→Bool):Nat→Nat→Nat→Bool
 | 0,_,_=>false
 | f + 1,j,i=>match rs[j]? with|some q=>q.ahead.any fun k=>k == i || (!l k && agw rs l f k i)|none=>false
theorem agP {rs:List RI} {l:Nat→Bool} {i j:Nat} (hj:j∈rdy rs l) (hi:l i = false) (f:Nat):agw rs l f j i = false:=by
 obtain ⟨_,q,hq,hk⟩:=wW.1 hj
 cases f with
 | zero=>rfl
 | succ f =>
   grind [agw]
theorem alt {rs:List RI} {l:Nat→Bool} {i j:Nat} (hj:j∈rdy rs l) (hi:l i = false):∀ (f m:Nat),agw rs l f m i = true→agw rs (ins l j) f m i = true:=by
 intro f
 induction f with
 | zero=>intro m h;exact h
 | succ f ih =>
   intro m h
   simp only [agw] at h ⊢
   split at h
   ·rename_i q hq
    obtain ⟨k,hkm,hk⟩:=kG.1 h
    refine kG.2 ⟨k,hkm,?_⟩
    simp only [kA,kC,zA,Bool.not_eq_true'] at hk ⊢
    grind [agP,ins]
   ·cases h
def jY (rs:List RI) (l:Nat→Bool) (i:Nat):Bool :=
 match rs[i]? with
 | none=>false
 | some r=>(List.range rs.length).all fun j=>j == i || l j || match rs[j]? with|some q=>q.ahead.contains i || (r.comm q i j || agw rs l 6 j i)|none=>true
mutual
def chk (rs:List RI):(Nat→Bool)→OT→Bool
 | l,.done=>(rdy rs l).isEmpty
 | l,.one i t=>(rdy rs l).contains i && jY rs l i && chk rs (ins l i) t
 | l,.or i t r=>(rdy rs l).contains i && (rdy rs l).all (fun j=>j == i || r.heads.contains j) && chk rs (ins l i) t && ajX rs l r
def ajX (rs:List RI):(Nat→Bool)→OT→Bool
 | l,.or i t r=>chk rs (ins l i) t && ajX rs l r
 | _,_=>true
end
section
variable (Γ:Env) (fz:Nat→Bool) (b0:Nat) (rs:List RI) (K:St→Prop)
def xc (j:Nat) (K:St→Prop) (s:St):Prop :=
 match rs[j]? with
 | none=>K s
 | some r=>∃ v p,eff Γ (fun a=>r.A fz b0 a = true) (fun a=>r.W fz b0 a = true) (b0 + j * KK) s r.x v p∧K (s.app r.x.d v p)
def arO:Nat→(Nat→Bool)→St→Prop
 | 0,l,s=>rdy rs l = []∧K s
 | f + 1,l,s=>(rdy rs l = []→K s)∧∀ j∈rdy rs l,xc Γ fz b0 rs j (arO f (ins l j)) s
def awT:OT→St→Prop
 | .done,s=>K s
 | .one i t,s=>xc Γ fz b0 rs i (awT t) s
 | .or i t r,s=>xc Γ fz b0 rs i (awT t) s∧awT' r s
where awT':OT→St→Prop
 | .or i t r,s=>xc Γ fz b0 rs i (awT t) s∧awT' r s
 | _,_=>True
variable {Γ:Env} {fz:Nat→Bool} {b0:Nat} {rs:List RI} {K:St→Prop}
theorem aeu {j:Nat} {K K':St→Prop} {s:St} (hk:∀ s,K s→K' s) (h:xc Γ fz b0 rs j K s):xc Γ fz b0 rs j K' s:=by
 grind [xc]
theorem aff {l:Nat→Bool} {i j:Nat} (hj:j∈rdy rs l) (hne:j≠i):j∈rdy rs (ins l i):=by
 grind [wW,ins]
theorem jX {l:Nat→Bool} {i:Nat} (h:jY rs l i = true):∃ r,rs[i]? = some r∧∀ j q,rs[j]? = some q→j≠i→l j = false→i ∉ q.ahead→agw rs l 6 j i = false→r.comm q i j = true:=by
 unfold jY at h
 grind
theorem ag2 {l:Nat→Bool} {i j:Nat} (hj:j∈rdy rs l) (hi:l i = false) (h:jY rs l i = true):jY rs (ins l j) i = true:=by
 obtain ⟨r,hr,_⟩:=jX h
 ·simp only [jY,hr] at h ⊢
  refine kB.2 fun k hk=>?_
  have:=kB.1 h k hk
  simp only [kA] at this ⊢
  rcases this with (h1|h1)|h1
  ·exact .inl (.inl h1)
  ·grind [ins]
  ·refine .inr ?_
   split at h1
   ·rename_i q hq
    simp only [hq,kA] at h1 ⊢
    grind [alt]
   grind
theorem anl {i:Nat}:∀ (f:Nat) (l:Nat→Bool) (s:St),i∈rdy rs l→jY rs l i = true→xc Γ fz b0 rs i (arO Γ fz b0 rs K f (ins l i)) s→arO Γ fz b0 rs K (f + 1) l s:=by
 intro f
 induction f with
 | zero =>
   intro l s hi hm h
   refine ⟨by grind,fun j hj=>?_⟩
   by_cases hji:j = i
   ·subst hji;exact h
   ·exfalso
    have hj':=aff hj hji
    obtain ⟨r,hr,_⟩:=jX hm
    unfold xc at h
    simp only [hr] at h
    obtain ⟨v,p,_,h2⟩:=h
    rw [h2.1] at hj'
    cases hj'
 | succ f ih =>
   intro l s hi hm h
   refine ⟨by grind,fun j hj=>?_⟩
   by_cases hji:j = i
   ·subst hji;exact h
   ·obtain ⟨r,hr,hcomm⟩:=jX hm
    obtain ⟨hlj,q,hq,hah⟩:=wW.1 hj
    obtain ⟨hli,_,_,_⟩:=wW.1 hi
    have hnot:i ∉ q.ahead:=by grind
    have hc:=hcomm j q hq hji hlj hnot (agP hj hli 6)
    obtain ⟨c1,c2,c3,c4,c5,c6⟩:=amW hc
    have ap:=aeY (fz:=fz) (b0:=b0) (Ne.symm hji) c3 c4 c5 c6
    have ap':=aeY (fz:=fz) (b0:=b0) hji (fun e=>c3 ⟨e.2,e.1⟩) c5 c4 (fun e k hk hk'=>c6 e.symm k hk' hk)
    unfold xc at h
    simp only [hr] at h
    obtain ⟨v,p,h1,h2⟩:=h
    have h3:=h2.2 j (aff hj hji)
    unfold xc at h3
    simp only [hq] at h3
    obtain ⟨u,p',h4,h5⟩:=h3
    obtain ⟨w1,w2,w3⟩:=aor c1 c2 (fun a ha=>(ap a ha).1) (fun a ha=>(ap' a ha).1) (fun a ha=>(ap a ha).2) h1 h4
    unfold xc
    simp only [hq]
    refine ⟨u,p',w1,ih (ins l j) _ (aff hi (Ne.symm hji)) (ag2 hj hli hm) ?_⟩
    unfold xc
    simp only [hr]
    grind [aoc]
def unl (rs:List RI) (l:Nat→Bool):Nat:=((List.range rs.length).filter fun j=>!l j).length
theorem vY {p q:Nat→Bool}:∀ (xs:List Nat) {i:Nat},i∈xs→p i = true→q i = false→(∀ a,q a = true→p a = true)→(xs.filter q).length < (xs.filter p).length
 | [],_,h,_,_,_=>by cases h
 | x :: xs,i,h,hp,hq,hs=>by
   have le:∀ ys:List Nat,(ys.filter q).length≤(ys.filter p).length:=by
    intro ys
    induction ys with
    | nil=>exact zi _
    | cons y ys ih =>
      grind
   rcases zp.1 h with rfl|h'
   ·grind
   ·have ih:=vY xs h' hp hq hs
    grind
theorem alw {l:Nat→Bool} {i:Nat} (h:i∈rdy rs l):unl rs (ins l i) < unl rs l:=by
 obtain ⟨h1,r,h2,_⟩:=wW.1 h
 refine vY _ (i:=i) (by grind) (by simp [h1]) (by simp [ins]) (fun a ha=>?_)
 grind [ins]
end
end Av
end
section
namespace Av
open Go
section
variable {Γ:Env} {fz:Nat→Bool} {b0:Nat} {rs:List RI} {K:St→Prop}
theorem ann {l:Nat→Bool}:∀ (r:OT) (s:St),ajX rs l r = true→awT.awT' Γ fz b0 rs K r s→∀ j∈r.heads,∃ t:OT,SizeOf.sizeOf t < SizeOf.sizeOf r∧chk rs (ins l j) t = true∧xc Γ fz b0 rs j (awT Γ fz b0 rs K t) s
 | .done,_,_,_,j,h=>by simp [OT.heads] at h
 | .one _ _,_,_,_,j,h=>by simp [OT.heads] at h
 | .or i t r,s,hc,h,j,hj=>by
   simp only [ajX,zA] at hc
   simp only [awT.awT'] at h
   simp only [OT.heads,zp] at hj
   rcases hj with rfl|hj
   ·grind
   ·obtain ⟨t',h1,h2,h3⟩:=ann r s hc.2 h.2 j hj
    grind
theorem aoT:∀ (k:Nat) (ot:OT) (l:Nat→Bool) (f:Nat) (s:St),SizeOf.sizeOf ot≤k→unl rs l≤f→chk rs l ot = true→awT Γ fz b0 rs K ot s→arO Γ fz b0 rs K f l s:=by
 intro k
 induction k with
 | zero=>intro ot l f s hk;cases ot<;>simp at hk
 | succ k ih =>
   intro ot l f s hk hf hc h
   cases ot with
   | done =>
     simp only [chk,List.isEmpty_iff] at hc
     cases f with
     | zero=>exact ⟨hc,h⟩
     | succ f=>exact ⟨fun _=>h,by grind⟩
   | one i t =>
     simp only [chk,zA,kZ,zS] at hc
     obtain ⟨⟨h1,h2⟩,h3⟩:=hc
     have hu:=alw h1
     cases f with
     | zero=>omega
     | succ f =>
       grind [anl,awT,aeu]
   | or i t r =>
     simp only [chk,zA,kZ,zS] at hc
     obtain ⟨⟨⟨h1,h2⟩,h3⟩,h4⟩:=hc
     have hu:=alw h1
     simp only [awT] at h
     cases f with
     | zero=>omega
     | succ f =>
       refine ⟨by grind,fun j hj=>?_⟩
       have huj:=alw hj
       have hmem:=kB.1 h2 j hj
       simp only [kA,kC,zS] at hmem
       grind [aeu,ann]
end
section
variable {C:Ctx} {nt:Nat}
def Ul (b0:Nat) (l:Nat→Bool) (x:Nat):Prop:=x < b0∨∃ j,l j = true∧b0 + j * KK≤x∧x < b0 + j * KK + KK
theorem agI {U:Nat→Prop} {s:St} {a:Act} {w:World} (hs:aga C nt U s a w) {d:Option Nat} (hd:∀ k,d = some k→k < nt):aga C nt U (s.put d V.und) (a.put d undef) w:=by
 obtain ⟨Z,μ,hg,ht,hf,hd0,hn⟩:=hs
 exact ⟨Z,μ,by rw [St.put_o];exact hg,aix ht hn hd alU,hf,aaS.trans hd0,afg.trans hn⟩
theorem arh {ops:Array Oper} {Q:Exit→Act→World→Prop} {U:Nat→Prop} {n j:Nat} {s:St} {a:Act} {w:World} (hs:aga C nt U s a w) (hm:C.m≤n) (hfr:∀ x,n≤x→x < n + KK→¬ U x)
  {o:Oper} (ho:ops[j]? = some o) {x:AO} (hc:ak3 C.P nt ops o = some x) {K:St→Prop} {next:Act→World→Prop}
  (h:match x.g with
    | none=>akd C.env n s x.d x.op K
    | some (g,want)=>∃ q,isG (s.t g) q∧(q = some want→akd C.env n s x.d x.op K)∧(q≠some want→K (s.put x.d V.und)))
  (hk:∀ s' a' w',K s'→aga C nt (fun x=>U x∨(n≤x∧x < n + KK)) s' a' w'→next a' w'):wpOp C.P ops Q j next a w:=by
 obtain ⟨c1,c2,c3,c4⟩:=aeX hc
 have run:akd C.env n s x.d x.op K→o.wp C.P a w next Q:=by
  grind [apc]
 simp only [wpOp,ho]
 cases hg:x.g with
 | none =>
   simp only [hg] at h
   rw [hg] at c2
   have:o.guard = none:=by
    cases hgu:o.guard with
    | none=>rfl
    | some p =>
      grind [aby]
   simp_all [acu,if_true]
 | some p =>
   obtain ⟨g,want⟩:=p
   simp only [hg] at h
   obtain ⟨q,hq,hq1,hq2⟩:=h
   rw [hg] at c2
   cases hgu:o.guard with
   | none=>grind [aby]
   | some p =>
     obtain ⟨j',want'⟩:=p
     rw [hgu] at c2
     simp only [aby] at c2
     split at c2
     ·rename_i g' hg'
      simp only [zd,Prod.mk.injEq] at c2
      obtain ⟨rfl,rfl⟩:=c2
      have hy:yielded ops a.tmps j' = q:=by
       obtain ⟨Z,μ,_,ht,_⟩:=hs
       exact aoZ ht hg' hq
      rw [als hgu hy]
      by_cases hqw:q = some want'
      ·grind
      ·simp only [hqw,decide_false,zk,if_false]
       refine hk _ _ _ (hq2 hqw) ?_
       rw [c3]
       exact (agI hs c4).mono (fun x hx=>.inl hx)
     ·cases c2
theorem ank {ops:Array Oper} {Q:Exit→Act→World→Prop} {rs:List RI} (hlen:rs.length = ops.size)
  (hrs:∀ (j:Nat) (r:RI) (o:Oper),rs[j]? = some r→ops[j]? = some o→ak3 C.P nt ops o = some r.x∧r.ahead = (o.after.toList.filter (Region.binds .any)).map (·.on)) {b0:Nat} (hm:C.m≤b0) {fz:Nat→Bool} {K:St→Prop}
  (hQ:∀ s a w l,(∀ j,l j = true→j < ops.size)→K s→aga C nt (Ul b0 l) s a w→Q .normal a w) :
  ∀ (f:Nat) (listed:Array Bool) (l:Nat→Bool) (s:St) (a:Act) (w:World),listed.size = ops.size→(∀ j,listed.getD j false = l j)→aga C nt (Ul b0 l) s a w→arO C.env fz b0 rs K f l s→wpAny C.P .any ops Q f listed a w:=by
 have hready:∀ (listed:Array Bool) (l:Nat→Bool),listed.size = ops.size→(∀ j,listed.getD j false = l j)→∀ j,j∈Region.ready .any ops listed↔j∈rdy rs l:=by
  intro listed l hsz hl j
  rw [mem_ready,wW]
  constructor
  ·rintro ⟨h1,o,ho,h2⟩
   have hj:=(zU.1 ho).1
   have hr:rs[j]? = some (rs[j]'(by omega)):=by grind
   grind
  ·rintro ⟨h1,r,hr,h2⟩
   have hj:j < ops.size:=by grind
   have ho:ops[j]? = some ops[j]:=by grind
   grind
 have hin:∀ (listed:Array Bool) (l:Nat→Bool),listed.size = ops.size→(∀ j,listed.getD j false = l j)→∀ j,l j = true→j < ops.size:=by
  grind
 intro f
 induction f with
 | zero =>
   intro listed l s a w hsz hl hs h
   refine ⟨?_,hQ s a w l (hin listed l hsz hl) h.2 hs⟩
   cases hr:Region.ready .any ops listed with
   | nil=>rfl
   | cons i r =>
     have:i∈rdy rs l:=(hready listed l hsz hl i).1 (by rw [hr];simp)
     rw [h.1] at this;cases this
 | succ f ih =>
   intro listed l s a w hsz hl hs h
   refine ⟨fun hr=>hQ s a w l (hin listed l hsz hl) (h.1 ?_) hs,fun j hj=>?_⟩
   ·cases hr':rdy rs l with
    | nil=>rfl
    | cons i r =>
      have:i∈Region.ready .any ops listed:=by grind
      grind
   ·have hj':=(hready listed l hsz hl j).1 hj
    have hst:=h.2 j hj'
    obtain ⟨hlj,r,hr,_⟩:=wW.1 hj'
    have hjs:j < ops.size:=by grind
    have ho:ops[j]? = some ops[j]:=by grind
    unfold xc at hst
    simp only [hr] at hst
    obtain ⟨v,p,h1,h2⟩:=hst
    have hreal:=aos h1 h2
    refine arh hs (by omega) (fun x hx hx' hu=>?_) ho (hrs j r _ hr ho).1 hreal (fun s' a' w' hk' hs'=>?_)
    ·rcases hu with hu|⟨i,hi,hi'⟩
     ·omega
     grind [acF]
    ·refine ih (listed.setIfInBounds j true) (ins l j) s' a' w' (by simpa using hsz) (fun k=>?_) (hs'.mono fun x hx=>?_) hk'
     ·by_cases hkj:k = j
      ·subst hkj;simp [ins,hsz,hjs]
      ·rw [getD_set_ne false (Ne.symm hkj),hl];simp [ins,hkj]
     ·rcases hx with (hx|⟨i,hi,hi'⟩)|hx
      ·exact .inl hx
      ·exact .inr ⟨i,by simp [ins,hi],hi'⟩
      ·exact .inr ⟨j,by simp [ins],hx⟩
theorem adv:∀ (ops:List AO) (j:Nat) (pre:List (Option Nat×List Nat)),(arM ops j pre).length = ops.length
 | [],_,_=>rfl
 | x :: r,j,pre=>by simp [arM,adv r]
theorem agL (L:List Nat):∀ (ops:List AO) (as hs:List (List Nat)) (k:Nat),as.length = ops.length→hs.length = ops.length →
  (akq L ops as hs k).length = ops.length∧∀ (j:Nat) (r:RI),(akq L ops as hs k)[j]? = some r→ops[j]? = some r.x∧hs[j]? = some r.ahead
 | [],_,_,_,_,_=>by simp [akq]
 | x :: r,[],_,_,h,_=>by simp at h
 | x :: r,_ :: _,[],_,_,h=>by simp at h
 | x :: r,a :: as,h :: hs,k,h1,h2=>by
   obtain ⟨l1,l2⟩:=agL L r as hs (k + 1) (by simpa using h1) (by simpa using h2)
   grind [akq]
theorem ahC {P:Program} {n:Nat} {ops:Array Oper}:∀ {l:List Oper} {xs:List AO},ahD P n ops l = some xs→l.length = xs.length∧∀ (j:Nat) (o:Oper) (x:AO),l[j]? = some o→xs[j]? = some x→ak3 P n ops o = some x
 | [],xs,h=>by grind [ahD]
 | o :: l,xs,h=>by
   simp only [ahD] at h
   split at h
   ·rename_i a b h1 h2
    simp only [zd] at h;subst h
    obtain ⟨l1,l2⟩:=ahC h2
    grind
   ·cases h
theorem Sim.drew {n:Nat} {s:St} {a:Act} {w w':World} (h:Sim C nt n s a w) (hw:w'.heap = w.heap) (ho:Vq C.dr w w':=by exact .mk):Sim C nt n s a w':=by
 obtain ⟨Z,μ,hg,ht,hf,hm,hd,hn⟩:=h
 exact ⟨Z,μ,hg.heap hw ho,fun i=>(Evo.heap (b:=0) (K:=0) (μ:=μ) hw).rep (ht i),hf,hm,hd,hn⟩
variable {s:St} {K:St→Prop} {E:Nat→St→Prop} {R:St→Prop}
theorem aoH {ops:List AO} {ahead:List (List Nat)} (L:List Nat) (fz:Nat→Bool) (ot:OT) (hc:chk (ris ops ahead L) (fun _=>false) ot = true)
  (h:awT C.env fz s.n (ris ops ahead L) (fun s'=>K (s'.wn (s.n + ops.length * KK))) ot s):AWp C nt (.regD ops ahead) s K E R:=by
 intro code hcc a w hs
 cases code<;>simp only [xf] at hcc
 case region id ops' draw =>
  simp only [ze] at hcc
  obtain ⟨l,hl,he⟩:=hcc
  cases draw
  ·simp at he
  ·simp only [if_true,AC.regD.injEq] at he
   obtain ⟨rfl,rfl⟩:=he
   obtain ⟨q1,q2⟩:=ahC hl
   have hsz:ops'.size = l.length:=by simpa using q1
   obtain ⟨r1,r2⟩:=agL L l (arM l 0 []) (adu ops') 0 (adv _ _ _) (by simp [adu,hsz])
   have hm:C.m≤s.n:=by obtain ⟨_,_,_,_,_,hm,_⟩:=hs;exact hm
   refine wp_region_any C.mix (ank (nt:=nt) (rs:=ris l (adu ops') L) (b0:=s.n) (fz:=fz) (K:=fun s'=>K (s'.wn (s.n + l.length * KK))) (by rw [ris,r1,hsz]) (fun j r o hr ho=>?_) hm (fun s' a' w' ll hll hk hs'=>?_) ops'.size _ (fun _=>false) s a _ (by simp) (fun j=>?_) ?_ ?_)
   ·obtain ⟨e1,e2⟩:=r2 j r hr
    grind [adu,Option.some.injEq]
   ·refine ⟨_,hk,?_⟩
    have:Sim C nt (s.n + l.length * KK) s' a' w':=hs'.toSim (fun x hx=>?_) (by omega)
    ·exact this.any rfl rfl
    ·rcases hx with hx|⟨j,hj,hj'⟩
     ·omega
     grind [KK,Nat.mul_le_mul_right,Nat.add_mul]
   ·simp [Array.getElem?_replicate];split<;>rfl
   ·have hs1:Sim C nt s.n s a { w with drawn:=w.drawn + 1 }:=hs.drew rfl
    exact hs1.toU.mono fun x hx=>.inl hx
   ·refine aoT _ ot _ _ s (zi _) ?_ hc h
    grind [unl,Nat.le_trans,List.length_filter_le,ris]
 all_goals first
  | (cases hcc;done)
  | (simp only [ze] at hcc;obtain ⟨_,_,he⟩:=hcc;cases he;done)
  | (split at hcc<;>simp at hcc;done)
end
end Av
end
section
namespace Av
open Go
def AM.noAny {α:Type}:AM α→Prop
 | .no=>True
 | .ret _=>True
 | .asrt _ m=>m.noAny
 | .rd _ k=>∀ ob,(k ob).noAny
 | .any _=>False
 | .anyN _ _=>False
theorem AM.det_wp {α:Type} {o:Nat→Option Ob} {P:α→Prop}:∀ (m:AM α),m.noAny→m.wp o P→∃ e,P e∧m.wp o (fun x=>x = e)
 | .no,_,h=>h.elim
 | .ret e,_,h=>⟨e,h,rfl⟩
 | .asrt _ m,hn,h=>by obtain ⟨e,h1,h2⟩:=AM.det_wp m hn h.2;exact ⟨e,h1,h.1,h2⟩
 | .rd _ k,hn,h=>by
   obtain ⟨ob,h0,h⟩:=h
   obtain ⟨e,h1,h2⟩:=AM.det_wp (k ob) (hn ob) h
   exact ⟨e,h1,ob,h0,h2⟩
 | .any _,hn,_=>hn.elim
 | .anyN _ _,hn,_=>hn.elim
theorem amk {α:Type} {v:V} {k:Int→AM α} (h:∀ n,(k n).noAny):(AM.int v k).noAny:=by
 unfold AM.int;split
 ·exact h _
 ·trivial
theorem amj {α:Type} {v:V} {k:ByteArray→AM α} (h:∀ n,(k n).noAny):(AM.str v k).noAny:=by
 unfold AM.str;split
 ·exact h _
 ·trivial
theorem aiE {α:Type} {v:V} {sz:Nat} {k:List V→AM α} (h:∀ n,(k n).noAny):(AM.slice v sz k).noAny:=by
 unfold AM.slice;split
 ·exact h _
 ·intro ob
  simp only
  split
  ·exact h _
  ·trivial
 ·exact h _
 ·trivial
theorem agZ {α:Type} {v:V} {sz:Nat} {k:Bool→List V→AM α} (h:∀ op n,(k op n).noAny):(AM.sliceK v sz k).noAny:=by
 unfold AM.sliceK;split
 ·exact h _ _
 ·intro ob
  simp only
  split
  ·exact h _ _
  ·exact h _ _
  ·trivial
 ·exact h _ _
 ·trivial
theorem afm {α:Type} {v:V} {k:List V→Nat→AM α} (h:∀ n m,(k n m).noAny):(AM.cellsAt v k).noAny:=by
 unfold AM.cellsAt;split
 ·intro ob;simp only;split
  ·exact h _ _
  ·exact h _ _
  ·trivial
 ·intro ob;simp only;split
  ·split
   ·exact h _ _
   ·trivial
  ·split
   ·exact h _ _
   ·trivial
  ·trivial
 ·exact h _ _
 ·trivial
theorem akH (op:BinOp) (k:IntKind) (a b:Int):(aoD op k a b).noAny:=by
 cases op<;>simp [aoD,AM.noAny]
theorem akG (op:BinOp) (a b:ByteArray):(abF op a b).noAny:=by
 cases op<;>simp [abF,AM.noAny]
theorem alM (b:Nat) (ρ:Opd→V) (aop:AOp) (h:aop.det = true):(sem b ρ aop).noAny:=by
 cases aop<;>simp only [sem]
 case isnil=>simp [AOp.det] at h
 case nxt=>simp [AOp.det] at h
 all_goals
  repeat' first
   | trivial
   | exact akH _ _ _ _
   | exact akG _ _ _
   | (refine amk fun _=>?_)
   | (refine amj fun _=>?_)
   | (refine aiE fun _=>?_)
   | (refine agZ fun _ _=>?_)
   | (refine afm fun _ _=>?_)
   | (intro ob;simp only;split)
   | (simp only [AM.noAny];done)
   | split
   | (simp only [AM.noAny])
inductive OP where
 | done
 | one (j:Nat) (X:Bool) (acl:List Nat) (x:AO) (t:OP)
 | or (j:Nat) (X:Bool) (acl:List Nat) (x:AO) (t r:OP)
def jx (rs:List RI):OT→OP
 | .done=>.done
 | .one i t=>match rs[i]? with|some r=>.one i r.X r.acl r.x (jx rs t)|none=>jx rs t
 | .or i t r=>match rs[i]? with|some q=>.or i q.X q.acl q.x (jx rs t) (jx rs r)|none=>.done
def okT (rs:List RI):OT→Bool
 | .done=>true
 | .one i t=>(match rs[i]? with|some r=>r.x.op.det|none=>false) && okT rs t
 | .or i t r=>(match rs[i]? with|some q=>q.x.op.det|none=>false) && okT rs t && okT rs r
def rA (X:Bool) (acl:List Nat) (fz:Nat→Bool) (b0 a:Nat):Bool:=(decide (a < b0) && (X || fz a)) || acl.any fun i=>decide (b0 + i * KK≤a) && decide (a < b0 + i * KK + KK)
def rW (X:Bool) (acl:List Nat) (fz:Nat→Bool) (b0 a:Nat):Bool:=X && ((decide (a < b0) && !fz a) || acl.any fun i=>decide (b0 + i * KK≤a) && decide (a < b0 + i * KK + KK))
def Jt (A:Nat→Bool) (o:Nat→Option Ob) (a:Nat):Option Ob:=if A a = true then o a else none
def QP (Γ:Env) (A W:Nat→Bool) (b:Nat) (s:St) (d:Option Nat) (f:FuncId) (acts:List V) (K:St→Prop):Prop :=
 ∃ args ins res outs br B,Ev Γ f args ins res outs∧QE (Jt A s.o) br B acts args∧alo (Jt A s.o) br B br ins∧br.Nodup∧(∀ x∈br,x < b∧W x = true) ∧
  ins.length≤outs.length∧outs.length - ins.length < KK∧(B = none→res.noSl∧∀ x∈outs,x.noSl)∧(∀ l,B = some l→∀ x∈l,A x = true∧W x = true) ∧
  K { t:=(s.put d (res.ren (sig br b))).t,o:=YD (sig br b) b br outs (j3 B br s.o),n:=s.n }
def okW (W:Nat→Bool) (b:Nat) (os:List (Nat×Ob)):Prop:=os.all (fun q=>W q.1 || (decide (b≤q.1) && decide (q.1 < b + KK))) = true
def anc (Γ:Env) (A W:Nat→Bool) (b:Nat) (s:St) (d:Option Nat) (aop:AOp) (K:St→Prop):Prop :=
 match aop with
 | .call f as=>QP Γ A W b s d f (as.map s.ev) K
 | .callv x as=>(match s.ev x with|.clo f cap=>QP Γ A W b s d f.f (f.args (as.map s.ev) cap) K|_=>False)
 | aop=>(sem b s.ev aop).wp (Jt A s.o) fun e=>okW W b e.os∧K (s.eff d e)
def awG (Γ:Env) (A W:Nat→Bool) (b:Nat) (s:St) (x:AO) (K:St→Prop):Prop :=
 match x.g with
 | none=>anc Γ A W b s x.d x.op K
 | some (g,want)=>∃ q,isG (s.t g) q∧(q = some want→anc Γ A W b s x.d x.op K)∧(q≠some want→K (s.put x.d V.und))
section
variable (Γ:Env) (fz:Nat→Bool) (b0:Nat) (K:St→Prop)
mutual
def awP:OP→St→Prop
 | .done,s=>K s
 | .one j X acl x t,s=>awG Γ (rA X acl fz b0) (rW X acl fz b0) (b0 + j * KK) s x (awP t)
 | .or j X acl x t r,s=>awG Γ (rA X acl fz b0) (rW X acl fz b0) (b0 + j * KK) s x (awP t)∧aqD r s
def aqD:OP→St→Prop
 | .or j X acl x t r,s=>awG Γ (rA X acl fz b0) (rW X acl fz b0) (b0 + j * KK) s x (awP t)∧aqD r s
 | _,_=>True
end
end
section
variable {Γ:Env} {fz:Nat→Bool} {b0:Nat} {rs:List RI} {K:St→Prop}
theorem apP {s:St} {d:Option Nat} {e:E}:s.eff d e = s.app d e.v (xv noP e.os):=by
 simp only [St.eff,St.app]
 rw [← aeB]
 cases d<;>rfl
theorem ajT {A W:Nat→Bool} {b:Nat} {s:St} {d:Option Nat} {aop:AOp} (hd:aop.det = true) (h:anc Γ A W b s d aop K) :
  ∃ v p,abf Γ (fun a=>A a = true) (fun a=>W a = true) b s aop v p∧K (s.app d v p):=by
 have hr:Jt A s.o = WL (fun a=>A a = true) s.o:=rfl
 have call:∀ f acts,QP Γ A W b s d f acts K→∃ v p,(∃ args ins res outs br B,Ev Γ f args ins res outs∧QE (WL (fun a=>A a = true) s.o) br B acts args∧alo (WL (fun a=>A a = true) s.o) br B br ins∧br.Nodup∧(∀ x∈br,x < b∧W x = true) ∧
   ins.length≤outs.length∧outs.length - ins.length < KK∧(B = none→res.noSl∧∀ x∈outs,x.noSl)∧(∀ l,B = some l→∀ x∈l,A x = true∧W x = true)∧v = res.ren (sig br b)∧p = jU (YD (sig br b) b br outs noP) (ajO B br (WL (fun a=>A a = true) s.o)))∧K (s.app d v p):=by
  rintro f acts ⟨args,ins,res,outs,br,B,h1,h2,h3,h4,h5,h6,h7,h8,h9,h10⟩
  refine ⟨_,_,⟨args,ins,res,outs,br,B,h1,h2,h3,h4,h5,h6,h7,h8,h9,rfl,rfl⟩,?_⟩
  have e:ajO B br (WL (fun a=>A a = true) s.o) = ajO B br s.o:=by
   funext a
   cases B with
   | none=>rfl
   | some l =>
     simp only [ajO]
     by_cases h:a∈l∧a ∉ br
     ·rw [if_pos h,if_pos h,WL,if_pos (h9 l rfl a h.1).1]
     grind
  rw [aaT,ahi,aeG,← e] at h10
  exact h10
 have plain:∀ m:AM E,m.noAny→m.wp (Jt A s.o) (fun e=>okW W b e.os∧K (s.eff d e)) →
   ∃ v p,m.wp (WL (fun a=>A a = true) s.o) (fun e=>v = e.v∧p = xv noP e.os∧∀ q∈e.os,W q.1 = true∨(b≤q.1∧q.1 < b + KK))∧K (s.app d v p):=by
  intro m hn hm
  obtain ⟨e,⟨h1,h2⟩,h3⟩:=AM.det_wp m hn hm
  refine ⟨e.v,xv noP e.os,AM.wp_mono (fun _ _ h=>h) m _ _ ?_ h3,by rw [← apP];exact h2⟩
  rintro x rfl
  refine ⟨rfl,rfl,fun q hq=>?_⟩
  have:=kB.1 h1 q hq
  simpa using this
 have hns:=alM b s.ev aop hd
 cases aop
 case call f as=>exact call f _ h
 case callv y as =>
  grind [anc,abf]
 all_goals exact plain _ hns h
theorem amR {A W:Nat→Bool} {b:Nat} {s:St} {x:AO} (hd:x.op.det = true) (h:awG Γ A W b s x K) :
  ∃ v p,eff Γ (fun a=>A a = true) (fun a=>W a = true) b s x v p∧K (s.app x.d v p):=by
 unfold awG at h
 unfold eff
 cases hg:x.g with
 | none=>grind [ajT]
 | some gw =>
   obtain ⟨g,want⟩:=gw
   simp only [hg] at h ⊢
   obtain ⟨q,h1,h2,h3⟩:=h
   by_cases hq:q = some want
   ·grind [ajT]
   ·refine ⟨V.und,noP,⟨q,h1,fun h=>(hq h).elim,by grind⟩,?_⟩
    have:s.app x.d V.und noP = s.put x.d V.und:=by
     have e:jU noP s.o = s.o:=by funext a;simp [jU,noP]
     cases x.d<;>simp [St.app,St.put,e]
    grind
theorem ae4:∀ (ot:OT),okT rs ot = true→(∀ s,awP Γ fz b0 K (jx rs ot) s→awT Γ fz b0 rs K ot s)∧(∀ s,aqD Γ fz b0 K (jx rs ot) s→awT.awT' Γ fz b0 rs K ot s)
 | .done,_=>⟨fun s h=>h,fun _ _=>trivial⟩
 | .one i t,hk=>by
   simp only [okT,zA] at hk
   refine ⟨fun s h=>?_,fun _ _=>trivial⟩
   cases hr:rs[i]? with
   | none=>simp [hr] at hk
   | some r =>
     simp only [hr] at hk
     simp only [jx,hr,awP] at h
     simp only [awT,xc,hr]
     obtain ⟨v,p,h1,h2⟩:=amR hk.1 h
     exact ⟨v,p,h1,(ae4 t hk.2).1 _ h2⟩
 | .or i t r,hk=>by
   simp only [okT,zA] at hk
   cases hr:rs[i]? with
   | none=>simp [hr] at hk
   | some q =>
     simp only [hr] at hk
     refine ⟨fun s h=>?_,fun s h=>?_⟩
     ·simp only [jx,hr,awP] at h
      simp only [awT,xc,hr]
      obtain ⟨v,p,h1,h2⟩:=amR hk.1.1 h.1
      exact ⟨⟨v,p,h1,(ae4 t hk.1.2).1 _ h2⟩,(ae4 r hk.2).2 _ h.2⟩
     ·simp only [jx,hr,aqD] at h
      simp only [awT.awT',xc,hr]
      obtain ⟨v,p,h1,h2⟩:=amR hk.1.1 h.1
      exact ⟨⟨v,p,h1,(ae4 t hk.1.2).1 _ h2⟩,(ae4 r hk.2).2 _ h.2⟩
end
section
variable {C:Ctx} {nt:Nat} {s:St} {K:St→Prop} {E:Nat→St→Prop} {R:St→Prop}
def okR (ops:List AO) (ahead:List (List Nat)) (L:List Nat) (ot:OT):Bool:=chk (ris ops ahead L) (fun _=>false) ot && okT (ris ops ahead L) ot
theorem aoJ {ops:List AO} {ahead:List (List Nat)} (L:List Nat) (fz:Nat→Bool) (ot:OT) (p:OP) (hc:okR ops ahead L ot = true) (hp:jx (ris ops ahead L) ot = p)
  (h:awP C.env fz s.n (fun s'=>K (s'.wn (s.n + ops.length * KK))) p s):AWp C nt (.regD ops ahead) s K E R:=by
 simp only [okR,zA] at hc
 subst hp
 exact aoH L fz ot hc.1 ((ae4 ot hc.2).1 s h)
end
theorem ai7 {Γ:Env} {A W:Nat→Bool} {b:Nat} {s:St} {d:Option Nat} {f:FuncId} {acts args:List V} {res:V} {K:St→Prop} (h:Ev Γ f args [] res []) (hc:QE (Jt A s.o) [] none acts args) (hr:res.ren (sig [] b) = res) (hn:res.noSl)
  (hk:K { t:=(s.put d res).t,o:=s.o,n:=s.n }):QP Γ A W b s d f acts K:=by
 refine ⟨args,[],res,[],[],none,h,hc,trivial,zV,by grind,zi _,by simp [KK],by grind,by grind,?_⟩
 rw [hr]
 exact hk
theorem ajP (br:List Nat) (o:Nat→Option Ob):j3 (some []) br o = o:=by funext a;simp [j3]
theorem am3 {Γ:Env} {A W:Nat→Bool} {b:Nat} {s:St} {d:Option Nat} {f:FuncId} {acts args:List V} {res:V} {K:St→Prop} (h:Ev Γ f args [] res []) (hc:QE (Jt A s.o) [] (some []) acts args) (hr:res.ren (sig [] b) = res)
  (hk:K { t:=(s.put d res).t,o:=s.o,n:=s.n }):QP Γ A W b s d f acts K:=by
 refine ⟨args,[],res,[],[],some [],h,hc,trivial,zV,by grind,zi _,by simp [KK],fun h=>(by cases h),by grind,?_⟩
 rw [hr,ajP]
 exact hk
end Av
end
section
namespace Av
open Go
abbrev Ue (_ks:List Nat) (a b:AC):AC:=.seq a b
abbrev afn (_ks:List Nat) (a:AC):AC:=.loop a
abbrev apO (_L:List Nat) (_ot:OT) (_p:OP) (ops:List AO) (ahead:List (List Nat)):AC:=.regD ops ahead
def St.keep (ks:List Nat) (s:St):St:={ t:=jz (ks.map fun k=>(k,s.t k)),o:=s.o,n:=s.n }
section
variable {C:Ctx} {nt:Nat} {s:St} {K:St→Prop} {E:Nat→St→Prop} {R:St→Prop}
theorem aeM (t:Nat→V):∀ (ks:List Nat) (i:Nat),jz (ks.map fun k=>(k,t k)) i = .top∨jz (ks.map fun k=>(k,t k)) i = t i
 | [],_=>.inl rfl
 | k :: ks,i=>by
   simp only [zm,jz]
   split
   ·grind
   ·exact aeM t ks i
theorem Sim.keep {n:Nat} {a:Act} {w:World} (h:Sim C nt n s a w) (ks:List Nat):Sim C nt n (s.keep ks) a w:=by
 obtain ⟨Z,μ,hg,ht,hf,hm,hd,hn⟩:=h
 refine ⟨Z,μ,hg,fun i=>?_,hf,hm,hd,hn⟩
 rcases aeM s.t ks i with h|h
 ·simp only [St.keep,h];exact .top
 ·simp only [St.keep,h];exact ht i
theorem aoK {c:AC} (ks:List Nat) (h:AWp C nt c (s.keep ks) K E R):AWp C nt c s K E R :=
 fun code hc a w hs=>h code hc a w (hs.keep ks)
theorem aax {ks:List Nat} {x y:AC} (h:AWp C nt x s (fun s'=>AWp C nt y (s'.keep ks) K E R) E R):AWp C nt (Ue ks x y) s K E R :=
 aqB (aka h (fun _ h=>aoK ks h) (fun _ _ h=>h) (fun _ h=>h))
theorem aj8 {L:List Nat} {ot:OT} {p:OP} {ops:List AO} {ahead:List (List Nat)} (fz:Nat→Bool) (hc:okR ops ahead L ot = true) (hp:jx (ris ops ahead L) ot = p)
  (h:awP C.env fz s.n (fun s'=>K (s'.wn (s.n + ops.length * KK))) p s):AWp C nt (apO L ot p ops ahead) s K E R :=
 aoJ L fz ot p hc hp h
end
mutual
def V.shut0 (o:Nat→Option Ob):V→V
 | .hd a off len=>match o a with|some (.buf _ s xs)=>.sl s ((xs.drop off).take len)|_=>.top
 | .ptr a off=>match o a with|some (.box _ cs)=>.ro cs off|_=>.top
 | .ept _ _ _=>.top
 | .mp _=>.top
 | .agg cs=>.agg (K8 o cs)
 | .tup cs=>.tup (K8 o cs)
 | .clo f cs=>.clo f (K8 o cs)
 | v=>v
def K8 (o:Nat→Option Ob):List V→List V
 | []=>[]
 | v :: r=>v.shut0 o :: K8 o r
end
mutual
def V.shutOk0 (o:Nat→Option Ob) (B:Option (List Nat)):V→Prop
 | .hd a _ _=>okB B a∧∃ wr s xs,o a = some (.buf wr s xs)
 | .ptr a _=>okB B a∧∃ wr cs,o a = some (.box wr cs)∧Qa cs
 | .ept _ _ _=>True
 | .mp _=>True
 | .agg cs=>Ud o B cs
 | .tup cs=>Ud o B cs
 | .clo _ cs=>Ud o B cs
 | _=>True
def Ud (o:Nat→Option Ob) (B:Option (List Nat)):List V→Prop
 | []=>True
 | v :: r=>v.shutOk0 o B∧Ud o B r
end
mutual
theorem akY (o:Nat→Option Ob) (B:Option (List Nat)):∀ v:V,v.shutOk0 o B→conv o [] B v (v.shut0 o)
 | .top,_=>by simp [V.shut0,conv]
 | .sc _,_=>by simp [V.shut0,conv]
 | .nn,_=>by simp [V.shut0,conv]
 | .sl _ _,_=>by simp [V.shut0,conv]
 | .ro _ _,_=>by simp [V.shut0,conv]
 | .ept _ _ _,_=>by simp [V.shut0,conv]
 | .mp _,_=>by simp [V.shut0,conv]
 | .hd a off len,h=>by
   obtain ⟨h1,wr,s,xs,h2⟩:=h
   simp only [V.shut0,h2,conv]
   exact ⟨h1,by simp,.inl ⟨wr,xs,rfl,rfl⟩⟩
 | .ptr a off,h=>by
   obtain ⟨h1,wr,cs,h2,h3⟩:=h
   simp only [V.shut0,h2,conv]
   exact ⟨h1,by simp,trivial,h3,wr,cs,rfl,Qc _ _ _ _ h3⟩
 | .agg cs,h=>by simp only [V.shut0,conv];exact KD o B cs h
 | .tup cs,h=>by simp only [V.shut0,conv];exact KD o B cs h
 | .clo f cs,h=>by simp only [V.shut0,conv];exact ⟨trivial,KD o B cs h⟩
theorem KD (o:Nat→Option Ob) (B:Option (List Nat)):∀ cs:List V,Ud o B cs→QE o [] B cs (K8 o cs)
 | [],_=>trivial
 | v :: r,h=>⟨akY o B v h.1,KD o B r h.2⟩
end
mutual
theorem ahE (o:Nat→Option Ob):∀ v:V,(v.shut0 o).closed
 | .top=>by simp only [V.shut0,V.closed]
 | .sc _=>by simp only [V.shut0,V.closed]
 | .nn=>by simp only [V.shut0,V.closed]
 | .sl _ _=>by simp only [V.shut0,V.closed]
 | .ro _ _=>by simp only [V.shut0,V.closed]
 | .ept _ _ _=>by simp only [V.shut0,V.closed]
 | .mp _=>by simp only [V.shut0,V.closed]
 | .hd a off len=>by simp only [V.shut0];split<;>simp only [V.closed]
 | .ptr a off=>by simp only [V.shut0];split<;>simp only [V.closed]
 | .agg cs=>by simp only [V.shut0,V.closed];exact XQ o cs
 | .tup cs=>by simp only [V.shut0,V.closed];exact XQ o cs
 | .clo f cs=>by simp only [V.shut0,V.closed];exact XQ o cs
theorem XQ (o:Nat→Option Ob):∀ cs:List V,Qa (K8 o cs)
 | []=>trivial
 | v :: r=>⟨ahE o v,XQ o r⟩
end
mutual
def V.shut (o:Nat→Option Ob):V→V
 | .hd a off len=>match o a with|some (.buf _ s xs)=>.sl s ((xs.drop off).take len)|some (.obuf _ s xs)=>.sl s (K8 o ((xs.drop off).take len))|_=>.top
 | .ptr a off=>match o a with|some (.box _ cs)=>.ro cs off|_=>.top
 | .ept _ _ _=>.top
 | .mp _=>.top
 | .agg cs=>.agg (JH o cs)
 | .tup cs=>.tup (JH o cs)
 | .clo f cs=>.clo f (JH o cs)
 | v=>v
def JH (o:Nat→Option Ob):List V→List V
 | []=>[]
 | v :: r=>v.shut o :: JH o r
end
def aqQ (o:Nat→Option Ob) (B:Option (List Nat)) (off len:Nat):Option Ob→Prop
 | some (.buf _ _ _)=>True
 | some (.obuf _ _ xs)=>Ud o B ((xs.drop off).take len)∧ntL (K8 o ((xs.drop off).take len))
 | _=>False
mutual
def V.shutOk (o:Nat→Option Ob) (B:Option (List Nat)):V→Prop
 | .hd a off len=>okB B a∧aqQ o B off len (o a)
 | .ptr a _=>okB B a∧∃ wr cs,o a = some (.box wr cs)∧Qa cs
 | .ept _ _ _=>True
 | .mp _=>True
 | .agg cs=>Qu o B cs
 | .tup cs=>Qu o B cs
 | .clo _ cs=>Qu o B cs
 | _=>True
def Qu (o:Nat→Option Ob) (B:Option (List Nat)):List V→Prop
 | []=>True
 | v :: r=>v.shutOk o B∧Qu o B r
end
mutual
theorem amU (o:Nat→Option Ob) (B:Option (List Nat)):∀ v:V,v.shutOk o B→conv o [] B v (v.shut o)
 | .top,_=>by simp [V.shut,conv]
 | .sc _,_=>by simp [V.shut,conv]
 | .nn,_=>by simp [V.shut,conv]
 | .sl _ _,_=>by simp [V.shut,conv]
 | .ro _ _,_=>by simp [V.shut,conv]
 | .ept _ _ _,_=>by simp [V.shut,conv]
 | .mp _,_=>by simp [V.shut,conv]
 | .hd a off len,h=>by
   obtain ⟨h1,h2⟩:=h
   unfold aqQ at h2
   split at h2
   ·rename_i wr s xs h3
    simp only [V.shut,h3,conv]
    exact ⟨h1,by simp,.inl ⟨wr,xs,rfl,rfl⟩⟩
   ·rename_i wr s xs h3
    simp only [V.shut,h3,conv]
    exact ⟨h1,by simp,.inr ⟨wr,xs,rfl,KD _ _ _ h2.1,h2.2,XQ _ _⟩⟩
   ·exact h2.elim
 | .ptr a off,h=>by
   obtain ⟨h1,wr,cs,h2,h3⟩:=h
   simp only [V.shut,h2,conv]
   exact ⟨h1,by simp,trivial,h3,wr,cs,rfl,Qc _ _ _ _ h3⟩
 | .agg cs,h=>by simp only [V.shut,conv];exact JC o B cs h
 | .tup cs,h=>by simp only [V.shut,conv];exact JC o B cs h
 | .clo f cs,h=>by simp only [V.shut,conv];exact ⟨trivial,JC o B cs h⟩
theorem JC (o:Nat→Option Ob) (B:Option (List Nat)):∀ cs:List V,Qu o B cs→QE o [] B cs (JH o cs)
 | [],_=>trivial
 | v :: r,h=>⟨amU o B v h.1,JC o B r h.2⟩
end
section
variable {Γ:Env} {b:Nat} {s:St} {d:Option Nat} {f:FuncId} {acts args:List V} {res:V} {K:St→Prop}
theorem arz (h:Ev Γ f args [] res []) (ha:JH s.o acts = args) (hc:Qu s.o none acts) (hr:res.closed) (hn:res.noSl)
  (hk:K { t:=(s.put d res).t,o:=s.o,n:=s.n }):xM Γ b s d f acts K :=
 by grind [alc,JC]
theorem arA (h:Ev Γ f args [] res []) (ha:JH s.o acts = args) (hc:Qu s.o (some []) acts) (hr:res.closed)
  (hk:K { t:=(s.put d res).t,o:=s.o,n:=s.n }):xM Γ b s d f acts K :=
 by grind [alb,JC,ajP]
theorem aqp {A W:Nat→Bool} (h:Ev Γ f args [] res []) (ha:JH (Jt A s.o) acts = args) (hc:Qu (Jt A s.o) none acts) (hr:res.closed) (hn:res.noSl)
  (hk:K { t:=(s.put d res).t,o:=s.o,n:=s.n }):QP Γ A W b s d f acts K :=
 by grind [ai7,JC,Jx]
theorem aqq {A W:Nat→Bool} (h:Ev Γ f args [] res []) (ha:JH (Jt A s.o) acts = args) (hc:Qu (Jt A s.o) (some []) acts) (hr:res.closed)
  (hk:K { t:=(s.put d res).t,o:=s.o,n:=s.n }):QP Γ A W b s d f acts K :=
 by grind [am3,JC,Jx]
end
end Av
end
section
namespace Av
open Go
def awS (Γ:Env) (b:Nat) (r:List AO) (s:St) (d:Option Nat) (K:St→Prop) (m:AM E):Prop:=m.wp s.o fun e=>yp Γ (b + KK) r (s.eff d e) K
def awC (Γ:Env) (b:Nat) (r:List AO) (s:St) (d:Option Nat) (f:FuncId) (acts:List V) (K:St→Prop):Prop:=xM Γ b s d f acts fun s'=>yp Γ (b + KK) r s' K
def awQ (Γ:Env) (b:Nat) (r:List AO) (s:St) (x:AO) (g:Nat) (want:Bool) (v:V) (K:St→Prop):Prop :=
 match v with
 | .sc (.bool q)=>(q = want→yp Γ b ({ d:=x.d,op:=x.op } :: r) (s.put (some g) (.bool want)) K)∧(q = !want→yp Γ (b + KK) r ((s.put (some g) (.bool !want)).put x.d V.und) K)
 | .tup []=>yp Γ (b + KK) r (s.put x.d V.und) K
 | _=>False
section
variable {Γ:Env} {b:Nat} {r:List AO} {s:St} {d:Option Nat} {K:St→Prop}
theorem qc {g:Nat} {v:V} (h:s.t g = v):s.put (some g) v = s:=by
 have:upd s.t g v = s.t:=by
  funext i
  grind [Qi,QH]
 simp only [St.put,this]
theorem asD {x:AO} {g:Nat} {want:Bool} (hx:x.g = some (g,want)) (h:awQ Γ b r s x g want (s.t g) K):yp Γ b (x :: r) s K:=by
 simp only [yp,hx]
 unfold awQ at h
 split at h
 ·rename_i q hq
  refine ⟨some q,hq,fun e=>?_,fun e=>?_⟩
  ·cases e
   have:=h.1 rfl
   rw [qc hq] at this
   exact this
  ·have e':q = !want:=by cases q<;>cases want<;>simp_all
   grind [qc]
 ·rename_i hq
  exact ⟨none,hq,(fun e=>by cases e),fun _=>h⟩
 ·exact h.elim
def W7 (Γ:Env) (b:Nat) (l:List AO) (s:St) (K:St→Prop):Prop:=yp Γ b l s K
def vE (Γ:Env) (b:Nat) (r:List AO) (s:St) (d:Option Nat) (v:V) (acts:List V) (K:St→Prop):Prop :=
 match v with
 | .clo f cap=>awC Γ b r s d f.f (f.args acts cap) K
 | _=>False
theorem ako {x:Opd} {as:List Opd}:W7 Γ b (⟨d,.callv x as,none⟩ :: r) s K↔vE Γ b r s d (s.ev x) (as.map s.ev) K:=by
 simp only [W7,yp,akd,vE]
 cases s.ev x<;>rfl
theorem aq1 {aop:AOp} {g:Nat} {want:Bool}:W7 Γ b (⟨d,aop,some (g,want)⟩ :: r) s K↔awQ Γ b r s ⟨d,aop,none⟩ g want (s.t g) K:=by
 refine ⟨fun h=>?_,fun h=>asD (x:=⟨d,aop,some (g,want)⟩) rfl h⟩
 simp only [W7,yp] at h
 obtain ⟨q,hq,h1,h2⟩:=h
 unfold awQ
 rcases q with _|q
 ·have hq:s.t g = .tup []:=hq
  grind
 ·have hq:s.t g = .bool q:=hq
  rw [hq]
  refine ⟨fun e=>?_,fun e=>?_⟩
  ·rw [qc (by rw [hq,e])];exact h1 (by rw [e])
  grind [qc]
end
section
variable {Γ:Env} {b:Nat} {r:List AO} {s:St} {d:Option Nat} {K:St→Prop}
def aay (Γ:Env) (b:Nat) (r:List AO) (s:St) (d:Option Nat) (K:St→Prop) (k:Ob→AM E) (x:Option Ob):Prop :=
 match x with
 | some ob=>awS Γ b r s d K (k ob)
 | none=>False
theorem arD {a:Nat} {k:Ob→AM E}:awS Γ b r s d K (.rd a k)↔aay Γ b r s d K k (s.o a):=by
 unfold aay
 grind [awS,AM.wp]
end
section
variable {C:Ctx} {nt:Nat} {s:St} {K:St→Prop} {E:Nat→St→Prop} {R:St→Prop}
theorem aaw {ks:List Nat} {ops:List AO} {y:AC} (h:∀ K':St→Prop,(∀ s',AWp C nt y s' K E R→K' s')→W7 C.env s.n ops s (fun s'=>K' (s'.keep ks))):AWp C nt (Ue ks (.reg ops) y) s K E R :=
 aax (am7 (h _ fun _ h=>h))
theorem aoI {ops:List AO} (h:∀ K':St→Prop,(∀ s',K s'→K' s')→W7 C.env s.n ops s K'):AWp C nt (.reg ops) s K E R :=
 am7 (h _ fun _ h=>h)
end
end Av
end
section
namespace Av
open Go
def EvC (Γ:Env) (f:FuncId) (args:List V) (res:V):Prop:=Ev Γ f args [] res []∧res.closed
def EvN (Γ:Env) (f:FuncId) (args:List V) (res:V):Prop:=Ev Γ f args [] res []∧res.closed∧res.noSl
theorem EvN.c {Γ:Env} {f:FuncId} {args:List V} {res:V} (h:EvN Γ f args res):EvC Γ f args res:=⟨h.1,h.2.1⟩
section
variable {Γ:Env} {b:Nat} {r:List AO} {s:St} {d:Option Nat} {f:FuncId} {acts:List V} {res:V} {K:St→Prop}
theorem asq (hc:Qu s.o none acts) (h:EvN Γ f (JH s.o acts) res) (hk:W7 Γ (b + KK) r { t:=(s.put d res).t,o:=s.o,n:=s.n } K):awC Γ b r s d f acts K :=
 arz h.1 rfl hc h.2.1 h.2.2 hk
theorem ast (hc:Qu s.o (some []) acts) (h:EvC Γ f (JH s.o acts) res) (hk:W7 Γ (b + KK) r { t:=(s.put d res).t,o:=s.o,n:=s.n } K):awC Γ b r s d f acts K :=
 arA h.1 rfl hc h.2 hk
end
theorem Qn {Γ:Env} {f:FuncId} {nt:Nat} {ac:AC} {rs:List Uc} (hb:Has Γ.P f nt ac rs) {args:List V} {res:V} (ha:args.length≤nt) (hr:res.closed)
  (h:∀ C:Ctx,C.env = Γ→C.m = 0→AWp C nt ac (YX args []) (wu 0 rs res []) (fun _ _=>False) (wu 0 rs res [])):EvC Γ f args res :=
 ⟨YM hb ha h,hr⟩
theorem Qb {Γ:Env} {f:FuncId} {nt:Nat} {ac:AC} {rs:List Uc} (hb:Has Γ.P f nt ac rs) {args:List V} {res:V} (ha:args.length≤nt) (hr:res.closed) (hn:res.noSl)
  (h:∀ C:Ctx,C.env = Γ→C.m = 0→AWp C nt ac (YX args []) (wu 0 rs res []) (fun _ _=>False) (wu 0 rs res [])):EvN Γ f args res :=
 ⟨YM hb ha h,hr,hn⟩
section
variable {C:Ctx} {nt:Nat} {s:St} {K:St→Prop} {E:Nat→St→Prop} {R:St→Prop}
theorem Qz {ks:List Nat} {x:AC} {ι:Type} (good:ι→Prop) (inv:ι→St) (msr:ι→Nat) (i0:ι) (h0:good i0) (τ:Nat→Nat) (hw:ano C.m τ s (inv i0))
  (h:∀ i,good i→∀ K':St→Prop,(∀ s' i' τ,good i'→msr i' < msr i→ano C.m τ s' (inv i')→K' s')→AWp C nt x (inv i) K' E R):AWp C nt (afn ks x) s K E R :=
 am8 good inv msr ⟨i0,τ,h0,hw⟩ fun i hi=>h i hi _ fun _ i' τ h1 h2 h3=>⟨i',τ,h1,h2,h3⟩
theorem akc {ks:List Nat} {x y:AC} {ι:Type} (good:ι→Prop) (mid:ι→St) (h:∀ K':St→Prop,(∀ s' i τ,good i→ano C.m τ (s'.keep ks) (mid i)→K' s')→AWp C nt x s K' E R) (h':∀ i,good i→AWp C nt y (mid i) K E R):AWp C nt (Ue ks x y) s K E R :=
 aax (h _ fun _ i _ h1 h2=>aj4 h2 (h' i h1))
end
theorem JS {m n:Nat} {s:St} (tau:List (Nat×Nat)) {ts:List (Nat×V)} {os:List (Nat×Ob)}
  (ht:∀ p∈ts,s.t p.1 = p.2.ren (Qp tau)∧p.2.lt n)
  (ho:∀ p∈os,p.1 < n∧∃ x,s.o (Qp tau p.1) = some x∧x.weak (Qp tau) n p.2)
  (hn:(os.map fun p=>Qp tau p.1).Nodup) (hf:∀ p∈tau,m≤p.1) (hm:m≤n):ano m (Qp tau) s (Yo ts os n):=apw tau ht ho hn hf hm
def asb (s:St):Uc→Option V
 | .tmp t=>some (s.t t)
 | .cell a g sz=>match s.t a with
   | .ptr n off=>(match s.o n with
     | some (.box _ cells)=>if g then (if off + sz≤cells.length then some (.agg ((cells.drop off).take sz)) else none) else cells[off]?
     | _=>none)
   | _=>none
def vX (s:St):List Uc→Option (List V)
 | []=>some []
 | r :: rs=>match asb s r,vX s rs with|some v,some vs=>some (v :: vs)|_,_=>none
theorem Wr {s:St}:∀ (rs:List Uc) (vs:List V) (K:List V→Prop),vX s rs = some vs→K vs→ahQ s rs K
 | [],vs,K,h,hk=>by simp [vX] at h;subst h;exact hk
 | r :: rs,vs,K,h,hk=>by
   simp only [vX] at h
   split at h
   ·rename_i v vs' h1 h2
    simp only [zd] at h;subst h
    have ih:=Wr rs vs' (fun vs=>K (v :: vs)) h2 hk
    simp only [ahQ]
    cases r with
    | tmp t=>simp only [asb,zd] at h1;subst h1;exact ih
    | cell a g sz =>
      simp only [asb] at h1
      split at h1
      ·rename_i n off hp
       split at h1
       ·rename_i wr cells ho
        simp only [Uc.val,hp,AM.cellsAt,AM.wp]
        refine ⟨_,ho,?_⟩
        cases g
        ·simp only [zk,if_false] at h1 ⊢
         rw [h1];exact ih
        ·simp only [if_true] at h1 ⊢
         split at h1
         ·rename_i hle
          simp only [zd] at h1;subst h1
          exact ⟨hle,ih⟩
         ·cases h1
       ·cases h1
      ·cases h1
   ·cases h
theorem Qf {rs:List Uc} {res:V} {s:St} (vs:List V) (h:vX s rs = some vs) (hc:conv s.o [] none (aih vs) res):wu 0 rs res [] s :=
 akV (Wr rs vs _ h hc)
theorem apm (o:Nat→Option Ob) (br:List Nat) (B:Option (List Nat)) (v:V):conv o br B v .top↔True:=by cases v<;>simp [conv]
theorem asf (o:Nat→Option Ob) (br:List Nat) (B:Option (List Nat)) (v u:Value):conv o br B (.sc v) (.sc u)↔v = u:=by simp [conv]
theorem ars (o:Nat→Option Ob) (br:List Nat) (B:Option (List Nat)) (s:Nat) (ys:List V):conv o br B (.sc (.slice none 0 0)) (.sl s ys)↔ys = []:=by simp [conv]
theorem ase (o:Nat→Option Ob) (br:List Nat) (B:Option (List Nat)) (s s':Nat) (xs ys:List V):conv o br B (.sl s xs) (.sl s' ys)↔s = s'∧xs = ys:=by simp [conv]
theorem aqk (o:Nat→Option Ob) (br:List Nat) (B:Option (List Nat)) (a off len s:Nat) (ys:List V):conv o br B (.hd a off len) (.sl s ys)↔okB B a∧a ∉ br∧((∃ wr xs,o a = some (.buf wr s xs)∧ys = (xs.drop off).take len)∨(∃ wr xs,o a = some (.obuf wr s xs)∧QE o br B ((xs.drop off).take len) ys∧ntL ys∧Qa ys)):=by simp [conv]
theorem arq (o:Nat→Option Ob) (br:List Nat) (B:Option (List Nat)) (a off off':Nat) (es:List V):conv o br B (.ptr a off) (.ro es off')↔okB B a∧a ∉ br∧off' = off∧Qa es∧∃ wr cs,o a = some (.box wr cs)∧QE o br B cs es:=by simp [conv]
theorem asg (o:Nat→Option Ob) (br:List Nat) (B:Option (List Nat)) (off off':Nat) (cs es:List V):conv o br B (.ro cs off) (.ro es off')↔cs = es∧off' = off:=by simp [conv]
theorem arv (o:Nat→Option Ob) (br:List Nat) (B:Option (List Nat)) (cs es:List V):conv o br B (.agg cs) (.agg es)↔QE o br B cs es:=by simp [conv]
theorem arp (o:Nat→Option Ob) (br:List Nat) (B:Option (List Nat)) (cs es:List V):conv o br B (.tup cs) (.tup es)↔QE o br B cs es:=by simp [conv]
theorem aru (o:Nat→Option Ob) (br:List Nat) (B:Option (List Nat)) (f g:FK) (cs es:List V):conv o br B (.clo f cs) (.clo g es)↔f = g∧QE o br B cs es:=by simp [conv]
theorem ash (o:Nat→Option Ob) (br:List Nat) (B:Option (List Nat)):conv o br B .nn .nn↔True:=by simp [conv]
theorem aql (o:Nat→Option Ob) (br:List Nat) (B:Option (List Nat)):QE o br B [] []↔True:=by simp [QE]
theorem aou (o:Nat→Option Ob) (br:List Nat) (B:Option (List Nat)) (v e:V) (r r':List V):QE o br B (v :: r) (e :: r')↔conv o br B v e∧QE o br B r r':=by simp [QE]
theorem an6 (a:Nat):okB none a↔True:=by simp [okB]
theorem an5 (l:List Nat) (a:Nat):okB (some l) a↔a∈l:=by simp [okB]
theorem akR {wr0:Bool} {s0 s:Nat} {xs0:List V} {p:List V→Prop}:(∃ wr xs,some (Ob.buf wr0 s0 xs0) = some (Ob.buf wr s xs)∧p xs)↔s0 = s∧p xs0:=by
 constructor
 ·grind
 ·rintro ⟨rfl,hp⟩;grind
theorem akS {wr0:Bool} {cs0:List V} {p:List V→Prop}:(∃ wr cs,some (Ob.box wr0 cs0) = some (Ob.box wr cs)∧p cs)↔p cs0:=by
 grind
theorem aiU {wr0:Bool} {s0 s:Nat} {xs0:List V} {p:List V→Prop}:(∃ wr xs,Ob.buf wr0 s0 xs0 = Ob.buf wr s xs∧p xs)↔s0 = s∧p xs0:=by
 constructor
 ·grind
 ·rintro ⟨rfl,hp⟩;grind
theorem aiV {wr0:Bool} {cs0:List V} {p:List V→Prop}:(∃ wr cs,Ob.box wr0 cs0 = Ob.box wr cs∧p cs)↔p cs0:=by
 grind
end Av
end
