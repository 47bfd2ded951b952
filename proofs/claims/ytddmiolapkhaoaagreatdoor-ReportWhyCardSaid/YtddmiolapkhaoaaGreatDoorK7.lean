/- Regions whose order is open: effects as patches, and what commutes. -/
import Derived.Test.YtddmiolapkhaoaaGreatDoorK6
set_option linter.unusedVariables false
set_option linter.unusedSimpArgs false
section
namespace Av
open Go
def AOp.opds:AOp→List Opd
 | .mov x=>[x]
 | .mknil _=>[]
 | .pick c x y=>[c,x,y]
 | .alloc _=>[]
 | .box _ _ x=>[x]
 | .build _ ps=>ps.map (·.2.2)
 | .bslice _ _ _ _ ps=>ps.map (·.2)
 | .obslice _ _ _ _ ps=>ps.map (·.2)
 | .load _ _ a=>[a]
 | .store _ a x=>[a,x]
 | .nilck x=>[x]
 | .bin _ x y=>[x,y]
 | .eqb _ x y=>[x,y]
 | .isnil _ x=>[x]
 | .isnilI _ x=>[x]
 | .idS x=>[x]
 | .eqagg _ _ x y=>[x,y]
 | .un _ x=>[x]
 | .convI _ x=>[x]
 | .convSB x=>[x]
 | .convBS x=>[x]
 | .mkfn _ cap=>cap
 | .mkslice _ _ _ _ l c=>[l,c]
 | .slstr x lo hi=>x :: (lo.toList++hi.toList)
 | .slsl _ x lo hi=>x :: (lo.toList++hi.toList)
 | .faddr _ x=>[x]
 | .fld _ _ _ x=>[x]
 | .iaddr _ x i=>[x,i]
 | .iaddrA _ _ x i=>[x,i]
 | .idxS x i=>[x,i]
 | .idxA _ _ _ x i=>[x,i]
 | .ext x _=>[x]
 | .call _ as=>as
 | .callv x as=>x :: as
 | .lenS x=>[x]
 | .lenL x=>[x]
 | .lenC _ x=>[x]
 | .append _ _ _ x y=>[x,y]
 | .appendS _ x y=>[x,y]
 | .allocT _ _=>[]
 | .copy _ x y=>[x,y]
 | .mm _ xs=>xs
 | .mkif x=>[x]
 | .mkmap=>[]
 | .mapset _ _ x k v=>[x,k,v]
 | .mapget _ _ _ _ _ x k=>[x,k]
 | .maplen x=>[x]
 | .mapclr x=>[x]
 | .rng x=>[x]
 | .nxt x=>[x]
 | .ent x=>[x]
 | .isnilF _ x=>[x]
 | .clrS _ _ _ x=>[x]
theorem atm (b:Nat) {ρ ρ':Opd→V} (aop:AOp) (h:∀ x∈aop.opds,ρ x = ρ' x):sem b ρ aop = sem b ρ' aop:=by
 cases aop<;>simp only [AOp.opds] at h
 case build zs ps =>
  have e:∀ p∈ps,ρ p.2.2 = ρ' p.2.2:=fun p hp=>h _ (zE.2 ⟨p,hp,rfl⟩)
  have e1:ps.map (fun p=>(p.1,(ρ p.2.2).cells)) = ps.map (fun p=>(p.1,(ρ' p.2.2).cells)):=kS fun p hp=>by rw [e p hp]
  have e2:(∀ p∈ps,(ρ p.2.2).cells.length = p.2.1∧p.1 + p.2.1≤zs.length∧ρ p.2.2≠.top∧∀ vs,ρ p.2.2≠.tup vs) = (∀ p∈ps,(ρ' p.2.2).cells.length = p.2.1∧p.1 + p.2.1≤zs.length∧ρ' p.2.2≠.top∧∀ vs,ρ' p.2.2≠.tup vs):=by
   apply propext
   constructor<;>intro hh p hp
   ·rw [← e p hp];exact hh p hp
   ·rw [e p hp];exact hh p hp
  simp only [sem,e1,e2]
 case bslice n sz ag zs ps =>
  have e:∀ p∈ps,ρ p.2 = ρ' p.2:=fun p hp=>h _ (zE.2 ⟨p,hp,rfl⟩)
  have e1:ps.map (fun p=>(p.1,ρ p.2)) = ps.map (fun p=>(p.1,ρ' p.2)):=kS fun p hp=>by rw [e p hp]
  have e2:(∀ p∈ps,p.1 < n∧ada ag sz (ρ p.2)∧(ρ p.2).closed) = (∀ p∈ps,p.1 < n∧ada ag sz (ρ' p.2)∧(ρ' p.2).closed):=by
   apply propext
   constructor<;>intro hh p hp
   ·rw [← e p hp];exact hh p hp
   ·rw [e p hp];exact hh p hp
  simp only [sem,e1,e2]
 case obslice n sz ag zs ps =>
  have e:∀ p∈ps,ρ p.2 = ρ' p.2:=fun p hp=>h _ (zE.2 ⟨p,hp,rfl⟩)
  have e1:ps.map (fun p=>(p.1,ρ p.2)) = ps.map (fun p=>(p.1,ρ' p.2)):=kS fun p hp=>by rw [e p hp]
  have e2:(∀ p∈ps,p.1 < n∧ada ag sz (ρ p.2)) = (∀ p∈ps,p.1 < n∧ada ag sz (ρ' p.2)):=by
   apply propext
   constructor<;>intro hh p hp
   ·rw [← e p hp];exact hh p hp
   ·rw [e p hp];exact hh p hp
  simp only [sem,e1,e2]
 case slstr x lo hi =>
  have e0:=h x (by simp)
  have e1:lo.map ρ = lo.map ρ':=by cases lo<;>simp;exact h _ (by simp)
  have e2:hi.map ρ = hi.map ρ':=by cases hi<;>simp;exact h _ (by simp)
  simp only [sem,e0,e1,e2]
 case slsl sz x lo hi =>
  have e0:=h x (by simp)
  have e1:lo.map ρ = lo.map ρ':=by cases lo<;>simp;exact h _ (by simp)
  have e2:hi.map ρ = hi.map ρ':=by cases hi<;>simp;exact h _ (by simp)
  simp only [sem,e0,e1,e2]
 case mkfn f cap=>simp only [sem,kS h]
 case mm mx xs=>simp only [sem,kS h]
 all_goals simp_all [sem]
def AO.looks (x:AO):List Nat:=(x.op.opds.filterMap fun|.t i=>some i|_=>none)++(match x.g with|some (g,_)=>[g]|none=>[])
theorem av6 {s s':St} {x:AO} (h:∀ i∈x.looks,s.t i = s'.t i):∀ y∈x.op.opds,s.ev y = s'.ev y:=by
 intro y hy
 cases y with
 | c v=>rfl
 | t i=>exact h i (by simp only [AO.looks,zW,bf];exact .inl ⟨.t i,hy,rfl⟩)
def Uv (A:Nat→Prop) [DecidablePred A] (o:Nat→Option Ob) (a:Nat):Option Ob:=if A a then o a else none
def v7 (p o:Nat→Option Ob) (a:Nat):Option Ob:=match p a with|some x=>some x|none=>o a
def noP:Nat→Option Ob:=fun _=>none
theorem AM.wp_mono {α:Type} {o o':Nat→Option Ob} (ho:∀ a x,o a = some x→o' a = some x):∀ (m:AM α) (K K':α→Prop),(∀ x,K x→K' x)→m.wp o K→m.wp o' K'
 | .no,_,_,_,h=>h
 | .ret _,_,_,hk,h=>hk _ h
 | .asrt _ m,_,_,hk,h=>⟨h.1,AM.wp_mono ho m _ _ hk h.2⟩
 | .rd _ k,_,_,hk,h=>by obtain ⟨ob,h1,h2⟩:=h;exact ⟨ob,ho _ _ h1,AM.wp_mono ho (k ob) _ _ hk h2⟩
 | .any k,_,_,hk,h=>fun b=>AM.wp_mono ho (k b) _ _ hk (h b)
 | .anyN _ k,_,_,hk,h=>⟨h.1,fun i hi=>AM.wp_mono ho (k i) _ _ hk (h.2 i hi)⟩
theorem ajI {A:Nat→Prop} [DecidablePred A] {o:Nat→Option Ob}:∀ a x,Uv A o a = some x→o a = some x:=by
 intro a x h
 unfold Uv at h
 split at h
 ·exact h
 ·cases h
theorem an6 (o:Nat→Option Ob):∀ (os:List (Nat×Ob)) (p:Nat→Option Ob),ad0 (v7 p o) os = v7 (ad0 p os) o
 | [],_=>rfl
 | (a,x) :: r,p=>by
  simp only [ad0]
  rw [← an6 o r]
  congr 1
  funext c
  by_cases h:c = a
  ·subst h;simp [v7,Qn]
  ·simp [v7,QW _ _ h]
theorem alL (o:Nat→Option Ob) (os:List (Nat×Ob)):ad0 o os = v7 (ad0 noP os) o:=by
 have:=an6 o os noP
 have e:v7 noP o = o:=by funext a;simp [v7,noP]
 rw [e] at this;exact this
theorem ae7 (σ:Nat→Nat) (o:Nat→Option Ob):∀ (outs:List Ob) (b:Nat),Yy σ b outs o = v7 (Yy σ b outs noP) o
 | [],_=>by funext a;simp [v7,noP,Yy]
 | x :: r,b=>by
   simp only [Yy]
   rw [ae7 σ o r]
   funext c
   by_cases h:c = b
   ·subst h;simp [v7,Qn]
   ·simp [v7,QW _ _ h]
theorem ahb (σ:Nat→Nat) (o:Nat→Option Ob) (b:Nat):∀ (br:List Nat) (outs:List Ob),Xe σ b br outs o = v7 (Xe σ b br outs noP) o
 | [],outs=>by simp only [Xe];exact ae7 σ o outs b
 | a :: br,[]=>by simp only [Xe];exact ae7 σ o [] b
 | a :: br,x :: outs=>by
   simp only [Xe]
   rw [ahb σ o b br outs]
   funext c
   by_cases h:c = a
   ·subst h;simp [v7,Qn]
   ·simp [v7,QW _ _ h]
theorem atE {p q o:Nat→Option Ob} (h:∀ a,p a = none∨q a = none):v7 p (v7 q o) = v7 q (v7 p o):=by
 funext a
 rcases h a with e|e<;>simp [v7,e]
theorem alP (p q o:Nat→Option Ob):v7 p (v7 q o) = v7 (v7 p q) o:=by
 funext a
 cases h:p a<;>simp [v7,h]
def arm (B:Option (List Nat)) (br:List Nat) (o:Nat→Option Ob) (a:Nat):Option Ob :=
 match B with
 | none=>none
 | some l=>if a∈l∧a ∉ br then (o a).map Ob.frz else none
theorem aoI (B:Option (List Nat)) (br:List Nat) (o:Nat→Option Ob):xO B br o = v7 (arm B br o) o:=by
 funext a
 cases B with
 | none=>rfl
 | some l =>
   simp only [xO,v7,arm]
   by_cases h:a∈l∧a ∉ br
   ·rw [if_pos h,if_pos h]
    cases o a<;>rfl
   ·rw [if_neg h,if_neg h]
def ahw (Γ:Env) (A W:Nat→Prop) [DecidablePred A] (b:Nat) (s:St) (aop:AOp) (v:V) (p:Nat→Option Ob):Prop :=
 let call (f:FuncId) (acts:List V):Prop:=∃ args ins res outs br B,Ev Γ f args ins res outs∧Jn (Uv A s.o) br B acts args∧as7 (Uv A s.o) br B br ins∧br.Nodup∧(∀ x∈br,x < b∧W x) ∧
  ins.length≤outs.length∧outs.length - ins.length < KK∧(B = none→res.noSl∧∀ x∈outs,x.noSl)∧(∀ l,B = some l→∀ x∈l,A x∧W x)∧v = res.ren (sig br b)∧p = v7 (Xe (sig br b) b br outs noP) (arm B br (Uv A s.o))
 match aop with
 | .call f as=>call f (as.map s.ev)
 | .callv x as=>(match s.ev x with|.clo f cap=>call f.f (f.args (as.map s.ev) cap)|_=>False)
 | aop=>(sem b s.ev aop).wp (Uv A s.o) (fun e=>v = e.v∧p = ad0 noP e.os∧∀ q∈e.os,W q.1∨(b≤q.1∧q.1 < b + KK))
def eff (Γ:Env) (A W:Nat→Prop) [DecidablePred A] (b:Nat) (s:St) (x:AO) (v:V) (p:Nat→Option Ob):Prop :=
 match x.g with
 | none=>ahw Γ A W b s x.op v p
 | some (g,want)=>∃ q,isG (s.t g) q∧(q = some want→ahw Γ A W b s x.op v p)∧(q≠some want→v = V.und∧p = noP)
def St.app (s:St) (d:Option Nat) (v:V) (p:Nat→Option Ob):St:={ t:=(s.put d v).t,o:=v7 p s.o,n:=s.n }
mutual
theorem auJ {o o':Nat→Option Ob} (ho:∀ a x,o a = some x→o' a = some x) (br:List Nat) (B:Option (List Nat)):∀ (act exp:V),conv o br B act exp→conv o' br B act exp
 | act,exp,h=>by
   cases exp with
   | top=>cases act<;>simp [conv]
   | sl s' ys =>
     cases act with
     | hd a off len =>
       simp only [conv] at h ⊢
       obtain ⟨h1,h2,h⟩:=h
       rcases h with ⟨wr,xs,h3,h4⟩|⟨wr,xs,h3,h4,h5⟩
       ·exact ⟨h1,h2,.inl ⟨wr,xs,ho _ _ h3,h4⟩⟩
       ·exact ⟨h1,h2,.inr ⟨wr,xs,ho _ _ h3,VT ho br B _ ys h4,h5⟩⟩
     | sc u =>
       cases u with
       | slice a l c=>cases a<;>cases l<;>cases c<;>exact h
       | _=>exact h
     | _=>exact h
   | ro cells off' =>
     cases act with
     | ptr a off =>
       simp only [conv] at h ⊢
       obtain ⟨h1,h2,h3,h4,wr,cs,h5,h6⟩:=h
       exact ⟨h1,h2,h3,h4,wr,cs,ho _ _ h5,VT ho br B cs cells h6⟩
     | _=>exact h
   | agg es =>
     cases act with
     | agg cs=>simp only [conv] at h ⊢;exact VT ho br B cs es h
     | _=>exact h
   | tup es =>
     cases act with
     | tup cs=>simp only [conv] at h ⊢;exact VT ho br B cs es h
     | _=>exact h
   | clo f es =>
     cases act with
     | clo g cs=>simp only [conv] at h ⊢;exact ⟨h.1,VT ho br B cs es h.2⟩
     | _=>exact h
   | _=>cases act<;>exact h
theorem VT {o o':Nat→Option Ob} (ho:∀ a x,o a = some x→o' a = some x) (br:List Nat) (B:Option (List Nat)):∀ (acts exps:List V),Jn o br B acts exps→Jn o' br B acts exps
 | [],[],_=>trivial
 | [],_ :: _,h=>h.elim
 | _ :: _,[],h=>h.elim
 | v :: r,e :: r',h=>⟨auJ ho br B v e h.1,VT ho br B r r' h.2⟩
end
theorem ama {o o':Nat→Option Ob} (ho:∀ a x,o a = some x→o' a = some x) (br:List Nat) (B:Option (List Nat)):∀ (xs ys:List V),akD o br B xs ys→akD o' br B xs ys
 | [],[],_=>trivial
 | [],_ :: _,h=>h.elim
 | _ :: _,[],h=>h.elim
 | x :: r,y :: r',h=>⟨VT ho br B _ _ h.1,ama ho br B r r' h.2⟩
theorem aom {o o':Nat→Option Ob} (ho:∀ a x,o a = some x→o' a = some x) (br:List Nat) (B:Option (List Nat)):∀ (l:List Nat) (ins:List Ob),as7 o br B l ins→as7 o' br B l ins
 | [],[],_=>trivial
 | [],_ :: _,h=>h.elim
 | _ :: _,[],h=>h.elim
 | a :: r,y :: r',h=>by
   obtain ⟨⟨x,h1,h2⟩,h3⟩:=h
   refine ⟨⟨x,ho _ _ h1,?_⟩,aom ho br B r r' h3⟩
   clear h1 h3
   induction x generalizing y with
   | dead=>cases y<;>exact h2
   | typ T x ih =>
     cases y with
     | typ T' y=>exact ⟨h2.1,ih y h2.2⟩
     | _=>exact False.elim h2
   | box wr cs =>
     cases wr<;>cases y<;>try exact h2
     rename_i wr' es
     cases wr'
     ·exact h2
     ·exact VT ho br B _ _ h2
   | buf wr s xs =>
     cases wr<;>cases y<;>try exact h2
     rename_i wr' s' ys
     cases wr'<;>exact h2
   | obuf wr s xs =>
     cases wr<;>cases y<;>try exact h2
     rename_i wr' s' ys
     cases wr'
     ·exact h2
     ·exact ⟨h2.1,ama ho br B _ _ h2.2⟩
   | map ks vs c0=>cases y<;>exact h2
   | iter a since seen last=>cases y<;>exact h2
section
variable {Γ:Env} {A W:Nat→Prop} [DecidablePred A] {b:Nat} {s:St} {v:V} {p:Nat→Option Ob} {K:St→Prop}
theorem al7 {aop:AOp} {d:Option Nat} (h:ahw Γ A W b s aop v p) (hk:K (s.app d v p)):arP Γ b s d aop K:=by
 have call:∀ f acts,(∃ args ins res outs br B,Ev Γ f args ins res outs∧Jn (Uv A s.o) br B acts args∧as7 (Uv A s.o) br B br ins∧br.Nodup∧(∀ x∈br,x < b∧W x) ∧
   ins.length≤outs.length∧outs.length - ins.length < KK∧(B = none→res.noSl∧∀ x∈outs,x.noSl)∧(∀ l,B = some l→∀ x∈l,A x∧W x)∧v = res.ren (sig br b)∧p = v7 (Xe (sig br b) b br outs noP) (arm B br (Uv A s.o)))→aeT Γ b s d f acts K:=by
  rintro f acts ⟨args,ins,res,outs,br,B,h1,h2,h3,h4,h5,h6,h7,h8,h9,rfl,rfl⟩
  refine J5 ⟨args,ins,res,outs,br,B,h1,VT ajI _ _ _ _ h2,aom ajI _ _ _ _ h3,h4,fun x hx=>(h5 x hx).1,h6,h7,h8,?_⟩
  have e:arm B br (Uv A s.o) = arm B br s.o:=by
   funext a
   cases B with
   | none=>rfl
   | some l =>
     simp only [arm]
     by_cases h:a∈l∧a ∉ br
     ·rw [if_pos h,if_pos h,Uv,if_pos (h9 l rfl a h.1).1]
     ·rw [if_neg h,if_neg h]
  rw [ahb,aoI,alP,← e]
  exact hk
 have plain:∀ m:AM E,m.wp (Uv A s.o) (fun e=>v = e.v∧p = ad0 noP e.os∧∀ q∈e.os,W q.1∨(b≤q.1∧q.1 < b + KK))→m.wp s.o fun e=>K (s.eff d e):=by
  intro m hm
  refine AM.wp_mono ajI m _ _ ?_ hm
  rintro e ⟨rfl,rfl,_⟩
  have:s.eff d e = s.app d e.v (ad0 noP e.os):=by
   simp only [St.eff,St.app]
   rw [← alL]
   cases d<;>rfl
  rw [this];exact hk
 cases aop
 case call f as=>exact call f _ h
 case callv y as =>
  simp only [ahw] at h
  simp only [arP]
  split at h
  ·rename_i f cap he
   first|(rw [he];exact call _ _ h)|exact call _ _ h
  ·exact h.elim
 all_goals exact plain _ h
theorem awc {x:AO} (h:eff Γ A W b s x v p) (hk:K (s.app x.d v p)) :
  match x.g with
  | none=>arP Γ b s x.d x.op K
  | some (g,want)=>∃ q,isG (s.t g) q∧(q = some want→arP Γ b s x.d x.op K)∧(q≠some want→K (s.put x.d V.und)):=by
 unfold eff at h
 cases hg:x.g with
 | none=>simp only [hg] at h;exact al7 h hk
 | some gw =>
   obtain ⟨g,want⟩:=gw
   simp only [hg] at h
   obtain ⟨q,h1,h2,h3⟩:=h
   refine ⟨q,h1,fun e=>al7 (h2 e) hk,fun e=>?_⟩
   obtain ⟨rfl,rfl⟩:=h3 e
   have:s.app x.d V.und noP = s.put x.d V.und:=by
    have e:v7 noP s.o = s.o:=by funext a;simp [v7,noP]
    cases x.d<;>simp [St.app,St.put,e]
   rw [← this];exact hk
theorem aqq {s':St} {aop:AOp} (ht:∀ y∈aop.opds,s.ev y = s'.ev y) (ho:Uv A s.o = Uv A s'.o) (h:ahw Γ A W b s aop v p):ahw Γ A W b s' aop v p:=by
 cases aop
 case call f as =>
  simp only [ahw,AOp.opds] at h ht ⊢
  rw [← ho,← kS ht];exact h
 case callv y as =>
  simp only [ahw,AOp.opds] at h ht ⊢
  rw [← ho,← kS (fun z hz=>ht z (by simp [hz])),← ht y (by simp)];exact h
 all_goals
  simp only [ahw] at h ⊢
  rw [← ho,← atm b _ ht];exact h
theorem aoY {s':St} {x:AO} (ht:∀ i∈x.looks,s.t i = s'.t i) (ho:Uv A s.o = Uv A s'.o) (h:eff Γ A W b s x v p):eff Γ A W b s' x v p:=by
 have hop:=fun h=>aqq (Γ:=Γ) (A:=A) (W:=W) (b:=b) (v:=v) (p:=p) (av6 ht) ho h
 unfold eff at h ⊢
 cases hg:x.g with
 | none=>simp only [hg] at h;exact hop h
 | some gw =>
   obtain ⟨g,want⟩:=gw
   simp only [hg] at h
   obtain ⟨q,h1,h2,h3⟩:=h
   refine ⟨q,?_,fun e=>hop (h2 e),h3⟩
   rw [← ht g (by simp [AO.looks,hg])];exact h1
theorem an5:∀ (os:List (Nat×Ob)) (q:Nat→Option Ob) (a:Nat),ad0 q os a≠none→q a≠none∨∃ e∈os,e.1 = a
 | [],q,a,h=>.inl h
 | (c,x) :: r,q,a,h=>by
  rcases an5 r _ a h with h1|⟨e,h1,h2⟩
  ·by_cases hc:a = c
   ·exact .inr ⟨(c,x),by simp,hc.symm⟩
   ·rw [QW _ _ hc] at h1;exact .inl h1
  ·exact .inr ⟨e,by simp [h1],h2⟩
theorem al6 {aop:AOp} (h:ahw Γ A W b s aop v p):∀ a,p a≠none→W a∨(b≤a∧a < b + KK):=by
 intro a ha
 have call:∀ f acts,(∃ args ins res outs br B,Ev Γ f args ins res outs∧Jn (Uv A s.o) br B acts args∧as7 (Uv A s.o) br B br ins∧br.Nodup∧(∀ x∈br,x < b∧W x) ∧
   ins.length≤outs.length∧outs.length - ins.length < KK∧(B = none→res.noSl∧∀ x∈outs,x.noSl)∧(∀ l,B = some l→∀ x∈l,A x∧W x)∧v = res.ren (sig br b)∧p = v7 (Xe (sig br b) b br outs noP) (arm B br (Uv A s.o)))→W a∨(b≤a∧a < b + KK):=by
  rintro f acts ⟨args,ins,res,outs,br,B,h1,h2,h3,h4,h5,h6,h7,h8,h9,rfl,rfl⟩
  obtain ⟨hlen,_⟩:=ajn h3
  by_cases hfr:arm B br (Uv A s.o) a = none
  ·have ha:Xe (sig br b) b br outs noP a≠none:=fun e=>ha (by simp [v7,e,hfr])
   rcases ajM (sig br b) b br outs noP a (by omega) (fun x hx=>(h5 x hx).1) h4 with ⟨k,x,e1,_,_⟩|⟨_,j,x,rfl,e2,_⟩|⟨_,e2,_⟩
   ·exact .inl (h5 a (zm e1)).2
   ·have:=(zh.1 e2).1
    exact .inr ⟨by omega,by omega⟩
   ·exact (ha e2).elim
  ·cases B with
   | none=>exact (hfr rfl).elim
   | some l =>
     simp only [arm] at hfr
     by_cases h:a∈l∧a ∉ br
     ·exact .inl (h9 l rfl a h.1).2
     ·rw [if_neg h] at hfr;exact (hfr rfl).elim
 have plain:∀ m:AM E,m.wp (Uv A s.o) (fun e=>v = e.v∧p = ad0 noP e.os∧∀ q∈e.os,W q.1∨(b≤q.1∧q.1 < b + KK))→W a∨(b≤a∧a < b + KK):=by
  intro m
  induction m with
  | no=>intro h;exact h.elim
  | ret e =>
    rintro ⟨rfl,rfl,hq⟩
    rcases an5 e.os noP a ha with h1|⟨q,h1,rfl⟩
    ·exact (h1 rfl).elim
    ·exact hq q h1
  | asrt q m ih=>intro h;exact ih h.2
  | rd c k ih=>rintro ⟨ob,_,h⟩;exact ih _ h
  | any k ih=>intro h;exact ih true (h true)
  | anyN l k ih =>
    rintro ⟨h1,h2⟩
    obtain ⟨i,r,rfl⟩:=List.exists_cons_of_ne_nil h1
    exact ih i (h2 i (by simp))
 cases aop
 case call f as=>exact call f _ h
 case callv y as =>
  simp only [ahw] at h
  split at h
  ·exact call _ _ h
  ·exact h.elim
 all_goals exact plain _ h
theorem arC {x:AO} (h:eff Γ A W b s x v p):∀ a,p a≠none→W a∨(b≤a∧a < b + KK):=by
 unfold eff at h
 cases hg:x.g with
 | none=>simp only [hg] at h;exact al6 h
 | some gw =>
   obtain ⟨g,want⟩:=gw
   simp only [hg] at h
   obtain ⟨q,h1,h2,h3⟩:=h
   by_cases e:q = some want
   ·exact al6 (h2 e)
   ·obtain ⟨_,rfl⟩:=h3 e
    intro a ha;exact (ha rfl).elim
end
theorem arS {s:St} {d:Option Nat} {v:V} {p:Nat→Option Ob} {i:Nat} (h:d≠some i):(s.app d v p).t i = s.t i:=by
 cases d with
 | none=>rfl
 | some k=>exact QW _ _ (fun e=>h (by rw [e]))
theorem awx {s:St} {d e:Option Nat} {v u:V} {p q:Nat→Option Ob} (hde:∀ k,d = some k→e≠some k) (hpq:∀ a,p a = none∨q a = none):(s.app d v p).app e u q = (s.app e u q).app d v p:=by
 have ho:v7 q (v7 p s.o) = v7 p (v7 q s.o):=atE (fun a=>(hpq a).symm)
 have ht:((s.app d v p).put e u).t = ((s.app e u q).put d v).t:=by
  cases d with
  | none=>cases e<;>rfl
  | some k =>
    cases e with
    | none=>rfl
    | some l =>
      have hkl:l≠k:=fun h=>hde k rfl (by rw [h])
      funext i
      simp only [St.app,St.put,upd]
      by_cases h1:i = l
      ·subst h1;simp [hkl]
      ·simp [h1]
 simp only [St.app] at ht ⊢
 rw [ho]
 congr 1
theorem awb {Γ:Env} {A W A' W':Nat→Prop} [DecidablePred A] [DecidablePred A'] {b b':Nat} {s:St} {x y:AO} {v u:V} {p q:Nat→Option Ob}
  (h1:∀ k,x.d = some k→k ∉ y.looks∧y.d≠some k) (h2:∀ k,y.d = some k→k ∉ x.looks)
  (a1:∀ a,(W a∨(b≤a∧a < b + KK))→¬ A' a) (a2:∀ a,(W' a∨(b'≤a∧a < b' + KK))→¬ A a) (a3:∀ a,(W a∨(b≤a∧a < b + KK))→¬ (W' a∨(b'≤a∧a < b' + KK)))
  (hx:eff Γ A W b s x v p) (hy:eff Γ A' W' b' (s.app x.d v p) y u q) :
  eff Γ A' W' b' s y u q∧eff Γ A W b (s.app y.d u q) x v p∧(s.app x.d v p).app y.d u q = (s.app y.d u q).app x.d v p:=by
 have sp:=arC hx
 have sq:=arC hy
 have keep:∀ (B:Nat→Prop) [DecidablePred B] (r o:Nat→Option Ob),(∀ a,r a≠none→¬ B a)→Uv B (v7 r o) = Uv B o:=by
  intro B _ r o h
  funext a
  unfold Uv
  split
  ·rename_i hB
   have:r a = none:=by
    cases hr:r a with
    | none=>rfl
    | some z=>exact (h a (by simp [hr]) hB).elim
   simp [v7,this]
  ·rfl
 refine ⟨aoY (fun i hi=>arS fun e=>(h1 i e).1 hi) (keep A' p s.o (fun a ha=>a1 a (sp a ha))) hy,
  aoY (fun i hi=>(arS fun e=>h2 i e hi).symm) (keep A q s.o (fun a ha=>a2 a (sq a ha))).symm hx,awx (fun k hk=>(h1 k hk).2) (fun a=>?_)⟩
 cases hp:p a with
 | none=>exact .inl rfl
 | some z =>
   right
   cases hq:q a with
   | none=>rfl
   | some z'=>exact (a3 a (sp a (by simp [hp])) (sq a (by simp [hq]))).elim
end Av
end
section
namespace Av
open Go
def AOp.isX:AOp→Bool
 | .store ..|.append ..|.appendS ..|.copy ..|.mapset ..|.mapclr ..|.nxt ..|.clrS ..=>true
 | _=>false
def AOp.allocs:AOp→Bool
 | .mknil _|.alloc _|.box ..|.allocT ..|.bslice ..|.obslice ..|.convSB _|.mkslice ..|.append ..|.appendS ..|.call ..|.callv ..|.mkmap|.rng ..=>true
 | _=>false
def AOp.det:AOp→Bool
 | .isnil ..|.nxt ..=>false
 | _=>true
def AOp.pureV:AOp→Bool
 | .mov _|.pick _ _ _|.build _ _|.bin _ _ _|.un _ _|.eqb _ _ _|.convI _ _|.ext _ _|.mm _ _|.faddr _ _|.lenL _|.lenS _=>true
 | _=>false
def azd:List AO→Nat→List (Option Nat×List Nat)→List (List Nat)
 | [],_,_=>[]
 | x :: r,j,pre =>
   let l:=x.looks
   let a:=((pre.filter fun e=>match e.1 with|some d=>l.contains d|none=>false).flatMap (·.2)).eraseDups
   (if x.op.pureV then [] else a) :: azd r (j + 1) ((x.d,if x.op.allocs then j :: a else a) :: pre)
structure RI where
 x:AO
 X:Bool
 acl:List Nat
 ahead:List Nat
def an1 (L:List Nat):List AO→List (List Nat)→List (List Nat)→Nat→List RI
 | x :: r,a :: as,h :: hs,j=>⟨x,x.op.isX || L.contains j,a,h⟩ :: an1 L r as hs (j + 1)
 | _,_,_,_=>[]
def ris (ops:List AO) (ahead:List (List Nat)) (L:List Nat):List RI:=an1 L ops (azd ops 0 []) ahead 0
def RI.inR (r:RI) (b0 a:Nat):Bool:=r.acl.any fun i=>decide (b0 + i * KK≤a) && decide (a < b0 + i * KK + KK)
def RI.A (r:RI) (fz:Nat→Bool) (b0 a:Nat):Bool:=(decide (a < b0) && (r.X || fz a)) || r.inR b0 a
def RI.W (r:RI) (fz:Nat→Bool) (b0 a:Nat):Bool:=r.X && ((decide (a < b0) && !fz a) || r.inR b0 a)
def arT (d:Option Nat) (l:List Nat):Bool:=match d with|some k=>!l.contains k|none=>true
def RI.comm (r q:RI) (i j:Nat):Bool :=
 arT r.x.d q.x.looks && arT q.x.d r.x.looks && (match r.x.d with|some k=>q.x.d != some k|none=>true) &&
  !(r.X && q.X) && !q.acl.contains i && !r.acl.contains j && (!(r.X || q.X) || r.acl.all fun k=>!q.acl.contains k)
theorem aul {r:RI} {b0 a:Nat}:r.inR b0 a = true↔∃ i∈r.acl,b0 + i * KK≤a∧a < b0 + i * KK + KK:=by
 simp [RI.inR,Zx]
theorem ag9 {b0 i j a:Nat} (h:b0 + i * KK≤a∧a < b0 + i * KK + KK) (h':b0 + j * KK≤a∧a < b0 + j * KK + KK):i = j:=by
 simp only [KK] at h h'
 omega
theorem anZ {b0 i a:Nat} (h:b0 + i * KK≤a∧a < b0 + i * KK + KK):b0≤a:=by omega
theorem RI.A_cases {r:RI} {fz:Nat→Bool} {b0 a:Nat} (h:r.A fz b0 a = true):(a < b0∧(r.X = false→fz a = true))∨∃ i∈r.acl,b0 + i * KK≤a∧a < b0 + i * KK + KK:=by
 simp only [RI.A,kG,zo,zu] at h
 rcases h with ⟨h0,h⟩|h
 ·refine .inl ⟨h0,fun hx=>?_⟩
  rcases h with h|h
  ·rw [hx] at h;cases h
  ·exact h
 ·exact .inr (aul.1 h)
theorem RI.W_cases {r:RI} {fz:Nat→Bool} {b0 a:Nat} (h:r.W fz b0 a = true):r.X = true∧((a < b0∧fz a = false)∨∃ i∈r.acl,b0 + i * KK≤a∧a < b0 + i * KK + KK):=by
 simp only [RI.W,zo,kG] at h
 obtain ⟨h1,h⟩:=h
 refine ⟨h1,?_⟩
 rcases h with h|h
 ·left;simpa using h
 ·exact .inr (aul.1 h)
theorem amc {r q:RI} {i j:Nat} {fz:Nat→Bool} {b0:Nat} (hij:i≠j) (hx:¬ (r.X = true∧q.X = true)) (hq:i ∉ q.acl) (hr:j ∉ r.acl) (hs:(r.X = true∨q.X = true)→∀ k∈r.acl,k ∉ q.acl) :
  ∀ a,(r.W fz b0 a = true∨(b0 + i * KK≤a∧a < b0 + i * KK + KK))→¬ q.A fz b0 a = true∧¬ (q.W fz b0 a = true∨(b0 + j * KK≤a∧a < b0 + j * KK + KK)):=by
 intro a ha
 rcases ha with ha|ha
 ·obtain ⟨rx,ha⟩:=RI.W_cases ha
  have qx:q.X = false:=by
   cases h:q.X
   ·rfl
   ·exact (hx ⟨rx,h⟩).elim
  refine ⟨fun hA=>?_,fun hW=>?_⟩
  ·rcases RI.A_cases hA with ⟨h1,h2⟩|⟨k,h1,h2⟩
   ·rcases ha with ⟨_,h3⟩|⟨k,_,h4⟩
    ·rw [h2 qx] at h3;cases h3
    ·have:=anZ h4;omega
   ·rcases ha with ⟨h3,_⟩|⟨k',h3,h4⟩
    ·have:=anZ h2;omega
    ·have:=ag9 h4 h2
     subst this
     exact hs (.inl rx) _ h3 h1
  ·rcases hW with hW|hW
   ·have:=(RI.W_cases hW).1;rw [qx] at this;cases this
   ·rcases ha with ⟨h3,_⟩|⟨k',h3,h4⟩
    ·have:=anZ hW;omega
    ·have:=ag9 h4 hW
     subst this
     exact hr h3
 ·refine ⟨fun hA=>?_,fun hW=>?_⟩
  ·rcases RI.A_cases hA with ⟨h1,_⟩|⟨k,h1,h2⟩
   ·have:=anZ ha;omega
   ·have:=ag9 ha h2
    subst this
    exact hq h1
  ·rcases hW with hW|hW
   ·rcases (RI.W_cases hW).2 with ⟨h1,_⟩|⟨k,h1,h2⟩
    ·have:=anZ ha;omega
    ·have:=ag9 ha h2
     subst this
     exact hq h1
   ·exact hij (ag9 ha hW)
theorem auK {r q:RI} {i j:Nat} (h:r.comm q i j = true) :
  (∀ k,r.x.d = some k→k ∉ q.x.looks∧q.x.d≠some k)∧(∀ k,q.x.d = some k→k ∉ r.x.looks)∧¬ (r.X = true∧q.X = true)∧i ∉ q.acl∧j ∉ r.acl∧((r.X = true∨q.X = true)→∀ k∈r.acl,k ∉ q.acl):=by
 simp only [RI.comm,zo,kG,Zh,ZT,zH] at h
 obtain ⟨⟨⟨⟨⟨⟨h1,h2⟩,h3⟩,h4⟩,h5⟩,h6⟩,h7⟩:=h
 refine ⟨fun k hk=>⟨?_,?_⟩,fun k hk=>?_,fun hh=>?_,h5,h6,fun hh k hk=>?_⟩
 ·simp [arT,hk] at h1;exact h1
 ·simp [hk] at h3;exact h3
 ·simp [arT,hk] at h2;exact h2
 ·simp [hh.1,hh.2] at h4
 ·rcases h7 with h7|h7
  ·rcases hh with hh|hh<;>simp [hh] at h7
  ·have:=kH.1 h7 k hk
   simpa using this
end Av
end
section
namespace Av
open Go
inductive OT where
 | done
 | one (i:Nat) (t:OT)
 | or (i:Nat) (t r:OT)
def ins (l:Nat→Bool) (i:Nat) (a:Nat):Bool:=a == i || l a
theorem avX (l:Nat→Bool) (i j:Nat):ins (ins l i) j = ins (ins l j) i:=by
 funext a
 simp only [ins]
 cases (a == i)<;>cases (a == j)<;>rfl
def rdy (rs:List RI) (l:Nat→Bool):List Nat:=(List.range rs.length).filter fun j=>!l j && (match rs[j]? with|some r=>r.ahead.all l|none=>false)
theorem ae9 {rs:List RI} {l:Nat→Bool} {j:Nat}:j∈rdy rs l↔l j = false∧∃ r,rs[j]? = some r∧∀ k∈r.ahead,l k = true:=by
 unfold rdy
 rw [ZL,k9]
 cases h:rs[j]? with
 | none=>simp
 | some r =>
   have:=(zh.1 h).1
   simp [this]
def OT.heads:OT→List Nat
 | .or i _ r=>i :: r.heads
 | _=>[]
def anK (rs:List RI) (l:Nat→Bool):Nat→Nat→Nat→Bool
 | 0,_,_=>false
 | f + 1,j,i=>match rs[j]? with|some q=>q.ahead.any fun k=>k == i || (!l k && anK rs l f k i)|none=>false
theorem an4 {rs:List RI} {l:Nat→Bool} {i j:Nat} (hj:j∈rdy rs l) (hi:l i = false) (f:Nat):anK rs l f j i = false:=by
 obtain ⟨_,q,hq,hk⟩:=ae9.1 hj
 cases f with
 | zero=>rfl
 | succ f =>
   simp only [anK,hq]
   refine List.any_eq_false.2 fun k hkm=>?_
   have h1:=hk k hkm
   have h2:k≠i:=fun e=>by rw [e,hi] at h1;cases h1
   simp [h1,h2]
theorem atc {rs:List RI} {l:Nat→Bool} {i j:Nat} (hj:j∈rdy rs l) (hi:l i = false):∀ (f m:Nat),anK rs l f m i = true→anK rs (ins l j) f m i = true:=by
 intro f
 induction f with
 | zero=>intro m h;exact h
 | succ f ih =>
   intro m h
   simp only [anK] at h ⊢
   split at h
   ·rename_i q hq
    obtain ⟨k,hkm,hk⟩:=Zx.1 h
    refine Zx.2 ⟨k,hkm,?_⟩
    simp only [kG,ki,zo,Zh] at hk ⊢
    rcases hk with e|⟨h1,h2⟩
    ·exact .inl e
    ·by_cases hkj:k = j
     ·subst hkj;rw [an4 hj hi f] at h2;cases h2
     ·exact .inr ⟨by simp [ins,h1,hkj],ih k h2⟩
   ·cases h
def abt (rs:List RI) (l:Nat→Bool) (i:Nat):Bool :=
 match rs[i]? with
 | none=>false
 | some r=>(List.range rs.length).all fun j=>j == i || l j || match rs[j]? with|some q=>q.ahead.contains i || (r.comm q i j || anK rs l 6 j i)|none=>true
mutual
def chk (rs:List RI):(Nat→Bool)→OT→Bool
 | l,.done=>(rdy rs l).isEmpty
 | l,.one i t=>(rdy rs l).contains i && abt rs l i && chk rs (ins l i) t
 | l,.or i t r=>(rdy rs l).contains i && (rdy rs l).all (fun j=>j == i || r.heads.contains j) && chk rs (ins l i) t && arH rs l r
def arH (rs:List RI):(Nat→Bool)→OT→Bool
 | l,.or i t r=>chk rs (ins l i) t && arH rs l r
 | _,_=>true
end
section
variable (Γ:Env) (fz:Nat→Bool) (b0:Nat) (rs:List RI) (K:St→Prop)
def acA (j:Nat) (K:St→Prop) (s:St):Prop :=
 match rs[j]? with
 | none=>K s
 | some r=>∃ v p,eff Γ (fun a=>r.A fz b0 a = true) (fun a=>r.W fz b0 a = true) (b0 + j * KK) s r.x v p∧K (s.app r.x.d v p)
def azh:Nat→(Nat→Bool)→St→Prop
 | 0,l,s=>rdy rs l = []∧K s
 | f + 1,l,s=>(rdy rs l = []→K s)∧∀ j∈rdy rs l,acA Γ fz b0 rs j (azh f (ins l j)) s
def awT:OT→St→Prop
 | .done,s=>K s
 | .one i t,s=>acA Γ fz b0 rs i (awT t) s
 | .or i t r,s=>acA Γ fz b0 rs i (awT t) s∧awT' r s
where awT':OT→St→Prop
 | .or i t r,s=>acA Γ fz b0 rs i (awT t) s∧awT' r s
 | _,_=>True
variable {Γ:Env} {fz:Nat→Bool} {b0:Nat} {rs:List RI} {K:St→Prop}
theorem ag4 {j:Nat} {K K':St→Prop} {s:St} (hk:∀ s,K s→K' s) (h:acA Γ fz b0 rs j K s):acA Γ fz b0 rs j K' s:=by
 unfold acA at h ⊢
 split
 ·rename_i e;simp only [e] at h;exact hk _ h
 ·rename_i r e;simp only [e] at h;obtain ⟨v,p,h1,h2⟩:=h;exact ⟨v,p,h1,hk _ h2⟩
theorem ams {l:Nat→Bool} {i j:Nat} (hj:j∈rdy rs l) (hne:j≠i):j∈rdy rs (ins l i):=by
 rw [ae9] at hj ⊢
 obtain ⟨h1,r,h2,h3⟩:=hj
 exact ⟨by simp [ins,h1,hne],r,h2,fun k hk=>by simp [ins,h3 k hk]⟩
theorem abs {l:Nat→Bool} {i:Nat} (h:abt rs l i = true):∃ r,rs[i]? = some r∧∀ j q,rs[j]? = some q→j≠i→l j = false→i ∉ q.ahead→anK rs l 6 j i = false→r.comm q i j = true:=by
 unfold abt at h
 split at h
 ·cases h
 ·rename_i r hr
  refine ⟨r,hr,fun j q hq hne hl hn hw=>?_⟩
  have hj:=(zh.1 hq).1
  have:=kH.1 h j (by simpa using hj)
  simp only [hq,kG,ki,hne,hl,zw,false_or,ZT,zu,hn,hw,or_false] at this
  exact this
theorem aoi {l:Nat→Bool} {i j:Nat} (hj:j∈rdy rs l) (hi:l i = false) (h:abt rs l i = true):abt rs (ins l j) i = true:=by
 obtain ⟨r,hr,_⟩:=abs h
 ·simp only [abt,hr] at h ⊢
  refine kH.2 fun k hk=>?_
  have:=kH.1 h k hk
  simp only [kG] at this ⊢
  rcases this with (h1|h1)|h1
  ·exact .inl (.inl h1)
  ·exact .inl (.inr (by simp [ins,h1]))
  ·refine .inr ?_
   split at h1
   ·rename_i q hq
    simp only [hq,kG] at h1 ⊢
    rcases h1 with h1|h1|h1
    ·exact .inl h1
    ·exact .inr (.inl h1)
    ·exact .inr (.inr (atc hj hi 6 k h1))
   ·rename_i hq;simp [hq]
theorem au8 {i:Nat}:∀ (f:Nat) (l:Nat→Bool) (s:St),i∈rdy rs l→abt rs l i = true→acA Γ fz b0 rs i (azh Γ fz b0 rs K f (ins l i)) s→azh Γ fz b0 rs K (f + 1) l s:=by
 intro f
 induction f with
 | zero =>
   intro l s hi hm h
   refine ⟨fun e=>(by rw [e] at hi;cases hi),fun j hj=>?_⟩
   by_cases hji:j = i
   ·subst hji;exact h
   ·exfalso
    have hj':=ams hj hji
    obtain ⟨r,hr,_⟩:=abs hm
    unfold acA at h
    simp only [hr] at h
    obtain ⟨v,p,_,h2⟩:=h
    rw [h2.1] at hj'
    cases hj'
 | succ f ih =>
   intro l s hi hm h
   refine ⟨fun e=>(by rw [e] at hi;cases hi),fun j hj=>?_⟩
   by_cases hji:j = i
   ·subst hji;exact h
   ·obtain ⟨r,hr,hcomm⟩:=abs hm
    obtain ⟨hlj,q,hq,hah⟩:=ae9.1 hj
    obtain ⟨hli,_,_,_⟩:=ae9.1 hi
    have hnot:i ∉ q.ahead:=fun e=>by have:=hah i e;rw [hli] at this;cases this
    have hc:=hcomm j q hq hji hlj hnot (an4 hj hli 6)
    obtain ⟨c1,c2,c3,c4,c5,c6⟩:=auK hc
    have ap:=amc (fz:=fz) (b0:=b0) (Ne.symm hji) c3 c4 c5 c6
    have ap':=amc (fz:=fz) (b0:=b0) hji (fun e=>c3 ⟨e.2,e.1⟩) c5 c4 (fun e k hk hk'=>c6 e.symm k hk' hk)
    unfold acA at h
    simp only [hr] at h
    obtain ⟨v,p,h1,h2⟩:=h
    have h3:=h2.2 j (ams hj hji)
    unfold acA at h3
    simp only [hq] at h3
    obtain ⟨u,p',h4,h5⟩:=h3
    obtain ⟨w1,w2,w3⟩:=awb c1 c2 (fun a ha=>(ap a ha).1) (fun a ha=>(ap' a ha).1) (fun a ha=>(ap a ha).2) h1 h4
    unfold acA
    simp only [hq]
    refine ⟨u,p',w1,ih (ins l j) _ (ams hi (Ne.symm hji)) (aoi hj hli hm) ?_⟩
    unfold acA
    simp only [hr]
    refine ⟨v,p,w2,?_⟩
    rw [← w3,avX]
    exact h5
def unl (rs:List RI) (l:Nat→Bool):Nat:=((List.range rs.length).filter fun j=>!l j).length
theorem af2 {p q:Nat→Bool}:∀ (xs:List Nat) {i:Nat},i∈xs→p i = true→q i = false→(∀ a,q a = true→p a = true)→(xs.filter q).length < (xs.filter p).length
 | [],_,h,_,_,_=>by cases h
 | x :: xs,i,h,hp,hq,hs=>by
   have le:∀ ys:List Nat,(ys.filter q).length≤(ys.filter p).length:=by
    intro ys
    induction ys with
    | nil=>exact zl _
    | cons y ys ih =>
      cases hy:q y
      ·cases hy':p y<;>simp [hy,hy']<;>omega
      ·simp [hy,hs y hy];exact ih
   rcases zy.1 h with rfl|h'
   ·simp [hp,hq];have:=le xs;omega
   ·have ih:=af2 xs h' hp hq hs
    cases hy:q x
    ·cases hy':p x<;>simp [hy,hy']<;>omega
    ·simp [hy,hs x hy];exact ih
theorem ate {l:Nat→Bool} {i:Nat} (h:i∈rdy rs l):unl rs (ins l i) < unl rs l:=by
 obtain ⟨h1,r,h2,_⟩:=ae9.1 h
 refine af2 _ (i:=i) (by simpa using (zh.1 h2).1) (by simp [h1]) (by simp [ins]) (fun a ha=>?_)
 simp [ins] at ha
 simp [ha.2]
end
end Av
end
section
namespace Av
open Go
section
variable {Γ:Env} {fz:Nat→Bool} {b0:Nat} {rs:List RI} {K:St→Prop}
theorem au9 {l:Nat→Bool}:∀ (r:OT) (s:St),arH rs l r = true→awT.awT' Γ fz b0 rs K r s→∀ j∈r.heads,∃ t:OT,SizeOf.sizeOf t < SizeOf.sizeOf r∧chk rs (ins l j) t = true∧acA Γ fz b0 rs j (awT Γ fz b0 rs K t) s
 | .done,_,_,_,j,h=>by simp [OT.heads] at h
 | .one _ _,_,_,_,j,h=>by simp [OT.heads] at h
 | .or i t r,s,hc,h,j,hj=>by
   simp only [arH,zo] at hc
   simp only [awT.awT'] at h
   simp only [OT.heads,zy] at hj
   rcases hj with rfl|hj
   ·exact ⟨t,by simp;omega,hc.1,h.1⟩
   ·obtain ⟨t',h1,h2,h3⟩:=au9 r s hc.2 h.2 j hj
    exact ⟨t',by simp;omega,h2,h3⟩
theorem awy:∀ (k:Nat) (ot:OT) (l:Nat→Bool) (f:Nat) (s:St),SizeOf.sizeOf ot≤k→unl rs l≤f→chk rs l ot = true→awT Γ fz b0 rs K ot s→azh Γ fz b0 rs K f l s:=by
 intro k
 induction k with
 | zero=>intro ot l f s hk;cases ot<;>simp at hk
 | succ k ih =>
   intro ot l f s hk hf hc h
   cases ot with
   | done =>
     simp only [chk,List.isEmpty_iff] at hc
     cases f with
     | zero=>exact ⟨hc,h⟩
     | succ f=>exact ⟨fun _=>h,fun j hj=>by rw [hc] at hj;cases hj⟩
   | one i t =>
     simp only [chk,zo,ZT,zu] at hc
     obtain ⟨⟨h1,h2⟩,h3⟩:=hc
     have hu:=ate h1
     cases f with
     | zero=>omega
     | succ f =>
       refine au8 f l s h1 h2 ?_
       simp only [awT] at h
       exact ag4 (fun s' hs'=>ih t _ f s' (by simp at hk;omega) (by omega) h3 hs') h
   | or i t r =>
     simp only [chk,zo,ZT,zu] at hc
     obtain ⟨⟨⟨h1,h2⟩,h3⟩,h4⟩:=hc
     have hu:=ate h1
     simp only [awT] at h
     cases f with
     | zero=>omega
     | succ f =>
       refine ⟨fun e=>(by rw [e] at h1;cases h1),fun j hj=>?_⟩
       have huj:=ate hj
       have hmem:=kH.1 h2 j hj
       simp only [kG,ki,zu] at hmem
       by_cases hji:j = i
       ·subst hji
        exact ag4 (fun s' hs'=>ih t _ f s' (by simp at hk;omega) (by omega) h3 hs') h.1
       ·have hmem:j∈r.heads:=by
         rcases hmem with e|e
         ·exact (hji e).elim
         ·simpa using e
        obtain ⟨t',e1,e2,e3⟩:=au9 r s h4 h.2 j hmem
        exact ag4 (fun s' hs'=>ih t' _ f s' (by simp at hk;omega) (by omega) e2 hs') e3
end
section
variable {C:Ctx} {nt:Nat}
def Ul (b0:Nat) (l:Nat→Bool) (x:Nat):Prop:=x < b0∨∃ j,l j = true∧b0 + j * KK≤x∧x < b0 + j * KK + KK
theorem anV {U:Nat→Prop} {s:St} {a:Act} {w:World} (hs:anq C nt U s a w) {d:Option Nat} (hd:∀ k,d = some k→k < nt):anq C nt U (s.put d V.und) (a.put d undef) w:=by
 obtain ⟨Z,μ,hg,ht,hf,hd0,hn⟩:=hs
 exact ⟨Z,μ,by rw [St.put_o];exact hg,apM ht hn hd atw,hf,aha.trans hd0,amt.trans hn⟩
theorem ayD {ops:Array Oper} {Q:Exit→Act→World→Prop} {U:Nat→Prop} {n j:Nat} {s:St} {a:Act} {w:World} (hs:anq C nt U s a w) (hm:C.m≤n) (hfr:∀ x,n≤x→x < n + KK→¬ U x)
  {o:Oper} (ho:ops[j]? = some o) {x:AO} (hc:asL C.P nt ops o = some x) {K:St→Prop} {next:Act→World→Prop}
  (h:match x.g with
    | none=>arP C.env n s x.d x.op K
    | some (g,want)=>∃ q,isG (s.t g) q∧(q = some want→arP C.env n s x.d x.op K)∧(q≠some want→K (s.put x.d V.und)))
  (hk:∀ s' a' w',K s'→anq C nt (fun x=>U x∨(n≤x∧x < n + KK)) s' a' w'→next a' w'):wpOp C.P ops Q j next a w:=by
 obtain ⟨c1,c2,c3,c4⟩:=amb hc
 have run:arP C.env n s x.d x.op K→o.wp C.P a w next Q:=by
  rw [c3]
  exact fun h=>awO hs hm hfr c4 c1 h hk
 simp only [wpOp,ho]
 cases hg:x.g with
 | none =>
   simp only [hg] at h
   rw [hg] at c2
   have:o.guard = none:=by
    cases hgu:o.guard with
    | none=>rfl
    | some p =>
      obtain ⟨j,want⟩:=p
      rw [hgu] at c2
      simp only [aib] at c2
      split at c2<;>simp at c2
   rw [ajA this]
   simp only [if_true]
   exact .inl (run h)
 | some p =>
   obtain ⟨g,want⟩:=p
   simp only [hg] at h
   obtain ⟨q,hq,hq1,hq2⟩:=h
   rw [hg] at c2
   cases hgu:o.guard with
   | none=>rw [hgu] at c2;simp [aib] at c2
   | some p =>
     obtain ⟨j',want'⟩:=p
     rw [hgu] at c2
     simp only [aib] at c2
     split at c2
     ·rename_i g' hg'
      simp only [zf,Z9] at c2
      obtain ⟨rfl,rfl⟩:=c2
      have hy:yielded ops a.tmps j' = q:=by
       obtain ⟨Z,μ,_,ht,_⟩:=hs
       exact awz ht hg' hq
      rw [atb hgu hy]
      by_cases hqw:q = some want'
      ·simp only [hqw,decide_true,if_true];exact .inl (run (hq1 hqw))
      ·simp only [hqw,decide_false,zw,if_false]
       refine hk _ _ _ (hq2 hqw) ?_
       rw [c3]
       exact (anV hs c4).mono (fun x hx=>.inl hx)
     ·cases c2
theorem au7 {ops:Array Oper} {Q:Exit→Act→World→Prop} {rs:List RI} (hlen:rs.length = ops.size)
  (hrs:∀ (j:Nat) (r:RI) (o:Oper),rs[j]? = some r→ops[j]? = some o→asL C.P nt ops o = some r.x∧r.ahead = (o.after.toList.filter (Region.binds .any)).map (·.on)) {b0:Nat} (hm:C.m≤b0) {fz:Nat→Bool} {K:St→Prop}
  (hQ:∀ s a w l,(∀ j,l j = true→j < ops.size)→K s→anq C nt (Ul b0 l) s a w→Q .normal a w) :
  ∀ (f:Nat) (listed:Array Bool) (l:Nat→Bool) (s:St) (a:Act) (w:World),listed.size = ops.size→(∀ j,listed.getD j false = l j)→anq C nt (Ul b0 l) s a w→azh C.env fz b0 rs K f l s→wpAny C.P .any ops Q f listed a w:=by
 have hready:∀ (listed:Array Bool) (l:Nat→Bool),listed.size = ops.size→(∀ j,listed.getD j false = l j)→∀ j,j∈Region.ready .any ops listed↔j∈rdy rs l:=by
  intro listed l hsz hl j
  rw [mem_ready,ae9]
  constructor
  ·rintro ⟨h1,o,ho,h2⟩
   have hj:=(kE.1 ho).1
   have hr:rs[j]? = some (rs[j]'(by omega)):=zb (by omega)
   refine ⟨?_,_,hr,fun k hk=>?_⟩
   ·rw [← hl];simp [hsz,hj] at h1 ⊢;exact h1
   ·rw [(hrs j _ o hr ho).2] at hk
    obtain ⟨e,he,rfl⟩:=zE.1 hk
    obtain ⟨he1,he2⟩:=ZL.1 he
    rw [← hl];exact h2 e (by simpa using he1) he2
  ·rintro ⟨h1,r,hr,h2⟩
   have hj:j < ops.size:=by have:=(zh.1 hr).1;omega
   have ho:ops[j]? = some ops[j]:=zA hj
   refine ⟨?_,_,ho,fun e he hb=>?_⟩
   ·rw [← hl] at h1;simp [hsz,hj] at h1 ⊢;exact h1
   ·rw [hl]
    refine h2 e.on ?_
    rw [(hrs j r _ hr ho).2]
    exact zE.2 ⟨e,ZL.2 ⟨by simpa using he,hb⟩,rfl⟩
 have hin:∀ (listed:Array Bool) (l:Nat→Bool),listed.size = ops.size→(∀ j,listed.getD j false = l j)→∀ j,l j = true→j < ops.size:=by
  intro listed l hsz hl j hj
  rw [← hl] at hj
  rcases kI j ops.size with h|h
  ·exact h
  ·simp [Zu (show listed.size≤j by omega)] at hj
 intro f
 induction f with
 | zero =>
   intro listed l s a w hsz hl hs h
   refine ⟨?_,hQ s a w l (hin listed l hsz hl) h.2 hs⟩
   cases hr:Region.ready .any ops listed with
   | nil=>rfl
   | cons i r =>
     have:i∈rdy rs l:=(hready listed l hsz hl i).1 (by rw [hr];simp)
     rw [h.1] at this;cases this
 | succ f ih =>
   intro listed l s a w hsz hl hs h
   refine ⟨fun hr=>hQ s a w l (hin listed l hsz hl) (h.1 ?_) hs,fun j hj=>?_⟩
   ·cases hr':rdy rs l with
    | nil=>rfl
    | cons i r =>
      have:i∈Region.ready .any ops listed:=(hready listed l hsz hl i).2 (by rw [hr'];simp)
      rw [hr] at this;cases this
   ·have hj':=(hready listed l hsz hl j).1 hj
    have hst:=h.2 j hj'
    obtain ⟨hlj,r,hr,_⟩:=ae9.1 hj'
    have hjs:j < ops.size:=by have:=(zh.1 hr).1;omega
    have ho:ops[j]? = some ops[j]:=zA hjs
    unfold acA at hst
    simp only [hr] at hst
    obtain ⟨v,p,h1,h2⟩:=hst
    have hreal:=awc h1 h2
    refine ayD hs (by omega) (fun x hx hx' hu=>?_) ho (hrs j r _ hr ho).1 hreal (fun s' a' w' hk' hs'=>?_)
    ·rcases hu with hu|⟨i,hi,hi'⟩
     ·omega
     ·have:=ag9 ⟨hx,hx'⟩ hi'
      subst this
      rw [hlj] at hi;cases hi
    ·refine ih (listed.setIfInBounds j true) (ins l j) s' a' w' (by simpa using hsz) (fun k=>?_) (hs'.mono fun x hx=>?_) hk'
     ·by_cases hkj:k = j
      ·subst hkj;simp [ins,hsz,hjs]
      ·rw [getD_set_ne false (Ne.symm hkj),hl];simp [ins,hkj]
     ·rcases hx with (hx|⟨i,hi,hi'⟩)|hx
      ·exact .inl hx
      ·exact .inr ⟨i,by simp [ins,hi],hi'⟩
      ·exact .inr ⟨j,by simp [ins],hx⟩
theorem akS:∀ (ops:List AO) (j:Nat) (pre:List (Option Nat×List Nat)),(azd ops j pre).length = ops.length
 | [],_,_=>rfl
 | x :: r,j,pre=>by simp [azd,akS r]
theorem an0 (L:List Nat):∀ (ops:List AO) (as hs:List (List Nat)) (k:Nat),as.length = ops.length→hs.length = ops.length →
  (an1 L ops as hs k).length = ops.length∧∀ (j:Nat) (r:RI),(an1 L ops as hs k)[j]? = some r→ops[j]? = some r.x∧hs[j]? = some r.ahead
 | [],_,_,_,_,_=>by simp [an1]
 | x :: r,[],_,_,h,_=>by simp at h
 | x :: r,_ :: _,[],_,_,h=>by simp at h
 | x :: r,a :: as,h :: hs,k,h1,h2=>by
   obtain ⟨l1,l2⟩:=an0 L r as hs (k + 1) (by simpa using h1) (by simpa using h2)
   refine ⟨by simp [an1,l1],fun j q hq=>?_⟩
   cases j with
   | zero=>simp [an1] at hq;subst hq;simp
   | succ j=>simp [an1] at hq;simpa using l2 j q hq
theorem ao4 {P:Program} {n:Nat} {ops:Array Oper}:∀ {l:List Oper} {xs:List AO},ao5 P n ops l = some xs→l.length = xs.length∧∀ (j:Nat) (o:Oper) (x:AO),l[j]? = some o→xs[j]? = some x→asL P n ops o = some x
 | [],xs,h=>by simp [ao5] at h;subst h;simp
 | o :: l,xs,h=>by
   simp only [ao5] at h
   split at h
   ·rename_i a b h1 h2
    simp only [zf] at h;subst h
    obtain ⟨l1,l2⟩:=ao4 h2
    refine ⟨by simp [l1],fun j o' x ho hx=>?_⟩
    cases j with
    | zero=>simp at ho hx;subst ho;subst hx;exact h1
    | succ j=>exact l2 j o' x (by simpa using ho) (by simpa using hx)
   ·cases h
theorem Sim.drew {n:Nat} {s:St} {a:Act} {w w':World} (h:Sim C nt n s a w) (hw:w'.heap = w.heap) (ho:U7 w w':=by exact ⟨rfl,rfl,rfl⟩):Sim C nt n s a w':=by
 obtain ⟨Z,μ,hg,ht,hf,hm,hd,hn⟩:=h
 exact ⟨Z,μ,hg.heap hw ho,fun i=>(Evo.heap (b:=0) (K:=0) (μ:=μ) hw).rep (ht i),hf,hm,hd,hn⟩
variable {s:St} {K:St→Prop} {E:Nat→St→Prop} {R:St→Prop}
theorem awl {ops:List AO} {ahead:List (List Nat)} (L:List Nat) (fz:Nat→Bool) (ot:OT) (hc:chk (ris ops ahead L) (fun _=>false) ot = true)
  (h:awT C.env fz s.n (ris ops ahead L) (fun s'=>K (s'.wn (s.n + ops.length * KK))) ot s):AWp C nt (.regD ops ahead) s K E R:=by
 intro code hcc a w hs
 cases code<;>simp only [ade] at hcc
 case region id ops' draw =>
  simp only [zk] at hcc
  obtain ⟨l,hl,he⟩:=hcc
  cases draw
  ·simp at he
  ·simp only [if_true,AC.regD.injEq] at he
   obtain ⟨rfl,rfl⟩:=he
   obtain ⟨q1,q2⟩:=ao4 hl
   have hsz:ops'.size = l.length:=by simpa using q1
   obtain ⟨r1,r2⟩:=an0 L l (azd l 0 []) (akR ops') 0 (akS _ _ _) (by simp [akR,hsz])
   have hm:C.m≤s.n:=by obtain ⟨_,_,_,_,_,hm,_⟩:=hs;exact hm
   refine wp_region_any C.mix (au7 (nt:=nt) (rs:=ris l (akR ops') L) (b0:=s.n) (fz:=fz) (K:=fun s'=>K (s'.wn (s.n + l.length * KK))) (by rw [ris,r1,hsz]) (fun j r o hr ho=>?_) hm (fun s' a' w' ll hll hk hs'=>?_) ops'.size _ (fun _=>false) s a _ (by simp) (fun j=>?_) ?_ ?_)
   ·obtain ⟨e1,e2⟩:=r2 j r hr
    refine ⟨q2 j o r.x (by simpa using ho) e1,?_⟩
    simp only [akR,zi,Zz,ho,Option.map_some,zf] at e2
    exact e2.symm
   ·refine ⟨_,hk,?_⟩
    have:Sim C nt (s.n + l.length * KK) s' a' w':=hs'.toSim (fun x hx=>?_) (by omega)
    ·exact this.any rfl rfl
    ·rcases hx with hx|⟨j,hj,hj'⟩
     ·omega
     ·have:=hll j hj
      have:(j + 1) * KK≤l.length * KK:=zX _ (by omega)
      rw [zQ] at this
      omega
   ·simp [Array.getElem?_replicate];split<;>rfl
   ·have hs1:Sim C nt s.n s a { w with drawn:=w.drawn + 1 }:=hs.drew rfl
    exact hs1.toU.mono fun x hx=>.inl hx
   ·refine awy _ ot _ _ s (zl _) ?_ hc h
    unfold unl
    refine ZH (List.length_filter_le _ _) ?_
    simp [ris,r1,hsz]
 all_goals first
  | (cases hcc;done)
  | (simp only [zk] at hcc;obtain ⟨_,_,he⟩:=hcc;cases he;done)
  | (split at hcc<;>simp at hcc;done)
end
end Av
end
section
namespace Av
open Go
def AM.noAny {α:Type}:AM α→Prop
 | .no=>True
 | .ret _=>True
 | .asrt _ m=>m.noAny
 | .rd _ k=>∀ ob,(k ob).noAny
 | .any _=>False
 | .anyN _ _=>False
theorem AM.det_wp {α:Type} {o:Nat→Option Ob} {P:α→Prop}:∀ (m:AM α),m.noAny→m.wp o P→∃ e,P e∧m.wp o (fun x=>x = e)
 | .no,_,h=>h.elim
 | .ret e,_,h=>⟨e,h,rfl⟩
 | .asrt _ m,hn,h=>by obtain ⟨e,h1,h2⟩:=AM.det_wp m hn h.2;exact ⟨e,h1,h.1,h2⟩
 | .rd _ k,hn,h=>by
   obtain ⟨ob,h0,h⟩:=h
   obtain ⟨e,h1,h2⟩:=AM.det_wp (k ob) (hn ob) h
   exact ⟨e,h1,ob,h0,h2⟩
 | .any _,hn,_=>hn.elim
 | .anyN _ _,hn,_=>hn.elim
theorem at1 {α:Type} {v:V} {k:Int→AM α} (h:∀ n,(k n).noAny):(AM.int v k).noAny:=by
 unfold AM.int;split
 ·exact h _
 ·trivial
theorem at0 {α:Type} {v:V} {k:ByteArray→AM α} (h:∀ n,(k n).noAny):(AM.str v k).noAny:=by
 unfold AM.str;split
 ·exact h _
 ·trivial
theorem apW {α:Type} {v:V} {sz:Nat} {k:List V→AM α} (h:∀ n,(k n).noAny):(AM.slice v sz k).noAny:=by
 unfold AM.slice;split
 ·exact h _
 ·intro ob
  simp only
  split
  ·exact h _
  ·trivial
 ·exact h _
 ·trivial
theorem aoe {α:Type} {v:V} {sz:Nat} {k:Bool→List V→AM α} (h:∀ op n,(k op n).noAny):(AM.sliceK v sz k).noAny:=by
 unfold AM.sliceK;split
 ·exact h _ _
 ·intro ob
  simp only
  split
  ·exact h _ _
  ·exact h _ _
  ·trivial
 ·exact h _ _
 ·trivial
theorem amC {α:Type} {v:V} {k:List V→Nat→AM α} (h:∀ n m,(k n m).noAny):(AM.cellsAt v k).noAny:=by
 unfold AM.cellsAt;split
 ·intro ob;simp only;split
  ·exact h _ _
  ·exact h _ _
  ·trivial
 ·intro ob;simp only;split
  ·split
   ·exact h _ _
   ·trivial
  ·split
   ·exact h _ _
   ·trivial
  ·trivial
 ·exact h _ _
 ·trivial
theorem asn (op:BinOp) (k:IntKind) (a b:Int):(awk op k a b).noAny:=by
 cases op<;>simp [awk,AM.noAny]
theorem asm (op:BinOp) (a b:ByteArray):(aiA op a b).noAny:=by
 cases op<;>simp [aiA,AM.noAny]
theorem atl (b:Nat) (ρ:Opd→V) (aop:AOp) (h:aop.det = true):(sem b ρ aop).noAny:=by
 cases aop<;>simp only [sem]
 case isnil=>simp [AOp.det] at h
 case nxt=>simp [AOp.det] at h
 all_goals
  repeat' first
   | trivial
   | exact asn _ _ _ _
   | exact asm _ _ _
   | (refine at1 fun _=>?_)
   | (refine at0 fun _=>?_)
   | (refine apW fun _=>?_)
   | (refine aoe fun _ _=>?_)
   | (refine amC fun _ _=>?_)
   | (intro ob;simp only;split)
   | (simp only [AM.noAny];done)
   | split
   | (simp only [AM.noAny])
inductive OP where
 | done
 | one (j:Nat) (X:Bool) (acl:List Nat) (x:AO) (t:OP)
 | or (j:Nat) (X:Bool) (acl:List Nat) (x:AO) (t r:OP)
def ad1 (rs:List RI):OT→OP
 | .done=>.done
 | .one i t=>match rs[i]? with|some r=>.one i r.X r.acl r.x (ad1 rs t)|none=>ad1 rs t
 | .or i t r=>match rs[i]? with|some q=>.or i q.X q.acl q.x (ad1 rs t) (ad1 rs r)|none=>.done
def okT (rs:List RI):OT→Bool
 | .done=>true
 | .one i t=>(match rs[i]? with|some r=>r.x.op.det|none=>false) && okT rs t
 | .or i t r=>(match rs[i]? with|some q=>q.x.op.det|none=>false) && okT rs t && okT rs r
def rA (X:Bool) (acl:List Nat) (fz:Nat→Bool) (b0 a:Nat):Bool:=(decide (a < b0) && (X || fz a)) || acl.any fun i=>decide (b0 + i * KK≤a) && decide (a < b0 + i * KK + KK)
def rW (X:Bool) (acl:List Nat) (fz:Nat→Bool) (b0 a:Nat):Bool:=X && ((decide (a < b0) && !fz a) || acl.any fun i=>decide (b0 + i * KK≤a) && decide (a < b0 + i * KK + KK))
def Yl (A:Nat→Bool) (o:Nat→Option Ob) (a:Nat):Option Ob:=if A a = true then o a else none
def Jo (Γ:Env) (A W:Nat→Bool) (b:Nat) (s:St) (d:Option Nat) (f:FuncId) (acts:List V) (K:St→Prop):Prop :=
 ∃ args ins res outs br B,Ev Γ f args ins res outs∧Jn (Yl A s.o) br B acts args∧as7 (Yl A s.o) br B br ins∧br.Nodup∧(∀ x∈br,x < b∧W x = true) ∧
  ins.length≤outs.length∧outs.length - ins.length < KK∧(B = none→res.noSl∧∀ x∈outs,x.noSl)∧(∀ l,B = some l→∀ x∈l,A x = true∧W x = true) ∧
  K { t:=(s.put d (res.ren (sig br b))).t,o:=Xe (sig br b) b br outs (xO B br s.o),n:=s.n }
def okW (W:Nat→Bool) (b:Nat) (os:List (Nat×Ob)):Prop:=os.all (fun q=>W q.1 || (decide (b≤q.1) && decide (q.1 < b + KK))) = true
def auX (Γ:Env) (A W:Nat→Bool) (b:Nat) (s:St) (d:Option Nat) (aop:AOp) (K:St→Prop):Prop :=
 match aop with
 | .call f as=>Jo Γ A W b s d f (as.map s.ev) K
 | .callv x as=>(match s.ev x with|.clo f cap=>Jo Γ A W b s d f.f (f.args (as.map s.ev) cap) K|_=>False)
 | aop=>(sem b s.ev aop).wp (Yl A s.o) fun e=>okW W b e.os∧K (s.eff d e)
def awG (Γ:Env) (A W:Nat→Bool) (b:Nat) (s:St) (x:AO) (K:St→Prop):Prop :=
 match x.g with
 | none=>auX Γ A W b s x.d x.op K
 | some (g,want)=>∃ q,isG (s.t g) q∧(q = some want→auX Γ A W b s x.d x.op K)∧(q≠some want→K (s.put x.d V.und))
section
variable (Γ:Env) (fz:Nat→Bool) (b0:Nat) (K:St→Prop)
mutual
def awP:OP→St→Prop
 | .done,s=>K s
 | .one j X acl x t,s=>awG Γ (rA X acl fz b0) (rW X acl fz b0) (b0 + j * KK) s x (awP t)
 | .or j X acl x t r,s=>awG Γ (rA X acl fz b0) (rW X acl fz b0) (b0 + j * KK) s x (awP t)∧ayb r s
def ayb:OP→St→Prop
 | .or j X acl x t r,s=>awG Γ (rA X acl fz b0) (rW X acl fz b0) (b0 + j * KK) s x (awP t)∧ayb r s
 | _,_=>True
end
end
section
variable {Γ:Env} {fz:Nat→Bool} {b0:Nat} {rs:List RI} {K:St→Prop}
theorem axn {s:St} {d:Option Nat} {e:E}:s.eff d e = s.app d e.v (ad0 noP e.os):=by
 simp only [St.eff,St.app]
 rw [← alL]
 cases d<;>rfl
theorem arD {A W:Nat→Bool} {b:Nat} {s:St} {d:Option Nat} {aop:AOp} (hd:aop.det = true) (h:auX Γ A W b s d aop K) :
  ∃ v p,ahw Γ (fun a=>A a = true) (fun a=>W a = true) b s aop v p∧K (s.app d v p):=by
 have hr:Yl A s.o = Uv (fun a=>A a = true) s.o:=rfl
 have call:∀ f acts,Jo Γ A W b s d f acts K→∃ v p,(∃ args ins res outs br B,Ev Γ f args ins res outs∧Jn (Uv (fun a=>A a = true) s.o) br B acts args∧as7 (Uv (fun a=>A a = true) s.o) br B br ins∧br.Nodup∧(∀ x∈br,x < b∧W x = true) ∧
   ins.length≤outs.length∧outs.length - ins.length < KK∧(B = none→res.noSl∧∀ x∈outs,x.noSl)∧(∀ l,B = some l→∀ x∈l,A x = true∧W x = true)∧v = res.ren (sig br b)∧p = v7 (Xe (sig br b) b br outs noP) (arm B br (Uv (fun a=>A a = true) s.o)))∧K (s.app d v p):=by
  rintro f acts ⟨args,ins,res,outs,br,B,h1,h2,h3,h4,h5,h6,h7,h8,h9,h10⟩
  refine ⟨_,_,⟨args,ins,res,outs,br,B,h1,h2,h3,h4,h5,h6,h7,h8,h9,rfl,rfl⟩,?_⟩
  have e:arm B br (Uv (fun a=>A a = true) s.o) = arm B br s.o:=by
   funext a
   cases B with
   | none=>rfl
   | some l =>
     simp only [arm]
     by_cases h:a∈l∧a ∉ br
     ·rw [if_pos h,if_pos h,Uv,if_pos (h9 l rfl a h.1).1]
     ·rw [if_neg h,if_neg h]
  rw [ahb,aoI,alP,← e] at h10
  exact h10
 have plain:∀ m:AM E,m.noAny→m.wp (Yl A s.o) (fun e=>okW W b e.os∧K (s.eff d e)) →
   ∃ v p,m.wp (Uv (fun a=>A a = true) s.o) (fun e=>v = e.v∧p = ad0 noP e.os∧∀ q∈e.os,W q.1 = true∨(b≤q.1∧q.1 < b + KK))∧K (s.app d v p):=by
  intro m hn hm
  obtain ⟨e,⟨h1,h2⟩,h3⟩:=AM.det_wp m hn hm
  refine ⟨e.v,ad0 noP e.os,AM.wp_mono (fun _ _ h=>h) m _ _ ?_ h3,by rw [← axn];exact h2⟩
  rintro x rfl
  refine ⟨rfl,rfl,fun q hq=>?_⟩
  have:=kH.1 h1 q hq
  simpa using this
 have hns:=atl b s.ev aop hd
 cases aop
 case call f as=>exact call f _ h
 case callv y as =>
  simp only [auX] at h
  simp only [ahw]
  split at h
  ·rename_i f cap he
   obtain ⟨v,p,h1,h2⟩:=call _ _ h
   refine ⟨v,p,?_,h2⟩
   first|(rw [he];exact h1)|exact h1
  ·exact h.elim
 all_goals exact plain _ hns h
theorem auF {A W:Nat→Bool} {b:Nat} {s:St} {x:AO} (hd:x.op.det = true) (h:awG Γ A W b s x K) :
  ∃ v p,eff Γ (fun a=>A a = true) (fun a=>W a = true) b s x v p∧K (s.app x.d v p):=by
 unfold awG at h
 unfold eff
 cases hg:x.g with
 | none=>simp only [hg] at h ⊢;exact arD hd h
 | some gw =>
   obtain ⟨g,want⟩:=gw
   simp only [hg] at h ⊢
   obtain ⟨q,h1,h2,h3⟩:=h
   by_cases hq:q = some want
   ·obtain ⟨v,p,e1,e2⟩:=arD hd (h2 hq)
    exact ⟨v,p,⟨q,h1,fun _=>e1,fun h=>(h hq).elim⟩,e2⟩
   ·refine ⟨V.und,noP,⟨q,h1,fun h=>(hq h).elim,fun _=>⟨rfl,rfl⟩⟩,?_⟩
    have:s.app x.d V.und noP = s.put x.d V.und:=by
     have e:v7 noP s.o = s.o:=by funext a;simp [v7,noP]
     cases x.d<;>simp [St.app,St.put,e]
    rw [this];exact h3 hq
theorem amj:∀ (ot:OT),okT rs ot = true→(∀ s,awP Γ fz b0 K (ad1 rs ot) s→awT Γ fz b0 rs K ot s)∧(∀ s,ayb Γ fz b0 K (ad1 rs ot) s→awT.awT' Γ fz b0 rs K ot s)
 | .done,_=>⟨fun s h=>h,fun _ _=>trivial⟩
 | .one i t,hk=>by
   simp only [okT,zo] at hk
   refine ⟨fun s h=>?_,fun _ _=>trivial⟩
   cases hr:rs[i]? with
   | none=>simp [hr] at hk
   | some r =>
     simp only [hr] at hk
     simp only [ad1,hr,awP] at h
     simp only [awT,acA,hr]
     obtain ⟨v,p,h1,h2⟩:=auF hk.1 h
     exact ⟨v,p,h1,(amj t hk.2).1 _ h2⟩
 | .or i t r,hk=>by
   simp only [okT,zo] at hk
   cases hr:rs[i]? with
   | none=>simp [hr] at hk
   | some q =>
     simp only [hr] at hk
     refine ⟨fun s h=>?_,fun s h=>?_⟩
     ·simp only [ad1,hr,awP] at h
      simp only [awT,acA,hr]
      obtain ⟨v,p,h1,h2⟩:=auF hk.1.1 h.1
      exact ⟨⟨v,p,h1,(amj t hk.1.2).1 _ h2⟩,(amj r hk.2).2 _ h.2⟩
     ·simp only [ad1,hr,ayb] at h
      simp only [awT.awT',acA,hr]
      obtain ⟨v,p,h1,h2⟩:=auF hk.1.1 h.1
      exact ⟨⟨v,p,h1,(amj t hk.1.2).1 _ h2⟩,(amj r hk.2).2 _ h.2⟩
end
section
variable {C:Ctx} {nt:Nat} {s:St} {K:St→Prop} {E:Nat→St→Prop} {R:St→Prop}
def okR (ops:List AO) (ahead:List (List Nat)) (L:List Nat) (ot:OT):Bool:=chk (ris ops ahead L) (fun _=>false) ot && okT (ris ops ahead L) ot
theorem awq {ops:List AO} {ahead:List (List Nat)} (L:List Nat) (fz:Nat→Bool) (ot:OT) (p:OP) (hc:okR ops ahead L ot = true) (hp:ad1 (ris ops ahead L) ot = p)
  (h:awP C.env fz s.n (fun s'=>K (s'.wn (s.n + ops.length * KK))) p s):AWp C nt (.regD ops ahead) s K E R:=by
 simp only [okR,zo] at hc
 subst hp
 exact awl L fz ot hc.1 ((amj ot hc.2).1 s h)
end
theorem aqx {Γ:Env} {A W:Nat→Bool} {b:Nat} {s:St} {d:Option Nat} {f:FuncId} {acts args:List V} {res:V} {K:St→Prop} (h:Ev Γ f args [] res []) (hc:Jn (Yl A s.o) [] none acts args) (hr:res.ren (sig [] b) = res) (hn:res.noSl)
  (hk:K { t:=(s.put d res).t,o:=s.o,n:=s.n }):Jo Γ A W b s d f acts K:=by
 refine ⟨args,[],res,[],[],none,h,hc,trivial,kz,fun x hx=>by simp at hx,zl _,by simp [KK],fun _=>⟨hn,fun x hx=>by simp at hx⟩,fun l hl=>(by cases hl),?_⟩
 rw [hr]
 exact hk
theorem arn (br:List Nat) (o:Nat→Option Ob):xO (some []) br o = o:=by funext a;simp [xO]
theorem auO {Γ:Env} {A W:Nat→Bool} {b:Nat} {s:St} {d:Option Nat} {f:FuncId} {acts args:List V} {res:V} {K:St→Prop} (h:Ev Γ f args [] res []) (hc:Jn (Yl A s.o) [] (some []) acts args) (hr:res.ren (sig [] b) = res)
  (hk:K { t:=(s.put d res).t,o:=s.o,n:=s.n }):Jo Γ A W b s d f acts K:=by
 refine ⟨args,[],res,[],[],some [],h,hc,trivial,kz,fun x hx=>by simp at hx,zl _,by simp [KK],fun h=>(by cases h),fun l hl x hx=>(by cases hl;cases hx),?_⟩
 rw [hr,arn]
 exact hk
end Av
end
section
namespace Av
open Go
abbrev Qb (_ks:List Nat) (a b:AC):AC:=.seq a b
abbrev JG (_ks:List Nat) (a:AC):AC:=.loop a
abbrev VD (_L:List Nat) (_ot:OT) (_p:OP) (ops:List AO) (ahead:List (List Nat)):AC:=.regD ops ahead
def St.keep (ks:List Nat) (s:St):St:={ t:=xb (ks.map fun k=>(k,s.t k)),o:=s.o,n:=s.n }
section
variable {C:Ctx} {nt:Nat} {s:St} {K:St→Prop} {E:Nat→St→Prop} {R:St→Prop}
theorem alV (t:Nat→V):∀ (ks:List Nat) (i:Nat),xb (ks.map fun k=>(k,t k)) i = .top∨xb (ks.map fun k=>(k,t k)) i = t i
 | [],_=>.inl rfl
 | k :: ks,i=>by
   simp only [zI,xb]
   split
   ·rename_i h;subst h;exact .inr rfl
   ·exact alV t ks i
theorem Sim.keep {n:Nat} {a:Act} {w:World} (h:Sim C nt n s a w) (ks:List Nat):Sim C nt n (s.keep ks) a w:=by
 obtain ⟨Z,μ,hg,ht,hf,hm,hd,hn⟩:=h
 refine ⟨Z,μ,hg,fun i=>?_,hf,hm,hd,hn⟩
 rcases alV s.t ks i with h|h
 ·simp only [St.keep,h];exact .top
 ·simp only [St.keep,h];exact ht i
theorem aws {c:AC} (ks:List Nat) (h:AWp C nt c (s.keep ks) K E R):AWp C nt c s K E R :=
 fun code hc a w hs=>h code hc a w (hs.keep ks)
theorem ann {ks:List Nat} {x y:AC} (h:AWp C nt x s (fun s'=>AWp C nt y (s'.keep ks) K E R) E R):AWp C nt (Qb ks x y) s K E R :=
 ax9 (ano h (fun _ h=>aws ks h) (fun _ _ h=>h) (fun _ h=>h))
theorem arM {L:List Nat} {ot:OT} {p:OP} {ops:List AO} {ahead:List (List Nat)} (fz:Nat→Bool) (hc:okR ops ahead L ot = true) (hp:ad1 (ris ops ahead L) ot = p)
  (h:awP C.env fz s.n (fun s'=>K (s'.wn (s.n + ops.length * KK))) p s):AWp C nt (VD L ot p ops ahead) s K E R :=
 awq L fz ot p hc hp h
end
mutual
def V.shut0 (o:Nat→Option Ob):V→V
 | .hd a off len=>match o a with|some (.buf _ s xs)=>.sl s ((xs.drop off).take len)|_=>.top
 | .ptr a off=>match o a with|some (.box _ cs)=>.ro cs off|_=>.top
 | .ept _ _ _=>.top
 | .mp _=>.top
 | .agg cs=>.agg (ab2 o cs)
 | .tup cs=>.tup (ab2 o cs)
 | .clo f cs=>.clo f (ab2 o cs)
 | v=>v
def ab2 (o:Nat→Option Ob):List V→List V
 | []=>[]
 | v :: r=>v.shut0 o :: ab2 o r
end
mutual
def V.shutOk0 (o:Nat→Option Ob) (B:Option (List Nat)):V→Prop
 | .hd a _ _=>okB B a∧∃ wr s xs,o a = some (.buf wr s xs)
 | .ptr a _=>okB B a∧∃ wr cs,o a = some (.box wr cs)∧Qh cs
 | .ept _ _ _=>True
 | .mp _=>True
 | .agg cs=>xY o B cs
 | .tup cs=>xY o B cs
 | .clo _ cs=>xY o B cs
 | _=>True
def xY (o:Nat→Option Ob) (B:Option (List Nat)):List V→Prop
 | []=>True
 | v :: r=>v.shutOk0 o B∧xY o B r
end
mutual
theorem asH (o:Nat→Option Ob) (B:Option (List Nat)):∀ v:V,v.shutOk0 o B→conv o [] B v (v.shut0 o)
 | .top,_=>by simp [V.shut0,conv]
 | .sc _,_=>by simp [V.shut0,conv]
 | .nn,_=>by simp [V.shut0,conv]
 | .sl _ _,_=>by simp [V.shut0,conv]
 | .ro _ _,_=>by simp [V.shut0,conv]
 | .ept _ _ _,_=>by simp [V.shut0,conv]
 | .mp _,_=>by simp [V.shut0,conv]
 | .hd a off len,h=>by
   obtain ⟨h1,wr,s,xs,h2⟩:=h
   simp only [V.shut0,h2,conv]
   exact ⟨h1,by simp,.inl ⟨wr,xs,rfl,rfl⟩⟩
 | .ptr a off,h=>by
   obtain ⟨h1,wr,cs,h2,h3⟩:=h
   simp only [V.shut0,h2,conv]
   exact ⟨h1,by simp,trivial,h3,wr,cs,rfl,Yq _ _ _ _ h3⟩
 | .agg cs,h=>by simp only [V.shut0,conv];exact xj o B cs h
 | .tup cs,h=>by simp only [V.shut0,conv];exact xj o B cs h
 | .clo f cs,h=>by simp only [V.shut0,conv];exact ⟨trivial,xj o B cs h⟩
theorem xj (o:Nat→Option Ob) (B:Option (List Nat)):∀ cs:List V,xY o B cs→Jn o [] B cs (ab2 o cs)
 | [],_=>trivial
 | v :: r,h=>⟨asH o B v h.1,xj o B r h.2⟩
end
mutual
theorem ao7 (o:Nat→Option Ob):∀ v:V,(v.shut0 o).closed
 | .top=>by simp only [V.shut0,V.closed]
 | .sc _=>by simp only [V.shut0,V.closed]
 | .nn=>by simp only [V.shut0,V.closed]
 | .sl _ _=>by simp only [V.shut0,V.closed]
 | .ro _ _=>by simp only [V.shut0,V.closed]
 | .ept _ _ _=>by simp only [V.shut0,V.closed]
 | .mp _=>by simp only [V.shut0,V.closed]
 | .hd a off len=>by simp only [V.shut0];split<;>simp only [V.closed]
 | .ptr a off=>by simp only [V.shut0];split<;>simp only [V.closed]
 | .agg cs=>by simp only [V.shut0,V.closed];exact VU o cs
 | .tup cs=>by simp only [V.shut0,V.closed];exact VU o cs
 | .clo f cs=>by simp only [V.shut0,V.closed];exact VU o cs
theorem VU (o:Nat→Option Ob):∀ cs:List V,Qh (ab2 o cs)
 | []=>trivial
 | v :: r=>⟨ao7 o v,VU o r⟩
end
mutual
def V.shut (o:Nat→Option Ob):V→V
 | .hd a off len=>match o a with|some (.buf _ s xs)=>.sl s ((xs.drop off).take len)|some (.obuf _ s xs)=>.sl s (ab2 o ((xs.drop off).take len))|_=>.top
 | .ptr a off=>match o a with|some (.box _ cs)=>.ro cs off|_=>.top
 | .ept _ _ _=>.top
 | .mp _=>.top
 | .agg cs=>.agg (Y2 o cs)
 | .tup cs=>.tup (Y2 o cs)
 | .clo f cs=>.clo f (Y2 o cs)
 | v=>v
def Y2 (o:Nat→Option Ob):List V→List V
 | []=>[]
 | v :: r=>v.shut o :: Y2 o r
end
def ayj (o:Nat→Option Ob) (B:Option (List Nat)) (off len:Nat):Option Ob→Prop
 | some (.buf _ _ _)=>True
 | some (.obuf _ _ xs)=>xY o B ((xs.drop off).take len)∧ntL (ab2 o ((xs.drop off).take len))
 | _=>False
mutual
def V.shutOk (o:Nat→Option Ob) (B:Option (List Nat)):V→Prop
 | .hd a off len=>okB B a∧ayj o B off len (o a)
 | .ptr a _=>okB B a∧∃ wr cs,o a = some (.box wr cs)∧Qh cs
 | .ept _ _ _=>True
 | .mp _=>True
 | .agg cs=>QL o B cs
 | .tup cs=>QL o B cs
 | .clo _ cs=>QL o B cs
 | _=>True
def QL (o:Nat→Option Ob) (B:Option (List Nat)):List V→Prop
 | []=>True
 | v :: r=>v.shutOk o B∧QL o B r
end
mutual
theorem auI (o:Nat→Option Ob) (B:Option (List Nat)):∀ v:V,v.shutOk o B→conv o [] B v (v.shut o)
 | .top,_=>by simp [V.shut,conv]
 | .sc _,_=>by simp [V.shut,conv]
 | .nn,_=>by simp [V.shut,conv]
 | .sl _ _,_=>by simp [V.shut,conv]
 | .ro _ _,_=>by simp [V.shut,conv]
 | .ept _ _ _,_=>by simp [V.shut,conv]
 | .mp _,_=>by simp [V.shut,conv]
 | .hd a off len,h=>by
   obtain ⟨h1,h2⟩:=h
   unfold ayj at h2
   split at h2
   ·rename_i wr s xs h3
    simp only [V.shut,h3,conv]
    exact ⟨h1,by simp,.inl ⟨wr,xs,rfl,rfl⟩⟩
   ·rename_i wr s xs h3
    simp only [V.shut,h3,conv]
    exact ⟨h1,by simp,.inr ⟨wr,xs,rfl,xj _ _ _ h2.1,h2.2,VU _ _⟩⟩
   ·exact h2.elim
 | .ptr a off,h=>by
   obtain ⟨h1,wr,cs,h2,h3⟩:=h
   simp only [V.shut,h2,conv]
   exact ⟨h1,by simp,trivial,h3,wr,cs,rfl,Yq _ _ _ _ h3⟩
 | .agg cs,h=>by simp only [V.shut,conv];exact YJ o B cs h
 | .tup cs,h=>by simp only [V.shut,conv];exact YJ o B cs h
 | .clo f cs,h=>by simp only [V.shut,conv];exact ⟨trivial,YJ o B cs h⟩
theorem YJ (o:Nat→Option Ob) (B:Option (List Nat)):∀ cs:List V,QL o B cs→Jn o [] B cs (Y2 o cs)
 | [],_=>trivial
 | v :: r,h=>⟨auI o B v h.1,YJ o B r h.2⟩
end
section
variable {Γ:Env} {b:Nat} {s:St} {d:Option Nat} {f:FuncId} {acts args:List V} {res:V} {K:St→Prop}
theorem ayX (h:Ev Γ f args [] res []) (ha:Y2 s.o acts = args) (hc:QL s.o none acts) (hr:res.closed) (hn:res.noSl)
  (hk:K { t:=(s.put d res).t,o:=s.o,n:=s.n }):aeT Γ b s d f acts K :=
 asT h (ha ▸ YJ _ _ _ hc) hr hn hk
theorem ayY (h:Ev Γ f args [] res []) (ha:Y2 s.o acts = args) (hc:QL s.o (some []) acts) (hr:res.closed)
  (hk:K { t:=(s.put d res).t,o:=s.o,n:=s.n }):aeT Γ b s d f acts K :=
 asS [] h (ha ▸ YJ _ _ _ hc) hr (by rw [arn];exact hk)
theorem axZ {A W:Nat→Bool} (h:Ev Γ f args [] res []) (ha:Y2 (Yl A s.o) acts = args) (hc:QL (Yl A s.o) none acts) (hr:res.closed) (hn:res.noSl)
  (hk:K { t:=(s.put d res).t,o:=s.o,n:=s.n }):Jo Γ A W b s d f acts K :=
 aqx h (ha ▸ YJ _ _ _ hc) (Wh _ _ hr) hn hk
theorem ax0 {A W:Nat→Bool} (h:Ev Γ f args [] res []) (ha:Y2 (Yl A s.o) acts = args) (hc:QL (Yl A s.o) (some []) acts) (hr:res.closed)
  (hk:K { t:=(s.put d res).t,o:=s.o,n:=s.n }):Jo Γ A W b s d f acts K :=
 auO h (ha ▸ YJ _ _ _ hc) (Wh _ _ hr) hk
end
end Av
end
section
namespace Av
open Go
def awS (Γ:Env) (b:Nat) (r:List AO) (s:St) (d:Option Nat) (K:St→Prop) (m:AM E):Prop:=m.wp s.o fun e=>abA Γ (b + KK) r (s.eff d e) K
def awC (Γ:Env) (b:Nat) (r:List AO) (s:St) (d:Option Nat) (f:FuncId) (acts:List V) (K:St→Prop):Prop:=aeT Γ b s d f acts fun s'=>abA Γ (b + KK) r s' K
def awQ (Γ:Env) (b:Nat) (r:List AO) (s:St) (x:AO) (g:Nat) (want:Bool) (v:V) (K:St→Prop):Prop :=
 match v with
 | .sc (.bool q)=>(q = want→abA Γ b ({ d:=x.d,op:=x.op } :: r) (s.put (some g) (.bool want)) K)∧(q = !want→abA Γ (b + KK) r ((s.put (some g) (.bool !want)).put x.d V.und) K)
 | .tup []=>abA Γ (b + KK) r (s.put x.d V.und) K
 | _=>False
section
variable {Γ:Env} {b:Nat} {r:List AO} {s:St} {d:Option Nat} {K:St→Prop}
theorem wa {g:Nat} {v:V} (h:s.t g = v):s.put (some g) v = s:=by
 have:upd s.t g v = s.t:=by
  funext i
  by_cases hi:i = g
  ·subst hi;rw [Qn,h]
  ·rw [QW _ _ hi]
 simp only [St.put,this]
theorem aAf {x:AO} {g:Nat} {want:Bool} (hx:x.g = some (g,want)) (h:awQ Γ b r s x g want (s.t g) K):abA Γ b (x :: r) s K:=by
 simp only [abA,hx]
 unfold awQ at h
 split at h
 ·rename_i q hq
  refine ⟨some q,hq,fun e=>?_,fun e=>?_⟩
  ·cases e
   have:=h.1 rfl
   rw [wa hq] at this
   exact this
  ·have e':q = !want:=by cases q<;>cases want<;>simp_all
   have:=h.2 e'
   rw [wa (by rw [hq,e'])] at this
   exact this
 ·rename_i hq
  exact ⟨none,hq,(fun e=>by cases e),fun _=>h⟩
 ·exact h.elim
def U3 (Γ:Env) (b:Nat) (l:List AO) (s:St) (K:St→Prop):Prop:=abA Γ b l s K
def ajc (Γ:Env) (b:Nat) (r:List AO) (s:St) (d:Option Nat) (v:V) (acts:List V) (K:St→Prop):Prop :=
 match v with
 | .clo f cap=>awC Γ b r s d f.f (f.args acts cap) K
 | _=>False
theorem ar5 {x:Opd} {as:List Opd}:U3 Γ b (⟨d,.callv x as,none⟩ :: r) s K↔ajc Γ b r s d (s.ev x) (as.map s.ev) K:=by
 simp only [U3,abA,arP,ajc]
 cases s.ev x<;>rfl
theorem ayq {aop:AOp} {g:Nat} {want:Bool}:U3 Γ b (⟨d,aop,some (g,want)⟩ :: r) s K↔awQ Γ b r s ⟨d,aop,none⟩ g want (s.t g) K:=by
 refine ⟨fun h=>?_,fun h=>aAf (x:=⟨d,aop,some (g,want)⟩) rfl h⟩
 simp only [U3,abA] at h
 obtain ⟨q,hq,h1,h2⟩:=h
 unfold awQ
 rcases q with _|q
 ·have hq:s.t g = .tup []:=hq
  rw [hq]
  exact h2 (by simp)
 ·have hq:s.t g = .bool q:=hq
  rw [hq]
  refine ⟨fun e=>?_,fun e=>?_⟩
  ·rw [wa (by rw [hq,e])];exact h1 (by rw [e])
  ·rw [wa (by rw [hq,e])]
   exact h2 (by rw [e];cases want<;>simp)
end
section
variable {Γ:Env} {b:Nat} {r:List AO} {s:St} {d:Option Nat} {K:St→Prop}
def ajv (Γ:Env) (b:Nat) (r:List AO) (s:St) (d:Option Nat) (K:St→Prop) (k:Ob→AM E) (x:Option Ob):Prop :=
 match x with
 | some ob=>awS Γ b r s d K (k ob)
 | none=>False
theorem ay4 {a:Nat} {k:Ob→AM E}:awS Γ b r s d K (.rd a k)↔ajv Γ b r s d K k (s.o a):=by
 unfold ajv
 cases h:s.o a with
 | none=>simp [awS,AM.wp,h]
 | some ob=>simp [awS,AM.wp,h]
end
section
variable {C:Ctx} {nt:Nat} {s:St} {K:St→Prop} {E:Nat→St→Prop} {R:St→Prop}
theorem anm {ks:List Nat} {ops:List AO} {y:AC} (h:∀ K':St→Prop,(∀ s',AWp C nt y s' K E R→K' s')→U3 C.env s.n ops s (fun s'=>K' (s'.keep ks))):AWp C nt (Qb ks (.reg ops) y) s K E R :=
 ann (auU (h _ fun _ h=>h))
theorem awo {ops:List AO} (h:∀ K':St→Prop,(∀ s',K s'→K' s')→U3 C.env s.n ops s K'):AWp C nt (.reg ops) s K E R :=
 auU (h _ fun _ h=>h)
end
end Av
end
section
namespace Av
open Go
def EvC (Γ:Env) (f:FuncId) (args:List V) (res:V):Prop:=Ev Γ f args [] res []∧res.closed
def EvN (Γ:Env) (f:FuncId) (args:List V) (res:V):Prop:=Ev Γ f args [] res []∧res.closed∧res.noSl
theorem EvN.c {Γ:Env} {f:FuncId} {args:List V} {res:V} (h:EvN Γ f args res):EvC Γ f args res:=⟨h.1,h.2.1⟩
section
variable {Γ:Env} {b:Nat} {r:List AO} {s:St} {d:Option Nat} {f:FuncId} {acts:List V} {res:V} {K:St→Prop}
theorem azY (hc:QL s.o none acts) (h:EvN Γ f (Y2 s.o acts) res) (hk:U3 Γ (b + KK) r { t:=(s.put d res).t,o:=s.o,n:=s.n } K):awC Γ b r s d f acts K :=
 ayX h.1 rfl hc h.2.1 h.2.2 hk
theorem az1 (hc:QL s.o (some []) acts) (h:EvC Γ f (Y2 s.o acts) res) (hk:U3 Γ (b + KK) r { t:=(s.put d res).t,o:=s.o,n:=s.n } K):awC Γ b r s d f acts K :=
 ayY h.1 rfl hc h.2 hk
end
theorem Ju {Γ:Env} {f:FuncId} {nt:Nat} {ac:AC} {rs:List Q0} (hb:Has Γ.P f nt ac rs) {args:List V} {res:V} (ha:args.length≤nt) (hr:res.closed)
  (h:∀ C:Ctx,C.env = Γ→C.m = 0→AWp C nt ac (Wf args []) (acw 0 rs res []) (fun _ _=>False) (acw 0 rs res [])):EvC Γ f args res :=
 ⟨XW hb ha h,hr⟩
theorem Qc {Γ:Env} {f:FuncId} {nt:Nat} {ac:AC} {rs:List Q0} (hb:Has Γ.P f nt ac rs) {args:List V} {res:V} (ha:args.length≤nt) (hr:res.closed) (hn:res.noSl)
  (h:∀ C:Ctx,C.env = Γ→C.m = 0→AWp C nt ac (Wf args []) (acw 0 rs res []) (fun _ _=>False) (acw 0 rs res [])):EvN Γ f args res :=
 ⟨XW hb ha h,hr,hn⟩
section
variable {C:Ctx} {nt:Nat} {s:St} {K:St→Prop} {E:Nat→St→Prop} {R:St→Prop}
theorem QC {ks:List Nat} {x:AC} {ι:Type} (good:ι→Prop) (inv:ι→St) (msr:ι→Nat) (i0:ι) (h0:good i0) (τ:Nat→Nat) (hw:arU C.m τ s (inv i0))
  (h:∀ i,good i→∀ K':St→Prop,(∀ s' i' τ,good i'→msr i' < msr i→arU C.m τ s' (inv i')→K' s')→AWp C nt x (inv i) K' E R):AWp C nt (JG ks x) s K E R :=
 auV good inv msr ⟨i0,τ,h0,hw⟩ fun i hi=>h i hi _ fun _ i' τ h1 h2 h3=>⟨i',τ,h1,h2,h3⟩
end
theorem Qv {m n:Nat} {s:St} (tau:List (Nat×Nat)) {ts:List (Nat×V)} {os:List (Nat×Ob)}
  (ht:∀ p∈ts,s.t p.1 = p.2.ren (Qi tau)∧p.2.lt n)
  (ho:∀ p∈os,p.1 < n∧∃ x,s.o (Qi tau p.1) = some x∧x.weak (Qi tau) n p.2)
  (hn:(os.map fun p=>Qi tau p.1).Nodup) (hf:∀ p∈tau,m≤p.1) (hm:m≤n):arU m (Qi tau) s (Y1 ts os n):=aw7 tau ht ho hn hf hm
def azH (s:St):Q0→Option V
 | .tmp t=>some (s.t t)
 | .cell a g sz=>match s.t a with
   | .ptr n off=>(match s.o n with
     | some (.box _ cells)=>if g then (if off + sz≤cells.length then some (.agg ((cells.drop off).take sz)) else none) else cells[off]?
     | _=>none)
   | _=>none
def aeh (s:St):List Q0→Option (List V)
 | []=>some []
 | r :: rs=>match azH s r,aeh s rs with|some v,some vs=>some (v :: vs)|_,_=>none
theorem VF {s:St}:∀ (rs:List Q0) (vs:List V) (K:List V→Prop),aeh s rs = some vs→K vs→apd s rs K
 | [],vs,K,h,hk=>by simp [aeh] at h;subst h;exact hk
 | r :: rs,vs,K,h,hk=>by
   simp only [aeh] at h
   split at h
   ·rename_i v vs' h1 h2
    simp only [zf] at h;subst h
    have ih:=VF rs vs' (fun vs=>K (v :: vs)) h2 hk
    simp only [apd]
    cases r with
    | tmp t=>simp only [azH,zf] at h1;subst h1;exact ih
    | cell a g sz =>
      simp only [azH] at h1
      split at h1
      ·rename_i n off hp
       split at h1
       ·rename_i wr cells ho
        simp only [Q0.val,hp,AM.cellsAt,AM.wp]
        refine ⟨_,ho,?_⟩
        cases g
        ·simp only [zw,if_false] at h1 ⊢
         rw [h1];exact ih
        ·simp only [if_true] at h1 ⊢
         split at h1
         ·rename_i hle
          simp only [zf] at h1;subst h1
          exact ⟨hle,ih⟩
         ·cases h1
       ·cases h1
      ·cases h1
   ·cases h
theorem Qr {rs:List Q0} {res:V} {s:St} (vs:List V) (h:aeh s rs = some vs) (hc:conv s.o [] none (afy vs) res):acw 0 rs res [] s :=
 asD (VF rs vs _ h hc)
theorem ayR (o:Nat→Option Ob) (br:List Nat) (B:Option (List Nat)) (v:V):conv o br B v .top↔True:=by cases v<;>simp [conv]
theorem azK (o:Nat→Option Ob) (br:List Nat) (B:Option (List Nat)) (v u:Value):conv o br B (.sc v) (.sc u)↔v = u:=by simp [conv]
theorem ayT (o:Nat→Option Ob) (br:List Nat) (B:Option (List Nat)) (s:Nat) (ys:List V):conv o br B (.sc (.slice none 0 0)) (.sl s ys)↔ys = []:=by simp [conv]
theorem azJ (o:Nat→Option Ob) (br:List Nat) (B:Option (List Nat)) (s s':Nat) (xs ys:List V):conv o br B (.sl s xs) (.sl s' ys)↔s = s'∧xs = ys:=by simp [conv]
theorem asF (o:Nat→Option Ob) (br:List Nat) (B:Option (List Nat)) (a off len s:Nat) (ys:List V):conv o br B (.hd a off len) (.sl s ys)↔okB B a∧a ∉ br∧((∃ wr xs,o a = some (.buf wr s xs)∧ys = (xs.drop off).take len)∨(∃ wr xs,o a = some (.obuf wr s xs)∧Jn o br B ((xs.drop off).take len) ys∧ntL ys∧Qh ys)):=by simp [conv]
theorem ayS (o:Nat→Option Ob) (br:List Nat) (B:Option (List Nat)) (a off off':Nat) (es:List V):conv o br B (.ptr a off) (.ro es off')↔okB B a∧a ∉ br∧off' = off∧Qh es∧∃ wr cs,o a = some (.box wr cs)∧Jn o br B cs es:=by simp [conv]
theorem azL (o:Nat→Option Ob) (br:List Nat) (B:Option (List Nat)) (off off':Nat) (cs es:List V):conv o br B (.ro cs off) (.ro es off')↔cs = es∧off' = off:=by simp [conv]
theorem ayW (o:Nat→Option Ob) (br:List Nat) (B:Option (List Nat)) (cs es:List V):conv o br B (.agg cs) (.agg es)↔Jn o br B cs es:=by simp [conv]
theorem ayQ (o:Nat→Option Ob) (br:List Nat) (B:Option (List Nat)) (cs es:List V):conv o br B (.tup cs) (.tup es)↔Jn o br B cs es:=by simp [conv]
theorem ayV (o:Nat→Option Ob) (br:List Nat) (B:Option (List Nat)) (f g:FK) (cs es:List V):conv o br B (.clo f cs) (.clo g es)↔f = g∧Jn o br B cs es:=by simp [conv]
theorem azM (o:Nat→Option Ob) (br:List Nat) (B:Option (List Nat)):conv o br B .nn .nn↔True:=by simp [conv]
theorem axT (o:Nat→Option Ob) (br:List Nat) (B:Option (List Nat)):Jn o br B [] []↔True:=by simp [Jn]
theorem awg (o:Nat→Option Ob) (br:List Nat) (B:Option (List Nat)) (v e:V) (r r':List V):Jn o br B (v :: r) (e :: r')↔conv o br B v e∧Jn o br B r r':=by simp [Jn]
theorem avI (a:Nat):okB none a↔True:=by simp [okB]
theorem avH (l:List Nat) (a:Nat):okB (some l) a↔a∈l:=by simp [okB]
theorem asA {wr0:Bool} {s0 s:Nat} {xs0:List V} {p:List V→Prop}:(∃ wr xs,some (Ob.buf wr0 s0 xs0) = some (Ob.buf wr s xs)∧p xs)↔s0 = s∧p xs0:=by
 constructor
 ·rintro ⟨wr,xs,h,hp⟩;cases h;exact ⟨rfl,hp⟩
 ·rintro ⟨rfl,hp⟩;exact ⟨_,_,rfl,hp⟩
theorem asB {wr0:Bool} {cs0:List V} {p:List V→Prop}:(∃ wr cs,some (Ob.box wr0 cs0) = some (Ob.box wr cs)∧p cs)↔p cs0:=by
 constructor
 ·rintro ⟨wr,xs,h,hp⟩;cases h;exact hp
 ·intro h;exact ⟨_,_,rfl,h⟩
theorem aqh {wr0:Bool} {s0 s:Nat} {xs0:List V} {p:List V→Prop}:(∃ wr xs,Ob.buf wr0 s0 xs0 = Ob.buf wr s xs∧p xs)↔s0 = s∧p xs0:=by
 constructor
 ·rintro ⟨wr,xs,h,hp⟩;cases h;exact ⟨rfl,hp⟩
 ·rintro ⟨rfl,hp⟩;exact ⟨_,_,rfl,hp⟩
theorem aqi {wr0:Bool} {cs0:List V} {p:List V→Prop}:(∃ wr cs,Ob.box wr0 cs0 = Ob.box wr cs∧p cs)↔p cs0:=by
 constructor
 ·rintro ⟨wr,xs,h,hp⟩;cases h;exact hp
 ·intro h;exact ⟨_,_,rfl,h⟩
end Av
end
