/- A call: from the callee's contract to the caller's next state. -/
import Derived.Test.YtphclkkggijicaaGreatDoorB7
set_option linter.unusedVariables false
set_option linter.unusedSimpArgs false
section
namespace Av
open Go
def VY (o:Nat→Option Ob) (br:List Nat) (B:Option (List Nat)):List V→List V→Prop
 | [],[]=>True
 | x :: r,y :: r'=>QE o br B x.cells y.cells∧VY o br B r r'
 | _,_=>False
theorem adk {o:Nat→Option Ob} {br:List Nat} {B:Option (List Nat)}:∀ {xs ys:List V},VY o br B xs ys→xs.length = ys.length∧∀ i (h:i < xs.length) (h':i < ys.length),QE o br B xs[i].cells ys[i].cells
 | [],[],_=>by grind
 | [],_ :: _,h=>h.elim
 | _ :: _,[],h=>h.elim
 | x :: r,y :: r',h=>by
   obtain ⟨l1,l2⟩:=adk h.2
   refine ⟨by simp [l1],fun i hi hi'=>?_⟩
   cases i with
   | zero=>exact h.1
   | succ i=>grind
def ak1 (o:Nat→Option Ob) (br:List Nat) (B:Option (List Nat)):Ob→Ob→Prop
 | .box true cs,.box true es=>QE o br B cs es
 | .buf true s xs,.buf true s' ys=>s = s'∧xs = ys
 | .obuf true s xs,.obuf true s' ys=>s = s'∧VY o br B xs ys
 | .typ T x,.typ T' y=>T = T'∧ak1 o br B x y
 | _,_=>False
def alo (o:Nat→Option Ob) (br:List Nat) (B:Option (List Nat)):List Nat→List Ob→Prop
 | [],[]=>True
 | a :: r,y :: r'=>(∃ x,o a = some x∧ak1 o br B x y)∧alo o br B r r'
 | _,_=>False
theorem acj {o:Nat→Option Ob} {br:List Nat} {B:Option (List Nat)}:∀ {l:List Nat} {ins:List Ob},alo o br B l ins→l.length = ins.length∧∀ (k a:Nat) (y:Ob),l[k]? = some a→ins[k]? = some y→∃ x,o a = some x∧ak1 o br B x y
 | [],[],_=>by grind
 | [],_ :: _,h=>h.elim
 | _ :: _,[],h=>h.elim
 | a :: r,y :: r',h=>by
   obtain ⟨h1,h2⟩:=h
   obtain ⟨l1,l2⟩:=acj h2
   grind
def sig (br:List Nat) (b:Nat) (k:Nat):Nat:=(br[k]?).getD (b + (k - br.length))
def YK (σ:Nat→Nat):Nat→List Ob→(Nat→Option Ob)→Nat→Option Ob
 | _,[],o=>o
 | b,x :: r,o=>upd (YK σ (b + 1) r o) b (some (x.ren σ))
def YD (σ:Nat→Nat) (b:Nat):List Nat→List Ob→(Nat→Option Ob)→Nat→Option Ob
 | a :: br,x :: outs,o=>upd (YD σ b br outs o) a (some (x.ren σ))
 | _,outs,o=>YK σ b outs o
theorem aeC (σ:Nat→Nat):∀ (outs:List Ob) (b:Nat) (o:Nat→Option Ob) (a:Nat),
  (∃ j x,a = b + j∧outs[j]? = some x∧YK σ b outs o a = some (x.ren σ))∨(YK σ b outs o a = o a∧¬ (b≤a∧a < b + outs.length))
 | [],b,o,a=>.inr ⟨rfl,by simp⟩
 | x :: r,b,o,a=>by
   by_cases h:a = b
   ·subst h;exact .inl ⟨0,x,rfl,rfl,by simp [YK,Qi]⟩
   ·rcases aeC σ r (b + 1) o a with ⟨j,y,h1,h2,h3⟩|⟨h1,h2⟩
    ·exact .inl ⟨j + 1,y,by omega,by simpa using h2,by simp only [YK];rw [QH _ _ h];exact h3⟩
    ·exact .inr ⟨by simp only [YK];rw [QH _ _ h];exact h1,by simp;omega⟩
theorem acK (σ:Nat→Nat) (b:Nat):∀ (br:List Nat) (outs:List Ob) (o:Nat→Option Ob) (a:Nat),br.length≤outs.length→(∀ x∈br,x < b)→br.Nodup →
  (∃ (k:Nat) (x:Ob),br[k]? = some a∧outs[k]? = some x∧YD σ b br outs o a = some (x.ren σ)) ∨
  (a ∉ br∧∃ j x,a = b + j∧outs[br.length + j]? = some x∧YD σ b br outs o a = some (x.ren σ)) ∨
  (a ∉ br∧YD σ b br outs o a = o a∧¬ (b≤a∧a < b + (outs.length - br.length)))
 | [],outs,o,a,_,_,_=>by
   rcases aeC σ outs b o a with ⟨j,x,h1,h2,h3⟩|⟨h1,h2⟩
   ·simp_all [YD]
   simp_all [YD]
 | c :: br,[],o,a,h,_,_=>by simp at h
 | c :: br,x :: outs,o,a,hl,hb,hn=>by
   by_cases h:a = c
   ·subst h;exact .inl ⟨0,x,rfl,rfl,by simp [YD,Qi]⟩
   ·have hn':=(Zs.1 hn).2
    rcases acK σ b br outs o a (by simpa using hl) (fun x hx=>hb x (by simp [hx])) hn' with ⟨k,y,h1,h2,h3⟩|⟨h0,j,y,h1,h2,h3⟩|⟨h0,h1,h2⟩
    ·exact .inl ⟨k + 1,y,by simpa using h1,by simpa using h2,by simp only [YD];rw [QH _ _ h];exact h3⟩
    ·exact .inr (.inl ⟨by simp [h,h0],j,y,h1,by grind,by simp only [YD];rw [QH _ _ h];exact h3⟩)
    simp_all [YD,QH]
def Ob.frz:Ob→Ob
 | .dead=>.dead
 | .box _ cs=>.box false cs
 | .buf _ s xs=>.buf false s xs
 | .typ _ x=>x.frz
 | .obuf _ s xs=>.obuf false s xs
 | .map ks vs c0=>.map ks vs c0
 | .iter a since seen last=>.iter a since seen last
def j3 (B:Option (List Nat)) (br:List Nat) (o:Nat→Option Ob):Nat→Option Ob :=
 match B with
 | none=>o
 | some l=>fun a=>if a∈l∧a ∉ br then (o a).map Ob.frz else o a
mutual
def V.noSl:V→Prop
 | .sl _ xs=>xs = []
 | .ro _ _=>False
 | .agg cs=>UJ cs
 | .tup cs=>UJ cs
 | .clo _ cs=>UJ cs
 | _=>True
def UJ:List V→Prop
 | []=>True
 | v :: r=>v.noSl∧UJ r
end
def Ob.noSl:Ob→Prop
 | .dead=>True
 | .box _ cs=>UJ cs
 | .buf _ _ xs=>∀ x∈xs,x.noSl
 | .typ _ x=>x.noSl
 | .obuf _ _ xs=>∀ x∈xs,x.noSl
 | .map ks vs _=>(∀ x∈ks,x.noSl)∧∀ x∈vs,x.noSl
 | .iter _ _ _ _=>True
theorem Ky:∀ {cs:List V},UJ cs→∀ j (h:j < cs.length),cs[j].noSl
 | [],_,j,h=>by simp at h
 | v :: r,hc,0,h=>hc.1
 | v :: r,hc,j + 1,h=>Ky (cs:=r) hc.2 j (by simpa using h)
theorem aeK {x:V} (h:x.noSl):∀ j (hj:j < x.cells.length),x.cells[j].noSl:=by
 intro j hj
 cases x with
 | agg cs=>exact Ky (cs:=cs) h j hj
 | _=>simp [V.cells] at hj;subst hj;exact h
theorem Rep.anyZ {w:World} {Z Z':Nat→Nat→Prop} {μ:Nat→Option Cn} {v:Value} {x:V} (h:Rep w Z μ v x) (hn:x.noSl):Rep w Z' μ v x:=by
 induction h with
 | top=>exact .top
 | sc h=>exact .sc h
 | nn=>exact .nn
 | sl0=>exact .sl0
 | sl f h0 h1 h2 h3 _=>simp only [V.noSl] at hn;subst hn;exact .sl0
 | hd h hv=>exact .hd h hv
 | ptr h=>exact .ptr h
 | ept h hv hi=>exact .ept h hv hi
 | mp h=>exact .mp h
 | ro f h1 h2 _=>exact hn.elim
 | agg hl ho _ ih=>exact .agg hl ho (fun j h h'=>ih j h h' (Ky hn j h))
 | tup hl _ ih=>exact .tup hl (fun j h h'=>ih j h h' (Ky hn j h))
 | clo hl _ ih=>exact .clo hl (fun j h h'=>ih j h h' (Ky hn j h))
 | clm hl _ ih=>exact .clm hl (fun j h h'=>ih j h h' (Ky hn j h))
section
variable {C:Ctx} {w:World} {Z:Nat→Nat→Prop} {μ:Nat→Option Cn} {o:Nat→Option Ob} {b:Nat}
theorem nodup_getElem?:∀ {l:List Nat},l.Nodup→∀ {i j a:Nat},l[i]? = some a→l[j]? = some a→i = j
 | [],_,i,j,a,hi,_=>by simp at hi
 | c :: l,h,i,j,a,hi,hj=>by
   obtain ⟨h1,h2⟩:=Zs.1 h
   cases i with
   | zero =>
     grind
   | succ i =>
     simp only [List.getElem?_cons_succ] at hi
     cases j with
     | zero =>
       grind
     | succ j =>
       simp only [List.getElem?_cons_succ] at hj
       rw [nodup_getElem? h2 hi hj]
theorem ald (hg:Good C w Z μ o) {br:List Nat} {B:Option (List Nat)} {ins:List Ob} (hkn:∀ b x,C.kn b = some x→w.heap[b]? = some x∧¬ Fb o μ br b) (hn:br.Nodup) (hl:alo o br B br ins) :
  Good { P:=C.P,w0:=w,Z0:=Zc Z o μ br B,F:=Fb o μ br,m:=ins.length,μ0:=βc μ br,kn:=C.kn,dr:=C.dr,mix:=C.mix,hkn:=hkn } w (Zc Z o μ br B) (βc μ br) (fun k=>ins[k]?) ∧
   (∀ b,Fb o μ br b→∃ k x c,ins[k]? = some x∧βc μ br k = some c∧x.live c∧c.block = b)∧∀ k,ins.length≤k→βc μ br k = none:=by
 obtain ⟨hlen,hget⟩:=acj hl
 have kth:∀ k y,ins[k]? = some y→∃ a x c,br[k]? = some a∧o a = some x∧μ a = some c∧βc μ br k = some c∧ak1 o br B x y∧yr w Z μ c x∧(x.live c→c.block < w.heap.size):=by
  intro k y hy
  obtain ⟨hk,_⟩:=zE.1 hy
  have hk':k < br.length:=by omega
  obtain ⟨x,hx,hc⟩:=hget k br[k] y (zf hk') hy
  obtain ⟨c,hm,hok,hlv⟩:=hg.ob _ _ hx
  exact ⟨br[k],x,c,zf hk',hx,hm,by simp [βc,hk',hm],hc,hok,fun h=>(hlv h).1⟩
 have livex:∀ x y c,ak1 o br B x y→(x.live c↔y.live c):=by
  intro x
  induction x with
  | typ T x ih =>
    intro y c h
    cases y with
    | typ T' y=>exact ih y c h.2
    | _=>exact False.elim h
  | dead=>intro y c h;cases y<;>exact False.elim h
  | box wr cs=>intro y c h;cases wr<;>cases y<;>first|exact False.elim h|exact Iff.rfl
  | buf wr s xs=>intro y c h;cases wr<;>cases y<;>first|exact False.elim h|exact Iff.rfl
  | obuf wr s xs=>intro y c h;cases wr<;>cases y<;>first|exact False.elim h|exact Iff.rfl
  | map ks vs c0=>intro y c h;cases y<;>exact False.elim h
  | iter a since seen last=>intro y c h;cases y<;>exact False.elim h
 have noZ:∀ a x c,a∈br→o a = some x→μ a = some c→x.live c→(∀ i,¬ Z c.block i)→∀ i,¬ Zc Z o μ br B c.block i:=by
  intro a x c ha hx hm hlv hz i h
  rcases h with h|⟨a',x',c',_,hnb,hx',hm',hlv',hb',_⟩
  ·exact hz i h
  ·exact hg.sep a a' x x' c c' (fun e=>hnb (e ▸ ha)) hx hx' hm hm' hlv hlv' hb'.symm
 refine ⟨⟨fun k y hy=>?_,fun k k' y y' c c' hkk hy hy' hc hc' hlv hlv'=>?_,fun b i h=>?_,zi _,fun _ _ _=>rfl,fun b i h=>.inl h,fun _ _ h=>h,fun _ _ _=>rfl,fun _ _=>rfl,Vq.refl _⟩,fun b hb=>?_,fun k hk=>?_⟩
 ·obtain ⟨a,x,c,ha,hx,hm,hβ,hc,hok,hlv⟩:=kth k y hy
  refine ⟨c,hβ,?_,fun hly=>⟨hlv ((livex x y c hc).2 hly),.inr ⟨a,zj ha,x,c,hx,hm,(livex x y c hc).2 hly,rfl⟩⟩⟩
  have ha':=zj ha
  have hnz:x.live c→(∀ i,¬ Z c.block i)→∀ i,¬ Zc Z o μ br B c.block i:=fun hl=>noZ a _ c ha' hx hm hl
  clear hx hlv
  clear hy
  induction x generalizing y with
  | dead=>cases y<;>exact False.elim hc
  | typ T x ih =>
    cases y with
    | typ T' y =>
      replace hc:T = T'∧ak1 o br B x y:=hc
      obtain ⟨rfl,hc⟩:=hc
      exact ⟨ih y hc hok.1 hnz,hok.2.1,fun hl=>hok.2.2 ((livex x y c hc).2 hl)⟩
    | _=>exact False.elim hc
  | box wr cs =>
    cases wr<;>cases y<;>try exact False.elim hc
    rename_i wr' es
    cases wr'<;>try exact False.elim hc
    replace hc:QE o br B cs es:=hc
    obtain ⟨hvo,⟨vs,ty,hb,hs,hr⟩,hz⟩:=hok
    have hlc:=JV hc
    exact ⟨hvo,⟨vs,ty,hb,by omega,fun j h h'=>⟨Ug hg br B _ _ _ _ (zi _) (hr j (by omega) h').1 (Wp hc j (by omega) h),(hr j (by omega) h').2⟩⟩,
     fun _=>hnz trivial (hz rfl)⟩
  | buf wr s xs =>
    cases wr<;>cases y<;>try exact False.elim hc
    rename_i wr' s' ys
    cases wr'<;>try exact False.elim hc
    replace hc:s = s'∧xs = ys:=hc
    obtain ⟨rfl,rfl⟩:=hc
    refine ⟨hok.1,fun hv=>?_⟩
    obtain ⟨h0,h1,h2,h3,h4,cs,ty,fr,h5,h6,h7,h8⟩:=hok.2 hv
    have nz:=hnz hv (h2 rfl)
    refine ⟨h0,h1,fun _=>nz,fun i h=>(nz i h).elim,h4,cs,ty,fr,h5,h6,h7,fun i hi j hj=>?_⟩
    obtain ⟨u,e1,e2,e3⟩:=h8 i hi j hj
    exact ⟨u,e1,e2,e3.mono (fun _ _ _=>rfl) (fun _ _ h=>.inl h) (fun _ _ h=>h)⟩
  | obuf wr s xs =>
    cases wr<;>cases y<;>try exact False.elim hc
    rename_i wr' s' ys
    cases wr'<;>try exact False.elim hc
    replace hc:s = s'∧VY o br B xs ys:=hc
    obtain ⟨rfl,hc⟩:=hc
    obtain ⟨hlc,hce⟩:=adk hc
    refine ⟨by have:=hok.1;omega,fun hv=>?_⟩
    obtain ⟨h0,h1,h2,h3,h4,cs,ty,fr,h5,h6,h7,h8⟩:=hok.2 hv
    have nz:=hnz hv (h2 rfl)
    have hcc:∀ i (hi:i < ys.length),ys[i].cells.length = s:=fun i hi=>by
     rw [← JV (hce i (by omega) hi)];exact h4 i (by omega)
    refine ⟨h0,h1,fun _=>nz,fun i h=>(nz i h).elim,hcc,cs,ty,fr,h5,h6,h7,fun i hi j hj=>?_⟩
    have h4i:=h4 i (by omega)
    have hci:=hcc i hi
    obtain ⟨u,e1,e2,e3⟩:=h8 i (by omega) j (by omega)
    exact ⟨u,e1,e2,Ug hg br B _ _ _ _ (zi _) e3 (Wp (hce i (by omega) hi) j (by omega) hj)⟩
  | map ks vs c0=>cases y<;>exact False.elim hc
  | iter a since seen last=>cases y<;>exact False.elim hc
 ·obtain ⟨a,x,c1,ha,hx,hm,hβ,hcv,_,_⟩:=kth k y hy
  obtain ⟨a',x',c1',ha',hx',hm',hβ',hcv',_,_⟩:=kth k' y' hy'
  have e1:=hβ.symm.trans hc
  have e2:=hβ'.symm.trans hc'
  cases e1;cases e2
  refine hg.sep a a' x x' c c' (fun e=>hkk (nodup_getElem? hn ha (e ▸ ha'))) hx hx' hm hm' ((livex x y _ hcv).2 hlv) ((livex x' y' _ hcv').2 hlv')
 ·rcases h with h|⟨a,x,c,_,_,hx,hm,hlv,rfl,_⟩
  ·exact hg.zlt b i h
  ·obtain ⟨c',hm',_,hl'⟩:=hg.ob a x hx
   rw [hm] at hm';cases hm'
   exact (hl' hlv).1
 ·obtain ⟨a,ha,x,c,hx,hm,hlv,rfl⟩:=hb
  obtain ⟨k,hk,rfl⟩:=kz ha
  obtain ⟨x',hx',hcv⟩:=hget k br[k] ins[k] (zf hk) (zf (by omega))
  rw [hx] at hx';cases hx'
  exact ⟨k,ins[k],c,zf (by omega),by simp [βc,hk,hm],(livex x _ c hcv).1 hlv,rfl⟩
 ·simp [βc,kY (show br.length≤k by omega)]
def qO (μ μ':Nat→Option Cn) (m n b:Nat) (x:Nat):Option Cn:=if b≤x∧x < b + (n - m) then μ' (m + (x - b)) else μ x
theorem ahH (hg:Good C w Z μ o) {br:List Nat} {B:Option (List Nat)} {ins outs:List Ob} (hkn:∀ b x,C.kn b = some x→w.heap[b]? = some x∧¬ Fb o μ br b) (hf:∀ x,b≤x→x < b + KK→μ x = none) (hmb:C.m≤b) (hbl:∀ x∈br,x < b) (hn:br.Nodup) (hl:br.length = ins.length)
  (hio:ins.length≤outs.length) (hK:outs.length - ins.length < KK) {w':World} {Z' Zn:Nat→Nat→Prop} {μ':Nat→Option Cn}
  (hc:Good { P:=C.P,w0:=w,Z0:=Zc Z o μ br B,F:=Fb o μ br,m:=ins.length,μ0:=βc μ br,kn:=C.kn,dr:=C.dr,mix:=C.mix,hkn:=hkn } w' Z' μ' (fun k=>outs[k]?)) (hend:∀ k,outs.length≤k→μ' k = none)
  (z1:∀ b i,Z b i→Zn b i) (z2:∀ b i,Zn b i→Z b i∨(B≠none∧∃ a x c,okB B a∧a ∉ br∧o a = some x∧μ a = some c∧x.live c∧c.block = b∧air c x i)∨w.heap.size≤b∨Fb o μ br b)
  (z3:∀ b i,Zn b i→b < w'.heap.size) (hob:∀ k x c,outs[k]? = some x→μ' k = some c→yr w' Z' μ' c x→yr w' Zn μ' c x) :
  Good C w' Zn (qO μ μ' ins.length outs.length b) (YD (sig br b) b br outs (j3 B br o))∧(∀ k c,μ' k = some c→qO μ μ' ins.length outs.length b (sig br b k) = some c) ∧
   (∀ a c,μ a = some c→qO μ μ' ins.length outs.length b a = some c)∧(∀ b i,Z b i→w'.cell? ⟨b,i,none⟩ = w.cell? ⟨b,i,none⟩)∧∀ a,a < b∨b + KK≤a→qO μ μ' ins.length outs.length b a = μ a:=by
 have hmu:∀ a c,μ a = some c→qO μ μ' ins.length outs.length b a = some c:=by
  intro a c h
  unfold qO
  grind
 have hsig:∀ k c,μ' k = some c→qO μ μ' ins.length outs.length b (sig br b k) = some c:=by
  intro k c h
  by_cases hk:k < ins.length
  ·have h1:=hc.fix k hk
   grind [sig,βc]
  ·have hk2:k < outs.length:=by
    grind
   have e:sig br b k = b + (k - ins.length):=by grind [sig]
   rw [e]
   unfold qO
   grind
 have hcell:∀ b i,Z b i→w'.cell? ⟨b,i,none⟩ = w.cell? ⟨b,i,none⟩:=fun b i h=>hc.zkeep b i (.inl h)
 have hblk:∀ bb,bb < w.heap.size→¬ Fb o μ br bb→w'.heap[bb]? = w.heap[bb]?:=hc.frame
 have notF:∀ a x c,a ∉ br→o a = some x→μ a = some c→x.live c→¬ Fb o μ br c.block:=by
  rintro a x c ha hx hm hlv ⟨a',ha',x',c',hx',hm',hlv',e⟩
  exact hg.sep a' a x' x c' c (fun e=>ha (e ▸ ha')) hx' hx hm' hm hlv' hlv e
 have frz_live:∀ x c,(Ob.frz x).live c↔x.live c:=by
  intro x c
  induction x with
  | typ T x ih=>exact ih
  | _=>rfl
 have old:∀ a y,a ∉ br→j3 B br o a = some y→∃ x c,o a = some x∧μ a = some c∧(y.live c↔x.live c)∧yr w' Zn (qO μ μ' ins.length outs.length b) c y:=by
  intro a y ha hy
  have hx:∃ x,o a = some x∧(y = x∧(∀ l,B = some l→a ∉ l)∨y = x.frz∧∃ l,B = some l∧a∈l):=by
   cases B with
   | none=>exact ⟨y,hy,by grind⟩
   | some l =>
     simp only [j3] at hy
     split at hy
     ·rename_i h1
      simp only [ze] at hy
      grind
     grind
  obtain ⟨x,hx,hcase⟩:=hx
  obtain ⟨c,hm,hok,hlv⟩:=hg.ob a x hx
  have hzn:x.live c→∀ i,Zn c.block i→Z c.block i∨(∃ l,B = some l∧a∈l)∧air c x i:=by
   intro hl1 i hz
   rcases z2 _ _ hz with h|⟨hB,a',x',c',hok',hnb,hx',hm',hlv',hbe,hsh⟩|h|h
   ·exact .inl h
   ·by_cases haa:a' = a
    ·subst haa
     rw [hx] at hx';cases hx'
     rw [hm] at hm';cases hm'
     cases B with
     | none=>exact (hB rfl).elim
     | some l=>exact .inr ⟨⟨l,rfl,hok'⟩,hsh⟩
    ·exact (hg.sep a' a x' x c' c haa hx' hx hm' hm hlv' hl1 hbe).elim
   ·grind
   grind
  have hkeep:x.live c→w'.heap[c.block]? = w.heap[c.block]?:=by grind
  refine ⟨x,c,hx,hm,?_,?_⟩
  ·grind
  ·suffices key:∀ x:Ob,yr w Z μ c x→(x.live c→∀ i,Zn c.block i→Z c.block i∨(∃ l,B = some l∧a∈l)∧air c x i)→(x.live c→w'.heap[c.block]? = w.heap[c.block]?) →
     ((∀ l,B = some l→a ∉ l)→yr w' Zn (qO μ μ' ins.length outs.length b) c x)∧((∃ l,B = some l∧a∈l)→yr w' Zn (qO μ μ' ins.length outs.length b) c x.frz) by
    grind
   clear hcase hok hlv hzn hkeep hx hy
   intro x
   induction x with
   | dead=>intro _ _ _;exact ⟨fun _=>trivial,fun _=>trivial⟩
   | typ T x ih =>
     intro hok hzn hkeep
     obtain ⟨i1,i2⟩:=ih hok.1 hzn hkeep
     exact ⟨fun h=>⟨i1 h,hok.2.1,fun hl=>by obtain ⟨cs,fr,e⟩:=hok.2.2 hl;exact ⟨cs,fr,(hkeep hl).trans e⟩⟩,i2⟩
   | box wr cells =>
     intro hok hzn hkeep
     obtain ⟨hvo,⟨cs,ty,hb,hs,hr⟩,hz⟩:=hok
     have base:(∃ cs ty,w'.heap[c.block]? = some (.cells cs ty (0,0))∧cs.size = cells.length∧(∀ j (h:j < cells.length) (h':j < cs.size),Rep w' Zn (qO μ μ' ins.length outs.length b) cs[j] cells[j]∧cs[j].oneCell' = true)) :=
      ⟨cs,ty,(hkeep trivial).trans hb,hs,fun j h h'=>⟨(hr j h h').1.mono hcell z1 hmu,(hr j h h').2⟩⟩
     refine ⟨fun hnl=>⟨hvo,base,fun hwr i hzi=>?_⟩,fun _=>⟨hvo,base,fun h=>by cases h⟩⟩
     rcases hzn trivial i hzi with h|⟨⟨l,h1,h2⟩,_⟩
     ·exact hz hwr i h
     ·exact hnl l h1 h2
   | buf wr sz xs =>
     intro hok hzn hkeep
     have base:∀ wr',(wr' = true→wr = true∧∀ l,B = some l→a ∉ l)→yr w' Zn (qO μ μ' ins.length outs.length b) c (.buf wr' sz xs):=by
      intro wr' hwr'
      refine ⟨hok.1,fun hv=>?_⟩
      obtain ⟨h0,h1,h2,h3,h4,cs,ty,fr,h5,h6,h7,h8⟩:=hok.2 hv
      refine ⟨h0,by grind,fun hw i hzi=>?_,fun i hzi=>?_,h4,cs,ty,fr,(hkeep hv).trans h5,h6,by grind,fun i hi j hj=>?_⟩
      ·rcases hzn hv i hzi with h|⟨⟨l,e1,e2⟩,_⟩
       ·grind
       grind
      ·rcases hzn hv i hzi with h|⟨_,h⟩
       ·exact h3 i h
       ·exact h
      ·obtain ⟨u,e1,e2,e3⟩:=h8 i hi j hj
       exact ⟨u,e1,e2,e3.mono hcell z1 (fun _ _ h=>h)⟩
     exact ⟨by grind,fun _=>base false (fun h=>by cases h)⟩
   | obuf wr sz xs =>
     intro hok hzn hkeep
     have base:∀ wr',(wr' = true→wr = true∧∀ l,B = some l→a ∉ l)→yr w' Zn (qO μ μ' ins.length outs.length b) c (.obuf wr' sz xs):=by
      intro wr' hwr'
      refine ⟨hok.1,fun hv=>?_⟩
      obtain ⟨h0,h1,h2,h3,h4,cs,ty,fr,h5,h6,h7,h8⟩:=hok.2 hv
      refine ⟨h0,by grind,fun hw i hzi=>?_,fun i hzi=>?_,h4,cs,ty,fr,(hkeep hv).trans h5,h6,by grind,fun i hi j hj=>?_⟩
      ·rcases hzn hv i hzi with h|⟨⟨l,e1,e2⟩,_⟩
       ·grind
       grind
      ·rcases hzn hv i hzi with h|⟨_,h⟩
       ·exact h3 i h
       ·exact h
      ·obtain ⟨u,e1,e2,e3⟩:=h8 i hi j hj
       exact ⟨u,e1,e2,e3.mono hcell z1 hmu⟩
     exact ⟨by grind,fun _=>base false (fun h=>by cases h)⟩
   | map ks vs c0 =>
     intro hok hzn hkeep
     have base:yr w' Zn (qO μ μ' ins.length outs.length b) c (.map ks vs c0):=by
      obtain ⟨h1,es,h2,h3,h4⟩:=hok
      exact ⟨h1,es,(hkeep trivial).trans h2,h3,fun i hi hk hv=>⟨(h4 i hi hk hv).1,(h4 i hi hk hv).2.1.mono hcell z1 (fun _ _ h=>h),(h4 i hi hk hv).2.2.mono hcell z1 hmu⟩⟩
     exact ⟨fun _=>base,fun _=>base⟩
   | iter a' since seen last =>
     intro hok hzn hkeep
     have base:yr w' Zn (qO μ μ' ins.length outs.length b) c (.iter a' since seen last):=by
      obtain ⟨d,h1,h2⟩:=hok
      exact ⟨d,hmu _ _ h1,(hkeep trivial).trans h2⟩
     exact ⟨fun _=>base,fun _=>base⟩
 have new:∀ k x,outs[k]? = some x→∃ c,μ' k = some c∧qO μ μ' ins.length outs.length b (sig br b k) = some c∧yr w' Zn (qO μ μ' ins.length outs.length b) c (x.ren (sig br b)) ∧
   (x.live c→c.block < w'.heap.size∧(w.heap.size≤c.block∨Fb o μ br c.block)):=by
  intro k x hx
  obtain ⟨c,hm,hok,hlv⟩:=hc.ob k x hx
  exact ⟨c,hm,hsig k c hm,(hob k x c hx hm hok).ren hsig,hlv⟩
 have sigBr:∀ k a,br[k]? = some a→sig br b k = a:=by grind [sig]
 have sigNew:∀ j,sig br b (br.length + j) = b + j:=fun j=>by simp [sig]
 have hFown:∀ bb,Fb o μ br bb→C.w0.heap.size≤bb∨C.F bb:=by
  rintro bb ⟨a,_,x,c,hx,hm,hlv,rfl⟩
  obtain ⟨c',hm',_,hl'⟩:=hg.ob a x hx
  grind
 have all:∀ a y,YD (sig br b) b br outs (j3 B br o) a = some y →
   (∃ k x,sig br b k = a∧outs[k]? = some x∧y = x.ren (sig br b))∨(a ∉ br∧¬ (b≤a∧a < b + (outs.length - br.length))∧j3 B br o a = some y):=by
  grind [acK,sig,j3]
 refine ⟨⟨fun a y ha=>?_,fun a a' y y' c c' haa hy hy' hm hm' hlv hlv'=>?_,z3,kD hg.grow hc.grow,fun bb hbb hF=>?_,fun bb i hz=>?_,fun bb i h=>z1 _ _ (hg.zsup _ _ h),fun bb i h=>?_,fun k hk=>?_,hg.oo.trans hc.oo⟩,hsig,hmu,hcell,fun a ha=>?_⟩
 ·rcases all a y ha with ⟨k,x,rfl,hx,rfl⟩|⟨h1,_,h3⟩
  ·obtain ⟨c,_,h2,h3,h4⟩:=new k x hx
   refine ⟨c,h2,h3,fun hlv=>?_⟩
   obtain ⟨h5,h6⟩:=h4 (wj.1 hlv)
   refine ⟨h5,?_⟩
   rcases h6 with h6|h6
   ·exact .inl (kD hg.grow h6)
   ·exact hFown _ h6
  ·obtain ⟨x,c,hx,hm,hlv,hok⟩:=old a y h1 h3
   obtain ⟨c',hm',_,hl'⟩:=hg.ob a x hx
   grind
 ·have mixed:∀ k x a y' c c',outs[k]? = some x→μ' k = some c→x.live c→a ∉ br→j3 B br o a = some y'→qO μ μ' ins.length outs.length b a = some c'→y'.live c'→c.block≠c'.block:=by
   intro k x a y' c c' hx hmk hlx ha hy' hm' hly' e
   obtain ⟨x',c1,hx',hm1,hlv1,_⟩:=old a y' ha hy'
   rw [hmu _ _ hm1] at hm';cases hm'
   obtain ⟨c2,hm2,_,hl2⟩:=hg.ob a x' hx'
   grind
  rcases all a y hy with ⟨k,x,rfl,hx,rfl⟩|⟨h1,_,h3⟩
  ·obtain ⟨c1,e1,e2,_,_⟩:=new k x hx
   rw [hm] at e2;cases e2
   rcases all a' y' hy' with ⟨k',x',rfl,hx',rfl⟩|⟨h1',_,h3'⟩
   ·obtain ⟨c1',e1',e2',_,_⟩:=new k' x' hx'
    rw [hm'] at e2';cases e2'
    exact hc.sep k k' x x' c c' (fun e=>haa (by rw [e])) hx hx' e1 e1' (wj.1 hlv) (wj.1 hlv')
   ·exact mixed k x a' y' c c' hx e1 (wj.1 hlv) h1' h3' hm' hlv'
  ·rcases all a' y' hy' with ⟨k',x',rfl,hx',rfl⟩|⟨h1',_,h3'⟩
   ·obtain ⟨c1',e1',e2',_,_⟩:=new k' x' hx'
    rw [hm'] at e2';cases e2'
    exact fun e=>mixed k' x' a y c' c hx' e1' (wj.1 hlv') h1 h3 hm hlv e.symm
   ·obtain ⟨x,c1,hx,hm1,hl1,_⟩:=old a y h1 h3
    obtain ⟨x',c1',hx',hm1',hl1',_⟩:=old a' y' h1' h3'
    rw [hmu _ _ hm1] at hm;cases hm
    rw [hmu _ _ hm1'] at hm';cases hm'
    exact hg.sep a a' x x' _ _ haa hx hx' hm1 hm1' (hl1.1 hlv) (hl1'.1 hlv')
 ·rw [hblk bb (km hbb hg.grow)]
  ·exact hg.frame bb hbb hF
  grind
 ·rcases z2 bb i hz with h|⟨_,a,x,c,_,_,hx,hm,hlv,rfl,_⟩|h|h
  ·exact hg.zsub _ _ h
  ·obtain ⟨c',hm',_,hl'⟩:=hg.ob a x hx
   grind
  ·exact .inr (.inl (kD hg.grow h))
  grind
 ·exact (hcell _ _ (hg.zsup _ _ h)).trans (hg.zkeep _ _ h)
 ·unfold qO
  rw [if_neg (by omega)];exact hg.fix k hk
 ·unfold qO
  grind
end
end Av
end
section
namespace Av
open Go
def V.und:V:=.tup []
def isG (v:V) (q:Option Bool):Prop:=match q with|some b=>v = .bool b|none=>v = V.und
def xM (Γ:Env) (b:Nat) (s:St) (d:Option Nat) (f:FuncId) (acts:List V) (K:St→Prop):Prop :=
 ∃ args ins Q br B,EvP Γ f args ins Q∧QE s.o br B acts args∧alo s.o br B br ins∧br.Nodup∧(∀ x∈br,x < b) ∧
  ∀ res outs,Q res outs→ins.length≤outs.length∧outs.length - ins.length < KK∧(B = none→res.noSl∧∀ x∈outs,x.noSl) ∧
   K { t:=(s.put d (res.ren (sig br b))).t,o:=YD (sig br b) b br outs (j3 B br s.o),n:=s.n }
theorem Yx {Γ:Env} {b:Nat} {s:St} {d:Option Nat} {f:FuncId} {acts:List V} {K:St→Prop} (h:∃ args ins res outs br B,Ev Γ f args ins res outs∧QE s.o br B acts args∧alo s.o br B br ins∧br.Nodup∧(∀ x∈br,x < b) ∧
  ins.length≤outs.length∧outs.length - ins.length < KK∧(B = none→res.noSl∧∀ x∈outs,x.noSl) ∧
  K { t:=(s.put d (res.ren (sig br b))).t,o:=YD (sig br b) b br outs (j3 B br s.o),n:=s.n }):xM Γ b s d f acts K:=by
 obtain ⟨args,ins,res,outs,br,B,hev,hcv,hl,hnd,hlt,hio,hK,hB,hk⟩:=h
 refine ⟨args,ins,_,br,B,hev.p,hcv,hl,hnd,hlt,?_⟩
 grind
def akd (Γ:Env) (b:Nat) (s:St) (d:Option Nat) (aop:AOp) (K:St→Prop):Prop :=
 match aop with
 | .call f as=>xM Γ b s d f (as.map s.ev) K
 | .callv x as=>(match s.ev x with|.clo f cap=>xM Γ b s d f.f (f.args (as.map s.ev) cap) K|_=>False)
 | aop=>(sem b s.ev aop).wp s.o fun e=>K (s.eff d e)
def yp (Γ:Env):Nat→List AO→St→(St→Prop)→Prop
 | b,[],s,K=>K { s with n:=b }
 | b,x :: r,s,K =>
   match x.g with
   | none=>akd Γ b s x.d x.op fun s'=>yp Γ (b + KK) r s' K
   | some (g,want)=>∃ q,isG (s.t g) q∧(q = some want→akd Γ b s x.d x.op fun s'=>yp Γ (b + KK) r s' K)∧(q≠some want→yp Γ (b + KK) r (s.put x.d V.und) K)
def Sim (C:Ctx) (nt:Nat) (n:Nat) (s:St) (a:Act) (w:World):Prop :=
 ∃ Z μ,Good C w Z μ s.o∧(∀ i,Rep w Z μ (a.tmps.getD i undef) (s.t i))∧(∀ x,n≤x→μ x = none)∧C.m≤n∧a.defers = []∧a.tmps.size = nt
def aga (C:Ctx) (nt:Nat) (U:Nat→Prop) (s:St) (a:Act) (w:World):Prop :=
 ∃ Z μ,Good C w Z μ s.o∧(∀ i,Rep w Z μ (a.tmps.getD i undef) (s.t i))∧(∀ x,¬ U x→μ x = none)∧a.defers = []∧a.tmps.size = nt
theorem Sim.toU {C:Ctx} {nt n:Nat} {s:St} {a:Act} {w:World} (h:Sim C nt n s a w):aga C nt (fun x=>x < n) s a w:=by
 obtain ⟨Z,μ,hg,ht,hf,hm,hd,hn⟩:=h
 exact ⟨Z,μ,hg,ht,by grind,hd,hn⟩
theorem aga.toSim {C:Ctx} {nt n:Nat} {U:Nat→Prop} {s:St} {a:Act} {w:World} (h:aga C nt U s a w) (hU:∀ x,U x→x < n) (hm:C.m≤n):Sim C nt n s a w:=by
 obtain ⟨Z,μ,hg,ht,hf,hd,hn⟩:=h
 exact ⟨Z,μ,hg,ht,by grind,hm,hd,hn⟩
theorem aga.mono {C:Ctx} {nt:Nat} {U U':Nat→Prop} {s:St} {a:Act} {w:World} (h:aga C nt U s a w) (hU:∀ x,U x→U' x):aga C nt U' s a w:=by
 obtain ⟨Z,μ,hg,ht,hf,hd,hn⟩:=h
 exact ⟨Z,μ,hg,ht,by grind,hd,hn⟩
theorem aix {w:World} {Z:Nat→Nat→Prop} {μ:Nat→Option Cn} {a:Act} {s:St} (h:∀ i,Rep w Z μ (a.tmps.getD i undef) (s.t i)) {nt:Nat} (hn:a.tmps.size = nt) {d:Option Nat} (hd:∀ k,d = some k→k < nt) {v:Value} {x:V} (hv:Rep w Z μ v x) :
  ∀ i,Rep w Z μ ((a.put d v).tmps.getD i undef) ((s.put d x).t i):=by
 intro i
 cases d with
 | none=>exact h i
 | some k =>
   have hk:=hd k rfl
   simp only [Act.put,St.put]
   by_cases hi:i = k
   ·simp_all [Qi,undef]
   simp_all [QH,undef,Ne.symm]
theorem afg {a:Act} {d:Option Nat} {v:Value}:(a.put d v).tmps.size = a.tmps.size:=by cases d<;>simp [Act.put]
theorem aaS {a:Act} {d:Option Nat} {v:Value}:(a.put d v).defers = a.defers:=by cases d<;>rfl
theorem St.put_o {s:St} {d:Option Nat} {x:V}:(s.put d x).o = s.o:=by cases d<;>rfl
section
variable {C:Ctx} {nt:Nat}
theorem Sim.step {b:Nat} {U:Nat→Prop} {s:St} {a:Act} {w w':World} {Z Z':Nat→Nat→Prop} {μ μ':Nat→Option Cn} (ht:∀ i,Rep w Z μ (a.tmps.getD i undef) (s.t i)) (hf:∀ x,¬ U x→μ x = none) (hd0:a.defers = []) (hn:a.tmps.size = nt)
  (he:Evo b KK w Z μ w' Z' μ') {o':Nat→Option Ob} (hg:Good C w' Z' μ' o') {v:Value} {x:V} (hv:Rep w' Z' μ' v x) {d:Option Nat} (hd:∀ k,d = some k→k < nt) {nn:Nat} :
  aga C nt (fun x=>U x∨(b≤x∧x < b + KK)) { t:=(s.put d x).t,o:=o',n:=nn } (a.put d v) w':=by
 refine ⟨Z',μ',hg,aix (fun i=>he.rep (ht i)) hn hd hv,fun y hy=>?_,aaS.trans hd0,afg.trans hn⟩
 rw [he.nw y (by omega)];grind
theorem ae2 {n:Nat} {U:Nat→Prop} {s:St} {a:Act} {w:World} (hs:aga C nt U s a w) (hm:C.m≤n) (hfr:∀ x,n≤x→x < n + KK→¬ U x) {d:Option Nat} (hd:∀ k,d = some k→k < nt) {f:FuncId} {cargs:Array Value} {acts:List V} {K:St→Prop}
  (hargs:∀ Z μ,(∀ i,Rep w Z μ (a.tmps.getD i undef) (s.t i))→cargs.size = acts.length∧∀ i (h:i < acts.length) (h':i < cargs.size),Rep w Z μ cargs[i] acts[i])
  (h:xM C.env n s d f acts K):Xx C.P f cargs w (fun e w'=>∃ v s',e = .returned v∧K s'∧aga C nt (fun x=>U x∨(n≤x∧x < n + KK)) s' (a.put d v) w'):=by
 obtain ⟨Z,μ,hg,ht,hf,hd0,hn⟩:=hs
 obtain ⟨hsz,hrep⟩:=hargs Z μ ht
 obtain ⟨args,ins,Q,br,B,hev,hcv,hl,hnd,hlt,hall⟩:=h
 obtain ⟨hlen,_⟩:=acj hl
 have hkn:∀ b x,C.kn b = some x→w.heap[b]? = some x∧¬ Fb s.o μ br b:=by
  intro b x h
  obtain ⟨h1,h2⟩:=C.hkn b x h
  have hlt:b < C.w0.heap.size:=by grind
  refine ⟨(hg.frame b hlt h2).trans h1,?_⟩
  rintro ⟨a,_,y,c,hy,hc,hl,rfl⟩
  obtain ⟨c',hc',_,hlv⟩:=hg.ob a y hy
  grind
 obtain ⟨e1,e2,e3⟩:=ald hg hkn hnd hl
 have hcl:=JV hcv
 have:=hev { P:=C.P,w0:=w,Z0:=Zc Z s.o μ br B,F:=Fb s.o μ br,m:=ins.length,μ0:=βc μ br,kn:=C.kn,dr:=C.dr,mix:=C.mix,hkn:=hkn } cargs rfl rfl e3 e1 e2 (by omega)
  (fun i h h'=>Ug hg br B _ _ _ _ (zi _) (hrep i (by omega) h') (Wp hcv i (by omega) h))
 have hf':∀ x,n≤x→x < n + KK→μ x = none:=by grind
 have mono:∀ {e:Ending} {w':World},(∃ res outs,Q res outs∧∃ v Z' μ',e = .returned v∧Rep w' Z' μ' v res∧Good { P:=C.P,w0:=w,Z0:=Zc Z s.o μ br B,F:=Fb s.o μ br,m:=ins.length,μ0:=βc μ br,kn:=C.kn,dr:=C.dr,mix:=C.mix,hkn:=hkn } w' Z' μ' (fun k=>outs[k]?)∧∀ k,outs.length≤k→μ' k = none) →
   ∃ v s',e = .returned v∧K s'∧aga C nt (fun x=>U x∨(n≤x∧x < n + KK)) s' (a.put d v) w':=by
  rintro e w' ⟨res,outs,hQ,v,Z',μ',rfl,hr,hgc,hend⟩
  obtain ⟨hio,hK,hB,hk⟩:=hall res outs hQ
  refine ⟨v,_,rfl,hk,?_⟩
  cases hBc:B with
  | none =>
    obtain ⟨hns,hno⟩:=hB hBc
    have hx:=ahH (Zn:=Z) hg hkn hf' hm hlt hnd hlen hio hK hgc hend (fun _ _ h=>h) (fun _ _ h=>.inl h) (fun b i h=>km (hg.zlt b i h) hgc.grow) ?_
    ·obtain ⟨x1,x2,x3,x4,x5⟩:=hx
     subst hBc
     exact Sim.step ht hf hd0 hn ⟨x4,fun _ _ h=>h,x3,x5⟩ x1 ((hr.anyZ hns).ren x2) hd
    ·intro k x c hx hmc hok
     have hnx:=hno x (zj hx)
     have zz:∀ b i,Z b i→Z' b i:=fun b i h=>hgc.zsup b i (.inl h)
     clear hx
     induction x with
     | dead=>trivial
     | typ T x ih=>exact ⟨ih hok.1 hnx,hok.2⟩
     | box wr cells =>
       obtain ⟨h1,⟨cs,ty,h2,h3,h4⟩,h5⟩:=hok
       exact ⟨h1,⟨cs,ty,h2,h3,fun j hj hj'=>⟨(h4 j hj hj').1.anyZ (Ky hnx j hj),(h4 j hj hj').2⟩⟩,by grind⟩
     | buf wr sz xs =>
       refine ⟨hok.1,fun hv=>?_⟩
       obtain ⟨h0,h1,h2,h3,h4,cs,ty,fr,h5,h6,h7,h8⟩:=hok.2 hv
       refine ⟨h0,h1,by grind,by grind,h4,cs,ty,fr,h5,h6,h7,fun i hi j hj=>?_⟩
       obtain ⟨u,q1,q2,q3⟩:=h8 i hi j hj
       exact ⟨u,q1,q2,q3.anyZ (aeK (hnx _ (zN hi)) j hj)⟩
     | obuf wr sz xs =>
       refine ⟨hok.1,fun hv=>?_⟩
       obtain ⟨h0,h1,h2,h3,h4,cs,ty,fr,h5,h6,h7,h8⟩:=hok.2 hv
       refine ⟨h0,h1,by grind,by grind,h4,cs,ty,fr,h5,h6,h7,fun i hi j hj=>?_⟩
       obtain ⟨u,q1,q2,q3⟩:=h8 i hi j hj
       exact ⟨u,q1,q2,q3.anyZ (aeK (hnx _ (zN hi)) j hj)⟩
     | map ks vs c0 =>
       obtain ⟨h1,es,h2,h3,h4⟩:=hok
       exact ⟨h1,es,h2,h3,fun i hi hk hv=>⟨(h4 i hi hk hv).1,(h4 i hi hk hv).2.1.anyZ (hnx.1 _ (zN hk)),(h4 i hi hk hv).2.2.anyZ (hnx.2 _ (zN hv))⟩⟩
     | iter a since seen last=>exact hok
  | some l =>
    have hx:=ahH (Zn:=Z') hg hkn hf' hm hlt hnd hlen hio hK hgc hend (fun b i h=>hgc.zsup b i (.inl h)) ?_ hgc.zlt (fun _ _ _ _ _ h=>h)
    ·obtain ⟨x1,x2,x3,x4,x5⟩:=hx
     subst hBc
     exact Sim.step ht hf hd0 hn ⟨x4,fun b i h=>hgc.zsup b i (.inl h),x3,x5⟩ x1 (hr.ren x2) hd
    ·intro b i hz
     rcases hgc.zsub b i hz with (h|⟨a',x,c,q1,q2,q3,q4,q5,q6,q7⟩)|h|h
     ·exact .inl h
     ·grind
     ·grind
     grind
 simp only [Xx,Ctx.env] at this ⊢
 split
 ·rename_i heq;simp only [heq] at this;exact mono this
 ·rename_i heq;simp only [heq] at this;exact Calls.mono this (fun _ _ h=>mono h)
 ·rename_i heq;simp only [heq] at this;exact Rows.mono this (fun _ _ h=>mono h)
 grind
end
end Av
end
section
namespace Av
open Go
section
variable {C:Ctx} {nt:Nat}
theorem acv {P:Program} {o:Oper} {a:Act} {next:Act→World→Prop} {Q:Exit→Act→World→Prop} {f:FuncId} {args:Array Value} {w:World}
  (h:Xx P f args w (fun e w'=>∃ v,e = .returned v∧next (a.put o.dst v) w')):o.upon P a next Q ((callFunc f args).run P w):=by
 unfold Xx at h
 split at h
 ·rename_i v w' heq
  obtain ⟨u,hu,hn⟩:=h
  cases hu
  rw [heq];exact hn
 ·rename_i f' args' w' heq
  rw [heq]
  refine Calls.mono h ?_
  grind
 ·rename_i row args' w' heq
  rw [heq]
  refine Rows.mono h ?_
  grind
 ·exact h.elim
theorem anJ (P:Program) (w:World) (ρ:Operand→Value) (dst:Option Tmp) (x:Operand) (as:Array Operand) (ts:Array TypeId) (ty:TypeId) (pos:String) (after:Array Edge) (guard:Option (Nat×Bool)) (f:FuncId) (cap:Array Value)
  (h:ρ x = .func (.func f) #[] cap):(execOp ρ { dst,op:=.call { callee:=.value x,args:=as,argTypes:=ts },type:=ty,pos,after,guard }).run P w = (callFunc f (as.map ρ++cap)).run P w:=by
 simp [execOp,resolve,Deferred.ofValue,h,invoke]
def FK.vargs:FK→Array Value→Array Value→Array Value
 | .n _,as,cs=>as++cs
 | .m _,as,cs=>cs++as
theorem alO (P:Program) (w:World) (ρ:Operand→Value) (dst:Option Tmp) (x:Operand) (as:Array Operand) (ts:Array TypeId) (ty:TypeId) (pos:String) (after:Array Edge) (guard:Option (Nat×Bool)) (f:FK) (cap:Array Value)
  (h:ρ x = f.val cap):(execOp ρ { dst,op:=.call { callee:=.value x,args:=as,argTypes:=ts },type:=ty,pos,after,guard }).run P w = (callFunc f.f (f.vargs (as.map ρ) cap)).run P w:=by
 cases f<;>simp [execOp,resolve,Deferred.ofValue,h,invoke,FK.val,FK.f,FK.vargs]
theorem afk {w:World} {Z:Nat→Nat→Prop} {μ:Nat→Option Cn} {ρ:Operand→Value} {r:Opd→V} (hρ:∀ x x',opd x = some x'→Rep w Z μ (ρ x) (r x')):∀ {l:List Operand} {as:List Opd},opds l = some as→l.length = as.length∧∀ i (h:i < as.length) (h':i < l.length),Rep w Z μ (ρ l[i]) (r as[i])
 | [],as,h=>by grind [opds]
 | x :: l,as,h=>by
   simp only [opds] at h
   split at h
   ·rename_i a b h1 h2
    simp only [zd] at h;subst h
    obtain ⟨e1,e2⟩:=afk hρ h2
    grind
   ·cases h
theorem ak2 {P:Program} {op:Op} {ty:TypeId} {aop:AOp} (h:comp P op ty = some aop) (hp:aop.plain = false) :
  ∃ x as ts xs,op = .call { callee:=.value x,args:=as,argTypes:=ts }∧opds as.toList = some xs∧((∃ f,x = .func f∧aop = .call f xs)∨∃ y,opd x = some y∧aop = .callv y xs):=by
 cases op
 case call c =>
  obtain ⟨callee,as,ts⟩:=c
  cases callee with
  | value x =>
    cases hx:opds as.toList with
    | none=>simp [comp,hx] at h
    | some xs =>
      cases x with
      | func f =>
        simp only [comp,hx,zd] at h;grind
      | _ =>
        simp only [comp,hx,ze] at h
        obtain ⟨y,hy,rfl⟩:=h
        exact ⟨_,as,ts,xs,rfl,hx,.inr ⟨y,hy,rfl⟩⟩
  | builtin bi =>
    exfalso
    simp only [comp] at h
    grind [Option.some.injEq,AOp.plain,Option.map_eq_some_iff]
  | invoke r m =>
    simp_all [comp]
 case makeFunc fn fi ca =>
  exfalso
  cases fn<;>simp only [comp] at h
  all_goals
   repeat' split at h
  all_goals first
   | (cases h;done)
   | (simp only [ze] at h;obtain ⟨_,_,rfl⟩:=h;simp [AOp.plain] at hp;done)
 case makeMap t rs =>
  exfalso
  cases rs with
  | none=>simp only [comp,zd] at h;grind [AOp.plain]
  | some x=>simp [comp] at h
 all_goals
  exfalso
  simp only [comp] at h
  repeat' split at h
  all_goals first
   | (cases h;done)
   | (simp only [zd] at h;subst h;simp [AOp.plain] at hp;done)
   | (simp only [ze] at h;obtain ⟨_,_,rfl⟩:=h;simp [AOp.plain] at hp;done)
theorem apc {n:Nat} {U:Nat→Prop} {s:St} {a:Act} {w:World} (hs:aga C nt U s a w) (hm:C.m≤n) (hfr:∀ x,n≤x→x < n + KK→¬ U x) {o:Oper} {aop:AOp} (hd:∀ k,o.dst = some k→k < nt) (hc:comp C.P o.op o.type = some aop) {K:St→Prop} {next:Act→World→Prop} {Q:Exit→Act→World→Prop}
  (h:akd C.env n s o.dst aop K) (hk:∀ s' a' w',K s'→aga C nt (fun x=>U x∨(n≤x∧x < n + KK)) s' a' w'→next a' w'):o.wp C.P a w next Q:=by
 by_cases hp:aop.plain = true
 ·have h':(sem n s.ev aop).wp s.o fun e=>K (s.eff o.dst e):=by
   cases aop<;>first|exact h|simp [AOp.plain] at hp
  obtain ⟨Z,μ,hg,ht,hf,hd0,hn⟩:=hs
  obtain ⟨e,v,w',Z',μ',e1,e2,e3,e4,e5⟩:=an2 hg (fun x h h'=>hf x (hfr x h h')) hm ht hc hp _ h'
  have hs':=Sim.step (nn:=s.n) ht hf hd0 hn e5 e4 e3 hd
  have he:({ t:=(s.put o.dst e.v).t,o:=xv s.o e.os,n:=s.n }:St) = s.eff o.dst e:=by
   cases hdst:o.dst<;>simp [St.eff,St.put]
  rw [he] at hs'
  unfold Oper.wp
  rcases e1 with h1|⟨h1,rfl⟩
  ·rw [h1];exact hk _ _ _ e2 hs'
  ·rw [h1];exact hk _ _ _ e2 hs'
 ·obtain ⟨x,as,ts,xs,hop,hxs,hcase⟩:=ak2 hc (by simpa using hp)
  obtain ⟨dst,op,ty,pos,after,guard⟩:=o
  simp only at hop hd h hc ⊢
  subst hop
  unfold Oper.wp
  have hrep:∀ Z μ,(∀ i,Rep w Z μ (a.tmps.getD i undef) (s.t i))→∀ x x',opd x = some x'→Rep w Z μ (a.eval x) (s.ev x'):=fun Z μ ht=>afv ht
  rcases hcase with ⟨f,rfl,rfl⟩|⟨y,hy,rfl⟩
  ·rw [anJ C.P w a.eval dst (.func f) as ts ty pos after guard f #[] rfl]
   refine acv ?_
   have:=ae2 (cargs:=as.map a.eval++#[]) hs hm hfr hd (fun Z μ ht=>?_) h
   ·grind [Xx,Calls.mono,Rows.mono]
   ·obtain ⟨l1,l2⟩:=afk (hrep Z μ ht) hxs
    grind
  ·simp only [akd] at h
   split at h
   ·rename_i f cap hev
    obtain ⟨Z,μ,hg,ht,hf,hd0,hn⟩:=hs
    have hx:=hrep Z μ ht x y hy
    rw [hev] at hx
    obtain ⟨cs,hxv,_,_⟩:=hx.cloE
    rw [alO C.P w a.eval dst x as ts ty pos after guard f cs hxv]
    refine acv ?_
    have:=ae2 (cargs:=f.vargs (as.map a.eval) cs) (⟨Z,μ,hg,ht,hf,hd0,hn⟩:aga C nt U s a w) hm hfr hd (fun Z μ ht=>?_) h
    ·grind [Xx,Calls.mono,Rows.mono]
    ·obtain ⟨l1,l2⟩:=afk (hrep Z μ ht) hxs
     have hx':=hrep Z μ ht x y hy
     rw [hev] at hx'
     obtain ⟨cs',hxv',hcl,hcr⟩:=hx'.cloE
     rw [hxv] at hxv'
     have hcs:cs' = cs:=by cases f<;>simpa [FK.val] using hxv'.symm
     subst hcs
     simp only [Array.length_toList] at l1
     cases f with
     | n f =>
       grind [FK.args,FK.vargs]
     | m f =>
       grind [FK.args,FK.vargs]
   ·exact h.elim
theorem ar5 {n:Nat} {s:St} {a:Act} {w:World} (hs:Sim C nt n s a w) {o:Oper} {aop:AOp} (hd:∀ k,o.dst = some k→k < nt) (hc:comp C.P o.op o.type = some aop) {K:St→Prop} {next:Act→World→Prop} {Q:Exit→Act→World→Prop}
  (h:akd C.env n s o.dst aop K) (hk:∀ s' a' w',K s'→Sim C nt (n + KK) s' a' w'→next a' w'):o.wp C.P a w next Q:=by
 have hm:C.m≤n:=by obtain ⟨_,_,_,_,_,hm,_⟩:=hs;exact hm
 refine apc hs.toU hm (fun x h _ hx=>by omega) hd hc h fun s' a' w' hk' hs'=>hk s' a' w' hk' (hs'.toSim (fun x hx=>?_) (by omega))
 rcases hx with h|h<;>omega
end
end Av
end
section
namespace Av
open Go
section
variable {C:Ctx} {nt:Nat}
def St.wn (s:St) (n:Nat):St:={ s with n:=n }
def AQ (C:Ctx) (nt:Nat) (K:St→Prop) (E:Nat→St→Prop) (R:St→Prop):Exit→Act→World→Prop
 | .normal,a,w=>∃ s,K s∧Sim C nt s.n s a w
 | .exit i,a,w=>∃ s,E i s∧Sim C nt s.n s a w
 | .ret,a,w=>∃ s,R s∧Sim C nt s.n s a w
 | _,_,_=>False
def AWp (C:Ctx) (nt:Nat) (c:AC) (s:St) (K:St→Prop) (E:Nat→St→Prop) (R:St→Prop):Prop :=
 ∀ code,xf C.P nt code = some c→∀ a w,Sim C nt s.n s a w→code.wp C.P (AQ C nt K E R) a w
theorem Sim.any {n:Nat} {s s':St} {a:Act} {w:World} (h:Sim C nt n s a w) (ht:s'.t = s.t) (ho:s'.o = s.o):Sim C nt n s' a w:=by
 obtain ⟨Z,μ,hg,h1,h2⟩:=h
 exact ⟨Z,μ,ho ▸ hg,fun i=>ht ▸ h1 i,h2⟩
theorem Sim.wide {n m:Nat} {s:St} {a:Act} {w:World} (h:Sim C nt n s a w) (hnm:n≤m):Sim C nt m s a w:=by
 obtain ⟨Z,μ,hg,h1,h2,h3,h4⟩:=h
 exact ⟨Z,μ,hg,h1,by grind,by omega,h4⟩
theorem acu {o:Oper} {y:Nat→Option Bool} (h:o.guard = none):Region.wanted o y = true:=by simp [Region.wanted,h]
theorem aoZ {w:World} {Z:Nat→Nat→Prop} {μ:Nat→Option Cn} {a:Act} {s:St} (ht:∀ i,Rep w Z μ (a.tmps.getD i undef) (s.t i)) {ops:Array Oper} {j:Nat} {g:Nat} (hg:(ops[j]?).bind (·.dst) = some g) {q:Option Bool} (hq:isG (s.t g) q) :
  yielded ops a.tmps j = q:=by
 have h:=ht g
 unfold yielded
 rw [hg]
 simp only [Option.bind_some]
 cases q with
 | some b =>
   have hq:s.t g = .bool b:=hq
   rw [hq] at h
   obtain ⟨h,_⟩:=h.scE
   rcases Nat.lt_or_ge g a.tmps.size with hlt|hge
   ·simp_all
   grind [undef]
 | none =>
   have hq:s.t g = .tup []:=hq
   rw [hq] at h
   generalize hv:a.tmps.getD g undef = v at h
   cases h with
   | tup hl hr =>
     rcases Nat.lt_or_ge g a.tmps.size with hlt|hge
     ·simp_all
     grind
theorem als {o:Oper} {j:Nat} {want:Bool} {y:Nat→Option Bool} {q:Option Bool} (hgu:o.guard = some (j,want)) (hy:y j = q):Region.wanted o y = decide (q = some want):=by
 simp only [Region.wanted,hgu,hy]
 grind
theorem alU {w:World} {Z:Nat→Nat→Prop} {μ:Nat→Option Cn}:Rep w Z μ undef V.und:=.tup rfl (fun j h=>by simp at h)
theorem aiq {n:Nat} {s:St} {a:Act} {w:World} (hs:Sim C nt n s a w) {d:Option Nat} (hd:∀ k,d = some k→k < nt):Sim C nt n (s.put d V.und) (a.put d undef) w:=by
 obtain ⟨Z,μ,hg,ht,hf,hm,hd0,hn⟩:=hs
 exact ⟨Z,μ,by rw [St.put_o];exact hg,aix ht hn hd alU,hf,hm,aaS.trans hd0,afg.trans hn⟩
theorem aeX {P:Program} {n:Nat} {ops:Array Oper} {o:Oper} {x:AO} (h:ak3 P n ops o = some x) :
  comp P o.op o.type = some x.op∧aby ops o.guard = some x.g∧x.d = o.dst∧∀ k,o.dst = some k→k < n:=by
 unfold ak3 at h
 grind
theorem apb {ops:Array Oper} {Q:Exit→Act→World→Prop}:∀ (l:List Nat) (xs:List AO) (n:Nat) (s:St) (a:Act) (w:World),
  (∀ i,i∈l→i < ops.size)→ahD C.P nt ops (l.filterMap (ops[·]?)) = some xs→Sim C nt n s a w→∀ K:St→Prop,yp C.env n xs s K →
  (∀ s' a' w',K s'→Sim C nt s'.n s' a' w'→Q .normal a' w')→wpOps C.P ops Q l a w
 | [],xs,n,s,a,w,_,hc,hs,K,h,hk=>by
   simp [ahD] at hc;subst hc
   exact hk _ _ _ h (hs.any rfl rfl)
 | i :: l,xs,n,s,a,w,hi,hc,hs,K,h,hk=>by
   have hlt:=hi i (by simp)
   have hget:ops[i]? = some ops[i]:=by grind
   simp only [List.filterMap_cons,hget,ahD] at hc
   split at hc
   ·rename_i x xs' h1 h2
    simp only [zd] at hc;subst hc
    obtain ⟨c1,c2,c3,c4⟩:=aeX h1
    simp only [wpOps,hget]
    have rest:∀ s' a' w',yp C.env (n + KK) xs' s' K→Sim C nt (n + KK) s' a' w'→wpOps C.P ops Q l a' w' :=
     fun s' a' w' h' hs'=>apb l xs' (n + KK) s' a' w' (fun i hm=>hi i (by simp [hm])) h2 hs' K h' hk
    have run:akd C.env n s x.d x.op (fun s'=>yp C.env (n + KK) xs' s' K)→(ops[i]).wp C.P a w (wpOps C.P ops Q l) Q:=by
     grind [ar5]
    cases hg:x.g with
    | none =>
      simp only [yp,hg] at h
      rw [hg] at c2
      have:(ops[i]).guard = none:=by
       cases hgu:(ops[i]).guard with
       | none=>rfl
       | some p =>
         grind [aby]
      simp_all [acu,if_true]
    | some p =>
      obtain ⟨g,want⟩:=p
      simp only [yp,hg] at h
      obtain ⟨q,hq,hq1,hq2⟩:=h
      rw [hg] at c2
      cases hgu:(ops[i]).guard with
      | none=>grind [aby]
      | some p =>
        obtain ⟨j,want'⟩:=p
        rw [hgu] at c2
        simp only [aby] at c2
        split at c2
        ·rename_i g' hg'
         simp only [zd,Prod.mk.injEq] at c2
         obtain ⟨rfl,rfl⟩:=c2
         have hy:yielded ops a.tmps j = q:=by
          obtain ⟨Z,μ,_,ht,_⟩:=hs
          exact aoZ ht hg' hq
         rw [als hgu hy]
         by_cases hqw:q = some want'
         ·grind
         ·simp only [hqw,decide_false,zk,if_false]
          refine rest _ _ _ (hq2 hqw) ?_
          rw [c3]
          exact (aiq hs c4).wide (by omega)
        ·cases c2
   ·cases hc
theorem acJ (ops:Array Oper):(List.range ops.size).filterMap (ops[·]?) = ops.toList:=by
 apply List.ext_getElem?
 intro i
 have key:∀ (l:List Nat) (hb:∀ i∈l,i < ops.size),l.filterMap (ops[·]?) = l.pmap (fun i h=>ops[i]'h) hb:=by
  intro l
  induction l with
  | nil=>intro _;rfl
  | cons i l ih =>
    simp_all
 have:=key (List.range ops.size) (fun i hi=>by simpa using hi)
 grind
variable {s:St} {K:St→Prop} {E:Nat→St→Prop} {R:St→Prop}
theorem am7 {ops:List AO} (h:yp C.env s.n ops s K):AWp C nt (.reg ops) s K E R:=by
 intro code hc a w hs
 cases code<;>simp only [xf] at hc
 case region id ops' draw =>
  simp only [ze] at hc
  obtain ⟨l,hl,he⟩:=hc
  cases draw
  ·simp only [zk,if_false,AC.reg.injEq] at he;subst he
   refine wp_region (apb (List.range ops'.size) l s.n s a w (fun i hi=>by simpa using hi) (by rw [acJ];exact hl) hs K h ?_)
   exact fun s' a' w' hk hs'=>⟨s',hk,hs'⟩
  ·simp at he
 all_goals first
  | (cases hc;done)
  | (simp only [ze] at hc;obtain ⟨_,_,he⟩:=hc;cases he;done)
  | (split at hc<;>simp at hc;done)
theorem aj5 (h:K s):AWp C nt .skip s K E R:=by
 intro code hc a w hs
 cases code<;>simp only [xf] at hc
 case skip=>exact wp_skip ⟨s,h,hs⟩
 case region id ops' draw =>
  grind [Option.map_eq_some_iff]
 all_goals first
  | (cases hc;done)
  | (simp only [ze] at hc;obtain ⟨_,_,he⟩:=hc;cases he;done)
  | (split at hc<;>simp at hc;done)
theorem aoL {i:Nat} (h:E i s):AWp C nt (.exit i) s K E R:=by
 intro code hc a w hs
 cases code<;>simp only [xf] at hc
 case exit id=>simp only [zd,AC.exit.injEq] at hc;subst hc;exact wp_exit ⟨s,h,hs⟩
 case region id ops' draw =>
  grind [Option.map_eq_some_iff]
 all_goals first
  | (cases hc;done)
  | (simp only [ze] at hc;obtain ⟨_,_,he⟩:=hc;cases he;done)
  | (split at hc<;>simp at hc;done)
theorem aqC (h:R s):AWp C nt .ret s K E R:=by
 intro code hc a w hs
 cases code<;>simp only [xf] at hc
 case ret=>exact wp_ret ⟨s,h,hs⟩
 case region id ops' draw =>
  grind [Option.map_eq_some_iff]
 all_goals first
  | (cases hc;done)
  | (simp only [ze] at hc;obtain ⟨_,_,he⟩:=hc;cases he;done)
  | (split at hc<;>simp at hc;done)
theorem aqB {x y:AC} (h:AWp C nt x s (fun s'=>AWp C nt y s' K E R) E R):AWp C nt (.seq x y) s K E R:=by
 intro code hc a w hs
 cases code<;>simp only [xf] at hc
 case seq c1 c2 =>
  split at hc
  ·rename_i x' y' h1 h2
   simp only [zd,AC.seq.injEq] at hc
   obtain ⟨rfl,rfl⟩:=hc
   refine wp_seq (wp_mono (h c1 h1 a w hs) ?_)
   intro e a' w' hq
   cases e with
   | normal=>obtain ⟨s',hk,hs'⟩:=hq;exact hk c2 h2 a' w' hs'
   | exit i=>exact hq
   | ret=>exact hq
   | _=>exact hq
  ·cases hc
 case region id ops' draw =>
  grind [Option.map_eq_some_iff]
 all_goals first
  | (cases hc;done)
  | (simp only [ze] at hc;obtain ⟨_,_,he⟩:=hc;cases he;done)
  | (split at hc<;>simp at hc;done)
theorem acp {c:Opd} {x y:AC} (h:∃ q,s.ev c = .bool q∧(q = true→AWp C nt x s K E R)∧(q = false→AWp C nt y s K E R)):AWp C nt (.cond c x y) s K E R:=by
 intro code hc a w hs
 cases code<;>simp only [xf] at hc
 case cond c0 c1 c2 =>
  split at hc
  ·rename_i c' x' y' h0 h1 h2
   simp only [zd,AC.cond.injEq] at hc
   obtain ⟨rfl,rfl,rfl⟩:=hc
   obtain ⟨q,hq,ht,hf⟩:=h
   have hev:a.eval c0 = .bool q:=by
    obtain ⟨Z,μ,_,htm,_⟩:=hs
    have:=afv htm c0 c' h0
    rw [hq] at this
    exact this.scE.1
   exact wp_cond_split hev (fun e=>ht e c1 h1 a w hs) (fun e=>hf e c2 h2 a w hs)
  ·cases hc
 case region id ops' draw =>
  grind [Option.map_eq_some_iff]
 all_goals first
  | (cases hc;done)
  | (simp only [ze] at hc;obtain ⟨_,_,he⟩:=hc;cases he;done)
  | (split at hc<;>simp at hc;done)
theorem anb {i:Nat} {x:AC} (h:AWp C nt x s K (fun j s'=>if j = i then K s' else E j s') R):AWp C nt (.block i x) s K E R:=by
 intro code hc a w hs
 cases code<;>simp only [xf] at hc
 case block i' c1 =>
  simp only [ze,AC.block.injEq] at hc
  obtain ⟨x',h1,rfl,rfl⟩:=hc
  refine wp_block (wp_mono (h c1 h1 a w hs) ?_)
  intro e a' w' hq
  cases e with
  | normal=>exact hq
  | exit j =>
    obtain ⟨s',hk,hs'⟩:=hq
    simp only [Exit.inBlock]
    split
    ·rename_i hj;simp only [hj,if_true] at hk;exact ⟨s',hk,hs'⟩
    ·rename_i hj;simp only [hj,if_false] at hk;exact ⟨s',hk,hs'⟩
  | ret=>exact hq
  | _=>exact hq
 case region id ops' draw =>
  grind [Option.map_eq_some_iff]
 all_goals first
  | (cases hc;done)
  | (simp only [ze] at hc;obtain ⟨_,_,he⟩:=hc;cases he;done)
  | (split at hc<;>simp at hc;done)
theorem akb {x:AC} (I:Nat→St→Prop) (h0:∃ k,I k s) (h:∀ k s',I k s'→AWp C nt x s' (fun s''=>∃ k',k' < k∧I k' s'') E R):AWp C nt (.loop x) s K E R:=by
 intro code hc a w hs
 cases code<;>simp only [xf] at hc
 case loop c1 =>
  simp only [ze,AC.loop.injEq] at hc
  obtain ⟨x',h1,rfl⟩:=hc
  obtain ⟨k0,hk0⟩:=h0
  intro b k cs
  have key:∀ n s a w,I n s→Sim C nt s.n s a w →
    ∃ e a' w',AQ C nt K E R e a' w'∧Arrives C.P (lone (b.at a (.code c1 :: .inLoop c1 :: k)) cs w) b k cs e a' w':=by
   intro n
   induction n using Nat.strongRecOn with
   | _ n ih =>
     intro s a w hI hs
     obtain ⟨e,a1,w1,hq,harr⟩:=h n s hI c1 h1 a w hs b (.inLoop c1 :: k) cs
     cases e with
     | normal =>
       obtain ⟨s',⟨k',hlt,hI'⟩,hs'⟩:=hq
       obtain ⟨e2,a2,w2,hq2,harr2⟩:=ih k' hlt s' a1 w1 hI' hs'
       exact ⟨e2,a2,w2,hq2,.of_steps (Steps.trans harr (.one step_inLoop)) harr2⟩
     | exit id=>exact ⟨.exit id,a1,w1,by grind [AQ],.pass (x:=.inLoop c1) rfl (fun _ _=>.inl (by simp)) harr⟩
     | ret=>exact ⟨.ret,a1,w1,(show AQ C nt K E R .ret a1 w1 from hq),.pass (x:=.inLoop c1) rfl (fun _ _=>.inl (by simp)) harr⟩
     | _=>exact hq.elim
  obtain ⟨e,a',w',hq,harr⟩:=key k0 s a w hk0 hs
  exact ⟨e,a',w',hq,.of_steps (.one step_loop) harr⟩
 case region id ops' draw =>
  simp only [ze] at hc
  obtain ⟨l,hl,he⟩:=hc
  cases draw<;>simp at he
 all_goals first
  | (cases hc;done)
  | (simp only [ze] at hc;obtain ⟨_,_,he⟩:=hc;cases he;done)
  | (split at hc<;>simp at hc;done)
theorem aka {c:AC} {K':St→Prop} {E':Nat→St→Prop} {R':St→Prop} (h:AWp C nt c s K' E' R') (hk:∀ s,K' s→K s) (he:∀ i s,E' i s→E i s) (hr:∀ s,R' s→R s):AWp C nt c s K E R :=
 fun code hc a w hs=>wp_mono (h code hc a w hs) fun e a' w' hq=>by
  cases e with
  | normal=>obtain ⟨s',h1,h2⟩:=hq;exact ⟨s',hk _ h1,h2⟩
  | exit i=>obtain ⟨s',h1,h2⟩:=hq;exact ⟨s',he _ _ h1,h2⟩
  | ret=>obtain ⟨s',h1,h2⟩:=hq;exact ⟨s',hr _ h1,h2⟩
  | _=>exact hq.elim
end
end Av
end
section
namespace Av
open Go
mutual
def V.lt (n:Nat):V→Prop
 | .hd a _ _=>a < n
 | .ptr a _=>a < n
 | .ept a _ _=>a < n
 | .mp a=>a < n
 | .agg cs=>ltL n cs
 | .tup cs=>ltL n cs
 | .clo _ cs=>ltL n cs
 | _=>True
def ltL (n:Nat):List V→Prop
 | []=>True
 | v :: r=>v.lt n∧ltL n r
end
theorem aaW {n:Nat}:∀ {cs:List V},ltL n cs→∀ j (h:j < cs.length),cs[j].lt n
 | [],_,j,h=>by simp at h
 | v :: r,hc,0,h=>hc.1
 | v :: r,hc,j + 1,h=>aaW (cs:=r) hc.2 j (by simpa using h)
theorem Rep.back {w:World} {Z:Nat→Nat→Prop} {μ μ':Nat→Option Cn} {τ:Nat→Nat} {n:Nat} (hτ:∀ a,a < n→μ' a = μ (τ a)) :
  ∀ (k:Nat) (x:V) (v:Value),sizeOf x≤k→x.lt n→Rep w Z μ v (x.ren τ)→Rep w Z μ' v x:=by
 intro k
 induction k with
 | zero=>intro x v hs;cases x<;>simp at hs
 | succ k ih =>
   intro x v hs hl hr
   have list:∀ (es:List V) (vs:Array Value),sizeOf es≤k→ltL n es→vs.size = (KS τ es).length→(∀ j (h:j < (KS τ es).length) (h':j < vs.size),Rep w Z μ vs[j] (KS τ es)[j]) →
     vs.size = es.length∧∀ j (h:j < es.length) (h':j < vs.size),Rep w Z μ' vs[j] es[j]:=by
    intro es vs hs hl hsz hr
    rw [Qy] at hsz
    refine ⟨hsz,fun j h h'=>ih _ _ ?_ (aaW hl j h) ?_⟩
    ·have:=kX (zN h);omega
    grind [Qy,YF]
   cases x with
   | top=>exact .top
   | sc u=>obtain ⟨rfl,h⟩:=hr.scE;exact .sc h
   | nn=>obtain ⟨t,u,rfl⟩:=hr.nnE;exact .nn
   | sl sz xs =>
     simp only [V.ren] at hr
     cases hr with
     | sl0=>exact .sl0
     | sl f h0 h1 h2 h3=>exact .sl f h0 h1 h2 h3
   | hd a off len=>obtain ⟨c,hm,hh⟩:=hr.hdE;exact .hd (c:=c) ((hτ a hl).trans hm) hh
   | ptr a off=>obtain ⟨c,hm,rfl⟩:=hr.ptrE;exact .ptr (c:=c) ((hτ a hl).trans hm)
   | ept a i off =>
     simp only [V.ren] at hr
     cases hr with
     | ept h1 h2 h3=>exact .ept ((hτ a hl).trans h1) h2 h3
   | mp a=>obtain ⟨c,hm,rfl⟩:=hr.mpE;exact .mp (c:=c) ((hτ a hl).trans hm)
   | ro cells off =>
     simp only [V.ren] at hr
     cases hr with
     | ro f h1 h2=>exact .ro f h1 h2
   | agg es =>
     obtain ⟨vs,rfl,h1,h2,h3⟩:=hr.aggE
     obtain ⟨l1,l2⟩:=list es vs (by simp at hs;omega) hl h1 h3
     exact .agg l1 h2 l2
   | tup es =>
     obtain ⟨vs,rfl,h1,h3⟩:=hr.tupE
     obtain ⟨l1,l2⟩:=list es vs (by simp at hs;omega) hl h1 h3
     exact .tup l1 l2
   | clo f es =>
     obtain ⟨vs,rfl,h1,h3⟩:=hr.cloE
     obtain ⟨l1,l2⟩:=list es vs (by simp at hs;omega) hl h1 h3
     exact .cloI l1 l2
def Ob.lt (n:Nat):Ob→Prop
 | .box _ cs=>ltL n cs
 | .typ _ x=>x.lt n
 | .obuf _ _ xs=>ltL n xs
 | .map _ vs _=>ltL n vs
 | .iter a _ _ _=>a < n
 | _=>True
def UL:List V→Prop
 | []=>True
 | x :: r=>Qa x.cells∧UL r
theorem vq:∀ {ys:List V},UL ys→∀ i (h:i < ys.length) j (hj:j < ys[i].cells.length),(ys[i].cells[j]).closed
 | x :: r,h,0,_,j,hj=>YZ h.1 j hj
 | x :: r,h,i + 1,hi,j,hj=>vq (ys:=r) h.2 i (by simpa using hi) j hj
def Ob.weak (τ:Nat→Nat) (n:Nat):Ob→Ob→Prop
 | _,.dead=>True
 | .box wr cs,.box wr' es=>(wr' = true→wr = true)∧cs = KS τ es∧ltL n es
 | .buf wr s xs,.buf wr' s' ys=>(wr' = true→wr = true)∧s = s'∧xs = ys
 | .obuf wr s xs,.obuf wr' s' ys=>(wr' = true→wr = true)∧s = s'∧xs = KS τ ys∧ltL n ys
 | .buf wr s xs,.obuf wr' s' ys=>(wr' = true→wr = true)∧s = s'∧xs = ys
 | .obuf wr s xs,.buf wr' s' ys=>(wr' = true→wr = true)∧s = s'∧xs = ys∧UL ys
 | .typ T x,.typ T' y=>T = T'∧x.weak τ n y
 | .map ks vs c0,.map ks' vs' c0'=>ks = ks'∧c0 = c0'∧vs = KS τ vs'∧ltL n vs'
 | .iter a since seen last,.iter a' since' seen' last'=>a = τ a'∧a' < n∧since = since'∧seen = seen'∧last = last'
 | _,_=>False
theorem vG {τ:Nat→Nat} {n:Nat} {c:Cn} {x y:Ob} (h:x.weak τ n y) (hl:y.live c):x.live c:=by
 induction y generalizing x with
 | dead=>exact hl.elim
 | typ T y ih=>cases x with|typ T1 x1=>exact ih (x:=x1) h.2 hl|_=>exact False.elim h
 | _=>cases x<;>first|exact False.elim h|trivial|exact hl
theorem aml {n:Nat} {x:V} (h:x.lt n):ltL n x.cells:=by
 cases x<;>first|exact h|exact ⟨h,trivial⟩
theorem BOk.back {w:World} {Z:Nat→Nat→Prop} {μ μ':Nat→Option Cn} {τ:Nat→Nat} {n:Nat} (hτ:∀ a,a < n→μ' a = μ (τ a)) {c:Cn} {wr:Bool} {s:Nat} {ys:List V} (h:BOk w Z μ c wr s (KS τ ys)) (hl:ltL n ys):BOk w Z μ' c wr s ys:=by
 refine ⟨by have:=h.1;rwa [Qy] at this,fun hv=>?_⟩
 obtain ⟨h0,h1,h2,h3,h4,cs,ty,fr,hh,h5,h6,h7⟩:=h.2 hv
 refine ⟨h0,h1,h2,h3,fun i hi=>?_,cs,ty,fr,hh,h5,h6,fun i hi j hj=>?_⟩
 ·grind [Qy,YF,xK]
 ·have hi':i < (KS τ ys).length:=by rw [Qy];exact hi
  have e0:(KS τ ys)[i].cells = KS τ ys[i].cells:=by rw [YF τ _ i hi,xK]
  have hj':j < (KS τ ys)[i].cells.length:=by rw [e0,Qy];exact hj
  obtain ⟨v,e1,e2,e3⟩:=h7 i hi' j hj'
  refine ⟨v,e1,e2,?_⟩
  have e4:(KS τ ys)[i].cells[j] = (ys[i].cells[j]).ren τ:=by
   grind [YF]
  rw [e4] at e3
  exact Rep.back hτ _ _ _ (zi _) (aaW (aml (aaW hl i hi)) j hj) e3
theorem yr.weak {w:World} {Z:Nat→Nat→Prop} {μ μ':Nat→Option Cn} {τ:Nat→Nat} {n:Nat} (hτ:∀ a,a < n→μ' a = μ (τ a)) {c:Cn} {x y:Ob} (h:yr w Z μ c x) (hw:x.weak τ n y):yr w Z μ' c y:=by
 induction y generalizing x with
 | dead=>trivial
 | typ T y ih =>
   cases x with
   | typ T' x =>
     obtain ⟨rfl,hw⟩:T' = T∧x.weak τ n y:=hw
     exact ⟨ih h.1 hw,h.2.1,fun hl=>h.2.2 (vG hw hl)⟩
   | _=>exact False.elim hw
 | box wr' es =>
   cases x<;>try exact False.elim hw
   rename_i wr cells
   replace hw:(wr' = true→wr = true)∧cells = KS τ es∧ltL n es:=hw
   obtain ⟨h1,rfl,h2⟩:=hw
   obtain ⟨hv,⟨cs,ty,hh,hs,hr⟩,hz⟩:=h
   refine ⟨hv,⟨cs,ty,hh,by rw [Qy] at hs;exact hs,fun j hj hj'=>?_⟩,fun e=>hz (h1 e)⟩
   have:=hr j (by rw [Qy];exact hj) hj'
   rw [YF τ es j hj] at this
   exact ⟨Rep.back hτ _ _ _ (zi _) (aaW h2 j hj) this.1,this.2⟩
 | buf wr' s' ys =>
   cases x<;>try exact False.elim hw
   ·rename_i wr s xs
    replace hw:(wr' = true→wr = true)∧s = s'∧xs = ys:=hw
    obtain ⟨h1,rfl,rfl⟩:=hw
    exact BOk.weak h1 h
   ·rename_i wr s xs
    replace hw:(wr' = true→wr = true)∧s = s'∧xs = ys∧UL ys:=hw
    obtain ⟨h1,rfl,rfl,hcl⟩:=hw
    have h:=BOk.close h (vq hcl)
    exact BOk.weak h1 h
 | obuf wr' s' ys =>
   cases x<;>try exact False.elim hw
   ·rename_i wr s xs
    replace hw:(wr' = true→wr = true)∧s = s'∧xs = ys:=hw
    obtain ⟨h1,rfl,rfl⟩:=hw
    have h:=BOk.lift (μ:=μ') h
    exact BOk.weak h1 h
   ·rename_i wr s xs
    replace hw:(wr' = true→wr = true)∧s = s'∧xs = KS τ ys∧ltL n ys:=hw
    obtain ⟨h1,rfl,rfl,h2⟩:=hw
    have h:=BOk.back hτ h h2
    exact BOk.weak h1 h
 | map ks' vs' c0' =>
   cases x<;>try exact False.elim hw
   rename_i ks vs c0
   obtain ⟨rfl,rfl,rfl,h2⟩:ks = ks'∧c0 = c0'∧vs = KS τ vs'∧ltL n vs':=hw
   obtain ⟨h1,es,h3,h4,h5⟩:=h
   rw [Qy] at h1
   refine ⟨h1,es,h3,h4,fun i hi hk hv=>?_⟩
   obtain ⟨b1,b2,b3⟩:=h5 i hi hk (by rw [Qy];exact hv)
   rw [YF τ _ i hv] at b3
   exact ⟨b1,b2,Rep.back hτ _ _ _ (zi _) (aaW h2 i hv) b3⟩
 | iter a' since' seen' last' =>
   cases x<;>try exact False.elim hw
   rename_i a since seen last
   obtain ⟨rfl,h2,rfl,rfl,rfl⟩:a = τ a'∧a' < n∧since = since'∧seen = seen'∧last = last':=hw
   obtain ⟨d,h3,h4⟩:=h
   exact ⟨d,(hτ _ h2).trans h3,h4⟩
structure ano (m:Nat) (τ:Nat→Nat) (s s1:St):Prop where
 t:∀ i,s1.t i = .top∨(s.t i = (s1.t i).ren τ∧(s1.t i).lt s1.n)
 o:∀ a y,s1.o a = some y→a < s1.n∧∃ x,s.o (τ a) = some x∧x.weak τ s1.n y
 inj:∀ a b,s1.o a≠none→s1.o b≠none→τ a = τ b→a = b
 fix:∀ k,k < m→τ k = k
 le:m≤s1.n
theorem Sim.weak {C:Ctx} {nt n:Nat} {s s1:St} {a:Act} {w:World} {τ:Nat→Nat} (h:Sim C nt n s a w) (hw:ano C.m τ s s1):Sim C nt s1.n s1 a w:=by
 obtain ⟨Z,μ,hg,ht,hf,hm,hd,hn⟩:=h
 let μ':Nat→Option Cn:=fun x=>if x < s1.n then μ (τ x) else none
 have hτ:∀ x,x < s1.n→μ' x = μ (τ x):=fun x hx=>if_pos hx
 have hle:=hw.le
 refine ⟨Z,μ',⟨fun x y hy=>?_,fun x y u v c d hxy hu hv hc hd hl hl'=>?_,hg.zlt,hg.grow,hg.frame,hg.zsub,hg.zsup,hg.zkeep,fun k hk=>?_,hg.oo⟩,fun i=>?_,by grind,hle,hd,hn⟩
 ·obtain ⟨h1,u,h2,h3⟩:=hw.o x y hy
  obtain ⟨c,hm1,hok,hl⟩:=hg.ob _ _ h2
  exact ⟨c,(hτ x h1).trans hm1,hok.weak hτ h3,fun hly=>hl (vG h3 hly)⟩
 ·obtain ⟨h1,u',h2,h3⟩:=hw.o x u hu
  obtain ⟨h1',v',h2',h3'⟩:=hw.o y v hv
  rw [hτ x h1] at hc
  rw [hτ y h1'] at hd
  exact hg.sep (τ x) (τ y) u' v' c d (fun e=>hxy (hw.inj x y (by simp [hu]) (by simp [hv]) e)) h2 h2' hc hd (vG h3 hl) (vG h3' hl')
 ·rw [hτ k (by omega),hw.fix k hk];exact hg.fix k hk
 ·rcases hw.t i with h|⟨h1,h2⟩
  ·rw [h];exact .top
  ·have:=ht i
   rw [h1] at this
   exact Rep.back hτ _ _ _ (zi _) h2 this
def jz:List (Nat×V)→Nat→V
 | [],_=>.top
 | (k,v) :: r,i=>if i = k then v else jz r i
def abQ:List (Nat×Ob)→Nat→Option Ob
 | [],_=>none
 | (k,v) :: r,i=>if i = k then some v else abQ r i
def Qp:List (Nat×Nat)→Nat→Nat
 | [],i=>i
 | (k,v) :: r,i=>if i = k then v else Qp r i
def Yo (ts:List (Nat×V)) (os:List (Nat×Ob)) (n:Nat):St:={ t:=jz ts,o:=abQ os,n }
theorem vU:∀ (ts:List (Nat×V)) (i:Nat),jz ts i = .top∨(i,jz ts i)∈ts
 | [],i=>.inl rfl
 | (k,v) :: r,i=>by
  simp only [jz]
  split
  ·grind
  ·rcases vU r i with h|h
   ·exact .inl h
   grind
theorem vV:∀ (os:List (Nat×Ob)) (i:Nat) (x:Ob),abQ os i = some x→(i,x)∈os
 | [],i,x,h=>by cases h
 | (k,v) :: r,i,x,h=>by
  simp only [abQ] at h
  split at h
  ·grind
  ·simp [vV r i x h]
theorem jW {α β:Type} {f:α→β}:∀ {l:List α},(l.map f).Nodup→∀ {x y:α},x∈l→y∈l→f x = f y→x = y
 | [],_,x,y,hx,_,_=>by cases hx
 | c :: l,h,x,y,hx,hy,he=>by
   simp only [zm,Zs] at h
   rcases zp.1 hx with rfl|hx'
   ·grind
   ·rcases zp.1 hy with rfl|hy'
    ·grind
    ·exact jW h.2 hx' hy' he
theorem apw {m n:Nat} {s:St} (tau:List (Nat×Nat)) {ts:List (Nat×V)} {os:List (Nat×Ob)}
  (ht:∀ p∈ts,s.t p.1 = p.2.ren (Qp tau)∧p.2.lt n)
  (ho:∀ p∈os,p.1 < n∧∃ x,s.o (Qp tau p.1) = some x∧x.weak (Qp tau) n p.2)
  (hn:(os.map fun p=>Qp tau p.1).Nodup) (hf:∀ p∈tau,m≤p.1) (hm:m≤n):ano m (Qp tau) s (Yo ts os n):=by
 have keep:∀ (l:List (Nat×Nat)),(∀ p∈l,m≤p.1)→∀ k,k < m→Qp l k = k:=by
  intro l
  induction l with
  | nil=>intro _ k _;rfl
  | cons p l ih =>
    intro hl k hk
    have:=hl p (by simp)
    simp only [Qp]
    grind
 refine ⟨fun i=>?_,fun a y h=>ho _ (vV os a y h),fun a b ha hb hab=>?_,keep tau hf,hm⟩
 ·rcases vU ts i with h|h
  ·exact .inl h
  ·exact .inr (ht _ h)
 ·simp only [Yo] at ha hb
  obtain ⟨x,hx⟩:=kI.1 ha
  obtain ⟨y,hy⟩:=kI.1 hb
  have:=jW (f:=fun p:Nat×Ob=>Qp tau p.1) hn (vV os a x hx) (vV os b y hy) hab
  grind
section
variable {C:Ctx} {nt:Nat} {s:St} {K:St→Prop} {E:Nat→St→Prop} {R:St→Prop}
theorem aj4 {c:AC} {s1:St} {τ:Nat→Nat} (hw:ano C.m τ s s1) (h:AWp C nt c s1 K E R):AWp C nt c s K E R :=
 fun code hc a w hs=>h code hc a w (hs.weak hw)
theorem am8 {x:AC} {ι:Type} (good:ι→Prop) (inv:ι→St) (msr:ι→Nat) (h0:∃ i τ,good i∧ano C.m τ s (inv i))
  (h:∀ i,good i→AWp C nt x (inv i) (fun s'=>∃ i' τ,good i'∧msr i' < msr i∧ano C.m τ s' (inv i')) E R):AWp C nt (.loop x) s K E R:=by
 obtain ⟨i0,τ,hg,hw⟩:=h0
 refine aj4 hw (akb (fun k s'=>∃ i,good i∧msr i = k∧s' = inv i) ⟨msr i0,i0,hg,rfl,rfl⟩ ?_)
 rintro k s' ⟨i,hi,rfl,rfl⟩
 exact fun code hc a w hs=>wp_mono (h i hi code hc a w hs) fun e a' w' hq=>by
  cases e with
  | normal=>obtain ⟨s',⟨i',τ',h1,h2,h3⟩,h4⟩:=hq;exact ⟨inv i',⟨msr i',h2,i',h1,rfl,rfl⟩,h4.weak h3⟩
  | exit i=>exact hq
  | ret=>exact hq
  | _=>exact hq.elim
end
end Av
end
section
namespace Av
open Go
def ao5 (o:Nat→Option Ob) (br:List Nat) (B:Option (List Nat)):Ob→Ob→Prop
 | _,.dead=>True
 | .box wr cs,.box wr' es=>(wr' = true→wr = true)∧QE o br B cs es
 | .buf wr s xs,.buf wr' s' ys=>(wr' = true→wr = true)∧s = s'∧xs = ys
 | .obuf wr s xs,.obuf wr' s' ys=>(wr' = true→wr = true)∧s = s'∧VY o br B xs ys
 | .buf wr s xs,.obuf wr' s' ys=>(wr' = true→wr = true)∧s = s'∧xs = ys
 | .obuf wr s xs,.buf wr' s' ys=>(wr' = true→wr = true)∧s = s'∧VY o br B xs ys∧UL ys
 | .typ T x,.typ T' y=>T = T'∧ao5 o br B x y
 | .map ks vs c0,.map ks' vs' c0'=>ks = ks'∧c0 = c0'∧QE o br B vs vs'
 | _,_=>False
def anM (o:Nat→Option Ob) (br:List Nat) (B:Option (List Nat)):List Nat→List Ob→Prop
 | [],[]=>True
 | a :: r,y :: r'=>(∃ x,o a = some x∧ao5 o br B x y)∧anM o br B r r'
 | _,_=>False
theorem ajo {o:Nat→Option Ob} {br:List Nat} {B:Option (List Nat)}:∀ {l:List Nat} {outs:List Ob},anM o br B l outs→l.length = outs.length∧∀ (k:Nat) (y:Ob),outs[k]? = some y→∃ a x,l[k]? = some a∧o a = some x∧ao5 o br B x y
 | [],[],_=>by grind
 | [],_ :: _,h=>h.elim
 | _ :: _,[],h=>h.elim
 | a :: r,y :: r',h=>by
   obtain ⟨⟨x,h1,h1'⟩,h2⟩:=h
   obtain ⟨l1,l2⟩:=ajo h2
   grind
theorem vQ {o:Nat→Option Ob} {br:List Nat} {B:Option (List Nat)} {c:Cn} {x y:Ob} (h:ao5 o br B x y) (hl:y.live c):x.live c:=by
 induction y generalizing x with
 | dead=>exact hl.elim
 | typ T y ih=>cases x with|typ T1 x1=>exact ih (x:=x1) h.2 hl|_=>exact False.elim h
 | _=>cases x<;>first|exact False.elim h|trivial|exact hl
section
variable {C:Ctx} {w:World} {Z:Nat→Nat→Prop} {μ:Nat→Option Cn} {o:Nat→Option Ob}
theorem Good.close (hg:Good C w Z μ o) {br:List Nat} {B:Option (List Nat)} {outs:List Ob} (hn:br.Nodup) (hl:anM o br B br outs) (hf:br.take C.m = List.range C.m) :
  Good C w (Zc Z o μ br B) (βc μ br) (fun k=>outs[k]?)∧(∀ k,outs.length≤k→βc μ br k = none)∧C.m≤outs.length:=by
 obtain ⟨hlen,hget⟩:=ajo hl
 have hm:C.m≤br.length:=by
  have:=congrArg List.length hf
  simp at this;omega
 have kth:∀ k y,outs[k]? = some y→∃ a x c,br[k]? = some a∧o a = some x∧μ a = some c∧βc μ br k = some c∧ao5 o br B x y∧yr w Z μ c x∧(x.live c→c.block < w.heap.size∧(C.w0.heap.size≤c.block∨C.F c.block)):=by
  intro k y hy
  obtain ⟨a,x,h1,h2,h3⟩:=hget k y hy
  obtain ⟨c,hm,hok,hlv⟩:=hg.ob _ _ h2
  obtain ⟨hk,he⟩:=zE.1 h1
  exact ⟨a,x,c,h1,h2,hm,by simp [βc,hk,he,hm],h3,hok,hlv⟩
 have noZ:∀ a x c,a∈br→o a = some x→μ a = some c→x.live c→∀ i,Zc Z o μ br B c.block i→Z c.block i:=by
  intro a x c ha hx hm hlv i h
  rcases h with h|⟨a',x',c',_,hnb,hx',hm',hlv',hb',_⟩
  ·exact h
  ·exact (hg.sep a a' x x' c c' (fun e=>hnb (e ▸ ha)) hx hx' hm hm' hlv hlv' hb'.symm).elim
 have open':∀ (wr wr':Bool) (s:Nat) (xs ys:List V) {c:Cn},(wr' = true→wr = true)→VY o br B xs ys→BOk w Z μ c wr s xs→(c.void = false→∀ i,Zc Z o μ br B c.block i→Z c.block i)→BOk w (Zc Z o μ br B) (βc μ br) c wr' s ys:=by
  intro wr wr' s xs ys c hw hc hok nz
  obtain ⟨hlc,hce⟩:=adk hc
  refine ⟨by have:=hok.1;omega,fun hv=>?_⟩
  obtain ⟨h0,h1,h2,h3,h4,cs,ty,fr,h5,h6,h7,h8⟩:=hok.2 hv
  have hcc:∀ i (hi:i < ys.length),ys[i].cells.length = s:=fun i hi=>by
   rw [← JV (hce i (by omega) hi)];exact h4 i (by omega)
  refine ⟨h0,⟨h1.1,fun e=>h1.2 (hw e)⟩,fun e i h=>h2 (hw e) i (nz hv i h),fun i h=>h3 i (nz hv i h),hcc,cs,ty,fr,h5,h6,fun o ho=>h7 o (ho.imp id hw),fun i hi j hj=>?_⟩
  have h4i:=h4 i (by omega)
  have hci:=hcc i hi
  obtain ⟨u,e1,e2,e3⟩:=h8 i (by omega) j (by omega)
  exact ⟨u,e1,e2,Ug hg br B _ _ _ _ (zi _) e3 (Wp (hce i (by omega) hi) j (by omega) hj)⟩
 refine ⟨⟨fun k y hy=>?_,fun k k' y y' c c' hkk hy hy' hc hc' hlv hlv'=>?_,fun b i h=>?_,hg.grow,hg.frame,fun b i h=>?_,fun b i h=>.inl (hg.zsup b i h),hg.zkeep,fun k hk=>?_,hg.oo⟩,fun k hk=>?_,by omega⟩
 ·obtain ⟨a,x,c,ha,hx,hm,hβ,hc,hok,hlv⟩:=kth k y hy
  refine ⟨c,hβ,?_,fun hly=>hlv (vQ hc hly)⟩
  have ha':=zj ha
  have hnz:x.live c→∀ i,Zc Z o μ br B c.block i→Z c.block i:=fun hl=>noZ a _ c ha' hx hm hl
  clear hx hlv hy
  induction y generalizing x with
  | dead=>trivial
  | typ T y ih =>
    cases x with
    | typ T' x =>
      obtain ⟨rfl,hc⟩:T' = T∧ao5 o br B x y:=hc
      exact ⟨ih x hc hok.1 hnz,hok.2.1,fun hl=>hok.2.2 (vQ hc hl)⟩
    | _=>exact False.elim hc
  | box wr' es =>
    cases x<;>try exact False.elim hc
    rename_i wr cs
    replace hc:(wr' = true→wr = true)∧QE o br B cs es:=hc
    obtain ⟨hw,hc⟩:=hc
    obtain ⟨hvo,⟨vs,ty,hb,hs,hr⟩,hz⟩:=hok
    have hlc:=JV hc
    exact ⟨hvo,⟨vs,ty,hb,by omega,fun j h h'=>⟨Ug hg br B _ _ _ _ (zi _) (hr j (by omega) h').1 (Wp hc j (by omega) h),(hr j (by omega) h').2⟩⟩,
     fun e i h=>hz (hw e) i (hnz trivial i h)⟩
  | buf wr' s' ys =>
    cases x<;>try exact False.elim hc
    ·rename_i wr s xs
     replace hc:(wr' = true→wr = true)∧s = s'∧xs = ys:=hc
     obtain ⟨hw,rfl,rfl⟩:=hc
     refine ⟨hok.1,fun hv=>?_⟩
     obtain ⟨h0,h1,h2,h3,h4,cs,ty,fr,h5,h6,h7,h8⟩:=hok.2 hv
     have nz:=hnz hv
     refine ⟨h0,⟨h1.1,fun e=>h1.2 (hw e)⟩,fun e i h=>h2 (hw e) i (nz i h),fun i h=>h3 i (nz i h),h4,cs,ty,fr,h5,h6,fun o ho=>h7 o (ho.imp id hw),fun i hi j hj=>?_⟩
     obtain ⟨u,e1,e2,e3⟩:=h8 i hi j hj
     exact ⟨u,e1,e2,e3.mono (fun _ _ _=>rfl) (fun _ _ h=>.inl h) (fun _ _ h=>h)⟩
    ·rename_i wr s xs
     replace hc:(wr' = true→wr = true)∧s = s'∧VY o br B xs ys∧UL ys:=hc
     obtain ⟨hw,rfl,hc,hcl⟩:=hc
     exact BOk.close (open' wr wr' s xs ys hw hc hok (fun hv=>hnz hv)) (vq hcl)
  | obuf wr' s' ys =>
    cases x<;>try exact False.elim hc
    ·rename_i wr s xs
     replace hc:(wr' = true→wr = true)∧s = s'∧xs = ys:=hc
     obtain ⟨hw,rfl,rfl⟩:=hc
     have hok:=BOk.lift (μ:=βc μ br) hok
     refine ⟨hok.1,fun hv=>?_⟩
     obtain ⟨h0,h1,h2,h3,h4,cs,ty,fr,h5,h6,h7,h8⟩:=hok.2 hv
     have nz:=hnz hv
     refine ⟨h0,⟨h1.1,fun e=>h1.2 (hw e)⟩,fun e i h=>h2 (hw e) i (nz i h),fun i h=>h3 i (nz i h),h4,cs,ty,fr,h5,h6,fun o ho=>h7 o (ho.imp id hw),fun i hi j hj=>?_⟩
     obtain ⟨u,e1,e2,e3⟩:=h8 i hi j hj
     exact ⟨u,e1,e2,e3.mono (fun _ _ _=>rfl) (fun _ _ h=>.inl h) (fun _ _ h=>h)⟩
    ·rename_i wr s xs
     replace hc:(wr' = true→wr = true)∧s = s'∧VY o br B xs ys:=hc
     obtain ⟨hw,rfl,hc⟩:=hc
     exact open' wr wr' s xs ys hw hc hok (fun hv=>hnz hv)
  | map ks' vs' c0' =>
    cases x<;>try exact False.elim hc
    rename_i ks vs c0
    obtain ⟨rfl,rfl,hc⟩:ks = ks'∧c0 = c0'∧QE o br B vs vs':=hc
    obtain ⟨h1,es,h3,h4,h5⟩:=hok
    have hlc:=JV hc
    refine ⟨by omega,es,h3,h4,fun i hi hk hv=>?_⟩
    obtain ⟨b1,b2,b3⟩:=h5 i hi hk (by omega)
    exact ⟨b1,b2.mono (fun _ _ _=>rfl) (fun _ _ h=>.inl h) (fun _ _ h=>h),Ug hg br B _ _ _ _ (zi _) b3 (Wp hc i (by omega) hv)⟩
  | iter a since seen last=>cases x<;>exact False.elim hc
 ·obtain ⟨a,x,c1,ha,hx,hm,hβ,hcv,_,_⟩:=kth k y hy
  obtain ⟨a',x',c1',ha',hx',hm',hβ',hcv',_,_⟩:=kth k' y' hy'
  have e1:=hβ.symm.trans hc
  have e2:=hβ'.symm.trans hc'
  cases e1;cases e2
  exact hg.sep a a' x x' c c' (fun e=>hkk (nodup_getElem? hn ha (e ▸ ha'))) hx hx' hm hm' (vQ hcv hlv) (vQ hcv' hlv')
 ·rcases h with h|⟨a,x,c,_,_,hx,hm,hlv,rfl,_⟩
  ·exact hg.zlt b i h
  ·obtain ⟨c',hm',_,hl'⟩:=hg.ob a x hx
   rw [hm] at hm';cases hm'
   exact (hl' hlv).1
 ·rcases h with h|⟨a,x,c,_,_,hx,hm,hlv,rfl,_⟩
  ·exact hg.zsub b i h
  ·obtain ⟨c',hm',_,hl'⟩:=hg.ob a x hx
   rw [hm] at hm';cases hm'
   exact .inr (hl' hlv).2
 ·have hkb:br[k]? = some k:=by
   have:(br.take C.m)[k]? = some k:=by rw [hf];simp [hk]
   rw [List.getElem?_take] at this
   simpa [hk] using this
  simp only [βc,hkb,Option.bind_some]
  exact hg.fix k hk
 ·simp [βc,kY (show br.length≤k by omega)]
end
structure Cl (m:Nat) (s s1:St):Prop where
 h:∃ br B outs,(∀ i,conv s.o br B (s.t i) (s1.t i))∧s1.o = (fun k=>outs[k]?)∧s1.n = outs.length∧anM s.o br B br outs∧br.Nodup∧br.take m = List.range m
theorem Sim.close {C:Ctx} {nt n:Nat} {s s1:St} {a:Act} {w:World} (h:Sim C nt n s a w) (hc:Cl C.m s s1):Sim C nt s1.n s1 a w:=by
 obtain ⟨br,B,outs,h1,h2,h3,h4,h5,h6⟩:=hc.h
 obtain ⟨Z,μ,hg,ht,hf,hm,hd,hn⟩:=h
 obtain ⟨e1,e2,e3⟩:=hg.close h5 h4 h6
 refine ⟨_,_,h2 ▸ e1,fun i=>Ug hg br B _ _ _ _ (zi _) (ht i) (h1 i),by grind,by omega,hd,hn⟩
def stL (ts:List (Nat×V)) (os:List Ob):St:={ t:=jz ts,o:=fun k=>os[k]?,n:=os.length }
theorem aov {o:Nat→Option Ob} {br:List Nat} {B:Option (List Nat)} (v:V):conv o br B v .top:=by cases v<;>simp [conv]
theorem ai4 {m:Nat} {s:St} {ts:List (Nat×V)} {os:List Ob} (br:List Nat) (B:Option (List Nat)) (ht:∀ p∈ts,conv s.o br B (s.t p.1) p.2) (ho:anM s.o br B br os) (hn:br.Nodup) (hf:br.take m = List.range m):Cl m s (stL ts os):=by
 refine ⟨br,B,os,fun i=>?_,rfl,rfl,ho,hn,hf⟩
 rcases vU ts i with h|h
 ·simp only [stL];rw [h];exact aov _
 ·exact ht _ h
section
variable {C:Ctx} {nt:Nat} {s:St} {K:St→Prop} {E:Nat→St→Prop} {R:St→Prop}
theorem ana {c:AC} {s1:St} (hw:Cl C.m s s1) (h:AWp C nt c s1 K E R):AWp C nt c s K E R :=
 fun code hc a w hs=>h code hc a w (hs.close hw)
theorem am9 {x:AC} {ι:Type} (good:ι→Prop) (inv:ι→St) (msr:ι→Nat) (h0:∃ i,good i∧Cl C.m s (inv i))
  (h:∀ i,good i→AWp C nt x (inv i) (fun s'=>∃ i',good i'∧msr i' < msr i∧Cl C.m s' (inv i')) E R):AWp C nt (.loop x) s K E R:=by
 obtain ⟨i0,hg,hw⟩:=h0
 refine ana hw (akb (fun k s'=>∃ i,good i∧msr i = k∧s' = inv i) ⟨msr i0,i0,hg,rfl,rfl⟩ ?_)
 rintro k s' ⟨i,hi,rfl,rfl⟩
 exact fun code hc a w hs=>wp_mono (h i hi code hc a w hs) fun e a' w' hq=>by
  cases e with
  | normal=>obtain ⟨s',⟨i',h1,h2,h3⟩,h4⟩:=hq;exact ⟨inv i',⟨msr i',h2,i',h1,rfl,rfl⟩,h4.close h3⟩
  | exit i=>exact hq
  | ret=>exact hq
  | _=>exact hq.elim
end
end Av
end
section
namespace Av
open Go
inductive Uc where
 | tmp (t:Nat)
 | cell (a:Nat) (agg:Bool) (sz:Nat)
def aow (P:Program):ResultVar→Option Uc
 | .tmp t=>some (.tmp t)
 | .cell a t=>match y0 P t,Js P t with|some g,some s=>some (.cell a g s)|_,_=>none
def aeW (P:Program):List ResultVar→Option (List Uc)
 | []=>some []
 | r :: rs=>match aow P r,aeW P rs with|some a,some b=>some (a :: b)|_,_=>none
def Uc.val (s:St):Uc→AM V
 | .tmp t=>.ret (s.t t)
 | .cell a g sz=>.cellsAt (s.t a) fun cells off =>
    if g then .asrt (off + sz≤cells.length) (.ret (.agg ((cells.drop off).take sz))) else match cells[off]? with|some v=>.ret v|none=>.no
def ahQ (s:St):List Uc→(List V→Prop)→Prop
 | [],K=>K []
 | r :: rs,K=>(r.val s).wp s.o fun v=>ahQ s rs fun vs=>K (v :: vs)
def aih:List V→V
 | [v]=>v
 | vs=>.tup vs
def wu (m:Nat) (rs:List Uc) (res:V) (outs:List Ob) (s:St):Prop :=
 ahQ s rs fun vs=>∃ br B,conv s.o br B (aih vs) res∧anM s.o br B br outs∧br.Nodup∧br.take m = List.range m
def YX (args:List V) (ins:List Ob):St:={ t:=fun i=>(args[i]?).getD .top,o:=fun k=>ins[k]?,n:=ins.length }
def aq5 (a:Act):ResultVar→Sem Value
 | .tmp t=>pure (a.tmps.getD t undef)
 | .cell b t=>do loadVar t (← asAddr (a.tmps.getD b undef))
section
variable {C:Ctx} {w:World} {Z:Nat→Nat→Prop} {μ:Nat→Option Cn}
theorem apN {a:Act} {s:St} (hg:Good C w Z μ s.o) (ht:∀ i,Rep w Z μ (a.tmps.getD i undef) (s.t i)) {r:ResultVar} {x:Uc} (hx:aow C.P r = some x) {K:V→Prop} (h:(x.val s).wp s.o K) :
  ∃ v y,((aq5 a r).run C.P w) = .ok v w∧Rep w Z μ v y∧K y:=by
 cases r with
 | tmp t =>
   simp only [aow,zd] at hx;subst hx
   exact ⟨_,_,rfl,ht t,h⟩
 | cell b t =>
   simp only [aow] at hx
   split at hx
   ·rename_i ag sz h1 h2
    simp only [zd] at hx;subst hx
    obtain ⟨cells,off,bb,oo,f,hv,h,hc⟩:=ado hg (ht b) h
    cases ag with
    | true =>
      simp only [if_true] at h
      obtain ⟨hb,hk⟩:=h
      refine ⟨.agg ((List.range sz).map fun j=>f (off + j)).toArray,_,?_,?_,hk⟩
      ·have:=K9 h1 h2 w bb (oo + off) (fun j=>f (off + j)) (fun j hj=>by
        simp only [if_true] at hj
        rw [ko];exact (hc (off + j) (by omega)).1)
       grind [aq5,asAddr]
      ·refine .agg (by simp;omega) (fun j hj=>?_) (fun j hj hj'=>?_)
       ·grind
       grind
    | false =>
      simp only [zk,if_false] at h
      split at h
      ·rename_i u hu
       obtain ⟨ho,rfl⟩:=zE.1 hu
       refine ⟨f off,_,?_,(hc off ho).2.2,h⟩
       have:=K9 h1 h2 w bb (oo + off) (fun j=>f (off + j)) (fun j hj=>by
        simp at hj;subst hj;exact (hc off ho).1)
       grind [aq5,asAddr]
      ·exact h.elim
   ·cases hx
theorem ajp {a:Act} {s:St} (hg:Good C w Z μ s.o) (ht:∀ i,Rep w Z μ (a.tmps.getD i undef) (s.t i)):∀ {rs:List ResultVar} {xs:List Uc},aeW C.P rs = some xs→∀ {K:List V→Prop},ahQ s xs K →
  ∃ vs ys,(rs.mapM (aq5 a)).run C.P w = .ok vs w∧vs.length = ys.length∧(∀ j (h:j < ys.length) (h':j < vs.length),Rep w Z μ vs[j] ys[j])∧K ys
 | [],xs,hx,K,h=>by
   simp only [aeW,zd] at hx;subst hx
   exact ⟨[],[],rfl,rfl,by grind,h⟩
 | r :: rs,xs,hx,K,h=>by
   simp only [aeW] at hx
   split at hx
   ·rename_i x xs' h1 h2
    simp only [zd] at hx;subst hx
    obtain ⟨v,y,e1,e2,e3⟩:=apN hg ht h1 h
    obtain ⟨vs,ys,f1,f2,f3,f4⟩:=ajp hg ht h2 e3
    refine ⟨v :: vs,y :: ys,?_,by simp [f2],fun j hj hj'=>?_,f4⟩
    ·simp_all
    grind
   ·cases hx
end
structure Has (P:Program) (f:FuncId) (nt:Nat) (ac:AC) (rs:List Uc):Prop where
 has:∃ fn code,P.funcs[f]? = some fn∧fn.name≠"runtime.NumGoroutine"∧fn.body = some code∧fn.ntmps = nt∧xf P nt code = some ac∧aeW P fn.results.toList = some rs
theorem Has.own {P:Program} {f:FuncId} {nt:Nat} {ac:AC} {rs:List Uc} (h:Has P f nt ac rs):Own P f:=by
 obtain ⟨fn,code,h1,h2,h3,_⟩:=h.has
 exact ⟨fn,h1,h2,code,h3⟩
def aqK (m:Nat) (rs:List Uc) (Q:V→List Ob→Prop) (s:St):Prop:=∃ res outs,Q res outs∧wu m rs res outs s
theorem aiY {Γ:Env} {f:FuncId} {nt:Nat} {ac:AC} {rs:List Uc} (hb:Has Γ.P f nt ac rs) {args:List V} {ins:List Ob} {Q:V→List Ob→Prop} (ha:args.length≤nt)
  (h:∀ C:Ctx,C.env = Γ→C.m = ins.length→AWp C nt ac (YX args ins) (aqK ins.length rs Q) (fun _ _=>False) (aqK ins.length rs Q)):EvP Γ f args ins Q:=by
 intro C cargs hP hm hmu hg hF hsz hrep
 have hown:=hb.own
 obtain ⟨fn,code,h1,h2,h3,h4,h5,h6⟩:=hb.has
 subst hP
 rw [Xd hown]
 refine calls_of_wp h1 h3 ?_
 have hs:Sim C nt (YX args ins).n (YX args ins) { tmps:=cargs++Array.replicate (fn.ntmps - cargs.size) undef,defers:=[] } C.w0:=by
  refine ⟨C.Z0,C.μ0,hg,fun i=>?_,fun x hx=>hmu x hx,by simp [YX,hm],rfl,by simp;omega⟩
  simp only [YX]
  rcases Nat.lt_or_ge i args.length with hi|hi
  ·rw [zf hi,Option.getD_some]
   have:=hrep i hi (by omega)
   simpa [Zp,show i < cargs.size by omega] using this
  ·rw [kY hi];exact .top
 refine wp_mono (h C rfl hm code h5 _ _ hs) ?_
 have fin:∀ a' w',(∃ s,aqK ins.length rs Q s∧Sim C nt s.n s a' w')→a'.defers = []∧∃ v,(results fn a'.tmps).run C.P w' = .ok v w' ∧
   ∃ res outs,Q res outs∧∃ u Z' μ',Ending.returned v = .returned u∧Rep w' Z' μ' u res∧Good C w' Z' μ' (fun k=>outs[k]?)∧∀ k,outs.length≤k→μ' k = none:=by
  rintro a' w' ⟨s,⟨res,outs,hQ,he⟩,Z,μ,hg',ht,hf,hm',hd,hn⟩
  refine ⟨hd,?_⟩
  obtain ⟨vs,ys,f1,f2,f3,br,B,f4,f6,f7,f8⟩:=ajp hg' ht h6 he
  refine ⟨if h:vs.toArray.size = 1 then vs.toArray[0] else .tuple vs.toArray,?_,?_⟩
  ·have e:results fn a'.tmps = (do let vs ← fn.results.mapM (aq5 a');pure (if h:vs.size = 1 then vs[0] else .tuple vs)):=by
    unfold results
    congr 1
   rw [e,← Array.toArray_toList (xs:=fn.results),List.mapM_toArray]
   simp_all
  ·have hrep':Rep w' Z μ (if h:vs.toArray.size = 1 then vs.toArray[0] else .tuple vs.toArray) (aih ys):=by
    by_cases h:vs.toArray.size = 1
    ·rw [dif_pos h]
     have hl:vs.length = 1:=by simpa using h
     match ys,f2,f3 with
     | [y],_,f3=>grind [aih]
     | [],f2,_=>grind
     | _ :: _ :: _,f2,_=>grind
    ·rw [dif_neg h]
     have hl:vs.length≠1:=by simpa using h
     have:aih ys = .tup ys:=by
      match ys,f2 with
      | [y],f2=>exact (hl f2).elim
      | [],_=>rfl
      | _ :: _ :: _,_=>rfl
     rw [this]
     exact .tup (by simpa using f2) (fun j h h'=>by simpa using f3 j h (by simpa using h'))
   obtain ⟨e1,e2,e3⟩:=hg'.close (C:=C) f7 f6 (by rw [hm];exact f8)
   exact ⟨res,outs,hQ,_,_,_,rfl,Ug hg' br B _ _ _ _ (zi _) hrep' f4,e1,e2⟩
 intro e a' w' hq
 cases e with
 | normal=>exact fin a' w' hq
 | ret=>exact fin a' w' hq
 | exit i=>obtain ⟨s,h,_⟩:=hq;exact h.elim
 | _=>exact hq.elim
theorem YM {Γ:Env} {f:FuncId} {nt:Nat} {ac:AC} {rs:List Uc} (hb:Has Γ.P f nt ac rs) {args:List V} {ins:List Ob} {res:V} {outs:List Ob} (ha:args.length≤nt)
  (h:∀ C:Ctx,C.env = Γ→C.m = ins.length→AWp C nt ac (YX args ins) (wu ins.length rs res outs) (fun _ _=>False) (wu ins.length rs res outs)):Ev Γ f args ins res outs :=
 (aiY hb ha fun C hC hm=>aka (h C hC hm) (fun s hs=>⟨res,outs,⟨rfl,rfl⟩,hs⟩) (fun _ _ h=>h) (fun s hs=>⟨res,outs,⟨rfl,rfl⟩,hs⟩)).one
end Av
end
section
namespace Av
open Go
mutual
theorem Jx (σ:Nat→Nat):∀ v:V,v.closed→v.ren σ = v
 | .top,_=>rfl
 | .sc _,_=>rfl
 | .nn,_=>rfl
 | .sl _ _,_=>rfl
 | .hd _ _ _,h=>h.elim
 | .ptr _ _,h=>h.elim
 | .ept _ _ _,h=>h.elim
 | .mp _,h=>h.elim
 | .ro _ _,_=>rfl
 | .agg cs,h=>by simp only [V.ren];rw [Q0 σ cs h]
 | .tup cs,h=>by simp only [V.ren];rw [Q0 σ cs h]
 | .clo f cs,h=>by simp only [V.ren];rw [Q0 σ cs h]
theorem Q0 (σ:Nat→Nat):∀ cs:List V,Qa cs→KS σ cs = cs
 | [],_=>rfl
 | v :: r,h=>by simp only [KS];rw [Jx σ v h.1,Q0 σ r h.2]
end
mutual
theorem amY (n:Nat):∀ v:V,v.closed→v.lt n
 | .top,_=>trivial
 | .sc _,_=>trivial
 | .nn,_=>trivial
 | .sl _ _,_=>trivial
 | .hd _ _ _,h=>h.elim
 | .ptr _ _,h=>h.elim
 | .ept _ _ _,h=>h.elim
 | .mp _,h=>h.elim
 | .ro _ _,_=>trivial
 | .agg cs,h=>Xc n cs h
 | .tup cs,h=>Xc n cs h
 | .clo f cs,h=>Xc n cs h
theorem Xc (n:Nat):∀ cs:List V,Qa cs→ltL n cs
 | [],_=>trivial
 | v :: r,h=>⟨amY n v h.1,Xc n r h.2⟩
end
mutual
theorem Ql (o:Nat→Option Ob) (br:List Nat) (B:Option (List Nat)):∀ v:V,v.closed→conv o br B v v
 | .top,_=>by simp [conv]
 | .sc _,_=>by simp [conv]
 | .nn,_=>by simp [conv]
 | .sl _ _,_=>by simp [conv]
 | .hd _ _ _,h=>h.elim
 | .ptr _ _,h=>h.elim
 | .ept _ _ _,h=>h.elim
 | .mp _,h=>h.elim
 | .ro _ _,_=>by simp [conv]
 | .agg cs,h=>by simp only [conv];exact Qc o br B cs h
 | .tup cs,h=>by simp only [conv];exact Qc o br B cs h
 | .clo _ cs,h=>by simp only [conv];exact ⟨trivial,Qc o br B cs h⟩
theorem Qc (o:Nat→Option Ob) (br:List Nat) (B:Option (List Nat)):∀ cs:List V,Qa cs→QE o br B cs cs
 | [],_=>trivial
 | v :: r,h=>⟨Ql o br B v h.1,Qc o br B r h.2⟩
end
theorem ale {s:St}:∀ (rs:List Uc) (K K':List V→Prop),(∀ vs,K vs→K' vs)→ahQ s rs K→ahQ s rs K':=by
 intro rs
 induction rs with
 | nil=>intro K K' hk h;exact hk _ h
 | cons r rs ih =>
   intro K K' hk h
   have wpm:∀ {α:Type} (m:AM α) (Q Q':α→Prop),(∀ x,Q x→Q' x)→m.wp s.o Q→m.wp s.o Q':=by
    intro α m
    induction m with
    | no=>intro _ _ _ h;exact h
    | ret x=>intro _ _ hq h;exact hq _ h
    | asrt p m ih=>intro _ _ hq h;exact ⟨h.1,ih _ _ hq h.2⟩
    | rd a k ih=>intro _ _ hq h;obtain ⟨ob,h1,h2⟩:=h;exact ⟨ob,h1,ih _ _ _ hq h2⟩
    | any k ih=>intro _ _ hq h b;exact ih b _ _ hq (h b)
    | anyN l k ih=>intro _ _ hq h;exact ⟨h.1,fun i hi=>ih i _ _ hq (h.2 i hi)⟩
   exact wpm _ _ _ (fun v hv=>ih _ _ (fun vs hvs=>hk _ hvs) hv) h
theorem akV {rs:List Uc} {res:V} {s:St} (h:ahQ s rs fun vs=>conv s.o [] none (aih vs) res):wu 0 rs res [] s :=
 ale rs _ _ (fun _ hvs=>⟨[],none,hvs,trivial,zV,rfl⟩) h
theorem alc {Γ:Env} {b:Nat} {s:St} {d:Option Nat} {f:FuncId} {acts args:List V} {res:V} {K:St→Prop} (h:Ev Γ f args [] res []) (hc:QE s.o [] none acts args) (hr:res.closed) (hn:res.noSl)
  (hk:K { t:=(s.put d res).t,o:=s.o,n:=s.n }):xM Γ b s d f acts K:=by
 refine Yx ⟨args,[],res,[],[],none,h,hc,trivial,zV,by grind,zi _,by simp [KK],by grind,?_⟩
 rw [Jx _ _ hr]
 exact hk
theorem alb {Γ:Env} {b:Nat} {s:St} {d:Option Nat} {f:FuncId} {acts args:List V} {res:V} {K:St→Prop} (l:List Nat) (h:Ev Γ f args [] res []) (hc:QE s.o [] (some l) acts args) (hr:res.closed)
  (hk:K { t:=(s.put d res).t,o:=j3 (some l) [] s.o,n:=s.n }):xM Γ b s d f acts K:=by
 refine Yx ⟨args,[],res,[],[],some l,h,hc,trivial,zV,by grind,zi _,by simp [KK],fun h=>by simp at h,?_⟩
 rw [Jx _ _ hr]
 exact hk
end Av
end
section
namespace Av
open Go
abbrev Env.T (Γ:Env):Env:=⟨Γ.P,Γ.kn,True⟩
theorem amL {Γ:Env} {f:FuncId} {cv:List Value} {res:Value} {rv:V} (hr:∀ w Z μ,Rep w Z μ res rv)
  (h:∀ w,(∀ b x,Γ.kn b = some x→w.heap[b]? = some x)→Xx Γ.P f cv.toArray w fun e w'=>e = .returned res∧w.heap.size≤w'.heap.size∧(∀ b,b < w.heap.size→w'.heap[b]? = w.heap[b]?)∧Vq Γ.dr w w'):Ev Γ f (cv.map .sc) [] rv []:=by
 intro C cargs hP hm hmu hg hF hsz hrep
 subst hP
 have hargs:cargs = cv.toArray:=by
  apply Array.ext
  ·simpa using hsz
  ·intro i h1 h2
   have:=hrep i (by simpa using h2) h1
   simp only [zH] at this
   simpa using this.scE.1
 subst hargs
 have hk:∀ b x,C.env.kn b = some x→C.w0.heap[b]? = some x:=fun b x h=>(C.hkn b x h).1
 have mono:∀ (e:Ending) (w':World),(e = .returned res∧C.w0.heap.size≤w'.heap.size∧(∀ b,b < C.w0.heap.size→w'.heap[b]? = C.w0.heap[b]?)∧Vq C.dr C.w0 w')→∃ v Z' μ',e = .returned v∧Rep w' Z' μ' v rv∧Good C w' Z' μ' (fun k=>([]:List Ob)[k]?)∧∀ k,([]:List Ob).length≤k→μ' k = none:=by
  rintro e w' ⟨rfl,hsz,hw,hoo⟩
  refine ⟨res,C.Z0,C.μ0,rfl,hr _ _ _,⟨by grind,by grind,fun b i h=>km (hg.zlt b i h) hsz,hsz,fun b hb _=>hw b hb,fun b i h=>.inl h,fun b i h=>h,fun b i h=>by simp [World.cell?,hw b (hg.zlt b i h)],fun k _=>rfl,hoo⟩,by grind⟩
 have:=h C.w0 hk
 simp only [Xx,Ctx.env] at this ⊢
 split at this
 ·exact mono _ _ this
 ·exact Calls.mono this (fun e w' h=>mono e w' h)
 ·exact Rows.mono this (fun v w' h=>mono _ _ h)
 ·exact this.elim
end Av
end
