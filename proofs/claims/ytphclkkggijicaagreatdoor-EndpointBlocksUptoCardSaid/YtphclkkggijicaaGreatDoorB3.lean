/- The heap of the Av kit: what holds of a world and of the objects in it, and how it goes on. -/
import Derived.Test.YtphclkkggijicaaGreatDoorB2
import Derived.Laws.Rows
import Derived.Laws.CopyRow
set_option linter.unusedVariables false
set_option linter.unusedSimpArgs false
section
namespace Av
open Go
structure Ctx where
 P:Program
 w0:World
 Z0:Nat→Nat→Prop
 F:Nat→Prop
 m:Nat
 μ0:Nat→Option Cn
 kn:Nat→Option Obj:=fun _=>none
 dr:Prop:=False
 mix:P.follows .mixedOrders = true
 hkn:∀ b x,kn b = some x→w0.heap[b]? = some x∧¬ F b:=by intro _ _ h;cases h
structure Env where
 P:Program
 kn:Nat→Option Obj
 dr:Prop:=False
def Ctx.env (C:Ctx):Env:=⟨C.P,C.kn,C.dr⟩
def Vq (d:Prop) (w w':World):Prop:=w'.os = w.os∧w'.tape = w.tape∧w'.output = w.output∧(d→w.drawn≤w'.drawn)
theorem Vq.refl {d:Prop} (w:World):Vq d w w:=⟨rfl,rfl,rfl,fun _=>zi _⟩
theorem Vq.trans {d:Prop} {w w1 w2:World} (h:Vq d w w1) (h':Vq d w1 w2):Vq d w w2:=⟨h'.1.trans h.1,h'.2.1.trans h.2.1,h'.2.2.1.trans h.2.2.1,fun x=>kD (h.2.2.2 x) (h'.2.2.2 x)⟩
theorem Vq.mk {d:Prop} {w w':World} (h:w'.os = w.os∧w'.tape = w.tape∧w'.output = w.output∧w.drawn≤w'.drawn:=by exact ⟨rfl,rfl,rfl,by first|exact zi _|exact k8 _ _⟩):Vq d w w':=⟨h.1,h.2.1,h.2.2.1,fun _=>h.2.2.2⟩
structure Good (C:Ctx) (w:World) (Z:Nat→Nat→Prop) (μ:Nat→Option Cn) (o:Nat→Option Ob):Prop where
 ob:∀ a x,o a = some x→∃ c,μ a = some c∧yr w Z μ c x∧(x.live c→c.block < w.heap.size∧(C.w0.heap.size≤c.block∨C.F c.block))
 sep:∀ a b x y c d,a≠b→o a = some x→o b = some y→μ a = some c→μ b = some d→x.live c→y.live d→c.block≠d.block
 zlt:∀ b i,Z b i→b < w.heap.size
 grow:C.w0.heap.size≤w.heap.size
 frame:∀ b,b < C.w0.heap.size→¬ C.F b→w.heap[b]? = C.w0.heap[b]?
 zsub:∀ b i,Z b i→C.Z0 b i∨C.w0.heap.size≤b∨C.F b
 zsup:∀ b i,C.Z0 b i→Z b i
 zkeep:∀ b i,C.Z0 b i→w.cell? ⟨b,i,none⟩ = C.w0.cell? ⟨b,i,none⟩
 fix:∀ k,k < C.m→μ k = C.μ0 k
 oo:Vq C.dr C.w0 w
structure Evo (b K:Nat) (w:World) (Z:Nat→Nat→Prop) (μ:Nat→Option Cn) (w':World) (Z':Nat→Nat→Prop) (μ':Nat→Option Cn):Prop where
 cell:∀ x i,Z x i→w'.cell? ⟨x,i,none⟩ = w.cell? ⟨x,i,none⟩
 zs:∀ x i,Z x i→Z' x i
 mu:∀ a c,μ a = some c→μ' a = some c
 nw:∀ a,a < b∨b + K≤a→μ' a = μ a
theorem Evo.refl {b K:Nat} {w:World} {Z:Nat→Nat→Prop} {μ:Nat→Option Cn}:Evo b K w Z μ w Z μ :=
 ⟨fun _ _ _=>rfl,fun _ _ h=>h,fun _ _ h=>h,fun _ _=>rfl⟩
theorem Evo.trans {b K:Nat} {w w1 w2:World} {Z Z1 Z2:Nat→Nat→Prop} {μ μ1 μ2:Nat→Option Cn}
  (h:Evo b K w Z μ w1 Z1 μ1) (h':Evo b K w1 Z1 μ1 w2 Z2 μ2):Evo b K w Z μ w2 Z2 μ2 :=
 ⟨fun x i hz=>(h'.cell x i (h.zs x i hz)).trans (h.cell x i hz),fun x i hz=>h'.zs x i (h.zs x i hz),fun a c hm=>h'.mu a c (h.mu a c hm),
  fun a ha=>(h'.nw a ha).trans (h.nw a ha)⟩
theorem Evo.rep {b K:Nat} {w w':World} {Z Z':Nat→Nat→Prop} {μ μ':Nat→Option Cn} (h:Evo b K w Z μ w' Z' μ') {v:Value} {x:V}
  (hr:Rep w Z μ v x):Rep w' Z' μ' v x:=hr.mono h.cell h.zs h.mu
theorem Qi {α:Type} (f:Nat→α) (a:Nat) (v:α):upd f a v a = v:=by simp [upd]
theorem QH {α:Type} (f:Nat→α) {a b:Nat} (v:α) (h:b≠a):upd f a v b = f b:=by simp [upd,h]
theorem UV {μ:Nat→Option Cn} {x:Nat} {c:Cn} (hx:μ x = none):∀ a d,μ a = some d→upd μ x (some c) a = some d:=by
 intro a d h
 rw [QH]
 ·exact h
 grind
section
variable {C:Ctx} {w:World} {Z:Nat→Nat→Prop} {μ:Nat→Option Cn} {o:Nat→Option Ob}
theorem Good.heap (h:Good C w Z μ o) {w':World} (hw:w'.heap = w.heap) (ho:Vq C.dr w w':=by exact .mk):Good C w' Z μ o:=by
 have hc:∀ a,w'.cell? a = w.cell? a:=fun a=>by simp [World.cell?,hw]
 refine ⟨fun a x ha=>?_,h.sep,fun b i hz=>by rw [hw];exact h.zlt b i hz,by rw [hw];exact h.grow,fun b hb hf=>by rw [hw];exact h.frame b hb hf,
  h.zsub,h.zsup,fun b i hz=>(hc _).trans (h.zkeep b i hz),h.fix,h.oo.trans ho⟩
 obtain ⟨c,hm,hok,hl⟩:=h.ob a x ha
 refine ⟨c,hm,hok.mono (fun b i _=>hc _) (fun _ _ hz=>hz) (fun _ _ h=>h) (fun _=>by rw [hw]) (fun _ _ h=>h),by grind⟩
theorem Evo.heap {b K:Nat} {w':World} (hw:w'.heap = w.heap):Evo b K w Z μ w' Z μ :=
 ⟨fun x i _=>by simp [World.cell?,hw],fun _ _ h=>h,fun _ _ h=>h,fun _ _=>rfl⟩
theorem Good.free (h:Good C w Z μ o) {x:Nat} (hx:μ x = none):o x = none:=by
 cases ho:o x with
 | none=>rfl
 | some y=>obtain ⟨c,hm,_⟩:=h.ob x y ho;grind
theorem U1 {ob:Obj} {b:Nat} (hb:b < w.heap.size):(w.alloc ob).heap[b]? = w.heap[b]?:=by
 simp only [World.alloc,Array.getElem?_push]
 grind
theorem heap_alloc_new {ob:Obj}:(w.alloc ob).heap[w.heap.size]? = some ob:=by
 grind [World.alloc]
theorem Y0 {ob:Obj} {b i:Nat} (hb:b < w.heap.size):(w.alloc ob).cell? ⟨b,i,none⟩ = w.cell? ⟨b,i,none⟩ :=
 World.cell?_alloc_lt w ob ⟨b,i,none⟩ hb
theorem Evo.alloc {b K:Nat} (hz:∀ x i,Z x i→x < w.heap.size) {ob:Obj} {x:Nat} {c:Cn} (hx:μ x = none) (hb:b≤x) (hk:x < b + K) :
  Evo b K w Z μ (w.alloc ob) Z (upd μ x (some c)) :=
 ⟨fun y i h=>Y0 (hz y i h),fun _ _ h=>h,UV hx,by grind [QH]⟩
theorem Good.alloc (h:Good C w Z μ o) {ob:Obj} {x:Nat} {c:Cn} {y:Ob} (hx:μ x = none) (hc:c.block = w.heap.size) (hm:C.m≤x)
  (hob:yr (w.alloc ob) Z (upd μ x (some c)) c y):Good C (w.alloc ob) Z (upd μ x (some c)) (upd o x (some y)):=by
 have hox:=h.free hx
 refine ⟨fun a z ha=>?_,fun a b p q d e hab hp hq hd he lp lq=>?_,fun b i hz=>by have:=h.zlt b i hz;simp;omega,by have:=h.grow;simp;omega,
  fun b hb hf=>?_,h.zsub,h.zsup,fun b i hz=>?_,fun k hk=>?_,h.oo.trans .mk⟩
 ·by_cases hax:a = x
  ·subst hax
   rw [Qi] at ha;cases ha
   exact ⟨c,Qi _ _ _,hob,fun _=>⟨by simp;omega,.inl (by rw [hc];exact h.grow)⟩⟩
  ·rw [QH _ _ hax] at ha
   obtain ⟨d,hd,hok,hl⟩:=h.ob a z ha
   refine ⟨d,by grind [QH],hok.mono (fun b i hz=>Y0 (h.zlt b i hz)) (fun _ _ h=>h) (UV hx) (fun hlz=>U1 (hl hlz).1) (fun _ _ h=>h),fun hlz=>⟨?_,(hl hlz).2⟩⟩
   have:=(hl hlz).1;simp;omega
 ·by_cases hax:a = x
  ·subst hax
   rw [Qi] at hd;cases hd
   have hbx:b≠a:=fun e=>hab e.symm
   rw [QH _ _ hbx] at hq he
   obtain ⟨e',he',_,hl⟩:=h.ob b q hq
   grind
  ·rw [QH _ _ hax] at hp hd
   by_cases hbx:b = x
   ·subst hbx
    rw [Qi] at he;cases he
    obtain ⟨e',he',_,hl⟩:=h.ob a p hp
    grind
   ·rw [QH _ _ hbx] at hq he
    exact h.sep a b p q d e hab hp hq hd he lp lq
 ·have:=h.grow
  rw [U1 (by omega)];exact h.frame b hb hf
 ·rw [Y0 (h.zlt b i (h.zsup b i hz))];exact h.zkeep b i hz
 ·rw [QH _ _ (by omega)];exact h.fix k hk
theorem Good.nil (h:Good C w Z μ o) {x sz:Nat} (hx:μ x = none) (hm:C.m≤x) :
  Good C w Z (upd μ x (some { block:=0,void:=true })) (upd o x (some (.buf true sz []))):=by
 refine ⟨fun a z ha=>?_,fun a b p q d e hab hp hq hd he lp lq=>?_,h.zlt,h.grow,h.frame,h.zsub,h.zsup,h.zkeep,fun k hk=>?_,h.oo⟩
 ·by_cases hax:a = x
  ·subst hax
   rw [Qi] at ha;cases ha
   exact ⟨_,Qi _ _ _,⟨rfl,by grind⟩,by grind [Ob.live]⟩
  ·rw [QH _ _ hax] at ha
   obtain ⟨d,hd,hok,hl⟩:=h.ob a z ha
   exact ⟨d,by grind [QH],hok.mono (fun _ _ _=>rfl) (fun _ _ h=>h) (UV hx) (fun _=>rfl) (fun _ _ h=>h),hl⟩
 ·by_cases hax:a = x
  ·grind [Qi,Ob.live]
  ·by_cases hbx:b = x
   ·grind [Qi,Ob.live]
   ·rw [QH _ _ hax] at hp hd
    rw [QH _ _ hbx] at hq he
    exact h.sep a b p q d e hab hp hq hd he lp lq
 ·rw [QH _ _ (by omega)];exact h.fix k hk
theorem Evo.name {b K:Nat} {x:Nat} {c:Cn} (hx:μ x = none) (hb:b≤x) (hk:x < b + K):Evo b K w Z μ w Z (upd μ x (some c)) :=
 ⟨fun _ _ _=>rfl,fun _ _ h=>h,UV hx,by grind [QH]⟩
theorem Good.write (h:Good C w Z μ o) {w':World} {a:Nat} {x x':Ob} {c:Cn} (ha:o a = some x) (hm:μ a = some c) (hl:x.live c)
  (hw:∀ b,b≠c.block→w'.heap[b]? = w.heap[b]?) (hs:w'.heap.size = w.heap.size)
  (hz:∀ i,Z c.block i→w'.cell? ⟨c.block,i,none⟩ = w.cell? ⟨c.block,i,none⟩) (hob:yr w' Z μ c x') (hoo:Vq C.dr w w':=by exact .mk) :
  Good C w' Z μ (upd o a (some x')):=by
 obtain ⟨c',hm',_,hlive⟩:=h.ob a x ha
 rw [hm] at hm';cases hm'
 have hcell:∀ b i,Z b i→w'.cell? ⟨b,i,none⟩ = w.cell? ⟨b,i,none⟩:=by
  intro b i hzb
  by_cases hb:b = c.block
  ·grind
  ·simp [World.cell?,hw b hb]
 refine ⟨fun b z hb=>?_,fun b d p q e f hbd hp hq he hf lp lq=>?_,fun b i hzb=>by rw [hs];exact h.zlt b i hzb,by rw [hs];exact h.grow,
  fun b hb hf=>?_,h.zsub,h.zsup,fun b i hzb=>(hcell b i (h.zsup b i hzb)).trans (h.zkeep b i hzb),h.fix,h.oo.trans hoo⟩
 ·by_cases hba:b = a
  ·grind [Qi]
  ·rw [QH _ _ hba] at hb
   obtain ⟨d,hd,hok,hl'⟩:=h.ob b z hb
   refine ⟨d,hd,hok.mono hcell (fun _ _ h=>h) (fun _ _ h=>h) (fun lz=>hw _ ?_) (fun _ _ h=>h),by grind⟩
   exact h.sep b a z x d c hba hb ha hd hm lz hl
 ·have live:∀ {b p e},upd o a (some x') b = some p→μ b = some e→p.live e→∃ p',o b = some p'∧p'.live e:=by
   grind [QH]
  obtain ⟨p',hp',lp'⟩:=live hp he lp
  obtain ⟨q',hq',lq'⟩:=live hq hf lq
  exact h.sep b d p' q' e f hbd hp' hq' he hf lp' lq'
 ·by_cases hbc:b = c.block
  ·grind
  ·rw [hw b hbc];exact h.frame b hb hf
theorem Good.kill (h:Good C w Z μ o) {a:Nat} {x:Ob} (ha:o a = some x):Good C w Z μ (upd o a (some .dead)):=by
 refine ⟨fun b z hb=>?_,fun b d p q e f hbd hp hq he hf lp lq=>?_,h.zlt,h.grow,h.frame,h.zsub,h.zsup,h.zkeep,h.fix,h.oo⟩
 ·by_cases hba:b = a
  ·subst hba
   rw [Qi] at hb;cases hb
   obtain ⟨c,hm,_⟩:=h.ob b x ha
   exact ⟨c,hm,trivial,fun hl=>hl.elim⟩
  ·rw [QH _ _ hba] at hb;exact h.ob b z hb
 ·by_cases hba:b = a
  ·subst hba;rw [Qi] at hp;cases hp;exact lp.elim
  ·by_cases hda:d = a
   ·subst hda;rw [Qi] at hq;cases hq;exact lq.elim
   ·rw [QH _ _ hba] at hp;rw [QH _ _ hda] at hq
    exact h.sep b d p q e f hbd hp hq he hf lp lq
theorem Good.pass (h:Good C w Z μ o) {w':World} {a n:Nat} {x x':Ob} {c c':Cn} (ha:o a = some x) (hm:μ a = some c) (hl:x.live c)
  (hn:μ n = none) (hnm:C.m≤n) (hcc:c'.block = c.block)
  (hw:∀ b,b≠c.block→w'.heap[b]? = w.heap[b]?) (hs:w'.heap.size = w.heap.size)
  (hz:∀ i,Z c.block i→w'.cell? ⟨c.block,i,none⟩ = w.cell? ⟨c.block,i,none⟩) (hob:yr w' Z (upd μ n (some c')) c' x') (hoo:Vq C.dr w w':=by exact .mk) :
  Good C w' Z (upd μ n (some c')) (upd (upd o a (some .dead)) n (some x')):=by
 have g:=(h.write (x':=.dead) ha hm hl hw hs hz trivial hoo)
 have hna:n≠a:=by grind
 have hon:=h.free hn
 obtain ⟨c1,hm1,_,hlive⟩:=h.ob a x ha
 rw [hm] at hm1;cases hm1
 refine ⟨fun b z hb=>?_,fun b d p q e f hbd hp hq he hf lp lq=>?_,g.zlt,g.grow,g.frame,g.zsub,g.zsup,g.zkeep,fun k hk=>?_,g.oo⟩
 ·by_cases hbn:b = n
  ·grind [Qi]
  ·rw [QH _ _ hbn] at hb
   obtain ⟨d,hd,hok,hl'⟩:=g.ob b z hb
   exact ⟨d,by grind [QH],hok.mono (fun _ _ _=>rfl) (fun _ _ h=>h) (UV hn) (fun _=>rfl) (fun _ _ h=>h),hl'⟩
 ·have key:∀ {b p e},b≠n→upd (upd o a (some .dead)) n (some x') b = some p→upd μ n (some c') b = some e→p.live e→c.block≠e.block:=by
   intro b p e hbn hp he lp
   rw [QH _ _ hbn] at hp he
   by_cases hba:b = a
   ·subst hba;rw [Qi] at hp;cases hp;exact lp.elim
   ·rw [QH _ _ hba] at hp
    exact (h.sep a b x p c e (fun e=>hba e.symm) ha hp hm he hl lp)
  by_cases hbn:b = n
  ·grind [Qi]
  ·by_cases hdn:d = n
   ·grind [Qi]
   ·rw [QH _ _ hbn] at hp he
    rw [QH _ _ hdn] at hq hf
    exact g.sep b d p q e f hbd hp hq he hf lp lq
 ·rw [QH _ _ (by omega)];exact g.fix k hk
end
end Av
end
section
namespace Av
open Go
def Row (w:World) (Z:Nat→Nat→Prop) (μ:Nat→Option Cn) (g:Nat→Option Value) (sz:Nat) (xs:List V):Prop :=
 ∀ i (h:i < xs.length),xs[i].cells.length = sz∧∀ j (hj:j < xs[i].cells.length),∃ u,g (i * sz + j) = some u∧u.oneCell' = true∧Rep w Z μ u xs[i].cells[j]
section
variable {w w':World} {Z Z':Nat→Nat→Prop} {μ μ':Nat→Option Cn} {g g':Nat→Option Value} {sz:Nat} {xs ys:List V}
theorem Row.mono (h:Row w Z μ g sz xs) (hr:∀ v x,Rep w Z μ v x→Rep w' Z' μ' v x):Row w' Z' μ' g sz xs :=
 fun i hi=>⟨(h i hi).1,fun j hj=>let ⟨u,a,b,c⟩:=(h i hi).2 j hj;⟨u,a,b,hr _ _ c⟩⟩
theorem Row.congr (h:Row w Z μ g sz xs) (hg:∀ k,k < xs.length * sz→g' k = g k):Row w Z μ g' sz xs:=by
 intro i hi
 refine ⟨(h i hi).1,fun j hj=>?_⟩
 obtain ⟨u,a,b,c⟩:=(h i hi).2 j hj
 refine ⟨u,?_,b,c⟩
 rw [hg];exact a
 have h1:=(h i hi).1
 have:(i + 1) * sz≤xs.length * sz:=zL _ hi
 grind
theorem Row.nil:Row w Z μ g sz []:=fun i hi=>by simp at hi
theorem Row.drop (h:Row w Z μ g sz xs) (n:Nat):Row w Z μ (fun k=>g (n * sz + k)) sz (xs.drop n):=by
 intro i hi
 have hi':n + i < xs.length:=by simp at hi;omega
 have:=h (n + i) hi'
 grind
theorem Row.take (h:Row w Z μ g sz xs) (n:Nat):Row w Z μ g sz (xs.take n):=by
 intro i hi
 have hi':i < xs.length:=by simp at hi;omega
 simp only [List.getElem_take]
 exact h i hi'
theorem Row.append (h:Row w Z μ g sz xs) (h':Row w Z μ (fun k=>g (xs.length * sz + k)) sz ys):Row w Z μ g sz (xs++ys):=by
 intro i hi
 by_cases hx:i < xs.length
 ·simp only [kr hx];exact h i hx
 ·have hx':xs.length≤i:=Nat.le_of_not_lt hx
  have hy:i - xs.length < ys.length:=by simp at hi;omega
  have:=h' (i - xs.length) hy
  simp only [Zb hx']
  refine ⟨this.1,fun j hj=>?_⟩
  obtain ⟨u,a,b,c⟩:=this.2 j hj
  refine ⟨u,?_,b,c⟩
  rw [← a]
  have e:i = xs.length + (i - xs.length):=by omega
  grind
theorem Row.one {e:V} (hl:e.cells.length = sz) (h:∀ j (hj:j < e.cells.length),∃ u,g j = some u∧u.oneCell' = true∧Rep w Z μ u e.cells[j]):Row w Z μ g sz [e]:=by
 intro i hi
 grind
theorem Row.set (h:Row w Z μ g sz xs) {i:Nat} {e:V} (hl:e.cells.length = sz)
  (h1:∀ j (hj:j < e.cells.length),∃ u,g' (i * sz + j) = some u∧u.oneCell' = true∧Rep w Z μ u e.cells[j])
  (h2:∀ k,k < i * sz∨i * sz + sz≤k→g' k = g k):Row w Z μ g' sz (xs.set i e):=by
 intro k hk
 simp only [List.length_set] at hk
 by_cases hki:i = k
 ·grind
 ·simp only [Ze hki]
  refine ⟨(h k hk).1,fun j hj=>?_⟩
  obtain ⟨u,a,b,c⟩:=(h k hk).2 j hj
  refine ⟨u,?_,b,c⟩
  rw [h2,a]
  have:=(h k hk).1
  rcases Nat.lt_or_gt_of_ne hki with h3|h3
  ·right
   have:(i + 1) * sz≤k * sz:=zL _ h3
   grind
  ·left
   have:(k + 1) * sz≤i * sz:=zL _ h3
   grind
theorem Rep.cells {v:Value} {x:V} (h:Rep w Z μ v x) (ht:x≠.top) (hu:∀ vs,x≠.tup vs) :
  v.cells.size = x.cells.length∧∀ j (hj:j < x.cells.length),∃ u,v.cells[j]? = some u∧u.oneCell' = true∧Rep w Z μ u x.cells[j]:=by
 cases h with
 | top=>exact (ht rfl).elim
 | tup hl hr=>grind
 | agg hl ho hr =>
   grind [Value.cells,V.cells]
 | sc h =>
   have hv:v.cells = #[v]:=by cases v<;>simp_all [Value.cells,Value.oneCell']
   refine ⟨by simp [hv,V.cells],fun j hj=>?_⟩
   simp [V.cells] at hj;subst hj
   exact ⟨v,by simp [hv],h,.sc h⟩
 | nn=>exact ⟨rfl,fun j hj=>by simp [V.cells] at hj;subst hj;exact ⟨_,rfl,rfl,.nn⟩⟩
 | sl0=>exact ⟨rfl,fun j hj=>by simp [V.cells] at hj;subst hj;exact ⟨_,rfl,rfl,.sl0⟩⟩
 | sl f h0 h1 h2 h3=>exact ⟨rfl,fun j hj=>by simp [V.cells] at hj;subst hj;exact ⟨_,rfl,rfl,.sl f h0 h1 h2 h3⟩⟩
 | hd h1 h2 =>
   have:∃ a l c,v = .slice a l c:=by
    grind [Hdr]
   obtain ⟨a,l,c,rfl⟩:=this
   exact ⟨rfl,fun j hj=>by simp [V.cells] at hj;subst hj;exact ⟨_,rfl,rfl,.hd h1 h2⟩⟩
 | ptr h=>exact ⟨rfl,fun j hj=>by simp [V.cells] at hj;subst hj;exact ⟨_,rfl,rfl,.ptr h⟩⟩
 | ept h1 h2 h3=>exact ⟨rfl,fun j hj=>by simp [V.cells] at hj;subst hj;exact ⟨_,rfl,rfl,.ept h1 h2 h3⟩⟩
 | mp h1=>exact ⟨rfl,fun j hj=>by simp [V.cells] at hj;subst hj;exact ⟨_,rfl,rfl,.mp h1⟩⟩
 | ro f h1 h2=>exact ⟨rfl,fun j hj=>by simp [V.cells] at hj;subst hj;exact ⟨_,rfl,rfl,.ro f h1 h2⟩⟩
 | clo h1 h2=>exact ⟨rfl,fun j hj=>by simp [V.cells] at hj;subst hj;exact ⟨_,rfl,rfl,.clo h1 h2⟩⟩
 | clm h1 h2=>exact ⟨rfl,fun j hj=>by simp [V.cells] at hj;subst hj;exact ⟨_,rfl,rfl,.clm h1 h2⟩⟩
theorem V.small_ne {x:V} (h:x.small = true):x≠.top∧(∀ vs,x≠.tup vs)∧x.cells = [x]:=by
 cases x<;>simp_all [V.small,V.cells]
theorem Rep.small {v:Value} {x:V} (h:Rep w Z μ v x) (hx:x.small = true):v.oneCell' = true∧v.cells = #[v]:=by
 obtain ⟨h1,h2,h3⟩:=V.small_ne hx
 obtain ⟨hs,hc⟩:=h.cells h1 h2
 have:v.oneCell' = true:=by
  obtain ⟨u,e1,e2,_⟩:=hc 0 (by simp [h3])
  cases v with
  | agg cs =>
    cases h with
    | top=>exact (h1 rfl).elim
    | sc h=>exact h
    | agg _ _ _=>simp [V.small] at hx
    | hd _ hv =>
      grind [Hdr]
  | tuple cs =>
    cases h with
    | top=>exact (h1 rfl).elim
    | sc h=>exact h
    | tup _ _=>simp [V.small] at hx
    | hd _ hv =>
      grind [Hdr]
  | _=>rfl
 refine ⟨this,?_⟩
 cases v<;>simp_all [Value.cells,Value.oneCell']
end
theorem Vp (b o n:Nat):(⟨b,o,none⟩:Addr).add n = ⟨b,o + n,none⟩:=by
 grind [Addr.add]
section
variable {P:Program}
theorem aez {t:TypeId} {g:Bool} (h:y0 P t = some g) (w:World):(isAgg t).run P w = .ok g w:=by
 unfold y0 at h
 cases hu:P.underlying t with
 | none=>simp [hu] at h
 | some d =>
   simp only [hu,Option.map_some,zd] at h
   unfold isAgg
   rw [Sem.run_bind,run_underlying hu w]
   cases d<;>simp_all
theorem Yb {t:TypeId} {n:Nat} (h:Js P t = some n) (w:World):(Go.sizeOf t).run P w = .ok n w:=by
 unfold Js at h
 cases hi:P.info? t with
 | none=>simp [hi] at h
 | some i =>
   simp_all [Option.map_some,zd,Go.sizeOf,typeInfo]
theorem Uz {t:TypeId} {z:Value} (h:KT P t = some z) (w:World):(zeroValue t).run P w = .ok z w:=by
 unfold KT at h
 cases hi:P.info? t with
 | none=>simp [hi] at h
 | some i =>
   simp_all [Option.bind_some,zeroValue,typeInfo]
theorem aeA {t:TypeId} {n:Nat} (h:abE P t = some n) (w:World):∃ i,(typeInfo t).run P w = .ok i w∧i.bytes = n:=by
 unfold abE at h
 cases hi:P.info? t with
 | none=>simp [hi] at h
 | some i =>
   simp_all [Option.map_some,zd,typeInfo]
theorem K9 {t:TypeId} {g:Bool} {n:Nat} (hg:y0 P t = some g) (hn:Js P t = some n) (w:World) (b o:Nat) (f:Nat→Value)
  (h:∀ j,j < (if g then n else 1)→w.cell? ⟨b,o + j,none⟩ = some (f j)) :
  (loadVar t ⟨b,o,none⟩).run P w = .ok (if g then .agg ((List.range n).map f).toArray else f 0) w:=by
 unfold loadVar
 simp only [Sem.run_bind,aez hg w,Result.andThen_ok]
 cases g with
 | true =>
   simp_all [if_true,Sem.run_bind,Yb,Result.andThen_ok,run_loadCells,Vp,Sem.run_pure]
 | false =>
   simp_all
theorem Wo (b:Nat) (t:TypeId) (fr:Nat×Nat):∀ (vs:List Value) (o i:Nat) (cur:Array Value) (w:World),w.heap[b]? = some (.cells cur t fr) →
  (∀ k,k < cur.size→¬ (fr.1≤k∧k < fr.2))→o + i + vs.length≤cur.size→(∀ v∈vs,v.oneCell' = true) →
  ∃ cur',(storeCells ⟨b,o,none⟩ vs i).run P w = .ok () { w with heap:=w.heap.setIfInBounds b (.cells cur' t fr) }∧cur'.size = cur.size ∧
   (∀ k,k < vs.length→cur'[o + i + k]? = vs[k]?)∧(∀ k,k < o + i∨o + i + vs.length≤k→cur'[k]? = cur[k]?)
 | [],o,i,cur,w,hb,_,_,_=>by
   refine ⟨cur,?_,rfl,by grind,fun _ _=>rfl⟩
   simp only [storeCells,Sem.run_pure]
   congr 1
   obtain ⟨hlt,he⟩:=zU.1 hb
   have:w.heap.setIfInBounds b (.cells cur t fr) = w.heap:=by
    grind
   rw [this]
 | v :: rest,o,i,cur,w,hb,hfr,hl,h1=>by
   have hi:o + i < cur.size:=by simp at hl;omega
   have hcell:w.cell? ⟨b,o + i,none⟩ = some cur[o + i]:=by rw [cell?_of_heap hb];grind
   have hfro:w.frozen? ⟨b,o + i,none⟩ = false:=by
    rw [frozen?_of_heap hb]
    grind
   have hset:w.setCell ⟨b,o + i,none⟩ v = { w with heap:=w.heap.setIfInBounds b (.cells (cur.setIfInBounds (o + i) v) t fr) }:=by
    unfold World.setCell
    congr 1
    grind
   have hst:(store ((⟨b,o,none⟩:Addr).add i) v).run P w = .ok () { w with heap:=w.heap.setIfInBounds b (.cells (cur.setIfInBounds (o + i) v) t fr) }:=by
    grind [Vp,run_store]
   obtain ⟨hlt,_⟩:=zU.1 hb
   obtain ⟨cur',e1,e2,e3,e4⟩:=Wo b t fr rest o (i + 1) (cur.setIfInBounds (o + i) v) { w with heap:=w.heap.setIfInBounds b (.cells (cur.setIfInBounds (o + i) v) t fr) }
    (by simp [hlt]) (by simpa using hfr) (by grind) (fun x hx=>h1 x (by simp [hx]))
   refine ⟨cur',?_,by simpa using e2,fun k hk=>?_,fun k hk=>?_⟩
   ·grind [storeCells,Sem.run_bind,Result.andThen_ok,Array.setIfInBounds_setIfInBounds]
   ·cases k with
    | zero =>
      grind
    | succ k =>
      grind
   ·rw [e4 k (by simp at hk;omega),Array.getElem?_setIfInBounds_ne (by simp at hk;omega)]
theorem UI {w:World} {b:Nat} {ob:Obj} (hb:b < w.heap.size) :
  ({ w with heap:=w.heap.setIfInBounds b ob }:World).heap.size = w.heap.size∧({ w with heap:=w.heap.setIfInBounds b ob }:World).heap[b]? = some ob ∧
  ∀ k,k≠b→({ w with heap:=w.heap.setIfInBounds b ob }:World).heap[k]? = w.heap[k]?:=by
 grind
end
end Av
end
section
namespace Av
open Go
def KK:Nat:=1000
def OpV (C:Ctx) (b:Nat) (w:World) (Z:Nat→Nat→Prop) (μ:Nat→Option Cn) (o:Nat→Option Ob) (run:Result Value) (m:AM E):Prop :=
 ∀ K:E→Prop,m.wp o K→∃ e v w' Z' μ',run = .ok v w'∧K e∧Rep w' Z' μ' v e.v∧Good C w' Z' μ' (xv o e.os)∧Evo b KK w Z μ w' Z' μ'
section
variable {C:Ctx} {w:World} {Z:Nat→Nat→Prop} {μ:Nat→Option Cn} {o:Nat→Option Ob} {b:Nat}
theorem Rep.scE {v u:Value} (h:Rep w Z μ v (.sc u)):v = u∧u.oneCell' = true:=by cases h;grind
theorem Rep.aggE {v:Value} {vs:List V} (h:Rep w Z μ v (.agg vs)):∃ cs,v = .agg cs∧cs.size = vs.length∧(∀ j (h:j < cs.size),cs[j].oneCell' = true) ∧
  ∀ j (h:j < vs.length) (h':j < cs.size),Rep w Z μ cs[j] vs[j]:=by cases h;grind
theorem Rep.tupE {v:Value} {vs:List V} (h:Rep w Z μ v (.tup vs)):∃ cs,v = .tuple cs∧cs.size = vs.length ∧
  ∀ j (h:j < vs.length) (h':j < cs.size),Rep w Z μ cs[j] vs[j]:=by cases h;grind
theorem Rep.hdE {v:Value} {a off len:Nat} (h:Rep w Z μ v (.hd a off len)):∃ c,μ a = some c∧Hdr c off len v:=by cases h;grind
theorem Rep.ptrE {v:Value} {a off:Nat} (h:Rep w Z μ v (.ptr a off)):∃ c,μ a = some c∧v = .pointer (some ⟨c.block,off,none⟩):=by cases h;grind
theorem Rep.eptE {v:Value} {a i off:Nat} (h:Rep w Z μ v (.ept a i off)):∃ c,μ a = some c∧c.void = false∧i < c.n∧v = .pointer (some ⟨c.block,c.base + (i * c.sz + off),none⟩):=by
 cases h;grind
theorem Rep.mpE {v:Value} {a:Nat} (h:Rep w Z μ v (.mp a)):∃ c,μ a = some c∧v = .map (some c.block):=by
 cases h;grind
theorem Rep.roE {v:Value} {cells:List V} {off:Nat} (h:Rep w Z μ v (.ro cells off)):∃ bb oo,∃ f:Nat→Value,v = .pointer (some ⟨bb,oo + off,none⟩) ∧
  (∀ j,j < cells.length→w.cell? ⟨bb,oo + j,none⟩ = some (f j)∧Z bb (oo + j)∧(f j).oneCell' = true)∧∀ j (h:j < cells.length),Rep w Z noμ (f j) cells[j]:=by
 cases h;exact ⟨_,_,_,rfl,‹_›,‹_›⟩
theorem Rep.slE {v:Value} {sz:Nat} {xs:List V} (h:Rep w Z μ v (.sl sz xs)):∃ a cap,v = .slice a xs.length cap∧xs.length≤cap ∧
  (xs≠[]→∃ bb oo,a = some ⟨bb,oo,none⟩∧Row w Z noμ (fun k=>w.cell? ⟨bb,oo + k,none⟩) sz xs∧∀ i (h:i < xs.length) j,j < xs[i].cells.length→Z bb (oo + (i * sz + j))):=by
 cases h with
 | sl0=>simp
 | sl f h0 h1 h2 h3=>exact ⟨_,_,rfl,h0,fun _=>⟨_,_,rfl,fun i hi=>by grind,by grind⟩⟩
theorem Rep.cloE {v:Value} {f:FK} {vs:List V} (h:Rep w Z μ v (.clo f vs)):∃ cs,v = f.val cs∧cs.size = vs.length ∧
  ∀ j (h:j < vs.length) (h':j < cs.size),Rep w Z μ cs[j] vs[j]:=by cases h<;>exact ⟨_,rfl,‹_›,‹_›⟩
theorem Rep.cloI {f:FK} {cs:Array Value} {vs:List V} (hl:cs.size = vs.length) (hr:∀ j (h:j < vs.length) (h':j < cs.size),Rep w Z μ cs[j] vs[j]):Rep w Z μ (f.val cs) (.clo f vs):=by
 cases f
 ·exact .clo hl hr
 ·exact .clm hl hr
theorem Rep.nnE {v:Value} (h:Rep w Z μ v .nn):∃ t u,v = .iface t u:=by cases h;grind
theorem aaR {v:Value} (h:v.oneCell' = true):Rep w Z μ v (V.ofV v):=by
 unfold V.ofV
 split
 ·rename_i f first cap
  split
  ·rename_i hc
   simp only [zA,Array.isEmpty_iff] at hc
   obtain ⟨rfl,rfl⟩:=hc
   exact .clo rfl fun j h _=>by simp at h
  ·exact .sc h
 ·exact .sc h
theorem ame {v:Value} (h:v.oneCell' = true):(V.ofV v).cells = [V.ofV v]:=by
 unfold V.ofV;split
 ·split<;>rfl
 ·rfl
theorem wY {α:Type} {cv:Value} {v:V} {k:Int→AM α} {K:α→Prop} (hr:Rep w Z μ cv v) (h:(AM.int v k).wp o K) :
  ∃ kd n,cv = .int kd n∧(k n).wp o K:=by
 unfold AM.int at h
 split at h
 ·obtain ⟨rfl,_⟩:=hr.scE;grind
 ·exact h.elim
theorem afa {α:Type} {cv:Value} {v:V} {k:ByteArray→AM α} {K:α→Prop} (hr:Rep w Z μ cv v) (h:(AM.str v k).wp o K) :
  ∃ s,cv = .string s∧(k s).wp o K:=by
 unfold AM.str at h
 split at h
 ·obtain ⟨rfl,_⟩:=hr.scE;grind
 ·exact h.elim
theorem apj {ν:Nat→Option Cn} {cv:Value} {c:Cn} {wr:Bool} {s sz off len:Nat} {xs:List V} (hh:Hdr c off len cv) (h1:s = sz∨xs = []) (hok:BOk w Z ν c wr s xs) :
  ∃ a cap,cv = .slice a ((xs.drop off).take len).length cap∧((xs.drop off).take len≠[]→∃ bb oo,a = some ⟨bb,oo,none⟩∧Row w Z ν (fun k=>w.cell? ⟨bb,oo + k,none⟩) sz ((xs.drop off).take len)):=by
 obtain ⟨hlen,hok⟩:=hok
 unfold Hdr at hh
 split at hh
 ·grind
 ·rename_i hv
  have hv:c.void = false:=by simpa using hv
  obtain ⟨ad,e,h3,h4,h5⟩:=hh
  obtain ⟨h6,h7,h8,h9,h10,cs,ty,fr,hb,h11,h12,h13⟩:=hok hv
  have hl:((xs.drop off).take len).length = len:=by simp;omega
  refine ⟨some ad,c.cap - off,by rw [hl];exact e,fun hne=>?_⟩
  have hpos:0 < len:=by
   grind
  refine ⟨c.block,c.base + off * c.sz,by rw [h5 (by omega)],?_⟩
  have hs:s = sz:=by
   grind
  subst hs
  have hrow:Row w Z ν (fun k=>w.cell? ⟨c.block,c.base + k,none⟩) s xs:=by
   intro i hi
   refine ⟨h10 i hi,fun j hj=>?_⟩
   obtain ⟨u,e1,e2,e3⟩:=h13 i hi j hj
   rw [h6] at e1
   exact ⟨u,by simp only [cell?_of_heap hb];exact e1,e2,e3⟩
  have:=(hrow.drop off).take len
  grind
theorem akk {α:Type} (hg:Good C w Z μ o) {cv:Value} {v:V} {sz:Nat} {k:Bool→List V→AM α} {K:α→Prop} (hr:Rep w Z μ cv v) (h:(AM.sliceK v sz k).wp o K) :
  ∃ op xs a cap,cv = .slice a xs.length cap∧(k op xs).wp o K ∧
   (xs≠[]→∃ bb oo,a = some ⟨bb,oo,none⟩∧Row w Z (if op = true then μ else noμ) (fun k=>w.cell? ⟨bb,oo + k,none⟩) sz xs):=by
 unfold AM.sliceK at h
 split at h
 ·rename_i s xs
  obtain ⟨a,cap,e,_,hx⟩:=hr.slE
  refine ⟨false,xs,a,cap,e,h.2,fun hne=>?_⟩
  obtain ⟨bb,oo,e1,e2,_⟩:=hx hne
  rcases h.1 with rfl|h1
  ·grind
  grind
 ·rename_i a off len
  obtain ⟨c,hm,hh⟩:=hr.hdE
  obtain ⟨ob,hoa,h⟩:=h
  dsimp only at h
  split at h
  ·rename_i wr s xs
   obtain ⟨h1,h2⟩:=h
   obtain ⟨c',hm',hok,_⟩:=hg.ob a _ hoa
   rw [hm] at hm';cases hm'
   obtain ⟨a',cap,e1,e2⟩:=apj hh h1 hok
   grind
  ·rename_i wr s xs
   obtain ⟨h1,h2⟩:=h
   obtain ⟨c',hm',hok,_⟩:=hg.ob a _ hoa
   rw [hm] at hm';cases hm'
   obtain ⟨a',cap,e1,e2⟩:=apj hh h1 hok
   grind
  ·exact h.elim
 ·obtain ⟨rfl,_⟩:=hr.scE
  exact ⟨false,[],none,0,rfl,h,by grind⟩
 ·exact h.elim
theorem ado {α:Type} (hg:Good C w Z μ o) {cv:Value} {v:V} {k:List V→Nat→AM α} {K:α→Prop} (hr:Rep w Z μ cv v) (h:(AM.cellsAt v k).wp o K) :
  ∃ cells off bb oo,∃ f:Nat→Value,cv = .pointer (some ⟨bb,oo + off,none⟩)∧(k cells off).wp o K ∧
   ∀ j (hj:j < cells.length),w.cell? ⟨bb,oo + j,none⟩ = some (f j)∧(f j).oneCell' = true∧Rep w Z μ (f j) cells[j]:=by
 unfold AM.cellsAt at h
 split at h
 ·rename_i a off
  obtain ⟨c,hm,e⟩:=hr.ptrE
  obtain ⟨ob,hoa,h⟩:=h
  dsimp only at h
  split at h
  ·rename_i wr cells
   obtain ⟨c',hm',hok,_⟩:=hg.ob a _ hoa
   rw [hm] at hm';cases hm'
   obtain ⟨_,⟨cs,ty,hb,hs,hc⟩,_⟩:=hok
   refine ⟨cells,off,c.block,0,fun j=>cs.getD j undef,by simpa using e,h,fun j hj=>?_⟩
   have hj':j < cs.size:=by omega
   rw [cell?_of_heap hb]
   simp_all
  ·rename_i T wr cells
   obtain ⟨c',hm',hok,_⟩:=hg.ob a _ hoa
   rw [hm] at hm';cases hm'
   obtain ⟨_,⟨cs,ty,hb,hs,hc⟩,_⟩:=hok.1
   refine ⟨cells,off,c.block,0,fun j=>cs.getD j undef,by simpa using e,h,fun j hj=>?_⟩
   have hj':j < cs.size:=by omega
   rw [cell?_of_heap hb]
   simp_all
  ·exact h.elim
 ·rename_i a i off
  obtain ⟨c,hm,hv,hi,e⟩:=hr.eptE
  obtain ⟨ob,hoa,h⟩:=h
  have key:∀ wr s xs,BOk w Z μ c wr s xs→AM.wp o K (match xs[i]? with|some e=>k e.cells off|none=>.no) →
    ∃ cells off bb oo,∃ f:Nat→Value,cv = Value.pointer (some ⟨bb,oo + off,none⟩)∧AM.wp o K (k cells off) ∧
     ∀ j (hj:j < cells.length),w.cell? ⟨bb,oo + j,none⟩ = some (f j)∧(f j).oneCell' = true∧Rep w Z μ (f j) cells[j]:=by
   intro wr s xs hok h
   obtain ⟨h6,h7,h8,h9,h10,cs,ty,fr,hb,h11,h12,h13⟩:=hok.2 hv
   split at h
   ·rename_i el hel
    obtain ⟨hix,rfl⟩:=zE.1 hel
    refine ⟨_,off,c.block,c.base + i * c.sz,fun j=>cs.getD (c.base + (i * c.sz + j)) undef,by grind,h,fun j hj=>?_⟩
    obtain ⟨u,e1,e2,e3⟩:=h13 i hix j hj
    rw [cell?_of_heap hb]
    simp_all [ko,Option.getD_some]
   ·exact h.elim
  dsimp only at h
  split at h
  ·rename_i wr s xs
   obtain ⟨c',hm',hok,_⟩:=hg.ob a _ hoa
   rw [hm] at hm';cases hm'
   exact key wr s xs (BOk.lift hok) h
  ·rename_i wr s xs
   obtain ⟨c',hm',hok,_⟩:=hg.ob a _ hoa
   rw [hm] at hm';cases hm'
   exact key wr s xs hok h
  ·exact h.elim
 ·rename_i cells off
  obtain ⟨bb,oo,f,e,h1,h2⟩:=hr.roE
  exact ⟨cells,off,bb,oo,f,e,h,fun j hj=>⟨(h1 j hj).1,(h1 j hj).2.2,(h2 j hj).lift⟩⟩
 ·exact h.elim
theorem anU (hg:Good C w Z μ o) {t:TypeId} {ag:Bool} {sz:Nat} (h1:y0 C.P t = some ag) (h2:Js C.P t = some sz) {cv:Value} {v:V} (hr:Rep w Z μ cv v) :
  OpV C b w Z μ o ((Instr.loadAt t cv).run C.P w) (.cellsAt v fun cells off =>
   if ag then .asrt (off + sz≤cells.length) (.ret { v:=.agg ((cells.drop off).take sz) })
   else match cells[off]? with|some v=>.ret { v }|none=>.no):=by
 intro K h
 obtain ⟨cells,off,bb,oo,f,rfl,h,hc⟩:=ado hg hr h
 cases ag with
 | true =>
   simp only [if_true] at h
   obtain ⟨hb,hk⟩:=h
   refine ⟨_,.agg ((List.range sz).map fun j=>f (off + j)).toArray,w,Z,μ,?_,hk,?_,hg,.refl⟩
   ·have:=K9 h1 h2 w bb (oo + off) (fun j=>f (off + j)) (fun j hj=>by
     simp only [if_true] at hj
     rw [ko];exact (hc (off + j) (by omega)).1)
    simpa [Instr.loadAt,Instr.sureAddr] using this
   ·refine .agg (by simp;omega) (fun j hj=>?_) (fun j hj hj'=>?_)
    ·grind
    grind
 | false =>
   simp only [zk,if_false] at h
   split at h
   ·rename_i u hu
    obtain ⟨ho,rfl⟩:=zE.1 hu
    refine ⟨_,f off,w,Z,μ,?_,h,(hc off ho).2.2,hg,.refl⟩
    have:=K9 h1 h2 w bb (oo + off) (fun j=>f (off + j)) (fun j hj=>by
     simp at hj;subst hj;exact (hc off ho).1)
    simpa [Instr.loadAt,Instr.sureAddr] using this
   ·exact h.elim
theorem am6 (op:BinOp) (k:IntKind) (x y:Int) (t:TypeId) {K:E→Prop} (h:(aoD op k x y).wp o K) :
  ∃ u,(binOp op t (.int k x) (.int k y)).run C.P w = .ok u w∧u.oneCell' = true∧K { v:=.sc u }:=by
 cases op<;>simp only [aoD,AM.wp] at h<;>first
  | exact h.elim
  | (refine ⟨_,?_,rfl,h⟩;simp [binOp,Op.intArith,Op.intCmp];done)
  | (refine ⟨_,?_,rfl,h⟩;simp [binOp,Op.intBits];done)
  | (refine ⟨_,?_,rfl,h.2⟩;simp [binOp,Op.intDiv,h.1];done)
  | (refine ⟨_,?_,rfl,h.2⟩
     obtain ⟨⟨h1,h2⟩,_⟩:=h
     simp only [binOp,Op.shift,if_neg (Int.not_lt.2 h1),kT h2];rfl)
theorem am5 (k k':IntKind) (x y:Int) (t:TypeId) {K:E→Prop} (h:(aoD .shr k x y).wp o K) :
  ∃ u,(binOp .shr t (.int k x) (.int k' y)).run C.P w = .ok u w∧u.oneCell' = true∧K { v:=.sc u }:=by
 simp only [aoD,AM.wp] at h
 refine ⟨_,?_,rfl,h.2⟩
 obtain ⟨⟨h1,h2⟩,_⟩:=h
 simp only [binOp,Op.shift,if_neg (Int.not_lt.2 h1),kT h2];rfl
theorem am4 (op:BinOp) (x y:ByteArray) (t:TypeId) {K:E→Prop} (h:(abF op x y).wp o K) :
  ∃ u,(binOp op t (.string x) (.string y)).run C.P w = .ok u w∧u.oneCell' = true∧K { v:=.sc u }:=by
 cases op<;>simp only [abF,AM.wp] at h<;>first
  | exact h.elim
  | (refine ⟨_,?_,rfl,h⟩;simp [binOp,Op.stringOp];done)
  | (refine ⟨_,?_,rfl,h.2⟩
     have h1:=h.1
     have:¬ ((x.size + y.size:Nat):Int) > IntKind.i64.max:=by
      have e:IntKind.i64.max = 9223372036854775807:=by decide
      rw [e];omega
     simp only [binOp,Op.stringOp,this,if_false];rfl)
end
end Av
end
section
namespace Av
open Go
section
variable {C:Ctx} {w:World} {Z:Nat→Nat→Prop} {μ:Nat→Option Cn} {o:Nat→Option Ob} {b:Nat}
theorem anR (hg:Good C w Z μ o) {c x y:Value} {r:Opd→V} {c' x' y':Opd} (hc:Rep w Z μ c (r c')) (hx:Rep w Z μ x (r x')) (hy:Rep w Z μ y (r y')) :
  OpV C b w Z μ o ((do pure (if ← asBool c then x else y):Sem Value).run C.P w) (sem b r (.pick c' x' y')):=by
 intro K h
 simp only [sem] at h
 split at h
 ·rename_i t ht
  rw [ht] at hc
  obtain ⟨rfl,_⟩:=hc.scE
  refine ⟨_,if t then x else y,w,Z,μ,?_,h,?_,hg,.refl⟩
  ·simp [asBool]
  grind
 ·exact h.elim
theorem aiF (hg:Good C w Z μ o) (hf:∀ x,b≤x→x < b + KK→μ x = none) (hm:C.m≤b) {cells:Array Value} {elem:TypeId} {c:Cn} {y:Ob} {v:Value} {x:V}
  (hc:c.block = w.heap.size) (hob:yr (w.alloc (.cells cells elem)) Z (upd μ b (some c)) c y)
  (hr:Rep (w.alloc (.cells cells elem)) Z (upd μ b (some c)) v x) {K:E→Prop} (hk:K { v:=x,os:=[(b,y)] }) :
  ∃ e v' w' Z' μ',(Result.ok v (w.alloc (.cells cells elem)):Result Value) = .ok v' w'∧K e∧Rep w' Z' μ' v' e.v∧Good C w' Z' μ' (xv o e.os)∧Evo b KK w Z μ w' Z' μ' :=
 ⟨_,v,_,Z,_,rfl,hk,hr,hg.alloc (hf b (zi _) (by simp [KK])) hc hm hob,Evo.alloc hg.zlt (hf b (zi _) (by simp [KK])) (zi _) (by simp [KK])⟩
theorem agM (hg:Good C w Z μ o) {x:Nat} (hx:μ x = none) {ob:Obj} {c:Cn} {v:Value} {y:V} (h:Rep w Z μ v y):Rep (w.alloc ob) Z (upd μ x (some c)) v y :=
 h.mono (fun b i hz=>Y0 (hg.zlt b i hz)) (fun _ _ h=>h) (UV hx)
theorem zx (hg:Good C w Z μ o):∀ i,¬ Z w.heap.size i:=fun i hz=>Nat.lt_irrefl _ (hg.zlt _ _ hz)
theorem apY (hg:Good C w Z μ o) (hf:∀ x,b≤x→x < b + KK→μ x = none) (hm:C.m≤b) {t:TypeId} {ag:Bool} {sz:Nat} {cv:Value} {r:Opd→V} {x:Opd} (hr:Rep w Z μ cv (r x)) :
  OpV C b w Z μ o ((Instr.box t cv).run C.P w) (sem b r (.box ag sz x)):=by
 intro K h
 simp only [sem] at h
 generalize r x = v at h hr
 have hx:=hf b (zi _) (by simp [KK])
 have hrun:(Instr.box t cv).run C.P w = .ok (.pointer (some ⟨w.heap.size,0,none⟩)) (w.alloc (.cells cv.cells t)):=by
  simp [Instr.box,newVar,newRow,newObj,Sem.run]
 rw [hrun]
 have key:∀ cells:List V,(cv.cells.size = cells.length∧∀ j (hj:j < cells.length),∃ u,cv.cells[j]? = some u∧u.oneCell' = true∧Rep w Z μ u cells[j]) →
   K { v:=.ptr b 0,os:=[(b,.box true cells)] }→∃ e v' w' Z' μ',(Result.ok (.pointer (some ⟨w.heap.size,0,none⟩)) (w.alloc (.cells cv.cells t)):Result Value) = .ok v' w'∧K e∧Rep w' Z' μ' v' e.v∧Good C w' Z' μ' (xv o e.os)∧Evo b KK w Z μ w' Z' μ':=by
  intro cells ⟨hs,hc⟩ hk
  refine aiF (c:={ block:=w.heap.size }) hg hf hm rfl ?_ ?_ hk
  ·refine ⟨rfl,⟨cv.cells,t,heap_alloc_new,hs,fun j h h'=>?_⟩,fun _=>zx hg⟩
   obtain ⟨u,e1,e2,e3⟩:=hc j h
   rw [zJ h'] at e1
   cases e1
   exact ⟨agM hg hx e3,e2⟩
  ·exact .ptr (c:={ block:=w.heap.size }) (Qi _ _ _)
 cases ag with
 | true =>
   cases v with
   | agg cs=>exact key cs (by simpa [V.cells] using hr.cells (by simp) (by simp)) h.2
   | _=>exact h.elim
 | false =>
   obtain ⟨⟨h1,h2⟩,h3⟩:(v.small = true∧sz = 1)∧K { v:=.ptr b 0,os:=[(b,.box true [v])] }:=h
   obtain ⟨n1,n2,n3⟩:=V.small_ne h1
   have:=hr.cells n1 n2
   grind
theorem acr:∀ (zs:List ZC) (x:Nat) (w:World) (Z:Nat→Nat→Prop) (μ:Nat→Option Cn) (o:Nat→Option Ob),Good C w Z μ o →
  (∀ z∈zs,z.value.oneCell' = true)→b≤x→x + zs.length≤b + KK→(∀ y,x≤y→y < b + KK→μ y = none)→C.m≤x →
  ∃ μ',Good C w Z μ' (xv o (aqN x zs))∧Evo b KK w Z μ w Z μ'∧(∀ y,y < x→μ' y = μ y)∧(yT x zs).length = zs.length ∧
   ∀ j (h:j < zs.length) (h':j < (yT x zs).length),Rep w Z μ' zs[j].value (yT x zs)[j]
 | [],x,w,Z,μ,o,hg,_,_,_,_,_=>⟨μ,hg,.refl,fun _ _=>rfl,rfl,by grind⟩
 | .val v :: r,x,w,Z,μ,o,hg,h1,hb,hl,hf,hm=>by
   obtain ⟨μ',g,e,lo,el,hr⟩:=acr r (x + 1) w Z μ o hg (fun z hz=>h1 z (by simp [hz])) (by omega) (by simp at hl;omega) (fun y hy=>hf y (by omega)) (by omega)
   refine ⟨μ',g,e,by grind,by simp [yT,el],fun j h h'=>?_⟩
   cases j with
   | zero=>exact aaR (h1 (.val v) (by simp))
   | succ j=>grind [yT]
 | .nil sz :: r,x,w,Z,μ,o,hg,h1,hb,hl,hf,hm=>by
   have hx:μ x = none:=by grind
   obtain ⟨μ',g,e,lo,el,hr⟩:=acr r (x + 1) w Z (upd μ x (some { block:=0,void:=true })) (upd o x (some (.buf true sz []))) (hg.nil hx hm) (fun z hz=>h1 z (by simp [hz])) (by omega) (by simp at hl;omega)
    (fun y hy hy'=>by rw [QH _ _ (by omega)];exact hf y (by omega) hy') (by omega)
   refine ⟨μ',g,(Evo.name hx hb (by simp at hl;omega)).trans e,by grind [QH],by simp [yT,el],fun j h h'=>?_⟩
   cases j with
   | zero =>
     refine Rep.hd (c:={ block:=0,void:=true }) (e.mu _ _ (Qi _ _ _)) ?_
     simp [Hdr,ZC.value]
   | succ j=>grind [yT]
theorem aiz (o:Nat→Option Ob) (l l':List (Nat×Ob)):xv o (l++l') = xv (xv o l) l':=by
 induction l generalizing o with
 | nil=>rfl
 | cons x r ih=>grind [xv]
theorem ama (hg:Good C w Z μ o) (hf:∀ x,b≤x→x < b + KK→μ x = none) (hm:C.m≤b) {t:TypeId} {z:Value} {zs:List ZC} (hz:KT C.P t = some z)
  (hzs:zs.map ZC.value = z.cells.toList) (h1:∀ u∈z.cells.toList,u.oneCell' = true) (hk:zs.length < KK - 1) :
  OpV C b w Z μ o ((Instr.alloc t true (.tuple #[])).run C.P w) (.ret { v:=.ptr b 0,os:=aqN (b + 1) zs++[(b,.box true (yT (b + 1) zs))] }):=by
 intro K hK
 have hrun:(Instr.alloc t true (.tuple #[])).run C.P w = .ok (.pointer (some ⟨w.heap.size,0,none⟩)) (w.alloc (.cells z.cells t)):=by
  simp [Instr.alloc,Uz hz,newVar,newRow,newObj,Sem.run]
 have hone:∀ z∈zs,z.value.oneCell' = true:=by grind
 obtain ⟨μ',g,e,lo,el,hr⟩:=acr (b:=b) zs (b + 1) _ _ _ _ hg hone (by omega) (by grind) (fun y hy hy'=>hf y (by omega) hy') (by omega)
 have hx:μ' b = none:=by grind
 have hlen:z.cells.size = zs.length:=by rw [← Array.length_toList,← hzs,zh]
 rw [hrun]
 refine ⟨_,_,_,Z,upd μ' b (some { block:=w.heap.size }),rfl,hK,.ptr (c:={ block:=w.heap.size }) (Qi _ _ _),?_,?_⟩
 ·rw [aiz]
  refine g.alloc hx rfl hm ⟨rfl,⟨z.cells,t,heap_alloc_new,by rw [el,hlen],fun j h h'=>?_⟩,fun _=>zx g⟩
  have hj:j < zs.length:=by rw [← el];exact h
  have e1:z.cells[j] = zs[j].value:=by
   have:z.cells.toList[j]? = (zs.map ZC.value)[j]?:=by rw [hzs]
   grind
  rw [e1]
  exact ⟨agM g hx (hr j hj h),by grind⟩
 ·exact e.trans (Evo.alloc g.zlt hx (zi _) (by simp [KK]))
theorem akE (hg:Good C w Z μ o) (hf:∀ x,b≤x→x < b + KK→μ x = none) (hm:C.m≤b) {t:TypeId} {z:Value} {r:Opd→V} (hz:KT C.P t = some z) (h1:∀ u∈z.cells.toList,u.oneCell' = true) :
  OpV C b w Z μ o ((Instr.alloc t true (.tuple #[])).run C.P w) (sem b r (.allocT t z.cells.toList)):=fun _ hk=>hk.elim
end
end Av
end
section
namespace Av
open Go
def Xw (w:World) (Z:Nat→Nat→Prop) (μ:Nat→Option Cn) (g:Nat→Option Value) (vs:List V):Prop :=
 ∀ j (hj:j < vs.length),∃ u,g j = some u∧u.oneCell' = true∧Rep w Z μ u vs[j]
section
variable {w:World} {Z:Nat→Nat→Prop} {μ:Nat→Option Cn} {g g' h:Nat→Option Value} {vs cs:List V}
theorem J4 {off:Nat} (hl:off + cs.length≤vs.length):(splice vs off cs).length = vs.length:=by
 simp [splice];omega
theorem Xw.splice {off:Nat} (hv:Xw w Z μ g vs) (hc:Xw w Z μ h cs) (hl:off + cs.length≤vs.length)
  (h1:∀ k,k < cs.length→g' (off + k) = h k) (h2:∀ k,k < off∨off + cs.length≤k→g' k = g k):Xw w Z μ g' (splice vs off cs):=by
 intro j hj
 rw [J4 hl] at hj
 by_cases hlt:j < off
 ·obtain ⟨u,a,b,c⟩:=hv j hj
  grind [Av.splice,List.append_assoc,List.getElem_append_left]
 ·by_cases hlt2:j < off + cs.length
  ·obtain ⟨u,a,b,c⟩:=hc (j - off) (by omega)
   refine ⟨u,by grind,b,?_⟩
   grind [Av.splice,List.append_assoc,List.length_take,Nat.min_eq_left]
  ·obtain ⟨u,a,b,c⟩:=hv j hj
   grind [Av.splice,List.append_assoc,List.length_take,Nat.min_eq_left]
theorem acX (off:Nat):∀ (l:List Value) (s:Nat) (a:Array Value),off + s + l.length≤a.size →
  ((l.zipIdx s).foldl (fun cs p=>cs.setIfInBounds (off + p.2) p.1) a).size = a.size ∧
  (∀ k,k < l.length→((l.zipIdx s).foldl (fun cs p=>cs.setIfInBounds (off + p.2) p.1) a)[off + s + k]? = l[k]?) ∧
  ∀ k,k < off + s∨off + s + l.length≤k→((l.zipIdx s).foldl (fun cs p=>cs.setIfInBounds (off + p.2) p.1) a)[k]? = a[k]?
 | [],s,a,_=>⟨rfl,by grind,fun _ _=>rfl⟩
 | v :: l,s,a,hl=>by
   simp only [List.length_cons] at hl
   obtain ⟨h1,h2,h3⟩:=acX off l (s + 1) (a.setIfInBounds (off + s) v) (by simp;omega)
   simp only [List.zipIdx_cons,List.foldl_cons]
   grind
theorem ajR (place:Nat→Option (Nat×Nat)):∀ (parts:List (Nat×Value)) (ps:List (Nat×List V)) (a:Array Value) (vs:List V),
  a.size = vs.length→Xw w Z μ (fun k=>a[k]?) vs→parts.length = ps.length →
  (∀ i (h:i < parts.length) (h':i < ps.length),place parts[i].1 = some (ps[i].1,parts[i].2.cells.size)∧parts[i].2.cells.size = ps[i].2.length ∧
    ps[i].1 + ps[i].2.length≤vs.length∧Xw w Z μ (fun k=>parts[i].2.cells[k]?) ps[i].2) →
  ∃ a',Instr.fill place a parts = some a'∧a'.size = vs.length∧(afs vs ps).length = vs.length∧Xw w Z μ (fun k=>a'[k]?) (afs vs ps)
 | [],[],a,vs,hs,hc,_,_=>⟨a,rfl,hs,rfl,hc⟩
 | [],_ :: _,_,_,_,_,hl,_=>by simp at hl
 | _ :: _,[],_,_,_,_,hl,_=>by simp at hl
 | (i,v) :: parts,(off,cs) :: ps,a,vs,hs,hc,hl,hp=>by
  obtain ⟨p1,p2,p3,p4⟩:=hp 0 (by simp) (by simp)
  simp only [List.getElem_cons_zero] at p1 p2 p3 p4
  obtain ⟨f1,f2,f3⟩:=acX off v.cells.toList 0 a (by simp;omega)
  simp only [Nat.add_zero,Array.length_toList] at f1 f2 f3
  have hc':=hc.splice (off:=off) (g':=fun k=>((v.cells.toList.zipIdx 0).foldl (fun cs p=>cs.setIfInBounds (off + p.2) p.1) a)[k]?) p4 p3
   (fun k hk=>by rw [f2 k (by omega)];simp) (fun k hk=>f3 k (by omega))
  obtain ⟨a',e1,e2,e3,e4⟩:=ajR place parts ps _ (splice vs off cs) (by grind [J4]) hc' (by simpa using hl) (fun j h h'=>by
   have:=hp (j + 1) (by simpa using h) (by simpa using h')
   simp only [List.getElem_cons_succ] at this
   rw [J4 p3];exact this)
  refine ⟨a',?_,by rw [e2,J4 p3],by grind [afs,J4],e4⟩
  simp only [Instr.fill,p1]
  rw [if_neg (by simp;omega)]
  rw [← e1]
  congr 1
  rw [← Array.foldl_toList,Array.toList_zipIdx]
theorem afe {a:Array Value} (hs:a.size = vs.length) (hc:Xw w Z μ (fun k=>a[k]?) vs):Rep w Z μ (.agg a) (.agg vs):=by
 refine .agg hs (fun j hj=>?_) (fun j hj hj'=>?_)
 ·obtain ⟨u,e1,e2,_⟩:=hc j (by omega)
  grind
 ·obtain ⟨u,e1,_,e3⟩:=hc j hj
  grind
theorem ala {l:List Value} (h:∀ u∈l,u.oneCell' = true):Xw w Z μ (fun k=>l[k]?) (l.map V.ofV):=by
 intro j hj
 grind [List.length_map,List.getElem_mem,aaR]
end
section
variable {C:Ctx} {w:World} {Z:Nat→Nat→Prop} {μ:Nat→Option Cn} {o:Nat→Option Ob} {b:Nat}
theorem acM {P:Program} {fs:Array Field} {ρ:Operand→Value} {r:Opd→V} (hρ:∀ x x',opd x = some x'→Rep w Z μ (ρ x) (r x')) :
  ∀ {ps:List (Nat×Operand)} {qs:List (Nat×Nat×Opd)},aeE P fs ps = some qs→ps.length = qs.length ∧
   ∀ i (h:i < ps.length) (h':i < qs.length),(∃ f,fs[ps[i].1]? = some f∧qs[i].1 = f.offset∧Js P f.type = some qs[i].2.1)∧Rep w Z μ (ρ ps[i].2) (r qs[i].2.2)
 | [],qs,h=>by grind [aeE]
 | (i,x) :: ps,qs,h=>by
  simp only [aeE] at h
  split at h
  ·rename_i f x' r' e1 e2 e3
   split at h
   ·rename_i s e4
    simp only [zd] at h;subst h
    obtain ⟨h1,h2⟩:=acM hρ e3
    grind
   ·cases h
  ·cases h
theorem acN {sz:Nat} {ρ:Operand→Value} {r:Opd→V} (hρ:∀ x x',opd x = some x'→Rep w Z μ (ρ x) (r x')) :
  ∀ {ps:List (Nat×Operand)} {qs:List (Nat×Nat×Opd)},aeF sz ps = some qs→ps.length = qs.length ∧
   ∀ i (h:i < ps.length) (h':i < qs.length),(qs[i].1 = ps[i].1 * sz∧qs[i].2.1 = sz)∧Rep w Z μ (ρ ps[i].2) (r qs[i].2.2)
 | [],qs,h=>by grind [aeF]
 | (i,x) :: ps,qs,h=>by
  simp only [aeF] at h
  split at h
  ·rename_i x' r' e1 e2
   simp only [zd] at h;subst h
   obtain ⟨h1,h2⟩:=acN hρ e2
   grind
  ·cases h
theorem ahI {ρ:Operand→Value} {r:Opd→V} {zs:List Value} (hz:∀ u∈zs,u.oneCell' = true) {ps:List (Nat×Operand)} {qs:List (Nat×Nat×Opd)} (place:Nat→Option (Nat×Nat))
  (hl:ps.length = qs.length) (hp:∀ i (h:i < ps.length) (h':i < qs.length),place ps[i].1 = some (qs[i].1,qs[i].2.1)∧Rep w Z μ (ρ ps[i].2) (r qs[i].2.2))
  (hq:∀ p∈qs,(r p.2.2).cells.length = p.2.1∧p.1 + p.2.1≤zs.length∧r p.2.2≠.top∧∀ vs,r p.2.2≠.tup vs) :
  ∃ a',Instr.fill place zs.toArray (ps.map fun p=>(p.1,ρ p.2)) = some a'∧Rep w Z μ (.agg a') (.agg (afs (zs.map V.ofV) (qs.map fun p=>(p.1,(r p.2.2).cells)))):=by
 obtain ⟨a',e1,e2,e3,e4⟩:=ajR (w:=w) (Z:=Z) (μ:=μ) place (ps.map fun p=>(p.1,ρ p.2)) (qs.map fun p=>(p.1,(r p.2.2).cells)) zs.toArray (zs.map V.ofV) (by simp)
  (by simpa using ala (w:=w) (Z:=Z) (μ:=μ) hz) (by simpa using hl) (fun i h h'=>by
    simp only [zh] at h h'
    obtain ⟨p1,p2⟩:=hp i h h'
    obtain ⟨q1,q2,q3,q4⟩:=hq qs[i] (zN h')
    obtain ⟨c1,c2⟩:=p2.cells q3 q4
    simp only [zH,zh]
    exact ⟨by rw [p1,c1,q1],c1,by rw [q1];exact q2,c2⟩)
 grind [afe]
theorem abP (hg:Good C w Z μ o) {t:TypeId} {z:Value} {fs:Array Field} {ps:Array (Nat×Operand)} {qs:List (Nat×Nat×Opd)} {ρ:Operand→Value} {r:Opd→V}
  (hρ:∀ x x',opd x = some x'→Rep w Z μ (ρ x) (r x')) (hz:KT C.P t = some z) (hu:C.P.underlying t = some (.struct fs)) (hfs:fs.all (fun f=>(Js C.P f.type).isSome) = true)
  (h1:∀ u∈z.cells.toList,u.oneCell' = true) (hq:aeE C.P fs ps.toList = some qs) :
  OpV C b w Z μ o ((Instr.build t (ps.map fun (i,x)=>(i,ρ x))).run C.P w) (.asrt (∀ p∈qs,(r p.2.2).cells.length = p.2.1∧p.1 + p.2.1≤z.cells.toList.length∧r p.2.2≠.top∧∀ vs,r p.2.2≠.tup vs)
   (.ret { v:=.agg (afs (z.cells.toList.map V.ofV) (qs.map fun p=>(p.1,(r p.2.2).cells))) })):=by
 intro K hK
 obtain ⟨hK1,hK2⟩:=hK
 obtain ⟨hl,hp⟩:=acM hρ hq
 have hplaces:∀ (l:List Field),(∀ f∈l,(Js C.P f.type).isSome = true)→(l.mapM (fun f=>do pure (f.offset,← Go.sizeOf f.type):Field→Sem (Nat×Nat))).run C.P w =
   .ok (l.map fun f=>(f.offset,(Js C.P f.type).getD 0)) w:=by
  intro l
  induction l with
  | nil=>intro _;rfl
  | cons f l ih =>
    intro hf
    obtain ⟨n,hn⟩:=Option.isSome_iff_exists.1 (hf f (by simp))
    simp_all [List.mapM_cons,Sem.run_bind,Yb,Result.andThen_ok,Sem.run_pure,zm,Option.getD_some]
 obtain ⟨a',e1,e2⟩:=ahI (ρ:=ρ) (r:=r) h1 (ps:=ps.toList) (qs:=qs) (fun i=>(fs.toList.map fun f=>(f.offset,(Js C.P f.type).getD 0)).toArray[i]?) hl (fun i h h'=>by
  obtain ⟨⟨f,f1,f2,f3⟩,f4⟩:=hp i h h'
  refine ⟨?_,f4⟩
  simp only [kL,zq,Zl,f1,Option.map_some,f3,Option.getD_some,f2]) hK1
 refine ⟨_,.agg a',w,Z,μ,?_,hK2,e2,hg,.refl⟩
 have hpl:=hplaces fs.toList (fun f hf=>by
  rw [Array.all_eq_true_iff_forall_mem] at hfs
  exact hfs f (by simpa using hf))
 have hmap:(ps.map fun (i,x)=>(i,ρ x)).toList = ps.toList.map fun p=>(p.1,ρ p.2):=by simp
 simp only [Instr.build,Sem.run_bind,Uz hz w,Result.andThen_ok,run_underlying hu w,Array.mapM_eq_mapM_toList,Sem.run_map,hpl,hmap]
 simp_all
end
end Av
end
section
namespace Av
open Go
section
variable {C:Ctx} {w:World} {Z:Nat→Nat→Prop} {μ:Nat→Option Cn} {o:Nat→Option Ob} {b:Nat}
theorem acO (hg:Good C w Z μ o) {t e:TypeId} {n sz:Nat} {z:Value} {ps:Array (Nat×Operand)} {qs:List (Nat×Nat×Opd)} {ρ:Operand→Value} {r:Opd→V}
  (hρ:∀ x x',opd x = some x'→Rep w Z μ (ρ x) (r x')) (hz:KT C.P t = some z) (hu:C.P.underlying t = some (.array n e)) (he:Js C.P e = some sz)
  (h1:∀ u∈z.cells.toList,u.oneCell' = true) (hq:aeF sz ps.toList = some qs) :
  OpV C b w Z μ o ((Instr.build t (ps.map fun (i,x)=>(i,ρ x))).run C.P w) (.asrt (∀ p∈qs,(r p.2.2).cells.length = p.2.1∧p.1 + p.2.1≤z.cells.toList.length∧r p.2.2≠.top∧∀ vs,r p.2.2≠.tup vs)
   (.ret { v:=.agg (afs (z.cells.toList.map V.ofV) (qs.map fun p=>(p.1,(r p.2.2).cells))) })):=by
 intro K hK
 obtain ⟨hK1,hK2⟩:=hK
 obtain ⟨hl,hp⟩:=acN hρ hq
 obtain ⟨a',e1,e2⟩:=ahI (ρ:=ρ) (r:=r) h1 (ps:=ps.toList) (qs:=qs) (fun i=>some (i * sz,sz)) hl (fun i h h'=>by
  obtain ⟨⟨f1,f2⟩,f4⟩:=hp i h h'
  exact ⟨by rw [f1,f2],f4⟩) hK1
 refine ⟨_,.agg a',w,Z,μ,?_,hK2,e2,hg,.refl⟩
 have hmap:(ps.map fun (i,x)=>(i,ρ x)).toList = ps.toList.map fun p=>(p.1,ρ p.2):=by simp
 simp only [Instr.build,Sem.run_bind,Uz hz w,Result.andThen_ok,run_underlying hu w,Yb he w,hmap]
 simp_all
theorem aaZ {μ:Nat→Option Cn} (sz:Nat):∀ (parts:List (Nat×Value)) (ps:List (Nat×V)) (a:Array Value) (xs:List V),Row w Z μ (fun k=>a[k]?) sz xs→xs.length * sz≤a.size →
  parts.length = ps.length→(∀ i (h:i < parts.length) (h':i < ps.length),parts[i].1 = ps[i].1∧ps[i].1 < xs.length∧parts[i].2.cells.size = sz∧ps[i].2.cells.length = sz ∧
   Xw w Z μ (fun k=>parts[i].2.cells[k]?) ps[i].2.cells) →
  ∃ a',Instr.fill (fun i=>some (i * sz,sz)) a parts = some a'∧a'.size = a.size∧Row w Z μ (fun k=>a'[k]?) sz (ps.foldl (fun xs p=>xs.set p.1 p.2) xs)
 | [],[],a,xs,hr,_,_,_=>⟨a,rfl,rfl,hr⟩
 | [],_ :: _,_,_,_,_,hl,_=>by simp at hl
 | _ :: _,[],_,_,_,_,hl,_=>by simp at hl
 | (i,v) :: parts,(i',x) :: ps,a,xs,hr,hs,hl,hp=>by
  obtain ⟨p1,p2,p3,p4,p5⟩:=hp 0 (by simp) (by simp)
  simp only [List.getElem_cons_zero] at p1 p2 p3 p4 p5
  subst p1
  have hb:(i + 1) * sz≤xs.length * sz:=zL _ p2
  rw [zK] at hb
  obtain ⟨f1,f2,f3⟩:=acX (i * sz) v.cells.toList 0 a (by simp;omega)
  simp only [Nat.add_zero,Array.length_toList] at f1 f2 f3
  have hr':Row w Z μ (fun k=>((v.cells.toList.zipIdx 0).foldl (fun cs p=>cs.setIfInBounds (i * sz + p.2) p.1) a)[k]?) sz (xs.set i x) :=
   hr.set p4 (fun j hj=>by
    obtain ⟨u,e1,e2,e3⟩:=p5 j hj
    exact ⟨u,by rw [f2 j (by omega)];simpa using e1,e2,e3⟩) (fun k hk=>f3 k (by omega))
  obtain ⟨a',e1,e2,e3⟩:=aaZ sz parts ps _ (xs.set i x) hr' (by grind) (by simpa using hl) (fun j h h'=>by
   have:=hp (j + 1) (by simpa using h) (by simpa using h')
   simp only [List.getElem_cons_succ] at this
   rw [List.length_set];exact this)
  refine ⟨a',?_,by rw [e2,f1],e3⟩
  simp only [Instr.fill]
  rw [if_neg (by simp;omega),← e1]
  congr 1
  rw [← Array.foldl_toList,Array.toList_zipIdx]
theorem yW (ps:List (Nat×V)):∀ xs:List V,(ps.foldl (fun xs p=>xs.set p.1 p.2) xs).length = xs.length:=by
 induction ps with
 | nil=>intro _;rfl
 | cons p ps ih=>intro xs;simp [ih]
theorem an8 {ag:Bool} {sz:Nat} {zs:List Value} (hs:zs.length = sz) (h1:ag = false→sz = 1) (hone:∀ u∈zs,u.oneCell' = true) :
  (V.mk ag (zs.map V.ofV)).cells = zs.map V.ofV:=by
 cases ag with
 | true=>simp [V.mk,V.cells]
 | false =>
   have:=h1 rfl
   subst this
   match zs,hs with
   | [z],_=>grind [V.mk,ame]
theorem aij {μ:Nat→Option Cn} {ag:Bool} {sz n m:Nat} {zs:Array Value} (hs:zs.size = sz) (h1:ag = false→sz = 1) (hone:∀ u∈zs.toList,u.oneCell' = true) (hnm:n * sz≤m) :
  Row w Z μ (fun k=>((Array.range m).map (fun k=>zs[k % zs.size]!))[k]?) sz (List.replicate n (V.mk ag (zs.toList.map V.ofV))):=by
 intro i hi
 simp only [List.length_replicate] at hi
 have hc:=an8 (ag:=ag) (zs:=zs.toList) (sz:=sz) (by simpa using hs) h1 hone
 simp only [List.getElem_replicate]
 have hb:(i + 1) * sz≤n * sz:=zL _ hi
 rw [zK] at hb
 have e0:∀ j,j < sz→((Array.range m).map (fun k=>zs[k % zs.size]!))[i * sz + j]? = some zs[j]!:=by
  intro j hj
  rw [Array.getElem?_map,Array.getElem?_range,if_pos (by omega),Option.map_some,hs]
  rw [Nat.mul_comm,Nat.mul_add_mod,Nat.mod_eq_of_lt hj]
 grind [V.mk,V.ofV,getElem,aaR]
theorem wV {ρ:Operand→Value} {r:Opd→V} (hρ:∀ x x',opd x = some x'→Rep w Z μ (ρ x) (r x')) :
  ∀ {ps:List (Nat×Operand)} {qs:List (Nat×Opd)},acL ps = some qs→ps.length = qs.length ∧
   ∀ i (h:i < ps.length) (h':i < qs.length),ps[i].1 = qs[i].1∧Rep w Z μ (ρ ps[i].2) (r qs[i].2)
 | [],qs,h=>by grind [acL]
 | (i,x) :: ps,qs,h=>by
  simp only [acL] at h
  split at h
  ·rename_i x' r' e1 e2
   simp only [zd] at h;subst h
   obtain ⟨h1,h2⟩:=wV hρ e2
   grind
  ·cases h
theorem ap2 (hg:Good C w Z μ o) (hf:∀ x,b≤x→x < b + KK→μ x = none) (hm:C.m≤b) {cells:Array Value} {e:TypeId} {sz cap:Nat} {xs:List V}
  (hr:Row w Z noμ (fun k=>cells[k]?) sz xs) (hl:xs.length≤cap∧(true = true→cap < 2 ^ 63)) (hs:cap * sz≤cells.size) {K:E→Prop} (hk:K { v:=.hd b 0 xs.length,os:=[(b,.buf true sz xs)] }) :
  ∃ e' v' w' Z' μ',(Result.ok (.slice (some ⟨w.heap.size,0,none⟩) xs.length cap) (w.alloc (.cells cells e)):Result Value) = .ok v' w'∧K e'∧Rep w' Z' μ' v' e'.v ∧
   Good C w' Z' μ' (xv o e'.os)∧Evo b KK w Z μ w' Z' μ':=by
 have hx:=hf b (zi _) (by simp [KK])
 refine aiF (c:={ block:=w.heap.size,base:=0,cap,sz,n:=xs.length }) hg hf hm rfl ?_ ?_ hk
 ·refine ⟨rfl,fun _=>⟨rfl,hl,fun _=>zx hg,fun i hz=>((zx hg i) hz).elim,fun i hi=>(hr i hi).1,cells,e,(0,0),heap_alloc_new,by simpa using hs,fun k _=>by omega,fun i hi j hj=>?_⟩⟩
  obtain ⟨u,e1,e2,e3⟩:=(hr i hi).2 j hj
  exact ⟨u,by simpa using e1,e2,e3.mono (fun b i hz=>Y0 (hg.zlt b i hz)) (fun _ _ h=>h) (fun _ _ h=>h)⟩
 ·refine .hd (c:={ block:=w.heap.size,base:=0,cap,sz,n:=xs.length }) (Qi _ _ _) ?_
  simp [Hdr]
theorem akC (hg:Good C w Z μ o) (hf:∀ x,b≤x→x < b + KK→μ x = none) (hm:C.m≤b) {t e:TypeId} {n sz:Nat} {ag:Bool} {z:Value} {ps:Array (Nat×Operand)} {qs:List (Nat×Opd)}
  {ρ:Operand→Value} {r:Opd→V} (hρ:∀ x x',opd x = some x'→Rep w Z μ (ρ x) (r x')) (hu:C.P.underlying t = some (.slice e)) (he:Js C.P e = some sz) (hz:KT C.P e = some z)
  (h24:n * sz≤2 ^ 24) (h0:1≤sz) (hzs:z.cells.size = sz) (h1:ag = false→sz = 1) (hone:∀ u∈z.cells.toList,u.oneCell' = true) (hq:acL ps.toList = some qs) :
  OpV C b w Z μ o ((Instr.buildSlice t n (ps.map fun (i,x)=>(i,ρ x))).run C.P w) (.asrt (∀ p∈qs,p.1 < n∧xH ag sz (r p.2)∧(r p.2).closed)
   (.ret { v:=.hd b 0 n,os:=[(b,.buf true sz (KC n (V.mk ag (z.cells.toList.map V.ofV)) (qs.map fun p=>(p.1,r p.2))))] })):=by
 intro K hK
 obtain ⟨hK1,hK2⟩:=hK
 obtain ⟨hl,hp⟩:=wV hρ hq
 have hrow:Row w Z noμ (fun k=>((Array.range (n * sz)).map (fun k=>(if n * sz = 0 then #[] else z.cells)[k % (if n * sz = 0 then (#[]:Array Value) else z.cells).size]!))[k]?) sz
   (List.replicate n (V.mk ag (z.cells.toList.map V.ofV))):=by
  by_cases hn:n * sz = 0
  ·have:n = 0:=by
    rcases Nat.mul_eq_zero.1 hn with h|h
    ·exact h
    ·omega
   grind [Row.nil]
  ·simp only [hn,if_false]
   exact aij hzs h1 hone (zi _)
 obtain ⟨a',e1,e2,e3⟩:=aaZ (w:=w) (Z:=Z) (μ:=noμ) sz (ps.toList.map fun p=>(p.1,ρ p.2)) (qs.map fun p=>(p.1,r p.2)) _ _ hrow (by simp) (by simpa using hl) (fun i h h'=>by
  simp only [zh] at h h'
  obtain ⟨p1,p2⟩:=hp i h h'
  obtain ⟨q1,q2,q3⟩:=hK1 qs[i] (zN h')
  have hcr:∀ v x,Rep w Z noμ v x→xH ag sz x→v.cells.size = sz∧x.cells.length = sz∧Xw w Z noμ (fun k=>v.cells[k]?) x.cells:=by
   intro v x hr hx
   cases ag with
   | true =>
     cases x with
     | agg cs =>
       have:=hr.cells (by simp) (by simp)
       simp only [V.cells] at this ⊢
       have hx:cs.length = sz:=hx
       exact ⟨by omega,hx,this.2⟩
     | _=>exact hx.elim
   | false =>
     have hx:x.small = true:=hx
     obtain ⟨n1,n2,n3⟩:=V.small_ne hx
     have hc:=hr.cells n1 n2
     have h1':=h1 rfl
     have e:x.cells.length = 1:=by rw [n3];rfl
     exact ⟨by omega,by omega,hc.2⟩
  obtain ⟨c1,c2,c3⟩:=hcr _ _ (p2.close q3) q2
  grind)
 have hmap:(ps.map fun (i,x)=>(i,ρ x)).toList = ps.toList.map fun p=>(p.1,ρ p.2):=by simp
 have hlen:(KC n (V.mk ag (z.cells.toList.map V.ofV)) (qs.map fun p=>(p.1,r p.2))).length = n:=by
  unfold KC;rw [yW];simp
 have hrun:(Instr.buildSlice t n (ps.map fun (i,x)=>(i,ρ x))).run C.P w = .ok (.slice (some ⟨w.heap.size,0,none⟩) n n) (w.alloc (.cells a' e)):=by
  have h24':¬ n * sz > 2 ^ 24:=by omega
  simp only [Instr.buildSlice,Sem.run_bind,run_underlying hu w,Result.andThen_ok,Yb he w,h24',if_false]
  by_cases hn:n * sz = 0
  ·simp_all [if_true,Sem.run_bind,Sem.run_pure,Result.andThen_ok,newRow,newObj,Sem.run]
  simp_all [if_false,Sem.run_bind,Sem.run_pure,Result.andThen_ok,Uz,newRow,newObj,Sem.run]
 rw [hrun]
 have hnn:n≤n * sz:=Nat.le_mul_of_pos_right n (by omega)
 have:=ap2 hg hf hm (cells:=a') (e:=e) (cap:=n) (xs:=KC n (V.mk ag (z.cells.toList.map V.ofV)) (qs.map fun p=>(p.1,r p.2))) e3 ⟨by omega,fun _=>by omega⟩ (by rw [e2];simp) (K:=K) (by rw [hlen];exact hK2)
 rwa [hlen] at this
theorem an7 (hg:Good C w Z μ o) (hf:∀ x,b≤x→x < b + KK→μ x = none) (hm:C.m≤b) {cells:Array Value} {e:TypeId} {sz cap:Nat} {xs:List V}
  (hr:Row w Z μ (fun k=>cells[k]?) sz xs) (hl:xs.length≤cap∧(true = true→cap < 2 ^ 63)) (hs:cap * sz≤cells.size) {K:E→Prop} (hk:K { v:=.hd b 0 xs.length,os:=[(b,.obuf true sz xs)] }) :
  ∃ e' v' w' Z' μ',(Result.ok (.slice (some ⟨w.heap.size,0,none⟩) xs.length cap) (w.alloc (.cells cells e)):Result Value) = .ok v' w'∧K e'∧Rep w' Z' μ' v' e'.v ∧
   Good C w' Z' μ' (xv o e'.os)∧Evo b KK w Z μ w' Z' μ':=by
 have hx:=hf b (zi _) (by simp [KK])
 refine aiF (c:={ block:=w.heap.size,base:=0,cap,sz,n:=xs.length }) hg hf hm rfl ?_ ?_ hk
 ·refine ⟨rfl,fun _=>⟨rfl,hl,fun _=>zx hg,fun i hz=>((zx hg i) hz).elim,fun i hi=>(hr i hi).1,cells,e,(0,0),heap_alloc_new,by simpa using hs,fun k _=>by omega,fun i hi j hj=>?_⟩⟩
  obtain ⟨u,e1,e2,e3⟩:=(hr i hi).2 j hj
  exact ⟨u,by simpa using e1,e2,e3.mono (fun b i hz=>Y0 (hg.zlt b i hz)) (fun _ _ h=>h) (UV hx)⟩
 ·refine .hd (c:={ block:=w.heap.size,base:=0,cap,sz,n:=xs.length }) (Qi _ _ _) ?_
  simp [Hdr]
theorem aiA (hg:Good C w Z μ o) (hf:∀ x,b≤x→x < b + KK→μ x = none) (hm:C.m≤b) {t e:TypeId} {n sz:Nat} {ag:Bool} {z:Value} {ps:Array (Nat×Operand)} {qs:List (Nat×Opd)}
  {ρ:Operand→Value} {r:Opd→V} (hρ:∀ x x',opd x = some x'→Rep w Z μ (ρ x) (r x')) (hu:C.P.underlying t = some (.slice e)) (he:Js C.P e = some sz) (hz:KT C.P e = some z)
  (h24:n * sz≤2 ^ 24) (h0:1≤sz) (hzs:z.cells.size = sz) (h1:ag = false→sz = 1) (hone:∀ u∈z.cells.toList,u.oneCell' = true) (hq:acL ps.toList = some qs) :
  OpV C b w Z μ o ((Instr.buildSlice t n (ps.map fun (i,x)=>(i,ρ x))).run C.P w) (.asrt (∀ p∈qs,p.1 < n∧xH ag sz (r p.2))
   (.ret { v:=.hd b 0 n,os:=[(b,.obuf true sz (KC n (V.mk ag (z.cells.toList.map V.ofV)) (qs.map fun p=>(p.1,r p.2))))] })):=by
 intro K hK
 obtain ⟨hK1,hK2⟩:=hK
 obtain ⟨hl,hp⟩:=wV hρ hq
 have hrow:Row w Z μ (fun k=>((Array.range (n * sz)).map (fun k=>(if n * sz = 0 then #[] else z.cells)[k % (if n * sz = 0 then (#[]:Array Value) else z.cells).size]!))[k]?) sz
   (List.replicate n (V.mk ag (z.cells.toList.map V.ofV))):=by
  by_cases hn:n * sz = 0
  ·have:n = 0:=by
    rcases Nat.mul_eq_zero.1 hn with h|h
    ·exact h
    ·omega
   grind [Row.nil]
  ·simp only [hn,if_false]
   exact aij hzs h1 hone (zi _)
 obtain ⟨a',e1,e2,e3⟩:=aaZ (w:=w) (Z:=Z) (μ:=μ) sz (ps.toList.map fun p=>(p.1,ρ p.2)) (qs.map fun p=>(p.1,r p.2)) _ _ hrow (by simp) (by simpa using hl) (fun i h h'=>by
  simp only [zh] at h h'
  obtain ⟨p1,p2⟩:=hp i h h'
  obtain ⟨q1,q2⟩:=hK1 qs[i] (zN h')
  have hcr:∀ v x,Rep w Z μ v x→xH ag sz x→v.cells.size = sz∧x.cells.length = sz∧Xw w Z μ (fun k=>v.cells[k]?) x.cells:=by
   intro v x hr hx
   cases ag with
   | true =>
     cases x with
     | agg cs =>
       have:=hr.cells (by simp) (by simp)
       simp only [V.cells] at this ⊢
       have hx:cs.length = sz:=hx
       exact ⟨by omega,hx,this.2⟩
     | _=>exact hx.elim
   | false =>
     have hx:x.small = true:=hx
     obtain ⟨n1,n2,n3⟩:=V.small_ne hx
     have hc:=hr.cells n1 n2
     have h1':=h1 rfl
     have e:x.cells.length = 1:=by rw [n3];rfl
     exact ⟨by omega,by omega,hc.2⟩
  grind)
 have hmap:(ps.map fun (i,x)=>(i,ρ x)).toList = ps.toList.map fun p=>(p.1,ρ p.2):=by simp
 have hlen:(KC n (V.mk ag (z.cells.toList.map V.ofV)) (qs.map fun p=>(p.1,r p.2))).length = n:=by
  unfold KC;rw [yW];simp
 have hrun:(Instr.buildSlice t n (ps.map fun (i,x)=>(i,ρ x))).run C.P w = .ok (.slice (some ⟨w.heap.size,0,none⟩) n n) (w.alloc (.cells a' e)):=by
  have h24':¬ n * sz > 2 ^ 24:=by omega
  simp only [Instr.buildSlice,Sem.run_bind,run_underlying hu w,Result.andThen_ok,Yb he w,h24',if_false]
  by_cases hn:n * sz = 0
  ·simp_all [if_true,Sem.run_bind,Sem.run_pure,Result.andThen_ok,newRow,newObj,Sem.run]
  simp_all [if_false,Sem.run_bind,Sem.run_pure,Result.andThen_ok,Uz,newRow,newObj,Sem.run]
 rw [hrun]
 have hnn:n≤n * sz:=Nat.le_mul_of_pos_right n (by omega)
 have:=an7 hg hf hm (cells:=a') (e:=e) (cap:=n) (xs:=KC n (V.mk ag (z.cells.toList.map V.ofV)) (qs.map fun p=>(p.1,r p.2))) e3 ⟨by omega,fun _=>by omega⟩ (by rw [e2];simp) (K:=K) (by rw [hlen];exact hK2)
 rwa [hlen] at this
end
end Av
end
section
namespace Av
open Go
section
variable {C:Ctx} {w:World} {Z:Nat→Nat→Prop} {μ:Nat→Option Cn} {o:Nat→Option Ob} {b:Nat}
theorem U3 {P:Program} (op:BinOp) (t:TypeId) (x y:Operand) (a c:Value) (h1:∀ u,a≠.agg u) (h2:a≠.nilIface):(eqGuard op t x y a c).run P w = .ok () w:=by
 unfold eqGuard
 cases op<;>cases a<;>simp_all
theorem al9 (hg:Good C w Z μ o) {t:TypeId} {op:BinOp} {x y:Operand} {cx cy:Value} {r:Opd→V} {x' y':Opd} (hx:Rep w Z μ cx (r x')) (hy:Rep w Z μ cy (r y')) :
  OpV C b w Z μ o ((do eqGuard op t x y cx cy;binOp op t cx cy:Sem Value).run C.P w) (sem b r (.bin op x' y')):=by
 intro K h
 simp only [sem] at h
 split at h
 ·rename_i k a k' c h1 h2
  rw [h1] at hx;rw [h2] at hy
  split at h
  ·rename_i hs
   subst hs
   obtain ⟨rfl,_⟩:=hx.scE
   obtain ⟨rfl,_⟩:=hy.scE
   obtain ⟨u,e1,e2,e3⟩:=am5 (C:=C) (w:=w) k k' a c t h
   exact ⟨_,u,w,Z,μ,by simp_all [Sem.run_bind,U3],e3,.sc e2,hg,.refl⟩
  obtain ⟨rfl,h⟩:=h
  obtain ⟨rfl,_⟩:=hx.scE
  obtain ⟨rfl,_⟩:=hy.scE
  obtain ⟨u,e1,e2,e3⟩:=am6 (C:=C) (w:=w) op k a c t h
  exact ⟨_,u,w,Z,μ,by simp_all [Sem.run_bind,U3],e3,.sc e2,hg,.refl⟩
 ·rename_i a c h1 h2
  rw [h1] at hx;rw [h2] at hy
  obtain ⟨rfl,_⟩:=hx.scE
  obtain ⟨rfl,_⟩:=hy.scE
  obtain ⟨u,e1,e2,e3⟩:=am4 (C:=C) (w:=w) op a c t h
  exact ⟨_,u,w,Z,μ,by simp_all [Sem.run_bind,U3],e3,.sc e2,hg,.refl⟩
 ·exact h.elim
theorem al7 (hg:Good C w Z μ o) {t:TypeId} {neg:Bool} {x y:Operand} {cx cy:Value} {r:Opd→V} {x' y':Opd} (hu:C.P.underlying t = some .bool) (hx:Rep w Z μ cx (r x')) (hy:Rep w Z μ cy (r y')) :
  OpV C b w Z μ o ((do eqGuard (if neg then .neq else .eql) t x y cx cy;binOp (if neg then .neq else .eql) t cx cy:Sem Value).run C.P w)
   (sem b r (.eqb neg x' y')):=by
 intro K h
 simp only [sem] at h
 split at h
 ·rename_i a c h1 h2
  rw [h1] at hx;rw [h2] at hy
  obtain ⟨rfl,_⟩:=hx.scE
  obtain ⟨rfl,_⟩:=hy.scE
  refine ⟨_,.bool (if neg then a != c else a == c),w,Z,μ,?_,h,.sc rfl,hg,.refl⟩
  have he:(Op.equal t (.bool a) (.bool c)).run C.P w = .ok (a == c) w:=by
   have key:∀ d,(Op.equalIn (d + 1) t (.bool a) (.bool c)).run C.P w = .ok (a == c) w:=fun d=>by simp [Op.equalIn,run_underlying hu w]
   exact key 9999
  cases neg<;>simp [Sem.run_bind,U3 _ t x y (.bool a) (.bool c) (by simp) (by simp),binOp,he,bne]
 ·exact h.elim
theorem W9 {P:Program} (op:BinOp) (t:TypeId) (x y:Operand) (a c:Value) (h1:∀ u,a≠.agg u) (hy:∃ u,y = .const u):(eqGuard op t x y a c).run P w = .ok () w:=by
 obtain ⟨u,rfl⟩:=hy
 unfold eqGuard
 cases op<;>cases a<;>simp_all<;>(cases c<;>simp_all)
theorem acB {P:Program} {t:TypeId} {neg:Bool} {x:Operand} {e:TypeId} (h:P.underlying t = some (.slice e)) (a:Option Addr) (l c:Nat) :
  ((do eqGuard (if neg then .neq else .eql) t x (.const (.slice none 0 0)) (.slice a l c) (.slice none 0 0);binOp (if neg then .neq else .eql) t (.slice a l c) (.slice none 0 0):Sem Value)).run P w
    = .ok (.bool (if neg then !a.isNone else a.isNone)) w:=by
 have he:(Op.equal t (.slice a l c) (.slice none 0 0)).run P w = .ok a.isNone w:=by
  have key:∀ d,(Op.equalIn (d + 1) t (.slice a l c) (.slice none 0 0)).run P w = .ok a.isNone w:=fun d=>by cases a<;>simp [Op.equalIn,run_underlying h w]
  exact key 9999
 cases neg<;>simp [Sem.run_bind,W9 _ t x (.const (.slice none 0 0)) (.slice a l c) (.slice none 0 0) (by simp) ⟨_,rfl⟩,binOp,he]
theorem acC {P:Program} {t:TypeId} {neg:Bool} {x:Operand} {e:Array (String×TypeId)} (h:P.underlying t = some (.interface e)) {cx:Value} {r:Bool}
  (hr:cx = .nilIface∧r = true∨(∃ t u,cx = .iface t u)∧r = false) :
  ((do eqGuard (if neg then .neq else .eql) t x (.const .nilIface) cx .nilIface;binOp (if neg then .neq else .eql) t cx .nilIface:Sem Value)).run P w
    = .ok (.bool (if neg then !r else r)) w:=by
 have he:(Op.equal t cx .nilIface).run P w = .ok r w:=by
  have key:∀ d,(Op.equalIn (d + 1) t cx .nilIface).run P w = .ok r w:=fun d=>by
   rcases hr with ⟨rfl,rfl⟩|⟨⟨t',u,rfl⟩,rfl⟩<;>simp [Op.equalIn,run_underlying h w]
  exact key 9999
 have hna:∀ u,cx≠.agg u:=by rcases hr with ⟨rfl,_⟩|⟨⟨t',u,rfl⟩,_⟩<;>simp
 rcases hr with ⟨rfl,rfl⟩|⟨⟨t',u,rfl⟩,rfl⟩
 ·cases neg<;>simp [Sem.run_bind,W9 _ t x (.const .nilIface) .nilIface .nilIface hna ⟨_,rfl⟩,binOp,he]
 ·cases neg<;>simp [Sem.run_bind,W9 _ t x (.const .nilIface) (.iface t' u) .nilIface hna ⟨_,rfl⟩,binOp,he]
theorem xw (hg:Good C w Z μ o) {t:TypeId} {neg:Bool} {x:Operand} {e:TypeId} (hu:C.P.underlying t = some (.slice e)) {cx:Value} {r:Opd→V} {x':Opd} (hx:Rep w Z μ cx (r x')) :
  OpV C b w Z μ o ((do eqGuard (if neg then .neq else .eql) t x (.const (.slice none 0 0)) cx (.slice none 0 0);binOp (if neg then .neq else .eql) t cx (.slice none 0 0):Sem Value).run C.P w) (sem b r (.isnil neg x')):=by
 intro K h
 have fin:∀ a l c,cx = .slice a l c→K { v:=.bool (if neg then !a.isNone else a.isNone) }→∃ e v w' Z' μ',((do eqGuard (if neg then .neq else .eql) t x (.const (.slice none 0 0)) cx (.slice none 0 0);binOp (if neg then .neq else .eql) t cx (.slice none 0 0):Sem Value)).run C.P w = .ok v w'∧K e∧Rep w' Z' μ' v e.v∧Good C w' Z' μ' (xv o e.os)∧Evo b KK w Z μ w' Z' μ' :=
  fun a l c hc hk=>⟨_,_,w,Z,μ,by rw [hc];exact acB hu a l c,hk,.sc rfl,hg,.refl⟩
 simp only [sem] at h
 split at h
 ·rename_i h1;rw [h1] at hx
  obtain ⟨h2,_⟩:=hx.scE
  grind [AM.wp]
 ·rename_i h1;rw [h1] at hx
  obtain ⟨a',cap,h2,_,hne⟩:=hx.slE
  obtain ⟨bb,oo,rfl,_⟩:=hne (by simp)
  grind [AM.wp]
 ·rename_i h1;rw [h1] at hx
  obtain ⟨a',cap,h2,_,hne⟩:=hx.slE
  refine fin _ _ _ h2 (h a'.isNone).2
 ·rename_i h1;rw [h1] at hx
  obtain ⟨c,hm,hh⟩:=hx.hdE
  obtain ⟨ob,_,h⟩:=h
  dsimp only at h
  split at h
  ·have:∃ a l c,cx = .slice a l c:=by
    grind [Hdr]
   obtain ⟨a,l,c,hc⟩:=this
   exact fin _ _ _ hc (h a.isNone)
  ·have:∃ a l c,cx = .slice a l c:=by
    grind [Hdr]
   obtain ⟨a,l,c,hc⟩:=this
   exact fin _ _ _ hc (h a.isNone)
  ·exact h.elim
 ·exact h.elim
theorem xy (hg:Good C w Z μ o) {t:TypeId} {neg:Bool} {x:Operand} {e:Array (String×TypeId)} (hu:C.P.underlying t = some (.interface e)) {cx:Value} {r:Opd→V} {x':Opd} (hx:Rep w Z μ cx (r x')) :
  OpV C b w Z μ o ((do eqGuard (if neg then .neq else .eql) t x (.const .nilIface) cx .nilIface;binOp (if neg then .neq else .eql) t cx .nilIface:Sem Value).run C.P w) (sem b r (.isnilI neg x')):=by
 intro K h
 have fin:∀ q,(cx = .nilIface∧q = true∨(∃ t u,cx = .iface t u)∧q = false)→K { v:=.bool (if neg then !q else q) }→∃ e v w' Z' μ',((do eqGuard (if neg then .neq else .eql) t x (.const .nilIface) cx .nilIface;binOp (if neg then .neq else .eql) t cx .nilIface:Sem Value)).run C.P w = .ok v w'∧K e∧Rep w' Z' μ' v e.v∧Good C w' Z' μ' (xv o e.os)∧Evo b KK w Z μ w' Z' μ' :=
  fun q hq hk=>⟨_,_,w,Z,μ,acC hu hq,hk,.sc rfl,hg,.refl⟩
 simp only [sem] at h
 split at h
 ·rename_i h1;rw [h1] at hx
  exact fin false (.inr ⟨hx.nnE,rfl⟩) (by simpa [AM.wp] using h)
 ·rename_i h1;rw [h1] at hx
  exact fin true (.inl ⟨hx.scE.1,rfl⟩) (by simpa [AM.wp] using h)
 ·exact h.elim
end
end Av
end
section
namespace Av
open Go
section
variable {C:Ctx} {w:World} {Z:Nat→Nat→Prop} {μ:Nat→Option Cn} {o:Nat→Option Ob} {b:Nat} {r:Opd→V}
theorem arg (hg:Good C w Z μ o) {op:UnOp} {cx:Value} {x:Opd} (hx:Rep w Z μ cx (r x)):OpV C b w Z μ o ((Op.unary op cx).run C.P w) (sem b r (.un op x)):=by
 intro K h
 simp only [sem] at h
 split at h
 ·rename_i h1;rw [h1] at hx
  obtain ⟨rfl,_⟩:=hx.scE
  exact ⟨_,_,w,Z,μ,by simp [Op.unary,Op.intArith],h,.sc rfl,hg,.refl⟩
 ·rename_i h1;rw [h1] at hx
  obtain ⟨rfl,_⟩:=hx.scE
  exact ⟨_,_,w,Z,μ,by simp [Op.unary],h,.sc rfl,hg,.refl⟩
 ·exact h.elim
theorem al8 (hg:Good C w Z μ o) {s d:TypeId} {k k':IntKind} (hs:C.P.underlying s = some (.int k')) (hd:C.P.underlying d = some (.int k)) {cx:Value} {x:Opd} (hx:Rep w Z μ cx (r x)) :
  OpV C b w Z μ o ((convert s d cx).run C.P w) (sem b r (.convI k x)):=by
 intro K h
 simp only [sem] at h
 replace h:=wY hx h
 obtain ⟨kd,n,rfl,h⟩:=h
 exact ⟨_,_,w,Z,μ,by simp_all [convert,run_underlying,Conv.intToInt],h,.sc rfl,hg,.refl⟩
theorem apU (hg:Good C w Z μ o) {s d:TypeId} (hs:C.P.underlying s = some .string) (hd:C.P.underlying d = some .string) {cx:Value} {x:Opd} (hx:Rep w Z μ cx (r x)) :
  OpV C b w Z μ o ((convert s d cx).run C.P w) (sem b r (.idS x)):=fun _ hk=>hk.elim
theorem wi {ρ:Operand→Value} (hρ:∀ x x',opd x = some x'→Rep w Z μ (ρ x) (r x')):∀ {xs:List Operand} {ys:List Opd},opds xs = some ys→xs.length = ys.length ∧
  ∀ j (h:j < xs.length) (h':j < ys.length),Rep w Z μ (ρ xs[j]) (r ys[j])
 | [],ys,h=>by grind [opds]
 | x :: xs,ys,h=>by
   simp only [opds] at h
   split at h
   ·rename_i a b' e1 e2
    simp only [zd] at h;subst h
    obtain ⟨h1,h2⟩:=wi hρ e2
    grind
   ·cases h
theorem anT (hg:Good C w Z μ o) {ρ:Operand→Value} (hρ:∀ x x',opd x = some x'→Rep w Z μ (ρ x) (r x')) {f:FuncId} {first cap:Array Operand} {cs:List Opd} (hfi:first.isEmpty = true) (h:opds cap.toList = some cs) :
  OpV C b w Z μ o ((Instr.makeFunc (.func f) (first.map ρ) (cap.map ρ)).run C.P w) (sem b r (.mkfn (.n f) cs)):=by
 intro K hk
 obtain ⟨h1,h2⟩:=wi hρ h
 have:first = #[]:=by simpa using hfi
 subst this
 refine ⟨_,.func (.func f) #[] (cap.map ρ),w,Z,μ,by simp [Instr.makeFunc],hk,.clo (by simpa using h1) (fun j hj hj'=>?_),hg,.refl⟩
 grind
theorem al4 (hg:Good C w Z μ o) {ρ:Operand→Value} (hρ:∀ x x',opd x = some x'→Rep w Z μ (ρ x) (r x')) {f:FuncId} {first cap:Array Operand} {cs:List Opd} (hca:cap.isEmpty = true) (h:opds first.toList = some cs) :
  OpV C b w Z μ o ((Instr.makeFunc (.func f) (first.map ρ) (cap.map ρ)).run C.P w) (sem b r (.mkfn (.m f) cs)):=by
 intro K hk
 obtain ⟨h1,h2⟩:=wi hρ h
 have:cap = #[]:=by simpa using hca
 subst this
 refine ⟨_,.func (.func f) (first.map ρ) #[],w,Z,μ,by simp [Instr.makeFunc],hk,.clm (by simpa using h1) (fun j hj hj'=>?_),hg,.refl⟩
 grind
theorem al6 (hg:Good C w Z μ o) {t:TypeId} {fs:Array Field} {i:Nat} {f:Field} {n:Nat} (hu:C.P.underlying t = some (.struct fs)) (hf:fs[i]? = some f) (hn:Js C.P f.type = some (n + 1))
  {cx:Value} {x:Opd} (hx:Rep w Z μ cx (r x)):OpV C b w Z μ o ((Instr.fieldAt t cx i).run C.P w) (sem b r (.faddr f.offset x)):=by
 have hrun:∀ bb oo,(Instr.fieldAt t (.pointer (some ⟨bb,oo,none⟩)) i).run C.P w = .ok (.pointer (some ⟨bb,oo + f.offset,none⟩)) w:=by
  intro bb oo
  simp only [Instr.fieldAt,Sem.run_bind,run_underlying hu w,Result.andThen_ok,hf,Instr.sureAddr,Sem.run_pure,fieldPlace,Yb hn w]
  simp [Vp]
 intro K h
 simp only [sem] at h
 split at h
 ·rename_i h1;rw [h1] at hx
  obtain ⟨c,hm,rfl⟩:=hx.ptrE
  exact ⟨_,_,w,Z,μ,hrun _ _,h,.ptr hm,hg,.refl⟩
 ·rename_i h1;rw [h1] at hx
  obtain ⟨c,hm,hv,hi,rfl⟩:=hx.eptE
  refine ⟨_,_,w,Z,μ,hrun _ _,h,?_,hg,.refl⟩
  rw [show ∀ p q:Nat,c.base + (p * c.sz + q) + f.offset = c.base + (p * c.sz + (q + f.offset)) by intros;omega]
  exact .ept hm hv hi
 ·rename_i h1;rw [h1] at hx
  obtain ⟨bb,oo,ff,rfl,e1,e2⟩:=hx.roE
  refine ⟨_,_,w,Z,μ,hrun _ _,h,?_,hg,.refl⟩
  rw [ko]
  exact .ro ff e1 e2
 ·exact h.elim
theorem YE {P:Program} {t:TypeId} {ag:Bool} {sz:Nat} (h1:y0 P t = some ag) (h2:Js P t = some sz) (cs:Array Value) (off:Nat) :
  (part t cs off).run P w = if ag then .ok (.agg (cs.extract off (off + sz))) w else (match cs[off]? with|some v=>.ok v w|none=>.halt (.stuck "part: no such cell") w):=by
 simp only [part,Sem.run_bind,aez h1 w,Result.andThen_ok]
 cases ag with
 | true=>simp [Yb h2 w]
 | false =>
   simp only [zk,if_false]
   cases cs[off]?<;>rfl
theorem anP {ag:Bool} {sz off:Nat} {cs:Array Value} {vs:List V} (hs:cs.size = vs.length) (ho:∀ j (h:j < cs.size),cs[j].oneCell' = true)
  (hr:∀ j (h:j < vs.length) (h':j < cs.size),Rep w Z μ cs[j] vs[j]) {K:E→Prop}
  (h:(if ag then AM.asrt (off + sz≤vs.length) (.ret { v:=.agg ((vs.drop off).take sz) }) else (match vs[off]? with|some v=>.ret { v }|none=>.no):AM E).wp o K) :
  ∃ e v,(if ag then (.ok (.agg (cs.extract off (off + sz))) w:Result Value) else (match cs[off]? with|some v=>.ok v w|none=>.halt (.stuck "part: no such cell") w)) = .ok v w∧K e∧Rep w Z μ v e.v∧e.os = []:=by
 cases ag with
 | true =>
   simp only [if_true] at h ⊢
   refine ⟨_,_,rfl,h.2,.agg ?_ (fun j hj=>?_) (fun j hj hj'=>?_),rfl⟩
   ·grind
   ·grind
   grind
 | false =>
   simp only [zk,if_false] at h ⊢
   split at h
   ·rename_i v hv
    obtain ⟨hl,rfl⟩:=zE.1 hv
    have hl':off < cs.size:=by omega
    exact ⟨_,cs[off],by simp [hl'],h,hr off hl hl',rfl⟩
   ·exact h.elim
theorem apV (hg:Good C w Z μ o) {t:TypeId} {fs:Array Field} {i:Nat} {f:Field} {ag:Bool} {sz:Nat} (hu:C.P.underlying t = some (.struct fs)) (hf:fs[i]? = some f) (h1:y0 C.P f.type = some ag) (h2:Js C.P f.type = some sz)
  {cx:Value} {x:Opd} (hx:Rep w Z μ cx (r x)):OpV C b w Z μ o ((Instr.field t cx i).run C.P w) (sem b r (.fld ag f.offset sz x)):=fun _ hk=>hk.elim
theorem Kw {P:Program} (k:IntKind) (n:Int):(asIntOf (.int k n)).run P w = .ok (k,n) w:=rfl
theorem al5 (hg:Good C w Z μ o) {t e:TypeId} {sz:Nat} (hu:C.P.underlying t = some (.slice e)) (he:Js C.P e = some sz) {cx ci:Value} {x i:Opd} (hx:Rep w Z μ cx (r x)) (hi:Rep w Z μ ci (r i)) :
  OpV C b w Z μ o ((Instr.indexAt t cx ci).run C.P w) (sem b r (.iaddr sz x i)):=by
 have hrun:∀ ad (len:Nat) cap k n,0≤n→n < (len:Int)→(Instr.indexAt t (.slice (some ad) len cap) (.int k n)).run C.P w = .ok (.pointer (some (ad.add (n.toNat * sz)))) w:=by
  intro ad len cap k n h0 h1
  simp only [Instr.indexAt,Sem.run_bind,Kw,Result.andThen_ok,run_underlying hu w,Sem.run_pure,h0,h1,and_self,if_true]
  by_cases hl:len≤1<;>simp [hl,run_underlying hu w,Yb he w]
 intro K h
 simp only [sem] at h
 replace h:=wY hi h
 obtain ⟨k,n,rfl,h⟩:=h
 split at h
 ·rename_i a off len h1;rw [h1] at hx
  obtain ⟨c,hm,hh⟩:=hx.hdE
  obtain ⟨ob,hoa,h⟩:=h
  dsimp only at h
  split at h
  ·rename_i wr s xs
   obtain ⟨⟨hs,h0,h1⟩,h⟩:=h
   obtain ⟨c',hm',hok,_⟩:=hg.ob a _ hoa
   rw [hm] at hm';cases hm'
   obtain ⟨hlen,hok⟩:=hok
   unfold Hdr at hh
   split at hh
   ·omega
   ·rename_i hv
    have hv:c.void = false:=by simpa using hv
    obtain ⟨ad,rfl,h3,h4,h5⟩:=hh
    obtain ⟨h6,h7,_⟩:=hok hv
    have hsz:c.sz = sz:=by
     grind
    have had:=h5 (by omega)
    subst had
    refine ⟨_,_,w,Z,μ,hrun _ _ _ _ _ h0 h1,h,?_,hg,.refl⟩
    rw [Vp,← hsz]
    have:c.base + off * c.sz + n.toNat * c.sz = c.base + ((off + n.toNat) * c.sz + 0):=by grind
    rw [this]
    exact .ept hm hv (by omega)
  ·rename_i wr s xs
   obtain ⟨⟨hs,h0,h1⟩,h⟩:=h
   obtain ⟨c',hm',hok,_⟩:=hg.ob a _ hoa
   rw [hm] at hm';cases hm'
   obtain ⟨hlen,hok⟩:=hok
   unfold Hdr at hh
   split at hh
   ·omega
   ·rename_i hv
    have hv:c.void = false:=by simpa using hv
    obtain ⟨ad,rfl,h3,h4,h5⟩:=hh
    obtain ⟨h6,h7,_⟩:=hok hv
    have hsz:c.sz = sz:=by
     grind
    have had:=h5 (by omega)
    subst had
    refine ⟨_,_,w,Z,μ,hrun _ _ _ _ _ h0 h1,h,?_,hg,.refl⟩
    rw [Vp,← hsz]
    have:c.base + off * c.sz + n.toNat * c.sz = c.base + ((off + n.toNat) * c.sz + 0):=by grind
    rw [this]
    exact .ept hm hv (by omega)
  ·exact h.elim
 ·rename_i s xs h1;rw [h1] at hx
  obtain ⟨a,cap,rfl,_,hne⟩:=hx.slE
  obtain ⟨⟨rfl,h0⟩,h⟩:=h
  split at h
  ·rename_i el hel
   obtain ⟨hl,rfl⟩:=zE.1 hel
   obtain ⟨bb,oo,rfl,hrow,hz⟩:=hne (by grind)
   refine ⟨_,_,w,Z,μ,hrun _ _ _ _ _ h0 (by omega),h,?_,hg,.refl⟩
   rw [Vp]
   have hc:=hrow n.toNat hl
   refine .ro (o:=oo + n.toNat * s) (off:=0) (fun j=>(w.cell? ⟨bb,oo + (n.toNat * s + j),none⟩).getD undef) (fun j hj=>?_) (fun j hj=>?_)
   ·grind
   grind
  ·exact h.elim
 ·exact h.elim
theorem akz (hg:Good C w Z μ o) {t e:TypeId} {m sz:Nat} (hm2:2≤m) (hu:C.P.underlying t = some (.array m e)) (he:Js C.P e = some sz) {cx ci:Value} {x i:Opd} (hx:Rep w Z μ cx (r x)) (hi:Rep w Z μ ci (r i)) :
  OpV C b w Z μ o ((Instr.indexAt t cx ci).run C.P w) (sem b r (.iaddrA m sz x i)):=by
 have hrun:∀ bb oo k n,0≤n→n < (m:Int)→(Instr.indexAt t (.pointer (some ⟨bb,oo,none⟩)) (.int k n)).run C.P w = .ok (.pointer (some ⟨bb,oo + n.toNat * sz,none⟩)) w:=by
  intro bb oo k n h0 h1
  have hl:¬ m≤1:=by omega
  simp [Instr.indexAt,Sem.run_bind,Kw,run_underlying hu w,h0,h1,Instr.sureAddr,hl,Yb he w,Vp]
 intro K h
 simp only [sem] at h
 replace h:=wY hi h
 obtain ⟨k,n,rfl,h⟩:=h
 obtain ⟨⟨h0,h1⟩,h⟩:=h
 split at h
 ·rename_i h2;rw [h2] at hx
  obtain ⟨c,hm,rfl⟩:=hx.ptrE
  exact ⟨_,_,w,Z,μ,hrun _ _ _ _ h0 h1,h,.ptr hm,hg,.refl⟩
 ·rename_i h2;rw [h2] at hx
  obtain ⟨c,hm,hv,hi',rfl⟩:=hx.eptE
  refine ⟨_,_,w,Z,μ,hrun _ _ _ _ h0 h1,h,?_,hg,.refl⟩
  rw [show ∀ p q:Nat,c.base + (p * c.sz + q) + n.toNat * sz = c.base + (p * c.sz + (q + n.toNat * sz)) by intros;omega]
  exact .ept hm hv hi'
 ·rename_i h2;rw [h2] at hx
  obtain ⟨bb,oo,ff,rfl,e1,e2⟩:=hx.roE
  refine ⟨_,_,w,Z,μ,hrun _ _ _ _ h0 h1,h,?_,hg,.refl⟩
  rw [ko]
  exact .ro ff e1 e2
 ·exact h.elim
theorem anZ (hg:Good C w Z μ o) {t e:TypeId} {m sz:Nat} {ag:Bool} (hu:C.P.underlying t = some (.array m e)) (h1:y0 C.P e = some ag) (he:Js C.P e = some sz) {cx ci:Value} {x i:Opd} (hx:Rep w Z μ cx (r x)) (hi:Rep w Z μ ci (r i)) :
  OpV C b w Z μ o ((Instr.index t cx ci).run C.P w) (sem b r (.idxA ag m sz x i)):=by
 intro K h
 simp only [sem] at h
 replace h:=wY hi h
 obtain ⟨k,n,rfl,h⟩:=h
 obtain ⟨⟨h0,h2⟩,h⟩:=h
 split at h
 ·rename_i vs hv;rw [hv] at hx
  obtain ⟨cs,rfl,hs,ho,hr⟩:=hx.aggE
  obtain ⟨e',v,e1,e2,e3,e4⟩:=anP hs ho hr h
  refine ⟨e',v,w,Z,μ,?_,e2,e3,by rw [e4];exact hg,.refl⟩
  simp only [Instr.index,Sem.run_bind,Kw,Result.andThen_ok,run_underlying hu w,h0,h2,and_self,if_true,Yb he w]
  rw [YE h1 he];exact e1
 ·exact h.elim
theorem anY (hg:Good C w Z μ o) {t:TypeId} (hu:C.P.underlying t = some .string) {cx ci:Value} {x i:Opd} (hx:Rep w Z μ cx (r x)) (hi:Rep w Z μ ci (r i)) :
  OpV C b w Z μ o ((Instr.index t cx ci).run C.P w) (sem b r (.idxS x i)):=by
 intro K h
 simp only [sem] at h
 replace h:=afa hx h
 obtain ⟨s,rfl,h⟩:=h
 replace h:=wY hi h
 obtain ⟨k,n,rfl,h⟩:=h
 obtain ⟨h0,h⟩:=h
 split at h
 ·rename_i c hc
  refine ⟨_,.int .u8 c.toNat,w,Z,μ,?_,h,.sc rfl,hg,.refl⟩
  have hs:s[n.toNat]? = some c:=by
   rw [← hc]
   simp only [getElem?_def,ByteArray.getElem_eq_getElem_data]
   simp
  simp only [Instr.index,Sem.run_bind,Kw,Result.andThen_ok,run_underlying hu w,h0,if_true,hs]
  rfl
 ·exact h.elim
theorem apW (hg:Good C w Z μ o) {cx:Value} {x:Opd} {i:Nat} (hx:Rep w Z μ cx (r x)):OpV C b w Z μ o ((Instr.extract cx i).run C.P w) (sem b r (.ext x i)):=by
 intro K h
 simp only [sem] at h
 split at h
 ·rename_i vs hv;rw [hv] at hx
  obtain ⟨cs,rfl,hs,hr⟩:=hx.tupE
  split at h
  ·rename_i v hv
   obtain ⟨hl,rfl⟩:=zE.1 hv
   have hl':i < cs.size:=by omega
   refine ⟨_,cs[i],w,Z,μ,?_,h,hr i hl hl',hg,.refl⟩
   simp [Instr.extract,hl']
  ·exact h.elim
 ·exact h.elim
theorem anS (hg:Good C w Z μ o) {t:TypeId} {d:TypeDesc} (hu:C.P.underlying t = some d) (hd:∀ ms,d≠.interface ms) {cx:Value} {x:Opd} :
  OpV C b w Z μ o ((Instr.makeInterface t cx).run C.P w) (sem b r (.mkif x)):=by
 intro K h
 refine ⟨_,.iface t cx,w,Z,μ,?_,h,.nn,hg,.refl⟩
 simp only [Instr.makeInterface,Sem.run_bind,run_underlying hu w,Result.andThen_ok]
 rfl
end
end Av
end
