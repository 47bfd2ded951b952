/- Contracts of the library's functions out of what the library's laws say of worlds. -/
import Derived.Test.YtphclkkggijicaaGreatDoorB30
import Derived.Test.YtphclkkggijicaaGreatDoorB14
import Derived.Shelf.Spec.SlicesInsertGrow
set_option linter.unusedVariables false
set_option linter.unusedSimpArgs false
section
namespace Av
open Go
theorem aq3 {w:World} {Z:Nat→Nat→Prop} {μ:Nat→Option Cn} {g:Nat→Option Value} {ys:List Value} (h:∀ (j:Nat) (u:Value),ys[j]? = some u→g j = some u) (h1:∀ u∈ys,u.oneCell' = true):Row w Z μ g 1 (ys.map V.sc):=by
 intro i hi
 have hi':i < ys.length:=by simpa using hi
 have e:(ys.map V.sc)[i] = V.sc ys[i]:=by simp
 refine ⟨by rw [e];rfl,fun j hj=>?_⟩
 have hj':j = 0:=by
  have:=hj;rw [show ((ys.map V.sc)[i]).cells = [V.sc ys[i]] by rw [e];rfl] at this
  simpa using this
 subst hj'
 refine ⟨ys[i],by rw [Nat.mul_one,Nat.add_zero];exact h i _ (zf hi'),h1 _ (zN hi'),?_⟩
 have e2:((ys.map V.sc)[i]).cells[0] = V.sc ys[i]:=by simp [V.cells]
 rw [e2];exact .sc (h1 _ (zN hi'))
theorem grown {C:Ctx} {w w':World} {Z:Nat→Nat→Prop} {μ:Nat→Option Cn} {o:Nat→Option Ob} {x cap:Nat} {ys:List Value} {cs:Array Value} {t:TypeId} (hg:Good C w Z μ o) (hf:∀ y,x≤y→μ y = none) (hm:C.m≤x)
  (hs:w'.heap.size = w.heap.size + 1) (hk:∀ k,k < w.heap.size→w'.heap[k]? = w.heap[k]?) (hn:w'.heap[w.heap.size]? = some (.cells cs t (0,0))) (hl:ys.length≤cap∧cap < 2 ^ 63) (hc:cap≤cs.size)
  (hy:∀ (j:Nat) (u:Value),ys[j]? = some u→cs[j]? = some u) (h1:∀ u∈ys,u.oneCell' = true) (ho:Vq C.dr w w') :
  ∃ μ',Good C w' Z μ' (upd o x (some (.buf true 1 (ys.map V.sc))))∧Rep w' Z μ' (.slice (some ⟨w.heap.size,0,none⟩) ys.length cap) (.hd x 0 ys.length)∧(∀ y,y≠x→μ' y = μ y):=by
 have hheap:w'.heap = (w.alloc (.cells cs t (0,0))).heap:=by
  apply Array.ext_getElem?
  intro k
  rcases Nat.lt_trichotomy k w.heap.size with h|h|h
  ·rw [hk k h,U1 h]
  ·subst h;rw [hn,heap_alloc_new]
  ·rw [Array.getElem?_eq_none (by omega),Array.getElem?_eq_none (by rw [World.size_alloc];omega)]
 obtain ⟨g1,g2,g3⟩:=aaV (xs:=ys.map V.sc) (sz:=1) (cap:=cap) (fr:=(0,0)) (e:=t) (cells:=cs) (wr:=true) hg (fun y h _=>hf y h) hm (w1:=w) rfl (fun k _=>by omega) (aq3 hy h1) ⟨by simpa using hl.1,fun _=>hl.2⟩ (by simpa using hc)
 simp only [zh] at g1 g2 g3
 refine ⟨_,g2.heap hheap ⟨ho.1,ho.2.1,ho.2.2⟩,g1.mono (fun b i _=>by simp [World.cell?,hheap]) (fun _ _ h=>h) (fun _ _ h=>h),fun y hy=>QH _ _ hy⟩
structure apt (C:Ctx) (k:Nat) (ls:List Value) (s:Value) (c:Cn) (cs:Array Value) (t:TypeId) (fr:Nat×Nat):Prop where
 mu:C.μ0 k = some c
 vd:c.void = false
 s1:c.sz = 1
 n:c.n = ls.length
 le:c.n≤c.cap
 cp:c.cap < 2 ^ 63
 s:s = .slice (some ⟨c.block,c.base,none⟩) ls.length c.cap
 hp:C.w0.heap[c.block]? = some (.cells cs t fr)
 sz:c.base + c.cap≤cs.size
 fz:∀ o,¬ (fr.1≤o∧o < fr.2)
 z:∀ o,¬ C.Z0 c.block o
 el:∀ (j:Nat) (u:Value),ls[j]? = some u→cs[c.base + j]? = some u
theorem apt.cell {C:Ctx} {k:Nat} {ls:List Value} {s:Value} {c:Cn} {cs:Array Value} {t:TypeId} {fr:Nat×Nat} (h:apt C k ls s c cs t fr):∀ (j:Nat) (u:Value),ls[j]? = some u→C.w0.cell? ⟨c.block,c.base + j,none⟩ = some u:=fun j u hu=>by
 rw [cell?_of_heap h.hp];exact h.el j u hu
theorem apt.frozen {C:Ctx} {k:Nat} {ls:List Value} {s:Value} {c:Cn} {cs:Array Value} {t:TypeId} {fr:Nat×Nat} (h:apt C k ls s c cs t fr) (o:Nat):C.w0.frozen? ⟨c.block,o,none⟩ = false:=by
 rw [frozen?_of_heap h.hp]
 have:=h.fz o
 simp only [Zq,kQ]
 omega
theorem apt.some {C:Ctx} {k:Nat} {ls:List Value} {s:Value} {c:Cn} {cs:Array Value} {t:TypeId} {fr:Nat×Nat} (h:apt C k ls s c cs t fr) {j:Nat} (hj:j < c.cap):(C.w0.cell? ⟨c.block,c.base + j,none⟩).isSome = true:=by
 rw [cell?_of_heap h.hp,zJ (by have:=h.sz;omega)];rfl
theorem apt.shape {C:Ctx} {k:Nat} {ls:List Value} {s:Value} {c:Cn} {cs:Array Value} {t:TypeId} {fr:Nat×Nat} (h:apt C k ls s c cs t fr):C.w0.shape? c.block = Option.some (t,cs.size):=by
 unfold World.shape?;rw [h.hp]
end Av
end
