/- Contracts of the library's functions out of what the library's laws say of worlds. -/
import Derived.Test.YtjobognfgjobfaaGreatDoorK23
import Derived.Test.YtjobognfgjobfaaGreatDoorK13
import Derived.Shelf.Spec.SlicesInsertGrow
set_option linter.unusedVariables false
set_option linter.unusedSimpArgs false
section
namespace Av
open Go
theorem auH {w:World} {Z:Nat→Nat→Prop} {μ:Nat→Option Cn} {g:Nat→Option Value} {ys:List Value} (h:∀ (j:Nat) (u:Value),ys[j]? = some u→g j = some u) (h1:∀ u∈ys,u.oneCell' = true):Row w Z μ g 1 (ys.map V.sc):=by
 intro i hi
 have hi':i < ys.length:=by simpa using hi
 have e:(ys.map V.sc)[i] = V.sc ys[i]:=by simp
 refine ⟨by rw [e];rfl,fun j hj=>?_⟩
 have hj':j = 0:=by
  have:=hj;rw [show ((ys.map V.sc)[i]).cells = [V.sc ys[i]] by rw [e];rfl] at this
  simpa using this
 subst hj'
 refine ⟨ys[i],by rw [ZS,Nat.add_zero];exact h i _ (zd hi'),h1 _ (zV hi'),?_⟩
 have e2:((ys.map V.sc)[i]).cells[0] = V.sc ys[i]:=by simp [V.cells]
 rw [e2];exact .sc (h1 _ (zV hi'))
theorem grown {C:Ctx} {w w':World} {Z:Nat→Nat→Prop} {μ:Nat→Option Cn} {o:Nat→Option Ob} {x cap:Nat} {ys:List Value} {cs:Array Value} {t:TypeId} (hg:Good C w Z μ o) (hf:∀ y,x≤y→μ y = none) (hm:C.m≤x)
  (hs:w'.heap.size = w.heap.size + 1) (hk:∀ k,k < w.heap.size→w'.heap[k]? = w.heap[k]?) (hn:w'.heap[w.heap.size]? = some (.cells cs t (0,0))) (hl:ys.length≤cap∧cap < 2 ^ 63) (hc:cap≤cs.size)
  (hy:∀ (j:Nat) (u:Value),ys[j]? = some u→cs[j]? = some u) (h1:∀ u∈ys,u.oneCell' = true) (ho:XA C.dr w w') :
  ∃ μ',Good C w' Z μ' (upd o x (some (.buf true 1 (ys.map V.sc))))∧Rep w' Z μ' (.slice (some ⟨w.heap.size,0,none⟩) ys.length cap) (.hd x 0 ys.length)∧(∀ y,y≠x→μ' y = μ y):=by
 have hheap:w'.heap = (w.alloc (.cells cs t (0,0))).heap:=by
  apply Array.ext_getElem?
  intro k
  rcases Nat.lt_trichotomy k w.heap.size with h|h|h
  ·rw [hk k h,Wn h]
  ·subst h;rw [hn,heap_alloc_new]
  ·rw [Zu (by omega),Zu (by rw [World.size_alloc];omega)]
 obtain ⟨g1,g2,g3⟩:=abV (xs:=ys.map V.sc) (sz:=1) (cap:=cap) (fr:=(0,0)) (e:=t) (cells:=cs) (wr:=true) hg (fun y h _=>hf y h) hm (w1:=w) rfl (fun k _=>by omega) (auH hy h1) ⟨by simpa using hl.1,fun _=>hl.2⟩ (by simpa using hc)
 simp only [zb] at g1 g2 g3
 refine ⟨_,g2.heap hheap ⟨ho.1,ho.2.1,ho.2.2⟩,g1.mono (fun b i _=>by simp [World.cell?,hheap]) (fun _ _ h=>h) (fun _ _ h=>h),fun y hy=>QO _ _ hy⟩
theorem Km (b:Nat):∀ (vs:List Value) (o:Nat) (w:World) (cs:Array Value) (t:TypeId) (fr:Nat×Nat),w.heap[b]? = some (.cells cs t fr) →
  ∃ cs',(w.setCells b o vs).heap[b]? = some (.cells cs' t fr)∧cs'.size = cs.size∧(∀ k,k≠b→(w.setCells b o vs).heap[k]? = w.heap[k]?)∧(w.setCells b o vs).heap.size = w.heap.size∧∀ d,XA d w (w.setCells b o vs)
 | [],o,w,cs,t,fr,h=>⟨cs,h,rfl,fun _ _=>rfl,rfl,fun _=>XA.refl _⟩
 | v :: r,o,w,cs,t,fr,h=>by
   have hlt:b < w.heap.size:=(zZ.1 h).1
   have h1:(w.setCell ⟨b,o,none⟩ v).heap[b]? = some (.cells (cs.setIfInBounds o v) t fr):=by
    simp only [World.setCell,kR,if_true,h];rfl
   obtain ⟨cs',e1,e2,e3,e4,e5⟩:=Km b r (o + 1) _ _ t fr h1
   refine ⟨cs',e1,by rw [e2];simp,fun k hk=>(e3 k hk).trans ?_,by rw [World.setCells,e4];simp [World.setCell],fun d=>e5 d⟩
   simp only [World.setCell,kR,if_neg (Ne.symm hk)]
structure as4 (C:Ctx) (k:Nat) (ls:List Value) (s:Value) (c:Cn) (cs:Array Value) (t:TypeId) (fr:Nat×Nat):Prop where
 mu:C.μ0 k = some c
 vd:c.void = false
 s1:c.sz = 1
 n:c.n = ls.length
 le:c.n≤c.cap
 cp:c.cap < 2 ^ 63
 s:s = .slice (some ⟨c.block,c.base,none⟩) ls.length c.cap
 hp:C.w0.heap[c.block]? = some (.cells cs t fr)
 sz:c.base + c.cap≤cs.size
 fz:∀ o,¬ (fr.1≤o∧o < fr.2)
 z:∀ o,¬ C.Z0 c.block o
 el:∀ (j:Nat) (u:Value),ls[j]? = some u→cs[c.base + j]? = some u
theorem alF {C:Ctx} {o:Nat→Option Ob} (hg:Good C C.w0 C.Z0 C.μ0 o) {k:Nat} {ls:List Value} (ho:o k = some (.buf true 1 (ls.map V.sc))) {s:Value} (hr:Rep C.w0 C.Z0 C.μ0 s (.hd k 0 ls.length)) (hpos:0 < ls.length) :
  ∃ c cs t fr,as4 C k ls s c cs t fr:=by
 obtain ⟨c,hmu,hok,hlv⟩:=hg.ob k _ ho
 cases hr with
 | hd h hv =>
   rw [hmu] at h;cases h
   have hvd:c.void = false:=by
    cases hc:c.void with
    | false=>rfl
    | true=>have:=(jJ hv hc).2.2;omega
   obtain ⟨ad,h1,h2,h3,h4⟩:=jK hv hvd
   obtain ⟨k1,k2⟩:=hok
   obtain ⟨q0,q1,q2,q3,q4,cs,t,fr,q5,q6,q7,q8⟩:=k2 hvd
   rw [zb] at k1
   have had:=h4 (by omega)
   rw [Nat.zero_mul,Nat.add_zero] at had
   subst had
   refine ⟨c,cs,t,fr,hmu,hvd,q0,k1.symm,q1.1,q1.2 rfl,by rw [h1,Nat.sub_zero],q5,by rw [q0] at q6;omega,fun o=>q7 o (.inr rfl),q2 rfl,fun j u hu=>?_⟩
   obtain ⟨hj,rfl⟩:=zl.1 hu
   have hj':j < (ls.map V.sc).length:=by simpa using hj
   have e:(ls.map V.sc)[j] = V.sc ls[j]:=by simp
   obtain ⟨v,e1,e2,e3⟩:=q8 j hj' 0 (by rw [e];exact Nat.zero_lt_one)
   have e4:((ls.map V.sc)[j]).cells[0]'(by rw [e];exact Nat.zero_lt_one) = V.sc ls[j]:=by simp [V.cells]
   rw [e4] at e3
   have:=e3.scE.1
   subst this
   rw [q0,ZS,Nat.add_zero] at e1
   exact e1
theorem as4.cell {C:Ctx} {k:Nat} {ls:List Value} {s:Value} {c:Cn} {cs:Array Value} {t:TypeId} {fr:Nat×Nat} (h:as4 C k ls s c cs t fr):∀ (j:Nat) (u:Value),ls[j]? = some u→C.w0.cell? ⟨c.block,c.base + j,none⟩ = some u:=fun j u hu=>by
 rw [cell?_of_heap h.hp];exact h.el j u hu
theorem as4.frozen {C:Ctx} {k:Nat} {ls:List Value} {s:Value} {c:Cn} {cs:Array Value} {t:TypeId} {fr:Nat×Nat} (h:as4 C k ls s c cs t fr) (o:Nat):C.w0.frozen? ⟨c.block,o,none⟩ = false:=by
 rw [frozen?_of_heap h.hp]
 have:=h.fz o
 simp only [ZA,zF]
 omega
theorem as4.some {C:Ctx} {k:Nat} {ls:List Value} {s:Value} {c:Cn} {cs:Array Value} {t:TypeId} {fr:Nat×Nat} (h:as4 C k ls s c cs t fr) {j:Nat} (hj:j < c.cap):(C.w0.cell? ⟨c.block,c.base + j,none⟩).isSome = true:=by
 rw [cell?_of_heap h.hp,zS (by have:=h.sz;omega)];rfl
theorem as4.shape {C:Ctx} {k:Nat} {ls:List Value} {s:Value} {c:Cn} {cs:Array Value} {t:TypeId} {fr:Nat×Nat} (h:as4 C k ls s c cs t fr):C.w0.shape? c.block = Option.some (t,cs.size):=by
 unfold World.shape?;rw [h.hp]
theorem axh {C:Ctx} {o:Nat→Option Ob} {w':World} {ls ys:List Value} {s:Value} {c:Cn} {cs cs':Array Value} {t:TypeId} {fr:Nat×Nat} {x:Nat} (hg:Good C C.w0 C.Z0 C.μ0 o) (ho:o 0 = some (.buf true 1 (ls.map V.sc))) (h:as4 C 0 ls s c cs t fr)
  (hx:C.μ0 x = none) (hm:C.m≤x) (hp:w'.heap[c.block]? = some (.cells cs' t fr)) (hsz:cs'.size = cs.size) (hk:∀ k,k≠c.block→w'.heap[k]? = C.w0.heap[k]?) (hs:w'.heap.size = C.w0.heap.size) (hso:XA C.dr C.w0 w')
  (hl:ys.length≤c.cap) (hy:∀ (j:Nat) (u:Value),ys[j]? = some u→w'.cell? ⟨c.block,c.base + j,none⟩ = some u) (h1:∀ u∈ys,u.oneCell' = true) :
  Good C w' C.Z0 (upd C.μ0 x (some { c with n:=ys.length })) (upd (upd o 0 (some .dead)) x (some (.buf true 1 (ys.map V.sc))))∧Rep w' C.Z0 (upd C.μ0 x (some { c with n:=ys.length })) (.slice (some ⟨c.block,c.base,none⟩) ys.length c.cap) (.hd x 0 ys.length):=by
 have hcell:∀ b i,C.Z0 b i→w'.cell? ⟨b,i,none⟩ = C.w0.cell? ⟨b,i,none⟩:=fun b i hz=>by
  have:b≠c.block:=by rintro rfl;exact h.z i hz
  simp only [World.cell?,hk b this]
 have hrow:Row w' C.Z0 noμ (fun k=>cs'[c.base + k]?) 1 (ys.map V.sc):=auH (fun j u hu=>by rw [← cell?_of_heap hp];exact hy j u hu) h1
 have hob:vY w' C.Z0 (upd C.μ0 x (some { c with n:=ys.length })) { c with n:=ys.length } (.buf true 1 (ys.map V.sc)):=by
  refine ⟨by simp,fun _=>⟨h.s1,⟨hl,fun _=>h.cp⟩,fun _=>h.z,fun i hz=>(h.z i hz).elim,fun i hi=>(hrow i hi).1,cs',t,fr,hp,?_,fun o _=>h.fz o,fun i hi j hj=>?_⟩⟩
  ·have:=h.sz;simp only [h.s1];omega
  ·obtain ⟨u,e1,e2,e3⟩:=(hrow i hi).2 j hj
   exact ⟨u,by simpa [h.s1] using e1,e2,e3⟩
 refine ⟨hg.pass (c:=c) ho h.mu h.vd hx hm rfl hk hs (fun i hz=>(h.z i hz).elim) hob hso,.hd (Qk _ _ _) ?_⟩
 simp [Hdr,h.vd]
structure ayf (P:Program) (f:FuncId) (t:TypeId) (z:Value):Prop where
 shift:∀ (b off n c i vb voff vc:Nat) (cs:List Value) (u:Value) (w:World) (tA tB:TypeId) (kA kB:Nat),i < n→n + 1≤c→c≤9223372036854775807→vb≠b→cs.length = n →
  (∀ (j:Nat) v,cs[j]? = some v→w.cell? ⟨b,off + j,none⟩ = some v)→(∀ j,j < n + 1→(w.cell? ⟨b,off + j,none⟩).isSome = true)→(∀ j,j < n + 1→w.frozen? ⟨b,off + j,none⟩ = false)→w.cell? ⟨vb,voff,none⟩ = some u →
  (∀ v∈cs,v.oneCell' = true)→u.oneCell' = true→w.shape? vb = some (tA,kA)→w.shape? b = some (tB,kB)→kB≠0→w.frozen? ⟨vb,voff,none⟩ = false→w.frozen? ⟨vb,kA,none⟩ = false →
  Calls P f #[.slice (some ⟨b,off,none⟩) n c,.int .i64 i,.slice (some ⟨vb,voff,none⟩) 1 vc] w fun e w'=>e = .returned (.slice (some ⟨b,off,none⟩) (n + 1) c)∧w' = (w.drew.setCells b (off + (i + 1)) (cs.drop i)).setCells b (off + i) [u]
 endRoom:∀ (b off n c vb voff vc:Nat) (u:Value) (w:World),n + 1≤c→c≤9223372036854775807→(w.cell? ⟨b,off + n,none⟩).isSome = true→w.frozen? ⟨b,off + n,none⟩ = false→w.cell? ⟨vb,voff,none⟩ = some u→u.oneCell' = true →
  Calls P f #[.slice (some ⟨b,off,none⟩) n c,.int .i64 n,.slice (some ⟨vb,voff,none⟩) 1 vc] w fun e w'=>e = .returned (.slice (some ⟨b,off,none⟩) (n + 1) c)∧w' = w.setCells b (off + n) [u]
 endGrow:∀ (base:Option Addr) (n c vb voff vc:Nat) (cs:List Value) (u:Value) (w:World),n≤c→c < n + 1→n < 2 ^ 31→cs.length = n→(base = none→n = 0)→(∀ a,base = some a→∀ (j:Nat) v,cs[j]? = some v→w.cell? (a.add j) = some v)→w.cell? ⟨vb,voff,none⟩ = some u→u.oneCell' = true →
  Calls P f #[.slice base n c,.int .i64 n,.slice (some ⟨vb,voff,none⟩) 1 vc] w fun e w'=>∃ cap,(n + 1≤cap∧cap < 2 ^ 63)∧e = .returned (.slice (some ⟨w.heap.size,0,none⟩) (n + 1) cap)∧w' = w.drew.alloc (.cells ((cs++[u]).toArray++Builtin.zeroCells #[z] (cap - (n + 1))) t)
 grow:∀ (b off n c i vb voff vc:Nat) (cs:List Value) (u:Value) (w:World),i < n→n≤c→c < n + 1→n < 2 ^ 31→cs.length = n→(∀ (j:Nat) v,cs[j]? = some v→w.cell? ⟨b,off + j,none⟩ = some v)→w.cell? ⟨vb,voff,none⟩ = some u→(∀ v∈cs,v.oneCell' = true)→u.oneCell' = true →
  Calls P f #[.slice (some ⟨b,off,none⟩) n c,.int .i64 i,.slice (some ⟨vb,voff,none⟩) 1 vc] w fun e w'=>∃ cap R,(n + 1≤cap∧cap < 2 ^ 63)∧R.size = cap∧(∀ (j:Nat) (v:Value),j < i→cs[j]? = some v→R[j]? = some v)∧e = .returned (.slice (some ⟨w.heap.size,0,none⟩) (n + 1) cap)∧w' = (((w.alloc (.cells R t)).drew.setCells w.heap.size i [u]).drew).setCells w.heap.size (i + 1) (cs.drop i)
theorem ano {i:Nat} {ls:List Value} {u:Value} (hi:i≤ls.length) {j:Nat} {x:Value} (h:(ls.take i++u :: ls.drop i)[j]? = some x):(j < i∧ls[j]? = some x)∨(j = i∧x = u)∨(i < j∧(ls.drop i)[j - (i + 1)]? = some x):=by
 have hl:(ls.take i).length = i:=by rw [zU];omega
 rcases Nat.lt_trichotomy j i with h1|h1|h1
 ·rw [kf (by omega),ZN,if_pos h1] at h
  exact .inl ⟨h1,h⟩
 ·rw [ke (by omega),hl,h1,k9] at h
  exact .inr (.inl ⟨h1,by simpa using h.symm⟩)
 ·rw [ke (by omega),hl,show j - i = (j - (i + 1)) + 1 by omega,List.getElem?_cons_succ] at h
  exact .inr (.inr ⟨h1,h⟩)
theorem ay8 {o:Nat→Option Ob} {x y z:Ob} (h:o = fun k=>[x,y][k]?):upd (upd o 0 (some .dead)) 2 (some z) = fun k=>[Ob.dead,y,z][k]?:=by
 subst h;funext k
 match k with
 | 0|1|2=>rfl
 | k + 3=>simp [upd]
theorem ayk {o:Nat→Option Ob} {x y z:Ob} (h:o = fun k=>[x,y][k]?):upd (upd o 2 (some z)) 0 (some .dead) = fun k=>[Ob.dead,y,z][k]?:=by
 subst h;funext k
 match k with
 | 0|1|2=>rfl
 | k + 3=>simp [upd]
theorem aoU {Γ:Env} {f:FuncId} {t:TypeId} {z:Value} (L:ayf Γ.P f t z) (own:Own Γ.P f) {i:Nat} {ls:List Value} {u:Value} (hi:i≤ls.length) (hp:0 < ls.length) (hl31:ls.length < 2 ^ 31) (h1:∀ v∈ls,v.oneCell' = true) (hu:u.oneCell' = true) :
  ayh Γ f (V.int i) 1 (ls.map V.sc) [V.sc u] ((ls.take i++u :: ls.drop i).map V.sc):=by
 refine ⟨fun C cargs hP hm hmu hg hF hsz hrep=>?_⟩
 subst hP
 have hm:C.m = 2:=hm
 have hmu:∀ k,2≤k→C.μ0 k = none:=hmu
 have hsz:cargs.size = 3:=hsz
 obtain ⟨s,iv,v,rfl⟩:∃ s iv v,cargs = #[s,iv,v]:=⟨cargs[0],cargs[1],cargs[2],by
  apply ZP
  ·simpa using hsz
  ·intro k a1 a2
   match k,a2 with
   | 0,_|1,_|2,_=>rfl⟩
 have r0:Rep C.w0 C.Z0 C.μ0 s (.hd 0 0 (ls.map V.sc).length):=hrep 0 (by simp) (by simp)
 have r1:Rep C.w0 C.Z0 C.μ0 iv (V.int i):=hrep 1 (by simp) (by simp)
 have r2:Rep C.w0 C.Z0 C.μ0 v (.hd 1 0 [V.sc u].length):=hrep 2 (by simp) (by simp)
 rw [zb] at r0
 have e1:=r1.scE.1
 subst e1
 obtain ⟨c0,cs0,t0,f0,A⟩:=alF hg (k:=0) (ls:=ls) rfl r0 hp
 obtain ⟨c1,cs1,t1,f1,B⟩:=alF hg (k:=1) (ls:=[u]) rfl r2 (by simp)
 have hne:c1.block≠c0.block:=hg.sep 1 0 _ _ c1 c0 (by decide) rfl rfl B.mu A.mu B.vd A.vd
 have es:=A.s
 have ev:=B.s
 subst es;subst ev
 rw [JU own]
 have uc:=B.cell 0 u rfl
 rw [Nat.add_zero] at uc
 have yl:(ls.take i++u :: ls.drop i).length = ls.length + 1:=by simp;omega
 have y1:∀ x∈ls.take i++u :: ls.drop i,x.oneCell' = true:=fun x hx=>by
  rcases zP.1 hx with h|h
  ·exact h1 x (ky h)
  ·rcases zw.1 h with rfl|h
   ·exact hu
   ·exact h1 x (kP h)
 have hcp:=A.cp
 have hkB:cs0.size≠0:=by have:=A.sz;have:=A.le;have:=A.n;omega
 have fin:∀ (w':World) (cs':Array Value) (e:Ending),e = .returned (.slice (some ⟨c0.block,c0.base,none⟩) (ls.length + 1) c0.cap)→ls.length + 1≤c0.cap→w'.heap[c0.block]? = some (.cells cs' t0 f0)→cs'.size = cs0.size→(∀ k,k≠c0.block→w'.heap[k]? = C.w0.heap[k]?)→w'.heap.size = C.w0.heap.size→XA C.dr C.w0 w' →
   (∀ (j:Nat) (x:Value),(ls.take i++u :: ls.drop i)[j]? = some x→w'.cell? ⟨c0.block,c0.base + j,none⟩ = some x) →
   ∃ v Z' μ',e = .returned v∧Rep w' Z' μ' v (.hd 2 0 ((ls.take i++u :: ls.drop i).map V.sc).length)∧Good C w' Z' μ' (fun k=>[Ob.dead,.buf true 1 [V.sc u],.buf true 1 ((ls.take i++u :: ls.drop i).map V.sc)][k]?)∧∀ k,3≤k→μ' k = none:=by
  intro w' cs' e he hroom q1 q2 q3 q4 q5 q6
  obtain ⟨g1,g2⟩:=axh (x:=2) hg rfl A (hmu 2 (zj _)) (by omega) q1 q2 q3 q4 q5 (by rw [yl];exact hroom) q6 y1
  rw [yl] at g1 g2
  rw [zb,yl]
  exact ⟨_,_,_,he,g2,by rw [ay8 rfl] at g1;exact g1,fun k hk=>by rw [QO _ _ (by omega)];exact hmu k (by omega)⟩
 have fin2:∀ (w':World) (cap:Nat) (cs':Array Value) (e:Ending),(ls.length + 1≤cap∧cap < 2 ^ 63)→e = .returned (.slice (some ⟨C.w0.heap.size,0,none⟩) (ls.length + 1) cap)→w'.heap[C.w0.heap.size]? = some (.cells cs' t (0,0))→cap≤cs'.size→(∀ k,k < C.w0.heap.size→w'.heap[k]? = C.w0.heap[k]?)→w'.heap.size = C.w0.heap.size + 1→XA C.dr C.w0 w' →
   (∀ (j:Nat) (x:Value),(ls.take i++u :: ls.drop i)[j]? = some x→cs'[j]? = some x) →
   ∃ v Z' μ',e = .returned v∧Rep w' Z' μ' v (.hd 2 0 ((ls.take i++u :: ls.drop i).map V.sc).length)∧Good C w' Z' μ' (fun k=>[Ob.dead,.buf true 1 [V.sc u],.buf true 1 ((ls.take i++u :: ls.drop i).map V.sc)][k]?)∧∀ k,3≤k→μ' k = none:=by
  intro w' cap cs' e hcap he q1 q2 q3 q4 q5 q6
  obtain ⟨μ',g1,g2,g3⟩:=grown (x:=2) (cap:=cap) hg hmu (by omega) q4 q3 q1 (by rw [yl];exact hcap) q2 q6 y1 q5
  rw [zb,yl]
  rw [yl] at g2
  have g4:=g1.kill (a:=0) (x:=.buf true 1 (ls.map V.sc)) (by rw [QO _ _ (by decide)];rfl)
  exact ⟨_,_,_,he,g2,by rw [ayk rfl] at g4;exact g4,fun k hk=>by rw [g3 k (by omega)];exact hmu k (by omega)⟩
 by_cases hroom:ls.length + 1≤c0.cap
 ·by_cases hin:i < ls.length
  ·refine (L.shift c0.block c0.base ls.length c0.cap i c1.block c1.base c1.cap ls u C.w0 t1 t0 cs1.size cs0.size hin hroom (by omega) hne rfl A.cell (fun j hj=>A.some (by omega)) (fun j _=>A.frozen _) uc h1 hu B.shape A.shape hkB (B.frozen _) (B.frozen _)).mono ?_
   rintro e w' ⟨he,rfl⟩
   obtain ⟨ca,p1,p2,p3,p4,p5⟩:=Km c0.block (ls.drop i) (c0.base + (i + 1)) C.w0.drew cs0 t0 f0 A.hp
   obtain ⟨cb,k1,k2,k3,k4,k5⟩:=Km c0.block [u] (c0.base + i) _ ca t0 f0 p1
   have dl:(ls.drop i).length = ls.length - i:=kF
   have hsome:∀ j,j < (ls.drop i).length→(C.w0.drew.cell? ⟨c0.block,c0.base + (i + 1) + j,none⟩).isSome = true:=fun j hj=>by
    have:=A.some (j:=i + 1 + j) (by omega)
    rw [show c0.base + (i + 1) + j = c0.base + (i + 1 + j) by omega];exact this
   refine fin _ cb e he hroom k1 (k2.trans p2) (fun k hk=>(k3 k hk).trans (p3 k hk)) (k4.trans p4) (XA.trans .mk (XA.trans (p5 _) (XA.trans .mk (k5 _)))) fun j x hx=>?_
   rcases ano hi hx with ⟨a1,a2⟩|⟨a1,a2⟩|⟨a1,a2⟩
   ·rw [World.cell?_setCells_out _ _ _ _ _ (fun _ _=>by simp;omega),World.cell?_setCells_out _ _ _ _ _ (fun _ _=>by simp;omega)]
    exact A.cell j x a2
   ·subst a1;subst a2
    have:=World.cell?_setCells_in c0.block [x] (c0.base + j) (C.w0.drew.setCells c0.block (c0.base + (j + 1)) (ls.drop j)) (fun q hq=>by
     have hq0:q = 0:=by simpa using hq
     subst hq0
     rw [Nat.add_zero,World.cell?_setCells_out _ _ _ _ _ (fun _ _=>by simp<;>omega)]
     exact A.some (j:=j) (by omega)) 0 (by simp)
    simpa using this
   ·rw [World.cell?_setCells_out _ _ _ _ _ (fun _ _=>by simp;omega)]
    obtain ⟨a3,a4⟩:=zl.1 a2
    have:=World.cell?_setCells_in c0.block (ls.drop i) (c0.base + (i + 1)) C.w0.drew hsome (j - (i + 1)) a3
    rw [show c0.base + (i + 1) + (j - (i + 1)) = c0.base + j by omega,a4] at this
    exact this
  ·obtain rfl:i = ls.length:=by omega
   have hs0:=A.some (j:=ls.length) (by omega)
   refine (L.endRoom c0.block c0.base ls.length c0.cap c1.block c1.base c1.cap u C.w0 hroom (by omega) hs0 (A.frozen _) uc hu).mono ?_
   rintro e w' ⟨he,rfl⟩
   obtain ⟨cb,k1,k2,k3,k4,k5⟩:=Km c0.block [u] (c0.base + ls.length) C.w0 cs0 t0 f0 A.hp
   refine fin _ cb e he hroom k1 k2 k3 k4 (k5 _) fun j x hx=>?_
   rcases ano hi hx with ⟨a1,a2⟩|⟨a1,a2⟩|⟨a1,a2⟩
   ·rw [World.cell?_setCells_out _ _ _ _ _ (fun _ _=>by simp;omega)]
    exact A.cell j x a2
   ·subst a2
    have:=World.cell?_setCells_in c0.block [x] (c0.base + ls.length) C.w0 (fun q hq=>by
     have hq0:q = 0:=by simpa using hq
     subst hq0;exact hs0) 0 (by simp)
    rw [a1];simpa using this
   ·simp at a2
 ·have hcap:=A.le
  have hcn:=A.n
  by_cases hin:i < ls.length
  ·refine (L.grow c0.block c0.base ls.length c0.cap i c1.block c1.base c1.cap ls u C.w0 hin (by omega) (by omega) hl31 rfl A.cell uc h1 hu).mono ?_
   rintro e w' ⟨cap,R,hcb,hR,hRv,he,rfl⟩
   have hn0:((C.w0.alloc (.cells R t)).drew).heap[C.w0.heap.size]? = some (.cells R t (0,0)):=heap_alloc_new
   obtain ⟨ca,p1,p2,p3,p4,p5⟩:=Km C.w0.heap.size [u] i (C.w0.alloc (.cells R t)).drew R t (0,0) hn0
   obtain ⟨cb,k1,k2,k3,k4,k5⟩:=Km C.w0.heap.size (ls.drop i) (i + 1) (((C.w0.alloc (.cells R t)).drew.setCells C.w0.heap.size i [u]).drew) ca t (0,0) p1
   have dl:(ls.drop i).length = ls.length - i:=kF
   have hRs:∀ j,j < cap→((C.w0.alloc (.cells R t)).drew.cell? ⟨C.w0.heap.size,j,none⟩).isSome = true:=fun j hj=>by
    rw [cell?_of_heap hn0,zS (by omega)];rfl
   have hsome:∀ j,j < (ls.drop i).length→((((C.w0.alloc (.cells R t)).drew.setCells C.w0.heap.size i [u]).drew).cell? ⟨C.w0.heap.size,(i + 1) + j,none⟩).isSome = true:=fun j hj=>by
    have:((C.w0.alloc (.cells R t)).drew.setCells C.w0.heap.size i [u]).cell? ⟨C.w0.heap.size,(i + 1) + j,none⟩ = _:=World.cell?_setCells_out _ _ _ _ _ (fun _ _=>by simp<;>omega)
    exact (congrArg Option.isSome this).trans (hRs _ (by omega))
   refine fin2 _ cap cb e hcb he k1 (by omega) (fun k hk=>(k3 k (by omega)).trans ((p3 k (by omega)).trans (Wn hk))) (k4.trans (p4.trans (World.size_alloc _ _))) (XA.trans (XA.trans .mk (p5 _)) (XA.trans .mk (k5 _))) fun j x hx=>?_
   rw [← cell?_of_heap k1]
   rcases ano hi hx with ⟨a1,a2⟩|⟨a1,a2⟩|⟨a1,a2⟩
   ·rw [World.cell?_setCells_out _ _ _ _ _ (fun _ _=>by simp;omega)]
    refine (World.cell?_setCells_out _ _ _ _ _ (fun _ _=>by simp;omega)).trans ?_
    rw [cell?_of_heap hn0];exact hRv j x a1 a2
   ·subst a1;subst a2
    have:=World.cell?_setCells_in C.w0.heap.size [x] j ((C.w0.alloc (.cells R t)).drew) (fun q hq=>by
     have hq0:q = 0:=by simpa using hq
     subst hq0;exact hRs j (by omega)) 0 (by simp)
    rw [World.cell?_setCells_out _ _ _ _ _ (fun _ _=>by simp<;>omega)]
    exact this
   ·obtain ⟨a3,a4⟩:=zl.1 a2
    have:=World.cell?_setCells_in C.w0.heap.size (ls.drop i) (i + 1) _ hsome (j - (i + 1)) a3
    rw [show (i + 1) + (j - (i + 1)) = j by omega,a4] at this
    exact this
  ·obtain rfl:i = ls.length:=by omega
   refine (L.endGrow (some ⟨c0.block,c0.base,none⟩) ls.length c0.cap c1.block c1.base c1.cap ls u C.w0 (by omega) (by omega) hl31 rfl (fun h=>by cases h) (fun a ha j x hx=>by cases ha;rw [U5];exact A.cell j x hx) uc hu).mono ?_
   rintro e w' ⟨cap,hcb,he,rfl⟩
   have hn0:(C.w0.drew.alloc (.cells ((ls++[u]).toArray++Builtin.zeroCells #[z] (cap - (ls.length + 1))) t)).heap[C.w0.heap.size]? = some (.cells ((ls++[u]).toArray++Builtin.zeroCells #[z] (cap - (ls.length + 1))) t (0,0)):=heap_alloc_new (w:=C.w0.drew)
   refine fin2 _ cap _ e hcb he hn0 (by rw [kG,JT];simp;omega) (fun k hk=>Wn (w:=C.w0.drew) hk) (World.size_alloc _ _) .mk fun j x hx=>?_
   rw [zG,Zv] at hx
   have hj:=(zl.1 hx).1
   rw [kS (by simpa using hj)]
   simpa using hx
theorem aoS {Γ:Env} {f:FuncId} {t:TypeId} {z:Value} (L:ayf Γ.P f t z) (own:Own Γ.P f) {u:Value} (hu:u.oneCell' = true) (hn:(V.sc u).noSl):EvW Γ f [af5,V.int 0,.sl 1 [V.sc u]] 1 [V.sc u]:=by
 refine ⟨fun C cargs hP hm hmu hg hF hsz hrep=>?_,by simpa using hn⟩
 subst hP
 have hm:C.m = 0:=hm
 have hsz:cargs.size = 3:=hsz
 obtain ⟨s,iv,v,rfl⟩:∃ s iv v,cargs = #[s,iv,v]:=⟨cargs[0],cargs[1],cargs[2],by
  apply ZP
  ·simpa using hsz
  ·intro k a1 a2
   match k,a2 with
   | 0,_|1,_|2,_=>rfl⟩
 have r0:Rep C.w0 C.Z0 C.μ0 s af5:=hrep 0 (by simp) (by simp)
 have r1:Rep C.w0 C.Z0 C.μ0 iv (V.int 0):=hrep 1 (by simp) (by simp)
 have r2:Rep C.w0 C.Z0 C.μ0 v (.sl 1 [V.sc u]):=hrep 2 (by simp) (by simp)
 have e0:=r0.scE.1
 have e1:=r1.scE.1
 obtain ⟨a,cp,e2,_,hr⟩:=r2.slE
 obtain ⟨bb,oo,rfl,hrow,_⟩:=hr (by simp)
 subst e0;subst e1;subst e2
 obtain ⟨x,c1,c2,c3⟩:=(hrow 0 (by simp)).2 0 (by simp [V.cells])
 have c3':Rep C.w0 C.Z0 noμ x (V.sc u):=by simpa [V.cells] using c3
 have:=c3'.scE.1
 subst this
 rw [JU own]
 refine (L.endGrow none 0 0 bb oo cp [] x C.w0 (zj _) (by omega) (by omega) rfl (fun _=>rfl) (fun a h=>by cases h) (by simpa using c1) hu).mono ?_
 rintro e w' ⟨cap,hcb,he,rfl⟩
 subst he
 obtain ⟨μ',g1,g2,g3⟩:=grown (x:=0) (cap:=cap) (ys:=[x]) (t:=t) hg (fun y _=>hmu y (zJ _)) (by omega) (w':=C.w0.drew.alloc (.cells (([]++[x]).toArray++Builtin.zeroCells #[z] (cap - (0 + 1))) t)) (World.size_alloc _ _) (fun k hk=>Wn (w:=C.w0.drew) hk) (heap_alloc_new (w:=C.w0.drew)) (by simpa using hcb) (by rw [kG,JT];simp;omega) (fun j u hj=>by
  have:=(zl.1 hj).1
  rw [kS (by simpa using this)];simpa using hj) (by simpa using hu) .mk
 refine ⟨_,_,_,rfl,g2,?_,fun k hk=>by rw [g3 k (by simp at hk;omega)];exact hmu k (zJ _)⟩
 have e:upd (fun k=>([]:List Ob)[k]?) 0 (some (.buf true 1 [V.sc x])) = fun k=>[Ob.buf true 1 [V.sc x]][k]?:=by
  funext k
  match k with
  | 0=>rfl
  | k + 1=>simp [upd]
 rw [← e];exact g1
structure awO (P:Program) (f:FuncId) (t:TypeId) (sz:Nat):Prop where
 room:∀ w:World,Calls P f #[.slice none 0 0,.int .i64 0] w fun e w'=>e = .returned (.slice none 0 0)∧w' = w
 grow:∀ (n:Nat) (w:World),0 < n→n < 2 ^ 30→Calls P f #[.slice none 0 0,.int .i64 n] w fun e w'=>∃ cap cells,cap < 2 ^ 63∧cap * sz≤cells.size∧e = .returned (.slice (some ⟨w.heap.size,0,none⟩) 0 cap)∧w' = w.drew.alloc (.cells cells t)
theorem aoT {Γ:Env} {f:FuncId} {t:TypeId} {sz:Nat} (L:awO Γ.P f t sz) (own:Own Γ.P f) {n:Nat} (hn:n < 2 ^ 30):EvW Γ f [.sc (.slice none 0 0),V.int n] sz []:=by
 refine ⟨fun C cargs hP hm hmu hg hF hsz hrep=>?_,by simp⟩
 subst hP
 have hm:C.m = 0:=hm
 have hsz:cargs.size = 2:=hsz
 obtain ⟨s,iv,rfl⟩:∃ s iv,cargs = #[s,iv]:=⟨cargs[0],cargs[1],by
  apply ZP
  ·simpa using hsz
  ·intro k a1 a2
   match k,a2 with
   | 0,_|1,_=>rfl⟩
 have r0:Rep C.w0 C.Z0 C.μ0 s af5:=hrep 0 (by simp) (by simp)
 have r1:Rep C.w0 C.Z0 C.μ0 iv (V.int n):=hrep 1 (by simp) (by simp)
 have e0:=r0.scE.1
 have e1:=r1.scE.1
 subst e0;subst e1
 have e:∀ z:Ob,upd (fun k=>([]:List Ob)[k]?) 0 (some z) = fun k=>[z][k]?:=fun z=>by
  funext k
  match k with
  | 0=>rfl
  | k + 1=>simp [upd]
 rw [JU own]
 cases n with
 | zero =>
   refine (L.room C.w0).mono ?_
   rintro e' w' ⟨rfl,rfl⟩
   have g:=Good.nil (sz:=sz) hg (hmu 0 (zj _)) (by omega)
   rw [e] at g
   exact ⟨_,_,_,rfl,.hd (Qk _ _ _) (by simp [Hdr]),g,fun k hk=>by rw [QO _ _ (by simp at hk;omega)];exact hmu k (zJ _)⟩
 | succ n =>
   refine (L.grow (n + 1) C.w0 (by omega) hn).mono ?_
   rintro e' w' ⟨cap,cells,h1,h2,rfl,rfl⟩
   obtain ⟨g1,g2,g3⟩:=abV (b:=0) (xs:=[]) (sz:=sz) (cap:=cap) (fr:=(0,0)) (e:=t) (cells:=cells) (wr:=true) hg (fun y _ _=>hmu y (zJ _)) (by omega) (w1:=C.w0.drew) rfl (fun k _=>by omega) (fun i hi=>by simp at hi) ⟨by simp,fun _=>h1⟩ h2
   rw [e] at g2
   exact ⟨_,_,_,rfl,g1,g2,fun k hk=>by rw [QO _ _ (by simp at hk;omega)];exact hmu k (zJ _)⟩
end Av
end
