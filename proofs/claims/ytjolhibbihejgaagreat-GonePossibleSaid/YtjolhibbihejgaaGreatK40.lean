/- slices.Sorted over slices.Values of ints: a new row of the elements, in order. -/
import Derived.Test.YtjolhibbihejgaaGreatK39
import Derived.Test.YtjolhibbihejgaaGreatK33
import Derived.Shelf.SlIterI.Sorted
set_option linter.unusedVariables false
set_option linter.unusedSimpArgs false
section
namespace Av
open Go Go.RowKit Go.Maps Go.Sort Go.Proofs Go.Shelf Go.Lib
section
variable {P:Program} {ρ:Ren}
set_option maxRecDepth 100000 in
set_option maxHeartbeats 2000000 in
theorem atu (L:SlLaysZI.n11 P ρ) (n:Nat) (hn:2≤n) (g:Nat) (eg:∀ args w,(callFunc g args).run P w = .ok (.enter g args) w) (law:IterLaw P g)
  (zs:List Int) (hN:zs.length < 2 ^ 40) (Bs Bo:Nat) (sv:Value) (w:World) (hBs:Bs < w.heap.size) (hsv:w.cell? ⟨Bs,Bo,none⟩ = some sv) (hI:agy w sv zs) :
  CallsIn Fence.wide n P (ρ.f 11) #[.slice none 0 0,.func (.func g) #[] #[.pointer (some ⟨Bs,Bo,none⟩)]] w fun e w'=>∃ v:Value,e = .returned v∧w'.ownsRow w.heap.size (ρ.t 26) 1 v zs.length (zs.map encZ)∧(v = .slice none 0 0↔zs = [])∧Below w.heap.size w w':=by
 have h1:1≤n:=by omega
 have mixed:=L.mixed;have t0:=L.t0;have a0:=L.a0;have z0:=L.z0;have v0:=L.v0;have t24:=L.t24;have a24:=L.a24;have z24:=L.z24;have v24:=L.v24;have t26:=L.t26;have a26:=L.a26;have z26:=L.z26;have v26:=L.v26;have t28:=L.t28;have a28:=L.a28;have z28:=L.z28;have v28:=L.v28
 have hne:ρ.t 24≠ρ.t 26:=fun e=>by have h:=L.t24;rw [e,L.t26] at h;cases h
 have u0:=run_underlying L.t0;have u24:=run_underlying L.t24;have u26:=run_underlying L.t26;have u28:=run_underlying L.t28
 obtain ⟨_,_,FG⟩:=L.f11
 refine callsIn_of_wp_marks (F:=Fence.wide) FG rfl trivial ?_ rfl
 simp only [SlBodyZ.n11_ntmps ρ,kL,List.length_cons,List.length_nil,Nat.reduceAdd,Nat.reduceSub,Array.replicate_succ,Array.replicate_zero,List.push_toArray,List.append_toArray,List.nil_append,List.cons_append]
 gi_wp2
 refine wpIn_rangeFunc ?_
 intro fn hfn
 obtain ⟨W0,hW0⟩:∃ W0,w.alloc (.cells #[.slice none 0 0] (ρ.t 24)) = W0:=⟨_,rfl⟩
 have hs0:W0.heap.size = w.heap.size + 1:=by rw [← hW0];simp
 have hv0:W0.heap[w.heap.size]? = some (.cells #[.slice none 0 0] (ρ.t 24) (0,0)):=by rw [← hW0];exact World.alloc_heap_new w _
 have hb0:Below w.heap.size w W0:=by rw [← hW0];exact (Below.refl _ w).alloc (zm _) _
 rw [hW0]
 obtain ⟨W1,hW1⟩:∃ W1,(W0.alloc (.deferred (some []))).alloc (.loop (AnyZI.apRec ρ fn (.func (.func g) #[] #[.pointer (some ⟨Bs,Bo,none⟩)]) w.heap.size W0.heap.size .ready none)) = W1:=⟨_,rfl⟩
 have hold:∀ k,k < W0.heap.size→W1.heap[k]? = W0.heap[k]?:=fun k hk=>by
  rw [← hW1];exact (Below.heap_alloc _ _ k (by simp;omega)).trans (Below.heap_alloc _ _ k hk)
 have hb1:Below w.heap.size w W1:=by rw [← hW1];exact (hb0.alloc hb0.size _).alloc (by have:=hb0.size;simp;omega) _
 have hs1:W1.heap.size = W0.heap.size + 2:=by rw [← hW1];simp
 have hM:AnyZI.ApAt ρ w fn (.func (.func g) #[] #[.pointer (some ⟨Bs,Bo,none⟩)]) w.heap.size (W0.heap.size + 1) W0.heap.size [] W1 :=
  ⟨⟨_,(hold w.heap.size (by omega)).trans hv0,⟨rfl,.inl ⟨rfl,rfl⟩⟩,by simp⟩,
   by rw [← hW1];have:=World.alloc_heap_new (W0.alloc (.deferred (some []))) (.loop (AnyZI.apRec ρ fn (.func (.func g) #[] #[.pointer (some ⟨Bs,Bo,none⟩)]) w.heap.size W0.heap.size .ready none));rwa [World.size_alloc] at this,
   by rw [← hW1];exact (Below.heap_alloc _ _ _ (by simp)).trans (World.alloc_heap_new W0 _),hb1⟩
 refine ⟨W0.heap.size + 1,[{ target:=.collected W0.heap.size,args:=#[] }],W1,{ target:=.fn (.func g) #[.pointer (some ⟨Bs,Bo,none⟩)],args:=#[.func (.yield (W0.heap.size + 1)) #[] #[]] },W1,g,
  #[.func (.yield (W0.heap.size + 1)) #[] #[]]++#[.pointer (some ⟨Bs,Bo,none⟩)],W1,?_,?_,?_,?_,fun _=>h1,?_⟩
 ·rw [← hW1];exact run_enterLoop_outer _ _ _ _ _
 ·simp [resolve,go_sem]
 ·intro f' hf';trivial
 ·simp [invoke,go_sem,eg]
 ·refine (law (n - 1) (W0.heap.size + 1) Bs Bo zs sv w W1 (AnyZI.ApAt ρ w fn (.func (.func g) #[] #[.pointer (some ⟨Bs,Bo,none⟩)]) w.heap.size (W0.heap.size + 1) W0.heap.size) (by omega) (by omega) hBs hsv hI (fun s W' h=>h.below)
   (fun pre x W hJ hl=>AnyZI.apYield { L with } Fence.wide (n - 1 - 1) w fn hfn _ w.heap.size (W0.heap.size + 1) W0.heap.size (by omega) (by omega) (by omega) (zm _) (by omega) zs.length (by unfold Go.maxLen;omega) (by omega) pre x W hJ hl) hM).mono ?_
  rintro e W2 ⟨⟨v0,rfl⟩,h2⟩
  obtain ⟨v,hv,hrow,hnil⟩:=h2.box
  have hend:=run_endLoop (P:=P) h2.L (by simp [AnyZI.apRec])
  obtain ⟨W3,hW3⟩:∃ W3,W2.putObj (W0.heap.size + 1) (.loop { AnyZI.apRec ρ fn (.func (.func g) #[] #[.pointer (some ⟨Bs,Bo,none⟩)]) w.heap.size W0.heap.size .ready none with state:=.exhausted }) = W3:=⟨_,rfl⟩
  rw [hW3] at hend
  have hg3:W2.grownBy W3 (some (W0.heap.size + 1)):=by rw [← hW3];exact grownBy_putObj_a _ _ _
  have hv3:W3.heap[w.heap.size]? = some (.cells #[v] (ρ.t 24) (0,0)):=by rw [← hW3];exact (World.putObj_heap_other (by omega)).trans hv
  have hK3:W3.heap[W0.heap.size]? = some (.deferred (some [])):=by rw [← hW3];exact (World.putObj_heap_other (by omega)).trans h2.K
  have hrow3:=hrow.kept hg3 (ownsRow_ne_a hrow h2.L (fun cur e=>by first|cases e|exact hne (Obj.cells.inj e).2.1))
  have hb3:Below w.heap.size w W3:=h2.below.grown hg3 h2.below.size (fun k e=>by cases e;omega)
  obtain ⟨hc3,hf3⟩:=cell_of_box_a hv3
  clear hW3
  refine ⟨none,W3,hend,?_⟩
  gi_wp2
  rw [← hs0]
  refine ⟨by simp,.inl ⟨_,_,rfl,run_takeDeferred hK3,?_⟩⟩
  exact ⟨_,results_tmp rfl _ _ _,v,rfl,hrow3.kept (grownBy_putObj_a _ _ _) (ownsRow_ne_a hrow3 hK3 (fun cur e=>by first|cases e|exact hne (Obj.cells.inj e).2.1)),hnil,hb3.grown (grownBy_putObj_a _ _ _) hb3.size (fun k e=>by cases e;omega)⟩
set_option maxRecDepth 100000 in
set_option maxHeartbeats 1000000 in
theorem arT (L:SlLaysZI.n8 P ρ) (n:Nat) (hn:3≤n) (g:Nat) (eg:∀ args w,(callFunc g args).run P w = .ok (.enter g args) w) (law:IterLaw P g)
  (zs:List Int) (hN:zs.length < 2 ^ 40) (Bs Bo:Nat) (sv:Value) (w:World) (hBs:Bs < w.heap.size) (hsv:w.cell? ⟨Bs,Bo,none⟩ = some sv) (hI:agy w sv zs) :
  CallsIn Fence.wide n P (ρ.f 8) #[.func (.func g) #[] #[.pointer (some ⟨Bs,Bo,none⟩)]] w fun e w'=>∃ v:Value,e = .returned v∧w'.ownsRow w.heap.size (ρ.t 26) 1 v zs.length (zs.map encZ)∧(v = .slice none 0 0↔zs = [])∧Below w.heap.size w w':=by
 have h1:1≤n:=by omega
 have e11:∀ args w,(callFunc (ρ.f 11) args).run P w = .ok (.enter (ρ.f 11) args) w:=L.f11.enters rfl
 have mixed:=L.mixed;have t0:=L.t0;have a0:=L.a0;have z0:=L.z0;have v0:=L.v0;have t24:=L.t24;have a24:=L.a24;have z24:=L.z24;have v24:=L.v24;have t26:=L.t26;have a26:=L.a26;have z26:=L.z26;have v26:=L.v26;have t28:=L.t28;have a28:=L.a28;have z28:=L.z28;have v28:=L.v28
 have u0:=run_underlying L.t0;have u24:=run_underlying L.t24;have u26:=run_underlying L.t26;have u28:=run_underlying L.t28
 have h11:Fence.wide.fn (ρ.f 11):=trivial
 obtain ⟨_,_,FG⟩:=L.f8
 refine callsIn_of_wp (F:=Fence.wide) FG rfl trivial ?_ rfl
 simp only [SlBodyZ.n8_ntmps ρ,kL,List.length_cons,List.length_nil,Nat.reduceAdd,Nat.reduceSub,Array.replicate_succ,Array.replicate_zero,List.push_toArray,List.append_toArray,List.nil_append,List.cons_append]
 gi_wp2_with (gi_at_fn (ρ.f 11);refine (atu { L with } (n - 1) (by omega) g eg law zs hN Bs Bo sv _ hBs hsv hI).mono ?_;rintro e w' ⟨v,rfl,hrow,hnil,hb⟩)
 go_ret
 exact ⟨v,rfl,hrow,hnil,hb⟩
set_option maxRecDepth 100000 in
set_option maxHeartbeats 2000000 in
theorem aq2 (L:SlLaysZI.n6 P ρ) (n:Nat) (hn:4≤n) (hsort:AnyZI.SortsIn P ρ Fence.wide (n - 1)) (e9:∀ args w,(callFunc (ρ.f 9) args).run P w = .ok (.enter (ρ.f 9) args) w) (g:Nat) (eg:∀ args w,(callFunc g args).run P w = .ok (.enter g args) w) (law:IterLaw P g)
  (zs:List Int) (hN:zs.length < 2 ^ 40) (Bs Bo:Nat) (sv:Value) (w:World) (hBs:Bs < w.heap.size) (hsv:w.cell? ⟨Bs,Bo,none⟩ = some sv) (hI:agy w sv zs) :
  CallsIn Fence.wide n P (ρ.f 6) #[.func (.func g) #[] #[.pointer (some ⟨Bs,Bo,none⟩)]] w fun e w'=>∃ v:Value,e = .returned v ∧
   w'.ownsRow w.heap.size (ρ.t 26) 1 v zs.length ((zs.mergeSort (fun x y=>decide (x≤y))).map encZ)∧(v = .slice none 0 0↔zs = [])∧Below w.heap.size w w':=by
 have h1:1≤n:=by omega
 have e8:∀ args w,(callFunc (ρ.f 8) args).run P w = .ok (.enter (ρ.f 8) args) w:=L.f8.enters rfl
 have mixed:=L.mixed;have t0:=L.t0;have a0:=L.a0;have z0:=L.z0;have v0:=L.v0;have t24:=L.t24;have a24:=L.a24;have z24:=L.z24;have v24:=L.v24;have t26:=L.t26;have a26:=L.a26;have z26:=L.z26;have v26:=L.v26;have t28:=L.t28;have a28:=L.a28;have z28:=L.z28;have v28:=L.v28
 have u0:=run_underlying L.t0;have u24:=run_underlying L.t24;have u26:=run_underlying L.t26;have u28:=run_underlying L.t28
 have h8:Fence.wide.fn (ρ.f 8):=trivial
 have h9:Fence.wide.fn (ρ.f 9):=trivial
 obtain ⟨_,_,FG⟩:=L.f6
 refine callsIn_of_wp (F:=Fence.wide) FG rfl trivial ?_ rfl
 simp only [SlBodyZ.n6_ntmps ρ,kL,List.length_cons,List.length_nil,Nat.reduceAdd,Nat.reduceSub,Array.replicate_succ,Array.replicate_zero,List.push_toArray,List.append_toArray,List.nil_append,List.cons_append]
 gi_wp2_with (gi_at_fn (ρ.f 8);refine (arT { L with } (n - 1) (by omega) g eg law zs hN Bs Bo sv _ hBs hsv hI).mono ?_;rintro e W ⟨v,rfl,hrow,hnil,hb⟩)
 rcases hrow.2 with ⟨rfl,hz⟩|⟨gb,cap,cur,rfl,hbase,hgb,r1,r2,r3,r4⟩
 ·have hss:zs = []:=kj hz
  subst hss
  gi_wp2_with (gi_at_fn (ρ.f 9);refine (hsort.2 none 0 W).mono ?_;rintro e w' ⟨rfl,rfl⟩)
  go_ret
  exact ⟨.slice none 0 0,rfl,by simpa using hrow,by simp,hb⟩
 ·have hH:Holds encZ W gb 0 zs.toArray:=holds_of_block_i hgb (by simpa using r4)
  have hgl:gb < W.heap.size:=(zR.1 hgb).1
  have hsz:zs.length < 4611686018427387904:=by omega
  have cS:=hsort.1 gb 0 cap zs W hH hgl hsz
  gi_wp2_with (gi_at_fn (ρ.f 9);refine cS.mono ?_;rintro e w' ⟨rfl,nn,os,rfl⟩)
  go_ret
  exact ⟨_,rfl,ownsRow_sorted_i (by simp) hbase hgb r1 r2 r3,hnil,hb.grown (grownBy_sorted_i _) hb.size (fun j hj=>by cases hj;exact hbase)⟩
end
theorem an4 {w:World} {Z:Nat→Nat→Prop} {μ:Nat→Option Cn} {v:Value} {xs:List Int} (h:Rep w Z μ v (.sl 1 (xs.map V.int))):agy w v xs:=by
 obtain ⟨ad,cap,rfl,_,hx⟩:=h.slE
 by_cases hn:xs = []
 ·subst hn;exact .inl ⟨rfl,_,_,rfl⟩
 ·obtain ⟨bb,oo,rfl,hrow,_⟩:=hx (by simpa using hn)
  have hc:∀ j,j < xs.length→w.cell? ⟨bb,oo + j,none⟩ = some (.int .i64 (xs[j]?.getD 0)):=by
   intro j hj
   obtain ⟨x,c1,c2,c3⟩:=(hrow j (by simpa using hj)).2 0 (by simp [V.cells])
   have c3':Rep w Z noμ x (V.int xs[j]):=by simpa [V.cells] using c3
   have:=c3'.scE.1
   subst this
   rw [zd hj]
   simpa using c1
  refine .inr ⟨bb,oo,cap,by rw [zb],?_,hc⟩
  have h0:=hc 0 (kK.2 hn)
  rcases kR bb w.heap.size with h|h
  ·exact h
  ·simp [World.cell?,Zu h] at h0
theorem amn {Γ:Env} {f g:FuncId} {T:TypeId} (own:Own Γ.P f) (hd:¬ Γ.dr)
  (law:∀ (zs:List Int),zs.length < 2 ^ 40→∀ (Bs Bo:Nat) (sv:Value) (w:World),Bs < w.heap.size→w.cell? ⟨Bs,Bo,none⟩ = some sv→agy w sv zs →
    Calls Γ.P f #[.func (.func g) #[] #[.pointer (some ⟨Bs,Bo,none⟩)]] w fun e w'=>∃ v:Value,e = .returned v ∧
     w'.ownsRow w.heap.size T 1 v zs.length ((zs.mergeSort (fun x y=>decide (x≤y))).map encZ)∧(v = .slice none 0 0↔zs = [])∧Below w.heap.size w w')
  {xs ys:List Int} (hl:xs.length < 2 ^ 40) (hys:(xs.mergeSort fun x y=>decide (x≤y)) = ys) :
  EvC Γ f [.clo (.n g) [.ro [.sl 1 (xs.map V.int)] 0]] (.sl 1 (ys.map V.int)):=by
 have hyl:ys.length = xs.length:=by rw [← hys,List.length_mergeSort]
 refine ⟨fun C cargs hP hm hmu hg hF hsz hrep=>?_,trivial⟩
 subst hP
 have hsz:cargs.size = 1:=hsz
 obtain ⟨s,rfl⟩:∃ s,cargs = #[s]:=⟨cargs[0],by
  apply Z3
  ·simpa using hsz
  ·intro i a1 a2
   match i,a2 with
   | 0,_=>rfl⟩
 have r0:Rep C.w0 C.Z0 C.μ0 s (.clo (.n g) [.ro [.sl 1 (xs.map V.int)] 0]):=hrep 0 (by simp) (by simp)
 obtain ⟨cs,rfl,hl0,hr0⟩:=r0.cloE
 have hl1:cs.size = 1:=hl0
 obtain ⟨p,rfl⟩:∃ p,cs = #[p]:=⟨cs[0],by
  apply Z3
  ·simpa using hl1
  ·intro i a1 a2
   match i,a2 with
   | 0,_=>rfl⟩
 have r1:Rep C.w0 C.Z0 C.μ0 p (.ro [.sl 1 (xs.map V.int)] 0):=hr0 0 (by simp) (by simp)
 obtain ⟨b,o,fv,rfl,hc,hr⟩:=r1.roE
 obtain ⟨c1,c2,c3⟩:=hc 0 (by simp)
 have r2:Rep C.w0 C.Z0 noμ (fv 0) (.sl 1 (xs.map V.int)):=hr 0 (by simp)
 rw [Xg own]
 refine (law xs hl b (o + 0) (fv 0) C.w0 (hg.zlt _ _ c2) c1 (an4 r2)).mono ?_
 rintro e w' ⟨v,rfl,hrow,hnil,hb⟩
 rw [hys] at hrow
 have gd:∀ Z':Nat→Nat→Prop,(∀ b i,Z' b i→b < w'.heap.size)→(∀ b i,Z' b i→C.Z0 b i∨C.w0.heap.size≤b)→(∀ b i,C.Z0 b i→Z' b i)→QW C w' Z' C.μ0 (fun k=>([]:List Ob)[k]?):=fun Z' z1 z2 z3 =>
  ⟨fun a x h=>by simp at h,fun a b x y c d _ h=>by simp at h,z1,hb.size,fun b h _=>hb.block b h,fun b i h=>(z2 b i h).elim .inl fun h=>.inr (.inl h),z3,fun b i h=>by simp [World.cell?,hb.block b (hg.zlt b i h)],fun k _=>rfl,⟨hb.os,hb.tape,hb.output,fun h=>(hd h).elim⟩⟩
 rcases hrow.2 with ⟨rfl,hz⟩|⟨gb,cap,cur,rfl,hbase,hgb,q1,q2,q3,q4⟩
 ·have hy:ys = []:=kj (by omega)
  subst hy
  exact ⟨_,C.Z0,C.μ0,rfl,.sl0,gd _ (fun b i h=>kr (hg.zlt b i h) hb.size) (fun b i h=>.inl h) (fun b i h=>h),fun k hk=>hmu k (by simp)⟩
 ·have hgl:gb < w'.heap.size:=(zR.1 hgb).1
  have hcell:∀ j (hj:j < ys.length),w'.cell? ⟨gb,j,none⟩ = some (.int .i64 ys[j]):=by
   intro j hj
   have hj2:j < cur.toList.length:=by
    rw [Array.length_toList,q3];omega
   have e1:cur.toList[j]? = some (encZ ys[j]):=by
    have e2:(cur.toList.take (xs.length * 1))[j]? = some (encZ ys[j]):=by
     rw [q4,zk,zd hj];rfl
    rwa [List.getElem?_take_of_lt (by omega)] at e2
   simp only [World.cell?,hgb]
   have e3:cur[j]? = some (encZ ys[j]):=by rw [← ZT];exact e1
   simp [e3,encZ]
  refine ⟨_,fun b i=>C.Z0 b i∨(b = gb∧i < ys.length),C.μ0,rfl,?_,gd _ (fun b i h=>?_) (fun b i h=>?_) (fun b i h=>.inl h),fun k hk=>hmu k (by simp)⟩
  ·have hlm:(ys.map V.int).length = xs.length:=by rw [zb,hyl]
   rw [← hlm]
   refine .sl (fun i _=>.int .i64 (ys[i]?.getD 0)) (by omega) (fun i hi=>by simp [V.cells]) (fun i hi j hj=>?_) (fun i hi j hj=>?_)
   ·have hi':i < ys.length:=by simpa using hi
    have hj0:j = 0:=by simpa [V.cells] using hj
    subst hj0
    refine ⟨?_,.inr ⟨rfl,by omega⟩,rfl⟩
    rw [zd hi']
    have:=hcell i hi'
    simpa using this
   ·have hi':i < ys.length:=by simpa using hi
    have hj0:j = 0:=by simpa [V.cells] using hj
    subst hj0
    rw [zd hi']
    simp only [zQ,V.cells,Option.getD_some,List.getElem_cons_zero]
    exact .sc rfl
  ·rcases h with h|⟨rfl,_⟩
   ·exact kr (hg.zlt b i h) hb.size
   ·exact hgl
  ·rcases h with h|⟨rfl,_⟩
   ·exact .inl h
   ·exact .inr hbase
theorem ard {w:World} {Z:Nat→Nat→Prop} {μ ν:Nat→Option Cn} {v:Value} {sz:Nat} {xs:List V} (h:Rep w Z μ v (.sl sz xs)):Rep w Z ν v (.sl sz xs):=by
 cases h with
 | sl0=>exact .sl0
 | sl f2 h1 h2 h3 h4=>exact .sl f2 h1 h2 h3 h4
theorem amm {Γ:Env} {f g:FuncId} {T:TypeId} (own:Own Γ.P f)
  (law:∀ (a:Option Addr) (len cap:Nat) (w:World),Calls Γ.P f #[.slice a len cap] w fun e w'=>e = .returned (.func (.func g) #[] #[.pointer (some ⟨w.heap.size,0,none⟩)])∧w' = w.alloc (.cells #[.slice a len cap] T))
  (xs:List Int):EvC Γ f [.sl 1 (xs.map V.int)] (.clo (.n g) [.ro [.sl 1 (xs.map V.int)] 0]):=by
 refine ⟨fun C cargs hP hm hmu hg hF hsz hrep=>?_,by simp [V.closed,Qd]⟩
 subst hP
 have hsz:cargs.size = 1:=hsz
 obtain ⟨s,rfl⟩:∃ s,cargs = #[s]:=⟨cargs[0],by
  apply Z3
  ·simpa using hsz
  ·intro i a1 a2
   match i,a2 with
   | 0,_=>rfl⟩
 have r0:Rep C.w0 C.Z0 C.μ0 s (.sl 1 (xs.map V.int)):=hrep 0 (by simp) (by simp)
 obtain ⟨ad,cap,e0,_,hx⟩:=r0.slE
 subst e0
 rw [Xg own]
 refine (law ad _ cap C.w0).mono ?_
 rintro e w' ⟨rfl,rfl⟩
 obtain ⟨w',hw'⟩:∃ w',C.w0.alloc (.cells #[.slice ad (xs.map V.int).length cap] T) = w':=⟨_,rfl⟩
 have hb:Below C.w0.heap.size C.w0 w':=by rw [← hw'];exact (Below.refl _ _).alloc (zm _) _
 have hn:w'.heap[C.w0.heap.size]? = some (.cells #[.slice ad (xs.map V.int).length cap] T (0,0)):=by rw [← hw'];exact World.alloc_heap_new C.w0 _
 have hs:w'.heap.size = C.w0.heap.size + 1:=by rw [← hw'];simp
 have hdr:Xq C.dr C.w0 w':=by rw [← hw'];exact .mk
 rw [hw']
 have hcl:w'.cell? ⟨C.w0.heap.size,0,none⟩ = some (.slice ad (xs.map V.int).length cap):=by simp [World.cell?,hn]
 refine ⟨_,fun b i=>C.Z0 b i∨(b = C.w0.heap.size∧i = 0),C.μ0,rfl,?_,⟨fun a x h=>by simp at h,fun a b x y c d _ h=>by simp at h,fun b i h=>?_,hb.size,fun b h _=>hb.block b h,fun b i h=>?_,fun b i h=>.inl h,fun b i h=>by simp [World.cell?,hb.block b (hg.zlt b i h)],fun k _=>rfl,hdr⟩,fun k hk=>hmu k (by simp)⟩
 ·refine .clo rfl fun j hj hj'=>?_
  match j,hj with
  | 0,_ =>
    refine .ro (b:=C.w0.heap.size) (o:=0) (off:=0) (fun _=>.slice ad (xs.map V.int).length cap) (fun j hj=>?_) (fun j hj=>?_)
    ·match j,hj with
     | 0,_=>exact ⟨hcl,.inr ⟨rfl,rfl⟩,rfl⟩
    ·match j,hj with
     | 0,_ =>
       refine Rep.mono (w:=C.w0) (Z:=C.Z0) (μ:=noμ) (fun b i h=>by simp [World.cell?,hb.block b (hg.zlt b i h)]) (fun b i h=>.inl h) (fun a c h=>h) ?_
       exact ard r0
 ·rcases h with h|⟨rfl,_⟩
  ·exact kr (hg.zlt b i h) hb.size
  ·omega
 ·rcases h with h|⟨rfl,_⟩
  ·exact .inl h
  ·exact .inr (.inl (zm _))
end Av
end
