/- What the first world of the versions' rows gives, and the library's contracts there. -/
import Derived.Test.YtjnbmkoekngljaaGreatDoorProg
import Derived.Test.YtjnbmkoekngljaaGreatDoorK1
import Derived.Test.YtjnbmkoekngljaaGreatDoorK10
import Derived.Test.YtjnbmkoekngljaaGreatDoorK14
import Derived.Lib.SplitLaws
set_option linter.unusedVariables false
set_option linter.unusedSimpArgs false
section
namespace Go.Proofs.YtjnbmkoekngljaaGreatDoor
open Go Av Go.RowKit
set_option maxRecDepth 100000
structure WOK (W:World):Prop where
 maxLen:∃ m,W.cell? ⟨0,0,none⟩ = some (.int .i64 m)
 pow:Lib.TabIs Tryz.prog W "internal/strconv.uint64pow10" .u64 Lib.pow10Tab
 syn:∃ t p,W.cell? ⟨2,0,none⟩ = some (.iface t p)
 rng:∃ t p,W.cell? ⟨3,0,none⟩ = some (.iface t p)
def aul (W w:World):Prop:=∀ b x,(JO Tryz.prog W).kn b = some x→w.heap[b]? = some x
theorem aul.cell {W w:World} (h:aul W w) {b i:Nat} {v:Value} (hc:W.cell? ⟨b,i,none⟩ = some v):w.cell? ⟨b,i,none⟩ = some v:=by
 unfold World.cell? at hc ⊢
 cases hb:W.heap[b]? with
 | none=>simp [hb] at hc
 | some x=>rw [h b x hb];rw [hb] at hc;exact hc
theorem aul.tab {W w:World} (h:aul W w) {n:String} {k:IntKind} {zs:List Int} (ht:Lib.TabIs Tryz.prog W n k zs):Lib.TabIs Tryz.prog w n k zs:=by
 unfold Lib.TabIs World.var? at ht ⊢
 cases hg:Tryz.prog.globalNamed n with
 | none=>simp [hg] at ht
 | some g =>
   simp only [hg,Option.bind_some] at ht ⊢
   cases hb:W.heap[g]? with
   | none=>simp [hb] at ht
   | some x=>rw [h g x hb];rw [hb] at ht;exact ht
theorem WOK.keeps {W w:World} (hW:WOK W) (h:aul W w):WOK w :=
 ⟨by obtain ⟨m,hm⟩:=hW.maxLen;exact ⟨m,h.cell hm⟩,h.tab hW.pow,by obtain ⟨t,p,hm⟩:=hW.syn;exact ⟨t,p,h.cell hm⟩,by obtain ⟨t,p,hm⟩:=hW.rng;exact ⟨t,p,h.cell hm⟩⟩
theorem axk:Own Tryz.prog 128:=⟨Tryz.f128,Tryz.func128,by decide,_,rfl⟩
theorem axj:Own Tryz.prog 151:=⟨Tryz.f151,Tryz.func151,by decide,_,rfl⟩
theorem ax3:Own Tryz.prog 67:=⟨Tryz.f67,Tryz.func67,by decide,_,rfl⟩
theorem axh:Own Tryz.prog 29:=⟨Tryz.f29,Tryz.func29,by decide,_,rfl⟩
theorem axi:Own Tryz.prog 152:=⟨Tryz.f152,Tryz.func152,by decide,_,rfl⟩
theorem axl:Own Tryz.prog 119:=⟨Tryz.f119,Tryz.func119,by decide,_,rfl⟩
theorem afx (W:World) (hW:WOK W):vf (JO Tryz.prog W) 67:=by
 intro n h0 h1
 refine ⟨atI (cv:=[.int .i64 n]) (res:=.string ⟨(Lib.itoa n).toArray⟩) (fun _ _ _=>.sc rfl) ?_,trivial,trivial⟩
 intro w hk
 have:=Tryz.strconv_Itoa n h0 h1 w (hW.keeps hk).pow
 show WW Tryz.prog 67 _ w _
 refine (Ub ax3 _ _ _).2 (this.mono fun e w' ⟨he,k,os,hw⟩=>?_)
 subst he;subst hw
 refine ⟨rfl,?_,fun b hb=>?_,⟨rfl,rfl,rfl⟩⟩
 ·simp [Go.Sort.grow]
 ·have hb':b < (w.drewN k).heap.size:=hb
  simp only [Go.Sort.grow,Array.getElem?_append,if_pos hb']
  rfl
theorem aqk (w:World) (t:ByteArray):Below w.heap.size w (Lib.bytesWorld w 5 t) :=
 ⟨rfl,rfl,rfl,by rw [Lib.bytesWorld_size];omega,fun k hk=>Lib.bytesWorld_at_old w 5 t k hk⟩
theorem awu {Γ:Env} {f:FuncId} {cv:List Value} {rv:Value} {v ve:V} (hr:∀ w Z μ,Rep w Z μ rv v)
  (h:∀ w,(∀ b x,Γ.kn b = some x→w.heap[b]? = some x)→WW Γ.P f cv.toArray w fun e w'=>(∃ x,e = .returned (.tuple #[rv,x])∧∀ w Z μ,Rep w Z μ x ve)∧Below w.heap.size w w'):Ev Γ f (cv.map .sc) [] (.tup [v,ve]) []:=by
 intro C cargs hP hm hmu hg hF hsz hrep
 subst hP
 have hargs:cargs = cv.toArray:=by
  apply Array.ext
  ·simpa using hsz
  ·intro i h1 h2
   have:=hrep i (by simpa using h2) h1
   simp only [List.getElem_map] at this
   simpa using this.scE.1
 subst hargs
 have mono:∀ (e:Ending) (w':World),((∃ x,e = .returned (.tuple #[rv,x])∧∀ w Z μ,Rep w Z μ x ve)∧Below C.w0.heap.size C.w0 w')→∃ u Z' μ',e = .returned u∧Rep w' Z' μ' u (.tup [v,ve])∧Av.Good C w' Z' μ' (fun k=>([]:List Ob)[k]?)∧∀ k,([]:List Ob).length≤k→μ' k = none:=by
  rintro e w' ⟨⟨x,rfl,hx⟩,hb⟩
  refine ⟨_,C.Z0,C.μ0,rfl,.tup rfl (fun j h h'=>?_),⟨fun a x h=>by simp at h,fun a b x y c d _ h=>by simp at h,fun b i h=>Nat.lt_of_lt_of_le (hg.zlt b i h) hb.size,hb.size,fun b h _=>hb.block b h,fun b i h=>.inl h,fun b i h=>h,fun b i h=>by simp [World.cell?,hb.block b (hg.zlt b i h)],fun k _=>rfl,⟨hb.os,hb.tape,hb.output⟩⟩,fun k hk=>hmu k (by simp)⟩
  match j,h with
  | 0,_=>exact hr _ _ _
  | 1,_=>exact hx _ _ _
 have:=h C.w0 (fun b x h=>(C.hkn b x h).1)
 simp only [WW,Ctx.env] at this ⊢
 split at this
 ·exact mono _ _ this
 ·exact Calls.mono this (fun e w' h=>mono e w' h)
 ·exact Rows.mono this (fun v w' h=>mono _ _ h)
 ·exact this.elim
theorem amb (W:World) (hW:WOK W):aeq (JO Tryz.prog W) 151:=by
 intro s hs
 have sz:(⟨s.toArray⟩:ByteArray).size = s.length:=aj0 s
 refine ⟨awu (cv:=[.string ⟨s.toArray⟩]) (rv:=.int .i64 (wS s)) (ve:=atJ s) (fun _ _ _=>.sc rfl) ?_,?_,?_⟩
 ·intro w hk
  have hw:=hW.keeps hk
  show WW Tryz.prog 151 _ w _
  refine (Ub axj _ _ _).2 ?_
  rcases ha:Lib.atoiAll s with v|_|_
  ·skip
   have:=Tryz.strconv_Atoi_ok ⟨s.toArray⟩ (by omega) v (by simpa using ha) w
   refine this.mono fun e w' ⟨he,hw'⟩=>?_
   subst he
   refine ⟨⟨.nilIface,by simp [wS,ha],fun _ _ _=>by rw [atJ,ha];exact .sc rfl⟩,?_⟩
   rcases hw' with rfl|⟨t,rfl⟩
   ·exact Below.refl _ _
   ·exact aqk _ _
  ·skip
   obtain ⟨t,p,hc⟩:=hw.syn
   have:=Tryz.strconv_Atoi_syntax ⟨s.toArray⟩ (by omega) (by simpa using ha) _ w hc (.inr ⟨t,p,rfl⟩)
   refine this.mono fun e w' ⟨N,he,_,_,hb⟩=>?_
   subst he
   exact ⟨⟨_,by simp only [wS,ha];rfl,fun _ _ _=>by rw [atJ,ha];exact .nn⟩,hb⟩
  ·skip
   obtain ⟨t,p,hc⟩:=hw.rng
   have:=Tryz.strconv_Atoi_range ⟨s.toArray⟩ (by omega) (by simpa using ha) _ w hc (.inr ⟨t,p,rfl⟩)
   refine this.mono fun e w' ⟨N,he,_,_,hb⟩=>?_
   subst he
   exact ⟨⟨_,by simp only [wS,ha];rfl,fun _ _ _=>by rw [atJ,ha];exact .nn⟩,hb⟩
 ·unfold atJ;split<;>simp only [V.closed,closedL,and_self]
 ·unfold atJ;split<;>simp only [V.noSl,abd,and_self]
theorem aqK (c:UInt8):∀ (p t:List UInt8),c ∉ p→Lib.index (p++c :: t) [c] = (p.length:Int)
 | [],t,_=>by rw [List.nil_append,Lib.index];simp [List.isPrefixOf]
 | x :: p,t,h=>by
   simp only [List.mem_cons,not_or] at h
   have hp:([c]:List UInt8).isPrefixOf (x :: (p++c :: t)) = false:=by simp [List.isPrefixOf,h.1]
   rw [List.cons_append,Lib.index,hp,aqK c p t h.2]
   have:¬ ((p.length:Int) == -1) = true:=by simp
   simp only [Bool.false_eq_true,if_false]
   rw [if_neg this];simp
theorem amq (c:UInt8):∀ (p cur t:List UInt8),c ∉ p→X4 c cur (p++c :: t) = (cur++p) :: X4 c [] t
 | [],cur,t,_=>by simp [X4]
 | x :: p,cur,t,h=>by
   simp only [List.mem_cons,not_or] at h
   rw [List.cons_append,X4,if_neg (fun e=>h.1 e.symm),amq c p _ t h.2];simp
theorem amp (c:UInt8):∀ (n:Nat) (s:List UInt8),s.count c = n→Lib.splitK [c] 0 n s = Yu c s
 | 0,s,h=>by
   have hn:c ∉ s:=List.count_eq_zero.1 h
   have:Yu c s = [s]:=by simpa [Yu] using akf c s [] hn
   rw [this];rfl
 | n + 1,s,h=>by
   have hm:c∈s:=List.count_pos_iff.1 (by omega)
   obtain ⟨p,t,rfl,hp⟩:=List.eq_append_cons_of_mem hm
   rw [Lib.splitK,aqK c p t hp]
   have:¬ ((p.length:Int) == -1) = true:=by simp
   rw [if_neg this]
   have h2:t.count c = n:=by
    rw [List.count_append,List.count_cons_self,List.count_eq_zero.2 hp] at h;omega
   have e1:(p++c :: t).take ((p.length:Int).toNat + 0) = p:=by simp
   have e2:(p++c :: t).drop ((p.length:Int).toNat + [c].length) = t:=by simp
   rw [e1,e2,amp c n t h2]
   show p :: Yu c t = X4 c [] (p++c :: t)
   rw [amq c p [] t hp];rfl
theorem vL (c:UInt8):∀ (s cur:List UInt8),(X4 c cur s).length = s.count c + 1
 | [],cur=>by simp [X4]
 | x :: s,cur=>by
   rw [X4];split
   ·rename_i h;subst h;rw [List.length_cons,vL x s [],List.count_cons_self]
   ·rename_i h;rw [vL c s,List.count_cons_of_ne (by simpa using h)]
theorem awt {Γ:Env} {f:FuncId} {cv:List Value} {xs:List (List UInt8)}
  (h:∀ w,(∀ b x,Γ.kn b = some x→w.heap[b]? = some x)→WW Γ.P f cv.toArray w fun e w'=>∃ t:TypeId,e = .returned (.slice (some ⟨w.heap.size,0,none⟩) xs.length xs.length)∧w' = w.alloc (.cells ((xs.map fun s=>Value.string ⟨s.toArray⟩).toArray) t)) :
  Ev Γ f (cv.map .sc) [] (.sl 1 (xs.map V.str)) []:=by
 intro C cargs hP hm hmu hg hF hsz hrep
 subst hP
 have hargs:cargs = cv.toArray:=by
  apply Array.ext
  ·simpa using hsz
  ·intro i h1 h2
   have:=hrep i (by simpa using h2) h1
   simp only [List.getElem_map] at this
   simpa using this.scE.1
 subst hargs
 refine (h C.w0 (fun b x h=>(C.hkn b x h).1)).mono ?_
 rintro e w' ⟨t,rfl,rfl⟩
 have hcell:∀ i,(hi:i < xs.length)→(C.w0.alloc (.cells ((xs.map fun s=>Value.string ⟨s.toArray⟩).toArray) t)).cell? ⟨C.w0.heap.size,i,none⟩ = some (.string ⟨(xs[i]).toArray⟩):=by
  intro i hi
  rw [cell?_of_heap Av.heap_alloc_new]
  simp [hi]
 refine ⟨_,fun b i=>C.Z0 b i∨(b = C.w0.heap.size∧i < xs.length),C.μ0,rfl,?_,⟨fun a x h=>by simp at h,fun a b x y c d _ h=>by simp at h,?_,by simp,fun b hb _=>abM hb,?_,fun b i h=>.inl h,fun b i h=>Va (hg.zlt b i h),fun k _=>rfl,⟨rfl,rfl,rfl⟩⟩,fun k hk=>hmu k (by simp)⟩
 ·have hl:(xs.map V.str).length = xs.length:=by simp
  rw [← hl]
  refine Rep.sl (fun i j=>.string ⟨(xs.getD i []).toArray⟩) (Nat.le_refl _) (fun i hi=>by simp [V.cells]) (fun i hi j hj=>?_) (fun i hi j hj=>?_)
  ·have hi':i < xs.length:=by simpa using hi
   have hj':j = 0:=by simp [V.cells] at hj;exact hj
   subst hj'
   refine ⟨?_,.inr ⟨rfl,by omega⟩,rfl⟩
   simp [List.getD_eq_getElem?_getD,List.getElem?_eq_getElem hi',hcell i hi']
  ·have hi':i < xs.length:=by simpa using hi
   have hj':j = 0:=by simp [V.cells] at hj;exact hj
   subst hj'
   simp only [List.getElem_map,V.cells,List.getElem_cons_zero]
   simp only [List.getD_eq_getElem?_getD,List.getElem?_eq_getElem hi',Option.getD_some]
   exact .sc rfl
 ·intro b i h
  rcases h with h|⟨rfl,_⟩
  ·have:=hg.zlt b i h;simp;omega
  ·simp
 ·intro b i h
  rcases h with h|⟨rfl,_⟩
  ·exact .inl h
  ·exact .inr (.inl (Nat.le_refl _))
theorem aek (W:World) (hW:WOK W):yM (JO Tryz.prog W) 128:=by
 intro s c hs
 refine ⟨awt (cv:=[.string ⟨s.toArray⟩,.string ⟨[c].toArray⟩]) (xs:=Yu c s) ?_,by simp only [V.closed]⟩
 intro w hk
 obtain ⟨m,hm⟩:=(hW.keeps hk).maxLen
 have:=Tryz.strings_Split ⟨s.toArray⟩ ⟨[c].toArray⟩ m w (by rw [aj0];exact hs) hm (by simp [ByteArray.size])
 show WW Tryz.prog 128 _ w _
 refine (Ub axk _ _ _).2 (this.mono fun e w' ⟨he,hw⟩=>⟨9,?_,?_⟩)
 ·have h1:Lib.countB ⟨s.toArray⟩ ⟨[c].toArray⟩ = s.count c:=by
   show Lib.count _ _ = _
   simp [Lib.count_one]
  have h2:(Yu c s).length = s.count c + 1:=vL c s []
  rw [he,h1,h2]
 ·have h1:Lib.countB ⟨s.toArray⟩ ⟨[c].toArray⟩ = s.count c:=by
   show Lib.count _ _ = _
   simp [Lib.count_one]
  have h3:=Lib.splitB_data ⟨[c].toArray⟩ 0 (s.count c) ⟨s.toArray⟩
  have h4:Lib.splitK [c] 0 (s.count c) s = Yu c s:=amp c _ s rfl
  have h5:(Lib.splitB ⟨[c].toArray⟩ 0 (s.count c) ⟨s.toArray⟩).map Value.string = (Yu c s).map fun s=>Value.string ⟨s.toArray⟩:=by
   have h6:(Lib.splitB ⟨[c].toArray⟩ 0 (s.count c) ⟨s.toArray⟩).map (·.data.toList) = Yu c s:=by rw [h3];simpa using h4
   rw [← h6,List.map_map]
   refine List.map_congr_left fun x _=>?_
   simp
  rw [hw,h1,h5]
theorem atH {Γ:Env} {f:FuncId} {xs:List (List UInt8)} {sep r:List UInt8}
  (h:∀ w b o c,(∀ (j:Nat) x,(xs.map fun s=>(⟨s.toArray⟩:ByteArray))[j]? = some x→w.cell? ⟨b,o + j,none⟩ = some (.string x))→b < w.heap.size→xs.length≤c→xs≠[] →
    WW Γ.P f #[.slice (some ⟨b,o,none⟩) xs.length c,.string ⟨sep.toArray⟩] w fun e w'=>e = .returned (.string ⟨r.toArray⟩)∧Below w.heap.size w w')
  (h0:xs = []→∀ w a c,WW Γ.P f #[.slice a 0 c,.string ⟨sep.toArray⟩] w fun e w'=>e = .returned (.string ⟨r.toArray⟩)∧Below w.heap.size w w') :
  Ev Γ f [.sl 1 (xs.map V.str),V.str sep] [] (V.str r) []:=by
 intro C cargs hP hm hmu hg hF hsz hrep
 subst hP
 obtain ⟨v0,v1,rfl⟩:∃ v0 v1,cargs = #[v0,v1]:=by
  have h2:cargs.size = 2:=by simpa using hsz
  exact ⟨cargs[0],cargs[1],by
   apply Array.ext
   ·simpa using h2
   ·intro i h1 h3
    match i,h3 with
    | 0,_=>rfl
    | 1,_=>rfl⟩
 have r0:Rep C.w0 C.Z0 C.μ0 v0 (.sl 1 (xs.map V.str)):=hrep 0 (by simp) (by simp)
 have r1:Rep C.w0 C.Z0 C.μ0 v1 (V.str sep):=hrep 1 (by simp) (by simp)
 obtain ⟨rfl,_⟩:=r1.scE
 obtain ⟨a,cap,rfl,hcap,hrow⟩:=r0.slE
 have fin:∀ (e:Ending) (w':World),(e = .returned (.string ⟨r.toArray⟩)∧Below C.w0.heap.size C.w0 w')→∃ u Z' μ',e = .returned u∧Rep w' Z' μ' u (V.str r)∧Av.Good C w' Z' μ' (fun k=>([]:List Ob)[k]?)∧∀ k,([]:List Ob).length≤k→μ' k = none:=by
  rintro e w' ⟨rfl,hb⟩
  exact ⟨_,C.Z0,C.μ0,rfl,.sc rfl,⟨fun a x h=>by simp at h,fun a b x y c d _ h=>by simp at h,fun b i h=>Nat.lt_of_lt_of_le (hg.zlt b i h) hb.size,hb.size,fun b h _=>hb.block b h,fun b i h=>.inl h,fun b i h=>h,fun b i h=>by simp [World.cell?,hb.block b (hg.zlt b i h)],fun k _=>rfl,⟨hb.os,hb.tape,hb.output⟩⟩,fun k hk=>hmu k (by simp)⟩
 by_cases hx:xs = []
 ·subst hx
  exact (h0 rfl C.w0 a cap).mono fin
 ·obtain ⟨bb,oo,rfl,hr,hz⟩:=hrow (by simpa using hx)
  have hl:(xs.map V.str).length = xs.length:=by simp
  rw [hl] at hcap ⊢
  have hpos:0 < xs.length:=by cases xs with|nil=>exact absurd rfl hx|cons _ _=>simp
  have hb:bb < C.w0.heap.size:=hg.zlt bb _ (hz 0 (by simpa using hpos) 0 (by simp [V.cells]))
  refine (h C.w0 bb oo cap (fun j x hj=>?_) hb hcap hx).mono fin
  obtain ⟨hj1,hj2⟩:=List.getElem?_eq_some_iff.1 hj
  have hj3:j < xs.length:=by simpa using hj1
  obtain ⟨_,hc⟩:=hr j (by simpa using hj3)
  obtain ⟨v,e1,_,e3⟩:=hc 0 (by simp [V.cells])
  have e4:Rep C.w0 C.Z0 noμ v (V.str xs[j]):=by simpa [V.cells] using e3
  obtain ⟨rfl,_⟩:=e4.scE
  have:x = ⟨(xs[j]).toArray⟩:=by rw [← hj2];simp
  rw [this]
  simpa using e1
theorem afw (W:World) (_hW:WOK W):vd (JO Tryz.prog W) 29:=by
 intro xs sep hn hl
 refine ⟨atH (fun w b o c hc hb hcap hx=>?_) (fun hx w a c=>?_),trivial,trivial⟩
 ·have e1:((xs.map fun s=>(⟨s.toArray⟩:ByteArray)).map (·.data.toList)) = xs:=by
   rw [List.map_map]
   conv=>rhs;rw [← List.map_id xs]
   exact List.map_congr_left fun s _=>by simp
  have hjo:Lib.join ((xs.map fun s=>(⟨s.toArray⟩:ByteArray)).map (·.data.toList)) (⟨sep.toArray⟩:ByteArray).data.toList = sep.intercalate xs:=by rw [e1];simp [Lib.join]
  have hlen:(xs.map fun s=>(⟨s.toArray⟩:ByteArray)).length = xs.length:=by simp
  have:=Tryz.strings_Join b o c (xs.map fun s=>⟨s.toArray⟩) ⟨sep.toArray⟩ w hc hb (by omega) (by omega) (by rw [hjo];omega)
  rw [hjo,hlen] at this
  exact (Ub axh _ _ _).2 this
 ·subst hx
  exact (Ub axh _ _ _).2 ((Tryz.strings_Join_none a c ⟨sep.toArray⟩ w).mono fun e w' ⟨he,hw⟩=>⟨by rw [he];simp [List.intercalate],hw ▸ Below.refl _ _⟩)
theorem aln (W:World) (hW:WOK W):acP (JO Tryz.prog W) 152:=by
 intro s c hs
 refine ⟨atI (cv:=[.string ⟨s.toArray⟩,.string ⟨[c].toArray⟩]) (res:=.int .i64 (((Yu c s).length - 1:Nat):Int)) (fun _ _ _=>.sc rfl) ?_,trivial,trivial⟩
 intro w hk
 have:=Tryz.strings_Count_one ⟨s.toArray⟩ c w
 show WW Tryz.prog 152 _ w _
 refine (Ub axi _ _ _).2 (this.mono fun e w' ⟨he,hw⟩=>?_)
 subst he;subst hw
 have h2:(Yu c s).length = s.count c + 1:=vL c s []
 refine ⟨?_,Nat.le_refl _,fun _ _=>rfl,⟨rfl,rfl,rfl⟩⟩
 rw [h2];rfl
theorem w9 (W:World) (hW:WOK W):Uz (JO Tryz.prog W) 119:=by
 intro s c
 refine ⟨atI (cv:=[.string ⟨s.toArray⟩,.int .u8 c.toNat]) (res:=.int .i64 (Lib.indexByte s c)) (fun _ _ _=>.sc rfl) ?_,trivial,trivial⟩
 intro w hk
 have:=Tryz.strings_IndexByte ⟨s.toArray⟩ c.toNat w
 show WW Tryz.prog 119 _ w _
 refine (Ub axl _ _ _).2 (this.mono fun e w' ⟨he,hw⟩=>?_)
 subst he;subst hw
 refine ⟨?_,Nat.le_refl _,fun _ _=>rfl,⟨rfl,rfl,rfl⟩⟩
 simp
end Go.Proofs.YtjnbmkoekngljaaGreatDoor
end
