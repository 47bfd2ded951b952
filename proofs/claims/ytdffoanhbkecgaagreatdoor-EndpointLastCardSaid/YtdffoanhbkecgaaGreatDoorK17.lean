/- What the first world of the versions' rows gives, and the library's contracts there. -/
import Derived.Test.YtdffoanhbkecgaaGreatDoorProg
import Derived.Test.YtdffoanhbkecgaaGreatDoorK1
import Derived.Test.YtdffoanhbkecgaaGreatDoorK10
import Derived.Test.YtdffoanhbkecgaaGreatDoorK16
import Derived.Lib.SplitLaws
set_option linter.unusedVariables false
set_option linter.unusedSimpArgs false
section
namespace Go.Proofs.YtdffoanhbkecgaaGreatDoor
open Go Av Go.RowKit
set_option maxRecDepth 100000
structure WOK (W:World):Prop where
  maxLen:∃ m,W.cell? ⟨0,0,none⟩ = some (.int .i64 m)
  pow:Lib.TabIs Tryz.prog W "internal/strconv.uint64pow10" .u64 Lib.pow10Tab
  syn:∃ t p,W.cell? ⟨1,0,none⟩ = some (.iface t p)
  rng:∃ t p,W.cell? ⟨2,0,none⟩ = some (.iface t p)
def aj4 (W w:World):Prop:=∀ b x,(Yf Tryz.prog W).kn b = some x→w.heap[b]? = some x
theorem aj4.cell {W w:World} (h:aj4 W w) {b i:Nat} {v:Value} (hc:W.cell? ⟨b,i,none⟩ = some v):w.cell? ⟨b,i,none⟩ = some v:=by
  unfold World.cell? at hc ⊢
  cases hb:W.heap[b]? with
  | none=>simp [hb] at hc
  | some x=>rw [h b x hb];rw [hb] at hc;exact hc
theorem aj4.tab {W w:World} (h:aj4 W w) {n:String} {k:IntKind} {zs:List Int} (ht:Lib.TabIs Tryz.prog W n k zs):Lib.TabIs Tryz.prog w n k zs:=by
  unfold Lib.TabIs World.var? at ht ⊢
  cases hg:Tryz.prog.globalNamed n with
  | none=>simp [hg] at ht
  | some g =>
    simp only [hg,Option.bind_some] at ht ⊢
    cases hb:W.heap[g]? with
    | none=>simp [hb] at ht
    | some x=>rw [h g x hb];rw [hb] at ht;exact ht
theorem WOK.keeps {W w:World} (hW:WOK W) (h:aj4 W w):WOK w :=
  ⟨by obtain ⟨m,hm⟩:=hW.maxLen;exact ⟨m,h.cell hm⟩,h.tab hW.pow,by obtain ⟨t,p,hm⟩:=hW.syn;exact ⟨t,p,h.cell hm⟩,by obtain ⟨t,p,hm⟩:=hW.rng;exact ⟨t,p,h.cell hm⟩⟩
theorem amK:Own Tryz.prog 63:=⟨Tryz.f63,Tryz.func63,by decide,_,rfl⟩
theorem amI:Own Tryz.prog 84:=⟨Tryz.f84,Tryz.func84,by decide,_,rfl⟩
theorem amH:Own Tryz.prog 85:=⟨Tryz.f85,Tryz.func85,by decide,_,rfl⟩
theorem amG:Own Tryz.prog 86:=⟨Tryz.f86,Tryz.func86,by decide,_,rfl⟩
theorem amJ:Own Tryz.prog 75:=⟨Tryz.f75,Tryz.func75,by decide,_,rfl⟩
theorem aeo (W:World) (hW:WOK W):vI (Yf Tryz.prog W) 85:=by
  intro n h0 h1
  refine ⟨ajG (cv:=[.int .i64 n]) (res:=.string ⟨(Lib.itoa n).toArray⟩) (fun _ _ _=>.sc rfl) ?_,trivial,trivial⟩
  intro w hk
  have:=Tryz.strconv_Itoa n h0 h1 w (hW.keeps hk).pow
  show Uo Tryz.prog 85 _ w _
  refine (qB amH _ _ _).2 (this.mono fun e w' ⟨he,k,os,hw⟩=>?_)
  subst he;subst hw
  refine ⟨rfl,?_,fun b hb=>?_,⟨rfl,rfl,rfl⟩⟩
  · simp [Go.Sort.grow]
  · have hb':b < (w.drewN k).heap.size:=hb
    simp only [Go.Sort.grow,Array.getElem?_append,if_pos hb']
    rfl
theorem ahd (w:World) (t:ByteArray):Below w.heap.size w (Lib.bytesWorld w 5 t) :=
  ⟨rfl,rfl,rfl,by rw [Lib.bytesWorld_size];omega,fun k hk=>Lib.bytesWorld_at_old w 5 t k hk⟩
theorem alB {Γ:Env} {f:FuncId} {cv:List Value} {rv:Value} {v ve:V} (hr:∀ w Z μ,Rep w Z μ rv v)
    (h:∀ w,(∀ b x,Γ.kn b = some x→w.heap[b]? = some x)→Uo Γ.P f cv.toArray w fun e w'=>(∃ x,e = .returned (.tuple #[rv,x])∧∀ w Z μ,Rep w Z μ x ve)∧Below w.heap.size w w'):Ev Γ f (cv.map .sc) [] (.tup [v,ve]) []:=by
  intro C cargs hP hm hmu hg hF hsz hrep
  subst hP
  have hargs:cargs = cv.toArray:=by
    apply Array.ext
    · simpa using hsz
    · intro i h1 h2
      have:=hrep i (by simpa using h2) h1
      simp only [List.getElem_map] at this
      simpa using this.scE.1
  subst hargs
  have mono:∀ (e:Ending) (w':World),((∃ x,e = .returned (.tuple #[rv,x])∧∀ w Z μ,Rep w Z μ x ve)∧Below C.w0.heap.size C.w0 w')→∃ u Z' μ',e = .returned u∧Rep w' Z' μ' u (.tup [v,ve])∧Av.Good C w' Z' μ' (fun k=>([]:List Ob)[k]?)∧∀ k,([]:List Ob).length≤k→μ' k = none:=by
    rintro e w' ⟨⟨x,rfl,hx⟩,hb⟩
    refine ⟨_,C.Z0,C.μ0,rfl,.tup rfl (fun j h h'=>?_),⟨fun a x h=>by simp at h,fun a b x y c d _ h=>by simp at h,fun b i h=>Nat.lt_of_lt_of_le (hg.zlt b i h) hb.size,hb.size,fun b h _=>hb.block b h,fun b i h=>.inl h,fun b i h=>h,fun b i h=>by simp [World.cell?,hb.block b (hg.zlt b i h)],fun k _=>rfl,⟨hb.os,hb.tape,hb.output⟩⟩,fun k hk=>hmu k (by simp)⟩
    match j,h with
    | 0,_=>exact hr _ _ _
    | 1,_=>exact hx _ _ _
  have:=h C.w0 (fun b x h=>(C.hkn b x h).1)
  simp only [Uo,Ctx.env] at this ⊢
  split at this
  · exact mono _ _ this
  · exact Calls.mono this (fun e w' h=>mono e w' h)
  · exact Rows.mono this (fun v w' h=>mono _ _ h)
  · exact this.elim
theorem aep (W:World) (hW:WOK W):vJ (Yf Tryz.prog W) 84:=by
  intro s hs
  have sz:(⟨s.toArray⟩:ByteArray).size = s.length:=acY s
  refine ⟨alB (cv:=[.string ⟨s.toArray⟩]) (rv:=.int .i64 (qK s)) (ve:=ajH s) (fun _ _ _=>.sc rfl) ?_,?_,?_⟩
  · intro w hk
    have hw:=hW.keeps hk
    show Uo Tryz.prog 84 _ w _
    refine (qB amI _ _ _).2 ?_
    rcases ha:Lib.atoiAll s with v|_|_
    · skip
      have:=Tryz.strconv_Atoi_ok ⟨s.toArray⟩ (by omega) v (by simpa using ha) w
      refine this.mono fun e w' ⟨he,hw'⟩=>?_
      subst he
      refine ⟨⟨.nilIface,by simp [qK,ha],fun _ _ _=>by rw [ajH,ha];exact .sc rfl⟩,?_⟩
      rcases hw' with rfl|⟨t,rfl⟩
      · exact Below.refl _ _
      · exact ahd _ _
    · skip
      obtain ⟨t,p,hc⟩:=hw.syn
      have:=Tryz.strconv_Atoi_syntax ⟨s.toArray⟩ (by omega) (by simpa using ha) _ w hc (.inr ⟨t,p,rfl⟩)
      refine this.mono fun e w' ⟨N,he,_,_,hb⟩=>?_
      subst he
      exact ⟨⟨_,by simp only [qK,ha];rfl,fun _ _ _=>by rw [ajH,ha];exact .nn⟩,hb⟩
    · skip
      obtain ⟨t,p,hc⟩:=hw.rng
      have:=Tryz.strconv_Atoi_range ⟨s.toArray⟩ (by omega) (by simpa using ha) _ w hc (.inr ⟨t,p,rfl⟩)
      refine this.mono fun e w' ⟨N,he,_,_,hb⟩=>?_
      subst he
      exact ⟨⟨_,by simp only [qK,ha];rfl,fun _ _ _=>by rw [ajH,ha];exact .nn⟩,hb⟩
  · unfold ajH;split<;>simp only [V.closed,Qw,and_self]
  · unfold ajH;split<;>simp only [V.noSl,JL,and_self]
theorem ahw (c:UInt8):∀ (p t:List UInt8),c ∉ p→Lib.index (p++c :: t) [c] = (p.length:Int)
  | [],t,_=>by rw [List.nil_append,Lib.index];simp [List.isPrefixOf]
  | x :: p,t,h=>by
    simp only [List.mem_cons,not_or] at h
    have hp:([c]:List UInt8).isPrefixOf (x :: (p++c :: t)) = false:=by simp [List.isPrefixOf,h.1]
    rw [List.cons_append,Lib.index,hp,ahw c p t h.2]
    have:¬ ((p.length:Int) == -1) = true:=by simp
    simp only [Bool.false_eq_true,if_false]
    rw [if_neg this];simp
theorem aey (c:UInt8):∀ (p cur t:List UInt8),c ∉ p→Wn c cur (p++c :: t) = (cur++p) :: Wn c [] t
  | [],cur,t,_=>by simp [Wn]
  | x :: p,cur,t,h=>by
    simp only [List.mem_cons,not_or] at h
    rw [List.cons_append,Wn,if_neg (fun e=>h.1 e.symm),aey c p _ t h.2];simp
theorem aex (c:UInt8):∀ (n:Nat) (s:List UInt8),s.count c = n→Lib.splitK [c] 0 n s = Yh c s
  | 0,s,h=>by
    have hn:c ∉ s:=List.count_eq_zero.1 h
    have:Yh c s = [s]:=by simpa [Yh] using ada c s [] hn
    rw [this];rfl
  | n + 1,s,h=>by
    have hm:c∈s:=List.count_pos_iff.1 (by omega)
    obtain ⟨p,t,rfl,hp⟩:=List.eq_append_cons_of_mem hm
    rw [Lib.splitK,ahw c p t hp]
    have:¬ ((p.length:Int) == -1) = true:=by simp
    rw [if_neg this]
    have h2:t.count c = n:=by
      rw [List.count_append,List.count_cons_self,List.count_eq_zero.2 hp] at h;omega
    have e1:(p++c :: t).take ((p.length:Int).toNat + 0) = p:=by simp
    have e2:(p++c :: t).drop ((p.length:Int).toNat + [c].length) = t:=by simp
    rw [e1,e2,aex c n t h2]
    show p :: Yh c t = Wn c [] (p++c :: t)
    rw [aey c p [] t hp];rfl
theorem yD (c:UInt8):∀ (s cur:List UInt8),(Wn c cur s).length = s.count c + 1
  | [],cur=>by simp [Wn]
  | x :: s,cur=>by
    rw [Wn];split
    · rename_i h;subst h;rw [List.length_cons,yD x s [],List.count_cons_self]
    · rename_i h;rw [yD c s,List.count_cons_of_ne (by simpa using h)]
theorem alA {Γ:Env} {f:FuncId} {cv:List Value} {xs:List (List UInt8)}
    (h:∀ w,(∀ b x,Γ.kn b = some x→w.heap[b]? = some x)→Uo Γ.P f cv.toArray w fun e w'=>∃ t:TypeId,e = .returned (.slice (some ⟨w.heap.size,0,none⟩) xs.length xs.length)∧w' = w.alloc (.cells ((xs.map fun s=>Value.string ⟨s.toArray⟩).toArray) t)) :
    Ev Γ f (cv.map .sc) [] (.sl 1 (xs.map V.str)) []:=by
  intro C cargs hP hm hmu hg hF hsz hrep
  subst hP
  have hargs:cargs = cv.toArray:=by
    apply Array.ext
    · simpa using hsz
    · intro i h1 h2
      have:=hrep i (by simpa using h2) h1
      simp only [List.getElem_map] at this
      simpa using this.scE.1
  subst hargs
  refine (h C.w0 (fun b x h=>(C.hkn b x h).1)).mono ?_
  rintro e w' ⟨t,rfl,rfl⟩
  have hcell:∀ i,(hi:i < xs.length)→(C.w0.alloc (.cells ((xs.map fun s=>Value.string ⟨s.toArray⟩).toArray) t)).cell? ⟨C.w0.heap.size,i,none⟩ = some (.string ⟨(xs[i]).toArray⟩):=by
    intro i hi
    rw [cell?_of_heap Av.heap_alloc_new]
    simp [hi]
  refine ⟨_,fun b i=>C.Z0 b i∨(b = C.w0.heap.size∧i < xs.length),C.μ0,rfl,?_,⟨fun a x h=>by simp at h,fun a b x y c d _ h=>by simp at h,?_,by simp,fun b hb _=>wb hb,?_,fun b i h=>.inl h,fun b i h=>VR (hg.zlt b i h),fun k _=>rfl,⟨rfl,rfl,rfl⟩⟩,fun k hk=>hmu k (by simp)⟩
  · have hl:(xs.map V.str).length = xs.length:=by simp
    rw [← hl]
    refine Rep.sl (fun i j=>.string ⟨(xs.getD i []).toArray⟩) (Nat.le_refl _) (fun i hi=>by simp [V.cells]) (fun i hi j hj=>?_) (fun i hi j hj=>?_)
    · have hi':i < xs.length:=by simpa using hi
      have hj':j = 0:=by simp [V.cells] at hj;exact hj
      subst hj'
      refine ⟨?_,.inr ⟨rfl,by omega⟩,rfl⟩
      simp [List.getD_eq_getElem?_getD,List.getElem?_eq_getElem hi',hcell i hi']
    · have hi':i < xs.length:=by simpa using hi
      have hj':j = 0:=by simp [V.cells] at hj;exact hj
      subst hj'
      simp only [List.getElem_map,V.cells,List.getElem_cons_zero]
      simp only [List.getD_eq_getElem?_getD,List.getElem?_eq_getElem hi',Option.getD_some]
      exact .sc rfl
  · intro b i h
    rcases h with h|⟨rfl,_⟩
    · have:=hg.zlt b i h;simp;omega
    · simp
  · intro b i h
    rcases h with h|⟨rfl,_⟩
    · exact .inl h
    · exact .inr (.inl (Nat.le_refl _))
theorem vF (W:World) (hW:WOK W):jC (Yf Tryz.prog W) 63:=by
  intro s c hs
  refine ⟨alA (cv:=[.string ⟨s.toArray⟩,.string ⟨[c].toArray⟩]) (xs:=Yh c s) ?_,by simp only [V.closed]⟩
  intro w hk
  obtain ⟨m,hm⟩:=(hW.keeps hk).maxLen
  have:=Tryz.strings_Split ⟨s.toArray⟩ ⟨[c].toArray⟩ m w (by rw [acY];exact hs) hm (by simp [ByteArray.size])
  show Uo Tryz.prog 63 _ w _
  refine (qB amK _ _ _).2 (this.mono fun e w' ⟨he,hw⟩=>⟨9,?_,?_⟩)
  · have h1:Lib.countB ⟨s.toArray⟩ ⟨[c].toArray⟩ = s.count c:=by
      show Lib.count _ _ = _
      simp [Lib.count_one]
    have h2:(Yh c s).length = s.count c + 1:=yD c s []
    rw [he,h1,h2]
  · have h1:Lib.countB ⟨s.toArray⟩ ⟨[c].toArray⟩ = s.count c:=by
      show Lib.count _ _ = _
      simp [Lib.count_one]
    have h3:=Lib.splitB_data ⟨[c].toArray⟩ 0 (s.count c) ⟨s.toArray⟩
    have h4:Lib.splitK [c] 0 (s.count c) s = Yh c s:=aex c _ s rfl
    have h5:(Lib.splitB ⟨[c].toArray⟩ 0 (s.count c) ⟨s.toArray⟩).map Value.string = (Yh c s).map fun s=>Value.string ⟨s.toArray⟩:=by
      have h6:(Lib.splitB ⟨[c].toArray⟩ 0 (s.count c) ⟨s.toArray⟩).map (·.data.toList) = Yh c s:=by rw [h3];simpa using h4
      rw [← h6,List.map_map]
      refine List.map_congr_left fun x _=>?_
      simp
    rw [hw,h1,h5]
theorem adW (W:World) (hW:WOK W):wZ (Yf Tryz.prog W) 86:=by
  intro s c hs
  refine ⟨ajG (cv:=[.string ⟨s.toArray⟩,.string ⟨[c].toArray⟩]) (res:=.int .i64 (((Yh c s).length - 1:Nat):Int)) (fun _ _ _=>.sc rfl) ?_,trivial,trivial⟩
  intro w hk
  have:=Tryz.strings_Count_one ⟨s.toArray⟩ c w
  show Uo Tryz.prog 86 _ w _
  refine (qB amG _ _ _).2 (this.mono fun e w' ⟨he,hw⟩=>?_)
  subst he;subst hw
  have h2:(Yh c s).length = s.count c + 1:=yD c s []
  refine ⟨?_,Nat.le_refl _,fun _ _=>rfl,⟨rfl,rfl,rfl⟩⟩
  rw [h2];rfl
theorem ym (W:World) (hW:WOK W):UV (Yf Tryz.prog W) 75:=by
  intro s c
  refine ⟨ajG (cv:=[.string ⟨s.toArray⟩,.int .u8 c.toNat]) (res:=.int .i64 (Lib.indexByte s c)) (fun _ _ _=>.sc rfl) ?_,trivial,trivial⟩
  intro w hk
  have:=Tryz.strings_IndexByte ⟨s.toArray⟩ c.toNat w
  show Uo Tryz.prog 75 _ w _
  refine (qB amJ _ _ _).2 (this.mono fun e w' ⟨he,hw⟩=>?_)
  subst he;subst hw
  refine ⟨?_,Nat.le_refl _,fun _ _=>rfl,⟨rfl,rfl,rfl⟩⟩
  simp
end Go.Proofs.YtdffoanhbkecgaaGreatDoor
end
