/- The library's contracts at this seat. -/
import Derived.Test.YtjobognfgjobfaaGreatDoorK32
import Derived.Test.YtjobognfgjobfaaGreatDoorK13
import Derived.Lib.SplitLaws
import Derived.Test.YtjobognfgjobfaaGreatDoorK33
import Derived.Test.YtjobognfgjobfaaGreatDoorK35
import Derived.Test.YtjobognfgjobfaaGreatDoorK36
import Derived.Test.YtjobognfgjobfaaGreatDoorK37
import Derived.Laws.AppendOwn
import Derived.Sort.Walk0
import Derived.Shelf.Slices.In.SortNone
set_option linter.unusedVariables false
set_option linter.unusedSimpArgs false
section
namespace Go.Proofs.YtjobognfgjobfaaGreatDoor
open Go Av Go.RowKit
set_option maxRecDepth 100000
set_option linter.unusedVariables false
structure WOK (W:World):Prop where
 maxLen:∃ m,W.cell? ⟨0,0,none⟩ = some (.int .i64 m)
 pow:Lib.TabIs Tryz.prog W "internal/strconv.uint64pow10" .u64 Lib.pow10Tab
 syn:∃ t p,W.cell? ⟨3,0,none⟩ = some (.iface t p)
 rng:∃ t p,W.cell? ⟨4,0,none⟩ = some (.iface t p)
def as0 (W w:World):Prop:=∀ b x,(aeL Tryz.prog W).kn b = some x→w.heap[b]? = some x
theorem as0.cell {W w:World} (h:as0 W w) {b i:Nat} {v:Value} (hc:W.cell? ⟨b,i,none⟩ = some v):w.cell? ⟨b,i,none⟩ = some v:=by
 unfold World.cell? at hc ⊢
 cases hb:W.heap[b]? with
 | none=>simp [hb] at hc
 | some x=>rw [h b x hb];rw [hb] at hc;exact hc
theorem as0.tab {W w:World} (h:as0 W w) {n:String} {k:IntKind} {zs:List Int} (ht:Lib.TabIs Tryz.prog W n k zs):Lib.TabIs Tryz.prog w n k zs:=by
 unfold Lib.TabIs World.var? at ht ⊢
 cases hg:Tryz.prog.globalNamed n with
 | none=>simp [hg] at ht
 | some g =>
   simp only [hg,Option.bind_some] at ht ⊢
   cases hb:W.heap[g]? with
   | none=>simp [hb] at ht
   | some x=>rw [h g x hb];rw [hb] at ht;exact ht
theorem WOK.keeps {W w:World} (hW:WOK W) (h:as0 W w):WOK w :=
 ⟨by obtain ⟨m,hm⟩:=hW.maxLen;exact ⟨m,h.cell hm⟩,h.tab hW.pow,by obtain ⟨t,p,hm⟩:=hW.syn;exact ⟨t,p,h.cell hm⟩,by obtain ⟨t,p,hm⟩:=hW.rng;exact ⟨t,p,h.cell hm⟩⟩
theorem ayv:Av.Own Tryz.prog 52:=⟨Tryz.f52,Tryz.func52,by decide,_,rfl⟩
theorem axj:Av.Own Tryz.prog 234:=⟨Tryz.f234,Tryz.func234,by decide,_,rfl⟩
theorem axi:Av.Own Tryz.prog 235:=⟨Tryz.f235,Tryz.func235,by decide,_,rfl⟩
theorem ayw:Av.Own Tryz.prog 51:=⟨Tryz.f51,Tryz.func51,by decide,_,rfl⟩
theorem axk:Av.Own Tryz.prog 227:=⟨Tryz.f227,Tryz.func227,by decide,_,rfl⟩
theorem ai6 (W:World) (hW:WOK W):abI (aeL Tryz.prog W) 235:=by
 intro n h0 h1
 refine ⟨af9 (cv:=[.int .i64 n]) (res:=.string ⟨(Lib.itoa n).toArray⟩) (fun _ _ _=>.sc rfl) ?_,trivial,trivial⟩
 intro w hk
 have:=Tryz.strconv_Itoa n h0 h1 w (hW.keeps hk).pow
 show Xy Tryz.prog 235 _ w _
 refine (JU axi _ _ _).2 (this.mono fun e w' ⟨he,k,os,hw⟩=>?_)
 subst he;subst hw
 refine ⟨rfl,?_,fun b hb=>?_,XA.mk⟩
 ·simp [Go.Sort.grow]
 ·have hb':b < (w.drewN k).heap.size:=hb
  simp only [Go.Sort.grow,Zi,if_pos hb']
  rfl
theorem anS (w:World) (t:ByteArray):Below w.heap.size w (Lib.bytesWorld w 5 t) :=
 ⟨rfl,rfl,rfl,by rw [Lib.bytesWorld_size];omega,fun k hk=>Lib.bytesWorld_at_old w 5 t k hk⟩
theorem awb {Γ:Env} {f:FuncId} {cv:List Value} {rv:Value} {v ve:V} (hd:¬ Γ.dr) (hr:∀ w Z μ,Rep w Z μ rv v)
  (h:∀ w,(∀ b x,Γ.kn b = some x→w.heap[b]? = some x)→Xy Γ.P f cv.toArray w fun e w'=>(∃ x,e = .returned (.tuple #[rv,x])∧∀ w Z μ,Rep w Z μ x ve)∧Below w.heap.size w w'):Ev Γ f (cv.map .sc) [] (.tup [v,ve]) []:=by
 intro C cargs hP hm hmu hg hF hsz hrep
 subst hP
 have hargs:cargs = cv.toArray:=by
  apply ZP
  ·simpa using hsz
  ·intro i h1 h2
   have:=hrep i (by simpa using h2) h1
   simp only [zX] at this
   simpa using this.scE.1
 subst hargs
 have mono:∀ (e:Ending) (w':World),((∃ x,e = .returned (.tuple #[rv,x])∧∀ w Z μ,Rep w Z μ x ve)∧Below C.w0.heap.size C.w0 w')→∃ u Z' μ',e = .returned u∧Rep w' Z' μ' u (.tup [v,ve])∧Av.Good C w' Z' μ' (fun k=>([]:List Ob)[k]?)∧∀ k,([]:List Ob).length≤k→μ' k = none:=by
  rintro e w' ⟨⟨x,rfl,hx⟩,hb⟩
  refine ⟨_,C.Z0,C.μ0,rfl,.tup rfl (fun j h h'=>?_),⟨fun a x h=>by simp at h,fun a b x y c d _ h=>by simp at h,fun b i h=>kT (hg.zlt b i h) hb.size,hb.size,fun b h _=>hb.block b h,fun b i h=>.inl h,fun b i h=>h,fun b i h=>by simp [World.cell?,hb.block b (hg.zlt b i h)],fun k _=>rfl,⟨hb.os,hb.tape,hb.output,fun h=>absurd h hd⟩⟩,fun k hk=>hmu k (by simp)⟩
  match j,h with
  | 0,_=>exact hr _ _ _
  | 1,_=>exact hx _ _ _
 have:=h C.w0 (fun b x h=>(C.hkn b x h).1)
 simp only [Xy,Ctx.env] at this ⊢
 split at this
 ·exact mono _ _ this
 ·exact Calls.mono this (fun e w' h=>mono e w' h)
 ·exact Rows.mono this (fun v w' h=>mono _ _ h)
 ·exact this.elim
theorem acx (W:World) (hW:WOK W):xR (aeL Tryz.prog W) 234:=by
 intro s hs
 have sz:(⟨s.toArray⟩:ByteArray).size = s.length:=wq s
 refine ⟨awb (cv:=[.string ⟨s.toArray⟩]) (rv:=.int .i64 (yo s)) (ve:=aqF s) (fun h=>h) (fun _ _ _=>.sc rfl) ?_,?_,?_⟩
 ·intro w hk
  have hw:=hW.keeps hk
  show Xy Tryz.prog 234 _ w _
  refine (JU axj _ _ _).2 ?_
  rcases ha:Lib.atoiAll s with v|_|_
  ·skip
   have:=Tryz.strconv_Atoi_ok ⟨s.toArray⟩ (by omega) v (by simpa using ha) w
   refine this.mono fun e w' ⟨he,hw'⟩=>?_
   subst he
   refine ⟨⟨.nilIface,by simp [yo,ha],fun _ _ _=>by rw [aqF,ha];exact .sc rfl⟩,?_⟩
   rcases hw' with rfl|⟨t,rfl⟩
   ·exact Below.refl _ _
   ·exact anS _ _
  ·skip
   obtain ⟨t,p,hc⟩:=hw.syn
   have:=Tryz.strconv_Atoi_syntax ⟨s.toArray⟩ (by omega) (by simpa using ha) _ w hc (.inr ⟨t,p,rfl⟩)
   refine this.mono fun e w' ⟨N,he,_,_,hb⟩=>?_
   subst he
   exact ⟨⟨_,by simp only [yo,ha];rfl,fun _ _ _=>by rw [aqF,ha];exact .nn⟩,hb⟩
  ·skip
   obtain ⟨t,p,hc⟩:=hw.rng
   have:=Tryz.strconv_Atoi_range ⟨s.toArray⟩ (by omega) (by simpa using ha) _ w hc (.inr ⟨t,p,rfl⟩)
   refine this.mono fun e w' ⟨N,he,_,_,hb⟩=>?_
   subst he
   exact ⟨⟨_,by simp only [yo,ha];rfl,fun _ _ _=>by rw [aqF,ha];exact .nn⟩,hb⟩
 ·unfold aqF;split<;>simp only [V.closed,Qb,and_self]
 ·unfold aqF;split<;>simp only [V.noSl,Wi,and_self]
theorem aoD (c:UInt8):∀ (p t:List UInt8),c ∉ p→Lib.index (p++c :: t) [c] = (p.length:Int)
 | [],t,_=>by rw [List.nil_append,Lib.index];simp [List.isPrefixOf]
 | x :: p,t,h=>by
   simp only [zw,not_or] at h
   have hp:([c]:List UInt8).isPrefixOf (x :: (p++c :: t)) = false:=by simp [List.isPrefixOf,h.1]
   rw [List.cons_append,Lib.index,hp,aoD c p t h.2]
   have:¬ ((p.length:Int) == -1) = true:=by simp
   simp only [zu,if_false]
   rw [if_neg this];simp
theorem ajm (c:UInt8):∀ (p cur t:List UInt8),c ∉ p→XG c cur (p++c :: t) = (cur++p) :: XG c [] t
 | [],cur,t,_=>by simp [XG]
 | x :: p,cur,t,h=>by
   simp only [zw,not_or] at h
   rw [List.cons_append,XG,if_neg (fun e=>h.1 e.symm),ajm c p _ t h.2];simp
theorem ajl (c:UInt8):∀ (n:Nat) (s:List UInt8),s.count c = n→Lib.splitK [c] 0 n s = QK c s
 | 0,s,h=>by
   have hn:c ∉ s:=List.count_eq_zero.1 h
   have:QK c s = [s]:=by simpa [QK] using aht c s [] hn
   rw [this];rfl
 | n + 1,s,h=>by
   have hm:c∈s:=List.count_pos_iff.1 (by omega)
   obtain ⟨p,t,rfl,hp⟩:=List.eq_append_cons_of_mem hm
   rw [Lib.splitK,aoD c p t hp]
   have:¬ ((p.length:Int) == -1) = true:=by simp
   rw [if_neg this]
   have h2:t.count c = n:=by
    rw [List.count_append,List.count_cons_self,List.count_eq_zero.2 hp] at h;omega
   have e1:(p++c :: t).take ((p.length:Int).toNat + 0) = p:=by simp
   have e2:(p++c :: t).drop ((p.length:Int).toNat + [c].length) = t:=by simp
   rw [e1,e2,ajl c n t h2]
   show p :: QK c t = XG c [] (p++c :: t)
   rw [ajm c p [] t hp];rfl
theorem wt (c:UInt8):∀ (s cur:List UInt8),(XG c cur s).length = s.count c + 1
 | [],cur=>by simp [XG]
 | x :: s,cur=>by
   rw [XG];split
   ·rename_i h;subst h;rw [List.length_cons,wt x s [],List.count_cons_self]
   ·rename_i h;rw [wt c s,List.count_cons_of_ne (by simpa using h)]
theorem awa {Γ:Env} {f:FuncId} {cv:List Value} {xs:List (List UInt8)}
  (h:∀ w,(∀ b x,Γ.kn b = some x→w.heap[b]? = some x)→Xy Γ.P f cv.toArray w fun e w'=>∃ t:TypeId,e = .returned (.slice (some ⟨w.heap.size,0,none⟩) xs.length xs.length)∧w' = w.alloc (.cells ((xs.map fun s=>Value.string ⟨s.toArray⟩).toArray) t)) :
  Ev Γ f (cv.map .sc) [] (.sl 1 (xs.map V.str)) []:=by
 intro C cargs hP hm hmu hg hF hsz hrep
 subst hP
 have hargs:cargs = cv.toArray:=by
  apply ZP
  ·simpa using hsz
  ·intro i h1 h2
   have:=hrep i (by simpa using h2) h1
   simp only [zX] at this
   simpa using this.scE.1
 subst hargs
 refine (h C.w0 (fun b x h=>(C.hkn b x h).1)).mono ?_
 rintro e w' ⟨t,rfl,rfl⟩
 have hcell:∀ i,(hi:i < xs.length)→(C.w0.alloc (.cells ((xs.map fun s=>Value.string ⟨s.toArray⟩).toArray) t)).cell? ⟨C.w0.heap.size,i,none⟩ = some (.string ⟨(xs[i]).toArray⟩):=by
  intro i hi
  rw [cell?_of_heap Av.heap_alloc_new]
  simp [hi]
 refine ⟨_,fun b i=>C.Z0 b i∨(b = C.w0.heap.size∧i < xs.length),C.μ0,rfl,?_,⟨fun a x h=>by simp at h,fun a b x y c d _ h=>by simp at h,?_,by simp,fun b hb _=>Wn hb,?_,fun b i h=>.inl h,fun b i h=>Wr (hg.zlt b i h),fun k _=>rfl,XA.mk⟩,fun k hk=>hmu k (by simp)⟩
 ·have hl:(xs.map V.str).length = xs.length:=by simp
  rw [← hl]
  refine Rep.sl (fun i j=>.string ⟨(xs.getD i []).toArray⟩) (zj _) (fun i hi=>by simp [V.cells]) (fun i hi j hj=>?_) (fun i hi j hj=>?_)
  ·have hi':i < xs.length:=by simpa using hi
   have hj':j = 0:=by simp [V.cells] at hj;exact hj
   subst hj'
   refine ⟨?_,.inr ⟨rfl,by omega⟩,rfl⟩
   simp [zI,zd hi',hcell i hi']
  ·have hi':i < xs.length:=by simpa using hi
   have hj':j = 0:=by simp [V.cells] at hj;exact hj
   subst hj'
   simp only [zX,V.cells,List.getElem_cons_zero]
   simp only [zI,zd hi',Option.getD_some]
   exact .sc rfl
 ·intro b i h
  rcases h with h|⟨rfl,_⟩
  ·have:=hg.zlt b i h;simp;omega
  ·simp
 ·intro b i h
  rcases h with h|⟨rfl,_⟩
  ·exact .inl h
  ·exact .inr (.inl (zj _))
theorem Vw (W:World) (hW:WOK W):XC (aeL Tryz.prog W) 52:=by
 intro s c hs
 refine ⟨awa (cv:=[.string ⟨s.toArray⟩,.string ⟨[c].toArray⟩]) (xs:=QK c s) ?_,by simp only [V.closed]⟩
 intro w hk
 obtain ⟨m,hm⟩:=(hW.keeps hk).maxLen
 have:=Tryz.strings_Split ⟨s.toArray⟩ ⟨[c].toArray⟩ m w (by rw [wq];exact hs) hm (by simp [ByteArray.size])
 show Xy Tryz.prog 52 _ w _
 refine (JU ayv _ _ _).2 (this.mono fun e w' ⟨he,hw⟩=>⟨9,?_,?_⟩)
 ·have h1:Lib.countB ⟨s.toArray⟩ ⟨[c].toArray⟩ = s.count c:=by
   show Lib.count _ _ = _
   simp [Lib.count_one]
  have h2:(QK c s).length = s.count c + 1:=wt c s []
  rw [he,h1,h2]
 ·have h1:Lib.countB ⟨s.toArray⟩ ⟨[c].toArray⟩ = s.count c:=by
   show Lib.count _ _ = _
   simp [Lib.count_one]
  have h3:=Lib.splitB_data ⟨[c].toArray⟩ 0 (s.count c) ⟨s.toArray⟩
  have h4:Lib.splitK [c] 0 (s.count c) s = QK c s:=ajl c _ s rfl
  have h5:(Lib.splitB ⟨[c].toArray⟩ 0 (s.count c) ⟨s.toArray⟩).map Value.string = (QK c s).map fun s=>Value.string ⟨s.toArray⟩:=by
   have h6:(Lib.splitB ⟨[c].toArray⟩ 0 (s.count c) ⟨s.toArray⟩).map (·.data.toList) = QK c s:=by rw [h3];simpa using h4
   rw [← h6,List.map_map]
   refine kY fun x _=>?_
   simp
  rw [hw,h1,h5]
theorem xL (W:World) (hW:WOK W):UV (aeL Tryz.prog W) 51:=by
 intro s c hs
 refine ⟨af9 (cv:=[.string ⟨s.toArray⟩,.string ⟨[c].toArray⟩]) (res:=.int .i64 (((QK c s).length - 1:Nat):Int)) (fun _ _ _=>.sc rfl) ?_,trivial,trivial⟩
 intro w hk
 have:=Tryz.strings_Count_one ⟨s.toArray⟩ c w
 show Xy Tryz.prog 51 _ w _
 refine (JU ayw _ _ _).2 (this.mono fun e w' ⟨he,hw⟩=>?_)
 subst he;subst hw
 have h2:(QK c s).length = s.count c + 1:=wt c s []
 refine ⟨?_,zj _,fun _ _=>rfl,XA.mk⟩
 rw [h2];rfl
theorem xK (W:World) (hW:WOK W):Un (aeL Tryz.prog W) 227:=by
 intro s c
 refine ⟨af9 (cv:=[.string ⟨s.toArray⟩,.int .u8 c.toNat]) (res:=.int .i64 (Lib.indexByte s c)) (fun _ _ _=>.sc rfl) ?_,trivial,trivial⟩
 intro w hk
 have:=Tryz.strings_IndexByte ⟨s.toArray⟩ c.toNat w
 show Xy Tryz.prog 227 _ w _
 refine (JU axk _ _ _).2 (this.mono fun e w' ⟨he,hw⟩=>?_)
 subst he;subst hw
 refine ⟨?_,zj _,fun _ _=>rfl,XA.mk⟩
 simp
theorem ap3 {P:Program} {g:Nat} (h:Av.Own P g):∀ args w,(callFunc g args).run P w = .ok (.enter g args) w:=fun args w=>by
 obtain ⟨fn,h1,h2,c,h3⟩:=h
 simp [callFunc,h1,h2,h3]
theorem axn:Av.Own Tryz.prog 149:=⟨Tryz.f149,Tryz.func149,by decide,_,rfl⟩
theorem auM:Av.Own Tryz.prog 166:=⟨Tryz.f166,Tryz.func166,by decide,_,rfl⟩
theorem auL:Av.Own Tryz.prog 168:=⟨Tryz.f168,Tryz.func168,by decide,_,rfl⟩
theorem ayt:Av.Own Tryz.prog 70:=⟨Tryz.f70,Tryz.func70,by decide,_,rfl⟩
theorem ayu:Av.Own Tryz.prog 56:=⟨Tryz.f56,Tryz.func56,by decide,_,rfl⟩
theorem axp:Av.Own Tryz.prog 120:=⟨Tryz.f120,Tryz.func120,by decide,_,rfl⟩
theorem azb:Tryz.prog.follows .mixedOrders = true:=by kernel_rfl
theorem asD:∀ a b:List UInt8,Lib.compareBytes a b = abU a b
 | [],[]=>by simp [Lib.compareBytes,abU,Op.bytesLess]
 | [],_ :: _=>by simp [Lib.compareBytes,abU,Op.bytesLess]
 | _ :: _,[]=>by simp [Lib.compareBytes,abU,Op.bytesLess]
 | a :: x,b :: y=>by
   have ih:=asD x y
   rw [abU] at ih ⊢
   rw [Lib.compareBytes,ih]
   simp only [Op.bytesLess]
   by_cases h1:a < b
   ·simp [h1]
   ·by_cases h2:b < a
    ·have h3:a≠b:=fun e=>by subst e;exact h1 h2
     simp [h1,h2,h3]
    ·have h3:a = b:=UInt8.le_antisymm (UInt8.not_lt.1 h2) (UInt8.not_lt.1 h1)
     subst h3
     simp [h1]
theorem v7 (W:World) (hW:WOK W):ql (aeL Tryz.prog W) 149:=by
 intro G hG a b
 refine ⟨af9 (cv:=[.string ⟨a.toArray⟩,.string ⟨b.toArray⟩]) (res:=.int .i64 (abU a b)) (fun _ _ _=>.sc rfl) ?_,trivial,trivial⟩
 intro w hk
 rw [hG]
 refine (JU axn _ _ _).2 ((Any.strings_Compare Tryz.lays106 ⟨a.toArray⟩ ⟨b.toArray⟩ w).mono fun e w' ⟨he,hw⟩=>?_)
 subst he;subst hw
 exact ⟨by simp [asD],zj _,fun _ _=>rfl,XA.refl _⟩
theorem axl:Av.Own Tryz.prog 183:=⟨Tryz.f183,Tryz.func183,by decide,_,rfl⟩
theorem axo:Av.Own Tryz.prog 136:=⟨Tryz.f136,Tryz.func136,by decide,_,rfl⟩
theorem anj (xs:List Int):(xs.mergeSort fun x y=>decide (x≤y)) = Wo (fun x y:Int=>decide (x < y)) xs:=by
 have h1:=abj (lt:=fun x y:Int=>decide (x < y)) (fun x y z h h'=>by simp at *;omega) (fun x y h=>by simp at *;omega) xs
 refine ZK (le:=fun x y:Int=>x≤y) (fun a b _ _ h1 h2=>by omega) ?_ (h1.imp fun {a b} h=>by simpa using h) ((List.mergeSort_perm _ _).trans Kn.symm)
 have:=List.pairwise_mergeSort (le:=fun x y:Int=>decide (x≤y)) (fun a b c h1 h2=>by simp at *;omega) (fun a b=>by simp;omega) xs
 exact this.imp fun {a b} h=>by simpa using h
theorem aaH (W:World) (hW:WOK W):Kr (aeL Tryz.prog W) 183:=fun xs hx =>
 asq (Γ:=aeL Tryz.prog W) axl (fun blk off cap zs w hH hb hs=>Any.slices_Sort_int Tryz.lays189 blk off cap zs w hH hb hs) (fun a cap w=>Any.slices_Sort_int_none Tryz.lays189 a cap w) hx (anj xs)
instance:Inhabited Qo:=⟨⟨0,[],0,0,0,0,[],0⟩⟩
def ayc (x:Qo):List Value:=[.int .i64 x.ent,.string ⟨x.subj.toArray⟩,.int .i64 x.kind,.int .i64 x.alg,.int .i64 x.bits,.int .i64 x.num,.string ⟨x.text.toArray⟩,.int .i64 x.find]
theorem auF {α:Type} {c:α→α→Int} (h:Cm c):Go.Sort.SWO (ltOf c):=by
 refine ⟨fun x=>?_,fun x y z h1 h2=>?_,fun x y z h1 h2=>?_⟩
 ·have:=h.neg x x
  simp only [ltOf,zF];omega
 ·simp only [ltOf,zC] at *
  have a1:=h.tr x y z (by omega) (by omega)
  by_cases h3:c x z = 0
  ·have:=h.ze x y z (by omega) (by omega) h3;omega
  ·omega
 ·simp only [ltOf,zF,bj] at *
  have a1:=h.neg x y
  have a2:=h.neg y z
  have a3:=h.neg x z
  have:=h.tr z y x (by omega) (by omega)
  omega
theorem apj {α:Type} [Inhabited α] {c:α→α→Int} (h:Cm c) {xs:List α} (hd:∀ a∈xs,∀ b∈xs,c a b = 0→a = b) {d':Array α} (hp:Go.Sort.PermIn 0 xs.length xs.toArray d') (hs:Go.Sort.SortedIn (ltOf c) 0 xs.length d') :
  d'.toList = Wo (fun x y=>decide (c x y < 0)) xs:=by
 obtain ⟨hsz,_,hperm⟩:=hp
 have hsz:d'.size = xs.length:=by simpa using hsz
 rw [← hsz,Array.extract_size,show xs.toArray.extract 0 d'.size = xs.toArray by rw [hsz];exact (by simp)] at hperm
 have hO:=auF h
 have h1:=abj (lt:=fun x y=>decide (c x y < 0)) (fun x y z h h'=>hO.ntrans z y x h' h) (fun x y h'=>by
  simp only [zC,zF] at *;have:=h.neg x y;omega) xs
 refine ZK (le:=fun x y=>decide (c y x < 0) = false) (fun a b ha hb h1 h2=>?_) ?_ h1 (hperm.trans Kn.symm)
 ·simp only [zF,bj] at h1 h2
  have a1:=h.neg a b
  exact hd a (hperm.mem_iff.1 ha) b (Kn.mem_iff.1 hb) (by omega)
 ·rw [ZX]
  intro i j hi hj hij
  have hi':i < d'.size:=by simpa using hi
  have hj':j < d'.size:=by simpa using hj
  have:=hs i j (zJ _) hij (by omega)
  rw [getElem!_pos d' j hj',getElem!_pos d' i hi'] at this
  simpa [ltOf] using this
theorem Uk (W:World) (hW:WOK W):Y2 (aeL Tryz.prog W) 136:=fun xs g c hg hcmp hc hd hx =>
 asp (Γ:=aeL Tryz.prog W) (enc:=ayc) (k:=8) (cf:=c) axo hg (fun x v hv=>by simp only [ayc,zw,zD,or_false] at hv;rcases hv with rfl|rfl|rfl|rfl|rfl|rfl|rfl|rfl<;>rfl) (fun _=>rfl) (by decide) hcmp
  (fun blk off cap d w hC hH hb hs=>AnyQ.slices_SortFunc Tryz.laysF 8 Tryz.isAgg42 Tryz.sizeOf42 ayc (fun _=>rfl) (fun x v hv=>by simp only [ayc,zw,zD,or_false] at hv;rcases hv with rfl|rfl|rfl|rfl|rfl|rfl|rfl|rfl<;>rfl) c (auF hc) g #[] blk off cap d w (ap3 hg) hC hH hb hs)
  (fun a cap w=>(AnyF.slices_SortFunc_none Tryz.laysF a cap _ w).mono fun e w' ⟨h1,h2⟩=>⟨h1,0,#[],by rw [h2];simp [Go.Sort.grow,Go.Sort.ahead]⟩)
  hx (fun d' hp hs=>apj hc hd hp hs) (xw _ _)
theorem ajW {w:World} {n c:Nat} {t:TypeId} (h:n < 2 ^ 63):n≤grownCap w n c t∧grownCap w n c t < 2 ^ 63:=by
 refine ⟨grownCap_ge _ _ _ _,?_⟩
 have:=grownCap_le_maxLen w n c t (by unfold maxLen;omega)
 unfold maxLen at this
 omega
theorem af4 {u:Value} {w:World} {vb voff:Nat} (h:w.cell? ⟨vb,voff,none⟩ = some u):∀ (j:Nat) (v:Value),[u][j]? = some v→w.cell? ⟨vb,voff + j,none⟩ = some v:=fun j v hj=>by
 obtain ⟨h1,rfl⟩:=zl.1 hj
 have:j = 0:=by simpa using h1
 subst this
 simpa using h
theorem aqE:ayf Tryz.prog 166 9 (.string ⟨#[]⟩):={
 shift:=fun b off n c i vb voff vc cs u w tA tB kA kB h1 h2 h3 h4 h5 h6 h7 h8 h9 h10 h11 h12 h13 h14 h15 h16 =>
  Any2.slices_Insert_string_shift Tryz.lays2I22 b off n c i vb voff 1 vc cs [u] w h1 Nat.one_pos h2 h3 h4 h5 rfl h6 h7 h8 (af4 h9) h10 (by simpa using h11) tA tB kA kB h12 h13 h14 h15 h16
 endRoom:=fun b off n c vb voff vc u w h1 h2 h3 h4 h5 h6 =>
  Any2.slices_Insert_string_end_room Tryz.lays2I22 b off n c vb voff 1 vc [u] w Nat.one_pos h1 h2 rfl (fun j hj=>by have hj0:j = 0:=(by omega);subst hj0;exact h3) (fun j hj=>by have hj0:j = 0:=(by omega);subst hj0;exact h4) (af4 h5) (by simpa using h6)
 endGrow:=fun base n c vb voff vc cs u w h1 h2 h3 h4 h5 h6 h7 h8 =>
  (Any2.slices_Insert_string_end_grow Tryz.lays2I22 base n c vb voff 1 vc cs [u] w Nat.one_pos h1 h2 (by omega) h4 rfl h5 h6 (af4 h7) (by simpa using h8)).mono fun e w' ⟨he,hw⟩=>⟨_,ajW (by omega),he,hw⟩
 grow:=fun b off n c i vb voff vc cs u w h1 h2 h3 h4 h5 h6 h7 h8 h9 =>
  (Any2.slices_Insert_string_grow Tryz.lays2I22 b off n c i vb voff 1 vc cs [u] w h1 Nat.one_pos h2 h3 (by omega) h5 rfl h6 (af4 h7) h8 (by simpa using h9)).mono fun e w' ⟨he,hw⟩=>⟨_,_,ajW (by omega),by
    have:=grownCap_ge w (n + 1) c (Tryz.lays2I22_ren.t 9)
    rw [kG,kG,JT,JT];simp [Value.cells];omega,fun j v hj hv=>by
     rw [Array.append_assoc,kS (by simp;omega)]
     simp [hv,hj],he,hw⟩ }
theorem ayZ:ayf Tryz.prog 168 3 (.int .i64 0):={
 shift:=fun b off n c i vb voff vc cs u w tA tB kA kB h1 h2 h3 h4 h5 h6 h7 h8 h9 h10 h11 h12 h13 h14 h15 h16 =>
  Any2.slices_Insert_int_shift Tryz.lays2I21 b off n c i vb voff 1 vc cs [u] w h1 Nat.one_pos h2 h3 h4 h5 rfl h6 h7 h8 (af4 h9) h10 (by simpa using h11) tA tB kA kB h12 h13 h14 h15 h16
 endRoom:=fun b off n c vb voff vc u w h1 h2 h3 h4 h5 h6 =>
  Any2.slices_Insert_int_end_room Tryz.lays2I21 b off n c vb voff 1 vc [u] w Nat.one_pos h1 h2 rfl (fun j hj=>by have hj0:j = 0:=(by omega);subst hj0;exact h3) (fun j hj=>by have hj0:j = 0:=(by omega);subst hj0;exact h4) (af4 h5) (by simpa using h6)
 endGrow:=fun base n c vb voff vc cs u w h1 h2 h3 h4 h5 h6 h7 h8 =>
  (Any2.slices_Insert_int_end_grow Tryz.lays2I21 base n c vb voff 1 vc cs [u] w Nat.one_pos h1 h2 (by omega) h4 rfl h5 h6 (af4 h7) (by simpa using h8)).mono fun e w' ⟨he,hw⟩=>⟨_,ajW (by omega),he,hw⟩
 grow:=fun b off n c i vb voff vc cs u w h1 h2 h3 h4 h5 h6 h7 h8 h9 =>
  (Any2.slices_Insert_int_grow Tryz.lays2I21 b off n c i vb voff 1 vc cs [u] w h1 Nat.one_pos h2 h3 (by omega) h5 rfl h6 (af4 h7) h8 (by simpa using h9)).mono fun e w' ⟨he,hw⟩=>⟨_,_,ajW (by omega),by
    have:=grownCap_ge w (n + 1) c (Tryz.lays2I21_ren.t 3)
    rw [kG,kG,JT,JT];simp [Value.cells];omega,fun j v hj hv=>by
     rw [Array.append_assoc,kS (by simp;omega)]
     simp [hv,hj],he,hw⟩ }
theorem jm (W:World) (hW:WOK W):XX (aeL Tryz.prog W) 166:=by
 refine ⟨fun xs i x hi hp hl=>?_,fun x=>?_⟩
 ·have:=aoU (Γ:=aeL Tryz.prog W) aqE auM (i:=i) (ls:=xs.map fun s=>Value.string ⟨s.toArray⟩) (u:=.string ⟨x.toArray⟩) (by simpa using hi) (by simpa using hp) (by simp;omega) (by simp only [kc];rintro v ⟨s,_,rfl⟩;rfl) rfl
  simpa [kO,kW,Function.comp_def,V.str] using this
 ·exact aoS (Γ:=aeL Tryz.prog W) aqE auM rfl trivial
theorem vm (W:World) (hW:WOK W):Ui (aeL Tryz.prog W) 168:=by
 refine ⟨fun xs i x hi hp hl=>?_,fun x=>?_⟩
 ·have:=aoU (Γ:=aeL Tryz.prog W) ayZ auL (i:=i) (ls:=xs.map fun s=>Value.int .i64 s) (u:=.int .i64 x) (by simpa using hi) (by simpa using hp) (by simp;omega) (by simp only [kc];rintro v ⟨s,_,rfl⟩;rfl) rfl
  simpa [kO,kW,Function.comp_def,V.int] using this
 ·exact aoS (Γ:=aeL Tryz.prog W) ayZ auL rfl trivial
theorem at4:((Tryz.prog.info? 42).any fun i=>i.zero.isSome && (i.size == 8 && (decide (i.bytes≤100) && (i.zero.map (·.cells.size) == some 8)))) = true:=by kernel_rfl
theorem ayD:awO Tryz.prog 70 42 8:={
 room:=fun w=>Any8.slices_Grow_room Tryz.lays8G70 none 0 0 0 w (zj _) (by omega) (by omega) (by omega)
 grow:=fun n w h1 h2=>by
  have h:=at4
  cases hi:Tryz.prog.info? 42 with
  | none=>rw [hi] at h;cases h
  | some i0 =>
    rw [hi] at h
    simp only [Option.any_some,zA,zC,kx] at h
    obtain ⟨q1,q2,q3,q4⟩:=h
    cases hz:i0.zero with
    | none=>rw [hz] at q1;cases q1
    | some z =>
      rw [hz] at q4
      have q5:z.cells.size = 8:=by simpa using q4
      have hb:(0 + n) * i0.bytes≤140737488355328:=by
       have:(0 + n) * i0.bytes≤(0 + n) * 100:=Nat.mul_le_mul_left _ q3
       omega
      refine (Any8.slices_Grow_grow Tryz.lays8G70 i0 z hi hz (by omega) none 0 0 n [] w (zj _) (by omega) hb (by omega) (by simp) (fun _=>rfl) (fun a h=>by cases h)).mono fun e w' ⟨he,hw⟩=>⟨_,_,(ajW (by omega)).2,?_,he,hw⟩
      have:=grownCap_ge w (0 + n) 0 (Tryz.lays8G70_ren.t 25)
      rw [kG,kG,JT,JT,q5]
      simp
      omega }
theorem K6 (W:World) (hW:WOK W):Xz (aeL Tryz.prog W) 70:=fun n hn=>aoT (Γ:=aeL Tryz.prog W) ayD ayt hn
theorem aso {Γ:Env} {f:FuncId} {args:List V} {k:Value}
  (h:∀ (C:Ctx) (cargs:Array Value),C.env = Γ→cargs.size = args.length→(∀ i (h:i < args.length) (h':i < cargs.size),Rep C.w0 C.Z0 C.μ0 cargs[i] args[i])→Xy Γ.P f cargs C.w0 fun e w'=>e = .returned k∧Below C.w0.heap.size C.w0 w') (hk:k.oneCell' = true) (hd:¬ Γ.dr):Ev Γ f args [] (.sc k) []:=by
 intro C cargs hP hm hmu hg hF hsz hrep
 have:=h C cargs hP hsz hrep
 refine this.mono fun e w' ⟨he,hb⟩=>?_
 subst he
 exact ⟨_,C.Z0,C.μ0,rfl,.sc hk,⟨fun a x h=>by simp at h,fun a b x y c d _ h=>by simp at h,fun b i h=>kT (hg.zlt b i h) hb.size,hb.size,fun b h _=>hb.block b h,fun b i h=>.inl h,fun b i h=>h,fun b i h=>by simp [World.cell?,hb.block b (hg.zlt b i h)],fun k _=>rfl,⟨hb.os,hb.tape,hb.output,fun h=>(hd (by rw [← hP];exact h)).elim⟩⟩,fun k hk=>hmu k (by simp)⟩
def as1 (r:Ql):PR:=⟨r.allow,r.alg,r.below,r.purp,r.frm,r.til⟩
def axt (r:PR):Ql:=⟨r.allow,r.alg,r.below,r.purp,r.frm,r.til⟩
theorem ayB:Has Tryz.prog 120 43 W4.1.1.ac W4.1.2:=zhd W4 Tryz.func120
theorem aul (r:PR) (a b pu:Int) (w:World):Calls Tryz.prog 120 #[avs r,.agg #[.int .i64 a,.int .i64 b],.int .i64 pu] w fun e W'=>e = .returned (.bool (anO (axt r) a b pu))∧Below w.heap.size w W':=by
 have E:=acM (Γ:=aeL Tryz.prog w) ayB (axt r) a b pu
 refine ais azb axp E rfl fun i h h'=>?_
 match i,h with
 | 0,_ =>
   refine .agg rfl (fun j hj=>?_) fun j hj hj'=>?_
   ·match j,hj with
    | 0,_|1,_|2,_|3,_|4,_|5,_=>rfl
   ·match j,hj with
    | 0,_|1,_|2,_|3,_|4,_|5,_=>exact .sc rfl
 | 1,_ =>
   refine .agg rfl (fun j hj=>?_) fun j hj hj'=>?_
   ·match j,hj with
    | 0,_|1,_=>rfl
   ·match j,hj with
    | 0,_|1,_=>exact .sc rfl
 | 2,_=>exact .sc rfl
theorem adI (rs:List Ql) (a b pu day:Int):∀ k,k≤rs.length→ahQ (aqy (fun r=>anO (axt r) a b pu) (rs.map as1) day) k = au5 (aye a b pu day) rs k
 | 0,_=>rfl
 | k + 1,hk=>by
   have ih:=adI rs a b pu day k (by omega)
   have hg:rs[k]? = some rs[k]:=zd (by omega)
   have hp:(rs.map as1).getD k default = as1 rs[k]:=by simp [List.getD,hg]
   rw [ahQ,au5,hg,ih]
   have:aqy (fun r=>anO (axt r) a b pu) (rs.map as1) day k = aye a b pu day rs[k]:=by
    rw [aqy,hp];rfl
   rw [this]
theorem vZ (W:World) (hW:WOK W):qg (aeL Tryz.prog W) 56:=by
 intro rs ks a b pu day hr
 refine ⟨aso (fun C cargs hP hsz hrep=>?_) rfl (fun h=>h),trivial,trivial⟩
 have hsz:cargs.size = 4:=hsz
 obtain ⟨x0,x1,x2,x3,rfl⟩:∃ x0 x1 x2 x3,cargs = #[x0,x1,x2,x3]:=⟨cargs[0],cargs[1],cargs[2],cargs[3],by
  apply ZP
  ·simpa using hsz
  ·intro k a1 a2
   match k,a2 with
   | 0,_|1,_|2,_|3,_=>rfl⟩
 have r0:Rep C.w0 C.Z0 C.μ0 x0 (as2 rs ks):=hrep 0 (by simp) (by simp)
 have r1:Rep C.w0 C.Z0 C.μ0 x1 (.agg [V.int a,V.int b]):=hrep 1 (by simp) (by simp)
 have r2:Rep C.w0 C.Z0 C.μ0 x2 (V.int pu):=hrep 2 (by simp) (by simp)
 have r3:Rep C.w0 C.Z0 C.μ0 x3 (V.int day):=hrep 3 (by simp) (by simp)
 have e2:=r2.scE.1
 have e3:=r3.scE.1
 obtain ⟨cs,e0,l0,_,h0⟩:=r0.aggE
 obtain ⟨cs1,e1,l1,_,h1⟩:=r1.aggE
 obtain ⟨y0,y1,rfl⟩:∃ y0 y1,cs = #[y0,y1]:=⟨cs[0]'(by rw [l0];simp),cs[1]'(by rw [l0];simp),by
  apply ZP
  ·simpa using l0
  ·intro k a1 a2
   match k,a2 with
   | 0,_|1,_=>rfl⟩
 obtain ⟨z0,z1,rfl⟩:∃ z0 z1,cs1 = #[z0,z1]:=⟨cs1[0]'(by rw [l1];simp),cs1[1]'(by rw [l1];simp),by
  apply ZP
  ·simpa using l1
  ·intro k a1 a2
   match k,a2 with
   | 0,_|1,_=>rfl⟩
 have q0:Rep C.w0 C.Z0 C.μ0 y0 (.sl 6 (rs.map Ql.v)):=h0 0 (by simp) (by simp)
 have p0:Rep C.w0 C.Z0 C.μ0 z0 (V.int a):=h1 0 (by simp) (by simp)
 have p1:Rep C.w0 C.Z0 C.μ0 z1 (V.int b):=h1 1 (by simp) (by simp)
 have e4:=p0.scE.1
 have e5:=p1.scE.1
 obtain ⟨ad,cap,e6,_,hx⟩:=q0.slE
 subst e0;subst e1;subst e2;subst e3;subst e4;subst e5;subst e6
 show Xy Tryz.prog 56 _ C.w0 _
 refine (JU ayu _ _ _).2 ?_
 have D:=Dec.decides_in (fun r=>anO (axt r) a b pu) Fence.wide 5 trivial trivial trivial rfl (zj _) (rs.map as1) ad cap y1 a b pu day C.w0 (fun r w=>callsIn_wide.2 (aul r a b pu w)) trivial (by simp;omega) (by
  by_cases hn:rs = []
  ·exact .inl (by simp [hn])
  ·obtain ⟨bb,oo,rfl,hrow,_⟩:=hx (by simpa using hn)
   have hcell:∀ j,j < (rs.map as1).length→∀ c,c < 6→C.w0.cell? ⟨bb,oo + (j * 6 + c),none⟩ = some (akN ((rs.map as1).getD j default) c):=by
    intro j hj c hc
    have hj':j < rs.length:=by simpa using hj
    have hjv:j < (rs.map Ql.v).length:=by simpa using hj
    have ev:(rs.map Ql.v)[j] = Ql.v rs[j]:=by simp
    have hg:rs[j]? = some rs[j]:=zd hj'
    have hp:(rs.map as1).getD j default = as1 rs[j]:=by simp [List.getD,hg]
    obtain ⟨v,c1,c2,c3⟩:=(hrow j hjv).2 c (by rw [ev];exact hc)
    rw [hp]
    refine c1.trans (congrArg some ?_)
    match c,hc with
    | 0,_|1,_|2,_|3,_|4,_|5,_ =>
      simp only [ev] at c3
      exact c3.scE.1
   have hpos:0 < (rs.map as1).length:=by simpa [kL] using hn
   refine .inr ⟨bb,oo,rfl,?_,hcell⟩
   have:=hcell 0 hpos 0 (by omega)
   rcases ZM bb C.w0.heap.size with h|h
   ·exact h
   ·simp [World.cell?,Zu h] at this)
 rw [zb] at D
 have D':=callsIn_wide.1 D
 rw [adI rs a b pu day _ (zj _)] at D'
 simpa [zb,aub] using D'
theorem ayr:Av.Own Tryz.prog 88:=⟨Tryz.f88,Tryz.func88,by decide,_,rfl⟩
theorem ayq:Av.Own Tryz.prog 89:=⟨Tryz.f89,Tryz.func89,by decide,_,rfl⟩
theorem ayp:Av.Own Tryz.prog 91:=⟨Tryz.f91,Tryz.func91,by decide,_,rfl⟩
theorem axm:Av.Own Tryz.prog 169:=⟨Tryz.f169,Tryz.func169,by decide,_,rfl⟩
theorem ays:Av.Own Tryz.prog 77:=⟨Tryz.f77,Tryz.func77,by decide,_,rfl⟩
theorem akR (W:World) (hW:WOK W):acC (aeL Tryz.prog W) 88:=by
 intro s sep hs
 refine ⟨af9 (cv:=[.string ⟨s.toArray⟩,.string ⟨sep.toArray⟩]) (res:=.tuple #[.string ⟨(Lib.cut s sep).1.toArray⟩,.string ⟨(Lib.cut s sep).2.1.toArray⟩,.bool (Lib.cut s sep).2.2]) ?_ ?_,?_,?_⟩
 ·intro w Z μ
  refine .tup rfl fun j h h'=>?_
  match j,h with
  | 0,_=>exact .sc rfl
  | 1,_=>exact .sc rfl
  | 2,_=>exact .sc rfl
 ·intro w hk
  obtain ⟨m,hm⟩:=(hW.keeps hk).maxLen
  have:=Tryz.strings_Cut ⟨s.toArray⟩ ⟨sep.toArray⟩ m w (by rw [wq];exact hs) hm
  show Xy Tryz.prog 88 _ w _
  refine (JU ayr _ _ _).2 (this.mono fun e w' ⟨he,n,hw⟩=>?_)
  subst he;subst hw
  exact ⟨by simp,zj _,fun _ _=>rfl,XA.mk⟩
 ·simp only [V.closed,Qb,and_self]
 ·simp only [V.noSl,Wi,and_self]
theorem adb (W:World) (_hW:WOK W):yP (aeL Tryz.prog W) 91:=by
 intro s p hs
 refine ⟨af9 (cv:=[.string ⟨s.toArray⟩,.string ⟨p.toArray⟩]) (res:=.bool (Lib.hasSuffix s p)) (fun _ _ _=>.sc rfl) ?_,trivial,trivial⟩
 intro w hk
 have:=Tryz.strings_HasSuffix ⟨s.toArray⟩ ⟨p.toArray⟩ w (by rw [wq];omega)
 show Xy Tryz.prog 91 _ w _
 refine (JU ayp _ _ _).2 (this.mono fun e w' ⟨he,hw⟩=>?_)
 subst hw
 exact ⟨by simpa using he,zj _,fun _ _=>rfl,XA.mk⟩
theorem amw:∀ (j:Nat) (b:UInt8),((⟨#[32,9]⟩:ByteArray).data.toList)[j]? = some b→b.toNat < 128:=fun j b h=>by
 have:b∈([32,9]:List UInt8):=zq h
 simp only [zw,zD,or_false] at this
 rcases this with rfl|rfl<;>decide
theorem ada (W:World) (_hW:WOK W):yO (aeL Tryz.prog W) 89:=by
 intro s hs
 refine ⟨af9 (cv:=[.string ⟨s.toArray⟩,.string ⟨#[32,9]⟩]) (res:=.string ⟨(ajh s).toArray⟩) (fun _ _ _=>.sc rfl) ?_,trivial,trivial⟩
 intro w hk
 have:=Any.strings_TrimRight_laid Tryz.laysT162 (by kernel_rfl) ⟨s.toArray⟩ ⟨#[32,9]⟩ w (by rw [wq];omega) (by decide) amw
 show Xy Tryz.prog 89 _ w _
 refine (JU ayq _ _ _).2 (Calls.mono this fun e w' ⟨he,hb⟩=>?_)
 exact ⟨he,hb.size,fun b h=>hb.block b h,hb.os,hb.tape,hb.output,fun h=>h.elim⟩
theorem ai5 (W:World) (_hW:WOK W):abH (aeL Tryz.prog W) 169:=by
 intro s hs
 refine ⟨af9 (cv:=[.string ⟨s.toArray⟩,.string ⟨#[32,9]⟩]) (res:=.string ⟨(agm s).toArray⟩) (fun _ _ _=>.sc rfl) ?_,trivial,trivial⟩
 intro w hk
 have:=Any.strings_Trim_laid Tryz.laysT160 (by kernel_rfl) ⟨s.toArray⟩ ⟨#[32,9]⟩ w (by rw [wq];omega) (by decide) amw
 show Xy Tryz.prog 169 _ w _
 refine (JU axm _ _ _).2 (Calls.mono this fun e w' ⟨he,hb⟩=>?_)
 exact ⟨he,hb.size,fun b h=>hb.block b h,hb.os,hb.tape,hb.output,fun h=>h.elim⟩
theorem at2:((Tryz.prog.info? 44).any fun i=>i.zero.isSome && (i.size == 11 && (decide (i.bytes≤150) && (i.zero.map (·.cells.size) == some 11)))) = true:=by kernel_rfl
theorem ayC:awO Tryz.prog 77 44 11:={
 room:=fun w=>Any8.slices_Grow_room Tryz.lays8G77 none 0 0 0 w (zj _) (by omega) (by omega) (by omega)
 grow:=fun n w h1 h2=>by
  have h:=at2
  cases hi:Tryz.prog.info? 44 with
  | none=>rw [hi] at h;cases h
  | some i0 =>
    rw [hi] at h
    simp only [Option.any_some,zA,zC,kx] at h
    obtain ⟨q1,q2,q3,q4⟩:=h
    cases hz:i0.zero with
    | none=>rw [hz] at q1;cases q1
    | some z =>
      rw [hz] at q4
      have q5:z.cells.size = 11:=by simpa using q4
      have hb:(0 + n) * i0.bytes≤140737488355328:=by
       have:(0 + n) * i0.bytes≤(0 + n) * 150:=Nat.mul_le_mul_left _ q3
       omega
      refine (Any8.slices_Grow_grow Tryz.lays8G77 i0 z hi hz (by omega) none 0 0 n [] w (zj _) (by omega) hb (by omega) (by simp) (fun _=>rfl) (fun a h=>by cases h)).mono fun e w' ⟨he,hw⟩=>⟨_,_,(ajW (by omega)).2,?_,he,hw⟩
      have:=grownCap_ge w (0 + n) 0 (Tryz.lays8G77_ren.t 25)
      rw [kG,kG,JT,JT,q5]
      simp
      omega }
theorem Vx (W:World) (hW:WOK W):YJ (aeL Tryz.prog W) 77:=fun n hn=>aoT (Γ:=aeL Tryz.prog W) ayC ays hn
end Go.Proofs.YtjobognfgjobfaaGreatDoor
end
