/- What the first world of the versions' rows gives, and the library's contracts there. -/
import Derived.Test.YtphclkkggijicaaGreatDoorB30
import Derived.Test.YtphclkkggijicaaGreatDoorB14
import Derived.Test.YtphclkkggijicaaGreatDoorB33
import Derived.Test.YtphclkkggijicaaGreatDoorB34
import Derived.Laws.AppendOwn
import Derived.Test.YtphclkkggijicaaGreatDoorProg
import Derived.Test.YtphclkkggijicaaGreatDoorB35
import Derived.Lib.SplitLaws
set_option linter.unusedVariables false
set_option linter.unusedSimpArgs false
section
namespace Go.Proofs.YtphclkkggijicaaGreatDoor
open Go Av Go.RowKit
set_option maxRecDepth 100000
structure WOK (W:World):Prop where
 maxLen:∃ m,W.cell? ⟨0,0,none⟩ = some (.int .i64 m)
 pow:Lib.TabIs Tryz.prog W "internal/strconv.uint64pow10" .u64 Lib.pow10Tab
 syn:∃ t p,W.cell? ⟨2,0,none⟩ = some (.iface t p)
 rng:∃ t p,W.cell? ⟨3,0,none⟩ = some (.iface t p)
def anq (W w:World):Prop:=∀ b x,(akT Tryz.prog W).kn b = some x→w.heap[b]? = some x
theorem anq.cell {W w:World} (h:anq W w) {b i:Nat} {v:Value} (hc:W.cell? ⟨b,i,none⟩ = some v):w.cell? ⟨b,i,none⟩ = some v:=by
 unfold World.cell? at hc ⊢
 cases hb:W.heap[b]? with
 | none=>simp [hb] at hc
 | some x=>rw [h b x hb];rw [hb] at hc;exact hc
theorem anq.tab {W w:World} (h:anq W w) {n:String} {k:IntKind} {zs:List Int} (ht:Lib.TabIs Tryz.prog W n k zs):Lib.TabIs Tryz.prog w n k zs:=by
 unfold Lib.TabIs World.var? at ht ⊢
 cases hg:Tryz.prog.globalNamed n with
 | none=>simp [hg] at ht
 | some g =>
   simp only [hg,Option.bind_some] at ht ⊢
   cases hb:W.heap[g]? with
   | none=>simp [hb] at ht
   | some x=>rw [h g x hb];rw [hb] at ht;exact ht
theorem WOK.keeps {W w:World} (hW:WOK W) (h:anq W w):WOK w :=
 ⟨by obtain ⟨m,hm⟩:=hW.maxLen;exact ⟨m,h.cell hm⟩,h.tab hW.pow,by obtain ⟨t,p,hm⟩:=hW.syn;exact ⟨t,p,h.cell hm⟩,by obtain ⟨t,p,hm⟩:=hW.rng;exact ⟨t,p,h.cell hm⟩⟩
theorem arc:Av.Own Tryz.prog 148:=⟨Tryz.f148,Tryz.func148,by decide,_,rfl⟩
theorem aq9:Av.Own Tryz.prog 184:=⟨Tryz.f184,Tryz.func184,by decide,_,rfl⟩
theorem ard:Av.Own Tryz.prog 133:=⟨Tryz.f133,Tryz.func133,by decide,_,rfl⟩
theorem aq8:Av.Own Tryz.prog 185:=⟨Tryz.f185,Tryz.func185,by decide,_,rfl⟩
theorem ara:Av.Own Tryz.prog 162:=⟨Tryz.f162,Tryz.func162,by decide,_,rfl⟩
theorem aee (W:World) (hW:WOK W):xX (akT Tryz.prog W) 133:=by
 intro n h0 h1
 refine ⟨amL (cv:=[.int .i64 n]) (res:=.string ⟨(Lib.itoa n).toArray⟩) (fun _ _ _=>.sc rfl) ?_,trivial,trivial⟩
 intro w hk
 have:=Tryz.strconv_Itoa n h0 h1 w (hW.keeps hk).pow
 show Xx Tryz.prog 133 _ w _
 refine (Xd ard _ _ _).2 (this.mono fun e w' ⟨he,k,os,hw⟩=>?_)
 subst he;subst hw
 refine ⟨rfl,?_,fun b hb=>?_,Vq.mk⟩
 ·simp [Go.Sort.grow]
 ·have hb':b < (w.drewN k).heap.size:=hb
  simp only [Go.Sort.grow,Zp,if_pos hb']
  rfl
theorem ai8 (w:World) (t:ByteArray):Below w.heap.size w (Lib.bytesWorld w 5 t) :=
 ⟨rfl,rfl,rfl,by rw [Lib.bytesWorld_size];omega,fun k hk=>Lib.bytesWorld_at_old w 5 t k hk⟩
theorem aqd {Γ:Env} {f:FuncId} {cv:List Value} {rv:Value} {v ve:V} (hd:¬ Γ.dr) (hr:∀ w Z μ,Rep w Z μ rv v)
  (h:∀ w,(∀ b x,Γ.kn b = some x→w.heap[b]? = some x)→Xx Γ.P f cv.toArray w fun e w'=>(∃ x,e = .returned (.tuple #[rv,x])∧∀ w Z μ,Rep w Z μ x ve)∧Below w.heap.size w w'):Ev Γ f (cv.map .sc) [] (.tup [v,ve]) []:=by
 intro C cargs hP hm hmu hg hF hsz hrep
 subst hP
 have hargs:cargs = cv.toArray:=by
  apply Array.ext
  ·simpa using hsz
  ·intro i h1 h2
   have:=hrep i (by simpa using h2) h1
   simp only [zH] at this
   simpa using this.scE.1
 subst hargs
 have mono:∀ (e:Ending) (w':World),((∃ x,e = .returned (.tuple #[rv,x])∧∀ w Z μ,Rep w Z μ x ve)∧Below C.w0.heap.size C.w0 w')→∃ u Z' μ',e = .returned u∧Rep w' Z' μ' u (.tup [v,ve])∧Av.Good C w' Z' μ' (fun k=>([]:List Ob)[k]?)∧∀ k,([]:List Ob).length≤k→μ' k = none:=by
  rintro e w' ⟨⟨x,rfl,hx⟩,hb⟩
  refine ⟨_,C.Z0,C.μ0,rfl,.tup rfl (fun j h h'=>?_),⟨fun a x h=>by simp at h,fun a b x y c d _ h=>by simp at h,fun b i h=>km (hg.zlt b i h) hb.size,hb.size,fun b h _=>hb.block b h,fun b i h=>.inl h,fun b i h=>h,fun b i h=>by simp [World.cell?,hb.block b (hg.zlt b i h)],fun k _=>rfl,⟨hb.os,hb.tape,hb.output,fun h=>absurd h hd⟩⟩,fun k hk=>hmu k (by simp)⟩
  match j,h with
  | 0,_=>exact hr _ _ _
  | 1,_=>exact hx _ _ _
 have:=h C.w0 (fun b x h=>(C.hkn b x h).1)
 simp only [Xx,Ctx.env] at this ⊢
 split at this
 ·exact mono _ _ this
 ·exact Calls.mono this (fun e w' h=>mono e w' h)
 ·exact Rows.mono this (fun v w' h=>mono _ _ h)
 ·exact this.elim
theorem aef (W:World) (hW:WOK W):xY (akT Tryz.prog W) 184:=by
 intro s hs
 have sz:(⟨s.toArray⟩:ByteArray).size = s.length:=K6 s
 refine ⟨aqd (cv:=[.string ⟨s.toArray⟩]) (rv:=.int .i64 (XI s)) (ve:=amN s) (fun h=>h) (fun _ _ _=>.sc rfl) ?_,?_,?_⟩
 ·intro w hk
  have hw:=hW.keeps hk
  show Xx Tryz.prog 184 _ w _
  refine (Xd aq9 _ _ _).2 ?_
  rcases ha:Lib.atoiAll s with v|_|_
  ·skip
   have:=Tryz.strconv_Atoi_ok ⟨s.toArray⟩ (by omega) v (by simpa using ha) w
   refine this.mono fun e w' ⟨he,hw'⟩=>?_
   subst he
   refine ⟨⟨.nilIface,by simp [XI,ha],fun _ _ _=>by rw [amN,ha];exact .sc rfl⟩,?_⟩
   rcases hw' with rfl|⟨t,rfl⟩
   ·exact Below.refl _ _
   ·exact ai8 _ _
  ·skip
   obtain ⟨t,p,hc⟩:=hw.syn
   have:=Tryz.strconv_Atoi_syntax ⟨s.toArray⟩ (by omega) (by simpa using ha) _ w hc (.inr ⟨t,p,rfl⟩)
   refine this.mono fun e w' ⟨N,he,_,_,hb⟩=>?_
   subst he
   exact ⟨⟨_,by simp only [XI,ha];rfl,fun _ _ _=>by rw [amN,ha];exact .nn⟩,hb⟩
  ·skip
   obtain ⟨t,p,hc⟩:=hw.rng
   have:=Tryz.strconv_Atoi_range ⟨s.toArray⟩ (by omega) (by simpa using ha) _ w hc (.inr ⟨t,p,rfl⟩)
   refine this.mono fun e w' ⟨N,he,_,_,hb⟩=>?_
   subst he
   exact ⟨⟨_,by simp only [XI,ha];rfl,fun _ _ _=>by rw [amN,ha];exact .nn⟩,hb⟩
 ·unfold amN;split<;>simp only [V.closed,Qa,and_self]
 ·unfold amN;split<;>simp only [V.noSl,UJ,and_self]
theorem ajI (c:UInt8):∀ (p t:List UInt8),c ∉ p→Lib.index (p++c :: t) [c] = (p.length:Int)
 | [],t,_=>by rw [List.nil_append,Lib.index];simp [List.isPrefixOf]
 | x :: p,t,h=>by
   simp only [zp,not_or] at h
   have hp:([c]:List UInt8).isPrefixOf (x :: (p++c :: t)) = false:=by simp [List.isPrefixOf,h.1]
   rw [List.cons_append,Lib.index,hp,ajI c p t h.2]
   have:¬ ((p.length:Int) == -1) = true:=by simp
   simp only [zk,if_false]
   rw [if_neg this];simp
theorem aey (c:UInt8):∀ (p cur t:List UInt8),c ∉ p→Ya c cur (p++c :: t) = (cur++p) :: Ya c [] t
 | [],cur,t,_=>by simp [Ya]
 | x :: p,cur,t,h=>by
   simp only [zp,not_or] at h
   rw [List.cons_append,Ya,if_neg (fun e=>h.1 e.symm),aey c p _ t h.2];simp
theorem aex (c:UInt8):∀ (n:Nat) (s:List UInt8),s.count c = n→Lib.splitK [c] 0 n s = QU c s
 | 0,s,h=>by
   have hn:c ∉ s:=List.count_eq_zero.1 h
   have:QU c s = [s]:=by simpa [QU] using acy c s [] hn
   rw [this];rfl
 | n + 1,s,h=>by
   have hm:c∈s:=List.count_pos_iff.1 (by omega)
   obtain ⟨p,t,rfl,hp⟩:=List.eq_append_cons_of_mem hm
   rw [Lib.splitK,ajI c p t hp]
   have:¬ ((p.length:Int) == -1) = true:=by simp
   rw [if_neg this]
   have h2:t.count c = n:=by
    rw [List.count_append,List.count_cons_self,List.count_eq_zero.2 hp] at h;omega
   have e1:(p++c :: t).take ((p.length:Int).toNat + 0) = p:=by simp
   have e2:(p++c :: t).drop ((p.length:Int).toNat + [c].length) = t:=by simp
   rw [e1,e2,aex c n t h2]
   show p :: QU c t = Ya c [] (p++c :: t)
   rw [aey c p [] t hp];rfl
theorem K7 (c:UInt8):∀ (s cur:List UInt8),(Ya c cur s).length = s.count c + 1
 | [],cur=>by simp [Ya]
 | x :: s,cur=>by
   rw [Ya];split
   ·rename_i h;subst h;rw [List.length_cons,K7 x s [],List.count_cons_self]
   ·rename_i h;rw [K7 c s,List.count_cons_of_ne (by simpa using h)]
theorem aqc {Γ:Env} {f:FuncId} {cv:List Value} {xs:List (List UInt8)}
  (h:∀ w,(∀ b x,Γ.kn b = some x→w.heap[b]? = some x)→Xx Γ.P f cv.toArray w fun e w'=>∃ t:TypeId,e = .returned (.slice (some ⟨w.heap.size,0,none⟩) xs.length xs.length)∧w' = w.alloc (.cells ((xs.map fun s=>Value.string ⟨s.toArray⟩).toArray) t)) :
  Ev Γ f (cv.map .sc) [] (.sl 1 (xs.map V.str)) []:=by
 intro C cargs hP hm hmu hg hF hsz hrep
 subst hP
 have hargs:cargs = cv.toArray:=by
  apply Array.ext
  ·simpa using hsz
  ·intro i h1 h2
   have:=hrep i (by simpa using h2) h1
   simp only [zH] at this
   simpa using this.scE.1
 subst hargs
 refine (h C.w0 (fun b x h=>(C.hkn b x h).1)).mono ?_
 rintro e w' ⟨t,rfl,rfl⟩
 have hcell:∀ i,(hi:i < xs.length)→(C.w0.alloc (.cells ((xs.map fun s=>Value.string ⟨s.toArray⟩).toArray) t)).cell? ⟨C.w0.heap.size,i,none⟩ = some (.string ⟨(xs[i]).toArray⟩):=by
  intro i hi
  rw [cell?_of_heap Av.heap_alloc_new]
  simp [hi]
 refine ⟨_,fun b i=>C.Z0 b i∨(b = C.w0.heap.size∧i < xs.length),C.μ0,rfl,?_,⟨fun a x h=>by simp at h,fun a b x y c d _ h=>by simp at h,?_,by simp,fun b hb _=>U1 hb,?_,fun b i h=>.inl h,fun b i h=>Y0 (hg.zlt b i h),fun k _=>rfl,Vq.mk⟩,fun k hk=>hmu k (by simp)⟩
 ·have hl:(xs.map V.str).length = xs.length:=by simp
  rw [← hl]
  refine Rep.sl (fun i j=>.string ⟨(xs.getD i []).toArray⟩) (zi _) (fun i hi=>by simp [V.cells]) (fun i hi j hj=>?_) (fun i hi j hj=>?_)
  ·have hi':i < xs.length:=by simpa using hi
   have hj':j = 0:=by simp [V.cells] at hj;exact hj
   subst hj'
   refine ⟨?_,.inr ⟨rfl,by omega⟩,rfl⟩
   simp [zo,zf hi',hcell i hi']
  ·have hi':i < xs.length:=by simpa using hi
   have hj':j = 0:=by simp [V.cells] at hj;exact hj
   subst hj'
   simp only [zH,V.cells,List.getElem_cons_zero]
   simp only [zo,zf hi',Option.getD_some]
   exact .sc rfl
 ·intro b i h
  rcases h with h|⟨rfl,_⟩
  ·have:=hg.zlt b i h;simp;omega
  ·simp
 ·intro b i h
  rcases h with h|⟨rfl,_⟩
  ·exact .inl h
  ·exact .inr (.inl (zi _))
theorem xP (W:World) (hW:WOK W):UO (akT Tryz.prog W) 148:=by
 intro s c hs
 refine ⟨aqc (cv:=[.string ⟨s.toArray⟩,.string ⟨[c].toArray⟩]) (xs:=QU c s) ?_,by simp only [V.closed]⟩
 intro w hk
 obtain ⟨m,hm⟩:=(hW.keeps hk).maxLen
 have:=Tryz.strings_Split ⟨s.toArray⟩ ⟨[c].toArray⟩ m w (by rw [K6];exact hs) hm (by simp [ByteArray.size])
 show Xx Tryz.prog 148 _ w _
 refine (Xd arc _ _ _).2 (this.mono fun e w' ⟨he,hw⟩=>⟨9,?_,?_⟩)
 ·have h1:Lib.countB ⟨s.toArray⟩ ⟨[c].toArray⟩ = s.count c:=by
   show Lib.count _ _ = _
   simp [Lib.count_one]
  have h2:(QU c s).length = s.count c + 1:=K7 c s []
  rw [he,h1,h2]
 ·have h1:Lib.countB ⟨s.toArray⟩ ⟨[c].toArray⟩ = s.count c:=by
   show Lib.count _ _ = _
   simp [Lib.count_one]
  have h3:=Lib.splitB_data ⟨[c].toArray⟩ 0 (s.count c) ⟨s.toArray⟩
  have h4:Lib.splitK [c] 0 (s.count c) s = QU c s:=aex c _ s rfl
  have h5:(Lib.splitB ⟨[c].toArray⟩ 0 (s.count c) ⟨s.toArray⟩).map Value.string = (QU c s).map fun s=>Value.string ⟨s.toArray⟩:=by
   have h6:(Lib.splitB ⟨[c].toArray⟩ 0 (s.count c) ⟨s.toArray⟩).map (·.data.toList) = QU c s:=by rw [h3];simpa using h4
   rw [← h6,List.map_map]
   refine kj fun x _=>?_
   simp
  rw [hw,h1,h5]
theorem adw (W:World) (hW:WOK W):y9 (akT Tryz.prog W) 185:=by
 intro s c hs
 refine ⟨amL (cv:=[.string ⟨s.toArray⟩,.string ⟨[c].toArray⟩]) (res:=.int .i64 (((QU c s).length - 1:Nat):Int)) (fun _ _ _=>.sc rfl) ?_,trivial,trivial⟩
 intro w hk
 have:=Tryz.strings_Count_one ⟨s.toArray⟩ c w
 show Xx Tryz.prog 185 _ w _
 refine (Xd aq8 _ _ _).2 (this.mono fun e w' ⟨he,hw⟩=>?_)
 subst he;subst hw
 have h2:(QU c s).length = s.count c + 1:=K7 c s []
 refine ⟨?_,zi _,fun _ _=>rfl,Vq.mk⟩
 rw [h2];rfl
theorem KF (W:World) (hW:WOK W):Wj (akT Tryz.prog W) 162:=by
 intro s c
 refine ⟨amL (cv:=[.string ⟨s.toArray⟩,.int .u8 c.toNat]) (res:=.int .i64 (Lib.indexByte s c)) (fun _ _ _=>.sc rfl) ?_,trivial,trivial⟩
 intro w hk
 have:=Tryz.strings_IndexByte ⟨s.toArray⟩ c.toNat w
 show Xx Tryz.prog 162 _ w _
 refine (Xd ara _ _ _).2 (this.mono fun e w' ⟨he,hw⟩=>?_)
 subst he;subst hw
 refine ⟨?_,zi _,fun _ _=>rfl,Vq.mk⟩
 simp
theorem akU {P:Program} {g:Nat} (h:Av.Own P g):∀ args w,(callFunc g args).run P w = .ok (.enter g args) w:=fun args w=>by
 obtain ⟨fn,h1,h2,c,h3⟩:=h
 simp [callFunc,h1,h2,h3]
theorem asE:Tryz.prog.follows .mixedOrders = true:=by kernel_rfl
theorem arb:Av.Own Tryz.prog 153:=⟨Tryz.f153,Tryz.func153,by decide,_,rfl⟩
theorem arf:Av.Own Tryz.prog 109:=⟨Tryz.f109,Tryz.func109,by decide,_,rfl⟩
theorem aiK (xs:List Int):(xs.mergeSort fun x y=>decide (x≤y)) = adN (fun x y:Int=>decide (x < y)) xs:=by
 have h1:=ahg (lt:=fun x y:Int=>decide (x < y)) (fun x y z h h'=>by simp at *;omega) (fun x y h=>by simp at *;omega) xs
 refine List.Perm.eq_of_pairwise (le:=fun x y:Int=>x≤y) (fun a b _ _ h1 h2=>by omega) ?_ (h1.imp fun {a b} h=>by simpa using h) ((List.mergeSort_perm _ _).trans wm.symm)
 have:=List.pairwise_mergeSort (le:=fun x y:Int=>decide (x≤y)) (fun a b c h1 h2=>by simp at *;omega) (fun a b=>by simp;omega) xs
 exact this.imp fun {a b} h=>by simpa using h
theorem yv (W:World) (_hW:WOK W):WZ (akT Tryz.prog W) 153:=fun xs hx =>
 amM (Γ:=akT Tryz.prog W) arb (fun blk off cap zs w hH hb hs=>Any.slices_Sort_int Tryz.lays189 blk off cap zs w hH hb hs) (fun a cap w=>Any.slices_Sort_int_none Tryz.lays189 a cap w) hx (aiK xs)
theorem apQ {Γ:Env} (mix:Γ.P.follows .mixedOrders = true) {g:Nat} (own:Av.Own Γ.P g) {p:Nat→Bool} (hg:∀ n:Nat,EvN Γ g [.sc (.int .i32 n)] (V.bool (p n))) {w:World} (hk:∀ b x,Γ.kn b = some x→w.heap[b]? = some x) :
  PredGrows Γ.P g #[] p w:=by
 intro W x _ hb
 rw [Array.append_empty]
 let C:Ctx:={ P:=Γ.P,w0:=W,Z0:=amd W,F:=fun _=>False,m:=0,μ0:=noμ,kn:=Γ.kn,dr:=Γ.dr,mix:=mix,hkn:=fun b y h=>⟨by
  have:=hk b y h
  rw [hb.block b (zU.1 this).1];exact this,fun h=>h⟩ }
 have hgd:Av.Good C W (amd W) noμ (fun k=>([]:List Ob)[k]?):=by
  refine ⟨by grind,by grind,fun b i h=>h,zi _,fun _ _ _=>rfl,fun b i h=>.inl h,fun b i h=>h,fun _ _ _=>rfl,by grind,Vq.refl _⟩
 have:=(hg x).1 C #[.int .i32 x] rfl rfl (fun k _=>rfl) hgd (fun b hb=>hb.elim) rfl (fun i h h'=>by
  match i,h with
  | 0,_=>exact .sc rfl)
 rw [show C.w0 = W from rfl,Xd own] at this
 refine Calls.mono this ?_
 rintro e w' ⟨v,Z',μ',rfl,hr,hgd,_⟩
 refine ⟨by rw [hr.scE.1],⟨hgd.oo.1,hgd.oo.2.1,hgd.oo.2.2.1,hgd.grow,fun k hk=>hgd.frame k hk (fun h=>h)⟩⟩
theorem wF (W:World) (_hW:WOK W):UH (akT Tryz.prog W) 109:=by
 intro s g ho hg hs
 refine ⟨?_,by simp only [V.closed]⟩
 intro C cargs hP hm hmu hgd hF hsz hrep
 have hsz:cargs.size = 2:=hsz
 obtain ⟨a0,a1,rfl⟩:∃ a b,cargs = #[a,b]:=⟨cargs[0],cargs[1],by
  apply Array.ext
  ·simpa using hsz
  ·intro i a1 a2
   match i,a2 with
   | 0,_|1,_=>rfl⟩
 have r0:Rep C.w0 C.Z0 C.μ0 a0 (V.str s):=hrep 0 (by simp) (by simp)
 have r1:Rep C.w0 C.Z0 C.μ0 a1 (.clo (.n g) []):=hrep 1 (by simp) (by simp)
 have e0:a0 = .string ⟨s.toArray⟩:=r0.scE.1
 have e1:a1 = .func (.func g) #[] #[]:=by
  cases r1 with
  | clo hl _ =>
    have:∀ a:Array Value,a.size = 0→a = #[]:=fun a h=>by simpa using h
    rw [this _ hl]
 subst e0;subst e1
 have hk:∀ b x,(akT Tryz.prog W).kn b = some x→C.w0.heap[b]? = some x:=fun b x h=>(C.hkn b x (by rw [show C.kn = (akT Tryz.prog W).kn from congrArg Env.kn hP];exact h)).1
 have hp:=apQ (Γ:=akT Tryz.prog W) asE ho (p:=isB) (fun n=>by have:=hg n;rwa [show ((n:Int) == 32) = isB n from by rw [isB,Zt,kC,kC];omega] at this) hk
 have L:=Any.strings_FieldsFunc_grows Tryz.lays229 g #[] (akU ho) isB ⟨s.toArray⟩ C.w0 (by rw [K6];omega) hp (by kernel_rfl) (by kernel_rfl)
 rw [aft,zh,List.map_map] at L
 refine (Xd arf _ _ _).2 (L.mono ?_)
 rintro e w' ⟨A,rfl,hA,⟨hn,hrow⟩,hb⟩
 have cells:∀ i (hi:i < (V0 s).length),w'.cell? ⟨A,i,none⟩ = some (.string ⟨((V0 s)[i]).toArray⟩):=by
  intro i hi
  rcases hrow with ⟨h1,h2⟩|⟨g',cap,cur,h1,h2,h3,h4,h5,h6,h7⟩
  ·cases h1
  ·cases h1
   rw [cell?_of_heap h3]
   have h8:=congrArg (fun l=>l[i]?) h7
   simp only [List.getElem?_take,Nat.mul_one] at h8
   rw [if_pos hi] at h8
   rw [← Zl,h8]
   simp [hi]
 refine ⟨_,fun b i=>C.Z0 b i∨(b = A∧i < (V0 s).length),C.μ0,rfl,?_,⟨fun a x h=>by simp at h,fun a b x y c d _ h=>by simp at h,?_,hb.size,fun b h _=>hb.block b h,?_,fun b i h=>.inl h,fun b i h=>by simp [World.cell?,hb.block b (hgd.zlt b i h)],fun k _=>rfl,⟨hb.os,hb.tape,hb.output,fun h=>?_⟩⟩,fun k hk=>hmu k (by simp)⟩
 ·have hl:((V0 s).map V.str).length = (V0 s).length:=by simp
  rw [← hl]
  refine Rep.sl (fun i j=>.string ⟨((V0 s).getD i []).toArray⟩) (zi _) (fun i hi=>by simp [V.cells]) (fun i hi j hj=>?_) (fun i hi j hj=>?_)
  ·have hi':i < (V0 s).length:=by simpa using hi
   have hj':j = 0:=by simp [V.cells] at hj;exact hj
   subst hj'
   refine ⟨?_,.inr ⟨rfl,by omega⟩,rfl⟩
   simp [zo,zf hi',cells i hi']
  ·have hi':i < (V0 s).length:=by simpa using hi
   have hj':j = 0:=by simp [V.cells] at hj;exact hj
   subst hj'
   simp only [zH,V.cells,List.getElem_cons_zero]
   simp only [zo,zf hi',Option.getD_some]
   exact .sc rfl
 ·intro b i h
  rcases h with h|⟨rfl,hi⟩
  ·exact km (hgd.zlt b i h) hb.size
  ·have:=cells i hi
   unfold World.cell? at this
   rcases hh:w'.heap[b]? with _|x
   ·rw [hh] at this;cases this
   ·exact (zU.1 hh).1
 ·intro b i h
  rcases h with h|⟨rfl,_⟩
  ·exact .inl h
  ·exact .inr (.inl hA)
 ·have:C.dr = False:=congrArg Env.dr hP
  rw [this] at h;exact h.elim
end Go.Proofs.YtphclkkggijicaaGreatDoor
end
