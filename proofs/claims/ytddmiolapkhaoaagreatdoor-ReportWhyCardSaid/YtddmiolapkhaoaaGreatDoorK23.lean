/- What the first world of a row gives, and the library's contracts there (report, exposure). -/
import Derived.Test.YtddmiolapkhaoaaGreatDoorK20
import Derived.Test.YtddmiolapkhaoaaGreatDoorK11
import Derived.Test.YtddmiolapkhaoaaGreatDoorK21
import Derived.Test.YtddmiolapkhaoaaGreatDoorProg
import Derived.Test.YtddmiolapkhaoaaGreatDoorK22
import Derived.Lib.SplitLaws
import Derived.Laws.AppendOwn
import Derived.Sort.Walk0
import Derived.KernelRfl
set_option linter.unusedVariables false
set_option linter.unusedSimpArgs false
section
namespace Go.Proofs.YtddmiolapkhaoaaGreatDoor
open Go Av Go.RowKit
set_option maxRecDepth 100000
set_option linter.unusedVariables false
structure WOK (W:World):Prop where
 pow:Lib.TabIs Tryz.prog W "internal/strconv.uint64pow10" .u64 Lib.pow10Tab
 asc:Lib.TabIs Tryz.prog W "strings.asciiSpace" .u8 Lib.asciiSpaceTab
def avb (W w:World):Prop:=∀ b x,(apx Tryz.prog W).kn b = some x→w.heap[b]? = some x
theorem avb.cell {W w:World} (h:avb W w) {b i:Nat} {v:Value} (hc:W.cell? ⟨b,i,none⟩ = some v):w.cell? ⟨b,i,none⟩ = some v:=by
 unfold World.cell? at hc ⊢
 cases hb:W.heap[b]? with
 | none=>simp [hb] at hc
 | some x=>rw [h b x hb];rw [hb] at hc;exact hc
theorem avb.tab {W w:World} (h:avb W w) {n:String} {k:IntKind} {zs:List Int} (ht:Lib.TabIs Tryz.prog W n k zs):Lib.TabIs Tryz.prog w n k zs:=by
 unfold Lib.TabIs World.var? at ht ⊢
 cases hg:Tryz.prog.globalNamed n with
 | none=>simp [hg] at ht
 | some g =>
   simp only [hg,Option.bind_some] at ht ⊢
   cases hb:W.heap[g]? with
   | none=>simp [hb] at ht
   | some x=>rw [h g x hb];rw [hb] at ht;exact ht
theorem WOK.keeps {W w:World} (hW:WOK W) (h:avb W w):WOK w :=
 ⟨h.tab hW.pow,h.tab hW.asc⟩
theorem azx:Av.Own Tryz.prog 44:=⟨Tryz.f44,Tryz.func44,by decide,_,rfl⟩
theorem ayw:Av.Own Tryz.prog 57:=⟨Tryz.f57,Tryz.func57,by decide,_,rfl⟩
theorem azw:Av.Own Tryz.prog 54:=⟨Tryz.f54,Tryz.func54,by decide,_,rfl⟩
theorem ayz:Av.Own Tryz.prog 162:=⟨Tryz.f162,Tryz.func162,by decide,_,rfl⟩
theorem awL:Av.Own Tryz.prog 153:=⟨Tryz.f153,Tryz.func153,by decide,_,rfl⟩
theorem awK:Av.Own Tryz.prog 155:=⟨Tryz.f155,Tryz.func155,by decide,_,rfl⟩
theorem ayx:Av.Own Tryz.prog 43:=⟨Tryz.f43,Tryz.func43,by decide,_,rfl⟩
theorem ayy:Av.Own Tryz.prog 20:=⟨Tryz.f20,Tryz.func20,by decide,_,rfl⟩
theorem vJ (W:World) (hW:WOK W):KD (apx Tryz.prog W) 44:=by
 intro n h0 h1
 refine ⟨aw1 (cv:=[.int .i64 n]) (res:=.string ⟨(Lib.itoa n).toArray⟩) (fun _ _ _=>.sc rfl) ?_,trivial,trivial⟩
 intro w hk
 have:=Tryz.strconv_Itoa n h0 h1 w (hW.keeps hk).pow
 show V2 Tryz.prog 44 _ w _
 refine (XX azx _ _ _).2 (this.mono fun e w' ⟨he,k,os,hw⟩=>?_)
 subst he;subst hw
 refine ⟨rfl,?_,fun b hb=>?_,⟨rfl,rfl,rfl⟩⟩
 ·simp [Go.Sort.grow]
 ·have hb':b < (w.drewN k).heap.size:=hb
  simp only [Go.Sort.grow,Array.getElem?_append,if_pos hb']
  rfl
theorem axO {Γ:Env} {f:FuncId} {cv:List Value} {xs:List (List UInt8)}
  (h:∀ w,(∀ b x,Γ.kn b = some x→w.heap[b]? = some x)→V2 Γ.P f cv.toArray w fun e w'=>∃ t:TypeId,e = .returned (.slice (some ⟨w.heap.size,0,none⟩) xs.length xs.length)∧w' = w.alloc (.cells ((xs.map fun s=>Value.string ⟨s.toArray⟩).toArray) t)) :
  Ev Γ f (cv.map .sc) [] (.sl 1 (xs.map V.str)) []:=by
 intro C cargs hP hm hmu hg hF hsz hrep
 subst hP
 have hargs:cargs = cv.toArray:=by
  apply bq
  ·simpa using hsz
  ·intro i h1 h2
   have:=hrep i (by simpa using h2) h1
   simp only [ku] at this
   simpa using this.scE.1
 subst hargs
 refine (h C.w0 (fun b x h=>(C.hkn b x h).1)).mono ?_
 rintro e w' ⟨t,rfl,rfl⟩
 have hcell:∀ i,(hi:i < xs.length)→(C.w0.alloc (.cells ((xs.map fun s=>Value.string ⟨s.toArray⟩).toArray) t)).cell? ⟨C.w0.heap.size,i,none⟩ = some (.string ⟨(xs[i]).toArray⟩):=by
  intro i hi
  rw [cell?_of_heap Av.heap_alloc_new]
  simp [hi]
 refine ⟨_,fun b i=>C.Z0 b i∨(b = C.w0.heap.size∧i < xs.length),C.μ0,rfl,?_,⟨fun a x h=>by simp at h,fun a b x y c d _ h=>by simp at h,?_,by simp,fun b hb _=>WO hb,?_,fun b i h=>.inl h,fun b i h=>WT (hg.zlt b i h),fun k _=>rfl,⟨rfl,rfl,rfl⟩⟩,fun k hk=>hmu k (by simp)⟩
 ·have hl:(xs.map V.str).length = xs.length:=by simp
  rw [← hl]
  refine Rep.sl (fun i j=>.string ⟨(xs.getD i []).toArray⟩) (zl _) (fun i hi=>by simp [V.cells]) (fun i hi j hj=>?_) (fun i hi j hj=>?_)
  ·have hi':i < xs.length:=by simpa using hi
   have hj':j = 0:=by simp [V.cells] at hj;exact hj
   subst hj'
   refine ⟨?_,.inr ⟨rfl,by omega⟩,rfl⟩
   simp [zB,zb hi',hcell i hi']
  ·have hi':i < xs.length:=by simpa using hi
   have hj':j = 0:=by simp [V.cells] at hj;exact hj
   subst hj'
   simp only [ku,V.cells,List.getElem_cons_zero]
   simp only [zB,zb hi',Option.getD_some]
   exact .sc rfl
 ·intro b i h
  rcases h with h|⟨rfl,_⟩
  ·have:=hg.zlt b i h;simp;omega
  ·simp
 ·intro b i h
  rcases h with h|⟨rfl,_⟩
  ·exact .inl h
  ·exact .inr (.inl (zl _))
theorem auA {Γ:Env} {f:FuncId} {xs:List (List UInt8)} {sep r:List UInt8}
  (h:∀ w b o c,(∀ (j:Nat) x,(xs.map fun s=>(⟨s.toArray⟩:ByteArray))[j]? = some x→w.cell? ⟨b,o + j,none⟩ = some (.string x))→b < w.heap.size→xs.length≤c→xs≠[] →
    V2 Γ.P f #[.slice (some ⟨b,o,none⟩) xs.length c,.string ⟨sep.toArray⟩] w fun e w'=>e = .returned (.string ⟨r.toArray⟩)∧Below w.heap.size w w')
  (h0:xs = []→∀ w a c,V2 Γ.P f #[.slice a 0 c,.string ⟨sep.toArray⟩] w fun e w'=>e = .returned (.string ⟨r.toArray⟩)∧Below w.heap.size w w') :
  Ev Γ f [.sl 1 (xs.map V.str),V.str sep] [] (V.str r) []:=by
 intro C cargs hP hm hmu hg hF hsz hrep
 subst hP
 obtain ⟨v0,v1,rfl⟩:∃ v0 v1,cargs = #[v0,v1]:=by
  have h2:cargs.size = 2:=by simpa using hsz
  exact ⟨cargs[0],cargs[1],by
   apply bq
   ·simpa using h2
   ·intro i h1 h3
    match i,h3 with
    | 0,_=>rfl
    | 1,_=>rfl⟩
 have r0:Rep C.w0 C.Z0 C.μ0 v0 (.sl 1 (xs.map V.str)):=hrep 0 (by simp) (by simp)
 have r1:Rep C.w0 C.Z0 C.μ0 v1 (V.str sep):=hrep 1 (by simp) (by simp)
 obtain ⟨rfl,_⟩:=r1.scE
 obtain ⟨a,cap,rfl,hcap,hrow⟩:=r0.slE
 have fin:∀ (e:Ending) (w':World),(e = .returned (.string ⟨r.toArray⟩)∧Below C.w0.heap.size C.w0 w')→∃ u Z' μ',e = .returned u∧Rep w' Z' μ' u (V.str r)∧Av.Good C w' Z' μ' (fun k=>([]:List Ob)[k]?)∧∀ k,([]:List Ob).length≤k→μ' k = none:=by
  rintro e w' ⟨rfl,hb⟩
  exact ⟨_,C.Z0,C.μ0,rfl,.sc rfl,⟨fun a x h=>by simp at h,fun a b x y c d _ h=>by simp at h,fun b i h=>Zm (hg.zlt b i h) hb.size,hb.size,fun b h _=>hb.block b h,fun b i h=>.inl h,fun b i h=>h,fun b i h=>by simp [World.cell?,hb.block b (hg.zlt b i h)],fun k _=>rfl,⟨hb.os,hb.tape,hb.output⟩⟩,fun k hk=>hmu k (by simp)⟩
 by_cases hx:xs = []
 ·subst hx
  exact (h0 rfl C.w0 a cap).mono fin
 ·obtain ⟨bb,oo,rfl,hr,hz⟩:=hrow (by simpa using hx)
  have hl:(xs.map V.str).length = xs.length:=by simp
  rw [hl] at hcap ⊢
  have hpos:0 < xs.length:=by cases xs with|nil=>exact absurd rfl hx|cons _ _=>simp
  have hb:bb < C.w0.heap.size:=hg.zlt bb _ (hz 0 (by simpa using hpos) 0 (by simp [V.cells]))
  refine (h C.w0 bb oo cap (fun j x hj=>?_) hb hcap hx).mono fin
  obtain ⟨hj1,hj2⟩:=zh.1 hj
  have hj3:j < xs.length:=by simpa using hj1
  obtain ⟨_,hc⟩:=hr j (by simpa using hj3)
  obtain ⟨v,e1,_,e3⟩:=hc 0 (by simp [V.cells])
  have e4:Rep C.w0 C.Z0 noμ v (V.str xs[j]):=by simpa [V.cells] using e3
  obtain ⟨rfl,_⟩:=e4.scE
  have:x = ⟨(xs[j]).toArray⟩:=by rw [← hj2];simp
  rw [this]
  simpa using e1
theorem alw (W:World) (_hW:WOK W):adT (apx Tryz.prog W) 57:=by
 intro xs sep hn hl
 refine ⟨auA (fun w b o c hc hb hcap hx=>?_) (fun hx w a c=>?_),trivial,trivial⟩
 ·have e1:((xs.map fun s=>(⟨s.toArray⟩:ByteArray)).map (·.data.toList)) = xs:=by
   rw [List.map_map]
   conv=>rhs;rw [← List.map_id xs]
   exact kS fun s _=>by simp
  have hjo:Lib.join ((xs.map fun s=>(⟨s.toArray⟩:ByteArray)).map (·.data.toList)) (⟨sep.toArray⟩:ByteArray).data.toList = sep.intercalate xs:=by rw [e1];simp [Lib.join]
  have hlen:(xs.map fun s=>(⟨s.toArray⟩:ByteArray)).length = xs.length:=by simp
  have:=Tryz.strings_Join b o c (xs.map fun s=>⟨s.toArray⟩) ⟨sep.toArray⟩ w hc hb (by omega) (by omega) (by rw [hjo];omega)
  rw [hjo,hlen] at this
  exact (XX ayw _ _ _).2 this
 ·subst hx
  exact (XX ayw _ _ _).2 ((Tryz.strings_Join_none a c ⟨sep.toArray⟩ w).mono fun e w' ⟨he,hw⟩=>⟨by rw [he];simp [List.intercalate],hw ▸ Below.refl _ _⟩)
theorem ajd (W:World) (hW:WOK W):abg (apx Tryz.prog W) 54:=by
 intro s hs ha
 refine ⟨axO (cv:=[.string ⟨s.toArray⟩]) (xs:=Lib.fields s) ?_,by simp only [V.closed]⟩
 intro w hk
 have hsz:(⟨s.toArray⟩:ByteArray).size = s.length:=by simp [ByteArray.size]
 have:=Tryz.strings_Fields ⟨s.toArray⟩ w (by omega) (fun j b hb=>by
  have:=kH.1 ha b (zm (by simpa using hb))
  simpa using this) (hW.keeps hk).asc
 show V2 Tryz.prog 54 _ w _
 refine (XX azw _ _ _).2 (this.mono fun e w' ⟨he,hw⟩=>⟨9,?_,?_⟩)
 ·simpa using he
 ·simpa using hw
theorem auL:∀ a b:List UInt8,Lib.compareBytes a b = abi a b
 | [],[]=>by simp [Lib.compareBytes,abi,Op.bytesLess]
 | [],_ :: _=>by simp [Lib.compareBytes,abi,Op.bytesLess]
 | _ :: _,[]=>by simp [Lib.compareBytes,abi,Op.bytesLess]
 | a :: x,b :: y=>by
   have ih:=auL x y
   rw [abi] at ih ⊢
   rw [Lib.compareBytes,ih]
   simp only [Op.bytesLess]
   by_cases h1:a < b
   ·simp [h1]
   ·by_cases h2:b < a
    ·have h3:a≠b:=fun e=>by subst e;exact h1 h2
     simp [h1,h2,h3]
    ·have h3:a = b:=UInt8.le_antisymm (UInt8.not_lt.1 h2) (UInt8.not_lt.1 h1)
     subst h3
     simp [h1]
theorem abd (W:World) (hW:WOK W):KC (apx Tryz.prog W) 162:=by
 intro a b
 refine ⟨aw1 (cv:=[.string ⟨a.toArray⟩,.string ⟨b.toArray⟩]) (res:=.int .i64 (abi a b)) (fun _ _ _=>.sc rfl) ?_,trivial,trivial⟩
 intro w hk
 show V2 Tryz.prog 162 _ w _
 refine (XX ayz _ _ _).2 ((Tryz.strings_Compare ⟨a.toArray⟩ ⟨b.toArray⟩ w).mono fun e w' ⟨he,hw⟩=>?_)
 subst he;subst hw
 exact ⟨by simp [auL],zl _,fun _ _=>rfl,U7.refl _⟩
theorem arI {w:World} {n c:Nat} {t:TypeId} (h:n < 2 ^ 63):n≤grownCap w n c t∧grownCap w n c t < 2 ^ 63:=by
 refine ⟨grownCap_ge _ _ _ _,?_⟩
 have:=grownCap_le_maxLen w n c t (by unfold maxLen;omega)
 unfold maxLen at this
 omega
theorem ah7 {u:Value} {w:World} {vb voff:Nat} (h:w.cell? ⟨vb,voff,none⟩ = some u):∀ (j:Nat) (v:Value),[u][j]? = some v→w.cell? ⟨vb,voff + j,none⟩ = some v:=fun j v hj=>by
 obtain ⟨h1,rfl⟩:=zh.1 hj
 have:j = 0:=by simpa using h1
 subst this
 simpa using h
theorem azC:azn Tryz.prog 153 9 (.string ⟨#[]⟩):={
 shift:=fun b off n c i vb voff vc cs u w tA tB kA kB h1 h2 h3 h4 h5 h6 h7 h8 h9 h10 h11 h12 h13 h14 h15 h16 =>
  Any2.slices_Insert_string_shift Tryz.lays2I22 b off n c i vb voff 1 vc cs [u] w h1 Nat.one_pos h2 h3 h4 h5 rfl h6 h7 h8 (ah7 h9) h10 (by simpa using h11) tA tB kA kB h12 h13 h14 h15 h16
 endRoom:=fun b off n c vb voff vc u w h1 h2 h3 h4 h5 h6 =>
  Any2.slices_Insert_string_end_room Tryz.lays2I22 b off n c vb voff 1 vc [u] w Nat.one_pos h1 h2 rfl (fun j hj=>by have hj0:j = 0:=(by omega);subst hj0;exact h3) (fun j hj=>by have hj0:j = 0:=(by omega);subst hj0;exact h4) (ah7 h5) (by simpa using h6)
 endGrow:=fun base n c vb voff vc cs u w h1 h2 h3 h4 h5 h6 h7 h8 =>
  (Any2.slices_Insert_string_end_grow Tryz.lays2I22 base n c vb voff 1 vc cs [u] w Nat.one_pos h1 h2 (by omega) h4 rfl h5 h6 (ah7 h7) (by simpa using h8)).mono fun e w' ⟨he,hw⟩=>⟨_,arI (by omega),he,hw⟩
 grow:=fun b off n c i vb voff vc cs u w h1 h2 h3 h4 h5 h6 h7 h8 h9 =>
  (Any2.slices_Insert_string_grow Tryz.lays2I22 b off n c i vb voff 1 vc cs [u] w h1 Nat.one_pos h2 h3 (by omega) h5 rfl h6 (ah7 h7) h8 (by simpa using h9)).mono fun e w' ⟨he,hw⟩=>⟨_,_,arI (by omega),by
    have:=grownCap_ge w (n + 1) c (Tryz.lays2I22_ren.t 9)
    rw [kW,kW,XT,XT];simp [Value.cells];omega,fun j v hj hv=>by
     rw [Array.append_assoc,kc (by simp;omega)]
     simp [hv,hj],he,hw⟩ }
theorem az4:azn Tryz.prog 155 3 (.int .i64 0):={
 shift:=fun b off n c i vb voff vc cs u w tA tB kA kB h1 h2 h3 h4 h5 h6 h7 h8 h9 h10 h11 h12 h13 h14 h15 h16 =>
  Any2.slices_Insert_int_shift Tryz.lays2I21 b off n c i vb voff 1 vc cs [u] w h1 Nat.one_pos h2 h3 h4 h5 rfl h6 h7 h8 (ah7 h9) h10 (by simpa using h11) tA tB kA kB h12 h13 h14 h15 h16
 endRoom:=fun b off n c vb voff vc u w h1 h2 h3 h4 h5 h6 =>
  Any2.slices_Insert_int_end_room Tryz.lays2I21 b off n c vb voff 1 vc [u] w Nat.one_pos h1 h2 rfl (fun j hj=>by have hj0:j = 0:=(by omega);subst hj0;exact h3) (fun j hj=>by have hj0:j = 0:=(by omega);subst hj0;exact h4) (ah7 h5) (by simpa using h6)
 endGrow:=fun base n c vb voff vc cs u w h1 h2 h3 h4 h5 h6 h7 h8 =>
  (Any2.slices_Insert_int_end_grow Tryz.lays2I21 base n c vb voff 1 vc cs [u] w Nat.one_pos h1 h2 (by omega) h4 rfl h5 h6 (ah7 h7) (by simpa using h8)).mono fun e w' ⟨he,hw⟩=>⟨_,arI (by omega),he,hw⟩
 grow:=fun b off n c i vb voff vc cs u w h1 h2 h3 h4 h5 h6 h7 h8 h9 =>
  (Any2.slices_Insert_int_grow Tryz.lays2I21 b off n c i vb voff 1 vc cs [u] w h1 Nat.one_pos h2 h3 (by omega) h5 rfl h6 (ah7 h7) h8 (by simpa using h9)).mono fun e w' ⟨he,hw⟩=>⟨_,_,arI (by omega),by
    have:=grownCap_ge w (n + 1) c (Tryz.lays2I21_ren.t 3)
    rw [kW,kW,XT,XT];simp [Value.cells];omega,fun j v hj hv=>by
     rw [Array.append_assoc,kc (by simp;omega)]
     simp [hv,hj],he,hw⟩ }
theorem qA (W:World) (hW:WOK W):Ww (apx Tryz.prog W) 153:=by
 refine ⟨fun xs i x hi hp hl=>?_,fun x=>?_⟩
 ·have:=arA (Γ:=apx Tryz.prog W) azC awL (i:=i) (ls:=xs.map fun s=>Value.string ⟨s.toArray⟩) (u:=.string ⟨x.toArray⟩) (by simpa using hi) (by simpa using hp) (by simp;omega) (by simp only [zE];rintro v ⟨s,_,rfl⟩;rfl) rfl
  simpa [kj,kx,Function.comp_def,V.str] using this
 ·exact arz (Γ:=apx Tryz.prog W) azC awL rfl trivial
theorem vK (W:World) (hW:WOK W):V4 (apx Tryz.prog W) 155:=by
 refine ⟨fun xs i x hi hp hl=>?_,fun x=>?_⟩
 ·have:=arA (Γ:=apx Tryz.prog W) az4 awK (i:=i) (ls:=xs.map fun s=>Value.int .i64 s) (u:=.int .i64 x) (by simpa using hi) (by simpa using hp) (by simp;omega) (by simp only [zE];rintro v ⟨s,_,rfl⟩;rfl) rfl
  simpa [kj,kx,Function.comp_def,V.int] using this
 ·exact arz (Γ:=apx Tryz.prog W) az4 awK rfl trivial
theorem azU:aw4 Tryz.prog = 63:=by kernel_rfl
theorem aAn:ayZ Tryz.prog = 5:=by kernel_rfl
theorem yw (W:World) (_hW:WOK W):W4 (apx Tryz.prog W) 43 :=
 ⟨ay3 (ρ:=Tryz.lays240_ren) Tryz.lays240 Tryz.Builder_X72_240 azU ayx,fun l=>ay2 (ρ:=Tryz.lays240_ren) Tryz.lays240 Tryz.Builder_X72_240 ayx l⟩
theorem vI (W:World) (_hW:WOK W):V3 (apx Tryz.prog W) 20 :=
 ⟨ay1 (ρ:=Tryz.lays169_ren) Tryz.lays169 Tryz.Builder_Extra_169 azU ayy,fun l h0 hn=>ay0 (ρ:=Tryz.lays169_ren) Tryz.lays169 Tryz.Builder_Extra_169 azU aAn ayy l h0 hn⟩
end Go.Proofs.YtddmiolapkhaoaaGreatDoor
end
