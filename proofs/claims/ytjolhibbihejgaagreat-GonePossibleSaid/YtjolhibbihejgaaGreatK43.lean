/- The library's contracts at this seat. -/
import Derived.Test.YtjolhibbihejgaaGreatK36
import Derived.Test.YtjolhibbihejgaaGreatK13
import Derived.Test.YtjolhibbihejgaaGreatK37
import Derived.Test.YtjolhibbihejgaaGreatK39
import Derived.Test.YtjolhibbihejgaaGreatK40
import Derived.Test.YtjolhibbihejgaaGreatK41
import Derived.Test.YtjolhibbihejgaaGreatK42
import Derived.Laws.AppendOwn
import Derived.Sort.Walk0
import Derived.Shelf.Slices.In.SortNone
import Derived.KernelRfl
set_option linter.unusedVariables false
set_option linter.unusedSimpArgs false
section
namespace Go.Proofs.YtjolhibbihejgaaGreat
open Go Av Go.RowKit
set_option maxRecDepth 100000
set_option linter.unusedVariables false
structure WOK (W:World):Prop where
 ok:True
theorem vw {P:Program} {g:Nat} (h:Av.Own P g):∀ args w,(callFunc g args).run P w = .ok (.enter g args) w:=fun args w=>by
 obtain ⟨fn,h1,h2,c,h3⟩:=h
 simp [callFunc,h1,h2,h3]
theorem asL:Av.Own Tryz.prog 162:=⟨Tryz.f162,Tryz.func162,by decide,_,rfl⟩
theorem aqB:Av.Own Tryz.prog 110:=⟨Tryz.f110,Tryz.func110,by decide,_,rfl⟩
theorem aqA:Av.Own Tryz.prog 112:=⟨Tryz.f112,Tryz.func112,by decide,_,rfl⟩
theorem aoA:∀ a b:List UInt8,Lib.compareBytes a b = ack a b
 | [],[]=>by simp [Lib.compareBytes,ack,Op.bytesLess]
 | [],_ :: _=>by simp [Lib.compareBytes,ack,Op.bytesLess]
 | _ :: _,[]=>by simp [Lib.compareBytes,ack,Op.bytesLess]
 | a :: x,b :: y=>by
   have ih:=aoA x y
   rw [ack] at ih ⊢
   rw [Lib.compareBytes,ih]
   simp only [Op.bytesLess]
   by_cases h1:a < b
   ·simp [h1]
   ·by_cases h2:b < a
    ·have h3:a≠b:=fun e=>by subst e;exact h1 h2
     simp [h1,h2,h3]
    ·have h3:a = b:=UInt8.le_antisymm (UInt8.not_lt.1 h2) (UInt8.not_lt.1 h1)
     subst h3
     simp [h1]
theorem yA (W:World) (hW:WOK W):Uy (ahm Tryz.prog W) 162:=by
 intro G hG a b
 refine ⟨aqL (cv:=[.string ⟨a.toArray⟩,.string ⟨b.toArray⟩]) (res:=.int .i64 (ack a b)) (fun _ _ _=>.sc rfl) ?_,trivial,trivial⟩
 intro w hk
 rw [hG]
 refine (Xg asL _ _ _).2 ((Any.strings_Compare Tryz.lays106 ⟨a.toArray⟩ ⟨b.toArray⟩ w).mono fun e w' ⟨he,hw⟩=>?_)
 subst he;subst hw
 exact ⟨by simp [aoA],zm _,fun _ _=>rfl,Xq.refl _⟩
theorem asK:Av.Own Tryz.prog 72:=⟨Tryz.f72,Tryz.func72,by decide,_,rfl⟩
theorem asN:Av.Own Tryz.prog 115:=⟨Tryz.f115,Tryz.func115,by decide,_,rfl⟩
theorem aeC (xs:List Int):(xs.mergeSort fun x y=>decide (x≤y)) = jj (fun x y:Int=>decide (x < y)) xs:=by
 have h1:=abe (lt:=fun x y:Int=>decide (x < y)) (fun x y z h h'=>by simp at *;omega) (fun x y h=>by simp at *;omega) xs
 refine Zr (le:=fun x y:Int=>x≤y) (fun a b _ _ h1 h2=>by omega) ?_ (h1.imp fun {a b} h=>by simpa using h) ((List.mergeSort_perm _ _).trans Wp.symm)
 have:=List.pairwise_mergeSort (le:=fun x y:Int=>decide (x≤y)) (fun a b c h1 h2=>by simp at *;omega) (fun a b=>by simp;omega) xs
 exact this.imp fun {a b} h=>by simpa using h
theorem xB (W:World) (hW:WOK W):Ua (ahm Tryz.prog W) 72:=fun xs hx =>
 aoi (Γ:=ahm Tryz.prog W) asK (fun blk off cap zs w hH hb hs=>Any.slices_Sort_int Tryz.lays189 blk off cap zs w hH hb hs) (fun a cap w=>Any.slices_Sort_int_none Tryz.lays189 a cap w) hx (aeC xs)
instance:Inhabited JF:=⟨⟨0,[],0,0,0,0,[],0⟩⟩
def atC (x:JF):List Value:=[.int .i64 x.ent,.string ⟨x.subj.toArray⟩,.int .i64 x.kind,.int .i64 x.alg,.int .i64 x.bits,.int .i64 x.num,.string ⟨x.text.toArray⟩,.int .i64 x.find]
theorem am6 {α:Type} {c:α→α→Int} (h:Cm c):Go.Sort.SWO (ltOf c):=by
 refine ⟨fun x=>?_,fun x y z h1 h2=>?_,fun x y z h1 h2=>?_⟩
 ·have:=h.neg x x
  simp only [ltOf,zB];omega
 ·simp only [ltOf,zO] at *
  have a1:=h.tr x y z (by omega) (by omega)
  by_cases h3:c x z = 0
  ·have:=h.ze x y z (by omega) (by omega) h3;omega
  ·omega
 ·simp only [ltOf,zB,ZZ] at *
  have a1:=h.neg x y
  have a2:=h.neg y z
  have a3:=h.neg x z
  have:=h.tr z y x (by omega) (by omega)
  omega
theorem af3 {α:Type} [Inhabited α] {c:α→α→Int} (h:Cm c) {xs:List α} (hd:∀ a∈xs,∀ b∈xs,c a b = 0→a = b) {d':Array α} (hp:Go.Sort.PermIn 0 xs.length xs.toArray d') (hs:Go.Sort.SortedIn (ltOf c) 0 xs.length d') :
  d'.toList = jj (fun x y=>decide (c x y < 0)) xs:=by
 obtain ⟨hsz,_,hperm⟩:=hp
 have hsz:d'.size = xs.length:=by simpa using hsz
 rw [← hsz,Array.extract_size,show xs.toArray.extract 0 d'.size = xs.toArray by rw [hsz];exact (by simp)] at hperm
 have hO:=am6 h
 have h1:=abe (lt:=fun x y=>decide (c x y < 0)) (fun x y z h h'=>hO.ntrans z y x h' h) (fun x y h'=>by
  simp only [zO,zB] at *;have:=h.neg x y;omega) xs
 refine Zr (le:=fun x y=>decide (c y x < 0) = false) (fun a b ha hb h1 h2=>?_) ?_ h1 (hperm.trans Wp.symm)
 ·simp only [zB,ZZ] at h1 h2
  have a1:=h.neg a b
  exact hd a (hperm.mem_iff.1 ha) b (Wp.mem_iff.1 hb) (by omega)
 ·rw [ke]
  intro i j hi hj hij
  have hi':i < d'.size:=by simpa using hi
  have hj':j < d'.size:=by simpa using hj
  have:=hs i j (zA _) hij (by omega)
  rw [getElem!_pos d' j hj',getElem!_pos d' i hi'] at this
  simpa [ltOf] using this
theorem Vc (W:World) (hW:WOK W):Ye (ahm Tryz.prog W) 115:=fun xs g c hg hcmp hc hd hx =>
 aiH (Γ:=ahm Tryz.prog W) (enc:=atC) (k:=8) (cf:=c) asN hg (fun x v hv=>by simp only [atC,zo,zl,or_false] at hv;rcases hv with rfl|rfl|rfl|rfl|rfl|rfl|rfl|rfl<;>rfl) (fun _=>rfl) (by decide) hcmp
  (fun blk off cap d w hC hH hb hs=>AnyQ.slices_SortFunc Tryz.laysF 8 Tryz.isAgg168 Tryz.sizeOf168 atC (fun _=>rfl) (fun x v hv=>by simp only [atC,zo,zl,or_false] at hv;rcases hv with rfl|rfl|rfl|rfl|rfl|rfl|rfl|rfl<;>rfl) c (am6 hc) g #[] blk off cap d w (vw hg) hC hH hb hs)
  (fun a cap w=>(AnyF.slices_SortFunc_none Tryz.laysF a cap _ w).mono fun e w' ⟨h1,h2⟩=>⟨h1,0,#[],by rw [h2];simp [Go.Sort.grow,Go.Sort.ahead]⟩)
  hx (fun d' hp hs=>af3 hc hd hp hs) (qK _ _)
theorem atV:Av.Own Tryz.prog 87:=⟨Tryz.f87,Tryz.func87,by decide,_,rfl⟩
instance:Inhabited (Int×Bool):=⟨(0,false)⟩
def atD (x:Int×Bool):List Value:=[.int .i64 x.1,.bool x.2]
theorem Xj (W:World) (hW:WOK W):JH (ahm Tryz.prog W) 87:=fun xs g c hg hcmp hc hd hx =>
 aiH (Γ:=ahm Tryz.prog W) (enc:=atD) (k:=2) (cf:=c) atV hg (fun x v hv=>by simp only [atD,zo,zl,or_false] at hv;rcases hv with rfl|rfl<;>rfl) (fun _=>rfl) (by decide) hcmp
  (fun blk off cap d w hC hH hb hs=>AnyQ.slices_SortFunc Tryz.laysE 2 Tryz.isAgg134 Tryz.sizeOf134 atD (fun _=>rfl) (fun x v hv=>by simp only [atD,zo,zl,or_false] at hv;rcases hv with rfl|rfl<;>rfl) c (am6 hc) g #[] blk off cap d w (vw hg) hC hH hb hs)
  (fun a cap w=>(AnyF.slices_SortFunc_none Tryz.laysE a cap _ w).mono fun e w' ⟨h1,h2⟩=>⟨h1,0,#[],by rw [h2];simp [Go.Sort.grow,Go.Sort.ahead]⟩)
  hx (fun d' hp hs=>af3 hc hd hp hs) (qK _ _)
theorem als {w:World} {n c:Nat} {t:TypeId} (h:n < 2 ^ 63):n≤grownCap w n c t∧grownCap w n c t < 2 ^ 63:=by
 refine ⟨grownCap_ge _ _ _ _,?_⟩
 have:=grownCap_le_maxLen w n c t (by unfold maxLen;omega)
 unfold maxLen at this
 omega
theorem ade {u:Value} {w:World} {vb voff:Nat} (h:w.cell? ⟨vb,voff,none⟩ = some u):∀ (j:Nat) (v:Value),[u][j]? = some v→w.cell? ⟨vb,voff + j,none⟩ = some v:=fun j v hj=>by
 obtain ⟨h1,rfl⟩:=zj.1 hj
 have:j = 0:=by simpa using h1
 subst this
 simpa using h
theorem at2:atG Tryz.prog 110 9 (.string ⟨#[]⟩):={
 shift:=fun b off n c i vb voff vc cs u w tA tB kA kB h1 h2 h3 h4 h5 h6 h7 h8 h9 h10 h11 h12 h13 h14 h15 h16 =>
  Any2.slices_Insert_string_shift Tryz.lays2I22 b off n c i vb voff 1 vc cs [u] w h1 Nat.one_pos h2 h3 h4 h5 rfl h6 h7 h8 (ade h9) h10 (by simpa using h11) tA tB kA kB h12 h13 h14 h15 h16
 endRoom:=fun b off n c vb voff vc u w h1 h2 h3 h4 h5 h6 =>
  Any2.slices_Insert_string_end_room Tryz.lays2I22 b off n c vb voff 1 vc [u] w Nat.one_pos h1 h2 rfl (fun j hj=>by have hj0:j = 0:=(by omega);subst hj0;exact h3) (fun j hj=>by have hj0:j = 0:=(by omega);subst hj0;exact h4) (ade h5) (by simpa using h6)
 endGrow:=fun base n c vb voff vc cs u w h1 h2 h3 h4 h5 h6 h7 h8 =>
  (Any2.slices_Insert_string_end_grow Tryz.lays2I22 base n c vb voff 1 vc cs [u] w Nat.one_pos h1 h2 (by omega) h4 rfl h5 h6 (ade h7) (by simpa using h8)).mono fun e w' ⟨he,hw⟩=>⟨_,als (by omega),he,hw⟩
 grow:=fun b off n c i vb voff vc cs u w h1 h2 h3 h4 h5 h6 h7 h8 h9 =>
  (Any2.slices_Insert_string_grow Tryz.lays2I22 b off n c i vb voff 1 vc cs [u] w h1 Nat.one_pos h2 h3 (by omega) h5 rfl h6 (ade h7) h8 (by simpa using h9)).mono fun e w' ⟨he,hw⟩=>⟨_,_,als (by omega),by
    have:=grownCap_ge w (n + 1) c (Tryz.lays2I22_ren.t 9)
    rw [kQ,kQ,Yp,Yp];simp [Value.cells];omega,fun j v hj hv=>by
     rw [Array.append_assoc,kz (by simp;omega)]
     simp [hv,hj],he,hw⟩ }
theorem aut:atG Tryz.prog 112 3 (.int .i64 0):={
 shift:=fun b off n c i vb voff vc cs u w tA tB kA kB h1 h2 h3 h4 h5 h6 h7 h8 h9 h10 h11 h12 h13 h14 h15 h16 =>
  Any2.slices_Insert_int_shift Tryz.lays2I21 b off n c i vb voff 1 vc cs [u] w h1 Nat.one_pos h2 h3 h4 h5 rfl h6 h7 h8 (ade h9) h10 (by simpa using h11) tA tB kA kB h12 h13 h14 h15 h16
 endRoom:=fun b off n c vb voff vc u w h1 h2 h3 h4 h5 h6 =>
  Any2.slices_Insert_int_end_room Tryz.lays2I21 b off n c vb voff 1 vc [u] w Nat.one_pos h1 h2 rfl (fun j hj=>by have hj0:j = 0:=(by omega);subst hj0;exact h3) (fun j hj=>by have hj0:j = 0:=(by omega);subst hj0;exact h4) (ade h5) (by simpa using h6)
 endGrow:=fun base n c vb voff vc cs u w h1 h2 h3 h4 h5 h6 h7 h8 =>
  (Any2.slices_Insert_int_end_grow Tryz.lays2I21 base n c vb voff 1 vc cs [u] w Nat.one_pos h1 h2 (by omega) h4 rfl h5 h6 (ade h7) (by simpa using h8)).mono fun e w' ⟨he,hw⟩=>⟨_,als (by omega),he,hw⟩
 grow:=fun b off n c i vb voff vc cs u w h1 h2 h3 h4 h5 h6 h7 h8 h9 =>
  (Any2.slices_Insert_int_grow Tryz.lays2I21 b off n c i vb voff 1 vc cs [u] w h1 Nat.one_pos h2 h3 (by omega) h5 rfl h6 (ade h7) h8 (by simpa using h9)).mono fun e w' ⟨he,hw⟩=>⟨_,_,als (by omega),by
    have:=grownCap_ge w (n + 1) c (Tryz.lays2I21_ren.t 3)
    rw [kQ,kQ,Yp,Yp];simp [Value.cells];omega,fun j v hj hv=>by
     rw [Array.append_assoc,kz (by simp;omega)]
     simp [hv,hj],he,hw⟩ }
theorem Ka (W:World) (hW:WOK W):YX (ahm Tryz.prog W) 110:=by
 refine ⟨fun xs i x hi hp hl=>?_,fun x=>?_⟩
 ·have:=ali (Γ:=ahm Tryz.prog W) at2 aqB (i:=i) (ls:=xs.map fun s=>Value.string ⟨s.toArray⟩) (u:=.string ⟨x.toArray⟩) (by simpa using hi) (by simpa using hp) (by simp;omega) (by simp only [kO];rintro v ⟨s,_,rfl⟩;rfl) rfl
  simpa [List.map_take,List.map_drop,Function.comp_def,V.str] using this
 ·exact alh (Γ:=ahm Tryz.prog W) at2 aqB rfl trivial
theorem j7 (W:World) (hW:WOK W):W8 (ahm Tryz.prog W) 112:=by
 refine ⟨fun xs i x hi hp hl=>?_,fun x=>?_⟩
 ·have:=ali (Γ:=ahm Tryz.prog W) aut aqA (i:=i) (ls:=xs.map fun s=>Value.int .i64 s) (u:=.int .i64 x) (by simpa using hi) (by simpa using hp) (by simp;omega) (by simp only [kO];rintro v ⟨s,_,rfl⟩;rfl) rfl
  simpa [List.map_take,List.map_drop,Function.comp_def,V.int] using this
 ·exact alh (Γ:=ahm Tryz.prog W) aut aqA rfl trivial
theorem atY:Av.Own Tryz.prog 41:=⟨Tryz.f41,Tryz.func41,by decide,_,rfl⟩
theorem atX:Av.Own Tryz.prog 42:=⟨Tryz.f42,Tryz.func42,by decide,_,rfl⟩
theorem atW:Av.Own Tryz.prog 73:=⟨Tryz.f73,Tryz.func73,by decide,_,rfl⟩
theorem j6 (W:World) (hW:WOK W):W7 (ahm Tryz.prog W) 42 :=
 ⟨73,⟨atW,ajn⟩,fun xs=>amm (Γ:=ahm Tryz.prog W) atX (fun a len cap w=>callsIn_wide.1 (ahN a len cap w)) xs⟩
theorem asx (m:Nat):AnyZI.SortsIn Tryz.prog Tryz.laysS_ren Fence.wide m :=
 ⟨fun blk off cap ss W hH hblk hsz=>callsIn_wide.2 (Any.slices_Sort_int Tryz.lays189 blk off cap ss W hH hblk hsz),fun p cap W=>callsIn_wide.2 (Any.slices_Sort_int_none Tryz.lays189 p cap W)⟩
theorem aaG (W:World) (hW:WOK W):K5 (ahm Tryz.prog W) 41:=fun g hg xs hx =>
 amn (Γ:=ahm Tryz.prog W) atY (fun h=>h) (fun zs hz Bs Bo sv w h1 h2 h3=>callsIn_wide.1 (aq2 Tryz.laysS 5 (by omega) (asx 4) (vw asK) g (vw hg.1) hg.2 zs hz Bs Bo sv w h1 h2 h3)) (by omega) (aeC xs)
theorem asM:Av.Own Tryz.prog 134:=⟨Tryz.f134,Tryz.func134,by decide,_,rfl⟩
theorem aaF (W:World) (hW:WOK W):K3 (ahm Tryz.prog W) 134:=by
 intro s c
 refine ⟨aqL (cv:=[.string ⟨s.toArray⟩,.int .u8 c.toNat]) (res:=.int .i64 (Lib.indexByte s c)) (fun _ _ _=>.sc rfl) ?_,trivial,trivial⟩
 intro w hk
 have:=Any.strings_IndexByte Tryz.lays137 ⟨s.toArray⟩ c.toNat w
 show KL Tryz.prog 134 _ w _
 refine (Xg asM _ _ _).2 (this.mono fun e w' ⟨he,hw⟩=>?_)
 subst he;subst hw
 refine ⟨?_,zm _,fun _ _=>rfl,.refl _⟩
 simp
end Go.Proofs.YtjolhibbihejgaaGreat
end
section
namespace Go.Proofs.YtjolhibbihejgaaGreat
open Go Av Go.RowKit
set_option maxRecDepth 100000
set_option linter.unusedVariables false
theorem zha {P:Program} {f nt:Nat} {c:AC} {rs:List Kk} {fn} (h1:P.funcs[f]? = some fn) (h:P.funcs[f]? = some fn→Has P f nt c rs:=by exact fun h=>⟨_,_,h,by decide,rfl,rfl,by kernel_rfl,by kernel_rfl⟩):Has P f nt c rs:=h h1
class WK (W:World):Prop where
 ok:WOK W
set_option linter.unusedSectionVars false
noncomputable abbrev jw (W:World):=ahm Tryz.prog W
variable {W:World} [wk:WK W]
theorem ajd:xK (jw W) 4:=ahe (zhd jH Tryz.func4)
theorem ao0:ac8 (jw W) 11:=amj (zhd abO Tryz.func11)
theorem Xm:JU (jw W) 66:=adN (zhd Uu Tryz.func66)
theorem afW:jf (jw W) 181:=ae2 (zhd Kx Tryz.func181)
theorem ads:qz (jw W) 135:=ahk (zhd jL Tryz.func135) afW
theorem ac7:UW (jw W) 137:=abI (zhd WX Tryz.func137)
theorem V8:J2 (jw W) 104:=jU (zhd J9 Tryz.func104)
theorem JQ:Q6 (jw W) 74:=K7 (zhd JP Tryz.func74) V8
theorem ab9:V0 (jw W) 99:=aaw (zhd X6 Tryz.func99) ads ac7 JQ V8
theorem Wi:Yl (jw W) 67:=adL (zhd Us Tryz.func67) ab9
theorem Kz:Xo (jw W) 97:=ae3 (zhd Ky Tryz.func97) ads
theorem acQ:UF (jw W) 190:=abo (zhd WC Tryz.func190) Wi Kz Xm
theorem afl:KV (jw W) 149:=adI (zhd Up Tryz.func149) Xm acQ
theorem wQ:VF (jw W) 123:=adK (zhd Ur Tryz.func123)
theorem WZ:Yf (jw W) 89:=abE (zhd WT Tryz.func89) wQ
theorem aaK:Xc (jw W) 192:=vN (zhd Xz Tryz.func192) WZ
theorem acZ:UO (jw W) 191:=abx (zhd WM Tryz.func191) aaK
theorem aaJ:Xb (jw W) 194:=vM (zhd Xy Tryz.func194) (yA W wk.ok)
theorem acY:UN (jw W) 193:=abw (zhd WL Tryz.func193) aaJ
theorem acX:UM (jw W) 195:=abv (zhd WJ Tryz.func195)
theorem acW:UL (jw W) 196:=abu (zhd WI Tryz.func196)
theorem acV:UK (jw W) 197:=abt (zhd WH Tryz.func197)
theorem acU:UJ (jw W) 198:=abs (zhd WG Tryz.func198)
theorem acT:UI (jw W) 199:=abr (zhd WF Tryz.func199)
theorem acS:UH (jw W) 200:=abq (zhd WE Tryz.func200)
theorem acR:UG (jw W) 201:=abp (zhd WD Tryz.func201)
theorem ab3:VU (jw W) 202:=aaq (zhd X0 Tryz.func202)
theorem ab2:VT (jw W) 203:=aap (zhd XZ Tryz.func203)
theorem ab1:VS (jw W) 204:=aao (zhd XY Tryz.func204)
theorem ab0:VR (jw W) 205:=aan (zhd XX Tryz.func205)
theorem afk:KU (jw W) 150:=adH (zhd Uo Tryz.func150) acZ acY acX acW acV acU acT acS acR ab3 ab2 ab1 ab0
theorem xU:W5 (jw W) 105:=acB (zhd Vy Tryz.func105) afl afk
theorem adV:Kh (jw W) 75:=acA (zhd Vx Tryz.func75) xU
theorem V9:J3 (jw W) 77:=jW (zhd Yb Tryz.func77)
theorem yC:YT (jw W) 106:=jX (zhd Yc Tryz.func106) V9
theorem qV:Y9 (jw W) 108:=vI (zhd Xu Tryz.func108)
theorem adr:qy (jw W) 151:=ahj (zhd jK Tryz.func151)
theorem abY:VP (jw W) 107:=aal (zhd XV Tryz.func107) qV WZ adr
theorem acO:UD (jw W) 76:=abm (zhd WA Tryz.func76) yC abY qV
theorem ab8:VZ (jw W) 206:=aav (zhd X5 Tryz.func206)
theorem ac4:UT (jw W) 152:=abD (zhd WS Tryz.func152) ab8
theorem wK:XO (jw W) 153:=xX (zhd YI Tryz.func153)
theorem Ve:Jy (jw W) 109:=Wr (zhd Q8 Tryz.func109) ac4 wK
theorem yD:YU (jw W) 78:=jY (zhd Jo Tryz.func78) Ve (Ka W wk.ok)
theorem afV:je (jw W) 144:=ae1 (zhd Kw Tryz.func144) wQ
theorem abU:VN (jw W) 156:=aaj (zhd XT Tryz.func156)
theorem Kb:JV (jw W) 111:=U0 (zhd Jw Tryz.func111) afV abU
theorem wN:XP (jw W) 79:=xY (zhd JJ Tryz.func79) Kb (j7 W wk.ok)
theorem qW:Xa (jw W) 44:=vJ (zhd Xv Tryz.func44) adV acO V9 yD wN
theorem qq:Yj (jw W) 80:=KP (zhd JK Tryz.func80)
theorem Xk:Jq (jw W) 45:=UZ (zhd Jv Tryz.func45) qq
theorem wa:XG (jw W) 46:=yY (zhd YB Tryz.func46)
theorem YK:QV (jw W) 81:=YD (zhd Qz Tryz.func81)
theorem Jr:Qt (jw W) 47:=Ys (zhd Qx Tryz.func47) YK
theorem W4:Yg (jw W) 63:=abH (zhd WW Tryz.func63)
theorem yF:X9 (jw W) 49:=abA (zhd WP Tryz.func49) Wi Xm W4
theorem x9:XF (jw W) 48:=yX (zhd YA Tryz.func48) yF
theorem vT:Wk (jw W) 27:=wq (zhd Y5 Tryz.func27) qW Xk wa Jr x9
theorem yB:YS (jw W) 159:=jV (zhd Ya Tryz.func159)
theorem jk:Yw (jw W) 160:=qL (zhd JY Tryz.func160)
theorem afn:KX (jw W) 113:=adO (zhd Uv Tryz.func113) yB (xB W wk.ok) jk
theorem amP:aaS (jw W) 114:=aj8 (zhd vF Tryz.func114)
theorem afo:KY (jw W) 116:=adP (zhd Uw Tryz.func116) (yA W wk.ok) WZ adr
theorem ahE:yi (jw W) 83:=afJ (zhd qp Tryz.func83) afn xU amP (Vc W wk.ok) afo
theorem ahC:yg (jw W) 100:=afH (zhd ql Tryz.func100)
theorem adX:Kj (jw W) 68:=acF (zhd VC Tryz.func68) ahC
theorem Wj:Ym (jw W) 36:=adM (zhd Ut Tryz.func36) adX
theorem akB:wY (jw W) 84:=aiE (zhd xr Tryz.func84) Wj
theorem ab5:VW (jw W) 119:=aas (zhd X2 Tryz.func119)
theorem qr:Yk (jw W) 118:=KQ (zhd JL Tryz.func118) ab5
theorem ao2:ada (jw W) 220:=aml (zhd abQ Tryz.func220)
theorem amO:aaR (jw W) 221:=aj7 (zhd vE Tryz.func221)
theorem ahD:yh (jw W) 244:=afI (zhd qn Tryz.func244)
theorem afx:Has Tryz.prog 236 26 (wC 244 236) bf:=zha Tryz.func236
theorem ajg:xN (jw W) 236:=ahh afx ahD
theorem aqs:afq (jw W) 219:=aoh (zhd aeb Tryz.func219) ajg
theorem ao1:ac9 (jw W) 239:=amk (zhd abP Tryz.func239)
theorem Wc:Jm (jw W) 245:=XM (zhd QR Tryz.func245)
theorem XD:Jd (jw W) 240:=Xp (zhd QI Tryz.func240) Wc
theorem adA:Has Tryz.prog 241 6 (Vo 233) bk:=zha Tryz.func241
theorem afT:jc (jw W) 241:=aeZ adA
theorem ajf:xM (jw W) 233:=ahg (zha Tryz.func233) ao1 XD afT (zha Tryz.func241)
theorem agX:Has Tryz.prog 234 20 (aaD 234) bg:=zha Tryz.func234
theorem akC:wZ (jw W) 234:=aiG agX
theorem adB:Has Tryz.prog 242 23 (Vp 235) bh:=zha Tryz.func242
theorem afU:jd (jw W) 242:=ae0 adB
theorem aje:xL (jw W) 243:=ahf (zhd jI Tryz.func243)
theorem ahB:yf (jw W) 235:=afG (zha Tryz.func235) afU aje (zha Tryz.func242)
theorem ajh:xO (jw W) 218:=ahi (zhd jJ Tryz.func218) ajf akC ahB
theorem ac2:UR (jw W) 163:=abB (zhd WQ Tryz.func163) yF ao2 amO aqs ajh
theorem ac6:UV (jw W) 164:=abG (zhd WV Tryz.func164)
theorem ac1:UQ (jw W) 120:=abz (zhd WO Tryz.func120) ac2 ac6 JQ
theorem Uc:JI (jw W) 165:=VJ (zhd Jk Tryz.func165)
theorem Vd:Jx (jw W) 121:=Wq (zhd Q7 Tryz.func121) Uc
theorem jm:Yy (jw W) 117:=qN (zhd J0 Tryz.func117) qr ac1 Vd
theorem yE:YV (jw W) 86:=jZ (zhd Yd Tryz.func86) jm Jr
theorem vV:Wm (jw W) 85:=wt (zhd Y7 Tryz.func85) yE
theorem Vr:JA (jw W) 38:=W9 (zhd Jb Tryz.func38)
theorem J7:QS (jw W) 23:=Wa (zhd QY Tryz.func23) Vr
theorem vU:Wl (jw W) 88:=ws (zhd Y6 Tryz.func88) WZ
theorem abZ:VQ (jw W) 51:=aam (zhd XW Tryz.func51) qW ahE akB vV J7 (Xj W wk.ok) vU
theorem Y0:Q4 (jw W) 82:=YQ (zhd QF Tryz.func82)
theorem YE:QO (jw W) 50:=YC (zhd Qy Tryz.func50) Y0
theorem wO:XQ (jw W) 52:=xZ (zhd YJ Tryz.func52)
theorem aaH:Vf (jw W) 28:=vK (zhd Xw Tryz.func28) abZ YE wO
theorem afj:jN (jw W) 12:=aiF (zhd xu Tryz.func12) vT aaH
theorem ahA:yd (jw W) 5:=afF (zhd qk Tryz.func5) ao0 afj
theorem akz:wW (jw W) 6:=aiC (zhd xp Tryz.func6)
theorem amN:aaQ (jw W) 29:=aj6 (zhd vD Tryz.func29)
theorem Xl:JR (jw W) 13:=abl (zhd Wz Tryz.func13) amN
theorem wL:VD (jw W) 14:=adF (zhd Um Tryz.func14) Xl
theorem adS:Ke (jw W) 15:=acx (zhd Vu Tryz.func15) Xl
theorem amL:aaO (jw W) 17:=aj4 (zhd vB Tryz.func17)
theorem ai8:xF (jw W) 53:=ag7 (zhd jA Tryz.func53)
theorem ai7:xE (jw W) 90:=ag6 (zhd jz Tryz.func90)
theorem afh:KT (jw W) 174:=adE (zhd Uk Tryz.func174)
theorem ahy:j9 (jw W) 175:=afC (zhd qh Tryz.func175)
theorem afN:qX (jw W) 176:=aeT (zhd Ks Tryz.func176)
theorem adQ:Kc (jw W) 124:=acv (zhd Vs Tryz.func124) afh ahy afN
theorem abW:KB (jw W) 92:=afD (zhd qj Tryz.func92) adQ
theorem ai9:xG (jw W) 125:=ag8 (zhd jB Tryz.func125)
theorem adp:qt (jw W) 93:=ag9 (zhd jC Tryz.func93) ai9
theorem acL:UA (jw W) 91:=abi (zhd Ww Tryz.func91) abW adp
theorem abV:KA (jw W) 54:=afA (zhd qf Tryz.func54) ai7 acL abW adp
theorem aja:xH (jw W) 129:=aha (zhd jD Tryz.func129)
theorem afi:jM (jw W) 131:=aiA (zhd xl Tryz.func131)
theorem adz:Has Tryz.prog 179 30 (j5 179) ba:=zha Tryz.func179
theorem afQ:q9 (jw W) 179:=aeW adz
theorem adq:qu (jw W) 130:=ahb (zhd jE Tryz.func130) afQ
theorem aku:wR (jw W) 132:=aiw (zhd xf Tryz.func132) afi adq
theorem ajb:xI (jw W) 133:=ahc (zhd jF Tryz.func133)
theorem ai5:xC (jw W) 95:=ag4 (zhd jx Tryz.func95) aja afi aku ajb adq
theorem akw:wT (jw W) 177:=aiy (zhd xj Tryz.func177)
theorem ady:Has Tryz.prog 126 53 (j0 177 126) Z8:=zha Tryz.func126
theorem afP:qZ (jw W) 126:=aeV ady akw
theorem aeL:Has Tryz.prog 127 22 (xk 127) Z7:=zha Tryz.func127
theorem ahz:yc (jw W) 127:=afE aeL
theorem afO:qY (jw W) 178:=aeU (zhd Kt Tryz.func178)
theorem agW:Has Tryz.prog 128 34 (aaC 128 178) Z9:=zha Tryz.func128
theorem akx:wU (jw W) 128:=aiz agW afO
theorem afR:ja (jw W) 94:=aeX (zhd Ku Tryz.func94) afP ahz akx
theorem ahx:j8 (jw W) 55:=afB (zhd qg Tryz.func55) abV ai5 afR
theorem akv:wS (jw W) 56:=aix (zhd xh Tryz.func56)
theorem ai6:xD (jw W) 30:=ag5 (zhd jy Tryz.func30) ai8 abV ahx akv
theorem aky:wV (jw W) 16:=aiB (zhd xn Tryz.func16) ai6
theorem acN:UC (jw W) 19:=abk (zhd Wy Tryz.func19) Xl
theorem akA:wX (jw W) 18:=aiD (zhd xq Tryz.func18) Xl wL
theorem ajc:xJ (jw W) 7:=ahd (zhd jG Tryz.func7) Xl wL adS amL aky acN akA
theorem acK:Uz (jw W) 96:=abh (zhd Wv Tryz.func96) (aaF W wk.ok)
theorem afg:KS (jw W) 57:=adD (zhd Uj Tryz.func57) acK
theorem ac3:US (jw W) 58:=abC (zhd WR Tryz.func58) Wj JQ
theorem ab6:VX (jw W) 59:=aat (zhd X3 Tryz.func59)
theorem aaM:Vi (jw W) 182:=vP (zhd XB Tryz.func182) Xm
theorem adW:Ki (jw W) 183:=acE (zhd VB Tryz.func183) Wi Kz
theorem ac5:UU (jw W) 184:=abF (zhd WU Tryz.func184)
theorem aaL:Vh (jw W) 136:=vO (zhd XA Tryz.func136) Xm aaM adW W4 ac5
theorem aaN:Vj (jw W) 98:=vQ (zhd XC Tryz.func98) aaL
theorem adU:Kg (jw W) 60:=acz (zhd Vw Tryz.func60) Wi Kz W4 aaN
theorem vW:YM (jw W) 62:=wu (zhd Y8 Tryz.func62)
theorem ab7:VY (jw W) 61:=aau (zhd X4 Tryz.func61) vW
theorem afm:KW (jw W) 64:=adJ (zhd Uq Tryz.func64) Kz
theorem KR:Xn (jw W) 31:=acD (zhd VA Tryz.func31) afg ac3 ab6 adU ab7 W4 Xk afm
theorem WY:Js (jw W) 65:=We (zhd Q5 Tryz.func65)
theorem XN:Ji (jw W) 32:=XJ (zhd QM Tryz.func32) WY
theorem adT:Kf (jw W) 34:=acy (zhd Vv Tryz.func34) Xm Wi
theorem ab4:VV (jw W) 33:=aar (zhd X1 Tryz.func33) adT
theorem ac0:UP (jw W) 35:=aby (zhd WN Tryz.func35)
theorem xV:W6 (jw W) 20:=acC (zhd Vz Tryz.func20) KR XN ab4 ac0
theorem x8:XE (jw W) 70:=yW (zhd Yz Tryz.func70)
theorem YZ:Q3 (jw W) 69:=YP (zhd QE Tryz.func69)
theorem K1:YL (jw W) 37:=wm (zhd Y3 Tryz.func37) Wj x8 YZ
theorem adR:Kd (jw W) 22:=acw (zhd Vt Tryz.func22) KR Wj K1
theorem aaI:Vg (jw W) 24:=vL (zhd Xx Tryz.func24)
theorem acP:UE (jw W) 21:=abn (zhd WB Tryz.func21) adR aaI J7
theorem acM:UB (jw W) 40:=abj (zhd Wx Tryz.func40) KR
theorem jl:Yx (jw W) 43:=qM (zhd JZ Tryz.func43) Wj JQ K1
theorem abX:VO (jw W) 26:=aak (zhd XU Tryz.func26) acM (j6 W wk.ok) (aaG W wk.ok) jl
theorem Xr:Ja (jw W) 39:=Xf (zhd QG Tryz.func39)
theorem YR:QZ (jw W) 25:=YH (zhd QA Tryz.func25) Xr
theorem wP:VE (jw W) 8:=adG (zhd Un Tryz.func8) xV acP abX YR
theorem amM:aaP (jw W) 9:=aj5 (zhd vC Tryz.func9)
theorem afS:jb (jw W) 10:=aeY (zhd Kv Tryz.func10) xV afj wP
theorem vS:KM (jw W) 3:=wo (zhd Y4 Tryz.func3) ajd ahA akz ajc wP amM afS
end Go.Proofs.YtjolhibbihejgaaGreat
end
