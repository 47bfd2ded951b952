/- The library's contracts at this seat. -/
import Derived.Test.YtlpaikjhphkioaaGreatW33
import Derived.Test.YtlpaikjhphkioaaGreatW13
import Derived.Test.YtlpaikjhphkioaaGreatW34
import Derived.Test.YtlpaikjhphkioaaGreatW36
import Derived.Test.YtlpaikjhphkioaaGreatW37
import Derived.Test.YtlpaikjhphkioaaGreatW38
import Derived.Laws.AppendOwn
import Derived.Sort.Walk0
import Derived.Shelf.Slices.In.SortNone
import Derived.KernelRfl
set_option linter.unusedVariables false
set_option linter.unusedSimpArgs false
section
namespace Go.Proofs.YtlpaikjhphkioaaGreat
open Go Av Go.RowKit
set_option maxRecDepth 100000
set_option linter.unusedVariables false
structure WOK (W:World):Prop where
 ok:True
theorem ajD {P:Program} {g:Nat} (h:Av.Own P g):∀ args w,(callFunc g args).run P w = .ok (.enter g args) w:=fun args w=>by
 obtain ⟨fn,h1,h2,c,h3⟩:=h
 simp [callFunc,h1,h2,h3]
theorem apI:Av.Own Tryz.prog 119:=⟨Tryz.f119,Tryz.func119,by decide,_,rfl⟩
theorem anN:Av.Own Tryz.prog 109:=⟨Tryz.f109,Tryz.func109,by decide,_,rfl⟩
theorem anM:Av.Own Tryz.prog 111:=⟨Tryz.f111,Tryz.func111,by decide,_,rfl⟩
theorem aqP:Av.Own Tryz.prog 65:=⟨Tryz.f65,Tryz.func65,by decide,_,rfl⟩
theorem aqO:Av.Own Tryz.prog 68:=⟨Tryz.f68,Tryz.func68,by decide,_,rfl⟩
theorem aqM:Av.Own Tryz.prog 97:=⟨Tryz.f97,Tryz.func97,by decide,_,rfl⟩
theorem arD:Tryz.prog.follows .mixedOrders = true:=by kernel_rfl
theorem alI:∀ a b:List UInt8,Lib.compareBytes a b = qP a b
 | [],[]=>by simp [Lib.compareBytes,qP,Op.bytesLess]
 | [],_ :: _=>by simp [Lib.compareBytes,qP,Op.bytesLess]
 | _ :: _,[]=>by simp [Lib.compareBytes,qP,Op.bytesLess]
 | a :: x,b :: y=>by
   have ih:=alI x y
   rw [qP] at ih ⊢
   rw [Lib.compareBytes,ih]
   simp only [Op.bytesLess]
   by_cases h1:a < b
   ·simp [h1]
   ·by_cases h2:b < a
    ·have h3:a≠b:=fun e=>by subst e;exact h1 h2
     simp [h1,h2,h3]
    ·have h3:a = b:=UInt8.le_antisymm (UInt8.not_lt.1 h2) (UInt8.not_lt.1 h1)
     subst h3
     simp [h1]
theorem qM (W:World) (hW:WOK W):Vd (agR Tryz.prog W) 119:=by
 intro G hG a b
 refine ⟨ap2 (cv:=[.string ⟨a.toArray⟩,.string ⟨b.toArray⟩]) (res:=.int .i64 (qP a b)) (fun _ _ _=>.sc rfl) ?_,trivial,trivial⟩
 intro w hk
 rw [hG]
 refine (YP apI _ _ _).2 ((Any.strings_Compare Tryz.lays106 ⟨a.toArray⟩ ⟨b.toArray⟩ w).mono fun e w' ⟨he,hw⟩=>?_)
 subst he;subst hw
 exact ⟨by simp [alI],zh _,fun _ _=>rfl,YI.refl _⟩
theorem apJ:Av.Own Tryz.prog 112:=⟨Tryz.f112,Tryz.func112,by decide,_,rfl⟩
theorem aqN:Av.Own Tryz.prog 91:=⟨Tryz.f91,Tryz.func91,by decide,_,rfl⟩
theorem ahi (xs:List Int):(xs.mergeSort fun x y=>decide (x≤y)) = jF (fun x y:Int=>decide (x < y)) xs:=by
 have h1:=xW (lt:=fun x y:Int=>decide (x < y)) (fun x y z h h'=>by simp at *;omega) (fun x y h=>by simp at *;omega) xs
 refine ZA (le:=fun x y:Int=>x≤y) (fun a b _ _ h1 h2=>by omega) ?_ (h1.imp fun {a b} h=>by simpa using h) ((List.mergeSort_perm _ _).trans Wz.symm)
 have:=List.pairwise_mergeSort (le:=fun x y:Int=>decide (x≤y)) (fun a b c h1 h2=>by simp at *;omega) (fun a b=>by simp;omega) xs
 exact this.imp fun {a b} h=>by simpa using h
theorem je (W:World) (hW:WOK W):WD (agR Tryz.prog W) 112:=fun xs hx =>
 alz (Γ:=agR Tryz.prog W) apJ (fun blk off cap zs w hH hb hs=>Any.slices_Sort_int Tryz.lays189 blk off cap zs w hH hb hs) (fun a cap w=>Any.slices_Sort_int_none Tryz.lays189 a cap w) hx (ahi xs)
instance:Inhabited Qe:=⟨⟨0,[],0,0,0,0,[],0⟩⟩
def aqw (x:Qe):List Value:=[.int .i64 x.ent,.string ⟨x.subj.toArray⟩,.int .i64 x.kind,.int .i64 x.alg,.int .i64 x.bits,.int .i64 x.num,.string ⟨x.text.toArray⟩,.int .i64 x.find]
theorem anG {α:Type} {c:α→α→Int} (h:Cm c):Go.Sort.SWO (ltOf c):=by
 refine ⟨fun x=>?_,fun x y z h1 h2=>?_,fun x y z h1 h2=>?_⟩
 ·have:=h.neg x x
  simp only [ltOf,zA];omega
 ·simp only [ltOf,zy] at *
  have a1:=h.tr x y z (by omega) (by omega)
  by_cases h3:c x z = 0
  ·have:=h.ze x y z (by omega) (by omega) h3;omega
  ·omega
 ·simp only [ltOf,zA,bd] at *
  have a1:=h.neg x y
  have a2:=h.neg y z
  have a3:=h.neg x z
  have:=h.tr z y x (by omega) (by omega)
  omega
theorem ai2 {α:Type} [Inhabited α] {c:α→α→Int} (h:Cm c) {xs:List α} (hd:∀ a∈xs,∀ b∈xs,c a b = 0→a = b) {d':Array α} (hp:Go.Sort.PermIn 0 xs.length xs.toArray d') (hs:Go.Sort.SortedIn (ltOf c) 0 xs.length d') :
  d'.toList = jF (fun x y=>decide (c x y < 0)) xs:=by
 obtain ⟨hsz,_,hperm⟩:=hp
 have hsz:d'.size = xs.length:=by simpa using hsz
 rw [← hsz,Array.extract_size,show xs.toArray.extract 0 d'.size = xs.toArray by rw [hsz];exact (by simp)] at hperm
 have hO:=anG h
 have h1:=xW (lt:=fun x y=>decide (c x y < 0)) (fun x y z h h'=>hO.ntrans z y x h' h) (fun x y h'=>by
  simp only [zy,zA] at *;have:=h.neg x y;omega) xs
 refine ZA (le:=fun x y=>decide (c y x < 0) = false) (fun a b ha hb h1 h2=>?_) ?_ h1 (hperm.trans Wz.symm)
 ·simp only [zA,bd] at h1 h2
  have a1:=h.neg a b
  exact hd a (hperm.mem_iff.1 ha) b (Wz.mem_iff.1 hb) (by omega)
 ·rw [kj]
  intro i j hi hj hij
  have hi':i < d'.size:=by simpa using hi
  have hj':j < d'.size:=by simpa using hj
  have:=hs i j (zG _) hij (by omega)
  rw [getElem!_pos d' j hj',getElem!_pos d' i hi'] at this
  simpa [ltOf] using this
theorem XR (W:World) (hW:WOK W):JX (agR Tryz.prog W) 91:=fun xs g c hg hcmp hc hd hx =>
 aly (Γ:=agR Tryz.prog W) (enc:=aqw) (k:=8) (cf:=c) aqN hg (fun x v hv=>by simp only [aqw,zC,zI,or_false] at hv;rcases hv with rfl|rfl|rfl|rfl|rfl|rfl|rfl|rfl<;>rfl) (fun _=>rfl) (by decide) hcmp
  (fun blk off cap d w hC hH hb hs=>AnyQ.slices_SortFunc Tryz.laysF 8 Tryz.isAgg26 Tryz.sizeOf26 aqw (fun _=>rfl) (fun x v hv=>by simp only [aqw,zC,zI,or_false] at hv;rcases hv with rfl|rfl|rfl|rfl|rfl|rfl|rfl|rfl<;>rfl) c (anG hc) g #[] blk off cap d w (ajD hg) hC hH hb hs)
  (fun a cap w=>(AnyF.slices_SortFunc_none Tryz.laysF a cap _ w).mono fun e w' ⟨h1,h2⟩=>⟨h1,0,#[],by rw [h2];simp [Go.Sort.grow,Go.Sort.ahead]⟩)
  hx (fun d' hp hs=>ai2 hc hd hp hs) (ab7 _ _)
theorem agx {w:World} {n c:Nat} {t:TypeId} (h:n < 2 ^ 63):n≤grownCap w n c t∧grownCap w n c t < 2 ^ 63:=by
 refine ⟨grownCap_ge _ _ _ _,?_⟩
 have:=grownCap_le_maxLen w n c t (by unfold maxLen;omega)
 unfold maxLen at this
 omega
theorem aaw {u:Value} {w:World} {vb voff:Nat} (h:w.cell? ⟨vb,voff,none⟩ = some u):∀ (j:Nat) (v:Value),[u][j]? = some v→w.cell? ⟨vb,voff + j,none⟩ = some v:=fun j v hj=>by
 obtain ⟨h1,rfl⟩:=zn.1 hj
 have:j = 0:=by simpa using h1
 subst this
 simpa using h
theorem aqT:aqB Tryz.prog 109 9 (.string ⟨#[]⟩):={
 shift:=fun b off n c i vb voff vc cs u w tA tB kA kB h1 h2 h3 h4 h5 h6 h7 h8 h9 h10 h11 h12 h13 h14 h15 h16 =>
  Any2.slices_Insert_string_shift Tryz.lays2I22 b off n c i vb voff 1 vc cs [u] w h1 Nat.one_pos h2 h3 h4 h5 rfl h6 h7 h8 (aaw h9) h10 (by simpa using h11) tA tB kA kB h12 h13 h14 h15 h16
 endRoom:=fun b off n c vb voff vc u w h1 h2 h3 h4 h5 h6 =>
  Any2.slices_Insert_string_end_room Tryz.lays2I22 b off n c vb voff 1 vc [u] w Nat.one_pos h1 h2 rfl (fun j hj=>by have hj0:j = 0:=(by omega);subst hj0;exact h3) (fun j hj=>by have hj0:j = 0:=(by omega);subst hj0;exact h4) (aaw h5) (by simpa using h6)
 endGrow:=fun base n c vb voff vc cs u w h1 h2 h3 h4 h5 h6 h7 h8 =>
  (Any2.slices_Insert_string_end_grow Tryz.lays2I22 base n c vb voff 1 vc cs [u] w Nat.one_pos h1 h2 (by omega) h4 rfl h5 h6 (aaw h7) (by simpa using h8)).mono fun e w' ⟨he,hw⟩=>⟨_,agx (by omega),he,hw⟩
 grow:=fun b off n c i vb voff vc cs u w h1 h2 h3 h4 h5 h6 h7 h8 h9 =>
  (Any2.slices_Insert_string_grow Tryz.lays2I22 b off n c i vb voff 1 vc cs [u] w h1 Nat.one_pos h2 h3 (by omega) h5 rfl h6 (aaw h7) h8 (by simpa using h9)).mono fun e w' ⟨he,hw⟩=>⟨_,_,agx (by omega),by
    have:=grownCap_ge w (n + 1) c (Tryz.lays2I22_ren.t 9)
    rw [kN,kN,Jq,Jq];simp [Value.cells];omega,fun j v hj hv=>by
     rw [Array.append_assoc,kO (by simp;omega)]
     simp [hv,hj],he,hw⟩ }
theorem aro:aqB Tryz.prog 111 3 (.int .i64 0):={
 shift:=fun b off n c i vb voff vc cs u w tA tB kA kB h1 h2 h3 h4 h5 h6 h7 h8 h9 h10 h11 h12 h13 h14 h15 h16 =>
  Any2.slices_Insert_int_shift Tryz.lays2I21 b off n c i vb voff 1 vc cs [u] w h1 Nat.one_pos h2 h3 h4 h5 rfl h6 h7 h8 (aaw h9) h10 (by simpa using h11) tA tB kA kB h12 h13 h14 h15 h16
 endRoom:=fun b off n c vb voff vc u w h1 h2 h3 h4 h5 h6 =>
  Any2.slices_Insert_int_end_room Tryz.lays2I21 b off n c vb voff 1 vc [u] w Nat.one_pos h1 h2 rfl (fun j hj=>by have hj0:j = 0:=(by omega);subst hj0;exact h3) (fun j hj=>by have hj0:j = 0:=(by omega);subst hj0;exact h4) (aaw h5) (by simpa using h6)
 endGrow:=fun base n c vb voff vc cs u w h1 h2 h3 h4 h5 h6 h7 h8 =>
  (Any2.slices_Insert_int_end_grow Tryz.lays2I21 base n c vb voff 1 vc cs [u] w Nat.one_pos h1 h2 (by omega) h4 rfl h5 h6 (aaw h7) (by simpa using h8)).mono fun e w' ⟨he,hw⟩=>⟨_,agx (by omega),he,hw⟩
 grow:=fun b off n c i vb voff vc cs u w h1 h2 h3 h4 h5 h6 h7 h8 h9 =>
  (Any2.slices_Insert_int_grow Tryz.lays2I21 b off n c i vb voff 1 vc cs [u] w h1 Nat.one_pos h2 h3 (by omega) h5 rfl h6 (aaw h7) h8 (by simpa using h9)).mono fun e w' ⟨he,hw⟩=>⟨_,_,agx (by omega),by
    have:=grownCap_ge w (n + 1) c (Tryz.lays2I21_ren.t 3)
    rw [kN,kN,Jq,Jq];simp [Value.cells];omega,fun j v hj hv=>by
     rw [Array.append_assoc,kO (by simp;omega)]
     simp [hv,hj],he,hw⟩ }
theorem VL (W:World) (hW:WOK W):Ym (agR Tryz.prog W) 109:=by
 refine ⟨fun xs i x hi hp hl=>?_,fun x=>?_⟩
 ·have:=aiF (Γ:=agR Tryz.prog W) aqT anN (i:=i) (ls:=xs.map fun s=>Value.string ⟨s.toArray⟩) (u:=.string ⟨x.toArray⟩) (by simpa using hi) (by simpa using hp) (by simp;omega) (by simp only [zD];rintro v ⟨s,_,rfl⟩;rfl) rfl
  simpa [kp,ku,Function.comp_def,V.str] using this
 ·exact aiE (Γ:=agR Tryz.prog W) aqT anN rfl trivial
theorem qi (W:World) (hW:WOK W):XQ (agR Tryz.prog W) 111:=by
 refine ⟨fun xs i x hi hp hl=>?_,fun x=>?_⟩
 ·have:=aiF (Γ:=agR Tryz.prog W) aro anM (i:=i) (ls:=xs.map fun s=>Value.int .i64 s) (u:=.int .i64 x) (by simpa using hi) (by simpa using hp) (by simp;omega) (by simp only [zD];rintro v ⟨s,_,rfl⟩;rfl) rfl
  simpa [kp,ku,Function.comp_def,V.int] using this
 ·exact aiE (Γ:=agR Tryz.prog W) aro anM rfl trivial
theorem amY:((Tryz.prog.info? 26).any fun i=>i.zero.isSome && (i.size == 8 && (decide (i.bytes≤100) && (i.zero.map (·.cells.size) == some 8)))) = true:=by kernel_rfl
theorem aqZ:aqs Tryz.prog 65 26 8:={
 room:=fun w=>Any8.slices_Grow_room Tryz.lays8G65 none 0 0 0 w (zh _) (by omega) (by omega) (by omega)
 grow:=fun n w h1 h2=>by
  have h:=amY
  cases hi:Tryz.prog.info? 26 with
  | none=>rw [hi] at h;cases h
  | some i0 =>
    rw [hi] at h
    simp only [Option.any_some,zw,zy,kF] at h
    obtain ⟨q1,q2,q3,q4⟩:=h
    cases hz:i0.zero with
    | none=>rw [hz] at q1;cases q1
    | some z =>
      rw [hz] at q4
      have q5:z.cells.size = 8:=by simpa using q4
      have hb:(0 + n) * i0.bytes≤140737488355328:=by
       have:(0 + n) * i0.bytes≤(0 + n) * 100:=Nat.mul_le_mul_left _ q3
       omega
      refine (Any8.slices_Grow_grow Tryz.lays8G65 i0 z hi hz (by omega) none 0 0 n [] w (zh _) (by omega) hb (by omega) (by simp) (fun _=>rfl) (fun a h=>by cases h)).mono fun e w' ⟨he,hw⟩=>⟨_,_,(agx (by omega)).2,?_,he,hw⟩
      have:=grownCap_ge w (0 + n) 0 (Tryz.lays8G65_ren.t 25)
      rw [kN,kN,Jq,Jq,q5]
      simp
      omega }
theorem W8 (W:World) (hW:WOK W):Yc (agR Tryz.prog W) 65:=fun n hn=>am1 (Γ:=agR Tryz.prog W) aqZ aqP hn
theorem alx {Γ:Env} {f:FuncId} {args:List V} {k:Value}
  (h:∀ (C:Ctx) (cargs:Array Value),C.env = Γ→cargs.size = args.length→(∀ i (h:i < args.length) (h':i < cargs.size),Rep C.w0 C.Z0 C.μ0 cargs[i] args[i])→VB Γ.P f cargs C.w0 fun e w'=>e = .returned k∧Below C.w0.heap.size C.w0 w') (hk:k.oneCell' = true) (hd:¬ Γ.dr):Ev Γ f args [] (.sc k) []:=by
 intro C cargs hP hm hmu hg hF hsz hrep
 have:=h C cargs hP hsz hrep
 refine this.mono fun e w' ⟨he,hb⟩=>?_
 subst he
 exact ⟨_,C.Z0,C.μ0,rfl,.sc hk,⟨fun a x h=>by simp at h,fun a b x y c d _ h=>by simp at h,fun b i h=>k9 (hg.zlt b i h) hb.size,hb.size,fun b h _=>hb.block b h,fun b i h=>.inl h,fun b i h=>h,fun b i h=>by simp [World.cell?,hb.block b (hg.zlt b i h)],fun k _=>rfl,⟨hb.os,hb.tape,hb.output,fun h=>(hd (by rw [← hP];exact h)).elim⟩⟩,fun k hk=>hmu k (by simp)⟩
def al2 (r:Qj):PR:=⟨r.allow,r.alg,r.below,r.purp,r.frm,r.til⟩
def apP (r:PR):Qj:=⟨r.allow,r.alg,r.below,r.purp,r.frm,r.til⟩
theorem aqY:Has Tryz.prog 97 43 JQ.1.1.ac JQ.1.2:=zhd JQ Tryz.func97
theorem ao8 (r:PR) (a b pu:Int) (w:World):Calls Tryz.prog 97 #[aoo r,.agg #[.int .i64 a,.int .i64 b],.int .i64 pu] w fun e W'=>e = .returned (.bool (ags (apP r) a b pu))∧Below w.heap.size w W':=by
 have E:=xb (Γ:=agR Tryz.prog w) aqY (apP r) a b pu
 refine acH arD aqM E rfl fun i h h'=>?_
 match i,h with
 | 0,_ =>
   refine .agg rfl (fun j hj=>?_) fun j hj hj'=>?_
   ·match j,hj with
    | 0,_|1,_|2,_|3,_|4,_|5,_=>rfl
   ·match j,hj with
    | 0,_|1,_|2,_|3,_|4,_|5,_=>exact .sc rfl
 | 1,_ =>
   refine .agg rfl (fun j hj=>?_) fun j hj hj'=>?_
   ·match j,hj with
    | 0,_|1,_=>rfl
   ·match j,hj with
    | 0,_|1,_=>exact .sc rfl
 | 2,_=>exact .sc rfl
theorem ail (rs:List Qj) (a b pu day:Int):∀ k,k≤rs.length→abY (aj0 (fun r=>ags (apP r) a b pu) (rs.map al2) day) k = alE (anB a b pu day) rs k
 | 0,_=>rfl
 | k + 1,hk=>by
   have ih:=ail rs a b pu day k (by omega)
   have hg:rs[k]? = some rs[k]:=zd (by omega)
   have hp:(rs.map al2).getD k default = al2 rs[k]:=by simp [List.getD,hg]
   rw [abY,alE,hg,ih]
   have:aj0 (fun r=>ags (apP r) a b pu) (rs.map al2) day k = anB a b pu day rs[k]:=by
    rw [aj0,hp];rfl
   rw [this]
theorem qL (W:World) (hW:WOK W):Va (agR Tryz.prog W) 68:=by
 intro rs ks a b pu day hr
 refine ⟨alx (fun C cargs hP hsz hrep=>?_) rfl (fun h=>h),trivial,trivial⟩
 have hsz:cargs.size = 4:=hsz
 obtain ⟨x0,x1,x2,x3,rfl⟩:∃ x0 x1 x2 x3,cargs = #[x0,x1,x2,x3]:=⟨cargs[0],cargs[1],cargs[2],cargs[3],by
  apply ZZ
  ·simpa using hsz
  ·intro k a1 a2
   match k,a2 with
   | 0,_|1,_|2,_|3,_=>rfl⟩
 have r0:Rep C.w0 C.Z0 C.μ0 x0 (ajb rs ks):=hrep 0 (by simp) (by simp)
 have r1:Rep C.w0 C.Z0 C.μ0 x1 (.agg [V.int a,V.int b]):=hrep 1 (by simp) (by simp)
 have r2:Rep C.w0 C.Z0 C.μ0 x2 (V.int pu):=hrep 2 (by simp) (by simp)
 have r3:Rep C.w0 C.Z0 C.μ0 x3 (V.int day):=hrep 3 (by simp) (by simp)
 have e2:=r2.scE.1
 have e3:=r3.scE.1
 obtain ⟨cs,e0,l0,_,h0⟩:=r0.aggE
 obtain ⟨cs1,e1,l1,_,h1⟩:=r1.aggE
 obtain ⟨y0,y1,rfl⟩:∃ y0 y1,cs = #[y0,y1]:=⟨cs[0]'(by rw [l0];simp),cs[1]'(by rw [l0];simp),by
  apply ZZ
  ·simpa using l0
  ·intro k a1 a2
   match k,a2 with
   | 0,_|1,_=>rfl⟩
 obtain ⟨z0,z1,rfl⟩:∃ z0 z1,cs1 = #[z0,z1]:=⟨cs1[0]'(by rw [l1];simp),cs1[1]'(by rw [l1];simp),by
  apply ZZ
  ·simpa using l1
  ·intro k a1 a2
   match k,a2 with
   | 0,_|1,_=>rfl⟩
 have q0:Rep C.w0 C.Z0 C.μ0 y0 (.sl 6 (rs.map Qj.v)):=h0 0 (by simp) (by simp)
 have p0:Rep C.w0 C.Z0 C.μ0 z0 (V.int a):=h1 0 (by simp) (by simp)
 have p1:Rep C.w0 C.Z0 C.μ0 z1 (V.int b):=h1 1 (by simp) (by simp)
 have e4:=p0.scE.1
 have e5:=p1.scE.1
 obtain ⟨ad,cap,e6,_,hx⟩:=q0.slE
 subst e0;subst e1;subst e2;subst e3;subst e4;subst e5;subst e6
 show VB Tryz.prog 68 _ C.w0 _
 refine (YP aqO _ _ _).2 ?_
 have D:=Dec.decides_in (fun r=>ags (apP r) a b pu) Fence.wide 5 trivial trivial trivial rfl (zh _) (rs.map al2) ad cap y1 a b pu day C.w0 (fun r w=>callsIn_wide.2 (ao8 r a b pu w)) trivial (by simp;omega) (by
  by_cases hn:rs = []
  ·exact .inl (by simp [hn])
  ·obtain ⟨bb,oo,rfl,hrow,_⟩:=hx (by simpa using hn)
   have hcell:∀ j,j < (rs.map al2).length→∀ c,c < 6→C.w0.cell? ⟨bb,oo + (j * 6 + c),none⟩ = some (aeY ((rs.map al2).getD j default) c):=by
    intro j hj c hc
    have hj':j < rs.length:=by simpa using hj
    have hjv:j < (rs.map Qj.v).length:=by simpa using hj
    have ev:(rs.map Qj.v)[j] = Qj.v rs[j]:=by simp
    have hg:rs[j]? = some rs[j]:=zd hj'
    have hp:(rs.map al2).getD j default = al2 rs[j]:=by simp [List.getD,hg]
    obtain ⟨v,c1,c2,c3⟩:=(hrow j hjv).2 c (by rw [ev];exact hc)
    rw [hp]
    refine c1.trans (congrArg some ?_)
    match c,hc with
    | 0,_|1,_|2,_|3,_|4,_|5,_ =>
      simp only [ev] at c3
      exact c3.scE.1
   have hpos:0 < (rs.map al2).length:=by simpa [kX] using hn
   refine .inr ⟨bb,oo,rfl,?_,hcell⟩
   have:=hcell 0 hpos 0 (by omega)
   rcases kI bb C.w0.heap.size with h|h
   ·exact h
   ·simp [World.cell?,Zo h] at this)
 rw [zb] at D
 have D':=callsIn_wide.1 D
 rw [ail rs a b pu day _ (zh _)] at D'
 simpa [zb,aiK] using D'
end Go.Proofs.YtlpaikjhphkioaaGreat
end
section
namespace Go.Proofs.YtlpaikjhphkioaaGreat
open Go Av Go.RowKit
set_option maxRecDepth 100000
set_option linter.unusedVariables false
theorem zha {P:Program} {f nt:Nat} {c:AC} {rs:List Uf} {fn} (h1:P.funcs[f]? = some fn) (h:P.funcs[f]? = some fn→Has P f nt c rs:=by exact fun h=>⟨_,_,h,by decide,rfl,rfl,by kernel_rfl,by kernel_rfl⟩):Has P f nt c rs:=h h1
class WK (W:World):Prop where
 ok:WOK W
set_option linter.unusedSectionVars false
noncomputable abbrev jw (W:World):=agR Tryz.prog W
variable {W:World} [wk:WK W]
theorem agP:jp (jw W) 6:=aeO (zhd K3 Tryz.func6)
theorem agM:jm (jw W) 81:=aeL (zhd KZ Tryz.func81)
theorem acU:Ur (jw W) 123:=aa3 (zhd WU Tryz.func123)
theorem aff:qt (jw W) 124:=adm (zhd UU Tryz.func124)
theorem adw:Ky (jw W) 125:=acm (zhd V2 Tryz.func125)
theorem abi:VP (jw W) 99:=vO (zhd X2 Tryz.func99) acU aff adw
theorem jf:X0 (jw W) 76:=adn (zhd UV Tryz.func76) abi
theorem agN:jn (jw W) 126:=aeM (zhd K0 Tryz.func126)
theorem agO:jo (jw W) 104:=aeN (zhd K1 Tryz.func104) agN
theorem aac:Vg (jw W) 82:=wb (zhd Xq Tryz.func82) jf agO
theorem wN:V8 (jw W) 55:=adl (zhd UT Tryz.func55) agM jf aac
theorem afe:qr (jw W) 100:=adj (zhd UR Tryz.func100)
theorem agL:jl (jw W) 101:=aeJ (zhd KX Tryz.func101)
theorem wL:V7 (jw W) 78:=adk (zhd US Tryz.func78) afe agL
theorem ahS:yk (jw W) 56:=agc (zhd Kn Tryz.func56) wL
theorem aaL:U2 (jw W) 25:=aeK (zhd KY Tryz.func25) wN ahS
theorem yi:Wf (jw W) 136:=abc (zhd W5 Tryz.func136)
theorem adz:KB (jw W) 187:=acp (zhd V5 Tryz.func187)
theorem aaN:U4 (jw W) 165:=aeQ (zhd K5 Tryz.func165) adz
theorem aas:Vw (jw W) 166:=wA (zhd XH Tryz.func166)
theorem WA:JL (jw W) 168:=K8 (zhd JR Tryz.func168)
theorem Kr:J4 (jw W) 167:=UE (zhd Ju Tryz.func167) WA
theorem wV:Ww (jw W) 121:=xm (zhd Y5 Tryz.func121) aaN aas Kr WA
theorem yh:We (jw W) 95:=abb (zhd W4 Tryz.func95) wV
theorem adA:KC (jw W) 180:=acq (zhd V6 Tryz.func180) aaN
theorem aaf:Vj (jw W) 137:=wg (zhd Xt Tryz.func137) yh adA yi
theorem acX:Uu (jw W) 114:=aa7 (zhd WY Tryz.func114) yi aaf
theorem yg:Wd (jw W) 164:=aba (zhd W2 Tryz.func164)
theorem VN:Yh (jw W) 120:=wz (zhd XG Tryz.func120) yg
theorem xx:Yt (jw W) 139:=yJ (zhd YH Tryz.func139) VN
theorem aao:Vs (jw W) 138:=wu (zhd XC Tryz.func138) xx
theorem xw:Ys (jw W) 141:=yI (zhd YG Tryz.func141) (qM W wk.ok)
theorem aan:Vr (jw W) 140:=wt (zhd XB Tryz.func140) xw
theorem aam:Vq (jw W) 142:=ws (zhd XA Tryz.func142)
theorem aal:Vp (jw W) 143:=wq (zhd Xz Tryz.func143)
theorem aak:Vo (jw W) 144:=wo (zhd Xy Tryz.func144)
theorem aaj:Vn (jw W) 145:=wm (zhd Xx Tryz.func145)
theorem aai:Vm (jw W) 146:=wj (zhd Xw Tryz.func146)
theorem aah:Vl (jw W) 147:=wi (zhd Xv Tryz.func147)
theorem aag:Vk (jw W) 148:=wh (zhd Xu Tryz.func148)
theorem wS:Wt (jw W) 149:=xi (zhd Y2 Tryz.func149)
theorem wR:Ws (jw W) 150:=xh (zhd Y1 Tryz.func150)
theorem wQ:Wr (jw W) 151:=xf (zhd Y0 Tryz.func151)
theorem wP:Wq (jw W) 152:=xe (zhd YZ Tryz.func152)
theorem acW:Ut (jw W) 115:=aa6 (zhd WX Tryz.func115) aao aan aam aal aak aaj aai aah aag wS wR wQ wP
theorem jz:XL (jw W) 89:=vS (zhd X6 Tryz.func89) acX acW
theorem abl:VS (jw W) 83:=vR (zhd X5 Tryz.func83) jz
theorem WC:JN (jw W) 85:=qc (zhd JU Tryz.func85)
theorem qN:Yi (jw W) 105:=qe (zhd JV Tryz.func105) WC
theorem Ks:Yr (jw W) 107:=yG (zhd YE Tryz.func107)
theorem aaM:U3 (jw W) 118:=aeP (zhd K4 Tryz.func118)
theorem wO:Wp (jw W) 106:=xd (zhd YY Tryz.func106) Ks VN aaM
theorem aae:Vi (jw W) 84:=we (zha Tryz.func84) qN wO Ks
theorem wU:Wv (jw W) 169:=xk (zhd Y4 Tryz.func169)
theorem aar:Vv (jw W) 127:=wx (zhd XF Tryz.func127) wU
theorem j9:YT (jw W) 128:=jH (zhd Yg Tryz.func128)
theorem XS:Je (jw W) 108:=Xk (zhd QO Tryz.func108) aar j9
theorem qO:Yj (jw W) 86:=qg (zhd Q7 Tryz.func86) XS (VL W wk.ok)
theorem ady:KA (jw W) 131:=aco (zhd V4 Tryz.func131) yg
theorem wK:Wo (jw W) 132:=xc (zhd YX Tryz.func132)
theorem VM:Jz (jw W) 110:=Vx (zhd Jd Tryz.func110) ady wK
theorem ye:YU (jw W) 87:=jI (zhd Jm Tryz.func87) VM (qi W wk.ok)
theorem xv:XT (jw W) 57:=yH (zhd YF Tryz.func57) abl aae WC qO ye
theorem WB:JM (jw W) 38:=K9 (zhd JT Tryz.func38)
theorem KG:Ya (jw W) 113:=Kg (zhd JA Tryz.func113)
theorem acZ:Uw (jw W) 88:=abd (zhd W6 Tryz.func88) WB (je W wk.ok) KG
theorem aj2:xA (jw W) 90:=ahB (zhd yD Tryz.func90)
theorem ac0:Ux (jw W) 92:=abe (zhd W7 Tryz.func92) (qM W wk.ok) VN aaM
theorem afi:qw (jw W) 58:=adq (zhd UY Tryz.func58) acZ jz aj2 (XR W wk.ok) ac0
theorem jA:XM (jw W) 29:=vT (zhd X7 Tryz.func29) xv afi
theorem Ud:JI (jw W) 71:=VG (zhd Jh Tryz.func71)
theorem W9:Jo (jw W) 35:=WF (zhd Q1 Tryz.func35) Ud
theorem aap:Vt (jw W) 73:=wv (zhd XD Tryz.func73)
theorem XK:Jb (jw W) 98:=Xb (zhd QM Tryz.func98)
theorem YS:QZ (jw W) 72:=YO (zhd QC Tryz.func72) XK
theorem acY:Uv (jw W) 36:=aa8 (zhd WZ Tryz.func36) aap YS
theorem jB:XN (jw W) 16:=vU (zhd X8 Tryz.func16) jA W9 acY
theorem yN:Xg (jw W) 40:=jV (zhd Yq Tryz.func40)
theorem UZ:JY (jw W) 75:=Ui (zhd Jn Tryz.func75)
theorem Uk:JO (jw W) 39:=Ua (zhd Jl Tryz.func39) UZ
theorem aaq:Vu (jw W) 41:=ww (zhd XE Tryz.func41)
theorem wT:Wu (jw W) 18:=xj (zhd Y3 Tryz.func18) jB WB yN Uk aaq
theorem XI:Q9 (jw W) 93:=Y9 (zhd QK Tryz.func93)
theorem YQ:QX (jw W) 59:=YM (zhd QA Tryz.func59) XI
theorem agG:jg (jw W) 61:=aeC (zhd KQ Tryz.func61)
theorem adt:Kv (jw W) 60:=ach (zhd VY Tryz.func60) agG
theorem XJ:Ja (jw W) 94:=Xa (zhd QL Tryz.func94)
theorem YR:QY (jw W) 62:=YN (zhd QB Tryz.func62) XJ
theorem ahR:yj (jw W) 64:=agb (zhd qZ Tryz.func64)
theorem ads:Ku (jw W) 63:=acg (zhd VX Tryz.func63) ahR
theorem aaJ:U0 (jw W) 30:=aeD (zhd KR Tryz.func30) YQ adt YR ads
theorem Wn:Jj (jw W) 31:=XX (zhd QV Tryz.func31) (W8 W wk.ok)
theorem acP:Um (jw W) 66:=aaW (zhd WN Tryz.func66) aaJ yh
theorem v8:Vb (jw W) 67:=x8 (zhd Xo Tryz.func67) (qL W wk.ok)
theorem aaa:Vc (jw W) 32:=x9 (zhd Xp Tryz.func32) acP v8 (qL W wk.ok)
theorem yf:Wc (jw W) 14:=aa9 (zhd W1 Tryz.func14) jA aaJ Wn aaa
theorem abj:VQ (jw W) 21:=vP (zhd X3 Tryz.func21)
theorem afh:qv (jw W) 7:=adp (zhd UX Tryz.func7) aaL wT yf abj
theorem ahT:ym (jw W) 8:=agd (zhd q9 Tryz.func8)
theorem aj1:xz (jw W) 27:=ahA (zhd yC Tryz.func27)
theorem JH:Q3 (jw W) 10:=wd (zhd Xs Tryz.func10) aj1
theorem aad:Vh (jw W) 13:=wc (zhd Xr Tryz.func13) JH
theorem yd:Wb (jw W) 11:=aa5 (zhd WW Tryz.func11) JH
theorem adx:Kz (jw W) 26:=acn (zhd V3 Tryz.func26) JH aad yd
theorem acV:Us (jw W) 9:=aa4 (zhd WV Tryz.func9) JH adx aaL
theorem abk:VR (jw W) 28:=vQ (zhd X4 Tryz.func28) JH
theorem afg:qu (jw W) 12:=ado (zhd UW Tryz.func12) JH abk yd
theorem ae7:qk (jw W) 69:=adb (zhd UK Tryz.func69)
theorem agH:jh (jw W) 70:=aeE (zhd KS Tryz.func70)
theorem ae8:ql (jw W) 34:=adc (zhd UL Tryz.func34) ae7 agH
theorem ae6:qj (jw W) 42:=ada (zhd UJ Tryz.func42) ae8 jf
theorem acQ:Un (jw W) 77:=aaX (zhd WO Tryz.func77)
theorem yb:X9 (jw W) 44:=aaY (zhd WP Tryz.func44) acQ
theorem acR:Uo (jw W) 43:=aaZ (zhd WQ Tryz.func43) yb
theorem acS:Up (jw W) 22:=aa0 (zhd WR Tryz.func22) ae6 acR yb
theorem yO:Vf (jw W) 45:=ack (zhd V1 Tryz.func45) wN wL
theorem aaK:U1 (jw W) 102:=aeI (zhd KW Tryz.func102)
theorem adv:Kx (jw W) 103:=acj (zhd V0 Tryz.func103) aaK
theorem yc:Wa (jw W) 79:=aa2 (zhd WT Tryz.func79) aaK adv
theorem afd:qq (jw W) 80:=adi (zhd UQ Tryz.func80) yc
theorem agK:jk (jw W) 46:=aeH (zhd KV Tryz.func46) yc afd
theorem acT:Uq (jw W) 47:=aa1 (zhd Xf Tryz.func47)
theorem aab:Ve (jw W) 48:=wa (zhd Yx Tryz.func48)
theorem abh:VO (jw W) 23:=vN (zhd X1 Tryz.func23) yO agK acT aab
theorem afa:qn (jw W) 49:=adf (zhd UN Tryz.func49)
theorem afb:qo (jw W) 50:=adg (zhd UO Tryz.func50)
theorem adu:Kw (jw W) 51:=aci (zhd VZ Tryz.func51)
theorem ae9:qm (jw W) 52:=ade (zhd UM Tryz.func52)
theorem agJ:jj (jw W) 53:=aeG (zhd KU Tryz.func53)
theorem agI:ji (jw W) 54:=aeF (zhd KT Tryz.func54)
theorem afc:qp (jw W) 24:=adh (zhd UP Tryz.func24) yO afa afb adu ae9 agJ agI
theorem yM:Ue (jw W) 5:=jU (zhd Yp Tryz.func5) agP afh ahT acV JH afg yf acS jB abh afc
end Go.Proofs.YtlpaikjhphkioaaGreat
end
