/- The library's contracts at this seat. -/
import Derived.Test.YtlpaikjhphkioaaGreatK34
import Derived.Test.YtlpaikjhphkioaaGreatK13
import Derived.Test.YtlpaikjhphkioaaGreatK35
import Derived.Test.YtlpaikjhphkioaaGreatK36
import Derived.Test.YtlpaikjhphkioaaGreatK37
import Derived.Laws.AppendOwn
import Derived.Sort.Walk0
import Derived.KernelRfl
set_option linter.unusedVariables false
set_option linter.unusedSimpArgs false
section
namespace Go.Proofs.YtlpaikjhphkioaaGreat
open Go Av Go.RowKit
set_option maxRecDepth 100000
set_option linter.unusedVariables false
structure WOK (W:World):Prop where
 ok:True
theorem arW:Av.Own Tryz.prog 119:=⟨Tryz.f119,Tryz.func119,by decide,_,rfl⟩
theorem apZ:Av.Own Tryz.prog 109:=⟨Tryz.f109,Tryz.func109,by decide,_,rfl⟩
theorem apY:Av.Own Tryz.prog 111:=⟨Tryz.f111,Tryz.func111,by decide,_,rfl⟩
theorem as2:Av.Own Tryz.prog 65:=⟨Tryz.f65,Tryz.func65,by decide,_,rfl⟩
theorem as1:Av.Own Tryz.prog 68:=⟨Tryz.f68,Tryz.func68,by decide,_,rfl⟩
theorem as0:Av.Own Tryz.prog 97:=⟨Tryz.f97,Tryz.func97,by decide,_,rfl⟩
theorem atL:Tryz.prog.follows .mixedOrders = true:=by kernel_rfl
theorem anV:∀ a b:List UInt8,Lib.compareBytes a b = yp a b
 | [],[]=>by simp [Lib.compareBytes,yp,Op.bytesLess]
 | [],_ :: _=>by simp [Lib.compareBytes,yp,Op.bytesLess]
 | _ :: _,[]=>by simp [Lib.compareBytes,yp,Op.bytesLess]
 | a :: x,b :: y=>by
   have ih:=anV x y
   rw [yp] at ih ⊢
   rw [Lib.compareBytes,ih]
   simp only [Op.bytesLess]
   by_cases h1:a < b
   ·simp [h1]
   ·by_cases h2:b < a
    ·have h3:a≠b:=fun e=>by subst e;exact h1 h2
     simp [h1,h2,h3]
    ·have h3:a = b:=UInt8.le_antisymm (UInt8.not_lt.1 h2) (UInt8.not_lt.1 h1)
     subst h3
     simp [h1]
theorem yj (W:World) (hW:WOK W):Ub (amd Tryz.prog W) 119:=by
 intro a b
 refine ⟨asg (cv:=[.string ⟨a.toArray⟩,.string ⟨b.toArray⟩]) (res:=.int .i64 (yp a b)) (fun _ _ _=>.sc rfl) ?_,trivial,trivial⟩
 intro w hk
 show V7 Tryz.prog 119 _ w _
 refine (UK arW _ _ _).2 ((Any.strings_Compare Tryz.lays106 ⟨a.toArray⟩ ⟨b.toArray⟩ w).mono fun e w' ⟨he,hw⟩=>?_)
 subst he;subst hw
 exact ⟨by simp [anV],zj _,fun _ _=>rfl,Ww.refl _⟩
theorem ain {w:World} {n c:Nat} {t:TypeId} (h:n < 2 ^ 63):n≤grownCap w n c t∧grownCap w n c t < 2 ^ 63:=by
 refine ⟨grownCap_ge _ _ _ _,?_⟩
 have:=grownCap_le_maxLen w n c t (by unfold maxLen;omega)
 unfold maxLen at this
 omega
theorem ab1 {u:Value} {w:World} {vb voff:Nat} (h:w.cell? ⟨vb,voff,none⟩ = some u):∀ (j:Nat) (v:Value),[u][j]? = some v→w.cell? ⟨vb,voff + j,none⟩ = some v:=fun j v hj=>by
 obtain ⟨h1,rfl⟩:=zn.1 hj
 have:j = 0:=by simpa using h1
 subst this
 simpa using h
theorem as7:asQ Tryz.prog 109 9 (.string ⟨#[]⟩):={
 shift:=fun b off n c i vb voff vc cs u w tA tB kA kB h1 h2 h3 h4 h5 h6 h7 h8 h9 h10 h11 h12 h13 h14 h15 h16 =>
  Any2.slices_Insert_string_shift Tryz.lays2I22 b off n c i vb voff 1 vc cs [u] w h1 Nat.one_pos h2 h3 h4 h5 rfl h6 h7 h8 (ab1 h9) h10 (by simpa using h11) tA tB kA kB h12 h13 h14 h15 h16
 endRoom:=fun b off n c vb voff vc u w h1 h2 h3 h4 h5 h6 =>
  Any2.slices_Insert_string_end_room Tryz.lays2I22 b off n c vb voff 1 vc [u] w Nat.one_pos h1 h2 rfl (fun j hj=>by have hj0:j = 0:=(by omega);subst hj0;exact h3) (fun j hj=>by have hj0:j = 0:=(by omega);subst hj0;exact h4) (ab1 h5) (by simpa using h6)
 endGrow:=fun base n c vb voff vc cs u w h1 h2 h3 h4 h5 h6 h7 h8 =>
  (Any2.slices_Insert_string_end_grow Tryz.lays2I22 base n c vb voff 1 vc cs [u] w Nat.one_pos h1 h2 (by omega) h4 rfl h5 h6 (ab1 h7) (by simpa using h8)).mono fun e w' ⟨he,hw⟩=>⟨_,ain (by omega),he,hw⟩
 grow:=fun b off n c i vb voff vc cs u w h1 h2 h3 h4 h5 h6 h7 h8 h9 =>
  (Any2.slices_Insert_string_grow Tryz.lays2I22 b off n c i vb voff 1 vc cs [u] w h1 Nat.one_pos h2 h3 (by omega) h5 rfl h6 (ab1 h7) h8 (by simpa using h9)).mono fun e w' ⟨he,hw⟩=>⟨_,_,ain (by omega),by
    have:=grownCap_ge w (n + 1) c (Tryz.lays2I22_ren.t 9)
    rw [kT,kT,JP,JP];simp [Value.cells];omega,fun j v hj hv=>by
     rw [Array.append_assoc,Zg (by simp;omega)]
     simp [hv,hj],he,hw⟩ }
theorem aty:asQ Tryz.prog 111 3 (.int .i64 0):={
 shift:=fun b off n c i vb voff vc cs u w tA tB kA kB h1 h2 h3 h4 h5 h6 h7 h8 h9 h10 h11 h12 h13 h14 h15 h16 =>
  Any2.slices_Insert_int_shift Tryz.lays2I21 b off n c i vb voff 1 vc cs [u] w h1 Nat.one_pos h2 h3 h4 h5 rfl h6 h7 h8 (ab1 h9) h10 (by simpa using h11) tA tB kA kB h12 h13 h14 h15 h16
 endRoom:=fun b off n c vb voff vc u w h1 h2 h3 h4 h5 h6 =>
  Any2.slices_Insert_int_end_room Tryz.lays2I21 b off n c vb voff 1 vc [u] w Nat.one_pos h1 h2 rfl (fun j hj=>by have hj0:j = 0:=(by omega);subst hj0;exact h3) (fun j hj=>by have hj0:j = 0:=(by omega);subst hj0;exact h4) (ab1 h5) (by simpa using h6)
 endGrow:=fun base n c vb voff vc cs u w h1 h2 h3 h4 h5 h6 h7 h8 =>
  (Any2.slices_Insert_int_end_grow Tryz.lays2I21 base n c vb voff 1 vc cs [u] w Nat.one_pos h1 h2 (by omega) h4 rfl h5 h6 (ab1 h7) (by simpa using h8)).mono fun e w' ⟨he,hw⟩=>⟨_,ain (by omega),he,hw⟩
 grow:=fun b off n c i vb voff vc cs u w h1 h2 h3 h4 h5 h6 h7 h8 h9 =>
  (Any2.slices_Insert_int_grow Tryz.lays2I21 b off n c i vb voff 1 vc cs [u] w h1 Nat.one_pos h2 h3 (by omega) h5 rfl h6 (ab1 h7) h8 (by simpa using h9)).mono fun e w' ⟨he,hw⟩=>⟨_,_,ain (by omega),by
    have:=grownCap_ge w (n + 1) c (Tryz.lays2I21_ren.t 3)
    rw [kT,kT,JP,JP];simp [Value.cells];omega,fun j v hj hv=>by
     rw [Array.append_assoc,Zg (by simp;omega)]
     simp [hv,hj],he,hw⟩ }
theorem UN (W:World) (hW:WOK W):Y0 (amd Tryz.prog W) 109:=by
 refine ⟨fun xs i x hi hp hl=>?_,fun x=>?_⟩
 ·have:=akD (Γ:=amd Tryz.prog W) as7 apZ (i:=i) (ls:=xs.map fun s=>Value.string ⟨s.toArray⟩) (u:=.string ⟨x.toArray⟩) (by simpa using hi) (by simpa using hp) (by simp;omega) (by simp only [zE];rintro v ⟨s,_,rfl⟩;rfl) rfl
  simpa [kp,kw,Function.comp_def,V.str] using this
 ·exact akC (Γ:=amd Tryz.prog W) as7 apZ rfl trivial
theorem jI (W:World) (hW:WOK W):WG (amd Tryz.prog W) 111:=by
 refine ⟨fun xs i x hi hp hl=>?_,fun x=>?_⟩
 ·have:=akD (Γ:=amd Tryz.prog W) aty apY (i:=i) (ls:=xs.map fun s=>Value.int .i64 s) (u:=.int .i64 x) (by simpa using hi) (by simpa using hp) (by simp;omega) (by simp only [zE];rintro v ⟨s,_,rfl⟩;rfl) rfl
  simpa [kp,kw,Function.comp_def,V.int] using this
 ·exact akC (Γ:=amd Tryz.prog W) aty apY rfl trivial
theorem apc:((Tryz.prog.info? 26).any fun i=>i.zero.isSome && (i.size == 8 && (decide (i.bytes≤100) && (i.zero.map (·.cells.size) == some 8)))) = true:=by kernel_rfl
theorem atd:asH Tryz.prog 65 26 8:={
 room:=fun w=>Any8.slices_Grow_room Tryz.lays8G65 none 0 0 0 w (zj _) (by omega) (by omega) (by omega)
 grow:=fun n w h1 h2=>by
  have h:=apc
  cases hi:Tryz.prog.info? 26 with
  | none=>rw [hi] at h;cases h
  | some i0 =>
    rw [hi] at h
    simp only [Option.any_some,zw,zA,ky] at h
    obtain ⟨q1,q2,q3,q4⟩:=h
    cases hz:i0.zero with
    | none=>rw [hz] at q1;cases q1
    | some z =>
      rw [hz] at q4
      have q5:z.cells.size = 8:=by simpa using q4
      have hb:(0 + n) * i0.bytes≤140737488355328:=by
       have:(0 + n) * i0.bytes≤(0 + n) * 100:=Nat.mul_le_mul_left _ q3
       omega
      refine (Any8.slices_Grow_grow Tryz.lays8G65 i0 z hi hz (by omega) none 0 0 n [] w (zj _) (by omega) hb (by omega) (by simp) (fun _=>rfl) (fun a h=>by cases h)).mono fun e w' ⟨he,hw⟩=>⟨_,_,(ain (by omega)).2,?_,he,hw⟩
      have:=grownCap_ge w (0 + n) 0 (Tryz.lays8G65_ren.t 25)
      rw [kT,kT,JP,JP,q5]
      simp
      omega }
theorem V5 (W:World) (hW:WOK W):YM (amd Tryz.prog W) 65:=fun n hn=>ape (Γ:=amd Tryz.prog W) atd as2 hn
theorem anL {Γ:Env} {f:FuncId} {args:List V} {k:Value}
  (h:∀ (C:Ctx) (cargs:Array Value),C.env = Γ→cargs.size = args.length→(∀ i (h:i < args.length) (h':i < cargs.size),Rep C.w0 C.Z0 C.μ0 cargs[i] args[i])→V7 Γ.P f cargs C.w0 fun e w'=>e = .returned k∧Below C.w0.heap.size C.w0 w') (hk:k.oneCell' = true) (hd:¬ Γ.dr):Ev Γ f args [] (.sc k) []:=by
 intro C cargs hP hm hmu hg hF hsz hrep
 have:=h C cargs hP hsz hrep
 refine this.mono fun e w' ⟨he,hb⟩=>?_
 subst he
 exact ⟨_,C.Z0,C.μ0,rfl,.sc hk,⟨fun a x h=>by simp at h,fun a b x y c d _ h=>by simp at h,fun b i h=>ZK (hg.zlt b i h) hb.size,hb.size,fun b h _=>hb.block b h,fun b i h=>.inl h,fun b i h=>h,fun b i h=>by simp [World.cell?,hb.block b (hg.zlt b i h)],fun k _=>rfl,⟨hb.os,hb.tape,hb.output,fun h=>(hd (by rw [← hP];exact h)).elim⟩⟩,fun k hk=>hmu k (by simp)⟩
def aof (r:Qj):PR:=⟨r.allow,r.alg,r.below,r.purp,r.frm,r.til⟩
def ar2 (r:PR):Qj:=⟨r.allow,r.alg,r.below,r.purp,r.frm,r.til⟩
theorem atc:Has Tryz.prog 97 43 Ym.1.1.ac Ym.1.2:=zhd Ym Tryz.func97
theorem ark (r:PR) (a b pu:Int) (w:World):Calls Tryz.prog 97 #[aqB r,.agg #[.int .i64 a,.int .i64 b],.int .i64 pu] w fun e W'=>e = .returned (.bool (aig (ar2 r) a b pu))∧Below w.heap.size w W':=by
 have E:=vn (Γ:=amd Tryz.prog w) atc (ar2 r) a b pu
 refine aej atL as0 E rfl fun i h h'=>?_
 match i,h with
 | 0,_ =>
   refine .agg rfl (fun j hj=>?_) fun j hj hj'=>?_
   ·match j,hj with
    | 0,_|1,_|2,_|3,_|4,_|5,_=>rfl
   ·match j,hj with
    | 0,_|1,_|2,_|3,_|4,_|5,_=>exact .sc rfl
 | 1,_ =>
   refine .agg rfl (fun j hj=>?_) fun j hj hj'=>?_
   ·match j,hj with
    | 0,_|1,_=>rfl
   ·match j,hj with
    | 0,_|1,_=>exact .sc rfl
 | 2,_=>exact .sc rfl
theorem akg (rs:List Qj) (a b pu day:Int):∀ k,k≤rs.length→adB (al5 (fun r=>aig (ar2 r) a b pu) (rs.map aof) day) k = anR (apL a b pu day) rs k
 | 0,_=>rfl
 | k + 1,hk=>by
   have ih:=akg rs a b pu day k (by omega)
   have hg:rs[k]? = some rs[k]:=zd (by omega)
   have hp:(rs.map aof).getD k default = aof rs[k]:=by simp [List.getD,hg]
   rw [adB,anR,hg,ih]
   have:al5 (fun r=>aig (ar2 r) a b pu) (rs.map aof) day k = apL a b pu day rs[k]:=by
    rw [al5,hp];rfl
   rw [this]
theorem yh (W:World) (hW:WOK W):V8 (amd Tryz.prog W) 68:=by
 intro rs ks a b pu day hr
 refine ⟨anL (fun C cargs hP hsz hrep=>?_) rfl (fun h=>h),trivial,trivial⟩
 have hsz:cargs.size = 4:=hsz
 obtain ⟨x0,x1,x2,x3,rfl⟩:∃ x0 x1 x2 x3,cargs = #[x0,x1,x2,x3]:=⟨cargs[0],cargs[1],cargs[2],cargs[3],by
  apply bo
  ·simpa using hsz
  ·intro k a1 a2
   match k,a2 with
   | 0,_|1,_|2,_|3,_=>rfl⟩
 have r0:Rep C.w0 C.Z0 C.μ0 x0 (aj2 rs ks):=hrep 0 (by simp) (by simp)
 have r1:Rep C.w0 C.Z0 C.μ0 x1 (.agg [V.int a,V.int b]):=hrep 1 (by simp) (by simp)
 have r2:Rep C.w0 C.Z0 C.μ0 x2 (V.int pu):=hrep 2 (by simp) (by simp)
 have r3:Rep C.w0 C.Z0 C.μ0 x3 (V.int day):=hrep 3 (by simp) (by simp)
 have e2:=r2.scE.1
 have e3:=r3.scE.1
 obtain ⟨cs,e0,l0,_,h0⟩:=r0.aggE
 obtain ⟨cs1,e1,l1,_,h1⟩:=r1.aggE
 obtain ⟨y0,y1,rfl⟩:∃ y0 y1,cs = #[y0,y1]:=⟨cs[0]'(by rw [l0];simp),cs[1]'(by rw [l0];simp),by
  apply bo
  ·simpa using l0
  ·intro k a1 a2
   match k,a2 with
   | 0,_|1,_=>rfl⟩
 obtain ⟨z0,z1,rfl⟩:∃ z0 z1,cs1 = #[z0,z1]:=⟨cs1[0]'(by rw [l1];simp),cs1[1]'(by rw [l1];simp),by
  apply bo
  ·simpa using l1
  ·intro k a1 a2
   match k,a2 with
   | 0,_|1,_=>rfl⟩
 have q0:Rep C.w0 C.Z0 C.μ0 y0 (.sl 6 (rs.map Qj.v)):=h0 0 (by simp) (by simp)
 have p0:Rep C.w0 C.Z0 C.μ0 z0 (V.int a):=h1 0 (by simp) (by simp)
 have p1:Rep C.w0 C.Z0 C.μ0 z1 (V.int b):=h1 1 (by simp) (by simp)
 have e4:=p0.scE.1
 have e5:=p1.scE.1
 obtain ⟨ad,cap,e6,_,hx⟩:=q0.slE
 subst e0;subst e1;subst e2;subst e3;subst e4;subst e5;subst e6
 show V7 Tryz.prog 68 _ C.w0 _
 refine (UK as1 _ _ _).2 ?_
 have D:=Dec.decides_in (fun r=>aig (ar2 r) a b pu) Fence.wide 5 trivial trivial trivial rfl (zj _) (rs.map aof) ad cap y1 a b pu day C.w0 (fun r w=>callsIn_wide.2 (ark r a b pu w)) trivial (by simp;omega) (by
  by_cases hn:rs = []
  ·exact .inl (by simp [hn])
  ·obtain ⟨bb,oo,rfl,hrow,_⟩:=hx (by simpa using hn)
   have hcell:∀ j,j < (rs.map aof).length→∀ c,c < 6→C.w0.cell? ⟨bb,oo + (j * 6 + c),none⟩ = some (agK ((rs.map aof).getD j default) c):=by
    intro j hj c hc
    have hj':j < rs.length:=by simpa using hj
    have hjv:j < (rs.map Qj.v).length:=by simpa using hj
    have ev:(rs.map Qj.v)[j] = Qj.v rs[j]:=by simp
    have hg:rs[j]? = some rs[j]:=zd hj'
    have hp:(rs.map aof).getD j default = aof rs[j]:=by simp [List.getD,hg]
    obtain ⟨v,c1,c2,c3⟩:=(hrow j hjv).2 c (by rw [ev];exact hc)
    rw [hp]
    refine c1.trans (congrArg some ?_)
    match c,hc with
    | 0,_|1,_|2,_|3,_|4,_|5,_ =>
      simp only [ev] at c3
      exact c3.scE.1
   have hpos:0 < (rs.map aof).length:=by simpa [Zs] using hn
   refine .inr ⟨bb,oo,rfl,?_,hcell⟩
   have:=hcell 0 hpos 0 (by omega)
   rcases kM bb C.w0.heap.size with h|h
   ·exact h
   ·simp [World.cell?,ZN h] at this)
 rw [zb] at D
 have D':=callsIn_wide.1 D
 rw [akg rs a b pu day _ (zj _)] at D'
 simpa [zb,akK] using D'
end Go.Proofs.YtlpaikjhphkioaaGreat
end
section
namespace Go.Proofs.YtlpaikjhphkioaaGreat
open Go Av Go.RowKit
set_option maxRecDepth 100000
set_option linter.unusedVariables false
theorem zha {P:Program} {f nt:Nat} {c:AC} {rs:List Kx} {fn} (h1:P.funcs[f]? = some fn) (h:P.funcs[f]? = some fn→Has P f nt c rs:=by exact fun h=>⟨_,_,h,by decide,rfl,rfl,by kernel_rfl,by kernel_rfl⟩):Has P f nt c rs:=h h1
class WK (W:World):Prop where
 ok:WOK W
set_option linter.unusedSectionVars false
noncomputable abbrev jw (W:World):=amd Tryz.prog W
variable {W:World} [wk:WK W]
theorem aiH:xc (jw W) 6:=agz (zhd ju Tryz.func6)
theorem aiE:yY (jw W) 81:=agw (zhd jq Tryz.func81)
theorem aey:Kq (jw W) 123:=acG (zhd VR Tryz.func123)
theorem agZ:jT (jw W) 124:=ae0 (zhd KY Tryz.func124)
theorem afa:qK (jw W) 125:=adY (zhd U0 Tryz.func125)
theorem acU:UQ (jw W) 99:=abp (zhd W1 Tryz.func99) aey agZ afa
theorem yN:WW (jw W) 76:=ae1 (zhd KZ Tryz.func76) acU
theorem aiF:yZ (jw W) 126:=agx (zhd jr Tryz.func126)
theorem aiG:xb (jw W) 104:=agy (zhd jt Tryz.func104) aiF
theorem abH:Ud (jw W) 82:=aar (zhd We Tryz.func82) yN aiG
theorem aaT:U8 (jw W) 55:=aeZ (zhd KX Tryz.func55) aiE yN abH
theorem agY:jS (jw W) 100:=aeX (zhd KV Tryz.func100)
theorem aiD:yX (jw W) 101:=agu (zhd jo Tryz.func101)
theorem aaS:U7 (jw W) 78:=aeY (zhd KW Tryz.func78) agY aiD
theorem ajO:x9 (jw W) 56:=ah2 (zhd qy Tryz.func56) aaS
theorem ack:K8 (jw W) 25:=agv (zhd jp Tryz.func25) aaT ajO
theorem xZ:Ve (jw W) 136:=acQ (zhd V1 Tryz.func136)
theorem afc:qM (jw W) 187:=ad1 (zhd U3 Tryz.func187)
theorem acn:qc (jw W) 165:=agB (zhd jx Tryz.func165) afc
theorem abX:Uu (jw W) 166:=aaK (zhd Wv Tryz.func166)
theorem Vy:Yf (jw W) 168:=jC (zhd Yn Tryz.func168)
theorem qC:YB (jw W) 167:=KG (zhd JX Tryz.func167) Vy
theorem aa0:Vu (jw W) 121:=vH (zhd XN Tryz.func121) acn abX qC Vy
theorem xY:Vd (jw W) 95:=acP (zhd V0 Tryz.func95) aa0
theorem afd:qN (jw W) 180:=ad2 (zhd U4 Tryz.func180) acn
theorem abK:Ug (jw W) 137:=aaw (zhd Wh Tryz.func137) xY afd xZ
theorem aeB:Kt (jw W) 114:=acL (zhd VW Tryz.func114) xZ abK
theorem xX:Vc (jw W) 164:=acO (zhd VZ Tryz.func164)
theorem UP:YT (jw W) 120:=aaJ (zhd Wu Tryz.func120) xX
theorem vQ:Y7 (jw W) 139:=wN (zhd Xl Tryz.func139) UP
theorem abT:Uq (jw W) 138:=aaF (zhd Wq Tryz.func138) vQ
theorem vP:Y6 (jw W) 141:=wL (zhd Xk Tryz.func141) (yj W wk.ok)
theorem abS:Up (jw W) 140:=aaE (zhd Wp Tryz.func140) vP
theorem abR:Uo (jw W) 142:=aaD (zhd Wo Tryz.func142)
theorem abQ:Un (jw W) 143:=aaC (zhd Wn Tryz.func143)
theorem abP:Um (jw W) 144:=aaB (zhd Wm Tryz.func144)
theorem abO:Uk (jw W) 145:=aaA (zhd Wl Tryz.func145)
theorem abN:Uj (jw W) 146:=aaz (zhd Wk Tryz.func146)
theorem abM:Ui (jw W) 147:=aay (zhd Wj Tryz.func147)
theorem abL:Uh (jw W) 148:=aax (zhd Wi Tryz.func148)
theorem aaY:Vs (jw W) 149:=vE (zhd XK Tryz.func149)
theorem aaX:Vr (jw W) 150:=vD (zhd XJ Tryz.func150)
theorem aaW:Vq (jw W) 151:=vC (zhd XI Tryz.func151)
theorem aaV:Vp (jw W) 152:=vB (zhd XH Tryz.func152)
theorem aeA:Ks (jw W) 115:=acK (zhd VV Tryz.func115) abT abS abR abQ abP abO abN abM abL aaY aaX aaW aaV
theorem xp:WD (jw W) 89:=abt (zhd W6 Tryz.func89) aeB aeA
theorem acW:US (jw W) 83:=abs (zhd W5 Tryz.func83) xp
theorem VA:Yh (jw W) 85:=jF (zhd Yq Tryz.func85)
theorem yn:YW (jw W) 105:=jG (zhd Yr Tryz.func105) VA
theorem qE:Y5 (jw W) 107:=wJ (zhd Xi Tryz.func107)
theorem acm:K9 (jw W) 118:=agA (zhd jv Tryz.func118)
theorem aaU:Vo (jw W) 106:=vA (zhd XG Tryz.func106) qE UP acm
theorem abJ:Uf (jw W) 84:=aav (zha Tryz.func84) yn aaU qE
theorem aaZ:Vt (jw W) 169:=vG (zhd XM Tryz.func169)
theorem abW:Ut (jw W) 127:=aaI (zhd Wt Tryz.func127) aaZ
theorem xR:XB (jw W) 128:=xy (zhd YS Tryz.func128)
theorem WJ:Jt (jw W) 108:=X8 (zhd QW Tryz.func108) abW xR
theorem yo:YX (jw W) 86:=jH (zhd Jg Tryz.func86) WJ (UN W wk.ok)
theorem jK:X2 (jw W) 131:=ad0 (zhd U2 Tryz.func131) xX
theorem aaP:Vn (jw W) 132:=vw (zhd XF Tryz.func132)
theorem UO:J4 (jw W) 110:=Uw (zhd Jr Tryz.func110) jK aaP
theorem xV:XC (jw W) 87:=xz (zhd JG Tryz.func87) UO (jI W wk.ok)
theorem vO:WL (jw W) 57:=wK (zhd Xj Tryz.func57) acW abJ VA yo xV
theorem Vz:Yg (jw W) 38:=jD (zhd Yo Tryz.func38)
theorem abI:Ue (jw W) 162:=aas (zha Tryz.func162)
theorem xU:Xv (jw W) 117:=acH (zhd VS Tryz.func117) abI
theorem V4:JL (jw W) 172:=VC (zhd Ja Tryz.func172) jK
theorem Kg:Has Tryz.prog 135 134 (YG 172 173 174 175 176 177 131 178 179 135) bv:=zha Tryz.func135
theorem qB:YA (jw W) 135:=KF Kg V4 jK
theorem yL:Xc (jw W) 112:=j9 (zhd Yz Tryz.func112) xU qB
theorem qR:YH (jw W) 113:=qq (zhd J5 Tryz.func113)
theorem aeD:Kv (jw W) 88:=acR (zhd V2 Tryz.func88) Vz yL qR
theorem al7:vT (jw W) 90:=aju (zhd wC Tryz.func90)
theorem Wx:Jj (jw W) 153:=XT (zhd QO Tryz.func153)
theorem VB:Has Tryz.prog 116 148 (J3 153 154 155 156 157 158 159 160 116) bs:=zha Tryz.func116
theorem Ux:JY (jw W) 116:=VI VB Wx
theorem WI:Js (jw W) 91:=X7 (zhd QV Tryz.func91) xU Ux
theorem aeE:Kw (jw W) 92:=acS (zhd V3 Tryz.func92) (yj W wk.ok) UP acm
theorem ag2:jW (jw W) 58:=ae4 (zhd K3 Tryz.func58) aeD xp al7 WI aeE
theorem xq:WE (jw W) 29:=abu (zhd W7 Tryz.func29) vO ag2
theorem Kd:Yd (jw W) 71:=UF (zhd JA Tryz.func71)
theorem V6:JM (jw W) 35:=VD (zhd Jb Tryz.func35) Kd
theorem abU:Ur (jw W) 73:=aaG (zhd Wr Tryz.func73)
theorem WA:Jm (jw W) 98:=XW (zhd QR Tryz.func98)
theorem XA:Q6 (jw W) 72:=Xt (zhd QK Tryz.func72) WA
theorem aeC:Ku (jw W) 36:=acM (zhd VX Tryz.func36) abU XA
theorem xu:WF (jw W) 16:=abv (zhd W8 Tryz.func16) xq V6 aeC
theorem wQ:X1 (jw W) 40:=xK (zhd Y4 Tryz.func40)
theorem K4:Yu (jw W) 75:=Kh (zhd JH Tryz.func75)
theorem Kj:Yj (jw W) 39:=Ka (zhd JE Tryz.func39) K4
theorem abV:Us (jw W) 41:=aaH (zhd Ws Tryz.func41)
theorem jz:Xm (jw W) 18:=vF (zhd XL Tryz.func18) xu Vz wQ Kj abV
theorem Wy:Jk (jw W) 93:=XU (zhd QP Tryz.func93)
theorem Xy:Q4 (jw W) 59:=Xr (zhd QI Tryz.func59) Wy
theorem aiv:yP (jw W) 61:=agj (zhd jd Tryz.func61)
theorem ae7:qH (jw W) 60:=adU (zhd UW Tryz.func60) aiv
theorem Wz:Jl (jw W) 94:=XV (zhd QQ Tryz.func94)
theorem Xz:Q5 (jw W) 62:=Xs (zhd QJ Tryz.func62) Wz
theorem ajN:x8 (jw W) 64:=ah1 (zhd yE Tryz.func64)
theorem ae6:qG (jw W) 63:=adT (zhd UV Tryz.func63) ajN
theorem ach:K5 (jw W) 30:=agk (zhd je Tryz.func30) Xy ae7 Xz ae6
theorem Vm:JD (jw W) 31:=WQ (zhd Q3 Tryz.func31) (V5 W wk.ok)
theorem aes:Kk (jw W) 66:=acy (zhd VK Tryz.func66) ach xY
theorem abE:V9 (jw W) 67:=aao (zhd Wc Tryz.func67) (yh W wk.ok)
theorem abF:Ua (jw W) 32:=aap (zhd Wd Tryz.func32) aes abE (yh W wk.ok)
theorem xW:Vb (jw W) 14:=acN (zhd VY Tryz.func14) xq ach Vm abF
theorem xn:WC (jw W) 21:=abq (zhd W2 Tryz.func21)
theorem ag1:jV (jw W) 7:=ae3 (zhd K1 Tryz.func7) ack jz xW xn
theorem ajP:wa (jw W) 8:=ah3 (zhd yF Tryz.func8)
theorem al6:vS (jw W) 27:=ajt (zhd wB Tryz.func27)
theorem Yc:Jc (jw W) 10:=aau (zhd Wg Tryz.func10) al6
theorem yk:XP (jw W) 13:=aat (zhd Wf Tryz.func13) Yc
theorem qD:Xw (jw W) 11:=acJ (zhd VU Tryz.func11) Yc
theorem afb:qL (jw W) 26:=adZ (zhd U1 Tryz.func26) Yc yk qD
theorem aez:Kr (jw W) 9:=acI (zhd VT Tryz.func9) Yc afb ack
theorem acV:UR (jw W) 28:=abr (zhd W4 Tryz.func28) Yc
theorem ag0:jU (jw W) 12:=ae2 (zhd K0 Tryz.func12) Yc acV qD
theorem jJ:X0 (jw W) 45:=adX (zhd UZ Tryz.func45) aaT aaS
theorem yM:WV (jw W) 33:=aeN (zhd KL Tryz.func33) jJ
theorem agT:jN (jw W) 69:=aeQ (zhd KO Tryz.func69)
theorem aiy:yS (jw W) 70:=ago (zhd ji Tryz.func70)
theorem aaQ:U5 (jw W) 34:=aeR (zhd KP Tryz.func34) agT aiy
theorem acj:K7 (jw W) 102:=agt (zhd jn Tryz.func102)
theorem ae9:qJ (jw W) 103:=adW (zhd UY Tryz.func103) acj
theorem xT:Va (jw W) 79:=acF (zhd VQ Tryz.func79) acj ae9
theorem agX:jR (jw W) 80:=aeW (zhd KU Tryz.func80) xT
theorem aiC:yW (jw W) 46:=ags (zhd jm Tryz.func46) xT agX
theorem aex:Kp (jw W) 47:=acE (zhd XZ Tryz.func47)
theorem abG:Uc (jw W) 48:=aaq (zhd Xa Tryz.func48)
theorem xm:WB (jw W) 23:=abo (zhd WZ Tryz.func23) jJ aiC aex abG
theorem agV:jP (jw W) 49:=aeT (zhd KR Tryz.func49)
theorem agW:jQ (jw W) 50:=aeU (zhd KS Tryz.func50)
theorem ae8:qI (jw W) 51:=adV (zhd UX Tryz.func51)
theorem agU:jO (jw W) 52:=aeS (zhd KQ Tryz.func52)
theorem aiA:yU (jw W) 53:=agq (zhd jk Tryz.func53)
theorem aiz:yT (jw W) 54:=agp (zhd jj Tryz.func54)
theorem aaR:U6 (jw W) 24:=aeV (zhd KT Tryz.func24) jJ agV agW ae8 agU aiA aiz
theorem agS:jM (jw W) 42:=aeP (zhd KN Tryz.func42) aaQ yN
theorem aeu:Km (jw W) 77:=acA (zhd VM Tryz.func77)
theorem xS:W9 (jw W) 44:=acB (zhd VN Tryz.func44) aeu
theorem aev:Kn (jw W) 43:=acC (zhd VO Tryz.func43) xS
theorem aew:Ko (jw W) 22:=acD (zhd VP Tryz.func22) agS aev xS
theorem aix:yR (jw W) 15:=agn (zhd jh Tryz.func15) yM aaQ xm aaR aew
theorem aiw:yQ (jw W) 74:=agm (zhd jg Tryz.func74)
theorem aci:K6 (jw W) 37:=agl (zhd jf Tryz.func37) xm aiw aaR
theorem agR:jL (jw W) 17:=aeO (zhd KM Tryz.func17) yM aci
theorem aet:Kl (jw W) 19:=acz (zhd VL Tryz.func19) yM aci
theorem aiB:yV (jw W) 20:=agr (zhd jl Tryz.func20)
theorem ym:WX (jw W) 3:=jE (zhd Yp Tryz.func3) aiH ag1 ajP aez Yc qD ag0 yk xW aix xu agR jz aet aiB xn
end Go.Proofs.YtlpaikjhphkioaaGreat
end
