/- Each operation of the model does what the Av kit says (seventh part: lengths, cuts, made slices, bytes). -/
import Derived.Test.YtphclkkggijicaaGreatDoorB3
set_option linter.unusedVariables false
set_option linter.unusedSimpArgs false
section
namespace Av
open Go
theorem Jc {n:Int} (h1:-9223372036854775808≤n) (h2:n < 9223372036854775808):IntKind.i64.wrap n = n:=by
 have e1:IntKind.i64.bits = 64:=rfl
 have e2:IntKind.i64.signed = true:=rfl
 simp only [IntKind.wrap,e1,e2,zC]
 grind
section
variable {C:Ctx} {w:World} {Z:Nat→Nat→Prop} {μ:Nat→Option Cn} {o:Nat→Option Ob} {b:Nat} {r:Opd→V}
theorem anV (hg:Good C w Z μ o) {ts:Array TypeId} {ty t:TypeId} {cx:Value} {x:Opd} (ht:ts[0]? = some t) (hu:C.P.underlying t = some .string) (hx:Rep w Z μ cx (r x)) :
  OpV C b w Z μ o ((Builtin.len_ ts ty #[cx]).run C.P w) (sem b r (.lenS x)):=by
 intro K h
 simp only [sem] at h
 replace h:=afa hx h
 obtain ⟨s,rfl,h⟩:=h
 exact ⟨_,_,w,Z,μ,by simp [Builtin.len_,ht,run_underlying hu w,goInt],h,.sc rfl,hg,.refl⟩
theorem anW (hg:Good C w Z μ o) {ts:Array TypeId} {ty t e:TypeId} {cx:Value} {x:Opd} (ht:ts[0]? = some t) (hu:C.P.underlying t = some (.slice e)) (hx:Rep w Z μ cx (r x)) :
  OpV C b w Z μ o ((Builtin.len_ ts ty #[cx]).run C.P w) (sem b r (.lenL x)):=by
 have fin:∀ a n c {K:E→Prop},cx = .slice a n c→K { v:=.int n } →
   ∃ e v w' Z' μ',(Builtin.len_ ts ty #[cx]).run C.P w = .ok v w'∧K e∧Rep w' Z' μ' v e.v∧Good C w' Z' μ' (xv o e.os)∧Evo b KK w Z μ w' Z' μ' :=
  fun a n c K hc hk=>⟨_,_,w,Z,μ,by rw [hc];simp [Builtin.len_,ht,run_underlying hu w,goInt],hk,.sc rfl,hg,.refl⟩
 intro K h
 simp only [sem] at h
 split at h
 ·rename_i h1;rw [h1] at hx
  obtain ⟨a,cap,h2,_⟩:=hx.slE
  exact fin _ _ _ h2 h
 ·rename_i h1;rw [h1] at hx
  obtain ⟨c,hm,hh⟩:=hx.hdE
  unfold Hdr at hh;split at hh
  ·obtain ⟨h2,h3,h4⟩:=hh
   subst h4
   exact fin _ _ _ h2 h
  ·obtain ⟨ad,h2,_⟩:=hh
   exact fin _ _ _ h2 h
 ·rename_i h1;rw [h1] at hx
  exact fin _ _ _ hx.scE.1 h
 ·exact h.elim
theorem anX (hg:Good C w Z μ o) {ts:Array TypeId} {ty t e:TypeId} {n:Nat} {cx:Value} {x:Opd} (ht:ts[0]? = some t) (hu:C.P.underlying t = some (.array n e)) :
  OpV C b w Z μ o ((Builtin.len_ ts ty #[cx]).run C.P w) (sem b r (.lenC n x)):=fun _ hk=>hk.elim
theorem akm {P:Program} (isSlice:Bool) (len cap:Nat) (lo hi:Option Value) (l h:Nat) (hlo:lo = none∧l = 0∨∃ k,lo = some (.int k l)) (hhi:hi = none∧h = len∨∃ k,hi = some (.int k h))
  (h1:l≤h) (h2:h≤len) (h3:len≤cap):(Instr.sliceBounds isSlice len cap lo hi none).run P w = .ok (l,h,cap) w:=by
 rcases hlo with ⟨rfl,rfl⟩|⟨k,rfl⟩<;>rcases hhi with ⟨rfl,rfl⟩|⟨k',rfl⟩ <;>
  simp [Instr.sliceBounds,Instr.sliceBound,Kw,h1,show h≤cap by omega]
 all_goals (try (have:(h:Int)≤cap:=by omega);simp_all)
theorem ajv {ρ:Operand→Value} (hρ:∀ x x',opd x = some x'→Rep w Z μ (ρ x) (r x')) {x:Option Operand} {x':Option Opd} (h:amb x = some x') :
  (x = none∧x' = none)∨∃ y y',x = some y∧x' = some y'∧Rep w Z μ (ρ y) (r y'):=by
 cases x with
 | none=>grind [amb]
 | some y =>
   simp only [amb,ze] at h
   grind
theorem wt {α:Type} {ρ:Operand→Value} (hρ:∀ x x',opd x = some x'→Rep w Z μ (ρ x) (r x')) {lo hi:Option Operand} {lo' hi':Option Opd} (h1:amb lo = some lo') (h2:amb hi = some hi')
  {n:Nat} {k:Int→Int→AM α} {K:α→Prop}
  (h:(AM.int ((lo'.map r).getD (.int 0)) fun l=>AM.int ((hi'.map r).getD (.int n)) fun h=>k l h).wp o K) :
  ∃ l h:Int,(k l h).wp o K∧(lo.map ρ = none∧l = 0∨∃ kd,lo.map ρ = some (.int kd l))∧(hi.map ρ = none∧h = n∨∃ kd,hi.map ρ = some (.int kd h)):=by
 have first:∃ l:Int,(AM.int ((hi'.map r).getD (.int n)) fun h=>k l h).wp o K∧(lo.map ρ = none∧l = 0∨∃ kd,lo.map ρ = some (.int kd l)):=by
  rcases ajv hρ h1 with ⟨rfl,rfl⟩|⟨y,y',rfl,rfl,hr⟩
  ·exact ⟨0,h,.inl ⟨rfl,rfl⟩⟩
  grind [wY]
 obtain ⟨l,h,hl⟩:=first
 rcases ajv hρ h2 with ⟨rfl,rfl⟩|⟨y,y',rfl,rfl,hr⟩
 ·exact ⟨l,n,h,hl,.inl ⟨rfl,rfl⟩⟩
 grind [wY]
theorem acD {P:Program} (isSlice:Bool) (len cap:Nat) (lo hi:Option Value) (l h:Int) (hlo:lo = none∧l = 0∨∃ k,lo = some (.int k l)) (hhi:hi = none∧h = len∨∃ k,hi = some (.int k h))
  (h0:0≤l) (h1:l≤h) (h2:h≤len) (h3:len≤cap):(Instr.sliceBounds isSlice len cap lo hi none).run P w = .ok (l.toNat,h.toNat,cap) w:=by
 grind [Int.eq_ofNat_of_zero_le,Int.toNat_natCast,akm,id]
theorem al2 (hg:Good C w Z μ o) {t:TypeId} (hu:C.P.underlying t = some .string) {ρ:Operand→Value} (hρ:∀ x x',opd x = some x'→Rep w Z μ (ρ x) (r x')) {lo hi:Option Operand} {lo' hi':Option Opd}
  (h1:amb lo = some lo') (h2:amb hi = some hi') {cx:Value} {x:Opd} (hx:Rep w Z μ cx (r x)) :
  OpV C b w Z μ o ((Instr.sliceAt t cx (lo.map ρ) (hi.map ρ) none).run C.P w) (sem b r (.slstr x lo' hi')):=by
 intro K h
 simp only [sem] at h
 replace h:=afa hx h
 obtain ⟨s,rfl,h⟩:=h
 obtain ⟨l,hh,⟨⟨q0,q1,q2⟩,h⟩,hl,hhi⟩:=wt hρ h1 h2 h
 refine ⟨_,.string (s.extract l.toNat hh.toNat),w,Z,μ,?_,h,.sc rfl,hg,.refl⟩
 simp only [Instr.sliceAt,Sem.run_bind,run_underlying hu w,Result.andThen_ok,Instr.slice,Option.isSome_none,zk,if_false]
 rw [acD (P:=C.P) (w:=w) false s.size s.size (lo.map ρ) (hi.map ρ) l hh hl hhi q0 q1 q2 (zi _)]
 rfl
theorem anQ (hg:Good C w Z μ o) {t e:TypeId} {sz:Nat} (hu:C.P.underlying t = some (.slice e)) (he:Js C.P e = some sz) {ρ:Operand→Value} (hρ:∀ x x',opd x = some x'→Rep w Z μ (ρ x) (r x')) {lo hi:Option Operand} {lo' hi':Option Opd}
  (h1:amb lo = some lo') (h2:amb hi = some hi') {cx:Value} {x:Opd} (hx:Rep w Z μ cx (r x)) :
  OpV C b w Z μ o ((Instr.sliceAt t cx (lo.map ρ) (hi.map ρ) none).run C.P w) (sem b r (.slsl sz x lo' hi')):=by
 have hrun:∀ a (len cap:Nat) (l hh:Int),(lo.map ρ = none∧l = 0∨∃ kd,lo.map ρ = some (.int kd l))→(hi.map ρ = none∧hh = len∨∃ kd,hi.map ρ = some (.int kd hh))→0≤l→l≤hh→hh≤len→len≤cap →
   (Instr.sliceAt t (.slice a len cap) (lo.map ρ) (hi.map ρ) none).run C.P w = .ok (.slice (if cap = l.toNat then a else a.map (·.add (l.toNat * sz))) (hh.toNat - l.toNat) (cap - l.toNat)) w:=by
  intro a len cap l hh hl hhi q0 q1 q2 q3
  simp only [Instr.sliceAt,Sem.run_bind,run_underlying hu w,Result.andThen_ok,Instr.slice]
  rw [acD (P:=C.P) (w:=w) true len cap (lo.map ρ) (hi.map ρ) l hh hl hhi q0 q1 q2 q3]
  simp only [Result.andThen_ok,Yb he w,Sem.run_pure]
 intro K h
 simp only [sem] at h
 split at h
 ·rename_i a off len hv;rw [hv] at hx
  obtain ⟨c,hm,hh⟩:=hx.hdE
  obtain ⟨ob,hoa,h⟩:=h
  dsimp only at h
  split at h
  ·rename_i wr s xs
   obtain ⟨hs,h⟩:=h
   obtain ⟨l,hh',⟨⟨q0,q1,q2⟩,h⟩,hl,hhi⟩:=wt hρ h1 h2 h
   obtain ⟨c',hm',hok,_⟩:=hg.ob a _ hoa
   rw [hm] at hm';cases hm'
   obtain ⟨hlen,hok⟩:=hok
   by_cases hvd:c.void = true
   ·have hh2:=hh
    simp only [Hdr,if_pos hvd] at hh2
    obtain ⟨rfl,rfl,rfl⟩:=hh2
    have:l = 0:=by omega
    subst this
    have:hh' = 0:=by omega
    subst this
    refine ⟨_,_,w,Z,μ,hrun none 0 0 0 0 hl (by simpa using hhi) (by omega) (by omega) (by omega) (by omega),h,.hd hm ?_,hg,.refl⟩
    grind
   ·have hv:c.void = false:=by simpa using hvd
    have hh2:=hh
    simp only [Hdr,hv,zk,if_false] at hh2
    obtain ⟨ad,rfl,h3,h4,h5⟩:=hh2
    obtain ⟨h6,h7,_⟩:=hok hv
    have hsz:0 < len→c.sz = sz:=by
     grind
    refine ⟨_,_,w,Z,μ,hrun (some ad) len (c.cap - off) l hh' hl hhi q0 q1 q2 (by omega),h,.hd hm ?_,hg,.refl⟩
    simp only [Hdr,hv,zk,if_false]
    by_cases hc:c.cap - off = l.toNat
    ·rw [if_pos hc]
     exact ⟨ad,by congr 1;omega,by omega,by omega,fun hlt=>by omega⟩
    ·rw [if_neg hc]
     refine ⟨ad.add (l.toNat * sz),by simp;omega,by omega,by omega,fun hlt=>?_⟩
     rw [h5 (by omega),Vp]
     by_cases hl0:l.toNat = 0
     ·simp [hl0]
     grind
  ·rename_i wr s xs
   obtain ⟨hs,h⟩:=h
   obtain ⟨l,hh',⟨⟨q0,q1,q2⟩,h⟩,hl,hhi⟩:=wt hρ h1 h2 h
   obtain ⟨c',hm',hok,_⟩:=hg.ob a _ hoa
   rw [hm] at hm';cases hm'
   obtain ⟨hlen,hok⟩:=hok
   by_cases hvd:c.void = true
   ·have hh2:=hh
    simp only [Hdr,if_pos hvd] at hh2
    obtain ⟨rfl,rfl,rfl⟩:=hh2
    have:l = 0:=by omega
    subst this
    have:hh' = 0:=by omega
    subst this
    refine ⟨_,_,w,Z,μ,hrun none 0 0 0 0 hl (by simpa using hhi) (by omega) (by omega) (by omega) (by omega),h,.hd hm ?_,hg,.refl⟩
    grind
   ·have hv:c.void = false:=by simpa using hvd
    have hh2:=hh
    simp only [Hdr,hv,zk,if_false] at hh2
    obtain ⟨ad,rfl,h3,h4,h5⟩:=hh2
    obtain ⟨h6,h7,_⟩:=hok hv
    have hsz:0 < len→c.sz = sz:=by
     grind
    refine ⟨_,_,w,Z,μ,hrun (some ad) len (c.cap - off) l hh' hl hhi q0 q1 q2 (by omega),h,.hd hm ?_,hg,.refl⟩
    simp only [Hdr,hv,zk,if_false]
    by_cases hc:c.cap - off = l.toNat
    ·rw [if_pos hc]
     exact ⟨ad,by congr 1;omega,by omega,by omega,fun hlt=>by omega⟩
    ·rw [if_neg hc]
     refine ⟨ad.add (l.toNat * sz),by simp;omega,by omega,by omega,fun hlt=>?_⟩
     rw [h5 (by omega),Vp]
     by_cases hl0:l.toNat = 0
     ·simp [hl0]
     grind
  ·exact h.elim
 ·rename_i s xs hv;rw [hv] at hx
  obtain ⟨a,cap,rfl,hcap,hne⟩:=hx.slE
  obtain ⟨hs,h⟩:=h
  obtain ⟨l,hh',⟨⟨q0,q1,q2⟩,h⟩,hl,hhi⟩:=wt hρ h1 h2 h
  refine ⟨_,_,w,Z,μ,hrun a xs.length cap l hh' hl hhi q0 q1 q2 hcap,h,?_,hg,.refl⟩
  have hlen:((xs.drop l.toNat).take (hh'.toNat - l.toNat)).length = hh'.toNat - l.toNat:=by simp;omega
  by_cases hz:hh'.toNat - l.toNat = 0
  ·rw [hz];simp only [List.take_zero];exact .sl0
  ·obtain ⟨bb,oo,rfl,hrow,hzz⟩:=hne (by grind)
   rw [if_neg (by omega)]
   simp only [Option.map_some,Vp]
   have hsz:s = sz:=by
    grind
   subst hsz
   have hrow':=(hrow.drop l.toNat).take (hh'.toNat - l.toNat)
   have key:∀ i (hi:i < ((xs.drop l.toNat).take (hh'.toNat - l.toNat)).length) j,j < ((xs.drop l.toNat).take (hh'.toNat - l.toNat))[i].cells.length→∃ u,w.cell? ⟨bb,oo + l.toNat * s + (i * s + j),none⟩ = some u∧u.oneCell' = true ∧
     Z bb (oo + l.toNat * s + (i * s + j))∧∀ (hj:j < ((xs.drop l.toNat).take (hh'.toNat - l.toNat))[i].cells.length),Rep w Z noμ u ((xs.drop l.toNat).take (hh'.toNat - l.toNat))[i].cells[j]:=by
    intro i hi j hj
    obtain ⟨u,e1,e2,e3⟩:=(hrow' i hi).2 j hj
    refine ⟨u,by rw [← e1,ko],e2,?_,fun _=>e3⟩
    have hi2:l.toNat + i < xs.length:=by grind
    grind
   have hf:∀ i j,∃ u,∀ (hi:i < ((xs.drop l.toNat).take (hh'.toNat - l.toNat)).length),j < ((xs.drop l.toNat).take (hh'.toNat - l.toNat))[i].cells.length→w.cell? ⟨bb,oo + l.toNat * s + (i * s + j),none⟩ = some u∧u.oneCell' = true ∧
     Z bb (oo + l.toNat * s + (i * s + j))∧∀ (hj:j < ((xs.drop l.toNat).take (hh'.toNat - l.toNat))[i].cells.length),Rep w Z noμ u ((xs.drop l.toNat).take (hh'.toNat - l.toNat))[i].cells[j]:=by
    intro i j
    by_cases hi:i < ((xs.drop l.toNat).take (hh'.toNat - l.toNat)).length
    ·by_cases hj:j < ((xs.drop l.toNat).take (hh'.toNat - l.toNat))[i].cells.length
     ·obtain ⟨u,hu⟩:=key i hi j hj
      exact ⟨u,fun _ _=>hu⟩
     ·exact ⟨undef,by grind⟩
    ·exact ⟨undef,by grind⟩
   rw [show hh'.toNat - l.toNat = ((xs.drop l.toNat).take (hh'.toNat - l.toNat)).length from hlen.symm]
   rw [show ((xs.drop l.toNat).take ((xs.drop l.toNat).take (hh'.toNat - l.toNat)).length) = (xs.drop l.toNat).take (hh'.toNat - l.toNat) by rw [hlen]]
   refine Rep.sl (sz:=s) (fun i j=>(hf i j).choose) (by omega) (fun i hi=>(hrow' i hi).1) (fun i hi j hj=>?_) (fun i hi j hj=>?_)
   ·grind
   grind
 ·exact h.elim
theorem aiB (hg:Good C w Z μ o) (hf:∀ x,b≤x→x < b + KK→μ x = none) (hm:C.m≤b) {t e:TypeId} {sz by_:Nat} {ag:Bool} {z:Value} (hu:C.P.underlying t = some (.slice e)) (he:Js C.P e = some sz) (hb:abE C.P e = some by_) (hz:KT C.P e = some z)
  (hzs:z.cells.size = sz) (h1:ag = false→sz = 1) (hone:∀ u∈z.cells.toList,u.oneCell' = true) {cl cc:Value} {l c:Opd} (hl:Rep w Z μ cl (r l)) (hc:Rep w Z μ cc (r c)) :
  OpV C b w Z μ o ((Instr.makeSlice t cl cc).run C.P w) (sem b r (.mkslice sz by_ ag z.cells.toList l c)):=fun _ hk=>hk.elim
end
end Av
end
