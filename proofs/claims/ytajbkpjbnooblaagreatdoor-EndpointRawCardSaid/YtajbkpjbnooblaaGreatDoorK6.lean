/- Each operation of the model does what the Av kit says (eleventh part: appends, copies, comparisons of structs). -/
import Derived.Test.YtajbkpjbnooblaaGreatDoorK5
import Derived.Laws.StructEq
set_option linter.unusedVariables false
set_option linter.unusedSimpArgs false
section
namespace Av
open Go
section
variable {C:Ctx} {w:World} {Z:Nat→Nat→Prop} {μ:Nat→Option Cn} {o:Nat→Option Ob} {b:Nat} {r:Opd→V}
theorem aqy {α:Type} (f:Nat→α) (a:Nat) (x:α) (h:f a = x):upd f a x = f:=by
 funext b;simp only [upd];split
 ·rename_i hb;subst hb;exact h.symm
 ·rfl
theorem ant (hg:Good C w Z μ o) (hf:∀ x,b≤x→x < b + KK→μ x = none) (hm:C.m≤b) {ts:Array TypeId} {ty st xt e:TypeId} {sz by_:Nat} {z:Value} {zs:List Value} (T:Tgt C.P ts st xt e sz by_ z)
  {cx cy:Value} {x y:Opd} (hx:Rep w Z μ cx (r x)) (hy:Rep w Z μ cy (r y)) :
  OpV C b w Z μ o ((Builtin.append_ ts ty #[cx,cy]).run C.P w) (sem b r (.append sz by_ zs x y)):=by
 intro K h
 simp only [sem] at h
 obtain ⟨op,ys,a,cap,rfl,h,hne⟩:=anc hg hy h
 obtain ⟨_,h⟩:=h
 cases op with
 | false =>
   simp only [Bool.false_eq_true,if_false] at hne
   obtain ⟨L,f1,f2,f3,f4⟩:=qS (C:=C) (cap:=cap) hne ys.length (Nat.le_refl _)
   rw [List.take_length] at f4
   have S:Src C w Z sz ys.length (.slice a ys.length cap) ys L:=⟨rfl,f1,f2,f3,f4,rfl⟩
   have SO:asy C w Z μ sz ys.length (.slice a ys.length cap) ys L:=⟨rfl,f1,f2,f3,f4.mono (fun _ _ h=>h.lift),rfl⟩
   split at h
   ·rename_i n off len h1;rw [h1] at hx
    obtain ⟨ob,hoa,h⟩:=h
    dsimp only at h
    split at h
    ·rename_i wr s xs
     obtain ⟨⟨rfl,htip,hs,_⟩,h⟩:=h
     obtain ⟨v,w',μ',e1,e2,e3,e4,_⟩:=alE (ty:=ty) hg hf hm T S hx hoa htip hs
     exact ⟨_,v,w',Z,μ',e1,h,e2,e3,e4⟩
    ·rename_i wr s xs
     obtain ⟨⟨rfl,htip,hs,_⟩,h⟩:=h
     obtain ⟨v,w',μ',e1,e2,e3,e4,_⟩:=agK (ty:=ty) hg hf hm T SO hx hoa htip hs
     exact ⟨_,v,w',Z,μ',e1,h,e2,e3,e4⟩
    ·exact h.elim
   ·rename_i h1;rw [h1] at hx
    obtain ⟨rfl,_⟩:=hx.scE
    obtain ⟨v,w',μ',e1,e2,e3,e4,_⟩:=append_nil (ty:=ty) hg hf hm T S h.1.1
    exact ⟨_,v,w',Z,μ',e1,h.2,e2,e3,e4⟩
   ·exact h.elim
 | true =>
   simp only [if_true] at hne
   obtain ⟨L,f1,f2,f3,f4⟩:=qS (C:=C) (cap:=cap) hne ys.length (Nat.le_refl _)
   rw [List.take_length] at f4
   have SO:asy C w Z μ sz ys.length (.slice a ys.length cap) ys L:=⟨rfl,f1,f2,f3,f4,rfl⟩
   split at h
   ·rename_i n off len h1;rw [h1] at hx
    obtain ⟨ob,hoa,h⟩:=h
    dsimp only at h
    split at h
    ·rename_i wr s xs
     obtain ⟨⟨rfl,htip,hs,_⟩,h⟩:=h
     obtain ⟨v,w',μ',e1,e2,e3,e4,_⟩:=agK (ty:=ty) (hg.open hoa) hf hm T SO hx (Qs _ _ _) htip hs
     rw [ab9] at e3
     exact ⟨_,v,w',Z,μ',e1,h,e2,e3,e4⟩
    ·rename_i wr s xs
     obtain ⟨⟨rfl,htip,hs,_⟩,h⟩:=h
     obtain ⟨v,w',μ',e1,e2,e3,e4,_⟩:=agK (ty:=ty) hg hf hm T SO hx hoa htip hs
     exact ⟨_,v,w',Z,μ',e1,h,e2,e3,e4⟩
    ·exact h.elim
   ·rename_i h1;rw [h1] at hx
    obtain ⟨rfl,_⟩:=hx.scE
    obtain ⟨v,w',μ',e1,e2,e3,e4,_⟩:=aiM (ty:=ty) hg hf hm T SO h.1.1
    exact ⟨_,v,w',Z,μ',e1,h.2,e2,e3,e4⟩
   ·exact h.elim
theorem alY (hg:Good C w Z μ o) (hf:∀ x,b≤x→x < b + KK→μ x = none) (hm:C.m≤b) {ts:Array TypeId} {ty st xt e:TypeId} {z:Value} (T:Tgt C.P ts st xt e 1 1 z)
  {cx cy:Value} {x y:Opd} (hx:Rep w Z μ cx (r x)) (hy:Rep w Z μ cy (r y)) :
  OpV C b w Z μ o ((Builtin.append_ ts ty #[cx,cy]).run C.P w) (sem b r (.appendS e x y)):=by
 intro K h
 simp only [sem] at h
 replace h:=af5 hy h
 obtain ⟨t,rfl,h⟩:=h
 have S:Src C w Z 1 t.size (.string t) (t.data.toList.map fun c=>.sc (.int .u8 c.toNat)) (t.data.toList.map fun c=>Value.int .u8 c.toNat):=by
  refine ⟨rfl,fun w1 _=>?_,by simp,?_,amY _ _ (fun k hk=>by simp at hk;simp [hk]),by simp⟩
  ·simp only [Builtin.firstCells,Sem.run_pure,ByteArray.extract_zero_size]
   congr 1
   apply Array.ext'
   simp
  ·intro u hu
   simp only [List.mem_map] at hu
   obtain ⟨c,_,rfl⟩:=hu
   rfl
 split at h
 ·rename_i n off len h1;rw [h1] at hx
  obtain ⟨ob,hoa,h⟩:=h
  dsimp only at h
  split at h
  ·rename_i e' wr s xs
   obtain ⟨⟨rfl,rfl,rfl,htip,hs⟩,h⟩:=h
   have hty:apC w μ n e':=by
    intro c hc
    obtain ⟨c',hm',hok,_⟩:=hg.ob n _ hoa
    rw [hc] at hm';cases hm'
    exact ⟨hok.2.1,hok.2.2⟩
   have hnb:b≠n:=by
    rintro rfl
    obtain ⟨c,hc,_⟩:=hg.ob b _ hoa
    rw [hf b (Nat.le_refl _) (by simp [KK])] at hc;cases hc
   obtain ⟨v,w',μ',e1,e2,e3,e4,e5⟩:=alE (ty:=ty) (hg.untyp hoa) hf hm T S hx (Qs _ _ _) (htip.imp (by intro h;omega) id) (by omega)
   rw [ab9] at e3
   have g:=e3.typ (a:=b) (Qs _ _ _) (e5 hty rfl) (fun c h=>h)
   rw [ab9] at g
   simp only [List.drop_zero] at g
   exact ⟨_,v,w',Z,μ',e1,h,e2,g,e4⟩
  ·exact h.elim
 ·rename_i h1;rw [h1] at hx
  obtain ⟨rfl,_⟩:=hx.scE
  obtain ⟨v,w',μ',e1,e2,e3,e4,e5⟩:=append_nil (ty:=ty) hg hf hm T S (by have:=h.1;omega)
  have g:=e3.typ (a:=b) (Qs _ _ _) e5 (fun c h=>h)
  rw [ab9] at g
  exact ⟨_,v,w',Z,μ',e1,h.2,e2,g,e4⟩
 ·exact h.elim
theorem apS (hg:Good C w Z μ o) {ts:Array TypeId} {ty st e:TypeId} {sz:Nat} (h1:ts[0]? = some st) (h2:C.P.underlying st = some (.slice e)) (h3:XG C.P e = some sz)
  {cx cy:Value} {x y:Opd} (hx:Rep w Z μ cx (r x)) (hy:Rep w Z μ cy (r y)) :
  OpV C b w Z μ o ((Builtin.copy_ ts ty #[cx,cy]).run C.P w) (sem b r (.copy sz x y)):=by
 intro K h
 simp only [sem] at h
 replace h:=akS hg hy h
 obtain ⟨ys,a,cap,rfl,h,hne⟩:=h
 obtain ⟨_,h⟩:=h
 split at h
 ·rename_i n off len hv;rw [hv] at hx
  obtain ⟨ob,hoa,h⟩:=h
  dsimp only at h
  split at h
  ·rename_i s xs
   obtain ⟨hs,h⟩:=h
   obtain ⟨L,f1,f2,f3,f4⟩:=qS (C:=C) (cap:=cap) hne (min ys.length len) (Nat.min_le_left _ _)
   obtain ⟨c,hmu,hh⟩:=hx.hdE
   obtain ⟨c',hm',hok,hlive⟩:=hg.ob n _ hoa
   rw [hmu] at hm';cases hm'
   have hrun:∀ ad dcap w',(∀ q,ad = some q→(storeCells q L).run C.P w = .ok () w')→(ad = none→w' = w) →
     (Builtin.copy_ ts ty #[.slice ad len dcap,.slice a ys.length cap]).run C.P w = .ok (goInt (min ys.length len:Nat)) w':=by
    intro ad dcap w' q1 q2
    have hmin:ys.length.min len = min ys.length len:=rfl
    cases ad with
    | none =>
      rw [q2 rfl]
      simp only [Builtin.copy_,h1,List.getElem?_toArray,List.getElem?_cons_zero,List.getElem?_cons_succ,Sem.run_bind,run_underlying h2 w,Result.andThen_ok,Builtin.lenOf,Sem.run_pure,X6 h3 w,hmin,f1 w rfl]
    | some q =>
      have:=q1 q rfl
      simp only [Builtin.copy_,h1,List.getElem?_toArray,List.getElem?_cons_zero,List.getElem?_cons_succ,Sem.run_bind,run_underlying h2 w,Result.andThen_ok,Builtin.lenOf,Sem.run_pure,X6 h3 w,hmin,f1 w rfl,this]
   by_cases hn:min ys.length len = 0
   ·have hL:L = []:=by rw [hn] at f2;simpa using f2
    have hcx:∃ ad dcap,cx = .slice ad len dcap:=by
     unfold Hdr at hh;split at hh
     ·obtain ⟨h1,_,h3⟩:=hh;subst h3;exact ⟨_,_,h1⟩
     ·obtain ⟨ad,h,_⟩:=hh;exact ⟨_,_,h⟩
    obtain ⟨ad,dcap,rfl⟩:=hcx
    refine ⟨_,_,w,Z,μ,hrun ad dcap w (fun q _=>by rw [hL];rfl) (fun _=>rfl),h,.sc rfl,?_,.refl⟩
    show Good C w Z μ (upd o n (some (.buf true s (xs.take off++ys.take (min ys.length len)++xs.drop (off + min ys.length len)))))
    rw [hn]
    simp only [List.take_zero,List.append_nil,Nat.add_zero,List.take_append_drop]
    rw [aqy _ _ _ hoa];exact hg
   ·cases hvo:c.void with
    | true =>
      obtain ⟨_,_,rfl⟩:=adT hh hvo
      simp at hn
    | false =>
      obtain ⟨ad,rfl,h4,h5,h6⟩:=adU hh hvo
      obtain ⟨hlen,hok⟩:=hok
      obtain ⟨h7,h8,h9,h10,h11,cs,cty,fr,hb,h12,h13,h14⟩:=hok hvo
      have hsz:s = sz:=by
       rcases hs with h|h
       ·exact h
       ·subst h;simp at hlen;omega
      subst hsz
      have had:=h6 (by omega)
      subst had
      have hbd:(off + min ys.length len) * s≤c.cap * s:=Nat.mul_le_mul_right _ (by omega)
      rw [Nat.add_mul] at hbd
      rw [h7] at h12
      obtain ⟨cs',e1,e2,e3,e4⟩:=UN (P:=C.P) c.block cty fr L (c.base + off * s) 0 cs w hb h13 (by rw [f2];omega) f3
      obtain ⟨s1,s2,s3⟩:=jP (w:=w) (ob:=.cells cs' cty fr) (hlive hvo).1
      have hcell:∀ b' i,Z b' i→({ w with heap:=w.heap.setIfInBounds c.block (.cells cs' cty fr) }:World).cell? ⟨b',i,none⟩ = w.cell? ⟨b',i,none⟩:=by
       intro b' i hz
       have:b'≠c.block:=by rintro rfl;exact h9 rfl i hz
       simp only [World.cell?,s3 b' this]
      have hrep:∀ v x,Rep w Z noμ v x→Rep { w with heap:=w.heap.setIfInBounds c.block (.cells cs' cty fr) } Z noμ v x:=fun v x h=>h.mono hcell (fun _ _ h=>h) (fun _ _ h=>h)
      have hold:Row { w with heap:=w.heap.setIfInBounds c.block (.cells cs' cty fr) } Z noμ (fun k=>cs[c.base + k]?) s xs:=fun j hj=>by
       refine ⟨h11 j hj,fun k hk=>?_⟩
       obtain ⟨u,g1,g2,g3⟩:=h14 j hj k hk
       rw [h7] at g1
       exact ⟨u,g1,g2,hrep _ _ g3⟩
      have l1:(xs.take off).length = off:=by simp;omega
      have l2:(ys.take (min ys.length len)).length = min ys.length len:=by simp
      have hrow:Row { w with heap:=w.heap.setIfInBounds c.block (.cells cs' cty fr) } Z noμ (fun k=>cs'[c.base + k]?) s (xs.take off++ys.take (min ys.length len)++xs.drop (off + min ys.length len)):=by
       refine Row.append (Row.append ((hold.take off).congr (fun k hk=>?_)) ((f4.mono hrep).congr (fun k hk=>?_))) ((hold.drop (off + min ys.length len)).congr (fun k hk=>?_))
       ·rw [l1] at hk;exact e4 _ (.inl (by omega))
       ·rw [l2] at hk
        rw [l1]
        have:=e3 k (by rw [f2];exact hk)
        rw [← this];congr 1;omega
       ·simp only [List.length_append,l1,l2]
        exact e4 _ (.inr (by rw [f2,Nat.add_mul];omega))
      refine ⟨_,_,_,Z,μ,hrun (some ⟨c.block,c.base + off * c.sz,none⟩) _ _ (fun q hq=>by cases hq;rw [h7];exact e1) (fun hq=>by cases hq),h,.sc rfl,?_,⟨hcell,fun _ _ h=>h,fun _ _ h=>h,fun _ _=>rfl⟩⟩
      refine hg.write hoa hmu hvo s3 s1 (fun i hz=>(h9 rfl i hz).elim) ⟨by simp only [List.length_append,l1,l2,List.length_drop];omega,fun _=>⟨h7,h8,fun _=>h9 rfl,h10,fun j hj=>(hrow j hj).1,cs',cty,fr,s2,by rw [h7];omega,by rw [e2];exact h13,fun j hj k hk=>?_⟩⟩
      obtain ⟨u,g1,g2,g3⟩:=(hrow j hj).2 k hk
      rw [h7]
      exact ⟨u,g1,g2,g3⟩
  ·exact h.elim
 ·exact h.elim
end
end Av
end
section
namespace Av
open Go
section
variable {C:Ctx} {w:World} {Z:Nat→Nat→Prop} {μ:Nat→Option Cn} {o:Nat→Option Ob} {b:Nat} {r:Opd→V}
theorem aqC (hg:Good C w Z μ o) {mx:Bool} {ts:Array TypeId} {ty:TypeId} {ρ:Operand→Value} (hρ:∀ x x',opd x = some x'→Rep w Z μ (ρ x) (r x')) {as:Array Operand} {xs:List Opd} (h:opds as.toList = some xs) :
  OpV C b w Z μ o ((if mx then Builtin.max_ ts ty (as.map ρ) else Builtin.min_ ts ty (as.map ρ)).run C.P w) (sem b r (.mm mx xs)):=by
 intro K hk
 obtain ⟨h1,h2⟩:=adQ hρ h
 simp only [sem] at hk
 split at hk
 ·rename_i k n rest hxs
  split at hk
  ·rename_i hall
   have hlen:(as.toList.map ρ).length = rest.length + 1:=by
    have:(xs.map r).length = rest.length + 1:=by rw [hxs];rfl
    simp only [List.length_map] at this ⊢
    omega
   have hrep:∀ j (hj:j < (as.toList.map ρ).length) (hj':j < (xs.map r).length),Rep w Z μ (as.toList.map ρ)[j] (xs.map r)[j]:=by
    intro j hj hj'
    simp only [List.length_map] at hj hj'
    simpa using h2 j hj hj'
   cases hv:as.toList.map ρ with
   | nil=>rw [hv] at hlen;simp at hlen
   | cons v vs =>
     have hv0:v = .int k n:=by
      have:=hrep 0 (by rw [hlen];omega) (by rw [hxs];simp)
      simp only [hv,hxs,List.getElem_cons_zero] at this
      exact this.scE.1
     subst hv0
     have hvs:∀ j (hj:j < vs.length) (hj':j < rest.length),Rep w Z μ vs[j] rest[j]:=by
      intro j hj hj'
      have:=hrep (j + 1) (by rw [hlen];omega) (by rw [hxs];simp;omega)
      simp only [hv,hxs,List.getElem_cons_succ] at this
      exact this
     have hvl:vs.length = rest.length:=by rw [hv] at hlen;simpa using hlen
     have key:∀ (vs:List Value) (rest:List V) (n:Int),vs.length = rest.length→(∀ j (hj:j < vs.length) (hj':j < rest.length),Rep w Z μ vs[j] rest[j])→rest.all (adP k) = true →
       (vs.foldlM (if mx then Builtin.max2 else Builtin.min2) (.int k n)).run C.P w = .ok (.int k (rest.foldl (ak8 mx) n)) w:=by
      intro vs
      induction vs with
      | nil=>intro rest n hl _ _;cases rest with
        | nil=>rfl
        | cons _ _=>simp at hl
      | cons v vs ih =>
        intro rest n hl hr ha
        cases rest with
        | nil=>simp at hl
        | cons x rest =>
          simp only [List.all_cons,Bool.and_eq_true] at ha
          have h0:=hr 0 (by simp) (by simp)
          simp only [List.getElem_cons_zero] at h0
          have hx:∃ y,x = .sc (.int k y):=by
           have:=ha.1
           cases x with
           | sc u=>cases u with
             | int k' y=>simp only [adP,beq_iff_eq] at this;exact ⟨y,by rw [this]⟩
             | _=>simp [adP] at this
           | _=>simp [adP] at this
          obtain ⟨y,rfl⟩:=hx
          obtain ⟨rfl,_⟩:=h0.scE
          have step:((if mx then Builtin.max2 else Builtin.min2) (.int k n) (.int k y)).run C.P w = .ok (.int k (ak8 mx n (.sc (.int k y)))) w:=by
           cases mx<;>simp [Builtin.max2,Builtin.min2,ak8]
          simp only [List.foldlM_cons,Sem.run_bind,step,Result.andThen_ok,List.foldl_cons]
          exact ih rest _ (by simpa using hl) (fun j hj hj'=>by
           have:=hr (j + 1) (by simpa using hj) (by simpa using hj')
           simpa using this) ha.2
     refine ⟨_,_,w,Z,μ,?_,hk,.sc rfl,hg,.refl⟩
     have hk':=key vs rest n hvl hvs hall
     have hm:(as.map ρ).toList = .int k n :: vs:=by rw [Array.toList_map];exact hv
     cases mx with
     | true=>simp only [if_true] at hk' ⊢;simp only [Builtin.max_,hm];exact hk'
     | false=>simp only [Bool.false_eq_true,if_false] at hk' ⊢;simp only [Builtin.min_,hm];exact hk'
  ·exact hk.elim
 ·exact hk.elim
def Xg:List Nat→List Value→List Value→Option Bool
 | [],[],[]=>some true
 | 0 :: ks,.int k a :: xs,.int k' b :: ys=>if k = k' then (Xg ks xs ys).map ((a == b) && ·) else none
 | 1 :: ks,.string a :: xs,.string b :: ys=>(Xg ks xs ys).map ((a == b) && ·)
 | 2 :: ks,.bool a :: xs,.bool b :: ys=>(Xg ks xs ys).map ((a == b) && ·)
 | _,_,_=>none
theorem adq:∀ (ks:List Nat) (vxs vys:List V) (t:Bool) (xs ys:List Value),Ww ks vxs vys = some t→xs.length = vxs.length→ys.length = vys.length →
  (∀ j (h:j < xs.length) (h':j < vxs.length),Rep w Z μ xs[j] vxs[j])→(∀ j (h:j < ys.length) (h':j < vys.length),Rep w Z μ ys[j] vys[j])→Xg ks xs ys = some t:=by
 intro ks
 induction ks with
 | nil =>
   intro vxs vys t xs ys h h1 h2 _ _
   unfold Ww at h
   split at h
   ·simp at h1 h2;subst h1;subst h2;exact h
   ·simp_all
   ·simp_all
   ·simp_all
   ·cases h
 | cons k ks ih =>
   intro vxs vys t xs ys h h1 h2 h3 h4
   unfold Ww at h
   split at h
   ·simp_all
   ·rename_i ks' k a vxs' k' c vys' e1
    cases e1
    cases xs with
    | nil=>simp at h1
    | cons x xs =>
      cases ys with
      | nil=>simp at h2
      | cons y ys =>
        have r1:=h3 0 (by simp) (by simp)
        have r2:=h4 0 (by simp) (by simp)
        simp only [List.getElem_cons_zero] at r1 r2
        obtain ⟨rfl,_⟩:=r1.scE
        obtain ⟨rfl,_⟩:=r2.scE
        split at h
        ·rename_i hkk
         simp only [Option.map_eq_some_iff] at h
         obtain ⟨t',e,rfl⟩:=h
         have:=ih vxs' vys' t' xs ys e (by simpa using h1) (by simpa using h2) (fun j hj hj'=>by have:=h3 (j + 1) (by simpa using hj) (by simpa using hj');simp only [List.getElem_cons_succ] at this;exact this) (fun j hj hj'=>by have:=h4 (j + 1) (by simpa using hj) (by simpa using hj');simp only [List.getElem_cons_succ] at this;exact this)
         simp [Xg,hkk,this]
        ·cases h
   ·rename_i ks' a vxs' c vys' e1
    cases e1
    cases xs with
    | nil=>simp at h1
    | cons x xs =>
      cases ys with
      | nil=>simp at h2
      | cons y ys =>
        have r1:=h3 0 (by simp) (by simp)
        have r2:=h4 0 (by simp) (by simp)
        simp only [List.getElem_cons_zero] at r1 r2
        obtain ⟨rfl,_⟩:=r1.scE
        obtain ⟨rfl,_⟩:=r2.scE
        simp only [Option.map_eq_some_iff] at h
        obtain ⟨t',e,rfl⟩:=h
        have:=ih vxs' vys' t' xs ys e (by simpa using h1) (by simpa using h2) (fun j hj hj'=>by have:=h3 (j + 1) (by simpa using hj) (by simpa using hj');simp only [List.getElem_cons_succ] at this;exact this) (fun j hj hj'=>by have:=h4 (j + 1) (by simpa using hj) (by simpa using hj');simp only [List.getElem_cons_succ] at this;exact this)
        simp [Xg,this]
   ·rename_i ks' a vxs' c vys' e1
    cases e1
    cases xs with
    | nil=>simp at h1
    | cons x xs =>
      cases ys with
      | nil=>simp at h2
      | cons y ys =>
        have r1:=h3 0 (by simp) (by simp)
        have r2:=h4 0 (by simp) (by simp)
        simp only [List.getElem_cons_zero] at r1 r2
        obtain ⟨rfl,_⟩:=r1.scE
        obtain ⟨rfl,_⟩:=r2.scE
        simp only [Option.map_eq_some_iff] at h
        obtain ⟨t',e,rfl⟩:=h
        have:=ih vxs' vys' t' xs ys e (by simpa using h1) (by simpa using h2) (fun j hj hj'=>by have:=h3 (j + 1) (by simpa using hj) (by simpa using hj');simp only [List.getElem_cons_succ] at this;exact this) (fun j hj hj'=>by have:=h4 (j + 1) (by simpa using hj) (by simpa using hj');simp only [List.getElem_cons_succ] at this;exact this)
        simp [Xg,this]
   ·cases h
theorem afP:∀ (k1:List Nat) (k2:List Nat) (xs ys:List Value) (t:Bool),Xg (k1++k2) xs ys = some t →
  ∃ t1 t2,Xg k1 (xs.take k1.length) (ys.take k1.length) = some t1∧Xg k2 (xs.drop k1.length) (ys.drop k1.length) = some t2∧t = (t1 && t2):=by
 intro k1
 induction k1 with
 | nil=>intro k2 xs ys t h;exact ⟨true,t,by simp [Xg],by simpa using h,by simp⟩
 | cons k k1 ih =>
   intro k2 xs ys t h
   simp only [List.cons_append] at h
   unfold Xg at h
   split at h
   ·simp_all
   ·rename_i ks' k a xs' k' c ys' e1
    cases e1
    split at h
    ·rename_i hkk
     simp only [Option.map_eq_some_iff] at h
     obtain ⟨t',e,rfl⟩:=h
     obtain ⟨t1,t2,f1,f2,rfl⟩:=ih _ _ _ _ e
     exact ⟨(a == c) && t1,t2,by simp [Xg,hkk,f1],by simpa using f2,by simp [Bool.and_assoc]⟩
    ·cases h
   ·rename_i ks' a xs' c ys' e1
    cases e1
    simp only [Option.map_eq_some_iff] at h
    obtain ⟨t',e,rfl⟩:=h
    obtain ⟨t1,t2,f1,f2,rfl⟩:=ih _ _ _ _ e
    exact ⟨(a == c) && t1,t2,by simp [Xg,f1],by simpa using f2,by simp [Bool.and_assoc]⟩
   ·rename_i ks' a xs' c ys' e1
    cases e1
    simp only [Option.map_eq_some_iff] at h
    obtain ⟨t',e,rfl⟩:=h
    obtain ⟨t1,t2,f1,f2,rfl⟩:=ih _ _ _ _ e
    exact ⟨(a == c) && t1,t2,by simp [Xg,f1],by simpa using f2,by simp [Bool.and_assoc]⟩
   ·cases h
theorem jz:∀ (ks:List Nat) (xs ys:List Value) (t:Bool),Xg ks xs ys = some t→xs.length = ks.length∧ys.length = ks.length:=by
 intro ks
 induction ks with
 | nil =>
   intro xs ys t h
   unfold Xg at h
   split at h<;>simp_all
 | cons k ks ih =>
   intro xs ys t h
   unfold Xg at h
   split at h
   ·simp_all
   ·rename_i e1
    cases e1
    split at h
    ·simp only [Option.map_eq_some_iff] at h
     obtain ⟨t',e,_⟩:=h
     have:=ih _ _ _ e
     simp [this]
    ·cases h
   ·rename_i e1
    cases e1
    simp only [Option.map_eq_some_iff] at h
    obtain ⟨t',e,_⟩:=h
    have:=ih _ _ _ e
    simp [this]
   ·rename_i e1
    cases e1
    simp only [Option.map_eq_some_iff] at h
    obtain ⟨t',e,_⟩:=h
    have:=ih _ _ _ e
    simp [this]
   ·cases h
theorem afO (P:Program):∀ (d:Nat) (t:TypeId) (ks:List Nat),KC P d t = some ks→XG P t = some ks.length→∀ (m:Nat) (xs ys:Array Value) (off:Nat) (q:Bool),
  Xg ks ((xs.toList.drop off).take ks.length) ((ys.toList.drop off).take ks.length) = some q →
  ∃ p1 p2,(part t xs off).run P w = .ok p1 w∧(part t ys off).run P w = .ok p2 w∧(Op.equalIn (d + m) t p1 p2).run P w = .ok q w:=by
 intro d
 induction d with
 | zero=>intro t ks h;simp [KC] at h
 | succ d ih =>
   intro t ks h hsz m xs ys off q hq
   obtain ⟨hl1,hl2⟩:=jz _ _ _ _ hq
   have one:ks.length = 1→∃ u1 u2,xs[off]? = some u1∧ys[off]? = some u2∧(xs.toList.drop off).take ks.length = [u1]∧(ys.toList.drop off).take ks.length = [u2]:=by
    intro h1
    rw [h1] at hl1 hl2 ⊢
    have a1:off < xs.size:=by simp at hl1;omega
    have a2:off < ys.size:=by simp at hl2;omega
    refine ⟨xs[off],ys[off],Array.getElem?_eq_getElem a1,Array.getElem?_eq_getElem a2,?_,?_⟩
    ·rw [List.drop_eq_getElem_cons (by simpa using a1)];simp
    ·rw [List.drop_eq_getElem_cons (by simpa using a2)];simp
   simp only [KC] at h
   split at h
   ·
    rename_i fs hu
    split at h
    ·cases h
    ·rename_i hst
     have hag:acY P t = some true:=by unfold acY;rw [hu];rfl
     refine ⟨_,_,by rw [Vj hag hsz];rfl,by rw [Vj hag hsz];rfl,?_⟩
     have hfo:P.fieldsOf t = fs:=by unfold Program.fieldsOf;rw [hu]
     rw [show d + 1 + m = (d + m) + 1 by omega,run_equalIn_struct w (d + m) t _ _ (by rw [hfo];exact hu) (by simpa using hst),hfo]
     have e1:(xs.extract off (off + ks.length)).toList = (xs.toList.drop off).take ks.length:=by simp [List.take_drop]
     have e2:(ys.extract off (off + ks.length)).toList = (ys.toList.drop off).take ks.length:=by simp [List.take_drop]
     rw [← e1,← e2] at hq
     generalize xs.extract off (off + ks.length) = xa at hq
     generalize ys.extract off (off + ks.length) = ya at hq
     have fields:∀ (l:List Field) (o':Nat) (ks':List Nat) (q:Bool),arm (KC P d) P l o' = some ks'→Xg ks' ((xa.toList.drop o').take ks'.length) ((ya.toList.drop o').take ks'.length) = some q →
       (Op.eqFields (d + m) xa ya l).run P w = .ok q w:=by
      intro l
      induction l with
      | nil =>
        intro o' ks' q h hq
        simp only [arm,Option.some.injEq] at h
        subst h
        simp [Xg] at hq
        subst hq
        rfl
      | cons f l ihl =>
        intro o' ks' q h hq
        simp only [arm] at h
        split at h
        ·rename_i hcond
         split at h
         ·rename_i a ha
          split at h
          ·rename_i hsa
           simp only [Option.map_eq_some_iff] at h
           obtain ⟨ks2,hks2,rfl⟩:=h
           obtain ⟨t1,t2,f1,f2,rfl⟩:=afP _ _ _ _ _ hq
           simp only [List.take_take,List.length_append,List.drop_take,List.drop_drop] at f1 f2
           rw [Nat.min_eq_left (by omega)] at f1
           rw [show a.length + ks2.length - a.length = ks2.length by omega] at f2
           obtain ⟨p1,p2,g1,g2,g3⟩:=ih f.type a ha hsa m xa ya o' t1 f1
           have:=ihl (o' + a.length) ks2 t2 hks2 f2
           simp only [Op.eqFields,hcond.2,ne_eq,not_false_eq_true,if_true,hcond.1,Sem.run_bind,g1,g2,g3,Result.andThen_ok]
           cases t1 with
           | true=>simpa using this
           | false=>simp
          ·cases h
         ·cases h
        ·cases h
     refine fields fs.toList 0 ks q h ?_
     simp only [List.drop_zero]
     have:xa.toList.length = ks.length:=(jz _ _ _ _ hq).1
     have h2:ya.toList.length = ks.length:=(jz _ _ _ _ hq).2
     rw [List.take_of_length_le (by omega),List.take_of_length_le (by omega)]
     exact hq
   ·rename_i k hu
    simp only [Option.some.injEq] at h;subst h
    have hag:acY P t = some false:=by unfold acY;rw [hu];rfl
    obtain ⟨u1,u2,a1,a2,a3,a4⟩:=one rfl
    rw [a3,a4] at hq
    refine ⟨u1,u2,by rw [Vj hag hsz];simp [a1],by rw [Vj hag hsz];simp [a2],?_⟩
    unfold Xg at hq
    split at hq
    all_goals (try (simp_all;done))
    rename_i e1 e2 e3
    cases e1;cases e2;cases e3
    split at hq
    ·rename_i hkk
     subst hkk
     simp [Xg] at hq
     subst hq
     rw [show d + 1 + m = (d + m) + 1 by omega,run_equalIn_int w (d + m) t _ _ _ _ hu]
    ·cases hq
   ·rename_i hu
    simp only [Option.some.injEq] at h;subst h
    have hag:acY P t = some false:=by unfold acY;rw [hu];rfl
    obtain ⟨u1,u2,a1,a2,a3,a4⟩:=one rfl
    rw [a3,a4] at hq
    refine ⟨u1,u2,by rw [Vj hag hsz];simp [a1],by rw [Vj hag hsz];simp [a2],?_⟩
    unfold Xg at hq
    split at hq
    all_goals (try (simp_all;done))
    rename_i e1 e2 e3
    cases e1;cases e2;cases e3
    simp [Xg] at hq
    subst hq
    have key:∀ d (a c:ByteArray),(Op.equalIn (d + 1) t (.string a) (.string c)).run P w = .ok (a == c) w:=fun d a c=>by simp [Op.equalIn,run_underlying hu w]
    rw [show d + 1 + m = (d + m) + 1 by omega,key]
   ·rename_i hu
    simp only [Option.some.injEq] at h;subst h
    have hag:acY P t = some false:=by unfold acY;rw [hu];rfl
    obtain ⟨u1,u2,a1,a2,a3,a4⟩:=one rfl
    rw [a3,a4] at hq
    refine ⟨u1,u2,by rw [Vj hag hsz];simp [a1],by rw [Vj hag hsz];simp [a2],?_⟩
    unfold Xg at hq
    split at hq
    all_goals (try (simp_all;done))
    rename_i e1 e2 e3
    cases e1;cases e2;cases e3
    simp [Xg] at hq
    subst hq
    have key:∀ d (a c:Bool),(Op.equalIn (d + 1) t (.bool a) (.bool c)).run P w = .ok (a == c) w:=fun d a c=>by simp [Op.equalIn,run_underlying hu w]
    rw [show d + 1 + m = (d + m) + 1 by omega,key]
   ·cases h
theorem ak5 (hg:Good C w Z μ o) {t:TypeId} {neg:Bool} {fs:Array Field} {ks:List Nat} {x y:Operand} {cx cy:Value} {x' y':Opd} (hu:C.P.underlying t = some (.struct fs)) (hk:KC C.P 20 t = some ks) (hsz:XG C.P t = some ks.length)
  (hgd:C.P.eqGuardType C.P.depth t = false) (hx:Rep w Z μ cx (r x')) (hy:Rep w Z μ cy (r y')) :
  OpV C b w Z μ o ((do eqGuard (if neg then .neq else .eql) t x y cx cy;binOp (if neg then .neq else .eql) t cx cy:Sem Value).run C.P w) (sem b r (.eqagg neg ks x' y')):=by
 intro K h
 simp only [sem] at h
 split at h
 ·rename_i vxs vys h1 h2
  rw [h1] at hx;rw [h2] at hy
  obtain ⟨xs,rfl,s1,_,r1⟩:=hx.aggE
  obtain ⟨ys,rfl,s2,_,r2⟩:=hy.aggE
  split at h
  ·rename_i q hq
   have hv:=adq (w:=w) (Z:=Z) (μ:=μ) ks vxs vys q xs.toList ys.toList hq (by simpa using s1) (by simpa using s2) (fun j hj hj'=>by simpa using r1 j hj' (by simpa using hj)) (fun j hj hj'=>by simpa using r2 j hj' (by simpa using hj))
   obtain ⟨l1,l2⟩:=jz _ _ _ _ hv
   have hag:acY C.P t = some true:=by unfold acY;rw [hu];rfl
   obtain ⟨p1,p2,g1,g2,g3⟩:=afO (w:=w) C.P 20 t ks hk hsz 9980 xs ys 0 q (by
    simp only [List.drop_zero]
    rw [List.take_of_length_le (by omega),List.take_of_length_le (by omega)];exact hv)
   rw [Vj hag hsz] at g1 g2
   simp only [if_true,Nat.zero_add] at g1 g2
   have e1:xs.extract 0 ks.length = xs:=by
    have:xs.size = ks.length:=by simpa using l1
    rw [← this];simp
   have e2:ys.extract 0 ks.length = ys:=by
    have:ys.size = ks.length:=by simpa using l2
    rw [← this];simp
   rw [e1] at g1;rw [e2] at g2
   cases g1;cases g2
   refine ⟨_,.bool (if neg then !q else q),w,Z,μ,?_,h,.sc rfl,hg,.refl⟩
   cases neg
   ·simp only [Bool.false_eq_true,if_false,Sem.run_bind,run_eqGuard_agg w _ t x y xs ys hgd,Result.andThen_ok,run_eql_struct]
    rw [show (10000:Nat) = 20 + 9980 from rfl,g3];rfl
   ·simp only [if_true,Sem.run_bind,run_eqGuard_agg w _ t x y xs ys hgd,Result.andThen_ok,run_neq_struct]
    rw [show (10000:Nat) = 20 + 9980 from rfl,g3];rfl
  ·exact h.elim
 ·exact h.elim
end
end Av
end
