/- Each operation of the model does what the Av kit says (eleventh part: appends, copies, comparisons of structs). -/
import Derived.Test.YtphclkkggijicaaGreatDoorB5
import Derived.Laws.StructEq
set_option linter.unusedVariables false
set_option linter.unusedSimpArgs false
section
namespace Av
open Go
section
variable {C:Ctx} {w:World} {Z:Nat→Nat→Prop} {μ:Nat→Option Cn} {o:Nat→Option Ob} {b:Nat} {r:Opd→V}
theorem aqY {α:Type} (f:Nat→α) (a:Nat) (x:α) (h:f a = x):upd f a x = f:=by
 funext b;simp only [upd];grind
theorem akD (hg:Good C w Z μ o) (hf:∀ x,b≤x→x < b + KK→μ x = none) (hm:C.m≤b) {ts:Array TypeId} {ty st xt e:TypeId} {sz by_:Nat} {z:Value} {zs:List Value} (T:Tgt C.P ts st xt e sz by_ z)
  {cx cy:Value} {x y:Opd} (hx:Rep w Z μ cx (r x)) (hy:Rep w Z μ cy (r y)) :
  OpV C b w Z μ o ((Builtin.append_ ts ty #[cx,cy]).run C.P w) (sem b r (.append sz by_ zs x y)):=by
 intro K h
 simp only [sem] at h
 obtain ⟨op,ys,a,cap,rfl,h,hne⟩:=akk hg hy h
 obtain ⟨_,h⟩:=h
 cases op with
 | false =>
   simp only [zk,if_false] at hne
   obtain ⟨L,f1,f2,f3,f4⟩:=Uf (C:=C) (cap:=cap) hne ys.length (zi _)
   rw [zP] at f4
   have S:Src C w Z sz ys.length (.slice a ys.length cap) ys L:=⟨rfl,f1,f2,f3,f4,rfl⟩
   have SO:arN C w Z μ sz ys.length (.slice a ys.length cap) ys L:=⟨rfl,f1,f2,f3,f4.mono (fun _ _ h=>h.lift),rfl⟩
   split at h
   ·rename_i n off len h1;rw [h1] at hx
    obtain ⟨ob,hoa,h⟩:=h
    dsimp only at h
    split at h
    ·rename_i wr s xs
     obtain ⟨⟨rfl,htip,hs,_⟩,h⟩:=h
     obtain ⟨v,w',μ',e1,e2,e3,e4,_⟩:=ani (ty:=ty) hg hf hm T S hx hoa htip hs
     exact ⟨_,v,w',Z,μ',e1,h,e2,e3,e4⟩
    ·rename_i wr s xs
     obtain ⟨⟨rfl,htip,hs,_⟩,h⟩:=h
     obtain ⟨v,w',μ',e1,e2,e3,e4,_⟩:=abi (ty:=ty) hg hf hm T SO hx hoa htip hs
     exact ⟨_,v,w',Z,μ',e1,h,e2,e3,e4⟩
    ·exact h.elim
   ·rename_i h1;rw [h1] at hx
    obtain ⟨rfl,_⟩:=hx.scE
    obtain ⟨v,w',μ',e1,e2,e3,e4,_⟩:=append_nil (ty:=ty) hg hf hm T S h.1.1
    exact ⟨_,v,w',Z,μ',e1,h.2,e2,e3,e4⟩
   ·exact h.elim
 | true =>
   simp only [if_true] at hne
   obtain ⟨L,f1,f2,f3,f4⟩:=Uf (C:=C) (cap:=cap) hne ys.length (zi _)
   rw [zP] at f4
   have SO:arN C w Z μ sz ys.length (.slice a ys.length cap) ys L:=⟨rfl,f1,f2,f3,f4,rfl⟩
   split at h
   ·rename_i n off len h1;rw [h1] at hx
    obtain ⟨ob,hoa,h⟩:=h
    dsimp only at h
    split at h
    ·rename_i wr s xs
     obtain ⟨⟨rfl,htip,hs,_⟩,h⟩:=h
     obtain ⟨v,w',μ',e1,e2,e3,e4,_⟩:=abi (ty:=ty) (hg.open hoa) hf hm T SO hx (Qi _ _ _) htip hs
     rw [aaM] at e3
     exact ⟨_,v,w',Z,μ',e1,h,e2,e3,e4⟩
    ·rename_i wr s xs
     obtain ⟨⟨rfl,htip,hs,_⟩,h⟩:=h
     obtain ⟨v,w',μ',e1,e2,e3,e4,_⟩:=abi (ty:=ty) hg hf hm T SO hx hoa htip hs
     exact ⟨_,v,w',Z,μ',e1,h,e2,e3,e4⟩
    ·exact h.elim
   ·rename_i h1;rw [h1] at hx
    obtain ⟨rfl,_⟩:=hx.scE
    obtain ⟨v,w',μ',e1,e2,e3,e4,_⟩:=ads (ty:=ty) hg hf hm T SO h.1.1
    exact ⟨_,v,w',Z,μ',e1,h.2,e2,e3,e4⟩
   ·exact h.elim
theorem aiC (hg:Good C w Z μ o) (hf:∀ x,b≤x→x < b + KK→μ x = none) (hm:C.m≤b) {ts:Array TypeId} {ty st xt e:TypeId} {z:Value} (T:Tgt C.P ts st xt e 1 1 z)
  {cx cy:Value} {x y:Opd} (hx:Rep w Z μ cx (r x)) (hy:Rep w Z μ cy (r y)) :
  OpV C b w Z μ o ((Builtin.append_ ts ty #[cx,cy]).run C.P w) (sem b r (.appendS e x y)):=fun _ hk=>hk.elim
theorem an0 (hg:Good C w Z μ o) {ts:Array TypeId} {ty st e:TypeId} {sz:Nat} (h1:ts[0]? = some st) (h2:C.P.underlying st = some (.slice e)) (h3:Js C.P e = some sz)
  {cx cy:Value} {x y:Opd} (hx:Rep w Z μ cx (r x)) (hy:Rep w Z μ cy (r y)) :
  OpV C b w Z μ o ((Builtin.copy_ ts ty #[cx,cy]).run C.P w) (sem b r (.copy sz x y)):=fun _ hk=>hk.elim
end
end Av
end
section
namespace Av
open Go
section
variable {C:Ctx} {w:World} {Z:Nat→Nat→Prop} {μ:Nat→Option Cn} {o:Nat→Option Ob} {b:Nat} {r:Opd→V}
theorem apa (hg:Good C w Z μ o) {mx:Bool} {ts:Array TypeId} {ty:TypeId} {ρ:Operand→Value} (hρ:∀ x x',opd x = some x'→Rep w Z μ (ρ x) (r x')) {as:Array Operand} {xs:List Opd} (h:opds as.toList = some xs) :
  OpV C b w Z μ o ((if mx then Builtin.max_ ts ty (as.map ρ) else Builtin.min_ ts ty (as.map ρ)).run C.P w) (sem b r (.mm mx xs)):=by
 intro K hk
 obtain ⟨h1,h2⟩:=wi hρ h
 simp only [sem] at hk
 split at hk
 ·rename_i k n rest hxs
  split at hk
  ·rename_i hall
   have hlen:(as.toList.map ρ).length = rest.length + 1:=by
    have:(xs.map r).length = rest.length + 1:=by rw [hxs];rfl
    grind
   have hrep:∀ j (hj:j < (as.toList.map ρ).length) (hj':j < (xs.map r).length),Rep w Z μ (as.toList.map ρ)[j] (xs.map r)[j]:=by
    grind
   cases hv:as.toList.map ρ with
   | nil=>grind
   | cons v vs =>
     have hv0:v = .int k n:=by
      have:=hrep 0 (by rw [hlen];omega) (by rw [hxs];simp)
      simp only [hv,hxs,List.getElem_cons_zero] at this
      exact this.scE.1
     subst hv0
     have hvs:∀ j (hj:j < vs.length) (hj':j < rest.length),Rep w Z μ vs[j] rest[j]:=by
      intro j hj hj'
      have:=hrep (j + 1) (by rw [hlen];omega) (by rw [hxs];simp;omega)
      simp only [hv,hxs,List.getElem_cons_succ] at this
      exact this
     have hvl:vs.length = rest.length:=by grind
     have key:∀ (vs:List Value) (rest:List V) (n:Int),vs.length = rest.length→(∀ j (hj:j < vs.length) (hj':j < rest.length),Rep w Z μ vs[j] rest[j])→rest.all (UZ k) = true →
       (vs.foldlM (if mx then Builtin.max2 else Builtin.min2) (.int k n)).run C.P w = .ok (.int k (rest.foldl (ag1 mx) n)) w:=by
      intro vs
      induction vs with
      | nil=>intro rest n hl _ _;cases rest with
        | nil=>rfl
        | cons _ _=>simp at hl
      | cons v vs ih =>
        intro rest n hl hr ha
        cases rest with
        | nil=>simp at hl
        | cons x rest =>
          simp only [List.all_cons,zA] at ha
          have h0:=hr 0 (by simp) (by simp)
          simp only [List.getElem_cons_zero] at h0
          have hx:∃ y,x = .sc (.int k y):=by
           have:=ha.1
           cases x with
           | sc u=>cases u with
             | int k' y=>simp_all [UZ,kC]
             | _=>simp [UZ] at this
           | _=>simp [UZ] at this
          obtain ⟨y,rfl⟩:=hx
          obtain ⟨rfl,_⟩:=h0.scE
          have step:((if mx then Builtin.max2 else Builtin.min2) (.int k n) (.int k y)).run C.P w = .ok (.int k (ag1 mx n (.sc (.int k y)))) w:=by
           cases mx<;>simp [Builtin.max2,Builtin.min2,ag1]
          simp only [List.foldlM_cons,Sem.run_bind,step,Result.andThen_ok,List.foldl_cons]
          exact ih rest _ (by simpa using hl) (fun j hj hj'=>by
           have:=hr (j + 1) (by simpa using hj) (by simpa using hj')
           simpa using this) ha.2
     refine ⟨_,_,w,Z,μ,?_,hk,.sc rfl,hg,.refl⟩
     have hk':=key vs rest n hvl hvs hall
     have hm:(as.map ρ).toList = .int k n :: vs:=by rw [Array.toList_map];exact hv
     cases mx with
     | true=>simp_all [if_true,Builtin.max_]
     | false=>simp_all [zk,if_false,Builtin.min_]
  ·exact hk.elim
 ·exact hk.elim
def Jk:List Nat→List Value→List Value→Option Bool
 | [],[],[]=>some true
 | 0 :: ks,.int k a :: xs,.int k' b :: ys=>if k = k' then (Jk ks xs ys).map ((a == b) && ·) else none
 | 1 :: ks,.string a :: xs,.string b :: ys=>(Jk ks xs ys).map ((a == b) && ·)
 | 2 :: ks,.bool a :: xs,.bool b :: ys=>(Jk ks xs ys).map ((a == b) && ·)
 | _,_,_=>none
theorem xF:∀ (ks:List Nat) (vxs vys:List V) (t:Bool) (xs ys:List Value),JU ks vxs vys = some t→xs.length = vxs.length→ys.length = vys.length →
  (∀ j (h:j < xs.length) (h':j < vxs.length),Rep w Z μ xs[j] vxs[j])→(∀ j (h:j < ys.length) (h':j < vys.length),Rep w Z μ ys[j] vys[j])→Jk ks xs ys = some t:=by
 intro ks
 induction ks with
 | nil =>
   intro vxs vys t xs ys h h1 h2 _ _
   unfold JU at h
   split at h
   ·simp at h1 h2;subst h1;subst h2;exact h
   ·simp_all
   ·simp_all
   ·simp_all
   ·cases h
 | cons k ks ih =>
   intro vxs vys t xs ys h h1 h2 h3 h4
   unfold JU at h
   split at h
   ·simp_all
   ·rename_i ks' k a vxs' k' c vys' e1
    cases e1
    cases xs with
    | nil=>simp at h1
    | cons x xs =>
      cases ys with
      | nil=>simp at h2
      | cons y ys =>
        have r1:=h3 0 (by simp) (by simp)
        have r2:=h4 0 (by simp) (by simp)
        simp only [List.getElem_cons_zero] at r1 r2
        obtain ⟨rfl,_⟩:=r1.scE
        obtain ⟨rfl,_⟩:=r2.scE
        split at h
        ·rename_i hkk
         simp only [ze] at h
         obtain ⟨t',e,rfl⟩:=h
         have:=ih vxs' vys' t' xs ys e (by simpa using h1) (by simpa using h2) (fun j hj hj'=>by have:=h3 (j + 1) (by simpa using hj) (by simpa using hj');grind) (fun j hj hj'=>by have:=h4 (j + 1) (by simpa using hj) (by simpa using hj');grind)
         simp [Jk,hkk,this]
        ·cases h
   ·rename_i ks' a vxs' c vys' e1
    cases e1
    cases xs with
    | nil=>simp at h1
    | cons x xs =>
      cases ys with
      | nil=>simp at h2
      | cons y ys =>
        have r1:=h3 0 (by simp) (by simp)
        have r2:=h4 0 (by simp) (by simp)
        simp only [List.getElem_cons_zero] at r1 r2
        obtain ⟨rfl,_⟩:=r1.scE
        obtain ⟨rfl,_⟩:=r2.scE
        simp only [ze] at h
        obtain ⟨t',e,rfl⟩:=h
        have:=ih vxs' vys' t' xs ys e (by simpa using h1) (by simpa using h2) (fun j hj hj'=>by have:=h3 (j + 1) (by simpa using hj) (by simpa using hj');grind) (fun j hj hj'=>by have:=h4 (j + 1) (by simpa using hj) (by simpa using hj');grind)
        simp [Jk,this]
   ·rename_i ks' a vxs' c vys' e1
    cases e1
    cases xs with
    | nil=>simp at h1
    | cons x xs =>
      cases ys with
      | nil=>simp at h2
      | cons y ys =>
        have r1:=h3 0 (by simp) (by simp)
        have r2:=h4 0 (by simp) (by simp)
        simp only [List.getElem_cons_zero] at r1 r2
        obtain ⟨rfl,_⟩:=r1.scE
        obtain ⟨rfl,_⟩:=r2.scE
        simp only [ze] at h
        obtain ⟨t',e,rfl⟩:=h
        have:=ih vxs' vys' t' xs ys e (by simpa using h1) (by simpa using h2) (fun j hj hj'=>by have:=h3 (j + 1) (by simpa using hj) (by simpa using hj');grind) (fun j hj hj'=>by have:=h4 (j + 1) (by simpa using hj) (by simpa using hj');grind)
        simp [Jk,this]
   ·cases h
theorem aap:∀ (k1:List Nat) (k2:List Nat) (xs ys:List Value) (t:Bool),Jk (k1++k2) xs ys = some t →
  ∃ t1 t2,Jk k1 (xs.take k1.length) (ys.take k1.length) = some t1∧Jk k2 (xs.drop k1.length) (ys.drop k1.length) = some t2∧t = (t1 && t2):=by
 intro k1
 induction k1 with
 | nil=>grind [Jk]
 | cons k k1 ih =>
   intro k2 xs ys t h
   simp only [List.cons_append] at h
   unfold Jk at h
   split at h
   ·simp_all
   ·grind [Option.map_eq_some_iff,Jk,Bool.and_assoc]
   ·grind [Option.map_eq_some_iff,Jk,Bool.and_assoc]
   ·grind [Option.map_eq_some_iff,Jk,Bool.and_assoc]
   ·cases h
theorem VX:∀ (ks:List Nat) (xs ys:List Value) (t:Bool),Jk ks xs ys = some t→xs.length = ks.length∧ys.length = ks.length:=by
 intro ks
 induction ks with
 | nil =>
   grind [Jk]
 | cons k ks ih =>
   intro xs ys t h
   unfold Jk at h
   grind [Option.map_eq_some_iff]
theorem aao (P:Program):∀ (d:Nat) (t:TypeId) (ks:List Nat),WM P d t = some ks→Js P t = some ks.length→∀ (m:Nat) (xs ys:Array Value) (off:Nat) (q:Bool),
  Jk ks ((xs.toList.drop off).take ks.length) ((ys.toList.drop off).take ks.length) = some q →
  ∃ p1 p2,(part t xs off).run P w = .ok p1 w∧(part t ys off).run P w = .ok p2 w∧(Op.equalIn (d + m) t p1 p2).run P w = .ok q w:=by
 intro d
 induction d with
 | zero=>grind [WM]
 | succ d ih =>
   intro t ks h hsz m xs ys off q hq
   obtain ⟨hl1,hl2⟩:=VX _ _ _ _ hq
   have one:ks.length = 1→∃ u1 u2,xs[off]? = some u1∧ys[off]? = some u2∧(xs.toList.drop off).take ks.length = [u1]∧(ys.toList.drop off).take ks.length = [u2]:=by
    grind [List.drop_eq_getElem_cons]
   simp only [WM] at h
   split at h
   ·
    rename_i fs hu
    split at h
    ·cases h
    ·rename_i hst
     have hag:y0 P t = some true:=by unfold y0;rw [hu];rfl
     refine ⟨_,_,by rw [YE hag hsz];rfl,by rw [YE hag hsz];rfl,?_⟩
     have hfo:P.fieldsOf t = fs:=by unfold Program.fieldsOf;rw [hu]
     rw [show d + 1 + m = (d + m) + 1 by omega,run_equalIn_struct w (d + m) t _ _ (by rw [hfo];exact hu) (by simpa using hst),hfo]
     have e1:(xs.extract off (off + ks.length)).toList = (xs.toList.drop off).take ks.length:=by simp
     have e2:(ys.extract off (off + ks.length)).toList = (ys.toList.drop off).take ks.length:=by simp
     rw [← e1,← e2] at hq
     generalize xs.extract off (off + ks.length) = xa at hq
     generalize ys.extract off (off + ks.length) = ya at hq
     have fields:∀ (l:List Field) (o':Nat) (ks':List Nat) (q:Bool),aqe (WM P d) P l o' = some ks'→Jk ks' ((xa.toList.drop o').take ks'.length) ((ya.toList.drop o').take ks'.length) = some q →
       (Op.eqFields (d + m) xa ya l).run P w = .ok q w:=by
      intro l
      induction l with
      | nil =>
        intro o' ks' q h hq
        simp only [aqe,zd] at h
        subst h
        simp [Jk] at hq
        subst hq
        rfl
      | cons f l ihl =>
        intro o' ks' q h hq
        simp only [aqe] at h
        split at h
        ·rename_i hcond
         split at h
         ·rename_i a ha
          split at h
          ·rename_i hsa
           simp only [ze] at h
           obtain ⟨ks2,hks2,rfl⟩:=h
           obtain ⟨t1,t2,f1,f2,rfl⟩:=aap _ _ _ _ _ hq
           simp only [List.take_take,zF,List.drop_take,Zi] at f1 f2
           rw [kT (by omega)] at f1
           rw [show a.length + ks2.length - a.length = ks2.length by omega] at f2
           obtain ⟨p1,p2,g1,g2,g3⟩:=ih f.type a ha hsa m xa ya o' t1 f1
           have:=ihl (o' + a.length) ks2 t2 hks2 f2
           simp only [Op.eqFields,hcond.2,ne_eq,not_false_eq_true,if_true,hcond.1,Sem.run_bind,g1,g2,g3,Result.andThen_ok]
           cases t1 with
           | true=>simpa using this
           | false=>simp
          ·cases h
         ·cases h
        ·cases h
     grind [VX,List.take_of_length_le]
   ·rename_i k hu
    simp only [zd] at h;subst h
    have hag:y0 P t = some false:=by unfold y0;rw [hu];rfl
    obtain ⟨u1,u2,a1,a2,a3,a4⟩:=one rfl
    rw [a3,a4] at hq
    refine ⟨u1,u2,by rw [YE hag hsz];simp [a1],by rw [YE hag hsz];simp [a2],?_⟩
    unfold Jk at hq
    grind [Jk,run_equalIn_int]
   ·rename_i hu
    simp only [zd] at h;subst h
    have hag:y0 P t = some false:=by unfold y0;rw [hu];rfl
    obtain ⟨u1,u2,a1,a2,a3,a4⟩:=one rfl
    rw [a3,a4] at hq
    refine ⟨u1,u2,by rw [YE hag hsz];simp [a1],by rw [YE hag hsz];simp [a2],?_⟩
    unfold Jk at hq
    split at hq
    all_goals (try (simp_all;done))
    rename_i e1 e2 e3
    cases e1;cases e2;cases e3
    simp [Jk] at hq
    subst hq
    have key:∀ d (a c:ByteArray),(Op.equalIn (d + 1) t (.string a) (.string c)).run P w = .ok (a == c) w:=fun d a c=>by simp [Op.equalIn,run_underlying hu w]
    grind
   ·rename_i hu
    simp only [zd] at h;subst h
    have hag:y0 P t = some false:=by unfold y0;rw [hu];rfl
    obtain ⟨u1,u2,a1,a2,a3,a4⟩:=one rfl
    rw [a3,a4] at hq
    refine ⟨u1,u2,by rw [YE hag hsz];simp [a1],by rw [YE hag hsz];simp [a2],?_⟩
    unfold Jk at hq
    split at hq
    all_goals (try (simp_all;done))
    rename_i e1 e2 e3
    cases e1;cases e2;cases e3
    simp [Jk] at hq
    subst hq
    have key:∀ d (a c:Bool),(Op.equalIn (d + 1) t (.bool a) (.bool c)).run P w = .ok (a == c) w:=fun d a c=>by simp [Op.equalIn,run_underlying hu w]
    grind
   ·cases h
theorem agU (hg:Good C w Z μ o) {t:TypeId} {neg:Bool} {fs:Array Field} {ks:List Nat} {x y:Operand} {cx cy:Value} {x' y':Opd} (hu:C.P.underlying t = some (.struct fs)) (hk:WM C.P 20 t = some ks) (hsz:Js C.P t = some ks.length)
  (hgd:C.P.eqGuardType C.P.depth t = false) (hx:Rep w Z μ cx (r x')) (hy:Rep w Z μ cy (r y')) :
  OpV C b w Z μ o ((do eqGuard (if neg then .neq else .eql) t x y cx cy;binOp (if neg then .neq else .eql) t cx cy:Sem Value).run C.P w) (sem b r (.eqagg neg ks x' y')):=by
 intro K h
 simp only [sem] at h
 split at h
 ·rename_i vxs vys h1 h2
  rw [h1] at hx;rw [h2] at hy
  obtain ⟨xs,rfl,s1,_,r1⟩:=hx.aggE
  obtain ⟨ys,rfl,s2,_,r2⟩:=hy.aggE
  split at h
  ·rename_i q hq
   have hv:=xF (w:=w) (Z:=Z) (μ:=μ) ks vxs vys q xs.toList ys.toList hq (by simpa using s1) (by simpa using s2) (fun j hj hj'=>by simpa using r1 j hj' (by simpa using hj)) (fun j hj hj'=>by simpa using r2 j hj' (by simpa using hj))
   obtain ⟨l1,l2⟩:=VX _ _ _ _ hv
   have hag:y0 C.P t = some true:=by unfold y0;rw [hu];rfl
   obtain ⟨p1,p2,g1,g2,g3⟩:=aao (w:=w) C.P 20 t ks hk hsz 9980 xs ys 0 q (by
    grind)
   rw [YE hag hsz] at g1 g2
   simp only [if_true,Zj] at g1 g2
   have e1:xs.extract 0 ks.length = xs:=by
    grind
   have e2:ys.extract 0 ks.length = ys:=by
    grind
   rw [e1] at g1;rw [e2] at g2
   cases g1;cases g2
   refine ⟨_,.bool (if neg then !q else q),w,Z,μ,?_,h,.sc rfl,hg,.refl⟩
   cases neg
   ·simp only [zk,if_false,Sem.run_bind,run_eqGuard_agg w _ t x y xs ys hgd,Result.andThen_ok,run_eql_struct]
    simp_all
   ·simp only [if_true,Sem.run_bind,run_eqGuard_agg w _ t x y xs ys hgd,Result.andThen_ok,run_neq_struct]
    simp_all
  ·exact h.elim
 ·exact h.elim
end
end Av
end
