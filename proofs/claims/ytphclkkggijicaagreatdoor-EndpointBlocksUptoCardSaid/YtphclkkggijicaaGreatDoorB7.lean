/- Maps: lookups, updates, loops over their entries. -/
import Derived.Test.YtphclkkggijicaaGreatDoorB6
import Derived.MapKept
import Derived.Laws.IdiomRangeMap
set_option linter.unusedVariables false
set_option linter.unusedSimpArgs false
section
namespace Av
open Go
theorem aj3 (a b:ByteArray):(a == b) = true↔a = b:=by
 obtain ⟨a⟩:=a;obtain ⟨b⟩:=b
 show (a == b) = true↔_
 simp
theorem adh:∀ (ks:List Nat) (xs ys:List Value),Jk ks xs ys = some true→xs = ys:=by
 intro ks
 induction ks with
 | nil =>
   grind [Jk]
 | cons k ks ih =>
   intro xs ys h
   unfold Jk at h
   split at h
   ·simp_all
   ·rename_i e1
    cases e1
    split at h
    ·simp only [ze,zA,kC] at h
     grind
    ·cases h
   ·rename_i e1
    cases e1
    simp only [ze,zA,aj3] at h
    grind
   ·rename_i e1
    cases e1
    simp only [ze,zA,kC] at h
    grind
   ·cases h
theorem vO:∀ (ks:List Nat) (xs:List Value) (n:Nat) (t:Bool),Jk ks xs xs = some t→((xs.zip xs).all fun (x,y)=>Instr.sameBits n x y) = true:=by
 intro ks
 induction ks with
 | nil =>
   intro xs n t h
   unfold Jk at h
   split at h<;>simp_all
 | cons k ks ih =>
   intro xs n t h
   unfold Jk at h
   split at h
   ·simp_all
   ·rename_i e1 e2
    cases e1;cases e2
    split at h
    ·simp only [ze] at h
     obtain ⟨t',e,_⟩:=h
     have:=ih _ n _ e
     grind [List.zip_cons_cons,Instr.sameBits,aj3]
    ·cases h
   ·rename_i e1 e2
    cases e1;cases e2
    simp only [ze] at h
    obtain ⟨t',e,_⟩:=h
    have:=ih _ n _ e
    grind [List.zip_cons_cons,Instr.sameBits,aj3]
   ·rename_i e1 e2
    cases e1;cases e2
    simp only [ze] at h
    obtain ⟨t',e,_⟩:=h
    have:=ih _ n _ e
    grind [List.zip_cons_cons,Instr.sameBits,aj3]
   ·cases h
section
variable {w:World} {Z:Nat→Nat→Prop} {μ:Nat→Option Cn}
theorem wl {P:Program} {t:TypeId} {ag:Bool} {ks:List Nat} (h:aoa P t = some (ag,ks)) :
  (ag = true∧(∃ fs,P.underlying t = some (.struct fs))∧WM P 20 t = some ks∧Js P t = some ks.length) ∨
  (ag = false∧((∃ k,P.underlying t = some (.int k)∧ks = [0])∨(P.underlying t = some .string∧ks = [1])∨(P.underlying t = some .bool∧ks = [2]))):=by
 grind [aoa,Option.some.injEq,Prod.mk.injEq,WM]
inductive KV2 (ks:List Nat):Bool→Value→Value→Bool→Prop
 | agg {xs ys:Array Value} {q:Bool} (h:Jk ks xs.toList ys.toList = some q):KV2 ks true (.agg xs) (.agg ys) q
 | sc {u v:Value} {q:Bool} (h:Jk ks [u] [v] = some q):KV2 ks false u v q
theorem acm {ag:Bool} {ks:List Nat} {k e:V} {q:Bool} {u v:Value} (h:wD ag ks k e = some q) (hu:Rep w Z μ u k) (hv:Rep w Z μ v e):KV2 ks ag u v q:=by
 unfold wD at h
 split at h
 ·rename_i cs ds
  obtain ⟨xs,rfl,s1,_,r1⟩:=hu.aggE
  obtain ⟨ys,rfl,s2,_,r2⟩:=hv.aggE
  exact .agg (xF (w:=w) (Z:=Z) (μ:=μ) ks cs ds q xs.toList ys.toList h (by simpa using s1) (by simpa using s2) (fun j hj hj'=>by simpa using r1 j hj' (by simpa using hj)) (fun j hj hj'=>by simpa using r2 j hj' (by simpa using hj)))
 ·have hu':=hu;have hv':=hv
  obtain ⟨e1,_⟩:=hu.scE
  obtain ⟨e2,_⟩:=hv.scE
  rw [← e1,← e2] at h
  rw [← e1] at hu'
  rw [← e2] at hv'
  refine .sc (xF (w:=w) (Z:=Z) (μ:=μ) ks [.sc u] [.sc v] q [u] [v] h rfl rfl (fun j hj hj'=>?_) (fun j hj hj'=>?_))
  ·have:j = 0:=by simp at hj;omega
   subst this;exact hu'
  ·have:j = 0:=by simp at hj;omega
   subst this;exact hv'
 ·cases h
theorem abN {P:Program} {t:TypeId} {fs:Array Field} {ks:List Nat} (hu:P.underlying t = some (.struct fs)) (hk:WM P 20 t = some ks) (hsz:Js P t = some ks.length) {xs ys:Array Value} {q:Bool}
  (hv:Jk ks xs.toList ys.toList = some q):(Op.equal t (.agg xs) (.agg ys)).run P w = .ok q w:=by
 obtain ⟨l1,l2⟩:=VX _ _ _ _ hv
 have hag:y0 P t = some true:=by unfold y0;rw [hu];rfl
 obtain ⟨p1,p2,g1,g2,g3⟩:=aao (w:=w) P 20 t ks hk hsz 9980 xs ys 0 q (by
  grind)
 rw [YE hag hsz] at g1 g2
 simp only [if_true,Zj] at g1 g2
 have e1:xs.extract 0 ks.length = xs:=by
  grind
 have e2:ys.extract 0 ks.length = ys:=by
  grind
 rw [e1] at g1;rw [e2] at g2
 cases g1;cases g2
 exact g3
theorem vP (P:Program):∀ (d:Nat) (t:TypeId) (ks:List Nat),WM P d t = some ks→Js P t = some ks.length→∀ (m:Nat) (em:Bool) (xs:Array Value) (off:Nat) (q:Bool),
  Jk ks ((xs.toList.drop off).take ks.length) ((xs.toList.drop off).take ks.length) = some q →
  ∃ p1,(part t xs off).run P w = .ok p1 w∧(Instr.checkKey em (d + m) t p1).run P w = .ok () w:=by
 intro d
 induction d with
 | zero=>grind [WM]
 | succ d ih =>
   intro t ks h hsz m em xs off q hq
   obtain ⟨hl1,_⟩:=VX _ _ _ _ hq
   have one:ks.length = 1→∃ u1,xs[off]? = some u1∧(xs.toList.drop off).take ks.length = [u1]:=by
    grind [List.drop_eq_getElem_cons]
   simp only [WM] at h
   split at h
   ·rename_i fs hu
    split at h
    ·cases h
    ·have hag:y0 P t = some true:=by unfold y0;rw [hu];rfl
     refine ⟨_,by rw [YE hag hsz];rfl,?_⟩
     have e1:(xs.extract off (off + ks.length)).toList = (xs.toList.drop off).take ks.length:=by simp
     rw [← e1] at hq
     generalize xs.extract off (off + ks.length) = xa at hq
     have fields:∀ (l:List Field) (o':Nat) (ks':List Nat) (q:Bool),aqe (WM P d) P l o' = some ks'→Jk ks' ((xa.toList.drop o').take ks'.length) ((xa.toList.drop o').take ks'.length) = some q →
       (forIn l PUnit.unit (fun f _=>(if f.name≠"_" then do let p ← part f.type xa f.offset;Instr.checkKey em (d + m) f.type p;pure (ForInStep.yield PUnit.unit) else pure (ForInStep.yield PUnit.unit):Sem (ForInStep PUnit)))).run P w = .ok PUnit.unit w:=by
      intro l
      induction l with
      | nil=>simp
      | cons f l ihl =>
        intro o' ks' q h hq
        simp only [aqe] at h
        split at h
        ·rename_i hcond
         split at h
         ·rename_i a ha
          split at h
          ·rename_i hsa
           simp only [ze] at h
           obtain ⟨ks2,hks2,rfl⟩:=h
           obtain ⟨t1,t2,f1,f2,rfl⟩:=aap _ _ _ _ _ hq
           simp only [List.take_take,zF,List.drop_take,Zi] at f1 f2
           rw [kT (by omega)] at f1
           rw [show a.length + ks2.length - a.length = ks2.length by omega] at f2
           obtain ⟨p1,g1,g3⟩:=ih f.type a ha hsa m em xa o' t1 f1
           have:=ihl (o' + a.length) ks2 t2 hks2 f2
           simp_all
          ·cases h
         ·cases h
        ·cases h
     have hfin:=fields fs.toList 0 ks q h (by
      simp only [ku]
      have:xa.toList.length = ks.length:=(VX _ _ _ _ hq).1
      rw [zb (by omega)]
      exact hq)
     rw [show d + 1 + m = (d + m) + 1 by omega]
     simp only [Instr.checkKey,Sem.run_bind,run_underlying hu w,Result.andThen_ok]
     simp_all
   ·rename_i k hu
    simp only [zd] at h;subst h
    have hag:y0 P t = some false:=by unfold y0;rw [hu];rfl
    obtain ⟨u1,a1,a3⟩:=one rfl
    rw [a3] at hq
    refine ⟨u1,by rw [YE hag hsz];simp [a1],?_⟩
    rw [show d + 1 + m = (d + m) + 1 by omega]
    simp [Instr.checkKey,run_underlying hu w]
   ·rename_i hu
    simp only [zd] at h;subst h
    have hag:y0 P t = some false:=by unfold y0;rw [hu];rfl
    obtain ⟨u1,a1,a3⟩:=one rfl
    refine ⟨u1,by rw [YE hag hsz];simp [a1],?_⟩
    rw [show d + 1 + m = (d + m) + 1 by omega]
    simp [Instr.checkKey,run_underlying hu w]
   ·rename_i hu
    simp only [zd] at h;subst h
    have hag:y0 P t = some false:=by unfold y0;rw [hu];rfl
    obtain ⟨u1,a1,a3⟩:=one rfl
    refine ⟨u1,by rw [YE hag hsz];simp [a1],?_⟩
    rw [show d + 1 + m = (d + m) + 1 by omega]
    simp [Instr.checkKey,run_underlying hu w]
   ·cases h
theorem adK {P:Program} {t:TypeId} {ag:Bool} {ks:List Nat} (hk:aoa P t = some (ag,ks)) {u:Value} {k:V} (hu:Rep w Z μ u k) :
  ∀ (kk:List V) (es:List MapEntry) (i:Nat) (r:Option Nat),(∀ j (h:j < es.length) (h':j < kk.length),Rep w Z noμ es[j].key kk[j])→es.length = kk.length→VR ag ks k kk i = some r →
  (∀ j,r = some j→i≤j∧∃ (h:j - i < es.length) (h':j - i < kk.length),wD ag ks k kk[j - i] = some true) ∧
  (ag = true→(Instr.findAsking t u es i).run P w = .ok (r.bind fun j=>(es[j - i]?).map fun e=>(j,e.val)) w) ∧
  (ag = false→∀ d,P.underlying t = some d→Instr.findNow d u es i = some (r.bind fun j=>(es[j - i]?).map fun e=>(j,e.val))):=by
 intro kk
 induction kk with
 | nil =>
   intro es i r _ hl h
   obtain rfl:es = []:=by simpa using hl
   simp only [VR,zd] at h
   subst h
   exact ⟨by grind,fun _=>rfl,fun _ d _=>rfl⟩
 | cons x kk ih =>
   intro es i r hr hl h
   cases es with
   | nil=>simp at hl
   | cons e es =>
     have h0:=hr 0 (by simp) (by simp)
     simp only [List.getElem_cons_zero] at h0
     have hrest:∀ j (h:j < es.length) (h':j < kk.length),Rep w Z noμ es[j].key kk[j]:=fun j hj hj'=>by
      have:=hr (j + 1) (by simpa using hj) (by simpa using hj');simpa using this
     simp only [List.length_cons,Nat.add_right_cancel_iff] at hl
     simp only [VR] at h
     have asks:∀ q,wD ag ks k x = some q→ag = true→(Op.equal t u e.key).run P w = .ok q w:=by
      intro q hq ha
      have kv:=acm hq hu (h0.lift (μ:=μ))
      rcases wl hk with ⟨_,⟨fs,hf⟩,h1,h2⟩|⟨ha',_⟩
      ·generalize e.key = ek at kv ⊢
       subst ha
       cases kv with
       | agg hh=>exact abN hf h1 h2 hh
      grind
     have nows:∀ q,wD ag ks k x = some q→ag = false→∀ d,P.underlying t = some d→Instr.sameNow d u e.key = some q:=by
      intro q hq ha d hd
      have kv:=acm hq hu (h0.lift (μ:=μ))
      rcases wl hk with ⟨ha',_⟩|⟨_,hh⟩
      ·grind
      ·generalize e.key = ek at kv ⊢
       subst ha
       cases kv with
       | sc hv =>
         rcases hh with ⟨k',h1,rfl⟩|⟨h1,rfl⟩|⟨h1,rfl⟩
         ·rw [h1] at hd;cases hd
          unfold Jk at hv
          split at hv<;>simp_all [Jk,Instr.sameNow]
         ·rw [h1] at hd;cases hd
          unfold Jk at hv
          split at hv<;>simp_all [Jk,Instr.sameNow]
         ·rw [h1] at hd;cases hd
          unfold Jk at hv
          split at hv<;>simp_all [Jk,Instr.sameNow]
     split at h
     ·rename_i hq
      simp only [zd] at h
      subst h
      refine ⟨fun j hj=>?_,fun ha=>?_,fun ha d hd=>?_⟩
      ·grind
      ·simp_all [Instr.findAsking,Sem.run_bind,Result.andThen_ok,if_true,Sem.run_pure,Option.bind_some,Nat.sub_self,Option.map_some]
      simp_all [Instr.findNow,Option.bind_some,Nat.sub_self,Option.map_some]
     ·rename_i hq
      obtain ⟨i1,i2,i3⟩:=ih es (i + 1) r hrest hl h
      have hr2:(r.bind fun j=>(es[j - (i + 1)]?).map fun e=>(j,e.val)) = (r.bind fun j=>((e :: es)[j - i]?).map fun e=>(j,e.val)):=by
       cases r with
       | none=>rfl
       | some j =>
         grind
      refine ⟨fun j hj=>?_,fun ha=>?_,fun ha d hd=>?_⟩
      ·grind
      ·simp_all [Instr.findAsking,Sem.run_bind,Result.andThen_ok,zk,if_false]
      grind [Instr.findNow]
     ·cases h
theorem jQ {P:Program} {t:TypeId} {ag:Bool} {ks:List Nat} (hk:aoa P t = some (ag,ks)) {u:Value} {k:V} (hu:Rep w Z μ u k) {kk:List V} {es:List MapEntry} {r:Option Nat}
  (hr:∀ j (h:j < es.length) (h':j < kk.length),Rep w Z noμ es[j].key kk[j]) (hl:es.length = kk.length) (hf:VR ag ks k kk 0 = some r) :
  (Instr.findKey t u es).run P w = .ok (r.bind fun j=>(es[j]?).map fun e=>(j,e.val)) w∧∀ j,r = some j→∃ (h:j < es.length) (h':j < kk.length),wD ag ks k kk[j] = some true:=by
 obtain ⟨i1,i2,i3⟩:=adK hk hu kk es 0 r hr hl hf
 simp only [Nat.sub_zero] at i1 i2 i3
 refine ⟨?_,by grind⟩
 rcases wl hk with ⟨ha,⟨fs,hfs⟩,_⟩|⟨ha,hh⟩
 ·simp only [Instr.findKey,Sem.run_bind,run_underlying hfs w,Result.andThen_ok]
  cases es with
  | nil =>
    simp only [Instr.findNow,Sem.run_pure]
    simp
  | cons e es =>
    have:Instr.findNow (.struct fs) u (e :: es) 0 = none:=by
     rfl
    grind
 ·have:∃ d,P.underlying t = some d:=by
   rcases hh with ⟨k',h1,_⟩|⟨h1,_⟩|⟨h1,_⟩<;>exact ⟨_,h1⟩
  obtain ⟨d,hd⟩:=this
  simp_all [Instr.findKey,Sem.run_bind,run_underlying,Result.andThen_ok,Sem.run_pure]
theorem xu {P:Program} {t:TypeId} {ag:Bool} {ks:List Nat} (hk:aoa P t = some (ag,ks)) {u:Value} {k:V} (hu:Rep w Z μ u k) (hq:wD ag ks k k = some true) (em:Bool) :
  (Instr.checkKey em 10000 t u).run P w = .ok () w:=by
 have kv:=acm hq hu hu
 rcases wl hk with ⟨ha,⟨fs,hfs⟩,h1,h2⟩|⟨ha,hh⟩
 ·subst ha
  cases kv with
  | agg hv =>
    rename_i xs
    obtain ⟨l1,_⟩:=VX _ _ _ _ hv
    have hag:y0 P t = some true:=by unfold y0;rw [hfs];rfl
    obtain ⟨p1,g1,g3⟩:=vP (w:=w) P 20 t ks h1 h2 9980 em xs 0 true (by
     grind)
    rw [YE hag h2] at g1
    simp only [if_true,Zj] at g1
    have e1:xs.extract 0 ks.length = xs:=by
     grind
    grind
 ·have key:∀ n d,P.underlying t = some d→(∀ ms,d≠.interface ms)→(∀ l e,d≠.array l e)→(∀ fs,d≠.struct fs)→(Instr.checkKey em (n + 1) t u).run P w = .ok () w:=by
   intro n d hd d1 d2 d3
   simp only [Instr.checkKey,Sem.run_bind,run_underlying hd w,Result.andThen_ok]
   cases d<;>first|rfl|(exact absurd rfl (d1 _))|(exact absurd rfl (d2 _ _))|(exact absurd rfl (d3 _))
  rcases hh with ⟨k',h1,_⟩|⟨h1,_⟩|⟨h1,_⟩<;>exact key 9999 _ h1 (fun _ h=>by cases h) (fun _ _ h=>by cases h) (fun _ h=>by cases h)
theorem aeb:∀ (ks:List Nat) (cs ds:List V) (q:Bool),JU ks cs ds = some q→Qa cs:=by
 intro ks
 induction ks with
 | nil =>
   grind [JU,Qa]
 | cons k ks ih =>
   intro cs ds q h
   unfold JU at h
   split at h
   ·simp_all
   ·rename_i e1
    cases e1
    split at h
    ·simp only [ze] at h
     obtain ⟨t',e,_⟩:=h
     exact ⟨trivial,ih _ _ _ e⟩
    ·cases h
   ·rename_i e1
    cases e1
    simp only [ze] at h
    obtain ⟨t',e,_⟩:=h
    exact ⟨trivial,ih _ _ _ e⟩
   ·rename_i e1
    cases e1
    simp only [ze] at h
    obtain ⟨t',e,_⟩:=h
    exact ⟨trivial,ih _ _ _ e⟩
   ·cases h
theorem ahy {ag:Bool} {ks:List Nat} {k e:V} {q:Bool} (h:wD ag ks k e = some q):k.closed:=by
 unfold wD at h
 split at h
 ·exact aeb _ _ _ _ h
 ·trivial
 ·cases h
theorem ar6 {ks:List Nat} {ag:Bool} {u v:Value} (h:KV2 ks ag u v true):u = v∧Instr.sameBits 10000 u v = true:=by
 cases h with
 | agg h =>
   rename_i xs ys
   have e:=adh _ _ _ h
   have e2:xs = ys:=Array.toList_inj.1 e
   subst e2
   refine ⟨rfl,?_⟩
   have:=vO _ _ 9999 _ h
   simp_all [Instr.sameBits,beq_self_eq_true,zC]
 | sc h =>
   have e:=adh _ _ _ h
   simp only [ke,and_true] at e
   subst e
   refine ⟨rfl,?_⟩
   have:=vO _ _ 10000 _ h
   simpa using this
end
section
variable {C:Ctx} {w:World} {Z:Nat→Nat→Prop} {μ:Nat→Option Cn} {o:Nat→Option Ob} {b:Nat} {r:Opd→V}
theorem Good.mapOf (hg:Good C w Z μ o) {a:Nat} {c:Cn} {kk vs:List V} {c0:Nat} (hm:μ a = some c) (ha:o a = some (.map kk vs c0)):MOk w Z μ c kk vs c0∧c.block < w.heap.size:=by
 obtain ⟨c',hm',hok,hl⟩:=hg.ob a _ ha
 rw [hm] at hm';cases hm'
 exact ⟨hok,(hl trivial).1⟩
theorem al3 (hg:Good C w Z μ o) (hf:∀ x,b≤x→x < b + KK→μ x = none) (hm:C.m≤b) {t:TypeId}:OpV C b w Z μ o ((Instr.makeMap t none).run C.P w) (sem b r .mkmap):=by
 intro K h
 simp only [sem] at h
 have hx:=hf b (zi _) (by simp [KK])
 have hrun:(Instr.makeMap t none).run C.P w = .ok (.map (some w.heap.size)) (w.alloc (.map #[] 0)):=by
  rfl
 rw [hrun]
 refine ⟨_,_,_,Z,upd μ b (some { block:=w.heap.size }),rfl,h,.mp (c:={ block:=w.heap.size }) (Qi _ _ _),?_,Evo.alloc hg.zlt hx (zi _) (by simp [KK])⟩
 exact hg.alloc hx rfl hm ⟨rfl,#[],heap_alloc_new,rfl,by grind⟩
theorem akw (hg:Good C w Z μ o) {ts:Array TypeId} {ty t k e:TypeId} {cx:Value} {x:Opd} (ht:ts[0]? = some t) (hu:C.P.underlying t = some (.map k e)) (hx:Rep w Z μ cx (r x)) :
  OpV C b w Z μ o ((Builtin.len_ ts ty #[cx]).run C.P w) (sem b r (.maplen x)):=fun _ hk=>hk.elim
theorem aky (hg:Good C w Z μ o) {ts:Array TypeId} {ty t k e:TypeId} {cx:Value} {x:Opd} (ht:ts[0]? = some t) (hu:C.P.underlying t = some (.map k e)) (hx:Rep w Z μ cx (r x)) :
  OpV C b w Z μ o ((Builtin.clear_ ts ty #[cx]).run C.P w) (sem b r (.mapclr x)):=fun _ hk=>hk.elim
theorem apS (hg:Good C w Z μ o) (hf:∀ x,b≤x→x < b + KK→μ x = none) (hm:C.m≤b) {t k e:TypeId} {cx:Value} {x:Opd} (hu:C.P.underlying t = some (.map k e)) (hx:Rep w Z μ cx (r x)) :
  OpV C b w Z μ o ((Instr.range t cx).run C.P w) (sem b r (.rng x)):=by
 intro K h
 simp only [sem] at h
 split at h
 ·rename_i a h1;rw [h1] at hx
  obtain ⟨c,hm',rfl⟩:=hx.mpE
  obtain ⟨ob,ho,h⟩:=h
  dsimp only at h
  split at h
  ·rename_i kk vs c0
   obtain ⟨⟨hl,es,hh,hs,_⟩,hlt⟩:=hg.mapOf hm' ho
   have hx:=hf b (zi _) (by simp [KK])
   rw [run_range_map w t k e c.block es _ hu hh]
   refine ⟨_,_,_,Z,upd μ b (some { block:=w.heap.size }),rfl,h,.ptr (c:={ block:=w.heap.size }) (Qi _ _ _),?_,Evo.alloc hg.zlt hx (zi _) (by simp [KK])⟩
   refine hg.alloc hx rfl hm ⟨c,UV hx _ _ hm',?_⟩
   exact heap_alloc_new
  ·exact h.elim
 ·exact h.elim
theorem aeL {c0 n i:Nat} {seen:List Nat}:i∈agB c0 n seen↔i < n∧c0 + i ∉ seen:=by
 simp [agB]
theorem apT (hg:Good C w Z μ o) {ty:TypeId} {cx:Value} {x:Opd} (hx:Rep w Z μ cx (r x)) :
  OpV C b w Z μ o ((Instr.next cx false ty).run C.P w) (sem b r (.nxt x)):=by
 intro K h
 simp only [sem] at h
 split at h
 ·rename_i t ht;rw [ht] at hx
  obtain ⟨ci,hmi,rfl⟩:=hx.ptrE
  obtain ⟨ob,hoi,h⟩:=h
  dsimp only at h
  split at h
  ·rename_i a since seen last
   obtain ⟨ob2,ho,h⟩:=h
   dsimp only at h
   split at h
   ·rename_i kk vs c0
    obtain ⟨⟨hsi,hla⟩,h⟩:=h
    subst hla
    subst hsi
    obtain ⟨ci',hmi',hoki,hli⟩:=hg.ob t _ hoi
    rw [hmi] at hmi';cases hmi'
    obtain ⟨c,hm,hit⟩:=hoki
    obtain ⟨⟨hl,es,hh,hs,hes⟩,hlt⟩:=hg.mapOf hm ho
    have hlti:=(hli trivial).1
    have hgi:(getObj ci.block).run C.P w = .ok (.mapIter (some c.block) (c0 + kk.length) seen.toArray (c0 + kk.length)) w:=by simp [getObj,Sem.run,hit]
    have born:∀ i (hi:i < es.size),es[i].born = c0 + i:=by grind
    have hold:∀ y∈es.toList,y.born < c0 + kk.length:=by
     grind [List.getElem_of_mem]
    have htest:=next_test_false seen.toArray es (c0 + kk.length) (c0 + kk.length) hold (zi _)
    have hmem:∀ y,y∈(es.filter fun e=>!seen.toArray.contains e.born)→∃ i,i∈agB c0 kk.length seen∧∃ hi:i < es.size,y = es[i]:=by
     intro y hy
     rw [Array.mem_filter] at hy
     obtain ⟨hy,hns⟩:=hy
     obtain ⟨i,hi,rfl⟩:=Array.getElem_of_mem hy
     refine ⟨i,aeL.2 ⟨by omega,?_⟩,hi,rfl⟩
     grind
    have hall:∀ y∈(es.filter fun e=>!seen.toArray.contains e.born),y.born < c0 + kk.length:=by grind
    generalize hL:(es.filter fun e=>!seen.toArray.contains e.born) = L at hmem hall
    have e1:L.filter (fun x=>decide (x.born < c0 + kk.length)) = L:=by simp_all
    have e2:L.filter (fun x=>decide (x.born≥c0 + kk.length)) = #[]:=by
     simp_all
    by_cases h0:L.size = 0
    ·have hLe:L = #[]:=by grind
     have hun:agB c0 kk.length seen = []:=by
      rw [List.eq_nil_iff_forall_not_mem]
      intro i hi
      obtain ⟨i1,i2⟩:=aeL.1 hi
      grind
     rw [hun] at h
     dsimp only at h
     refine ⟨_,.tuple #[.bool false],w,Z,μ,?_,h,.tup rfl (fun j hj hj'=>?_),hg,.refl⟩
     ·simp only [Instr.next,Sem.run_bind,hgi,MapKept.run_getObj_map hh,Result.andThen_ok,htest,zk,if_false,hL,hLe]
      simp [choose,Sem.run,Question.forced]
     ·have:j = 0:=by simp at hj;omega
      subst this;exact .sc rfl
    ·have hne:L.isEmpty = false:=by grind
     have hch:∃ (j:Nat) (w1:World),j < L.size∧w1.heap = w.heap∧Vq C.dr w w1∧(choose (Question.mapNext L.size)).run C.P w = .ok j w1:=by
      by_cases hf:L.size≤1
      ·exact ⟨0,w,by omega,rfl,Vq.refl w,by simp [choose,Sem.run,Question.forced,hf]⟩
      ·exact ⟨_,w.drew,Nat.mod_lt _ (by omega),rfl,.mk,by
        simp only [choose,Sem.run,Question.forced,zS,hf,if_false,Question.cut]
        rfl⟩
     obtain ⟨j,w1,hj,hheap,hsame,hrun⟩:=hch
     obtain ⟨i,hiu,hie,hLj⟩:=hmem L[j] (Array.getElem_mem hj)
     have hik:i < kk.length:=by omega
     have hiv:i < vs.length:=by omega
     have hK:(match kk[i]?,vs[i]? with
       | some k,some v=>(AM.ret { v:=.tup [.bool true,k,v],os:=[(t,.iter a (c0 + kk.length) (seen++[c0 + i]) (c0 + kk.length))] }:AM E)
       | _,_=>.no).wp o K:=by
      split at h
      ·grind
      ·exact h.2 i hiu
     rw [zf hik,zf hiv] at hK
     obtain ⟨b1,b2,b3⟩:=hes i hie hik hiv
     have hlt1:ci.block < w1.heap.size:=by grind
     obtain ⟨s1,s2,s3⟩:=UI (w:=w1) (ob:=.mapIter (some c.block) (c0 + kk.length) (seen.toArray.push L[j].born) (c0 + kk.length)) hlt1
     have hset:(setObj ci.block (.mapIter (some c.block) (c0 + kk.length) (seen.toArray.push L[j].born) (c0 + kk.length))).run C.P w1 = .ok () { w1 with heap:=w1.heap.setIfInBounds ci.block (.mapIter (some c.block) (c0 + kk.length) (seen.toArray.push L[j].born) (c0 + kk.length)) }:=by
      grind [setObj,Sem.run]
     have hcell:∀ b' i',Z b' i'→({ w1 with heap:=w1.heap.setIfInBounds ci.block (.mapIter (some c.block) (c0 + kk.length) (seen.toArray.push L[j].born) (c0 + kk.length)) }:World).cell? ⟨b',i',none⟩ = w.cell? ⟨b',i',none⟩:=by
      intro y i' _
      by_cases hb:y = ci.block
      ·subst hb;simp only [World.cell?,s2,hit]
      ·simp only [World.cell?,s3 y hb];rw [hheap]
     refine ⟨_,.tuple #[.bool true,L[j].key,L[j].val],{ w1 with heap:=w1.heap.setIfInBounds ci.block (.mapIter (some c.block) (c0 + kk.length) (seen.toArray.push L[j].born) (c0 + kk.length)) },Z,μ,?_,hK,.tup rfl (fun q hq hq'=>?_),?_,⟨hcell,fun _ _ h=>h,fun _ _ h=>h,fun _ _=>rfl⟩⟩
     ·simp only [Instr.next,Sem.run_bind,hgi,MapKept.run_getObj_map hh,Result.andThen_ok,htest,zk,if_false,hL,e1,e2,Array.append_empty,hne,Array.empty_append,Array.size_map,hrun,Array.getElem?_map,zJ hj,Option.map_some,hset,Sem.run_pure]
     ·have:q = 0∨q = 1∨q = 2:=by simp at hq;omega
      rcases this with rfl|rfl|rfl
      ·exact .sc rfl
      ·rw [← hLj] at b2;exact (b2.mono hcell (fun _ _ h=>h) (fun _ _ h=>h)).lift
      ·rw [← hLj] at b3;exact b3.mono hcell (fun _ _ h=>h) (fun _ _ h=>h)
     ·have hgw:Good C w1 Z μ o:=hg.heap hheap hsame
      refine hgw.write hoi hmi trivial s3 s1 (fun i' _=>by simp only [World.cell?,s2];grind) ⟨c,hm,?_⟩
      grind
   ·exact h.elim
  ·exact h.elim
 ·exact h.elim
theorem apX (hg:Good C w Z μ o) {cx:Value} {x:Opd} (hx:Rep w Z μ cx (r x)) :
  OpV C b w Z μ o ((Instr.entry cx).run C.P w) (sem b r (.ent x)):=by
 intro K h
 simp only [sem] at h
 split at h
 ·rename_i t ht;rw [ht] at hx
  obtain ⟨ci,hmi,rfl⟩:=hx.ptrE
  obtain ⟨ob,hoi,h⟩:=h
  dsimp only at h
  split at h
  ·rename_i a since seen last
   obtain ⟨ob2,ho,h⟩:=h
   dsimp only at h
   split at h
   ·rename_i kk vs c0
    obtain ⟨⟨hsi,hla⟩,h⟩:=h
    subst hla
    subst hsi
    obtain ⟨ci',hmi',hoki,hli⟩:=hg.ob t _ hoi
    rw [hmi] at hmi';cases hmi'
    obtain ⟨c,hm,hit⟩:=hoki
    obtain ⟨⟨hl,es,hh,hs,hes⟩,hlt⟩:=hg.mapOf hm ho
    have hgi:(getObj ci.block).run C.P w = .ok (.mapIter (some c.block) (c0 + kk.length) seen.toArray (c0 + kk.length)) w:=by simp [getObj,Sem.run,hit]
    split at h
    ·rename_i s hs'
     obtain ⟨hcs,h⟩:=h
     split at h
     ·rename_i k v h1 h2
      obtain ⟨hik,rfl⟩:=zE.1 h1
      obtain ⟨hiv,rfl⟩:=zE.1 h2
      have hie:s - c0 < es.size:=by omega
      obtain ⟨b1,b2,b3⟩:=hes _ hie hik hiv
      have hfind:es.find? (·.born == s) = some es[s - c0]:=by
       rw [← Array.find?_toList]
       grind [List.pairwise_iff_getElem,List.length_map,Array.length_toList,find_born]
      refine ⟨_,.tuple #[es[s - c0].key,es[s - c0].val],w,Z,μ,?_,h,.tup rfl (fun q hq hq'=>?_),hg,.refl⟩
      ·simp [Instr.entry,hgi,MapKept.run_getObj_map hh,Result.andThen,hs',hfind]
      ·have:q = 0∨q = 1:=by simp at hq;omega
       rcases this with rfl|rfl
       ·exact b2.lift
       ·exact b3
     ·exact h.elim
    ·exact h.elim
   ·exact h.elim
  ·exact h.elim
 ·exact h.elim
theorem wL {P:Program} {t:TypeId} {neg:Bool} {x:Operand} {ps rs:Array TypeId} {va:Bool} (h:P.underlying t = some (.func ps rs va)) {cx:Value} {r:Bool}
  (hr:cx = .nilFunc∧r = true∨(∃ f a c,cx = .func f a c)∧r = false) :
  ((do eqGuard (if neg then .neq else .eql) t x (.const .nilFunc) cx .nilFunc;binOp (if neg then .neq else .eql) t cx .nilFunc:Sem Value)).run P w
    = .ok (.bool (if neg then !r else r)) w:=by
 have he:(Op.equal t cx .nilFunc).run P w = .ok r w:=by
  have key:∀ d,(Op.equalIn (d + 1) t cx .nilFunc).run P w = .ok r w:=fun d=>by
   rcases hr with ⟨rfl,rfl⟩|⟨⟨f,a,c,rfl⟩,rfl⟩<;>simp [Op.equalIn,run_underlying h w]
  exact key 9999
 have hna:∀ u,cx≠.agg u:=by rcases hr with ⟨rfl,_⟩|⟨⟨f,a,c,rfl⟩,_⟩<;>simp
 rcases hr with ⟨rfl,rfl⟩|⟨⟨f,a,c,rfl⟩,rfl⟩
 ·cases neg<;>simp [Sem.run_bind,W9 _ t x (.const .nilFunc) .nilFunc .nilFunc hna ⟨_,rfl⟩,binOp,he]
 ·cases neg<;>simp [Sem.run_bind,W9 _ t x (.const .nilFunc) (.func f a c) .nilFunc hna ⟨_,rfl⟩,binOp,he]
theorem aeI (hg:Good C w Z μ o) {t:TypeId} {ps rs:Array TypeId} {va neg:Bool} {x:Operand} {cx:Value} {x':Opd} (hu:C.P.underlying t = some (.func ps rs va)) (hx:Rep w Z μ cx (r x')) :
  OpV C b w Z μ o ((do eqGuard (if neg then .neq else .eql) t x (.const .nilFunc) cx .nilFunc;binOp (if neg then .neq else .eql) t cx .nilFunc:Sem Value).run C.P w) (sem b r (.isnilF neg x')):=by
 intro K h
 simp only [sem] at h
 split at h
 ·rename_i f cs h1;rw [h1] at hx
  obtain ⟨vs,e,_⟩:=hx.cloE
  exact ⟨{ v:=.bool neg },.bool neg,w,Z,μ,(wL (r:=false) hu (.inr ⟨by rw [e];cases f<;>exact ⟨_,_,_,rfl⟩,rfl⟩)).trans (by cases neg<;>rfl),h,.sc rfl,hg,.refl⟩
 ·rename_i h1;rw [h1] at hx
  obtain ⟨e,_⟩:=hx.scE
  exact ⟨{ v:=.bool !neg },.bool !neg,w,Z,μ,(wL (r:=true) hu (.inl ⟨e,rfl⟩)).trans (by cases neg<;>rfl),h,.sc rfl,hg,.refl⟩
 ·exact h.elim
theorem an1 (hg:Good C w Z μ o) {ts:Array TypeId} {ty st e:TypeId} {sz:Nat} {ag:Bool} {z:Value} (ht:ts[0]? = some st) (hu:C.P.underlying st = some (.slice e)) (hz:KT C.P e = some z)
  (hs:z.cells.size = sz) (hg1:ag = false→sz = 1) (h1:∀ u∈z.cells.toList,u.oneCell' = true) {cx:Value} {x:Opd} (hx:Rep w Z μ cx (r x)) :
  OpV C b w Z μ o ((Builtin.clear_ ts ty #[cx]).run C.P w) (sem b r (.clrS sz ag z.cells.toList x)):=by
 intro K h
 simp only [sem] at h
 split at h
 ·rename_i n off len hv;rw [hv] at hx
  obtain ⟨ob,hoa,h⟩:=h
  dsimp only at h
  split at h
  ·rename_i s xs
   obtain ⟨hss,h⟩:=h
   obtain ⟨c,hmu,hh⟩:=hx.hdE
   obtain ⟨c',hm',hok,hlive⟩:=hg.ob n _ hoa
   rw [hmu] at hm';cases hm'
   by_cases hn:len = 0
   ·have hcx:∃ ad dcap,cx = .slice ad len dcap:=by
     unfold Hdr at hh;split at hh
     ·obtain ⟨h1,_,h3⟩:=hh;subst h3;exact ⟨_,_,h1⟩
     ·obtain ⟨ad,h,_⟩:=hh;exact ⟨_,_,h⟩
    obtain ⟨ad,dcap,rfl⟩:=hcx
    subst hn
    refine ⟨_,.tuple #[],w,Z,μ,?_,h,.tup rfl (fun j hj=>by simp at hj),?_,.refl⟩
    ·cases ad<;>simp [Builtin.clear_,ht,run_underlying hu w]
    ·show Good C w Z μ (upd o n (some (.buf true s (xs.take off++List.replicate 0 _++xs.drop (off + 0)))))
     simp only [List.replicate_zero,zY,Nat.add_zero,zR]
     rw [aqY _ _ _ hoa];exact hg
   ·cases hvo:c.void with
    | true =>
      obtain ⟨_,_,rfl⟩:=j1 hh hvo
      simp at hn
    | false =>
      obtain ⟨ad,rfl,h4,h5,h6⟩:=j2 hh hvo
      obtain ⟨hlen,hok⟩:=hok
      obtain ⟨h7,h8,h9,h10,h11,cs,cty,fr,hb,h12,h13,h14⟩:=hok hvo
      have hsz:s = sz:=by
       rcases hss with h|h
       ·exact h
       ·subst h;simp at hlen;omega
      subst hsz
      have had:=h6 (by omega)
      subst had
      have hbd:(off + len) * s≤c.cap * s:=zL _ (by omega)
      rw [zK] at hbd
      rw [h7] at h12
      have f2:(Builtin.zeroCells z.cells len).toList.length = len * s:=by simp [Builtin.zeroCells,hs]
      have f3:∀ v∈(Builtin.zeroCells z.cells len).toList,v.oneCell' = true:=by
       intro v hv
       simp only [Builtin.zeroCells,Array.toList_map,kl,Array.mem_toList_iff,Array.mem_range] at hv
       obtain ⟨k,hk,rfl⟩:=hv
       have hp:0 < z.cells.size:=by
        rcases Zf z.cells.size with h|h
        ·rw [h] at hk;simp at hk
        ·exact h
       have hlt:k % z.cells.size < z.cells.size:=Nat.mod_lt _ hp
       rw [getElem!_pos z.cells _ hlt]
       exact h1 _ (by simp)
      obtain ⟨cs',e1,e2,e3,e4⟩:=Wo (P:=C.P) c.block cty fr (Builtin.zeroCells z.cells len).toList (c.base + off * s) 0 cs w hb (fun o ho=>h13 o (.inl ho)) (by rw [f2];omega) f3
      obtain ⟨s1,s2,s3⟩:=UI (w:=w) (ob:=.cells cs' cty fr) (hlive hvo).1
      have hcell:∀ b' i,Z b' i→({ w with heap:=w.heap.setIfInBounds c.block (.cells cs' cty fr) }:World).cell? ⟨b',i,none⟩ = w.cell? ⟨b',i,none⟩:=by
       intro b' i hz
       have:b'≠c.block:=by rintro rfl;exact h9 rfl i hz
       simp only [World.cell?,s3 b' this]
      have hrep:∀ v x,Rep w Z noμ v x→Rep { w with heap:=w.heap.setIfInBounds c.block (.cells cs' cty fr) } Z noμ v x:=fun v x h=>h.mono hcell (fun _ _ h=>h) (fun _ _ h=>h)
      have hold:Row { w with heap:=w.heap.setIfInBounds c.block (.cells cs' cty fr) } Z noμ (fun k=>cs[c.base + k]?) s xs:=fun j hj=>by
       refine ⟨h11 j hj,fun k hk=>?_⟩
       obtain ⟨u,g1,g2,g3⟩:=h14 j hj k hk
       rw [h7] at g1
       exact ⟨u,g1,g2,hrep _ _ g3⟩
      have f4:Row w Z noμ (fun k=>(Builtin.zeroCells z.cells len)[k]?) s (List.replicate len (V.mk ag (z.cells.toList.map V.ofV))):=aij (n:=len) hs hg1 h1 (by rw [hs];exact zi _)
      have l1:(xs.take off).length = off:=by simp;omega
      have l2:(List.replicate len (V.mk ag (z.cells.toList.map V.ofV))).length = len:=by simp
      have hrow:Row { w with heap:=w.heap.setIfInBounds c.block (.cells cs' cty fr) } Z noμ (fun k=>cs'[c.base + k]?) s (xs.take off++List.replicate len (V.mk ag (z.cells.toList.map V.ofV))++xs.drop (off + len)):=by
       refine Row.append (Row.append ((hold.take off).congr (fun k hk=>?_)) ((f4.mono hrep).congr (fun k hk=>?_))) ((hold.drop (off + len)).congr (fun k hk=>?_))
       ·rw [l1] at hk;exact e4 _ (.inl (by omega))
       ·rw [l2] at hk
        rw [l1]
        have:=e3 k (by rw [f2];exact hk)
        rw [Zl] at this
        rw [← this];congr 1;omega
       ·simp only [zF,l1,l2]
        exact e4 _ (.inr (by rw [f2,zK];omega))
      have hn':∃ m,len = m + 1:=⟨len - 1,by omega⟩
      refine ⟨_,.tuple #[],_,Z,μ,?_,h,.tup rfl (fun j hj=>by simp at hj),?_,⟨hcell,fun _ _ h=>h,fun _ _ h=>h,fun _ _=>rfl⟩⟩
      ·obtain ⟨m,rfl⟩:=hn'
       simp only [Builtin.clear_,ht,kL,List.getElem?_cons_zero,Sem.run_bind,run_underlying hu w,Result.andThen_ok,Uz hz]
       rw [h7,e1];rfl
      ·refine hg.write hoa hmu hvo s3 s1 (fun i hz=>(h9 rfl i hz).elim) ⟨by simp only [zF,l1,l2,kO];omega,fun _=>⟨h7,h8,fun _=>h9 rfl,h10,fun j hj=>(hrow j hj).1,cs',cty,fr,s2,by rw [h7];omega,by rw [e2];exact h13,fun j hj k hk=>?_⟩⟩
       obtain ⟨u,g1,g2,g3⟩:=(hrow j hj).2 k hk
       rw [h7]
       exact ⟨u,g1,g2,g3⟩
  ·exact h.elim
 ·rename_i s' hv;rw [hv] at hx
  obtain ⟨a,cap,e,_⟩:=hx.slE
  subst e
  refine ⟨_,.tuple #[],w,Z,μ,?_,h,.tup rfl (fun j hj=>by simp at hj),hg,.refl⟩
  cases a<;>simp [Builtin.clear_,ht,run_underlying hu w]
 ·rename_i hv;rw [hv] at hx
  obtain ⟨e,_⟩:=hx.scE
  subst e
  refine ⟨_,.tuple #[],w,Z,μ,?_,h,.tup rfl (fun j hj=>by simp at hj),hg,.refl⟩
  simp [Builtin.clear_,ht,run_underlying hu w]
 ·exact h.elim
theorem aiu {z:Value} {g:Bool} (hs:ajG z = g) (ho:∀ u∈z.cells.toList,u.oneCell' = true):Rep w Z μ z (V.mk g (z.cells.toList.map V.ofV)):=by
 subst hs
 cases z with
 | agg cs =>
   simp only [ajG,V.mk,if_true,Value.cells] at ho ⊢
   refine .agg (by simp) (fun j h=>ho _ (by simp)) (fun j h h'=>?_)
   grind [aaR]
 | _=>exact aaR (ho _ (by simp [Value.cells]))
theorem akx (hg:Good C w Z μ o) {t kt e:TypeId} {ag kg ok:Bool} {ks:List Nat} {z cx ck:Value} {x k:Opd} (hu:C.P.underlying t = some (.map kt e)) (hk:aoa C.P kt = some (kg,ks))
  (hz:KT C.P e = some z) (hs:ajG z = ag) (h1:∀ u∈z.cells.toList,u.oneCell' = true) (hx:Rep w Z μ cx (r x)) (hkr:Rep w Z μ ck (r k)) :
  OpV C b w Z μ o ((Instr.lookup t cx ck ok).run C.P w) (sem b r (.mapget ok ag z.cells.toList kg ks x k)):=by
 intro K h
 simp only [sem] at h
 split at h
 ·rename_i a ha;rw [ha] at hx
  obtain ⟨c,hm,rfl⟩:=hx.mpE
  obtain ⟨ob,ho,h⟩:=h
  dsimp only at h
  split at h
  ·rename_i kk vs c0
   obtain ⟨hq,h⟩:=h
   obtain ⟨⟨hl,es,hh,hsz,hes⟩,hlt⟩:=hg.mapOf hm ho
   have hck:=xu (w:=w) hk hkr hq es.isEmpty
   split at h
   ·rename_i i hi
    obtain ⟨f1,f2⟩:=jQ (w:=w) hk hkr (es:=es.toList) (fun j hj hj'=>by have:=(hes j (by simpa using hj) hj' (by omega)).2.1;simpa using this) (by simpa using hsz) hi
    obtain ⟨hie,hik,_⟩:=f2 i rfl
    have hie':i < es.size:=by simpa using hie
    have hiv:i < vs.length:=by omega
    rw [zf hiv] at h
    have hrep:=(hes i hie' hik hiv).2.2
    simp only [Option.bind_some,zf hie,Option.map_some,Array.getElem_toList] at f1
    refine ⟨_,if ok then .tuple #[es[i].val,.bool true] else es[i].val,w,Z,μ,?_,h,?_,hg,.refl⟩
    ·simp only [Instr.lookup,Sem.run_bind,run_underlying hu w,MapKept.run_getObj_map hh,hck,f1,Result.andThen_ok,Sem.run_pure]
    ·cases ok
     ·exact hrep
     ·refine .tup rfl (fun j hj hj'=>?_)
      have:j = 0∨j = 1:=by simp at hj;omega
      rcases this with rfl|rfl
      ·exact hrep
      ·exact .sc rfl
   ·rename_i hi
    obtain ⟨f1,_⟩:=jQ (w:=w) hk hkr (es:=es.toList) (fun j hj hj'=>by have:=(hes j (by simpa using hj) hj' (by omega)).2.1;simpa using this) (by simpa using hsz) hi
    simp only [Option.bind_none] at f1
    have hrep:Rep w Z μ z (V.mk ag (z.cells.toList.map V.ofV)):=aiu hs h1
    refine ⟨_,if ok then .tuple #[z,.bool false] else z,w,Z,μ,?_,h,?_,hg,.refl⟩
    ·simp only [Instr.lookup,Sem.run_bind,run_underlying hu w,MapKept.run_getObj_map hh,hck,f1,Result.andThen_ok,Sem.run_pure,Uz hz]
    ·cases ok
     ·exact hrep
     ·refine .tup rfl (fun j hj hj'=>?_)
      have:j = 0∨j = 1:=by simp at hj;omega
      rcases this with rfl|rfl
      ·exact hrep
      ·exact .sc rfl
   ·exact h.elim
  ·exact h.elim
 ·exact h.elim
theorem aeH (hg:Good C w Z μ o) {t kt e:TypeId} {kg:Bool} {ks:List Nat} {cx ck cv:Value} {x k v:Opd} (hu:C.P.underlying t = some (.map kt e)) (hk:aoa C.P kt = some (kg,ks))
  (hx:Rep w Z μ cx (r x)) (hkr:Rep w Z μ ck (r k)) (hvr:Rep w Z μ cv (r v)) :
  OpU C b w Z μ o ((Instr.mapUpdate t cx ck cv).run C.P w) (sem b r (.mapset kg ks x k v)):=by
 intro K h
 simp only [sem] at h
 split at h
 ·rename_i a ha;rw [ha] at hx
  obtain ⟨c,hm,rfl⟩:=hx.mpE
  obtain ⟨ob,ho,h⟩:=h
  dsimp only at h
  split at h
  ·rename_i kk vs c0
   obtain ⟨hq,h⟩:=h
   obtain ⟨⟨hl,es,hh,hsz,hes⟩,hlt⟩:=hg.mapOf hm ho
   have hck:=xu (w:=w) hk hkr hq false
   have hkc:Rep w Z noμ ck (r k):=by
    exact hkr.close (ahy hq)
   have step:∀ (es':Array MapEntry) (kk' vs':List V),MOk { w with heap:=w.heap.setIfInBounds c.block (.map es' (c0 + kk'.length)) } Z μ c kk' vs' c0→K { v:=.top,os:=[(a,.map kk' vs' c0)] } →
     (Instr.mapUpdate t (.map (some c.block)) ck cv).run C.P w = .ok () { w with heap:=w.heap.setIfInBounds c.block (.map es' (c0 + kk'.length)) } →
     ∃ e w' Z' μ',(Instr.mapUpdate t (.map (some c.block)) ck cv).run C.P w = .ok () w'∧K e∧e.v = .top∧Good C w' Z' μ' (xv o e.os)∧Evo b KK w Z μ w' Z' μ':=by
    intro es' kk' vs' hok hk' hrun
    obtain ⟨s1,s2,s3⟩:=UI (w:=w) (ob:=.map es' (c0 + kk'.length)) hlt
    refine ⟨_,_,Z,μ,hrun,hk',rfl,?_,⟨?_,fun _ _ h=>h,fun _ _ h=>h,fun _ _=>rfl⟩⟩
    ·exact hg.write ho hm trivial s3 s1 (fun i _=>by simp [World.cell?,s2,hh]) hok
    ·intro y i _
     by_cases hb:y = c.block
     ·subst hb;simp [World.cell?,s2,hh]
     ·simp only [World.cell?,s3 y hb]
   have hcell:∀ (es':Array MapEntry) (n:Nat),∀ b' i,Z b' i→({ w with heap:=w.heap.setIfInBounds c.block (.map es' n) }:World).cell? ⟨b',i,none⟩ = w.cell? ⟨b',i,none⟩:=by
    intro es' n y i _
    obtain ⟨s1,s2,s3⟩:=UI (w:=w) (ob:=.map es' n) hlt
    by_cases hb:y = c.block
    ·subst hb;simp [World.cell?,s2,hh]
    ·simp only [World.cell?,s3 y hb]
   split at h
   ·rename_i i hi
    obtain ⟨f1,f2⟩:=jQ (w:=w) hk hkr (es:=es.toList) (fun j hj hj'=>by have:=(hes j (by simpa using hj) hj' (by omega)).2.1;simpa using this) (by simpa using hsz) hi
    obtain ⟨hie,hik,hqi⟩:=f2 i rfl
    have hie':i < es.size:=by simpa using hie
    have hiv:i < vs.length:=by omega
    simp only [Option.bind_some,zf hie,Option.map_some,Array.getElem_toList] at f1
    obtain ⟨q1,q2⟩:=ar6 (acm hqi hkr ((hes i hie' hik hiv).2.1.lift (μ:=μ)))
    have hst:(Instr.keyThatStays es[i].key ck).run C.P w = .ok ck w:=by
     simp_all [Instr.keyThatStays,if_true,Sem.run_pure]
    refine step (es.modify i fun e=>{ e with key:=ck,val:=cv }) kk (vs.set i (r v)) ⟨by simpa using hl,_,by obtain ⟨s1,s2,s3⟩:=UI (w:=w) (ob:=.map (es.modify i fun e=>{ e with key:=ck,val:=cv }) (c0 + kk.length)) hlt;exact s2,by simpa using hsz,fun j hj hjk hjv=>?_⟩ h ?_
    ·have hj':j < es.size:=by simpa using hj
     have h0:=hes j hj' hjk (by omega)
     rw [Array.getElem_modify]
     by_cases hji:i = j
     ·subst hji
      simp only [if_true,Zo]
      refine ⟨h0.1,?_,hvr.mono (hcell _ _) (fun _ _ h=>h) (fun _ _ h=>h)⟩
      rw [q1];exact h0.2.1.mono (hcell _ _) (fun _ _ h=>h) (fun _ _ h=>h)
     ·simp only [hji,if_false,Ze hji]
      exact ⟨h0.1,h0.2.1.mono (hcell _ _) (fun _ _ h=>h) (fun _ _ h=>h),h0.2.2.mono (hcell _ _) (fun _ _ h=>h) (fun _ _ h=>h)⟩
    ·simp only [Instr.mapUpdate,Sem.run_bind,run_underlying hu w,MapKept.run_getObj_map hh,hck,f1,Result.andThen_ok,zJ hie',Option.map_some,Option.getD_some,hst,MapKept.run_setObj_map _ hh]
   ·rename_i hi
    obtain ⟨f1,_⟩:=jQ (w:=w) hk hkr (es:=es.toList) (fun j hj hj'=>by have:=(hes j (by simpa using hj) hj' (by omega)).2.1;simpa using this) (by simpa using hsz) hi
    simp only [Option.bind_none] at f1
    refine step (es.push { key:=ck,val:=cv,born:=c0 + kk.length }) (kk++[r k]) (vs++[r v]) ⟨by simp [hl],_,by obtain ⟨s1,s2,s3⟩:=UI (w:=w) (ob:=.map (es.push { key:=ck,val:=cv,born:=c0 + kk.length }) (c0 + (kk++[r k]).length)) hlt;exact s2,by simp [hsz],fun j hj hjk hjv=>?_⟩ h ?_
    ·have hj':j < es.size + 1:=by simpa using hj
     rw [Array.getElem_push]
     split
     ·rename_i hlt'
      have hk1:j < kk.length:=by omega
      have hv1:j < vs.length:=by omega
      have h0:=hes j hlt' hk1 hv1
      rw [kr hk1,kr hv1]
      exact ⟨h0.1,h0.2.1.mono (hcell _ _) (fun _ _ h=>h) (fun _ _ h=>h),h0.2.2.mono (hcell _ _) (fun _ _ h=>h) (fun _ _ h=>h)⟩
     ·have hjl:j = kk.length:=by omega
      subst hjl
      have e1:(kk++[r k])[kk.length] = r k:=by simp
      have e2:(vs++[r v])[kk.length] = r v:=by simp [hl]
      rw [e1,e2]
      refine ⟨rfl,hkc.mono (hcell _ _) (fun _ _ h=>h) (fun _ _ h=>h),?_⟩
      exact hvr.mono (hcell _ _) (fun _ _ h=>h) (fun _ _ h=>h)
    ·simp only [Instr.mapUpdate,Sem.run_bind,run_underlying hu w,MapKept.run_getObj_map hh,hck,f1,Result.andThen_ok,MapKept.run_setObj_map _ hh,zF,List.length_singleton,ko]
   ·exact h.elim
  ·exact h.elim
 ·exact h.elim
end
end Av
end
section
namespace Av
open Go
def OpS (C:Ctx) (b:Nat) (w:World) (Z:Nat→Nat→Prop) (μ:Nat→Option Cn) (o:Nat→Option Ob) (run:Result Next) (m:AM E):Prop :=
 ∀ K:E→Prop,m.wp o K→∃ e v w' Z' μ',(run = .ok (.value v) w'∨run = .ok .skip w'∧v = undef)∧K e∧Rep w' Z' μ' v e.v∧Good C w' Z' μ' (xv o e.os)∧Evo b KK w Z μ w' Z' μ'
section
variable {C:Ctx} {w:World} {Z:Nat→Nat→Prop} {μ:Nat→Option Cn} {o:Nat→Option Ob} {b:Nat} {r:Opd→V}
theorem Qm {s:Sem Value} {m:AM E} (h:OpV C b w Z μ o (s.run C.P w) m):OpS C b w Z μ o ((do pure (Next.value (← s)):Sem Next).run C.P w) m:=by
 intro K hk
 obtain ⟨e,v,w',Z',μ',h1,h2⟩:=h K hk
 exact ⟨e,v,w',Z',μ',.inl (by simp [h1]),h2⟩
theorem aaU {s:Sem Unit} {m:AM E} (h:OpU C b w Z μ o (s.run C.P w) m):OpS C b w Z μ o ((do s;pure Next.skip:Sem Next).run C.P w) m:=by
 intro K hk
 obtain ⟨e,w',Z',μ',h1,h2,h3,h4⟩:=h K hk
 exact ⟨e,undef,w',Z',μ',.inr ⟨by simp [h1],rfl⟩,h2,by rw [h3];exact .top,h4⟩
def AOp.plain:AOp→Bool
 | .call ..|.callv ..=>false
 | _=>true
theorem yq {l:List Value} (h:l.all (·.oneCell') = true):∀ u∈l,u.oneCell' = true:=by simpa using h
theorem afv {a:Act} {s:St} (h:∀ i,Rep w Z μ (a.tmps.getD i undef) (s.t i)):∀ x x',opd x = some x'→Rep w Z μ (a.eval x) (s.ev x'):=by
 intro x x' hx
 cases x with
 | tmp t=>simp only [opd,zd] at hx;subst hx;exact h t
 | const v =>
   simp only [opd,ze] at hx
   obtain ⟨y,hy,rfl⟩:=hx
   have:v.oneCell' = true∧y = V.ofV v:=by
    cases v<;>simp_all [cst,Value.oneCell']
   rw [St.ev,this.2];exact aaR this.1
 | func f=>simp only [opd,zd] at hx;subst hx;exact .clo rfl fun j h _=>by simp at h
 | global g=>simp [opd] at hx
theorem aju {ρ:Operand→Value} (hρ:∀ x x',opd x = some x'→Rep w Z μ (ρ x) (r x')) {as:Array Operand} {x:Opd} (h:opds as.toList = some [x]):∃ y,as = #[y]∧Rep w Z μ (ρ y) (r x):=by
 obtain ⟨h1,h2⟩:=wi hρ h
 match hl:as.toList,h1 with
 | [y],_ =>
   refine ⟨y,?_,?_⟩
   ·grind
   simp_all
theorem ajt {ρ:Operand→Value} (hρ:∀ x x',opd x = some x'→Rep w Z μ (ρ x) (r x')) {as:Array Operand} {x x2:Opd} (h:opds as.toList = some [x,x2]):∃ y y2,as = #[y,y2]∧Rep w Z μ (ρ y) (r x)∧Rep w Z μ (ρ y2) (r x2):=by
 obtain ⟨h1,h2⟩:=wi hρ h
 match hl:as.toList,h1 with
 | [y,y2],_ =>
   refine ⟨y,y2,?_,?_,?_⟩
   ·grind
   ·have:=h2 0 (by rw [hl];simp) (by simp)
    simpa [hl] using this
   ·have:=h2 1 (by rw [hl];simp) (by simp)
    simpa [hl] using this
theorem YN {P:Program} {x:Option TypeId} {d:TypeDesc} (h:x.bind P.underlying = some d):∃ t,x = some t∧P.underlying t = some d:=by
 cases x with
 | none=>cases h
 | some t=>grind
theorem Yc (bi:Builtin) (ts:Array TypeId) (ty:TypeId) (args:Array Operand) (a:Act) {s:Sem Value} {m:AM E} {dst:Option Tmp} {pos:String} {after:Array Edge} {guard:Option (Nat×Bool)}
  (h:OpV C b w Z μ o (s.run C.P w) m) (hs:builtin bi ts ty (args.map fun|.const _=>true|_=>false) (args.map a.eval) = (do pure (.value (← s)))) :
  OpS C b w Z μ o ((execOp a.eval { dst,op:=.call { callee:=.builtin bi,args,argTypes:=ts },type:=ty,pos,after,guard }).run C.P w) m:=by
 have:=Qm h
 rw [← hs] at this
 exact this
theorem an2 (hg:Good C w Z μ o) (hf:∀ x,b≤x→x < b + KK→μ x = none) (hm:C.m≤b) {a:Act} {s:St} (ht:∀ i,Rep w Z μ (a.tmps.getD i undef) (s.t i)) {op:Oper} {aop:AOp}
  (hc:comp C.P op.op op.type = some aop) (hp:aop.plain = true):OpS C b w Z μ o ((execOp a.eval op).run C.P w) (sem b s.ev aop):=by
 have hρ:=afv (s:=s) ht
 obtain ⟨dst,op,type,pos,after,guard⟩:=op
 simp only at hc
 cases op with
 | move x =>
   simp only [comp] at hc
   split at hc
   ·rename_i e hu
    simp only [ze] at hc
    obtain ⟨sz,hsz,rfl⟩:=hc
    intro K hk
    have hx:=hf b (zi _) (by simp [KK])
    exact ⟨_,.slice none 0 0,w,Z,_,.inl rfl,hk,.hd (Qi _ _ _) (by simp [Hdr]),hg.nil (sz:=sz) hx hm,Evo.name hx (zi _) (by simp [KK])⟩
   ·simp only [ze] at hc
    obtain ⟨x',hx',rfl⟩:=hc
    intro K hk
    exact ⟨_,_,w,Z,μ,.inl rfl,hk,hρ _ _ hx',hg,.refl⟩
 | assign x =>
   simp only [comp] at hc
   split at hc
   ·rename_i e hu
    simp only [ze] at hc
    obtain ⟨sz,hsz,rfl⟩:=hc
    intro K hk
    have hx:=hf b (zi _) (by simp [KK])
    exact ⟨_,.slice none 0 0,w,Z,_,.inl rfl,hk,.hd (Qi _ _ _) (by simp [Hdr]),hg.nil (sz:=sz) hx hm,Evo.name hx (zi _) (by simp [KK])⟩
   ·simp only [ze] at hc
    obtain ⟨x',hx',rfl⟩:=hc
    intro K hk
    exact ⟨_,_,w,Z,μ,.inl rfl,hk,hρ _ _ hx',hg,.refl⟩
 | pick c x y =>
   simp only [comp] at hc
   split at hc
   ·rename_i c' x' y' h1 h2 h3
    simp only [zd] at hc;subst hc
    have:=Qm (anR (b:=b) hg (hρ _ _ h1) (hρ _ _ h2) (hρ _ _ h3))
    intro K hk
    obtain ⟨e,v,w',Z',μ',e1,e2⟩:=this K hk
    refine ⟨e,v,w',Z',μ',?_,e2⟩
    simpa [execOp] using e1
   ·cases hc
 | alloc t =>
   simp only [comp] at hc
   split at hc
   ·split at hc
    ·rename_i z n h1 h3
     split at hc
     ·rename_i hcond
      simp only [zd] at hc;subst hc
      exact Qm (akE hg hf hm h1 (yq hcond.2))
     ·cases hc
    ·cases hc
   split at hc
   ·rename_i z ss n h1 h2 h3
    split at hc
    ·rename_i hcond
     simp only [zd] at hc;subst hc
     have hl:(zcs z.cells.toList ss).length = z.cells.toList.length:=by
      have:=congrArg List.length (agv z.cells.toList ss)
      simpa using this
     exact Qm (ama hg hf hm h1 (agv _ _) (yq hcond.2.2) (by rw [hl];simp [KK];omega))
    ·cases hc
   ·cases hc
 | box t x =>
   simp only [comp] at hc
   split at hc
   ·rename_i g sz x' h1 h2 h3
    simp only [zd] at hc;subst hc
    exact Qm (apY hg hf hm (hρ _ _ h3))
   ·cases hc
 | build t ps =>
   simp only [comp] at hc
   split at hc
   ·rename_i z fs h1 h2
    split at hc
    ·rename_i hcond
     simp only [ze] at hc
     obtain ⟨qs,hq,rfl⟩:=hc
     exact Qm (abP hg hρ h1 h2 hcond.1 (yq hcond.2) hq)
    ·cases hc
   ·rename_i z n e h1 h2
    split at hc
    ·rename_i sz h3
     split at hc
     ·rename_i hcond
      simp only [ze] at hc
      obtain ⟨qs,hq,rfl⟩:=hc
      exact Qm (acO hg hρ h1 h2 h3 (yq hcond) hq)
     ·cases hc
    ·cases hc
   ·cases hc
 | buildSlice t n ps =>
   simp only [comp] at hc
   split at hc
   ·rename_i e hu
    split at hc
    ·rename_i sz g z qs h1 h2 h3 h4
     split at hc
     ·rename_i hcond
      simp only [zd] at hc;subst hc
      split
      ·exact Qm (aiA hg hf hm hρ hu h1 h3 hcond.1 hcond.2.1 hcond.2.2.1 hcond.2.2.2.1 (yq hcond.2.2.2.2) h4)
      ·exact Qm (akC hg hf hm hρ hu h1 h3 hcond.1 hcond.2.1 hcond.2.2.1 hcond.2.2.2.1 (yq hcond.2.2.2.2) h4)
     ·cases hc
    ·cases hc
   ·cases hc
 | load t x =>
   simp only [comp] at hc
   split at hc
   ·rename_i g sz x' h1 h2 h3
    simp only [zd] at hc;subst hc
    exact Qm (anU hg h1 h2 (hρ _ _ h3))
   ·cases hc
 | store t x y =>
   simp only [comp] at hc
   split at hc
   ·rename_i sz x' y' h1 h2 h3
    simp only [zd] at hc;subst hc
    exact aaU (al1 hg h1 (hρ _ _ h2) (hρ _ _ h3))
   ·cases hc
 | nilCheck x =>
   simp only [comp,ze] at hc
   obtain ⟨x',hx',rfl⟩:=hc
   have hr:=hρ _ _ hx'
   intro K hk
   simp only [sem] at hk
   split at hk
   ·rename_i h1;rw [h1] at hr
    obtain ⟨c,hmu,e⟩:=hr.ptrE
    exact ⟨_,a.eval x,w,Z,μ,.inl (by simp [execOp,e]),hk,hr,hg,.refl⟩
   ·rename_i h1;rw [h1] at hr
    obtain ⟨c,hmu,_,_,e⟩:=hr.eptE
    exact ⟨_,a.eval x,w,Z,μ,.inl (by simp [execOp,e]),hk,hr,hg,.refl⟩
   ·rename_i h1;rw [h1] at hr
    obtain ⟨_,_,_,e,_⟩:=hr.roE
    exact ⟨_,a.eval x,w,Z,μ,.inl (by simp [execOp,e]),hk,hr,hg,.refl⟩
   ·rename_i h1;rw [h1] at hr
    obtain ⟨cs,e,_⟩:=hr.cloE
    exact ⟨_,a.eval x,w,Z,μ,.inl (by rename_i fk _ _;cases fk<;>simp [execOp,e,FK.val]),hk,hr,hg,.refl⟩
   ·exact hk.elim
 | binOp op t x y yt =>
   simp only [comp] at hc
   split at hc
   ·rename_i x' y' h1 h2 h3
    simp only [zd] at hc;subst hc
    exact Qm (al9 hg (hρ _ _ h2) (hρ _ _ h3))
   ·rename_i x' y' h1 h2 h3
    simp only [zd] at hc;subst hc
    exact Qm (al9 hg (hρ _ _ h2) (hρ _ _ h3))
   ·rename_i x' y' h1 h2 h3
    split at hc
    ·simp only [zd] at hc;subst hc
     exact Qm (al7 (neg:=false) hg h1 (hρ _ _ h2) (hρ _ _ h3))
    ·simp only [zd] at hc;subst hc
     exact Qm (al7 (neg:=true) hg h1 (hρ _ _ h2) (hρ _ _ h3))
    ·cases hc
   ·rename_i fs x' y' h1 h2 h3
    split at hc
    ·rename_i ks hks
     split at hc
     ·cases hc
     ·rename_i hcond
      have c1:C.P.eqGuardType C.P.depth t = false:=by
       cases h:C.P.eqGuardType C.P.depth t with
       | false=>rfl
       | true=>exact (hcond (.inl h)).elim
      have c2:Js C.P t = some ks.length:=by
       by_cases h:Js C.P t = some ks.length
       ·exact h
       ·exact (hcond (.inr h)).elim
      split at hc
      ·simp only [zd] at hc;subst hc
       exact Qm (agU (neg:=false) hg h1 hks c2 c1 (hρ _ _ h2) (hρ _ _ h3))
      ·simp only [zd] at hc;subst hc
       exact Qm (agU (neg:=true) hg h1 hks c2 c1 (hρ _ _ h2) (hρ _ _ h3))
      ·cases hc
    ·cases hc
   ·rename_i e x' y' h1 h2 h3
    split at hc
    ·rename_i hn
     have hy:y = .const (.slice none 0 0):=by
      unfold apg at hn;split at hn
      ·rfl
      ·cases hn
     subst hy
     split at hc
     ·simp only [zd] at hc;subst hc
      exact Qm (xw (neg:=false) hg h1 (hρ _ _ h2))
     ·simp only [zd] at hc;subst hc
      exact Qm (xw (neg:=true) hg h1 (hρ _ _ h2))
     ·cases hc
    ·cases hc
   ·rename_i ps rs va x' y' h1 h2 h3
    split at hc
    ·rename_i hn
     have hy:y = .const .nilFunc:=by
      unfold api at hn;split at hn
      ·rfl
      ·cases hn
     subst hy
     split at hc
     ·simp only [zd] at hc;subst hc
      exact Qm (aeI (neg:=false) hg h1 (hρ _ _ h2))
     ·simp only [zd] at hc;subst hc
      exact Qm (aeI (neg:=true) hg h1 (hρ _ _ h2))
     ·cases hc
    ·cases hc
   ·rename_i e x' y' h1 h2 h3
    split at hc
    ·rename_i hn
     have hy:y = .const .nilIface:=by
      unfold aph at hn;split at hn
      ·rfl
      ·cases hn
     subst hy
     split at hc
     ·simp only [zd] at hc;subst hc
      exact Qm (xy (neg:=false) hg h1 (hρ _ _ h2))
     ·simp only [zd] at hc;subst hc
      exact Qm (xy (neg:=true) hg h1 (hρ _ _ h2))
     ·cases hc
    ·cases hc
   ·cases hc
 | unOp op t x =>
   simp only [comp,ze] at hc
   obtain ⟨x',hx',rfl⟩:=hc
   exact Qm (arg hg (hρ _ _ hx'))
 | convert sT dT x =>
   simp only [comp] at hc
   split at hc
   ·rename_i k' k x' h1 h2 h3
    simp only [zd] at hc;subst hc
    exact Qm (al8 hg h1 h2 (hρ _ _ h3))
   ·rename_i x' h1 h2 h3
    simp only [zd] at hc;subst hc
    exact Qm (apU hg h1 h2 (hρ _ _ h3))
   ·rename_i e x' h1 h2 h3
    split at hc
    ·rename_i h4 h5
     simp only [zd] at hc;subst hc
     exact Qm (akA hg hf hm h1 h2 h4 (hρ _ _ h3))
    ·cases hc
   ·rename_i e x' h1 h2 h3
    split at hc
    ·rename_i h4
     simp only [zd] at hc;subst hc
     exact Qm (akB hg h1 h2 h4 (hρ _ _ h3))
    ·cases hc
   ·cases hc
 | makeFunc fn first cap =>
   cases fn with
   | func f =>
     simp only [comp] at hc
     split at hc
     ·rename_i hfi
      simp only [ze] at hc
      obtain ⟨cs,h1,rfl⟩:=hc
      exact Qm (anT hg hρ hfi h1)
     ·split at hc
      ·rename_i hca
       simp only [ze] at hc
       obtain ⟨cs,h1,rfl⟩:=hc
       exact Qm (al4 hg hρ hca h1)
      ·cases hc
   | _=>simp [comp] at hc
 | makeSlice t l c =>
   simp only [comp] at hc
   split at hc
   ·rename_i e hu
    split at hc
    ·rename_i sz by_ g z l' c' h1 h2 h3 h4 h5 h6
     split at hc
     ·rename_i hcond
      simp only [zd] at hc;subst hc
      exact Qm (aiB hg hf hm hu h1 h2 h4 hcond.2.1 hcond.2.2.1 (yq hcond.2.2.2) (hρ _ _ h5) (hρ _ _ h6))
     ·cases hc
    ·cases hc
   ·cases hc
 | slice t x lo hi mx =>
   simp only [comp] at hc
   split at hc
   ·rename_i x' lo' hi' h1 h2 h3 h4
    simp only [zd] at hc;subst hc
    exact Qm (al2 hg h1 hρ h3 h4 (hρ _ _ h2))
   ·rename_i e x' lo' hi' h1 h2 h3 h4
    simp only [ze] at hc
    obtain ⟨sz,hsz,rfl⟩:=hc
    exact Qm (anQ hg h1 hsz hρ h3 h4 (hρ _ _ h2))
   ·cases hc
 | fieldAddr t x i =>
   simp only [comp] at hc
   split at hc
   ·rename_i fs x' h1 h2
    split at hc
    ·rename_i f hf'
     split at hc
     ·rename_i n hn
      simp only [zd] at hc;subst hc
      exact Qm (al6 hg h1 hf' hn (hρ _ _ h2))
     ·cases hc
    ·cases hc
   ·cases hc
 | field t x i =>
   simp only [comp] at hc
   split at hc
   ·rename_i fs x' h1 h2
    split at hc
    ·rename_i f hf'
     split at hc
     ·rename_i g sz h3 h4
      simp only [zd] at hc;subst hc
      exact Qm (apV hg h1 hf' h3 h4 (hρ _ _ h2))
     ·cases hc
    ·cases hc
   ·cases hc
 | indexAddr t x i =>
   simp only [comp] at hc
   split at hc
   ·rename_i e x' i' h1 h2 h3
    simp only [ze] at hc
    obtain ⟨sz,hsz,rfl⟩:=hc
    exact Qm (al5 hg h1 hsz (hρ _ _ h2) (hρ _ _ h3))
   ·rename_i n e x' i' h1 h2 h3
    split at hc
    ·rename_i hn
     simp only [ze] at hc
     obtain ⟨sz,hsz,rfl⟩:=hc
     exact Qm (akz hg hn h1 hsz (hρ _ _ h2) (hρ _ _ h3))
    ·cases hc
   ·cases hc
 | index t x i =>
   simp only [comp] at hc
   split at hc
   ·rename_i x' i' h1 h2 h3
    simp only [zd] at hc;subst hc
    exact Qm (anY hg h1 (hρ _ _ h2) (hρ _ _ h3))
   ·rename_i n e x' i' h1 h2 h3
    split at hc
    ·rename_i g sz h4 h5
     simp only [zd] at hc;subst hc
     exact Qm (anZ hg h1 h4 h5 (hρ _ _ h2) (hρ _ _ h3))
    ·cases hc
   ·cases hc
 | extract x i =>
   simp only [comp,ze] at hc
   obtain ⟨x',hx',rfl⟩:=hc
   exact Qm (apW hg (hρ _ _ hx'))
 | makeMap t rs =>
   cases rs with
   | none =>
     simp only [comp,zd] at hc;subst hc
     exact Qm (al3 hg hf hm)
   | some x=>simp [comp] at hc
 | mapUpdate t m k v =>
   simp only [comp] at hc
   split at hc
   ·rename_i kt e m' k' v' h1 h2 h3 h4
    split at hc
    ·rename_i kg ks hk
     simp only [zd] at hc;subst hc
     exact aaU (aeH hg h1 hk (hρ _ _ h2) (hρ _ _ h3) (hρ _ _ h4))
    ·cases hc
   ·cases hc
 | insert t m k v =>
   simp only [comp] at hc
   split at hc
   ·rename_i kt e m' k' v' h1 h2 h3 h4
    split at hc
    ·rename_i kg ks hk
     simp only [zd] at hc;subst hc
     exact aaU (aeH hg h1 hk (hρ _ _ h2) (hρ _ _ h3) (hρ _ _ h4))
    ·cases hc
   ·cases hc
 | lookup t m k ok =>
   simp only [comp] at hc
   split at hc
   ·rename_i kt e m' k' h1 h2 h3
    split at hc
    ·rename_i kg ks s g z q0 q1 q2 q3
     split at hc
     ·rename_i hcond
      simp only [zd] at hc;subst hc
      exact Qm (akx hg h1 q0 q3 hcond.1 (yq hcond.2) (hρ _ _ h2) (hρ _ _ h3))
     ·cases hc
    ·cases hc
   ·cases hc
 | range t x =>
   simp only [comp] at hc
   split at hc
   ·rename_i kt e x' h1 h2
    simp only [zd] at hc;subst hc
    exact Qm (apS hg hf hm h1 (hρ _ _ h2))
   ·cases hc
 | next x isS =>
   simp only [comp] at hc
   split at hc
   ·cases hc
   ·rename_i hS
    simp only [Bool.not_eq_true] at hS
    subst hS
    simp only [ze] at hc
    obtain ⟨x',hx',rfl⟩:=hc
    exact Qm (apT hg (hρ _ _ hx'))
 | entry x =>
   simp only [comp,ze] at hc
   obtain ⟨x',hx',rfl⟩:=hc
   exact Qm (apX hg (hρ _ _ hx'))
 | panic x =>
   simp only [comp,zd] at hc;subst hc
   intro K hk
   exact hk.elim
 | makeInterface t x =>
   simp only [comp] at hc
   split at hc
   ·cases hc
   ·rename_i d x' hni h1 h2
    simp only [zd] at hc;subst hc
    refine Qm (anS hg h1 ?_)
    rintro ms rfl
    exact hni _ rfl
   ·cases hc
 | call c =>
   obtain ⟨callee,args,argTypes⟩:=c
   simp only [comp] at hc
   split at hc
   ·simp only [zd] at hc;subst hc;cases hp
   ·simp only [ze] at hc
    obtain ⟨x',_,rfl⟩:=hc;cases hp
   ·
    rename_i x' h1 h2
    obtain ⟨y,rfl,hr⟩:=aju hρ h2
    split at hc
    ·rename_i h3
     obtain ⟨t,ht,hu⟩:=YN h3
     simp only [zd] at hc;subst hc
     exact Yc (b:=b) .len argTypes type #[y] a (anV (ty:=type) hg ht hu hr) (by simp [builtin])
    ·rename_i h3
     obtain ⟨t,ht,hu⟩:=YN h3
     simp only [zd] at hc;subst hc
     exact Yc (b:=b) .len argTypes type #[y] a (anW (ty:=type) hg ht hu hr) (by simp [builtin])
    ·rename_i h3
     obtain ⟨t,ht,hu⟩:=YN h3
     simp only [zd] at hc;subst hc
     exact Yc (b:=b) .len argTypes type #[y] a (anX (cx:=a.eval y) (ty:=type) hg ht hu) (by simp [builtin])
    ·rename_i h3
     obtain ⟨t,ht,hu⟩:=YN h3
     simp only [zd] at hc;subst hc
     exact Yc (b:=b) .len argTypes type #[y] a (akw (ty:=type) hg ht hu hr) (by simp [builtin])
    ·cases hc
   ·
    rename_i x' h1 h2
    obtain ⟨y,rfl,hr⟩:=aju hρ h2
    split at hc
    ·rename_i h3
     obtain ⟨t,ht,hu⟩:=YN h3
     simp only [zd] at hc;subst hc
     exact Yc (b:=b) .clear argTypes type #[y] a (aky (ty:=type) hg ht hu hr) (by simp [builtin])
    ·rename_i e h3
     obtain ⟨t,ht,hu⟩:=YN h3
     split at hc
     ·rename_i sz g z q1 q2 q3
      split at hc
      ·rename_i hcond
       simp only [zd] at hc;subst hc
       exact Yc (b:=b) .clear argTypes type #[y] a (an1 (ty:=type) hg ht hu q3 hcond.2.1 hcond.2.2.1 (yq hcond.2.2.2) hr) (by simp [builtin])
      ·cases hc
     ·cases hc
    ·cases hc
   ·
    rename_i x' y' h1 h2
    obtain ⟨u,v,rfl,hr1,hr2⟩:=ajt hρ h2
    split at hc
    ·rename_i e d h3 h4
     obtain ⟨st,hst,hu1⟩:=YN h3
     obtain ⟨xt,hxt,hu2⟩:=YN h4
     split at hc
     ·rename_i sz by_ z q1 q2 q3
      split at hc
      ·rename_i hcond
       simp only [zd] at hc;subst hc
       exact Yc (b:=b) .append argTypes type #[u,v] a (akD (ty:=type) hg hf hm ⟨hst,hu1,q1,hxt,.inl ⟨d,hu2⟩,q2,hcond.2.1,hcond.2.2.1,q3,hcond.2.2.2.1⟩ hr1 hr2) (by simp [builtin])
      ·cases hc
     ·cases hc
    ·rename_i e h3 h4
     obtain ⟨st,hst,hu1⟩:=YN h3
     obtain ⟨xt,hxt,hu2⟩:=YN h4
     split at hc
     ·rename_i z q1 q2 q3
      split at hc
      ·rename_i hcond
       simp only [zd] at hc;subst hc
       exact Yc (b:=b) .append argTypes type #[u,v] a (aiC (ty:=type) hg hf hm ⟨hst,hu1,q1,hxt,.inr hu2,q2,by omega,by omega,q3,hcond.1⟩ hr1 hr2) (by simp [builtin])
      ·cases hc
     ·cases hc
    ·cases hc
   ·
    rename_i x' y' h1 h2
    obtain ⟨u,v,rfl,hr1,hr2⟩:=ajt hρ h2
    split at hc
    ·rename_i e h3
     obtain ⟨st,hst,hu1⟩:=YN h3
     simp only [ze] at hc
     obtain ⟨sz,hsz,rfl⟩:=hc
     exact Yc (b:=b) .copy argTypes type #[u,v] a (an0 (ty:=type) hg hst hu1 hsz hr1 hr2) (by simp [builtin])
    ·cases hc
   ·rename_i x' xs' h1 h2
    simp only [zd] at hc;subst hc
    exact Yc (b:=b) .max argTypes type args a (apa (mx:=true) (ts:=argTypes) (ty:=type) hg hρ h2) rfl
   ·rename_i x' xs' h1 h2
    simp only [zd] at hc;subst hc
    exact Yc (b:=b) .min argTypes type args a (apa (mx:=false) (ts:=argTypes) (ty:=type) hg hρ h2) rfl
   ·cases hc
 | _=>simp [comp] at hc
end
end Av
end
section
namespace Av
open Go
mutual
def V.ren (σ:Nat→Nat):V→V
 | .hd a off len=>.hd (σ a) off len
 | .ptr a off=>.ptr (σ a) off
 | .ept a i off=>.ept (σ a) i off
 | .mp a=>.mp (σ a)
 | .agg cs=>.agg (KS σ cs)
 | .tup cs=>.tup (KS σ cs)
 | .clo f cs=>.clo f (KS σ cs)
 | v=>v
def KS (σ:Nat→Nat):List V→List V
 | []=>[]
 | v :: r=>v.ren σ :: KS σ r
end
theorem Qy (σ:Nat→Nat):∀ cs:List V,(KS σ cs).length = cs.length
 | []=>rfl
 | v :: r=>by simp [KS,Qy σ r]
theorem YF (σ:Nat→Nat):∀ (cs:List V) (j:Nat) (h:j < cs.length) (h':j < (KS σ cs).length),(KS σ cs)[j] = cs[j].ren σ
 | [],j,h,_=>by simp at h
 | v :: r,0,_,_=>rfl
 | v :: r,j + 1,h,h'=>by
   simp only [KS,List.getElem_cons_succ]
   exact YF σ r j (by simpa using h) _
def Ob.ren (σ:Nat→Nat):Ob→Ob
 | .box wr cs=>.box wr (KS σ cs)
 | .typ T x=>.typ T (x.ren σ)
 | .obuf wr s xs=>.obuf wr s (KS σ xs)
 | .map ks vs c0=>.map ks (KS σ vs) c0
 | .iter a since seen last=>.iter (σ a) since seen last
 | x=>x
theorem xK (σ:Nat→Nat) (x:V):(x.ren σ).cells = KS σ x.cells:=by cases x<;>rfl
theorem Rep.ren {w:World} {Z:Nat→Nat→Prop} {μ μ':Nat→Option Cn} {σ:Nat→Nat} {v:Value} {x:V} (h:Rep w Z μ v x) (hσ:∀ a c,μ a = some c→μ' (σ a) = some c):Rep w Z μ' v (x.ren σ):=by
 induction h generalizing μ' with
 | top=>exact .top
 | sc h=>exact .sc h
 | nn=>exact .nn
 | sl0=>exact .sl0
 | sl f h0 h1 h2 h3 _=>exact .sl f h0 h1 h2 h3
 | hd h hv=>exact .hd (hσ _ _ h) hv
 | ptr h=>exact .ptr (hσ _ _ h)
 | ept h hv hi=>exact .ept (hσ _ _ h) hv hi
 | mp h=>exact .mp (hσ _ _ h)
 | ro f h1 h2 _=>exact .ro f h1 h2
 | agg hl ho _ ih=>exact .agg (by rw [Qy];exact hl) ho (fun j h h'=>by rw [Qy] at h;rw [YF σ _ j h];exact ih j h h' hσ)
 | tup hl _ ih=>exact .tup (by rw [Qy];exact hl) (fun j h h'=>by rw [Qy] at h;rw [YF σ _ j h];exact ih j h h' hσ)
 | clo hl _ ih=>exact .clo (by rw [Qy];exact hl) (fun j h h'=>by rw [Qy] at h;rw [YF σ _ j h];exact ih j h h' hσ)
 | clm hl _ ih=>exact .clm (by rw [Qy];exact hl) (fun j h h'=>by rw [Qy] at h;rw [YF σ _ j h];exact ih j h h' hσ)
theorem wj {σ:Nat→Nat} {c:Cn} {x:Ob}:(x.ren σ).live c↔x.live c:=by
 induction x with
 | typ T x ih=>exact ih
 | _=>rfl
theorem BOk.ren {w:World} {Z:Nat→Nat→Prop} {μ μ':Nat→Option Cn} {σ:Nat→Nat} {c:Cn} {wr:Bool} {s:Nat} {xs:List V} (h:BOk w Z μ c wr s xs) (hσ:∀ a c,μ a = some c→μ' (σ a) = some c):BOk w Z μ' c wr s (KS σ xs):=by
 refine ⟨by rw [Qy];exact h.1,fun hv=>?_⟩
 obtain ⟨h0,h1,h2,h3,h4,cs,ty,fr,hh,h5,h6,h7⟩:=h.2 hv
 refine ⟨h0,h1,h2,h3,fun i hi=>?_,cs,ty,fr,hh,h5,h6,fun i hi j hj=>?_⟩
 ·grind [Qy,YF,xK]
 ·have hi':i < xs.length:=by rw [Qy] at hi;exact hi
  have hj':j < xs[i].cells.length:=by
   grind [YF,xK,Qy]
  obtain ⟨v,e1,e2,e3⟩:=h7 i hi' j hj'
  refine ⟨v,e1,e2,?_⟩
  have:(KS σ xs)[i].cells[j] = (xs[i].cells[j]).ren σ:=by
   grind [YF,xK]
  rw [this];exact e3.ren hσ
theorem yr.ren {w:World} {Z:Nat→Nat→Prop} {μ μ':Nat→Option Cn} {σ:Nat→Nat} {c:Cn} {x:Ob} (h:yr w Z μ c x) (hσ:∀ a c,μ a = some c→μ' (σ a) = some c):yr w Z μ' c (x.ren σ):=by
 induction x with
 | dead=>trivial
 | typ T x ih=>exact ⟨ih h.1,h.2.1,fun hl=>h.2.2 ((wj).1 hl)⟩
 | box wr cells =>
   obtain ⟨hv,⟨cs,ty,hh,hs,hr⟩,hz⟩:=h
   exact ⟨hv,⟨cs,ty,hh,by rw [Qy];exact hs,fun j h h'=>by
    rw [Qy] at h
    rw [YF σ _ j h]
    exact ⟨(hr j h h').1.ren hσ,(hr j h h').2⟩⟩,hz⟩
 | buf wr sz xs=>exact h
 | obuf wr sz xs=>exact BOk.ren h hσ
 | map ks vs c0 =>
   obtain ⟨h1,es,h2,h3,h4⟩:=h
   exact ⟨by rw [Qy];exact h1,es,h2,h3,fun i hi hk hv=>by
    have hv':i < vs.length:=by grind
    rw [YF σ _ i hv']
    exact ⟨(h4 i hi hk hv').1,(h4 i hi hk hv').2.1,(h4 i hi hk hv').2.2.ren hσ⟩⟩
 | iter a since seen last =>
   obtain ⟨d,h1,h2⟩:=h
   exact ⟨d,hσ _ _ h1,h2⟩
def Xx (P:Program) (f:FuncId) (args:Array Value) (w:World) (R:Ending→World→Prop):Prop :=
 match (callFunc f args).run P w with
 | .ok (.value v) w'=>R (.returned v) w'
 | .ok (.enter f args) w'=>Calls P f args w' R
 | .ok (.row row args) w'=>Rows P row args w' fun v w''=>R (.returned v) w''
 | _=>False
def Own (P:Program) (f:FuncId):Prop:=∃ fn,P.funcs[f]? = some fn∧fn.name≠"runtime.NumGoroutine"∧∃ c,fn.body = some c
theorem Xd {P:Program} {f:FuncId} (h:Own P f) (args:Array Value) (w:World) (R:Ending→World→Prop):Xx P f args w R↔Calls P f args w R:=by
 obtain ⟨fn,h1,h2,c,h3⟩:=h
 simp_all [callFunc,Xx]
def Ev (Γ:Env) (f:FuncId) (args:List V) (ins:List Ob) (res:V) (outs:List Ob):Prop :=
 ∀ (C:Ctx) (cargs:Array Value),C.env = Γ→C.m = ins.length→(∀ k,ins.length≤k→C.μ0 k = none)→Good C C.w0 C.Z0 C.μ0 (fun k=>ins[k]?) →
  (∀ b,C.F b→∃ k x c,ins[k]? = some x∧C.μ0 k = some c∧x.live c∧c.block = b) →
  cargs.size = args.length→(∀ i (h:i < args.length) (h':i < cargs.size),Rep C.w0 C.Z0 C.μ0 cargs[i] args[i]) →
  Xx Γ.P f cargs C.w0 (fun e w'=>∃ v Z' μ',e = .returned v∧Rep w' Z' μ' v res∧Good C w' Z' μ' (fun k=>outs[k]?)∧∀ k,outs.length≤k→μ' k = none)
def EvP (Γ:Env) (f:FuncId) (args:List V) (ins:List Ob) (Q:V→List Ob→Prop):Prop :=
 ∀ (C:Ctx) (cargs:Array Value),C.env = Γ→C.m = ins.length→(∀ k,ins.length≤k→C.μ0 k = none)→Good C C.w0 C.Z0 C.μ0 (fun k=>ins[k]?) →
  (∀ b,C.F b→∃ k x c,ins[k]? = some x∧C.μ0 k = some c∧x.live c∧c.block = b) →
  cargs.size = args.length→(∀ i (h:i < args.length) (h':i < cargs.size),Rep C.w0 C.Z0 C.μ0 cargs[i] args[i]) →
  Xx Γ.P f cargs C.w0 (fun e w'=>∃ res outs,Q res outs∧∃ v Z' μ',e = .returned v∧Rep w' Z' μ' v res∧Good C w' Z' μ' (fun k=>outs[k]?)∧∀ k,outs.length≤k→μ' k = none)
theorem Xx.mono {P:Program} {f:FuncId} {args:Array Value} {w:World} {R R':Ending→World→Prop} (h:Xx P f args w R) (hr:∀ e w',R e w'→R' e w'):Xx P f args w R':=by
 grind [Xx,Calls.mono,Rows.mono]
theorem Ev.p {Γ:Env} {f:FuncId} {args:List V} {ins:List Ob} {res:V} {outs:List Ob} (h:Ev Γ f args ins res outs):EvP Γ f args ins (fun r o=>r = res∧o = outs) :=
 fun C cargs h1 h2 h3 h4 h5 h6 h7=>(h C cargs h1 h2 h3 h4 h5 h6 h7).mono fun _ _ h=>⟨res,outs,⟨rfl,rfl⟩,h⟩
theorem EvP.one {Γ:Env} {f:FuncId} {args:List V} {ins:List Ob} {res:V} {outs:List Ob} (h:EvP Γ f args ins (fun r o=>r = res∧o = outs)):Ev Γ f args ins res outs :=
 fun C cargs h1 h2 h3 h4 h5 h6 h7=>(h C cargs h1 h2 h3 h4 h5 h6 h7).mono fun _ _ ⟨_,_,⟨e1,e2⟩,hh⟩=>by subst e1;subst e2;exact hh
theorem EvP.weaken {Γ:Env} {f:FuncId} {args:List V} {ins:List Ob} {Q Q':V→List Ob→Prop} (h:EvP Γ f args ins Q) (hq:∀ r o,Q r o→Q' r o):EvP Γ f args ins Q' :=
 fun C cargs h1 h2 h3 h4 h5 h6 h7=>(h C cargs h1 h2 h3 h4 h5 h6 h7).mono fun _ _ ⟨r,o,hq',h⟩=>⟨r,o,hq _ _ hq',h⟩
def ntL:List V→Prop
 | []=>True
 | v :: r=>v≠.top∧ntL r
theorem ami:∀ {l:List V},ntL l→∀ i (h:i < l.length),l[i]≠.top
 | v :: r,h,0,_=>h.1
 | v :: r,h,i + 1,hi=>ami (l:=r) h.2 i (by simpa using hi)
def okB (B:Option (List Nat)) (a:Nat):Prop :=
 match B with
 | none=>True
 | some l=>a∈l
mutual
def conv (o:Nat→Option Ob) (br:List Nat) (B:Option (List Nat)):V→V→Prop
 | _,.top=>True
 | .sl s xs,.sl s' ys=>s = s'∧xs = ys
 | .hd a off len,.sl s' ys=>okB B a∧a ∉ br∧((∃ wr xs,o a = some (.buf wr s' xs)∧ys = (xs.drop off).take len)∨(∃ wr xs,o a = some (.obuf wr s' xs)∧QE o br B ((xs.drop off).take len) ys∧ntL ys∧Qa ys))
 | .sc (.slice none 0 0),.sl _ ys=>ys = []
 | .hd a off len,.hd k off' len'=>br[k]? = some a∧off' = off∧len' = len
 | .ptr a off,.ptr k off'=>br[k]? = some a∧off' = off
 | .mp a,.mp k=>br[k]? = some a
 | .ptr a off,.ro cells off'=>okB B a∧a ∉ br∧off' = off∧Qa cells∧∃ wr cs,o a = some (.box wr cs)∧QE o br B cs cells
 | .ro cs off,.ro cells off'=>cs = cells∧off' = off
 | .agg cs,.agg es=>QE o br B cs es
 | .tup cs,.tup es=>QE o br B cs es
 | .clo f cs,.clo g es=>f = g∧QE o br B cs es
 | .sc v,.sc u=>v = u
 | .nn,.nn=>True
 | _,_=>False
def QE (o:Nat→Option Ob) (br:List Nat) (B:Option (List Nat)):List V→List V→Prop
 | [],[]=>True
 | v :: r,e :: r'=>conv o br B v e∧QE o br B r r'
 | _,_=>False
end
def air (c:Cn):Ob→Nat→Prop
 | .dead,_=>False
 | .box _ _,_=>True
 | .buf _ _ _,i=>i < c.base + c.n * c.sz
 | .obuf _ _ _,i=>i < c.base + c.n * c.sz
 | .map _ _ _,_=>False
 | .iter _ _ _ _,_=>False
 | .typ _ x,i=>air c x i
section
variable {C:Ctx} {w:World} {Z:Nat→Nat→Prop} {μ:Nat→Option Cn} {o:Nat→Option Ob}
def Fb (o:Nat→Option Ob) (μ:Nat→Option Cn) (br:List Nat) (b:Nat):Prop:=∃ a∈br,∃ x c,o a = some x∧μ a = some c∧x.live c∧c.block = b
def Zc (Z:Nat→Nat→Prop) (o:Nat→Option Ob) (μ:Nat→Option Cn) (br:List Nat) (B:Option (List Nat)) (b i:Nat):Prop :=
 Z b i∨∃ a x c,okB B a∧a ∉ br∧o a = some x∧μ a = some c∧x.live c∧c.block = b∧air c x i
def βc (μ:Nat→Option Cn) (br:List Nat) (k:Nat):Option Cn:=(br[k]?).bind μ
theorem JV {br:List Nat} {B:Option (List Nat)}:∀ {cs es:List V},QE o br B cs es→cs.length = es.length
 | [],[],_=>rfl
 | [],_ :: _,h=>by simp [QE] at h
 | _ :: _,[],h=>by simp [QE] at h
 | v :: r,e :: r',h=>by simp only [QE] at h;simp [JV h.2]
theorem Wp {br:List Nat} {B:Option (List Nat)}:∀ {cs es:List V},QE o br B cs es→∀ j (h:j < cs.length) (h':j < es.length),conv o br B cs[j] es[j]
 | [],_,_,j,h,_=>by simp at h
 | v :: r,[],h,_,_,h'=>by simp at h'
 | v :: r,e :: r',h,0,_,_=>by grind [QE]
 | v :: r,e :: r',h,j + 1,hj,hj'=>by simp only [QE] at h;exact Wp h.2 j (by simpa using hj) (by simpa using hj')
theorem ak9 (y:V) (j:Nat) (h:j < y.cells.length):sizeOf y.cells[j]≤sizeOf y:=by
 have one:y.cells = [y]→sizeOf y.cells[j]≤sizeOf y:=by grind
 cases y with
 | agg cs =>
   have:=kX (zN (l:=cs) h)
   show sizeOf cs[j]≤sizeOf (V.agg cs)
   simp;omega
 | _=>exact one rfl
theorem ak0 {br:List Nat} {B:Option (List Nat)} {x e:V} (h:conv o br B x e) (he:e≠.top):x.cells.length = e.cells.length∧∀ j (h:j < x.cells.length) (h':j < e.cells.length),conv o br B x.cells[j] e.cells[j]:=by
 have one:∀ {y z:V},y.cells = [y]→z.cells = [z]→conv o br B y z→y.cells.length = z.cells.length∧∀ j (h:j < y.cells.length) (h':j < z.cells.length),conv o br B y.cells[j] z.cells[j]:=by
  grind
 cases e with
 | top=>exact (he rfl).elim
 | agg es =>
   cases x<;>simp only [conv] at h
   rename_i cs
   exact ⟨JV h,fun j h1 h2=>Wp h j h1 h2⟩
 | sl s ys=>cases x<;>first|exact one rfl rfl h|simp [conv] at h
 | sc u=>cases x<;>first|exact one rfl rfl h|simp [conv] at h
 | nn=>cases x<;>first|exact one rfl rfl h|simp [conv] at h
 | hd a b c=>cases x<;>first|exact one rfl rfl h|simp [conv] at h
 | ptr a b=>cases x<;>first|exact one rfl rfl h|simp [conv] at h
 | ept a b c=>cases x<;>first|exact one rfl rfl h|simp [conv] at h
 | mp a=>cases x<;>first|exact one rfl rfl h|simp [conv] at h
 | ro a b=>cases x<;>first|exact one rfl rfl h|simp [conv] at h
 | tup a=>cases x<;>first|exact one rfl rfl h|simp [conv] at h
 | clo a b=>cases x<;>first|exact one rfl rfl h|simp [conv] at h
theorem Ug (hg:Good C w Z μ o) (br:List Nat) (B:Option (List Nat)):∀ (n:Nat) (exp act:V) (v:Value),sizeOf exp≤n→Rep w Z μ v act→conv o br B act exp→Rep w (Zc Z o μ br B) (βc μ br) v exp:=by
 have hz:∀ b i,Z b i→Zc Z o μ br B b i:=fun b i h=>.inl h
 intro n
 induction n with
 | zero=>intro exp act v hs;cases exp<;>simp at hs
 | succ n ih =>
   intro exp act v hs hr hc
   have list:∀ (es cs:List V) (vs:Array Value),sizeOf es≤n→vs.size = cs.length→(∀ j (h:j < cs.length) (h':j < vs.size),Rep w Z μ vs[j] cs[j])→QE o br B cs es →
     vs.size = es.length∧∀ j (h:j < es.length) (h':j < vs.size),Rep w (Zc Z o μ br B) (βc μ br) vs[j] es[j]:=by
    intro es cs vs hs hl hr hc
    have h1:=JV hc
    refine ⟨by omega,fun j h h'=>ih _ _ _ ?_ (hr j (by omega) h') (Wp hc j (by omega) h)⟩
    have:=kX (zN h)
    omega
   cases exp with
   | top=>exact .top
   | sc u=>cases act<;>simp only [conv] at hc;subst hc;obtain ⟨rfl,h⟩:=hr.scE;exact .sc h
   | nn=>cases act<;>simp only [conv] at hc;obtain ⟨t,u,rfl⟩:=hr.nnE;exact .nn
   | sl s' ys =>
     cases act with
     | sl s xs =>
       simp only [conv] at hc
       obtain ⟨rfl,rfl⟩:=hc
       cases hr with
       | sl0=>exact .sl0
       | sl f h0 h1 h2 h3=>exact (Rep.sl f h0 h1 h2 h3:Rep w Z (βc μ br) _ _).mono (fun _ _ _=>rfl) hz (fun _ _ h=>h)
     | hd a off len =>
       simp only [conv] at hc
       obtain ⟨hB,hbr,hc⟩:=hc
       rcases hc with ⟨wr,xs,hoa,rfl⟩|⟨wr,xs,hoa,hcv,hnt,hcl⟩
       ·skip
        obtain ⟨c,hm,hh⟩:=hr.hdE
        obtain ⟨c',hm',hok,_⟩:=hg.ob a _ hoa
        rw [hm] at hm';cases hm'
        cases hvo:c.void with
        | true =>
          obtain ⟨rfl,rfl,rfl⟩:=j1 hh hvo
          simp only [List.take_zero];exact .sl0
        | false =>
          obtain ⟨ad,rfl,h3,h4,h5⟩:=j2 hh hvo
          obtain ⟨hlen,hok⟩:=hok
          obtain ⟨h6,h7,h8,h9,h10,cs,ty,fr,hb,h11,h12,h13⟩:=hok hvo
          have hl:((xs.drop off).take len).length = len:=by simp;omega
          by_cases h0:len = 0
          ·subst h0;simp only [List.take_zero];exact .sl0
          ·rw [h5 (by omega)]
           have hrow:Row w Z noμ (fun k=>w.cell? ⟨c.block,c.base + off * c.sz + k,none⟩) s' ((xs.drop off).take len):=by
            have h':Row w Z noμ (fun k=>w.cell? ⟨c.block,c.base + k,none⟩) s' xs:=fun i hi=>⟨h10 i hi,fun j hj=>by
             obtain ⟨u,e1,e2,e3⟩:=h13 i hi j hj
             rw [h6] at e1
             exact ⟨u,by simp only [cell?_of_heap hb];exact e1,e2,e3⟩⟩
            exact ((h'.drop off).take len).congr (fun k _=>by rw [h6,ko])
           rw [← hl]
           have e0:(xs.drop off).take ((xs.drop off).take len).length = (xs.drop off).take len:=by rw [hl]
           rw [e0]
           have hfun:∀ i (hi:i < ((xs.drop off).take len).length) j (hj:j < ((xs.drop off).take len)[i].cells.length),∃ u,w.cell? ⟨c.block,c.base + off * c.sz + (i * s' + j),none⟩ = some u∧u.oneCell' = true∧Rep w Z noμ u ((xs.drop off).take len)[i].cells[j] :=
            fun i hi j hj=>(hrow i hi).2 j hj
           refine Rep.sl (sz:=s') (fun i j=>(w.cell? ⟨c.block,c.base + off * c.sz + (i * s' + j),none⟩).getD undef) (by rw [hl];omega) (fun i hi=>(hrow i hi).1) (fun i hi j hj=>?_) (fun i hi j hj=>?_)
           ·obtain ⟨u,e1,e2,e3⟩:=hfun i hi j hj
            refine ⟨by rw [e1];rfl,.inr ⟨a,_,c,hB,hbr,hoa,hm,hvo,rfl,?_⟩,by rw [e1];exact e2⟩
            have hi':i < len:=by rw [hl] at hi;exact hi
            have hj':j < s':=by rw [(hrow i hi).1] at hj;exact hj
            have b1:(off + i + 1) * s'≤c.n * s':=zL _ (by omega)
            have b2:(off + i + 1) * s' = off * s' + i * s' + s':=by rw [zK,zK];omega
            simp only [air]
            rw [h6];omega
           ·obtain ⟨u,e1,e2,e3⟩:=hfun i hi j hj
            rw [e1]
            exact e3.mono (fun _ _ _=>rfl) hz (fun _ _ h=>h)
       ·skip
        obtain ⟨c,hm,hh⟩:=hr.hdE
        obtain ⟨c',hm',hok,_⟩:=hg.ob a _ hoa
        rw [hm] at hm';cases hm'
        cases hvo:c.void with
        | true =>
          obtain ⟨rfl,rfl,rfl⟩:=j1 hh hvo
          have h0:=JV hcv
          have:ys = []:=by simpa using h0.symm
          subst this;exact .sl0
        | false =>
          obtain ⟨ad,rfl,h3,h4,h5⟩:=j2 hh hvo
          obtain ⟨hlen,hok⟩:=hok
          obtain ⟨h6,h7,h8,h9,h10,cs,ty,fr,hb,h11,h12,h13⟩:=hok hvo
          have hl:((xs.drop off).take len).length = len:=by simp;omega
          have hly:ys.length = len:=by rw [← JV hcv,hl]
          by_cases h0:len = 0
          ·subst h0
           have:ys = []:=ki hly
           subst this;exact .sl0
          ·rw [h5 (by omega)]
           have hrow:Row w Z μ (fun k=>w.cell? ⟨c.block,c.base + off * c.sz + k,none⟩) s' ((xs.drop off).take len):=by
            have h':Row w Z μ (fun k=>w.cell? ⟨c.block,c.base + k,none⟩) s' xs:=fun i hi=>⟨h10 i hi,fun j hj=>by
             obtain ⟨u,e1,e2,e3⟩:=h13 i hi j hj
             rw [h6] at e1
             exact ⟨u,by simp only [cell?_of_heap hb];exact e1,e2,e3⟩⟩
            exact ((h'.drop off).take len).congr (fun k _=>by rw [h6,ko])
           have hcc:=fun i (hi:i < ys.length)=>ak0 (Wp hcv i (by omega) hi) (ami hnt i hi)
           have hsz':∀ i (hi:i < ys.length),ys[i].cells.length = s':=fun i hi=>by rw [← (hcc i hi).1];exact (hrow i (by omega)).1
           have hfun:∀ i (hi:i < ys.length) j (hj:j < ys[i].cells.length),∃ u,w.cell? ⟨c.block,c.base + off * c.sz + (i * s' + j),none⟩ = some u∧u.oneCell' = true∧Rep w (Zc Z o μ br B) noμ u ys[i].cells[j]:=by
            intro i hi j hj
            obtain ⟨u,e1,e2,e3⟩:=(hrow i (by omega)).2 j (by rw [(hcc i hi).1];exact hj)
            have hle:sizeOf ys[i].cells[j]≤n:=by
             have k1:=kX (zN hi)
             have k2:=ak9 ys[i] j hj
             simp at hs;omega
            exact ⟨u,e1,e2,(ih _ _ _ hle e3 ((hcc i hi).2 j (by rw [(hcc i hi).1];exact hj) hj)).close (abD (YZ hcl i hi) j hj)⟩
           rw [← hly]
           refine Rep.sl (sz:=s') (fun i j=>(w.cell? ⟨c.block,c.base + off * c.sz + (i * s' + j),none⟩).getD undef) (by rw [hly];omega) hsz' (fun i hi j hj=>?_) (fun i hi j hj=>?_)
           ·obtain ⟨u,e1,e2,e3⟩:=hfun i hi j hj
            refine ⟨by rw [e1];rfl,.inr ⟨a,_,c,hB,hbr,hoa,hm,hvo,rfl,?_⟩,by rw [e1];exact e2⟩
            have hi':i < len:=by rw [hly] at hi;exact hi
            have hj':j < s':=by rw [hsz' i hi] at hj;exact hj
            have b1:(off + i + 1) * s'≤c.n * s':=zL _ (by omega)
            have b2:(off + i + 1) * s' = off * s' + i * s' + s':=by rw [zK,zK];omega
            simp only [air]
            rw [h6];omega
           ·obtain ⟨u,e1,e2,e3⟩:=hfun i hi j hj
            rw [e1];exact e3
     | sc u =>
       cases u with
       | slice a l c =>
         cases a with
         | none =>
           cases l with
           | zero=>cases c with
             | zero =>
               simp only [conv] at hc
               subst hc
               obtain ⟨rfl,_⟩:=hr.scE
               exact .sl0
             | succ _=>simp [conv] at hc
           | succ _=>simp [conv] at hc
         | some _=>simp [conv] at hc
       | _=>simp [conv] at hc
     | _=>simp [conv] at hc
   | hd k off' len' =>
     cases act<;>simp only [conv] at hc
     obtain ⟨h1,rfl,rfl⟩:=hc
     obtain ⟨c,hm,hh⟩:=hr.hdE
     exact .hd (c:=c) (by simp [βc,h1,hm]) hh
   | ptr k off' =>
     cases act<;>simp only [conv] at hc
     obtain ⟨h1,rfl⟩:=hc
     obtain ⟨c,hm,rfl⟩:=hr.ptrE
     exact .ptr (c:=c) (by simp [βc,h1,hm])
   | ept k i off'=>cases act<;>simp only [conv] at hc
   | mp k =>
     cases act<;>simp only [conv] at hc
     obtain ⟨c,hm,rfl⟩:=hr.mpE
     exact .mp (c:=c) (by simp [βc,hc,hm])
   | ro cells off' =>
     cases act with
     | ptr a off =>
       simp only [conv] at hc
       obtain ⟨hB,hbr,rfl,hcl,wr,cs,hoa,hconv⟩:=hc
       obtain ⟨c,hm,rfl⟩:=hr.ptrE
       obtain ⟨c',hm',hok,_⟩:=hg.ob a _ hoa
       rw [hm] at hm';cases hm'
       obtain ⟨hvo,⟨vs,ty,hb,hsz,hrr⟩,_⟩:=hok
       obtain ⟨l1,l2⟩:=list cells cs vs (by simp at hs;omega) hsz (fun j h h'=>(hrr j h h').1) hconv
       have:=Rep.ro (w:=w) (Z:=Zc Z o μ br B) (μ:=βc μ br) (b:=c.block) (o:=0) (off:=off') (cells:=cells) (fun j=>vs.getD j undef) (fun j hj=>by
        have hj':j < vs.size:=by omega
        refine ⟨?_,.inr ⟨a,_,c,hB,hbr,hoa,hm,trivial,rfl,trivial⟩,?_⟩
        ·rw [cell?_of_heap hb];simp [hj']
        ·simp only [Array.getD_eq_getD_getElem?,zJ hj',Option.getD_some]
         exact (hrr j (by omega) hj').2) (fun j hj=>by
        have hj':j < vs.size:=by omega
        simp only [Array.getD_eq_getD_getElem?,zJ hj',Option.getD_some]
        exact (l2 j hj hj').close (YZ hcl j hj))
       simpa using this
     | ro cs off =>
       simp only [conv] at hc
       obtain ⟨rfl,rfl⟩:=hc
       cases hr with
       | ro f h1 h2=>exact (Rep.ro f h1 h2:Rep w Z (βc μ br) _ _).mono (fun _ _ _=>rfl) hz (fun _ _ h=>h)
     | _=>simp [conv] at hc
   | agg es =>
     cases act<;>simp only [conv] at hc
     obtain ⟨vs,rfl,h1,h2,h3⟩:=hr.aggE
     obtain ⟨l1,l2⟩:=list es _ vs (by simp at hs;omega) h1 h3 hc
     exact .agg l1 h2 l2
   | tup es =>
     cases act<;>simp only [conv] at hc
     obtain ⟨vs,rfl,h1,h3⟩:=hr.tupE
     obtain ⟨l1,l2⟩:=list es _ vs (by simp at hs;omega) h1 h3 hc
     exact .tup l1 l2
   | clo f es =>
     cases act<;>simp only [conv] at hc
     obtain ⟨rfl,hc⟩:=hc
     obtain ⟨vs,rfl,h1,h3⟩:=hr.cloE
     obtain ⟨l1,l2⟩:=list es _ vs (by simp at hs;omega) h1 h3 hc
     exact .cloI l1 l2
end
end Av
end
