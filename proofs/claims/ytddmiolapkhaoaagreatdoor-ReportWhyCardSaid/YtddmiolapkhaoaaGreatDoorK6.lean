/- Maps: lookups, updates, loops over their entries. -/
import Derived.Test.YtddmiolapkhaoaaGreatDoorK5
import Derived.MapKept
import Derived.Laws.IdiomRangeMap
set_option linter.unusedVariables false
set_option linter.unusedSimpArgs false
section
namespace Av
open Go
theorem ami (a b:ByteArray):(a == b) = true↔a = b:=by
 obtain ⟨a⟩:=a;obtain ⟨b⟩:=b
 show (a == b) = true↔_
 simp
theorem akv:∀ (ks:List Nat) (xs ys:List Value),Yb ks xs ys = some true→xs = ys:=by
 intro ks
 induction ks with
 | nil =>
   intro xs ys h
   unfold Yb at h
   split at h<;>simp_all
 | cons k ks ih =>
   intro xs ys h
   unfold Yb at h
   split at h
   ·simp_all
   ·rename_i e1
    cases e1
    split at h
    ·simp only [zk,zo,ki] at h
     obtain ⟨t',e,rfl,rfl⟩:=h
     rw [ih _ _ e];simp_all
    ·cases h
   ·rename_i e1
    cases e1
    simp only [zk,zo,ami] at h
    obtain ⟨t',e,rfl,rfl⟩:=h
    rw [ih _ _ e]
   ·rename_i e1
    cases e1
    simp only [zk,zo,ki] at h
    obtain ⟨t',e,rfl,rfl⟩:=h
    rw [ih _ _ e]
   ·cases h
theorem afH:∀ (ks:List Nat) (xs:List Value) (n:Nat) (t:Bool),Yb ks xs xs = some t→((xs.zip xs).all fun (x,y)=>Instr.sameBits n x y) = true:=by
 intro ks
 induction ks with
 | nil =>
   intro xs n t h
   unfold Yb at h
   split at h<;>simp_all
 | cons k ks ih =>
   intro xs n t h
   unfold Yb at h
   split at h
   ·simp_all
   ·rename_i e1 e2
    cases e1;cases e2
    split at h
    ·simp only [zk] at h
     obtain ⟨t',e,_⟩:=h
     have:=ih _ n _ e
     simp [List.zip_cons_cons,Instr.sameBits,this,(ami _ _).2]
    ·cases h
   ·rename_i e1 e2
    cases e1;cases e2
    simp only [zk] at h
    obtain ⟨t',e,_⟩:=h
    have:=ih _ n _ e
    simp [List.zip_cons_cons,Instr.sameBits,this,(ami _ _).2]
   ·rename_i e1 e2
    cases e1;cases e2
    simp only [zk] at h
    obtain ⟨t',e,_⟩:=h
    have:=ih _ n _ e
    simp [List.zip_cons_cons,Instr.sameBits,this,(ami _ _).2]
   ·cases h
section
variable {w:World} {Z:Nat→Nat→Prop} {μ:Nat→Option Cn}
theorem ad7 {P:Program} {t:TypeId} {ag:Bool} {ks:List Nat} (h:avT P t = some (ag,ks)) :
  (ag = true∧(∃ fs,P.underlying t = some (.struct fs))∧Vw P 20 t = some ks∧Yz P t = some ks.length) ∨
  (ag = false∧((∃ k,P.underlying t = some (.int k)∧ks = [0])∨(P.underlying t = some .string∧ks = [1])∨(P.underlying t = some .bool∧ks = [2]))):=by
 unfold avT at h
 split at h
 ·rename_i ks' fs h1 h2
  split at h
  ·rename_i hc
   simp only [zf,Z9] at h
   obtain ⟨rfl,rfl⟩:=h
   exact .inl ⟨rfl,⟨_,h2⟩,h1,hc.1⟩
  ·cases h
 ·rename_i ks' k h1 h2
  simp only [zf,Z9] at h
  obtain ⟨rfl,rfl⟩:=h
  refine .inr ⟨rfl,.inl ⟨k,h2,?_⟩⟩
  simp only [Vw,h2,zf] at h1
  exact h1.symm
 ·rename_i ks' h1 h2
  simp only [zf,Z9] at h
  obtain ⟨rfl,rfl⟩:=h
  refine .inr ⟨rfl,.inr (.inl ⟨h2,?_⟩)⟩
  simp only [Vw,h2,zf] at h1
  exact h1.symm
 ·rename_i ks' h1 h2
  simp only [zf,Z9] at h
  obtain ⟨rfl,rfl⟩:=h
  refine .inr ⟨rfl,.inr (.inr ⟨h2,?_⟩)⟩
  simp only [Vw,h2,zf] at h1
  exact h1.symm
 ·cases h
inductive KV2 (ks:List Nat):Bool→Value→Value→Bool→Prop
 | agg {xs ys:Array Value} {q:Bool} (h:Yb ks xs.toList ys.toList = some q):KV2 ks true (.agg xs) (.agg ys) q
 | sc {u v:Value} {q:Bool} (h:Yb ks [u] [v] = some q):KV2 ks false u v q
theorem ajt {ag:Bool} {ks:List Nat} {k e:V} {q:Bool} {u v:Value} (h:xh ag ks k e = some q) (hu:Rep w Z μ u k) (hv:Rep w Z μ v e):KV2 ks ag u v q:=by
 unfold xh at h
 split at h
 ·rename_i cs ds
  obtain ⟨xs,rfl,s1,_,r1⟩:=hu.aggE
  obtain ⟨ys,rfl,s2,_,r2⟩:=hv.aggE
  exact .agg (ac9 (w:=w) (Z:=Z) (μ:=μ) ks cs ds q xs.toList ys.toList h (by simpa using s1) (by simpa using s2) (fun j hj hj'=>by simpa using r1 j hj' (by simpa using hj)) (fun j hj hj'=>by simpa using r2 j hj' (by simpa using hj)))
 ·have hu':=hu;have hv':=hv
  obtain ⟨e1,_⟩:=hu.scE
  obtain ⟨e2,_⟩:=hv.scE
  rw [← e1,← e2] at h
  rw [← e1] at hu'
  rw [← e2] at hv'
  refine .sc (ac9 (w:=w) (Z:=Z) (μ:=μ) ks [.sc u] [.sc v] q [u] [v] h rfl rfl (fun j hj hj'=>?_) (fun j hj hj'=>?_))
  ·have:j = 0:=by simp at hj;omega
   subst this;exact hu'
  ·have:j = 0:=by simp at hj;omega
   subst this;exact hv'
 ·cases h
theorem aiM {P:Program} {t:TypeId} {fs:Array Field} {ks:List Nat} (hu:P.underlying t = some (.struct fs)) (hk:Vw P 20 t = some ks) (hsz:Yz P t = some ks.length) {xs ys:Array Value} {q:Bool}
  (hv:Yb ks xs.toList ys.toList = some q):(Op.equal t (.agg xs) (.agg ys)).run P w = .ok q w:=by
 obtain ⟨l1,l2⟩:=UV _ _ _ _ hv
 have hag:acn P t = some true:=by unfold acn;rw [hu];rfl
 obtain ⟨p1,p2,g1,g2,g3⟩:=agt (w:=w) P 20 t ks hk hsz 9980 xs ys 0 q (by
  simp only [kr]
  rw [zj (by omega),zj (by omega)];exact hv)
 rw [Wx hag hsz] at g1 g2
 simp only [if_true,kp] at g1 g2
 have e1:xs.extract 0 ks.length = xs:=by
  have:xs.size = ks.length:=by simpa using l1
  rw [← this];simp
 have e2:ys.extract 0 ks.length = ys:=by
  have:ys.size = ks.length:=by simpa using l2
  rw [← this];simp
 rw [e1] at g1;rw [e2] at g2
 cases g1;cases g2
 exact g3
theorem afI (P:Program):∀ (d:Nat) (t:TypeId) (ks:List Nat),Vw P d t = some ks→Yz P t = some ks.length→∀ (m:Nat) (em:Bool) (xs:Array Value) (off:Nat) (q:Bool),
  Yb ks ((xs.toList.drop off).take ks.length) ((xs.toList.drop off).take ks.length) = some q →
  ∃ p1,(part t xs off).run P w = .ok p1 w∧(Instr.checkKey em (d + m) t p1).run P w = .ok () w:=by
 intro d
 induction d with
 | zero=>intro t ks h;simp [Vw] at h
 | succ d ih =>
   intro t ks h hsz m em xs off q hq
   obtain ⟨hl1,_⟩:=UV _ _ _ _ hq
   have one:ks.length = 1→∃ u1,xs[off]? = some u1∧(xs.toList.drop off).take ks.length = [u1]:=by
    intro h1
    rw [h1] at hl1 ⊢
    have a1:off < xs.size:=by simp at hl1;omega
    refine ⟨xs[off],zA a1,?_⟩
    rw [ka (by simpa using a1)];simp
   simp only [Vw] at h
   split at h
   ·rename_i fs hu
    split at h
    ·cases h
    ·have hag:acn P t = some true:=by unfold acn;rw [hu];rfl
     refine ⟨_,by rw [Wx hag hsz];rfl,?_⟩
     have e1:(xs.extract off (off + ks.length)).toList = (xs.toList.drop off).take ks.length:=by simp [List.take_drop]
     rw [← e1] at hq
     generalize xs.extract off (off + ks.length) = xa at hq
     have fields:∀ (l:List Field) (o':Nat) (ks':List Nat) (q:Bool),axP (Vw P d) P l o' = some ks'→Yb ks' ((xa.toList.drop o').take ks'.length) ((xa.toList.drop o').take ks'.length) = some q →
       (forIn l PUnit.unit (fun f _=>(if f.name≠"_" then do let p ← part f.type xa f.offset;Instr.checkKey em (d + m) f.type p;pure (ForInStep.yield PUnit.unit) else pure (ForInStep.yield PUnit.unit):Sem (ForInStep PUnit)))).run P w = .ok PUnit.unit w:=by
      intro l
      induction l with
      | nil=>intro o' ks' q h hq;rfl
      | cons f l ihl =>
        intro o' ks' q h hq
        simp only [axP] at h
        split at h
        ·rename_i hcond
         split at h
         ·rename_i a ha
          split at h
          ·rename_i hsa
           simp only [zk] at h
           obtain ⟨ks2,hks2,rfl⟩:=h
           obtain ⟨t1,t2,f1,f2,rfl⟩:=agu _ _ _ _ _ hq
           simp only [List.take_take,zp,List.drop_take,Zg] at f1 f2
           rw [kV (by omega)] at f1
           rw [show a.length + ks2.length - a.length = ks2.length by omega] at f2
           obtain ⟨p1,g1,g3⟩:=ih f.type a ha hsa m em xa o' t1 f1
           have:=ihl (o' + a.length) ks2 t2 hks2 f2
           rw [List.forIn_cons]
           simp only [hcond.2,ne_eq,not_false_eq_true,if_true,hcond.1,Sem.run_bind,g1,g3,Result.andThen_ok,Sem.run_pure]
           exact this
          ·cases h
         ·cases h
        ·cases h
     have hfin:=fields fs.toList 0 ks q h (by
      simp only [kr]
      have:xa.toList.length = ks.length:=(UV _ _ _ _ hq).1
      rw [zj (by omega)]
      exact hq)
     rw [show d + 1 + m = (d + m) + 1 by omega]
     simp only [Instr.checkKey,Sem.run_bind,run_underlying hu w,Result.andThen_ok]
     have e3:∀ (g:Field→PUnit→Sem (ForInStep PUnit)),(forIn fs PUnit.unit g).run P w = (forIn fs.toList PUnit.unit g).run P w:=fun g=>by rw [Array.forIn_toList]
     rw [e3,hfin];rfl
   ·rename_i k hu
    simp only [zf] at h;subst h
    have hag:acn P t = some false:=by unfold acn;rw [hu];rfl
    obtain ⟨u1,a1,a3⟩:=one rfl
    rw [a3] at hq
    refine ⟨u1,by rw [Wx hag hsz];simp [a1],?_⟩
    rw [show d + 1 + m = (d + m) + 1 by omega]
    simp [Instr.checkKey,run_underlying hu w]
   ·rename_i hu
    simp only [zf] at h;subst h
    have hag:acn P t = some false:=by unfold acn;rw [hu];rfl
    obtain ⟨u1,a1,a3⟩:=one rfl
    refine ⟨u1,by rw [Wx hag hsz];simp [a1],?_⟩
    rw [show d + 1 + m = (d + m) + 1 by omega]
    simp [Instr.checkKey,run_underlying hu w]
   ·rename_i hu
    simp only [zf] at h;subst h
    have hag:acn P t = some false:=by unfold acn;rw [hu];rfl
    obtain ⟨u1,a1,a3⟩:=one rfl
    refine ⟨u1,by rw [Wx hag hsz];simp [a1],?_⟩
    rw [show d + 1 + m = (d + m) + 1 by omega]
    simp [Instr.checkKey,run_underlying hu w]
   ·cases h
theorem ak6 {P:Program} {t:TypeId} {ag:Bool} {ks:List Nat} (hk:avT P t = some (ag,ks)) {u:Value} {k:V} (hu:Rep w Z μ u k) :
  ∀ (kk:List V) (es:List MapEntry) (i:Nat) (r:Option Nat),(∀ j (h:j < es.length) (h':j < kk.length),Rep w Z noμ es[j].key kk[j])→es.length = kk.length→wu ag ks k kk i = some r →
  (∀ j,r = some j→i≤j∧∃ (h:j - i < es.length) (h':j - i < kk.length),xh ag ks k kk[j - i] = some true) ∧
  (ag = true→(Instr.findAsking t u es i).run P w = .ok (r.bind fun j=>(es[j - i]?).map fun e=>(j,e.val)) w) ∧
  (ag = false→∀ d,P.underlying t = some d→Instr.findNow d u es i = some (r.bind fun j=>(es[j - i]?).map fun e=>(j,e.val))):=by
 intro kk
 induction kk with
 | nil =>
   intro es i r _ hl h
   obtain rfl:es = []:=by simpa using hl
   simp only [wu,zf] at h
   subst h
   exact ⟨fun j hj=>(by cases hj),fun _=>rfl,fun _ d _=>rfl⟩
 | cons x kk ih =>
   intro es i r hr hl h
   cases es with
   | nil=>simp at hl
   | cons e es =>
     have h0:=hr 0 (by simp) (by simp)
     simp only [List.getElem_cons_zero] at h0
     have hrest:∀ j (h:j < es.length) (h':j < kk.length),Rep w Z noμ es[j].key kk[j]:=fun j hj hj'=>by
      have:=hr (j + 1) (by simpa using hj) (by simpa using hj');simpa using this
     simp only [List.length_cons,Nat.add_right_cancel_iff] at hl
     simp only [wu] at h
     have asks:∀ q,xh ag ks k x = some q→ag = true→(Op.equal t u e.key).run P w = .ok q w:=by
      intro q hq ha
      have kv:=ajt hq hu (h0.lift (μ:=μ))
      rcases ad7 hk with ⟨_,⟨fs,hf⟩,h1,h2⟩|⟨ha',_⟩
      ·generalize e.key = ek at kv ⊢
       subst ha
       cases kv with
       | agg hh=>exact aiM hf h1 h2 hh
      ·rw [ha'] at ha;cases ha
     have nows:∀ q,xh ag ks k x = some q→ag = false→∀ d,P.underlying t = some d→Instr.sameNow d u e.key = some q:=by
      intro q hq ha d hd
      have kv:=ajt hq hu (h0.lift (μ:=μ))
      rcases ad7 hk with ⟨ha',_⟩|⟨_,hh⟩
      ·rw [ha] at ha';cases ha'
      ·generalize e.key = ek at kv ⊢
       subst ha
       cases kv with
       | sc hv =>
         rcases hh with ⟨k',h1,rfl⟩|⟨h1,rfl⟩|⟨h1,rfl⟩
         ·rw [h1] at hd;cases hd
          unfold Yb at hv
          split at hv<;>simp_all [Yb,Instr.sameNow]
         ·rw [h1] at hd;cases hd
          unfold Yb at hv
          split at hv<;>simp_all [Yb,Instr.sameNow]
         ·rw [h1] at hd;cases hd
          unfold Yb at hv
          split at hv<;>simp_all [Yb,Instr.sameNow]
     split at h
     ·rename_i hq
      simp only [zf] at h
      subst h
      refine ⟨fun j hj=>?_,fun ha=>?_,fun ha d hd=>?_⟩
      ·cases hj
       exact ⟨zl _,by simp,by simp,by simpa using hq⟩
      ·simp only [Instr.findAsking,Sem.run_bind,asks _ hq ha,Result.andThen_ok,if_true,Sem.run_pure,Option.bind_some,kF,List.getElem?_cons_zero,Option.map_some]
      ·simp only [Instr.findNow,nows _ hq ha d hd,Option.bind_some,kF,List.getElem?_cons_zero,Option.map_some]
     ·rename_i hq
      obtain ⟨i1,i2,i3⟩:=ih es (i + 1) r hrest hl h
      have hr2:(r.bind fun j=>(es[j - (i + 1)]?).map fun e=>(j,e.val)) = (r.bind fun j=>((e :: es)[j - i]?).map fun e=>(j,e.val)):=by
       cases r with
       | none=>rfl
       | some j =>
         obtain ⟨h1,h2,h3,_⟩:=i1 j rfl
         simp only [Option.bind_some]
         rw [show j - i = (j - (i + 1)) + 1 by omega,List.getElem?_cons_succ]
      refine ⟨fun j hj=>?_,fun ha=>?_,fun ha d hd=>?_⟩
      ·obtain ⟨h1,h2,h3,h4⟩:=i1 j hj
       refine ⟨by omega,by simp;omega,by simp;omega,?_⟩
       have:j - i = (j - (i + 1)) + 1:=by omega
       simp only [this,List.getElem_cons_succ]
       exact h4
      ·simp only [Instr.findAsking,Sem.run_bind,asks _ hq ha,Result.andThen_ok,zw,if_false]
       rw [i2 ha,hr2]
      ·simp only [Instr.findNow,nows _ hq ha d hd]
       rw [i3 ha d hd,hr2]
     ·cases h
theorem abl {P:Program} {t:TypeId} {ag:Bool} {ks:List Nat} (hk:avT P t = some (ag,ks)) {u:Value} {k:V} (hu:Rep w Z μ u k) {kk:List V} {es:List MapEntry} {r:Option Nat}
  (hr:∀ j (h:j < es.length) (h':j < kk.length),Rep w Z noμ es[j].key kk[j]) (hl:es.length = kk.length) (hf:wu ag ks k kk 0 = some r) :
  (Instr.findKey t u es).run P w = .ok (r.bind fun j=>(es[j]?).map fun e=>(j,e.val)) w∧∀ j,r = some j→∃ (h:j < es.length) (h':j < kk.length),xh ag ks k kk[j] = some true:=by
 obtain ⟨i1,i2,i3⟩:=ak6 hk hu kk es 0 r hr hl hf
 simp only [Nat.sub_zero] at i1 i2 i3
 refine ⟨?_,fun j hj=>(i1 j hj).2⟩
 rcases ad7 hk with ⟨ha,⟨fs,hfs⟩,_⟩|⟨ha,hh⟩
 ·simp only [Instr.findKey,Sem.run_bind,run_underlying hfs w,Result.andThen_ok]
  cases es with
  | nil =>
    simp only [Instr.findNow,Sem.run_pure]
    cases r with
    | none=>rfl
    | some j=>obtain ⟨h,_⟩:=(i1 j rfl).2;simp at h
  | cons e es =>
    have:Instr.findNow (.struct fs) u (e :: es) 0 = none:=by
     rfl
    rw [this]
    exact i2 ha
 ·have:∃ d,P.underlying t = some d:=by
   rcases hh with ⟨k',h1,_⟩|⟨h1,_⟩|⟨h1,_⟩<;>exact ⟨_,h1⟩
  obtain ⟨d,hd⟩:=this
  simp only [Instr.findKey,Sem.run_bind,run_underlying hd w,Result.andThen_ok,i3 ha d hd,Sem.run_pure]
theorem acQ {P:Program} {t:TypeId} {ag:Bool} {ks:List Nat} (hk:avT P t = some (ag,ks)) {u:Value} {k:V} (hu:Rep w Z μ u k) (hq:xh ag ks k k = some true) (em:Bool) :
  (Instr.checkKey em 10000 t u).run P w = .ok () w:=by
 have kv:=ajt hq hu hu
 rcases ad7 hk with ⟨ha,⟨fs,hfs⟩,h1,h2⟩|⟨ha,hh⟩
 ·subst ha
  cases kv with
  | agg hv =>
    rename_i xs
    obtain ⟨l1,_⟩:=UV _ _ _ _ hv
    have hag:acn P t = some true:=by unfold acn;rw [hfs];rfl
    obtain ⟨p1,g1,g3⟩:=afI (w:=w) P 20 t ks h1 h2 9980 em xs 0 true (by
     simp only [kr]
     rw [zj (by omega)];exact hv)
    rw [Wx hag h2] at g1
    simp only [if_true,kp] at g1
    have e1:xs.extract 0 ks.length = xs:=by
     have:xs.size = ks.length:=by simpa using l1
     rw [← this];simp
    rw [e1] at g1
    cases g1
    exact g3
 ·have key:∀ n d,P.underlying t = some d→(∀ ms,d≠.interface ms)→(∀ l e,d≠.array l e)→(∀ fs,d≠.struct fs)→(Instr.checkKey em (n + 1) t u).run P w = .ok () w:=by
   intro n d hd d1 d2 d3
   simp only [Instr.checkKey,Sem.run_bind,run_underlying hd w,Result.andThen_ok]
   cases d<;>first|rfl|(exact absurd rfl (d1 _))|(exact absurd rfl (d2 _ _))|(exact absurd rfl (d3 _))
  rcases hh with ⟨k',h1,_⟩|⟨h1,_⟩|⟨h1,_⟩<;>exact key 9999 _ h1 (fun _ h=>by cases h) (fun _ _ h=>by cases h) (fun _ h=>by cases h)
theorem alv:∀ (ks:List Nat) (cs ds:List V) (q:Bool),Yf ks cs ds = some q→Qh cs:=by
 intro ks
 induction ks with
 | nil =>
   intro cs ds q h
   unfold Yf at h
   split at h<;>simp_all [Qh]
 | cons k ks ih =>
   intro cs ds q h
   unfold Yf at h
   split at h
   ·simp_all
   ·rename_i e1
    cases e1
    split at h
    ·simp only [zk] at h
     obtain ⟨t',e,_⟩:=h
     exact ⟨trivial,ih _ _ _ e⟩
    ·cases h
   ·rename_i e1
    cases e1
    simp only [zk] at h
    obtain ⟨t',e,_⟩:=h
    exact ⟨trivial,ih _ _ _ e⟩
   ·rename_i e1
    cases e1
    simp only [zk] at h
    obtain ⟨t',e,_⟩:=h
    exact ⟨trivial,ih _ _ _ e⟩
   ·cases h
theorem aoT {ag:Bool} {ks:List Nat} {k e:V} {q:Bool} (h:xh ag ks k e = some q):k.closed:=by
 unfold xh at h
 split at h
 ·exact alv _ _ _ _ h
 ·trivial
 ·cases h
theorem azA {ks:List Nat} {ag:Bool} {u v:Value} (h:KV2 ks ag u v true):u = v∧Instr.sameBits 10000 u v = true:=by
 cases h with
 | agg h =>
   rename_i xs ys
   have e:=akv _ _ _ h
   have e2:xs = ys:=Array.toList_inj.1 e
   subst e2
   refine ⟨rfl,?_⟩
   have:=afH _ _ 9999 _ h
   simp only [Instr.sameBits,beq_self_eq_true,kh]
   exact this
 | sc h =>
   have e:=akv _ _ _ h
   simp only [km,and_true] at e
   subst e
   refine ⟨rfl,?_⟩
   have:=afH _ _ 10000 _ h
   simpa using this
end
section
variable {C:Ctx} {w:World} {Z:Nat→Nat→Prop} {μ:Nat→Option Cn} {o:Nat→Option Ob} {b:Nat} {r:Opd→V}
theorem Good.mapOf (hg:Good C w Z μ o) {a:Nat} {c:Cn} {kk vs:List V} {c0:Nat} (hm:μ a = some c) (ha:o a = some (.map kk vs c0)):MOk w Z μ c kk vs c0∧c.block < w.heap.size:=by
 obtain ⟨c',hm',hok,hl⟩:=hg.ob a _ ha
 rw [hm] at hm';cases hm'
 exact ⟨hok,(hl trivial).1⟩
theorem atJ (hg:Good C w Z μ o) (hf:∀ x,b≤x→x < b + KK→μ x = none) (hm:C.m≤b) {t:TypeId}:OpV C b w Z μ o ((Instr.makeMap t none).run C.P w) (sem b r .mkmap):=by
 intro K h
 simp only [sem] at h
 have hx:=hf b (zl _) (by simp [KK])
 have hrun:(Instr.makeMap t none).run C.P w = .ok (.map (some w.heap.size)) (w.alloc (.map #[] 0)):=by
  rfl
 rw [hrun]
 refine ⟨_,_,_,Z,upd μ b (some { block:=w.heap.size }),rfl,h,.mp (c:={ block:=w.heap.size }) (Qn _ _ _),?_,Evo.alloc hg.zlt hx (zl _) (by simp [KK])⟩
 exact hg.alloc hx rfl hm ⟨rfl,#[],heap_alloc_new,rfl,fun i hi=>by simp at hi⟩
theorem asa (hg:Good C w Z μ o) {ts:Array TypeId} {ty t k e:TypeId} {cx:Value} {x:Opd} (ht:ts[0]? = some t) (hu:C.P.underlying t = some (.map k e)) (hx:Rep w Z μ cx (r x)) :
  OpV C b w Z μ o ((Builtin.len_ ts ty #[cx]).run C.P w) (sem b r (.maplen x)):=fun _ hk=>hk.elim
theorem asd (hg:Good C w Z μ o) {ts:Array TypeId} {ty t k e:TypeId} {cx:Value} {x:Opd} (ht:ts[0]? = some t) (hu:C.P.underlying t = some (.map k e)) (hx:Rep w Z μ cx (r x)) :
  OpV C b w Z μ o ((Builtin.clear_ ts ty #[cx]).run C.P w) (sem b r (.mapclr x)):=fun _ hk=>hk.elim
theorem axq (hg:Good C w Z μ o) (hf:∀ x,b≤x→x < b + KK→μ x = none) (hm:C.m≤b) {t k e:TypeId} {cx:Value} {x:Opd} (hu:C.P.underlying t = some (.map k e)) (hx:Rep w Z μ cx (r x)) :
  OpV C b w Z μ o ((Instr.range t cx).run C.P w) (sem b r (.rng x)):=by
 intro K h
 simp only [sem] at h
 split at h
 ·rename_i a h1;rw [h1] at hx
  obtain ⟨c,hm',rfl⟩:=hx.mpE
  obtain ⟨ob,ho,h⟩:=h
  dsimp only at h
  split at h
  ·rename_i kk vs c0
   obtain ⟨⟨hl,es,hh,hs,_⟩,hlt⟩:=hg.mapOf hm' ho
   have hx:=hf b (zl _) (by simp [KK])
   rw [run_range_map w t k e c.block es _ hu hh]
   refine ⟨_,_,_,Z,upd μ b (some { block:=w.heap.size }),rfl,h,.ptr (c:={ block:=w.heap.size }) (Qn _ _ _),?_,Evo.alloc hg.zlt hx (zl _) (by simp [KK])⟩
   refine hg.alloc hx rfl hm ⟨c,jW hx _ _ hm',?_⟩
   exact heap_alloc_new
  ·exact h.elim
 ·exact h.elim
theorem ad2 {c0 n i:Nat} {seen:List Nat}:i∈ajC c0 n seen↔i < n∧c0 + i ∉ seen:=by
 simp [ajC]
theorem axr (hg:Good C w Z μ o) {ty:TypeId} {cx:Value} {x:Opd} (hx:Rep w Z μ cx (r x)) :
  OpV C b w Z μ o ((Instr.next cx false ty).run C.P w) (sem b r (.nxt x)):=by
 intro K h
 simp only [sem] at h
 split at h
 ·rename_i t ht;rw [ht] at hx
  obtain ⟨ci,hmi,rfl⟩:=hx.ptrE
  obtain ⟨ob,hoi,h⟩:=h
  dsimp only at h
  split at h
  ·rename_i a since seen last
   obtain ⟨ob2,ho,h⟩:=h
   dsimp only at h
   split at h
   ·rename_i kk vs c0
    obtain ⟨⟨hsi,hla⟩,h⟩:=h
    subst hla
    subst hsi
    obtain ⟨ci',hmi',hoki,hli⟩:=hg.ob t _ hoi
    rw [hmi] at hmi';cases hmi'
    obtain ⟨c,hm,hit⟩:=hoki
    obtain ⟨⟨hl,es,hh,hs,hes⟩,hlt⟩:=hg.mapOf hm ho
    have hlti:=(hli trivial).1
    have hgi:(getObj ci.block).run C.P w = .ok (.mapIter (some c.block) (c0 + kk.length) seen.toArray (c0 + kk.length)) w:=by simp [getObj,Sem.run,hit]
    have born:∀ i (hi:i < es.size),es[i].born = c0 + i:=fun i hi=>(hes i hi (by omega) (by omega)).1
    have hold:∀ y∈es.toList,y.born < c0 + kk.length:=by
     intro y hy
     obtain ⟨i,hi,rfl⟩:=ky hy
     simp only [Array.getElem_toList]
     have hi':i < es.size:=by simpa using hi
     rw [born i hi'];omega
    have htest:=next_test_false seen.toArray es (c0 + kk.length) (c0 + kk.length) hold (zl _)
    have hmem:∀ y,y∈(es.filter fun e=>!seen.toArray.contains e.born)→∃ i,i∈ajC c0 kk.length seen∧∃ hi:i < es.size,y = es[i]:=by
     intro y hy
     rw [Array.mem_filter] at hy
     obtain ⟨hy,hns⟩:=hy
     obtain ⟨i,hi,rfl⟩:=Array.getElem_of_mem hy
     refine ⟨i,ad2.2 ⟨by omega,?_⟩,hi,rfl⟩
     rw [born i hi] at hns
     simpa using hns
    have hall:∀ y∈(es.filter fun e=>!seen.toArray.contains e.born),y.born < c0 + kk.length:=fun y hy=>by
     obtain ⟨i,_,hi,rfl⟩:=hmem y hy
     rw [born i hi];omega
    generalize hL:(es.filter fun e=>!seen.toArray.contains e.born) = L at hmem hall
    have e1:L.filter (fun x=>decide (x.born < c0 + kk.length)) = L:=Array.filter_eq_self.2 (fun x hx=>by simpa using hall x hx)
    have e2:L.filter (fun x=>decide (x.born≥c0 + kk.length)) = #[]:=by
     rw [Array.filter_eq_empty_iff]
     intro x hx
     have:=hall x hx
     simp;omega
    by_cases h0:L.size = 0
    ·have hLe:L = #[]:=Array.eq_empty_of_size_eq_zero h0
     have hun:ajC c0 kk.length seen = []:=by
      rw [List.eq_nil_iff_forall_not_mem]
      intro i hi
      obtain ⟨i1,i2⟩:=ad2.1 hi
      have hi':i < es.size:=by omega
      have:es[i]∈L:=by
       rw [← hL,Array.mem_filter]
       refine ⟨Array.getElem_mem hi',?_⟩
       rw [born i hi'];simpa using i2
      rw [hLe] at this;simp at this
     rw [hun] at h
     dsimp only at h
     refine ⟨_,.tuple #[.bool false],w,Z,μ,?_,h,.tup rfl (fun j hj hj'=>?_),hg,.refl⟩
     ·simp only [Instr.next,Sem.run_bind,hgi,MapKept.run_getObj_map hh,Result.andThen_ok,htest,zw,if_false,hL,hLe]
      simp [choose,Sem.run,Question.forced]
     ·have:j = 0:=by simp at hj;omega
      subst this;exact .sc rfl
    ·have hne:L.isEmpty = false:=by simp [Array.isEmpty,h0]
     have hch:∃ (j:Nat) (w1:World),j < L.size∧w1.heap = w.heap∧U7 w w1∧(choose (Question.mapNext L.size)).run C.P w = .ok j w1:=by
      by_cases hf:L.size≤1
      ·exact ⟨0,w,by omega,rfl,U7.refl w,by simp [choose,Sem.run,Question.forced,hf]⟩
      ·exact ⟨_,w.drew,Nat.mod_lt _ (by omega),rfl,⟨rfl,rfl,rfl⟩,by
        simp only [choose,Sem.run,Question.forced,zu,hf,if_false,Question.cut]
        rfl⟩
     obtain ⟨j,w1,hj,hheap,hsame,hrun⟩:=hch
     obtain ⟨i,hiu,hie,hLj⟩:=hmem L[j] (Array.getElem_mem hj)
     have hik:i < kk.length:=by omega
     have hiv:i < vs.length:=by omega
     have hK:(match kk[i]?,vs[i]? with
       | some k,some v=>(AM.ret { v:=.tup [.bool true,k,v],os:=[(t,.iter a (c0 + kk.length) (seen++[c0 + i]) (c0 + kk.length))] }:AM E)
       | _,_=>.no).wp o K:=by
      split at h
      ·rename_i hnil;rw [hnil] at hiu;simp at hiu
      ·exact h.2 i hiu
     rw [zb hik,zb hiv] at hK
     obtain ⟨b1,b2,b3⟩:=hes i hie hik hiv
     have hlt1:ci.block < w1.heap.size:=by rw [hheap];exact hlti
     obtain ⟨s1,s2,s3⟩:=jt (w:=w1) (ob:=.mapIter (some c.block) (c0 + kk.length) (seen.toArray.push L[j].born) (c0 + kk.length)) hlt1
     have hset:(setObj ci.block (.mapIter (some c.block) (c0 + kk.length) (seen.toArray.push L[j].born) (c0 + kk.length))).run C.P w1 = .ok () { w1 with heap:=w1.heap.setIfInBounds ci.block (.mapIter (some c.block) (c0 + kk.length) (seen.toArray.push L[j].born) (c0 + kk.length)) }:=by
      have:w1.heap[ci.block]? = some (.mapIter (some c.block) (c0 + kk.length) seen.toArray (c0 + kk.length)):=by rw [hheap];exact hit
      simp [setObj,Sem.run,this]
     have hcell:∀ b' i',Z b' i'→({ w1 with heap:=w1.heap.setIfInBounds ci.block (.mapIter (some c.block) (c0 + kk.length) (seen.toArray.push L[j].born) (c0 + kk.length)) }:World).cell? ⟨b',i',none⟩ = w.cell? ⟨b',i',none⟩:=by
      intro y i' _
      by_cases hb:y = ci.block
      ·subst hb;simp only [World.cell?,s2,hit]
      ·simp only [World.cell?,s3 y hb];rw [hheap]
     refine ⟨_,.tuple #[.bool true,L[j].key,L[j].val],{ w1 with heap:=w1.heap.setIfInBounds ci.block (.mapIter (some c.block) (c0 + kk.length) (seen.toArray.push L[j].born) (c0 + kk.length)) },Z,μ,?_,hK,.tup rfl (fun q hq hq'=>?_),?_,⟨hcell,fun _ _ h=>h,fun _ _ h=>h,fun _ _=>rfl⟩⟩
     ·simp only [Instr.next,Sem.run_bind,hgi,MapKept.run_getObj_map hh,Result.andThen_ok,htest,zw,if_false,hL,e1,e2,Array.append_empty,hne,Array.empty_append,Array.size_map,hrun,Array.getElem?_map,zA hj,Option.map_some,hset,Sem.run_pure]
     ·have:q = 0∨q = 1∨q = 2:=by simp at hq;omega
      rcases this with rfl|rfl|rfl
      ·exact .sc rfl
      ·rw [← hLj] at b2;exact (b2.mono hcell (fun _ _ h=>h) (fun _ _ h=>h)).lift
      ·rw [← hLj] at b3;exact b3.mono hcell (fun _ _ h=>h) (fun _ _ h=>h)
     ·have hgw:Good C w1 Z μ o:=hg.heap hheap hsame
      refine hgw.write hoi hmi trivial s3 s1 (fun i' _=>by simp only [World.cell?,s2];rw [hheap];simp only [hit]) ⟨c,hm,?_⟩
      rw [s2,hLj,b1]
      simp
   ·exact h.elim
  ·exact h.elim
 ·exact h.elim
theorem axv (hg:Good C w Z μ o) {cx:Value} {x:Opd} (hx:Rep w Z μ cx (r x)) :
  OpV C b w Z μ o ((Instr.entry cx).run C.P w) (sem b r (.ent x)):=by
 intro K h
 simp only [sem] at h
 split at h
 ·rename_i t ht;rw [ht] at hx
  obtain ⟨ci,hmi,rfl⟩:=hx.ptrE
  obtain ⟨ob,hoi,h⟩:=h
  dsimp only at h
  split at h
  ·rename_i a since seen last
   obtain ⟨ob2,ho,h⟩:=h
   dsimp only at h
   split at h
   ·rename_i kk vs c0
    obtain ⟨⟨hsi,hla⟩,h⟩:=h
    subst hla
    subst hsi
    obtain ⟨ci',hmi',hoki,hli⟩:=hg.ob t _ hoi
    rw [hmi] at hmi';cases hmi'
    obtain ⟨c,hm,hit⟩:=hoki
    obtain ⟨⟨hl,es,hh,hs,hes⟩,hlt⟩:=hg.mapOf hm ho
    have hgi:(getObj ci.block).run C.P w = .ok (.mapIter (some c.block) (c0 + kk.length) seen.toArray (c0 + kk.length)) w:=by simp [getObj,Sem.run,hit]
    split at h
    ·rename_i s hs'
     obtain ⟨hcs,h⟩:=h
     split at h
     ·rename_i k v h1 h2
      obtain ⟨hik,rfl⟩:=zh.1 h1
      obtain ⟨hiv,rfl⟩:=zh.1 h2
      have hie:s - c0 < es.size:=by omega
      obtain ⟨b1,b2,b3⟩:=hes _ hie hik hiv
      have hfind:es.find? (·.born == s) = some es[s - c0]:=by
       rw [← Array.find?_toList]
       have hn:(es.toList.map (·.born)).Nodup:=by
        rw [List.nodup_iff_pairwise_ne,kq]
        intro p q hp hq hpq
        simp only [zd,Array.length_toList] at hp hq
        simp only [ku,Array.getElem_toList]
        rw [(hes p hp (by omega) (by omega)).1,(hes q hq (by omega) (by omega)).1]
        omega
       have:=find_born es[s - c0] es.toList hn (by simp)
       rw [b1] at this
       rw [show c0 + (s - c0) = s by omega] at this
       exact this
      refine ⟨_,.tuple #[es[s - c0].key,es[s - c0].val],w,Z,μ,?_,h,.tup rfl (fun q hq hq'=>?_),hg,.refl⟩
      ·simp [Instr.entry,hgi,MapKept.run_getObj_map hh,Result.andThen,hs',hfind]
      ·have:q = 0∨q = 1:=by simp at hq;omega
       rcases this with rfl|rfl
       ·exact b2.lift
       ·exact b3
     ·exact h.elim
    ·exact h.elim
   ·exact h.elim
  ·exact h.elim
 ·exact h.elim
theorem alS (hg:Good C w Z μ o) {t:TypeId} {ps rs:Array TypeId} {va neg:Bool} {x:Operand} {cx:Value} {x':Opd} (hu:C.P.underlying t = some (.func ps rs va)) (hx:Rep w Z μ cx (r x')) :
  OpV C b w Z μ o ((do eqGuard (if neg then .neq else .eql) t x (.const .nilFunc) cx .nilFunc;binOp (if neg then .neq else .eql) t cx .nilFunc:Sem Value).run C.P w) (sem b r (.isnilF neg x')):=fun _ hk=>hk.elim
theorem avE (hg:Good C w Z μ o) {ts:Array TypeId} {ty st e:TypeId} {sz:Nat} {ag:Bool} {z:Value} (ht:ts[0]? = some st) (hu:C.P.underlying st = some (.slice e)) (hz:xN C.P e = some z)
  (hs:z.cells.size = sz) (hg1:ag = false→sz = 1) (h1:∀ u∈z.cells.toList,u.oneCell' = true) {cx:Value} {x:Opd} (hx:Rep w Z μ cx (r x)) :
  OpV C b w Z μ o ((Builtin.clear_ ts ty #[cx]).run C.P w) (sem b r (.clrS sz ag z.cells.toList x)):=by
 intro K h
 simp only [sem] at h
 split at h
 ·rename_i n off len hv;rw [hv] at hx
  obtain ⟨ob,hoa,h⟩:=h
  dsimp only at h
  split at h
  ·rename_i s xs
   obtain ⟨hss,h⟩:=h
   obtain ⟨c,hmu,hh⟩:=hx.hdE
   obtain ⟨c',hm',hok,hlive⟩:=hg.ob n _ hoa
   rw [hmu] at hm';cases hm'
   by_cases hn:len = 0
   ·have hcx:∃ ad dcap,cx = .slice ad len dcap:=by
     unfold Hdr at hh;split at hh
     ·obtain ⟨h1,_,h3⟩:=hh;subst h3;exact ⟨_,_,h1⟩
     ·obtain ⟨ad,h,_⟩:=hh;exact ⟨_,_,h⟩
    obtain ⟨ad,dcap,rfl⟩:=hcx
    subst hn
    refine ⟨_,.tuple #[],w,Z,μ,?_,h,.tup rfl (fun j hj=>by simp at hj),?_,.refl⟩
    ·cases ad<;>simp [Builtin.clear_,ht,run_underlying hu w]
    ·show Good C w Z μ (upd o n (some (.buf true s (xs.take off++List.replicate 0 _++xs.drop (off + 0)))))
     simp only [List.replicate_zero,kD,Nat.add_zero,Zk]
     rw [ayp _ _ _ hoa];exact hg
   ·cases hvo:c.void with
    | true =>
      obtain ⟨_,_,rfl⟩:=ad8 hh hvo
      simp at hn
    | false =>
      obtain ⟨ad,rfl,h4,h5,h6⟩:=ad9 hh hvo
      obtain ⟨hlen,hok⟩:=hok
      obtain ⟨h7,h8,h9,h10,h11,cs,cty,fr,hb,h12,h13,h14⟩:=hok hvo
      have hsz:s = sz:=by
       rcases hss with h|h
       ·exact h
       ·subst h;simp at hlen;omega
      subst hsz
      have had:=h6 (by omega)
      subst had
      have hbd:(off + len) * s≤c.cap * s:=zX _ (by omega)
      rw [zQ] at hbd
      rw [h7] at h12
      have f2:(Builtin.zeroCells z.cells len).toList.length = len * s:=by simp [Builtin.zeroCells,hs]
      have f3:∀ v∈(Builtin.zeroCells z.cells len).toList,v.oneCell' = true:=by
       intro v hv
       simp only [Builtin.zeroCells,Array.toList_map,zE,Array.mem_toList_iff,Array.mem_range] at hv
       obtain ⟨k,hk,rfl⟩:=hv
       have hp:0 < z.cells.size:=by
        rcases Zb z.cells.size with h|h
        ·rw [h] at hk;simp at hk
        ·exact h
       have hlt:k % z.cells.size < z.cells.size:=Nat.mod_lt _ hp
       rw [getElem!_pos z.cells _ hlt]
       exact h1 _ (by simp)
      obtain ⟨cs',e1,e2,e3,e4⟩:=Ub (P:=C.P) c.block cty fr (Builtin.zeroCells z.cells len).toList (c.base + off * s) 0 cs w hb (fun o ho=>h13 o (.inl ho)) (by rw [f2];omega) f3
      obtain ⟨s1,s2,s3⟩:=jt (w:=w) (ob:=.cells cs' cty fr) (hlive hvo).1
      have hcell:∀ b' i,Z b' i→({ w with heap:=w.heap.setIfInBounds c.block (.cells cs' cty fr) }:World).cell? ⟨b',i,none⟩ = w.cell? ⟨b',i,none⟩:=by
       intro b' i hz
       have:b'≠c.block:=by rintro rfl;exact h9 rfl i hz
       simp only [World.cell?,s3 b' this]
      have hrep:∀ v x,Rep w Z noμ v x→Rep { w with heap:=w.heap.setIfInBounds c.block (.cells cs' cty fr) } Z noμ v x:=fun v x h=>h.mono hcell (fun _ _ h=>h) (fun _ _ h=>h)
      have hold:Row { w with heap:=w.heap.setIfInBounds c.block (.cells cs' cty fr) } Z noμ (fun k=>cs[c.base + k]?) s xs:=fun j hj=>by
       refine ⟨h11 j hj,fun k hk=>?_⟩
       obtain ⟨u,g1,g2,g3⟩:=h14 j hj k hk
       rw [h7] at g1
       exact ⟨u,g1,g2,hrep _ _ g3⟩
      have f4:Row w Z noμ (fun k=>(Builtin.zeroCells z.cells len)[k]?) s (List.replicate len (V.mk ag (z.cells.toList.map V.ofV))):=ajy (n:=len) hs hg1 h1 (by rw [hs];exact zl _)
      have l1:(xs.take off).length = off:=by simp;omega
      have l2:(List.replicate len (V.mk ag (z.cells.toList.map V.ofV))).length = len:=by simp
      have hrow:Row { w with heap:=w.heap.setIfInBounds c.block (.cells cs' cty fr) } Z noμ (fun k=>cs'[c.base + k]?) s (xs.take off++List.replicate len (V.mk ag (z.cells.toList.map V.ofV))++xs.drop (off + len)):=by
       refine Row.append (Row.append ((hold.take off).congr (fun k hk=>?_)) ((f4.mono hrep).congr (fun k hk=>?_))) ((hold.drop (off + len)).congr (fun k hk=>?_))
       ·rw [l1] at hk;exact e4 _ (.inl (by omega))
       ·rw [l2] at hk
        rw [l1]
        have:=e3 k (by rw [f2];exact hk)
        rw [Zz] at this
        rw [← this];congr 1;omega
       ·simp only [zp,l1,l2]
        exact e4 _ (.inr (by rw [f2,zQ];omega))
      have hn':∃ m,len = m + 1:=⟨len - 1,by omega⟩
      refine ⟨_,.tuple #[],_,Z,μ,?_,h,.tup rfl (fun j hj=>by simp at hj),?_,⟨hcell,fun _ _ h=>h,fun _ _ h=>h,fun _ _=>rfl⟩⟩
      ·obtain ⟨m,rfl⟩:=hn'
       simp only [Builtin.clear_,ht,ZA,List.getElem?_cons_zero,Sem.run_bind,run_underlying hu w,Result.andThen_ok,Uc hz]
       rw [h7,e1];rfl
      ·refine hg.write hoa hmu hvo s3 s1 (fun i hz=>(h9 rfl i hz).elim) ⟨by simp only [zp,l1,l2,zZ];omega,fun _=>⟨h7,h8,fun _=>h9 rfl,h10,fun j hj=>(hrow j hj).1,cs',cty,fr,s2,by rw [h7];omega,by rw [e2];exact h13,fun j hj k hk=>?_⟩⟩
       obtain ⟨u,g1,g2,g3⟩:=(hrow j hj).2 k hk
       rw [h7]
       exact ⟨u,g1,g2,g3⟩
  ·exact h.elim
 ·rename_i s' hv;rw [hv] at hx
  obtain ⟨a,cap,e,_⟩:=hx.slE
  subst e
  refine ⟨_,.tuple #[],w,Z,μ,?_,h,.tup rfl (fun j hj=>by simp at hj),hg,.refl⟩
  cases a<;>simp [Builtin.clear_,ht,run_underlying hu w]
 ·rename_i hv;rw [hv] at hx
  obtain ⟨e,_⟩:=hx.scE
  subst e
  refine ⟨_,.tuple #[],w,Z,μ,?_,h,.tup rfl (fun j hj=>by simp at hj),hg,.refl⟩
  simp [Builtin.clear_,ht,run_underlying hu w]
 ·exact h.elim
theorem apJ {z:Value} {g:Bool} (hs:arb z = g) (ho:∀ u∈z.cells.toList,u.oneCell' = true):Rep w Z μ z (V.mk g (z.cells.toList.map V.ofV)):=by
 subst hs
 cases z with
 | agg cs =>
   simp only [arb,V.mk,if_true,Value.cells] at ho ⊢
   refine .agg (by simp) (fun j h=>ho _ (by simp)) (fun j h h'=>?_)
   simp only [ku,Array.getElem_toList]
   exact ae5 (ho _ (by simp))
 | _=>exact ae5 (ho _ (by simp [Value.cells]))
theorem asb (hg:Good C w Z μ o) {t kt e:TypeId} {ag kg ok:Bool} {ks:List Nat} {z cx ck:Value} {x k:Opd} (hu:C.P.underlying t = some (.map kt e)) (hk:avT C.P kt = some (kg,ks))
  (hz:xN C.P e = some z) (hs:arb z = ag) (h1:∀ u∈z.cells.toList,u.oneCell' = true) (hx:Rep w Z μ cx (r x)) (hkr:Rep w Z μ ck (r k)) :
  OpV C b w Z μ o ((Instr.lookup t cx ck ok).run C.P w) (sem b r (.mapget ok ag z.cells.toList kg ks x k)):=by
 intro K h
 simp only [sem] at h
 split at h
 ·rename_i a ha;rw [ha] at hx
  obtain ⟨c,hm,rfl⟩:=hx.mpE
  obtain ⟨ob,ho,h⟩:=h
  dsimp only at h
  split at h
  ·rename_i kk vs c0
   obtain ⟨hq,h⟩:=h
   obtain ⟨⟨hl,es,hh,hsz,hes⟩,hlt⟩:=hg.mapOf hm ho
   have hck:=acQ (w:=w) hk hkr hq es.isEmpty
   split at h
   ·rename_i i hi
    obtain ⟨f1,f2⟩:=abl (w:=w) hk hkr (es:=es.toList) (fun j hj hj'=>by have:=(hes j (by simpa using hj) hj' (by omega)).2.1;simpa using this) (by simpa using hsz) hi
    obtain ⟨hie,hik,_⟩:=f2 i rfl
    have hie':i < es.size:=by simpa using hie
    have hiv:i < vs.length:=by omega
    rw [zb hiv] at h
    have hrep:=(hes i hie' hik hiv).2.2
    simp only [Option.bind_some,zb hie,Option.map_some,Array.getElem_toList] at f1
    refine ⟨_,if ok then .tuple #[es[i].val,.bool true] else es[i].val,w,Z,μ,?_,h,?_,hg,.refl⟩
    ·simp only [Instr.lookup,Sem.run_bind,run_underlying hu w,MapKept.run_getObj_map hh,hck,f1,Result.andThen_ok,Sem.run_pure]
    ·cases ok
     ·exact hrep
     ·refine .tup rfl (fun j hj hj'=>?_)
      have:j = 0∨j = 1:=by simp at hj;omega
      rcases this with rfl|rfl
      ·exact hrep
      ·exact .sc rfl
   ·rename_i hi
    obtain ⟨f1,_⟩:=abl (w:=w) hk hkr (es:=es.toList) (fun j hj hj'=>by have:=(hes j (by simpa using hj) hj' (by omega)).2.1;simpa using this) (by simpa using hsz) hi
    simp only [Option.bind_none] at f1
    have hrep:Rep w Z μ z (V.mk ag (z.cells.toList.map V.ofV)):=apJ hs h1
    refine ⟨_,if ok then .tuple #[z,.bool false] else z,w,Z,μ,?_,h,?_,hg,.refl⟩
    ·simp only [Instr.lookup,Sem.run_bind,run_underlying hu w,MapKept.run_getObj_map hh,hck,f1,Result.andThen_ok,Sem.run_pure,Uc hz]
    ·cases ok
     ·exact hrep
     ·refine .tup rfl (fun j hj hj'=>?_)
      have:j = 0∨j = 1:=by simp at hj;omega
      rcases this with rfl|rfl
      ·exact hrep
      ·exact .sc rfl
   ·exact h.elim
  ·exact h.elim
 ·exact h.elim
theorem alR (hg:Good C w Z μ o) {t kt e:TypeId} {kg:Bool} {ks:List Nat} {cx ck cv:Value} {x k v:Opd} (hu:C.P.underlying t = some (.map kt e)) (hk:avT C.P kt = some (kg,ks))
  (hx:Rep w Z μ cx (r x)) (hkr:Rep w Z μ ck (r k)) (hvr:Rep w Z μ cv (r v)) :
  OpU C b w Z μ o ((Instr.mapUpdate t cx ck cv).run C.P w) (sem b r (.mapset kg ks x k v)):=by
 intro K h
 simp only [sem] at h
 split at h
 ·rename_i a ha;rw [ha] at hx
  obtain ⟨c,hm,rfl⟩:=hx.mpE
  obtain ⟨ob,ho,h⟩:=h
  dsimp only at h
  split at h
  ·rename_i kk vs c0
   obtain ⟨hq,h⟩:=h
   obtain ⟨⟨hl,es,hh,hsz,hes⟩,hlt⟩:=hg.mapOf hm ho
   have hck:=acQ (w:=w) hk hkr hq false
   have hkc:Rep w Z noμ ck (r k):=by
    exact hkr.close (aoT hq)
   have step:∀ (es':Array MapEntry) (kk' vs':List V),MOk { w with heap:=w.heap.setIfInBounds c.block (.map es' (c0 + kk'.length)) } Z μ c kk' vs' c0→K { v:=.top,os:=[(a,.map kk' vs' c0)] } →
     (Instr.mapUpdate t (.map (some c.block)) ck cv).run C.P w = .ok () { w with heap:=w.heap.setIfInBounds c.block (.map es' (c0 + kk'.length)) } →
     ∃ e w' Z' μ',(Instr.mapUpdate t (.map (some c.block)) ck cv).run C.P w = .ok () w'∧K e∧e.v = .top∧Good C w' Z' μ' (ad0 o e.os)∧Evo b KK w Z μ w' Z' μ':=by
    intro es' kk' vs' hok hk' hrun
    obtain ⟨s1,s2,s3⟩:=jt (w:=w) (ob:=.map es' (c0 + kk'.length)) hlt
    refine ⟨_,_,Z,μ,hrun,hk',rfl,?_,⟨?_,fun _ _ h=>h,fun _ _ h=>h,fun _ _=>rfl⟩⟩
    ·exact hg.write ho hm trivial s3 s1 (fun i _=>by simp [World.cell?,s2,hh]) hok
    ·intro y i _
     by_cases hb:y = c.block
     ·subst hb;simp [World.cell?,s2,hh]
     ·simp only [World.cell?,s3 y hb]
   have hcell:∀ (es':Array MapEntry) (n:Nat),∀ b' i,Z b' i→({ w with heap:=w.heap.setIfInBounds c.block (.map es' n) }:World).cell? ⟨b',i,none⟩ = w.cell? ⟨b',i,none⟩:=by
    intro es' n y i _
    obtain ⟨s1,s2,s3⟩:=jt (w:=w) (ob:=.map es' n) hlt
    by_cases hb:y = c.block
    ·subst hb;simp [World.cell?,s2,hh]
    ·simp only [World.cell?,s3 y hb]
   split at h
   ·rename_i i hi
    obtain ⟨f1,f2⟩:=abl (w:=w) hk hkr (es:=es.toList) (fun j hj hj'=>by have:=(hes j (by simpa using hj) hj' (by omega)).2.1;simpa using this) (by simpa using hsz) hi
    obtain ⟨hie,hik,hqi⟩:=f2 i rfl
    have hie':i < es.size:=by simpa using hie
    have hiv:i < vs.length:=by omega
    simp only [Option.bind_some,zb hie,Option.map_some,Array.getElem_toList] at f1
    obtain ⟨q1,q2⟩:=azA (ajt hqi hkr ((hes i hie' hik hiv).2.1.lift (μ:=μ)))
    have hst:(Instr.keyThatStays es[i].key ck).run C.P w = .ok ck w:=by
     rw [q1] at q2 ⊢
     simp only [Instr.keyThatStays,q2,if_true,Sem.run_pure]
    refine step (es.modify i fun e=>{ e with key:=ck,val:=cv }) kk (vs.set i (r v)) ⟨by simpa using hl,_,by obtain ⟨s1,s2,s3⟩:=jt (w:=w) (ob:=.map (es.modify i fun e=>{ e with key:=ck,val:=cv }) (c0 + kk.length)) hlt;exact s2,by simpa using hsz,fun j hj hjk hjv=>?_⟩ h ?_
    ·have hj':j < es.size:=by simpa using hj
     have h0:=hes j hj' hjk (by omega)
     rw [Array.getElem_modify]
     by_cases hji:i = j
     ·subst hji
      simp only [if_true,ZN]
      refine ⟨h0.1,?_,hvr.mono (hcell _ _) (fun _ _ h=>h) (fun _ _ h=>h)⟩
      rw [q1];exact h0.2.1.mono (hcell _ _) (fun _ _ h=>h) (fun _ _ h=>h)
     ·simp only [hji,if_false,Z6 hji]
      exact ⟨h0.1,h0.2.1.mono (hcell _ _) (fun _ _ h=>h) (fun _ _ h=>h),h0.2.2.mono (hcell _ _) (fun _ _ h=>h) (fun _ _ h=>h)⟩
    ·simp only [Instr.mapUpdate,Sem.run_bind,run_underlying hu w,MapKept.run_getObj_map hh,hck,f1,Result.andThen_ok,zA hie',Option.map_some,Option.getD_some,hst,MapKept.run_setObj_map _ hh]
   ·rename_i hi
    obtain ⟨f1,_⟩:=abl (w:=w) hk hkr (es:=es.toList) (fun j hj hj'=>by have:=(hes j (by simpa using hj) hj' (by omega)).2.1;simpa using this) (by simpa using hsz) hi
    simp only [Option.bind_none] at f1
    refine step (es.push { key:=ck,val:=cv,born:=c0 + kk.length }) (kk++[r k]) (vs++[r v]) ⟨by simp [hl],_,by obtain ⟨s1,s2,s3⟩:=jt (w:=w) (ob:=.map (es.push { key:=ck,val:=cv,born:=c0 + kk.length }) (c0 + (kk++[r k]).length)) hlt;exact s2,by simp [hsz],fun j hj hjk hjv=>?_⟩ h ?_
    ·have hj':j < es.size + 1:=by simpa using hj
     rw [Array.getElem_push]
     split
     ·rename_i hlt'
      have hk1:j < kk.length:=by omega
      have hv1:j < vs.length:=by omega
      have h0:=hes j hlt' hk1 hv1
      rw [kZ hk1,kZ hv1]
      exact ⟨h0.1,h0.2.1.mono (hcell _ _) (fun _ _ h=>h) (fun _ _ h=>h),h0.2.2.mono (hcell _ _) (fun _ _ h=>h) (fun _ _ h=>h)⟩
     ·have hjl:j = kk.length:=by omega
      subst hjl
      have e1:(kk++[r k])[kk.length] = r k:=by simp
      have e2:(vs++[r v])[kk.length] = r v:=by simp [hl]
      rw [e1,e2]
      refine ⟨rfl,hkc.mono (hcell _ _) (fun _ _ h=>h) (fun _ _ h=>h),?_⟩
      exact hvr.mono (hcell _ _) (fun _ _ h=>h) (fun _ _ h=>h)
    ·simp only [Instr.mapUpdate,Sem.run_bind,run_underlying hu w,MapKept.run_getObj_map hh,hck,f1,Result.andThen_ok,MapKept.run_setObj_map _ hh,zp,List.length_singleton,kK]
   ·exact h.elim
  ·exact h.elim
 ·exact h.elim
end
end Av
end
section
namespace Av
open Go
def OpS (C:Ctx) (b:Nat) (w:World) (Z:Nat→Nat→Prop) (μ:Nat→Option Cn) (o:Nat→Option Ob) (run:Result Next) (m:AM E):Prop :=
 ∀ K:E→Prop,m.wp o K→∃ e v w' Z' μ',(run = .ok (.value v) w'∨run = .ok .skip w'∧v = undef)∧K e∧Rep w' Z' μ' v e.v∧Good C w' Z' μ' (ad0 o e.os)∧Evo b KK w Z μ w' Z' μ'
section
variable {C:Ctx} {w:World} {Z:Nat→Nat→Prop} {μ:Nat→Option Cn} {o:Nat→Option Ob} {b:Nat} {r:Opd→V}
theorem Qw {s:Sem Value} {m:AM E} (h:OpV C b w Z μ o (s.run C.P w) m):OpS C b w Z μ o ((do pure (Next.value (← s)):Sem Next).run C.P w) m:=by
 intro K hk
 obtain ⟨e,v,w',Z',μ',h1,h2⟩:=h K hk
 exact ⟨e,v,w',Z',μ',.inl (by simp [h1]),h2⟩
theorem ahc {s:Sem Unit} {m:AM E} (h:OpU C b w Z μ o (s.run C.P w) m):OpS C b w Z μ o ((do s;pure Next.skip:Sem Next).run C.P w) m:=by
 intro K hk
 obtain ⟨e,w',Z',μ',h1,h2,h3,h4⟩:=h K hk
 exact ⟨e,undef,w',Z',μ',.inr ⟨by simp [h1],rfl⟩,h2,by rw [h3];exact .top,h4⟩
def AOp.plain:AOp→Bool
 | .call ..|.callv ..=>false
 | _=>true
theorem abD {l:List Value} (h:l.all (·.oneCell') = true):∀ u∈l,u.oneCell' = true:=by simpa using h
theorem amT {a:Act} {s:St} (h:∀ i,Rep w Z μ (a.tmps.getD i undef) (s.t i)):∀ x x',opd x = some x'→Rep w Z μ (a.eval x) (s.ev x'):=by
 intro x x' hx
 cases x with
 | tmp t=>simp only [opd,zf] at hx;subst hx;exact h t
 | const v =>
   simp only [opd,zk] at hx
   obtain ⟨y,hy,rfl⟩:=hx
   have:v.oneCell' = true∧y = V.ofV v:=by
    cases v<;>simp_all [cst,Value.oneCell']
   rw [St.ev,this.2];exact ae5 this.1
 | func f=>simp only [opd,zf] at hx;subst hx;exact .clo rfl fun j h _=>by simp at h
 | global g=>simp [opd] at hx
theorem aq3 {ρ:Operand→Value} (hρ:∀ x x',opd x = some x'→Rep w Z μ (ρ x) (r x')) {as:Array Operand} {x:Opd} (h:opds as.toList = some [x]):∃ y,as = #[y]∧Rep w Z μ (ρ y) (r x):=by
 obtain ⟨h1,h2⟩:=ad3 hρ h
 match hl:as.toList,h1 with
 | [y],_ =>
   refine ⟨y,?_,?_⟩
   ·apply Array.ext';simpa using hl
   ·have:=h2 0 (by rw [hl];simp) (by simp)
    simpa [hl] using this
theorem aq2 {ρ:Operand→Value} (hρ:∀ x x',opd x = some x'→Rep w Z μ (ρ x) (r x')) {as:Array Operand} {x x2:Opd} (h:opds as.toList = some [x,x2]):∃ y y2,as = #[y,y2]∧Rep w Z μ (ρ y) (r x)∧Rep w Z μ (ρ y2) (r x2):=by
 obtain ⟨h1,h2⟩:=ad3 hρ h
 match hl:as.toList,h1 with
 | [y,y2],_ =>
   refine ⟨y,y2,?_,?_,?_⟩
   ·apply Array.ext';simpa using hl
   ·have:=h2 0 (by rw [hl];simp) (by simp)
    simpa [hl] using this
   ·have:=h2 1 (by rw [hl];simp) (by simp)
    simpa [hl] using this
theorem WF {P:Program} {x:Option TypeId} {d:TypeDesc} (h:x.bind P.underlying = some d):∃ t,x = some t∧P.underlying t = some d:=by
 cases x with
 | none=>cases h
 | some t=>exact ⟨t,rfl,h⟩
theorem X2 (bi:Builtin) (ts:Array TypeId) (ty:TypeId) (args:Array Operand) (a:Act) {s:Sem Value} {m:AM E} {dst:Option Tmp} {pos:String} {after:Array Edge} {guard:Option (Nat×Bool)}
  (h:OpV C b w Z μ o (s.run C.P w) m) (hs:builtin bi ts ty (args.map fun|.const _=>true|_=>false) (args.map a.eval) = (do pure (.value (← s)))) :
  OpS C b w Z μ o ((execOp a.eval { dst,op:=.call { callee:=.builtin bi,args,argTypes:=ts },type:=ty,pos,after,guard }).run C.P w) m:=by
 have:=Qw h
 rw [← hs] at this
 exact this
theorem avF (hg:Good C w Z μ o) (hf:∀ x,b≤x→x < b + KK→μ x = none) (hm:C.m≤b) {a:Act} {s:St} (ht:∀ i,Rep w Z μ (a.tmps.getD i undef) (s.t i)) {op:Oper} {aop:AOp}
  (hc:comp C.P op.op op.type = some aop) (hp:aop.plain = true):OpS C b w Z μ o ((execOp a.eval op).run C.P w) (sem b s.ev aop):=by
 have hρ:=amT (s:=s) ht
 obtain ⟨dst,op,type,pos,after,guard⟩:=op
 simp only at hc
 cases op with
 | move x =>
   simp only [comp] at hc
   split at hc
   ·rename_i e hu
    simp only [zk] at hc
    obtain ⟨sz,hsz,rfl⟩:=hc
    intro K hk
    have hx:=hf b (zl _) (by simp [KK])
    exact ⟨_,.slice none 0 0,w,Z,_,.inl rfl,hk,.hd (Qn _ _ _) (by simp [Hdr]),hg.nil (sz:=sz) hx hm,Evo.name hx (zl _) (by simp [KK])⟩
   ·simp only [zk] at hc
    obtain ⟨x',hx',rfl⟩:=hc
    intro K hk
    exact ⟨_,_,w,Z,μ,.inl rfl,hk,hρ _ _ hx',hg,.refl⟩
 | assign x =>
   simp only [comp] at hc
   split at hc
   ·rename_i e hu
    simp only [zk] at hc
    obtain ⟨sz,hsz,rfl⟩:=hc
    intro K hk
    have hx:=hf b (zl _) (by simp [KK])
    exact ⟨_,.slice none 0 0,w,Z,_,.inl rfl,hk,.hd (Qn _ _ _) (by simp [Hdr]),hg.nil (sz:=sz) hx hm,Evo.name hx (zl _) (by simp [KK])⟩
   ·simp only [zk] at hc
    obtain ⟨x',hx',rfl⟩:=hc
    intro K hk
    exact ⟨_,_,w,Z,μ,.inl rfl,hk,hρ _ _ hx',hg,.refl⟩
 | pick c x y =>
   simp only [comp] at hc
   split at hc
   ·rename_i c' x' y' h1 h2 h3
    simp only [zf] at hc;subst hc
    have:=Qw (avu (b:=b) hg (hρ _ _ h1) (hρ _ _ h2) (hρ _ _ h3))
    intro K hk
    obtain ⟨e,v,w',Z',μ',e1,e2⟩:=this K hk
    refine ⟨e,v,w',Z',μ',?_,e2⟩
    simpa [execOp] using e1
   ·cases hc
 | alloc t =>
   simp only [comp] at hc
   split at hc
   ·split at hc
    ·rename_i z n h1 h3
     split at hc
     ·rename_i hcond
      simp only [zf] at hc;subst hc
      exact Qw (asj hg hf hm h1 (abD hcond.2))
     ·cases hc
    ·cases hc
   split at hc
   ·rename_i z ss n h1 h2 h3
    split at hc
    ·rename_i hcond
     simp only [zf] at hc;subst hc
     have hl:(zcs z.cells.toList ss).length = z.cells.toList.length:=by
      have:=congrArg List.length (anI z.cells.toList ss)
      simpa using this
     exact Qw (atR hg hf hm h1 (anI _ _) (abD hcond.2.2) (by rw [hl];simp [KK];omega))
    ·cases hc
   ·cases hc
 | box t x =>
   simp only [comp] at hc
   split at hc
   ·rename_i g sz x' h1 h2 h3
    simp only [zf] at hc;subst hc
    exact Qw (axw hg hf hm (hρ _ _ h3))
   ·cases hc
 | build t ps =>
   simp only [comp] at hc
   split at hc
   ·rename_i z fs h1 h2
    split at hc
    ·rename_i hcond
     simp only [zk] at hc
     obtain ⟨qs,hq,rfl⟩:=hc
     exact Qw (aiQ hg hρ h1 h2 hcond.1 (abD hcond.2) hq)
    ·cases hc
   ·rename_i z n e h1 h2
    split at hc
    ·rename_i sz h3
     split at hc
     ·rename_i hcond
      simp only [zk] at hc
      obtain ⟨qs,hq,rfl⟩:=hc
      exact Qw (ajS hg hρ h1 h2 h3 (abD hcond) hq)
     ·cases hc
    ·cases hc
   ·cases hc
 | buildSlice t n ps =>
   simp only [comp] at hc
   split at hc
   ·rename_i e hu
    split at hc
    ·rename_i sz g z qs h1 h2 h3 h4
     split at hc
     ·rename_i hcond
      simp only [zf] at hc;subst hc
      split
      ·exact Qw (apR hg hf hm hρ hu h1 h3 hcond.1 hcond.2.1 hcond.2.2.1 hcond.2.2.2.1 (abD hcond.2.2.2.2) h4)
      ·exact Qw (ash hg hf hm hρ hu h1 h3 hcond.1 hcond.2.1 hcond.2.2.1 hcond.2.2.2.1 (abD hcond.2.2.2.2) h4)
     ·cases hc
    ·cases hc
   ·cases hc
 | load t x =>
   simp only [comp] at hc
   split at hc
   ·rename_i g sz x' h1 h2 h3
    simp only [zf] at hc;subst hc
    exact Qw (avx hg h1 h2 (hρ _ _ h3))
   ·cases hc
 | store t x y =>
   simp only [comp] at hc
   split at hc
   ·rename_i sz x' y' h1 h2 h3
    simp only [zf] at hc;subst hc
    exact ahc (atH hg h1 (hρ _ _ h2) (hρ _ _ h3))
   ·cases hc
 | nilCheck x =>
   simp only [comp,zk] at hc
   obtain ⟨x',hx',rfl⟩:=hc
   have hr:=hρ _ _ hx'
   intro K hk
   simp only [sem] at hk
   split at hk
   ·rename_i h1;rw [h1] at hr
    obtain ⟨c,hmu,e⟩:=hr.ptrE
    exact ⟨_,a.eval x,w,Z,μ,.inl (by simp [execOp,e]),hk,hr,hg,.refl⟩
   ·rename_i h1;rw [h1] at hr
    obtain ⟨c,hmu,_,_,e⟩:=hr.eptE
    exact ⟨_,a.eval x,w,Z,μ,.inl (by simp [execOp,e]),hk,hr,hg,.refl⟩
   ·rename_i h1;rw [h1] at hr
    obtain ⟨_,_,_,e,_⟩:=hr.roE
    exact ⟨_,a.eval x,w,Z,μ,.inl (by simp [execOp,e]),hk,hr,hg,.refl⟩
   ·rename_i h1;rw [h1] at hr
    obtain ⟨cs,e,_⟩:=hr.cloE
    exact ⟨_,a.eval x,w,Z,μ,.inl (by rename_i fk _ _;cases fk<;>simp [execOp,e,FK.val]),hk,hr,hg,.refl⟩
   ·exact hk.elim
 | binOp op t x y yt =>
   simp only [comp] at hc
   split at hc
   ·rename_i x' y' h1 h2 h3
    simp only [zf] at hc;subst hc
    exact Qw (atQ hg (hρ _ _ h2) (hρ _ _ h3))
   ·rename_i x' y' h1 h2 h3
    simp only [zf] at hc;subst hc
    exact Qw (atQ hg (hρ _ _ h2) (hρ _ _ h3))
   ·rename_i x' y' h1 h2 h3
    split at hc
    ·simp only [zf] at hc;subst hc
     exact Qw (atO (neg:=false) hg h1 (hρ _ _ h2) (hρ _ _ h3))
    ·simp only [zf] at hc;subst hc
     exact Qw (atO (neg:=true) hg h1 (hρ _ _ h2) (hρ _ _ h3))
    ·cases hc
   ·rename_i fs x' y' h1 h2 h3
    split at hc
    ·rename_i ks hks
     split at hc
     ·cases hc
     ·rename_i hcond
      have c1:C.P.eqGuardType C.P.depth t = false:=by
       cases h:C.P.eqGuardType C.P.depth t with
       | false=>rfl
       | true=>exact (hcond (.inl h)).elim
      have c2:Yz C.P t = some ks.length:=by
       by_cases h:Yz C.P t = some ks.length
       ·exact h
       ·exact (hcond (.inr h)).elim
      split at hc
      ·simp only [zf] at hc;subst hc
       exact Qw (aoa (neg:=false) hg h1 hks c2 c1 (hρ _ _ h2) (hρ _ _ h3))
      ·simp only [zf] at hc;subst hc
       exact Qw (aoa (neg:=true) hg h1 hks c2 c1 (hρ _ _ h2) (hρ _ _ h3))
      ·cases hc
    ·cases hc
   ·rename_i e x' y' h1 h2 h3
    split at hc
    ·rename_i hn
     have hy:y = .const (.slice none 0 0):=by
      unfold awW at hn;split at hn
      ·rfl
      ·cases hn
     subst hy
     split at hc
     ·simp only [zf] at hc;subst hc
      exact Qw (acT (neg:=false) hg h1 (hρ _ _ h2))
     ·simp only [zf] at hc;subst hc
      exact Qw (acT (neg:=true) hg h1 (hρ _ _ h2))
     ·cases hc
    ·cases hc
   ·rename_i ps rs va x' y' h1 h2 h3
    split at hc
    ·rename_i hn
     have hy:y = .const .nilFunc:=by
      unfold awY at hn;split at hn
      ·rfl
      ·cases hn
     subst hy
     split at hc
     ·simp only [zf] at hc;subst hc
      exact Qw (alS (neg:=false) hg h1 (hρ _ _ h2))
     ·simp only [zf] at hc;subst hc
      exact Qw (alS (neg:=true) hg h1 (hρ _ _ h2))
     ·cases hc
    ·cases hc
   ·rename_i e x' y' h1 h2 h3
    split at hc
    ·rename_i hn
     have hy:y = .const .nilIface:=by
      unfold awX at hn;split at hn
      ·rfl
      ·cases hn
     subst hy
     split at hc
     ·simp only [zf] at hc;subst hc
      exact Qw (acU (neg:=false) hg h1 (hρ _ _ h2))
     ·simp only [zf] at hc;subst hc
      exact Qw (acU (neg:=true) hg h1 (hρ _ _ h2))
     ·cases hc
    ·cases hc
   ·cases hc
 | unOp op t x =>
   simp only [comp,zk] at hc
   obtain ⟨x',hx',rfl⟩:=hc
   exact Qw (ayC hg (hρ _ _ hx'))
 | convert sT dT x =>
   simp only [comp] at hc
   split at hc
   ·rename_i k' k x' h1 h2 h3
    simp only [zf] at hc;subst hc
    exact Qw (atP hg h1 h2 (hρ _ _ h3))
   ·rename_i x' h1 h2 h3
    simp only [zf] at hc;subst hc
    exact Qw (axs hg h1 h2 (hρ _ _ h3))
   ·rename_i e x' h1 h2 h3
    split at hc
    ·rename_i h4 h5
     simp only [zf] at hc;subst hc
     exact Qw (asf hg hf hm h1 h2 h4 (hρ _ _ h3))
    ·cases hc
   ·rename_i e x' h1 h2 h3
    split at hc
    ·rename_i h4
     simp only [zf] at hc;subst hc
     exact Qw (asg hg h1 h2 h4 (hρ _ _ h3))
    ·cases hc
   ·cases hc
 | makeFunc fn first cap =>
   cases fn with
   | func f =>
     simp only [comp] at hc
     split at hc
     ·rename_i hfi
      simp only [zk] at hc
      obtain ⟨cs,h1,rfl⟩:=hc
      exact Qw (avw hg hρ hfi h1)
     ·split at hc
      ·rename_i hca
       simp only [zk] at hc
       obtain ⟨cs,h1,rfl⟩:=hc
       exact Qw (atK hg hρ hca h1)
      ·cases hc
   | _=>simp [comp] at hc
 | makeSlice t l c =>
   simp only [comp] at hc
   split at hc
   ·rename_i e hu
    split at hc
    ·rename_i sz by_ g z l' c' h1 h2 h3 h4 h5 h6
     split at hc
     ·rename_i hcond
      simp only [zf] at hc;subst hc
      exact Qw (apS hg hf hm hu h1 h2 h4 hcond.2.1 hcond.2.2.1 (abD hcond.2.2.2) (hρ _ _ h5) (hρ _ _ h6))
     ·cases hc
    ·cases hc
   ·cases hc
 | slice t x lo hi mx =>
   simp only [comp] at hc
   split at hc
   ·rename_i x' lo' hi' h1 h2 h3 h4
    simp only [zf] at hc;subst hc
    exact Qw (atI hg h1 hρ h3 h4 (hρ _ _ h2))
   ·rename_i e x' lo' hi' h1 h2 h3 h4
    simp only [zk] at hc
    obtain ⟨sz,hsz,rfl⟩:=hc
    exact Qw (avt hg h1 hsz hρ h3 h4 (hρ _ _ h2))
   ·cases hc
 | fieldAddr t x i =>
   simp only [comp] at hc
   split at hc
   ·rename_i fs x' h1 h2
    split at hc
    ·rename_i f hf'
     split at hc
     ·rename_i n hn
      simp only [zf] at hc;subst hc
      exact Qw (atN hg h1 hf' hn (hρ _ _ h2))
     ·cases hc
    ·cases hc
   ·cases hc
 | field t x i =>
   simp only [comp] at hc
   split at hc
   ·rename_i fs x' h1 h2
    split at hc
    ·rename_i f hf'
     split at hc
     ·rename_i g sz h3 h4
      simp only [zf] at hc;subst hc
      exact Qw (axt hg h1 hf' h3 h4 (hρ _ _ h2))
     ·cases hc
    ·cases hc
   ·cases hc
 | indexAddr t x i =>
   simp only [comp] at hc
   split at hc
   ·rename_i e x' i' h1 h2 h3
    simp only [zk] at hc
    obtain ⟨sz,hsz,rfl⟩:=hc
    exact Qw (atL hg h1 hsz (hρ _ _ h2) (hρ _ _ h3))
   ·rename_i n e x' i' h1 h2 h3
    split at hc
    ·rename_i hn
     simp only [zk] at hc
     obtain ⟨sz,hsz,rfl⟩:=hc
     exact Qw (ase hg hn h1 hsz (hρ _ _ h2) (hρ _ _ h3))
    ·cases hc
   ·cases hc
 | index t x i =>
   simp only [comp] at hc
   split at hc
   ·rename_i x' i' h1 h2 h3
    simp only [zf] at hc;subst hc
    exact Qw (avB hg h1 (hρ _ _ h2) (hρ _ _ h3))
   ·rename_i n e x' i' h1 h2 h3
    split at hc
    ·rename_i g sz h4 h5
     simp only [zf] at hc;subst hc
     exact Qw (avC hg h1 h4 h5 (hρ _ _ h2) (hρ _ _ h3))
    ·cases hc
   ·cases hc
 | extract x i =>
   simp only [comp,zk] at hc
   obtain ⟨x',hx',rfl⟩:=hc
   exact Qw (axu hg (hρ _ _ hx'))
 | makeMap t rs =>
   cases rs with
   | none =>
     simp only [comp,zf] at hc;subst hc
     exact Qw (atJ hg hf hm)
   | some x=>simp [comp] at hc
 | mapUpdate t m k v =>
   simp only [comp] at hc
   split at hc
   ·rename_i kt e m' k' v' h1 h2 h3 h4
    split at hc
    ·rename_i kg ks hk
     simp only [zf] at hc;subst hc
     exact ahc (alR hg h1 hk (hρ _ _ h2) (hρ _ _ h3) (hρ _ _ h4))
    ·cases hc
   ·cases hc
 | insert t m k v =>
   simp only [comp] at hc
   split at hc
   ·rename_i kt e m' k' v' h1 h2 h3 h4
    split at hc
    ·rename_i kg ks hk
     simp only [zf] at hc;subst hc
     exact ahc (alR hg h1 hk (hρ _ _ h2) (hρ _ _ h3) (hρ _ _ h4))
    ·cases hc
   ·cases hc
 | lookup t m k ok =>
   simp only [comp] at hc
   split at hc
   ·rename_i kt e m' k' h1 h2 h3
    split at hc
    ·rename_i kg ks s g z q0 q1 q2 q3
     split at hc
     ·rename_i hcond
      simp only [zf] at hc;subst hc
      exact Qw (asb hg h1 q0 q3 hcond.1 (abD hcond.2) (hρ _ _ h2) (hρ _ _ h3))
     ·cases hc
    ·cases hc
   ·cases hc
 | range t x =>
   simp only [comp] at hc
   split at hc
   ·rename_i kt e x' h1 h2
    simp only [zf] at hc;subst hc
    exact Qw (axq hg hf hm h1 (hρ _ _ h2))
   ·cases hc
 | next x isS =>
   simp only [comp] at hc
   split at hc
   ·cases hc
   ·rename_i hS
    simp only [Bool.not_eq_true] at hS
    subst hS
    simp only [zk] at hc
    obtain ⟨x',hx',rfl⟩:=hc
    exact Qw (axr hg (hρ _ _ hx'))
 | entry x =>
   simp only [comp,zk] at hc
   obtain ⟨x',hx',rfl⟩:=hc
   exact Qw (axv hg (hρ _ _ hx'))
 | panic x =>
   simp only [comp,zf] at hc;subst hc
   intro K hk
   exact hk.elim
 | makeInterface t x =>
   simp only [comp] at hc
   split at hc
   ·cases hc
   ·rename_i d x' hni h1 h2
    simp only [zf] at hc;subst hc
    refine Qw (avv hg h1 ?_)
    rintro ms rfl
    exact hni _ rfl
   ·cases hc
 | call c =>
   obtain ⟨callee,args,argTypes⟩:=c
   simp only [comp] at hc
   split at hc
   ·simp only [zf] at hc;subst hc;cases hp
   ·simp only [zk] at hc
    obtain ⟨x',_,rfl⟩:=hc;cases hp
   ·
    rename_i x' h1 h2
    obtain ⟨y,rfl,hr⟩:=aq3 hρ h2
    split at hc
    ·rename_i h3
     obtain ⟨t,ht,hu⟩:=WF h3
     simp only [zf] at hc;subst hc
     exact X2 (b:=b) .len argTypes type #[y] a (avy (ty:=type) hg ht hu hr) (by simp [builtin])
    ·rename_i h3
     obtain ⟨t,ht,hu⟩:=WF h3
     simp only [zf] at hc;subst hc
     exact X2 (b:=b) .len argTypes type #[y] a (avz (ty:=type) hg ht hu hr) (by simp [builtin])
    ·rename_i h3
     obtain ⟨t,ht,hu⟩:=WF h3
     simp only [zf] at hc;subst hc
     exact X2 (b:=b) .len argTypes type #[y] a (avA (cx:=a.eval y) (ty:=type) hg ht hu) (by simp [builtin])
    ·rename_i h3
     obtain ⟨t,ht,hu⟩:=WF h3
     simp only [zf] at hc;subst hc
     exact X2 (b:=b) .len argTypes type #[y] a (asa (ty:=type) hg ht hu hr) (by simp [builtin])
    ·cases hc
   ·
    rename_i x' h1 h2
    obtain ⟨y,rfl,hr⟩:=aq3 hρ h2
    split at hc
    ·rename_i h3
     obtain ⟨t,ht,hu⟩:=WF h3
     simp only [zf] at hc;subst hc
     exact X2 (b:=b) .clear argTypes type #[y] a (asd (ty:=type) hg ht hu hr) (by simp [builtin])
    ·rename_i e h3
     obtain ⟨t,ht,hu⟩:=WF h3
     split at hc
     ·rename_i sz g z q1 q2 q3
      split at hc
      ·rename_i hcond
       simp only [zf] at hc;subst hc
       exact X2 (b:=b) .clear argTypes type #[y] a (avE (ty:=type) hg ht hu q3 hcond.2.1 hcond.2.2.1 (abD hcond.2.2.2) hr) (by simp [builtin])
      ·cases hc
     ·cases hc
    ·cases hc
   ·
    rename_i x' y' h1 h2
    obtain ⟨u,v,rfl,hr1,hr2⟩:=aq2 hρ h2
    split at hc
    ·rename_i e d h3 h4
     obtain ⟨st,hst,hu1⟩:=WF h3
     obtain ⟨xt,hxt,hu2⟩:=WF h4
     split at hc
     ·rename_i sz by_ z q1 q2 q3
      split at hc
      ·rename_i hcond
       simp only [zf] at hc;subst hc
       exact X2 (b:=b) .append argTypes type #[u,v] a (asi (ty:=type) hg hf hm ⟨hst,hu1,q1,hxt,.inl ⟨d,hu2⟩,q2,hcond.2.1,hcond.2.2.1,q3,hcond.2.2.2.1⟩ hr1 hr2) (by simp [builtin])
      ·cases hc
     ·cases hc
    ·rename_i e h3 h4
     obtain ⟨st,hst,hu1⟩:=WF h3
     obtain ⟨xt,hxt,hu2⟩:=WF h4
     split at hc
     ·rename_i z q1 q2 q3
      split at hc
      ·rename_i hcond
       simp only [zf] at hc;subst hc
       exact X2 (b:=b) .append argTypes type #[u,v] a (apT (ty:=type) hg hf hm ⟨hst,hu1,q1,hxt,.inr hu2,q2,by omega,by omega,q3,hcond.1⟩ hr1 hr2) (by simp [builtin])
      ·cases hc
     ·cases hc
    ·cases hc
   ·
    rename_i x' y' h1 h2
    obtain ⟨u,v,rfl,hr1,hr2⟩:=aq2 hρ h2
    split at hc
    ·rename_i e h3
     obtain ⟨st,hst,hu1⟩:=WF h3
     simp only [zk] at hc
     obtain ⟨sz,hsz,rfl⟩:=hc
     exact X2 (b:=b) .copy argTypes type #[u,v] a (avD (ty:=type) hg hst hu1 hsz hr1 hr2) (by simp [builtin])
    ·cases hc
   ·rename_i x' xs' h1 h2
    simp only [zf] at hc;subst hc
    exact X2 (b:=b) .max argTypes type args a (awM (mx:=true) (ts:=argTypes) (ty:=type) hg hρ h2) rfl
   ·rename_i x' xs' h1 h2
    simp only [zf] at hc;subst hc
    exact X2 (b:=b) .min argTypes type args a (awM (mx:=false) (ts:=argTypes) (ty:=type) hg hρ h2) rfl
   ·cases hc
 | _=>simp [comp] at hc
end
end Av
end
section
namespace Av
open Go
mutual
def V.ren (σ:Nat→Nat):V→V
 | .hd a off len=>.hd (σ a) off len
 | .ptr a off=>.ptr (σ a) off
 | .ept a i off=>.ept (σ a) i off
 | .mp a=>.mp (σ a)
 | .agg cs=>.agg (K3 σ cs)
 | .tup cs=>.tup (K3 σ cs)
 | .clo f cs=>.clo f (K3 σ cs)
 | v=>v
def K3 (σ:Nat→Nat):List V→List V
 | []=>[]
 | v :: r=>v.ren σ :: K3 σ r
end
theorem QI (σ:Nat→Nat):∀ cs:List V,(K3 σ cs).length = cs.length
 | []=>rfl
 | v :: r=>by simp [K3,QI σ r]
theorem Wi (σ:Nat→Nat):∀ (cs:List V) (j:Nat) (h:j < cs.length) (h':j < (K3 σ cs).length),(K3 σ cs)[j] = cs[j].ren σ
 | [],j,h,_=>by simp at h
 | v :: r,0,_,_=>rfl
 | v :: r,j + 1,h,h'=>by
   simp only [K3,List.getElem_cons_succ]
   exact Wi σ r j (by simpa using h) _
def Ob.ren (σ:Nat→Nat):Ob→Ob
 | .box wr cs=>.box wr (K3 σ cs)
 | .typ T x=>.typ T (x.ren σ)
 | .obuf wr s xs=>.obuf wr s (K3 σ xs)
 | .map ks vs c0=>.map ks (K3 σ vs) c0
 | .iter a since seen last=>.iter (σ a) since seen last
 | x=>x
theorem adg (σ:Nat→Nat) (x:V):(x.ren σ).cells = K3 σ x.cells:=by cases x<;>rfl
theorem Rep.ren {w:World} {Z:Nat→Nat→Prop} {μ μ':Nat→Option Cn} {σ:Nat→Nat} {v:Value} {x:V} (h:Rep w Z μ v x) (hσ:∀ a c,μ a = some c→μ' (σ a) = some c):Rep w Z μ' v (x.ren σ):=by
 induction h generalizing μ' with
 | top=>exact .top
 | sc h=>exact .sc h
 | nn=>exact .nn
 | sl0=>exact .sl0
 | sl f h0 h1 h2 h3 _=>exact .sl f h0 h1 h2 h3
 | hd h hv=>exact .hd (hσ _ _ h) hv
 | ptr h=>exact .ptr (hσ _ _ h)
 | ept h hv hi=>exact .ept (hσ _ _ h) hv hi
 | mp h=>exact .mp (hσ _ _ h)
 | ro f h1 h2 _=>exact .ro f h1 h2
 | agg hl ho _ ih=>exact .agg (by rw [QI];exact hl) ho (fun j h h'=>by rw [QI] at h;rw [Wi σ _ j h];exact ih j h h' hσ)
 | tup hl _ ih=>exact .tup (by rw [QI];exact hl) (fun j h h'=>by rw [QI] at h;rw [Wi σ _ j h];exact ih j h h' hσ)
 | clo hl _ ih=>exact .clo (by rw [QI];exact hl) (fun j h h'=>by rw [QI] at h;rw [Wi σ _ j h];exact ih j h h' hσ)
 | clm hl _ ih=>exact .clm (by rw [QI];exact hl) (fun j h h'=>by rw [QI] at h;rw [Wi σ _ j h];exact ih j h h' hσ)
theorem ad5 {σ:Nat→Nat} {c:Cn} {x:Ob}:(x.ren σ).live c↔x.live c:=by
 induction x with
 | typ T x ih=>exact ih
 | _=>rfl
theorem BOk.ren {w:World} {Z:Nat→Nat→Prop} {μ μ':Nat→Option Cn} {σ:Nat→Nat} {c:Cn} {wr:Bool} {s:Nat} {xs:List V} (h:BOk w Z μ c wr s xs) (hσ:∀ a c,μ a = some c→μ' (σ a) = some c):BOk w Z μ' c wr s (K3 σ xs):=by
 refine ⟨by rw [QI];exact h.1,fun hv=>?_⟩
 obtain ⟨h0,h1,h2,h3,h4,cs,ty,fr,hh,h5,h6,h7⟩:=h.2 hv
 refine ⟨h0,h1,h2,h3,fun i hi=>?_,cs,ty,fr,hh,h5,h6,fun i hi j hj=>?_⟩
 ·have hi':i < xs.length:=by rw [QI] at hi;exact hi
  rw [Wi σ _ i hi',adg,QI];exact h4 i hi'
 ·have hi':i < xs.length:=by rw [QI] at hi;exact hi
  have hj':j < xs[i].cells.length:=by
   have:=hj;simp only [Wi σ _ i hi',adg,QI] at this;exact this
  obtain ⟨v,e1,e2,e3⟩:=h7 i hi' j hj'
  refine ⟨v,e1,e2,?_⟩
  have:(K3 σ xs)[i].cells[j] = (xs[i].cells[j]).ren σ:=by
   simp only [Wi σ _ i hi',adg]
   exact Wi σ _ j hj' _
  rw [this];exact e3.ren hσ
theorem abc.ren {w:World} {Z:Nat→Nat→Prop} {μ μ':Nat→Option Cn} {σ:Nat→Nat} {c:Cn} {x:Ob} (h:abc w Z μ c x) (hσ:∀ a c,μ a = some c→μ' (σ a) = some c):abc w Z μ' c (x.ren σ):=by
 induction x with
 | dead=>trivial
 | typ T x ih=>exact ⟨ih h.1,h.2.1,fun hl=>h.2.2 ((ad5).1 hl)⟩
 | box wr cells =>
   obtain ⟨hv,⟨cs,ty,hh,hs,hr⟩,hz⟩:=h
   exact ⟨hv,⟨cs,ty,hh,by rw [QI];exact hs,fun j h h'=>by
    rw [QI] at h
    rw [Wi σ _ j h]
    exact ⟨(hr j h h').1.ren hσ,(hr j h h').2⟩⟩,hz⟩
 | buf wr sz xs=>exact h
 | obuf wr sz xs=>exact BOk.ren h hσ
 | map ks vs c0 =>
   obtain ⟨h1,es,h2,h3,h4⟩:=h
   exact ⟨by rw [QI];exact h1,es,h2,h3,fun i hi hk hv=>by
    have hv':i < vs.length:=by rw [QI] at hv;exact hv
    rw [Wi σ _ i hv']
    exact ⟨(h4 i hi hk hv').1,(h4 i hi hk hv').2.1,(h4 i hi hk hv').2.2.ren hσ⟩⟩
 | iter a since seen last =>
   obtain ⟨d,h1,h2⟩:=h
   exact ⟨d,hσ _ _ h1,h2⟩
def V2 (P:Program) (f:FuncId) (args:Array Value) (w:World) (R:Ending→World→Prop):Prop :=
 match (callFunc f args).run P w with
 | .ok (.value v) w'=>R (.returned v) w'
 | .ok (.enter f args) w'=>Calls P f args w' R
 | .ok (.row row args) w'=>Rows P row args w' fun v w''=>R (.returned v) w''
 | _=>False
def Own (P:Program) (f:FuncId):Prop:=∃ fn,P.funcs[f]? = some fn∧fn.name≠"runtime.NumGoroutine"∧∃ c,fn.body = some c
theorem XX {P:Program} {f:FuncId} (h:Own P f) (args:Array Value) (w:World) (R:Ending→World→Prop):V2 P f args w R↔Calls P f args w R:=by
 obtain ⟨fn,h1,h2,c,h3⟩:=h
 have:(callFunc f args).run P w = .ok (.enter f args) w:=by simp [callFunc,h1,h2,h3]
 unfold V2
 rw [this]
def Ev (Γ:Env) (f:FuncId) (args:List V) (ins:List Ob) (res:V) (outs:List Ob):Prop :=
 ∀ (C:Ctx) (cargs:Array Value),C.env = Γ→C.m = ins.length→(∀ k,ins.length≤k→C.μ0 k = none)→Good C C.w0 C.Z0 C.μ0 (fun k=>ins[k]?) →
  (∀ b,C.F b→∃ k x c,ins[k]? = some x∧C.μ0 k = some c∧x.live c∧c.block = b) →
  cargs.size = args.length→(∀ i (h:i < args.length) (h':i < cargs.size),Rep C.w0 C.Z0 C.μ0 cargs[i] args[i]) →
  V2 Γ.P f cargs C.w0 (fun e w'=>∃ v Z' μ',e = .returned v∧Rep w' Z' μ' v res∧Good C w' Z' μ' (fun k=>outs[k]?)∧∀ k,outs.length≤k→μ' k = none)
def EvP (Γ:Env) (f:FuncId) (args:List V) (ins:List Ob) (Q:V→List Ob→Prop):Prop :=
 ∀ (C:Ctx) (cargs:Array Value),C.env = Γ→C.m = ins.length→(∀ k,ins.length≤k→C.μ0 k = none)→Good C C.w0 C.Z0 C.μ0 (fun k=>ins[k]?) →
  (∀ b,C.F b→∃ k x c,ins[k]? = some x∧C.μ0 k = some c∧x.live c∧c.block = b) →
  cargs.size = args.length→(∀ i (h:i < args.length) (h':i < cargs.size),Rep C.w0 C.Z0 C.μ0 cargs[i] args[i]) →
  V2 Γ.P f cargs C.w0 (fun e w'=>∃ res outs,Q res outs∧∃ v Z' μ',e = .returned v∧Rep w' Z' μ' v res∧Good C w' Z' μ' (fun k=>outs[k]?)∧∀ k,outs.length≤k→μ' k = none)
theorem V2.mono {P:Program} {f:FuncId} {args:Array Value} {w:World} {R R':Ending→World→Prop} (h:V2 P f args w R) (hr:∀ e w',R e w'→R' e w'):V2 P f args w R':=by
 unfold V2 at h ⊢
 split
 ·rename_i heq;simp only [heq] at h;exact hr _ _ h
 ·rename_i heq;simp only [heq] at h;exact Calls.mono h (fun _ _ h=>hr _ _ h)
 ·rename_i heq;simp only [heq] at h;exact Rows.mono h (fun _ _ h=>hr _ _ h)
 ·rename_i x h1 h2 h3
  split at h
  ·rename_i heq;exact h1 _ _ heq
  ·rename_i heq;exact h2 _ _ _ heq
  ·rename_i heq;exact h3 _ _ _ heq
  ·exact h
theorem Ev.p {Γ:Env} {f:FuncId} {args:List V} {ins:List Ob} {res:V} {outs:List Ob} (h:Ev Γ f args ins res outs):EvP Γ f args ins (fun r o=>r = res∧o = outs) :=
 fun C cargs h1 h2 h3 h4 h5 h6 h7=>(h C cargs h1 h2 h3 h4 h5 h6 h7).mono fun _ _ h=>⟨res,outs,⟨rfl,rfl⟩,h⟩
theorem EvP.one {Γ:Env} {f:FuncId} {args:List V} {ins:List Ob} {res:V} {outs:List Ob} (h:EvP Γ f args ins (fun r o=>r = res∧o = outs)):Ev Γ f args ins res outs :=
 fun C cargs h1 h2 h3 h4 h5 h6 h7=>(h C cargs h1 h2 h3 h4 h5 h6 h7).mono fun _ _ ⟨_,_,⟨e1,e2⟩,hh⟩=>by subst e1;subst e2;exact hh
theorem EvP.weaken {Γ:Env} {f:FuncId} {args:List V} {ins:List Ob} {Q Q':V→List Ob→Prop} (h:EvP Γ f args ins Q) (hq:∀ r o,Q r o→Q' r o):EvP Γ f args ins Q' :=
 fun C cargs h1 h2 h3 h4 h5 h6 h7=>(h C cargs h1 h2 h3 h4 h5 h6 h7).mono fun _ _ ⟨r,o,hq',h⟩=>⟨r,o,hq _ _ hq',h⟩
def ntL:List V→Prop
 | []=>True
 | v :: r=>v≠.top∧ntL r
theorem atZ:∀ {l:List V},ntL l→∀ i (h:i < l.length),l[i]≠.top
 | v :: r,h,0,_=>h.1
 | v :: r,h,i + 1,hi=>atZ (l:=r) h.2 i (by simpa using hi)
def okB (B:Option (List Nat)) (a:Nat):Prop :=
 match B with
 | none=>True
 | some l=>a∈l
mutual
def conv (o:Nat→Option Ob) (br:List Nat) (B:Option (List Nat)):V→V→Prop
 | _,.top=>True
 | .sl s xs,.sl s' ys=>s = s'∧xs = ys
 | .hd a off len,.sl s' ys=>okB B a∧a ∉ br∧((∃ wr xs,o a = some (.buf wr s' xs)∧ys = (xs.drop off).take len)∨(∃ wr xs,o a = some (.obuf wr s' xs)∧Jn o br B ((xs.drop off).take len) ys∧ntL ys∧Qh ys))
 | .sc (.slice none 0 0),.sl _ ys=>ys = []
 | .hd a off len,.hd k off' len'=>br[k]? = some a∧off' = off∧len' = len
 | .ptr a off,.ptr k off'=>br[k]? = some a∧off' = off
 | .mp a,.mp k=>br[k]? = some a
 | .ptr a off,.ro cells off'=>okB B a∧a ∉ br∧off' = off∧Qh cells∧∃ wr cs,o a = some (.box wr cs)∧Jn o br B cs cells
 | .ro cs off,.ro cells off'=>cs = cells∧off' = off
 | .agg cs,.agg es=>Jn o br B cs es
 | .tup cs,.tup es=>Jn o br B cs es
 | .clo f cs,.clo g es=>f = g∧Jn o br B cs es
 | .sc v,.sc u=>v = u
 | .nn,.nn=>True
 | _,_=>False
def Jn (o:Nat→Option Ob) (br:List Nat) (B:Option (List Nat)):List V→List V→Prop
 | [],[]=>True
 | v :: r,e :: r'=>conv o br B v e∧Jn o br B r r'
 | _,_=>False
end
def apF (c:Cn):Ob→Nat→Prop
 | .dead,_=>False
 | .box _ _,_=>True
 | .buf _ _ _,i=>i < c.base + c.n * c.sz
 | .obuf _ _ _,i=>i < c.base + c.n * c.sz
 | .map _ _ _,_=>False
 | .iter _ _ _ _,_=>False
 | .typ _ x,i=>apF c x i
section
variable {C:Ctx} {w:World} {Z:Nat→Nat→Prop} {μ:Nat→Option Cn} {o:Nat→Option Ob}
def Fb (o:Nat→Option Ob) (μ:Nat→Option Cn) (br:List Nat) (b:Nat):Prop:=∃ a∈br,∃ x c,o a = some x∧μ a = some c∧x.live c∧c.block = b
def Zc (Z:Nat→Nat→Prop) (o:Nat→Option Ob) (μ:Nat→Option Cn) (br:List Nat) (B:Option (List Nat)) (b i:Nat):Prop :=
 Z b i∨∃ a x c,okB B a∧a ∉ br∧o a = some x∧μ a = some c∧x.live c∧c.block = b∧apF c x i
def βc (μ:Nat→Option Cn) (br:List Nat) (k:Nat):Option Cn:=(br[k]?).bind μ
theorem YT {br:List Nat} {B:Option (List Nat)}:∀ {cs es:List V},Jn o br B cs es→cs.length = es.length
 | [],[],_=>rfl
 | [],_ :: _,h=>by simp [Jn] at h
 | _ :: _,[],h=>by simp [Jn] at h
 | v :: r,e :: r',h=>by simp only [Jn] at h;simp [YT h.2]
theorem Vy {br:List Nat} {B:Option (List Nat)}:∀ {cs es:List V},Jn o br B cs es→∀ j (h:j < cs.length) (h':j < es.length),conv o br B cs[j] es[j]
 | [],_,_,j,h,_=>by simp at h
 | v :: r,[],h,_,_,h'=>by simp at h'
 | v :: r,e :: r',h,0,_,_=>by simp only [Jn] at h;exact h.1
 | v :: r,e :: r',h,j + 1,hj,hj'=>by simp only [Jn] at h;exact Vy h.2 j (by simpa using hj) (by simpa using hj')
theorem asQ (y:V) (j:Nat) (h:j < y.cells.length):sizeOf y.cells[j]≤sizeOf y:=by
 have one:y.cells = [y]→sizeOf y.cells[j]≤sizeOf y:=fun e=>by
  have:j = 0:=by rw [e] at h;simpa using h
  subst this
  simp only [e,List.getElem_cons_zero];exact zl _
 cases y with
 | agg cs =>
   have:=ZP (zT (l:=cs) h)
   show sizeOf cs[j]≤sizeOf (V.agg cs)
   simp;omega
 | _=>exact one rfl
theorem asJ {br:List Nat} {B:Option (List Nat)} {x e:V} (h:conv o br B x e) (he:e≠.top):x.cells.length = e.cells.length∧∀ j (h:j < x.cells.length) (h':j < e.cells.length),conv o br B x.cells[j] e.cells[j]:=by
 have one:∀ {y z:V},y.cells = [y]→z.cells = [z]→conv o br B y z→y.cells.length = z.cells.length∧∀ j (h:j < y.cells.length) (h':j < z.cells.length),conv o br B y.cells[j] z.cells[j]:=by
  intro y z h1 h2 h
  refine ⟨by rw [h1,h2];rfl,fun j hj hj'=>?_⟩
  have:j = 0:=by rw [h1] at hj;simpa using hj
  subst this
  simp only [h1,h2,List.getElem_cons_zero];exact h
 cases e with
 | top=>exact (he rfl).elim
 | agg es =>
   cases x<;>simp only [conv] at h
   rename_i cs
   exact ⟨YT h,fun j h1 h2=>Vy h j h1 h2⟩
 | sl s ys=>cases x<;>first|exact one rfl rfl h|simp [conv] at h
 | sc u=>cases x<;>first|exact one rfl rfl h|simp [conv] at h
 | nn=>cases x<;>first|exact one rfl rfl h|simp [conv] at h
 | hd a b c=>cases x<;>first|exact one rfl rfl h|simp [conv] at h
 | ptr a b=>cases x<;>first|exact one rfl rfl h|simp [conv] at h
 | ept a b c=>cases x<;>first|exact one rfl rfl h|simp [conv] at h
 | mp a=>cases x<;>first|exact one rfl rfl h|simp [conv] at h
 | ro a b=>cases x<;>first|exact one rfl rfl h|simp [conv] at h
 | tup a=>cases x<;>first|exact one rfl rfl h|simp [conv] at h
 | clo a b=>cases x<;>first|exact one rfl rfl h|simp [conv] at h
theorem Kx (hg:Good C w Z μ o) (br:List Nat) (B:Option (List Nat)):∀ (n:Nat) (exp act:V) (v:Value),sizeOf exp≤n→Rep w Z μ v act→conv o br B act exp→Rep w (Zc Z o μ br B) (βc μ br) v exp:=by
 have hz:∀ b i,Z b i→Zc Z o μ br B b i:=fun b i h=>.inl h
 intro n
 induction n with
 | zero=>intro exp act v hs;cases exp<;>simp at hs
 | succ n ih =>
   intro exp act v hs hr hc
   have list:∀ (es cs:List V) (vs:Array Value),sizeOf es≤n→vs.size = cs.length→(∀ j (h:j < cs.length) (h':j < vs.size),Rep w Z μ vs[j] cs[j])→Jn o br B cs es →
     vs.size = es.length∧∀ j (h:j < es.length) (h':j < vs.size),Rep w (Zc Z o μ br B) (βc μ br) vs[j] es[j]:=by
    intro es cs vs hs hl hr hc
    have h1:=YT hc
    refine ⟨by omega,fun j h h'=>ih _ _ _ ?_ (hr j (by omega) h') (Vy hc j (by omega) h)⟩
    have:=ZP (zT h)
    omega
   cases exp with
   | top=>exact .top
   | sc u=>cases act<;>simp only [conv] at hc;subst hc;obtain ⟨rfl,h⟩:=hr.scE;exact .sc h
   | nn=>cases act<;>simp only [conv] at hc;obtain ⟨t,u,rfl⟩:=hr.nnE;exact .nn
   | sl s' ys =>
     cases act with
     | sl s xs =>
       simp only [conv] at hc
       obtain ⟨rfl,rfl⟩:=hc
       cases hr with
       | sl0=>exact .sl0
       | sl f h0 h1 h2 h3=>exact (Rep.sl f h0 h1 h2 h3:Rep w Z (βc μ br) _ _).mono (fun _ _ _=>rfl) hz (fun _ _ h=>h)
     | hd a off len =>
       simp only [conv] at hc
       obtain ⟨hB,hbr,hc⟩:=hc
       rcases hc with ⟨wr,xs,hoa,rfl⟩|⟨wr,xs,hoa,hcv,hnt,hcl⟩
       ·skip
        obtain ⟨c,hm,hh⟩:=hr.hdE
        obtain ⟨c',hm',hok,_⟩:=hg.ob a _ hoa
        rw [hm] at hm';cases hm'
        cases hvo:c.void with
        | true =>
          obtain ⟨rfl,rfl,rfl⟩:=ad8 hh hvo
          simp only [List.take_zero];exact .sl0
        | false =>
          obtain ⟨ad,rfl,h3,h4,h5⟩:=ad9 hh hvo
          obtain ⟨hlen,hok⟩:=hok
          obtain ⟨h6,h7,h8,h9,h10,cs,ty,fr,hb,h11,h12,h13⟩:=hok hvo
          have hl:((xs.drop off).take len).length = len:=by simp;omega
          by_cases h0:len = 0
          ·subst h0;simp only [List.take_zero];exact .sl0
          ·rw [h5 (by omega)]
           have hrow:Row w Z noμ (fun k=>w.cell? ⟨c.block,c.base + off * c.sz + k,none⟩) s' ((xs.drop off).take len):=by
            have h':Row w Z noμ (fun k=>w.cell? ⟨c.block,c.base + k,none⟩) s' xs:=fun i hi=>⟨h10 i hi,fun j hj=>by
             obtain ⟨u,e1,e2,e3⟩:=h13 i hi j hj
             rw [h6] at e1
             exact ⟨u,by simp only [cell?_of_heap hb];exact e1,e2,e3⟩⟩
            exact ((h'.drop off).take len).congr (fun k _=>by rw [h6,kK])
           rw [← hl]
           have e0:(xs.drop off).take ((xs.drop off).take len).length = (xs.drop off).take len:=by rw [hl]
           rw [e0]
           have hfun:∀ i (hi:i < ((xs.drop off).take len).length) j (hj:j < ((xs.drop off).take len)[i].cells.length),∃ u,w.cell? ⟨c.block,c.base + off * c.sz + (i * s' + j),none⟩ = some u∧u.oneCell' = true∧Rep w Z noμ u ((xs.drop off).take len)[i].cells[j] :=
            fun i hi j hj=>(hrow i hi).2 j hj
           refine Rep.sl (sz:=s') (fun i j=>(w.cell? ⟨c.block,c.base + off * c.sz + (i * s' + j),none⟩).getD undef) (by rw [hl];omega) (fun i hi=>(hrow i hi).1) (fun i hi j hj=>?_) (fun i hi j hj=>?_)
           ·obtain ⟨u,e1,e2,e3⟩:=hfun i hi j hj
            refine ⟨by rw [e1];rfl,.inr ⟨a,_,c,hB,hbr,hoa,hm,hvo,rfl,?_⟩,by rw [e1];exact e2⟩
            have hi':i < len:=by rw [hl] at hi;exact hi
            have hj':j < s':=by rw [(hrow i hi).1] at hj;exact hj
            have b1:(off + i + 1) * s'≤c.n * s':=zX _ (by omega)
            have b2:(off + i + 1) * s' = off * s' + i * s' + s':=by rw [zQ,zQ];omega
            simp only [apF]
            rw [h6];omega
           ·obtain ⟨u,e1,e2,e3⟩:=hfun i hi j hj
            rw [e1]
            exact e3.mono (fun _ _ _=>rfl) hz (fun _ _ h=>h)
       ·skip
        obtain ⟨c,hm,hh⟩:=hr.hdE
        obtain ⟨c',hm',hok,_⟩:=hg.ob a _ hoa
        rw [hm] at hm';cases hm'
        cases hvo:c.void with
        | true =>
          obtain ⟨rfl,rfl,rfl⟩:=ad8 hh hvo
          have h0:=YT hcv
          have:ys = []:=by simpa using h0.symm
          subst this;exact .sl0
        | false =>
          obtain ⟨ad,rfl,h3,h4,h5⟩:=ad9 hh hvo
          obtain ⟨hlen,hok⟩:=hok
          obtain ⟨h6,h7,h8,h9,h10,cs,ty,fr,hb,h11,h12,h13⟩:=hok hvo
          have hl:((xs.drop off).take len).length = len:=by simp;omega
          have hly:ys.length = len:=by rw [← YT hcv,hl]
          by_cases h0:len = 0
          ·subst h0
           have:ys = []:=kP hly
           subst this;exact .sl0
          ·rw [h5 (by omega)]
           have hrow:Row w Z μ (fun k=>w.cell? ⟨c.block,c.base + off * c.sz + k,none⟩) s' ((xs.drop off).take len):=by
            have h':Row w Z μ (fun k=>w.cell? ⟨c.block,c.base + k,none⟩) s' xs:=fun i hi=>⟨h10 i hi,fun j hj=>by
             obtain ⟨u,e1,e2,e3⟩:=h13 i hi j hj
             rw [h6] at e1
             exact ⟨u,by simp only [cell?_of_heap hb];exact e1,e2,e3⟩⟩
            exact ((h'.drop off).take len).congr (fun k _=>by rw [h6,kK])
           have hcc:=fun i (hi:i < ys.length)=>asJ (Vy hcv i (by omega) hi) (atZ hnt i hi)
           have hsz':∀ i (hi:i < ys.length),ys[i].cells.length = s':=fun i hi=>by rw [← (hcc i hi).1];exact (hrow i (by omega)).1
           have hfun:∀ i (hi:i < ys.length) j (hj:j < ys[i].cells.length),∃ u,w.cell? ⟨c.block,c.base + off * c.sz + (i * s' + j),none⟩ = some u∧u.oneCell' = true∧Rep w (Zc Z o μ br B) noμ u ys[i].cells[j]:=by
            intro i hi j hj
            obtain ⟨u,e1,e2,e3⟩:=(hrow i (by omega)).2 j (by rw [(hcc i hi).1];exact hj)
            have hle:sizeOf ys[i].cells[j]≤n:=by
             have k1:=ZP (zT hi)
             have k2:=asQ ys[i] j hj
             simp at hs;omega
            exact ⟨u,e1,e2,(ih _ _ _ hle e3 ((hcc i hi).2 j (by rw [(hcc i hi).1];exact hj) hj)).close (aih (WR hcl i hi) j hj)⟩
           rw [← hly]
           refine Rep.sl (sz:=s') (fun i j=>(w.cell? ⟨c.block,c.base + off * c.sz + (i * s' + j),none⟩).getD undef) (by rw [hly];omega) hsz' (fun i hi j hj=>?_) (fun i hi j hj=>?_)
           ·obtain ⟨u,e1,e2,e3⟩:=hfun i hi j hj
            refine ⟨by rw [e1];rfl,.inr ⟨a,_,c,hB,hbr,hoa,hm,hvo,rfl,?_⟩,by rw [e1];exact e2⟩
            have hi':i < len:=by rw [hly] at hi;exact hi
            have hj':j < s':=by rw [hsz' i hi] at hj;exact hj
            have b1:(off + i + 1) * s'≤c.n * s':=zX _ (by omega)
            have b2:(off + i + 1) * s' = off * s' + i * s' + s':=by rw [zQ,zQ];omega
            simp only [apF]
            rw [h6];omega
           ·obtain ⟨u,e1,e2,e3⟩:=hfun i hi j hj
            rw [e1];exact e3
     | sc u =>
       cases u with
       | slice a l c =>
         cases a with
         | none =>
           cases l with
           | zero=>cases c with
             | zero =>
               simp only [conv] at hc
               subst hc
               obtain ⟨rfl,_⟩:=hr.scE
               exact .sl0
             | succ _=>simp [conv] at hc
           | succ _=>simp [conv] at hc
         | some _=>simp [conv] at hc
       | _=>simp [conv] at hc
     | _=>simp [conv] at hc
   | hd k off' len' =>
     cases act<;>simp only [conv] at hc
     obtain ⟨h1,rfl,rfl⟩:=hc
     obtain ⟨c,hm,hh⟩:=hr.hdE
     exact .hd (c:=c) (by simp [βc,h1,hm]) hh
   | ptr k off' =>
     cases act<;>simp only [conv] at hc
     obtain ⟨h1,rfl⟩:=hc
     obtain ⟨c,hm,rfl⟩:=hr.ptrE
     exact .ptr (c:=c) (by simp [βc,h1,hm])
   | ept k i off'=>cases act<;>simp only [conv] at hc
   | mp k =>
     cases act<;>simp only [conv] at hc
     obtain ⟨c,hm,rfl⟩:=hr.mpE
     exact .mp (c:=c) (by simp [βc,hc,hm])
   | ro cells off' =>
     cases act with
     | ptr a off =>
       simp only [conv] at hc
       obtain ⟨hB,hbr,rfl,hcl,wr,cs,hoa,hconv⟩:=hc
       obtain ⟨c,hm,rfl⟩:=hr.ptrE
       obtain ⟨c',hm',hok,_⟩:=hg.ob a _ hoa
       rw [hm] at hm';cases hm'
       obtain ⟨hvo,⟨vs,ty,hb,hsz,hrr⟩,_⟩:=hok
       obtain ⟨l1,l2⟩:=list cells cs vs (by simp at hs;omega) hsz (fun j h h'=>(hrr j h h').1) hconv
       have:=Rep.ro (w:=w) (Z:=Zc Z o μ br B) (μ:=βc μ br) (b:=c.block) (o:=0) (off:=off') (cells:=cells) (fun j=>vs.getD j undef) (fun j hj=>by
        have hj':j < vs.size:=by omega
        refine ⟨?_,.inr ⟨a,_,c,hB,hbr,hoa,hm,trivial,rfl,trivial⟩,?_⟩
        ·rw [cell?_of_heap hb];simp [hj']
        ·simp only [Zf,zA hj',Option.getD_some]
         exact (hrr j (by omega) hj').2) (fun j hj=>by
        have hj':j < vs.size:=by omega
        simp only [Zf,zA hj',Option.getD_some]
        exact (l2 j hj hj').close (WR hcl j hj))
       simpa using this
     | ro cs off =>
       simp only [conv] at hc
       obtain ⟨rfl,rfl⟩:=hc
       cases hr with
       | ro f h1 h2=>exact (Rep.ro f h1 h2:Rep w Z (βc μ br) _ _).mono (fun _ _ _=>rfl) hz (fun _ _ h=>h)
     | _=>simp [conv] at hc
   | agg es =>
     cases act<;>simp only [conv] at hc
     obtain ⟨vs,rfl,h1,h2,h3⟩:=hr.aggE
     obtain ⟨l1,l2⟩:=list es _ vs (by simp at hs;omega) h1 h3 hc
     exact .agg l1 h2 l2
   | tup es =>
     cases act<;>simp only [conv] at hc
     obtain ⟨vs,rfl,h1,h3⟩:=hr.tupE
     obtain ⟨l1,l2⟩:=list es _ vs (by simp at hs;omega) h1 h3 hc
     exact .tup l1 l2
   | clo f es =>
     cases act<;>simp only [conv] at hc
     obtain ⟨rfl,hc⟩:=hc
     obtain ⟨vs,rfl,h1,h3⟩:=hr.cloE
     obtain ⟨l1,l2⟩:=list es _ vs (by simp at hs;omega) h1 h3 hc
     exact .cloI l1 l2
end
end Av
end
section
namespace Av
open Go
def akD (o:Nat→Option Ob) (br:List Nat) (B:Option (List Nat)):List V→List V→Prop
 | [],[]=>True
 | x :: r,y :: r'=>Jn o br B x.cells y.cells∧akD o br B r r'
 | _,_=>False
theorem akC {o:Nat→Option Ob} {br:List Nat} {B:Option (List Nat)}:∀ {xs ys:List V},akD o br B xs ys→xs.length = ys.length∧∀ i (h:i < xs.length) (h':i < ys.length),Jn o br B xs[i].cells ys[i].cells
 | [],[],_=>⟨rfl,fun i h=>by simp at h⟩
 | [],_ :: _,h=>h.elim
 | _ :: _,[],h=>h.elim
 | x :: r,y :: r',h=>by
   obtain ⟨l1,l2⟩:=akC h.2
   refine ⟨by simp [l1],fun i hi hi'=>?_⟩
   cases i with
   | zero=>exact h.1
   | succ i=>exact l2 i (by simpa using hi) (by simpa using hi')
def ani (o:Nat→Option Ob) (br:List Nat) (B:Option (List Nat)):Ob→Ob→Prop
 | .box true cs,.box true es=>Jn o br B cs es
 | .buf true s xs,.buf true s' ys=>s = s'∧xs = ys
 | .obuf true s xs,.obuf true s' ys=>s = s'∧akD o br B xs ys
 | .typ T x,.typ T' y=>T = T'∧ani o br B x y
 | _,_=>False
def as7 (o:Nat→Option Ob) (br:List Nat) (B:Option (List Nat)):List Nat→List Ob→Prop
 | [],[]=>True
 | a :: r,y :: r'=>(∃ x,o a = some x∧ani o br B x y)∧as7 o br B r r'
 | _,_=>False
theorem ajn {o:Nat→Option Ob} {br:List Nat} {B:Option (List Nat)}:∀ {l:List Nat} {ins:List Ob},as7 o br B l ins→l.length = ins.length∧∀ (k a:Nat) (y:Ob),l[k]? = some a→ins[k]? = some y→∃ x,o a = some x∧ani o br B x y
 | [],[],_=>⟨rfl,fun k a y h=>by simp at h⟩
 | [],_ :: _,h=>h.elim
 | _ :: _,[],h=>h.elim
 | a :: r,y :: r',h=>by
   obtain ⟨h1,h2⟩:=h
   obtain ⟨l1,l2⟩:=ajn h2
   refine ⟨by simp [l1],fun k a' y' ha hy=>?_⟩
   cases k with
   | zero=>simp at ha hy;subst ha;subst hy;exact h1
   | succ k=>exact l2 k a' y' (by simpa using ha) (by simpa using hy)
def sig (br:List Nat) (b:Nat) (k:Nat):Nat:=(br[k]?).getD (b + (k - br.length))
def Yy (σ:Nat→Nat):Nat→List Ob→(Nat→Option Ob)→Nat→Option Ob
 | _,[],o=>o
 | b,x :: r,o=>upd (Yy σ (b + 1) r o) b (some (x.ren σ))
def Xe (σ:Nat→Nat) (b:Nat):List Nat→List Ob→(Nat→Option Ob)→Nat→Option Ob
 | a :: br,x :: outs,o=>upd (Xe σ b br outs o) a (some (x.ren σ))
 | _,outs,o=>Yy σ b outs o
theorem alM (σ:Nat→Nat):∀ (outs:List Ob) (b:Nat) (o:Nat→Option Ob) (a:Nat),
  (∃ j x,a = b + j∧outs[j]? = some x∧Yy σ b outs o a = some (x.ren σ))∨(Yy σ b outs o a = o a∧¬ (b≤a∧a < b + outs.length))
 | [],b,o,a=>.inr ⟨rfl,by simp⟩
 | x :: r,b,o,a=>by
   by_cases h:a = b
   ·subst h;exact .inl ⟨0,x,rfl,rfl,by simp [Yy,Qn]⟩
   ·rcases alM σ r (b + 1) o a with ⟨j,y,h1,h2,h3⟩|⟨h1,h2⟩
    ·exact .inl ⟨j + 1,y,by omega,by simpa using h2,by simp only [Yy];rw [QW _ _ h];exact h3⟩
    ·exact .inr ⟨by simp only [Yy];rw [QW _ _ h];exact h1,by simp;omega⟩
theorem ajM (σ:Nat→Nat) (b:Nat):∀ (br:List Nat) (outs:List Ob) (o:Nat→Option Ob) (a:Nat),br.length≤outs.length→(∀ x∈br,x < b)→br.Nodup →
  (∃ (k:Nat) (x:Ob),br[k]? = some a∧outs[k]? = some x∧Xe σ b br outs o a = some (x.ren σ)) ∨
  (a ∉ br∧∃ j x,a = b + j∧outs[br.length + j]? = some x∧Xe σ b br outs o a = some (x.ren σ)) ∨
  (a ∉ br∧Xe σ b br outs o a = o a∧¬ (b≤a∧a < b + (outs.length - br.length)))
 | [],outs,o,a,_,_,_=>by
   rcases alM σ outs b o a with ⟨j,x,h1,h2,h3⟩|⟨h1,h2⟩
   ·exact .inr (.inl ⟨by simp,j,x,h1,by simpa using h2,by simpa [Xe] using h3⟩)
   ·exact .inr (.inr ⟨by simp,by simpa [Xe] using h1,by simpa using h2⟩)
 | c :: br,[],o,a,h,_,_=>by simp at h
 | c :: br,x :: outs,o,a,hl,hb,hn=>by
   by_cases h:a = c
   ·subst h;exact .inl ⟨0,x,rfl,rfl,by simp [Xe,Qn]⟩
   ·have hn':=(ZE.1 hn).2
    rcases ajM σ b br outs o a (by simpa using hl) (fun x hx=>hb x (by simp [hx])) hn' with ⟨k,y,h1,h2,h3⟩|⟨h0,j,y,h1,h2,h3⟩|⟨h0,h1,h2⟩
    ·exact .inl ⟨k + 1,y,by simpa using h1,by simpa using h2,by simp only [Xe];rw [QW _ _ h];exact h3⟩
    ·exact .inr (.inl ⟨by simp [h,h0],j,y,h1,by rw [List.length_cons,show br.length + 1 + j = (br.length + j) + 1 by omega];simpa using h2,by simp only [Xe];rw [QW _ _ h];exact h3⟩)
    ·exact .inr (.inr ⟨by simp [h,h0],by simp only [Xe];rw [QW _ _ h];exact h1,by simp;simpa using h2⟩)
def Ob.frz:Ob→Ob
 | .dead=>.dead
 | .box _ cs=>.box false cs
 | .buf _ s xs=>.buf false s xs
 | .typ _ x=>x.frz
 | .obuf _ s xs=>.obuf false s xs
 | .map ks vs c0=>.map ks vs c0
 | .iter a since seen last=>.iter a since seen last
def xO (B:Option (List Nat)) (br:List Nat) (o:Nat→Option Ob):Nat→Option Ob :=
 match B with
 | none=>o
 | some l=>fun a=>if a∈l∧a ∉ br then (o a).map Ob.frz else o a
mutual
def V.noSl:V→Prop
 | .sl _ xs=>xs = []
 | .ro _ _=>False
 | .agg cs=>Ue cs
 | .tup cs=>Ue cs
 | .clo _ cs=>Ue cs
 | _=>True
def Ue:List V→Prop
 | []=>True
 | v :: r=>v.noSl∧Ue r
end
def Ob.noSl:Ob→Prop
 | .dead=>True
 | .box _ cs=>Ue cs
 | .buf _ _ xs=>∀ x∈xs,x.noSl
 | .typ _ x=>x.noSl
 | .obuf _ _ xs=>∀ x∈xs,x.noSl
 | .map ks vs _=>(∀ x∈ks,x.noSl)∧∀ x∈vs,x.noSl
 | .iter _ _ _ _=>True
theorem yZ:∀ {cs:List V},Ue cs→∀ j (h:j < cs.length),cs[j].noSl
 | [],_,j,h=>by simp at h
 | v :: r,hc,0,h=>hc.1
 | v :: r,hc,j + 1,h=>yZ (cs:=r) hc.2 j (by simpa using h)
theorem alU {x:V} (h:x.noSl):∀ j (hj:j < x.cells.length),x.cells[j].noSl:=by
 intro j hj
 cases x with
 | agg cs=>exact yZ (cs:=cs) h j hj
 | _=>simp [V.cells] at hj;subst hj;exact h
theorem Rep.anyZ {w:World} {Z Z':Nat→Nat→Prop} {μ:Nat→Option Cn} {v:Value} {x:V} (h:Rep w Z μ v x) (hn:x.noSl):Rep w Z' μ v x:=by
 induction h with
 | top=>exact .top
 | sc h=>exact .sc h
 | nn=>exact .nn
 | sl0=>exact .sl0
 | sl f h0 h1 h2 h3 _=>simp only [V.noSl] at hn;subst hn;exact .sl0
 | hd h hv=>exact .hd h hv
 | ptr h=>exact .ptr h
 | ept h hv hi=>exact .ept h hv hi
 | mp h=>exact .mp h
 | ro f h1 h2 _=>exact hn.elim
 | agg hl ho _ ih=>exact .agg hl ho (fun j h h'=>ih j h h' (yZ hn j h))
 | tup hl _ ih=>exact .tup hl (fun j h h'=>ih j h h' (yZ hn j h))
 | clo hl _ ih=>exact .clo hl (fun j h h'=>ih j h h' (yZ hn j h))
 | clm hl _ ih=>exact .clm hl (fun j h h'=>ih j h h' (yZ hn j h))
section
variable {C:Ctx} {w:World} {Z:Nat→Nat→Prop} {μ:Nat→Option Cn} {o:Nat→Option Ob} {b:Nat}
theorem nodup_getElem?:∀ {l:List Nat},l.Nodup→∀ {i j a:Nat},l[i]? = some a→l[j]? = some a→i = j
 | [],_,i,j,a,hi,_=>by simp at hi
 | c :: l,h,i,j,a,hi,hj=>by
   obtain ⟨h1,h2⟩:=ZE.1 h
   cases i with
   | zero =>
     simp only [List.getElem?_cons_zero,zf] at hi
     subst hi
     cases j with
     | zero=>rfl
     | succ j =>
       simp only [List.getElem?_cons_succ] at hj
       exact (h1 (zm hj)).elim
   | succ i =>
     simp only [List.getElem?_cons_succ] at hi
     cases j with
     | zero =>
       simp only [List.getElem?_cons_zero,zf] at hj
       subst hj
       exact (h1 (zm hi)).elim
     | succ j =>
       simp only [List.getElem?_cons_succ] at hj
       rw [nodup_getElem? h2 hi hj]
theorem ame (hg:Good C w Z μ o) {br:List Nat} {B:Option (List Nat)} {ins:List Ob} (hkn:∀ b x,C.kn b = some x→w.heap[b]? = some x∧¬ Fb o μ br b) (hn:br.Nodup) (hl:as7 o br B br ins) :
  Good { P:=C.P,w0:=w,Z0:=Zc Z o μ br B,F:=Fb o μ br,m:=ins.length,μ0:=βc μ br,kn:=C.kn,mix:=C.mix,hkn:=hkn } w (Zc Z o μ br B) (βc μ br) (fun k=>ins[k]?) ∧
   (∀ b,Fb o μ br b→∃ k x c,ins[k]? = some x∧βc μ br k = some c∧x.live c∧c.block = b)∧∀ k,ins.length≤k→βc μ br k = none:=by
 obtain ⟨hlen,hget⟩:=ajn hl
 have kth:∀ k y,ins[k]? = some y→∃ a x c,br[k]? = some a∧o a = some x∧μ a = some c∧βc μ br k = some c∧ani o br B x y∧abc w Z μ c x∧(x.live c→c.block < w.heap.size):=by
  intro k y hy
  obtain ⟨hk,_⟩:=zh.1 hy
  have hk':k < br.length:=by omega
  obtain ⟨x,hx,hc⟩:=hget k br[k] y (zb hk') hy
  obtain ⟨c,hm,hok,hlv⟩:=hg.ob _ _ hx
  exact ⟨br[k],x,c,zb hk',hx,hm,by simp [βc,hk',hm],hc,hok,fun h=>(hlv h).1⟩
 have livex:∀ x y c,ani o br B x y→(x.live c↔y.live c):=by
  intro x
  induction x with
  | typ T x ih =>
    intro y c h
    cases y with
    | typ T' y=>exact ih y c h.2
    | _=>exact False.elim h
  | dead=>intro y c h;cases y<;>exact False.elim h
  | box wr cs=>intro y c h;cases wr<;>cases y<;>first|exact False.elim h|exact Iff.rfl
  | buf wr s xs=>intro y c h;cases wr<;>cases y<;>first|exact False.elim h|exact Iff.rfl
  | obuf wr s xs=>intro y c h;cases wr<;>cases y<;>first|exact False.elim h|exact Iff.rfl
  | map ks vs c0=>intro y c h;cases y<;>exact False.elim h
  | iter a since seen last=>intro y c h;cases y<;>exact False.elim h
 have noZ:∀ a x c,a∈br→o a = some x→μ a = some c→x.live c→(∀ i,¬ Z c.block i)→∀ i,¬ Zc Z o μ br B c.block i:=by
  intro a x c ha hx hm hlv hz i h
  rcases h with h|⟨a',x',c',_,hnb,hx',hm',hlv',hb',_⟩
  ·exact hz i h
  ·exact hg.sep a a' x x' c c' (fun e=>hnb (e ▸ ha)) hx hx' hm hm' hlv hlv' hb'.symm
 refine ⟨⟨fun k y hy=>?_,fun k k' y y' c c' hkk hy hy' hc hc' hlv hlv'=>?_,fun b i h=>?_,zl _,fun _ _ _=>rfl,fun b i h=>.inl h,fun _ _ h=>h,fun _ _ _=>rfl,fun _ _=>rfl,U7.refl _⟩,fun b hb=>?_,fun k hk=>?_⟩
 ·obtain ⟨a,x,c,ha,hx,hm,hβ,hc,hok,hlv⟩:=kth k y hy
  refine ⟨c,hβ,?_,fun hly=>⟨hlv ((livex x y c hc).2 hly),.inr ⟨a,zm ha,x,c,hx,hm,(livex x y c hc).2 hly,rfl⟩⟩⟩
  have ha':=zm ha
  have hnz:x.live c→(∀ i,¬ Z c.block i)→∀ i,¬ Zc Z o μ br B c.block i:=fun hl=>noZ a _ c ha' hx hm hl
  clear hx hlv
  clear hy
  induction x generalizing y with
  | dead=>cases y<;>exact False.elim hc
  | typ T x ih =>
    cases y with
    | typ T' y =>
      replace hc:T = T'∧ani o br B x y:=hc
      obtain ⟨rfl,hc⟩:=hc
      exact ⟨ih y hc hok.1 hnz,hok.2.1,fun hl=>hok.2.2 ((livex x y c hc).2 hl)⟩
    | _=>exact False.elim hc
  | box wr cs =>
    cases wr<;>cases y<;>try exact False.elim hc
    rename_i wr' es
    cases wr'<;>try exact False.elim hc
    replace hc:Jn o br B cs es:=hc
    obtain ⟨hvo,⟨vs,ty,hb,hs,hr⟩,hz⟩:=hok
    have hlc:=YT hc
    exact ⟨hvo,⟨vs,ty,hb,by omega,fun j h h'=>⟨Kx hg br B _ _ _ _ (zl _) (hr j (by omega) h').1 (Vy hc j (by omega) h),(hr j (by omega) h').2⟩⟩,
     fun _=>hnz trivial (hz rfl)⟩
  | buf wr s xs =>
    cases wr<;>cases y<;>try exact False.elim hc
    rename_i wr' s' ys
    cases wr'<;>try exact False.elim hc
    replace hc:s = s'∧xs = ys:=hc
    obtain ⟨rfl,rfl⟩:=hc
    refine ⟨hok.1,fun hv=>?_⟩
    obtain ⟨h0,h1,h2,h3,h4,cs,ty,fr,h5,h6,h7,h8⟩:=hok.2 hv
    have nz:=hnz hv (h2 rfl)
    refine ⟨h0,h1,fun _=>nz,fun i h=>(nz i h).elim,h4,cs,ty,fr,h5,h6,h7,fun i hi j hj=>?_⟩
    obtain ⟨u,e1,e2,e3⟩:=h8 i hi j hj
    exact ⟨u,e1,e2,e3.mono (fun _ _ _=>rfl) (fun _ _ h=>.inl h) (fun _ _ h=>h)⟩
  | obuf wr s xs =>
    cases wr<;>cases y<;>try exact False.elim hc
    rename_i wr' s' ys
    cases wr'<;>try exact False.elim hc
    replace hc:s = s'∧akD o br B xs ys:=hc
    obtain ⟨rfl,hc⟩:=hc
    obtain ⟨hlc,hce⟩:=akC hc
    refine ⟨by have:=hok.1;omega,fun hv=>?_⟩
    obtain ⟨h0,h1,h2,h3,h4,cs,ty,fr,h5,h6,h7,h8⟩:=hok.2 hv
    have nz:=hnz hv (h2 rfl)
    have hcc:∀ i (hi:i < ys.length),ys[i].cells.length = s:=fun i hi=>by
     rw [← YT (hce i (by omega) hi)];exact h4 i (by omega)
    refine ⟨h0,h1,fun _=>nz,fun i h=>(nz i h).elim,hcc,cs,ty,fr,h5,h6,h7,fun i hi j hj=>?_⟩
    have h4i:=h4 i (by omega)
    have hci:=hcc i hi
    obtain ⟨u,e1,e2,e3⟩:=h8 i (by omega) j (by omega)
    exact ⟨u,e1,e2,Kx hg br B _ _ _ _ (zl _) e3 (Vy (hce i (by omega) hi) j (by omega) hj)⟩
  | map ks vs c0=>cases y<;>exact False.elim hc
  | iter a since seen last=>cases y<;>exact False.elim hc
 ·obtain ⟨a,x,c1,ha,hx,hm,hβ,hcv,_,_⟩:=kth k y hy
  obtain ⟨a',x',c1',ha',hx',hm',hβ',hcv',_,_⟩:=kth k' y' hy'
  have e1:=hβ.symm.trans hc
  have e2:=hβ'.symm.trans hc'
  cases e1;cases e2
  refine hg.sep a a' x x' c c' (fun e=>hkk (nodup_getElem? hn ha (e ▸ ha'))) hx hx' hm hm' ((livex x y _ hcv).2 hlv) ((livex x' y' _ hcv').2 hlv')
 ·rcases h with h|⟨a,x,c,_,_,hx,hm,hlv,rfl,_⟩
  ·exact hg.zlt b i h
  ·obtain ⟨c',hm',_,hl'⟩:=hg.ob a x hx
   rw [hm] at hm';cases hm'
   exact (hl' hlv).1
 ·obtain ⟨a,ha,x,c,hx,hm,hlv,rfl⟩:=hb
  obtain ⟨k,hk,rfl⟩:=ky ha
  obtain ⟨x',hx',hcv⟩:=hget k br[k] ins[k] (zb hk) (zb (by omega))
  rw [hx] at hx';cases hx'
  exact ⟨k,ins[k],c,zb (by omega),by simp [βc,hk,hm],(livex x _ c hcv).1 hlv,rfl⟩
 ·simp [βc,zU (show br.length≤k by omega)]
def y0 (μ μ':Nat→Option Cn) (m n b:Nat) (x:Nat):Option Cn:=if b≤x∧x < b + (n - m) then μ' (m + (x - b)) else μ x
theorem akK (hg:Good C w Z μ o) {br:List Nat} {B:Option (List Nat)} {ins outs:List Ob} (hkn:∀ b x,C.kn b = some x→w.heap[b]? = some x∧¬ Fb o μ br b) (hf:∀ x,b≤x→x < b + KK→μ x = none) (hmb:C.m≤b) (hbl:∀ x∈br,x < b) (hn:br.Nodup) (hl:br.length = ins.length)
  (hio:ins.length≤outs.length) (hK:outs.length - ins.length < KK) {w':World} {Z' Zn:Nat→Nat→Prop} {μ':Nat→Option Cn}
  (hc:Good { P:=C.P,w0:=w,Z0:=Zc Z o μ br B,F:=Fb o μ br,m:=ins.length,μ0:=βc μ br,kn:=C.kn,mix:=C.mix,hkn:=hkn } w' Z' μ' (fun k=>outs[k]?)) (hend:∀ k,outs.length≤k→μ' k = none)
  (z1:∀ b i,Z b i→Zn b i) (z2:∀ b i,Zn b i→Z b i∨(B≠none∧∃ a x c,okB B a∧a ∉ br∧o a = some x∧μ a = some c∧x.live c∧c.block = b∧apF c x i)∨w.heap.size≤b∨Fb o μ br b)
  (z3:∀ b i,Zn b i→b < w'.heap.size) (hob:∀ k x c,outs[k]? = some x→μ' k = some c→abc w' Z' μ' c x→abc w' Zn μ' c x) :
  Good C w' Zn (y0 μ μ' ins.length outs.length b) (Xe (sig br b) b br outs (xO B br o))∧(∀ k c,μ' k = some c→y0 μ μ' ins.length outs.length b (sig br b k) = some c) ∧
   (∀ a c,μ a = some c→y0 μ μ' ins.length outs.length b a = some c)∧(∀ b i,Z b i→w'.cell? ⟨b,i,none⟩ = w.cell? ⟨b,i,none⟩)∧∀ a,a < b∨b + KK≤a→y0 μ μ' ins.length outs.length b a = μ a:=by
 have hmu:∀ a c,μ a = some c→y0 μ μ' ins.length outs.length b a = some c:=by
  intro a c h
  unfold y0
  rw [if_neg]
  ·exact h
  ·rintro ⟨h1,h2⟩;rw [hf a h1 (by omega)] at h;cases h
 have hsig:∀ k c,μ' k = some c→y0 μ μ' ins.length outs.length b (sig br b k) = some c:=by
  intro k c h
  by_cases hk:k < ins.length
  ·have h1:=hc.fix k hk
   simp only at h1
   rw [h1] at h
   have hk':k < br.length:=by omega
   have e:sig br b k = br[k]:=by simp [sig,hk']
   rw [e]
   refine hmu _ _ ?_
   simpa [βc,hk'] using h
  ·have hk2:k < outs.length:=by
    rcases kI k outs.length with h'|h'
    ·exact h'
    ·rw [hend k h'] at h;cases h
   have e:sig br b k = b + (k - ins.length):=by simp [sig,zU (show br.length≤k by omega),hl]
   rw [e]
   unfold y0
   rw [if_pos ⟨by omega,by omega⟩,show ins.length + (b + (k - ins.length) - b) = k by omega]
   exact h
 have hcell:∀ b i,Z b i→w'.cell? ⟨b,i,none⟩ = w.cell? ⟨b,i,none⟩:=fun b i h=>hc.zkeep b i (.inl h)
 have hblk:∀ bb,bb < w.heap.size→¬ Fb o μ br bb→w'.heap[bb]? = w.heap[bb]?:=hc.frame
 have notF:∀ a x c,a ∉ br→o a = some x→μ a = some c→x.live c→¬ Fb o μ br c.block:=by
  rintro a x c ha hx hm hlv ⟨a',ha',x',c',hx',hm',hlv',e⟩
  exact hg.sep a' a x' x c' c (fun e=>ha (e ▸ ha')) hx' hx hm' hm hlv' hlv e
 have frz_live:∀ x c,(Ob.frz x).live c↔x.live c:=by
  intro x c
  induction x with
  | typ T x ih=>exact ih
  | _=>rfl
 have old:∀ a y,a ∉ br→xO B br o a = some y→∃ x c,o a = some x∧μ a = some c∧(y.live c↔x.live c)∧abc w' Zn (y0 μ μ' ins.length outs.length b) c y:=by
  intro a y ha hy
  have hx:∃ x,o a = some x∧(y = x∧(∀ l,B = some l→a ∉ l)∨y = x.frz∧∃ l,B = some l∧a∈l):=by
   cases B with
   | none=>exact ⟨y,hy,.inl ⟨rfl,fun l h=>by cases h⟩⟩
   | some l =>
     simp only [xO] at hy
     split at hy
     ·rename_i h1
      simp only [zk] at hy
      obtain ⟨x,hx,rfl⟩:=hy
      exact ⟨x,hx,.inr ⟨rfl,l,rfl,h1.1⟩⟩
     ·rename_i h1
      exact ⟨y,hy,.inl ⟨rfl,fun l' h hm=>by cases h;exact h1 ⟨hm,ha⟩⟩⟩
  obtain ⟨x,hx,hcase⟩:=hx
  obtain ⟨c,hm,hok,hlv⟩:=hg.ob a x hx
  have hzn:x.live c→∀ i,Zn c.block i→Z c.block i∨(∃ l,B = some l∧a∈l)∧apF c x i:=by
   intro hl1 i hz
   rcases z2 _ _ hz with h|⟨hB,a',x',c',hok',hnb,hx',hm',hlv',hbe,hsh⟩|h|h
   ·exact .inl h
   ·by_cases haa:a' = a
    ·subst haa
     rw [hx] at hx';cases hx'
     rw [hm] at hm';cases hm'
     cases B with
     | none=>exact (hB rfl).elim
     | some l=>exact .inr ⟨⟨l,rfl,hok'⟩,hsh⟩
    ·exact (hg.sep a' a x' x c' c haa hx' hx hm' hm hlv' hl1 hbe).elim
   ·have:=(hlv hl1).1;omega
   ·exact (notF a x c ha hx hm hl1 h).elim
  have hkeep:x.live c→w'.heap[c.block]? = w.heap[c.block]?:=fun hl1=>hblk _ (hlv hl1).1 (notF a x c ha hx hm hl1)
  refine ⟨x,c,hx,hm,?_,?_⟩
  ·rcases hcase with ⟨rfl,_⟩|⟨rfl,_⟩
   ·exact Iff.rfl
   ·exact frz_live x c
  ·suffices key:∀ x:Ob,abc w Z μ c x→(x.live c→∀ i,Zn c.block i→Z c.block i∨(∃ l,B = some l∧a∈l)∧apF c x i)→(x.live c→w'.heap[c.block]? = w.heap[c.block]?) →
     ((∀ l,B = some l→a ∉ l)→abc w' Zn (y0 μ μ' ins.length outs.length b) c x)∧((∃ l,B = some l∧a∈l)→abc w' Zn (y0 μ μ' ins.length outs.length b) c x.frz) by
    rcases hcase with ⟨rfl,h⟩|⟨rfl,h⟩
    ·exact (key _ hok hzn hkeep).1 h
    ·exact (key _ hok hzn hkeep).2 h
   clear hcase hok hlv hzn hkeep hx hy
   intro x
   induction x with
   | dead=>intro _ _ _;exact ⟨fun _=>trivial,fun _=>trivial⟩
   | typ T x ih =>
     intro hok hzn hkeep
     obtain ⟨i1,i2⟩:=ih hok.1 hzn hkeep
     exact ⟨fun h=>⟨i1 h,hok.2.1,fun hl=>by obtain ⟨cs,fr,e⟩:=hok.2.2 hl;exact ⟨cs,fr,(hkeep hl).trans e⟩⟩,i2⟩
   | box wr cells =>
     intro hok hzn hkeep
     obtain ⟨hvo,⟨cs,ty,hb,hs,hr⟩,hz⟩:=hok
     have base:(∃ cs ty,w'.heap[c.block]? = some (.cells cs ty (0,0))∧cs.size = cells.length∧(∀ j (h:j < cells.length) (h':j < cs.size),Rep w' Zn (y0 μ μ' ins.length outs.length b) cs[j] cells[j]∧cs[j].oneCell' = true)) :=
      ⟨cs,ty,(hkeep trivial).trans hb,hs,fun j h h'=>⟨(hr j h h').1.mono hcell z1 hmu,(hr j h h').2⟩⟩
     refine ⟨fun hnl=>⟨hvo,base,fun hwr i hzi=>?_⟩,fun _=>⟨hvo,base,fun h=>by cases h⟩⟩
     rcases hzn trivial i hzi with h|⟨⟨l,h1,h2⟩,_⟩
     ·exact hz hwr i h
     ·exact hnl l h1 h2
   | buf wr sz xs =>
     intro hok hzn hkeep
     have base:∀ wr',(wr' = true→wr = true∧∀ l,B = some l→a ∉ l)→abc w' Zn (y0 μ μ' ins.length outs.length b) c (.buf wr' sz xs):=by
      intro wr' hwr'
      refine ⟨hok.1,fun hv=>?_⟩
      obtain ⟨h0,h1,h2,h3,h4,cs,ty,fr,h5,h6,h7,h8⟩:=hok.2 hv
      refine ⟨h0,⟨h1.1,fun e=>h1.2 (hwr' e).1⟩,fun hw i hzi=>?_,fun i hzi=>?_,h4,cs,ty,fr,(hkeep hv).trans h5,h6,fun o ho=>h7 o (ho.imp id fun e=>(hwr' e).1),fun i hi j hj=>?_⟩
      ·rcases hzn hv i hzi with h|⟨⟨l,e1,e2⟩,_⟩
       ·exact h2 (hwr' hw).1 i h
       ·exact (hwr' hw).2 l e1 e2
      ·rcases hzn hv i hzi with h|⟨_,h⟩
       ·exact h3 i h
       ·exact h
      ·obtain ⟨u,e1,e2,e3⟩:=h8 i hi j hj
       exact ⟨u,e1,e2,e3.mono hcell z1 (fun _ _ h=>h)⟩
     exact ⟨fun hnl=>base wr (fun h=>⟨h,hnl⟩),fun _=>base false (fun h=>by cases h)⟩
   | obuf wr sz xs =>
     intro hok hzn hkeep
     have base:∀ wr',(wr' = true→wr = true∧∀ l,B = some l→a ∉ l)→abc w' Zn (y0 μ μ' ins.length outs.length b) c (.obuf wr' sz xs):=by
      intro wr' hwr'
      refine ⟨hok.1,fun hv=>?_⟩
      obtain ⟨h0,h1,h2,h3,h4,cs,ty,fr,h5,h6,h7,h8⟩:=hok.2 hv
      refine ⟨h0,⟨h1.1,fun e=>h1.2 (hwr' e).1⟩,fun hw i hzi=>?_,fun i hzi=>?_,h4,cs,ty,fr,(hkeep hv).trans h5,h6,fun o ho=>h7 o (ho.imp id fun e=>(hwr' e).1),fun i hi j hj=>?_⟩
      ·rcases hzn hv i hzi with h|⟨⟨l,e1,e2⟩,_⟩
       ·exact h2 (hwr' hw).1 i h
       ·exact (hwr' hw).2 l e1 e2
      ·rcases hzn hv i hzi with h|⟨_,h⟩
       ·exact h3 i h
       ·exact h
      ·obtain ⟨u,e1,e2,e3⟩:=h8 i hi j hj
       exact ⟨u,e1,e2,e3.mono hcell z1 hmu⟩
     exact ⟨fun hnl=>base wr (fun h=>⟨h,hnl⟩),fun _=>base false (fun h=>by cases h)⟩
   | map ks vs c0 =>
     intro hok hzn hkeep
     have base:abc w' Zn (y0 μ μ' ins.length outs.length b) c (.map ks vs c0):=by
      obtain ⟨h1,es,h2,h3,h4⟩:=hok
      exact ⟨h1,es,(hkeep trivial).trans h2,h3,fun i hi hk hv=>⟨(h4 i hi hk hv).1,(h4 i hi hk hv).2.1.mono hcell z1 (fun _ _ h=>h),(h4 i hi hk hv).2.2.mono hcell z1 hmu⟩⟩
     exact ⟨fun _=>base,fun _=>base⟩
   | iter a' since seen last =>
     intro hok hzn hkeep
     have base:abc w' Zn (y0 μ μ' ins.length outs.length b) c (.iter a' since seen last):=by
      obtain ⟨d,h1,h2⟩:=hok
      exact ⟨d,hmu _ _ h1,(hkeep trivial).trans h2⟩
     exact ⟨fun _=>base,fun _=>base⟩
 have new:∀ k x,outs[k]? = some x→∃ c,μ' k = some c∧y0 μ μ' ins.length outs.length b (sig br b k) = some c∧abc w' Zn (y0 μ μ' ins.length outs.length b) c (x.ren (sig br b)) ∧
   (x.live c→c.block < w'.heap.size∧(w.heap.size≤c.block∨Fb o μ br c.block)):=by
  intro k x hx
  obtain ⟨c,hm,hok,hlv⟩:=hc.ob k x hx
  exact ⟨c,hm,hsig k c hm,(hob k x c hx hm hok).ren hsig,hlv⟩
 have sigBr:∀ k a,br[k]? = some a→sig br b k = a:=fun k a h=>by simp [sig,h]
 have sigNew:∀ j,sig br b (br.length + j) = b + j:=fun j=>by simp [sig]
 have hFown:∀ bb,Fb o μ br bb→C.w0.heap.size≤bb∨C.F bb:=by
  rintro bb ⟨a,_,x,c,hx,hm,hlv,rfl⟩
  obtain ⟨c',hm',_,hl'⟩:=hg.ob a x hx
  rw [hm] at hm';cases hm'
  exact (hl' hlv).2
 have all:∀ a y,Xe (sig br b) b br outs (xO B br o) a = some y →
   (∃ k x,sig br b k = a∧outs[k]? = some x∧y = x.ren (sig br b))∨(a ∉ br∧¬ (b≤a∧a < b + (outs.length - br.length))∧xO B br o a = some y):=by
  intro a y h
  rcases ajM (sig br b) b br outs (xO B br o) a (by omega) hbl hn with ⟨k,x,h1,h2,h3⟩|⟨_,j,x,h1,h2,h3⟩|⟨h1,h2,h3⟩
  ·rw [h3] at h;cases h
   exact .inl ⟨k,x,sigBr k a h1,h2,rfl⟩
  ·rw [h3] at h;cases h
   exact .inl ⟨br.length + j,x,by rw [sigNew,h1],h2,rfl⟩
  ·rw [h2] at h
   exact .inr ⟨h1,h3,h⟩
 refine ⟨⟨fun a y ha=>?_,fun a a' y y' c c' haa hy hy' hm hm' hlv hlv'=>?_,z3,ZH hg.grow hc.grow,fun bb hbb hF=>?_,fun bb i hz=>?_,fun bb i h=>z1 _ _ (hg.zsup _ _ h),fun bb i h=>?_,fun k hk=>?_,hg.oo.trans hc.oo⟩,hsig,hmu,hcell,fun a ha=>?_⟩
 ·rcases all a y ha with ⟨k,x,rfl,hx,rfl⟩|⟨h1,_,h3⟩
  ·obtain ⟨c,_,h2,h3,h4⟩:=new k x hx
   refine ⟨c,h2,h3,fun hlv=>?_⟩
   obtain ⟨h5,h6⟩:=h4 (ad5.1 hlv)
   refine ⟨h5,?_⟩
   rcases h6 with h6|h6
   ·exact .inl (ZH hg.grow h6)
   ·exact hFown _ h6
  ·obtain ⟨x,c,hx,hm,hlv,hok⟩:=old a y h1 h3
   obtain ⟨c',hm',_,hl'⟩:=hg.ob a x hx
   rw [hm] at hm';cases hm'
   exact ⟨c,hmu _ _ hm,hok,fun h=>⟨Zm (hl' (hlv.1 h)).1 hc.grow,(hl' (hlv.1 h)).2⟩⟩
 ·have mixed:∀ k x a y' c c',outs[k]? = some x→μ' k = some c→x.live c→a ∉ br→xO B br o a = some y'→y0 μ μ' ins.length outs.length b a = some c'→y'.live c'→c.block≠c'.block:=by
   intro k x a y' c c' hx hmk hlx ha hy' hm' hly' e
   obtain ⟨x',c1,hx',hm1,hlv1,_⟩:=old a y' ha hy'
   rw [hmu _ _ hm1] at hm';cases hm'
   obtain ⟨c2,hm2,_,hl2⟩:=hg.ob a x' hx'
   rw [hm1] at hm2;cases hm2
   obtain ⟨c3,hm3,_,hl3⟩:=hc.ob k x hx
   rw [hmk] at hm3;cases hm3
   rcases (hl3 hlx).2 with h|h
   ·have:=(hl2 (hlv1.1 hly')).1
    simp only at h;omega
   ·rw [e] at h;exact notF a x' _ ha hx' hm1 (hlv1.1 hly') h
  rcases all a y hy with ⟨k,x,rfl,hx,rfl⟩|⟨h1,_,h3⟩
  ·obtain ⟨c1,e1,e2,_,_⟩:=new k x hx
   rw [hm] at e2;cases e2
   rcases all a' y' hy' with ⟨k',x',rfl,hx',rfl⟩|⟨h1',_,h3'⟩
   ·obtain ⟨c1',e1',e2',_,_⟩:=new k' x' hx'
    rw [hm'] at e2';cases e2'
    exact hc.sep k k' x x' c c' (fun e=>haa (by rw [e])) hx hx' e1 e1' (ad5.1 hlv) (ad5.1 hlv')
   ·exact mixed k x a' y' c c' hx e1 (ad5.1 hlv) h1' h3' hm' hlv'
  ·rcases all a' y' hy' with ⟨k',x',rfl,hx',rfl⟩|⟨h1',_,h3'⟩
   ·obtain ⟨c1',e1',e2',_,_⟩:=new k' x' hx'
    rw [hm'] at e2';cases e2'
    exact fun e=>mixed k' x' a y c' c hx' e1' (ad5.1 hlv') h1 h3 hm hlv e.symm
   ·obtain ⟨x,c1,hx,hm1,hl1,_⟩:=old a y h1 h3
    obtain ⟨x',c1',hx',hm1',hl1',_⟩:=old a' y' h1' h3'
    rw [hmu _ _ hm1] at hm;cases hm
    rw [hmu _ _ hm1'] at hm';cases hm'
    exact hg.sep a a' x x' _ _ haa hx hx' hm1 hm1' (hl1.1 hlv) (hl1'.1 hlv')
 ·rw [hblk bb (Zm hbb hg.grow)]
  ·exact hg.frame bb hbb hF
  ·intro h
   rcases hFown bb h with h|h
   ·omega
   ·exact hF h
 ·rcases z2 bb i hz with h|⟨_,a,x,c,_,_,hx,hm,hlv,rfl,_⟩|h|h
  ·exact hg.zsub _ _ h
  ·obtain ⟨c',hm',_,hl'⟩:=hg.ob a x hx
   rw [hm] at hm';cases hm'
   exact .inr (hl' hlv).2
  ·exact .inr (.inl (ZH hg.grow h))
  ·exact .inr (hFown _ h)
 ·exact (hcell _ _ (hg.zsup _ _ h)).trans (hg.zkeep _ _ h)
 ·unfold y0
  rw [if_neg (by omega)];exact hg.fix k hk
 ·unfold y0
  rw [if_neg (by omega)]
end
end Av
end
section
namespace Av
open Go
def V.und:V:=.tup []
def isG (v:V) (q:Option Bool):Prop:=match q with|some b=>v = .bool b|none=>v = V.und
def aeT (Γ:Env) (b:Nat) (s:St) (d:Option Nat) (f:FuncId) (acts:List V) (K:St→Prop):Prop :=
 ∃ args ins Q br B,EvP Γ f args ins Q∧Jn s.o br B acts args∧as7 s.o br B br ins∧br.Nodup∧(∀ x∈br,x < b) ∧
  ∀ res outs,Q res outs→ins.length≤outs.length∧outs.length - ins.length < KK∧(B = none→res.noSl∧∀ x∈outs,x.noSl) ∧
   K { t:=(s.put d (res.ren (sig br b))).t,o:=Xe (sig br b) b br outs (xO B br s.o),n:=s.n }
theorem J5 {Γ:Env} {b:Nat} {s:St} {d:Option Nat} {f:FuncId} {acts:List V} {K:St→Prop} (h:∃ args ins res outs br B,Ev Γ f args ins res outs∧Jn s.o br B acts args∧as7 s.o br B br ins∧br.Nodup∧(∀ x∈br,x < b) ∧
  ins.length≤outs.length∧outs.length - ins.length < KK∧(B = none→res.noSl∧∀ x∈outs,x.noSl) ∧
  K { t:=(s.put d (res.ren (sig br b))).t,o:=Xe (sig br b) b br outs (xO B br s.o),n:=s.n }):aeT Γ b s d f acts K:=by
 obtain ⟨args,ins,res,outs,br,B,hev,hcv,hl,hnd,hlt,hio,hK,hB,hk⟩:=h
 refine ⟨args,ins,_,br,B,hev.p,hcv,hl,hnd,hlt,?_⟩
 rintro _ _ ⟨rfl,rfl⟩
 exact ⟨hio,hK,hB,hk⟩
def arP (Γ:Env) (b:Nat) (s:St) (d:Option Nat) (aop:AOp) (K:St→Prop):Prop :=
 match aop with
 | .call f as=>aeT Γ b s d f (as.map s.ev) K
 | .callv x as=>(match s.ev x with|.clo f cap=>aeT Γ b s d f.f (f.args (as.map s.ev) cap) K|_=>False)
 | aop=>(sem b s.ev aop).wp s.o fun e=>K (s.eff d e)
def abA (Γ:Env):Nat→List AO→St→(St→Prop)→Prop
 | b,[],s,K=>K { s with n:=b }
 | b,x :: r,s,K =>
   match x.g with
   | none=>arP Γ b s x.d x.op fun s'=>abA Γ (b + KK) r s' K
   | some (g,want)=>∃ q,isG (s.t g) q∧(q = some want→arP Γ b s x.d x.op fun s'=>abA Γ (b + KK) r s' K)∧(q≠some want→abA Γ (b + KK) r (s.put x.d V.und) K)
def Sim (C:Ctx) (nt:Nat) (n:Nat) (s:St) (a:Act) (w:World):Prop :=
 ∃ Z μ,Good C w Z μ s.o∧(∀ i,Rep w Z μ (a.tmps.getD i undef) (s.t i))∧(∀ x,n≤x→μ x = none)∧C.m≤n∧a.defers = []∧a.tmps.size = nt
def anq (C:Ctx) (nt:Nat) (U:Nat→Prop) (s:St) (a:Act) (w:World):Prop :=
 ∃ Z μ,Good C w Z μ s.o∧(∀ i,Rep w Z μ (a.tmps.getD i undef) (s.t i))∧(∀ x,¬ U x→μ x = none)∧a.defers = []∧a.tmps.size = nt
theorem Sim.toU {C:Ctx} {nt n:Nat} {s:St} {a:Act} {w:World} (h:Sim C nt n s a w):anq C nt (fun x=>x < n) s a w:=by
 obtain ⟨Z,μ,hg,ht,hf,hm,hd,hn⟩:=h
 exact ⟨Z,μ,hg,ht,fun x hx=>hf x (by omega),hd,hn⟩
theorem anq.toSim {C:Ctx} {nt n:Nat} {U:Nat→Prop} {s:St} {a:Act} {w:World} (h:anq C nt U s a w) (hU:∀ x,U x→x < n) (hm:C.m≤n):Sim C nt n s a w:=by
 obtain ⟨Z,μ,hg,ht,hf,hd,hn⟩:=h
 exact ⟨Z,μ,hg,ht,fun x hx=>hf x (fun hu=>by have:=hU x hu;omega),hm,hd,hn⟩
theorem anq.mono {C:Ctx} {nt:Nat} {U U':Nat→Prop} {s:St} {a:Act} {w:World} (h:anq C nt U s a w) (hU:∀ x,U x→U' x):anq C nt U' s a w:=by
 obtain ⟨Z,μ,hg,ht,hf,hd,hn⟩:=h
 exact ⟨Z,μ,hg,ht,fun x hx=>hf x (fun hu=>hx (hU x hu)),hd,hn⟩
theorem apM {w:World} {Z:Nat→Nat→Prop} {μ:Nat→Option Cn} {a:Act} {s:St} (h:∀ i,Rep w Z μ (a.tmps.getD i undef) (s.t i)) {nt:Nat} (hn:a.tmps.size = nt) {d:Option Nat} (hd:∀ k,d = some k→k < nt) {v:Value} {x:V} (hv:Rep w Z μ v x) :
  ∀ i,Rep w Z μ ((a.put d v).tmps.getD i undef) ((s.put d x).t i):=by
 intro i
 cases d with
 | none=>exact h i
 | some k =>
   have hk:=hd k rfl
   simp only [Act.put,St.put]
   by_cases hi:i = k
   ·subst hi
    rw [Qn]
    have:(a.tmps.setIfInBounds i v).getD i undef = v:=by simp [hn,hk]
    rw [this];exact hv
   ·rw [QW _ _ hi]
    have:(a.tmps.setIfInBounds k v).getD i undef = a.tmps.getD i undef:=by
     simp [Zj (Ne.symm hi)]
    rw [this];exact h i
theorem amt {a:Act} {d:Option Nat} {v:Value}:(a.put d v).tmps.size = a.tmps.size:=by cases d<;>simp [Act.put]
theorem aha {a:Act} {d:Option Nat} {v:Value}:(a.put d v).defers = a.defers:=by cases d<;>rfl
theorem St.put_o {s:St} {d:Option Nat} {x:V}:(s.put d x).o = s.o:=by cases d<;>rfl
section
variable {C:Ctx} {nt:Nat}
theorem Sim.step {b:Nat} {U:Nat→Prop} {s:St} {a:Act} {w w':World} {Z Z':Nat→Nat→Prop} {μ μ':Nat→Option Cn} (ht:∀ i,Rep w Z μ (a.tmps.getD i undef) (s.t i)) (hf:∀ x,¬ U x→μ x = none) (hd0:a.defers = []) (hn:a.tmps.size = nt)
  (he:Evo b KK w Z μ w' Z' μ') {o':Nat→Option Ob} (hg:Good C w' Z' μ' o') {v:Value} {x:V} (hv:Rep w' Z' μ' v x) {d:Option Nat} (hd:∀ k,d = some k→k < nt) {nn:Nat} :
  anq C nt (fun x=>U x∨(b≤x∧x < b + KK)) { t:=(s.put d x).t,o:=o',n:=nn } (a.put d v) w':=by
 refine ⟨Z',μ',hg,apM (fun i=>he.rep (ht i)) hn hd hv,fun y hy=>?_,aha.trans hd0,amt.trans hn⟩
 rw [he.nw y (by omega)];exact hf y (fun h=>hy (.inl h))
theorem amd {n:Nat} {U:Nat→Prop} {s:St} {a:Act} {w:World} (hs:anq C nt U s a w) (hm:C.m≤n) (hfr:∀ x,n≤x→x < n + KK→¬ U x) {d:Option Nat} (hd:∀ k,d = some k→k < nt) {f:FuncId} {cargs:Array Value} {acts:List V} {K:St→Prop}
  (hargs:∀ Z μ,(∀ i,Rep w Z μ (a.tmps.getD i undef) (s.t i))→cargs.size = acts.length∧∀ i (h:i < acts.length) (h':i < cargs.size),Rep w Z μ cargs[i] acts[i])
  (h:aeT C.env n s d f acts K):V2 C.P f cargs w (fun e w'=>∃ v s',e = .returned v∧K s'∧anq C nt (fun x=>U x∨(n≤x∧x < n + KK)) s' (a.put d v) w'):=by
 obtain ⟨Z,μ,hg,ht,hf,hd0,hn⟩:=hs
 obtain ⟨hsz,hrep⟩:=hargs Z μ ht
 obtain ⟨args,ins,Q,br,B,hev,hcv,hl,hnd,hlt,hall⟩:=h
 obtain ⟨hlen,_⟩:=ajn hl
 have hkn:∀ b x,C.kn b = some x→w.heap[b]? = some x∧¬ Fb s.o μ br b:=by
  intro b x h
  obtain ⟨h1,h2⟩:=C.hkn b x h
  have hlt:b < C.w0.heap.size:=(kE.1 h1).1
  refine ⟨(hg.frame b hlt h2).trans h1,?_⟩
  rintro ⟨a,_,y,c,hy,hc,hl,rfl⟩
  obtain ⟨c',hc',_,hlv⟩:=hg.ob a y hy
  rw [hc] at hc';cases hc'
  rcases (hlv hl).2 with h'|h'
  ·omega
  ·exact h2 h'
 obtain ⟨e1,e2,e3⟩:=ame hg hkn hnd hl
 have hcl:=YT hcv
 have:=hev { P:=C.P,w0:=w,Z0:=Zc Z s.o μ br B,F:=Fb s.o μ br,m:=ins.length,μ0:=βc μ br,kn:=C.kn,mix:=C.mix,hkn:=hkn } cargs rfl rfl e3 e1 e2 (by omega)
  (fun i h h'=>Kx hg br B _ _ _ _ (zl _) (hrep i (by omega) h') (Vy hcv i (by omega) h))
 have hf':∀ x,n≤x→x < n + KK→μ x = none:=fun x h h'=>hf x (hfr x h h')
 have mono:∀ {e:Ending} {w':World},(∃ res outs,Q res outs∧∃ v Z' μ',e = .returned v∧Rep w' Z' μ' v res∧Good { P:=C.P,w0:=w,Z0:=Zc Z s.o μ br B,F:=Fb s.o μ br,m:=ins.length,μ0:=βc μ br,kn:=C.kn,mix:=C.mix,hkn:=hkn } w' Z' μ' (fun k=>outs[k]?)∧∀ k,outs.length≤k→μ' k = none) →
   ∃ v s',e = .returned v∧K s'∧anq C nt (fun x=>U x∨(n≤x∧x < n + KK)) s' (a.put d v) w':=by
  rintro e w' ⟨res,outs,hQ,v,Z',μ',rfl,hr,hgc,hend⟩
  obtain ⟨hio,hK,hB,hk⟩:=hall res outs hQ
  refine ⟨v,_,rfl,hk,?_⟩
  cases hBc:B with
  | none =>
    obtain ⟨hns,hno⟩:=hB hBc
    have hx:=akK (Zn:=Z) hg hkn hf' hm hlt hnd hlen hio hK hgc hend (fun _ _ h=>h) (fun _ _ h=>.inl h) (fun b i h=>Zm (hg.zlt b i h) hgc.grow) ?_
    ·obtain ⟨x1,x2,x3,x4,x5⟩:=hx
     subst hBc
     exact Sim.step ht hf hd0 hn ⟨x4,fun _ _ h=>h,x3,x5⟩ x1 ((hr.anyZ hns).ren x2) hd
    ·intro k x c hx hmc hok
     have hnx:=hno x (zm hx)
     have zz:∀ b i,Z b i→Z' b i:=fun b i h=>hgc.zsup b i (.inl h)
     clear hx
     induction x with
     | dead=>trivial
     | typ T x ih=>exact ⟨ih hok.1 hnx,hok.2⟩
     | box wr cells =>
       obtain ⟨h1,⟨cs,ty,h2,h3,h4⟩,h5⟩:=hok
       exact ⟨h1,⟨cs,ty,h2,h3,fun j hj hj'=>⟨(h4 j hj hj').1.anyZ (yZ hnx j hj),(h4 j hj hj').2⟩⟩,fun hw i hz=>h5 hw i (zz _ _ hz)⟩
     | buf wr sz xs =>
       refine ⟨hok.1,fun hv=>?_⟩
       obtain ⟨h0,h1,h2,h3,h4,cs,ty,fr,h5,h6,h7,h8⟩:=hok.2 hv
       refine ⟨h0,h1,fun hw i hz=>h2 hw i (zz _ _ hz),fun i hz=>h3 i (zz _ _ hz),h4,cs,ty,fr,h5,h6,h7,fun i hi j hj=>?_⟩
       obtain ⟨u,q1,q2,q3⟩:=h8 i hi j hj
       exact ⟨u,q1,q2,q3.anyZ (alU (hnx _ (zT hi)) j hj)⟩
     | obuf wr sz xs =>
       refine ⟨hok.1,fun hv=>?_⟩
       obtain ⟨h0,h1,h2,h3,h4,cs,ty,fr,h5,h6,h7,h8⟩:=hok.2 hv
       refine ⟨h0,h1,fun hw i hz=>h2 hw i (zz _ _ hz),fun i hz=>h3 i (zz _ _ hz),h4,cs,ty,fr,h5,h6,h7,fun i hi j hj=>?_⟩
       obtain ⟨u,q1,q2,q3⟩:=h8 i hi j hj
       exact ⟨u,q1,q2,q3.anyZ (alU (hnx _ (zT hi)) j hj)⟩
     | map ks vs c0 =>
       obtain ⟨h1,es,h2,h3,h4⟩:=hok
       exact ⟨h1,es,h2,h3,fun i hi hk hv=>⟨(h4 i hi hk hv).1,(h4 i hi hk hv).2.1.anyZ (hnx.1 _ (zT hk)),(h4 i hi hk hv).2.2.anyZ (hnx.2 _ (zT hv))⟩⟩
     | iter a since seen last=>exact hok
  | some l =>
    have hx:=akK (Zn:=Z') hg hkn hf' hm hlt hnd hlen hio hK hgc hend (fun b i h=>hgc.zsup b i (.inl h)) ?_ hgc.zlt (fun _ _ _ _ _ h=>h)
    ·obtain ⟨x1,x2,x3,x4,x5⟩:=hx
     subst hBc
     exact Sim.step ht hf hd0 hn ⟨x4,fun b i h=>hgc.zsup b i (.inl h),x3,x5⟩ x1 (hr.ren x2) hd
    ·intro b i hz
     rcases hgc.zsub b i hz with (h|⟨a',x,c,q1,q2,q3,q4,q5,q6,q7⟩)|h|h
     ·exact .inl h
     ·exact .inr (.inl ⟨by simp [hBc],a',x,c,q1,q2,q3,q4,q5,q6,q7⟩)
     ·exact .inr (.inr (.inl h))
     ·exact .inr (.inr (.inr h))
 simp only [V2,Ctx.env] at this ⊢
 split
 ·rename_i heq;simp only [heq] at this;exact mono this
 ·rename_i heq;simp only [heq] at this;exact Calls.mono this (fun _ _ h=>mono h)
 ·rename_i heq;simp only [heq] at this;exact Rows.mono this (fun _ _ h=>mono h)
 ·rename_i x h1 h2 h3
  split at this
  ·rename_i heq;exact h1 _ _ heq
  ·rename_i heq;exact h2 _ _ _ heq
  ·rename_i heq;exact h3 _ _ _ heq
  ·exact this
end
end Av
end
section
namespace Av
open Go
section
variable {C:Ctx} {nt:Nat}
theorem ajB {P:Program} {o:Oper} {a:Act} {next:Act→World→Prop} {Q:Exit→Act→World→Prop} {f:FuncId} {args:Array Value} {w:World}
  (h:V2 P f args w (fun e w'=>∃ v,e = .returned v∧next (a.put o.dst v) w')):o.upon P a next Q ((callFunc f args).run P w):=by
 unfold V2 at h
 split at h
 ·rename_i v w' heq
  obtain ⟨u,hu,hn⟩:=h
  cases hu
  rw [heq];exact hn
 ·rename_i f' args' w' heq
  rw [heq]
  refine Calls.mono h ?_
  rintro e w'' ⟨v,rfl,hn⟩
  exact hn
 ·rename_i row args' w' heq
  rw [heq]
  refine Rows.mono h ?_
  rintro e w'' ⟨v,hv,hn⟩
  cases hv
  exact hn
 ·exact h.elim
theorem avj (P:Program) (w:World) (ρ:Operand→Value) (dst:Option Tmp) (x:Operand) (as:Array Operand) (ts:Array TypeId) (ty:TypeId) (pos:String) (after:Array Edge) (guard:Option (Nat×Bool)) (f:FuncId) (cap:Array Value)
  (h:ρ x = .func (.func f) #[] cap):(execOp ρ { dst,op:=.call { callee:=.value x,args:=as,argTypes:=ts },type:=ty,pos,after,guard }).run P w = (callFunc f (as.map ρ++cap)).run P w:=by
 simp [execOp,resolve,Deferred.ofValue,h,invoke]
def FK.vargs:FK→Array Value→Array Value→Array Value
 | .n _,as,cs=>as++cs
 | .m _,as,cs=>cs++as
theorem atp (P:Program) (w:World) (ρ:Operand→Value) (dst:Option Tmp) (x:Operand) (as:Array Operand) (ts:Array TypeId) (ty:TypeId) (pos:String) (after:Array Edge) (guard:Option (Nat×Bool)) (f:FK) (cap:Array Value)
  (h:ρ x = f.val cap):(execOp ρ { dst,op:=.call { callee:=.value x,args:=as,argTypes:=ts },type:=ty,pos,after,guard }).run P w = (callFunc f.f (f.vargs (as.map ρ) cap)).run P w:=by
 cases f<;>simp [execOp,resolve,Deferred.ofValue,h,invoke,FK.val,FK.f,FK.vargs]
theorem amz {w:World} {Z:Nat→Nat→Prop} {μ:Nat→Option Cn} {ρ:Operand→Value} {r:Opd→V} (hρ:∀ x x',opd x = some x'→Rep w Z μ (ρ x) (r x')):∀ {l:List Operand} {as:List Opd},opds l = some as→l.length = as.length∧∀ i (h:i < as.length) (h':i < l.length),Rep w Z μ (ρ l[i]) (r as[i])
 | [],as,h=>by simp [opds] at h;subst h;exact ⟨rfl,fun i h=>by simp at h⟩
 | x :: l,as,h=>by
   simp only [opds] at h
   split at h
   ·rename_i a b h1 h2
    simp only [zf] at h;subst h
    obtain ⟨e1,e2⟩:=amz hρ h2
    refine ⟨by simp [e1],fun i hi hi'=>?_⟩
    cases i with
    | zero=>exact hρ _ _ h1
    | succ i=>simpa using e2 i (by simpa using hi) (by simpa using hi')
   ·cases h
theorem asK {P:Program} {op:Op} {ty:TypeId} {aop:AOp} (h:comp P op ty = some aop) (hp:aop.plain = false) :
  ∃ x as ts xs,op = .call { callee:=.value x,args:=as,argTypes:=ts }∧opds as.toList = some xs∧((∃ f,x = .func f∧aop = .call f xs)∨∃ y,opd x = some y∧aop = .callv y xs):=by
 cases op
 case call c =>
  obtain ⟨callee,as,ts⟩:=c
  cases callee with
  | value x =>
    cases hx:opds as.toList with
    | none=>simp [comp,hx] at h
    | some xs =>
      cases x with
      | func f =>
        simp only [comp,hx,zf] at h;subst h
        exact ⟨_,as,ts,xs,rfl,hx,.inl ⟨f,rfl,rfl⟩⟩
      | _ =>
        simp only [comp,hx,zk] at h
        obtain ⟨y,hy,rfl⟩:=h
        exact ⟨_,as,ts,xs,rfl,hx,.inr ⟨y,hy,rfl⟩⟩
  | builtin bi =>
    exfalso
    simp only [comp] at h
    repeat' split at h
    all_goals first
     | (cases h;done)
     | (simp only [zf] at h;subst h;simp [AOp.plain] at hp;done)
     | (simp only [zk] at h;obtain ⟨_,_,rfl⟩:=h;simp [AOp.plain] at hp;done)
     | simp_all
  | invoke r m =>
    exfalso
    simp only [comp] at h
    repeat' split at h
    all_goals simp_all
 case makeFunc fn fi ca =>
  exfalso
  cases fn<;>simp only [comp] at h
  all_goals
   repeat' split at h
  all_goals first
   | (cases h;done)
   | (simp only [zk] at h;obtain ⟨_,_,rfl⟩:=h;simp [AOp.plain] at hp;done)
 case makeMap t rs =>
  exfalso
  cases rs with
  | none=>simp only [comp,zf] at h;subst h;simp [AOp.plain] at hp
  | some x=>simp [comp] at h
 all_goals
  exfalso
  simp only [comp] at h
  repeat' split at h
  all_goals first
   | (cases h;done)
   | (simp only [zf] at h;subst h;simp [AOp.plain] at hp;done)
   | (simp only [zk] at h;obtain ⟨_,_,rfl⟩:=h;simp [AOp.plain] at hp;done)
theorem awO {n:Nat} {U:Nat→Prop} {s:St} {a:Act} {w:World} (hs:anq C nt U s a w) (hm:C.m≤n) (hfr:∀ x,n≤x→x < n + KK→¬ U x) {o:Oper} {aop:AOp} (hd:∀ k,o.dst = some k→k < nt) (hc:comp C.P o.op o.type = some aop) {K:St→Prop} {next:Act→World→Prop} {Q:Exit→Act→World→Prop}
  (h:arP C.env n s o.dst aop K) (hk:∀ s' a' w',K s'→anq C nt (fun x=>U x∨(n≤x∧x < n + KK)) s' a' w'→next a' w'):o.wp C.P a w next Q:=by
 by_cases hp:aop.plain = true
 ·have h':(sem n s.ev aop).wp s.o fun e=>K (s.eff o.dst e):=by
   cases aop<;>first|exact h|simp [AOp.plain] at hp
  obtain ⟨Z,μ,hg,ht,hf,hd0,hn⟩:=hs
  obtain ⟨e,v,w',Z',μ',e1,e2,e3,e4,e5⟩:=avF hg (fun x h h'=>hf x (hfr x h h')) hm ht hc hp _ h'
  have hs':=Sim.step (nn:=s.n) ht hf hd0 hn e5 e4 e3 hd
  have he:({ t:=(s.put o.dst e.v).t,o:=ad0 s.o e.os,n:=s.n }:St) = s.eff o.dst e:=by
   cases hdst:o.dst<;>simp [St.eff,St.put]
  rw [he] at hs'
  unfold Oper.wp
  rcases e1 with h1|⟨h1,rfl⟩
  ·rw [h1];exact hk _ _ _ e2 hs'
  ·rw [h1];exact hk _ _ _ e2 hs'
 ·obtain ⟨x,as,ts,xs,hop,hxs,hcase⟩:=asK hc (by simpa using hp)
  obtain ⟨dst,op,ty,pos,after,guard⟩:=o
  simp only at hop hd h hc ⊢
  subst hop
  unfold Oper.wp
  have hrep:∀ Z μ,(∀ i,Rep w Z μ (a.tmps.getD i undef) (s.t i))→∀ x x',opd x = some x'→Rep w Z μ (a.eval x) (s.ev x'):=fun Z μ ht=>amT ht
  rcases hcase with ⟨f,rfl,rfl⟩|⟨y,hy,rfl⟩
  ·rw [avj C.P w a.eval dst (.func f) as ts ty pos after guard f #[] rfl]
   refine ajB ?_
   have:=amd (cargs:=as.map a.eval++#[]) hs hm hfr hd (fun Z μ ht=>?_) h
   ·unfold V2 at this ⊢
    split at this
    ·obtain ⟨v,s',h1,h2,h3⟩:=this;exact ⟨v,h1,hk _ _ _ h2 h3⟩
    ·exact Calls.mono this (fun e w' ⟨v,s',h1,h2,h3⟩=>⟨v,h1,hk _ _ _ h2 h3⟩)
    ·exact Rows.mono this (fun e w' ⟨v,s',h1,h2,h3⟩=>⟨v,h1,hk _ _ _ h2 h3⟩)
    ·exact this
   ·obtain ⟨l1,l2⟩:=amz (hrep Z μ ht) hxs
    simp only [Array.length_toList] at l1
    refine ⟨by simp [l1],fun i h h'=>?_⟩
    have:=l2 i (by simpa using h) (by simp at h;simp;omega)
    simpa using this
  ·simp only [arP] at h
   split at h
   ·rename_i f cap hev
    obtain ⟨Z,μ,hg,ht,hf,hd0,hn⟩:=hs
    have hx:=hrep Z μ ht x y hy
    rw [hev] at hx
    obtain ⟨cs,hxv,_,_⟩:=hx.cloE
    rw [atp C.P w a.eval dst x as ts ty pos after guard f cs hxv]
    refine ajB ?_
    have:=amd (cargs:=f.vargs (as.map a.eval) cs) (⟨Z,μ,hg,ht,hf,hd0,hn⟩:anq C nt U s a w) hm hfr hd (fun Z μ ht=>?_) h
    ·unfold V2 at this ⊢
     split at this
     ·obtain ⟨v,s',h1,h2,h3⟩:=this;exact ⟨v,h1,hk _ _ _ h2 h3⟩
     ·exact Calls.mono this (fun e w' ⟨v,s',h1,h2,h3⟩=>⟨v,h1,hk _ _ _ h2 h3⟩)
     ·exact Rows.mono this (fun e w' ⟨v,s',h1,h2,h3⟩=>⟨v,h1,hk _ _ _ h2 h3⟩)
     ·exact this
    ·obtain ⟨l1,l2⟩:=amz (hrep Z μ ht) hxs
     have hx':=hrep Z μ ht x y hy
     rw [hev] at hx'
     obtain ⟨cs',hxv',hcl,hcr⟩:=hx'.cloE
     rw [hxv] at hxv'
     have hcs:cs' = cs:=by cases f<;>simpa [FK.val] using hxv'.symm
     subst hcs
     simp only [Array.length_toList] at l1
     cases f with
     | n f =>
       simp only [FK.args,FK.vargs]
       refine ⟨by simp [l1,hcl],fun i h h'=>?_⟩
       by_cases hi:i < xs.length
       ·have:=l2 i hi (by simp;omega)
        simpa [ZS,Z7,hi,l1] using this
       ·have:=hcr (i - xs.length) (by simp at h;omega) (by simp at h';omega)
        simpa [ZS,Z7,hi,l1] using this
     | m f =>
       simp only [FK.args,FK.vargs]
       refine ⟨by simp [l1,hcl],fun i h h'=>?_⟩
       by_cases hi:i < cap.length
       ·have:=hcr i hi (by omega)
        simpa [ZS,Z7,hi,hcl] using this
       ·have:=l2 (i - cap.length) (by simp at h;omega) (by simp at h';simp;omega)
        simpa [ZS,Z7,hi,hcl] using this
   ·exact h.elim
theorem azy {n:Nat} {s:St} {a:Act} {w:World} (hs:Sim C nt n s a w) {o:Oper} {aop:AOp} (hd:∀ k,o.dst = some k→k < nt) (hc:comp C.P o.op o.type = some aop) {K:St→Prop} {next:Act→World→Prop} {Q:Exit→Act→World→Prop}
  (h:arP C.env n s o.dst aop K) (hk:∀ s' a' w',K s'→Sim C nt (n + KK) s' a' w'→next a' w'):o.wp C.P a w next Q:=by
 have hm:C.m≤n:=by obtain ⟨_,_,_,_,_,hm,_⟩:=hs;exact hm
 refine awO hs.toU hm (fun x h _ hx=>by omega) hd hc h fun s' a' w' hk' hs'=>hk s' a' w' hk' (hs'.toSim (fun x hx=>?_) (by omega))
 rcases hx with h|h<;>omega
end
end Av
end
section
namespace Av
open Go
section
variable {C:Ctx} {nt:Nat}
def St.wn (s:St) (n:Nat):St:={ s with n:=n }
def AQ (C:Ctx) (nt:Nat) (K:St→Prop) (E:Nat→St→Prop) (R:St→Prop):Exit→Act→World→Prop
 | .normal,a,w=>∃ s,K s∧Sim C nt s.n s a w
 | .exit i,a,w=>∃ s,E i s∧Sim C nt s.n s a w
 | .ret,a,w=>∃ s,R s∧Sim C nt s.n s a w
 | _,_,_=>False
def AWp (C:Ctx) (nt:Nat) (c:AC) (s:St) (K:St→Prop) (E:Nat→St→Prop) (R:St→Prop):Prop :=
 ∀ code,ade C.P nt code = some c→∀ a w,Sim C nt s.n s a w→code.wp C.P (AQ C nt K E R) a w
theorem Sim.any {n:Nat} {s s':St} {a:Act} {w:World} (h:Sim C nt n s a w) (ht:s'.t = s.t) (ho:s'.o = s.o):Sim C nt n s' a w:=by
 obtain ⟨Z,μ,hg,h1,h2⟩:=h
 exact ⟨Z,μ,ho ▸ hg,fun i=>ht ▸ h1 i,h2⟩
theorem Sim.wide {n m:Nat} {s:St} {a:Act} {w:World} (h:Sim C nt n s a w) (hnm:n≤m):Sim C nt m s a w:=by
 obtain ⟨Z,μ,hg,h1,h2,h3,h4⟩:=h
 exact ⟨Z,μ,hg,h1,fun x hx=>h2 x (by omega),by omega,h4⟩
theorem ajA {o:Oper} {y:Nat→Option Bool} (h:o.guard = none):Region.wanted o y = true:=by simp [Region.wanted,h]
theorem awz {w:World} {Z:Nat→Nat→Prop} {μ:Nat→Option Cn} {a:Act} {s:St} (ht:∀ i,Rep w Z μ (a.tmps.getD i undef) (s.t i)) {ops:Array Oper} {j:Nat} {g:Nat} (hg:(ops[j]?).bind (·.dst) = some g) {q:Option Bool} (hq:isG (s.t g) q) :
  yielded ops a.tmps j = q:=by
 have h:=ht g
 unfold yielded
 rw [hg]
 simp only [Option.bind_some]
 cases q with
 | some b =>
   have hq:s.t g = .bool b:=hq
   rw [hq] at h
   obtain ⟨h,_⟩:=h.scE
   rcases kI g a.tmps.size with hlt|hge
   ·simp [hlt] at h
    rw [zA hlt,h]
   ·exfalso
    simp [hge] at h
    have:undef≠Value.bool b:=by simp [undef]
    exact this h
 | none =>
   have hq:s.t g = .tup []:=hq
   rw [hq] at h
   generalize hv:a.tmps.getD g undef = v at h
   cases h with
   | tup hl hr =>
     rcases kI g a.tmps.size with hlt|hge
     ·simp [hlt] at hv
      rw [zA hlt,hv]
     ·rw [Zu hge]
theorem atb {o:Oper} {j:Nat} {want:Bool} {y:Nat→Option Bool} {q:Option Bool} (hgu:o.guard = some (j,want)) (hy:y j = q):Region.wanted o y = decide (q = some want):=by
 simp only [Region.wanted,hgu,hy]
 rcases q with _|b
 ·cases want<;>rfl
 ·cases b<;>cases want<;>rfl
theorem atw {w:World} {Z:Nat→Nat→Prop} {μ:Nat→Option Cn}:Rep w Z μ undef V.und:=.tup rfl (fun j h=>by simp at h)
theorem apE {n:Nat} {s:St} {a:Act} {w:World} (hs:Sim C nt n s a w) {d:Option Nat} (hd:∀ k,d = some k→k < nt):Sim C nt n (s.put d V.und) (a.put d undef) w:=by
 obtain ⟨Z,μ,hg,ht,hf,hm,hd0,hn⟩:=hs
 exact ⟨Z,μ,by rw [St.put_o];exact hg,apM ht hn hd atw,hf,hm,aha.trans hd0,amt.trans hn⟩
theorem amb {P:Program} {n:Nat} {ops:Array Oper} {o:Oper} {x:AO} (h:asL P n ops o = some x) :
  comp P o.op o.type = some x.op∧aib ops o.guard = some x.g∧x.d = o.dst∧∀ k,o.dst = some k→k < n:=by
 unfold asL at h
 split at h
 ·rename_i a g h1 h2
  cases hdst:o.dst with
  | none =>
    simp only [hdst,if_true,zf] at h;subst h
    exact ⟨h1,h2,rfl,fun k hk=>by cases hk⟩
  | some d =>
    simp only [hdst,zu] at h
    split at h
    ·rename_i hd
     simp only [zf] at h;subst h
     exact ⟨h1,h2,rfl,fun k hk=>by cases hk;exact hd⟩
    ·cases h
 ·cases h
theorem awN {ops:Array Oper} {Q:Exit→Act→World→Prop}:∀ (l:List Nat) (xs:List AO) (n:Nat) (s:St) (a:Act) (w:World),
  (∀ i,i∈l→i < ops.size)→ao5 C.P nt ops (l.filterMap (ops[·]?)) = some xs→Sim C nt n s a w→∀ K:St→Prop,abA C.env n xs s K →
  (∀ s' a' w',K s'→Sim C nt s'.n s' a' w'→Q .normal a' w')→wpOps C.P ops Q l a w
 | [],xs,n,s,a,w,_,hc,hs,K,h,hk=>by
   simp [ao5] at hc;subst hc
   exact hk _ _ _ h (hs.any rfl rfl)
 | i :: l,xs,n,s,a,w,hi,hc,hs,K,h,hk=>by
   have hlt:=hi i (by simp)
   have hget:ops[i]? = some ops[i]:=zA hlt
   simp only [List.filterMap_cons,hget,ao5] at hc
   split at hc
   ·rename_i x xs' h1 h2
    simp only [zf] at hc;subst hc
    obtain ⟨c1,c2,c3,c4⟩:=amb h1
    simp only [wpOps,hget]
    have rest:∀ s' a' w',abA C.env (n + KK) xs' s' K→Sim C nt (n + KK) s' a' w'→wpOps C.P ops Q l a' w' :=
     fun s' a' w' h' hs'=>awN l xs' (n + KK) s' a' w' (fun i hm=>hi i (by simp [hm])) h2 hs' K h' hk
    have run:arP C.env n s x.d x.op (fun s'=>abA C.env (n + KK) xs' s' K)→(ops[i]).wp C.P a w (wpOps C.P ops Q l) Q:=by
     rw [c3]
     exact fun h=>azy hs c4 c1 h rest
    cases hg:x.g with
    | none =>
      simp only [abA,hg] at h
      rw [hg] at c2
      have:(ops[i]).guard = none:=by
       cases hgu:(ops[i]).guard with
       | none=>rfl
       | some p =>
         obtain ⟨j,want⟩:=p
         rw [hgu] at c2
         simp only [aib] at c2
         split at c2<;>simp at c2
      rw [ajA this]
      simp only [if_true]
      exact .inl (run h)
    | some p =>
      obtain ⟨g,want⟩:=p
      simp only [abA,hg] at h
      obtain ⟨q,hq,hq1,hq2⟩:=h
      rw [hg] at c2
      cases hgu:(ops[i]).guard with
      | none=>rw [hgu] at c2;simp [aib] at c2
      | some p =>
        obtain ⟨j,want'⟩:=p
        rw [hgu] at c2
        simp only [aib] at c2
        split at c2
        ·rename_i g' hg'
         simp only [zf,Z9] at c2
         obtain ⟨rfl,rfl⟩:=c2
         have hy:yielded ops a.tmps j = q:=by
          obtain ⟨Z,μ,_,ht,_⟩:=hs
          exact awz ht hg' hq
         rw [atb hgu hy]
         by_cases hqw:q = some want'
         ·simp only [hqw,decide_true,if_true];exact .inl (run (hq1 hqw))
         ·simp only [hqw,decide_false,zw,if_false]
          refine rest _ _ _ (hq2 hqw) ?_
          rw [c3]
          exact (apE hs c4).wide (by omega)
        ·cases c2
   ·cases hc
theorem ajK (ops:Array Oper):(List.range ops.size).filterMap (ops[·]?) = ops.toList:=by
 apply Zp
 intro i
 have key:∀ (l:List Nat) (hb:∀ i∈l,i < ops.size),l.filterMap (ops[·]?) = l.pmap (fun i h=>ops[i]'h) hb:=by
  intro l
  induction l with
  | nil=>intro _;rfl
  | cons i l ih =>
    intro hb
    have hlt:=hb i (by simp)
    simp only [List.filterMap_cons,zA hlt,List.pmap]
    rw [ih]
 have:=key (List.range ops.size) (fun i hi=>by simpa using hi)
 rw [this]
 simp only [List.getElem?_pmap,Zz]
 rcases kI i ops.size with h|h
 ·simp [h]
 ·simp [h,Zu h]
variable {s:St} {K:St→Prop} {E:Nat→St→Prop} {R:St→Prop}
theorem auU {ops:List AO} (h:abA C.env s.n ops s K):AWp C nt (.reg ops) s K E R:=by
 intro code hc a w hs
 cases code<;>simp only [ade] at hc
 case region id ops' draw =>
  simp only [zk] at hc
  obtain ⟨l,hl,he⟩:=hc
  cases draw
  ·simp only [zw,if_false,AC.reg.injEq] at he;subst he
   refine wp_region (awN (List.range ops'.size) l s.n s a w (fun i hi=>by simpa using hi) (by rw [ajK];exact hl) hs K h ?_)
   exact fun s' a' w' hk hs'=>⟨s',hk,hs'⟩
  ·simp at he
 all_goals first
  | (cases hc;done)
  | (simp only [zk] at hc;obtain ⟨_,_,he⟩:=hc;cases he;done)
  | (split at hc<;>simp at hc;done)
theorem awm (h:K s):AWp C nt .skip s K E R:=by
 intro code hc a w hs
 cases code<;>simp only [ade] at hc
 case skip=>exact wp_skip ⟨s,h,hs⟩
 case region id ops' draw =>
  simp only [zk] at hc
  obtain ⟨l,hl,he⟩:=hc
  cases draw<;>simp at he
 all_goals first
  | (cases hc;done)
  | (simp only [zk] at hc;obtain ⟨_,_,he⟩:=hc;cases he;done)
  | (split at hc<;>simp at hc;done)
theorem awt {i:Nat} (h:E i s):AWp C nt (.exit i) s K E R:=by
 intro code hc a w hs
 cases code<;>simp only [ade] at hc
 case exit id=>simp only [zf,AC.exit.injEq] at hc;subst hc;exact wp_exit ⟨s,h,hs⟩
 case region id ops' draw =>
  simp only [zk] at hc
  obtain ⟨l,hl,he⟩:=hc
  cases draw<;>simp at he
 all_goals first
  | (cases hc;done)
  | (simp only [zk] at hc;obtain ⟨_,_,he⟩:=hc;cases he;done)
  | (split at hc<;>simp at hc;done)
theorem aya (h:R s):AWp C nt .ret s K E R:=by
 intro code hc a w hs
 cases code<;>simp only [ade] at hc
 case ret=>exact wp_ret ⟨s,h,hs⟩
 case region id ops' draw =>
  simp only [zk] at hc
  obtain ⟨l,hl,he⟩:=hc
  cases draw<;>simp at he
 all_goals first
  | (cases hc;done)
  | (simp only [zk] at hc;obtain ⟨_,_,he⟩:=hc;cases he;done)
  | (split at hc<;>simp at hc;done)
theorem ax9 {x y:AC} (h:AWp C nt x s (fun s'=>AWp C nt y s' K E R) E R):AWp C nt (.seq x y) s K E R:=by
 intro code hc a w hs
 cases code<;>simp only [ade] at hc
 case seq c1 c2 =>
  split at hc
  ·rename_i x' y' h1 h2
   simp only [zf,AC.seq.injEq] at hc
   obtain ⟨rfl,rfl⟩:=hc
   refine wp_seq (wp_mono (h c1 h1 a w hs) ?_)
   intro e a' w' hq
   cases e with
   | normal=>obtain ⟨s',hk,hs'⟩:=hq;exact hk c2 h2 a' w' hs'
   | exit i=>exact hq
   | ret=>exact hq
   | _=>exact hq
  ·cases hc
 case region id ops' draw =>
  simp only [zk] at hc
  obtain ⟨l,hl,he⟩:=hc
  cases draw<;>simp at he
 all_goals first
  | (cases hc;done)
  | (simp only [zk] at hc;obtain ⟨_,_,he⟩:=hc;cases he;done)
  | (split at hc<;>simp at hc;done)
theorem anp {c:Opd} {x y:AC} (h:∃ q,s.ev c = .bool q∧(q = true→AWp C nt x s K E R)∧(q = false→AWp C nt y s K E R)):AWp C nt (.cond c x y) s K E R:=by
 intro code hc a w hs
 cases code<;>simp only [ade] at hc
 case cond c0 c1 c2 =>
  split at hc
  ·rename_i c' x' y' h0 h1 h2
   simp only [zf,AC.cond.injEq] at hc
   obtain ⟨rfl,rfl,rfl⟩:=hc
   obtain ⟨q,hq,ht,hf⟩:=h
   have hev:a.eval c0 = .bool q:=by
    obtain ⟨Z,μ,_,htm,_⟩:=hs
    have:=amT htm c0 c' h0
    rw [hq] at this
    exact this.scE.1
   exact wp_cond_split hev (fun e=>ht e c1 h1 a w hs) (fun e=>hf e c2 h2 a w hs)
  ·cases hc
 case region id ops' draw =>
  simp only [zk] at hc
  obtain ⟨l,hl,he⟩:=hc
  cases draw<;>simp at he
 all_goals first
  | (cases hc;done)
  | (simp only [zk] at hc;obtain ⟨_,_,he⟩:=hc;cases he;done)
  | (split at hc<;>simp at hc;done)
theorem auW {i:Nat} {x:AC} (h:AWp C nt x s K (fun j s'=>if j = i then K s' else E j s') R):AWp C nt (.block i x) s K E R:=by
 intro code hc a w hs
 cases code<;>simp only [ade] at hc
 case block i' c1 =>
  simp only [zk,AC.block.injEq] at hc
  obtain ⟨x',h1,rfl,rfl⟩:=hc
  refine wp_block (wp_mono (h c1 h1 a w hs) ?_)
  intro e a' w' hq
  cases e with
  | normal=>exact hq
  | exit j =>
    obtain ⟨s',hk,hs'⟩:=hq
    simp only [Exit.inBlock]
    split
    ·rename_i hj;simp only [hj,if_true] at hk;exact ⟨s',hk,hs'⟩
    ·rename_i hj;simp only [hj,if_false] at hk;exact ⟨s',hk,hs'⟩
  | ret=>exact hq
  | _=>exact hq
 case region id ops' draw =>
  simp only [zk] at hc
  obtain ⟨l,hl,he⟩:=hc
  cases draw<;>simp at he
 all_goals first
  | (cases hc;done)
  | (simp only [zk] at hc;obtain ⟨_,_,he⟩:=hc;cases he;done)
  | (split at hc<;>simp at hc;done)
theorem arN {x:AC} (I:Nat→St→Prop) (h0:∃ k,I k s) (h:∀ k s',I k s'→AWp C nt x s' (fun s''=>∃ k',k' < k∧I k' s'') E R):AWp C nt (.loop x) s K E R:=by
 intro code hc a w hs
 cases code<;>simp only [ade] at hc
 case loop c1 =>
  simp only [zk,AC.loop.injEq] at hc
  obtain ⟨x',h1,rfl⟩:=hc
  obtain ⟨k0,hk0⟩:=h0
  intro b k cs
  have key:∀ n s a w,I n s→Sim C nt s.n s a w →
    ∃ e a' w',AQ C nt K E R e a' w'∧Arrives C.P (lone (b.at a (.code c1 :: .inLoop c1 :: k)) cs w) b k cs e a' w':=by
   intro n
   induction n using Nat.strongRecOn with
   | _ n ih =>
     intro s a w hI hs
     obtain ⟨e,a1,w1,hq,harr⟩:=h n s hI c1 h1 a w hs b (.inLoop c1 :: k) cs
     cases e with
     | normal =>
       obtain ⟨s',⟨k',hlt,hI'⟩,hs'⟩:=hq
       obtain ⟨e2,a2,w2,hq2,harr2⟩:=ih k' hlt s' a1 w1 hI' hs'
       exact ⟨e2,a2,w2,hq2,.of_steps (Steps.trans harr (.one step_inLoop)) harr2⟩
     | exit id=>exact ⟨.exit id,a1,w1,(show AQ C nt K E R (.exit id) a1 w1 from hq),.pass (x:=.inLoop c1) rfl (fun _ _=>.inl (by simp)) harr⟩
     | ret=>exact ⟨.ret,a1,w1,(show AQ C nt K E R .ret a1 w1 from hq),.pass (x:=.inLoop c1) rfl (fun _ _=>.inl (by simp)) harr⟩
     | _=>exact hq.elim
  obtain ⟨e,a',w',hq,harr⟩:=key k0 s a w hk0 hs
  exact ⟨e,a',w',hq,.of_steps (.one step_loop) harr⟩
 case region id ops' draw =>
  simp only [zk] at hc
  obtain ⟨l,hl,he⟩:=hc
  cases draw<;>simp at he
 all_goals first
  | (cases hc;done)
  | (simp only [zk] at hc;obtain ⟨_,_,he⟩:=hc;cases he;done)
  | (split at hc<;>simp at hc;done)
theorem ano {c:AC} {K':St→Prop} {E':Nat→St→Prop} {R':St→Prop} (h:AWp C nt c s K' E' R') (hk:∀ s,K' s→K s) (he:∀ i s,E' i s→E i s) (hr:∀ s,R' s→R s):AWp C nt c s K E R :=
 fun code hc a w hs=>wp_mono (h code hc a w hs) fun e a' w' hq=>by
  cases e with
  | normal=>obtain ⟨s',h1,h2⟩:=hq;exact ⟨s',hk _ h1,h2⟩
  | exit i=>obtain ⟨s',h1,h2⟩:=hq;exact ⟨s',he _ _ h1,h2⟩
  | ret=>obtain ⟨s',h1,h2⟩:=hq;exact ⟨s',hr _ h1,h2⟩
  | _=>exact hq.elim
end
end Av
end
section
namespace Av
open Go
mutual
def V.lt (n:Nat):V→Prop
 | .hd a _ _=>a < n
 | .ptr a _=>a < n
 | .ept a _ _=>a < n
 | .mp a=>a < n
 | .agg cs=>ltL n cs
 | .tup cs=>ltL n cs
 | .clo _ cs=>ltL n cs
 | _=>True
def ltL (n:Nat):List V→Prop
 | []=>True
 | v :: r=>v.lt n∧ltL n r
end
theorem ahg {n:Nat}:∀ {cs:List V},ltL n cs→∀ j (h:j < cs.length),cs[j].lt n
 | [],_,j,h=>by simp at h
 | v :: r,hc,0,h=>hc.1
 | v :: r,hc,j + 1,h=>ahg (cs:=r) hc.2 j (by simpa using h)
theorem Rep.back {w:World} {Z:Nat→Nat→Prop} {μ μ':Nat→Option Cn} {τ:Nat→Nat} {n:Nat} (hτ:∀ a,a < n→μ' a = μ (τ a)) :
  ∀ (k:Nat) (x:V) (v:Value),sizeOf x≤k→x.lt n→Rep w Z μ v (x.ren τ)→Rep w Z μ' v x:=by
 intro k
 induction k with
 | zero=>intro x v hs;cases x<;>simp at hs
 | succ k ih =>
   intro x v hs hl hr
   have list:∀ (es:List V) (vs:Array Value),sizeOf es≤k→ltL n es→vs.size = (K3 τ es).length→(∀ j (h:j < (K3 τ es).length) (h':j < vs.size),Rep w Z μ vs[j] (K3 τ es)[j]) →
     vs.size = es.length∧∀ j (h:j < es.length) (h':j < vs.size),Rep w Z μ' vs[j] es[j]:=by
    intro es vs hs hl hsz hr
    rw [QI] at hsz
    refine ⟨hsz,fun j h h'=>ih _ _ ?_ (ahg hl j h) ?_⟩
    ·have:=ZP (zT h);omega
    ·have:=hr j (by rw [QI];exact h) h'
     rw [Wi τ es j h] at this;exact this
   cases x with
   | top=>exact .top
   | sc u=>obtain ⟨rfl,h⟩:=hr.scE;exact .sc h
   | nn=>obtain ⟨t,u,rfl⟩:=hr.nnE;exact .nn
   | sl sz xs =>
     simp only [V.ren] at hr
     cases hr with
     | sl0=>exact .sl0
     | sl f h0 h1 h2 h3=>exact .sl f h0 h1 h2 h3
   | hd a off len=>obtain ⟨c,hm,hh⟩:=hr.hdE;exact .hd (c:=c) ((hτ a hl).trans hm) hh
   | ptr a off=>obtain ⟨c,hm,rfl⟩:=hr.ptrE;exact .ptr (c:=c) ((hτ a hl).trans hm)
   | ept a i off =>
     simp only [V.ren] at hr
     cases hr with
     | ept h1 h2 h3=>exact .ept ((hτ a hl).trans h1) h2 h3
   | mp a=>obtain ⟨c,hm,rfl⟩:=hr.mpE;exact .mp (c:=c) ((hτ a hl).trans hm)
   | ro cells off =>
     simp only [V.ren] at hr
     cases hr with
     | ro f h1 h2=>exact .ro f h1 h2
   | agg es =>
     obtain ⟨vs,rfl,h1,h2,h3⟩:=hr.aggE
     obtain ⟨l1,l2⟩:=list es vs (by simp at hs;omega) hl h1 h3
     exact .agg l1 h2 l2
   | tup es =>
     obtain ⟨vs,rfl,h1,h3⟩:=hr.tupE
     obtain ⟨l1,l2⟩:=list es vs (by simp at hs;omega) hl h1 h3
     exact .tup l1 l2
   | clo f es =>
     obtain ⟨vs,rfl,h1,h3⟩:=hr.cloE
     obtain ⟨l1,l2⟩:=list es vs (by simp at hs;omega) hl h1 h3
     exact .cloI l1 l2
def Ob.lt (n:Nat):Ob→Prop
 | .box _ cs=>ltL n cs
 | .typ _ x=>x.lt n
 | .obuf _ _ xs=>ltL n xs
 | .map _ vs _=>ltL n vs
 | .iter a _ _ _=>a < n
 | _=>True
def qw:List V→Prop
 | []=>True
 | x :: r=>Qh x.cells∧qw r
theorem afp:∀ {ys:List V},qw ys→∀ i (h:i < ys.length) j (hj:j < ys[i].cells.length),(ys[i].cells[j]).closed
 | x :: r,h,0,_,j,hj=>WR h.1 j hj
 | x :: r,h,i + 1,hi,j,hj=>afp (ys:=r) h.2 i (by simpa using hi) j hj
def Ob.weak (τ:Nat→Nat) (n:Nat):Ob→Ob→Prop
 | _,.dead=>True
 | .box wr cs,.box wr' es=>(wr' = true→wr = true)∧cs = K3 τ es∧ltL n es
 | .buf wr s xs,.buf wr' s' ys=>(wr' = true→wr = true)∧s = s'∧xs = ys
 | .obuf wr s xs,.obuf wr' s' ys=>(wr' = true→wr = true)∧s = s'∧xs = K3 τ ys∧ltL n ys
 | .buf wr s xs,.obuf wr' s' ys=>(wr' = true→wr = true)∧s = s'∧xs = ys
 | .obuf wr s xs,.buf wr' s' ys=>(wr' = true→wr = true)∧s = s'∧xs = ys∧qw ys
 | .typ T x,.typ T' y=>T = T'∧x.weak τ n y
 | .map ks vs c0,.map ks' vs' c0'=>ks = ks'∧c0 = c0'∧vs = K3 τ vs'∧ltL n vs'
 | .iter a since seen last,.iter a' since' seen' last'=>a = τ a'∧a' < n∧since = since'∧seen = seen'∧last = last'
 | _,_=>False
theorem afA {τ:Nat→Nat} {n:Nat} {c:Cn} {x y:Ob} (h:x.weak τ n y) (hl:y.live c):x.live c:=by
 induction y generalizing x with
 | dead=>exact hl.elim
 | typ T y ih=>cases x with|typ T1 x1=>exact ih (x:=x1) h.2 hl|_=>exact False.elim h
 | _=>cases x<;>first|exact False.elim h|trivial|exact hl
theorem at7 {n:Nat} {x:V} (h:x.lt n):ltL n x.cells:=by
 cases x<;>first|exact h|exact ⟨h,trivial⟩
theorem BOk.back {w:World} {Z:Nat→Nat→Prop} {μ μ':Nat→Option Cn} {τ:Nat→Nat} {n:Nat} (hτ:∀ a,a < n→μ' a = μ (τ a)) {c:Cn} {wr:Bool} {s:Nat} {ys:List V} (h:BOk w Z μ c wr s (K3 τ ys)) (hl:ltL n ys):BOk w Z μ' c wr s ys:=by
 refine ⟨by have:=h.1;rwa [QI] at this,fun hv=>?_⟩
 obtain ⟨h0,h1,h2,h3,h4,cs,ty,fr,hh,h5,h6,h7⟩:=h.2 hv
 refine ⟨h0,h1,h2,h3,fun i hi=>?_,cs,ty,fr,hh,h5,h6,fun i hi j hj=>?_⟩
 ·have:=h4 i (by rw [QI];exact hi)
  rwa [Wi τ _ i hi,adg,QI] at this
 ·have hi':i < (K3 τ ys).length:=by rw [QI];exact hi
  have e0:(K3 τ ys)[i].cells = K3 τ ys[i].cells:=by rw [Wi τ _ i hi,adg]
  have hj':j < (K3 τ ys)[i].cells.length:=by rw [e0,QI];exact hj
  obtain ⟨v,e1,e2,e3⟩:=h7 i hi' j hj'
  refine ⟨v,e1,e2,?_⟩
  have e4:(K3 τ ys)[i].cells[j] = (ys[i].cells[j]).ren τ:=by
   simp only [e0]
   exact Wi τ _ j hj _
  rw [e4] at e3
  exact Rep.back hτ _ _ _ (zl _) (ahg (at7 (ahg hl i hi)) j hj) e3
theorem abc.weak {w:World} {Z:Nat→Nat→Prop} {μ μ':Nat→Option Cn} {τ:Nat→Nat} {n:Nat} (hτ:∀ a,a < n→μ' a = μ (τ a)) {c:Cn} {x y:Ob} (h:abc w Z μ c x) (hw:x.weak τ n y):abc w Z μ' c y:=by
 induction y generalizing x with
 | dead=>trivial
 | typ T y ih =>
   cases x with
   | typ T' x =>
     obtain ⟨rfl,hw⟩:T' = T∧x.weak τ n y:=hw
     exact ⟨ih h.1 hw,h.2.1,fun hl=>h.2.2 (afA hw hl)⟩
   | _=>exact False.elim hw
 | box wr' es =>
   cases x<;>try exact False.elim hw
   rename_i wr cells
   replace hw:(wr' = true→wr = true)∧cells = K3 τ es∧ltL n es:=hw
   obtain ⟨h1,rfl,h2⟩:=hw
   obtain ⟨hv,⟨cs,ty,hh,hs,hr⟩,hz⟩:=h
   refine ⟨hv,⟨cs,ty,hh,by rw [QI] at hs;exact hs,fun j hj hj'=>?_⟩,fun e=>hz (h1 e)⟩
   have:=hr j (by rw [QI];exact hj) hj'
   rw [Wi τ es j hj] at this
   exact ⟨Rep.back hτ _ _ _ (zl _) (ahg h2 j hj) this.1,this.2⟩
 | buf wr' s' ys =>
   cases x<;>try exact False.elim hw
   ·rename_i wr s xs
    replace hw:(wr' = true→wr = true)∧s = s'∧xs = ys:=hw
    obtain ⟨h1,rfl,rfl⟩:=hw
    exact BOk.weak h1 h
   ·rename_i wr s xs
    replace hw:(wr' = true→wr = true)∧s = s'∧xs = ys∧qw ys:=hw
    obtain ⟨h1,rfl,rfl,hcl⟩:=hw
    have h:=BOk.close h (afp hcl)
    exact BOk.weak h1 h
 | obuf wr' s' ys =>
   cases x<;>try exact False.elim hw
   ·rename_i wr s xs
    replace hw:(wr' = true→wr = true)∧s = s'∧xs = ys:=hw
    obtain ⟨h1,rfl,rfl⟩:=hw
    have h:=BOk.lift (μ:=μ') h
    exact BOk.weak h1 h
   ·rename_i wr s xs
    replace hw:(wr' = true→wr = true)∧s = s'∧xs = K3 τ ys∧ltL n ys:=hw
    obtain ⟨h1,rfl,rfl,h2⟩:=hw
    have h:=BOk.back hτ h h2
    exact BOk.weak h1 h
 | map ks' vs' c0' =>
   cases x<;>try exact False.elim hw
   rename_i ks vs c0
   obtain ⟨rfl,rfl,rfl,h2⟩:ks = ks'∧c0 = c0'∧vs = K3 τ vs'∧ltL n vs':=hw
   obtain ⟨h1,es,h3,h4,h5⟩:=h
   rw [QI] at h1
   refine ⟨h1,es,h3,h4,fun i hi hk hv=>?_⟩
   obtain ⟨b1,b2,b3⟩:=h5 i hi hk (by rw [QI];exact hv)
   rw [Wi τ _ i hv] at b3
   exact ⟨b1,b2,Rep.back hτ _ _ _ (zl _) (ahg h2 i hv) b3⟩
 | iter a' since' seen' last' =>
   cases x<;>try exact False.elim hw
   rename_i a since seen last
   obtain ⟨rfl,h2,rfl,rfl,rfl⟩:a = τ a'∧a' < n∧since = since'∧seen = seen'∧last = last':=hw
   obtain ⟨d,h3,h4⟩:=h
   exact ⟨d,(hτ _ h2).trans h3,h4⟩
structure arU (m:Nat) (τ:Nat→Nat) (s s1:St):Prop where
 t:∀ i,s1.t i = .top∨(s.t i = (s1.t i).ren τ∧(s1.t i).lt s1.n)
 o:∀ a y,s1.o a = some y→a < s1.n∧∃ x,s.o (τ a) = some x∧x.weak τ s1.n y
 inj:∀ a b,s1.o a≠none→s1.o b≠none→τ a = τ b→a = b
 fix:∀ k,k < m→τ k = k
 le:m≤s1.n
theorem Sim.weak {C:Ctx} {nt n:Nat} {s s1:St} {a:Act} {w:World} {τ:Nat→Nat} (h:Sim C nt n s a w) (hw:arU C.m τ s s1):Sim C nt s1.n s1 a w:=by
 obtain ⟨Z,μ,hg,ht,hf,hm,hd,hn⟩:=h
 let μ':Nat→Option Cn:=fun x=>if x < s1.n then μ (τ x) else none
 have hτ:∀ x,x < s1.n→μ' x = μ (τ x):=fun x hx=>if_pos hx
 have hle:=hw.le
 refine ⟨Z,μ',⟨fun x y hy=>?_,fun x y u v c d hxy hu hv hc hd hl hl'=>?_,hg.zlt,hg.grow,hg.frame,hg.zsub,hg.zsup,hg.zkeep,fun k hk=>?_,hg.oo⟩,fun i=>?_,fun x hx=>if_neg (by omega),hle,hd,hn⟩
 ·obtain ⟨h1,u,h2,h3⟩:=hw.o x y hy
  obtain ⟨c,hm1,hok,hl⟩:=hg.ob _ _ h2
  exact ⟨c,(hτ x h1).trans hm1,hok.weak hτ h3,fun hly=>hl (afA h3 hly)⟩
 ·obtain ⟨h1,u',h2,h3⟩:=hw.o x u hu
  obtain ⟨h1',v',h2',h3'⟩:=hw.o y v hv
  rw [hτ x h1] at hc
  rw [hτ y h1'] at hd
  exact hg.sep (τ x) (τ y) u' v' c d (fun e=>hxy (hw.inj x y (by simp [hu]) (by simp [hv]) e)) h2 h2' hc hd (afA h3 hl) (afA h3' hl')
 ·rw [hτ k (by omega),hw.fix k hk];exact hg.fix k hk
 ·rcases hw.t i with h|⟨h1,h2⟩
  ·rw [h];exact .top
  ·have:=ht i
   rw [h1] at this
   exact Rep.back hτ _ _ _ (zl _) h2 this
def xb:List (Nat×V)→Nat→V
 | [],_=>.top
 | (k,v) :: r,i=>if i = k then v else xb r i
def afU:List (Nat×Ob)→Nat→Option Ob
 | [],_=>none
 | (k,v) :: r,i=>if i = k then some v else afU r i
def Qi:List (Nat×Nat)→Nat→Nat
 | [],i=>i
 | (k,v) :: r,i=>if i = k then v else Qi r i
def Y1 (ts:List (Nat×V)) (os:List (Nat×Ob)) (n:Nat):St:={ t:=xb ts,o:=afU os,n }
theorem afS:∀ (ts:List (Nat×V)) (i:Nat),xb ts i = .top∨(i,xb ts i)∈ts
 | [],i=>.inl rfl
 | (k,v) :: r,i=>by
  simp only [xb]
  split
  ·rename_i h;subst h;exact .inr (by simp)
  ·rcases afS r i with h|h
   ·exact .inl h
   ·exact .inr (by simp [h])
theorem afT:∀ (os:List (Nat×Ob)) (i:Nat) (x:Ob),afU os i = some x→(i,x)∈os
 | [],i,x,h=>by cases h
 | (k,v) :: r,i,x,h=>by
  simp only [afU] at h
  split at h
  ·rename_i e;subst e;cases h;simp
  ·simp [afT r i x h]
theorem abq {α β:Type} {f:α→β}:∀ {l:List α},(l.map f).Nodup→∀ {x y:α},x∈l→y∈l→f x = f y→x = y
 | [],_,x,y,hx,_,_=>by cases hx
 | c :: l,h,x,y,hx,hy,he=>by
   simp only [zI,ZE] at h
   rcases zy.1 hx with rfl|hx'
   ·rcases zy.1 hy with rfl|hy'
    ·rfl
    ·exact (h.1 (he ▸ List.mem_map_of_mem hy')).elim
   ·rcases zy.1 hy with rfl|hy'
    ·exact (h.1 (he ▸ List.mem_map_of_mem hx')).elim
    ·exact abq h.2 hx' hy' he
theorem aw7 {m n:Nat} {s:St} (tau:List (Nat×Nat)) {ts:List (Nat×V)} {os:List (Nat×Ob)}
  (ht:∀ p∈ts,s.t p.1 = p.2.ren (Qi tau)∧p.2.lt n)
  (ho:∀ p∈os,p.1 < n∧∃ x,s.o (Qi tau p.1) = some x∧x.weak (Qi tau) n p.2)
  (hn:(os.map fun p=>Qi tau p.1).Nodup) (hf:∀ p∈tau,m≤p.1) (hm:m≤n):arU m (Qi tau) s (Y1 ts os n):=by
 have keep:∀ (l:List (Nat×Nat)),(∀ p∈l,m≤p.1)→∀ k,k < m→Qi l k = k:=by
  intro l
  induction l with
  | nil=>intro _ k _;rfl
  | cons p l ih =>
    intro hl k hk
    have:=hl p (by simp)
    simp only [Qi]
    rw [if_neg (by omega)]
    exact ih (fun q hq=>hl q (by simp [hq])) k hk
 refine ⟨fun i=>?_,fun a y h=>ho _ (afT os a y h),fun a b ha hb hab=>?_,keep tau hf,hm⟩
 ·rcases afS ts i with h|h
  ·exact .inl h
  ·exact .inr (ht _ h)
 ·simp only [Y1] at ha hb
  obtain ⟨x,hx⟩:=Zy.1 ha
  obtain ⟨y,hy⟩:=Zy.1 hb
  have:=abq (f:=fun p:Nat×Ob=>Qi tau p.1) hn (afT os a x hx) (afT os b y hy) hab
  simpa using congrArg Prod.fst this
section
variable {C:Ctx} {nt:Nat} {s:St} {K:St→Prop} {E:Nat→St→Prop} {R:St→Prop}
theorem anl {c:AC} {s1:St} {τ:Nat→Nat} (hw:arU C.m τ s s1) (h:AWp C nt c s1 K E R):AWp C nt c s K E R :=
 fun code hc a w hs=>h code hc a w (hs.weak hw)
theorem auV {x:AC} {ι:Type} (good:ι→Prop) (inv:ι→St) (msr:ι→Nat) (h0:∃ i τ,good i∧arU C.m τ s (inv i))
  (h:∀ i,good i→AWp C nt x (inv i) (fun s'=>∃ i' τ,good i'∧msr i' < msr i∧arU C.m τ s' (inv i')) E R):AWp C nt (.loop x) s K E R:=by
 obtain ⟨i0,τ,hg,hw⟩:=h0
 refine anl hw (arN (fun k s'=>∃ i,good i∧msr i = k∧s' = inv i) ⟨msr i0,i0,hg,rfl,rfl⟩ ?_)
 rintro k s' ⟨i,hi,rfl,rfl⟩
 exact fun code hc a w hs=>wp_mono (h i hi code hc a w hs) fun e a' w' hq=>by
  cases e with
  | normal=>obtain ⟨s',⟨i',τ',h1,h2,h3⟩,h4⟩:=hq;exact ⟨inv i',⟨msr i',h2,i',h1,rfl,rfl⟩,h4.weak h3⟩
  | exit i=>exact hq
  | ret=>exact hq
  | _=>exact hq.elim
end
end Av
end
section
namespace Av
open Go
def avo (o:Nat→Option Ob) (br:List Nat) (B:Option (List Nat)):Ob→Ob→Prop
 | _,.dead=>True
 | .box wr cs,.box wr' es=>(wr' = true→wr = true)∧Jn o br B cs es
 | .buf wr s xs,.buf wr' s' ys=>(wr' = true→wr = true)∧s = s'∧xs = ys
 | .obuf wr s xs,.obuf wr' s' ys=>(wr' = true→wr = true)∧s = s'∧akD o br B xs ys
 | .buf wr s xs,.obuf wr' s' ys=>(wr' = true→wr = true)∧s = s'∧xs = ys
 | .obuf wr s xs,.buf wr' s' ys=>(wr' = true→wr = true)∧s = s'∧akD o br B xs ys∧qw ys
 | .typ T x,.typ T' y=>T = T'∧avo o br B x y
 | .map ks vs c0,.map ks' vs' c0'=>ks = ks'∧c0 = c0'∧Jn o br B vs vs'
 | _,_=>False
def axj (o:Nat→Option Ob) (br:List Nat) (B:Option (List Nat)):List Nat→List Ob→Prop
 | [],[]=>True
 | a :: r,y :: r'=>(∃ x,o a = some x∧avo o br B x y)∧axj o br B r r'
 | _,_=>False
theorem aqT {o:Nat→Option Ob} {br:List Nat} {B:Option (List Nat)}:∀ {l:List Nat} {outs:List Ob},axj o br B l outs→l.length = outs.length∧∀ (k:Nat) (y:Ob),outs[k]? = some y→∃ a x,l[k]? = some a∧o a = some x∧avo o br B x y
 | [],[],_=>⟨rfl,fun k y h=>by simp at h⟩
 | [],_ :: _,h=>h.elim
 | _ :: _,[],h=>h.elim
 | a :: r,y :: r',h=>by
   obtain ⟨⟨x,h1,h1'⟩,h2⟩:=h
   obtain ⟨l1,l2⟩:=aqT h2
   refine ⟨by simp [l1],fun k y' hy=>?_⟩
   cases k with
   | zero=>simp at hy;subst hy;exact ⟨a,x,rfl,h1,h1'⟩
   | succ k=>simpa using l2 k y' (by simpa using hy)
theorem afJ {o:Nat→Option Ob} {br:List Nat} {B:Option (List Nat)} {c:Cn} {x y:Ob} (h:avo o br B x y) (hl:y.live c):x.live c:=by
 induction y generalizing x with
 | dead=>exact hl.elim
 | typ T y ih=>cases x with|typ T1 x1=>exact ih (x:=x1) h.2 hl|_=>exact False.elim h
 | _=>cases x<;>first|exact False.elim h|trivial|exact hl
section
variable {C:Ctx} {w:World} {Z:Nat→Nat→Prop} {μ:Nat→Option Cn} {o:Nat→Option Ob}
theorem Good.close (hg:Good C w Z μ o) {br:List Nat} {B:Option (List Nat)} {outs:List Ob} (hn:br.Nodup) (hl:axj o br B br outs) (hf:br.take C.m = List.range C.m) :
  Good C w (Zc Z o μ br B) (βc μ br) (fun k=>outs[k]?)∧(∀ k,outs.length≤k→βc μ br k = none)∧C.m≤outs.length:=by
 obtain ⟨hlen,hget⟩:=aqT hl
 have hm:C.m≤br.length:=by
  have:=congrArg List.length hf
  simp at this;omega
 have kth:∀ k y,outs[k]? = some y→∃ a x c,br[k]? = some a∧o a = some x∧μ a = some c∧βc μ br k = some c∧avo o br B x y∧abc w Z μ c x∧(x.live c→c.block < w.heap.size∧(C.w0.heap.size≤c.block∨C.F c.block)):=by
  intro k y hy
  obtain ⟨a,x,h1,h2,h3⟩:=hget k y hy
  obtain ⟨c,hm,hok,hlv⟩:=hg.ob _ _ h2
  obtain ⟨hk,he⟩:=zh.1 h1
  exact ⟨a,x,c,h1,h2,hm,by simp [βc,hk,he,hm],h3,hok,hlv⟩
 have noZ:∀ a x c,a∈br→o a = some x→μ a = some c→x.live c→∀ i,Zc Z o μ br B c.block i→Z c.block i:=by
  intro a x c ha hx hm hlv i h
  rcases h with h|⟨a',x',c',_,hnb,hx',hm',hlv',hb',_⟩
  ·exact h
  ·exact (hg.sep a a' x x' c c' (fun e=>hnb (e ▸ ha)) hx hx' hm hm' hlv hlv' hb'.symm).elim
 have open':∀ (wr wr':Bool) (s:Nat) (xs ys:List V) {c:Cn},(wr' = true→wr = true)→akD o br B xs ys→BOk w Z μ c wr s xs→(c.void = false→∀ i,Zc Z o μ br B c.block i→Z c.block i)→BOk w (Zc Z o μ br B) (βc μ br) c wr' s ys:=by
  intro wr wr' s xs ys c hw hc hok nz
  obtain ⟨hlc,hce⟩:=akC hc
  refine ⟨by have:=hok.1;omega,fun hv=>?_⟩
  obtain ⟨h0,h1,h2,h3,h4,cs,ty,fr,h5,h6,h7,h8⟩:=hok.2 hv
  have hcc:∀ i (hi:i < ys.length),ys[i].cells.length = s:=fun i hi=>by
   rw [← YT (hce i (by omega) hi)];exact h4 i (by omega)
  refine ⟨h0,⟨h1.1,fun e=>h1.2 (hw e)⟩,fun e i h=>h2 (hw e) i (nz hv i h),fun i h=>h3 i (nz hv i h),hcc,cs,ty,fr,h5,h6,fun o ho=>h7 o (ho.imp id hw),fun i hi j hj=>?_⟩
  have h4i:=h4 i (by omega)
  have hci:=hcc i hi
  obtain ⟨u,e1,e2,e3⟩:=h8 i (by omega) j (by omega)
  exact ⟨u,e1,e2,Kx hg br B _ _ _ _ (zl _) e3 (Vy (hce i (by omega) hi) j (by omega) hj)⟩
 refine ⟨⟨fun k y hy=>?_,fun k k' y y' c c' hkk hy hy' hc hc' hlv hlv'=>?_,fun b i h=>?_,hg.grow,hg.frame,fun b i h=>?_,fun b i h=>.inl (hg.zsup b i h),hg.zkeep,fun k hk=>?_,hg.oo⟩,fun k hk=>?_,by omega⟩
 ·obtain ⟨a,x,c,ha,hx,hm,hβ,hc,hok,hlv⟩:=kth k y hy
  refine ⟨c,hβ,?_,fun hly=>hlv (afJ hc hly)⟩
  have ha':=zm ha
  have hnz:x.live c→∀ i,Zc Z o μ br B c.block i→Z c.block i:=fun hl=>noZ a _ c ha' hx hm hl
  clear hx hlv hy
  induction y generalizing x with
  | dead=>trivial
  | typ T y ih =>
    cases x with
    | typ T' x =>
      obtain ⟨rfl,hc⟩:T' = T∧avo o br B x y:=hc
      exact ⟨ih x hc hok.1 hnz,hok.2.1,fun hl=>hok.2.2 (afJ hc hl)⟩
    | _=>exact False.elim hc
  | box wr' es =>
    cases x<;>try exact False.elim hc
    rename_i wr cs
    replace hc:(wr' = true→wr = true)∧Jn o br B cs es:=hc
    obtain ⟨hw,hc⟩:=hc
    obtain ⟨hvo,⟨vs,ty,hb,hs,hr⟩,hz⟩:=hok
    have hlc:=YT hc
    exact ⟨hvo,⟨vs,ty,hb,by omega,fun j h h'=>⟨Kx hg br B _ _ _ _ (zl _) (hr j (by omega) h').1 (Vy hc j (by omega) h),(hr j (by omega) h').2⟩⟩,
     fun e i h=>hz (hw e) i (hnz trivial i h)⟩
  | buf wr' s' ys =>
    cases x<;>try exact False.elim hc
    ·rename_i wr s xs
     replace hc:(wr' = true→wr = true)∧s = s'∧xs = ys:=hc
     obtain ⟨hw,rfl,rfl⟩:=hc
     refine ⟨hok.1,fun hv=>?_⟩
     obtain ⟨h0,h1,h2,h3,h4,cs,ty,fr,h5,h6,h7,h8⟩:=hok.2 hv
     have nz:=hnz hv
     refine ⟨h0,⟨h1.1,fun e=>h1.2 (hw e)⟩,fun e i h=>h2 (hw e) i (nz i h),fun i h=>h3 i (nz i h),h4,cs,ty,fr,h5,h6,fun o ho=>h7 o (ho.imp id hw),fun i hi j hj=>?_⟩
     obtain ⟨u,e1,e2,e3⟩:=h8 i hi j hj
     exact ⟨u,e1,e2,e3.mono (fun _ _ _=>rfl) (fun _ _ h=>.inl h) (fun _ _ h=>h)⟩
    ·rename_i wr s xs
     replace hc:(wr' = true→wr = true)∧s = s'∧akD o br B xs ys∧qw ys:=hc
     obtain ⟨hw,rfl,hc,hcl⟩:=hc
     exact BOk.close (open' wr wr' s xs ys hw hc hok (fun hv=>hnz hv)) (afp hcl)
  | obuf wr' s' ys =>
    cases x<;>try exact False.elim hc
    ·rename_i wr s xs
     replace hc:(wr' = true→wr = true)∧s = s'∧xs = ys:=hc
     obtain ⟨hw,rfl,rfl⟩:=hc
     have hok:=BOk.lift (μ:=βc μ br) hok
     refine ⟨hok.1,fun hv=>?_⟩
     obtain ⟨h0,h1,h2,h3,h4,cs,ty,fr,h5,h6,h7,h8⟩:=hok.2 hv
     have nz:=hnz hv
     refine ⟨h0,⟨h1.1,fun e=>h1.2 (hw e)⟩,fun e i h=>h2 (hw e) i (nz i h),fun i h=>h3 i (nz i h),h4,cs,ty,fr,h5,h6,fun o ho=>h7 o (ho.imp id hw),fun i hi j hj=>?_⟩
     obtain ⟨u,e1,e2,e3⟩:=h8 i hi j hj
     exact ⟨u,e1,e2,e3.mono (fun _ _ _=>rfl) (fun _ _ h=>.inl h) (fun _ _ h=>h)⟩
    ·rename_i wr s xs
     replace hc:(wr' = true→wr = true)∧s = s'∧akD o br B xs ys:=hc
     obtain ⟨hw,rfl,hc⟩:=hc
     exact open' wr wr' s xs ys hw hc hok (fun hv=>hnz hv)
  | map ks' vs' c0' =>
    cases x<;>try exact False.elim hc
    rename_i ks vs c0
    obtain ⟨rfl,rfl,hc⟩:ks = ks'∧c0 = c0'∧Jn o br B vs vs':=hc
    obtain ⟨h1,es,h3,h4,h5⟩:=hok
    have hlc:=YT hc
    refine ⟨by omega,es,h3,h4,fun i hi hk hv=>?_⟩
    obtain ⟨b1,b2,b3⟩:=h5 i hi hk (by omega)
    exact ⟨b1,b2.mono (fun _ _ _=>rfl) (fun _ _ h=>.inl h) (fun _ _ h=>h),Kx hg br B _ _ _ _ (zl _) b3 (Vy hc i (by omega) hv)⟩
  | iter a since seen last=>cases x<;>exact False.elim hc
 ·obtain ⟨a,x,c1,ha,hx,hm,hβ,hcv,_,_⟩:=kth k y hy
  obtain ⟨a',x',c1',ha',hx',hm',hβ',hcv',_,_⟩:=kth k' y' hy'
  have e1:=hβ.symm.trans hc
  have e2:=hβ'.symm.trans hc'
  cases e1;cases e2
  exact hg.sep a a' x x' c c' (fun e=>hkk (nodup_getElem? hn ha (e ▸ ha'))) hx hx' hm hm' (afJ hcv hlv) (afJ hcv' hlv')
 ·rcases h with h|⟨a,x,c,_,_,hx,hm,hlv,rfl,_⟩
  ·exact hg.zlt b i h
  ·obtain ⟨c',hm',_,hl'⟩:=hg.ob a x hx
   rw [hm] at hm';cases hm'
   exact (hl' hlv).1
 ·rcases h with h|⟨a,x,c,_,_,hx,hm,hlv,rfl,_⟩
  ·exact hg.zsub b i h
  ·obtain ⟨c',hm',_,hl'⟩:=hg.ob a x hx
   rw [hm] at hm';cases hm'
   exact .inr (hl' hlv).2
 ·have hkb:br[k]? = some k:=by
   have:(br.take C.m)[k]? = some k:=by rw [hf];simp [hk]
   rw [bd] at this
   simpa [hk] using this
  simp only [βc,hkb,Option.bind_some]
  exact hg.fix k hk
 ·simp [βc,zU (show br.length≤k by omega)]
end
structure Cl (m:Nat) (s s1:St):Prop where
 h:∃ br B outs,(∀ i,conv s.o br B (s.t i) (s1.t i))∧s1.o = (fun k=>outs[k]?)∧s1.n = outs.length∧axj s.o br B br outs∧br.Nodup∧br.take m = List.range m
theorem Sim.close {C:Ctx} {nt n:Nat} {s s1:St} {a:Act} {w:World} (h:Sim C nt n s a w) (hc:Cl C.m s s1):Sim C nt s1.n s1 a w:=by
 obtain ⟨br,B,outs,h1,h2,h3,h4,h5,h6⟩:=hc.h
 obtain ⟨Z,μ,hg,ht,hf,hm,hd,hn⟩:=h
 obtain ⟨e1,e2,e3⟩:=hg.close h5 h4 h6
 refine ⟨_,_,h2 ▸ e1,fun i=>Kx hg br B _ _ _ _ (zl _) (ht i) (h1 i),fun x hx=>e2 x (by omega),by omega,hd,hn⟩
section
variable {C:Ctx} {nt:Nat} {s:St} {K:St→Prop} {E:Nat→St→Prop} {R:St→Prop}
end
end Av
end
section
namespace Av
open Go
inductive Q0 where
 | tmp (t:Nat)
 | cell (a:Nat) (agg:Bool) (sz:Nat)
def awi (P:Program):ResultVar→Option Q0
 | .tmp t=>some (.tmp t)
 | .cell a t=>match acn P t,Yz P t with|some g,some s=>some (.cell a g s)|_,_=>none
def ao3 (P:Program):List ResultVar→Option (List Q0)
 | []=>some []
 | r :: rs=>match awi P r,ao3 P rs with|some a,some b=>some (a :: b)|_,_=>none
def Q0.val (s:St):Q0→AM V
 | .tmp t=>.ret (s.t t)
 | .cell a g sz=>.cellsAt (s.t a) fun cells off =>
    if g then .asrt (off + sz≤cells.length) (.ret (.agg ((cells.drop off).take sz))) else match cells[off]? with|some v=>.ret v|none=>.no
def apd (s:St):List Q0→(List V→Prop)→Prop
 | [],K=>K []
 | r :: rs,K=>(r.val s).wp s.o fun v=>apd s rs fun vs=>K (v :: vs)
def afy:List V→V
 | [v]=>v
 | vs=>.tup vs
def acw (m:Nat) (rs:List Q0) (res:V) (outs:List Ob) (s:St):Prop :=
 apd s rs fun vs=>∃ br B,conv s.o br B (afy vs) res∧axj s.o br B br outs∧br.Nodup∧br.take m = List.range m
def Wf (args:List V) (ins:List Ob):St:={ t:=fun i=>(args[i]?).getD .top,o:=fun k=>ins[k]?,n:=ins.length }
def ayt (a:Act):ResultVar→Sem Value
 | .tmp t=>pure (a.tmps.getD t undef)
 | .cell b t=>do loadVar t (← asAddr (a.tmps.getD b undef))
section
variable {C:Ctx} {w:World} {Z:Nat→Nat→Prop} {μ:Nat→Option Cn}
theorem axk {a:Act} {s:St} (hg:Good C w Z μ s.o) (ht:∀ i,Rep w Z μ (a.tmps.getD i undef) (s.t i)) {r:ResultVar} {x:Q0} (hx:awi C.P r = some x) {K:V→Prop} (h:(x.val s).wp s.o K) :
  ∃ v y,((ayt a r).run C.P w) = .ok v w∧Rep w Z μ v y∧K y:=by
 cases r with
 | tmp t =>
   simp only [awi,zf] at hx;subst hx
   exact ⟨_,_,rfl,ht t,h⟩
 | cell b t =>
   simp only [awi] at hx
   split at hx
   ·rename_i ag sz h1 h2
    simp only [zf] at hx;subst hx
    obtain ⟨cells,off,bb,oo,f,hv,h,hc⟩:=akJ hg (ht b) h
    cases ag with
    | true =>
      simp only [if_true] at h
      obtain ⟨hb,hk⟩:=h
      refine ⟨.agg ((List.range sz).map fun j=>f (off + j)).toArray,_,?_,?_,hk⟩
      ·have:=x8 h1 h2 w bb (oo + off) (fun j=>f (off + j)) (fun j hj=>by
        simp only [if_true] at hj
        rw [kK];exact (hc (off + j) (by omega)).1)
       simpa [ayt,hv,asAddr] using this
      ·refine .agg (by simp;omega) (fun j hj=>?_) (fun j hj hj'=>?_)
       ·simp at hj;simp;exact (hc (off + j) (by omega)).2.1
       ·simp at hj hj';simp;exact (hc (off + j) (by omega)).2.2
    | false =>
      simp only [zw,if_false] at h
      split at h
      ·rename_i u hu
       obtain ⟨ho,rfl⟩:=zh.1 hu
       refine ⟨f off,_,?_,(hc off ho).2.2,h⟩
       have:=x8 h1 h2 w bb (oo + off) (fun j=>f (off + j)) (fun j hj=>by
        simp at hj;subst hj;exact (hc off ho).1)
       simpa [ayt,hv,asAddr] using this
      ·exact h.elim
   ·cases hx
theorem aqU {a:Act} {s:St} (hg:Good C w Z μ s.o) (ht:∀ i,Rep w Z μ (a.tmps.getD i undef) (s.t i)):∀ {rs:List ResultVar} {xs:List Q0},ao3 C.P rs = some xs→∀ {K:List V→Prop},apd s xs K →
  ∃ vs ys,(rs.mapM (ayt a)).run C.P w = .ok vs w∧vs.length = ys.length∧(∀ j (h:j < ys.length) (h':j < vs.length),Rep w Z μ vs[j] ys[j])∧K ys
 | [],xs,hx,K,h=>by
   simp only [ao3,zf] at hx;subst hx
   exact ⟨[],[],rfl,rfl,fun j h=>by simp at h,h⟩
 | r :: rs,xs,hx,K,h=>by
   simp only [ao3] at hx
   split at hx
   ·rename_i x xs' h1 h2
    simp only [zf] at hx;subst hx
    obtain ⟨v,y,e1,e2,e3⟩:=axk hg ht h1 h
    obtain ⟨vs,ys,f1,f2,f3,f4⟩:=aqU hg ht h2 e3
    refine ⟨v :: vs,y :: ys,?_,by simp [f2],fun j hj hj'=>?_,f4⟩
    ·rw [List.mapM_cons]
     simp only [Sem.run_bind,e1,Result.andThen,f1]
     rfl
    ·cases j with
     | zero=>exact e2
     | succ j=>simpa using f3 j (by simpa using hj) (by simpa using hj')
   ·cases hx
end
structure Has (P:Program) (f:FuncId) (nt:Nat) (ac:AC) (rs:List Q0):Prop where
 has:∃ fn code,P.funcs[f]? = some fn∧fn.name≠"runtime.NumGoroutine"∧fn.body = some code∧fn.ntmps = nt∧ade P nt code = some ac∧ao3 P fn.results.toList = some rs
theorem Has.own {P:Program} {f:FuncId} {nt:Nat} {ac:AC} {rs:List Q0} (h:Has P f nt ac rs):Own P f:=by
 obtain ⟨fn,code,h1,h2,h3,_⟩:=h.has
 exact ⟨fn,h1,h2,code,h3⟩
def aye (m:Nat) (rs:List Q0) (Q:V→List Ob→Prop) (s:St):Prop:=∃ res outs,Q res outs∧acw m rs res outs s
theorem aqm {Γ:Env} {f:FuncId} {nt:Nat} {ac:AC} {rs:List Q0} (hb:Has Γ.P f nt ac rs) {args:List V} {ins:List Ob} {Q:V→List Ob→Prop} (ha:args.length≤nt)
  (h:∀ C:Ctx,C.env = Γ→C.m = ins.length→AWp C nt ac (Wf args ins) (aye ins.length rs Q) (fun _ _=>False) (aye ins.length rs Q)):EvP Γ f args ins Q:=by
 intro C cargs hP hm hmu hg hF hsz hrep
 have hown:=hb.own
 obtain ⟨fn,code,h1,h2,h3,h4,h5,h6⟩:=hb.has
 subst hP
 rw [XX hown]
 refine calls_of_wp h1 h3 ?_
 have hs:Sim C nt (Wf args ins).n (Wf args ins) { tmps:=cargs++Array.replicate (fn.ntmps - cargs.size) undef,defers:=[] } C.w0:=by
  refine ⟨C.Z0,C.μ0,hg,fun i=>?_,fun x hx=>hmu x hx,by simp [Wf,hm],rfl,by simp;omega⟩
  simp only [Wf]
  rcases kI i args.length with hi|hi
  ·rw [zb hi,Option.getD_some]
   have:=hrep i hi (by omega)
   simpa [Array.getElem?_append,show i < cargs.size by omega] using this
  ·rw [zU hi];exact .top
 refine wp_mono (h C rfl hm code h5 _ _ hs) ?_
 have fin:∀ a' w',(∃ s,aye ins.length rs Q s∧Sim C nt s.n s a' w')→a'.defers = []∧∃ v,(results fn a'.tmps).run C.P w' = .ok v w' ∧
   ∃ res outs,Q res outs∧∃ u Z' μ',Ending.returned v = .returned u∧Rep w' Z' μ' u res∧Good C w' Z' μ' (fun k=>outs[k]?)∧∀ k,outs.length≤k→μ' k = none:=by
  rintro a' w' ⟨s,⟨res,outs,hQ,he⟩,Z,μ,hg',ht,hf,hm',hd,hn⟩
  refine ⟨hd,?_⟩
  obtain ⟨vs,ys,f1,f2,f3,br,B,f4,f6,f7,f8⟩:=aqU hg' ht h6 he
  refine ⟨if h:vs.toArray.size = 1 then vs.toArray[0] else .tuple vs.toArray,?_,?_⟩
  ·have e:results fn a'.tmps = (do let vs ← fn.results.mapM (ayt a');pure (if h:vs.size = 1 then vs[0] else .tuple vs)):=by
    unfold results
    congr 1
   rw [e,← Array.toArray_toList (xs:=fn.results),List.mapM_toArray]
   simp only [Sem.run_bind,Sem.run_map,f1]
   rfl
  ·have hrep':Rep w' Z μ (if h:vs.toArray.size = 1 then vs.toArray[0] else .tuple vs.toArray) (afy ys):=by
    by_cases h:vs.toArray.size = 1
    ·rw [dif_pos h]
     have hl:vs.length = 1:=by simpa using h
     match ys,f2,f3 with
     | [y],_,f3=>simpa [afy] using f3 0 (by simp) (by omega)
     | [],f2,_=>rw [hl] at f2;cases f2
     | _ :: _ :: _,f2,_=>rw [hl] at f2;simp at f2
    ·rw [dif_neg h]
     have hl:vs.length≠1:=by simpa using h
     have:afy ys = .tup ys:=by
      match ys,f2 with
      | [y],f2=>exact (hl f2).elim
      | [],_=>rfl
      | _ :: _ :: _,_=>rfl
     rw [this]
     exact .tup (by simpa using f2) (fun j h h'=>by simpa using f3 j h (by simpa using h'))
   obtain ⟨e1,e2,e3⟩:=hg'.close (C:=C) f7 f6 (by rw [hm];exact f8)
   exact ⟨res,outs,hQ,_,_,_,rfl,Kx hg' br B _ _ _ _ (zl _) hrep' f4,e1,e2⟩
 intro e a' w' hq
 cases e with
 | normal=>exact fin a' w' hq
 | ret=>exact fin a' w' hq
 | exit i=>obtain ⟨s,h,_⟩:=hq;exact h.elim
 | _=>exact hq.elim
theorem XW {Γ:Env} {f:FuncId} {nt:Nat} {ac:AC} {rs:List Q0} (hb:Has Γ.P f nt ac rs) {args:List V} {ins:List Ob} {res:V} {outs:List Ob} (ha:args.length≤nt)
  (h:∀ C:Ctx,C.env = Γ→C.m = ins.length→AWp C nt ac (Wf args ins) (acw ins.length rs res outs) (fun _ _=>False) (acw ins.length rs res outs)):Ev Γ f args ins res outs :=
 (aqm hb ha fun C hC hm=>ano (h C hC hm) (fun s hs=>⟨res,outs,⟨rfl,rfl⟩,hs⟩) (fun _ _ h=>h) (fun s hs=>⟨res,outs,⟨rfl,rfl⟩,hs⟩)).one
end Av
end
section
namespace Av
open Go
mutual
theorem Wh (σ:Nat→Nat):∀ v:V,v.closed→v.ren σ = v
 | .top,_=>rfl
 | .sc _,_=>rfl
 | .nn,_=>rfl
 | .sl _ _,_=>rfl
 | .hd _ _ _,h=>h.elim
 | .ptr _ _,h=>h.elim
 | .ept _ _ _,h=>h.elim
 | .mp _,h=>h.elim
 | .ro _ _,_=>rfl
 | .agg cs,h=>by simp only [V.ren];rw [J7 σ cs h]
 | .tup cs,h=>by simp only [V.ren];rw [J7 σ cs h]
 | .clo f cs,h=>by simp only [V.ren];rw [J7 σ cs h]
theorem J7 (σ:Nat→Nat):∀ cs:List V,Qh cs→K3 σ cs = cs
 | [],_=>rfl
 | v :: r,h=>by simp only [K3];rw [Wh σ v h.1,J7 σ r h.2]
end
mutual
theorem auM (n:Nat):∀ v:V,v.closed→v.lt n
 | .top,_=>trivial
 | .sc _,_=>trivial
 | .nn,_=>trivial
 | .sl _ _,_=>trivial
 | .hd _ _ _,h=>h.elim
 | .ptr _ _,h=>h.elim
 | .ept _ _ _,h=>h.elim
 | .mp _,h=>h.elim
 | .ro _ _,_=>trivial
 | .agg cs,h=>WD n cs h
 | .tup cs,h=>WD n cs h
 | .clo f cs,h=>WD n cs h
theorem WD (n:Nat):∀ cs:List V,Qh cs→ltL n cs
 | [],_=>trivial
 | v :: r,h=>⟨auM n v h.1,WD n r h.2⟩
end
mutual
theorem aqs (o:Nat→Option Ob) (br:List Nat) (B:Option (List Nat)):∀ v:V,v.closed→conv o br B v v
 | .top,_=>by simp [conv]
 | .sc _,_=>by simp [conv]
 | .nn,_=>by simp [conv]
 | .sl _ _,_=>by simp [conv]
 | .hd _ _ _,h=>h.elim
 | .ptr _ _,h=>h.elim
 | .ept _ _ _,h=>h.elim
 | .mp _,h=>h.elim
 | .ro _ _,_=>by simp [conv]
 | .agg cs,h=>by simp only [conv];exact Yq o br B cs h
 | .tup cs,h=>by simp only [conv];exact Yq o br B cs h
 | .clo _ cs,h=>by simp only [conv];exact ⟨trivial,Yq o br B cs h⟩
theorem Yq (o:Nat→Option Ob) (br:List Nat) (B:Option (List Nat)):∀ cs:List V,Qh cs→Jn o br B cs cs
 | [],_=>trivial
 | v :: r,h=>⟨aqs o br B v h.1,Yq o br B r h.2⟩
end
theorem asY {s:St}:∀ (rs:List Q0) (K K':List V→Prop),(∀ vs,K vs→K' vs)→apd s rs K→apd s rs K':=by
 intro rs
 induction rs with
 | nil=>intro K K' hk h;exact hk _ h
 | cons r rs ih =>
   intro K K' hk h
   have wpm:∀ {α:Type} (m:AM α) (Q Q':α→Prop),(∀ x,Q x→Q' x)→m.wp s.o Q→m.wp s.o Q':=by
    intro α m
    induction m with
    | no=>intro _ _ _ h;exact h
    | ret x=>intro _ _ hq h;exact hq _ h
    | asrt p m ih=>intro _ _ hq h;exact ⟨h.1,ih _ _ hq h.2⟩
    | rd a k ih=>intro _ _ hq h;obtain ⟨ob,h1,h2⟩:=h;exact ⟨ob,h1,ih _ _ _ hq h2⟩
    | any k ih=>intro _ _ hq h b;exact ih b _ _ hq (h b)
    | anyN l k ih=>intro _ _ hq h;exact ⟨h.1,fun i hi=>ih i _ _ hq (h.2 i hi)⟩
   exact wpm _ _ _ (fun v hv=>ih _ _ (fun vs hvs=>hk _ hvs) hv) h
theorem asD {rs:List Q0} {res:V} {s:St} (h:apd s rs fun vs=>conv s.o [] none (afy vs) res):acw 0 rs res [] s :=
 asY rs _ _ (fun _ hvs=>⟨[],none,hvs,trivial,kz,rfl⟩) h
theorem asT {Γ:Env} {b:Nat} {s:St} {d:Option Nat} {f:FuncId} {acts args:List V} {res:V} {K:St→Prop} (h:Ev Γ f args [] res []) (hc:Jn s.o [] none acts args) (hr:res.closed) (hn:res.noSl)
  (hk:K { t:=(s.put d res).t,o:=s.o,n:=s.n }):aeT Γ b s d f acts K:=by
 refine J5 ⟨args,[],res,[],[],none,h,hc,trivial,kz,fun x hx=>by simp at hx,zl _,by simp [KK],fun _=>⟨hn,fun x hx=>by simp at hx⟩,?_⟩
 rw [Wh _ _ hr]
 exact hk
theorem asS {Γ:Env} {b:Nat} {s:St} {d:Option Nat} {f:FuncId} {acts args:List V} {res:V} {K:St→Prop} (l:List Nat) (h:Ev Γ f args [] res []) (hc:Jn s.o [] (some l) acts args) (hr:res.closed)
  (hk:K { t:=(s.put d res).t,o:=xO (some l) [] s.o,n:=s.n }):aeT Γ b s d f acts K:=by
 refine J5 ⟨args,[],res,[],[],some l,h,hc,trivial,kz,fun x hx=>by simp at hx,zl _,by simp [KK],fun h=>by simp at h,?_⟩
 rw [Wh _ _ hr]
 exact hk
end Av
end
section
namespace Av
open Go
theorem aw1 {Γ:Env} {f:FuncId} {cv:List Value} {res:Value} {rv:V} (hr:∀ w Z μ,Rep w Z μ res rv)
  (h:∀ w,(∀ b x,Γ.kn b = some x→w.heap[b]? = some x)→V2 Γ.P f cv.toArray w fun e w'=>e = .returned res∧w.heap.size≤w'.heap.size∧(∀ b,b < w.heap.size→w'.heap[b]? = w.heap[b]?)∧U7 w w'):Ev Γ f (cv.map .sc) [] rv []:=by
 intro C cargs hP hm hmu hg hF hsz hrep
 subst hP
 have hargs:cargs = cv.toArray:=by
  apply bq
  ·simpa using hsz
  ·intro i h1 h2
   have:=hrep i (by simpa using h2) h1
   simp only [ku] at this
   simpa using this.scE.1
 subst hargs
 have hk:∀ b x,C.env.kn b = some x→C.w0.heap[b]? = some x:=fun b x h=>(C.hkn b x h).1
 have mono:∀ (e:Ending) (w':World),(e = .returned res∧C.w0.heap.size≤w'.heap.size∧(∀ b,b < C.w0.heap.size→w'.heap[b]? = C.w0.heap[b]?)∧U7 C.w0 w')→∃ v Z' μ',e = .returned v∧Rep w' Z' μ' v rv∧Good C w' Z' μ' (fun k=>([]:List Ob)[k]?)∧∀ k,([]:List Ob).length≤k→μ' k = none:=by
  rintro e w' ⟨rfl,hsz,hw,hoo⟩
  refine ⟨res,C.Z0,C.μ0,rfl,hr _ _ _,⟨fun a x h=>by simp at h,fun a b x y c d _ h=>by simp at h,fun b i h=>Zm (hg.zlt b i h) hsz,hsz,fun b hb _=>hw b hb,fun b i h=>.inl h,fun b i h=>h,fun b i h=>by simp [World.cell?,hw b (hg.zlt b i h)],fun k _=>rfl,hoo⟩,fun k hk=>hmu k (by simp)⟩
 have:=h C.w0 hk
 simp only [V2,Ctx.env] at this ⊢
 split at this
 ·exact mono _ _ this
 ·exact Calls.mono this (fun e w' h=>mono e w' h)
 ·exact Rows.mono this (fun v w' h=>mono _ _ h)
 ·exact this.elim
end Av
end
