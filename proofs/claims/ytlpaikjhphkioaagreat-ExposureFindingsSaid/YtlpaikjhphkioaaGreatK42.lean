/- Arguments of any tree of structs and slices: what they say, and that their sizes are small. -/
import Derived.Test.YtlpaikjhphkioaaGreatK40
import Derived.Deep.Slices
import Derived.Test.YtlpaikjhphkioaaGreatK23
set_option linter.unusedVariables false
set_option linter.unusedSimpArgs false
section
namespace Av
open Go Go.RowKit Go.ChangeShapes Go.WideShapes Go.ChangeAt Go.Joins Go.Deep
set_option linter.unusedVariables false
inductive Sh where
 | int|bool|str
 | sl (e:TypeId) (s:Sh)
 | nil
 | cons (t:TypeId) (a r:Sh)
def Sh.n:Sh→Nat
 | .nil=>0
 | .cons _ a r=>a.n + r.n
 | _=>1
def Sh.el:Sh→List V→V
 | .nil,l=>.agg l
 | .cons _ _ _,l=>.agg l
 | _,v :: _=>v
 | _,[]=>.top
def FV:Sh→List V→Prop
 | .int,l=>∃ n,l = [V.int n]
 | .bool,l=>∃ b,l = [V.bool b]
 | .str,l=>∃ s,s.length < 2 ^ 60∧l = [V.str s]
 | .sl _ s,l=>∃ xs,xs.length < 2 ^ 60∧l = [.sl s.n xs]∧∀ x∈xs,∃ l',x = s.el l'∧FV s l'
 | .nil,l=>l = []
 | .cons _ a r,l=>∃ l1 l2,l = l1++l2∧FV a l1∧FV r l2
def ahX (P:Program):Sh→(TypeId→Bool)×(List Field→Nat→Bool)
 | .int=>(fun t=>(match P.underlying t with|some (.int .i64)=>true|_=>false),fun _ _=>false)
 | .bool=>(fun t=>(match P.underlying t with|some .bool=>true|_=>false),fun _ _=>false)
 | .str=>(fun t=>(match P.underlying t with|some .string=>true|_=>false),fun _ _=>false)
 | .sl e s=>(fun t=>(match P.underlying t with|some (.slice e')=>e' == e && ((ahX P s).1 e && (P.cellsOf e == s.n && (decide (1≤P.bytesOf e) && decide (0 < s.n))))|_=>false),fun _ _=>false)
 | .nil=>(fun _=>false,fun fs _=>(match fs with|[]=>true|_=>false))
 | .cons t a r=>(fun u=>(match P.underlying u with|some (.struct fs)=>P.cellsOf u == a.n + r.n && (match fs.toList with|f :: fs'=>f.type == t && (f.offset == 0 && (P.cellsOf t == a.n && ((ahX P a).1 t && (ahX P r).2 fs' a.n)))|[]=>false)|_=>false),
    fun fs off=>(match fs with|f :: fs'=>f.type == t && (f.offset == off && (P.cellsOf t == a.n && ((ahX P a).1 t && (ahX P r).2 fs' (off + a.n))))|[]=>false))
section
variable {H:Type} {enc:TypeId×Value→H} {P:Program} {W:World}
def yO (W:World) (cs:List Value) (ws:List V):Prop:=ws.length = cs.length∧∀ j (h:j < cs.length) (h':j < ws.length),cs[j].oneCell' = true∧Rep W (ap3 W) noμ cs[j] ws[j]
theorem yO.one {v:Value} {x:V} (h1:v.oneCell' = true) (h2:Rep W (ap3 W) noμ v x):yO W [v] [x]:=by
 refine ⟨rfl,fun j h h'=>?_⟩
 match j,h with
 | 0,_=>exact ⟨h1,h2⟩
theorem yO.app {a b:List Value} {x y:List V} (h1:yO W a x) (h2:yO W b y):yO W (a++b) (x++y):=by
 refine ⟨by simp [h1.1,h2.1],fun j h h'=>?_⟩
 have e:=h1.1
 by_cases hj:j < a.length
 ·rw [Ze hj,Ze (by omega)];exact h1.2 j hj (by omega)
 ·have hj':a.length≤j:=by omega
  simp only [zq] at h h'
  rw [ZY hj',ZY (by omega)]
  simp only [e]
  exact h2.2 (j - a.length) (by omega) (by omega)
theorem api {s:Sh} {l:List V} (hl:l.length = s.n) (h1:∀ v∈l,v.cells = [v]):(s.el l).cells = l:=by
 cases s with
 | nil=>rfl
 | cons=>rfl
 | _ =>
   simp only [Sh.n] at hl
   match l,hl with
   | [v],_=>exact h1 v (by simp)
theorem aeH {e:TypeId} {z:Nat} {l:List (DataW H)} {d:DataW H} (hd:d∈l) (hz:z∈d.weights P e):z∈DataW.weightsAll P e l:=by
 induction l with
 | nil=>cases hd
 | cons a r ih =>
   simp only [DataW.weightsAll,zT]
   rcases zF.1 hd with rfl|h
   ·exact .inl hz
   ·exact .inr (ih h)
def apN (H:Type) (enc:TypeId×Value→H) (P:Program) (W:World) (s:Sh):Prop :=
 ∀ t,(ahX P s).1 t = true→∀ fuel (cs:List Value) (y:DataW H×List MemPlace),DataW.trod enc P W 0 (fun _=>true) true fuel t cs = some y →
  cs.length = s.n∧∃ ws,yO W cs ws∧(∀ v∈ws,v.cells = [v])∧((∀ z∈y.1.weights P t,z≤reachBytes)→FV s ws)
def aoe (H:Type) (enc:TypeId×Value→H) (P:Program) (W:World) (s:Sh):Prop :=
 ∀ fs off,(ahX P s).2 fs off = true→∀ n (cs:List Value) (xs:List (DataW H×List MemPlace)),xs.length = fs.length→off + s.n = cs.length →
  (∀ (i:Nat) (f:Field),fs[i]? = some f→DataW.trod enc P W 0 (fun _=>true) true n f.type ((cs.drop f.offset).take (P.cellsOf f.type)) = xs[i]?) →
  ∃ ws,yO W (cs.drop off) ws∧(∀ v∈ws,v.cells = [v])∧((∀ z∈DataW.weightsEach P (fs.map (·.type)) (xs.map (·.1)),z≤reachBytes)→FV s ws)
theorem aov {e:TypeId} {s:Sh} (ih:apN H enc P W s):apN H enc P W (.sl e s):=by
 intro t ht fuel cs y h
 simp only [ahX] at ht
 split at ht
 ·rename_i e' he
  simp only [zw,ky,zA] at ht
  obtain ⟨rfl,hfit,hce,hb,hpos⟩:=ht
  rcases open_slice he h with ⟨rfl,rfl⟩|⟨a,len,cap,m,n,D,Pl,rfl,hbl,hl,hm,hmm,rfl,hx⟩
  ·exact ⟨rfl,[.sl s.n []],.one rfl .sl0,by simp [V.cells],fun _=>⟨[],by simp,rfl,by simp⟩⟩
  ·refine ⟨rfl,?_⟩
   simp only [if_true] at hmm
   subst m
   rw [hce] at hx
   have hw0:(∀ z∈(DataW.slice ((List.range len).map D) ((List.range (cap - len)).map fun j=>D (len + j)):DataW H).weights P t,z≤reachBytes)→len < 2 ^ 60∧∀ i,i < len→∀ z∈(D i).weights P e',z≤reachBytes:=by
    intro hz
    simp only [DataW.weights,he] at hz
    refine ⟨?_,fun i hi z hz'=>hz z (.tail _ (zT.2 (.inl (aeH (zE.2 ⟨i,kW.2 hi,rfl⟩) hz'))))⟩
    have h1:=hz _ (.head _)
    simp only [zb,kU] at h1
    have h2:len * 1≤(len + (cap - len)) * P.bytesOf e':=Nat.mul_le_mul (by omega) hb
    unfold reachBytes at h1
    omega
   by_cases h0:len = 0
   ·subst h0
    exact ⟨[.sl s.n []],.one rfl .sl0,by simp [V.cells],fun _=>⟨[],by simp,rfl,by simp⟩⟩
   have each:∀ i:Nat,i < len→∃ q:List V×List Value,q.2.length = s.n∧yO W q.2 q.1∧(∀ v∈q.1,v.cells = [v])∧(∀ j (h:j < q.2.length),W.cell? ((a.add (i * s.n)).add j) = some q.2[j]) ∧
     ((∀ z∈(D i).weights P e',z≤reachBytes)→FV s q.1):=by
    intro i hi
    obtain ⟨cs',e1,e2⟩:=hx i (by omega)
    obtain ⟨_,hlen',hcell⟩:=World.cells?_some e1
    obtain ⟨_,ws,r1,r2,r3⟩:=ih e' hfit n cs' _ e2
    refine ⟨(ws,cs'),hlen',r1,r2,fun j hj=>?_,r3⟩
    have hj2:j < cs'.length:=hj
    have:=hcell j (by omega)
    rw [this,zd hj2]
   have hsp:∃ v0,W.cell? a = some v0:=by
    obtain ⟨q,q1,q2,_,q3,_⟩:=each 0 (by omega)
    have:=q3 0 (by omega)
    exact ⟨_,by simpa [Addr.add] using this⟩
   obtain ⟨v0,hv0⟩:=hsp
   obtain ⟨hs,hbl⟩:=aim hv0
   have ha:a = ⟨a.block,a.off,none⟩:=by cases a;simp_all
   have hadd:∀ i,a.add i = ⟨a.block,a.off + i,none⟩:=by
    intro i
    unfold Addr.add
    split
    ·rename_i hi;subst hi;exact ha
    ·rfl
   have hadd2:∀ i j,(a.add i).add j = ⟨a.block,a.off + (i + j),none⟩:=by
    intro i j
    rw [hadd]
    unfold Addr.add
    split
    ·rename_i hj;subst hj;rfl
    ·simp only [kR]
   have:Inhabited (List V×List Value):=⟨([],[])⟩
   obtain ⟨q,hq⟩:=choose_lt each
   have hel:∀ i,i < len→(s.el (q i).1).cells = (q i).1:=fun i hi=>api (by obtain ⟨a1,a2,_⟩:=hq i hi;rw [a2.1,a1]) (hq i hi).2.2.1
   refine ⟨[.sl s.n ((List.range len).map fun i=>s.el (q i).1)],.one rfl ?_,by simp [V.cells],fun hw=>?_⟩
   ·have hL:((List.range len).map fun i=>s.el (q i).1).length = len:=by simp
    have key:Rep W (ap3 W) noμ (.slice (some ⟨a.block,a.off,none⟩) ((List.range len).map fun i=>s.el (q i).1).length cap) (.sl s.n ((List.range len).map fun i=>s.el (q i).1)):=by
     refine .sl (fun i j=>(q i).2.getD j .nilIface) (by omega) ?_ ?_ ?_
     ·intro i hi
      simp only [kJ,Zk]
      rw [hel i (by omega)]
      obtain ⟨a1,a2,_⟩:=hq i (by omega)
      rw [a2.1,a1]
     ·intro i hi j hj
      simp only [kJ,Zk] at hj
      rw [hel i (by omega)] at hj
      obtain ⟨e1,e2,_,e3,_⟩:=hq i (by omega)
      have hj':j < (q i).2.length:=by rw [← e2.1];exact hj
      have c1:=e3 j hj'
      rw [hadd2] at c1
      simp only [zJ,zd hj',Option.getD_some]
      exact ⟨c1,hbl,(e2.2 j hj' hj).1⟩
     ·intro i hi j hj
      have hj2:=hj
      simp only [kJ,Zk] at hj2
      rw [hel i (by omega)] at hj2
      obtain ⟨e1,e2,_,e3,_⟩:=hq i (by omega)
      have hj':j < (q i).2.length:=by rw [← e2.1];exact hj2
      simp only [kJ,Zk,hel i (show i < len by omega)]
      simp only [zJ,zd hj',Option.getD_some]
      exact (e2.2 j hj' hj2).2
    rw [hL,← ha] at key
    exact key
   ·obtain ⟨w1,w2⟩:=hw0 hw
    refine ⟨_,by simpa using w1,rfl,fun x hx=>?_⟩
    obtain ⟨i,hi,rfl⟩:=zE.1 hx
    have hi':=kW.1 hi
    exact ⟨_,rfl,(hq i hi').2.2.2.2 (w2 i hi')⟩
 ·cases ht
theorem alc {t:TypeId} {a r:Sh} (iha:apN H enc P W a) (ihr:aoe H enc P W r):aoe H enc P W (.cons t a r):=by
 intro fs off hfit n cs xs hxl hoff hf
 simp only [ahX] at hfit
 match fs,hfit with
 | f :: fs',hfit =>
   simp only [zw,ky] at hfit
   obtain ⟨rfl,rfl,hca,h1,h2⟩:=hfit
   match xs,hxl with
   | y :: ys,hxl =>
     simp only [Sh.n] at hoff
     have f0:=hf 0 f rfl
     simp only [List.getElem?_cons_zero] at f0
     obtain ⟨l1,ws1,c1,o1,v1⟩:=iha _ h1 n _ _ f0
     obtain ⟨ws2,c2,o2,v2⟩:=ihr fs' (f.offset + a.n) h2 n cs ys (by simpa using hxl) (by omega) (fun i g hg=>by simpa using hf (i + 1) g (by simpa using hg))
     refine ⟨ws1++ws2,?_,fun v hv=>(zT.1 hv).elim (o1 v) (o2 v),fun hz=>⟨ws1,ws2,rfl,v1 fun z hz'=>hz z ?_,v2 fun z hz'=>hz z ?_⟩⟩
     ·have:=c1.app c2
      rw [hca] at this
      rwa [← Zh,Zd] at this
     ·simp only [zL,DataW.weightsEach,zT];exact .inl hz'
     ·simp only [zL,DataW.weightsEach,zT];exact .inr hz'
theorem amG (s:Sh):apN H enc P W s∧aoe H enc P W s:=by
 induction s with
 | int =>
   refine ⟨fun t ht fuel cs y h=>?_,fun fs off h=>by cases h⟩
   simp only [ahX] at ht
   split at ht
   ·rename_i he
    obtain ⟨n,rfl,rfl,_⟩:=DataW.trod_int he h
    exact ⟨rfl,[V.int n],.one rfl (.sc rfl),by simp [V.cells,V.int],fun _=>⟨n,rfl⟩⟩
   ·cases ht
 | bool =>
   refine ⟨fun t ht fuel cs y h=>?_,fun fs off h=>by cases h⟩
   simp only [ahX] at ht
   split at ht
   ·rename_i he
    obtain ⟨n,rfl,rfl⟩:=DataW.trod_bool he h
    exact ⟨rfl,[V.bool n],.one rfl (.sc rfl),by simp [V.cells,V.bool],fun _=>⟨n,rfl⟩⟩
   ·cases ht
 | str =>
   refine ⟨fun t ht fuel cs y h=>?_,fun fs off h=>by cases h⟩
   simp only [ahX] at ht
   split at ht
   ·rename_i he
    obtain ⟨s,rfl,rfl,_⟩:=DataW.trod_string he h
    refine ⟨rfl,[V.str s.data.toList],.one rfl ?_,by simp [V.cells,V.str],fun hz=>⟨_,?_,rfl⟩⟩
    ·have e:Value.string s = Value.string ⟨s.data.toList.toArray⟩:=by simp
     rw [e];exact .sc rfl
    ·have:=hz s.data.toList.length (by simp [DataW.weights])
     unfold reachBytes at this
     omega
   ·cases ht
 | sl e s ih=>exact ⟨aov ih.1,fun fs off h=>by cases h⟩
 | nil =>
   refine ⟨fun t ht=>(by cases ht),fun fs off h n cs xs hxl hoff hf=>⟨[],⟨?_,fun j hj hj'=>(by cases hj')⟩,by simp,fun _=>rfl⟩⟩
   simp only [Sh.n] at hoff
   simp;omega
 | cons t a r iha ihr =>
   have hF:=alc (t:=t) iha.1 ihr.2
   refine ⟨fun u hu fuel cs y h=>?_,hF⟩
   simp only [ahX] at hu
   split at hu
   ·rename_i fs he
    simp only [zw,ky] at hu
    obtain ⟨hc,hu⟩:=hu
    obtain ⟨xs,n,_,rfl,hcl,hxl,hf⟩:=DataW.trod_struct he h
    obtain ⟨ws,c1,o1,v1⟩:=hF fs.toList 0 (by simp only [ahX];simpa [zw] using hu) n cs xs (by simpa using hxl) (by simp only [Sh.n];omega) (fun i f hi=>hf i f (by simpa using hi))
    refine ⟨by rw [hcl,hc];rfl,ws,by simpa using c1,o1,fun hz=>v1 fun z hz'=>hz z ?_⟩
    simp only [DataW.weights,he]
    exact hz'
   ·cases hu
theorem al1 {t:TypeId} {u:TypeId} {a r:Sh} {v:Value} {d:DataW H} {p:List MemPlace} (hfit:(ahX P (.cons u a r)).1 t = true) (hval:Value.okWide P W .any 0 t v) (hd:DataW.Trod enc P W 0 (fun _=>true) true t v d p) :
  ∃ ws,arF W v (.agg ws)∧((∀ z∈d.weights P t,z≤reachBytes)→FV (.cons u a r) ws):=by
 have h2:=hfit
 simp only [ahX] at h2
 split at h2
 ·rename_i fs he
  obtain ⟨cs,rfl,hsz⟩:=okWide_struct he hval
  obtain ⟨fuel,hf⟩:=hd
  obtain ⟨_,ws,c1,_,v1⟩:=(amG (H:=H) (enc:=enc) (P:=P) (W:=W) (.cons u a r)).1 t hfit fuel _ _ hf
  simp only [Value.cells] at c1
  have hl:=c1.1
  simp only [Array.length_toList] at hl
  refine ⟨ws,.agg hl.symm (fun j hj=>?_) (fun j hj hj'=>?_),v1⟩
  ·have:=(c1.2 j (by simpa using hj) (by omega)).1
   simpa using this
  ·have:=(c1.2 j (by simpa using hj') hj).2
   simpa using this
 ·cases h2
end
theorem acw {C:Checked} {os:Os} {fid:FuncId} {f:Func} {s:ChangeSpec} {X:World→Prop} {T:TypeId→Prop} (hX:∀ w w':World,w.heap = w'.heap→X w→X w') (own:ownKnob C.prog.godebug = none) (started:os.Started)
  (noInit:C.prog.inits.idxOf? fid = none) (hfn:C.prog.funcs[fid]? = some f) (H:Type) (enc:TypeId×Value→H)
  (witness:∃ (w:World) (tape:Tape) (i:Input),w.os = os∧(w.forCall tape i).Shaped C.prog∧i.vars = []∧Input.okWide C.prog (w.forCall tape i) .any w.heap.size fid i ∧
    ((s.pre enc C.prog f [] false (w.forCall tape i).memory i.args∧X (w.forCall tape i).memory)∧sizedMet enc C.prog f (OpenSpec.ofChange s) false (w.forCall tape i).memory i.args)∧({}:Assume).holds C.prog (lone (Frame.enter C.prog fid i.args .normal) [] (w.forCall tape i)))
  (K:Kids C.prog T) (hsz:∀ {t e:TypeId},T t→C.prog.underlying t = some (.slice e)→0 < C.prog.cellsOf e) (hT:∀ t∈f.params.toList,T t) (hvars:s.vars = [])
  (hspec:∀ ds:List (DataW H),ds.length = f.params.size→s.fn H ds = { results:=[.lit (.bool true)],args:=ds }) {t:TypeId} (hr:f.resultTypes = #[t]) (ht:C.prog.underlying t = some .bool)
  (hcall:∀ (W:World) (args:Array Value) (ds gs:List (DataW H)) (p:List MemPlace),(∀ (j:Nat) t v,f.params[j]? = some t→args[j]? = some v→Value.okWide C.prog W .any 0 t v) →
    DataW.TrodAll enc C.prog W 0 (fun _=>true) true f.params.toList args.toList ds p→X W→W.ShapedOpen C.prog→(DataW.weightsEach C.prog (f.params.toList++s.plain.varTypes C.prog) (ds++gs)).all (·≤reachBytes) = true →
    Calls C.prog fid args W fun e W'=>e = .returned (.bool true)∧Below W.heap.size W W') :
  ReturnsInHanded {} C os fid .any (fun w args=>(s.pre enc C.prog f [] false w args∧X w)∧sizedMet enc C.prog f (OpenSpec.ofChange s) false w args) (s.post enc C.prog f false true false false):=by
 refine WN (C:=C) (X:=fun w _=>X w) (fun w w' _ hh h=>hX w w' hh h) own started noInit hfn witness ?_
 intro W base args ds gs before hval hW hz hL hsh
 have hW':=hW
 obtain ⟨p,q,hA,hV,rfl,hfz,hnd⟩:=hW
 refine (hcall W args ds gs p (fun j t v h1 h2=>Value.okWide_any_base (hval j t v h1 h2)) hA hL hsh hz).mono fun e W' ⟨he,hb⟩=>?_
 exact ⟨_,he,aoX K hsz hT hvars hspec hr ht hW' hb⟩
end Av
end
section
namespace Av
open Go Go.RowKit Go.ChangeShapes Go.WideShapes Go.ChangeAt
set_option linter.unusedVariables false
def apS (ti ts tu:TypeId):Sh:=.cons ti .int (.cons ts .str (.cons ti .int (.cons tu (.cons ti .int (.cons ti .int .nil)) (.cons ti .int (.cons ts .str (.cons ti .int .nil))))))
theorem aq4 {ti ts tu:TypeId} {l:List V} (h:FV (apS ti ts tu) l):∃ f:Qc,.agg l = f.v∧f.subj.length < 2 ^ 60∧f.text.length < 2 ^ 60:=by
 obtain ⟨_,_,rfl,⟨x0,rfl⟩,h⟩:=h
 obtain ⟨_,_,rfl,⟨x1,g1,rfl⟩,h⟩:=h
 obtain ⟨_,_,rfl,⟨x2,rfl⟩,h⟩:=h
 obtain ⟨_,_,rfl,⟨_,_,rfl,⟨x3,rfl⟩,_,_,rfl,⟨x4,rfl⟩,rfl⟩,h⟩:=h
 obtain ⟨_,_,rfl,⟨x5,rfl⟩,h⟩:=h
 obtain ⟨_,_,rfl,⟨x6,g6,rfl⟩,h⟩:=h
 obtain ⟨_,_,rfl,⟨x7,rfl⟩,rfl⟩:=h
 exact ⟨⟨x0,x1,x2,x3,x4,x5,x6,x7⟩,rfl,g1,g6⟩
end Av
end
