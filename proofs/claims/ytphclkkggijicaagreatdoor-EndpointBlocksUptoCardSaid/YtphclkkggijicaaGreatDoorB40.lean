/- Arguments of any tree of structs and slices: what they say, and that they are small where their bulk is. -/
import Derived.Test.YtphclkkggijicaaGreatDoorB38
import Derived.Deep.DeepHandedRow
import Derived.Deep.Slices
import Derived.Test.YtphclkkggijicaaGreatDoorB29
set_option linter.unusedVariables false
set_option linter.unusedSimpArgs false
section
namespace Av
open Go Go.RowKit Go.ChangeShapes Go.WideShapes Go.ChangeAt Go.Joins Go.Deep
set_option linter.unusedVariables false
inductive Sh where
 | int|bool|str
 | sl (e:TypeId) (s:Sh)
 | nil
 | cons (t:TypeId) (a r:Sh)
def Sh.n:Sh→Nat
 | .nil=>0
 | .cons _ a r=>a.n + r.n
 | _=>1
def Sh.el:Sh→List V→V
 | .nil,l=>.agg l
 | .cons _ _ _,l=>.agg l
 | _,v :: _=>v
 | _,[]=>.top
def FV:Sh→List V→Prop
 | .int,l=>∃ n,l = [V.int n]
 | .bool,l=>∃ b,l = [V.bool b]
 | .str,l=>∃ s,s.length < 2 ^ 27∧l = [V.str s]
 | .sl _ s,l=>∃ xs,xs.length < 2 ^ 27∧l = [.sl s.n xs]∧∀ x∈xs,∃ l',x = s.el l'∧FV s l'
 | .nil,l=>l = []
 | .cons _ a r,l=>∃ l1 l2,l = l1++l2∧FV a l1∧FV r l2
def ahl (P:Program):Sh→(TypeId→Bool)×(List Field→Nat→Bool)
 | .int=>(fun t=>(match P.underlying t with|some (.int .i64)=>true|_=>false),fun _ _=>false)
 | .bool=>(fun t=>(match P.underlying t with|some .bool=>true|_=>false),fun _ _=>false)
 | .str=>(fun t=>(match P.underlying t with|some .string=>true|_=>false),fun _ _=>false)
 | .sl e s=>(fun t=>(match P.underlying t with|some (.slice e')=>e' == e && ((ahl P s).1 e && (P.cellsOf e == s.n && (decide (1≤P.bytesOf e) && decide (0 < s.n))))|_=>false),fun _ _=>false)
 | .nil=>(fun _=>false,fun fs _=>(match fs with|[]=>true|_=>false))
 | .cons t a r=>(fun u=>(match P.underlying u with|some (.struct fs)=>P.cellsOf u == a.n + r.n && (match fs.toList with|f :: fs'=>f.type == t && (f.offset == 0 && (P.cellsOf t == a.n && ((ahl P a).1 t && (ahl P r).2 fs' a.n)))|[]=>false)|_=>false),
    fun fs off=>(match fs with|f :: fs'=>f.type == t && (f.offset == off && (P.cellsOf t == a.n && ((ahl P a).1 t && (ahl P r).2 fs' (off + a.n))))|[]=>false))
section
variable {H:Type} {enc:TypeId×Value→H} {P:Program} {W:World}
def V5 (W:World) (cs:List Value) (ws:List V):Prop:=ws.length = cs.length∧∀ j (h:j < cs.length) (h':j < ws.length),cs[j].oneCell' = true∧Rep W (amd W) noμ cs[j] ws[j]
theorem V5.one {v:Value} {x:V} (h1:v.oneCell' = true) (h2:Rep W (amd W) noμ v x):V5 W [v] [x]:=by
 refine ⟨rfl,fun j h h'=>?_⟩
 match j,h with
 | 0,_=>exact ⟨h1,h2⟩
theorem V5.app {a b:List Value} {x y:List V} (h1:V5 W a x) (h2:V5 W b y):V5 W (a++b) (x++y):=by
 refine ⟨by simp [h1.1,h2.1],fun j h h'=>?_⟩
 have e:=h1.1
 by_cases hj:j < a.length
 ·rw [kr hj,kr (by omega)];exact h1.2 j hj (by omega)
 ·have hj':a.length≤j:=by omega
  simp only [zF] at h h'
  rw [Zb hj',Zb (by omega)]
  simp only [e]
  exact h2.2 (j - a.length) (by omega) (by omega)
theorem aoq {s:Sh} {l:List V} (hl:l.length = s.n) (h1:∀ v∈l,v.cells = [v]):(s.el l).cells = l:=by
 cases s with
 | nil=>rfl
 | cons=>rfl
 | _ =>
   simp only [Sh.n] at hl
   match l,hl with
   | [v],_=>exact h1 v (by simp)
structure Blk (B:DataW H→Nat) (A:List (DataW H)→Nat):Prop where
 str:∀ s,s.length≤B (.lit (.string s))
 slc:∀ e s,A e < B (.slice e s)
 agg:∀ p,A p≤B (.agg p)
 one:∀ d,1≤B d
 cons:∀ d l,A (d :: l) = B d + A l
variable {B:DataW H→Nat} {A:List (DataW H)→Nat}
theorem Blk.mem (hB:Blk B A) {l:List (DataW H)} {d:DataW H} (hd:d∈l):B d≤A l:=by
 induction l with
 | nil=>cases hd
 | cons a r ih =>
   rw [hB.cons]
   rcases zp.1 hd with rfl|h
   ·omega
   ·have:=ih h;omega
theorem Blk.len (hB:Blk B A) (l:List (DataW H)):l.length≤A l:=by
 induction l with
 | nil=>simp
 | cons a r ih=>rw [hB.cons,List.length_cons];have:=hB.one a;omega
def aoX (H:Type) (B:DataW H→Nat) (enc:TypeId×Value→H) (P:Program) (W:World) (s:Sh):Prop :=
 ∀ t,(ahl P s).1 t = true→∀ fuel (cs:List Value) (y:DataW H×List MemPlace),DataW.trod enc P W 0 (fun _=>true) true fuel t cs = some y →
  cs.length = s.n∧∃ ws,V5 W cs ws∧(∀ v∈ws,v.cells = [v])∧(B y.1≤1048576→FV s ws)
def anp (H:Type) (A:List (DataW H)→Nat) (enc:TypeId×Value→H) (P:Program) (W:World) (s:Sh):Prop :=
 ∀ fs off,(ahl P s).2 fs off = true→∀ n (cs:List Value) (xs:List (DataW H×List MemPlace)),xs.length = fs.length→off + s.n = cs.length →
  (∀ (i:Nat) (f:Field),fs[i]? = some f→DataW.trod enc P W 0 (fun _=>true) true n f.type ((cs.drop f.offset).take (P.cellsOf f.type)) = xs[i]?) →
  ∃ ws,V5 W (cs.drop off) ws∧(∀ v∈ws,v.cells = [v])∧(A (xs.map (·.1))≤1048576→FV s ws)
theorem anN (hB:Blk B A) {e:TypeId} {s:Sh} (ih:aoX H B enc P W s):aoX H B enc P W (.sl e s):=by
 intro t ht fuel cs y h
 simp only [ahl] at ht
 split at ht
 ·rename_i e' he
  simp only [zA,kC,zS] at ht
  obtain ⟨rfl,hfit,hce,hb,hpos⟩:=ht
  rcases open_slice he h with ⟨rfl,rfl⟩|⟨a,len,cap,m,n,D,Pl,rfl,hbl,hl,hm,hmm,rfl,hx⟩
  ·exact ⟨rfl,[.sl s.n []],.one rfl .sl0,by simp [V.cells],fun _=>⟨[],by simp,rfl,by simp⟩⟩
  ·refine ⟨rfl,?_⟩
   simp only [if_true] at hmm
   subst m
   rw [hce] at hx
   have hw0:B (DataW.slice ((List.range len).map D) ((List.range (cap - len)).map fun j=>D (len + j)):DataW H)≤1048576→len < 2 ^ 27∧∀ i,i < len→B (D i)≤1048576:=by
    intro hz
    have h1:=hB.slc ((List.range len).map D) ((List.range (cap - len)).map fun j=>D (len + j))
    have h2:=hB.len ((List.range len).map D)
    simp only [zh,List.length_range] at h2
    refine ⟨by omega,fun i hi=>?_⟩
    have:=hB.mem (kl.2 ⟨i,kP.2 hi,rfl⟩:D i∈(List.range len).map D)
    omega
   by_cases h0:len = 0
   ·subst h0
    exact ⟨[.sl s.n []],.one rfl .sl0,by simp [V.cells],fun _=>⟨[],by simp,rfl,by simp⟩⟩
   have each:∀ i:Nat,i < len→∃ q:List V×List Value,q.2.length = s.n∧V5 W q.2 q.1∧(∀ v∈q.1,v.cells = [v])∧(∀ j (h:j < q.2.length),W.cell? ((a.add (i * s.n)).add j) = some q.2[j]) ∧
     (B (D i)≤1048576→FV s q.1):=by
    intro i hi
    obtain ⟨cs',e1,e2⟩:=hx i (by omega)
    obtain ⟨_,hlen',hcell⟩:=World.cells?_some e1
    obtain ⟨_,ws,r1,r2,r3⟩:=ih e' hfit n cs' _ e2
    refine ⟨(ws,cs'),hlen',r1,r2,fun j hj=>?_,r3⟩
    have hj2:j < cs'.length:=hj
    have:=hcell j (by omega)
    rw [this,zf hj2]
   have hsp:∃ v0,W.cell? a = some v0:=by
    obtain ⟨q,q1,q2,_,q3,_⟩:=each 0 (by omega)
    have:=q3 0 (by omega)
    exact ⟨_,by simpa [Addr.add] using this⟩
   obtain ⟨v0,hv0⟩:=hsp
   obtain ⟨hs,hbl⟩:=adp hv0
   have ha:a = ⟨a.block,a.off,none⟩:=by cases a;simp_all
   have hadd:∀ i,a.add i = ⟨a.block,a.off + i,none⟩:=by
    intro i
    unfold Addr.add
    split
    ·rename_i hi;subst hi;exact ha
    ·rfl
   have hadd2:∀ i j,(a.add i).add j = ⟨a.block,a.off + (i + j),none⟩:=by
    intro i j
    rw [hadd]
    unfold Addr.add
    split
    ·rename_i hj;subst hj;rfl
    ·simp only [ko]
   have:Inhabited (List V×List Value):=⟨([],[])⟩
   obtain ⟨q,hq⟩:=choose_lt each
   have hel:∀ i,i < len→(s.el (q i).1).cells = (q i).1:=fun i hi=>aoq (by obtain ⟨a1,a2,_⟩:=hq i hi;rw [a2.1,a1]) (hq i hi).2.2.1
   refine ⟨[.sl s.n ((List.range len).map fun i=>s.el (q i).1)],.one rfl ?_,by simp [V.cells],fun hw=>?_⟩
   ·have hL:((List.range len).map fun i=>s.el (q i).1).length = len:=by simp
    have key:Rep W (amd W) noμ (.slice (some ⟨a.block,a.off,none⟩) ((List.range len).map fun i=>s.el (q i).1).length cap) (.sl s.n ((List.range len).map fun i=>s.el (q i).1)):=by
     refine .sl (fun i j=>(q i).2.getD j .nilIface) (by omega) ?_ ?_ ?_
     ·intro i hi
      simp only [zH,kw]
      rw [hel i (by omega)]
      obtain ⟨a1,a2,_⟩:=hq i (by omega)
      rw [a2.1,a1]
     ·intro i hi j hj
      simp only [zH,kw] at hj
      rw [hel i (by omega)] at hj
      obtain ⟨e1,e2,_,e3,_⟩:=hq i (by omega)
      have hj':j < (q i).2.length:=by rw [← e2.1];exact hj
      have c1:=e3 j hj'
      rw [hadd2] at c1
      simp only [zo,zf hj',Option.getD_some]
      exact ⟨c1,hbl,(e2.2 j hj' hj).1⟩
     ·intro i hi j hj
      have hj2:=hj
      simp only [zH,kw] at hj2
      rw [hel i (by omega)] at hj2
      obtain ⟨e1,e2,_,e3,_⟩:=hq i (by omega)
      have hj':j < (q i).2.length:=by rw [← e2.1];exact hj2
      simp only [zH,kw,hel i (show i < len by omega)]
      simp only [zo,zf hj',Option.getD_some]
      exact (e2.2 j hj' hj2).2
    rw [hL,← ha] at key
    exact key
   ·obtain ⟨w1,w2⟩:=hw0 hw
    refine ⟨_,by simpa using w1,rfl,fun x hx=>?_⟩
    obtain ⟨i,hi,rfl⟩:=kl.1 hx
    have hi':=kP.1 hi
    exact ⟨_,rfl,(hq i hi').2.2.2.2 (w2 i hi')⟩
 ·cases ht
theorem akr (hB:Blk B A) {t:TypeId} {a r:Sh} (iha:aoX H B enc P W a) (ihr:anp H A enc P W r):anp H A enc P W (.cons t a r):=by
 intro fs off hfit n cs xs hxl hoff hf
 simp only [ahl] at hfit
 match fs,hfit with
 | f :: fs',hfit =>
   simp only [zA,kC] at hfit
   obtain ⟨rfl,rfl,hca,h1,h2⟩:=hfit
   match xs,hxl with
   | y :: ys,hxl =>
     simp only [Sh.n] at hoff
     have f0:=hf 0 f rfl
     simp only [List.getElem?_cons_zero] at f0
     obtain ⟨l1,ws1,c1,o1,v1⟩:=iha _ h1 n _ _ f0
     obtain ⟨ws2,c2,o2,v2⟩:=ihr fs' (f.offset + a.n) h2 n cs ys (by simpa using hxl) (by omega) (fun i g hg=>by simpa using hf (i + 1) g (by simpa using hg))
     refine ⟨ws1++ws2,?_,fun v hv=>(zX.1 hv).elim (o1 v) (o2 v),fun hz=>?_⟩
     ·have:=c1.app c2
      rw [hca] at this
      rwa [← Zi,zR] at this
     ·rw [zm,hB.cons] at hz
      exact ⟨ws1,ws2,rfl,v1 (by omega),v2 (by omega)⟩
theorem acI (hB:Blk B A) (s:Sh):aoX H B enc P W s∧anp H A enc P W s:=by
 induction s with
 | int =>
   refine ⟨fun t ht fuel cs y h=>?_,fun fs off h=>by cases h⟩
   simp only [ahl] at ht
   split at ht
   ·rename_i he
    obtain ⟨n,rfl,rfl,_⟩:=DataW.trod_int he h
    exact ⟨rfl,[V.int n],.one rfl (.sc rfl),by simp [V.cells,V.int],fun _=>⟨n,rfl⟩⟩
   ·cases ht
 | bool =>
   refine ⟨fun t ht fuel cs y h=>?_,fun fs off h=>by cases h⟩
   simp only [ahl] at ht
   split at ht
   ·rename_i he
    obtain ⟨n,rfl,rfl⟩:=DataW.trod_bool he h
    exact ⟨rfl,[V.bool n],.one rfl (.sc rfl),by simp [V.cells,V.bool],fun _=>⟨n,rfl⟩⟩
   ·cases ht
 | str =>
   refine ⟨fun t ht fuel cs y h=>?_,fun fs off h=>by cases h⟩
   simp only [ahl] at ht
   split at ht
   ·rename_i he
    obtain ⟨s,rfl,rfl,_⟩:=DataW.trod_string he h
    refine ⟨rfl,[V.str s.data.toList],.one rfl ?_,by simp [V.cells,V.str],fun hz=>⟨_,?_,rfl⟩⟩
    ·have e:Value.string s = Value.string ⟨s.data.toList.toArray⟩:=by simp
     rw [e];exact .sc rfl
    ·have:=hB.str s.data.toList
     simp only at hz
     omega
   ·cases ht
 | sl e s ih=>exact ⟨anN hB ih.1,fun fs off h=>by cases h⟩
 | nil =>
   refine ⟨fun t ht=>(by cases ht),fun fs off h n cs xs hxl hoff hf=>⟨[],⟨?_,fun j hj hj'=>(by cases hj')⟩,by simp,fun _=>rfl⟩⟩
   simp only [Sh.n] at hoff
   simp;omega
 | cons t a r iha ihr =>
   have hF:=akr hB (t:=t) iha.1 ihr.2
   refine ⟨fun u hu fuel cs y h=>?_,hF⟩
   simp only [ahl] at hu
   split at hu
   ·rename_i fs he
    simp only [zA,kC] at hu
    obtain ⟨hc,hu⟩:=hu
    obtain ⟨xs,n,_,rfl,hcl,hxl,hf⟩:=DataW.trod_struct he h
    obtain ⟨ws,c1,o1,v1⟩:=hF fs.toList 0 (by simp only [ahl];simpa [zA] using hu) n cs xs (by simpa using hxl) (by simp only [Sh.n];omega) (fun i f hi=>hf i f (by simpa using hi))
    refine ⟨by rw [hcl,hc];rfl,ws,by simpa using c1,o1,fun hz=>v1 ?_⟩
    have:=hB.agg (xs.map (·.1))
    simp only at hz
    omega
   ·cases hu
theorem arl {α:Type} {s:Sh} {f:α→V} {Q:α→Prop} (hs:∀ l,FV s l→∃ x,s.el l = f x∧Q x) {xs:List V} (h:∀ x∈xs,∃ l',x = s.el l'∧FV s l'):∃ ys:List α,xs = ys.map f∧∀ y∈ys,Q y:=by
 induction xs with
 | nil=>exact ⟨[],rfl,by simp⟩
 | cons x r ih =>
   obtain ⟨l',rfl,hl⟩:=h x (.head _)
   obtain ⟨y,hy,hq⟩:=hs l' hl
   obtain ⟨ys,rfl,hys⟩:=ih fun z hz=>h z (.tail _ hz)
   exact ⟨y :: ys,by rw [hy];rfl,by simp only [zp,forall_eq_or_imp];exact ⟨hq,hys⟩⟩
theorem ap9 {e:TypeId} {l:List V} (h:FV (.sl e .str) l):∃ zs:List (List UInt8),zs.length < 2 ^ 27∧l = [.sl 1 (zs.map V.str)]∧∀ z∈zs,z.length < 2 ^ 27:=by
 obtain ⟨xs,hl,rfl,hx⟩:=h
 obtain ⟨ys,rfl,hq⟩:=arl (s:=.str) (Q:=fun s:List UInt8=>s.length < 2 ^ 27) (f:=V.str) (fun l ⟨n,hn,hl⟩=>⟨n,by subst hl;rfl,hn⟩) hx
 exact ⟨ys,by simpa using hl,rfl,hq⟩
end
theorem ag5 {C:Checked} {os:Os} {fid:FuncId} {f:Func} {s:ChangeSpec} {k:(H:Type)→List (DataW H)→Bool} {laid:List (String×DataW Unit)} {T:TypeId→Prop} (own:ownKnob C.prog.godebug = none) (started:os.Started)
  (noInit:C.prog.inits.idxOf? fid = none) (hfn:C.prog.funcs[fid]? = some f) (H:Type) (enc:TypeId×Value→H) (F:Stop.Interp)
  (witness:∃ (w:World) (tape:Tape) (i:Input),w.os = os∧(w.forCall tape i).Shaped C.prog∧i.vars = []∧Input.okWide C.prog (w.forCall tape i) .any w.heap.size fid i ∧
    ({ OpenSpec.ofChange s with cond:=some k }:OpenSpec).preRow enc C.prog f [] false laid (w.forCall tape i).memory i.args∧({}:Assume).holds C.prog (lone (Frame.enter C.prog fid i.args .normal) [] (w.forCall tape i)))
  (K:Kids C.prog T) (hsz:∀ {t e:TypeId},T t→C.prog.underlying t = some (.slice e)→0 < C.prog.cellsOf e) (hT:∀ t∈f.params.toList,T t) (hvars:s.vars = [])
  (hspec:∀ ds:List (DataW H),ds.length = f.params.size→s.fn H ds = { results:=[.lit (.bool true)],args:=ds }) {t:TypeId} (hr:f.resultTypes = #[t]) (ht:C.prog.underlying t = some .bool)
  (hcall:∀ (W:World) (args:Array Value) (ds gs:List (DataW H)) (p:List MemPlace),(∀ (j:Nat) t v,f.params[j]? = some t→args[j]? = some v→Value.okWide C.prog W .any 0 t v) →
    DataW.TrodAll enc C.prog W 0 (fun _=>true) true f.params.toList args.toList ds p→laidMetH C.prog laid W→W.ShapedOpen C.prog→k H (ds++gs) = true →
    Calls C.prog fid args W fun e W'=>e = .returned (.bool true)∧Below W.heap.size W W') :
  ReturnsInHanded {} C os fid .any (({ OpenSpec.ofChange s with cond:=some k }:OpenSpec).preRow enc C.prog f [] false laid) ((({ OpenSpec.ofChange s with cond:=some k }:OpenSpec).at F).post enc C.prog f false true false false):=by
 refine returnsInHanded_of_row (C:=C) (s:={ OpenSpec.ofChange s with cond:=some k }) own started noInit hfn witness ?_
 intro W base args ds gs before hval hW _ hk _ hL hsh _
 have hW':=hW
 obtain ⟨p,q,hA,hV,rfl,hfz,hnd⟩:=hW
 refine (hcall W args ds gs p (fun j t v h1 h2=>Value.okWide_any_base (hval j t v h1 h2)) hA hL hsh (hk k rfl)).mono fun e W' ⟨he,hb⟩=>?_
 exact ⟨_,he,an9 (s:=s) K hsz hT hvars hspec hr ht hW' hb⟩
end Av
end
section
namespace Av
open Go Go.RowKit Go.ChangeShapes Go.WideShapes Go.ChangeAt Go.Joins Go.Deep
set_option linter.unusedVariables false
section
variable {H:Type} {enc:TypeId×Value→H} {P:Program} {W:World} {B:DataW H→Nat} {A:List (DataW H)→Nat}
theorem aq0 (hB:Blk B A) {α:Type} {s:α→Nat} {len:Nat} {D:Nat→DataW H} {q:Nat→α} (h:∀ i,i < len→s (q i)≤B (D i)):(((List.range len).map q).map s).sum≤A ((List.range len).map D):=by
 have key:∀ l:List Nat,(∀ i∈l,i < len)→((l.map q).map s).sum≤A (l.map D):=by
  intro l
  induction l with
  | nil=>intro _;simp
  | cons i r ih =>
    intro hl
    simp only [zm,List.sum_cons]
    rw [hB.cons]
    have:=ih fun j hj=>hl j (.tail _ hj)
    have:=h i (hl i (.head _))
    omega
 exact key _ fun i hi=>kP.1 hi
theorem agN (hB:Blk B A) {α:Type} [Inhabited α] {e t:TypeId} {k:Nat} {c:α→List V} {el:α→V} (hel:∀ x,(el x).cells = c x) (hpos:0 < k) {s:α→Nat} {Q:α→Prop} (he:P.underlying t = some (.slice e)) (hce:P.cellsOf e = k)
  {fuel:Nat} {cs:List Value} {y:DataW H×List MemPlace} (h:DataW.trod enc P W 0 (fun _=>true) true fuel t cs = some y)
  (ih:∀ n cs' z,B z.1 < B y.1→DataW.trod enc P W 0 (fun _=>true) true n e cs' = some z→cs'.length = k∧∃ x,V5 W cs' (c x)∧Q x∧s x≤B z.1) :
  cs.length = 1∧∃ xs:List α,V5 W cs [.sl k (xs.map el)]∧xs.length≤B y.1∧(xs.map s).sum≤B y.1∧∀ x∈xs,Q x:=by
 rcases open_slice he h with ⟨rfl,rfl⟩|⟨a,len,cap,m,n,D,Pl,rfl,hbl,hl,hm,hmm,rfl,hx⟩
 ·exact ⟨rfl,[],.one rfl .sl0,by simp,by simp,by simp⟩
 ·refine ⟨rfl,?_⟩
  simp only [if_true] at hmm
  subst m
  rw [hce] at hx
  have h1:=hB.slc ((List.range len).map D) ((List.range (cap - len)).map fun j=>D (len + j))
  have h2:=hB.len ((List.range len).map D)
  simp only [zh,List.length_range] at h2
  by_cases h0:len = 0
  ·subst h0
   exact ⟨[],.one rfl .sl0,by simp,by simp,by simp⟩
  have each:∀ i:Nat,i < len→∃ q:α×List Value,q.2.length = k∧V5 W q.2 (c q.1)∧(∀ j (h:j < q.2.length),W.cell? ((a.add (i * k)).add j) = some q.2[j])∧Q q.1∧s q.1≤B (D i):=by
   intro i hi
   obtain ⟨cs',e1,e2⟩:=hx i (by omega)
   obtain ⟨_,hlen',hcell⟩:=World.cells?_some e1
   have hlt:B (D i) < B (DataW.slice ((List.range len).map D) ((List.range (cap - len)).map fun j=>D (len + j))):=by
    have:=hB.mem (kl.2 ⟨i,kP.2 hi,rfl⟩:D i∈(List.range len).map D)
    omega
   obtain ⟨_,x,r1,r2,r3⟩:=ih n cs' (D i,Pl i) hlt e2
   refine ⟨(x,cs'),hlen',r1,fun j hj=>?_,r2,r3⟩
   have hj2:j < cs'.length:=hj
   have:=hcell j (by omega)
   rw [this,zf hj2]
  have hsp:∃ v0,W.cell? a = some v0:=by
   obtain ⟨q,q1,q2,q3,_⟩:=each 0 (by omega)
   have:=q3 0 (by omega)
   exact ⟨_,by simpa [Addr.add] using this⟩
  obtain ⟨v0,hv0⟩:=hsp
  obtain ⟨hs,hbl⟩:=adp hv0
  have ha:a = ⟨a.block,a.off,none⟩:=by cases a;simp_all
  have hadd:∀ i,a.add i = ⟨a.block,a.off + i,none⟩:=by
   intro i
   unfold Addr.add
   split
   ·rename_i hi;subst hi;exact ha
   ·rfl
  have hadd2:∀ i j,(a.add i).add j = ⟨a.block,a.off + (i + j),none⟩:=by
   intro i j
   rw [hadd]
   unfold Addr.add
   split
   ·rename_i hj;subst hj;rfl
   ·simp only [ko]
  have:Inhabited (α×List Value):=⟨(default,[])⟩
  obtain ⟨q,hq⟩:=choose_lt each
  have hcl:∀ i,i < len→(c (q i).1).length = k:=fun i hi=>by obtain ⟨a1,a2,_⟩:=hq i hi;rw [a2.1,a1]
  refine ⟨(List.range len).map fun i=>(q i).1,.one rfl ?_,?_,?_,?_⟩
  ·have hL:(((List.range len).map fun i=>(q i).1).map el).length = len:=by simp
   have key:Rep W (amd W) noμ (.slice (some ⟨a.block,a.off,none⟩) (((List.range len).map fun i=>(q i).1).map el).length cap) (.sl k (((List.range len).map fun i=>(q i).1).map el)):=by
    refine .sl (fun i j=>(q i).2.getD j .nilIface) (by omega) ?_ ?_ ?_
    ·intro i hi
     simp only [zH,kw]
     rw [hel];exact hcl i (by omega)
    ·intro i hi j hj
     simp only [zH,kw] at hj
     rw [hel] at hj
     obtain ⟨e1,e2,e3,_⟩:=hq i (by omega)
     have hj':j < (q i).2.length:=by rw [← e2.1];exact hj
     have c1:=e3 j hj'
     rw [hadd2] at c1
     simp only [zo,zf hj',Option.getD_some]
     exact ⟨c1,hbl,(e2.2 j hj' hj).1⟩
    ·intro i hi j hj
     have hj2:=hj
     simp only [zH,kw] at hj2
     rw [hel] at hj2
     obtain ⟨e1,e2,e3,_⟩:=hq i (by omega)
     have hj':j < (q i).2.length:=by rw [← e2.1];exact hj2
     simp only [zH,kw,hel]
     simp only [zo,zf hj',Option.getD_some]
     exact (e2.2 j hj' hj2).2
   rw [hL,← ha] at key
   exact key
  ·simp;omega
  ·have:=aq0 hB (s:=s) (len:=len) (D:=D) (q:=fun i=>(q i).1) fun i hi=>(hq i hi).2.2.2.2
   refine kD this (Nat.le_of_lt h1)
  ·intro x hx'
   obtain ⟨i,hi,rfl⟩:=kl.1 hx'
   exact (hq i (kP.1 hi)).2.2.2.1
instance:Inhabited Qq:=⟨.mk [] false [] 0⟩
structure Qq.Ok (x:Qq):Prop where
 m:x.Sm
 t:x.Top
theorem adq:∀ l:List Qq,vt l = (l.map Qq.siz).sum
 | []=>rfl
 | x :: r=>by rw [vt,adq r];simp
theorem Qq.v_cells (x:Qq):x.v.cells = x.cells:=by rw [Qq.v_def];rfl
structure aqL (P:Program) (tb tl tw ts tbo ti:TypeId):Prop where
 l:P.underlying tl = some (.slice tb)
 c:P.cellsOf tb = 4
 f:∃ f0 f1 f2 f3:Field,P.underlying tb = some (.struct #[f0,f1,f2,f3])∧(f0.type = tw∧f0.offset = 0)∧(f1.type = tbo∧f1.offset = 1)∧(f2.type = tl∧f2.offset = 2)∧(f3.type = ti∧f3.offset = 3)
 cl:P.cellsOf tl = 1∧P.cellsOf tw = 1∧P.cellsOf tbo = 1∧P.cellsOf ti = 1
 w:(ahl P (.sl ts .str)).1 tw = true
 b:(ahl P .bool).1 tbo = true
 i:(ahl P .int).1 ti = true
theorem agO (hB:Blk B A) {tb tl tw ts tbo ti:TypeId} (T:aqL P tb tl tw ts tbo ti):∀ N,N≤1048576→∀ (fuel:Nat) (cs:List Value) (y:DataW H×List MemPlace),B y.1 < N→DataW.trod enc P W 0 (fun _=>true) true fuel tb cs = some y →
  cs.length = 4∧∃ x:Qq,V5 W cs x.cells∧x.Ok∧x.siz≤B y.1
 | 0,_,_,_,_,h,_=>absurd h (kV _)
 | N + 1,hN,fuel,cs,y,hy,h=>by
   obtain ⟨f0,f1,f2,f3,hu,⟨t0,o0⟩,⟨t1,o1⟩,⟨t2,o2⟩,⟨t3,o3⟩⟩:=T.f
   obtain ⟨c0,c1,c2,c3⟩:=T.cl
   obtain ⟨xs,n,_,rfl,hcl,hxl,hf⟩:=DataW.trod_struct hu h
   rw [T.c] at hcl
   have hxl:xs.length = 4:=hxl
   match cs,hcl,xs,hxl with
   | [v0,v1,v2,v3],_,[x0,x1,x2,x3],_ =>
     have g0:=hf 0 f0 rfl
     have g1:=hf 1 f1 rfl
     have g2:=hf 2 f2 rfl
     have g3:=hf 3 f3 rfl
     rw [t0,o0,c1] at g0
     rw [t1,o1,c2] at g1
     rw [t2,o2,c0] at g2
     rw [t3,o3,c3] at g3
     simp only [ku,List.drop_succ_cons,List.take_succ_cons,List.take_zero,List.getElem?_cons_zero,List.getElem?_cons_succ] at g0 g1 g2 g3
     have hag:=hB.agg [x0.1,x1.1,x2.1,x3.1]
     rw [hB.cons,hB.cons,hB.cons,hB.cons] at hag
     simp only [zm,zl] at hy ⊢
     obtain ⟨_,w0,q0,_,k0⟩:=(acI (H:=H) (enc:=enc) (P:=P) (W:=W) hB (.sl ts .str)).1 tw T.w n _ _ g0
     obtain ⟨zs,z1,rfl,z2⟩:=ap9 (k0 (by omega))
     obtain ⟨_,w1,q1,_,k1⟩:=(acI (H:=H) (enc:=enc) (P:=P) (W:=W) hB .bool).1 tbo T.b n _ _ g1
     obtain ⟨b,rfl⟩:=k1 (by omega)
     obtain ⟨_,w3,q3,_,k3⟩:=(acI (H:=H) (enc:=enc) (P:=P) (W:=W) hB .int).1 ti T.i n _ _ g3
     obtain ⟨i,rfl⟩:=k3 (by omega)
     have hone:=hB.one x0.1
     obtain ⟨_,sub,q2,s1,s2,s3⟩:=agN hB (c:=Qq.cells) (el:=Qq.v) (k:=4) (s:=Qq.siz) (Q:=Qq.Ok) Qq.v_cells (by decide) T.l T.c g2 fun m cs' z hz hz2=>agO hB T N (by omega) m cs' z (by omega) hz2
     refine ⟨rfl,.mk zs b sub i,?_,⟨⟨?_,fun s hs=>?_⟩,?_,?_,fun z hz=>(s3 z hz).m⟩,?_⟩
     ·exact ((q0.app q1).app q2).app q3
     ·exact Nat.lt_trans z1 (by decide)
     ·exact Nat.lt_trans (z2 s hs) (by decide)
     ·exact Nat.lt_trans z1 (by decide)
     ·show sub.length < _
      omega
     ·rw [Qq.siz,adq]
      omega
theorem aoP (hB:Blk B A) {tb tl tw ts tbo ti:TypeId} (T:aqL P tb tl tw ts tbo ti) {v:Value} {d:DataW H} {p:List MemPlace} (hval:Value.okWide P W .any 0 tl v) (hd:DataW.Trod enc P W 0 (fun _=>true) true tl v d p) (hb:B d≤1048576) :
  ∃ xs:List Qq,aqM W v (.sl 4 (xs.map Qq.v))∧vt xs < 2 ^ 27∧∀ x∈xs,x.Top:=by
 obtain ⟨a0,l0,c0,rfl⟩:=okWide_slice T.l hval
 obtain ⟨fuel,hf⟩:=hd
 obtain ⟨_,xs,c1,_,h2,h3⟩:=agN hB (c:=Qq.cells) (el:=Qq.v) (k:=4) (s:=Qq.siz) (Q:=Qq.Ok) Qq.v_cells (by decide) T.l T.c hf fun m cs' z hz hz2=>agO hB T 1048576 (zi _) m cs' z (by simp only at hz;omega) hz2
 refine ⟨xs,(c1.2 0 (by simp [Value.cells]) (by simp)).2,?_,fun x hx=>(h3 x hx).t⟩
 rw [adq]
 simp only at h2
 omega
end
end Av
end
