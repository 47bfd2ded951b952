/- Arguments of any tree of structs and slices: what they say, and that they are small where their bulk is. -/
import Derived.Test.YtphclkkggijicaaGreatDoorK36
import Derived.Deep.DeepHandedRow
import Derived.Deep.Slices
set_option linter.unusedVariables false
set_option linter.unusedSimpArgs false
section
namespace Av
open Go Go.RowKit Go.ChangeShapes Go.WideShapes Go.ChangeAt Go.Joins Go.Deep
set_option linter.unusedVariables false
inductive Sh where
 | int|bool|str
 | sl (e:TypeId) (s:Sh)
 | nil
 | cons (t:TypeId) (a r:Sh)
def Sh.n:Sh→Nat
 | .nil=>0
 | .cons _ a r=>a.n + r.n
 | _=>1
def Sh.el:Sh→List V→V
 | .nil,l=>.agg l
 | .cons _ _ _,l=>.agg l
 | _,v :: _=>v
 | _,[]=>.top
def FV:Sh→List V→Prop
 | .int,l=>∃ n,l = [V.int n]
 | .bool,l=>∃ b,l = [V.bool b]
 | .str,l=>∃ s,s.length < 2 ^ 27∧l = [V.str s]
 | .sl _ s,l=>∃ xs,xs.length < 2 ^ 27∧l = [.sl s.n xs]∧∀ x∈xs,∃ l',x = s.el l'∧FV s l'
 | .nil,l=>l = []
 | .cons _ a r,l=>∃ l1 l2,l = l1++l2∧FV a l1∧FV r l2
def agQ (P:Program):Sh→(TypeId→Bool)×(List Field→Nat→Bool)
 | .int=>(fun t=>(match P.underlying t with|some (.int .i64)=>true|_=>false),fun _ _=>false)
 | .bool=>(fun t=>(match P.underlying t with|some .bool=>true|_=>false),fun _ _=>false)
 | .str=>(fun t=>(match P.underlying t with|some .string=>true|_=>false),fun _ _=>false)
 | .sl e s=>(fun t=>(match P.underlying t with|some (.slice e')=>e' == e && ((agQ P s).1 e && (P.cellsOf e == s.n && (decide (1≤P.bytesOf e) && decide (0 < s.n))))|_=>false),fun _ _=>false)
 | .nil=>(fun _=>false,fun fs _=>(match fs with|[]=>true|_=>false))
 | .cons t a r=>(fun u=>(match P.underlying u with|some (.struct fs)=>P.cellsOf u == a.n + r.n && (match fs.toList with|f :: fs'=>f.type == t && (f.offset == 0 && (P.cellsOf t == a.n && ((agQ P a).1 t && (agQ P r).2 fs' a.n)))|[]=>false)|_=>false),
    fun fs off=>(match fs with|f :: fs'=>f.type == t && (f.offset == off && (P.cellsOf t == a.n && ((agQ P a).1 t && (agQ P r).2 fs' (off + a.n))))|[]=>false))
section
variable {H:Type} {enc:TypeId×Value→H} {P:Program} {W:World}
def yf (W:World) (cs:List Value) (ws:List V):Prop:=ws.length = cs.length∧∀ j (h:j < cs.length) (h':j < ws.length),cs[j].oneCell' = true∧Rep W (amX W) noμ cs[j] ws[j]
theorem yf.one {v:Value} {x:V} (h1:v.oneCell' = true) (h2:Rep W (amX W) noμ v x):yf W [v] [x]:=by
 refine ⟨rfl,fun j h h'=>?_⟩
 match j,h with
 | 0,_=>exact ⟨h1,h2⟩
theorem yf.app {a b:List Value} {x y:List V} (h1:yf W a x) (h2:yf W b y):yf W (a++b) (x++y):=by
 refine ⟨by simp [h1.1,h2.1],fun j h h'=>?_⟩
 have e:=h1.1
 by_cases hj:j < a.length
 ·rw [kq hj,kq (by omega)];exact h1.2 j hj (by omega)
 ·have hj':a.length≤j:=by omega
  simp only [zC] at h h'
  rw [kZ hj',kZ (by omega)]
  simp only [e]
  exact h2.2 (j - a.length) (by omega) (by omega)
theorem anR {s:Sh} {l:List V} (hl:l.length = s.n) (h1:∀ v∈l,v.cells = [v]):(s.el l).cells = l:=by
 cases s with
 | nil=>rfl
 | cons=>rfl
 | _ =>
   simp only [Sh.n] at hl
   match l,hl with
   | [v],_=>exact h1 v (by simp)
structure Blk (B:DataW H→Nat) (A:List (DataW H)→Nat):Prop where
 str:∀ s,s.length≤B (.lit (.string s))
 slc:∀ e s,A e < B (.slice e s)
 agg:∀ p,A p≤B (.agg p)
 one:∀ d,1≤B d
 cons:∀ d l,A (d :: l) = B d + A l
variable {B:DataW H→Nat} {A:List (DataW H)→Nat}
theorem Blk.mem (hB:Blk B A) {l:List (DataW H)} {d:DataW H} (hd:d∈l):B d≤A l:=by
 induction l with
 | nil=>cases hd
 | cons a r ih =>
   rw [hB.cons]
   rcases zn.1 hd with rfl|h
   ·omega
   ·have:=ih h;omega
theorem Blk.len (hB:Blk B A) (l:List (DataW H)):l.length≤A l:=by
 induction l with
 | nil=>simp
 | cons a r ih=>rw [hB.cons,List.length_cons];have:=hB.one a;omega
def aoj (H:Type) (B:DataW H→Nat) (enc:TypeId×Value→H) (P:Program) (W:World) (s:Sh):Prop :=
 ∀ t,(agQ P s).1 t = true→∀ fuel (cs:List Value) (y:DataW H×List MemPlace),DataW.trod enc P W 0 (fun _=>true) true fuel t cs = some y →
  cs.length = s.n∧∃ ws,yf W cs ws∧(∀ v∈ws,v.cells = [v])∧(B y.1≤1048576→FV s ws)
def amS (H:Type) (A:List (DataW H)→Nat) (enc:TypeId×Value→H) (P:Program) (W:World) (s:Sh):Prop :=
 ∀ fs off,(agQ P s).2 fs off = true→∀ n (cs:List Value) (xs:List (DataW H×List MemPlace)),xs.length = fs.length→off + s.n = cs.length →
  (∀ (i:Nat) (f:Field),fs[i]? = some f→DataW.trod enc P W 0 (fun _=>true) true n f.type ((cs.drop f.offset).take (P.cellsOf f.type)) = xs[i]?) →
  ∃ ws,yf W (cs.drop off) ws∧(∀ v∈ws,v.cells = [v])∧(A (xs.map (·.1))≤1048576→FV s ws)
theorem anf (hB:Blk B A) {e:TypeId} {s:Sh} (ih:aoj H B enc P W s):aoj H B enc P W (.sl e s):=by
 intro t ht fuel cs y h
 simp only [agQ] at ht
 split at ht
 ·rename_i e' he
  simp only [zv,kA,zL] at ht
  obtain ⟨rfl,hfit,hce,hb,hpos⟩:=ht
  rcases open_slice he h with ⟨rfl,rfl⟩|⟨a,len,cap,m,n,D,Pl,rfl,hbl,hl,hm,hmm,rfl,hx⟩
  ·exact ⟨rfl,[.sl s.n []],.one rfl .sl0,by simp [V.cells],fun _=>⟨[],by simp,rfl,by simp⟩⟩
  ·refine ⟨rfl,?_⟩
   simp only [if_true] at hmm
   subst m
   rw [hce] at hx
   have hw0:B (DataW.slice ((List.range len).map D) ((List.range (cap - len)).map fun j=>D (len + j)):DataW H)≤1048576→len < 2 ^ 27∧∀ i,i < len→B (D i)≤1048576:=by
    intro hz
    have h1:=hB.slc ((List.range len).map D) ((List.range (cap - len)).map fun j=>D (len + j))
    have h2:=hB.len ((List.range len).map D)
    simp only [zh,List.length_range] at h2
    refine ⟨by omega,fun i hi=>?_⟩
    have:=hB.mem (kC.2 ⟨i,List.mem_range.2 hi,rfl⟩:D i∈(List.range len).map D)
    omega
   by_cases h0:len = 0
   ·subst h0
    exact ⟨[.sl s.n []],.one rfl .sl0,by simp [V.cells],fun _=>⟨[],by simp,rfl,by simp⟩⟩
   have each:∀ i:Nat,i < len→∃ q:List V×List Value,q.2.length = s.n∧yf W q.2 q.1∧(∀ v∈q.1,v.cells = [v])∧(∀ j (h:j < q.2.length),W.cell? ((a.add (i * s.n)).add j) = some q.2[j]) ∧
     (B (D i)≤1048576→FV s q.1):=by
    intro i hi
    obtain ⟨cs',e1,e2⟩:=hx i (by omega)
    obtain ⟨_,hlen',hcell⟩:=World.cells?_some e1
    obtain ⟨_,ws,r1,r2,r3⟩:=ih e' hfit n cs' _ e2
    refine ⟨(ws,cs'),hlen',r1,r2,fun j hj=>?_,r3⟩
    have hj2:j < cs'.length:=hj
    have:=hcell j (by omega)
    rw [this,ze hj2]
   have hsp:∃ v0,W.cell? a = some v0:=by
    obtain ⟨q,q1,q2,_,q3,_⟩:=each 0 (by omega)
    have:=q3 0 (by omega)
    exact ⟨_,by simpa [Addr.add] using this⟩
   obtain ⟨v0,hv0⟩:=hsp
   obtain ⟨hs,hbl⟩:=ahd hv0
   have ha:a = ⟨a.block,a.off,none⟩:=by cases a;simp_all
   have hadd:∀ i,a.add i = ⟨a.block,a.off + i,none⟩:=by
    intro i
    unfold Addr.add
    split
    ·rename_i hi;subst hi;exact ha
    ·rfl
   have hadd2:∀ i j,(a.add i).add j = ⟨a.block,a.off + (i + j),none⟩:=by
    intro i j
    rw [hadd]
    unfold Addr.add
    split
    ·rename_i hj;subst hj;rfl
    ·simp only [kr]
   have:Inhabited (List V×List Value):=⟨([],[])⟩
   obtain ⟨q,hq⟩:=choose_lt each
   have hel:∀ i,i < len→(s.el (q i).1).cells = (q i).1:=fun i hi=>anR (by obtain ⟨a1,a2,_⟩:=hq i hi;rw [a2.1,a1]) (hq i hi).2.2.1
   refine ⟨[.sl s.n ((List.range len).map fun i=>s.el (q i).1)],.one rfl ?_,by simp [V.cells],fun hw=>?_⟩
   ·have hL:((List.range len).map fun i=>s.el (q i).1).length = len:=by simp
    have key:Rep W (amX W) noμ (.slice (some ⟨a.block,a.off,none⟩) ((List.range len).map fun i=>s.el (q i).1).length cap) (.sl s.n ((List.range len).map fun i=>s.el (q i).1)):=by
     refine .sl (fun i j=>(q i).2.getD j .nilIface) (by omega) ?_ ?_ ?_
     ·intro i hi
      simp only [zK,Zd]
      rw [hel i (by omega)]
      obtain ⟨a1,a2,_⟩:=hq i (by omega)
      rw [a2.1,a1]
     ·intro i hi j hj
      simp only [zK,Zd] at hj
      rw [hel i (by omega)] at hj
      obtain ⟨e1,e2,_,e3,_⟩:=hq i (by omega)
      have hj':j < (q i).2.length:=by rw [← e2.1];exact hj
      have c1:=e3 j hj'
      rw [hadd2] at c1
      simp only [zq,ze hj',Option.getD_some]
      exact ⟨c1,hbl,(e2.2 j hj' hj).1⟩
     ·intro i hi j hj
      have hj2:=hj
      simp only [zK,Zd] at hj2
      rw [hel i (by omega)] at hj2
      obtain ⟨e1,e2,_,e3,_⟩:=hq i (by omega)
      have hj':j < (q i).2.length:=by rw [← e2.1];exact hj2
      simp only [zK,Zd,hel i (show i < len by omega)]
      simp only [zq,ze hj',Option.getD_some]
      exact (e2.2 j hj' hj2).2
    rw [hL,← ha] at key
    exact key
   ·obtain ⟨w1,w2⟩:=hw0 hw
    refine ⟨_,by simpa using w1,rfl,fun x hx=>?_⟩
    obtain ⟨i,hi,rfl⟩:=kC.1 hx
    have hi':=List.mem_range.1 hi
    exact ⟨_,rfl,(hq i hi').2.2.2.2 (w2 i hi')⟩
 ·cases ht
theorem ajS (hB:Blk B A) {t:TypeId} {a r:Sh} (iha:aoj H B enc P W a) (ihr:amS H A enc P W r):amS H A enc P W (.cons t a r):=by
 intro fs off hfit n cs xs hxl hoff hf
 simp only [agQ] at hfit
 match fs,hfit with
 | f :: fs',hfit =>
   simp only [zv,kA] at hfit
   obtain ⟨rfl,rfl,hca,h1,h2⟩:=hfit
   match xs,hxl with
   | y :: ys,hxl =>
     simp only [Sh.n] at hoff
     have f0:=hf 0 f rfl
     simp only [List.getElem?_cons_zero] at f0
     obtain ⟨l1,ws1,c1,o1,v1⟩:=iha _ h1 n _ _ f0
     obtain ⟨ws2,c2,o2,v2⟩:=ihr fs' (f.offset + a.n) h2 n cs ys (by simpa using hxl) (by omega) (fun i g hg=>by simpa using hf (i + 1) g (by simpa using hg))
     refine ⟨ws1++ws2,?_,fun v hv=>(zW.1 hv).elim (o1 v) (o2 v),fun hz=>?_⟩
     ·have:=c1.app c2
      rw [hca] at this
      rwa [← Zf,zZ] at this
     ·rw [zp,hB.cons] at hz
      exact ⟨ws1,ws2,rfl,v1 (by omega),v2 (by omega)⟩
theorem alm (hB:Blk B A) (s:Sh):aoj H B enc P W s∧amS H A enc P W s:=by
 induction s with
 | int =>
   refine ⟨fun t ht fuel cs y h=>?_,fun fs off h=>by cases h⟩
   simp only [agQ] at ht
   split at ht
   ·rename_i he
    obtain ⟨n,rfl,rfl,_⟩:=DataW.trod_int he h
    exact ⟨rfl,[V.int n],.one rfl (.sc rfl),by simp [V.cells,V.int],fun _=>⟨n,rfl⟩⟩
   ·cases ht
 | bool =>
   refine ⟨fun t ht fuel cs y h=>?_,fun fs off h=>by cases h⟩
   simp only [agQ] at ht
   split at ht
   ·rename_i he
    obtain ⟨n,rfl,rfl⟩:=DataW.trod_bool he h
    exact ⟨rfl,[V.bool n],.one rfl (.sc rfl),by simp [V.cells,V.bool],fun _=>⟨n,rfl⟩⟩
   ·cases ht
 | str =>
   refine ⟨fun t ht fuel cs y h=>?_,fun fs off h=>by cases h⟩
   simp only [agQ] at ht
   split at ht
   ·rename_i he
    obtain ⟨s,rfl,rfl,_⟩:=DataW.trod_string he h
    refine ⟨rfl,[V.str s.data.toList],.one rfl ?_,by simp [V.cells,V.str],fun hz=>⟨_,?_,rfl⟩⟩
    ·have e:Value.string s = Value.string ⟨s.data.toList.toArray⟩:=by simp
     rw [e];exact .sc rfl
    ·have:=hB.str s.data.toList
     simp only at hz
     omega
   ·cases ht
 | sl e s ih=>exact ⟨anf hB ih.1,fun fs off h=>by cases h⟩
 | nil =>
   refine ⟨fun t ht=>(by cases ht),fun fs off h n cs xs hxl hoff hf=>⟨[],⟨?_,fun j hj hj'=>(by cases hj')⟩,by simp,fun _=>rfl⟩⟩
   simp only [Sh.n] at hoff
   simp;omega
 | cons t a r iha ihr =>
   have hF:=ajS hB (t:=t) iha.1 ihr.2
   refine ⟨fun u hu fuel cs y h=>?_,hF⟩
   simp only [agQ] at hu
   split at hu
   ·rename_i fs he
    simp only [zv,kA] at hu
    obtain ⟨hc,hu⟩:=hu
    obtain ⟨xs,n,_,rfl,hcl,hxl,hf⟩:=DataW.trod_struct he h
    obtain ⟨ws,c1,o1,v1⟩:=hF fs.toList 0 (by simp only [agQ];simpa [zv] using hu) n cs xs (by simpa using hxl) (by simp only [Sh.n];omega) (fun i f hi=>hf i f (by simpa using hi))
    refine ⟨by rw [hcl,hc];rfl,ws,by simpa using c1,o1,fun hz=>v1 ?_⟩
    have:=hB.agg (xs.map (·.1))
    simp only at hz
    omega
   ·cases hu
theorem amK (hB:Blk B A) {t e:TypeId} {s:Sh} {v:Value} {d:DataW H} {p:List MemPlace} (hfit:(agQ P (.sl e s)).1 t = true) (hval:Value.okWide P W .any 0 t v) (hd:DataW.Trod enc P W 0 (fun _=>true) true t v d p) :
  ∃ x,ap7 W v x∧(B d≤1048576→FV (.sl e s) [x]):=by
 have h2:=hfit
 simp only [agQ] at h2
 split at h2
 ·rename_i e' he
  obtain ⟨a0,l0,c0,rfl⟩:=okWide_slice he hval
  obtain ⟨fuel,hf⟩:=hd
  obtain ⟨_,ws,c1,_,v1⟩:=(alm (H:=H) (enc:=enc) (P:=P) (W:=W) hB (.sl e s)).1 t hfit fuel _ _ hf
  simp only [Value.cells] at c1
  have hl:=c1.1
  simp only [List.length_cons,List.length_nil] at hl
  match ws,hl with
  | [x],_=>exact ⟨x,(c1.2 0 (by simp) (by simp)).2,v1⟩
 ·cases h2
theorem aqF {α:Type} {s:Sh} {f:α→V} {Q:α→Prop} (hs:∀ l,FV s l→∃ x,s.el l = f x∧Q x) {xs:List V} (h:∀ x∈xs,∃ l',x = s.el l'∧FV s l'):∃ ys:List α,xs = ys.map f∧∀ y∈ys,Q y:=by
 induction xs with
 | nil=>exact ⟨[],rfl,by simp⟩
 | cons x r ih =>
   obtain ⟨l',rfl,hl⟩:=h x (.head _)
   obtain ⟨y,hy,hq⟩:=hs l' hl
   obtain ⟨ys,rfl,hys⟩:=ih fun z hz=>h z (.tail _ hz)
   exact ⟨y :: ys,by rw [hy];rfl,by simp only [zn,forall_eq_or_imp];exact ⟨hq,hys⟩⟩
end
theorem agz {C:Checked} {os:Os} {fid:FuncId} {f:Func} {s:ChangeSpec} {k:(H:Type)→List (DataW H)→Bool} {laid:List (String×DataW Unit)} {T:TypeId→Prop} (own:ownKnob C.prog.godebug = none) (started:os.Started)
  (noInit:C.prog.inits.idxOf? fid = none) (hfn:C.prog.funcs[fid]? = some f) (H:Type) (enc:TypeId×Value→H) (F:Stop.Interp)
  (witness:∃ (w:World) (tape:Tape) (i:Input),w.os = os∧(w.forCall tape i).Shaped C.prog∧i.vars = []∧Input.okWide C.prog (w.forCall tape i) .any w.heap.size fid i ∧
    ({ OpenSpec.ofChange s with cond:=some k }:OpenSpec).preRow enc C.prog f [] false laid (w.forCall tape i).memory i.args∧({}:Assume).holds C.prog (lone (Frame.enter C.prog fid i.args .normal) [] (w.forCall tape i)))
  (K:Kids C.prog T) (hsz:∀ {t e:TypeId},T t→C.prog.underlying t = some (.slice e)→0 < C.prog.cellsOf e) (hT:∀ t∈f.params.toList,T t) (hvars:s.vars = [])
  (hspec:∀ ds:List (DataW H),ds.length = f.params.size→s.fn H ds = { results:=[.lit (.bool true)],args:=ds }) {t:TypeId} (hr:f.resultTypes = #[t]) (ht:C.prog.underlying t = some .bool)
  (hcall:∀ (W:World) (args:Array Value) (ds gs:List (DataW H)) (p:List MemPlace),(∀ (j:Nat) t v,f.params[j]? = some t→args[j]? = some v→Value.okWide C.prog W .any 0 t v) →
    DataW.TrodAll enc C.prog W 0 (fun _=>true) true f.params.toList args.toList ds p→laidMetH C.prog laid W→W.ShapedOpen C.prog→k H (ds++gs) = true →
    Calls C.prog fid args W fun e W'=>e = .returned (.bool true)∧Below W.heap.size W W') :
  ReturnsInHanded {} C os fid .any (({ OpenSpec.ofChange s with cond:=some k }:OpenSpec).preRow enc C.prog f [] false laid) ((({ OpenSpec.ofChange s with cond:=some k }:OpenSpec).at F).post enc C.prog f false true false false):=by
 refine returnsInHanded_of_row (C:=C) (s:={ OpenSpec.ofChange s with cond:=some k }) own started noInit hfn witness ?_
 intro W base args ds gs before hval hW _ hk _ hL hsh _
 have hW':=hW
 obtain ⟨p,q,hA,hV,rfl,hfz,hnd⟩:=hW
 refine (hcall W args ds gs p (fun j t v h1 h2=>Value.okWide_any_base (hval j t v h1 h2)) hA hL hsh (hk k rfl)).mono fun e W' ⟨he,hb⟩=>?_
 exact ⟨_,he,anD (s:=s) K hsz hT hvars hspec hr ht hW' hb⟩
end Av
end
