/- From a law's contract to its row: the arguments read again as they read before; the shapes of arguments. -/
import Derived.Test.YtphclkkggijicaaGreatDoorB14
import Derived.WalkKit
import Derived.ProofKit
import Derived.OpenShut
import Derived.ChangeSame
import Derived.ChangeStays
import Derived.ChangeMaps5
import Derived.ChangeCalls
import Derived.JoinedOf
import Derived.RowKit
import Derived.Lib.SmallJoins
set_option linter.unusedVariables false
set_option linter.unusedSimpArgs false
section
namespace Av
open Go Go.RowKit Go.ChangeShapes Go.WideShapes Go.ChangeAt Go.Joins Go.Deep
theorem afj {H:Type} {enc:TypeId×Value→H} {P:Program} {f:Func} {s:ChangeSpec} {apart fresh handsOn again:Bool} {W W':World} {args:Array Value} {v:Value} {ds gs:List (DataW H)} {before pa pv:List MemPlace}
  (hW:DataW.Whole enc P f.params.toList s.vars apart W args.toList ds gs before)
  (hres:∀ (b:Nat) (sp:Nat→Bool) (hd:Bool),DataW.TrodAll enc P W' b sp hd f.resultTypes.toList (v.resultList f.resultTypes.size) (s.fn H (ds++gs)).results [])
  (hargs:∀ sp:Nat→Bool,(∀ p∈before,sp p.block = true)→DataW.TrodAll enc P W' 0 sp true f.params.toList args.toList (s.fn H (ds++gs)).args pa)
  (hvars:∀ sp:Nat→Bool,(∀ p∈before,sp p.block = true)→DataW.TrodVars enc P W' sp s.vars (s.fn H (ds++gs)).vars pv)
  (hps:before = pa++pv) (hb:Below W.heap.size W W')
  (hok:∀ (j:Nat) (t:TypeId) (r:Value),f.resultTypes[j]? = some t→(v.resultList f.resultTypes.size)[j]? = some r→Value.okWide P W' .any 0 t r) :
  s.post enc P f apart fresh handsOn again W args v W':=by
 have hlt:∀ p∈before,p.block < W.heap.size:=fun p hp=>hW.lt p hp
 have hold:∀ p∈before,(fun b=>decide (b < W.heap.size)) p.block = true:=fun p hp=>by simpa using hlt p hp
 refine ⟨ds,gs,before,[],pa,pv,hW,hres _ _ _,hargs _ hold,hvars _ hold,World.keptBut_mono (fun p hp=>⟨hp,?_⟩) (hb.frame (·∈before)),fun _=>?_⟩
 ·rw [hps,zX] at hp
  exact Or.inr hp
 ·obtain ⟨_,_,_,_,_,hz,hn⟩:=hW
  refine ⟨hok,_,_,([]++pa)++pv,⟨[]++pa,pv,trodAll_append (hargs _ (fun _ _=>rfl)) (hres _ _ _),hvars _ (fun _ _=>rfl),rfl,?_,?_⟩,?_⟩
  ·intro b off hp
   have hin:MemPlace.cell b off∈before:=by rw [hps];simpa using hp
   rw [hb.frozen (hlt _ hin)]
   exact hz b off hin
  ·intro ha
   have:=hn ha
   rw [hps] at this
   simpa using this
  ·intro p hp _
   rw [hps]
   simpa using hp
section
variable {H:Type} {enc:TypeId×Value→H} {P:Program}
theorem vI {T:TypeId→Prop} (K:Kids P T) (hsz:∀ {t e:TypeId},T t→P.underlying t = some (.slice e)→0 < P.cellsOf e) {W W':World} (hb:Below W.heap.size W W') {sp':Nat→Bool} :
  ∀ {ts:List TypeId} {vs:List Value} {ds:List (DataW H)} {ps:List MemPlace},(∀ t∈ts,T t)→DataW.TrodAll enc P W 0 (fun _=>true) true ts vs ds ps→(∀ p∈ps,sp' p.block = true)→DataW.TrodAll enc P W' 0 sp' true ts vs ds ps
 | [],[],[],_,_,h,_=>h
 | _ :: _,_ :: _,_ :: _,_,hT,⟨p,q,h1,h2,e⟩,hs=>by
   have hlt:=DataW.TrodAll.lt (show DataW.TrodAll enc P W 0 (fun _=>true) true (_ :: _) (_ :: _) (_ :: _) _ from ⟨p,q,h1,h2,e⟩)
   refine ⟨p,q,?_,vI K hsz hb (fun t ht=>hT t (kx _ ht)) h2 (fun x hx=>hs x (by rw [e];exact List.mem_append_right _ hx)),e⟩
   obtain ⟨n,hn⟩:=h1
   exact ⟨n,DataW.trod_stays K hsz (fun h=>by cases h) (hT _ (by simp)) hn (fun x hx=>hb.same (hlt x (by rw [e];exact List.mem_append_left _ hx))) (fun x hx=>hs x (by rw [e];exact List.mem_append_left _ hx))⟩
theorem an9 {T:TypeId→Prop} (K:Kids P T) (hsz:∀ {t e:TypeId},T t→P.underlying t = some (.slice e)→0 < P.cellsOf e) {f:Func} {s:ChangeSpec} {apart fresh again:Bool} {W W':World} {args:Array Value}
  {ds gs:List (DataW H)} {before:List MemPlace} (hT:∀ t∈f.params.toList,T t) (hvars:s.vars = []) (hfn:∀ ds:List (DataW H),ds.length = f.params.size→s.fn H ds = { results:=[.lit (.bool true)],args:=ds })
  {t:TypeId} (hr:f.resultTypes = #[t]) (ht:P.underlying t = some .bool) (hW:DataW.Whole enc P f.params.toList s.vars apart W args.toList ds gs before) (hb:Below W.heap.size W W') :
  s.post enc P f apart fresh false again W args (.bool true) W':=by
 have hW':=hW
 obtain ⟨p,q,hA,hV,rfl,hz,hn⟩:=hW
 rw [hvars] at hV
 obtain ⟨rfl,rfl⟩:=trodVars_none hV
 have hl:ds.length = f.params.size:=by have:=(trodAll_length hA).2;simpa using this
 have hf:=hfn ds hl
 refine afj (pa:=p) (pv:=[]) hW' ?_ ?_ ?_ (by simp) hb ?_
 ·intro b sp hd
  rw [zY,hf,hr]
  exact trodAll_cons_mk (shut_bool ht _) trodAll_mk0
 ·intro sp hs
  rw [zY,hf]
  exact vI K hsz hb hT hA (fun x hx=>hs x (by simpa using hx))
 ·intro sp _
  rw [zY,hf,hvars]
  rfl
 ·exact ok_one hr rfl (okWide_bool_mk ht _)
def aqM (W:World) (v:Value) (x:V):Prop:=Rep W (amd W) noμ v x
section
variable {W:World} {t:TypeId} {v:Value} {d:DataW H} {p:List MemPlace}
theorem alh (ht:P.underlying t = some .string) (hval:Value.okWide P W .any 0 t v) (hd:DataW.Trod enc P W 0 (fun _=>true) true t v d p):∃ l:List UInt8,l.length≤Go.maxLen∧aqM W v (V.str l):=by
 obtain ⟨s,rfl,_,_,hw⟩:=ChangeMaps.open_string ht hval hd
 refine ⟨s.data.toList,by simpa using hw,?_⟩
 have e:Value.string s = Value.string ⟨s.data.toList.toArray⟩:=by simp
 rw [e]
 exact .sc rfl
theorem adp {a:Addr} {x:Value} (h:W.cell? a = some x):a.spot = none∧a.block < W.heap.size:=by
 unfold World.cell? at h
 cases hb:W.heap[a.block]? with
 | none=>rw [hb] at h;cases h
 | some o =>
   rw [hb] at h
   refine ⟨?_,(zU.1 hb).1⟩
   cases o<;>simp only at h<;>try cases h
   split at h
   ·cases h
   ·rename_i hs;simpa using hs
theorem aoN {e:TypeId} {k:IntKind} (ht:P.underlying t = some (.slice e)) (he:P.underlying e = some (.int k)) (hc:P.cellsOf e = 1) (hval:Value.okWide P W .any 0 t v) (hd:DataW.Trod enc P W 0 (fun _=>true) true t v d p) :
  ∃ zs:List Int,zs.length≤Go.maxLen∧(∀ n∈zs,(Lit.int k n).wf = true)∧aqM W v (.sl 1 (zs.map fun n=>.sc (.int k n))):=by
 obtain ⟨a0,l0,c0,rfl⟩:=okWide_slice ht hval
 obtain ⟨fuel,hf⟩:=hd
 rcases open_ints ht he hc hf with ⟨h1,_⟩|⟨a,len,cap,zs,h1,_,hl,hm,hlen,_,hcell,hwf⟩
 ·simp only [Value.cells,ke,Value.slice.injEq,and_true] at h1
  obtain ⟨rfl,rfl,rfl⟩:=h1
  exact ⟨[],by simp,by simp,.sl0⟩
 ·simp only [Value.cells,ke,Value.slice.injEq,and_true] at h1
  obtain ⟨rfl,rfl,rfl⟩:=h1
  simp only [if_true] at hlen
  refine ⟨zs.take l0,by rw [zM];omega,fun n hn=>hwf n (List.mem_of_mem_take hn),?_⟩
  by_cases h0:l0 = 0
  ·subst h0
   exact .sl0
  ·have hc0:=hcell 0 (by omega)
   have ha0:a.add 0 = a:=by simp [Addr.add]
   rw [ha0] at hc0
   obtain ⟨hs,hb⟩:=adp hc0
   have ha:a = ⟨a.block,a.off,none⟩:=by cases a;simp_all
   have hL:(zs.take l0).length = l0:=by rw [zM];omega
   have hadd:∀ i,a.add i = ⟨a.block,a.off + i,none⟩:=by
    intro i
    unfold Addr.add
    split
    ·rename_i hi;subst hi;exact ha
    ·rfl
   have hL2:((zs.take l0).map fun n=>V.sc (.int k n)).length = l0:=by rw [zh,hL]
   have key:Rep W (amd W) noμ (.slice (some ⟨a.block,a.off,none⟩) ((zs.take l0).map fun n=>V.sc (.int k n)).length c0) (.sl 1 ((zs.take l0).map fun n=>.sc (.int k n))):=by
    refine .sl (fun i _=>.int k (zs.getD i 0)) (by omega) ?_ ?_ ?_
    ·intro i hi;simp [V.cells]
    ·intro i hi j hj
     simp only [zH,V.cells,List.length_singleton] at hj
     obtain rfl:j = 0:=by omega
     have:=hcell i (by omega)
     rw [hadd] at this
     exact ⟨by simpa using this,hb,rfl⟩
    ·intro i hi j hj
     simp only [zH,V.cells,List.length_singleton] at hj
     obtain rfl:j = 0:=by omega
     have hz:zs.getD i 0 = zs[i]'(by omega):=by simp [zo,zf (show i < zs.length by omega)]
     simp only [zH,V.cells,List.getElem_cons_zero,List.getElem_take,hz]
     exact .sc rfl
   rw [hL2,← ha] at key
   exact key
end
end
end Av
end
