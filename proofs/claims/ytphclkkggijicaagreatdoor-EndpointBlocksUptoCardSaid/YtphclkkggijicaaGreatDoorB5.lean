/- Each operation of the model does what the Av kit says (eighth part: bytes, stores, appends). -/
import Derived.Test.YtphclkkggijicaaGreatDoorB4
import Derived.Laws.BytesString
set_option linter.unusedVariables false
set_option linter.unusedSimpArgs false
section
namespace Av
open Go
section
variable {C:Ctx} {w:World} {Z:Nat→Nat→Prop} {μ:Nat→Option Cn} {o:Nat→Option Ob} {b:Nat} {r:Opd→V}
theorem aaV (hg:Good C w Z μ o) (hf:∀ x,b≤x→x < b + KK→μ x = none) (hm:C.m≤b) {w1:World} (hw:w1.heap = w.heap) {cells:Array Value} {e:TypeId} {fr:Nat×Nat} {sz cap:Nat} {xs:List V} {wr:Bool}
  (hfr:∀ k,k < cells.size∨wr = true→¬ (fr.1≤k∧k < fr.2)) (hr:Row w Z noμ (fun k=>cells[k]?) sz xs) (hl:xs.length≤cap∧(wr = true→cap < 2 ^ 63)) (hs:cap * sz≤cells.size) (ho1:Vq C.dr w w1:=by exact .mk) :
  Rep (w1.alloc (.cells cells e fr)) Z (upd μ b (some { block:=w.heap.size,base:=0,cap,sz,n:=xs.length })) (.slice (some ⟨w.heap.size,0,none⟩) xs.length cap) (.hd b 0 xs.length) ∧
   Good C (w1.alloc (.cells cells e fr)) Z (upd μ b (some { block:=w.heap.size,base:=0,cap,sz,n:=xs.length })) (upd o b (some (.buf wr sz xs))) ∧
   Evo b KK w Z μ (w1.alloc (.cells cells e fr)) Z (upd μ b (some { block:=w.heap.size,base:=0,cap,sz,n:=xs.length })):=by
 have hx:=hf b (zi _) (by simp [KK])
 have hg1:Good C w1 Z μ o:=hg.heap hw ho1
 have hsz:w1.heap.size = w.heap.size:=by rw [hw]
 have e1:Evo b KK w Z μ w1 Z μ:=Evo.heap hw
 have e2:Evo b KK w1 Z μ (w1.alloc (.cells cells e fr)) Z (upd μ b (some { block:=w.heap.size,base:=0,cap,sz,n:=xs.length })):=Evo.alloc hg1.zlt hx (zi _) (by simp [KK])
 refine ⟨.hd (c:={ block:=w.heap.size,base:=0,cap,sz,n:=xs.length }) (Qi _ _ _) (by simp [Hdr]),?_,e1.trans e2⟩
 refine hg1.alloc hx hsz.symm hm ⟨rfl,fun _=>⟨rfl,hl,fun _=>zx hg,fun i hz=>((zx hg i) hz).elim,fun i hi=>(hr i hi).1,cells,e,fr,?_,by simpa using hs,hfr,fun i hi j hj=>?_⟩⟩
 ·grind [heap_alloc_new]
 ·obtain ⟨u,f1,f2,f3⟩:=(hr i hi).2 j hj
  exact ⟨u,by simpa using f1,f2,f3.mono (e1.trans e2).cell (e1.trans e2).zs (fun _ _ h=>h)⟩
theorem aiG (hg:Good C w Z μ o) (hf:∀ x,b≤x→x < b + KK→μ x = none) (hm:C.m≤b) {w1:World} (hw:w1.heap = w.heap) {cells:Array Value} {e:TypeId} {fr:Nat×Nat} {sz cap:Nat} {xs:List V}
  (hfr:∀ k,k < cells.size∨true = true→¬ (fr.1≤k∧k < fr.2)) (hr:Row w Z μ (fun k=>cells[k]?) sz xs) (hl:xs.length≤cap∧(true = true→cap < 2 ^ 63)) (hs:cap * sz≤cells.size) (ho1:Vq C.dr w w1:=by exact .mk) :
  Rep (w1.alloc (.cells cells e fr)) Z (upd μ b (some { block:=w.heap.size,base:=0,cap,sz,n:=xs.length })) (.slice (some ⟨w.heap.size,0,none⟩) xs.length cap) (.hd b 0 xs.length) ∧
   Good C (w1.alloc (.cells cells e fr)) Z (upd μ b (some { block:=w.heap.size,base:=0,cap,sz,n:=xs.length })) (upd o b (some (.obuf true sz xs))) ∧
   Evo b KK w Z μ (w1.alloc (.cells cells e fr)) Z (upd μ b (some { block:=w.heap.size,base:=0,cap,sz,n:=xs.length })):=by
 have hx:=hf b (zi _) (by simp [KK])
 have hg1:Good C w1 Z μ o:=hg.heap hw ho1
 have hsz:w1.heap.size = w.heap.size:=by rw [hw]
 have e1:Evo b KK w Z μ w1 Z μ:=Evo.heap hw
 have e2:Evo b KK w1 Z μ (w1.alloc (.cells cells e fr)) Z (upd μ b (some { block:=w.heap.size,base:=0,cap,sz,n:=xs.length })):=Evo.alloc hg1.zlt hx (zi _) (by simp [KK])
 refine ⟨.hd (c:={ block:=w.heap.size,base:=0,cap,sz,n:=xs.length }) (Qi _ _ _) (by simp [Hdr]),?_,e1.trans e2⟩
 refine hg1.alloc hx hsz.symm hm ⟨rfl,fun _=>⟨rfl,hl,fun _=>zx hg,fun i hz=>((zx hg i) hz).elim,fun i hi=>(hr i hi).1,cells,e,fr,?_,by simpa using hs,hfr,fun i hi j hj=>?_⟩⟩
 ·grind [heap_alloc_new]
 ·obtain ⟨u,f1,f2,f3⟩:=(hr i hi).2 j hj
  exact ⟨u,by simpa using f1,f2,f3.mono (e1.trans e2).cell (e1.trans e2).zs (e1.trans e2).mu⟩
theorem aoA {μ:Nat→Option Cn} (l:List UInt8) (g:Nat→Option Value) (h:∀ k (hk:k < l.length),g k = some (.int .u8 l[k].toNat)) :
  Row w Z μ g 1 (l.map fun c=>.sc (.int .u8 c.toNat)):=by
 intro i hi
 simp only [zh] at hi
 simp only [zH]
 refine ⟨rfl,fun j hj=>?_⟩
 simp [V.cells] at hj;subst hj
 exact ⟨_,by simpa using h i hi,rfl,.sc rfl⟩
theorem akA (hg:Good C w Z μ o) (hf:∀ x,b≤x→x < b + KK→μ x = none) (hm:C.m≤b) {s d e:TypeId} (hs:C.P.underlying s = some .string) (hd:C.P.underlying d = some (.slice e)) (he:C.P.underlying e = some (.int .u8))
  {cx:Value} {x:Opd} (hx:Rep w Z μ cx (r x)):OpV C b w Z μ o ((convert s d cx).run C.P w) (sem b r (.convSB x)):=by
 intro K h
 simp only [sem] at h
 replace h:=afa hx h
 obtain ⟨u,rfl,h⟩:=h
 have hcap:∃ cap,u.size≤cap∧(choose (.appendCap u.size 0 e)).run C.P w = .ok cap w.drew:=by
  simp [run_choose,Question.forced,Question.cut,k8]
 obtain ⟨cap,hc1,hc2⟩:=hcap
 obtain ⟨arr,harr⟩:∃ arr:Array Value,arr = (u.data.map fun c:UInt8=>Value.int .u8 c.toNat)++Array.replicate (cap - u.size) (Value.int .u8 0):=⟨_,rfl⟩
 have hsize:arr.size = cap:=by
  simp_all
 obtain ⟨g1,g2,g3⟩:=aaV hg hf hm (w1:=w.drew) rfl (e:=e) (fr:=(cap,cap + 1)) (sz:=1) (cap:=cap) (xs:=u.data.toList.map fun c=>.sc (.int .u8 c.toNat))
  (cells:=arr) (wr:=false) (fun k hk=>by rcases hk with hk|hk;rw [hsize] at hk;simp only;omega;cases hk)
  (aoA u.data.toList _ (fun k hk=>by
    simp only [Array.length_toList] at hk
    rw [harr,Array.getElem?_append_left (by simpa using hk),Array.getElem?_map,zJ hk]
    simp)) ⟨by simp;exact hc1,fun h=>by cases h⟩ (by rw [hsize];omega)
 have hlen:(u.data.toList.map fun c=>(V.sc (.int .u8 c.toNat))).length = u.size:=by simp
 rw [hlen] at g1 g2 g3
 refine ⟨_,_,_,Z,_,?_,h,g1,g2,g3⟩
 simp only [convert,Sem.run_bind,run_underlying hs w,run_underlying hd w,Result.andThen_ok,run_underlying he w,Conv.stringToBytes,hc2]
 rw [← harr]
 have hsh:(w.drew.alloc (.cells arr e)).shape? w.heap.size = some (e,cap):=by
  have:(w.drew.alloc (.cells arr e)).heap[w.heap.size]? = some (.cells arr e):=heap_alloc_new (w:=w.drew)
  unfold World.shape?
  grind
 have hfr:(w.drew.alloc (.cells arr e)).freeze { block:=w.heap.size,off:=cap } 1 = w.drew.alloc (.cells arr e (cap,cap + 1)):=by
  have e0:((w.drew.heap.push (.cells arr e)).modify w.heap.size fun
   | .cells c elem (lo,hi)=>.cells c elem (if lo == hi then (cap,cap + 1) else (min lo cap,max hi (cap + 1)))
   | o=>o) = w.drew.heap.push (.cells arr e (cap,cap + 1)):=by
   apply Array.ext_getElem?
   intro k
   rw [Zm]
   by_cases hk:w.heap.size = k
   ·subst hk
    have:w.drew.heap.size = w.heap.size:=rfl
    grind
   ·rw [if_neg hk,Array.getElem?_push,Array.getElem?_push]
    have:w.drew.heap.size = w.heap.size:=rfl
    grind
  unfold World.freeze
  rw [if_neg (by omega)]
  exact congrArg (fun hp=>({ w.drew with heap:=hp }:World)) e0
 have hnew:(newObj (.cells arr e)).run C.P w.drew = .ok w.heap.size (w.drew.alloc (.cells arr e)):=rfl
 simp_all [newRow,Sem.run_bind,Result.andThen_ok,Sem.run_pure,markStringish,shape,Sem.run,freeze]
theorem alR {μ:Nat→Option Cn} {bb oo sz:Nat} {xs:List V} (h:Row w Z μ (fun k=>w.cell? ⟨bb,oo + k,none⟩) sz xs) :
  ∃ L:List Value,(loadCells ⟨bb,oo,none⟩ (xs.length * sz)).run C.P w = .ok L.toArray w∧L.length = xs.length * sz∧(∀ u∈L,u.oneCell' = true)∧Row w Z μ (fun k=>L[k]?) sz xs ∧
   ∀ k,k < xs.length * sz→w.cell? ⟨bb,oo + k,none⟩ = L[k]?:=by
 have hk:∀ k,k < xs.length * sz→∃ u,w.cell? ⟨bb,oo + k,none⟩ = some u∧u.oneCell' = true:=by
  intro k hk
  have hs:0 < sz:=by
   grind
  have hi:k / sz < xs.length:=(Nat.div_lt_iff_lt_mul hs).2 hk
  obtain ⟨h1,h2⟩:=h (k / sz) hi
  obtain ⟨u,e1,e2,_⟩:=h2 (k % sz) (by rw [h1];exact Nat.mod_lt _ hs)
  grind [Nat.div_add_mod']
 have hcell:∀ k,k < xs.length * sz→w.cell? ⟨bb,oo + k,none⟩ = ((List.range (xs.length * sz)).map fun k=>(w.cell? ⟨bb,oo + k,none⟩).getD undef)[k]?:=by
  grind
 refine ⟨(List.range (xs.length * sz)).map fun k=>(w.cell? ⟨bb,oo + k,none⟩).getD undef,?_,by simp,?_,?_,hcell⟩
 ·refine run_loadCells (P:=C.P) w ⟨bb,oo,none⟩ (xs.length * sz) (fun k=>(w.cell? ⟨bb,oo + k,none⟩).getD undef) (fun k hk'=>?_)
  obtain ⟨u,e,_⟩:=hk k hk'
  rw [Vp,e];rfl
 ·grind
 ·exact h.congr (fun k hk'=>(hcell k hk').symm)
theorem Uf {μ:Nat→Option Cn} {xs:List V} {a:Option Addr} {cap sz:Nat} (h:xs≠[]→∃ bb oo,a = some ⟨bb,oo,none⟩∧Row w Z μ (fun k=>w.cell? ⟨bb,oo + k,none⟩) sz xs) (n:Nat) (hn:n≤xs.length) :
  ∃ L:List Value,(∀ w1:World,w1.heap = w.heap→(Builtin.firstCells sz n (.slice a xs.length cap)).run C.P w1 = .ok L.toArray w1)∧L.length = n * sz∧(∀ u∈L,u.oneCell' = true)∧Row w Z μ (fun k=>L[k]?) sz (xs.take n):=by
 by_cases hx:xs = []
 ·subst hx
  have:n = 0:=by simpa using hn
  subst this
  refine ⟨[],fun w1 _=>?_,by simp,by simp,by simpa using Row.nil⟩
  cases a with
  | none=>rfl
  | some ad=>simp [Builtin.firstCells,loadCells,loadCellsFrom]
 ·obtain ⟨bb,oo,rfl,hr⟩:=h hx
  obtain ⟨L,e1,e2,e3,e4,e5⟩:=alR (C:=C) (hr.take n)
  have hl:(xs.take n).length = n:=by simp;omega
  rw [hl] at e1 e2 e5
  refine ⟨L,fun w1 hw=>?_,e2,e3,e4⟩
  have:=run_loadCells_list (P:=C.P) w1 ⟨bb,oo,none⟩ L (fun j v hv=>by
   obtain ⟨hj,_⟩:=zE.1 hv
   rw [Vp,← hv,← e5 j (by omega)]
   simp [World.cell?,hw])
  grind [Builtin.firstCells]
theorem akB (hg:Good C w Z μ o) {s d e:TypeId} (hs:C.P.underlying s = some (.slice e)) (hd:C.P.underlying d = some .string) (he:C.P.underlying e = some (.int .u8))
  {cx:Value} {x:Opd} (hx:Rep w Z μ cx (r x)):OpV C b w Z μ o ((convert s d cx).run C.P w) (sem b r (.convBS x)):=fun _ hk=>hk.elim
end
end Av
end
section
namespace Av
open Go
def OpU (C:Ctx) (b:Nat) (w:World) (Z:Nat→Nat→Prop) (μ:Nat→Option Cn) (o:Nat→Option Ob) (run:Result Unit) (m:AM E):Prop :=
 ∀ K:E→Prop,m.wp o K→∃ e w' Z' μ',run = .ok () w'∧K e∧e.v = .top∧Good C w' Z' μ' (xv o e.os)∧Evo b KK w Z μ w' Z' μ'
section
variable {C:Ctx} {w:World} {Z:Nat→Nat→Prop} {μ:Nat→Option Cn} {o:Nat→Option Ob} {b:Nat} {r:Opd→V}
theorem aau (cs:List V):(V.agg cs).cells = cs:=rfl
theorem al1 (hg:Good C w Z μ o) {t:TypeId} {sz:Nat} (h2:Js C.P t = some sz) {ca cx:Value} {a x:Opd} (ha:Rep w Z μ ca (r a)) (hx:Rep w Z μ cx (r x)) :
  OpU C b w Z μ o ((Instr.storeAt t ca cx).run C.P w) (sem b r (.store sz a x)):=by
 intro K h
 simp only [sem] at h
 obtain ⟨⟨q1,q2,q3⟩,h⟩:=h
 obtain ⟨c1,c2⟩:=hx.cells q2 q3
 have hone:∀ u∈cx.cells.toList,u.oneCell' = true:=by
  intro u hu
  obtain ⟨j,hj,rfl⟩:=kz hu
  simp only [Array.length_toList] at hj
  obtain ⟨v,e1,e2,_⟩:=c2 j (by omega)
  rw [zJ hj] at e1
  cases e1
  simpa using e2
 have hst:∀ (bb oo:Nat) (cs:Array Value) (ty:TypeId) (fr:Nat×Nat),w.heap[bb]? = some (.cells cs ty fr)→(∀ k,k < cs.size→¬ (fr.1≤k∧k < fr.2))→oo + sz≤cs.size →
   ∃ cs':Array Value,(Instr.storeAt t (.pointer (some ⟨bb,oo,none⟩)) cx).run C.P w = .ok () { w with heap:=w.heap.setIfInBounds bb (.cells cs' ty fr) }∧cs'.size = cs.size ∧
    (∀ k,k < sz→cs'[oo + k]? = cx.cells[k]?)∧∀ k,k < oo∨oo + sz≤k→cs'[k]? = cs[k]?:=by
  intro bb oo cs ty fr hb hfr hle
  have hsz:cx.cells.toList.length = sz:=by simp;omega
  obtain ⟨cs',e1,e2,e3,e4⟩:=Wo (P:=C.P) bb ty fr cx.cells.toList oo 0 cs w hb hfr (by omega) hone
  refine ⟨cs',?_,e2,fun k hk=>?_,fun k hk=>e4 k (by omega)⟩
  ·have hne:¬ cx.cells.size≠sz:=by omega
   simp only [Instr.storeAt,Instr.sureAddr,Sem.run_bind,Sem.run_pure,Result.andThen_ok,storeVar,Yb h2 w,hne,if_false]
   exact e1
  ·have:=e3 k (by omega)
   simp only [Nat.add_zero] at this
   rw [this];simp
 split at h
 ·rename_i n off hv;rw [hv] at ha
  obtain ⟨c,hm,rfl⟩:=ha.ptrE
  obtain ⟨ob,hoa,h⟩:=h
  dsimp only at h
  split at h
  ·rename_i cells
   obtain ⟨hle,h⟩:=h
   obtain ⟨c',hm',hok,hlive⟩:=hg.ob n _ hoa
   rw [hm] at hm';cases hm'
   obtain ⟨hvo,⟨cs,ty,hb,hs,hc⟩,hz⟩:=hok
   obtain ⟨cs',e1,e2,e3,e4⟩:=hst c.block off cs ty (0,0) hb (fun k _=>by omega) (by omega)
   have hlt:c.block < w.heap.size:=(hlive trivial).1
   obtain ⟨s1,s2,s3⟩:=UI (w:=w) (ob:=.cells cs' ty (0,0)) hlt
   have hcell:∀ b' i,Z b' i→({ w with heap:=w.heap.setIfInBounds c.block (.cells cs' ty (0,0)) }:World).cell? ⟨b',i,none⟩ = w.cell? ⟨b',i,none⟩:=by
    intro b' i hzb
    have:b'≠c.block:=by rintro rfl;exact hz rfl i hzb
    simp only [World.cell?,s3 b' this]
   have hcr:Xw { w with heap:=w.heap.setIfInBounds c.block (.cells cs' ty (0,0)) } Z μ (fun k=>cs'[k]?) (splice cells off (r x).cells):=by
    have hold:Xw { w with heap:=w.heap.setIfInBounds c.block (.cells cs' ty (0,0)) } Z μ (fun k=>cs[k]?) cells:=fun j hj=>by
     have hj':j < cs.size:=by omega
     exact ⟨cs[j],zJ hj',(hc j hj hj').2,(hc j hj hj').1.mono hcell (fun _ _ h=>h) (fun _ _ h=>h)⟩
    have hnew:Xw { w with heap:=w.heap.setIfInBounds c.block (.cells cs' ty (0,0)) } Z μ (fun k=>cx.cells[k]?) (r x).cells:=fun j hj=>by
     obtain ⟨u,f1,f2,f3⟩:=c2 j hj
     exact ⟨u,f1,f2,f3.mono hcell (fun _ _ h=>h) (fun _ _ h=>h)⟩
    exact hold.splice hnew (by omega) (fun k hk=>e3 k (by omega)) (fun k hk=>e4 k (by omega))
   have hsl:(splice cells off (r x).cells).length = cells.length:=J4 (by omega)
   refine ⟨_,_,Z,μ,e1,h,rfl,?_,⟨hcell,fun _ _ h=>h,fun _ _ h=>h,fun _ _=>rfl⟩⟩
   refine hg.write hoa hm trivial s3 s1 (fun i hzi=>(hz rfl i hzi).elim) ⟨hvo,⟨cs',ty,s2,by omega,fun j hj hj'=>?_⟩,fun _=>hz rfl⟩
   obtain ⟨u,f1,f2,f3⟩:=hcr j hj
   simp only [zJ hj'] at f1
   cases f1
   exact ⟨f3,f2⟩
  ·rename_i T cells
   obtain ⟨hle,h⟩:=h
   obtain ⟨c',hm',hok,hlive⟩:=hg.ob n _ hoa
   rw [hm] at hm';cases hm'
   obtain ⟨⟨hvo,⟨cs,ty,hb,hs,hc⟩,hz⟩,hbase,hty⟩:=hok
   obtain ⟨cs2,fr2,hty⟩:=hty trivial
   rw [hb] at hty
   simp only [zd,Obj.cells.injEq] at hty
   obtain ⟨_,rfl,_⟩:=hty
   obtain ⟨cs',e1,e2,e3,e4⟩:=hst c.block off cs ty (0,0) hb (fun k _=>by omega) (by omega)
   have hlt:c.block < w.heap.size:=(hlive trivial).1
   obtain ⟨s1,s2,s3⟩:=UI (w:=w) (ob:=.cells cs' ty (0,0)) hlt
   have hcell:∀ b' i,Z b' i→({ w with heap:=w.heap.setIfInBounds c.block (.cells cs' ty (0,0)) }:World).cell? ⟨b',i,none⟩ = w.cell? ⟨b',i,none⟩:=by
    intro b' i hzb
    have:b'≠c.block:=by rintro rfl;exact hz rfl i hzb
    simp only [World.cell?,s3 b' this]
   have hcr:Xw { w with heap:=w.heap.setIfInBounds c.block (.cells cs' ty (0,0)) } Z μ (fun k=>cs'[k]?) (splice cells off (r x).cells):=by
    have hold:Xw { w with heap:=w.heap.setIfInBounds c.block (.cells cs' ty (0,0)) } Z μ (fun k=>cs[k]?) cells:=fun j hj=>by
     have hj':j < cs.size:=by omega
     exact ⟨cs[j],zJ hj',(hc j hj hj').2,(hc j hj hj').1.mono hcell (fun _ _ h=>h) (fun _ _ h=>h)⟩
    have hnew:Xw { w with heap:=w.heap.setIfInBounds c.block (.cells cs' ty (0,0)) } Z μ (fun k=>cx.cells[k]?) (r x).cells:=fun j hj=>by
     obtain ⟨u,f1,f2,f3⟩:=c2 j hj
     exact ⟨u,f1,f2,f3.mono hcell (fun _ _ h=>h) (fun _ _ h=>h)⟩
    exact hold.splice hnew (by omega) (fun k hk=>e3 k (by omega)) (fun k hk=>e4 k (by omega))
   have hsl:(splice cells off (r x).cells).length = cells.length:=J4 (by omega)
   refine ⟨_,_,Z,μ,e1,h,rfl,?_,⟨hcell,fun _ _ h=>h,fun _ _ h=>h,fun _ _=>rfl⟩⟩
   refine hg.write hoa hm trivial s3 s1 (fun i hzi=>(hz rfl i hzi).elim) ⟨⟨hvo,⟨cs',ty,s2,by omega,fun j hj hj'=>?_⟩,fun _=>hz rfl⟩,hbase,fun _=>⟨_,_,s2⟩⟩
   obtain ⟨u,f1,f2,f3⟩:=hcr j hj
   simp only [zJ hj'] at f1
   cases f1
   exact ⟨f3,f2⟩
  ·exact h.elim
 ·rename_i n i off hv;rw [hv] at ha
  obtain ⟨c,hm,hvo,hi,rfl⟩:=ha.eptE
  obtain ⟨ob,hoa,h⟩:=h
  dsimp only at h
  split at h
  ·rename_i s xs
   obtain ⟨hclo,h⟩:=h
   have c3:∀ j (hj:j < (r x).cells.length),∃ u,cx.cells[j]? = some u∧u.oneCell' = true∧Rep w Z noμ u (r x).cells[j]:=fun j hj =>
    let ⟨u,a,b,c⟩:=c2 j hj;⟨u,a,b,c.close (abD hclo j hj)⟩
   obtain ⟨c',hm',hok,hlive⟩:=hg.ob n _ hoa
   rw [hm] at hm';cases hm'
   obtain ⟨hlen,hok⟩:=hok
   obtain ⟨h6,h7,h8,h9,h10,cs,ty,fr,hb,h11,h12,h13⟩:=hok hvo
   have hlt:c.block < w.heap.size:=(hlive hvo).1
   have hix:i < xs.length:=by omega
   have hbd:(i + 1) * c.sz≤c.cap * c.sz:=zL _ (by omega)
   rw [zK] at hbd
   have main:∀ (e':V),e'.cells.length = s→off + sz≤s→(∀ g g':Nat→Option Value,∀ w':World,(∀ b' i',Z b' i'→w'.cell? ⟨b',i',none⟩ = w.cell? ⟨b',i',none⟩) →
      (∀ j (hj:j < xs[i].cells.length),∃ v,g j = some v∧v.oneCell' = true∧Rep w Z noμ v xs[i].cells[j])→(∀ k,k < sz→g' (off + k) = cx.cells[k]?)→(∀ k,k < off∨off + sz≤k→g' k = g k) →
      Xw w' Z noμ g' e'.cells) →
     K { v:=.top,os:=[(n,.buf true s (xs.set i e'))] } →
     ∃ e w' Z' μ',(Instr.storeAt t (.pointer (some ⟨c.block,c.base + (i * c.sz + off),none⟩)) cx).run C.P w = .ok () w'∧K e∧e.v = .top∧Good C w' Z' μ' (xv o e.os)∧Evo b KK w Z μ w' Z' μ':=by
    intro e' he' hos hcells hk
    obtain ⟨cs',e1,e2,e3,e4⟩:=hst c.block (c.base + (i * c.sz + off)) cs ty fr hb (fun o ho=>h12 o (.inl ho)) (by omega)
    obtain ⟨s1,s2,s3⟩:=UI (w:=w) (ob:=.cells cs' ty fr) hlt
    have hcell:∀ b' i,Z b' i→({ w with heap:=w.heap.setIfInBounds c.block (.cells cs' ty fr) }:World).cell? ⟨b',i,none⟩ = w.cell? ⟨b',i,none⟩:=by
     intro b' i hzb
     have:b'≠c.block:=by rintro rfl;exact h8 rfl i hzb
     simp only [World.cell?,s3 b' this]
    refine ⟨_,_,Z,μ,e1,hk,rfl,?_,⟨hcell,fun _ _ h=>h,fun _ _ h=>h,fun _ _=>rfl⟩⟩
    have hrow:Row { w with heap:=w.heap.setIfInBounds c.block (.cells cs' ty fr) } Z noμ (fun k=>cs'[c.base + k]?) s (xs.set i e'):=by
     have hold:Row { w with heap:=w.heap.setIfInBounds c.block (.cells cs' ty fr) } Z noμ (fun k=>cs[c.base + k]?) s xs:=fun j hj=>by
      refine ⟨h10 j hj,fun k hk=>?_⟩
      obtain ⟨u,f1,f2,f3⟩:=h13 j hj k hk
      rw [h6] at f1
      exact ⟨u,f1,f2,f3.mono hcell (fun _ _ h=>h) (fun _ _ h=>h)⟩
     refine hold.set he' (fun j hj=>?_) (fun k hk=>e4 _ (by rw [h6];omega))
     have:=hcells (fun k=>cs[c.base + (i * s + k)]?) (fun k=>cs'[c.base + (i * s + k)]?) _ hcell (fun j hj=>by
      obtain ⟨u,f1,f2,f3⟩:=h13 i hix j hj
      rw [h6] at f1
      exact ⟨u,f1,f2,f3⟩) (fun k hk=>by rw [← e3 k hk,h6];congr 1;omega) (fun k hk=>by
       rw [e4];rw [h6];omega)
     exact this j hj
    refine hg.write hoa hm hvo s3 s1 (fun i hzi=>(h8 rfl i hzi).elim) ⟨by simpa using hlen,fun _=>⟨h6,h7,fun _=>h8 rfl,h9,fun j hj=>(hrow j hj).1,cs',ty,fr,s2,by omega,by rw [e2];exact h12,fun j hj k hk=>?_⟩⟩
    obtain ⟨u,f1,f2,f3⟩:=(hrow j hj).2 k hk
    rw [h6]
    exact ⟨u,f1,f2,f3⟩
   have hei:=h10 i hix
   split at h
   ·rename_i vs hvs
    obtain ⟨_,hvs⟩:=zE.1 hvs
    obtain ⟨hle,h⟩:=h
    have hcl:vs.length = s:=by rw [hvs] at hei;simpa [V.cells] using hei
    have hfit:off + (r x).cells.length≤vs.length:=by omega
    refine main _ (by rw [aau,J4 hfit];exact hcl) (by omega) (fun g g' w' hc' hg' k1 k2=>?_) h
    rw [hvs] at hg'
    simp only [aau] at hg' ⊢
    have hold:Xw w' Z noμ g vs:=fun j hj=>by
     obtain ⟨u,f1,f2,f3⟩:=hg' j hj
     exact ⟨u,f1,f2,f3.mono hc' (fun _ _ h=>h) (fun _ _ h=>h)⟩
    have hnew:Xw w' Z noμ (fun k=>cx.cells[k]?) (r x).cells:=fun j hj=>by
     obtain ⟨u,f1,f2,f3⟩:=c3 j hj
     exact ⟨u,f1,f2,f3.mono hc' (fun _ _ h=>h) (fun _ _ h=>h)⟩
    exact hold.splice hnew hfit (fun k hk=>k1 k (by omega)) (fun k hk=>k2 k (by omega))
   ·obtain ⟨⟨rfl,hs1,hsm⟩,h⟩:=h
    obtain ⟨_,_,hxc⟩:=V.small_ne hsm
    have hsz1:sz = 1:=by rw [hxc] at q1;simpa using q1.symm
    refine main _ (by rw [hxc,hs1];rfl) (by omega) (fun g g' w' hc' hg' k1 k2=>?_) h
    intro j hj
    obtain ⟨u,f1,f2,f3⟩:=c3 j hj
    refine ⟨u,?_,f2,f3.mono hc' (fun _ _ h=>h) (fun _ _ h=>h)⟩
    rw [← f1,← k1 j (by omega)];congr 1;omega
   ·exact h.elim
  ·rename_i s xs
   have c3:=c2
   obtain ⟨c',hm',hok,hlive⟩:=hg.ob n _ hoa
   rw [hm] at hm';cases hm'
   obtain ⟨hlen,hok⟩:=hok
   obtain ⟨h6,h7,h8,h9,h10,cs,ty,fr,hb,h11,h12,h13⟩:=hok hvo
   have hlt:c.block < w.heap.size:=(hlive hvo).1
   have hix:i < xs.length:=by omega
   have hbd:(i + 1) * c.sz≤c.cap * c.sz:=zL _ (by omega)
   rw [zK] at hbd
   have main:∀ (e':V),e'.cells.length = s→off + sz≤s→(∀ g g':Nat→Option Value,∀ w':World,(∀ b' i',Z b' i'→w'.cell? ⟨b',i',none⟩ = w.cell? ⟨b',i',none⟩) →
      (∀ j (hj:j < xs[i].cells.length),∃ v,g j = some v∧v.oneCell' = true∧Rep w Z μ v xs[i].cells[j])→(∀ k,k < sz→g' (off + k) = cx.cells[k]?)→(∀ k,k < off∨off + sz≤k→g' k = g k) →
      Xw w' Z μ g' e'.cells) →
     K { v:=.top,os:=[(n,.obuf true s (xs.set i e'))] } →
     ∃ e w' Z' μ',(Instr.storeAt t (.pointer (some ⟨c.block,c.base + (i * c.sz + off),none⟩)) cx).run C.P w = .ok () w'∧K e∧e.v = .top∧Good C w' Z' μ' (xv o e.os)∧Evo b KK w Z μ w' Z' μ':=by
    intro e' he' hos hcells hk
    obtain ⟨cs',e1,e2,e3,e4⟩:=hst c.block (c.base + (i * c.sz + off)) cs ty fr hb (fun o ho=>h12 o (.inl ho)) (by omega)
    obtain ⟨s1,s2,s3⟩:=UI (w:=w) (ob:=.cells cs' ty fr) hlt
    have hcell:∀ b' i,Z b' i→({ w with heap:=w.heap.setIfInBounds c.block (.cells cs' ty fr) }:World).cell? ⟨b',i,none⟩ = w.cell? ⟨b',i,none⟩:=by
     intro b' i hzb
     have:b'≠c.block:=by rintro rfl;exact h8 rfl i hzb
     simp only [World.cell?,s3 b' this]
    refine ⟨_,_,Z,μ,e1,hk,rfl,?_,⟨hcell,fun _ _ h=>h,fun _ _ h=>h,fun _ _=>rfl⟩⟩
    have hrow:Row { w with heap:=w.heap.setIfInBounds c.block (.cells cs' ty fr) } Z μ (fun k=>cs'[c.base + k]?) s (xs.set i e'):=by
     have hold:Row { w with heap:=w.heap.setIfInBounds c.block (.cells cs' ty fr) } Z μ (fun k=>cs[c.base + k]?) s xs:=fun j hj=>by
      refine ⟨h10 j hj,fun k hk=>?_⟩
      obtain ⟨u,f1,f2,f3⟩:=h13 j hj k hk
      rw [h6] at f1
      exact ⟨u,f1,f2,f3.mono hcell (fun _ _ h=>h) (fun _ _ h=>h)⟩
     refine hold.set he' (fun j hj=>?_) (fun k hk=>e4 _ (by rw [h6];omega))
     have:=hcells (fun k=>cs[c.base + (i * s + k)]?) (fun k=>cs'[c.base + (i * s + k)]?) _ hcell (fun j hj=>by
      obtain ⟨u,f1,f2,f3⟩:=h13 i hix j hj
      rw [h6] at f1
      exact ⟨u,f1,f2,f3⟩) (fun k hk=>by rw [← e3 k hk,h6];congr 1;omega) (fun k hk=>by
       rw [e4];rw [h6];omega)
     exact this j hj
    refine hg.write hoa hm hvo s3 s1 (fun i hzi=>(h8 rfl i hzi).elim) ⟨by simpa using hlen,fun _=>⟨h6,h7,fun _=>h8 rfl,h9,fun j hj=>(hrow j hj).1,cs',ty,fr,s2,by omega,by rw [e2];exact h12,fun j hj k hk=>?_⟩⟩
    obtain ⟨u,f1,f2,f3⟩:=(hrow j hj).2 k hk
    rw [h6]
    exact ⟨u,f1,f2,f3⟩
   have hei:=h10 i hix
   split at h
   ·rename_i vs hvs
    obtain ⟨_,hvs⟩:=zE.1 hvs
    obtain ⟨hle,h⟩:=h
    have hcl:vs.length = s:=by rw [hvs] at hei;simpa [V.cells] using hei
    have hfit:off + (r x).cells.length≤vs.length:=by omega
    refine main _ (by rw [aau,J4 hfit];exact hcl) (by omega) (fun g g' w' hc' hg' k1 k2=>?_) h
    rw [hvs] at hg'
    simp only [aau] at hg' ⊢
    have hold:Xw w' Z μ g vs:=fun j hj=>by
     obtain ⟨u,f1,f2,f3⟩:=hg' j hj
     exact ⟨u,f1,f2,f3.mono hc' (fun _ _ h=>h) (fun _ _ h=>h)⟩
    have hnew:Xw w' Z μ (fun k=>cx.cells[k]?) (r x).cells:=fun j hj=>by
     obtain ⟨u,f1,f2,f3⟩:=c3 j hj
     exact ⟨u,f1,f2,f3.mono hc' (fun _ _ h=>h) (fun _ _ h=>h)⟩
    exact hold.splice hnew hfit (fun k hk=>k1 k (by omega)) (fun k hk=>k2 k (by omega))
   ·obtain ⟨⟨rfl,hs1,hsm⟩,h⟩:=h
    obtain ⟨_,_,hxc⟩:=V.small_ne hsm
    have hsz1:sz = 1:=by rw [hxc] at q1;simpa using q1.symm
    refine main _ (by rw [hxc,hs1];rfl) (by omega) (fun g g' w' hc' hg' k1 k2=>?_) h
    intro j hj
    obtain ⟨u,f1,f2,f3⟩:=c3 j hj
    refine ⟨u,?_,f2,f3.mono hc' (fun _ _ h=>h) (fun _ _ h=>h)⟩
    rw [← f1,← k1 j (by omega)];congr 1;omega
   ·exact h.elim
  ·exact h.elim
 ·exact h.elim
end
end Av
end
section
namespace Av
open Go
section
variable {C:Ctx} {w:World} {Z:Nat→Nat→Prop} {μ:Nat→Option Cn} {o:Nat→Option Ob} {b:Nat} {r:Opd→V}
theorem Good.weak (h:Good C w Z μ o) {a sz:Nat} {xs:List V} {wr:Bool} (ho:o a = some (.buf true sz xs)):Good C w Z μ (upd o a (some (.buf wr sz xs))):=by
 refine ⟨fun b z hb=>?_,fun b d p q e f hbd hp hq he hf lp lq=>?_,h.zlt,h.grow,h.frame,h.zsub,h.zsup,h.zkeep,h.fix,h.oo⟩
 ·by_cases hba:b = a
  ·subst hba
   rw [Qi] at hb;cases hb
   obtain ⟨c,hm,hok,hl⟩:=h.ob b _ ho
   exact ⟨c,hm,BOk.weak (fun _=>rfl) hok,hl⟩
  ·rw [QH _ _ hba] at hb;exact h.ob b z hb
 ·have live:∀ {b p e},upd o a (some (.buf wr sz xs)) b = some p→p.live e→∃ p',o b = some p'∧p'.live e:=by
   intro b p e hp lp
   by_cases hba:b = a
   ·subst hba;rw [Qi] at hp;cases hp;exact ⟨_,ho,lp⟩
   grind [QH]
  obtain ⟨p',hp',lp'⟩:=live hp lp
  obtain ⟨q',hq',lq'⟩:=live hq lq
  exact h.sep b d p' q' e f hbd hp' hq' he hf lp' lq'
theorem Good.recast (h:Good C w Z μ o) {a:Nat} {x x':Ob} (ho:o a = some x) (hok:∀ c,μ a = some c→yr w Z μ c x→yr w Z μ c x') (hl:∀ c,x'.live c→x.live c):Good C w Z μ (upd o a (some x')):=by
 refine ⟨fun b z hb=>?_,fun b d p q e f hbd hp hq he hf lp lq=>?_,h.zlt,h.grow,h.frame,h.zsub,h.zsup,h.zkeep,h.fix,h.oo⟩
 ·by_cases hba:b = a
  ·subst hba
   rw [Qi] at hb;cases hb
   obtain ⟨c,hm,ho1,hl1⟩:=h.ob b _ ho
   simp_all
  ·rw [QH _ _ hba] at hb;exact h.ob b z hb
 ·have live:∀ {b p e},upd o a (some x') b = some p→p.live e→∃ p',o b = some p'∧p'.live e:=by
   grind [Qi,QH]
  obtain ⟨p',hp',lp'⟩:=live hp lp
  obtain ⟨q',hq',lq'⟩:=live hq lq
  exact h.sep b d p' q' e f hbd hp' hq' he hf lp' lq'
theorem Good.weakO (h:Good C w Z μ o) {a sz:Nat} {xs:List V} {wr:Bool} (ho:o a = some (.obuf true sz xs)):Good C w Z μ (upd o a (some (.obuf wr sz xs))) :=
 h.recast ho (fun c _ hok=>BOk.weak (fun _=>rfl) hok) (fun _ hl=>hl)
theorem Good.open (h:Good C w Z μ o) {a sz:Nat} {xs:List V} {wr:Bool} (ho:o a = some (.buf wr sz xs)):Good C w Z μ (upd o a (some (.obuf wr sz xs))) :=
 h.recast ho (fun _ _ hok=>BOk.lift hok) (fun _ hl=>hl)
def aoW (w:World) (μ:Nat→Option Cn) (a:Nat) (T:TypeId):Prop:=∀ c,μ a = some c→c.base = 0∧(c.void = false→∃ cs fr,w.heap[c.block]? = some (.cells cs T fr))
theorem Good.typ (h:Good C w Z μ o) {a:Nat} {x:Ob} {T:TypeId} (ho:o a = some x) (ht:aoW w μ a T) (hv:∀ c,x.live c→c.void = false):Good C w Z μ (upd o a (some (.typ T x))):=by
 refine ⟨fun b z hb=>?_,fun b d p q e f hbd hp hq he hf lp lq=>?_,h.zlt,h.grow,h.frame,h.zsub,h.zsup,h.zkeep,h.fix,h.oo⟩
 ·by_cases hba:b = a
  ·subst hba
   rw [Qi] at hb;cases hb
   obtain ⟨c,hm,hok,hl⟩:=h.ob b _ ho
   exact ⟨c,hm,⟨hok,(ht c hm).1,fun hl=>(ht c hm).2 (hv c hl)⟩,hl⟩
  ·rw [QH _ _ hba] at hb;exact h.ob b z hb
 ·have live:∀ {b p e},upd o a (some (.typ T x)) b = some p→p.live e→∃ p',o b = some p'∧p'.live e:=by
   intro b p e hp lp
   by_cases hba:b = a
   ·subst hba;rw [Qi] at hp;cases hp;exact ⟨_,ho,lp⟩
   grind [QH]
  obtain ⟨p',hp',lp'⟩:=live hp lp
  obtain ⟨q',hq',lq'⟩:=live hq lq
  exact h.sep b d p' q' e f hbd hp' hq' he hf lp' lq'
theorem aaM {α:Type} (f:Nat→α) (a:Nat) (x y:α):upd (upd f a x) a y = upd f a y:=by
 funext b;simp only [upd];split<;>rfl
theorem ahc (n:Nat):∀ k c,Builtin.growBy n k c≤max c (2 * n + 768)
 | 0,c=>by simp [Builtin.growBy];omega
 | k + 1,c=>by
   simp only [Builtin.growBy]
   split
   ·omega
   ·have:=ahc n k (c + (c + 768) / 4)
    omega
theorem ap1 {need cap:Nat} (h:cap < need):Builtin.nextslicecap need cap≤2 * need + 768:=by
 grind [Builtin.nextslicecap,ahc]
theorem V2 {P:Program} {ts:Array TypeId} {ty st xt e:TypeId} {sz:Nat} (h1:ts[0]? = some st) (h2:P.underlying st = some (.slice e)) (h3:Js P e = some sz) (h4:ts[1]? = some xt)
  (h5:(∃ d,P.underlying xt = some (.slice d))∨P.underlying xt = some .string) {ad:Option Addr} {sLen sCap n:Nat} {x:Value} {L:List Value} (hl:(Builtin.lenOf x).run P w = .ok n w) (hn:sLen + n≤sCap) (hfc:(Builtin.firstCells sz n x).run P w = .ok L.toArray w) {w':World}
  (hst:∀ a,ad = some a→(storeCells (a.add (sLen * sz)) L).run P w = .ok () w') (hst0:ad = none→w' = w) :
  (Builtin.append_ ts ty #[.slice ad sLen sCap,x]).run P w = .ok (.slice ad (sLen + n) sCap) w':=by
 rcases h5 with ⟨d,h5⟩|h5<;>cases ad with
 | none =>
   rw [hst0 rfl]
   simp only [Builtin.append_,h1,h4,kL,List.getElem?_cons_zero,List.getElem?_cons_succ,Sem.run_bind,run_underlying h2 w,Result.andThen_ok,Yb h3 w,run_underlying h5 w,Sem.run_pure,
    zk,if_false,hl,hn,if_true,kH,hfc]
 | some a =>
   have:=hst a rfl
   simp only [Builtin.append_,h1,h4,kL,List.getElem?_cons_zero,List.getElem?_cons_succ,Sem.run_bind,run_underlying h2 w,Result.andThen_ok,Yb h3 w,run_underlying h5 w,Sem.run_pure,
    zk,if_false,hl,hn,if_true,kH,hfc,this]
theorem adt {P:Program} {ts:Array TypeId} {ty st xt e:TypeId} {sz by_:Nat} {z:Value} (h1:ts[0]? = some st) (h2:P.underlying st = some (.slice e)) (h3:Js P e = some sz) (h4:ts[1]? = some xt)
  (h5:(∃ d,P.underlying xt = some (.slice d))∨P.underlying xt = some .string) (hb:abE P e = some by_) (hb1:1≤by_) (hb2:by_≤2 ^ 20) (hz0:KT P e = some z) {ad:Option Addr} {sLen sCap n:Nat} {x:Value} {L0 L:List Value}
  (hl:(Builtin.lenOf x).run P w = .ok n w) (hn:sCap < sLen + n)
  (hs:(sLen + n) * by_≤2 ^ 40) (hfc:(Builtin.firstCells sz n x).run P w.drew = .ok L.toArray w.drew) (hf0:(Builtin.firstCells sz sLen (.slice ad sLen sCap)).run P w.drew = .ok L0.toArray w.drew) :
  ∃ cap,(sLen + n≤cap∧cap < 2 ^ 63)∧(Builtin.append_ ts ty #[.slice ad sLen sCap,x]).run P w = .ok (.slice (some ⟨w.heap.size,0,none⟩) (sLen + n) cap)
   (w.drew.alloc (.cells (L0.toArray++L.toArray++Builtin.zeroCells z.cells (cap - (sLen + n))) e)):=by
 obtain ⟨i,hi,hib⟩:=aeA hb w
 obtain ⟨i',hi',hib'⟩:=aeA hb w.drew
 have hneed:sLen + n≤2 ^ 40:=by
  have:(sLen + n) * 1≤(sLen + n) * by_:=Nat.mul_le_mul_left _ hb1
  omega
 have hcap:∃ cap,(sLen + n≤cap∧cap < 2 ^ 63)∧(choose (.appendCap (sLen + n) sCap e)).run P w = .ok cap w.drew:=by
  refine ⟨_,?_,by rw [run_choose];simp [Question.forced];rfl⟩
  simp only [Question.cut]
  refine ⟨k8 _ _,?_⟩
  have:∀ t:Nat,t % (2 ^ 63 - (sLen + n)) < 2 ^ 63 - (sLen + n):=fun t=>Nat.mod_lt _ (by omega)
  have:=this (w.tape w.drawn (.appendCap (sLen + n) sCap e))
  omega
 obtain ⟨cap,hc1,hc2⟩:=hcap
 refine ⟨cap,hc1,?_⟩
 have d1:¬ sLen + n≤sCap:=by omega
 have d2:¬ ((sLen + n:Nat):Int) > IntKind.i64.max:=by
  have e:IntKind.i64.max = 9223372036854775807:=by decide
  rw [e];omega
 have d3:¬ Builtin.nextslicecap (sLen + n) sCap * i.bytes > 2 ^ 48:=by
  have h1:=ap1 (need:=sLen + n) (cap:=sCap) hn
  have h2:Builtin.nextslicecap (sLen + n) sCap * by_≤(2 * (sLen + n) + 768) * by_:=zL _ h1
  grind
 have hnew:∀ cs:Array Value,(newRow e cs).run P w.drew = .ok ⟨w.heap.size,0,none⟩ (w.drew.alloc (.cells cs e)):=fun cs=>rfl
 have hroom:∀ k,(askRoom k).run P w.drew = .ok () w.drew:=by
  simp
 rcases h5 with ⟨d,h5⟩|h5 <;>
  simp only [Builtin.append_,h1,h4,kL,List.getElem?_cons_zero,List.getElem?_cons_succ,Sem.run_bind,run_underlying h2 w,Result.andThen_ok,Yb h3 w,run_underlying h5 w,Sem.run_pure,
   zk,if_false,hl,d1,hi,d2,false_and,d3,hc2,hi',hroom,hf0,kH,if_true,hfc,Uz hz0 w.drew,hnew]
theorem wI (zs:Array Value) (n:Nat):(Builtin.zeroCells zs n).size = n * zs.size:=by simp [Builtin.zeroCells]
structure Src (C:Ctx) (w:World) (Z:Nat→Nat→Prop) (sz n:Nat) (cy:Value) (ys:List V) (L:List Value):Prop where
 len:(Builtin.lenOf cy).run C.P w = .ok n w
 cells:∀ w1:World,w1.heap = w.heap→(Builtin.firstCells sz n cy).run C.P w1 = .ok L.toArray w1
 size:L.length = n * sz
 one:∀ u∈L,u.oneCell' = true
 row:Row w Z noμ (fun k=>L[k]?) sz ys
 count:ys.length = n
structure Tgt (P:Program) (ts:Array TypeId) (st xt e:TypeId) (sz by_:Nat) (z:Value):Prop where
 h1:ts[0]? = some st
 h2:P.underlying st = some (.slice e)
 h3:Js P e = some sz
 h4:ts[1]? = some xt
 h5:(∃ d,P.underlying xt = some (.slice d))∨P.underlying xt = some .string
 hb:abE P e = some by_
 hb1:1≤by_
 hb2:by_≤2 ^ 20
 hz:KT P e = some z
 hzs:z.cells.size = sz
theorem ajL (hg:Good C w Z μ o) (hf:∀ x,b≤x→x < b + KK→μ x = none) (hm:C.m≤b) {ts:Array TypeId} {ty st xt e:TypeId} {sz by_:Nat} {z:Value} (T:Tgt C.P ts st xt e sz by_ z) {cy:Value} {n:Nat} {ys:List V} {L:List Value} (S:Src C w Z sz n cy ys L)
  {ad:Option Addr} {sLen sCap:Nat} {xs:List V} {L0:List Value} (h0:∀ w1:World,w1.heap = w.heap→(Builtin.firstCells sz sLen (.slice ad sLen sCap)).run C.P w1 = .ok L0.toArray w1) (hl0:L0.length = sLen * sz) (hr0:Row w Z noμ (fun k=>L0[k]?) sz xs) (hx:xs.length = sLen)
  (hn:sCap < sLen + n) (hs:(sLen + n) * by_≤2 ^ 40) :
  ∃ v w' μ',(Builtin.append_ ts ty #[.slice ad sLen sCap,cy]).run C.P w = .ok v w'∧Rep w' Z μ' v (.hd b 0 (sLen + n))∧Good C w' Z μ' (upd o b (some (.buf true sz (xs++ys))))∧Evo b KK w Z μ w' Z μ'∧aoW w' μ' b e:=by
 obtain ⟨cap,hc,hrun⟩:=adt (P:=C.P) (w:=w) (ty:=ty) T.h1 T.h2 T.h3 T.h4 T.h5 T.hb T.hb1 T.hb2 T.hz (ad:=ad) S.len hn hs (S.cells w.drew rfl) (h0 w.drew rfl)
 have hlen:(xs++ys).length = sLen + n:=by simp [hx,S.count]
 have hrow:Row w Z noμ (fun k=>(L0.toArray++L.toArray++Builtin.zeroCells z.cells (cap - (sLen + n)))[k]?) sz (xs++ys):=by
  refine Row.append (hr0.congr (fun k hk=>?_)) (S.row.congr (fun k hk=>?_))
  ·grind
  ·rw [S.count] at hk
   have hSs:=S.size
   grind
 have hsize:cap * sz≤(L0.toArray++L.toArray++Builtin.zeroCells z.cells (cap - (sLen + n))).size:=by
  simp only [Array.size_append,List.size_toArray,wI,T.hzs,hl0,S.size]
  rw [← zK,← zK]
  grind
 obtain ⟨g1,g2,g3⟩:=aaV hg hf hm (w1:=w.drew) rfl (e:=e) (fr:=(0,0)) (sz:=sz) (cap:=cap) (xs:=xs++ys) (fun k _=>by omega) hrow ⟨by omega,fun _=>hc.2⟩ hsize
 rw [hlen] at g1 g2 g3
 exact ⟨_,_,_,hrun,g1,g2,g3,fun c hc=>by rw [Qi] at hc;cases hc;exact ⟨rfl,fun _=>⟨_,_,heap_alloc_new⟩⟩⟩
theorem append_nil (hg:Good C w Z μ o) (hf:∀ x,b≤x→x < b + KK→μ x = none) (hm:C.m≤b) {ts:Array TypeId} {ty st xt e:TypeId} {sz by_:Nat} {z:Value} (T:Tgt C.P ts st xt e sz by_ z) {cy:Value} {n:Nat} {ys:List V} {L:List Value} (S:Src C w Z sz n cy ys L)
  (hs:n * by_≤2 ^ 40) :
  ∃ v w' μ',(Builtin.append_ ts ty #[.slice none 0 0,cy]).run C.P w = .ok v w'∧Rep w' Z μ' v (.hd b 0 n)∧Good C w' Z μ' (upd o b (some (.buf true sz ys)))∧Evo b KK w Z μ w' Z μ'∧aoW w' μ' b e:=by
 by_cases hn:n = 0
 ·subst hn
  have hys:ys = []:=ki S.count
  subst hys
  have hx:=hf b (zi _) (by simp [KK])
  refine ⟨_,w,_,V2 (w':=w) T.h1 T.h2 T.h3 T.h4 T.h5 S.len (by omega) (S.cells w rfl) (fun a h=>by cases h) (fun _=>rfl),?_,hg.nil (sz:=sz) hx hm,Evo.name hx (zi _) (by simp [KK]),fun c hc=>by rw [Qi] at hc;cases hc;exact ⟨rfl,fun hv=>by cases hv⟩⟩
  exact .hd (Qi _ _ _) (by simp [Hdr])
 ·have:=ajL (ty:=ty) hg hf hm T S (ad:=none) (sLen:=0) (sCap:=0) (xs:=[]) (L0:=[]) (fun w1 _=>rfl) (by simp) Row.nil rfl (by omega) (by simpa using hs)
  simpa using this
theorem j1 {c:Cn} {off len:Nat} {v:Value} (h:Hdr c off len v) (hv:c.void = true):v = .slice none 0 0∧off = 0∧len = 0:=by
 simpa [Hdr,hv] using h
theorem j2 {c:Cn} {off len:Nat} {v:Value} (h:Hdr c off len v) (hv:c.void = false):∃ ad,v = .slice (some ad) len (c.cap - off)∧off + len≤c.n∧off≤c.cap∧(off < c.cap→ad = ⟨c.block,c.base + off * c.sz,none⟩):=by
 simpa [Hdr,hv] using h
theorem ani (hg:Good C w Z μ o) (hf:∀ x,b≤x→x < b + KK→μ x = none) (hm:C.m≤b) {ts:Array TypeId} {ty st xt e:TypeId} {sz by_:Nat} {z:Value} (T:Tgt C.P ts st xt e sz by_ z) {cy:Value} {n:Nat} {ys:List V} {L:List Value} (S:Src C w Z sz n cy ys L)
  {a off len:Nat} {wr:Bool} {xs:List V} {cx:Value} (hx:Rep w Z μ cx (.hd a off len)) (ho:o a = some (.buf wr sz xs)) (htip:off + len = xs.length∨wr = true) (hs:(len + n) * by_≤2 ^ 40) :
  ∃ v w' μ',(Builtin.append_ ts ty #[cx,cy]).run C.P w = .ok v w'∧Rep w' Z μ' v (.hd b 0 (len + n))∧Good C w' Z μ' (upd (upd o a (some .dead)) b (some (.buf wr sz ((xs.drop off).take len++ys))))∧Evo b KK w Z μ w' Z μ'∧(aoW w μ a e→off = 0→aoW w' μ' b e):=by
 have hbx:=hf b (zi _) (by simp [KK])
 obtain ⟨c,hmu,hh⟩:=hx.hdE
 obtain ⟨c',hm',hok,hlive⟩:=hg.ob a _ ho
 rw [hmu] at hm';cases hm'
 have hab:b≠a:=by rintro rfl;rw [hbx] at hmu;cases hmu
 cases hv:c.void with
 | true =>
   obtain ⟨rfl,rfl,rfl⟩:=j1 hh hv
   obtain ⟨v,w',μ',e1,e2,e3,e4,e5⟩:=append_nil (ty:=ty) (hg.kill ho) hf hm T S (by simpa using hs)
   have g:=e3.weak (a:=b) (wr:=wr) (Qi _ _ _)
   rw [aaM] at g
   exact ⟨v,w',μ',e1,by simpa using e2,by simpa using g,e4,fun _ _=>e5⟩
 | false =>
   obtain ⟨ad,rfl,h3,h4,h5⟩:=j2 hh hv
   obtain ⟨hlen,hok⟩:=hok
   obtain ⟨h6,h7,h8,h9,h10,cs,cty,fr,hb,h11,h12,h13⟩:=hok hv
   have hlx:((xs.drop off).take len).length = len:=by simp;omega
   have hrow0:Row w Z noμ (fun k=>w.cell? ⟨c.block,c.base + k,none⟩) sz xs:=by
    intro i hi
    refine ⟨h10 i hi,fun j hj=>?_⟩
    obtain ⟨u,e1,e2,e3⟩:=h13 i hi j hj
    rw [h6] at e1
    exact ⟨u,by simp only [cell?_of_heap hb];exact e1,e2,e3⟩
   have hrow1:Row w Z noμ (fun k=>w.cell? ⟨c.block,c.base + off * sz + k,none⟩) sz ((xs.drop off).take len) :=
    ((hrow0.drop off).take len).congr (fun k _=>by rw [ko])
   by_cases hroom:len + n≤c.cap - off
   ·
    by_cases hn:n = 0
    ·subst hn
     have hys:ys = []:=ki S.count
     subst hys
     have hL:L = []:=by have:=S.size;simpa using this
     subst hL
     have hob:yr w Z (upd μ b (some { c with base:=c.base + off * sz,cap:=c.cap - off,n:=len })) { c with base:=c.base + off * sz,cap:=c.cap - off,n:=len } (.buf wr sz ((xs.drop off).take len)):=by
      refine ⟨hlx,fun _=>⟨h6,⟨by simp only;omega,fun e=>by have:=h7.2 e;simp only;omega⟩,h8,fun i hz=>?_,fun i hi=>(hrow1 i hi).1,cs,cty,fr,hb,?_,h12,fun i hi j hj=>?_⟩⟩
      ·rcases htip with h|h
       ·have:=h9 i hz
        simp only [h6] at this ⊢
        have e:(off + len) * sz = off * sz + len * sz:=zK _ _ _
        rw [← hlen,← h,e] at this
        omega
       ·exact (h8 h i hz).elim
      ·simp only [h6]
       have e:(off + (c.cap - off)) * sz = off * sz + (c.cap - off) * sz:=zK _ _ _
       rw [show off + (c.cap - off) = c.cap by omega,← h6] at e
       rw [h6] at e h11
       omega
      ·obtain ⟨u,e1,e2,e3⟩:=(hrow1 i hi).2 j hj
       simp only [cell?_of_heap hb] at e1
       exact ⟨u,by simp only [h6];exact e1,e2,e3⟩
     refine ⟨_,w,upd μ b (some { c with base:=c.base + off * sz,cap:=c.cap - off,n:=len }),V2 (w':=w) T.h1 T.h2 T.h3 T.h4 T.h5 S.len hroom (S.cells w rfl) (fun a h=>rfl) (fun _=>rfl),.hd (Qi _ _ _) ?_,?_,Evo.name hbx (zi _) (by simp [KK]),fun ht h0 c2 hc2=>?_⟩
     rotate_left 2
     ·rw [Qi] at hc2;cases hc2
      obtain ⟨t1,t2⟩:=ht c hmu
      exact ⟨by simp [t1,h0],fun hv2=>t2 hv⟩
     ·simp only [Hdr,hv,zk,if_false]
      refine ⟨ad,by simp,by omega,by omega,fun hlt=>?_⟩
      rw [h5 (by omega),h6];simp
     ·have:=hg.pass (w':=w) (x':=.buf wr sz ((xs.drop off).take len)) ho hmu hv hbx hm (c':={ c with base:=c.base + off * sz,cap:=c.cap - off,n:=len }) rfl (fun _ _=>rfl) rfl (fun _ _=>rfl) hob
      simpa using this
    ·have had:=h5 (by omega)
     subst had
     have hbd:(off + len + n) * sz≤c.cap * sz:=zL _ (by omega)
     have hbd':(off + len + n) * sz = off * sz + len * sz + n * sz:=by rw [zK,zK]
     rw [h6] at h11
     obtain ⟨cs',e1,e2,e3,e4⟩:=Wo (P:=C.P) c.block cty fr L (c.base + off * sz + len * sz) 0 cs w hb (fun o ho=>h12 o (.inl ho)) (by rw [S.size];omega) S.one
     obtain ⟨s1,s2,s3⟩:=UI (w:=w) (ob:=.cells cs' cty fr) (hlive hv).1
     have hzc:∀ i,Z c.block i→({ w with heap:=w.heap.setIfInBounds c.block (.cells cs' cty fr) }:World).cell? ⟨c.block,i,none⟩ = w.cell? ⟨c.block,i,none⟩:=by
      intro i hz
      rcases htip with h|h
      ·have:=h9 i hz
       rw [cell?_of_heap s2,cell?_of_heap hb]
       refine e4 i (.inl ?_)
       have e:(off + len) * sz = off * sz + len * sz:=zK _ _ _
       rw [← hlen,← h,h6,e] at this
       omega
      ·exact (h8 h i hz).elim
     have hcell:∀ b' i,Z b' i→({ w with heap:=w.heap.setIfInBounds c.block (.cells cs' cty fr) }:World).cell? ⟨b',i,none⟩ = w.cell? ⟨b',i,none⟩:=by
      intro b' i hz
      by_cases hbb:b' = c.block
      ·subst hbb;exact hzc i hz
      ·simp only [World.cell?,s3 b' hbb]
     have hrep:∀ v x,Rep w Z noμ v x→Rep { w with heap:=w.heap.setIfInBounds c.block (.cells cs' cty fr) } Z noμ v x :=
      fun v x h=>h.mono hcell (fun _ _ h=>h) (fun _ _ h=>h)
     have hrow:Row { w with heap:=w.heap.setIfInBounds c.block (.cells cs' cty fr) } Z noμ (fun k=>cs'[c.base + off * sz + k]?) sz ((xs.drop off).take len++ys):=by
      refine Row.append ((hrow1.mono hrep).congr (fun k hk=>?_)) ((S.row.mono hrep).congr (fun k hk=>?_))
      ·rw [hlx] at hk
       rw [cell?_of_heap hb]
       exact e4 _ (.inl (by omega))
      ·rw [S.count] at hk
       rw [hlx]
       have:=e3 k (by rw [S.size];exact hk)
       rw [← this];congr 1;omega
     have hob:yr { w with heap:=w.heap.setIfInBounds c.block (.cells cs' cty fr) } Z (upd μ b (some { c with base:=c.base + off * sz,cap:=c.cap - off,n:=len + n })) { c with base:=c.base + off * sz,cap:=c.cap - off,n:=len + n } (.buf wr sz ((xs.drop off).take len++ys)):=by
      refine ⟨by simp only [zF,hlx,S.count],fun _=>⟨h6,⟨by simp only;omega,fun e=>by have:=h7.2 e;simp only;omega⟩,h8,fun i hz=>?_,fun i hi=>(hrow i hi).1,cs',cty,fr,s2,?_,by rw [e2];exact h12,fun i hi j hj=>?_⟩⟩
      ·rcases htip with h|h
       ·have:=h9 i hz
        simp only [h6] at this ⊢
        have e:(off + len) * sz = off * sz + len * sz:=zK _ _ _
        rw [← hlen,← h,e] at this
        have e':(len + n) * sz = len * sz + n * sz:=zK _ _ _
        rw [e'];omega
       ·exact (h8 h i hz).elim
      ·simp only [h6,e2]
       have e:(off + (c.cap - off)) * sz = off * sz + (c.cap - off) * sz:=zK _ _ _
       rw [show off + (c.cap - off) = c.cap by omega] at e
       omega
      ·obtain ⟨u,f1,f2,f3⟩:=(hrow i hi).2 j hj
       exact ⟨u,by simp only [h6];exact f1,f2,f3⟩
     refine ⟨_,_,upd μ b (some { c with base:=c.base + off * sz,cap:=c.cap - off,n:=len + n }),V2 T.h1 T.h2 T.h3 T.h4 T.h5 S.len hroom (S.cells w rfl) (fun a h=>by cases h;rw [Vp,h6];exact e1) (fun h=>by cases h),.hd (Qi _ _ _) ?_,?_,⟨hcell,fun _ _ h=>h,UV hbx,fun x hx=>QH _ _ (by simp [KK] at hx;omega)⟩,fun ht h0 c2 hc2=>?_⟩
     rotate_left 2
     ·rw [Qi] at hc2;cases hc2
      obtain ⟨t1,t2⟩:=ht c hmu
      obtain ⟨cs2,fr2,ht2⟩:=t2 hv
      rw [hb] at ht2
      simp only [zd,Obj.cells.injEq] at ht2
      obtain ⟨_,rfl,_⟩:=ht2
      exact ⟨by simp [t1,h0],fun hv2=>⟨_,_,s2⟩⟩
     ·simp only [Hdr,hv,zk,if_false]
      exact ⟨_,rfl,by omega,by omega,fun _=>by rw [h6];simp⟩
     ·exact hg.pass (x':=.buf wr sz ((xs.drop off).take len++ys)) ho hmu hv hbx hm (c':={ c with base:=c.base + off * sz,cap:=c.cap - off,n:=len + n }) rfl s3 s1 hzc hob
   ·
    obtain ⟨L0,f1,f2,f3,f4⟩:=Uf (C:=C) (w:=w) (Z:=Z) (μ:=noμ) (xs:=(xs.drop off).take len) (a:=some ad) (cap:=c.cap - off) (sz:=sz) (fun hne=>by
     have hpos:0 < len:=by
      rcases Zf len with h0|h0
      ·subst h0;simp at hne
      ·exact h0
     exact ⟨c.block,c.base + off * sz,by rw [h5 (by omega),h6],hrow1⟩) len (by omega)
    rw [hlx] at f1
    rw [zb (by omega)] at f4
    obtain ⟨v,w',μ',e1,e2,e3,e4,e5⟩:=ajL (ty:=ty) (hg.kill ho) hf hm T S f1 f2 f4 hlx (by omega) hs
    have g:=e3.weak (a:=b) (wr:=wr) (Qi _ _ _)
    rw [aaM] at g
    exact ⟨v,w',μ',e1,e2,g,e4,fun _ _=>e5⟩
structure arN (C:Ctx) (w:World) (Z:Nat→Nat→Prop) (μ:Nat→Option Cn) (sz n:Nat) (cy:Value) (ys:List V) (L:List Value):Prop where
 len:(Builtin.lenOf cy).run C.P w = .ok n w
 cells:∀ w1:World,w1.heap = w.heap→(Builtin.firstCells sz n cy).run C.P w1 = .ok L.toArray w1
 size:L.length = n * sz
 one:∀ u∈L,u.oneCell' = true
 row:Row w Z μ (fun k=>L[k]?) sz ys
 count:ys.length = n
theorem ahb (hg:Good C w Z μ o) (hf:∀ x,b≤x→x < b + KK→μ x = none) (hm:C.m≤b) {ts:Array TypeId} {ty st xt e:TypeId} {sz by_:Nat} {z:Value} (T:Tgt C.P ts st xt e sz by_ z) {cy:Value} {n:Nat} {ys:List V} {L:List Value} (S:arN C w Z μ sz n cy ys L)
  {ad:Option Addr} {sLen sCap:Nat} {xs:List V} {L0:List Value} (h0:∀ w1:World,w1.heap = w.heap→(Builtin.firstCells sz sLen (.slice ad sLen sCap)).run C.P w1 = .ok L0.toArray w1) (hl0:L0.length = sLen * sz) (hr0:Row w Z μ (fun k=>L0[k]?) sz xs) (hx:xs.length = sLen)
  (hn:sCap < sLen + n) (hs:(sLen + n) * by_≤2 ^ 40) :
  ∃ v w' μ',(Builtin.append_ ts ty #[.slice ad sLen sCap,cy]).run C.P w = .ok v w'∧Rep w' Z μ' v (.hd b 0 (sLen + n))∧Good C w' Z μ' (upd o b (some (.obuf true sz (xs++ys))))∧Evo b KK w Z μ w' Z μ'∧aoW w' μ' b e:=by
 obtain ⟨cap,hc,hrun⟩:=adt (P:=C.P) (w:=w) (ty:=ty) T.h1 T.h2 T.h3 T.h4 T.h5 T.hb T.hb1 T.hb2 T.hz (ad:=ad) S.len hn hs (S.cells w.drew rfl) (h0 w.drew rfl)
 have hlen:(xs++ys).length = sLen + n:=by simp [hx,S.count]
 have hrow:Row w Z μ (fun k=>(L0.toArray++L.toArray++Builtin.zeroCells z.cells (cap - (sLen + n)))[k]?) sz (xs++ys):=by
  refine Row.append (hr0.congr (fun k hk=>?_)) (S.row.congr (fun k hk=>?_))
  ·grind
  ·rw [S.count] at hk
   have hSs:=S.size
   grind
 have hsize:cap * sz≤(L0.toArray++L.toArray++Builtin.zeroCells z.cells (cap - (sLen + n))).size:=by
  simp only [Array.size_append,List.size_toArray,wI,T.hzs,hl0,S.size]
  rw [← zK,← zK]
  grind
 obtain ⟨g1,g2,g3⟩:=aiG hg hf hm (w1:=w.drew) rfl (e:=e) (fr:=(0,0)) (sz:=sz) (cap:=cap) (xs:=xs++ys) (fun k _=>by omega) hrow ⟨by omega,fun _=>hc.2⟩ hsize
 rw [hlen] at g1 g2 g3
 exact ⟨_,_,_,hrun,g1,g2,g3,fun c hc=>by rw [Qi] at hc;cases hc;exact ⟨rfl,fun _=>⟨_,_,heap_alloc_new⟩⟩⟩
theorem ads (hg:Good C w Z μ o) (hf:∀ x,b≤x→x < b + KK→μ x = none) (hm:C.m≤b) {ts:Array TypeId} {ty st xt e:TypeId} {sz by_:Nat} {z:Value} (T:Tgt C.P ts st xt e sz by_ z) {cy:Value} {n:Nat} {ys:List V} {L:List Value} (S:arN C w Z μ sz n cy ys L)
  (hs:n * by_≤2 ^ 40) :
  ∃ v w' μ',(Builtin.append_ ts ty #[.slice none 0 0,cy]).run C.P w = .ok v w'∧Rep w' Z μ' v (.hd b 0 n)∧Good C w' Z μ' (upd o b (some (.obuf true sz ys)))∧Evo b KK w Z μ w' Z μ'∧aoW w' μ' b e:=by
 by_cases hn:n = 0
 ·subst hn
  have hys:ys = []:=ki S.count
  subst hys
  have hx:=hf b (zi _) (by simp [KK])
  refine ⟨_,w,upd μ b (some { block:=0,void:=true }),V2 (w':=w) T.h1 T.h2 T.h3 T.h4 T.h5 S.len (by omega) (S.cells w rfl) (fun a h=>by cases h) (fun _=>rfl),?_,?_,Evo.name hx (zi _) (by simp [KK]),fun c hc=>by rw [Qi] at hc;cases hc;exact ⟨rfl,fun hv=>by cases hv⟩⟩
  ·exact .hd (Qi _ _ _) (by simp [Hdr])
  ·have:=(hg.nil (sz:=sz) hx hm).open (Qi _ _ _)
   rwa [aaM] at this
 ·have:=ahb (ty:=ty) hg hf hm T S (ad:=none) (sLen:=0) (sCap:=0) (xs:=[]) (L0:=[]) (fun w1 _=>rfl) (by simp) Row.nil rfl (by omega) (by simpa using hs)
  simpa using this
theorem abi (hg:Good C w Z μ o) (hf:∀ x,b≤x→x < b + KK→μ x = none) (hm:C.m≤b) {ts:Array TypeId} {ty st xt e:TypeId} {sz by_:Nat} {z:Value} (T:Tgt C.P ts st xt e sz by_ z) {cy:Value} {n:Nat} {ys:List V} {L:List Value} (S:arN C w Z μ sz n cy ys L)
  {a off len:Nat} {wr:Bool} {xs:List V} {cx:Value} (hx:Rep w Z μ cx (.hd a off len)) (ho:o a = some (.obuf wr sz xs)) (htip:off + len = xs.length∨wr = true) (hs:(len + n) * by_≤2 ^ 40) :
  ∃ v w' μ',(Builtin.append_ ts ty #[cx,cy]).run C.P w = .ok v w'∧Rep w' Z μ' v (.hd b 0 (len + n))∧Good C w' Z μ' (upd (upd o a (some .dead)) b (some (.obuf wr sz ((xs.drop off).take len++ys))))∧Evo b KK w Z μ w' Z μ'∧(aoW w μ a e→off = 0→aoW w' μ' b e):=by
 have hbx:=hf b (zi _) (by simp [KK])
 obtain ⟨c,hmu,hh⟩:=hx.hdE
 obtain ⟨c',hm',hok,hlive⟩:=hg.ob a _ ho
 rw [hmu] at hm';cases hm'
 have hab:b≠a:=by rintro rfl;rw [hbx] at hmu;cases hmu
 cases hv:c.void with
 | true =>
   obtain ⟨rfl,rfl,rfl⟩:=j1 hh hv
   obtain ⟨v,w',μ',e1,e2,e3,e4,e5⟩:=ads (ty:=ty) (hg.kill ho) hf hm T S (by simpa using hs)
   have g:=e3.weakO (a:=b) (wr:=wr) (Qi _ _ _)
   rw [aaM] at g
   exact ⟨v,w',μ',e1,by simpa using e2,by simpa using g,e4,fun _ _=>e5⟩
 | false =>
   obtain ⟨ad,rfl,h3,h4,h5⟩:=j2 hh hv
   obtain ⟨hlen,hok⟩:=hok
   obtain ⟨h6,h7,h8,h9,h10,cs,cty,fr,hb,h11,h12,h13⟩:=hok hv
   have hlx:((xs.drop off).take len).length = len:=by simp;omega
   have hrow0:Row w Z μ (fun k=>w.cell? ⟨c.block,c.base + k,none⟩) sz xs:=by
    intro i hi
    refine ⟨h10 i hi,fun j hj=>?_⟩
    obtain ⟨u,e1,e2,e3⟩:=h13 i hi j hj
    rw [h6] at e1
    exact ⟨u,by simp only [cell?_of_heap hb];exact e1,e2,e3⟩
   have hrow1:Row w Z μ (fun k=>w.cell? ⟨c.block,c.base + off * sz + k,none⟩) sz ((xs.drop off).take len) :=
    ((hrow0.drop off).take len).congr (fun k _=>by rw [ko])
   by_cases hroom:len + n≤c.cap - off
   ·
    by_cases hn:n = 0
    ·subst hn
     have hys:ys = []:=ki S.count
     subst hys
     have hL:L = []:=by have:=S.size;simpa using this
     subst hL
     have hob:yr w Z (upd μ b (some { c with base:=c.base + off * sz,cap:=c.cap - off,n:=len })) { c with base:=c.base + off * sz,cap:=c.cap - off,n:=len } (.obuf wr sz ((xs.drop off).take len)):=by
      refine ⟨hlx,fun _=>⟨h6,⟨by simp only;omega,fun e=>by have:=h7.2 e;simp only;omega⟩,h8,fun i hz=>?_,fun i hi=>(hrow1 i hi).1,cs,cty,fr,hb,?_,h12,fun i hi j hj=>?_⟩⟩
      ·rcases htip with h|h
       ·have:=h9 i hz
        simp only [h6] at this ⊢
        have e:(off + len) * sz = off * sz + len * sz:=zK _ _ _
        rw [← hlen,← h,e] at this
        omega
       ·exact (h8 h i hz).elim
      ·simp only [h6]
       have e:(off + (c.cap - off)) * sz = off * sz + (c.cap - off) * sz:=zK _ _ _
       rw [show off + (c.cap - off) = c.cap by omega,← h6] at e
       rw [h6] at e h11
       omega
      ·obtain ⟨u,e1,e2,e3⟩:=(hrow1 i hi).2 j hj
       simp only [cell?_of_heap hb] at e1
       exact ⟨u,by simp only [h6];exact e1,e2,e3.mono (fun _ _ _=>rfl) (fun _ _ h=>h) (UV hbx)⟩
     refine ⟨_,w,upd μ b (some { c with base:=c.base + off * sz,cap:=c.cap - off,n:=len }),V2 (w':=w) T.h1 T.h2 T.h3 T.h4 T.h5 S.len hroom (S.cells w rfl) (fun a h=>rfl) (fun _=>rfl),.hd (Qi _ _ _) ?_,?_,Evo.name hbx (zi _) (by simp [KK]),fun ht h0 c2 hc2=>?_⟩
     rotate_left 2
     ·rw [Qi] at hc2;cases hc2
      obtain ⟨t1,t2⟩:=ht c hmu
      exact ⟨by simp [t1,h0],fun hv2=>t2 hv⟩
     ·simp only [Hdr,hv,zk,if_false]
      refine ⟨ad,by simp,by omega,by omega,fun hlt=>?_⟩
      rw [h5 (by omega),h6];simp
     ·have:=hg.pass (w':=w) (x':=.obuf wr sz ((xs.drop off).take len)) ho hmu hv hbx hm (c':={ c with base:=c.base + off * sz,cap:=c.cap - off,n:=len }) rfl (fun _ _=>rfl) rfl (fun _ _=>rfl) hob
      simpa using this
    ·have had:=h5 (by omega)
     subst had
     have hbd:(off + len + n) * sz≤c.cap * sz:=zL _ (by omega)
     have hbd':(off + len + n) * sz = off * sz + len * sz + n * sz:=by rw [zK,zK]
     rw [h6] at h11
     obtain ⟨cs',e1,e2,e3,e4⟩:=Wo (P:=C.P) c.block cty fr L (c.base + off * sz + len * sz) 0 cs w hb (fun o ho=>h12 o (.inl ho)) (by rw [S.size];omega) S.one
     obtain ⟨s1,s2,s3⟩:=UI (w:=w) (ob:=.cells cs' cty fr) (hlive hv).1
     have hzc:∀ i,Z c.block i→({ w with heap:=w.heap.setIfInBounds c.block (.cells cs' cty fr) }:World).cell? ⟨c.block,i,none⟩ = w.cell? ⟨c.block,i,none⟩:=by
      intro i hz
      rcases htip with h|h
      ·have:=h9 i hz
       rw [cell?_of_heap s2,cell?_of_heap hb]
       refine e4 i (.inl ?_)
       have e:(off + len) * sz = off * sz + len * sz:=zK _ _ _
       rw [← hlen,← h,h6,e] at this
       omega
      ·exact (h8 h i hz).elim
     have hcell:∀ b' i,Z b' i→({ w with heap:=w.heap.setIfInBounds c.block (.cells cs' cty fr) }:World).cell? ⟨b',i,none⟩ = w.cell? ⟨b',i,none⟩:=by
      intro b' i hz
      by_cases hbb:b' = c.block
      ·subst hbb;exact hzc i hz
      ·simp only [World.cell?,s3 b' hbb]
     have hrep:∀ v x,Rep w Z μ v x→Rep { w with heap:=w.heap.setIfInBounds c.block (.cells cs' cty fr) } Z μ v x :=
      fun v x h=>h.mono hcell (fun _ _ h=>h) (fun _ _ h=>h)
     have hrow:Row { w with heap:=w.heap.setIfInBounds c.block (.cells cs' cty fr) } Z μ (fun k=>cs'[c.base + off * sz + k]?) sz ((xs.drop off).take len++ys):=by
      refine Row.append ((hrow1.mono hrep).congr (fun k hk=>?_)) ((S.row.mono hrep).congr (fun k hk=>?_))
      ·rw [hlx] at hk
       rw [cell?_of_heap hb]
       exact e4 _ (.inl (by omega))
      ·rw [S.count] at hk
       rw [hlx]
       have:=e3 k (by rw [S.size];exact hk)
       rw [← this];congr 1;omega
     have hob:yr { w with heap:=w.heap.setIfInBounds c.block (.cells cs' cty fr) } Z (upd μ b (some { c with base:=c.base + off * sz,cap:=c.cap - off,n:=len + n })) { c with base:=c.base + off * sz,cap:=c.cap - off,n:=len + n } (.obuf wr sz ((xs.drop off).take len++ys)):=by
      refine ⟨by simp only [zF,hlx,S.count],fun _=>⟨h6,⟨by simp only;omega,fun e=>by have:=h7.2 e;simp only;omega⟩,h8,fun i hz=>?_,fun i hi=>(hrow i hi).1,cs',cty,fr,s2,?_,by rw [e2];exact h12,fun i hi j hj=>?_⟩⟩
      ·rcases htip with h|h
       ·have:=h9 i hz
        simp only [h6] at this ⊢
        have e:(off + len) * sz = off * sz + len * sz:=zK _ _ _
        rw [← hlen,← h,e] at this
        have e':(len + n) * sz = len * sz + n * sz:=zK _ _ _
        rw [e'];omega
       ·exact (h8 h i hz).elim
      ·simp only [h6,e2]
       have e:(off + (c.cap - off)) * sz = off * sz + (c.cap - off) * sz:=zK _ _ _
       rw [show off + (c.cap - off) = c.cap by omega] at e
       omega
      ·obtain ⟨u,f1,f2,f3⟩:=(hrow i hi).2 j hj
       exact ⟨u,by simp only [h6];exact f1,f2,f3.mono (fun _ _ _=>rfl) (fun _ _ h=>h) (UV hbx)⟩
     refine ⟨_,_,upd μ b (some { c with base:=c.base + off * sz,cap:=c.cap - off,n:=len + n }),V2 T.h1 T.h2 T.h3 T.h4 T.h5 S.len hroom (S.cells w rfl) (fun a h=>by cases h;rw [Vp,h6];exact e1) (fun h=>by cases h),.hd (Qi _ _ _) ?_,?_,⟨hcell,fun _ _ h=>h,UV hbx,fun x hx=>QH _ _ (by simp [KK] at hx;omega)⟩,fun ht h0 c2 hc2=>?_⟩
     rotate_left 2
     ·rw [Qi] at hc2;cases hc2
      obtain ⟨t1,t2⟩:=ht c hmu
      obtain ⟨cs2,fr2,ht2⟩:=t2 hv
      rw [hb] at ht2
      simp only [zd,Obj.cells.injEq] at ht2
      obtain ⟨_,rfl,_⟩:=ht2
      exact ⟨by simp [t1,h0],fun hv2=>⟨_,_,s2⟩⟩
     ·simp only [Hdr,hv,zk,if_false]
      exact ⟨_,rfl,by omega,by omega,fun _=>by rw [h6];simp⟩
     ·exact hg.pass (x':=.obuf wr sz ((xs.drop off).take len++ys)) ho hmu hv hbx hm (c':={ c with base:=c.base + off * sz,cap:=c.cap - off,n:=len + n }) rfl s3 s1 hzc hob
   ·
    obtain ⟨L0,f1,f2,f3,f4⟩:=Uf (C:=C) (w:=w) (Z:=Z) (μ:=μ) (xs:=(xs.drop off).take len) (a:=some ad) (cap:=c.cap - off) (sz:=sz) (fun hne=>by
     have hpos:0 < len:=by
      rcases Zf len with h0|h0
      ·subst h0;simp at hne
      ·exact h0
     exact ⟨c.block,c.base + off * sz,by rw [h5 (by omega),h6],hrow1⟩) len (by omega)
    rw [hlx] at f1
    rw [zb (by omega)] at f4
    obtain ⟨v,w',μ',e1,e2,e3,e4,e5⟩:=ahb (ty:=ty) (hg.kill ho) hf hm T S f1 f2 f4 hlx (by omega) hs
    have g:=e3.weakO (a:=b) (wr:=wr) (Qi _ _ _)
    rw [aaM] at g
    exact ⟨v,w',μ',e1,e2,g,e4,fun _ _=>e5⟩
end
end Av
end
