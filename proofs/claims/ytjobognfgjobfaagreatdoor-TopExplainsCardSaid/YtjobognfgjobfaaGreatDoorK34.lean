/- slices.SortFunc out of what the library's law says of worlds: rows of structs. -/
import Derived.Test.YtjobognfgjobfaaGreatDoorK33
import Derived.Shelf.SlSortCmp.NoneTotal
set_option linter.unusedVariables false
set_option linter.unusedSimpArgs false
section
namespace Av
open Go Go.Sort Go.Proofs Go.Lib
theorem Good.grown {C:Ctx} {w w':World} {Z:Nat→Nat→Prop} {μ:Nat→Option Cn} {o:Nat→Option Ob} (h:Good C w Z μ o) (hs:w.heap.size≤w'.heap.size) (hk:∀ k,k < w.heap.size→w'.heap[k]? = w.heap[k]?) (ho:XA C.dr w w'):Good C w' Z μ o:=by
 have hc:∀ b i,Z b i→w'.cell? ⟨b,i,none⟩ = w.cell? ⟨b,i,none⟩:=fun b i hz=>by
  simp only [World.cell?,hk b (h.zlt b i hz)]
 refine ⟨fun a x ha=>?_,h.sep,fun b i hz=>kT (h.zlt b i hz) hs,Zk h.grow hs,fun b hb hf=>(hk b (kT hb h.grow)).trans (h.frame b hb hf),h.zsub,h.zsup,fun b i hz=>(hc b i (h.zsup b i hz)).trans (h.zkeep b i hz),h.fix,h.oo.trans ho⟩
 obtain ⟨c,hm,hok,hl⟩:=h.ob a x ha
 exact ⟨c,hm,hok.mono hc (fun _ _ hz=>hz) (fun _ _ h=>h) (fun lx=>hk _ (hl lx).1) (fun _ _ h=>h),fun lx=>⟨kT (hl lx).1 hs,(hl lx).2⟩⟩
theorem am3 (w:World) (blk off:Nat) (F:Array Value) {cs:Array Value} {t:TypeId} {fr:Nat×Nat} (h:w.heap[blk]? = some (.cells cs t fr)) :
  (putRow id w blk off F).heap[blk]? = some (.cells (putCells id off F cs) t fr)∧(∀ k,k≠blk→(putRow id w blk off F).heap[k]? = w.heap[k]?)∧(putRow id w blk off F).heap.size = w.heap.size∧∀ d,XA d w (putRow id w blk off F):=by
 refine ⟨?_,fun k hk=>?_,?_,fun _=>.mk⟩
 ·simp only [putRow,mapBlock,kR,if_true,h];rfl
 ·simp only [putRow,mapBlock,kR,if_neg (Ne.symm hk)]
 ·simp [putRow,mapBlock]
theorem av0 {w w':World} (ho:XA True w w') (hs:w.heap.size≤w'.heap.size) (hk:∀ b,b < w.heap.size→w'.heap[b]? = w.heap[b]?):∃ q os',w' = grow (w.drewN q) os':=by
 obtain ⟨h1,h2,h3,h4⟩:=ho
 have h4:=h4 trivial
 refine ⟨w'.drawn - w.drawn,w'.heap.extract w.heap.size w'.heap.size,?_⟩
 obtain ⟨hp,tp,dr,os,out⟩:=w
 obtain ⟨hp',tp',dr',os',out'⟩:=w'
 simp only at h1 h2 h3 h4 hs hk
 subst h1;subst h2;subst h3
 simp only [grow,World.drewN,World.mk.injEq,and_true,true_and]
 refine ⟨?_,by omega⟩
 apply Array.ext_getElem?
 intro i
 rw [Zi]
 split
 ·rename_i h;exact hk i h
 ·rename_i h
  rw [Array.getElem?_extract]
  split
  ·congr 1;omega
  ·rename_i h'
   rw [Zu];omega
theorem ams {Γ:Env} (hd:Γ.dr) (mix:Γ.P.follows .mixedOrders = true) {f:FuncId} (own:Own Γ.P f) {W:World} {args:List V} {cargs:Array Value} {res:Value}
  (h:EvN Γ f args (.sc res)) (hkn:∀ b x,Γ.kn b = some x→W.heap[b]? = some x) (hsz:cargs.size = args.length) (hrep:∀ i (h:i < args.length) (h':i < cargs.size),Rep W (atv W) noμ cargs[i] args[i]) :
  Calls Γ.P f cargs W fun e W'=>e = .returned res∧∃ q os',W' = grow (W.drewN q) os':=by
 let C:Ctx:={ P:=Γ.P,w0:=W,Z0:=atv W,F:=fun _=>False,m:=0,μ0:=noμ,kn:=Γ.kn,dr:=Γ.dr,mix:=mix,hkn:=fun b x h=>⟨hkn b x h,fun h=>h⟩ }
 have hg:Good C W (atv W) noμ (fun k=>([]:List Ob)[k]?):=by
  refine ⟨by grind,by grind,fun b i h=>h,zj _,fun _ _ _=>rfl,fun b i h=>.inl h,fun b i h=>h,fun _ _ _=>rfl,by grind,XA.refl _⟩
 have:=h.1 C cargs rfl rfl (fun k _=>rfl) hg (fun b hb=>hb.elim) hsz hrep
 rw [show C.w0 = W from rfl,JU own] at this
 refine Calls.mono this ?_
 rintro e w' ⟨v,Z',μ',rfl,hr,hgd,_⟩
 exact ⟨by rw [hr.scE.1],av0 ⟨hgd.oo.1,hgd.oo.2.1,hgd.oo.2.2.1,fun _=>hgd.oo.2.2.2 hd⟩ hgd.grow fun b hb=>hgd.frame b hb fun h=>h⟩
theorem aqi {Γ:Env} (hd:Γ.dr) (mix:Γ.P.follows .mixedOrders = true) {g:FuncId} (own:Own Γ.P g) {α:Type} [Inhabited α] {enc:α→List Value} {k:Nat} {cf:α→α→Int} (h1:∀ x,∀ v∈enc x,v.oneCell' = true)
  (hcmp:∀ x y,EvN Γ g [.agg ((enc x).map V.sc),.agg ((enc y).map V.sc)] (V.int (cf x y))) {blk off size:Nat} {w:World} (hkn:∀ b x,Γ.kn b = some x→b≠blk∧w.heap[b]? = some x):CmpLays Γ.P g #[] enc k cf blk off size w:=by
 intro m os dk _ x y
 have hw:∀ b,b < w.heap.size→b≠blk→(sortWorldK enc k w blk off m dk os).heap[b]? = w.heap[b]?:=fun b hb hne=>by
  simp only [sortWorldK,grow,putRowK,putRow,mapBlock,Go.Sort.ahead]
  rw [kS (by simpa using hb),kR,if_neg (Ne.symm hne)]
 have hr:∀ z:α,Rep (sortWorldK enc k w blk off m dk os) (atv (sortWorldK enc k w blk off m dk os)) noμ (.agg (enc z).toArray) (.agg ((enc z).map V.sc)):=fun z=>by
  refine .agg (by simp) (fun j hj=>h1 z _ (by simp)) fun i hi hj=>?_
  simp only [zX,List.getElem_toArray]
  exact .sc (h1 z _ (zV _))
 rw [Array.append_empty]
 refine (ams hd mix own (hcmp x y) (fun b v hb=>?_) rfl fun i hi hj=>?_)
 ·obtain ⟨hne,hv⟩:=hkn b v hb
  rw [hw b (zZ.1 hv).1 hne];exact hv
 ·match i,hi with
  | 0,_=>exact hr x
  | 1,_=>exact hr y
theorem asp {Γ:Env} {f g:FuncId} {α:Type} [Inhabited α] {enc:α→List Value} {k:Nat} {cf:α→α→Int} (own:Own Γ.P f) (owng:Own Γ.P g) (h1:∀ x,∀ v∈enc x,v.oneCell' = true) (hk:∀ x,(enc x).length = k) (hk0:0 < k)
  (hcmp:∀ x y,EvN Γ.T g [.agg ((enc x).map V.sc),.agg ((enc y).map V.sc)] (V.int (cf x y)))
  (law:∀ (blk off cap:Nat) (d:Array α) (w:World),CmpLays Γ.P g #[] enc k cf blk off d.size w→HoldsK enc k w blk off d→blk < w.heap.size→d.size < 4611686018427387904 →
    Calls Γ.P f #[.slice (some ⟨blk,off,none⟩) d.size cap,.func (.func g) #[] #[]] w fun e w'=>e = .returned (.tuple #[])∧∃ d' n os,PermIn 0 d.size d d'∧SortedIn (ltOf cf) 0 d.size d'∧w' = sortWorldK enc k w blk off n d' os)
  (zero:∀ (a:Option Addr) (cap:Nat) (w:World),Calls Γ.P f #[.slice a 0 cap,.func (.func g) #[] #[]] w fun e w'=>e = .returned (.tuple #[])∧∃ n os,w' = grow (ahead w n) os)
  {xs ys:List α} (hl:xs.length < 2 ^ 40) (hys:∀ d':Array α,PermIn 0 xs.length xs.toArray d'→SortedIn (ltOf cf) 0 xs.length d'→d'.toList = ys) (hyl:ys.length = xs.length) :
  EvL Γ f [.clo (.n g) []] k (xs.map fun x=>.agg ((enc x).map V.sc)) (.tup []) (ys.map fun x=>.agg ((enc x).map V.sc)):=by
 refine ⟨fun C cargs hP hm hmu hg hF hsz hrep=>?_,trivial⟩
 subst hP
 have hsz:cargs.size = 2:=hsz
 obtain ⟨s,v,rfl⟩:∃ s v,cargs = #[s,v]:=⟨cargs[0],cargs[1],by
  apply ZP
  ·simpa using hsz
  ·intro i a1 a2
   match i,a2 with
   | 0,_|1,_=>rfl⟩
 have r0:Rep C.w0 C.Z0 C.μ0 s (.hd 0 0 (xs.map fun x=>V.agg ((enc x).map V.sc)).length):=hrep 0 (by simp) (by simp)
 have r1:Rep C.w0 C.Z0 C.μ0 v (.clo (.n g) []):=hrep 1 (by simp) (by simp)
 rw [zb] at r0
 have ev:v = .func (.func g) #[] #[]:=by
  cases r1 with
  | clo hl _ =>
    have:∀ a:Array Value,a.size = 0→a = #[]:=fun a h=>by simpa using h
    rw [this _ hl]
 subst ev
 have fin:∀ (w':World) (o':Nat→Option Ob),Good C w' C.Z0 C.μ0 o'→o' = (fun k_1=>[Ob.buf true k (ys.map fun x=>V.agg ((enc x).map V.sc))][k_1]?)→∃ u Z' μ',Ending.returned (.tuple #[]) = .returned u∧Rep w' Z' μ' u (.tup [])∧Good C w' Z' μ' (fun k_1=>[Ob.buf true k (ys.map fun x=>V.agg ((enc x).map V.sc))][k_1]?)∧∀ j,[Ob.buf true k (ys.map fun x=>V.agg ((enc x).map V.sc))].length≤j→μ' j = none:=by
  rintro w' o' hgo rfl
  exact ⟨_,C.Z0,C.μ0,rfl,.tup rfl (fun j h=>by simp at h),hgo,hmu⟩
 rw [JU own]
 obtain ⟨c,hc,hok,hlive⟩:=hg.ob 0 (.buf true k (xs.map fun x=>V.agg ((enc x).map V.sc))) rfl
 cases r0 with
 | hd h hv =>
 rw [hc] at h;cases h
 obtain ⟨hn,hB⟩:=hok
 rw [zb] at hn
 by_cases hx:xs = []
 ·subst hx
  have hy:ys = []:=Z6.1 hyl
  subst hy
  obtain ⟨a,cap,rfl⟩:∃ a cap,s = .slice a 0 cap:=by
   cases hvd:c.void with
   | true=>exact ⟨_,_,(jJ hv hvd).1⟩
   | false=>obtain ⟨ad,e,_⟩:=jK hv hvd;exact ⟨_,_,e⟩
  refine (zero a cap C.w0).mono ?_
  rintro e w' ⟨rfl,n,os,rfl⟩
  refine fin _ _ (Good.grown hg ?_ (fun j hj=>?_) .mk) rfl
  ·simp [grow,Go.Sort.ahead]
  ·have hj':j < (Go.Sort.ahead C.w0 n).heap.size:=hj
   simp only [grow,Zi,if_pos hj'];rfl
 have hpos:0 < xs.length:=kL.2 hx
 have hvd:c.void = false:=by
  cases hvd:c.void with
  | false=>rfl
  | true=>have:=(jJ hv hvd).2.2;omega
 obtain ⟨ad,rfl,q1,q2,q3⟩:=jK hv hvd
 obtain ⟨b0,b1,b2,b3,b4,cs,t,fr,b5,b6,b7,b8⟩:=hB hvd
 have had:=q3 (by omega)
 rw [Nat.zero_mul,Nat.add_zero] at had
 subst had
 have hlt:c.block < C.w0.heap.size:=(zZ.1 b5).1
 have get:∀ (d:Array α),d.size = xs.length→∀ i,i < xs.length→∀ j,j < k→(flatK enc k d)[i * k + j]! = (enc d[i]!)[j]!:=fun d hd i hi j hj=>by
  have hmul:i * k + j < d.size * k:=by
   have:(i + 1) * k≤d.size * k:=zT _ (by omega)
   rw [zW] at this;omega
  rw [get_flatK enc k d _ hmul]
  rw [Nat.mul_comm i k,Nat.mul_add_div hk0,Nat.div_eq_of_lt hj,Nat.add_zero,Nat.mul_add_mod,bk hj]
 have hold:HoldsK enc k C.w0 c.block c.base xs.toArray:=by
  intro t0 ht
  rw [size_flatK] at ht
  have ht:t0 < xs.length * k:=by simpa using ht
  have hi:t0 / k < xs.length:=Nat.div_lt_of_lt_mul (by rw [Nat.mul_comm];exact ht)
  have hj:t0 % k < k:=Nat.mod_lt _ hk0
  have e0:t0 / k * k + t0 % k = t0:=by rw [Nat.mul_comm];exact Nat.div_add_mod t0 k
  have hi2:t0 / k < (xs.map fun x=>V.agg ((enc x).map V.sc)).length:=by rw [zb];exact hi
  have hc8:((xs.map fun x=>V.agg ((enc x).map V.sc))[t0 / k]).cells = (enc (xs[t0 / k])).map V.sc:=by rw [zX];rfl
  have hj2:t0 % k < ((xs.map fun x=>V.agg ((enc x).map V.sc))[t0 / k]).cells.length:=by rw [hc8,zb,hk];exact hj
  obtain ⟨u,u1,u2,u3⟩:=b8 _ hi2 _ hj2
  have hce:((xs.map fun x=>V.agg ((enc x).map V.sc))[t0 / k]).cells[t0 % k] = V.sc ((enc (xs[t0 / k]))[t0 % k]'(by rw [hk];exact hj)):=by
   simp only [zX,V.cells]
  rw [hce] at u3
  have u4:=u3.scE.1
  rw [b0,e0] at u1
  have hq:c.base + t0 < cs.size:=(zZ.1 u1).1
  refine ⟨?_,?_⟩
  ·rw [cell?_of_heap b5,u1,u4]
   have hgt:=get xs.toArray (by simp) _ hi _ hj
   rw [e0] at hgt
   rw [id,hgt]
   refine congrArg some ?_
   have hxi:xs.toArray[t0 / k]! = xs[t0 / k]:=by
    rw [getElem!_pos xs.toArray _ (by simpa using hi)];simp
   rw [hxi]
   ·exact (getElem!_pos _ _ (by rw [hk];exact hj)).symm
   ·rw [hk]
  ·rw [frozen?_of_heap b5]
   have:=b7 (c.base + t0) (.inl hq)
   simp only [ZA,zF]
   omega
 rw [Nat.sub_zero]
 have hF:C.F c.block:=by
  rcases (hlive hvd).2 with h|h
  ·omega
  ·exact h
 have L:=law c.block c.base c.cap xs.toArray C.w0 (aqi (Γ:=C.env.T) trivial C.mix owng h1 hcmp fun b x hb=>⟨fun e=>(C.hkn b x hb).2 (e ▸ hF),(C.hkn b x hb).1⟩) hold hlt (by simp;omega)
 rw [Zo] at L
 refine L.mono ?_
 rintro e w' ⟨rfl,d',n,os,hp,hso,rfl⟩
 have hyd:=hys d' hp hso
 have hds:d'.size = xs.length:=by rw [← Array.length_toList,hyd,hyl]
 obtain ⟨p1,p2,p3,p4⟩:=am3 (Go.Sort.ahead C.w0 n) c.block c.base (flatK enc k d') (cs:=cs) (t:=t) (fr:=fr) b5
 have hval:∀ i (hi:i < ys.length) j (hj:j < k),(putCells id c.base (flatK enc k d') cs)[c.base + (i * k + j)]? = some ((enc ys[i])[j]'(by rw [hk];exact hj)):=by
  intro i hi j hj
  have hi':i < xs.length:=by omega
  have hmul:i * k + j < d'.size * k:=by
   have:(i + 1) * k≤d'.size * k:=zT _ (by omega)
   rw [zW] at this;omega
  have hin:c.base + (i * k + j) < cs.size:=by
   have h2:d'.size * k≤c.cap * c.sz:=by rw [hds,b0,hn];exact zT _ b1.1
   omega
  have hgt:=get d' hds i hi' j hj
  have hdi:d'[i]! = ys[i]:=by
   rw [getElem!_pos d' i (by omega)]
   have:d'.toList[i]'(by rw [Array.length_toList];omega) = ys[i]:=by simp only [hyd]
   rw [← this];simp
  simp only [putCells,Array.getElem?_mapIdx]
  rw [zS hin]
  simp only [Option.map_some]
  rw [if_pos ⟨by omega,by rw [size_flatK];omega⟩,Nat.add_sub_cancel_left,id,hgt,hdi,getElem!_pos _ _ (by rw [hk];exact hj)]
 have hob:vY (putRow id (Go.Sort.ahead C.w0 n) c.block c.base (flatK enc k d')) C.Z0 C.μ0 c (.buf true k (ys.map fun x=>V.agg ((enc x).map V.sc))):=by
  refine ⟨by rw [zb,hyl,hn],fun _=>⟨b0,b1,b2,fun o hz=>(b2 rfl o hz).elim,fun i hi=>?_,_,t,fr,p1,?_,fun o ho=>b7 o (.inr rfl),fun i hi j hj=>?_⟩⟩
  ·rw [zX];show ((enc _).map V.sc).length = k;rw [zb,hk]
  ·simpa [putCells] using b6
  ·have hi':i < ys.length:=by simpa using hi
   have hce:((ys.map fun x=>V.agg ((enc x).map V.sc))[i]).cells = (enc ys[i]).map V.sc:=by rw [zX];rfl
   have hj':j < k:=by rw [hce,zb,hk] at hj;exact hj
   refine ⟨_,by rw [b0];exact hval i hi' j hj',h1 _ _ (zV _),?_⟩
   simp only [zX,V.cells]
   exact .sc (h1 _ _ (zV _))
 have g1:=Good.write (Good.heap hg (w':=Go.Sort.ahead C.w0 n) rfl) (a:=0) (x:=.buf true k (xs.map fun x=>V.agg ((enc x).map V.sc))) (x':=.buf true k (ys.map fun x=>V.agg ((enc x).map V.sc))) rfl hc hvd p2 p3 (fun i hz=>(b2 rfl i hz).elim) hob (p4 _)
 refine fin _ _ (Good.grown g1 (w':=sortWorldK enc k C.w0 c.block c.base n d' os) ?_ (fun j hj=>?_) .mk) ?_
 ·simp [sortWorldK,putRowK,grow]
 ·simp only [sortWorldK,putRowK,grow,Zi,if_pos hj]
 ·funext j
  match j with
  | 0=>simp [upd]
  | j + 1=>simp [upd]
end Av
end
