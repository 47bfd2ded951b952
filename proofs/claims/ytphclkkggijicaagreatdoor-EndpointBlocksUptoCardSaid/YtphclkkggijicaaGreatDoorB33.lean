/- slices.Sort of ints out of what the library's law says of worlds. -/
import Derived.Test.YtphclkkggijicaaGreatDoorB32
import Derived.Shelf.Sort.Plain
set_option linter.unusedVariables false
set_option linter.unusedSimpArgs false
section
namespace Av
open Go Go.Sort Go.Proofs Go.Lib
theorem agQ (w:World) (blk off:Nat) (F:Array Int) {cs:Array Value} {t:TypeId} {fr:Nat×Nat} (h:w.heap[blk]? = some (.cells cs t fr)) :
  (putRow (Value.int .i64) w blk off F).heap[blk]? = some (.cells (putCells (Value.int .i64) off F cs) t fr)∧(∀ k,k≠blk→(putRow (Value.int .i64) w blk off F).heap[k]? = w.heap[k]?)∧(putRow (Value.int .i64) w blk off F).heap.size = w.heap.size∧∀ d,Vq d w (putRow (Value.int .i64) w blk off F):=by
 refine ⟨?_,fun k hk=>?_,?_,fun _=>.mk⟩
 ·simp only [putRow,mapBlock,Zm,if_true,h];rfl
 ·simp only [putRow,mapBlock,Zm,if_neg (Ne.symm hk)]
 ·simp [putRow,mapBlock]
theorem amM {Γ:Env} {f:FuncId} (own:Own Γ.P f)
  (law:∀ (blk off cap:Nat) (zs:List Int) (w:World),Holds (Value.int .i64) w blk off zs.toArray→blk < w.heap.size→zs.length < 4611686018427387904 →
    Calls Γ.P f #[.slice (some ⟨blk,off,none⟩) zs.length cap] w fun e w'=>e = .returned (.tuple #[])∧∃ n os,w' = grow (putRow (Value.int .i64) (Sort.ahead w n) blk off (zs.mergeSort fun x y=>decide (x≤y)).toArray) os)
  (zero:∀ (a:Option Addr) (cap:Nat) (w:World),Calls Γ.P f #[.slice a 0 cap] w fun e w'=>e = .returned (.tuple #[])∧w' = w)
  {xs ys:List Int} (hl:xs.length < 2 ^ 40) (hys:(xs.mergeSort fun x y=>decide (x≤y)) = ys) :
  EvL Γ f [] 1 (xs.map V.int) (.tup []) (ys.map V.int):=by
 have hyl:ys.length = xs.length:=by rw [← hys,List.length_mergeSort]
 refine ⟨fun C cargs hP hm hmu hg hF hsz hrep=>?_,trivial⟩
 subst hP
 have hsz:cargs.size = 1:=hsz
 obtain ⟨s,rfl⟩:∃ s,cargs = #[s]:=⟨cargs[0],by
  apply Array.ext
  ·simpa using hsz
  ·intro i a1 a2
   match i,a2 with
   | 0,_=>rfl⟩
 have r0:Rep C.w0 C.Z0 C.μ0 s (.hd 0 0 (xs.map V.int).length):=hrep 0 (by simp) (by simp)
 rw [zh] at r0
 have fin:∀ (w':World) (o':Nat→Option Ob),Good C w' C.Z0 C.μ0 o'→o' = (fun k_1=>[Ob.buf true 1 (ys.map V.int)][k_1]?)→∃ u Z' μ',Ending.returned (.tuple #[]) = .returned u∧Rep w' Z' μ' u (.tup [])∧Good C w' Z' μ' (fun k_1=>[Ob.buf true 1 (ys.map V.int)][k_1]?)∧∀ j,[Ob.buf true 1 (ys.map V.int)].length≤j→μ' j = none:=by
  rintro w' o' hgo rfl
  exact ⟨_,C.Z0,C.μ0,rfl,.tup rfl (fun j h=>by simp at h),hgo,hmu⟩
 rw [Xd own]
 obtain ⟨c,hc,hok,hlive⟩:=hg.ob 0 (.buf true 1 (xs.map V.int)) rfl
 cases r0 with
 | hd h hv =>
 rw [hc] at h;cases h
 obtain ⟨hn,hB⟩:=hok
 rw [zh] at hn
 by_cases hx:xs = []
 ·subst hx
  have hy:ys = []:=List.length_eq_zero_iff.1 hyl
  subst hy
  obtain ⟨a,cap,rfl⟩:∃ a cap,s = .slice a 0 cap:=by
   cases hvd:c.void with
   | true=>exact ⟨_,_,(j1 hv hvd).1⟩
   | false=>obtain ⟨ad,e,_⟩:=j2 hv hvd;exact ⟨_,_,e⟩
  refine (zero a cap C.w0).mono ?_
  rintro e w' ⟨rfl,rfl⟩
  exact fin _ _ hg rfl
 have hpos:0 < xs.length:=List.length_pos_iff.2 hx
 have hvd:c.void = false:=by
  cases hvd:c.void with
  | false=>rfl
  | true=>have:=(j1 hv hvd).2.2;omega
 obtain ⟨ad,rfl,q1,q2,q3⟩:=j2 hv hvd
 obtain ⟨b0,b1,b2,b3,b4,cs,t,fr,b5,b6,b7,b8⟩:=hB hvd
 have had:=q3 (by omega)
 rw [Nat.zero_mul,Nat.add_zero] at had
 subst had
 have hlt:c.block < C.w0.heap.size:=(zU.1 b5).1
 have hold:Holds (Value.int .i64) C.w0 c.block c.base xs.toArray:=by
  intro i hi
  have hi:i < xs.length:=by simpa using hi
  have hi2:i < (xs.map V.int).length:=by rw [zh];exact hi
  have hc8:((xs.map V.int)[i]).cells = [V.int xs[i]]:=by rw [zH];rfl
  have hj2:0 < ((xs.map V.int)[i]).cells.length:=by rw [hc8];exact Nat.zero_lt_one
  obtain ⟨u,u1,u2,u3⟩:=b8 _ hi2 0 hj2
  have hce:((xs.map V.int)[i]).cells[0] = V.int xs[i]:=by simp only [zH];rfl
  rw [hce] at u3
  have u4:=u3.scE.1
  rw [b0,Nat.mul_one,Nat.add_zero] at u1
  have hq:c.base + i < cs.size:=(zU.1 u1).1
  refine ⟨?_,?_⟩
  ·rw [cell?_of_heap b5,u1,u4]
   have hxi:xs.toArray[i]! = xs[i]:=by
    rw [getElem!_pos xs.toArray _ (by simpa using hi)];simp
   rw [hxi]
  ·rw [frozen?_of_heap b5]
   have:=b7 (c.base + i) (.inl hq)
   simp only [Zq,kQ]
   omega
 rw [Nat.sub_zero]
 have L:=law c.block c.base c.cap xs C.w0 hold hlt (by omega)
 refine L.mono ?_
 rintro e w' ⟨rfl,n,os,rfl⟩
 rw [hys]
 obtain ⟨p1,p2,p3,p4⟩:=agQ (Go.Sort.ahead C.w0 n) c.block c.base ys.toArray (cs:=cs) (t:=t) (fr:=fr) b5
 have hval:∀ i (hi:i < ys.length),(putCells (Value.int .i64) c.base ys.toArray cs)[c.base + i]? = some (.int .i64 ys[i]):=by
  intro i hi
  have hin:c.base + i < cs.size:=by
   have h2:c.n≤c.cap:=b1.1
   rw [b0,Nat.mul_one] at b6
   omega
  simp only [putCells,Array.getElem?_mapIdx]
  rw [zJ hin]
  simp only [Option.map_some]
  rw [if_pos ⟨by omega,by simp;omega⟩,Nat.add_sub_cancel_left,getElem!_pos _ _ (by simpa using hi)]
  simp
 have hob:yr (putRow (Value.int .i64) (Go.Sort.ahead C.w0 n) c.block c.base ys.toArray) C.Z0 C.μ0 c (.buf true 1 (ys.map V.int)):=by
  refine ⟨by rw [zh,hyl,hn],fun _=>⟨b0,b1,b2,fun o hz=>(b2 rfl o hz).elim,fun i hi=>?_,_,t,fr,p1,?_,fun o ho=>b7 o (.inr rfl),fun i hi j hj=>?_⟩⟩
  ·rw [zH];rfl
  ·simpa [putCells] using b6
  ·have hi':i < ys.length:=by simpa using hi
   have hce:((ys.map V.int)[i]).cells = [V.int ys[i]]:=by rw [zH];rfl
   obtain rfl:j = 0:=by rw [hce,List.length_singleton] at hj;omega
   refine ⟨_,by rw [b0,Nat.mul_one,Nat.add_zero];exact hval i hi',rfl,?_⟩
   simp only [zH]
   exact .sc rfl
 have g1:=Good.write (Good.heap hg (w':=Go.Sort.ahead C.w0 n) rfl) (a:=0) (x:=.buf true 1 (xs.map V.int)) (x':=.buf true 1 (ys.map V.int)) rfl hc hvd p2 p3 (fun i hz=>(b2 rfl i hz).elim) hob (p4 _)
 refine fin _ _ (Good.grown g1 (w':=grow (putRow (Value.int .i64) (Go.Sort.ahead C.w0 n) c.block c.base ys.toArray) os) ?_ (fun j hj=>?_) .mk) ?_
 ·simp [grow]
 ·simp only [grow,Zp,if_pos hj]
 ·funext j
  match j with
  | 0=>simp [upd]
  | j + 1=>simp [upd]
end Av
end
