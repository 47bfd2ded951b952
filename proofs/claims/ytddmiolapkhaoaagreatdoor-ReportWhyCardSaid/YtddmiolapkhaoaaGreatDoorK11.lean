/- From a law's contract to the row's step. -/
import Derived.Test.YtddmiolapkhaoaaGreatDoorK8
import Derived.Below
import Derived.Handed
import Derived.Test.YtddmiolapkhaoaaGreatDoorK10
set_option linter.unusedVariables false
set_option linter.unusedSimpArgs false
section
namespace Av
open Go Go.RowKit
def apx (P:Program) (W:World):Env:=⟨P,fun b=>W.heap[b]?⟩
def axx (W:World) (b _i:Nat):Prop:=b < W.heap.size
theorem aqw {P:Program} (mix:P.follows .mixedOrders = true) {f:FuncId} (own:Own P f) {W:World} {args:List V} {cargs:Array Value} {b:Bool}
  (h:EvN (apx P W) f args (V.bool b)) (hsz:cargs.size = args.length) (hrep:∀ i (h:i < args.length) (h':i < cargs.size),Rep W (axx W) noμ cargs[i] args[i]) :
  Calls P f cargs W fun e W'=>e = .returned (.bool b)∧Below W.heap.size W W':=by
 let C:Ctx:={ P:=P,w0:=W,Z0:=axx W,F:=fun _=>False,m:=0,μ0:=noμ,kn:=fun b=>W.heap[b]?,mix:=mix,hkn:=fun b x h=>⟨h,fun h=>h⟩ }
 have hg:Good C W (axx W) noμ (fun k=>([]:List Ob)[k]?):=by
  refine ⟨fun a x h=>by simp at h,fun a b x y c d _ h=>by simp at h,fun b i h=>h,zl _,fun _ _ _=>rfl,fun b i h=>.inl h,fun b i h=>h,fun _ _ _=>rfl,fun k hk=>(by cases hk),U7.refl _⟩
 have:=h.1 C cargs rfl rfl (fun k _=>rfl) hg (fun b hb=>hb.elim) hsz hrep
 rw [show (apx P W).P = P from rfl,show C.w0 = W from rfl,XX own] at this
 refine Calls.mono this ?_
 rintro e w' ⟨v,Z',μ',rfl,hr,hgd,_⟩
 refine ⟨by rw [hr.scE.1],⟨hgd.oo.1,hgd.oo.2.1,hgd.oo.2.2,hgd.grow,fun k hk=>hgd.frame k hk (fun h=>h)⟩⟩
theorem Ud {H:Type} {enc:TypeId×Value→H} {a:Assume} {C:Checked} {os:Os} {f:FuncId} {fn:Func} {s:ChangeSpec} {conds:List PathCond} {apart fresh handsOn again:Bool} {X:World→Array Value→Prop}
  (hX:∀ (w w':World) (args:Array Value),w.heap = w'.heap→X w args→X w' args)
  (own:ownKnob C.prog.godebug = none) (started:os.Started) (noInit:C.prog.inits.idxOf? f = none) (hfn:C.prog.funcs[f]? = some fn)
  (witness:∃ (w:World) (tape:Tape) (i:Input),w.os = os∧(w.forCall tape i).Shaped C.prog∧i.vars = []∧Input.okWide C.prog (w.forCall tape i) .any w.heap.size f i ∧
    ((s.pre enc C.prog fn conds apart (w.forCall tape i).memory i.args∧X (w.forCall tape i).memory i.args)∧sizedMet enc C.prog fn (OpenSpec.ofChange s) apart (w.forCall tape i).memory i.args)∧a.holds C.prog (lone (Frame.enter C.prog f i.args .normal) [] (w.forCall tape i)))
  (contract:∀ (W:World) (base:Nat) (args:Array Value) (ds gs:List (DataW H)) (before:List MemPlace),
    (∀ (j:Nat) t v,fn.params[j]? = some t→args[j]? = some v→Value.okWide C.prog W .any base t v) →
    DataW.Whole enc C.prog fn.params.toList s.vars apart W args.toList ds gs before →
    (DataW.weightsEach C.prog (fn.params.toList++s.plain.varTypes C.prog) (ds++gs)).all (·≤reachBytes) = true→X W args→W.ShapedOpen C.prog →
    Calls C.prog f args W fun e W'=>∃ v,e = .returned v∧s.post enc C.prog fn apart fresh handsOn again W args v W') :
  ReturnsInHanded a C os f .any (fun w args=>(s.pre enc C.prog fn conds apart w args∧X w args)∧sizedMet enc C.prog fn (OpenSpec.ofChange s) apart w args) (s.post enc C.prog fn apart fresh handsOn again):=by
 refine returnsInHanded_of_calls own started noInit witness ?_
 intro w tape i _ hsh _ hok hpre hholds
 obtain ⟨_,_,_,fn',hfn',_,_,_,_,hval⟩:=hok
 have e:fn' = fn:=kQ (hfn'.symm.trans hfn)
 subst e
 obtain ⟨⟨⟨ds,gs,before,hw,hc⟩,hx⟩,hz⟩:=hpre
 have hw':=DataW.Whole.of_heap (w':=w.forCall tape i) (by rfl) hw
 refine (contract (w.forCall tape i) w.heap.size i.args ds gs before hval hw' (hz.weights hw) (hX _ _ _ (by rfl) hx) hsh).mono fun e W' ⟨v,he,hp⟩=>?_
 subst he
 exact ChangeSpec.post_blind hp
end Av
end
section
namespace Av
open Go
structure EvD (Γ:Env) (f:FuncId) (args:List V) (cs:List V) (res:V) (cs2:List V):Prop where
 ev:Ev Γ f (.ptr 0 0 :: args) [.box true cs] res [.box true cs2]
 cl:res.closed
 c1:Qh cs
 c2:Qh cs2
def JD:List V→List Nat
 | []=>[]
 | .hd a _ _ :: r=>a :: JD r
 | .ptr a _ :: r=>a :: JD r
 | _ :: r=>JD r
mutual
theorem aqr (o:Nat→Option Ob) (br l:List Nat) (hb:∀ x∈l,x ∉ br):∀ v:V,v.shutOk0 o (some l)→conv o br (some l) v (v.shut0 o)
 | .top,_=>by simp [V.shut0,conv]
 | .sc _,_=>by simp [V.shut0,conv]
 | .nn,_=>by simp [V.shut0,conv]
 | .sl _ _,_=>by simp [V.shut0,conv]
 | .ro _ _,_=>by simp [V.shut0,conv]
 | .ept _ _ _,_=>by simp [V.shut0,conv]
 | .mp _,_=>by simp [V.shut0,conv]
 | .hd a off len,h=>by
   obtain ⟨h1,wr,s,xs,h2⟩:=h
   simp only [V.shut0,h2,conv]
   exact ⟨h1,hb a h1,.inl ⟨wr,xs,rfl,rfl⟩⟩
 | .ptr a off,h=>by
   obtain ⟨h1,wr,cs,h2,h3⟩:=h
   simp only [V.shut0,h2,conv]
   exact ⟨h1,hb a h1,trivial,h3,wr,cs,rfl,Yq _ _ _ _ h3⟩
 | .agg cs,h=>by simp only [V.shut0,conv];exact jh o br l hb cs h
 | .tup cs,h=>by simp only [V.shut0,conv];exact jh o br l hb cs h
 | .clo f cs,h=>by simp only [V.shut0,conv];exact ⟨trivial,jh o br l hb cs h⟩
theorem jh (o:Nat→Option Ob) (br l:List Nat) (hb:∀ x∈l,x ∉ br):∀ cs:List V,xY o (some l) cs→Jn o br (some l) cs (ab2 o cs)
 | [],_=>trivial
 | v :: r,h=>⟨aqr o br l hb v h.1,jh o br l hb r h.2⟩
end
mutual
theorem asI (o:Nat→Option Ob) (br l:List Nat) (hb:∀ x∈l,x ∉ br):∀ v:V,v.shutOk o (some l)→conv o br (some l) v (v.shut o)
 | .top,_=>by simp [V.shut,conv]
 | .sc _,_=>by simp [V.shut,conv]
 | .nn,_=>by simp [V.shut,conv]
 | .sl _ _,_=>by simp [V.shut,conv]
 | .ro _ _,_=>by simp [V.shut,conv]
 | .ept _ _ _,_=>by simp [V.shut,conv]
 | .mp _,_=>by simp [V.shut,conv]
 | .hd a off len,h=>by
   obtain ⟨h1,h2⟩:=h
   unfold ayj at h2
   split at h2
   ·rename_i wr s xs h3
    simp only [V.shut,h3,conv]
    exact ⟨h1,hb a h1,.inl ⟨wr,xs,rfl,rfl⟩⟩
   ·rename_i wr s xs h3
    simp only [V.shut,h3,conv]
    exact ⟨h1,hb a h1,.inr ⟨wr,xs,rfl,jh _ _ _ hb _ h2.1,h2.2,VU _ _⟩⟩
   ·exact h2.elim
 | .ptr a off,h=>by
   obtain ⟨h1,wr,cs,h2,h3⟩:=h
   simp only [V.shut,h2,conv]
   exact ⟨h1,hb a h1,trivial,h3,wr,cs,rfl,Yq _ _ _ _ h3⟩
 | .agg cs,h=>by simp only [V.shut,conv];exact Yn o br l hb cs h
 | .tup cs,h=>by simp only [V.shut,conv];exact Yn o br l hb cs h
 | .clo f cs,h=>by simp only [V.shut,conv];exact ⟨trivial,Yn o br l hb cs h⟩
theorem Yn (o:Nat→Option Ob) (br l:List Nat) (hb:∀ x∈l,x ∉ br):∀ cs:List V,QL o (some l) cs→Jn o br (some l) cs (Y2 o cs)
 | [],_=>trivial
 | v :: r,h=>⟨asI o br l hb v h.1,Yn o br l hb r h.2⟩
end
section
variable {Γ:Env} {b:Nat} {r:List AO} {s:St} {d:Option Nat} {f:FuncId} {acts:List V} {res:V} {K:St→Prop} {cs cs2:List V} {a:Nat}
theorem az0 (l:List Nat) (ha:s.o a = some (.box true cs)) (h:EvD Γ f (Y2 s.o acts) cs res cs2) (hc:QL s.o (some l) acts) (hal:a ∉ l) (hab:a < b)
  (hk:U3 Γ (b + KK) r { t:=(s.put d res).t,o:=upd (xO (some l) [a] s.o) a (some (.box true cs2)),n:=s.n } K):awC Γ b r s d f (.ptr a 0 :: acts) K:=by
 refine J5 ⟨_,_,_,_,[a],some l,h.ev,⟨?_,Yn s.o [a] l ?_ acts hc⟩,⟨⟨_,ha,Yq _ _ _ _ h.c1⟩,trivial⟩,by simp,by simpa using hab,zl _,by simp [KK],fun h=>by simp at h,?_⟩
 ·simp [conv]
 ·intro x hx hxa
  simp only [zq] at hxa
  subst hxa;exact hal hx
 ·rw [Wh _ _ h.cl]
  simp only [Xe,Yy,Ob.ren,J7 _ _ h.c2]
  exact hk
theorem ay6 (ha:s.o a = some (.box true cs)) (h:EvD Γ f (Y2 s.o acts) cs res cs2) (hc:QL s.o (some (JD acts)) acts) (hal:a ∉ JD acts) (hab:a < b)
  (hk:U3 Γ (b + KK) r { t:=(s.put d res).t,o:=upd (xO (some (JD acts)) [a] s.o) a (some (.box true cs2)),n:=s.n } K):awC Γ b r s d f (.ptr a 0 :: acts) K:=az0 _ ha h hc hal hab hk
theorem aa1 {x:V} {args:List V} {okf:Option (List Nat)→Prop} (ha:s.o a = some (.box true cs)) (h:EvD Γ f args cs res cs2) (hal:(JD acts).contains a = false) (hab:decide (a < b) = true) (hc:QL s.o (some (JD acts)) acts)
  (hk:U3 Γ (b + KK) r { t:=(s.put d res).t,o:=upd (xO (some (JD acts)) [a] s.o) a (some (.box true cs2)),n:=s.n } K):akO Γ b r s d f (.ptr a 0 :: acts) (x :: args) okf K:=by
 intro h1 _
 simp only [Y2,km] at h1
 obtain ⟨_,rfl⟩:=h1
 exact ay6 ha h hc (by simpa using hal) (zV hab) hk
theorem apw {br:List Nat} {o:Nat→Option Ob}:xO (some []) br o = o:=by
 funext n;simp [xO]
theorem aAl {x a n:Nat} {o:Nat→Option Ob}:xO (some [x]) [a] o n = if n = x then (if x = a then o n else (o n).map Ob.frz) else o n:=by
 simp only [xO,zq]
 by_cases h1:n = x
 ·subst h1
  by_cases h2:n = a<;>simp [h2]
 ·simp [h1]
end
theorem UE {Γ:Env} {f:FuncId} {nt:Nat} {ac:AC} {rs:List Q0} (hb:Has Γ.P f nt ac rs) {args cs cs2:List V} {res:V} (ha:args.length + 1≤nt) (hr:res.closed) (h1:Qh cs) (h2:Qh cs2)
  (h:∀ C:Ctx,C.env = Γ→C.m = 1→AWp C nt ac (Wf (.ptr 0 0 :: args) [.box true cs]) (acw 1 rs res [.box true cs2]) (fun _ _=>False) (acw 1 rs res [.box true cs2])):EvD Γ f args cs res cs2 :=
 ⟨XW hb (by simpa using ha) h,hr,h1,h2⟩
theorem aie {rs:List Q0} {res:V} {s:St} {cs2:List V} (vs:List V) (h:aeh s rs = some vs) (ho:s.o 0 = some (.box true cs2)) (h2:Qh cs2) (hc:conv s.o [0] none (afy vs) res):acw 1 rs res [.box true cs2] s :=
 VF rs vs _ h ⟨[0],none,hc,⟨⟨_,ho,fun h=>h,Yq _ _ _ _ h2⟩,trivial⟩,by simp,rfl⟩
structure EvR (Γ:Env) (f:FuncId) (args:List V) (cs:List V):Prop where
 ev:Ev Γ f args [] (.ptr 0 0) [.box true cs]
 c1:Qh cs
theorem azX {Γ:Env} {b:Nat} {r:List AO} {s:St} {d:Option Nat} {f:FuncId} {acts cs:List V} {K:St→Prop} (h:EvR Γ f (Y2 s.o acts) cs) (hc:QL s.o (some (JD acts)) acts)
  (hk:U3 Γ (b + KK) r { t:=(s.put d (.ptr b 0)).t,o:=upd (xO (some (JD acts)) [] s.o) b (some (.box true cs)),n:=s.n } K):awC Γ b r s d f acts K:=by
 refine J5 ⟨_,_,_,_,[],some (JD acts),h.ev,YJ _ _ _ hc,trivial,kz,fun x hx=>by simp at hx,by simp,by simp [KK],fun h=>by simp at h,?_⟩
 simp only [Xe,Yy,Ob.ren,J7 _ _ h.c1,V.ren,sig]
 exact hk
theorem aa0 {Γ:Env} {b:Nat} {r:List AO} {s:St} {d:Option Nat} {f:FuncId} {acts args cs:List V} {K:St→Prop} {okf:Option (List Nat)→Prop} (h:EvR Γ f args cs) (hc:okf (some (JD acts)))
  (hk:U3 Γ (b + KK) r { t:=(s.put d (.ptr b 0)).t,o:=upd (xO (some (JD acts)) [] s.o) b (some (.box true cs)),n:=s.n } K):akO Γ b r s d f acts args okf K:=by
 rintro rfl rfl;exact azX h hc hk
theorem akt {Γ:Env} {f:FuncId} {nt:Nat} {ac:AC} {rs:List Q0} (hb:Has Γ.P f nt ac rs) {args cs:List V} (ha:args.length≤nt) (h1:Qh cs)
  (h:∀ C:Ctx,C.env = Γ→C.m = 0→AWp C nt ac (Wf args []) (acw 0 rs (.ptr 0 0) [.box true cs]) (fun _ _=>False) (acw 0 rs (.ptr 0 0) [.box true cs])):EvR Γ f args cs :=
 ⟨XW hb ha h,h1⟩
theorem aw2 {rs:List Q0} {s:St} {cs:List V} (a:Nat) (h:aeh s rs = some [.ptr a 0]) (ho:s.o a = some (.box true cs)) (h2:Qh cs):acw 0 rs (.ptr 0 0) [.box true cs] s :=
 VF rs _ _ h ⟨[a],none,by simp [afy,conv],⟨⟨_,ho,fun h=>h,Yq _ _ _ _ h2⟩,trivial⟩,by simp,rfl⟩
attribute [go_sem] apw aAl JD Ob.frz
end Av
end
section
set_option maxRecDepth 10000
set_option maxHeartbeats 4000000
namespace Av
open Go
attribute [local irreducible] AWp U3 abh acE awS awC ajc awQ ajv Jo jG aiB awR yv awB okR ad1 ris
structure XH where
 code:Int
 name:List UInt8
 kx1:Int
 kx2:Int
 sg1:Int
 sg2:Int
 ci1:Int
 ci2:Int
 mc1:Int
 mc2:Int
 lo:Int
 hi:Int
 deriving DecidableEq
def XH.cells (s:XH):List V:=[V.int s.code,V.str s.name,V.int s.kx1,V.int s.kx2,V.int s.sg1,V.int s.sg2,V.int s.ci1,V.int s.ci2,V.int s.mc1,V.int s.mc2,V.int s.lo,V.int s.hi]
def XH.v (s:XH):V:=.agg s.cells
def U9:List XH:=[⟨1,[114,115,97,45,114,99,52,45,109,100,53],10,0,5,0,14,128,19,0,1,2⟩,⟨2,[114,115,97,45,114,99,52,45,115,104,97],10,0,5,0,14,128,20,0,1,3⟩,⟨3,[114,115,97,45,100,101,115,51,45,115,104,97],10,0,5,0,15,168,20,0,1,3⟩,⟨4,[100,104,101,45,100,115,97,45,100,101,115,51,45,115,104,97],11,1024,6,0,15,168,20,0,1,3⟩,⟨5,[100,104,101,45,114,115,97,45,100,101,115,51,45,115,104,97],11,1024,5,0,15,168,20,0,1,3⟩,⟨6,[114,115,97,45,97,101,115,49,50,56,45,115,104,97],10,0,5,0,16,128,20,0,1,3⟩,⟨7,[100,104,101,45,114,115,97,45,97,101,115,49,50,56,45,115,104,97],11,2048,5,0,16,128,20,0,1,3⟩,⟨8,[101,99,100,104,101,45,114,115,97,45,97,101,115,49,50,56,45,115,104,97],12,256,5,0,16,128,20,0,1,3⟩,⟨9,[101,99,100,104,101,45,101,99,100,115,97,45,97,101,115,50,53,54,45,115,104,97,50,53,54],12,256,7,0,16,256,21,0,3,3⟩,⟨10,[101,99,100,104,101,45,114,115,97,45,97,101,115,49,50,56,45,103,99,109],12,256,5,0,17,128,22,0,3,3⟩,⟨11,[101,99,100,104,101,45,101,99,100,115,97,45,97,101,115,50,53,54,45,103,99,109],12,384,7,0,17,256,22,0,3,3⟩,⟨12,[101,99,100,104,101,45,114,115,97,45,99,104,97,99,104,97],12,256,5,0,18,0,22,0,3,3⟩,⟨13,[114,115,97,45,97,101,115,50,53,54,45,103,99,109],10,0,5,0,17,256,22,0,3,3⟩,⟨14,[97,101,115,49,50,56,45,103,99,109],12,256,0,0,17,128,22,0,4,4⟩,⟨15,[99,104,97,99,104,97],12,256,0,0,18,0,22,0,4,4⟩,⟨16,[109,108,107,101,109,45,97,101,115,50,53,54,45,103,99,109],13,768,0,0,17,256,22,0,4,4⟩]
def amm (k:Nat):List V:=(U9.take k).map XH.v++(U9.drop k).map fun s=>XH.v { s with code:=0 }
theorem apB (k:Nat) (h:k < 16):∃ cs,(amm k)[k]? = some (.agg (V.int 0 :: cs))∧cs.length = 11∧(amm k).set k (.agg (V.int ((k + 1:Nat):Int) :: cs)) = amm (k + 1):=by
 rcases (by omega:k = 0∨k = 1∨k = 2∨k = 3∨k = 4∨k = 5∨k = 6∨k = 7∨k = 8∨k = 9∨k = 10∨k = 11∨k = 12∨k = 13∨k = 14∨k = 15) with rfl|rfl|rfl|rfl|rfl|rfl|rfl|rfl|rfl|rfl|rfl|rfl|rfl|rfl|rfl|rfl
 all_goals exact ⟨_,rfl,rfl,rfl⟩
def wX:List (List Nat):=[[],[],[],[],[0,1,2,3],[],[],[2],[],[5,6,7,8],[],[],[],[],[10,11,12,13],[7],[],[],[],[15,16,17,18],[15],[],[],[],[20,21,22,23],[],[],[],[],[25,26,27,28],[20],[],[],[],[30,31,32,33],[],[],[],[],[35,36,37,38],[],[],[30],[42],[40,41,42,43],[],[],[],[],[45,46,47,48],[43],[],[],[],[50,51,52,53],[],[],[],[],[55,56,57,58],[],[],[],[],[60,61,62,63],[],[],[],[],[65,66,67,68],[],[],[],[],[70,71,72,73],[50],[],[],[],[75,76,77,78],[4,9,14,19,24,29,34,39,44,49,54,59,64,69,74,79],[80,75,0,1,2,3,4,5,6,7,8,9,10,11,12,13,14,15,16,17,18,19,20,21,22,23,24,25,26,27,28,29,30,31,32,33,34,35,36,37,38,39,40,41,42,43,44,45,46,47,48,49,50,51,52,53,54,55,56,57,58,59,60,61,62,63,64,65,66,67,68,69,70,71,72,73,74,75,76,77,78,79,80]]
def xX:OT:=och 0 82
@[go_sem] def Kk (Qu:Nat):OP:=oN 0 (xo 31 (.load true 2 (.t 1))) (oN 1 (xo 32 (.load true 2 (.t 2))) (oN 2 (xo 33 (.call Qu [(.c (V.int 14)),(.c (V.int 128))])) (oN 3 (xo 34 (.load true 2 (.t 11))) (oN 4 (xo 35 (.build [vi0,vs0,vi0,vi0,vi0,vi0,vi0,vi0,vi0,vi0,vi0,vi0] [(1,1,(.c (V.str [114,115,97,45,114,99,52,45,109,100,53]))),(2,2,(.t 31)),(4,2,(.t 32)),(6,2,(.t 33)),(8,2,(.t 34)),(10,1,(.c (V.int 1))),(11,1,(.c (V.int 2)))])) (oN 5 (xo 36 (.load true 2 (.t 1))) (oN 6 (xo 37 (.load true 2 (.t 2))) (oN 7 (xo 38 (.call Qu [(.c (V.int 14)),(.c (V.int 128))])) (oN 8 (xo 39 (.load true 2 (.t 12))) (oN 9 (xo 40 (.build [vi0,vs0,vi0,vi0,vi0,vi0,vi0,vi0,vi0,vi0,vi0,vi0] [(1,1,(.c (V.str [114,115,97,45,114,99,52,45,115,104,97]))),(2,2,(.t 36)),(4,2,(.t 37)),(6,2,(.t 38)),(8,2,(.t 39)),(10,1,(.c (V.int 1))),(11,1,(.c (V.int 3)))])) (oN 10 (xo 41 (.load true 2 (.t 1))) (oN 11 (xo 42 (.load true 2 (.t 2))) (oN 12 (xo 43 (.load true 2 (.t 6))) (oN 13 (xo 44 (.load true 2 (.t 12))) (oN 14 (xo 45 (.build [vi0,vs0,vi0,vi0,vi0,vi0,vi0,vi0,vi0,vi0,vi0,vi0] [(1,1,(.c (V.str [114,115,97,45,100,101,115,51,45,115,104,97]))),(2,2,(.t 41)),(4,2,(.t 42)),(6,2,(.t 43)),(8,2,(.t 44)),(10,1,(.c (V.int 1))),(11,1,(.c (V.int 3)))])) (oN 15 (xo 46 (.call Qu [(.c (V.int 11)),(.c (V.int 1024))])) (oN 16 (xo 47 (.load true 2 (.t 3))) (oN 17 (xo 48 (.load true 2 (.t 6))) (oN 18 (xo 49 (.load true 2 (.t 12))) (oN 19 (xo 50 (.build [vi0,vs0,vi0,vi0,vi0,vi0,vi0,vi0,vi0,vi0,vi0,vi0] [(1,1,(.c (V.str [100,104,101,45,100,115,97,45,100,101,115,51,45,115,104,97]))),(2,2,(.t 46)),(4,2,(.t 47)),(6,2,(.t 48)),(8,2,(.t 49)),(10,1,(.c (V.int 1))),(11,1,(.c (V.int 3)))])) (oN 20 (xo 51 (.call Qu [(.c (V.int 11)),(.c (V.int 1024))])) (oN 21 (xo 52 (.load true 2 (.t 2))) (oN 22 (xo 53 (.load true 2 (.t 6))) (oN 23 (xo 54 (.load true 2 (.t 12))) (oN 24 (xo 55 (.build [vi0,vs0,vi0,vi0,vi0,vi0,vi0,vi0,vi0,vi0,vi0,vi0] [(1,1,(.c (V.str [100,104,101,45,114,115,97,45,100,101,115,51,45,115,104,97]))),(2,2,(.t 51)),(4,2,(.t 52)),(6,2,(.t 53)),(8,2,(.t 54)),(10,1,(.c (V.int 1))),(11,1,(.c (V.int 3)))])) (oN 25 (xo 56 (.load true 2 (.t 1))) (oN 26 (xo 57 (.load true 2 (.t 2))) (oN 27 (xo 58 (.load true 2 (.t 7))) (oN 28 (xo 59 (.load true 2 (.t 12))) (oN 29 (xo 60 (.build [vi0,vs0,vi0,vi0,vi0,vi0,vi0,vi0,vi0,vi0,vi0,vi0] [(1,1,(.c (V.str [114,115,97,45,97,101,115,49,50,56,45,115,104,97]))),(2,2,(.t 56)),(4,2,(.t 57)),(6,2,(.t 58)),(8,2,(.t 59)),(10,1,(.c (V.int 1))),(11,1,(.c (V.int 3)))])) (oN 30 (xo 61 (.call Qu [(.c (V.int 11)),(.c (V.int 2048))])) (oN 31 (xo 62 (.load true 2 (.t 2))) (oN 32 (xo 63 (.load true 2 (.t 7))) (oN 33 (xo 64 (.load true 2 (.t 12))) (oN 34 (xo 65 (.build [vi0,vs0,vi0,vi0,vi0,vi0,vi0,vi0,vi0,vi0,vi0,vi0] [(1,1,(.c (V.str [100,104,101,45,114,115,97,45,97,101,115,49,50,56,45,115,104,97]))),(2,2,(.t 61)),(4,2,(.t 62)),(6,2,(.t 63)),(8,2,(.t 64)),(10,1,(.c (V.int 1))),(11,1,(.c (V.int 3)))])) (oN 35 (xo 66 (.load true 2 (.t 14))) (oN 36 (xo 67 (.load true 2 (.t 2))) (oN 37 (xo 68 (.load true 2 (.t 7))) (oN 38 (xo 69 (.load true 2 (.t 12))) (oN 39 (xo 70 (.build [vi0,vs0,vi0,vi0,vi0,vi0,vi0,vi0,vi0,vi0,vi0,vi0] [(1,1,(.c (V.str [101,99,100,104,101,45,114,115,97,45,97,101,115,49,50,56,45,115,104,97]))),(2,2,(.t 66)),(4,2,(.t 67)),(6,2,(.t 68)),(8,2,(.t 69)),(10,1,(.c (V.int 1))),(11,1,(.c (V.int 3)))])) (oN 40 (xo 71 (.load true 2 (.t 14))) (oN 41 (xo 72 (.load true 2 (.t 4))) (oN 42 (xo 73 (.call Qu [(.c (V.int 16)),(.c (V.int 256))])) (oN 43 (xo 74 (.call Qu [(.c (V.int 21)),(.c (V.int 0))])) (oN 44 (xo 75 (.build [vi0,vs0,vi0,vi0,vi0,vi0,vi0,vi0,vi0,vi0,vi0,vi0] [(1,1,(.c (V.str [101,99,100,104,101,45,101,99,100,115,97,45,97,101,115,50,53,54,45,115,104,97,50,53,54]))),(2,2,(.t 71)),(4,2,(.t 72)),(6,2,(.t 73)),(8,2,(.t 74)),(10,1,(.c (V.int 3))),(11,1,(.c (V.int 3)))])) (oN 45 (xo 76 (.load true 2 (.t 14))) (oN 46 (xo 77 (.load true 2 (.t 2))) (oN 47 (xo 78 (.load true 2 (.t 8))) (oN 48 (xo 79 (.load true 2 (.t 13))) (oN 49 (xo 80 (.build [vi0,vs0,vi0,vi0,vi0,vi0,vi0,vi0,vi0,vi0,vi0,vi0] [(1,1,(.c (V.str [101,99,100,104,101,45,114,115,97,45,97,101,115,49,50,56,45,103,99,109]))),(2,2,(.t 76)),(4,2,(.t 77)),(6,2,(.t 78)),(8,2,(.t 79)),(10,1,(.c (V.int 3))),(11,1,(.c (V.int 3)))])) (oN 50 (xo 81 (.call Qu [(.c (V.int 12)),(.c (V.int 384))])) (oN 51 (xo 82 (.load true 2 (.t 4))) (oN 52 (xo 83 (.load true 2 (.t 9))) (oN 53 (xo 84 (.load true 2 (.t 13))) (oN 54 (xo 85 (.build [vi0,vs0,vi0,vi0,vi0,vi0,vi0,vi0,vi0,vi0,vi0,vi0] [(1,1,(.c (V.str [101,99,100,104,101,45,101,99,100,115,97,45,97,101,115,50,53,54,45,103,99,109]))),(2,2,(.t 81)),(4,2,(.t 82)),(6,2,(.t 83)),(8,2,(.t 84)),(10,1,(.c (V.int 3))),(11,1,(.c (V.int 3)))])) (oN 55 (xo 86 (.load true 2 (.t 14))) (oN 56 (xo 87 (.load true 2 (.t 2))) (oN 57 (xo 88 (.load true 2 (.t 10))) (oN 58 (xo 89 (.load true 2 (.t 13))) (oN 59 (xo 90 (.build [vi0,vs0,vi0,vi0,vi0,vi0,vi0,vi0,vi0,vi0,vi0,vi0] [(1,1,(.c (V.str [101,99,100,104,101,45,114,115,97,45,99,104,97,99,104,97]))),(2,2,(.t 86)),(4,2,(.t 87)),(6,2,(.t 88)),(8,2,(.t 89)),(10,1,(.c (V.int 3))),(11,1,(.c (V.int 3)))])) (oN 60 (xo 91 (.load true 2 (.t 1))) (oN 61 (xo 92 (.load true 2 (.t 2))) (oN 62 (xo 93 (.load true 2 (.t 9))) (oN 63 (xo 94 (.load true 2 (.t 13))) (oN 64 (xo 95 (.build [vi0,vs0,vi0,vi0,vi0,vi0,vi0,vi0,vi0,vi0,vi0,vi0] [(1,1,(.c (V.str [114,115,97,45,97,101,115,50,53,54,45,103,99,109]))),(2,2,(.t 91)),(4,2,(.t 92)),(6,2,(.t 93)),(8,2,(.t 94)),(10,1,(.c (V.int 3))),(11,1,(.c (V.int 3)))])) (oN 65 (xo 96 (.load true 2 (.t 14))) (oN 66 (xo 97 (.load true 2 (.t 5))) (oN 67 (xo 98 (.load true 2 (.t 8))) (oN 68 (xo 99 (.load true 2 (.t 13))) (oN 69 (xo 100 (.build [vi0,vs0,vi0,vi0,vi0,vi0,vi0,vi0,vi0,vi0,vi0,vi0] [(1,1,(.c (V.str [97,101,115,49,50,56,45,103,99,109]))),(2,2,(.t 96)),(4,2,(.t 97)),(6,2,(.t 98)),(8,2,(.t 99)),(10,1,(.c (V.int 4))),(11,1,(.c (V.int 4)))])) (oN 70 (xo 101 (.load true 2 (.t 14))) (oN 71 (xo 102 (.load true 2 (.t 5))) (oN 72 (xo 103 (.load true 2 (.t 10))) (oN 73 (xo 104 (.load true 2 (.t 13))) (oN 74 (xo 105 (.build [vi0,vs0,vi0,vi0,vi0,vi0,vi0,vi0,vi0,vi0,vi0,vi0] [(1,1,(.c (V.str [99,104,97,99,104,97]))),(2,2,(.t 101)),(4,2,(.t 102)),(6,2,(.t 103)),(8,2,(.t 104)),(10,1,(.c (V.int 4))),(11,1,(.c (V.int 4)))])) (oN 75 (xo 106 (.call Qu [(.c (V.int 13)),(.c (V.int 768))])) (oN 76 (xo 107 (.load true 2 (.t 5))) (oN 77 (xo 108 (.load true 2 (.t 9))) (oN 78 (xo 109 (.load true 2 (.t 13))) (oN 79 (xo 110 (.build [vi0,vs0,vi0,vi0,vi0,vi0,vi0,vi0,vi0,vi0,vi0,vi0] [(1,1,(.c (V.str [109,108,107,101,109,45,97,101,115,50,53,54,45,103,99,109]))),(2,2,(.t 106)),(4,2,(.t 107)),(6,2,(.t 108)),(8,2,(.t 109)),(10,1,(.c (V.int 4))),(11,1,(.c (V.int 4)))])) (.one 80 false [75,50,43,42,30,20,15,7,2] (xo 111 (.bslice 16 12 true [vi0,vs0,vi0,vi0,vi0,vi0,vi0,vi0,vi0,vi0,vi0,vi0] [(0,(.t 35)),(1,(.t 40)),(2,(.t 45)),(3,(.t 50)),(4,(.t 55)),(5,(.t 60)),(6,(.t 65)),(7,(.t 70)),(8,(.t 75)),(9,(.t 80)),(10,(.t 85)),(11,(.t 90)),(12,(.t 95)),(13,(.t 100)),(14,(.t 105)),(15,(.t 110))])) (oN 81 (mv 15 111) .done)))))))))))))))))))))))))))))))))))))))))))))))))))))))))))))))))))))))))))))))))
def wq (Qu:Nat):List AO:=aoO (Kk Qu)
instance (Qu:Nat):RG [] xX (Kk Qu) (wq Qu) wX 82 (fun _=>true):=⟨rfl,by kernel_rfl,by kernel_rfl⟩
def acm (Qu:Nat):AC:=Qb [] (.reg [xo 0 (.mknil 12)]) (Qb [1,2,3,4,5] (.reg [xo 17 (.call Qu [(.c (V.int 10)),(.c (V.int 0))]),xo 18 (.call Qu [(.c (V.int 5)),(.c (V.int 0))]),xo 19 (.call Qu [(.c (V.int 6)),(.c (V.int 0))]),xo 20 (.call Qu [(.c (V.int 7)),(.c (V.int 0))]),xo 21 (.build [vi0,vi0] []),xo 1 (.alloc [.val vi0,.val vi0]),xo 2 (.alloc [.val vi0,.val vi0]),xo 3 (.alloc [.val vi0,.val vi0]),xo 4 (.alloc [.val vi0,.val vi0]),xo 5 (.alloc [.val vi0,.val vi0]),xs 2 1 17,xs 2 2 18,xs 2 3 19,xs 2 4 20,xs 2 5 21]) (Qb [1,2,3,4,5,6,7,8,9,10] (.reg [xo 22 (.call Qu [(.c (V.int 15)),(.c (V.int 168))]),xo 23 (.call Qu [(.c (V.int 16)),(.c (V.int 128))]),xo 24 (.call Qu [(.c (V.int 17)),(.c (V.int 128))]),xo 25 (.call Qu [(.c (V.int 17)),(.c (V.int 256))]),xo 26 (.call Qu [(.c (V.int 18)),(.c (V.int 0))]),xo 6 (.alloc [.val vi0,.val vi0]),xo 7 (.alloc [.val vi0,.val vi0]),xo 8 (.alloc [.val vi0,.val vi0]),xo 9 (.alloc [.val vi0,.val vi0]),xo 10 (.alloc [.val vi0,.val vi0]),xs 2 6 22,xs 2 7 23,xs 2 8 24,xs 2 9 25,xs 2 10 26]) (Qb [1,2,3,4,5,6,7,8,9,10,11,12,13,14] (.reg [xo 27 (.call Qu [(.c (V.int 19)),(.c (V.int 0))]),xo 28 (.call Qu [(.c (V.int 20)),(.c (V.int 0))]),xo 29 (.call Qu [(.c (V.int 22)),(.c (V.int 0))]),xo 30 (.call Qu [(.c (V.int 12)),(.c (V.int 256))]),xo 11 (.alloc [.val vi0,.val vi0]),xo 12 (.alloc [.val vi0,.val vi0]),xo 13 (.alloc [.val vi0,.val vi0]),xo 14 (.alloc [.val vi0,.val vi0]),xs 2 11 27,xs 2 12 28,xs 2 13 29,xs 2 14 30]) (Qb [15] (VD [] xX (Kk Qu) (wq Qu) wX) (Qb [15] (Qb [15,113,114] (.reg [mv 112 15,ln 113 112,mc 114 (V.int 0)]) (.block 0 (JG [15,113,114] (Qb [15,113,114,115] (.reg [bn 115 .lss 114 113]) (Qb [15,113,114] (.cond (.t 115) .skip (.exit 0)) (Qb [15,113,114] (.block 1 (Qb [15,16,113,114] (.reg [mv 116 114,mv 16 116]) (.reg [mv 117 15,mv 118 16,mv 119 16,bc 120 .add 119 (V.int 1),ia 121 12 117 118,fa 122 0 121,xs 1 122 120]))) (.reg [bc 123 .add 114 (V.int 1),mv 114 123]))))))) (Qb [0] (.reg [mv 124 15,mv 0 124]) .ret)))))) def bL:List Q0:=[.tmp 0]
def qJ (Γ:Env) (f:Nat):Prop:=EvC Γ f [] (.sl 12 (U9.map XH.v))
theorem ahv {Γ:Env} {f Qu:Nat} (h:Has Γ.P f 125 (acm Qu) bL) (z0:vZ Γ Qu):qJ Γ f:=by
 refine Ju h zsi (by simp only [V.closed]) fun C hC hm=>?_
 subst hC
 unfold acm
 repeat' (first|(refine zsk ?_;intro K' hK)|(refine zrg ?_;intro K' hK)|refine zsp ?_|(refine zsc ?_ ?_<;>intro hc<;>first|exact znh|try simp only [znz] at hc)|simp (maxSteps:=1000000) only [go_sem]|(refine hK _ ?_;clear hK K')|apply zan|((first|apply QR|apply QG);(focus first|exact (z0 _ _).b))|exact zsq|fail)
 refine QC (ι:=Nat) (fun k=>k≤16) (fun k=>Y1 [(15,.hd 0 0 16),(113,V.int 16),(114,V.int k)] [(0,.buf true 12 (amm k))] 1) (fun k=>16 - k) 0 (by omega) (Qi [(0,123000)]) (Qv _ zwa zwa (by simp) (by simp;omega) (by omega)) fun k hk K' hL=>?_
 by_cases hk':k < 16
 ·obtain ⟨cs,hget,hcs,hset⟩:=apB k hk'
  have hw:=Qq (k:=k) (by omega)
  have hs:(1:Int)≤1:=by omega
  repeat' (first|(refine zsk ?_;intro K' hK)|(refine zrg ?_;intro K' hK)|refine zsp ?_|(refine zsc ?_ ?_<;>intro hc<;>first|exact znh|try simp only [znz] at hc)|simp (maxSteps:=1000000) only [go_sem,Y1,hget,hw]|(refine hK _ ?_;clear hK K')|apply zan|((first|apply QR|apply QG);(focus first|exact (z0 _ _).b))|exact zsq|fail)
  refine hL _ (k + 1) (Qi []) (by omega) (by omega) (Qv [] zwa (by simp only [go_sem,zwl];(try simp only [kp,Int.toNat_natCast,List.take_zero,List.nil_append,hset]);(repeat' (first|rfl|apply za|omega|exact fun h=>h|exact Exists.intro _ rfl))) (by simp) (by simp) (by omega))
 ·obtain rfl:k = 16:=by omega
  repeat' (first|(refine zsk ?_;intro K' hK)|(refine zrg ?_;intro K' hK)|refine zsp ?_|(refine zsc ?_ ?_<;>intro hc<;>first|exact znh|try simp only [znz] at hc)|simp (maxSteps:=1000000) only [go_sem,Y1]|(refine hK _ ?_;clear hK K')|apply zan|((first|apply QR|apply QG);(focus first|exact (z0 _ _).b))|exact zsq|fail)
  refine Qr _ rfl ?_;simp only [go_sem]
  rfl
def aqX (r:ajw):V:=.agg [V.str r.name,V.int r.kind]
def apL:List V:=K4.map aqX
theorem ajJ {k:Nat} {r:ajw} (h:K4[k]? = some r):apL[k]? = some (aqX r):=by
 rw [apL,zi,h];rfl
theorem al9 {a:Int} (ha:1≤a∧a≤22):K4[a.toNat]? = some (X7 a):=by
 have hl:K4.length = 23:=rfl
 have hk:a.toNat < K4.length:=by omega
 rw [X7,if_pos ha,zB,zb hk,Option.getD_some]
def ais:AC:=Qb [] (.reg [xo 0 (.mknil 2)]) (Qb [0] (.reg [xo 1 (.build [vs0,vi0] []),xo 2 (.build [vs0,vi0] [(0,1,(.c (V.str [109,100,53]))),(1,1,(.c (V.int 1)))]),xo 3 (.build [vs0,vi0] [(0,1,(.c (V.str [115,104,97,49]))),(1,1,(.c (V.int 1)))]),xo 4 (.build [vs0,vi0] [(0,1,(.c (V.str [115,104,97,50,53,54]))),(1,1,(.c (V.int 1)))]),xo 5 (.build [vs0,vi0] [(0,1,(.c (V.str [115,104,97,51,56,52]))),(1,1,(.c (V.int 1)))]),xo 6 (.build [vs0,vi0] [(0,1,(.c (V.str [114,115,97]))),(1,1,(.c (V.int 2)))]),xo 7 (.build [vs0,vi0] [(0,1,(.c (V.str [100,115,97]))),(1,1,(.c (V.int 2)))]),xo 8 (.build [vs0,vi0] [(0,1,(.c (V.str [101,99,100,115,97]))),(1,1,(.c (V.int 2)))]),xo 9 (.build [vs0,vi0] [(0,1,(.c (V.str [101,100,50,53,53,49,57]))),(1,1,(.c (V.int 2)))]),xo 10 (.build [vs0,vi0] [(0,1,(.c (V.str [109,108,100,115,97]))),(1,1,(.c (V.int 2)))]),xo 11 (.build [vs0,vi0] [(0,1,(.c (V.str [114,115,97,107,120]))),(1,1,(.c (V.int 3)))]),xo 12 (.build [vs0,vi0] [(0,1,(.c (V.str [100,104,101]))),(1,1,(.c (V.int 3)))]),xo 13 (.build [vs0,vi0] [(0,1,(.c (V.str [101,99,100,104,101]))),(1,1,(.c (V.int 3)))]),xo 14 (.build [vs0,vi0] [(0,1,(.c (V.str [109,108,107,101,109]))),(1,1,(.c (V.int 3)))]),xo 15 (.build [vs0,vi0] [(0,1,(.c (V.str [114,99,52]))),(1,1,(.c (V.int 4)))]),xo 16 (.build [vs0,vi0] [(0,1,(.c (V.str [100,101,115,51]))),(1,1,(.c (V.int 4)))]),xo 17 (.build [vs0,vi0] [(0,1,(.c (V.str [97,101,115,99,98,99]))),(1,1,(.c (V.int 4)))]),xo 18 (.build [vs0,vi0] [(0,1,(.c (V.str [97,101,115,103,99,109]))),(1,1,(.c (V.int 4)))]),xo 19 (.build [vs0,vi0] [(0,1,(.c (V.str [99,104,97,99,104,97]))),(1,1,(.c (V.int 4)))]),xo 20 (.build [vs0,vi0] [(0,1,(.c (V.str [104,109,97,99,109,100,53]))),(1,1,(.c (V.int 5)))]),xo 21 (.build [vs0,vi0] [(0,1,(.c (V.str [104,109,97,99,115,104,97,49]))),(1,1,(.c (V.int 5)))]),xo 22 (.build [vs0,vi0] [(0,1,(.c (V.str [104,109,97,99,115,104,97,50,53,54]))),(1,1,(.c (V.int 5)))]),xo 23 (.build [vs0,vi0] [(0,1,(.c (V.str [97,101,97,100]))),(1,1,(.c (V.int 5)))]),xo 24 (.bslice 23 2 true [vs0,vi0] [(0,(.t 1)),(1,(.t 2)),(2,(.t 3)),(3,(.t 4)),(4,(.t 5)),(5,(.t 6)),(6,(.t 7)),(7,(.t 8)),(8,(.t 9)),(9,(.t 10)),(10,(.t 11)),(11,(.t 12)),(12,(.t 13)),(13,(.t 14)),(14,(.t 15)),(15,(.t 16)),(16,(.t 17)),(17,(.t 18)),(18,(.t 19)),(19,(.t 20)),(20,(.t 21)),(21,(.t 22)),(22,(.t 23))]),mv 0 24]) .ret) def bM:List Q0:=[.tmp 0]
def yA (Γ:Env) (f:Nat):Prop:=EvC Γ f [] (.sl 2 apL)
theorem am5 {Γ:Env} {f:Nat} (h:Has Γ.P f 25 ais bM) :yA Γ f:=by
 refine Ju h zsi (by simp only [V.closed]) fun C hC hm=>?_
 subst hC
 unfold ais
 refine zgo ?_;repeat' first|exact zt|apply zan|intro hc
 refine Qr _ rfl ?_;simp only [go_sem]
 rfl
def aiu (Wm:Nat):AC:=Qb [0] (.reg [mc 2 (V.str [])]) (Qb [0] (Qb [0,8] (.reg [mv 3 0,bc 4 .lss 3 (V.int 1),mv 5 4,mg 6 0 5 false,xg 7 (.bin .gtr (.t 6) (.c (V.int 22))) 5 false,xo 8 (.pick (.t 5) (.c (V.bool true)) (.t 7))]) (.cond (.t 8) (Qb [2] (.reg [mc 2 (V.str [])]) .ret) .skip)) (Qb [2] (.reg [cl 9 Wm [],mv 10 0,ia 11 2 9 10,fa 12 0 11,ld 13 1 12,mv 2 13]) .ret)) def bN:List Q0:=[.tmp 2]
def abR (Γ:Env) (f:Nat):Prop:=∀ (a:Int),EvN Γ f [V.int a] (V.str (X7 a).name)
attribute [local go_sem] aqX in
theorem am7 {Γ:Env} {f Wm:Nat} (h:Has Γ.P f 14 (aiu Wm) bN) (z0:yA Γ Wm):abR Γ f:=by
 intro a
 refine Qc h zsi zcl zcl fun C hC hm=>?_
 subst hC
 unfold aiu
 by_cases ha:1≤a∧a≤22
 ·have hg:=ajJ (al9 ha)
  (have zx:=hg);refine zgo ?_;repeat' first|exact zt|apply zan|intro hc
  all_goals first|(refine Qr _ rfl ?_;simp only [go_sem];done)|(refine Qr _ rfl ?_;simp only [go_sem];simp [*];done)|(subst hc;refine Qr _ rfl ?_;simp only [go_sem];simp [*];done)
 ·have hc0:X7 a = aqS:=by rw [X7,if_neg ha]
  refine zgo ?_;repeat' first|exact zt|apply zan|intro hc
  all_goals first|(refine Qr _ rfl ?_;simp only [go_sem];done)|(refine Qr _ rfl ?_;simp only [go_sem];simp [hc0,aqS, *];done)|(subst hc;refine Qr _ rfl ?_;simp only [go_sem];simp [hc0,aqS, *];done)
def aiv (Wm:Nat):AC:=Qb [0] (.reg [mc 2 (V.int 0)]) (Qb [0] (Qb [0,8] (.reg [mv 3 0,bc 4 .lss 3 (V.int 1),mv 5 4,mg 6 0 5 false,xg 7 (.bin .gtr (.t 6) (.c (V.int 22))) 5 false,xo 8 (.pick (.t 5) (.c (V.bool true)) (.t 7))]) (.cond (.t 8) (Qb [2] (.reg [mc 2 (V.int 0)]) .ret) .skip)) (Qb [2] (.reg [cl 9 Wm [],mv 10 0,ia 11 2 9 10,fa 12 1 11,ld 13 1 12,mv 2 13]) .ret)) def bO:List Q0:=[.tmp 2]
def abS (Γ:Env) (f:Nat):Prop:=∀ (a:Int),EvN Γ f [V.int a] (V.int (X7 a).kind)
attribute [local go_sem] aqX in
theorem am8 {Γ:Env} {f Wm:Nat} (h:Has Γ.P f 14 (aiv Wm) bO) (z0:yA Γ Wm):abS Γ f:=by
 intro a
 refine Qc h zsi zcl zcl fun C hC hm=>?_
 subst hC
 unfold aiv
 by_cases ha:1≤a∧a≤22
 ·have hg:=ajJ (al9 ha)
  (have zx:=hg);refine zgo ?_;repeat' first|exact zt|apply zan|intro hc
  all_goals first|(refine Qr _ rfl ?_;simp only [go_sem];done)|(refine Qr _ rfl ?_;simp only [go_sem];simp [*];done)|(subst hc;refine Qr _ rfl ?_;simp only [go_sem];simp [*];done)
 ·have hc0:X7 a = aqS:=by rw [X7,if_neg ha]
  refine zgo ?_;repeat' first|exact zt|apply zan|intro hc
  all_goals first|(refine Qr _ rfl ?_;simp only [go_sem];done)|(refine Qr _ rfl ?_;simp only [go_sem];simp [hc0,aqS, *];done)|(subst hc;refine Qr _ rfl ?_;simp only [go_sem];simp [hc0,aqS, *];done)
def xw (b:Int):List Int→List Int→Int
 | x :: xs,y :: ys=>if x = b then y else xw b xs ys
 | _,_=>0
def agJ:AC:=Qb [0,1,2] (.reg [mc 6 (V.int 0)]) (Qb [] (Qb [0,1,2,7] (.reg [mc 7 (V.int 0)]) (.block 0 (JG [0,1,2,7] (Qb [0,1,2,7] (Qb [0,1,2,7,11] (.reg [mv 8 7,mv 9 1,ln 10 9,bn 11 .lss 8 10]) (.cond (.t 11) .skip (.exit 0))) (Qb [0,1,2,7] (.block 1 (Qb [0,1,2,7,19] (.reg [mv 14 1,mv 15 7,ia 16 1 14 15,ld 17 1 16,mv 18 0,bn 19 .eql 17 18]) (.cond (.t 19) (Qb [6] (.reg [mv 20 2,mv 21 7,ia 22 1 20 21,ld 23 1 22,mv 6 23]) .ret) .skip))) (.reg [mv 12 7,bc 13 .add 12 (V.int 1),mv 7 13])))))) (Qb [6] (.reg [mc 6 (V.int 0)]) .ret)) def bP:List Q0:=[.tmp 6]
def vX (Γ:Env) (f:Nat):Prop:=∀ (b:Int) (xs ys:List Int) (hs:xs.length≤ys.length) (h2:xs.length < 2 ^ 62),EvN Γ f [V.int b,.sl 1 (xs.map V.int),.sl 1 (ys.map V.int)] (V.int (xw b xs ys))
theorem alq {Γ:Env} {f:Nat} (h:Has Γ.P f 24 agJ bP) :vX Γ f:=by
 intro b xs ys hs h2
 refine Qc h zsi zcl zcl fun C hC hm=>?_
 subst hC
 unfold agJ
 refine zgo ?_;repeat' first|exact zt|apply zan|intro hc
 refine Jc (ι:=Nat) (fun k=>k≤xs.length∧xw b (xs.drop k) (ys.drop k) = xw b xs ys) (fun k=>[(7,V.int k)]) (fun k=>xs.length - k) 0 (by omega) ⟨by simp,by simp⟩ zol zlt zet fun k hk K' hL=>?_
 obtain ⟨hk,hinv⟩:=hk
 simp only [ovT,Xr,Nat.reduceEqDiff,reduceIte]
 rcases hd:xs.drop k with _|⟨x,r⟩
 ·have:=QY hd
  rw [hd] at hinv
  refine zgo ?_;repeat' first|exact zt|apply zan|intro hc
  refine Qr _ rfl ?_;simp only [go_sem]
  rw [← hinv];simp [xw]
 ·obtain ⟨hk',hget,hr⟩:=QJ hd
  rcases hd2:ys.drop k with _|⟨y,r2⟩
  ·have:=QY hd2;omega
  ·obtain ⟨hk2,hget2,hr2⟩:=QJ hd2
   rw [hd,hd2] at hinv
   have hw:=Qq (k:=k) (by omega)
   (have zx:=za hget (za hget2 hw));refine zgo ?_;repeat' first|exact zt|apply zan|intro hc
   ·refine Qr _ rfl ?_;simp only [go_sem]
    rw [← hinv];simp [xw,hc]
   ·refine hL _ (k + 1) zet ⟨by omega,?_⟩ (by omega) zoe
    rw [hr,hr2,← hinv,xw,if_neg hc]
def ae3 (a:Int):Int:=if a = 1 then 18 else if a = 2 then 60 else if a = 3∨a = 8∨a = 21 then 128 else if a = 4 then 192 else if a = 18∨a = 22 then 256 else if a = 19 then 64 else if a = 20 then 80 else 0
def azk (b:Int):Int:=if b < 512∨16384 < b then 0 else asq b as6
def aeL:AC:=Qb [0] (.reg [mc 2 (V.int 0)]) (Qb [] (Qb [3] (.reg [mv 3 0]) (.block 0 (Qb [3,4] (.reg [bc 5 .eql 3 (V.int 1),mv 4 5]) (.cond (.t 4) (Qb [2] (.reg [mc 2 (V.int 18)]) .ret) (Qb [3,6] (.reg [bc 7 .eql 3 (V.int 2),mv 6 7]) (.cond (.t 6) (Qb [2] (.reg [mc 2 (V.int 60)]) .ret) (Qb [3,8] (Qb [3,8] (.reg [bc 9 .eql 3 (V.int 3),mv 8 9]) (.cond (.t 8) .skip (Qb [3,8] (.reg [bc 10 .eql 3 (V.int 8),mv 8 10]) (.cond (.t 8) .skip (.reg [bc 11 .eql 3 (V.int 21),mv 8 11]))))) (.cond (.t 8) (Qb [2] (.reg [mc 2 (V.int 128)]) .ret) (Qb [3,12] (.reg [bc 13 .eql 3 (V.int 4),mv 12 13]) (.cond (.t 12) (Qb [2] (.reg [mc 2 (V.int 192)]) .ret) (Qb [3,14] (Qb [3,14] (.reg [bc 15 .eql 3 (V.int 18),mv 14 15]) (.cond (.t 14) .skip (.reg [bc 16 .eql 3 (V.int 22),mv 14 16]))) (.cond (.t 14) (Qb [2] (.reg [mc 2 (V.int 256)]) .ret) (Qb [3,17] (.reg [bc 18 .eql 3 (V.int 19),mv 17 18]) (.cond (.t 17) (Qb [2] (.reg [mc 2 (V.int 64)]) .ret) (Qb [19] (.reg [bc 20 .eql 3 (V.int 20),mv 19 20]) (.cond (.t 19) (Qb [2] (.reg [mc 2 (V.int 80)]) .ret) .skip)))))))))))))))) (Qb [2] (.reg [mc 2 (V.int 0)]) .ret)) def bQ:List Q0:=[.tmp 2]
def xH (Γ:Env) (f:Nat):Prop:=∀ (a:Int),EvN Γ f [V.int a] (V.int (ae3 a))
theorem akl {Γ:Env} {f:Nat} (h:Has Γ.P f 21 aeL bQ) :xH Γ f:=by
 intro a
 refine Qc h zsi zcl zcl fun C hC hm=>?_
 subst hC
 unfold aeL
 refine zgo ?_;repeat' first|exact zt|apply zan|intro hc
 all_goals (refine Qr _ rfl ?_;simp only [go_sem];simp [ae3, *])
def adl:AC:=Qb [0] (.reg [mc 2 (V.int 0)]) (Qb [] (.block 0 (Qb [0,3] (.reg [mv 4 0,bc 5 .lss 4 (V.int 512),mv 6 5,mg 7 0 6 false,xg 8 (.bin .gtr (.t 7) (.c (V.int 16384))) 6 false,xo 9 (.pick (.t 6) (.c (V.bool true)) (.t 8)),mv 3 9]) (.cond (.t 3) (Qb [2] (.reg [mc 2 (V.int 0)]) .ret) (Qb [0,10] (.reg [mv 11 0,bc 12 .lss 11 (V.int 1024),mv 10 12]) (.cond (.t 10) (Qb [2] (.reg [mc 2 (V.int 56)]) .ret) (Qb [0,13] (.reg [mv 14 0,bc 15 .lss 14 (V.int 2048),mv 13 15]) (.cond (.t 13) (Qb [2] (.reg [mc 2 (V.int 80)]) .ret) (Qb [0,16] (.reg [mv 17 0,bc 18 .lss 17 (V.int 3072),mv 16 18]) (.cond (.t 16) (Qb [2] (.reg [mc 2 (V.int 112)]) .ret) (Qb [0,19] (.reg [mv 20 0,bc 21 .lss 20 (V.int 7680),mv 19 21]) (.cond (.t 19) (Qb [2] (.reg [mc 2 (V.int 128)]) .ret) (Qb [22] (.reg [mv 23 0,bc 24 .lss 23 (V.int 15360),mv 22 24]) (.cond (.t 22) (Qb [2] (.reg [mc 2 (V.int 192)]) .ret) .skip))))))))))))) (Qb [2] (.reg [mc 2 (V.int 256)]) .ret)) def bR:List Q0:=[.tmp 2]
def jL (Γ:Env) (f:Nat):Prop:=∀ (b:Int),EvN Γ f [V.int b] (V.int (azk b))
theorem aiX {Γ:Env} {f:Nat} (h:Has Γ.P f 25 adl bR) :jL Γ f:=by
 intro b
 refine Qc h zsi zcl zcl fun C hC hm=>?_
 subst hC
 unfold adl
 refine zgo ?_;repeat' first|exact zt|apply zan|intro hc
 all_goals (refine Qr _ rfl ?_;simp only [go_sem];simp only [azk,asq,as6];repeat' split)<;>omega
def abm (a b:Int):Int :=
 if a = 5∨a = 6∨a = 10∨a = 11 then azk b
 else if a = 7∨a = 12 then (if b = 160∨b = 224∨b = 256∨b = 384∨b = 521 then IntKind.i64.wrap (b.tdiv 2) else 0)
 else if a = 9 then xw b [44,65,87] [128,192,256]
 else if a = 13 then xw b [512,768,1024] [128,192,256]
 else if a = 14 then xw b [40,128] [40,60]
 else if a = 15 then xw b [112,168] [80,112]
 else if a = 16∨a = 17 then xw b [128,256] [128,256]
 else xw b [0] [ae3 a]
theorem ar0 (a:Int) (ha:¬ (1≤a∧a≤22)):ae3 a = 0:=by
 simp only [ae3];repeat' split
 all_goals omega
theorem ak7 (a b:Int):abm a b = Q4 a b:=by
 by_cases ha:1≤a∧a≤22
 ·rcases (by omega:a = 1∨a = 2∨a = 3∨a = 4∨a = 5∨a = 6∨a = 7∨a = 8∨a = 9∨a = 10∨a = 11∨a = 12∨a = 13∨a = 14∨a = 15∨a = 16∨a = 17∨a = 18∨a = 19∨a = 20∨a = 21∨a = 22) with rfl|rfl|rfl|rfl|rfl|rfl|rfl|rfl|rfl|rfl|rfl|rfl|rfl|rfl|rfl|rfl|rfl|rfl|rfl|rfl|rfl|rfl
  all_goals simp [abm,Q4,qX,X7,K4,xw,ae3,vC,azk]
  all_goals (repeat' split)<;>first|omega|rfl|simp_all
 ·have hs:=ar0 a ha
  rw [Q4,qX,if_pos (by simp [ha])]
  simp only [abm]
  rw [if_neg (by omega),if_neg (by omega),if_neg (by omega),if_neg (by omega),if_neg (by omega),if_neg (by omega),if_neg (by omega),hs]
  simp [xw]
def acg (Kq XP qN:Nat):AC:=Qb [1] (.reg [xo 1 (.box true 2 (.t 0)),mc 2 (V.int 0)]) (Qb [1,3] (.reg [fa 4 1 1,ld 5 1 4,mv 3 5]) (Qb [1,3] (Qb [1,3,7] (.reg [fa 6 0 1,ld 7 1 6]) (.block 0 (Qb [1,3,7,8] (Qb [1,3,7,8] (.reg [bc 9 .eql 7 (V.int 5),mv 8 9]) (.cond (.t 8) .skip (Qb [1,3,7,8] (.reg [bc 10 .eql 7 (V.int 6),mv 8 10]) (.cond (.t 8) .skip (Qb [1,3,7,8] (.reg [bc 11 .eql 7 (V.int 10),mv 8 11]) (.cond (.t 8) .skip (.reg [bc 12 .eql 7 (V.int 11),mv 8 12]))))))) (.cond (.t 8) (Qb [2] (.reg [mv 13 3,cl 14 Kq [13],mv 2 14]) .ret) (Qb [1,3,7,15] (Qb [1,3,7,15] (.reg [bc 16 .eql 7 (V.int 7),mv 15 16]) (.cond (.t 15) .skip (.reg [bc 17 .eql 7 (V.int 12),mv 15 17]))) (.cond (.t 15) (Qb [] (Qb [3,35] (.reg [mv 18 3,bc 19 .eql 18 (V.int 160),mv 20 19,mg 21 3 20 false,xg 22 (.bin .eql (.t 21) (.c (V.int 224))) 20 false,xo 23 (.pick (.t 20) (.c (V.bool true)) (.t 22)),mv 24 23,mg 25 3 24 false,xg 26 (.bin .eql (.t 25) (.c (V.int 256))) 24 false,xo 27 (.pick (.t 24) (.c (V.bool true)) (.t 26)),mv 28 27,mg 29 3 28 false,xg 30 (.bin .eql (.t 29) (.c (V.int 384))) 28 false,xo 31 (.pick (.t 28) (.c (V.bool true)) (.t 30)),mv 32 31,mg 33 3 32 false,xg 34 (.bin .eql (.t 33) (.c (V.int 521))) 32 false,xo 35 (.pick (.t 32) (.c (V.bool true)) (.t 34))]) (.cond (.t 35) (Qb [2] (.reg [mv 36 3,bc 37 .quo 36 (V.int 2),mv 2 37]) .ret) .skip)) (Qb [2] (.reg [mc 2 (V.int 0)]) .ret)) (Qb [1,3,7,38] (.reg [bc 39 .eql 7 (V.int 9),mv 38 39]) (.cond (.t 38) (Qb [2] (.reg [mv 40 3,xo 41 (.bslice 3 1 false [vi0] [(0,(.c (V.int 44))),(1,(.c (V.int 65))),(2,(.c (V.int 87)))]),xo 42 (.bslice 3 1 false [vi0] [(0,(.c (V.int 128))),(1,(.c (V.int 192))),(2,(.c (V.int 256)))]),cl 43 XP [40,41,42],mv 2 43]) .ret) (Qb [1,3,7,44] (.reg [bc 45 .eql 7 (V.int 13),mv 44 45]) (.cond (.t 44) (Qb [2] (.reg [mv 46 3,xo 47 (.bslice 3 1 false [vi0] [(0,(.c (V.int 512))),(1,(.c (V.int 768))),(2,(.c (V.int 1024)))]),xo 48 (.bslice 3 1 false [vi0] [(0,(.c (V.int 128))),(1,(.c (V.int 192))),(2,(.c (V.int 256)))]),cl 49 XP [46,47,48],mv 2 49]) .ret) (Qb [1,3,7,50] (.reg [bc 51 .eql 7 (V.int 14),mv 50 51]) (.cond (.t 50) (Qb [2] (.reg [mv 52 3,xo 53 (.bslice 2 1 false [vi0] [(0,(.c (V.int 40))),(1,(.c (V.int 128)))]),xo 54 (.bslice 2 1 false [vi0] [(0,(.c (V.int 40))),(1,(.c (V.int 60)))]),cl 55 XP [52,53,54],mv 2 55]) .ret) (Qb [1,3,7,56] (.reg [bc 57 .eql 7 (V.int 15),mv 56 57]) (.cond (.t 56) (Qb [2] (.reg [mv 58 3,xo 59 (.bslice 2 1 false [vi0] [(0,(.c (V.int 112))),(1,(.c (V.int 168)))]),xo 60 (.bslice 2 1 false [vi0] [(0,(.c (V.int 80))),(1,(.c (V.int 112)))]),cl 61 XP [58,59,60],mv 2 61]) .ret) (Qb [1,3,62] (Qb [1,3,7,62] (.reg [bc 63 .eql 7 (V.int 16),mv 62 63]) (.cond (.t 62) .skip (.reg [bc 64 .eql 7 (V.int 17),mv 62 64]))) (.cond (.t 62) (Qb [2] (.reg [mv 65 3,xo 66 (.bslice 2 1 false [vi0] [(0,(.c (V.int 128))),(1,(.c (V.int 256)))]),xo 67 (.bslice 2 1 false [vi0] [(0,(.c (V.int 128))),(1,(.c (V.int 256)))]),cl 68 XP [65,66,67],mv 2 68]) .ret) .skip)))))))))))))))) (Qb [2] (.reg [mv 69 3,xo 70 (.bslice 1 1 false [vi0] [(0,(.c (V.int 0)))]),fa 71 0 1,ld 72 1 71,cl 73 qN [72],xo 74 (.bslice 1 1 false [vi0] [(0,(.t 73))]),cl 75 XP [69,70,74],mv 2 75]) .ret))) def bS:List Q0:=[.tmp 2]
def qE (Γ:Env) (f:Nat):Prop:=∀ (a b:Int),EvN Γ f [.agg [V.int a,V.int b]] (V.int (Q4 a b))
theorem ahp {Γ:Env} {f Kq XP qN:Nat} (h:Has Γ.P f 76 (acg Kq XP qN) bS) (z0:jL Γ Kq) (z1:vX Γ XP) (z2:xH Γ qN):qE Γ f:=by
 intro a b
 refine Qc h zsi zcl zcl fun C hC hm=>?_
 subst hC
 unfold acg
 rw [← ak7]
 have k1:=z1 b [44,65,87] [128,192,256] (by simp) (by simp)
 have k2:=z1 b [512,768,1024] [128,192,256] (by simp) (by simp)
 have k3:=z1 b [40,128] [40,60] (by simp) (by simp)
 have k4:=z1 b [112,168] [80,112] (by simp) (by simp)
 have k5:=z1 b [128,256] [128,256] (by simp) (by simp)
 have k6:=z1 b [0] [ae3 a] (by simp) (by simp)
 (have zy0:=k1.b;have zy1:=k2.b;have zy2:=k3.b;have zy3:=k4.b;have zy4:=k5.b;have zy5:=k6.b);refine zgo ?_;repeat' first|exact zt|apply zan|intro hc
 all_goals (refine Qr _ rfl ?_;simp only [go_sem];simp [abm, *])
def agK (Uk:Nat):AC:=Qb [1] (.reg [xo 1 (.box true 2 (.t 0)),mc 2 (V.bool false)]) (Qb [2] (.reg [xo 3 (.load true 2 (.t 1)),cl 4 Uk [3],bc 5 .gtr 4 (V.int 0),mv 2 5]) .ret) def bT:List Q0:=[.tmp 2]
def Ug (Γ:Env) (f:Nat):Prop:=∀ (a b:Int),EvN Γ f [.agg [V.int a,V.int b]] (V.bool (decide (Q4 a b > 0)))
theorem alr {Γ:Env} {f Uk:Nat} (h:Has Γ.P f 6 (agK Uk) bT) (z0:qE Γ Uk):Ug Γ f:=by
 intro a b
 refine Qc h zsi zcl zcl fun C hC hm=>?_
 subst hC
 unfold agK
 refine zgo ?_;repeat' first|exact zt|apply zan|intro hc
 refine Qr _ rfl ?_;simp only [go_sem]
theorem asv {n:Int} (h0:0≤n) (h1:n < 10):Lib.itoa n = [UInt8.ofNat (48 + n.toNat)]:=by
 rw [Lib.itoa,if_neg (by omega),Lib.decDigits_one (by omega)]
theorem avV {n:Int} (h1:10≤n):Lib.itoa n = Lib.itoa (n / 10)++[UInt8.ofNat (48 + (n % 10).toNat)]:=by
 have e:(n / 10).toNat = n.toNat / 10:=by omega
 have e2:(n % 10).toNat = n.toNat % 10:=by omega
 rw [Lib.itoa,if_neg (by omega),Lib.itoa,if_neg (by omega),Lib.decDigits,dif_neg (by omega),e,e2]
theorem arF {d:Int} (h0:0≤d) (h1:d < 10):IntKind.u8.wrap (IntKind.i64.wrap (48 + d)) = 48 + d:=by
 rcases (by omega:d = 0∨d = 1∨d = 2∨d = 3∨d = 4∨d = 5∨d = 6∨d = 7∨d = 8∨d = 9) with rfl|rfl|rfl|rfl|rfl|rfl|rfl|rfl|rfl|rfl<;>rfl
theorem auG {d:Int} (h0:0≤d) (h1:d < 10):V.sc (.int .u8 (48 + d)) = V.sc (.int .u8 ((UInt8.ofNat (48 + d.toNat)).toNat)):=by
 rcases (by omega:d = 0∨d = 1∨d = 2∨d = 3∨d = 4∨d = 5∨d = 6∨d = 7∨d = 8∨d = 9) with rfl|rfl|rfl|rfl|rfl|rfl|rfl|rfl|rfl|rfl<;>rfl
theorem atT (c:UInt8):(∃ l:List UInt8,[V.sc (.int .u8 c.toNat)] = l.map fun c=>.sc (.int .u8 c.toNat)) = True:=by
 simp only [eq_iff_iff,iff_true];exact ⟨[c],rfl⟩
theorem asU (c:UInt8):arK (.sc (.int .u8 c.toNat)) = c:=by simp [arK]
def aa9:List (List Nat):=[[],[0],[1],[],[3],[4],[5],[6],[7],[2,8],[9,2,0,1,2,3,4,5,6,7,8,9]]
def aah:OT:=och 0 11
@[go_sem] def ql (Qz:Nat):OP:=oN 0 (mv 10 0) (oN 1 (bc 11 .quo 10 (V.int 10)) (oN 2 (cl 12 Qz [11]) (oN 3 (mv 13 0) (oN 4 (bc 14 .rem 13 (V.int 10)) (oN 5 (xo 15 (.bin .add (.c (V.int 48)) (.t 14))) (oN 6 (xo 16 (.convI .u8 (.t 15))) (oN 7 (xo 17 (.bslice 1 1 false [(.int .u8 0)] [(0,(.t 16))])) (.one 8 false [7] (xo 18 (.convBS (.t 17))) (oN 9 (bn 19 .add 12 18) (oN 10 (mv 2 19) .done))))))))))
def aas (Qz:Nat):List AO:=aoO (ql Qz)
instance (Qz:Nat):RG [] aah (ql Qz) (aas Qz) aa9 11 (fun _=>true):=⟨rfl,by kernel_rfl,by kernel_rfl⟩
def xn (Qz:Nat):AC:=Qb [0] (.reg [mc 2 (V.str [])]) (Qb [0] (Qb [0,4] (.reg [mv 3 0,bc 4 .lss 3 (V.int 10)]) (.cond (.t 4) (Qb [2] (.reg [mv 5 0,xo 6 (.bin .add (.c (V.int 48)) (.t 5)),xo 7 (.convI .u8 (.t 6)),xo 8 (.bslice 1 1 false [(.int .u8 0)] [(0,(.t 7))]),xo 9 (.convBS (.t 8)),mv 2 9]) .ret) .skip)) (Qb [2] (VD [] aah (ql Qz) (aas Qz) aa9) .ret)) def bU:List Q0:=[.tmp 2]
def jM (Γ:Env) (f:Nat):Prop:=∀ (n:Int) (h0:0≤n) (h1:n≤9223372036854775807),EvN Γ f [V.int n] (V.str (Lib.itoa n))
attribute [local go_sem] asU atT in
theorem aiY {Γ:Env} {f:Nat} (h:Has Γ.P f 20 (xn f) bU) :jM Γ f:=by
 suffices H:∀ (kk:Nat),∀ (n:Int) (h0:0≤n) (h1:n≤9223372036854775807),n.toNat < kk→EvN Γ f [V.int n] (V.str (Lib.itoa n)) from fun n h0 h1=>H _ n h0 h1 (Nat.lt_succ_self _)
 intro kk;induction kk with
 | zero=>intros;rename_i hk;exact absurd hk (Za _)
 | succ kk ih =>
 intro n h0 h1 hk
 refine Qc h zsi zcl zcl fun C hC hm=>?_
 subst hC
 unfold xn
 by_cases hn:n < 10
 ·have e1:=arF h0 hn
  have e2:=auG h0 hn
  have e3:=asv h0 hn
  have e4:decide (n < 10) = true:=by simp [hn]
  (have zx:=za e1 (za e2 e4));refine zgo ?_;repeat' first|exact zt|apply zan|intro hc
  all_goals first|(refine Qr _ rfl ?_;simp only [go_sem];done)|(refine Qr _ rfl ?_;simp only [go_sem];simp [e3, *];done)|(subst hc;refine Qr _ rfl ?_;simp only [go_sem];simp [e3, *];done)
 ·have e0:n.tdiv 10 = n / 10:=by rw [Int.tdiv_eq_ediv_of_nonneg h0]
  have e00:n.tmod 10 = n % 10:=by rw [ZU h0]
  have e1:=arF (d:=n % 10) (by omega) (by omega)
  have e2:=auG (d:=n % 10) (by omega) (by omega)
  have e3:=avV (n:=n) (by omega)
  have e4:decide (n < 10) = false:=by simp [hn]
  have e5:IntKind.i64.wrap (n / 10) = n / 10:=Q7 (by omega) (by omega)
  have hl:=Lib.itoa_length_le (n / 10) (by omega) (by omega)
  (have zx:=za e0 (za e00 (za e1 (za e2 (za e4 e5)))));refine zgo ?_;repeat' first|exact zt|apply zan|intro hc
  all_goals first|(refine Qr _ rfl ?_;simp only [go_sem];done)|(refine Qr _ rfl ?_;simp only [go_sem];simp [e3, *];done)|(subst hc;refine Qr _ rfl ?_;simp only [go_sem];simp [e3, *];done)
theorem apz {n:Int} (h0:0≤n) (h1:n < 256):IntKind.u8.wrap n = n:=by
 have e1:IntKind.u8.bits = 8:=rfl
 have e2:IntKind.u8.signed = false:=rfl
 simp only [IntKind.wrap,e1,e2,ke]
 simp;omega
def aeZ:List (List Nat):=[[],[0],[1],[2],[],[4],[5,2],[3,6],[7,6,0,1,2,3,4,5,6,7]]
def aex:OT:=och 0 9
@[go_sem] def vA (Yp Qz:Nat):OP:=oN 0 (fa 12 0 1) (oN 1 (ld 13 1 12) (oN 2 (cl 14 Yp [13]) (oN 3 (bc 15 .add 14 (V.str [45])) (oN 4 (fa 16 1 1) (oN 5 (ld 17 1 16) (oN 6 (cl 18 Qz [17]) (oN 7 (bn 19 .add 15 18) (oN 8 (mv 2 19) .done))))))))
def aeE (Yp Qz:Nat):List AO:=aoO (vA Yp Qz)
instance (Yp Qz:Nat):RG [] aex (vA Yp Qz) (aeE Yp Qz) aeZ 9 (fun _=>true):=⟨rfl,by kernel_rfl,by kernel_rfl⟩
def ait (Jw Yp Qz:Nat):AC:=Qb [1] (.reg [xo 1 (.box true 2 (.t 0)),mc 2 (V.str [])]) (Qb [1] (Qb [1,5] (.reg [xo 3 (.load true 2 (.t 1)),cl 4 Jw [3],xo 5 (.un .not (.t 4))]) (.cond (.t 5) (Qb [2] (.reg [mc 2 (V.str [])]) .ret) .skip)) (Qb [1] (Qb [1,8] (.reg [fa 6 1 1,ld 7 1 6,bc 8 .eql 7 (V.int 0)]) (.cond (.t 8) (Qb [2] (.reg [fa 9 0 1,ld 10 1 9,cl 11 Yp [10],mv 2 11]) .ret) .skip)) (Qb [2] (VD [] aex (vA Yp Qz) (aeE Yp Qz) aeZ) .ret))) def bV:List Q0:=[.tmp 2]
def abQ (Γ:Env) (f:Nat):Prop:=∀ (a b:Int),EvN Γ f [.agg [V.int a,V.int b]] (V.str (jr a b))
theorem am6 {Γ:Env} {f Jw Yp Qz:Nat} (h:Has Γ.P f 20 (ait Jw Yp Qz) bV) (z0:Ug Γ Jw) (z1:abR Γ Yp) (z2:jM Γ Qz):abQ Γ f:=by
 intro a b
 refine Qc h zsi zcl zcl fun C hC hm=>?_
 subst hC
 unfold ait
 have hn:=akB a
 by_cases hv:0 < Q4 a b
 ·have hb:=abk a b hv
  have hi:=Lib.itoa_length_le b (by omega) (by omega)
  refine zgo ?_;repeat' first|exact zt|apply zan|intro hc
  all_goals first|(refine Qr _ rfl ?_;simp only [go_sem];done)|(refine Qr _ rfl ?_;simp only [go_sem];simp [jr, *];done)|(subst hc;refine Qr _ rfl ?_;simp only [go_sem];simp [jr, *];done)
 ·refine zgo ?_;repeat' first|exact zt|apply zan|intro hc
  all_goals first|(refine Qr _ rfl ?_;simp only [go_sem];done)|(refine Qr _ rfl ?_;simp only [go_sem];simp [jr, *];done)|(subst hc;refine Qr _ rfl ?_;simp only [go_sem];simp [jr, *];done)
end Av
end
