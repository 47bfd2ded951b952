/- From a law's contract to the row's step. -/
import Derived.Test.YtjobognfgjobfaaGreatDoorK12
import Derived.Below
import Derived.Handed
import Derived.KernelRfl
set_option linter.unusedVariables false
set_option linter.unusedSimpArgs false
section
namespace Av
open Go Go.RowKit
def ayG (P:Program) (W:World) (d:Prop):Env:=⟨P,fun b=>W.heap[b]?,d⟩
abbrev aeL (P:Program) (W:World):Env:=ayG P W False
def atv (W:World) (b _i:Nat):Prop:=b < W.heap.size
theorem ais {P:Program} (mix:P.follows .mixedOrders = true) {f:FuncId} (own:Own P f) {W:World} {d:Prop} {args:List V} {cargs:Array Value} {b:Bool}
  (h:EvN (ayG P W d) f args (V.bool b)) (hsz:cargs.size = args.length) (hrep:∀ i (h:i < args.length) (h':i < cargs.size),Rep W (atv W) noμ cargs[i] args[i]) :
  Calls P f cargs W fun e W'=>e = .returned (.bool b)∧Below W.heap.size W W':=by
 let C:Ctx:={ P:=P,w0:=W,Z0:=atv W,F:=fun _=>False,m:=0,μ0:=noμ,kn:=fun b=>W.heap[b]?,dr:=d,mix:=mix,hkn:=by grind }
 have hg:Good C W (atv W) noμ (fun k=>([]:List Ob)[k]?):=by
  refine ⟨by grind,by grind,fun b i h=>h,zj _,fun _ _ _=>rfl,fun b i h=>.inl h,fun b i h=>h,fun _ _ _=>rfl,by grind,XA.refl _⟩
 have:=h.1 C cargs rfl rfl (fun k _=>rfl) hg (fun b hb=>hb.elim) hsz hrep
 rw [show (ayG P W d).P = P from rfl,show C.w0 = W from rfl,JU own] at this
 refine Calls.mono this ?_
 rintro e w' ⟨v,Z',μ',rfl,hr,hgd,_⟩
 refine ⟨by rw [hr.scE.1],⟨hgd.oo.1,hgd.oo.2.1,hgd.oo.2.2.1,hgd.grow,fun k hk=>hgd.frame k hk (fun h=>h)⟩⟩
theorem Uu {H:Type} {enc:TypeId×Value→H} {a:Assume} {C:Checked} {os:Os} {f:FuncId} {fn:Func} {s:ChangeSpec} {conds:List PathCond} {apart fresh handsOn again:Bool} {X:World→Array Value→Prop}
  (hX:∀ (w w':World) (args:Array Value),w.heap = w'.heap→X w args→X w' args)
  (own:ownKnob C.prog.godebug = none) (started:os.Started) (noInit:C.prog.inits.idxOf? f = none) (hfn:C.prog.funcs[f]? = some fn)
  (witness:∃ (w:World) (tape:Tape) (i:Input),w.os = os∧(w.forCall tape i).Shaped C.prog∧i.vars = []∧Input.okWide C.prog (w.forCall tape i) .any w.heap.size f i ∧
    ((s.pre enc C.prog fn conds apart (w.forCall tape i).memory i.args∧X (w.forCall tape i).memory i.args)∧sizedMet enc C.prog fn (OpenSpec.ofChange s) apart (w.forCall tape i).memory i.args)∧a.holds C.prog (lone (Frame.enter C.prog f i.args .normal) [] (w.forCall tape i)))
  (contract:∀ (W:World) (base:Nat) (args:Array Value) (ds gs:List (DataW H)) (before:List MemPlace),
    (∀ (j:Nat) t v,fn.params[j]? = some t→args[j]? = some v→Value.okWide C.prog W .any base t v) →
    DataW.Whole enc C.prog fn.params.toList s.vars apart W args.toList ds gs before →
    (DataW.weightsEach C.prog (fn.params.toList++s.plain.varTypes C.prog) (ds++gs)).all (·≤reachBytes) = true→X W args→W.ShapedOpen C.prog →
    Calls C.prog f args W fun e W'=>∃ v,e = .returned v∧s.post enc C.prog fn apart fresh handsOn again W args v W') :
  ReturnsInHanded a C os f .any (fun w args=>(s.pre enc C.prog fn conds apart w args∧X w args)∧sizedMet enc C.prog fn (OpenSpec.ofChange s) apart w args) (s.post enc C.prog fn apart fresh handsOn again):=by
 refine returnsInHanded_of_calls own started noInit witness ?_
 intro w tape i _ hsh _ hok hpre hholds
 obtain ⟨_,_,_,fn',hfn',_,_,_,_,hval⟩:=hok
 have e:fn' = fn:=by grind
 subst e
 obtain ⟨⟨⟨ds,gs,before,hw,hc⟩,hx⟩,hz⟩:=hpre
 have hw':=DataW.Whole.of_heap (w':=w.forCall tape i) (by rfl) hw
 refine (contract (w.forCall tape i) w.heap.size i.args ds gs before hval hw' (hz.weights hw) (hX _ _ _ (by rfl) hx) hsh).mono fun e W' ⟨v,he,hp⟩=>?_
 subst he
 exact ChangeSpec.post_blind hp
end Av
end
section
namespace Av
open Go
structure EvD (Γ:Env) (f:FuncId) (args:List V) (cs:List V) (res:V) (cs2:List V):Prop where
 ev:Ev Γ f (.ptr 0 0 :: args) [.box true cs] res [.box true cs2]
 cl:res.closed
 c1:Qb cs
 c2:Qb cs2
def QI:List V→List Nat
 | []=>[]
 | .hd a _ _ :: r=>a :: QI r
 | .ptr a _ :: r=>a :: QI r
 | _ :: r=>QI r
mutual
theorem anN (o:Nat→Option Ob) (br l:List Nat) (hb:∀ x∈l,x ∉ br):∀ v:V,v.shutOk0 o (some l)→conv o br (some l) v (v.shut0 o)
 | .top,_=>by simp [V.shut0,conv]
 | .sc _,_=>by simp [V.shut0,conv]
 | .nn,_=>by simp [V.shut0,conv]
 | .sl _ _,_=>by simp [V.shut0,conv]
 | .ro _ _,_=>by simp [V.shut0,conv]
 | .ept _ _ _,_=>by simp [V.shut0,conv]
 | .mp _,_=>by simp [V.shut0,conv]
 | .hd a off len,h=>by
   obtain ⟨h1,wr,s,xs,h2⟩:=h
   simp only [V.shut0,h2,conv]
   exact ⟨h1,hb a h1,.inl ⟨wr,xs,rfl,rfl⟩⟩
 | .ptr a off,h=>by
   obtain ⟨h1,wr,cs,h2,h3⟩:=h
   simp only [V.shut0,h2,conv]
   exact ⟨h1,hb a h1,trivial,h3,wr,cs,rfl,Qn _ _ _ _ h3⟩
 | .agg cs,h=>by simp only [V.shut0,conv];exact yi o br l hb cs h
 | .tup cs,h=>by simp only [V.shut0,conv];exact yi o br l hb cs h
 | .clo f cs,h=>by simp only [V.shut0,conv];exact ⟨trivial,yi o br l hb cs h⟩
theorem yi (o:Nat→Option Ob) (br l:List Nat) (hb:∀ x∈l,x ∉ br):∀ cs:List V,wu o (some l) cs→QR o br (some l) cs (aaU o cs)
 | [],_=>trivial
 | v :: r,h=>⟨anN o br l hb v h.1,yi o br l hb r h.2⟩
end
mutual
theorem aqb (o:Nat→Option Ob) (br l:List Nat) (hb:∀ x∈l,x ∉ br):∀ v:V,v.shutOk o (some l)→conv o br (some l) v (v.shut o)
 | .top,_=>by simp [V.shut,conv]
 | .sc _,_=>by simp [V.shut,conv]
 | .nn,_=>by simp [V.shut,conv]
 | .sl _ _,_=>by simp [V.shut,conv]
 | .ro _ _,_=>by simp [V.shut,conv]
 | .ept _ _ _,_=>by simp [V.shut,conv]
 | .mp _,_=>by simp [V.shut,conv]
 | .hd a off len,h=>by
   obtain ⟨h1,h2⟩:=h
   unfold awY at h2
   split at h2
   ·rename_i wr s xs h3
    simp only [V.shut,h3,conv]
    exact ⟨h1,hb a h1,.inl ⟨wr,xs,rfl,rfl⟩⟩
   ·rename_i wr s xs h3
    simp only [V.shut,h3,conv]
    exact ⟨h1,hb a h1,.inr ⟨wr,xs,rfl,yi _ _ _ hb _ h2.1,h2.2,VE _ _⟩⟩
   ·exact h2.elim
 | .ptr a off,h=>by
   obtain ⟨h1,wr,cs,h2,h3⟩:=h
   simp only [V.shut,h2,conv]
   exact ⟨h1,hb a h1,trivial,h3,wr,cs,rfl,Qn _ _ _ _ h3⟩
 | .agg cs,h=>by simp only [V.shut,conv];exact JM o br l hb cs h
 | .tup cs,h=>by simp only [V.shut,conv];exact JM o br l hb cs h
 | .clo f cs,h=>by simp only [V.shut,conv];exact ⟨trivial,JM o br l hb cs h⟩
theorem JM (o:Nat→Option Ob) (br l:List Nat) (hb:∀ x∈l,x ∉ br):∀ cs:List V,Qw o (some l) cs→QR o br (some l) cs (Yj o cs)
 | [],_=>trivial
 | v :: r,h=>⟨aqb o br l hb v h.1,JM o br l hb r h.2⟩
end
section
variable {Γ:Env} {b:Nat} {r:List AO} {s:St} {d:Option Nat} {f:FuncId} {acts:List V} {res:V} {K:St→Prop} {cs cs2:List V} {a:Nat}
theorem ayV (l:List Nat) (ha:s.o a = some (.box true cs)) (h:EvD Γ f (Yj s.o acts) cs res cs2) (hc:Qw s.o (some l) acts) (hal:a ∉ l) (hab:a < b)
  (hk:WC Γ (b + KK) r { t:=(s.put d res).t,o:=upd (wV (some l) [a] s.o) a (some (.box true cs2)),n:=s.n } K):awC Γ b r s d f (.ptr a 0 :: acts) K:=by
 refine Jj ⟨_,_,_,_,[a],some l,h.ev,⟨?_,JM s.o [a] l ?_ acts hc⟩,⟨⟨_,ha,Qn _ _ _ _ h.c1⟩,trivial⟩,by simp,by simpa using hab,zj _,by simp [KK],fun h=>by simp at h,?_⟩
 ·simp [conv]
 ·grind
 ·rw [J6 _ _ h.cl]
  simp only [YE,Yf,Ob.ren,Qy _ _ h.c2]
  exact hk
theorem axY (ha:s.o a = some (.box true cs)) (h:EvD Γ f (Yj s.o acts) cs res cs2) (hc:Qw s.o (some (QI acts)) acts) (hal:a ∉ QI acts) (hab:a < b)
  (hk:WC Γ (b + KK) r { t:=(s.put d res).t,o:=upd (wV (some (QI acts)) [a] s.o) a (some (.box true cs2)),n:=s.n } K):awC Γ b r s d f (.ptr a 0 :: acts) K:=ayV _ ha h hc hal hab hk
theorem Ko {x:V} {args:List V} {okf:Option (List Nat)→Prop} (ha:s.o a = some (.box true cs)) (h:EvD Γ f args cs res cs2) (hal:(QI acts).contains a = false) (hab:decide (a < b) = true) (hc:Qw s.o (some (QI acts)) acts)
  (hk:WC Γ (b + KK) r { t:=(s.put d res).t,o:=upd (wV (some (QI acts)) [a] s.o) a (some (.box true cs2)),n:=s.n } K):aet Γ b r s d f (.ptr a 0 :: acts) (x :: args) okf K:=by
 intro h1 _
 simp only [Yj,km] at h1
 obtain ⟨_,rfl⟩:=h1
 exact axY ha h hc (by simpa using hal) (zL hab) hk
theorem ans {br:List Nat} {o:Nat→Option Ob}:wV (some []) br o = o:=by
 funext n;simp [wV]
theorem azh {x a n:Nat} {o:Nat→Option Ob}:wV (some [x]) [a] o n = if n = x then (if x = a then o n else (o n).map Ob.frz) else o n:=by
 grind [wV,List.mem_singleton]
end
theorem JL {Γ:Env} {f:FuncId} {nt:Nat} {ac:AC} {rs:List Uh} (hb:Has Γ.P f nt ac rs) {args cs cs2:List V} {res:V} (ha:args.length + 1≤nt) (hr:res.closed) (h1:Qb cs) (h2:Qb cs2)
  (h:∀ C:Ctx,C.env = Γ→C.m = 1→AWp C nt ac (Yt (.ptr 0 0 :: args) [.box true cs]) (K1 1 rs res [.box true cs2]) (fun _ _=>False) (K1 1 rs res [.box true cs2])):EvD Γ f args cs res cs2 :=
 ⟨by grind [Q8],hr,h1,h2⟩
theorem J0 {rs:List Uh} {res:V} {s:St} {cs2:List V} (vs:List V) (h:xu s rs = some vs) (ho:s.o 0 = some (.box true cs2)) (h2:Qb cs2) (hc:conv s.o [0] none (adm vs) res):K1 1 rs res [.box true cs2] s :=
 Yw rs vs _ h ⟨[0],none,hc,⟨⟨_,ho,fun h=>h,Qn _ _ _ _ h2⟩,trivial⟩,by simp,rfl⟩
structure EvR (Γ:Env) (f:FuncId) (args:List V) (cs:List V):Prop where
 ev:Ev Γ f args [] (.ptr 0 0) [.box true cs]
 c1:Qb cs
theorem ayQ {Γ:Env} {b:Nat} {r:List AO} {s:St} {d:Option Nat} {f:FuncId} {acts cs:List V} {K:St→Prop} (h:EvR Γ f (Yj s.o acts) cs) (hc:Qw s.o (some (QI acts)) acts)
  (hk:WC Γ (b + KK) r { t:=(s.put d (.ptr b 0)).t,o:=upd (wV (some (QI acts)) [] s.o) b (some (.box true cs)),n:=s.n } K):awC Γ b r s d f acts K:=by
 refine Jj ⟨_,_,_,_,[],some (QI acts),h.ev,YF _ _ _ hc,trivial,kw,by grind,by simp,by simp [KK],fun h=>by simp at h,?_⟩
 simp only [YE,Yf,Ob.ren,Qy _ _ h.c1,V.ren,sig]
 exact hk
theorem wQ {Γ:Env} {b:Nat} {r:List AO} {s:St} {d:Option Nat} {f:FuncId} {acts args cs:List V} {K:St→Prop} {okf:Option (List Nat)→Prop} (h:EvR Γ f args cs) (hc:okf (some (QI acts)))
  (hk:WC Γ (b + KK) r { t:=(s.put d (.ptr b 0)).t,o:=upd (wV (some (QI acts)) [] s.o) b (some (.box true cs)),n:=s.n } K):aet Γ b r s d f acts args okf K:=by
 rintro rfl rfl;exact ayQ h hc hk
theorem ac5 {Γ:Env} {f:FuncId} {nt:Nat} {ac:AC} {rs:List Uh} (hb:Has Γ.P f nt ac rs) {args cs:List V} (ha:args.length≤nt) (h1:Qb cs)
  (h:∀ C:Ctx,C.env = Γ→C.m = 0→AWp C nt ac (Yt args []) (K1 0 rs (.ptr 0 0) [.box true cs]) (fun _ _=>False) (K1 0 rs (.ptr 0 0) [.box true cs])):EvR Γ f args cs :=
 ⟨Q8 hb ha h,h1⟩
theorem asu {rs:List Uh} {s:St} {cs:List V} (a:Nat) (h:xu s rs = some [.ptr a 0]) (ho:s.o a = some (.box true cs)) (h2:Qb cs):K1 0 rs (.ptr 0 0) [.box true cs] s :=
 Yw rs _ _ h ⟨[a],none,by simp [adm,conv],⟨⟨_,ho,fun h=>h,Qn _ _ _ _ h2⟩,trivial⟩,by simp,rfl⟩
attribute [go_sem] ans azh QI Ob.frz
end Av
end
section
namespace Av
open Go
structure EvW (Γ:Env) (f:FuncId) (args:List V) (sz:Nat) (xs:List V):Prop where
 ev:Ev Γ f args [] (.hd 0 0 xs.length) [.buf true sz xs]
 ns:∀ x∈xs,x.noSl
theorem yf (l:List Int):∀ x∈l.map V.int,x.noSl:=by
 grind [V.noSl]
theorem j9 (l:List (List UInt8)):∀ x∈l.map V.str,x.noSl:=by
 grind [V.noSl]
theorem ayO {Γ:Env} {b:Nat} {r:List AO} {s:St} {d:Option Nat} {f:FuncId} {acts xs:List V} {sz:Nat} {K:St→Prop} (h:EvW Γ f (Yj s.o acts) sz xs) (hc:Qw s.o none acts)
  (hk:WC Γ (b + KK) r { t:=(s.put d (.hd b 0 xs.length)).t,o:=upd s.o b (some (.buf true sz xs)),n:=s.n } K):awC Γ b r s d f acts K:=by
 refine Jj ⟨_,_,_,_,[],none,h.ev,YF _ _ _ hc,trivial,kw,by grind,by simp,by simp [KK],fun _=>⟨by simp only [V.noSl],fun x hx=>?_⟩,?_⟩
 ·simp only [zy] at hx;subst hx;exact h.ns
 ·simp only [YE,Yf,Ob.ren,V.ren,sig]
  exact hk
theorem axZ {Γ:Env} {A W:Nat→Bool} {b:Nat} {s:St} {d:Option Nat} {f:FuncId} {acts xs:List V} {sz:Nat} {J:St→Prop} (h:EvW Γ f (Yj (Yd A s.o) acts) sz xs) (hc:Qw (Yd A s.o) none acts)
  (hk:J { t:=(s.put d (.hd b 0 xs.length)).t,o:=upd s.o b (some (.buf true sz xs)),n:=s.n }):Jk Γ A W b s d f acts J:=by
 refine ⟨_,_,_,_,[],none,h.ev,YF _ _ _ hc,trivial,kw,by grind,by simp,by simp [KK],fun _=>⟨by simp only [V.noSl],fun x hx=>?_⟩,by grind,?_⟩
 ·simp only [zy] at hx;subst hx;exact h.ns
 ·simp only [YE,Yf,Ob.ren,V.ren,sig]
  exact hk
theorem K0 {Γ:Env} {b:Nat} {r:List AO} {s:St} {d:Option Nat} {f:FuncId} {acts args xs:List V} {sz:Nat} {K:St→Prop} {okf:Option (List Nat)→Prop} (h:EvW Γ f args sz xs) (hc:okf none)
  (hk:WC Γ (b + KK) r { t:=(s.put d (.hd b 0 xs.length)).t,o:=upd s.o b (some (.buf true sz xs)),n:=s.n } K):aet Γ b r s d f acts args okf K:=by
 rintro rfl rfl;exact ayO h hc hk
theorem Vv {Γ:Env} {A W:Nat→Bool} {b:Nat} {s:St} {d:Option Nat} {f:FuncId} {acts args xs:List V} {sz:Nat} {J:St→Prop} {okf:Option (List Nat)→Prop} (h:EvW Γ f args sz xs) (hc:okf none)
  (hk:J { t:=(s.put d (.hd b 0 xs.length)).t,o:=upd s.o b (some (.buf true sz xs)),n:=s.n }):ai4 Γ A W b s d f acts args okf J:=by
 rintro rfl rfl;exact axZ h hc hk
theorem Xi {Γ:Env} {f:FuncId} {nt:Nat} {ac:AC} {rs:List Uh} (hb:Has Γ.P f nt ac rs) {args xs:List V} {sz:Nat} (ha:args.length≤nt) (hn:∀ x∈xs,x.noSl)
  (h:∀ C:Ctx,C.env = Γ→C.m = 0→AWp C nt ac (Yt args []) (K1 0 rs (.hd 0 0 xs.length) [.buf true sz xs]) (fun _ _=>False) (K1 0 rs (.hd 0 0 xs.length) [.buf true sz xs])):EvW Γ f args sz xs :=
 ⟨Q8 hb ha h,hn⟩
theorem yK {rs:List Uh} {s:St} {xs:List V} {sz:Nat} (a n:Nat) (h:xu s rs = some [.hd a 0 n]) (hn:n = xs.length) (ho:s.o a = some (.buf true sz xs)):K1 0 rs (.hd 0 0 xs.length) [.buf true sz xs] s:=by
 subst hn
 exact Yw rs _ _ h ⟨[a],none,by simp [adm,conv],⟨⟨_,ho,fun h=>h,rfl,rfl⟩,trivial⟩,by simp,rfl⟩
end Av
end
section
namespace Av
open Go
theorem Good.adopt {C:Ctx} {w:World} {Z:Nat→Nat→Prop} {μ:Nat→Option Cn} {o:Nat→Option Ob} (h:Good C w Z μ o) {x i n sz:Nat} {wr:Bool} {cells:List V}
  (ho:o x = some (.box wr cells)) (hi:cells[i]? = some (.sc (.slice none 0 0))) (hn:μ n = none) (hm:C.m≤n) :
  Good C w Z (upd μ n (some { block:=0,void:=true })) (upd (upd o x (some (.box wr (cells.set i (.hd n 0 0))))) n (some (.buf true sz []))):=by
 have hon:=h.free hn
 have hxn:x≠n:=by grind
 have hmu:=yF (c:={ block:=0,void:=true }) hn
 have old:∀ a y,a≠n→upd (upd o x (some (.box wr (cells.set i (.hd n 0 0))))) n (some (.buf true sz [])) a = some y→∃ z c,o a = some z∧μ a = some c∧(y.live c↔z.live c)∧vY w Z (upd μ n (some { block:=0,void:=true })) c y∧(z.live c→c.block < w.heap.size∧(C.w0.heap.size≤c.block∨C.F c.block)):=by
  intro a y han hy
  rw [QO _ _ han] at hy
  by_cases hax:a = x
  ·subst hax
   rw [Qk] at hy;cases hy
   obtain ⟨c,hc,⟨h1,⟨cs,ty,h2,h3,h4⟩,h5⟩,hl⟩:=h.ob _ _ ho
   refine ⟨_,c,ho,hc,Iff.rfl,⟨h1,⟨cs,ty,h2,by simpa using h3,fun j hj hj'=>?_⟩,h5⟩,hl⟩
   have hj2:j < cells.length:=by simpa using hj
   have h6:=h4 j hj2 hj'
   refine ⟨?_,h6.2⟩
   by_cases hji:j = i
   ·subst hji
    rw [bf]
    have h7:cells[j] = .sc (.slice none 0 0):=by grind
    have h8:=h6.1
    rw [h7] at h8
    generalize cs[j] = v at h8
    cases h8
    exact .hd (Qk _ _ _) (by simp [Hdr])
   ·rw [ZZ (fun e=>hji e.symm)]
    exact h6.1.mono (fun _ _ _=>rfl) (fun _ _ h=>h) hmu
  ·rw [QO _ _ hax] at hy
   obtain ⟨c,hc,hok,hl⟩:=h.ob a y hy
   exact ⟨y,c,hy,hc,Iff.rfl,hok.mono (fun _ _ _=>rfl) (fun _ _ h=>h) hmu (fun _=>rfl) (fun _ _ h=>h),hl⟩
 refine ⟨fun a y hy=>?_,fun a b y z c d hab hy hz hc hd lc ld=>?_,h.zlt,h.grow,h.frame,h.zsub,h.zsup,h.zkeep,fun k hk=>?_,h.oo⟩
 ·by_cases han:a = n
  ·subst han
   rw [Qk] at hy;cases hy
   exact ⟨_,Qk _ _ _,⟨rfl,fun hv=>by cases hv⟩,fun hl=>by cases hl⟩
  ·obtain ⟨z,c,h1,h2,h3,h4,h5⟩:=old a y han hy
   exact ⟨c,hmu a c h2,h4,fun hl=>h5 (h3.1 hl)⟩
 ·by_cases han:a = n
  ·subst han
   rw [Qk] at hy hc;cases hy;cases hc;cases lc
  by_cases hbn:b = n
  ·subst hbn
   rw [Qk] at hz hd;cases hz;cases hd;cases ld
  obtain ⟨y',c',h1,h2,h3,_⟩:=old a y han hy
  obtain ⟨z',d',g1,g2,g3,_⟩:=old b z hbn hz
  have e1:=hmu a c' h2;rw [hc] at e1;cases e1
  have e2:=hmu b d' g2;rw [hd] at e2;cases e2
  exact h.sep a b y' z' c d hab h1 g1 h2 g2 (h3.1 lc) (g3.1 ld)
 ·rw [QO _ _ (by omega)];exact h.fix k hk
section
variable {C:Ctx} {nt:Nat} {s:St} {K:St→Prop} {E:Nat→St→Prop} {R:St→Prop}
theorem amz {c:AC} (x i sz:Nat) {wr:Bool} {cells:List V} (ho:s.o x = some (.box wr cells)) (hi:cells[i]? = some (.sc (.slice none 0 0)))
  (h:AWp C nt c { t:=s.t,o:=upd (upd s.o x (some (.box wr (cells.set i (.hd s.n 0 0))))) s.n (some (.buf true sz [])),n:=s.n + 1 } K E R):AWp C nt c s K E R:=by
 intro code hc a w hs
 obtain ⟨Z,μ,hg,ht,hf,hm,hd,hn⟩:=hs
 refine h code hc a w ⟨Z,_,hg.adopt ho hi (hf _ (zj _)) hm,fun j=>(ht j).mono (fun _ _ _=>rfl) (fun _ _ h=>h) (yF (hf _ (zj _))),fun y hy=>?_,by grind,hd,hn⟩
 grind [QO]
end
end Av
end
section
namespace Av
open Go
theorem Good.move {C:Ctx} {w:World} {Z:Nat→Nat→Prop} {μ:Nat→Option Cn} {o:Nat→Option Ob} (h:Good C w Z μ o) {x i a n off len sz:Nat} {wr wr2:Bool} {cells xs:List V} {c:Cn}
  (ho:o x = some (.box wr cells)) (hi:cells[i]? = some (.hd a off len)) (ha:o a = some (.buf wr2 sz xs)) (hc:μ a = some c) (hn:μ n = none) (hm:C.m≤n) :
  Good C w Z (upd μ n (some c)) (upd (upd (upd o a (some .dead)) x (some (.box wr (cells.set i (.hd n off len))))) n (some (.buf wr2 sz xs))):=by
 have hon:=h.free hn
 have hxn:x≠n:=by grind
 have han:a≠n:=by grind
 have hxa:x≠a:=by grind
 have hmu:=yF (c:=c) hn
 have old:∀ b y,upd (upd (upd o a (some .dead)) x (some (.box wr (cells.set i (.hd n off len))))) n (some (.buf wr2 sz xs)) b = some y →
   (b = a∧y = .dead)∨∃ z d,o (if b = n then a else b) = some z∧μ (if b = n then a else b) = some d∧upd μ n (some c) b = some d∧(y.live d↔z.live d)∧vY w Z (upd μ n (some c)) d y∧(z.live d→d.block < w.heap.size∧(C.w0.heap.size≤d.block∨C.F d.block))∧(b≠a):=by
  intro b y hy
  by_cases hbn:b = n
  ·subst hbn
   rw [Qk] at hy;cases hy
   obtain ⟨d,hd,hok,hl⟩:=h.ob _ _ ha
   rw [hc] at hd;cases hd
   exact .inr ⟨_,c,by grind,by grind,Qk _ _ _,Iff.rfl,hok.mono (fun _ _ _=>rfl) (fun _ _ h=>h) hmu (fun _=>rfl) (fun _ _ h=>h),hl,fun e=>han e.symm⟩
  ·rw [QO _ _ hbn] at hy
   rw [if_neg hbn,QO _ _ hbn]
   by_cases hbx:b = x
   ·subst hbx
    rw [Qk] at hy;cases hy
    obtain ⟨d,hd,⟨h1,⟨cs,ty,h2,h3,h4⟩,h5⟩,hl⟩:=h.ob _ _ ho
    refine .inr ⟨_,d,ho,hd,hd,Iff.rfl,⟨h1,⟨cs,ty,h2,by simpa using h3,fun j hj hj'=>?_⟩,h5⟩,hl,hxa⟩
    have hj2:j < cells.length:=by simpa using hj
    have h6:=h4 j hj2 hj'
    refine ⟨?_,h6.2⟩
    by_cases hji:j = i
    ·subst hji
     rw [bf]
     have h7:cells[j] = .hd a off len:=by grind
     have h8:=h6.1
     rw [h7] at h8
     generalize cs[j] = v at h8
     cases h8
     rename_i c' hc' hv
     rw [hc] at hc';cases hc'
     exact .hd (Qk _ _ _) hv
    ·rw [ZZ (fun e=>hji e.symm)]
     exact h6.1.mono (fun _ _ _=>rfl) (fun _ _ h=>h) hmu
   ·rw [QO _ _ hbx] at hy
    by_cases hba:b = a
    ·grind [Qk]
    ·rw [QO _ _ hba] at hy
     obtain ⟨d,hd,hok,hl⟩:=h.ob b y hy
     exact .inr ⟨y,d,hy,hd,hd,Iff.rfl,hok.mono (fun _ _ _=>rfl) (fun _ _ h=>h) hmu (fun _=>rfl) (fun _ _ h=>h),hl,hba⟩
 refine ⟨fun b y hy=>?_,fun b d y z e f hbd hy hz he hf lb ld=>?_,h.zlt,h.grow,h.frame,h.zsub,h.zsup,h.zkeep,fun k hk=>?_,h.oo⟩
 ·rcases old b y hy with ⟨rfl,rfl⟩|⟨z,d,h1,h2,h3,h4,h5,h6,_⟩
  ·exact ⟨c,hmu _ _ hc,trivial,fun hl=>hl.elim⟩
  grind
 ·rcases old b y hy with ⟨rfl,rfl⟩|⟨y',e',h1,h2,h3,h4,_,_,h7⟩
  ·exact lb.elim
  ·rcases old d z hz with ⟨rfl,rfl⟩|⟨z',f',g1,g2,g3,g4,_,_,g7⟩
   ·exact ld.elim
   ·rw [he] at h3;cases h3
    rw [hf] at g3;cases g3
    refine h.sep _ _ y' z' _ _ ?_ h1 g1 h2 g2 (h4.1 lb) (g4.1 ld)
    grind
 ·rw [QO _ _ (by omega)];exact h.fix k hk
section
variable {C:Ctx} {nt:Nat} {s:St} {K:St→Prop} {E:Nat→St→Prop} {R:St→Prop}
theorem ao7 {c:AC} (x i a:Nat) {off len sz:Nat} {wr wr2:Bool} {cells xs:List V} (ho:s.o x = some (.box wr cells)) (hi:cells[i]? = some (.hd a off len)) (ha:s.o a = some (.buf wr2 sz xs))
  (h:AWp C nt c { t:=s.t,o:=upd (upd (upd s.o a (some .dead)) x (some (.box wr (cells.set i (.hd s.n off len))))) s.n (some (.buf wr2 sz xs)),n:=s.n + 1 } K E R):AWp C nt c s K E R:=by
 intro code hc u w hs
 obtain ⟨Z,μ,hg,ht,hf,hm,hd,hn⟩:=hs
 obtain ⟨d,hmu,_⟩:=hg.ob _ _ ha
 refine h code hc u w ⟨Z,_,hg.move ho hi ha hmu (hf _ (zj _)) hm,fun j=>(ht j).mono (fun _ _ _=>rfl) (fun _ _ h=>h) (yF (hf _ (zj _))),fun y hy=>?_,by grind,hd,hn⟩
 grind [QO]
end
def aw3 (i j:Nat) (xs ys:List V):Ob:=.box true [.hd i 0 xs.length,.hd j 0 ys.length]
structure EvT (Γ:Env) (f:FuncId) (args:List V) (sx sy:Nat) (xs ys:List V) (res:V) (xs2 ys2:List V):Prop where
 ev:Ev Γ f (.ptr 0 0 :: args) [aw3 1 2 xs ys,.buf true sx xs,.buf true sy ys] res [aw3 3 4 xs2 ys2,.dead,.dead,.buf true sx xs2,.buf true sy ys2]
 cl:res.closed
theorem ayP {Γ:Env} {b:Nat} {r:List AO} {s:St} {d:Option Nat} {f:FuncId} {acts:List V} {res:V} {K:St→Prop} {a p q sx sy n m:Nat} {xs ys xs2 ys2:List V}
  (ha:s.o a = some (.box true [.hd p 0 n,.hd q 0 m])) (hp:s.o p = some (.buf true sx xs)) (hq:s.o q = some (.buf true sy ys))
  (h:EvT Γ f (Yj s.o acts) sx sy xs ys res xs2 ys2) (hn:n = xs.length) (hm:m = ys.length) (hc:Qw s.o (some []) acts) (h1:a≠p) (h2:a≠q) (h3:p≠q) (hab:a < b) (hpb:p < b) (hqb:q < b)
  (hk:WC Γ (b + KK) r { t:=(s.put d res).t,o:=upd (upd (upd (upd (upd s.o (b + 1) (some (.buf true sy ys2))) b (some (.buf true sx xs2))) q (some .dead)) p (some .dead)) a (some (.box true [.hd b 0 xs2.length,.hd (b + 1) 0 ys2.length])),n:=s.n } K):awC Γ b r s d f (.ptr a 0 :: acts) K:=by
 subst hn;subst hm
 refine Jj ⟨_,_,_,_,[a,p,q],some [],h.ev,⟨?_,by grind [JM]⟩,⟨⟨_,ha,?_⟩,⟨_,hp,rfl,rfl⟩,⟨_,hq,rfl,rfl⟩,trivial⟩,by simp [h1,h2,h3],?_,by simp,by simp [KK],fun h=>by simp at h,?_⟩
 ·simp [conv]
 ·show QR _ _ _ _ _
  simp [QR,conv]
 ·grind
 ·rw [J6 _ _ h.cl]
  simp only [YE,Yf,Ob.ren,aw3,Ks,V.ren,sig,ans]
  exact hk
theorem au7 {Γ:Env} {b:Nat} {r:List AO} {s:St} {d:Option Nat} {f:FuncId} {x:V} {acts args:List V} {okf:Option (List Nat)→Prop} {res:V} {K:St→Prop} {a p q sx sy n m:Nat} {xs ys xs2 ys2:List V}
  (ha:s.o a = some (.box true [.hd p 0 n,.hd q 0 m])) (hp:s.o p = some (.buf true sx xs)) (hq:s.o q = some (.buf true sy ys)) (h:EvT Γ f args sx sy xs ys res xs2 ys2)
  (hd:(decide (a≠p∧a≠q∧p≠q∧a < b∧p < b∧q < b)) = true) (hn:n = xs.length) (hm:m = ys.length) (hc:Qw s.o (some []) acts)
  (hk:WC Γ (b + KK) r { t:=(s.put d res).t,o:=upd (upd (upd (upd (upd s.o (b + 1) (some (.buf true sy ys2))) b (some (.buf true sx xs2))) q (some .dead)) p (some .dead)) a (some (.box true [.hd b 0 xs2.length,.hd (b + 1) 0 ys2.length])),n:=s.n } K):aet Γ b r s d f (.ptr a 0 :: acts) (x :: args) okf K:=by
 intro h1 _
 simp only [Yj,km] at h1
 obtain ⟨_,rfl⟩:=h1
 obtain ⟨e1,e2,e3,e4,e5,e6⟩:=zL hd
 grind [ayP]
theorem aif {Γ:Env} {f:FuncId} {nt:Nat} {ac:AC} {rs:List Uh} (hb:Has Γ.P f nt ac rs) {args xs ys xs2 ys2:List V} {sx sy:Nat} {res:V} (ha:args.length + 1≤nt) (hr:res.closed)
  (h:∀ C:Ctx,C.env = Γ→C.m = 3→AWp C nt ac { t:=(Yt (.ptr 0 0 :: args) []).t,o:=adF [(0,.box true [.hd 3 0 xs.length,.hd 4 0 ys.length]),(1,.dead),(2,.dead),(3,.buf true sx xs),(4,.buf true sy ys)],n:=5 }
    (K1 3 rs res [aw3 3 4 xs2 ys2,.dead,.dead,.buf true sx xs2,.buf true sy ys2]) (fun _ _=>False) (K1 3 rs res [aw3 3 4 xs2 ys2,.dead,.dead,.buf true sx xs2,.buf true sy ys2])):EvT Γ f args sx sy xs ys res xs2 ys2:=by
 refine ⟨Q8 hb (by simpa using ha) fun C hC hm=>?_,hr⟩
 refine ao7 0 0 1 (by rfl) (by rfl) (by rfl) ?_
 refine ao7 0 1 2 (by rfl) (by rfl) (by rfl) ?_
 have e:=h C hC hm
 refine (congrArg (fun s=>AWp C nt ac s _ _ _) ?_).mp e
 congr 1
 funext k
 match k with
 | 0=>rfl
 | 1=>rfl
 | 2=>rfl
 | 3=>rfl
 | 4=>rfl
 | k + 5=>simp [upd,adF,Yt]
theorem aep {rs:List Uh} {res:V} {s:St} {xs ys xs' ys':List V} {sx sy:Nat} (i j n m:Nat) (vs:List V) (h:xu s rs = some vs) (hc:conv s.o [0,1,2,i,j] none (adm vs) res)
  (h0:s.o 0 = some (.box true [.hd i 0 n,.hd j 0 m])) (hi:s.o i = some (.buf true sx xs')) (hj:s.o j = some (.buf true sy ys'))
  (hi3:3≤i) (hj3:3≤j) (hij:i≠j) (h1:∃ x,s.o 1 = some x) (h2:∃ x,s.o 2 = some x) (hx:xs' = xs) (hy:ys' = ys) (hn:n = xs.length) (hm:m = ys.length):K1 3 rs res [aw3 3 4 xs ys,.dead,.dead,.buf true sx xs,.buf true sy ys] s:=by
 subst hn;subst hm;subst hx;subst hy
 obtain ⟨x1,e1⟩:=h1
 obtain ⟨x2,e2⟩:=h2
 refine Yw rs vs _ h ⟨[0,1,2,i,j],none,hc,⟨⟨_,h0,fun h=>h,?_⟩,⟨_,e1,?_⟩,⟨_,e2,?_⟩,⟨_,hi,fun h=>h,rfl,rfl⟩,⟨_,hj,fun h=>h,rfl,rfl⟩,trivial⟩,?_,rfl⟩
 ·simp [QR,conv]
 ·simp [atd]
 ·simp [atd]
 ·simp;omega
end Av
end
section
namespace Av
open Go
structure EvL (Γ:Env) (f:FuncId) (args:List V) (sz:Nat) (xs:List V) (res:V) (ys:List V):Prop where
 ev:Ev Γ f (.hd 0 0 xs.length :: args) [.buf true sz xs] res [.buf true sz ys]
 cl:res.closed
theorem ayU {Γ:Env} {b:Nat} {r:List AO} {s:St} {d:Option Nat} {f:FuncId} {acts:List V} {res:V} {K:St→Prop} {a sz n:Nat} {xs ys:List V}
  (ha:s.o a = some (.buf true sz xs)) (h:EvL Γ f (Yj s.o acts) sz xs res ys) (hn:n = xs.length) (hc:Qw s.o (some []) acts) (hab:a < b)
  (hk:WC Γ (b + KK) r { t:=(s.put d res).t,o:=upd s.o a (some (.buf true sz ys)),n:=s.n } K):awC Γ b r s d f (.hd a 0 n :: acts) K:=by
 subst hn
 refine Jj ⟨_,_,_,_,[a],some [],h.ev,⟨?_,by grind [JM]⟩,⟨⟨_,ha,rfl,rfl⟩,trivial⟩,by simp,?_,by simp,by simp [KK],fun h=>by simp at h,?_⟩
 ·simp [conv]
 ·grind
 ·rw [J6 _ _ h.cl]
  simp only [YE,Yf,Ob.ren,ans]
  exact hk
theorem aaZ {Γ:Env} {b:Nat} {r:List AO} {s:St} {d:Option Nat} {f:FuncId} {x:V} {acts args:List V} {okf:Option (List Nat)→Prop} {res:V} {K:St→Prop} {a sz n:Nat} {xs ys:List V}
  (ha:s.o a = some (.buf true sz xs)) (h:EvL Γ f args sz xs res ys) (hab:decide (a < b) = true) (hn:n = xs.length) (hc:Qw s.o (some []) acts)
  (hk:WC Γ (b + KK) r { t:=(s.put d res).t,o:=upd s.o a (some (.buf true sz ys)),n:=s.n } K):aet Γ b r s d f (.hd a 0 n :: acts) (x :: args) okf K:=by
 intro h1 _
 simp only [Yj,km] at h1
 obtain ⟨_,rfl⟩:=h1
 exact ayU ha h hn hc (zL hab) hk
theorem je {Γ:Env} {f:FuncId} {nt:Nat} {ac:AC} {rs:List Uh} (hb:Has Γ.P f nt ac rs) {args xs ys:List V} {sz:Nat} {res:V} (ha:args.length + 1≤nt) (hr:res.closed)
  (h:∀ C:Ctx,C.env = Γ→C.m = 1→AWp C nt ac { t:=(Yt (.hd 0 0 xs.length :: args) []).t,o:=adF [(0,.buf true sz xs)],n:=1 } (K1 1 rs res [.buf true sz ys]) (fun _ _=>False) (K1 1 rs res [.buf true sz ys])):EvL Γ f args sz xs res ys:=by
 refine ⟨Q8 hb (by simpa using ha) fun C hC hm=>?_,hr⟩
 refine (congrArg (fun s=>AWp C nt ac s _ _ _) ?_).mp (h C hC hm)
 simp only [Yt]
 congr 1
 funext k
 match k with
 | 0=>rfl
 | k + 1=>simp [adF]
theorem xC {rs:List Uh} {res:V} {s:St} {xs ys:List V} {sz:Nat} (vs:List V) (h:xu s rs = some vs) (ho:s.o 0 = some (.buf true sz xs)) (hc:conv s.o [0] none (adm vs) res) (hx:xs = ys):K1 1 rs res [.buf true sz ys] s:=by
 subst hx
 exact Yw rs vs _ h ⟨[0],none,hc,⟨⟨_,ho,fun h=>h,rfl,rfl⟩,trivial⟩,by simp,rfl⟩
@[go_sem] theorem awr (l:List Int):(∀ y∈l.map V.int,y.cells.length = 1) = True:=eq_true (by intro y hy;simp only [kc] at hy;obtain ⟨x,_,rfl⟩:=hy;rfl)
@[go_sem] theorem awq (l:List (List UInt8)):(∀ y∈l.map V.str,y.cells.length = 1) = True:=eq_true (by intro y hy;simp only [kc] at hy;obtain ⟨x,_,rfl⟩:=hy;rfl)
end Av
end
section
namespace Av
open Go
end Av
end
section
namespace Av
open Go
def LeV (x y:V):Prop:=∀ (w:World) (Z:Nat→Nat→Prop) (μ:Nat→Option Cn) (v:Value),Rep w Z μ v x→Rep w Z μ v y
theorem LeV.refl (x:V):LeV x x:=fun _ _ _ _ h=>h
theorem LeV.nil (sz:Nat):LeV (.sc (.slice none 0 0)) (.sl sz []):=fun _ _ _ _ h=>by cases h;exact .sl0
theorem LeV.agg {xs ys:List V} (hl:xs.length = ys.length) (h:∀ j (h1:j < xs.length) (h2:j < ys.length),LeV xs[j] ys[j]):LeV (.agg xs) (.agg ys):=fun w Z μ v hv=>by
 cases hv with
 | agg h1 h2 h3=>exact .agg (h1.trans hl) h2 fun j hj hj'=>h j (by omega) hj _ _ _ _ (h3 j (by omega) hj')
theorem EvB.le {Γ:Env} {f:FuncId} {args args':List V} {res:V} {B:Option (List Nat)} (h:EvB Γ f args res B) (hl:args'.length = args.length)
  (hr:∀ i (h1:i < args'.length) (h2:i < args.length),LeV args'[i] args[i]):EvB Γ f args' res B :=
 ⟨fun C cargs h1 h2 h3 h4 h5 h6 h7=>h.ev C cargs h1 h2 h3 h4 h5 (h6.trans hl) fun i hi hi'=>hr i (by omega) hi _ _ _ _ (h7 i (by omega) hi'),h.cl,h.sh⟩
theorem EvB.le2 {Γ:Env} {f:FuncId} {x y x' y':V} {res:V} {B:Option (List Nat)} (h:EvB Γ f [x,y] res B) (h1:LeV x' x) (h2:LeV y' y):EvB Γ f [x',y'] res B :=
 h.le rfl fun i hi hi'=>by
  match i,hi with
  | 0,_=>exact h1
  | 1,_=>exact h2
section
variable {Γ:Env} {A W:Nat→Bool} {b:Nat} {s:St} {d:Option Nat} {f:FuncId} {acts:List V} {res:V} {J:St→Prop} {cs cs2:List V} {a:Nat}
theorem ax1 (l:List Nat) (hA:A a = true) (hW:W a = true) (ha:s.o a = some (.box true cs)) (h:EvD Γ f (Yj (Yd A s.o) acts) cs res cs2) (hc:Qw (Yd A s.o) (some l) acts) (hal:a ∉ l) (hl:∀ x∈l,A x = true∧W x = true) (hab:a < b)
  (hk:J { t:=(s.put d res).t,o:=upd (wV (some l) [a] s.o) a (some (.box true cs2)),n:=s.n }):Jk Γ A W b s d f (.ptr a 0 :: acts) J:=by
 have hra:Yd A s.o a = some (.box true cs):=by rw [vJ,if_pos hA,ha]
 refine ⟨_,_,_,_,[a],some l,h.ev,⟨?_,JM _ [a] l ?_ acts hc⟩,⟨⟨_,hra,Qn _ _ _ _ h.c1⟩,trivial⟩,by simp,by grind,zj _,by simp [KK],fun h=>by simp at h,by grind,?_⟩
 ·simp [conv]
 ·grind
 ·rw [J6 _ _ h.cl]
  simp only [YE,Yf,Ob.ren,Qy _ _ h.c2]
  exact hk
theorem U4 {x:V} {args:List V} {okf:Option (List Nat)→Prop} (ha:s.o a = some (.box true cs)) (hA:A a = true) (hW:W a = true) (h:EvD Γ f args cs res cs2) (hal:(QI acts).contains a = false) (hab:decide (a < b) = true) (hl:((QI acts).all fun x=>A x && W x) = true) (hc:Qw (Yd A s.o) (some (QI acts)) acts)
  (hk:J { t:=(s.put d res).t,o:=upd (wV (some (QI acts)) [a] s.o) a (some (.box true cs2)),n:=s.n }):ai4 Γ A W b s d f (.ptr a 0 :: acts) (x :: args) okf J:=by
 intro h1 _
 simp only [Yj,km] at h1
 obtain ⟨_,rfl⟩:=h1
 exact ax1 _ hA hW ha h hc (by simpa using hal) (fun x hx=>by simpa using kN.1 hl x hx) (zL hab) hk
end
end Av
end
section
namespace Av
open Go
structure EvM (Γ:Env) (f g:FuncId) (cs:List V) (res:V) (cs2:List V):Prop where
 ev:Ev Γ f [.clo (.m g) [.ptr 0 0]] [.box true cs] res [.box true cs2]
 cl:res.closed
 c1:Qb cs
 c2:Qb cs2
structure EvQ (Γ:Env) (f:FuncId) (x:V) (off:Nat) (g:FuncId) (cs ds:List V) (res:V) (cs2 ds2:List V):Prop where
 ev:Ev Γ f [.ptr 0 0,x,.ptr 1 off,.clo (.n g) []] [.box true cs,.box true ds] res [.box true cs2,.box true ds2]
 cl:res.closed
 hx:x.closed
 c1:Qb cs
 d1:Qb ds
 c2:Qb cs2
 d2:Qb ds2
section
variable {Γ:Env} {b:Nat} {r:List AO} {s:St} {d:Option Nat} {f g:FuncId} {acts args:List V} {okf:Option (List Nat)→Prop} {res x:V} {K:St→Prop} {cs cs2 ds ds2:List V} {a e off:Nat}
theorem ayT (ha:s.o a = some (.box true cs)) (h:EvM Γ f g cs res cs2) (hab:a < b)
  (hk:WC Γ (b + KK) r { t:=(s.put d res).t,o:=upd s.o a (some (.box true cs2)),n:=s.n } K):awC Γ b r s d f [.clo (.m g) [.ptr a 0]] K:=by
 refine Jj ⟨_,_,_,_,[a],some [],h.ev,⟨?_,trivial⟩,⟨⟨_,ha,Qn _ _ _ _ h.c1⟩,trivial⟩,by simp,by simpa using hab,zj _,by simp [KK],fun h=>by simp at h,?_⟩
 ·simp [conv,QR]
 ·rw [J6 _ _ h.cl]
  simp only [YE,Yf,Ob.ren,Qy _ _ h.c2,ans]
  exact hk
theorem ava (ha:s.o a = some (.box true cs)) (h:EvM Γ f g cs res cs2) (hab:decide (a < b) = true)
  (hk:WC Γ (b + KK) r { t:=(s.put d res).t,o:=upd s.o a (some (.box true cs2)),n:=s.n } K):aet Γ b r s d f [.clo (.m g) [.ptr a 0]] args okf K :=
 fun _ _=>ayT ha h (zL hab) hk
theorem ayR (ha:s.o a = some (.box true cs)) (he:s.o e = some (.box true ds)) (h:EvQ Γ f x off g cs ds res cs2 ds2) (hae:a≠e) (hab:a < b) (heb:e < b)
  (hk:WC Γ (b + KK) r { t:=(s.put d res).t,o:=upd (upd s.o e (some (.box true ds2))) a (some (.box true cs2)),n:=s.n } K):awC Γ b r s d f [.ptr a 0,x,.ptr e off,.clo (.n g) []] K:=by
 refine Jj ⟨_,_,_,_,[a,e],some [],h.ev,⟨?_,xE _ _ _ _ h.hx,?_,?_,trivial⟩,⟨⟨_,ha,Qn _ _ _ _ h.c1⟩,⟨_,he,Qn _ _ _ _ h.d1⟩,trivial⟩,by simpa using hae,?_,zj _,by simp [KK],fun h=>by simp at h,?_⟩
 ·simp [conv]
 ·simp [conv]
 ·simp [conv,QR]
 ·grind
 ·rw [J6 _ _ h.cl]
  simp only [YE,Yf,Ob.ren,Qy _ _ h.c2,Qy _ _ h.d2,ans]
  exact hk
theorem au8 (ha:s.o a = some (.box true cs)) (he:s.o e = some (.box true ds)) (h:EvQ Γ f x off g cs ds res cs2 ds2) (hd:decide (a≠e∧a < b∧e < b) = true)
  (hk:WC Γ (b + KK) r { t:=(s.put d res).t,o:=upd (upd s.o e (some (.box true ds2))) a (some (.box true cs2)),n:=s.n } K):aet Γ b r s d f [.ptr a 0,x,.ptr e off,.clo (.n g) []] args okf K :=
 fun _ _=>by obtain ⟨e1,e2,e3⟩:=zL hd;grind [ayR]
theorem aig {nt:Nat} {ac:AC} {rs:List Uh} (hb:Has Γ.P f nt ac rs) (ha:1≤nt) (hr:res.closed) (h1:Qb cs) (h2:Qb cs2)
  (h:∀ C:Ctx,C.env = Γ→C.m = 1→AWp C nt ac (Yt [.clo (.m g) [.ptr 0 0]] [.box true cs]) (K1 1 rs res [.box true cs2]) (fun _ _=>False) (K1 1 rs res [.box true cs2])):EvM Γ f g cs res cs2 :=
 ⟨by grind [Q8],hr,h1,h2⟩
theorem anC {nt:Nat} {ac:AC} {rs:List Uh} (hb:Has Γ.P f nt ac rs) (ha:4≤nt) (hr:res.closed) (hx:x.closed) (h1:Qb cs) (h2:Qb ds) (h3:Qb cs2) (h4:Qb ds2)
  (h:∀ C:Ctx,C.env = Γ→C.m = 2→AWp C nt ac (Yt [.ptr 0 0,x,.ptr 1 off,.clo (.n g) []] [.box true cs,.box true ds]) (K1 2 rs res [.box true cs2,.box true ds2]) (fun _ _=>False) (K1 2 rs res [.box true cs2,.box true ds2])):EvQ Γ f x off g cs ds res cs2 ds2 :=
 ⟨by grind [Q8],hr,hx,h1,h2,h3,h4⟩
theorem au3 {rs:List Uh} (vs:List V) (h:xu s rs = some vs) (h0:s.o 0 = some (.box true cs2)) (h1:s.o 1 = some (.box true ds2)) (hc2:Qb cs2) (hd2:Qb ds2) (hc:conv s.o [0,1] none (adm vs) res):K1 2 rs res [.box true cs2,.box true ds2] s :=
 Yw rs vs _ h ⟨[0,1],none,hc,⟨⟨_,h0,fun h=>h,Qn _ _ _ _ hc2⟩,⟨_,h1,fun h=>h,Qn _ _ _ _ hd2⟩,trivial⟩,by simp,rfl⟩
end
section
variable {Γ:Env} {b:Nat} {r:List AO} {s:St} {d:Option Nat} {f:FuncId} {acts args:List V} {okf:Option (List Nat)→Prop} {res:V} {K:St→Prop} {xs ys:List V} {a p n sz:Nat}
end
end Av
end
section
namespace Av
open Go
abbrev af5:V:=.sc (.slice none 0 0)
section
variable {Γ:Env} {A W:Nat→Bool} {b:Nat} {r:List AO} {s:St} {d:Option Nat} {f:FuncId} {args:List V} {okf:Option (List Nat)→Prop} {J K:St→Prop} {a p n:Nat} {l t:List UInt8}
end
end Av
end
section
namespace Av
open Go
theorem Ev.shut {Γ:Env} {f:FuncId} {args:List V} {ins:List Ob} {res res2:V} {outs outs2:List Ob} {br:List Nat} {B:Option (List Nat)} (h:Ev Γ f args ins res outs)
  (hc:conv (fun k=>outs[k]?) br B res res2) (hl:auI (fun k=>outs[k]?) br B br outs2) (hn:br.Nodup) (hf:br.take ins.length = List.range ins.length):Ev Γ f args ins res2 outs2:=by
 intro C cargs hP hm hmu hg hF hsz hrep
 refine (h C cargs hP hm hmu hg hF hsz hrep).mono ?_
 rintro e w' ⟨v,Z',μ',rfl,hr,hg',hmu'⟩
 obtain ⟨g2,h2,_⟩:=hg'.close hn hl (by rw [hm];exact hf)
 exact ⟨v,_,_,rfl,jM hg' br B _ _ _ _ (zj _) hr hc,g2,h2⟩
structure EvO (Γ:Env) (f:FuncId) (args cs:List V) (s1 s2:Nat) (xs ys cs2:List V):Prop where
 ev:Ev Γ f (.ptr 0 0 :: args) [.box true cs] (.agg [.hd 1 0 xs.length,.hd 2 0 ys.length]) [.box true cs2,.buf true s1 xs,.buf true s2 ys]
 c1:Qb cs
 c2:Qb cs2
 ca:Qb args
theorem EvO.d {Γ:Env} {f:FuncId} {args cs:List V} {s1 s2:Nat} {xs ys cs2:List V} (h:EvO Γ f args cs s1 s2 xs ys cs2):EvD Γ f args cs (.agg [.sl s1 xs,.sl s2 ys]) cs2:=by
 refine ⟨h.ev.shut (br:=[0]) (B:=none) ?_ ⟨⟨_,rfl,fun h=>h,Qn _ _ _ _ h.c2⟩,trivial⟩ (by simp) rfl,?_,h.c1,h.c2⟩
 ·simp [conv,QR,okB]
 ·simp only [V.closed,Qb,and_self]
section
variable {Γ:Env} {b:Nat} {r:List AO} {s:St} {d:Option Nat} {f:FuncId} {args acts:List V} {cs cs2 xs ys:List V} {s1 s2:Nat} {K:St→Prop} {okf:Option (List Nat)→Prop} {a:Nat}
theorem au9 (ha:s.o a = some (.box true cs)) (h:EvO Γ f [] cs s1 s2 xs ys cs2) (hab:decide (a < b) = true)
  (hk:WC Γ (b + KK) r { t:=(s.put d (.agg [.hd b 0 xs.length,.hd (b + 1) 0 ys.length])).t,o:=upd (upd (upd s.o (b + 1) (some (.buf true s2 ys))) b (some (.buf true s1 xs))) a (some (.box true cs2)),n:=s.n } K):aet Γ b r s d f [.ptr a 0] args okf K:=fun _ _=>by
 refine Jj ⟨_,_,_,_,[a],some [],h.ev,⟨by simp [conv],trivial⟩,⟨⟨_,ha,Qn _ _ _ _ h.c1⟩,trivial⟩,by simp,by grind,by simp,by simp [KK],fun h=>by simp at h,?_⟩
 simp only [YE,Yf,Ob.ren,Ks,V.ren,sig,ans,Qy _ _ h.c2]
 exact hk
end
theorem anE {Γ:Env} {f:FuncId} {nt:Nat} {ac:AC} {rs:List Uh} (hb:Has Γ.P f nt ac rs) {args cs cs2 xs ys:List V} {s1 s2:Nat} (hl:args.length + 1≤nt) (h1:Qb cs) (h2:Qb cs2) (hc:Qb args)
  (h:∀ C:Ctx,C.env = Γ→C.m = 1→AWp C nt ac (Yt (.ptr 0 0 :: args) [.box true cs]) (K1 1 rs (.agg [.hd 1 0 xs.length,.hd 2 0 ys.length]) [.box true cs2,.buf true s1 xs,.buf true s2 ys]) (fun _ _=>False) (K1 1 rs (.agg [.hd 1 0 xs.length,.hd 2 0 ys.length]) [.box true cs2,.buf true s1 xs,.buf true s2 ys])):EvO Γ f args cs s1 s2 xs ys cs2 :=
 ⟨by grind [Q8],h1,h2,hc⟩
theorem axC {rs:List Uh} {s:St} {cs2 xs ys:List V} {s1 s2:Nat} (i j:Nat) (vs:List V) {n m:Nat} (h:xu s rs = some vs) (hv:adm vs = .agg [.hd i 0 n,.hd j 0 m]) (h0:s.o 0 = some (.box true cs2)) (hi:s.o i = some (.buf true s1 xs)) (hj:s.o j = some (.buf true s2 ys))
  (hij:decide (1≤i∧1≤j∧i≠j) = true) (h2:Qb cs2) (hn:n = xs.length) (hm:m = ys.length):K1 1 rs (.agg [.hd 1 0 xs.length,.hd 2 0 ys.length]) [.box true cs2,.buf true s1 xs,.buf true s2 ys] s:=by
 subst hn;subst hm
 obtain ⟨e1,e2,e3⟩:=zL hij
 exact Yw rs vs _ h ⟨[0,i,j],none,by rw [hv];simp [conv,QR],⟨⟨_,h0,fun h=>h,Qn _ _ _ _ h2⟩,⟨_,hi,fun h=>h,rfl,rfl⟩,⟨_,hj,fun h=>h,rfl,rfl⟩,trivial⟩,by simp;omega,rfl⟩
end Av
end
section
namespace Av
open Go
end Av
end
section
namespace Av
open Go
def ay9 (a:Nat):V→V
 | .ptr _ _=>.ptr a 0
 | v=>v
attribute [go_sem] ay9
section
variable {Γ:Env} {A W:Nat→Bool} {b:Nat} {s:St} {d:Option Nat} {f:FuncId} {acts args:List V} {okf:Option (List Nat)→Prop} {J:St→Prop} {a p n:Nat}
theorem aaE {cs:List V} (h:EvR Γ f args cs) (hl:((QI acts).all fun x=>A x && W x) = true) (hc:Qw (Yd A s.o) (some (QI acts)) acts)
  (hk:J { t:=(s.put d (.ptr b 0)).t,o:=upd (wV (some (QI acts)) [] s.o) b (some (.box true cs)),n:=s.n }):ai4 Γ A W b s d f acts args okf J:=by
 rintro rfl _
 refine ⟨_,_,_,_,[],some (QI acts),h.ev,YF _ _ _ hc,trivial,kw,by grind,by simp,by simp [KK],fun h=>by simp at h,by grind,?_⟩
 simp only [YE,Yf,Ob.ren,Qy _ _ h.c1]
 exact hk
end
section
variable {Γ:Env} {A W:Nat→Bool} {b:Nat} {r:List AO} {s:St} {d:Option Nat} {f:FuncId} {acts args:List V} {okf:Option (List Nat)→Prop} {J K:St→Prop} {sx:Nat} {xs:List V}
end
theorem ab7 {C:Ctx} {nt:Nat} {s:St} {K:St→Prop} {E:Nat→St→Prop} {R:St→Prop} {ks:List Nat} {x:AC} (h:AWp C nt x s (fun _=>False) E R):AWp C nt (arM ks x) s K E R :=
 ao8 (fun k s'=>k = 0∧s' = s) ⟨0,rfl,rfl⟩ (by grind)
end Av
end
section
namespace Av
open Go
def leL:List V→List V→Prop
 | [],[]=>True
 | x :: r,y :: r'=>LeV x y∧leL r r'
 | _,_=>False
def leC:List V→List V→Prop
 | [],[]=>True
 | x :: r,y :: r'=>leL x.cells y.cells∧leC r r'
 | _,_=>False
theorem akn:∀ {xs ys:List V},leL xs ys→xs.length = ys.length∧∀ i (h:i < xs.length) (h':i < ys.length),LeV xs[i] ys[i]
 | [],[],_=>by grind
 | x :: r,y :: r',h=>by
   obtain ⟨h1,h2⟩:=akn h.2
   refine ⟨by simp [h1],fun i hi hi'=>?_⟩
   cases i with
   | zero=>exact h.1
   | succ i=>grind
theorem arQ:∀ {xs ys:List V},leC xs ys→xs.length = ys.length∧∀ i (h:i < xs.length) (h':i < ys.length),leL xs[i].cells ys[i].cells
 | [],[],_=>by grind
 | x :: r,y :: r',h=>by
   obtain ⟨h1,h2⟩:=arQ h.2
   refine ⟨by simp [h1],fun i hi hi'=>?_⟩
   cases i with
   | zero=>exact h.1
   | succ i=>grind
theorem akm:∀ xs:List V,leL xs xs
 | []=>trivial
 | x :: r=>⟨LeV.refl x,akm r⟩
theorem aox:∀ xs:List V,leC xs xs
 | []=>trivial
 | x :: r=>⟨akm _,aox r⟩
theorem BOk.le {w:World} {Z:Nat→Nat→Prop} {ν:Nat→Option Cn} {c:Cn} {wr:Bool} {sz:Nat} {xs ys:List V} (h:BOk w Z ν c wr sz xs) (hl:leC xs ys):BOk w Z ν c wr sz ys:=by
 obtain ⟨l1,l2⟩:=arQ hl
 refine ⟨by rw [← l1];exact h.1,fun hv=>?_⟩
 obtain ⟨h0,h1,h2,h3,h4,cs,ty,fr,hh,h5,h6,h7⟩:=h.2 hv
 refine ⟨h0,h1,h2,h3,fun i hi=>?_,cs,ty,fr,hh,h5,h6,fun i hi j hj=>?_⟩
 ·grind [akn]
 ·obtain ⟨m1,m2⟩:=akn (l2 i (by omega) hi)
  obtain ⟨v,e1,e2,e3⟩:=h7 i (by omega) j (by omega)
  exact ⟨v,e1,e2,m2 j (by omega) hj _ _ _ _ e3⟩
section
variable {C:Ctx} {nt n:Nat} {s:St} {K:St→Prop} {E:Nat→St→Prop} {R:St→Prop}
end
def LeO:Ob→Ob→Prop
 | .buf wr s xs,.buf wr' s' ys=>wr = wr'∧s = s'∧leC xs ys
 | .obuf wr s xs,.obuf wr' s' ys=>wr = wr'∧s = s'∧leC xs ys
 | .box wr xs,.box wr' ys=>wr = wr'∧leL xs ys
 | x,y=>x = y
theorem LeO.refl (x:Ob):LeO x x:=by
 cases x<;>first|exact rfl|exact ⟨rfl,rfl,aox _⟩|exact ⟨rfl,akm _⟩
theorem LeO.ok {w:World} {Z:Nat→Nat→Prop} {μ:Nat→Option Cn} {c:Cn} {x y:Ob} (h:LeO x y) (hk:vY w Z μ c x):vY w Z μ c y∧(y.live c→x.live c):=by
 cases x<;>cases y<;>first
  | (cases h;done)
  | (cases h;exact ⟨hk,fun h=>h⟩)
  | (obtain ⟨rfl,rfl,hl⟩:=h;exact ⟨BOk.le hk hl,fun h=>h⟩)
  | (obtain ⟨rfl,hl⟩:=h
     obtain ⟨hv,⟨cs,ty,hh,hs,hr⟩,hz⟩:=hk
     obtain ⟨l1,l2⟩:=akn hl
     exact ⟨⟨hv,⟨cs,ty,hh,by omega,fun j h h'=>⟨l2 j (by omega) h _ _ _ _ (hr j (by omega) h').1,(hr j (by omega) h').2⟩⟩,hz⟩,fun h=>h⟩)
structure Le (s s2:St):Prop where
 t:∀ i,LeV (s.t i) (s2.t i)
 o:∀ a y,s2.o a = some y→∃ x,s.o a = some x∧LeO x y
 n:s.n = s2.n
theorem Le.refl (s:St):Le s s:=⟨fun _=>LeV.refl _,by grind [LeO.refl],rfl⟩
theorem Le.trans {s s2 s3:St} (h:Le s s2) (h':Le s2 s3) (hO:∀ x y z,LeO x y→LeO y z→LeO x z):Le s s3 :=
 ⟨fun i w Z μ v hv=>h'.t i _ _ _ _ (h.t i _ _ _ _ hv),fun a y hy=>let ⟨x,h1,h2⟩:=h'.o a y hy;let ⟨z,h3,h4⟩:=h.o a x h1;⟨z,h3,hO _ _ _ h4 h2⟩,h.n.trans h'.n⟩
theorem Le.objs {t:Nat→V} {o o2:Nat→Option Ob} {n:Nat} (h:∀ a y,o2 a = some y→∃ x,o a = some x∧LeO x y):Le { t:=t,o:=o,n:=n } { t:=t,o:=o2,n:=n }:=⟨fun _=>LeV.refl _,h,rfl⟩
theorem Le.upd {t:Nat→V} {o:Nat→Option Ob} {n a:Nat} {x y:Ob} (ho:o a = some x) (h:LeO x y):Le { t:=t,o:=o,n:=n } { t:=t,o:=upd o a (some y),n:=n } :=
 by grind [Le.objs,Qk,QO,LeO.refl]
theorem Sim.le {C:Ctx} {nt n:Nat} {s s2:St} {a:Act} {w:World} (h:Sim C nt n s a w) (hl:Le s s2):Sim C nt n s2 a w:=by
 obtain ⟨Z,μ,hg,ht,hf,hm,hd,hn⟩:=h
 refine ⟨Z,μ,⟨fun b y hb=>?_,fun b d p q e f hbd hp hq he hf lp lq=>?_,hg.zlt,hg.grow,hg.frame,hg.zsub,hg.zsup,hg.zkeep,hg.fix,hg.oo⟩,fun i=>hl.t i _ _ _ _ (ht i),hf,hm,hd,hn⟩
 ·obtain ⟨x,h1,h2⟩:=hl.o b y hb
  obtain ⟨c,hm,hk,hv⟩:=hg.ob b x h1
  obtain ⟨k1,k2⟩:=h2.ok hk
  simp_all
 ·obtain ⟨x,h1,h2⟩:=hl.o b p hp
  obtain ⟨x',h1',h2'⟩:=hl.o d q hq
  obtain ⟨c,hm,hk,_⟩:=hg.ob b x h1
  obtain ⟨c',hm',hk',_⟩:=hg.ob d x' h1'
  have e1:c = e:=by grind
  have e2:c' = f:=by grind
  subst e1;subst e2
  exact hg.sep b d x x' _ _ hbd h1 h1' hm hm' ((h2.ok hk).2 lp) ((h2'.ok hk').2 lq)
section
variable {C:Ctx} {nt:Nat} {s:St} {K:St→Prop} {E:Nat→St→Prop} {R:St→Prop}
end
end Av
end
section
namespace Av
open Go
theorem EvP.shut {Γ:Env} {f:FuncId} {args:List V} {ins:List Ob} {Q Q2:V→List Ob→Prop} (h:EvP Γ f args ins Q)
  (hq:∀ res outs,Q res outs→∃ res2 outs2 br B,Q2 res2 outs2∧conv (fun k=>outs[k]?) br B res res2∧auI (fun k=>outs[k]?) br B br outs2∧br.Nodup∧br.take ins.length = List.range ins.length):EvP Γ f args ins Q2:=by
 intro C cargs hP hm hmu hg hF hsz hrep
 refine (h C cargs hP hm hmu hg hF hsz hrep).mono ?_
 rintro e w' ⟨res,outs,hQ,v,Z',μ',rfl,hr,hg',hmu'⟩
 obtain ⟨res2,outs2,br,B,h2,hc,hl,hn,hf⟩:=hq res outs hQ
 obtain ⟨g2,h3,_⟩:=hg'.close hn hl (by rw [hm];exact hf)
 exact ⟨res2,outs2,h2,v,_,_,rfl,jM hg' br B _ _ _ _ (zj _) hr hc,g2,h3⟩
structure EvK (Γ:Env) (f:FuncId) (args cs:List V) (Q:V→List V→Prop):Prop where
 ev:EvP Γ f (.ptr 0 0 :: args) [.box true cs] (fun r o=>∃ cs2,o = [.box true cs2]∧Q r cs2)
 c1:Qb cs
 cq:∀ r cs2,Q r cs2→r.closed∧Qb cs2
theorem EvD.k {Γ:Env} {f:FuncId} {args cs cs2:List V} {res:V} {Q:V→List V→Prop} (h:EvD Γ f args cs res cs2) (hq:Q res cs2) (hc:∀ r cs2,Q r cs2→r.closed∧Qb cs2):EvK Γ f args cs Q :=
 ⟨h.ev.p.weaken fun r o ⟨h1,h2⟩=>⟨cs2,h2,h1 ▸ hq⟩,h.c1,hc⟩
theorem EvK.weaken {Γ:Env} {f:FuncId} {args cs:List V} {Q Q':V→List V→Prop} (h:EvK Γ f args cs Q) (hq:∀ r c,Q r c→Q' r c) (hc:∀ r cs2,Q' r cs2→r.closed∧Qb cs2):EvK Γ f args cs Q' :=
 ⟨h.ev.weaken fun r o ⟨c,h1,h2⟩=>⟨c,h1,hq _ _ h2⟩,h.c1,hc⟩
section
variable {Γ:Env} {b:Nat} {r:List AO} {s:St} {d:Option Nat} {f:FuncId} {acts cs:List V} {Q:V→List V→Prop} {K:St→Prop} {a:Nat}
end
section
variable {Γ:Env} {b:Nat} {r:List AO} {s:St} {d:Option Nat} {f:FuncId} {acts args cs:List V} {Q:V→List Ob→Prop} {K:St→Prop} {okf:Option (List Nat)→Prop} {a:Nat}
theorem ay2 (ha:s.o a = some (.box true cs)) (h:EvP Γ f [.ptr 0 0] [.box true cs] Q) (hc:Qb cs) (hab:a < b)
  (hk:∀ res outs,Q res outs→1≤outs.length∧outs.length - 1 < KK∧WC Γ (b + KK) r { t:=(s.put d (res.ren (sig [a] b))).t,o:=YE (sig [a] b) b [a] outs s.o,n:=s.n } K):aet Γ b r s d f [.ptr a 0] args okf K:=fun _ _=>by
 refine (show abw Γ b s d f [.ptr a 0] _ from ⟨_,_,_,[a],some [],h,⟨by simp [conv],trivial⟩,⟨⟨_,ha,Qn _ _ _ _ hc⟩,trivial⟩,by simp,by simpa using hab,?_⟩)
 intro res outs hq
 obtain ⟨h1,h2,h3⟩:=hk res outs hq
 refine ⟨h1,h2,fun h=>by simp at h,?_⟩
 rw [ans]
 exact h3
end
section
variable {C:Ctx} {nt:Nat} {s:St} {K:St→Prop} {E:Nat→St→Prop} {R:St→Prop}
end
structure EvZ (Γ:Env) (f:FuncId) (args:List V) (sz:Nat) (xs:List V) (m:Nat) (ys:List V):Prop where
 ev:Ev Γ f (.hd 0 0 xs.length :: args) [.buf true sz xs] (.hd 0 0 m) [.buf true sz ys]
theorem amB {Γ:Env} {b:Nat} {r:List AO} {s:St} {d:Option Nat} {f:FuncId} {x:V} {acts args:List V} {okf:Option (List Nat)→Prop} {K:St→Prop} {a sz n m:Nat} {xs ys:List V}
  (ha:s.o a = some (.buf true sz xs)) (h:EvZ Γ f args sz xs m ys) (hab:decide (a < b) = true) (hn:n = xs.length) (hc:Qw s.o (some []) acts)
  (hk:WC Γ (b + KK) r { t:=(s.put d (.hd a 0 m)).t,o:=upd s.o a (some (.buf true sz ys)),n:=s.n } K):aet Γ b r s d f (.hd a 0 n :: acts) (x :: args) okf K:=by
 intro h1 _
 simp only [Yj,km] at h1
 obtain ⟨_,rfl⟩:=h1
 subst hn
 refine Jj ⟨_,_,_,_,[a],some [],h.ev,⟨?_,by grind [JM]⟩,⟨⟨_,ha,rfl,rfl⟩,trivial⟩,by simp,?_,by simp,by simp [KK],fun h=>by simp at h,?_⟩
 ·simp [conv]
 ·grind
 ·simp only [YE,Yf,Ob.ren,ans,V.ren,sig,List.getElem?_cons_zero,Option.getD_some]
  exact hk
theorem ac3 {Γ:Env} {f:FuncId} {nt:Nat} {ac:AC} {rs:List Uh} (hb:Has Γ.P f nt ac rs) {args xs ys:List V} {sz m:Nat} (ha:args.length + 1≤nt)
  (h:∀ C:Ctx,C.env = Γ→C.m = 1→AWp C nt ac { t:=(Yt (.hd 0 0 xs.length :: args) []).t,o:=adF [(0,.buf true sz xs)],n:=1 } (K1 1 rs (.hd 0 0 m) [.buf true sz ys]) (fun _ _=>False) (K1 1 rs (.hd 0 0 m) [.buf true sz ys])):EvZ Γ f args sz xs m ys:=by
 refine ⟨Q8 hb (by simpa using ha) fun C hC hm=>?_⟩
 refine (congrArg (fun s=>AWp C nt ac s _ _ _) ?_).mp (h C hC hm)
 simp only [Yt]
 congr 1
 funext k
 match k with
 | 0=>rfl
 | k + 1=>simp [adF]
theorem agb {rs:List Uh} {s:St} {xs ys:List V} {sz m n:Nat} (vs:List V) (h:xu s rs = some vs) (ho:s.o 0 = some (.buf true sz xs)) (hc:adm vs = .hd 0 0 n) (hn:n = m) (hx:xs = ys):K1 1 rs (.hd 0 0 m) [.buf true sz ys] s:=by
 subst hx;subst hn
 exact Yw rs vs _ h ⟨[0],none,by rw [hc];simp [conv],⟨⟨_,ho,fun h=>h,rfl,rfl⟩,trivial⟩,by simp,rfl⟩
end Av
end
noncomputable section
set_option maxRecDepth 10000
set_option maxHeartbeats 4000000
namespace Av
open Go
attribute [local irreducible] AWp WC wb aai awS awC aeM awQ afz Jk qV aes awR jj awB okR aaf ris
def auQ (a n:Int):Int:=if n < 1 then 0 else (IntKind.i64.wrap (a.tmod n + n)).tmod n
def ab3:=qd Proofs.Tryz.f22 []
def adk (Γ:Env) (f:Nat):Prop:=∀ (a n:Int),EvN Γ f [V.int a,V.int n] (V.int (auQ a n))
theorem anA {Γ:Env} {f:Nat} (h:Has Γ.P f 14 ab3.1.1.ac ab3.1.2) :adk Γ f:=by
 intro a n
 refine Qc h zsi zcl zcl fun C hC hm=>?_
 subst hC
 simp only [ab3,qd,DC.ac]
 refine zgo ?_;repeat' first|exact zt|apply zan|intro hc
 ·refine Qg _ rfl ?_
  simp only [go_sem]
  simp [auQ,hc]
 ·refine Qg _ rfl ?_
  simp only [go_sem]
  simp [auQ,hc]
def VB (x:Int):Nat→List Int→Int
 | _,[]=>-1
 | k,y :: r=>if x = y then k else VB x (k + 1) r
def YV:=qd Proofs.Tryz.f240 []
def YP (Γ:Env) (f:Nat):Prop:=∀ (l:List Int) (x:Int) (hl:l.length < 2 ^ 62),EvN Γ f [.sl 1 (l.map V.int),V.int x] (V.int (VB x 0 l))
theorem wW {Γ:Env} {f:Nat} (h:Has Γ.P f 19 YV.1.1.ac YV.1.2) :YP Γ f:=by
 intro l x hl
 refine Qc h zsi zcl zcl fun C hC hm=>?_
 subst hC
 simp only [YV,qd,DC.ac]
 refine zgo ?_;repeat' first|exact zt|apply zan|intro hc
 refine Ji (ι:=Nat) (fun k=>k≤l.length∧VB x k (l.drop k) = VB x 0 l) (fun k=>[(8,V.int k)]) (fun k=>l.length - k) 0 (by omega) ⟨by simp,by simp⟩ zol zlt zet fun k hk K' hL=>?_
 obtain ⟨hk,hinv⟩:=hk
 simp only [ovT,Xs,Nat.reduceEqDiff,reduceIte]
 rcases hd:l.drop k with _|⟨y,r⟩
 ·have:=Qu hd
  rw [hd] at hinv
  refine zgo ?_;repeat' first|exact zt|apply zan|intro hc
  refine Qg _ rfl ?_
  simp only [go_sem]
  rw [← hinv];rfl
 ·obtain ⟨hk,hget,hr⟩:=Qq hd
  rw [hd] at hinv
  have hw:=Qe (k:=k) (by omega)
  (have zx:=za hget hw);refine zgo ?_;repeat' first|exact zt|apply zan|intro hc
  ·refine Qg _ rfl ?_
   simp only [go_sem]
   rw [← hinv];simp [VB,hc]
  ·refine hL _ (k + 1) zet ⟨by omega,?_⟩ (by omega) (fun a ha=>rfl)
   rw [hr,← hinv];simp [VB,hc]
def Yq:=qd Proofs.Tryz.f182 []
def QN (Γ:Env) (f:Nat):Prop:=∀ (l:List Int) (x:Int) (hl:l.length < 2 ^ 62),EvN Γ f [.sl 1 (l.map V.int),V.int x] (V.bool (decide (VB x 0 l≥0)))
theorem yT {Γ:Env} {f:Nat} (h:Has Γ.P f 9 Yq.1.1.ac Yq.1.2) (z0:YP Γ 240):QN Γ f:=by
 intro l x hl
 refine Qc h zsi zcl zcl fun C hC hm=>?_
 subst hC
 simp only [Yq,qd,DC.ac]
 refine zgo ?_;repeat' first|exact zt|apply zan|intro hc
 refine Qg _ rfl ?_
 simp only [go_sem]
end Av
end
