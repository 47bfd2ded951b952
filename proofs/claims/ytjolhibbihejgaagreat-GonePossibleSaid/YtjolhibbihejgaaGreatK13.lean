/- From a law's contract to the row's step. -/
import Derived.Test.YtjolhibbihejgaaGreatK12
import Derived.Below
import Derived.Handed
set_option linter.unusedVariables false
set_option linter.unusedSimpArgs false
section
namespace Av
open Go Go.RowKit
def at8 (P:Program) (W:World) (d:Prop):Env:=⟨P,fun b=>W.heap[b]?,d⟩
abbrev ahm (P:Program) (W:World):Env:=at8 P W False
def apE (W:World) (b _i:Nat):Prop:=b < W.heap.size
theorem akk {P:Program} (mix:P.follows .mixedOrders = true) {f:FuncId} (own:Own P f) {W:World} {d:Prop} {args:List V} {cargs:Array Value} {b:Bool}
  (h:EvN (at8 P W d) f args (V.bool b)) (hsz:cargs.size = args.length) (hrep:∀ i (h:i < args.length) (h':i < cargs.size),Rep W (apE W) noμ cargs[i] args[i]) :
  Calls P f cargs W fun e W'=>e = .returned (.bool b)∧Below W.heap.size W W':=by
 let C:Ctx:={ P:=P,w0:=W,Z0:=apE W,F:=fun _=>False,m:=0,μ0:=noμ,kn:=fun b=>W.heap[b]?,dr:=d,mix:=mix,hkn:=by grind }
 have hg:QW C W (apE W) noμ (fun k=>([]:List Ob)[k]?):=by
  refine ⟨by grind,by grind,fun b i h=>h,zm _,fun _ _ _=>rfl,fun b i h=>.inl h,fun b i h=>h,fun _ _ _=>rfl,by grind,Xq.refl _⟩
 have:=h.1 C cargs rfl rfl (fun k _=>rfl) hg (fun b hb=>hb.elim) hsz hrep
 rw [show (at8 P W d).P = P from rfl,show C.w0 = W from rfl,Xg own] at this
 refine Calls.mono this ?_
 rintro e w' ⟨v,Z',μ',rfl,hr,hgd,_⟩
 refine ⟨by rw [hr.scE.1],⟨hgd.oo.1,hgd.oo.2.1,hgd.oo.2.2.1,hgd.grow,fun k hk=>hgd.frame k hk (fun h=>h)⟩⟩
theorem Vl {H:Type} {enc:TypeId×Value→H} {a:Assume} {C:Checked} {os:Os} {f:FuncId} {fn:Func} {s:ChangeSpec} {conds:List PathCond} {apart fresh handsOn again:Bool} {X:World→Array Value→Prop}
  (hX:∀ (w w':World) (args:Array Value),w.heap = w'.heap→X w args→X w' args)
  (own:ownKnob C.prog.godebug = none) (started:os.Started) (noInit:C.prog.inits.idxOf? f = none) (hfn:C.prog.funcs[f]? = some fn)
  (witness:∃ (w:World) (tape:Tape) (i:Input),w.os = os∧(w.forCall tape i).Shaped C.prog∧i.vars = []∧Input.okWide C.prog (w.forCall tape i) .any w.heap.size f i ∧
    ((s.pre enc C.prog fn conds apart (w.forCall tape i).memory i.args∧X (w.forCall tape i).memory i.args)∧sizedMet enc C.prog fn (OpenSpec.ofChange s) apart (w.forCall tape i).memory i.args)∧a.holds C.prog (lone (Frame.enter C.prog f i.args .normal) [] (w.forCall tape i)))
  (contract:∀ (W:World) (base:Nat) (args:Array Value) (ds gs:List (DataW H)) (before:List MemPlace),
    (∀ (j:Nat) t v,fn.params[j]? = some t→args[j]? = some v→Value.okWide C.prog W .any base t v) →
    DataW.Whole enc C.prog fn.params.toList s.vars apart W args.toList ds gs before →
    (DataW.weightsEach C.prog (fn.params.toList++s.plain.varTypes C.prog) (ds++gs)).all (·≤reachBytes) = true→X W args→W.ShapedOpen C.prog →
    Calls C.prog f args W fun e W'=>∃ v,e = .returned v∧s.post enc C.prog fn apart fresh handsOn again W args v W') :
  ReturnsInHanded a C os f .any (fun w args=>(s.pre enc C.prog fn conds apart w args∧X w args)∧sizedMet enc C.prog fn (OpenSpec.ofChange s) apart w args) (s.post enc C.prog fn apart fresh handsOn again):=by
 refine returnsInHanded_of_calls own started noInit witness ?_
 intro w tape i _ hsh _ hok hpre hholds
 obtain ⟨_,_,_,fn',hfn',_,_,_,_,hval⟩:=hok
 have e:fn' = fn:=by grind
 subst e
 obtain ⟨⟨⟨ds,gs,before,hw,hc⟩,hx⟩,hz⟩:=hpre
 have hw':=DataW.Whole.of_heap (w':=w.forCall tape i) (by rfl) hw
 refine (contract (w.forCall tape i) w.heap.size i.args ds gs before hval hw' (hz.weights hw) (hX _ _ _ (by rfl) hx) hsh).mono fun e W' ⟨v,he,hp⟩=>?_
 subst he
 exact ChangeSpec.post_blind hp
end Av
end
section
namespace Av
open Go
structure EvD (Γ:Env) (f:FuncId) (args:List V) (cs:List V) (res:V) (cs2:List V):Prop where
 ev:Ev Γ f (.ptr 0 0 :: args) [.box true cs] res [.box true cs2]
 cl:res.closed
 c1:Qd cs
 c2:Qd cs2
def Je:List V→List Nat
 | []=>[]
 | .hd a _ _ :: r=>a :: Je r
 | .ptr a _ :: r=>a :: Je r
 | _ :: r=>Je r
mutual
theorem akg (o:Nat→Option Ob) (br l:List Nat) (hb:∀ x∈l,x ∉ br):∀ v:V,v.shutOk0 o (some l)→conv o br (some l) v (v.shut0 o)
 | .top,_=>by simp [V.shut0,conv]
 | .sc _,_=>by simp [V.shut0,conv]
 | .nn,_=>by simp [V.shut0,conv]
 | .sl _ _,_=>by simp [V.shut0,conv]
 | .ro _ _,_=>by simp [V.shut0,conv]
 | .ept _ _ _,_=>by simp [V.shut0,conv]
 | .mp _,_=>by simp [V.shut0,conv]
 | .hd a off len,h=>by
   obtain ⟨h1,wr,s,xs,h2⟩:=h
   simp only [V.shut0,h2,conv]
   exact ⟨h1,hb a h1,.inl ⟨wr,xs,rfl,rfl⟩⟩
 | .ptr a off,h=>by
   obtain ⟨h1,wr,cs,h2,h3⟩:=h
   simp only [V.shut0,h2,conv]
   exact ⟨h1,hb a h1,trivial,h3,wr,cs,rfl,Qe _ _ _ _ h3⟩
 | .agg cs,h=>by simp only [V.shut0,conv];exact KI o br l hb cs h
 | .tup cs,h=>by simp only [V.shut0,conv];exact KI o br l hb cs h
 | .clo f cs,h=>by simp only [V.shut0,conv];exact ⟨trivial,KI o br l hb cs h⟩
theorem KI (o:Nat→Option Ob) (br l:List Nat) (hb:∀ x∈l,x ∉ br):∀ cs:List V,Ue o (some l) cs→Qu o br (some l) cs (qF o cs)
 | [],_=>trivial
 | v :: r,h=>⟨akg o br l hb v h.1,KI o br l hb r h.2⟩
end
mutual
theorem ams (o:Nat→Option Ob) (br l:List Nat) (hb:∀ x∈l,x ∉ br):∀ v:V,v.shutOk o (some l)→conv o br (some l) v (v.shut o)
 | .top,_=>by simp [V.shut,conv]
 | .sc _,_=>by simp [V.shut,conv]
 | .nn,_=>by simp [V.shut,conv]
 | .sl _ _,_=>by simp [V.shut,conv]
 | .ro _ _,_=>by simp [V.shut,conv]
 | .ept _ _ _,_=>by simp [V.shut,conv]
 | .mp _,_=>by simp [V.shut,conv]
 | .hd a off len,h=>by
   obtain ⟨h1,h2⟩:=h
   unfold asn at h2
   split at h2
   ·rename_i wr s xs h3
    simp only [V.shut,h3,conv]
    exact ⟨h1,hb a h1,.inl ⟨wr,xs,rfl,rfl⟩⟩
   ·rename_i wr s xs h3
    simp only [V.shut,h3,conv]
    exact ⟨h1,hb a h1,.inr ⟨wr,xs,rfl,KI _ _ _ hb _ h2.1,h2.2,Wt _ _⟩⟩
   ·exact h2.elim
 | .ptr a off,h=>by
   obtain ⟨h1,wr,cs,h2,h3⟩:=h
   simp only [V.shut,h2,conv]
   exact ⟨h1,hb a h1,trivial,h3,wr,cs,rfl,Qe _ _ _ _ h3⟩
 | .agg cs,h=>by simp only [V.shut,conv];exact Yi o br l hb cs h
 | .tup cs,h=>by simp only [V.shut,conv];exact Yi o br l hb cs h
 | .clo f cs,h=>by simp only [V.shut,conv];exact ⟨trivial,Yi o br l hb cs h⟩
theorem Yi (o:Nat→Option Ob) (br l:List Nat) (hb:∀ x∈l,x ∉ br):∀ cs:List V,Qp o (some l) cs→Qu o br (some l) cs (JD o cs)
 | [],_=>trivial
 | v :: r,h=>⟨ams o br l hb v h.1,Yi o br l hb r h.2⟩
end
section
variable {Γ:Env} {b:Nat} {r:List AO} {s:St} {d:Option Nat} {f:FuncId} {acts:List V} {res:V} {K:St→Prop} {cs cs2:List V} {a:Nat}
theorem aum (l:List Nat) (ha:s.o a = some (.box true cs)) (h:EvD Γ f (JD s.o acts) cs res cs2) (hc:Qp s.o (some l) acts) (hal:a ∉ l) (hab:a < b)
  (hk:UY Γ (b + KK) r { t:=(s.put d res).t,o:=upd (yG (some l) [a] s.o) a (some (.box true cs2)),n:=s.n } K):awC Γ b r s d f (.ptr a 0 :: acts) K:=by
 refine Xi ⟨_,_,_,_,[a],some l,h.ev,⟨?_,Yi s.o [a] l ?_ acts hc⟩,⟨⟨_,ha,Qe _ _ _ _ h.c1⟩,trivial⟩,by simp,by simpa using hab,zm _,by simp [KK],fun h=>by simp at h,?_⟩
 ·simp [conv]
 ·grind
 ·rw [YF _ _ h.cl]
  simp only [YY,Xd,Ob.ren,QL _ _ h.c2]
  exact hk
theorem atm (ha:s.o a = some (.box true cs)) (h:EvD Γ f (JD s.o acts) cs res cs2) (hc:Qp s.o (some (Je acts)) acts) (hal:a ∉ Je acts) (hab:a < b)
  (hk:UY Γ (b + KK) r { t:=(s.put d res).t,o:=upd (yG (some (Je acts)) [a] s.o) a (some (.box true cs2)),n:=s.n } K):awC Γ b r s d f (.ptr a 0 :: acts) K:=aum _ ha h hc hal hab hk
theorem wG {x:V} {args:List V} {okf:Option (List Nat)→Prop} (ha:s.o a = some (.box true cs)) (h:EvD Γ f args cs res cs2) (hal:(Je acts).contains a = false) (hab:decide (a < b) = true) (hc:Qp s.o (some (Je acts)) acts)
  (hk:UY Γ (b + KK) r { t:=(s.put d res).t,o:=upd (yG (some (Je acts)) [a] s.o) a (some (.box true cs2)),n:=s.n } K):ako Γ b r s d f (.ptr a 0 :: acts) (x :: args) okf K:=by
 intro h1 _
 simp only [JD,km] at h1
 obtain ⟨_,rfl⟩:=h1
 exact atm ha h hc (by simpa using hal) (kh hab) hk
theorem as2 {br:List Nat} {o:Nat→Option Ob}:yG (some []) br o = o:=by
 funext n;simp [yG]
theorem auN {x a n:Nat} {o:Nat→Option Ob}:yG (some [x]) [a] o n = if n = x then (if x = a then o n else (o n).map Ob.frz) else o n:=by
 grind [yG,List.mem_singleton]
end
theorem Wf {Γ:Env} {f:FuncId} {nt:Nat} {ac:AC} {rs:List Kk} (hb:Has Γ.P f nt ac rs) {args cs cs2:List V} {res:V} (ha:args.length + 1≤nt) (hr:res.closed) (h1:Qd cs) (h2:Qd cs2)
  (h:∀ C:Ctx,C.env = Γ→C.m = 1→AWp C nt ac (Va (.ptr 0 0 :: args) [.box true cs]) (acJ 1 rs res [.box true cs2]) (fun _ _=>False) (acJ 1 rs res [.box true cs2])):EvD Γ f args cs res cs2 :=
 ⟨by grind [V5],hr,h1,h2⟩
theorem v8 {rs:List Kk} {res:V} {s:St} {cs2:List V} (vs:List V) (h:aeM s rs = some vs) (ho:s.o 0 = some (.box true cs2)) (h2:Qd cs2) (hc:conv s.o [0] none (amf vs) res):acJ 1 rs res [.box true cs2] s :=
 ju rs vs _ h ⟨[0],none,hc,⟨⟨_,ho,fun h=>h,Qe _ _ _ _ h2⟩,trivial⟩,by simp,rfl⟩
structure EvR (Γ:Env) (f:FuncId) (args:List V) (cs:List V):Prop where
 ev:Ev Γ f args [] (.ptr 0 0) [.box true cs]
 c1:Qd cs
theorem auj {Γ:Env} {b:Nat} {r:List AO} {s:St} {d:Option Nat} {f:FuncId} {acts cs:List V} {K:St→Prop} (h:EvR Γ f (JD s.o acts) cs) (hc:Qp s.o (some (Je acts)) acts)
  (hk:UY Γ (b + KK) r { t:=(s.put d (.ptr b 0)).t,o:=upd (yG (some (Je acts)) [] s.o) b (some (.box true cs)),n:=s.n } K):awC Γ b r s d f acts K:=by
 refine Xi ⟨_,_,_,_,[],some (Je acts),h.ev,J1 _ _ _ hc,trivial,ki,by grind,by simp,by simp [KK],fun h=>by simp at h,?_⟩
 simp only [YY,Xd,Ob.ren,QL _ _ h.c1,V.ren,sig]
 exact hk
theorem wD {Γ:Env} {b:Nat} {r:List AO} {s:St} {d:Option Nat} {f:FuncId} {acts args cs:List V} {K:St→Prop} {okf:Option (List Nat)→Prop} (h:EvR Γ f args cs) (hc:okf (some (Je acts)))
  (hk:UY Γ (b + KK) r { t:=(s.put d (.ptr b 0)).t,o:=upd (yG (some (Je acts)) [] s.o) b (some (.box true cs)),n:=s.n } K):ako Γ b r s d f acts args okf K:=by
 rintro rfl rfl;exact auj h hc hk
theorem ae5 {Γ:Env} {f:FuncId} {nt:Nat} {ac:AC} {rs:List Kk} (hb:Has Γ.P f nt ac rs) {args cs:List V} (ha:args.length≤nt) (h1:Qd cs)
  (h:∀ C:Ctx,C.env = Γ→C.m = 0→AWp C nt ac (Va args []) (acJ 0 rs (.ptr 0 0) [.box true cs]) (fun _ _=>False) (acJ 0 rs (.ptr 0 0) [.box true cs])):EvR Γ f args cs :=
 ⟨V5 hb ha h,h1⟩
theorem aqN {rs:List Kk} {s:St} {cs:List V} (a:Nat) (h:aeM s rs = some [.ptr a 0]) (ho:s.o a = some (.box true cs)) (h2:Qd cs):acJ 0 rs (.ptr 0 0) [.box true cs] s :=
 ju rs _ _ h ⟨[a],none,by simp [amf,conv],⟨⟨_,ho,fun h=>h,Qe _ _ _ _ h2⟩,trivial⟩,by simp,rfl⟩
attribute [go_sem] as2 auN Je Ob.frz
end Av
end
section
namespace Av
open Go
structure EvW (Γ:Env) (f:FuncId) (args:List V) (sz:Nat) (xs:List V):Prop where
 ev:Ev Γ f args [] (.hd 0 0 xs.length) [.buf true sz xs]
 ns:∀ x∈xs,x.noSl
theorem aih (l:List Int):∀ x∈l.map V.int,x.noSl:=by
 grind [V.noSl]
theorem ahT (l:List (List UInt8)):∀ x∈l.map V.str,x.noSl:=by
 grind [V.noSl]
theorem aui {Γ:Env} {b:Nat} {r:List AO} {s:St} {d:Option Nat} {f:FuncId} {acts xs:List V} {sz:Nat} {K:St→Prop} (h:EvW Γ f (JD s.o acts) sz xs) (hc:Qp s.o none acts)
  (hk:UY Γ (b + KK) r { t:=(s.put d (.hd b 0 xs.length)).t,o:=upd s.o b (some (.buf true sz xs)),n:=s.n } K):awC Γ b r s d f acts K:=by
 refine Xi ⟨_,_,_,_,[],none,h.ev,J1 _ _ _ hc,trivial,ki,by grind,by simp,by simp [KK],fun _=>⟨by simp only [V.noSl],fun x hx=>?_⟩,?_⟩
 ·simp only [zu] at hx;subst hx;exact h.ns
 ·simp only [YY,Xd,Ob.ren,V.ren,sig]
  exact hk
theorem atn {Γ:Env} {A W:Nat→Bool} {b:Nat} {s:St} {d:Option Nat} {f:FuncId} {acts xs:List V} {sz:Nat} {J:St→Prop} (h:EvW Γ f (JD (JO A s.o) acts) sz xs) (hc:Qp (JO A s.o) none acts)
  (hk:J { t:=(s.put d (.hd b 0 xs.length)).t,o:=upd s.o b (some (.buf true sz xs)),n:=s.n }):Q1 Γ A W b s d f acts J:=by
 refine ⟨_,_,_,_,[],none,h.ev,J1 _ _ _ hc,trivial,ki,by grind,by simp,by simp [KK],fun _=>⟨by simp only [V.noSl],fun x hx=>?_⟩,by grind,?_⟩
 ·simp only [zu] at hx;subst hx;exact h.ns
 ·simp only [YY,Xd,Ob.ren,V.ren,sig]
  exact hk
theorem aoR {Γ:Env} {b:Nat} {r:List AO} {s:St} {d:Option Nat} {f:FuncId} {acts args xs:List V} {sz:Nat} {K:St→Prop} {okf:Option (List Nat)→Prop} (h:EvW Γ f args sz xs) (hc:okf none)
  (hk:UY Γ (b + KK) r { t:=(s.put d (.hd b 0 xs.length)).t,o:=upd s.o b (some (.buf true sz xs)),n:=s.n } K):ako Γ b r s d f acts args okf K:=by
 rintro rfl rfl;exact aui h hc hk
theorem akq {Γ:Env} {A W:Nat→Bool} {b:Nat} {s:St} {d:Option Nat} {f:FuncId} {acts args xs:List V} {sz:Nat} {J:St→Prop} {okf:Option (List Nat)→Prop} (h:EvW Γ f args sz xs) (hc:okf none)
  (hk:J { t:=(s.put d (.hd b 0 xs.length)).t,o:=upd s.o b (some (.buf true sz xs)),n:=s.n }):afM Γ A W b s d f acts args okf J:=by
 rintro rfl rfl;exact atn h hc hk
theorem qO {Γ:Env} {f:FuncId} {nt:Nat} {ac:AC} {rs:List Kk} (hb:Has Γ.P f nt ac rs) {args xs:List V} {sz:Nat} (ha:args.length≤nt) (hn:∀ x∈xs,x.noSl)
  (h:∀ C:Ctx,C.env = Γ→C.m = 0→AWp C nt ac (Va args []) (acJ 0 rs (.hd 0 0 xs.length) [.buf true sz xs]) (fun _ _=>False) (acJ 0 rs (.hd 0 0 xs.length) [.buf true sz xs])):EvW Γ f args sz xs :=
 ⟨V5 hb ha h,hn⟩
theorem abL {rs:List Kk} {s:St} {xs:List V} {sz:Nat} (a n:Nat) (h:aeM s rs = some [.hd a 0 n]) (hn:n = xs.length) (ho:s.o a = some (.buf true sz xs)):acJ 0 rs (.hd 0 0 xs.length) [.buf true sz xs] s:=by
 subst hn
 exact ju rs _ _ h ⟨[a],none,by simp [amf,conv],⟨⟨_,ho,fun h=>h,rfl,rfl⟩,trivial⟩,by simp,rfl⟩
end Av
end
section
namespace Av
open Go
theorem QW.adopt {C:Ctx} {w:World} {Z:Nat→Nat→Prop} {μ:Nat→Option Cn} {o:Nat→Option Ob} (h:QW C w Z μ o) {x i n sz:Nat} {wr:Bool} {cells:List V}
  (ho:o x = some (.box wr cells)) (hi:cells[i]? = some (.sc (.slice none 0 0))) (hn:μ n = none) (hm:C.m≤n) :
  QW C w Z (upd μ n (some { block:=0,void:=true })) (upd (upd o x (some (.box wr (cells.set i (.hd n 0 0))))) n (some (.buf true sz []))):=by
 have hon:=h.free hn
 have hxn:x≠n:=by grind
 have hmu:=qC (c:={ block:=0,void:=true }) hn
 have old:∀ a y,a≠n→upd (upd o x (some (.box wr (cells.set i (.hd n 0 0))))) n (some (.buf true sz [])) a = some y→∃ z c,o a = some z∧μ a = some c∧(y.live c↔z.live c)∧yz w Z (upd μ n (some { block:=0,void:=true })) c y∧(z.live c→c.block < w.heap.size∧(C.w0.heap.size≤c.block∨C.F c.block)):=by
  intro a y han hy
  rw [QN _ _ han] at hy
  by_cases hax:a = x
  ·subst hax
   rw [Qh] at hy;cases hy
   obtain ⟨c,hc,⟨h1,⟨cs,ty,h2,h3,h4⟩,h5⟩,hl⟩:=h.ob _ _ ho
   refine ⟨_,c,ho,hc,Iff.rfl,⟨h1,⟨cs,ty,h2,by simpa using h3,fun j hj hj'=>?_⟩,h5⟩,hl⟩
   have hj2:j < cells.length:=by simpa using hj
   have h6:=h4 j hj2 hj'
   refine ⟨?_,h6.2⟩
   by_cases hji:j = i
   ·subst hji
    rw [ZU]
    have h7:cells[j] = .sc (.slice none 0 0):=by grind
    have h8:=h6.1
    rw [h7] at h8
    generalize cs[j] = v at h8
    cases h8
    exact .hd (Qh _ _ _) (by simp [Hdr])
   ·rw [ZK (fun e=>hji e.symm)]
    exact h6.1.mono (fun _ _ _=>rfl) (fun _ _ h=>h) hmu
  ·rw [QN _ _ hax] at hy
   obtain ⟨c,hc,hok,hl⟩:=h.ob a y hy
   exact ⟨y,c,hy,hc,Iff.rfl,hok.mono (fun _ _ _=>rfl) (fun _ _ h=>h) hmu (fun _=>rfl) (fun _ _ h=>h),hl⟩
 refine ⟨fun a y hy=>?_,fun a b y z c d hab hy hz hc hd lc ld=>?_,h.zlt,h.grow,h.frame,h.zsub,h.zsup,h.zkeep,fun k hk=>?_,h.oo⟩
 ·by_cases han:a = n
  ·subst han
   rw [Qh] at hy;cases hy
   exact ⟨_,Qh _ _ _,⟨rfl,fun hv=>by cases hv⟩,fun hl=>by cases hl⟩
  ·obtain ⟨z,c,h1,h2,h3,h4,h5⟩:=old a y han hy
   exact ⟨c,hmu a c h2,h4,fun hl=>h5 (h3.1 hl)⟩
 ·by_cases han:a = n
  ·subst han
   rw [Qh] at hy hc;cases hy;cases hc;cases lc
  by_cases hbn:b = n
  ·subst hbn
   rw [Qh] at hz hd;cases hz;cases hd;cases ld
  obtain ⟨y',c',h1,h2,h3,_⟩:=old a y han hy
  obtain ⟨z',d',g1,g2,g3,_⟩:=old b z hbn hz
  have e1:=hmu a c' h2;rw [hc] at e1;cases e1
  have e2:=hmu b d' g2;rw [hd] at e2;cases e2
  exact h.sep a b y' z' c d hab h1 g1 h2 g2 (h3.1 lc) (g3.1 ld)
 ·rw [QN _ _ (by omega)];exact h.fix k hk
section
variable {C:Ctx} {nt:Nat} {s:St} {K:St→Prop} {E:Nat→St→Prop} {R:St→Prop}
theorem aoN {c:AC} (x i sz:Nat) {wr:Bool} {cells:List V} (ho:s.o x = some (.box wr cells)) (hi:cells[i]? = some (.sc (.slice none 0 0)))
  (h:AWp C nt c { t:=s.t,o:=upd (upd s.o x (some (.box wr (cells.set i (.hd s.n 0 0))))) s.n (some (.buf true sz [])),n:=s.n + 1 } K E R):AWp C nt c s K E R:=by
 intro code hc a w hs
 obtain ⟨Z,μ,hg,ht,hf,hm,hd,hn⟩:=hs
 refine h code hc a w ⟨Z,_,hg.adopt ho hi (hf _ (zm _)) hm,fun j=>(ht j).mono (fun _ _ _=>rfl) (fun _ _ h=>h) (qC (hf _ (zm _))),fun y hy=>?_,by grind,hd,hn⟩
 grind [QN]
end
end Av
end
section
namespace Av
open Go
theorem QW.move {C:Ctx} {w:World} {Z:Nat→Nat→Prop} {μ:Nat→Option Cn} {o:Nat→Option Ob} (h:QW C w Z μ o) {x i a n off len sz:Nat} {wr wr2:Bool} {cells xs:List V} {c:Cn}
  (ho:o x = some (.box wr cells)) (hi:cells[i]? = some (.hd a off len)) (ha:o a = some (.buf wr2 sz xs)) (hc:μ a = some c) (hn:μ n = none) (hm:C.m≤n) :
  QW C w Z (upd μ n (some c)) (upd (upd (upd o a (some .dead)) x (some (.box wr (cells.set i (.hd n off len))))) n (some (.buf wr2 sz xs))):=by
 have hon:=h.free hn
 have hxn:x≠n:=by grind
 have han:a≠n:=by grind
 have hxa:x≠a:=by grind
 have hmu:=qC (c:=c) hn
 have old:∀ b y,upd (upd (upd o a (some .dead)) x (some (.box wr (cells.set i (.hd n off len))))) n (some (.buf wr2 sz xs)) b = some y →
   (b = a∧y = .dead)∨∃ z d,o (if b = n then a else b) = some z∧μ (if b = n then a else b) = some d∧upd μ n (some c) b = some d∧(y.live d↔z.live d)∧yz w Z (upd μ n (some c)) d y∧(z.live d→d.block < w.heap.size∧(C.w0.heap.size≤d.block∨C.F d.block))∧(b≠a):=by
  intro b y hy
  by_cases hbn:b = n
  ·subst hbn
   rw [Qh] at hy;cases hy
   obtain ⟨d,hd,hok,hl⟩:=h.ob _ _ ha
   rw [hc] at hd;cases hd
   exact .inr ⟨_,c,by grind,by grind,Qh _ _ _,Iff.rfl,hok.mono (fun _ _ _=>rfl) (fun _ _ h=>h) hmu (fun _=>rfl) (fun _ _ h=>h),hl,fun e=>han e.symm⟩
  ·rw [QN _ _ hbn] at hy
   rw [if_neg hbn,QN _ _ hbn]
   by_cases hbx:b = x
   ·subst hbx
    rw [Qh] at hy;cases hy
    obtain ⟨d,hd,⟨h1,⟨cs,ty,h2,h3,h4⟩,h5⟩,hl⟩:=h.ob _ _ ho
    refine .inr ⟨_,d,ho,hd,hd,Iff.rfl,⟨h1,⟨cs,ty,h2,by simpa using h3,fun j hj hj'=>?_⟩,h5⟩,hl,hxa⟩
    have hj2:j < cells.length:=by simpa using hj
    have h6:=h4 j hj2 hj'
    refine ⟨?_,h6.2⟩
    by_cases hji:j = i
    ·subst hji
     rw [ZU]
     have h7:cells[j] = .hd a off len:=by grind
     have h8:=h6.1
     rw [h7] at h8
     generalize cs[j] = v at h8
     cases h8
     rename_i c' hc' hv
     rw [hc] at hc';cases hc'
     exact .hd (Qh _ _ _) hv
    ·rw [ZK (fun e=>hji e.symm)]
     exact h6.1.mono (fun _ _ _=>rfl) (fun _ _ h=>h) hmu
   ·rw [QN _ _ hbx] at hy
    by_cases hba:b = a
    ·grind [Qh]
    ·rw [QN _ _ hba] at hy
     obtain ⟨d,hd,hok,hl⟩:=h.ob b y hy
     exact .inr ⟨y,d,hy,hd,hd,Iff.rfl,hok.mono (fun _ _ _=>rfl) (fun _ _ h=>h) hmu (fun _=>rfl) (fun _ _ h=>h),hl,hba⟩
 refine ⟨fun b y hy=>?_,fun b d y z e f hbd hy hz he hf lb ld=>?_,h.zlt,h.grow,h.frame,h.zsub,h.zsup,h.zkeep,fun k hk=>?_,h.oo⟩
 ·rcases old b y hy with ⟨rfl,rfl⟩|⟨z,d,h1,h2,h3,h4,h5,h6,_⟩
  ·exact ⟨c,hmu _ _ hc,trivial,fun hl=>hl.elim⟩
  grind
 ·rcases old b y hy with ⟨rfl,rfl⟩|⟨y',e',h1,h2,h3,h4,_,_,h7⟩
  ·exact lb.elim
  ·rcases old d z hz with ⟨rfl,rfl⟩|⟨z',f',g1,g2,g3,g4,_,_,g7⟩
   ·exact ld.elim
   ·rw [he] at h3;cases h3
    rw [hf] at g3;cases g3
    refine h.sep _ _ y' z' _ _ ?_ h1 g1 h2 g2 (h4.1 lb) (g4.1 ld)
    grind
 ·rw [QN _ _ (by omega)];exact h.fix k hk
section
variable {C:Ctx} {nt:Nat} {s:St} {K:St→Prop} {E:Nat→St→Prop} {R:St→Prop}
end
end Av
end
section
namespace Av
open Go
structure EvL (Γ:Env) (f:FuncId) (args:List V) (sz:Nat) (xs:List V) (res:V) (ys:List V):Prop where
 ev:Ev Γ f (.hd 0 0 xs.length :: args) [.buf true sz xs] res [.buf true sz ys]
 cl:res.closed
theorem aul {Γ:Env} {b:Nat} {r:List AO} {s:St} {d:Option Nat} {f:FuncId} {acts:List V} {res:V} {K:St→Prop} {a sz n:Nat} {xs ys:List V}
  (ha:s.o a = some (.buf true sz xs)) (h:EvL Γ f (JD s.o acts) sz xs res ys) (hn:n = xs.length) (hc:Qp s.o (some []) acts) (hab:a < b)
  (hk:UY Γ (b + KK) r { t:=(s.put d res).t,o:=upd s.o a (some (.buf true sz ys)),n:=s.n } K):awC Γ b r s d f (.hd a 0 n :: acts) K:=by
 subst hn
 refine Xi ⟨_,_,_,_,[a],some [],h.ev,⟨?_,by grind [Yi]⟩,⟨⟨_,ha,rfl,rfl⟩,trivial⟩,by simp,?_,by simp,by simp [KK],fun h=>by simp at h,?_⟩
 ·simp [conv]
 ·grind
 ·rw [YF _ _ h.cl]
  simp only [YY,Xd,Ob.ren,as2]
  exact hk
theorem Vq {Γ:Env} {b:Nat} {r:List AO} {s:St} {d:Option Nat} {f:FuncId} {x:V} {acts args:List V} {okf:Option (List Nat)→Prop} {res:V} {K:St→Prop} {a sz n:Nat} {xs ys:List V}
  (ha:s.o a = some (.buf true sz xs)) (h:EvL Γ f args sz xs res ys) (hab:decide (a < b) = true) (hn:n = xs.length) (hc:Qp s.o (some []) acts)
  (hk:UY Γ (b + KK) r { t:=(s.put d res).t,o:=upd s.o a (some (.buf true sz ys)),n:=s.n } K):ako Γ b r s d f (.hd a 0 n :: acts) (x :: args) okf K:=by
 intro h1 _
 simp only [JD,km] at h1
 obtain ⟨_,rfl⟩:=h1
 exact aul ha h hn hc (kh hab) hk
@[go_sem] theorem arY (l:List Int):(∀ y∈l.map V.int,y.cells.length = 1) = True:=eq_true (by intro y hy;simp only [kO] at hy;obtain ⟨x,_,rfl⟩:=hy;rfl)
@[go_sem] theorem arX (l:List (List UInt8)):(∀ y∈l.map V.str,y.cells.length = 1) = True:=eq_true (by intro y hy;simp only [kO] at hy;obtain ⟨x,_,rfl⟩:=hy;rfl)
end Av
end
section
namespace Av
open Go
theorem VL (s:List UInt8):(∀ y∈s.map (fun c=>V.sc (.int .u8 c.toNat)),y.cells.length = 1) = True:=eq_true (by simp [V.cells])
end Av
end
section
namespace Av
open Go
def LeV (x y:V):Prop:=∀ (w:World) (Z:Nat→Nat→Prop) (μ:Nat→Option Cn) (v:Value),Rep w Z μ v x→Rep w Z μ v y
theorem LeV.refl (x:V):LeV x x:=fun _ _ _ _ h=>h
theorem LeV.nil (sz:Nat):LeV (.sc (.slice none 0 0)) (.sl sz []):=fun _ _ _ _ h=>by cases h;exact .sl0
theorem LeV.agg {xs ys:List V} (hl:xs.length = ys.length) (h:∀ j (h1:j < xs.length) (h2:j < ys.length),LeV xs[j] ys[j]):LeV (.agg xs) (.agg ys):=fun w Z μ v hv=>by
 cases hv with
 | agg h1 h2 h3=>exact .agg (h1.trans hl) h2 fun j hj hj'=>h j (by omega) hj _ _ _ _ (h3 j (by omega) hj')
theorem LeV.agg2 {a b c d:V} (h1:LeV a c) (h2:LeV b d):LeV (.agg [a,b]) (.agg [c,d]):=.agg rfl fun j hj hj'=>by
 match j,hj with
 | 0,_=>exact h1
 | 1,_=>exact h2
theorem EvB.le {Γ:Env} {f:FuncId} {args args':List V} {res:V} {B:Option (List Nat)} (h:EvB Γ f args res B) (hl:args'.length = args.length)
  (hr:∀ i (h1:i < args'.length) (h2:i < args.length),LeV args'[i] args[i]):EvB Γ f args' res B :=
 ⟨fun C cargs h1 h2 h3 h4 h5 h6 h7=>h.ev C cargs h1 h2 h3 h4 h5 (h6.trans hl) fun i hi hi'=>hr i (by omega) hi _ _ _ _ (h7 i (by omega) hi'),h.cl,h.sh⟩
theorem EvB.le2 {Γ:Env} {f:FuncId} {x y x' y':V} {res:V} {B:Option (List Nat)} (h:EvB Γ f [x,y] res B) (h1:LeV x' x) (h2:LeV y' y):EvB Γ f [x',y'] res B :=
 h.le rfl fun i hi hi'=>by
  match i,hi with
  | 0,_=>exact h1
  | 1,_=>exact h2
section
variable {Γ:Env} {A W:Nat→Bool} {b:Nat} {s:St} {d:Option Nat} {f:FuncId} {acts:List V} {res:V} {J:St→Prop} {cs cs2:List V} {a:Nat}
theorem atp (l:List Nat) (hA:A a = true) (hW:W a = true) (ha:s.o a = some (.box true cs)) (h:EvD Γ f (JD (JO A s.o) acts) cs res cs2) (hc:Qp (JO A s.o) (some l) acts) (hal:a ∉ l) (hl:∀ x∈l,A x = true∧W x = true) (hab:a < b)
  (hk:J { t:=(s.put d res).t,o:=upd (yG (some l) [a] s.o) a (some (.box true cs2)),n:=s.n }):Q1 Γ A W b s d f (.ptr a 0 :: acts) J:=by
 have hra:JO A s.o a = some (.box true cs):=by rw [acg,if_pos hA,ha]
 refine ⟨_,_,_,_,[a],some l,h.ev,⟨?_,Yi _ [a] l ?_ acts hc⟩,⟨⟨_,hra,Qe _ _ _ _ h.c1⟩,trivial⟩,by simp,by grind,zm _,by simp [KK],fun h=>by simp at h,by grind,?_⟩
 ·simp [conv]
 ·grind
 ·rw [YF _ _ h.cl]
  simp only [YY,Xd,Ob.ren,QL _ _ h.c2]
  exact hk
theorem xz {x:V} {args:List V} {okf:Option (List Nat)→Prop} (ha:s.o a = some (.box true cs)) (hA:A a = true) (hW:W a = true) (h:EvD Γ f args cs res cs2) (hal:(Je acts).contains a = false) (hab:decide (a < b) = true) (hl:((Je acts).all fun x=>A x && W x) = true) (hc:Qp (JO A s.o) (some (Je acts)) acts)
  (hk:J { t:=(s.put d res).t,o:=upd (yG (some (Je acts)) [a] s.o) a (some (.box true cs2)),n:=s.n }):afM Γ A W b s d f (.ptr a 0 :: acts) (x :: args) okf J:=by
 intro h1 _
 simp only [JD,km] at h1
 obtain ⟨_,rfl⟩:=h1
 exact atp _ hA hW ha h hc (by simpa using hal) (fun x hx=>by simpa using kw.1 hl x hx) (kh hab) hk
end
end Av
end
section
namespace Av
open Go
section
variable {Γ:Env} {b:Nat} {r:List AO} {s:St} {d:Option Nat} {f g:FuncId} {acts args:List V} {okf:Option (List Nat)→Prop} {res x:V} {K:St→Prop} {cs cs2 ds ds2:List V} {a e off:Nat}
end
section
variable {Γ:Env} {b:Nat} {r:List AO} {s:St} {d:Option Nat} {f:FuncId} {acts args:List V} {okf:Option (List Nat)→Prop} {res:V} {K:St→Prop} {xs ys:List V} {a p n sz:Nat}
end
end Av
end
section
namespace Av
open Go
abbrev jR:V:=.sc (.slice none 0 0)
section
variable {Γ:Env} {A W:Nat→Bool} {b:Nat} {r:List AO} {s:St} {d:Option Nat} {f:FuncId} {args:List V} {okf:Option (List Nat)→Prop} {J K:St→Prop} {a p n:Nat} {l t:List UInt8}
end
end Av
end
section
namespace Av
open Go
theorem Ev.shut {Γ:Env} {f:FuncId} {args:List V} {ins:List Ob} {res res2:V} {outs outs2:List Ob} {br:List Nat} {B:Option (List Nat)} (h:Ev Γ f args ins res outs)
  (hc:conv (fun k=>outs[k]?) br B res res2) (hl:aqy (fun k=>outs[k]?) br B br outs2) (hn:br.Nodup) (hf:br.take ins.length = List.range ins.length):Ev Γ f args ins res2 outs2:=by
 intro C cargs hP hm hmu hg hF hsz hrep
 refine (h C cargs hP hm hmu hg hF hsz hrep).mono ?_
 rintro e w' ⟨v,Z',μ',rfl,hr,hg',hmu'⟩
 obtain ⟨g2,h2,_⟩:=hg'.close hn hl (by rw [hm];exact hf)
 exact ⟨v,_,_,rfl,Kr hg' br B _ _ _ _ (zm _) hr hc,g2,h2⟩
structure EvO (Γ:Env) (f:FuncId) (args cs:List V) (s1 s2:Nat) (xs ys cs2:List V):Prop where
 ev:Ev Γ f (.ptr 0 0 :: args) [.box true cs] (.agg [.hd 1 0 xs.length,.hd 2 0 ys.length]) [.box true cs2,.buf true s1 xs,.buf true s2 ys]
 c1:Qd cs
 c2:Qd cs2
 ca:Qd args
theorem EvO.d {Γ:Env} {f:FuncId} {args cs:List V} {s1 s2:Nat} {xs ys cs2:List V} (h:EvO Γ f args cs s1 s2 xs ys cs2):EvD Γ f args cs (.agg [.sl s1 xs,.sl s2 ys]) cs2:=by
 refine ⟨h.ev.shut (br:=[0]) (B:=none) ?_ ⟨⟨_,rfl,fun h=>h,Qe _ _ _ _ h.c2⟩,trivial⟩ (by simp) rfl,?_,h.c1,h.c2⟩
 ·simp [conv,Qu,okB]
 ·simp only [V.closed,Qd,and_self]
section
variable {Γ:Env} {b:Nat} {r:List AO} {s:St} {d:Option Nat} {f:FuncId} {args acts:List V} {cs cs2 xs ys:List V} {s1 s2:Nat} {K:St→Prop} {okf:Option (List Nat)→Prop} {a:Nat}
end
end Av
end
section
namespace Av
open Go
end Av
end
section
namespace Av
open Go
def auG (a:Nat):V→V
 | .ptr _ _=>.ptr a 0
 | v=>v
attribute [go_sem] auG
section
variable {Γ:Env} {A W:Nat→Bool} {b:Nat} {s:St} {d:Option Nat} {f:FuncId} {acts args:List V} {okf:Option (List Nat)→Prop} {J:St→Prop} {a p n:Nat}
theorem xy {cs:List V} (h:EvR Γ f args cs) (hl:((Je acts).all fun x=>A x && W x) = true) (hc:Qp (JO A s.o) (some (Je acts)) acts)
  (hk:J { t:=(s.put d (.ptr b 0)).t,o:=upd (yG (some (Je acts)) [] s.o) b (some (.box true cs)),n:=s.n }):afM Γ A W b s d f acts args okf J:=by
 rintro rfl _
 refine ⟨_,_,_,_,[],some (Je acts),h.ev,J1 _ _ _ hc,trivial,ki,by grind,by simp,by simp [KK],fun h=>by simp at h,by grind,?_⟩
 simp only [YY,Xd,Ob.ren,QL _ _ h.c1]
 exact hk
end
section
variable {Γ:Env} {A W:Nat→Bool} {b:Nat} {r:List AO} {s:St} {d:Option Nat} {f:FuncId} {acts args:List V} {okf:Option (List Nat)→Prop} {J K:St→Prop} {sx:Nat} {xs:List V}
end
end Av
end
section
namespace Av
open Go
def leL:List V→List V→Prop
 | [],[]=>True
 | x :: r,y :: r'=>LeV x y∧leL r r'
 | _,_=>False
def leC:List V→List V→Prop
 | [],[]=>True
 | x :: r,y :: r'=>leL x.cells y.cells∧leC r r'
 | _,_=>False
theorem agT:∀ {xs ys:List V},leL xs ys→xs.length = ys.length∧∀ i (h:i < xs.length) (h':i < ys.length),LeV xs[i] ys[i]
 | [],[],_=>by grind
 | x :: r,y :: r',h=>by
   obtain ⟨h1,h2⟩:=agT h.2
   refine ⟨by simp [h1],fun i hi hi'=>?_⟩
   cases i with
   | zero=>exact h.1
   | succ i=>grind
theorem anZ:∀ {xs ys:List V},leC xs ys→xs.length = ys.length∧∀ i (h:i < xs.length) (h':i < ys.length),leL xs[i].cells ys[i].cells
 | [],[],_=>by grind
 | x :: r,y :: r',h=>by
   obtain ⟨h1,h2⟩:=anZ h.2
   refine ⟨by simp [h1],fun i hi hi'=>?_⟩
   cases i with
   | zero=>exact h.1
   | succ i=>grind
theorem agS:∀ xs:List V,leL xs xs
 | []=>trivial
 | x :: r=>⟨LeV.refl x,agS r⟩
theorem ak1:∀ xs:List V,leC xs xs
 | []=>trivial
 | x :: r=>⟨agS _,ak1 r⟩
theorem BOk.le {w:World} {Z:Nat→Nat→Prop} {ν:Nat→Option Cn} {c:Cn} {wr:Bool} {sz:Nat} {xs ys:List V} (h:BOk w Z ν c wr sz xs) (hl:leC xs ys):BOk w Z ν c wr sz ys:=by
 obtain ⟨l1,l2⟩:=anZ hl
 refine ⟨by rw [← l1];exact h.1,fun hv=>?_⟩
 obtain ⟨h0,h1,h2,h3,h4,cs,ty,fr,hh,h5,h6,h7⟩:=h.2 hv
 refine ⟨h0,h1,h2,h3,fun i hi=>?_,cs,ty,fr,hh,h5,h6,fun i hi j hj=>?_⟩
 ·grind [agT]
 ·obtain ⟨m1,m2⟩:=agT (l2 i (by omega) hi)
  obtain ⟨v,e1,e2,e3⟩:=h7 i (by omega) j (by omega)
  exact ⟨v,e1,e2,m2 j (by omega) hj _ _ _ _ e3⟩
section
variable {C:Ctx} {nt n:Nat} {s:St} {K:St→Prop} {E:Nat→St→Prop} {R:St→Prop}
end
def LeO:Ob→Ob→Prop
 | .buf wr s xs,.buf wr' s' ys=>wr = wr'∧s = s'∧leC xs ys
 | .obuf wr s xs,.obuf wr' s' ys=>wr = wr'∧s = s'∧leC xs ys
 | .box wr xs,.box wr' ys=>wr = wr'∧leL xs ys
 | x,y=>x = y
theorem LeO.refl (x:Ob):LeO x x:=by
 cases x<;>first|exact rfl|exact ⟨rfl,rfl,ak1 _⟩|exact ⟨rfl,agS _⟩
theorem LeO.ok {w:World} {Z:Nat→Nat→Prop} {μ:Nat→Option Cn} {c:Cn} {x y:Ob} (h:LeO x y) (hk:yz w Z μ c x):yz w Z μ c y∧(y.live c→x.live c):=by
 cases x<;>cases y<;>first
  | (cases h;done)
  | (cases h;exact ⟨hk,fun h=>h⟩)
  | (obtain ⟨rfl,rfl,hl⟩:=h;exact ⟨BOk.le hk hl,fun h=>h⟩)
  | (obtain ⟨rfl,hl⟩:=h
     obtain ⟨hv,⟨cs,ty,hh,hs,hr⟩,hz⟩:=hk
     obtain ⟨l1,l2⟩:=agT hl
     exact ⟨⟨hv,⟨cs,ty,hh,by omega,fun j h h'=>⟨l2 j (by omega) h _ _ _ _ (hr j (by omega) h').1,(hr j (by omega) h').2⟩⟩,hz⟩,fun h=>h⟩)
structure Le (s s2:St):Prop where
 t:∀ i,LeV (s.t i) (s2.t i)
 o:∀ a y,s2.o a = some y→∃ x,s.o a = some x∧LeO x y
 n:s.n = s2.n
theorem Le.refl (s:St):Le s s:=⟨fun _=>LeV.refl _,by grind [LeO.refl],rfl⟩
theorem Le.trans {s s2 s3:St} (h:Le s s2) (h':Le s2 s3) (hO:∀ x y z,LeO x y→LeO y z→LeO x z):Le s s3 :=
 ⟨fun i w Z μ v hv=>h'.t i _ _ _ _ (h.t i _ _ _ _ hv),fun a y hy=>let ⟨x,h1,h2⟩:=h'.o a y hy;let ⟨z,h3,h4⟩:=h.o a x h1;⟨z,h3,hO _ _ _ h4 h2⟩,h.n.trans h'.n⟩
theorem Le.objs {t:Nat→V} {o o2:Nat→Option Ob} {n:Nat} (h:∀ a y,o2 a = some y→∃ x,o a = some x∧LeO x y):Le { t:=t,o:=o,n:=n } { t:=t,o:=o2,n:=n }:=⟨fun _=>LeV.refl _,h,rfl⟩
theorem Le.upd {t:Nat→V} {o:Nat→Option Ob} {n a:Nat} {x y:Ob} (ho:o a = some x) (h:LeO x y):Le { t:=t,o:=o,n:=n } { t:=t,o:=upd o a (some y),n:=n } :=
 by grind [Le.objs,Qh,QN,LeO.refl]
theorem Sim.le {C:Ctx} {nt n:Nat} {s s2:St} {a:Act} {w:World} (h:Sim C nt n s a w) (hl:Le s s2):Sim C nt n s2 a w:=by
 obtain ⟨Z,μ,hg,ht,hf,hm,hd,hn⟩:=h
 refine ⟨Z,μ,⟨fun b y hb=>?_,fun b d p q e f hbd hp hq he hf lp lq=>?_,hg.zlt,hg.grow,hg.frame,hg.zsub,hg.zsup,hg.zkeep,hg.fix,hg.oo⟩,fun i=>hl.t i _ _ _ _ (ht i),hf,hm,hd,hn⟩
 ·obtain ⟨x,h1,h2⟩:=hl.o b y hb
  obtain ⟨c,hm,hk,hv⟩:=hg.ob b x h1
  obtain ⟨k1,k2⟩:=h2.ok hk
  simp_all
 ·obtain ⟨x,h1,h2⟩:=hl.o b p hp
  obtain ⟨x',h1',h2'⟩:=hl.o d q hq
  obtain ⟨c,hm,hk,_⟩:=hg.ob b x h1
  obtain ⟨c',hm',hk',_⟩:=hg.ob d x' h1'
  have e1:c = e:=by grind
  have e2:c' = f:=by grind
  subst e1;subst e2
  exact hg.sep b d x x' _ _ hbd h1 h1' hm hm' ((h2.ok hk).2 lp) ((h2'.ok hk').2 lq)
section
variable {C:Ctx} {nt:Nat} {s:St} {K:St→Prop} {E:Nat→St→Prop} {R:St→Prop}
end
end Av
end
section
namespace Av
open Go
theorem EvP.shut {Γ:Env} {f:FuncId} {args:List V} {ins:List Ob} {Q Q2:V→List Ob→Prop} (h:EvP Γ f args ins Q)
  (hq:∀ res outs,Q res outs→∃ res2 outs2 br B,Q2 res2 outs2∧conv (fun k=>outs[k]?) br B res res2∧aqy (fun k=>outs[k]?) br B br outs2∧br.Nodup∧br.take ins.length = List.range ins.length):EvP Γ f args ins Q2:=by
 intro C cargs hP hm hmu hg hF hsz hrep
 refine (h C cargs hP hm hmu hg hF hsz hrep).mono ?_
 rintro e w' ⟨res,outs,hQ,v,Z',μ',rfl,hr,hg',hmu'⟩
 obtain ⟨res2,outs2,br,B,h2,hc,hl,hn,hf⟩:=hq res outs hQ
 obtain ⟨g2,h3,_⟩:=hg'.close hn hl (by rw [hm];exact hf)
 exact ⟨res2,outs2,h2,v,_,_,rfl,Kr hg' br B _ _ _ _ (zm _) hr hc,g2,h3⟩
structure EvK (Γ:Env) (f:FuncId) (args cs:List V) (Q:V→List V→Prop):Prop where
 ev:EvP Γ f (.ptr 0 0 :: args) [.box true cs] (fun r o=>∃ cs2,o = [.box true cs2]∧Q r cs2)
 c1:Qd cs
 cq:∀ r cs2,Q r cs2→r.closed∧Qd cs2
theorem EvD.k {Γ:Env} {f:FuncId} {args cs cs2:List V} {res:V} {Q:V→List V→Prop} (h:EvD Γ f args cs res cs2) (hq:Q res cs2) (hc:∀ r cs2,Q r cs2→r.closed∧Qd cs2):EvK Γ f args cs Q :=
 ⟨h.ev.p.weaken fun r o ⟨h1,h2⟩=>⟨cs2,h2,h1 ▸ hq⟩,h.c1,hc⟩
theorem EvK.weaken {Γ:Env} {f:FuncId} {args cs:List V} {Q Q':V→List V→Prop} (h:EvK Γ f args cs Q) (hq:∀ r c,Q r c→Q' r c) (hc:∀ r cs2,Q' r cs2→r.closed∧Qd cs2):EvK Γ f args cs Q' :=
 ⟨h.ev.weaken fun r o ⟨c,h1,h2⟩=>⟨c,h1,hq _ _ h2⟩,h.c1,hc⟩
section
variable {Γ:Env} {b:Nat} {r:List AO} {s:St} {d:Option Nat} {f:FuncId} {acts cs:List V} {Q:V→List V→Prop} {K:St→Prop} {a:Nat}
end
section
variable {Γ:Env} {b:Nat} {r:List AO} {s:St} {d:Option Nat} {f:FuncId} {acts args cs:List V} {Q:V→List Ob→Prop} {K:St→Prop} {okf:Option (List Nat)→Prop} {a:Nat}
theorem auv (ha:s.o a = some (.box true cs)) (h:EvP Γ f [.ptr 0 0] [.box true cs] Q) (hc:Qd cs) (hab:a < b)
  (hk:∀ res outs,Q res outs→1≤outs.length∧outs.length - 1 < KK∧UY Γ (b + KK) r { t:=(s.put d (res.ren (sig [a] b))).t,o:=YY (sig [a] b) b [a] outs s.o,n:=s.n } K):ako Γ b r s d f [.ptr a 0] args okf K:=fun _ _=>by
 refine (show wI Γ b s d f [.ptr a 0] _ from ⟨_,_,_,[a],some [],h,⟨by simp [conv],trivial⟩,⟨⟨_,ha,Qe _ _ _ _ hc⟩,trivial⟩,by simp,by simpa using hab,?_⟩)
 intro res outs hq
 obtain ⟨h1,h2,h3⟩:=hk res outs hq
 refine ⟨h1,h2,fun h=>by simp at h,?_⟩
 rw [as2]
 exact h3
end
section
variable {C:Ctx} {nt:Nat} {s:St} {K:St→Prop} {E:Nat→St→Prop} {R:St→Prop}
end
structure EvZ (Γ:Env) (f:FuncId) (args:List V) (sz:Nat) (xs:List V) (m:Nat) (ys:List V):Prop where
 ev:Ev Γ f (.hd 0 0 xs.length :: args) [.buf true sz xs] (.hd 0 0 m) [.buf true sz ys]
theorem aqR {Γ:Env} {b:Nat} {r:List AO} {s:St} {d:Option Nat} {f:FuncId} {x:V} {acts args:List V} {okf:Option (List Nat)→Prop} {K:St→Prop} {a sz n m:Nat} {xs ys:List V}
  (ha:s.o a = some (.buf true sz xs)) (h:EvZ Γ f args sz xs m ys) (hab:decide (a < b) = true) (hn:n = xs.length) (hc:Qp s.o (some []) acts)
  (hk:UY Γ (b + KK) r { t:=(s.put d (.hd a 0 m)).t,o:=upd s.o a (some (.buf true sz ys)),n:=s.n } K):ako Γ b r s d f (.hd a 0 n :: acts) (x :: args) okf K:=by
 intro h1 _
 simp only [JD,km] at h1
 obtain ⟨_,rfl⟩:=h1
 subst hn
 refine Xi ⟨_,_,_,_,[a],some [],h.ev,⟨?_,by grind [Yi]⟩,⟨⟨_,ha,rfl,rfl⟩,trivial⟩,by simp,?_,by simp,by simp [KK],fun h=>by simp at h,?_⟩
 ·simp [conv]
 ·grind
 ·simp only [YY,Xd,Ob.ren,as2,V.ren,sig,List.getElem?_cons_zero,Option.getD_some]
  exact hk
theorem aj9 {Γ:Env} {f:FuncId} {nt:Nat} {ac:AC} {rs:List Kk} (hb:Has Γ.P f nt ac rs) {args xs ys:List V} {sz m:Nat} (ha:args.length + 1≤nt)
  (h:∀ C:Ctx,C.env = Γ→C.m = 1→AWp C nt ac { t:=(Va (.hd 0 0 xs.length :: args) []).t,o:=afu [(0,.buf true sz xs)],n:=1 } (acJ 1 rs (.hd 0 0 m) [.buf true sz ys]) (fun _ _=>False) (acJ 1 rs (.hd 0 0 m) [.buf true sz ys])):EvZ Γ f args sz xs m ys:=by
 refine ⟨V5 hb (by simpa using ha) fun C hC hm=>?_⟩
 refine (congrArg (fun s=>AWp C nt ac s _ _ _) ?_).mp (h C hC hm)
 simp only [Va]
 congr 1
 funext k
 match k with
 | 0=>rfl
 | k + 1=>simp [afu]
theorem aom {rs:List Kk} {s:St} {xs ys:List V} {sz m n:Nat} (vs:List V) (h:aeM s rs = some vs) (ho:s.o 0 = some (.buf true sz xs)) (hc:amf vs = .hd 0 0 n) (hn:n = m) (hx:xs = ys):acJ 1 rs (.hd 0 0 m) [.buf true sz ys] s:=by
 subst hx;subst hn
 exact ju rs vs _ h ⟨[0],none,by rw [hc];simp [conv],⟨⟨_,ho,fun h=>h,rfl,rfl⟩,trivial⟩,by simp,rfl⟩
end Av
end
section
namespace Av
open Go
section
variable {Γ:Env} {A W:Nat→Bool} {b:Nat} {r:List AO} {s:St} {d:Option Nat} {f:FuncId} {acts args:List V} {okf:Option (List Nat)→Prop} {x y z res:V} {J K:St→Prop} {cs cs2 ks vs:List V} {a p off c0:Nat}
theorem auM {x a p n:Nat} {o:Nat→Option Ob}:yG (some [x]) [a,p] o n = if n = x then (if x = a then o n else if x = p then o n else (o n).map Ob.frz) else o n:=by
 simp only [yG,zu,zo,zl,or_false]
 grind
theorem auL {x n:Nat} {o:Nat→Option Ob}:yG (some [x]) [] o n = if n = x then (o n).map Ob.frz else o n:=by
 simp only [yG,zo,zl,or_false,not_false_eq_true,and_true]
attribute [go_sem] auM auL
theorem alC {args:List V} (h:EvC Γ f args res) (hc:okf (some (Je acts))) (hk:UY Γ (b + KK) r { t:=(s.put d res).t,o:=yG (some (Je acts)) [] s.o,n:=s.n } K):ako Γ b r s d f acts args okf K:=by
 rintro rfl rfl
 refine Xi ⟨_,_,_,_,[],some (Je acts),h.1,J1 _ _ _ hc,trivial,ki,by grind,by simp,by simp [KK],fun h=>by simp at h,?_⟩
 simp only [YY,Xd,YF _ _ h.2]
 exact hk
end
section
variable {Γ:Env} {A W:Nat→Bool} {b:Nat} {s:St} {d:Option Nat} {f:FuncId} {acts args:List V} {okf:Option (List Nat)→Prop} {res:V} {J:St→Prop}
theorem akr (h:EvC Γ f args res) (hl:((Je acts).all fun x=>A x && W x) = true) (hc:Qp (JO A s.o) (some (Je acts)) acts)
  (hk:J { t:=(s.put d res).t,o:=yG (some (Je acts)) [] s.o,n:=s.n }):afM Γ A W b s d f acts args okf J:=by
 rintro rfl _
 refine ⟨_,_,_,_,[],some (Je acts),h.1,J1 _ _ _ hc,trivial,ki,by grind,by simp,by simp [KK],fun h=>by simp at h,by grind,?_⟩
 simp only [YY,Xd,YF _ _ h.2]
 exact hk
end
end Av
end
