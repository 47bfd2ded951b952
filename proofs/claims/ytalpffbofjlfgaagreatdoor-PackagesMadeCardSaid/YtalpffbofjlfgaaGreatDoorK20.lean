/- A contract serves for arguments that say more: a nil slice is a slice of nothing. -/
import Derived.Test.YtalpffbofjlfgaaGreatDoorK15
import Derived.Test.YtalpffbofjlfgaaGreatDoorK14
import Derived.Test.YtalpffbofjlfgaaGreatDoorK13
import Derived.KernelRfl
set_option linter.unusedVariables false
set_option linter.unusedSimpArgs false
section
namespace Av
open Go
def LeV (x y:V):Prop:=∀ (w:World) (Z:Nat→Nat→Prop) (μ:Nat→Option Cn) (v:Value),Rep w Z μ v x→Rep w Z μ v y
theorem LeV.refl (x:V):LeV x x:=fun _ _ _ _ h=>h
theorem LeV.nil (sz:Nat):LeV (.sc (.slice none 0 0)) (.sl sz []):=fun _ _ _ _ h=>by cases h;exact .sl0
theorem LeV.agg {xs ys:List V} (hl:xs.length = ys.length) (h:∀ j (h1:j < xs.length) (h2:j < ys.length),LeV xs[j] ys[j]):LeV (.agg xs) (.agg ys):=fun w Z μ v hv=>by
  cases hv with
  | agg h1 h2 h3=>exact .agg (h1.trans hl) h2 fun j hj hj'=>h j (by omega) hj _ _ _ _ (h3 j (by omega) hj')
theorem EvB.le {Γ:Env} {f:FuncId} {args args':List V} {res:V} {B:Option (List Nat)} (h:EvB Γ f args res B) (hl:args'.length = args.length)
    (hr:∀ i (h1:i < args'.length) (h2:i < args.length),LeV args'[i] args[i]):EvB Γ f args' res B :=
  ⟨fun C cargs h1 h2 h3 h4 h5 h6 h7=>h.ev C cargs h1 h2 h3 h4 h5 (h6.trans hl) fun i hi hi'=>hr i (by omega) hi _ _ _ _ (h7 i (by omega) hi'),h.cl,h.sh⟩
section
variable {Γ:Env} {A W:Nat→Bool} {b:Nat} {s:St} {d:Option Nat} {f:FuncId} {acts:List V} {res:V} {J:St→Prop} {cs cs2:List V} {a:Nat}
theorem apE (l:List Nat) (hA:A a = true) (hW:W a = true) (ha:s.o a = some (.box true cs)) (h:EvD Γ f (Wy (Vg A s.o) acts) cs res cs2) (hc:JU (Vg A s.o) (some l) acts) (hal:a ∉ l) (hl:∀ x∈l,A x = true∧W x = true) (hab:a < b)
    (hk:J { t:=(s.put d res).t,o:=upd (abj (some l) [a] s.o) a (some (.box true cs2)),n:=s.n }):Q9 Γ A W b s d f (.ptr a 0 :: acts) J:=by
  have hra:Vg A s.o a = some (.box true cs):=by rw [aj3,if_pos hA,ha]
  refine ⟨_,_,_,_,[a],some l,h.ev,⟨?_,Ud _ [a] l ?_ acts hc⟩,⟨⟨_,hra,YP _ _ _ _ h.c1⟩,trivial⟩,by simp,by simpa using ⟨hab,hW⟩,Nat.le_refl _,by simp [KK],fun h=>by simp at h,fun l' hl'=>by cases hl';exact hl,?_⟩
  · simp [conv]
  · intro x hx hxa
    simp only [List.mem_singleton] at hxa
    subst hxa;exact hal hx
  · rw [Qj _ _ h.cl]
    simp only [Kl,qW,Ob.ren,Qh _ _ h.c2]
    exact hk
theorem WP {x:V} {args:List V} {okf:Option (List Nat)→Prop} (ha:s.o a = some (.box true cs)) (hA:A a = true) (hW:W a = true) (h:EvD Γ f args cs res cs2) (hal:(Kd acts).contains a = false) (hab:decide (a < b) = true) (hl:((Kd acts).all fun x=>A x && W x) = true) (hc:JU (Vg A s.o) (some (Kd acts)) acts)
    (hk:J { t:=(s.put d res).t,o:=upd (abj (some (Kd acts)) [a] s.o) a (some (.box true cs2)),n:=s.n }):aoU Γ A W b s d f (.ptr a 0 :: acts) (x :: args) okf J:=by
  intro h1 _
  simp only [Wy,List.cons.injEq] at h1
  obtain ⟨_,rfl⟩:=h1
  exact apE _ hA hW ha h hc (by simpa using hal) (fun x hx=>by simpa using List.all_eq_true.1 hl x hx) (of_decide_eq_true hab) hk
end
end Av
end
section
namespace Av
open Go
section
variable {Γ:Env} {b:Nat} {r:List AO} {s:St} {d:Option Nat} {f g:FuncId} {acts args:List V} {okf:Option (List Nat)→Prop} {res x:V} {K:St→Prop} {cs cs2 ds ds2:List V} {a e off:Nat}
end
section
variable {Γ:Env} {b:Nat} {r:List AO} {s:St} {d:Option Nat} {f:FuncId} {acts args:List V} {okf:Option (List Nat)→Prop} {res:V} {K:St→Prop} {xs ys:List V} {a p n sz:Nat}
end
end Av
end
section
namespace Av
open Go
section
variable {Γ:Env} {A W:Nat→Bool} {b:Nat} {r:List AO} {s:St} {d:Option Nat} {f:FuncId} {args:List V} {okf:Option (List Nat)→Prop} {J K:St→Prop} {a p n:Nat} {l t:List UInt8}
end
end Av
end
section
namespace Av
open Go
theorem Ev.shut {Γ:Env} {f:FuncId} {args:List V} {ins:List Ob} {res res2:V} {outs outs2:List Ob} {br:List Nat} {B:Option (List Nat)} (h:Ev Γ f args ins res outs)
    (hc:conv (fun k=>outs[k]?) br B res res2) (hl:anJ (fun k=>outs[k]?) br B br outs2) (hn:br.Nodup) (hf:br.take ins.length = List.range ins.length):Ev Γ f args ins res2 outs2:=by
  intro C cargs hP hm hmu hg hF hsz hrep
  refine (h C cargs hP hm hmu hg hF hsz hrep).mono ?_
  rintro e w' ⟨v,Z',μ',rfl,hr,hg',hmu'⟩
  obtain ⟨g2,h2,_⟩:=hg'.close hn hl (by rw [hm];exact hf)
  exact ⟨v,_,_,rfl,jD hg' br B _ _ _ _ (Nat.le_refl _) hr hc,g2,h2⟩
structure EvO (Γ:Env) (f:FuncId) (args cs:List V) (s1 s2:Nat) (xs ys cs2:List V):Prop where
  ev:Ev Γ f (.ptr 0 0 :: args) [.box true cs] (.agg [.hd 1 0 xs.length,.hd 2 0 ys.length]) [.box true cs2,.buf true s1 xs,.buf true s2 ys]
  c1:Qn cs
  c2:Qn cs2
  ca:Qn args
theorem EvO.d {Γ:Env} {f:FuncId} {args cs:List V} {s1 s2:Nat} {xs ys cs2:List V} (h:EvO Γ f args cs s1 s2 xs ys cs2):EvD Γ f args cs (.agg [.sl s1 xs,.sl s2 ys]) cs2:=by
  refine ⟨h.ev.shut (br:=[0]) (B:=none) ?_ ⟨⟨_,rfl,fun h=>h,YP _ _ _ _ h.c2⟩,trivial⟩ (by simp) rfl,?_,h.c1,h.c2⟩
  · simp [conv,X2,okB]
  · simp only [V.closed,Qn,and_self]
section
variable {Γ:Env} {b:Nat} {r:List AO} {s:St} {d:Option Nat} {f:FuncId} {args acts:List V} {cs cs2 xs ys:List V} {s1 s2:Nat} {K:St→Prop} {okf:Option (List Nat)→Prop} {a:Nat}
end
end Av
end
section
namespace Av
open Go
def alh (fix:List (Nat×Ob)) (N:Nat) (arr:List Ob):Nat→Option Ob:=fun a=>if a < N then abA fix a else arr[a - N]?
theorem W5 {fix:List (Nat×Ob)} {N:Nat} {arr:List Ob} {a:Nat} (h:a < N):alh fix N arr a = abA fix a:=if_pos h
theorem Xl {fix:List (Nat×Ob)} {N:Nat} {arr:List Ob} {i:Nat}:alh fix N arr (N + i) = arr[i]?:=by
  unfold alh
  rw [if_neg (by omega),Nat.add_sub_cancel_left]
abbrev KH (ts:List (Nat×V)) (fix:List (Nat×Ob)) (N:Nat) (arr:List Ob) (n:Nat):St:={ t:=yu ts,o:=alh fix N arr,n:=n }
theorem U0 {m n N:Nat} {s:St} (tau:List (Nat×Nat)) {ts:List (Nat×V)} {fix:List (Nat×Ob)} {arr:List Ob}
    (ht:∀ p∈ts,s.t p.1 = p.2.ren (QO tau)∧p.2.lt n)
    (ho:∀ p∈fix,∃ x,s.o (QO tau p.1) = some x∧x.weak (QO tau) n p.2)
    (ha:∀ i (h:i < arr.length),∃ x,s.o (QO tau (N + i)) = some x∧x.weak (QO tau) n arr[i])
    (hN:N≤n) (hl:N + arr.length≤n)
    (hi:∀ a b,a < n→b < n→QO tau a = QO tau b→a = b) (hf:∀ p∈tau,m≤p.1) (hm:m≤n):afe m (QO tau) s (KH ts fix N arr n):=by
  have keep:∀ (l:List (Nat×Nat)),(∀ p∈l,m≤p.1)→∀ k,k < m→QO l k = k:=by
    intro l
    induction l with
    | nil=>intro _ k _;rfl
    | cons p l ih =>
      intro hl k hk
      have:=hl p (by simp)
      simp only [QO]
      rw [if_neg (by omega)]
      exact ih (fun q hq=>hl q (by simp [hq])) k hk
  have lt:∀ a y,alh fix N arr a = some y→a < n:=by
    intro a y h
    unfold alh at h
    split at h
    · omega
    · obtain ⟨h1,_⟩:=List.getElem?_eq_some_iff.1 h
      omega
  refine ⟨fun i=>?_,fun a y h=>⟨lt a y h,?_⟩,fun a b ha' hb hab=>?_,keep tau hf,hm⟩
  · rcases abz ts i with h|h
    · exact .inl h
    · exact .inr (ht _ h)
  · have h:alh fix N arr a = some y:=h
    unfold alh at h
    split at h
    · exact ho _ (vA fix a y h)
    · obtain ⟨h1,rfl⟩:=List.getElem?_eq_some_iff.1 h
      have:=ha (a - N) h1
      rwa [show N + (a - N) = a by omega] at this
  · obtain ⟨x,hx⟩:=Option.ne_none_iff_exists'.1 ha'
    obtain ⟨y,hy⟩:=Option.ne_none_iff_exists'.1 hb
    exact hi a b (lt a x hx) (lt b y hy) hab
end Av
end
section
namespace Av
open Go
def aqp (a:Nat):V→V
  | .ptr _ _=>.ptr a 0
  | v=>v
attribute [go_sem] aqp
section
variable {Γ:Env} {A W:Nat→Bool} {b:Nat} {s:St} {d:Option Nat} {f:FuncId} {acts args:List V} {okf:Option (List Nat)→Prop} {J:St→Prop} {a p n:Nat}
end
section
variable {Γ:Env} {A W:Nat→Bool} {b:Nat} {r:List AO} {s:St} {d:Option Nat} {f:FuncId} {acts args:List V} {okf:Option (List Nat)→Prop} {J K:St→Prop} {sx:Nat} {xs:List V}
end
theorem ajM {C:Ctx} {nt:Nat} {s:St} {K:St→Prop} {E:Nat→St→Prop} {R:St→Prop} {ks:List Nat} {x:AC} (h:AWp C nt x s (fun _=>False) E R):AWp C nt (X1 ks x) s K E R :=
  ajN (fun k s'=>k = 0∧s' = s) ⟨0,rfl,rfl⟩ (by rintro k s' ⟨rfl,rfl⟩;exact agP h (fun _ h=>h.elim) (fun _ _ h=>h) (fun _ h=>h))
end Av
end
section
namespace Av
open Go
def leL:List V→List V→Prop
  | [],[]=>True
  | x :: r,y :: r'=>LeV x y∧leL r r'
  | _,_=>False
def leC:List V→List V→Prop
  | [],[]=>True
  | x :: r,y :: r'=>leL x.cells y.cells∧leC r r'
  | _,_=>False
theorem agw:∀ {xs ys:List V},leL xs ys→xs.length = ys.length∧∀ i (h:i < xs.length) (h':i < ys.length),LeV xs[i] ys[i]
  | [],[],_=>⟨rfl,fun i h=>by simp at h⟩
  | x :: r,y :: r',h=>by
    obtain ⟨h1,h2⟩:=agw h.2
    refine ⟨by simp [h1],fun i hi hi'=>?_⟩
    cases i with
    | zero=>exact h.1
    | succ i=>exact h2 i (by simpa using hi) (by simpa using hi')
theorem alY:∀ {xs ys:List V},leC xs ys→xs.length = ys.length∧∀ i (h:i < xs.length) (h':i < ys.length),leL xs[i].cells ys[i].cells
  | [],[],_=>⟨rfl,fun i h=>by simp at h⟩
  | x :: r,y :: r',h=>by
    obtain ⟨h1,h2⟩:=alY h.2
    refine ⟨by simp [h1],fun i hi hi'=>?_⟩
    cases i with
    | zero=>exact h.1
    | succ i=>exact h2 i (by simpa using hi) (by simpa using hi')
theorem agv:∀ xs:List V,leL xs xs
  | []=>trivial
  | x :: r=>⟨LeV.refl x,agv r⟩
theorem ajo:∀ xs:List V,leC xs xs
  | []=>trivial
  | x :: r=>⟨agv _,ajo r⟩
theorem BOk.le {w:World} {Z:Nat→Nat→Prop} {ν:Nat→Option Cn} {c:Cn} {wr:Bool} {sz:Nat} {xs ys:List V} (h:BOk w Z ν c wr sz xs) (hl:leC xs ys):BOk w Z ν c wr sz ys:=by
  obtain ⟨l1,l2⟩:=alY hl
  refine ⟨by rw [← l1];exact h.1,fun hv=>?_⟩
  obtain ⟨h0,h1,h2,h3,h4,cs,ty,fr,hh,h5,h6,h7⟩:=h.2 hv
  refine ⟨h0,h1,h2,h3,fun i hi=>?_,cs,ty,fr,hh,h5,h6,fun i hi j hj=>?_⟩
  · rw [← (agw (l2 i (by omega) hi)).1];exact h4 i (by omega)
  · obtain ⟨m1,m2⟩:=agw (l2 i (by omega) hi)
    obtain ⟨v,e1,e2,e3⟩:=h7 i (by omega) j (by omega)
    exact ⟨v,e1,e2,m2 j (by omega) hj _ _ _ _ e3⟩
section
variable {C:Ctx} {nt n:Nat} {s:St} {K:St→Prop} {E:Nat→St→Prop} {R:St→Prop}
theorem aoS {c:AC} (i:Nat) (y:V) (hl:LeV (s.t i) y) (h:AWp C nt c { t:=upd s.t i y,o:=s.o,n:=s.n } K E R):AWp C nt c s K E R:=by
  intro code hc act w hs
  obtain ⟨Z,μ,hg,ht,hf,hm,hd,hn⟩:=hs
  refine h code hc act w ⟨Z,μ,hg,fun j=>?_,hf,hm,hd,hn⟩
  by_cases hj:j = i
  · subst hj;show Rep _ _ _ _ (upd s.t j y j);rw [QZ];exact hl _ _ _ _ (ht j)
  · show Rep _ _ _ _ (upd s.t i y j);rw [JB _ _ hj];exact ht j
end
def LeO:Ob→Ob→Prop
  | .buf wr s xs,.buf wr' s' ys=>wr = wr'∧s = s'∧leC xs ys
  | .obuf wr s xs,.obuf wr' s' ys=>wr = wr'∧s = s'∧leC xs ys
  | .box wr xs,.box wr' ys=>wr = wr'∧leL xs ys
  | x,y=>x = y
theorem LeO.refl (x:Ob):LeO x x:=by
  cases x<;>first|exact rfl|exact ⟨rfl,rfl,ajo _⟩|exact ⟨rfl,agv _⟩
theorem LeO.ok {w:World} {Z:Nat→Nat→Prop} {μ:Nat→Option Cn} {c:Cn} {x y:Ob} (h:LeO x y) (hk:w9 w Z μ c x):w9 w Z μ c y∧(y.live c→x.live c):=by
  cases x<;>cases y<;>first
    | (cases h;done)
    | (cases h;exact ⟨hk,fun h=>h⟩)
    | (obtain ⟨rfl,rfl,hl⟩:=h;exact ⟨BOk.le hk hl,fun h=>h⟩)
    | (obtain ⟨rfl,hl⟩:=h
       obtain ⟨hv,⟨cs,ty,hh,hs,hr⟩,hz⟩:=hk
       obtain ⟨l1,l2⟩:=agw hl
       exact ⟨⟨hv,⟨cs,ty,hh,by omega,fun j h h'=>⟨l2 j (by omega) h _ _ _ _ (hr j (by omega) h').1,(hr j (by omega) h').2⟩⟩,hz⟩,fun h=>h⟩)
structure Le (s s2:St):Prop where
  t:∀ i,LeV (s.t i) (s2.t i)
  o:∀ a y,s2.o a = some y→∃ x,s.o a = some x∧LeO x y
  n:s.n = s2.n
theorem Le.refl (s:St):Le s s:=⟨fun _=>LeV.refl _,fun a y h=>⟨y,h,LeO.refl y⟩,rfl⟩
theorem Le.trans {s s2 s3:St} (h:Le s s2) (h':Le s2 s3) (hO:∀ x y z,LeO x y→LeO y z→LeO x z):Le s s3 :=
  ⟨fun i w Z μ v hv=>h'.t i _ _ _ _ (h.t i _ _ _ _ hv),fun a y hy=>let ⟨x,h1,h2⟩:=h'.o a y hy;let ⟨z,h3,h4⟩:=h.o a x h1;⟨z,h3,hO _ _ _ h4 h2⟩,h.n.trans h'.n⟩
theorem Le.objs {t:Nat→V} {o o2:Nat→Option Ob} {n:Nat} (h:∀ a y,o2 a = some y→∃ x,o a = some x∧LeO x y):Le { t:=t,o:=o,n:=n } { t:=t,o:=o2,n:=n }:=⟨fun _=>LeV.refl _,h,rfl⟩
theorem Le.upd {t:Nat→V} {o:Nat→Option Ob} {n a:Nat} {x y:Ob} (ho:o a = some x) (h:LeO x y):Le { t:=t,o:=o,n:=n } { t:=t,o:=upd o a (some y),n:=n } :=
  Le.objs fun b z hz=>by
    by_cases hb:b = a
    · subst hb;rw [QZ] at hz;cases hz;exact ⟨x,ho,h⟩
    · rw [JB _ _ hb] at hz;exact ⟨z,hz,LeO.refl z⟩
theorem Sim.le {C:Ctx} {nt n:Nat} {s s2:St} {a:Act} {w:World} (h:Sim C nt n s a w) (hl:Le s s2):Sim C nt n s2 a w:=by
  obtain ⟨Z,μ,hg,ht,hf,hm,hd,hn⟩:=h
  refine ⟨Z,μ,⟨fun b y hb=>?_,fun b d p q e f hbd hp hq he hf lp lq=>?_,hg.zlt,hg.grow,hg.frame,hg.zsub,hg.zsup,hg.zkeep,hg.fix,hg.oo⟩,fun i=>hl.t i _ _ _ _ (ht i),hf,hm,hd,hn⟩
  · obtain ⟨x,h1,h2⟩:=hl.o b y hb
    obtain ⟨c,hm,hk,hv⟩:=hg.ob b x h1
    obtain ⟨k1,k2⟩:=h2.ok hk
    exact ⟨c,hm,k1,fun hy=>hv (k2 hy)⟩
  · obtain ⟨x,h1,h2⟩:=hl.o b p hp
    obtain ⟨x',h1',h2'⟩:=hl.o d q hq
    obtain ⟨c,hm,hk,_⟩:=hg.ob b x h1
    obtain ⟨c',hm',hk',_⟩:=hg.ob d x' h1'
    have e1:c = e:=by rw [hm] at he;cases he;rfl
    have e2:c' = f:=by rw [hm'] at hf;cases hf;rfl
    subst e1;subst e2
    exact hg.sep b d x x' _ _ hbd h1 h1' hm hm' ((h2.ok hk).2 lp) ((h2'.ok hk').2 lq)
section
variable {C:Ctx} {nt:Nat} {s:St} {K:St→Prop} {E:Nat→St→Prop} {R:St→Prop}
theorem ah0 {c:AC} (h:AWp C nt c s (fun s'=>∃ s2,Le s' s2∧K s2) (fun i s'=>∃ s2,Le s' s2∧E i s2) (fun s'=>∃ s2,Le s' s2∧R s2)):AWp C nt c s K E R:=by
  intro code hc act w hs
  refine wp_mono (h code hc act w hs) fun e a' w' hq=>?_
  cases e with
  | normal=>obtain ⟨s',⟨s2,h1,h2⟩,h3⟩:=hq;exact ⟨s2,h2,by have:=h3.le h1;rw [h1.n] at this;exact this⟩
  | exit e=>obtain ⟨s',⟨s2,h1,h2⟩,h3⟩:=hq;exact ⟨s2,h2,by have:=h3.le h1;rw [h1.n] at this;exact this⟩
  | ret=>obtain ⟨s',⟨s2,h1,h2⟩,h3⟩:=hq;exact ⟨s2,h2,by have:=h3.le h1;rw [h1.n] at this;exact this⟩
  | _=>exact hq
end
end Av
end
section
namespace Av
open Go
theorem EvP.shut {Γ:Env} {f:FuncId} {args:List V} {ins:List Ob} {Q Q2:V→List Ob→Prop} (h:EvP Γ f args ins Q)
    (hq:∀ res outs,Q res outs→∃ res2 outs2 br B,Q2 res2 outs2∧conv (fun k=>outs[k]?) br B res res2∧anJ (fun k=>outs[k]?) br B br outs2∧br.Nodup∧br.take ins.length = List.range ins.length):EvP Γ f args ins Q2:=by
  intro C cargs hP hm hmu hg hF hsz hrep
  refine (h C cargs hP hm hmu hg hF hsz hrep).mono ?_
  rintro e w' ⟨res,outs,hQ,v,Z',μ',rfl,hr,hg',hmu'⟩
  obtain ⟨res2,outs2,br,B,h2,hc,hl,hn,hf⟩:=hq res outs hQ
  obtain ⟨g2,h3,_⟩:=hg'.close hn hl (by rw [hm];exact hf)
  exact ⟨res2,outs2,h2,v,_,_,rfl,jD hg' br B _ _ _ _ (Nat.le_refl _) hr hc,g2,h3⟩
structure EvK (Γ:Env) (f:FuncId) (args cs:List V) (Q:V→List V→Prop):Prop where
  ev:EvP Γ f (.ptr 0 0 :: args) [.box true cs] (fun r o=>∃ cs2,o = [.box true cs2]∧Q r cs2)
  c1:Qn cs
  cq:∀ r cs2,Q r cs2→r.closed∧Qn cs2
def ap6 {α:Type} (dc:Nat→List V) (n:Nat) (P:α→Prop) (v:α→V):V→List V→Prop:=fun r cs=>∃ x k,k≤n∧P x∧r = v x∧cs = dc k
theorem EvD.k {Γ:Env} {f:FuncId} {args cs cs2:List V} {res:V} {Q:V→List V→Prop} (h:EvD Γ f args cs res cs2) (hq:Q res cs2) (hc:∀ r cs2,Q r cs2→r.closed∧Qn cs2):EvK Γ f args cs Q :=
  ⟨h.ev.p.weaken fun r o ⟨h1,h2⟩=>⟨cs2,h2,h1 ▸ hq⟩,h.c1,hc⟩
theorem EvK.weaken {Γ:Env} {f:FuncId} {args cs:List V} {Q Q':V→List V→Prop} (h:EvK Γ f args cs Q) (hq:∀ r c,Q r c→Q' r c) (hc:∀ r cs2,Q' r cs2→r.closed∧Qn cs2):EvK Γ f args cs Q' :=
  ⟨h.ev.weaken fun r o ⟨c,h1,h2⟩=>⟨c,h1,hq _ _ h2⟩,h.c1,hc⟩
section
variable {Γ:Env} {b:Nat} {r:List AO} {s:St} {d:Option Nat} {f:FuncId} {acts cs:List V} {Q:V→List V→Prop} {K:St→Prop} {a:Nat}
theorem aqh (l:List Nat) (ha:s.o a = some (.box true cs)) (h:EvK Γ f (Wy s.o acts) cs Q) (hc:JU s.o (some l) acts) (hal:a ∉ l) (hab:a < b)
    (hk:∀ res cs2,Q res cs2→WY Γ (b + KK) r { t:=(s.put d res).t,o:=upd (abj (some l) [a] s.o) a (some (.box true cs2)),n:=s.n } K):awC Γ b r s d f (.ptr a 0 :: acts) K:=by
  refine ⟨_,_,_,[a],some l,h.ev,⟨?_,Ud s.o [a] l ?_ acts hc⟩,⟨⟨_,ha,YP _ _ _ _ h.c1⟩,trivial⟩,by simp,by simpa using hab,?_⟩
  · simp [conv]
  · intro x hx hxa
    simp only [List.mem_singleton] at hxa
    subst hxa;exact hal hx
  · rintro res _ ⟨cs2,rfl,hq⟩
    obtain ⟨c1,c2⟩:=h.cq _ _ hq
    refine ⟨Nat.le_refl _,by simp [KK],fun h=>by simp at h,?_⟩
    rw [Qj _ _ c1]
    simp only [Kl,qW,Ob.ren,Qh _ _ c2]
    exact hk res cs2 hq
theorem ajQ {x:V} {args:List V} {okf:Option (List Nat)→Prop} (ha:s.o a = some (.box true cs)) (h:EvK Γ f args cs Q) (hal:(Kd acts).contains a = false) (hab:decide (a < b) = true) (hc:JU s.o (some (Kd acts)) acts)
    (hk:∀ res cs2,Q res cs2→WY Γ (b + KK) r { t:=(s.put d res).t,o:=upd (abj (some (Kd acts)) [a] s.o) a (some (.box true cs2)),n:=s.n } K):anW Γ b r s d f (.ptr a 0 :: acts) (x :: args) okf K:=by
  intro h1 _
  simp only [Wy,List.cons.injEq] at h1
  obtain ⟨_,rfl⟩:=h1
  exact aqh _ ha h hc (by simpa using hal) (of_decide_eq_true hab) hk
end
theorem aiM {Γ:Env} {f:FuncId} {nt:Nat} {ac:AC} {rs:List X0} (hb:Has Γ.P f nt ac rs) {args cs:List V} {Q:V→List V→Prop} (ha:args.length + 1≤nt) (h1:Qn cs) (hq:∀ r cs2,Q r cs2→r.closed∧Qn cs2)
    (h:∀ C:Ctx,C.env = Γ→C.m = 1→AWp C nt ac (UW (.ptr 0 0 :: args) [.box true cs]) (afz 1 rs (fun r o=>∃ cs2,o = [.box true cs2]∧Q r cs2)) (fun _ _=>False) (afz 1 rs (fun r o=>∃ cs2,o = [.box true cs2]∧Q r cs2))):EvK Γ f args cs Q :=
  ⟨aba hb (by simpa using ha) h,h1,hq⟩
theorem apo {rs:List X0} {s:St} {Q:V→List V→Prop} {res:V} {cs2:List V} (vs:List V) (h:adH s rs = some vs) (ho:s.o 0 = some (.box true cs2)) (hc:conv s.o [0] none (ajB vs) res) (hq:Q res cs2) (h2:Qn cs2) :
    afz 1 rs (fun r o=>∃ cs2,o = [.box true cs2]∧Q r cs2) s :=
  ⟨res,_,⟨cs2,rfl,hq⟩,xj vs h ho h2 hc⟩
theorem aiN {rs:List X0} {s:St} {α:Type} {dc:Nat→List V} {n:Nat} {P:α→Prop} {v:α→V} (x:α) (k:Nat) (vs:List V) (h:adH s rs = some vs) (ho:s.o 0 = some (.box true (dc k))) (hk:k≤n) (hp:P x) (h2:Qn (dc k)) (hc:conv s.o [0] none (ajB vs) (v x)) :
    afz 1 rs (fun r o=>∃ cs2,o = [.box true cs2]∧ap6 dc n P v r cs2) s:=apo vs h ho hc ⟨x,k,hk,hp,rfl,rfl⟩ h2
section
variable {Γ:Env} {b:Nat} {r:List AO} {s:St} {d:Option Nat} {f:FuncId} {acts args cs:List V} {Q:V→List Ob→Prop} {K:St→Prop} {okf:Option (List Nat)→Prop} {a:Nat}
end
section
variable {C:Ctx} {nt:Nat} {s:St} {K:St→Prop} {E:Nat→St→Prop} {R:St→Prop}
end
structure EvZ (Γ:Env) (f:FuncId) (args:List V) (sz:Nat) (xs:List V) (m:Nat) (ys:List V):Prop where
  ev:Ev Γ f (.hd 0 0 xs.length :: args) [.buf true sz xs] (.hd 0 0 m) [.buf true sz ys]
theorem aaA {Γ:Env} {b:Nat} {r:List AO} {s:St} {d:Option Nat} {f:FuncId} {x:V} {acts args:List V} {okf:Option (List Nat)→Prop} {K:St→Prop} {a sz n m:Nat} {xs ys:List V}
    (ha:s.o a = some (.buf true sz xs)) (h:EvZ Γ f args sz xs m ys) (hab:decide (a < b) = true) (hn:n = xs.length) (hc:JU s.o (some []) acts)
    (hk:WY Γ (b + KK) r { t:=(s.put d (.hd a 0 m)).t,o:=upd s.o a (some (.buf true sz ys)),n:=s.n } K):anW Γ b r s d f (.hd a 0 n :: acts) (x :: args) okf K:=by
  intro h1 _
  simp only [Wy,List.cons.injEq] at h1
  obtain ⟨_,rfl⟩:=h1
  subst hn
  refine jN ⟨_,_,_,_,[a],some [],h.ev,⟨?_,Ud s.o [a] [] (fun x hx=>by cases hx) acts hc⟩,⟨⟨_,ha,rfl,rfl⟩,trivial⟩,by simp,?_,by simp,by simp [KK],fun h=>by simp at h,?_⟩
  · simp [conv]
  · intro x hx
    simp only [List.mem_singleton] at hx
    subst hx;exact of_decide_eq_true hab
  · simp only [Kl,qW,Ob.ren,ap7,V.ren,sig,List.getElem?_cons_zero,Option.getD_some]
    exact hk
theorem aiJ {Γ:Env} {f:FuncId} {nt:Nat} {ac:AC} {rs:List X0} (hb:Has Γ.P f nt ac rs) {args xs ys:List V} {sz m:Nat} (ha:args.length + 1≤nt)
    (h:∀ C:Ctx,C.env = Γ→C.m = 1→AWp C nt ac { t:=(UW (.hd 0 0 xs.length :: args) []).t,o:=abA [(0,.buf true sz xs)],n:=1 } (ad8 1 rs (.hd 0 0 m) [.buf true sz ys]) (fun _ _=>False) (ad8 1 rs (.hd 0 0 m) [.buf true sz ys])):EvZ Γ f args sz xs m ys:=by
  refine ⟨jc hb (by simpa using ha) fun C hC hm=>?_⟩
  refine (congrArg (fun s=>AWp C nt ac s _ _ _) ?_).mp (h C hC hm)
  simp only [UW]
  congr 1
  funext k
  match k with
  | 0=>rfl
  | k + 1=>simp [abA]
theorem amh {rs:List X0} {s:St} {xs ys:List V} {sz m n:Nat} (vs:List V) (h:adH s rs = some vs) (ho:s.o 0 = some (.buf true sz xs)) (hc:ajB vs = .hd 0 0 n) (hn:n = m) (hx:xs = ys):ad8 1 rs (.hd 0 0 m) [.buf true sz ys] s:=by
  subst hx;subst hn
  exact wt rs vs _ h ⟨[0],none,by rw [hc];simp [conv],⟨⟨_,ho,fun h=>h,rfl,rfl⟩,trivial⟩,by simp,rfl⟩
end Av
end
section
set_option linter.unusedSimpArgs false
set_option linter.unusedVariables false
set_option maxRecDepth 10000
set_option maxHeartbeats 4000000
namespace Av
open Go
attribute [local irreducible] AWp WY Vp Vq awS awC V1 awQ Uh Q9 YQ VZ awR YT awB okR Ww ris
section
variable {α:Type}
def gK (lt:α→α→Bool) (out:List α) (x:α):Nat→Nat
  | 0=>0
  | k + 1=>if (match out[k]? with|some y=>lt x y|none=>false) = true then gK lt out x k else k + 1
theorem aox (lt:α→α→Bool) (out:List α) (x:α):∀ k,gK lt out x k≤k
  | 0=>Nat.le_refl _
  | k + 1=>by
    rw [gK]
    by_cases h:(match out[k]? with|some y=>lt x y|none=>false) = true
    · rw [if_pos h];exact Nat.le_succ_of_le (aox lt out x k)
    · rw [if_neg h];exact Nat.le_refl _
def agD (lt:α→α→Bool) (out:List α) (x:α):List α:=out.take (gK lt out x out.length)++[x]++out.drop (gK lt out x out.length)
def Uq (lt:α→α→Bool) (l:List α):List α:=l.foldl (agD lt) []
theorem ani (lt:α→α→Bool) (out:List α) (x:α):(agD lt out x).length = out.length + 1:=by
  have:=aox lt out x out.length
  simp [agD];omega
theorem ahA (lt:α→α→Bool):∀ (l out:List α),(l.foldl (agD lt) out).length = out.length + l.length
  | [],out=>by simp
  | x :: r,out=>by rw [List.foldl_cons,ahA lt r,ani];simp;omega
theorem yy (lt:α→α→Bool) (l:List α):(Uq lt l).length = l.length:=by rw [Uq,ahA];simp
theorem al5 (lt:α→α→Bool) (x:α):Uq lt [x] = [x]:=by simp [Uq,agD,gK]
theorem anh {lt:α→α→Bool} {out:List α} {x y:α}:y∈agD lt out x↔y = x∨y∈out:=by
  have:y∈out↔y∈out.take (gK lt out x out.length)∨y∈out.drop (gK lt out x out.length):=by
    rw [← List.mem_append,List.take_append_drop]
  simp only [agD,List.mem_append,List.mem_singleton,this]
  constructor
  · rintro ((h|h)|h)
    · exact .inr (.inl h)
    · exact .inl h
    · exact .inr (.inr h)
  · rintro (h|h|h)
    · exact .inl (.inr h)
    · exact .inl (.inl h)
    · exact .inr h
theorem ahz {lt:α→α→Bool} {y:α}:∀ (l out:List α),y∈l.foldl (agD lt) out↔y∈out∨y∈l
  | [],out=>by simp
  | x :: r,out=>by
    rw [List.foldl_cons,ahz r,anh,List.mem_cons]
    constructor
    · rintro ((h|h)|h)
      · exact .inr (.inl h)
      · exact .inl h
      · exact .inr (.inr h)
    · rintro (h|h|h)
      · exact .inl (.inr h)
      · exact .inl (.inl h)
      · exact .inr h
theorem abM {lt:α→α→Bool} {y:α} {l:List α}:y∈Uq lt l↔y∈l:=by rw [Uq,ahz];simp
theorem al9 {lt:α→α→Bool} {out:List α} {x:α}:(agD lt out x).Perm (x :: out):=by
  have h:(out.take (gK lt out x out.length)++out.drop (gK lt out x out.length)).Perm out:=by rw [List.take_append_drop]
  rw [agD,List.append_assoc,List.singleton_append]
  exact List.perm_middle.trans (h.cons x)
theorem af3 {lt:α→α→Bool}:∀ (l out:List α),(l.foldl (agD lt) out).Perm (l++out)
  | [],out=>by simp
  | x :: r,out=>by
    rw [List.foldl_cons,List.cons_append]
    exact ((af3 r (agD lt out x)).trans (List.Perm.append_left r al9)).trans List.perm_middle
theorem akr {lt:α→α→Bool} {l:List α}:(Uq lt l).Perm l:=by have:=af3 (lt:=lt) l [];rwa [List.append_nil] at this
def Ord (lt:α→α→Bool) (l:List α):Prop:=l.Pairwise fun x y=>lt y x = false
theorem al8 {lt:α→α→Bool} {out:List α} {x:α}:∀ k,k≤out.length→(∀ j,gK lt out x k≤j→j < k→∀ y,out[j]? = some y→lt x y = true)∧(0 < gK lt out x k→∀ y,out[gK lt out x k - 1]? = some y→lt x y = false)
  | 0,_=>⟨fun j h1 h2=>by omega,fun h=>by simp [gK] at h⟩
  | k + 1,hk=>by
    obtain ⟨i1,i2⟩:=al8 (lt:=lt) (out:=out) (x:=x) k (by omega)
    have hy:out[k]? = some out[k]:=List.getElem?_eq_getElem (by omega)
    simp only [gK,hy]
    split
    · rename_i h
      refine ⟨fun j h1 h2 y e=>?_,i2⟩
      by_cases hj:j = k
      · subst hj;rw [hy] at e;cases e;exact h
      · exact i1 j h1 (by omega) y e
    · rename_i h
      refine ⟨fun j h1 h2=>by omega,fun _ y e=>?_⟩
      rw [Nat.add_sub_cancel,hy] at e;cases e
      simpa using h
theorem ang {lt:α→α→Bool} (htr:∀ x y z,lt y x = false→lt z y = false→lt z x = false) (has:∀ x y,lt x y = true→lt y x = false) {out:List α} {x:α} (h:Ord lt out):Ord lt (agD lt out x):=by
  obtain ⟨h1,h2⟩:=al8 (lt:=lt) (out:=out) (x:=x) out.length (Nat.le_refl _)
  have hle:=aox lt out x out.length
  unfold Ord agD at *
  generalize gK lt out x out.length = k at *
  have hto:(out.take k).Pairwise fun x y=>lt y x = false:=h.sublist (List.take_sublist _ _)
  have hdr:(out.drop k).Pairwise fun x y=>lt y x = false:=h.sublist (List.drop_sublist _ _)
  have hcr:∀ a∈out.take k,∀ b∈out.drop k,lt b a = false:=by
    have:=h
    rw [← List.take_append_drop k out,List.pairwise_append] at this
    exact this.2.2
  have hx1:∀ a∈out.take k,lt x a = false:=by
    intro a ha
    rcases Nat.eq_zero_or_pos k with hk|hk
    · subst hk;simp at ha
    · have hlast:out[k - 1]? = some out[k - 1]:=List.getElem?_eq_getElem (by omega)
      have hxl:=h2 hk _ hlast
      obtain ⟨i,hi,rfl⟩:=List.getElem_of_mem ha
      simp only [List.length_take] at hi
      rw [List.getElem_take]
      by_cases e:i = k - 1
      · subst e;exact hxl
      · have:=(List.pairwise_iff_getElem.1 h) i (k - 1) (by omega) (by omega) (by omega)
        exact htr _ _ _ this hxl
  have hx2:∀ b∈out.drop k,lt b x = false:=by
    intro b hb
    obtain ⟨i,hi,rfl⟩:=List.getElem_of_mem hb
    rw [List.getElem_drop]
    simp only [List.length_drop] at hi
    exact has _ _ (h1 (k + i) (by omega) (by omega) _ (List.getElem?_eq_getElem (by omega)))
  rw [List.append_assoc,List.singleton_append,List.pairwise_append]
  refine ⟨hto,List.pairwise_cons.2 ⟨hx2,hdr⟩,fun a ha b hb=>?_⟩
  rcases List.mem_cons.1 hb with rfl|hb
  · exact hx1 a ha
  · exact hcr a ha b hb
theorem ahy {lt:α→α→Bool} (htr:∀ x y z,lt y x = false→lt z y = false→lt z x = false) (has:∀ x y,lt x y = true→lt y x = false):∀ (l out:List α),Ord lt out→Ord lt (l.foldl (agD lt) out)
  | [],_,h=>h
  | x :: r,out,h=>ahy htr has r _ (ang htr has h)
theorem ahF {lt:α→α→Bool} (htr:∀ x y z,lt y x = false→lt z y = false→lt z x = false) (has:∀ x y,lt x y = true→lt y x = false) (l:List α):Ord lt (Uq lt l):=ahy htr has l [] List.Pairwise.nil
def wu (lt:α→α→Bool) (xs:List α) (a i:Nat):List α:=xs.take a++(Uq lt ((xs.take i).drop a)++xs.drop i)
theorem ahG {lt:α→α→Bool} {xs:List α} {a:Nat} (h:a < xs.length):wu lt xs a (a + 1) = xs:=by
  have e:(xs.take (a + 1)).drop a = [xs[a]]:=by
    rw [List.take_add_one,List.getElem?_eq_getElem h,List.drop_append_of_le_length (by simp;omega),List.drop_eq_nil_of_le (by simp;omega)];rfl
  rw [wu,e,al5,List.singleton_append,← List.drop_eq_getElem_cons h,List.take_append_drop]
theorem al7 {lt:α→α→Bool} (xs:List α):wu lt xs 0 xs.length = Uq lt xs:=by simp [wu]
def U3 (P S:List α) (x:α) (R:List α) (q:Nat):List α:=P++(S.take q++x :: (S.drop q++R))
theorem ahE {P S R:List α} {x:α} {q:Nat}:(U3 P S x R q).length = P.length + S.length + 1 + R.length:=by
  simp only [U3,List.length_append,List.length_cons,List.length_take,List.length_drop];omega
theorem al4 {P S R:List α} {x:α} {q:Nat} (h:q≤S.length):(U3 P S x R q)[P.length + q]? = some x:=by
  have:(S.take q).length = q:=by simp;omega
  rw [U3,List.getElem?_append_right (by omega),List.getElem?_append_right (by omega),this]
  simp
theorem al3 {P S R:List α} {x:α} {q:Nat} (h:q < S.length):(U3 P S x R (q + 1))[P.length + q]? = some S[q]:=by
  rw [U3,List.getElem?_append_right (by omega),List.getElem?_append_left (by simp;omega),List.getElem?_take]
  simp [h]
theorem ajt (S y x:α) (T:List α):∀ A:List α,((A++y :: S :: T).set (A.length + 1) y).set A.length x = A++x :: y :: T
  | []=>rfl
  | z :: A=>by
    have:=ajt S y x T A
    simp only [List.cons_append,List.length_cons,List.set_cons_succ,this]
theorem ahD {P S R:List α} {x:α} {q:Nat} (h:q < S.length):((U3 P S x R (q + 1)).set (P.length + (q + 1)) S[q]).set (P.length + q) x = U3 P S x R q:=by
  have e1:S.take (q + 1) = S.take q++[S[q]]:=by rw [List.take_add_one,List.getElem?_eq_getElem h];rfl
  have e2:S.drop q = S[q] :: S.drop (q + 1):=List.drop_eq_getElem_cons h
  have e3:(S.take q).length = q:=by simp;omega
  have e4:U3 P S x R (q + 1) = (P++S.take q)++S[q] :: x :: (S.drop (q + 1)++R):=by rw [U3,e1];simp only [List.append_assoc,List.cons_append,List.nil_append]
  have e5:U3 P S x R q = (P++S.take q)++x :: S[q] :: (S.drop (q + 1)++R):=by rw [U3,e2];simp only [List.append_assoc,List.cons_append,List.nil_append]
  have hl:(P++S.take q).length = P.length + q:=by rw [List.length_append,e3]
  have hl2:P.length + (q + 1) = (P++S.take q).length + 1:=by omega
  rw [e4,e5,hl2,← hl]
  exact ajt _ _ _ _ _
theorem ajw {lt:α→α→Bool} {f:α→V} (xs:List α):(if 0 = xs.length then xs.map f else (wu lt xs 0 xs.length).map f) = (Uq lt xs).map f:=by
  split
  · rename_i h
    have:xs = []:=List.eq_nil_of_length_eq_zero h.symm
    subst this;rfl
  · rw [al7]
end
end Av
end
section
set_option linter.unusedSimpArgs false
set_option linter.unusedVariables false
set_option maxRecDepth 10000
set_option maxHeartbeats 4000000
namespace Av
open Go
attribute [local irreducible] AWp WY Vp Vq awS awC V1 awQ Uh Q9 YQ VZ awR YT awB okR Ww ris
def aiY (n:Int):Bool:=decide (n < 0) || decide (n > 99999)
def UL (v:List Int):Bool:=decide (1≤v.length) && decide (v.length≤4) && !v.any aiY
def qt:AC:=Qo [0] (.reg [mc 2 (V.bool false)]) (Qo [0] (Qo [0,5,6,7] (.reg [mv 5 0,ln 6 5,mc 7 (V.int 0)]) (.block 0 (X1 [0,5,6,7] (Qo [0,5,6,7,8] (.reg [bn 8 .lss 7 6]) (Qo [0,5,6,7] (.cond (.t 8) (.skip) (.exit 0)) (Qo [0,5,6,7] (.block 1 (Qo [0,4,5,6,7] (.reg [ia 9 1 5 7,ld 10 1 9,mv 4 10]) (Qo [0,5,6,7,16] (.reg [mv 11 4,bc 12 .lss 11 (V.int 0),mv 13 12,mg 14 4 13 false,xg 15 (.bin .gtr (.t 14) (.c (V.int 99999))) 13 false,xo 16 (.pick (.t 13) (.c (V.bool true)) (.t 15))]) (.cond (.t 16) (Qo [2] (.reg [mc 2 (V.bool false)]) (.ret)) (.skip))))) (.reg [bc 17 .add 7 (V.int 1),mv 7 17]))))))) (Qo [2] (.reg [mv 18 0,ln 19 18,bc 20 .geq 19 (V.int 1),mv 21 20,mg 22 0 21 true,xg 23 (.lenL (.t 22)) 21 true,xg 24 (.bin .leq (.t 23) (.c (V.int 4))) 21 true,xo 25 (.pick (.t 21) (.t 24) (.c (V.bool false))),mv 2 25]) (.ret))) def r_packages_version:List X0:=[.tmp 2]
def WE (Γ:Env) (f:Nat):Prop:=∀ (v:List Int) (hv:v.length < 2 ^ 62),EvN Γ f [.sl 1 (v.map V.int)] (V.bool (UL v))
theorem aa0 {Γ:Env} {f:Nat} (h:Has Γ.P f 26 qt r_packages_version) :WE Γ f:=by
  intro v hv
  refine QQ h (by simp) (by simp only [V.closed,Qn,V.noSl,Jx,and_self,and_true,true_and]) (by simp only [V.closed,Qn,V.noSl,Jx,and_self,and_true,true_and]) fun C hC hm=>?_
  subst hC
  unfold qt
  repeat' (first|refine Qb fun K' hK=>?_|refine Qe fun K' hK=>?_|refine Qc ?_|refine Qd ?_|refine Qa ?_|((first|refine Qg ⟨_,rfl,fun hc=>?_,fun hc=>?_⟩|refine Qs (fun hc=>?_) (fun hc=>?_)|refine Qt (fun hc=>?_) (fun hc=>?_))<;>first|(cases hc;done)|((try simp only [znz] at hc);first|exact znf|skip))|refine Qi ?_|refine Qf ?_|simp (maxSteps:=1000000) only [go_sem]|(refine hK _ ?_;clear hK K')|apply And.intro|exact zlo|omega|exact zms)
  refine Xf (ι:=Nat) (fun k=>k≤v.length∧(v.drop k).any aiY = v.any aiY) (fun k=>[(7,V.int k)]) (fun k=>v.length - k) 0 (by omega) ⟨by omega,by simp⟩ (by repeat' first|exact We|refine Vk (by omega) (by simp only [Ob.lt,ltL,V.lt,and_self,and_true];try omega) ?_) (fun i hi=>by simp only [ovT,J5,Nat.reduceEqDiff,reduceIte];(repeat' first|exact Vj|refine Wd ?_ ?_|simp only [V.lt,ltL,and_self,and_true]|omega)) (by simp only [Nat.reduceAdd,ovT,J5,Nat.reduceEqDiff,reduceIte,JA,JW,qV,u32,u33,u34,u35,u36,u37,u38,u39,and_self,and_true,true_and];first|done|rfl) fun k hk K' hL=>?_
  obtain ⟨hk,hinv⟩:=hk
  simp only [ovT,J5,Nat.reduceEqDiff,reduceIte]
  rcases hd:v.drop k with _|⟨x,r⟩
  · have hkl:=Xx hd
    rw [hd] at hinv
    have e1:decide ((k:Int) < (((v.map V.int).length:Nat):Int)) = false:=by simp;omega
    have hok:UL v = (decide ((((v.map V.int).length:Nat):Int)≥1) && decide ((((v.map V.int).length:Nat):Int)≤4)):=by
      rw [UL,← hinv]
      simp only [List.any_nil,Bool.not_false,Bool.and_true,List.length_map]
      congr 1<;>(rw [decide_eq_decide];omega)
    rw [hok]
    rcases hq:decide ((((v.map V.int).length:Nat):Int)≥1) with _|_
    · repeat' (first|refine Qb fun K' hK=>?_|refine Qe fun K' hK=>?_|refine Qc ?_|refine Qd ?_|refine Qa ?_|((first|refine Qg ⟨_,rfl,fun hc=>?_,fun hc=>?_⟩|refine Qs (fun hc=>?_) (fun hc=>?_)|refine Qt (fun hc=>?_) (fun hc=>?_))<;>first|(cases hc;done)|((try simp only [znz] at hc);first|exact znf|skip))|refine Qi ?_|refine Qf ?_|simp (maxSteps:=1000000) only [go_sem,e1,hq]|(refine hK _ ?_;clear hK K')|apply And.intro|exact zlo|omega|exact zms)
      all_goals first|(refine QM _ rfl ?_;simp only [go_sem];done)
    · repeat' (first|refine Qb fun K' hK=>?_|refine Qe fun K' hK=>?_|refine Qc ?_|refine Qd ?_|refine Qa ?_|((first|refine Qg ⟨_,rfl,fun hc=>?_,fun hc=>?_⟩|refine Qs (fun hc=>?_) (fun hc=>?_)|refine Qt (fun hc=>?_) (fun hc=>?_))<;>first|(cases hc;done)|((try simp only [znz] at hc);first|exact znf|skip))|refine Qi ?_|refine Qf ?_|simp (maxSteps:=1000000) only [go_sem,e1,hq]|(refine hK _ ?_;clear hK K')|apply And.intro|exact zlo|omega|exact zms)
      all_goals first|(refine QM _ rfl ?_;simp only [go_sem];done)|(refine QM _ rfl ?_;simp only [go_sem];simp;done)
  · obtain ⟨hk',hget,hr⟩:=Yy hd
    rw [hd] at hinv
    have hw:=Jq (k:=k) (by omega)
    have e1:decide ((k:Int) < (((v.map V.int).length:Nat):Int)) = true:=by simp;omega
    rcases h1:decide (x < 0) with _|_
    · rcases h2:decide (x > 99999) with _|_
      · repeat' (first|refine Qb fun K' hK=>?_|refine Qe fun K' hK=>?_|refine Qc ?_|refine Qd ?_|refine Qa ?_|((first|refine Qg ⟨_,rfl,fun hc=>?_,fun hc=>?_⟩|refine Qs (fun hc=>?_) (fun hc=>?_)|refine Qt (fun hc=>?_) (fun hc=>?_))<;>first|(cases hc;done)|((try simp only [znz] at hc);first|exact znf|skip))|refine Qi ?_|refine Qf ?_|simp (maxSteps:=1000000) only [go_sem,e1,hw,Int.toNat_natCast,List.getElem?_map,hget,h1,h2]|(refine hK _ ?_;clear hK K')|apply And.intro|exact zlo|omega|exact zms)
        all_goals
          refine hL _ (k + 1) (by simp only [Nat.reduceAdd,ovT,J5,Nat.reduceEqDiff,reduceIte,JA,JW,qV,u32,u33,u34,u35,u36,u37,u38,u39,and_self,and_true,true_and]) ⟨by omega,?_⟩ (by omega) (fun a ha=>by simp only [u32,u33,u34,u35,u36,u37,u38,u39];repeat rw [if_neg (by omega)])
          rw [hr,← hinv];simp only [List.any_cons,aiY,h1,h2,Bool.or_self,Bool.false_or]
      · have hbad:UL v = false:=by rw [UL,← hinv];simp only [List.any_cons,aiY,h2,Bool.or_true,Bool.true_or,Bool.not_true,Bool.and_false]
        rw [hbad]
        repeat' (first|refine Qb fun K' hK=>?_|refine Qe fun K' hK=>?_|refine Qc ?_|refine Qd ?_|refine Qa ?_|((first|refine Qg ⟨_,rfl,fun hc=>?_,fun hc=>?_⟩|refine Qs (fun hc=>?_) (fun hc=>?_)|refine Qt (fun hc=>?_) (fun hc=>?_))<;>first|(cases hc;done)|((try simp only [znz] at hc);first|exact znf|skip))|refine Qi ?_|refine Qf ?_|simp (maxSteps:=1000000) only [go_sem,e1,hw,Int.toNat_natCast,List.getElem?_map,hget,h1,h2]|(refine hK _ ?_;clear hK K')|apply And.intro|exact zlo|omega|exact zms)
        all_goals first|(refine QM _ rfl ?_;simp only [go_sem];done)
    · have hbad:UL v = false:=by rw [UL,← hinv];simp only [List.any_cons,aiY,h1,Bool.or_true,Bool.true_or,Bool.not_true,Bool.and_false]
      rw [hbad]
      repeat' (first|refine Qb fun K' hK=>?_|refine Qe fun K' hK=>?_|refine Qc ?_|refine Qd ?_|refine Qa ?_|((first|refine Qg ⟨_,rfl,fun hc=>?_,fun hc=>?_⟩|refine Qs (fun hc=>?_) (fun hc=>?_)|refine Qt (fun hc=>?_) (fun hc=>?_))<;>first|(cases hc;done)|((try simp only [znz] at hc);first|exact znf|skip))|refine Qi ?_|refine Qf ?_|simp (maxSteps:=1000000) only [go_sem,e1,hw,Int.toNat_natCast,List.getElem?_map,hget,h1]|(refine hK _ ?_;clear hK K')|apply And.intro|exact zlo|omega|exact zms)
      all_goals first|(refine QM _ rfl ?_;simp only [go_sem];done)
def wB:AC:=Qo [0] (.reg [mc 2 (V.bool false)]) (Qo [0] (Qo [0,11] (.reg [mv 4 0,ln 5 4,bc 6 .lss 5 (V.int 1),mv 7 6,mg 8 0 7 false,xg 9 (.lenL (.t 8)) 7 false,xg 10 (.bin .gtr (.t 9) (.c (V.int 4))) 7 false,xo 11 (.pick (.t 7) (.c (V.bool true)) (.t 10))]) (.cond (.t 11) (Qo [2] (.reg [mc 2 (V.bool false)]) (.ret)) (.skip))) (Qo [] (Qo [0,3] (.reg [mc 3 (V.int 0)]) (.block 0 (X1 [0,3] (Qo [0,3] (Qo [0,3,15] (.reg [mv 12 3,mv 13 0,ln 14 13,bn 15 .lss 12 14]) (.cond (.t 15) (.skip) (.exit 0))) (Qo [0,3] (.block 1 (Qo [0,3,29] (.reg [mv 18 0,mv 19 3,ia 20 1 18 19,ld 21 1 20,bc 22 .lss 21 (V.int 0),mv 23 22,mg 24 0 23 false,mg 25 3 23 false,xg 26 (.iaddr 1 (.t 24) (.t 25)) 23 false,xg 27 (.load false 1 (.t 26)) 23 false,xg 28 (.bin .gtr (.t 27) (.c (V.int 99999))) 23 false,xo 29 (.pick (.t 23) (.c (V.bool true)) (.t 28))]) (.cond (.t 29) (Qo [2] (.reg [mc 2 (V.bool false)]) (.ret)) (.skip)))) (.reg [mv 16 3,bc 17 .add 16 (V.int 1),mv 3 17])))))) (Qo [2] (.reg [mc 2 (V.bool true)]) (.ret)))) def r_ref12_right:List X0:=[.tmp 2]
def jE (Γ:Env) (f:Nat):Prop:=∀ (v:List Int) (hv:v.length < 2 ^ 62),EvN Γ f [.sl 1 (v.map V.int)] (V.bool (UL v))
theorem afp {Γ:Env} {f:Nat} (h:Has Γ.P f 30 wB r_ref12_right) :jE Γ f:=by
  intro v hv
  refine QQ h (by simp) (by simp only [V.closed,Qn,V.noSl,Jx,and_self,and_true,true_and]) (by simp only [V.closed,Qn,V.noSl,Jx,and_self,and_true,true_and]) fun C hC hm=>?_
  subst hC
  unfold wB
  rcases hq:decide ((((v.map V.int).length:Nat):Int) < 1) with _|_
  · rcases hq2:decide ((((v.map V.int).length:Nat):Int) > 4) with _|_
    · have hl:UL v = !v.any aiY:=by
        simp only [decide_eq_false_iff_not,List.length_map] at hq hq2
        rw [UL,decide_eq_true (by omega),decide_eq_true (by omega)];rfl
      rw [hl]
      repeat' (first|refine Qb fun K' hK=>?_|refine Qe fun K' hK=>?_|refine Qc ?_|refine Qd ?_|refine Qa ?_|((first|refine Qg ⟨_,rfl,fun hc=>?_,fun hc=>?_⟩|refine Qs (fun hc=>?_) (fun hc=>?_)|refine Qt (fun hc=>?_) (fun hc=>?_))<;>first|(cases hc;done)|((try simp only [znz] at hc);first|exact znf|skip))|refine Qi ?_|refine Qf ?_|simp (maxSteps:=1000000) only [go_sem,hq,hq2]|(refine hK _ ?_;clear hK K')|apply And.intro|exact zlo|omega|exact zms)
      refine Xf (ι:=Nat) (fun k=>k≤v.length∧(v.drop k).any aiY = v.any aiY) (fun k=>[(3,V.int k)]) (fun k=>v.length - k) 0 (by omega) ⟨by omega,by simp⟩ (by repeat' first|exact We|refine Vk (by omega) (by simp only [Ob.lt,ltL,V.lt,and_self,and_true];try omega) ?_) (fun i hi=>by simp only [ovT,J5,Nat.reduceEqDiff,reduceIte];(repeat' first|exact Vj|refine Wd ?_ ?_|simp only [V.lt,ltL,and_self,and_true]|omega)) (by simp only [Nat.reduceAdd,ovT,J5,Nat.reduceEqDiff,reduceIte,JA,JW,qV,u32,u33,u34,u35,u36,u37,u38,u39,and_self,and_true,true_and];first|done|rfl) fun k hk K' hL=>?_
      obtain ⟨hk,hinv⟩:=hk
      simp only [ovT,J5,Nat.reduceEqDiff,reduceIte]
      rcases hd:v.drop k with _|⟨x,r⟩
      · have hkl:=Xx hd
        rw [hd] at hinv
        have e1:decide ((k:Int) < (((v.map V.int).length:Nat):Int)) = false:=by simp;omega
        rw [← hinv]
        repeat' (first|refine Qb fun K' hK=>?_|refine Qe fun K' hK=>?_|refine Qc ?_|refine Qd ?_|refine Qa ?_|((first|refine Qg ⟨_,rfl,fun hc=>?_,fun hc=>?_⟩|refine Qs (fun hc=>?_) (fun hc=>?_)|refine Qt (fun hc=>?_) (fun hc=>?_))<;>first|(cases hc;done)|((try simp only [znz] at hc);first|exact znf|skip))|refine Qi ?_|refine Qf ?_|simp (maxSteps:=1000000) only [go_sem,e1]|(refine hK _ ?_;clear hK K')|apply And.intro|exact zlo|omega|exact zms)
        all_goals first|(refine QM _ rfl ?_;simp only [go_sem];done)|(refine QM _ rfl ?_;simp only [go_sem];simp;done)
      · obtain ⟨hk',hget,hr⟩:=Yy hd
        rw [hd] at hinv
        have hw:=Jq (k:=k) (by omega)
        have e1:decide ((k:Int) < (((v.map V.int).length:Nat):Int)) = true:=by simp;omega
        rcases h1:decide (x < 0) with _|_
        · rcases h2:decide (x > 99999) with _|_
          · repeat' (first|refine Qb fun K' hK=>?_|refine Qe fun K' hK=>?_|refine Qc ?_|refine Qd ?_|refine Qa ?_|((first|refine Qg ⟨_,rfl,fun hc=>?_,fun hc=>?_⟩|refine Qs (fun hc=>?_) (fun hc=>?_)|refine Qt (fun hc=>?_) (fun hc=>?_))<;>first|(cases hc;done)|((try simp only [znz] at hc);first|exact znf|skip))|refine Qi ?_|refine Qf ?_|simp (maxSteps:=1000000) only [go_sem,e1,hw,Int.toNat_natCast,List.getElem?_map,hget,h1,h2]|(refine hK _ ?_;clear hK K')|apply And.intro|exact zlo|omega|exact zms)
            all_goals
              refine hL _ (k + 1) (by simp only [Nat.reduceAdd,ovT,J5,Nat.reduceEqDiff,reduceIte,JA,JW,qV,u32,u33,u34,u35,u36,u37,u38,u39,and_self,and_true,true_and]) ⟨by omega,?_⟩ (by omega) (fun a ha=>by simp only [u32,u33,u34,u35,u36,u37,u38,u39];repeat rw [if_neg (by omega)])
              rw [hr,← hinv];simp only [List.any_cons,aiY,h1,h2,Bool.or_self,Bool.false_or]
          · rw [← hinv]
            simp only [List.any_cons,aiY,h2,Bool.or_true,Bool.true_or,Bool.not_true]
            repeat' (first|refine Qb fun K' hK=>?_|refine Qe fun K' hK=>?_|refine Qc ?_|refine Qd ?_|refine Qa ?_|((first|refine Qg ⟨_,rfl,fun hc=>?_,fun hc=>?_⟩|refine Qs (fun hc=>?_) (fun hc=>?_)|refine Qt (fun hc=>?_) (fun hc=>?_))<;>first|(cases hc;done)|((try simp only [znz] at hc);first|exact znf|skip))|refine Qi ?_|refine Qf ?_|simp (maxSteps:=1000000) only [go_sem,e1,hw,Int.toNat_natCast,List.getElem?_map,hget,h1,h2]|(refine hK _ ?_;clear hK K')|apply And.intro|exact zlo|omega|exact zms)
            all_goals first|(refine QM _ rfl ?_;simp only [go_sem];done)
        · rw [← hinv]
          simp only [List.any_cons,aiY,h1,Bool.or_true,Bool.true_or,Bool.not_true]
          repeat' (first|refine Qb fun K' hK=>?_|refine Qe fun K' hK=>?_|refine Qc ?_|refine Qd ?_|refine Qa ?_|((first|refine Qg ⟨_,rfl,fun hc=>?_,fun hc=>?_⟩|refine Qs (fun hc=>?_) (fun hc=>?_)|refine Qt (fun hc=>?_) (fun hc=>?_))<;>first|(cases hc;done)|((try simp only [znz] at hc);first|exact znf|skip))|refine Qi ?_|refine Qf ?_|simp (maxSteps:=1000000) only [go_sem,e1,hw,Int.toNat_natCast,List.getElem?_map,hget,h1]|(refine hK _ ?_;clear hK K')|apply And.intro|exact zlo|omega|exact zms)
          all_goals first|(refine QM _ rfl ?_;simp only [go_sem];done)
    · have hl:UL v = false:=by
        simp only [decide_eq_true_eq,List.length_map] at hq2
        rw [UL,decide_eq_false (show ¬ v.length≤4 by omega),Bool.and_false];rfl
      rw [hl]
      repeat' (first|refine Qb fun K' hK=>?_|refine Qe fun K' hK=>?_|refine Qc ?_|refine Qd ?_|refine Qa ?_|((first|refine Qg ⟨_,rfl,fun hc=>?_,fun hc=>?_⟩|refine Qs (fun hc=>?_) (fun hc=>?_)|refine Qt (fun hc=>?_) (fun hc=>?_))<;>first|(cases hc;done)|((try simp only [znz] at hc);first|exact znf|skip))|refine Qi ?_|refine Qf ?_|simp (maxSteps:=1000000) only [go_sem,hq,hq2]|(refine hK _ ?_;clear hK K')|apply And.intro|exact zlo|omega|exact zms)
      all_goals first|(refine QM _ rfl ?_;simp only [go_sem];done)
  · have hl:UL v = false:=by
      simp only [decide_eq_true_eq,List.length_map] at hq
      rw [UL,decide_eq_false (show ¬ 1≤v.length by omega)];rfl
    rw [hl]
    repeat' (first|refine Qb fun K' hK=>?_|refine Qe fun K' hK=>?_|refine Qc ?_|refine Qd ?_|refine Qa ?_|((first|refine Qg ⟨_,rfl,fun hc=>?_,fun hc=>?_⟩|refine Qs (fun hc=>?_) (fun hc=>?_)|refine Qt (fun hc=>?_) (fun hc=>?_))<;>first|(cases hc;done)|((try simp only [znz] at hc);first|exact znf|skip))|refine Qi ?_|refine Qf ?_|simp (maxSteps:=1000000) only [go_sem,hq]|(refine hK _ ?_;clear hK K')|apply And.intro|exact zlo|omega|exact zms)
    all_goals first|(refine QM _ rfl ?_;simp only [go_sem];done)
def yF:AC:=Qo [0,1] (.reg [mc 4 (V.int 0)]) (Qo [] (Qo [0,1,8] (.reg [mv 5 1,mv 6 0,ln 7 6,bn 8 .lss 5 7]) (.cond (.t 8) (Qo [4] (.reg [mv 9 0,mv 10 1,ia 11 1 9 10,ld 12 1 11,mv 4 12]) (.ret)) (.skip))) (Qo [4] (.reg [mc 4 (V.int 0)]) (.ret))) def r_packages_part:List X0:=[.tmp 4]
def j8 (Γ:Env) (f:Nat):Prop:=∀ (v:List Int) (i:Nat) (hi:i < 2 ^ 62),EvN Γ f [.sl 1 (v.map V.int),V.int i] (V.int (v.getD i 0))
theorem adL {Γ:Env} {f:Nat} (h:Has Γ.P f 13 yF r_packages_part) :j8 Γ f:=by
  intro v i hi
  refine QQ h (by simp) (by simp only [V.closed,Qn,V.noSl,Jx,and_self,and_true,true_and]) (by simp only [V.closed,Qn,V.noSl,Jx,and_self,and_true,true_and]) fun C hC hm=>?_
  subst hC
  unfold yF
  by_cases h:i < v.length
  · have e1:decide ((i:Int) < (((v.map V.int).length:Nat):Int)) = true:=by simp;omega
    have hget:v[i]? = some (v.getD i 0):=by simp [List.getD_eq_getElem?_getD,List.getElem?_eq_getElem h]
    repeat' (first|refine Qb fun K' hK=>?_|refine Qe fun K' hK=>?_|refine Qc ?_|refine Qd ?_|refine Qa ?_|((first|refine Qg ⟨_,rfl,fun hc=>?_,fun hc=>?_⟩|refine Qs (fun hc=>?_) (fun hc=>?_)|refine Qt (fun hc=>?_) (fun hc=>?_))<;>first|(cases hc;done)|((try simp only [znz] at hc);first|exact znf|skip))|refine Qi ?_|refine Qf ?_|simp (maxSteps:=1000000) only [go_sem,e1,Int.toNat_natCast,List.getElem?_map,hget]|(refine hK _ ?_;clear hK K')|apply And.intro|exact zlo|omega|exact zms)
    all_goals first|(refine QM _ rfl ?_;simp only [go_sem];done)
  · have e1:decide ((i:Int) < (((v.map V.int).length:Nat):Int)) = false:=by simp;omega
    have hget:v.getD i 0 = 0:=by simp [List.getD_eq_getElem?_getD,List.getElem?_eq_none (Nat.not_lt.1 h)]
    rw [hget]
    repeat' (first|refine Qb fun K' hK=>?_|refine Qe fun K' hK=>?_|refine Qc ?_|refine Qd ?_|refine Qa ?_|((first|refine Qg ⟨_,rfl,fun hc=>?_,fun hc=>?_⟩|refine Qs (fun hc=>?_) (fun hc=>?_)|refine Qt (fun hc=>?_) (fun hc=>?_))<;>first|(cases hc;done)|((try simp only [znz] at hc);first|exact znf|skip))|refine Qi ?_|refine Qf ?_|simp (maxSteps:=1000000) only [go_sem,e1]|(refine hK _ ?_;clear hK K')|apply And.intro|exact zlo|omega|exact zms)
    all_goals first|(refine QM _ rfl ?_;simp only [go_sem];done)
def vK:AC:=Qo [0,1] (.reg [mc 4 (V.int 0)]) (Qo [] (Qo [0,1,8] (.reg [mv 5 1,mv 6 0,ln 7 6,bn 8 .lss 5 7]) (.cond (.t 8) (Qo [4] (.reg [mv 9 0,mv 10 1,ia 11 1 9 10,ld 12 1 11,mv 4 12]) (.ret)) (.skip))) (Qo [4] (.reg [mc 4 (V.int 0)]) (.ret))) def r_ref12_part:List X0:=[.tmp 4]
def wS (Γ:Env) (f:Nat):Prop:=∀ (v:List Int) (i:Nat) (hi:i < 2 ^ 62),EvN Γ f [.sl 1 (v.map V.int),V.int i] (V.int (v.getD i 0))
theorem agI {Γ:Env} {f:Nat} (h:Has Γ.P f 13 vK r_ref12_part) :wS Γ f:=by
  intro v i hi
  refine QQ h (by simp) (by simp only [V.closed,Qn,V.noSl,Jx,and_self,and_true,true_and]) (by simp only [V.closed,Qn,V.noSl,Jx,and_self,and_true,true_and]) fun C hC hm=>?_
  subst hC
  unfold vK
  by_cases h:i < v.length
  · have e1:decide ((i:Int) < (((v.map V.int).length:Nat):Int)) = true:=by simp;omega
    have hget:v[i]? = some (v.getD i 0):=by simp [List.getD_eq_getElem?_getD,List.getElem?_eq_getElem h]
    repeat' (first|refine Qb fun K' hK=>?_|refine Qe fun K' hK=>?_|refine Qc ?_|refine Qd ?_|refine Qa ?_|((first|refine Qg ⟨_,rfl,fun hc=>?_,fun hc=>?_⟩|refine Qs (fun hc=>?_) (fun hc=>?_)|refine Qt (fun hc=>?_) (fun hc=>?_))<;>first|(cases hc;done)|((try simp only [znz] at hc);first|exact znf|skip))|refine Qi ?_|refine Qf ?_|simp (maxSteps:=1000000) only [go_sem,e1,Int.toNat_natCast,List.getElem?_map,hget]|(refine hK _ ?_;clear hK K')|apply And.intro|exact zlo|omega|exact zms)
    all_goals first|(refine QM _ rfl ?_;simp only [go_sem];done)
  · have e1:decide ((i:Int) < (((v.map V.int).length:Nat):Int)) = false:=by simp;omega
    have hget:v.getD i 0 = 0:=by simp [List.getD_eq_getElem?_getD,List.getElem?_eq_none (Nat.not_lt.1 h)]
    rw [hget]
    repeat' (first|refine Qb fun K' hK=>?_|refine Qe fun K' hK=>?_|refine Qc ?_|refine Qd ?_|refine Qa ?_|((first|refine Qg ⟨_,rfl,fun hc=>?_,fun hc=>?_⟩|refine Qs (fun hc=>?_) (fun hc=>?_)|refine Qt (fun hc=>?_) (fun hc=>?_))<;>first|(cases hc;done)|((try simp only [znz] at hc);first|exact znf|skip))|refine Qi ?_|refine Qf ?_|simp (maxSteps:=1000000) only [go_sem,e1]|(refine hK _ ?_;clear hK K')|apply And.intro|exact zlo|omega|exact zms)
    all_goals first|(refine QM _ rfl ?_;simp only [go_sem];done)
def anU (x y:Int):Int:=if x < y then -1 else if x > y then 1 else 0
def yL:AC:=Qo [0] (.reg [mc 2 (V.bool false)]) (Qo [2] (.reg [mv 3 0,mv 4 0,bn 5 .neq 3 4,mv 2 5]) (.ret)) def r_cmp_isNaN_int:List X0:=[.tmp 2]
def KC (Γ:Env) (f:Nat):Prop:=∀ (x:Int),EvN Γ f [V.int x] (V.bool false)
theorem adS {Γ:Env} {f:Nat} (h:Has Γ.P f 6 yL r_cmp_isNaN_int) :KC Γ f:=by
  intro x
  refine QQ h (by simp) (by simp only [V.closed,Qn,V.noSl,Jx,and_self,and_true,true_and]) (by simp only [V.closed,Qn,V.noSl,Jx,and_self,and_true,true_and]) fun C hC hm=>?_
  subst hC
  unfold yL
  have e:(x != x) = false:=by simp
  repeat' (first|refine Qb fun K' hK=>?_|refine Qe fun K' hK=>?_|refine Qc ?_|refine Qd ?_|refine Qa ?_|((first|refine Qg ⟨_,rfl,fun hc=>?_,fun hc=>?_⟩|refine Qs (fun hc=>?_) (fun hc=>?_)|refine Qt (fun hc=>?_) (fun hc=>?_))<;>first|(cases hc;done)|((try simp only [znz] at hc);first|exact znf|skip))|refine Qi ?_|refine Qf ?_|simp (maxSteps:=1000000) only [go_sem,e]|(refine hK _ ?_;clear hK K')|apply And.intro|exact zlo|omega|exact zms)
  all_goals first|(refine QM _ rfl ?_;simp only [go_sem];done)
def jm (Xd:Nat):AC:=Qo [0,1] (.reg [mc 4 (V.int 0)]) (Qo [0,1,5] (.reg [mv 7 0,cl 8 Xd [7],mv 5 8]) (Qo [0,1,5,6] (.reg [mv 9 1,cl 10 Xd [9],mv 6 10]) (Qo [0,1,6] (Qo [0,1,6,11] (.reg [mv 11 5]) (.cond (.t 11) (Qo [] (Qo [12] (.reg [mv 12 6]) (.cond (.t 12) (Qo [4] (.reg [mc 4 (V.int 0)]) (.ret)) (.skip))) (Qo [4] (.reg [mc 4 (V.int (-1))]) (.ret))) (.skip))) (Qo [0,1] (Qo [0,1,13] (.reg [mv 13 6]) (.cond (.t 13) (Qo [4] (.reg [mc 4 (V.int 1)]) (.ret)) (.skip))) (Qo [0,1] (Qo [0,1,16] (.reg [mv 14 0,mv 15 1,bn 16 .lss 14 15]) (.cond (.t 16) (Qo [4] (.reg [mc 4 (V.int (-1))]) (.ret)) (.skip))) (Qo [] (Qo [19] (.reg [mv 17 0,mv 18 1,bn 19 .gtr 17 18]) (.cond (.t 19) (Qo [4] (.reg [mc 4 (V.int 1)]) (.ret)) (.skip))) (Qo [4] (.reg [mc 4 (V.int 0)]) (.ret)))))))) def r_cmp_Compare_int:List X0:=[.tmp 4]
def qQ (Γ:Env) (f:Nat):Prop:=∀ (x y:Int),EvN Γ f [V.int x,V.int y] (V.int (anU x y))
theorem abX {Γ:Env} {f Xd:Nat} (h:Has Γ.P f 20 (jm Xd) r_cmp_Compare_int) (UQ:KC Γ Xd):qQ Γ f:=by
  intro x y
  refine QQ h (by simp) (by simp only [V.closed,Qn,V.noSl,Jx,and_self,and_true,true_and]) (by simp only [V.closed,Qn,V.noSl,Jx,and_self,and_true,true_and]) fun C hC hm=>?_
  subst hC
  unfold jm
  unfold anU
  by_cases h1:x < y
  · have e1:decide (x < y) = true:=decide_eq_true h1
    rw [if_pos h1]
    repeat' (first|refine Qb fun K' hK=>?_|refine Qe fun K' hK=>?_|refine Qc ?_|refine Qd ?_|refine Qa ?_|((first|refine Qg ⟨_,rfl,fun hc=>?_,fun hc=>?_⟩|refine Qs (fun hc=>?_) (fun hc=>?_)|refine Qt (fun hc=>?_) (fun hc=>?_))<;>first|(cases hc;done)|((try simp only [znz] at hc);first|exact znf|skip))|refine Qi ?_|refine Qf ?_|simp (maxSteps:=1000000) only [go_sem,e1]|(refine hK _ ?_;clear hK K')|apply And.intro|(apply Qv;(focus first|exact (UQ _).b))|exact zlo|omega|exact zms)
    all_goals first|(refine QM _ rfl ?_;simp only [go_sem];done)
  · have e1:decide (x < y) = false:=decide_eq_false h1
    rw [if_neg h1]
    by_cases h2:x > y
    · have e2:decide (x > y) = true:=decide_eq_true h2
      rw [if_pos h2]
      repeat' (first|refine Qb fun K' hK=>?_|refine Qe fun K' hK=>?_|refine Qc ?_|refine Qd ?_|refine Qa ?_|((first|refine Qg ⟨_,rfl,fun hc=>?_,fun hc=>?_⟩|refine Qs (fun hc=>?_) (fun hc=>?_)|refine Qt (fun hc=>?_) (fun hc=>?_))<;>first|(cases hc;done)|((try simp only [znz] at hc);first|exact znf|skip))|refine Qi ?_|refine Qf ?_|simp (maxSteps:=1000000) only [go_sem,e1,e2]|(refine hK _ ?_;clear hK K')|apply And.intro|(apply Qv;(focus first|exact (UQ _).b))|exact zlo|omega|exact zms)
      all_goals first|(refine QM _ rfl ?_;simp only [go_sem];done)
    · have e2:decide (x > y) = false:=decide_eq_false h2
      rw [if_neg h2]
      repeat' (first|refine Qb fun K' hK=>?_|refine Qe fun K' hK=>?_|refine Qc ?_|refine Qd ?_|refine Qa ?_|((first|refine Qg ⟨_,rfl,fun hc=>?_,fun hc=>?_⟩|refine Qs (fun hc=>?_) (fun hc=>?_)|refine Qt (fun hc=>?_) (fun hc=>?_))<;>first|(cases hc;done)|((try simp only [znz] at hc);first|exact znf|skip))|refine Qi ?_|refine Qf ?_|simp (maxSteps:=1000000) only [go_sem,e1,e2]|(refine hK _ ?_;clear hK K')|apply And.intro|(apply Qv;(focus first|exact (UQ _).b))|exact zlo|omega|exact zms)
      all_goals first|(refine QM _ rfl ?_;simp only [go_sem];done)
def amo:Nat→Nat→List Int→List Int→Int
  | 0,_,_,_=>0
  | n + 1,k,a,b=>if anU (a.getD k 0) (b.getD k 0)≠0 then anU (a.getD k 0) (b.getD k 0) else amo n (k + 1) a b
def anr (a b:List Int):Int:=amo (max a.length b.length) 0 a b
theorem ahV {n k:Nat} {a b:List Int} (h:k < n):amo (n - k) k a b = if anU (a.getD k 0) (b.getD k 0)≠0 then anU (a.getD k 0) (b.getD k 0) else amo (n - (k + 1)) (k + 1) a b:=by
  obtain ⟨m,hm⟩:∃ m,n - k = m + 1:=⟨n - k - 1,by omega⟩
  have:n - (k + 1) = m:=by omega
  rw [hm,this,amo]
def qw (US U5:Nat):AC:=Qo [0,1] (.reg [mc 4 (V.int 0)]) (Qo [] (Qo [0,1,11,12] (.reg [mv 7 0,ln 8 7,mv 9 1,ln 10 9,xo 11 (.mm true [(.t 8),(.t 10)]),mc 12 (V.int 0)]) (.block 0 (X1 [0,1,11,12] (Qo [0,1,11,12,13] (.reg [bn 13 .lss 12 11]) (Qo [0,1,11,12] (.cond (.t 13) (.skip) (.exit 0)) (Qo [0,1,11,12] (.block 1 (Qo [0,1,5,11,12] (.reg [mv 14 12,mv 5 14]) (Qo [0,1,6,11,12] (.reg [mv 15 0,mv 16 5,cl 17 US [15,16],mv 18 1,mv 19 5,cl 20 US [18,19],cl 21 U5 [17,20],mv 6 21]) (Qo [0,1,6,11,12,23] (.reg [mv 22 6,bc 23 .neq 22 (V.int 0)]) (.cond (.t 23) (Qo [4] (.reg [mv 24 6,mv 4 24]) (.ret)) (.skip)))))) (.reg [bc 25 .add 12 (V.int 1),mv 12 25]))))))) (Qo [4] (.reg [mc 4 (V.int 0)]) (.ret))) def r_packages_Compare:List X0:=[.tmp 4]
def Uj (Γ:Env) (f:Nat):Prop:=∀ (a b:List Int) (ha:a.length < 2 ^ 60) (hb:b.length < 2 ^ 60),EvN Γ f [.sl 1 (a.map V.int),.sl 1 (b.map V.int)] (V.int (anr a b))
theorem aa3 {Γ:Env} {f US U5:Nat} (h:Has Γ.P f 26 (qw US U5) r_packages_Compare) (VL:j8 Γ US) (VM:qQ Γ U5):Uj Γ f:=by
  intro a b ha hb
  refine QQ h (by simp) (by simp only [V.closed,Qn,V.noSl,Jx,and_self,and_true,true_and]) (by simp only [V.closed,Qn,V.noSl,Jx,and_self,and_true,true_and]) fun C hC hm=>?_
  subst hC
  unfold qw
  have hmx:(if (((a.map V.int).length:Nat):Int) < (((b.map V.int).length:Nat):Int) then (((b.map V.int).length:Nat):Int) else (((a.map V.int).length:Nat):Int)) = ((max a.length b.length:Nat):Int):=by
    simp only [List.length_map]
    split<;>omega
  unfold anr
  generalize hn:max a.length b.length = n at *
  have hnn:n < 2 ^ 61:=by omega
  repeat' (first|refine Qb fun K' hK=>?_|refine Qe fun K' hK=>?_|refine Qc ?_|refine Qd ?_|refine Qa ?_|((first|refine Qg ⟨_,rfl,fun hc=>?_,fun hc=>?_⟩|refine Qs (fun hc=>?_) (fun hc=>?_)|refine Qt (fun hc=>?_) (fun hc=>?_))<;>first|(cases hc;done)|((try simp only [znz] at hc);first|exact znf|skip))|refine Qi ?_|refine Qf ?_|simp (maxSteps:=1000000) only [go_sem,List.foldl_cons,List.foldl_nil,List.all_cons,List.all_nil,x9,hmx]|(refine hK _ ?_;clear hK K')|apply And.intro|(apply Qv;(focus first|exact (VL _ _ zsd).b|exact (VM _ _).b))|exact zlo|omega|exact zms)
  refine Xf (ι:=Nat) (fun k=>k≤n∧amo (n - k) k a b = amo n 0 a b) (fun k=>[(12,V.int k)]) (fun k=>n - k) 0 (by omega) ⟨by omega,by simp⟩ (by repeat' first|exact We|refine Vk (by omega) (by simp only [Ob.lt,ltL,V.lt,and_self,and_true];try omega) ?_) (fun i hi=>by simp only [ovT,J5,Nat.reduceEqDiff,reduceIte];(repeat' first|exact Vj|refine Wd ?_ ?_|simp only [V.lt,ltL,and_self,and_true]|omega)) (by simp only [Nat.reduceAdd,ovT,J5,Nat.reduceEqDiff,reduceIte,JA,JW,qV,u32,u33,u34,u35,u36,u37,u38,u39,and_self,and_true,true_and];first|done|rfl) fun k hk K' hL=>?_
  obtain ⟨hk,hinv⟩:=hk
  simp only [ovT,J5,Nat.reduceEqDiff,reduceIte]
  by_cases hkn:k = n
  · subst hkn
    have e1:decide ((k:Int) < (k:Int)) = false:=by simp
    have e2:amo k 0 a b = 0:=by rw [← hinv,Nat.sub_self];rfl
    rw [e2]
    repeat' (first|refine Qb fun K' hK=>?_|refine Qe fun K' hK=>?_|refine Qc ?_|refine Qd ?_|refine Qa ?_|((first|refine Qg ⟨_,rfl,fun hc=>?_,fun hc=>?_⟩|refine Qs (fun hc=>?_) (fun hc=>?_)|refine Qt (fun hc=>?_) (fun hc=>?_))<;>first|(cases hc;done)|((try simp only [znz] at hc);first|exact znf|skip))|refine Qi ?_|refine Qf ?_|simp (maxSteps:=1000000) only [go_sem,e1]|(refine hK _ ?_;clear hK K')|apply And.intro|(apply Qv;(focus first|exact (VL _ _ zsd).b|exact (VM _ _).b))|exact zlo|omega|exact zms)
    all_goals first|(refine QM _ rfl ?_;simp only [go_sem];done)
  · have e1:decide ((k:Int) < (n:Int)) = true:=by simp;omega
    have hw:=Jq (k:=k) (by omega)
    rw [ahV (by omega)] at hinv
    have p1:=(VL a k (by omega)).b
    have p2:=(VL b k (by omega)).b
    have p3:=(VM (a.getD k 0) (b.getD k 0)).b
    generalize anU (a.getD k 0) (b.getD k 0) = c at *
    by_cases hc0:c = 0
    · subst hc0
      rw [if_neg (by simp)] at hinv
      repeat' (first|refine Qb fun K' hK=>?_|refine Qe fun K' hK=>?_|refine Qc ?_|refine Qd ?_|refine Qa ?_|((first|refine Qg ⟨_,rfl,fun hc=>?_,fun hc=>?_⟩|refine Qs (fun hc=>?_) (fun hc=>?_)|refine Qt (fun hc=>?_) (fun hc=>?_))<;>first|(cases hc;done)|((try simp only [znz] at hc);first|exact znf|skip))|refine Qi ?_|refine Qf ?_|simp (maxSteps:=1000000) only [go_sem,e1,hw]|(refine hK _ ?_;clear hK K')|apply And.intro|(apply Qv;(focus first|exact p1|exact p2|exact p3|exact (VL _ _ zsd).b|exact (VM _ _).b))|exact zlo|omega|exact zms)
      all_goals first|exact hL _ (k + 1) (by simp only [Nat.reduceAdd,ovT,J5,Nat.reduceEqDiff,reduceIte,JA,JW,qV,u32,u33,u34,u35,u36,u37,u38,u39,and_self,and_true,true_and]) ⟨by omega,hinv⟩ (by omega) (fun a ha=>by simp only [u32,u33,u34,u35,u36,u37,u38,u39];repeat rw [if_neg (by omega)])
    · rw [if_pos hc0] at hinv
      have e2:(c != 0) = true:=by simpa using hc0
      rw [← hinv]
      repeat' (first|refine Qb fun K' hK=>?_|refine Qe fun K' hK=>?_|refine Qc ?_|refine Qd ?_|refine Qa ?_|((first|refine Qg ⟨_,rfl,fun hc=>?_,fun hc=>?_⟩|refine Qs (fun hc=>?_) (fun hc=>?_)|refine Qt (fun hc=>?_) (fun hc=>?_))<;>first|(cases hc;done)|((try simp only [znz] at hc);first|exact znf|skip))|refine Qi ?_|refine Qf ?_|simp (maxSteps:=1000000) only [go_sem,e1,e2,hw]|(refine hK _ ?_;clear hK K')|apply And.intro|(apply Qv;(focus first|exact p1|exact p2|exact p3|exact (VL _ _ zsd).b|exact (VM _ _).b))|exact zlo|omega|exact zms)
      all_goals first|(refine QM _ rfl ?_;simp only [go_sem];done)
def yD (jJ:Nat):AC:=Qo [0,1] (.reg [mc 4 (V.int 0)]) (Qo [] (Qo [0,1,5] (.reg [mc 5 (V.int 0)]) (.block 0 (X1 [0,1,5] (Qo [0,1,5] (Qo [0,1,5,17] (.reg [mv 8 5,mv 9 0,ln 10 9,bn 11 .lss 8 10,mv 12 11,mg 13 5 12 false,mg 14 1 12 false,xg 15 (.lenL (.t 14)) 12 false,xg 16 (.bin .lss (.t 13) (.t 15)) 12 false,xo 17 (.pick (.t 12) (.c (V.bool true)) (.t 16))]) (.cond (.t 17) (.skip) (.exit 0))) (Qo [0,1,5] (.block 1 (Qo [0,1,5,6,7] (.reg [mv 20 0,mv 21 5,cl 22 jJ [20,21],mv 23 1,mv 24 5,cl 25 jJ [23,24],mv 6 22,mv 7 25]) (Qo [0,1,5,6,7,28] (.reg [mv 26 6,mv 27 7,bn 28 .lss 26 27]) (.cond (.t 28) (Qo [4] (.reg [mc 4 (V.int (-1))]) (.ret)) (Qo [0,1,5,31] (.reg [mv 29 6,mv 30 7,bn 31 .gtr 29 30]) (.cond (.t 31) (Qo [4] (.reg [mc 4 (V.int 1)]) (.ret)) (.skip))))))) (.reg [mv 18 5,bc 19 .add 18 (V.int 1),mv 5 19])))))) (Qo [4] (.reg [mc 4 (V.int 0)]) (.ret))) def r_ref12_Compare:List X0:=[.tmp 4]
def j6 (Γ:Env) (f:Nat):Prop:=∀ (a b:List Int) (ha:a.length < 2 ^ 60) (hb:b.length < 2 ^ 60),EvN Γ f [.sl 1 (a.map V.int),.sl 1 (b.map V.int)] (V.int (anr a b))
theorem adJ {Γ:Env} {f jJ:Nat} (h:Has Γ.P f 32 (yD jJ) r_ref12_Compare) (Vc:wS Γ jJ):j6 Γ f:=by
  intro a b ha hb
  refine QQ h (by simp) (by simp only [V.closed,Qn,V.noSl,Jx,and_self,and_true,true_and]) (by simp only [V.closed,Qn,V.noSl,Jx,and_self,and_true,true_and]) fun C hC hm=>?_
  subst hC
  unfold yD
  unfold anr
  have hna:a.length≤max a.length b.length:=Nat.le_max_left _ _
  have hnb:b.length≤max a.length b.length:=Nat.le_max_right _ _
  have hmn:max a.length b.length = a.length∨max a.length b.length = b.length:=by omega
  generalize hn:max a.length b.length = n at *
  have hnn:n < 2 ^ 61:=by omega
  repeat' (first|refine Qb fun K' hK=>?_|refine Qe fun K' hK=>?_|refine Qc ?_|refine Qd ?_|refine Qa ?_|((first|refine Qg ⟨_,rfl,fun hc=>?_,fun hc=>?_⟩|refine Qs (fun hc=>?_) (fun hc=>?_)|refine Qt (fun hc=>?_) (fun hc=>?_))<;>first|(cases hc;done)|((try simp only [znz] at hc);first|exact znf|skip))|refine Qi ?_|refine Qf ?_|simp (maxSteps:=1000000) only [go_sem]|(refine hK _ ?_;clear hK K')|apply And.intro|(apply Qv;(focus first|exact (Vc _ _ zsd).b))|exact zlo|omega|exact zms)
  refine Xf (ι:=Nat) (fun k=>k≤n∧amo (n - k) k a b = amo n 0 a b) (fun k=>[(5,V.int k)]) (fun k=>n - k) 0 (by omega) ⟨by omega,by simp⟩ (by repeat' first|exact We|refine Vk (by omega) (by simp only [Ob.lt,ltL,V.lt,and_self,and_true];try omega) ?_) (fun i hi=>by simp only [ovT,J5,Nat.reduceEqDiff,reduceIte];(repeat' first|exact Vj|refine Wd ?_ ?_|simp only [V.lt,ltL,and_self,and_true]|omega)) (by simp only [Nat.reduceAdd,ovT,J5,Nat.reduceEqDiff,reduceIte,JA,JW,qV,u32,u33,u34,u35,u36,u37,u38,u39,and_self,and_true,true_and];first|done|rfl) fun k hk K' hL=>?_
  obtain ⟨hk,hinv⟩:=hk
  simp only [ovT,J5,Nat.reduceEqDiff,reduceIte]
  by_cases hkn:k = n
  · subst hkn
    have e1:decide ((k:Int) < (((a.map V.int).length:Nat):Int)) = false:=by simp;omega
    have e3:decide ((k:Int) < (((b.map V.int).length:Nat):Int)) = false:=by simp;omega
    have e2:amo k 0 a b = 0:=by rw [← hinv,Nat.sub_self];rfl
    rw [e2]
    repeat' (first|refine Qb fun K' hK=>?_|refine Qe fun K' hK=>?_|refine Qc ?_|refine Qd ?_|refine Qa ?_|((first|refine Qg ⟨_,rfl,fun hc=>?_,fun hc=>?_⟩|refine Qs (fun hc=>?_) (fun hc=>?_)|refine Qt (fun hc=>?_) (fun hc=>?_))<;>first|(cases hc;done)|((try simp only [znz] at hc);first|exact znf|skip))|refine Qi ?_|refine Qf ?_|simp (maxSteps:=1000000) only [go_sem,e1,e3]|(refine hK _ ?_;clear hK K')|apply And.intro|(apply Qv;(focus first|exact (Vc _ _ zsd).b))|exact zlo|omega|exact zms)
    all_goals first|(refine QM _ rfl ?_;simp only [go_sem];done)
  · have hw:=Jq (k:=k) (by omega)
    rw [ahV (by omega)] at hinv
    have p1:=(Vc a k (by omega)).b
    have p2:=(Vc b k (by omega)).b
    have htest:decide ((k:Int) < (((a.map V.int).length:Nat):Int)) = true∨(decide ((k:Int) < (((a.map V.int).length:Nat):Int)) = false∧decide ((k:Int) < (((b.map V.int).length:Nat):Int)) = true):=by
      simp only [decide_eq_true_eq,decide_eq_false_iff_not,List.length_map];omega
    generalize a.getD k 0 = x at *
    generalize b.getD k 0 = y at *
    unfold anU at hinv
    by_cases h1:x < y
    · have f1:decide (x < y) = true:=decide_eq_true h1
      rw [if_pos h1,if_pos (by decide)] at hinv
      rw [← hinv]
      rcases htest with e1|⟨e1,e3⟩
      · repeat' (first|refine Qb fun K' hK=>?_|refine Qe fun K' hK=>?_|refine Qc ?_|refine Qd ?_|refine Qa ?_|((first|refine Qg ⟨_,rfl,fun hc=>?_,fun hc=>?_⟩|refine Qs (fun hc=>?_) (fun hc=>?_)|refine Qt (fun hc=>?_) (fun hc=>?_))<;>first|(cases hc;done)|((try simp only [znz] at hc);first|exact znf|skip))|refine Qi ?_|refine Qf ?_|simp (maxSteps:=1000000) only [go_sem,e1,f1,hw]|(refine hK _ ?_;clear hK K')|apply And.intro|(apply Qv;(focus first|exact p1|exact p2|exact (Vc _ _ zsd).b))|exact zlo|omega|exact zms)
        all_goals first|(refine QM _ rfl ?_;simp only [go_sem];done)
      · repeat' (first|refine Qb fun K' hK=>?_|refine Qe fun K' hK=>?_|refine Qc ?_|refine Qd ?_|refine Qa ?_|((first|refine Qg ⟨_,rfl,fun hc=>?_,fun hc=>?_⟩|refine Qs (fun hc=>?_) (fun hc=>?_)|refine Qt (fun hc=>?_) (fun hc=>?_))<;>first|(cases hc;done)|((try simp only [znz] at hc);first|exact znf|skip))|refine Qi ?_|refine Qf ?_|simp (maxSteps:=1000000) only [go_sem,e1,e3,f1,hw]|(refine hK _ ?_;clear hK K')|apply And.intro|(apply Qv;(focus first|exact p1|exact p2|exact (Vc _ _ zsd).b))|exact zlo|omega|exact zms)
        all_goals first|(refine QM _ rfl ?_;simp only [go_sem];done)
    · have f1:decide (x < y) = false:=decide_eq_false h1
      rw [if_neg h1] at hinv
      by_cases h2:x > y
      · have f2:decide (x > y) = true:=decide_eq_true h2
        rw [if_pos h2,if_pos (by decide)] at hinv
        rw [← hinv]
        rcases htest with e1|⟨e1,e3⟩
        · repeat' (first|refine Qb fun K' hK=>?_|refine Qe fun K' hK=>?_|refine Qc ?_|refine Qd ?_|refine Qa ?_|((first|refine Qg ⟨_,rfl,fun hc=>?_,fun hc=>?_⟩|refine Qs (fun hc=>?_) (fun hc=>?_)|refine Qt (fun hc=>?_) (fun hc=>?_))<;>first|(cases hc;done)|((try simp only [znz] at hc);first|exact znf|skip))|refine Qi ?_|refine Qf ?_|simp (maxSteps:=1000000) only [go_sem,e1,f1,f2,hw]|(refine hK _ ?_;clear hK K')|apply And.intro|(apply Qv;(focus first|exact p1|exact p2|exact (Vc _ _ zsd).b))|exact zlo|omega|exact zms)
          all_goals first|(refine QM _ rfl ?_;simp only [go_sem];done)
        · repeat' (first|refine Qb fun K' hK=>?_|refine Qe fun K' hK=>?_|refine Qc ?_|refine Qd ?_|refine Qa ?_|((first|refine Qg ⟨_,rfl,fun hc=>?_,fun hc=>?_⟩|refine Qs (fun hc=>?_) (fun hc=>?_)|refine Qt (fun hc=>?_) (fun hc=>?_))<;>first|(cases hc;done)|((try simp only [znz] at hc);first|exact znf|skip))|refine Qi ?_|refine Qf ?_|simp (maxSteps:=1000000) only [go_sem,e1,e3,f1,f2,hw]|(refine hK _ ?_;clear hK K')|apply And.intro|(apply Qv;(focus first|exact p1|exact p2|exact (Vc _ _ zsd).b))|exact zlo|omega|exact zms)
          all_goals first|(refine QM _ rfl ?_;simp only [go_sem];done)
      · have f2:decide (x > y) = false:=decide_eq_false h2
        rw [if_neg h2,if_neg (by simp)] at hinv
        rcases htest with e1|⟨e1,e3⟩
        · repeat' (first|refine Qb fun K' hK=>?_|refine Qe fun K' hK=>?_|refine Qc ?_|refine Qd ?_|refine Qa ?_|((first|refine Qg ⟨_,rfl,fun hc=>?_,fun hc=>?_⟩|refine Qs (fun hc=>?_) (fun hc=>?_)|refine Qt (fun hc=>?_) (fun hc=>?_))<;>first|(cases hc;done)|((try simp only [znz] at hc);first|exact znf|skip))|refine Qi ?_|refine Qf ?_|simp (maxSteps:=1000000) only [go_sem,e1,f1,f2,hw]|(refine hK _ ?_;clear hK K')|apply And.intro|(apply Qv;(focus first|exact p1|exact p2|exact (Vc _ _ zsd).b))|exact zlo|omega|exact zms)
          all_goals first|exact hL _ (k + 1) (by simp only [Nat.reduceAdd,ovT,J5,Nat.reduceEqDiff,reduceIte,JA,JW,qV,u32,u33,u34,u35,u36,u37,u38,u39,and_self,and_true,true_and]) ⟨by omega,hinv⟩ (by omega) (fun a ha=>by simp only [u32,u33,u34,u35,u36,u37,u38,u39];repeat rw [if_neg (by omega)])
        · repeat' (first|refine Qb fun K' hK=>?_|refine Qe fun K' hK=>?_|refine Qc ?_|refine Qd ?_|refine Qa ?_|((first|refine Qg ⟨_,rfl,fun hc=>?_,fun hc=>?_⟩|refine Qs (fun hc=>?_) (fun hc=>?_)|refine Qt (fun hc=>?_) (fun hc=>?_))<;>first|(cases hc;done)|((try simp only [znz] at hc);first|exact znf|skip))|refine Qi ?_|refine Qf ?_|simp (maxSteps:=1000000) only [go_sem,e1,e3,f1,f2,hw]|(refine hK _ ?_;clear hK K')|apply And.intro|(apply Qv;(focus first|exact p1|exact p2|exact (Vc _ _ zsd).b))|exact zlo|omega|exact zms)
          all_goals first|exact hL _ (k + 1) (by simp only [Nat.reduceAdd,ovT,J5,Nat.reduceEqDiff,reduceIte,JA,JW,qV,u32,u33,u34,u35,u36,u37,u38,u39,and_self,and_true,true_and]) ⟨by omega,hinv⟩ (by omega) (fun a ha=>by simp only [u32,u33,u34,u35,u36,u37,u38,u39];repeat rw [if_neg (by omega)])
abbrev ye (lo up:List Int):V:=.agg [.sl 1 (lo.map V.int),.sl 1 (up.map V.int)]
def inV (lo up v:List Int):Bool:=(lo.isEmpty || decide (anr v lo≥0)) && (up.isEmpty || decide (anr v up < 0))
theorem jL (l:List Int):((((l.map V.int).length:Nat):Int) == 0) = l.isEmpty:=by
  cases l with
  | nil=>rfl
  | cons x r=>simp;omega
def wG (YL:Nat):AC:=Qo [1,2] (.reg [xo 2 (.box true 2 (.t 0)),mc 4 (V.bool false)]) (Qo [4] (.reg [fa 5 0 2,ld 6 1 5,ln 7 6,bc 8 .eql 7 (V.int 0),mv 9 8,mg 10 1 9 false,xg 11 (.faddr 0 (.t 2)) 9 false,xg 12 (.load false 1 (.t 11)) 9 false,xg 13 (.call YL [(.t 10),(.t 12)]) 9 false,xg 14 (.bin .geq (.t 13) (.c (V.int 0))) 9 false,xo 15 (.pick (.t 9) (.c (V.bool true)) (.t 14)),mv 16 15,xg 17 (.faddr 1 (.t 2)) 16 true,xg 18 (.load false 1 (.t 17)) 16 true,xg 19 (.lenL (.t 18)) 16 true,xg 20 (.bin .eql (.t 19) (.c (V.int 0))) 16 true,mg 21 20 16 true,mg 22 1 21 false,xg 23 (.faddr 1 (.t 2)) 21 false,xg 24 (.load false 1 (.t 23)) 21 false,xg 25 (.call YL [(.t 22),(.t 24)]) 21 false,xg 26 (.bin .lss (.t 25) (.c (V.int 0))) 21 false,xg 27 (.pick (.t 21) (.c (V.bool true)) (.t 26)) 16 true,xo 28 (.pick (.t 16) (.t 27) (.c (V.bool false))),mv 4 28]) (.ret)) def r_packages_In:List X0:=[.tmp 4]
def Kw (Γ:Env) (f:Nat):Prop:=∀ (lo up v:List Int) (ha:lo.length < 2 ^ 60) (hb:up.length < 2 ^ 60) (hv:v.length < 2 ^ 60),EvN Γ f [ye lo up,.sl 1 (v.map V.int)] (V.bool (inV lo up v))
theorem afv {Γ:Env} {f YL:Nat} (h:Has Γ.P f 29 (wG YL) r_packages_In) (YE:Uj Γ YL):Kw Γ f:=by
  intro lo up v ha hb hv
  refine QQ h (by simp) (by simp only [V.closed,Qn,V.noSl,Jx,and_self,and_true,true_and]) (by simp only [V.closed,Qn,V.noSl,Jx,and_self,and_true,true_and]) fun C hC hm=>?_
  subst hC
  unfold wG
  have c1:=(YE v lo hv ha).b
  have c2:=(YE v up hv hb).b
  have e1:=jL lo
  have e2:=jL up
  unfold inV
  rcases h1:lo.isEmpty with _|_
  · rcases h2:decide (anr v lo≥0) with _|_
    · rw [h1] at e1
      repeat' (first|refine Qb fun K' hK=>?_|refine Qe fun K' hK=>?_|refine Qc ?_|refine Qd ?_|refine Qa ?_|((first|refine Qg ⟨_,rfl,fun hc=>?_,fun hc=>?_⟩|refine Qs (fun hc=>?_) (fun hc=>?_)|refine Qt (fun hc=>?_) (fun hc=>?_))<;>first|(cases hc;done)|((try simp only [znz] at hc);first|exact znf|skip))|refine Qi ?_|refine Qf ?_|simp (maxSteps:=1000000) only [go_sem,e1,e2,h1,h2]|(refine hK _ ?_;clear hK K')|apply And.intro|(apply Qv;(focus first|exact c1|exact c2|exact (YE _ _ zsd zsd).b))|exact zlo|omega|exact zms)
      all_goals first|(refine QM _ rfl ?_;simp only [go_sem];done)
    · rcases h3:up.isEmpty with _|_
      · rw [h1] at e1
        rw [h3] at e2
        repeat' (first|refine Qb fun K' hK=>?_|refine Qe fun K' hK=>?_|refine Qc ?_|refine Qd ?_|refine Qa ?_|((first|refine Qg ⟨_,rfl,fun hc=>?_,fun hc=>?_⟩|refine Qs (fun hc=>?_) (fun hc=>?_)|refine Qt (fun hc=>?_) (fun hc=>?_))<;>first|(cases hc;done)|((try simp only [znz] at hc);first|exact znf|skip))|refine Qi ?_|refine Qf ?_|simp (maxSteps:=1000000) only [go_sem,e1,e2,h1,h2,h3]|(refine hK _ ?_;clear hK K')|apply And.intro|(apply Qv;(focus first|exact c1|exact c2|exact (YE _ _ zsd zsd).b))|exact zlo|omega|exact zms)
        all_goals first|(refine QM _ rfl ?_;simp only [go_sem];done)|(refine QM _ rfl ?_;simp only [go_sem];simp;done)
      · rw [h1] at e1
        rw [h3] at e2
        repeat' (first|refine Qb fun K' hK=>?_|refine Qe fun K' hK=>?_|refine Qc ?_|refine Qd ?_|refine Qa ?_|((first|refine Qg ⟨_,rfl,fun hc=>?_,fun hc=>?_⟩|refine Qs (fun hc=>?_) (fun hc=>?_)|refine Qt (fun hc=>?_) (fun hc=>?_))<;>first|(cases hc;done)|((try simp only [znz] at hc);first|exact znf|skip))|refine Qi ?_|refine Qf ?_|simp (maxSteps:=1000000) only [go_sem,e1,e2,h1,h2,h3]|(refine hK _ ?_;clear hK K')|apply And.intro|(apply Qv;(focus first|exact c1|exact c2|exact (YE _ _ zsd zsd).b))|exact zlo|omega|exact zms)
        all_goals first|(refine QM _ rfl ?_;simp only [go_sem];done)|(refine QM _ rfl ?_;simp only [go_sem];simp;done)
  · rcases h3:up.isEmpty with _|_
    · rw [h1] at e1
      rw [h3] at e2
      repeat' (first|refine Qb fun K' hK=>?_|refine Qe fun K' hK=>?_|refine Qc ?_|refine Qd ?_|refine Qa ?_|((first|refine Qg ⟨_,rfl,fun hc=>?_,fun hc=>?_⟩|refine Qs (fun hc=>?_) (fun hc=>?_)|refine Qt (fun hc=>?_) (fun hc=>?_))<;>first|(cases hc;done)|((try simp only [znz] at hc);first|exact znf|skip))|refine Qi ?_|refine Qf ?_|simp (maxSteps:=1000000) only [go_sem,e1,e2,h1,h3]|(refine hK _ ?_;clear hK K')|apply And.intro|(apply Qv;(focus first|exact c1|exact c2|exact (YE _ _ zsd zsd).b))|exact zlo|omega|exact zms)
      all_goals first|(refine QM _ rfl ?_;simp only [go_sem];done)|(refine QM _ rfl ?_;simp only [go_sem];simp;done)
    · rw [h1] at e1
      rw [h3] at e2
      repeat' (first|refine Qb fun K' hK=>?_|refine Qe fun K' hK=>?_|refine Qc ?_|refine Qd ?_|refine Qa ?_|((first|refine Qg ⟨_,rfl,fun hc=>?_,fun hc=>?_⟩|refine Qs (fun hc=>?_) (fun hc=>?_)|refine Qt (fun hc=>?_) (fun hc=>?_))<;>first|(cases hc;done)|((try simp only [znz] at hc);first|exact znf|skip))|refine Qi ?_|refine Qf ?_|simp (maxSteps:=1000000) only [go_sem,e1,e2,h1,h3]|(refine hK _ ?_;clear hK K')|apply And.intro|(apply Qv;(focus first|exact c1|exact c2|exact (YE _ _ zsd zsd).b))|exact zlo|omega|exact zms)
      all_goals first|(refine QM _ rfl ?_;simp only [go_sem];done)|(refine QM _ rfl ?_;simp only [go_sem];simp;done)
def ac5 (UR:Nat):AC:=Qo [1,2] (.reg [xo 2 (.box true 2 (.t 0)),mc 4 (V.bool false)]) (Qo [4] (.reg [fa 5 0 2,ld 6 1 5,ln 7 6,bc 8 .eql 7 (V.int 0),mv 9 8,mg 10 1 9 false,xg 11 (.faddr 0 (.t 2)) 9 false,xg 12 (.load false 1 (.t 11)) 9 false,xg 13 (.call UR [(.t 10),(.t 12)]) 9 false,xg 14 (.bin .geq (.t 13) (.c (V.int 0))) 9 false,xo 15 (.pick (.t 9) (.c (V.bool true)) (.t 14)),mv 16 15,xg 17 (.faddr 1 (.t 2)) 16 true,xg 18 (.load false 1 (.t 17)) 16 true,xg 19 (.lenL (.t 18)) 16 true,xg 20 (.bin .eql (.t 19) (.c (V.int 0))) 16 true,mg 21 20 16 true,mg 22 1 21 false,xg 23 (.faddr 1 (.t 2)) 21 false,xg 24 (.load false 1 (.t 23)) 21 false,xg 25 (.call UR [(.t 22),(.t 24)]) 21 false,xg 26 (.bin .lss (.t 25) (.c (V.int 0))) 21 false,xg 27 (.pick (.t 21) (.c (V.bool true)) (.t 26)) 16 true,xo 28 (.pick (.t 16) (.t 27) (.c (V.bool false))),mv 4 28]) (.ret)) def r_ref12_In:List X0:=[.tmp 4]
def wU (Γ:Env) (f:Nat):Prop:=∀ (lo up v:List Int) (ha:lo.length < 2 ^ 60) (hb:up.length < 2 ^ 60) (hv:v.length < 2 ^ 60),EvN Γ f [ye lo up,.sl 1 (v.map V.int)] (V.bool (inV lo up v))
theorem aiG {Γ:Env} {f UR:Nat} (h:Has Γ.P f 29 (ac5 UR) r_ref12_In) (Vm:j6 Γ UR):wU Γ f:=by
  intro lo up v ha hb hv
  refine QQ h (by simp) (by simp only [V.closed,Qn,V.noSl,Jx,and_self,and_true,true_and]) (by simp only [V.closed,Qn,V.noSl,Jx,and_self,and_true,true_and]) fun C hC hm=>?_
  subst hC
  unfold ac5
  have c1:=(Vm v lo hv ha).b
  have c2:=(Vm v up hv hb).b
  have e1:=jL lo
  have e2:=jL up
  unfold inV
  rcases h1:lo.isEmpty with _|_
  · rcases h2:decide (anr v lo≥0) with _|_
    · rw [h1] at e1
      repeat' (first|refine Qb fun K' hK=>?_|refine Qe fun K' hK=>?_|refine Qc ?_|refine Qd ?_|refine Qa ?_|((first|refine Qg ⟨_,rfl,fun hc=>?_,fun hc=>?_⟩|refine Qs (fun hc=>?_) (fun hc=>?_)|refine Qt (fun hc=>?_) (fun hc=>?_))<;>first|(cases hc;done)|((try simp only [znz] at hc);first|exact znf|skip))|refine Qi ?_|refine Qf ?_|simp (maxSteps:=1000000) only [go_sem,e1,e2,h1,h2]|(refine hK _ ?_;clear hK K')|apply And.intro|(apply Qv;(focus first|exact c1|exact c2|exact (Vm _ _ zsd zsd).b))|exact zlo|omega|exact zms)
      all_goals first|(refine QM _ rfl ?_;simp only [go_sem];done)
    · rcases h3:up.isEmpty with _|_
      · rw [h1] at e1
        rw [h3] at e2
        repeat' (first|refine Qb fun K' hK=>?_|refine Qe fun K' hK=>?_|refine Qc ?_|refine Qd ?_|refine Qa ?_|((first|refine Qg ⟨_,rfl,fun hc=>?_,fun hc=>?_⟩|refine Qs (fun hc=>?_) (fun hc=>?_)|refine Qt (fun hc=>?_) (fun hc=>?_))<;>first|(cases hc;done)|((try simp only [znz] at hc);first|exact znf|skip))|refine Qi ?_|refine Qf ?_|simp (maxSteps:=1000000) only [go_sem,e1,e2,h1,h2,h3]|(refine hK _ ?_;clear hK K')|apply And.intro|(apply Qv;(focus first|exact c1|exact c2|exact (Vm _ _ zsd zsd).b))|exact zlo|omega|exact zms)
        all_goals first|(refine QM _ rfl ?_;simp only [go_sem];done)|(refine QM _ rfl ?_;simp only [go_sem];simp;done)
      · rw [h1] at e1
        rw [h3] at e2
        repeat' (first|refine Qb fun K' hK=>?_|refine Qe fun K' hK=>?_|refine Qc ?_|refine Qd ?_|refine Qa ?_|((first|refine Qg ⟨_,rfl,fun hc=>?_,fun hc=>?_⟩|refine Qs (fun hc=>?_) (fun hc=>?_)|refine Qt (fun hc=>?_) (fun hc=>?_))<;>first|(cases hc;done)|((try simp only [znz] at hc);first|exact znf|skip))|refine Qi ?_|refine Qf ?_|simp (maxSteps:=1000000) only [go_sem,e1,e2,h1,h2,h3]|(refine hK _ ?_;clear hK K')|apply And.intro|(apply Qv;(focus first|exact c1|exact c2|exact (Vm _ _ zsd zsd).b))|exact zlo|omega|exact zms)
        all_goals first|(refine QM _ rfl ?_;simp only [go_sem];done)|(refine QM _ rfl ?_;simp only [go_sem];simp;done)
  · rcases h3:up.isEmpty with _|_
    · rw [h1] at e1
      rw [h3] at e2
      repeat' (first|refine Qb fun K' hK=>?_|refine Qe fun K' hK=>?_|refine Qc ?_|refine Qd ?_|refine Qa ?_|((first|refine Qg ⟨_,rfl,fun hc=>?_,fun hc=>?_⟩|refine Qs (fun hc=>?_) (fun hc=>?_)|refine Qt (fun hc=>?_) (fun hc=>?_))<;>first|(cases hc;done)|((try simp only [znz] at hc);first|exact znf|skip))|refine Qi ?_|refine Qf ?_|simp (maxSteps:=1000000) only [go_sem,e1,e2,h1,h3]|(refine hK _ ?_;clear hK K')|apply And.intro|(apply Qv;(focus first|exact c1|exact c2|exact (Vm _ _ zsd zsd).b))|exact zlo|omega|exact zms)
      all_goals first|(refine QM _ rfl ?_;simp only [go_sem];done)|(refine QM _ rfl ?_;simp only [go_sem];simp;done)
    · rw [h1] at e1
      rw [h3] at e2
      repeat' (first|refine Qb fun K' hK=>?_|refine Qe fun K' hK=>?_|refine Qc ?_|refine Qd ?_|refine Qa ?_|((first|refine Qg ⟨_,rfl,fun hc=>?_,fun hc=>?_⟩|refine Qs (fun hc=>?_) (fun hc=>?_)|refine Qt (fun hc=>?_) (fun hc=>?_))<;>first|(cases hc;done)|((try simp only [znz] at hc);first|exact znf|skip))|refine Qi ?_|refine Qf ?_|simp (maxSteps:=1000000) only [go_sem,e1,e2,h1,h3]|(refine hK _ ?_;clear hK K')|apply And.intro|(apply Qv;(focus first|exact c1|exact c2|exact (Vm _ _ zsd zsd).b))|exact zlo|omega|exact zms)
      all_goals first|(refine QM _ rfl ?_;simp only [go_sem];done)|(refine QM _ rfl ?_;simp only [go_sem];simp;done)
end Av
end
section
set_option linter.unusedSimpArgs false
set_option linter.unusedVariables false
set_option maxRecDepth 10000
set_option maxHeartbeats 4000000
namespace Av
open Go
attribute [local irreducible] AWp WY Vp Vq awS awC V1 awQ Uh Q9 YQ VZ awR YT awB okR Ww ris
def aed (v:List Int):List UInt8:=([46]:List UInt8).intercalate (v.map Lib.itoa)
def aaH (v:List Int):V:=if UL v = true then .tup [V.str (aed v),V.int 0] else .tup [V.str [],V.int 22]
theorem aau (v:List Int):(aaH v).closed:=by unfold aaH;split<;>simp only [V.closed,Qn,and_self]
theorem adk (v:List Int):(aaH v).noSl:=by unfold aaH;split<;>simp only [V.noSl,Jx,and_self]
theorem abl {v:List Int} (h:UL v = true):1≤v.length∧v.length≤4∧∀ x∈v,0≤x∧x≤99999:=by
  simp only [UL,Bool.and_eq_true,decide_eq_true_eq,Bool.not_eq_true',List.any_eq_false] at h
  refine ⟨h.1.1,h.1.2,fun x hx=>?_⟩
  have:=h.2 x hx
  simp [aiY] at this;omega
theorem akq (c:UInt8):∀ (r:List (List UInt8)) (x:List UInt8),[c].intercalate (x :: r) = x++(r.map fun y=>c :: y).flatten:=ahq c
theorem ahr {n:Int} (h0:0≤n) (h1:n≤99999):(Lib.itoa n).length≤21:=Lib.itoa_length_le n (by omega) (by omega)
theorem ajz:∀ (r:List Int),(∀ x∈r,0≤x∧x≤99999)→((r.map Lib.itoa).map fun y=>(46:UInt8) :: y).flatten.length≤22 * r.length
  | [],_=>by simp
  | x :: r,h=>by
    have h1:=ahr (h x (by simp)).1 (h x (by simp)).2
    have h2:=ajz r (fun y hy=>h y (by simp [hy]))
    simp only [List.map_cons,List.flatten_cons,List.length_append,List.length_cons] at h2 ⊢
    omega
theorem aie {v:List Int} (h:UL v = true):(aed v).length≤100:=by
  obtain ⟨h1,h2,h3⟩:=abl h
  cases v with
  | nil=>simp at h1
  | cons x r =>
    have a:=ahr (h3 x (by simp)).1 (h3 x (by simp)).2
    have b:=ajz r (fun y hy=>h3 y (by simp [hy]))
    unfold aed
    rw [List.map_cons,akq,List.length_append]
    simp only [List.length_cons] at h2
    omega
def yH (Jp WI jy:Nat):AC:=Qo [0] (.reg [mc 2 (V.str []),mc 3 (V.int 0)]) (Qo [0] (Qo [0,9] (.reg [mv 7 0,cl 8 Jp [7],xo 9 (.un .not (.t 8))]) (.cond (.t 9) (Qo [2,3] (.reg [mc 2 (V.str []),mc 3 (V.int 22)]) (.ret)) (.skip))) (Qo [0,4] (.reg [xo 4 (.mknil 1)]) (Qo [4] (Qo [4,10,11,12] (.reg [mv 10 0,ln 11 10,mc 12 (V.int 0)]) (.block 0 (X1 [4,10,11,12] (Qo [4,10,11,12,13] (.reg [bn 13 .lss 12 11]) (Qo [4,10,11,12] (.cond (.t 13) (.skip) (.exit 0)) (Qo [4,10,11,12] (.block 1 (Qo [4,6,10,11,12] (.reg [ia 14 1 10 12,ld 15 1 14,mv 6 15]) (.reg [mv 16 4,mv 17 6,cl 18 WI [17],xo 19 (.bslice 1 1 false [(.string ⟨#[]⟩)] [(0,(.t 18))]),xo 20 (.append 1 16 [(.string ⟨#[]⟩)] (.t 16) (.t 19)),mv 4 20]))) (.reg [bc 21 .add 12 (V.int 1),mv 12 21]))))))) (Qo [2,3] (.reg [mv 22 4,xo 23 (.call jy [(.t 22),(.c (V.str [46]))]),mv 2 23,mc 3 (V.int 0)]) (.ret))))) def r_packages_Text:List X0:=[.tmp 2,.tmp 3]
def yb (Γ:Env) (f:Nat):Prop:=∀ (v:List Int) (hv:v.length < 2 ^ 60),EvN Γ f [.sl 1 (v.map V.int)] (aaH v)
theorem adO {Γ:Env} {f Jp WI jy:Nat} (h:Has Γ.P f 24 (yH Jp WI jy) r_packages_Text) (Jo:WE Γ Jp) (Xj:yU Γ WI) (Ko:vT Γ jy):yb Γ f:=by
  intro v hv
  refine QQ h (by simp) (by first|exact aau _|exact adk _) (by first|exact aau _|exact adk _) fun C hC hm=>?_
  subst hC
  unfold yH
  have g:=(Jo v (by omega)).b
  unfold aaH
  rcases hok:UL v with _|_
  · rw [hok] at g
    simp only [Bool.false_eq_true,if_false]
    repeat' (first|refine Qb fun K' hK=>?_|refine Qe fun K' hK=>?_|refine Qc ?_|refine Qd ?_|refine Qa ?_|((first|refine Qg ⟨_,rfl,fun hc=>?_,fun hc=>?_⟩|refine Qs (fun hc=>?_) (fun hc=>?_)|refine Qt (fun hc=>?_) (fun hc=>?_))<;>first|(cases hc;done)|((try simp only [znz] at hc);first|exact znf|skip))|refine Qi ?_|refine Qf ?_|simp (maxSteps:=1000000) only [go_sem]|(refine hK _ ?_;clear hK K')|apply And.intro|(apply Qv;(focus first|exact g|exact (Jo _ zsd).b|exact (Xj _ zsd zsd).b|exact (Ko _ _ zsd zsd).b))|exact zlo|omega|exact zms)
    all_goals first|(refine QM _ rfl ?_;simp only [go_sem];done)
  · rw [hok] at g
    simp only [if_true]
    obtain ⟨o1,o2,o3⟩:=abl hok
    have hl:=aie hok
    repeat' (first|refine Qb fun K' hK=>?_|refine Qe fun K' hK=>?_|refine Qc ?_|refine Qd ?_|refine Qa ?_|((first|refine Qg ⟨_,rfl,fun hc=>?_,fun hc=>?_⟩|refine Qs (fun hc=>?_) (fun hc=>?_)|refine Qt (fun hc=>?_) (fun hc=>?_))<;>first|(cases hc;done)|((try simp only [znz] at hc);first|exact znf|skip))|refine Qi ?_|refine Qf ?_|simp (maxSteps:=1000000) only [go_sem]|(refine hK _ ?_;clear hK K')|apply And.intro|(apply Qv;(focus first|exact g|exact (Jo _ zsd).b|exact (Xj _ zsd zsd).b|exact (Ko _ _ zsd zsd).b))|exact zlo|omega|exact zms)
    refine JR (ι:=Nat) (fun k=>k≤v.length) (fun k=>Xy [(4,.hd 0 0 ((v.take k).map Lib.itoa).length),(10,.sl 1 (v.map V.int)),(11,V.int (v.map V.int).length),(12,V.int k)] [(0,.buf true 1 (((v.take k).map Lib.itoa).map V.str))] 1) (fun k=>v.length - k) 0 (by omega) (QO [(0,5000)]) (JE [(0,5000)] (by simp only [go_sem,and_true,true_and,implies_true,Option.some.injEq,exists_eq_left',Qh,Qj];(repeat' (first|rfl|apply And.intro|omega|exact fun h=>h|exact Exists.intro _ rfl))) (by simp only [go_sem,and_true,true_and,implies_true,Option.some.injEq,exists_eq_left',Qh,Qj];(repeat' (first|rfl|apply And.intro|omega|exact fun h=>h|exact Exists.intro _ rfl))) (by simp [QO]) (by simp;omega) (by omega)) fun k hk K' hL=>?_
    rcases hd:v.drop k with _|⟨x,r⟩
    · have hkl:=Xx hd
      have e1:decide ((k:Int) < (((v.map V.int).length:Nat):Int)) = false:=by simp;omega
      have e3:v.take k = v:=List.take_of_length_le hkl
      rw [e3]
      have hjoin:=(Ko (v.map Lib.itoa) [46] (by simp;omega) (by show (aed v).length < 2 ^ 40;omega)).b
      have hj2:([46]:List UInt8).intercalate (v.map Lib.itoa) = aed v:=rfl
      rw [hj2] at hjoin
      repeat' (first|refine Qb fun K' hK=>?_|refine Qe fun K' hK=>?_|refine Qc ?_|refine Qd ?_|refine Qa ?_|((first|refine Qg ⟨_,rfl,fun hc=>?_,fun hc=>?_⟩|refine Qs (fun hc=>?_) (fun hc=>?_)|refine Qt (fun hc=>?_) (fun hc=>?_))<;>first|(cases hc;done)|((try simp only [znz] at hc);first|exact znf|skip))|refine Qi ?_|refine Qf ?_|simp (maxSteps:=1000000) only [go_sem,Xy,e1,VF]|(refine hK _ ?_;clear hK K')|apply And.intro|(apply Qv;(focus first|exact hjoin|exact (Jo _ zsd).b|exact (Xj _ zsd zsd).b|exact (Ko _ _ zsd zsd).b))|exact zlo|omega|exact zms)
      all_goals first|(refine QM _ rfl ?_;simp only [go_sem];done)
    · obtain ⟨hk',hget,hr⟩:=Yy hd
      have hw:=Jq (k:=k) (by omega)
      have e1:decide ((k:Int) < (((v.map V.int).length:Nat):Int)) = true:=by simp;omega
      have hx:=o3 x (List.mem_of_getElem? hget)
      have hns:(v.take (k + 1)).map Lib.itoa = (v.take k).map Lib.itoa++[Lib.itoa x]:=by rw [List.take_add_one,hget,List.map_append];rfl
      have hnl:((v.take k).map Lib.itoa).length≤4:=by simp;omega
      generalize (v.take k).map Lib.itoa = ns at *
      have hb:List.map V.str ns++[V.str (Lib.itoa x)] = (ns++[Lib.itoa x]).map V.str:=by rw [List.map_append];rfl
      have hln:ns.length + 1 = (ns++[Lib.itoa x]).length:=by simp
      repeat' (first|refine Qb fun K' hK=>?_|refine Qe fun K' hK=>?_|refine Qc ?_|refine Qd ?_|refine Qa ?_|((first|refine Qg ⟨_,rfl,fun hc=>?_,fun hc=>?_⟩|refine Qs (fun hc=>?_) (fun hc=>?_)|refine Qt (fun hc=>?_) (fun hc=>?_))<;>first|(cases hc;done)|((try simp only [znz] at hc);first|exact znf|skip))|refine Qi ?_|refine Qf ?_|simp (maxSteps:=1000000) only [go_sem,Xy,e1,hw,Int.toNat_natCast,List.getElem?_map,hget,VF,hb,hln]|(refine hK _ ?_;clear hK K')|apply And.intro|(apply Qv;(focus first|exact (Jo _ zsd).b|exact (Xj _ zsd zsd).b|exact (Ko _ _ zsd zsd).b))|exact zlo|omega|exact zms)
      all_goals first
        | (refine hL _ (k + 1) (QO [(0,8001)]) (by omega) (by omega) ?_
           rw [hns]
           exact JE [(0,8001)] (by simp only [go_sem,and_true,true_and,implies_true,Option.some.injEq,exists_eq_left',Qh,Qj];(repeat' (first|rfl|apply And.intro|omega|exact fun h=>h|exact Exists.intro _ rfl))) (by simp only [go_sem,and_true,true_and,implies_true,Option.some.injEq,exists_eq_left',Qh,Qj];(repeat' (first|rfl|apply And.intro|omega|exact fun h=>h|exact Exists.intro _ rfl))) (by simp [QO]) (by simp;omega) (by omega))
        | (simp only [List.length_append,List.length_singleton];omega)
end Av
end
section
set_option linter.unusedSimpArgs false
set_option linter.unusedVariables false
set_option maxRecDepth 10000
set_option maxHeartbeats 4000000
namespace Av
open Go
attribute [local irreducible] AWp WY Vp Vq awS awC V1 awQ Uh Q9 YQ VZ awR YT awB okR Ww ris
def aax (w:List UInt8):Bool:=(match Lib.atoiAll w with|.ok _=>true|_=>false) && (Lib.itoa (jo w) == w)
def amE (ws:List (List UInt8)):V:=if (ws.all aax && UL (ws.map jo)) = true then .tup [.sl 1 ((ws.map jo).map V.int),V.int 0] else .tup [.sl 1 [],V.int 22]
def apQ (s:List UInt8):V:=amE (Uk 46 s)
theorem aid (ws:List (List UInt8)):(amE ws).closed:=by unfold amE;split<;>simp only [V.closed,Qn,and_self]
theorem anx (w:List UInt8):-9223372036854775808≤jo w∧jo w≤9223372036854775807:=by
  unfold jo
  split
  · rename_i v h
    unfold Lib.atoiAll at h
    split at h
    · exact absurd h (by simp)
    · dsimp only at h
      split at h
      · exact absurd h (by simp)
      · exact absurd h (by simp)
      · rename_i u _
        split at h
        · exact absurd h (by simp)
        · split at h
          · exact absurd h (by simp)
          · rename_i h1 h2
            injection h with h
            subst h
            split<;>rename_i h3<;>simp only [h3,not_true_eq_false,not_false_eq_true,true_and,false_and] at h1 h2<;>omega
  · unfold Lib.atoiSat;split<;>omega
  · omega
def qu (qk jz WI Jp:Nat):AC:=Qo [0] (.reg [xo 2 (.mknil 1),mc 3 (V.int 0)]) (Qo [0,4] (.reg [xo 4 (.mknil 1)]) (Qo [4] (Qo [4,10,11,12] (.reg [mv 9 0,xo 10 (.call qk [(.t 9),(.c (V.str [46]))]),ln 11 10,mc 12 (V.int 0)]) (.block 0 (X1 [4,10,11,12] (Qo [4,10,11,12,13] (.reg [bn 13 .lss 12 11]) (Qo [4,10,11,12] (.cond (.t 13) (.skip) (.exit 0)) (Qo [4,10,11,12] (.block 1 (Qo [4,6,10,11,12] (.reg [ia 14 1 10 12,ld 15 1 14,mv 6 15]) (Qo [4,6,7,8,10,11,12] (.reg [mv 17 6,cl 18 jz [17],mv 16 18,ex 19 16 0,ex 20 16 1,mv 7 19,mv 8 20]) (Qo [4,7,10,11,12] (Qo [4,7,10,11,12,28] (.reg [mv 21 8,xo 22 (.isnilI true (.t 21)),mv 23 22,mg 24 7 23 false,xg 25 (.call WI [(.t 24)]) 23 false,mg 26 6 23 false,xg 27 (.bin .neq (.t 25) (.t 26)) 23 false,xo 28 (.pick (.t 23) (.c (V.bool true)) (.t 27))]) (.cond (.t 28) (Qo [2,3] (.reg [xo 2 (.mknil 1),mc 3 (V.int 22)]) (.ret)) (.skip))) (.reg [mv 29 4,mv 30 7,xo 31 (.bslice 1 1 false [(.int .i64 0)] [(0,(.t 30))]),xo 32 (.append 1 8 [(.int .i64 0)] (.t 29) (.t 31)),mv 4 32]))))) (.reg [bc 33 .add 12 (V.int 1),mv 12 33]))))))) (Qo [4] (Qo [4,36] (.reg [mv 34 4,cl 35 Jp [34],xo 36 (.un .not (.t 35))]) (.cond (.t 36) (Qo [2,3] (.reg [xo 2 (.mknil 1),mc 3 (V.int 22)]) (.ret)) (.skip))) (Qo [2,3] (.reg [mv 37 4,mv 2 37,mc 3 (V.int 0)]) (.ret))))) def r_packages_Version:List X0:=[.tmp 2,.tmp 3]
def KV (Γ:Env) (f:Nat):Prop:=∀ (s:List UInt8) (hs:s.length < 2 ^ 30),EvC Γ f [V.str s] (apQ s)
theorem aa1 {Γ:Env} {f qk jz WI Jp:Nat} (h:Has Γ.P f 38 (qu qk jz WI Jp) r_packages_Version) (Vl:vg Γ qk) (VG:vU Γ jz) (Xj:yU Γ WI) (Jo:WE Γ Jp):KV Γ f:=by
  intro s hs
  refine W1 h (by simp) (aid _) fun C hC hm=>?_
  subst hC
  unfold qu
  have hsp:=(Vl s 46 (by omega)).b
  have hlen:=ajW 46 s
  have hmem:∀ w∈Uk 46 s,w.length < 2 ^ 30:=fun w hw=>by have:=ajV hw;omega
  unfold apQ
  generalize Uk 46 s = ws at *
  repeat' (first|refine Qb fun K' hK=>?_|refine Qe fun K' hK=>?_|refine Qc ?_|refine Qd ?_|refine Qa ?_|((first|refine Qg ⟨_,rfl,fun hc=>?_,fun hc=>?_⟩|refine Qs (fun hc=>?_) (fun hc=>?_)|refine Qt (fun hc=>?_) (fun hc=>?_))<;>first|(cases hc;done)|((try simp only [znz] at hc);first|exact znf|skip))|refine Qi ?_|refine Qf ?_|simp (maxSteps:=1000000) only [go_sem]|(refine hK _ ?_;clear hK K')|apply And.intro|(apply Qv;(focus first|exact hsp|exact (Vl _ _ zsd).b|exact (VG _ zsd).b|exact (Xj _ zsd zsd).b|exact (Jo _ zsd).b))|exact zlo|omega|exact zms)
  refine JR (ι:=Nat) (fun k=>k≤ws.length∧(ws.take k).all aax = true) (fun k=>Xy [(4,.hd 0 0 ((ws.take k).map jo).length),(10,.sl 1 (ws.map V.str)),(11,V.int (ws.map V.str).length),(12,V.int k)] [(0,.buf true 1 (((ws.take k).map jo).map V.int))] 1) (fun k=>ws.length - k) 0 ⟨by omega,by simp⟩ (QO [(0,2000)]) (JE [(0,2000)] (by simp only [go_sem,and_true,true_and,implies_true,Option.some.injEq,exists_eq_left',Qh,Qj];(repeat' (first|rfl|apply And.intro|omega|exact fun h=>h|exact Exists.intro _ rfl))) (by simp only [go_sem,and_true,true_and,implies_true,Option.some.injEq,exists_eq_left',Qh,Qj];(repeat' (first|rfl|apply And.intro|omega|exact fun h=>h|exact Exists.intro _ rfl))) (by simp [QO]) (by simp;omega) (by omega)) fun k hk K' hL=>?_
  obtain ⟨hk,hall⟩:=hk
  rcases hd:ws.drop k with _|⟨w,r⟩
  · have hkl:=Xx hd
    have e1:decide ((k:Int) < (((ws.map V.str).length:Nat):Int)) = false:=by simp;omega
    have e3:ws.take k = ws:=List.take_of_length_le hkl
    rw [e3] at hall ⊢
    have g:=(Jo (ws.map jo) (by simp;omega)).b
    rcases hok:UL (ws.map jo) with _|_
    · rw [hok] at g
      have hv:amE ws = .tup [.sl 1 [],V.int 22]:=by rw [amE,hok,Bool.and_false];rfl
      rw [hv]
      repeat' (first|refine Qb fun K' hK=>?_|refine Qe fun K' hK=>?_|refine Qc ?_|refine Qd ?_|refine Qa ?_|((first|refine Qg ⟨_,rfl,fun hc=>?_,fun hc=>?_⟩|refine Qs (fun hc=>?_) (fun hc=>?_)|refine Qt (fun hc=>?_) (fun hc=>?_))<;>first|(cases hc;done)|((try simp only [znz] at hc);first|exact znf|skip))|refine Qi ?_|refine Qf ?_|simp (maxSteps:=1000000) only [go_sem,Xy,e1,VF]|(refine hK _ ?_;clear hK K')|apply And.intro|(apply Qv;(focus first|exact g|exact (Vl _ _ zsd).b|exact (VG _ zsd).b|exact (Xj _ zsd zsd).b|exact (Jo _ zsd).b))|exact zlo|omega|exact zms)
      all_goals first|(refine QM _ rfl ?_;simp only [go_sem];first|done|rfl|exact ⟨_,_,rfl⟩)
    · rw [hok] at g
      have hv:amE ws = .tup [.sl 1 ((ws.map jo).map V.int),V.int 0]:=by rw [amE,hok,hall];rfl
      rw [hv]
      repeat' (first|refine Qb fun K' hK=>?_|refine Qe fun K' hK=>?_|refine Qc ?_|refine Qd ?_|refine Qa ?_|((first|refine Qg ⟨_,rfl,fun hc=>?_,fun hc=>?_⟩|refine Qs (fun hc=>?_) (fun hc=>?_)|refine Qt (fun hc=>?_) (fun hc=>?_))<;>first|(cases hc;done)|((try simp only [znz] at hc);first|exact znf|skip))|refine Qi ?_|refine Qf ?_|simp (maxSteps:=1000000) only [go_sem,Xy,e1,VF]|(refine hK _ ?_;clear hK K')|apply And.intro|(apply Qv;(focus first|exact g|exact (Vl _ _ zsd).b|exact (VG _ zsd).b|exact (Xj _ zsd zsd).b|exact (Jo _ zsd).b))|exact zlo|omega|exact zms)
      all_goals first|(refine QM _ rfl ?_;simp only [go_sem];rw [VF])
  · obtain ⟨hk',hget,hr⟩:=Yy hd
    have hw:=Jq (k:=k) (by omega)
    have e1:decide ((k:Int) < (((ws.map V.str).length:Nat):Int)) = true:=by simp;omega
    have hwm:=List.mem_of_getElem? hget
    have hwl:=hmem w hwm
    have ga:=(VG w (by omega)).b
    have hrng:=anx w
    have gi:=(Xj (jo w) hrng.1 hrng.2).b
    have hbad:aax w = false→amE ws = .tup [.sl 1 [],V.int 22]:=by
      intro h
      have:ws.all aax = false:=by rw [List.all_eq_false];exact ⟨w,hwm,by simp [h]⟩
      rw [amE,this];rfl
    have hns:(ws.take (k + 1)).map jo = (ws.take k).map jo++[jo w]:=by rw [List.take_add_one,hget,List.map_append];rfl
    have hall2:aax w = true→(ws.take (k + 1)).all aax = true:=by
      intro h;rw [List.take_add_one,hget,List.all_append,hall];simp [h]
    have hnl:((ws.take k).map jo).length≤2 ^ 30:=by simp;omega
    generalize (ws.take k).map jo = ns at *
    have hb:List.map V.int ns++[V.int (jo w)] = (ns++[jo w]).map V.int:=by rw [List.map_append];rfl
    have hln:ns.length + 1 = (ns++[jo w]).length:=by simp
    by_cases hok:∃ n,Lib.atoiAll w = .ok n
    · obtain ⟨n,hn⟩:=hok
      have he:ame w = .sc .nilIface:=by rw [ame,hn]
      have hpo:aax w = (Lib.itoa (jo w) == w):=by rw [aax,hn];rfl
      rw [he] at ga
      rcases hq:(Lib.itoa (jo w) == w) with _|_
      · rw [hbad (by rw [hpo,hq])]
        repeat' (first|refine Qb fun K' hK=>?_|refine Qe fun K' hK=>?_|refine Qc ?_|refine Qd ?_|refine Qa ?_|((first|refine Qg ⟨_,rfl,fun hc=>?_,fun hc=>?_⟩|refine Qs (fun hc=>?_) (fun hc=>?_)|refine Qt (fun hc=>?_) (fun hc=>?_))<;>first|(cases hc;done)|((try simp only [znz] at hc);first|exact znf|skip))|refine Qi ?_|refine Qf ?_|simp (maxSteps:=1000000) only [go_sem,Xy,e1,hw,hq,Int.toNat_natCast,List.getElem?_map,hget]|(refine hK _ ?_;clear hK K')|apply And.intro|(apply Qv;(focus first|exact ga|exact gi|exact (Vl _ _ zsd).b|exact (VG _ zsd).b|exact (Xj _ zsd zsd).b|exact (Jo _ zsd).b))|exact zlo|omega|exact zms)
        all_goals first|(refine QM _ rfl ?_;simp only [go_sem];first|done|rfl|exact ⟨_,_,rfl⟩)
      · repeat' (first|refine Qb fun K' hK=>?_|refine Qe fun K' hK=>?_|refine Qc ?_|refine Qd ?_|refine Qa ?_|((first|refine Qg ⟨_,rfl,fun hc=>?_,fun hc=>?_⟩|refine Qs (fun hc=>?_) (fun hc=>?_)|refine Qt (fun hc=>?_) (fun hc=>?_))<;>first|(cases hc;done)|((try simp only [znz] at hc);first|exact znf|skip))|refine Qi ?_|refine Qf ?_|simp (maxSteps:=1000000) only [go_sem,Xy,e1,hw,hq,Int.toNat_natCast,List.getElem?_map,hget,VF,hb,hln]|(refine hK _ ?_;clear hK K')|apply And.intro|(apply Qv;(focus first|exact ga|exact gi|exact (Vl _ _ zsd).b|exact (VG _ zsd).b|exact (Xj _ zsd zsd).b|exact (Jo _ zsd).b))|exact zlo|omega|exact zms)
        all_goals first
          | (refine hL _ (k + 1) (QO [(0,22001)]) ⟨by omega,hall2 (by rw [hpo,hq])⟩ (by omega) ?_
             rw [hns]
             exact JE [(0,22001)] (by simp only [go_sem,and_true,true_and,implies_true,Option.some.injEq,exists_eq_left',Qh,Qj];(repeat' (first|rfl|apply And.intro|omega|exact fun h=>h|exact Exists.intro _ rfl))) (by simp only [go_sem,and_true,true_and,implies_true,Option.some.injEq,exists_eq_left',Qh,Qj];(repeat' (first|rfl|apply And.intro|omega|exact fun h=>h|exact Exists.intro _ rfl))) (by simp [QO]) (by simp;omega) (by omega))
          | (simp only [List.length_append,List.length_singleton];omega)
    · have he:ame w = .nn:=by
        unfold ame;split
        · rename_i n h;exact absurd ⟨n,h⟩ hok
        · rfl
      have hpo:aax w = false:=by
        unfold aax
        have:(match Lib.atoiAll w with|.ok _=>true|_=>false) = false:=by
          split
          · rename_i n h;exact absurd ⟨n,h⟩ hok
          · rfl
        rw [this];rfl
      rw [he] at ga
      rw [hbad hpo]
      repeat' (first|refine Qb fun K' hK=>?_|refine Qe fun K' hK=>?_|refine Qc ?_|refine Qd ?_|refine Qa ?_|((first|refine Qg ⟨_,rfl,fun hc=>?_,fun hc=>?_⟩|refine Qs (fun hc=>?_) (fun hc=>?_)|refine Qt (fun hc=>?_) (fun hc=>?_))<;>first|(cases hc;done)|((try simp only [znz] at hc);first|exact znf|skip))|refine Qi ?_|refine Qf ?_|simp (maxSteps:=1000000) only [go_sem,Xy,e1,hw,Int.toNat_natCast,List.getElem?_map,hget]|(refine hK _ ?_;clear hK K')|apply And.intro|(apply Qv;(focus first|exact ga|exact gi|exact (Vl _ _ zsd).b|exact (VG _ zsd).b|exact (Xj _ zsd zsd).b|exact (Jo _ zsd).b))|exact zlo|omega|exact zms)
      all_goals first|(refine QM _ rfl ?_;simp only [go_sem];first|done|rfl|exact ⟨_,_,rfl⟩)
end Av
end
section
set_option linter.unusedSimpArgs false
set_option linter.unusedVariables false
set_option maxRecDepth 10000
set_option maxHeartbeats 4000000
namespace Av
open Go
attribute [local irreducible] AWp WY Vp Vq awS awC V1 awQ Uh Q9 YQ VZ awR YT awB okR Ww ris
end Av
end
section
set_option linter.unusedSimpArgs false
set_option linter.unusedVariables false
set_option maxRecDepth 10000
set_option maxHeartbeats 4000000
namespace Av
open Go
attribute [local irreducible] AWp WY Vp Vq awS awC V1 awQ Uh Q9 YQ VZ awR YT awB okR Ww ris
def vs5:List Int:=[0,1,2,10,99999]
def abm (l:List Int):Nat→List Int→Nat→List Int×Nat
  | 0,v,k=>(v,k)
  | i + 1,v,k=>abm l i (v++[(ofD l k vs5).1]) (ofD l k vs5).2
def aia (l:List Int) (k:Nat):List Int×Nat:=abm l (Yz l (Yz l k 4).2 3).1.toNat [(Yz l k 4).1] (Yz l (Yz l k 4).2 3).2
theorem an0 {x:Int} (h:x∈vs5):0≤x∧x≤99999:=by
  simp only [vs5,List.mem_cons,List.mem_nil_iff,or_false] at h;omega
theorem ai4 (l:List Int):∀ (i:Nat) (v:List Int) (k:Nat),k≤l.length→(abm l i v k).2≤l.length
  | 0,_,_,h=>h
  | i + 1,v,k,h=>ai4 l i _ _ (ajj h)
theorem ai3 (l:List Int):∀ (i:Nat) (v:List Int) (k:Nat),(∀ x∈v,0≤x∧x≤99999)→(abm l i v k).1.length = v.length + i∧∀ x∈(abm l i v k).1,0≤x∧x≤99999
  | 0,v,k,h=>⟨rfl,h⟩
  | i + 1,v,k,h=>by
    have:=ai3 l i (v++[(ofD l k vs5).1]) (ofD l k vs5).2 fun x hx=>by
      rcases List.mem_append.1 hx with h1|h1
      · exact h x h1
      · rw [List.mem_singleton.1 h1];exact an0 (alG (by simp [vs5]) (by simp [vs5]))
    simp only [List.length_append,List.length_singleton] at this
    exact ⟨by rw [abm,this.1];omega,this.2⟩
theorem ak3 {l:List Int} {k:Nat} (hk:k≤l.length):(aia l k).2≤l.length:=ai4 l _ _ _ (Wu (Wu hk))
theorem ak2 (l:List Int) (k:Nat):UL (aia l k).1 = true:=by
  have r1:=Xr (l:=l) (k:=k) (n:=4) (by omega) (by omega)
  have r2:=Xr (l:=l) (k:=(Yz l k 4).2) (n:=3) (by omega) (by omega)
  obtain ⟨h1,h2⟩:=ai3 l (Yz l (Yz l k 4).2 3).1.toNat [(Yz l k 4).1] (Yz l (Yz l k 4).2 3).2 (by simp;omega)
  simp only [List.length_singleton] at h1
  have hb:(aia l k).1.any aiY = false:=by
    rw [List.any_eq_false]
    intro x hx
    have:=h2 x hx
    simp [aiY];omega
  unfold UL
  rw [hb,decide_eq_true (show 1≤(aia l k).1.length by show 1≤(abm l _ _ _).1.length;omega),decide_eq_true (show (aia l k).1.length≤4 by show (abm l _ _ _).1.length≤4;omega)];rfl
def yK (Qr QL:Nat):AC:=Qo [0] (.reg [xo 2 (.mknil 1)]) (Qo [0,3] (.reg [mv 5 0,xo 6 (.call Qr [(.t 5),(.c (V.int 4))]),xo 7 (.bslice 1 1 false [(.int .i64 0)] [(0,(.t 6))]),mv 3 7]) (Qo [3] (Qo [0,3,4] (.reg [mv 8 0,xo 9 (.call Qr [(.t 8),(.c (V.int 3))]),mv 4 9]) (.block 0 (X1 [0,3,4] (Qo [0,3,4] (Qo [0,3,4,11] (.reg [mv 10 4,bc 11 .gtr 10 (V.int 0)]) (.cond (.t 11) (.skip) (.exit 0))) (Qo [0,3,4] (.block 1 (.reg [mv 14 3,mv 15 0,xo 16 (.bslice 5 1 false [(.int .i64 0)] [(0,(.c (V.int 0))),(1,(.c (V.int 1))),(2,(.c (V.int 2))),(3,(.c (V.int 10))),(4,(.c (V.int 99999)))]),cl 17 QL [15,16],xo 18 (.bslice 1 1 false [(.int .i64 0)] [(0,(.t 17))]),xo 19 (.append 1 8 [(.int .i64 0)] (.t 14) (.t 18)),mv 3 19])) (.reg [mv 12 4,bc 13 .sub 12 (V.int 1),mv 4 13])))))) (Qo [2] (.reg [mv 20 3,mv 2 20]) (.ret)))) def r_law12_version:List X0:=[.tmp 2]
def KB (Γ:Env) (f:Nat):Prop:=∀ (l:List Int) (k:Nat) (hl:l.length≤400) (hk:k≤l.length),EvD Γ f [] (J3 l k) (.sl 1 ((aia l k).1.map V.int)) (J3 l (aia l k).2)
theorem adR {Γ:Env} {f Qr QL:Nat} (h:Has Γ.P f 21 (yK Qr QL) r_law12_version) (Qk:Y3 Γ Qr) (QG:Uv Γ QL):KB Γ f:=by
  intro l k hl hk
  refine UU h (by simp) (by simp only [V.closed,Qn,V.noSl,Jx,and_self,and_true,true_and]) (by first|exact JP _ _|simp only [V.closed,Qn,and_self,and_true,true_and]) (by first|exact JP _ _|simp only [V.closed,Qn,and_self,and_true,true_and]) fun C hC hm=>?_
  subst hC
  unfold yK
  have n0:=Qk l k 4 hl hk
  have hk0:=Wu (n:=4) hk
  have e2:aia l k = abm l (Yz l (Yz l k 4).2 3).1.toNat [(Yz l k 4).1] (Yz l (Yz l k 4).2 3).2:=rfl
  rw [e2]
  generalize Yz l k 4 = u at *
  obtain ⟨x0,k0⟩:=u
  simp only at hk0 n0 ⊢
  have n1:=Qk l k0 3 hl hk0
  have hr:=Xr (l:=l) (k:=k0) (n:=3) (by omega) (by omega)
  have hk1:=Wu (n:=3) hk0
  generalize Yz l k0 3 = w at *
  obtain ⟨i0,k1⟩:=w
  obtain ⟨i0,rfl⟩:∃ j:Nat,i0 = (j:Int):=⟨i0.toNat,by simp only at hr;omega⟩
  simp only [J3,Int.toNat_natCast] at n0 n1 hr hk1 ⊢
  repeat' (first|refine Qb fun K' hK=>?_|refine Qe fun K' hK=>?_|refine Qc ?_|refine Qd ?_|refine Qa ?_|((first|refine Qg ⟨_,rfl,fun hc=>?_,fun hc=>?_⟩|refine Qs (fun hc=>?_) (fun hc=>?_)|refine Qt (fun hc=>?_) (fun hc=>?_))<;>first|(cases hc;done)|((try simp only [znz] at hc);first|exact znf|skip))|refine Qi ?_|refine Qf ?_|simp (maxSteps:=1000000) only [go_sem,J3]|(refine hK _ ?_;clear hK K')|apply And.intro|(apply XQ;(focus exact rfl);(focus first|exact n0|exact n1|exact (Qk _ _ _ zsd zsd)|exact (QG _ _ _ zsd zsd zsd zsd));(focus exact rfl);(focus exact rfl))|exact zlo|omega|exact zms)
  refine JR (ι:=Nat×List Int×Nat) (fun p=>p.1≤2∧p.2.2≤l.length∧p.2.1.length + p.1≤3∧abm l p.1 p.2.1 p.2.2 = abm l i0 [x0] k1) (fun p=>Xy [(0,.ptr 0 0),(3,.hd 1 0 p.2.1.length),(4,V.int p.1)] [(0,.box true [.sl 1 (l.map V.int),V.int p.2.2]),(1,.buf true 1 (p.2.1.map V.int))] 2) (fun p=>p.1) (i0,[x0],k1) ⟨(by show i0≤2;omega),hk1,(by show [x0].length + i0≤3;simp;omega),rfl⟩ (QO [(1,3001)]) (JE [(1,3001)] (by simp only [go_sem,and_true,true_and,implies_true,Option.some.injEq,exists_eq_left',Qh,Qj];(repeat' (first|rfl|apply And.intro|omega|exact fun h=>h|exact Exists.intro _ rfl))) (by simp only [go_sem,and_true,true_and,implies_true,Option.some.injEq,exists_eq_left',Qh,Qj];(repeat' (first|rfl|apply And.intro|omega|exact fun h=>h|exact Exists.intro _ rfl))) (by simp [QO]) (by simp;omega) (by omega)) fun p hp K' hL=>?_
  obtain ⟨i,v,k⟩:=p
  obtain ⟨hi,hk,hv,hinv⟩:=hp
  simp only at hi hk hv hinv
  rcases i with _|i
  · rw [← hinv]
    repeat' (first|refine Qb fun K' hK=>?_|refine Qe fun K' hK=>?_|refine Qc ?_|refine Qd ?_|refine Qa ?_|((first|refine Qg ⟨_,rfl,fun hc=>?_,fun hc=>?_⟩|refine Qs (fun hc=>?_) (fun hc=>?_)|refine Qt (fun hc=>?_) (fun hc=>?_))<;>first|(cases hc;done)|((try simp only [znz] at hc);first|exact znf|skip))|refine Qi ?_|refine Qf ?_|simp (maxSteps:=1000000) only [go_sem,Xy,J3,abm,VF]|(refine hK _ ?_;clear hK K')|apply And.intro|(apply XQ;(focus exact rfl);(focus first|exact (Qk _ _ _ zsd zsd)|exact (QG _ _ _ zsd zsd zsd zsd));(focus exact rfl);(focus exact rfl))|exact zlo|omega|exact zms)
    all_goals
      refine xj _ rfl rfl (by simp only [V.closed,Qn,and_self,and_true,true_and]) ?_;simp only [go_sem]
      all_goals first|done|exact ⟨by simp,by rw [VF]⟩
  · have n1:=QG l k [0,1,2,10,99999] hl hk (by simp) (by simp)
    have hk1:=ajj (xs:=[0,1,2,10,99999]) hk
    have e4:abm l (i + 1) v k = abm l i (v++[(ofD l k [0,1,2,10,99999]).1]) (ofD l k [0,1,2,10,99999]).2:=rfl
    rw [e4] at hinv
    generalize ofD l k [0,1,2,10,99999] = u at *
    obtain ⟨c,k2⟩:=u
    simp only [J3,List.map_cons,List.map_nil] at n1 hk1 hinv
    have e1:decide (((i + 1:Nat):Int) > 0) = true:=decide_eq_true (by omega)
    have ew:IntKind.i64.wrap (((i + 1:Nat):Int) - 1) = (i:Int):=by rw [WW (by omega) (by omega)];omega
    have hb:List.map V.int v++[V.int c] = (v++[c]).map V.int:=by rw [List.map_append];rfl
    have hln:v.length + 1 = (v++[c]).length:=by simp
    repeat' (first|refine Qb fun K' hK=>?_|refine Qe fun K' hK=>?_|refine Qc ?_|refine Qd ?_|refine Qa ?_|((first|refine Qg ⟨_,rfl,fun hc=>?_,fun hc=>?_⟩|refine Qs (fun hc=>?_) (fun hc=>?_)|refine Qt (fun hc=>?_) (fun hc=>?_))<;>first|(cases hc;done)|((try simp only [znz] at hc);first|exact znf|skip))|refine Qi ?_|refine Qf ?_|simp (maxSteps:=1000000) only [go_sem,Xy,e1,ew,VF,hb,hln]|(refine hK _ ?_;clear hK K')|apply And.intro|(apply XQ;(focus exact rfl);(focus first|exact n1|exact (Qk _ _ _ zsd zsd)|exact (QG _ _ _ zsd zsd zsd zsd));(focus exact rfl);(focus exact rfl))|exact zlo|omega|exact zms)
    all_goals first
      | exact hL _ (i,v++[c],k2) (QO [(1,7002)]) ⟨by simp only;omega,hk1,by simp;omega,hinv⟩ (by simp only;omega) (JE [(1,7002)] (by simp only [go_sem,and_true,true_and,implies_true,Option.some.injEq,exists_eq_left',Qh,Qj];(repeat' (first|rfl|apply And.intro|omega|exact fun h=>h|exact Exists.intro _ rfl))) (by simp only [go_sem,and_true,true_and,implies_true,Option.some.injEq,exists_eq_left',Qh,Qj];(repeat' (first|rfl|apply And.intro|omega|exact fun h=>h|exact Exists.intro _ rfl))) (by simp [QO]) (by simp;omega) (by omega))
      | (simp only [List.length_append,List.length_singleton];omega)
end Av
end
section
set_option linter.unusedSimpArgs false
set_option linter.unusedVariables false
set_option maxRecDepth 10000
set_option maxHeartbeats 4000000
namespace Av
open Go
attribute [local irreducible] AWp WY Vp Vq awS awC V1 awQ Uh Q9 YQ VZ awR YT awB okR Ww ris
def qS (l:List Int) (k:Nat):List Int×Nat:=if (Yz l k 2).1 == 1 then aia l (Yz l k 2).2 else ([],(Yz l k 2).2)
def agd (l:List Int) (k:Nat):(List Int×List Int)×Nat:=(((qS l k).1,(qS l (qS l k).2).1),(qS l (qS l k).2).2)
theorem abK {l:List Int} {k:Nat} (hk:k≤l.length):(qS l k).2≤l.length:=by
  unfold qS;split
  · exact ak3 (Wu hk)
  · exact Wu hk
theorem abJ (l:List Int) (k:Nat):(qS l k).1.length≤4:=by
  unfold qS;split
  · exact (abl (ak2 l _)).2.1
  · simp
def wH (JX JG:Nat):AC:=Qo [0,2] (.reg [xo 2 (.alloc [.nil 1,.nil 1])]) (Qo [0,2,3] (.reg [xo 3 (.alloc [.nil 1,.nil 1])]) (Qo [0,2,3] (Qo [0,2,3,5] (.reg [mv 4 0,xo 5 (.call JX [(.t 4),(.c (V.int 2))])]) (.cond (.t 5) (.reg [mv 6 0,cl 7 JG [6],fa 8 0 3,xs 1 8 7]) (.skip))) (Qo [2,3] (Qo [0,2,3,10] (.reg [mv 9 0,xo 10 (.call JX [(.t 9),(.c (V.int 2))])]) (.cond (.t 10) (.reg [mv 11 0,cl 12 JG [11],fa 13 1 3,xs 1 13 12]) (.skip))) (Qo [2] (.reg [xo 14 (.load true 2 (.t 3)),xs 2 2 14]) (.ret))))) def r_law12_bound:List X0:=[.cell 2 true 2]
def jG (Γ:Env) (f:Nat):Prop:=∀ (l:List Int) (k:Nat) (hl:l.length≤400) (hk:k≤l.length),EvD Γ f [] (J3 l k) (ye (agd l k).1.1 (agd l k).1.2) (J3 l (agd l k).2)
theorem afw {Γ:Env} {f JX JG:Nat} (h:Has Γ.P f 15 (wH JX JG) r_law12_bound) (Qq:VX Γ JX) (QU:KB Γ JG):jG Γ f:=by
  intro l k hl hk
  refine UU h (by simp) (by simp only [V.closed,Qn,V.noSl,Jx,and_self,and_true,true_and]) (by first|exact JP _ _|simp only [V.closed,Qn,and_self,and_true,true_and]) (by first|exact JP _ _|simp only [V.closed,Qn,and_self,and_true,true_and]) fun C hC hm=>?_
  subst hC
  unfold wH
  have o1:=Qq l k 2 hl hk (by omega) (by omega)
  have k1:=Wu (n:=2) hk
  have v1:=QU l (Yz l k 2).2 hl k1
  have kh:=abK hk
  have o2:=Qq l (qS l k).2 2 hl kh (by omega) (by omega)
  have k2:=Wu (n:=2) kh
  have v2:=QU l (Yz l (qS l k).2 2).2 hl k2
  have e1:(qS l k) = if ((Yz l k 2).1 == 2 - 1) = true then aia l (Yz l k 2).2 else ([],(Yz l k 2).2):=rfl
  have e2:(qS l (qS l k).2) = if ((Yz l (qS l k).2 2).1 == 2 - 1) = true then aia l (Yz l (qS l k).2 2).2 else ([],(Yz l (qS l k).2 2).2):=rfl
  unfold agd
  generalize hH:qS l (qS l k).2 = H2 at *
  generalize qS l k = H1 at *
  obtain ⟨b1,q1⟩:=H1
  obtain ⟨b2,q2⟩:=H2
  generalize hc1:((Yz l k 2).1 == 2 - 1) = c1 at *
  generalize hc2:((Yz l q1 2).1 == 2 - 1) = c2 at *
  simp only at o2 v2 e1 e2
  rcases c1 with _|_<;>rcases c2 with _|_
  all_goals
    simp only [Bool.false_eq_true,if_false,if_true,Prod.mk.injEq] at e1 e2
  · obtain ⟨rfl,rfl⟩:=e1
    obtain ⟨rfl,rfl⟩:=e2
    simp only [J3] at o1 v1 o2 v2
    repeat' (first|refine Qb fun K' hK=>?_|refine Qe fun K' hK=>?_|refine Qc ?_|refine Qd ?_|refine Qa ?_|((first|refine Qg ⟨_,rfl,fun hc=>?_,fun hc=>?_⟩|refine Qs (fun hc=>?_) (fun hc=>?_)|refine Qt (fun hc=>?_) (fun hc=>?_))<;>first|(cases hc;done)|((try simp only [znz] at hc);first|exact znf|skip))|refine Qi ?_|refine Qf ?_|simp (maxSteps:=1000000) only [go_sem,J3]|(refine hK _ ?_;clear hK K')|apply And.intro|(apply XQ;(focus exact rfl);(focus first|exact o1|exact o2|exact (Qq _ _ _ zsd zsd zsd zsd)|exact (QU _ _ zsd zsd));(focus exact rfl);(focus exact rfl))|exact zlo|omega|exact zms)
    all_goals (refine xj _ rfl rfl (by simp only [V.closed,Qn,and_self,and_true,true_and]) ?_;simp only [go_sem])
    all_goals first|done|exact ⟨⟨by simp,_,_,rfl⟩,by simp,_,_,rfl⟩|exact ⟨by simp,_,_,rfl⟩|(simp;done)
  · obtain ⟨rfl,rfl⟩:=e1
    generalize aia l (Yz l (Yz l k 2).2 2).2 = y2 at *
    subst e2
    simp only [J3] at o1 v1 o2 v2
    repeat' (first|refine Qb fun K' hK=>?_|refine Qe fun K' hK=>?_|refine Qc ?_|refine Qd ?_|refine Qa ?_|((first|refine Qg ⟨_,rfl,fun hc=>?_,fun hc=>?_⟩|refine Qs (fun hc=>?_) (fun hc=>?_)|refine Qt (fun hc=>?_) (fun hc=>?_))<;>first|(cases hc;done)|((try simp only [znz] at hc);first|exact znf|skip))|refine Qi ?_|refine Qf ?_|simp (maxSteps:=1000000) only [go_sem,J3]|(refine hK _ ?_;clear hK K')|apply And.intro|(apply XQ;(focus exact rfl);(focus first|exact o1|exact o2|exact v2|exact (Qq _ _ _ zsd zsd zsd zsd)|exact (QU _ _ zsd zsd));(focus exact rfl);(focus exact rfl))|exact zlo|omega|exact zms)
    all_goals (refine xj _ rfl rfl (by simp only [V.closed,Qn,and_self,and_true,true_and]) ?_;simp only [go_sem])
    all_goals first|done|exact ⟨⟨by simp,_,_,rfl⟩,by simp,_,_,rfl⟩|exact ⟨by simp,_,_,rfl⟩|(simp;done)
  · generalize aia l (Yz l k 2).2 = y1 at *
    subst e1
    obtain ⟨rfl,rfl⟩:=e2
    simp only [J3] at o1 v1 o2 v2
    repeat' (first|refine Qb fun K' hK=>?_|refine Qe fun K' hK=>?_|refine Qc ?_|refine Qd ?_|refine Qa ?_|((first|refine Qg ⟨_,rfl,fun hc=>?_,fun hc=>?_⟩|refine Qs (fun hc=>?_) (fun hc=>?_)|refine Qt (fun hc=>?_) (fun hc=>?_))<;>first|(cases hc;done)|((try simp only [znz] at hc);first|exact znf|skip))|refine Qi ?_|refine Qf ?_|simp (maxSteps:=1000000) only [go_sem,J3]|(refine hK _ ?_;clear hK K')|apply And.intro|(apply XQ;(focus exact rfl);(focus first|exact o1|exact v1|exact o2|exact (Qq _ _ _ zsd zsd zsd zsd)|exact (QU _ _ zsd zsd));(focus exact rfl);(focus exact rfl))|exact zlo|omega|exact zms)
    all_goals (refine xj _ rfl rfl (by simp only [V.closed,Qn,and_self,and_true,true_and]) ?_;simp only [go_sem])
    all_goals first|done|exact ⟨⟨by simp,_,_,rfl⟩,by simp,_,_,rfl⟩|exact ⟨by simp,_,_,rfl⟩|(simp;done)
  · generalize aia l (Yz l k 2).2 = y1 at *
    subst e1
    generalize aia l (Yz l q1 2).2 = y2 at *
    subst e2
    simp only [J3] at o1 v1 o2 v2
    repeat' (first|refine Qb fun K' hK=>?_|refine Qe fun K' hK=>?_|refine Qc ?_|refine Qd ?_|refine Qa ?_|((first|refine Qg ⟨_,rfl,fun hc=>?_,fun hc=>?_⟩|refine Qs (fun hc=>?_) (fun hc=>?_)|refine Qt (fun hc=>?_) (fun hc=>?_))<;>first|(cases hc;done)|((try simp only [znz] at hc);first|exact znf|skip))|refine Qi ?_|refine Qf ?_|simp (maxSteps:=1000000) only [go_sem,J3]|(refine hK _ ?_;clear hK K')|apply And.intro|(apply XQ;(focus exact rfl);(focus first|exact o1|exact v1|exact o2|exact v2|exact (Qq _ _ _ zsd zsd zsd zsd)|exact (QU _ _ zsd zsd));(focus exact rfl);(focus exact rfl))|exact zlo|omega|exact zms)
    all_goals (refine xj _ rfl rfl (by simp only [V.closed,Qn,and_self,and_true,true_and]) ?_;simp only [go_sem])
    all_goals first|done|exact ⟨⟨by simp,_,_,rfl⟩,by simp,_,_,rfl⟩|exact ⟨by simp,_,_,rfl⟩|(simp;done)
end Av
end
section
set_option linter.unusedSimpArgs false
set_option linter.unusedVariables false
set_option maxRecDepth 10000
set_option maxHeartbeats 4000000
namespace Av
open Go
attribute [local irreducible] AWp WY Vp Vq awS awC V1 awQ Uh Q9 YQ VZ awR YT awB okR Ww ris
theorem aqs:apQ [49,46,49,48] = .tup [.sl 1 [V.int 1,V.int 10],V.int 0]:=by kernel_rfl
theorem aqt:aaH [1,10] = .tup [V.str [49,46,49,48],V.int 0]:=by kernel_rfl
theorem aqw:anr [1,10] [1,9] = 1:=by decide +kernel
theorem aqv:inV [1,2] [2] [1,99] = true:=by decide +kernel
theorem aqu:inV [1,2] [2] [2,0] = false:=by decide +kernel
def wI (UB qo YL Jc:Nat):AC:=Qo [] (.reg [mc 0 (V.bool false)]) (Qo [1,2] (.reg [xo 6 (.call UB [(.c (V.str [49,46,49,48]))]),mv 5 6,ex 7 5 0,ex 8 5 1,mv 1 7,mv 2 8]) (Qo [1,2,3,4] (.reg [mv 10 1,cl 11 qo [10],mv 9 11,ex 12 9 0,ex 13 9 1,mv 3 12,mv 4 13]) (Qo [0] (.reg [mv 14 2,bc 15 .eql 14 (V.int 0),mv 16 15,mg 17 4 16 true,xg 18 (.bin .eql (.t 17) (.c (V.int 0))) 16 true,xo 19 (.pick (.t 16) (.t 18) (.c (V.bool false))),mv 20 19,mg 21 3 20 true,xg 22 (.bin .eql (.t 21) (.c (V.str [49,46,49,48]))) 20 true,xo 23 (.pick (.t 20) (.t 22) (.c (V.bool false))),mv 24 23,mg 25 1 24 true,xg 26 (.bslice 2 1 false [(.int .i64 0)] [(0,(.c (V.int 1))),(1,(.c (V.int 9)))]) 24 true,xg 27 (.call YL [(.t 25),(.t 26)]) 24 true,xg 28 (.bin .eql (.t 27) (.c (V.int 1))) 24 true,xo 29 (.pick (.t 24) (.t 28) (.c (V.bool false))),mv 30 29,xg 31 (.bslice 2 1 false [(.int .i64 0)] [(0,(.c (V.int 1))),(1,(.c (V.int 2)))]) 30 true,xg 32 (.bslice 1 1 false [(.int .i64 0)] [(0,(.c (V.int 2)))]) 30 true,xg 33 (.build [(.slice none 0 0),(.slice none 0 0)] [(0,1,(.t 31)),(1,1,(.t 32))]) 30 true,xg 34 (.bslice 2 1 false [(.int .i64 0)] [(0,(.c (V.int 1))),(1,(.c (V.int 99)))]) 30 true,xg 35 (.call Jc [(.t 33),(.t 34)]) 30 true,xo 36 (.pick (.t 30) (.t 35) (.c (V.bool false))),mv 37 36,xg 38 (.bslice 2 1 false [(.int .i64 0)] [(0,(.c (V.int 1))),(1,(.c (V.int 2)))]) 37 true,xg 39 (.bslice 1 1 false [(.int .i64 0)] [(0,(.c (V.int 2)))]) 37 true,xg 40 (.build [(.slice none 0 0),(.slice none 0 0)] [(0,1,(.t 38)),(1,1,(.t 39))]) 37 true,xg 41 (.bslice 2 1 false [(.int .i64 0)] [(0,(.c (V.int 2))),(1,(.c (V.int 0)))]) 37 true,xg 42 (.call Jc [(.t 40),(.t 41)]) 37 true,xg 43 (.un .not (.t 42)) 37 true,xo 44 (.pick (.t 37) (.t 43) (.c (V.bool false))),mv 0 44]) (.ret)))) def r_law12_awake:List X0:=[.tmp 0]
def xQ (Γ:Env) (f:Nat):Prop:=EvN Γ f [] (V.bool true)
theorem afx {Γ:Env} {f UB qo YL Jc:Nat} (h:Has Γ.P f 45 (wI UB qo YL Jc) r_law12_awake) (y9:KV Γ UB) (vB:yb Γ qo) (YE:Uj Γ YL) (J0:Kw Γ Jc):xQ Γ f:=by
  refine QQ h (by simp) (by simp only [V.closed,Qn,V.noSl,Jx,and_self,and_true,true_and]) (by simp only [V.closed,Qn,V.noSl,Jx,and_self,and_true,true_and]) fun C hC hm=>?_
  subst hC
  unfold wI
  have g1:=(y9 [49,46,49,48] (by simp)).b
  have g2:=(vB [1,10] (by simp)).b
  have g3:=(YE [1,10] [1,9] (by simp) (by simp)).b
  have g4:=(J0 [1,2] [2] [1,99] (by simp) (by simp) (by simp)).b
  have g5:=(J0 [1,2] [2] [2,0] (by simp) (by simp) (by simp)).b
  rw [aqs] at g1
  rw [aqt] at g2
  rw [aqw] at g3
  rw [aqv] at g4
  rw [aqu] at g5
  simp only [List.map_cons,List.map_nil,ye] at g2 g3 g4 g5
  repeat' (first|refine Qb fun K' hK=>?_|refine Qe fun K' hK=>?_|refine Qc ?_|refine Qd ?_|refine Qa ?_|((first|refine Qg ⟨_,rfl,fun hc=>?_,fun hc=>?_⟩|refine Qs (fun hc=>?_) (fun hc=>?_)|refine Qt (fun hc=>?_) (fun hc=>?_))<;>first|(cases hc;done)|((try simp only [znz] at hc);first|exact znf|skip))|refine Qi ?_|refine Qf ?_|simp (maxSteps:=1000000) only [go_sem]|(refine hK _ ?_;clear hK K')|apply And.intro|(apply Qv;(focus first|exact g1|exact g2|exact g3|exact g4|exact g5|exact (y9 _ zsd).b|exact (vB _ zsd).b|exact (YE _ _ zsd zsd).b|exact (J0 _ _ _ zsd zsd zsd).b))|exact zlo|omega|exact zms)
  all_goals first|(refine QM _ rfl ?_;simp only [go_sem];done)
end Av
end
