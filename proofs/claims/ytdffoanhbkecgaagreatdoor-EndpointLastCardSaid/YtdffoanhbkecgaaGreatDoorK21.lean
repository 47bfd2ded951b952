/- A contract serves for arguments that say more: a nil slice is a slice of nothing. -/
import Derived.Test.YtdffoanhbkecgaaGreatDoorK16
set_option linter.unusedVariables false
set_option linter.unusedSimpArgs false
section
namespace Av
open Go
def LeV (x y:V):Prop:=∀ (w:World) (Z:Nat→Nat→Prop) (μ:Nat→Option Cn) (v:Value),Rep w Z μ v x→Rep w Z μ v y
theorem LeV.refl (x:V):LeV x x:=fun _ _ _ _ h=>h
theorem LeV.nil (sz:Nat):LeV (.sc (.slice none 0 0)) (.sl sz []):=fun _ _ _ _ h=>by cases h;exact .sl0
theorem LeV.agg {xs ys:List V} (hl:xs.length = ys.length) (h:∀ j (h1:j < xs.length) (h2:j < ys.length),LeV xs[j] ys[j]):LeV (.agg xs) (.agg ys):=fun w Z μ v hv=>by
  cases hv with
  | agg h1 h2 h3=>exact .agg (h1.trans hl) h2 fun j hj hj'=>h j (by omega) hj _ _ _ _ (h3 j (by omega) hj')
theorem EvB.le {Γ:Env} {f:FuncId} {args args':List V} {res:V} {B:Option (List Nat)} (h:EvB Γ f args res B) (hl:args'.length = args.length)
    (hr:∀ i (h1:i < args'.length) (h2:i < args.length),LeV args'[i] args[i]):EvB Γ f args' res B :=
  ⟨fun C cargs h1 h2 h3 h4 h5 h6 h7=>h.ev C cargs h1 h2 h3 h4 h5 (h6.trans hl) fun i hi hi'=>hr i (by omega) hi _ _ _ _ (h7 i (by omega) hi'),h.cl,h.sh⟩
section
variable {Γ:Env} {A W:Nat→Bool} {b:Nat} {s:St} {d:Option Nat} {f:FuncId} {acts:List V} {res:V} {J:St→Prop} {cs cs2:List V} {a:Nat}
theorem ams (l:List Nat) (hA:A a = true) (hW:W a = true) (ha:s.o a = some (.box true cs)) (h:EvD Γ f (X9 (Xj A s.o) acts) cs res cs2) (hc:JN (Xj A s.o) (some l) acts) (hal:a ∉ l) (hl:∀ x∈l,A x = true∧W x = true) (hab:a < b)
    (hk:J { t:=(s.put d res).t,o:=upd (vp (some l) [a] s.o) a (some (.box true cs2)),n:=s.n }):JB Γ A W b s d f (.ptr a 0 :: acts) J:=by
  have hra:Xj A s.o a = some (.box true cs):=by rw [abJ,if_pos hA,ha]
  refine ⟨_,_,_,_,[a],some l,h.ev,⟨?_,Wx _ [a] l ?_ acts hc⟩,⟨⟨_,hra,Yd _ _ _ _ h.c1⟩,trivial⟩,by simp,by simpa using ⟨hab,hW⟩,Nat.le_refl _,by simp [KK],fun h=>by simp at h,fun l' hl'=>by cases hl';exact hl,?_⟩
  · simp [conv]
  · intro x hx hxa
    simp only [List.mem_singleton] at hxa
    subst hxa;exact hal hx
  · rw [Qo _ _ h.cl]
    simp only [VY,Ud,Ob.ren,Ql _ _ h.c2]
    exact hk
theorem yj {x:V} {args:List V} {okf:Option (List Nat)→Prop} (ha:s.o a = some (.box true cs)) (hA:A a = true) (hW:W a = true) (h:EvD Γ f args cs res cs2) (hal:(YJ acts).contains a = false) (hab:decide (a < b) = true) (hl:((YJ acts).all fun x=>A x && W x) = true) (hc:JN (Xj A s.o) (some (YJ acts)) acts)
    (hk:J { t:=(s.put d res).t,o:=upd (vp (some (YJ acts)) [a] s.o) a (some (.box true cs2)),n:=s.n }):aiI Γ A W b s d f (.ptr a 0 :: acts) (x :: args) okf J:=by
  intro h1 _
  simp only [X9,List.cons.injEq] at h1
  obtain ⟨_,rfl⟩:=h1
  exact ams _ hA hW ha h hc (by simpa using hal) (fun x hx=>by simpa using List.all_eq_true.1 hl x hx) (of_decide_eq_true hab) hk
end
end Av
end
section
namespace Av
open Go
section
variable {Γ:Env} {b:Nat} {r:List AO} {s:St} {d:Option Nat} {f g:FuncId} {acts args:List V} {okf:Option (List Nat)→Prop} {res x:V} {K:St→Prop} {cs cs2 ds ds2:List V} {a e off:Nat}
end
section
variable {Γ:Env} {b:Nat} {r:List AO} {s:St} {d:Option Nat} {f:FuncId} {acts args:List V} {okf:Option (List Nat)→Prop} {res:V} {K:St→Prop} {xs ys:List V} {a p n sz:Nat}
end
end Av
end
section
namespace Av
open Go
section
variable {Γ:Env} {A W:Nat→Bool} {b:Nat} {r:List AO} {s:St} {d:Option Nat} {f:FuncId} {args:List V} {okf:Option (List Nat)→Prop} {J K:St→Prop} {a p n:Nat} {l t:List UInt8}
end
end Av
end
section
namespace Av
open Go
theorem Ev.shut {Γ:Env} {f:FuncId} {args:List V} {ins:List Ob} {res res2:V} {outs outs2:List Ob} {br:List Nat} {B:Option (List Nat)} (h:Ev Γ f args ins res outs)
    (hc:conv (fun k=>outs[k]?) br B res res2) (hl:alh (fun k=>outs[k]?) br B br outs2) (hn:br.Nodup) (hf:br.take ins.length = List.range ins.length):Ev Γ f args ins res2 outs2:=by
  intro C cargs hP hm hmu hg hF hsz hrep
  refine (h C cargs hP hm hmu hg hF hsz hrep).mono ?_
  rintro e w' ⟨v,Z',μ',rfl,hr,hg',hmu'⟩
  obtain ⟨g2,h2,_⟩:=hg'.close hn hl (by rw [hm];exact hf)
  exact ⟨v,_,_,rfl,ja hg' br B _ _ _ _ (Nat.le_refl _) hr hc,g2,h2⟩
structure EvO (Γ:Env) (f:FuncId) (args cs:List V) (s1 s2:Nat) (xs ys cs2:List V):Prop where
  ev:Ev Γ f (.ptr 0 0 :: args) [.box true cs] (.agg [.hd 1 0 xs.length,.hd 2 0 ys.length]) [.box true cs2,.buf true s1 xs,.buf true s2 ys]
  c1:Qw cs
  c2:Qw cs2
  ca:Qw args
theorem EvO.d {Γ:Env} {f:FuncId} {args cs:List V} {s1 s2:Nat} {xs ys cs2:List V} (h:EvO Γ f args cs s1 s2 xs ys cs2):EvD Γ f args cs (.agg [.sl s1 xs,.sl s2 ys]) cs2:=by
  refine ⟨h.ev.shut (br:=[0]) (B:=none) ?_ ⟨⟨_,rfl,fun h=>h,Yd _ _ _ _ h.c2⟩,trivial⟩ (by simp) rfl,?_,h.c1,h.c2⟩
  · simp [conv,YA,okB]
  · simp only [V.closed,Qw,and_self]
section
variable {Γ:Env} {b:Nat} {r:List AO} {s:St} {d:Option Nat} {f:FuncId} {args acts:List V} {cs cs2 xs ys:List V} {s1 s2:Nat} {K:St→Prop} {okf:Option (List Nat)→Prop} {a:Nat}
end
end Av
end
section
namespace Av
open Go
end Av
end
section
namespace Av
open Go
def am4 (a:Nat):V→V
  | .ptr _ _=>.ptr a 0
  | v=>v
attribute [go_sem] am4
section
variable {Γ:Env} {A W:Nat→Bool} {b:Nat} {s:St} {d:Option Nat} {f:FuncId} {acts args:List V} {okf:Option (List Nat)→Prop} {J:St→Prop} {a p n:Nat}
theorem yi {cs:List V} (h:EvR Γ f args cs) (hl:((YJ acts).all fun x=>A x && W x) = true) (hc:JN (Xj A s.o) (some (YJ acts)) acts)
    (hk:J { t:=(s.put d (.ptr b 0)).t,o:=upd (vp (some (YJ acts)) [] s.o) b (some (.box true cs)),n:=s.n }):aiI Γ A W b s d f acts args okf J:=by
  rintro rfl _
  refine ⟨_,_,_,_,[],some (YJ acts),h.ev,Wr _ _ _ hc,trivial,List.nodup_nil,fun x hx=>by simp at hx,by simp,by simp [KK],fun h=>by simp at h,fun l h x hx=>(by cases h;simpa using List.all_eq_true.1 hl x hx),?_⟩
  simp only [VY,Ud,Ob.ren,Ql _ _ h.c1]
  exact hk
end
section
variable {Γ:Env} {A W:Nat→Bool} {b:Nat} {r:List AO} {s:St} {d:Option Nat} {f:FuncId} {acts args:List V} {okf:Option (List Nat)→Prop} {J K:St→Prop} {sx:Nat} {xs:List V}
end
end Av
end
section
namespace Av
open Go
def leL:List V→List V→Prop
  | [],[]=>True
  | x :: r,y :: r'=>LeV x y∧leL r r'
  | _,_=>False
def leC:List V→List V→Prop
  | [],[]=>True
  | x :: r,y :: r'=>leL x.cells y.cells∧leC r r'
  | _,_=>False
theorem afe:∀ {xs ys:List V},leL xs ys→xs.length = ys.length∧∀ i (h:i < xs.length) (h':i < ys.length),LeV xs[i] ys[i]
  | [],[],_=>⟨rfl,fun i h=>by simp at h⟩
  | x :: r,y :: r',h=>by
    obtain ⟨h1,h2⟩:=afe h.2
    refine ⟨by simp [h1],fun i hi hi'=>?_⟩
    cases i with
    | zero=>exact h.1
    | succ i=>exact h2 i (by simpa using hi) (by simpa using hi')
theorem ajx:∀ {xs ys:List V},leC xs ys→xs.length = ys.length∧∀ i (h:i < xs.length) (h':i < ys.length),leL xs[i].cells ys[i].cells
  | [],[],_=>⟨rfl,fun i h=>by simp at h⟩
  | x :: r,y :: r',h=>by
    obtain ⟨h1,h2⟩:=ajx h.2
    refine ⟨by simp [h1],fun i hi hi'=>?_⟩
    cases i with
    | zero=>exact h.1
    | succ i=>exact h2 i (by simpa using hi) (by simpa using hi')
theorem afd:∀ xs:List V,leL xs xs
  | []=>trivial
  | x :: r=>⟨LeV.refl x,afd r⟩
theorem ahs:∀ xs:List V,leC xs xs
  | []=>trivial
  | x :: r=>⟨afd _,ahs r⟩
theorem BOk.le {w:World} {Z:Nat→Nat→Prop} {ν:Nat→Option Cn} {c:Cn} {wr:Bool} {sz:Nat} {xs ys:List V} (h:BOk w Z ν c wr sz xs) (hl:leC xs ys):BOk w Z ν c wr sz ys:=by
  obtain ⟨l1,l2⟩:=ajx hl
  refine ⟨by rw [← l1];exact h.1,fun hv=>?_⟩
  obtain ⟨h0,h1,h2,h3,h4,cs,ty,fr,hh,h5,h6,h7⟩:=h.2 hv
  refine ⟨h0,h1,h2,h3,fun i hi=>?_,cs,ty,fr,hh,h5,h6,fun i hi j hj=>?_⟩
  · rw [← (afe (l2 i (by omega) hi)).1];exact h4 i (by omega)
  · obtain ⟨m1,m2⟩:=afe (l2 i (by omega) hi)
    obtain ⟨v,e1,e2,e3⟩:=h7 i (by omega) j (by omega)
    exact ⟨v,e1,e2,m2 j (by omega) hj _ _ _ _ e3⟩
section
variable {C:Ctx} {nt n:Nat} {s:St} {K:St→Prop} {E:Nat→St→Prop} {R:St→Prop}
end
def LeO:Ob→Ob→Prop
  | .buf wr s xs,.buf wr' s' ys=>wr = wr'∧s = s'∧leC xs ys
  | .obuf wr s xs,.obuf wr' s' ys=>wr = wr'∧s = s'∧leC xs ys
  | .box wr xs,.box wr' ys=>wr = wr'∧leL xs ys
  | x,y=>x = y
theorem LeO.refl (x:Ob):LeO x x:=by
  cases x<;>first|exact rfl|exact ⟨rfl,rfl,ahs _⟩|exact ⟨rfl,afd _⟩
theorem LeO.ok {w:World} {Z:Nat→Nat→Prop} {μ:Nat→Option Cn} {c:Cn} {x y:Ob} (h:LeO x y) (hk:wX w Z μ c x):wX w Z μ c y∧(y.live c→x.live c):=by
  cases x<;>cases y<;>first
    | (cases h;done)
    | (cases h;exact ⟨hk,fun h=>h⟩)
    | (obtain ⟨rfl,rfl,hl⟩:=h;exact ⟨BOk.le hk hl,fun h=>h⟩)
    | (obtain ⟨rfl,hl⟩:=h
       obtain ⟨hv,⟨cs,ty,hh,hs,hr⟩,hz⟩:=hk
       obtain ⟨l1,l2⟩:=afe hl
       exact ⟨⟨hv,⟨cs,ty,hh,by omega,fun j h h'=>⟨l2 j (by omega) h _ _ _ _ (hr j (by omega) h').1,(hr j (by omega) h').2⟩⟩,hz⟩,fun h=>h⟩)
structure Le (s s2:St):Prop where
  t:∀ i,LeV (s.t i) (s2.t i)
  o:∀ a y,s2.o a = some y→∃ x,s.o a = some x∧LeO x y
  n:s.n = s2.n
theorem Le.refl (s:St):Le s s:=⟨fun _=>LeV.refl _,fun a y h=>⟨y,h,LeO.refl y⟩,rfl⟩
theorem Le.trans {s s2 s3:St} (h:Le s s2) (h':Le s2 s3) (hO:∀ x y z,LeO x y→LeO y z→LeO x z):Le s s3 :=
  ⟨fun i w Z μ v hv=>h'.t i _ _ _ _ (h.t i _ _ _ _ hv),fun a y hy=>let ⟨x,h1,h2⟩:=h'.o a y hy;let ⟨z,h3,h4⟩:=h.o a x h1;⟨z,h3,hO _ _ _ h4 h2⟩,h.n.trans h'.n⟩
theorem Le.objs {t:Nat→V} {o o2:Nat→Option Ob} {n:Nat} (h:∀ a y,o2 a = some y→∃ x,o a = some x∧LeO x y):Le { t:=t,o:=o,n:=n } { t:=t,o:=o2,n:=n }:=⟨fun _=>LeV.refl _,h,rfl⟩
theorem Le.upd {t:Nat→V} {o:Nat→Option Ob} {n a:Nat} {x y:Ob} (ho:o a = some x) (h:LeO x y):Le { t:=t,o:=o,n:=n } { t:=t,o:=upd o a (some y),n:=n } :=
  Le.objs fun b z hz=>by
    by_cases hb:b = a
    · subst hb;rw [Ja] at hz;cases hz;exact ⟨x,ho,h⟩
    · rw [J6 _ _ hb] at hz;exact ⟨z,hz,LeO.refl z⟩
theorem Sim.le {C:Ctx} {nt n:Nat} {s s2:St} {a:Act} {w:World} (h:Sim C nt n s a w) (hl:Le s s2):Sim C nt n s2 a w:=by
  obtain ⟨Z,μ,hg,ht,hf,hm,hd,hn⟩:=h
  refine ⟨Z,μ,⟨fun b y hb=>?_,fun b d p q e f hbd hp hq he hf lp lq=>?_,hg.zlt,hg.grow,hg.frame,hg.zsub,hg.zsup,hg.zkeep,hg.fix,hg.oo⟩,fun i=>hl.t i _ _ _ _ (ht i),hf,hm,hd,hn⟩
  · obtain ⟨x,h1,h2⟩:=hl.o b y hb
    obtain ⟨c,hm,hk,hv⟩:=hg.ob b x h1
    obtain ⟨k1,k2⟩:=h2.ok hk
    exact ⟨c,hm,k1,fun hy=>hv (k2 hy)⟩
  · obtain ⟨x,h1,h2⟩:=hl.o b p hp
    obtain ⟨x',h1',h2'⟩:=hl.o d q hq
    obtain ⟨c,hm,hk,_⟩:=hg.ob b x h1
    obtain ⟨c',hm',hk',_⟩:=hg.ob d x' h1'
    have e1:c = e:=by rw [hm] at he;cases he;rfl
    have e2:c' = f:=by rw [hm'] at hf;cases hf;rfl
    subst e1;subst e2
    exact hg.sep b d x x' _ _ hbd h1 h1' hm hm' ((h2.ok hk).2 lp) ((h2'.ok hk').2 lq)
section
variable {C:Ctx} {nt:Nat} {s:St} {K:St→Prop} {E:Nat→St→Prop} {R:St→Prop}
end
end Av
end
section
namespace Av
open Go
theorem EvP.shut {Γ:Env} {f:FuncId} {args:List V} {ins:List Ob} {Q Q2:V→List Ob→Prop} (h:EvP Γ f args ins Q)
    (hq:∀ res outs,Q res outs→∃ res2 outs2 br B,Q2 res2 outs2∧conv (fun k=>outs[k]?) br B res res2∧alh (fun k=>outs[k]?) br B br outs2∧br.Nodup∧br.take ins.length = List.range ins.length):EvP Γ f args ins Q2:=by
  intro C cargs hP hm hmu hg hF hsz hrep
  refine (h C cargs hP hm hmu hg hF hsz hrep).mono ?_
  rintro e w' ⟨res,outs,hQ,v,Z',μ',rfl,hr,hg',hmu'⟩
  obtain ⟨res2,outs2,br,B,h2,hc,hl,hn,hf⟩:=hq res outs hQ
  obtain ⟨g2,h3,_⟩:=hg'.close hn hl (by rw [hm];exact hf)
  exact ⟨res2,outs2,h2,v,_,_,rfl,ja hg' br B _ _ _ _ (Nat.le_refl _) hr hc,g2,h3⟩
structure EvK (Γ:Env) (f:FuncId) (args cs:List V) (Q:V→List V→Prop):Prop where
  ev:EvP Γ f (.ptr 0 0 :: args) [.box true cs] (fun r o=>∃ cs2,o = [.box true cs2]∧Q r cs2)
  c1:Qw cs
  cq:∀ r cs2,Q r cs2→r.closed∧Qw cs2
theorem EvD.k {Γ:Env} {f:FuncId} {args cs cs2:List V} {res:V} {Q:V→List V→Prop} (h:EvD Γ f args cs res cs2) (hq:Q res cs2) (hc:∀ r cs2,Q r cs2→r.closed∧Qw cs2):EvK Γ f args cs Q :=
  ⟨h.ev.p.weaken fun r o ⟨h1,h2⟩=>⟨cs2,h2,h1 ▸ hq⟩,h.c1,hc⟩
theorem EvK.weaken {Γ:Env} {f:FuncId} {args cs:List V} {Q Q':V→List V→Prop} (h:EvK Γ f args cs Q) (hq:∀ r c,Q r c→Q' r c) (hc:∀ r cs2,Q' r cs2→r.closed∧Qw cs2):EvK Γ f args cs Q' :=
  ⟨h.ev.weaken fun r o ⟨c,h1,h2⟩=>⟨c,h1,hq _ _ h2⟩,h.c1,hc⟩
section
variable {Γ:Env} {b:Nat} {r:List AO} {s:St} {d:Option Nat} {f:FuncId} {acts cs:List V} {Q:V→List V→Prop} {K:St→Prop} {a:Nat}
end
section
variable {Γ:Env} {b:Nat} {r:List AO} {s:St} {d:Option Nat} {f:FuncId} {acts args cs:List V} {Q:V→List Ob→Prop} {K:St→Prop} {okf:Option (List Nat)→Prop} {a:Nat}
end
section
variable {C:Ctx} {nt:Nat} {s:St} {K:St→Prop} {E:Nat→St→Prop} {R:St→Prop}
end
end Av
end
section
namespace Av
open Go
structure EvF (Γ:Env) (f:FuncId) (off:Nat) (args cs:List V) (res:V) (cs2:List V):Prop where
  ev:Ev Γ f (.ptr 0 off :: args) [.box true cs] res [.box true cs2]
  cl:res.closed
  c1:Qw cs
  c2:Qw cs2
structure EvH (Γ:Env) (f:FuncId) (x:V) (cs:List V) (res:V) (cs2:List V):Prop where
  ev:Ev Γ f [x,.ptr 1 0] [.box true cs,.box true [.ptr 0 0]] res [.box true cs2,.box true [.ptr 0 0]]
  cl:res.closed
  c1:Qw cs
  c2:Qw cs2
structure EvJ (Γ:Env) (f:FuncId) (cs ks vs:List V) (c0:Nat):Prop where
  ev:Ev Γ f [.ptr 0 0] [.box true cs] (.mp 1) [.box true cs,.map ks vs c0,.box true [.ptr 0 0]]
  c1:Qw cs
section
variable {Γ:Env} {A W:Nat→Bool} {b:Nat} {r:List AO} {s:St} {d:Option Nat} {f:FuncId} {acts args:List V} {okf:Option (List Nat)→Prop} {x y z res:V} {J K:St→Prop} {cs cs2 ks vs:List V} {a p off c0:Nat}
theorem am7 {x a p n:Nat} {o:Nat→Option Ob}:vp (some [x]) [a,p] o n = if n = x then (if x = a then o n else if x = p then o n else (o n).map Ob.frz) else o n:=by
  simp only [vp,List.mem_singleton,List.mem_cons,List.not_mem_nil,or_false]
  by_cases h1:n = x
  · subst h1
    by_cases h2:n = a<;>by_cases h3:n = p<;>simp [h2,h3]
  · simp [h1]
theorem am6 {x n:Nat} {o:Nat→Option Ob}:vp (some [x]) [] o n = if n = x then (o n).map Ob.frz else o n:=by
  simp only [vp,List.mem_cons,List.not_mem_nil,or_false,not_false_eq_true,and_true]
attribute [go_sem] am7 am6
theorem ahP {args:List V} (h:EvC Γ f args res) (hc:okf (some (YJ acts))) (hk:V7 Γ (b + KK) r { t:=(s.put d res).t,o:=vp (some (YJ acts)) [] s.o,n:=s.n } K):ajW Γ b r s d f acts args okf K:=by
  rintro rfl rfl
  refine V4 ⟨_,_,_,_,[],some (YJ acts),h.1,Wr _ _ _ hc,trivial,List.nodup_nil,fun x hx=>by simp at hx,by simp,by simp [KK],fun h=>by simp at h,?_⟩
  simp only [VY,Ud,Qo _ _ h.2]
  exact hk
theorem ahQ (ha:s.o a = some (.box true cs)) (h:EvF Γ f off args cs res cs2) (hal:(YJ acts).contains a = false) (hab:decide (a < b) = true) (hc:JN s.o (some (YJ acts)) acts)
    (hk:V7 Γ (b + KK) r { t:=(s.put d res).t,o:=upd (vp (some (YJ acts)) [a] s.o) a (some (.box true cs2)),n:=s.n } K):ajW Γ b r s d f (.ptr a off :: acts) (x :: args) okf K:=by
  intro h1 _
  simp only [X9,List.cons.injEq] at h1
  obtain ⟨_,rfl⟩:=h1
  have hal':a ∉ YJ acts:=by simpa using hal
  refine V4 ⟨_,_,_,_,[a],some (YJ acts),h.ev,⟨?_,Wx s.o [a] _ ?_ acts hc⟩,⟨⟨_,ha,Yd _ _ _ _ h.c1⟩,trivial⟩,by simp,by simpa using of_decide_eq_true hab,Nat.le_refl _,by simp [KK],fun h=>by simp at h,?_⟩
  · simp [conv]
  · intro x hx hxa
    simp only [List.mem_singleton] at hxa
    subst hxa;exact hal' hx
  · rw [Qo _ _ h.cl]
    simp only [VY,Ud,Ob.ren,Ql _ _ h.c2]
    exact hk
theorem ak5 (hp:s.o p = some (.box true [.ptr a 0])) (ha:s.o a = some (.box true cs)) (h:EvH Γ f y cs res cs2) (hal:(!(YJ [x]).contains a && !(YJ [x]).contains p) = true) (hab:decide (a≠p∧a < b∧p < b) = true) (hc:JN s.o (some (YJ [x])) [x])
    (hk:V7 Γ (b + KK) r { t:=(s.put d res).t,o:=upd (upd (vp (some (YJ [x])) [a,p] s.o) p (some (.box true [.ptr a 0]))) a (some (.box true cs2)),n:=s.n } K):ajW Γ b r s d f [x,.ptr p 0] [y,z] okf K:=by
  intro h1 _
  simp only [X9,List.cons.injEq] at h1
  obtain ⟨rfl,_⟩:=h1
  obtain ⟨e1,e2,e3⟩:=of_decide_eq_true hab
  have hal':a ∉ YJ [x]∧p ∉ YJ [x]:=by simpa using hal
  have hx:=Wx s.o [a,p] _ (fun y hy hya=>by
    simp only [List.mem_cons,List.not_mem_nil,or_false] at hya
    rcases hya with rfl|rfl
    · exact hal'.1 hy
    · exact hal'.2 hy) [x] hc
  refine V4 ⟨_,_,_,_,[a,p],some (YJ [x]),h.ev,⟨hx.1,?_,trivial⟩,⟨⟨_,ha,Yd _ _ _ _ h.c1⟩,⟨_,hp,?_⟩,trivial⟩,by simpa using e1,?_,Nat.le_refl _,by simp [KK],fun h=>by simp at h,?_⟩
  · simp [conv]
  · show YA _ _ _ _ _
    simp [YA,conv]
  · intro q hq
    simp only [List.mem_cons,List.not_mem_nil,or_false] at hq
    rcases hq with rfl|rfl<;>assumption
  · rw [Qo _ _ h.cl]
    simp only [VY,Ud,Ob.ren,Ql _ _ h.c2,y0,V.ren,sig]
    exact hk
theorem alT (hp:s.o p = some (.box true [.ptr a 0])) (ha:s.o a = some (.box true cs)) (hA:(A a && A p && W a && W p) = true) (h:EvH Γ f y cs res cs2) (hal:(!(YJ [x]).contains a && !(YJ [x]).contains p) = true) (hab:decide (a≠p∧a < b∧p < b) = true) (hl:((YJ [x]).all fun x=>A x && W x) = true) (hc:JN (Xj A s.o) (some (YJ [x])) [x])
    (hk:J { t:=(s.put d res).t,o:=upd (upd (vp (some (YJ [x])) [a,p] s.o) p (some (.box true [.ptr a 0]))) a (some (.box true cs2)),n:=s.n }):aiI Γ A W b s d f [x,.ptr p 0] [y,z] okf J:=by
  intro h1 _
  simp only [X9,List.cons.injEq] at h1
  obtain ⟨rfl,_⟩:=h1
  obtain ⟨e1,e2,e3⟩:=of_decide_eq_true hab
  have hal':a ∉ YJ [x]∧p ∉ YJ [x]:=by simpa using hal
  simp only [Bool.and_eq_true] at hA
  obtain ⟨⟨⟨A1,A2⟩,W1⟩,W2⟩:=hA
  have hra:Xj A s.o a = some (.box true cs):=by rw [abJ,if_pos A1,ha]
  have hrp:Xj A s.o p = some (.box true [.ptr a 0]):=by rw [abJ,if_pos A2,hp]
  have hx:=Wx (Xj A s.o) [a,p] _ (fun y hy hya=>by
    simp only [List.mem_cons,List.not_mem_nil,or_false] at hya
    rcases hya with rfl|rfl
    · exact hal'.1 hy
    · exact hal'.2 hy) [x] hc
  refine ⟨_,_,_,_,[a,p],some (YJ [x]),h.ev,⟨hx.1,?_,trivial⟩,⟨⟨_,hra,Yd _ _ _ _ h.c1⟩,⟨_,hrp,?_⟩,trivial⟩,by simpa using e1,?_,Nat.le_refl _,by simp [KK],fun h=>by simp at h,fun l' hl'=>by
    cases hl'
    exact fun q hq=>by simpa using List.all_eq_true.1 hl q hq,?_⟩
  · simp [conv]
  · show YA _ _ _ _ _
    simp [YA,conv]
  · intro q hq
    simp only [List.mem_cons,List.not_mem_nil,or_false] at hq
    rcases hq with rfl|rfl
    · exact ⟨e2,W1⟩
    · exact ⟨e3,W2⟩
  · rw [Qo _ _ h.cl]
    simp only [VY,Ud,Ob.ren,Ql _ _ h.c2,y0,V.ren,sig]
    exact hk
theorem amo (ha:s.o a = some (.box true cs)) (h:EvJ Γ f cs ks vs c0) (hab:decide (a < b) = true)
    (hk:V7 Γ (b + KK) r { t:=(s.put d (.mp b)).t,o:=upd (upd (upd s.o (b + 1) (some (.box true [.ptr a 0]))) b (some (.map ks (y0 (sig [a] b) vs) c0))) a (some (.box true cs)),n:=s.n } K):ajW Γ b r s d f [.ptr a 0] args okf K:=by
  intro _ _
  refine V4 ⟨_,_,_,_,[a],some [],h.ev,⟨?_,trivial⟩,⟨⟨_,ha,Yd _ _ _ _ h.c1⟩,trivial⟩,by simp,by simpa using of_decide_eq_true hab,by simp,by simp [KK],fun h=>by simp at h,?_⟩
  · simp [conv]
  · simp only [VY,Ud,Ob.ren,Ql _ _ h.c1,y0,V.ren,sig,amD]
    exact hk
theorem adL {nt:Nat} {ac:AC} {rs:List Y9} (hb:Has Γ.P f nt ac rs) (ha:args.length + 1≤nt) (hr:res.closed) (h1:Qw cs) (h2:Qw cs2)
    (h:∀ C:Ctx,C.env = Γ→C.m = 1→AWp C nt ac (VO (.ptr 0 off :: args) [.box true cs]) (aan 1 rs res [.box true cs2]) (fun _ _=>False) (aan 1 rs res [.box true cs2])):EvF Γ f off args cs res cs2 :=
  ⟨V6 hb (by simpa using ha) h,hr,h1,h2⟩
theorem wl {nt:Nat} {ac:AC} {rs:List Y9} (hb:Has Γ.P f nt ac rs) (ha:2≤nt) (hr:res.closed) (h1:Qw cs) (h2:Qw cs2)
    (h:∀ C:Ctx,C.env = Γ→C.m = 2→AWp C nt ac (VO [x,.ptr 1 0] [.box true cs,.box true [.ptr 0 0]]) (aan 2 rs res [.box true cs2,.box true [.ptr 0 0]]) (fun _ _=>False) (aan 2 rs res [.box true cs2,.box true [.ptr 0 0]])):EvH Γ f x cs res cs2 :=
  ⟨V6 hb (by simpa using ha) h,hr,h1,h2⟩
theorem ag5 {nt:Nat} {ac:AC} {rs:List Y9} (hb:Has Γ.P f nt ac rs) (ha:1≤nt) (h1:Qw cs)
    (h:∀ C:Ctx,C.env = Γ→C.m = 1→AWp C nt ac (VO [.ptr 0 0] [.box true cs]) (aan 1 rs (.mp 1) [.box true cs,.map ks vs c0,.box true [.ptr 0 0]]) (fun _ _=>False) (aan 1 rs (.mp 1) [.box true cs,.map ks vs c0,.box true [.ptr 0 0]])):EvJ Γ f cs ks vs c0 :=
  ⟨V6 hb (by simpa using ha) h,h1⟩
theorem ahE {rs:List Y9} (us:List V) (h:acG s rs = some us) (h0:s.o 0 = some (.box true cs2)) (h1:s.o 1 = some (.box true [.ptr 0 0])) (h2:Qw cs2) (hc:conv s.o [0,1] none (ahC us) res):aan 2 rs res [.box true cs2,.box true [.ptr 0 0]] s :=
  jN rs us _ h ⟨[0,1],none,hc,⟨⟨_,h0,fun h=>h,Yd _ _ _ _ h2⟩,⟨_,h1,fun h=>h,by show YA _ _ _ _ _;simp [YA,conv]⟩,trivial⟩,by simp,rfl⟩
theorem amb {rs:List Y9} {us:List V} (m q:Nat) (h:acG s rs = some [.mp m]) (h0:s.o 0 = some (.box true cs2)) (hm:s.o m = some (.map ks us c0)) (hq:s.o q = some (.box true [.ptr 0 0])) (h2:Qw cs2)
    (hv:YA s.o [0,m,q] none us vs) (hd:decide (0 < m∧0 < q∧m≠q) = true):aan 1 rs (.mp 1) [.box true cs2,.map ks vs c0,.box true [.ptr 0 0]] s:=by
  obtain ⟨d1,d2,d3⟩:=of_decide_eq_true hd
  refine jN rs _ _ h ⟨[0,m,q],none,?_,⟨⟨_,h0,fun h=>h,Yd _ _ _ _ h2⟩,⟨_,hm,rfl,rfl,hv⟩,⟨_,hq,fun h=>h,by show YA _ _ _ _ _;simp [YA,conv]⟩,trivial⟩,?_,rfl⟩
  · simp [ahC,conv]
  · simp;omega
end
end Av
end
section
set_option linter.unusedSimpArgs false
set_option linter.unusedVariables false
set_option maxRecDepth 10000
set_option maxHeartbeats 4000000
namespace Av
open Go
attribute [local irreducible] AWp V7 Kz KE awS awC jS awQ jY JB Wl jJ awR Ws awB okR Vo ris
def alX (c:UInt8) (o:List UInt8):Bool:=(decide ((c.toNat:Int)≥97) && decide ((c.toNat:Int)≤122)) || ((decide ((c.toNat:Int)≥65) && decide ((c.toNat:Int)≤90)) || ((decide ((c.toNat:Int)≥48) && decide ((c.toNat:Int)≤57)) || decide (Lib.indexByte o c≥0)))
def afH (s:List UInt8):Bool:=s.all (fun c=>alX c [45,95,46]) && (decide ((s.length:Int)≥1) && decide ((s.length:Int)≤32))
def air (s:List UInt8):Bool:=match Lib.atoiAll s with|.ok _=>decide (qK s≥0) && (Lib.itoa (qK s) == s)|_=>false
theorem ajX (w:List UInt8):-9223372036854775808≤qK w∧qK w≤9223372036854775807:=by
  unfold qK
  split
  · rename_i v h
    unfold Lib.atoiAll at h
    split at h
    · exact absurd h (by simp)
    · dsimp only at h
      split at h
      · exact absurd h (by simp)
      · exact absurd h (by simp)
      · rename_i u _
        split at h
        · exact absurd h (by simp)
        · split at h
          · exact absurd h (by simp)
          · rename_i h1 h2
            injection h with h
            subst h
            split<;>rename_i h3<;>simp only [h3,not_true_eq_false,not_false_eq_true,true_and,false_and] at h1 h2<;>omega
  · unfold Lib.atoiSat;split<;>omega
  · omega
def qF (Yr:Nat):AC:=QF [0,1] (.reg [mc 4 (V.bool false)]) (QF [4] (.reg [mv 5 0,bc 6 .geq 5 (.sc (.int .u8 97)),mv 7 6,mg 8 0 7 true,xg 9 (.bin .leq (.t 8) (.c (.sc (.int .u8 122)))) 7 true,xo 10 (.pick (.t 7) (.t 9) (.c (V.bool false))),mv 11 10,mg 12 0 11 false,xg 13 (.bin .geq (.t 12) (.c (.sc (.int .u8 65)))) 11 false,mg 14 13 11 false,mg 15 0 14 true,xg 16 (.bin .leq (.t 15) (.c (.sc (.int .u8 90)))) 14 true,xg 17 (.pick (.t 14) (.t 16) (.c (V.bool false))) 11 false,xo 18 (.pick (.t 11) (.c (V.bool true)) (.t 17)),mv 19 18,mg 20 0 19 false,xg 21 (.bin .geq (.t 20) (.c (.sc (.int .u8 48)))) 19 false,mg 22 21 19 false,mg 23 0 22 true,xg 24 (.bin .leq (.t 23) (.c (.sc (.int .u8 57)))) 22 true,xg 25 (.pick (.t 22) (.t 24) (.c (V.bool false))) 19 false,xo 26 (.pick (.t 19) (.c (V.bool true)) (.t 25)),mv 27 26,mg 28 1 27 false,mg 29 0 27 false,xg 30 (.call Yr [(.t 28),(.t 29)]) 27 false,xg 31 (.bin .geq (.t 30) (.c (V.int 0))) 27 false,xo 32 (.pick (.t 27) (.c (V.bool true)) (.t 31)),mv 4 32]) (.ret)) def r_settings_Letter:List Y9:=[.tmp 4]
def qf (Γ:Env) (f:Nat):Prop:=∀ (c:UInt8) (o:List UInt8),EvN Γ f [.sc (.int .u8 c.toNat),V.str o] (V.bool (alX c o))
theorem abi {Γ:Env} {f Yr:Nat} (h:Has Γ.P f 33 (qF Yr) r_settings_Letter) (Ju:UV Γ Yr):qf Γ f:=by
  intro c o
  refine Jb h (by simp) (by simp only [V.closed,Qw,V.noSl,JL,and_self,and_true,true_and]) (by simp only [V.closed,Qw,V.noSl,JL,and_self,and_true,true_and]) fun C hC hm=>?_
  subst hC
  unfold qF
  repeat' (first|refine Qp fun K' hK=>?_|refine Qt fun K' hK=>?_|refine Qq ?_|refine Qr ?_|refine Qa ?_|((first|refine Qs ⟨_,rfl,fun hc=>?_,fun hc=>?_⟩|refine QM (fun hc=>?_) (fun hc=>?_)|refine QN (fun hc=>?_) (fun hc=>?_))<;>first|(cases hc;done)|((try simp only [znz] at hc);first|exact znf|skip))|refine Qv ?_|refine Qu ?_|simp (maxSteps:=1000000) only [go_sem]|(refine hK _ ?_;clear hK K')|apply And.intro|(apply QX;(focus first|exact (Ju _ _).b))|exact zlo|omega|exact zms)
  all_goals first|(refine Je _ rfl ?_;simp only [go_sem];simp [alX, *];done)
def yd (UC:Nat):AC:=QF [0] (.reg [mc 2 (V.bool false)]) (QF [0] (QF [0,6,7,8] (.reg [mv 5 0,xo 6 (.convSB (.t 5)),ln 7 6,mc 8 (V.int 0)]) (.block 0 (Wv [0,6,7,8] (QF [0,6,7,8,9] (.reg [bn 9 .lss 8 7]) (QF [0,6,7,8] (.cond (.t 9) (.skip) (.exit 0)) (QF [0,6,7,8] (.block 1 (QF [0,4,6,7,8] (.reg [ia 10 1 6 8,ld 11 1 10,mv 4 11]) (QF [0,6,7,8,14] (.reg [mv 12 4,xo 13 (.call UC [(.t 12),(.c (V.str [45,95,46]))]),xo 14 (.un .not (.t 13))]) (.cond (.t 14) (QF [2] (.reg [mc 2 (V.bool false)]) (.ret)) (.skip))))) (.reg [bc 15 .add 8 (V.int 1),mv 8 15]))))))) (QF [2] (.reg [mv 16 0,xo 17 (.lenS (.t 16)),bc 18 .geq 17 (V.int 1),mv 19 18,mg 20 0 19 true,xg 21 (.lenS (.t 20)) 19 true,xg 22 (.bin .leq (.t 21) (.c (V.int 32))) 19 true,xo 23 (.pick (.t 19) (.t 22) (.c (V.bool false))),mv 2 23]) (.ret))) def r_settings_Word:List Y9:=[.tmp 2]
def Kf (Γ:Env) (f:Nat):Prop:=∀ (s:List UInt8) (hs:s.length < 2 ^ 30),EvN Γ f [V.str s] (V.bool (afH s))
theorem acJ {Γ:Env} {f UC:Nat} (h:Has Γ.P f 24 (yd UC) r_settings_Word) (Vq:qf Γ UC):Kf Γ f:=by
  intro s hs
  refine Jb h (by simp) (by simp only [V.closed,Qw,V.noSl,JL,and_self,and_true,true_and]) (by simp only [V.closed,Qw,V.noSl,JL,and_self,and_true,true_and]) fun C hC hm=>?_
  subst hC
  unfold yd
  repeat' (first|refine Qp fun K' hK=>?_|refine Qt fun K' hK=>?_|refine Qq ?_|refine Qr ?_|refine Qa ?_|((first|refine Qs ⟨_,rfl,fun hc=>?_,fun hc=>?_⟩|refine QM (fun hc=>?_) (fun hc=>?_)|refine QN (fun hc=>?_) (fun hc=>?_))<;>first|(cases hc;done)|((try simp only [znz] at hc);first|exact znf|skip))|refine Qv ?_|refine Qu ?_|simp (maxSteps:=1000000) only [go_sem]|(refine hK _ ?_;clear hK K')|apply And.intro|(apply QX;(focus first|exact (Vq _ _).b))|exact zlo|omega|exact zms)
  refine JF (ι:=Nat) (fun k=>k≤s.length∧(s.take k).all (fun c=>alX c [45,95,46]) = true) (fun k=>Ym [(0,V.str s),(6,.hd 0 0 s.length),(7,V.int s.length),(8,V.int k)] [(0,.buf true 1 (s.map fun c=>V.sc (.int .u8 c.toNat)))] 1) (fun k=>s.length - k) 0 ⟨by omega,by simp⟩ (Jp [(0,2000)]) (Jq [(0,2000)] (by simp only [go_sem,and_true,true_and,implies_true,Option.some.injEq,exists_eq_left',Ql,Qo];(repeat' (first|rfl|apply And.intro|omega|exact fun h=>h|exact Exists.intro _ rfl))) (by simp only [go_sem,and_true,true_and,implies_true,Option.some.injEq,exists_eq_left',Ql,Qo];(repeat' (first|rfl|apply And.intro|omega|exact fun h=>h|exact Exists.intro _ rfl))) (by simp [Jp]) (by simp;omega) (by omega)) fun k hk K' hL=>?_
  obtain ⟨hk,hinv⟩:=hk
  rcases hd:s.drop k with _|⟨c,r⟩
  · have hkl:=YX hd
    rw [List.take_of_length_le hkl] at hinv
    have e1:decide ((k:Int) < ((s.length:Nat):Int)) = false:=by simp;omega
    have hw:afH s = (decide ((s.length:Int)≥1) && decide ((s.length:Int)≤32)):=by rw [afH,hinv,Bool.true_and]
    rw [hw]
    repeat' (first|refine Qp fun K' hK=>?_|refine Qt fun K' hK=>?_|refine Qq ?_|refine Qr ?_|refine Qa ?_|((first|refine Qs ⟨_,rfl,fun hc=>?_,fun hc=>?_⟩|refine QM (fun hc=>?_) (fun hc=>?_)|refine QN (fun hc=>?_) (fun hc=>?_))<;>first|(cases hc;done)|((try simp only [znz] at hc);first|exact znf|skip))|refine Qv ?_|refine Qu ?_|simp (maxSteps:=1000000) only [go_sem,Ym,e1]|(refine hK _ ?_;clear hK K')|apply And.intro|(apply QX;(focus first|exact (Vq _ _).b))|exact zlo|omega|exact zms)
    all_goals first|(refine Je _ rfl ?_;simp only [go_sem];done)|(refine Je _ rfl ?_;simp only [go_sem];simp [*];done)
  · obtain ⟨hk',hget,hr⟩:=Yp hd
    have hwi:=JO (k:=k) (by omega)
    have e1:decide ((k:Int) < ((s.length:Nat):Int)) = true:=by simp;omega
    have hl:=(Vq c [45,95,46]).b
    rcases hb:alX c [45,95,46] with _|_
    · have hw:afH s = false:=by
        have:s.all (fun c=>alX c [45,95,46]) = false:=by
          rw [List.all_eq_false];exact ⟨c,List.mem_of_getElem? hget,by simp [hb]⟩
        rw [afH,this];rfl
      rw [hb] at hl
      rw [hw]
      repeat' (first|refine Qp fun K' hK=>?_|refine Qt fun K' hK=>?_|refine Qq ?_|refine Qr ?_|refine Qa ?_|((first|refine Qs ⟨_,rfl,fun hc=>?_,fun hc=>?_⟩|refine QM (fun hc=>?_) (fun hc=>?_)|refine QN (fun hc=>?_) (fun hc=>?_))<;>first|(cases hc;done)|((try simp only [znz] at hc);first|exact znf|skip))|refine Qv ?_|refine Qu ?_|simp (maxSteps:=1000000) only [go_sem,Ym,e1,hwi,Int.toNat_natCast,List.getElem?_map,hget]|(refine hK _ ?_;clear hK K')|apply And.intro|(apply QX;(focus first|exact hl|exact (Vq _ _).b))|exact zlo|omega|exact zms)
      all_goals first|(refine Je _ rfl ?_;simp only [go_sem];done)
    · rw [hb] at hl
      repeat' (first|refine Qp fun K' hK=>?_|refine Qt fun K' hK=>?_|refine Qq ?_|refine Qr ?_|refine Qa ?_|((first|refine Qs ⟨_,rfl,fun hc=>?_,fun hc=>?_⟩|refine QM (fun hc=>?_) (fun hc=>?_)|refine QN (fun hc=>?_) (fun hc=>?_))<;>first|(cases hc;done)|((try simp only [znz] at hc);first|exact znf|skip))|refine Qv ?_|refine Qu ?_|simp (maxSteps:=1000000) only [go_sem,Ym,e1,hwi,Int.toNat_natCast,List.getElem?_map,hget]|(refine hK _ ?_;clear hK K')|apply And.intro|(apply QX;(focus first|exact hl|exact (Vq _ _).b))|exact zlo|omega|exact zms)
      all_goals first|exact hL _ (k + 1) (Jp []) ⟨by omega,by rw [List.take_add_one,hget,List.all_append,hinv];simp [hb]⟩ (by omega) (Jq [] (by simp only [go_sem,and_true,true_and,implies_true,Option.some.injEq,exists_eq_left',Ql,Qo];(repeat' (first|rfl|apply And.intro|omega|exact fun h=>h|exact Exists.intro _ rfl))) (by simp only [go_sem,and_true,true_and,implies_true,Option.some.injEq,exists_eq_left',Ql,Qo];(repeat' (first|rfl|apply And.intro|omega|exact fun h=>h|exact Exists.intro _ rfl))) (by simp) (by simp) (by omega))
def KY (qY qX:Nat):AC:=QF [0] (.reg [mc 2 (V.int 0),mc 3 (V.bool false)]) (QF [0,4,5] (.reg [mv 7 0,cl 8 qY [7],mv 6 8,ex 9 6 0,ex 10 6 1,mv 4 9,mv 5 10]) (QF [2,3] (.reg [mv 11 4,mv 12 5,xo 13 (.isnilI false (.t 12)),mv 14 13,mg 15 4 14 true,xg 16 (.bin .geq (.t 15) (.c (V.int 0))) 14 true,xo 17 (.pick (.t 14) (.t 16) (.c (V.bool false))),mv 18 17,mg 19 4 18 true,xg 20 (.call qX [(.t 19)]) 18 true,mg 21 0 18 true,xg 22 (.bin .eql (.t 20) (.t 21)) 18 true,xo 23 (.pick (.t 18) (.t 22) (.c (V.bool false))),mv 2 11,mv 3 23]) (.ret))) def r_settings_Decimal:List Y9:=[.tmp 2,.tmp 3]
def Kv (Γ:Env) (f:Nat):Prop:=∀ (s:List UInt8) (hs:s.length < 2 ^ 30),EvN Γ f [V.str s] (.tup [V.int (qK s),V.bool (air s)])
theorem aaF {Γ:Env} {f qY qX:Nat} (h:Has Γ.P f 24 (KY qY qX) r_settings_Decimal) (xb:vJ Γ qY) (y9:vI Γ qX):Kv Γ f:=by
  intro s hs
  refine Jb h (by simp) (by simp only [V.closed,Qw,V.noSl,JL,and_self]) (by simp only [V.closed,Qw,V.noSl,JL,and_self]) fun C hC hm=>?_
  subst hC
  unfold KY
  have ga:=(xb s (by omega)).b
  have hrng:=ajX s
  have gi:=(y9 (qK s) hrng.1 hrng.2).b
  by_cases hok:∃ n,Lib.atoiAll s = .ok n
  · obtain ⟨n,hn⟩:=hok
    have he:ajH s = .sc .nilIface:=by rw [ajH,hn]
    have hd:air s = (decide (qK s≥0) && (Lib.itoa (qK s) == s)):=by rw [air,hn]
    rw [he] at ga
    rw [hd]
    repeat' (first|refine Qp fun K' hK=>?_|refine Qt fun K' hK=>?_|refine Qq ?_|refine Qr ?_|refine Qa ?_|((first|refine Qs ⟨_,rfl,fun hc=>?_,fun hc=>?_⟩|refine QM (fun hc=>?_) (fun hc=>?_)|refine QN (fun hc=>?_) (fun hc=>?_))<;>first|(cases hc;done)|((try simp only [znz] at hc);first|exact znf|skip))|refine Qv ?_|refine Qu ?_|simp (maxSteps:=1000000) only [go_sem]|(refine hK _ ?_;clear hK K')|apply And.intro|(apply QX;(focus first|exact ga|exact gi|exact (xb _ zsd).b|exact (y9 _ zsd zsd).b))|exact zlo|omega|exact zms)
    all_goals first|(refine Je _ rfl ?_;simp only [go_sem];done)|(refine Je _ rfl ?_;simp only [go_sem];simp [*];done)
  · have he:ajH s = .nn:=by
      rw [ajH];split
      · rename_i n hn;exact absurd ⟨n,hn⟩ hok
      · rfl
    have hd:air s = false:=by
      rw [air];split
      · rename_i n hn;exact absurd ⟨n,hn⟩ hok
      · rfl
    rw [he] at ga
    rw [hd]
    repeat' (first|refine Qp fun K' hK=>?_|refine Qt fun K' hK=>?_|refine Qq ?_|refine Qr ?_|refine Qa ?_|((first|refine Qs ⟨_,rfl,fun hc=>?_,fun hc=>?_⟩|refine QM (fun hc=>?_) (fun hc=>?_)|refine QN (fun hc=>?_) (fun hc=>?_))<;>first|(cases hc;done)|((try simp only [znz] at hc);first|exact znf|skip))|refine Qv ?_|refine Qu ?_|simp (maxSteps:=1000000) only [go_sem]|(refine hK _ ?_;clear hK K')|apply And.intro|(apply QX;(focus first|exact ga|exact gi|exact (xb _ zsd).b|exact (y9 _ zsd zsd).b))|exact zlo|omega|exact zms)
    all_goals first|(refine Je _ rfl ?_;simp only [go_sem];done)|(refine Je _ rfl ?_;simp only [go_sem];simp [*];done)
end Av
end
section
set_option linter.unusedSimpArgs false
set_option linter.unusedVariables false
set_option maxRecDepth 10000
set_option maxHeartbeats 4000000
namespace Av
open Go
attribute [local irreducible] AWp V7 Kz KE awS awC jS awQ jY JB Wl jJ awR Ws awB okR Vo ris
structure Jy where
  name:List UInt8
  least:Int
  most:Int
  suites:List Int
  own:Bool
  fall:Bool
def Jy.cells (d:Jy):List V:=[V.str d.name,V.int d.least,V.int d.most,.sl 1 (d.suites.map V.int),V.bool d.own,.sc (.slice none 0 0),.sc (.slice none 0 0),.sc (.slice none 0 0),V.bool d.fall,.sc (.slice none 0 0)]
theorem Jy.cells_closed (d:Jy):Qw d.cells:=by simp [Jy.cells,V.closed,Qw]
def aiL (s:List UInt8):Bool:=air s && (decide (qK s≥1) && decide (qK s≤4))
def KZ (Uj:Nat):AC:=QF [0,1] (.reg [mc 4 (V.bool false)]) (QF [0,1] (QF [0,1,9] (.reg [mv 7 1,ln 8 7,bc 9 .neq 8 (V.int 1)]) (.cond (.t 9) (QF [4] (.reg [mc 4 (V.bool false)]) (.ret)) (.skip))) (QF [0,5,6] (.reg [mv 11 1,xo 12 (.iaddr 1 (.t 11) (.c (V.int 0))),ld 13 1 12,cl 14 Uj [13],mv 10 14,ex 15 10 0,ex 16 10 1,mv 5 15,mv 6 16]) (QF [5,6] (.reg [mv 17 0,mv 18 5,nk 19 17,xs 1 19 18]) (QF [4] (.reg [mv 20 6,mv 21 20,mg 22 5 21 true,xg 23 (.bin .geq (.t 22) (.c (V.int 1))) 21 true,xo 24 (.pick (.t 21) (.t 23) (.c (V.bool false))),mv 25 24,mg 26 5 25 true,xg 27 (.bin .leq (.t 26) (.c (V.int 4))) 25 true,xo 28 (.pick (.t 25) (.t 27) (.c (V.bool false))),mv 4 28]) (.ret))))) def r_endpoint_version:List Y9:=[.tmp 4]
def VW (Γ:Env) (f:Nat):Prop:=∀ (s:List UInt8) (d:Jy) (most:Bool) (hs:s.length < 2 ^ 30),EvF Γ f (if most then 2 else 1) [.sl 1 [V.str s]] d.cells (V.bool (aiL s)) (if most then { d with most:=qK s } else { d with least:=qK s }).cells
theorem aaG {Γ:Env} {f Uj:Nat} (h:Has Γ.P f 29 (KZ Uj) r_endpoint_version) (KP:Kv Γ Uj):VW Γ f:=by
  intro s d most hs
  refine adL h (by simp) (by first|exact Jy.cells_closed _|simp only [V.closed,Qw,and_self]) (by first|exact Jy.cells_closed _|exact J7 _ _|simp only [V.closed,Qw,and_self,and_true,true_and]|(simp [V.closed,Qw];done)) (by first|exact Jy.cells_closed _|exact J7 _ _|simp only [V.closed,Qw,and_self,and_true,true_and]|(simp [V.closed,Qw];done)) fun C hC hm=>?_
  subst hC
  unfold KZ
  have hd:=(KP s hs).b
  rcases most with _|_
  · simp only [Bool.false_eq_true,if_false,Jy.cells,aiL]
    repeat' (first|refine Qp fun K' hK=>?_|refine Qt fun K' hK=>?_|refine Qq ?_|refine Qr ?_|refine Qa ?_|((first|refine Qs ⟨_,rfl,fun hc=>?_,fun hc=>?_⟩|refine QM (fun hc=>?_) (fun hc=>?_)|refine QN (fun hc=>?_) (fun hc=>?_))<;>first|(cases hc;done)|((try simp only [znz] at hc);first|exact znf|skip))|refine Qv ?_|refine Qu ?_|simp (maxSteps:=1000000) only [go_sem]|(refine hK _ ?_;clear hK K')|apply And.intro|(apply QX;(focus first|exact hd|exact (KP _ zsd).b))|exact zlo|omega|exact zms)
    all_goals first|(refine qo _ rfl rfl (by simp only [V.closed,Qw,and_self,and_true,true_and]) ?_;simp only [go_sem];done)|(refine qo _ rfl rfl (by simp only [V.closed,Qw,and_self,and_true,true_and]) ?_;simp only [go_sem];simp [*];done)
  · simp only [if_true,Jy.cells,aiL]
    repeat' (first|refine Qp fun K' hK=>?_|refine Qt fun K' hK=>?_|refine Qq ?_|refine Qr ?_|refine Qa ?_|((first|refine Qs ⟨_,rfl,fun hc=>?_,fun hc=>?_⟩|refine QM (fun hc=>?_) (fun hc=>?_)|refine QN (fun hc=>?_) (fun hc=>?_))<;>first|(cases hc;done)|((try simp only [znz] at hc);first|exact znf|skip))|refine Qv ?_|refine Qu ?_|simp (maxSteps:=1000000) only [go_sem]|(refine hK _ ?_;clear hK K')|apply And.intro|(apply QX;(focus first|exact hd|exact (KP _ zsd).b))|exact zlo|omega|exact zms)
    all_goals first|(refine qo _ rfl rfl (by simp only [V.closed,Qw,and_self,and_true,true_and]) ?_;simp only [go_sem];done)|(refine qo _ rfl rfl (by simp only [V.closed,Qw,and_self,and_true,true_and]) ?_;simp only [go_sem];simp [*];done)
def qI:AC:=QF [0,1,2,3] (.reg [mc 8 (V.bool false)]) (QF [1,2,3] (.reg [mv 9 0,mv 10 1,ln 11 10,bc 12 .eql 11 (V.int 1),mv 13 12,mg 14 1 13 true,xg 15 (.iaddr 1 (.t 14) (.c (V.int 0))) 13 true,xg 16 (.load false 1 (.t 15)) 13 true,mg 17 2 13 true,xg 18 (.bin .eql (.t 16) (.t 17)) 13 true,xo 19 (.pick (.t 13) (.t 18) (.c (V.bool false))),nk 20 9,xs 1 20 19]) (QF [8] (.reg [mv 21 1,ln 22 21,bc 23 .eql 22 (V.int 1),mv 24 23,mg 25 1 24 true,xg 26 (.iaddr 1 (.t 25) (.c (V.int 0))) 24 true,xg 27 (.load false 1 (.t 26)) 24 true,mg 28 2 24 true,xg 29 (.bin .eql (.t 27) (.t 28)) 24 true,mg 30 29 24 true,mg 31 1 30 false,xg 32 (.iaddr 1 (.t 31) (.c (V.int 0))) 30 false,xg 33 (.load false 1 (.t 32)) 30 false,mg 34 3 30 false,xg 35 (.bin .eql (.t 33) (.t 34)) 30 false,xg 36 (.pick (.t 30) (.c (V.bool true)) (.t 35)) 24 true,xo 37 (.pick (.t 24) (.t 36) (.c (V.bool false))),mv 8 37]) (.ret))) def r_endpoint_choice:List Y9:=[.tmp 8]
def Up (Γ:Env) (f:Nat):Prop:=∀ (s yes no:List UInt8) (d:Jy) (own:Bool),EvF Γ f (if own then 4 else 8) [.sl 1 [V.str s],V.str yes,V.str no] d.cells (V.bool (s == yes || s == no)) (if own then { d with own:=s == yes } else { d with fall:=s == yes }).cells
theorem abm {Γ:Env} {f:Nat} (h:Has Γ.P f 38 qI r_endpoint_choice) :Up Γ f:=by
  intro s yes no d own
  refine adL h (by simp) (by first|exact Jy.cells_closed _|simp only [V.closed,Qw,and_self]) (by first|exact Jy.cells_closed _|exact J7 _ _|simp only [V.closed,Qw,and_self,and_true,true_and]|(simp [V.closed,Qw];done)) (by first|exact Jy.cells_closed _|exact J7 _ _|simp only [V.closed,Qw,and_self,and_true,true_and]|(simp [V.closed,Qw];done)) fun C hC hm=>?_
  subst hC
  unfold qI
  rcases own with _|_
  · simp only [Bool.false_eq_true,if_false,Jy.cells]
    rcases hq:s == yes with _|_
    · repeat' (first|refine Qp fun K' hK=>?_|refine Qt fun K' hK=>?_|refine Qq ?_|refine Qr ?_|refine Qa ?_|((first|refine Qs ⟨_,rfl,fun hc=>?_,fun hc=>?_⟩|refine QM (fun hc=>?_) (fun hc=>?_)|refine QN (fun hc=>?_) (fun hc=>?_))<;>first|(cases hc;done)|((try simp only [znz] at hc);first|exact znf|skip))|refine Qv ?_|refine Qu ?_|simp (maxSteps:=1000000) only [go_sem,hq]|(refine hK _ ?_;clear hK K')|apply And.intro|exact zlo|omega|exact zms)
      all_goals first|(refine qo _ rfl rfl (by simp only [V.closed,Qw,and_self,and_true,true_and]) ?_;simp only [go_sem];done)|(refine qo _ rfl rfl (by simp only [V.closed,Qw,and_self,and_true,true_and]) ?_;simp only [go_sem];simp [*];done)
    · repeat' (first|refine Qp fun K' hK=>?_|refine Qt fun K' hK=>?_|refine Qq ?_|refine Qr ?_|refine Qa ?_|((first|refine Qs ⟨_,rfl,fun hc=>?_,fun hc=>?_⟩|refine QM (fun hc=>?_) (fun hc=>?_)|refine QN (fun hc=>?_) (fun hc=>?_))<;>first|(cases hc;done)|((try simp only [znz] at hc);first|exact znf|skip))|refine Qv ?_|refine Qu ?_|simp (maxSteps:=1000000) only [go_sem,hq]|(refine hK _ ?_;clear hK K')|apply And.intro|exact zlo|omega|exact zms)
      all_goals first|(refine qo _ rfl rfl (by simp only [V.closed,Qw,and_self,and_true,true_and]) ?_;simp only [go_sem];done)|(refine qo _ rfl rfl (by simp only [V.closed,Qw,and_self,and_true,true_and]) ?_;simp only [go_sem];simp [*];done)
  · simp only [if_true,Jy.cells]
    rcases hq:s == yes with _|_
    · repeat' (first|refine Qp fun K' hK=>?_|refine Qt fun K' hK=>?_|refine Qq ?_|refine Qr ?_|refine Qa ?_|((first|refine Qs ⟨_,rfl,fun hc=>?_,fun hc=>?_⟩|refine QM (fun hc=>?_) (fun hc=>?_)|refine QN (fun hc=>?_) (fun hc=>?_))<;>first|(cases hc;done)|((try simp only [znz] at hc);first|exact znf|skip))|refine Qv ?_|refine Qu ?_|simp (maxSteps:=1000000) only [go_sem,hq]|(refine hK _ ?_;clear hK K')|apply And.intro|exact zlo|omega|exact zms)
      all_goals first|(refine qo _ rfl rfl (by simp only [V.closed,Qw,and_self,and_true,true_and]) ?_;simp only [go_sem];done)|(refine qo _ rfl rfl (by simp only [V.closed,Qw,and_self,and_true,true_and]) ?_;simp only [go_sem];simp [*];done)
    · repeat' (first|refine Qp fun K' hK=>?_|refine Qt fun K' hK=>?_|refine Qq ?_|refine Qr ?_|refine Qa ?_|((first|refine Qs ⟨_,rfl,fun hc=>?_,fun hc=>?_⟩|refine QM (fun hc=>?_) (fun hc=>?_)|refine QN (fun hc=>?_) (fun hc=>?_))<;>first|(cases hc;done)|((try simp only [znz] at hc);first|exact znf|skip))|refine Qv ?_|refine Qu ?_|simp (maxSteps:=1000000) only [go_sem,hq]|(refine hK _ ?_;clear hK K')|apply And.intro|exact zlo|omega|exact zms)
      all_goals first|(refine qo _ rfl rfl (by simp only [V.closed,Qw,and_self,and_true,true_and]) ?_;simp only [go_sem];done)|(refine qo _ rfl rfl (by simp only [V.closed,Qw,and_self,and_true,true_and]) ?_;simp only [go_sem];simp [*];done)
def V9 (UB:Nat):AC:=QF [0,1] (.reg [mc 4 (V.bool false)]) (QF [0,1] (QF [0,1,10] (.reg [mv 8 1,ln 9 8,bc 10 .neq 9 (V.int 1)]) (.cond (.t 10) (QF [4] (.reg [mc 4 (V.bool false)]) (.ret)) (.skip))) (QF [0,5,7] (.reg [mv 12 1,xo 13 (.iaddr 1 (.t 12) (.c (V.int 0))),ld 14 1 13,cl 15 UB [14],mv 11 15,ex 16 11 0,ex 17 11 1,ex 18 11 2,mv 5 16,mv 6 17,mv 7 18]) (QF [7] (.reg [mv 19 0,mv 20 5,nk 21 19,fa 22 0 21,fa 23 3 22,xs 1 23 20]) (QF [4] (.reg [mv 24 7,bc 25 .eql 24 (V.int 0),mv 4 25]) (.ret))))) def r_endpoint_draft__list:List Y9:=[.tmp 4]
def Wm (Γ:Env) (f:Nat):Prop:=∀ (s:List UInt8) (d:Jy) (hs:s.length < 2 ^ 30),EvD Γ f [.sl 1 [V.str s]] d.cells (V.bool ((UL s).2.2 == 0)) ({ d with suites:=(UL s).1 }:Jy).cells
theorem wk {Γ:Env} {f UB:Nat} (h:Has Γ.P f 26 (V9 UB) r_endpoint_draft__list) (xG:qe Γ UB):Wm Γ f:=by
  intro s d hs
  refine wm h (by simp) (by first|exact Jy.cells_closed _|simp only [V.closed,Qw,and_self]) (by first|exact J7 _ _|exact Jy.cells_closed _|simp only [V.closed,Qw,and_self,and_true,true_and]) (by first|exact J7 _ _|exact Jy.cells_closed _|simp only [V.closed,Qw,and_self,and_true,true_and]) fun C hC hm=>?_
  subst hC
  unfold V9
  have hp:=(xG s hs).b
  rw [jd] at hp
  simp only [Jy.cells]
  repeat' (first|refine Qp fun K' hK=>?_|refine Qt fun K' hK=>?_|refine Qq ?_|refine Qr ?_|refine Qa ?_|((first|refine Qs ⟨_,rfl,fun hc=>?_,fun hc=>?_⟩|refine QM (fun hc=>?_) (fun hc=>?_)|refine QN (fun hc=>?_) (fun hc=>?_))<;>first|(cases hc;done)|((try simp only [znz] at hc);first|exact znf|skip))|refine Qv ?_|refine Qu ?_|simp (maxSteps:=1000000) only [go_sem]|(refine hK _ ?_;clear hK K')|apply And.intro|(apply QX;(focus first|exact hp|exact (xG _ zsd).b))|exact zlo|omega|exact zms)
  all_goals first|(refine qo _ rfl rfl (by simp only [V.closed,Qw,and_self,and_true,true_and]) ?_;simp only [go_sem];done)
def W9 (Yx:Nat):AC:=QF [0,1] (.reg [mc 3 (V.bool false)]) (QF [3] (.reg [ld 4 1 1,nk 5 4,fa 6 0 5,fa 7 1 6,mv 8 0,cl 9 Yx [7,8],mv 3 9]) (.ret)) def r_endpoint_draft__words_1:List Y9:=[.tmp 3]
def Xt (Γ:Env) (f:Nat):Prop:=∀ (s:List UInt8) (d:Jy) (hs:s.length < 2 ^ 30),EvH Γ f (.sl 1 [V.str s]) d.cells (V.bool (aiL s)) ({ d with least:=qK s }:Jy).cells
theorem yz {Γ:Env} {f Yx:Nat} (h:Has Γ.P f 10 (W9 Yx) r_endpoint_draft__words_1) (WR:VW Γ Yx):Xt Γ f:=by
  intro s d hs
  refine wl h (by simp) (by first|exact Jy.cells_closed _|simp only [V.closed,Qw,and_self]) (by first|exact Jy.cells_closed _|exact J7 _ _|simp only [V.closed,Qw,and_self,and_true,true_and]|(simp [V.closed,Qw];done)) (by first|exact Jy.cells_closed _|exact J7 _ _|simp only [V.closed,Qw,and_self,and_true,true_and]|(simp [V.closed,Qw];done)) fun C hC hm=>?_
  subst hC
  unfold W9
  have hv:=WR s d false hs
  simp only [Bool.false_eq_true,if_false,Jy.cells] at hv
  simp only [Jy.cells]
  repeat' (first|refine Qp fun K' hK=>?_|refine Qt fun K' hK=>?_|refine Qq ?_|refine Qr ?_|refine Qa ?_|((first|refine Qs ⟨_,rfl,fun hc=>?_,fun hc=>?_⟩|refine QM (fun hc=>?_) (fun hc=>?_)|refine QN (fun hc=>?_) (fun hc=>?_))<;>first|(cases hc;done)|((try simp only [znz] at hc);first|exact znf|skip))|refine Qv ?_|refine Qu ?_|simp (maxSteps:=1000000) only [go_sem]|(refine hK _ ?_;clear hK K')|apply And.intro|(apply ahQ;(focus exact rfl);(focus first|exact hv|exact (WR _ _ _ zsd));(focus exact rfl);(focus exact rfl))|exact zlo|omega|exact zms)
  all_goals first|(refine ahE _ rfl rfl rfl (by first|simp only [V.closed,Qw,and_self,and_true,true_and]|(simp [V.closed,Qw];done)) ?_;simp only [go_sem];done)
def W8 (Yx:Nat):AC:=QF [0,1] (.reg [mc 3 (V.bool false)]) (QF [3] (.reg [ld 4 1 1,nk 5 4,fa 6 0 5,fa 7 2 6,mv 8 0,cl 9 Yx [7,8],mv 3 9]) (.ret)) def r_endpoint_draft__words_2:List Y9:=[.tmp 3]
def Xs (Γ:Env) (f:Nat):Prop:=∀ (s:List UInt8) (d:Jy) (hs:s.length < 2 ^ 30),EvH Γ f (.sl 1 [V.str s]) d.cells (V.bool (aiL s)) ({ d with most:=qK s }:Jy).cells
theorem yy {Γ:Env} {f Yx:Nat} (h:Has Γ.P f 10 (W8 Yx) r_endpoint_draft__words_2) (WR:VW Γ Yx):Xs Γ f:=by
  intro s d hs
  refine wl h (by simp) (by first|exact Jy.cells_closed _|simp only [V.closed,Qw,and_self]) (by first|exact Jy.cells_closed _|exact J7 _ _|simp only [V.closed,Qw,and_self,and_true,true_and]|(simp [V.closed,Qw];done)) (by first|exact Jy.cells_closed _|exact J7 _ _|simp only [V.closed,Qw,and_self,and_true,true_and]|(simp [V.closed,Qw];done)) fun C hC hm=>?_
  subst hC
  unfold W8
  have hv:=WR s d true hs
  simp only [if_true,Jy.cells] at hv
  simp only [Jy.cells]
  repeat' (first|refine Qp fun K' hK=>?_|refine Qt fun K' hK=>?_|refine Qq ?_|refine Qr ?_|refine Qa ?_|((first|refine Qs ⟨_,rfl,fun hc=>?_,fun hc=>?_⟩|refine QM (fun hc=>?_) (fun hc=>?_)|refine QN (fun hc=>?_) (fun hc=>?_))<;>first|(cases hc;done)|((try simp only [znz] at hc);first|exact znf|skip))|refine Qv ?_|refine Qu ?_|simp (maxSteps:=1000000) only [go_sem]|(refine hK _ ?_;clear hK K')|apply And.intro|(apply ahQ;(focus exact rfl);(focus first|exact hv|exact (WR _ _ _ zsd));(focus exact rfl);(focus exact rfl))|exact zlo|omega|exact zms)
  all_goals first|(refine ahE _ rfl rfl rfl (by first|simp only [V.closed,Qw,and_self,and_true,true_and]|(simp [V.closed,Qw];done)) ?_;simp only [go_sem];done)
def W7 (YM:Nat):AC:=QF [0,1] (.reg [mc 3 (V.bool false)]) (QF [3] (.reg [ld 4 1 1,nk 5 4,fa 6 0 5,fa 7 4 6,mv 8 0,xo 9 (.call YM [(.t 7),(.t 8),(.c (V.str [111,119,110])),(.c (V.str [99,108,105,101,110,116]))]),mv 3 9]) (.ret)) def r_endpoint_draft__words_3:List Y9:=[.tmp 3]
def Xr (Γ:Env) (f:Nat):Prop:=∀ (s:List UInt8) (d:Jy),EvH Γ f (.sl 1 [V.str s]) d.cells (V.bool (s == [111,119,110] || s == [99,108,105,101,110,116])) ({ d with own:=s == [111,119,110] }:Jy).cells
theorem yx {Γ:Env} {f YM:Nat} (h:Has Γ.P f 10 (W7 YM) r_endpoint_draft__words_3) (Vr:Up Γ YM):Xr Γ f:=by
  intro s d
  refine wl h (by simp) (by first|exact Jy.cells_closed _|simp only [V.closed,Qw,and_self]) (by first|exact Jy.cells_closed _|exact J7 _ _|simp only [V.closed,Qw,and_self,and_true,true_and]|(simp [V.closed,Qw];done)) (by first|exact Jy.cells_closed _|exact J7 _ _|simp only [V.closed,Qw,and_self,and_true,true_and]|(simp [V.closed,Qw];done)) fun C hC hm=>?_
  subst hC
  unfold W7
  have hv:=Vr s [111,119,110] [99,108,105,101,110,116] d true
  simp only [if_true,Jy.cells] at hv
  simp only [Jy.cells]
  repeat' (first|refine Qp fun K' hK=>?_|refine Qt fun K' hK=>?_|refine Qq ?_|refine Qr ?_|refine Qa ?_|((first|refine Qs ⟨_,rfl,fun hc=>?_,fun hc=>?_⟩|refine QM (fun hc=>?_) (fun hc=>?_)|refine QN (fun hc=>?_) (fun hc=>?_))<;>first|(cases hc;done)|((try simp only [znz] at hc);first|exact znf|skip))|refine Qv ?_|refine Qu ?_|simp (maxSteps:=1000000) only [go_sem]|(refine hK _ ?_;clear hK K')|apply And.intro|(apply ahQ;(focus exact rfl);(focus first|exact hv|exact (Vr _ _ _ _ _));(focus exact rfl);(focus exact rfl))|exact zlo|omega|exact zms)
  all_goals first|(refine ahE _ rfl rfl rfl (by first|simp only [V.closed,Qw,and_self,and_true,true_and]|(simp [V.closed,Qw];done)) ?_;simp only [go_sem];done)
def W6 (YM:Nat):AC:=QF [0,1] (.reg [mc 3 (V.bool false)]) (QF [3] (.reg [ld 4 1 1,nk 5 4,fa 6 0 5,fa 7 8 6,mv 8 0,xo 9 (.call YM [(.t 7),(.t 8),(.c (V.str [121,101,115])),(.c (V.str [110,111]))]),mv 3 9]) (.ret)) def r_endpoint_draft__words_6:List Y9:=[.tmp 3]
def Xq (Γ:Env) (f:Nat):Prop:=∀ (s:List UInt8) (d:Jy),EvH Γ f (.sl 1 [V.str s]) d.cells (V.bool (s == [121,101,115] || s == [110,111])) ({ d with fall:=s == [121,101,115] }:Jy).cells
theorem yw {Γ:Env} {f YM:Nat} (h:Has Γ.P f 10 (W6 YM) r_endpoint_draft__words_6) (Vr:Up Γ YM):Xq Γ f:=by
  intro s d
  refine wl h (by simp) (by first|exact Jy.cells_closed _|simp only [V.closed,Qw,and_self]) (by first|exact Jy.cells_closed _|exact J7 _ _|simp only [V.closed,Qw,and_self,and_true,true_and]|(simp [V.closed,Qw];done)) (by first|exact Jy.cells_closed _|exact J7 _ _|simp only [V.closed,Qw,and_self,and_true,true_and]|(simp [V.closed,Qw];done)) fun C hC hm=>?_
  subst hC
  unfold W6
  have hv:=Vr s [121,101,115] [110,111] d false
  simp only [Bool.false_eq_true,if_false,Jy.cells] at hv
  simp only [Jy.cells]
  repeat' (first|refine Qp fun K' hK=>?_|refine Qt fun K' hK=>?_|refine Qq ?_|refine Qr ?_|refine Qa ?_|((first|refine Qs ⟨_,rfl,fun hc=>?_,fun hc=>?_⟩|refine QM (fun hc=>?_) (fun hc=>?_)|refine QN (fun hc=>?_) (fun hc=>?_))<;>first|(cases hc;done)|((try simp only [znz] at hc);first|exact znf|skip))|refine Qv ?_|refine Qu ?_|simp (maxSteps:=1000000) only [go_sem]|(refine hK _ ?_;clear hK K')|apply And.intro|(apply ahQ;(focus exact rfl);(focus first|exact hv|exact (Vr _ _ _ _ _));(focus exact rfl);(focus exact rfl))|exact zlo|omega|exact zms)
  all_goals first|(refine ahE _ rfl rfl rfl (by first|simp only [V.closed,Qw,and_self,and_true,true_and]|(simp [V.closed,Qw];done)) ?_;simp only [go_sem];done)
theorem af7 {α:Type} (p:α→Bool):∀ (xs:List α) (k:Nat),decide (aau p k xs≥0) = xs.any p
  | [],k=>by simp [aau]
  | x :: r,k=>by
    have ih:=af7 p r (k + 1)
    rw [aau,List.any_cons]
    by_cases h:p x = true
    · rw [if_pos h,h];simp
    · have h2:p x = false:=by simpa using h
      rw [if_neg h,h2,ih];rfl
structure Uq where
  sec:List UInt8
  name:List UInt8
  val:List UInt8
  line:Int
def Uq.cells (x:Uq):List V:=[V.str x.sec,V.str x.name,V.str x.val,V.int x.line]
def Uq.v (x:Uq):V:=.agg x.cells
def amB (s:List UInt8):Bool:=s == [107,101,121,115] || (s == [97,110,99,104,111,114,115] || s == [104,97,115,104,101,115])
def K0:AC:=QF [0] (.reg [mc 2 (V.bool false)]) (QF [2] (.reg [mv 3 0,bc 4 .eql 3 (V.str [107,101,121,115]),mv 5 4,mg 6 0 5 false,xg 7 (.bin .eql (.t 6) (.c (V.str [97,110,99,104,111,114,115]))) 5 false,xo 8 (.pick (.t 5) (.c (V.bool true)) (.t 7)),mv 9 8,mg 10 0 9 false,xg 11 (.bin .eql (.t 10) (.c (V.str [104,97,115,104,101,115]))) 9 false,xo 12 (.pick (.t 9) (.c (V.bool true)) (.t 11)),mv 2 12]) (.ret)) def r_endpoint_several:List Y9:=[.tmp 2]
def Kw (Γ:Env) (f:Nat):Prop:=∀ (s:List UInt8),EvN Γ f [V.str s] (V.bool (amB s))
theorem aaH {Γ:Env} {f:Nat} (h:Has Γ.P f 13 K0 r_endpoint_several) :Kw Γ f:=by
  intro s
  refine Jb h (by simp) (by simp only [V.closed,Qw,V.noSl,JL,and_self,and_true,true_and]) (by simp only [V.closed,Qw,V.noSl,JL,and_self,and_true,true_and]) fun C hC hm=>?_
  subst hC
  unfold K0
  have e:amB s = (s == [107,101,121,115] || (s == [97,110,99,104,111,114,115] || s == [104,97,115,104,101,115])):=rfl
  rw [e]
  rcases h1:s == [107,101,121,115] with _|_<;>rcases h2:s == [97,110,99,104,111,114,115] with _|_
  all_goals
    repeat' (first|refine Qp fun K' hK=>?_|refine Qt fun K' hK=>?_|refine Qq ?_|refine Qr ?_|refine Qa ?_|((first|refine Qs ⟨_,rfl,fun hc=>?_,fun hc=>?_⟩|refine QM (fun hc=>?_) (fun hc=>?_)|refine QN (fun hc=>?_) (fun hc=>?_))<;>first|(cases hc;done)|((try simp only [znz] at hc);first|exact znf|skip))|refine Qv ?_|refine Qu ?_|simp (maxSteps:=1000000) only [go_sem,h1,h2]|(refine hK _ ?_;clear hK K')|apply And.intro|exact zlo|omega|exact zms)
    all_goals first|(refine Je _ rfl ?_;simp only [go_sem];done)
def qG (Uk UR Kq:Nat):AC:=QF [1] (.reg [xo 1 (.box true 4 (.t 0)),xo 2 (.mknil 1)]) (QF [1] (QF [1,6] (.reg [fa 3 1 1,ld 4 1 3,cl 5 Uk [4],xo 6 (.un .not (.t 5))]) (.cond (.t 6) (QF [2] (.reg [fa 7 2 1,ld 8 1 7,xo 9 (.bslice 1 1 false [(.string ⟨#[]⟩)] [(0,(.t 8))]),mv 2 9]) (.ret)) (.skip))) (QF [2] (.reg [fa 10 2 1,ld 11 1 10,xo 12 (.call UR [(.t 11),(.c (.clo Kq []))]),mv 2 12]) (.ret))) def r_endpoint_values:List Y9:=[.tmp 2]
def qh (Γ:Env) (f:Nat):Prop:=∀ (x:Uq) (hn:amB x.name = false),EvW Γ f [x.v] 1 (([x.val]:List (List UInt8)).map V.str)
theorem abk {Γ:Env} {f Uk UR Kq:Nat} (h:Has Γ.P f 13 (qG Uk UR Kq) r_endpoint_values) (yL:Kw Γ Uk):qh Γ f:=by
  intro x hn
  refine j8 h (by simp) (by first|exact vn _|exact vd _) fun C hC hm=>?_
  subst hC
  unfold qG
  have hs:=(yL x.name).b
  rw [hn] at hs
  simp only [Uq.v,Uq.cells]
  repeat' (first|refine Qp fun K' hK=>?_|refine Qt fun K' hK=>?_|refine Qq ?_|refine Qr ?_|refine Qa ?_|((first|refine Qs ⟨_,rfl,fun hc=>?_,fun hc=>?_⟩|refine QM (fun hc=>?_) (fun hc=>?_)|refine QN (fun hc=>?_) (fun hc=>?_))<;>first|(cases hc;done)|((try simp only [znz] at hc);first|exact znf|skip))|refine Qv ?_|refine Qu ?_|simp (maxSteps:=1000000) only [go_sem]|(refine hK _ ?_;clear hK K')|apply And.intro|(apply QX;(focus first|exact hs|exact (yL _).b))|exact zlo|omega|exact zms)
  all_goals first|(refine adN (xs:=[V.str x.val]) _ _ rfl ?_ ?_<;>first|rfl|(simp;done))
def Va:AC:=QF [1,2] (.reg [xo 2 (.box true 4 (.t 0)),mc 3 (V.bool false)]) (QF [3] (.reg [fa 4 1 2,ld 5 1 4,fa 6 1 1,ld 7 1 6,bn 8 .eql 5 7,mv 3 8]) (.ret)) def r_endpoint_FromSettings_1:List Y9:=[.tmp 3]
def WL (Γ:Env) (f:Nat):Prop:=∀ (y x:Uq),EvN Γ f [y.v,.ro x.cells 0] (V.bool (y.name == x.name))
theorem yA {Γ:Env} {f:Nat} (h:Has Γ.P f 9 Va r_endpoint_FromSettings_1) :WL Γ f:=by
  intro y x
  refine Jb h (by simp) (by simp only [V.closed,Qw,V.noSl,JL,and_self,and_true,true_and]) (by simp only [V.closed,Qw,V.noSl,JL,and_self,and_true,true_and]) fun C hC hm=>?_
  subst hC
  unfold Va
  simp only [Uq.v,Uq.cells]
  repeat' (first|refine Qp fun K' hK=>?_|refine Qt fun K' hK=>?_|refine Qq ?_|refine Qr ?_|refine Qa ?_|((first|refine Qs ⟨_,rfl,fun hc=>?_,fun hc=>?_⟩|refine QM (fun hc=>?_) (fun hc=>?_)|refine QN (fun hc=>?_) (fun hc=>?_))<;>first|(cases hc;done)|((try simp only [znz] at hc);first|exact znf|skip))|refine Qv ?_|refine Qu ?_|simp (maxSteps:=1000000) only [go_sem]|(refine hK _ ?_;clear hK K')|apply And.intro|exact zlo|omega|exact zms)
  all_goals first|(refine Je _ rfl ?_;simp only [go_sem];done)
def Yn:AC:=QF [0,1] (.reg [mc 4 (V.int 0)]) (QF [] (QF [0,1,7,8] (.reg [mv 6 0,ln 7 6,mc 8 (V.int 0)]) (.block 0 (Wv [0,1,7,8] (QF [0,1,7,8,9] (.reg [bn 9 .lss 8 7]) (QF [0,1,7,8] (.cond (.t 9) (.skip) (.exit 0)) (QF [0,1,7,8] (.block 1 (QF [0,1,5,7,8] (.reg [mv 10 8,mv 5 10]) (QF [0,1,5,7,8,16] (.reg [mv 11 1,mv 12 0,mv 13 5,ia 14 4 12 13,xo 15 (.load true 4 (.t 14)),xo 16 (.callv (.t 11) [(.t 15)])]) (.cond (.t 16) (QF [4] (.reg [mv 17 5,mv 4 17]) (.ret)) (.skip))))) (.reg [bc 18 .add 8 (V.int 1),mv 8 18]))))))) (QF [4] (.reg [mc 4 (V.int (-1))]) (.ret))) def r_slices_IndexFunc___api_Setting_api_Setting:List Y9:=[.tmp 4]
def Yk (Γ:Env) (f:Nat):Prop:=∀ (xs:List Uq) (g:Nat) (cap:List V) (p:Uq→Bool) (hp:∀ x∈xs,EvN Γ g (Uq.v x :: cap) (V.bool (p x))) (hcap:Qw cap) (hl:xs.length < 2 ^ 62),EvN Γ f [.sl 4 (xs.map Uq.v),.clo g cap] (V.int (aau p 0 xs))
theorem Vt {Γ:Env} {f:Nat} (h:Has Γ.P f 19 Yn r_slices_IndexFunc___api_Setting_api_Setting) :Yk Γ f:=by
  intro xs g cap p hp hcap hl
  refine Jb h (by simp) (by simp only [V.closed,Qw,V.noSl,JL,and_self,and_true,true_and]) (by simp only [V.closed,Qw,V.noSl,JL,and_self,and_true,true_and]) fun C hC hm=>?_
  subst hC
  unfold Yn
  have s1:∀ o,X9 o cap = cap:=fun o=>WX o cap hcap
  have s2:∀ o B,JN o B cap = True:=fun o B=>eq_true (XG o B cap hcap)
  repeat' (first|refine Qp fun K' hK=>?_|refine Qt fun K' hK=>?_|refine Qq ?_|refine Qr ?_|refine Qa ?_|((first|refine Qs ⟨_,rfl,fun hc=>?_,fun hc=>?_⟩|refine QM (fun hc=>?_) (fun hc=>?_)|refine QN (fun hc=>?_) (fun hc=>?_))<;>first|(cases hc;done)|((try simp only [znz] at hc);first|exact znf|skip))|refine Qv ?_|refine Qu ?_|simp (maxSteps:=1000000) only [go_sem]|(refine hK _ ?_;clear hK K')|apply And.intro|exact zlo|omega|exact zms)
  refine Wz (ι:=Nat) (fun k=>k≤xs.length∧aau p k (xs.drop k) = aau p 0 xs) (fun k=>[(8,V.int k)]) (fun k=>xs.length - k) 0 (by omega) ⟨by simp,by simp⟩ (by repeat' first|exact VK|refine Kn (by omega) (by simp only [Ob.lt,ltL,V.lt,and_self,and_true];try omega) ?_) (fun i hi=>by simp only [ovT,YO,Nat.reduceEqDiff,reduceIte];(repeat' first|exact Km|refine VJ ?_ ?_|simp only [V.lt,ltL,and_self,and_true]|omega);exact qA _ _ hcap) (by simp only [Nat.reduceAdd,ovT,YO,Nat.reduceEqDiff,reduceIte,J9,Yz,w7,u32,u33,u34,u35,u36,u37,u38,u39,and_self,and_true,true_and];first|rfl|exact Ql _ _ hcap) fun k hk K' hL=>?_
  obtain ⟨hk,hinv⟩:=hk
  simp only [ovT,YO,Nat.reduceEqDiff,reduceIte]
  rcases hd:xs.drop k with _|⟨y,r⟩
  · have:=YX hd
    rw [hd] at hinv
    have e1:decide ((k:Int) < (((xs.map Uq.v).length:Nat):Int)) = false:=by simp;omega
    repeat' (first|refine Qp fun K' hK=>?_|refine Qt fun K' hK=>?_|refine Qq ?_|refine Qr ?_|refine Qa ?_|((first|refine Qs ⟨_,rfl,fun hc=>?_,fun hc=>?_⟩|refine QM (fun hc=>?_) (fun hc=>?_)|refine QN (fun hc=>?_) (fun hc=>?_))<;>first|(cases hc;done)|((try simp only [znz] at hc);first|exact znf|skip))|refine Qv ?_|refine Qu ?_|simp (maxSteps:=1000000) only [go_sem,e1]|(refine hK _ ?_;clear hK K')|apply And.intro|exact zlo|omega|exact zms)
    refine Je _ rfl ?_
    simp only [go_sem]
    rw [← hinv];rfl
  · obtain ⟨hk,hget,hr⟩:=Yp hd
    rw [hd] at hinv
    have hw:=JO (k:=k) (by omega)
    have e1:decide ((k:Int) < (((xs.map Uq.v).length:Nat):Int)) = true:=by simp;omega
    have hpy:=hp y (List.mem_of_getElem? hget)
    by_cases hy:p y = true
    · rw [hy] at hpy
      repeat' (first|refine Qp fun K' hK=>?_|refine Qt fun K' hK=>?_|refine Qq ?_|refine Qr ?_|refine Qa ?_|((first|refine Qs ⟨_,rfl,fun hc=>?_,fun hc=>?_⟩|refine QM (fun hc=>?_) (fun hc=>?_)|refine QN (fun hc=>?_) (fun hc=>?_))<;>first|(cases hc;done)|((try simp only [znz] at hc);first|exact znf|skip))|refine Qv ?_|refine Qu ?_|simp (maxSteps:=1000000) only [go_sem,Int.toNat_natCast,List.getElem?_map,hget,hw,e1,Uq.v,Uq.cells,s1,s2]|(refine hK _ ?_;clear hK K')|apply And.intro|(apply QX;(focus first|exact hpy.b))|exact zlo|omega|exact zms)
      refine Je _ rfl ?_;simp only [go_sem]
      rw [← hinv];simp [aau,hy]
    · have hy':p y = false:=by simpa using hy
      rw [hy'] at hpy
      repeat' (first|refine Qp fun K' hK=>?_|refine Qt fun K' hK=>?_|refine Qq ?_|refine Qr ?_|refine Qa ?_|((first|refine Qs ⟨_,rfl,fun hc=>?_,fun hc=>?_⟩|refine QM (fun hc=>?_) (fun hc=>?_)|refine QN (fun hc=>?_) (fun hc=>?_))<;>first|(cases hc;done)|((try simp only [znz] at hc);first|exact znf|skip))|refine Qv ?_|refine Qu ?_|simp (maxSteps:=1000000) only [go_sem,Int.toNat_natCast,List.getElem?_map,hget,hw,e1,Uq.v,Uq.cells,s1,s2]|(refine hK _ ?_;clear hK K')|apply And.intro|(apply QX;(focus first|exact hpy.b))|exact zlo|omega|exact zms)
      refine hL _ (k + 1) (by simp only [Nat.reduceAdd,ovT,YO,Nat.reduceEqDiff,reduceIte,J9,Yz,w7,u32,u33,u34,u35,u36,u37,u38,u39,and_self,and_true,true_and]) ⟨by omega,?_⟩ (by omega) (fun a ha=>by simp only [u32,u33,u34,u35,u36,u37,u38,u39];repeat rw [if_neg (by omega)])
      rw [hr,← hinv,aau,if_neg hy]
def Yg (JV:Nat):AC:=QF [0,1] (.reg [mc 4 (V.bool false)]) (QF [4] (.reg [mv 5 0,mv 6 1,cl 7 JV [5,6],bc 8 .geq 7 (V.int 0),mv 4 8]) (.ret)) def r_slices_ContainsFunc___api_Setting_api_Setting:List Y9:=[.tmp 4]
def Ye (Γ:Env) (f:Nat):Prop:=∀ (xs:List Uq) (g:Nat) (cap:List V) (p:Uq→Bool) (hp:∀ x∈xs,EvN Γ g (Uq.v x :: cap) (V.bool (p x))) (hcap:Qw cap) (hl:xs.length < 2 ^ 62),EvN Γ f [.sl 4 (xs.map Uq.v),.clo g cap] (V.bool (xs.any p))
theorem WW {Γ:Env} {f JV:Nat} (h:Has Γ.P f 9 (Yg JV) r_slices_ContainsFunc___api_Setting_api_Setting) (Y8:Yk Γ JV):Ye Γ f:=by
  intro xs g cap p hp hcap hl
  refine Jb h (by simp) (by simp only [V.closed,Qw,V.noSl,JL,and_self,and_true,true_and]) (by simp only [V.closed,Qw,V.noSl,JL,and_self,and_true,true_and]) fun C hC hm=>?_
  subst hC
  unfold Yg
  have s1:∀ o,X9 o cap = cap:=fun o=>WX o cap hcap
  have s2:∀ o B,JN o B cap = True:=fun o B=>eq_true (XG o B cap hcap)
  have hi:=(Y8 xs g cap p hp hcap hl).b
  have e1:=af7 p xs 0
  repeat' (first|refine Qp fun K' hK=>?_|refine Qt fun K' hK=>?_|refine Qq ?_|refine Qr ?_|refine Qa ?_|((first|refine Qs ⟨_,rfl,fun hc=>?_,fun hc=>?_⟩|refine QM (fun hc=>?_) (fun hc=>?_)|refine QN (fun hc=>?_) (fun hc=>?_))<;>first|(cases hc;done)|((try simp only [znz] at hc);first|exact znf|skip))|refine Qv ?_|refine Qu ?_|simp (maxSteps:=1000000) only [go_sem,s1,s2,e1]|(refine hK _ ?_;clear hK K')|apply And.intro|(apply QX;(focus first|exact hi|exact (Y8 _ _ _ _ zsd zsd zsd).b))|exact zlo|omega|exact zms)
  all_goals first|(refine Je _ rfl ?_;simp only [go_sem];done)
end Av
end
section
set_option linter.unusedSimpArgs false
set_option linter.unusedVariables false
set_option maxRecDepth 10000
set_option maxHeartbeats 4000000
namespace Av
open Go
attribute [local irreducible] AWp V7 Kz KE awS awC jS awQ jY JB Wl jJ awR Ws awB okR Vo ris
abbrev nS:V:=.sc (.slice none 0 0)
def KJ (Yj JH:Nat):List AO:=[fa 12 0 4,ld 13 1 12,cl 14 Yj [13],xo 15 (.un .not (.t 14)),mv 16 15,mg 17 3 16 false,xg 18 (.bin .gtr (.t 17) (.c (V.int 0))) 16 false,mg 19 18 16 false,mg 20 0 19 true,mg 21 3 19 true,xg 22 (.bin .sub (.t 21) (.c (V.int 1))) 19 true,xg 23 (.iaddr 6 (.t 20) (.t 22)) 19 true,xg 24 (.faddr 0 (.t 23)) 19 true,xg 25 (.load false 1 (.t 24)) 19 true,xg 26 (.faddr 0 (.t 4)) 19 true,xg 27 (.load false 1 (.t 26)) 19 true,xg 28 (.bin .geq (.t 25) (.t 27)) 19 true,xg 29 (.pick (.t 19) (.t 28) (.c (V.bool false))) 16 false,xo 30 (.pick (.t 16) (.c (V.bool true)) (.t 29)),mv 31 30,xg 32 (.faddr 1 (.t 4)) 31 false,xg 33 (.load true 2 (.t 32)) 31 false,xg 34 (.faddr 3 (.t 4)) 31 false,xg 35 (.load false 1 (.t 34)) 31 false,xg 36 (.faddr 5 (.t 4)) 31 false,xg 37 (.load false 1 (.t 36)) 31 false,xg 38 (.call JH [(.t 33),(.t 35),(.t 37)]) 31 false,xg 39 (.un .not (.t 38)) 31 false,xo 40 (.pick (.t 31) (.c (V.bool true)) (.t 39))]
def K6:List (List Nat):=[[],[0],[1],[2],[3,2],[4],[5,4],[6,4,4],[7],[7],[9,7],[8,10,7],[11,7],[12,7],[7],[14,7],[13,15,7],[7,16,4],[4,17],[18,7],[19],[20,19],[19],[22,19],[19],[24,19],[21,23,25,19,19],[26,19],[19,27]]
def KF:OT:=.one 0 (.one 1 (.or 2 (.one 3 (.one 4 (.one 5 (.one 6 (.one 7 (.one 8 (.one 9 (.one 10 (.one 11 (.one 12 (.one 13 (.one 14 (.one 15 (.one 16 (.one 17 (.one 18 (.one 19 (.one 20 (.one 21 (.one 22 (.one 23 (.one 24 (.one 25 (.or 26 (.one 27 (.one 28 (.done))) (.done))))))))))))))))))))))))) (.done)))
def Ue (Yj JH:Nat):OP:=.one 0 false [] (fa 12 0 4) (.one 1 false [] (ld 13 1 12) (.or 2 false [] (cl 14 Yj [13]) (.one 3 false [2] (xo 15 (.un .not (.t 14))) (.one 4 false [2] (mv 16 15) (.one 5 false [2] (mg 17 3 16 false) (.one 6 false [2] (xg 18 (.bin .gtr (.t 17) (.c (V.int 0))) 16 false) (.one 7 false [2] (mg 19 18 16 false) (.one 8 false [2] (mg 20 0 19 true) (.one 9 false [2] (mg 21 3 19 true) (.one 10 false [2] (xg 22 (.bin .sub (.t 21) (.c (V.int 1))) 19 true) (.one 11 false [2] (xg 23 (.iaddr 6 (.t 20) (.t 22)) 19 true) (.one 12 false [2] (xg 24 (.faddr 0 (.t 23)) 19 true) (.one 13 false [2] (xg 25 (.load false 1 (.t 24)) 19 true) (.one 14 false [2] (xg 26 (.faddr 0 (.t 4)) 19 true) (.one 15 false [2] (xg 27 (.load false 1 (.t 26)) 19 true) (.one 16 false [2] (xg 28 (.bin .geq (.t 25) (.t 27)) 19 true) (.one 17 false [2] (xg 29 (.pick (.t 19) (.t 28) (.c (V.bool false))) 16 false) (.one 18 false [2] (xo 30 (.pick (.t 16) (.c (V.bool true)) (.t 29))) (.one 19 false [2] (mv 31 30) (.one 20 false [2] (xg 32 (.faddr 1 (.t 4)) 31 false) (.one 21 false [2] (xg 33 (.load true 2 (.t 32)) 31 false) (.one 22 false [2] (xg 34 (.faddr 3 (.t 4)) 31 false) (.one 23 false [2] (xg 35 (.load false 1 (.t 34)) 31 false) (.one 24 false [2] (xg 36 (.faddr 5 (.t 4)) 31 false) (.one 25 false [2] (xg 37 (.load false 1 (.t 36)) 31 false) (.or 26 false [2] (xg 38 (.call JH [(.t 33),(.t 35),(.t 37)]) 31 false) (.one 27 false [26,2] (xg 39 (.un .not (.t 38)) 31 false) (.one 28 false [26,2] (xo 40 (.pick (.t 31) (.c (V.bool true)) (.t 39))) (.done))) (.done))))))))))))))))))))))))) (.done)))
theorem Ug (Yj JH:Nat):okR (KJ Yj JH) K6 [] KF = true:=by kernel_rfl
theorem Ub (Yj JH:Nat):Vo (ris (KJ Yj JH) K6 []) KF = Ue Yj JH:=by kernel_rfl def c_keystore_Check (Yj JH:Nat):AC:=QF [0] (.reg [mc 2 (V.int 0)]) (QF [0] (QF [0,5,6,7] (.reg [mv 5 0,ln 6 5,mc 7 (V.int 0)]) (.block 0 (Wv [0,5,6,7] (QF [0,5,6,7,8] (.reg [bn 8 .lss 7 6]) (QF [0,5,6,7] (.cond (.t 8) (.skip) (.exit 0)) (QF [0,5,6,7] (.block 1 (QF [0,3,4,5,6,7] (.reg [mv 9 7,ia 10 6 5 7,xo 11 (.load true 6 (.t 10)),xo 4 (.alloc [.val (.string ⟨#[]⟩),.val (.int .i64 0),.val (.int .i64 0),.val (.int .i64 0),.val (.bool false),.nil 15]),mv 3 9,xs 6 4 11]) (QF [0,5,6,7,40] (aaY [] KF (Ue Yj JH) (KJ Yj JH) K6) (.cond (.t 40) (QF [2] (.reg [mc 2 (V.int 16)]) (.ret)) (.skip))))) (.reg [bc 41 .add 7 (V.int 1),mv 7 41]))))))) (QF [] (QF [44] (.reg [mv 42 0,ln 43 42,bc 44 .gtr 43 (V.int 64)]) (.cond (.t 44) (QF [2] (.reg [mc 2 (V.int 16)]) (.ret)) (.skip))) (QF [2] (.reg [mc 2 (V.int 0)]) (.ret)))) def r_keystore_Check:List Y9:=[.tmp 2]
def qS (Γ:Env) (f:Nat):Prop:=EvN Γ f [.sc (.slice none 0 0)] (V.int 0)
theorem ab2 {Γ:Env} {f Yj JH:Nat} (h:Has Γ.P f 45 (c_keystore_Check Yj JH) r_keystore_Check) :qS Γ f:=by
  refine Jb h (by simp) (by simp only [V.closed,Qw,V.noSl,JL,and_self,and_true,true_and]) (by simp only [V.closed,Qw,V.noSl,JL,and_self,and_true,true_and]) fun C hC hm=>?_
  subst hC
  unfold c_keystore_Check
  repeat' (first|refine Qp fun K' hK=>?_|refine Qt fun K' hK=>?_|refine Qm 29 (fun _=>true) rfl (Ug _ _) (Ub _ _) fun K' hK=>?_|refine Qn 29 (fun _=>true) rfl (Ug _ _) (Ub _ _) fun K' hK=>?_|refine Qq ?_|refine Qr ?_|refine Qa ?_|((first|refine Qs ⟨_,rfl,fun hc=>?_,fun hc=>?_⟩|refine QM (fun hc=>?_) (fun hc=>?_)|refine QN (fun hc=>?_) (fun hc=>?_))<;>first|(cases hc;done)|((try simp only [znz] at hc);first|exact znf|skip))|refine Qv ?_|refine Qu ?_|simp (maxSteps:=1000000) only [go_sem,Ue]|(refine hK _ ?_;clear hK K')|apply And.intro|exact zlo|omega|exact zms)
  refine JF (ι:=Unit) (fun _=>True) (fun _=>Ym [(0,nS),(5,nS),(6,V.int 0),(7,V.int 0)] [] 0) (fun _=>0) () trivial (Jp []) (Jq [] (by simp only [go_sem,and_true,true_and,implies_true,Option.some.injEq,exists_eq_left',Ql,Qo];(repeat' (first|rfl|apply And.intro|omega|exact fun h=>h|exact Exists.intro _ rfl))) (by simp only [go_sem,and_true,true_and,implies_true,Option.some.injEq,exists_eq_left',Ql,Qo];(repeat' (first|rfl|apply And.intro|omega|exact fun h=>h|exact Exists.intro _ rfl))) (by simp) (by simp) (by omega)) fun k hk K' hL=>?_
  repeat' (first|refine Qp fun K' hK=>?_|refine Qt fun K' hK=>?_|refine Qm 29 (fun _=>true) rfl (Ug _ _) (Ub _ _) fun K' hK=>?_|refine Qn 29 (fun _=>true) rfl (Ug _ _) (Ub _ _) fun K' hK=>?_|refine Qq ?_|refine Qr ?_|refine Qa ?_|((first|refine Qs ⟨_,rfl,fun hc=>?_,fun hc=>?_⟩|refine QM (fun hc=>?_) (fun hc=>?_)|refine QN (fun hc=>?_) (fun hc=>?_))<;>first|(cases hc;done)|((try simp only [znz] at hc);first|exact znf|skip))|refine Qv ?_|refine Qu ?_|simp (maxSteps:=1000000) only [go_sem,Ym,Ue]|(refine hK _ ?_;clear hK K')|apply And.intro|exact zlo|omega|exact zms)
  all_goals first|(refine Je _ rfl ?_;simp only [go_sem];done)
def jw (Xe Ka:Nat):AC:=QF [0,1] (.reg [mc 4 (V.int 0)]) (QF [] (.block 0 (QF [1,5] (.reg [mv 6 0,cl 7 Xe [6],xo 8 (.un .not (.t 7)),mv 5 8]) (.cond (.t 5) (QF [4] (.reg [mc 4 (V.int 14)]) (.ret)) (QF [9] (.reg [mv 10 1,cl 11 Ka [10],bc 12 .neq 11 (V.int 0),mv 9 12]) (.cond (.t 9) (QF [4] (.reg [mc 4 (V.int 16)]) (.ret)) (.skip)))))) (QF [4] (.reg [mc 4 (V.int 0)]) (.ret))) def r_endpoint_early:List Y9:=[.tmp 4]
def qT (Γ:Env) (f:Nat):Prop:=∀ (name:List UInt8) (hs:name.length < 2 ^ 30) (hn:afH name = true),EvN Γ f [V.str name,.sc (.slice none 0 0)] (V.int 0)
theorem ab3 {Γ:Env} {f Xe Ka:Nat} (h:Has Γ.P f 13 (jw Xe Ka) r_endpoint_early) (Vp:Kf Γ Xe) (acF:qS Γ Ka):qT Γ f:=by
  intro name hs hn
  refine Jb h (by simp) (by simp only [V.closed,Qw,V.noSl,JL,and_self,and_true,true_and]) (by simp only [V.closed,Qw,V.noSl,JL,and_self,and_true,true_and]) fun C hC hm=>?_
  subst hC
  unfold jw
  have hw:=(Vp name hs).b
  rw [hn] at hw
  repeat' (first|refine Qp fun K' hK=>?_|refine Qt fun K' hK=>?_|refine Qq ?_|refine Qr ?_|refine Qa ?_|((first|refine Qs ⟨_,rfl,fun hc=>?_,fun hc=>?_⟩|refine QM (fun hc=>?_) (fun hc=>?_)|refine QN (fun hc=>?_) (fun hc=>?_))<;>first|(cases hc;done)|((try simp only [znz] at hc);first|exact znf|skip))|refine Qv ?_|refine Qu ?_|simp (maxSteps:=1000000) only [go_sem]|(refine hK _ ?_;clear hK K')|apply And.intro|(apply QX;(focus first|exact hw|exact (Vp _ zsd).b|exact EvN.b acF))|exact zlo|omega|exact zms)
  all_goals first|(refine Je _ rfl ?_;simp only [go_sem];done)
def agv:List Int:=(aaS [97,108,108]).1
def jx (Xc:Nat):AC:=QF [0,1] (.reg [mc 4 (.sc (.pointer none))]) (QF [0,1,5] (.reg [xo 8 (.call Xc [(.c (V.str [97,108,108]))]),mv 7 8,ex 9 7 0,ex 10 7 1,mv 5 9,mv 6 10]) (QF [4] (.reg [mv 11 0,mv 12 5,xo 13 (.build [(.string ⟨#[]⟩),(.int .i64 0),(.int .i64 0),(.slice none 0 0),(.bool false),(.slice none 0 0),(.slice none 0 0),(.slice none 0 0),(.bool false)] [(0,1,(.t 11)),(1,1,(.c (V.int 1))),(2,1,(.c (V.int 4))),(3,1,(.t 12))]),mv 14 1,xo 15 (.build [(.string ⟨#[]⟩),(.int .i64 0),(.int .i64 0),(.slice none 0 0),(.bool false),(.slice none 0 0),(.slice none 0 0),(.slice none 0 0),(.bool false),(.slice none 0 0)] [(0,9,(.t 13)),(9,1,(.t 14))]),xo 16 (.box true 10 (.t 15)),mv 4 16]) (.ret))) def r_endpoint_begin:List Y9:=[.tmp 4]
def qU (Γ:Env) (f:Nat):Prop:=∀ (name:List UInt8),EvR Γ f [V.str name,.sc (.slice none 0 0)] ((Jy.mk name 1 4 agv false false).cells)
theorem ab4 {Γ:Env} {f Xc:Nat} (h:Has Γ.P f 17 (jx Xc) r_endpoint_begin) (JA:Ke Γ Xc):qU Γ f:=by
  intro name
  refine adK h (by simp) (Jy.cells_closed _) fun C hC hm=>?_
  subst hC
  unfold jx
  have hs:=(JA [97,108,108] (by decide)).b
  have e:(aaS [97,108,108]).1 = agv:=rfl
  rw [e] at hs
  simp only [Jy.cells]
  repeat' (first|refine Qp fun K' hK=>?_|refine Qt fun K' hK=>?_|refine Qq ?_|refine Qr ?_|refine Qa ?_|((first|refine Qs ⟨_,rfl,fun hc=>?_,fun hc=>?_⟩|refine QM (fun hc=>?_) (fun hc=>?_)|refine QN (fun hc=>?_) (fun hc=>?_))<;>first|(cases hc;done)|((try simp only [znz] at hc);first|exact znf|skip))|refine Qv ?_|refine Qu ?_|simp (maxSteps:=1000000) only [go_sem]|(refine hK _ ?_;clear hK K')|apply And.intro|(apply QX;(focus first|exact hs|exact (JA _ zsd).b))|exact zlo|omega|exact zms)
  all_goals first|(refine ak4 _ rfl rfl (by simp only [V.closed,Qw,and_self]))
def aah:List V:=[V.str [108,101,97,115,116],V.str [109,111,115,116],V.str [115,117,105,116,101,115],V.str [111,114,100,101,114],V.str [107,101,121,115],V.str [97,110,99,104,111,114,115],V.str [104,97,115,104,101,115],V.str [102,97,108,108,98,97,99,107]]
theorem kS1:Ut false [1] (V.str [109,111,115,116]) [V.str [108,101,97,115,116]] 0 = some none:=by decide
theorem kS2:Ut false [1] (V.str [115,117,105,116,101,115]) [V.str [108,101,97,115,116],V.str [109,111,115,116]] 0 = some none:=by decide
theorem kS3:Ut false [1] (V.str [111,114,100,101,114]) [V.str [108,101,97,115,116],V.str [109,111,115,116],V.str [115,117,105,116,101,115]] 0 = some none:=by decide
theorem kS4:Ut false [1] (V.str [107,101,121,115]) [V.str [108,101,97,115,116],V.str [109,111,115,116],V.str [115,117,105,116,101,115],V.str [111,114,100,101,114]] 0 = some none:=by decide
theorem kS5:Ut false [1] (V.str [97,110,99,104,111,114,115]) [V.str [108,101,97,115,116],V.str [109,111,115,116],V.str [115,117,105,116,101,115],V.str [111,114,100,101,114],V.str [107,101,121,115]] 0 = some none:=by decide
theorem kS6:Ut false [1] (V.str [104,97,115,104,101,115]) [V.str [108,101,97,115,116],V.str [109,111,115,116],V.str [115,117,105,116,101,115],V.str [111,114,100,101,114],V.str [107,101,121,115],V.str [97,110,99,104,111,114,115]] 0 = some none:=by decide
theorem kS7:Ut false [1] (V.str [102,97,108,108,98,97,99,107]) [V.str [108,101,97,115,116],V.str [109,111,115,116],V.str [115,117,105,116,101,115],V.str [111,114,100,101,114],V.str [107,101,121,115],V.str [97,110,99,104,111,114,115],V.str [104,97,115,104,101,115]] 0 = some none:=by decide
theorem kG0:Ut false [1] (V.str [108,101,97,115,116]) aah 0 = some (some 0):=by decide
theorem kG1:Ut false [1] (V.str [109,111,115,116]) aah 0 = some (some 1):=by decide
theorem kG2:Ut false [1] (V.str [115,117,105,116,101,115]) aah 0 = some (some 2):=by decide
theorem kG3:Ut false [1] (V.str [111,114,100,101,114]) aah 0 = some (some 3):=by decide
theorem kG7:Ut false [1] (V.str [102,97,108,108,98,97,99,107]) aah 0 = some (some 7):=by decide
def VT (YT YS Xv YR WC XE XD YQ:Nat):AC:=QF [1] (.reg [xo 1 (.box false 1 (.t 0)),mc 2 (.sc (.map none))]) (QF [2] (.reg [xo 3 (.mkmap),xo 4 (.mkfn YT [(.t 1)]),⟨none,.mapset false [1] (.t 3) (.c (V.str [108,101,97,115,116])) (.t 4),none⟩,xo 5 (.mkfn YS [(.t 1)]),⟨none,.mapset false [1] (.t 3) (.c (V.str [109,111,115,116])) (.t 5),none⟩,ld 6 1 1,xo 7 (.mkfn (.m Xv) [(.t 6)]),⟨none,.mapset false [1] (.t 3) (.c (V.str [115,117,105,116,101,115])) (.t 7),none⟩,xo 8 (.mkfn YR [(.t 1)]),⟨none,.mapset false [1] (.t 3) (.c (V.str [111,114,100,101,114])) (.t 8),none⟩,ld 9 1 1,xo 10 (.mkfn (.m WC) [(.t 9)]),⟨none,.mapset false [1] (.t 3) (.c (V.str [107,101,121,115])) (.t 10),none⟩,xo 11 (.mkfn XE [(.t 1)]),⟨none,.mapset false [1] (.t 3) (.c (V.str [97,110,99,104,111,114,115])) (.t 11),none⟩,xo 12 (.mkfn XD [(.t 1)]),⟨none,.mapset false [1] (.t 3) (.c (V.str [104,97,115,104,101,115])) (.t 12),none⟩,xo 13 (.mkfn YQ [(.t 1)]),⟨none,.mapset false [1] (.t 3) (.c (V.str [102,97,108,108,98,97,99,107])) (.t 13),none⟩,mv 14 3,mv 2 14]) (.ret)) def r_endpoint_draft__words:List Y9:=[.tmp 2]
def Vy (Γ:Env) (f:Nat):Prop:=(∃ g1 g2 g3 g4 g5 g6 g7 g8:Nat,Xt Γ g1∧Xs Γ g2∧Wm Γ g3∧Xr Γ g4∧Xq Γ g8∧∀ cs:List V,Qw cs→EvJ Γ f cs aah [.clo (.n g1) [.ptr 2 0],.clo (.n g2) [.ptr 2 0],.clo (.m g3) [.ptr 0 0],.clo (.n g4) [.ptr 2 0],.clo (.m g5) [.ptr 0 0],.clo (.n g6) [.ptr 2 0],.clo (.n g7) [.ptr 2 0],.clo (.n g8) [.ptr 2 0]] 0)
theorem xL {Γ:Env} {f YT YS Xv YR WC XE XD YQ:Nat} (h:Has Γ.P f 15 (VT YT YS Xv YR WC XE XD YQ) r_endpoint_draft__words) (U3:Xt Γ YT) (U0:Xs Γ YS) (qn:Wm Γ Xv) (UZ:Xr Γ YR) (UY:Xq Γ YQ):Vy Γ f:=by
  refine ⟨YT,YS,Xv,YR,WC,XE,XD,YQ,U3,U0,qn,UZ,UY,fun cs hcs=>?_⟩
  refine ag5 h (by simp) hcs fun C hC hm=>?_
  subst hC
  unfold VT
  repeat' (first|refine Qp fun K' hK=>?_|refine Qt fun K' hK=>?_|refine Qq ?_|refine Qr ?_|refine Qa ?_|((first|refine Qs ⟨_,rfl,fun hc=>?_,fun hc=>?_⟩|refine QM (fun hc=>?_) (fun hc=>?_)|refine QN (fun hc=>?_) (fun hc=>?_))<;>first|(cases hc;done)|((try simp only [znz] at hc);first|exact znf|skip))|refine Qv ?_|refine Qu ?_|simp (maxSteps:=1000000) only [go_sem,kS1,kS2,kS3,kS4,kS5,kS6,kS7]|(refine hK _ ?_;clear hK K')|apply And.intro|(apply ak5;(focus exact rfl);(focus exact rfl);(focus first|exact (U3 _ _ zsd)|exact (U0 _ _ zsd)|exact (UZ _ _)|exact (UY _ _));(focus exact rfl);(focus exact rfl))|(apply jk;(focus exact rfl);(focus first|exact (qn _ _ zsd));(focus exact rfl);(focus exact rfl))|exact zlo|omega|exact zms)
  all_goals first|(refine amb 2001 1 rfl rfl rfl rfl hcs ?_ rfl;simp [YA,conv])
def Jy.ep (d:Jy):V:=.agg [V.str d.name,V.int d.least,V.int d.most,.sl 1 (d.suites.map V.int),V.bool d.own,.sc (.slice none 0 0),.sc (.slice none 0 0),.sc (.slice none 0 0),V.bool d.fall]
def aiN (d:Jy):V:=if d.least≤d.most then .tup [d.ep,V.int 0,V.int 0] else .tup [.agg [V.str [],V.int 0,V.int 0,.sc (.slice none 0 0),V.bool false,.sc (.slice none 0 0),.sc (.slice none 0 0),.sc (.slice none 0 0),V.bool false],V.int 0,V.int 19]
theorem adD (d:Jy):(aiN d).closed:=by
  unfold aiN;split<;>simp only [Jy.ep,V.closed,Qw,and_self]
def WG:List AO:=[mv 5 0,nk 6 5,fa 7 0 6,fa 8 1 7,ld 9 1 8,mv 10 0,nk 11 10,fa 12 0 11,fa 13 2 12,ld 14 1 13,bn 15 .gtr 9 14]
def WK:List (List Nat):=[[],[0],[1],[2],[3],[],[5],[6],[7],[8],[4,9]]
def WD:OT:=.one 0 (.one 1 (.one 2 (.one 3 (.one 4 (.one 5 (.one 6 (.one 7 (.one 8 (.one 9 (.one 10 (.done)))))))))))
def Xm:OP:=.one 0 false [] (mv 5 0) (.one 1 false [] (nk 6 5) (.one 2 false [] (fa 7 0 6) (.one 3 false [] (fa 8 1 7) (.one 4 false [] (ld 9 1 8) (.one 5 false [] (mv 10 0) (.one 6 false [] (nk 11 10) (.one 7 false [] (fa 12 0 11) (.one 8 false [] (fa 13 2 12) (.one 9 false [] (ld 14 1 13) (.one 10 false [] (bn 15 .gtr 9 14) (.done)))))))))))
theorem Xn:okR (WG) WK [] WD = true:=by kernel_rfl
theorem Xl:Vo (ris (WG) WK []) WD = Xm:=by kernel_rfl def c_endpoint_draft__finish:AC:=QF [0,2] (.reg [xo 2 (.alloc [.val (.string ⟨#[]⟩),.val (.int .i64 0),.val (.int .i64 0),.nil 1,.val (.bool false),.nil 4,.nil 1,.nil 1,.val (.bool false)]),mc 3 (V.int 0),mc 4 (V.int 0)]) (QF [0,2] (QF [0,2,15] (aaY [] WD (Xm) (WG) WK) (.cond (.t 15) (QF [2,3,4] (.reg [xo 16 (.build [(.string ⟨#[]⟩),(.int .i64 0),(.int .i64 0),(.slice none 0 0),(.bool false),(.slice none 0 0),(.slice none 0 0),(.slice none 0 0),(.bool false)] []),xs 9 2 16,mc 3 (V.int 0),mc 4 (V.int 19)]) (.ret)) (.skip))) (QF [2,3,4] (.reg [mv 17 0,nk 18 17,fa 19 0 18,xo 20 (.load true 9 (.t 19)),xs 9 2 20,mc 3 (V.int 0),mc 4 (V.int 0)]) (.ret))) def r_endpoint_draft__finish:List Y9:=[.cell 2 true 9,.tmp 3,.tmp 4]
def Vg (Γ:Env) (f:Nat):Prop:=∀ (d:Jy),EvD Γ f [] d.cells (aiN d) d.cells
theorem xe {Γ:Env} {f:Nat} (h:Has Γ.P f 21 c_endpoint_draft__finish r_endpoint_draft__finish) :Vg Γ f:=by
  intro d
  refine wm h (by simp) (by first|exact Jy.cells_closed _|exact adD _) (by first|exact J7 _ _|exact Jy.cells_closed _|simp only [V.closed,Qw,and_self,and_true,true_and]) (by first|exact J7 _ _|exact Jy.cells_closed _|simp only [V.closed,Qw,and_self,and_true,true_and]) fun C hC hm=>?_
  subst hC
  unfold c_endpoint_draft__finish
  by_cases hle:d.least≤d.most
  · have e1:decide (d.least > d.most) = false:=by simp;omega
    rw [aiN,if_pos hle]
    simp only [Jy.cells,Jy.ep]
    repeat' (first|refine Qp fun K' hK=>?_|refine Qt fun K' hK=>?_|refine Qm 11 (fun _=>true) rfl (Xn) (Xl) fun K' hK=>?_|refine Qn 11 (fun _=>true) rfl (Xn) (Xl) fun K' hK=>?_|refine Qq ?_|refine Qr ?_|refine Qa ?_|((first|refine Qs ⟨_,rfl,fun hc=>?_,fun hc=>?_⟩|refine QM (fun hc=>?_) (fun hc=>?_)|refine QN (fun hc=>?_) (fun hc=>?_))<;>first|(cases hc;done)|((try simp only [znz] at hc);first|exact znf|skip))|refine Qv ?_|refine Qu ?_|simp (maxSteps:=1000000) only [go_sem,e1,Xm]|(refine hK _ ?_;clear hK K')|apply And.intro|exact zlo|omega|exact zms)
    all_goals first|(refine qo _ rfl rfl (by simp only [V.closed,Qw,and_self,and_true,true_and]) ?_;simp only [go_sem];done)
  · have e1:decide (d.least > d.most) = true:=by simp;omega
    rw [aiN,if_neg hle]
    simp only [Jy.cells]
    repeat' (first|refine Qp fun K' hK=>?_|refine Qt fun K' hK=>?_|refine Qm 11 (fun _=>true) rfl (Xn) (Xl) fun K' hK=>?_|refine Qn 11 (fun _=>true) rfl (Xn) (Xl) fun K' hK=>?_|refine Qq ?_|refine Qr ?_|refine Qa ?_|((first|refine Qs ⟨_,rfl,fun hc=>?_,fun hc=>?_⟩|refine QM (fun hc=>?_) (fun hc=>?_)|refine QN (fun hc=>?_) (fun hc=>?_))<;>first|(cases hc;done)|((try simp only [znz] at hc);first|exact znf|skip))|refine Qv ?_|refine Qu ?_|simp (maxSteps:=1000000) only [go_sem,e1,Xm]|(refine hK _ ?_;clear hK K')|apply And.intro|exact zlo|omega|exact zms)
    all_goals first|(refine qo _ rfl rfl (by simp only [V.closed,Qw,and_self,and_true,true_and]) ?_;simp only [go_sem];done)
end Av
end
section
set_option linter.unusedSimpArgs false
set_option linter.unusedVariables false
set_option maxRecDepth 10000
set_option maxHeartbeats 4000000
namespace Av
open Go
attribute [local irreducible] AWp V7 Kz KE awS awC jS awQ jY JB Wl jJ awR Ws awB okR Vo ris
def aco (l:List Uq) (name:List UInt8):List Uq:=l.filter fun x=>x.sec == name
def yV (d:Jy) (x:Uq):Option Jy :=
  if x.name = [108,101,97,115,116] then (if aiL x.val = true then some { d with least:=qK x.val } else none)
  else if x.name = [109,111,115,116] then (if aiL x.val = true then some { d with most:=qK x.val } else none)
  else if x.name = [115,117,105,116,101,115] then (if ((UL x.val).2.2 == 0) = true then some { d with suites:=(UL x.val).1 } else none)
  else if x.name = [111,114,100,101,114] then (if (x.val == [111,119,110] || x.val == [99,108,105,101,110,116]) = true then some { d with own:=x.val == [111,119,110] } else none)
  else if x.name = [102,97,108,108,98,97,99,107] then (if (x.val == [121,101,115] || x.val == [110,111]) = true then some { d with fall:=x.val == [121,101,115] } else none)
  else none
def ad3:List Uq→Jy→Option Jy
  | [],d=>some d
  | x :: r,d=>if r.any (fun y=>y.name == x.name) = true then ad3 r d else (yV d x).bind (ad3 r)
def ahn (s:List UInt8):Prop:=s = [108,101,97,115,116]∨s = [109,111,115,116]∨s = [115,117,105,116,101,115]∨s = [111,114,100,101,114]∨s = [102,97,108,108,98,97,99,107]
def ep0:Ob:=.box true [V.str [],V.int 0,V.int 0,.hd 2 0 0,V.bool false,.hd 3 0 0,.hd 4 0 0,.hd 5 0 0,V.bool false]
def fsO (own:List Uq):List (Nat×Ob):=[(0,ep0),(1,.buf true 4 (own.map Uq.v)),(2,.buf true 1 []),(3,.buf true 4 []),(4,.buf true 1 []),(5,.buf true 1 [])]
def qm (g1 g2 g3 g4 g5 g6 g7 g8:Nat):List V:=[.clo (.n g1) [.ptr 8 0],.clo (.n g2) [.ptr 8 0],.clo (.m g3) [.ptr 6 0],.clo (.n g4) [.ptr 8 0],.clo (.m g5) [.ptr 6 0],.clo (.n g6) [.ptr 8 0],.clo (.n g7) [.ptr 8 0],.clo (.n g8) [.ptr 8 0]]
def aad (own:List Uq) (ws:List V) (d:Jy):List (Nat×Ob):=[(0,ep0),(1,.buf true 4 (own.map Uq.v)),(2,.buf true 1 []),(3,.buf true 4 []),(4,.buf true 1 []),(5,.buf true 1 []),(6,.box true d.cells),(7,.map aah ws 0),(8,.box true [.ptr 6 0])]
theorem aja {l:List Uq} {name:List UInt8} {k:Nat} {x:Uq} (h:l[k]? = some x):aco (l.take (k + 1)) name = if (x.sec == name) = true then aco (l.take k) name++[x] else aco (l.take k) name:=by
  rw [List.take_add_one,h,aco,List.filter_append]
  by_cases hx:(x.sec == name) = true
  · rw [if_pos hx];simp [aco,hx]
  · rw [if_neg hx];simp [aco,hx]
theorem ajb (l:List Uq) (name:List UInt8):(aco l name).length≤l.length:=List.length_filter_le _ _
theorem aeC {s:List UInt8} (h:ahn s):∃ i,((i = 0∧s = [108,101,97,115,116])∨(i = 1∧s = [109,111,115,116])∨(i = 2∧s = [115,117,105,116,101,115])∨(i = 3∧s = [111,114,100,101,114])∨(i = 7∧s = [102,97,108,108,98,97,99,107]))∧Ut false [1] (V.str s) aah 0 = some (some i):=by
  rcases h with h|h|h|h|h
  · exact ⟨0,.inl ⟨rfl,h⟩,h ▸ kG0⟩
  · exact ⟨1,.inr (.inl ⟨rfl,h⟩),h ▸ kG1⟩
  · exact ⟨2,.inr (.inr (.inl ⟨rfl,h⟩)),h ▸ kG2⟩
  · exact ⟨3,.inr (.inr (.inr (.inl ⟨rfl,h⟩))),h ▸ kG3⟩
  · exact ⟨7,.inr (.inr (.inr (.inr ⟨rfl,h⟩))),h ▸ kG7⟩
theorem yk {d:Jy} {x:Uq} {r:List Uq} {e:Jy} {c:Bool} {d':Jy} (ha:yV d x = if c = true then some d' else none) (h:(yV d x).bind (ad3 r) = some e):c = true∧ad3 r d' = some e:=by
  rw [ha] at h
  cases c with
  | false=>cases h
  | true=>exact ⟨rfl,h⟩
theorem aiV {s:List UInt8} (h:ahn s):amB s = false:=by rcases h with rfl|rfl|rfl|rfl|rfl<;>decide
theorem al3 {a b:Nat}:sig [a] b 0 = a:=rfl
theorem al2 {a b:Nat}:sig [a] b 2 = b + 1:=rfl
def W5:List AO:=[xo 62 (.build [(.string ⟨#[]⟩),(.int .i64 0),(.int .i64 0),(.slice none 0 0),(.bool false),(.slice none 0 0),(.slice none 0 0),(.slice none 0 0),(.bool false)] []),fa 63 3 16,ld 64 1 63,xs 9 6 62,mv 7 64,mc 8 (V.int 17)]
def Vd:List (List Nat):=[[],[],[1],[0,0],[2,3,0,1,2,3],[4,0,1,2,3,4]]
def W0:OT:=.one 0 (.one 1 (.or 2 (.one 3 (.one 4 (.one 5 (.done)))) (.or 3 (.one 2 (.one 4 (.one 5 (.done)))) (.done))))
def Jt:OP:=.one 0 false [] (xo 62 (.build [(.string ⟨#[]⟩),(.int .i64 0),(.int .i64 0),(.slice none 0 0),(.bool false),(.slice none 0 0),(.slice none 0 0),(.slice none 0 0),(.bool false)] [])) (.one 1 false [] (fa 63 3 16) (.or 2 true [] (ld 64 1 63) (.one 3 true [] (xs 9 6 62) (.one 4 false [] (mv 7 64) (.one 5 false [] (mc 8 (V.int 17)) (.done)))) (.or 3 true [] (xs 9 6 62) (.one 2 true [] (ld 64 1 63) (.one 4 false [] (mv 7 64) (.one 5 false [] (mc 8 (V.int 17)) (.done)))) (.done))))
theorem Q4:okR (W5) Vd [2] W0 = true:=by kernel_rfl
theorem Q0:Vo (ris (W5) Vd [2]) W0 = Jt:=by kernel_rfl
def W4 (QK QQ:Nat):List AO:=[mv 74 10,mv 75 17,bc 76 .add 75 (V.int 1),xo 77 (.slsl 4 (.t 74) (some (.t 76)) none),mv 78 19,cl 79 QK [77,78],xo 80 (.un .not (.t 79)),mv 81 80,mg 82 14 81 true,xg 83 (.faddr 1 (.t 18)) 81 true,xg 84 (.load false 1 (.t 83)) 81 true,xg 85 (.mapget false false [.nilFunc] false [1] (.t 82) (.t 84)) 81 true,xg 86 (.load true 4 (.t 18)) 81 true,xg 87 (.call QQ [(.t 86)]) 81 true,xg 88 (.callv (.t 85) [(.t 87)]) 81 true,xg 89 (.un .not (.t 88)) 81 true,xo 90 (.pick (.t 81) (.t 89) (.c (V.bool false)))]
def Vc:List (List Nat):=[[],[],[1],[0,2],[],[3,4],[5],[6,5],[7],[7],[9,7],[8,10,7],[7],[12,7,7],[11,13,13,7],[14,7],[7,15]]
def WZ:OT:=.one 0 (.one 1 (.one 2 (.one 3 (.one 4 (.or 5 (.or 6 (.one 7 (.or 8 (.or 9 (.or 10 (.one 11 (.or 12 (.or 13 (.or 14 (.one 15 (.one 16 (.done))) (.done)) (.done)) (.done))) (.or 12 (.or 10 (.one 11 (.or 13 (.or 14 (.one 15 (.one 16 (.done))) (.done)) (.done))) (.or 13 (.or 10 (.one 11 (.or 14 (.one 15 (.one 16 (.done))) (.done))) (.done)) (.done))) (.done))) (.or 12 (.or 9 (.or 10 (.one 11 (.or 13 (.or 14 (.one 15 (.one 16 (.done))) (.done)) (.done))) (.or 13 (.or 10 (.one 11 (.or 14 (.one 15 (.one 16 (.done))) (.done))) (.done)) (.done))) (.or 13 (.or 9 (.or 10 (.one 11 (.or 14 (.one 15 (.one 16 (.done))) (.done))) (.done)) (.done)) (.done))) (.done))) (.or 9 (.or 8 (.or 10 (.one 11 (.or 12 (.or 13 (.or 14 (.one 15 (.one 16 (.done))) (.done)) (.done)) (.done))) (.or 12 (.or 10 (.one 11 (.or 13 (.or 14 (.one 15 (.one 16 (.done))) (.done)) (.done))) (.or 13 (.or 10 (.one 11 (.or 14 (.one 15 (.one 16 (.done))) (.done))) (.done)) (.done))) (.done))) (.or 10 (.or 8 (.one 11 (.or 12 (.or 13 (.or 14 (.one 15 (.one 16 (.done))) (.done)) (.done)) (.done))) (.or 12 (.or 8 (.one 11 (.or 13 (.or 14 (.one 15 (.one 16 (.done))) (.done)) (.done))) (.or 13 (.or 8 (.one 11 (.or 14 (.one 15 (.one 16 (.done))) (.done))) (.done)) (.done))) (.done))) (.or 12 (.or 8 (.or 10 (.one 11 (.or 13 (.or 14 (.one 15 (.one 16 (.done))) (.done)) (.done))) (.or 13 (.or 10 (.one 11 (.or 14 (.one 15 (.one 16 (.done))) (.done))) (.done)) (.done))) (.or 10 (.or 8 (.one 11 (.or 13 (.or 14 (.one 15 (.one 16 (.done))) (.done)) (.done))) (.or 13 (.or 8 (.one 11 (.or 14 (.one 15 (.one 16 (.done))) (.done))) (.done)) (.done))) (.or 13 (.or 8 (.or 10 (.one 11 (.or 14 (.one 15 (.one 16 (.done))) (.done))) (.done)) (.or 10 (.or 8 (.one 11 (.or 14 (.one 15 (.one 16 (.done))) (.done))) (.done)) (.done))) (.done)))) (.done)))) (.or 12 (.or 8 (.or 9 (.or 10 (.one 11 (.or 13 (.or 14 (.one 15 (.one 16 (.done))) (.done)) (.done))) (.or 13 (.or 10 (.one 11 (.or 14 (.one 15 (.one 16 (.done))) (.done))) (.done)) (.done))) (.or 13 (.or 9 (.or 10 (.one 11 (.or 14 (.one 15 (.one 16 (.done))) (.done))) (.done)) (.done)) (.done))) (.or 9 (.or 8 (.or 10 (.one 11 (.or 13 (.or 14 (.one 15 (.one 16 (.done))) (.done)) (.done))) (.or 13 (.or 10 (.one 11 (.or 14 (.one 15 (.one 16 (.done))) (.done))) (.done)) (.done))) (.or 10 (.or 8 (.one 11 (.or 13 (.or 14 (.one 15 (.one 16 (.done))) (.done)) (.done))) (.or 13 (.or 8 (.one 11 (.or 14 (.one 15 (.one 16 (.done))) (.done))) (.done)) (.done))) (.or 13 (.or 8 (.or 10 (.one 11 (.or 14 (.one 15 (.one 16 (.done))) (.done))) (.done)) (.or 10 (.or 8 (.one 11 (.or 14 (.one 15 (.one 16 (.done))) (.done))) (.done)) (.done))) (.done)))) (.or 13 (.or 8 (.or 9 (.or 10 (.one 11 (.or 14 (.one 15 (.one 16 (.done))) (.done))) (.done)) (.done)) (.or 9 (.or 8 (.or 10 (.one 11 (.or 14 (.one 15 (.one 16 (.done))) (.done))) (.done)) (.or 10 (.or 8 (.one 11 (.or 14 (.one 15 (.one 16 (.done))) (.done))) (.done)) (.done))) (.done))) (.done)))) (.done))))) (.done)) (.done))))))
def Js (QK QQ:Nat):OP:=.one 0 false [] (mv 74 10) (.one 1 false [] (mv 75 17) (.one 2 false [] (bc 76 .add 75 (V.int 1)) (.one 3 false [] (xo 77 (.slsl 4 (.t 74) (some (.t 76)) none)) (.one 4 false [] (mv 78 19) (.or 5 false [] (cl 79 QK [77,78]) (.or 6 false [5] (xo 80 (.un .not (.t 79))) (.one 7 false [5] (mv 81 80) (.or 8 false [5] (mg 82 14 81 true) (.or 9 false [5] (xg 83 (.faddr 1 (.t 18)) 81 true) (.or 10 false [5] (xg 84 (.load false 1 (.t 83)) 81 true) (.one 11 false [5] (xg 85 (.mapget false false [.nilFunc] false [1] (.t 82) (.t 84)) 81 true) (.or 12 false [5] (xg 86 (.load true 4 (.t 18)) 81 true) (.or 13 false [5] (xg 87 (.call QQ [(.t 86)]) 81 true) (.or 14 true [13,5] (xg 88 (.callv (.t 85) [(.t 87)]) 81 true) (.one 15 false [14,13,5] (xg 89 (.un .not (.t 88)) 81 true) (.one 16 false [14,13,5] (xo 90 (.pick (.t 81) (.t 89) (.c (V.bool false)))) (.done))) (.done)) (.done)) (.done))) (.or 12 false [5] (xg 86 (.load true 4 (.t 18)) 81 true) (.or 10 false [5] (xg 84 (.load false 1 (.t 83)) 81 true) (.one 11 false [5] (xg 85 (.mapget false false [.nilFunc] false [1] (.t 82) (.t 84)) 81 true) (.or 13 false [5] (xg 87 (.call QQ [(.t 86)]) 81 true) (.or 14 true [13,5] (xg 88 (.callv (.t 85) [(.t 87)]) 81 true) (.one 15 false [14,13,5] (xg 89 (.un .not (.t 88)) 81 true) (.one 16 false [14,13,5] (xo 90 (.pick (.t 81) (.t 89) (.c (V.bool false)))) (.done))) (.done)) (.done))) (.or 13 false [5] (xg 87 (.call QQ [(.t 86)]) 81 true) (.or 10 false [5] (xg 84 (.load false 1 (.t 83)) 81 true) (.one 11 false [5] (xg 85 (.mapget false false [.nilFunc] false [1] (.t 82) (.t 84)) 81 true) (.or 14 true [13,5] (xg 88 (.callv (.t 85) [(.t 87)]) 81 true) (.one 15 false [14,13,5] (xg 89 (.un .not (.t 88)) 81 true) (.one 16 false [14,13,5] (xo 90 (.pick (.t 81) (.t 89) (.c (V.bool false)))) (.done))) (.done))) (.done)) (.done))) (.done))) (.or 12 false [5] (xg 86 (.load true 4 (.t 18)) 81 true) (.or 9 false [5] (xg 83 (.faddr 1 (.t 18)) 81 true) (.or 10 false [5] (xg 84 (.load false 1 (.t 83)) 81 true) (.one 11 false [5] (xg 85 (.mapget false false [.nilFunc] false [1] (.t 82) (.t 84)) 81 true) (.or 13 false [5] (xg 87 (.call QQ [(.t 86)]) 81 true) (.or 14 true [13,5] (xg 88 (.callv (.t 85) [(.t 87)]) 81 true) (.one 15 false [14,13,5] (xg 89 (.un .not (.t 88)) 81 true) (.one 16 false [14,13,5] (xo 90 (.pick (.t 81) (.t 89) (.c (V.bool false)))) (.done))) (.done)) (.done))) (.or 13 false [5] (xg 87 (.call QQ [(.t 86)]) 81 true) (.or 10 false [5] (xg 84 (.load false 1 (.t 83)) 81 true) (.one 11 false [5] (xg 85 (.mapget false false [.nilFunc] false [1] (.t 82) (.t 84)) 81 true) (.or 14 true [13,5] (xg 88 (.callv (.t 85) [(.t 87)]) 81 true) (.one 15 false [14,13,5] (xg 89 (.un .not (.t 88)) 81 true) (.one 16 false [14,13,5] (xo 90 (.pick (.t 81) (.t 89) (.c (V.bool false)))) (.done))) (.done))) (.done)) (.done))) (.or 13 false [5] (xg 87 (.call QQ [(.t 86)]) 81 true) (.or 9 false [5] (xg 83 (.faddr 1 (.t 18)) 81 true) (.or 10 false [5] (xg 84 (.load false 1 (.t 83)) 81 true) (.one 11 false [5] (xg 85 (.mapget false false [.nilFunc] false [1] (.t 82) (.t 84)) 81 true) (.or 14 true [13,5] (xg 88 (.callv (.t 85) [(.t 87)]) 81 true) (.one 15 false [14,13,5] (xg 89 (.un .not (.t 88)) 81 true) (.one 16 false [14,13,5] (xo 90 (.pick (.t 81) (.t 89) (.c (V.bool false)))) (.done))) (.done))) (.done)) (.done)) (.done))) (.done))) (.or 9 false [5] (xg 83 (.faddr 1 (.t 18)) 81 true) (.or 8 false [5] (mg 82 14 81 true) (.or 10 false [5] (xg 84 (.load false 1 (.t 83)) 81 true) (.one 11 false [5] (xg 85 (.mapget false false [.nilFunc] false [1] (.t 82) (.t 84)) 81 true) (.or 12 false [5] (xg 86 (.load true 4 (.t 18)) 81 true) (.or 13 false [5] (xg 87 (.call QQ [(.t 86)]) 81 true) (.or 14 true [13,5] (xg 88 (.callv (.t 85) [(.t 87)]) 81 true) (.one 15 false [14,13,5] (xg 89 (.un .not (.t 88)) 81 true) (.one 16 false [14,13,5] (xo 90 (.pick (.t 81) (.t 89) (.c (V.bool false)))) (.done))) (.done)) (.done)) (.done))) (.or 12 false [5] (xg 86 (.load true 4 (.t 18)) 81 true) (.or 10 false [5] (xg 84 (.load false 1 (.t 83)) 81 true) (.one 11 false [5] (xg 85 (.mapget false false [.nilFunc] false [1] (.t 82) (.t 84)) 81 true) (.or 13 false [5] (xg 87 (.call QQ [(.t 86)]) 81 true) (.or 14 true [13,5] (xg 88 (.callv (.t 85) [(.t 87)]) 81 true) (.one 15 false [14,13,5] (xg 89 (.un .not (.t 88)) 81 true) (.one 16 false [14,13,5] (xo 90 (.pick (.t 81) (.t 89) (.c (V.bool false)))) (.done))) (.done)) (.done))) (.or 13 false [5] (xg 87 (.call QQ [(.t 86)]) 81 true) (.or 10 false [5] (xg 84 (.load false 1 (.t 83)) 81 true) (.one 11 false [5] (xg 85 (.mapget false false [.nilFunc] false [1] (.t 82) (.t 84)) 81 true) (.or 14 true [13,5] (xg 88 (.callv (.t 85) [(.t 87)]) 81 true) (.one 15 false [14,13,5] (xg 89 (.un .not (.t 88)) 81 true) (.one 16 false [14,13,5] (xo 90 (.pick (.t 81) (.t 89) (.c (V.bool false)))) (.done))) (.done))) (.done)) (.done))) (.done))) (.or 10 false [5] (xg 84 (.load false 1 (.t 83)) 81 true) (.or 8 false [5] (mg 82 14 81 true) (.one 11 false [5] (xg 85 (.mapget false false [.nilFunc] false [1] (.t 82) (.t 84)) 81 true) (.or 12 false [5] (xg 86 (.load true 4 (.t 18)) 81 true) (.or 13 false [5] (xg 87 (.call QQ [(.t 86)]) 81 true) (.or 14 true [13,5] (xg 88 (.callv (.t 85) [(.t 87)]) 81 true) (.one 15 false [14,13,5] (xg 89 (.un .not (.t 88)) 81 true) (.one 16 false [14,13,5] (xo 90 (.pick (.t 81) (.t 89) (.c (V.bool false)))) (.done))) (.done)) (.done)) (.done))) (.or 12 false [5] (xg 86 (.load true 4 (.t 18)) 81 true) (.or 8 false [5] (mg 82 14 81 true) (.one 11 false [5] (xg 85 (.mapget false false [.nilFunc] false [1] (.t 82) (.t 84)) 81 true) (.or 13 false [5] (xg 87 (.call QQ [(.t 86)]) 81 true) (.or 14 true [13,5] (xg 88 (.callv (.t 85) [(.t 87)]) 81 true) (.one 15 false [14,13,5] (xg 89 (.un .not (.t 88)) 81 true) (.one 16 false [14,13,5] (xo 90 (.pick (.t 81) (.t 89) (.c (V.bool false)))) (.done))) (.done)) (.done))) (.or 13 false [5] (xg 87 (.call QQ [(.t 86)]) 81 true) (.or 8 false [5] (mg 82 14 81 true) (.one 11 false [5] (xg 85 (.mapget false false [.nilFunc] false [1] (.t 82) (.t 84)) 81 true) (.or 14 true [13,5] (xg 88 (.callv (.t 85) [(.t 87)]) 81 true) (.one 15 false [14,13,5] (xg 89 (.un .not (.t 88)) 81 true) (.one 16 false [14,13,5] (xo 90 (.pick (.t 81) (.t 89) (.c (V.bool false)))) (.done))) (.done))) (.done)) (.done))) (.done))) (.or 12 false [5] (xg 86 (.load true 4 (.t 18)) 81 true) (.or 8 false [5] (mg 82 14 81 true) (.or 10 false [5] (xg 84 (.load false 1 (.t 83)) 81 true) (.one 11 false [5] (xg 85 (.mapget false false [.nilFunc] false [1] (.t 82) (.t 84)) 81 true) (.or 13 false [5] (xg 87 (.call QQ [(.t 86)]) 81 true) (.or 14 true [13,5] (xg 88 (.callv (.t 85) [(.t 87)]) 81 true) (.one 15 false [14,13,5] (xg 89 (.un .not (.t 88)) 81 true) (.one 16 false [14,13,5] (xo 90 (.pick (.t 81) (.t 89) (.c (V.bool false)))) (.done))) (.done)) (.done))) (.or 13 false [5] (xg 87 (.call QQ [(.t 86)]) 81 true) (.or 10 false [5] (xg 84 (.load false 1 (.t 83)) 81 true) (.one 11 false [5] (xg 85 (.mapget false false [.nilFunc] false [1] (.t 82) (.t 84)) 81 true) (.or 14 true [13,5] (xg 88 (.callv (.t 85) [(.t 87)]) 81 true) (.one 15 false [14,13,5] (xg 89 (.un .not (.t 88)) 81 true) (.one 16 false [14,13,5] (xo 90 (.pick (.t 81) (.t 89) (.c (V.bool false)))) (.done))) (.done))) (.done)) (.done))) (.or 10 false [5] (xg 84 (.load false 1 (.t 83)) 81 true) (.or 8 false [5] (mg 82 14 81 true) (.one 11 false [5] (xg 85 (.mapget false false [.nilFunc] false [1] (.t 82) (.t 84)) 81 true) (.or 13 false [5] (xg 87 (.call QQ [(.t 86)]) 81 true) (.or 14 true [13,5] (xg 88 (.callv (.t 85) [(.t 87)]) 81 true) (.one 15 false [14,13,5] (xg 89 (.un .not (.t 88)) 81 true) (.one 16 false [14,13,5] (xo 90 (.pick (.t 81) (.t 89) (.c (V.bool false)))) (.done))) (.done)) (.done))) (.or 13 false [5] (xg 87 (.call QQ [(.t 86)]) 81 true) (.or 8 false [5] (mg 82 14 81 true) (.one 11 false [5] (xg 85 (.mapget false false [.nilFunc] false [1] (.t 82) (.t 84)) 81 true) (.or 14 true [13,5] (xg 88 (.callv (.t 85) [(.t 87)]) 81 true) (.one 15 false [14,13,5] (xg 89 (.un .not (.t 88)) 81 true) (.one 16 false [14,13,5] (xo 90 (.pick (.t 81) (.t 89) (.c (V.bool false)))) (.done))) (.done))) (.done)) (.done))) (.or 13 false [5] (xg 87 (.call QQ [(.t 86)]) 81 true) (.or 8 false [5] (mg 82 14 81 true) (.or 10 false [5] (xg 84 (.load false 1 (.t 83)) 81 true) (.one 11 false [5] (xg 85 (.mapget false false [.nilFunc] false [1] (.t 82) (.t 84)) 81 true) (.or 14 true [13,5] (xg 88 (.callv (.t 85) [(.t 87)]) 81 true) (.one 15 false [14,13,5] (xg 89 (.un .not (.t 88)) 81 true) (.one 16 false [14,13,5] (xo 90 (.pick (.t 81) (.t 89) (.c (V.bool false)))) (.done))) (.done))) (.done)) (.or 10 false [5] (xg 84 (.load false 1 (.t 83)) 81 true) (.or 8 false [5] (mg 82 14 81 true) (.one 11 false [5] (xg 85 (.mapget false false [.nilFunc] false [1] (.t 82) (.t 84)) 81 true) (.or 14 true [13,5] (xg 88 (.callv (.t 85) [(.t 87)]) 81 true) (.one 15 false [14,13,5] (xg 89 (.un .not (.t 88)) 81 true) (.one 16 false [14,13,5] (xo 90 (.pick (.t 81) (.t 89) (.c (V.bool false)))) (.done))) (.done))) (.done)) (.done))) (.done)))) (.done)))) (.or 12 false [5] (xg 86 (.load true 4 (.t 18)) 81 true) (.or 8 false [5] (mg 82 14 81 true) (.or 9 false [5] (xg 83 (.faddr 1 (.t 18)) 81 true) (.or 10 false [5] (xg 84 (.load false 1 (.t 83)) 81 true) (.one 11 false [5] (xg 85 (.mapget false false [.nilFunc] false [1] (.t 82) (.t 84)) 81 true) (.or 13 false [5] (xg 87 (.call QQ [(.t 86)]) 81 true) (.or 14 true [13,5] (xg 88 (.callv (.t 85) [(.t 87)]) 81 true) (.one 15 false [14,13,5] (xg 89 (.un .not (.t 88)) 81 true) (.one 16 false [14,13,5] (xo 90 (.pick (.t 81) (.t 89) (.c (V.bool false)))) (.done))) (.done)) (.done))) (.or 13 false [5] (xg 87 (.call QQ [(.t 86)]) 81 true) (.or 10 false [5] (xg 84 (.load false 1 (.t 83)) 81 true) (.one 11 false [5] (xg 85 (.mapget false false [.nilFunc] false [1] (.t 82) (.t 84)) 81 true) (.or 14 true [13,5] (xg 88 (.callv (.t 85) [(.t 87)]) 81 true) (.one 15 false [14,13,5] (xg 89 (.un .not (.t 88)) 81 true) (.one 16 false [14,13,5] (xo 90 (.pick (.t 81) (.t 89) (.c (V.bool false)))) (.done))) (.done))) (.done)) (.done))) (.or 13 false [5] (xg 87 (.call QQ [(.t 86)]) 81 true) (.or 9 false [5] (xg 83 (.faddr 1 (.t 18)) 81 true) (.or 10 false [5] (xg 84 (.load false 1 (.t 83)) 81 true) (.one 11 false [5] (xg 85 (.mapget false false [.nilFunc] false [1] (.t 82) (.t 84)) 81 true) (.or 14 true [13,5] (xg 88 (.callv (.t 85) [(.t 87)]) 81 true) (.one 15 false [14,13,5] (xg 89 (.un .not (.t 88)) 81 true) (.one 16 false [14,13,5] (xo 90 (.pick (.t 81) (.t 89) (.c (V.bool false)))) (.done))) (.done))) (.done)) (.done)) (.done))) (.or 9 false [5] (xg 83 (.faddr 1 (.t 18)) 81 true) (.or 8 false [5] (mg 82 14 81 true) (.or 10 false [5] (xg 84 (.load false 1 (.t 83)) 81 true) (.one 11 false [5] (xg 85 (.mapget false false [.nilFunc] false [1] (.t 82) (.t 84)) 81 true) (.or 13 false [5] (xg 87 (.call QQ [(.t 86)]) 81 true) (.or 14 true [13,5] (xg 88 (.callv (.t 85) [(.t 87)]) 81 true) (.one 15 false [14,13,5] (xg 89 (.un .not (.t 88)) 81 true) (.one 16 false [14,13,5] (xo 90 (.pick (.t 81) (.t 89) (.c (V.bool false)))) (.done))) (.done)) (.done))) (.or 13 false [5] (xg 87 (.call QQ [(.t 86)]) 81 true) (.or 10 false [5] (xg 84 (.load false 1 (.t 83)) 81 true) (.one 11 false [5] (xg 85 (.mapget false false [.nilFunc] false [1] (.t 82) (.t 84)) 81 true) (.or 14 true [13,5] (xg 88 (.callv (.t 85) [(.t 87)]) 81 true) (.one 15 false [14,13,5] (xg 89 (.un .not (.t 88)) 81 true) (.one 16 false [14,13,5] (xo 90 (.pick (.t 81) (.t 89) (.c (V.bool false)))) (.done))) (.done))) (.done)) (.done))) (.or 10 false [5] (xg 84 (.load false 1 (.t 83)) 81 true) (.or 8 false [5] (mg 82 14 81 true) (.one 11 false [5] (xg 85 (.mapget false false [.nilFunc] false [1] (.t 82) (.t 84)) 81 true) (.or 13 false [5] (xg 87 (.call QQ [(.t 86)]) 81 true) (.or 14 true [13,5] (xg 88 (.callv (.t 85) [(.t 87)]) 81 true) (.one 15 false [14,13,5] (xg 89 (.un .not (.t 88)) 81 true) (.one 16 false [14,13,5] (xo 90 (.pick (.t 81) (.t 89) (.c (V.bool false)))) (.done))) (.done)) (.done))) (.or 13 false [5] (xg 87 (.call QQ [(.t 86)]) 81 true) (.or 8 false [5] (mg 82 14 81 true) (.one 11 false [5] (xg 85 (.mapget false false [.nilFunc] false [1] (.t 82) (.t 84)) 81 true) (.or 14 true [13,5] (xg 88 (.callv (.t 85) [(.t 87)]) 81 true) (.one 15 false [14,13,5] (xg 89 (.un .not (.t 88)) 81 true) (.one 16 false [14,13,5] (xo 90 (.pick (.t 81) (.t 89) (.c (V.bool false)))) (.done))) (.done))) (.done)) (.done))) (.or 13 false [5] (xg 87 (.call QQ [(.t 86)]) 81 true) (.or 8 false [5] (mg 82 14 81 true) (.or 10 false [5] (xg 84 (.load false 1 (.t 83)) 81 true) (.one 11 false [5] (xg 85 (.mapget false false [.nilFunc] false [1] (.t 82) (.t 84)) 81 true) (.or 14 true [13,5] (xg 88 (.callv (.t 85) [(.t 87)]) 81 true) (.one 15 false [14,13,5] (xg 89 (.un .not (.t 88)) 81 true) (.one 16 false [14,13,5] (xo 90 (.pick (.t 81) (.t 89) (.c (V.bool false)))) (.done))) (.done))) (.done)) (.or 10 false [5] (xg 84 (.load false 1 (.t 83)) 81 true) (.or 8 false [5] (mg 82 14 81 true) (.one 11 false [5] (xg 85 (.mapget false false [.nilFunc] false [1] (.t 82) (.t 84)) 81 true) (.or 14 true [13,5] (xg 88 (.callv (.t 85) [(.t 87)]) 81 true) (.one 15 false [14,13,5] (xg 89 (.un .not (.t 88)) 81 true) (.one 16 false [14,13,5] (xo 90 (.pick (.t 81) (.t 89) (.c (V.bool false)))) (.done))) (.done))) (.done)) (.done))) (.done)))) (.or 13 false [5] (xg 87 (.call QQ [(.t 86)]) 81 true) (.or 8 false [5] (mg 82 14 81 true) (.or 9 false [5] (xg 83 (.faddr 1 (.t 18)) 81 true) (.or 10 false [5] (xg 84 (.load false 1 (.t 83)) 81 true) (.one 11 false [5] (xg 85 (.mapget false false [.nilFunc] false [1] (.t 82) (.t 84)) 81 true) (.or 14 true [13,5] (xg 88 (.callv (.t 85) [(.t 87)]) 81 true) (.one 15 false [14,13,5] (xg 89 (.un .not (.t 88)) 81 true) (.one 16 false [14,13,5] (xo 90 (.pick (.t 81) (.t 89) (.c (V.bool false)))) (.done))) (.done))) (.done)) (.done)) (.or 9 false [5] (xg 83 (.faddr 1 (.t 18)) 81 true) (.or 8 false [5] (mg 82 14 81 true) (.or 10 false [5] (xg 84 (.load false 1 (.t 83)) 81 true) (.one 11 false [5] (xg 85 (.mapget false false [.nilFunc] false [1] (.t 82) (.t 84)) 81 true) (.or 14 true [13,5] (xg 88 (.callv (.t 85) [(.t 87)]) 81 true) (.one 15 false [14,13,5] (xg 89 (.un .not (.t 88)) 81 true) (.one 16 false [14,13,5] (xo 90 (.pick (.t 81) (.t 89) (.c (V.bool false)))) (.done))) (.done))) (.done)) (.or 10 false [5] (xg 84 (.load false 1 (.t 83)) 81 true) (.or 8 false [5] (mg 82 14 81 true) (.one 11 false [5] (xg 85 (.mapget false false [.nilFunc] false [1] (.t 82) (.t 84)) 81 true) (.or 14 true [13,5] (xg 88 (.callv (.t 85) [(.t 87)]) 81 true) (.one 15 false [14,13,5] (xg 89 (.un .not (.t 88)) 81 true) (.one 16 false [14,13,5] (xo 90 (.pick (.t 81) (.t 89) (.c (V.bool false)))) (.done))) (.done))) (.done)) (.done))) (.done))) (.done)))) (.done))))) (.done)) (.done))))))
theorem Q3 (QK QQ:Nat):okR (W4 QK QQ) Vc [14] WZ = true:=by kernel_rfl
theorem QZ (QK QQ:Nat):Vo (ris (W4 QK QQ) Vc [14]) WZ = Js QK QQ:=by kernel_rfl
def W3:List AO:=[xo 91 (.build [(.string ⟨#[]⟩),(.int .i64 0),(.int .i64 0),(.slice none 0 0),(.bool false),(.slice none 0 0),(.slice none 0 0),(.slice none 0 0),(.bool false)] []),fa 92 3 18,ld 93 1 92,xs 9 6 91,mv 7 93,mc 8 (V.int 18)]
def Vb:List (List Nat):=[[],[],[1],[0,0],[2,3,0,1,2,3],[4,0,1,2,3,4]]
def WY:OT:=.one 0 (.one 1 (.or 2 (.one 3 (.one 4 (.one 5 (.done)))) (.or 3 (.one 2 (.one 4 (.one 5 (.done)))) (.done))))
def Jr:OP:=.one 0 false [] (xo 91 (.build [(.string ⟨#[]⟩),(.int .i64 0),(.int .i64 0),(.slice none 0 0),(.bool false),(.slice none 0 0),(.slice none 0 0),(.slice none 0 0),(.bool false)] [])) (.one 1 false [] (fa 92 3 18) (.or 2 true [] (ld 93 1 92) (.one 3 true [] (xs 9 6 91) (.one 4 false [] (mv 7 93) (.one 5 false [] (mc 8 (V.int 18)) (.done)))) (.or 3 true [] (xs 9 6 91) (.one 2 true [] (ld 93 1 92) (.one 4 false [] (mv 7 93) (.one 5 false [] (mc 8 (V.int 18)) (.done)))) (.done))))
theorem Q1:okR (W3) Vb [2] WY = true:=by kernel_rfl
theorem QY:Vo (ris (W3) Vb [2]) WY = Jr:=by kernel_rfl def c_endpoint_FromSettings (Kb Kc Wj YU QK QQ X7:Nat):AC:=QF [0,1,2,6] (.reg [xo 6 (.alloc [.val (.string ⟨#[]⟩),.val (.int .i64 0),.val (.int .i64 0),.nil 1,.val (.bool false),.nil 4,.nil 1,.nil 1,.val (.bool false)]),mc 7 (V.int 0),mc 8 (V.int 0)]) (QF [0,1,2,6] (QF [0,1,2,6,9] (.reg [mv 20 1,mv 21 2,cl 22 Kb [20,21],mv 9 22]) (QF [0,1,2,6,9,24] (.reg [mv 23 9,bc 24 .neq 23 (V.int 0)]) (.cond (.t 24) (QF [6,7,8] (.reg [xo 25 (.build [(.string ⟨#[]⟩),(.int .i64 0),(.int .i64 0),(.slice none 0 0),(.bool false),(.slice none 0 0),(.slice none 0 0),(.slice none 0 0),(.bool false)] []),mv 26 9,xs 9 6 25,mc 7 (V.int 0),mv 8 26]) (.ret)) (.skip)))) (QF [0,1,2,6,10] (.reg [xo 10 (.mknil 4)]) (QF [1,2,6,10] (QF [1,2,6,10,27,28,29] (.reg [mv 27 0,ln 28 27,mc 29 (V.int 0)]) (.block 0 (Wv [1,2,6,10,27,28,29] (QF [1,2,6,10,27,28,29,30] (.reg [bn 30 .lss 29 28]) (QF [1,2,6,10,27,28,29] (.cond (.t 30) (.skip) (.exit 0)) (QF [1,2,6,10,27,28,29] (.block 1 (QF [1,2,6,10,12,27,28,29] (.reg [ia 31 4 27 29,xo 32 (.load true 4 (.t 31)),xo 12 (.alloc [.val (.string ⟨#[]⟩),.val (.string ⟨#[]⟩),.val (.string ⟨#[]⟩),.val (.int .i64 0)]),xs 4 12 32]) (QF [1,2,6,10,12,27,28,29,36] (.reg [fa 33 0 12,ld 34 1 33,mv 35 1,bn 36 .eql 34 35]) (.cond (.t 36) (.reg [mv 37 10,xo 38 (.load true 4 (.t 12)),xo 39 (.bslice 1 4 true [(.string ⟨#[]⟩),(.string ⟨#[]⟩),(.string ⟨#[]⟩),(.int .i64 0)] [(0,(.t 38))]),xo 40 (.append 4 56 [(.string ⟨#[]⟩),(.string ⟨#[]⟩),(.string ⟨#[]⟩),(.int .i64 0)] (.t 37) (.t 39)),mv 10 40]) (.skip))))) (.reg [bc 41 .add 29 (V.int 1),mv 29 41]))))))) (QF [1,2,6,10] (QF [1,2,6,10,44] (.reg [mv 42 10,ln 43 42,bc 44 .eql 43 (V.int 0)]) (.cond (.t 44) (QF [6,7,8] (.reg [xo 45 (.build [(.string ⟨#[]⟩),(.int .i64 0),(.int .i64 0),(.slice none 0 0),(.bool false),(.slice none 0 0),(.slice none 0 0),(.slice none 0 0),(.bool false)] []),xs 9 6 45,mc 7 (V.int 0),mc 8 (V.int 4)]) (.ret)) (.skip))) (QF [6,10,13] (.reg [mv 46 1,mv 47 2,cl 48 Kc [46,47],mv 13 48]) (QF [6,10,13,14] (.reg [mv 49 13,cl 50 Wj [49],mv 14 50]) (QF [6,10,13,14] (QF [6,10,13,14,51,52,53] (.reg [mv 51 10,ln 52 51,mc 53 (V.int 0)]) (.block 2 (Wv [6,10,13,14,51,52,53] (QF [6,10,13,14,51,52,53,54] (.reg [bn 54 .lss 53 52]) (QF [6,10,13,14,51,52,53] (.cond (.t 54) (.skip) (.exit 2)) (QF [6,10,13,14,51,52,53] (.block 3 (QF [6,10,13,14,16,51,52,53] (.reg [ia 55 4 51 53,xo 56 (.load true 4 (.t 55)),xo 16 (.alloc [.val (.string ⟨#[]⟩),.val (.string ⟨#[]⟩),.val (.string ⟨#[]⟩),.val (.int .i64 0)]),xs 4 16 56]) (QF [6,10,13,14,16,51,52,53,61] (.reg [mv 57 14,fa 58 1 16,ld 59 1 58,xo 60 (.mapget false false [.nilFunc] false [1] (.t 57) (.t 59)),xo 61 (.isnilF false (.t 60))]) (.cond (.t 61) (QF [6,7,8] (aaY [2] W0 (Jt) (W5) Vd) (.ret)) (.skip))))) (.reg [bc 65 .add 53 (V.int 1),mv 53 65]))))))) (QF [6,13] (QF [6,10,13,14,66,67,68] (.reg [mv 66 10,ln 67 66,mc 68 (V.int 0)]) (.block 4 (Wv [6,10,13,14,66,67,68] (QF [6,10,13,14,66,67,68,69] (.reg [bn 69 .lss 68 67]) (QF [6,10,13,14,66,67,68] (.cond (.t 69) (.skip) (.exit 4)) (QF [6,10,13,14,66,67,68] (.block 5 (QF [6,10,13,14,17,18,66,67,68] (.reg [mv 70 68,ia 71 4 66 68,xo 72 (.load true 4 (.t 71)),xo 18 (.alloc [.val (.string ⟨#[]⟩),.val (.string ⟨#[]⟩),.val (.string ⟨#[]⟩),.val (.int .i64 0)]),mv 17 70,xs 4 18 72]) (QF [6,10,13,14,17,18,19,66,67,68] (.reg [xo 73 (.mkfn YU [(.t 18)]),mv 19 73]) (QF [6,10,13,14,18,66,67,68,90] (aaY [14] WZ (Js QK QQ) (W4 QK QQ) Vc) (.cond (.t 90) (QF [6,7,8] (aaY [2] WY (Jr) (W3) Vb) (.ret)) (.skip)))))) (.reg [bc 94 .add 68 (V.int 1),mv 68 94]))))))) (QF [6,7,8] (.reg [mv 95 13,cl 96 X7 [95],ex 97 96 0,ex 98 96 1,ex 99 96 2,xs 9 6 97,mv 7 98,mv 8 99]) (.ret)))))))))) def r_endpoint_FromSettings:List Y9:=[.cell 6 true 9,.tmp 7,.tmp 8]
def X8 (Γ:Env) (f:Nat):Prop:=∀ (l:List Uq) (name:List UInt8) (d:Jy) (hs:name.length < 2 ^ 30) (hn:afH name = true) (hl:l.length < 2 ^ 30) (hv:∀ x∈l,x.val.length < 2 ^ 30) (hw:∀ x∈aco l name,ahn x.name) (ho:aco l name≠[]) (hr:ad3 (aco l name) ⟨name,1,4,agv,false,false⟩ = some d),EvC Γ f [.sl 4 (l.map Uq.v),V.str name,.sc (.slice none 0 0)] (aiN d)
theorem xM {Γ:Env} {f Kb Kc Wj YU QK QQ X7:Nat} (h:Has Γ.P f 100 (c_endpoint_FromSettings Kb Kc Wj YU QK QQ X7) r_endpoint_FromSettings) (Ys:qT Γ Kb) (Jv:qU Γ Kc) (we:Vy Γ Wj) (Jw:WL Γ YU) (QP:Ye Γ QK) (Yb:qh Γ QQ) (Q5:Vg Γ X7):X8 Γ f:=by
  intro l name d hs hn hl hv hw ho hr
  refine Wb h (by simp) (adD d) fun C hC hm=>?_
  subst hC
  unfold c_endpoint_FromSettings
  repeat' (first|refine Qp fun K' hK=>?_|refine Qt fun K' hK=>?_|refine Qm 6 (fun _=>false) rfl (Q4) (Q0) fun K' hK=>?_|refine Qn 6 (fun _=>false) rfl (Q4) (Q0) fun K' hK=>?_|refine Qm 17 (fun y=>!decide (y = 6) && !decide (y = 8)) rfl (Q3 _ _) (QZ _ _) fun K' hK=>?_|refine Qn 17 (fun y=>!decide (y = 6) && !decide (y = 8)) rfl (Q3 _ _) (QZ _ _) fun K' hK=>?_|refine Qm 6 (fun _=>false) rfl (Q1) (QY) fun K' hK=>?_|refine Qn 6 (fun _=>false) rfl (Q1) (QY) fun K' hK=>?_|refine Qq ?_|refine Qr ?_|refine Qa ?_|((first|refine Qs ⟨_,rfl,fun hc=>?_,fun hc=>?_⟩|refine QM (fun hc=>?_) (fun hc=>?_)|refine QN (fun hc=>?_) (fun hc=>?_))<;>first|(cases hc;done)|((try simp only [znz] at hc);first|exact znf|skip))|refine Qv ?_|refine Qu ?_|simp (maxSteps:=1000000) only [go_sem,Jt,Js,Jr]|(refine hK _ ?_;clear hK K')|apply And.intro|(apply jk;(focus exact rfl);(focus first|exact (Q5 _));(focus exact rfl);(focus exact rfl))|(apply yj;(focus exact rfl);(focus first|exact rfl|decide);(focus first|exact rfl|decide);(focus first|exact (Q5 _));(focus exact rfl);(focus exact rfl);(focus first|exact rfl|decide))|(apply yh;(focus first|exact (Jv _)))|((first|apply Xh|apply Yt);(focus first|exact (Yb _ zsd)))|(apply yi;(focus first|exact (Jv _));(focus first|exact rfl|decide))|((first|apply QX|apply Jz);(focus first|exact (Ys _ zsd zsd).b|exact (Jw _ _).b|exact (QP _ _ _ _ zsd zsd zsd).b))|exact zlo|omega|exact zms)
  refine JF (ι:=Nat) (fun k=>k≤l.length) (fun k=>Ym [(1,V.str name),(2,nS),(6,.ptr 0 0),(10,.hd 1 0 (aco (l.take k) name).length),(27,.sl 4 (l.map Uq.v)),(28,V.int l.length),(29,V.int k)] (fsO (aco (l.take k) name)) 6) (fun k=>l.length - k) 0 (Nat.zero_le _) (Jp [(1,9000),(2,4),(3,6),(4,7),(5,8)]) (Jq [(1,9000),(2,4),(3,6),(4,7),(5,8)] (by simp only [go_sem,and_true,true_and,implies_true,Option.some.injEq,exists_eq_left',Ql,Qo,fsO,ep0,List.length_map];(repeat' (first|rfl|apply And.intro|omega|exact fun h=>h|exact Exists.intro _ rfl))) (by simp only [go_sem,and_true,true_and,implies_true,Option.some.injEq,exists_eq_left',Ql,Qo,fsO,ep0];(repeat' (first|rfl|apply And.intro|omega|exact fun h=>h|exact Exists.intro _ rfl))) (by simp [fsO,Jp]) (by simp [fsO];omega) (by omega)) fun k hk K' hL=>?_
  rcases hdr:l.drop k with _|⟨x,r⟩
  · have hkl:=YX hdr
    have e1:decide ((k:Int) < ((l.length:Nat):Int)) = false:=by simp;omega
    rw [List.take_of_length_le hkl]
    have hol:=ajb l name
    have hmem:∀ x∈aco l name,x.val.length < 2 ^ 30:=fun x hx=>hv x (List.mem_filter.1 hx).1
    generalize aco l name = own at *
    have hpos:0 < own.length:=List.length_pos_iff.2 ho
    have e2:(((own.length:Nat):Int) == 0) = false:=by simp;omega
    obtain ⟨g1,g2,g3,g4,g5,g6,g7,g8,c1,c2,c3,c4,c8,hJ⟩:=we
    have hJ0:=hJ _ (Jy.cells_closed ⟨name,1,4,agv,false,false⟩)
    repeat' (first|refine Qp fun K' hK=>?_|refine Qt fun K' hK=>?_|refine Qm 6 (fun _=>false) rfl (Q4) (Q0) fun K' hK=>?_|refine Qn 6 (fun _=>false) rfl (Q4) (Q0) fun K' hK=>?_|refine Qm 17 (fun y=>!decide (y = 6) && !decide (y = 8)) rfl (Q3 _ _) (QZ _ _) fun K' hK=>?_|refine Qn 17 (fun y=>!decide (y = 6) && !decide (y = 8)) rfl (Q3 _ _) (QZ _ _) fun K' hK=>?_|refine Qm 6 (fun _=>false) rfl (Q1) (QY) fun K' hK=>?_|refine Qn 6 (fun _=>false) rfl (Q1) (QY) fun K' hK=>?_|refine Qq ?_|refine Qr ?_|refine Qa ?_|((first|refine Qs ⟨_,rfl,fun hc=>?_,fun hc=>?_⟩|refine QM (fun hc=>?_) (fun hc=>?_)|refine QN (fun hc=>?_) (fun hc=>?_))<;>first|(cases hc;done)|((try simp only [znz] at hc);first|exact znf|skip))|refine Qv ?_|refine Qu ?_|simp (maxSteps:=1000000) only [go_sem,Ym,fsO,ep0,e1,e2,y0,V.ren,al3,al2,Jt,Js,Jr]|(refine hK _ ?_;clear hK K')|apply And.intro|(apply amo;(focus exact rfl);(focus first|exact hJ0);(focus exact rfl))|(apply jk;(focus exact rfl);(focus first|exact (Q5 _));(focus exact rfl);(focus exact rfl))|(apply yj;(focus exact rfl);(focus first|exact rfl|decide);(focus first|exact rfl|decide);(focus first|exact (Q5 _));(focus exact rfl);(focus exact rfl);(focus first|exact rfl|decide))|(apply yh;(focus first|exact (Jv _)))|((first|apply Xh|apply Yt);(focus first|exact (Yb _ zsd)))|(apply yi;(focus first|exact (Jv _));(focus first|exact rfl|decide))|((first|apply QX|apply Jz);(focus first|exact (Ys _ zsd zsd).b|exact (Jw _ _).b|exact (QP _ _ _ _ zsd zsd zsd).b))|exact zlo|omega|exact zms)
    have hws:∃ ws,ws = qm g1 g2 g3 g4 g5 g6 g7 g8:=⟨_,rfl⟩
    refine JF (ι:=Nat) (fun k=>k≤own.length) (fun k=>Ym [(6,.ptr 0 0),(10,.hd 1 0 own.length),(13,.ptr 6 0),(14,.mp 7),(51,.hd 1 0 own.length),(52,V.int own.length),(53,V.int k)] (aad own (qm g1 g2 g3 g4 g5 g6 g7 g8) ⟨name,1,4,agv,false,false⟩) 9) (fun k=>own.length - k) 0 (Nat.zero_le _) (Jp [(6,6006),(7,9006),(8,9007)]) (Jq [(6,6006),(7,9006),(8,9007)] (by simp only [go_sem,and_true,true_and,implies_true,Option.some.injEq,exists_eq_left',Ql,Qo,aad,ep0,qm];(repeat' (first|rfl|apply And.intro|omega|exact fun h=>h|exact Exists.intro _ rfl))) (by simp only [go_sem,and_true,true_and,implies_true,Option.some.injEq,exists_eq_left',Ql,Qo,aad,ep0,qm,Jy.cells];(repeat' (first|rfl|apply And.intro|omega|exact fun h=>h|exact Exists.intro _ rfl))) (by simp [aad,Jp]) (by simp [aad];omega) (by omega)) fun k hk K2 hL2=>?_
    rcases hdo:own.drop k with _|⟨x,r⟩
    · have hkl:=YX hdo
      have e3:decide ((k:Int) < ((own.length:Nat):Int)) = false:=by simp;omega
      repeat' (first|refine Qp fun K' hK=>?_|refine Qt fun K' hK=>?_|refine Qm 6 (fun _=>false) rfl (Q4) (Q0) fun K' hK=>?_|refine Qn 6 (fun _=>false) rfl (Q4) (Q0) fun K' hK=>?_|refine Qm 17 (fun y=>!decide (y = 6) && !decide (y = 8)) rfl (Q3 _ _) (QZ _ _) fun K' hK=>?_|refine Qn 17 (fun y=>!decide (y = 6) && !decide (y = 8)) rfl (Q3 _ _) (QZ _ _) fun K' hK=>?_|refine Qm 6 (fun _=>false) rfl (Q1) (QY) fun K' hK=>?_|refine Qn 6 (fun _=>false) rfl (Q1) (QY) fun K' hK=>?_|refine Qq ?_|refine Qr ?_|refine Qa ?_|((first|refine Qs ⟨_,rfl,fun hc=>?_,fun hc=>?_⟩|refine QM (fun hc=>?_) (fun hc=>?_)|refine QN (fun hc=>?_) (fun hc=>?_))<;>first|(cases hc;done)|((try simp only [znz] at hc);first|exact znf|skip))|refine Qv ?_|refine Qu ?_|simp (maxSteps:=1000000) only [go_sem,Ym,aad,ep0,e3,Jt,Js,Jr]|(refine hK _ ?_;clear hK K')|apply And.intro|(apply jk;(focus exact rfl);(focus first|exact (Q5 _));(focus exact rfl);(focus exact rfl))|(apply yj;(focus exact rfl);(focus first|exact rfl|decide);(focus first|exact rfl|decide);(focus first|exact (Q5 _));(focus exact rfl);(focus exact rfl);(focus first|exact rfl|decide))|(apply yh;(focus first|exact (Jv _)))|((first|apply Xh|apply Yt);(focus first|exact (Yb _ zsd)))|(apply yi;(focus first|exact (Jv _));(focus first|exact rfl|decide))|((first|apply QX|apply Jz);(focus first|exact (Ys _ zsd zsd).b|exact (Jw _ _).b|exact (QP _ _ _ _ zsd zsd zsd).b))|exact zlo|omega|exact zms)
      refine JF (ι:=Nat×Jy) (fun q=>q.1≤own.length∧ad3 (own.drop q.1) q.2 = some d) (fun q=>Ym [(6,.ptr 0 0),(10,.hd 1 0 own.length),(13,.ptr 6 0),(14,.mp 7),(66,.hd 1 0 own.length),(67,V.int own.length),(68,V.int q.1)] (aad own (qm g1 g2 g3 g4 g5 g6 g7 g8) q.2) 9) (fun q=>own.length - q.1) (0,⟨name,1,4,agv,false,false⟩) ⟨Nat.zero_le _,hr⟩ (Jp []) (Jq [] (by simp only [go_sem,and_true,true_and,implies_true,Option.some.injEq,exists_eq_left',Ql,Qo,aad,ep0,qm];(repeat' (first|rfl|apply And.intro|omega|exact fun h=>h|exact Exists.intro _ rfl))) (by simp only [go_sem,and_true,true_and,implies_true,Option.some.injEq,exists_eq_left',Ql,Qo,aad,ep0,qm,Jy.cells];(repeat' (first|rfl|apply And.intro|omega|exact fun h=>h|exact Exists.intro _ rfl))) (by simp [aad,Jp]) (by simp [aad]) (by omega)) fun q hq K3 hL3=>?_
      obtain ⟨j,dk⟩:=q
      simp only at hq hL3 ⊢
      obtain ⟨hj,hrun⟩:=hq
      clear hL2 hL
      rcases hdj:own.drop j with _|⟨x,r⟩
      · have hjl:=YX hdj
        have e4:decide ((j:Int) < ((own.length:Nat):Int)) = false:=by simp;omega
        rw [hdj] at hrun
        obtain rfl:dk = d:=by simpa [ad3] using hrun
        have hfi:=Q5 dk
        by_cases hle:dk.least≤dk.most
        · rw [aiN,if_pos hle] at hfi ⊢
          simp only [Jy.ep] at hfi ⊢
          repeat' (first|refine Qp fun K' hK=>?_|refine Qt fun K' hK=>?_|refine Qm 6 (fun _=>false) rfl (Q4) (Q0) fun K' hK=>?_|refine Qn 6 (fun _=>false) rfl (Q4) (Q0) fun K' hK=>?_|refine Qm 17 (fun y=>!decide (y = 6) && !decide (y = 8)) rfl (Q3 _ _) (QZ _ _) fun K' hK=>?_|refine Qn 17 (fun y=>!decide (y = 6) && !decide (y = 8)) rfl (Q3 _ _) (QZ _ _) fun K' hK=>?_|refine Qm 6 (fun _=>false) rfl (Q1) (QY) fun K' hK=>?_|refine Qn 6 (fun _=>false) rfl (Q1) (QY) fun K' hK=>?_|refine Qq ?_|refine Qr ?_|refine Qa ?_|((first|refine Qs ⟨_,rfl,fun hc=>?_,fun hc=>?_⟩|refine QM (fun hc=>?_) (fun hc=>?_)|refine QN (fun hc=>?_) (fun hc=>?_))<;>first|(cases hc;done)|((try simp only [znz] at hc);first|exact znf|skip))|refine Qv ?_|refine Qu ?_|simp (maxSteps:=1000000) only [go_sem,Ym,aad,ep0,e4,Jt,Js,Jr]|(refine hK _ ?_;clear hK K')|apply And.intro|(apply jk;(focus exact rfl);(focus first|exact hfi|exact (Q5 _));(focus exact rfl);(focus exact rfl))|(apply yj;(focus exact rfl);(focus first|exact rfl|decide);(focus first|exact rfl|decide);(focus first|exact hfi|exact (Q5 _));(focus exact rfl);(focus exact rfl);(focus first|exact rfl|decide))|(apply yh;(focus first|exact (Jv _)))|((first|apply Xh|apply Yt);(focus first|exact (Yb _ zsd)))|(apply yi;(focus first|exact (Jv _));(focus first|exact rfl|decide))|((first|apply QX|apply Jz);(focus first|exact (Ys _ zsd zsd).b|exact (Jw _ _).b|exact (QP _ _ _ _ zsd zsd zsd).b))|exact zlo|omega|exact zms)
          all_goals first|(refine Je _ rfl ?_;simp only [go_sem];done)
        · rw [aiN,if_neg hle] at hfi ⊢
          repeat' (first|refine Qp fun K' hK=>?_|refine Qt fun K' hK=>?_|refine Qm 6 (fun _=>false) rfl (Q4) (Q0) fun K' hK=>?_|refine Qn 6 (fun _=>false) rfl (Q4) (Q0) fun K' hK=>?_|refine Qm 17 (fun y=>!decide (y = 6) && !decide (y = 8)) rfl (Q3 _ _) (QZ _ _) fun K' hK=>?_|refine Qn 17 (fun y=>!decide (y = 6) && !decide (y = 8)) rfl (Q3 _ _) (QZ _ _) fun K' hK=>?_|refine Qm 6 (fun _=>false) rfl (Q1) (QY) fun K' hK=>?_|refine Qn 6 (fun _=>false) rfl (Q1) (QY) fun K' hK=>?_|refine Qq ?_|refine Qr ?_|refine Qa ?_|((first|refine Qs ⟨_,rfl,fun hc=>?_,fun hc=>?_⟩|refine QM (fun hc=>?_) (fun hc=>?_)|refine QN (fun hc=>?_) (fun hc=>?_))<;>first|(cases hc;done)|((try simp only [znz] at hc);first|exact znf|skip))|refine Qv ?_|refine Qu ?_|simp (maxSteps:=1000000) only [go_sem,Ym,aad,ep0,e4,Jt,Js,Jr]|(refine hK _ ?_;clear hK K')|apply And.intro|(apply jk;(focus exact rfl);(focus first|exact hfi|exact (Q5 _));(focus exact rfl);(focus exact rfl))|(apply yj;(focus exact rfl);(focus first|exact rfl|decide);(focus first|exact rfl|decide);(focus first|exact hfi|exact (Q5 _));(focus exact rfl);(focus exact rfl);(focus first|exact rfl|decide))|(apply yh;(focus first|exact (Jv _)))|((first|apply Xh|apply Yt);(focus first|exact (Yb _ zsd)))|(apply yi;(focus first|exact (Jv _));(focus first|exact rfl|decide))|((first|apply QX|apply Jz);(focus first|exact (Ys _ zsd zsd).b|exact (Jw _ _).b|exact (QP _ _ _ _ zsd zsd zsd).b))|exact zlo|omega|exact zms)
          all_goals first|(refine Je _ rfl ?_;simp only [go_sem];done)
      · obtain ⟨hj',hgj,hrj⟩:=Yp hdj
        have hwj:=JO (k:=j) (by omega)
        have e4:decide ((j:Int) < ((own.length:Nat):Int)) = true:=by simp;omega
        have hxm:=List.mem_of_getElem? hgj
        have hvx:=hmem x hxm
        have hcf:=(QP (own.drop (j + 1)) YU [.ro x.cells 0] (fun y=>y.name == x.name) (fun y _=>Jw y x) (by simp [V.closed,Qw]) (by simp;omega)).b
        rw [hdj,ad3] at hrun
        rw [← hrj] at hrun
        have hsl:List.take (own.length - (j + 1)) (List.drop (j + 1) (List.map Uq.v own)) = (own.drop (j + 1)).map Uq.v:=by
          rw [List.take_of_length_le (by simp),List.map_drop]
        have hw2:IntKind.i64.wrap ((j:Int) + 1) = ((j + 1:Nat):Int):=hwj
        simp only [Uq.cells] at hcf
        obtain ⟨i,hi,hnm⟩:=aeC (hw x hxm)
        rcases hag:(own.drop (j + 1)).any (fun y=>y.name == x.name) with _|_
        · rw [hag,if_neg (by decide)] at hrun
          rw [hag] at hcf
          have hva:=Yb x (aiV (hw x hxm))
          simp only [Uq.v,Uq.cells] at hva
          have hcase:(∃ i g e,Ut false [1] (V.str x.name) aah 0 = some (some i)∧(qm g1 g2 g3 g4 g5 g6 g7 g8)[i]? = some (.clo (.n g) [.ptr 8 0])∧EvH C.env g (.sl 1 [V.str x.val]) dk.cells (V.bool true) (Jy.cells e)∧ad3 (own.drop (j + 1)) e = some d)∨(∃ e,Ut false [1] (V.str x.name) aah 0 = some (some 2)∧EvD C.env g3 [.sl 1 [V.str x.val]] dk.cells (V.bool true) (Jy.cells e)∧ad3 (own.drop (j + 1)) e = some d):=by
            rcases hi with ⟨rfl,hnn⟩|⟨rfl,hnn⟩|⟨rfl,hnn⟩|⟨rfl,hnn⟩|⟨rfl,hnn⟩
            · obtain ⟨hok,hrun'⟩:=yk (by rw [yV,if_pos hnn]) hrun
              have hH:=c1 x.val dk hvx
              rw [hok] at hH
              exact .inl ⟨0,g1,_,hnm,rfl,hH,hrun'⟩
            · obtain ⟨hok,hrun'⟩:=yk (by rw [yV,if_neg (by rw [hnn];decide),if_pos hnn]) hrun
              have hH:=c2 x.val dk hvx
              rw [hok] at hH
              exact .inl ⟨1,g2,_,hnm,rfl,hH,hrun'⟩
            · obtain ⟨hok,hrun'⟩:=yk (by rw [yV,if_neg (by rw [hnn];decide),if_neg (by rw [hnn];decide),if_pos hnn]) hrun
              have hH:=c3 x.val dk hvx
              rw [hok] at hH
              exact .inr ⟨_,hnm,hH,hrun'⟩
            · obtain ⟨hok,hrun'⟩:=yk (by rw [yV,if_neg (by rw [hnn];decide),if_neg (by rw [hnn];decide),if_neg (by rw [hnn];decide),if_pos hnn]) hrun
              have hH:=c4 x.val dk
              rw [hok] at hH
              exact .inl ⟨3,g4,_,hnm,rfl,hH,hrun'⟩
            · obtain ⟨hok,hrun'⟩:=yk (by rw [yV,if_neg (by rw [hnn];decide),if_neg (by rw [hnn];decide),if_neg (by rw [hnn];decide),if_neg (by rw [hnn];decide),if_pos hnn]) hrun
              have hH:=c8 x.val dk
              rw [hok] at hH
              exact .inl ⟨7,g8,_,hnm,rfl,hH,hrun'⟩
          clear hi hnm
          rcases hcase with ⟨i,g,e,hnm,hcl,hH,hrun'⟩|⟨e,hnm,hH,hrun'⟩
          · repeat' (first|refine Qp fun K' hK=>?_|refine Qt fun K' hK=>?_|refine Qm 6 (fun _=>false) rfl (Q4) (Q0) fun K' hK=>?_|refine Qn 6 (fun _=>false) rfl (Q4) (Q0) fun K' hK=>?_|refine Qm 17 (fun y=>!decide (y = 6) && !decide (y = 8)) rfl (Q3 _ _) (QZ _ _) fun K' hK=>?_|refine Qn 17 (fun y=>!decide (y = 6) && !decide (y = 8)) rfl (Q3 _ _) (QZ _ _) fun K' hK=>?_|refine Qm 6 (fun _=>false) rfl (Q1) (QY) fun K' hK=>?_|refine Qn 6 (fun _=>false) rfl (Q1) (QY) fun K' hK=>?_|refine Qq ?_|refine Qr ?_|refine Qa ?_|((first|refine Qs ⟨_,rfl,fun hc=>?_,fun hc=>?_⟩|refine QM (fun hc=>?_) (fun hc=>?_)|refine QN (fun hc=>?_) (fun hc=>?_))<;>first|(cases hc;done)|((try simp only [znz] at hc);first|exact znf|skip))|refine Qv ?_|refine Qu ?_|simp (maxSteps:=1000000) only [go_sem,Ym,aad,ep0,e4,hwj,hw2,hsl,Int.toNat_natCast,List.getElem?_map,hgj,Uq.v,Uq.cells,hnm,hcl,List.map_cons,List.map_nil,List.length_cons,List.length_nil,List.take_succ_cons,List.take_zero,Jt,Js,Jr]|(refine hK _ ?_;clear hK K')|apply And.intro|(apply ak5;(focus exact rfl);(focus exact rfl);(focus first|exact hH);(focus exact rfl);(focus exact rfl))|(apply alT;(focus exact rfl);(focus exact rfl);(focus first|exact rfl|decide);(focus first|exact hH);(focus exact rfl);(focus exact rfl);(focus first|exact rfl|decide))|(apply jk;(focus exact rfl);(focus first|exact (Q5 _));(focus exact rfl);(focus exact rfl))|(apply yj;(focus exact rfl);(focus first|exact rfl|decide);(focus first|exact rfl|decide);(focus first|exact (Q5 _));(focus exact rfl);(focus exact rfl);(focus first|exact rfl|decide))|(apply yh;(focus first|exact (Jv _)))|((first|apply Xh|apply Yt);(focus first|exact hva|exact (Yb _ zsd)))|(apply yi;(focus first|exact (Jv _));(focus first|exact rfl|decide))|((first|apply QX|apply Jz);(focus first|exact hcf|exact (Ys _ zsd zsd).b|exact (Jw _ _).b|exact (QP _ _ _ _ zsd zsd zsd).b))|exact zlo|omega|exact zms)
            all_goals first|exact hL3 _ (j + 1,e) (Jp []) ⟨by simp only;omega,hrun'⟩ (by simp only;omega) (Jq [] (by simp only [go_sem,and_true,true_and,implies_true,Option.some.injEq,exists_eq_left',Ql,Qo,aad,ep0,qm];(repeat' (first|rfl|apply And.intro|omega|exact fun h=>h|exact Exists.intro _ rfl))) (by simp only [go_sem,and_true,true_and,implies_true,Option.some.injEq,exists_eq_left',Ql,Qo,aad,ep0,qm,Jy.cells];(repeat' (first|rfl|apply And.intro|omega|exact fun h=>h|exact Exists.intro _ rfl))) (by simp [aad,Jp]) (by simp [aad]) (by omega))
          · have hcl:(qm g1 g2 g3 g4 g5 g6 g7 g8)[2]? = some (.clo (.m g3) [.ptr 6 0]):=rfl
            repeat' (first|refine Qp fun K' hK=>?_|refine Qt fun K' hK=>?_|refine Qm 6 (fun _=>false) rfl (Q4) (Q0) fun K' hK=>?_|refine Qn 6 (fun _=>false) rfl (Q4) (Q0) fun K' hK=>?_|refine Qm 17 (fun y=>!decide (y = 6) && !decide (y = 8)) rfl (Q3 _ _) (QZ _ _) fun K' hK=>?_|refine Qn 17 (fun y=>!decide (y = 6) && !decide (y = 8)) rfl (Q3 _ _) (QZ _ _) fun K' hK=>?_|refine Qm 6 (fun _=>false) rfl (Q1) (QY) fun K' hK=>?_|refine Qn 6 (fun _=>false) rfl (Q1) (QY) fun K' hK=>?_|refine Qq ?_|refine Qr ?_|refine Qa ?_|((first|refine Qs ⟨_,rfl,fun hc=>?_,fun hc=>?_⟩|refine QM (fun hc=>?_) (fun hc=>?_)|refine QN (fun hc=>?_) (fun hc=>?_))<;>first|(cases hc;done)|((try simp only [znz] at hc);first|exact znf|skip))|refine Qv ?_|refine Qu ?_|simp (maxSteps:=1000000) only [go_sem,Ym,aad,ep0,e4,hwj,hw2,hsl,Int.toNat_natCast,List.getElem?_map,hgj,Uq.v,Uq.cells,hnm,hcl,List.map_cons,List.map_nil,List.length_cons,List.length_nil,List.take_succ_cons,List.take_zero,Jt,Js,Jr]|(refine hK _ ?_;clear hK K')|apply And.intro|(apply jk;(focus exact rfl);(focus first|exact hH|exact (Q5 _));(focus exact rfl);(focus exact rfl))|(apply yj;(focus exact rfl);(focus first|exact rfl|decide);(focus first|exact rfl|decide);(focus first|exact hH|exact (Q5 _));(focus exact rfl);(focus exact rfl);(focus first|exact rfl|decide))|(apply yh;(focus first|exact (Jv _)))|((first|apply Xh|apply Yt);(focus first|exact hva|exact (Yb _ zsd)))|(apply yi;(focus first|exact (Jv _));(focus first|exact rfl|decide))|((first|apply QX|apply Jz);(focus first|exact hcf|exact (Ys _ zsd zsd).b|exact (Jw _ _).b|exact (QP _ _ _ _ zsd zsd zsd).b))|exact zlo|omega|exact zms)
            all_goals first|exact hL3 _ (j + 1,e) (Jp []) ⟨by simp only;omega,hrun'⟩ (by simp only;omega) (Jq [] (by simp only [go_sem,and_true,true_and,implies_true,Option.some.injEq,exists_eq_left',Ql,Qo,aad,ep0,qm];(repeat' (first|rfl|apply And.intro|omega|exact fun h=>h|exact Exists.intro _ rfl))) (by simp only [go_sem,and_true,true_and,implies_true,Option.some.injEq,exists_eq_left',Ql,Qo,aad,ep0,qm,Jy.cells];(repeat' (first|rfl|apply And.intro|omega|exact fun h=>h|exact Exists.intro _ rfl))) (by simp [aad,Jp]) (by simp [aad]) (by omega))
        · rw [hag,if_pos rfl] at hrun
          rw [hag] at hcf
          have hrun':=hrun
          repeat' (first|refine Qp fun K' hK=>?_|refine Qt fun K' hK=>?_|refine Qm 6 (fun _=>false) rfl (Q4) (Q0) fun K' hK=>?_|refine Qn 6 (fun _=>false) rfl (Q4) (Q0) fun K' hK=>?_|refine Qm 17 (fun y=>!decide (y = 6) && !decide (y = 8)) rfl (Q3 _ _) (QZ _ _) fun K' hK=>?_|refine Qn 17 (fun y=>!decide (y = 6) && !decide (y = 8)) rfl (Q3 _ _) (QZ _ _) fun K' hK=>?_|refine Qm 6 (fun _=>false) rfl (Q1) (QY) fun K' hK=>?_|refine Qn 6 (fun _=>false) rfl (Q1) (QY) fun K' hK=>?_|refine Qq ?_|refine Qr ?_|refine Qa ?_|((first|refine Qs ⟨_,rfl,fun hc=>?_,fun hc=>?_⟩|refine QM (fun hc=>?_) (fun hc=>?_)|refine QN (fun hc=>?_) (fun hc=>?_))<;>first|(cases hc;done)|((try simp only [znz] at hc);first|exact znf|skip))|refine Qv ?_|refine Qu ?_|simp (maxSteps:=1000000) only [go_sem,Ym,aad,ep0,e4,hwj,hw2,hsl,Int.toNat_natCast,List.getElem?_map,hgj,Uq.v,Uq.cells,Jt,Js,Jr]|(refine hK _ ?_;clear hK K')|apply And.intro|(apply jk;(focus exact rfl);(focus first|exact (Q5 _));(focus exact rfl);(focus exact rfl))|(apply yj;(focus exact rfl);(focus first|exact rfl|decide);(focus first|exact rfl|decide);(focus first|exact (Q5 _));(focus exact rfl);(focus exact rfl);(focus first|exact rfl|decide))|(apply yh;(focus first|exact (Jv _)))|((first|apply Xh|apply Yt);(focus first|exact (Yb _ zsd)))|(apply yi;(focus first|exact (Jv _));(focus first|exact rfl|decide))|((first|apply QX|apply Jz);(focus first|exact hcf|exact (Ys _ zsd zsd).b|exact (Jw _ _).b|exact (QP _ _ _ _ zsd zsd zsd).b))|exact zlo|omega|exact zms)
          all_goals first|exact hL3 _ (j + 1,dk) (Jp []) ⟨by simp only;omega,hrun'⟩ (by simp only;omega) (Jq [] (by simp only [go_sem,and_true,true_and,implies_true,Option.some.injEq,exists_eq_left',Ql,Qo,aad,ep0,qm];(repeat' (first|rfl|apply And.intro|omega|exact fun h=>h|exact Exists.intro _ rfl))) (by simp only [go_sem,and_true,true_and,implies_true,Option.some.injEq,exists_eq_left',Ql,Qo,aad,ep0,qm,Jy.cells];(repeat' (first|rfl|apply And.intro|omega|exact fun h=>h|exact Exists.intro _ rfl))) (by simp [aad,Jp]) (by simp [aad]) (by omega))
    · obtain ⟨hk',hget,hrr⟩:=Yp hdo
      have hwi:=JO (k:=k) (by omega)
      have e3:decide ((k:Int) < ((own.length:Nat):Int)) = true:=by simp;omega
      have hwx:=hw x (List.mem_of_getElem? hget)
      obtain ⟨i,hi,hnm⟩:=aeC hwx
      obtain ⟨fk,cc,hcl⟩:∃ fk cc,(qm g1 g2 g3 g4 g5 g6 g7 g8)[i]? = some (.clo fk cc):=by
        rcases hi with ⟨rfl,_⟩|⟨rfl,_⟩|⟨rfl,_⟩|⟨rfl,_⟩|⟨rfl,_⟩<;>exact ⟨_,_,rfl⟩
      clear hi hwx
      repeat' (first|refine Qp fun K' hK=>?_|refine Qt fun K' hK=>?_|refine Qm 6 (fun _=>false) rfl (Q4) (Q0) fun K' hK=>?_|refine Qn 6 (fun _=>false) rfl (Q4) (Q0) fun K' hK=>?_|refine Qm 17 (fun y=>!decide (y = 6) && !decide (y = 8)) rfl (Q3 _ _) (QZ _ _) fun K' hK=>?_|refine Qn 17 (fun y=>!decide (y = 6) && !decide (y = 8)) rfl (Q3 _ _) (QZ _ _) fun K' hK=>?_|refine Qm 6 (fun _=>false) rfl (Q1) (QY) fun K' hK=>?_|refine Qn 6 (fun _=>false) rfl (Q1) (QY) fun K' hK=>?_|refine Qq ?_|refine Qr ?_|refine Qa ?_|((first|refine Qs ⟨_,rfl,fun hc=>?_,fun hc=>?_⟩|refine QM (fun hc=>?_) (fun hc=>?_)|refine QN (fun hc=>?_) (fun hc=>?_))<;>first|(cases hc;done)|((try simp only [znz] at hc);first|exact znf|skip))|refine Qv ?_|refine Qu ?_|simp (maxSteps:=1000000) only [go_sem,Ym,aad,ep0,e3,hwi,Int.toNat_natCast,List.getElem?_map,hget,Uq.v,Uq.cells,hnm,hcl,Jt,Js,Jr]|(refine hK _ ?_;clear hK K')|apply And.intro|(apply jk;(focus exact rfl);(focus first|exact (Q5 _));(focus exact rfl);(focus exact rfl))|(apply yj;(focus exact rfl);(focus first|exact rfl|decide);(focus first|exact rfl|decide);(focus first|exact (Q5 _));(focus exact rfl);(focus exact rfl);(focus first|exact rfl|decide))|(apply yh;(focus first|exact (Jv _)))|((first|apply Xh|apply Yt);(focus first|exact (Yb _ zsd)))|(apply yi;(focus first|exact (Jv _));(focus first|exact rfl|decide))|((first|apply QX|apply Jz);(focus first|exact (Ys _ zsd zsd).b|exact (Jw _ _).b|exact (QP _ _ _ _ zsd zsd zsd).b))|exact zlo|omega|exact zms)
      all_goals first|exact hL2 _ (k + 1) (Jp []) (by omega) (by omega) (Jq [] (by simp only [go_sem,and_true,true_and,implies_true,Option.some.injEq,exists_eq_left',Ql,Qo,aad,ep0,qm];(repeat' (first|rfl|apply And.intro|omega|exact fun h=>h|exact Exists.intro _ rfl))) (by simp only [go_sem,and_true,true_and,implies_true,Option.some.injEq,exists_eq_left',Ql,Qo,aad,ep0,qm,Jy.cells];(repeat' (first|rfl|apply And.intro|omega|exact fun h=>h|exact Exists.intro _ rfl))) (by simp [aad,Jp]) (by simp [aad]) (by omega))
  · obtain ⟨hk',hget,hrr⟩:=Yp hdr
    have hwi:=JO (k:=k) (by omega)
    have e1:decide ((k:Int) < ((l.length:Nat):Int)) = true:=by simp;omega
    have hot:=aja (name:=name) hget
    have hol:=ajb (l.take k) name
    have hlt:(l.take k).length≤k:=by simp;omega
    rcases hx:x.sec == name with _|_
    · rw [hx,if_neg (by decide)] at hot
      repeat' (first|refine Qp fun K' hK=>?_|refine Qt fun K' hK=>?_|refine Qm 6 (fun _=>false) rfl (Q4) (Q0) fun K' hK=>?_|refine Qn 6 (fun _=>false) rfl (Q4) (Q0) fun K' hK=>?_|refine Qm 17 (fun y=>!decide (y = 6) && !decide (y = 8)) rfl (Q3 _ _) (QZ _ _) fun K' hK=>?_|refine Qn 17 (fun y=>!decide (y = 6) && !decide (y = 8)) rfl (Q3 _ _) (QZ _ _) fun K' hK=>?_|refine Qm 6 (fun _=>false) rfl (Q1) (QY) fun K' hK=>?_|refine Qn 6 (fun _=>false) rfl (Q1) (QY) fun K' hK=>?_|refine Qq ?_|refine Qr ?_|refine Qa ?_|((first|refine Qs ⟨_,rfl,fun hc=>?_,fun hc=>?_⟩|refine QM (fun hc=>?_) (fun hc=>?_)|refine QN (fun hc=>?_) (fun hc=>?_))<;>first|(cases hc;done)|((try simp only [znz] at hc);first|exact znf|skip))|refine Qv ?_|refine Qu ?_|simp (maxSteps:=1000000) only [go_sem,Ym,fsO,ep0,e1,hwi,Int.toNat_natCast,List.getElem?_map,hget,Uq.v,Uq.cells,hx,Jt,Js,Jr]|(refine hK _ ?_;clear hK K')|apply And.intro|(apply jk;(focus exact rfl);(focus first|exact (Q5 _));(focus exact rfl);(focus exact rfl))|(apply yj;(focus exact rfl);(focus first|exact rfl|decide);(focus first|exact rfl|decide);(focus first|exact (Q5 _));(focus exact rfl);(focus exact rfl);(focus first|exact rfl|decide))|(apply yh;(focus first|exact (Jv _)))|((first|apply Xh|apply Yt);(focus first|exact (Yb _ zsd)))|(apply yi;(focus first|exact (Jv _));(focus first|exact rfl|decide))|((first|apply QX|apply Jz);(focus first|exact (Ys _ zsd zsd).b|exact (Jw _ _).b|exact (QP _ _ _ _ zsd zsd zsd).b))|exact zlo|omega|exact zms)
      all_goals first|exact hL _ (k + 1) (Jp []) (by omega) (by omega) (by rw [hot];exact Jq [] (by simp only [go_sem,and_true,true_and,implies_true,Option.some.injEq,exists_eq_left',Ql,Qo,fsO,ep0];(repeat' (first|rfl|apply And.intro|omega|exact fun h=>h|exact Exists.intro _ rfl))) (by simp only [go_sem,and_true,true_and,implies_true,Option.some.injEq,exists_eq_left',Ql,Qo,fsO,ep0];(repeat' (first|rfl|apply And.intro|omega|exact fun h=>h|exact Exists.intro _ rfl))) (by simp [fsO,Jp]) (by simp [fsO]) (by omega))
    · rw [hx,if_pos rfl] at hot
      generalize aco (l.take k) name = own at *
      repeat' (first|refine Qp fun K' hK=>?_|refine Qt fun K' hK=>?_|refine Qm 6 (fun _=>false) rfl (Q4) (Q0) fun K' hK=>?_|refine Qn 6 (fun _=>false) rfl (Q4) (Q0) fun K' hK=>?_|refine Qm 17 (fun y=>!decide (y = 6) && !decide (y = 8)) rfl (Q3 _ _) (QZ _ _) fun K' hK=>?_|refine Qn 17 (fun y=>!decide (y = 6) && !decide (y = 8)) rfl (Q3 _ _) (QZ _ _) fun K' hK=>?_|refine Qm 6 (fun _=>false) rfl (Q1) (QY) fun K' hK=>?_|refine Qn 6 (fun _=>false) rfl (Q1) (QY) fun K' hK=>?_|refine Qq ?_|refine Qr ?_|refine Qa ?_|((first|refine Qs ⟨_,rfl,fun hc=>?_,fun hc=>?_⟩|refine QM (fun hc=>?_) (fun hc=>?_)|refine QN (fun hc=>?_) (fun hc=>?_))<;>first|(cases hc;done)|((try simp only [znz] at hc);first|exact znf|skip))|refine Qv ?_|refine Qu ?_|simp (maxSteps:=1000000) only [go_sem,Ym,fsO,ep0,e1,hwi,Int.toNat_natCast,List.getElem?_map,hget,Uq.v,Uq.cells,hx,Jt,Js,Jr]|(refine hK _ ?_;clear hK K')|apply And.intro|(apply jk;(focus exact rfl);(focus first|exact (Q5 _));(focus exact rfl);(focus exact rfl))|(apply yj;(focus exact rfl);(focus first|exact rfl|decide);(focus first|exact rfl|decide);(focus first|exact (Q5 _));(focus exact rfl);(focus exact rfl);(focus first|exact rfl|decide))|(apply yh;(focus first|exact (Jv _)))|((first|apply Xh|apply Yt);(focus first|exact (Yb _ zsd)))|(apply yi;(focus first|exact (Jv _));(focus first|exact rfl|decide))|((first|apply QX|apply Jz);(focus first|exact (Ys _ zsd zsd).b|exact (Jw _ _).b|exact (QP _ _ _ _ zsd zsd zsd).b))|exact zlo|omega|exact zms)
      have hap:List.take own.length (List.map Uq.v own)++[V.agg [V.str x.sec,V.str x.name,V.str x.val,V.int x.line]] = (own++[x]).map Uq.v:=by
        rw [List.take_of_length_le (by simp),List.map_append];rfl
      have hln:own.length + 1 = (own++[x]).length:=by simp
      rw [hap,hln]
      all_goals first|exact hL _ (k + 1) (Jp [(1,12006)]) (by omega) (by omega) (by rw [hot];exact Jq [(1,12006)] (by simp only [go_sem,and_true,true_and,implies_true,Option.some.injEq,exists_eq_left',Ql,Qo,fsO,ep0];(repeat' (first|rfl|apply And.intro|omega|exact fun h=>h|exact Exists.intro _ rfl))) (by simp only [go_sem,and_true,true_and,implies_true,Option.some.injEq,exists_eq_left',Ql,Qo,fsO,ep0];(repeat' (first|rfl|apply And.intro|omega|exact fun h=>h|exact Exists.intro _ rfl))) (by simp [fsO,Jp]) (by simp [fsO];omega) (by omega))
end Av
end
