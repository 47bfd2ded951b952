/- A contract serves for arguments that say more: a nil slice is a slice of nothing. -/
import Derived.Test.YtjnbmkoekngljaaGreatDoorK14
set_option linter.unusedVariables false
set_option linter.unusedSimpArgs false
section
namespace Av
open Go
def LeV (x y:V):Prop:=∀ (w:World) (Z:Nat→Nat→Prop) (μ:Nat→Option Cn) (v:Value),Rep w Z μ v x→Rep w Z μ v y
theorem LeV.refl (x:V):LeV x x:=fun _ _ _ _ h=>h
theorem LeV.nil (sz:Nat):LeV (.sc (.slice none 0 0)) (.sl sz []):=fun _ _ _ _ h=>by cases h;exact .sl0
theorem LeV.agg {xs ys:List V} (hl:xs.length = ys.length) (h:∀ j (h1:j < xs.length) (h2:j < ys.length),LeV xs[j] ys[j]):LeV (.agg xs) (.agg ys):=fun w Z μ v hv=>by
 cases hv with
 | agg h1 h2 h3=>exact .agg (h1.trans hl) h2 fun j hj hj'=>h j (by omega) hj _ _ _ _ (h3 j (by omega) hj')
theorem EvB.le {Γ:Env} {f:FuncId} {args args':List V} {res:V} {B:Option (List Nat)} (h:EvB Γ f args res B) (hl:args'.length = args.length)
  (hr:∀ i (h1:i < args'.length) (h2:i < args.length),LeV args'[i] args[i]):EvB Γ f args' res B :=
 ⟨fun C cargs h1 h2 h3 h4 h5 h6 h7=>h.ev C cargs h1 h2 h3 h4 h5 (h6.trans hl) fun i hi hi'=>hr i (by omega) hi _ _ _ _ (h7 i (by omega) hi'),h.cl,h.sh⟩
section
variable {Γ:Env} {A W:Nat→Bool} {b:Nat} {s:St} {d:Option Nat} {f:FuncId} {acts:List V} {res:V} {J:St→Prop} {cs cs2:List V} {a:Nat}
theorem axM (l:List Nat) (hA:A a = true) (hW:W a = true) (ha:s.o a = some (.box true cs)) (h:EvD Γ f (Xh (YF A s.o) acts) cs res cs2) (hc:Q3 (YF A s.o) (some l) acts) (hal:a ∉ l) (hl:∀ x∈l,A x = true∧W x = true) (hab:a < b)
  (hk:J { t:=(s.put d res).t,o:=upd (acU (some l) [a] s.o) a (some (.box true cs2)),n:=s.n }):Yf Γ A W b s d f (.ptr a 0 :: acts) J:=by
 have hra:YF A s.o a = some (.box true cs):=by rw [aib,if_pos hA,ha]
 refine ⟨_,_,_,_,[a],some l,h.ev,⟨?_,XR _ [a] l ?_ acts hc⟩,⟨⟨_,hra,Qg _ _ _ _ h.c1⟩,trivial⟩,by simp,by simpa using ⟨hab,hW⟩,Nat.le_refl _,by simp [KK],fun h=>by simp at h,fun l' hl'=>by cases hl';exact hl,?_⟩
 ·simp [conv]
 ·intro x hx hxa
  simp only [List.mem_singleton] at hxa
  subst hxa;exact hal hx
 ·rw [YP _ _ h.cl]
  simp only [WT,WV,Ob.ren,J4 _ _ h.c2]
  exact hk
theorem YV {x:V} {args:List V} {okf:Option (List Nat)→Prop} (ha:s.o a = some (.box true cs)) (hA:A a = true) (hW:W a = true) (h:EvD Γ f args cs res cs2) (hal:(JR acts).contains a = false) (hab:decide (a < b) = true) (hl:((JR acts).all fun x=>A x && W x) = true) (hc:Q3 (YF A s.o) (some (JR acts)) acts)
  (hk:J { t:=(s.put d res).t,o:=upd (acU (some (JR acts)) [a] s.o) a (some (.box true cs2)),n:=s.n }):anY Γ A W b s d f (.ptr a 0 :: acts) (x :: args) okf J:=by
 intro h1 _
 simp only [Xh,List.cons.injEq] at h1
 obtain ⟨_,rfl⟩:=h1
 exact axM _ hA hW ha h hc (by simpa using hal) (fun x hx=>by simpa using List.all_eq_true.1 hl x hx) (of_decide_eq_true hab) hk
end
end Av
end
section
namespace Av
open Go
section
variable {Γ:Env} {b:Nat} {r:List AO} {s:St} {d:Option Nat} {f g:FuncId} {acts args:List V} {okf:Option (List Nat)→Prop} {res x:V} {K:St→Prop} {cs cs2 ds ds2:List V} {a e off:Nat}
end
section
variable {Γ:Env} {b:Nat} {r:List AO} {s:St} {d:Option Nat} {f:FuncId} {acts args:List V} {okf:Option (List Nat)→Prop} {res:V} {K:St→Prop} {xs ys:List V} {a p n sz:Nat}
end
end Av
end
section
namespace Av
open Go
section
variable {Γ:Env} {A W:Nat→Bool} {b:Nat} {r:List AO} {s:St} {d:Option Nat} {f:FuncId} {args:List V} {okf:Option (List Nat)→Prop} {J K:St→Prop} {a p n:Nat} {l t:List UInt8}
end
end Av
end
section
namespace Av
open Go
theorem Ev.shut {Γ:Env} {f:FuncId} {args:List V} {ins:List Ob} {res res2:V} {outs outs2:List Ob} {br:List Nat} {B:Option (List Nat)} (h:Ev Γ f args ins res outs)
  (hc:conv (fun k=>outs[k]?) br B res res2) (hl:avz (fun k=>outs[k]?) br B br outs2) (hn:br.Nodup) (hf:br.take ins.length = List.range ins.length):Ev Γ f args ins res2 outs2:=by
 intro C cargs hP hm hmu hg hF hsz hrep
 refine (h C cargs hP hm hmu hg hF hsz hrep).mono ?_
 rintro e w' ⟨v,Z',μ',rfl,hr,hg',hmu'⟩
 obtain ⟨g2,h2,_⟩:=hg'.close hn hl (by rw [hm];exact hf)
 exact ⟨v,_,_,rfl,jQ hg' br B _ _ _ _ (Nat.le_refl _) hr hc,g2,h2⟩
structure EvO (Γ:Env) (f:FuncId) (args cs:List V) (s1 s2:Nat) (xs ys cs2:List V):Prop where
 ev:Ev Γ f (.ptr 0 0 :: args) [.box true cs] (.agg [.hd 1 0 xs.length,.hd 2 0 ys.length]) [.box true cs2,.buf true s1 xs,.buf true s2 ys]
 c1:closedL cs
 c2:closedL cs2
 ca:closedL args
theorem EvO.d {Γ:Env} {f:FuncId} {args cs:List V} {s1 s2:Nat} {xs ys cs2:List V} (h:EvO Γ f args cs s1 s2 xs ys cs2):EvD Γ f args cs (.agg [.sl s1 xs,.sl s2 ys]) cs2:=by
 refine ⟨h.ev.shut (br:=[0]) (B:=none) ?_ ⟨⟨_,rfl,fun h=>h,Qg _ _ _ _ h.c2⟩,trivial⟩ (by simp) rfl,?_,h.c1,h.c2⟩
 ·simp [conv,Jd,okB]
 ·simp only [V.closed,closedL,and_self]
section
variable {Γ:Env} {b:Nat} {r:List AO} {s:St} {d:Option Nat} {f:FuncId} {args acts:List V} {cs cs2 xs ys:List V} {s1 s2:Nat} {K:St→Prop} {okf:Option (List Nat)→Prop} {a:Nat}
end
end Av
end
section
namespace Av
open Go
end Av
end
section
namespace Av
open Go
def ayq (a:Nat):V→V
 | .ptr _ _=>.ptr a 0
 | v=>v
attribute [go_sem] ayq
section
variable {Γ:Env} {A W:Nat→Bool} {b:Nat} {s:St} {d:Option Nat} {f:FuncId} {acts args:List V} {okf:Option (List Nat)→Prop} {J:St→Prop} {a p n:Nat}
theorem wR {cs:List V} (h:EvR Γ f args cs) (hl:((JR acts).all fun x=>A x && W x) = true) (hc:Q3 (YF A s.o) (some (JR acts)) acts)
  (hk:J { t:=(s.put d (.ptr b 0)).t,o:=upd (acU (some (JR acts)) [] s.o) b (some (.box true cs)),n:=s.n }):anY Γ A W b s d f acts args okf J:=by
 rintro rfl _
 refine ⟨_,_,_,_,[],some (JR acts),h.ev,Y7 _ _ _ hc,trivial,List.nodup_nil,fun x hx=>by simp at hx,by simp,by simp [KK],fun h=>by simp at h,fun l h x hx=>(by cases h;simpa using List.all_eq_true.1 hl x hx),?_⟩
 simp only [WT,WV,Ob.ren,J4 _ _ h.c1]
 exact hk
end
section
variable {Γ:Env} {A W:Nat→Bool} {b:Nat} {r:List AO} {s:St} {d:Option Nat} {f:FuncId} {acts args:List V} {okf:Option (List Nat)→Prop} {J K:St→Prop} {sx:Nat} {xs:List V}
end
end Av
end
section
namespace Av
open Go
def leL:List V→List V→Prop
 | [],[]=>True
 | x :: r,y :: r'=>LeV x y∧leL r r'
 | _,_=>False
def leC:List V→List V→Prop
 | [],[]=>True
 | x :: r,y :: r'=>leL x.cells y.cells∧leC r r'
 | _,_=>False
theorem anj:∀ {xs ys:List V},leL xs ys→xs.length = ys.length∧∀ i (h:i < xs.length) (h':i < ys.length),LeV xs[i] ys[i]
 | [],[],_=>⟨rfl,fun i h=>by simp at h⟩
 | x :: r,y :: r',h=>by
   obtain ⟨h1,h2⟩:=anj h.2
   refine ⟨by simp [h1],fun i hi hi'=>?_⟩
   cases i with
   | zero=>exact h.1
   | succ i=>exact h2 i (by simpa using hi) (by simpa using hi')
theorem atp:∀ {xs ys:List V},leC xs ys→xs.length = ys.length∧∀ i (h:i < xs.length) (h':i < ys.length),leL xs[i].cells ys[i].cells
 | [],[],_=>⟨rfl,fun i h=>by simp at h⟩
 | x :: r,y :: r',h=>by
   obtain ⟨h1,h2⟩:=atp h.2
   refine ⟨by simp [h1],fun i hi hi'=>?_⟩
   cases i with
   | zero=>exact h.1
   | succ i=>exact h2 i (by simpa using hi) (by simpa using hi')
theorem ani:∀ xs:List V,leL xs xs
 | []=>trivial
 | x :: r=>⟨LeV.refl x,ani r⟩
theorem aqG:∀ xs:List V,leC xs xs
 | []=>trivial
 | x :: r=>⟨ani _,aqG r⟩
theorem BOk.le {w:World} {Z:Nat→Nat→Prop} {ν:Nat→Option Cn} {c:Cn} {wr:Bool} {sz:Nat} {xs ys:List V} (h:BOk w Z ν c wr sz xs) (hl:leC xs ys):BOk w Z ν c wr sz ys:=by
 obtain ⟨l1,l2⟩:=atp hl
 refine ⟨by rw [← l1];exact h.1,fun hv=>?_⟩
 obtain ⟨h0,h1,h2,h3,h4,cs,ty,fr,hh,h5,h6,h7⟩:=h.2 hv
 refine ⟨h0,h1,h2,h3,fun i hi=>?_,cs,ty,fr,hh,h5,h6,fun i hi j hj=>?_⟩
 ·rw [← (anj (l2 i (by omega) hi)).1];exact h4 i (by omega)
 ·obtain ⟨m1,m2⟩:=anj (l2 i (by omega) hi)
  obtain ⟨v,e1,e2,e3⟩:=h7 i (by omega) j (by omega)
  exact ⟨v,e1,e2,m2 j (by omega) hj _ _ _ _ e3⟩
section
variable {C:Ctx} {nt n:Nat} {s:St} {K:St→Prop} {E:Nat→St→Prop} {R:St→Prop}
end
def LeO:Ob→Ob→Prop
 | .buf wr s xs,.buf wr' s' ys=>wr = wr'∧s = s'∧leC xs ys
 | .obuf wr s xs,.obuf wr' s' ys=>wr = wr'∧s = s'∧leC xs ys
 | .box wr xs,.box wr' ys=>wr = wr'∧leL xs ys
 | x,y=>x = y
theorem LeO.refl (x:Ob):LeO x x:=by
 cases x<;>first|exact rfl|exact ⟨rfl,rfl,aqG _⟩|exact ⟨rfl,ani _⟩
theorem LeO.ok {w:World} {Z:Nat→Nat→Prop} {μ:Nat→Option Cn} {c:Cn} {x y:Ob} (h:LeO x y) (hk:acM w Z μ c x):acM w Z μ c y∧(y.live c→x.live c):=by
 cases x<;>cases y<;>first
  | (cases h;done)
  | (cases h;exact ⟨hk,fun h=>h⟩)
  | (obtain ⟨rfl,rfl,hl⟩:=h;exact ⟨BOk.le hk hl,fun h=>h⟩)
  | (obtain ⟨rfl,hl⟩:=h
     obtain ⟨hv,⟨cs,ty,hh,hs,hr⟩,hz⟩:=hk
     obtain ⟨l1,l2⟩:=anj hl
     exact ⟨⟨hv,⟨cs,ty,hh,by omega,fun j h h'=>⟨l2 j (by omega) h _ _ _ _ (hr j (by omega) h').1,(hr j (by omega) h').2⟩⟩,hz⟩,fun h=>h⟩)
structure Le (s s2:St):Prop where
 t:∀ i,LeV (s.t i) (s2.t i)
 o:∀ a y,s2.o a = some y→∃ x,s.o a = some x∧LeO x y
 n:s.n = s2.n
theorem Le.refl (s:St):Le s s:=⟨fun _=>LeV.refl _,fun a y h=>⟨y,h,LeO.refl y⟩,rfl⟩
theorem Le.trans {s s2 s3:St} (h:Le s s2) (h':Le s2 s3) (hO:∀ x y z,LeO x y→LeO y z→LeO x z):Le s s3 :=
 ⟨fun i w Z μ v hv=>h'.t i _ _ _ _ (h.t i _ _ _ _ hv),fun a y hy=>let ⟨x,h1,h2⟩:=h'.o a y hy;let ⟨z,h3,h4⟩:=h.o a x h1;⟨z,h3,hO _ _ _ h4 h2⟩,h.n.trans h'.n⟩
theorem Le.objs {t:Nat→V} {o o2:Nat→Option Ob} {n:Nat} (h:∀ a y,o2 a = some y→∃ x,o a = some x∧LeO x y):Le { t:=t,o:=o,n:=n } { t:=t,o:=o2,n:=n }:=⟨fun _=>LeV.refl _,h,rfl⟩
theorem Le.upd {t:Nat→V} {o:Nat→Option Ob} {n a:Nat} {x y:Ob} (ho:o a = some x) (h:LeO x y):Le { t:=t,o:=o,n:=n } { t:=t,o:=upd o a (some y),n:=n } :=
 Le.objs fun b z hz=>by
  by_cases hb:b = a
  ·subst hb;rw [Qr] at hz;cases hz;exact ⟨x,ho,h⟩
  ·rw [Jo _ _ hb] at hz;exact ⟨z,hz,LeO.refl z⟩
theorem Sim.le {C:Ctx} {nt n:Nat} {s s2:St} {a:Act} {w:World} (h:Sim C nt n s a w) (hl:Le s s2):Sim C nt n s2 a w:=by
 obtain ⟨Z,μ,hg,ht,hf,hm,hd,hn⟩:=h
 refine ⟨Z,μ,⟨fun b y hb=>?_,fun b d p q e f hbd hp hq he hf lp lq=>?_,hg.zlt,hg.grow,hg.frame,hg.zsub,hg.zsup,hg.zkeep,hg.fix,hg.oo⟩,fun i=>hl.t i _ _ _ _ (ht i),hf,hm,hd,hn⟩
 ·obtain ⟨x,h1,h2⟩:=hl.o b y hb
  obtain ⟨c,hm,hk,hv⟩:=hg.ob b x h1
  obtain ⟨k1,k2⟩:=h2.ok hk
  exact ⟨c,hm,k1,fun hy=>hv (k2 hy)⟩
 ·obtain ⟨x,h1,h2⟩:=hl.o b p hp
  obtain ⟨x',h1',h2'⟩:=hl.o d q hq
  obtain ⟨c,hm,hk,_⟩:=hg.ob b x h1
  obtain ⟨c',hm',hk',_⟩:=hg.ob d x' h1'
  have e1:c = e:=by rw [hm] at he;cases he;rfl
  have e2:c' = f:=by rw [hm'] at hf;cases hf;rfl
  subst e1;subst e2
  exact hg.sep b d x x' _ _ hbd h1 h1' hm hm' ((h2.ok hk).2 lp) ((h2'.ok hk').2 lq)
section
variable {C:Ctx} {nt:Nat} {s:St} {K:St→Prop} {E:Nat→St→Prop} {R:St→Prop}
end
end Av
end
section
namespace Av
open Go
theorem EvP.shut {Γ:Env} {f:FuncId} {args:List V} {ins:List Ob} {Q Q2:V→List Ob→Prop} (h:EvP Γ f args ins Q)
  (hq:∀ res outs,Q res outs→∃ res2 outs2 br B,Q2 res2 outs2∧conv (fun k=>outs[k]?) br B res res2∧avz (fun k=>outs[k]?) br B br outs2∧br.Nodup∧br.take ins.length = List.range ins.length):EvP Γ f args ins Q2:=by
 intro C cargs hP hm hmu hg hF hsz hrep
 refine (h C cargs hP hm hmu hg hF hsz hrep).mono ?_
 rintro e w' ⟨res,outs,hQ,v,Z',μ',rfl,hr,hg',hmu'⟩
 obtain ⟨res2,outs2,br,B,h2,hc,hl,hn,hf⟩:=hq res outs hQ
 obtain ⟨g2,h3,_⟩:=hg'.close hn hl (by rw [hm];exact hf)
 exact ⟨res2,outs2,h2,v,_,_,rfl,jQ hg' br B _ _ _ _ (Nat.le_refl _) hr hc,g2,h3⟩
structure EvK (Γ:Env) (f:FuncId) (args cs:List V) (Q:V→List V→Prop):Prop where
 ev:EvP Γ f (.ptr 0 0 :: args) [.box true cs] (fun r o=>∃ cs2,o = [.box true cs2]∧Q r cs2)
 c1:closedL cs
 cq:∀ r cs2,Q r cs2→r.closed∧closedL cs2
theorem EvD.k {Γ:Env} {f:FuncId} {args cs cs2:List V} {res:V} {Q:V→List V→Prop} (h:EvD Γ f args cs res cs2) (hq:Q res cs2) (hc:∀ r cs2,Q r cs2→r.closed∧closedL cs2):EvK Γ f args cs Q :=
 ⟨h.ev.p.weaken fun r o ⟨h1,h2⟩=>⟨cs2,h2,h1 ▸ hq⟩,h.c1,hc⟩
theorem EvK.weaken {Γ:Env} {f:FuncId} {args cs:List V} {Q Q':V→List V→Prop} (h:EvK Γ f args cs Q) (hq:∀ r c,Q r c→Q' r c) (hc:∀ r cs2,Q' r cs2→r.closed∧closedL cs2):EvK Γ f args cs Q' :=
 ⟨h.ev.weaken fun r o ⟨c,h1,h2⟩=>⟨c,h1,hq _ _ h2⟩,h.c1,hc⟩
section
variable {Γ:Env} {b:Nat} {r:List AO} {s:St} {d:Option Nat} {f:FuncId} {acts cs:List V} {Q:V→List V→Prop} {K:St→Prop} {a:Nat}
end
section
variable {Γ:Env} {b:Nat} {r:List AO} {s:St} {d:Option Nat} {f:FuncId} {acts args cs:List V} {Q:V→List Ob→Prop} {K:St→Prop} {okf:Option (List Nat)→Prop} {a:Nat}
end
section
variable {C:Ctx} {nt:Nat} {s:St} {K:St→Prop} {E:Nat→St→Prop} {R:St→Prop}
end
end Av
end
section
namespace Av
open Go
structure EvF (Γ:Env) (f:FuncId) (off:Nat) (args cs:List V) (res:V) (cs2:List V):Prop where
 ev:Ev Γ f (.ptr 0 off :: args) [.box true cs] res [.box true cs2]
 cl:res.closed
 c1:closedL cs
 c2:closedL cs2
structure EvH (Γ:Env) (f:FuncId) (x:V) (cs:List V) (res:V) (cs2:List V):Prop where
 ev:Ev Γ f [x,.ptr 1 0] [.box true cs,.box true [.ptr 0 0]] res [.box true cs2,.box true [.ptr 0 0]]
 cl:res.closed
 c1:closedL cs
 c2:closedL cs2
structure EvJ (Γ:Env) (f:FuncId) (cs ks vs:List V) (c0:Nat):Prop where
 ev:Ev Γ f [.ptr 0 0] [.box true cs] (.mp 1) [.box true cs,.map ks vs c0,.box true [.ptr 0 0]]
 c1:closedL cs
section
variable {Γ:Env} {A W:Nat→Bool} {b:Nat} {r:List AO} {s:St} {d:Option Nat} {f:FuncId} {acts args:List V} {okf:Option (List Nat)→Prop} {x y z res:V} {J K:St→Prop} {cs cs2 ks vs:List V} {a p off c0:Nat}
theorem ayt {x a p n:Nat} {o:Nat→Option Ob}:acU (some [x]) [a,p] o n = if n = x then (if x = a then o n else if x = p then o n else (o n).map Ob.frz) else o n:=by
 simp only [acU,List.mem_singleton,List.mem_cons,List.not_mem_nil,or_false]
 by_cases h1:n = x
 ·subst h1
  by_cases h2:n = a<;>by_cases h3:n = p<;>simp [h2,h3]
 ·simp [h1]
theorem ays {x n:Nat} {o:Nat→Option Ob}:acU (some [x]) [] o n = if n = x then (o n).map Ob.frz else o n:=by
 simp only [acU,List.mem_cons,List.not_mem_nil,or_false,not_false_eq_true,and_true]
attribute [go_sem] ayt ays
theorem aua {args:List V} (h:EvC Γ f args res) (hc:okf (some (JR acts))) (hk:x8 Γ (b + KK) r { t:=(s.put d res).t,o:=acU (some (JR acts)) [] s.o,n:=s.n } K):arj Γ b r s d f acts args okf K:=by
 rintro rfl rfl
 refine WL ⟨_,_,_,_,[],some (JR acts),h.1,Y7 _ _ _ hc,trivial,List.nodup_nil,fun x hx=>by simp at hx,by simp,by simp [KK],fun h=>by simp at h,?_⟩
 simp only [WT,WV,YP _ _ h.2]
 exact hk
theorem avU (ha:s.o a = some (.box true cs)) (h:EvF Γ f off args cs res cs2) (hal:(JR acts).contains a = false) (hab:decide (a < b) = true) (hc:Q3 s.o (some (JR acts)) acts)
  (hk:x8 Γ (b + KK) r { t:=(s.put d res).t,o:=upd (acU (some (JR acts)) [a] s.o) a (some (.box true cs2)),n:=s.n } K):arj Γ b r s d f (.ptr a off :: acts) (x :: args) okf K:=by
 intro h1 _
 simp only [Xh,List.cons.injEq] at h1
 obtain ⟨_,rfl⟩:=h1
 have hal':a ∉ JR acts:=by simpa using hal
 refine WL ⟨_,_,_,_,[a],some (JR acts),h.ev,⟨?_,XR s.o [a] _ ?_ acts hc⟩,⟨⟨_,ha,Qg _ _ _ _ h.c1⟩,trivial⟩,by simp,by simpa using of_decide_eq_true hab,Nat.le_refl _,by simp [KK],fun h=>by simp at h,?_⟩
 ·simp [conv]
 ·intro x hx hxa
  simp only [List.mem_singleton] at hxa
  subst hxa;exact hal' hx
 ·rw [YP _ _ h.cl]
  simp only [WT,WV,Ob.ren,J4 _ _ h.c2]
  exact hk
theorem avT (hp:s.o p = some (.box true [.ptr a 0])) (ha:s.o a = some (.box true cs)) (h:EvH Γ f y cs res cs2) (hal:(!(JR [x]).contains a && !(JR [x]).contains p) = true) (hab:decide (a≠p∧a < b∧p < b) = true) (hc:Q3 s.o (some (JR [x])) [x])
  (hk:x8 Γ (b + KK) r { t:=(s.put d res).t,o:=upd (upd (acU (some (JR [x])) [a,p] s.o) p (some (.box true [.ptr a 0]))) a (some (.box true cs2)),n:=s.n } K):arj Γ b r s d f [x,.ptr p 0] [y,z] okf K:=by
 intro h1 _
 simp only [Xh,List.cons.injEq] at h1
 obtain ⟨rfl,_⟩:=h1
 obtain ⟨e1,e2,e3⟩:=of_decide_eq_true hab
 have hal':a ∉ JR [x]∧p ∉ JR [x]:=by simpa using hal
 have hx:=XR s.o [a,p] _ (fun y hy hya=>by
  simp only [List.mem_cons,List.not_mem_nil,or_false] at hya
  rcases hya with rfl|rfl
  ·exact hal'.1 hy
  ·exact hal'.2 hy) [x] hc
 refine WL ⟨_,_,_,_,[a,p],some (JR [x]),h.ev,⟨hx.1,?_,trivial⟩,⟨⟨_,ha,Qg _ _ _ _ h.c1⟩,⟨_,hp,?_⟩,trivial⟩,by simpa using e1,?_,Nat.le_refl _,by simp [KK],fun h=>by simp at h,?_⟩
 ·simp [conv]
 ·show Jd _ _ _ _ _
  simp [Jd,conv]
 ·intro q hq
  simp only [List.mem_cons,List.not_mem_nil,or_false] at hq
  rcases hq with rfl|rfl<;>assumption
 ·rw [YP _ _ h.cl]
  simp only [WT,WV,Ob.ren,J4 _ _ h.c2,vO,V.ren,sig]
  exact hk
theorem auc (hp:s.o p = some (.box true [.ptr a 0])) (ha:s.o a = some (.box true cs)) (hA:(A a && A p && W a && W p) = true) (h:EvH Γ f y cs res cs2) (hal:(!(JR [x]).contains a && !(JR [x]).contains p) = true) (hab:decide (a≠p∧a < b∧p < b) = true) (hl:((JR [x]).all fun x=>A x && W x) = true) (hc:Q3 (YF A s.o) (some (JR [x])) [x])
  (hk:J { t:=(s.put d res).t,o:=upd (upd (acU (some (JR [x])) [a,p] s.o) p (some (.box true [.ptr a 0]))) a (some (.box true cs2)),n:=s.n }):anY Γ A W b s d f [x,.ptr p 0] [y,z] okf J:=by
 intro h1 _
 simp only [Xh,List.cons.injEq] at h1
 obtain ⟨rfl,_⟩:=h1
 obtain ⟨e1,e2,e3⟩:=of_decide_eq_true hab
 have hal':a ∉ JR [x]∧p ∉ JR [x]:=by simpa using hal
 simp only [Bool.and_eq_true] at hA
 obtain ⟨⟨⟨A1,A2⟩,W1⟩,W2⟩:=hA
 have hra:YF A s.o a = some (.box true cs):=by rw [aib,if_pos A1,ha]
 have hrp:YF A s.o p = some (.box true [.ptr a 0]):=by rw [aib,if_pos A2,hp]
 have hx:=XR (YF A s.o) [a,p] _ (fun y hy hya=>by
  simp only [List.mem_cons,List.not_mem_nil,or_false] at hya
  rcases hya with rfl|rfl
  ·exact hal'.1 hy
  ·exact hal'.2 hy) [x] hc
 refine ⟨_,_,_,_,[a,p],some (JR [x]),h.ev,⟨hx.1,?_,trivial⟩,⟨⟨_,hra,Qg _ _ _ _ h.c1⟩,⟨_,hrp,?_⟩,trivial⟩,by simpa using e1,?_,Nat.le_refl _,by simp [KK],fun h=>by simp at h,fun l' hl'=>by
  cases hl'
  exact fun q hq=>by simpa using List.all_eq_true.1 hl q hq,?_⟩
 ·simp [conv]
 ·show Jd _ _ _ _ _
  simp [Jd,conv]
 ·intro q hq
  simp only [List.mem_cons,List.not_mem_nil,or_false] at hq
  rcases hq with rfl|rfl
  ·exact ⟨e2,W1⟩
  ·exact ⟨e3,W2⟩
 ·rw [YP _ _ h.cl]
  simp only [WT,WV,Ob.ren,J4 _ _ h.c2,vO,V.ren,sig]
  exact hk
theorem avS (ha:s.o a = some (.box true cs)) (h:EvJ Γ f cs ks vs c0) (hab:decide (a < b) = true)
  (hk:x8 Γ (b + KK) r { t:=(s.put d (.mp b)).t,o:=upd (upd (upd s.o (b + 1) (some (.box true [.ptr a 0]))) b (some (.map ks (vO (sig [a] b) vs) c0))) a (some (.box true cs)),n:=s.n } K):arj Γ b r s d f [.ptr a 0] args okf K:=by
 intro _ _
 refine WL ⟨_,_,_,_,[a],some [],h.ev,⟨?_,trivial⟩,⟨⟨_,ha,Qg _ _ _ _ h.c1⟩,trivial⟩,by simp,by simpa using of_decide_eq_true hab,by simp,by simp [KK],fun h=>by simp at h,?_⟩
 ·simp [conv]
 ·simp only [WT,WV,Ob.ren,J4 _ _ h.c1,vO,V.ren,sig,axZ]
  exact hk
theorem ak8 {nt:Nat} {ac:AC} {rs:List Jl} (hb:Has Γ.P f nt ac rs) (ha:args.length + 1≤nt) (hr:res.closed) (h1:closedL cs) (h2:closedL cs2)
  (h:∀ C:Ctx,C.env = Γ→C.m = 1→AWp C nt ac (W8 (.ptr 0 off :: args) [.box true cs]) (afv 1 rs res [.box true cs2]) (fun _ _=>False) (afv 1 rs res [.box true cs2])):EvF Γ f off args cs res cs2 :=
 ⟨Vp hb (by simpa using ha) h,hr,h1,h2⟩
theorem abX {nt:Nat} {ac:AC} {rs:List Jl} (hb:Has Γ.P f nt ac rs) (ha:2≤nt) (hr:res.closed) (h1:closedL cs) (h2:closedL cs2)
  (h:∀ C:Ctx,C.env = Γ→C.m = 2→AWp C nt ac (W8 [x,.ptr 1 0] [.box true cs,.box true [.ptr 0 0]]) (afv 2 rs res [.box true cs2,.box true [.ptr 0 0]]) (fun _ _=>False) (afv 2 rs res [.box true cs2,.box true [.ptr 0 0]])):EvH Γ f x cs res cs2 :=
 ⟨Vp hb (by simpa using ha) h,hr,h1,h2⟩
theorem aqc {nt:Nat} {ac:AC} {rs:List Jl} (hb:Has Γ.P f nt ac rs) (ha:1≤nt) (h1:closedL cs)
  (h:∀ C:Ctx,C.env = Γ→C.m = 1→AWp C nt ac (W8 [.ptr 0 0] [.box true cs]) (afv 1 rs (.mp 1) [.box true cs,.map ks vs c0,.box true [.ptr 0 0]]) (fun _ _=>False) (afv 1 rs (.mp 1) [.box true cs,.map ks vs c0,.box true [.ptr 0 0]])):EvJ Γ f cs ks vs c0 :=
 ⟨Vp hb (by simpa using ha) h,h1⟩
theorem aqU {rs:List Jl} (us:List V) (h:ajC s rs = some us) (h0:s.o 0 = some (.box true cs2)) (h1:s.o 1 = some (.box true [.ptr 0 0])) (h2:closedL cs2) (hc:conv s.o [0,1] none (aqR us) res):afv 2 rs res [.box true cs2,.box true [.ptr 0 0]] s :=
 xE rs us _ h ⟨[0,1],none,hc,⟨⟨_,h0,fun h=>h,Qg _ _ _ _ h2⟩,⟨_,h1,fun h=>h,by show Jd _ _ _ _ _;simp [Jd,conv]⟩,trivial⟩,by simp,rfl⟩
theorem axu {rs:List Jl} {us:List V} (m q:Nat) (h:ajC s rs = some [.mp m]) (h0:s.o 0 = some (.box true cs2)) (hm:s.o m = some (.map ks us c0)) (hq:s.o q = some (.box true [.ptr 0 0])) (h2:closedL cs2)
  (hv:Jd s.o [0,m,q] none us vs) (hd:decide (0 < m∧0 < q∧m≠q) = true):afv 1 rs (.mp 1) [.box true cs2,.map ks vs c0,.box true [.ptr 0 0]] s:=by
 obtain ⟨d1,d2,d3⟩:=of_decide_eq_true hd
 refine xE rs _ _ h ⟨[0,m,q],none,?_,⟨⟨_,h0,fun h=>h,Qg _ _ _ _ h2⟩,⟨_,hm,rfl,rfl,hv⟩,⟨_,hq,fun h=>h,by show Jd _ _ _ _ _;simp [Jd,conv]⟩,trivial⟩,?_,rfl⟩
 ·simp [aqR,conv]
 ·simp;omega
end
section
variable {Γ:Env} {A W:Nat→Bool} {b:Nat} {s:St} {d:Option Nat} {f:FuncId} {acts args:List V} {okf:Option (List Nat)→Prop} {res:V} {J:St→Prop}
theorem aub (h:EvC Γ f args res) (hl:((JR acts).all fun x=>A x && W x) = true) (hc:Q3 (YF A s.o) (some (JR acts)) acts)
  (hk:J { t:=(s.put d res).t,o:=acU (some (JR acts)) [] s.o,n:=s.n }):anY Γ A W b s d f acts args okf J:=by
 rintro rfl _
 refine ⟨_,_,_,_,[],some (JR acts),h.1,Y7 _ _ _ hc,trivial,List.nodup_nil,fun x hx=>by simp at hx,by simp,by simp [KK],fun h=>by simp at h,fun l h x hx=>(by cases h;simpa using List.all_eq_true.1 hl x hx),?_⟩
 simp only [WT,WV,YP _ _ h.2]
 exact hk
end
end Av
end
section
set_option maxRecDepth 10000
set_option maxHeartbeats 4000000
namespace Av
open Go
attribute [local irreducible] AWp x8 adc afE awS awC am1 awQ anX Yf abo ama awR acg awB okR agS ris
def asw (c:UInt8) (o:List UInt8):Bool:=(decide ((c.toNat:Int)≥97) && decide ((c.toNat:Int)≤122)) || ((decide ((c.toNat:Int)≥65) && decide ((c.toNat:Int)≤90)) || ((decide ((c.toNat:Int)≥48) && decide ((c.toNat:Int)≤57)) || decide (Lib.indexByte o c≥0)))
def aby (s:List UInt8):Bool:=s.all (fun c=>asw c [45,95,46]) && (decide ((s.length:Int)≥1) && decide ((s.length:Int)≤32))
def ar5 (s:List UInt8):Bool:=match Lib.atoiAll s with|.ok _=>decide (wS s≥0) && (Lib.itoa (wS s) == s)|_=>false
theorem aud (w:List UInt8):-9223372036854775808≤wS w∧wS w≤9223372036854775807:=by
 unfold wS
 split
 ·rename_i v h
  unfold Lib.atoiAll at h
  split at h
  ·exact absurd h (by simp)
  ·dsimp only at h
   split at h
   ·exact absurd h (by simp)
   ·exact absurd h (by simp)
   ·rename_i u _
    split at h
    ·exact absurd h (by simp)
    ·split at h
     ·exact absurd h (by simp)
     ·rename_i h1 h2
      injection h with h
      subst h
      split<;>rename_i h3<;>simp only [h3,not_true_eq_false,not_false_eq_true,true_and,false_and] at h1 h2<;>omega
 ·unfold Lib.atoiSat;split<;>omega
 ·omega
def je (JN:Nat):AC:=Qa [0,1] (.reg [mc 4 (V.bool false)]) (Qa [4] (.reg [mv 5 0,bc 6 .geq 5 (.sc (.int .u8 97)),mv 7 6,mg 8 0 7 true,xg 9 (.bin .leq (.t 8) (.c (.sc (.int .u8 122)))) 7 true,xo 10 (.pick (.t 7) (.t 9) (.c (V.bool false))),mv 11 10,mg 12 0 11 false,xg 13 (.bin .geq (.t 12) (.c (.sc (.int .u8 65)))) 11 false,mg 14 13 11 false,mg 15 0 14 true,xg 16 (.bin .leq (.t 15) (.c (.sc (.int .u8 90)))) 14 true,xg 17 (.pick (.t 14) (.t 16) (.c (V.bool false))) 11 false,xo 18 (.pick (.t 11) (.c (V.bool true)) (.t 17)),mv 19 18,mg 20 0 19 false,xg 21 (.bin .geq (.t 20) (.c (.sc (.int .u8 48)))) 19 false,mg 22 21 19 false,mg 23 0 22 true,xg 24 (.bin .leq (.t 23) (.c (.sc (.int .u8 57)))) 22 true,xg 25 (.pick (.t 22) (.t 24) (.c (V.bool false))) 19 false,xo 26 (.pick (.t 19) (.c (V.bool true)) (.t 25)),mv 27 26,mg 28 1 27 false,mg 29 0 27 false,xg 30 (.call JN [(.t 28),(.t 29)]) 27 false,xg 31 (.bin .geq (.t 30) (.c (V.int 0))) 27 false,xo 32 (.pick (.t 27) (.c (V.bool true)) (.t 31)),mv 4 32]) .ret) def r_settings_Letter:List Jl:=[.tmp 4]
def qz (Γ:Env) (f:Nat):Prop:=∀ (c:UInt8) (o:List UInt8),EvN Γ f [.sc (.int .u8 c.toNat),V.str o] (V.bool (asw c o))
theorem aho {Γ:Env} {f JN:Nat} (h:Has Γ.P f 33 (je JN) r_settings_Letter) (z0:Uz Γ JN):qz Γ f:=by
 intro c o
 refine Qe h zsi zcl zcl fun C hC hm=>?_
 subst hC
 unfold je
 refine zgo ?_;repeat' first|exact zt|apply zan|intro hc
 all_goals first|(refine Qn _ rfl ?_;simp only [go_sem];simp [asw, *];done)
def wG (V2:Nat):AC:=Qa [0] (.reg [mc 2 (V.bool false)]) (Qa [0] (Qa [0,6,7,8] (.reg [mv 5 0,xo 6 (.convSB (.t 5)),ln 7 6,mc 8 (V.int 0)]) (.block 0 (JH [0,6,7,8] (Qa [0,6,7,8,9] (.reg [bn 9 .lss 8 7]) (Qa [0,6,7,8] (.cond (.t 9) .skip (.exit 0)) (Qa [0,6,7,8] (.block 1 (Qa [0,4,6,7,8] (.reg [ia 10 1 6 8,ld 11 1 10,mv 4 11]) (Qa [0,6,7,8,14] (.reg [mv 12 4,xo 13 (.call V2 [(.t 12),(.c (V.str [45,95,46]))]),xo 14 (.un .not (.t 13))]) (.cond (.t 14) (Qa [2] (.reg [mc 2 (V.bool false)]) .ret) .skip)))) (.reg [bc 15 .add 8 (V.int 1),mv 8 15]))))))) (Qa [2] (.reg [mv 16 0,xo 17 (.lenS (.t 16)),bc 18 .geq 17 (V.int 1),mv 19 18,mg 20 0 19 true,xg 21 (.lenS (.t 20)) 19 true,xg 22 (.bin .leq (.t 21) (.c (V.int 32))) 19 true,xo 23 (.pick (.t 19) (.t 22) (.c (V.bool false))),mv 2 23]) .ret)) def r_settings_Word:List Jl:=[.tmp 2]
def U7 (Γ:Env) (f:Nat):Prop:=∀ (s:List UInt8) (hs:s.length < 2 ^ 30),EvN Γ f [V.str s] (V.bool (aby s))
attribute [local go_sem] QZ in
theorem ajF {Γ:Env} {f V2:Nat} (h:Has Γ.P f 24 (wG V2) r_settings_Word) (z0:qz Γ V2):U7 Γ f:=by
 intro s hs
 refine Qe h zsi zcl zcl fun C hC hm=>?_
 subst hC
 unfold wG
 refine zgo ?_;repeat' first|exact zt|apply zan|intro hc
 refine QY (ι:=Nat) (fun k=>k≤s.length∧(s.take k).all (fun c=>asw c [45,95,46]) = true) (fun k=>QZ [(0,V.str s),(6,.hd 0 0 s.length),(7,V.int s.length),(8,V.int k)] [(0,.buf true 1 (s.map fun c=>V.sc (.int .u8 c.toNat)))] 1) (fun k=>s.length - k) 0 ⟨by omega,by simp⟩ (Qk [(0,2000)]) (zwg [(0,2000)]) fun k hk K' hL=>?_
 obtain ⟨hk,hinv⟩:=hk
 rcases hd:s.drop k with _|⟨c,r⟩
 ·have hkl:=Qs hd
  rw [List.take_of_length_le hkl] at hinv
  have e1:decide ((k:Int) < ((s.length:Nat):Int)) = false:=by simp;omega
  have hw:aby s = (decide ((s.length:Int)≥1) && decide ((s.length:Int)≤32)):=by rw [aby,hinv,Bool.true_and]
  rw [hw]
  (have zx:=e1);refine zgo ?_;repeat' first|exact zt|apply zan|intro hc
  all_goals first|exact zr|(refine Qn _ rfl ?_;simp only [go_sem];simp [*];done)
 ·obtain ⟨hk',hget,hr⟩:=Ql hd
  have hwi:=Qj (k:=k) (by omega)
  have e1:decide ((k:Int) < ((s.length:Nat):Int)) = true:=by simp;omega
  have hl:=(z0 c [45,95,46]).b
  rcases hb:asw c [45,95,46] with _|_
  ·have hw:aby s = false:=by
    have:s.all (fun c=>asw c [45,95,46]) = false:=by
     rw [List.all_eq_false];exact ⟨c,List.mem_of_getElem? hget,by simp [hb]⟩
    rw [aby,this];rfl
   rw [hb] at hl
   rw [hw]
   (have zx:=And.intro e1 (And.intro hwi hget));exact zg
  ·rw [hb] at hl
   (have zx:=And.intro e1 (And.intro hwi hget));refine zgo ?_;repeat' first|exact zt|apply zan|intro hc
   all_goals first|exact hL _ (k + 1) (Qk []) ⟨by omega,by rw [List.take_add_one,hget,List.all_append,hinv];simp [hb]⟩ (by omega) (zwg [])
def qd (jK QW:Nat):AC:=Qa [0] (.reg [mc 2 (V.int 0),mc 3 (V.bool false)]) (Qa [0,4,5] (.reg [mv 7 0,cl 8 jK [7],mv 6 8,ex 9 6 0,ex 10 6 1,mv 4 9,mv 5 10]) (Qa [2,3] (.reg [mv 11 4,mv 12 5,xo 13 (.isnilI false (.t 12)),mv 14 13,mg 15 4 14 true,xg 16 (.bin .geq (.t 15) (.c (V.int 0))) 14 true,xo 17 (.pick (.t 14) (.t 16) (.c (V.bool false))),mv 18 17,mg 19 4 18 true,xg 20 (.call QW [(.t 19)]) 18 true,mg 21 0 18 true,xg 22 (.bin .eql (.t 20) (.t 21)) 18 true,xo 23 (.pick (.t 18) (.t 22) (.c (V.bool false))),mv 2 11,mv 3 23]) .ret)) def r_settings_Decimal:List Jl:=[.tmp 2,.tmp 3]
def Km (Γ:Env) (f:Nat):Prop:=∀ (s:List UInt8) (hs:s.length < 2 ^ 30),EvN Γ f [V.str s] (.tup [V.int (wS s),V.bool (ar5 s)])
theorem af8 {Γ:Env} {f jK QW:Nat} (h:Has Γ.P f 24 (qd jK QW) r_settings_Decimal) (z0:aeq Γ jK) (z1:vf Γ QW):Km Γ f:=by
 intro s hs
 refine Qe h zsi (by simp only [V.closed,closedL,V.noSl,abd,and_self]) (by simp only [V.closed,closedL,V.noSl,abd,and_self]) fun C hC hm=>?_
 subst hC
 unfold qd
 have ga:=(z0 s (by omega)).b
 have hrng:=aud s
 have gi:=(z1 (wS s) hrng.1 hrng.2).b
 by_cases hok:∃ n,Lib.atoiAll s = .ok n
 ·obtain ⟨n,hn⟩:=hok
  have he:atJ s = .sc .nilIface:=by rw [atJ,hn]
  have hd:ar5 s = (decide (wS s≥0) && (Lib.itoa (wS s) == s)):=by rw [ar5,hn]
  rw [he] at ga
  rw [hd]
  refine zgo ?_;repeat' first|exact zt|apply zan|intro hc
  all_goals first|exact zr|(refine Qn _ rfl ?_;simp only [go_sem];simp [*];done)
 ·have he:atJ s = .nn:=by
   rw [atJ];split
   ·rename_i n hn;exact absurd ⟨n,hn⟩ hok
   ·rfl
  have hd:ar5 s = false:=by
   rw [ar5];split
   ·rename_i n hn;exact absurd ⟨n,hn⟩ hok
   ·rfl
  rw [he] at ga
  rw [hd]
  refine zgo ?_;repeat' first|exact zt|apply zan|intro hc
  all_goals first|exact zr|(refine Qn _ rfl ?_;simp only [go_sem];simp [*];done)
def xz (l:List Int):Nat→List Int→Nat→List Int×Nat
 | 0,a,k=>(a,k)
 | i + 1,a,k=>xz l i (if a.contains (1 + (Jx l k 16).1) = true then a else a++[1 + (Jx l k 16).1]) (Jx l k 16).2
def abA (l:List Int) (k:Nat):List Int×Nat:=xz l (2 + (Jx l k 9).1).toNat [] (Jx l k 9).2
def aau (l:List Int) (k:Nat):List Int×Nat:=(if (Jx l (abA l k).2 4).1 = 3 then abC (abA l k).1 else (abA l k).1,(Jx l (abA l k).2 4).2)
structure NR (a:List Int):Prop where
 nd:a.Nodup
 rg:∀ x∈a,1≤x∧x≤16
theorem NR.add {a:List Int} (h:NR a) (l:List Int) (k:Nat):NR (if a.contains (1 + (Jx l k 16).1) = true then a else a++[1 + (Jx l k 16).1]):=by
 have hr:=JT (l:=l) (k:=k) (n:=16) (by omega) (by omega)
 split
 ·exact h
 ·rename_i hc
  have hx:1 + (Jx l k 16).1 ∉ a:=by simpa using hc
  refine ⟨List.nodup_append.2 ⟨h.nd,by simp,fun x hx2 y hy e=>?_⟩,fun x hx2=>?_⟩
  ·simp at hy;subst hy;subst e;exact hx hx2
  ·rcases List.mem_append.1 hx2 with h1|h1
   ·exact h.rg x h1
   ·simp at h1;omega
theorem akb (l:List Int):∀ (i:Nat) (a:List Int) (k:Nat),NR a→k≤l.length→NR (xz l i a k).1∧(xz l i a k).2≤l.length
 | 0,a,k,h,hk=>⟨h,hk⟩
 | i + 1,a,k,h,hk=>akb l i _ _ (h.add l k) (Je hk)
theorem amm {l:List Int} {k:Nat} (hk:k≤l.length):NR (abA l k).1∧(abA l k).2≤l.length :=
 akb l _ _ _ ⟨List.nodup_nil,fun x h=>by simp at h⟩ (Je hk)
theorem aml {l:List Int} {k:Nat} (hk:k≤l.length):NR (aau l k).1∧(aau l k).2≤l.length:=by
 have h:=amm hk
 refine ⟨?_,Je h.2⟩
 unfold aau
 split
 ·have hp:=amr (abA l k).1
  exact ⟨hp.nodup_iff.2 h.1.nd,fun x hx=>h.1.rg x (hp.mem_iff.1 hx)⟩
 ·exact h.1
def acb (Qb QQ Q4 aac:Nat):AC:=Qa [0] (.reg [xo 2 (.mknil 1)]) (Qa [0,3] (.reg [xo 3 (.mknil 1)]) (Qa [0,3] (Qa [0,3,4] (.reg [mv 6 0,xo 7 (.call Qb [(.t 6),(.c (V.int 9))]),xo 8 (.bin .add (.c (V.int 2)) (.t 7)),mv 4 8]) (.block 0 (JH [0,3,4] (Qa [0,3,4] (Qa [0,3,4,10] (.reg [mv 9 4,bc 10 .gtr 9 (V.int 0)]) (.cond (.t 10) .skip (.exit 0))) (Qa [0,3,4] (.block 1 (Qa [0,3,4,5] (.reg [mv 13 0,xo 14 (.call Qb [(.t 13),(.c (V.int 16))]),xo 15 (.bin .add (.c (V.int 1)) (.t 14)),mv 5 15]) (Qa [0,3,4,5,19] (.reg [mv 16 3,mv 17 5,cl 18 QQ [16,17],xo 19 (.un .not (.t 18))]) (.cond (.t 19) (.reg [mv 20 3,mv 21 5,xo 22 (.bslice 1 1 false [vi0] [(0,(.t 21))]),xo 23 (.append 1 8 [vi0] (.t 20) (.t 22)),mv 3 23]) .skip)))) (.reg [mv 11 4,bc 12 .sub 11 (V.int 1),mv 4 12])))))) (Qa [3] (Qa [3,25] (.reg [mv 24 0,xo 25 (.call Q4 [(.t 24),(.c (V.int 4))])]) (.cond (.t 25) (.reg [mv 26 3,cl 27 aac [26],mv 3 27]) .skip)) (Qa [2] (.reg [mv 28 3,mv 2 28]) .ret)))) def r_make_Suites:List Jl:=[.tmp 2]
def aa2 (Γ:Env) (f:Nat):Prop:=∀ (l:List Int) (k:Nat) (hl:l.length≤400) (hk:k≤l.length),EvD Γ f [] (Jj l k) (.sl 1 ((aau l k).1.map V.int)) (Jj l (aau l k).2)
theorem al4 {Γ:Env} {f Qb QQ Q4 aac:Nat} (h:Has Γ.P f 29 (acb Qb QQ Q4 aac) r_make_Suites) (z0:JK Γ Qb) (z1:yg Γ QQ) (z2:WO Γ Q4) (z3:acq Γ aac):aa2 Γ f:=by
 intro l k hl hk
 refine Y6 h zsi zcl zc3 zc3 fun C hC hm=>?_
 subst hC
 unfold acb
 have n1:=z0 l k 9 hl hk
 have hr:=JT (l:=l) (k:=k) (n:=9) (by omega) (by omega)
 have hk1:=Je (n:=9) hk
 have hw2:IntKind.i64.wrap (2 + (Jx l k 9).1) = 2 + (Jx l k 9).1:=Yv (by omega) (by omega)
 obtain ⟨n,hn⟩:∃ n:Nat,2 + (Jx l k 9).1 = (n:Int):=⟨(2 + (Jx l k 9).1).toNat,by omega⟩
 have h1:abA l k = xz l n [] (Jx l k 9).2:=by rw [abA,hn];rfl
 have hok:=amm hk
 unfold aau
 rw [h1] at hok ⊢
 have hnn:n≤10:=by omega
 generalize Jx l k 9 = u at *
 obtain ⟨c,k1⟩:=u
 simp only [Jj] at n1 hk1 hw2 hn hok ⊢
 rw [hn] at hw2
 repeat' (first|(refine zsk ?_;intro K' hK)|refine zsp ?_|(refine zsc ?_ ?_<;>intro hc<;>first|exact znh|try simp only [znz] at hc)|simp (maxSteps:=1000000) only [go_sem,hn,hw2]|(refine hK _ ?_;clear hK K')|apply zan|(apply Xz;(focus exact rfl);(focus first|exact n1|exact (z0 _ _ _ zsd zsd)|exact (z2 _ _ _ zsd zsd zsd zsd));(focus exact rfl);(focus exact rfl))|(apply VT;(focus first|exact (z3 _ zsd)))|(apply Jb;(focus first|exact (z1 _ _ zsd).b))|exact zsq|fail)
 refine QY (ι:=Nat×List Int×Nat) (fun p=>p.1≤10∧NR p.2.1∧p.2.2≤l.length∧xz l p.1 p.2.1 p.2.2 = xz l n [] k1) (fun p=>QZ [(0,.ptr 0 0),(3,.hd 1 0 p.2.1.length),(4,V.int p.1)] [(0,.box true [.sl 1 (l.map V.int),V.int p.2.2]),(1,.buf true 1 (p.2.1.map V.int))] 2) (fun p=>p.1) (n,[],k1) ⟨hnn,⟨List.nodup_nil,fun x h=>by simp at h⟩,hk1,rfl⟩ (Qk [(1,1001)]) (zwg [(1,1001)]) fun p hp K' hL=>?_
 obtain ⟨i,a,k2⟩:=p
 obtain ⟨hi,ha,hk2,hinv⟩:=hp
 simp only at hi ha hk2 hinv
 have hal:=aqD ha.nd ha.rg
 rcases i with _|i
 ·rw [← hinv] at hok ⊢
  simp only [xz] at hok ⊢
  have o1:=z2 l k2 4 hl hk2 (by omega) (by omega)
  have e4:∀ v:Int,(v == 4 - 1) = decide (v = 3):=fun v=>by rw [Bool.eq_iff_iff];simp
  rw [e4] at o1
  simp only [Jj] at o1
  have hs:=z3 a (by omega)
  obtain ⟨v,k3,hd4⟩:∃ v k3,Jx l k2 4 = (v,k3):=⟨_,_,rfl⟩
  simp only [hd4] at o1 ⊢
  by_cases hv:v = 3
  ·rw [decide_eq_true hv] at o1
   rw [if_pos hv]
   repeat' (first|(refine zsk ?_;intro K' hK)|refine zsp ?_|(refine zsc ?_ ?_<;>intro hc<;>first|exact znh|try simp only [znz] at hc)|simp (maxSteps:=1000000) only [go_sem,QZ,XI]|(refine hK _ ?_;clear hK K')|apply zan|(apply Xz;(focus exact rfl);(focus first|exact o1|exact (z0 _ _ _ zsd zsd)|exact (z2 _ _ _ zsd zsd zsd zsd));(focus exact rfl);(focus exact rfl))|(apply VT;(focus first|exact hs|exact (z3 _ zsd)))|(apply Jb;(focus first|exact (z1 _ _ zsd).b))|exact zsq|fail)
   all_goals (refine Xb _ rfl rfl zcd ?_;simp only [go_sem];exact ⟨by decide,(List.take_of_length_le (by simp)).symm⟩)
  ·rw [decide_eq_false hv] at o1
   rw [if_neg hv]
   repeat' (first|(refine zsk ?_;intro K' hK)|refine zsp ?_|(refine zsc ?_ ?_<;>intro hc<;>first|exact znh|try simp only [znz] at hc)|simp (maxSteps:=1000000) only [go_sem,QZ,XI]|(refine hK _ ?_;clear hK K')|apply zan|(apply Xz;(focus exact rfl);(focus first|exact o1|exact (z0 _ _ _ zsd zsd)|exact (z2 _ _ _ zsd zsd zsd zsd));(focus exact rfl);(focus exact rfl))|(apply VT;(focus first|exact (z3 _ zsd)))|(apply Jb;(focus first|exact (z1 _ _ zsd).b))|exact zsq|fail)
   all_goals (refine Xb _ rfl rfl zcd ?_;simp only [go_sem];exact ⟨by decide,(List.take_of_length_le (by simp)).symm⟩)
 ·have e1:decide (((i + 1:Nat):Int) > 0) = true:=decide_eq_true (by omega)
  have hwi:IntKind.i64.wrap (((i + 1:Nat):Int) - 1) = (i:Int):=by rw [Yv (by omega) (by omega)];omega
  have n2:=z0 l k2 16 hl hk2
  have hr2:=JT (l:=l) (k:=k2) (n:=16) (by omega) (by omega)
  have hk3:=Je (n:=16) hk2
  have hadd:=ha.add l k2
  rw [xz] at hinv
  generalize Jx l k2 16 = d at *
  obtain ⟨v,k3⟩:=d
  simp only [Jj] at n2 hr2 hk3 hadd hinv
  have hwv:IntKind.i64.wrap (1 + v) = 1 + v:=Yv (by omega) (by omega)
  have hc1:=(z1 a (1 + v) (by omega)).b
  rcases hin:a.contains (1 + v) with _|_
  ·rw [hin] at hc1 hadd hinv
   simp only [Bool.false_eq_true,if_false] at hadd hinv
   have hb:List.map V.int a++[V.int (1 + v)] = (a++[1 + v]).map V.int:=by rw [List.map_append];rfl
   have hln:a.length + 1 = (a++[1 + v]).length:=by simp
   repeat' (first|(refine zsk ?_;intro K' hK)|refine zsp ?_|(refine zsc ?_ ?_<;>intro hc<;>first|exact znh|try simp only [znz] at hc)|simp (maxSteps:=1000000) only [go_sem,QZ,e1,hwi,hwv,XI,hb,hln]|(refine hK _ ?_;clear hK K')|apply zan|(apply Xz;(focus exact rfl);(focus first|exact n2|exact (z0 _ _ _ zsd zsd)|exact (z2 _ _ _ zsd zsd zsd zsd));(focus exact rfl);(focus exact rfl))|(apply VT;(focus first|exact (z3 _ zsd)))|(apply Jb;(focus first|exact hc1|exact (z1 _ _ zsd).b))|exact zsq|fail)
   all_goals first
    | exact hL _ (i,a++[1 + v],k3) (Qk [(1,13002)]) ⟨by simp only;omega,hadd,hk3,hinv⟩ (by simp only;omega) (zwg [(1,13002)])
    | (simp only [List.length_append,List.length_singleton];omega)
  ·rw [hin] at hc1 hadd hinv
   simp only [if_true] at hadd hinv
   repeat' (first|(refine zsk ?_;intro K' hK)|refine zsp ?_|(refine zsc ?_ ?_<;>intro hc<;>first|exact znh|try simp only [znz] at hc)|simp (maxSteps:=1000000) only [go_sem,QZ,e1,hwi,hwv,XI]|(refine hK _ ?_;clear hK K')|apply zan|(apply Xz;(focus exact rfl);(focus first|exact n2|exact (z0 _ _ _ zsd zsd)|exact (z2 _ _ _ zsd zsd zsd zsd));(focus exact rfl);(focus exact rfl))|(apply VT;(focus first|exact (z3 _ zsd)))|(apply Jb;(focus first|exact hc1|exact (z1 _ _ zsd).b))|exact zsq|fail)
   all_goals first
    | exact hL _ (i,a,k3) (Qk []) ⟨by simp only;omega,hadd,hk3,hinv⟩ (by simp only;omega) (zwg [])
theorem asq {α:Type} {p:α→Bool} {l r:List α} {k:Nat} {x:α} (h:l.drop k = x :: r):(l.drop k).any p = (p x || (l.drop (k + 1)).any p):=by
 obtain ⟨_,_,hr⟩:=Ql h
 rw [h,List.any_cons,hr]
def y8 (c:UInt8):Bool:=decide ((c.toNat:Int)≤32) || decide ((c.toNat:Int) > 126)
def QX (s:List UInt8):Bool:=!s.any y8 && (decide ((s.length:Int)≥1) && decide ((s.length:Int)≤32))
def adU:AC:=Qa [0] (.reg [mc 2 (V.bool false)]) (Qa [0] (Qa [0,11] (.reg [mv 4 0,xo 5 (.lenS (.t 4)),bc 6 .lss 5 (V.int 1),mv 7 6,mg 8 0 7 false,xg 9 (.lenS (.t 8)) 7 false,xg 10 (.bin .gtr (.t 9) (.c (V.int 32))) 7 false,xo 11 (.pick (.t 7) (.c (V.bool true)) (.t 10))]) (.cond (.t 11) (Qa [2] (.reg [mc 2 (V.bool false)]) .ret) .skip)) (Qa [] (Qa [0,3] (.reg [mc 3 (V.int 0)]) (.block 0 (JH [0,3] (Qa [0,3] (Qa [0,3,15] (.reg [mv 12 3,mv 13 0,xo 14 (.lenS (.t 13)),bn 15 .lss 12 14]) (.cond (.t 15) .skip (.exit 0))) (Qa [0,3] (.block 1 (Qa [0,3,27] (.reg [mv 18 0,mv 19 3,xo 20 (.idxS (.t 18) (.t 19)),bc 21 .lss 20 (.sc (.int .u8 33)),mv 22 21,mg 23 0 22 false,mg 24 3 22 false,xg 25 (.idxS (.t 23) (.t 24)) 22 false,xg 26 (.bin .gtr (.t 25) (.c (.sc (.int .u8 126)))) 22 false,xo 27 (.pick (.t 22) (.c (V.bool true)) (.t 26))]) (.cond (.t 27) (Qa [2] (.reg [mc 2 (V.bool false)]) .ret) .skip))) (.reg [mv 16 3,bc 17 .add 16 (V.int 1),mv 3 17])))))) (Qa [2] (.reg [mc 2 (V.bool true)]) .ret))) def r_ref03_Name:List Jl:=[.tmp 2]
def xM (Γ:Env) (f:Nat):Prop:=∀ (s:List UInt8) (hs:s.length < 2 ^ 60),EvN Γ f [V.str s] (V.bool (QX s))
theorem anF {Γ:Env} {f:Nat} (h:Has Γ.P f 28 adU r_ref03_Name) :xM Γ f:=by
 intro s hs
 refine Qe h zsi zcl zcl fun C hC hm=>?_
 subst hC
 unfold adU
 by_cases h0:s.length < 1
 ·have e1:decide ((s.length:Int) < 1) = true:=decide_eq_true (by omega)
  have e2:QX s = false:=by unfold QX;rw [decide_eq_false (by omega:¬ (s.length:Int)≥1)];simp
  rw [e2]
  (have zx:=e1);exact zg
 have e1:decide ((s.length:Int) < 1) = false:=decide_eq_false (by omega)
 by_cases h1:s.length > 32
 ·have e3:decide ((s.length:Int) > 32) = true:=decide_eq_true (by omega)
  have e2:QX s = false:=by unfold QX;rw [decide_eq_false (by omega:¬ (s.length:Int)≤32)];simp
  rw [e2]
  (have zx:=And.intro e1 e3);exact zg
 have e3:decide ((s.length:Int) > 32) = false:=decide_eq_false (by omega)
 have e2:QX s = !s.any y8:=by unfold QX;rw [decide_eq_true (by omega:(s.length:Int)≤32),decide_eq_true (by omega:(s.length:Int)≥1)];simp
 rw [e2]
 (have zx:=And.intro e1 e3);refine zgo ?_;repeat' first|exact zt|apply zan|intro hc
 refine QP (ι:=Nat) (fun k=>k≤s.length∧(s.drop k).any y8 = s.any y8) (fun k=>[(3,V.int k)]) (fun k=>s.length - k) 0 (by omega) ⟨by simp,by simp⟩ (by repeat' first|exact Q8|refine JD (by omega) (by simp only [Ob.lt,ltL,V.lt,and_self,and_true];try omega) ?_) (fun i hi=>by simp only [ovT,Ji,Nat.reduceEqDiff,reduceIte];(repeat' first|exact JC|refine Q7 ?_ ?_|simp only [V.lt,ltL,and_self,and_true]|omega)) zet fun k hk K' hL=>?_
 obtain ⟨hk,hinv⟩:=hk
 simp only [ovT,Ji,Nat.reduceEqDiff,reduceIte]
 rcases hd:s.drop k with _|⟨c,r⟩
 ·have:=Qs hd
  rw [hd] at hinv
  have e4:decide ((k:Int) < ((s.length:Nat):Int)) = false:=by simp;omega
  rw [← hinv]
  (have zx:=e4);refine zgo ?_;repeat' first|exact zt|apply zan|intro hc
  all_goals first|exact zr|(refine Qn _ rfl ?_;simp only [go_sem];simp;done)
 ·obtain ⟨hk',hget,hr⟩:=Ql hd
  have hst:=asq (p:=y8) hd
  rw [hinv] at hst
  have hw:=Qj (k:=k) (by omega)
  have e4:decide ((k:Int) < ((s.length:Nat):Int)) = true:=by simp;omega
  have e5:decide ((c.toNat:Int) < 33) = decide ((c.toNat:Int)≤32):=decide_eq_decide.2 (by omega)
  rcases h2:decide ((c.toNat:Int)≤32) with _|_
  ·rcases h3:decide ((c.toNat:Int) > 126) with _|_
   ·have hb:y8 c = false:=by unfold y8;rw [h2,h3];rfl
    rw [hb,Bool.false_or] at hst
    (have zx:=And.intro e4 (And.intro hw (And.intro hget (And.intro e5 (And.intro h2 h3)))));refine zgo ?_;repeat' first|exact zt|apply zan|intro hc
    all_goals first
     | exact hL _ (k + 1) zet ⟨by omega,hst.symm⟩ (by omega) (fun a ha=>by simp only [u32,u33,u34,u35,u36,u37,u38,u39];repeat rw [if_neg (by omega)])
   ·have hb:y8 c = true:=by unfold y8;rw [h3,Bool.or_true]
    rw [hb,Bool.true_or] at hst
    rw [hst]
    (have zx:=And.intro e4 (And.intro hw (And.intro hget (And.intro e5 (And.intro h2 h3)))));exact zg
  ·have hb:y8 c = true:=by unfold y8;rw [h2,Bool.true_or]
   rw [hb,Bool.true_or] at hst
   rw [hst]
   (have zx:=And.intro e4 (And.intro hw (And.intro hget (And.intro e5 h2))));exact zg
def okP {α:Type} (p:α→Bool) (q:α→α→Bool) (l:List α) (k:Nat):Bool:=(List.range k).all fun i=>match l[i]? with|some x=>p x && (i == 0 || match l[i - 1]? with|some y=>q y x|none=>false)|none=>false
theorem auM {α:Type} (p:α→Bool) (q:α→α→Bool) (l:List α):okP p q l 0 = true:=rfl
theorem vX {α:Type} (p:α→Bool) (q:α→α→Bool) (l:List α) (k:Nat):okP p q l (k + 1) = (okP p q l k && match l[k]? with|some x=>p x && (k == 0 || match l[k - 1]? with|some y=>q y x|none=>false)|none=>false):=by
 rw [okP,okP,List.range_succ,List.all_append];simp
theorem akA {α:Type} {p:α→Bool} {q:α→α→Bool} {l:List α} {k n:Nat} (h:okP p q l k = false) (hk:k≤n):okP p q l n = false:=by
 rw [okP,List.all_eq_false] at h ⊢
 obtain ⟨i,hi,h⟩:=h
 exact ⟨i,List.mem_range.2 (Nat.lt_of_lt_of_le (List.mem_range.1 hi) hk),h⟩
theorem akz {α:Type} {p:α→Bool} {q:α→α→Bool} {l:List α} {x:α} (h:l[0]? = some x):okP p q l 1 = p x:=by
 rw [vX,auM,h];simp
theorem agV {α:Type} {p:α→Bool} {q:α→α→Bool} {l:List α} {k:Nat} {x y:α} (h:l[k + 1]? = some x) (h':l[k]? = some y):okP p q l (k + 2) = (okP p q l (k + 1) && (p x && q y x)):=by
 rw [vX,h];simp [h']
def an9 (a b k:Int):Bool:=decide (Jr a b > 0) && ((Jk a).kind == k)
def aeH (n:Int):Bool:=decide (n≥0) && decide (n≤2147483648)
def aw4 (n:Int):Bool:=decide (n≥0) && decide (n < 4294967296)
def acI (l:List (List UInt8)):Bool:=okP QX Op.bytesLess l l.length && decide ((l.length:Int)≤8)
structure Qw where
 serial:Int
 issuer:List UInt8
 subject:List UInt8
 kalg:Int
 kbits:Int
 kid:Int
 halg:Int
 hbits:Int
 from_:Int
 to_:Int
 auth:Bool
 path:Int
 names:List (List UInt8)
 skey:Int
 ssum:Int
def Qw.cells (c:Qw):List V:=[V.int c.serial,V.str c.issuer,V.str c.subject,V.int c.kalg,V.int c.kbits,V.int c.kid,V.int c.halg,V.int c.hbits,V.int c.from_,V.int c.to_,V.bool c.auth,V.int c.path,.sl 1 (c.names.map V.str),V.int c.skey,V.int c.ssum]
def Qw.v (c:Qw):V:=.agg c.cells
def anT (c:Qw):Bool:=decide (c.serial < 0) || (decide (c.serial > 1099511627776) || (!QX c.issuer || (!QX c.subject || !acI c.names)))
def ape (c:Qw):Bool:=!an9 c.kalg c.kbits 2 || (!aeH c.kid || (!an9 c.halg c.hbits 1 || (!aeH c.skey || !aw4 c.ssum)))
def ash (c:Qw):Bool:=decide (c.from_ < 0) || (decide (c.from_ > c.to_) || decide (c.to_ > 40000))
def apd (c:Qw):Bool:=decide (c.path≥0) && (decide (c.path≤8) && (c.auth || (c.path == 0)))
def KH (c:Qw):Bool:=!anT c && (!ape c && (!ash c && apd c))
def wP:AC:=Qa [0] (.reg [mc 2 (V.bool false)]) (Qa [0] (Qa [0,6,7,8] (.reg [mv 5 0,xo 6 (.convSB (.t 5)),ln 7 6,mc 8 (V.int 0)]) (.block 0 (JH [0,6,7,8] (Qa [0,6,7,8,9] (.reg [bn 9 .lss 8 7]) (Qa [0,6,7,8] (.cond (.t 9) .skip (.exit 0)) (Qa [0,6,7,8] (.block 1 (Qa [0,4,6,7,8] (.reg [ia 10 1 6 8,ld 11 1 10,mv 4 11]) (Qa [0,6,7,8,17] (.reg [mv 12 4,bc 13 .leq 12 (.sc (.int .u8 32)),mv 14 13,mg 15 4 14 false,xg 16 (.bin .gtr (.t 15) (.c (.sc (.int .u8 126)))) 14 false,xo 17 (.pick (.t 14) (.c (V.bool true)) (.t 16))]) (.cond (.t 17) (Qa [2] (.reg [mc 2 (V.bool false)]) .ret) .skip)))) (.reg [bc 18 .add 8 (V.int 1),mv 8 18]))))))) (Qa [2] (.reg [mv 19 0,xo 20 (.lenS (.t 19)),bc 21 .geq 20 (V.int 1),mv 22 21,mg 23 0 22 true,xg 24 (.lenS (.t 23)) 22 true,xg 25 (.bin .leq (.t 24) (.c (V.int 32))) 22 true,xo 26 (.pick (.t 22) (.t 25) (.c (V.bool false))),mv 2 26]) .ret)) def r_catalog_Named:List Jl:=[.tmp 2]
def Vm (Γ:Env) (f:Nat):Prop:=∀ (s:List UInt8) (hs:s.length < 2 ^ 60),EvN Γ f [V.str s] (V.bool (QX s))
attribute [local go_sem] QZ in
theorem ajO {Γ:Env} {f:Nat} (h:Has Γ.P f 27 wP r_catalog_Named) :Vm Γ f:=by
 intro s hs
 refine Qe h zsi zcl zcl fun C hC hm=>?_
 subst hC
 unfold wP
 refine zgo ?_;repeat' first|exact zt|apply zan|intro hc
 refine QY (ι:=Nat) (fun k=>k≤s.length∧(s.drop k).any y8 = s.any y8) (fun k=>QZ [(0,V.str s),(6,.hd 0 0 s.length),(7,V.int s.length),(8,V.int k)] [(0,.buf true 1 (s.map fun c=>V.sc (.int .u8 c.toNat)))] 1) (fun k=>s.length - k) 0 ⟨by omega,by simp⟩ (Qk [(0,2000)]) (zwg [(0,2000)]) fun k hk K' hL=>?_
 obtain ⟨hk,hinv⟩:=hk
 rcases hd:s.drop k with _|⟨c,r⟩
 ·have hkl:=Qs hd
  rw [hd] at hinv
  have e1:decide ((k:Int) < ((s.length:Nat):Int)) = false:=by simp;omega
  have hok:QX s = (decide ((s.length:Int)≥1) && decide ((s.length:Int)≤32)):=by rw [QX,← hinv];rfl
  rw [hok]
  rcases hq:decide ((s.length:Int)≥1) with _|_
  ·(have zx:=And.intro e1 hq);exact zg
  ·(have zx:=And.intro e1 hq);refine zgo ?_;repeat' first|exact zt|apply zan|intro hc
   all_goals first|exact zr|(refine Qn _ rfl ?_;simp only [go_sem];simp;done)
 ·obtain ⟨hk',hget,hr⟩:=Ql hd
  rw [hd] at hinv
  have hw:=Qj (k:=k) (by omega)
  have e1:decide ((k:Int) < ((s.length:Nat):Int)) = true:=by simp;omega
  rcases h1:decide ((c.toNat:Int)≤32) with _|_
  ·rcases h2:decide ((c.toNat:Int) > 126) with _|_
   ·(have zx:=And.intro e1 (And.intro hw (And.intro hget (And.intro h1 h2))));refine zgo ?_;repeat' first|exact zt|apply zan|intro hc
    all_goals first
     | exact hL _ (k + 1) (Qk [(0,0)]) ⟨by omega,by rw [hr,← hinv];simp only [List.any_cons,y8,h1,h2,Bool.or_self,Bool.false_or]⟩ (by omega) (zwg [(0,0)])
   ·have hok:QX s = false:=by rw [QX,← hinv];simp only [List.any_cons,y8,h2,Bool.or_true,Bool.true_or,Bool.not_true,Bool.false_and]
    rw [hok]
    (have zx:=And.intro e1 (And.intro hw (And.intro hget (And.intro h1 h2))));exact zg
  ·have hok:QX s = false:=by rw [QX,← hinv];simp only [List.any_cons,y8,h1,Bool.or_true,Bool.true_or,Bool.not_true,Bool.false_and]
   rw [hok]
   (have zx:=And.intro e1 (And.intro hw (And.intro hget h1)));exact zg
def jr:AC:=Qa [0] (.reg [mc 2 (V.bool false)]) (Qa [2] (.reg [mv 3 0,bc 4 .geq 3 (V.int 0),mv 5 4,mg 6 0 5 true,xg 7 (.bin .leq (.t 6) (.c (V.int 2147483648))) 5 true,xo 8 (.pick (.t 5) (.t 7) (.c (V.bool false))),mv 2 8]) .ret) def r_certificate_Key:List Jl:=[.tmp 2]
def Wh (Γ:Env) (f:Nat):Prop:=∀ (n:Int),EvN Γ f [V.int n] (V.bool (aeH n))
theorem ahB {Γ:Env} {f:Nat} (h:Has Γ.P f 9 jr r_certificate_Key) :Wh Γ f:=by
 intro n
 refine Qe h zsi zcl zcl fun C hC hm=>?_
 subst hC
 unfold jr
 unfold aeH
 refine zgo ?_;repeat' first|exact zt|apply zan|intro hc
 all_goals first|exact zr|(refine Qn _ rfl ?_;simp only [go_sem];simp [*];done)
def jq:AC:=Qa [0] (.reg [mc 2 (V.bool false)]) (Qa [2] (.reg [mv 3 0,bc 4 .geq 3 (V.int 0),mv 5 4,mg 6 0 5 true,xg 7 (.bin .lss (.t 6) (.c (V.int 4294967296))) 5 true,xo 8 (.pick (.t 5) (.t 7) (.c (V.bool false))),mv 2 8]) .ret) def r_certificate_sum:List Jl:=[.tmp 2]
def qI (Γ:Env) (f:Nat):Prop:=∀ (n:Int),EvN Γ f [V.int n] (V.bool (aw4 n))
theorem ahA {Γ:Env} {f:Nat} (h:Has Γ.P f 9 jq r_certificate_sum) :qI Γ f:=by
 intro n
 refine Qe h zsi zcl zcl fun C hC hm=>?_
 subst hC
 unfold jq
 unfold aw4
 refine zgo ?_;repeat' first|exact zt|apply zan|intro hc
 all_goals first|exact zr|(refine Qn _ rfl ?_;simp only [go_sem];simp [*];done)
def yG (YL JJ:Nat):AC:=Qa [1,2] (.reg [xo 2 (.box true 2 (.t 0)),mc 4 (V.bool false)]) (Qa [4] (.reg [xo 5 (.load true 2 (.t 2)),cl 6 YL [5],mv 7 6,xg 8 (.faddr 0 (.t 2)) 7 true,xg 9 (.load false 1 (.t 8)) 7 true,xg 10 (.call JJ [(.t 9)]) 7 true,mg 11 1 7 true,xg 12 (.bin .eql (.t 10) (.t 11)) 7 true,xo 13 (.pick (.t 7) (.t 12) (.c (V.bool false))),mv 4 13]) .ret) def r_certificate_of:List Jl:=[.tmp 4]
def jF (Γ:Env) (f:Nat):Prop:=∀ (a b k:Int),EvN Γ f [.agg [V.int a,V.int b],V.int k] (V.bool (an9 a b k))
theorem aiI {Γ:Env} {f YL JJ:Nat} (h:Has Γ.P f 14 (yG YL JJ) r_certificate_of) (z0:U8 Γ YL) (z1:VV Γ JJ):jF Γ f:=by
 intro a b k
 refine Qe h zsi zcl zcl fun C hC hm=>?_
 subst hC
 unfold yG
 unfold an9
 rcases hq:decide (Jr a b > 0) with _|_
 ·(have zx:=hq);refine zgo ?_;repeat' first|exact zt|apply zan|intro hc
  all_goals first|exact zr|(refine Qn _ rfl ?_;simp only [go_sem];simp [*];done)
 ·(have zx:=hq);refine zgo ?_;repeat' first|exact zt|apply zan|intro hc
  all_goals first|exact zr|(refine Qn _ rfl ?_;simp only [go_sem];simp [*];done)
def Kh (Qy:Nat):AC:=Qa [0] (.reg [mc 2 (V.bool false)]) (Qa [0] (Qa [0,5,6,7] (.reg [mv 5 0,ln 6 5,mc 7 (V.int 0)]) (.block 0 (JH [0,5,6,7] (Qa [0,5,6,7,8] (.reg [bn 8 .lss 7 6]) (Qa [0,5,6,7] (.cond (.t 8) .skip (.exit 0)) (Qa [0,5,6,7] (.block 1 (Qa [0,3,4,5,6,7] (.reg [mv 9 7,ia 10 1 5 7,ld 11 1 10,mv 3 9,mv 4 11]) (Qa [0,5,6,7,27] (.reg [mv 12 4,cl 13 Qy [12],xo 14 (.un .not (.t 13)),mv 15 14,mg 16 3 15 false,xg 17 (.bin .gtr (.t 16) (.c (V.int 0))) 15 false,mg 18 17 15 false,mg 19 0 18 true,mg 20 3 18 true,xg 21 (.bin .sub (.t 20) (.c (V.int 1))) 18 true,xg 22 (.iaddr 1 (.t 19) (.t 21)) 18 true,xg 23 (.load false 1 (.t 22)) 18 true,mg 24 4 18 true,xg 25 (.bin .geq (.t 23) (.t 24)) 18 true,xg 26 (.pick (.t 18) (.t 25) (.c (V.bool false))) 15 false,xo 27 (.pick (.t 15) (.c (V.bool true)) (.t 26))]) (.cond (.t 27) (Qa [2] (.reg [mc 2 (V.bool false)]) .ret) .skip)))) (.reg [bc 28 .add 7 (V.int 1),mv 7 28]))))))) (Qa [2] (.reg [mv 29 0,ln 30 29,bc 31 .leq 30 (V.int 8),mv 2 31]) .ret)) def r_certificate_named:List Jl:=[.tmp 2]
def UC (Γ:Env) (f:Nat):Prop:=∀ (l:List (List UInt8)) (hl:l.length < 2 ^ 60) (hn:∀ x∈l,x.length < 2 ^ 60),EvN Γ f [.sl 1 (l.map V.str)] (V.bool (acI l))
attribute [local go_sem] List.length_map in
theorem aeW {Γ:Env} {f Qy:Nat} (h:Has Γ.P f 32 (Kh Qy) r_certificate_named) (z0:Vm Γ Qy):UC Γ f:=by
 intro l hl hn
 refine Qe h zsi zcl zcl fun C hC hm=>?_
 subst hC
 unfold Kh
 refine zgo ?_;repeat' first|exact zt|apply zan|intro hc
 refine QP (ι:=Nat) (fun k=>k≤l.length∧okP QX Op.bytesLess l k = true) (fun k=>[(7,V.int k)]) (fun k=>l.length - k) 0 (by omega) ⟨Nat.zero_le _,rfl⟩ (by repeat' first|exact Q8|refine JD (by omega) (by simp only [Ob.lt,ltL,V.lt,and_self,and_true];try omega) ?_) (fun i hi=>by simp only [ovT,Ji,Nat.reduceEqDiff,reduceIte];(repeat' first|exact JC|refine Q7 ?_ ?_|simp only [V.lt,ltL,and_self,and_true]|omega)) zet fun k hk K' hL=>?_
 obtain ⟨hk,hinv⟩:=hk
 simp only [ovT,Ji,Nat.reduceEqDiff,reduceIte]
 rcases hd:l.drop k with _|⟨x,r⟩
 ·have hkl:=Qs hd
  have e1:decide ((k:Int) < (((l.map V.str).length:Nat):Int)) = false:=by simp;omega
  have hkk:k = l.length:=by omega
  subst hkk
  rw [acI,hinv,Bool.true_and]
  (have zx:=e1);exact zg
 ·obtain ⟨hk',hget,hr⟩:=Ql hd
  have hw:=Qj (k:=k) (by omega)
  have e1:decide ((k:Int) < (((l.map V.str).length:Nat):Int)) = true:=by simp;omega
  have hnx:=(z0 x (hn x (List.mem_of_getElem? hget))).b
  have hbad:okP QX Op.bytesLess l (k + 1) = false→acI l = false:=fun h=>by rw [acI,akA h (by omega),Bool.false_and]
  rcases hx:QX x with _|_
  ·have hb:okP QX Op.bytesLess l (k + 1) = false:=by rw [vX,hget];simp [hx]
   rw [hbad hb]
   rw [hx] at hnx
   (have zx:=And.intro e1 (And.intro hw hget));exact zg
  ·rw [hx] at hnx
   rcases k with _|k
   ·have hw0:IntKind.i64.wrap 1 = ((1:Nat):Int):=by decide
    have hg1:okP QX Op.bytesLess l (0 + 1) = true:=by rw [akz hget,hx]
    have e2:decide (((0:Nat):Int) > 0) = false:=rfl
    (have zx:=And.intro e1 (And.intro e2 (And.intro hw (And.intro hw0 hget))));refine zgo ?_;repeat' first|exact zt|apply zan|intro hc
    all_goals first|exact hL _ 1 zet ⟨by omega,hg1⟩ (by omega) (fun a ha=>by simp only [u32,u33,u34,u35,u36,u37,u38,u39];repeat rw [if_neg (by omega)])
   ·have e2:decide (((k + 1:Nat):Int) > 0) = true:=decide_eq_true (by omega)
    have hw2:IntKind.i64.wrap (((k + 1:Nat):Int) - 1) = (k:Int):=by rw [Yv (by omega) (by omega)];omega
    obtain ⟨y,hgy⟩:∃ y,l[k]? = some y:=⟨_,List.getElem?_eq_getElem (by omega)⟩
    have hnext:=agV (p:=QX) (q:=Op.bytesLess) hget hgy
    rw [hinv,hx] at hnext
    rcases hb:Op.bytesLess y x with _|_
    ·rw [hbad (by rw [hnext,hb];rfl)]
     (have zx:=And.intro e1 (And.intro e2 (And.intro hw (And.intro hw2 (And.intro hget (And.intro hgy hb))))));exact zg
    ·(have zx:=And.intro e1 (And.intro e2 (And.intro hw (And.intro hw2 (And.intro hget (And.intro hgy hb))))));refine zgo ?_;repeat' first|exact zt|apply zan|intro hc
     all_goals first|exact hL _ (k + 2) zet ⟨by omega,by rw [hnext,hb];rfl⟩ (by omega) (fun a ha=>by simp only [u32,u33,u34,u35,u36,u37,u38,u39];repeat rw [if_neg (by omega)])
def Kg (Qy W6 Vi Qo V5:Nat):AC:=Qa [1] (.reg [xo 1 (.box true 15 (.t 0)),mc 2 (V.bool false)]) (Qa [1] (Qa [1,28] (.reg [fa 3 0 1,ld 4 1 3,bc 5 .lss 4 (V.int 0),mv 6 5,xg 7 (.faddr 0 (.t 1)) 6 false,xg 8 (.load false 1 (.t 7)) 6 false,xg 9 (.bin .gtr (.t 8) (.c (V.int 1099511627776))) 6 false,xo 10 (.pick (.t 6) (.c (V.bool true)) (.t 9)),mv 11 10,xg 12 (.faddr 1 (.t 1)) 11 false,xg 13 (.load false 1 (.t 12)) 11 false,xg 14 (.call Qy [(.t 13)]) 11 false,xg 15 (.un .not (.t 14)) 11 false,xo 16 (.pick (.t 11) (.c (V.bool true)) (.t 15)),mv 17 16,xg 18 (.faddr 2 (.t 1)) 17 false,xg 19 (.load false 1 (.t 18)) 17 false,xg 20 (.call Qy [(.t 19)]) 17 false,xg 21 (.un .not (.t 20)) 17 false,xo 22 (.pick (.t 17) (.c (V.bool true)) (.t 21)),mv 23 22,xg 24 (.faddr 12 (.t 1)) 23 false,xg 25 (.load false 1 (.t 24)) 23 false,xg 26 (.call W6 [(.t 25)]) 23 false,xg 27 (.un .not (.t 26)) 23 false,xo 28 (.pick (.t 23) (.c (V.bool true)) (.t 27))]) (.cond (.t 28) (Qa [2] (.reg [mc 2 (V.bool false)]) .ret) .skip)) (Qa [1] (Qa [1,58] (.reg [fa 29 3 1,xo 30 (.load true 2 (.t 29)),xo 31 (.call Vi [(.t 30),(.c (V.int 2))]),xo 32 (.un .not (.t 31)),mv 33 32,xg 34 (.faddr 5 (.t 1)) 33 false,xg 35 (.load false 1 (.t 34)) 33 false,xg 36 (.call Qo [(.t 35)]) 33 false,xg 37 (.un .not (.t 36)) 33 false,xo 38 (.pick (.t 33) (.c (V.bool true)) (.t 37)),mv 39 38,xg 40 (.faddr 6 (.t 1)) 39 false,xg 41 (.load true 2 (.t 40)) 39 false,xg 42 (.call Vi [(.t 41),(.c (V.int 1))]) 39 false,xg 43 (.un .not (.t 42)) 39 false,xo 44 (.pick (.t 39) (.c (V.bool true)) (.t 43)),mv 45 44,xg 46 (.faddr 13 (.t 1)) 45 false,xg 47 (.faddr 0 (.t 46)) 45 false,xg 48 (.load false 1 (.t 47)) 45 false,xg 49 (.call Qo [(.t 48)]) 45 false,xg 50 (.un .not (.t 49)) 45 false,xo 51 (.pick (.t 45) (.c (V.bool true)) (.t 50)),mv 52 51,xg 53 (.faddr 13 (.t 1)) 52 false,xg 54 (.faddr 1 (.t 53)) 52 false,xg 55 (.load false 1 (.t 54)) 52 false,xg 56 (.call V5 [(.t 55)]) 52 false,xg 57 (.un .not (.t 56)) 52 false,xo 58 (.pick (.t 52) (.c (V.bool true)) (.t 57))]) (.cond (.t 58) (Qa [2] (.reg [mc 2 (V.bool false)]) .ret) .skip)) (Qa [1] (Qa [1,73] (.reg [fa 59 8 1,ld 60 1 59,bc 61 .lss 60 (V.int 0),mv 62 61,xg 63 (.faddr 8 (.t 1)) 62 false,xg 64 (.load false 1 (.t 63)) 62 false,xg 65 (.faddr 9 (.t 1)) 62 false,xg 66 (.load false 1 (.t 65)) 62 false,xg 67 (.bin .gtr (.t 64) (.t 66)) 62 false,xo 68 (.pick (.t 62) (.c (V.bool true)) (.t 67)),mv 69 68,xg 70 (.faddr 9 (.t 1)) 69 false,xg 71 (.load false 1 (.t 70)) 69 false,xg 72 (.bin .gtr (.t 71) (.c (V.int 40000))) 69 false,xo 73 (.pick (.t 69) (.c (V.bool true)) (.t 72))]) (.cond (.t 73) (Qa [2] (.reg [mc 2 (V.bool false)]) .ret) .skip)) (Qa [2] (.reg [fa 74 11 1,ld 75 1 74,bc 76 .geq 75 (V.int 0),mv 77 76,xg 78 (.faddr 11 (.t 1)) 77 true,xg 79 (.load false 1 (.t 78)) 77 true,xg 80 (.bin .leq (.t 79) (.c (V.int 8))) 77 true,xo 81 (.pick (.t 77) (.t 80) (.c (V.bool false))),mv 82 81,xg 83 (.faddr 10 (.t 1)) 82 true,xg 84 (.load false 1 (.t 83)) 82 true,mg 85 84 82 true,xg 86 (.faddr 11 (.t 1)) 85 false,xg 87 (.load false 1 (.t 86)) 85 false,xg 88 (.bin .eql (.t 87) (.c (V.int 0))) 85 false,xg 89 (.pick (.t 85) (.c (V.bool true)) (.t 88)) 82 true,xo 90 (.pick (.t 82) (.t 89) (.c (V.bool false))),mv 2 90]) .ret)))) def r_certificate_valid:List Jl:=[.tmp 2]
def UB (Γ:Env) (f:Nat):Prop:=∀ (c:Qw) (h1:c.issuer.length < 2 ^ 60) (h2:c.subject.length < 2 ^ 60) (h3:c.names.length < 2 ^ 60) (h4:∀ x∈c.names,x.length < 2 ^ 60),EvN Γ f [c.v] (V.bool (KH c))
theorem aeV {Γ:Env} {f Qy W6 Vi Qo V5:Nat} (h:Has Γ.P f 91 (Kg Qy W6 Vi Qo V5) r_certificate_valid) (z0:Vm Γ Qy) (z1:UC Γ W6) (z2:jF Γ Vi) (z3:Wh Γ Qo) (z4:qI Γ V5):UB Γ f:=by
 intro c h1 h2 h3 h4
 refine Qe h zsi zcl zcl fun C hC hm=>?_
 subst hC
 unfold Kg
 have hn:=(z1 c.names h3 h4).b
 have ha:=(z0 c.issuer h1).b
 have hb:=(z0 c.subject h2).b
 simp only [Qw.v,Qw.cells]
 refine zgo ?_;repeat' first|exact zt|apply zan|intro hc
 all_goals first|(refine Qn _ rfl ?_;simp only [go_sem];simp [KH,anT,ape,ash,apd, *];done)
def Ki (W5:Nat):AC:=Qa [1] (.reg [xo 1 (.box true 15 (.t 0)),mc 2 (V.int 0)]) (Qa [] (Qa [5] (.reg [xo 3 (.load true 15 (.t 1)),cl 4 W5 [3],xo 5 (.un .not (.t 4))]) (.cond (.t 5) (Qa [2] (.reg [mc 2 (V.int 9)]) .ret) .skip)) (Qa [2] (.reg [mc 2 (V.int 0)]) .ret)) def r_certificate_Check:List Jl:=[.tmp 2]
def UD (Γ:Env) (f:Nat):Prop:=∀ (c:Qw) (h1:c.issuer.length < 2 ^ 60) (h2:c.subject.length < 2 ^ 60) (h3:c.names.length < 2 ^ 60) (h4:∀ x∈c.names,x.length < 2 ^ 60),EvN Γ f [c.v] (V.int (if KH c = true then 0 else 9))
theorem aeX {Γ:Env} {f W5:Nat} (h:Has Γ.P f 6 (Ki W5) r_certificate_Check) (z0:UB Γ W5):UD Γ f:=by
 intro c h1 h2 h3 h4
 refine Qe h zsi zcl zcl fun C hC hm=>?_
 subst hC
 unfold Ki
 have hv:=(z0 c h1 h2 h3 h4).b
 simp only [Qw.v,Qw.cells] at hv ⊢
 rcases hc2:KH c with _|_
 ·rw [hc2] at hv
  exact zg
 ·rw [hc2] at hv
  exact zg
def jg (XD Ja:Nat):AC:=Qa [1] (.reg [xo 1 (.box true 2 (.t 0)),mc 2 (V.bool false)]) (Qa [2] (.reg [xo 3 (.load true 2 (.t 1)),cl 4 XD [3],mv 5 4,xg 6 (.faddr 0 (.t 1)) 5 true,xg 7 (.load false 1 (.t 6)) 5 true,xg 8 (.call Ja [(.t 7)]) 5 true,xg 9 (.bin .eql (.t 8) (.c (V.int 2))) 5 true,xo 10 (.pick (.t 5) (.t 9) (.c (V.bool false))),mv 2 10]) .ret) def r_ref03_Signature:List Jl:=[.tmp 2]
def VE (Γ:Env) (f:Nat):Prop:=∀ (a b:Int),EvN Γ f [.agg [V.int a,V.int b]] (V.bool (an9 a b 2))
theorem ahq {Γ:Env} {f XD Ja:Nat} (h:Has Γ.P f 11 (jg XD Ja) r_ref03_Signature) (z0:jT Γ XD) (z1:qC Γ Ja):VE Γ f:=by
 intro a b
 refine Qe h zsi zcl zcl fun C hC hm=>?_
 subst hC
 unfold jg
 unfold an9
 rcases hq:decide (Jr a b > 0) with _|_
 ·(have zx:=hq);refine zgo ?_;repeat' first|exact zt|apply zan|intro hc
  all_goals first|exact zr|(refine Qn _ rfl ?_;simp only [go_sem];simp [*];done)
 ·(have zx:=hq);refine zgo ?_;repeat' first|exact zt|apply zan|intro hc
  all_goals first|exact zr|(refine Qn _ rfl ?_;simp only [go_sem];simp [*];done)
def adw (Jt:Nat):List AO:=[fa 99 12 1,ld 100 1 99,mv 101 3,ia 102 1 100 101,ld 103 1 102,cl 104 Jt [103],xo 105 (.un .not (.t 104)),mv 106 105,mg 107 3 106 false,xg 108 (.bin .gtr (.t 107) (.c (V.int 0))) 106 false,mg 109 108 106 false,xg 110 (.faddr 12 (.t 1)) 109 true,xg 111 (.load false 1 (.t 110)) 109 true,mg 112 3 109 true,xg 113 (.bin .sub (.t 112) (.c (V.int 1))) 109 true,xg 114 (.iaddr 1 (.t 111) (.t 113)) 109 true,xg 115 (.load false 1 (.t 114)) 109 true,xg 116 (.faddr 12 (.t 1)) 109 true,xg 117 (.load false 1 (.t 116)) 109 true,mg 118 3 109 true,xg 119 (.iaddr 1 (.t 117) (.t 118)) 109 true,xg 120 (.load false 1 (.t 119)) 109 true,xg 121 (.bin .geq (.t 115) (.t 120)) 109 true,xg 122 (.pick (.t 109) (.t 121) (.c (V.bool false))) 106 false,xo 123 (.pick (.t 106) (.c (V.bool true)) (.t 122))]
def aeg:List (List Nat):=[[],[0],[],[1,2],[3],[4],[5],[6,5],[7],[8,7],[9,7,7],[10],[11,10],[10],[13,10],[12,14,10],[15,10],[10],[17,10],[10],[18,19,10],[20,10],[16,21,10],[10,22,7],[7,23]]
def ac9:OT:=.one 0 (.one 1 (.one 2 (.one 3 (.one 4 (.one 5 (.one 6 (.one 7 (.one 8 (.one 9 (.one 10 (.one 11 (.one 12 (.one 13 (.one 14 (.one 15 (.one 16 (.one 17 (.one 18 (.one 19 (.one 20 (.one 21 (.one 22 (.one 23 (.one 24 .done))))))))))))))))))))))))
@[go_sem] def adm (Jt:Nat):OP:=oN 0 (fa 99 12 1) (oN 1 (ld 100 1 99) (oN 2 (mv 101 3) (oN 3 (ia 102 1 100 101) (oN 4 (ld 103 1 102) (oN 5 (cl 104 Jt [103]) (oN 6 (xo 105 (.un .not (.t 104))) (oN 7 (mv 106 105) (oN 8 (mg 107 3 106 false) (oN 9 (xg 108 (.bin .gtr (.t 107) (.c (V.int 0))) 106 false) (oN 10 (mg 109 108 106 false) (oN 11 (xg 110 (.faddr 12 (.t 1)) 109 true) (.one 12 false [5] (xg 111 (.load false 1 (.t 110)) 109 true) (oN 13 (mg 112 3 109 true) (oN 14 (xg 113 (.bin .sub (.t 112) (.c (V.int 1))) 109 true) (.one 15 false [5] (xg 114 (.iaddr 1 (.t 111) (.t 113)) 109 true) (.one 16 false [5] (xg 115 (.load false 1 (.t 114)) 109 true) (oN 17 (xg 116 (.faddr 12 (.t 1)) 109 true) (.one 18 false [5] (xg 117 (.load false 1 (.t 116)) 109 true) (oN 19 (mg 118 3 109 true) (.one 20 false [5] (xg 119 (.iaddr 1 (.t 117) (.t 118)) 109 true) (.one 21 false [5] (xg 120 (.load false 1 (.t 119)) 109 true) (oN 22 (xg 121 (.bin .geq (.t 115) (.t 120)) 109 true) (oN 23 (xg 122 (.pick (.t 109) (.t 121) (.c (V.bool false))) 106 false) (oN 24 (xo 123 (.pick (.t 106) (.c (V.bool true)) (.t 122))) .done))))))))))))))))))))))))
instance (Jt:Nat):RG [] ac9 (adm Jt) (adw Jt) aeg 25 (fun _=>true):=⟨rfl,by kernel_rfl,by kernel_rfl⟩
def ab4 (Jt J7 XD Ja:Nat):AC:=Qa [1] (.reg [xo 1 (.box true 15 (.t 0)),mc 2 (V.int 0)]) (Qa [1] (Qa [1,39] (.reg [fa 4 0 1,ld 5 1 4,bc 6 .lss 5 (V.int 0),mv 7 6,xg 8 (.faddr 0 (.t 1)) 7 false,xg 9 (.load false 1 (.t 8)) 7 false,xg 10 (.bin .gtr (.t 9) (.c (V.int 1099511627776))) 7 false,xo 11 (.pick (.t 7) (.c (V.bool true)) (.t 10)),mv 12 11,xg 13 (.faddr 1 (.t 1)) 12 false,xg 14 (.load false 1 (.t 13)) 12 false,xg 15 (.call Jt [(.t 14)]) 12 false,xg 16 (.un .not (.t 15)) 12 false,xo 17 (.pick (.t 12) (.c (V.bool true)) (.t 16)),mv 18 17,xg 19 (.faddr 2 (.t 1)) 18 false,xg 20 (.load false 1 (.t 19)) 18 false,xg 21 (.call Jt [(.t 20)]) 18 false,xg 22 (.un .not (.t 21)) 18 false,xo 23 (.pick (.t 18) (.c (V.bool true)) (.t 22)),mv 24 23,xg 25 (.faddr 3 (.t 1)) 24 false,xg 26 (.load true 2 (.t 25)) 24 false,xg 27 (.call J7 [(.t 26)]) 24 false,xg 28 (.un .not (.t 27)) 24 false,xo 29 (.pick (.t 24) (.c (V.bool true)) (.t 28)),mv 30 29,xg 31 (.faddr 5 (.t 1)) 30 false,xg 32 (.load false 1 (.t 31)) 30 false,xg 33 (.bin .lss (.t 32) (.c (V.int 0))) 30 false,xo 34 (.pick (.t 30) (.c (V.bool true)) (.t 33)),mv 35 34,xg 36 (.faddr 5 (.t 1)) 35 false,xg 37 (.load false 1 (.t 36)) 35 false,xg 38 (.bin .gtr (.t 37) (.c (V.int 2147483648))) 35 false,xo 39 (.pick (.t 35) (.c (V.bool true)) (.t 38))]) (.cond (.t 39) (Qa [2] (.reg [mc 2 (V.int 9)]) .ret) .skip)) (Qa [1] (Qa [1,67] (.reg [fa 40 6 1,xo 41 (.load true 2 (.t 40)),cl 42 XD [41],xo 43 (.un .not (.t 42)),mv 44 43,xg 45 (.faddr 6 (.t 1)) 44 false,xg 46 (.faddr 0 (.t 45)) 44 false,xg 47 (.load false 1 (.t 46)) 44 false,xg 48 (.call Ja [(.t 47)]) 44 false,xg 49 (.bin .neq (.t 48) (.c (V.int 1))) 44 false,xo 50 (.pick (.t 44) (.c (V.bool true)) (.t 49)),mv 51 50,xg 52 (.faddr 8 (.t 1)) 51 false,xg 53 (.load false 1 (.t 52)) 51 false,xg 54 (.bin .lss (.t 53) (.c (V.int 0))) 51 false,xo 55 (.pick (.t 51) (.c (V.bool true)) (.t 54)),mv 56 55,xg 57 (.faddr 8 (.t 1)) 56 false,xg 58 (.load false 1 (.t 57)) 56 false,xg 59 (.faddr 9 (.t 1)) 56 false,xg 60 (.load false 1 (.t 59)) 56 false,xg 61 (.bin .gtr (.t 58) (.t 60)) 56 false,xo 62 (.pick (.t 56) (.c (V.bool true)) (.t 61)),mv 63 62,xg 64 (.faddr 9 (.t 1)) 63 false,xg 65 (.load false 1 (.t 64)) 63 false,xg 66 (.bin .gtr (.t 65) (.c (V.int 40000))) 63 false,xo 67 (.pick (.t 63) (.c (V.bool true)) (.t 66))]) (.cond (.t 67) (Qa [2] (.reg [mc 2 (V.int 9)]) .ret) .skip)) (Qa [1] (Qa [1,91] (.reg [fa 68 11 1,ld 69 1 68,bc 70 .lss 69 (V.int 0),mv 71 70,xg 72 (.faddr 11 (.t 1)) 71 false,xg 73 (.load false 1 (.t 72)) 71 false,xg 74 (.bin .gtr (.t 73) (.c (V.int 8))) 71 false,xo 75 (.pick (.t 71) (.c (V.bool true)) (.t 74)),mv 76 75,xg 77 (.faddr 10 (.t 1)) 76 false,xg 78 (.load false 1 (.t 77)) 76 false,xg 79 (.un .not (.t 78)) 76 false,mg 80 79 76 false,xg 81 (.faddr 11 (.t 1)) 80 true,xg 82 (.load false 1 (.t 81)) 80 true,xg 83 (.bin .neq (.t 82) (.c (V.int 0))) 80 true,xg 84 (.pick (.t 80) (.t 83) (.c (V.bool false))) 76 false,xo 85 (.pick (.t 76) (.c (V.bool true)) (.t 84)),mv 86 85,xg 87 (.faddr 12 (.t 1)) 86 false,xg 88 (.load false 1 (.t 87)) 86 false,xg 89 (.lenL (.t 88)) 86 false,xg 90 (.bin .gtr (.t 89) (.c (V.int 8))) 86 false,xo 91 (.pick (.t 86) (.c (V.bool true)) (.t 90))]) (.cond (.t 91) (Qa [2] (.reg [mc 2 (V.int 9)]) .ret) .skip)) (Qa [1] (Qa [1,3] (.reg [mc 3 (V.int 0)]) (.block 0 (JH [1,3] (Qa [1,3] (Qa [1,3,96] (.reg [mv 92 3,fa 93 12 1,ld 94 1 93,ln 95 94,bn 96 .lss 92 95]) (.cond (.t 96) .skip (.exit 0))) (Qa [1,3] (.block 1 (Qa [1,3,123] (yh [] ac9 (adm Jt) (adw Jt) aeg) (.cond (.t 123) (Qa [2] (.reg [mc 2 (V.int 9)]) .ret) .skip))) (.reg [mv 97 3,bc 98 .add 97 (V.int 1),mv 3 98])))))) (Qa [] (Qa [145] (.reg [fa 124 13 1,fa 125 0 124,ld 126 1 125,bc 127 .lss 126 (V.int 0),mv 128 127,xg 129 (.faddr 13 (.t 1)) 128 false,xg 130 (.faddr 0 (.t 129)) 128 false,xg 131 (.load false 1 (.t 130)) 128 false,xg 132 (.bin .gtr (.t 131) (.c (V.int 2147483648))) 128 false,xo 133 (.pick (.t 128) (.c (V.bool true)) (.t 132)),mv 134 133,xg 135 (.faddr 13 (.t 1)) 134 false,xg 136 (.faddr 1 (.t 135)) 134 false,xg 137 (.load false 1 (.t 136)) 134 false,xg 138 (.bin .lss (.t 137) (.c (V.int 0))) 134 false,xo 139 (.pick (.t 134) (.c (V.bool true)) (.t 138)),mv 140 139,xg 141 (.faddr 13 (.t 1)) 140 false,xg 142 (.faddr 1 (.t 141)) 140 false,xg 143 (.load false 1 (.t 142)) 140 false,xg 144 (.bin .geq (.t 143) (.c (V.int 4294967296))) 140 false,xo 145 (.pick (.t 140) (.c (V.bool true)) (.t 144))]) (.cond (.t 145) (Qa [2] (.reg [mc 2 (V.int 9)]) .ret) .skip)) (Qa [2] (.reg [mc 2 (V.int 0)]) .ret)))))) def r_ref03_Check:List Jl:=[.tmp 2]
def UY (Γ:Env) (f:Nat):Prop:=∀ (c:Qw) (h1:c.issuer.length < 2 ^ 60) (h2:c.subject.length < 2 ^ 60) (h3:c.names.length < 2 ^ 60) (h4:∀ x∈c.names,x.length < 2 ^ 60),EvN Γ f [c.v] (V.int (if KH c = true then 0 else 9))
theorem alX {Γ:Env} {f Jt J7 XD Ja:Nat} (h:Has Γ.P f 146 (ab4 Jt J7 XD Ja) r_ref03_Check) (z0:xM Γ Jt) (z1:VE Γ J7) (z2:jT Γ XD) (z3:qC Γ Ja):UY Γ f:=by
 intro c h1 h2 h3 h4
 refine Qe h zsi zcl zcl fun C hC hm=>?_
 subst hC
 unfold ab4
 have ha:=(z0 c.issuer h1).b
 have hb:=(z0 c.subject h2).b
 have nlen:c.names.length > 8→acI c.names = false:=fun h=>by simp [acI];intro _;omega
 have no1:anT c = true→(if KH c = true then (0:Int) else 9) = 9:=fun h=>by simp [KH,h]
 have no2:ape c = true→(if KH c = true then (0:Int) else 9) = 9:=fun h=>by simp [KH,h]
 have no3:ash c = true→(if KH c = true then (0:Int) else 9) = 9:=fun h=>by simp [KH,h]
 have no4:apd c = false→(if KH c = true then (0:Int) else 9) = 9:=fun h=>by simp [KH,h]
 have hlm:(c.names.map V.str).length = c.names.length:=List.length_map _
 simp only [Qw.v,Qw.cells]
 (have zx:=hlm);refine zgo ?_;repeat' first|exact zt|apply zan|intro hc
 all_goals (try simp only [bne_eq_false_iff_eq,bne_iff_ne,ne_eq] at *)
 all_goals first|(rw [no1]<;>first|(have q:=nlen (by omega);simp [anT,q];done)|exact zr)|(rw [no1]<;>first|(simp [anT,acI, *];done)|exact zr)|(rw [no2]<;>first|(simp [ape,aeH,aw4, *];done)|exact zr)|(rw [no2]<;>first|(simp [ape,an9, *];done)|exact zr)|(rw [no3]<;>first|(simp [ash, *];done)|exact zr)|(rw [no4]<;>first|(simp [apd, *];done)|(simp [apd];intros;omega)|exact zr)|skip
 all_goals
  have hu:an9 c.halg c.hbits 1 = true:=by simp [an9, *]
  refine QP (ι:=Nat) (fun k=>k≤c.names.length∧okP QX Op.bytesLess c.names k = true) (fun k=>[(3,V.int k)]) (fun k=>c.names.length - k) 0 (by omega) ⟨Nat.zero_le _,rfl⟩ (by repeat' first|exact Q8|refine JD (by omega) (by simp only [Ob.lt,ltL,V.lt,and_self,and_true];try omega) ?_) (fun i hi=>by simp only [ovT,Ji,Nat.reduceEqDiff,reduceIte];(repeat' first|exact JC|refine Q7 ?_ ?_|simp only [V.lt,ltL,and_self,and_true]|omega)) zet fun k hk K' hL=>?_
  obtain ⟨hk,hinv⟩:=hk
  simp only [ovT,Ji,Nat.reduceEqDiff,reduceIte]
  rcases hd:c.names.drop k with _|⟨x,r⟩
  ·have hkl:=Qs hd
   have e1:decide ((k:Int) < ((c.names.length:Nat):Int)) = false:=by simp;omega
   have hkk:k = c.names.length:=by omega
   subst hkk
   have hN:okP QX Op.bytesLess c.names c.names.length = true:=hinv
   (have zx:=And.intro e1 hlm);refine zgo ?_;repeat' first|exact zt|apply zan|intro hc
   all_goals (try simp only [bne_eq_false_iff_eq,bne_iff_ne,ne_eq] at *)
   all_goals first|(rw [no1]<;>first|(have q:=nlen (by omega);simp [anT,q];done)|exact zr)|(rw [no1]<;>first|(simp [anT,acI, *];done)|exact zr)|(rw [no2]<;>first|(simp [ape,aeH,aw4, *];done)|exact zr)|(rw [no2]<;>first|(simp [ape,an9, *];done)|exact zr)|(rw [no3]<;>first|(simp [ash, *];done)|exact zr)|(rw [no4]<;>first|(simp [apd, *];done)|(simp [apd];intros;omega)|exact zr)|(refine Qn _ rfl ?_;simp only [go_sem];simp [KH,anT,ape,ash,apd,aeH,aw4,acI, *];done)
  ·obtain ⟨hk',hget,hr⟩:=Ql hd
   have hw:=Qj (k:=k) (by omega)
   have e1:decide ((k:Int) < ((c.names.length:Nat):Int)) = true:=by simp;omega
   have hnx:=(z0 x (h4 x (List.mem_of_getElem? hget))).b
   have hbad:okP QX Op.bytesLess c.names (k + 1) = false→(if KH c = true then (0:Int) else 9) = 9:=fun h=>by
    have:acI c.names = false:=by rw [acI,akA h (by omega),Bool.false_and]
    simp [KH,anT,this]
   rcases hx:QX x with _|_
   ·have hb:okP QX Op.bytesLess c.names (k + 1) = false:=by rw [vX,hget];simp [hx]
    rw [hbad hb]
    rw [hx] at hnx
    (have zx:=And.intro e1 (And.intro hw (And.intro hlm hget)));exact zg
   ·rw [hx] at hnx
    rcases k with _|k
    ·have hw0:IntKind.i64.wrap 1 = ((1:Nat):Int):=by decide
     have hg1:okP QX Op.bytesLess c.names (0 + 1) = true:=by rw [akz hget,hx]
     have e2:decide (((0:Nat):Int) > 0) = false:=rfl
     (have zx:=And.intro e1 (And.intro e2 (And.intro hw (And.intro hw0 (And.intro hlm hget)))));refine zgo ?_;repeat' first|exact zt|apply zan|intro hc
     all_goals first|exact hL _ 1 zet ⟨by omega,hg1⟩ (by omega) (fun a ha=>by simp only [u32,u33,u34,u35,u36,u37,u38,u39];repeat rw [if_neg (by omega)])
    ·have e2:decide (((k + 1:Nat):Int) > 0) = true:=decide_eq_true (by omega)
     have hw2:IntKind.i64.wrap (((k + 1:Nat):Int) - 1) = (k:Int):=by rw [Yv (by omega) (by omega)];omega
     obtain ⟨y,hgy⟩:∃ y,c.names[k]? = some y:=⟨_,List.getElem?_eq_getElem (by omega)⟩
     have hnext:=agV (p:=QX) (q:=Op.bytesLess) hget hgy
     rw [hinv,hx] at hnext
     rcases hb:Op.bytesLess y x with _|_
     ·rw [hbad (by rw [hnext,hb];rfl)]
      (have zx:=And.intro e1 (And.intro e2 (And.intro hw (And.intro hw2 (And.intro hlm (And.intro hget (And.intro hgy hb)))))));exact zg
     ·(have zx:=And.intro e1 (And.intro e2 (And.intro hw (And.intro hw2 (And.intro hlm (And.intro hget (And.intro hgy hb)))))));refine zgo ?_;repeat' first|exact zt|apply zan|intro hc
      all_goals first|exact hL _ (k + 2) zet ⟨by omega,by rw [hnext,hb];rfl⟩ (by omega) (fun a ha=>by simp only [u32,u33,u34,u35,u36,u37,u38,u39];repeat rw [if_neg (by omega)])
structure Qw.Sm (c:Qw):Prop where
 h1:c.issuer.length < 2 ^ 60
 h2:c.subject.length < 2 ^ 60
 h3:c.names.length < 2 ^ 60
 h4:∀ x∈c.names,x.length < 2 ^ 60
def ap2 (a b id:Int) (l:List Qw):Bool:=match l with|[]=>true|c :: _=>((c.kalg == a && c.kbits == b) && (c.kid == id))
def yi (a b id:Int) (l:List Qw):Bool:=an9 a b 2 && (aeH id && (decide ((l.length:Int)≤8) && (l.all KH && ap2 a b id l)))
theorem aom {a b id:Int} {l:List Qw} {c:Qw} (h:c∈l) (hc:KH c = false):yi a b id l = false:=by
 have:l.all KH = false:=List.all_eq_false.2 ⟨c,h,by simp [hc]⟩
 simp [yi,this]
theorem ahO {α:Type} {p:α→Bool} {l:List α} {k:Nat} {x:α} (h:l[k]? = some x) (hp:(l.take k).all p = true) (hx:p x = true):(l.take (k + 1)).all p = true:=by
 rw [List.take_add_one,h,List.all_append,hp];simp [hx]
def v6:List AO:=[mv 38 2,ln 39 38,bc 40 .eql 39 (V.int 0),mv 41 40,mg 42 2 41 false,xg 43 (.iaddr 15 (.t 42) (.c (V.int 0))) 41 false,xg 44 (.faddr 3 (.t 43)) 41 false,xg 45 (.load true 2 (.t 44)) 41 false,xg 46 (.load true 2 (.t 3)) 41 false,xg 47 (.eqagg false [0,0] (.t 45) (.t 46)) 41 false,mg 48 47 41 false,mg 49 2 48 true,xg 50 (.iaddr 15 (.t 49) (.c (V.int 0))) 48 true,xg 51 (.faddr 5 (.t 50)) 48 true,xg 52 (.load false 1 (.t 51)) 48 true,mg 53 1 48 true,xg 54 (.bin .eql (.t 52) (.t 53)) 48 true,xg 55 (.pick (.t 48) (.t 54) (.c (V.bool false))) 41 false,xo 56 (.pick (.t 41) (.c (V.bool true)) (.t 55)),mv 6 56]
def aam:List (List Nat):=[[],[0],[1],[2],[3],[4,3],[5,3],[6,3],[3],[7,8,3],[9,3,3],[10],[11,10],[12,10],[13,10],[10],[14,15,10],[10,16,3],[3,17],[18,10,0,1,2,3,4,5,6,7,8,9,10,11,12,13,14,15,16,17,18]]
def vG:OT:=.one 0 (.one 1 (.one 2 (.one 3 (.one 4 (.one 5 (.one 6 (.one 7 (.one 8 (.one 9 (.one 10 (.one 11 (.one 12 (.one 13 (.one 14 (.one 15 (.one 16 (.one 17 (.one 18 (.one 19 .done)))))))))))))))))))
@[go_sem] def vS:OP:=oN 0 (mv 38 2) (oN 1 (ln 39 38) (oN 2 (bc 40 .eql 39 (V.int 0)) (oN 3 (mv 41 40) (oN 4 (mg 42 2 41 false) (oN 5 (xg 43 (.iaddr 15 (.t 42) (.c (V.int 0))) 41 false) (oN 6 (xg 44 (.faddr 3 (.t 43)) 41 false) (oN 7 (xg 45 (.load true 2 (.t 44)) 41 false) (oN 8 (xg 46 (.load true 2 (.t 3)) 41 false) (oN 9 (xg 47 (.eqagg false [0,0] (.t 45) (.t 46)) 41 false) (oN 10 (mg 48 47 41 false) (oN 11 (mg 49 2 48 true) (oN 12 (xg 50 (.iaddr 15 (.t 49) (.c (V.int 0))) 48 true) (oN 13 (xg 51 (.faddr 5 (.t 50)) 48 true) (oN 14 (xg 52 (.load false 1 (.t 51)) 48 true) (oN 15 (mg 53 1 48 true) (oN 16 (xg 54 (.bin .eql (.t 52) (.t 53)) 48 true) (oN 17 (xg 55 (.pick (.t 48) (.t 54) (.c (V.bool false))) 41 false) (oN 18 (xo 56 (.pick (.t 41) (.c (V.bool true)) (.t 55))) (oN 19 (mv 6 56) .done)))))))))))))))))))
instance:RG [] vG (vS) (v6) aam 20 (fun _=>true):=⟨rfl,by kernel_rfl,by kernel_rfl⟩
def yy (YL JJ Qo W7:Nat):AC:=Qa [1,2,3] (.reg [xo 3 (.box true 2 (.t 0)),mc 6 (V.bool false)]) (Qa [1,2,3] (Qa [1,2,3,27] (.reg [xo 9 (.load true 2 (.t 3)),cl 10 YL [9],xo 11 (.un .not (.t 10)),mv 12 11,xg 13 (.faddr 0 (.t 3)) 12 false,xg 14 (.load false 1 (.t 13)) 12 false,xg 15 (.call JJ [(.t 14)]) 12 false,xg 16 (.bin .neq (.t 15) (.c (V.int 2))) 12 false,xo 17 (.pick (.t 12) (.c (V.bool true)) (.t 16)),mv 18 17,mg 19 1 18 false,xg 20 (.call Qo [(.t 19)]) 18 false,xg 21 (.un .not (.t 20)) 18 false,xo 22 (.pick (.t 18) (.c (V.bool true)) (.t 21)),mv 23 22,mg 24 2 23 false,xg 25 (.lenL (.t 24)) 23 false,xg 26 (.bin .gtr (.t 25) (.c (V.int 8))) 23 false,xo 27 (.pick (.t 23) (.c (V.bool true)) (.t 26))]) (.cond (.t 27) (Qa [6] (.reg [mc 6 (V.bool false)]) .ret) .skip)) (Qa [1,2,3] (Qa [1,2,3,28,29,30] (.reg [mv 28 2,ln 29 28,mc 30 (V.int 0)]) (.block 0 (JH [1,2,3,28,29,30] (Qa [1,2,3,28,29,30,31] (.reg [bn 31 .lss 30 29]) (Qa [1,2,3,28,29,30] (.cond (.t 31) .skip (.exit 0)) (Qa [1,2,3,28,29,30] (.block 1 (Qa [1,2,3,8,28,29,30] (.reg [ia 32 15 28 30,xo 33 (.load true 15 (.t 32)),xo 8 (.alloc [.val vi0,.val vs0,.val vs0,.val vi0,.val vi0,.val vi0,.val vi0,.val vi0,.val vi0,.val vi0,.val (.bool false),.val vi0,.nil 1,.val vi0,.val vi0]),xs 15 8 33]) (Qa [1,2,3,28,29,30,36] (.reg [xo 34 (.load true 15 (.t 8)),cl 35 W7 [34],bc 36 .neq 35 (V.int 0)]) (.cond (.t 36) (Qa [6] (.reg [mc 6 (V.bool false)]) .ret) .skip)))) (.reg [bc 37 .add 30 (V.int 1),mv 30 37]))))))) (Qa [6] (yh [] vG (vS) (v6) aam) .ret))) def r_keystore_Shows:List Jl:=[.tmp 6]
def jB (Γ:Env) (f:Nat):Prop:=∀ (a b id:Int) (l:List Qw) (hl:l.length < 2 ^ 60) (hs:∀ c∈l,c.Sm),EvN Γ f [.agg [V.int a,V.int b],V.int id,.sl 15 (l.map Qw.v)] (V.bool (yi a b id l))
attribute [local go_sem] List.getElem?_cons_zero List.map_cons Qw.cells Qw.v in
theorem aiC {Γ:Env} {f YL JJ Qo W7:Nat} (h:Has Γ.P f 57 (yy YL JJ Qo W7) r_keystore_Shows) (z0:U8 Γ YL) (z1:VV Γ JJ) (z2:Wh Γ Qo) (z3:UD Γ W7):jB Γ f:=by
 intro a b id l hl hs
 refine Qe h zsi zcl zcl fun C hC hm=>?_
 subst hC
 unfold yy
 have hlm:(l.map Qw.v).length = l.length:=List.length_map _
 have no0:an9 a b 2 = false→yi a b id l = false:=fun h=>by simp [yi,h]
 have no1:aeH id = false→yi a b id l = false:=fun h=>by simp [yi,h]
 have no2:l.length > 8→yi a b id l = false:=fun h=>by
  have:decide ((l.length:Int)≤8) = false:=by simp;omega
  simp [yi,this]
 rcases hu:an9 a b 2 with _|_
 ·rw [no0 hu]
  unfold an9 at hu
  rcases hq:decide (Jr a b > 0) with _|_
  ·(have zx:=hq);exact zg
  ·rw [hq,Bool.true_and] at hu
   have hu2:((Jk a).kind != 2) = true:=by simpa using hu
   (have zx:=And.intro hq hu2);exact zg
 have hq:decide (Jr a b > 0) = true:=by unfold an9 at hu;simp at hu;simpa using hu.1
 have hu2:((Jk a).kind != 2) = false:=by unfold an9 at hu;simp at hu;simpa using hu.2
 have hk:=(z2 id).b
 rcases hk1:aeH id with _|_
 ·rw [no1 hk1]
  rw [hk1] at hk
  (have zx:=And.intro hq hu2);exact zg
 rw [hk1] at hk
 by_cases h8:l.length > 8
 ·have e8:decide ((l.length:Int) > 8) = true:=by simp;omega
  rw [no2 h8]
  (have zx:=And.intro hq (And.intro hu2 (And.intro hlm e8)));exact zg
 have e8:decide ((l.length:Int) > 8) = false:=by simp;omega
 have e8':decide ((l.length:Int)≤8) = true:=by simp;omega
 (have zx:=And.intro hq (And.intro hu2 (And.intro hlm e8)));refine zgo ?_;repeat' first|exact zt|apply zan|intro hc
 refine QP (ι:=Nat) (fun k=>k≤l.length∧(l.take k).all KH = true) (fun k=>[(30,V.int k)]) (fun k=>l.length - k) 0 (by omega) ⟨Nat.zero_le _,rfl⟩ (by repeat' first|exact Q8|refine JD (by omega) (by simp only [Ob.lt,ltL,V.lt,and_self,and_true];try omega) ?_) (fun i hi=>by simp only [ovT,Ji,Nat.reduceEqDiff,reduceIte];(repeat' first|exact JC|refine Q7 ?_ ?_|simp only [V.lt,ltL,and_self,and_true]|omega)) zet fun k hk K' hL=>?_
 obtain ⟨hk,hinv⟩:=hk
 simp only [ovT,Ji,Nat.reduceEqDiff,reduceIte]
 rcases hd:l.drop k with _|⟨c,r⟩
 ·have hkl:=Qs hd
  have e1:decide ((k:Int) < ((l.length:Nat):Int)) = false:=by simp;omega
  have hall:l.all KH = true:=by rwa [List.take_of_length_le hkl] at hinv
  have hfin:yi a b id l = ap2 a b id l:=by rw [yi,hu,hk1,e8',hall];rfl
  rw [hfin]
  clear hfin
  rcases l with _|⟨c,r⟩
  ·rw [show ap2 a b id [] = true from rfl]
   (have zx:=And.intro e1 hlm);exact zg
  ·have e9:((((c :: r).length:Nat):Int) == 0) = false:=by simp;omega
   have e1b:decide ((k:Int) < ((r.length + 1:Nat):Int)) = false:=e1
   have e9b:(((r.length + 1:Nat):Int) == 0) = false:=e9
   rw [ap2]
   (have zx:=And.intro e1 (And.intro e1b (And.intro hlm (And.intro e9 e9b))));refine zgo ?_;repeat' first|exact zt|apply zan|intro hc
   all_goals first|exact zr|(refine Qn _ rfl ?_;simp only [go_sem];simp [*];done)
 ·obtain ⟨hk',hget,hr⟩:=Ql hd
  have hw:=Qj (k:=k) (by omega)
  have e1:decide ((k:Int) < ((l.length:Nat):Int)) = true:=by simp;omega
  have hm:=List.mem_of_getElem? hget
  have sm:=hs c hm
  have hce:=(z3 c sm.h1 sm.h2 sm.h3 sm.h4).b
  simp only [Qw.v,Qw.cells] at hce
  rcases hcb:KH c with _|_
  ·rw [aom hm hcb]
   rw [hcb,if_neg (by decide)] at hce
   (have zx:=And.intro e1 (And.intro hw (And.intro hlm hget)));exact zg
  ·rw [hcb,if_pos rfl] at hce
   (have zx:=And.intro e1 (And.intro hw (And.intro hlm hget)));refine zgo ?_;repeat' first|exact zt|apply zan|intro hc
   all_goals first|exact hL _ (k + 1) zet ⟨by omega,ahO hget hinv hcb⟩ (by omega) (fun a ha=>by simp only [u32,u33,u34,u35,u36,u37,u38,u39];repeat rw [if_neg (by omega)])
def adv:List AO:=[mv 36 2,ln 37 36,bc 38 .eql 37 (V.int 0),mv 39 38,mg 40 2 39 false,xg 41 (.iaddr 15 (.t 40) (.c (V.int 0))) 39 false,xg 42 (.faddr 3 (.t 41)) 39 false,xg 43 (.load true 2 (.t 42)) 39 false,xg 44 (.load true 2 (.t 3)) 39 false,xg 45 (.eqagg false [0,0] (.t 43) (.t 44)) 39 false,mg 46 45 39 false,mg 47 2 46 true,xg 48 (.iaddr 15 (.t 47) (.c (V.int 0))) 46 true,xg 49 (.faddr 5 (.t 48)) 46 true,xg 50 (.load false 1 (.t 49)) 46 true,mg 51 1 46 true,xg 52 (.bin .eql (.t 50) (.t 51)) 46 true,xg 53 (.pick (.t 46) (.t 52) (.c (V.bool false))) 39 false,xo 54 (.pick (.t 39) (.c (V.bool true)) (.t 53)),mv 6 54]
def aef:List (List Nat):=[[],[0],[1],[2],[3],[4,3],[5,3],[6,3],[3],[7,8,3],[9,3,3],[10],[11,10],[12,10],[13,10],[10],[14,15,10],[10,16,3],[3,17],[18,10,0,1,2,3,4,5,6,7,8,9,10,11,12,13,14,15,16,17,18]]
def ac8:OT:=.one 0 (.one 1 (.one 2 (.one 3 (.one 4 (.one 5 (.one 6 (.one 7 (.one 8 (.one 9 (.one 10 (.one 11 (.one 12 (.one 13 (.one 14 (.one 15 (.one 16 (.one 17 (.one 18 (.one 19 .done)))))))))))))))))))
@[go_sem] def adl:OP:=oN 0 (mv 36 2) (oN 1 (ln 37 36) (oN 2 (bc 38 .eql 37 (V.int 0)) (oN 3 (mv 39 38) (oN 4 (mg 40 2 39 false) (oN 5 (xg 41 (.iaddr 15 (.t 40) (.c (V.int 0))) 39 false) (oN 6 (xg 42 (.faddr 3 (.t 41)) 39 false) (oN 7 (xg 43 (.load true 2 (.t 42)) 39 false) (oN 8 (xg 44 (.load true 2 (.t 3)) 39 false) (oN 9 (xg 45 (.eqagg false [0,0] (.t 43) (.t 44)) 39 false) (oN 10 (mg 46 45 39 false) (oN 11 (mg 47 2 46 true) (oN 12 (xg 48 (.iaddr 15 (.t 47) (.c (V.int 0))) 46 true) (oN 13 (xg 49 (.faddr 5 (.t 48)) 46 true) (oN 14 (xg 50 (.load false 1 (.t 49)) 46 true) (oN 15 (mg 51 1 46 true) (oN 16 (xg 52 (.bin .eql (.t 50) (.t 51)) 46 true) (oN 17 (xg 53 (.pick (.t 46) (.t 52) (.c (V.bool false))) 39 false) (oN 18 (xo 54 (.pick (.t 39) (.c (V.bool true)) (.t 53))) (oN 19 (mv 6 54) .done)))))))))))))))))))
instance:RG [] ac8 (adl) (adv) aef 20 (fun _=>true):=⟨rfl,by kernel_rfl,by kernel_rfl⟩
def ab3 (J7 JW:Nat):AC:=Qa [1,2,3] (.reg [xo 3 (.box true 2 (.t 0)),mc 6 (V.bool false)]) (Qa [1,2,3] (Qa [1,2,3,23] (.reg [xo 8 (.load true 2 (.t 3)),cl 9 J7 [8],xo 10 (.un .not (.t 9)),mv 11 10,mg 12 1 11 false,xg 13 (.bin .lss (.t 12) (.c (V.int 0))) 11 false,xo 14 (.pick (.t 11) (.c (V.bool true)) (.t 13)),mv 15 14,mg 16 1 15 false,xg 17 (.bin .gtr (.t 16) (.c (V.int 2147483648))) 15 false,xo 18 (.pick (.t 15) (.c (V.bool true)) (.t 17)),mv 19 18,mg 20 2 19 false,xg 21 (.lenL (.t 20)) 19 false,xg 22 (.bin .gtr (.t 21) (.c (V.int 8))) 19 false,xo 23 (.pick (.t 19) (.c (V.bool true)) (.t 22))]) (.cond (.t 23) (Qa [6] (.reg [mc 6 (V.bool false)]) .ret) .skip)) (Qa [1,2,3] (Qa [1,2,3,7] (.reg [mc 7 (V.int 0)]) (.block 0 (JH [1,2,3,7] (Qa [1,2,3,7] (Qa [1,2,3,7,27] (.reg [mv 24 7,mv 25 2,ln 26 25,bn 27 .lss 24 26]) (.cond (.t 27) .skip (.exit 0))) (Qa [1,2,3,7] (.block 1 (Qa [1,2,3,7,35] (.reg [mv 30 2,mv 31 7,ia 32 15 30 31,xo 33 (.load true 15 (.t 32)),cl 34 JW [33],bc 35 .neq 34 (V.int 0)]) (.cond (.t 35) (Qa [6] (.reg [mc 6 (V.bool false)]) .ret) .skip))) (.reg [mv 28 7,bc 29 .add 28 (V.int 1),mv 7 29])))))) (Qa [6] (yh [] ac8 (adl) (adv) aef) .ret))) def r_ref05_Right:List Jl:=[.tmp 6]
def aaX (Γ:Env) (f:Nat):Prop:=∀ (a b id:Int) (l:List Qw) (hl:l.length < 2 ^ 60) (hs:∀ c∈l,c.Sm),EvN Γ f [.agg [V.int a,V.int b],V.int id,.sl 15 (l.map Qw.v)] (V.bool (yi a b id l))
attribute [local go_sem] List.getElem?_cons_zero List.length_cons List.length_map List.map_cons Qw.cells Qw.v in
theorem alW {Γ:Env} {f J7 JW:Nat} (h:Has Γ.P f 55 (ab3 J7 JW) r_ref05_Right) (z0:VE Γ J7) (z1:UY Γ JW):aaX Γ f:=by
 intro a b id l hl hs
 refine Qe h zsi zcl zcl fun C hC hm=>?_
 subst hC
 unfold ab3
 have hlm:(l.map Qw.v).length = l.length:=List.length_map _
 have no0:an9 a b 2 = false→yi a b id l = false:=fun h=>by simp [yi,h]
 have no1:aeH id = false→yi a b id l = false:=fun h=>by simp [yi,h]
 have no2:l.length > 8→yi a b id l = false:=fun h=>by
  have:decide ((l.length:Int)≤8) = false:=by simp;omega
  simp [yi,this]
 have hsi:=(z0 a b).b
 rcases hu:an9 a b 2 with _|_
 ·rw [no0 hu]
  rw [hu] at hsi
  exact zg
 rw [hu] at hsi
 by_cases k1:id < 0
 ·have e1:decide (id < 0) = true:=decide_eq_true k1
  rw [no1 (by unfold aeH;rw [decide_eq_false (by omega)];rfl)]
  (have zx:=e1);exact zg
 have e1:decide (id < 0) = false:=decide_eq_false k1
 by_cases k2:id > 2147483648
 ·have e2:decide (id > 2147483648) = true:=decide_eq_true k2
  rw [no1 (by unfold aeH;rw [decide_eq_false (by omega:¬ id≤2147483648),Bool.and_false])]
  (have zx:=And.intro e1 e2);exact zg
 have e2:decide (id > 2147483648) = false:=decide_eq_false k2
 have hk1:aeH id = true:=by unfold aeH;rw [decide_eq_true (by omega:id≥0),decide_eq_true (by omega:id≤2147483648)];rfl
 by_cases h8:l.length > 8
 ·have e8:decide ((l.length:Int) > 8) = true:=by simp;omega
  rw [no2 h8]
  (have zx:=And.intro e1 (And.intro e2 (And.intro hlm e8)));exact zg
 have e8:decide ((l.length:Int) > 8) = false:=by simp;omega
 have e8':decide ((l.length:Int)≤8) = true:=by simp;omega
 (have zx:=And.intro e1 (And.intro e2 (And.intro hlm e8)));refine zgo ?_;repeat' first|exact zt|apply zan|intro hc
 refine QP (ι:=Nat) (fun k=>k≤l.length∧(l.take k).all KH = true) (fun k=>[(7,V.int k)]) (fun k=>l.length - k) 0 (by omega) ⟨Nat.zero_le _,rfl⟩ (by repeat' first|exact Q8|refine JD (by omega) (by simp only [Ob.lt,ltL,V.lt,and_self,and_true];try omega) ?_) (fun i hi=>by simp only [ovT,Ji,Nat.reduceEqDiff,reduceIte];(repeat' first|exact JC|refine Q7 ?_ ?_|simp only [V.lt,ltL,and_self,and_true]|omega)) zet fun k hk K' hL=>?_
 obtain ⟨hk,hinv⟩:=hk
 simp only [ovT,Ji,Nat.reduceEqDiff,reduceIte]
 rcases hd:l.drop k with _|⟨c,r⟩
 ·have hkl:=Qs hd
  have e4:decide ((k:Int) < ((l.length:Nat):Int)) = false:=by simp;omega
  have hall:l.all KH = true:=by rwa [List.take_of_length_le hkl] at hinv
  have hfin:yi a b id l = ap2 a b id l:=by rw [yi,hu,hk1,e8',hall];rfl
  rw [hfin]
  clear hfin
  rcases l with _|⟨c,r⟩
  ·rw [show ap2 a b id [] = true from rfl]
   (have zx:=And.intro e4 hlm);exact zg
  ·have e9:((((c :: r).length:Nat):Int) == 0) = false:=by simp;omega
   have e4b:decide ((k:Int) < ((r.length + 1:Nat):Int)) = false:=e4
   have e9b:(((r.length + 1:Nat):Int) == 0) = false:=e9
   rw [ap2]
   (have zx:=And.intro e4 (And.intro e4b (And.intro hlm (And.intro e9 e9b))));refine zgo ?_;repeat' first|exact zt|apply zan|intro hc
   all_goals first|exact zr|(refine Qn _ rfl ?_;simp only [go_sem];simp [*];done)
 ·obtain ⟨hk',hget,hr⟩:=Ql hd
  have hw:=Qj (k:=k) (by omega)
  have e4:decide ((k:Int) < ((l.length:Nat):Int)) = true:=by simp;omega
  have hm:=List.mem_of_getElem? hget
  have sm:=hs c hm
  have hce:=(z1 c sm.h1 sm.h2 sm.h3 sm.h4).b
  simp only [Qw.v,Qw.cells] at hce
  rcases hcb:KH c with _|_
  ·rw [aom hm hcb]
   rw [hcb,if_neg (by decide)] at hce
   (have zx:=And.intro e4 (And.intro hw (And.intro hlm hget)));exact zg
  ·rw [hcb,if_pos rfl] at hce
   (have zx:=And.intro e4 (And.intro hw (And.intro hlm hget)));refine zgo ?_;repeat' first|exact zt|apply zan|intro hc
   all_goals first|exact hL _ (k + 1) zet ⟨by omega,ahO hget hinv hcb⟩ (by omega) (fun a ha=>by simp only [u32,u33,u34,u35,u36,u37,u38,u39];repeat rw [if_neg (by omega)])
structure QM where
 name:List UInt8
 least:Int
 most:Int
 suites:List Int
 own:Bool
 fall:Bool
def QM.cells (d:QM):List V:=[V.str d.name,V.int d.least,V.int d.most,.sl 1 (d.suites.map V.int),V.bool d.own,.sc (.slice none 0 0),.sc (.slice none 0 0),.sc (.slice none 0 0),V.bool d.fall,.sc (.slice none 0 0)]
theorem QM.cells_closed (d:QM):closedL d.cells:=by simp [QM.cells,V.closed,closedL]
def avw (s:List UInt8):Bool:=ar5 s && (decide (wS s≥1) && decide (wS s≤4))
def qg (Vy:Nat):AC:=Qa [0,1] (.reg [mc 4 (V.bool false)]) (Qa [0,1] (Qa [0,1,9] (.reg [mv 7 1,ln 8 7,bc 9 .neq 8 (V.int 1)]) (.cond (.t 9) (Qa [4] (.reg [mc 4 (V.bool false)]) .ret) .skip)) (Qa [0,5,6] (.reg [mv 11 1,xo 12 (.iaddr 1 (.t 11) (.c (V.int 0))),ld 13 1 12,cl 14 Vy [13],mv 10 14,ex 15 10 0,ex 16 10 1,mv 5 15,mv 6 16]) (Qa [5,6] (.reg [mv 17 0,mv 18 5,nk 19 17,xs 1 19 18]) (Qa [4] (.reg [mv 20 6,mv 21 20,mg 22 5 21 true,xg 23 (.bin .geq (.t 22) (.c (V.int 1))) 21 true,xo 24 (.pick (.t 21) (.t 23) (.c (V.bool false))),mv 25 24,mg 26 5 25 true,xg 27 (.bin .leq (.t 26) (.c (V.int 4))) 25 true,xo 28 (.pick (.t 25) (.t 27) (.c (V.bool false))),mv 4 28]) .ret)))) def r_endpoint_version:List Jl:=[.tmp 4]
def Vg (Γ:Env) (f:Nat):Prop:=∀ (s:List UInt8) (d:QM) (most:Bool) (hs:s.length < 2 ^ 30),EvF Γ f (if most then 2 else 1) [.sl 1 [V.str s]] d.cells (V.bool (avw s)) (if most then { d with most:=wS s } else { d with least:=wS s }).cells
theorem agb {Γ:Env} {f Vy:Nat} (h:Has Γ.P f 29 (qg Vy) r_endpoint_version) (z0:Km Γ Vy):Vg Γ f:=by
 intro s d most hs
 refine ak8 h (by simp) (by first|exact QM.cells_closed _|simp only [V.closed,closedL,and_self]) (by first|exact QM.cells_closed _|exact QB _ _|simp only [V.closed,closedL,and_self,and_true,true_and]|(simp [V.closed,closedL];done)) (by first|exact QM.cells_closed _|exact QB _ _|simp only [V.closed,closedL,and_self,and_true,true_and]|(simp [V.closed,closedL];done)) fun C hC hm=>?_
 subst hC
 unfold qg
 have hd:=(z0 s hs).b
 rcases most with _|_
 ·simp only [Bool.false_eq_true,if_false,QM.cells,avw]
  refine zgo ?_;repeat' first|exact zt|apply zan|intro hc
  all_goals first|(refine Xb _ rfl rfl zcd ?_;simp only [go_sem];done)|(refine Xb _ rfl rfl zcd ?_;simp only [go_sem];simp [*];done)
 ·simp only [if_true,QM.cells,avw]
  refine zgo ?_;repeat' first|exact zt|apply zan|intro hc
  all_goals first|(refine Xb _ rfl rfl zcd ?_;simp only [go_sem];done)|(refine Xb _ rfl rfl zcd ?_;simp only [go_sem];simp [*];done)
def jo:AC:=Qa [0,1,2,3] (.reg [mc 8 (V.bool false)]) (Qa [1,2,3] (.reg [mv 9 0,mv 10 1,ln 11 10,bc 12 .eql 11 (V.int 1),mv 13 12,mg 14 1 13 true,xg 15 (.iaddr 1 (.t 14) (.c (V.int 0))) 13 true,xg 16 (.load false 1 (.t 15)) 13 true,mg 17 2 13 true,xg 18 (.bin .eql (.t 16) (.t 17)) 13 true,xo 19 (.pick (.t 13) (.t 18) (.c (V.bool false))),nk 20 9,xs 1 20 19]) (Qa [8] (.reg [mv 21 1,ln 22 21,bc 23 .eql 22 (V.int 1),mv 24 23,mg 25 1 24 true,xg 26 (.iaddr 1 (.t 25) (.c (V.int 0))) 24 true,xg 27 (.load false 1 (.t 26)) 24 true,mg 28 2 24 true,xg 29 (.bin .eql (.t 27) (.t 28)) 24 true,mg 30 29 24 true,mg 31 1 30 false,xg 32 (.iaddr 1 (.t 31) (.c (V.int 0))) 30 false,xg 33 (.load false 1 (.t 32)) 30 false,mg 34 3 30 false,xg 35 (.bin .eql (.t 33) (.t 34)) 30 false,xg 36 (.pick (.t 30) (.c (V.bool true)) (.t 35)) 24 true,xo 37 (.pick (.t 24) (.t 36) (.c (V.bool false))),mv 8 37]) .ret)) def r_endpoint_choice:List Jl:=[.tmp 8]
def VH (Γ:Env) (f:Nat):Prop:=∀ (s yes no:List UInt8) (d:QM) (own:Bool),EvF Γ f (if own then 4 else 8) [.sl 1 [V.str s],V.str yes,V.str no] d.cells (V.bool (s == yes || s == no)) (if own then { d with own:=s == yes } else { d with fall:=s == yes }).cells
theorem ahy {Γ:Env} {f:Nat} (h:Has Γ.P f 38 jo r_endpoint_choice) :VH Γ f:=by
 intro s yes no d own
 refine ak8 h (by simp) (by first|exact QM.cells_closed _|simp only [V.closed,closedL,and_self]) (by first|exact QM.cells_closed _|exact QB _ _|simp only [V.closed,closedL,and_self,and_true,true_and]|(simp [V.closed,closedL];done)) (by first|exact QM.cells_closed _|exact QB _ _|simp only [V.closed,closedL,and_self,and_true,true_and]|(simp [V.closed,closedL];done)) fun C hC hm=>?_
 subst hC
 unfold jo
 rcases own with _|_
 ·simp only [Bool.false_eq_true,if_false,QM.cells]
  rcases hq:s == yes with _|_
  ·(have zx:=hq);refine zgo ?_;repeat' first|exact zt|apply zan|intro hc
   all_goals first|(refine Xb _ rfl rfl zcd ?_;simp only [go_sem];done)|(refine Xb _ rfl rfl zcd ?_;simp only [go_sem];simp [*];done)
  ·(have zx:=hq);refine zgo ?_;repeat' first|exact zt|apply zan|intro hc
   all_goals first|(refine Xb _ rfl rfl zcd ?_;simp only [go_sem];done)|(refine Xb _ rfl rfl zcd ?_;simp only [go_sem];simp [*];done)
 ·simp only [if_true,QM.cells]
  rcases hq:s == yes with _|_
  ·(have zx:=hq);refine zgo ?_;repeat' first|exact zt|apply zan|intro hc
   all_goals first|(refine Xb _ rfl rfl zcd ?_;simp only [go_sem];done)|(refine Xb _ rfl rfl zcd ?_;simp only [go_sem];simp [*];done)
  ·(have zx:=hq);refine zgo ?_;repeat' first|exact zt|apply zan|intro hc
   all_goals first|(refine Xb _ rfl rfl zcd ?_;simp only [go_sem];done)|(refine Xb _ rfl rfl zcd ?_;simp only [go_sem];simp [*];done)
def Vu (V1:Nat):AC:=Qa [0,1] (.reg [mc 4 (V.bool false)]) (Qa [0,1] (Qa [0,1,10] (.reg [mv 8 1,ln 9 8,bc 10 .neq 9 (V.int 1)]) (.cond (.t 10) (Qa [4] (.reg [mc 4 (V.bool false)]) .ret) .skip)) (Qa [0,5,7] (.reg [mv 12 1,xo 13 (.iaddr 1 (.t 12) (.c (V.int 0))),ld 14 1 13,cl 15 V1 [14],mv 11 15,ex 16 11 0,ex 17 11 1,ex 18 11 2,mv 5 16,mv 6 17,mv 7 18]) (Qa [7] (.reg [mv 19 0,mv 20 5,nk 21 19,fa 22 0 21,fa 23 3 22,xs 1 23 20]) (Qa [4] (.reg [mv 24 7,bc 25 .eql 24 (V.int 0),mv 4 25]) .ret)))) def r_endpoint_draft__list:List Jl:=[.tmp 4]
def XH (Γ:Env) (f:Nat):Prop:=∀ (s:List UInt8) (d:QM) (hs:s.length < 2 ^ 30),EvD Γ f [.sl 1 [V.str s]] d.cells (V.bool ((aa8 s).2.2 == 0)) ({ d with suites:=(aa8 s).1 }:QM).cells
theorem abV {Γ:Env} {f V1:Nat} (h:Has Γ.P f 26 (Vu V1) r_endpoint_draft__list) (z0:qy Γ V1):XH Γ f:=by
 intro s d hs
 refine Y6 h zsi (by first|exact QM.cells_closed _|simp only [V.closed,closedL,and_self]) zc3 zc3 fun C hC hm=>?_
 subst hC
 unfold Vu
 have hp:=(z0 s hs).b
 rw [afa] at hp
 simp only [QM.cells]
 refine zgo ?_;repeat' first|exact zt|apply zan|intro hc
 all_goals first|(refine Xb _ rfl rfl zcd ?_;simp only [go_sem];done)
def Wo (JY:Nat):AC:=Qa [0,1] (.reg [mc 3 (V.bool false)]) (Qa [3] (.reg [ld 4 1 1,nk 5 4,fa 6 0 5,fa 7 1 6,mv 8 0,cl 9 JY [7,8],mv 3 9]) .ret) def r_endpoint_draft__words_1:List Jl:=[.tmp 3]
def Y2 (Γ:Env) (f:Nat):Prop:=∀ (s:List UInt8) (d:QM) (hs:s.length < 2 ^ 30),EvH Γ f (.sl 1 [V.str s]) d.cells (V.bool (avw s)) ({ d with least:=wS s }:QM).cells
theorem vz {Γ:Env} {f JY:Nat} (h:Has Γ.P f 10 (Wo JY) r_endpoint_draft__words_1) (z0:Vg Γ JY):Y2 Γ f:=by
 intro s d hs
 refine abX h (by simp) (by first|exact QM.cells_closed _|simp only [V.closed,closedL,and_self]) (by first|exact QM.cells_closed _|exact QB _ _|simp only [V.closed,closedL,and_self,and_true,true_and]|(simp [V.closed,closedL];done)) (by first|exact QM.cells_closed _|exact QB _ _|simp only [V.closed,closedL,and_self,and_true,true_and]|(simp [V.closed,closedL];done)) fun C hC hm=>?_
 subst hC
 unfold Wo
 have hv:=z0 s d false hs
 simp only [Bool.false_eq_true,if_false,QM.cells] at hv
 simp only [QM.cells]
 refine zgo ?_;repeat' first|exact zt|apply zan|intro hc
 all_goals first|(refine aqU _ rfl rfl rfl (by first|simp only [V.closed,closedL,and_self,and_true,true_and]|(simp [V.closed,closedL];done)) ?_;simp only [go_sem];done)
def Wn (JY:Nat):AC:=Qa [0,1] (.reg [mc 3 (V.bool false)]) (Qa [3] (.reg [ld 4 1 1,nk 5 4,fa 6 0 5,fa 7 2 6,mv 8 0,cl 9 JY [7,8],mv 3 9]) .ret) def r_endpoint_draft__words_2:List Jl:=[.tmp 3]
def Y1 (Γ:Env) (f:Nat):Prop:=∀ (s:List UInt8) (d:QM) (hs:s.length < 2 ^ 30),EvH Γ f (.sl 1 [V.str s]) d.cells (V.bool (avw s)) ({ d with most:=wS s }:QM).cells
theorem vy {Γ:Env} {f JY:Nat} (h:Has Γ.P f 10 (Wn JY) r_endpoint_draft__words_2) (z0:Vg Γ JY):Y1 Γ f:=by
 intro s d hs
 refine abX h (by simp) (by first|exact QM.cells_closed _|simp only [V.closed,closedL,and_self]) (by first|exact QM.cells_closed _|exact QB _ _|simp only [V.closed,closedL,and_self,and_true,true_and]|(simp [V.closed,closedL];done)) (by first|exact QM.cells_closed _|exact QB _ _|simp only [V.closed,closedL,and_self,and_true,true_and]|(simp [V.closed,closedL];done)) fun C hC hm=>?_
 subst hC
 unfold Wn
 have hv:=z0 s d true hs
 simp only [if_true,QM.cells] at hv
 simp only [QM.cells]
 refine zgo ?_;repeat' first|exact zt|apply zan|intro hc
 all_goals first|(refine aqU _ rfl rfl rfl (by first|simp only [V.closed,closedL,and_self,and_true,true_and]|(simp [V.closed,closedL];done)) ?_;simp only [go_sem];done)
def Wm (Ya:Nat):AC:=Qa [0,1] (.reg [mc 3 (V.bool false)]) (Qa [3] (.reg [ld 4 1 1,nk 5 4,fa 6 0 5,fa 7 4 6,mv 8 0,xo 9 (.call Ya [(.t 7),(.t 8),(.c (V.str [111,119,110])),(.c (V.str [99,108,105,101,110,116]))]),mv 3 9]) .ret) def r_endpoint_draft__words_3:List Jl:=[.tmp 3]
def Y0 (Γ:Env) (f:Nat):Prop:=∀ (s:List UInt8) (d:QM),EvH Γ f (.sl 1 [V.str s]) d.cells (V.bool (s == [111,119,110] || s == [99,108,105,101,110,116])) ({ d with own:=s == [111,119,110] }:QM).cells
theorem vx {Γ:Env} {f Ya:Nat} (h:Has Γ.P f 10 (Wm Ya) r_endpoint_draft__words_3) (z0:VH Γ Ya):Y0 Γ f:=by
 intro s d
 refine abX h (by simp) (by first|exact QM.cells_closed _|simp only [V.closed,closedL,and_self]) (by first|exact QM.cells_closed _|exact QB _ _|simp only [V.closed,closedL,and_self,and_true,true_and]|(simp [V.closed,closedL];done)) (by first|exact QM.cells_closed _|exact QB _ _|simp only [V.closed,closedL,and_self,and_true,true_and]|(simp [V.closed,closedL];done)) fun C hC hm=>?_
 subst hC
 unfold Wm
 have hv:=z0 s [111,119,110] [99,108,105,101,110,116] d true
 simp only [if_true,QM.cells] at hv
 simp only [QM.cells]
 refine zgo ?_;repeat' first|exact zt|apply zan|intro hc
 all_goals first|(refine aqU _ rfl rfl rfl (by first|simp only [V.closed,closedL,and_self,and_true,true_and]|(simp [V.closed,closedL];done)) ?_;simp only [go_sem];done)
def Wl (Ya:Nat):AC:=Qa [0,1] (.reg [mc 3 (V.bool false)]) (Qa [3] (.reg [ld 4 1 1,nk 5 4,fa 6 0 5,fa 7 8 6,mv 8 0,xo 9 (.call Ya [(.t 7),(.t 8),(.c (V.str [121,101,115])),(.c (V.str [110,111]))]),mv 3 9]) .ret) def r_endpoint_draft__words_6:List Jl:=[.tmp 3]
def YZ (Γ:Env) (f:Nat):Prop:=∀ (s:List UInt8) (d:QM),EvH Γ f (.sl 1 [V.str s]) d.cells (V.bool (s == [121,101,115] || s == [110,111])) ({ d with fall:=s == [121,101,115] }:QM).cells
theorem vw {Γ:Env} {f Ya:Nat} (h:Has Γ.P f 10 (Wl Ya) r_endpoint_draft__words_6) (z0:VH Γ Ya):YZ Γ f:=by
 intro s d
 refine abX h (by simp) (by first|exact QM.cells_closed _|simp only [V.closed,closedL,and_self]) (by first|exact QM.cells_closed _|exact QB _ _|simp only [V.closed,closedL,and_self,and_true,true_and]|(simp [V.closed,closedL];done)) (by first|exact QM.cells_closed _|exact QB _ _|simp only [V.closed,closedL,and_self,and_true,true_and]|(simp [V.closed,closedL];done)) fun C hC hm=>?_
 subst hC
 unfold Wl
 have hv:=z0 s [121,101,115] [110,111] d false
 simp only [Bool.false_eq_true,if_false,QM.cells] at hv
 simp only [QM.cells]
 refine zgo ?_;repeat' first|exact zt|apply zan|intro hc
 all_goals first|(refine aqU _ rfl rfl rfl (by first|simp only [V.closed,closedL,and_self,and_true,true_and]|(simp [V.closed,closedL];done)) ?_;simp only [go_sem];done)
theorem ag2 {α:Type} (p:α→Bool):∀ (xs:List α) (k:Nat),decide (acR p k xs≥0) = xs.any p
 | [],k=>by simp [acR]
 | x :: r,k=>by
   have ih:=ag2 p r (k + 1)
   rw [acR,List.any_cons]
   by_cases h:p x = true
   ·rw [if_pos h,h];simp
   ·have h2:p x = false:=by simpa using h
    rw [if_neg h,h2,ih];rfl
structure Vq where
 sec:List UInt8
 name:List UInt8
 val:List UInt8
 line:Int
def Vq.cells (x:Vq):List V:=[V.str x.sec,V.str x.name,V.str x.val,V.int x.line]
def Vq.v (x:Vq):V:=.agg x.cells
def axV (s:List UInt8):Bool:=s == [107,101,121,115] || (s == [97,110,99,104,111,114,115] || s == [104,97,115,104,101,115])
def qh:AC:=Qa [0] (.reg [mc 2 (V.bool false)]) (Qa [2] (.reg [mv 3 0,bc 4 .eql 3 (V.str [107,101,121,115]),mv 5 4,mg 6 0 5 false,xg 7 (.bin .eql (.t 6) (.c (V.str [97,110,99,104,111,114,115]))) 5 false,xo 8 (.pick (.t 5) (.c (V.bool true)) (.t 7)),mv 9 8,mg 10 0 9 false,xg 11 (.bin .eql (.t 10) (.c (V.str [104,97,115,104,101,115]))) 9 false,xo 12 (.pick (.t 9) (.c (V.bool true)) (.t 11)),mv 2 12]) .ret) def r_endpoint_several:List Jl:=[.tmp 2]
def Kp (Γ:Env) (f:Nat):Prop:=∀ (s:List UInt8),EvN Γ f [V.str s] (V.bool (axV s))
theorem agc {Γ:Env} {f:Nat} (h:Has Γ.P f 13 qh r_endpoint_several) :Kp Γ f:=by
 intro s
 refine Qe h zsi zcl zcl fun C hC hm=>?_
 subst hC
 unfold qh
 have e:axV s = (s == [107,101,121,115] || (s == [97,110,99,104,111,114,115] || s == [104,97,115,104,101,115])):=rfl
 rw [e]
 rcases h1:s == [107,101,121,115] with _|_<;>rcases h2:s == [97,110,99,104,111,114,115] with _|_
 all_goals
  (have zx:=And.intro h1 h2);exact zg
def jl (VA Uv Kd:Nat):AC:=Qa [1] (.reg [xo 1 (.box true 4 (.t 0)),xo 2 (.mknil 1)]) (Qa [1] (Qa [1,6] (.reg [fa 3 1 1,ld 4 1 3,cl 5 VA [4],xo 6 (.un .not (.t 5))]) (.cond (.t 6) (Qa [2] (.reg [fa 7 2 1,ld 8 1 7,xo 9 (.bslice 1 1 false [vs0] [(0,(.t 8))]),mv 2 9]) .ret) .skip)) (Qa [2] (.reg [fa 10 2 1,ld 11 1 10,xo 12 (.call Uv [(.t 11),(.c (.clo Kd []))]),mv 2 12]) .ret)) def r_endpoint_values:List Jl:=[.tmp 2]
def qE (Γ:Env) (f:Nat):Prop:=∀ (x:Vq) (hn:axV x.name = false),EvW Γ f [x.v] 1 (([x.val]:List (List UInt8)).map V.str)
theorem ahv {Γ:Env} {f VA Uv Kd:Nat} (h:Has Γ.P f 13 (jl VA Uv Kd) r_endpoint_values) (z0:Kp Γ VA):qE Γ f:=by
 intro x hn
 refine abW h (by simp) (by first|exact ag1 _|exact agO _) fun C hC hm=>?_
 subst hC
 unfold jl
 have hs:=(z0 x.name).b
 rw [hn] at hs
 simp only [Vq.v,Vq.cells]
 refine zgo ?_;repeat' first|exact zt|apply zan|intro hc
 all_goals first|(refine amM (xs:=[V.str x.val]) _ _ rfl ?_ ?_<;>first|rfl|(simp;done))
def Wp:AC:=Qa [1,2] (.reg [xo 2 (.box true 4 (.t 0)),mc 3 (V.bool false)]) (Qa [3] (.reg [fa 4 1 2,ld 5 1 4,fa 6 1 1,ld 7 1 6,bn 8 .eql 5 7,mv 3 8]) .ret) def r_endpoint_FromSettings_1:List Jl:=[.tmp 3]
def X1 (Γ:Env) (f:Nat):Prop:=∀ (y x:Vq),EvN Γ f [y.v,.ro x.cells 0] (V.bool (y.name == x.name))
theorem vA {Γ:Env} {f:Nat} (h:Has Γ.P f 9 Wp r_endpoint_FromSettings_1) :X1 Γ f:=by
 intro y x
 refine Qe h zsi zcl zcl fun C hC hm=>?_
 subst hC
 unfold Wp
 simp only [Vq.v,Vq.cells]
 exact zg
def JL:AC:=Qa [0,1] (.reg [mc 4 (V.int 0)]) (Qa [] (Qa [0,1,7,8] (.reg [mv 6 0,ln 7 6,mc 8 (V.int 0)]) (.block 0 (JH [0,1,7,8] (Qa [0,1,7,8,9] (.reg [bn 9 .lss 8 7]) (Qa [0,1,7,8] (.cond (.t 9) .skip (.exit 0)) (Qa [0,1,7,8] (.block 1 (Qa [0,1,5,7,8] (.reg [mv 10 8,mv 5 10]) (Qa [0,1,5,7,8,16] (.reg [mv 11 1,mv 12 0,mv 13 5,ia 14 4 12 13,xo 15 (.load true 4 (.t 14)),xo 16 (.callv (.t 11) [(.t 15)])]) (.cond (.t 16) (Qa [4] (.reg [mv 17 5,mv 4 17]) .ret) .skip)))) (.reg [bc 18 .add 8 (V.int 1),mv 8 18]))))))) (Qa [4] (.reg [mc 4 (V.int (-1))]) .ret)) def r_slices_IndexFunc___api_Setting_api_Setting:List Jl:=[.tmp 4]
def JG (Γ:Env) (f:Nat):Prop:=∀ (xs:List Vq) (g:Nat) (cap:List V) (p:Vq→Bool) (hp:∀ x∈xs,EvN Γ g (Vq.v x :: cap) (V.bool (p x))) (hcap:closedL cap) (hl:xs.length < 2 ^ 62),EvN Γ f [.sl 4 (xs.map Vq.v),.clo g cap] (V.int (acR p 0 xs))
attribute [local go_sem] Vq.cells Vq.v in
theorem WF {Γ:Env} {f:Nat} (h:Has Γ.P f 19 JL r_slices_IndexFunc___api_Setting_api_Setting) :JG Γ f:=by
 intro xs g cap p hp hcap hl
 refine Qe h zsi zcl zcl fun C hC hm=>?_
 subst hC
 unfold JL
 have s1:∀ o,Xh o cap = cap:=fun o=>Xk o cap hcap
 have s2:∀ o B,Q3 o B cap = True:=fun o B=>eq_true (Yq o B cap hcap)
 refine zgo ?_;repeat' first|exact zt|apply zan|intro hc
 refine QP (ι:=Nat) (fun k=>k≤xs.length∧acR p k (xs.drop k) = acR p 0 xs) (fun k=>[(8,V.int k)]) (fun k=>xs.length - k) 0 (by omega) ⟨by simp,by simp⟩ (by repeat' first|exact Q8|refine JD (by omega) (by simp only [Ob.lt,ltL,V.lt,and_self,and_true];try omega) ?_) (fun i hi=>by simp only [ovT,Ji,Nat.reduceEqDiff,reduceIte];(repeat' first|exact JC|refine Q7 ?_ ?_|simp only [V.lt,ltL,and_self,and_true]|omega);exact Ua _ _ hcap) (by simp only [Nat.reduceAdd,ovT,Ji,Nat.reduceEqDiff,reduceIte,U5,ym,arA,u32,u33,u34,u35,u36,u37,u38,u39,and_self,and_true,true_and];first|rfl|exact J4 _ _ hcap) fun k hk K' hL=>?_
 obtain ⟨hk,hinv⟩:=hk
 simp only [ovT,Ji,Nat.reduceEqDiff,reduceIte]
 rcases hd:xs.drop k with _|⟨y,r⟩
 ·have:=Qs hd
  rw [hd] at hinv
  have e1:decide ((k:Int) < (((xs.map Vq.v).length:Nat):Int)) = false:=by simp;omega
  (have zx:=e1);refine zgo ?_;repeat' first|exact zt|apply zan|intro hc
  refine Qn _ rfl ?_
  simp only [go_sem]
  rw [← hinv];rfl
 ·obtain ⟨hk,hget,hr⟩:=Ql hd
  rw [hd] at hinv
  have hw:=Qj (k:=k) (by omega)
  have e1:decide ((k:Int) < (((xs.map Vq.v).length:Nat):Int)) = true:=by simp;omega
  have hpy:=hp y (List.mem_of_getElem? hget)
  by_cases hy:p y = true
  ·rw [hy] at hpy
   (have zy0:=hpy.b;have zx:=And.intro hget (And.intro hw (And.intro e1 (And.intro s1 s2))));refine zgo ?_;repeat' first|exact zt|apply zan|intro hc
   refine Qn _ rfl ?_;simp only [go_sem]
   rw [← hinv];simp [acR,hy]
  ·have hy':p y = false:=by simpa using hy
   rw [hy'] at hpy
   (have zy0:=hpy.b;have zx:=And.intro hget (And.intro hw (And.intro e1 (And.intro s1 s2))));refine zgo ?_;repeat' first|exact zt|apply zan|intro hc
   refine hL _ (k + 1) zet ⟨by omega,?_⟩ (by omega) (fun a ha=>by simp only [u32,u33,u34,u35,u36,u37,u38,u39];repeat rw [if_neg (by omega)])
   rw [hr,← hinv,acR,if_neg hy]
def Jy (Jc:Nat):AC:=Qa [0,1] (.reg [mc 4 (V.bool false)]) (Qa [4] (.reg [mv 5 0,mv 6 1,cl 7 Jc [5,6],bc 8 .geq 7 (V.int 0),mv 4 8]) .ret) def r_slices_ContainsFunc___api_Setting_api_Setting:List Jl:=[.tmp 4]
def Jw (Γ:Env) (f:Nat):Prop:=∀ (xs:List Vq) (g:Nat) (cap:List V) (p:Vq→Bool) (hp:∀ x∈xs,EvN Γ g (Vq.v x :: cap) (V.bool (p x))) (hcap:closedL cap) (hl:xs.length < 2 ^ 62),EvN Γ f [.sl 4 (xs.map Vq.v),.clo g cap] (V.bool (xs.any p))
theorem Wf {Γ:Env} {f Jc:Nat} (h:Has Γ.P f 9 (Jy Jc) r_slices_ContainsFunc___api_Setting_api_Setting) (z0:JG Γ Jc):Jw Γ f:=by
 intro xs g cap p hp hcap hl
 refine Qe h zsi zcl zcl fun C hC hm=>?_
 subst hC
 unfold Jy
 have s1:∀ o,Xh o cap = cap:=fun o=>Xk o cap hcap
 have s2:∀ o B,Q3 o B cap = True:=fun o B=>eq_true (Yq o B cap hcap)
 have hi:=(z0 xs g cap p hp hcap hl).b
 have e1:=ag2 p xs 0
 (have zx:=And.intro s1 (And.intro s2 e1));exact zg
end Av
end
