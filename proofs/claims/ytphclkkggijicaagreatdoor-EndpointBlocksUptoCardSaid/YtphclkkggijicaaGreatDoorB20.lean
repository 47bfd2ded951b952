/- Giving up knowledge of what an object holds: a nil slice among its cells may be seen as an empty one. -/
import Derived.Test.YtphclkkggijicaaGreatDoorB19
import Derived.Test.YtphclkkggijicaaGreatDoorB12
set_option linter.unusedVariables false
set_option linter.unusedSimpArgs false
section
namespace Av
open Go
def leL:List V→List V→Prop
 | [],[]=>True
 | x :: r,y :: r'=>LeV x y∧leL r r'
 | _,_=>False
def leC:List V→List V→Prop
 | [],[]=>True
 | x :: r,y :: r'=>leL x.cells y.cells∧leC r r'
 | _,_=>False
theorem afp:∀ {xs ys:List V},leL xs ys→xs.length = ys.length∧∀ i (h:i < xs.length) (h':i < ys.length),LeV xs[i] ys[i]
 | [],[],_=>by grind
 | x :: r,y :: r',h=>by
   obtain ⟨h1,h2⟩:=afp h.2
   refine ⟨by simp [h1],fun i hi hi'=>?_⟩
   cases i with
   | zero=>exact h.1
   | succ i=>grind
theorem amo:∀ {xs ys:List V},leC xs ys→xs.length = ys.length∧∀ i (h:i < xs.length) (h':i < ys.length),leL xs[i].cells ys[i].cells
 | [],[],_=>by grind
 | x :: r,y :: r',h=>by
   obtain ⟨h1,h2⟩:=amo h.2
   refine ⟨by simp [h1],fun i hi hi'=>?_⟩
   cases i with
   | zero=>exact h.1
   | succ i=>grind
theorem afo:∀ xs:List V,leL xs xs
 | []=>trivial
 | x :: r=>⟨LeV.refl x,afo r⟩
theorem ajD:∀ xs:List V,leC xs xs
 | []=>trivial
 | x :: r=>⟨afo _,ajD r⟩
theorem BOk.le {w:World} {Z:Nat→Nat→Prop} {ν:Nat→Option Cn} {c:Cn} {wr:Bool} {sz:Nat} {xs ys:List V} (h:BOk w Z ν c wr sz xs) (hl:leC xs ys):BOk w Z ν c wr sz ys:=by
 obtain ⟨l1,l2⟩:=amo hl
 refine ⟨by rw [← l1];exact h.1,fun hv=>?_⟩
 obtain ⟨h0,h1,h2,h3,h4,cs,ty,fr,hh,h5,h6,h7⟩:=h.2 hv
 refine ⟨h0,h1,h2,h3,fun i hi=>?_,cs,ty,fr,hh,h5,h6,fun i hi j hj=>?_⟩
 ·grind [afp]
 ·obtain ⟨m1,m2⟩:=afp (l2 i (by omega) hi)
  obtain ⟨v,e1,e2,e3⟩:=h7 i (by omega) j (by omega)
  exact ⟨v,e1,e2,m2 j (by omega) hj _ _ _ _ e3⟩
section
variable {C:Ctx} {nt n:Nat} {s:St} {K:St→Prop} {E:Nat→St→Prop} {R:St→Prop}
end
def LeO:Ob→Ob→Prop
 | .buf wr s xs,.buf wr' s' ys=>wr = wr'∧s = s'∧leC xs ys
 | .obuf wr s xs,.obuf wr' s' ys=>wr = wr'∧s = s'∧leC xs ys
 | .box wr xs,.box wr' ys=>wr = wr'∧leL xs ys
 | x,y=>x = y
theorem LeO.refl (x:Ob):LeO x x:=by
 cases x<;>first|exact rfl|exact ⟨rfl,rfl,ajD _⟩|exact ⟨rfl,afo _⟩
theorem LeO.ok {w:World} {Z:Nat→Nat→Prop} {μ:Nat→Option Cn} {c:Cn} {x y:Ob} (h:LeO x y) (hk:yr w Z μ c x):yr w Z μ c y∧(y.live c→x.live c):=by
 cases x<;>cases y<;>first
  | (cases h;done)
  | (cases h;exact ⟨hk,fun h=>h⟩)
  | (obtain ⟨rfl,rfl,hl⟩:=h;exact ⟨BOk.le hk hl,fun h=>h⟩)
  | (obtain ⟨rfl,hl⟩:=h
     obtain ⟨hv,⟨cs,ty,hh,hs,hr⟩,hz⟩:=hk
     obtain ⟨l1,l2⟩:=afp hl
     exact ⟨⟨hv,⟨cs,ty,hh,by omega,fun j h h'=>⟨l2 j (by omega) h _ _ _ _ (hr j (by omega) h').1,(hr j (by omega) h').2⟩⟩,hz⟩,fun h=>h⟩)
structure Le (s s2:St):Prop where
 t:∀ i,LeV (s.t i) (s2.t i)
 o:∀ a y,s2.o a = some y→∃ x,s.o a = some x∧LeO x y
 n:s.n = s2.n
theorem Le.refl (s:St):Le s s:=⟨fun _=>LeV.refl _,by grind [LeO.refl],rfl⟩
theorem Le.trans {s s2 s3:St} (h:Le s s2) (h':Le s2 s3) (hO:∀ x y z,LeO x y→LeO y z→LeO x z):Le s s3 :=
 ⟨fun i w Z μ v hv=>h'.t i _ _ _ _ (h.t i _ _ _ _ hv),fun a y hy=>let ⟨x,h1,h2⟩:=h'.o a y hy;let ⟨z,h3,h4⟩:=h.o a x h1;⟨z,h3,hO _ _ _ h4 h2⟩,h.n.trans h'.n⟩
theorem Le.objs {t:Nat→V} {o o2:Nat→Option Ob} {n:Nat} (h:∀ a y,o2 a = some y→∃ x,o a = some x∧LeO x y):Le { t:=t,o:=o,n:=n } { t:=t,o:=o2,n:=n }:=⟨fun _=>LeV.refl _,h,rfl⟩
theorem Le.upd {t:Nat→V} {o:Nat→Option Ob} {n a:Nat} {x y:Ob} (ho:o a = some x) (h:LeO x y):Le { t:=t,o:=o,n:=n } { t:=t,o:=upd o a (some y),n:=n } :=
 by grind [Le.objs,Qi,QH,LeO.refl]
theorem Sim.le {C:Ctx} {nt n:Nat} {s s2:St} {a:Act} {w:World} (h:Sim C nt n s a w) (hl:Le s s2):Sim C nt n s2 a w:=by
 obtain ⟨Z,μ,hg,ht,hf,hm,hd,hn⟩:=h
 refine ⟨Z,μ,⟨fun b y hb=>?_,fun b d p q e f hbd hp hq he hf lp lq=>?_,hg.zlt,hg.grow,hg.frame,hg.zsub,hg.zsup,hg.zkeep,hg.fix,hg.oo⟩,fun i=>hl.t i _ _ _ _ (ht i),hf,hm,hd,hn⟩
 ·obtain ⟨x,h1,h2⟩:=hl.o b y hb
  obtain ⟨c,hm,hk,hv⟩:=hg.ob b x h1
  obtain ⟨k1,k2⟩:=h2.ok hk
  simp_all
 ·obtain ⟨x,h1,h2⟩:=hl.o b p hp
  obtain ⟨x',h1',h2'⟩:=hl.o d q hq
  obtain ⟨c,hm,hk,_⟩:=hg.ob b x h1
  obtain ⟨c',hm',hk',_⟩:=hg.ob d x' h1'
  have e1:c = e:=by grind
  have e2:c' = f:=by grind
  subst e1;subst e2
  exact hg.sep b d x x' _ _ hbd h1 h1' hm hm' ((h2.ok hk).2 lp) ((h2'.ok hk').2 lq)
section
variable {C:Ctx} {nt:Nat} {s:St} {K:St→Prop} {E:Nat→St→Prop} {R:St→Prop}
end
end Av
end
section
namespace Av
open Go
theorem EvP.shut {Γ:Env} {f:FuncId} {args:List V} {ins:List Ob} {Q Q2:V→List Ob→Prop} (h:EvP Γ f args ins Q)
  (hq:∀ res outs,Q res outs→∃ res2 outs2 br B,Q2 res2 outs2∧conv (fun k=>outs[k]?) br B res res2∧anM (fun k=>outs[k]?) br B br outs2∧br.Nodup∧br.take ins.length = List.range ins.length):EvP Γ f args ins Q2:=by
 intro C cargs hP hm hmu hg hF hsz hrep
 refine (h C cargs hP hm hmu hg hF hsz hrep).mono ?_
 rintro e w' ⟨res,outs,hQ,v,Z',μ',rfl,hr,hg',hmu'⟩
 obtain ⟨res2,outs2,br,B,h2,hc,hl,hn,hf⟩:=hq res outs hQ
 obtain ⟨g2,h3,_⟩:=hg'.close hn hl (by rw [hm];exact hf)
 exact ⟨res2,outs2,h2,v,_,_,rfl,Ug hg' br B _ _ _ _ (zi _) hr hc,g2,h3⟩
structure EvK (Γ:Env) (f:FuncId) (args cs:List V) (Q:V→List V→Prop):Prop where
 ev:EvP Γ f (.ptr 0 0 :: args) [.box true cs] (fun r o=>∃ cs2,o = [.box true cs2]∧Q r cs2)
 c1:Qa cs
 cq:∀ r cs2,Q r cs2→r.closed∧Qa cs2
theorem EvD.k {Γ:Env} {f:FuncId} {args cs cs2:List V} {res:V} {Q:V→List V→Prop} (h:EvD Γ f args cs res cs2) (hq:Q res cs2) (hc:∀ r cs2,Q r cs2→r.closed∧Qa cs2):EvK Γ f args cs Q :=
 ⟨h.ev.p.weaken fun r o ⟨h1,h2⟩=>⟨cs2,h2,h1 ▸ hq⟩,h.c1,hc⟩
theorem EvK.weaken {Γ:Env} {f:FuncId} {args cs:List V} {Q Q':V→List V→Prop} (h:EvK Γ f args cs Q) (hq:∀ r c,Q r c→Q' r c) (hc:∀ r cs2,Q' r cs2→r.closed∧Qa cs2):EvK Γ f args cs Q' :=
 ⟨h.ev.weaken fun r o ⟨c,h1,h2⟩=>⟨c,h1,hq _ _ h2⟩,h.c1,hc⟩
section
variable {Γ:Env} {b:Nat} {r:List AO} {s:St} {d:Option Nat} {f:FuncId} {acts cs:List V} {Q:V→List V→Prop} {K:St→Prop} {a:Nat}
end
section
variable {Γ:Env} {b:Nat} {r:List AO} {s:St} {d:Option Nat} {f:FuncId} {acts args cs:List V} {Q:V→List Ob→Prop} {K:St→Prop} {okf:Option (List Nat)→Prop} {a:Nat}
theorem asw (ha:s.o a = some (.box true cs)) (h:EvP Γ f [.ptr 0 0] [.box true cs] Q) (hc:Qa cs) (hab:a < b)
  (hk:∀ res outs,Q res outs→1≤outs.length∧outs.length - 1 < KK∧W7 Γ (b + KK) r { t:=(s.put d (res.ren (sig [a] b))).t,o:=YD (sig [a] b) b [a] outs s.o,n:=s.n } K):aii Γ b r s d f [.ptr a 0] args okf K:=fun _ _=>by
 refine (show xM Γ b s d f [.ptr a 0] _ from ⟨_,_,_,[a],some [],h,⟨by simp [conv],trivial⟩,⟨⟨_,ha,Qc _ _ _ _ hc⟩,trivial⟩,by simp,by simpa using hab,?_⟩)
 intro res outs hq
 obtain ⟨h1,h2,h3⟩:=hk res outs hq
 refine ⟨h1,h2,fun h=>by simp at h,?_⟩
 rw [aqR]
 exact h3
end
section
variable {C:Ctx} {nt:Nat} {s:St} {K:St→Prop} {E:Nat→St→Prop} {R:St→Prop}
end
end Av
end
section
namespace Av
open Go
structure EvF (Γ:Env) (f:FuncId) (off:Nat) (args cs:List V) (res:V) (cs2:List V):Prop where
 ev:Ev Γ f (.ptr 0 off :: args) [.box true cs] res [.box true cs2]
 cl:res.closed
 c1:Qa cs
 c2:Qa cs2
structure EvH (Γ:Env) (f:FuncId) (x:V) (cs:List V) (res:V) (cs2:List V):Prop where
 ev:Ev Γ f [x,.ptr 1 0] [.box true cs,.box true [.ptr 0 0]] res [.box true cs2,.box true [.ptr 0 0]]
 cl:res.closed
 c1:Qa cs
 c2:Qa cs2
structure EvJ (Γ:Env) (f:FuncId) (cs ks vs:List V) (c0:Nat):Prop where
 ev:Ev Γ f [.ptr 0 0] [.box true cs] (.mp 1) [.box true cs,.map ks vs c0,.box true [.ptr 0 0]]
 c1:Qa cs
section
variable {Γ:Env} {A W:Nat→Bool} {b:Nat} {r:List AO} {s:St} {d:Option Nat} {f:FuncId} {acts args:List V} {okf:Option (List Nat)→Prop} {x y z res:V} {J K:St→Prop} {cs cs2 ks vs:List V} {a p off c0:Nat}
theorem asJ {x a p n:Nat} {o:Nat→Option Ob}:j3 (some [x]) [a,p] o n = if n = x then (if x = a then o n else if x = p then o n else (o n).map Ob.frz) else o n:=by
 simp only [j3,zO,zp,zy,or_false]
 grind
theorem asI {x n:Nat} {o:Nat→Option Ob}:j3 (some [x]) [] o n = if n = x then (o n).map Ob.frz else o n:=by
 simp only [j3,zp,zy,or_false,not_false_eq_true,and_true]
attribute [go_sem] asJ asI
theorem ane {args:List V} (h:EvC Γ f args res) (hc:okf (some (Q3 acts))) (hk:W7 Γ (b + KK) r { t:=(s.put d res).t,o:=j3 (some (Q3 acts)) [] s.o,n:=s.n } K):aii Γ b r s d f acts args okf K:=by
 rintro rfl rfl
 refine Yx ⟨_,_,_,_,[],some (Q3 acts),h.1,JC _ _ _ hc,trivial,zV,by grind,by simp,by simp [KK],fun h=>by simp at h,?_⟩
 simp only [YD,YK,Jx _ _ h.2]
 exact hk
theorem aps (ha:s.o a = some (.box true cs)) (h:EvF Γ f off args cs res cs2) (hal:(Q3 acts).contains a = false) (hab:decide (a < b) = true) (hc:Qu s.o (some (Q3 acts)) acts)
  (hk:W7 Γ (b + KK) r { t:=(s.put d res).t,o:=upd (j3 (some (Q3 acts)) [a] s.o) a (some (.box true cs2)),n:=s.n } K):aii Γ b r s d f (.ptr a off :: acts) (x :: args) okf K:=by
 intro h1 _
 simp only [JH,ke] at h1
 obtain ⟨_,rfl⟩:=h1
 have hal':a ∉ Q3 acts:=by simpa using hal
 refine Yx ⟨_,_,_,_,[a],some (Q3 acts),h.ev,⟨?_,Yd s.o [a] _ ?_ acts hc⟩,⟨⟨_,ha,Qc _ _ _ _ h.c1⟩,trivial⟩,by simp,by grind,zi _,by simp [KK],fun h=>by simp at h,?_⟩
 ·simp [conv]
 ·grind
 ·rw [Jx _ _ h.cl]
  simp only [YD,YK,Ob.ren,Q0 _ _ h.c2]
  exact hk
theorem akf (hp:s.o p = some (.box true [.ptr a 0])) (ha:s.o a = some (.box true cs)) (h:EvH Γ f y cs res cs2) (hal:(!(Q3 [x]).contains a && !(Q3 [x]).contains p) = true) (hab:decide (a≠p∧a < b∧p < b) = true) (hc:Qu s.o (some (Q3 [x])) [x])
  (hk:W7 Γ (b + KK) r { t:=(s.put d res).t,o:=upd (upd (j3 (some (Q3 [x])) [a,p] s.o) p (some (.box true [.ptr a 0]))) a (some (.box true cs2)),n:=s.n } K):aii Γ b r s d f [x,.ptr p 0] [y,z] okf K:=by
 intro h1 _
 simp only [JH,ke] at h1
 obtain ⟨rfl,_⟩:=h1
 obtain ⟨e1,e2,e3⟩:=zZ hab
 have hal':a ∉ Q3 [x]∧p ∉ Q3 [x]:=by simpa using hal
 have hx:=Yd s.o [a,p] _ (fun y hy hya=>by
  simp only [zp,zy,or_false] at hya
  rcases hya with rfl|rfl
  ·exact hal'.1 hy
  ·exact hal'.2 hy) [x] hc
 refine Yx ⟨_,_,_,_,[a,p],some (Q3 [x]),h.ev,⟨hx.1,?_,trivial⟩,⟨⟨_,ha,Qc _ _ _ _ h.c1⟩,⟨_,hp,?_⟩,trivial⟩,by simpa using e1,?_,zi _,by simp [KK],fun h=>by simp at h,?_⟩
 ·simp [conv]
 ·show QE _ _ _ _ _
  simp [QE,conv]
 ·grind
 ·rw [Jx _ _ h.cl]
  simp only [YD,YK,Ob.ren,Q0 _ _ h.c2,KS,V.ren,sig]
  exact hk
theorem af7 (hp:s.o p = some (.box true [.ptr a 0])) (ha:s.o a = some (.box true cs)) (hA:(A a && A p && W a && W p) = true) (h:EvH Γ f y cs res cs2) (hal:(!(Q3 [x]).contains a && !(Q3 [x]).contains p) = true) (hab:decide (a≠p∧a < b∧p < b) = true) (hl:((Q3 [x]).all fun x=>A x && W x) = true) (hc:Qu (Jt A s.o) (some (Q3 [x])) [x])
  (hk:J { t:=(s.put d res).t,o:=upd (upd (j3 (some (Q3 [x])) [a,p] s.o) p (some (.box true [.ptr a 0]))) a (some (.box true cs2)),n:=s.n }):af8 Γ A W b s d f [x,.ptr p 0] [y,z] okf J:=by
 intro h1 _
 simp only [JH,ke] at h1
 obtain ⟨rfl,_⟩:=h1
 obtain ⟨e1,e2,e3⟩:=zZ hab
 have hal':a ∉ Q3 [x]∧p ∉ Q3 [x]:=by simpa using hal
 simp only [zA] at hA
 obtain ⟨⟨⟨A1,A2⟩,W1⟩,W2⟩:=hA
 have hra:Jt A s.o a = some (.box true cs):=by rw [aaQ,if_pos A1,ha]
 have hrp:Jt A s.o p = some (.box true [.ptr a 0]):=by rw [aaQ,if_pos A2,hp]
 have hx:=Yd (Jt A s.o) [a,p] _ (fun y hy hya=>by
  simp only [zp,zy,or_false] at hya
  rcases hya with rfl|rfl
  ·exact hal'.1 hy
  ·exact hal'.2 hy) [x] hc
 refine ⟨_,_,_,_,[a,p],some (Q3 [x]),h.ev,⟨hx.1,?_,trivial⟩,⟨⟨_,hra,Qc _ _ _ _ h.c1⟩,⟨_,hrp,?_⟩,trivial⟩,by simpa using e1,?_,zi _,by simp [KK],fun h=>by simp at h,by grind,?_⟩
 ·simp [conv]
 ·show QE _ _ _ _ _
  simp [QE,conv]
 ·grind
 ·rw [Jx _ _ h.cl]
  simp only [YD,YK,Ob.ren,Q0 _ _ h.c2,KS,V.ren,sig]
  exact hk
theorem anf (ha:s.o a = some (.box true cs)) (h:EvJ Γ f cs ks vs c0) (hab:decide (a < b) = true)
  (hk:W7 Γ (b + KK) r { t:=(s.put d (.mp b)).t,o:=upd (upd (upd s.o (b + 1) (some (.box true [.ptr a 0]))) b (some (.map ks (KS (sig [a] b) vs) c0))) a (some (.box true cs)),n:=s.n } K):aii Γ b r s d f [.ptr a 0] args okf K:=by
 intro _ _
 refine Yx ⟨_,_,_,_,[a],some [],h.ev,⟨?_,trivial⟩,⟨⟨_,ha,Qc _ _ _ _ h.c1⟩,trivial⟩,by simp,by grind,by simp,by simp [KK],fun h=>by simp at h,?_⟩
 ·simp [conv]
 ·simp only [YD,YK,Ob.ren,Q0 _ _ h.c1,KS,V.ren,sig,aqR]
  exact hk
theorem vm {nt:Nat} {ac:AC} {rs:List Uc} (hb:Has Γ.P f nt ac rs) (ha:args.length + 1≤nt) (hr:res.closed) (h1:Qa cs) (h2:Qa cs2)
  (h:∀ C:Ctx,C.env = Γ→C.m = 1→AWp C nt ac (YX (.ptr 0 off :: args) [.box true cs]) (wu 1 rs res [.box true cs2]) (fun _ _=>False) (wu 1 rs res [.box true cs2])):EvF Γ f off args cs res cs2 :=
 ⟨by grind [YM],hr,h1,h2⟩
theorem VV {nt:Nat} {ac:AC} {rs:List Uc} (hb:Has Γ.P f nt ac rs) (ha:2≤nt) (hr:res.closed) (h1:Qa cs) (h2:Qa cs2)
  (h:∀ C:Ctx,C.env = Γ→C.m = 2→AWp C nt ac (YX [x,.ptr 1 0] [.box true cs,.box true [.ptr 0 0]]) (wu 2 rs res [.box true cs2,.box true [.ptr 0 0]]) (fun _ _=>False) (wu 2 rs res [.box true cs2,.box true [.ptr 0 0]])):EvH Γ f x cs res cs2 :=
 ⟨by grind [YM],hr,h1,h2⟩
theorem aiZ {nt:Nat} {ac:AC} {rs:List Uc} (hb:Has Γ.P f nt ac rs) (ha:1≤nt) (h1:Qa cs)
  (h:∀ C:Ctx,C.env = Γ→C.m = 1→AWp C nt ac (YX [.ptr 0 0] [.box true cs]) (wu 1 rs (.mp 1) [.box true cs,.map ks vs c0,.box true [.ptr 0 0]]) (fun _ _=>False) (wu 1 rs (.mp 1) [.box true cs,.map ks vs c0,.box true [.ptr 0 0]])):EvJ Γ f cs ks vs c0 :=
 ⟨by grind [YM],h1⟩
theorem aeR {rs:List Uc} (us:List V) (h:vX s rs = some us) (h0:s.o 0 = some (.box true cs2)) (h1:s.o 1 = some (.box true [.ptr 0 0])) (h2:Qa cs2) (hc:conv s.o [0,1] none (aih us) res):wu 2 rs res [.box true cs2,.box true [.ptr 0 0]] s :=
 Wr rs us _ h ⟨[0,1],none,hc,⟨⟨_,h0,fun h=>h,Qc _ _ _ _ h2⟩,⟨_,h1,fun h=>h,by grind [QE,conv]⟩,trivial⟩,by simp,rfl⟩
theorem arn {rs:List Uc} {us:List V} (m q:Nat) (h:vX s rs = some [.mp m]) (h0:s.o 0 = some (.box true cs2)) (hm:s.o m = some (.map ks us c0)) (hq:s.o q = some (.box true [.ptr 0 0])) (h2:Qa cs2)
  (hv:QE s.o [0,m,q] none us vs) (hd:decide (0 < m∧0 < q∧m≠q) = true):wu 1 rs (.mp 1) [.box true cs2,.map ks vs c0,.box true [.ptr 0 0]] s:=by
 obtain ⟨d1,d2,d3⟩:=zZ hd
 refine Wr rs _ _ h ⟨[0,m,q],none,?_,⟨⟨_,h0,fun h=>h,Qc _ _ _ _ h2⟩,⟨_,hm,rfl,rfl,hv⟩,⟨_,hq,fun h=>h,by grind [QE,conv]⟩,trivial⟩,?_,rfl⟩
 ·simp [aih,conv]
 ·simp;omega
end
section
variable {Γ:Env} {A W:Nat→Bool} {b:Nat} {s:St} {d:Option Nat} {f:FuncId} {acts args:List V} {okf:Option (List Nat)→Prop} {res:V} {J:St→Prop}
theorem ang (h:EvC Γ f args res) (hl:((Q3 acts).all fun x=>A x && W x) = true) (hc:Qu (Jt A s.o) (some (Q3 acts)) acts)
  (hk:J { t:=(s.put d res).t,o:=j3 (some (Q3 acts)) [] s.o,n:=s.n }):af8 Γ A W b s d f acts args okf J:=by
 rintro rfl _
 refine ⟨_,_,_,_,[],some (Q3 acts),h.1,JC _ _ _ hc,trivial,zV,by grind,by simp,by simp [KK],fun h=>by simp at h,by grind,?_⟩
 simp only [YD,YK,Jx _ _ h.2]
 exact hk
end
end Av
end
noncomputable section
set_option maxRecDepth 10000
set_option maxHeartbeats 4000000
namespace Av
open Go
attribute [local irreducible] AWp W7 Kx jy awS awC vE awQ aay QP W6 vu awR Vn awB okR jx ris
def aln (c:UInt8) (o:List UInt8):Bool:=(decide ((c.toNat:Int)≥97) && decide ((c.toNat:Int)≤122)) || ((decide ((c.toNat:Int)≥65) && decide ((c.toNat:Int)≤90)) || ((decide ((c.toNat:Int)≥48) && decide ((c.toNat:Int)≤57)) || decide (Lib.indexByte o c≥0)))
def xn (s:List UInt8):Bool:=s.all (fun c=>aln c [45,95,46]) && (decide ((s.length:Int)≥1) && decide ((s.length:Int)≤32))
def abg (s:List UInt8):Bool:=match Lib.atoiAll s with|.ok _=>decide (XI s≥0) && (Lib.itoa (XI s) == s)|_=>false
theorem anh (w:List UInt8):-9223372036854775808≤XI w∧XI w≤9223372036854775807:=by
 unfold XI
 split
 ·rename_i v h
  unfold Lib.atoiAll at h
  split at h
  ·exact absurd h (by simp)
  ·dsimp only at h
   split at h
   ·exact absurd h (by simp)
   ·exact absurd h (by simp)
   ·rename_i u _
    split at h
    ·exact absurd h (by simp)
    ·split at h
     ·exact absurd h (by simp)
     ·rename_i h1 h2
      injection h with h
      subst h
      split<;>rename_i h3<;>simp only [h3,not_true_eq_false,not_false_eq_true,true_and,false_and] at h1 h2<;>omega
 ·unfold Lib.atoiSat;split<;>omega
 ·omega
def XW:=qd Proofs.Tryz.f115 []
def Vz (Γ:Env) (f:Nat):Prop:=∀ (c:UInt8) (o:List UInt8),EvN Γ f [.sc (.int .u8 c.toNat),V.str o] (V.bool (aln c o))
theorem v8 {Γ:Env} {f:Nat} (h:Has Γ.P f 33 XW.1.1.ac XW.1.2) (z0:Wj Γ 162):Vz Γ f:=by
 intro c o
 refine Qb h zsi zcl zcl fun C hC hm=>?_
 subst hC
 simp only [XW,qd,DC.ac]
 refine zgo ?_;repeat' first|exact zt|apply zan|intro hc
 all_goals (refine Qf _ rfl ?_;simp only [go_sem];simp [aln, *];done)
def Vc:=qd Proofs.Tryz.f48 []
def WG (Γ:Env) (f:Nat):Prop:=∀ (s:List UInt8) (hs:s.length < 2 ^ 30),EvN Γ f [V.str s] (V.bool (xn s))
attribute [local go_sem] Yo in
theorem abY {Γ:Env} {f:Nat} (h:Has Γ.P f 24 Vc.1.1.ac Vc.1.2) (z0:Vz Γ 115):WG Γ f:=by
 intro s hs
 refine Qb h zsi zcl zcl fun C hC hm=>?_
 subst hC
 simp only [Vc,qd,DC.ac]
 refine zgo ?_;repeat' first|exact zt|apply zan|intro hc
 refine Qz (ι:=Nat) (fun k=>k≤s.length∧(s.take k).all (fun c=>aln c [45,95,46]) = true) (fun k=>Yo [(0,V.str s),(6,.hd 0 0 s.length),(7,V.int s.length),(8,V.int k)] [(0,.buf false 1 (s.map fun c=>V.sc (.int .u8 c.toNat)))] 1) (fun k=>s.length - k) 0 ⟨by omega,by simp⟩ (Qp [(0,2000)]) (zwg [(0,2000)]) fun k hk K' hL=>?_
 obtain ⟨hk,hinv⟩:=hk
 rcases hd:s.drop k with _|⟨c,r⟩
 ·have hkl:=Qj hd
  rw [zb hkl] at hinv
  have e1:decide ((k:Int) < ((s.length:Nat):Int)) = false:=by simp;omega
  have hw:xn s = (decide ((s.length:Int)≥1) && decide ((s.length:Int)≤32)):=by rw [xn,hinv,zC]
  rw [hw]
  (have zx:=e1);refine zgo ?_;repeat' first|exact zt|apply zan|intro hc
  all_goals first|exact zr|(refine Qf _ rfl ?_;simp only [go_sem];simp [*];done)
 ·obtain ⟨hk',hget,hr⟩:=Qe hd
  have hwi:=Qd (k:=k) (by omega)
  have e1:decide ((k:Int) < ((s.length:Nat):Int)) = true:=by simp;omega
  have hl:=(z0 c [45,95,46]).b
  rcases hb:aln c [45,95,46] with _|_
  ·have hw:xn s = false:=by
    have:s.all (fun c=>aln c [45,95,46]) = false:=by
     rw [ky];exact ⟨c,zj hget,by simp [hb]⟩
    rw [xn,this];rfl
   rw [hb] at hl
   rw [hw]
   (have zx:=za e1 (za hwi hget));exact zg
  ·rw [hb] at hl
   (have zx:=za e1 (za hwi hget));refine zgo ?_;repeat' first|exact zt|apply zan|intro hc
   all_goals exact hL _ (k + 1) (Qp []) ⟨by omega,by rw [zB,hget,List.all_append,hinv];simp [hb]⟩ (by omega) (zwg [])
def Xm:=qd Proofs.Tryz.f150 []
def Y7 (Γ:Env) (f:Nat):Prop:=∀ (s:List UInt8) (hs:s.length < 2 ^ 30),EvN Γ f [V.str s] (.tup [V.int (XI s),V.bool (abg s)])
theorem w8 {Γ:Env} {f:Nat} (h:Has Γ.P f 24 Xm.1.1.ac Xm.1.2) (z0:xY Γ 184) (z1:xX Γ 133):Y7 Γ f:=by
 intro s hs
 refine Qb h zsi (by simp only [V.closed,Qa,V.noSl,UJ,and_self]) (by simp only [V.closed,Qa,V.noSl,UJ,and_self]) fun C hC hm=>?_
 subst hC
 simp only [Xm,qd,DC.ac]
 have ga:=(z0 s (by omega)).b
 have hrng:=anh s
 have gi:=(z1 (XI s) hrng.1 hrng.2).b
 by_cases hok:∃ n,Lib.atoiAll s = .ok n
 ·obtain ⟨n,hn⟩:=hok
  have he:amN s = .sc .nilIface:=by rw [amN,hn]
  have hd:abg s = (decide (XI s≥0) && (Lib.itoa (XI s) == s)):=by rw [abg,hn]
  rw [he] at ga
  rw [hd]
  refine zgo ?_;repeat' first|exact zt|apply zan|intro hc
  all_goals first|exact zr|(refine Qf _ rfl ?_;simp only [go_sem];simp [*];done)
 ·have he:amN s = .nn:=by
   rw [amN];split
   ·rename_i n hn;exact absurd ⟨n,hn⟩ hok
   ·rfl
  have hd:abg s = false:=by
   rw [abg];split
   ·rename_i n hn;exact absurd ⟨n,hn⟩ hok
   ·rfl
  rw [he] at ga
  rw [hd]
  refine zgo ?_;repeat' first|exact zt|apply zan|intro hc
  all_goals first|exact zr|(refine Qf _ rfl ?_;simp only [go_sem];simp [*];done)
structure NR (a:List Int):Prop where
 nd:a.Nodup
 rg:∀ x∈a,1≤x∧x≤16
theorem NR.add {a:List Int} (h:NR a) (l:List Int) (k:Nat):NR (if a.contains (1 + (QR l k 16).1) = true then a else a++[1 + (QR l k 16).1]):=by
 have hr:=Q4 (l:=l) (k:=k) (n:=16) (by omega) (by omega)
 split
 ·exact h
 ·rename_i hc
  have hx:1 + (QR l k 16).1 ∉ a:=by simpa using hc
  refine ⟨kp.2 ⟨h.nd,by simp,fun x hx2 y hy e=>?_⟩,fun x hx2=>?_⟩
  ·simp at hy;subst hy;subst e;exact hx hx2
  ·rcases zX.1 hx2 with h1|h1
   ·exact h.rg x h1
   ·simp at h1;omega
theorem ali {α:Type} {p:α→Bool} {l r:List α} {k:Nat} {x:α} (h:l.drop k = x :: r):(l.drop k).any p = (p x || (l.drop (k + 1)).any p):=by
 obtain ⟨_,_,hr⟩:=Qe h
 rw [h,List.any_cons,hr]
def UW (c:UInt8):Bool:=decide ((c.toNat:Int)≤32) || decide ((c.toNat:Int) > 126)
def QT (s:List UInt8):Bool:=!s.any UW && (decide ((s.length:Int)≥1) && decide ((s.length:Int)≤32))
def qp:=qd Proofs.Tryz.f73 []
def Ko (Γ:Env) (f:Nat):Prop:=∀ (s:List UInt8) (hs:s.length < 2 ^ 60),EvN Γ f [V.str s] (V.bool (QT s))
theorem afH {Γ:Env} {f:Nat} (h:Has Γ.P f 28 qp.1.1.ac qp.1.2) :Ko Γ f:=by
 intro s hs
 refine Qb h zsi zcl zcl fun C hC hm=>?_
 subst hC
 simp only [qp,qd,DC.ac]
 by_cases h0:s.length < 1
 ·have e1:decide ((s.length:Int) < 1) = true:=zu (by omega)
  have e2:QT s = false:=by unfold QT;rw [zv (by omega:¬ (s.length:Int)≥1)];simp
  rw [e2]
  (have zx:=e1);exact zg
 have e1:decide ((s.length:Int) < 1) = false:=zv (by omega)
 by_cases h1:s.length > 32
 ·have e3:decide ((s.length:Int) > 32) = true:=zu (by omega)
  have e2:QT s = false:=by unfold QT;rw [zv (by omega:¬ (s.length:Int)≤32)];simp
  rw [e2]
  (have zx:=za e1 e3);exact zg
 have e3:decide ((s.length:Int) > 32) = false:=zv (by omega)
 have e2:QT s = !s.any UW:=by unfold QT;rw [zu (by omega:(s.length:Int)≤32),zu (by omega:(s.length:Int)≥1)];simp
 rw [e2]
 (have zx:=za e1 e3);refine zgo ?_;repeat' first|exact zt|apply zan|intro hc
 refine Qt (ι:=Nat) (fun k=>k≤s.length∧(s.drop k).any UW = s.any UW) (fun k=>[(3,V.int k)]) (fun k=>s.length - k) 0 (by omega) ⟨by simp,by simp⟩ zol zlt zet fun k hk K' hL=>?_
 obtain ⟨hk,hinv⟩:=hk
 simp only [ovT,Jn,Nat.reduceEqDiff,reduceIte]
 rcases hd:s.drop k with _|⟨c,r⟩
 ·have:=Qj hd
  rw [hd] at hinv
  have e4:decide ((k:Int) < ((s.length:Nat):Int)) = false:=by simp;omega
  rw [← hinv]
  (have zx:=e4);refine zgo ?_;repeat' first|exact zt|apply zan|intro hc
  all_goals first|exact zr|(refine Qf _ rfl ?_;simp only [go_sem];simp;done)
 ·obtain ⟨hk',hget,hr⟩:=Qe hd
  have hst:=ali (p:=UW) hd
  rw [hinv] at hst
  have hw:=Qd (k:=k) (by omega)
  have e4:decide ((k:Int) < ((s.length:Nat):Int)) = true:=by simp;omega
  have e5:decide ((c.toNat:Int) < 33) = decide ((c.toNat:Int)≤32):=decide_eq_decide.2 (by omega)
  rcases h2:decide ((c.toNat:Int)≤32) with _|_
  ·rcases h3:decide ((c.toNat:Int) > 126) with _|_
   ·have hb:UW c = false:=by unfold UW;rw [h2,h3];rfl
    rw [hb,kF] at hst
    (have zx:=za e4 (za hw (za hget (za e5 (za h2 h3)))));refine zgo ?_;repeat' first|exact zt|apply zan|intro hc
    all_goals first
     | exact hL _ (k + 1) zet ⟨by omega,hst.symm⟩ (by omega) zoe
   ·have hb:UW c = true:=by unfold UW;rw [h3,kR]
    rw [hb,k9] at hst
    rw [hst]
    (have zx:=za e4 (za hw (za hget (za e5 (za h2 h3)))));exact zg
  ·have hb:UW c = true:=by unfold UW;rw [h2,k9]
   rw [hb,k9] at hst
   rw [hst]
   (have zx:=za e4 (za hw (za hget (za e5 h2))));exact zg
def okP {α:Type} (p:α→Bool) (q:α→α→Bool) (l:List α) (k:Nat):Bool:=(List.range k).all fun i=>match l[i]? with|some x=>p x && (i == 0 || match l[i - 1]? with|some y=>q y x|none=>false)|none=>false
theorem an4 {α:Type} (p:α→Bool) (q:α→α→Bool) (l:List α):okP p q l 0 = true:=rfl
theorem wh {α:Type} (p:α→Bool) (q:α→α→Bool) (l:List α) (k:Nat):okP p q l (k + 1) = (okP p q l k && match l[k]? with|some x=>p x && (k == 0 || match l[k - 1]? with|some y=>q y x|none=>false)|none=>false):=by
 rw [okP,okP,List.range_succ,List.all_append];simp
theorem acR {α:Type} {p:α→Bool} {q:α→α→Bool} {l:List α} {k n:Nat} (h:okP p q l k = false) (hk:k≤n):okP p q l n = false:=by
 rw [okP,ky] at h ⊢
 obtain ⟨i,hi,h⟩:=h
 exact ⟨i,kP.2 (km (kP.1 hi) hk),h⟩
theorem acQ {α:Type} {p:α→Bool} {q:α→α→Bool} {l:List α} {x:α} (h:l[0]? = some x):okP p q l 1 = p x:=by
 rw [wh,an4,h];simp
theorem vS {α:Type} {p:α→Bool} {q:α→α→Bool} {l:List α} {k:Nat} {x y:α} (h:l[k + 1]? = some x) (h':l[k]? = some y):okP p q l (k + 2) = (okP p q l (k + 1) && (p x && q y x)):=by
 rw [wh,h];simp [h']
def ags (a b k:Int):Bool:=decide (QL a b > 0) && ((Yu a).kind == k)
def adE (n:Int):Bool:=decide (n≥0) && decide (n≤2147483648)
def aqP (n:Int):Bool:=decide (n≥0) && decide (n < 4294967296)
def yV (l:List (List UInt8)):Bool:=okP QT Op.bytesLess l l.length && decide ((l.length:Int)≤8)
structure Qk where
 serial:Int
 issuer:List UInt8
 subject:List UInt8
 kalg:Int
 kbits:Int
 kid:Int
 halg:Int
 hbits:Int
 from_:Int
 to_:Int
 auth:Bool
 path:Int
 names:List (List UInt8)
 skey:Int
 ssum:Int
def Qk.cells (c:Qk):List V:=[V.int c.serial,V.str c.issuer,V.str c.subject,V.int c.kalg,V.int c.kbits,V.int c.kid,V.int c.halg,V.int c.hbits,V.int c.from_,V.int c.to_,V.bool c.auth,V.int c.path,.sl 1 (c.names.map V.str),V.int c.skey,V.int c.ssum]
def Qk.v (c:Qk):V:=.agg c.cells
def af0 (c:Qk):Bool:=decide (c.serial < 0) || (decide (c.serial > 1099511627776) || (!QT c.issuer || (!QT c.subject || !yV c.names)))
def ahG (c:Qk):Bool:=!ags c.kalg c.kbits 2 || (!adE c.kid || (!ags c.halg c.hbits 1 || (!adE c.skey || !aqP c.ssum)))
def ak8 (c:Qk):Bool:=decide (c.from_ < 0) || (decide (c.from_ > c.to_) || decide (c.to_ > 40000))
def ahF (c:Qk):Bool:=decide (c.path≥0) && (decide (c.path≤8) && (c.auth || (c.path == 0)))
def W5 (c:Qk):Bool:=!af0 c && (!ahG c && (!ak8 c && ahF c))
def Vm:=qd Proofs.Tryz.f131 []
def Xb (Γ:Env) (f:Nat):Prop:=∀ (s:List UInt8) (hs:s.length < 2 ^ 60),EvN Γ f [V.str s] (V.bool (QT s))
attribute [local go_sem] Yo in
theorem ab8 {Γ:Env} {f:Nat} (h:Has Γ.P f 27 Vm.1.1.ac Vm.1.2) :Xb Γ f:=by
 intro s hs
 refine Qb h zsi zcl zcl fun C hC hm=>?_
 subst hC
 simp only [Vm,qd,DC.ac]
 refine zgo ?_;repeat' first|exact zt|apply zan|intro hc
 refine Qz (ι:=Nat) (fun k=>k≤s.length∧(s.drop k).any UW = s.any UW) (fun k=>Yo [(0,V.str s),(6,.hd 0 0 s.length),(7,V.int s.length),(8,V.int k)] [(0,.buf false 1 (s.map fun c=>V.sc (.int .u8 c.toNat)))] 1) (fun k=>s.length - k) 0 ⟨by omega,by simp⟩ (Qp [(0,2000)]) (zwg [(0,2000)]) fun k hk K' hL=>?_
 obtain ⟨hk,hinv⟩:=hk
 rcases hd:s.drop k with _|⟨c,r⟩
 ·have hkl:=Qj hd
  rw [hd] at hinv
  have e1:decide ((k:Int) < ((s.length:Nat):Int)) = false:=by simp;omega
  have hok:QT s = (decide ((s.length:Int)≥1) && decide ((s.length:Int)≤32)):=by rw [QT,← hinv];rfl
  rw [hok]
  rcases hq:decide ((s.length:Int)≥1) with _|_
  ·(have zx:=za e1 hq);exact zg
  ·(have zx:=za e1 hq);refine zgo ?_;repeat' first|exact zt|apply zan|intro hc
   all_goals first|exact zr|(refine Qf _ rfl ?_;simp only [go_sem];simp;done)
 ·obtain ⟨hk',hget,hr⟩:=Qe hd
  rw [hd] at hinv
  have hw:=Qd (k:=k) (by omega)
  have e1:decide ((k:Int) < ((s.length:Nat):Int)) = true:=by simp;omega
  rcases h1:decide ((c.toNat:Int)≤32) with _|_
  ·rcases h2:decide ((c.toNat:Int) > 126) with _|_
   ·(have zx:=za e1 (za hw (za hget (za h1 h2))));refine zgo ?_;repeat' first|exact zt|apply zan|intro hc
    all_goals first
     | exact hL _ (k + 1) (Qp [(0,0)]) ⟨by omega,by rw [hr,← hinv];simp only [List.any_cons,UW,h1,h2,Zu,kF]⟩ (by omega) (zwg [(0,0)])
   ·have hok:QT s = false:=by rw [QT,← hinv];simp only [List.any_cons,UW,h2,kR,k9,kW,zD]
    rw [hok]
    (have zx:=za e1 (za hw (za hget (za h1 h2))));exact zg
  ·have hok:QT s = false:=by rw [QT,← hinv];simp only [List.any_cons,UW,h1,kR,k9,kW,zD]
   rw [hok]
   (have zx:=za e1 (za hw (za hget h1)));exact zg
def X9:=qd Proofs.Tryz.f55 []
def J1 (Γ:Env) (f:Nat):Prop:=∀ (n:Int),EvN Γ f [V.int n] (V.bool (adE n))
theorem aam {Γ:Env} {f:Nat} (h:Has Γ.P f 9 X9.1.1.ac X9.1.2) :J1 Γ f:=by
 intro n
 refine Qb h zsi zcl zcl fun C hC hm=>?_
 subst hC
 simp only [X9,qd,DC.ac]
 unfold adE
 refine zgo ?_;repeat' first|exact zt|apply zan|intro hc
 all_goals first|exact zr|(refine Qf _ rfl ?_;simp only [go_sem];simp [*];done)
def X8:=qd Proofs.Tryz.f203 []
def VL (Γ:Env) (f:Nat):Prop:=∀ (n:Int),EvN Γ f [V.int n] (V.bool (aqP n))
theorem aal {Γ:Env} {f:Nat} (h:Has Γ.P f 9 X8.1.1.ac X8.1.2) :VL Γ f:=by
 intro n
 refine Qb h zsi zcl zcl fun C hC hm=>?_
 subst hC
 simp only [X8,qd,DC.ac]
 unfold aqP
 refine zgo ?_;repeat' first|exact zt|apply zan|intro hc
 all_goals first|exact zr|(refine Qf _ rfl ?_;simp only [go_sem];simp [*];done)
def WC:=qd Proofs.Tryz.f202 []
def Ua (Γ:Env) (f:Nat):Prop:=∀ (a b k:Int),EvN Γ f [.agg [V.int a,V.int b],V.int k] (V.bool (ags a b k))
theorem aba {Γ:Env} {f:Nat} (h:Has Γ.P f 14 WC.1.1.ac WC.1.2) (z0:WI Γ 118) (z1:XM Γ 119):Ua Γ f:=by
 intro a b k
 refine Qb h zsi zcl zcl fun C hC hm=>?_
 subst hC
 simp only [WC,qd,DC.ac]
 unfold ags
 rcases hq:decide (QL a b > 0) with _|_
 ·(have zx:=hq);refine zgo ?_;repeat' first|exact zt|apply zan|intro hc
  all_goals first|exact zr|(refine Qf _ rfl ?_;simp only [go_sem];simp [*];done)
 ·(have zx:=hq);refine zgo ?_;repeat' first|exact zt|apply zan|intro hc
  all_goals first|exact zr|(refine Qf _ rfl ?_;simp only [go_sem];simp [*];done)
def Y3:=qd Proofs.Tryz.f201 []
def Wm (Γ:Env) (f:Nat):Prop:=∀ (l:List (List UInt8)) (hl:l.length < 2 ^ 60) (hn:∀ x∈l,x.length < 2 ^ 60),EvN Γ f [.sl 1 (l.map V.str)] (V.bool (yV l))
attribute [local go_sem] zh in
theorem wB {Γ:Env} {f:Nat} (h:Has Γ.P f 32 Y3.1.1.ac Y3.1.2) (z0:Xb Γ 131):Wm Γ f:=by
 intro l hl hn
 refine Qb h zsi zcl zcl fun C hC hm=>?_
 subst hC
 simp only [Y3,qd,DC.ac]
 refine zgo ?_;repeat' first|exact zt|apply zan|intro hc
 refine Qt (ι:=Nat) (fun k=>k≤l.length∧okP QT Op.bytesLess l k = true) (fun k=>[(7,V.int k)]) (fun k=>l.length - k) 0 (by omega) ⟨zw _,rfl⟩ zol zlt zet fun k hk K' hL=>?_
 obtain ⟨hk,hinv⟩:=hk
 simp only [ovT,Jn,Nat.reduceEqDiff,reduceIte]
 rcases hd:l.drop k with _|⟨x,r⟩
 ·have hkl:=Qj hd
  have e1:decide ((k:Int) < (((l.map V.str).length:Nat):Int)) = false:=by simp;omega
  have hkk:k = l.length:=by omega
  subst hkk
  rw [yV,hinv,zC]
  (have zx:=e1);exact zg
 ·obtain ⟨hk',hget,hr⟩:=Qe hd
  have hw:=Qd (k:=k) (by omega)
  have e1:decide ((k:Int) < (((l.map V.str).length:Nat):Int)) = true:=by simp;omega
  have hnx:=(z0 x (hn x (zj hget))).b
  have hbad:okP QT Op.bytesLess l (k + 1) = false→yV l = false:=fun h=>by rw [yV,acR h (by omega),zD]
  rcases hx:QT x with _|_
  ·have hb:okP QT Op.bytesLess l (k + 1) = false:=by rw [wh,hget];simp [hx]
   rw [hbad hb]
   rw [hx] at hnx
   (have zx:=za e1 (za hw hget));exact zg
  ·rw [hx] at hnx
   rcases k with _|k
   ·have hw0:IntKind.i64.wrap 1 = ((1:Nat):Int):=by decide
    have hg1:okP QT Op.bytesLess l (0 + 1) = true:=by rw [acQ hget,hx]
    have e2:decide (((0:Nat):Int) > 0) = false:=rfl
    (have zx:=za e1 (za e2 (za hw (za hw0 hget))));refine zgo ?_;repeat' first|exact zt|apply zan|intro hc
    all_goals exact hL _ 1 zet ⟨by omega,hg1⟩ (by omega) zoe
   ·have e2:decide (((k + 1:Nat):Int) > 0) = true:=zu (by omega)
    have hw2:IntKind.i64.wrap (((k + 1:Nat):Int) - 1) = (k:Int):=by rw [Jc (by omega) (by omega)];omega
    obtain ⟨y,hgy⟩:∃ y,l[k]? = some y:=⟨_,zf (by omega)⟩
    have hnext:=vS (p:=QT) (q:=Op.bytesLess) hget hgy
    rw [hinv,hx] at hnext
    rcases hb:Op.bytesLess y x with _|_
    ·rw [hbad (by rw [hnext,hb];rfl)]
     (have zx:=za e1 (za e2 (za hw (za hw2 (za hget (za hgy hb))))));exact zg
    ·(have zx:=za e1 (za e2 (za hw (za hw2 (za hget (za hgy hb))))));refine zgo ?_;repeat' first|exact zt|apply zan|intro hc
     all_goals exact hL _ (k + 2) zet ⟨by omega,by rw [hnext,hb];rfl⟩ (by omega) zoe
def Y2:=qd Proofs.Tryz.f166 []
def Wl (Γ:Env) (f:Nat):Prop:=∀ (c:Qk) (h1:c.issuer.length < 2 ^ 60) (h2:c.subject.length < 2 ^ 60) (h3:c.names.length < 2 ^ 60) (h4:∀ x∈c.names,x.length < 2 ^ 60),EvN Γ f [c.v] (V.bool (W5 c))
theorem wA {Γ:Env} {f:Nat} (h:Has Γ.P f 91 Y2.1.1.ac Y2.1.2) (z0:Xb Γ 131) (z1:Wm Γ 201) (z2:Ua Γ 202) (z3:J1 Γ 55) (z4:VL Γ 203):Wl Γ f:=by
 intro c h1 h2 h3 h4
 refine Qb h zsi zcl zcl fun C hC hm=>?_
 subst hC
 simp only [Y2,qd,DC.ac]
 have hn:=(z1 c.names h3 h4).b
 have ha:=(z0 c.issuer h1).b
 have hb:=(z0 c.subject h2).b
 simp only [Qk.v,Qk.cells]
 refine zgo ?_;repeat' first|exact zt|apply zan|intro hc
 all_goals (refine Qf _ rfl ?_;simp only [go_sem];simp [W5,af0,ahG,ak8,ahF, *];done)
def Y4:=qd Proofs.Tryz.f120 []
def Wn (Γ:Env) (f:Nat):Prop:=∀ (c:Qk) (h1:c.issuer.length < 2 ^ 60) (h2:c.subject.length < 2 ^ 60) (h3:c.names.length < 2 ^ 60) (h4:∀ x∈c.names,x.length < 2 ^ 60),EvN Γ f [c.v] (V.int (if W5 c = true then 0 else 9))
theorem wC {Γ:Env} {f:Nat} (h:Has Γ.P f 6 Y4.1.1.ac Y4.1.2) (z0:Wl Γ 166):Wn Γ f:=by
 intro c h1 h2 h3 h4
 refine Qb h zsi zcl zcl fun C hC hm=>?_
 subst hC
 simp only [Y4,qd,DC.ac]
 have hv:=(z0 c h1 h2 h3 h4).b
 simp only [Qk.v,Qk.cells] at hv ⊢
 rcases hc2:W5 c with _|_
 ·rw [hc2] at hv
  exact zg
 ·rw [hc2] at hv
  exact zg
end Av
end
