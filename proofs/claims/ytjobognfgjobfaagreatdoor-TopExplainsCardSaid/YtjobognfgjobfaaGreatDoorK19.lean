/- Functions that are lent a part of a variable; closures over a variable that points to another one; functions that make a map of closures. -/
import Derived.Test.YtjobognfgjobfaaGreatDoorK13
import Derived.Test.YtjobognfgjobfaaGreatDoorK18
import Derived.Test.YtjobognfgjobfaaGreatDoorK12
set_option linter.unusedVariables false
set_option linter.unusedSimpArgs false
noncomputable section
set_option maxRecDepth 10000
set_option maxHeartbeats 4000000
namespace Av
open Go
attribute [local irreducible] AWp WC wb aai awS awC aeM awQ afz Jk qV aes awR jj awB okR aaf ris
section
variable {α:Type}
def gK (lt:α→α→Bool) (out:List α) (x:α):Nat→Nat
 | 0=>0
 | k + 1=>if (match out[k]? with|some y=>lt x y|none=>false) = true then gK lt out x k else k + 1
theorem av3 (lt:α→α→Bool) (out:List α) (x:α):∀ k,gK lt out x k≤k
 | 0=>zj _
 | k + 1=>by
   rw [gK]
   by_cases h:(match out[k]? with|some y=>lt x y|none=>false) = true
   ·rw [if_pos h];exact Zb (av3 lt out x k)
   ·rw [if_neg h];exact zj _
def al0 (lt:α→α→Bool) (out:List α) (x:α):List α:=out.take (gK lt out x out.length)++[x]++out.drop (gK lt out x out.length)
def Wo (lt:α→α→Bool) (l:List α):List α:=l.foldl (al0 lt) []
theorem atX (lt:α→α→Bool) (out:List α) (x:α):(al0 lt out x).length = out.length + 1:=by
 have:=av3 lt out x out.length
 simp [al0];omega
theorem alX (lt:α→α→Bool):∀ (l out:List α),(l.foldl (al0 lt) out).length = out.length + l.length
 | [],out=>by simp
 | x :: r,out=>by rw [List.foldl_cons,alX lt r,atX];simp;omega
theorem xw (lt:α→α→Bool) (l:List α):(Wo lt l).length = l.length:=by rw [Wo,alX];simp
theorem asc (lt:α→α→Bool) (x:α):Wo lt [x] = [x]:=by simp [Wo,al0,gK]
theorem atW {lt:α→α→Bool} {out:List α} {x y:α}:y∈al0 lt out x↔y = x∨y∈out:=by
 have:y∈out↔y∈out.take (gK lt out x out.length)∨y∈out.drop (gK lt out x out.length):=by
  rw [← zP,kh]
 simp only [al0,zP,zy,this]
 constructor
 ·rintro ((h|h)|h)
  ·exact .inr (.inl h)
  ·exact .inl h
  ·exact .inr (.inr h)
 ·rintro (h|h|h)
  ·exact .inl (.inr h)
  ·exact .inl (.inl h)
  ·exact .inr h
theorem alW {lt:α→α→Bool} {y:α}:∀ (l out:List α),y∈l.foldl (al0 lt) out↔y∈out∨y∈l
 | [],out=>by simp
 | x :: r,out=>by
   rw [List.foldl_cons,alW r,atW,zw]
   constructor
   ·rintro ((h|h)|h)
    ·exact .inr (.inl h)
    ·exact .inl h
    ·exact .inr (.inr h)
   ·rintro (h|h|h)
    ·exact .inl (.inr h)
    ·exact .inl (.inl h)
    ·exact .inr h
theorem adL {lt:α→α→Bool} {y:α} {l:List α}:y∈Wo lt l↔y∈l:=by rw [Wo,alW];simp
theorem asg {lt:α→α→Bool} {out:List α} {x:α}:(al0 lt out x).Perm (x :: out):=by
 have h:(out.take (gK lt out x out.length)++out.drop (gK lt out x out.length)).Perm out:=by rw [kh]
 rw [al0,kq,List.singleton_append]
 exact ZV.trans (h.cons x)
theorem ajH {lt:α→α→Bool}:∀ (l out:List α),(l.foldl (al0 lt) out).Perm (l++out)
 | [],out=>by simp
 | x :: r,out=>by
   rw [List.foldl_cons,List.cons_append]
   exact ((ajH r (al0 lt out x)).trans (List.Perm.append_left r asg)).trans ZV
theorem Kn {lt:α→α→Bool} {l:List α}:(Wo lt l).Perm l:=by have:=ajH (lt:=lt) l [];rwa [ka] at this
def Ord (lt:α→α→Bool) (l:List α):Prop:=l.Pairwise fun x y=>lt y x = false
theorem asf {lt:α→α→Bool} {out:List α} {x:α}:∀ k,k≤out.length→(∀ j,gK lt out x k≤j→j < k→∀ y,out[j]? = some y→lt x y = true)∧(0 < gK lt out x k→∀ y,out[gK lt out x k - 1]? = some y→lt x y = false)
 | 0,_=>⟨fun j h1 h2=>by omega,fun h=>by simp [gK] at h⟩
 | k + 1,hk=>by
   obtain ⟨i1,i2⟩:=asf (lt:=lt) (out:=out) (x:=x) k (by omega)
   have hy:out[k]? = some out[k]:=zd (by omega)
   simp only [gK,hy]
   split
   ·rename_i h
    refine ⟨fun j h1 h2 y e=>?_,i2⟩
    by_cases hj:j = k
    ·subst hj;rw [hy] at e;cases e;exact h
    ·exact i1 j h1 (by omega) y e
   ·rename_i h
    refine ⟨fun j h1 h2=>by omega,fun _ y e=>?_⟩
    rw [Zx,hy] at e;cases e
    simpa using h
theorem atV {lt:α→α→Bool} (htr:∀ x y z,lt y x = false→lt z y = false→lt z x = false) (has:∀ x y,lt x y = true→lt y x = false) {out:List α} {x:α} (h:Ord lt out):Ord lt (al0 lt out x):=by
 obtain ⟨h1,h2⟩:=asf (lt:=lt) (out:=out) (x:=x) out.length (zj _)
 have hle:=av3 lt out x out.length
 unfold Ord al0 at *
 generalize gK lt out x out.length = k at *
 have hto:(out.take k).Pairwise fun x y=>lt y x = false:=h.sublist (List.take_sublist _ _)
 have hdr:(out.drop k).Pairwise fun x y=>lt y x = false:=h.sublist (List.drop_sublist _ _)
 have hcr:∀ a∈out.take k,∀ b∈out.drop k,lt b a = false:=by
  have:=h
  rw [← kh k out,Za] at this
  exact this.2.2
 have hx1:∀ a∈out.take k,lt x a = false:=by
  intro a ha
  rcases Z4 k with hk|hk
  ·subst hk;simp at ha
  ·have hlast:out[k - 1]? = some out[k - 1]:=zd (by omega)
   have hxl:=h2 hk _ hlast
   obtain ⟨i,hi,rfl⟩:=kK ha
   simp only [zU] at hi
   rw [List.getElem_take]
   by_cases e:i = k - 1
   ·subst e;exact hxl
   ·have:=(ZX.1 h) i (k - 1) (by omega) (by omega) (by omega)
    exact htr _ _ _ this hxl
 have hx2:∀ b∈out.drop k,lt b x = false:=by
  intro b hb
  obtain ⟨i,hi,rfl⟩:=kK hb
  rw [List.getElem_drop]
  simp only [kF] at hi
  exact has _ _ (h1 (k + i) (by omega) (by omega) _ (zd (by omega)))
 rw [kq,List.singleton_append,Za]
 refine ⟨hto,Zj.2 ⟨hx2,hdr⟩,fun a ha b hb=>?_⟩
 rcases zw.1 hb with rfl|hb
 ·exact hx1 a ha
 ·exact hcr a ha b hb
theorem alV {lt:α→α→Bool} (htr:∀ x y z,lt y x = false→lt z y = false→lt z x = false) (has:∀ x y,lt x y = true→lt y x = false):∀ (l out:List α),Ord lt out→Ord lt (l.foldl (al0 lt) out)
 | [],_,h=>h
 | x :: r,out,h=>alV htr has r _ (atV htr has h)
theorem abj {lt:α→α→Bool} (htr:∀ x y z,lt y x = false→lt z y = false→lt z x = false) (has:∀ x y,lt x y = true→lt y x = false) (l:List α):Ord lt (Wo lt l):=alV htr has l [] List.Pairwise.nil
def agv (lt:α→α→Bool) (xs:List α) (a i:Nat):List α:=xs.take a++(Wo lt ((xs.take i).drop a)++xs.drop i)
theorem asd {lt:α→α→Bool} {xs:List α} {a:Nat} (h:a < xs.length):agv lt xs a (a + 1) = xs:=by
 have e:(xs.take (a + 1)).drop a = [xs[a]]:=by
  rw [zB,zd h,Zl (by simp;omega),Zs (by simp;omega)];rfl
 rw [agv,e,asc,List.singleton_append,← zR h,kh]
theorem ase {lt:α→α→Bool} (xs:List α):agv lt xs 0 xs.length = Wo lt xs:=by simp [agv]
def xv (P S:List α) (x:α) (R:List α) (q:Nat):List α:=P++(S.take q++x :: (S.drop q++R))
theorem asb {P S R:List α} {x:α} {q:Nat}:(xv P S x R q).length = P.length + S.length + 1 + R.length:=by
 simp only [xv,zv,List.length_cons,zU,kF];omega
theorem av2 {P S R:List α} {x:α} {q:Nat} (h:q≤S.length):(xv P S x R q)[P.length + q]? = some x:=by
 have:(S.take q).length = q:=by simp;omega
 rw [xv,ke (by omega),ke (by omega),this]
 simp
theorem av1 {P S R:List α} {x:α} {q:Nat} (h:q < S.length):(xv P S x R (q + 1))[P.length + q]? = some S[q]:=by
 rw [xv,ke (by omega),kf (by simp;omega),ZN]
 simp [h]
theorem aoH (S y x:α) (T:List α):∀ A:List α,((A++y :: S :: T).set (A.length + 1) y).set A.length x = A++x :: y :: T
 | []=>rfl
 | z :: A=>by
   have:=aoH S y x T A
   simp only [List.cons_append,List.length_cons,List.set_cons_succ,this]
theorem asa {P S R:List α} {x:α} {q:Nat} (h:q < S.length):((xv P S x R (q + 1)).set (P.length + (q + 1)) S[q]).set (P.length + q) x = xv P S x R q:=by
 have e1:S.take (q + 1) = S.take q++[S[q]]:=by rw [zB,zd h];rfl
 have e2:S.drop q = S[q] :: S.drop (q + 1):=zR h
 have e3:(S.take q).length = q:=by simp;omega
 have e4:xv P S x R (q + 1) = (P++S.take q)++S[q] :: x :: (S.drop (q + 1)++R):=by rw [xv,e1];simp only [kq,List.cons_append,List.nil_append]
 have e5:xv P S x R q = (P++S.take q)++x :: S[q] :: (S.drop (q + 1)++R):=by rw [xv,e2];simp only [kq,List.cons_append,List.nil_append]
 have hl:(P++S.take q).length = P.length + q:=by rw [zv,e3]
 have hl2:P.length + (q + 1) = (P++S.take q).length + 1:=by omega
 rw [e4,e5,hl2,← hl]
 exact aoH _ _ _ _ _
theorem atY {lt:α→α→Bool} {f:α→V} (xs:List α):(if 0 = xs.length then xs.map f else (agv lt xs 0 xs.length).map f) = (Wo lt xs).map f:=by
 split
 ·rename_i h
  have:xs = []:=kE h.symm
  subst this;rfl
 ·rw [ase]
end
end Av
end
section
namespace Av
open Go
structure EvF (Γ:Env) (f:FuncId) (off:Nat) (args cs:List V) (res:V) (cs2:List V):Prop where
 ev:Ev Γ f (.ptr 0 off :: args) [.box true cs] res [.box true cs2]
 cl:res.closed
 c1:Qb cs
 c2:Qb cs2
structure EvH (Γ:Env) (f:FuncId) (x:V) (cs:List V) (res:V) (cs2:List V):Prop where
 ev:Ev Γ f [x,.ptr 1 0] [.box true cs,.box true [.ptr 0 0]] res [.box true cs2,.box true [.ptr 0 0]]
 cl:res.closed
 c1:Qb cs
 c2:Qb cs2
structure EvJ (Γ:Env) (f:FuncId) (cs ks vs:List V) (c0:Nat):Prop where
 ev:Ev Γ f [.ptr 0 0] [.box true cs] (.mp 1) [.box true cs,.map ks vs c0,.box true [.ptr 0 0]]
 c1:Qb cs
section
variable {Γ:Env} {A W:Nat→Bool} {b:Nat} {r:List AO} {s:St} {d:Option Nat} {f:FuncId} {acts args:List V} {okf:Option (List Nat)→Prop} {x y z res:V} {J K:St→Prop} {cs cs2 ks vs:List V} {a p off c0:Nat}
theorem azg {x a p n:Nat} {o:Nat→Option Ob}:wV (some [x]) [a,p] o n = if n = x then (if x = a then o n else if x = p then o n else (o n).map Ob.frz) else o n:=by
 simp only [wV,zy,zw,zD,or_false]
 grind
theorem azf {x n:Nat} {o:Nat→Option Ob}:wV (some [x]) [] o n = if n = x then (o n).map Ob.frz else o n:=by
 simp only [wV,zw,zD,or_false,not_false_eq_true,and_true]
attribute [go_sem] azg azf
theorem ajZ {args:List V} (h:EvC Γ f args res) (hc:okf (some (QI acts))) (hk:WC Γ (b + KK) r { t:=(s.put d res).t,o:=wV (some (QI acts)) [] s.o,n:=s.n } K):aet Γ b r s d f acts args okf K:=by
 rintro rfl rfl
 refine Jj ⟨_,_,_,_,[],some (QI acts),h.1,YF _ _ _ hc,trivial,kw,by grind,by simp,by simp [KK],fun h=>by simp at h,?_⟩
 simp only [YE,Yf,J6 _ _ h.2]
 exact hk
theorem avd (ha:s.o a = some (.box true cs)) (h:EvF Γ f off args cs res cs2) (hal:(QI acts).contains a = false) (hab:decide (a < b) = true) (hc:Qw s.o (some (QI acts)) acts)
  (hk:WC Γ (b + KK) r { t:=(s.put d res).t,o:=upd (wV (some (QI acts)) [a] s.o) a (some (.box true cs2)),n:=s.n } K):aet Γ b r s d f (.ptr a off :: acts) (x :: args) okf K:=by
 intro h1 _
 simp only [Yj,km] at h1
 obtain ⟨_,rfl⟩:=h1
 have hal':a ∉ QI acts:=by simpa using hal
 refine Jj ⟨_,_,_,_,[a],some (QI acts),h.ev,⟨?_,JM s.o [a] _ ?_ acts hc⟩,⟨⟨_,ha,Qn _ _ _ _ h.c1⟩,trivial⟩,by simp,by grind,zj _,by simp [KK],fun h=>by simp at h,?_⟩
 ·simp [conv]
 ·grind
 ·rw [J6 _ _ h.cl]
  simp only [YE,Yf,Ob.ren,Qy _ _ h.c2]
  exact hk
theorem avc (hp:s.o p = some (.box true [.ptr a 0])) (ha:s.o a = some (.box true cs)) (h:EvH Γ f y cs res cs2) (hal:(!(QI [x]).contains a && !(QI [x]).contains p) = true) (hab:decide (a≠p∧a < b∧p < b) = true) (hc:Qw s.o (some (QI [x])) [x])
  (hk:WC Γ (b + KK) r { t:=(s.put d res).t,o:=upd (upd (wV (some (QI [x])) [a,p] s.o) p (some (.box true [.ptr a 0]))) a (some (.box true cs2)),n:=s.n } K):aet Γ b r s d f [x,.ptr p 0] [y,z] okf K:=by
 intro h1 _
 simp only [Yj,km] at h1
 obtain ⟨rfl,_⟩:=h1
 obtain ⟨e1,e2,e3⟩:=zL hab
 have hal':a ∉ QI [x]∧p ∉ QI [x]:=by simpa using hal
 have hx:=JM s.o [a,p] _ (fun y hy hya=>by
  simp only [zw,zD,or_false] at hya
  rcases hya with rfl|rfl
  ·exact hal'.1 hy
  ·exact hal'.2 hy) [x] hc
 refine Jj ⟨_,_,_,_,[a,p],some (QI [x]),h.ev,⟨hx.1,?_,trivial⟩,⟨⟨_,ha,Qn _ _ _ _ h.c1⟩,⟨_,hp,?_⟩,trivial⟩,by simpa using e1,?_,zj _,by simp [KK],fun h=>by simp at h,?_⟩
 ·simp [conv]
 ·show QR _ _ _ _ _
  simp [QR,conv]
 ·grind
 ·rw [J6 _ _ h.cl]
  simp only [YE,Yf,Ob.ren,Qy _ _ h.c2,Ks,V.ren,sig]
  exact hk
theorem asQ (hp:s.o p = some (.box true [.ptr a 0])) (ha:s.o a = some (.box true cs)) (hA:(A a && A p && W a && W p) = true) (h:EvH Γ f y cs res cs2) (hal:(!(QI [x]).contains a && !(QI [x]).contains p) = true) (hab:decide (a≠p∧a < b∧p < b) = true) (hl:((QI [x]).all fun x=>A x && W x) = true) (hc:Qw (Yd A s.o) (some (QI [x])) [x])
  (hk:J { t:=(s.put d res).t,o:=upd (upd (wV (some (QI [x])) [a,p] s.o) p (some (.box true [.ptr a 0]))) a (some (.box true cs2)),n:=s.n }):ai4 Γ A W b s d f [x,.ptr p 0] [y,z] okf J:=by
 intro h1 _
 simp only [Yj,km] at h1
 obtain ⟨rfl,_⟩:=h1
 obtain ⟨e1,e2,e3⟩:=zL hab
 have hal':a ∉ QI [x]∧p ∉ QI [x]:=by simpa using hal
 simp only [zA] at hA
 obtain ⟨⟨⟨A1,A2⟩,W1⟩,W2⟩:=hA
 have hra:Yd A s.o a = some (.box true cs):=by rw [vJ,if_pos A1,ha]
 have hrp:Yd A s.o p = some (.box true [.ptr a 0]):=by rw [vJ,if_pos A2,hp]
 have hx:=JM (Yd A s.o) [a,p] _ (fun y hy hya=>by
  simp only [zw,zD,or_false] at hya
  rcases hya with rfl|rfl
  ·exact hal'.1 hy
  ·exact hal'.2 hy) [x] hc
 refine ⟨_,_,_,_,[a,p],some (QI [x]),h.ev,⟨hx.1,?_,trivial⟩,⟨⟨_,hra,Qn _ _ _ _ h.c1⟩,⟨_,hrp,?_⟩,trivial⟩,by simpa using e1,?_,zj _,by simp [KK],fun h=>by simp at h,by grind,?_⟩
 ·simp [conv]
 ·show QR _ _ _ _ _
  simp [QR,conv]
 ·grind
 ·rw [J6 _ _ h.cl]
  simp only [YE,Yf,Ob.ren,Qy _ _ h.c2,Ks,V.ren,sig]
  exact hk
theorem avb (ha:s.o a = some (.box true cs)) (h:EvJ Γ f cs ks vs c0) (hab:decide (a < b) = true)
  (hk:WC Γ (b + KK) r { t:=(s.put d (.mp b)).t,o:=upd (upd (upd s.o (b + 1) (some (.box true [.ptr a 0]))) b (some (.map ks (Ks (sig [a] b) vs) c0))) a (some (.box true cs)),n:=s.n } K):aet Γ b r s d f [.ptr a 0] args okf K:=by
 intro _ _
 refine Jj ⟨_,_,_,_,[a],some [],h.ev,⟨?_,trivial⟩,⟨⟨_,ha,Qn _ _ _ _ h.c1⟩,trivial⟩,by simp,by grind,by simp,by simp [KK],fun h=>by simp at h,?_⟩
 ·simp [conv]
 ·simp only [YE,Yf,Ob.ren,Qy _ _ h.c1,Ks,V.ren,sig,ans]
  exact hk
theorem aii {nt:Nat} {ac:AC} {rs:List Uh} (hb:Has Γ.P f nt ac rs) (ha:args.length + 1≤nt) (hr:res.closed) (h1:Qb cs) (h2:Qb cs2)
  (h:∀ C:Ctx,C.env = Γ→C.m = 1→AWp C nt ac (Yt (.ptr 0 off :: args) [.box true cs]) (K1 1 rs res [.box true cs2]) (fun _ _=>False) (K1 1 rs res [.box true cs2])):EvF Γ f off args cs res cs2 :=
 ⟨by grind [Q8],hr,h1,h2⟩
theorem aau {nt:Nat} {ac:AC} {rs:List Uh} (hb:Has Γ.P f nt ac rs) (ha:2≤nt) (hr:res.closed) (h1:Qb cs) (h2:Qb cs2)
  (h:∀ C:Ctx,C.env = Γ→C.m = 2→AWp C nt ac (Yt [x,.ptr 1 0] [.box true cs,.box true [.ptr 0 0]]) (K1 2 rs res [.box true cs2,.box true [.ptr 0 0]]) (fun _ _=>False) (K1 2 rs res [.box true cs2,.box true [.ptr 0 0]])):EvH Γ f x cs res cs2 :=
 ⟨by grind [Q8],hr,h1,h2⟩
theorem anF {nt:Nat} {ac:AC} {rs:List Uh} (hb:Has Γ.P f nt ac rs) (ha:1≤nt) (h1:Qb cs)
  (h:∀ C:Ctx,C.env = Γ→C.m = 1→AWp C nt ac (Yt [.ptr 0 0] [.box true cs]) (K1 1 rs (.mp 1) [.box true cs,.map ks vs c0,.box true [.ptr 0 0]]) (fun _ _=>False) (K1 1 rs (.mp 1) [.box true cs,.map ks vs c0,.box true [.ptr 0 0]])):EvJ Γ f cs ks vs c0 :=
 ⟨by grind [Q8],h1⟩
theorem aoW {rs:List Uh} (us:List V) (h:xu s rs = some us) (h0:s.o 0 = some (.box true cs2)) (h1:s.o 1 = some (.box true [.ptr 0 0])) (h2:Qb cs2) (hc:conv s.o [0,1] none (adm us) res):K1 2 rs res [.box true cs2,.box true [.ptr 0 0]] s :=
 Yw rs us _ h ⟨[0,1],none,hc,⟨⟨_,h0,fun h=>h,Qn _ _ _ _ h2⟩,⟨_,h1,fun h=>h,by grind [QR,conv]⟩,trivial⟩,by simp,rfl⟩
theorem axD {rs:List Uh} {us:List V} (m q:Nat) (h:xu s rs = some [.mp m]) (h0:s.o 0 = some (.box true cs2)) (hm:s.o m = some (.map ks us c0)) (hq:s.o q = some (.box true [.ptr 0 0])) (h2:Qb cs2)
  (hv:QR s.o [0,m,q] none us vs) (hd:decide (0 < m∧0 < q∧m≠q) = true):K1 1 rs (.mp 1) [.box true cs2,.map ks vs c0,.box true [.ptr 0 0]] s:=by
 obtain ⟨d1,d2,d3⟩:=zL hd
 refine Yw rs _ _ h ⟨[0,m,q],none,?_,⟨⟨_,h0,fun h=>h,Qn _ _ _ _ h2⟩,⟨_,hm,rfl,rfl,hv⟩,⟨_,hq,fun h=>h,by grind [QR,conv]⟩,trivial⟩,?_,rfl⟩
 ·simp [adm,conv]
 ·simp;omega
end
section
variable {Γ:Env} {A W:Nat→Bool} {b:Nat} {s:St} {d:Option Nat} {f:FuncId} {acts args:List V} {okf:Option (List Nat)→Prop} {res:V} {J:St→Prop}
end
end Av
end
section
namespace Av
open Go
mutual
def V.deep:V→List Nat
 | .hd a _ _=>[a]
 | .ptr a _=>[a]
 | .agg cs=>aml cs
 | .tup cs=>aml cs
 | .clo _ cs=>aml cs
 | .top=>[]
 | .sc _=>[]
 | .nn=>[]
 | .sl _ _=>[]
 | .ept _ _ _=>[]
 | .mp _=>[]
 | .ro _ _=>[]
def aml:List V→List Nat
 | []=>[]
 | v :: r=>v.deep++aml r
end
attribute [go_sem] V.deep aml List.nil_append ka List.cons_append
section
variable {Γ:Env} {b:Nat} {r:List AO} {s:St} {d:Option Nat} {f:FuncId} {acts args:List V} {res:V} {K:St→Prop} {okf:Option (List Nat)→Prop}
theorem ay1 (h:EvC Γ f args res) (hc:okf (some (aml acts))) (hk:WC Γ (b + KK) r { t:=(s.put d res).t,o:=wV (some (aml acts)) [] s.o,n:=s.n } K):aet Γ b r s d f acts args okf K:=by
 rintro rfl rfl
 refine Jj ⟨_,_,_,_,[],some (aml acts),h.1,YF _ _ _ hc,trivial,kw,by grind,by simp,by simp [KK],fun h=>by simp at h,?_⟩
 simp only [YE,Yf,J6 _ _ h.2]
 exact hk
end
end Av
end
section
namespace Av
open Go
structure EvI (Γ:Env) (f:FuncId) (args:List V) (sx:Nat) (xs ys:List V):Prop where
 ev:Ev Γ f (.hd 0 0 xs.length :: args) [.buf true sx xs] (.hd 1 0 ys.length) [.dead,.buf true sx ys]
structure EvX (Γ:Env) (f:FuncId) (args:List V) (sx:Nat) (xs:List V):Prop where
 ev:Ev Γ f (.hd 0 0 xs.length :: args) [.buf true sx xs] (.hd 0 0 xs.length) [.buf true sx xs]
section
variable {Γ:Env} {A W:Nat→Bool} {b:Nat} {r:List AO} {s:St} {d:Option Nat} {f:FuncId} {acts args:List V} {okf:Option (List Nat)→Prop} {J K:St→Prop} {a n sx:Nat} {xs ys:List V} {x:V}
theorem amC (ha:s.o a = some (.buf true sx xs)) (h:EvI Γ f args sx xs ys) (hal:(QI acts).contains a = false) (hd:decide (a < b) = true) (hn:n = xs.length) (hc:Qw s.o (some (QI acts)) acts)
  (hk:WC Γ (b + KK) r { t:=(s.put d (.hd b 0 ys.length)).t,o:=upd (upd (wV (some (QI acts)) [a] s.o) b (some (.buf true sx ys))) a (some .dead),n:=s.n } K):aet Γ b r s d f (.hd a 0 n :: acts) (x :: args) okf K:=by
 intro h1 _
 simp only [Yj,km] at h1
 obtain ⟨_,rfl⟩:=h1
 subst hn
 have hal':a ∉ QI acts:=by simpa using hal
 refine Jj ⟨_,_,_,_,[a],some (QI acts),h.ev,⟨?_,JM s.o [a] _ (fun y hy=>?_) acts hc⟩,⟨⟨_,ha,rfl,rfl⟩,trivial⟩,by simp,by simpa using zL hd,by simp,by simp [KK],fun h=>by simp at h,?_⟩
 ·simp [conv]
 ·intro e
  rw [zy.1 e] at hy
  exact hal' hy
 ·simp only [YE,Yf,Ob.ren,V.ren,sig]
  exact hk
theorem apb (ha:s.o a = some (.buf true sx xs)) (h:EvX Γ f args sx xs) (hal:(QI acts).contains a = false) (hd:decide (a < b) = true) (hn:n = xs.length) (hc:Qw s.o (some (QI acts)) acts)
  (hk:WC Γ (b + KK) r { t:=(s.put d (.hd a 0 n)).t,o:=upd (wV (some (QI acts)) [a] s.o) a (some (.buf true sx xs)),n:=s.n } K):aet Γ b r s d f (.hd a 0 n :: acts) (x :: args) okf K:=by
 intro h1 _
 simp only [Yj,km] at h1
 obtain ⟨_,rfl⟩:=h1
 subst hn
 have hal':a ∉ QI acts:=by simpa using hal
 refine Jj ⟨_,_,_,_,[a],some (QI acts),h.ev,⟨?_,JM s.o [a] _ (fun y hy=>?_) acts hc⟩,⟨⟨_,ha,rfl,rfl⟩,trivial⟩,by simp,by simpa using zL hd,by simp,by simp [KK],fun h=>by simp at h,?_⟩
 ·simp [conv]
 ·intro e
  rw [zy.1 e] at hy
  exact hal' hy
 ·simp only [YE,Yf,Ob.ren,V.ren,sig]
  exact hk
theorem aih {nt:Nat} {ac:AC} {rs:List Uh} (hb:Has Γ.P f nt ac rs) (ha:args.length + 1≤nt)
  (h:∀ C:Ctx,C.env = Γ→C.m = 1→AWp C nt ac (Yt (.hd 0 0 xs.length :: args) [.buf true sx xs]) (K1 1 rs (.hd 1 0 ys.length) [.dead,.buf true sx ys]) (fun _ _=>False) (K1 1 rs (.hd 1 0 ys.length) [.dead,.buf true sx ys])):EvI Γ f args sx xs ys :=
 ⟨by grind [Q8]⟩
theorem ac4 {nt:Nat} {ac:AC} {rs:List Uh} (hb:Has Γ.P f nt ac rs) (ha:args.length + 1≤nt)
  (h:∀ C:Ctx,C.env = Γ→C.m = 1→AWp C nt ac (Yt (.hd 0 0 xs.length :: args) [.buf true sx xs]) (K1 1 rs (.hd 0 0 xs.length) [.buf true sx xs]) (fun _ _=>False) (K1 1 rs (.hd 0 0 xs.length) [.buf true sx xs])):EvX Γ f args sx xs :=
 ⟨by grind [Q8]⟩
end
def axe (n:Nat) (v:Value):List Value:=List.replicate n v
theorem aze {x y n:Nat} {o:Nat→Option Ob}:wV (some [x,y]) [] o n = if n = x then (o n).map Ob.frz else if n = y then (o n).map Ob.frz else o n:=by
 simp only [wV,zw,zD,or_false,not_false_eq_true,and_true]
 by_cases h1:n = x<;>by_cases h2:n = y<;>simp [h1,h2]
theorem azd {x y:Nat}:(x∈[x,y]) = True:=by simp
theorem azc {x y:Nat}:(y∈[x,y]) = True:=by simp
theorem azo {n:Int}:([V.sc (Value.int IntKind.i64 n)].all (yQ IntKind.i64) = true) = True:=by simp [yQ]
attribute [go_sem] aze azd azc azo
theorem au4 {rs:List Uh} {s:St} {xs' ys:List V} {sx:Nat} (i n:Nat) (h:xu s rs = some [.hd i 0 n]) (h0:∃ x,s.o 0 = some x) (hi:s.o i = some (.buf true sx xs')) (hi1:1≤i) (hx:xs' = ys) (hn:n = ys.length) :
  K1 1 rs (.hd 1 0 ys.length) [.dead,.buf true sx ys] s:=by
 subst hn;subst hx
 obtain ⟨x0,e0⟩:=h0
 refine Yw rs _ _ h ⟨[0,i],none,by simp [adm,conv],⟨⟨_,e0,?_⟩,⟨_,hi,fun h=>h,rfl,rfl⟩,trivial⟩,?_,rfl⟩
 ·simp [atd]
 ·simp;omega
theorem ast {rs:List Uh} {s:St} {xs' ys:List V} {sx:Nat} (n:Nat) (h:xu s rs = some [.hd 0 0 n]) (hi:s.o 0 = some (.buf true sx xs')) (hx:xs' = ys) (hn:n = ys.length) :
  K1 1 rs (.hd 0 0 ys.length) [.buf true sx ys] s:=by
 subst hn;subst hx
 exact Yw rs _ _ h ⟨[0],none,by simp [adm,conv],⟨⟨_,hi,fun h=>h,rfl,rfl⟩,trivial⟩,by simp,rfl⟩
end Av
end
noncomputable section
set_option maxRecDepth 10000
set_option maxHeartbeats 4000000
namespace Av
open Go
attribute [local irreducible] AWp WC wb aai awS awC aeM awQ afz Jk qV aes awR jj awB okR aaf ris
structure Qa where
 src:Int
 host:List UInt8
 mach:Int
 day:Int
 conf:Int
 kind:Int
 subj:List UInt8
 alg:Int
 bits:Int
 num:Int
 text:List UInt8
 deriving DecidableEq
def Qa.cells (f:Qa):List V:=[V.int f.src,V.str f.host,V.int f.mach,V.int f.day,V.int f.conf,V.int f.kind,V.str f.subj,V.int f.alg,V.int f.bits,V.int f.num,V.str f.text]
def Qa.v (f:Qa):V:=.agg f.cells
def Kz (x y:Int):Int:=if x < y then -1 else if x > y then 1 else 0
def abU (x y:List UInt8):Int:=if Op.bytesLess x y then -1 else if Op.bytesLess y x then 1 else 0
def Yr:List Int→Int
 | []=>0
 | x :: r=>if x≠0 then x else Yr r
def avA (a b:Qa):List Int:=[abU a.host b.host,Kz a.mach b.mach,Kz a.day b.day,abU a.subj b.subj,Kz a.kind b.kind,Kz a.alg b.alg,Kz a.bits b.bits,Kz a.num b.num,abU a.text b.text,Kz a.src b.src,Kz a.conf b.conf]
def ags (a b:Qa):Int:=Yr (avA a b)
def ql (Γ:Env) (f:Nat):Prop:=∀ G:Env,G.P = Γ.P→∀ a b:List UInt8,EvN G f [V.str a,V.str b] (V.int (abU a b))
def KT:=qd Proofs.Tryz.f214 []
def UZ (Γ:Env) (f:Nat):Prop:=∀ G:Env,G.P = Γ.P→∀ x:Int,EvN G f [V.int x] (V.bool false)
theorem agN {Γ:Env} {f:Nat} (h:Has Γ.P f 6 KT.1.1.ac KT.1.2) :UZ Γ f:=by
 intro G hG x
 rw [← hG] at h
 refine Qc h (by simp) (by simp only [V.closed]) (by simp only [V.noSl]) fun C hC hm=>?_
 subst hC;simp only [KT,qd,DC.ac]
 refine zgo ?_;repeat' first|exact zt|apply zan|intro hc
 all_goals first|exact zr|(refine Qg _ rfl ?_;simp only [go_sem];simp;done)
def V7:=qd Proofs.Tryz.f146 []
def XO (Γ:Env) (f:Nat):Prop:=∀ G:Env,G.P = Γ.P→∀ x y:Int,EvN G f [V.int x,V.int y] (V.int (Kz x y))
theorem aei {Γ:Env} {f:Nat} (h:Has Γ.P f 20 V7.1.1.ac V7.1.2) (z0:UZ Γ 214):XO Γ f:=by
 intro G hG x y
 have n1:=(z0 G hG x).b
 have n2:=(z0 G hG y).b
 rw [← hG] at h
 refine Qc h (by simp) (by simp only [V.closed]) (by simp only [V.noSl]) fun C hC hm=>?_
 subst hC;simp only [V7,qd,DC.ac]
 by_cases h1:x < y
 ·have e1:decide (x < y) = true:=zn h1
  rw [Kz,if_pos h1]
  repeat' (first|(refine zsk ?_;intro K' hK)|refine zsp ?_|(refine zsc ?_ ?_<;>intro hc<;>first|exact znh|try simp only [znz] at hc)|simp (maxSteps:=1000000) only [go_sem,e1]|(refine hK _ ?_;clear hK K')|apply zan|(apply QA;(focus first|exact n1|exact n2))|exact zsq|fail)
  all_goals exact zr
 ·have e1:decide (x < y) = false:=zp h1
  by_cases h2:x > y
  ·have e2:decide (x > y) = true:=zn h2
   rw [Kz,if_neg h1,if_pos h2]
   repeat' (first|(refine zsk ?_;intro K' hK)|refine zsp ?_|(refine zsc ?_ ?_<;>intro hc<;>first|exact znh|try simp only [znz] at hc)|simp (maxSteps:=1000000) only [go_sem,e1,e2]|(refine hK _ ?_;clear hK K')|apply zan|(apply QA;(focus first|exact n1|exact n2))|exact zsq|fail)
   all_goals exact zr
  ·have e2:decide (x > y) = false:=zp h2
   rw [Kz,if_neg h1,if_neg h2]
   repeat' (first|(refine zsk ?_;intro K' hK)|refine zsp ?_|(refine zsc ?_ ?_<;>intro hc<;>first|exact znh|try simp only [znz] at hc)|simp (maxSteps:=1000000) only [go_sem,e1,e2]|(refine hK _ ?_;clear hK K')|apply zan|(apply QA;(focus first|exact n1|exact n2))|exact zsq|fail)
   all_goals exact zr
def Wv:=qd Proofs.Tryz.f145 [⟨fun _=>true,[2,5],zoc 0 8⟩]
def X6 (Γ:Env) (f:Nat):Prop:=∀ (a b:Qa) (g:Nat) (p:Qa→Int) (hg:∀ x:Qa,EvN Γ g [x.v] (V.int (p x))),EvN Γ f [.ro [.clo (.n g) []] 0,.ro a.cells 0,.ro b.cells 0] (V.int (Kz (p a) (p b)))
theorem ace {Γ:Env} {f:Nat} (h:Has Γ.P f 11 Wv.1.1.ac Wv.1.2) (z0:XO Γ 146):X6 Γ f:=by
 intro a b g p hg
 refine Qc h zsi zcl zcl fun C hC hm=>?_
 subst hC
 simp only [Wv,qd,DC.ac]
 have g1:=(hg a).b
 have g2:=(hg b).b
 have g3:=(z0 _ rfl (p a) (p b)).b
 simp only [Qa.v,Qa.cells] at g1 g2 ⊢
 exact zg
def Wu:=qd Proofs.Tryz.f148 [⟨fun _=>true,[2,5],zoc 0 8⟩]
def X5 (Γ:Env) (f:Nat):Prop:=∀ (a b:Qa) (g:Nat) (p:Qa→List UInt8) (hg:∀ x:Qa,EvN Γ g [x.v] (V.str (p x))),EvN Γ f [.ro [.clo (.n g) []] 0,.ro a.cells 0,.ro b.cells 0] (V.int (abU (p a) (p b)))
theorem acd {Γ:Env} {f:Nat} (h:Has Γ.P f 11 Wu.1.1.ac Wu.1.2) (z0:ql Γ 149):X5 Γ f:=by
 intro a b g p hg
 refine Qc h zsi zcl zcl fun C hC hm=>?_
 subst hC
 simp only [Wu,qd,DC.ac]
 have g1:=(hg a).b
 have g2:=(hg b).b
 have g3:=(z0 _ rfl (p a) (p b)).b
 simp only [Qa.v,Qa.cells] at g1 g2 ⊢
 exact zg
def V0:=qd Proofs.Tryz.f144 []
def qE (Γ:Env) (f:Nat):Prop:=(∃ g1:Nat,X6 Γ g1∧∀ (a b:Qa) (g:Nat),EvC Γ f [.clo (.n g) [],.ro a.cells 0,.ro b.cells 0] (.clo (.n g1) [.ro [.clo (.n g) []] 0,.ro a.cells 0,.ro b.cells 0]))
theorem aeb {Γ:Env} {f:Nat} (h:Has Γ.P f 6 V0.1.1.ac V0.1.2) (z0:X6 Γ 145):qE Γ f:=by
 refine ⟨145,z0,fun a b g=>?_⟩
 refine Q0 h (by simp) (by simp only [V.closed,Qb,and_self]) fun C hC hm=>?_
 subst hC
 simp only [V0,qd,DC.ac]
 simp only [Qa.cells]
 exact zg
def VZ:=qd Proofs.Tryz.f147 []
def qD (Γ:Env) (f:Nat):Prop:=(∃ g1:Nat,X5 Γ g1∧∀ (a b:Qa) (g:Nat),EvC Γ f [.clo (.n g) [],.ro a.cells 0,.ro b.cells 0] (.clo (.n g1) [.ro [.clo (.n g) []] 0,.ro a.cells 0,.ro b.cells 0]))
theorem aea {Γ:Env} {f:Nat} (h:Has Γ.P f 6 VZ.1.1.ac VZ.1.2) (z0:X5 Γ 148):qD Γ f:=by
 refine ⟨148,z0,fun a b g=>?_⟩
 refine Q0 h (by simp) (by simp only [V.closed,Qb,and_self]) fun C hC hm=>?_
 subst hC
 simp only [VZ,qd,DC.ac]
 simp only [Qa.cells]
 exact zg
def VY:=qd Proofs.Tryz.f150 []
def qC (Γ:Env) (f:Nat):Prop:=∀ (x:Qa),EvN Γ f [x.v] (V.str x.host)
theorem ad9 {Γ:Env} {f:Nat} (h:Has Γ.P f 5 VY.1.1.ac VY.1.2) :qC Γ f:=by
 intro x
 refine Qc h zsi zcl zcl fun C hC hm=>?_
 subst hC
 simp only [VY,qd,DC.ac]
 simp only [Qa.v,Qa.cells]
 exact zg
def VX:=qd Proofs.Tryz.f151 []
def qB (Γ:Env) (f:Nat):Prop:=∀ (x:Qa),EvN Γ f [x.v] (V.int x.mach)
theorem ad8 {Γ:Env} {f:Nat} (h:Has Γ.P f 5 VX.1.1.ac VX.1.2) :qB Γ f:=by
 intro x
 refine Qc h zsi zcl zcl fun C hC hm=>?_
 subst hC
 simp only [VX,qd,DC.ac]
 simp only [Qa.v,Qa.cells]
 exact zg
def VW:=qd Proofs.Tryz.f152 []
def qA (Γ:Env) (f:Nat):Prop:=∀ (x:Qa),EvN Γ f [x.v] (V.int x.day)
theorem ad7 {Γ:Env} {f:Nat} (h:Has Γ.P f 5 VW.1.1.ac VW.1.2) :qA Γ f:=by
 intro x
 refine Qc h zsi zcl zcl fun C hC hm=>?_
 subst hC
 simp only [VW,qd,DC.ac]
 simp only [Qa.v,Qa.cells]
 exact zg
def VV:=qd Proofs.Tryz.f153 []
def qz (Γ:Env) (f:Nat):Prop:=∀ (x:Qa),EvN Γ f [x.v] (V.str x.subj)
theorem ad6 {Γ:Env} {f:Nat} (h:Has Γ.P f 5 VV.1.1.ac VV.1.2) :qz Γ f:=by
 intro x
 refine Qc h zsi zcl zcl fun C hC hm=>?_
 subst hC
 simp only [VV,qd,DC.ac]
 simp only [Qa.v,Qa.cells]
 exact zg
def VU:=qd Proofs.Tryz.f154 []
def qy (Γ:Env) (f:Nat):Prop:=∀ (x:Qa),EvN Γ f [x.v] (V.int x.kind)
theorem ad5 {Γ:Env} {f:Nat} (h:Has Γ.P f 5 VU.1.1.ac VU.1.2) :qy Γ f:=by
 intro x
 refine Qc h zsi zcl zcl fun C hC hm=>?_
 subst hC
 simp only [VU,qd,DC.ac]
 simp only [Qa.v,Qa.cells]
 exact zg
def VT:=qd Proofs.Tryz.f155 []
def qw (Γ:Env) (f:Nat):Prop:=∀ (x:Qa),EvN Γ f [x.v] (V.int x.alg)
theorem ad4 {Γ:Env} {f:Nat} (h:Has Γ.P f 6 VT.1.1.ac VT.1.2) :qw Γ f:=by
 intro x
 refine Qc h zsi zcl zcl fun C hC hm=>?_
 subst hC
 simp only [VT,qd,DC.ac]
 simp only [Qa.v,Qa.cells]
 exact zg
def VS:=qd Proofs.Tryz.f156 []
def qv (Γ:Env) (f:Nat):Prop:=∀ (x:Qa),EvN Γ f [x.v] (V.int x.bits)
theorem ad3 {Γ:Env} {f:Nat} (h:Has Γ.P f 6 VS.1.1.ac VS.1.2) :qv Γ f:=by
 intro x
 refine Qc h zsi zcl zcl fun C hC hm=>?_
 subst hC
 simp only [VS,qd,DC.ac]
 simp only [Qa.v,Qa.cells]
 exact zg
def Vd:=qd Proofs.Tryz.f157 []
def Kg (Γ:Env) (f:Nat):Prop:=∀ (x:Qa),EvN Γ f [x.v] (V.int x.num)
theorem acV {Γ:Env} {f:Nat} (h:Has Γ.P f 5 Vd.1.1.ac Vd.1.2) :Kg Γ f:=by
 intro x
 refine Qc h zsi zcl zcl fun C hC hm=>?_
 subst hC
 simp only [Vd,qd,DC.ac]
 simp only [Qa.v,Qa.cells]
 exact zg
def Vc:=qd Proofs.Tryz.f158 []
def Kf (Γ:Env) (f:Nat):Prop:=∀ (x:Qa),EvN Γ f [x.v] (V.str x.text)
theorem acU {Γ:Env} {f:Nat} (h:Has Γ.P f 5 Vc.1.1.ac Vc.1.2) :Kf Γ f:=by
 intro x
 refine Qc h zsi zcl zcl fun C hC hm=>?_
 subst hC
 simp only [Vc,qd,DC.ac]
 simp only [Qa.v,Qa.cells]
 exact zg
def Vb:=qd Proofs.Tryz.f159 []
def Ke (Γ:Env) (f:Nat):Prop:=∀ (x:Qa),EvN Γ f [x.v] (V.int x.src)
theorem acT {Γ:Env} {f:Nat} (h:Has Γ.P f 5 Vb.1.1.ac Vb.1.2) :Ke Γ f:=by
 intro x
 refine Qc h zsi zcl zcl fun C hC hm=>?_
 subst hC
 simp only [Vb,qd,DC.ac]
 simp only [Qa.v,Qa.cells]
 exact zg
def Va:=qd Proofs.Tryz.f160 []
def Kd (Γ:Env) (f:Nat):Prop:=∀ (x:Qa),EvN Γ f [x.v] (V.int x.conf)
theorem acS {Γ:Env} {f:Nat} (h:Has Γ.P f 5 Va.1.1.ac Va.1.2) :Kd Γ f:=by
 intro x
 refine Qc h zsi zcl zcl fun C hC hm=>?_
 subst hC
 simp only [Va,qd,DC.ac]
 simp only [Qa.v,Qa.cells]
 exact zg
def clC (a b:Qa) (q g:Nat):V:=.clo (.n q) [.ro [.clo (.n g) []] 0,.ro a.cells 0,.ro b.cells 0]
def axq (a b:Qa) (g1 g2 f3 f4 f5 f6 f7 f8 f9 f10 f11 f12 f13:Nat):List V:=[clC a b g2 f3,clC a b g1 f4,clC a b g1 f5,clC a b g2 f6,clC a b g1 f7,clC a b g1 f8,clC a b g1 f9,clC a b g1 f10,clC a b g2 f11,clC a b g1 f12,clC a b g1 f13]
theorem xG (a b:Qa) (g:Nat):Qb [.ro [.clo (.n g) []] 0,.ro a.cells 0,.ro b.cells 0]:=by simp only [V.closed,Qb,and_self]
theorem ahX {l:List Int} {k:Nat} {v:Int} (h:l[k]? = some v):Yr (l.drop k) = if v≠0 then v else Yr (l.drop (k + 1)):=by
 obtain ⟨hk,he⟩:=zl.1 h
 rw [zR hk,he,Yr]
def KN:=qd Proofs.Tryz.f75 []
def UY (Γ:Env) (f:Nat):Prop:=∀ (a b:Qa),EvN Γ f [a.v,b.v] (V.int (ags a b))
attribute [local go_sem] QS in
theorem agH {Γ:Env} {f:Nat} (h:Has Γ.P f 46 KN.1.1.ac KN.1.2) (z0:qE Γ 144) (z1:qD Γ 147) (z2:qC Γ 150) (z3:qB Γ 151) (z4:qA Γ 152) (z5:qz Γ 153) (z6:qy Γ 154) (z7:qw Γ 155) (z8:qv Γ 156) (z9:Kg Γ 157) (z10:Kf Γ 158) (z11:Ke Γ 159) (z12:Kd Γ 160):UY Γ f:=by
 intro a b
 refine Qc h zsi zcl zcl fun C hC hm=>?_
 subst hC
 simp only [KN,qd,DC.ac]
 obtain ⟨g1,c1,hO1⟩:=z0
 obtain ⟨g2,c2,hO2⟩:=z1
 have y3:=hO2 a b 150
 have y4:=hO1 a b 151
 have y5:=hO1 a b 152
 have y6:=hO2 a b 153
 have y7:=hO1 a b 154
 have y8:=hO1 a b 155
 have y9:=hO1 a b 156
 have y10:=hO1 a b 157
 have y11:=hO2 a b 158
 have y12:=hO1 a b 159
 have y13:=hO1 a b 160
 have hel:∀ k,k < 11→∃ (g:Nat) (cap:List V) (v:Int),(axq a b g1 g2 150 151 152 153 154 155 156 157 158 159 160)[k]? = some (.clo (.n g) cap)∧Qb cap∧(avA a b)[k]? = some v∧EvN C.env g cap (V.int v):=fun k hk=>by
  match k,hk with
  | 0,_=>exact ⟨_,_,_,rfl,xG a b _,rfl,c2 a b _ (fun x=>x.host) z2⟩
  | 1,_=>exact ⟨_,_,_,rfl,xG a b _,rfl,c1 a b _ (fun x=>x.mach) z3⟩
  | 2,_=>exact ⟨_,_,_,rfl,xG a b _,rfl,c1 a b _ (fun x=>x.day) z4⟩
  | 3,_=>exact ⟨_,_,_,rfl,xG a b _,rfl,c2 a b _ (fun x=>x.subj) z5⟩
  | 4,_=>exact ⟨_,_,_,rfl,xG a b _,rfl,c1 a b _ (fun x=>x.kind) z6⟩
  | 5,_=>exact ⟨_,_,_,rfl,xG a b _,rfl,c1 a b _ (fun x=>x.alg) z7⟩
  | 6,_=>exact ⟨_,_,_,rfl,xG a b _,rfl,c1 a b _ (fun x=>x.bits) z8⟩
  | 7,_=>exact ⟨_,_,_,rfl,xG a b _,rfl,c1 a b _ (fun x=>x.num) z9⟩
  | 8,_=>exact ⟨_,_,_,rfl,xG a b _,rfl,c2 a b _ (fun x=>x.text) z10⟩
  | 9,_=>exact ⟨_,_,_,rfl,xG a b _,rfl,c1 a b _ (fun x=>x.src) z11⟩
  | 10,_=>exact ⟨_,_,_,rfl,xG a b _,rfl,c1 a b _ (fun x=>x.conf) z12⟩
 have hlen:(axq a b g1 g2 150 151 152 153 154 155 156 157 158 159 160).length = 11:=rfl
 have hoL:(avA a b).length = 11:=rfl
 have hoF:ags a b = Yr (avA a b):=rfl
 simp only [Qa.v,Qa.cells] at y3 y4 y5 y6 y7 y8 y9 y10 y11 y12 y13 ⊢
 repeat' (first|(refine zsk ?_;intro K' hK)|refine zsp ?_|(refine zsc ?_ ?_<;>intro hc<;>first|exact znh|try simp only [znz] at hc)|simp (maxSteps:=1000000) only [go_sem]|(refine hK _ ?_;clear hK K')|apply zan|(apply ajZ;(focus first|exact y3|exact y4|exact y5|exact y6|exact y7|exact y8|exact y9|exact y10|exact y11|exact y12|exact y13))|(apply QA;(focus first|exact (z2 _).b|exact (z3 _).b|exact (z4 _).b|exact (z5 _).b|exact (z6 _).b|exact (z7 _).b|exact (z8 _).b|exact (z9 _).b|exact (z10 _).b|exact (z11 _).b|exact (z12 _).b))|exact zsq|fail)
 clear y3 y4 y5 y6 y7 y8 y9 y10 y11 y12 y13
 refine Qj (ι:=Nat) (fun k=>k≤11∧Yr ((avA a b).drop k) = ags a b) (fun k=>QS [(34,.hd 0 0 11),(35,V.int 11),(36,V.int k)] [(0,.buf true 1 (axq a b g1 g2 150 151 152 153 154 155 156 157 158 159 160))] 1) (fun k=>11 - k) 0 ⟨by omega,rfl⟩ (Qd [(0,29000)]) (Qh [(0,29000)] zwa (by simp only [go_sem,zwl,axq,clC,Qa.cells]<;>exact zcc) (by simp) (by simp;omega) (by omega)) fun k hk K' hL=>?_
 obtain ⟨hk,hinv⟩:=hk
 generalize (axq a b g1 g2 150 151 152 153 154 155 156 157 158 159 160) = els at *
 by_cases hkk:k < 11
 ·obtain ⟨g,cap,v,e1,e2,e3,e4⟩:=hel k hkk
  have s1:∀ o,Yj o cap = cap:=fun o=>Yg o cap e2
  have s2:∀ o B,Qw o B cap = True:=fun o B=>eq_true (Jz o B cap e2)
  have hw:=Qe (k:=k) (by omega)
  have e5:decide ((k:Int) < 11) = true:=zn (by omega)
  have e6:=ahX e3
  rw [hinv] at e6
  by_cases hv:v = 0
  ·subst hv
   rw [if_neg (by simp)] at e6
   (have zy0:=e4.b;have zx:=za e5 (za e1 (za s1 (za s2 hw))));refine zgo ?_;repeat' first|exact zt|apply zan|intro hc
   all_goals exact hL _ (k + 1) (Qd [(0,0)]) ⟨by omega,e6.symm⟩ (by omega) (zwg [(0,0)])
  ·rw [if_pos hv] at e6
   have e7:(v != 0) = true:=by simpa using hv
   rw [e6]
   (have zy0:=e4.b;have zx:=za e5 (za e1 (za s1 (za s2 (za hw e7)))));exact zg
 ·have e5:decide ((k:Int) < 11) = false:=zp (by omega)
  have hk2:k = 11:=by omega
  subst hk2
  have e6:ags a b = 0:=by rw [← hinv];rfl
  rw [e6]
  (have zx:=e5);exact zg
theorem as5 {n:Int} (h0:0≤n) (h1:n < 2 ^ 64):IntKind.u64.wrap n = n:=by
 have e1:IntKind.u64.bits = 64:=rfl
 have e2:IntKind.u64.signed = false:=rfl
 simp only [IntKind.wrap,e1,e2,zK,zu,if_false]
 omega
abbrev V.u64 (n:Int):V:=.sc (.int .u64 n)
def ayy:Nat→Int
 | 0=>0|1=>1|2=>2|3=>2|4=>3|5=>3|6=>3|7=>3|8=>4|9=>4|10=>4|11=>4|_=>4
def vX:AC:=qP [0,2] (.reg [mc 2 (V.int 0)]) (qP [0,2] (qP [0,2,4] (.reg [mv 3 0,bc 4 .geq 3 (.sc (.int .u64 4294967296))]) (.cond (.t 4) (qP [0] (.reg [mv 5 0,bc 6 .shr 5 (.sc (.int .u64 32)),mv 0 6]) (.reg [mc 2 (V.int 32)])) .skip)) (qP [0,2] (qP [0,2,8] (.reg [mv 7 0,bc 8 .geq 7 (.sc (.int .u64 65536))]) (.cond (.t 8) (qP [0,2] (.reg [mv 9 0,bc 10 .shr 9 (.sc (.int .u64 16)),mv 0 10]) (.reg [mv 11 2,bc 12 .add 11 (V.int 16),mv 2 12])) .skip)) (qP [0,2] (qP [0,2,14] (.reg [mv 13 0,bc 14 .geq 13 (.sc (.int .u64 256))]) (.cond (.t 14) (qP [0,2] (.reg [mv 15 0,bc 16 .shr 15 (.sc (.int .u64 8)),mv 0 16]) (.reg [mv 17 2,bc 18 .add 17 (V.int 8),mv 2 18])) .skip)) (qP [2] (.reg [mv 19 2,mv 20 0,xo 21 (.convI .u8 (.t 20)),xo 22 (.idxS (.c (V.str [0,1,2,2,3,3,3,3,4,4,4,4,4,4,4,4,5,5,5,5,5,5,5,5,5,5,5,5,5,5,5,5,6,6,6,6,6,6,6,6,6,6,6,6,6,6,6,6,6,6,6,6,6,6,6,6,6,6,6,6,6,6,6,6,7,7,7,7,7,7,7,7,7,7,7,7,7,7,7,7,7,7,7,7,7,7,7,7,7,7,7,7,7,7,7,7,7,7,7,7,7,7,7,7,7,7,7,7,7,7,7,7,7,7,7,7,7,7,7,7,7,7,7,7,7,7,7,7,8,8,8,8,8,8,8,8,8,8,8,8,8,8,8,8,8,8,8,8,8,8,8,8,8,8,8,8,8,8,8,8,8,8,8,8,8,8,8,8,8,8,8,8,8,8,8,8,8,8,8,8,8,8,8,8,8,8,8,8,8,8,8,8,8,8,8,8,8,8,8,8,8,8,8,8,8,8,8,8,8,8,8,8,8,8,8,8,8,8,8,8,8,8,8,8,8,8,8,8,8,8,8,8,8,8,8,8,8,8,8,8,8,8,8,8,8,8,8,8,8,8,8,8,8,8,8,8])) (.t 21)),xo 23 (.convI .i64 (.t 22)),bn 24 .add 19 23,mv 2 24]) .ret)))) def bp:List Uh:=[.tmp 2]
def qq (Γ:Env) (f:Nat):Prop:=∀ (n:Nat) (hn:n≤12),EvN Γ f [V.u64 n] (V.int (ayy n))
theorem adY {Γ:Env} {f:Nat} (h:Has Γ.P f 25 vX bp) :qq Γ f:=by
 intro n hn
 refine Qc h zsi zcl zcl fun C hC hm=>?_
 subst hC
 unfold vX
 have hn':n = 0∨n = 1∨n = 2∨n = 3∨n = 4∨n = 5∨n = 6∨n = 7∨n = 8∨n = 9∨n = 10∨n = 11∨n = 12:=by omega
 have e1:decide ((n:Int)≥4294967296) = false:=by simp;omega
 have e2:decide ((n:Int)≥65536) = false:=by simp;omega
 have e3:decide ((n:Int)≥256) = false:=by simp;omega
 have hw:IntKind.u8.wrap (n:Int) = (n:Int):=ave (by omega) (by omega)
 obtain ⟨c,hc1,hc2⟩:∃ c:UInt8,([0,1,2,2,3,3,3,3,4,4,4,4,4]:List UInt8)[n]? = some c∧(c.toNat:Int) = ayy n:=by
  rcases hn' with rfl|rfl|rfl|rfl|rfl|rfl|rfl|rfl|rfl|rfl|rfl|rfl|rfl<;>exact ⟨_,rfl,rfl⟩
 have hget:∀ l:List UInt8,l.take 13 = [0,1,2,2,3,3,3,3,4,4,4,4,4]→l[n]? = some c:=fun l hl=>by
  rw [← hc1,← hl,ZN,if_pos (by omega)]
 have hc3:0≤(c.toNat:Int)∧(c.toNat:Int) < 256:=by have:=c.toNat_lt;omega
 have hw2:IntKind.i64.wrap (c.toNat:Int) = (c.toNat:Int):=Jc (by omega) (by omega)
 have hw3:IntKind.i64.wrap (0 + (c.toNat:Int)) = (c.toNat:Int):=by rw [Int.zero_add,hw2]
 rw [← hc2]
 have hg:([0,1,2,2,3,3,3,3,4,4,4,4,4,4,4,4,5,5,5,5,5,5,5,5,5,5,5,5,5,5,5,5,6,6,6,6,6,6,6,6,6,6,6,6,6,6,6,6,6,6,6,6,6,6,6,6,6,6,6,6,6,6,6,6,7,7,7,7,7,7,7,7,7,7,7,7,7,7,7,7,7,7,7,7,7,7,7,7,7,7,7,7,7,7,7,7,7,7,7,7,7,7,7,7,7,7,7,7,7,7,7,7,7,7,7,7,7,7,7,7,7,7,7,7,7,7,7,7,8,8,8,8,8,8,8,8,8,8,8,8,8,8,8,8,8,8,8,8,8,8,8,8,8,8,8,8,8,8,8,8,8,8,8,8,8,8,8,8,8,8,8,8,8,8,8,8,8,8,8,8,8,8,8,8,8,8,8,8,8,8,8,8,8,8,8,8,8,8,8,8,8,8,8,8,8,8,8,8,8,8,8,8,8,8,8,8,8,8,8,8,8,8,8,8,8,8,8,8,8,8,8,8,8,8,8,8,8,8,8,8,8,8,8,8,8,8,8,8,8,8,8,8,8,8,8,8]:List UInt8)[n]? = some c:=hget _ rfl
 (have zx:=za e1 (za e2 (za e3 (za hw (za hg (za hw2 hw3))))));exact zg
def KJ:=qd Proofs.Tryz.f143 []
def UW (Γ:Env) (f:Nat):Prop:=∀ (n:Nat) (hn:n≤12),EvN Γ f [V.u64 n] (V.int (ayy n))
theorem agE {Γ:Env} {f:Nat} (h:Has Γ.P f 8 KJ.1.1.ac KJ.1.2) (z0:qq Γ 213):UW Γ f:=by
 intro n hn
 refine Qc h zsi zcl zcl fun C hC hm=>?_
 subst hC
 simp only [KJ,qd,DC.ac]
 exact zg
theorem aqs {Γ:Env} {f:Nat} (h:UW Γ f) (n:Nat) (hn:n≤12):∃ lim:Int,EvN Γ f [V.u64 n] (V.int lim):=⟨_,h n hn⟩
def W6:=qd Proofs.Tryz.f221 []
def U9 (Γ:Env) (f:Nat):Prop:=∀ (n:Int),EvN Γ f [V.int n] (V.bool false)
theorem acO {Γ:Env} {f:Nat} (h:Has Γ.P f 6 W6.1.1.ac W6.1.2) :U9 Γ f:=by
 intro n
 refine Qc h zsi zcl zcl fun C hC hm=>?_
 subst hC
 simp only [W6,qd,DC.ac]
 have e:(n != n) = false:=by simp
 (have zx:=e);exact zg
def jW:=qd Proofs.Tryz.f220 []
def x8 (Γ:Env) (f:Nat):Prop:=∀ (a b:Int),EvN Γ f [V.int a,V.int b] (V.bool (decide (a < b)))
theorem aia {Γ:Env} {f:Nat} (h:Has Γ.P f 17 jW.1.1.ac jW.1.2) (z0:UZ Γ 214):x8 Γ f:=by
 intro a b
 refine Qc h zsi zcl zcl fun C hC hm=>?_
 subst hC
 simp only [jW,qd,DC.ac]
 have n1:=(z0 _ rfl a).b
 have n2:=(z0 _ rfl b).b
 repeat' (first|(refine zsk ?_;intro K' hK)|refine zsp ?_|(refine zsc ?_ ?_<;>intro hc<;>first|exact znh|try simp only [znz] at hc)|simp (maxSteps:=1000000) only [go_sem]|(refine hK _ ?_;clear hK K')|apply zan|(apply QA;(focus first|exact n1|exact n2))|exact zsq|fail)
 all_goals exact zr
section
variable {α:Type}
def yg (eq:α→α→Bool):α→List α→List α
 | _,[]=>[]
 | p,x :: r=>if eq x p = true then yg eq x r else x :: yg eq x r
def qR (eq:α→α→Bool):List α→List α
 | []=>[]
 | x :: r=>x :: yg eq x r
theorem alY {eq:α→α→Bool} (he:∀ x y,eq x y = true→x = y) {y:α}:∀ (l:List α) (p:α),y∈p :: yg eq p l↔y∈p :: l
 | [],p=>by simp [yg]
 | x :: r,p=>by
   have ih:=alY he (y:=y) r x
   rw [yg]
   by_cases h:eq x p = true
   ·rw [if_pos h]
    have:=he _ _ h
    subst this
    rw [ih];simp
   ·rw [if_neg h,zw,ih,zw (a:=y) (l:=x :: r)]
theorem ash {eq:α→α→Bool} (he:∀ x y,eq x y = true→x = y) {y:α}:∀ l:List α,y∈qR eq l↔y∈l
 | []=>by simp [qR]
 | x :: r=>alY he r x
end
def Yy:=qd Proofs.Tryz.f201 [zhn 10,zhn 10]
def Xm (Γ:Env) (f:Nat):Prop:=∀ (xs:List Int) (hx:xs.length < 2 ^ 34),EvZ Γ f [] 1 (xs.map V.int) ((qR (fun x y:Int ↦ x == y) xs).length) ((qR (fun x y:Int ↦ x == y) xs).map V.int++List.replicate (xs.length - (qR (fun x y:Int ↦ x == y) xs).length) (V.int 0))
theorem xy {Γ:Env} {f:Nat} (h:Has Γ.P f 61 Yy.1.1.ac Yy.1.2) :Xm Γ f:=by
 intro xs hx
 refine ac3 h (by simp) fun C hC hm=>?_
 subst hC
 simp only [Yy,qd,DC.ac]
 have hlen:(xs.map V.int).length = xs.length:=zb _
 generalize heq:(fun x y:Int=>x == y) = eq
 have heq2:∀ x y:Int,(x == y) = eq x y:=fun x y=>by rw [← heq]
 by_cases h2:xs.length < 2
 ·have e1:decide (((xs.map V.int).length:Int) < 2) = true:=zn (by rw [hlen];omega)
  have hg:qR eq xs = xs:=by
   match xs,h2 with
   | [],_=>rfl
   | [x],_=>rfl
  rw [hg,k9]
  repeat' (first|(refine zsk ?_;intro K' hK)|(refine zrg ?_;intro K' hK)|refine zsp ?_|(refine zsc ?_ ?_<;>intro hc<;>first|exact znh|try simp only [znz] at hc)|simp (maxSteps:=1000000) only [go_sem,e1]|(refine hK _ ?_;clear hK K')|apply zan|exact zsq|fail)
  all_goals first|(refine agb _ rfl rfl rfl ?_ ?_<;>first|rfl|(simp;done))
 ·have e1:decide (((xs.map V.int).length:Int) < 2) = false:=zp (by rw [hlen];omega)
  repeat' (first|(refine zsk ?_;intro K' hK)|(refine zrg ?_;intro K' hK)|refine zsp ?_|(refine zsc ?_ ?_<;>intro hc<;>first|exact znh|try simp only [znz] at hc)|simp (maxSteps:=1000000) only [go_sem,e1]|(refine hK _ ?_;clear hK K')|apply zan|exact zsq|fail)
  refine Ji (ι:=Nat) (fun k=>1≤k∧k≤xs.length∧∃ p,xs[k - 1]? = some p∧qR eq xs = xs.take k++yg eq p (xs.drop k)) (fun k=>[(3,V.int k)]) (fun k=>xs.length - k) 1 (by omega) ⟨by omega,by omega,?_⟩ zol zlt zet fun k hk K' hL=>?_
  ·match xs,h2 with
   | x :: r,_=>exact ⟨x,rfl,rfl⟩
   | [],h2=>exact absurd (by simp) h2
  obtain ⟨hk1,hk2,p,hp,hinv⟩:=hk
  simp only [ovT,Xs,Nat.reduceEqDiff,reduceIte]
  by_cases hke:k = xs.length
  ·have e2:decide ((k:Int) < ((xs.map V.int).length:Int)) = false:=zp (by rw [hlen];omega)
   have hg:qR eq xs = xs:=by rw [hinv,hke,zG,Zv];simp [yg]
   rw [hg,k9]
   repeat' (first|(refine zsk ?_;intro K' hK)|(refine zrg ?_;intro K' hK)|refine zsp ?_|(refine zsc ?_ ?_<;>intro hc<;>first|exact znh|try simp only [znz] at hc)|simp (maxSteps:=1000000) only [go_sem,e2]|(refine hK _ ?_;clear hK K')|apply zan|exact zsq|fail)
   all_goals first|(refine agb _ rfl rfl rfl ?_ ?_<;>first|rfl|(simp;done))
  ·have e2:decide ((k:Int) < ((xs.map V.int).length:Int)) = true:=zn (by rw [hlen];omega)
   obtain ⟨y,hy⟩:∃ y,xs[k]? = some y:=⟨_,zd (by omega)⟩
   have hdy:xs.drop k = y :: xs.drop (k + 1):=by
    obtain ⟨h1,h2⟩:=zl.1 hy
    rw [zR h1,h2]
   rw [hdy,yg] at hinv
   have hw:=Qe (k:=k) (by omega)
   have hwm:IntKind.i64.wrap ((k:Int) - 1) = ((k - 1:Nat):Int):=by rw [Jc (by omega) (by omega)];omega
   have vy:(xs.map V.int)[k]? = some (V.int y):=by rw [zo,hy];rfl
   have vp:(xs.map V.int)[k - 1]? = some (V.int p):=by rw [zo,hp];rfl
   skip
   have hq:=heq2 y p
   have r1:((k:Int) < ((xs.map V.int).length:Int)) = True:=eq_true (by rw [hlen];omega)
   have r2:((k - 1:Nat):Int) < ((xs.map V.int).length:Int):=by rw [hlen];omega
   rcases hb:eq y p with _|_
   ·rw [hb] at hq
    simp only [hb,zu,if_false] at hinv
    repeat' (first|(refine zsk ?_;intro K' hK)|(refine zrg ?_;intro K' hK)|refine zsp ?_|(refine zsc ?_ ?_<;>intro hc<;>first|exact znh|try simp only [znz] at hc)|simp (maxSteps:=1000000) only [go_sem,e2,hw,hwm,Int.toNat_natCast,vy,vp,hq]|(refine hK _ ?_;clear hK K')|apply zan|exact zsq|fail)
    all_goals first
     | exact hL _ (k + 1) zet ⟨by omega,by omega,y,by rw [Zx];exact hy,by rw [hinv,zB,hy];simp⟩ (by omega) zoe
     | exact r2
   ·rw [hb] at hq
    simp only [hb,if_true] at hinv
    repeat' (first|(refine zsk ?_;intro K' hK)|(refine zrg ?_;intro K' hK)|refine zsp ?_|(refine zsc ?_ ?_<;>intro hc<;>first|exact znh|try simp only [znz] at hc)|simp (maxSteps:=1000000) only [go_sem,e2,hw,hwm,Int.toNat_natCast,vy,vp,hq]|(refine hK _ ?_;clear hK K')|apply zan|exact zsq|fail)
    all_goals first
     | exact r2
     | skip
    refine Qj (ι:=List Int×Nat×Nat) (fun q=>q.1.length = xs.length∧1≤q.2.2∧k + q.2.2≤xs.length∧k≤q.2.1∧q.2.1≤k + q.2.2 - 1∧q.1.drop (k + q.2.2 - 1) = xs.drop (k + q.2.2 - 1)∧∃ z,xs[k + q.2.2 - 1]? = some z∧qR eq xs = q.1.take q.2.1++yg eq z (xs.drop (k + q.2.2)))
     (fun q=>QS [(0,.hd 0 0 (xs.map V.int).length),(3,V.int q.2.1),(4,.hd 0 k (xs.length - k)),(5,V.int q.2.2)] [(0,.buf true 1 (q.1.map V.int))] 1) (fun q=>xs.length - q.2.2) (xs,k,1)
     ⟨rfl,by simp only;omega,by simp only;omega,by simp only;omega,by simp only;omega,rfl,y,by simp only [Zx];exact hy,by rw [hinv]⟩ (Qd []) (Qh [] (by simp only [go_sem,zwl];first|done|(simp only [zb];(repeat' (first|rfl|apply za|omega|exact fun h=>h|exact Exists.intro _ rfl)))|(repeat' (first|rfl|apply za|omega|exact fun h=>h|exact Exists.intro _ rfl))) zwa (by simp) (by simp) (by omega)) fun q hq K2 hL2=>?_
    obtain ⟨B,w,j⟩:=q
    obtain ⟨hB,hj1,hj2,hw1,hw2,hdr,z,hz,hinv2⟩:=hq
    dsimp only at hB hj1 hj2 hw1 hw2 hdr hz hinv2
    have hBl:(B.map V.int).length = xs.length:=by rw [zb,hB]
    have hwj:=Qe (k:=j) (by omega)
    have hww:=Qe (k:=w) (by omega)
    by_cases hje:k + j = xs.length
    ·have e3:decide ((j:Int) < ((xs.length - k:Nat):Int)) = false:=zp (by omega)
     have hg:qR eq xs = B.take w:=by rw [hinv2,hje,Zv];simp [yg]
     have hgl:(qR eq xs).length = w:=by rw [hg,zU,hB];omega
     have r3:((w:Int)≤((xs.map V.int).length:Int)) = True:=eq_true (by rw [hlen];omega)
     rw [hgl,hg]
     repeat' (first|(refine zsk ?_;intro K' hK)|(refine zrg ?_;intro K' hK)|refine zsp ?_|(refine zsc ?_ ?_<;>intro hc<;>first|exact znh|try simp only [znz] at hc)|simp (maxSteps:=1000000) only [go_sem,QS,e3,Int.toNat_natCast]|(refine hK _ ?_;clear hK K')|apply zan|exact zsq|fail)
     all_goals first
      | (rw [hlen];omega)
      | (refine agb _ rfl rfl rfl ?_ ?_<;>first|rfl|(rw [Zs (by rw [hBl,hlen];omega),ka,kO,hlen];first|done|rfl)|(simp;done))
    ·have e3:decide ((j:Int) < ((xs.length - k:Nat):Int)) = true:=zn (by omega)
     obtain ⟨u,hu⟩:∃ u,xs[k + j]? = some u:=⟨_,zd (by omega)⟩
     have hdu:xs.drop (k + j) = u :: xs.drop (k + j + 1):=by
      obtain ⟨h1,h2⟩:=zl.1 hu
      rw [zR h1,h2]
     rw [hdu,yg] at hinv2
     have bz:B[k + (j - 1)]? = some z:=by
      have:(B.drop (k + j - 1))[0]? = (xs.drop (k + j - 1))[0]?:=by rw [hdr]
      rw [kI,kI,Nat.add_zero,hz] at this
      rw [← this];congr 1;omega
     have bu:B[k + j]? = some u:=by
      have:(B.drop (k + j - 1))[1]? = (xs.drop (k + j - 1))[1]?:=by rw [hdr]
      rw [kI,kI,show k + j - 1 + 1 = k + j by omega,hu] at this
      exact this
     have vz:(B.map V.int)[k + (j - 1)]? = some (V.int z):=by rw [zo,bz];rfl
     have vu:(B.map V.int)[k + j]? = some (V.int u):=by rw [zo,bu];rfl
     have bw:∃ t,B[w]? = some t:=⟨_,zd (by omega)⟩
     obtain ⟨t,bw⟩:=bw
     have vt:(B.map V.int)[w]? = some (V.int t):=by rw [zo,bw];rfl
     have hset:(B.map V.int).set w (V.int u) = (B.set w u).map V.int:=Zt.symm
     have hwm2:IntKind.i64.wrap ((j:Int) - 1) = ((j - 1:Nat):Int):=by rw [Jc (by omega) (by omega)];omega
     skip
     have hq:=heq2 u z
     have r4:(((w:Int)) < ((xs.map V.int).length:Int)) = True:=eq_true (by rw [hlen];omega)
     have r5:((j:Int) < ((xs.length - k:Nat):Int)) = True:=eq_true (by omega)
     have r6:((((j - 1:Nat):Int)) < ((xs.length - k:Nat):Int)) = True:=eq_true (by omega)
     rcases hb2:eq u z with _|_
     ·rw [hb2] at hq
      simp only [hb2,zu,if_false] at hinv2
      repeat' (first|(refine zsk ?_;intro K' hK)|(refine zrg ?_;intro K' hK)|refine zsp ?_|(refine zsc ?_ ?_<;>intro hc<;>first|exact znh|try simp only [znz] at hc)|simp (maxSteps:=1000000) only [go_sem,QS,e3,hwj,hww,hwm2,Int.toNat_natCast,vz,vu,vt,hset,hq,r4,r5,r6,bne]|(refine hK _ ?_;clear hK K')|apply zan|exact zsq|fail)
      all_goals first
       | exact hL2 _ (B.set w u,w + 1,j + 1) (Qd []) ⟨by simp only [zN];exact hB,by simp only;omega,by simp only;omega,by simp only;omega,by simp only;omega,by
          simp only
          rw [List.drop_set_of_lt (by omega),show k + (j + 1) - 1 = (k + j - 1) + 1 by omega,← kQ,hdr,kQ],u,by simp only;rw [show k + (j + 1) - 1 = k + j by omega];exact hu,by
          simp only
          rw [hinv2,show k + (j + 1) = k + j + 1 by omega,zB,Zf (by omega),List.take_set_of_le (zj _)];simp⟩ (by simp only;omega) (zwg [])
       | (rw [hlen];omega)
     ·rw [hb2] at hq
      simp only [hb2,if_true] at hinv2
      repeat' (first|(refine zsk ?_;intro K' hK)|(refine zrg ?_;intro K' hK)|refine zsp ?_|(refine zsc ?_ ?_<;>intro hc<;>first|exact znh|try simp only [znz] at hc)|simp (maxSteps:=1000000) only [go_sem,QS,e3,hwj,hww,hwm2,Int.toNat_natCast,vz,vu,vt,hset,hq,r4,r5,r6,bne]|(refine hK _ ?_;clear hK K')|apply zan|exact zsq|fail)
      all_goals first
       | exact hL2 _ (B,w,j + 1) (Qd []) ⟨hB,by simp only;omega,by simp only;omega,by simp only;omega,by simp only;omega,by
          simp only
          rw [show k + (j + 1) - 1 = (k + j - 1) + 1 by omega,← kQ,hdr,kQ],u,by simp only;rw [show k + (j + 1) - 1 = k + j by omega];exact hu,by simp only;rw [hinv2,show k + (j + 1) = k + j + 1 by omega]⟩ (by simp only;omega) (zwg [])
end Av
end
