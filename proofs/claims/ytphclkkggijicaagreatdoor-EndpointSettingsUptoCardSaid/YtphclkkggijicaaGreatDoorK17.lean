/- Functions that answer a buffer of their own, whose elements show no memory. -/
import Derived.Test.YtphclkkggijicaaGreatDoorK16
import Derived.Test.YtphclkkggijicaaGreatDoorK12
import Derived.Test.YtphclkkggijicaaGreatDoorK14
set_option linter.unusedVariables false
set_option linter.unusedSimpArgs false
noncomputable section
set_option maxRecDepth 10000
set_option maxHeartbeats 4000000
namespace Av
open Go
attribute [local irreducible] AWp Vo Ky jA awS awC aad awQ aaN QL Vq vQ awR Vz awB okR js ris
theorem aah (c:UInt8):∀ (r cur:List UInt8),(J0 c cur r).length≤r.length + 1
 | [],cur=>by simp [J0]
 | x :: r,cur=>by
   rw [J0];split
   ·have:=aah c r [];simp;omega
   ·have:=aah c r (cur++[x]);simp;omega
theorem xE (c:UInt8) (s:List UInt8):(QK c s).length≤s.length + 1:=aah c s []
def al4 (L:List (List UInt8)) (x:Qm):Bool:=L.all fun n=>Yr n x
def YM (L:List (List UInt8)) (xs:List Qm):List Int:=(xs.filter (al4 L)).map Qm.code
theorem abb (L:List (List UInt8)) (k:Nat) (x:Qm) (h:Qq[k]? = some x):YM L (Qq.take (k + 1)) = YM L (Qq.take k)++(if al4 L x = true then [x.code] else []):=by
 rw [YM,YM,zy,h,kG,zD]
 congr 1
 by_cases hx:al4 L x = true<;>simp [hx]
def vc (s:List UInt8):List Int×Bool:=if (QK 43 s).all Xn then (YM (QK 43 s) Qq,true) else ([],false)
def jV:=qd Proofs.Tryz.f193 [zhn 13]
def xu (Γ:Env) (f:Nat):Prop:=∀ (s:List UInt8) (hs:s.length < 2 ^ 34),EvC Γ f [V.str s] (.tup [.sl 1 ((vc s).1.map V.int),V.bool (vc s).2])
theorem agU {Γ:Env} {f:Nat} (h:Has Γ.P f 60 jV.1.1.ac jV.1.2) (z0:V3 Γ 155) (z1:qV Γ 233) (z2:Xr Γ 122) (z3:qU Γ 234):xu Γ f:=by
 intro s hs
 refine Qn h zsi (by simp only [V.closed,Qa,and_self]) fun C hC hm=>?_
 subst hC
 simp only [jV,qd,DC.ac]
 have hlen:=xE 43 s
 have hsp:=(z0 s 43 hs).b
 have hset:vc s = if (QK 43 s).all Xn then (YM (QK 43 s) Qq,true) else ([],false):=rfl
 rw [hset]
 generalize QK 43 s = L at *
 have e43:((43:UInt8).toNat:Int) = 43:=rfl
 rw [e43] at hsp
 repeat' (first|(refine zsk ?_;intro K' hK)|(refine zrg ?_;intro K' hK)|refine zsp ?_|(refine zsc ?_ ?_<;>intro hc<;>first|exact znh|try simp only [znz] at hc)|simp (maxSteps:=1000000) only [go_sem]|(refine hK _ ?_;clear hK K')|apply zan|((first|apply Ju|apply QZ);(focus first|exact hsp|exact (z0 _ _ zsd).b|exact (z1 _).b|exact EvC.b z2|exact (z3 _ _).b))|exact zsq|fail)
 refine Qp (ι:=Nat) (fun k=>k≤L.length∧(L.drop k).all Xn = L.all Xn) (fun k=>[(5,V.int k)]) (fun k=>L.length - k) 0 (by omega) ⟨by simp,by simp⟩ zol zlt zet fun k hk K' hL=>?_
 obtain ⟨hk,hinv⟩:=hk
 simp only [ovT,Je,Nat.reduceEqDiff,reduceIte]
 rcases hd:L.drop k with _|⟨y,r⟩
 ·have:=Qj hd
  rw [hd] at hinv
  have e1:decide ((k:Int) < (((L.map V.str).length:Nat):Int)) = false:=by simp;omega
  have e2:L.all Xn = true:=by rw [← hinv];rfl
  rw [e2]
  repeat' (first|(refine zsk ?_;intro K' hK)|(refine zrg ?_;intro K' hK)|refine zsp ?_|(refine zsc ?_ ?_<;>intro hc<;>first|exact znh|try simp only [znz] at hc)|simp (maxSteps:=1000000) only [go_sem,e1]|(refine hK _ ?_;clear hK K')|apply zan|((first|apply Ju|apply QZ);(focus first|exact (z0 _ _ zsd).b|exact (z1 _).b|exact EvC.b z2|exact (z3 _ _).b))|exact zsq|fail)
  refine QA (ι:=Nat) (fun k=>k≤16) (fun k=>Yd [(4,.sl 1 (L.map V.str)),(6,.sl 12 (Qq.map Qm.v)),(7,.hd 0 0 (YM L (Qq.take k)).length),(8,V.int k)] [(0,.buf true 1 ((YM L (Qq.take k)).map V.int))] 1) (fun k=>17 - k) 0 (by omega) (Qo [(0,12000)]) (zwg [(0,12000)]) fun k hk K' hL=>?_
  rcases hd:Qq.drop k with _|⟨x,r⟩
  ·have hk16:=Qj hd
   have e1:decide ((k:Int) < (((Qq.map Qm.v).length:Nat):Int)) = false:=by simp;omega
   have e3:Qq.take k = Qq:=zb hk16
   rw [e3]
   repeat' (first|(refine zsk ?_;intro K' hK)|(refine zrg ?_;intro K' hK)|refine zsp ?_|(refine zsc ?_ ?_<;>intro hc<;>first|exact znh|try simp only [znz] at hc)|simp (maxSteps:=1000000) only [go_sem,Yd,e1]|(refine hK _ ?_;clear hK K')|apply zan|((first|apply Ju|apply QZ);(focus first|exact (z0 _ _ zsd).b|exact (z1 _).b|exact EvC.b z2|exact (z3 _ _).b))|exact zsq|fail)
   all_goals (refine Qd _ rfl ?_;simp only [go_sem];rw [zb (by simp)])
  ·obtain ⟨hk',hget,hr⟩:=Qf hd
   rw [YA] at hk'
   have hw:=Qc (k:=k) (by omega)
   have e1:decide ((k:Int) < (((Qq.map Qm.v).length:Nat):Int)) = true:=by simp [YA];omega
   have hcs:=abb L k x hget
   have hol:(YM L (Qq.take k)).length≤16:=by
    rw [YM,zh]
    refine kB (kp _ _) ?_
    rw [zJ];omega
   generalize YM L (Qq.take k) = out at *
   repeat' (first|(refine zsk ?_;intro K' hK)|(refine zrg ?_;intro K' hK)|refine zsp ?_|(refine zsc ?_ ?_<;>intro hc<;>first|exact znh|try simp only [znz] at hc)|simp (maxSteps:=1000000) only [go_sem,Yd,e1]|(refine hK _ ?_;clear hK K')|apply zan|((first|apply Ju|apply QZ);(focus first|exact (z0 _ _ zsd).b|exact (z1 _).b|exact EvC.b z2|exact (z3 _ _).b))|exact zsq|fail)
   refine Qp (ι:=Nat) (fun j=>j≤L.length) (fun j=>[(9,V.bool ((L.take j).all fun n=>Yr n x)),(10,V.int j)]) (fun j=>L.length - j) 0 (by omega) (by omega) zol zlt (by simp only [Nat.reduceAdd,ovT,Je,Nat.reduceEqDiff,reduceIte,Xv,Vx,aiQ,u32,u33,u34,u35,u36,u37,u38,u39,and_self,and_true,true_and];exact ⟨rfl,rfl⟩) fun j hj K'' hL2=>?_
   simp only [ovT,Je,Nat.reduceEqDiff,reduceIte]
   rcases hdj:L.drop j with _|⟨y,r2⟩
   ·have hjl:=Qj hdj
    have e2:decide ((j:Int) < (((L.map V.str).length:Nat):Int)) = false:=by simp;omega
    have e3:L.take j = L:=zb hjl
    rw [e3]
    rcases hin:al4 L x with _|_
    ·have hin2:(L.all fun n=>Yr n x) = false:=hin
     rw [hin2]
     rw [hin] at hcs
     repeat' (first|(refine zsk ?_;intro K' hK)|(refine zrg ?_;intro K' hK)|refine zsp ?_|(refine zsc ?_ ?_<;>intro hc<;>first|exact znh|try simp only [znz] at hc)|simp (maxSteps:=1000000) only [go_sem,e2,hw]|(refine hK _ ?_;clear hK K')|apply zan|((first|apply Ju|apply QZ);(focus first|exact (z0 _ _ zsd).b|exact (z1 _).b|exact EvC.b z2|exact (z3 _ _).b))|exact zsq|fail)
     simp only [zj,if_false,zU] at hcs
     refine hL _ (k + 1) (Qo []) (by omega) (by omega) ?_
     rw [hcs]
     exact zwg []
    ·have hin2:(L.all fun n=>Yr n x) = true:=hin
     rw [hin2]
     rw [hin] at hcs
     repeat' (first|(refine zsk ?_;intro K' hK)|(refine zrg ?_;intro K' hK)|refine zsp ?_|(refine zsc ?_ ?_<;>intro hc<;>first|exact znh|try simp only [znz] at hc)|simp (maxSteps:=1000000) only [go_sem,e2,hw,Int.toNat_natCast,zF,hget,Qm.v,Qm.cells]|(refine hK _ ?_;clear hK K')|apply zan|((first|apply Ju|apply QZ);(focus first|exact (z0 _ _ zsd).b|exact (z1 _).b|exact EvC.b z2|exact (z3 _ _).b))|exact zsq|fail)
     rw [if_pos rfl] at hcs
     have hb:List.take out.length (List.map V.int out)++[V.int x.code] = (out++[x.code]).map V.int:=by
      rw [zb (by simp),zD];rfl
     have hln:out.length + 1 = (out++[x.code]).length:=by simp
     rw [hb,hln]
     refine hL _ (k + 1) (Qo [(0,18001)]) (by omega) (by omega) ?_
     rw [hcs]
     exact zwg [(0,18001)]
   ·obtain ⟨hj',hgj,hrj⟩:=Qf hdj
    have hwj:=Qc (k:=j) (by omega)
    have e2:decide ((j:Int) < (((L.map V.str).length:Nat):Int)) = true:=by simp;omega
    have hall:((L.take (j + 1)).all fun n=>Yr n x) = (((L.take j).all fun n=>Yr n x) && Yr y x):=by
     rw [zy,hgj];simp
    rcases hb:((L.take j).all fun n=>Yr n x) with _|_
    ·rw [hb,zB] at hall
     repeat' (first|(refine zsk ?_;intro K' hK)|(refine zrg ?_;intro K' hK)|refine zsp ?_|(refine zsc ?_ ?_<;>intro hc<;>first|exact znh|try simp only [znz] at hc)|simp (maxSteps:=1000000) only [go_sem,e2,hwj]|(refine hK _ ?_;clear hK K')|apply zan|((first|apply Ju|apply QZ);(focus first|exact (z0 _ _ zsd).b|exact (z1 _).b|exact EvC.b z2|exact (z3 _ _).b))|exact zsq|fail)
     all_goals exact hL2 _ (j + 1) (by rw [hall];simp only [Nat.reduceAdd,ovT,Je,Nat.reduceEqDiff,reduceIte,Xv,Vx,aiQ,u32,u33,u34,u35,u36,u37,u38,u39,and_self,and_true,true_and]) (by omega) (by omega) zoe
    ·rw [hb,zA] at hall
     repeat' (first|(refine zsk ?_;intro K' hK)|(refine zrg ?_;intro K' hK)|refine zsp ?_|(refine zsc ?_ ?_<;>intro hc<;>first|exact znh|try simp only [znz] at hc)|simp (maxSteps:=1000000) only [go_sem,e2,hwj,Int.toNat_natCast,zF,hget,hgj]|(refine hK _ ?_;clear hK K')|apply zan|((first|apply Ju|apply QZ);(focus first|exact (z0 _ _ zsd).b|exact (z1 _).b|exact EvC.b z2|exact (z3 _ _).b))|exact zsq|fail)
     ·exact zi 12
     ·exact hL2 _ (j + 1) (by rw [hall];simp only [Nat.reduceAdd,ovT,Je,Nat.reduceEqDiff,reduceIte,Xv,Vx,aiQ,u32,u33,u34,u35,u36,u37,u38,u39,and_self,and_true,true_and]) (by omega) (by omega) zoe
 ·obtain ⟨hk',hget,hr⟩:=Qf hd
  rw [hd] at hinv
  have hw:=Qc (k:=k) (by omega)
  have e1:decide ((k:Int) < (((L.map V.str).length:Nat):Int)) = true:=by simp;omega
  rcases hy:Xn y with _|_
  ·have e2:L.all Xn = false:=by rw [← hinv];simp [hy]
   rw [e2]
   repeat' (first|(refine zsk ?_;intro K' hK)|(refine zrg ?_;intro K' hK)|refine zsp ?_|(refine zsc ?_ ?_<;>intro hc<;>first|exact znh|try simp only [znz] at hc)|simp (maxSteps:=1000000) only [go_sem,Int.toNat_natCast,zF,hget,hw,e1,hy]|(refine hK _ ?_;clear hK K')|apply zan|((first|apply Ju|apply QZ);(focus first|exact (z0 _ _ zsd).b|exact (z1 _).b|exact EvC.b z2|exact (z3 _ _).b))|exact zsq|fail)
   all_goals (refine Qd _ rfl ?_;simp only [go_sem];first|done|exact ⟨_,_,rfl⟩)
  ·repeat' (first|(refine zsk ?_;intro K' hK)|(refine zrg ?_;intro K' hK)|refine zsp ?_|(refine zsc ?_ ?_<;>intro hc<;>first|exact znh|try simp only [znz] at hc)|simp (maxSteps:=1000000) only [go_sem,Int.toNat_natCast,zF,hget,hw,e1,hy]|(refine hK _ ?_;clear hK K')|apply zan|((first|apply Ju|apply QZ);(focus first|exact (z0 _ _ zsd).b|exact (z1 _).b|exact EvC.b z2|exact (z3 _ _).b))|exact zsq|fail)
   all_goals
    refine hL _ (k + 1) zet ⟨by omega,?_⟩ (by omega) zoe
    rw [hr,← hinv];simp [hy]
end Av
end
section
namespace Av
open Go
structure EvW (Γ:Env) (f:FuncId) (args:List V) (sz:Nat) (xs:List V):Prop where
 ev:Ev Γ f args [] (.hd 0 0 xs.length) [.buf true sz xs]
 ns:∀ x∈xs,x.noSl
theorem je (l:List Int):∀ x∈l.map V.int,x.noSl:=by
 grind [V.noSl]
theorem jc (l:List (List UInt8)):∀ x∈l.map V.str,x.noSl:=by
 grind [V.noSl]
theorem arE {Γ:Env} {b:Nat} {r:List AO} {s:St} {d:Option Nat} {f:FuncId} {acts xs:List V} {sz:Nat} {K:St→Prop} (h:EvW Γ f (JI s.o acts) sz xs) (hc:Qu s.o none acts)
  (hk:Vo Γ (b + KK) r { t:=(s.put d (.hd b 0 xs.length)).t,o:=upd s.o b (some (.buf true sz xs)),n:=s.n } K):awC Γ b r s d f acts K:=by
 refine Yk ⟨_,_,_,_,[],none,h.ev,Jv _ _ _ hc,trivial,zT,by grind,by simp,by simp [KK],fun _=>⟨by simp only [V.noSl],fun x hx=>?_⟩,?_⟩
 ·simp only [zQ] at hx;subst hx;exact h.ns
 ·simp only [Ys,YB,Ob.ren,V.ren,sig]
  exact hk
theorem aqY {Γ:Env} {A W:Nat→Bool} {b:Nat} {s:St} {d:Option Nat} {f:FuncId} {acts xs:List V} {sz:Nat} {J:St→Prop} (h:EvW Γ f (JI (Jl A s.o) acts) sz xs) (hc:Qu (Jl A s.o) none acts)
  (hk:J { t:=(s.put d (.hd b 0 xs.length)).t,o:=upd s.o b (some (.buf true sz xs)),n:=s.n }):QL Γ A W b s d f acts J:=by
 refine ⟨_,_,_,_,[],none,h.ev,Jv _ _ _ hc,trivial,zT,by grind,by simp,by simp [KK],fun _=>⟨by simp only [V.noSl],fun x hx=>?_⟩,by grind,?_⟩
 ·simp only [zQ] at hx;subst hx;exact h.ns
 ·simp only [Ys,YB,Ob.ren,V.ren,sig]
  exact hk
theorem jm {Γ:Env} {b:Nat} {r:List AO} {s:St} {d:Option Nat} {f:FuncId} {acts args xs:List V} {sz:Nat} {K:St→Prop} {okf:Option (List Nat)→Prop} (h:EvW Γ f args sz xs) (hc:okf none)
  (hk:Vo Γ (b + KK) r { t:=(s.put d (.hd b 0 xs.length)).t,o:=upd s.o b (some (.buf true sz xs)),n:=s.n } K):ahI Γ b r s d f acts args okf K:=by
 rintro rfl rfl;exact arE h hc hk
theorem VA {Γ:Env} {A W:Nat→Bool} {b:Nat} {s:St} {d:Option Nat} {f:FuncId} {acts args xs:List V} {sz:Nat} {J:St→Prop} {okf:Option (List Nat)→Prop} (h:EvW Γ f args sz xs) (hc:okf none)
  (hk:J { t:=(s.put d (.hd b 0 xs.length)).t,o:=upd s.o b (some (.buf true sz xs)),n:=s.n }):afE Γ A W b s d f acts args okf J:=by
 rintro rfl rfl;exact aqY h hc hk
theorem Vu {Γ:Env} {f:FuncId} {nt:Nat} {ac:AC} {rs:List V8} (hb:Has Γ.P f nt ac rs) {args xs:List V} {sz:Nat} (ha:args.length≤nt) (hn:∀ x∈xs,x.noSl)
  (h:∀ C:Ctx,C.env = Γ→C.m = 0→AWp C nt ac (YL args []) (xP 0 rs (.hd 0 0 xs.length) [.buf true sz xs]) (fun _ _=>False) (xP 0 rs (.hd 0 0 xs.length) [.buf true sz xs])):EvW Γ f args sz xs :=
 ⟨YD hb ha h,hn⟩
theorem aa9 {rs:List V8} {s:St} {xs:List V} {sz:Nat} (a n:Nat) (h:vn s rs = some [.hd a 0 n]) (hn:n = xs.length) (ho:s.o a = some (.buf true sz xs)):xP 0 rs (.hd 0 0 xs.length) [.buf true sz xs] s:=by
 subst hn
 exact Wb rs _ _ h ⟨[a],none,by simp [ahG,conv],⟨⟨_,ho,fun h=>h,rfl,rfl⟩,trivial⟩,by simp,rfl⟩
end Av
end
noncomputable section
set_option maxRecDepth 10000
set_option maxHeartbeats 4000000
namespace Av
open Go
attribute [local irreducible] AWp Vo Ky jA awS awC aad awQ aaN QL Vq vQ awR Vz awB okR js ris
def Qe (l some:List Int):List Int:=l.filter fun x=>!some.contains x
theorem jt {l m:List Int} {k:Nat} {x:Int} (h:l[k]? = some x):Qe (l.take (k + 1)) m = Qe (l.take k) m++(if m.contains x = true then [] else [x]):=by
 rw [Qe,Qe,zy,h,kG]
 congr 1
 by_cases hx:m.contains x = true<;>simp at hx<;>simp [hx]
theorem Jr (l m:List Int):(Qe l m).length≤l.length:=kp _ _
def WP:=qd Proofs.Tryz.f194 []
def Ut (Γ:Env) (f:Nat):Prop:=∀ (l m:List Int) (hl:l.length < 2 ^ 34) (hm:m.length < 2 ^ 62),EvW Γ f [.sl 1 (l.map V.int),.sl 1 (m.map V.int)] 1 ((Qe l m).map V.int)
attribute [local go_sem] Yd in
theorem abA {Γ:Env} {f:Nat} (h:Has Γ.P f 28 WP.1.1.ac WP.1.2) (z0:qr Γ 59):Ut Γ f:=by
 intro l m hl hm
 refine Vu h (by simp) (by first|exact je _|exact jc _) fun C hC hm=>?_
 subst hC
 simp only [WP,qd,DC.ac]
 refine zgo ?_;repeat' first|exact zt|apply zan|intro hc
 refine QA (ι:=Nat) (fun k=>k≤l.length) (fun k=>Yd [(0,.sl 1 (l.map V.int)),(1,.sl 1 (m.map V.int)),(5,.hd 0 0 (Qe (l.take k) m).length),(6,V.int k)] [(0,.buf true 1 ((Qe (l.take k) m).map V.int))] 1) (fun k=>l.length - k) 0 (by omega) (Qo [(0,1000)]) (zwg [(0,1000)]) fun k hk K' hL=>?_
 rcases hd:l.drop k with _|⟨x,r⟩
 ·have hkl:=Qj hd
  have e1:decide ((k:Int) < (((l.map V.int).length:Nat):Int)) = false:=by simp;omega
  have e3:l.take k = l:=zb hkl
  rw [e3]
  (have zx:=e1);refine zgo ?_;repeat' first|exact zt|apply zan|intro hc
  all_goals (refine aa9 _ _ rfl ?_ ?_<;>first|rfl|(simp;done))
 ·obtain ⟨hk',hget,hr⟩:=Qf hd
  have hw:=Qc (k:=k) (by omega)
  have e1:decide ((k:Int) < (((l.map V.int).length:Nat):Int)) = true:=by simp;omega
  have hcs:=jt (m:=m) hget
  have hol:(Qe (l.take k) m).length≤2 ^ 34:=by have:=Jr (l.take k) m;rw [zJ] at this;omega
  generalize Qe (l.take k) m = out at *
  rcases hx:m.contains x with _|_
  ·rw [hx] at hcs
   simp only [zj,if_false] at hcs
   (have zx:=za e1 (za hget (za hw hx)));refine zgo ?_;repeat' first|exact zt|apply zan|intro hc
   have hb:List.take out.length (List.map V.int out)++[V.int x] = (out++[x]).map V.int:=by
    rw [zb (by simp),zD];rfl
   have hln:out.length + 1 = (out++[x]).length:=by simp
   rw [hb,hln]
   refine hL _ (k + 1) (Qo [(0,17001)]) (by omega) (by omega) ?_
   rw [hcs]
   exact zwg [(0,17001)]
  ·rw [hx,if_pos rfl,zU] at hcs
   (have zx:=za e1 (za hget (za hw hx)));refine zgo ?_;repeat' first|exact zt|apply zan|intro hc
   refine hL _ (k + 1) (Qo []) (by omega) (by omega) ?_
   rw [hcs]
   exact zwg []
def al2 (out:List Int) (x:Int):Nat→Nat
 | 0=>0
 | k + 1=>if yT (out.getD k 0) < yT x then al2 out x k else k + 1
theorem al0 (out:List Int) (x:Int):∀ k,al2 out x k≤k
 | 0=>zi _
 | k + 1=>by
   rw [al2];split
   ·exact Nat.le_succ_of_le (al0 out x k)
   ·exact zi _
def ahE (out:List Int) (x:Int):List Int:=out.take (al2 out x out.length)++[x]++out.drop (al2 out x out.length)
theorem abT (out:List Int) (x:Int):(ahE out x).length = out.length + 1:=by
 have:=al0 out x out.length
 simp [ahE];omega
def jx (l:List Int):List Int:=l.foldl ahE []
theorem ajJ {l:List Int} {k:Nat} {x:Int} (h:l[k]? = some x):jx (l.take (k + 1)) = ahE (jx (l.take k)) x:=by
 rw [jx,jx,zy,h,List.foldl_append];rfl
theorem agP:∀ (l out:List Int),(l.foldl ahE out).length = out.length + l.length
 | [],out=>by simp
 | x :: r,out=>by rw [List.foldl_cons,agP r,abT];simp;omega
theorem ab5 (l:List Int):(jx l).length = l.length:=by rw [jx,agP];simp
def KU:=qd Proofs.Tryz.f127 [zhn 16,zhn 16]
def yj (Γ:Env) (f:Nat):Prop:=∀ (l:List Int) (hl:l.length < 2 ^ 34),EvW Γ f [.sl 1 (l.map V.int)] 1 ((jx l).map V.int)
theorem ae8 {Γ:Env} {f:Nat} (h:Has Γ.P f 48 KU.1.1.ac KU.1.2) (z0:XU Γ 170):yj Γ f:=by
 intro l hl
 refine Vu h (by simp) (by first|exact je _|exact jc _) fun C hC hm=>?_
 subst hC
 simp only [KU,qd,DC.ac]
 repeat' (first|(refine zsk ?_;intro K' hK)|(refine zrg ?_;intro K' hK)|refine zsp ?_|(refine zsc ?_ ?_<;>intro hc<;>first|exact znh|try simp only [znz] at hc)|simp (maxSteps:=1000000) only [go_sem]|(refine hK _ ?_;clear hK K')|apply zan|((first|apply Ju|apply QZ);(focus first|exact (z0 _).b))|exact zsq|fail)
 refine QA (ι:=Nat) (fun k=>k≤l.length) (fun k=>Yd [(0,.sl 1 (l.map V.int)),(3,.hd 0 0 (jx (l.take k)).length),(4,V.int k)] [(0,.buf true 1 ((jx (l.take k)).map V.int))] 1) (fun k=>l.length - k) 0 (by omega) (Qo [(0,1000)]) (zwg [(0,1000)]) fun k hk K' hL=>?_
 rcases hd:l.drop k with _|⟨x,r⟩
 ·have hkl:=Qj hd
  have e1:decide ((k:Int) < (((l.map V.int).length:Nat):Int)) = false:=by simp;omega
  have e3:l.take k = l:=zb hkl
  rw [e3]
  repeat' (first|(refine zsk ?_;intro K' hK)|(refine zrg ?_;intro K' hK)|refine zsp ?_|(refine zsc ?_ ?_<;>intro hc<;>first|exact znh|try simp only [znz] at hc)|simp (maxSteps:=1000000) only [go_sem,Yd,e1]|(refine hK _ ?_;clear hK K')|apply zan|((first|apply Ju|apply QZ);(focus first|exact (z0 _).b))|exact zsq|fail)
  all_goals (refine aa9 _ _ rfl ?_ ?_<;>first|rfl|(simp;done))
 ·obtain ⟨hk',hget,hr⟩:=Qf hd
  have hw:=Qc (k:=k) (by omega)
  have e1:decide ((k:Int) < (((l.map V.int).length:Nat):Int)) = true:=by simp;omega
  have hcs:=ajJ hget
  have hol:(jx (l.take k)).length = k:=by rw [ab5,zJ];omega
  generalize jx (l.take k) = out at *
  repeat' (first|(refine zsk ?_;intro K' hK)|(refine zrg ?_;intro K' hK)|refine zsp ?_|(refine zsc ?_ ?_<;>intro hc<;>first|exact znh|try simp only [znz] at hc)|simp (maxSteps:=1000000) only [go_sem,Yd,e1]|(refine hK _ ?_;clear hK K')|apply zan|((first|apply Ju|apply QZ);(focus first|exact (z0 _).b))|exact zsq|fail)
  refine Qp (ι:=Nat) (fun j=>j≤out.length∧al2 out x j = al2 out x out.length) (fun j=>[(5,V.int j)]) (fun j=>j) out.length (by omega) ⟨by omega,rfl⟩ zol zlt zet fun j hj K'' hL2=>?_
  obtain ⟨hj,hinv⟩:=hj
  simp only [ovT,Je,Nat.reduceEqDiff,reduceIte]
  rcases j with _|j
  ·have e2:decide (((0:Nat):Int) > 0) = false:=rfl
   have h0:al2 out x out.length = 0:=by rw [← hinv];rfl
   have hfin:V.sc (Value.int .i64 x) :: List.take (out.length - 0) (out.map V.int) = (ahE out x).map V.int:=by
    rw [ahE,h0,zb (by simp)];simp
   have hln:1 + (List.take (out.length - 0) (out.map V.int)).length = (ahE out x).length:=by
    rw [abT];simp;omega
   repeat' (first|(refine zsk ?_;intro K' hK)|(refine zrg ?_;intro K' hK)|refine zsp ?_|(refine zsc ?_ ?_<;>intro hc<;>first|exact znh|try simp only [znz] at hc)|simp (maxSteps:=1000000) only [go_sem,e2,hw,Int.toNat_natCast,zF,hget]|(refine hK _ ?_;clear hK K')|apply zan|((first|apply Ju|apply QZ);(focus first|exact (z0 _).b))|exact zsq|fail)
   all_goals first
    | (intro y hy;have h9:=List.mem_of_mem_take hy;simp only [kC] at h9;obtain ⟨z,_,rfl⟩:=h9;rfl)
    | (rw [hln];rw [abT];omega)
    | (rw [hln,hfin]
       refine hL _ (k + 1) (Qo [(0,37001)]) (by omega) (by omega) ?_
       rw [hcs]
       exact zwg [(0,37001)])
  ·have e2:decide (((j + 1:Nat):Int) > 0) = true:=zl (by omega)
   have hwj:IntKind.i64.wrap (((j + 1:Nat):Int) - 1) = (j:Int):=by rw [Q9 (by omega) (by omega)];omega
   obtain ⟨y,hy⟩:∃ y,out[j]? = some y:=⟨out[j]'(by omega),ze (by omega)⟩
   have hyd:out.getD j 0 = y:=by rw [zq,hy];rfl
   rw [al2,hyd] at hinv
   have hyt:(List.take out.length (out.map V.int))[j]? = some (V.int y):=by rw [zb (by simp),zF,hy];rfl
   rcases hlt:decide (yT y < yT x) with _|_
   ·rw [if_neg (of_decide_eq_false hlt)] at hinv
    have hA:List.take (j + 1 - 0) (out.map V.int) = (out.take (j + 1)).map V.int:=by rw [Nat.sub_zero,List.map_take]
    have hB:List.take (out.length - (j + 1)) (List.drop (j + 1) (out.map V.int)) = (out.drop (j + 1)).map V.int:=by
     rw [zb (by simp),List.map_drop]
    have hC:List.take ((out.take (j + 1)).map V.int).length ((out.take (j + 1)).map V.int) = (out.take (j + 1)).map V.int:=zR
    have hD:List.take (((out.take (j + 1)).map V.int).length + 1) ((out.take (j + 1)).map V.int++[V.sc (Value.int .i64 x)]) = (out.take (j + 1)++[x]).map V.int:=by
     rw [zb (by simp),zD];rfl
    have hfin:(out.take (j + 1)++[x]).map V.int++(out.drop (j + 1)).map V.int = (ahE out x).map V.int:=by
     rw [ahE,← hinv,zD,zD,zD]
    have hln:((out.take (j + 1)).map V.int).length + 1 + ((out.drop (j + 1)).map V.int).length = (ahE out x).length:=by
     rw [abT];simp;omega
    repeat' (first|(refine zsk ?_;intro K' hK)|(refine zrg ?_;intro K' hK)|refine zsp ?_|(refine zsc ?_ ?_<;>intro hc<;>first|exact znh|try simp only [znz] at hc)|simp (maxSteps:=1000000) only [go_sem,e2,hw,hwj,Int.toNat_natCast,zF,hget,hy,hlt]|(refine hK _ ?_;clear hK K')|apply zan|((first|apply Ju|apply QZ);(focus first|exact (z0 _).b))|exact zsq|fail)
    all_goals first
     | (intro z hz;rw [hA] at hz;simp only [kC] at hz;obtain ⟨w,_,rfl⟩:=hz;rfl)
     | (intro z hz;rw [hB] at hz;simp only [kC] at hz;obtain ⟨w,_,rfl⟩:=hz;rfl)
     | (simp;done)
     | (simp;omega)
     | (rw [hA,hB,hln,hC,hD,hfin]
        refine hL _ (k + 1) (Qo [(0,37001)]) (by omega) (by omega) ?_
        rw [hcs]
        exact zwg [(0,37001)])
   ·repeat' (first|(refine zsk ?_;intro K' hK)|(refine zrg ?_;intro K' hK)|refine zsp ?_|(refine zsc ?_ ?_<;>intro hc<;>first|exact znh|try simp only [znz] at hc)|simp (maxSteps:=1000000) only [go_sem,e2,hw,hwj,Int.toNat_natCast,zF,hget,hy,hlt]|(refine hK _ ?_;clear hK K')|apply zan|((first|apply Ju|apply QZ);(focus first|exact (z0 _).b))|exact zsq|fail)
    rw [if_pos (zY hlt)] at hinv
    all_goals exact hL2 _ j zet ⟨by omega,hinv⟩ (by omega) zoe
def ajv (c:Int):Bool:=decide (c < 1) || decide (c > 16)
end Av
end
section
namespace Av
open Go
theorem Good.adopt {C:Ctx} {w:World} {Z:Nat→Nat→Prop} {μ:Nat→Option Cn} {o:Nat→Option Ob} (h:Good C w Z μ o) {x i n sz:Nat} {wr:Bool} {cells:List V}
  (ho:o x = some (.box wr cells)) (hi:cells[i]? = some (.sc (.slice none 0 0))) (hn:μ n = none) (hm:C.m≤n) :
  Good C w Z (upd μ n (some { block:=0,void:=true })) (upd (upd o x (some (.box wr (cells.set i (.hd n 0 0))))) n (some (.buf true sz []))):=by
 have hon:=h.free hn
 have hxn:x≠n:=by grind
 have hmu:=Ux (c:={ block:=0,void:=true }) hn
 have old:∀ a y,a≠n→upd (upd o x (some (.box wr (cells.set i (.hd n 0 0))))) n (some (.buf true sz [])) a = some y→∃ z c,o a = some z∧μ a = some c∧(y.live c↔z.live c)∧j7 w Z (upd μ n (some { block:=0,void:=true })) c y∧(z.live c→c.block < w.heap.size∧(C.w0.heap.size≤c.block∨C.F c.block)):=by
  intro a y han hy
  rw [QC _ _ han] at hy
  by_cases hax:a = x
  ·subst hax
   rw [Qh] at hy;cases hy
   obtain ⟨c,hc,⟨h1,⟨cs,ty,h2,h3,h4⟩,h5⟩,hl⟩:=h.ob _ _ ho
   refine ⟨_,c,ho,hc,Iff.rfl,⟨h1,⟨cs,ty,h2,by simpa using h3,fun j hj hj'=>?_⟩,h5⟩,hl⟩
   have hj2:j < cells.length:=by simpa using hj
   have h6:=h4 j hj2 hj'
   refine ⟨?_,h6.2⟩
   by_cases hji:j = i
   ·subst hji
    rw [Zj]
    have h7:cells[j] = .sc (.slice none 0 0):=by grind
    have h8:=h6.1
    rw [h7] at h8
    generalize cs[j] = v at h8
    cases h8
    exact .hd (Qh _ _ _) (by simp [Hdr])
   ·rw [k8 (fun e=>hji e.symm)]
    exact h6.1.mono (fun _ _ _=>rfl) (fun _ _ h=>h) hmu
  ·rw [QC _ _ hax] at hy
   obtain ⟨c,hc,hok,hl⟩:=h.ob a y hy
   exact ⟨y,c,hy,hc,Iff.rfl,hok.mono (fun _ _ _=>rfl) (fun _ _ h=>h) hmu (fun _=>rfl) (fun _ _ h=>h),hl⟩
 refine ⟨fun a y hy=>?_,fun a b y z c d hab hy hz hc hd lc ld=>?_,h.zlt,h.grow,h.frame,h.zsub,h.zsup,h.zkeep,fun k hk=>?_,h.oo⟩
 ·by_cases han:a = n
  ·subst han
   rw [Qh] at hy;cases hy
   exact ⟨_,Qh _ _ _,⟨rfl,fun hv=>by cases hv⟩,fun hl=>by cases hl⟩
  ·obtain ⟨z,c,h1,h2,h3,h4,h5⟩:=old a y han hy
   exact ⟨c,hmu a c h2,h4,fun hl=>h5 (h3.1 hl)⟩
 ·by_cases han:a = n
  ·subst han
   rw [Qh] at hy hc;cases hy;cases hc;cases lc
  by_cases hbn:b = n
  ·subst hbn
   rw [Qh] at hz hd;cases hz;cases hd;cases ld
  obtain ⟨y',c',h1,h2,h3,_⟩:=old a y han hy
  obtain ⟨z',d',g1,g2,g3,_⟩:=old b z hbn hz
  have e1:=hmu a c' h2;rw [hc] at e1;cases e1
  have e2:=hmu b d' g2;rw [hd] at e2;cases e2
  exact h.sep a b y' z' c d hab h1 g1 h2 g2 (h3.1 lc) (g3.1 ld)
 ·rw [QC _ _ (by omega)];exact h.fix k hk
section
variable {C:Ctx} {nt:Nat} {s:St} {K:St→Prop} {E:Nat→St→Prop} {R:St→Prop}
theorem Ug {c:AC} (x i sz:Nat) {wr:Bool} {cells:List V} (ho:s.o x = some (.box wr cells)) (hi:cells[i]? = some (.sc (.slice none 0 0)))
  (h:AWp C nt c { t:=s.t,o:=upd (upd s.o x (some (.box wr (cells.set i (.hd s.n 0 0))))) s.n (some (.buf true sz [])),n:=s.n + 1 } K E R):AWp C nt c s K E R:=by
 intro code hc a w hs
 obtain ⟨Z,μ,hg,ht,hf,hm,hd,hn⟩:=hs
 refine h code hc a w ⟨Z,_,hg.adopt ho hi (hf _ (zi _)) hm,fun j=>(ht j).mono (fun _ _ _=>rfl) (fun _ _ h=>h) (Ux (hf _ (zi _))),fun y hy=>?_,by grind,hd,hn⟩
 grind [QC]
end
end Av
end
section
namespace Av
open Go
theorem Good.move {C:Ctx} {w:World} {Z:Nat→Nat→Prop} {μ:Nat→Option Cn} {o:Nat→Option Ob} (h:Good C w Z μ o) {x i a n off len sz:Nat} {wr wr2:Bool} {cells xs:List V} {c:Cn}
  (ho:o x = some (.box wr cells)) (hi:cells[i]? = some (.hd a off len)) (ha:o a = some (.buf wr2 sz xs)) (hc:μ a = some c) (hn:μ n = none) (hm:C.m≤n) :
  Good C w Z (upd μ n (some c)) (upd (upd (upd o a (some .dead)) x (some (.box wr (cells.set i (.hd n off len))))) n (some (.buf wr2 sz xs))):=by
 have hon:=h.free hn
 have hxn:x≠n:=by grind
 have han:a≠n:=by grind
 have hxa:x≠a:=by grind
 have hmu:=Ux (c:=c) hn
 have old:∀ b y,upd (upd (upd o a (some .dead)) x (some (.box wr (cells.set i (.hd n off len))))) n (some (.buf wr2 sz xs)) b = some y →
   (b = a∧y = .dead)∨∃ z d,o (if b = n then a else b) = some z∧μ (if b = n then a else b) = some d∧upd μ n (some c) b = some d∧(y.live d↔z.live d)∧j7 w Z (upd μ n (some c)) d y∧(z.live d→d.block < w.heap.size∧(C.w0.heap.size≤d.block∨C.F d.block))∧(b≠a):=by
  intro b y hy
  by_cases hbn:b = n
  ·subst hbn
   rw [Qh] at hy;cases hy
   obtain ⟨d,hd,hok,hl⟩:=h.ob _ _ ha
   rw [hc] at hd;cases hd
   exact .inr ⟨_,c,by grind,by grind,Qh _ _ _,Iff.rfl,hok.mono (fun _ _ _=>rfl) (fun _ _ h=>h) hmu (fun _=>rfl) (fun _ _ h=>h),hl,fun e=>han e.symm⟩
  ·rw [QC _ _ hbn] at hy
   rw [if_neg hbn,QC _ _ hbn]
   by_cases hbx:b = x
   ·subst hbx
    rw [Qh] at hy;cases hy
    obtain ⟨d,hd,⟨h1,⟨cs,ty,h2,h3,h4⟩,h5⟩,hl⟩:=h.ob _ _ ho
    refine .inr ⟨_,d,ho,hd,hd,Iff.rfl,⟨h1,⟨cs,ty,h2,by simpa using h3,fun j hj hj'=>?_⟩,h5⟩,hl,hxa⟩
    have hj2:j < cells.length:=by simpa using hj
    have h6:=h4 j hj2 hj'
    refine ⟨?_,h6.2⟩
    by_cases hji:j = i
    ·subst hji
     rw [Zj]
     have h7:cells[j] = .hd a off len:=by grind
     have h8:=h6.1
     rw [h7] at h8
     generalize cs[j] = v at h8
     cases h8
     rename_i c' hc' hv
     rw [hc] at hc';cases hc'
     exact .hd (Qh _ _ _) hv
    ·rw [k8 (fun e=>hji e.symm)]
     exact h6.1.mono (fun _ _ _=>rfl) (fun _ _ h=>h) hmu
   ·rw [QC _ _ hbx] at hy
    by_cases hba:b = a
    ·grind [Qh]
    ·rw [QC _ _ hba] at hy
     obtain ⟨d,hd,hok,hl⟩:=h.ob b y hy
     exact .inr ⟨y,d,hy,hd,hd,Iff.rfl,hok.mono (fun _ _ _=>rfl) (fun _ _ h=>h) hmu (fun _=>rfl) (fun _ _ h=>h),hl,hba⟩
 refine ⟨fun b y hy=>?_,fun b d y z e f hbd hy hz he hf lb ld=>?_,h.zlt,h.grow,h.frame,h.zsub,h.zsup,h.zkeep,fun k hk=>?_,h.oo⟩
 ·rcases old b y hy with ⟨rfl,rfl⟩|⟨z,d,h1,h2,h3,h4,h5,h6,_⟩
  ·exact ⟨c,hmu _ _ hc,trivial,fun hl=>hl.elim⟩
  grind
 ·rcases old b y hy with ⟨rfl,rfl⟩|⟨y',e',h1,h2,h3,h4,_,_,h7⟩
  ·exact lb.elim
  ·rcases old d z hz with ⟨rfl,rfl⟩|⟨z',f',g1,g2,g3,g4,_,_,g7⟩
   ·exact ld.elim
   ·rw [he] at h3;cases h3
    rw [hf] at g3;cases g3
    refine h.sep _ _ y' z' _ _ ?_ h1 g1 h2 g2 (h4.1 lb) (g4.1 ld)
    grind
 ·rw [QC _ _ (by omega)];exact h.fix k hk
section
variable {C:Ctx} {nt:Nat} {s:St} {K:St→Prop} {E:Nat→St→Prop} {R:St→Prop}
theorem ajC {c:AC} (x i a:Nat) {off len sz:Nat} {wr wr2:Bool} {cells xs:List V} (ho:s.o x = some (.box wr cells)) (hi:cells[i]? = some (.hd a off len)) (ha:s.o a = some (.buf wr2 sz xs))
  (h:AWp C nt c { t:=s.t,o:=upd (upd (upd s.o a (some .dead)) x (some (.box wr (cells.set i (.hd s.n off len))))) s.n (some (.buf wr2 sz xs)),n:=s.n + 1 } K E R):AWp C nt c s K E R:=by
 intro code hc u w hs
 obtain ⟨Z,μ,hg,ht,hf,hm,hd,hn⟩:=hs
 obtain ⟨d,hmu,_⟩:=hg.ob _ _ ha
 refine h code hc u w ⟨Z,_,hg.move ho hi ha hmu (hf _ (zi _)) hm,fun j=>(ht j).mono (fun _ _ _=>rfl) (fun _ _ h=>h) (Ux (hf _ (zi _))),fun y hy=>?_,by grind,hd,hn⟩
 grind [QC]
end
def aqf (i j:Nat) (xs ys:List V):Ob:=.box true [.hd i 0 xs.length,.hd j 0 ys.length]
structure EvT (Γ:Env) (f:FuncId) (args:List V) (sx sy:Nat) (xs ys:List V) (res:V) (xs2 ys2:List V):Prop where
 ev:Ev Γ f (.ptr 0 0 :: args) [aqf 1 2 xs ys,.buf true sx xs,.buf true sy ys] res [aqf 3 4 xs2 ys2,.dead,.dead,.buf true sx xs2,.buf true sy ys2]
 cl:res.closed
theorem arF {Γ:Env} {b:Nat} {r:List AO} {s:St} {d:Option Nat} {f:FuncId} {acts:List V} {res:V} {K:St→Prop} {a p q sx sy n m:Nat} {xs ys xs2 ys2:List V}
  (ha:s.o a = some (.box true [.hd p 0 n,.hd q 0 m])) (hp:s.o p = some (.buf true sx xs)) (hq:s.o q = some (.buf true sy ys))
  (h:EvT Γ f (JI s.o acts) sx sy xs ys res xs2 ys2) (hn:n = xs.length) (hm:m = ys.length) (hc:Qu s.o (some []) acts) (h1:a≠p) (h2:a≠q) (h3:p≠q) (hab:a < b) (hpb:p < b) (hqb:q < b)
  (hk:Vo Γ (b + KK) r { t:=(s.put d res).t,o:=upd (upd (upd (upd (upd s.o (b + 1) (some (.buf true sy ys2))) b (some (.buf true sx xs2))) q (some .dead)) p (some .dead)) a (some (.box true [.hd b 0 xs2.length,.hd (b + 1) 0 ys2.length])),n:=s.n } K):awC Γ b r s d f (.ptr a 0 :: acts) K:=by
 subst hn;subst hm
 refine Yk ⟨_,_,_,_,[a,p,q],some [],h.ev,⟨?_,by grind [J6]⟩,⟨⟨_,ha,?_⟩,⟨_,hp,rfl,rfl⟩,⟨_,hq,rfl,rfl⟩,trivial⟩,by simp [h1,h2,h3],?_,by simp,by simp [KK],fun h=>by simp at h,?_⟩
 ·simp [conv]
 ·show Qz _ _ _ _ _
  simp [Qz,conv]
 ·grind
 ·rw [Jq _ _ h.cl]
  simp only [Ys,YB,Ob.ren,aqf,Kz,V.ren,sig,aqd]
  exact hk
theorem aoJ {Γ:Env} {b:Nat} {r:List AO} {s:St} {d:Option Nat} {f:FuncId} {x:V} {acts args:List V} {okf:Option (List Nat)→Prop} {res:V} {K:St→Prop} {a p q sx sy n m:Nat} {xs ys xs2 ys2:List V}
  (ha:s.o a = some (.box true [.hd p 0 n,.hd q 0 m])) (hp:s.o p = some (.buf true sx xs)) (hq:s.o q = some (.buf true sy ys)) (h:EvT Γ f args sx sy xs ys res xs2 ys2)
  (hd:(decide (a≠p∧a≠q∧p≠q∧a < b∧p < b∧q < b)) = true) (hn:n = xs.length) (hm:m = ys.length) (hc:Qu s.o (some []) acts)
  (hk:Vo Γ (b + KK) r { t:=(s.put d res).t,o:=upd (upd (upd (upd (upd s.o (b + 1) (some (.buf true sy ys2))) b (some (.buf true sx xs2))) q (some .dead)) p (some .dead)) a (some (.box true [.hd b 0 xs2.length,.hd (b + 1) 0 ys2.length])),n:=s.n } K):ahI Γ b r s d f (.ptr a 0 :: acts) (x :: args) okf K:=by
 intro h1 _
 simp only [JI,ke] at h1
 obtain ⟨_,rfl⟩:=h1
 obtain ⟨e1,e2,e3,e4,e5,e6⟩:=zY hd
 grind [arF]
theorem acL {Γ:Env} {f:FuncId} {nt:Nat} {ac:AC} {rs:List V8} (hb:Has Γ.P f nt ac rs) {args xs ys xs2 ys2:List V} {sx sy:Nat} {res:V} (ha:args.length + 1≤nt) (hr:res.closed)
  (h:∀ C:Ctx,C.env = Γ→C.m = 3→AWp C nt ac { t:=(YL (.ptr 0 0 :: args) []).t,o:=abq [(0,.box true [.hd 3 0 xs.length,.hd 4 0 ys.length]),(1,.dead),(2,.dead),(3,.buf true sx xs),(4,.buf true sy ys)],n:=5 }
    (xP 3 rs res [aqf 3 4 xs2 ys2,.dead,.dead,.buf true sx xs2,.buf true sy ys2]) (fun _ _=>False) (xP 3 rs res [aqf 3 4 xs2 ys2,.dead,.dead,.buf true sx xs2,.buf true sy ys2])):EvT Γ f args sx sy xs ys res xs2 ys2:=by
 refine ⟨YD hb (by simpa using ha) fun C hC hm=>?_,hr⟩
 refine ajC 0 0 1 (by rfl) (by rfl) (by rfl) ?_
 refine ajC 0 1 2 (by rfl) (by rfl) (by rfl) ?_
 have e:=h C hC hm
 refine (congrArg (fun s=>AWp C nt ac s _ _ _) ?_).mp e
 congr 1
 funext k
 match k with
 | 0=>rfl
 | 1=>rfl
 | 2=>rfl
 | 3=>rfl
 | 4=>rfl
 | k + 5=>simp [upd,abq,YL]
theorem Ue {rs:List V8} {res:V} {s:St} {xs ys xs' ys':List V} {sx sy:Nat} (i j n m:Nat) (vs:List V) (h:vn s rs = some vs) (hc:conv s.o [0,1,2,i,j] none (ahG vs) res)
  (h0:s.o 0 = some (.box true [.hd i 0 n,.hd j 0 m])) (hi:s.o i = some (.buf true sx xs')) (hj:s.o j = some (.buf true sy ys'))
  (hi3:3≤i) (hj3:3≤j) (hij:i≠j) (h1:∃ x,s.o 1 = some x) (h2:∃ x,s.o 2 = some x) (hx:xs' = xs) (hy:ys' = ys) (hn:n = xs.length) (hm:m = ys.length):xP 3 rs res [aqf 3 4 xs ys,.dead,.dead,.buf true sx xs,.buf true sy ys] s:=by
 subst hn;subst hm;subst hx;subst hy
 obtain ⟨x1,e1⟩:=h1
 obtain ⟨x2,e2⟩:=h2
 refine Wb rs vs _ h ⟨[0,1,2,i,j],none,hc,⟨⟨_,h0,fun h=>h,?_⟩,⟨_,e1,?_⟩,⟨_,e2,?_⟩,⟨_,hi,fun h=>h,rfl,rfl⟩,⟨_,hj,fun h=>h,rfl,rfl⟩,trivial⟩,?_,rfl⟩
 ·simp [Qz,conv]
 ·simp [aoq]
 ·simp [aoq]
 ·simp;omega
end Av
end
noncomputable section
set_option maxRecDepth 10000
set_option maxHeartbeats 4000000
namespace Av
open Go
attribute [local irreducible] AWp Vo Ky jA awS awC aad awQ aaN QL Vq vQ awR Vz awB okR js ris
def Ye:List UInt8→UInt8×List UInt8
 | []=>(0,[])
 | c :: r=>if c = 45∨c = 33∨c = 43 then (c,r) else (0,c :: r)
abbrev akJ:=List Int×List Int
def doG (g:UInt8) (set:List Int) (p:akJ):akJ :=
 if g = 45 then (Qe p.1 set,p.2)
 else if g = 33 then (Qe p.1 set,p.2++set)
 else if g = 43 then (Qe p.1 set++Qe p.1 (Qe p.1 set),p.2)
 else (p.1++Qe (Qe set p.1) p.2,p.2)
def amU:List UInt8:=[64,115,116,114,101,110,103,116,104]
def wordOk (w:List UInt8):Bool:=w == amU || (vc (Ye w).2).2
def doR (w:List UInt8) (p:akJ):akJ:=if w == amU then (jx p.1,p.2) else doG (Ye w).1 (vc (Ye w).2).1 p
def goP:List (List UInt8)→Nat→akJ→List Int×Int×Int
 | [],_,p=>(p.1,0,0)
 | w :: r,i,p=>if wordOk w = true then goP r (i + 1) (doR w p) else ([],((i + 1:Nat):Int),17)
def Xm (s:List UInt8):List Int×Int×Int :=
 if s.length > 8192 then ([],0,3) else if s = [] then ([],0,0) else if (QK 58 s).length > 200 then ([],0,3) else goP (QK 58 s) 0 ([],[])
theorem wI (L:List (List UInt8)):(YM L Qq).Sublist (Qq.map Qm.code):=(kL (l:=Qq)).map _
theorem an0:(Qq.map Qm.code).Nodup:=by decide
theorem anZ:∀ x∈Qq.map Qm.code,1≤x∧x≤16:=by decide
theorem ala (s:List UInt8):(vc s).1.Nodup:=by
 unfold vc;split
 ·exact an0.sublist (wI _)
 ·exact zT
theorem ao5 (s:List UInt8):∀ x∈(vc s).1,1≤x∧x≤16:=by
 unfold vc;split
 ·exact fun x hx=>anZ x ((wI _).subset hx)
 ·intro x hx;cases hx
theorem aeK (s:List UInt8):(vc s).1.length≤16:=by
 unfold vc;split
 ·have:=(wI (QK 43 s)).length_le
  have e:(Qq.map Qm.code).length = 16:=by decide
  show (YM (QK 43 s) Qq).length≤16
  omega
 ·simp
theorem JF {x:Int} {l m:List Int}:x∈Qe l m↔x∈l∧x ∉ m:=by simp [Qe]
theorem aer (p:akJ) (m:List Int):(Qe p.1 m++Qe p.1 (Qe p.1 m)).Perm p.1:=by
 have hp:Qe p.1 (Qe p.1 m) = p.1.filter fun x=>m.contains x:=by
  unfold Qe
  refine List.filter_congr fun x hx=>?_
  cases hm:m.contains x<;>simp_all
 rw [hp,Qe]
 have:∀ l:List Int,((l.filter fun x=>!m.contains x)++(l.filter fun x=>m.contains x)).Perm l:=by
  intro l;induction l with
  | nil=>exact .refl _
  | cons x r ih =>
    cases hx:m.contains x
    ·simp only [List.filter_cons,hx,kE,if_true,zj,if_false,List.cons_append];exact ih.cons x
    ·simp only [List.filter_cons,hx,kR,if_true,zj,if_false];exact kY.trans (ih.cons x)
 exact this _
theorem ami (w:List UInt8) (p:akJ):(doR w p).1.length≤p.1.length + 16∧(doR w p).2.length≤p.2.length + 16:=by
 have h:=aeK (Ye w).2
 unfold doR;split
 ·simp [ab5]
 ·unfold doG
  have a:=Jr p.1 (vc (Ye w).2).1
  have b:=Jr (Qe (vc (Ye w).2).1 p.1) p.2
  have c:=Jr (vc (Ye w).2).1 p.1
  have part:(Qe p.1 (vc (Ye w).2).1++Qe p.1 (Qe p.1 (vc (Ye w).2).1)).length≤p.1.length:=Nat.le_of_eq (aer _ _).length_eq
  split
  ·simp;omega
  ·split
   ·simp;omega
   ·split
    ·simp only;omega
    ·simp;omega
theorem alZ (out:List Int) (x:Int):(ahE out x).Perm (x :: out):=by
 unfold ahE
 rw [zP,List.singleton_append]
 exact kY.trans (by rw [zZ])
theorem aem:∀ (l out:List Int),(l.foldl ahE out).Perm (out++l)
 | [],out=>by simp
 | x :: r,out=>by
   rw [List.foldl_cons]
   refine (aem r _).trans ?_
   refine ((alZ out x).append_right r).trans ?_
   rw [List.cons_append]
   exact kY.symm
theorem ajK (l:List Int):(jx l).Perm l:=by
 have:=aem l []
 simpa [jx] using this
structure ahj (p:akJ):Prop where
 nd:p.1.Nodup
 rg:∀ x∈p.1,1≤x∧x≤16
 dj:∀ x∈p.1,x ∉ p.2
theorem aoG (w:List UInt8) (p:akJ) (h:ahj p):ahj (doR w p):=by
 have nd:=ala (Ye w).2
 have rg:=ao5 (Ye w).2
 unfold doR;split
 ·have hp:=ajK p.1
  exact ⟨hp.nodup_iff.2 h.nd,fun x hx=>h.rg x (hp.mem_iff.1 hx),fun x hx=>h.dj x (hp.mem_iff.1 hx)⟩
 ·generalize (vc (Ye w).2).1 = m at *
  unfold doG
  split
  ·exact ⟨h.nd.sublist kL,fun x hx=>h.rg x (JF.1 hx).1,fun x hx=>h.dj x (JF.1 hx).1⟩
  ·split
   ·refine ⟨h.nd.sublist kL,fun x hx=>h.rg x (JF.1 hx).1,fun x hx hk=>?_⟩
    have hx:=JF.1 hx
    rcases zW.1 hk with hk|hk
    ·exact h.dj x hx.1 hk
    ·exact hx.2 hk
   ·split
    ·have hp:=aer p m
     exact ⟨hp.nodup_iff.2 h.nd,fun x hx=>h.rg x (hp.mem_iff.1 hx),fun x hx=>h.dj x (hp.mem_iff.1 hx)⟩
    ·refine ⟨?_,fun x hx=>?_,fun x hx=>?_⟩
     ·refine kj.2 ⟨h.nd,(nd.sublist kL).sublist kL,fun a ha b hb e=>?_⟩
      subst e
      exact (JF.1 (JF.1 hb).1).2 ha
     ·rcases zW.1 hx with hx|hx
      ·exact h.rg x hx
      ·exact rg x (JF.1 (JF.1 hx).1).1
     ·rcases zW.1 hx with hx|hx
      ·exact h.dj x hx
      ·exact (JF.1 hx).2
theorem ali:ahj ([],[]):=⟨zT,fun x h=>by simp at h,fun x h=>by simp at h⟩
theorem alM {l:List Int} (hn:l.Nodup) (hr:∀ x∈l,1≤x∧x≤16):l.length≤16:=by
 have hs:l ⊆ Qq.map Qm.code:=by
  intro x hx
  have h:=hr x hx
  have e:Qq.map Qm.code = [1,2,3,4,5,6,7,8,9,10,11,12,13,14,15,16]:=by decide
  rw [e];simp;omega
 have:=hn.length_le_of_subset hs
 have e:(Qq.map Qm.code).length = 16:=by decide
 omega
theorem ahj.len {p:akJ} (h:ahj p):p.1.length≤16:=alM h.nd h.rg
theorem aai (c:UInt8):∀ (s cur t:List UInt8),J0 c cur (s++c :: t) = J0 c cur s++J0 c [] t
 | [],cur,t=>by simp [J0]
 | x :: r,cur,t=>by
   rw [List.cons_append,J0,J0]
   split
   ·rw [aai c r [] t];rfl
   ·exact aai c r _ t
theorem ad2 (c:UInt8) (s t:List UInt8):QK c (s++[c]++t) = QK c s++QK c t:=by
 rw [zP,List.singleton_append];exact aai c s [] t
theorem ab4 (c:UInt8):∀ (s cur:List UInt8),c ∉ s→J0 c cur s = [cur++s]
 | [],cur,_=>by simp [J0]
 | x :: r,cur,h=>by
   simp only [zn,not_or] at h
   rw [J0,if_neg (fun e=>h.1 e.symm),ab4 c r _ h.2];simp
end Av
end
section
namespace Av
open Go
structure EvL (Γ:Env) (f:FuncId) (args:List V) (sz:Nat) (xs:List V) (res:V) (ys:List V):Prop where
 ev:Ev Γ f (.hd 0 0 xs.length :: args) [.buf true sz xs] res [.buf true sz ys]
 cl:res.closed
theorem arI {Γ:Env} {b:Nat} {r:List AO} {s:St} {d:Option Nat} {f:FuncId} {acts:List V} {res:V} {K:St→Prop} {a sz n:Nat} {xs ys:List V}
  (ha:s.o a = some (.buf true sz xs)) (h:EvL Γ f (JI s.o acts) sz xs res ys) (hn:n = xs.length) (hc:Qu s.o (some []) acts) (hab:a < b)
  (hk:Vo Γ (b + KK) r { t:=(s.put d res).t,o:=upd s.o a (some (.buf true sz ys)),n:=s.n } K):awC Γ b r s d f (.hd a 0 n :: acts) K:=by
 subst hn
 refine Yk ⟨_,_,_,_,[a],some [],h.ev,⟨?_,by grind [J6]⟩,⟨⟨_,ha,rfl,rfl⟩,trivial⟩,by simp,?_,by simp,by simp [KK],fun h=>by simp at h,?_⟩
 ·simp [conv]
 ·grind
 ·rw [Jq _ _ h.cl]
  simp only [Ys,YB,Ob.ren,aqd]
  exact hk
theorem aoK {Γ:Env} {b:Nat} {r:List AO} {s:St} {d:Option Nat} {f:FuncId} {x:V} {acts args:List V} {okf:Option (List Nat)→Prop} {res:V} {K:St→Prop} {a sz n:Nat} {xs ys:List V}
  (ha:s.o a = some (.buf true sz xs)) (h:EvL Γ f args sz xs res ys) (hab:decide (a < b) = true) (hn:n = xs.length) (hc:Qu s.o (some []) acts)
  (hk:Vo Γ (b + KK) r { t:=(s.put d res).t,o:=upd s.o a (some (.buf true sz ys)),n:=s.n } K):ahI Γ b r s d f (.hd a 0 n :: acts) (x :: args) okf K:=by
 intro h1 _
 simp only [JI,ke] at h1
 obtain ⟨_,rfl⟩:=h1
 exact arI ha h hn hc (zY hab) hk
theorem wG {Γ:Env} {f:FuncId} {nt:Nat} {ac:AC} {rs:List V8} (hb:Has Γ.P f nt ac rs) {args xs ys:List V} {sz:Nat} {res:V} (ha:args.length + 1≤nt) (hr:res.closed)
  (h:∀ C:Ctx,C.env = Γ→C.m = 1→AWp C nt ac { t:=(YL (.hd 0 0 xs.length :: args) []).t,o:=abq [(0,.buf true sz xs)],n:=1 } (xP 1 rs res [.buf true sz ys]) (fun _ _=>False) (xP 1 rs res [.buf true sz ys])):EvL Γ f args sz xs res ys:=by
 refine ⟨YD hb (by simpa using ha) fun C hC hm=>?_,hr⟩
 refine (congrArg (fun s=>AWp C nt ac s _ _ _) ?_).mp (h C hC hm)
 simp only [YL]
 congr 1
 funext k
 match k with
 | 0=>rfl
 | k + 1=>simp [abq]
theorem aba {rs:List V8} {res:V} {s:St} {xs ys:List V} {sz:Nat} (vs:List V) (h:vn s rs = some vs) (ho:s.o 0 = some (.buf true sz xs)) (hc:conv s.o [0] none (ahG vs) res) (hx:xs = ys):xP 1 rs res [.buf true sz ys] s:=by
 subst hx
 exact Wb rs vs _ h ⟨[0],none,hc,⟨⟨_,ho,fun h=>h,rfl,rfl⟩,trivial⟩,by simp,rfl⟩
@[go_sem] theorem apM (l:List Int):(∀ y∈l.map V.int,y.cells.length = 1) = True:=eq_true (by intro y hy;simp only [kC] at hy;obtain ⟨x,_,rfl⟩:=hy;rfl)
@[go_sem] theorem apL (l:List (List UInt8)):(∀ y∈l.map V.str,y.cells.length = 1) = True:=eq_true (by intro y hy;simp only [kC] at hy;obtain ⟨x,_,rfl⟩:=hy;rfl)
end Av
end
noncomputable section
set_option maxRecDepth 10000
set_option maxHeartbeats 4000000
namespace Av
open Go
attribute [local irreducible] AWp Vo Ky jA awS awC aad awQ aaN QL Vq vQ awR Vz awB okR js ris
theorem aoS (c:UInt8) (n:Nat) (h:c≠UInt8.ofNat n):(((c.toNat:Nat):Int) == (n:Int)) = false:=by
 simp only [kM,ne_eq]
 intro e
 apply h
 have:c.toNat = n:=by omega
 rw [← this];simp
theorem aeF {α β:Type} (f:α→β) (l:List α):(l.map f).take l.length = l.map f:=by rw [zb (by simp)]
theorem U6 (c:UInt8) (r:List UInt8):Ye (c :: r) = if c = 45∨c = 33∨c = 43 then (c,r) else (0,c :: r):=rfl
theorem adY {w:List UInt8} (h:w≠amU):(w == amU) = false:=by simpa using h
def WQ:=qd Proofs.Tryz.f156 [⟨fun _=>false,[4,9,10,14,15],.one 0 (.one 1 (.one 2 (.one 3 (.one 5 (.one 6 (.one 7 (.one 8 (.one 11 (.one 12 (.one 13 (.or 4 (.or 9 (.or 10 (.one 14 (.one 15 (.one 16 (.one 17 (.one 18 (.one 19 (.done))))))) (.or 14 (.one 10 (.one 15 (.one 16 (.one 17 (.one 18 (.one 19 (.done))))))) (.done))) (.or 14 (.one 9 (.one 10 (.one 15 (.one 16 (.one 17 (.one 18 (.one 19 (.done)))))))) (.done))) (.or 9 (.or 4 (.or 10 (.one 14 (.one 15 (.one 16 (.one 17 (.one 18 (.one 19 (.done))))))) (.or 14 (.one 10 (.one 15 (.one 16 (.one 17 (.one 18 (.one 19 (.done))))))) (.done))) (.or 10 (.or 4 (.one 14 (.one 15 (.one 16 (.one 17 (.one 18 (.one 19 (.done))))))) (.or 14 (.or 4 (.one 15 (.one 16 (.one 17 (.one 18 (.one 19 (.done)))))) (.or 15 (.one 4 (.one 16 (.one 17 (.one 18 (.one 19 (.done)))))) (.done))) (.done))) (.or 14 (.or 4 (.one 10 (.one 15 (.one 16 (.one 17 (.one 18 (.one 19 (.done))))))) (.or 10 (.or 4 (.one 15 (.one 16 (.one 17 (.one 18 (.one 19 (.done)))))) (.or 15 (.one 4 (.one 16 (.one 17 (.one 18 (.one 19 (.done)))))) (.done))) (.done))) (.done)))) (.or 14 (.or 4 (.one 9 (.one 10 (.one 15 (.one 16 (.one 17 (.one 18 (.one 19 (.done)))))))) (.or 9 (.or 4 (.one 10 (.one 15 (.one 16 (.one 17 (.one 18 (.one 19 (.done))))))) (.or 10 (.or 4 (.one 15 (.one 16 (.one 17 (.one 18 (.one 19 (.done)))))) (.or 15 (.one 4 (.one 16 (.one 17 (.one 18 (.one 19 (.done)))))) (.done))) (.done))) (.done))) (.done))))))))))))))⟩,zhn 6]
def Uu (Γ:Env) (f:Nat):Prop:=∀ (w:List UInt8) (l k:List Int) (hw:w.length < 2 ^ 30) (hl:l.length < 2 ^ 30) (hk:k.length < 2 ^ 30),EvT Γ f [V.str w] 1 1 (l.map V.int) (k.map V.int) (V.bool (wordOk w)) (((if wordOk w then doR w (l,k) else (l,k)).1).map V.int) (((if wordOk w then doR w (l,k) else (l,k)).2).map V.int)
attribute [local go_sem] zR Nat.add_sub_cancel in
theorem abB {Γ:Env} {f:Nat} (h:Has Γ.P f 118 WQ.1.1.ac WQ.1.2) (z0:yj Γ 127) (z1:xu Γ 193) (z2:Ut Γ 194):Uu Γ f:=by
 intro w l k hw hl hk
 refine acL h (by simp) (by simp only [V.closed,Qa,V.noSl,Um,and_self,and_true,true_and]) fun C hC hm=>?_
 subst hC
 simp only [WQ,qd,DC.ac]
 by_cases h0:w = amU
 ·have e1:wordOk w = true:=by simp [wordOk,h0]
  have e2:doR w (l,k) = (jx l,k):=by simp [doR,h0]
  rw [e1,if_pos rfl,e2]
  have e3:(w == [64,115,116,114,101,110,103,116,104]) = true:=by simp [h0,amU]
  (have zx:=e3);refine zgo ?_;repeat' first|exact zt|apply zan|intro hc
  all_goals first
   | (refine Ue _ _ _ _ _ rfl (by simp only [go_sem]) rfl rfl rfl (by decide) (by decide) (by decide) ⟨_,rfl⟩ ⟨_,rfl⟩ ?_ ?_ ?_ ?_<;>first|rfl|(simp;done))
 ·have e3:(w == [64,115,116,114,101,110,103,116,104]) = false:=adY h0
  have ed:doR w (l,k) = doG (Ye w).1 (vc (Ye w).2).1 (l,k):=by rw [doR,adY h0];rfl
  have eo:wordOk w = (vc (Ye w).2).2:=by rw [wordOk,adY h0,kD]
  have hs:=z1 (Ye w).2
  have hlen:(Ye w).2.length≤w.length:=by
   cases w with
   | nil=>simp [Ye]
   | cons c r=>rw [U6];split<;>simp
  have hs:=(hs (by omega)).b
  have hsl:=aeK (Ye w).2
  rw [ed,eo]
  generalize vc (Ye w).2 = S at *
  have e45:(((45:UInt8).toNat:Nat):Int) = 45:=rfl
  have e33:(((33:UInt8).toNat:Nat):Int) = 33:=rfl
  have e43:(((43:UInt8).toNat:Nat):Int) = 43:=rfl
  obtain ⟨m,ok⟩:=S
  simp only at hs hsl ⊢
  have w1:=Jr l m
  have w2:=Jr m l
  have w3:=Jr (Qe m l) k
  have w4:=Jr l (Qe l m)
  rcases w with _|⟨c,r⟩
  ·simp only [Ye] at hs ⊢
   rcases ok with _|_
   ·refine zgo ?_;repeat' first|exact zt|apply zan|intro hc
    all_goals first
     | (refine Ue _ _ _ _ _ rfl (by simp only [go_sem]) rfl rfl rfl (by decide) (by decide) (by decide) ⟨_,rfl⟩ ⟨_,rfl⟩ ?_ ?_ ?_ ?_<;>first|rfl|(simp;done))
   ·have hd:doG 0 m (l,k) = (l++Qe (Qe m l) k,k):=rfl
    simp only [if_pos,hd]
    refine zgo ?_;repeat' first|exact zt|apply zan|intro hc
    all_goals first
     | (refine Ue _ _ _ _ _ rfl (by simp only [go_sem]) rfl rfl rfl (by decide) (by decide) (by decide) ⟨_,rfl⟩ ⟨_,rfl⟩ ?_ ?_ ?_ ?_<;>first|rfl|(simp;done))
  ·have g0:decide ((((c :: r).length:Nat):Int) > 0) = true:=by simp
   by_cases c1:c = 45
   ·subst c1
    have hsg:Ye (45 :: r) = (45,r):=rfl
    rw [hsg] at hs ⊢
    simp only at hs ⊢
    rcases ok with _|_
    ·(have zx:=za g0 e45);refine zgo ?_;repeat' first|exact zt|apply zan|intro hc
     all_goals first
      | (refine Ue _ _ _ _ _ rfl (by simp only [go_sem]) rfl rfl rfl (by decide) (by decide) (by decide) ⟨_,rfl⟩ ⟨_,rfl⟩ ?_ ?_ ?_ ?_<;>first|rfl|(simp;done))
    ·have hd:doG 45 m (l,k) = (Qe l m,k):=rfl
     simp only [if_pos,hd]
     (have zx:=za g0 e45);refine zgo ?_;repeat' first|exact zt|apply zan|intro hc
     all_goals first
      | (refine Ue _ _ _ _ _ rfl (by simp only [go_sem]) rfl rfl rfl (by decide) (by decide) (by decide) ⟨_,rfl⟩ ⟨_,rfl⟩ ?_ ?_ ?_ ?_<;>first|rfl|(simp;done))
   ·by_cases c33:c = 33
    ·subst c33
     have hsg:Ye (33 :: r) = (33,r):=rfl
     rw [hsg] at hs ⊢
     simp only at hs ⊢
     rcases ok with _|_
     ·(have zx:=za g0 (za e45 (za e33 e43)));refine zgo ?_;repeat' first|exact zt|apply zan|intro hc
      all_goals first
       | (refine Ue _ _ _ _ _ rfl (by simp only [go_sem]) rfl rfl rfl (by decide) (by decide) (by decide) ⟨_,rfl⟩ ⟨_,rfl⟩ ?_ ?_ ?_ ?_<;>first|rfl|(simp;done))
     ·have hd:doG 33 m (l,k) = (Qe l m,k++m):=rfl
      simp only [if_pos,hd]
      (have zx:=za g0 (za e45 (za e33 e43)));refine zgo ?_;repeat' first|exact zt|apply zan|intro hc
      all_goals first
       | (refine Ue _ _ _ _ _ rfl (by simp only [go_sem]) rfl rfl rfl (by decide) (by decide) (by decide) ⟨_,rfl⟩ ⟨_,rfl⟩ ?_ ?_ ?_ ?_<;>first|rfl|(simp;done))
    ·by_cases c43:c = 43
     ·subst c43
      have hsg:Ye (43 :: r) = (43,r):=rfl
      rw [hsg] at hs ⊢
      simp only at hs ⊢
      rcases ok with _|_
      ·(have zx:=za g0 (za e45 (za e33 e43)));refine zgo ?_;repeat' first|exact zt|apply zan|intro hc
       all_goals first
        | (refine Ue _ _ _ _ _ rfl (by simp only [go_sem]) rfl rfl rfl (by decide) (by decide) (by decide) ⟨_,rfl⟩ ⟨_,rfl⟩ ?_ ?_ ?_ ?_<;>first|rfl|(simp;done))
      ·have hd:doG 43 m (l,k) = (Qe l m++Qe l (Qe l m),k):=rfl
       simp only [if_pos,hd]
       (have zx:=za g0 (za e45 (za e33 e43)));refine zgo ?_;repeat' first|exact zt|apply zan|intro hc
       all_goals first
        | (refine Ue _ _ _ _ _ rfl (by simp only [go_sem]) rfl rfl rfl (by decide) (by decide) (by decide) ⟨_,rfl⟩ ⟨_,rfl⟩ ?_ ?_ ?_ ?_<;>first|rfl|(simp;done))
     ·have t45:(((c.toNat:Nat):Int) == 45) = false:=aoS c 45 c1
      have t33:(((c.toNat:Nat):Int) == 33) = false:=aoS c 33 c33
      have t43:(((c.toNat:Nat):Int) == 43) = false:=aoS c 43 c43
      have hsg:Ye (c :: r) = (0,c :: r):=by rw [U6,if_neg (by simp [c1,c33,c43])]
      rw [hsg] at hs ⊢
      simp only at hs ⊢
      rcases ok with _|_
      ·(have zx:=za e3 (za g0 (za t45 (za t33 t43))));refine zgo ?_;repeat' first|exact zt|apply zan|intro hc
       all_goals first
        | (refine Ue _ _ _ _ _ rfl (by simp only [go_sem]) rfl rfl rfl (by decide) (by decide) (by decide) ⟨_,rfl⟩ ⟨_,rfl⟩ ?_ ?_ ?_ ?_<;>first|rfl|(simp;done))
      ·have hd:doG 0 m (l,k) = (l++Qe (Qe m l) k,k):=rfl
       simp only [if_pos,hd]
       (have zx:=za e3 (za g0 (za t45 (za t33 t43))));refine zgo ?_;repeat' first|exact zt|apply zan|intro hc
       all_goals first
        | (refine Ue _ _ _ _ _ rfl (by simp only [go_sem]) rfl rfl rfl (by decide) (by decide) (by decide) ⟨_,rfl⟩ ⟨_,rfl⟩ ?_ ?_ ?_ ?_<;>first|rfl|(simp;done))
end Av
end
