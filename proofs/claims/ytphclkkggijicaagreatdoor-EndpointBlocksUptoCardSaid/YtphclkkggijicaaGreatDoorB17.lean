/- Functions that answer a buffer of their own, whose elements show no memory. -/
import Derived.Test.YtphclkkggijicaaGreatDoorB16
import Derived.Test.YtphclkkggijicaaGreatDoorB12
import Derived.Test.YtphclkkggijicaaGreatDoorB14
set_option linter.unusedVariables false
set_option linter.unusedSimpArgs false
noncomputable section
set_option maxRecDepth 10000
set_option maxHeartbeats 4000000
namespace Av
open Go
attribute [local irreducible] AWp W7 Kx jy awS awC vE awQ aay QP W6 vu awR Vn awB okR jx ris
theorem aaO (c:UInt8):∀ (r cur:List UInt8),(Ya c cur r).length≤r.length + 1
 | [],cur=>by simp [Ya]
 | x :: r,cur=>by
   rw [Ya];split
   ·have:=aaO c r [];simp;omega
   ·have:=aaO c r (cur++[x]);simp;omega
theorem wg (c:UInt8) (s:List UInt8):(QU c s).length≤s.length + 1:=aaO c s []
def amC (L:List (List UInt8)) (x:Qo):Bool:=L.all fun n=>YC n x
def YY (L:List (List UInt8)) (xs:List Qo):List Int:=(xs.filter (amC L)).map Qo.code
theorem abC (L:List (List UInt8)) (k:Nat) (x:Qo) (h:Qs[k]? = some x):YY L (Qs.take (k + 1)) = YY L (Qs.take k)++(if amC L x = true then [x.code] else []):=by
 rw [YY,YY,zB,h,kJ,zG]
 congr 1
 by_cases hx:amC L x = true<;>simp [hx]
def vM (s:List UInt8):List Int×Bool:=if (QU 43 s).all XF then (YY (QU 43 s) Qs,true) else ([],false)
def yd:=qd Proofs.Tryz.f193 [zhn 13]
def xZ (Γ:Env) (f:Nat):Prop:=∀ (s:List UInt8) (hs:s.length < 2 ^ 34),EvC Γ f [V.str s] (.tup [.sl 1 ((vM s).1.map V.int),V.bool (vM s).2])
theorem aho {Γ:Env} {f:Nat} (h:Has Γ.P f 60 yd.1.1.ac yd.1.2) (z0:Uv Γ 155) (z1:jm Γ 233) (z2:XK Γ 122) (z3:jk Γ 234):xZ Γ f:=by
 intro s hs
 refine Qn h zsi (by simp only [V.closed,Qa,and_self]) fun C hC hm=>?_
 subst hC
 simp only [yd,qd,DC.ac]
 have hlen:=wg 43 s
 have hsp:=(z0 s 43 hs).b
 have hset:vM s = if (QU 43 s).all XF then (YY (QU 43 s) Qs,true) else ([],false):=rfl
 rw [hset]
 generalize QU 43 s = L at *
 have e43:((43:UInt8).toNat:Int) = 43:=rfl
 rw [e43] at hsp
 repeat' (first|(refine zsk ?_;intro K' hK)|(refine zrg ?_;intro K' hK)|refine zsp ?_|(refine zsc ?_ ?_<;>intro hc<;>first|exact znh|try simp only [znz] at hc)|simp (maxSteps:=1000000) only [go_sem]|(refine hK _ ?_;clear hK K')|apply zan|((first|apply QC|apply Qr);(focus first|exact hsp|exact (z0 _ _ zsd).b|exact (z1 _).b|exact EvC.b z2|exact (z3 _ _).b))|exact zsq|fail)
 refine Qt (ι:=Nat) (fun k=>k≤L.length∧(L.drop k).all XF = L.all XF) (fun k=>[(5,V.int k)]) (fun k=>L.length - k) 0 (by omega) ⟨by simp,by simp⟩ zol zlt zet fun k hk K' hL=>?_
 obtain ⟨hk,hinv⟩:=hk
 simp only [ovT,Jn,Nat.reduceEqDiff,reduceIte]
 rcases hd:L.drop k with _|⟨y,r⟩
 ·have:=Qj hd
  rw [hd] at hinv
  have e1:decide ((k:Int) < (((L.map V.str).length:Nat):Int)) = false:=by simp;omega
  have e2:L.all XF = true:=by rw [← hinv];rfl
  rw [e2]
  repeat' (first|(refine zsk ?_;intro K' hK)|(refine zrg ?_;intro K' hK)|refine zsp ?_|(refine zsc ?_ ?_<;>intro hc<;>first|exact znh|try simp only [znz] at hc)|simp (maxSteps:=1000000) only [go_sem,e1]|(refine hK _ ?_;clear hK K')|apply zan|((first|apply QC|apply Qr);(focus first|exact (z0 _ _ zsd).b|exact (z1 _).b|exact EvC.b z2|exact (z3 _ _).b))|exact zsq|fail)
  refine Qz (ι:=Nat) (fun k=>k≤16) (fun k=>Yo [(4,.sl 1 (L.map V.str)),(6,.sl 12 (Qs.map Qo.v)),(7,.hd 0 0 (YY L (Qs.take k)).length),(8,V.int k)] [(0,.buf true 1 ((YY L (Qs.take k)).map V.int))] 1) (fun k=>17 - k) 0 (by omega) (Qp [(0,12000)]) (zwg [(0,12000)]) fun k hk K' hL=>?_
  rcases hd:Qs.drop k with _|⟨x,r⟩
  ·have hk16:=Qj hd
   have e1:decide ((k:Int) < (((Qs.map Qo.v).length:Nat):Int)) = false:=by simp;omega
   have e3:Qs.take k = Qs:=zb hk16
   rw [e3]
   repeat' (first|(refine zsk ?_;intro K' hK)|(refine zrg ?_;intro K' hK)|refine zsp ?_|(refine zsc ?_ ?_<;>intro hc<;>first|exact znh|try simp only [znz] at hc)|simp (maxSteps:=1000000) only [go_sem,Yo,e1]|(refine hK _ ?_;clear hK K')|apply zan|((first|apply QC|apply Qr);(focus first|exact (z0 _ _ zsd).b|exact (z1 _).b|exact EvC.b z2|exact (z3 _ _).b))|exact zsq|fail)
   all_goals (refine Qf _ rfl ?_;simp only [go_sem];rw [zb (by simp)])
  ·obtain ⟨hk',hget,hr⟩:=Qe hd
   rw [YJ] at hk'
   have hw:=Qd (k:=k) (by omega)
   have e1:decide ((k:Int) < (((Qs.map Qo.v).length:Nat):Int)) = true:=by simp [YJ];omega
   have hcs:=abC L k x hget
   have hol:(YY L (Qs.take k)).length≤16:=by
    rw [YY,zh]
    refine kD (kq _ _) ?_
    rw [zM];omega
   generalize YY L (Qs.take k) = out at *
   repeat' (first|(refine zsk ?_;intro K' hK)|(refine zrg ?_;intro K' hK)|refine zsp ?_|(refine zsc ?_ ?_<;>intro hc<;>first|exact znh|try simp only [znz] at hc)|simp (maxSteps:=1000000) only [go_sem,Yo,e1]|(refine hK _ ?_;clear hK K')|apply zan|((first|apply QC|apply Qr);(focus first|exact (z0 _ _ zsd).b|exact (z1 _).b|exact EvC.b z2|exact (z3 _ _).b))|exact zsq|fail)
   refine Qt (ι:=Nat) (fun j=>j≤L.length) (fun j=>[(9,V.bool ((L.take j).all fun n=>YC n x)),(10,V.int j)]) (fun j=>L.length - j) 0 (by omega) (by omega) zol zlt (by simp only [Nat.reduceAdd,ovT,Jn,Nat.reduceEqDiff,reduceIte,Xk,W8,aiv,u32,u33,u34,u35,u36,u37,u38,u39,and_self,and_true,true_and];exact ⟨rfl,rfl⟩) fun j hj K'' hL2=>?_
   simp only [ovT,Jn,Nat.reduceEqDiff,reduceIte]
   rcases hdj:L.drop j with _|⟨y,r2⟩
   ·have hjl:=Qj hdj
    have e2:decide ((j:Int) < (((L.map V.str).length:Nat):Int)) = false:=by simp;omega
    have e3:L.take j = L:=zb hjl
    rw [e3]
    rcases hin:amC L x with _|_
    ·have hin2:(L.all fun n=>YC n x) = false:=hin
     rw [hin2]
     rw [hin] at hcs
     repeat' (first|(refine zsk ?_;intro K' hK)|(refine zrg ?_;intro K' hK)|refine zsp ?_|(refine zsc ?_ ?_<;>intro hc<;>first|exact znh|try simp only [znz] at hc)|simp (maxSteps:=1000000) only [go_sem,e2,hw]|(refine hK _ ?_;clear hK K')|apply zan|((first|apply QC|apply Qr);(focus first|exact (z0 _ _ zsd).b|exact (z1 _).b|exact EvC.b z2|exact (z3 _ _).b))|exact zsq|fail)
     simp only [zk,if_false,zY] at hcs
     refine hL _ (k + 1) (Qp []) (by omega) (by omega) ?_
     rw [hcs]
     exact zwg []
    ·have hin2:(L.all fun n=>YC n x) = true:=hin
     rw [hin2]
     rw [hin] at hcs
     repeat' (first|(refine zsk ?_;intro K' hK)|(refine zrg ?_;intro K' hK)|refine zsp ?_|(refine zsc ?_ ?_<;>intro hc<;>first|exact znh|try simp only [znz] at hc)|simp (maxSteps:=1000000) only [go_sem,e2,hw,Int.toNat_natCast,zq,hget,Qo.v,Qo.cells]|(refine hK _ ?_;clear hK K')|apply zan|((first|apply QC|apply Qr);(focus first|exact (z0 _ _ zsd).b|exact (z1 _).b|exact EvC.b z2|exact (z3 _ _).b))|exact zsq|fail)
     rw [if_pos rfl] at hcs
     have hb:List.take out.length (List.map V.int out)++[V.int x.code] = (out++[x.code]).map V.int:=by
      rw [zb (by simp),zG];rfl
     have hln:out.length + 1 = (out++[x.code]).length:=by simp
     rw [hb,hln]
     refine hL _ (k + 1) (Qp [(0,18001)]) (by omega) (by omega) ?_
     rw [hcs]
     exact zwg [(0,18001)]
   ·obtain ⟨hj',hgj,hrj⟩:=Qe hdj
    have hwj:=Qd (k:=j) (by omega)
    have e2:decide ((j:Int) < (((L.map V.str).length:Nat):Int)) = true:=by simp;omega
    have hall:((L.take (j + 1)).all fun n=>YC n x) = (((L.take j).all fun n=>YC n x) && YC y x):=by
     rw [zB,hgj];simp
    rcases hb:((L.take j).all fun n=>YC n x) with _|_
    ·rw [hb,zD] at hall
     repeat' (first|(refine zsk ?_;intro K' hK)|(refine zrg ?_;intro K' hK)|refine zsp ?_|(refine zsc ?_ ?_<;>intro hc<;>first|exact znh|try simp only [znz] at hc)|simp (maxSteps:=1000000) only [go_sem,e2,hwj]|(refine hK _ ?_;clear hK K')|apply zan|((first|apply QC|apply Qr);(focus first|exact (z0 _ _ zsd).b|exact (z1 _).b|exact EvC.b z2|exact (z3 _ _).b))|exact zsq|fail)
     all_goals exact hL2 _ (j + 1) (by rw [hall];simp only [Nat.reduceAdd,ovT,Jn,Nat.reduceEqDiff,reduceIte,Xk,W8,aiv,u32,u33,u34,u35,u36,u37,u38,u39,and_self,and_true,true_and]) (by omega) (by omega) zoe
    ·rw [hb,zC] at hall
     repeat' (first|(refine zsk ?_;intro K' hK)|(refine zrg ?_;intro K' hK)|refine zsp ?_|(refine zsc ?_ ?_<;>intro hc<;>first|exact znh|try simp only [znz] at hc)|simp (maxSteps:=1000000) only [go_sem,e2,hwj,Int.toNat_natCast,zq,hget,hgj]|(refine hK _ ?_;clear hK K')|apply zan|((first|apply QC|apply Qr);(focus first|exact (z0 _ _ zsd).b|exact (z1 _).b|exact EvC.b z2|exact (z3 _ _).b))|exact zsq|fail)
     ·exact zi 12
     ·exact hL2 _ (j + 1) (by rw [hall];simp only [Nat.reduceAdd,ovT,Jn,Nat.reduceEqDiff,reduceIte,Xk,W8,aiv,u32,u33,u34,u35,u36,u37,u38,u39,and_self,and_true,true_and]) (by omega) (by omega) zoe
 ·obtain ⟨hk',hget,hr⟩:=Qe hd
  rw [hd] at hinv
  have hw:=Qd (k:=k) (by omega)
  have e1:decide ((k:Int) < (((L.map V.str).length:Nat):Int)) = true:=by simp;omega
  rcases hy:XF y with _|_
  ·have e2:L.all XF = false:=by rw [← hinv];simp [hy]
   rw [e2]
   repeat' (first|(refine zsk ?_;intro K' hK)|(refine zrg ?_;intro K' hK)|refine zsp ?_|(refine zsc ?_ ?_<;>intro hc<;>first|exact znh|try simp only [znz] at hc)|simp (maxSteps:=1000000) only [go_sem,Int.toNat_natCast,zq,hget,hw,e1,hy]|(refine hK _ ?_;clear hK K')|apply zan|((first|apply QC|apply Qr);(focus first|exact (z0 _ _ zsd).b|exact (z1 _).b|exact EvC.b z2|exact (z3 _ _).b))|exact zsq|fail)
   all_goals (refine Qf _ rfl ?_;simp only [go_sem];first|done|exact ⟨_,_,rfl⟩)
  ·repeat' (first|(refine zsk ?_;intro K' hK)|(refine zrg ?_;intro K' hK)|refine zsp ?_|(refine zsc ?_ ?_<;>intro hc<;>first|exact znh|try simp only [znz] at hc)|simp (maxSteps:=1000000) only [go_sem,Int.toNat_natCast,zq,hget,hw,e1,hy]|(refine hK _ ?_;clear hK K')|apply zan|((first|apply QC|apply Qr);(focus first|exact (z0 _ _ zsd).b|exact (z1 _).b|exact EvC.b z2|exact (z3 _ _).b))|exact zsq|fail)
   all_goals
    refine hL _ (k + 1) zet ⟨by omega,?_⟩ (by omega) zoe
    rw [hr,← hinv];simp [hy]
end Av
end
section
namespace Av
open Go
structure EvW (Γ:Env) (f:FuncId) (args:List V) (sz:Nat) (xs:List V):Prop where
 ev:Ev Γ f args [] (.hd 0 0 xs.length) [.buf true sz xs]
 ns:∀ x∈xs,x.noSl
theorem xA (l:List Int):∀ x∈l.map V.int,x.noSl:=by
 grind [V.noSl]
theorem xr (l:List (List UInt8)):∀ x∈l.map V.str,x.noSl:=by
 grind [V.noSl]
theorem asn {Γ:Env} {b:Nat} {r:List AO} {s:St} {d:Option Nat} {f:FuncId} {acts xs:List V} {sz:Nat} {K:St→Prop} (h:EvW Γ f (JH s.o acts) sz xs) (hc:Qu s.o none acts)
  (hk:W7 Γ (b + KK) r { t:=(s.put d (.hd b 0 xs.length)).t,o:=upd s.o b (some (.buf true sz xs)),n:=s.n } K):awC Γ b r s d f acts K:=by
 refine Yx ⟨_,_,_,_,[],none,h.ev,JC _ _ _ hc,trivial,zV,by grind,by simp,by simp [KK],fun _=>⟨by simp only [V.noSl],fun x hx=>?_⟩,?_⟩
 ·simp only [zO] at hx;subst hx;exact h.ns
 ·simp only [YD,YK,Ob.ren,V.ren,sig]
  exact hk
theorem arG {Γ:Env} {A W:Nat→Bool} {b:Nat} {s:St} {d:Option Nat} {f:FuncId} {acts xs:List V} {sz:Nat} {J:St→Prop} (h:EvW Γ f (JH (Jt A s.o) acts) sz xs) (hc:Qu (Jt A s.o) none acts)
  (hk:J { t:=(s.put d (.hd b 0 xs.length)).t,o:=upd s.o b (some (.buf true sz xs)),n:=s.n }):QP Γ A W b s d f acts J:=by
 refine ⟨_,_,_,_,[],none,h.ev,JC _ _ _ hc,trivial,zV,by grind,by simp,by simp [KK],fun _=>⟨by simp only [V.noSl],fun x hx=>?_⟩,by grind,?_⟩
 ·simp only [zO] at hx;subst hx;exact h.ns
 ·simp only [YD,YK,Ob.ren,V.ren,sig]
  exact hk
theorem jG {Γ:Env} {b:Nat} {r:List AO} {s:St} {d:Option Nat} {f:FuncId} {acts args xs:List V} {sz:Nat} {K:St→Prop} {okf:Option (List Nat)→Prop} (h:EvW Γ f args sz xs) (hc:okf none)
  (hk:W7 Γ (b + KK) r { t:=(s.put d (.hd b 0 xs.length)).t,o:=upd s.o b (some (.buf true sz xs)),n:=s.n } K):aii Γ b r s d f acts args okf K:=by
 rintro rfl rfl;exact asn h hc hk
theorem V1 {Γ:Env} {A W:Nat→Bool} {b:Nat} {s:St} {d:Option Nat} {f:FuncId} {acts args xs:List V} {sz:Nat} {J:St→Prop} {okf:Option (List Nat)→Prop} (h:EvW Γ f args sz xs) (hc:okf none)
  (hk:J { t:=(s.put d (.hd b 0 xs.length)).t,o:=upd s.o b (some (.buf true sz xs)),n:=s.n }):af8 Γ A W b s d f acts args okf J:=by
 rintro rfl rfl;exact arG h hc hk
theorem KB {Γ:Env} {f:FuncId} {nt:Nat} {ac:AC} {rs:List Uc} (hb:Has Γ.P f nt ac rs) {args xs:List V} {sz:Nat} (ha:args.length≤nt) (hn:∀ x∈xs,x.noSl)
  (h:∀ C:Ctx,C.env = Γ→C.m = 0→AWp C nt ac (YX args []) (wu 0 rs (.hd 0 0 xs.length) [.buf true sz xs]) (fun _ _=>False) (wu 0 rs (.hd 0 0 xs.length) [.buf true sz xs])):EvW Γ f args sz xs :=
 ⟨YM hb ha h,hn⟩
theorem adi {rs:List Uc} {s:St} {xs:List V} {sz:Nat} (a n:Nat) (h:vX s rs = some [.hd a 0 n]) (hn:n = xs.length) (ho:s.o a = some (.buf true sz xs)):wu 0 rs (.hd 0 0 xs.length) [.buf true sz xs] s:=by
 subst hn
 exact Wr rs _ _ h ⟨[a],none,by simp [aih,conv],⟨⟨_,ho,fun h=>h,rfl,rfl⟩,trivial⟩,by simp,rfl⟩
end Av
end
noncomputable section
set_option maxRecDepth 10000
set_option maxHeartbeats 4000000
namespace Av
open Go
attribute [local irreducible] AWp W7 Kx jy awS awC vE awQ aay QP W6 vu awR Vn awB okR jx ris
def Qg (l some:List Int):List Int:=l.filter fun x=>!some.contains x
theorem jK {l m:List Int} {k:Nat} {x:Int} (h:l[k]? = some x):Qg (l.take (k + 1)) m = Qg (l.take k) m++(if m.contains x = true then [] else [x]):=by
 rw [Qg,Qg,zB,h,kJ]
 congr 1
 by_cases hx:m.contains x = true<;>simp at hx<;>simp [hx]
theorem Jy (l m:List Int):(Qg l m).length≤l.length:=kq _ _
def Ve:=qd Proofs.Tryz.f194 []
def UQ (Γ:Env) (f:Nat):Prop:=∀ (l m:List Int) (hl:l.length < 2 ^ 34) (hm:m.length < 2 ^ 62),EvW Γ f [.sl 1 (l.map V.int),.sl 1 (m.map V.int)] 1 ((Qg l m).map V.int)
attribute [local go_sem] Yo in
theorem ab0 {Γ:Env} {f:Nat} (h:Has Γ.P f 28 Ve.1.1.ac Ve.1.2) (z0:x9 Γ 59):UQ Γ f:=by
 intro l m hl hm
 refine KB h (by simp) (by first|exact xA _|exact xr _) fun C hC hm=>?_
 subst hC
 simp only [Ve,qd,DC.ac]
 refine zgo ?_;repeat' first|exact zt|apply zan|intro hc
 refine Qz (ι:=Nat) (fun k=>k≤l.length) (fun k=>Yo [(0,.sl 1 (l.map V.int)),(1,.sl 1 (m.map V.int)),(5,.hd 0 0 (Qg (l.take k) m).length),(6,V.int k)] [(0,.buf true 1 ((Qg (l.take k) m).map V.int))] 1) (fun k=>l.length - k) 0 (by omega) (Qp [(0,1000)]) (zwg [(0,1000)]) fun k hk K' hL=>?_
 rcases hd:l.drop k with _|⟨x,r⟩
 ·have hkl:=Qj hd
  have e1:decide ((k:Int) < (((l.map V.int).length:Nat):Int)) = false:=by simp;omega
  have e3:l.take k = l:=zb hkl
  rw [e3]
  (have zx:=e1);refine zgo ?_;repeat' first|exact zt|apply zan|intro hc
  all_goals (refine adi _ _ rfl ?_ ?_<;>first|rfl|(simp;done))
 ·obtain ⟨hk',hget,hr⟩:=Qe hd
  have hw:=Qd (k:=k) (by omega)
  have e1:decide ((k:Int) < (((l.map V.int).length:Nat):Int)) = true:=by simp;omega
  have hcs:=jK (m:=m) hget
  have hol:(Qg (l.take k) m).length≤2 ^ 34:=by have:=Jy (l.take k) m;rw [zM] at this;omega
  generalize Qg (l.take k) m = out at *
  rcases hx:m.contains x with _|_
  ·rw [hx] at hcs
   simp only [zk,if_false] at hcs
   (have zx:=za e1 (za hget (za hw hx)));refine zgo ?_;repeat' first|exact zt|apply zan|intro hc
   have hb:List.take out.length (List.map V.int out)++[V.int x] = (out++[x]).map V.int:=by
    rw [zb (by simp),zG];rfl
   have hln:out.length + 1 = (out++[x]).length:=by simp
   rw [hb,hln]
   refine hL _ (k + 1) (Qp [(0,17001)]) (by omega) (by omega) ?_
   rw [hcs]
   exact zwg [(0,17001)]
  ·rw [hx,if_pos rfl,zY] at hcs
   (have zx:=za e1 (za hget (za hw hx)));refine zgo ?_;repeat' first|exact zt|apply zan|intro hc
   refine hL _ (k + 1) (Qp []) (by omega) (by omega) ?_
   rw [hcs]
   exact zwg []
def amA (out:List Int) (x:Int):Nat→Nat
 | 0=>0
 | k + 1=>if xl (out.getD k 0) < xl x then amA out x k else k + 1
theorem amy (out:List Int) (x:Int):∀ k,amA out x k≤k
 | 0=>zi _
 | k + 1=>by
   rw [amA];split
   ·exact Nat.le_succ_of_le (amy out x k)
   ·exact zi _
def aif (out:List Int) (x:Int):List Int:=out.take (amA out x out.length)++[x]++out.drop (amA out x out.length)
theorem ack (out:List Int) (x:Int):(aif out x).length = out.length + 1:=by
 have:=amy out x out.length
 simp [aif];omega
def jO (l:List Int):List Int:=l.foldl aif []
theorem aki {l:List Int} {k:Nat} {x:Int} (h:l[k]? = some x):jO (l.take (k + 1)) = aif (jO (l.take k)) x:=by
 rw [jO,jO,zB,h,List.foldl_append];rfl
theorem ahk:∀ (l out:List Int),(l.foldl aif out).length = out.length + l.length
 | [],out=>by simp
 | x :: r,out=>by rw [List.foldl_cons,ahk r,ack];simp;omega
theorem acz (l:List Int):(jO l).length = l.length:=by rw [jO,ahk];simp
def qj:=qd Proofs.Tryz.f127 [zhn 16,zhn 16]
def yE (Γ:Env) (f:Nat):Prop:=∀ (l:List Int) (hl:l.length < 2 ^ 34),EvW Γ f [.sl 1 (l.map V.int)] 1 ((jO l).map V.int)
theorem afA {Γ:Env} {f:Nat} (h:Has Γ.P f 48 qj.1.1.ac qj.1.2) (z0:Wc Γ 170):yE Γ f:=by
 intro l hl
 refine KB h (by simp) (by first|exact xA _|exact xr _) fun C hC hm=>?_
 subst hC
 simp only [qj,qd,DC.ac]
 repeat' (first|(refine zsk ?_;intro K' hK)|(refine zrg ?_;intro K' hK)|refine zsp ?_|(refine zsc ?_ ?_<;>intro hc<;>first|exact znh|try simp only [znz] at hc)|simp (maxSteps:=1000000) only [go_sem]|(refine hK _ ?_;clear hK K')|apply zan|((first|apply QC|apply Qr);(focus first|exact (z0 _).b))|exact zsq|fail)
 refine Qz (ι:=Nat) (fun k=>k≤l.length) (fun k=>Yo [(0,.sl 1 (l.map V.int)),(3,.hd 0 0 (jO (l.take k)).length),(4,V.int k)] [(0,.buf true 1 ((jO (l.take k)).map V.int))] 1) (fun k=>l.length - k) 0 (by omega) (Qp [(0,1000)]) (zwg [(0,1000)]) fun k hk K' hL=>?_
 rcases hd:l.drop k with _|⟨x,r⟩
 ·have hkl:=Qj hd
  have e1:decide ((k:Int) < (((l.map V.int).length:Nat):Int)) = false:=by simp;omega
  have e3:l.take k = l:=zb hkl
  rw [e3]
  repeat' (first|(refine zsk ?_;intro K' hK)|(refine zrg ?_;intro K' hK)|refine zsp ?_|(refine zsc ?_ ?_<;>intro hc<;>first|exact znh|try simp only [znz] at hc)|simp (maxSteps:=1000000) only [go_sem,Yo,e1]|(refine hK _ ?_;clear hK K')|apply zan|((first|apply QC|apply Qr);(focus first|exact (z0 _).b))|exact zsq|fail)
  all_goals (refine adi _ _ rfl ?_ ?_<;>first|rfl|(simp;done))
 ·obtain ⟨hk',hget,hr⟩:=Qe hd
  have hw:=Qd (k:=k) (by omega)
  have e1:decide ((k:Int) < (((l.map V.int).length:Nat):Int)) = true:=by simp;omega
  have hcs:=aki hget
  have hol:(jO (l.take k)).length = k:=by rw [acz,zM];omega
  generalize jO (l.take k) = out at *
  repeat' (first|(refine zsk ?_;intro K' hK)|(refine zrg ?_;intro K' hK)|refine zsp ?_|(refine zsc ?_ ?_<;>intro hc<;>first|exact znh|try simp only [znz] at hc)|simp (maxSteps:=1000000) only [go_sem,Yo,e1]|(refine hK _ ?_;clear hK K')|apply zan|((first|apply QC|apply Qr);(focus first|exact (z0 _).b))|exact zsq|fail)
  refine Qt (ι:=Nat) (fun j=>j≤out.length∧amA out x j = amA out x out.length) (fun j=>[(5,V.int j)]) (fun j=>j) out.length (by omega) ⟨by omega,rfl⟩ zol zlt zet fun j hj K'' hL2=>?_
  obtain ⟨hj,hinv⟩:=hj
  simp only [ovT,Jn,Nat.reduceEqDiff,reduceIte]
  rcases j with _|j
  ·have e2:decide (((0:Nat):Int) > 0) = false:=rfl
   have h0:amA out x out.length = 0:=by rw [← hinv];rfl
   have hfin:V.sc (Value.int .i64 x) :: List.take (out.length - 0) (out.map V.int) = (aif out x).map V.int:=by
    rw [aif,h0,zb (by simp)];simp
   have hln:1 + (List.take (out.length - 0) (out.map V.int)).length = (aif out x).length:=by
    rw [ack];simp;omega
   repeat' (first|(refine zsk ?_;intro K' hK)|(refine zrg ?_;intro K' hK)|refine zsp ?_|(refine zsc ?_ ?_<;>intro hc<;>first|exact znh|try simp only [znz] at hc)|simp (maxSteps:=1000000) only [go_sem,e2,hw,Int.toNat_natCast,zq,hget]|(refine hK _ ?_;clear hK K')|apply zan|((first|apply QC|apply Qr);(focus first|exact (z0 _).b))|exact zsq|fail)
   all_goals first
    | (intro y hy;have h9:=List.mem_of_mem_take hy;simp only [kl] at h9;obtain ⟨z,_,rfl⟩:=h9;rfl)
    | (rw [hln];rw [ack];omega)
    | (rw [hln,hfin]
       refine hL _ (k + 1) (Qp [(0,37001)]) (by omega) (by omega) ?_
       rw [hcs]
       exact zwg [(0,37001)])
  ·have e2:decide (((j + 1:Nat):Int) > 0) = true:=zu (by omega)
   have hwj:IntKind.i64.wrap (((j + 1:Nat):Int) - 1) = (j:Int):=by rw [Jc (by omega) (by omega)];omega
   obtain ⟨y,hy⟩:∃ y,out[j]? = some y:=⟨out[j]'(by omega),zf (by omega)⟩
   have hyd:out.getD j 0 = y:=by rw [zo,hy];rfl
   rw [amA,hyd] at hinv
   have hyt:(List.take out.length (out.map V.int))[j]? = some (V.int y):=by rw [zb (by simp),zq,hy];rfl
   rcases hlt:decide (xl y < xl x) with _|_
   ·rw [if_neg (of_decide_eq_false hlt)] at hinv
    have hA:List.take (j + 1 - 0) (out.map V.int) = (out.take (j + 1)).map V.int:=by rw [Nat.sub_zero,List.map_take]
    have hB:List.take (out.length - (j + 1)) (List.drop (j + 1) (out.map V.int)) = (out.drop (j + 1)).map V.int:=by
     rw [zb (by simp),List.map_drop]
    have hC:List.take ((out.take (j + 1)).map V.int).length ((out.take (j + 1)).map V.int) = (out.take (j + 1)).map V.int:=zP
    have hD:List.take (((out.take (j + 1)).map V.int).length + 1) ((out.take (j + 1)).map V.int++[V.sc (Value.int .i64 x)]) = (out.take (j + 1)++[x]).map V.int:=by
     rw [zb (by simp),zG];rfl
    have hfin:(out.take (j + 1)++[x]).map V.int++(out.drop (j + 1)).map V.int = (aif out x).map V.int:=by
     rw [aif,← hinv,zG,zG,zG]
    have hln:((out.take (j + 1)).map V.int).length + 1 + ((out.drop (j + 1)).map V.int).length = (aif out x).length:=by
     rw [ack];simp;omega
    repeat' (first|(refine zsk ?_;intro K' hK)|(refine zrg ?_;intro K' hK)|refine zsp ?_|(refine zsc ?_ ?_<;>intro hc<;>first|exact znh|try simp only [znz] at hc)|simp (maxSteps:=1000000) only [go_sem,e2,hw,hwj,Int.toNat_natCast,zq,hget,hy,hlt]|(refine hK _ ?_;clear hK K')|apply zan|((first|apply QC|apply Qr);(focus first|exact (z0 _).b))|exact zsq|fail)
    all_goals first
     | (intro z hz;rw [hA] at hz;simp only [kl] at hz;obtain ⟨w,_,rfl⟩:=hz;rfl)
     | (intro z hz;rw [hB] at hz;simp only [kl] at hz;obtain ⟨w,_,rfl⟩:=hz;rfl)
     | (simp;done)
     | (simp;omega)
     | (rw [hA,hB,hln,hC,hD,hfin]
        refine hL _ (k + 1) (Qp [(0,37001)]) (by omega) (by omega) ?_
        rw [hcs]
        exact zwg [(0,37001)])
   ·repeat' (first|(refine zsk ?_;intro K' hK)|(refine zrg ?_;intro K' hK)|refine zsp ?_|(refine zsc ?_ ?_<;>intro hc<;>first|exact znh|try simp only [znz] at hc)|simp (maxSteps:=1000000) only [go_sem,e2,hw,hwj,Int.toNat_natCast,zq,hget,hy,hlt]|(refine hK _ ?_;clear hK K')|apply zan|((first|apply QC|apply Qr);(focus first|exact (z0 _).b))|exact zsq|fail)
    rw [if_pos (zZ hlt)] at hinv
    all_goals exact hL2 _ j zet ⟨by omega,hinv⟩ (by omega) zoe
def apo (c:Int):Bool:=decide (c < 1) || decide (c > 16)
end Av
end
section
namespace Av
open Go
theorem Good.adopt {C:Ctx} {w:World} {Z:Nat→Nat→Prop} {μ:Nat→Option Cn} {o:Nat→Option Ob} (h:Good C w Z μ o) {x i n sz:Nat} {wr:Bool} {cells:List V}
  (ho:o x = some (.box wr cells)) (hi:cells[i]? = some (.sc (.slice none 0 0))) (hn:μ n = none) (hm:C.m≤n) :
  Good C w Z (upd μ n (some { block:=0,void:=true })) (upd (upd o x (some (.box wr (cells.set i (.hd n 0 0))))) n (some (.buf true sz []))):=by
 have hon:=h.free hn
 have hxn:x≠n:=by grind
 have hmu:=UV (c:={ block:=0,void:=true }) hn
 have old:∀ a y,a≠n→upd (upd o x (some (.box wr (cells.set i (.hd n 0 0))))) n (some (.buf true sz [])) a = some y→∃ z c,o a = some z∧μ a = some c∧(y.live c↔z.live c)∧yr w Z (upd μ n (some { block:=0,void:=true })) c y∧(z.live c→c.block < w.heap.size∧(C.w0.heap.size≤c.block∨C.F c.block)):=by
  intro a y han hy
  rw [QH _ _ han] at hy
  by_cases hax:a = x
  ·subst hax
   rw [Qi] at hy;cases hy
   obtain ⟨c,hc,⟨h1,⟨cs,ty,h2,h3,h4⟩,h5⟩,hl⟩:=h.ob _ _ ho
   refine ⟨_,c,ho,hc,Iff.rfl,⟨h1,⟨cs,ty,h2,by simpa using h3,fun j hj hj'=>?_⟩,h5⟩,hl⟩
   have hj2:j < cells.length:=by simpa using hj
   have h6:=h4 j hj2 hj'
   refine ⟨?_,h6.2⟩
   by_cases hji:j = i
   ·subst hji
    rw [Zo]
    have h7:cells[j] = .sc (.slice none 0 0):=by grind
    have h8:=h6.1
    rw [h7] at h8
    generalize cs[j] = v at h8
    cases h8
    exact .hd (Qi _ _ _) (by simp [Hdr])
   ·rw [Ze (fun e=>hji e.symm)]
    exact h6.1.mono (fun _ _ _=>rfl) (fun _ _ h=>h) hmu
  ·rw [QH _ _ hax] at hy
   obtain ⟨c,hc,hok,hl⟩:=h.ob a y hy
   exact ⟨y,c,hy,hc,Iff.rfl,hok.mono (fun _ _ _=>rfl) (fun _ _ h=>h) hmu (fun _=>rfl) (fun _ _ h=>h),hl⟩
 refine ⟨fun a y hy=>?_,fun a b y z c d hab hy hz hc hd lc ld=>?_,h.zlt,h.grow,h.frame,h.zsub,h.zsup,h.zkeep,fun k hk=>?_,h.oo⟩
 ·by_cases han:a = n
  ·subst han
   rw [Qi] at hy;cases hy
   exact ⟨_,Qi _ _ _,⟨rfl,fun hv=>by cases hv⟩,fun hl=>by cases hl⟩
  ·obtain ⟨z,c,h1,h2,h3,h4,h5⟩:=old a y han hy
   exact ⟨c,hmu a c h2,h4,fun hl=>h5 (h3.1 hl)⟩
 ·by_cases han:a = n
  ·subst han
   rw [Qi] at hy hc;cases hy;cases hc;cases lc
  by_cases hbn:b = n
  ·subst hbn
   rw [Qi] at hz hd;cases hz;cases hd;cases ld
  obtain ⟨y',c',h1,h2,h3,_⟩:=old a y han hy
  obtain ⟨z',d',g1,g2,g3,_⟩:=old b z hbn hz
  have e1:=hmu a c' h2;rw [hc] at e1;cases e1
  have e2:=hmu b d' g2;rw [hd] at e2;cases e2
  exact h.sep a b y' z' c d hab h1 g1 h2 g2 (h3.1 lc) (g3.1 ld)
 ·rw [QH _ _ (by omega)];exact h.fix k hk
section
variable {C:Ctx} {nt:Nat} {s:St} {K:St→Prop} {E:Nat→St→Prop} {R:St→Prop}
theorem UE {c:AC} (x i sz:Nat) {wr:Bool} {cells:List V} (ho:s.o x = some (.box wr cells)) (hi:cells[i]? = some (.sc (.slice none 0 0)))
  (h:AWp C nt c { t:=s.t,o:=upd (upd s.o x (some (.box wr (cells.set i (.hd s.n 0 0))))) s.n (some (.buf true sz [])),n:=s.n + 1 } K E R):AWp C nt c s K E R:=by
 intro code hc a w hs
 obtain ⟨Z,μ,hg,ht,hf,hm,hd,hn⟩:=hs
 refine h code hc a w ⟨Z,_,hg.adopt ho hi (hf _ (zi _)) hm,fun j=>(ht j).mono (fun _ _ _=>rfl) (fun _ _ h=>h) (UV (hf _ (zi _))),fun y hy=>?_,by grind,hd,hn⟩
 grind [QH]
end
end Av
end
section
namespace Av
open Go
theorem Good.move {C:Ctx} {w:World} {Z:Nat→Nat→Prop} {μ:Nat→Option Cn} {o:Nat→Option Ob} (h:Good C w Z μ o) {x i a n off len sz:Nat} {wr wr2:Bool} {cells xs:List V} {c:Cn}
  (ho:o x = some (.box wr cells)) (hi:cells[i]? = some (.hd a off len)) (ha:o a = some (.buf wr2 sz xs)) (hc:μ a = some c) (hn:μ n = none) (hm:C.m≤n) :
  Good C w Z (upd μ n (some c)) (upd (upd (upd o a (some .dead)) x (some (.box wr (cells.set i (.hd n off len))))) n (some (.buf wr2 sz xs))):=by
 have hon:=h.free hn
 have hxn:x≠n:=by grind
 have han:a≠n:=by grind
 have hxa:x≠a:=by grind
 have hmu:=UV (c:=c) hn
 have old:∀ b y,upd (upd (upd o a (some .dead)) x (some (.box wr (cells.set i (.hd n off len))))) n (some (.buf wr2 sz xs)) b = some y →
   (b = a∧y = .dead)∨∃ z d,o (if b = n then a else b) = some z∧μ (if b = n then a else b) = some d∧upd μ n (some c) b = some d∧(y.live d↔z.live d)∧yr w Z (upd μ n (some c)) d y∧(z.live d→d.block < w.heap.size∧(C.w0.heap.size≤d.block∨C.F d.block))∧(b≠a):=by
  intro b y hy
  by_cases hbn:b = n
  ·subst hbn
   rw [Qi] at hy;cases hy
   obtain ⟨d,hd,hok,hl⟩:=h.ob _ _ ha
   rw [hc] at hd;cases hd
   exact .inr ⟨_,c,by grind,by grind,Qi _ _ _,Iff.rfl,hok.mono (fun _ _ _=>rfl) (fun _ _ h=>h) hmu (fun _=>rfl) (fun _ _ h=>h),hl,fun e=>han e.symm⟩
  ·rw [QH _ _ hbn] at hy
   rw [if_neg hbn,QH _ _ hbn]
   by_cases hbx:b = x
   ·subst hbx
    rw [Qi] at hy;cases hy
    obtain ⟨d,hd,⟨h1,⟨cs,ty,h2,h3,h4⟩,h5⟩,hl⟩:=h.ob _ _ ho
    refine .inr ⟨_,d,ho,hd,hd,Iff.rfl,⟨h1,⟨cs,ty,h2,by simpa using h3,fun j hj hj'=>?_⟩,h5⟩,hl,hxa⟩
    have hj2:j < cells.length:=by simpa using hj
    have h6:=h4 j hj2 hj'
    refine ⟨?_,h6.2⟩
    by_cases hji:j = i
    ·subst hji
     rw [Zo]
     have h7:cells[j] = .hd a off len:=by grind
     have h8:=h6.1
     rw [h7] at h8
     generalize cs[j] = v at h8
     cases h8
     rename_i c' hc' hv
     rw [hc] at hc';cases hc'
     exact .hd (Qi _ _ _) hv
    ·rw [Ze (fun e=>hji e.symm)]
     exact h6.1.mono (fun _ _ _=>rfl) (fun _ _ h=>h) hmu
   ·rw [QH _ _ hbx] at hy
    by_cases hba:b = a
    ·grind [Qi]
    ·rw [QH _ _ hba] at hy
     obtain ⟨d,hd,hok,hl⟩:=h.ob b y hy
     exact .inr ⟨y,d,hy,hd,hd,Iff.rfl,hok.mono (fun _ _ _=>rfl) (fun _ _ h=>h) hmu (fun _=>rfl) (fun _ _ h=>h),hl,hba⟩
 refine ⟨fun b y hy=>?_,fun b d y z e f hbd hy hz he hf lb ld=>?_,h.zlt,h.grow,h.frame,h.zsub,h.zsup,h.zkeep,fun k hk=>?_,h.oo⟩
 ·rcases old b y hy with ⟨rfl,rfl⟩|⟨z,d,h1,h2,h3,h4,h5,h6,_⟩
  ·exact ⟨c,hmu _ _ hc,trivial,fun hl=>hl.elim⟩
  grind
 ·rcases old b y hy with ⟨rfl,rfl⟩|⟨y',e',h1,h2,h3,h4,_,_,h7⟩
  ·exact lb.elim
  ·rcases old d z hz with ⟨rfl,rfl⟩|⟨z',f',g1,g2,g3,g4,_,_,g7⟩
   ·exact ld.elim
   ·rw [he] at h3;cases h3
    rw [hf] at g3;cases g3
    refine h.sep _ _ y' z' _ _ ?_ h1 g1 h2 g2 (h4.1 lb) (g4.1 ld)
    grind
 ·rw [QH _ _ (by omega)];exact h.fix k hk
section
variable {C:Ctx} {nt:Nat} {s:St} {K:St→Prop} {E:Nat→St→Prop} {R:St→Prop}
theorem aj9 {c:AC} (x i a:Nat) {off len sz:Nat} {wr wr2:Bool} {cells xs:List V} (ho:s.o x = some (.box wr cells)) (hi:cells[i]? = some (.hd a off len)) (ha:s.o a = some (.buf wr2 sz xs))
  (h:AWp C nt c { t:=s.t,o:=upd (upd (upd s.o a (some .dead)) x (some (.box wr (cells.set i (.hd s.n off len))))) s.n (some (.buf wr2 sz xs)),n:=s.n + 1 } K E R):AWp C nt c s K E R:=by
 intro code hc u w hs
 obtain ⟨Z,μ,hg,ht,hf,hm,hd,hn⟩:=hs
 obtain ⟨d,hmu,_⟩:=hg.ob _ _ ha
 refine h code hc u w ⟨Z,_,hg.move ho hi ha hmu (hf _ (zi _)) hm,fun j=>(ht j).mono (fun _ _ _=>rfl) (fun _ _ h=>h) (UV (hf _ (zi _))),fun y hy=>?_,by grind,hd,hn⟩
 grind [QH]
end
def aqU (i j:Nat) (xs ys:List V):Ob:=.box true [.hd i 0 xs.length,.hd j 0 ys.length]
structure EvT (Γ:Env) (f:FuncId) (args:List V) (sx sy:Nat) (xs ys:List V) (res:V) (xs2 ys2:List V):Prop where
 ev:Ev Γ f (.ptr 0 0 :: args) [aqU 1 2 xs ys,.buf true sx xs,.buf true sy ys] res [aqU 3 4 xs2 ys2,.dead,.dead,.buf true sx xs2,.buf true sy ys2]
 cl:res.closed
theorem aso {Γ:Env} {b:Nat} {r:List AO} {s:St} {d:Option Nat} {f:FuncId} {acts:List V} {res:V} {K:St→Prop} {a p q sx sy n m:Nat} {xs ys xs2 ys2:List V}
  (ha:s.o a = some (.box true [.hd p 0 n,.hd q 0 m])) (hp:s.o p = some (.buf true sx xs)) (hq:s.o q = some (.buf true sy ys))
  (h:EvT Γ f (JH s.o acts) sx sy xs ys res xs2 ys2) (hn:n = xs.length) (hm:m = ys.length) (hc:Qu s.o (some []) acts) (h1:a≠p) (h2:a≠q) (h3:p≠q) (hab:a < b) (hpb:p < b) (hqb:q < b)
  (hk:W7 Γ (b + KK) r { t:=(s.put d res).t,o:=upd (upd (upd (upd (upd s.o (b + 1) (some (.buf true sy ys2))) b (some (.buf true sx xs2))) q (some .dead)) p (some .dead)) a (some (.box true [.hd b 0 xs2.length,.hd (b + 1) 0 ys2.length])),n:=s.n } K):awC Γ b r s d f (.ptr a 0 :: acts) K:=by
 subst hn;subst hm
 refine Yx ⟨_,_,_,_,[a,p,q],some [],h.ev,⟨?_,by grind [Yd]⟩,⟨⟨_,ha,?_⟩,⟨_,hp,rfl,rfl⟩,⟨_,hq,rfl,rfl⟩,trivial⟩,by simp [h1,h2,h3],?_,by simp,by simp [KK],fun h=>by simp at h,?_⟩
 ·simp [conv]
 ·show QE _ _ _ _ _
  simp [QE,conv]
 ·grind
 ·rw [Jx _ _ h.cl]
  simp only [YD,YK,Ob.ren,aqU,KS,V.ren,sig,aqR]
  exact hk
theorem apq {Γ:Env} {b:Nat} {r:List AO} {s:St} {d:Option Nat} {f:FuncId} {x:V} {acts args:List V} {okf:Option (List Nat)→Prop} {res:V} {K:St→Prop} {a p q sx sy n m:Nat} {xs ys xs2 ys2:List V}
  (ha:s.o a = some (.box true [.hd p 0 n,.hd q 0 m])) (hp:s.o p = some (.buf true sx xs)) (hq:s.o q = some (.buf true sy ys)) (h:EvT Γ f args sx sy xs ys res xs2 ys2)
  (hd:(decide (a≠p∧a≠q∧p≠q∧a < b∧p < b∧q < b)) = true) (hn:n = xs.length) (hm:m = ys.length) (hc:Qu s.o (some []) acts)
  (hk:W7 Γ (b + KK) r { t:=(s.put d res).t,o:=upd (upd (upd (upd (upd s.o (b + 1) (some (.buf true sy ys2))) b (some (.buf true sx xs2))) q (some .dead)) p (some .dead)) a (some (.box true [.hd b 0 xs2.length,.hd (b + 1) 0 ys2.length])),n:=s.n } K):aii Γ b r s d f (.ptr a 0 :: acts) (x :: args) okf K:=by
 intro h1 _
 simp only [JH,ke] at h1
 obtain ⟨_,rfl⟩:=h1
 obtain ⟨e1,e2,e3,e4,e5,e6⟩:=zZ hd
 grind [aso]
theorem adf {Γ:Env} {f:FuncId} {nt:Nat} {ac:AC} {rs:List Uc} (hb:Has Γ.P f nt ac rs) {args xs ys xs2 ys2:List V} {sx sy:Nat} {res:V} (ha:args.length + 1≤nt) (hr:res.closed)
  (h:∀ C:Ctx,C.env = Γ→C.m = 3→AWp C nt ac { t:=(YX (.ptr 0 0 :: args) []).t,o:=abQ [(0,.box true [.hd 3 0 xs.length,.hd 4 0 ys.length]),(1,.dead),(2,.dead),(3,.buf true sx xs),(4,.buf true sy ys)],n:=5 }
    (wu 3 rs res [aqU 3 4 xs2 ys2,.dead,.dead,.buf true sx xs2,.buf true sy ys2]) (fun _ _=>False) (wu 3 rs res [aqU 3 4 xs2 ys2,.dead,.dead,.buf true sx xs2,.buf true sy ys2])):EvT Γ f args sx sy xs ys res xs2 ys2:=by
 refine ⟨YM hb (by simpa using ha) fun C hC hm=>?_,hr⟩
 refine aj9 0 0 1 (by rfl) (by rfl) (by rfl) ?_
 refine aj9 0 1 2 (by rfl) (by rfl) (by rfl) ?_
 have e:=h C hC hm
 refine (congrArg (fun s=>AWp C nt ac s _ _ _) ?_).mp e
 congr 1
 funext k
 match k with
 | 0=>rfl
 | 1=>rfl
 | 2=>rfl
 | 3=>rfl
 | 4=>rfl
 | k + 5=>simp [upd,abQ,YX]
theorem UC {rs:List Uc} {res:V} {s:St} {xs ys xs' ys':List V} {sx sy:Nat} (i j n m:Nat) (vs:List V) (h:vX s rs = some vs) (hc:conv s.o [0,1,2,i,j] none (aih vs) res)
  (h0:s.o 0 = some (.box true [.hd i 0 n,.hd j 0 m])) (hi:s.o i = some (.buf true sx xs')) (hj:s.o j = some (.buf true sy ys'))
  (hi3:3≤i) (hj3:3≤j) (hij:i≠j) (h1:∃ x,s.o 1 = some x) (h2:∃ x,s.o 2 = some x) (hx:xs' = xs) (hy:ys' = ys) (hn:n = xs.length) (hm:m = ys.length):wu 3 rs res [aqU 3 4 xs ys,.dead,.dead,.buf true sx xs,.buf true sy ys] s:=by
 subst hn;subst hm;subst hx;subst hy
 obtain ⟨x1,e1⟩:=h1
 obtain ⟨x2,e2⟩:=h2
 refine Wr rs vs _ h ⟨[0,1,2,i,j],none,hc,⟨⟨_,h0,fun h=>h,?_⟩,⟨_,e1,?_⟩,⟨_,e2,?_⟩,⟨_,hi,fun h=>h,rfl,rfl⟩,⟨_,hj,fun h=>h,rfl,rfl⟩,trivial⟩,?_,rfl⟩
 ·simp [QE,conv]
 ·simp [ao5]
 ·simp [ao5]
 ·simp;omega
end Av
end
noncomputable section
set_option maxRecDepth 10000
set_option maxHeartbeats 4000000
namespace Av
open Go
attribute [local irreducible] AWp W7 Kx jy awS awC vE awQ aay QP W6 vu awR Vn awB okR jx ris
def Yn:List UInt8→UInt8×List UInt8
 | []=>(0,[])
 | c :: r=>if c = 45∨c = 33∨c = 43 then (c,r) else (0,c :: r)
abbrev alj:=List Int×List Int
def doG (g:UInt8) (set:List Int) (p:alj):alj :=
 if g = 45 then (Qg p.1 set,p.2)
 else if g = 33 then (Qg p.1 set,p.2++set)
 else if g = 43 then (Qg p.1 set++Qg p.1 (Qg p.1 set),p.2)
 else (p.1++Qg (Qg set p.1) p.2,p.2)
def anr:List UInt8:=[64,115,116,114,101,110,103,116,104]
def wordOk (w:List UInt8):Bool:=w == anr || (vM (Yn w).2).2
def doR (w:List UInt8) (p:alj):alj:=if w == anr then (jO p.1,p.2) else doG (Yn w).1 (vM (Yn w).2).1 p
def goP:List (List UInt8)→Nat→alj→List Int×Int×Int
 | [],_,p=>(p.1,0,0)
 | w :: r,i,p=>if wordOk w = true then goP r (i + 1) (doR w p) else ([],((i + 1:Nat):Int),17)
def XE (s:List UInt8):List Int×Int×Int :=
 if s.length > 8192 then ([],0,3) else if s = [] then ([],0,0) else if (QU 58 s).length > 200 then ([],0,3) else goP (QU 58 s) 0 ([],[])
theorem vp (L:List (List UInt8)):(YY L Qs).Sublist (Qs.map Qo.code):=(kM (l:=Qs)).map _
theorem aoy:(Qs.map Qo.code).Nodup:=by decide
theorem aox:∀ x∈Qs.map Qo.code,1≤x∧x≤16:=by decide
theorem alL (s:List UInt8):(vM s).1.Nodup:=by
 unfold vM;split
 ·exact aoy.sublist (vp _)
 ·exact zV
theorem apJ (s:List UInt8):∀ x∈(vM s).1,1≤x∧x≤16:=by
 unfold vM;split
 ·exact fun x hx=>aox x ((vp _).subset hx)
 ·intro x hx;cases hx
theorem afc (s:List UInt8):(vM s).1.length≤16:=by
 unfold vM;split
 ·have:=(vp (QU 43 s)).length_le
  have e:(Qs.map Qo.code).length = 16:=by decide
  show (YY (QU 43 s) Qs).length≤16
  omega
 ·simp
theorem JT {x:Int} {l m:List Int}:x∈Qg l m↔x∈l∧x ∉ m:=by simp [Qg]
theorem aeU (p:alj) (m:List Int):(Qg p.1 m++Qg p.1 (Qg p.1 m)).Perm p.1:=by
 have hp:Qg p.1 (Qg p.1 m) = p.1.filter fun x=>m.contains x:=by
  unfold Qg
  refine List.filter_congr fun x hx=>?_
  cases hm:m.contains x<;>simp_all
 rw [hp,Qg]
 have:∀ l:List Int,((l.filter fun x=>!m.contains x)++(l.filter fun x=>m.contains x)).Perm l:=by
  intro l;induction l with
  | nil=>exact .refl _
  | cons x r ih =>
    cases hx:m.contains x
    ·simp only [List.filter_cons,hx,kH,if_true,zk,if_false,List.cons_append];exact ih.cons x
    ·simp only [List.filter_cons,hx,kW,if_true,zk,if_false];exact Za.trans (ih.cons x)
 exact this _
theorem amS (w:List UInt8) (p:alj):(doR w p).1.length≤p.1.length + 16∧(doR w p).2.length≤p.2.length + 16:=by
 have h:=afc (Yn w).2
 unfold doR;split
 ·simp [acz]
 ·unfold doG
  have a:=Jy p.1 (vM (Yn w).2).1
  have b:=Jy (Qg (vM (Yn w).2).1 p.1) p.2
  have c:=Jy (vM (Yn w).2).1 p.1
  have part:(Qg p.1 (vM (Yn w).2).1++Qg p.1 (Qg p.1 (vM (Yn w).2).1)).length≤p.1.length:=Nat.le_of_eq (aeU _ _).length_eq
  split
  ·simp;omega
  ·split
   ·simp;omega
   ·split
    ·simp only;omega
    ·simp;omega
theorem amx (out:List Int) (x:Int):(aif out x).Perm (x :: out):=by
 unfold aif
 rw [zW,List.singleton_append]
 exact Za.trans (by rw [zR])
theorem aeP:∀ (l out:List Int),(l.foldl aif out).Perm (out++l)
 | [],out=>by simp
 | x :: r,out=>by
   rw [List.foldl_cons]
   refine (aeP r _).trans ?_
   refine ((amx out x).append_right r).trans ?_
   rw [List.cons_append]
   exact Za.symm
theorem akj (l:List Int):(jO l).Perm l:=by
 have:=aeP l []
 simpa [jO] using this
structure ahR (p:alj):Prop where
 nd:p.1.Nodup
 rg:∀ x∈p.1,1≤x∧x≤16
 dj:∀ x∈p.1,x ∉ p.2
theorem apl (w:List UInt8) (p:alj) (h:ahR p):ahR (doR w p):=by
 have nd:=alL (Yn w).2
 have rg:=apJ (Yn w).2
 unfold doR;split
 ·have hp:=akj p.1
  exact ⟨hp.nodup_iff.2 h.nd,fun x hx=>h.rg x (hp.mem_iff.1 hx),fun x hx=>h.dj x (hp.mem_iff.1 hx)⟩
 ·generalize (vM (Yn w).2).1 = m at *
  unfold doG
  split
  ·exact ⟨h.nd.sublist kM,fun x hx=>h.rg x (JT.1 hx).1,fun x hx=>h.dj x (JT.1 hx).1⟩
  ·split
   ·refine ⟨h.nd.sublist kM,fun x hx=>h.rg x (JT.1 hx).1,fun x hx hk=>?_⟩
    have hx:=JT.1 hx
    rcases zX.1 hk with hk|hk
    ·exact h.dj x hx.1 hk
    ·exact hx.2 hk
   ·split
    ·have hp:=aeU p m
     exact ⟨hp.nodup_iff.2 h.nd,fun x hx=>h.rg x (hp.mem_iff.1 hx),fun x hx=>h.dj x (hp.mem_iff.1 hx)⟩
    ·refine ⟨?_,fun x hx=>?_,fun x hx=>?_⟩
     ·refine kp.2 ⟨h.nd,(nd.sublist kM).sublist kM,fun a ha b hb e=>?_⟩
      subst e
      exact (JT.1 (JT.1 hb).1).2 ha
     ·rcases zX.1 hx with hx|hx
      ·exact h.rg x hx
      ·exact rg x (JT.1 (JT.1 hx).1).1
     ·rcases zX.1 hx with hx|hx
      ·exact h.dj x hx
      ·exact (JT.1 hx).2
theorem alS:ahR ([],[]):=⟨zV,fun x h=>by simp at h,fun x h=>by simp at h⟩
theorem ape {l:List Int} (hn:l.Nodup) (hr:∀ x∈l,1≤x∧x≤16):l.length≤16:=by
 have hs:l ⊆ Qs.map Qo.code:=by
  intro x hx
  have h:=hr x hx
  have e:Qs.map Qo.code = [1,2,3,4,5,6,7,8,9,10,11,12,13,14,15,16]:=by decide
  rw [e];simp;omega
 have:=hn.length_le_of_subset hs
 have e:(Qs.map Qo.code).length = 16:=by decide
 omega
theorem ahR.len {p:alj} (h:ahR p):p.1.length≤16:=ape h.nd h.rg
theorem aaP (c:UInt8):∀ (s cur t:List UInt8),Ya c cur (s++c :: t) = Ya c cur s++Ya c [] t
 | [],cur,t=>by simp [Ya]
 | x :: r,cur,t=>by
   rw [List.cons_append,Ya,Ya]
   split
   ·rw [aaP c r [] t];rfl
   ·exact aaP c r _ t
theorem aew (c:UInt8) (s t:List UInt8):QU c (s++[c]++t) = QU c s++QU c t:=by
 rw [zW,List.singleton_append];exact aaP c s [] t
theorem acy (c:UInt8):∀ (s cur:List UInt8),c ∉ s→Ya c cur s = [cur++s]
 | [],cur,_=>by simp [Ya]
 | x :: r,cur,h=>by
   simp only [zp,not_or] at h
   rw [Ya,if_neg (fun e=>h.1 e.symm),acy c r _ h.2];simp
end Av
end
section
namespace Av
open Go
structure EvL (Γ:Env) (f:FuncId) (args:List V) (sz:Nat) (xs:List V) (res:V) (ys:List V):Prop where
 ev:Ev Γ f (.hd 0 0 xs.length :: args) [.buf true sz xs] res [.buf true sz ys]
 cl:res.closed
theorem asr {Γ:Env} {b:Nat} {r:List AO} {s:St} {d:Option Nat} {f:FuncId} {acts:List V} {res:V} {K:St→Prop} {a sz n:Nat} {xs ys:List V}
  (ha:s.o a = some (.buf true sz xs)) (h:EvL Γ f (JH s.o acts) sz xs res ys) (hn:n = xs.length) (hc:Qu s.o (some []) acts) (hab:a < b)
  (hk:W7 Γ (b + KK) r { t:=(s.put d res).t,o:=upd s.o a (some (.buf true sz ys)),n:=s.n } K):awC Γ b r s d f (.hd a 0 n :: acts) K:=by
 subst hn
 refine Yx ⟨_,_,_,_,[a],some [],h.ev,⟨?_,by grind [Yd]⟩,⟨⟨_,ha,rfl,rfl⟩,trivial⟩,by simp,?_,by simp,by simp [KK],fun h=>by simp at h,?_⟩
 ·simp [conv]
 ·grind
 ·rw [Jx _ _ h.cl]
  simp only [YD,YK,Ob.ren,aqR]
  exact hk
theorem apr {Γ:Env} {b:Nat} {r:List AO} {s:St} {d:Option Nat} {f:FuncId} {x:V} {acts args:List V} {okf:Option (List Nat)→Prop} {res:V} {K:St→Prop} {a sz n:Nat} {xs ys:List V}
  (ha:s.o a = some (.buf true sz xs)) (h:EvL Γ f args sz xs res ys) (hab:decide (a < b) = true) (hn:n = xs.length) (hc:Qu s.o (some []) acts)
  (hk:W7 Γ (b + KK) r { t:=(s.put d res).t,o:=upd s.o a (some (.buf true sz ys)),n:=s.n } K):aii Γ b r s d f (.hd a 0 n :: acts) (x :: args) okf K:=by
 intro h1 _
 simp only [JH,ke] at h1
 obtain ⟨_,rfl⟩:=h1
 exact asr ha h hn hc (zZ hab) hk
theorem vl {Γ:Env} {f:FuncId} {nt:Nat} {ac:AC} {rs:List Uc} (hb:Has Γ.P f nt ac rs) {args xs ys:List V} {sz:Nat} {res:V} (ha:args.length + 1≤nt) (hr:res.closed)
  (h:∀ C:Ctx,C.env = Γ→C.m = 1→AWp C nt ac { t:=(YX (.hd 0 0 xs.length :: args) []).t,o:=abQ [(0,.buf true sz xs)],n:=1 } (wu 1 rs res [.buf true sz ys]) (fun _ _=>False) (wu 1 rs res [.buf true sz ys])):EvL Γ f args sz xs res ys:=by
 refine ⟨YM hb (by simpa using ha) fun C hC hm=>?_,hr⟩
 refine (congrArg (fun s=>AWp C nt ac s _ _ _) ?_).mp (h C hC hm)
 simp only [YX]
 congr 1
 funext k
 match k with
 | 0=>rfl
 | k + 1=>simp [abQ]
theorem abB {rs:List Uc} {res:V} {s:St} {xs ys:List V} {sz:Nat} (vs:List V) (h:vX s rs = some vs) (ho:s.o 0 = some (.buf true sz xs)) (hc:conv s.o [0] none (aih vs) res) (hx:xs = ys):wu 1 rs res [.buf true sz ys] s:=by
 subst hx
 exact Wr rs vs _ h ⟨[0],none,hc,⟨⟨_,ho,fun h=>h,rfl,rfl⟩,trivial⟩,by simp,rfl⟩
@[go_sem] theorem aqo (l:List Int):(∀ y∈l.map V.int,y.cells.length = 1) = True:=eq_true (by intro y hy;simp only [kl] at hy;obtain ⟨x,_,rfl⟩:=hy;rfl)
@[go_sem] theorem aqn (l:List (List UInt8)):(∀ y∈l.map V.str,y.cells.length = 1) = True:=eq_true (by intro y hy;simp only [kl] at hy;obtain ⟨x,_,rfl⟩:=hy;rfl)
end Av
end
noncomputable section
set_option maxRecDepth 10000
set_option maxHeartbeats 4000000
namespace Av
open Go
attribute [local irreducible] AWp W7 Kx jy awS awC vE awQ aay QP W6 vu awR Vn awB okR jx ris
theorem apx (c:UInt8) (n:Nat) (h:c≠UInt8.ofNat n):(((c.toNat:Nat):Int) == (n:Int)) = false:=by
 simp only [kN,ne_eq]
 intro e
 apply h
 have:c.toNat = n:=by omega
 rw [← this];simp
theorem ae7 {α β:Type} (f:α→β) (l:List α):(l.map f).take l.length = l.map f:=by rw [zb (by simp)]
theorem Kt (c:UInt8) (r:List UInt8):Yn (c :: r) = if c = 45∨c = 33∨c = 43 then (c,r) else (0,c :: r):=rfl
theorem aes {w:List UInt8} (h:w≠anr):(w == anr) = false:=by simpa using h
def Vf:=qd Proofs.Tryz.f156 [⟨fun _=>false,[4,9,10,14,15],.one 0 (.one 1 (.one 2 (.one 3 (.one 5 (.one 6 (.one 7 (.one 8 (.one 11 (.one 12 (.one 13 (.or 4 (.or 9 (.or 10 (.one 14 (.one 15 (.one 16 (.one 17 (.one 18 (.one 19 (.done))))))) (.or 14 (.one 10 (.one 15 (.one 16 (.one 17 (.one 18 (.one 19 (.done))))))) (.done))) (.or 14 (.one 9 (.one 10 (.one 15 (.one 16 (.one 17 (.one 18 (.one 19 (.done)))))))) (.done))) (.or 9 (.or 4 (.or 10 (.one 14 (.one 15 (.one 16 (.one 17 (.one 18 (.one 19 (.done))))))) (.or 14 (.one 10 (.one 15 (.one 16 (.one 17 (.one 18 (.one 19 (.done))))))) (.done))) (.or 10 (.or 4 (.one 14 (.one 15 (.one 16 (.one 17 (.one 18 (.one 19 (.done))))))) (.or 14 (.or 4 (.one 15 (.one 16 (.one 17 (.one 18 (.one 19 (.done)))))) (.or 15 (.one 4 (.one 16 (.one 17 (.one 18 (.one 19 (.done)))))) (.done))) (.done))) (.or 14 (.or 4 (.one 10 (.one 15 (.one 16 (.one 17 (.one 18 (.one 19 (.done))))))) (.or 10 (.or 4 (.one 15 (.one 16 (.one 17 (.one 18 (.one 19 (.done)))))) (.or 15 (.one 4 (.one 16 (.one 17 (.one 18 (.one 19 (.done)))))) (.done))) (.done))) (.done)))) (.or 14 (.or 4 (.one 9 (.one 10 (.one 15 (.one 16 (.one 17 (.one 18 (.one 19 (.done)))))))) (.or 9 (.or 4 (.one 10 (.one 15 (.one 16 (.one 17 (.one 18 (.one 19 (.done))))))) (.or 10 (.or 4 (.one 15 (.one 16 (.one 17 (.one 18 (.one 19 (.done)))))) (.or 15 (.one 4 (.one 16 (.one 17 (.one 18 (.one 19 (.done)))))) (.done))) (.done))) (.done))) (.done))))))))))))))⟩,zhn 6]
def UR (Γ:Env) (f:Nat):Prop:=∀ (w:List UInt8) (l k:List Int) (hw:w.length < 2 ^ 30) (hl:l.length < 2 ^ 30) (hk:k.length < 2 ^ 30),EvT Γ f [V.str w] 1 1 (l.map V.int) (k.map V.int) (V.bool (wordOk w)) (((if wordOk w then doR w (l,k) else (l,k)).1).map V.int) (((if wordOk w then doR w (l,k) else (l,k)).2).map V.int)
attribute [local go_sem] zP Zg in
theorem ab1 {Γ:Env} {f:Nat} (h:Has Γ.P f 118 Vf.1.1.ac Vf.1.2) (z0:yE Γ 127) (z1:xZ Γ 193) (z2:UQ Γ 194):UR Γ f:=by
 intro w l k hw hl hk
 refine adf h (by simp) (by simp only [V.closed,Qa,V.noSl,UJ,and_self,and_true,true_and]) fun C hC hm=>?_
 subst hC
 simp only [Vf,qd,DC.ac]
 by_cases h0:w = anr
 ·have e1:wordOk w = true:=by simp [wordOk,h0]
  have e2:doR w (l,k) = (jO l,k):=by simp [doR,h0]
  rw [e1,if_pos rfl,e2]
  have e3:(w == [64,115,116,114,101,110,103,116,104]) = true:=by simp [h0,anr]
  (have zx:=e3);refine zgo ?_;repeat' first|exact zt|apply zan|intro hc
  all_goals first
   | (refine UC _ _ _ _ _ rfl (by simp only [go_sem]) rfl rfl rfl (by decide) (by decide) (by decide) ⟨_,rfl⟩ ⟨_,rfl⟩ ?_ ?_ ?_ ?_<;>first|rfl|(simp;done))
 ·have e3:(w == [64,115,116,114,101,110,103,116,104]) = false:=aes h0
  have ed:doR w (l,k) = doG (Yn w).1 (vM (Yn w).2).1 (l,k):=by rw [doR,aes h0];rfl
  have eo:wordOk w = (vM (Yn w).2).2:=by rw [wordOk,aes h0,kF]
  have hs:=z1 (Yn w).2
  have hlen:(Yn w).2.length≤w.length:=by
   cases w with
   | nil=>simp [Yn]
   | cons c r=>rw [Kt];split<;>simp
  have hs:=(hs (by omega)).b
  have hsl:=afc (Yn w).2
  rw [ed,eo]
  generalize vM (Yn w).2 = S at *
  have e45:(((45:UInt8).toNat:Nat):Int) = 45:=rfl
  have e33:(((33:UInt8).toNat:Nat):Int) = 33:=rfl
  have e43:(((43:UInt8).toNat:Nat):Int) = 43:=rfl
  obtain ⟨m,ok⟩:=S
  simp only at hs hsl ⊢
  have w1:=Jy l m
  have w2:=Jy m l
  have w3:=Jy (Qg m l) k
  have w4:=Jy l (Qg l m)
  rcases w with _|⟨c,r⟩
  ·simp only [Yn] at hs ⊢
   rcases ok with _|_
   ·refine zgo ?_;repeat' first|exact zt|apply zan|intro hc
    all_goals first
     | (refine UC _ _ _ _ _ rfl (by simp only [go_sem]) rfl rfl rfl (by decide) (by decide) (by decide) ⟨_,rfl⟩ ⟨_,rfl⟩ ?_ ?_ ?_ ?_<;>first|rfl|(simp;done))
   ·have hd:doG 0 m (l,k) = (l++Qg (Qg m l) k,k):=rfl
    simp only [if_pos,hd]
    refine zgo ?_;repeat' first|exact zt|apply zan|intro hc
    all_goals first
     | (refine UC _ _ _ _ _ rfl (by simp only [go_sem]) rfl rfl rfl (by decide) (by decide) (by decide) ⟨_,rfl⟩ ⟨_,rfl⟩ ?_ ?_ ?_ ?_<;>first|rfl|(simp;done))
  ·have g0:decide ((((c :: r).length:Nat):Int) > 0) = true:=by simp
   by_cases c1:c = 45
   ·subst c1
    have hsg:Yn (45 :: r) = (45,r):=rfl
    rw [hsg] at hs ⊢
    simp only at hs ⊢
    rcases ok with _|_
    ·(have zx:=za g0 e45);refine zgo ?_;repeat' first|exact zt|apply zan|intro hc
     all_goals first
      | (refine UC _ _ _ _ _ rfl (by simp only [go_sem]) rfl rfl rfl (by decide) (by decide) (by decide) ⟨_,rfl⟩ ⟨_,rfl⟩ ?_ ?_ ?_ ?_<;>first|rfl|(simp;done))
    ·have hd:doG 45 m (l,k) = (Qg l m,k):=rfl
     simp only [if_pos,hd]
     (have zx:=za g0 e45);refine zgo ?_;repeat' first|exact zt|apply zan|intro hc
     all_goals first
      | (refine UC _ _ _ _ _ rfl (by simp only [go_sem]) rfl rfl rfl (by decide) (by decide) (by decide) ⟨_,rfl⟩ ⟨_,rfl⟩ ?_ ?_ ?_ ?_<;>first|rfl|(simp;done))
   ·by_cases c33:c = 33
    ·subst c33
     have hsg:Yn (33 :: r) = (33,r):=rfl
     rw [hsg] at hs ⊢
     simp only at hs ⊢
     rcases ok with _|_
     ·(have zx:=za g0 (za e45 (za e33 e43)));refine zgo ?_;repeat' first|exact zt|apply zan|intro hc
      all_goals first
       | (refine UC _ _ _ _ _ rfl (by simp only [go_sem]) rfl rfl rfl (by decide) (by decide) (by decide) ⟨_,rfl⟩ ⟨_,rfl⟩ ?_ ?_ ?_ ?_<;>first|rfl|(simp;done))
     ·have hd:doG 33 m (l,k) = (Qg l m,k++m):=rfl
      simp only [if_pos,hd]
      (have zx:=za g0 (za e45 (za e33 e43)));refine zgo ?_;repeat' first|exact zt|apply zan|intro hc
      all_goals first
       | (refine UC _ _ _ _ _ rfl (by simp only [go_sem]) rfl rfl rfl (by decide) (by decide) (by decide) ⟨_,rfl⟩ ⟨_,rfl⟩ ?_ ?_ ?_ ?_<;>first|rfl|(simp;done))
    ·by_cases c43:c = 43
     ·subst c43
      have hsg:Yn (43 :: r) = (43,r):=rfl
      rw [hsg] at hs ⊢
      simp only at hs ⊢
      rcases ok with _|_
      ·(have zx:=za g0 (za e45 (za e33 e43)));refine zgo ?_;repeat' first|exact zt|apply zan|intro hc
       all_goals first
        | (refine UC _ _ _ _ _ rfl (by simp only [go_sem]) rfl rfl rfl (by decide) (by decide) (by decide) ⟨_,rfl⟩ ⟨_,rfl⟩ ?_ ?_ ?_ ?_<;>first|rfl|(simp;done))
      ·have hd:doG 43 m (l,k) = (Qg l m++Qg l (Qg l m),k):=rfl
       simp only [if_pos,hd]
       (have zx:=za g0 (za e45 (za e33 e43)));refine zgo ?_;repeat' first|exact zt|apply zan|intro hc
       all_goals first
        | (refine UC _ _ _ _ _ rfl (by simp only [go_sem]) rfl rfl rfl (by decide) (by decide) (by decide) ⟨_,rfl⟩ ⟨_,rfl⟩ ?_ ?_ ?_ ?_<;>first|rfl|(simp;done))
     ·have t45:(((c.toNat:Nat):Int) == 45) = false:=apx c 45 c1
      have t33:(((c.toNat:Nat):Int) == 33) = false:=apx c 33 c33
      have t43:(((c.toNat:Nat):Int) == 43) = false:=apx c 43 c43
      have hsg:Yn (c :: r) = (0,c :: r):=by rw [Kt,if_neg (by simp [c1,c33,c43])]
      rw [hsg] at hs ⊢
      simp only at hs ⊢
      rcases ok with _|_
      ·(have zx:=za e3 (za g0 (za t45 (za t33 t43))));refine zgo ?_;repeat' first|exact zt|apply zan|intro hc
       all_goals first
        | (refine UC _ _ _ _ _ rfl (by simp only [go_sem]) rfl rfl rfl (by decide) (by decide) (by decide) ⟨_,rfl⟩ ⟨_,rfl⟩ ?_ ?_ ?_ ?_<;>first|rfl|(simp;done))
      ·have hd:doG 0 m (l,k) = (l++Qg (Qg m l) k,k):=rfl
       simp only [if_pos,hd]
       (have zx:=za e3 (za g0 (za t45 (za t33 t43))));refine zgo ?_;repeat' first|exact zt|apply zan|intro hc
       all_goals first
        | (refine UC _ _ _ _ _ rfl (by simp only [go_sem]) rfl rfl rfl (by decide) (by decide) (by decide) ⟨_,rfl⟩ ⟨_,rfl⟩ ?_ ?_ ?_ ?_<;>first|rfl|(simp;done))
end Av
end
