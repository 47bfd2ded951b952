/- Calls whose arguments show objects from within. -/
import Derived.Test.YtphclkkggijicaaGreatDoorK23
import Derived.Test.YtphclkkggijicaaGreatDoorK12
import Derived.Test.YtphclkkggijicaaGreatDoorK20
import Derived.Test.YtphclkkggijicaaGreatDoorK19
import Derived.Test.YtphclkkggijicaaGreatDoorK22
set_option linter.unusedVariables false
set_option linter.unusedSimpArgs false
noncomputable section
set_option maxRecDepth 10000
set_option maxHeartbeats 4000000
namespace Av
open Go
attribute [local irreducible] AWp Vo Ky jA awS awC aad awQ aaN QL Vq vQ awR Vz awB okR js ris
def Jc:=qd Proofs.Tryz.f136 []
def Jw (Γ:Env) (f:Nat):Prop:=∀ (l:List (List UInt8)) (hl:l.length < 2 ^ 34),EvC Γ f [.sl 1 (l.map V.str)] (.sl 1 (l.map V.str))
theorem Vt {Γ:Env} {f:Nat} (h:Has Γ.P f 8 Jc.1.1.ac Jc.1.2) :Jw Γ f:=by
 intro l hl
 refine Qn h zsi zcl fun C hC hm=>?_
 subst hC
 simp only [Jc,qd,DC.ac]
 rcases l with _|⟨x,r⟩
 ·repeat' (first|(refine zsk ?_;intro K' hK)|refine zsp ?_|(refine zsc ?_ ?_<;>intro hc<;>first|exact znh|try simp only [znz] at hc)|simp (maxSteps:=1000000) only [go_sem]|(refine hK _ ?_;clear hK K')|apply zan|exact zsq|fail)
  intro t
  rcases t with _|_
  ·repeat' (first|(refine zsk ?_;intro K' hK)|refine zsp ?_|(refine zsc ?_ ?_<;>intro hc<;>first|exact znh|try simp only [znz] at hc)|simp (maxSteps:=1000000) only [go_sem]|(refine hK _ ?_;clear hK K')|apply zan|exact zsq|fail)
   all_goals exact zr
  ·repeat' (first|(refine zsk ?_;intro K' hK)|refine zsp ?_|(refine zsc ?_ ?_<;>intro hc<;>first|exact znh|try simp only [znz] at hc)|simp (maxSteps:=1000000) only [go_sem]|(refine hK _ ?_;clear hK K')|apply zan|exact zsq|fail)
   all_goals exact zr
 ·repeat' (first|(refine zsk ?_;intro K' hK)|refine zsp ?_|(refine zsc ?_ ?_<;>intro hc<;>first|exact znh|try simp only [znz] at hc)|simp (maxSteps:=1000000) only [go_sem]|(refine hK _ ?_;clear hK K')|apply zan|exact zsq|fail)
  all_goals first
   | (simp only [zh,List.length_cons] at hl ⊢;omega)
   | (refine Qd _ rfl ?_;simp only [go_sem];first|done|(rw [zb (by simp)];done)|(rw [zb (by simp)];rfl)|trace_state)
end Av
end
section
namespace Av
open Go
mutual
def V.deep:V→List Nat
 | .hd a _ _=>[a]
 | .ptr a _=>[a]
 | .agg cs=>ag7 cs
 | .tup cs=>ag7 cs
 | .clo _ cs=>ag7 cs
 | .top=>[]
 | .sc _=>[]
 | .nn=>[]
 | .sl _ _=>[]
 | .ept _ _ _=>[]
 | .mp _=>[]
 | .ro _ _=>[]
def ag7:List V→List Nat
 | []=>[]
 | v :: r=>v.deep++ag7 r
end
attribute [go_sem] V.deep ag7 List.nil_append zU List.cons_append
section
variable {Γ:Env} {b:Nat} {r:List AO} {s:St} {d:Option Nat} {f:FuncId} {acts args:List V} {res:V} {K:St→Prop} {okf:Option (List Nat)→Prop}
theorem ajG (h:EvC Γ f args res) (hc:okf (some (ag7 acts))) (hk:Vo Γ (b + KK) r { t:=(s.put d res).t,o:=jM (some (ag7 acts)) [] s.o,n:=s.n } K):ahI Γ b r s d f acts args okf K:=by
 rintro rfl rfl
 refine Yk ⟨_,_,_,_,[],some (ag7 acts),h.1,Jv _ _ _ hc,trivial,zT,by grind,by simp,by simp [KK],fun h=>by simp at h,?_⟩
 simp only [Ys,YB,Jq _ _ h.2]
 exact hk
end
end Av
end
noncomputable section
set_option maxRecDepth 10000
set_option maxHeartbeats 4000000
namespace Av
open Go
attribute [local irreducible] AWp Vo Ky jA awS awC aad awQ aaN QL Vq vQ awR Vz awB okR js ris
def alT (l:List Int) (k:Nat):(Int×Int)×Nat:=(((ofD l k [5,7,5,6,8,9]).1,(adb l (ofD l k [5,7,5,6,8,9]).2 (ofD l k [5,7,5,6,8,9]).1).1),(adb l (ofD l k [5,7,5,6,8,9]).2 (ofD l k [5,7,5,6,8,9]).1).2)
def xL:=qd Proofs.Tryz.f70 []
def wS (Γ:Env) (f:Nat):Prop:=∀ (l:List Int) (k:Nat) (hl:l.length≤400) (hk:k≤l.length),EvD Γ f [] (QO l k) (.agg [V.int (alT l k).1.1,V.int (alT l k).1.2]) (QO l (alT l k).2)
attribute [local go_sem] QO in
theorem ail {Γ:Env} {f:Nat} (h:Has Γ.P f 12 xL.1.1.ac xL.1.2) (z0:Yh Γ 68) (z1:xB Γ 71):wS Γ f:=by
 intro l k hl hk
 refine QT h zsi zcl zc3 zc3 fun C hC hm=>?_
 subst hC
 simp only [xL,qd,DC.ac]
 have n1:=z0 l k [5,7,5,6,8,9] hl hk (by simp) (by simp)
 have hk1:=KP (l:=l) (k:=k) (xs:=[5,7,5,6,8,9]) hk
 have n2:=z1 l (ofD l k [5,7,5,6,8,9]).2 (ofD l k [5,7,5,6,8,9]).1 hl hk1
 simp only [QO,alT,zp,zo] at n1 n2 ⊢
 refine zgo ?_;repeat' first|exact zt|apply zan|intro hc
 all_goals (refine QB _ rfl rfl zcd ?_;simp only [go_sem];done)
theorem aib {l:List Int} {k:Nat} (hk:k≤l.length):(alT l k).2≤l.length:=by
 have h1:=KP (l:=l) (k:=k) (xs:=[5,7,5,6,8,9]) hk
 show (adb l (ofD l k [5,7,5,6,8,9]).2 (ofD l k [5,7,5,6,8,9]).1).2≤l.length
 unfold adb
 split
 ·exact h1
 ·exact KP h1
theorem qv {l:List Int} {k:Nat} {xs:List Int} (h:xs≠[]) (h2:xs.length < 2 ^ 62) (h3:∀ x∈xs,x.natAbs≤100000):(ofD l k xs).1.natAbs≤100000:=h3 _ (ah1 h h2)
def aky (iss sub:List UInt8) (a b id:Int) (au:Bool) (s h f t p x:Int):Qi:=⟨s,iss,sub,a,b,id,h,0,f,t,au,p,if x == 2 then [sub,sub++[120]] else [sub],0,0⟩
def amt (l:List Int) (k:Nat) (au:Bool):(Int×Int×Int×Int×Int×Int)×Nat :=
 let s:=Jd l k 1000
 let h:=ofD l s.2 [3,2,4,1]
 let f:=ofD l h.2 [0,5,10]
 let t:=ofD l f.2 [1000,100,50,20]
 let p:=if au = true then ofD l t.2 [3,0,1] else (0,t.2)
 let x:=Jd l p.2 3
 ((s.1,h.1,f.1,t.1,p.1,x.1),x.2)
def aqQ (iss sub:List UInt8) (a b id:Int) (au:Bool) (q:Int×Int×Int×Int×Int×Int):Qi:=aky iss sub a b id au q.1 q.2.1 q.2.2.1 q.2.2.2.1 q.2.2.2.2.1 q.2.2.2.2.2
def vM (l:List Int) (k:Nat) (iss sub:List UInt8) (a b id sg:Int) (au:Bool):Qi×Nat:=(adc (aqQ iss sub a b id au (amt l k au).1) sg,(amt l k au).2)
theorem aiu {iss sub:List UInt8} {a b id:Int} {au:Bool} {s h f t p x:Int} (h1:iss.length≤900) (h2:sub.length≤900) (ha:I60 a) (hb:I60 b) (hi:I60 id) (q1:s.natAbs≤100000) (q2:h.natAbs≤100000) (q3:f.natAbs≤100000) (q4:t.natAbs≤100000) (q5:p.natAbs≤100000) :
  (aky iss sub a b id au s h f t p x).T:=by
 refine ⟨by unfold I60;show _≤s∧s≤_;omega,ha,hb,hi,by unfold I60;show _≤h∧h≤_;omega,by unfold I60;show _≤(0:Int)∧(0:Int)≤_;omega,by unfold I60;show _≤f∧f≤_;omega,by unfold I60;show _≤t∧t≤_;omega,by unfold I60;show _≤p∧p≤_;omega,by show iss.length≤1000;omega,by show sub.length≤1000;omega,?_,?_⟩
 ·show (if x == 2 then [sub,sub++[120]] else [sub]).length≤64
  split<;>simp
 ·intro y hy
  have hy:y∈(if x == 2 then [sub,sub++[120]] else [sub]):=hy
  split at hy
  ·simp only [zn,zw,or_false] at hy
   rcases hy with rfl|rfl
   ·omega
   ·rw [zC];simp;omega
  ·simp only [zn,zw,or_false] at hy
   subst hy;omega
def Y5:=qd Proofs.Tryz.f128 [⟨fun y=>!decide (y = 0),[1,8,12,15],zoc 0 20⟩]
def Wy (Γ:Env) (f:Nat):Prop:=∀ (l:List Int) (k:Nat) (iss sub:List UInt8) (a b id sg:Int) (au:Bool) (hl:l.length≤400) (hk:k≤l.length) (h1:iss.length≤900) (h2:sub.length≤900) (ha:I60 a) (hb:I60 b) (hi:I60 id),EvD Γ f [V.str iss,V.str sub,.agg [V.int a,V.int b],V.int id,V.int sg,V.bool au] (QO l k) ((vM l k iss sub a b id sg au).1.v) (QO l (vM l k iss sub a b id sg au).2)
theorem wx {Γ:Env} {f:Nat} (h:Has Γ.P f 58 Y5.1.1.ac Y5.1.2) (z0:QP Γ 10) (z1:Yh Γ 68) (z2:YG Γ 15) (z3:ym Γ 171):Wy Γ f:=by
 intro l k iss sub a b id sg au hl hk h1 h2 ha hb hi
 refine QT h zsi (Vy _) zc3 zc3 fun C hC hm=>?_
 subst hC
 simp only [Y5,qd,DC.ac]
 simp only [vM,amt,aqQ]
 have n1:=z0 l k 1000 hl hk
 have k1:=Jm (l:=l) (k:=k) (n:=1000) hk
 have r1:=Ja (l:=l) (k:=k) (n:=1000) (by omega) (by omega)
 generalize Jd l k 1000 = w1 at *
 obtain ⟨s,d1⟩:=w1
 simp only at k1 r1
 have n2:=z1 l d1 [3,2,4,1] hl k1 (by simp) (by simp)
 have k2:=KP (l:=l) (k:=d1) (xs:=[3,2,4,1]) k1
 have r2:=qv (l:=l) (k:=d1) (xs:=[3,2,4,1]) (by simp) (by simp) (by decide)
 generalize ofD l d1 [3,2,4,1] = w2 at *
 obtain ⟨hh,d2⟩:=w2
 simp only at k2 r2
 have n3:=z1 l d2 [0,5,10] hl k2 (by simp) (by simp)
 have k3:=KP (l:=l) (k:=d2) (xs:=[0,5,10]) k2
 have r3:=qv (l:=l) (k:=d2) (xs:=[0,5,10]) (by simp) (by simp) (by decide)
 generalize ofD l d2 [0,5,10] = w3 at *
 obtain ⟨ff,d3⟩:=w3
 simp only at k3 r3
 have n4:=z1 l d3 [1000,100,50,20] hl k3 (by simp) (by simp)
 have k4:=KP (l:=l) (k:=d3) (xs:=[1000,100,50,20]) k3
 have r4:=qv (l:=l) (k:=d3) (xs:=[1000,100,50,20]) (by simp) (by simp) (by decide)
 generalize ofD l d3 [1000,100,50,20] = w4 at *
 obtain ⟨tt,d4⟩:=w4
 simp only at k4 r4
 have n5:=z1 l d4 [3,0,1] hl k4 (by simp) (by simp)
 have k5:=KP (l:=l) (k:=d4) (xs:=[3,0,1]) k4
 have r5:=qv (l:=l) (k:=d4) (xs:=[3,0,1]) (by simp) (by simp) (by decide)
 generalize ofD l d4 [3,0,1] = w5 at *
 obtain ⟨pp,d5⟩:=w5
 simp only at k5 r5
 have hsl:sub.length + 1 < 2 ^ 60:=by omega
 cases au
 ·simp only [zj,if_false]
  have n6:=z2 l d4 3 hl k4 (by omega) (by omega)
  generalize Jd l d4 3 = w6 at *
  obtain ⟨xx,d6⟩:=w6
  have hT:=aiu (iss:=iss) (sub:=sub) (a:=a) (b:=b) (id:=id) (au:=false) (s:=s) (h:=hh) (f:=ff) (t:=tt) (p:=0) (x:=xx) h1 h2 ha hb hi (by omega) r2 r3 r4 (by decide)
  have sg9:=z3 _ sg hT
  generalize adc (aky iss sub a b id false s hh ff tt 0 xx) sg = rc at *
  simp only [QO,zp,zo,Qi.v,Qi.cells,aky] at n1 n2 n3 n4 n6 sg9 ⊢
  cases hx:(xx == 3 - 1)
  ·have hx2:(xx == 2) = false:=hx
   rw [hx] at n6
   simp only [hx2,zj,if_false,zp,zo] at sg9
   repeat' (first|(refine zsk ?_;intro K' hK)|(refine zrg ?_;intro K' hK)|refine zsp ?_|(refine zsc ?_ ?_<;>intro hc<;>first|exact znh|try simp only [znz] at hc)|simp (maxSteps:=1000000) only [go_sem,QO,Qi.v,Qi.cells]|(refine hK _ ?_;clear hK K')|apply zan|(apply ajG;(focus first|exact sg9))|(apply acV;(focus exact rfl);(focus first|exact n1|exact n2|exact n3|exact n4|exact n6|exact (z0 _ _ _ zsd zsd)|exact (z1 _ _ _ zsd zsd zsd zsd)|exact (z2 _ _ _ zsd zsd zsd zsd));(focus exact rfl);(focus exact rfl))|(apply wM;(focus exact rfl);(focus exact zrd);(focus exact zrd);(focus first|exact n1|exact n2|exact n3|exact n4|exact n6|exact (z0 _ _ _ zsd zsd)|exact (z1 _ _ _ zsd zsd zsd zsd)|exact (z2 _ _ _ zsd zsd zsd zsd));(focus exact rfl);(focus exact rfl);(focus exact zrd))|exact zsq|fail)
   all_goals (refine QB _ rfl rfl zcd ?_;simp only [go_sem];done)
  ·have hx2:(xx == 2) = true:=hx
   rw [hx] at n6
   simp only [hx2,if_true,zp,zo] at sg9
   repeat' (first|(refine zsk ?_;intro K' hK)|(refine zrg ?_;intro K' hK)|refine zsp ?_|(refine zsc ?_ ?_<;>intro hc<;>first|exact znh|try simp only [znz] at hc)|simp (maxSteps:=1000000) only [go_sem,QO,Qi.v,Qi.cells,hsl]|(refine hK _ ?_;clear hK K')|apply zan|(apply ajG;(focus first|exact sg9))|(apply acV;(focus exact rfl);(focus first|exact n1|exact n2|exact n3|exact n4|exact n6|exact (z0 _ _ _ zsd zsd)|exact (z1 _ _ _ zsd zsd zsd zsd)|exact (z2 _ _ _ zsd zsd zsd zsd));(focus exact rfl);(focus exact rfl))|(apply wM;(focus exact rfl);(focus exact zrd);(focus exact zrd);(focus first|exact n1|exact n2|exact n3|exact n4|exact n6|exact (z0 _ _ _ zsd zsd)|exact (z1 _ _ _ zsd zsd zsd zsd)|exact (z2 _ _ _ zsd zsd zsd zsd));(focus exact rfl);(focus exact rfl);(focus exact zrd))|exact zsq|fail)
   all_goals (refine QB _ rfl rfl zcd ?_;simp only [go_sem];done)
 ·simp only [if_true]
  have n6:=z2 l d5 3 hl k5 (by omega) (by omega)
  generalize Jd l d5 3 = w6 at *
  obtain ⟨xx,d6⟩:=w6
  have hT:=aiu (iss:=iss) (sub:=sub) (a:=a) (b:=b) (id:=id) (au:=true) (s:=s) (h:=hh) (f:=ff) (t:=tt) (p:=pp) (x:=xx) h1 h2 ha hb hi (by omega) r2 r3 r4 r5
  have sg9:=z3 _ sg hT
  generalize adc (aky iss sub a b id true s hh ff tt pp xx) sg = rc at *
  simp only [QO,zp,zo,Qi.v,Qi.cells,aky] at n1 n2 n3 n4 n5 n6 sg9 ⊢
  cases hx:(xx == 3 - 1)
  ·have hx2:(xx == 2) = false:=hx
   rw [hx] at n6
   simp only [hx2,zj,if_false,zp,zo] at sg9
   repeat' (first|(refine zsk ?_;intro K' hK)|(refine zrg ?_;intro K' hK)|refine zsp ?_|(refine zsc ?_ ?_<;>intro hc<;>first|exact znh|try simp only [znz] at hc)|simp (maxSteps:=1000000) only [go_sem,QO,Qi.v,Qi.cells]|(refine hK _ ?_;clear hK K')|apply zan|(apply ajG;(focus first|exact sg9))|(apply acV;(focus exact rfl);(focus first|exact n1|exact n2|exact n3|exact n4|exact n5|exact n6|exact (z0 _ _ _ zsd zsd)|exact (z1 _ _ _ zsd zsd zsd zsd)|exact (z2 _ _ _ zsd zsd zsd zsd));(focus exact rfl);(focus exact rfl))|(apply wM;(focus exact rfl);(focus exact zrd);(focus exact zrd);(focus first|exact n1|exact n2|exact n3|exact n4|exact n5|exact n6|exact (z0 _ _ _ zsd zsd)|exact (z1 _ _ _ zsd zsd zsd zsd)|exact (z2 _ _ _ zsd zsd zsd zsd));(focus exact rfl);(focus exact rfl);(focus exact zrd))|exact zsq|fail)
   all_goals (refine QB _ rfl rfl zcd ?_;simp only [go_sem];done)
  ·have hx2:(xx == 2) = true:=hx
   rw [hx] at n6
   simp only [hx2,if_true,zp,zo] at sg9
   repeat' (first|(refine zsk ?_;intro K' hK)|(refine zrg ?_;intro K' hK)|refine zsp ?_|(refine zsc ?_ ?_<;>intro hc<;>first|exact znh|try simp only [znz] at hc)|simp (maxSteps:=1000000) only [go_sem,QO,Qi.v,Qi.cells,hsl]|(refine hK _ ?_;clear hK K')|apply zan|(apply ajG;(focus first|exact sg9))|(apply acV;(focus exact rfl);(focus first|exact n1|exact n2|exact n3|exact n4|exact n5|exact n6|exact (z0 _ _ _ zsd zsd)|exact (z1 _ _ _ zsd zsd zsd zsd)|exact (z2 _ _ _ zsd zsd zsd zsd));(focus exact rfl);(focus exact rfl))|(apply wM;(focus exact rfl);(focus exact zrd);(focus exact zrd);(focus first|exact n1|exact n2|exact n3|exact n4|exact n5|exact n6|exact (z0 _ _ _ zsd zsd)|exact (z1 _ _ _ zsd zsd zsd zsd)|exact (z2 _ _ _ zsd zsd zsd zsd));(focus exact rfl);(focus exact rfl);(focus exact zrd))|exact zsq|fail)
   all_goals (refine QB _ rfl rfl zcd ?_;simp only [go_sem];done)
theorem an1 {l:List Int} {k:Nat} {au:Bool} (hk:k≤l.length):(amt l k au).2≤l.length:=by
 have k1:=Jm (l:=l) (k:=k) (n:=1000) hk
 have k2:=KP (l:=l) (xs:=[3,2,4,1]) k1
 have k3:=KP (l:=l) (xs:=[0,5,10]) k2
 have k4:=KP (l:=l) (xs:=[1000,100,50,20]) k3
 have k5:=KP (l:=l) (xs:=[3,0,1]) k4
 unfold amt
 cases au
 ·exact Jm k4
 ·exact Jm k5
theorem abV {l:List Int} {k:Nat} {iss sub:List UInt8} {a b id sg:Int} {au:Bool} (hk:k≤l.length):(vM l k iss sub a b id sg au).2≤l.length:=an1 hk
def subj (i:Nat):List UInt8:=[[99,97],[99,98],[99,99]].getD i []
theorem aiJ (i:Nat):(subj i).length≤2:=by
 match i with
 | 0|1|2=>decide
 | n + 3=>simp [subj]
def Ww (l:List Int):Nat→Nat→Nat→List UInt8→Int→List Qi→(List Qi×List UInt8×Int)×Nat
 | 0,_,k,iss,sg,ab=>((ab,iss,sg),k)
 | m + 1,i,k,iss,sg,ab=>Ww l m (i + 1) (vM l k iss (subj i) 5 2048 (11 + (i:Int)) sg true).2 (subj i) (11 + (i:Int)) ((vM l k iss (subj i) 5 2048 (11 + (i:Int)) sg true).1 :: ab)
def yG (l:List Int) (k:Nat) (nm:List UInt8) (a b id:Int):List Qi×Nat :=
 let n:=ofD l k [1,0,2]
 let s:=Jd l n.2 2
 let g:=Ww l n.1.toNat 0 s.2 [114,111,111,116] (1 + s.1) []
 let c:=vM l g.2 g.1.2.1 nm a b id g.1.2.2 false
 (c.1 :: g.1.1,c.2)
theorem Xz:∀ l:List Qi,Kh (l.map Qi.v)
 | []=>trivial
 | x :: r=>⟨by simp [Qi.v,Qi.cells,V.cells,Qa,V.closed],Xz r⟩
theorem vL:∀ l:List Qi,Qa (l.map Qi.v)
 | []=>trivial
 | x :: r=>⟨Vy x,vL r⟩
theorem acT {o:Nat→Option Ob} {br:List Nat} {B:Option (List Nat)}:∀ l:List Qi,Kg o br B (l.map Qi.v) (l.map Qi.v)
 | []=>trivial
 | x :: r=>⟨Qg _ _ _ _ (by simp [Qi.v,Qi.cells,V.cells,Qa,V.closed]),acT r⟩
theorem ajp:∀ l:List Qi,ntL (l.map Qi.v)
 | []=>trivial
 | x :: r=>⟨by simp [Qi.v],ajp r⟩
theorem acS {o:Nat→Option Ob} {br:List Nat} {B:Option (List Nat)}:∀ l:List Qi,Qz o br B (l.map Qi.v) (l.map Qi.v)
 | []=>trivial
 | x :: r=>⟨Qr _ _ _ _ (Vy x),acS r⟩
def arC (l:List Int) (nm:List UInt8) (a b id:Int) (n i k:Nat) (iss:List UInt8) (sg:Int) (ab:List Qi):St :=
 stL [(0,.ptr 0 0),(1,V.str nm),(3,V.int id),(6,.ptr 1 0),(9,V.int n),(10,V.int sg),(11,V.str iss),(12,.hd 2 0 ab.length),(13,V.int i)] [.box true (QO l k),.box true [V.int a,V.int b],.buf true 15 (ab.map Qi.v)]
def qi:=qd Proofs.Tryz.f72 []
def yx (Γ:Env) (f:Nat):Prop:=∀ (l:List Int) (k:Nat) (nm:List UInt8) (a b id:Int) (hl:l.length≤400) (hk:k≤l.length) (h2:nm.length≤900) (ha:I60 a) (hb:I60 b) (hi:I60 id),EvD Γ f [V.str nm,.agg [V.int a,V.int b],V.int id] (QO l k) (.sl 15 ((yG l k nm a b id).1.map Qi.v)) (QO l (yG l k nm a b id).2)
attribute [local go_sem] Qi.cells QO in
theorem afq {Γ:Env} {f:Nat} (h:Has Γ.P f 56 qi.1.1.ac qi.1.2) (z0:Yh Γ 68) (z1:QP Γ 10) (z2:Wy Γ 128):yx Γ f:=by
 intro l k nm a b id hl hk h2 ha hb hi
 refine QT h zsi zcl zc3 zc3 fun C hC hm=>?_
 subst hC
 simp only [qi,qd,DC.ac]
 have hm:C.m = 1:=by simpa using hm
 simp only [yG]
 have n1:=z0 l k [1,0,2] hl hk (by simp) (by simp)
 have k1:=KP (l:=l) (k:=k) (xs:=[1,0,2]) hk
 have m1:=ah1 (l:=l) (k:=k) (xs:=[1,0,2]) (by simp) (by simp)
 generalize ofD l k [1,0,2] = w1 at *
 obtain ⟨n,d1⟩:=w1
 simp only at k1 m1
 obtain ⟨n,rfl⟩:∃ j:Nat,n = (j:Int):=⟨n.toNat,by simp only [zn,zw,or_false] at m1;omega⟩
 have hn2:n≤2:=by simp only [zn,zw,or_false] at m1;omega
 have n2:=z1 l d1 2 hl k1
 have k2:=Jm (l:=l) (k:=d1) (n:=2) k1
 have r2:=Ja (l:=l) (k:=d1) (n:=2) (by omega) (by omega)
 generalize Jd l d1 2 = w2 at *
 obtain ⟨s,d2⟩:=w2
 simp only at k2 r2
 have hws:IntKind.i64.wrap (1 + s) = 1 + s:=Q9 (by omega) (by omega)
 simp only [Int.toNat_natCast]
 generalize hG:Ww l n 0 d2 [114,111,111,116] (1 + s) [] = g
 simp only [QO,zp,zo] at n1 n2 ⊢
 (have zx:=hws);refine zgo ?_;repeat' first|exact zt|apply zan|intro hc
 refine JO (ι:=Nat×Nat×Nat×List UInt8×Int×List Qi) (fun q=>Ww l q.1 q.2.1 q.2.2.1 q.2.2.2.1 q.2.2.2.2.1 q.2.2.2.2.2 = g∧q.2.1 + q.1 = n∧q.2.2.1≤l.length∧q.2.2.2.1.length≤900∧q.2.2.2.2.2.length = q.2.1) (fun q=>arC l nm a b id n q.2.1 q.2.2.1 q.2.2.2.1 q.2.2.2.2.1 q.2.2.2.2.2) (fun q=>q.1) (n,0,d2,[114,111,111,116],1 + s,[]) ⟨hG,by simp,k2,by simp,rfl⟩ ?_ fun q hq K' hL=>?_
 ·refine ais [0,1,11001] none (fun p hp=>?_) ?_ (by simp) (by rw [hm];rfl)
  ·simp only [zn,zw,or_false] at hp
   rcases hp with rfl|rfl|rfl|rfl|rfl|rfl|rfl|rfl|rfl
   ·show conv _ _ _ (.ptr 0 0) (.ptr 0 0)
    simp [conv]
   ·exact Qr _ _ _ (V.str nm) trivial
   ·exact Qr _ _ _ (V.int id) trivial
   ·show conv _ _ _ (.ptr 1 0) (.ptr 1 0)
    simp [conv]
   ·exact Qr _ _ _ (V.int n) trivial
   ·exact Qr _ _ _ (V.int (1 + s)) trivial
   ·exact Qr _ _ _ (V.str _) trivial
   ·show conv _ _ _ (.hd 11001 0 0) (.hd 2 0 0)
    simp [conv]
   ·exact Qr _ _ _ (V.int 0) trivial
  ·exact ⟨⟨_,rfl,fun h=>h,Qg _ _ _ _ (Qk _ _)⟩,⟨_,rfl,fun h=>h,Qg _ _ _ _ ⟨trivial,trivial,trivial⟩⟩,⟨_,rfl,fun h=>h,rfl,rfl⟩,trivial⟩
 obtain ⟨m,i,d,iss,sg,ab⟩:=q
 simp only at hq hL ⊢
 obtain ⟨q1,q2,q3,q4,q5⟩:=hq
 have hta:List.take ab.length (ab.map Qi.v) = ab.map Qi.v:=zb (by simp)
 have hlm:(ab.map Qi.v).length = ab.length:=zh _
 have hce:(∀ y∈ab.map Qi.v,y.cells.length = 15) = True:=eq_true fun y hy=>by
  obtain ⟨z,_,rfl⟩:=kC.1 hy
  rfl
 rcases m with _|m
 ·have hin:i = n:=by omega
  subst hin
  have e1:decide ((i:Int) < (i:Int)) = false:=by simp
  rw [Ww] at q1
  subst q1
  have c1:=z2 l d iss nm a b id sg false hl q3 q4 h2 ha hb hi
  have hcl:=Vy (vM l d iss nm a b id sg false).1
  simp only [arC,stL]
  generalize vM l d iss nm a b id sg false = w at *
  obtain ⟨cc,d5⟩:=w
  simp only [QO,Qi.v,Qi.cells] at c1
  (have zx:=za e1 (za hta (za hlm hce)));refine zgo ?_;repeat' first|exact zt|apply zan|intro hc
  all_goals
   refine QB _ rfl rfl (Qk l d5) ?_
   show conv _ _ _ (.hd 12003 0 (1 + ab.length)) (.sl 15 ((cc :: ab).map Qi.v))
   rw [anV]
   refine ⟨trivial,by simp,.inr ⟨true,_,rfl,?_,ajp _,vL _⟩⟩
   rw [ku,zb (by show (ab.map Qi.v).length + 1≤1 + ab.length;rw [hlm];omega)]
   exact ⟨Qr _ _ _ _ (Vy cc),acS ab⟩
 ·have e1:decide ((i:Int) < (n:Int)) = true:=by simp;omega
  rw [Ww] at q1
  have hsj:([99,97] :: [[99,98],[99,99]])[i]? = some (subj i):=by
   match i,(show i < 2 by omega) with
   | 0,_=>rfl
   | 1,_=>rfl
  have hs2:=aiJ i
  have c1:=z2 l d iss (subj i) 5 2048 (11 + (i:Int)) sg true hl q3 q4 (by omega) (by unfold I60;omega) (by unfold I60;omega) (by unfold I60;omega)
  have hd1:=abV (l:=l) (k:=d) (iss:=iss) (sub:=subj i) (a:=5) (b:=2048) (id:=11 + (i:Int)) (sg:=sg) (au:=true) q3
  have hw1:IntKind.i64.wrap (11 + (i:Int)) = 11 + (i:Int):=Q9 (by omega) (by omega)
  have hw:=Qc (k:=i) (by omega)
  simp only [arC,stL]
  generalize vM l d iss (subj i) 5 2048 (11 + (i:Int)) sg true = w at *
  obtain ⟨cc,d5⟩:=w
  generalize subj i = sj at *
  simp only [QO,Qi.v,Qi.cells] at c1
  have hst:([V.str [99,97],V.str [99,98],V.str [99,99]])[i]? = some (V.str sj):=by
   have:([V.str [99,97],V.str [99,98],V.str [99,99]]) = ([99,97] :: [[99,98],[99,99]]).map V.str:=rfl
   rw [this,zF,hsj];rfl
  (have zx:=za e1 (za hta (za hlm (za hce (za hw (za hw1 hst))))));refine zgo ?_;repeat' first|exact zt|apply zan|intro hc
  all_goals
   refine hL _ (m,i + 1,d5,sj,11 + (i:Int),cc :: ab) ⟨q1,by simp only;omega,hd1,by show sj.length≤900;omega,by simp only [List.length_cons];omega⟩ (kw _) (ais [0,1,21003] none (fun p hp=>?_) ?_ (by simp) (by rw [hm];rfl))
   ·simp only [zn,zw,or_false] at hp
    rcases hp with rfl|rfl|rfl|rfl|rfl|rfl|rfl|rfl|rfl
    ·show conv _ _ _ (.ptr 0 0) (.ptr 0 0)
     simp [conv]
    ·exact Qr _ _ _ (V.str nm) trivial
    ·exact Qr _ _ _ (V.int id) trivial
    ·show conv _ _ _ (.ptr 1 0) (.ptr 1 0)
     simp [conv]
    ·exact Qr _ _ _ (V.int n) trivial
    ·exact Qr _ _ _ (V.int (11 + (i:Int))) trivial
    ·exact Qr _ _ _ (V.str _) trivial
    ·show conv _ _ _ (.hd 21003 0 (1 + ab.length)) (.hd 2 0 (cc :: ab).length)
     rw [List.length_cons,Zu 1]
     simp [conv]
    ·exact Qr _ _ _ (V.int (i + 1:Nat)) trivial
   ·exact ⟨⟨_,rfl,fun h=>h,Qg _ _ _ _ (Qk _ _)⟩,⟨_,rfl,fun h=>h,Qg _ _ _ _ ⟨trivial,trivial,trivial⟩⟩,⟨_,rfl,fun h=>h,rfl,⟨Qg _ _ _ _ (by simp [Qi.cells,V.cells,Qa,V.closed]),acT ab⟩,Xz _⟩,trivial⟩
theorem aez {l:List Qi} {k:Nat} {c:Qi} (h:l[k]? = some c):List.take k ((l.take k).map Qi.v)++[V.agg c.cells] = (l.take (k + 1)).map Qi.v:=by
 have hk:=(zE.1 h).1
 rw [zb (by rw [zh,zJ];omega),zy,h,zD];rfl
def Xb:=qd Proofs.Tryz.f221 []
def WC (Γ:Env) (f:Nat):Prop:=∀ (l:List Qi) (hl:l.length < 2 ^ 30) (hn:∀ c∈l,c.names.length < 2 ^ 30),EvC Γ f [.sl 15 (l.map Qi.v)] (.sl 15 (l.map Qi.v))
attribute [local go_sem] zR Qi.cells Qi.v Yd in
theorem wE {Γ:Env} {f:Nat} (h:Has Γ.P f 22 Xb.1.1.ac Xb.1.2) (z0:Jw Γ 136):WC Γ f:=by
 intro l hl hn
 refine Qn h zsi zcl fun C hC hm=>?_
 subst hC
 simp only [Xb,qd,DC.ac]
 have hlm:(l.map Qi.v).length = l.length:=zh _
 (have zx:=hlm);refine zgo ?_;repeat' first|exact zt|apply zan|intro hc
 refine QA (ι:=Nat) (fun k=>k≤l.length) (fun k=>Yd [(3,.hd 0 0 k),(6,.sl 15 (l.map Qi.v)),(7,V.int l.length),(8,V.int k)] [(0,.buf true 15 ((l.take k).map Qi.v))] 1) (fun k=>l.length - k) 0 (zu _) (Qo [(0,1000)]) (zwg [(0,1000)]) fun k hk K' hL=>?_
 rcases hd:l.drop k with _|⟨c,r⟩
 ·have hkl:=Qj hd
  have e1:decide ((k:Int) < ((l.length:Nat):Int)) = false:=by simp;omega
  obtain rfl:k = l.length:=by omega
  (have zx:=e1);refine zgo ?_;repeat' first|exact zt|apply zan|intro hc
  all_goals first|exact zr|(refine Qd _ rfl ?_;simp only [go_sem];rw [zb (by simp)];done)
 ·obtain ⟨hk',hget,hr⟩:=Qf hd
  have hw:=Qc (k:=k) (by omega)
  have e1:decide ((k:Int) < ((l.length:Nat):Int)) = true:=by simp;omega
  have hnc:=hn c (zk hget)
  have gc:=(z0 c.names (by omega)).b
  have hct:=aez hget
  simp only [Qi.cells] at hct
  (have zx:=za e1 (za hw hget));refine zgo ?_;repeat' first|exact zt|apply zan|intro hc
  all_goals first|exact hL _ (k + 1) (Qo [(0,13001)]) (by omega) (by omega) (JZ [(0,13001)] (by simp only [go_sem,zwl,hct]<;>exact zcc) (by simp only [go_sem,zwl,hct];first|exact Xz _|exact ⟨trivial,Xz _⟩|(repeat' (first|rfl|apply za|omega|exact fun h=>h|exact Exists.intro _ rfl))) (by simp [Qo]) (by simp;omega) (by omega))
def XH:=qd Proofs.Tryz.f264 []
def Vc (Γ:Env) (f:Nat):Prop:=∀ (l:List Qi) (hl:l.length < 2 ^ 30) (hn:∀ c∈l,c.names.length < 2 ^ 30),EvC Γ f [.sl 15 (l.map Qi.v)] (.sl 15 (l.map Qi.v))
attribute [local go_sem] zR Qi.cells Qi.v Yd in
theorem vw {Γ:Env} {f:Nat} (h:Has Γ.P f 20 XH.1.1.ac XH.1.2) (z0:U2 Γ 205):Vc Γ f:=by
 intro l hl hn
 refine Qn h zsi zcl fun C hC hm=>?_
 subst hC
 simp only [XH,qd,DC.ac]
 have hlm:(l.map Qi.v).length = l.length:=zh _
 (have zx:=hlm);refine zgo ?_;repeat' first|exact zt|apply zan|intro hc
 refine QA (ι:=Nat) (fun k=>k≤l.length) (fun k=>Yd [(0,.sl 15 (l.map Qi.v)),(3,.hd 0 0 k),(4,V.int k)] [(0,.buf true 15 ((l.take k).map Qi.v))] 1) (fun k=>l.length - k) 0 (zu _) (Qo [(0,1000)]) (zwg [(0,1000)]) fun k hk K' hL=>?_
 rcases hd:l.drop k with _|⟨c,r⟩
 ·have hkl:=Qj hd
  have e1:decide ((k:Int) < ((l.length:Nat):Int)) = false:=by simp;omega
  obtain rfl:k = l.length:=by omega
  (have zx:=za e1 hlm);refine zgo ?_;repeat' first|exact zt|apply zan|intro hc
  all_goals first|exact zr|(refine Qd _ rfl ?_;simp only [go_sem];rw [zb (by simp)];done)
 ·obtain ⟨hk',hget,hr⟩:=Qf hd
  have hw:=Qc (k:=k) (by omega)
  have e1:decide ((k:Int) < ((l.length:Nat):Int)) = true:=by simp;omega
  have gc:=(z0 c (hn c (zk hget))).b
  have hct:=aez hget
  simp only [Qi.cells] at hct
  simp only [Qi.v,Qi.cells] at gc
  (have zx:=za e1 (za hw (za hlm hget)));refine zgo ?_;repeat' first|exact zt|apply zan|intro hc
  all_goals first|exact hL _ (k + 1) (Qo [(0,11001)]) (by omega) (by omega) (JZ [(0,11001)] (by simp only [go_sem,zwl,hct]<;>exact zcc) (by simp only [go_sem,zwl,hct];first|exact Xz _|exact ⟨trivial,Xz _⟩|(repeat' (first|rfl|apply za|omega|exact fun h=>h|exact Exists.intro _ rfl))) (by simp [Qo]) (by simp;omega) (by omega))
def VY:=qd Proofs.Tryz.f189 []
def Ku (Γ:Env) (f:Nat):Prop:=∀ (x:Qs) (sm:x.Sm),EvC Γ f [x.v] (x.v)
attribute [local go_sem] Qs.cells in
theorem acG {Γ:Env} {f:Nat} (h:Has Γ.P f 8 VY.1.1.ac VY.1.2) (z0:WC Γ 221):Ku Γ f:=by
 intro x sm
 refine Qn h zsi (by simp only [Qs.v,Qs.cells,V.closed,Qa,and_self]) fun C hC hm=>?_
 subst hC
 simp only [VY,qd,DC.ac]
 have gc:=(z0 x.chain sm.hc sm.hn).b
 simp only [Qs.v]
 refine zgo ?_;repeat' first|exact zt|apply zan|intro hc
 all_goals first|exact zr|(refine Qd _ rfl ?_;simp only [go_sem,Qs.cells];done)
def VR:=qd Proofs.Tryz.f235 []
def Kn (Γ:Env) (f:Nat):Prop:=∀ (x:Qs) (sm:x.Sm),EvC Γ f [x.v] (x.v)
attribute [local go_sem] Qs.cells in
theorem acx {Γ:Env} {f:Nat} (h:Has Γ.P f 8 VR.1.1.ac VR.1.2) (z0:Vc Γ 264):Kn Γ f:=by
 intro x sm
 refine Qn h zsi (by simp only [Qs.v,Qs.cells,V.closed,Qa,and_self]) fun C hC hm=>?_
 subst hC
 simp only [VR,qd,DC.ac]
 have gc:=(z0 x.chain sm.hc sm.hn).b
 simp only [Qs.v]
 refine zgo ?_;repeat' first|exact zt|apply zan|intro hc
 all_goals first|exact zr|(refine Qd _ rfl ?_;simp only [go_sem,Qs.cells];done)
def XL:=qd Proofs.Tryz.f188 []
def Vg (Γ:Env) (f:Nat):Prop:=∀ (x:Qs) (s:List UInt8),EvN Γ f [x.v,.ro [V.str s] 0] (V.bool (x.alias == s))
theorem vA {Γ:Env} {f:Nat} (h:Has Γ.P f 8 XL.1.1.ac XL.1.2) :Vg Γ f:=by
 intro x s
 refine Qb h zsi zcl zcl fun C hC hm=>?_
 subst hC
 simp only [XL,qd,DC.ac]
 simp only [Qs.v,Qs.cells]
 exact zg
def QF:=qd Proofs.Tryz.f187 []
def QW (Γ:Env) (f:Nat):Prop:=∀ (xs:List Qs) (g:Nat) (cap:List V) (p:Qs→Bool) (hp:∀ x∈xs,EvN Γ g (Qs.v x :: cap) (V.bool (p x))) (hcap:Qa cap) (hl:xs.length < 2 ^ 62),EvN Γ f [.sl 6 (xs.map Qs.v),.clo g cap] (V.int (KA p 0 xs))
attribute [local go_sem] Qs.cells Qs.v in
theorem Y0 {Γ:Env} {f:Nat} (h:Has Γ.P f 19 QF.1.1.ac QF.1.2) :QW Γ f:=by
 intro xs g cap p hp hcap hl
 refine Qb h zsi zcl zcl fun C hC hm=>?_
 subst hC
 simp only [QF,qd,DC.ac]
 have s1:∀ o,JI o cap = cap:=fun o=>J1 o cap hcap
 have s2:∀ o B,Qu o B cap = True:=fun o B=>eq_true (Jk o B cap hcap)
 refine zgo ?_;repeat' first|exact zt|apply zan|intro hc
 refine Qp (ι:=Nat) (fun k=>k≤xs.length∧KA p k (xs.drop k) = KA p 0 xs) (fun k=>[(8,V.int k)]) (fun k=>xs.length - k) 0 (by omega) ⟨by simp,by simp⟩ zol (fun i hi=>by simp only [ovT,Je,Nat.reduceEqDiff,reduceIte];(repeat' first|exact aar|refine xG ?_ ?_|simp only [V.lt,ltL,and_self,and_true]|omega);exact Xy _ _ hcap) (by simp only [Nat.reduceAdd,ovT,Je,Nat.reduceEqDiff,reduceIte,Xv,Vx,aiQ,u32,u33,u34,u35,u36,u37,u38,u39,and_self,and_true,true_and];first|rfl|exact QU _ _ hcap) fun k hk K' hL=>?_
 obtain ⟨hk,hinv⟩:=hk
 simp only [ovT,Je,Nat.reduceEqDiff,reduceIte]
 rcases hd:xs.drop k with _|⟨y,r⟩
 ·have:=Qj hd
  rw [hd] at hinv
  have e1:decide ((k:Int) < (((xs.map Qs.v).length:Nat):Int)) = false:=by simp;omega
  (have zx:=e1);refine zgo ?_;repeat' first|exact zt|apply zan|intro hc
  refine Qd _ rfl ?_
  simp only [go_sem]
  rw [← hinv];rfl
 ·obtain ⟨hk,hget,hr⟩:=Qf hd
  rw [hd] at hinv
  have hw:=Qc (k:=k) (by omega)
  have e1:decide ((k:Int) < (((xs.map Qs.v).length:Nat):Int)) = true:=by simp;omega
  have hpy:=hp y (zk hget)
  by_cases hy:p y = true
  ·rw [hy] at hpy
   (have zy0:=hpy.b;have zx:=za hget (za hw (za e1 (za s1 s2))));refine zgo ?_;repeat' first|exact zt|apply zan|intro hc
   refine Qd _ rfl ?_;simp only [go_sem]
   rw [← hinv];simp [KA,hy]
  ·have hy':p y = false:=by simpa using hy
   rw [hy'] at hpy
   (have zy0:=hpy.b;have zx:=za hget (za hw (za e1 (za s1 s2))));refine zgo ?_;repeat' first|exact zt|apply zan|intro hc
   refine hL _ (k + 1) zet ⟨by omega,?_⟩ (by omega) zoe
   rw [hr,← hinv,KA,if_neg hy]
theorem agG {α:Type} (p:α→Bool):∀ (xs:List α) (k:Nat),(KA p k xs = -1∧xs.find? p = none)∨∃ j x,KA p k xs = ((k + j:Nat):Int)∧xs[j]? = some x∧xs.find? p = some x
 | [],k=>.inl ⟨rfl,rfl⟩
 | x :: r,k=>by
   by_cases h:p x = true
   ·exact .inr ⟨0,x,by rw [KA,if_pos h];rfl,rfl,by rw [List.find?_cons_of_pos h]⟩
   ·rw [KA,if_neg h,List.find?_cons_of_neg h]
    rcases agG p r (k + 1) with ⟨h1,h2⟩|⟨j,y,h1,h2,h3⟩
    ·exact .inl ⟨h1,h2⟩
    ·exact .inr ⟨j + 1,y,by rw [h1];congr 1;omega,by simpa using h2,h3⟩
def y5 (l:List Qs) (s:List UInt8):Option Qs:=l.find? fun x=>x.alias == s
def abv (o:Option Qs):V:=match o with|some x=>.tup [x.v,V.bool true]|none=>.tup [(Qs.mk [] 0 0 0 false []).v,V.bool false]
theorem aa8 (o:Option Qs):(abv o).closed:=by
 cases o<;>simp only [abv,Qs.v,Qs.cells,V.closed,Qa,and_self,zo]
def WT:=qd Proofs.Tryz.f152 []
def Uw (Γ:Env) (f:Nat):Prop:=∀ (l:List Qs) (s:List UInt8) (hl:l.length < 2 ^ 60) (hs:∀ x∈l,x.Sm),EvC Γ f [.sl 6 (l.map Qs.v),V.str s] (abv (y5 l s))
attribute [local go_sem] Qs.cells Qs.v in
theorem abE {Γ:Env} {f:Nat} (h:Has Γ.P f 18 WT.1.1.ac WT.1.2) (z0:Vg Γ 188) (z1:QW Γ 187) (z2:Ku Γ 189):Uw Γ f:=by
 intro l s hl hs
 refine Qn h zsi (aa8 _) fun C hC hm=>?_
 subst hC
 simp only [WT,qd,DC.ac]
 have hi:=(z1 l 188 [.ro [V.str s] 0] (fun x=>x.alias == s) (fun x _=>z0 x s) (by simp [V.closed,Qa]) (by omega)).b
 rcases agG (fun x:Qs=>x.alias == s) l 0 with ⟨h1,h2⟩|⟨j,x,h1,h2,h3⟩
 ·rw [show y5 l s = none from h2]
  rw [h1] at hi
  simp only [abv,Qs.v,Qs.cells]
  exact zg
 ·rw [show y5 l s = some x from h3]
  rw [h1,Zs] at hi
  have ho:=(z2 x (hs x (zk h2))).b
  have e1:decide ((j:Int) < 0) = false:=by simp
  simp only [abv,Qs.v,Qs.cells] at ho ⊢
  (have zx:=za e1 h2);exact zg
def KW:=qd Proofs.Tryz.f195 []
def yk (Γ:Env) (f:Nat):Prop:=∀ (l:List Qs) (s:List UInt8) (hl:l.length < 2 ^ 60) (hs:∀ x∈l,x.Sm),EvC Γ f [.sl 6 (l.map Qs.v),V.str s] (abv (y5 l s))
attribute [local go_sem] Qs.cells Qs.v in
theorem afa {Γ:Env} {f:Nat} (h:Has Γ.P f 26 KW.1.1.ac KW.1.2) (z0:Kn Γ 235):yk Γ f:=by
 intro l s hl hs
 refine Qn h zsi (aa8 _) fun C hC hm=>?_
 subst hC
 simp only [KW,qd,DC.ac]
 have hlm:(l.map Qs.v).length = l.length:=zh _
 (have zx:=hlm);refine zgo ?_;repeat' first|exact zt|apply zan|intro hc
 refine Qp (ι:=Nat) (fun k=>k≤l.length∧y5 (l.drop k) s = y5 l s) (fun k=>[(6,V.int k)]) (fun k=>l.length - k) 0 (by omega) ⟨zu _,rfl⟩ (ah9 (by decide) (by simp [Ob.lt,ltL,V.lt]) (ah9 (by decide) (by simp [Ob.lt,ltL,V.lt]) ai1)) zlt zet fun k hk K' hL=>?_
 obtain ⟨hk,hinv⟩:=hk
 simp only [ovT,Je,Nat.reduceEqDiff,reduceIte]
 rcases hd:l.drop k with _|⟨x,r⟩
 ·have hkl:=Qj hd
  rw [hd] at hinv
  have e1:decide ((k:Int) < ((l.length:Nat):Int)) = false:=by simp;omega
  rw [← hinv]
  simp only [y5,List.find?_nil,abv,Qs.v,Qs.cells]
  (have zx:=za e1 hlm);exact zg
 ·obtain ⟨hk',hget,hr⟩:=Qf hd
  rw [hd] at hinv
  have hw:=Qc (k:=k) (by omega)
  have e1:decide ((k:Int) < ((l.length:Nat):Int)) = true:=by simp;omega
  rcases hx:x.alias == s with _|_
  ·have h2:y5 r s = y5 l s:=by rw [← hinv,y5,y5,List.find?_cons_of_neg (by rw [hx];decide)]
   (have zx:=za e1 (za hw (za hlm (za hget hx))));refine zgo ?_;repeat' first|exact zt|apply zan|intro hc
   all_goals exact hL _ (k + 1) zet ⟨by omega,by rw [hr];exact h2⟩ (by omega) zoe
  ·have h2:y5 l s = some x:=by rw [← hinv,y5,List.find?_cons_of_pos (by exact hx)]
   have ho:=(z0 x (hs x (zk hget))).b
   rw [h2]
   simp only [abv,Qs.v,Qs.cells] at ho ⊢
   (have zx:=za e1 (za hw (za hlm (za hget hx))));exact zg
def drC (e:QI) (st:List Qs):List V:=[V.str e.name,V.int e.least,V.int e.most,.sl 1 (e.suites.map V.int),V.bool e.own,.sl 4 (e.idents.map Qy.v),.sl 1 (e.anchors.map V.int),.sl 1 (e.hashes.map V.int),V.bool e.fall,.sl 6 (st.map Qs.v)]
@[simp] theorem J2 (e:QI) (st:List Qs):Qa (drC e st):=by simp [drC,V.closed,Qa]
theorem agm {e:QI} (st:List Qs):Qa (drC e st):=J2 e st
def af1:List (List UInt8)→Bool|[s]=>amY s|_=>false
def aiI (n:Int):List (List UInt8)→Int|[s]=>Xo s|_=>n
def chL (y:List UInt8):List (List UInt8)→Bool|[s]=>s == y|_=>false
def ch2 (y n:List UInt8):List (List UInt8)→Bool|[s]=>s == y || s == n|_=>false
def lsB:List (List UInt8)→Bool|[s]=>(Xm s).2.2 == 0|_=>false
def lsL (l:List Int):List (List UInt8)→List Int|[s]=>(Xm s).1|_=>l
def Y6:=qd Proofs.Tryz.f95 []
def YV (Γ:Env) (f:Nat):Prop:=∀ (l:List (List UInt8)) (e:QI) (st:List Qs) (most:Bool) (hs:∀ s∈l,s.length < 2 ^ 30),EvF Γ f (if most then 2 else 1) [.sl 1 (l.map V.str)] (drC e st) (V.bool (af1 l)) (drC (if most then { e with most:=aiI e.most l } else { e with least:=aiI e.least l }) st)
attribute [local go_sem] List.length_nil in
theorem wz {Γ:Env} {f:Nat} (h:Has Γ.P f 29 Y6.1.1.ac Y6.1.2) (z0:YT Γ 150):YV Γ f:=by
 intro l e st most hs
 refine wH h (by simp) (by first|exact J2 _ _|simp only [V.closed,Qa,and_self]) (by first|exact PDraft.cells_closed _|exact Qk _ _|simp only [V.closed,Qa,and_self,and_true,true_and]|(simp [V.closed,Qa];done)) (by first|exact PDraft.cells_closed _|exact Qk _ _|simp only [V.closed,Qa,and_self,and_true,true_and]|(simp [V.closed,Qa];done)) fun C hC hm=>?_
 subst hC
 simp only [Y6,qd,DC.ac]
 rcases l with _|⟨s,_|⟨t,r⟩⟩
 ·have e1:((0:Int) != 1) = true:=by decide
  rcases most with _|_
  ·simp only [zj,if_false,drC,af1,aiI,zo]
   (have zx:=e1);refine zgo ?_;repeat' first|exact zt|apply zan|intro hc
   all_goals (refine QB _ rfl rfl zcd ?_;simp only [go_sem];done)
  ·simp only [if_true,drC,af1,aiI,zo]
   (have zx:=e1);refine zgo ?_;repeat' first|exact zt|apply zan|intro hc
   all_goals (refine QB _ rfl rfl zcd ?_;simp only [go_sem];done)
 ·have hd:=(z0 s (hs s (by simp))).b
  rcases most with _|_
  ·simp only [zj,if_false,drC,af1,aiI,amY,zp,zo]
   refine zgo ?_;repeat' first|exact zt|apply zan|intro hc
   all_goals first|(refine QB _ rfl rfl zcd ?_;simp only [go_sem];done)|(refine QB _ rfl rfl zcd ?_;simp only [go_sem];simp [*];done)
  ·simp only [if_true,drC,af1,aiI,amY,zp,zo]
   refine zgo ?_;repeat' first|exact zt|apply zan|intro hc
   all_goals first|(refine QB _ rfl rfl zcd ?_;simp only [go_sem];done)|(refine QB _ rfl rfl zcd ?_;simp only [go_sem];simp [*];done)
 ·have e1:((((s :: t :: r).map V.str).length:Int) != 1) = true:=by simp;omega
  rcases most with _|_
  ·simp only [zj,if_false,drC,af1,aiI]
   (have zx:=e1);refine zgo ?_;repeat' first|exact zt|apply zan|intro hc
   all_goals (refine QB _ rfl rfl zcd ?_;simp only [go_sem];done)
  ·simp only [if_true,drC,af1,aiI]
   (have zx:=e1);refine zgo ?_;repeat' first|exact zt|apply zan|intro hc
   all_goals (refine QB _ rfl rfl zcd ?_;simp only [go_sem];done)
def XO:=qd Proofs.Tryz.f99 []
def Xh (Γ:Env) (f:Nat):Prop:=∀ (l:List (List UInt8)) (yes no:List UInt8) (e:QI) (st:List Qs) (own:Bool),EvF Γ f (if own then 4 else 8) [.sl 1 (l.map V.str),V.str yes,V.str no] (drC e st) (V.bool (ch2 yes no l)) (drC (if own then { e with own:=chL yes l } else { e with fall:=chL yes l }) st)
attribute [local go_sem] List.length_nil in
theorem vD {Γ:Env} {f:Nat} (h:Has Γ.P f 38 XO.1.1.ac XO.1.2) :Xh Γ f:=by
 intro l yes no e st own
 refine wH h (by simp) (by first|exact J2 _ _|simp only [V.closed,Qa,and_self]) (by first|exact PDraft.cells_closed _|exact Qk _ _|simp only [V.closed,Qa,and_self,and_true,true_and]|(simp [V.closed,Qa];done)) (by first|exact PDraft.cells_closed _|exact Qk _ _|simp only [V.closed,Qa,and_self,and_true,true_and]|(simp [V.closed,Qa];done)) fun C hC hm=>?_
 subst hC
 simp only [XO,qd,DC.ac]
 rcases l with _|⟨s,_|⟨t,r⟩⟩
 ·have e1:((0:Int) == 1) = false:=by decide
  rcases own with _|_
  ·simp only [zj,if_false,drC,ch2,chL,zo]
   (have zx:=e1);refine zgo ?_;repeat' first|exact zt|apply zan|intro hc
   all_goals (refine QB _ rfl rfl zcd ?_;simp only [go_sem];done)
  ·simp only [if_true,drC,ch2,chL,zo]
   (have zx:=e1);refine zgo ?_;repeat' first|exact zt|apply zan|intro hc
   all_goals (refine QB _ rfl rfl zcd ?_;simp only [go_sem];done)
 ·rcases own with _|_
  ·simp only [zj,if_false,drC,ch2,chL,zp,zo]
   rcases hq:s == yes with _|_
   ·(have zx:=hq);refine zgo ?_;repeat' first|exact zt|apply zan|intro hc
    all_goals first|(refine QB _ rfl rfl zcd ?_;simp only [go_sem];done)|(refine QB _ rfl rfl zcd ?_;simp only [go_sem];simp [*];done)
   ·(have zx:=hq);refine zgo ?_;repeat' first|exact zt|apply zan|intro hc
    all_goals first|(refine QB _ rfl rfl zcd ?_;simp only [go_sem];done)|(refine QB _ rfl rfl zcd ?_;simp only [go_sem];simp [*];done)
  ·simp only [if_true,drC,ch2,chL,zp,zo]
   rcases hq:s == yes with _|_
   ·(have zx:=hq);refine zgo ?_;repeat' first|exact zt|apply zan|intro hc
    all_goals first|(refine QB _ rfl rfl zcd ?_;simp only [go_sem];done)|(refine QB _ rfl rfl zcd ?_;simp only [go_sem];simp [*];done)
   ·(have zx:=hq);refine zgo ?_;repeat' first|exact zt|apply zan|intro hc
    all_goals first|(refine QB _ rfl rfl zcd ?_;simp only [go_sem];done)|(refine QB _ rfl rfl zcd ?_;simp only [go_sem];simp [*];done)
 ·have e1:((((s :: t :: r).map V.str).length:Int) == 1) = false:=by simp;omega
  rcases own with _|_
  ·simp only [zj,if_false,drC,ch2,chL]
   (have zx:=e1);refine zgo ?_;repeat' first|exact zt|apply zan|intro hc
   all_goals (refine QB _ rfl rfl zcd ?_;simp only [go_sem];done)
  ·simp only [if_true,drC,ch2,chL]
   (have zx:=e1);refine zgo ?_;repeat' first|exact zt|apply zan|intro hc
   all_goals (refine QB _ rfl rfl zcd ?_;simp only [go_sem];done)
def Yb:=qd Proofs.Tryz.f97 []
def Jo (Γ:Env) (f:Nat):Prop:=∀ (l:List (List UInt8)) (e:QI) (st:List Qs) (hs:∀ s∈l,s.length < 2 ^ 30),EvD Γ f [.sl 1 (l.map V.str)] (drC e st) (V.bool (lsB l)) (drC { e with suites:=lsL e.suites l } st)
attribute [local go_sem] List.length_nil in
theorem jP {Γ:Env} {f:Nat} (h:Has Γ.P f 26 Yb.1.1.ac Yb.1.2) (z0:W9 Γ 151):Jo Γ f:=by
 intro l e st hs
 refine QT h zsi (by first|exact J2 _ _|simp only [V.closed,Qa,and_self]) zc3 zc3 fun C hC hm=>?_
 subst hC
 simp only [Yb,qd,DC.ac]
 rcases l with _|⟨s,_|⟨t,r⟩⟩
 ·have e1:((0:Int) != 1) = true:=by decide
  simp only [drC,lsB,lsL,zo]
  (have zx:=e1);refine zgo ?_;repeat' first|exact zt|apply zan|intro hc
  all_goals (refine QB _ rfl rfl zcd ?_;simp only [go_sem];done)
 ·have hp:=(z0 s (hs s (by simp))).b
  rw [Vr] at hp
  simp only [drC,lsB,lsL,zp,zo]
  refine zgo ?_;repeat' first|exact zt|apply zan|intro hc
  all_goals (refine QB _ rfl rfl zcd ?_;simp only [go_sem];done)
 ·have e1:((((s :: t :: r).map V.str).length:Int) != 1) = true:=by simp;omega
  simp only [drC,lsB,lsL]
  (have zx:=e1);refine zgo ?_;repeat' first|exact zt|apply zan|intro hc
  all_goals (refine QB _ rfl rfl zcd ?_;simp only [go_sem];done)
def JC:=qd Proofs.Tryz.f94 []
def Q8 (Γ:Env) (f:Nat):Prop:=∀ (l:List (List UInt8)) (e:QI) (st:List Qs) (hs:∀ s∈l,s.length < 2 ^ 30),EvH Γ f (.sl 1 (l.map V.str)) (drC e st) (V.bool (af1 l)) (drC { e with least:=aiI e.least l } st)
theorem KG {Γ:Env} {f:Nat} (h:Has Γ.P f 10 JC.1.1.ac JC.1.2) (z0:YV Γ 95):Q8 Γ f:=by
 intro l e st hs
 refine Vv h (by simp) (by first|exact J2 _ _|simp only [V.closed,Qa,and_self]) (by first|exact PDraft.cells_closed _|exact Qk _ _|simp only [V.closed,Qa,and_self,and_true,true_and]|(simp [V.closed,Qa];done)) (by first|exact PDraft.cells_closed _|exact Qk _ _|simp only [V.closed,Qa,and_self,and_true,true_and]|(simp [V.closed,Qa];done)) fun C hC hm=>?_
 subst hC
 simp only [JC,qd,DC.ac]
 have hv:=z0 l e st false hs
 simp only [zj,if_false,drC] at hv ⊢
 refine zgo ?_;repeat' first|exact zt|apply zan|intro hc
 all_goals first|(refine aeo _ rfl rfl rfl (by first|simp only [V.closed,Qa,and_self,and_true,true_and]|(simp [V.closed,Qa];done)) ?_;simp only [go_sem];done)
def JB:=qd Proofs.Tryz.f96 []
def Q7 (Γ:Env) (f:Nat):Prop:=∀ (l:List (List UInt8)) (e:QI) (st:List Qs) (hs:∀ s∈l,s.length < 2 ^ 30),EvH Γ f (.sl 1 (l.map V.str)) (drC e st) (V.bool (af1 l)) (drC { e with most:=aiI e.most l } st)
theorem KF {Γ:Env} {f:Nat} (h:Has Γ.P f 10 JB.1.1.ac JB.1.2) (z0:YV Γ 95):Q7 Γ f:=by
 intro l e st hs
 refine Vv h (by simp) (by first|exact J2 _ _|simp only [V.closed,Qa,and_self]) (by first|exact PDraft.cells_closed _|exact Qk _ _|simp only [V.closed,Qa,and_self,and_true,true_and]|(simp [V.closed,Qa];done)) (by first|exact PDraft.cells_closed _|exact Qk _ _|simp only [V.closed,Qa,and_self,and_true,true_and]|(simp [V.closed,Qa];done)) fun C hC hm=>?_
 subst hC
 simp only [JB,qd,DC.ac]
 have hv:=z0 l e st true hs
 simp only [if_true,drC] at hv ⊢
 refine zgo ?_;repeat' first|exact zt|apply zan|intro hc
 all_goals first|(refine aeo _ rfl rfl rfl (by first|simp only [V.closed,Qa,and_self,and_true,true_and]|(simp [V.closed,Qa];done)) ?_;simp only [go_sem];done)
def JA:=qd Proofs.Tryz.f98 []
def Q6 (Γ:Env) (f:Nat):Prop:=∀ (l:List (List UInt8)) (e:QI) (st:List Qs),EvH Γ f (.sl 1 (l.map V.str)) (drC e st) (V.bool (ch2 [111,119,110] [99,108,105,101,110,116] l)) (drC { e with own:=chL [111,119,110] l } st)
theorem KE {Γ:Env} {f:Nat} (h:Has Γ.P f 10 JA.1.1.ac JA.1.2) (z0:Xh Γ 99):Q6 Γ f:=by
 intro l e st
 refine Vv h (by simp) (by first|exact J2 _ _|simp only [V.closed,Qa,and_self]) (by first|exact PDraft.cells_closed _|exact Qk _ _|simp only [V.closed,Qa,and_self,and_true,true_and]|(simp [V.closed,Qa];done)) (by first|exact PDraft.cells_closed _|exact Qk _ _|simp only [V.closed,Qa,and_self,and_true,true_and]|(simp [V.closed,Qa];done)) fun C hC hm=>?_
 subst hC
 simp only [JA,qd,DC.ac]
 have hv:=z0 l [111,119,110] [99,108,105,101,110,116] e st true
 simp only [if_true,drC] at hv ⊢
 refine zgo ?_;repeat' first|exact zt|apply zan|intro hc
 all_goals first|(refine aeo _ rfl rfl rfl (by first|simp only [V.closed,Qa,and_self,and_true,true_and]|(simp [V.closed,Qa];done)) ?_;simp only [go_sem];done)
def Jx:=qd Proofs.Tryz.f106 []
def Q3 (Γ:Env) (f:Nat):Prop:=∀ (l:List (List UInt8)) (e:QI) (st:List Qs),EvH Γ f (.sl 1 (l.map V.str)) (drC e st) (V.bool (ch2 [121,101,115] [110,111] l)) (drC { e with fall:=chL [121,101,115] l } st)
theorem KB {Γ:Env} {f:Nat} (h:Has Γ.P f 10 Jx.1.1.ac Jx.1.2) (z0:Xh Γ 99):Q3 Γ f:=by
 intro l e st
 refine Vv h (by simp) (by first|exact J2 _ _|simp only [V.closed,Qa,and_self]) (by first|exact PDraft.cells_closed _|exact Qk _ _|simp only [V.closed,Qa,and_self,and_true,true_and]|(simp [V.closed,Qa];done)) (by first|exact PDraft.cells_closed _|exact Qk _ _|simp only [V.closed,Qa,and_self,and_true,true_and]|(simp [V.closed,Qa];done)) fun C hC hm=>?_
 subst hC
 simp only [Jx,qd,DC.ac]
 have hv:=z0 l [121,101,115] [110,111] e st false
 simp only [zj,if_false,drC] at hv ⊢
 refine zgo ?_;repeat' first|exact zt|apply zan|intro hc
 all_goals first|(refine aeo _ rfl rfl rfl (by first|simp only [V.closed,Qa,and_self,and_true,true_and]|(simp [V.closed,Qa];done)) ?_;simp only [go_sem];done)
end Av
end
