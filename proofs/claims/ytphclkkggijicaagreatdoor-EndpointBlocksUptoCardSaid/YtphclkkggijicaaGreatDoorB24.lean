/- Calls whose arguments show objects from within. -/
import Derived.Test.YtphclkkggijicaaGreatDoorB23
import Derived.Test.YtphclkkggijicaaGreatDoorB12
import Derived.Test.YtphclkkggijicaaGreatDoorB20
import Derived.Test.YtphclkkggijicaaGreatDoorB19
import Derived.Test.YtphclkkggijicaaGreatDoorB22
set_option linter.unusedVariables false
set_option linter.unusedSimpArgs false
noncomputable section
set_option maxRecDepth 10000
set_option maxHeartbeats 4000000
namespace Av
open Go
attribute [local irreducible] AWp W7 Kx jy awS awC vE awQ aay QP W6 vu awR Vn awB okR jx ris
def Jm:=qd Proofs.Tryz.f136 []
def JF (Γ:Env) (f:Nat):Prop:=∀ (l:List (List UInt8)) (hl:l.length < 2 ^ 34),EvC Γ f [.sl 1 (l.map V.str)] (.sl 1 (l.map V.str))
theorem VU {Γ:Env} {f:Nat} (h:Has Γ.P f 8 Jm.1.1.ac Jm.1.2) :JF Γ f:=by
 intro l hl
 refine Qn h zsi zcl fun C hC hm=>?_
 subst hC
 simp only [Jm,qd,DC.ac]
 rcases l with _|⟨x,r⟩
 ·repeat' (first|(refine zsk ?_;intro K' hK)|refine zsp ?_|(refine zsc ?_ ?_<;>intro hc<;>first|exact znh|try simp only [znz] at hc)|simp (maxSteps:=1000000) only [go_sem]|(refine hK _ ?_;clear hK K')|apply zan|exact zsq|fail)
  intro t
  rcases t with _|_
  ·repeat' (first|(refine zsk ?_;intro K' hK)|refine zsp ?_|(refine zsc ?_ ?_<;>intro hc<;>first|exact znh|try simp only [znz] at hc)|simp (maxSteps:=1000000) only [go_sem]|(refine hK _ ?_;clear hK K')|apply zan|exact zsq|fail)
   all_goals exact zr
  ·repeat' (first|(refine zsk ?_;intro K' hK)|refine zsp ?_|(refine zsc ?_ ?_<;>intro hc<;>first|exact znh|try simp only [znz] at hc)|simp (maxSteps:=1000000) only [go_sem]|(refine hK _ ?_;clear hK K')|apply zan|exact zsq|fail)
   all_goals exact zr
 ·repeat' (first|(refine zsk ?_;intro K' hK)|refine zsp ?_|(refine zsc ?_ ?_<;>intro hc<;>first|exact znh|try simp only [znz] at hc)|simp (maxSteps:=1000000) only [go_sem]|(refine hK _ ?_;clear hK K')|apply zan|exact zsq|fail)
  all_goals first
   | (simp only [zh,List.length_cons] at hl ⊢;omega)
   | (refine Qf _ rfl ?_;simp only [go_sem];first|done|(rw [zb (by simp)];done)|(rw [zb (by simp)];rfl)|trace_state)
end Av
end
section
namespace Av
open Go
mutual
def V.deep:V→List Nat
 | .hd a _ _=>[a]
 | .ptr a _=>[a]
 | .agg cs=>ahB cs
 | .tup cs=>ahB cs
 | .clo _ cs=>ahB cs
 | .top=>[]
 | .sc _=>[]
 | .nn=>[]
 | .sl _ _=>[]
 | .ept _ _ _=>[]
 | .mp _=>[]
 | .ro _ _=>[]
def ahB:List V→List Nat
 | []=>[]
 | v :: r=>v.deep++ahB r
end
attribute [go_sem] V.deep ahB List.nil_append zY List.cons_append
section
variable {Γ:Env} {b:Nat} {r:List AO} {s:St} {d:Option Nat} {f:FuncId} {acts args:List V} {res:V} {K:St→Prop} {okf:Option (List Nat)→Prop}
theorem ake (h:EvC Γ f args res) (hc:okf (some (ahB acts))) (hk:W7 Γ (b + KK) r { t:=(s.put d res).t,o:=j3 (some (ahB acts)) [] s.o,n:=s.n } K):aii Γ b r s d f acts args okf K:=by
 rintro rfl rfl
 refine Yx ⟨_,_,_,_,[],some (ahB acts),h.1,JC _ _ _ hc,trivial,zV,by grind,by simp,by simp [KK],fun h=>by simp at h,?_⟩
 simp only [YD,YK,Jx _ _ h.2]
 exact hk
end
end Av
end
noncomputable section
set_option maxRecDepth 10000
set_option maxHeartbeats 4000000
namespace Av
open Go
attribute [local irreducible] AWp W7 Kx jy awS awC vE awQ aay QP W6 vu awR Vn awB okR jx ris
def amq (l:List Int) (k:Nat):(Int×Int)×Nat:=(((ofD l k [5,7,5,6,8,9]).1,(adH l (ofD l k [5,7,5,6,8,9]).2 (ofD l k [5,7,5,6,8,9]).1).1),(adH l (ofD l k [5,7,5,6,8,9]).2 (ofD l k [5,7,5,6,8,9]).1).2)
def wq:=qd Proofs.Tryz.f70 []
def vA (Γ:Env) (f:Nat):Prop:=∀ (l:List Int) (k:Nat) (hl:l.length≤400) (hk:k≤l.length),EvD Γ f [] (QQ l k) (.agg [V.int (amq l k).1.1,V.int (amq l k).1.2]) (QQ l (amq l k).2)
attribute [local go_sem] QQ in
theorem aiX {Γ:Env} {f:Nat} (h:Has Γ.P f 12 wq.1.1.ac wq.1.2) (z0:Yr Γ 68) (z1:wc Γ 71):vA Γ f:=by
 intro l k hl hk
 refine Q5 h zsi zcl zc3 zc3 fun C hC hm=>?_
 subst hC
 simp only [wq,qd,DC.ac]
 have n1:=z0 l k [5,7,5,6,8,9] hl hk (by simp) (by simp)
 have hk1:=qe (l:=l) (k:=k) (xs:=[5,7,5,6,8,9]) hk
 have n2:=z1 l (ofD l k [5,7,5,6,8,9]).2 (ofD l k [5,7,5,6,8,9]).1 hl hk1
 simp only [QQ,amq,zm,zl] at n1 n2 ⊢
 refine zgo ?_;repeat' first|exact zt|apply zan|intro hc
 all_goals (refine QG _ rfl rfl zcd ?_;simp only [go_sem];done)
theorem aiN {l:List Int} {k:Nat} (hk:k≤l.length):(amq l k).2≤l.length:=by
 have h1:=qe (l:=l) (k:=k) (xs:=[5,7,5,6,8,9]) hk
 show (adH l (ofD l k [5,7,5,6,8,9]).2 (ofD l k [5,7,5,6,8,9]).1).2≤l.length
 unfold adH
 split
 ·exact h1
 ·exact qe h1
theorem qN {l:List Int} {k:Nat} {xs:List Int} (h:xs≠[]) (h2:xs.length < 2 ^ 62) (h3:∀ x∈xs,x.natAbs≤100000):(ofD l k xs).1.natAbs≤100000:=h3 _ (aiD h h2)
def ak7 (iss sub:List UInt8) (a b id:Int) (au:Bool) (s h f t p x:Int):Qk:=⟨s,iss,sub,a,b,id,h,0,f,t,au,p,if x == 2 then [sub,sub++[120]] else [sub],0,0⟩
def am2 (l:List Int) (k:Nat) (au:Bool):(Int×Int×Int×Int×Int×Int)×Nat :=
 let s:=QR l k 1000
 let h:=ofD l s.2 [3,2,4,1]
 let f:=ofD l h.2 [0,5,10]
 let t:=ofD l f.2 [1000,100,50,20]
 let p:=if au = true then ofD l t.2 [3,0,1] else (0,t.2)
 let x:=QR l p.2 3
 ((s.1,h.1,f.1,t.1,p.1,x.1),x.2)
def ary (iss sub:List UInt8) (a b id:Int) (au:Bool) (q:Int×Int×Int×Int×Int×Int):Qk:=ak7 iss sub a b id au q.1 q.2.1 q.2.2.1 q.2.2.2.1 q.2.2.2.2.1 q.2.2.2.2.2
def aat (l:List Int) (k:Nat) (iss sub:List UInt8) (a b id sg:Int) (au:Bool):Qk×Nat:=(adI (ary iss sub a b id au (am2 l k au).1) sg,(am2 l k au).2)
theorem ai5 {iss sub:List UInt8} {a b id:Int} {au:Bool} {s h f t p x:Int} (h1:iss.length≤900) (h2:sub.length≤900) (ha:I60 a) (hb:I60 b) (hi:I60 id) (q1:s.natAbs≤100000) (q2:h.natAbs≤100000) (q3:f.natAbs≤100000) (q4:t.natAbs≤100000) (q5:p.natAbs≤100000) :
  (ak7 iss sub a b id au s h f t p x).T:=by
 refine ⟨by unfold I60;show _≤s∧s≤_;omega,ha,hb,hi,by unfold I60;show _≤h∧h≤_;omega,by unfold I60;show _≤(0:Int)∧(0:Int)≤_;omega,by unfold I60;show _≤f∧f≤_;omega,by unfold I60;show _≤t∧t≤_;omega,by unfold I60;show _≤p∧p≤_;omega,by show iss.length≤1000;omega,by show sub.length≤1000;omega,?_,?_⟩
 ·show (if x == 2 then [sub,sub++[120]] else [sub]).length≤64
  split<;>simp
 ·intro y hy
  have hy:y∈(if x == 2 then [sub,sub++[120]] else [sub]):=hy
  split at hy
  ·simp only [zp,zy,or_false] at hy
   rcases hy with rfl|rfl
   ·omega
   ·rw [zF];simp;omega
  ·simp only [zp,zy,or_false] at hy
   subst hy;omega
def Xo:=qd Proofs.Tryz.f128 [⟨fun y=>!decide (y = 0),[1,8,12,15],zoc 0 20⟩]
def WR (Γ:Env) (f:Nat):Prop:=∀ (l:List Int) (k:Nat) (iss sub:List UInt8) (a b id sg:Int) (au:Bool) (hl:l.length≤400) (hk:k≤l.length) (h1:iss.length≤900) (h2:sub.length≤900) (ha:I60 a) (hb:I60 b) (hi:I60 id),EvD Γ f [V.str iss,V.str sub,.agg [V.int a,V.int b],V.int id,V.int sg,V.bool au] (QQ l k) ((aat l k iss sub a b id sg au).1.v) (QQ l (aat l k iss sub a b id sg au).2)
theorem vb {Γ:Env} {f:Nat} (h:Has Γ.P f 58 Xo.1.1.ac Xo.1.2) (z0:QX Γ 10) (z1:Yr Γ 68) (z2:YQ Γ 15) (z3:yJ Γ 171):WR Γ f:=by
 intro l k iss sub a b id sg au hl hk h1 h2 ha hb hi
 refine Q5 h zsi (VZ _) zc3 zc3 fun C hC hm=>?_
 subst hC
 simp only [Xo,qd,DC.ac]
 simp only [aat,am2,ary]
 have n1:=z0 l k 1000 hl hk
 have k1:=QS (l:=l) (k:=k) (n:=1000) hk
 have r1:=Q4 (l:=l) (k:=k) (n:=1000) (by omega) (by omega)
 generalize QR l k 1000 = w1 at *
 obtain ⟨s,d1⟩:=w1
 simp only at k1 r1
 have n2:=z1 l d1 [3,2,4,1] hl k1 (by simp) (by simp)
 have k2:=qe (l:=l) (k:=d1) (xs:=[3,2,4,1]) k1
 have r2:=qN (l:=l) (k:=d1) (xs:=[3,2,4,1]) (by simp) (by simp) (by decide)
 generalize ofD l d1 [3,2,4,1] = w2 at *
 obtain ⟨hh,d2⟩:=w2
 simp only at k2 r2
 have n3:=z1 l d2 [0,5,10] hl k2 (by simp) (by simp)
 have k3:=qe (l:=l) (k:=d2) (xs:=[0,5,10]) k2
 have r3:=qN (l:=l) (k:=d2) (xs:=[0,5,10]) (by simp) (by simp) (by decide)
 generalize ofD l d2 [0,5,10] = w3 at *
 obtain ⟨ff,d3⟩:=w3
 simp only at k3 r3
 have n4:=z1 l d3 [1000,100,50,20] hl k3 (by simp) (by simp)
 have k4:=qe (l:=l) (k:=d3) (xs:=[1000,100,50,20]) k3
 have r4:=qN (l:=l) (k:=d3) (xs:=[1000,100,50,20]) (by simp) (by simp) (by decide)
 generalize ofD l d3 [1000,100,50,20] = w4 at *
 obtain ⟨tt,d4⟩:=w4
 simp only at k4 r4
 have n5:=z1 l d4 [3,0,1] hl k4 (by simp) (by simp)
 have k5:=qe (l:=l) (k:=d4) (xs:=[3,0,1]) k4
 have r5:=qN (l:=l) (k:=d4) (xs:=[3,0,1]) (by simp) (by simp) (by decide)
 generalize ofD l d4 [3,0,1] = w5 at *
 obtain ⟨pp,d5⟩:=w5
 simp only at k5 r5
 have hsl:sub.length + 1 < 2 ^ 60:=by omega
 cases au
 ·simp only [zk,if_false]
  have n6:=z2 l d4 3 hl k4 (by omega) (by omega)
  generalize QR l d4 3 = w6 at *
  obtain ⟨xx,d6⟩:=w6
  have hT:=ai5 (iss:=iss) (sub:=sub) (a:=a) (b:=b) (id:=id) (au:=false) (s:=s) (h:=hh) (f:=ff) (t:=tt) (p:=0) (x:=xx) h1 h2 ha hb hi (by omega) r2 r3 r4 (by decide)
  have sg9:=z3 _ sg hT
  generalize adI (ak7 iss sub a b id false s hh ff tt 0 xx) sg = rc at *
  simp only [QQ,zm,zl,Qk.v,Qk.cells,ak7] at n1 n2 n3 n4 n6 sg9 ⊢
  cases hx:(xx == 3 - 1)
  ·have hx2:(xx == 2) = false:=hx
   rw [hx] at n6
   simp only [hx2,zk,if_false,zm,zl] at sg9
   repeat' (first|(refine zsk ?_;intro K' hK)|(refine zrg ?_;intro K' hK)|refine zsp ?_|(refine zsc ?_ ?_<;>intro hc<;>first|exact znh|try simp only [znz] at hc)|simp (maxSteps:=1000000) only [go_sem,QQ,Qk.v,Qk.cells]|(refine hK _ ?_;clear hK K')|apply zan|(apply ake;(focus first|exact sg9))|(apply XH;(focus exact rfl);(focus first|exact n1|exact n2|exact n3|exact n4|exact n6|exact (z0 _ _ _ zsd zsd)|exact (z1 _ _ _ zsd zsd zsd zsd)|exact (z2 _ _ _ zsd zsd zsd zsd));(focus exact rfl);(focus exact rfl))|(apply Ye;(focus exact rfl);(focus exact zrd);(focus exact zrd);(focus first|exact n1|exact n2|exact n3|exact n4|exact n6|exact (z0 _ _ _ zsd zsd)|exact (z1 _ _ _ zsd zsd zsd zsd)|exact (z2 _ _ _ zsd zsd zsd zsd));(focus exact rfl);(focus exact rfl);(focus exact zrd))|exact zsq|fail)
   all_goals (refine QG _ rfl rfl zcd ?_;simp only [go_sem];done)
  ·have hx2:(xx == 2) = true:=hx
   rw [hx] at n6
   simp only [hx2,if_true,zm,zl] at sg9
   repeat' (first|(refine zsk ?_;intro K' hK)|(refine zrg ?_;intro K' hK)|refine zsp ?_|(refine zsc ?_ ?_<;>intro hc<;>first|exact znh|try simp only [znz] at hc)|simp (maxSteps:=1000000) only [go_sem,QQ,Qk.v,Qk.cells,hsl]|(refine hK _ ?_;clear hK K')|apply zan|(apply ake;(focus first|exact sg9))|(apply XH;(focus exact rfl);(focus first|exact n1|exact n2|exact n3|exact n4|exact n6|exact (z0 _ _ _ zsd zsd)|exact (z1 _ _ _ zsd zsd zsd zsd)|exact (z2 _ _ _ zsd zsd zsd zsd));(focus exact rfl);(focus exact rfl))|(apply Ye;(focus exact rfl);(focus exact zrd);(focus exact zrd);(focus first|exact n1|exact n2|exact n3|exact n4|exact n6|exact (z0 _ _ _ zsd zsd)|exact (z1 _ _ _ zsd zsd zsd zsd)|exact (z2 _ _ _ zsd zsd zsd zsd));(focus exact rfl);(focus exact rfl);(focus exact zrd))|exact zsq|fail)
   all_goals (refine QG _ rfl rfl zcd ?_;simp only [go_sem];done)
 ·simp only [if_true]
  have n6:=z2 l d5 3 hl k5 (by omega) (by omega)
  generalize QR l d5 3 = w6 at *
  obtain ⟨xx,d6⟩:=w6
  have hT:=ai5 (iss:=iss) (sub:=sub) (a:=a) (b:=b) (id:=id) (au:=true) (s:=s) (h:=hh) (f:=ff) (t:=tt) (p:=pp) (x:=xx) h1 h2 ha hb hi (by omega) r2 r3 r4 r5
  have sg9:=z3 _ sg hT
  generalize adI (ak7 iss sub a b id true s hh ff tt pp xx) sg = rc at *
  simp only [QQ,zm,zl,Qk.v,Qk.cells,ak7] at n1 n2 n3 n4 n5 n6 sg9 ⊢
  cases hx:(xx == 3 - 1)
  ·have hx2:(xx == 2) = false:=hx
   rw [hx] at n6
   simp only [hx2,zk,if_false,zm,zl] at sg9
   repeat' (first|(refine zsk ?_;intro K' hK)|(refine zrg ?_;intro K' hK)|refine zsp ?_|(refine zsc ?_ ?_<;>intro hc<;>first|exact znh|try simp only [znz] at hc)|simp (maxSteps:=1000000) only [go_sem,QQ,Qk.v,Qk.cells]|(refine hK _ ?_;clear hK K')|apply zan|(apply ake;(focus first|exact sg9))|(apply XH;(focus exact rfl);(focus first|exact n1|exact n2|exact n3|exact n4|exact n5|exact n6|exact (z0 _ _ _ zsd zsd)|exact (z1 _ _ _ zsd zsd zsd zsd)|exact (z2 _ _ _ zsd zsd zsd zsd));(focus exact rfl);(focus exact rfl))|(apply Ye;(focus exact rfl);(focus exact zrd);(focus exact zrd);(focus first|exact n1|exact n2|exact n3|exact n4|exact n5|exact n6|exact (z0 _ _ _ zsd zsd)|exact (z1 _ _ _ zsd zsd zsd zsd)|exact (z2 _ _ _ zsd zsd zsd zsd));(focus exact rfl);(focus exact rfl);(focus exact zrd))|exact zsq|fail)
   all_goals (refine QG _ rfl rfl zcd ?_;simp only [go_sem];done)
  ·have hx2:(xx == 2) = true:=hx
   rw [hx] at n6
   simp only [hx2,if_true,zm,zl] at sg9
   repeat' (first|(refine zsk ?_;intro K' hK)|(refine zrg ?_;intro K' hK)|refine zsp ?_|(refine zsc ?_ ?_<;>intro hc<;>first|exact znh|try simp only [znz] at hc)|simp (maxSteps:=1000000) only [go_sem,QQ,Qk.v,Qk.cells,hsl]|(refine hK _ ?_;clear hK K')|apply zan|(apply ake;(focus first|exact sg9))|(apply XH;(focus exact rfl);(focus first|exact n1|exact n2|exact n3|exact n4|exact n5|exact n6|exact (z0 _ _ _ zsd zsd)|exact (z1 _ _ _ zsd zsd zsd zsd)|exact (z2 _ _ _ zsd zsd zsd zsd));(focus exact rfl);(focus exact rfl))|(apply Ye;(focus exact rfl);(focus exact zrd);(focus exact zrd);(focus first|exact n1|exact n2|exact n3|exact n4|exact n5|exact n6|exact (z0 _ _ _ zsd zsd)|exact (z1 _ _ _ zsd zsd zsd zsd)|exact (z2 _ _ _ zsd zsd zsd zsd));(focus exact rfl);(focus exact rfl);(focus exact zrd))|exact zsq|fail)
   all_goals (refine QG _ rfl rfl zcd ?_;simp only [go_sem];done)
theorem aoz {l:List Int} {k:Nat} {au:Bool} (hk:k≤l.length):(am2 l k au).2≤l.length:=by
 have k1:=QS (l:=l) (k:=k) (n:=1000) hk
 have k2:=qe (l:=l) (xs:=[3,2,4,1]) k1
 have k3:=qe (l:=l) (xs:=[0,5,10]) k2
 have k4:=qe (l:=l) (xs:=[1000,100,50,20]) k3
 have k5:=qe (l:=l) (xs:=[3,0,1]) k4
 unfold am2
 cases au
 ·exact QS k4
 ·exact QS k5
theorem acn {l:List Int} {k:Nat} {iss sub:List UInt8} {a b id sg:Int} {au:Bool} (hk:k≤l.length):(aat l k iss sub a b id sg au).2≤l.length:=aoz hk
def subj (i:Nat):List UInt8:=[[99,97],[99,98],[99,99]].getD i []
theorem ajj (i:Nat):(subj i).length≤2:=by
 match i with
 | 0|1|2=>decide
 | n + 3=>simp [subj]
def WN (l:List Int):Nat→Nat→Nat→List UInt8→Int→List Qk→(List Qk×List UInt8×Int)×Nat
 | 0,_,k,iss,sg,ab=>((ab,iss,sg),k)
 | m + 1,i,k,iss,sg,ab=>WN l m (i + 1) (aat l k iss (subj i) 5 2048 (11 + (i:Int)) sg true).2 (subj i) (11 + (i:Int)) ((aat l k iss (subj i) 5 2048 (11 + (i:Int)) sg true).1 :: ab)
def yZ (l:List Int) (k:Nat) (nm:List UInt8) (a b id:Int):List Qk×Nat :=
 let n:=ofD l k [1,0,2]
 let s:=QR l n.2 2
 let g:=WN l n.1.toNat 0 s.2 [114,111,111,116] (1 + s.1) []
 let c:=aat l g.2 g.1.2.1 nm a b id g.1.2.2 false
 (c.1 :: g.1.1,c.2)
theorem XR:∀ l:List Qk,UL (l.map Qk.v)
 | []=>trivial
 | x :: r=>⟨by simp [Qk.v,Qk.cells,V.cells,Qa,V.closed],XR r⟩
theorem aas:∀ l:List Qk,Qa (l.map Qk.v)
 | []=>trivial
 | x :: r=>⟨VZ x,aas r⟩
theorem adn {o:Nat→Option Ob} {br:List Nat} {B:Option (List Nat)}:∀ l:List Qk,VY o br B (l.map Qk.v) (l.map Qk.v)
 | []=>trivial
 | x :: r=>⟨Qc _ _ _ _ (by simp [Qk.v,Qk.cells,V.cells,Qa,V.closed]),adn r⟩
theorem ajY:∀ l:List Qk,ntL (l.map Qk.v)
 | []=>trivial
 | x :: r=>⟨by simp [Qk.v],ajY r⟩
theorem adm {o:Nat→Option Ob} {br:List Nat} {B:Option (List Nat)}:∀ l:List Qk,QE o br B (l.map Qk.v) (l.map Qk.v)
 | []=>trivial
 | x :: r=>⟨Ql _ _ _ _ (VZ x),adm r⟩
def ask (l:List Int) (nm:List UInt8) (a b id:Int) (n i k:Nat) (iss:List UInt8) (sg:Int) (ab:List Qk):St :=
 stL [(0,.ptr 0 0),(1,V.str nm),(3,V.int id),(6,.ptr 1 0),(9,V.int n),(10,V.int sg),(11,V.str iss),(12,.hd 2 0 ab.length),(13,V.int i)] [.box true (QQ l k),.box true [V.int a,V.int b],.buf true 15 (ab.map Qk.v)]
def qD:=qd Proofs.Tryz.f72 []
def yR (Γ:Env) (f:Nat):Prop:=∀ (l:List Int) (k:Nat) (nm:List UInt8) (a b id:Int) (hl:l.length≤400) (hk:k≤l.length) (h2:nm.length≤900) (ha:I60 a) (hb:I60 b) (hi:I60 id),EvD Γ f [V.str nm,.agg [V.int a,V.int b],V.int id] (QQ l k) (.sl 15 ((yZ l k nm a b id).1.map Qk.v)) (QQ l (yZ l k nm a b id).2)
attribute [local go_sem] Qk.cells QQ in
theorem afT {Γ:Env} {f:Nat} (h:Has Γ.P f 56 qD.1.1.ac qD.1.2) (z0:Yr Γ 68) (z1:QX Γ 10) (z2:WR Γ 128):yR Γ f:=by
 intro l k nm a b id hl hk h2 ha hb hi
 refine Q5 h zsi zcl zc3 zc3 fun C hC hm=>?_
 subst hC
 simp only [qD,qd,DC.ac]
 have hm:C.m = 1:=by simpa using hm
 simp only [yZ]
 have n1:=z0 l k [1,0,2] hl hk (by simp) (by simp)
 have k1:=qe (l:=l) (k:=k) (xs:=[1,0,2]) hk
 have m1:=aiD (l:=l) (k:=k) (xs:=[1,0,2]) (by simp) (by simp)
 generalize ofD l k [1,0,2] = w1 at *
 obtain ⟨n,d1⟩:=w1
 simp only at k1 m1
 obtain ⟨n,rfl⟩:∃ j:Nat,n = (j:Int):=⟨n.toNat,by simp only [zp,zy,or_false] at m1;omega⟩
 have hn2:n≤2:=by simp only [zp,zy,or_false] at m1;omega
 have n2:=z1 l d1 2 hl k1
 have k2:=QS (l:=l) (k:=d1) (n:=2) k1
 have r2:=Q4 (l:=l) (k:=d1) (n:=2) (by omega) (by omega)
 generalize QR l d1 2 = w2 at *
 obtain ⟨s,d2⟩:=w2
 simp only at k2 r2
 have hws:IntKind.i64.wrap (1 + s) = 1 + s:=Jc (by omega) (by omega)
 simp only [Int.toNat_natCast]
 generalize hG:WN l n 0 d2 [114,111,111,116] (1 + s) [] = g
 simp only [QQ,zm,zl] at n1 n2 ⊢
 (have zx:=hws);refine zgo ?_;repeat' first|exact zt|apply zan|intro hc
 refine JD (ι:=Nat×Nat×Nat×List UInt8×Int×List Qk) (fun q=>WN l q.1 q.2.1 q.2.2.1 q.2.2.2.1 q.2.2.2.2.1 q.2.2.2.2.2 = g∧q.2.1 + q.1 = n∧q.2.2.1≤l.length∧q.2.2.2.1.length≤900∧q.2.2.2.2.2.length = q.2.1) (fun q=>ask l nm a b id n q.2.1 q.2.2.1 q.2.2.2.1 q.2.2.2.2.1 q.2.2.2.2.2) (fun q=>q.1) (n,0,d2,[114,111,111,116],1 + s,[]) ⟨hG,by simp,k2,by simp,rfl⟩ ?_ fun q hq K' hL=>?_
 ·refine ai4 [0,1,11001] none (fun p hp=>?_) ?_ (by simp) (by rw [hm];rfl)
  ·simp only [zp,zy,or_false] at hp
   rcases hp with rfl|rfl|rfl|rfl|rfl|rfl|rfl|rfl|rfl
   ·show conv _ _ _ (.ptr 0 0) (.ptr 0 0)
    simp [conv]
   ·exact Ql _ _ _ (V.str nm) trivial
   ·exact Ql _ _ _ (V.int id) trivial
   ·show conv _ _ _ (.ptr 1 0) (.ptr 1 0)
    simp [conv]
   ·exact Ql _ _ _ (V.int n) trivial
   ·exact Ql _ _ _ (V.int (1 + s)) trivial
   ·exact Ql _ _ _ (V.str _) trivial
   ·show conv _ _ _ (.hd 11001 0 0) (.hd 2 0 0)
    simp [conv]
   ·exact Ql _ _ _ (V.int 0) trivial
  ·exact ⟨⟨_,rfl,fun h=>h,Qc _ _ _ _ (Qh _ _)⟩,⟨_,rfl,fun h=>h,Qc _ _ _ _ ⟨trivial,trivial,trivial⟩⟩,⟨_,rfl,fun h=>h,rfl,rfl⟩,trivial⟩
 obtain ⟨m,i,d,iss,sg,ab⟩:=q
 simp only at hq hL ⊢
 obtain ⟨q1,q2,q3,q4,q5⟩:=hq
 have hta:List.take ab.length (ab.map Qk.v) = ab.map Qk.v:=zb (by simp)
 have hlm:(ab.map Qk.v).length = ab.length:=zh _
 have hce:(∀ y∈ab.map Qk.v,y.cells.length = 15) = True:=eq_true fun y hy=>by
  obtain ⟨z,_,rfl⟩:=kl.1 hy
  rfl
 rcases m with _|m
 ·have hin:i = n:=by omega
  subst hin
  have e1:decide ((i:Int) < (i:Int)) = false:=by simp
  rw [WN] at q1
  subst q1
  have c1:=z2 l d iss nm a b id sg false hl q3 q4 h2 ha hb hi
  have hcl:=VZ (aat l d iss nm a b id sg false).1
  simp only [ask,stL]
  generalize aat l d iss nm a b id sg false = w at *
  obtain ⟨cc,d5⟩:=w
  simp only [QQ,Qk.v,Qk.cells] at c1
  (have zx:=za e1 (za hta (za hlm hce)));refine zgo ?_;repeat' first|exact zt|apply zan|intro hc
  all_goals
   refine QG _ rfl rfl (Qh l d5) ?_
   show conv _ _ _ (.hd 12003 0 (1 + ab.length)) (.sl 15 ((cc :: ab).map Qk.v))
   rw [aqk]
   refine ⟨trivial,by simp,.inr ⟨true,_,rfl,?_,ajY _,aas _⟩⟩
   rw [ku,zb (by show (ab.map Qk.v).length + 1≤1 + ab.length;rw [hlm];omega)]
   exact ⟨Ql _ _ _ _ (VZ cc),adm ab⟩
 ·have e1:decide ((i:Int) < (n:Int)) = true:=by simp;omega
  rw [WN] at q1
  have hsj:([99,97] :: [[99,98],[99,99]])[i]? = some (subj i):=by
   match i,(show i < 2 by omega) with
   | 0,_=>rfl
   | 1,_=>rfl
  have hs2:=ajj i
  have c1:=z2 l d iss (subj i) 5 2048 (11 + (i:Int)) sg true hl q3 q4 (by omega) (by unfold I60;omega) (by unfold I60;omega) (by unfold I60;omega)
  have hd1:=acn (l:=l) (k:=d) (iss:=iss) (sub:=subj i) (a:=5) (b:=2048) (id:=11 + (i:Int)) (sg:=sg) (au:=true) q3
  have hw1:IntKind.i64.wrap (11 + (i:Int)) = 11 + (i:Int):=Jc (by omega) (by omega)
  have hw:=Qd (k:=i) (by omega)
  simp only [ask,stL]
  generalize aat l d iss (subj i) 5 2048 (11 + (i:Int)) sg true = w at *
  obtain ⟨cc,d5⟩:=w
  generalize subj i = sj at *
  simp only [QQ,Qk.v,Qk.cells] at c1
  have hst:([V.str [99,97],V.str [99,98],V.str [99,99]])[i]? = some (V.str sj):=by
   have:([V.str [99,97],V.str [99,98],V.str [99,99]]) = ([99,97] :: [[99,98],[99,99]]).map V.str:=rfl
   rw [this,zq,hsj];rfl
  (have zx:=za e1 (za hta (za hlm (za hce (za hw (za hw1 hst))))));refine zgo ?_;repeat' first|exact zt|apply zan|intro hc
  all_goals
   refine hL _ (m,i + 1,d5,sj,11 + (i:Int),cc :: ab) ⟨q1,by simp only;omega,hd1,by show sj.length≤900;omega,by simp only [List.length_cons];omega⟩ (kf _) (ai4 [0,1,21003] none (fun p hp=>?_) ?_ (by simp) (by rw [hm];rfl))
   ·simp only [zp,zy,or_false] at hp
    rcases hp with rfl|rfl|rfl|rfl|rfl|rfl|rfl|rfl|rfl
    ·show conv _ _ _ (.ptr 0 0) (.ptr 0 0)
     simp [conv]
    ·exact Ql _ _ _ (V.str nm) trivial
    ·exact Ql _ _ _ (V.int id) trivial
    ·show conv _ _ _ (.ptr 1 0) (.ptr 1 0)
     simp [conv]
    ·exact Ql _ _ _ (V.int n) trivial
    ·exact Ql _ _ _ (V.int (11 + (i:Int))) trivial
    ·exact Ql _ _ _ (V.str _) trivial
    ·show conv _ _ _ (.hd 21003 0 (1 + ab.length)) (.hd 2 0 (cc :: ab).length)
     rw [List.length_cons,Zk 1]
     simp [conv]
    ·exact Ql _ _ _ (V.int (i + 1:Nat)) trivial
   ·exact ⟨⟨_,rfl,fun h=>h,Qc _ _ _ _ (Qh _ _)⟩,⟨_,rfl,fun h=>h,Qc _ _ _ _ ⟨trivial,trivial,trivial⟩⟩,⟨_,rfl,fun h=>h,rfl,⟨Qc _ _ _ _ (by simp [Qk.cells,V.cells,Qa,V.closed]),adn ab⟩,XR _⟩,trivial⟩
theorem ae1 {l:List Qk} {k:Nat} {c:Qk} (h:l[k]? = some c):List.take k ((l.take k).map Qk.v)++[V.agg c.cells] = (l.take (k + 1)).map Qk.v:=by
 have hk:=(zE.1 h).1
 rw [zb (by rw [zh,zM];omega),zB,h,zG];rfl
def Xu:=qd Proofs.Tryz.f221 []
def WV (Γ:Env) (f:Nat):Prop:=∀ (l:List Qk) (hl:l.length < 2 ^ 30) (hn:∀ c∈l,c.names.length < 2 ^ 30),EvC Γ f [.sl 15 (l.map Qk.v)] (.sl 15 (l.map Qk.v))
attribute [local go_sem] zP Qk.cells Qk.v Yo in
theorem vj {Γ:Env} {f:Nat} (h:Has Γ.P f 22 Xu.1.1.ac Xu.1.2) (z0:JF Γ 136):WV Γ f:=by
 intro l hl hn
 refine Qn h zsi zcl fun C hC hm=>?_
 subst hC
 simp only [Xu,qd,DC.ac]
 have hlm:(l.map Qk.v).length = l.length:=zh _
 (have zx:=hlm);refine zgo ?_;repeat' first|exact zt|apply zan|intro hc
 refine Qz (ι:=Nat) (fun k=>k≤l.length) (fun k=>Yo [(3,.hd 0 0 k),(6,.sl 15 (l.map Qk.v)),(7,V.int l.length),(8,V.int k)] [(0,.buf true 15 ((l.take k).map Qk.v))] 1) (fun k=>l.length - k) 0 (zw _) (Qp [(0,1000)]) (zwg [(0,1000)]) fun k hk K' hL=>?_
 rcases hd:l.drop k with _|⟨c,r⟩
 ·have hkl:=Qj hd
  have e1:decide ((k:Int) < ((l.length:Nat):Int)) = false:=by simp;omega
  obtain rfl:k = l.length:=by omega
  (have zx:=e1);refine zgo ?_;repeat' first|exact zt|apply zan|intro hc
  all_goals first|exact zr|(refine Qf _ rfl ?_;simp only [go_sem];rw [zb (by simp)];done)
 ·obtain ⟨hk',hget,hr⟩:=Qe hd
  have hw:=Qd (k:=k) (by omega)
  have e1:decide ((k:Int) < ((l.length:Nat):Int)) = true:=by simp;omega
  have hnc:=hn c (zj hget)
  have gc:=(z0 c.names (by omega)).b
  have hct:=ae1 hget
  simp only [Qk.cells] at hct
  (have zx:=za e1 (za hw hget));refine zgo ?_;repeat' first|exact zt|apply zan|intro hc
  all_goals first|exact hL _ (k + 1) (Qp [(0,13001)]) (by omega) (by omega) (JS [(0,13001)] (by simp only [go_sem,zwl,hct]<;>exact zcc) (by simp only [go_sem,zwl,hct];first|exact XR _|exact ⟨trivial,XR _⟩|(repeat' (first|rfl|apply za|omega|exact fun h=>h|exact Exists.intro _ rfl))) (by simp [Qp]) (by simp;omega) (by omega))
def XZ:=qd Proofs.Tryz.f264 []
def VB (Γ:Env) (f:Nat):Prop:=∀ (l:List Qk) (hl:l.length < 2 ^ 30) (hn:∀ c∈l,c.names.length < 2 ^ 30),EvC Γ f [.sl 15 (l.map Qk.v)] (.sl 15 (l.map Qk.v))
attribute [local go_sem] zP Qk.cells Qk.v Yo in
theorem aac {Γ:Env} {f:Nat} (h:Has Γ.P f 20 XZ.1.1.ac XZ.1.2) (z0:Kp Γ 205):VB Γ f:=by
 intro l hl hn
 refine Qn h zsi zcl fun C hC hm=>?_
 subst hC
 simp only [XZ,qd,DC.ac]
 have hlm:(l.map Qk.v).length = l.length:=zh _
 (have zx:=hlm);refine zgo ?_;repeat' first|exact zt|apply zan|intro hc
 refine Qz (ι:=Nat) (fun k=>k≤l.length) (fun k=>Yo [(0,.sl 15 (l.map Qk.v)),(3,.hd 0 0 k),(4,V.int k)] [(0,.buf true 15 ((l.take k).map Qk.v))] 1) (fun k=>l.length - k) 0 (zw _) (Qp [(0,1000)]) (zwg [(0,1000)]) fun k hk K' hL=>?_
 rcases hd:l.drop k with _|⟨c,r⟩
 ·have hkl:=Qj hd
  have e1:decide ((k:Int) < ((l.length:Nat):Int)) = false:=by simp;omega
  obtain rfl:k = l.length:=by omega
  (have zx:=za e1 hlm);refine zgo ?_;repeat' first|exact zt|apply zan|intro hc
  all_goals first|exact zr|(refine Qf _ rfl ?_;simp only [go_sem];rw [zb (by simp)];done)
 ·obtain ⟨hk',hget,hr⟩:=Qe hd
  have hw:=Qd (k:=k) (by omega)
  have e1:decide ((k:Int) < ((l.length:Nat):Int)) = true:=by simp;omega
  have gc:=(z0 c (hn c (zj hget))).b
  have hct:=ae1 hget
  simp only [Qk.cells] at hct
  simp only [Qk.v,Qk.cells] at gc
  (have zx:=za e1 (za hw (za hlm hget)));refine zgo ?_;repeat' first|exact zt|apply zan|intro hc
  all_goals first|exact hL _ (k + 1) (Qp [(0,11001)]) (by omega) (by omega) (JS [(0,11001)] (by simp only [go_sem,zwl,hct]<;>exact zcc) (by simp only [go_sem,zwl,hct];first|exact XR _|exact ⟨trivial,XR _⟩|(repeat' (first|rfl|apply za|omega|exact fun h=>h|exact Exists.intro _ rfl))) (by simp [Qp]) (by simp;omega) (by omega))
def Uq:=qd Proofs.Tryz.f189 []
def KQ (Γ:Env) (f:Nat):Prop:=∀ (x:Qv) (sm:x.Sm),EvC Γ f [x.v] (x.v)
attribute [local go_sem] Qv.cells in
theorem ac9 {Γ:Env} {f:Nat} (h:Has Γ.P f 8 Uq.1.1.ac Uq.1.2) (z0:WV Γ 221):KQ Γ f:=by
 intro x sm
 refine Qn h zsi (by simp only [Qv.v,Qv.cells,V.closed,Qa,and_self]) fun C hC hm=>?_
 subst hC
 simp only [Uq,qd,DC.ac]
 have gc:=(z0 x.chain sm.hc sm.hn).b
 simp only [Qv.v]
 refine zgo ?_;repeat' first|exact zt|apply zan|intro hc
 all_goals first|exact zr|(refine Qf _ rfl ?_;simp only [go_sem,Qv.cells];done)
def Ui:=qd Proofs.Tryz.f235 []
def KI (Γ:Env) (f:Nat):Prop:=∀ (x:Qv) (sm:x.Sm),EvC Γ f [x.v] (x.v)
attribute [local go_sem] Qv.cells in
theorem ac0 {Γ:Env} {f:Nat} (h:Has Γ.P f 8 Ui.1.1.ac Ui.1.2) (z0:VB Γ 264):KI Γ f:=by
 intro x sm
 refine Qn h zsi (by simp only [Qv.v,Qv.cells,V.closed,Qa,and_self]) fun C hC hm=>?_
 subst hC
 simp only [Ui,qd,DC.ac]
 have gc:=(z0 x.chain sm.hc sm.hn).b
 simp only [Qv.v]
 refine zgo ?_;repeat' first|exact zt|apply zan|intro hc
 all_goals first|exact zr|(refine Qf _ rfl ?_;simp only [go_sem,Qv.cells];done)
def X3:=qd Proofs.Tryz.f188 []
def VH (Γ:Env) (f:Nat):Prop:=∀ (x:Qv) (s:List UInt8),EvN Γ f [x.v,.ro [V.str s] 0] (V.bool (x.alias == s))
theorem aag {Γ:Env} {f:Nat} (h:Has Γ.P f 8 X3.1.1.ac X3.1.2) :VH Γ f:=by
 intro x s
 refine Qb h zsi zcl zcl fun C hC hm=>?_
 subst hC
 simp only [X3,qd,DC.ac]
 simp only [Qv.v,Qv.cells]
 exact zg
def QJ:=qd Proofs.Tryz.f187 []
def Q7 (Γ:Env) (f:Nat):Prop:=∀ (xs:List Qv) (g:Nat) (cap:List V) (p:Qv→Bool) (hp:∀ x∈xs,EvN Γ g (Qv.v x :: cap) (V.bool (p x))) (hcap:Qa cap) (hl:xs.length < 2 ^ 62),EvN Γ f [.sl 6 (xs.map Qv.v),.clo g cap] (V.int (VS p 0 xs))
attribute [local go_sem] Qv.cells Qv.v in
theorem Xf {Γ:Env} {f:Nat} (h:Has Γ.P f 19 QJ.1.1.ac QJ.1.2) :Q7 Γ f:=by
 intro xs g cap p hp hcap hl
 refine Qb h zsi zcl zcl fun C hC hm=>?_
 subst hC
 simp only [QJ,qd,DC.ac]
 have s1:∀ o,JH o cap = cap:=fun o=>Jz o cap hcap
 have s2:∀ o B,Qu o B cap = True:=fun o B=>eq_true (Jb o B cap hcap)
 refine zgo ?_;repeat' first|exact zt|apply zan|intro hc
 refine Qt (ι:=Nat) (fun k=>k≤xs.length∧VS p k (xs.drop k) = VS p 0 xs) (fun k=>[(8,V.int k)]) (fun k=>xs.length - k) 0 (by omega) ⟨by simp,by simp⟩ zol (fun i hi=>by simp only [ovT,Jn,Nat.reduceEqDiff,reduceIte];(repeat' first|exact wX|refine jZ ?_ ?_|simp only [V.lt,ltL,and_self,and_true]|omega);exact Xc _ _ hcap) (by simp only [Nat.reduceAdd,ovT,Jn,Nat.reduceEqDiff,reduceIte,Xk,W8,aiv,u32,u33,u34,u35,u36,u37,u38,u39,and_self,and_true,true_and];first|rfl|exact Q0 _ _ hcap) fun k hk K' hL=>?_
 obtain ⟨hk,hinv⟩:=hk
 simp only [ovT,Jn,Nat.reduceEqDiff,reduceIte]
 rcases hd:xs.drop k with _|⟨y,r⟩
 ·have:=Qj hd
  rw [hd] at hinv
  have e1:decide ((k:Int) < (((xs.map Qv.v).length:Nat):Int)) = false:=by simp;omega
  (have zx:=e1);refine zgo ?_;repeat' first|exact zt|apply zan|intro hc
  refine Qf _ rfl ?_
  simp only [go_sem]
  rw [← hinv];rfl
 ·obtain ⟨hk,hget,hr⟩:=Qe hd
  rw [hd] at hinv
  have hw:=Qd (k:=k) (by omega)
  have e1:decide ((k:Int) < (((xs.map Qv.v).length:Nat):Int)) = true:=by simp;omega
  have hpy:=hp y (zj hget)
  by_cases hy:p y = true
  ·rw [hy] at hpy
   (have zy0:=hpy.b;have zx:=za hget (za hw (za e1 (za s1 s2))));refine zgo ?_;repeat' first|exact zt|apply zan|intro hc
   refine Qf _ rfl ?_;simp only [go_sem]
   rw [← hinv];simp [VS,hy]
  ·have hy':p y = false:=by simpa using hy
   rw [hy'] at hpy
   (have zy0:=hpy.b;have zx:=za hget (za hw (za e1 (za s1 s2))));refine zgo ?_;repeat' first|exact zt|apply zan|intro hc
   refine hL _ (k + 1) zet ⟨by omega,?_⟩ (by omega) zoe
   rw [hr,← hinv,VS,if_neg hy]
theorem aha {α:Type} (p:α→Bool):∀ (xs:List α) (k:Nat),(VS p k xs = -1∧xs.find? p = none)∨∃ j x,VS p k xs = ((k + j:Nat):Int)∧xs[j]? = some x∧xs.find? p = some x
 | [],k=>.inl ⟨rfl,rfl⟩
 | x :: r,k=>by
   by_cases h:p x = true
   ·exact .inr ⟨0,x,by rw [VS,if_pos h];rfl,rfl,by rw [List.find?_cons_of_pos h]⟩
   ·rw [VS,if_neg h,List.find?_cons_of_neg h]
    rcases aha p r (k + 1) with ⟨h1,h2⟩|⟨j,y,h1,h2,h3⟩
    ·exact .inl ⟨h1,h2⟩
    ·exact .inr ⟨j + 1,y,by rw [h1];congr 1;omega,by simpa using h2,h3⟩
def xB (l:List Qv) (s:List UInt8):Option Qv:=l.find? fun x=>x.alias == s
def abV (o:Option Qv):V:=match o with|some x=>.tup [x.v,V.bool true]|none=>.tup [(Qv.mk [] 0 0 0 false []).v,V.bool false]
theorem abA (o:Option Qv):(abV o).closed:=by
 cases o<;>simp only [abV,Qv.v,Qv.cells,V.closed,Qa,and_self,zl]
def Vi:=qd Proofs.Tryz.f152 []
def UT (Γ:Env) (f:Nat):Prop:=∀ (l:List Qv) (s:List UInt8) (hl:l.length < 2 ^ 60) (hs:∀ x∈l,x.Sm),EvC Γ f [.sl 6 (l.map Qv.v),V.str s] (abV (xB l s))
attribute [local go_sem] Qv.cells Qv.v in
theorem ab4 {Γ:Env} {f:Nat} (h:Has Γ.P f 18 Vi.1.1.ac Vi.1.2) (z0:VH Γ 188) (z1:Q7 Γ 187) (z2:KQ Γ 189):UT Γ f:=by
 intro l s hl hs
 refine Qn h zsi (abA _) fun C hC hm=>?_
 subst hC
 simp only [Vi,qd,DC.ac]
 have hi:=(z1 l 188 [.ro [V.str s] 0] (fun x=>x.alias == s) (fun x _=>z0 x s) (by simp [V.closed,Qa]) (by omega)).b
 rcases aha (fun x:Qv=>x.alias == s) l 0 with ⟨h1,h2⟩|⟨j,x,h1,h2,h3⟩
 ·rw [show xB l s = none from h2]
  rw [h1] at hi
  simp only [abV,Qv.v,Qv.cells]
  exact zg
 ·rw [show xB l s = some x from h3]
  rw [h1,Zj] at hi
  have ho:=(z2 x (hs x (zj h2))).b
  have e1:decide ((j:Int) < 0) = false:=by simp
  simp only [abV,Qv.v,Qv.cells] at ho ⊢
  (have zx:=za e1 h2);exact zg
def ql:=qd Proofs.Tryz.f195 []
def yH (Γ:Env) (f:Nat):Prop:=∀ (l:List Qv) (s:List UInt8) (hl:l.length < 2 ^ 60) (hs:∀ x∈l,x.Sm),EvC Γ f [.sl 6 (l.map Qv.v),V.str s] (abV (xB l s))
attribute [local go_sem] Qv.cells Qv.v in
theorem afD {Γ:Env} {f:Nat} (h:Has Γ.P f 26 ql.1.1.ac ql.1.2) (z0:KI Γ 235):yH Γ f:=by
 intro l s hl hs
 refine Qn h zsi (abA _) fun C hC hm=>?_
 subst hC
 simp only [ql,qd,DC.ac]
 have hlm:(l.map Qv.v).length = l.length:=zh _
 (have zx:=hlm);refine zgo ?_;repeat' first|exact zt|apply zan|intro hc
 refine Qt (ι:=Nat) (fun k=>k≤l.length∧xB (l.drop k) s = xB l s) (fun k=>[(6,V.int k)]) (fun k=>l.length - k) 0 (by omega) ⟨zw _,rfl⟩ (aiL (by decide) (by simp [Ob.lt,ltL,V.lt]) (aiL (by decide) (by simp [Ob.lt,ltL,V.lt]) ajB)) zlt zet fun k hk K' hL=>?_
 obtain ⟨hk,hinv⟩:=hk
 simp only [ovT,Jn,Nat.reduceEqDiff,reduceIte]
 rcases hd:l.drop k with _|⟨x,r⟩
 ·have hkl:=Qj hd
  rw [hd] at hinv
  have e1:decide ((k:Int) < ((l.length:Nat):Int)) = false:=by simp;omega
  rw [← hinv]
  simp only [xB,List.find?_nil,abV,Qv.v,Qv.cells]
  (have zx:=za e1 hlm);exact zg
 ·obtain ⟨hk',hget,hr⟩:=Qe hd
  rw [hd] at hinv
  have hw:=Qd (k:=k) (by omega)
  have e1:decide ((k:Int) < ((l.length:Nat):Int)) = true:=by simp;omega
  rcases hx:x.alias == s with _|_
  ·have h2:xB r s = xB l s:=by rw [← hinv,xB,xB,List.find?_cons_of_neg (by rw [hx];decide)]
   (have zx:=za e1 (za hw (za hlm (za hget hx))));refine zgo ?_;repeat' first|exact zt|apply zan|intro hc
   all_goals exact hL _ (k + 1) zet ⟨by omega,by rw [hr];exact h2⟩ (by omega) zoe
  ·have h2:xB l s = some x:=by rw [← hinv,xB,List.find?_cons_of_pos (by exact hx)]
   have ho:=(z0 x (hs x (zj hget))).b
   rw [h2]
   simp only [abV,Qv.v,Qv.cells] at ho ⊢
   (have zx:=za e1 (za hw (za hlm (za hget hx))));exact zg
def drC (e:QM) (st:List Qv):List V:=[V.str e.name,V.int e.least,V.int e.most,.sl 1 (e.suites.map V.int),V.bool e.own,.sl 4 (e.idents.map QO.v),.sl 1 (e.anchors.map V.int),.sl 1 (e.hashes.map V.int),V.bool e.fall,.sl 6 (st.map Qv.v)]
@[simp] theorem JW (e:QM) (st:List Qv):Qa (drC e st):=by simp [drC,V.closed,Qa]
theorem agT {e:QM} (st:List Qv):Qa (drC e st):=JW e st
def agx:List (List UInt8)→Bool|[s]=>anv s|_=>false
def aji (n:Int):List (List UInt8)→Int|[s]=>XI s|_=>n
def chL (y:List UInt8):List (List UInt8)→Bool|[s]=>s == y|_=>false
def ch2 (y n:List UInt8):List (List UInt8)→Bool|[s]=>s == y || s == n|_=>false
def lsB:List (List UInt8)→Bool|[s]=>(XE s).2.2 == 0|_=>false
def lsL (l:List Int):List (List UInt8)→List Int|[s]=>(XE s).1|_=>l
def Xp:=qd Proofs.Tryz.f95 []
def Y9 (Γ:Env) (f:Nat):Prop:=∀ (l:List (List UInt8)) (e:QM) (st:List Qv) (most:Bool) (hs:∀ s∈l,s.length < 2 ^ 30),EvF Γ f (if most then 2 else 1) [.sl 1 (l.map V.str)] (drC e st) (V.bool (agx l)) (drC (if most then { e with most:=aji e.most l } else { e with least:=aji e.least l }) st)
attribute [local go_sem] List.length_nil in
theorem vc {Γ:Env} {f:Nat} (h:Has Γ.P f 29 Xp.1.1.ac Xp.1.2) (z0:Y7 Γ 150):Y9 Γ f:=by
 intro l e st most hs
 refine vm h (by simp) (by first|exact JW _ _|simp only [V.closed,Qa,and_self]) (by first|exact PDraft.cells_closed _|exact Qh _ _|simp only [V.closed,Qa,and_self,and_true,true_and]|(simp [V.closed,Qa];done)) (by first|exact PDraft.cells_closed _|exact Qh _ _|simp only [V.closed,Qa,and_self,and_true,true_and]|(simp [V.closed,Qa];done)) fun C hC hm=>?_
 subst hC
 simp only [Xp,qd,DC.ac]
 rcases l with _|⟨s,_|⟨t,r⟩⟩
 ·have e1:((0:Int) != 1) = true:=by decide
  rcases most with _|_
  ·simp only [zk,if_false,drC,agx,aji,zl]
   (have zx:=e1);refine zgo ?_;repeat' first|exact zt|apply zan|intro hc
   all_goals (refine QG _ rfl rfl zcd ?_;simp only [go_sem];done)
  ·simp only [if_true,drC,agx,aji,zl]
   (have zx:=e1);refine zgo ?_;repeat' first|exact zt|apply zan|intro hc
   all_goals (refine QG _ rfl rfl zcd ?_;simp only [go_sem];done)
 ·have hd:=(z0 s (hs s (by simp))).b
  rcases most with _|_
  ·simp only [zk,if_false,drC,agx,aji,anv,zm,zl]
   refine zgo ?_;repeat' first|exact zt|apply zan|intro hc
   all_goals first|(refine QG _ rfl rfl zcd ?_;simp only [go_sem];done)|(refine QG _ rfl rfl zcd ?_;simp only [go_sem];simp [*];done)
  ·simp only [if_true,drC,agx,aji,anv,zm,zl]
   refine zgo ?_;repeat' first|exact zt|apply zan|intro hc
   all_goals first|(refine QG _ rfl rfl zcd ?_;simp only [go_sem];done)|(refine QG _ rfl rfl zcd ?_;simp only [go_sem];simp [*];done)
 ·have e1:((((s :: t :: r).map V.str).length:Int) != 1) = true:=by simp;omega
  rcases most with _|_
  ·simp only [zk,if_false,drC,agx,aji]
   (have zx:=e1);refine zgo ?_;repeat' first|exact zt|apply zan|intro hc
   all_goals (refine QG _ rfl rfl zcd ?_;simp only [go_sem];done)
  ·simp only [if_true,drC,agx,aji]
   (have zx:=e1);refine zgo ?_;repeat' first|exact zt|apply zan|intro hc
   all_goals (refine QG _ rfl rfl zcd ?_;simp only [go_sem];done)
def X6:=qd Proofs.Tryz.f99 []
def Xz (Γ:Env) (f:Nat):Prop:=∀ (l:List (List UInt8)) (yes no:List UInt8) (e:QM) (st:List Qv) (own:Bool),EvF Γ f (if own then 4 else 8) [.sl 1 (l.map V.str),V.str yes,V.str no] (drC e st) (V.bool (ch2 yes no l)) (drC (if own then { e with own:=chL yes l } else { e with fall:=chL yes l }) st)
attribute [local go_sem] List.length_nil in
theorem aaj {Γ:Env} {f:Nat} (h:Has Γ.P f 38 X6.1.1.ac X6.1.2) :Xz Γ f:=by
 intro l yes no e st own
 refine vm h (by simp) (by first|exact JW _ _|simp only [V.closed,Qa,and_self]) (by first|exact PDraft.cells_closed _|exact Qh _ _|simp only [V.closed,Qa,and_self,and_true,true_and]|(simp [V.closed,Qa];done)) (by first|exact PDraft.cells_closed _|exact Qh _ _|simp only [V.closed,Qa,and_self,and_true,true_and]|(simp [V.closed,Qa];done)) fun C hC hm=>?_
 subst hC
 simp only [X6,qd,DC.ac]
 rcases l with _|⟨s,_|⟨t,r⟩⟩
 ·have e1:((0:Int) == 1) = false:=by decide
  rcases own with _|_
  ·simp only [zk,if_false,drC,ch2,chL,zl]
   (have zx:=e1);refine zgo ?_;repeat' first|exact zt|apply zan|intro hc
   all_goals (refine QG _ rfl rfl zcd ?_;simp only [go_sem];done)
  ·simp only [if_true,drC,ch2,chL,zl]
   (have zx:=e1);refine zgo ?_;repeat' first|exact zt|apply zan|intro hc
   all_goals (refine QG _ rfl rfl zcd ?_;simp only [go_sem];done)
 ·rcases own with _|_
  ·simp only [zk,if_false,drC,ch2,chL,zm,zl]
   rcases hq:s == yes with _|_
   ·(have zx:=hq);refine zgo ?_;repeat' first|exact zt|apply zan|intro hc
    all_goals first|(refine QG _ rfl rfl zcd ?_;simp only [go_sem];done)|(refine QG _ rfl rfl zcd ?_;simp only [go_sem];simp [*];done)
   ·(have zx:=hq);refine zgo ?_;repeat' first|exact zt|apply zan|intro hc
    all_goals first|(refine QG _ rfl rfl zcd ?_;simp only [go_sem];done)|(refine QG _ rfl rfl zcd ?_;simp only [go_sem];simp [*];done)
  ·simp only [if_true,drC,ch2,chL,zm,zl]
   rcases hq:s == yes with _|_
   ·(have zx:=hq);refine zgo ?_;repeat' first|exact zt|apply zan|intro hc
    all_goals first|(refine QG _ rfl rfl zcd ?_;simp only [go_sem];done)|(refine QG _ rfl rfl zcd ?_;simp only [go_sem];simp [*];done)
   ·(have zx:=hq);refine zgo ?_;repeat' first|exact zt|apply zan|intro hc
    all_goals first|(refine QG _ rfl rfl zcd ?_;simp only [go_sem];done)|(refine QG _ rfl rfl zcd ?_;simp only [go_sem];simp [*];done)
 ·have e1:((((s :: t :: r).map V.str).length:Int) == 1) = false:=by simp;omega
  rcases own with _|_
  ·simp only [zk,if_false,drC,ch2,chL]
   (have zx:=e1);refine zgo ?_;repeat' first|exact zt|apply zan|intro hc
   all_goals (refine QG _ rfl rfl zcd ?_;simp only [go_sem];done)
  ·simp only [if_true,drC,ch2,chL]
   (have zx:=e1);refine zgo ?_;repeat' first|exact zt|apply zan|intro hc
   all_goals (refine QG _ rfl rfl zcd ?_;simp only [go_sem];done)
def Yk:=qd Proofs.Tryz.f97 []
def Jv (Γ:Env) (f:Nat):Prop:=∀ (l:List (List UInt8)) (e:QM) (st:List Qv) (hs:∀ s∈l,s.length < 2 ^ 30),EvD Γ f [.sl 1 (l.map V.str)] (drC e st) (V.bool (lsB l)) (drC { e with suites:=lsL e.suites l } st)
attribute [local go_sem] List.length_nil in
theorem j7 {Γ:Env} {f:Nat} (h:Has Γ.P f 26 Yk.1.1.ac Yk.1.2) (z0:Vy Γ 151):Jv Γ f:=by
 intro l e st hs
 refine Q5 h zsi (by first|exact JW _ _|simp only [V.closed,Qa,and_self]) zc3 zc3 fun C hC hm=>?_
 subst hC
 simp only [Yk,qd,DC.ac]
 rcases l with _|⟨s,_|⟨t,r⟩⟩
 ·have e1:((0:Int) != 1) = true:=by decide
  simp only [drC,lsB,lsL,zl]
  (have zx:=e1);refine zgo ?_;repeat' first|exact zt|apply zan|intro hc
  all_goals (refine QG _ rfl rfl zcd ?_;simp only [go_sem];done)
 ·have hp:=(z0 s (hs s (by simp))).b
  rw [VQ] at hp
  simp only [drC,lsB,lsL,zm,zl]
  refine zgo ?_;repeat' first|exact zt|apply zan|intro hc
  all_goals (refine QG _ rfl rfl zcd ?_;simp only [go_sem];done)
 ·have e1:((((s :: t :: r).map V.str).length:Int) != 1) = true:=by simp;omega
  simp only [drC,lsB,lsL]
  (have zx:=e1);refine zgo ?_;repeat' first|exact zt|apply zan|intro hc
  all_goals (refine QG _ rfl rfl zcd ?_;simp only [go_sem];done)
def JN:=qd Proofs.Tryz.f94 []
def Jj (Γ:Env) (f:Nat):Prop:=∀ (l:List (List UInt8)) (e:QM) (st:List Qv) (hs:∀ s∈l,s.length < 2 ^ 30),EvH Γ f (.sl 1 (l.map V.str)) (drC e st) (V.bool (agx l)) (drC { e with least:=aji e.least l } st)
theorem KZ {Γ:Env} {f:Nat} (h:Has Γ.P f 10 JN.1.1.ac JN.1.2) (z0:Y9 Γ 95):Jj Γ f:=by
 intro l e st hs
 refine VV h (by simp) (by first|exact JW _ _|simp only [V.closed,Qa,and_self]) (by first|exact PDraft.cells_closed _|exact Qh _ _|simp only [V.closed,Qa,and_self,and_true,true_and]|(simp [V.closed,Qa];done)) (by first|exact PDraft.cells_closed _|exact Qh _ _|simp only [V.closed,Qa,and_self,and_true,true_and]|(simp [V.closed,Qa];done)) fun C hC hm=>?_
 subst hC
 simp only [JN,qd,DC.ac]
 have hv:=z0 l e st false hs
 simp only [zk,if_false,drC] at hv ⊢
 refine zgo ?_;repeat' first|exact zt|apply zan|intro hc
 all_goals first|(refine aeR _ rfl rfl rfl (by first|simp only [V.closed,Qa,and_self,and_true,true_and]|(simp [V.closed,Qa];done)) ?_;simp only [go_sem];done)
def JM:=qd Proofs.Tryz.f96 []
def Ji (Γ:Env) (f:Nat):Prop:=∀ (l:List (List UInt8)) (e:QM) (st:List Qv) (hs:∀ s∈l,s.length < 2 ^ 30),EvH Γ f (.sl 1 (l.map V.str)) (drC e st) (V.bool (agx l)) (drC { e with most:=aji e.most l } st)
theorem KY {Γ:Env} {f:Nat} (h:Has Γ.P f 10 JM.1.1.ac JM.1.2) (z0:Y9 Γ 95):Ji Γ f:=by
 intro l e st hs
 refine VV h (by simp) (by first|exact JW _ _|simp only [V.closed,Qa,and_self]) (by first|exact PDraft.cells_closed _|exact Qh _ _|simp only [V.closed,Qa,and_self,and_true,true_and]|(simp [V.closed,Qa];done)) (by first|exact PDraft.cells_closed _|exact Qh _ _|simp only [V.closed,Qa,and_self,and_true,true_and]|(simp [V.closed,Qa];done)) fun C hC hm=>?_
 subst hC
 simp only [JM,qd,DC.ac]
 have hv:=z0 l e st true hs
 simp only [if_true,drC] at hv ⊢
 refine zgo ?_;repeat' first|exact zt|apply zan|intro hc
 all_goals first|(refine aeR _ rfl rfl rfl (by first|simp only [V.closed,Qa,and_self,and_true,true_and]|(simp [V.closed,Qa];done)) ?_;simp only [go_sem];done)
def JL:=qd Proofs.Tryz.f98 []
def Jh (Γ:Env) (f:Nat):Prop:=∀ (l:List (List UInt8)) (e:QM) (st:List Qv),EvH Γ f (.sl 1 (l.map V.str)) (drC e st) (V.bool (ch2 [111,119,110] [99,108,105,101,110,116] l)) (drC { e with own:=chL [111,119,110] l } st)
theorem KX {Γ:Env} {f:Nat} (h:Has Γ.P f 10 JL.1.1.ac JL.1.2) (z0:Xz Γ 99):Jh Γ f:=by
 intro l e st
 refine VV h (by simp) (by first|exact JW _ _|simp only [V.closed,Qa,and_self]) (by first|exact PDraft.cells_closed _|exact Qh _ _|simp only [V.closed,Qa,and_self,and_true,true_and]|(simp [V.closed,Qa];done)) (by first|exact PDraft.cells_closed _|exact Qh _ _|simp only [V.closed,Qa,and_self,and_true,true_and]|(simp [V.closed,Qa];done)) fun C hC hm=>?_
 subst hC
 simp only [JL,qd,DC.ac]
 have hv:=z0 l [111,119,110] [99,108,105,101,110,116] e st true
 simp only [if_true,drC] at hv ⊢
 refine zgo ?_;repeat' first|exact zt|apply zan|intro hc
 all_goals first|(refine aeR _ rfl rfl rfl (by first|simp only [V.closed,Qa,and_self,and_true,true_and]|(simp [V.closed,Qa];done)) ?_;simp only [go_sem];done)
def JI:=qd Proofs.Tryz.f106 []
def Je (Γ:Env) (f:Nat):Prop:=∀ (l:List (List UInt8)) (e:QM) (st:List Qv),EvH Γ f (.sl 1 (l.map V.str)) (drC e st) (V.bool (ch2 [121,101,115] [110,111] l)) (drC { e with fall:=chL [121,101,115] l } st)
theorem KU {Γ:Env} {f:Nat} (h:Has Γ.P f 10 JI.1.1.ac JI.1.2) (z0:Xz Γ 99):Je Γ f:=by
 intro l e st
 refine VV h (by simp) (by first|exact JW _ _|simp only [V.closed,Qa,and_self]) (by first|exact PDraft.cells_closed _|exact Qh _ _|simp only [V.closed,Qa,and_self,and_true,true_and]|(simp [V.closed,Qa];done)) (by first|exact PDraft.cells_closed _|exact Qh _ _|simp only [V.closed,Qa,and_self,and_true,true_and]|(simp [V.closed,Qa];done)) fun C hC hm=>?_
 subst hC
 simp only [JI,qd,DC.ac]
 have hv:=z0 l [121,101,115] [110,111] e st false
 simp only [zk,if_false,drC] at hv ⊢
 refine zgo ?_;repeat' first|exact zt|apply zan|intro hc
 all_goals first|(refine aeR _ rfl rfl rfl (by first|simp only [V.closed,Qa,and_self,and_true,true_and]|(simp [V.closed,Qa];done)) ?_;simp only [go_sem];done)
end Av
end
