/- Slices of bytes. -/
import Derived.Test.YtphclkkggijicaaGreatDoorK12
import Derived.Test.YtphclkkggijicaaGreatDoorK14
import Derived.Test.YtphclkkggijicaaGreatDoorK17
import Derived.Test.YtphclkkggijicaaGreatDoorK18
set_option linter.unusedVariables false
set_option linter.unusedSimpArgs false
noncomputable section
set_option maxRecDepth 10000
set_option maxHeartbeats 4000000
namespace Av
open Go
attribute [local irreducible] AWp Vo Ky jA awS awC aad awQ aaN QL Vq vQ awR Vz awB okR js ris
def QO (l:List Int) (k:Nat):List V:=[.sl 1 (l.map V.int),V.int k]
theorem Qk (l:List Int) (k:Nat):Qa (QO l k):=by simp only [QO,V.closed,Qa,and_self]
def Jd (l:List Int) (k:Nat) (n:Int):Int×Nat:=if k < l.length then (aoz (l.getD k 0) n,k + 1) else (0,k)
theorem Jm {l:List Int} {k:Nat} {n:Int} (hk:k≤l.length):(Jd l k n).2≤l.length:=by
 unfold Jd;split
 ·show k + 1≤l.length;omega
 ·exact hk
theorem aka {a n:Int} (h1:1≤n) (h2:n < 2 ^ 62):0≤aoz a n∧aoz a n < n:=by
 unfold aoz
 rw [if_neg (by omega)]
 have ha:=Int.tmod_lt_of_pos a (show 0 < n by omega)
 have hb:-n < a.tmod n:=by
  have:=Int.tmod_lt_of_pos (-a) (show 0 < n by omega)
  rw [Int.neg_tmod] at this;omega
 rw [Q9 (by omega) (by omega)]
 exact ⟨Int.tmod_nonneg _ (by omega),Int.tmod_lt_of_pos _ (by omega)⟩
theorem Ja {l:List Int} {k:Nat} {n:Int} (h1:1≤n) (h2:n < 2 ^ 62):0≤(Jd l k n).1∧(Jd l k n).1 < n:=by
 unfold Jd;split
 ·exact aka h1 h2
 ·show (0:Int)≤0∧(0:Int) < n;omega
def qg:=qd Proofs.Tryz.f6 []
def yv (Γ:Env) (f:Nat):Prop:=∀ (l:List Int),EvN Γ f [.sl 1 (l.map V.int)] (V.bool (decide ((l.length:Int)≤400)))
attribute [local go_sem] zh in
theorem afo {Γ:Env} {f:Nat} (h:Has Γ.P f 6 qg.1.1.ac qg.1.2) :yv Γ f:=by
 intro l
 refine Qb h zsi zcl zcl fun C hC hm=>?_
 subst hC
 simp only [qg,qd,DC.ac]
 refine zgo ?_;repeat' first|exact zt|apply zan|intro hc
 refine Qd _ rfl ?_;simp only [go_sem]
def j4:=qd Proofs.Tryz.f8 []
def xC (Γ:Env) (f:Nat):Prop:=∀ (l:List Int),EvR Γ f [.sl 1 (l.map V.int)] (QO l 0)
theorem ag3 {Γ:Env} {f:Nat} (h:Has Γ.P f 6 j4.1.1.ac j4.1.2) :xC Γ f:=by
 intro l
 refine acM h (by simp) (by simp only [QO,V.closed,Qa,and_self]) fun C hC hm=>?_
 subst hC
 simp only [j4,qd,DC.ac]
 refine zgo ?_;repeat' first|exact zt|apply zan|intro hc
 refine aqG _ rfl rfl (by simp only [QO,V.closed,Qa,and_self])
def XK:=qd Proofs.Tryz.f10 [zhn 14,zhn 10]
def QP (Γ:Env) (f:Nat):Prop:=∀ (l:List Int) (k:Nat) (n:Int) (hl:l.length≤400) (hk:k≤l.length),EvD Γ f [V.int n] (QO l k) (V.int (Jd l k n).1) (QO l (Jd l k n).2)
attribute [local go_sem] QO in
theorem vz {Γ:Env} {f:Nat} (h:Has Γ.P f 35 XK.1.1.ac XK.1.2) (z0:wR Γ 34):QP Γ f:=by
 intro l k n hl hk
 refine QT h zsi zcl zc3 zc3 fun C hC hm=>?_
 subst hC
 simp only [XK,qd,DC.ac]
 by_cases h1:k < l.length
 ·have e1:decide ((k:Int)≥(((l.map V.int).length:Nat):Int)) = false:=by simp;omega
  have hget:l[k]? = some (l.getD k 0):=by simp [zq,ze h1]
  have hw:=Qc (k:=k) (by omega)
  have hw2:IntKind.i64.wrap (((k + 1:Nat):Int) - 1) = (k:Int):=by rw [Q9 (by omega) (by omega)];omega
  have hn:Jd l k n = (aoz (l.getD k 0) n,k + 1):=by rw [Jd,if_pos h1]
  rw [hn]
  (have zx:=za e1 (za hw (za hw2 hget)));refine zgo ?_;repeat' first|exact zt|apply zan|intro hc
  all_goals (refine QB _ rfl rfl zcd ?_;simp only [go_sem])
 ·have e1:decide ((k:Int)≥(((l.map V.int).length:Nat):Int)) = true:=by simp;omega
  have hn:Jd l k n = (0,k):=by rw [Jd,if_neg h1]
  rw [hn]
  (have zx:=e1);refine zgo ?_;repeat' first|exact zt|apply zan|intro hc
  all_goals (refine QB _ rfl rfl zcd ?_;simp only [go_sem])
def ofD (l:List Int) (k:Nat) (xs:List Int):Int×Nat:=(xs.getD (Jd l k xs.length).1.toNat 0,(Jd l k xs.length).2)
theorem ah1 {l:List Int} {k:Nat} {xs:List Int} (h:xs≠[]) (h2:xs.length < 2 ^ 62):(ofD l k xs).1∈xs:=by
 have h1:1≤xs.length:=by cases xs with|nil=>exact (h rfl).elim|cons _ _=>simp
 have:=Ja (l:=l) (k:=k) (n:=xs.length) (by omega) (by omega)
 have hk:(Jd l k xs.length).1.toNat < xs.length:=by omega
 unfold ofD
 simp only [zq,ze hk,Option.getD_some]
 exact zO hk
theorem KP {l:List Int} {k:Nat} {xs:List Int} (hk:k≤l.length):(ofD l k xs).2≤l.length:=Jm hk
def WS:=qd Proofs.Tryz.f68 []
def Yh (Γ:Env) (f:Nat):Prop:=∀ (l:List Int) (k:Nat) (xs:List Int) (hl:l.length≤400) (hk:k≤l.length) (hx:1≤xs.length) (hx2:xs.length < 2 ^ 62),EvD Γ f [.sl 1 (xs.map V.int)] (QO l k) (V.int (ofD l k xs).1) (QO l (ofD l k xs).2)
attribute [local go_sem] zh QO in
theorem abD {Γ:Env} {f:Nat} (h:Has Γ.P f 12 WS.1.1.ac WS.1.2) (z0:QP Γ 10):Yh Γ f:=by
 intro l k xs hl hk hx hx2
 refine QT h zsi zcl zc3 zc3 fun C hC hm=>?_
 subst hC
 simp only [WS,qd,DC.ac]
 have hr:=Ja (l:=l) (k:=k) (n:=xs.length) (by omega) (by omega)
 have hget:xs[(Jd l k xs.length).1.toNat]? = some (ofD l k xs).1:=by
  have hk:(Jd l k xs.length).1.toNat < xs.length:=by omega
  simp [ofD,zq,ze hk]
 have hn:=z0 l k xs.length hl hk
 have e2:QO l (ofD l k xs).2 = QO l (Jd l k xs.length).2:=rfl
 rw [e2]
 simp only [QO] at hn
 (have zx:=hget);refine zgo ?_;repeat' first|exact zt|apply zan|intro hc
 refine QB _ rfl rfl zcd ?_;simp only [go_sem]
def wh (a:Int):List Int :=
 if a = 5∨a = 6∨a = 10∨a = 11 then [2048,1024,512,3072,1023,4096,16384]
 else if a = 7∨a = 12 then [256,160,224,384,521]
 else if a = 9 then [65,44,87]
 else if a = 13 then [768,512,1024]
 else if a = 14 then [128,40]
 else if a = 15 then [168,112]
 else if a = 16∨a = 17 then [128,256]
 else []
def adb (l:List Int) (k:Nat) (a:Int):Int×Nat:=if wh a = [] then (0,k) else ofD l k (wh a)
def j3:=qd Proofs.Tryz.f71 []
def xB (Γ:Env) (f:Nat):Prop:=∀ (l:List Int) (k:Nat) (a:Int) (hl:l.length≤400) (hk:k≤l.length),EvD Γ f [V.int a] (QO l k) (V.int (adb l k a).1) (QO l (adb l k a).2)
attribute [local go_sem] QO in
theorem ag2 {Γ:Env} {f:Nat} (h:Has Γ.P f 46 j3.1.1.ac j3.1.2) (z0:Yh Γ 68):xB Γ f:=by
 intro l k a hl hk
 refine QT h zsi zcl zc3 zc3 fun C hC hm=>?_
 subst hC
 simp only [j3,qd,DC.ac]
 have o1:=z0 l k [2048,1024,512,3072,1023,4096,16384] hl hk (by simp) (by simp)
 have o2:=z0 l k [256,160,224,384,521] hl hk (by simp) (by simp)
 have o3:=z0 l k [65,44,87] hl hk (by simp) (by simp)
 have o4:=z0 l k [768,512,1024] hl hk (by simp) (by simp)
 have o5:=z0 l k [128,40] hl hk (by simp) (by simp)
 have o6:=z0 l k [168,112] hl hk (by simp) (by simp)
 have o7:=z0 l k [128,256] hl hk (by simp) (by simp)
 simp only [QO] at o1 o2 o3 o4 o5 o6 o7
 refine zgo ?_;repeat' first|exact zt|apply zan|intro hc
 all_goals (first|subst hc|skip)
 all_goals first
  | (have es:adb l k 5 = ofD l k [2048,1024,512,3072,1023,4096,16384]:=rfl
     rw [es];refine QB _ rfl rfl zcd ?_;simp only [go_sem];done)
  | (simp only [show ∀ x,adb l k x = if wh x = [] then (0,k) else ofD l k (wh x) from fun _=>rfl]
     simp only [wh,Int.reduceEq,reduceIte,or_self,or_true,or_false,true_or,false_or,reduceCtorEq, *]
     refine QB _ rfl rfl zcd ?_;simp only [go_sem];done)
def Wg:=qd Proofs.Tryz.f15 []
def YG (Γ:Env) (f:Nat):Prop:=∀ (l:List Int) (k:Nat) (n:Int) (hl:l.length≤400) (hk:k≤l.length) (h1:1≤n) (h2:n < 2 ^ 62),EvD Γ f [V.int n] (QO l k) (V.bool ((Jd l k n).1 == n - 1)) (QO l (Jd l k n).2)
attribute [local go_sem] QO in
theorem aaA {Γ:Env} {f:Nat} (h:Has Γ.P f 11 Wg.1.1.ac Wg.1.2) (z0:QP Γ 10):YG Γ f:=by
 intro l k n hl hk h1 h2
 refine QT h zsi zcl zc3 zc3 fun C hC hm=>?_
 subst hC
 simp only [Wg,qd,DC.ac]
 have hn:=z0 l k n hl hk
 have hw:IntKind.i64.wrap (n - 1) = n - 1:=Q9 (by omega) (by omega)
 simp only [QO] at hn
 (have zx:=hw);refine zgo ?_;repeat' first|exact zt|apply zan|intro hc
 refine QB _ rfl rfl zcd ?_;simp only [go_sem]
def Yz (l:List Int) (k:Nat) (xs:List (List UInt8)):List UInt8×Nat:=(xs.getD (Jd l k xs.length).1.toNat [],(Jd l k xs.length).2)
theorem wW {l:List Int} {k:Nat} {xs:List (List UInt8)} (h1:1≤xs.length) (h2:xs.length < 2 ^ 62):(Yz l k xs).1∈xs:=by
 have:=Ja (l:=l) (k:=k) (n:=xs.length) (by omega) (by omega)
 have hk:(Jd l k xs.length).1.toNat < xs.length:=by omega
 unfold Yz
 simp only [zq,ze hk,Option.getD_some]
 exact zO hk
theorem WJ {l:List Int} {k:Nat} {xs:List (List UInt8)} (hk:k≤l.length):(Yz l k xs).2≤l.length:=Jm hk
def XJ:=qd Proofs.Tryz.f12 []
def Yl (Γ:Env) (f:Nat):Prop:=∀ (l:List Int) (k:Nat) (xs:List (List UInt8)) (hl:l.length≤400) (hk:k≤l.length) (hx:1≤xs.length) (hx2:xs.length < 2 ^ 62),EvD Γ f [.sl 1 (xs.map V.str)] (QO l k) (V.str (Yz l k xs).1) (QO l (Yz l k xs).2)
attribute [local go_sem] zh QO in
theorem vy {Γ:Env} {f:Nat} (h:Has Γ.P f 12 XJ.1.1.ac XJ.1.2) (z0:QP Γ 10):Yl Γ f:=by
 intro l k xs hl hk hx hx2
 refine QT h zsi zcl zc3 zc3 fun C hC hm=>?_
 subst hC
 simp only [XJ,qd,DC.ac]
 have hr:=Ja (l:=l) (k:=k) (n:=xs.length) (by omega) (by omega)
 have hget:xs[(Jd l k xs.length).1.toNat]? = some (Yz l k xs).1:=by
  have hk:(Jd l k xs.length).1.toNat < xs.length:=by omega
  simp [Yz,zq,ze hk]
 have hn:=z0 l k xs.length hl hk
 have e2:QO l (Yz l k xs).2 = QO l (Jd l k xs.length).2:=rfl
 rw [e2]
 simp only [QO] at hn
 (have zx:=hget);refine zgo ?_;repeat' first|exact zt|apply zan|intro hc
 refine QB _ rfl rfl zcd ?_;simp only [go_sem]
theorem ao6 (s:List UInt8):(vc s).2 = (QK 43 s).all Xn:=by
 unfold vc;split
 ·rename_i h;rw [h]
 ·rename_i h;simpa using h
structure aeD (s:List UInt8):Prop where
 colon:(58:UInt8) ∉ s
 known:(QK 43 s).all Xn = true
 head:∃ c r,s = c :: r∧c≠45∧c≠33∧c≠43∧c≠64
theorem aeD.sign {s:List UInt8} (h:aeD s):Ye s = (0,s):=by
 obtain ⟨c,r,rfl,h1,h2,h3,_⟩:=h.head
 rw [Ye,if_neg (by simp [h1,h2,h3])]
theorem aeD.ne {s:List UInt8} (h:aeD s):(s == amU) = false:=by
 obtain ⟨c,r,rfl,_,_,_,h4⟩:=h.head
 simp [amU,h4]
theorem aeD.okW {s:List UInt8} (h:aeD s):wordOk s = true:=by rw [Av.wordOk,h.sign,ao6,h.known,kP]
structure ajI (s:List UInt8) (n:Nat):Prop where
 few:s≠[]→(QK 58 s).length≤n
 ok:s≠[]→∀ w∈QK 58 s,wordOk w = true
theorem ajI.app {s t:List UInt8} {n m:Nat} (hs:ajI s n) (ht:ajI t m) (h1:s≠[]) (h2:t≠[]):ajI (s++[58]++t) (n + m):=by
 refine ⟨fun _=>?_,fun _ x hx=>?_⟩
 ·have:=hs.few h1;have:=ht.few h2;rw [ad2];simp;omega
 ·rw [ad2] at hx
  rcases zW.1 hx with hx|hx
  ·exact hs.ok h1 x hx
  ·exact ht.ok h2 x hx
end Av
end
section
namespace Av
open Go
theorem jT (s:List UInt8):(∀ y∈s.map (fun c=>V.sc (.int .u8 c.toNat)),y.cells.length = 1) = True:=eq_true (by simp [V.cells])
end Av
end
noncomputable section
set_option maxRecDepth 10000
set_option maxHeartbeats 4000000
namespace Av
open Go
attribute [local irreducible] AWp Vo Ky jA awS awC aad awQ aaN QL Vq vQ awR Vz awB okR js ris
theorem aa2 {l:List Int} {j:Nat} {x:Int} (hn:l.Nodup) (hg:l[j]? = some x):x ∉ l.take j:=by
 intro h
 obtain ⟨hj,he⟩:=zE.1 hg
 have h2:l.take j++x :: l.drop (j + 1) = l:=by rw [← he,← zM hj,zZ]
 rw [← h2] at hn
 exact (kj.1 hn).2.2 x h x (by simp) rfl
theorem al7:∀ (ws:List (List UInt8)) (i:Nat) (p:akJ),ahj p→(goP ws i p).1.length≤16
 | [],i,p,h=>h.len
 | w :: r,i,p,h=>by
   rw [goP];split
   ·exact al7 r _ _ (aoG w p h)
   ·simp
theorem ajU (s:List UInt8):(Xm s).1.length≤16:=by
 unfold Xm;repeat' split
 all_goals first|exact al7 _ _ _ ali|simp
end Av
end
section
namespace Av
open Go
def LeV (x y:V):Prop:=∀ (w:World) (Z:Nat→Nat→Prop) (μ:Nat→Option Cn) (v:Value),Rep w Z μ v x→Rep w Z μ v y
theorem LeV.refl (x:V):LeV x x:=fun _ _ _ _ h=>h
theorem LeV.nil (sz:Nat):LeV (.sc (.slice none 0 0)) (.sl sz []):=fun _ _ _ _ h=>by cases h;exact .sl0
theorem LeV.agg {xs ys:List V} (hl:xs.length = ys.length) (h:∀ j (h1:j < xs.length) (h2:j < ys.length),LeV xs[j] ys[j]):LeV (.agg xs) (.agg ys):=fun w Z μ v hv=>by
 cases hv with
 | agg h1 h2 h3=>exact .agg (h1.trans hl) h2 fun j hj hj'=>h j (by omega) hj _ _ _ _ (h3 j (by omega) hj')
theorem EvB.le {Γ:Env} {f:FuncId} {args args':List V} {res:V} {B:Option (List Nat)} (h:EvB Γ f args res B) (hl:args'.length = args.length)
  (hr:∀ i (h1:i < args'.length) (h2:i < args.length),LeV args'[i] args[i]):EvB Γ f args' res B :=
 ⟨fun C cargs h1 h2 h3 h4 h5 h6 h7=>h.ev C cargs h1 h2 h3 h4 h5 (h6.trans hl) fun i hi hi'=>hr i (by omega) hi _ _ _ _ (h7 i (by omega) hi'),h.cl,h.sh⟩
section
variable {Γ:Env} {A W:Nat→Bool} {b:Nat} {s:St} {d:Option Nat} {f:FuncId} {acts:List V} {res:V} {J:St→Prop} {cs cs2:List V} {a:Nat}
theorem aq0 (l:List Nat) (hA:A a = true) (hW:W a = true) (ha:s.o a = some (.box true cs)) (h:EvD Γ f (JI (Jl A s.o) acts) cs res cs2) (hc:Qu (Jl A s.o) (some l) acts) (hal:a ∉ l) (hl:∀ x∈l,A x = true∧W x = true) (hab:a < b)
  (hk:J { t:=(s.put d res).t,o:=upd (jM (some l) [a] s.o) a (some (.box true cs2)),n:=s.n }):QL Γ A W b s d f (.ptr a 0 :: acts) J:=by
 have hra:Jl A s.o a = some (.box true cs):=by rw [aak,if_pos hA,ha]
 refine ⟨_,_,_,_,[a],some l,h.ev,⟨?_,J6 _ [a] l ?_ acts hc⟩,⟨⟨_,hra,Qg _ _ _ _ h.c1⟩,trivial⟩,by simp,by grind,zi _,by simp [KK],fun h=>by simp at h,by grind,?_⟩
 ·simp [conv]
 ·grind
 ·rw [Jq _ _ h.cl]
  simp only [Ys,YB,Ob.ren,QU _ _ h.c2]
  exact hk
theorem wM {x:V} {args:List V} {okf:Option (List Nat)→Prop} (ha:s.o a = some (.box true cs)) (hA:A a = true) (hW:W a = true) (h:EvD Γ f args cs res cs2) (hal:(QS acts).contains a = false) (hab:decide (a < b) = true) (hl:((QS acts).all fun x=>A x && W x) = true) (hc:Qu (Jl A s.o) (some (QS acts)) acts)
  (hk:J { t:=(s.put d res).t,o:=upd (jM (some (QS acts)) [a] s.o) a (some (.box true cs2)),n:=s.n }):afE Γ A W b s d f (.ptr a 0 :: acts) (x :: args) okf J:=by
 intro h1 _
 simp only [JI,ke] at h1
 obtain ⟨_,rfl⟩:=h1
 exact aq0 _ hA hW ha h hc (by simpa using hal) (fun x hx=>by simpa using kz.1 hl x hx) (zY hab) hk
end
end Av
end
section
namespace Av
open Go
section
variable {Γ:Env} {b:Nat} {r:List AO} {s:St} {d:Option Nat} {f g:FuncId} {acts args:List V} {okf:Option (List Nat)→Prop} {res x:V} {K:St→Prop} {cs cs2 ds ds2:List V} {a e off:Nat}
end
section
variable {Γ:Env} {b:Nat} {r:List AO} {s:St} {d:Option Nat} {f:FuncId} {acts args:List V} {okf:Option (List Nat)→Prop} {res:V} {K:St→Prop} {xs ys:List V} {a p n sz:Nat}
end
end Av
end
section
namespace Av
open Go
section
variable {Γ:Env} {A W:Nat→Bool} {b:Nat} {r:List AO} {s:St} {d:Option Nat} {f:FuncId} {args:List V} {okf:Option (List Nat)→Prop} {J K:St→Prop} {a p n:Nat} {l t:List UInt8}
end
end Av
end
section
namespace Av
open Go
theorem Ev.shut {Γ:Env} {f:FuncId} {args:List V} {ins:List Ob} {res res2:V} {outs outs2:List Ob} {br:List Nat} {B:Option (List Nat)} (h:Ev Γ f args ins res outs)
  (hc:conv (fun k=>outs[k]?) br B res res2) (hl:ane (fun k=>outs[k]?) br B br outs2) (hn:br.Nodup) (hf:br.take ins.length = List.range ins.length):Ev Γ f args ins res2 outs2:=by
 intro C cargs hP hm hmu hg hF hsz hrep
 refine (h C cargs hP hm hmu hg hF hsz hrep).mono ?_
 rintro e w' ⟨v,Z',μ',rfl,hr,hg',hmu'⟩
 obtain ⟨g2,h2,_⟩:=hg'.close hn hl (by rw [hm];exact hf)
 exact ⟨v,_,_,rfl,VO hg' br B _ _ _ _ (zi _) hr hc,g2,h2⟩
structure EvO (Γ:Env) (f:FuncId) (args cs:List V) (s1 s2:Nat) (xs ys cs2:List V):Prop where
 ev:Ev Γ f (.ptr 0 0 :: args) [.box true cs] (.agg [.hd 1 0 xs.length,.hd 2 0 ys.length]) [.box true cs2,.buf true s1 xs,.buf true s2 ys]
 c1:Qa cs
 c2:Qa cs2
 ca:Qa args
theorem EvO.d {Γ:Env} {f:FuncId} {args cs:List V} {s1 s2:Nat} {xs ys cs2:List V} (h:EvO Γ f args cs s1 s2 xs ys cs2):EvD Γ f args cs (.agg [.sl s1 xs,.sl s2 ys]) cs2:=by
 refine ⟨h.ev.shut (br:=[0]) (B:=none) ?_ ⟨⟨_,rfl,fun h=>h,Qg _ _ _ _ h.c2⟩,trivial⟩ (by simp) rfl,?_,h.c1,h.c2⟩
 ·simp [conv,Qz,okB]
 ·simp only [V.closed,Qa,and_self]
section
variable {Γ:Env} {b:Nat} {r:List AO} {s:St} {d:Option Nat} {f:FuncId} {args acts:List V} {cs cs2 xs ys:List V} {s1 s2:Nat} {K:St→Prop} {okf:Option (List Nat)→Prop} {a:Nat}
end
end Av
end
section
namespace Av
open Go
end Av
end
section
namespace Av
open Go
def arT (a:Nat):V→V
 | .ptr _ _=>.ptr a 0
 | v=>v
attribute [go_sem] arT
section
variable {Γ:Env} {A W:Nat→Bool} {b:Nat} {s:St} {d:Option Nat} {f:FuncId} {acts args:List V} {okf:Option (List Nat)→Prop} {J:St→Prop} {a p n:Nat}
theorem aiy {cs:List V} (h:EvR Γ f args cs) (hl:((QS acts).all fun x=>A x && W x) = true) (hc:Qu (Jl A s.o) (some (QS acts)) acts)
  (hk:J { t:=(s.put d (.ptr b 0)).t,o:=upd (jM (some (QS acts)) [] s.o) b (some (.box true cs)),n:=s.n }):afE Γ A W b s d f acts args okf J:=by
 rintro rfl _
 refine ⟨_,_,_,_,[],some (QS acts),h.ev,Jv _ _ _ hc,trivial,zT,by grind,by simp,by simp [KK],fun h=>by simp at h,by grind,?_⟩
 simp only [Ys,YB,Ob.ren,QU _ _ h.c1]
 exact hk
end
section
variable {Γ:Env} {A W:Nat→Bool} {b:Nat} {r:List AO} {s:St} {d:Option Nat} {f:FuncId} {acts args:List V} {okf:Option (List Nat)→Prop} {J K:St→Prop} {sx:Nat} {xs:List V}
end
end Av
end
