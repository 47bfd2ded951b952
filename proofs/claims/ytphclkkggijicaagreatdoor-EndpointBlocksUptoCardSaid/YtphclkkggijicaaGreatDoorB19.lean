/- Slices of bytes. -/
import Derived.Test.YtphclkkggijicaaGreatDoorB12
import Derived.Test.YtphclkkggijicaaGreatDoorB14
import Derived.Test.YtphclkkggijicaaGreatDoorB17
import Derived.Test.YtphclkkggijicaaGreatDoorB18
set_option linter.unusedVariables false
set_option linter.unusedSimpArgs false
noncomputable section
set_option maxRecDepth 10000
set_option maxHeartbeats 4000000
namespace Av
open Go
attribute [local irreducible] AWp W7 Kx jy awS awC vE awQ aay QP W6 vu awR Vn awB okR jx ris
def QQ (l:List Int) (k:Nat):List V:=[.sl 1 (l.map V.int),V.int k]
theorem Qh (l:List Int) (k:Nat):Qa (QQ l k):=by simp only [QQ,V.closed,Qa,and_self]
def QR (l:List Int) (k:Nat) (n:Int):Int×Nat:=if k < l.length then (apf (l.getD k 0) n,k + 1) else (0,k)
theorem QS {l:List Int} {k:Nat} {n:Int} (hk:k≤l.length):(QR l k n).2≤l.length:=by
 unfold QR;split
 ·show k + 1≤l.length;omega
 ·exact hk
theorem akJ {a n:Int} (h1:1≤n) (h2:n < 2 ^ 62):0≤apf a n∧apf a n < n:=by
 unfold apf
 rw [if_neg (by omega)]
 have ha:=Int.tmod_lt_of_pos a (show 0 < n by omega)
 have hb:-n < a.tmod n:=by
  have:=Int.tmod_lt_of_pos (-a) (show 0 < n by omega)
  rw [Int.neg_tmod] at this;omega
 rw [Jc (by omega) (by omega)]
 exact ⟨Int.tmod_nonneg _ (by omega),Int.tmod_lt_of_pos _ (by omega)⟩
theorem Q4 {l:List Int} {k:Nat} {n:Int} (h1:1≤n) (h2:n < 2 ^ 62):0≤(QR l k n).1∧(QR l k n).1 < n:=by
 unfold QR;split
 ·exact akJ h1 h2
 ·show (0:Int)≤0∧(0:Int) < n;omega
def qB:=qd Proofs.Tryz.f6 []
def yP (Γ:Env) (f:Nat):Prop:=∀ (l:List Int),EvN Γ f [.sl 1 (l.map V.int)] (V.bool (decide ((l.length:Int)≤400)))
attribute [local go_sem] zh in
theorem afR {Γ:Env} {f:Nat} (h:Has Γ.P f 6 qB.1.1.ac qB.1.2) :yP Γ f:=by
 intro l
 refine Qb h zsi zcl zcl fun C hC hm=>?_
 subst hC
 simp only [qB,qd,DC.ac]
 refine zgo ?_;repeat' first|exact zt|apply zan|intro hc
 refine Qf _ rfl ?_;simp only [go_sem]
def yo:=qd Proofs.Tryz.f8 []
def wd (Γ:Env) (f:Nat):Prop:=∀ (l:List Int),EvR Γ f [.sl 1 (l.map V.int)] (QQ l 0)
theorem ahx {Γ:Env} {f:Nat} (h:Has Γ.P f 6 yo.1.1.ac yo.1.2) :wd Γ f:=by
 intro l
 refine adg h (by simp) (by simp only [QQ,V.closed,Qa,and_self]) fun C hC hm=>?_
 subst hC
 simp only [yo,qd,DC.ac]
 refine zgo ?_;repeat' first|exact zt|apply zan|intro hc
 refine arm _ rfl rfl (by simp only [QQ,V.closed,Qa,and_self])
def X2:=qd Proofs.Tryz.f10 [zhn 14,zhn 10]
def QX (Γ:Env) (f:Nat):Prop:=∀ (l:List Int) (k:Nat) (n:Int) (hl:l.length≤400) (hk:k≤l.length),EvD Γ f [V.int n] (QQ l k) (V.int (QR l k n).1) (QQ l (QR l k n).2)
attribute [local go_sem] QQ in
theorem aaf {Γ:Env} {f:Nat} (h:Has Γ.P f 35 X2.1.1.ac X2.1.2) (z0:vz Γ 34):QX Γ f:=by
 intro l k n hl hk
 refine Q5 h zsi zcl zc3 zc3 fun C hC hm=>?_
 subst hC
 simp only [X2,qd,DC.ac]
 by_cases h1:k < l.length
 ·have e1:decide ((k:Int)≥(((l.map V.int).length:Nat):Int)) = false:=by simp;omega
  have hget:l[k]? = some (l.getD k 0):=by simp [zo,zf h1]
  have hw:=Qd (k:=k) (by omega)
  have hw2:IntKind.i64.wrap (((k + 1:Nat):Int) - 1) = (k:Int):=by rw [Jc (by omega) (by omega)];omega
  have hn:QR l k n = (apf (l.getD k 0) n,k + 1):=by rw [QR,if_pos h1]
  rw [hn]
  (have zx:=za e1 (za hw (za hw2 hget)));refine zgo ?_;repeat' first|exact zt|apply zan|intro hc
  all_goals (refine QG _ rfl rfl zcd ?_;simp only [go_sem])
 ·have e1:decide ((k:Int)≥(((l.map V.int).length:Nat):Int)) = true:=by simp;omega
  have hn:QR l k n = (0,k):=by rw [QR,if_neg h1]
  rw [hn]
  (have zx:=e1);refine zgo ?_;repeat' first|exact zt|apply zan|intro hc
  all_goals (refine QG _ rfl rfl zcd ?_;simp only [go_sem])
def ofD (l:List Int) (k:Nat) (xs:List Int):Int×Nat:=(xs.getD (QR l k xs.length).1.toNat 0,(QR l k xs.length).2)
theorem aiD {l:List Int} {k:Nat} {xs:List Int} (h:xs≠[]) (h2:xs.length < 2 ^ 62):(ofD l k xs).1∈xs:=by
 have h1:1≤xs.length:=by cases xs with|nil=>exact (h rfl).elim|cons _ _=>simp
 have:=Q4 (l:=l) (k:=k) (n:=xs.length) (by omega) (by omega)
 have hk:(QR l k xs.length).1.toNat < xs.length:=by omega
 unfold ofD
 simp only [zo,zf hk,Option.getD_some]
 exact zN hk
theorem qe {l:List Int} {k:Nat} {xs:List Int} (hk:k≤l.length):(ofD l k xs).2≤l.length:=QS hk
def Vh:=qd Proofs.Tryz.f68 []
def Yr (Γ:Env) (f:Nat):Prop:=∀ (l:List Int) (k:Nat) (xs:List Int) (hl:l.length≤400) (hk:k≤l.length) (hx:1≤xs.length) (hx2:xs.length < 2 ^ 62),EvD Γ f [.sl 1 (xs.map V.int)] (QQ l k) (V.int (ofD l k xs).1) (QQ l (ofD l k xs).2)
attribute [local go_sem] zh QQ in
theorem ab3 {Γ:Env} {f:Nat} (h:Has Γ.P f 12 Vh.1.1.ac Vh.1.2) (z0:QX Γ 10):Yr Γ f:=by
 intro l k xs hl hk hx hx2
 refine Q5 h zsi zcl zc3 zc3 fun C hC hm=>?_
 subst hC
 simp only [Vh,qd,DC.ac]
 have hr:=Q4 (l:=l) (k:=k) (n:=xs.length) (by omega) (by omega)
 have hget:xs[(QR l k xs.length).1.toNat]? = some (ofD l k xs).1:=by
  have hk:(QR l k xs.length).1.toNat < xs.length:=by omega
  simp [ofD,zo,zf hk]
 have hn:=z0 l k xs.length hl hk
 have e2:QQ l (ofD l k xs).2 = QQ l (QR l k xs.length).2:=rfl
 rw [e2]
 simp only [QQ] at hn
 (have zx:=hget);refine zgo ?_;repeat' first|exact zt|apply zan|intro hc
 refine QG _ rfl rfl zcd ?_;simp only [go_sem]
def wS (a:Int):List Int :=
 if a = 5∨a = 6∨a = 10∨a = 11 then [2048,1024,512,3072,1023,4096,16384]
 else if a = 7∨a = 12 then [256,160,224,384,521]
 else if a = 9 then [65,44,87]
 else if a = 13 then [768,512,1024]
 else if a = 14 then [128,40]
 else if a = 15 then [168,112]
 else if a = 16∨a = 17 then [128,256]
 else []
def adH (l:List Int) (k:Nat) (a:Int):Int×Nat:=if wS a = [] then (0,k) else ofD l k (wS a)
def ym:=qd Proofs.Tryz.f71 []
def wc (Γ:Env) (f:Nat):Prop:=∀ (l:List Int) (k:Nat) (a:Int) (hl:l.length≤400) (hk:k≤l.length),EvD Γ f [V.int a] (QQ l k) (V.int (adH l k a).1) (QQ l (adH l k a).2)
attribute [local go_sem] QQ in
theorem ahw {Γ:Env} {f:Nat} (h:Has Γ.P f 46 ym.1.1.ac ym.1.2) (z0:Yr Γ 68):wc Γ f:=by
 intro l k a hl hk
 refine Q5 h zsi zcl zc3 zc3 fun C hC hm=>?_
 subst hC
 simp only [ym,qd,DC.ac]
 have o1:=z0 l k [2048,1024,512,3072,1023,4096,16384] hl hk (by simp) (by simp)
 have o2:=z0 l k [256,160,224,384,521] hl hk (by simp) (by simp)
 have o3:=z0 l k [65,44,87] hl hk (by simp) (by simp)
 have o4:=z0 l k [768,512,1024] hl hk (by simp) (by simp)
 have o5:=z0 l k [128,40] hl hk (by simp) (by simp)
 have o6:=z0 l k [168,112] hl hk (by simp) (by simp)
 have o7:=z0 l k [128,256] hl hk (by simp) (by simp)
 simp only [QQ] at o1 o2 o3 o4 o5 o6 o7
 refine zgo ?_;repeat' first|exact zt|apply zan|intro hc
 all_goals (first|subst hc|skip)
 all_goals first
  | (have es:adH l k 5 = ofD l k [2048,1024,512,3072,1023,4096,16384]:=rfl
     rw [es];refine QG _ rfl rfl zcd ?_;simp only [go_sem];done)
  | (simp only [show ∀ x,adH l k x = if wS x = [] then (0,k) else ofD l k (wS x) from fun _=>rfl]
     simp only [wS,Int.reduceEq,reduceIte,or_self,or_true,or_false,true_or,false_or,reduceCtorEq, *]
     refine QG _ rfl rfl zcd ?_;simp only [go_sem];done)
def Ww:=qd Proofs.Tryz.f15 []
def YQ (Γ:Env) (f:Nat):Prop:=∀ (l:List Int) (k:Nat) (n:Int) (hl:l.length≤400) (hk:k≤l.length) (h1:1≤n) (h2:n < 2 ^ 62),EvD Γ f [V.int n] (QQ l k) (V.bool ((QR l k n).1 == n - 1)) (QQ l (QR l k n).2)
attribute [local go_sem] QQ in
theorem aa4 {Γ:Env} {f:Nat} (h:Has Γ.P f 11 Ww.1.1.ac Ww.1.2) (z0:QX Γ 10):YQ Γ f:=by
 intro l k n hl hk h1 h2
 refine Q5 h zsi zcl zc3 zc3 fun C hC hm=>?_
 subst hC
 simp only [Ww,qd,DC.ac]
 have hn:=z0 l k n hl hk
 have hw:IntKind.i64.wrap (n - 1) = n - 1:=Jc (by omega) (by omega)
 simp only [QQ] at hn
 (have zx:=hw);refine zgo ?_;repeat' first|exact zt|apply zan|intro hc
 refine QG _ rfl rfl zcd ?_;simp only [go_sem]
def XA (l:List Int) (k:Nat) (xs:List (List UInt8)):List UInt8×Nat:=(xs.getD (QR l k xs.length).1.toNat [],(QR l k xs.length).2)
theorem acs {l:List Int} {k:Nat} {xs:List (List UInt8)} (h1:1≤xs.length) (h2:xs.length < 2 ^ 62):(XA l k xs).1∈xs:=by
 have:=Q4 (l:=l) (k:=k) (n:=xs.length) (by omega) (by omega)
 have hk:(QR l k xs.length).1.toNat < xs.length:=by omega
 unfold XA
 simp only [zo,zf hk,Option.getD_some]
 exact zN hk
theorem K5 {l:List Int} {k:Nat} {xs:List (List UInt8)} (hk:k≤l.length):(XA l k xs).2≤l.length:=QS hk
def X1:=qd Proofs.Tryz.f12 []
def Yy (Γ:Env) (f:Nat):Prop:=∀ (l:List Int) (k:Nat) (xs:List (List UInt8)) (hl:l.length≤400) (hk:k≤l.length) (hx:1≤xs.length) (hx2:xs.length < 2 ^ 62),EvD Γ f [.sl 1 (xs.map V.str)] (QQ l k) (V.str (XA l k xs).1) (QQ l (XA l k xs).2)
attribute [local go_sem] zh QQ in
theorem aae {Γ:Env} {f:Nat} (h:Has Γ.P f 12 X1.1.1.ac X1.1.2) (z0:QX Γ 10):Yy Γ f:=by
 intro l k xs hl hk hx hx2
 refine Q5 h zsi zcl zc3 zc3 fun C hC hm=>?_
 subst hC
 simp only [X1,qd,DC.ac]
 have hr:=Q4 (l:=l) (k:=k) (n:=xs.length) (by omega) (by omega)
 have hget:xs[(QR l k xs.length).1.toNat]? = some (XA l k xs).1:=by
  have hk:(QR l k xs.length).1.toNat < xs.length:=by omega
  simp [XA,zo,zf hk]
 have hn:=z0 l k xs.length hl hk
 have e2:QQ l (XA l k xs).2 = QQ l (QR l k xs.length).2:=rfl
 rw [e2]
 simp only [QQ] at hn
 (have zx:=hget);refine zgo ?_;repeat' first|exact zt|apply zan|intro hc
 refine QG _ rfl rfl zcd ?_;simp only [go_sem]
theorem apK (s:List UInt8):(vM s).2 = (QU 43 s).all XF:=by
 unfold vM;split
 ·rename_i h;rw [h]
 ·rename_i h;simpa using h
structure ae5 (s:List UInt8):Prop where
 colon:(58:UInt8) ∉ s
 known:(QU 43 s).all XF = true
 head:∃ c r,s = c :: r∧c≠45∧c≠33∧c≠43∧c≠64
theorem ae5.sign {s:List UInt8} (h:ae5 s):Yn s = (0,s):=by
 obtain ⟨c,r,rfl,h1,h2,h3,_⟩:=h.head
 rw [Yn,if_neg (by simp [h1,h2,h3])]
theorem ae5.ne {s:List UInt8} (h:ae5 s):(s == anr) = false:=by
 obtain ⟨c,r,rfl,_,_,_,h4⟩:=h.head
 simp [anr,h4]
theorem ae5.okW {s:List UInt8} (h:ae5 s):wordOk s = true:=by rw [Av.wordOk,h.sign,apK,h.known,kR]
structure akh (s:List UInt8) (n:Nat):Prop where
 few:s≠[]→(QU 58 s).length≤n
 ok:s≠[]→∀ w∈QU 58 s,wordOk w = true
theorem akh.app {s t:List UInt8} {n m:Nat} (hs:akh s n) (ht:akh t m) (h1:s≠[]) (h2:t≠[]):akh (s++[58]++t) (n + m):=by
 refine ⟨fun _=>?_,fun _ x hx=>?_⟩
 ·have:=hs.few h1;have:=ht.few h2;rw [aew];simp;omega
 ·rw [aew] at hx
  rcases zX.1 hx with hx|hx
  ·exact hs.ok h1 x hx
  ·exact ht.ok h2 x hx
end Av
end
section
namespace Av
open Go
theorem j9 (s:List UInt8):(∀ y∈s.map (fun c=>V.sc (.int .u8 c.toNat)),y.cells.length = 1) = True:=eq_true (by simp [V.cells])
end Av
end
noncomputable section
set_option maxRecDepth 10000
set_option maxHeartbeats 4000000
namespace Av
open Go
attribute [local irreducible] AWp W7 Kx jy awS awC vE awQ aay QP W6 vu awR Vn awB okR jx ris
theorem agX {l:List Int} {j:Nat} {x:Int} (hn:l.Nodup) (hg:l[j]? = some x):x ∉ l.take j:=by
 intro h
 obtain ⟨hj,he⟩:=zE.1 hg
 have h2:l.take j++x :: l.drop (j + 1) = l:=by rw [← he,← zQ hj,zR]
 rw [← h2] at hn
 exact (kp.1 hn).2.2 x h x (by simp) rfl
theorem amF:∀ (ws:List (List UInt8)) (i:Nat) (p:alj),ahR p→(goP ws i p).1.length≤16
 | [],i,p,h=>h.len
 | w :: r,i,p,h=>by
   rw [goP];split
   ·exact amF r _ _ (apl w p h)
   ·simp
theorem akt (s:List UInt8):(XE s).1.length≤16:=by
 unfold XE;repeat' split
 all_goals first|exact amF _ _ _ alS|simp
end Av
end
section
namespace Av
open Go
def LeV (x y:V):Prop:=∀ (w:World) (Z:Nat→Nat→Prop) (μ:Nat→Option Cn) (v:Value),Rep w Z μ v x→Rep w Z μ v y
theorem LeV.refl (x:V):LeV x x:=fun _ _ _ _ h=>h
theorem LeV.nil (sz:Nat):LeV (.sc (.slice none 0 0)) (.sl sz []):=fun _ _ _ _ h=>by cases h;exact .sl0
theorem LeV.agg {xs ys:List V} (hl:xs.length = ys.length) (h:∀ j (h1:j < xs.length) (h2:j < ys.length),LeV xs[j] ys[j]):LeV (.agg xs) (.agg ys):=fun w Z μ v hv=>by
 cases hv with
 | agg h1 h2 h3=>exact .agg (h1.trans hl) h2 fun j hj hj'=>h j (by omega) hj _ _ _ _ (h3 j (by omega) hj')
theorem EvB.le {Γ:Env} {f:FuncId} {args args':List V} {res:V} {B:Option (List Nat)} (h:EvB Γ f args res B) (hl:args'.length = args.length)
  (hr:∀ i (h1:i < args'.length) (h2:i < args.length),LeV args'[i] args[i]):EvB Γ f args' res B :=
 ⟨fun C cargs h1 h2 h3 h4 h5 h6 h7=>h.ev C cargs h1 h2 h3 h4 h5 (h6.trans hl) fun i hi hi'=>hr i (by omega) hi _ _ _ _ (h7 i (by omega) hi'),h.cl,h.sh⟩
section
variable {Γ:Env} {A W:Nat→Bool} {b:Nat} {s:St} {d:Option Nat} {f:FuncId} {acts:List V} {res:V} {J:St→Prop} {cs cs2:List V} {a:Nat}
theorem arI (l:List Nat) (hA:A a = true) (hW:W a = true) (ha:s.o a = some (.box true cs)) (h:EvD Γ f (JH (Jt A s.o) acts) cs res cs2) (hc:Qu (Jt A s.o) (some l) acts) (hal:a ∉ l) (hl:∀ x∈l,A x = true∧W x = true) (hab:a < b)
  (hk:J { t:=(s.put d res).t,o:=upd (j3 (some l) [a] s.o) a (some (.box true cs2)),n:=s.n }):QP Γ A W b s d f (.ptr a 0 :: acts) J:=by
 have hra:Jt A s.o a = some (.box true cs):=by rw [aaQ,if_pos hA,ha]
 refine ⟨_,_,_,_,[a],some l,h.ev,⟨?_,Yd _ [a] l ?_ acts hc⟩,⟨⟨_,hra,Qc _ _ _ _ h.c1⟩,trivial⟩,by simp,by grind,zi _,by simp [KK],fun h=>by simp at h,by grind,?_⟩
 ·simp [conv]
 ·grind
 ·rw [Jx _ _ h.cl]
  simp only [YD,YK,Ob.ren,Q0 _ _ h.c2]
  exact hk
theorem Ye {x:V} {args:List V} {okf:Option (List Nat)→Prop} (ha:s.o a = some (.box true cs)) (hA:A a = true) (hW:W a = true) (h:EvD Γ f args cs res cs2) (hal:(Q3 acts).contains a = false) (hab:decide (a < b) = true) (hl:((Q3 acts).all fun x=>A x && W x) = true) (hc:Qu (Jt A s.o) (some (Q3 acts)) acts)
  (hk:J { t:=(s.put d res).t,o:=upd (j3 (some (Q3 acts)) [a] s.o) a (some (.box true cs2)),n:=s.n }):af8 Γ A W b s d f (.ptr a 0 :: acts) (x :: args) okf J:=by
 intro h1 _
 simp only [JH,ke] at h1
 obtain ⟨_,rfl⟩:=h1
 exact arI _ hA hW ha h hc (by simpa using hal) (fun x hx=>by simpa using kB.1 hl x hx) (zZ hab) hk
end
end Av
end
section
namespace Av
open Go
section
variable {Γ:Env} {b:Nat} {r:List AO} {s:St} {d:Option Nat} {f g:FuncId} {acts args:List V} {okf:Option (List Nat)→Prop} {res x:V} {K:St→Prop} {cs cs2 ds ds2:List V} {a e off:Nat}
end
section
variable {Γ:Env} {b:Nat} {r:List AO} {s:St} {d:Option Nat} {f:FuncId} {acts args:List V} {okf:Option (List Nat)→Prop} {res:V} {K:St→Prop} {xs ys:List V} {a p n sz:Nat}
end
end Av
end
section
namespace Av
open Go
section
variable {Γ:Env} {A W:Nat→Bool} {b:Nat} {r:List AO} {s:St} {d:Option Nat} {f:FuncId} {args:List V} {okf:Option (List Nat)→Prop} {J K:St→Prop} {a p n:Nat} {l t:List UInt8}
end
end Av
end
section
namespace Av
open Go
theorem Ev.shut {Γ:Env} {f:FuncId} {args:List V} {ins:List Ob} {res res2:V} {outs outs2:List Ob} {br:List Nat} {B:Option (List Nat)} (h:Ev Γ f args ins res outs)
  (hc:conv (fun k=>outs[k]?) br B res res2) (hl:anM (fun k=>outs[k]?) br B br outs2) (hn:br.Nodup) (hf:br.take ins.length = List.range ins.length):Ev Γ f args ins res2 outs2:=by
 intro C cargs hP hm hmu hg hF hsz hrep
 refine (h C cargs hP hm hmu hg hF hsz hrep).mono ?_
 rintro e w' ⟨v,Z',μ',rfl,hr,hg',hmu'⟩
 obtain ⟨g2,h2,_⟩:=hg'.close hn hl (by rw [hm];exact hf)
 exact ⟨v,_,_,rfl,Ug hg' br B _ _ _ _ (zi _) hr hc,g2,h2⟩
structure EvO (Γ:Env) (f:FuncId) (args cs:List V) (s1 s2:Nat) (xs ys cs2:List V):Prop where
 ev:Ev Γ f (.ptr 0 0 :: args) [.box true cs] (.agg [.hd 1 0 xs.length,.hd 2 0 ys.length]) [.box true cs2,.buf true s1 xs,.buf true s2 ys]
 c1:Qa cs
 c2:Qa cs2
 ca:Qa args
theorem EvO.d {Γ:Env} {f:FuncId} {args cs:List V} {s1 s2:Nat} {xs ys cs2:List V} (h:EvO Γ f args cs s1 s2 xs ys cs2):EvD Γ f args cs (.agg [.sl s1 xs,.sl s2 ys]) cs2:=by
 refine ⟨h.ev.shut (br:=[0]) (B:=none) ?_ ⟨⟨_,rfl,fun h=>h,Qc _ _ _ _ h.c2⟩,trivial⟩ (by simp) rfl,?_,h.c1,h.c2⟩
 ·simp [conv,QE,okB]
 ·simp only [V.closed,Qa,and_self]
section
variable {Γ:Env} {b:Nat} {r:List AO} {s:St} {d:Option Nat} {f:FuncId} {args acts:List V} {cs cs2 xs ys:List V} {s1 s2:Nat} {K:St→Prop} {okf:Option (List Nat)→Prop} {a:Nat}
end
end Av
end
section
namespace Av
open Go
end Av
end
section
namespace Av
open Go
def asC (a:Nat):V→V
 | .ptr _ _=>.ptr a 0
 | v=>v
attribute [go_sem] asC
section
variable {Γ:Env} {A W:Nat→Bool} {b:Nat} {s:St} {d:Option Nat} {f:FuncId} {acts args:List V} {okf:Option (List Nat)→Prop} {J:St→Prop} {a p n:Nat}
theorem Y5 {cs:List V} (h:EvR Γ f args cs) (hl:((Q3 acts).all fun x=>A x && W x) = true) (hc:Qu (Jt A s.o) (some (Q3 acts)) acts)
  (hk:J { t:=(s.put d (.ptr b 0)).t,o:=upd (j3 (some (Q3 acts)) [] s.o) b (some (.box true cs)),n:=s.n }):af8 Γ A W b s d f acts args okf J:=by
 rintro rfl _
 refine ⟨_,_,_,_,[],some (Q3 acts),h.ev,JC _ _ _ hc,trivial,zV,by grind,by simp,by simp [KK],fun h=>by simp at h,by grind,?_⟩
 simp only [YD,YK,Ob.ren,Q0 _ _ h.c1]
 exact hk
end
section
variable {Γ:Env} {A W:Nat→Bool} {b:Nat} {r:List AO} {s:St} {d:Option Nat} {f:FuncId} {acts args:List V} {okf:Option (List Nat)→Prop} {J K:St→Prop} {sx:Nat} {xs:List V}
end
end Av
end
